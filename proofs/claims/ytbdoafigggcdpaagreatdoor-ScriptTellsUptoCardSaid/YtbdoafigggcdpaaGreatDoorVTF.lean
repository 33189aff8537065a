/- The walk of the document's Tell: an answer's words, joined. No condition of ours. -/
import Derived.Test.YtbdoafigggcdpaaGreatDoorVTE
namespace Go.Proofs.YtbdoafigggcdpaaGreatDoor.PScr
open Go.RowKit Go.Proofs.YtbdoafigggcdpaaGreatDoorW.PrintWords Go.Proofs.YtbdoafigggcdpaaGreatDoorW.PrintLast Go.Proofs.YtbdoafigggcdpaaGreatDoorW.PrintMore
set_option linter.unusedVariables false
set_option linter.unusedSimpArgs false

theorem joined_snoc (ws : List ByteArray) (u : ByteArray) (h : ws ≠ []) : joined (ws ++ [u]) = joined ws ++ (⟨#[32]⟩ ++ u) := by
  cases ws with
  | nil => exact absurd rfl h
  | cons v us => rw [List.cons_append, ← glue_joined, glue_snoc, glue_joined]
/-- words that aren't too long -/
def Sm (ws : List ByteArray) : Prop := ws ≠ [] ∧ ∀ x ∈ ws, x.size ≤ 2000000
theorem joined_le (ws : List ByteArray) (h : Sm ws) : (joined ws).size ≤ ws.length * 2000001 := by
  have e : (joined ws).size = (Lib.join (ws.map (·.data.toList)) [32]).length := by unfold joined; show (List.toArray _).size = _; simp
  rw [e]
  obtain ⟨h0, h1⟩ := h
  cases ws with
  | nil => exact absurd rfl h0
  | cons x r =>
    have := lens_le 2000000 (x :: r) h1
    rw [List.map_cons, Lib.join_length]
    rw [List.map_cons] at this
    simp only [List.length_map, List.length_cons, List.length_nil] at this ⊢
    omega
theorem Sm.snoc {ws : List ByteArray} (h : Sm ws) {u : ByteArray} (hu : u.size ≤ 2000000) : Sm (ws ++ [u]) :=
  ⟨by simp, fun x hx => by
    rcases List.mem_append.1 hx with hx | hx
    · exact h.2 x hx
    · rw [List.mem_singleton.1 hx]; exact hu⟩
theorem Sm.app {ws us : List ByteArray} (h : Sm ws) (hu : ∀ x ∈ us, x.size ≤ 2000000) : Sm (ws ++ us) :=
  ⟨by have := h.1; simp [this], fun x hx => by
    rcases List.mem_append.1 hx with hx | hx
    · exact h.2 x hx
    · exact hu x hx⟩
theorem sm_map {α : Type} (f : α → ByteArray) (hf : ∀ x, (f x).size ≤ 1000) (l : List α) : ∀ x ∈ l.map f, x.size ≤ 2000000 := fun x hx => by
  obtain ⟨y, _, rfl⟩ := List.mem_map.1 hx
  have := hf y
  omega
theorem sgnW_size (b : Bool) : (sgnW b).size = 1 := by cases b <;> rfl
theorem sm_ent (l : List S55) (h : ∀ x ∈ l, numIn x.f0) : ∀ x ∈ l.flatMap entW, x.size ≤ 2000000 := fun x hx => by
  obtain ⟨y, hy, hx⟩ := List.mem_flatMap.1 hx
  unfold entW at hx
  rcases List.mem_cons.1 hx with rfl | hx
  · have := itoaB_size2 _ (h y hy); omega
  · rw [List.mem_singleton.1 hx, ByteArray.size_append, sgnW_size]
    have := tupW_size y.f1.f0
    omega
theorem sm_num (l : List Int) (h : ∀ x ∈ l, numIn x) : ∀ x ∈ l.map itoaB, x.size ≤ 2000000 := fun x hx => by
  obtain ⟨y, hy, rfl⟩ := List.mem_map.1 hx
  have := itoaB_size2 _ (h y hy); omega
/-- the state of the document's Tell -/
structure RefSt (w wx : World) (box : Array Value) : Prop where
  bx : wx.heap[w.heap.size]? = some (.cells box 46 (0, 0))
  below : Below w.heap.size w wx
theorem RefSt.step {w wx w' : World} {box : Array Value} (h : RefSt w wx box) (hb : Below wx.heap.size wx w') : RefSt w w' box :=
  ⟨blk_below h.bx hb, below_step h.below hb⟩
theorem err_keep {w w1 w' : World} {box : Array Value} {a b : Int} (hb : Below w1.heap.size w1 w') (h : w1.cell? ⟨w.heap.size, 0, none⟩ = some (.int .i64 a) ∧ w1.cell? ⟨w.heap.size, 1, none⟩ = some (.int .i64 b) ∧ Aside0 (RefSt w w1 box)) : w'.cell? ⟨w.heap.size, 0, none⟩ = some (.int .i64 a) ∧ w'.cell? ⟨w.heap.size, 1, none⟩ = some (.int .i64 b) ∧ Aside0 (RefSt w w' box) := ⟨below_cell0 hb h.1, below_cell0 hb h.2.1, ⟨h.2.2.out.step hb⟩⟩
theorem err_join (a b : ByteArray) : ((⟨#[101, 114, 114, 111, 114, 32]⟩ : ByteArray) ++ a ++ ⟨#[32]⟩ ++ b) = joined [⟨#[101, 114, 114, 111, 114]⟩, a, b] := by
  rw [show ([⟨#[101, 114, 114, 111, 114]⟩, a, b] : List ByteArray) = [⟨#[101, 114, 114, 111, 114]⟩, a] ++ [b] from rfl, joined_snoc _ _ (by simp), show ([⟨#[101, 114, 114, 111, 114]⟩, a] : List ByteArray) = [⟨#[101, 114, 114, 111, 114]⟩] ++ [a] from rfl, joined_snoc _ _ (by simp)]
  refine ba_ext ?_
  have e : (joined [⟨#[101, 114, 114, 111, 114]⟩]).data.toList = (⟨#[101, 114, 114, 111, 114]⟩ : ByteArray).data.toList := by rw [join_cons, if_pos rfl]
  simp only [ByteArray.data_append, Array.toList_append, e]
  simp

theorem sm_ids (l : List ByteArray) (h : ∀ x ∈ l, x.size ≤ 1500000) : ∀ x ∈ l, x.size ≤ 2000000 := fun x hx => by have := h x hx; omega
theorem sm_ite {c : Prop} [Decidable c] {a b : List ByteArray} (ha : ∀ x ∈ a, x.size ≤ 2000000) (hb : ∀ x ∈ b, x.size ≤ 2000000) : ∀ x ∈ (if c then a else b), x.size ≤ 2000000 := by split <;> assumption
theorem sm_nil : ∀ x ∈ ([] : List ByteArray), x.size ≤ 2000000 := fun x hx => by simp at hx
theorem sm_one {u : ByteArray} (h : u.size ≤ 2000000) : ∀ x ∈ [u], x.size ≤ 2000000 := fun x hx => by rw [List.mem_singleton.1 hx]; exact h
theorem sm_two {u v : ByteArray} (h : u.size ≤ 2000000) (h' : v.size ≤ 2000000) : ∀ x ∈ [u, v], x.size ≤ 2000000 := fun x hx => by
  rcases List.mem_cons.1 hx with rfl | hx
  · exact h
  · exact sm_one h' x hx
theorem exp_join (ws : List ByteArray) (d : ByteArray) (h : ws ≠ []) : joined (ws ++ [⟨#[101, 120, 112, 97, 110, 100]⟩, d]) = joined ws ++ ((⟨#[32, 101, 120, 112, 97, 110, 100, 32]⟩ : ByteArray) ++ d) := by
  rw [show ws ++ [⟨#[101, 120, 112, 97, 110, 100]⟩, d] = (ws ++ [⟨#[101, 120, 112, 97, 110, 100]⟩]) ++ [d] by simp, joined_snoc _ _ (by simp), joined_snoc _ _ h]
  refine ba_ext ?_
  simp only [ByteArray.data_append, Array.toList_append]
  simp
theorem ent_join (ws : List ByteArray) (v g t : ByteArray) (h : ws ≠ []) : joined (ws ++ [v, g ++ t]) = joined ws ++ ((⟨#[32]⟩ : ByteArray) ++ v ++ ⟨#[32]⟩ ++ g ++ t) := by
  rw [show ws ++ [v, g ++ t] = (ws ++ [v]) ++ [g ++ t] by simp, joined_snoc _ _ (by simp), joined_snoc _ _ h]
  refine ba_ext ?_
  simp only [ByteArray.data_append, Array.toList_append]
  simp
theorem ent_keep {w w1 w' : World} {box : Array Value} {a0 a1 a2 a3 a4 a5 a6 a7 : Addr} {x0 x1 x2 x3 x4 x5 x6 x7 : Value} (hb : Below w1.heap.size w1 w') (h : w1.cell? a0 = some x0 ∧ w1.cell? a1 = some x1 ∧ w1.cell? a2 = some x2 ∧ w1.cell? a3 = some x3 ∧ w1.cell? a4 = some x4 ∧ w1.cell? a5 = some x5 ∧ w1.cell? a6 = some x6 ∧ w1.cell? a7 = some x7 ∧ Aside0 (RefSt w w1 box)) : w'.cell? a0 = some x0 ∧ w'.cell? a1 = some x1 ∧ w'.cell? a2 = some x2 ∧ w'.cell? a3 = some x3 ∧ w'.cell? a4 = some x4 ∧ w'.cell? a5 = some x5 ∧ w'.cell? a6 = some x6 ∧ w'.cell? a7 = some x7 ∧ Aside0 (RefSt w w' box) :=
  ⟨below_cell0 hb h.1, below_cell0 hb h.2.1, below_cell0 hb h.2.2.1, below_cell0 hb h.2.2.2.1, below_cell0 hb h.2.2.2.2.1, below_cell0 hb h.2.2.2.2.2.1, below_cell0 hb h.2.2.2.2.2.2.1, below_cell0 hb h.2.2.2.2.2.2.2.1, ⟨h.2.2.2.2.2.2.2.2.out.step hb⟩⟩

set_option maxRecDepth 100000 in
set_option maxHeartbeats 8000000 in
theorem refTell_any (err line : Int) (tok : ByteArray) (has cut : Bool) (At : Option Addr) (ct : Nat) (ts : List S51) (Au : Option Addr) (cu : Nat) (us : List S49) (Ai : Option Addr) (ci : Nat) (ids : List ByteArray) (Ae : Option Addr) (ce : Nat) (es : List S55) (t : S44) (Ax : Option Addr) (cx : Nat) (Ap : Option Addr) (cp : Nat) (Ag : Option Addr) (cg : Nat) (pages : List Int)
    (herr : numIn err) (hline : numIn line) (lt : ts.length ≤ 40) (lu : us.length ≤ 40) (li : ids.length ≤ 40) (le : es.length ≤ 40) (lg : pages.length ≤ 40) (hes : ∀ x ∈ es, numIn x.f0) (hpg : ∀ n ∈ pages, numIn n) (htok : tok.size ≤ 1500000) (hids : ∀ x ∈ ids, x.size ≤ 1500000) (hsht : ∀ x ∈ ts, x.short) (hshu : ∀ x ∈ us, x.short) (hshe : ∀ x ∈ es, x.f1.f0.short) (hnt : nodes t < 4611686018427387904)
    (w : World) (hsize : ∀ wx, Below w.heap.size w wx → Calls Tryz.prog 17 #[.agg #[.string t.f0, .slice Ax t.f1.length cx, .slice Ap t.f2.length cp]] wx fun e w' => e = .returned (.int .i64 (nodes t : Int)) ∧ Below wx.heap.size wx w') (rt : Kd.C k51 w At ts.length ts) (ru : Kd.C k49 w Au us.length us) (ri : Kd.string.C w Ai ids.length ids) (re : Kd.C k55 w Ae es.length es) (rg : (Kd.int .i64).C w Ag pages.length pages) :
    Calls Tryz.prog 19 #[.agg #[.int .i64 err, .int .i64 line, .string tok, .bool has, .bool cut, .slice At ts.length ct, .slice Au us.length cu, .slice Ai ids.length ci, .slice Ae es.length ce, .string t.f0, .slice Ax t.f1.length cx, .slice Ap t.f2.length cp, .slice Ag pages.length cg]] w fun e w' => e = .returned (.string (joined (ansW err line tok has cut ts us ids es t pages) ++ ⟨#[10]⟩)) ∧ Below w.heap.size w w' := by
  have hu46 := Tryz.underlying46
  have hu44 := Tryz.underlying44
  have hu51 := Tryz.underlying51
  have hu49 := Tryz.underlying49
  have hu55 := Tryz.underlying55
  have hu53 := Tryz.underlying53
  have hit : ∀ n, numIn n → ∀ wx, Calls Tryz.prog 47 #[.int .i64 n] wx fun e w' => e = .returned (.string (itoaB n)) ∧ Below wx.heap.size wx w' := by
    intro n hn wx
    obtain ⟨k, hk⟩ := refSigned_f n hn
    exact lunetteref20_signed.calls k n _ wx hk
  have HIT := Aside0.mk hit; clear hit
  have HSIZE := Aside0.mk hsize; clear hsize
  have hnn : numIn (nodes t : Int) := ⟨by omega, by omega⟩
  have HNN := Aside0.mk hnn
  have HRT := Aside0.mk rt; have HRU := Aside0.mk ru; have HRI := Aside0.mk ri; have HRE := Aside0.mk re; have HRG := Aside0.mk rg
  have HES := Aside0.mk hes; have HPG := Aside0.mk hpg
  have HSHT := Aside0.mk hsht; have HSHU := Aside0.mk hshu; have HSHE := Aside0.mk hshe; have HIDS := Aside0.mk hids; have HTOK := Aside0.mk htok
  have HERR := Aside0.mk herr; have HLINE := Aside0.mk hline
  obtain ⟨ans, hans⟩ : ∃ ans, ansW err line tok has cut ts us ids es t pages = ans := ⟨_, rfl⟩
  rw [hans]
  have HANS := Aside0.mk hans
  clear rt ru ri re rg hes hpg herr hline hnt hnn hans hsht hshu hshe hids htok
  have hkx := box_blk w #[.int .i64 err, .int .i64 line, .string tok, .bool has, .bool cut, .slice At ts.length ct, .slice Au us.length cu, .slice Ai ids.length ci, .slice Ae es.length ce, .string t.f0, .slice Ax t.f1.length cx, .slice Ap t.f2.length cp, .slice Ag pages.length cg] 46
  have HS : Aside0 (RefSt w (w.alloc (.cells #[.int .i64 err, .int .i64 line, .string tok, .bool has, .bool cut, .slice At ts.length ct, .slice Au us.length cu, .slice Ai ids.length ci, .slice Ae es.length ce, .string t.f0, .slice Ax t.f1.length cx, .slice Ap t.f2.length cp, .slice Ag pages.length cg] 46)) #[.int .i64 err, .int .i64 line, .string tok, .bool has, .bool cut, .slice At ts.length ct, .slice Au us.length cu, .slice Ai ids.length ci, .slice Ae es.length ce, .string t.f0, .slice Ax t.f1.length cx, .slice Ap t.f2.length cp, .slice Ag pages.length cg]) := ⟨⟨hkx, below_alloc (Below.refl _ _) _⟩⟩
  have z0 := (blk_cell hkx 0).trans rfl
  clear hkx
  have q32 : (⟨#[32]⟩ : ByteArray).size = 1 := rfl
  have Q32 := Aside0.mk q32
  clear q32
  go_enter Tryz.func19, Tryz.ntmps19
  go_upto_if 12 with fail
  clear z0
  go_cut [0, 3] (fun s0 s3 wx => s3 = .string (joined (if err = 0 then [⟨#[111, 107]⟩] else [⟨#[101, 114, 114, 111, 114]⟩, itoaB err, itoaB line])) ∧ Aside0 (RefSt w wx #[.int .i64 err, .int .i64 line, .string tok, .bool has, .bool cut, .slice At ts.length ct, .slice Au us.length cu, .slice Ai ids.length ci, .slice Ae es.length ce, .string t.f0, .slice Ax t.f1.length cx, .slice Ap t.f2.length cp, .slice Ag pages.length cg]))
  case first =>
    by_cases he : err = 0
    · have e1 : (err != 0) = false := by simp [he]
      have HE0 := Aside0.mk he; clear he
      go_wp2
      go_meet
      exact ⟨by rw [if_pos HE0.out]; rfl, HS⟩
    · have e1 : (err != 0) = true := by simp [he]
      have HE0 := Aside0.mk he; clear he
      have ha := fun wx => HIT.out err HERR.out wx
      have hb := fun wx => HIT.out line HLINE.out wx
      have hza := itoaB_size2 err HERR.out
      have hzb := itoaB_size2 line HLINE.out
      have hjn := err_join (itoaB err) (itoaB line)
      obtain ⟨A, hA⟩ : ∃ A, itoaB err = A := ⟨_, rfl⟩
      obtain ⟨C, hC⟩ : ∃ C, itoaB line = C := ⟨_, rfl⟩
      rw [hA] at ha hza hjn
      rw [hC] at hb hzb hjn
      have HEA := Aside0.mk hA; have HEC := Aside0.mk hC
      clear hA hC
      have HJN := Aside0.mk hjn; clear hjn
      have HA := Aside0.mk ha; have HB := Aside0.mk hb; clear ha hb
      have q0 : (⟨#[101, 114, 114, 111, 114, 32]⟩ : ByteArray).size = 6 := rfl
      have q1 : (9223372036854775807 < (⟨#[101, 114, 114, 111, 114, 32]⟩ : ByteArray).size + A.size) = False := eq_false (by rw [q0]; omega)
      have q2 : (9223372036854775807 < ((⟨#[101, 114, 114, 111, 114, 32]⟩ : ByteArray) ++ A).size + (⟨#[32]⟩ : ByteArray).size) = False := eq_false (by rw [ByteArray.size_append, q0, Q32.out]; omega)
      have q3 : (9223372036854775807 < ((⟨#[101, 114, 114, 111, 114, 32]⟩ : ByteArray) ++ A ++ ⟨#[32]⟩).size + C.size) = False := eq_false (by rw [ByteArray.size_append, ByteArray.size_append, q0, Q32.out]; omega)
      have q4 : (9223372036854775807 < 6 + A.size) = False := eq_false (by omega)
      have q5 : (9223372036854775807 < 6 + A.size + 1) = False := eq_false (by omega)
      have q6 : (9223372036854775807 < 6 + A.size + 1 + C.size) = False := eq_false (by omega)
      clear q0
      go_upto_region 3 with fail
      go_region_held3 (fun w' => w'.cell? ⟨w.heap.size, 0, none⟩ = some (.int .i64 err) ∧ w'.cell? ⟨w.heap.size, 1, none⟩ = some (.int .i64 line) ∧ Aside0 (RefSt w w' #[.int .i64 err, .int .i64 line, .string tok, .bool has, .bool cut, .slice At ts.length ct, .slice Au us.length cu, .slice Ai ids.length ci, .slice Ae es.length ce, .string t.f0, .slice Ax t.f1.length cx, .slice Ap t.f2.length cp, .slice Ag pages.length cg])) (first | assumption | exact ⟨(blk_cell HS.out.bx 0).trans rfl, (blk_cell HS.out.bx 1).trans rfl, HS⟩ | exact ⟨(blk_cell HS.out.bx 0).trans rfl, (blk_cell HS.out.bx 1).trans rfl, ⟨⟨HS.out.bx, pw_below_drewN HS.out.below 1⟩⟩⟩)
        (first | (go_at_call 47; with_reducible refine (HA.out _).mono ?_; rintro e w' ⟨rfl, hb⟩; have hsx := err_keep hb (by assumption)) | (go_at_call 47; with_reducible refine (HB.out _).mono ?_; rintro e w' ⟨rfl, hb⟩; have hsx := err_keep hb (by assumption)))
      all_goals (
        rename_i hend
        have HS9 := hend.2.2
        clear hend
        go_wp2
        go_meet
        exact ⟨by rw [if_neg HE0.out, HEA.out, HEC.out, ← HJN.out], HS9⟩)
  case rest =>
    clear HS
    obtain ⟨rfl, HS⟩ := hcut
    have hl1 : (if err = 0 then [⟨#[111, 107]⟩] else [⟨#[101, 114, 114, 111, 114]⟩, itoaB err, itoaB line] : List ByteArray).length ≤ 3 := by split <;> simp
    have hm1 : Sm (if err = 0 then [⟨#[111, 107]⟩] else [⟨#[101, 114, 114, 111, 114]⟩, itoaB err, itoaB line] : List ByteArray) := by
      have h1 := itoaB_size2 err HERR.out
      have h2 := itoaB_size2 line HLINE.out
      split
      · exact ⟨by simp, fun x hx => by rw [List.mem_singleton.1 hx]; decide⟩
      · refine ⟨by simp, fun x hx => ?_⟩
        rcases List.mem_cons.1 hx with rfl | hx
        · decide
        · rcases List.mem_cons.1 hx with rfl | hx
          · omega
          · rw [List.mem_singleton.1 hx]; omega
    obtain ⟨ws1, hws1⟩ : ∃ ws, (if err = 0 then [⟨#[111, 107]⟩] else [⟨#[101, 114, 114, 111, 114]⟩, itoaB err, itoaB line] : List ByteArray) = ws := ⟨_, rfl⟩
    rw [hws1] at hl1 hm1
    rw [hws1]
    have HW1 := Aside0.mk hws1; clear hws1
    have HM1 := Aside0.mk hm1; clear hm1
    have z2 := (blk_cell HS.out.bx 2).trans rfl
    go_upto_if 24 with fail
    clear z2
    obtain ⟨bt, hbt⟩ : ∃ b, (!tok.toList.isEmpty) = b := ⟨_, rfl⟩
    rw [hbt]
    have HBT := Aside0.mk hbt; clear hbt
    go_cut [0, 3] (fun s0 s3 wx => s3 = .string (joined (ws1 ++ (if tok.toList = [] then [] else [tok]))) ∧ Aside0 (RefSt w wx #[.int .i64 err, .int .i64 line, .string tok, .bool has, .bool cut, .slice At ts.length ct, .slice Au us.length cu, .slice Ai ids.length ci, .slice Ae es.length ce, .string t.f0, .slice Ax t.f1.length cx, .slice Ap t.f2.length cp, .slice Ag pages.length cg]))
    case first =>
      cases bt
      · have HK := Aside0.mk (show tok.toList = [] by have := HBT.out; simpa using this)
        go_wp2
        go_meet
        exact ⟨by rw [if_pos HK.out, List.append_nil], HS⟩
      · have HK := Aside0.mk (show ¬ tok.toList = [] by have := HBT.out; simpa using this)
        have htk := HTOK.out
        have hnx := joined_snoc ws1 tok HM1.out.1
        have hj := joined_le ws1 HM1.out
        obtain ⟨S, hS⟩ : ∃ S, joined ws1 = S := ⟨_, rfl⟩
        rw [hS] at hnx hj
        rw [hS]
        clear hS
        have HNX := Aside0.mk hnx; clear hnx
        have q1 : (9223372036854775807 < (⟨#[32]⟩ : ByteArray).size + tok.size) = False := eq_false (by rw [Q32.out]; omega)
        have q2 : (9223372036854775807 < S.size + ((⟨#[32]⟩ : ByteArray) ++ tok).size) = False := eq_false (by rw [ByteArray.size_append, Q32.out]; omega)
        have q3 : (9223372036854775807 < 1 + tok.size) = False := eq_false (by omega)
        have q4 : (9223372036854775807 < S.size + (1 + tok.size)) = False := eq_false (by omega)
        have z2 := (blk_cell HS.out.bx 2).trans rfl
        go_wp2
        go_meet
        exact ⟨by rw [if_neg HK.out, HNX.out], HS⟩
    case rest =>
      clear HS
      obtain ⟨rfl, HS⟩ := hcut
      have hl2 : (ws1 ++ (if tok.toList = [] then [] else [tok]) : List ByteArray).length ≤ 4 := by rw [List.length_append]; split <;> simp <;> omega
      have hm2 : Sm (ws1 ++ (if tok.toList = [] then [] else [tok]) : List ByteArray) := HM1.out.app (sm_ite sm_nil (sm_one (by have := HTOK.out; omega)))
      obtain ⟨ws2, hws2⟩ : ∃ ws, (ws1 ++ (if tok.toList = [] then [] else [tok]) : List ByteArray) = ws := ⟨_, rfl⟩
      rw [hws2] at hl2 hm2
      rw [hws2]
      have HW2 := Aside0.mk hws2; clear hws2
      have HM2 := Aside0.mk hm2; clear hm2
      have z3 := (blk_cell HS.out.bx 3).trans rfl
      go_upto_if 31 with fail
      clear z3

      go_cut [0, 3] (fun s0 s3 wx => s3 = .string (joined (ws2 ++ (if has = true then [⟨#[104, 97, 115]⟩] else []))) ∧ Aside0 (RefSt w wx #[.int .i64 err, .int .i64 line, .string tok, .bool has, .bool cut, .slice At ts.length ct, .slice Au us.length cu, .slice Ai ids.length ci, .slice Ae es.length ce, .string t.f0, .slice Ax t.f1.length cx, .slice Ap t.f2.length cp, .slice Ag pages.length cg]))
      case first =>
        cases hhas : has
        · have HK := Aside0.mk hhas; clear hhas
          go_wp2
          go_meet
          exact ⟨by rw [if_neg (show ¬ has = true by rw [HK.out]; decide), List.append_nil], HS⟩
        · have HK := Aside0.mk hhas; clear hhas
          have hnx := joined_snoc ws2 ⟨#[104, 97, 115]⟩ HM2.out.1
          have hj := joined_le ws2 HM2.out
          obtain ⟨S, hS⟩ : ∃ S, joined ws2 = S := ⟨_, rfl⟩
          rw [hS] at hnx hj
          rw [hS]
          clear hS
          have HNX := Aside0.mk hnx; clear hnx
          have q1 : (9223372036854775807 < S.size + (⟨#[32, 104, 97, 115]⟩ : ByteArray).size) = False := eq_false (by have : (⟨#[32, 104, 97, 115]⟩ : ByteArray).size = 4 := rfl; omega)
          have q2 : (9223372036854775807 < S.size + 4) = False := eq_false (by omega)
          go_wp2
          go_meet
          exact ⟨by rw [if_pos HK.out, HNX.out]; rfl, HS⟩
      case rest =>
        clear HS
        obtain ⟨rfl, HS⟩ := hcut
        have hl3 : (ws2 ++ (if has = true then [⟨#[104, 97, 115]⟩] else []) : List ByteArray).length ≤ 5 := by rw [List.length_append]; split <;> simp <;> omega
        have hm3 : Sm (ws2 ++ (if has = true then [⟨#[104, 97, 115]⟩] else []) : List ByteArray) := HM2.out.app (sm_ite (sm_one (by decide)) sm_nil)
        obtain ⟨ws3, hws3⟩ : ∃ ws, (ws2 ++ (if has = true then [⟨#[104, 97, 115]⟩] else []) : List ByteArray) = ws := ⟨_, rfl⟩
        rw [hws3] at hl3 hm3
        rw [hws3]
        have HW3 := Aside0.mk hws3; clear hws3
        have HM3 := Aside0.mk hm3; clear hm3
        have z4 := (blk_cell HS.out.bx 4).trans rfl
        go_upto_if 35 with fail
        clear z4

        go_cut [0, 3] (fun s0 s3 wx => s3 = .string (joined (ws3 ++ (if cut = true then [⟨#[99, 117, 116]⟩] else []))) ∧ Aside0 (RefSt w wx #[.int .i64 err, .int .i64 line, .string tok, .bool has, .bool cut, .slice At ts.length ct, .slice Au us.length cu, .slice Ai ids.length ci, .slice Ae es.length ce, .string t.f0, .slice Ax t.f1.length cx, .slice Ap t.f2.length cp, .slice Ag pages.length cg]))
        case first =>
          cases hcut : cut
          · have HK := Aside0.mk hcut; clear hcut
            go_wp2
            go_meet
            exact ⟨by rw [if_neg (show ¬ cut = true by rw [HK.out]; decide), List.append_nil], HS⟩
          · have HK := Aside0.mk hcut; clear hcut
            have hnx := joined_snoc ws3 ⟨#[99, 117, 116]⟩ HM3.out.1
            have hj := joined_le ws3 HM3.out
            obtain ⟨S, hS⟩ : ∃ S, joined ws3 = S := ⟨_, rfl⟩
            rw [hS] at hnx hj
            rw [hS]
            clear hS
            have HNX := Aside0.mk hnx; clear hnx
            have q1 : (9223372036854775807 < S.size + (⟨#[32, 99, 117, 116]⟩ : ByteArray).size) = False := eq_false (by have : (⟨#[32, 99, 117, 116]⟩ : ByteArray).size = 4 := rfl; omega)
            have q2 : (9223372036854775807 < S.size + 4) = False := eq_false (by omega)
            go_wp2
            go_meet
            exact ⟨by rw [if_pos HK.out, HNX.out]; rfl, HS⟩
        case rest =>
          clear HS
          obtain ⟨rfl, HS⟩ := hcut
          have hl4 : (ws3 ++ (if cut = true then [⟨#[99, 117, 116]⟩] else []) : List ByteArray).length ≤ 6 := by rw [List.length_append]; split <;> simp <;> omega
          have hm4 : Sm (ws3 ++ (if cut = true then [⟨#[99, 117, 116]⟩] else []) : List ByteArray) := HM3.out.app (sm_ite (sm_one (by decide)) sm_nil)
          obtain ⟨ws4, hws4⟩ : ∃ ws, (ws3 ++ (if cut = true then [⟨#[99, 117, 116]⟩] else []) : List ByteArray) = ws := ⟨_, rfl⟩
          rw [hws4] at hl4 hm4
          rw [hws4]
          have HW4 := Aside0.mk hws4; clear hws4
          have HM4 := Aside0.mk hm4; clear hm4
          go_upto_region 11 with fail
          go_loopw [3, 4] (fun s i wx => ∃ k : Nat, k ≤ ts.length ∧ i = .int .i64 k ∧ s = .string (joined (ws4 ++ (ts.take k).map tupW)) ∧ Aside0 (RefSt w wx #[.int .i64 err, .int .i64 line, .string tok, .bool has, .bool cut, .slice At ts.length ct, .slice Au us.length cu, .slice Ai ids.length ci, .slice Ae es.length ce, .string t.f0, .slice Ax t.f1.length cx, .slice Ap t.f2.length cp, .slice Ag pages.length cg])) (fun _ i _ => ts.length - (intOf i).toNat)
          case atStart => exact ⟨0, by omega, rfl, by simp, HS⟩
          case round =>
            clear HS
            obtain ⟨k, hk, rfl, rfl, HS⟩ := hrel
            have z5 := (blk_cell HS.out.bx 5).trans rfl
            by_cases hlt : k < ts.length
            · obtain ⟨ad, rfl, g0, g1, g2, g3, g4, g5⟩ := at_T51 HRT.out (k : Int) (by omega) (by omega)
              replace g0 := below_cell0 HS.out.below g0
              replace g1 := below_cell0 HS.out.below g1
              replace g2 := below_cell0 HS.out.below g2
              replace g3 := below_cell0 HS.out.below g3
              replace g4 := below_cell0 HS.out.below g4
              replace g5 := below_cell0 HS.out.below g5
              have e5 : ((k : Int)).toNat = k := by simp
              rw [e5] at g0 g1 g2 g3 g4 g5
              clear e5
              have hnext := map_next tupW ts k hlt
              have hshx := HSHT.out ts[k] (List.getElem_mem hlt)
              rw [← rd_T51_at ts k hlt] at hnext hshx
              have hsm : Sm (ws4 ++ (ts.take k).map tupW) := HM4.out.app (fun x hx => (sm_map tupW tupW_size ts) x (by obtain ⟨y, hy, rfl⟩ := List.mem_map.1 hx; exact List.mem_map.2 ⟨y, List.mem_of_mem_take hy, rfl⟩))
              have hj := joined_le (ws4 ++ (ts.take k).map tupW) hsm
              have hjl : (ws4 ++ (ts.take k).map tupW).length ≤ 400 := by simp; omega
              obtain ⟨x, hx⟩ : ∃ x, rd_T51 ts (k : Int) = x := ⟨_, rfl⟩
              rw [hx] at g0 g1 g2 g3 g4 g5 hnext hshx
              clear hx
              have hnx := joined_snoc (ws4 ++ (ts.take k).map tupW) (tupW x) hsm.1
              rw [List.append_assoc, ← hnext] at hnx
              clear hnext
              obtain ⟨kf, hkf⟩ := refTup2_f x hshx
              have hts := tupW_size x
              clear hshx
              obtain ⟨tw, htw⟩ : ∃ tw, tupW x = tw := ⟨_, rfl⟩
              rw [htw] at hkf hts hnx
              clear htw
              have HKF := Aside0.mk hkf; clear hkf
              obtain ⟨S, hS⟩ : ∃ S, joined (ws4 ++ (ts.take k).map tupW) = S := ⟨_, rfl⟩
              rw [hS] at hj hnx
              rw [hS]
              clear hS hsm
              have HNX := Aside0.mk hnx; clear hnx
              have q1 : (9223372036854775807 < (⟨#[32]⟩ : ByteArray).size + tw.size) = False := eq_false (by rw [Q32.out]; omega)
              have q2 : (9223372036854775807 < S.size + ((⟨#[32]⟩ : ByteArray) ++ tw).size) = False := eq_false (by rw [ByteArray.size_append, Q32.out]; omega)
              have q3 : (9223372036854775807 < 1 + tw.size) = False := eq_false (by omega)
              have q4 : (9223372036854775807 < S.size + (1 + tw.size)) = False := eq_false (by omega)
              have q0 : (k : Int) < (ts.length : Int) := by omega
              go_wp2_with fail
              refine (lunetteref20_tuple.calls kf x.f0 x.f1 x.f2 x.f3.f0 x.f3.f1 x.f3.f2 tw _ HKF.out).mono ?_
              rintro e w2 ⟨rfl, hb2⟩
              have HS2 := Aside0.mk (HS.out.step hb2); clear hb2 g0 g1 g2 g3 g4 g5 z5
              go_wp2
              exact ⟨⟨k + 1, by omega, by go_num, by rw [HNX.out], HS2⟩, by simp [intOf]; omega⟩
            · obtain rfl : k = ts.length := by omega
              rw [List.take_length]
              have hl5 : (ws4 ++ ts.map tupW).length ≤ 50 := by rw [List.length_append, List.length_map]; omega
              have hm5 : Sm (ws4 ++ ts.map tupW) := HM4.out.app (sm_map tupW tupW_size ts)
              obtain ⟨ws5, hws5⟩ : ∃ ws, (ws4 ++ ts.map tupW) = ws := ⟨_, rfl⟩
              rw [hws5] at hl5 hm5
              rw [hws5]
              have HW5 := Aside0.mk hws5; clear hws5 hlt hk
              have HM5 := Aside0.mk hm5; clear hm5
              go_upto_region 15 with fail
              go_loopw [3, 5] (fun s i wx => ∃ k : Nat, k ≤ us.length ∧ i = .int .i64 k ∧ s = .string (joined (ws5 ++ (us.take k).map usrW)) ∧ Aside0 (RefSt w wx #[.int .i64 err, .int .i64 line, .string tok, .bool has, .bool cut, .slice At ts.length ct, .slice Au us.length cu, .slice Ai ids.length ci, .slice Ae es.length ce, .string t.f0, .slice Ax t.f1.length cx, .slice Ap t.f2.length cp, .slice Ag pages.length cg])) (fun _ i _ => us.length - (intOf i).toNat)
              case atStart => exact ⟨0, by omega, rfl, by simp, HS⟩
              case round =>
                clear HS
                obtain ⟨k, hk, rfl, rfl, HS⟩ := hrel
                have z6 := (blk_cell HS.out.bx 6).trans rfl
                by_cases hlt : k < us.length
                · obtain ⟨ad, rfl, g0, g1, g2⟩ := at_T49 HRU.out (k : Int) (by omega) (by omega)
                  replace g0 := below_cell0 HS.out.below g0
                  replace g1 := below_cell0 HS.out.below g1
                  replace g2 := below_cell0 HS.out.below g2
                  have e5 : ((k : Int)).toNat = k := by simp
                  rw [e5] at g0 g1 g2
                  clear e5
                  have hnext := map_next usrW us k hlt
                  have hshx := HSHU.out us[k] (List.getElem_mem hlt)
                  rw [← rd_T49_at us k hlt] at hnext hshx
                  have hsm : Sm (ws5 ++ (us.take k).map usrW) := HM5.out.app (fun x hx => (sm_map usrW usrW_size us) x (by obtain ⟨y, hy, rfl⟩ := List.mem_map.1 hx; exact List.mem_map.2 ⟨y, List.mem_of_mem_take hy, rfl⟩))
                  have hj := joined_le (ws5 ++ (us.take k).map usrW) hsm
                  have hjl : (ws5 ++ (us.take k).map usrW).length ≤ 400 := by simp; omega
                  obtain ⟨x, hx⟩ : ∃ x, rd_T49 us (k : Int) = x := ⟨_, rfl⟩
                  rw [hx] at g0 g1 g2 hnext hshx
                  clear hx
                  have hnx := joined_snoc (ws5 ++ (us.take k).map usrW) (usrW x) hsm.1
                  rw [List.append_assoc, ← hnext] at hnx
                  clear hnext
                  obtain ⟨kf, hkf⟩ := refUsr2_f x hshx
                  have hts := usrW_size x
                  clear hshx
                  obtain ⟨tw, htw⟩ : ∃ tw, usrW x = tw := ⟨_, rfl⟩
                  rw [htw] at hkf hts hnx
                  clear htw
                  have HKF := Aside0.mk hkf; clear hkf
                  obtain ⟨S, hS⟩ : ∃ S, joined (ws5 ++ (us.take k).map usrW) = S := ⟨_, rfl⟩
                  rw [hS] at hj hnx
                  rw [hS]
                  clear hS hsm
                  have HNX := Aside0.mk hnx; clear hnx
                  have q1 : (9223372036854775807 < (⟨#[32]⟩ : ByteArray).size + tw.size) = False := eq_false (by rw [Q32.out]; omega)
                  have q2 : (9223372036854775807 < S.size + ((⟨#[32]⟩ : ByteArray) ++ tw).size) = False := eq_false (by rw [ByteArray.size_append, Q32.out]; omega)
                  have q3 : (9223372036854775807 < 1 + tw.size) = False := eq_false (by omega)
                  have q4 : (9223372036854775807 < S.size + (1 + tw.size)) = False := eq_false (by omega)
                  have q0 : (k : Int) < (us.length : Int) := by omega
                  go_wp2_with fail
                  refine (lunetteref20_user.calls kf x.f0 x.f1 x.f2 tw _ HKF.out).mono ?_
                  rintro e w2 ⟨rfl, hb2⟩
                  have HS2 := Aside0.mk (HS.out.step hb2); clear hb2 g0 g1 g2 z6
                  go_wp2
                  exact ⟨⟨k + 1, by omega, by go_num, by rw [HNX.out], HS2⟩, by simp [intOf]; omega⟩
                · obtain rfl : k = us.length := by omega
                  rw [List.take_length]
                  have hl6 : (ws5 ++ us.map usrW).length ≤ 100 := by rw [List.length_append, List.length_map]; omega
                  have hm6 : Sm (ws5 ++ us.map usrW) := HM5.out.app (sm_map usrW usrW_size us)
                  obtain ⟨ws6, hws6⟩ : ∃ ws, (ws5 ++ us.map usrW) = ws := ⟨_, rfl⟩
                  rw [hws6] at hl6 hm6
                  rw [hws6]
                  have HW6 := Aside0.mk hws6; clear hws6 hlt hk
                  have HM6 := Aside0.mk hm6; clear hm6
                  go_upto_region 19 with fail
                  go_loopw [3, 6] (fun s i wx => ∃ k : Nat, k ≤ ids.length ∧ i = .int .i64 k ∧ s = .string (joined (ws6 ++ ids.take k)) ∧ Aside0 (RefSt w wx #[.int .i64 err, .int .i64 line, .string tok, .bool has, .bool cut, .slice At ts.length ct, .slice Au us.length cu, .slice Ai ids.length ci, .slice Ae es.length ce, .string t.f0, .slice Ax t.f1.length cx, .slice Ap t.f2.length cp, .slice Ag pages.length cg])) (fun _ i _ => ids.length - (intOf i).toNat)
                  case atStart => exact ⟨0, by omega, rfl, by simp, HS⟩
                  case round =>
                    clear HS
                    obtain ⟨k, hk, rfl, rfl, HS⟩ := hrel
                    have z7 := (blk_cell HS.out.bx 7).trans rfl
                    by_cases hlt : k < ids.length
                    · obtain ⟨ad, rfl, g0⟩ := Kd.at_string HRI.out (k : Int) (by omega) (by omega)
                      replace g0 := below_cell0 HS.out.below g0
                      have e5 : ((k : Int)).toNat = k := by simp
                      rw [e5, rdOf_at ids k hlt] at g0
                      clear e5
                      have hnext : ids.take (k + 1) = ids.take k ++ [ids[k]] := (List.take_append_getElem hlt).symm
                      have hsx := HIDS.out ids[k] (List.getElem_mem hlt)
                      have hsm : Sm (ws6 ++ ids.take k) := HM6.out.app (fun x hx => (sm_ids ids HIDS.out) x (List.mem_of_mem_take hx))
                      have hj := joined_le (ws6 ++ ids.take k) hsm
                      have hjl : (ws6 ++ ids.take k).length ≤ 400 := by simp; omega
                      obtain ⟨x, hx⟩ : ∃ x, ids[k] = x := ⟨_, rfl⟩
                      rw [hx] at g0 hnext hsx
                      clear hx
                      have hnx := joined_snoc (ws6 ++ ids.take k) x hsm.1
                      rw [List.append_assoc, ← hnext] at hnx
                      clear hnext
                      obtain ⟨S, hS⟩ : ∃ S, joined (ws6 ++ ids.take k) = S := ⟨_, rfl⟩
                      rw [hS] at hj hnx
                      rw [hS]
                      clear hS hsm
                      have HNX := Aside0.mk hnx; clear hnx
                      have q1 : (9223372036854775807 < (⟨#[32]⟩ : ByteArray).size + x.size) = False := eq_false (by rw [Q32.out]; omega)
                      have q2 : (9223372036854775807 < S.size + ((⟨#[32]⟩ : ByteArray) ++ x).size) = False := eq_false (by rw [ByteArray.size_append, Q32.out]; omega)
                      have q3 : (9223372036854775807 < 1 + x.size) = False := eq_false (by omega)
                      have q4 : (9223372036854775807 < S.size + (1 + x.size)) = False := eq_false (by omega)
                      have q0 : (k : Int) < (ids.length : Int) := by omega
                      go_wp2
                      exact ⟨⟨k + 1, by omega, by go_num, by rw [HNX.out], HS⟩, by simp [intOf]; omega⟩
                    · obtain rfl : k = ids.length := by omega
                      rw [List.take_length]
                      have hl7 : (ws6 ++ ids).length ≤ 150 := by rw [List.length_append]; omega
                      have hm7 : Sm (ws6 ++ ids) := HM6.out.app (sm_ids ids HIDS.out)
                      obtain ⟨ws7, hws7⟩ : ∃ ws, (ws6 ++ ids) = ws := ⟨_, rfl⟩
                      rw [hws7] at hl7 hm7
                      rw [hws7]
                      have HW7 := Aside0.mk hws7; clear hws7 hlt hk
                      have HM7 := Aside0.mk hm7; clear hm7
                      go_upto_region 23 with fail
                      go_loopw [3, 7] (fun s i wx => ∃ k : Nat, k ≤ es.length ∧ i = .int .i64 k ∧ s = .string (joined (ws7 ++ (es.take k).flatMap entW)) ∧ Aside0 (RefSt w wx #[.int .i64 err, .int .i64 line, .string tok, .bool has, .bool cut, .slice At ts.length ct, .slice Au us.length cu, .slice Ai ids.length ci, .slice Ae es.length ce, .string t.f0, .slice Ax t.f1.length cx, .slice Ap t.f2.length cp, .slice Ag pages.length cg])) (fun _ i _ => es.length - (intOf i).toNat)
                      case atStart => exact ⟨0, by omega, rfl, by simp, HS⟩
                      case round =>
                        clear HS
                        obtain ⟨k, hk, rfl, rfl, HS⟩ := hrel
                        have z8 := (blk_cell HS.out.bx 8).trans rfl
                        by_cases hlt : k < es.length
                        · obtain ⟨ad, rfl, g0, g1, g2, g3, g4, g5, g6, g7⟩ := at_T55 HRE.out (k : Int) (by omega) (by omega)
                          replace g0 := below_cell0 HS.out.below g0
                          replace g1 := below_cell0 HS.out.below g1
                          replace g2 := below_cell0 HS.out.below g2
                          replace g3 := below_cell0 HS.out.below g3
                          replace g4 := below_cell0 HS.out.below g4
                          replace g5 := below_cell0 HS.out.below g5
                          replace g6 := below_cell0 HS.out.below g6
                          replace g7 := below_cell0 HS.out.below g7
                          have e5 : ((k : Int)).toNat = k := by simp
                          rw [e5] at g0 g1 g2 g3 g4 g5 g6 g7
                          clear e5
                          have hnext : (es.take (k + 1)).flatMap entW = (es.take k).flatMap entW ++ [itoaB (es[k]).f0, sgnW (es[k]).f1.f1 ++ tupW (es[k]).f1.f0] := flat_next entW es k hlt
                          have hx0 := HES.out es[k] (List.getElem_mem hlt)
                          have hshx := HSHE.out es[k] (List.getElem_mem hlt)
                          rw [← rd_T55_at es k hlt] at hnext hx0 hshx
                          have hsm : Sm (ws7 ++ (es.take k).flatMap entW) := HM7.out.app (fun x hx => (sm_ent es HES.out) x (by obtain ⟨y, hy, hx⟩ := List.mem_flatMap.1 hx; exact List.mem_flatMap.2 ⟨y, List.mem_of_mem_take hy, hx⟩))
                          have hj := joined_le (ws7 ++ (es.take k).flatMap entW) hsm
                          have hjl : (ws7 ++ (es.take k).flatMap entW).length ≤ 400 := by rw [List.length_append, entW_len, List.length_take]; omega
                          obtain ⟨x, hx⟩ : ∃ x, rd_T55 es (k : Int) = x := ⟨_, rfl⟩
                          rw [hx] at g0 g1 g2 g3 g4 g5 g6 g7 hnext hx0 hshx
                          clear hx
                          obtain ⟨kf, hkf⟩ := refTup2_f x.f1.f0 hshx
                          have hts := tupW_size x.f1.f0
                          have hvs := itoaB_size2 x.f0 hx0
                          have hv := fun wx => HIT.out x.f0 hx0 wx
                          clear hshx
                          obtain ⟨tw, htw⟩ : ∃ tw, tupW x.f1.f0 = tw := ⟨_, rfl⟩
                          rw [htw] at hkf hts hnext
                          clear htw
                          obtain ⟨V, hV⟩ : ∃ V, itoaB x.f0 = V := ⟨_, rfl⟩
                          rw [hV] at hv hvs hnext
                          clear hV
                          have htw := fun wx => lunetteref20_tuple.calls kf x.f1.f0.f0 x.f1.f0.f1 x.f1.f0.f2 x.f1.f0.f3.f0 x.f1.f0.f3.f1 x.f1.f0.f3.f2 tw wx hkf
                          clear hkf hx0
                          obtain ⟨x0, ⟨⟨x1, x2, x3, ⟨x4, x5, x6⟩⟩, x7⟩⟩ := x
                          simp only at g0 g1 g2 g3 g4 g5 g6 g7 hnext hv htw
                          have HV := Aside0.mk hv; have HTW := Aside0.mk htw; clear hv htw
                          cases x7
                          · have hnx := ent_join (ws7 ++ (es.take k).flatMap entW) V ⟨#[43]⟩ tw hsm.1
                            rw [List.append_assoc] at hnx
                            have hnx2 : joined (ws7 ++ (es.take (k + 1)).flatMap entW) = joined (ws7 ++ (es.take k).flatMap entW) ++ ((⟨#[32]⟩ : ByteArray) ++ V ++ ⟨#[32]⟩ ++ ⟨#[43]⟩ ++ tw) := by rw [hnext]; exact hnx
                            clear hnx hnext
                            obtain ⟨S, hS⟩ : ∃ S, joined (ws7 ++ (es.take k).flatMap entW) = S := ⟨_, rfl⟩
                            rw [hS] at hj hnx2
                            rw [hS]
                            clear hS hsm
                            have HNX := Aside0.mk hnx2; clear hnx2
                            have p1 : (⟨#[43]⟩ : ByteArray).size = 1 := rfl
                            have q1 : (9223372036854775807 < (⟨#[32]⟩ : ByteArray).size + V.size) = False := eq_false (by rw [Q32.out]; omega)
                            have q2 : (9223372036854775807 < ((⟨#[32]⟩ : ByteArray) ++ V).size + (⟨#[32]⟩ : ByteArray).size) = False := eq_false (by rw [ByteArray.size_append, Q32.out]; omega)
                            have q3 : (9223372036854775807 < ((⟨#[32]⟩ : ByteArray) ++ V ++ ⟨#[32]⟩).size + (⟨#[43]⟩ : ByteArray).size) = False := eq_false (by rw [ByteArray.size_append, ByteArray.size_append, Q32.out, p1]; omega)
                            have q4 : (9223372036854775807 < ((⟨#[32]⟩ : ByteArray) ++ V ++ ⟨#[32]⟩ ++ ⟨#[43]⟩).size + tw.size) = False := eq_false (by rw [ByteArray.size_append, ByteArray.size_append, ByteArray.size_append, Q32.out, p1]; omega)
                            have q5 : (9223372036854775807 < S.size + ((⟨#[32]⟩ : ByteArray) ++ V ++ ⟨#[32]⟩ ++ ⟨#[43]⟩ ++ tw).size) = False := eq_false (by rw [ByteArray.size_append, ByteArray.size_append, ByteArray.size_append, ByteArray.size_append, Q32.out, p1]; omega)
                            have r1 : (9223372036854775807 < 1 + V.size) = False := eq_false (by omega)
                            have r2 : (9223372036854775807 < 1 + V.size + 1) = False := eq_false (by omega)
                            have r3 : (9223372036854775807 < 1 + V.size + 1 + 1) = False := eq_false (by omega)
                            have r4 : (9223372036854775807 < 1 + V.size + 1 + 1 + tw.size) = False := eq_false (by omega)
                            have r5 : (9223372036854775807 < S.size + (1 + V.size + 1 + 1 + tw.size)) = False := eq_false (by omega)
                            clear p1
                            have q0 : (k : Int) < (es.length : Int) := by omega
                            go_upto_region 28 with fail
                            go_region_held3 (fun w' => w'.cell? (ad.add (k * 8)) = some (.int .i64 x0) ∧ w'.cell? ⟨(ad.add (k * 8)).block, (ad.add (k * 8)).off + 1, none⟩ = some (.string x1) ∧ w'.cell? ⟨(ad.add (k * 8)).block, (ad.add (k * 8)).off + 2, none⟩ = some (.string x2) ∧ w'.cell? ⟨(ad.add (k * 8)).block, (ad.add (k * 8)).off + 3, none⟩ = some (.string x3) ∧ w'.cell? ⟨(ad.add (k * 8)).block, (ad.add (k * 8)).off + 4, none⟩ = some (.string x4) ∧ w'.cell? ⟨(ad.add (k * 8)).block, (ad.add (k * 8)).off + 5, none⟩ = some (.string x5) ∧ w'.cell? ⟨(ad.add (k * 8)).block, (ad.add (k * 8)).off + 6, none⟩ = some (.string x6) ∧ w'.cell? ⟨w.heap.size, 8, none⟩ = some (.slice (some ad) es.length ce) ∧ Aside0 (RefSt w w' #[.int .i64 err, .int .i64 line, .string tok, .bool has, .bool cut, .slice At ts.length ct, .slice Au us.length cu, .slice Ai ids.length ci, .slice (some ad) es.length ce, .string t.f0, .slice Ax t.f1.length cx, .slice Ap t.f2.length cp, .slice Ag pages.length cg])) (first | assumption | exact ⟨g0, g1, g2, g3, g4, g5, g6, z8, HS⟩ | exact ⟨g0, g1, g2, g3, g4, g5, g6, z8, ⟨⟨HS.out.bx, pw_below_drewN HS.out.below 1⟩⟩⟩)
                              (first | (go_at_call 47; with_reducible refine (HV.out _).mono ?_; rintro e w' ⟨rfl, hb⟩; have hsx := ent_keep hb (by assumption)) | (go_at_call 48; with_reducible refine (HTW.out _).mono ?_; rintro e w' ⟨rfl, hb⟩; have hsx := ent_keep hb (by assumption)))
                            all_goals (
                              rename_i hend
                              have HS9 := hend.2.2.2.2.2.2.2.2
                              clear hend g0 g1 g2 g3 g4 g5 g6 g7 z8
                              go_wp2
                              exact ⟨⟨k + 1, by omega, by go_num, by rw [HNX.out], HS9⟩, by simp [intOf]; omega⟩)
                          · have hnx := ent_join (ws7 ++ (es.take k).flatMap entW) V ⟨#[45]⟩ tw hsm.1
                            rw [List.append_assoc] at hnx
                            have hnx2 : joined (ws7 ++ (es.take (k + 1)).flatMap entW) = joined (ws7 ++ (es.take k).flatMap entW) ++ ((⟨#[32]⟩ : ByteArray) ++ V ++ ⟨#[32]⟩ ++ ⟨#[45]⟩ ++ tw) := by rw [hnext]; exact hnx
                            clear hnx hnext
                            obtain ⟨S, hS⟩ : ∃ S, joined (ws7 ++ (es.take k).flatMap entW) = S := ⟨_, rfl⟩
                            rw [hS] at hj hnx2
                            rw [hS]
                            clear hS hsm
                            have HNX := Aside0.mk hnx2; clear hnx2
                            have p1 : (⟨#[45]⟩ : ByteArray).size = 1 := rfl
                            have q1 : (9223372036854775807 < (⟨#[32]⟩ : ByteArray).size + V.size) = False := eq_false (by rw [Q32.out]; omega)
                            have q2 : (9223372036854775807 < ((⟨#[32]⟩ : ByteArray) ++ V).size + (⟨#[32]⟩ : ByteArray).size) = False := eq_false (by rw [ByteArray.size_append, Q32.out]; omega)
                            have q3 : (9223372036854775807 < ((⟨#[32]⟩ : ByteArray) ++ V ++ ⟨#[32]⟩).size + (⟨#[45]⟩ : ByteArray).size) = False := eq_false (by rw [ByteArray.size_append, ByteArray.size_append, Q32.out, p1]; omega)
                            have q4 : (9223372036854775807 < ((⟨#[32]⟩ : ByteArray) ++ V ++ ⟨#[32]⟩ ++ ⟨#[45]⟩).size + tw.size) = False := eq_false (by rw [ByteArray.size_append, ByteArray.size_append, ByteArray.size_append, Q32.out, p1]; omega)
                            have q5 : (9223372036854775807 < S.size + ((⟨#[32]⟩ : ByteArray) ++ V ++ ⟨#[32]⟩ ++ ⟨#[45]⟩ ++ tw).size) = False := eq_false (by rw [ByteArray.size_append, ByteArray.size_append, ByteArray.size_append, ByteArray.size_append, Q32.out, p1]; omega)
                            have r1 : (9223372036854775807 < 1 + V.size) = False := eq_false (by omega)
                            have r2 : (9223372036854775807 < 1 + V.size + 1) = False := eq_false (by omega)
                            have r3 : (9223372036854775807 < 1 + V.size + 1 + 1) = False := eq_false (by omega)
                            have r4 : (9223372036854775807 < 1 + V.size + 1 + 1 + tw.size) = False := eq_false (by omega)
                            have r5 : (9223372036854775807 < S.size + (1 + V.size + 1 + 1 + tw.size)) = False := eq_false (by omega)
                            clear p1
                            have q0 : (k : Int) < (es.length : Int) := by omega
                            go_upto_region 28 with fail
                            go_region_held3 (fun w' => w'.cell? (ad.add (k * 8)) = some (.int .i64 x0) ∧ w'.cell? ⟨(ad.add (k * 8)).block, (ad.add (k * 8)).off + 1, none⟩ = some (.string x1) ∧ w'.cell? ⟨(ad.add (k * 8)).block, (ad.add (k * 8)).off + 2, none⟩ = some (.string x2) ∧ w'.cell? ⟨(ad.add (k * 8)).block, (ad.add (k * 8)).off + 3, none⟩ = some (.string x3) ∧ w'.cell? ⟨(ad.add (k * 8)).block, (ad.add (k * 8)).off + 4, none⟩ = some (.string x4) ∧ w'.cell? ⟨(ad.add (k * 8)).block, (ad.add (k * 8)).off + 5, none⟩ = some (.string x5) ∧ w'.cell? ⟨(ad.add (k * 8)).block, (ad.add (k * 8)).off + 6, none⟩ = some (.string x6) ∧ w'.cell? ⟨w.heap.size, 8, none⟩ = some (.slice (some ad) es.length ce) ∧ Aside0 (RefSt w w' #[.int .i64 err, .int .i64 line, .string tok, .bool has, .bool cut, .slice At ts.length ct, .slice Au us.length cu, .slice Ai ids.length ci, .slice (some ad) es.length ce, .string t.f0, .slice Ax t.f1.length cx, .slice Ap t.f2.length cp, .slice Ag pages.length cg])) (first | assumption | exact ⟨g0, g1, g2, g3, g4, g5, g6, z8, HS⟩ | exact ⟨g0, g1, g2, g3, g4, g5, g6, z8, ⟨⟨HS.out.bx, pw_below_drewN HS.out.below 1⟩⟩⟩)
                              (first | (go_at_call 47; with_reducible refine (HV.out _).mono ?_; rintro e w' ⟨rfl, hb⟩; have hsx := ent_keep hb (by assumption)) | (go_at_call 48; with_reducible refine (HTW.out _).mono ?_; rintro e w' ⟨rfl, hb⟩; have hsx := ent_keep hb (by assumption)))
                            all_goals (
                              rename_i hend
                              have HS9 := hend.2.2.2.2.2.2.2.2
                              clear hend g0 g1 g2 g3 g4 g5 g6 g7 z8
                              go_wp2
                              exact ⟨⟨k + 1, by omega, by go_num, by rw [HNX.out], HS9⟩, by simp [intOf]; omega⟩)
                        · obtain rfl : k = es.length := by omega
                          rw [List.take_length]
                          have hl8 : (ws7 ++ es.flatMap entW).length ≤ 250 := by rw [List.length_append, entW_len]; omega
                          have hm8 : Sm (ws7 ++ es.flatMap entW) := HM7.out.app (sm_ent es HES.out)
                          obtain ⟨ws8, hws8⟩ : ∃ ws, (ws7 ++ es.flatMap entW) = ws := ⟨_, rfl⟩
                          rw [hws8] at hl8 hm8
                          rw [hws8]
                          have HW8 := Aside0.mk hws8; clear hws8 hlt hk
                          have HM8 := Aside0.mk hm8; clear hm8
                          have z9 := (blk_cell HS.out.bx 9).trans rfl
                          go_upto_if 124 with fail
                          clear z9
                          obtain ⟨bt, hbt⟩ : ∃ b, (!t.f0.toList.isEmpty) = b := ⟨_, rfl⟩
                          rw [hbt]
                          have HBT := Aside0.mk hbt; clear hbt
                          go_cut [0, 3] (fun s0 s3 wx => s3 = .string (joined (ws8 ++ (if t.f0.toList = [] then [] else [⟨#[101, 120, 112, 97, 110, 100]⟩, itoaB (nodes t)]))) ∧ Aside0 (RefSt w wx #[.int .i64 err, .int .i64 line, .string tok, .bool has, .bool cut, .slice At ts.length ct, .slice Au us.length cu, .slice Ai ids.length ci, .slice Ae es.length ce, .string t.f0, .slice Ax t.f1.length cx, .slice Ap t.f2.length cp, .slice Ag pages.length cg]))
                          case first =>
                            cases bt
                            · have HK := Aside0.mk (show t.f0.toList = [] by have := HBT.out; simpa using this)
                              go_wp2
                              go_meet
                              exact ⟨by rw [if_pos HK.out, List.append_nil], HS⟩
                            · have HK := Aside0.mk (show ¬ t.f0.toList = [] by have := HBT.out; simpa using this)
                              have hds := itoaB_size2 (nodes t : Int) HNN.out
                              have hv := fun wx => HIT.out (nodes t : Int) HNN.out wx
                              have hnx := exp_join ws8 (itoaB (nodes t)) HM8.out.1
                              have hj := joined_le ws8 HM8.out
                              obtain ⟨S, hS⟩ : ∃ S, joined ws8 = S := ⟨_, rfl⟩
                              rw [hS] at hnx hj
                              rw [hS]
                              clear hS
                              obtain ⟨V, hV⟩ : ∃ V, itoaB (nodes t : Int) = V := ⟨_, rfl⟩
                              rw [hV] at hv hds hnx
                              have HEV := Aside0.mk hV; clear hV
                              have HNX := Aside0.mk hnx; clear hnx
                              have HV := Aside0.mk hv; clear hv
                              have p1 : (⟨#[32, 101, 120, 112, 97, 110, 100, 32]⟩ : ByteArray).size = 8 := rfl
                              have q1 : (9223372036854775807 < (⟨#[32, 101, 120, 112, 97, 110, 100, 32]⟩ : ByteArray).size + V.size) = False := eq_false (by rw [p1]; omega)
                              have q2 : (9223372036854775807 < S.size + ((⟨#[32, 101, 120, 112, 97, 110, 100, 32]⟩ : ByteArray) ++ V).size) = False := eq_false (by rw [ByteArray.size_append, p1]; omega)
                              have q3 : (9223372036854775807 < 8 + V.size) = False := eq_false (by omega)
                              have q4 : (9223372036854775807 < S.size + (8 + V.size)) = False := eq_false (by omega)
                              clear p1
                              have z9 := (blk_cell HS.out.bx 9).trans rfl; have z10 := (blk_cell HS.out.bx 10).trans rfl; have z11 := (blk_cell HS.out.bx 11).trans rfl
                              go_wp2_with fail
                              refine (HSIZE.out _ HS.out.below).mono ?_
                              rintro e w3 ⟨rfl, hb3⟩
                              have HS3 := Aside0.mk (HS.out.step hb3); clear hb3 z9 z10 z11
                              go_wp2_with fail
                              refine (HV.out _).mono ?_
                              rintro e w4 ⟨rfl, hb4⟩
                              have HS4 := Aside0.mk (HS3.out.step hb4); clear hb4
                              go_wp2
                              go_meet
                              exact ⟨by rw [if_neg HK.out, HEV.out, HNX.out], HS4⟩
                          case rest =>
                            clear HS
                            obtain ⟨rfl, HS⟩ := hcut
                            have hl9 : (ws8 ++ (if t.f0.toList = [] then [] else [⟨#[101, 120, 112, 97, 110, 100]⟩, itoaB (nodes t)]) : List ByteArray).length ≤ 260 := by rw [List.length_append]; split <;> simp <;> omega
                            have hm9 : Sm (ws8 ++ (if t.f0.toList = [] then [] else [⟨#[101, 120, 112, 97, 110, 100]⟩, itoaB (nodes t)]) : List ByteArray) := HM8.out.app (sm_ite sm_nil (sm_two (by decide) (by have := itoaB_size2 _ HNN.out; omega)))
                            obtain ⟨ws9, hws9⟩ : ∃ ws, (ws8 ++ (if t.f0.toList = [] then [] else [⟨#[101, 120, 112, 97, 110, 100]⟩, itoaB (nodes t)]) : List ByteArray) = ws := ⟨_, rfl⟩
                            rw [hws9] at hl9 hm9
                            rw [hws9]
                            have HW9 := Aside0.mk hws9; clear hws9
                            have HM9 := Aside0.mk hm9; clear hm9
                            go_upto_region 32 with fail
                            go_loopw [3, 9] (fun s i wx => ∃ k : Nat, k ≤ pages.length ∧ i = .int .i64 k ∧ s = .string (joined (ws9 ++ (pages.take k).map itoaB)) ∧ Aside0 (RefSt w wx #[.int .i64 err, .int .i64 line, .string tok, .bool has, .bool cut, .slice At ts.length ct, .slice Au us.length cu, .slice Ai ids.length ci, .slice Ae es.length ce, .string t.f0, .slice Ax t.f1.length cx, .slice Ap t.f2.length cp, .slice Ag pages.length cg])) (fun _ i _ => pages.length - (intOf i).toNat)
                            case atStart => exact ⟨0, by omega, rfl, by simp, HS⟩
                            case round =>
                              clear HS
                              obtain ⟨k, hk, rfl, rfl, HS⟩ := hrel
                              have z12 := (blk_cell HS.out.bx 12).trans rfl
                              by_cases hlt : k < pages.length
                              · obtain ⟨ad, rfl, g0⟩ := Kd.at_int HRG.out (k : Int) (by omega) (by omega)
                                replace g0 := below_cell0 HS.out.below g0
                                have e5 : ((k : Int)).toNat = k := by simp
                                have e6 : rd pages (k : Int) = pages[k] := by unfold rd; simp [hlt]
                                rw [e5, e6] at g0
                                clear e5 e6
                                have hnext := map_next itoaB pages k hlt
                                have hx0 := HPG.out pages[k] (List.getElem_mem hlt)
                                have hsm : Sm (ws9 ++ (pages.take k).map itoaB) := HM9.out.app (fun x hx => (sm_num pages HPG.out) x (by obtain ⟨y, hy, rfl⟩ := List.mem_map.1 hx; exact List.mem_map.2 ⟨y, List.mem_of_mem_take hy, rfl⟩))
                                have hj := joined_le (ws9 ++ (pages.take k).map itoaB) hsm
                                have hjl : (ws9 ++ (pages.take k).map itoaB).length ≤ 400 := by simp; omega
                                obtain ⟨x, hx⟩ : ∃ x, pages[k] = x := ⟨_, rfl⟩
                                rw [hx] at g0 hnext hx0
                                clear hx
                                have hnx := joined_snoc (ws9 ++ (pages.take k).map itoaB) (itoaB x) hsm.1
                                rw [List.append_assoc, ← hnext] at hnx
                                clear hnext
                                have hts := itoaB_size2 x hx0
                                have hv := fun wx => HIT.out x hx0 wx
                                clear hx0
                                obtain ⟨tw, htw⟩ : ∃ tw, itoaB x = tw := ⟨_, rfl⟩
                                rw [htw] at hv hts hnx
                                clear htw
                                have HV := Aside0.mk hv; clear hv
                                obtain ⟨S, hS⟩ : ∃ S, joined (ws9 ++ (pages.take k).map itoaB) = S := ⟨_, rfl⟩
                                rw [hS] at hj hnx
                                rw [hS]
                                clear hS hsm
                                have HNX := Aside0.mk hnx; clear hnx
                                have q1 : (9223372036854775807 < (⟨#[32]⟩ : ByteArray).size + tw.size) = False := eq_false (by rw [Q32.out]; omega)
                                have q2 : (9223372036854775807 < S.size + ((⟨#[32]⟩ : ByteArray) ++ tw).size) = False := eq_false (by rw [ByteArray.size_append, Q32.out]; omega)
                                have q3 : (9223372036854775807 < 1 + tw.size) = False := eq_false (by omega)
                                have q4 : (9223372036854775807 < S.size + (1 + tw.size)) = False := eq_false (by omega)
                                have q0 : (k : Int) < (pages.length : Int) := by omega
                                go_wp2_with fail
                                refine (HV.out _).mono ?_
                                rintro e w2 ⟨rfl, hb2⟩
                                have HS2 := Aside0.mk (HS.out.step hb2); clear hb2 g0 z12
                                go_wp2
                                exact ⟨⟨k + 1, by omega, by go_num, by rw [HNX.out], HS2⟩, by simp [intOf]; omega⟩
                              · obtain rfl : k = pages.length := by omega
                                rw [List.take_length]
                                have hl10 : (ws9 ++ pages.map itoaB).length ≤ 320 := by rw [List.length_append, List.length_map]; omega
                                have hm10 : Sm (ws9 ++ pages.map itoaB) := HM9.out.app (sm_num pages HPG.out)
                                obtain ⟨ws10, hws10⟩ : ∃ ws, (ws9 ++ pages.map itoaB) = ws := ⟨_, rfl⟩
                                rw [hws10] at hl10 hm10
                                rw [hws10]
                                have HW10 := Aside0.mk hws10; clear hws10 hlt hk
                                have HM10 := Aside0.mk hm10; clear hm10
                                have hall : ws10 = ans := by
                                  rw [← HANS.out, ← HW10.out, ← HW9.out, ← HW8.out, ← HW7.out, ← HW6.out, ← HW5.out, ← HW4.out, ← HW3.out, ← HW2.out, ← HW1.out]
                                  rfl
                                subst hall
                                have hj := joined_le ws10 HM10.out
                                obtain ⟨J, hJ⟩ : ∃ J, joined ws10 = J := ⟨_, rfl⟩
                                rw [hJ] at hj
                                rw [hJ]
                                have HJ := Aside0.mk hJ; clear hJ
                                have q4 : (9223372036854775807 < J.size + (⟨#[10]⟩ : ByteArray).size) = False := eq_false (by have : (⟨#[10]⟩ : ByteArray).size = 1 := rfl; omega)
                                have q5 : (9223372036854775807 < J.size + 1) = False := eq_false (by omega)
                                go_wp2
                                go_ret
                                exact ⟨by rw [HJ.out]; rfl, HS.out.below⟩
end Go.Proofs.YtbdoafigggcdpaaGreatDoor.PScr
