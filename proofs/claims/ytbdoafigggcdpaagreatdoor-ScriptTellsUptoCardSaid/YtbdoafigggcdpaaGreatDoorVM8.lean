/- The walk of script.text. No condition of ours. -/
import Derived.Test.YtbdoafigggcdpaaGreatDoorVM7
import Derived.Lib.QuietBelow
import Derived.Lib.AppendIntMem
namespace Go.Proofs.YtbdoafigggcdpaaGreatDoor.PScr
open Go.RowKit Go.Proofs.YtbdoafigggcdpaaGreatDoorW.PrintWords Go.Proofs.YtbdoafigggcdpaaGreatDoorW.PrintLast Go.Proofs.YtbdoafigggcdpaaGreatDoorW.PrintMore
set_option linter.unusedVariables false
set_option linter.unusedSimpArgs false

def itoaB (n : Int) : ByteArray := ⟨(Lib.itoa n).toArray⟩
theorem own_blk {w : World} {base : Nat} {e : TypeId} {size : Nat} {v : Value} {n : Nat} {xs : List Value} (h : w.ownsRow base e size v n xs) (k : Nat) (hk : v.ownBlock = some k) : base ≤ k ∧ k < w.heap.size := by
  rcases h.2 with ⟨rfl, _⟩ | ⟨g, cap, cur, rfl, hb, hg, _⟩
  · simp [Value.ownBlock] at hk
  · simp only [Value.ownBlock, Option.some.injEq] at hk
    subst hk
    exact ⟨hb, blk_lt hg⟩
theorem news1 {w : World} {g : Nat} {x : Value} {t : TypeId} (h : w.heap[g]? = some (.cells #[x] t (0, 0))) : ∀ j u, [x][j]? = some u → w.cell? ((⟨g, 0, none⟩ : Addr).add j) = some u := by
  intro j u hj
  match j, hj with
  | 0, hj => simp at hj; subst hj; simp only [Addr.add]; simp only [if_true]; rw [blk_cell h]; rfl
/-- the words of a line, its numbers behind -/
def wordsN (word : ByteArray) (xs : List Int) : List ByteArray := word :: xs.map itoaB
theorem wordsN_take (word : ByteArray) (xs : List Int) (k : Nat) (hk : k < xs.length) : (wordsN word (xs.take (k + 1))).map Value.string = (wordsN word (xs.take k)).map Value.string ++ [.string (itoaB (rd xs k))] := by
  have e : rd xs (k : Int) = xs[k] := by unfold rd; simp [hk]
  have e2 : xs.take (k + 1) = xs.take k ++ [rd xs (k : Int)] := by rw [e]; exact (List.take_append_getElem hk).symm
  rw [e2]
  simp [wordsN]
theorem Facts.tabBelow {w w1 : World} (F : Facts w) (h : Below w.heap.size w w1) : Lib.TabIs Tryz.prog w1 "internal/strconv.uint64pow10" .u64 Lib.pow10Tab := var_below h F.tab

/-- a tuple's word: its sign ahead, where there are signs -/
def tword (signs : ByteArray) (i : Nat) (t : S51) : ByteArray := if signs.toList = [] then tupleText t.f0 t.f1 t.f2 t.f3.f0 t.f3.f1 t.f3.f2 else signs.extract i (i + 1) ++ tupleText t.f0 t.f1 t.f2 t.f3.f0 t.f3.f1 t.f3.f2
def wordsT (signs : ByteArray) (ts : List S51) (k : Nat) : List ByteArray := (List.range k).map fun i => tword signs i (rd_T51 ts (i : Int))
theorem wordsT_succ (ws : List ByteArray) (signs : ByteArray) (ts : List S51) (k : Nat) : (ws ++ wordsT signs ts (k + 1)).map Value.string = (ws ++ wordsT signs ts k).map Value.string ++ [.string (tword signs k (rd_T51 ts (k : Int)))] := by
  simp [wordsT, List.range_succ]
theorem tupleText_size {t : S51} (h : t.bad = false) : (tupleText t.f0 t.f1 t.f2 t.f3.f0 t.f3.f1 t.f3.f2).size ≤ 1000 := by
  unfold S51.bad at h
  have h0 : tupleOk t.f0 t.f1 t.f2 t.f3.f0 t.f3.f1 t.f3.f2 = true := by simpa using h
  obtain ⟨a0, a1, a2, a3, a4, a5, a6⟩ := tuple_sizes h0
  have := userText_size t.f3.f0 t.f3.f1 t.f3.f2 a4 a5 a6
  have e1 : (⟨#[58]⟩ : ByteArray).size = 1 := rfl
  have e2 : (⟨#[35]⟩ : ByteArray).size = 1 := rfl
  have e3 : (⟨#[64]⟩ : ByteArray).size = 1 := rfl
  unfold tupleText
  simp only [ByteArray.size_append]
  omega
/-- strings joined by a space -/
def joined (vs : List ByteArray) : ByteArray := ⟨(Lib.join (vs.map (·.data.toList)) [32]).toArray⟩
/-- a line's text -/
def lineText (word : ByteArray) (xs : List Int) (ts : List S51) (signs text : ByteArray) : ByteArray := joined (wordsN word xs ++ wordsT signs ts ts.length ++ (if text.toList = [] then [] else [text])) ++ ⟨#[10]⟩
theorem digits_len (n : Nat) : ∀ (u : Nat), u < 10 ^ (n + 1) → (Lib.decDigits u).length ≤ n + 1 := by
  induction n with
  | zero => intro u hu; unfold Lib.decDigits; rw [dif_pos (by simpa using hu)]; simp
  | succ n ih =>
    intro u hu
    unfold Lib.decDigits
    split
    · simp
    · have := ih (u / 10) (by rw [Nat.pow_succ] at hu; omega)
      simp; omega
theorem itoaB_size (n : Int) (h0 : 0 ≤ n) (h1 : n ≤ 1000000) : (itoaB n).size ≤ 20 := by
  obtain ⟨v, rfl⟩ := Int.eq_ofNat_of_zero_le h0
  have := digits_len 9 v (by omega)
  have e : Lib.itoa (v : Int) = Lib.decDigits v := by unfold Lib.itoa; rw [if_neg (by omega)]; simp
  unfold itoaB
  rw [e]
  show (Lib.decDigits v).toArray.size ≤ 20
  simp; omega
theorem words_size (word : ByteArray) (xs : List Int) (ts : List S51) (signs : ByteArray) (hwd : word.size ≤ 100) (hxs : ∀ i : Nat, i < xs.length → 0 ≤ rd xs i ∧ rd xs i ≤ 1000000) (hts : ∀ i : Nat, i < ts.length → (rd_T51 ts (i : Int)).bad = false) :
    ∀ x ∈ wordsN word xs ++ wordsT signs ts ts.length, x.size ≤ 1200 := by
  intro x hx
  rcases List.mem_append.1 hx with h | h
  · unfold wordsN at h
    rcases List.mem_cons.1 h with rfl | h
    · omega
    · obtain ⟨n, hn, rfl⟩ := List.mem_map.1 h
      obtain ⟨i, hi, rfl⟩ := List.getElem_of_mem hn
      have hh := hxs i hi
      have e : rd xs (i : Int) = xs[i] := by unfold rd; simp [hi]
      rw [e] at hh
      have := itoaB_size xs[i] hh.1 hh.2
      omega
  · unfold wordsT at h
    obtain ⟨i, hi, rfl⟩ := List.mem_map.1 h
    have hz := tupleText_size (hts i (List.mem_range.1 hi))
    unfold tword
    split
    · omega
    · have : (signs.extract i (i + 1)).size ≤ 1 := by rw [ByteArray.size_extract]; omega
      rw [ByteArray.size_append]; omega
theorem lens_le (m : Nat) : ∀ (vs : List ByteArray), (∀ x ∈ vs, x.size ≤ m) → Lib.lens (vs.map (·.data.toList)) ≤ m * vs.length
  | [], _ => by simp [Lib.lens]
  | x :: r, h => by
    have h1 := h x (by simp)
    have h2 := lens_le m r (fun y hy => h y (by simp [hy]))
    have e : x.data.toList.length = x.size := by rw [Array.length_toList]; rfl
    simp only [List.map_cons, Lib.lens, List.length_cons, List.sum_cons] at h2 ⊢
    have h3 : m * (r.length + 1) = m * r.length + m := Nat.mul_succ _ _
    omega
theorem joined_size (vs : List ByteArray) (h : vs.length ≤ 30) (hs : ∀ x ∈ vs, x.size ≤ 1200) : (joined vs).size ≤ 100000 := by
  have e : (joined vs).size = (Lib.join (vs.map (·.data.toList)) [32]).length := by unfold joined; show (List.toArray _).size = _; simp
  rw [e]
  cases vs with
  | nil => simp [Lib.join_nil]
  | cons x r =>
    have := lens_le 1200 (x :: r) hs
    rw [List.map_cons, Lib.join_length]
    rw [List.map_cons] at this
    simp only [List.length_map, List.length_cons, List.length_nil] at this h ⊢
    omega
theorem joinOwn_any {w : World} {base n : Nat} {v : Value} {vs : List ByteArray} (h : w.ownsRow base 9 1 v n (vs.map Value.string)) (hn : n ≤ 100) (hpos : 0 < n) (hl : (joined vs).size ≤ 100000) :
    Calls Tryz.prog 46 #[v, .string ⟨#[32]⟩] w fun e w' => e = .returned (.string (joined vs)) ∧ Below w.heap.size w w' := by
  obtain ⟨hlen, h2⟩ := h
  rw [List.length_map, Nat.mul_one] at hlen
  rcases h2 with ⟨rfl, h0⟩ | ⟨g, cap, cur, rfl, hb, hg, h3, h4, h5, h6⟩
  · omega
  · have hc : ∀ (j : Nat) x, vs[j]? = some x → w.cell? ⟨g, 0 + j, none⟩ = some (.string x) := by
      intro j x hx
      have hj : j < vs.length := (List.getElem?_eq_some_iff.1 hx).1
      rw [Nat.zero_add, blk_cell hg]
      have h7 : (cur.toList.take (n * 1))[j]? = (vs.map Value.string)[j]? := by rw [h6]
      rw [List.getElem?_take, if_pos (by omega)] at h7
      rw [← Array.getElem?_toList, h7]
      simp [hx]
    have := Tryz.strings_Join g 0 cap vs ⟨#[32]⟩ w hc (blk_lt hg) (by omega) (by omega) (by
      have e : (joined vs).size = (Lib.join (vs.map (·.data.toList)) [32]).length := by unfold joined; show (List.toArray _).size = _; simp
      show (Lib.join (vs.map (·.data.toList)) [32]).length ≤ _
      omega)
    rw [hlen] at this
    exact this
set_option maxRecDepth 100000 in
set_option maxHeartbeats 8000000 in
theorem textL_any (w0 : World) (F : Facts w0) (word : ByteArray) (A1 : Option Addr) (c1 : Nat) (xs : List Int) (A2 : Option Addr) (c2 : Nat) (ts : List S51) (signs text : ByteArray)
    (hx : xs.length ≤ 16) (hxs : ∀ i : Nat, i < xs.length → 0 ≤ rd xs i ∧ rd xs i ≤ 1000000) (ht : ts.length ≤ 8) (hts : ∀ i : Nat, i < ts.length → (rd_T51 ts (i : Int)).bad = false) (hsg : signs.toList = [] ∨ signs.size = ts.length) (htx : text.size ≤ 100) (hwd : word.size ≤ 100) (w : World) (hB0 : Below w0.heap.size w0 w) (hr1 : (Kd.int .i64).C w A1 xs.length xs) (hr2 : Kd.C k51 w A2 ts.length ts) :
    Calls Tryz.prog 35 #[.agg #[.string word, .slice A1 xs.length c1, .slice A2 ts.length c2, .string signs, .string text]] w fun e' w' => e' = .returned (.string (lineText word xs ts signs text)) ∧ Below w.heap.size w w' := by
  obtain ⟨i0, hi, hz0, hz1, hz2⟩ := info_parts info9
  have hu29 := Tryz.underlying29
  have HL := Aside0.mk (box_blk w #[.string word, .slice A1 xs.length c1, .slice A2 ts.length c2, .string signs, .string text] 29)
  have HB := Aside0.mk (below_alloc (Below.refl w.heap.size w) (.cells #[.string word, .slice A1 xs.length c1, .slice A2 ts.length c2, .string signs, .string text] 29))
  have hsz : (w.alloc (.cells #[.string word, .slice A1 xs.length c1, .slice A2 ts.length c2, .string signs, .string text] 29)).heap.size = w.heap.size + 1 := by simp
  have HR1 := Aside0.mk hr1; clear hr1
  have HR2 := Aside0.mk hr2; clear hr2
  have HX := Aside0.mk hxs; clear hxs
  have HB0 := Aside0.mk hB0; clear hB0
  have HTS := Aside0.mk hts; clear hts
  have HSGN := Aside0.mk hsg; clear hsg
  have hu51 := Tryz.underlying51
  have HHI := Aside0.mk hi
  go_enter Tryz.func35, Tryz.ntmps35
  go_upto_region 3 with fail
  go_loopw [3, 16] (fun v i wr => ∃ k : Nat, k ≤ xs.length ∧ i = .int .i64 k ∧ wr.ownsRow (w.heap.size + 1) 9 1 v (k + 1) ((wordsN word (xs.take k)).map Value.string) ∧ Aside0 (wr.heap[w.heap.size]? = some (.cells #[.string word, .slice A1 xs.length c1, .slice A2 ts.length c2, .string signs, .string text] 29 (0, 0))) ∧ Below w.heap.size w wr) (fun _ i _ => xs.length - (intOf i).toNat)
  case atStart =>
    have hb1 := box_blk (w.alloc (.cells #[.string word, .slice A1 xs.length c1, .slice A2 ts.length c2, .string signs, .string text] 29)) #[.string word] 9
    rw [hsz] at hb1
    refine ⟨0, by omega, rfl, ⟨rfl, .inr ⟨w.heap.size + 1, 1, #[.string word], rfl, Nat.le_refl _, hb1, by omega, by simp [maxLen], rfl, rfl⟩⟩, ⟨blk_below HL.out (below_alloc (Below.refl _ _) _)⟩, below_alloc HB.out _⟩
  case round =>
    obtain ⟨k, hk, rfl, hown, HL1, hb⟩ := hrel
    have HB1 := Aside0.mk hb; clear hb
    have HO := Aside0.mk hown; clear hown
    by_cases hlt : k < xs.length
    · obtain ⟨ad, rfl, g0⟩ := Kd.at_int HR1.out (k : Int) (by omega) (by omega)
      replace g0 := below_cell0 HB1.out g0
      have hrng := HX.out k hlt
      have hnext := Aside0.mk (wordsN_take word xs k hlt)
      obtain ⟨y, hy⟩ : ∃ y, rd xs (k : Int) = y := ⟨_, rfl⟩
      rw [hy] at g0 hrng hnext
      have e5 : ((k : Int)).toNat = k := by simp
      rw [e5] at g0
      clear hy e5
      have q1 : (k : Int) < (xs.length : Int) := by omega
      have hit := Tryz.strconv_Itoa y (by omega) (by omega) wr ((F.tabBelow (HB0.out)) |> fun t => (show Lib.TabIs Tryz.prog wr "internal/strconv.uint64pow10" .u64 Lib.pow10Tab from var_below HB1.out t))
      have hit' : Calls Tryz.prog 42 #[.int .i64 y] wr fun e w' => e = .returned (.string (itoaB y)) ∧ Below wr.heap.size wr w' := hit.mono fun e w' ⟨h1, n, os, h2⟩ => ⟨h1, by rw [h2]; exact Lib.below_grow _ _ (Nat.le_refl _) _ _⟩
      clear hit hrng
      obtain ⟨z, hz⟩ : ∃ z, itoaB y = z := ⟨_, rfl⟩
      rw [hz] at hit' hnext
      clear hz
      go_wp2_with (first
        | (go_at_call 42; refine hit'.mono ?_; rintro e' w2 ⟨rfl, hb⟩; have HL2 := Aside0.mk (blk_below HL1.out hb); have HB2 := Aside0.mk (below_step HB1.out hb); have HO2 := Aside0.mk (pw_own_below HO.out hb); clear hb)
        | (at_builtin; refine wpList_append_own _ rfl _ _ 40 rfl (w.heap.size + 1) 9 i0 (.string ⟨#[]⟩) 1 16 Tryz.underlying40 hi hz0 hz1 hz2 rfl (by decide) _ _ _ rfl (HO2.out.alloc _) ⟨w2.heap.size, 0, none⟩ 1 1 [.string z] rfl rfl (news1 (blk_new _ _)) ?c2 ?c3 ?c4 ?c5 ?_))
      case c2 => intro u hu; simp at hu; subst hu; rfl
      case c3 => unfold maxLen; omega
      case c4 => omega
      case c5 => have := HB2.out.size; have := blk_lt HL2.out; simp; omega
      intro v' w3 hown' hgrow _
      have hb1 := (below_alloc HB2.out _).grown hgrow (by have := HB2.out.size; simp; omega) (fun q hq => by have := (own_blk HO2.out q hq).1; omega)
      have hl1 := blk_grown (blk_alloc HL2.out _) hgrow (fun h => by have := (own_blk HO2.out _ h.symm).1; omega)
      have HO3 := Aside0.mk hown'; clear hown'
      have HB3 := Aside0.mk hb1; clear hb1 hgrow
      have HL3 := Aside0.mk hl1; clear hl1
      go_wp2
      exact ⟨⟨k + 1, by omega, by go_num, by rw [hnext.out]; exact HO3.out, HL3, HB3.out⟩, by simp [intOf]; omega⟩
    · obtain rfl : k = xs.length := by omega
      have hall := HO.out
      rw [List.take_of_length_le (Nat.le_refl _)] at hall
      obtain ⟨ws, hws⟩ : ∃ ws, wordsN word xs = ws := ⟨_, rfl⟩
      obtain ⟨n0, hn0⟩ : ∃ n0, xs.length + 1 = n0 := ⟨_, rfl⟩
      rw [hws, hn0] at hall
      have hnl : n0 ≤ 17 := by omega
      have HWS := Aside0.mk hws; clear hws
      have HN0 := Aside0.mk hn0; clear hn0 HO
      have HO := Aside0.mk hall; clear hall
      have l0 := (blk_cell HL1.out 0).trans rfl; have l1 := (blk_cell HL1.out 1).trans rfl; have l2 := (blk_cell HL1.out 2).trans rfl; have l3 := (blk_cell HL1.out 3).trans rfl; have l4 := (blk_cell HL1.out 4).trans rfl
      go_upto_region 8 with fail
      clear l0 l1 l2 l3 l4
      go_loopw [3, 29] (fun v i wx => ∃ k : Nat, k ≤ ts.length ∧ i = .int .i64 k ∧ wx.ownsRow (w.heap.size + 1) 9 1 v (n0 + k) ((ws ++ wordsT signs ts k).map Value.string) ∧ Aside0 (wx.heap[w.heap.size]? = some (.cells #[.string word, .slice A1 xs.length c1, .slice A2 ts.length c2, .string signs, .string text] 29 (0, 0))) ∧ Below w.heap.size w wx) (fun _ i _ => ts.length - (intOf i).toNat)
      case atStart => exact ⟨0, by omega, rfl, by simpa [wordsT] using HO.out, HL1, HB1.out⟩
      case round =>
        clear HO HL1 HB1
        obtain ⟨k, hk, rfl, hown, HL1, hb⟩ := hrel
        have HB1 := Aside0.mk hb; clear hb
        have HO := Aside0.mk hown; clear hown
        have l3 := (blk_cell HL1.out 3).trans rfl
        by_cases hlt : k < ts.length
        · obtain ⟨ad, rfl, g0, g1, g2, g3, g4, g5⟩ := at_T51 HR2.out (k : Int) (by omega) (by omega)
          replace g0 := below_cell0 HB1.out g0
          replace g1 := below_cell0 HB1.out g1
          replace g2 := below_cell0 HB1.out g2
          replace g3 := below_cell0 HB1.out g3
          replace g4 := below_cell0 HB1.out g4
          replace g5 := below_cell0 HB1.out g5
          have hbad := HTS.out k hlt
          have hsize := tupleText_size hbad
          have hnext := Aside0.mk (wordsT_succ ws signs ts k)
          have hsh := fun w => showTuple_any (rd_T51 ts (k : Int)).f0 (rd_T51 ts (k : Int)).f1 (rd_T51 ts (k : Int)).f2 (rd_T51 ts (k : Int)).f3.f0 (rd_T51 ts (k : Int)).f3.f1 (rd_T51 ts (k : Int)).f3.f2 w
          have hok : tupleOk (rd_T51 ts (k : Int)).f0 (rd_T51 ts (k : Int)).f1 (rd_T51 ts (k : Int)).f2 (rd_T51 ts (k : Int)).f3.f0 (rd_T51 ts (k : Int)).f3.f1 (rd_T51 ts (k : Int)).f3.f2 = true := by unfold S51.bad at hbad; simpa using hbad
          simp only [hok, if_true] at hsh
          obtain ⟨t, hte⟩ : ∃ t, rd_T51 ts (k : Int) = t := ⟨_, rfl⟩
          rw [hte] at g0 g1 g2 g3 g4 g5 hsh hsize hnext
          have e5 : ((k : Int)).toNat = k := by simp
          rw [e5] at g0 g1 g2 g3 g4 g5
          clear hte e5 hbad hok
          have q1 : (k : Int) < (ts.length : Int) := by omega
          obtain ⟨tt, htt⟩ : ∃ tt, tupleText t.f0 t.f1 t.f2 t.f3.f0 t.f3.f1 t.f3.f2 = tt := ⟨_, rfl⟩
          rw [htt] at hsh hsize
          unfold tword at hnext
          rw [htt] at hnext
          clear htt
          by_cases hse : signs.toList = []
          · have s1 : (signs.toList != []) = false := by rw [hse]; rfl
            have s2 : signs.toList.isEmpty = true := by rw [hse]; rfl
            rw [if_pos hse] at hnext
            clear hse
            go_wp2_with (first
              | (go_at_call 43; refine (hsh _).mono ?_; rintro e' w2 ⟨rfl, hb⟩; have HL2 := Aside0.mk (blk_below (blk_alloc HL1.out _) hb); have HB2 := Aside0.mk (below_step (below_alloc HB1.out _) hb); have HO2 := Aside0.mk (pw_own_below (own_alloc HO.out _) hb); clear hb; have m3 := (blk_cell HL2.out 3).trans rfl)
              | (at_builtin; refine wpList_append_own _ rfl _ _ 40 rfl (w.heap.size + 1) 9 i0 (.string ⟨#[]⟩) 1 16 Tryz.underlying40 hi hz0 hz1 hz2 rfl (by decide) _ _ _ rfl (HO2.out.alloc _) ⟨w2.heap.size, 0, none⟩ 1 1 [.string (tt)] rfl rfl (news1 (blk_new _ _)) ?c2 ?c3 ?c4 ?c5 ?_))
            case c2 => intro u hu; simp at hu; subst hu; rfl
            case c3 => unfold maxLen; omega
            case c4 => omega
            case c5 => have := HB2.out.size; have := blk_lt HL2.out; simp; omega
            intro v' w3 hown' hgrow _
            have hb1 := (below_alloc HB2.out _).grown hgrow (by have := HB2.out.size; simp; omega) (fun q hq => by have := (own_blk HO2.out q hq).1; omega)
            have hl1 := blk_grown (blk_alloc HL2.out _) hgrow (fun h => by have := (own_blk HO2.out _ h.symm).1; omega)
            have HO3 := Aside0.mk hown'; clear hown'
            have HB3 := Aside0.mk hb1; clear hb1 hgrow
            have HL3 := Aside0.mk hl1; clear hl1
            go_wp2
            exact ⟨⟨k + 1, by omega, by go_num, by rw [hnext.out, ← Nat.add_assoc]; simpa [List.map_append, List.append_assoc] using HO3.out, HL3, HB3.out⟩, by simp [intOf]; omega⟩
          · have s1 : (signs.toList != []) = true := bne_iff_ne.2 hse
            have s2 : signs.toList.isEmpty = false := by simpa using hse
            rw [if_neg hse] at hnext
            have hsn : signs.size = ts.length := HSGN.out.resolve_left hse
            have q2 : (k : Int) + 1 ≤ (signs.size : Int) := by omega
            have q3 : (signs.extract k (k + 1)).size ≤ 1 := by rw [ByteArray.size_extract]; omega
            have q4 : (9223372036854775807 < (signs.extract k (k + 1)).size + tt.size) = False := eq_false (by omega)
            have q5 : k + 1 ≤ signs.size := by omega
            clear hse hsn
            go_wp2_with (first
              | (go_at_call 43; refine (hsh _).mono ?_; rintro e' w2 ⟨rfl, hb⟩; have HL2 := Aside0.mk (blk_below (blk_alloc HL1.out _) hb); have HB2 := Aside0.mk (below_step (below_alloc HB1.out _) hb); have HO2 := Aside0.mk (pw_own_below (own_alloc HO.out _) hb); clear hb; have m3 := (blk_cell HL2.out 3).trans rfl)
              | (at_builtin; refine wpList_append_own _ rfl _ _ 40 rfl (w.heap.size + 1) 9 i0 (.string ⟨#[]⟩) 1 16 Tryz.underlying40 hi hz0 hz1 hz2 rfl (by decide) _ _ _ rfl (HO2.out.alloc _) ⟨w2.heap.size, 0, none⟩ 1 1 [.string (signs.extract k (k + 1) ++ tt)] rfl rfl (news1 (blk_new _ _)) ?c2 ?c3 ?c4 ?c5 ?_))
            case c2 => intro u hu; simp at hu; subst hu; rfl
            case c3 => unfold maxLen; omega
            case c4 => omega
            case c5 => have := HB2.out.size; have := blk_lt HL2.out; simp; omega
            intro v' w3 hown' hgrow _
            have hb1 := (below_alloc HB2.out _).grown hgrow (by have := HB2.out.size; simp; omega) (fun q hq => by have := (own_blk HO2.out q hq).1; omega)
            have hl1 := blk_grown (blk_alloc HL2.out _) hgrow (fun h => by have := (own_blk HO2.out _ h.symm).1; omega)
            have HO3 := Aside0.mk hown'; clear hown'
            have HB3 := Aside0.mk hb1; clear hb1 hgrow
            have HL3 := Aside0.mk hl1; clear hl1
            go_wp2
            exact ⟨⟨k + 1, by omega, by go_num, by rw [hnext.out, ← Nat.add_assoc]; simpa [List.map_append, List.append_assoc] using HO3.out, HL3, HB3.out⟩, by simp [intOf]; omega⟩
        · obtain rfl : k = ts.length := by omega
          have hall := HO.out
          obtain ⟨vs, hvs⟩ : ∃ vs, ws ++ wordsT signs ts ts.length = vs := ⟨_, rfl⟩
          obtain ⟨n1, hn1⟩ : ∃ n1, n0 + ts.length = n1 := ⟨_, rfl⟩
          rw [hvs, hn1] at hall
          have hnl1 : n1 ≤ 25 := by omega
          have hn0p : 0 < n0 := by have := HN0.out; omega
          have hn1p : 0 < n1 := by omega
          have hvl : vs.length = n1 := by have := hall.1; simpa using this
          have hvz : ∀ x ∈ vs, x.size ≤ 1200 := by
            rw [← hvs, ← HWS.out]
            exact words_size word xs ts signs hwd HX.out HTS.out
          have HVS := Aside0.mk hvs; clear hvs
          have HN1 := Aside0.mk hn1; clear hn1 HO
          have HO := Aside0.mk hall; clear hall
          clear l3
          have l4 := (blk_cell HL1.out 4).trans rfl
          by_cases hte : text.toList = []
          · have s1 : (text.toList != []) = false := by rw [hte]; rfl
            have s2 : text.toList.isEmpty = true := by rw [hte]; rfl
            have HTE := Aside0.mk hte; clear hte
            have hjs : (joined vs).size ≤ 100000 := joined_size vs (by omega) hvz
            clear hvl hvz
            have hj := joinOwn_any HO.out (by omega) (by omega) hjs
            go_wp2_with (first | (go_at_call 46; refine hj.mono ?_; rintro e' w4 ⟨rfl, hb⟩))
            go_ret
            refine ⟨?_, below_step HB1.out hb⟩
            unfold lineText
            rw [HWS.out, HVS.out, if_pos HTE.out, List.append_nil]
            rfl
          · have s1 : (text.toList != []) = true := bne_iff_ne.2 hte
            have s2 : text.toList.isEmpty = false := by simpa using hte
            have HTE := Aside0.mk hte; clear hte
            have hjs : (joined (vs ++ [text])).size ≤ 100000 := joined_size (vs ++ [text]) (by simp; omega) (fun x hx => by
              rcases List.mem_append.1 hx with h | h
              · exact hvz x h
              · simp at h; subst h; omega)
            clear hvl hvz
            go_wp2_with (first
              | (at_builtin; refine wpList_append_own _ rfl _ _ 40 rfl (w.heap.size + 1) 9 i0 (.string ⟨#[]⟩) 1 16 Tryz.underlying40 hi hz0 hz1 hz2 rfl (by decide) _ _ _ rfl (HO.out.alloc _) ⟨wr.heap.size, 0, none⟩ 1 1 [.string text] rfl rfl (news1 (blk_new _ _)) ?c2 ?c3 ?c4 ?c5 ?_))
            case c2 => intro u hu; simp at hu; subst hu; rfl
            case c3 => unfold maxLen; omega
            case c4 => omega
            case c5 => have := HB1.out.size; have := blk_lt HL1.out; simp; omega
            intro v' w3 hown' hgrow _
            have hb1 := (below_alloc HB1.out _).grown hgrow (by have := HB1.out.size; simp; omega) (fun q hq => by have := (own_blk HO.out q hq).1; omega)
            have HB3 := Aside0.mk hb1; clear hb1 hgrow
            have hown2 : w3.ownsRow (w.heap.size + 1) 9 1 v' (n1 + 1) ((vs ++ [text]).map Value.string) := by simpa using hown'
            clear hown'
            have hj := joinOwn_any hown2 (by omega) (by omega) hjs
            clear hown2
            go_wp2_with (first | (go_at_call 46; refine hj.mono ?_; rintro e' w4 ⟨rfl, hb⟩))
            go_ret
            refine ⟨?_, below_step HB3.out hb⟩
            unfold lineText
            rw [HWS.out, HVS.out, if_neg HTE.out]
            rfl
end Go.Proofs.YtbdoafigggcdpaaGreatDoor.PScr
