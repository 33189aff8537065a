/- The walks of tuple.parse and tuple.Read. No condition of ours. -/
import Derived.Test.YtbdoafigggcdpaaGreatDoorVM3
import Derived.Test.YtbdoafigggcdpaaGreatDoorVShelf
import Derived.BigRegion
import Derived.Laws.Tables
import Derived.Laws.CopyOwn
import Derived.Laws.ResultCell
import Derived.Laws.Rows
import Derived.Deep.RegionHeld3
namespace Go.Proofs.YtbdoafigggcdpaaGreatDoor.PScr
open Go.RowKit Go.Proofs.YtbdoafigggcdpaaGreatDoorW.PrintWords Go.Proofs.YtbdoafigggcdpaaGreatDoorW.PrintLast Go.Proofs.YtbdoafigggcdpaaGreatDoorW.PrintMore
set_option linter.unusedVariables false
set_option linter.unusedSimpArgs false

/-- what the listed variables hold -/
structure Facts (w : World) : Prop where
  tab : Lib.TabIs Tryz.prog w "internal/strconv.uint64pow10" .u64 Lib.pow10Tab
  most : ∃ m : Int, w.cell? ⟨2, 0, none⟩ = some (.int .i64 m)
  e1 : ∃ tp p, w.var? Tryz.prog "strconv.ErrSyntax" = some #[.iface tp p]
  e2 : ∃ tp p, w.var? Tryz.prog "strconv.ErrRange" = some #[.iface tp p]
  space : Lib.TabIs Tryz.prog w "strings.asciiSpace" .u8 Lib.asciiSpaceTab
  white : Lib.WhiteTab 3 w
theorem var_below {P : Program} {w w1 : World} (h : Below w.heap.size w w1) {n : String} {cs : Array Value} (hv : w.var? P n = some cs) : w1.var? P n = some cs := by
  unfold World.var? at hv ⊢
  cases hg : P.globalNamed n with
  | none => simp [hg] at hv
  | some g =>
    simp only [hg, Option.bind_some] at hv ⊢
    have hlt : g < w.heap.size := by
      rcases Nat.lt_or_ge g w.heap.size with h' | h'
      · exact h'
      · simp [Array.getElem?_eq_none h'] at hv
    rw [h.block g hlt]
    exact hv

theorem cut_len (s sep : List UInt8) : (Lib.cut s sep).1.length ≤ s.length ∧ (Lib.cut s sep).2.1.length ≤ s.length := by
  unfold Lib.cut
  split
  · exact ⟨List.length_take_le' _ _, by simp⟩
  · simp
def cut1 (s sep : ByteArray) : ByteArray := ⟨(Lib.cut s.data.toList sep.data.toList).1.toArray⟩
def cut2 (s sep : ByteArray) : ByteArray := ⟨(Lib.cut s.data.toList sep.data.toList).2.1.toArray⟩
theorem cut1_size (s sep : ByteArray) : (cut1 s sep).size ≤ s.size := by
  have := (cut_len s.data.toList sep.data.toList).1
  rw [Array.length_toList] at this
  show (List.toArray _).size ≤ s.data.size
  simpa using this
theorem cut2_size (s sep : ByteArray) : (cut2 s sep).size ≤ s.size := by
  have := (cut_len s.data.toList sep.data.toList).2
  rw [Array.length_toList] at this
  show (List.toArray _).size ≤ s.data.size
  simpa using this
def parseK (s : ByteArray) : ByteArray := cut1 s ⟨#[58]⟩
def parseI (s : ByteArray) : ByteArray := cut1 (cut2 s ⟨#[58]⟩) ⟨#[35]⟩
def parseR (s : ByteArray) : ByteArray := cut2 (cut2 s ⟨#[58]⟩) ⟨#[35]⟩

theorem cut_any (s sep : ByteArray) (hs : s.size < 4294967281) (w : World) (hm : ∃ m : Int, w.cell? ⟨2, 0, none⟩ = some (.int .i64 m)) :
    Calls Tryz.prog 38 #[.string s, .string sep] w fun e w' => e = .returned (.tuple #[.string (cut1 s sep), .string (cut2 s sep), .bool (Lib.cut s.data.toList sep.data.toList).2.2]) ∧ Below w.heap.size w w' := by
  obtain ⟨m, hm⟩ := hm
  exact (Tryz.strings_Cut s sep m w hs hm).mono fun e w' ⟨h1, n, h2⟩ => ⟨h1, by rw [h2]; exact pw_below_drewN (Below.refl _ _) n⟩
theorem most_below {w w1 : World} (h : Below w.heap.size w w1) (hm : ∃ m : Int, w.cell? ⟨2, 0, none⟩ = some (.int .i64 m)) : ∃ m : Int, w1.cell? ⟨2, 0, none⟩ = some (.int .i64 m) := let ⟨m, h1⟩ := hm; ⟨m, below_cell0 h h1⟩

set_option maxRecDepth 100000 in
theorem parseU_any (s : ByteArray) (hs : s.size < 4294967281) (w : World) (hm : ∃ m : Int, w.cell? ⟨2, 0, none⟩ = some (.int .i64 m)) :
    Calls Tryz.prog 106 #[.string s] w fun e w' => e = .returned (.agg #[.string (parseK s), .string (parseI s), .string (parseR s)]) ∧ Below w.heap.size w w' := by
  have hu49 := Tryz.underlying49
  have HK := Aside0.mk (box_blk w #[.string ⟨#[]⟩, .string ⟨#[]⟩, .string ⟨#[]⟩] 49)
  have HB := Aside0.mk (below_alloc (Below.refl w.heap.size w) (.cells #[.string ⟨#[]⟩, .string ⟨#[]⟩, .string ⟨#[]⟩] 49))
  have HM := Aside0.mk hm; clear hm
  have h2 := cut2_size s ⟨#[58]⟩
  unfold parseK parseI parseR
  go_enter Tryz.func106, Tryz.ntmps106
  go_wp2_with fail
  refine (cut_any s ⟨#[58]⟩ hs _ (most_below HB.out HM.out)).mono ?_
  rintro e w1 ⟨rfl, hb⟩
  have HK1 := Aside0.mk (blk_below HK.out hb)
  have HB1 := Aside0.mk (below_step HB.out hb)
  clear hb
  have hrest : (cut2 s ⟨#[58]⟩).size < 4294967281 := by omega
  obtain ⟨x, hx⟩ : ∃ x, cut1 s ⟨#[58]⟩ = x := ⟨_, rfl⟩
  obtain ⟨y, hy⟩ : ∃ y, cut2 s ⟨#[58]⟩ = y := ⟨_, rfl⟩
  rw [hx, hy]; rw [hy] at hrest
  go_wp2_with fail
  refine (cut_any y ⟨#[35]⟩ hrest _ (most_below HB1.out HM.out)).mono ?_
  rintro e w2 ⟨rfl, hb⟩
  have HK2 := Aside0.mk (blk_below HK1.out hb)
  have HB2 := Aside0.mk (below_step HB1.out hb)
  clear hb
  have f0 := blk_frozen HK2.out 0
  have f1 := blk_frozen HK2.out 1
  have f2 := blk_frozen HK2.out 2
  have c0 := (blk_cell HK2.out 0).trans rfl
  have c1 := (blk_cell HK2.out 1).trans rfl
  have c2 := (blk_cell HK2.out 2).trans rfl
  have K3 := blk_set (blk_set (blk_set HK2.out 0 (.string x)) 1 (.string (cut1 y ⟨#[35]⟩))) 2 (.string (cut2 y ⟨#[35]⟩))
  go_wp2
  refine bodyPost_ret (results_cell_row rfl _ _ w.heap.size 49 #[.string x, .string (cut1 y ⟨#[35]⟩), .string (cut2 y ⟨#[35]⟩)] (0, 0) _ rfl K3 Tryz.underlying49 rfl (by kernel_rfl)) rfl ?_
  refine ⟨by rw [hx, hy], ?_⟩
  have hsz := HB.out.size
  exact ((HB2.out.setCell (Nat.le_refl _) _).setCell (Nat.le_refl _) _).setCell (Nat.le_refl _) _
theorem results_cell_row_tmp {P : Program} {fn : Func} {p u : Tmp} {ty : TypeId} (h : fn.results = #[.cell p ty, .tmp u]) (tmps : Array Value) (w : World) (g : Nat) (t : TypeId) (cs : Array Value) (fr : Nat × Nat) (d : TypeDesc)
    (hp : tmps.getD p undef = .pointer (some ⟨g, 0, none⟩)) (hg : w.heap[g]? = some (.cells cs t fr))
    (hu : P.underlying ty = some d) (hd : (match d with | .struct _ | .array _ _ => true | _ => false) = true) (hi : (P.info? ty).map (·.size) = some cs.size) :
    (results fn tmps).run P w = .ok (.tuple #[.agg cs, tmps.getD u undef]) w := by
  rw [results_cell_tmp h]
  simp [hp, asAddr, run_loadVar_row w g t ty cs fr d hg hu hd hi, Sem.run, Result.andThen]

/-- the tuple that a text may be -/
def readsAs (s : ByteArray) (a b c d e f : ByteArray) : Prop := a = parseK (cut1 s ⟨#[64]⟩) ∧ b = parseI (cut1 s ⟨#[64]⟩) ∧ c = parseR (cut1 s ⟨#[64]⟩) ∧ d = parseK (cut2 s ⟨#[64]⟩) ∧ e = parseI (cut2 s ⟨#[64]⟩) ∧ f = parseR (cut2 s ⟨#[64]⟩)
def aggT (a b c d e f : ByteArray) : Value := .agg #[.string a, .string b, .string c, .string d, .string e, .string f]
def zeroT : Value := aggT ⟨#[]⟩ ⟨#[]⟩ ⟨#[]⟩ ⟨#[]⟩ ⟨#[]⟩ ⟨#[]⟩
def readT : Bool × List (List Nat × List Nat) := (true, [([], []), ([0], [0]), ([], []), ([2], [2]), ([], []), ([4], [4]), ([], []), ([6], [6]), ([1, 3, 5, 7], [1, 3, 5, 7]), ([], []), ([9, 8, 7, 0, 1, 2, 3, 4, 5, 6, 7, 8, 9], [8, 9])])
def readB : List Nat := [0, 1, 0, 4, 0, 16, 0, 64, 255, 0, 1023]
theorem readTab : rtab .any (opsOf Tryz.f78 3) = readT := by kernel_rfl
theorem readBits : waitsOk readT.2 readB = true := by kernel_rfl
theorem three_keep {w w1 w' : World} {g : Nat} {x0 x1 x2 : Value} (hb : Below w1.heap.size w1 w') (h : w1.cell? ⟨g, 0, none⟩ = some x0 ∧ w1.cell? ⟨g, 1, none⟩ = some x1 ∧ w1.cell? ⟨g, 2, none⟩ = some x2 ∧ Aside0 (Below w.heap.size w w1)) : w'.cell? ⟨g, 0, none⟩ = some x0 ∧ w'.cell? ⟨g, 1, none⟩ = some x1 ∧ w'.cell? ⟨g, 2, none⟩ = some x2 ∧ Aside0 (Below w.heap.size w w') :=
  ⟨below_cell0 hb h.1, below_cell0 hb h.2.1, below_cell0 hb h.2.2.1, ⟨below_step h.2.2.2.out hb⟩⟩
theorem three_alloc {w w1 : World} {g : Nat} {x0 x1 x2 : Value} (h : w1.cell? ⟨g, 0, none⟩ = some x0 ∧ w1.cell? ⟨g, 1, none⟩ = some x1 ∧ w1.cell? ⟨g, 2, none⟩ = some x2 ∧ Aside0 (Below w.heap.size w w1)) (o : Obj) : (w1.alloc o).cell? ⟨g, 0, none⟩ = some x0 ∧ (w1.alloc o).cell? ⟨g, 1, none⟩ = some x1 ∧ (w1.alloc o).cell? ⟨g, 2, none⟩ = some x2 ∧ Aside0 (Below w.heap.size w (w1.alloc o)) :=
  three_keep (below_alloc (Below.refl _ _) o) h

set_option maxRecDepth 100000 in
set_option maxHeartbeats 2000000 in
theorem readTuple_any (s : ByteArray) (hs : s.size < 4294967281) (w : World) (hm : ∃ m : Int, w.cell? ⟨2, 0, none⟩ = some (.int .i64 m)) (a b c d e f : ByteArray) (hr : readsAs s a b c d e f) :
    Calls Tryz.prog 78 #[.string s] w fun e' w' => e' = .returned (.tuple #[if tupleOk a b c d e f && (tupleText a b c d e f).toList == s.toList then aggT a b c d e f else zeroT, .int .i64 (if tupleOk a b c d e f && (tupleText a b c d e f).toList == s.toList then 0 else 110)]) ∧ Below w.heap.size w w' := by
  have hu49 := Tryz.underlying49
  have hu51 := Tryz.underlying51
  have HB := Aside0.mk (below_alloc (Below.refl w.heap.size w) (.cells #[.string ⟨#[]⟩, .string ⟨#[]⟩, .string ⟨#[]⟩, .string ⟨#[]⟩, .string ⟨#[]⟩, .string ⟨#[]⟩] 51))
  have HK := Aside0.mk (box_blk w #[.string ⟨#[]⟩, .string ⟨#[]⟩, .string ⟨#[]⟩, .string ⟨#[]⟩, .string ⟨#[]⟩, .string ⟨#[]⟩] 51)
  have HM := Aside0.mk hm; clear hm
  have h1 := cut1_size s ⟨#[64]⟩
  have h2 := cut2_size s ⟨#[64]⟩
  obtain ⟨x, hx⟩ : ∃ x, cut1 s ⟨#[64]⟩ = x := ⟨_, rfl⟩
  obtain ⟨y, hy⟩ : ∃ y, cut2 s ⟨#[64]⟩ = y := ⟨_, rfl⟩
  unfold readsAs at hr
  rw [hx] at hr h1
  rw [hy] at hr h2
  obtain ⟨ha, hb', hc, hd, he, hf⟩ := hr
  have hcut := fun w hm => cut_any s ⟨#[64]⟩ hs w hm
  rw [hx, hy] at hcut
  have hp1 := fun w hm => parseU_any x (by omega) w hm
  have hp2 := fun w hm => parseU_any y (by omega) w hm
  rw [← ha, ← hb', ← hc] at hp1
  rw [← hd, ← he, ← hf] at hp2
  clear hx hy ha hb' hc hd he hf
  go_enter Tryz.func78, Tryz.ntmps78
  go_wp2_with fail
  refine (hcut _ (most_below HB.out HM.out)).mono ?_
  rintro e' w1 ⟨rfl, hb⟩
  have HK1 := Aside0.mk (blk_below HK.out hb)
  have HB1 := Aside0.mk (below_step HB.out hb)
  clear hb hcut
  go_wp2_with fail
  refine (hp1 _ (most_below HB1.out HM.out)).mono ?_
  rintro e' w2 ⟨rfl, hb⟩
  have HK2 := Aside0.mk (blk_below HK1.out hb)
  have HB2 := Aside0.mk (below_step HB1.out hb)
  clear hb hp1
  have HC := box_blk w2 #[.string a, .string b, .string c] 49
  have hst : ((w2.alloc (.cells #[.string a, .string b, .string c] 49)).drew).cell? ⟨w2.heap.size, 0, none⟩ = some (.string a) ∧ ((w2.alloc (.cells #[.string a, .string b, .string c] 49)).drew).cell? ⟨w2.heap.size, 1, none⟩ = some (.string b) ∧ ((w2.alloc (.cells #[.string a, .string b, .string c] 49)).drew).cell? ⟨w2.heap.size, 2, none⟩ = some (.string c) ∧ Aside0 (Below w2.heap.size w2 ((w2.alloc (.cells #[.string a, .string b, .string c] 49)).drew)) :=
    ⟨(blk_cell HC 0).trans rfl, (blk_cell HC 1).trans rfl, (blk_cell HC 2).trans rfl, ⟨below_drew1 (below_alloc (Below.refl _ _) _)⟩⟩
  clear HC
  have hst2 : (((w2.alloc (.cells #[.string a, .string b, .string c] 49)).alloc (.cells #[.string ⟨#[]⟩, .string ⟨#[]⟩, .string ⟨#[]⟩, .string ⟨#[]⟩, .string ⟨#[]⟩, .string ⟨#[]⟩] 51)).drew).cell? ⟨w2.heap.size, 0, none⟩ = some (.string a) ∧ (((w2.alloc (.cells #[.string a, .string b, .string c] 49)).alloc (.cells #[.string ⟨#[]⟩, .string ⟨#[]⟩, .string ⟨#[]⟩, .string ⟨#[]⟩, .string ⟨#[]⟩, .string ⟨#[]⟩] 51)).drew).cell? ⟨w2.heap.size, 1, none⟩ = some (.string b) ∧ (((w2.alloc (.cells #[.string a, .string b, .string c] 49)).alloc (.cells #[.string ⟨#[]⟩, .string ⟨#[]⟩, .string ⟨#[]⟩, .string ⟨#[]⟩, .string ⟨#[]⟩, .string ⟨#[]⟩] 51)).drew).cell? ⟨w2.heap.size, 2, none⟩ = some (.string c) ∧ Aside0 (Below w2.heap.size w2 (((w2.alloc (.cells #[.string a, .string b, .string c] 49)).alloc (.cells #[.string ⟨#[]⟩, .string ⟨#[]⟩, .string ⟨#[]⟩, .string ⟨#[]⟩, .string ⟨#[]⟩, .string ⟨#[]⟩] 51)).drew)) := by
    obtain ⟨s1, s2, s3, s4⟩ := hst
    have hb := below_alloc (Below.refl (w2.alloc (.cells #[.string a, .string b, .string c] 49)).heap.size (w2.alloc (.cells #[.string a, .string b, .string c] 49))) (.cells #[.string ⟨#[]⟩, .string ⟨#[]⟩, .string ⟨#[]⟩, .string ⟨#[]⟩, .string ⟨#[]⟩, .string ⟨#[]⟩] 51)
    exact ⟨below_cell0 hb s1, below_cell0 hb s2, below_cell0 hb s3, ⟨below_drew1 (below_alloc (below_alloc (Below.refl _ _) _) _)⟩⟩
  have HST := Aside0.mk hst; clear hst
  clear hst2
  have HN1 := Aside0.mk (show (w2.alloc (.cells #[.string a, .string b, .string c] 49)).heap.size = w2.heap.size + 1 by simp)
  have hp2' : ∀ w', (w'.cell? ⟨w2.heap.size, 0, none⟩ = some (.string a) ∧ w'.cell? ⟨w2.heap.size, 1, none⟩ = some (.string b) ∧ w'.cell? ⟨w2.heap.size, 2, none⟩ = some (.string c) ∧ Aside0 (Below w2.heap.size w2 w')) → Calls Tryz.prog 106 #[.string y] w' fun e' w'' => e' = .returned (.agg #[.string d, .string e, .string f]) ∧ Below w'.heap.size w' w'' := fun w' h => hp2 w' (most_below (below_step HB2.out h.2.2.2.out) HM.out)
  clear hp2
  go_wp2_with fail
  refine start_ (n := 11) (S := fun w' => w'.cell? ⟨w2.heap.size, 0, none⟩ = some (.string a) ∧ w'.cell? ⟨w2.heap.size, 1, none⟩ = some (.string b) ∧ w'.cell? ⟨w2.heap.size, 2, none⟩ = some (.string c) ∧ Aside0 (Below w2.heap.size w2 w')) (ds := [10]) #[false, false, false, false, false, false, false, false, false, false, false] (by kernel_rfl) rfl rfl HST.out (fun hHeld => ?_); refine with_tabW readTab readBits (fun HT_ HW_ => ?_)
  generalize (w2.alloc (.cells #[.string a, .string b, .string c] 49)).drew = W at hHeld ⊢
  refine pure_ (i := 0) (N := some 19) (v := ?_) (a' := ?_) #[true, false, false, false, false, false, false, false, false, false, false] rfl rfl (any_of HT_.out (by kernel_rfl)) (fun _ _ _ h => h) (Or.inl ⟨by rfl, ?_⟩) ?_ ?_
  rotate_left
  · intro w'
    go_simp
    with_reducible rfl
  rotate_left
  · simp only [Act.put, List.setIfInBounds_toArray, List.set_cons_zero, List.set_cons_succ, i64_w, i32_w]
    rfl
  refine pure_ (i := 2) (N := some 21) (v := ?_) (a' := ?_) #[true, false, true, false, false, false, false, false, false, false, false] rfl rfl (any_of HT_.out (by kernel_rfl)) (fun _ _ _ h => h) (Or.inl ⟨by rfl, ?_⟩) ?_ ?_
  rotate_left
  · intro w'
    go_simp
    with_reducible rfl
  rotate_left
  · simp only [Act.put, List.setIfInBounds_toArray, List.set_cons_zero, List.set_cons_succ, i64_w, i32_w]
    rfl
  refine pure_ (i := 4) (N := some 23) (v := ?_) (a' := ?_) #[true, false, true, false, true, false, false, false, false, false, false] rfl rfl (any_of HT_.out (by kernel_rfl)) (fun _ _ _ h => h) (Or.inl ⟨by rfl, ?_⟩) ?_ ?_
  rotate_left
  · intro w'
    go_simp
    with_reducible rfl
  rotate_left
  · simp only [Act.put, List.setIfInBounds_toArray, List.set_cons_zero, List.set_cons_succ, i64_w, i32_w]
    rfl
  refine pure_ (i := 6) (N := some 25) (v := ?_) (a' := ?_) #[true, false, true, false, true, false, true, false, false, false, false] rfl rfl (any_of HT_.out (by kernel_rfl)) (fun _ _ _ h => h) (Or.inl ⟨by rfl, ?_⟩) ?_ ?_
  rotate_left
  · intro w'
    go_simp
    with_reducible rfl
  rotate_left
  · simp only [Act.put, List.setIfInBounds_toArray, List.set_cons_zero, List.set_cons_succ, i64_w, i32_w]
    rfl
  refine take_ (i := 1) (N := some 20) (v := ?_) (a' := ?_) #[true, true, true, false, true, false, true, false, false, false, false] rfl rfl (take_ofW HT_.out HW_.out (by kernel_rfl)) (fun _ _ _ h => h) (Or.inl ⟨by rfl, ?_⟩) hHeld ?_ ?_
  rotate_left
  · rintro w' ⟨s0, s1, s2, s3⟩
    go_simp
    with_reducible rfl
  rotate_left
  · simp only [Act.put, List.setIfInBounds_toArray, List.set_cons_zero, List.set_cons_succ, i64_w, i32_w]
    rfl
  refine take_ (i := 3) (N := some 22) (v := ?_) (a' := ?_) #[true, true, true, true, true, false, true, false, false, false, false] rfl rfl (take_ofW HT_.out HW_.out (by kernel_rfl)) (fun _ _ _ h => h) (Or.inl ⟨by rfl, ?_⟩) hHeld ?_ ?_
  rotate_left
  · rintro w' ⟨s0, s1, s2, s3⟩
    go_simp
    with_reducible rfl
  rotate_left
  · simp only [Act.put, List.setIfInBounds_toArray, List.set_cons_zero, List.set_cons_succ, i64_w, i32_w]
    rfl
  refine take_ (i := 5) (N := some 24) (v := ?_) (a' := ?_) #[true, true, true, true, true, true, true, false, false, false, false] rfl rfl (take_ofW HT_.out HW_.out (by kernel_rfl)) (fun _ _ _ h => h) (Or.inl ⟨by rfl, ?_⟩) hHeld ?_ ?_
  rotate_left
  · rintro w' ⟨s0, s1, s2, s3⟩
    go_simp
    with_reducible rfl
  rotate_left
  · simp only [Act.put, List.setIfInBounds_toArray, List.set_cons_zero, List.set_cons_succ, i64_w, i32_w]
    rfl
  refine two_ (i := 7) (j := 9) (Ni := some 26) (Nj := some 8) #[true, true, true, true, true, true, true, true, false, false, false] #[true, true, true, true, true, true, true, false, false, true, false] rfl rfl rfl rfl (two_of HT_.out (by kernel_rfl)) (by decide) (by decide) (fun K hK => ?_) (fun K hK => ?_)
  · refine goes_ Tryz.func106 (by kernel_rfl) rfl #[.string y] (by rfl) rfl rfl (by (try simp only [List.map_toArray, List.map_cons, List.map_nil]); first | done | rfl) ?_
    with_reducible refine (hp2' _ hHeld).mono ?_
    rintro e' w3 ⟨rfl, hb⟩
    refine ⟨_, rfl, ?_⟩
    refine hK.out _ _ (three_keep hb hHeld) (fun hHeld => ?_)
    have H3 := Aside0.mk hHeld
    clear hK K
    refine norm_ (a' := ?_) ?_ ?_
    rotate_left
    · show Act.put _ (some 26) _ = _
      simp only [Act.put, List.setIfInBounds_toArray, List.set_cons_zero, List.set_cons_succ, i64_w, i32_w]
      rfl
    refine pure_ (i := 8) (N := some 27) (v := ?_) (a' := ?_) #[true, true, true, true, true, true, true, true, true, false, false] rfl rfl (any_of HT_.out (by kernel_rfl)) (fun _ _ _ h => h) (Or.inl ⟨by rfl, ?_⟩) ?_ ?_
    rotate_left
    · intro w'
      go_simp
      with_reducible rfl
    rotate_left
    · simp only [Act.put, List.setIfInBounds_toArray, List.set_cons_zero, List.set_cons_succ, i64_w, i32_w]
      rfl
    refine one_ (i := 9) (N := some 8) #[true, true, true, true, true, true, true, true, true, true, false] rfl rfl (one_of HT_.out (by kernel_rfl)) (by decide) (fun K hK => ?_)
    refine value_ (v := .pointer (some ⟨w3.heap.size, 0, none⟩)) (w1 := w3.alloc (.cells #[.string ⟨#[]⟩, .string ⟨#[]⟩, .string ⟨#[]⟩, .string ⟨#[]⟩, .string ⟨#[]⟩, .string ⟨#[]⟩] 51)) (by rfl) rfl (by first | (go_simp; done) | (go_simp; rfl)) ?_
    refine hK.out _ _ (three_alloc hHeld _) (fun hHeld => ?_)
    clear hK K
    refine norm_ (a' := ?_) ?_ ?_
    rotate_left
    · show Act.put _ (some 8) _ = _
      simp only [Act.put, List.setIfInBounds_toArray, List.set_cons_zero, List.set_cons_succ, i64_w, i32_w]
      rfl
    have hz := box_blk w3 #[.string ⟨#[]⟩, .string ⟨#[]⟩, .string ⟨#[]⟩, .string ⟨#[]⟩, .string ⟨#[]⟩, .string ⟨#[]⟩] 51
    refine last_ (i := 10) (N := none) #[true, true, true, true, true, true, true, true, true, true, true] rfl rfl (one_of HT_.out (by kernel_rfl)) (by decide) (fun K hK => ?_)
    refine (show Oper.wp Tryz.prog _ _ _ K _ from wp_store_row 51 (.tmp 8) (.tmp 27) rfl w3.heap.size #[.string a, .string b, .string c, .string d, .string e, .string f] (by rfl) (by rfl) 51 _ hz (by kernel_rfl) rfl (by simp [Value.oneCell']) ?_)
    refine hK.out _ _ ?_
    clear hK K
    refine done_ (done_of HT_.out (by kernel_rfl)) ?_
    have HX := hHeld.2.2.2.out
    have hg2 : w2.heap.size ≤ w3.heap.size := H3.out.2.2.2.out.size
    have hlt := blk_lt HK2.out
    have HG := Aside0.mk (setRow_heap (w3.alloc (.cells #[.string ⟨#[]⟩, .string ⟨#[]⟩, .string ⟨#[]⟩, .string ⟨#[]⟩, .string ⟨#[]⟩, .string ⟨#[]⟩] 51)) w3.heap.size _ #[.string a, .string b, .string c, .string d, .string e, .string f] 51 (0, 0) hz)
    have HR := Aside0.mk (((setRow_other (w3.alloc (.cells #[.string ⟨#[]⟩, .string ⟨#[]⟩, .string ⟨#[]⟩, .string ⟨#[]⟩, .string ⟨#[]⟩, .string ⟨#[]⟩] 51)) w3.heap.size w.heap.size #[.string a, .string b, .string c, .string d, .string e, .string f] (by omega)).trans (blk_below HK2.out HX)))
    have HV := Aside0.mk (below_step HB2.out (below_setRow HX hg2 #[.string a, .string b, .string c, .string d, .string e, .string f]))
    have hGr : w.heap.size ≠ w3.heap.size := by omega
    generalize (w3.alloc (.cells #[.string ⟨#[]⟩, .string ⟨#[]⟩, .string ⟨#[]⟩, .string ⟨#[]⟩, .string ⟨#[]⟩, .string ⟨#[]⟩] 51)).setRow w3.heap.size #[.string a, .string b, .string c, .string d, .string e, .string f] = V at HG HR HV ⊢
    generalize w3.heap.size = G at HG hGr ⊢
    clear hz hHeld HX hg2
    have c0 := (blk_cell HG.out 0).trans rfl; have c1 := (blk_cell HG.out 1).trans rfl; have c2 := (blk_cell HG.out 2).trans rfl; have c3 := (blk_cell HG.out 3).trans rfl; have c4 := (blk_cell HG.out 4).trans rfl; have c5 := (blk_cell HG.out 5).trans rfl;
    have hshow := fun w => showTuple_any a b c d e f w
    cases h1 : tupleOk a b c d e f <;> rw [h1] at hshow
    · go_wp2_with (first | (go_at_call 43; refine (hshow _).mono ?_; rintro e' w4 ⟨rfl, hb4⟩; have HR4 := Aside0.mk (blk_below HR.out hb4); have HV4 := Aside0.mk (below_step HV.out hb4); have HG4 := blk_below HG.out hb4; clear hb4; have z0 := (blk_cell HR4.out 0).trans rfl; have y0 := blk_frozen HR4.out 0; have z1 := (blk_cell HR4.out 1).trans rfl; have y1 := blk_frozen HR4.out 1; have z2 := (blk_cell HR4.out 2).trans rfl; have y2 := blk_frozen HR4.out 2; have z3 := (blk_cell HR4.out 3).trans rfl; have y3 := blk_frozen HR4.out 3; have z4 := (blk_cell HR4.out 4).trans rfl; have y4 := blk_frozen HR4.out 4; have z5 := (blk_cell HR4.out 5).trans rfl; have y5 := blk_frozen HR4.out 5; have d0 := (blk_cell HG4 0).trans rfl; have d1 := (blk_cell HG4 1).trans rfl; have d2 := (blk_cell HG4 2).trans rfl; have d3 := (blk_cell HG4 3).trans rfl; have d4 := (blk_cell HG4 4).trans rfl; have d5 := (blk_cell HG4 5).trans rfl; clear HG4))
      all_goals (
        refine bodyPost_ret (results_cell_row_tmp rfl _ _ w.heap.size 51 #[.string ⟨#[]⟩, .string ⟨#[]⟩, .string ⟨#[]⟩, .string ⟨#[]⟩, .string ⟨#[]⟩, .string ⟨#[]⟩] (0, 0) _ rfl (blk_set (blk_set (blk_set (blk_set (blk_set (blk_set HR4.out 0 (.string ⟨#[]⟩)) 1 (.string ⟨#[]⟩)) 2 (.string ⟨#[]⟩)) 3 (.string ⟨#[]⟩)) 4 (.string ⟨#[]⟩)) 5 (.string ⟨#[]⟩)) Tryz.underlying51 rfl (by kernel_rfl)) rfl ?_
        exact ⟨by simp [zeroT, aggT, Act.put], ((((((HV4.out.setCell (Nat.le_refl _) _).setCell (Nat.le_refl _) _).setCell (Nat.le_refl _) _).setCell (Nat.le_refl _) _).setCell (Nat.le_refl _) _).setCell (Nat.le_refl _) _)⟩)
    · by_cases h2 : (tupleText a b c d e f).toList = s.toList
      · have e1 : ((tupleText a b c d e f).toList == s.toList) = true := beq_iff_eq.2 h2
        have e2 : ((tupleText a b c d e f).toList != s.toList) = false := by rw [h2]; simp
        go_wp2_with (first | (go_at_call 43; refine (hshow _).mono ?_; rintro e' w4 ⟨rfl, hb4⟩; have HR4 := Aside0.mk (blk_below HR.out hb4); have HV4 := Aside0.mk (below_step HV.out hb4); have HG4 := blk_below HG.out hb4; clear hb4; have z0 := (blk_cell HR4.out 0).trans rfl; have y0 := blk_frozen HR4.out 0; have z1 := (blk_cell HR4.out 1).trans rfl; have y1 := blk_frozen HR4.out 1; have z2 := (blk_cell HR4.out 2).trans rfl; have y2 := blk_frozen HR4.out 2; have z3 := (blk_cell HR4.out 3).trans rfl; have y3 := blk_frozen HR4.out 3; have z4 := (blk_cell HR4.out 4).trans rfl; have y4 := blk_frozen HR4.out 4; have z5 := (blk_cell HR4.out 5).trans rfl; have y5 := blk_frozen HR4.out 5; have d0 := (blk_cell HG4 0).trans rfl; have d1 := (blk_cell HG4 1).trans rfl; have d2 := (blk_cell HG4 2).trans rfl; have d3 := (blk_cell HG4 3).trans rfl; have d4 := (blk_cell HG4 4).trans rfl; have d5 := (blk_cell HG4 5).trans rfl; clear HG4))
        all_goals (
          refine bodyPost_ret (results_cell_row_tmp rfl _ _ w.heap.size 51 #[.string a, .string b, .string c, .string d, .string e, .string f] (0, 0) _ rfl (blk_set (blk_set (blk_set (blk_set (blk_set (blk_set HR4.out 0 (.string a)) 1 (.string b)) 2 (.string c)) 3 (.string d)) 4 (.string e)) 5 (.string f)) Tryz.underlying51 rfl (by kernel_rfl)) rfl ?_
          exact ⟨by simp [e1, zeroT, aggT, Act.put], ((((((HV4.out.setCell (Nat.le_refl _) _).setCell (Nat.le_refl _) _).setCell (Nat.le_refl _) _).setCell (Nat.le_refl _) _).setCell (Nat.le_refl _) _).setCell (Nat.le_refl _) _)⟩)
      · have e1 : ((tupleText a b c d e f).toList == s.toList) = false := beq_eq_false_iff_ne.2 h2
        have e2 : ((tupleText a b c d e f).toList != s.toList) = true := bne_iff_ne.2 h2
        go_wp2_with (first | (go_at_call 43; refine (hshow _).mono ?_; rintro e' w4 ⟨rfl, hb4⟩; have HR4 := Aside0.mk (blk_below HR.out hb4); have HV4 := Aside0.mk (below_step HV.out hb4); have HG4 := blk_below HG.out hb4; clear hb4; have z0 := (blk_cell HR4.out 0).trans rfl; have y0 := blk_frozen HR4.out 0; have z1 := (blk_cell HR4.out 1).trans rfl; have y1 := blk_frozen HR4.out 1; have z2 := (blk_cell HR4.out 2).trans rfl; have y2 := blk_frozen HR4.out 2; have z3 := (blk_cell HR4.out 3).trans rfl; have y3 := blk_frozen HR4.out 3; have z4 := (blk_cell HR4.out 4).trans rfl; have y4 := blk_frozen HR4.out 4; have z5 := (blk_cell HR4.out 5).trans rfl; have y5 := blk_frozen HR4.out 5; have d0 := (blk_cell HG4 0).trans rfl; have d1 := (blk_cell HG4 1).trans rfl; have d2 := (blk_cell HG4 2).trans rfl; have d3 := (blk_cell HG4 3).trans rfl; have d4 := (blk_cell HG4 4).trans rfl; have d5 := (blk_cell HG4 5).trans rfl; clear HG4))
        all_goals (
          refine bodyPost_ret (results_cell_row_tmp rfl _ _ w.heap.size 51 #[.string ⟨#[]⟩, .string ⟨#[]⟩, .string ⟨#[]⟩, .string ⟨#[]⟩, .string ⟨#[]⟩, .string ⟨#[]⟩] (0, 0) _ rfl (blk_set (blk_set (blk_set (blk_set (blk_set (blk_set HR4.out 0 (.string ⟨#[]⟩)) 1 (.string ⟨#[]⟩)) 2 (.string ⟨#[]⟩)) 3 (.string ⟨#[]⟩)) 4 (.string ⟨#[]⟩)) 5 (.string ⟨#[]⟩)) Tryz.underlying51 rfl (by kernel_rfl)) rfl ?_
          exact ⟨by simp [e1, zeroT, aggT, Act.put], ((((((HV4.out.setCell (Nat.le_refl _) _).setCell (Nat.le_refl _) _).setCell (Nat.le_refl _) _).setCell (Nat.le_refl _) _).setCell (Nat.le_refl _) _).setCell (Nat.le_refl _) _)⟩)
  · have HW3 := Aside0.mk hHeld
    refine value_ (v := .pointer (some ⟨W.heap.size, 0, none⟩)) (w1 := W.alloc (.cells #[.string ⟨#[]⟩, .string ⟨#[]⟩, .string ⟨#[]⟩, .string ⟨#[]⟩, .string ⟨#[]⟩, .string ⟨#[]⟩] 51)) (by rfl) rfl (by first | (go_simp; done) | (go_simp; rfl)) ?_
    refine hK.out _ _ (three_alloc hHeld _) (fun hHeld => ?_)
    clear hK K
    refine norm_ (a' := ?_) ?_ ?_
    rotate_left
    · show Act.put _ (some 8) _ = _
      simp only [Act.put, List.setIfInBounds_toArray, List.set_cons_zero, List.set_cons_succ, i64_w, i32_w]
      rfl
    have hz0 := box_blk W #[.string ⟨#[]⟩, .string ⟨#[]⟩, .string ⟨#[]⟩, .string ⟨#[]⟩, .string ⟨#[]⟩, .string ⟨#[]⟩] 51
    refine one_ (i := 7) (N := some 26) #[true, true, true, true, true, true, true, true, false, true, false] rfl rfl (one_of HT_.out (by kernel_rfl)) (by decide) (fun K hK => ?_)
    refine goes_ Tryz.func106 (by kernel_rfl) rfl #[.string y] (by rfl) rfl rfl (by (try simp only [List.map_toArray, List.map_cons, List.map_nil]); first | done | rfl) ?_
    with_reducible refine (hp2' _ hHeld).mono ?_
    rintro e' w3 ⟨rfl, hb⟩
    refine ⟨_, rfl, ?_⟩
    refine hK.out _ _ (three_keep hb hHeld) (fun hHeld => ?_)
    clear hK K
    refine norm_ (a' := ?_) ?_ ?_
    rotate_left
    · show Act.put _ (some 26) _ = _
      simp only [Act.put, List.setIfInBounds_toArray, List.set_cons_zero, List.set_cons_succ, i64_w, i32_w]
      rfl
    refine pure_ (i := 8) (N := some 27) (v := ?_) (a' := ?_) #[true, true, true, true, true, true, true, true, true, true, false] rfl rfl (any_of HT_.out (by kernel_rfl)) (fun _ _ _ h => h) (Or.inl ⟨by rfl, ?_⟩) ?_ ?_
    rotate_left
    · intro w'
      go_simp
      with_reducible rfl
    rotate_left
    · simp only [Act.put, List.setIfInBounds_toArray, List.set_cons_zero, List.set_cons_succ, i64_w, i32_w]
      rfl
    have hz := blk_below hz0 hb
    refine last_ (i := 10) (N := none) #[true, true, true, true, true, true, true, true, true, true, true] rfl rfl (one_of HT_.out (by kernel_rfl)) (by decide) (fun K hK => ?_)
    refine (show Oper.wp Tryz.prog _ _ _ K _ from wp_store_row 51 (.tmp 8) (.tmp 27) rfl W.heap.size #[.string a, .string b, .string c, .string d, .string e, .string f] (by rfl) (by rfl) 51 _ hz (by kernel_rfl) rfl (by simp [Value.oneCell']) ?_)
    refine hK.out _ _ ?_
    clear hK K
    refine done_ (done_of HT_.out (by kernel_rfl)) ?_
    have HX := hHeld.2.2.2.out
    have hg2 : w2.heap.size ≤ W.heap.size := HW3.out.2.2.2.out.size
    have hlt := blk_lt HK2.out
    have HG := Aside0.mk (setRow_heap (w3) W.heap.size _ #[.string a, .string b, .string c, .string d, .string e, .string f] 51 (0, 0) hz)
    have HR := Aside0.mk (((setRow_other (w3) W.heap.size w.heap.size #[.string a, .string b, .string c, .string d, .string e, .string f] (by omega)).trans (blk_below HK2.out HX)))
    have HV := Aside0.mk (below_step HB2.out (below_setRow HX hg2 #[.string a, .string b, .string c, .string d, .string e, .string f]))
    have hGr : w.heap.size ≠ W.heap.size := by omega
    generalize (w3).setRow W.heap.size #[.string a, .string b, .string c, .string d, .string e, .string f] = V at HG HR HV ⊢
    generalize W.heap.size = G at HG hGr ⊢
    clear hz hHeld HX hg2
    have c0 := (blk_cell HG.out 0).trans rfl; have c1 := (blk_cell HG.out 1).trans rfl; have c2 := (blk_cell HG.out 2).trans rfl; have c3 := (blk_cell HG.out 3).trans rfl; have c4 := (blk_cell HG.out 4).trans rfl; have c5 := (blk_cell HG.out 5).trans rfl;
    have hshow := fun w => showTuple_any a b c d e f w
    cases h1 : tupleOk a b c d e f <;> rw [h1] at hshow
    · go_wp2_with (first | (go_at_call 43; refine (hshow _).mono ?_; rintro e' w4 ⟨rfl, hb4⟩; have HR4 := Aside0.mk (blk_below HR.out hb4); have HV4 := Aside0.mk (below_step HV.out hb4); have HG4 := blk_below HG.out hb4; clear hb4; have z0 := (blk_cell HR4.out 0).trans rfl; have y0 := blk_frozen HR4.out 0; have z1 := (blk_cell HR4.out 1).trans rfl; have y1 := blk_frozen HR4.out 1; have z2 := (blk_cell HR4.out 2).trans rfl; have y2 := blk_frozen HR4.out 2; have z3 := (blk_cell HR4.out 3).trans rfl; have y3 := blk_frozen HR4.out 3; have z4 := (blk_cell HR4.out 4).trans rfl; have y4 := blk_frozen HR4.out 4; have z5 := (blk_cell HR4.out 5).trans rfl; have y5 := blk_frozen HR4.out 5; have d0 := (blk_cell HG4 0).trans rfl; have d1 := (blk_cell HG4 1).trans rfl; have d2 := (blk_cell HG4 2).trans rfl; have d3 := (blk_cell HG4 3).trans rfl; have d4 := (blk_cell HG4 4).trans rfl; have d5 := (blk_cell HG4 5).trans rfl; clear HG4))
      all_goals (
        refine bodyPost_ret (results_cell_row_tmp rfl _ _ w.heap.size 51 #[.string ⟨#[]⟩, .string ⟨#[]⟩, .string ⟨#[]⟩, .string ⟨#[]⟩, .string ⟨#[]⟩, .string ⟨#[]⟩] (0, 0) _ rfl (blk_set (blk_set (blk_set (blk_set (blk_set (blk_set HR4.out 0 (.string ⟨#[]⟩)) 1 (.string ⟨#[]⟩)) 2 (.string ⟨#[]⟩)) 3 (.string ⟨#[]⟩)) 4 (.string ⟨#[]⟩)) 5 (.string ⟨#[]⟩)) Tryz.underlying51 rfl (by kernel_rfl)) rfl ?_
        exact ⟨by simp [zeroT, aggT, Act.put], ((((((HV4.out.setCell (Nat.le_refl _) _).setCell (Nat.le_refl _) _).setCell (Nat.le_refl _) _).setCell (Nat.le_refl _) _).setCell (Nat.le_refl _) _).setCell (Nat.le_refl _) _)⟩)
    · by_cases h2 : (tupleText a b c d e f).toList = s.toList
      · have e1 : ((tupleText a b c d e f).toList == s.toList) = true := beq_iff_eq.2 h2
        have e2 : ((tupleText a b c d e f).toList != s.toList) = false := by rw [h2]; simp
        go_wp2_with (first | (go_at_call 43; refine (hshow _).mono ?_; rintro e' w4 ⟨rfl, hb4⟩; have HR4 := Aside0.mk (blk_below HR.out hb4); have HV4 := Aside0.mk (below_step HV.out hb4); have HG4 := blk_below HG.out hb4; clear hb4; have z0 := (blk_cell HR4.out 0).trans rfl; have y0 := blk_frozen HR4.out 0; have z1 := (blk_cell HR4.out 1).trans rfl; have y1 := blk_frozen HR4.out 1; have z2 := (blk_cell HR4.out 2).trans rfl; have y2 := blk_frozen HR4.out 2; have z3 := (blk_cell HR4.out 3).trans rfl; have y3 := blk_frozen HR4.out 3; have z4 := (blk_cell HR4.out 4).trans rfl; have y4 := blk_frozen HR4.out 4; have z5 := (blk_cell HR4.out 5).trans rfl; have y5 := blk_frozen HR4.out 5; have d0 := (blk_cell HG4 0).trans rfl; have d1 := (blk_cell HG4 1).trans rfl; have d2 := (blk_cell HG4 2).trans rfl; have d3 := (blk_cell HG4 3).trans rfl; have d4 := (blk_cell HG4 4).trans rfl; have d5 := (blk_cell HG4 5).trans rfl; clear HG4))
        all_goals (
          refine bodyPost_ret (results_cell_row_tmp rfl _ _ w.heap.size 51 #[.string a, .string b, .string c, .string d, .string e, .string f] (0, 0) _ rfl (blk_set (blk_set (blk_set (blk_set (blk_set (blk_set HR4.out 0 (.string a)) 1 (.string b)) 2 (.string c)) 3 (.string d)) 4 (.string e)) 5 (.string f)) Tryz.underlying51 rfl (by kernel_rfl)) rfl ?_
          exact ⟨by simp [e1, zeroT, aggT, Act.put], ((((((HV4.out.setCell (Nat.le_refl _) _).setCell (Nat.le_refl _) _).setCell (Nat.le_refl _) _).setCell (Nat.le_refl _) _).setCell (Nat.le_refl _) _).setCell (Nat.le_refl _) _)⟩)
      · have e1 : ((tupleText a b c d e f).toList == s.toList) = false := beq_eq_false_iff_ne.2 h2
        have e2 : ((tupleText a b c d e f).toList != s.toList) = true := bne_iff_ne.2 h2
        go_wp2_with (first | (go_at_call 43; refine (hshow _).mono ?_; rintro e' w4 ⟨rfl, hb4⟩; have HR4 := Aside0.mk (blk_below HR.out hb4); have HV4 := Aside0.mk (below_step HV.out hb4); have HG4 := blk_below HG.out hb4; clear hb4; have z0 := (blk_cell HR4.out 0).trans rfl; have y0 := blk_frozen HR4.out 0; have z1 := (blk_cell HR4.out 1).trans rfl; have y1 := blk_frozen HR4.out 1; have z2 := (blk_cell HR4.out 2).trans rfl; have y2 := blk_frozen HR4.out 2; have z3 := (blk_cell HR4.out 3).trans rfl; have y3 := blk_frozen HR4.out 3; have z4 := (blk_cell HR4.out 4).trans rfl; have y4 := blk_frozen HR4.out 4; have z5 := (blk_cell HR4.out 5).trans rfl; have y5 := blk_frozen HR4.out 5; have d0 := (blk_cell HG4 0).trans rfl; have d1 := (blk_cell HG4 1).trans rfl; have d2 := (blk_cell HG4 2).trans rfl; have d3 := (blk_cell HG4 3).trans rfl; have d4 := (blk_cell HG4 4).trans rfl; have d5 := (blk_cell HG4 5).trans rfl; clear HG4))
        all_goals (
          refine bodyPost_ret (results_cell_row_tmp rfl _ _ w.heap.size 51 #[.string ⟨#[]⟩, .string ⟨#[]⟩, .string ⟨#[]⟩, .string ⟨#[]⟩, .string ⟨#[]⟩, .string ⟨#[]⟩] (0, 0) _ rfl (blk_set (blk_set (blk_set (blk_set (blk_set (blk_set HR4.out 0 (.string ⟨#[]⟩)) 1 (.string ⟨#[]⟩)) 2 (.string ⟨#[]⟩)) 3 (.string ⟨#[]⟩)) 4 (.string ⟨#[]⟩)) 5 (.string ⟨#[]⟩)) Tryz.underlying51 rfl (by kernel_rfl)) rfl ?_
          exact ⟨by simp [e1, zeroT, aggT, Act.put], ((((((HV4.out.setCell (Nat.le_refl _) _).setCell (Nat.le_refl _) _).setCell (Nat.le_refl _) _).setCell (Nat.le_refl _) _).setCell (Nat.le_refl _) _).setCell (Nat.le_refl _) _)⟩)
end Go.Proofs.YtbdoafigggcdpaaGreatDoor.PScr
