/- The walk of the closure of script.parse. No condition of ours. -/
import Derived.Test.YtbdoafigggcdpaaGreatDoorVM8
namespace Go.Proofs.YtbdoafigggcdpaaGreatDoor.PScr
open Go.RowKit Go.Proofs.YtbdoafigggcdpaaGreatDoorW.PrintWords Go.Proofs.YtbdoafigggcdpaaGreatDoorW.PrintLast Go.Proofs.YtbdoafigggcdpaaGreatDoorW.PrintMore
set_option linter.unusedVariables false
set_option linter.unusedSimpArgs false

/-- the cells of tuples, one behind the other -/
def flatT (ts : List S51) : List Value := ts.flatMap fun t => [.string t.f0, .string t.f1, .string t.f2, .string t.f3.f0, .string t.f3.f1, .string t.f3.f2]
/-- block lb holds a line whose slices are its own, in blocks from B on -/
structure LineAt (w : World) (lb B : Nat) (word : ByteArray) (xs : List Int) (ts : List S51) (signs text : ByteArray) : Prop where
  out : ∃ vN vT, w.heap[lb]? = some (.cells #[.string word, vN, vT, .string signs, .string text] 29 (0, 0)) ∧ w.ownsRow B 3 1 vN xs.length (xs.map (Value.int .i64)) ∧ w.ownsRow B 51 6 vT ts.length (flatT ts)
/-- of the blocks below B nothing but block b has turned -/
structure Kp (B b : Nat) (w w' : World) : Prop where
  os : w'.os = w.os
  tape : w'.tape = w.tape
  output : w'.output = w.output
  size : w.heap.size ≤ w'.heap.size
  block : ∀ g, g < B → g ≠ b → w'.heap[g]? = w.heap[g]?
theorem Kp.of_below {B b : Nat} {w w' : World} (h : Below w.heap.size w w') (hB : B ≤ w.heap.size) : Kp B b w w' := ⟨h.os, h.tape, h.output, h.size, fun g hg _ => h.block g (by omega)⟩
theorem Kp.trans {B b : Nat} {w w1 w2 : World} (h : Kp B b w w1) (k : Kp B b w1 w2) : Kp B b w w2 :=
  ⟨k.os.trans h.os, k.tape.trans h.tape, k.output.trans h.output, Nat.le_trans h.size k.size, fun g hg hb => (k.block g hg hb).trans (h.block g hg hb)⟩
theorem LineAt.below {w w1 : World} {lb B : Nat} {word signs text : ByteArray} {xs : List Int} {ts : List S51} (h : LineAt w lb B word xs ts signs text) (hb : Below w.heap.size w w1) : LineAt w1 lb B word xs ts signs text := by
  obtain ⟨vN, vT, h1, h2, h3⟩ := h.out
  exact ⟨vN, vT, blk_below h1 hb, pw_own_below h2 hb, pw_own_below h3 hb⟩
theorem info3 : (Tryz.prog.info? 3).map (fun i => (i.zero, i.size, i.bytes)) = some (some (.int .i64 0), 1, 8) := by kernel_rfl

theorem own_slice {w : World} {B : Nat} {e : TypeId} {size : Nat} {v : Value} {n : Nat} {xs : List Value} (h : w.ownsRow B e size v n xs) : ∃ A m c, v = .slice A m c := by
  rcases h.2 with ⟨rfl, _⟩ | ⟨g, cap, cur, rfl, _⟩
  · exact ⟨_, _, _, rfl⟩
  · exact ⟨_, _, _, rfl⟩
theorem own_other {w w1 : World} {B : Nat} {vT vN : Value} {n m : Nat} {ys xs : List Value} (hT : w.ownsRow B 51 6 vT n ys) (hN : w.ownsRow B 3 1 vN m xs) (hg : w.grownBy w1 vN.ownBlock) : w1.ownsRow B 51 6 vT n ys := by
  obtain ⟨h1, h2⟩ := hT
  refine ⟨h1, ?_⟩
  rcases h2 with h2 | ⟨g, cap, cur, rfl, hb, hgg, h3⟩
  · exact .inl h2
  · refine .inr ⟨g, cap, cur, rfl, hb, blk_grown hgg hg ?_, h3⟩
    intro h
    rcases hN.2 with ⟨rfl, _⟩ | ⟨g', cap', cur', rfl, _, hgg', _⟩
    · simp [Value.ownBlock] at h
    · simp only [Value.ownBlock, Option.some.injEq] at h
      subst h
      rw [hgg] at hgg'
      cases hgg'
/-- the number that a word is -/
def numOf (p : ByteArray) : Option Int := match Lib.atoiAll p.data.toList with
  | .ok v => some v
  | _ => none

theorem atoi_any (w0 : World) (F : Facts w0) (p : ByteArray) (hp : p.size ≤ 1000000) (w : World) (hB0 : Below w0.heap.size w0 w) :
    Calls Tryz.prog 76 #[.string p] w fun e w' => (∃ n ev, e = .returned (.tuple #[.int .i64 n, ev]) ∧ ((numOf p = some n ∧ ev = .nilIface) ∨ (numOf p = none ∧ ∃ tt pp, ev = .iface tt pp))) ∧ Below w.heap.size w w' := by
  cases hq : Lib.atoiAll p.data.toList
  · rename_i v
    refine (Tryz.strconv_Atoi_ok p (by omega) v hq w).mono fun e w' ⟨h1, h2⟩ => ⟨⟨v, .nilIface, h1, .inl ⟨by unfold numOf; rw [hq], rfl⟩⟩, ?_⟩
    rcases h2 with rfl | ⟨t, rfl⟩
    · exact Below.refl _ _
    · exact ⟨rfl, rfl, rfl, by rw [Lib.bytesWorld_size]; omega, fun k hk => Lib.bytesWorld_at_old w 5 t k (by omega)⟩
  · obtain ⟨tp, pp, hv⟩ := F.e1
    exact (Tryz.strconv_Atoi_syntax_var p (by omega) hq tp pp w (var_below hB0 hv)).mono fun e w' ⟨n, h1, _, _, h2⟩ => ⟨⟨_, _, h1, .inr ⟨by unfold numOf; rw [hq], _, _, rfl⟩⟩, h2⟩
  · obtain ⟨tp, pp, hv⟩ := F.e2
    exact (Tryz.strconv_Atoi_range_var p (by omega) hq tp pp w (var_below hB0 hv)).mono fun e w' ⟨n, h1, _, _, h2⟩ => ⟨⟨_, _, h1, .inr ⟨by unfold numOf; rw [hq], _, _, rfl⟩⟩, h2⟩

set_option maxRecDepth 100000 in
set_option maxHeartbeats 1600000 in
theorem number_any (w0 : World) (F : Facts w0) (B lb : Nat) (h0 : w0.heap.size ≤ lb) (hlb : lb < B) (word signs text : ByteArray) (xs : List Int) (ts : List S51) (hxl : xs.length ≤ 1000000) (p : ByteArray) (hp : p.size ≤ 1000000) (w : World) (hB0 : Below w0.heap.size w0 w) (hBw : B ≤ w.heap.size) (h : LineAt w lb B word xs ts signs text) :
    Calls Tryz.prog 75 #[.string p, .pointer (some ⟨lb, 0, none⟩)] w fun e w' => e = .returned (.bool (numOf p).isSome) ∧ LineAt w' lb B word (match numOf p with | some n => xs ++ [n] | none => xs) ts signs text ∧ Kp B lb w w' := by
  obtain ⟨i0, hi, hz0, hz1, hz2⟩ := info_parts info3
  have hu29 := Tryz.underlying29
  have hat := atoi_any w0 F p hp w hB0
  have HLA := Aside0.mk h; clear h
  cases hn : numOf p with
  | none =>
    rw [hn] at hat
    go_enter Tryz.func75, Tryz.ntmps75
    go_wp2_with (first | (go_at_call 76; refine hat.mono ?_; rintro e w1 ⟨⟨n, ev, rfl, hev⟩, hb⟩; (rcases hev with ⟨h1, _⟩ | ⟨_, tt, pp, rfl⟩); (exact absurd h1 (by simp)); have HB1 := Aside0.mk hb; clear hb))
    go_ret
    exact ⟨rfl, HLA.out.below HB1.out, Kp.of_below HB1.out hBw⟩
  | some n =>
    rw [hn] at hat
    obtain ⟨vN, vT, hl, hN, hT⟩ := HLA.out
    have HN := Aside0.mk hN; clear hN
    have HT := Aside0.mk hT; clear hT
    have HL := Aside0.mk hl; clear hl
    go_enter Tryz.func75, Tryz.ntmps75
    go_wp2_with (first
      | (go_at_call 76; refine hat.mono ?_; rintro e w1 ⟨⟨m, ev, rfl, hev⟩, hb⟩; (rcases hev with ⟨h1, rfl⟩ | ⟨h1, _⟩); rotate_left; (exact absurd h1 (by simp)); (obtain rfl := Option.some.inj h1); clear h1; have HL1 := Aside0.mk (blk_below HL.out hb); have HN1 := Aside0.mk (pw_own_below HN.out hb); have HT1 := Aside0.mk (pw_own_below HT.out hb); have HB1 := Aside0.mk hb; clear hb; have l1 := (blk_cell HL1.out 1).trans rfl)
      | (at_builtin; refine wpList_append_own _ rfl _ _ 26 rfl B 3 i0 (.int .i64 0) 1 8 Tryz.underlying26 hi hz0 hz1 hz2 rfl (by decide) _ _ _ rfl (HN1.out.alloc _) ⟨w1.heap.size, 0, none⟩ 1 1 [.int .i64 n] rfl rfl (news1 (blk_new _ _)) ?c2 ?c3 ?c4 ?c5 ?_))
    case c2 => intro u hu; simp at hu; subst hu; rfl
    case c3 => unfold maxLen; omega
    case c4 => omega
    case c5 => have := HB1.out.size; simp; omega
    intro v' w3 hown' hgrow _
    have hl3 := blk_grown (blk_alloc HL1.out (.cells #[.int .i64 n] 3)) hgrow (fun h => by have := (own_blk HN1.out _ h.symm).1; omega)
    have ht3 := own_other (HT1.out.alloc (.cells #[.int .i64 n] 3)) (HN1.out.alloc (.cells #[.int .i64 n] 3)) hgrow
    have hk3 : Kp B lb w w3 := (Kp.of_below HB1.out hBw).trans ⟨hgrow.os, hgrow.tape, hgrow.output, Nat.le_trans (by simp) hgrow.size, fun g hg hne => (hgrow.block g (by have := HB1.out.size; simp; omega) (fun h => by have := (own_blk HN1.out _ h.symm).1; omega)).trans (Below.heap_alloc _ _ _ (by have := HB1.out.size; omega))⟩
    have HN3 := Aside0.mk hown'; clear hown' hgrow
    have HT3 := Aside0.mk ht3; clear ht3
    have HK3 := Aside0.mk hk3; clear hk3
    have HL3 := Aside0.mk hl3; clear hl3
    have c1 := (blk_cell HL3.out 1).trans rfl
    have f1 := blk_frozen HL3.out 1
    clear l1
    obtain ⟨A', m', c', rfl⟩ := own_slice HN3.out
    go_wp2
    go_ret
    refine ⟨rfl, ⟨.slice A' m' c', vT, blk_set HL3.out 1 (.slice A' m' c'), ?_, RowKit.ownsRow_setCell_below HT3.out hlb _⟩, HK3.out.trans ⟨rfl, rfl, rfl, by simp, fun g hg hne => Below.heap_setCell _ _ _ _ hne⟩⟩
    have := RowKit.ownsRow_setCell_below HN3.out (a := ⟨lb, 1, none⟩) hlb (.slice A' m' c')
    simpa using this
end Go.Proofs.YtbdoafigggcdpaaGreatDoor.PScr
