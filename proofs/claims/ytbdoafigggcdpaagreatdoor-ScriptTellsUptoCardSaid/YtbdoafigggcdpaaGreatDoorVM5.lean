/- The walks of script.find. No condition of ours. -/
import Derived.Test.YtbdoafigggcdpaaGreatDoorVM4
namespace Go.Proofs.YtbdoafigggcdpaaGreatDoor.PScr
open Go.RowKit Go.Proofs.YtbdoafigggcdpaaGreatDoorW.PrintWords Go.Proofs.YtbdoafigggcdpaaGreatDoorW.PrintLast Go.Proofs.YtbdoafigggcdpaaGreatDoorW.PrintMore
set_option linter.unusedVariables false
set_option linter.unusedSimpArgs false

/-- an entry of the words -/
structure Ent where
  word : ByteArray
  n : Int
  lo : Int
  hi : Int
  signs : Bool
  text : Bool
  pairs : Bool
  bytes : Bool
def Ent.vals (e : Ent) : Array Value := #[.string e.word, .int .i64 e.n, .int .i64 e.lo, .int .i64 e.hi, .bool e.signs, .bool e.text, .bool e.pairs, .bool e.bytes]
def ent0 : Ent := ⟨⟨#[]⟩, 0, 0, 0, false, false, false, false⟩
def ents : List Ent := [
  ⟨⟨#[117, 112, 100, 97, 116, 101]⟩, 0, 0, 8, true, false, false, false⟩,
  ⟨⟨#[99, 104, 101, 99, 107]⟩, 2, 1, 1, false, false, false, false⟩,
  ⟨⟨#[101, 120, 112, 97, 110, 100]⟩, 2, 1, 1, false, false, false, false⟩,
  ⟨⟨#[115, 117, 98, 106, 101, 99, 116, 115]⟩, 2, 1, 1, false, false, false, false⟩,
  ⟨⟨#[111, 98, 106, 101, 99, 116, 115]⟩, 2, 1, 1, false, false, false, false⟩,
  ⟨⟨#[114, 101, 97, 100]⟩, 2, 0, 1, false, false, false, false⟩,
  ⟨⟨#[108, 111, 103]⟩, 2, 0, 0, false, false, false, false⟩,
  ⟨⟨#[112, 105, 110]⟩, 1, 0, 0, false, false, false, false⟩,
  ⟨⟨#[117, 110, 112, 105, 110]⟩, 1, 0, 0, false, false, false, false⟩,
  ⟨⟨#[110, 111, 119]⟩, 0, 0, 0, false, false, false, false⟩,
  ⟨⟨#[115, 99, 114, 117, 98]⟩, 0, 0, 0, false, false, false, false⟩,
  ⟨⟨#[111, 112, 101, 110]⟩, 0, 0, 0, false, false, false, false⟩,
  ⟨⟨#[102, 117, 115, 101]⟩, 1, 0, 0, false, false, false, false⟩,
  ⟨⟨#[99, 114, 97, 115, 104]⟩, 0, 0, 0, false, false, true, false⟩]
def entAt (i : Nat) : Ent := ents.getD i ent0
/-- block 0 holds the entries -/
def EntsIn (w : World) : Prop := ∀ i, i < 14 → ∀ k v, (entAt i).vals[k]? = some v → w.cell? ⟨0, i * 8 + k, none⟩ = some v
theorem EntsIn.below {w w1 : World} (h : EntsIn w) (hb : Below w.heap.size w w1) : EntsIn w1 := fun i hi k v hv => below_cell0 hb (h i hi k v hv)

set_option maxRecDepth 100000 in
theorem find1_any (e : Ent) (b : Nat) (word : ByteArray) (w : World) (hc : w.cell? ⟨b, 0, none⟩ = some (.string word)) :
    Calls Tryz.prog 54 #[.agg e.vals, .pointer (some ⟨b, 0, none⟩)] w fun e' w' => e' = .returned (.bool (e.word.toList == word.toList)) ∧ Below w.heap.size w w' := by
  have hu72 := Tryz.underlying72
  have hc1 := below_cell0 (below_alloc (Below.refl w.heap.size w) (.cells e.vals 72)) hc
  unfold Ent.vals at hc1 ⊢
  go_enter Tryz.func54, Tryz.ntmps54
  go_wp2
  go_ret
  exact ⟨rfl, by repeat (first | exact Below.refl _ _ | apply below_alloc | apply pw_below_drewN | apply below_drew1)⟩

/-- the first entry of a word, from i on -/
def idxE (word : ByteArray) : Nat → Nat → Int
  | 0, _ => -1
  | k + 1, i => if ((entAt i).word.toList == word.toList) then (i : Int) else idxE word k (i + 1)
theorem idxE_step (word : ByteArray) (k i : Nat) : idxE word (k + 1) i = if ((entAt i).word.toList == word.toList) then (i : Int) else idxE word k (i + 1) := rfl

set_option maxRecDepth 100000 in
set_option maxHeartbeats 800000 in
theorem indexEnt_any (b : Nat) (word : ByteArray) (w : World) (hE : EntsIn w) (hc : w.cell? ⟨b, 0, none⟩ = some (.string word)) :
    Calls Tryz.prog 53 #[.slice (some ⟨0, 0, none⟩) 14 14, .func (.func 54) #[] #[.pointer (some ⟨b, 0, none⟩)]] w fun e' w' => e' = .returned (.int .i64 (idxE word 14 0)) ∧ Below w.heap.size w w' := by
  have hu72 := Tryz.underlying72
  have HC := Aside0.mk hc; clear hc
  have HE := Aside0.mk hE; clear hE
  go_enter Tryz.func53, Tryz.ntmps53
  go_wp2
  go_loopw [8] (fun v wr => ∃ i : Nat, v = .int .i64 i ∧ i ≤ 14 ∧ Aside0 (idxE word (14 - i) i = idxE word 14 0) ∧ Below w.heap.size w wr) (fun v _ => 14 - (intOf v).toNat)
  case atStart => exact ⟨0, rfl, by omega, ⟨rfl⟩, Below.refl _ _⟩
  case round =>
    obtain ⟨i, rfl, hi, HI, hb⟩ := hrel
    have HB := Aside0.mk hb; clear hb
    by_cases hlt : i < 14
    · have hx := HI.out
      obtain ⟨k, hk⟩ : ∃ k, 14 - i = k + 1 := ⟨13 - i, by omega⟩
      rw [hk] at hx
      have hk' : 14 - (i + 1) = k := by omega
      rw [idxE_step word k i] at hx
      have g := (HE.out.below HB.out) i hlt
      have g0 : wr.cell? ⟨0, i * 8, none⟩ = some (.string (entAt i).word) := g 0 _ rfl
      have g1 : wr.cell? ⟨0, i * 8 + 1, none⟩ = some (.int .i64 (entAt i).n) := g 1 _ rfl
      have g2 : wr.cell? ⟨0, i * 8 + 2, none⟩ = some (.int .i64 (entAt i).lo) := g 2 _ rfl
      have g3 : wr.cell? ⟨0, i * 8 + 3, none⟩ = some (.int .i64 (entAt i).hi) := g 3 _ rfl
      have g4 : wr.cell? ⟨0, i * 8 + 4, none⟩ = some (.bool (entAt i).signs) := g 4 _ rfl
      have g5 : wr.cell? ⟨0, i * 8 + 5, none⟩ = some (.bool (entAt i).text) := g 5 _ rfl
      have g6 : wr.cell? ⟨0, i * 8 + 6, none⟩ = some (.bool (entAt i).pairs) := g 6 _ rfl
      have g7 : wr.cell? ⟨0, i * 8 + 7, none⟩ = some (.bool (entAt i).bytes) := g 7 _ rfl
      have hcl := find1_any (entAt i) b word wr (below_cell0 HB.out HC.out)
      unfold Ent.vals at hcl
      clear g hk
      cases hq : ((entAt i).word.toList == word.toList)
      · rw [hq] at hx hcl
        have HX := Aside0.mk hx; clear hx
        go_wp2_with (first | (go_at_call 54; refine hcl.mono ?_; rintro e' w' ⟨rfl, hb⟩))
        go_roundw
        case rel => exact ⟨i + 1, rfl, by omega, ⟨by rw [hk']; simpa using HX.out⟩, below_step HB.out hb⟩
        case measure => simp [intOf]; omega
      · rw [hq] at hx hcl
        rw [if_pos rfl] at hx
        have HX := Aside0.mk hx; clear hx
        go_wp2_with (first | (go_at_call 54; refine hcl.mono ?_; rintro e' w' ⟨rfl, hb⟩))
        go_ret
        exact ⟨by rw [← HX.out]; rfl, below_step HB.out hb⟩
    · obtain rfl : i = 14 := by omega
      go_wp2
      go_ret
      exact ⟨by rw [← HI.out]; rfl, HB.out⟩

/-- a word's entry -/
def findE (word : ByteArray) : Ent :=
  if word.toList = ([115, 112, 111, 105, 108] : List UInt8) then ⟨word, 3, 0, 0, false, false, false, true⟩
  else if word.toList = ([114, 117, 108, 101, 115] : List UInt8) then ⟨word, 0, 0, 0, false, true, false, false⟩
  else if idxE word 14 0 < 0 then ent0 else entAt (idxE word 14 0).toNat
def findB (word : ByteArray) : Bool := word.toList == ([115, 112, 111, 105, 108] : List UInt8) || word.toList == ([114, 117, 108, 101, 115] : List UInt8) || decide (0 ≤ idxE word 14 0)
theorem idxE_range (word : ByteArray) : ∀ k i, idxE word k i = -1 ∨ (0 ≤ idxE word k i ∧ idxE word k i < i + k)
  | 0, i => .inl rfl
  | k + 1, i => by
    rw [idxE_step]
    split
    · right; omega
    · rcases idxE_range word k (i + 1) with h | h
      · exact .inl h
      · right; omega
set_option maxRecDepth 100000 in
set_option maxHeartbeats 1600000 in
theorem find_any (word : ByteArray) (w : World) (hE : EntsIn w) :
    Calls Tryz.prog 22 #[.string word] w fun e' w' => e' = .returned (.tuple #[.agg (findE word).vals, .bool (findB word)]) ∧ Below w.heap.size w w' := by
  have hu72 := Tryz.underlying72
  have HW := Aside0.mk (below_alloc (Below.refl w.heap.size w) (.cells #[.string word] 9))
  have hsz : (w.alloc (.cells #[.string word] 9)).heap.size = w.heap.size + 1 := by simp
  have HC := Aside0.mk (box_blk w #[.string word] 9)
  unfold findE findB
  by_cases h1 : word.toList = ([115, 112, 111, 105, 108] : List UInt8)
  · have e1 : (word.toList == ([115, 112, 111, 105, 108] : List UInt8)) = true := beq_iff_eq.2 h1
    have KV := box_blk (w.alloc (.cells #[.string word] 9)) #[.string word, .int .i64 3, .int .i64 0, .int .i64 0, .bool false, .bool false, .bool false, .bool true] 72
    rw [hsz] at KV
    have KV' := Aside0.mk KV; clear KV
    have hw2 := Aside0.mk (below_alloc HW.out (.cells #[.string word, .int .i64 3, .int .i64 0, .int .i64 0, .bool false, .bool false, .bool false, .bool true] 72))
    rw [if_pos h1]
    clear h1
    go_enter Tryz.func22, Tryz.ntmps22
    go_wp2
    have KV := KV'.out
    refine bodyPost_ret (results_cell_row_tmp rfl _ _ (w.heap.size + 1) 72 #[.string word, .int .i64 3, .int .i64 0, .int .i64 0, .bool false, .bool false, .bool false, .bool true] (0, 0) _ rfl KV Tryz.underlying72 rfl (by kernel_rfl)) rfl ?_
    exact ⟨by simp [Ent.vals, Act.put, e1], hw2.out⟩
  · have e1 : (word.toList == ([115, 112, 111, 105, 108] : List UInt8)) = false := beq_eq_false_iff_ne.2 h1
    rw [if_neg h1]
    clear h1
    by_cases h2 : word.toList = ([114, 117, 108, 101, 115] : List UInt8)
    · have e2 : (word.toList == ([114, 117, 108, 101, 115] : List UInt8)) = true := beq_iff_eq.2 h2
      have KV := box_blk (w.alloc (.cells #[.string word] 9)) #[.string word, .int .i64 0, .int .i64 0, .int .i64 0, .bool false, .bool true, .bool false, .bool false] 72
      rw [hsz] at KV
      have KV' := Aside0.mk KV; clear KV
      have hw2 := Aside0.mk (below_alloc HW.out (.cells #[.string word, .int .i64 0, .int .i64 0, .int .i64 0, .bool false, .bool true, .bool false, .bool false] 72))
      rw [if_pos h2]
      clear h2
      go_enter Tryz.func22, Tryz.ntmps22
      go_wp2
      have KV := KV'.out
      refine bodyPost_ret (results_cell_row_tmp rfl _ _ (w.heap.size + 1) 72 #[.string word, .int .i64 0, .int .i64 0, .int .i64 0, .bool false, .bool true, .bool false, .bool false] (0, 0) _ rfl KV Tryz.underlying72 rfl (by kernel_rfl)) rfl ?_
      exact ⟨by simp [Ent.vals, Act.put, e1, e2], hw2.out⟩
    · have e2 : (word.toList == ([114, 117, 108, 101, 115] : List UInt8)) = false := beq_eq_false_iff_ne.2 h2
      rw [if_neg h2]
      clear h2
      have hw2 := below_alloc HW.out (.cells ent0.vals 72)
      have hc2 := blk_below (blk_below HC.out (below_alloc (Below.refl _ _) (.cells ent0.vals 72))) (Below.refl _ _)
      have hz2 := box_blk (w.alloc (.cells #[.string word] 9)) ent0.vals 72
      rw [hsz] at hz2
      have hidx := indexEnt_any w.heap.size word _ (hE.below hw2) ((blk_cell hc2 0).trans rfl)
      have hE2 := Aside0.mk hE; clear hE
      have HC2 := Aside0.mk hc2; clear hc2
      have HZ2 := Aside0.mk hz2; clear hz2
      have HW2 := Aside0.mk hw2; clear hw2
      unfold ent0 Ent.vals at hidx HW2 HZ2
      rcases idxE_range word 14 0 with hr | ⟨hr1, hr2⟩
      · rw [hr] at hidx ⊢
        go_enter Tryz.func22, Tryz.ntmps22
        go_wp2_with (first | (go_at_call 53; refine hidx.mono ?_; rintro e' w3 ⟨rfl, hb⟩; have HZ3 := blk_below HZ2.out hb; have HB4 := Aside0.mk (below_step HW2.out hb); clear hb; have z0 := (blk_cell HZ3 0).trans rfl; have y0 := blk_frozen HZ3 0; have z1 := (blk_cell HZ3 1).trans rfl; have y1 := blk_frozen HZ3 1; have z2 := (blk_cell HZ3 2).trans rfl; have y2 := blk_frozen HZ3 2; have z3 := (blk_cell HZ3 3).trans rfl; have y3 := blk_frozen HZ3 3; have z4 := (blk_cell HZ3 4).trans rfl; have y4 := blk_frozen HZ3 4; have z5 := (blk_cell HZ3 5).trans rfl; have y5 := blk_frozen HZ3 5; have z6 := (blk_cell HZ3 6).trans rfl; have y6 := blk_frozen HZ3 6; have z7 := (blk_cell HZ3 7).trans rfl; have y7 := blk_frozen HZ3 7; have HZ4 := Aside0.mk HZ3; clear HZ3))
        have KV := (blk_set (blk_set (blk_set (blk_set (blk_set (blk_set (blk_set (blk_set HZ4.out 0 (.string ⟨#[]⟩)) 1 (.int .i64 0)) 2 (.int .i64 0)) 3 (.int .i64 0)) 4 (.bool false)) 5 (.bool false)) 6 (.bool false)) 7 (.bool false))
        refine bodyPost_ret (results_cell_row_tmp rfl _ _ (w.heap.size + 1) 72 #[.string ⟨#[]⟩, .int .i64 0, .int .i64 0, .int .i64 0, .bool false, .bool false, .bool false, .bool false] (0, 0) _ rfl KV Tryz.underlying72 rfl (by kernel_rfl)) rfl ?_
        exact ⟨by simp [Ent.vals, ent0, Act.put, e1, e2], ((((((((HB4.out.setCell (Nat.le_succ _) _).setCell (Nat.le_succ _) _).setCell (Nat.le_succ _) _).setCell (Nat.le_succ _) _).setCell (Nat.le_succ _) _).setCell (Nat.le_succ _) _).setCell (Nat.le_succ _) _).setCell (Nat.le_succ _) _)⟩
      · obtain ⟨i, hi⟩ := Int.eq_ofNat_of_zero_le hr1
        rw [hi] at hidx hr2 ⊢
        have hlt : i < 14 := by omega
        have q1 : (i : Int) < 14 := by omega
        clear hi hr1 hr2 hsz
        go_enter Tryz.func22, Tryz.ntmps22
        go_wp2_with (first | (go_at_call 53; refine hidx.mono ?_; rintro e' w3 ⟨rfl, hb⟩; have hEE := ((hE2.out.below HW2.out).below hb) i hlt; have g0 : w3.cell? ⟨0, i * 8, none⟩ = some (.string (entAt i).word) := hEE 0 _ rfl; have g1 : w3.cell? ⟨0, i * 8 + 1, none⟩ = some (.int .i64 (entAt i).n) := hEE 1 _ rfl; have g2 : w3.cell? ⟨0, i * 8 + 2, none⟩ = some (.int .i64 (entAt i).lo) := hEE 2 _ rfl; have g3 : w3.cell? ⟨0, i * 8 + 3, none⟩ = some (.int .i64 (entAt i).hi) := hEE 3 _ rfl; have g4 : w3.cell? ⟨0, i * 8 + 4, none⟩ = some (.bool (entAt i).signs) := hEE 4 _ rfl; have g5 : w3.cell? ⟨0, i * 8 + 5, none⟩ = some (.bool (entAt i).text) := hEE 5 _ rfl; have g6 : w3.cell? ⟨0, i * 8 + 6, none⟩ = some (.bool (entAt i).pairs) := hEE 6 _ rfl; have g7 : w3.cell? ⟨0, i * 8 + 7, none⟩ = some (.bool (entAt i).bytes) := hEE 7 _ rfl; clear hEE; have HZ3 := blk_below HZ2.out hb; have HB4 := Aside0.mk (below_step HW2.out hb); clear hb; have z0 := (blk_cell HZ3 0).trans rfl; have y0 := blk_frozen HZ3 0; have z1 := (blk_cell HZ3 1).trans rfl; have y1 := blk_frozen HZ3 1; have z2 := (blk_cell HZ3 2).trans rfl; have y2 := blk_frozen HZ3 2; have z3 := (blk_cell HZ3 3).trans rfl; have y3 := blk_frozen HZ3 3; have z4 := (blk_cell HZ3 4).trans rfl; have y4 := blk_frozen HZ3 4; have z5 := (blk_cell HZ3 5).trans rfl; have y5 := blk_frozen HZ3 5; have z6 := (blk_cell HZ3 6).trans rfl; have y6 := blk_frozen HZ3 6; have z7 := (blk_cell HZ3 7).trans rfl; have y7 := blk_frozen HZ3 7; have HZ4 := Aside0.mk HZ3; clear HZ3))
        have KV := (blk_set (blk_set (blk_set (blk_set (blk_set (blk_set (blk_set (blk_set HZ4.out 0 (.string (entAt i).word)) 1 (.int .i64 (entAt i).n)) 2 (.int .i64 (entAt i).lo)) 3 (.int .i64 (entAt i).hi)) 4 (.bool (entAt i).signs)) 5 (.bool (entAt i).text)) 6 (.bool (entAt i).pairs)) 7 (.bool (entAt i).bytes))
        refine bodyPost_ret (results_cell_row_tmp rfl _ _ (w.heap.size + 1) 72 #[.string (entAt i).word, .int .i64 (entAt i).n, .int .i64 (entAt i).lo, .int .i64 (entAt i).hi, .bool (entAt i).signs, .bool (entAt i).text, .bool (entAt i).pairs, .bool (entAt i).bytes] (0, 0) _ rfl KV Tryz.underlying72 rfl (by kernel_rfl)) rfl ?_
        have e3 : ¬ (i : Int) < 0 := by omega
        exact ⟨by simp [Ent.vals, Act.put, e1, e2, e3], ((((((((HB4.out.setCell (Nat.le_succ _) _).setCell (Nat.le_succ _) _).setCell (Nat.le_succ _) _).setCell (Nat.le_succ _) _).setCell (Nat.le_succ _) _).setCell (Nat.le_succ _) _).setCell (Nat.le_succ _) _).setCell (Nat.le_succ _) _)⟩
end Go.Proofs.YtbdoafigggcdpaaGreatDoor.PScr
