/- The walks of the closure of script.Tell and of script.Tell at an answer that has. No condition of ours. -/
import Derived.Test.YtbdoafigggcdpaaGreatDoorVMB
namespace Go.Proofs.YtbdoafigggcdpaaGreatDoor.PScr
open Go.RowKit Go.Proofs.YtbdoafigggcdpaaGreatDoorW.PrintWords Go.Proofs.YtbdoafigggcdpaaGreatDoorW.PrintLast Go.Proofs.YtbdoafigggcdpaaGreatDoorW.PrintMore
set_option linter.unusedVariables false
set_option linter.unusedSimpArgs false

/-- block g holds a slice of these words, in a block of the call's own -/
def WordsAt (w : World) (g B : Nat) (vs : List ByteArray) : Prop := ∃ v, w.heap[g]? = some (.cells #[v] 40 (0, 0)) ∧ w.ownsRow B 9 1 v vs.length (vs.map Value.string)
theorem words_below {w w' : World} {g B : Nat} {vs : List ByteArray} (h : WordsAt w g B vs) (hb : Below w.heap.size w w') : WordsAt w' g B vs := by
  obtain ⟨v, h1, h2⟩ := h
  exact ⟨v, blk_below h1 hb, pw_own_below h2 hb⟩
theorem own_apart {w : World} {B g : Nat} {e t : TypeId} {size n : Nat} {v : Value} {xs : List Value} {cs : Array Value} (h : w.ownsRow B e size v n xs) (hg : w.heap[g]? = some (.cells cs t (0, 0))) (hne : e ≠ t) : some g ≠ v.ownBlock := by
  intro he
  obtain ⟨cs', h'⟩ := own_typed h g he.symm
  rw [hg] at h'
  injection h' with h'
  injection h' with _ h' _
  exact hne h'.symm
theorem own_set_apart {w : World} {B g : Nat} {e : TypeId} {size n : Nat} {v : Value} {xs : List Value} (h : w.ownsRow B e size v n xs) (hg : some g ≠ v.ownBlock) (i : Nat) (u : Value) : (w.setCell ⟨g, i, none⟩ u).ownsRow B e size v n xs :=
  own_move h (fun k hk => Below.heap_setCell _ _ _ _ (fun e => hg (by subst e; exact hk.symm)))

set_option maxRecDepth 100000 in
set_option maxHeartbeats 1600000 in
theorem put_any (B g : Nat) (hg : B ≤ g) (s : ByteArray) (vs : List ByteArray) (hl : vs.length ≤ 1000000) (w : World) (hBw : B ≤ w.heap.size) (h : WordsAt w g B vs) :
    Calls Tryz.prog 41 #[.string s, .pointer (some ⟨g, 0, none⟩)] w fun e w' => e = .returned (.tuple #[]) ∧ WordsAt w' g B (vs ++ [s]) ∧ Below B w w' := by
  obtain ⟨i0, hi, hz0, hz1, hz2⟩ := info_parts info9
  obtain ⟨v, hh, hown⟩ := h
  have hlt := blk_lt hh
  have HH := Aside0.mk hh
  have HO := Aside0.mk hown
  have c0 := (blk_cell hh 0).trans rfl
  clear hh hown
  go_enter Tryz.func41, Tryz.ntmps41
  go_wp2_with (first
    | (at_builtin; refine wpList_append_own _ rfl _ _ 40 rfl B 9 i0 (.string ⟨#[]⟩) 1 16 Tryz.underlying40 hi hz0 hz1 hz2 rfl (by decide) _ _ _ rfl (HO.out.alloc _) ⟨w.heap.size, 0, none⟩ 1 1 [.string s] rfl rfl (news1 (blk_new _ _)) ?c2 ?c3 ?c4 ?c5 ?_))
  case c2 => intro u hu; simp at hu; subst hu; rfl
  case c3 => unfold maxLen; omega
  case c4 => omega
  case c5 => simp; omega
  intro v' w1 hown' hgrow _
  have hne : some g ≠ v.ownBlock := own_apart HO.out HH.out (by decide)
  have hh1 := blk_grown (blk_alloc HH.out (.cells #[.string s] 9)) hgrow hne
  have hb1 : Below B w w1 := (Below.trans (b := w.alloc (.cells #[.string s] 9)) ⟨rfl, rfl, rfl, by simp, fun k hk => Below.heap_alloc _ _ _ (by omega)⟩ ((Below.refl B _).grown hgrow (by simp; omega) (fun k hk => (own_blk HO.out k hk).1)))
  clear c0
  have c0 := (blk_cell hh1 0).trans rfl
  have f0 := blk_frozen hh1 0
  have HH1 := Aside0.mk hh1
  have HO1 := Aside0.mk hown'
  have HB1 := Aside0.mk hb1
  clear hh1 hown' hgrow hb1 hne
  obtain ⟨A, m, c, rfl⟩ := own_slice HO1.out
  go_wp2
  go_end0
  refine ⟨rfl, ⟨.slice A m c, blk_set HH1.out 0 (.slice A m c), ?_⟩, HB1.out.setCell (p := ⟨g, 0, none⟩) hg _⟩
  have := own_set_apart HO1.out (own_apart HO1.out HH1.out (by decide)) 0 (.slice A m c)
  simpa using this

set_option maxRecDepth 100000 in
set_option maxHeartbeats 4000000 in
theorem tellHas_any (w : World) :
    Calls Tryz.prog 18 #[.agg #[.int .i64 0, .int .i64 0, .string ⟨#[]⟩, .bool true, .bool false, .slice none 0 0, .slice none 0 0, .slice none 0 0, .slice none 0 0, .string ⟨#[]⟩, .slice none 0 0, .slice none 0 0, .slice none 0 0]] w fun e w' => e = .returned (.string (joined [⟨#[111, 107]⟩, ⟨#[104, 97, 115]⟩] ++ ⟨#[10]⟩)) ∧ Below w.heap.size w w' := by
  have hu46 := Tryz.underlying46
  have hu44 := Tryz.underlying44
  have HKX := Aside0.mk (box_blk w #[.int .i64 0, .int .i64 0, .string ⟨#[]⟩, .bool true, .bool false, .slice none 0 0, .slice none 0 0, .slice none 0 0, .slice none 0 0, .string ⟨#[]⟩, .slice none 0 0, .slice none 0 0, .slice none 0 0] 46)
  have z0 := (blk_cell HKX.out 0).trans rfl; have z1 := (blk_cell HKX.out 1).trans rfl; have z2 := (blk_cell HKX.out 2).trans rfl; have z3 := (blk_cell HKX.out 3).trans rfl; have z4 := (blk_cell HKX.out 4).trans rfl; have z5 := (blk_cell HKX.out 5).trans rfl; have z6 := (blk_cell HKX.out 6).trans rfl; have z7 := (blk_cell HKX.out 7).trans rfl; have z8 := (blk_cell HKX.out 8).trans rfl; have z9 := (blk_cell HKX.out 9).trans rfl; have z10 := (blk_cell HKX.out 10).trans rfl; have z11 := (blk_cell HKX.out 11).trans rfl; have z12 := (blk_cell HKX.out 12).trans rfl
  go_enter Tryz.func18, Tryz.ntmps18
  have hw0 : WordsAt (((w.alloc (.cells #[.int .i64 0, .int .i64 0, .string ⟨#[]⟩, .bool true, .bool false, .slice none 0 0, .slice none 0 0, .slice none 0 0, .slice none 0 0, .string ⟨#[]⟩, .slice none 0 0, .slice none 0 0, .slice none 0 0] 46)).alloc (.cells #[.string ⟨#[111, 107]⟩] 9)).alloc (.cells #[.slice (some ⟨w.heap.size + 1, 0, none⟩) 1 1] 40)) (w.heap.size + 1 + 1) (w.heap.size + 1) [⟨#[111, 107]⟩] := by
    refine ⟨.slice (some ⟨w.heap.size + 1, 0, none⟩) 1 1, ?_, ?_⟩
    · have := box_blk ((w.alloc (.cells #[.int .i64 0, .int .i64 0, .string ⟨#[]⟩, .bool true, .bool false, .slice none 0 0, .slice none 0 0, .slice none 0 0, .slice none 0 0, .string ⟨#[]⟩, .slice none 0 0, .slice none 0 0, .slice none 0 0] 46)).alloc (.cells #[.string ⟨#[111, 107]⟩] 9)) #[.slice (some ⟨w.heap.size + 1, 0, none⟩) 1 1] 40
      rwa [size_alloc1, size_alloc1] at this
    · have h := World.ownsRow_lit (base := w.heap.size + 1) (e := 9) (size := 1) (w.alloc (.cells #[.int .i64 0, .int .i64 0, .string ⟨#[]⟩, .bool true, .bool false, .slice none 0 0, .slice none 0 0, .slice none 0 0, .slice none 0 0, .string ⟨#[]⟩, .slice none 0 0, .slice none 0 0, .slice none 0 0] 46)) #[.string ⟨#[111, 107]⟩] 1 (by rw [size_alloc1]; exact Nat.le_refl _) (by unfold maxLen; omega) rfl
      rw [size_alloc1] at h
      exact (h.alloc (.cells #[.slice (some ⟨w.heap.size + 1, 0, none⟩) 1 1] 40))
  have HW0 := Aside0.mk hw0; clear hw0
  have hbx := blk_alloc (blk_alloc HKX.out (.cells #[.string ⟨#[111, 107]⟩] 9)) (.cells #[.slice (some ⟨w.heap.size + 1, 0, none⟩) 1 1] 40)
  have hb0 : Below (w.heap.size + 1) (w.alloc (.cells #[.int .i64 0, .int .i64 0, .string ⟨#[]⟩, .bool true, .bool false, .slice none 0 0, .slice none 0 0, .slice none 0 0, .slice none 0 0, .string ⟨#[]⟩, .slice none 0 0, .slice none 0 0, .slice none 0 0] 46)) (((w.alloc (.cells #[.int .i64 0, .int .i64 0, .string ⟨#[]⟩, .bool true, .bool false, .slice none 0 0, .slice none 0 0, .slice none 0 0, .slice none 0 0, .string ⟨#[]⟩, .slice none 0 0, .slice none 0 0, .slice none 0 0] 46)).alloc (.cells #[.string ⟨#[111, 107]⟩] 9)).alloc (.cells #[.slice (some ⟨w.heap.size + 1, 0, none⟩) 1 1] 40)) := by
    have := below_alloc (below_alloc (Below.refl _ (w.alloc (.cells #[.int .i64 0, .int .i64 0, .string ⟨#[]⟩, .bool true, .bool false, .slice none 0 0, .slice none 0 0, .slice none 0 0, .slice none 0 0, .string ⟨#[]⟩, .slice none 0 0, .slice none 0 0, .slice none 0 0] 46))) (.cells #[.string ⟨#[111, 107]⟩] 9)) (.cells #[.slice (some ⟨w.heap.size + 1, 0, none⟩) 1 1] 40)
    rwa [size_alloc1] at this
  have HB0 := Aside0.mk hb0; clear hb0
  clear z0 z1 z2 z3 z4 z5 z6 z7 z8 z9 z10 z11 z12
  have HKX0 := Aside0.mk hbx
  have z0 := (blk_cell hbx 0).trans rfl; have z1 := (blk_cell hbx 1).trans rfl; have z2 := (blk_cell hbx 2).trans rfl; have z3 := (blk_cell hbx 3).trans rfl; have z4 := (blk_cell hbx 4).trans rfl; have z5 := (blk_cell hbx 5).trans rfl; have z6 := (blk_cell hbx 6).trans rfl; have z7 := (blk_cell hbx 7).trans rfl; have z8 := (blk_cell hbx 8).trans rfl; have z9 := (blk_cell hbx 9).trans rfl; have z10 := (blk_cell hbx 10).trans rfl; have z11 := (blk_cell hbx 11).trans rfl; have z12 := (blk_cell hbx 12).trans rfl
  clear hbx
  go_upto_region 14 with (first
    | (go_at_call 41; refine (put_any (w.heap.size + 1) (w.heap.size + 1 + 1) (by omega) ⟨#[104, 97, 115]⟩ [⟨#[111, 107]⟩] (by simp) _ (by simp) HW0.out).mono ?_; rintro e w1 ⟨rfl, hw1, hb1⟩; have HW1 := Aside0.mk hw1; have HB1 := Aside0.mk (HB0.out.trans hb1); have HKX1 := Aside0.mk ((hb1.block w.heap.size (by omega)).trans HKX0.out); clear hw1 hb1 z0 z1 z2 z3 z4 z5 z6 z7 z8 z9 z10 z11 z12; have z0 := (blk_cell HKX1.out 0).trans rfl; have z1 := (blk_cell HKX1.out 1).trans rfl; have z2 := (blk_cell HKX1.out 2).trans rfl; have z3 := (blk_cell HKX1.out 3).trans rfl; have z4 := (blk_cell HKX1.out 4).trans rfl; have z5 := (blk_cell HKX1.out 5).trans rfl; have z6 := (blk_cell HKX1.out 6).trans rfl; have z7 := (blk_cell HKX1.out 7).trans rfl; have z8 := (blk_cell HKX1.out 8).trans rfl; have z9 := (blk_cell HKX1.out 9).trans rfl; have z10 := (blk_cell HKX1.out 10).trans rfl; have z11 := (blk_cell HKX1.out 11).trans rfl; have z12 := (blk_cell HKX1.out 12).trans rfl))
  clear z0 z1 z2 z3 z4 z5 z6 z7 z8 z9 z10 z11 z12
  go_loopw [57] (fun i wx => i = .int .i64 0 ∧ Aside0 (WordsAt wx (w.heap.size + 1 + 1) (w.heap.size + 1) [⟨#[111, 107]⟩, ⟨#[104, 97, 115]⟩]) ∧ Aside0 (wx.heap[w.heap.size]? = some (.cells #[.int .i64 0, .int .i64 0, .string ⟨#[]⟩, .bool true, .bool false, .slice none 0 0, .slice none 0 0, .slice none 0 0, .slice none 0 0, .string ⟨#[]⟩, .slice none 0 0, .slice none 0 0, .slice none 0 0] 46 (0, 0))) ∧ Aside0 (Below (w.heap.size + 1) (w.alloc (.cells #[.int .i64 0, .int .i64 0, .string ⟨#[]⟩, .bool true, .bool false, .slice none 0 0, .slice none 0 0, .slice none 0 0, .slice none 0 0, .string ⟨#[]⟩, .slice none 0 0, .slice none 0 0, .slice none 0 0] 46)) wx)) (fun _ _ => 0)
  case atStart => exact ⟨rfl, HW1, HKX1, HB1⟩
  case round =>
    clear HW1 HKX1 HB1
    obtain ⟨rfl, HW1, HKX1, HB1⟩ := hrel
    have z0 := (blk_cell HKX1.out 0).trans rfl; have z1 := (blk_cell HKX1.out 1).trans rfl; have z2 := (blk_cell HKX1.out 2).trans rfl; have z3 := (blk_cell HKX1.out 3).trans rfl; have z4 := (blk_cell HKX1.out 4).trans rfl; have z5 := (blk_cell HKX1.out 5).trans rfl; have z6 := (blk_cell HKX1.out 6).trans rfl; have z7 := (blk_cell HKX1.out 7).trans rfl; have z8 := (blk_cell HKX1.out 8).trans rfl; have z9 := (blk_cell HKX1.out 9).trans rfl; have z10 := (blk_cell HKX1.out 10).trans rfl; have z11 := (blk_cell HKX1.out 11).trans rfl; have z12 := (blk_cell HKX1.out 12).trans rfl
    go_upto_region 20 with fail
    clear z0 z1 z2 z3 z4 z5 z6 z7 z8 z9 z10 z11 z12
    go_loopw [73] (fun i wx => i = .int .i64 0 ∧ Aside0 (WordsAt wx (w.heap.size + 1 + 1) (w.heap.size + 1) [⟨#[111, 107]⟩, ⟨#[104, 97, 115]⟩]) ∧ Aside0 (wx.heap[w.heap.size]? = some (.cells #[.int .i64 0, .int .i64 0, .string ⟨#[]⟩, .bool true, .bool false, .slice none 0 0, .slice none 0 0, .slice none 0 0, .slice none 0 0, .string ⟨#[]⟩, .slice none 0 0, .slice none 0 0, .slice none 0 0] 46 (0, 0))) ∧ Aside0 (Below (w.heap.size + 1) (w.alloc (.cells #[.int .i64 0, .int .i64 0, .string ⟨#[]⟩, .bool true, .bool false, .slice none 0 0, .slice none 0 0, .slice none 0 0, .slice none 0 0, .string ⟨#[]⟩, .slice none 0 0, .slice none 0 0, .slice none 0 0] 46)) wx)) (fun _ _ => 0)
    case atStart => exact ⟨rfl, HW1, HKX1, HB1⟩
    case round =>
      clear HW1 HKX1 HB1
      obtain ⟨rfl, HW1, HKX1, HB1⟩ := hrel
      have z0 := (blk_cell HKX1.out 0).trans rfl; have z1 := (blk_cell HKX1.out 1).trans rfl; have z2 := (blk_cell HKX1.out 2).trans rfl; have z3 := (blk_cell HKX1.out 3).trans rfl; have z4 := (blk_cell HKX1.out 4).trans rfl; have z5 := (blk_cell HKX1.out 5).trans rfl; have z6 := (blk_cell HKX1.out 6).trans rfl; have z7 := (blk_cell HKX1.out 7).trans rfl; have z8 := (blk_cell HKX1.out 8).trans rfl; have z9 := (blk_cell HKX1.out 9).trans rfl; have z10 := (blk_cell HKX1.out 10).trans rfl; have z11 := (blk_cell HKX1.out 11).trans rfl; have z12 := (blk_cell HKX1.out 12).trans rfl
      go_upto_region 26 with fail
      clear z0 z1 z2 z3 z4 z5 z6 z7 z8 z9 z10 z11 z12
      go_loopw [89] (fun i wx => i = .int .i64 0 ∧ Aside0 (WordsAt wx (w.heap.size + 1 + 1) (w.heap.size + 1) [⟨#[111, 107]⟩, ⟨#[104, 97, 115]⟩]) ∧ Aside0 (wx.heap[w.heap.size]? = some (.cells #[.int .i64 0, .int .i64 0, .string ⟨#[]⟩, .bool true, .bool false, .slice none 0 0, .slice none 0 0, .slice none 0 0, .slice none 0 0, .string ⟨#[]⟩, .slice none 0 0, .slice none 0 0, .slice none 0 0] 46 (0, 0))) ∧ Aside0 (Below (w.heap.size + 1) (w.alloc (.cells #[.int .i64 0, .int .i64 0, .string ⟨#[]⟩, .bool true, .bool false, .slice none 0 0, .slice none 0 0, .slice none 0 0, .slice none 0 0, .string ⟨#[]⟩, .slice none 0 0, .slice none 0 0, .slice none 0 0] 46)) wx)) (fun _ _ => 0)
      case atStart => exact ⟨rfl, HW1, HKX1, HB1⟩
      case round =>
        clear HW1 HKX1 HB1
        obtain ⟨rfl, HW1, HKX1, HB1⟩ := hrel
        have z0 := (blk_cell HKX1.out 0).trans rfl; have z1 := (blk_cell HKX1.out 1).trans rfl; have z2 := (blk_cell HKX1.out 2).trans rfl; have z3 := (blk_cell HKX1.out 3).trans rfl; have z4 := (blk_cell HKX1.out 4).trans rfl; have z5 := (blk_cell HKX1.out 5).trans rfl; have z6 := (blk_cell HKX1.out 6).trans rfl; have z7 := (blk_cell HKX1.out 7).trans rfl; have z8 := (blk_cell HKX1.out 8).trans rfl; have z9 := (blk_cell HKX1.out 9).trans rfl; have z10 := (blk_cell HKX1.out 10).trans rfl; have z11 := (blk_cell HKX1.out 11).trans rfl; have z12 := (blk_cell HKX1.out 12).trans rfl
        go_upto_region 31 with fail
        clear z0 z1 z2 z3 z4 z5 z6 z7 z8 z9 z10 z11 z12
        go_loopw [100] (fun i wx => i = .int .i64 0 ∧ Aside0 (WordsAt wx (w.heap.size + 1 + 1) (w.heap.size + 1) [⟨#[111, 107]⟩, ⟨#[104, 97, 115]⟩]) ∧ Aside0 (wx.heap[w.heap.size]? = some (.cells #[.int .i64 0, .int .i64 0, .string ⟨#[]⟩, .bool true, .bool false, .slice none 0 0, .slice none 0 0, .slice none 0 0, .slice none 0 0, .string ⟨#[]⟩, .slice none 0 0, .slice none 0 0, .slice none 0 0] 46 (0, 0))) ∧ Aside0 (Below (w.heap.size + 1) (w.alloc (.cells #[.int .i64 0, .int .i64 0, .string ⟨#[]⟩, .bool true, .bool false, .slice none 0 0, .slice none 0 0, .slice none 0 0, .slice none 0 0, .string ⟨#[]⟩, .slice none 0 0, .slice none 0 0, .slice none 0 0] 46)) wx)) (fun _ _ => 0)
        case atStart => exact ⟨rfl, HW1, HKX1, HB1⟩
        case round =>
          clear HW1 HKX1 HB1
          obtain ⟨rfl, HW1, HKX1, HB1⟩ := hrel
          have z0 := (blk_cell HKX1.out 0).trans rfl; have z1 := (blk_cell HKX1.out 1).trans rfl; have z2 := (blk_cell HKX1.out 2).trans rfl; have z3 := (blk_cell HKX1.out 3).trans rfl; have z4 := (blk_cell HKX1.out 4).trans rfl; have z5 := (blk_cell HKX1.out 5).trans rfl; have z6 := (blk_cell HKX1.out 6).trans rfl; have z7 := (blk_cell HKX1.out 7).trans rfl; have z8 := (blk_cell HKX1.out 8).trans rfl; have z9 := (blk_cell HKX1.out 9).trans rfl; have z10 := (blk_cell HKX1.out 10).trans rfl; have z11 := (blk_cell HKX1.out 11).trans rfl; have z12 := (blk_cell HKX1.out 12).trans rfl
          go_upto_region 44 with fail
          clear z0 z1 z2 z3 z4 z5 z6 z7 z8 z9 z10 z11 z12
          go_loopw [140] (fun i wx => i = .int .i64 0 ∧ Aside0 (WordsAt wx (w.heap.size + 1 + 1) (w.heap.size + 1) [⟨#[111, 107]⟩, ⟨#[104, 97, 115]⟩]) ∧ Aside0 (wx.heap[w.heap.size]? = some (.cells #[.int .i64 0, .int .i64 0, .string ⟨#[]⟩, .bool true, .bool false, .slice none 0 0, .slice none 0 0, .slice none 0 0, .slice none 0 0, .string ⟨#[]⟩, .slice none 0 0, .slice none 0 0, .slice none 0 0] 46 (0, 0))) ∧ Aside0 (Below (w.heap.size + 1) (w.alloc (.cells #[.int .i64 0, .int .i64 0, .string ⟨#[]⟩, .bool true, .bool false, .slice none 0 0, .slice none 0 0, .slice none 0 0, .slice none 0 0, .string ⟨#[]⟩, .slice none 0 0, .slice none 0 0, .slice none 0 0] 46)) wx)) (fun _ _ => 0)
          case atStart => exact ⟨rfl, HW1, HKX1, HB1⟩
          case round =>
            clear HW1 HKX1 HB1
            obtain ⟨rfl, HW1, HKX1, HB1⟩ := hrel
            obtain ⟨v, hv, hown⟩ := HW1.out
            have HO := Aside0.mk hown; clear hown
            obtain ⟨A, m, c, rfl⟩ := own_slice HO.out
            have c0 := (blk_cell hv 0).trans rfl
            clear hv
            have hjs : (joined [⟨#[111, 107]⟩, ⟨#[104, 97, 115]⟩]).size ≤ 100000 := joined_size _ (by simp) (by intro x hx; simp at hx; rcases hx with rfl | rfl <;> decide)
            have hj := joinOwn_any HO.out (by simp) (by simp) hjs
            obtain ⟨J, hJ⟩ : ∃ J, joined [⟨#[111, 107]⟩, ⟨#[104, 97, 115]⟩] = J := ⟨_, rfl⟩
            rw [hJ] at hj hjs
            have HJ := Aside0.mk hJ; clear hJ
            go_wp2_with fail
            refine hj.mono ?_
            rintro e w2 ⟨rfl, hb⟩
            have HB2 := Aside0.mk (HB1.out.trans ⟨hb.os, hb.tape, hb.output, hb.size, fun k hk => hb.block k (by have := HB1.out.size; rw [size_alloc1] at this; omega)⟩)
            clear hb hj
            have q4 : (9223372036854775807 < J.size + (⟨#[10]⟩ : ByteArray).size) = False := eq_false (by have : (⟨#[10]⟩ : ByteArray).size = 1 := rfl; omega)
            go_wp2
            go_ret
            exact ⟨by rw [HJ.out]; rfl, (below_alloc (Below.refl w.heap.size w) (.cells #[.int .i64 0, .int .i64 0, .string ⟨#[]⟩, .bool true, .bool false, .slice none 0 0, .slice none 0 0, .slice none 0 0, .slice none 0 0, .string ⟨#[]⟩, .slice none 0 0, .slice none 0 0, .slice none 0 0] 46)).trans ⟨HB2.out.os, HB2.out.tape, HB2.out.output, HB2.out.size, fun k hk => HB2.out.block k (by omega)⟩⟩
end Go.Proofs.YtbdoafigggcdpaaGreatDoor.PScr
