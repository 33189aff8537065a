/- The walk of script.Deed at a line of rules. No condition of ours. -/
import Derived.Test.YtbdoafigggcdpaaGreatDoorVME
import Derived.Laws.Tables
import Derived.Lib.SplitLaws
namespace Go.Proofs.YtbdoafigggcdpaaGreatDoor.PScr
open Go.RowKit Go.Proofs.YtbdoafigggcdpaaGreatDoorW.PrintWords Go.Proofs.YtbdoafigggcdpaaGreatDoorW.PrintLast Go.Proofs.YtbdoafigggcdpaaGreatDoorW.PrintMore
set_option linter.unusedVariables false
set_option linter.unusedSimpArgs false

set_option maxRecDepth 100000 in
set_option maxHeartbeats 4000000 in
theorem deed_rules (w0 : World) (F : Facts w0) (word text out : ByteArray) (hru : word.toList = ([114, 117, 108, 101, 115] : List UInt8)) (hg : checkE (findE word) (findB word) [] [] ⟨#[]⟩ text = true) (hout : (⟨(Lib.replaceAll text.data.toList [59] [10]).toArray⟩ : ByteArray) = out) (A1 : Option Addr) (c1 : Nat) (A2 : Option Addr) (c2 : Nat) (htx : text.size ≤ 100) (w : World) (hB0 : Below w0.heap.size w0 w) (hE : EntsIn w) (hr1 : (Kd.int .i64).C w A1 0 []) (hr2 : Kd.C k51 w A2 0 []) :
    Calls Tryz.prog 20 #[.agg #[.string word, .slice A1 0 c1, .slice A2 0 c2, .string ⟨#[]⟩, .string text]] w fun e w' => e = .returned (.agg #[.string ⟨#[99, 97, 108, 108]⟩, .string word, .string ⟨#[]⟩, .string out, .slice none 0 0, .slice none 0 0, .string ⟨#[]⟩, .string ⟨#[]⟩, .string ⟨#[]⟩, .string ⟨#[]⟩, .string ⟨#[]⟩, .string ⟨#[]⟩, .int .i64 0, .int .i64 0, .string ⟨#[]⟩, .string ⟨#[]⟩, .string ⟨#[]⟩, .string ⟨#[]⟩, .string ⟨#[]⟩, .string ⟨#[]⟩, .int .i64 0, .int .i64 0, .int .i64 0, .slice none 0 0, .string ⟨#[]⟩]) ∧ Below w.heap.size w w' := by
  have hu29 := Tryz.underlying29
  have hu68 := Tryz.underlying68
  have hu65 := Tryz.underlying65
  have e0 : (word.toList == ([111, 112, 101, 110] : List UInt8)) = false := by rw [hru]; decide
  have e1 : (word.toList == ([102, 117, 115, 101] : List UInt8)) = false := by rw [hru]; decide
  have e2 : (word.toList == ([99, 114, 97, 115, 104] : List UInt8)) = false := by rw [hru]; decide
  have e3 : (word.toList == ([115, 112, 111, 105, 108] : List UInt8)) = false := by rw [hru]; decide
  have e4 : (word.toList == ([99, 104, 101, 99, 107] : List UInt8)) = false := by rw [hru]; decide
  have e5 : (word.toList == ([101, 120, 112, 97, 110, 100] : List UInt8)) = false := by rw [hru]; decide
  have e6 : (word.toList == ([115, 117, 98, 106, 101, 99, 116, 115] : List UInt8)) = false := by rw [hru]; decide
  have e7 : (word.toList == ([111, 98, 106, 101, 99, 116, 115] : List UInt8)) = false := by rw [hru]; decide
  have e8 : (word.toList == ([114, 101, 97, 100] : List UInt8)) = false := by rw [hru]; decide
  have e9 : (word.toList == ([108, 111, 103] : List UInt8)) = false := by rw [hru]; decide
  have e10 : (word.toList == ([117, 112, 100, 97, 116, 101] : List UInt8)) = false := by rw [hru]; decide
  have er : (word.toList == ([114, 117, 108, 101, 115] : List UInt8)) = true := by rw [hru]; decide
  have HL := Aside0.mk (box_blk w #[.string word, .slice A1 0 c1, .slice A2 0 c2, .string ⟨#[]⟩, .string text] 29)
  have HB0 := Aside0.mk hB0; clear hB0
  have HE := Aside0.mk hE; clear hE
  have HR1 := Aside0.mk hr1; clear hr1
  have HR2 := Aside0.mk hr2; clear hr2
  have HOUT := Aside0.mk hout; clear hout
  have HG := Aside0.mk hg; clear hg
  clear hru
  go_enter Tryz.func20, Tryz.ntmps20
  have HK1 := Aside0.mk (blk_alloc HL.out (.cells #[.string ⟨#[]⟩, .string ⟨#[]⟩, .string ⟨#[]⟩, .string ⟨#[]⟩, .slice none 0 0, .slice none 0 0, .string ⟨#[]⟩, .string ⟨#[]⟩, .string ⟨#[]⟩, .string ⟨#[]⟩, .string ⟨#[]⟩, .string ⟨#[]⟩, .int .i64 0, .int .i64 0, .string ⟨#[]⟩, .string ⟨#[]⟩, .string ⟨#[]⟩, .string ⟨#[]⟩, .string ⟨#[]⟩, .string ⟨#[]⟩, .int .i64 0, .int .i64 0, .int .i64 0, .slice none 0 0, .string ⟨#[]⟩] 68))
  have HD1 := Aside0.mk (blk_two w (.cells #[.string word, .slice A1 0 c1, .slice A2 0 c2, .string ⟨#[]⟩, .string text] 29) #[.string ⟨#[]⟩, .string ⟨#[]⟩, .string ⟨#[]⟩, .string ⟨#[]⟩, .slice none 0 0, .slice none 0 0, .string ⟨#[]⟩, .string ⟨#[]⟩, .string ⟨#[]⟩, .string ⟨#[]⟩, .string ⟨#[]⟩, .string ⟨#[]⟩, .int .i64 0, .int .i64 0, .string ⟨#[]⟩, .string ⟨#[]⟩, .string ⟨#[]⟩, .string ⟨#[]⟩, .string ⟨#[]⟩, .string ⟨#[]⟩, .int .i64 0, .int .i64 0, .int .i64 0, .slice none 0 0, .string ⟨#[]⟩] 68)
  have HB1 := Aside0.mk (below_alloc (below_alloc (Below.refl w.heap.size w) (.cells #[.string word, .slice A1 0 c1, .slice A2 0 c2, .string ⟨#[]⟩, .string text] 29)) (.cells #[.string ⟨#[]⟩, .string ⟨#[]⟩, .string ⟨#[]⟩, .string ⟨#[]⟩, .slice none 0 0, .slice none 0 0, .string ⟨#[]⟩, .string ⟨#[]⟩, .string ⟨#[]⟩, .string ⟨#[]⟩, .string ⟨#[]⟩, .string ⟨#[]⟩, .int .i64 0, .int .i64 0, .string ⟨#[]⟩, .string ⟨#[]⟩, .string ⟨#[]⟩, .string ⟨#[]⟩, .string ⟨#[]⟩, .string ⟨#[]⟩, .int .i64 0, .int .i64 0, .int .i64 0, .slice none 0 0, .string ⟨#[]⟩] 68))
  obtain ⟨wa, hwa⟩ : ∃ wa, (w.alloc (.cells #[.string word, .slice A1 0 c1, .slice A2 0 c2, .string ⟨#[]⟩, .string text] 29)).alloc (.cells #[.string ⟨#[]⟩, .string ⟨#[]⟩, .string ⟨#[]⟩, .string ⟨#[]⟩, .slice none 0 0, .slice none 0 0, .string ⟨#[]⟩, .string ⟨#[]⟩, .string ⟨#[]⟩, .string ⟨#[]⟩, .string ⟨#[]⟩, .string ⟨#[]⟩, .int .i64 0, .int .i64 0, .string ⟨#[]⟩, .string ⟨#[]⟩, .string ⟨#[]⟩, .string ⟨#[]⟩, .string ⟨#[]⟩, .string ⟨#[]⟩, .int .i64 0, .int .i64 0, .int .i64 0, .slice none 0 0, .string ⟨#[]⟩] 68) = wa := ⟨_, rfl⟩
  rw [hwa] at HK1 HD1 HB1
  clear HL
  have HWA := Aside0.mk hwa; clear hwa
  have hchk : Calls Tryz.prog 10 #[.agg #[.string word, .slice A1 0 c1, .slice A2 0 c2, .string ⟨#[]⟩, .string text]] wa fun e' w' => e' = .returned (.bool true) ∧ Below wa.heap.size wa w' := by
    have h := checkL_any word A1 c1 [] A2 c2 [] ⟨#[]⟩ text (by simp) (by simp) (by show 0 ≤ _; omega) (by omega) wa (HE.out.below HB1.out) (Kd.C_below HR1.out HB1.out) (Kd.C_below HR2.out HB1.out) _ _ rfl rfl (find_facts word).1
    rw [HG.out] at h
    exact h
  go_wp2_with fail
  rw [HWA.out]
  clear HWA
  refine hchk.mono ?_
  clear hchk
  rintro e w3 ⟨rfl, hb⟩
  have HK3 := Aside0.mk (blk_below HK1.out hb)
  have HD3 := Aside0.mk (blk_below HD1.out hb)
  have HB3 := Aside0.mk (below_step HB1.out hb)
  clear hb
  have hlk := blk_lt HK3.out
  have hld := blk_lt HD3.out
  obtain ⟨lb, hlb⟩ : ∃ lb, w.heap.size = lb := ⟨_, rfl⟩
  obtain ⟨db, hdb⟩ : ∃ db, w.heap.size + 1 = db := ⟨_, rfl⟩
  rw [hdb] at HD3 hld ⊢
  rw [hlb] at HK3 hlk ⊢
  have hne : lb ≠ db := by omega
  have z0 := (blk_cell HK3.out 0).trans rfl; have z1 := (blk_cell HK3.out 1).trans rfl; have z2 := (blk_cell HK3.out 2).trans rfl; have z3 := (blk_cell HK3.out 3).trans rfl; have z4 := (blk_cell HK3.out 4).trans rfl
  go_upto_region 16 with (first
    | ((with_reducible refine gate_dst (N := 3) rfl ?_); refine box_event ?hg (N := 3) ?hd (cs := #[.string ⟨#[]⟩, .string ⟨#[]⟩, .string ⟨#[]⟩, .slice none 0 0, .slice none 0 0, .string ⟨#[]⟩, .string ⟨#[]⟩, .string ⟨#[]⟩, .string ⟨#[]⟩, .string ⟨#[]⟩, .string ⟨#[]⟩, .int .i64 0, .int .i64 0, .string ⟨#[]⟩, .string ⟨#[]⟩, .string ⟨#[]⟩, .string ⟨#[]⟩, .string ⟨#[]⟩, .string ⟨#[]⟩, .int .i64 0]) (t := 65) ?hr ?_; (case hd => rfl); (case hg => rfl); (case hr => first | (go_simp; done) | (go_simp; rfl)); intro cb hcb w4 hcbox hb4; have HCBE := Aside0.mk hcb; clear hcb; have HCB := Aside0.mk hcbox; clear hcbox; have HB4 := Aside0.mk (below_step HB3.out hb4); have HK4 := Aside0.mk (blk_below HK3.out hb4); have HD4 := Aside0.mk (blk_below HD3.out hb4); have hcb4 : w3.heap.size ≤ cb := Nat.le_of_eq HCBE.out.symm; clear hb4)
    | ((with_reducible refine gate_store (t := 65) (p := 3) rfl ?_); refine wpList_store_row rfl 65 (.tmp 3) (.tmp 49) rfl cb #[.string word, .string ⟨#[]⟩, .string ⟨#[]⟩, .slice none 0 0, .slice none 0 0, .string ⟨#[]⟩, .string ⟨#[]⟩, .string ⟨#[]⟩, .string ⟨#[]⟩, .string ⟨#[]⟩, .string ⟨#[]⟩, .int .i64 0, .int .i64 0, .string ⟨#[]⟩, .string ⟨#[]⟩, .string ⟨#[]⟩, .string ⟨#[]⟩, .string ⟨#[]⟩, .string ⟨#[]⟩, .int .i64 0] rfl rfl 65 _ HCB.out (by kernel_rfl) rfl (by simp [Value.oneCell']) ?_; have HC5 := Aside0.mk (setRow_heap w4 cb _ #[.string word, .string ⟨#[]⟩, .string ⟨#[]⟩, .slice none 0 0, .slice none 0 0, .string ⟨#[]⟩, .string ⟨#[]⟩, .string ⟨#[]⟩, .string ⟨#[]⟩, .string ⟨#[]⟩, .string ⟨#[]⟩, .int .i64 0, .int .i64 0, .string ⟨#[]⟩, .string ⟨#[]⟩, .string ⟨#[]⟩, .string ⟨#[]⟩, .string ⟨#[]⟩, .string ⟨#[]⟩, .int .i64 0] 65 (0, 0) HCB.out); have HB5 := Aside0.mk (below_setRow (g := cb) HB4.out (by have := HB3.out.size; omega) #[.string word, .string ⟨#[]⟩, .string ⟨#[]⟩, .slice none 0 0, .slice none 0 0, .string ⟨#[]⟩, .string ⟨#[]⟩, .string ⟨#[]⟩, .string ⟨#[]⟩, .string ⟨#[]⟩, .string ⟨#[]⟩, .int .i64 0, .int .i64 0, .string ⟨#[]⟩, .string ⟨#[]⟩, .string ⟨#[]⟩, .string ⟨#[]⟩, .string ⟨#[]⟩, .string ⟨#[]⟩, .int .i64 0]); have HK5 := Aside0.mk ((setRow_other w4 cb lb #[.string word, .string ⟨#[]⟩, .string ⟨#[]⟩, .slice none 0 0, .slice none 0 0, .string ⟨#[]⟩, .string ⟨#[]⟩, .string ⟨#[]⟩, .string ⟨#[]⟩, .string ⟨#[]⟩, .string ⟨#[]⟩, .int .i64 0, .int .i64 0, .string ⟨#[]⟩, .string ⟨#[]⟩, .string ⟨#[]⟩, .string ⟨#[]⟩, .string ⟨#[]⟩, .string ⟨#[]⟩, .int .i64 0] (by omega)).trans HK4.out); have HD5 := Aside0.mk ((setRow_other w4 cb db #[.string word, .string ⟨#[]⟩, .string ⟨#[]⟩, .slice none 0 0, .slice none 0 0, .string ⟨#[]⟩, .string ⟨#[]⟩, .string ⟨#[]⟩, .string ⟨#[]⟩, .string ⟨#[]⟩, .string ⟨#[]⟩, .int .i64 0, .int .i64 0, .string ⟨#[]⟩, .string ⟨#[]⟩, .string ⟨#[]⟩, .string ⟨#[]⟩, .string ⟨#[]⟩, .string ⟨#[]⟩, .int .i64 0] (by omega)).trans HD4.out); clear HCB HB4 HK4 HD4; generalize w4.setRow cb #[.string word, .string ⟨#[]⟩, .string ⟨#[]⟩, .slice none 0 0, .slice none 0 0, .string ⟨#[]⟩, .string ⟨#[]⟩, .string ⟨#[]⟩, .string ⟨#[]⟩, .string ⟨#[]⟩, .string ⟨#[]⟩, .int .i64 0, .int .i64 0, .string ⟨#[]⟩, .string ⟨#[]⟩, .string ⟨#[]⟩, .string ⟨#[]⟩, .string ⟨#[]⟩, .string ⟨#[]⟩, .int .i64 0] = w5 at HC5 HB5 HK5 HD5 ⊢; clear z0 z1 z2 z3 z4; have z0 := (blk_cell HK5.out 0).trans rfl; have z1 := (blk_cell HK5.out 1).trans rfl; have z2 := (blk_cell HK5.out 2).trans rfl; have z3 := (blk_cell HK5.out 3).trans rfl; have z4 := (blk_cell HK5.out 4).trans rfl))
  have hm5 := Aside0.mk (most_below (below_weaken HB0.out HB0.out.size HB5.out) F.most)
  have hrp : ∀ w6, (∃ m : Int, w6.cell? ⟨2, 0, none⟩ = some (.int .i64 m)) → Calls Tryz.prog 52 #[.string text, .string ⟨#[59]⟩, .string ⟨#[10]⟩] w6 fun e w' => e = .returned (.string out) ∧ Below w6.heap.size w6 w' := by
    intro w6 ⟨m, hm⟩
    have hc := Lib.countB_le (⟨#[59]⟩ : ByteArray) (by decide) text.size text (Nat.le_refl _)
    have e1 : (⟨#[10]⟩ : ByteArray).size = 1 := rfl
    have := Tryz.strings_ReplaceAll text ⟨#[59]⟩ ⟨#[10]⟩ m w6 (by omega) hm (by decide) (by rw [e1]; omega)
    rw [show (⟨(Lib.replaceAll text.data.toList (⟨#[59]⟩ : ByteArray).data.toList (⟨#[10]⟩ : ByteArray).data.toList).toArray⟩ : ByteArray) = out from HOUT.out] at this
    exact this
  have HRP := Aside0.mk hrp; clear hrp
  go_loopw [63] (fun i wx => i = .int .i64 0 ∧ wx = w5) (fun _ _ => 0)
  case atStart => exact ⟨rfl, rfl⟩
  case round =>
    obtain ⟨rfl, rfl⟩ := hrel
    go_wp2_with fail
    refine (HRP.out _ hm5.out).mono ?_
    rintro e w6 ⟨rfl, hb⟩
    have HC6 := Aside0.mk (blk_below HC5.out hb)
    have HD6 := Aside0.mk (blk_below HD5.out hb)
    have HB6 := Aside0.mk (below_step HB5.out hb)
    clear hb
    clear z0 z1 z2 z3 z4
    have f2 := blk_frozen HC6.out 2
    have cc2 := (blk_cell HC6.out 2).trans rfl
    have HC7 := Aside0.mk (show (w6.setCell ⟨cb, 2, none⟩ (.string out)).heap[cb]? = some (.cells #[.string word, .string ⟨#[]⟩, .string out, .slice none 0 0, .slice none 0 0, .string ⟨#[]⟩, .string ⟨#[]⟩, .string ⟨#[]⟩, .string ⟨#[]⟩, .string ⟨#[]⟩, .string ⟨#[]⟩, .int .i64 0, .int .i64 0, .string ⟨#[]⟩, .string ⟨#[]⟩, .string ⟨#[]⟩, .string ⟨#[]⟩, .string ⟨#[]⟩, .string ⟨#[]⟩, .int .i64 0] 65 (0, 0)) from blk_set HC6.out 2 (.string out))
    have HD7 := Aside0.mk ((Below.heap_setCell w6 ⟨cb, 2, none⟩ (.string out) db (by show db ≠ cb; omega)).trans HD6.out)
    have HB7 := Aside0.mk (HB6.out.setCell (p := ⟨cb, 2, none⟩) (by have := HB3.out.size; show w.heap.size ≤ cb; omega) (.string out))
    go_wp2_with (first
      | ((with_reducible refine gate_dst (N := 144) rfl ?_); refine wpList_load_row rfl 65 (.tmp 3) rfl cb rfl 65 #[.string word, .string ⟨#[]⟩, .string out, .slice none 0 0, .slice none 0 0, .string ⟨#[]⟩, .string ⟨#[]⟩, .string ⟨#[]⟩, .string ⟨#[]⟩, .string ⟨#[]⟩, .string ⟨#[]⟩, .int .i64 0, .int .i64 0, .string ⟨#[]⟩, .string ⟨#[]⟩, .string ⟨#[]⟩, .string ⟨#[]⟩, .string ⟨#[]⟩, .string ⟨#[]⟩, .int .i64 0] (0, 0) _ HC7.out Tryz.underlying65 rfl (by kernel_rfl) ?_)
      | ((with_reducible refine gate_store (t := 68) (p := 2) rfl ?_); refine wpList_store_row rfl 68 (.tmp 2) (.tmp 145) rfl db #[.string ⟨#[99, 97, 108, 108]⟩, .string word, .string ⟨#[]⟩, .string out, .slice none 0 0, .slice none 0 0, .string ⟨#[]⟩, .string ⟨#[]⟩, .string ⟨#[]⟩, .string ⟨#[]⟩, .string ⟨#[]⟩, .string ⟨#[]⟩, .int .i64 0, .int .i64 0, .string ⟨#[]⟩, .string ⟨#[]⟩, .string ⟨#[]⟩, .string ⟨#[]⟩, .string ⟨#[]⟩, .string ⟨#[]⟩, .int .i64 0, .int .i64 0, .int .i64 0, .slice none 0 0, .string ⟨#[]⟩] rfl (by simp only [Act.eval]; simp) 68 _ HD7.out (by kernel_rfl) rfl (by simp [Value.oneCell']) ?_; have HD8 := Aside0.mk (setRow_heap (w6.setCell ⟨cb, 2, none⟩ (.string out)) db _ #[.string ⟨#[99, 97, 108, 108]⟩, .string word, .string ⟨#[]⟩, .string out, .slice none 0 0, .slice none 0 0, .string ⟨#[]⟩, .string ⟨#[]⟩, .string ⟨#[]⟩, .string ⟨#[]⟩, .string ⟨#[]⟩, .string ⟨#[]⟩, .int .i64 0, .int .i64 0, .string ⟨#[]⟩, .string ⟨#[]⟩, .string ⟨#[]⟩, .string ⟨#[]⟩, .string ⟨#[]⟩, .string ⟨#[]⟩, .int .i64 0, .int .i64 0, .int .i64 0, .slice none 0 0, .string ⟨#[]⟩] 68 (0, 0) HD7.out); have HB8 := Aside0.mk (below_setRow (g := db) HB7.out (by omega) #[.string ⟨#[99, 97, 108, 108]⟩, .string word, .string ⟨#[]⟩, .string out, .slice none 0 0, .slice none 0 0, .string ⟨#[]⟩, .string ⟨#[]⟩, .string ⟨#[]⟩, .string ⟨#[]⟩, .string ⟨#[]⟩, .string ⟨#[]⟩, .int .i64 0, .int .i64 0, .string ⟨#[]⟩, .string ⟨#[]⟩, .string ⟨#[]⟩, .string ⟨#[]⟩, .string ⟨#[]⟩, .string ⟨#[]⟩, .int .i64 0, .int .i64 0, .int .i64 0, .slice none 0 0, .string ⟨#[]⟩]); generalize (w6.setCell ⟨cb, 2, none⟩ (.string out)).setRow db #[.string ⟨#[99, 97, 108, 108]⟩, .string word, .string ⟨#[]⟩, .string out, .slice none 0 0, .slice none 0 0, .string ⟨#[]⟩, .string ⟨#[]⟩, .string ⟨#[]⟩, .string ⟨#[]⟩, .string ⟨#[]⟩, .string ⟨#[]⟩, .int .i64 0, .int .i64 0, .string ⟨#[]⟩, .string ⟨#[]⟩, .string ⟨#[]⟩, .string ⟨#[]⟩, .string ⟨#[]⟩, .string ⟨#[]⟩, .int .i64 0, .int .i64 0, .int .i64 0, .slice none 0 0, .string ⟨#[]⟩] = w8 at HD8 HB8 ⊢))
    refine bodyPost_ret (results_cell_row rfl _ _ db 68 #[.string ⟨#[99, 97, 108, 108]⟩, .string word, .string ⟨#[]⟩, .string out, .slice none 0 0, .slice none 0 0, .string ⟨#[]⟩, .string ⟨#[]⟩, .string ⟨#[]⟩, .string ⟨#[]⟩, .string ⟨#[]⟩, .string ⟨#[]⟩, .int .i64 0, .int .i64 0, .string ⟨#[]⟩, .string ⟨#[]⟩, .string ⟨#[]⟩, .string ⟨#[]⟩, .string ⟨#[]⟩, .string ⟨#[]⟩, .int .i64 0, .int .i64 0, .int .i64 0, .slice none 0 0, .string ⟨#[]⟩] (0, 0) _ rfl HD8.out Tryz.underlying68 rfl (by kernel_rfl)) rfl ?_
    exact ⟨rfl, HB8.out⟩
end Go.Proofs.YtbdoafigggcdpaaGreatDoor.PScr
