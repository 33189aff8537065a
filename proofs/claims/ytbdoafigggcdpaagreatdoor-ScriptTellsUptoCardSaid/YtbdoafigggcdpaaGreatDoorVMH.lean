/- The walk of awake, the chapter's example: it is true. No condition of ours. -/
import Derived.Test.YtbdoafigggcdpaaGreatDoorVMF
import Derived.Test.YtbdoafigggcdpaaGreatDoorVMG
namespace Go.Proofs.YtbdoafigggcdpaaGreatDoor.PScr
open Go.RowKit Go.Proofs.YtbdoafigggcdpaaGreatDoorW.PrintWords Go.Proofs.YtbdoafigggcdpaaGreatDoorW.PrintLast Go.Proofs.YtbdoafigggcdpaaGreatDoorW.PrintMore
set_option linter.unusedVariables false
set_option linter.unusedSimpArgs false

def aw1 : S29 := ⟨⟨#[99, 104, 101, 99, 107]⟩, [0, 5], [⟨⟨#[100, 111, 99]⟩, ⟨#[97]⟩, ⟨#[118, 105, 101, 119, 101, 114]⟩, ⟨⟨#[117, 115, 101, 114]⟩, ⟨#[120]⟩, ⟨#[]⟩⟩⟩], ⟨#[]⟩, ⟨#[]⟩⟩
def aw2 : S29 := ⟨⟨#[114, 117, 108, 101, 115]⟩, [], [], ⟨#[]⟩, ⟨#[107, 105, 110, 100, 32, 100, 111, 99, 59, 118, 105, 101, 119, 101, 114, 32, 61, 32, 116, 104, 105, 115, 59]⟩⟩
set_option maxRecDepth 100000 in
theorem aw1_good : goodL aw1 = true := by kernel_rfl
set_option maxRecDepth 100000 in
theorem aw2_good : goodL aw2 = true := by kernel_rfl
set_option maxRecDepth 100000 in
theorem aw_text : textAll [aw1, aw2] = ⟨#[99, 104, 101, 99, 107, 32, 48, 32, 53, 32, 100, 111, 99, 58, 97, 35, 118, 105, 101, 119, 101, 114, 64, 117, 115, 101, 114, 58, 120, 10, 114, 117, 108, 101, 115, 32, 107, 105, 110, 100, 32, 100, 111, 99, 59, 118, 105, 101, 119, 101, 114, 32, 61, 32, 116, 104, 105, 115, 59, 10]⟩ := by kernel_rfl
set_option maxRecDepth 100000 in
theorem aw_out : (⟨(Lib.replaceAll (⟨#[107, 105, 110, 100, 32, 100, 111, 99, 59, 118, 105, 101, 119, 101, 114, 32, 61, 32, 116, 104, 105, 115, 59]⟩ : ByteArray).data.toList [59] [10]).toArray⟩ : ByteArray) = ⟨#[107, 105, 110, 100, 32, 100, 111, 99, 10, 118, 105, 101, 119, 101, 114, 32, 61, 32, 116, 104, 105, 115, 10]⟩ := by kernel_rfl
set_option maxRecDepth 100000 in
theorem aw_tell : joined [⟨#[111, 107]⟩, ⟨#[104, 97, 115]⟩] ++ ⟨#[10]⟩ = ⟨#[111, 107, 32, 104, 97, 115, 10]⟩ := by kernel_rfl
theorem aw_all : ∀ x ∈ [aw1, aw2], goodL x = true := by
  intro x hx
  simp only [List.mem_cons, List.not_mem_nil, or_false] at hx
  rcases hx with rfl | rfl
  · exact aw1_good
  · exact aw2_good
theorem aw_read : readAll ⟨#[99, 104, 101, 99, 107, 32, 48, 32, 53, 32, 100, 111, 99, 58, 97, 35, 118, 105, 101, 119, 101, 114, 64, 117, 115, 101, 114, 58, 120, 10, 114, 117, 108, 101, 115, 32, 107, 105, 110, 100, 32, 100, 111, 99, 59, 118, 105, 101, 119, 101, 114, 32, 61, 32, 116, 104, 105, 115, 59, 10]⟩ = ([aw1, aw2], 0, true) := by
  rw [← aw_text]
  exact read_text _ aw_all

set_option maxRecDepth 100000 in
set_option maxHeartbeats 4000000 in
theorem awake_any (w0 : World) (F : Facts w0) (w : World) (hB0 : Below w0.heap.size w0 w) (hE : EntsIn w) :
    Calls Tryz.prog 8 #[] w fun e w' => e = .returned (.bool true) ∧ Below w.heap.size w w' := by
  have hu29 := Tryz.underlying29
  have hu68 := Tryz.underlying68
  have hu65 := Tryz.underlying65
  have hu46 := Tryz.underlying46
  have hu44 := Tryz.underlying44
  have HB0 := Aside0.mk hB0; clear hB0
  have HE := Aside0.mk hE; clear hE
  go_enter Tryz.func8, Tryz.ntmps8
  go_wp2_with fail
  refine (read_any w0 F ⟨#[99, 104, 101, 99, 107, 32, 48, 32, 53, 32, 100, 111, 99, 58, 97, 35, 118, 105, 101, 119, 101, 114, 64, 117, 115, 101, 114, 58, 120, 10, 114, 117, 108, 101, 115, 32, 107, 105, 110, 100, 32, 100, 111, 99, 59, 118, 105, 101, 119, 101, 114, 32, 61, 32, 116, 104, 105, 115, 59, 10]⟩ (by decide) w HB0.out HE.out _ aw_read).mono ?_
  rintro e w1 ⟨⟨v, rfl, hrow⟩, hb⟩
  have HB1 := Aside0.mk hb; clear hb
  obtain ⟨g, cap, hv0, _, _, _⟩ := Kd.R_form hrow (by decide)
  obtain ⟨A, c, hv, hc, hC⟩ := Kd.R_reads hrow
  rw [hv0] at hv
  injection hv with hA _ hcap
  subst hA hcap
  have hv2 : v = .slice (some ⟨g, 0, none⟩) 2 cap := hv0
  subst hv2
  have HC1 := Aside0.mk hC; clear hC hv0 hrow
  have hshow := show_any w0 F (some ⟨g, 0, none⟩) cap [aw1, aw2] (by decide) (by intro x hx; simp only [List.mem_cons, List.not_mem_nil, or_false] at hx; rcases hx with rfl | rfl <;> exact ⟨by decide, by decide, by decide, by decide⟩) w1 (below_weaken HB0.out HB0.out.size HB1.out) (HE.out.below HB1.out) HC1.out
  have hall : [aw1, aw2].all goodL = true := by rw [List.all_eq_true]; exact aw_all
  have e1 : showT [aw1, aw2] = ⟨#[99, 104, 101, 99, 107, 32, 48, 32, 53, 32, 100, 111, 99, 58, 97, 35, 118, 105, 101, 119, 101, 114, 64, 117, 115, 101, 114, 58, 120, 10, 114, 117, 108, 101, 115, 32, 107, 105, 110, 100, 32, 100, 111, 99, 59, 118, 105, 101, 119, 101, 114, 32, 61, 32, 116, 104, 105, 115, 59, 10]⟩ := by unfold showT; rw [hall, if_pos rfl, aw_text]
  have e2 : showC [aw1, aw2] = 0 := by unfold showC; rw [hall]; rfl
  rw [e1, e2] at hshow
  clear e1 e2 hall
  have hshow2 : Calls Tryz.prog 12 #[.slice (some ⟨g, 0, none⟩) 2 cap] w1 fun e w' => e = .returned (.tuple #[.string ⟨#[99, 104, 101, 99, 107, 32, 48, 32, 53, 32, 100, 111, 99, 58, 97, 35, 118, 105, 101, 119, 101, 114, 64, 117, 115, 101, 114, 58, 120, 10, 114, 117, 108, 101, 115, 32, 107, 105, 110, 100, 32, 100, 111, 99, 59, 118, 105, 101, 119, 101, 114, 32, 61, 32, 116, 104, 105, 115, 59, 10]⟩, .int .i64 0]) ∧ Below w1.heap.size w1 w' := hshow
  clear hshow
  go_wp2_with fail
  refine hshow2.mono ?_
  clear hshow2
  rintro e w2 ⟨rfl, hb⟩
  have HB2 := Aside0.mk (below_step HB1.out hb)
  have HC2 := Aside0.mk (Kd.C_below HC1.out hb)
  clear hb
  obtain ⟨ad, A1, c1, A2, c2, had0, g0, g1, g2, g3, g4, l1, r1, l2, r2⟩ := at_T29 HC2.out 0 (by decide) (by decide)
  obtain ⟨ad', A3, c3, A4, c4, had, k0, k1, k2, k3, k4, m1, s1, m2, s2⟩ := at_T29 HC2.out 1 (by decide) (by decide)
  obtain rfl := Option.some.inj had0
  obtain rfl := Option.some.inj had
  clear had had0
  change w2.cell? ⟨g, 0, none⟩ = some (.string aw1.f0) at g0
  change w2.cell? ⟨g, 1, none⟩ = some (.slice A1 2 c1) at g1
  change w2.cell? ⟨g, 2, none⟩ = some (.slice A2 1 c2) at g2
  change w2.cell? ⟨g, 3, none⟩ = some (.string ⟨#[]⟩) at g3
  change w2.cell? ⟨g, 4, none⟩ = some (.string ⟨#[]⟩) at g4
  change w2.cell? ⟨g, 5, none⟩ = some (.string ⟨#[114, 117, 108, 101, 115]⟩) at k0
  change w2.cell? ⟨g, 6, none⟩ = some (.slice A3 0 c3) at k1
  change w2.cell? ⟨g, 7, none⟩ = some (.slice A4 0 c4) at k2
  change w2.cell? ⟨g, 8, none⟩ = some (.string ⟨#[]⟩) at k3
  change w2.cell? ⟨g, 9, none⟩ = some (.string ⟨#[107, 105, 110, 100, 32, 100, 111, 99, 59, 118, 105, 101, 119, 101, 114, 32, 61, 32, 116, 104, 105, 115, 59]⟩) at k4
  have R1 := Aside0.mk (show (Kd.int .i64).C w2 A1 2 aw1.f1 from r1)
  have R2 := Aside0.mk (show Kd.C k51 w2 A2 1 aw1.f2 from r2)
  have R3 := Aside0.mk (show (Kd.int .i64).C w2 A3 0 [] from s1)
  have R4 := Aside0.mk (show Kd.C k51 w2 A4 0 [] from s2)
  clear r1 r2 s1 s2 l1 l2 m1 m2
  have hchk : Calls Tryz.prog 10 #[.agg #[.string aw1.f0, .slice A1 2 c1, .slice A2 1 c2, .string ⟨#[]⟩, .string ⟨#[]⟩]] w2 fun e' w' => e' = .returned (.bool true) ∧ Below w2.heap.size w2 w' := by
    have h := checkL_any aw1.f0 A1 c1 aw1.f1 A2 c2 aw1.f2 ⟨#[]⟩ ⟨#[]⟩ (by decide) (by decide) (by decide) (by decide) w2 (HE.out.below HB2.out) R1.out R2.out _ _ rfl rfl (find_facts aw1.f0).1
    rw [show checkE (findE aw1.f0) (findB aw1.f0) aw1.f1 aw1.f2 ⟨#[]⟩ ⟨#[]⟩ = true from aw1_good] at h
    exact h
  obtain ⟨wd, hwd⟩ : ∃ x, aw1.f0 = x := ⟨_, rfl⟩
  rw [hwd] at hchk g0
  clear hwd
  go_wp2_with (first | (go_at_call 10; refine hchk.mono ?_; clear hchk; rintro e w3 ⟨rfl, hb⟩; replace k0 := below_cell0 hb k0; replace k1 := below_cell0 hb k1; replace k2 := below_cell0 hb k2; replace k3 := below_cell0 hb k3; replace k4 := below_cell0 hb k4; have R3' := Aside0.mk (Kd.C_below R3.out hb); have R4' := Aside0.mk (Kd.C_below R4.out hb); have HB3 := Aside0.mk (below_step HB2.out hb); clear hb) | fail)
  have hB3 : Below w0.heap.size w0 w3 := below_weaken HB0.out HB0.out.size HB3.out
  refine (deed_rules w0 F ⟨#[114, 117, 108, 101, 115]⟩ ⟨#[107, 105, 110, 100, 32, 100, 111, 99, 59, 118, 105, 101, 119, 101, 114, 32, 61, 32, 116, 104, 105, 115, 59]⟩ ⟨#[107, 105, 110, 100, 32, 100, 111, 99, 10, 118, 105, 101, 119, 101, 114, 32, 61, 32, 116, 104, 105, 115, 10]⟩ (by rw [ByteArray.toList_eq]) aw2_good aw_out A3 c3 A4 c4 (by decide) w3 hB3 (HE.out.below HB3.out) R3'.out R4'.out).mono ?_
  clear hB3 k0 k1 k2 k3 k4
  rintro e w4 ⟨rfl, hb⟩
  have HB4 := Aside0.mk (below_step HB3.out hb)
  clear hb
  go_wp2_with (first
    | ((with_reducible refine gate_dst (N := 7) rfl ?_); refine box_event ?hg (N := 7) ?hd (cs := #[.string ⟨#[]⟩, .string ⟨#[]⟩, .string ⟨#[]⟩, .string ⟨#[]⟩, .slice none 0 0, .slice none 0 0, .string ⟨#[]⟩, .string ⟨#[]⟩, .string ⟨#[]⟩, .string ⟨#[]⟩, .string ⟨#[]⟩, .string ⟨#[]⟩, .int .i64 0, .int .i64 0, .string ⟨#[]⟩, .string ⟨#[]⟩, .string ⟨#[]⟩, .string ⟨#[]⟩, .string ⟨#[]⟩, .string ⟨#[]⟩, .int .i64 0, .int .i64 0, .int .i64 0, .slice none 0 0, .string ⟨#[]⟩]) (t := 68) ?hr ?_; (case hd => rfl); (case hg => rfl); (case hr => first | (go_simp; done) | (go_simp; rfl)); intro db hdb w5 hdbox hb5; have HDBE := Aside0.mk hdb; clear hdb; have HDB := Aside0.mk hdbox; clear hdbox; have HB5 := Aside0.mk (below_step HB4.out hb5); have hdb4 : w4.heap.size ≤ db := Nat.le_of_eq HDBE.out.symm; clear hb5)
    | ((with_reducible refine gate_store (t := 68) (p := 7) rfl ?_); refine wpList_store_row rfl 68 (.tmp 7) (.tmp 49) rfl db #[.string ⟨#[99, 97, 108, 108]⟩, .string ⟨#[114, 117, 108, 101, 115]⟩, .string ⟨#[]⟩, .string ⟨#[107, 105, 110, 100, 32, 100, 111, 99, 10, 118, 105, 101, 119, 101, 114, 32, 61, 32, 116, 104, 105, 115, 10]⟩, .slice none 0 0, .slice none 0 0, .string ⟨#[]⟩, .string ⟨#[]⟩, .string ⟨#[]⟩, .string ⟨#[]⟩, .string ⟨#[]⟩, .string ⟨#[]⟩, .int .i64 0, .int .i64 0, .string ⟨#[]⟩, .string ⟨#[]⟩, .string ⟨#[]⟩, .string ⟨#[]⟩, .string ⟨#[]⟩, .string ⟨#[]⟩, .int .i64 0, .int .i64 0, .int .i64 0, .slice none 0 0, .string ⟨#[]⟩] rfl rfl 68 _ HDB.out (by kernel_rfl) rfl (by simp [Value.oneCell']) ?_; have HD6 := Aside0.mk (setRow_heap w5 db _ #[.string ⟨#[99, 97, 108, 108]⟩, .string ⟨#[114, 117, 108, 101, 115]⟩, .string ⟨#[]⟩, .string ⟨#[107, 105, 110, 100, 32, 100, 111, 99, 10, 118, 105, 101, 119, 101, 114, 32, 61, 32, 116, 104, 105, 115, 10]⟩, .slice none 0 0, .slice none 0 0, .string ⟨#[]⟩, .string ⟨#[]⟩, .string ⟨#[]⟩, .string ⟨#[]⟩, .string ⟨#[]⟩, .string ⟨#[]⟩, .int .i64 0, .int .i64 0, .string ⟨#[]⟩, .string ⟨#[]⟩, .string ⟨#[]⟩, .string ⟨#[]⟩, .string ⟨#[]⟩, .string ⟨#[]⟩, .int .i64 0, .int .i64 0, .int .i64 0, .slice none 0 0, .string ⟨#[]⟩] 68 (0, 0) HDB.out); have HB6 := Aside0.mk (below_setRow (g := db) HB5.out (by have := HB4.out.size; omega) #[.string ⟨#[99, 97, 108, 108]⟩, .string ⟨#[114, 117, 108, 101, 115]⟩, .string ⟨#[]⟩, .string ⟨#[107, 105, 110, 100, 32, 100, 111, 99, 10, 118, 105, 101, 119, 101, 114, 32, 61, 32, 116, 104, 105, 115, 10]⟩, .slice none 0 0, .slice none 0 0, .string ⟨#[]⟩, .string ⟨#[]⟩, .string ⟨#[]⟩, .string ⟨#[]⟩, .string ⟨#[]⟩, .string ⟨#[]⟩, .int .i64 0, .int .i64 0, .string ⟨#[]⟩, .string ⟨#[]⟩, .string ⟨#[]⟩, .string ⟨#[]⟩, .string ⟨#[]⟩, .string ⟨#[]⟩, .int .i64 0, .int .i64 0, .int .i64 0, .slice none 0 0, .string ⟨#[]⟩]); clear HDB HB5; generalize w5.setRow db #[.string ⟨#[99, 97, 108, 108]⟩, .string ⟨#[114, 117, 108, 101, 115]⟩, .string ⟨#[]⟩, .string ⟨#[107, 105, 110, 100, 32, 100, 111, 99, 10, 118, 105, 101, 119, 101, 114, 32, 61, 32, 116, 104, 105, 115, 10]⟩, .slice none 0 0, .slice none 0 0, .string ⟨#[]⟩, .string ⟨#[]⟩, .string ⟨#[]⟩, .string ⟨#[]⟩, .string ⟨#[]⟩, .string ⟨#[]⟩, .int .i64 0, .int .i64 0, .string ⟨#[]⟩, .string ⟨#[]⟩, .string ⟨#[]⟩, .string ⟨#[]⟩, .string ⟨#[]⟩, .string ⟨#[]⟩, .int .i64 0, .int .i64 0, .int .i64 0, .slice none 0 0, .string ⟨#[]⟩] = w6 at HD6 HB6 ⊢; have d0 := (blk_cell HD6.out 0).trans rfl; have d1 := (blk_cell HD6.out 1).trans rfl; have d3 := (blk_cell HD6.out 3).trans rfl)
    | (go_at_call 18; refine (tellHas_any _).mono ?_; rintro e w7 ⟨rfl, hb⟩; rw [aw_tell]; have HB7 := Aside0.mk (below_step HB6.out hb); clear hb d0 d1 d3))
  go_ret
  exact ⟨rfl, HB7.out⟩
end Go.Proofs.YtbdoafigggcdpaaGreatDoor.PScr
