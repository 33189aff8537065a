/- The walk of script.Show. No condition of ours. -/
import Derived.Test.YtbdoafigggcdpaaGreatDoorVMC
import Derived.Test.YtbdoafigggcdpaaGreatDoorVMD
namespace Go.Proofs.YtbdoafigggcdpaaGreatDoor.PScr
open Go.RowKit Go.Proofs.YtbdoafigggcdpaaGreatDoorW.PrintWords Go.Proofs.YtbdoafigggcdpaaGreatDoorW.PrintLast Go.Proofs.YtbdoafigggcdpaaGreatDoorW.PrintMore
set_option linter.unusedVariables false
set_option linter.unusedSimpArgs false

theorem textLn_size {x : S29} (h : goodL x = true) : (textLn x).size ≤ 100001 := by
  obtain ⟨s1, s2, s3, s4, s5, s6, s7⟩ := good_small h
  have hw := words_size x.f0 x.f1 x.f2 x.f3 s7 s2 s4
  have hj : (lineJ x).size ≤ 100000 := by
    unfold lineJ
    refine joined_size _ ?_ ?_
    · have e1 : (wordsN x.f0 x.f1).length = x.f1.length + 1 := by simp [wordsN]
      have e2 : (wordsT x.f3 x.f2 x.f2.length).length = x.f2.length := by simp [wordsT]
      rw [List.length_append, List.length_append, e1, e2]
      split <;> simp <;> omega
    · intro y hy
      rcases List.mem_append.1 hy with hy | hy
      · exact hw y hy
      · split at hy
        · simp at hy
        · rw [List.mem_singleton] at hy
          subst hy
          omega
  rw [textLn_J, ByteArray.size_append]
  have : nlb.size = 1 := rfl
  omega
theorem textAll_append (l m : List S29) : textAll (l ++ m) = textAll l ++ textAll m := by
  induction l with
  | nil => exact (ba_ext (by show _ = ((⟨#[]⟩ : ByteArray) ++ textAll m).data.toList; rw [ByteArray.data_append]; simp)).symm.symm
  | cons x l ih => rw [List.cons_append, textAll_cons, textAll_cons, ih, ba_assoc]
theorem textAll_one (x : S29) : textAll [x] = textLn x := ba_ext (by show (textLn x ++ (⟨#[]⟩ : ByteArray)).data.toList = _; rw [ByteArray.data_append]; simp)
theorem textAll_size : ∀ (l : List S29), (∀ x ∈ l, goodL x = true) → (textAll l).size ≤ l.length * 100001
  | [], _ => by show 0 ≤ _; omega
  | x :: l, h => by
    have h1 := textLn_size (h x (List.mem_cons_self ..))
    have h2 := textAll_size l (fun y hy => h y (List.mem_cons_of_mem _ hy))
    rw [textAll_cons, ByteArray.size_append, List.length_cons, Nat.succ_mul]
    omega
theorem builder_below {T e : TypeId} {B b : Nat} {bs : List Value} {w w' : World} (h : Lib.IsBuilder T e B b bs w) (hb : Below w.heap.size w w') : Lib.IsBuilder T e B b bs w' := by
  rcases h with ⟨h1, v, h2, h3, h4⟩ | ⟨h1, v, h2, h3, h4⟩
  · exact .inl ⟨h1, v, blk_below h2 hb, pw_own_below h3 hb, h4⟩
  · exact .inr ⟨h1, v, blk_below h2 hb, pw_own_below h3 hb, h4⟩
theorem builder_new (w : World) : Lib.IsBuilder 89 5 w.heap.size w.heap.size [] (w.alloc (.cells #[.pointer none, .slice none 0 0] 89)) :=
  .inl ⟨Nat.le_refl _, .slice none 0 0, box_blk _ _ _, World.ownsRow_nil _ _ _ _, by simp [Value.ownBlock]⟩
/-- a line whose parts are not too long -/
def S29.short (x : S29) : Prop := x.f1.length ≤ 1000000 ∧ x.f2.length ≤ 1000000 ∧ x.f3.size ≤ 1000000 ∧ x.f4.size ≤ 1000000
def showT (l : List S29) : ByteArray := if l.all goodL then textAll l else ⟨#[]⟩
def showC (l : List S29) : Int := if l.all goodL then 0 else 201
theorem rd_T29_at (l : List S29) (k : Nat) (h : k < l.length) : rd_T29 l (k : Int) = l[k] := by unfold rd_T29; simp [h]

set_option maxRecDepth 100000 in
set_option maxHeartbeats 4000000 in
theorem show_any (w0 : World) (F : Facts w0) (A : Option Addr) (c : Nat) (l : List S29) (hl : l.length ≤ 1000000) (hsh : ∀ x ∈ l, x.short) (w : World) (hB0 : Below w0.heap.size w0 w) (hE : EntsIn w) (hr : Kd.C k29 w A l.length l) :
    Calls Tryz.prog 12 #[.slice A l.length c] w fun e w' => e = .returned (.tuple #[.string (showT l), .int .i64 (showC l)]) ∧ Below w.heap.size w w' := by
  have hu29 := Tryz.underlying29
  have hu89 := Tryz.underlying89
  have HB0 := Aside0.mk hB0; clear hB0
  have HE := Aside0.mk hE; clear hE
  have HR := Aside0.mk hr; clear hr
  have HSH := Aside0.mk hsh; clear hsh
  go_enter Tryz.func12, Tryz.ntmps12
  go_upto_region 3 with fail
  go_loopw [9] (fun i wx => ∃ k : Nat, k ≤ l.length ∧ i = .int .i64 k ∧ Aside0 (∀ x ∈ l.take k, goodL x = true) ∧ Lib.IsBuilder 89 5 w.heap.size w.heap.size (Lib.byteCells (textAll (l.take k)).data.toList) wx ∧ Below w.heap.size w wx) (fun i _ => l.length - (intOf i).toNat)
  case atStart => exact ⟨0, by omega, rfl, ⟨by simp⟩, builder_new w, below_alloc (Below.refl _ _) _⟩
  case round =>
    obtain ⟨k, hk, rfl, HG, hbu, hbw⟩ := hrel
    have HBU := Aside0.mk hbu; clear hbu
    have HBW := Aside0.mk hbw; clear hbw
    by_cases hlt : k < l.length
    · obtain ⟨ad, A1, c1, A2, c2, rfl, g0, g1, g2, g3, g4, l1, r1, l2, r2⟩ := at_T29 HR.out (k : Int) (by omega) (by omega)
      replace g0 := below_cell0 HBW.out g0
      replace g1 := below_cell0 HBW.out g1
      replace g2 := below_cell0 HBW.out g2
      replace g3 := below_cell0 HBW.out g3
      replace g4 := below_cell0 HBW.out g4
      have HR1 := Aside0.mk (Kd.C_below r1 HBW.out); clear r1
      have HR2 := Aside0.mk (Kd.C_below r2 HBW.out); clear r2
      have e5 : ((k : Int)).toNat = k := by simp
      rw [e5] at g0 g1 g2 g3 g4
      clear e5
      have hmem : rd_T29 l (k : Int) ∈ l := by rw [rd_T29_at l k hlt]; exact List.getElem_mem hlt
      have htk : l.take (k + 1) = l.take k ++ [rd_T29 l (k : Int)] := by rw [rd_T29_at l k hlt]; exact (List.take_append_getElem hlt).symm
      have hshx := HSH.out _ hmem
      obtain ⟨x, hx⟩ : ∃ x, rd_T29 l (k : Int) = x := ⟨_, rfl⟩
      rw [hx] at g0 g1 g2 g3 g4 HR1 HR2 hmem htk hshx l1 l2
      clear hx
      have HTK := Aside0.mk htk; clear htk
      have HMEM := Aside0.mk hmem; clear hmem
      obtain ⟨h1, h2, h3, h4⟩ := hshx
      have q1 : (k : Int) < (l.length : Int) := by omega
      obtain ⟨gd, hgd⟩ : ∃ b, goodL x = b := ⟨_, rfl⟩
      have HGD := Aside0.mk hgd; clear hgd
      have hchk := checkL_any x.f0 A1 c1 x.f1 A2 c2 x.f2 x.f3 x.f4 (by omega) (by omega) (by omega) (by omega) (wr.alloc (.cells #[.string x.f0, .slice A1 x.f1.length c1, .slice A2 x.f2.length c2, .string x.f3, .string x.f4] 29)) (HE.out.below (below_alloc HBW.out _)) (Kd.C_below HR1.out (below_alloc (Below.refl _ _) _)) (Kd.C_below HR2.out (below_alloc (Below.refl _ _) _)) _ _ rfl rfl (find_facts x.f0).1
      rw [show checkE (findE x.f0) (findB x.f0) x.f1 x.f2 x.f3 x.f4 = gd from HGD.out] at hchk
      have HK2 := Aside0.mk (box_blk wr #[.string x.f0, .slice A1 x.f1.length c1, .slice A2 x.f2.length c2, .string x.f3, .string x.f4] 29)
      go_wp2_with fail
      refine hchk.mono ?_
      clear hchk
      rintro e w3 ⟨rfl, hb⟩
      have HB3 := Aside0.mk (below_step (below_alloc HBW.out _) hb)
      have HBU3 := Aside0.mk (builder_below (builder_below HBU.out (below_alloc (Below.refl _ _) _)) hb)
      have HR3 := Aside0.mk (Kd.C_below (Kd.C_below HR1.out (below_alloc (Below.refl _ _) _)) hb)
      have HR4 := Aside0.mk (Kd.C_below (Kd.C_below HR2.out (below_alloc (Below.refl _ _) _)) hb)
      have HK3 := Aside0.mk (blk_below HK2.out hb)
      clear hb
      have z0 := (blk_cell HK3.out 0).trans rfl; have z1 := (blk_cell HK3.out 1).trans rfl; have z2 := (blk_cell HK3.out 2).trans rfl; have z3 := (blk_cell HK3.out 3).trans rfl; have z4 := (blk_cell HK3.out 4).trans rfl
      clear g0 g1 g2 g3 g4
      cases gd with
      | false =>
        go_wp2
        go_ret2
        have hall : l.all goodL = false := by
          rw [List.all_eq_false]
          exact ⟨x, HMEM.out, by rw [HGD.out]; decide⟩
        refine ⟨?_, HB3.out⟩
        unfold showT showC
        rw [hall]
        rfl
      | true =>
        obtain ⟨s1, s2, s3, s4, s5, s6, s7⟩ := good_small HGD.out
        have hBw : Below w0.heap.size w0 w3 := below_weaken HB0.out HB0.out.size HB3.out
        have htx := textL_any w0 F x.f0 A1 c1 x.f1 A2 c2 x.f2 x.f3 x.f4 s1 s2 s3 s4 s5 s6 s7 w3 hBw HR3.out HR4.out
        rw [show lineText x.f0 x.f1 x.f2 x.f3 x.f4 = textLn x from rfl] at htx
        clear hBw s2 s4 s5
        have hsz1 := textLn_size HGD.out
        have hsz2 := textAll_size _ HG.out
        have hlk : (l.take k).length ≤ 1000000 := by rw [List.length_take]; omega
        have hsz3 : (textAll (l.take k)).size ≤ 1000000 * 100001 := Nat.le_trans hsz2 (Nat.mul_le_mul_right _ hlk)
        clear hsz2
        go_wp2_with fail
        refine htx.mono ?_
        clear htx
        rintro e w4 ⟨rfl, hb⟩
        have HB4 := Aside0.mk (below_step HB3.out hb)
        have HBU4 := Aside0.mk (builder_below HBU3.out hb)
        clear hb
        go_wp2_with fail
        refine (writeString_any w.heap.size w.heap.size _ (textLn x) w4 HBU4.out (by rw [Lib.byteCells_length, size_len]; omega) HB4.out.size).mono ?_
        rintro e w5 ⟨rfl, hbu5, hb5⟩
        have HB5 := Aside0.mk (HB4.out.trans hb5)
        have HBU5 := Aside0.mk hbu5
        clear hbu5 hb5
        go_wp2
        refine ⟨⟨k + 1, by omega, by go_num, ⟨?_⟩, ?_, HB5.out⟩, by simp [intOf]; omega⟩
        · rw [HTK.out]
          intro y hy
          rcases List.mem_append.1 hy with hy | hy
          · exact HG.out y hy
          · rw [List.mem_singleton.1 hy]; exact HGD.out
        · rw [HTK.out, textAll_append, textAll_one, ByteArray.data_append, Array.toList_append, Lib.byteCells_append]
          exact .inr HBU5.out
    · obtain rfl : k = l.length := by omega
      have hall : l.all goodL = true := by
        rw [List.all_eq_true]
        have := HG.out
        rwa [List.take_length] at this
      have hbu := HBU.out
      rw [List.take_length] at hbu
      have HALL := Aside0.mk hall; clear hall
      have HBU2 := Aside0.mk hbu; clear hbu
      go_wp2_with fail
      refine (Tryz.Builder_String_any w.heap.size w.heap.size _ wr HBU2.out HBW.out.size).mono ?_
      rintro e w5 ⟨rfl, hb⟩
      have HB5 := Aside0.mk (HBW.out.trans hb); clear hb
      go_wp2
      go_ret2
      refine ⟨?_, HB5.out⟩
      unfold showT showC
      rw [HALL.out, if_pos rfl, if_pos rfl, mk_eq]
      rfl
end Go.Proofs.YtbdoafigggcdpaaGreatDoor.PScr
