/- The walks of the document's answer: a line's text, lines' text. No condition of ours. -/
import Derived.Test.YtbdoafigggcdpaaGreatDoorQPD
import Derived.Test.YtbdoafigggcdpaaGreatDoorQRE
namespace Go.Proofs.YtbdoafigggcdpaaGreatDoor.PScr
open Go.RowKit Go.Proofs.YtbdoafigggcdpaaGreatDoorW.PrintWords Go.Proofs.YtbdoafigggcdpaaGreatDoorW.PrintLast Go.Proofs.YtbdoafigggcdpaaGreatDoorW.PrintMore
set_option linter.unusedVariables false
set_option linter.unusedSimpArgs false

/-! ### digits -/
def restDig (v : Nat) : List UInt8 := if v = 0 then [] else Lib.decDigits v
theorem restDig_step (v : Nat) (h : 0 < v) : restDig v = restDig (v / 10) ++ [UInt8.ofNat (48 + v % 10)] := by
  unfold restDig
  rw [if_neg (by omega), Lib.decDigits]
  split
  · rename_i h1
    have e : v / 10 = 0 := by omega
    have e2 : v % 10 = v := by omega
    rw [e, if_pos rfl, e2]
    rfl
  · rename_i h1
    rw [if_neg (by omega)]
theorem dig_at (v : Nat) (hv : v < 1099511627776) : strOfNums [(wrap64 (48 + (Int.tmod (v : Int) 10))) % 256] = ⟨#[UInt8.ofNat (48 + v % 10)]⟩ := by
  have e : (wrap64 (48 + (Int.tmod (v : Int) 10))) % 256 = ((48 + v % 10 : Nat) : Int) := by
    rw [Int.tmod_eq_emod_of_nonneg (by omega)]
    unfold wrap64
    omega
  rw [e]
  rfl
theorem dig_div (v : Nat) (hv : v < 1099511627776) : wrap64 (Int.tdiv (v : Int) 10) = ((v / 10 : Nat) : Int) := by
  rw [Int.tdiv_eq_ediv_of_nonneg (by omega)]
  unfold wrap64
  omega
theorem refDig_l0 (v : Nat) : ∀ acc : ByteArray, acc.toList ≠ [] → acc.size + v < 1099511627776 → ∃ k, lunetteref16_Digits.l0 k (v : Int) acc = some (⟨(restDig v).toArray⟩ ++ acc) := by
  induction v using Nat.strongRecOn with
  | _ v ih =>
    intro acc ha hs
    by_cases h0 : v = 0
    · refine ⟨1, ?_⟩
      unfold lunetteref16_Digits.l0
      rw [if_neg ha, if_neg (by omega), h0]
      have e : (⟨(restDig 0).toArray⟩ : ByteArray) ++ acc = acc := ba_ext (by rw [ByteArray.data_append]; simp [restDig])
      rw [e]
    · have hsz : ((⟨#[UInt8.ofNat (48 + v % 10)]⟩ : ByteArray) ++ acc).size = 1 + acc.size := by rw [ByteArray.size_append]; rfl
      obtain ⟨k, hk⟩ := ih (v / 10) (by omega) (⟨#[UInt8.ofNat (48 + v % 10)]⟩ ++ acc) (by
        intro h
        have h2 := tl_nil h
        rw [h2] at hsz
        have e0 : (⟨#[]⟩ : ByteArray).size = 0 := rfl
        omega) (by omega)
      refine ⟨k + 1, ?_⟩
      unfold lunetteref16_Digits.l0
      rw [if_neg ha, if_pos (by omega)]
      simp only [Option.bind_some]
      have e1 : (⟨#[UInt8.ofNat (48 + v % 10)]⟩ : ByteArray).size = 1 := rfl
      rw [dig_at v (by omega), e1, if_pos (by omega), dig_div v (by omega), hk]
      congr 1
      refine ba_ext ?_
      rw [ByteArray.data_append, ByteArray.data_append, ByteArray.data_append, Array.toList_append, Array.toList_append, Array.toList_append, restDig_step v (by omega)]
      simp
theorem refDig_f (n : Int) (h0 : 0 ≤ n) (h1 : n ≤ 1000000) : ∃ k, lunetteref16_Digits.f k n = some (itoaB n) := by
  obtain ⟨v, rfl⟩ := Int.eq_ofNat_of_zero_le h0
  obtain ⟨k, hk⟩ := refDig_l0 (v / 10) (⟨#[UInt8.ofNat (48 + v % 10)]⟩ ++ ⟨#[]⟩) (by rw [ByteArray.toList_eq, ByteArray.data_append]; simp) (by rw [ByteArray.size_append]; have e1 : (⟨#[UInt8.ofNat (48 + v % 10)]⟩ : ByteArray).size = 1 := rfl; have e0 : (⟨#[]⟩ : ByteArray).size = 0 := rfl; omega)
  refine ⟨k + 1, ?_⟩
  unfold lunetteref16_Digits.f lunetteref16_Digits.l0
  have e0 : (⟨#[]⟩ : ByteArray).toList = [] := by rw [ByteArray.toList_eq]
  have e1 : (⟨#[UInt8.ofNat (48 + v % 10)]⟩ : ByteArray).size = 1 := rfl
  have e2 : (⟨#[]⟩ : ByteArray).size = 0 := rfl
  rw [if_pos e0]
  simp only [Option.bind_some]
  rw [dig_at v (by omega), e1, e2, if_pos (by omega), dig_div v (by omega), hk]
  congr 1
  refine ba_ext ?_
  rw [itoaB_list _ (by omega), ByteArray.data_append, ByteArray.data_append, Array.toList_append, Array.toList_append]
  have e3 : (v : Int).toNat = v := by omega
  rw [e3]
  have e4 : restDig (v / 10) ++ [UInt8.ofNat (48 + v % 10)] = Lib.decDigits v := by
    by_cases hv : v = 0
    · subst hv
      rw [Lib.decDigits]
      rfl
    · rw [← restDig_step v (by omega)]
      unfold restDig
      rw [if_neg hv]
  rw [← e4]
  simp

/-! ### words, one behind the other -/
def glue (v : ByteArray) (us : List ByteArray) : ByteArray := us.foldl (fun s u => s ++ (⟨#[32]⟩ ++ u)) v
theorem glue_snoc (v : ByteArray) (us : List ByteArray) (u : ByteArray) : glue v (us ++ [u]) = glue v us ++ (⟨#[32]⟩ ++ u) := by unfold glue; rw [List.foldl_append]; rfl
theorem glue_append (v : ByteArray) (us vs : List ByteArray) : glue v (us ++ vs) = glue (glue v us) vs := by unfold glue; rw [List.foldl_append]
theorem glue_joined : ∀ (us : List ByteArray) (v : ByteArray), glue v us = joined (v :: us)
  | [], v => ba_ext (by rw [join_cons, if_pos rfl]; rfl)
  | u :: us, v => by
    have e : glue v (u :: us) = glue (v ++ (⟨#[32]⟩ ++ u)) us := rfl
    rw [e, glue_joined us]
    refine ba_ext ?_
    have e1 := join_cons v (u :: us)
    rw [if_neg (by simp)] at e1
    rw [join_cons, e1, join_cons u]
    split <;> simp [ByteArray.data_append]
theorem glue_size : ∀ (us : List ByteArray) (v : ByteArray), (∀ u ∈ us, u.size ≤ 1200) → (glue v us).size ≤ v.size + us.length * 1201
  | [], v, _ => by show v.size ≤ _; omega
  | u :: us, v, h => by
    have e : glue v (u :: us) = glue (v ++ (⟨#[32]⟩ ++ u)) us := rfl
    have := glue_size us (v ++ (⟨#[32]⟩ ++ u)) (fun y hy => h y (List.mem_cons_of_mem _ hy))
    have hu := h u (List.mem_cons_self ..)
    have e1 : (⟨#[32]⟩ : ByteArray).size = 1 := rfl
    rw [ByteArray.size_append, ByteArray.size_append, e1] at this
    rw [e, List.length_cons, Nat.succ_mul]
    omega
theorem lineJ_glue (x : S29) : lineJ x = glue (glue (glue x.f0 (x.f1.map itoaB)) (wordsT x.f3 x.f2 x.f2.length)) (if x.f4.toList = [] then [] else [x.f4]) := by
  rw [← glue_append, ← glue_append, glue_joined]
  unfold lineJ wordsN
  congr 1
  simp [List.append_assoc]
/-- what the words of a good line say of its parts -/
structure Parts (x : S29) : Prop where
  up : x.f0.toList = ([117, 112, 100, 97, 116, 101] : List UInt8) → x.f3.size = x.f2.length
  nup : x.f0.toList ≠ ([117, 112, 100, 97, 116, 101] : List UInt8) → x.f3.toList = []
  ru : x.f0.toList = ([114, 117, 108, 101, 115] : List UInt8) → x.f4.toList ≠ []
  nru : x.f0.toList ≠ ([114, 117, 108, 101, 115] : List UInt8) → x.f4.toList = []
theorem parts_of {x : S29} (h : goodL x = true) : Parts x := by
  have G := good_is h
  rcases word_cases x.f0 with ⟨h1, _⟩ | K
  · rw [G.is] at h1; cases h1
  · unfold goodL checkE at h
    simp only [Bool.and_eq_true] at h
    obtain ⟨_, _, h2, h3, _⟩ := h
    unfold signsOk signs0 at h2
    unfold textOkE at h3
    rw [K.signs] at h2
    rw [K.text] at h3
    refine ⟨fun hu => ?_, fun hu => ?_, fun hr => ?_, fun hr => ?_⟩
    · rw [decide_eq_true hu] at h2
      simp only [if_true, Bool.and_eq_true, decide_eq_true_eq] at h2
      exact h2.2
    · rw [decide_eq_false hu] at h2
      simp only [Bool.false_eq_true, if_false, Bool.false_and, Bool.or_false] at h2
      exact beq_iff_eq.1 h2
    · rw [decide_eq_true hr] at h3
      simp only [if_true, Bool.and_eq_true, decide_eq_true_eq] at h3
      intro h0
      rw [tl_nil h0] at h3
      exact absurd h3.1 (by decide)
    · rw [decide_eq_false hr] at h3
      simp only [Bool.false_eq_true, if_false] at h3
      exact beq_iff_eq.1 h3

set_option maxRecDepth 100000 in
set_option maxHeartbeats 4000000 in
theorem refLine_any (x : S29) (hg : goodL x = true) (A1 : Option Addr) (c1 : Nat) (A2 : Option Addr) (c2 : Nat) (w : World) (hr1 : (Kd.int .i64).C w A1 x.f1.length x.f1) (hr2 : Kd.C k51 w A2 x.f2.length x.f2) :
    Calls Tryz.prog 37 #[.agg #[.string x.f0, .slice A1 x.f1.length c1, .slice A2 x.f2.length c2, .string x.f3, .string x.f4]] w fun e w' => e = .returned (.string (textLn x)) ∧ Below w.heap.size w w' := by
  have hu29 := Tryz.underlying29
  have hu51 := Tryz.underlying51
  have G := good_is hg
  have P := parts_of hg
  obtain ⟨s1, s2, s3, s4, s5, s6, s7⟩ := good_small hg
  have hwd := words_size x.f0 x.f1 x.f2 x.f3 s7 s2 s4
  have hfin : textLn x = glue (glue (glue x.f0 (x.f1.map itoaB)) (wordsT x.f3 x.f2 x.f2.length)) (if x.f4.toList = [] then [] else [x.f4]) ++ ⟨#[10]⟩ := by rw [textLn_J, lineJ_glue]; rfl
  have HFIN := Aside0.mk hfin; clear hfin
  have hn1 : ∀ k, (glue x.f0 ((x.f1.take k).map itoaB)).size ≤ 30000 := by
    intro k
    have := glue_size ((x.f1.take k).map itoaB) x.f0 (fun u hu => by
      obtain ⟨n, hn, rfl⟩ := List.mem_map.1 hu
      have := G.nums n (List.mem_of_mem_take hn)
      have := itoaB_size n this.1 this.2
      omega)
    have hl : ((x.f1.take k).map itoaB).length ≤ 16 := by rw [List.length_map, List.length_take]; omega
    omega
  have hn2 : ∀ k, k ≤ x.f2.length → (glue (glue x.f0 (x.f1.map itoaB)) (wordsT x.f3 x.f2 k)).size ≤ 60000 := by
    intro k hk
    have h1 := hn1 x.f1.length
    rw [List.take_length] at h1
    have := glue_size (wordsT x.f3 x.f2 k) (glue x.f0 (x.f1.map itoaB)) (fun u hu => hwd u (List.mem_append_right _ (by
      unfold wordsT at hu ⊢
      obtain ⟨i, hi, rfl⟩ := List.mem_map.1 hu
      exact List.mem_map.2 ⟨i, List.mem_range.2 (by have := List.mem_range.1 hi; omega), rfl⟩)))
    have hl : (wordsT x.f3 x.f2 k).length = k := by simp [wordsT]
    omega
  have HN1 := Aside0.mk hn1; have HN2 := Aside0.mk hn2
  have HNUM := Aside0.mk s2; have HTUP := Aside0.mk s4
  have HR1 := Aside0.mk hr1; have HR2 := Aside0.mk hr2
  have HP := Aside0.mk P; have HG := Aside0.mk hg
  clear hn1 hn2 s2 s4 hr1 hr2 P hwd hg G s5
  have HBX := Aside0.mk (box_blk w #[.string x.f0, .slice A1 x.f1.length c1, .slice A2 x.f2.length c2, .string x.f3, .string x.f4] 29)
  have HB0 := Aside0.mk (below_alloc (Below.refl w.heap.size w) (.cells #[.string x.f0, .slice A1 x.f1.length c1, .slice A2 x.f2.length c2, .string x.f3, .string x.f4] 29))
  have q32 : (⟨#[32]⟩ : ByteArray).size = 1 := rfl
  have q10 : (⟨#[10]⟩ : ByteArray).size = 1 := rfl
  have Q32 := Aside0.mk q32; have Q10 := Aside0.mk q10
  clear q32 q10
  have z0 := (blk_cell HBX.out 0).trans rfl; have z1 := (blk_cell HBX.out 1).trans rfl; have z2 := (blk_cell HBX.out 2).trans rfl; have z3 := (blk_cell HBX.out 3).trans rfl; have z4 := (blk_cell HBX.out 4).trans rfl
  go_enter Tryz.func37, Tryz.ntmps37
  go_upto_region 3 with fail
  clear z0 z1 z2 z3 z4
  go_loopw [3, 4] (fun s i wx => ∃ k : Nat, k ≤ x.f1.length ∧ i = .int .i64 k ∧ s = .string (glue x.f0 ((x.f1.take k).map itoaB)) ∧ Aside0 (wx.heap[w.heap.size]? = some (.cells #[.string x.f0, .slice A1 x.f1.length c1, .slice A2 x.f2.length c2, .string x.f3, .string x.f4] 29 (0, 0))) ∧ Aside0 (Below w.heap.size w wx)) (fun _ i _ => x.f1.length - (intOf i).toNat)
  case atStart => exact ⟨0, by omega, rfl, rfl, HBX, HB0⟩
  case round =>
    clear HBX HB0
    obtain ⟨k, hk, rfl, rfl, HBX, HB0⟩ := hrel
    have z0 := (blk_cell HBX.out 0).trans rfl; have z1 := (blk_cell HBX.out 1).trans rfl; have z2 := (blk_cell HBX.out 2).trans rfl; have z3 := (blk_cell HBX.out 3).trans rfl; have z4 := (blk_cell HBX.out 4).trans rfl
    by_cases hlt : k < x.f1.length
    · obtain ⟨ad, rfl, g0⟩ := Kd.at_int HR1.out (k : Int) (by omega) (by omega)
      replace g0 := below_cell0 HB0.out g0
      have e5 : ((k : Int)).toNat = k := by simp
      rw [e5] at g0
      clear e5
      have hnn := HNUM.out k hlt
      obtain ⟨kd, hkd⟩ := refDig_f (rd x.f1 (k : Int)) hnn.1 hnn.2
      have hds := itoaB_size (rd x.f1 (k : Int)) hnn.1 hnn.2
      have hnext : glue x.f0 ((x.f1.take (k + 1)).map itoaB) = glue x.f0 ((x.f1.take k).map itoaB) ++ (⟨#[32]⟩ ++ itoaB (rd x.f1 (k : Int))) := by
        have e : rd x.f1 (k : Int) = x.f1[k] := by unfold rd; simp [hlt]
        have e3 : (x.f1.take (k + 1)).map itoaB = (x.f1.take k).map itoaB ++ [itoaB x.f1[k]] := by rw [← List.take_append_getElem hlt, List.map_append]; rfl
        rw [e, ← glue_snoc, e3]
      have hgs := HN1.out k
      have q1 : (k : Int) < (x.f1.length : Int) := by omega
      obtain ⟨n, hn⟩ : ∃ n, rd x.f1 (k : Int) = n := ⟨_, rfl⟩
      rw [hn] at g0 hkd hds hnext
      clear hn hnn
      obtain ⟨D, hD⟩ : ∃ D, itoaB n = D := ⟨_, rfl⟩
      rw [hD] at hkd hds hnext
      clear hD
      obtain ⟨S, hS⟩ : ∃ S, glue x.f0 ((x.f1.take k).map itoaB) = S := ⟨_, rfl⟩
      rw [hS] at hnext hgs
      rw [hS]
      clear hS
      have HNEXT := Aside0.mk hnext; clear hnext
      have HKD := Aside0.mk hkd; clear hkd
      have hsz2 : ((⟨#[32]⟩ : ByteArray) ++ D).size = 1 + D.size := by rw [ByteArray.size_append, Q32.out]
      have q4 : (9223372036854775807 < (⟨#[32]⟩ : ByteArray).size + D.size) = False := eq_false (by rw [Q32.out]; omega)
      have q5 : (9223372036854775807 < S.size + ((⟨#[32]⟩ : ByteArray) ++ D).size) = False := eq_false (by rw [hsz2]; omega)
      have q6 : (9223372036854775807 < S.size + (1 + D.size)) = False := eq_false (by omega)
      have q7 : (9223372036854775807 < 1 + D.size) = False := eq_false (by omega)
      clear hsz2
      go_wp2_with (first | (go_at_call 72; refine (lunetteref16_Digits.calls kd n D _ HKD.out).mono ?_; rintro e w3 ⟨rfl, hb⟩; have HBX3 := Aside0.mk (blk_below HBX.out hb); have HB3 := Aside0.mk (below_step HB0.out hb); clear hb z0 z1 z2 z3 z4))
      exact ⟨⟨k + 1, by omega, by go_num, by rw [HNEXT.out], HBX3, HB3⟩, by simp [intOf]; omega⟩
    · obtain rfl : k = x.f1.length := by omega
      obtain ⟨S1, hS1⟩ : ∃ S, glue x.f0 (x.f1.map itoaB) = S := ⟨_, rfl⟩
      rw [List.take_length, hS1]
      rw [hS1] at HFIN HN2
      clear hS1
      go_upto_region 7 with fail
      clear z0 z1 z2 z3 z4
      go_loopw [3, 5] (fun s i wx => ∃ k : Nat, k ≤ x.f2.length ∧ i = .int .i64 k ∧ s = .string (glue S1 (wordsT x.f3 x.f2 k)) ∧ Aside0 (wx.heap[w.heap.size]? = some (.cells #[.string x.f0, .slice A1 x.f1.length c1, .slice A2 x.f2.length c2, .string x.f3, .string x.f4] 29 (0, 0))) ∧ Aside0 (Below w.heap.size w wx)) (fun _ i _ => x.f2.length - (intOf i).toNat)
      case atStart => exact ⟨0, by omega, rfl, rfl, HBX, HB0⟩
      case round =>
        clear HBX HB0
        obtain ⟨k, hk, rfl, rfl, HBX, HB0⟩ := hrel
        have z0 := (blk_cell HBX.out 0).trans rfl; have z1 := (blk_cell HBX.out 1).trans rfl; have z2 := (blk_cell HBX.out 2).trans rfl; have z3 := (blk_cell HBX.out 3).trans rfl; have z4 := (blk_cell HBX.out 4).trans rfl
        by_cases hlt : k < x.f2.length
        · obtain ⟨ad, rfl, g0, g1, g2, g3, g4, g5⟩ := at_T51 HR2.out (k : Int) (by omega) (by omega)
          replace g0 := below_cell0 HB0.out g0
          replace g1 := below_cell0 HB0.out g1
          replace g2 := below_cell0 HB0.out g2
          replace g3 := below_cell0 HB0.out g3
          replace g4 := below_cell0 HB0.out g4
          replace g5 := below_cell0 HB0.out g5
          have hbad := HTUP.out k hlt
          have hsize := tupleText_size hbad
          have hok : tupleOk (rd_T51 x.f2 (k : Int)).f0 (rd_T51 x.f2 (k : Int)).f1 (rd_T51 x.f2 (k : Int)).f2 (rd_T51 x.f2 (k : Int)).f3.f0 (rd_T51 x.f2 (k : Int)).f3.f1 (rd_T51 x.f2 (k : Int)).f3.f2 = true := by unfold S51.bad at hbad; simpa using hbad
          obtain ⟨a0, a1, a2, _, a4, a5, a6⟩ := tuple_sizes hok
          have hsh : lunetteref11_Show.f (rd_T51 x.f2 (k : Int)).f0 (rd_T51 x.f2 (k : Int)).f1 (rd_T51 x.f2 (k : Int)).f2 (rd_T51 x.f2 (k : Int)).f3.f0 (rd_T51 x.f2 (k : Int)).f3.f1 (rd_T51 x.f2 (k : Int)).f3.f2 = some (tupleText (rd_T51 x.f2 (k : Int)).f0 (rd_T51 x.f2 (k : Int)).f1 (rd_T51 x.f2 (k : Int)).f2 (rd_T51 x.f2 (k : Int)).f3.f0 (rd_T51 x.f2 (k : Int)).f3.f1 (rd_T51 x.f2 (k : Int)).f3.f2) := by
            unfold lunetteref11_Show.f
            rw [if_pos ⟨a0, a1, a2, a4, a5, a6⟩]
          have hnext : glue S1 (wordsT x.f3 x.f2 (k + 1)) = glue S1 (wordsT x.f3 x.f2 k) ++ (⟨#[32]⟩ ++ tword x.f3 k (rd_T51 x.f2 (k : Int))) := by rw [wordsT_step, glue_snoc]
          unfold tword at hnext
          have hgs := HN2.out k hk
          obtain ⟨t, hte⟩ : ∃ t, rd_T51 x.f2 (k : Int) = t := ⟨_, rfl⟩
          rw [hte] at g0 g1 g2 g3 g4 g5 hsh hsize hnext
          have e5 : ((k : Int)).toNat = k := by simp
          rw [e5] at g0 g1 g2 g3 g4 g5
          clear hte e5 hbad hok a0 a1 a2 a4 a5 a6
          have q1 : (k : Int) < (x.f2.length : Int) := by omega
          obtain ⟨tt, htt⟩ : ∃ tt, tupleText t.f0 t.f1 t.f2 t.f3.f0 t.f3.f1 t.f3.f2 = tt := ⟨_, rfl⟩
          rw [htt] at hsh hsize hnext
          clear htt
          obtain ⟨S, hS⟩ : ∃ S, glue S1 (wordsT x.f3 x.f2 k) = S := ⟨_, rfl⟩
          rw [hS] at hnext hgs
          rw [hS]
          clear hS
          have HSH := Aside0.mk hsh; clear hsh
          have q4 : (9223372036854775807 < S.size + (⟨#[32]⟩ : ByteArray).size) = False := eq_false (by rw [Q32.out]; omega)
          have hs2 : (S ++ (⟨#[32]⟩ : ByteArray)).size = S.size + 1 := by rw [ByteArray.size_append, Q32.out]
          by_cases hup : x.f0.toList = ([117, 112, 100, 97, 116, 101] : List UInt8)
          · have u1 : (x.f0.toList == ([117, 112, 100, 97, 116, 101] : List UInt8)) = true := beq_iff_eq.2 hup
            have hsn := HP.out.up hup
            clear hup
            have hne : x.f3.toList ≠ [] := fun h => by rw [tl_nil h] at hsn; have e0 : (⟨#[]⟩ : ByteArray).size = 0 := rfl; omega
            rw [if_neg hne] at hnext
            clear hne
            have q2 : (k : Int) + 1 ≤ (x.f3.size : Int) := by omega
            obtain ⟨sg, hsg⟩ : ∃ sg, x.f3.extract k (k + 1) = sg := ⟨_, rfl⟩
            have hsgs : sg.size ≤ 1 := by rw [← hsg, ByteArray.size_extract]; omega
            rw [hsg] at hnext
            have HSG := Aside0.mk hsg; clear hsg
            have HNEXT := Aside0.mk hnext; clear hnext
            have hs3 : (S ++ (⟨#[32]⟩ : ByteArray) ++ sg).size = S.size + 1 + sg.size := by rw [ByteArray.size_append, hs2]
            have q5 : (9223372036854775807 < (S ++ (⟨#[32]⟩ : ByteArray)).size + sg.size) = False := eq_false (by rw [hs2]; omega)
            have q6 : (9223372036854775807 < (S ++ (⟨#[32]⟩ : ByteArray) ++ sg).size + tt.size) = False := eq_false (by rw [hs3]; omega)
            have hs4 : (x.f3.extract k (k + 1)).size ≤ 1 := by rw [ByteArray.size_extract]; omega
            have q8 : (9223372036854775807 < (S ++ (⟨#[32]⟩ : ByteArray)).size + (x.f3.extract k (k + 1)).size) = False := eq_false (by rw [hs2]; omega)
            have q9 : (9223372036854775807 < S.size + 1 + (x.f3.extract k (k + 1)).size) = False := eq_false (by omega)
            have qa : (9223372036854775807 < S.size + 1 + (x.f3.extract k (k + 1)).size + tt.size) = False := eq_false (by omega)
            have qb : (9223372036854775807 < (S ++ (⟨#[32]⟩ : ByteArray) ++ x.f3.extract k (k + 1)).size + tt.size) = False := eq_false (by rw [ByteArray.size_append, hs2]; omega)
            have qc : (9223372036854775807 < S.size + 1) = False := eq_false (by omega)
            clear hs3 hs2 hs4
            go_wp2_with (first | (go_at_call 73; refine (lunetteref11_Show.calls t.f0 t.f1 t.f2 t.f3.f0 t.f3.f1 t.f3.f2 tt _ HSH.out).mono ?_; rintro e w3 ⟨rfl, hb⟩; have HBX3 := Aside0.mk (blk_below HBX.out hb); have HB3 := Aside0.mk (below_step HB0.out hb); clear hb z0 z1 z2 z3 z4 g0 g1 g2 g3 g4 g5))
            exact ⟨⟨k + 1, by omega, by go_num, by rw [HNEXT.out, ← HSG.out]; congr 1; simp only [ba_assoc], HBX3, HB3⟩, by simp [intOf]; omega⟩
          · have u1 : (x.f0.toList == ([117, 112, 100, 97, 116, 101] : List UInt8)) = false := beq_eq_false_iff_ne.2 hup
            rw [if_pos (HP.out.nup hup)] at hnext
            clear hup
            have HNEXT := Aside0.mk hnext; clear hnext
            have q6 : (9223372036854775807 < (S ++ (⟨#[32]⟩ : ByteArray)).size + tt.size) = False := eq_false (by rw [hs2]; omega)
            have q9 : (9223372036854775807 < S.size + 1 + tt.size) = False := eq_false (by omega)
            have qc : (9223372036854775807 < S.size + 1) = False := eq_false (by omega)
            clear hs2
            go_wp2_with (first | (go_at_call 73; refine (lunetteref11_Show.calls t.f0 t.f1 t.f2 t.f3.f0 t.f3.f1 t.f3.f2 tt _ HSH.out).mono ?_; rintro e w3 ⟨rfl, hb⟩; have HBX3 := Aside0.mk (blk_below HBX.out hb); have HB3 := Aside0.mk (below_step HB0.out hb); clear hb z0 z1 z2 z3 z4 g0 g1 g2 g3 g4 g5))
            exact ⟨⟨k + 1, by omega, by go_num, by rw [HNEXT.out]; congr 1; simp only [ba_assoc], HBX3, HB3⟩, by simp [intOf]; omega⟩
        · obtain rfl : k = x.f2.length := by omega
          have hgs := HN2.out x.f2.length (Nat.le_refl _)
          obtain ⟨S, hS⟩ : ∃ S, glue S1 (wordsT x.f3 x.f2 x.f2.length) = S := ⟨_, rfl⟩
          rw [hS] at hgs HFIN
          rw [hS]
          clear hS
          by_cases hru : x.f0.toList = ([114, 117, 108, 101, 115] : List UInt8)
          · have u1 : (x.f0.toList == ([114, 117, 108, 101, 115] : List UInt8)) = true := beq_iff_eq.2 hru
            have hne := HP.out.ru hru
            clear hru
            have hf := HFIN.out
            rw [if_neg hne] at hf
            have hf2 : textLn x = S ++ (⟨#[32]⟩ ++ x.f4) ++ ⟨#[10]⟩ := hf
            have HF := Aside0.mk hf2; clear hf hf2 hne
            have hs2 : ((⟨#[32]⟩ : ByteArray) ++ x.f4).size = 1 + x.f4.size := by rw [ByteArray.size_append, Q32.out]
            have hs3 : (S ++ ((⟨#[32]⟩ : ByteArray) ++ x.f4)).size = S.size + (1 + x.f4.size) := by rw [ByteArray.size_append, hs2]
            have q4 : (9223372036854775807 < (⟨#[32]⟩ : ByteArray).size + x.f4.size) = False := eq_false (by rw [Q32.out]; omega)
            have q5 : (9223372036854775807 < S.size + ((⟨#[32]⟩ : ByteArray) ++ x.f4).size) = False := eq_false (by rw [hs2]; omega)
            have q6 : (9223372036854775807 < (S ++ ((⟨#[32]⟩ : ByteArray) ++ x.f4)).size + (⟨#[10]⟩ : ByteArray).size) = False := eq_false (by rw [hs3, Q10.out]; omega)
            have q7 : (9223372036854775807 < 1 + x.f4.size) = False := eq_false (by omega)
            have q8 : (9223372036854775807 < S.size + (1 + x.f4.size)) = False := eq_false (by omega)
            have q9 : (9223372036854775807 < S.size + (1 + x.f4.size) + 1) = False := eq_false (by omega)
            clear hs2 hs3
            go_wp2
            go_ret
            exact ⟨by rw [HF.out]; rfl, HB0.out⟩
          · have u1 : (x.f0.toList == ([114, 117, 108, 101, 115] : List UInt8)) = false := beq_eq_false_iff_ne.2 hru
            have hf := HFIN.out
            rw [if_pos (HP.out.nru hru)] at hf
            clear hru
            have hf2 : textLn x = S ++ ⟨#[10]⟩ := hf
            have HF := Aside0.mk hf2; clear hf hf2
            have q6 : (9223372036854775807 < S.size + (⟨#[10]⟩ : ByteArray).size) = False := eq_false (by rw [Q10.out]; omega)
            have q9 : (9223372036854775807 < S.size + 1) = False := eq_false (by omega)
            go_wp2
            go_ret
            exact ⟨by rw [HF.out]; rfl, HB0.out⟩

theorem glue_sizeB (B : Nat) : ∀ (us : List ByteArray) (v : ByteArray), (∀ u ∈ us, u.size ≤ B) → (glue v us).size ≤ v.size + us.length * (B + 1)
  | [], v, _ => by show v.size ≤ _; omega
  | u :: us, v, h => by
    have e : glue v (u :: us) = glue (v ++ (⟨#[32]⟩ ++ u)) us := rfl
    have := glue_sizeB B us (v ++ (⟨#[32]⟩ ++ u)) (fun y hy => h y (List.mem_cons_of_mem _ hy))
    have hu := h u (List.mem_cons_self ..)
    have e1 : (⟨#[32]⟩ : ByteArray).size = 1 := rfl
    rw [ByteArray.size_append, ByteArray.size_append, e1] at this
    rw [e, List.length_cons, Nat.succ_mul]
    omega
theorem tText_size {t : S51} (h : t.bad = false) : (tText t).size ≤ 703 := by
  unfold S51.bad at h
  have h0 : tupleOk t.f0 t.f1 t.f2 t.f3.f0 t.f3.f1 t.f3.f2 = true := by simpa using h
  obtain ⟨a0, a1, a2, a3, a4, a5, a6⟩ := tuple_sizes h0
  have := userText_size t.f3.f0 t.f3.f1 t.f3.f2 a4 a5 a6
  have e1 : (⟨#[58]⟩ : ByteArray).size = 1 := rfl
  have e2 : (⟨#[35]⟩ : ByteArray).size = 1 := rfl
  have e3 : (⟨#[64]⟩ : ByteArray).size = 1 := rfl
  unfold tText tupleText
  simp only [ByteArray.size_append]
  omega
theorem textLn_size2 {x : S29} (h : goodL x = true) : (textLn x).size ≤ 7000 := by
  have G := good_is h
  obtain ⟨s1, s2, s3, s4, s5, s6, s7⟩ := good_small h
  have h1 := glue_sizeB 20 (x.f1.map itoaB) x.f0 (fun u hu => by
    obtain ⟨n, hn, rfl⟩ := List.mem_map.1 hu
    have := G.nums n hn
    exact itoaB_size n this.1 this.2)
  rw [List.length_map] at h1
  have h2 := glue_sizeB 704 (wordsT x.f3 x.f2 x.f2.length) (glue x.f0 (x.f1.map itoaB)) (fun u hu => by
    unfold wordsT at hu
    obtain ⟨i, hi, rfl⟩ := List.mem_map.1 hu
    have hz := tText_size (s4 i (List.mem_range.1 hi))
    unfold tText at hz
    unfold tword
    split
    · omega
    · have : (x.f3.extract i (i + 1)).size ≤ 1 := by rw [ByteArray.size_extract]; omega
      rw [ByteArray.size_append]; omega)
  have hl2 : (wordsT x.f3 x.f2 x.f2.length).length = x.f2.length := by simp [wordsT]
  rw [hl2] at h2
  have h3 := glue_sizeB 100 (if x.f4.toList = [] then [] else [x.f4]) (glue (glue x.f0 (x.f1.map itoaB)) (wordsT x.f3 x.f2 x.f2.length)) (fun u hu => by
    split at hu
    · simp at hu
    · rw [List.mem_singleton] at hu
      rw [hu]
      exact s6)
  have hl3 : (if x.f4.toList = [] then [] else [x.f4]).length ≤ 1 := by split <;> simp
  have hJ : (lineJ x).size ≤ 6999 := by
    rw [lineJ_glue]
    have m1 : x.f1.length * 21 ≤ 16 * 21 := Nat.mul_le_mul_right _ s1
    have m2 : x.f2.length * 705 ≤ 8 * 705 := Nat.mul_le_mul_right _ s3
    have m3 : (if x.f4.toList = [] then [] else [x.f4]).length * 101 ≤ 1 * 101 := Nat.mul_le_mul_right _ hl3
    omega
  rw [textLn_J, ByteArray.size_append]
  have : nlb.size = 1 := rfl
  omega
theorem textAll_size2 : ∀ (l : List S29), (∀ x ∈ l, goodL x = true) → (textAll l).size ≤ l.length * 7000
  | [], _ => by show 0 ≤ _; omega
  | x :: l, h => by
    have h1 := textLn_size2 (h x (List.mem_cons_self ..))
    have h2 := textAll_size2 l (fun y hy => h y (List.mem_cons_of_mem _ hy))
    rw [textAll_cons, ByteArray.size_append, List.length_cons, Nat.succ_mul]
    omega

/-! ### lines' text -/
set_option maxRecDepth 100000 in
set_option maxHeartbeats 4000000 in
theorem refShow_any (A : Option Addr) (c : Nat) (l : List S29) (hl : l.length ≤ 140737488355328) (hsh : ∀ x ∈ l, x.wide ∧ ∀ t ∈ x.f2, t.short) (w : World) (hr : Kd.C k29 w A l.length l) :
    Calls Tryz.prog 13 #[.slice A l.length c] w fun e w' => e = .returned (.tuple #[.string (showT l), .bool (l.all goodL)]) ∧ Below w.heap.size w w' := by
  have hu29 := Tryz.underlying29
  have HR := Aside0.mk hr; clear hr
  have HSH := Aside0.mk hsh; clear hsh
  go_enter Tryz.func13, Tryz.ntmps13
  go_upto_region 3 with fail
  go_loopw [4, 5] (fun s i wx => ∃ k : Nat, k ≤ l.length ∧ i = .int .i64 k ∧ s = .string (textAll (l.take k)) ∧ Aside0 (∀ x ∈ l.take k, goodL x = true) ∧ Below w.heap.size w wx) (fun _ i _ => l.length - (intOf i).toNat)
  case atStart => exact ⟨0, by omega, rfl, rfl, ⟨by simp⟩, Below.refl _ _⟩
  case round =>
    obtain ⟨k, hk, rfl, rfl, HG, hbw⟩ := hrel
    have HBW := Aside0.mk hbw; clear hbw
    by_cases hlt : k < l.length
    · obtain ⟨ad, A1, c1, A2, c2, rfl, g0, g1, g2, g3, g4, l1, r1, l2, r2⟩ := at_T29 HR.out (k : Int) (by omega) (by omega)
      replace g0 := below_cell0 HBW.out g0
      replace g1 := below_cell0 HBW.out g1
      replace g2 := below_cell0 HBW.out g2
      replace g3 := below_cell0 HBW.out g3
      replace g4 := below_cell0 HBW.out g4
      have HR1 := Aside0.mk (Kd.C_below r1 HBW.out); clear r1
      have HR2 := Aside0.mk (Kd.C_below r2 HBW.out); clear r2
      have e5 : ((k : Int)).toNat = k := by simp
      rw [e5] at g0 g1 g2 g3 g4
      clear e5
      have hmem : rd_T29 l (k : Int) ∈ l := by rw [rd_T29_at l k hlt]; exact List.getElem_mem hlt
      have htk : l.take (k + 1) = l.take k ++ [rd_T29 l (k : Int)] := by rw [rd_T29_at l k hlt]; exact (List.take_append_getElem hlt).symm
      have hshx := HSH.out _ hmem
      obtain ⟨x, hx⟩ : ∃ x, rd_T29 l (k : Int) = x := ⟨_, rfl⟩
      rw [hx] at g0 g1 g2 g3 g4 HR1 HR2 hmem htk hshx l1 l2
      clear hx
      have HTK := Aside0.mk htk; clear htk
      have HMEM := Aside0.mk hmem; clear hmem
      obtain ⟨kc, hkc⟩ := refCheck_f x hshx.1 hshx.2
      clear hshx
      have q1 : (k : Int) < (l.length : Int) := by omega
      obtain ⟨gd, hgd⟩ : ∃ b, goodL x = b := ⟨_, rfl⟩
      rw [hgd] at hkc
      have HGD := Aside0.mk hgd; clear hgd
      have hchk := lunetteref20_Check.calls kc x.f0 A1 c1 x.f1 A2 c2 x.f2 x.f3 x.f4 gd wr HR1.out l1 HR2.out l2 hkc
      clear hkc
      go_wp2_with fail
      refine hchk.mono ?_
      clear hchk
      rintro e w3 ⟨rfl, hb⟩
      have HB3 := Aside0.mk (below_step HBW.out hb)
      have HR3 := Aside0.mk (Kd.C_below HR1.out hb)
      have HR4 := Aside0.mk (Kd.C_below HR2.out hb)
      replace g0 := below_cell0 hb g0
      replace g1 := below_cell0 hb g1
      replace g2 := below_cell0 hb g2
      replace g3 := below_cell0 hb g3
      replace g4 := below_cell0 hb g4
      clear hb
      cases gd with
      | false =>
        go_wp2
        go_ret2
        have hall : l.all goodL = false := by
          rw [List.all_eq_false]
          exact ⟨x, HMEM.out, by rw [HGD.out]; decide⟩
        refine ⟨?_, HB3.out⟩
        unfold showT
        rw [hall]
        rfl
      | true =>
        have hrl := refLine_any x HGD.out A1 c1 A2 c2 w3 HR3.out HR4.out
        have hsz1 := textLn_size2 HGD.out
        have hsz2 := textAll_size2 _ HG.out
        have hlk : (l.take k).length ≤ 140737488355328 := by rw [List.length_take]; omega
        have hsz3 : (textAll (l.take k)).size ≤ 140737488355328 * 7000 := Nat.le_trans hsz2 (Nat.mul_le_mul_right _ hlk)
        clear hsz2
        have hnext : textAll (l.take (k + 1)) = textAll (l.take k) ++ textLn x := by rw [HTK.out, textAll_append, textAll_one]
        have HNEXT := Aside0.mk hnext; clear hnext
        obtain ⟨S, hS⟩ : ∃ S, textAll (l.take k) = S := ⟨_, rfl⟩
        rw [hS] at HNEXT hsz3
        rw [hS]
        clear hS
        obtain ⟨X, hX⟩ : ∃ X, textLn x = X := ⟨_, rfl⟩
        rw [hX] at HNEXT hsz1 hrl
        clear hX
        have q4 : (9223372036854775807 < S.size + X.size) = False := eq_false (by omega)
        go_wp2_with fail
        refine hrl.mono ?_
        clear hrl
        rintro e w4 ⟨rfl, hb⟩
        have HB4 := Aside0.mk (below_step HB3.out hb)
        clear hb g0 g1 g2 g3 g4
        go_wp2
        refine ⟨⟨k + 1, by omega, by go_num, by rw [HNEXT.out], ⟨?_⟩, HB4.out⟩, by simp [intOf]; omega⟩
        rw [HTK.out]
        intro y hy
        rcases List.mem_append.1 hy with hy | hy
        · exact HG.out y hy
        · rw [List.mem_singleton.1 hy]; exact HGD.out
    · obtain rfl : k = l.length := by omega
      have hall : l.all goodL = true := by
        rw [List.all_eq_true]
        have := HG.out
        rwa [List.take_length] at this
      have HALL := Aside0.mk hall; clear hall
      go_wp2
      go_ret2
      refine ⟨?_, HBW.out⟩
      unfold showT
      rw [HALL.out, if_pos rfl, List.take_length]
      rfl
end Go.Proofs.YtbdoafigggcdpaaGreatDoor.PScr
