/- Among lines that are right the one that is wrong is told. No condition of ours. -/
import Derived.Test.YtbdoafigggcdpaaGreatDoorF
import Derived.Test.YtbdoafigggcdpaaGreatDoorLW
import Derived.SizedLaws
import Derived.Test.YtbdoafigggcdpaaGreatDoorCards
import Derived.Test.YtbdoafigggcdpaaGreatDoorTie
namespace Go.Proofs.YtbdoafigggcdpaaGreatDoor
set_option linter.unusedVariables false
set_option linter.unusedSimpArgs false
open Go Go.RowKit Go.ChangeShapes Go.WideShapes Go.ChangeAt PScr


theorem laidOut : laidOutB Tryz.prog = true := by kernel_rfl
set_option maxRecDepth 100000 in
theorem wrong_lifted (os : Os) (started : os.Started) (H : Type) (enc : TypeId × Value → H) :
    ReturnsInHanded {} Tryz.checked os 7 .any (fun w args => (Rows.scriptWrongSpec.pre enc Tryz.prog Tryz.f7 [] false w args ∧ laidMetH Tryz.prog laidAll w) ∧ sizedMet enc Tryz.prog Tryz.f7 (OpenSpec.ofChange Rows.scriptWrongSpec) false w args)
      (Rows.scriptWrongSpec.post enc Tryz.prog Tryz.f7 false true false false) := by
  refine wrap (C := Tryz.checked) (X := fun w _ => laidMetH Tryz.prog laidAll w) (fun _ _ _ hh h => h.of_heap hh) own started (by kernel_rfl) Tryz.func7
    (ChangeSpec.witness_shaped (enc := enc) (C := Tryz.checked) (os := os) (X := fun w _ => laidMetH Tryz.prog laidAll w) false (World.laidAll Tryz.prog os laidAll) #[.slice none 0 0, .string ⟨#[]⟩] 8 (World.laidAll_os _ _ _) (laid_shaped os) (by kernel_rfl) (by kernel_rfl) (by kernel_rfl) (laid_met os _)) ?_
  intro W base args ds gs before hval0 hW hsz hL hsh
  have hval : ∀ (j : Nat) t v, Tryz.f7.params[j]? = some t → args[j]? = some v → Value.okWide Tryz.prog W .any base t v := hval0
  have hW' := hW
  obtain ⟨p, q, hA0, hV, rfl, hfz, hnd⟩ := hW
  have hA : DataW.TrodAll enc Tryz.prog W 0 (fun _ => true) true Tryz.f7.params.toList args.toList ds p := hA0
  rw [Tryz.params7] at hA hval
  rw [Tryz.params7] at hsz
  obtain ⟨v0, v1, d0, d1, p0, p1, rfl, rfl, rfl, h0, h1⟩ := trodAll_two hA
  obtain ⟨rfl, rfl⟩ := trodVars_none hV
  have k0 := h0
  have lt0 : ∀ x ∈ p0, x.block < W.heap.size := by
    obtain ⟨m, hm⟩ := k0
    exact DataW.trod_lt m _ _ _ hm
  obtain ⟨A0, c0, l0, rfl, hc0, hr0, hn0, hm0, hd0⟩ := open_lines h0 (okWide_slice Tryz.underlying22 (hval 0 22 v0 rfl rfl))
  have hl0 : l0.length ≤ 140737488355328 := by
    rcases hd0 with rfl | ⟨es, rs, rfl, he⟩
    · simp
    · have z := sized_slice hsz (j := 0) (t := 22) rfl rfl Tryz.underlying22
      have zb : Tryz.checked.prog.bytesOf 29 = 96 := by kernel_rfl
      have zr := reachBytes_lt
      rw [zb] at z
      omega
  obtain ⟨x1, rfl, rfl, rfl, wx1⟩ := ChangeMaps.open_string Tryz.underlying9 (hval 1 9 v1 rfl rfl) h1
  clear hA0 hval0
  simp only [List.append_nil] at hW'
  have F := facts_of_laid hL hsh
  have E := ents_of_laid hL
  refine (wrong_any W F A0 c0 l0 hl0 hc0 hm0 x1 W (Below.refl _ _) E hr0).mono fun e W' ⟨he, hb⟩ => ?_
  subst he
  exact ⟨_, rfl, _, _, _, [], _, [], hW', trodAll_mk1 (shut_bool Tryz.underlying4 true), trodAll_mk2 (Below.trod laidOut (by kernel_rfl) (of_decide_eq_true (by kernel_rfl)) k0 hb lt0) (ChangeMaps.shut_string Tryz.underlying9 wx1), rfl, hb.frame _, fun h => (by cases h)⟩

theorem wrong_holds : Rows.ScriptWrongSaid :=
  OpenClaim.holds_of_wide 7 Tryz.f7 rfl rfl rfl rfl rfl rfl rfl ⟨rfl, rfl, rfl, rfl, rfl⟩ rfl rfl rfl rfl rfl (by kernel_rfl) Tryz.func7 (by kernel_rfl)
    (of_decide_eq_true (by kernel_rfl)) (by unfold Func.isWrapper; rw [if_neg (of_decide_eq_false (by kernel_rfl))]; exact ⟨rfl, rfl⟩)
    (fun os started H enc _ => wrong_lifted os started H enc)

theorem wrong_card : Rows.ScriptWrongCardSaid :=
  Claim7.holds_tied_plain_at .later [] [.data, .data, .data, .data, .sentinel, .sentinel, .listed, .data, .widerDeep, .pinned] true (true, "dde367174976e5e0b8670dd1563f24485fe03c81c008d9bec67db6a33db9fb85") true
    wrong_holds (fun _ h => by cases h) (by kernel_rfl) (fun _ h => by cases h) scriptWrong_row_tie rfl ⟨rfl, rfl⟩ (by kernel_rfl) rfl
    (fun f fn hf hfn => by
      obtain rfl : f = 7 := Option.some.inj ((show Tryz.prog.funcNamed "lunette/lunettelaw20.ScriptWrong" = some 7 by kernel_rfl).symm.trans hf) |>.symm
      obtain rfl : fn = Tryz.f7 := (Option.some.inj (Tryz.func7.symm.trans hfn)).symm
      exact ⟨by kernel_rfl, fun j t ht => by
        rw [Tryz.params7] at ht
        have hm : t ∈ [22, 9] := by simpa using Array.mem_of_getElem? ht
        have hall : ([22, 9].all fun u => !Tryz.prog.wantsStandIn u) = true := by kernel_rfl
        exact (show Tryz.prog.wantsStandIn t = false by simpa using List.all_eq_true.1 hall t hm)⟩)
    (by kernel_rfl)
#print axioms wrong_card
end Go.Proofs.YtbdoafigggcdpaaGreatDoor
