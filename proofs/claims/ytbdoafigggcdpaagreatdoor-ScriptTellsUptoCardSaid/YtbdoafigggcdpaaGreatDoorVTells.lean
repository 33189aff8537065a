/- What is answered is the text of the document, where the arguments and the listed variables hold at most 1048576 values and letters together. The condition is the given one of the second form, no other. -/
import Derived.Test.YtbdoafigggcdpaaGreatDoorVF
import Derived.Test.YtbdoafigggcdpaaGreatDoorVTH
import Derived.Test.YtbdoafigggcdpaaGreatDoorVTL
import Derived.Deep.DeepHandedRow
import Derived.Test.YtbdoafigggcdpaaGreatDoorCards
import Derived.Test.YtbdoafigggcdpaaGreatDoorTie
namespace Go.Proofs.YtbdoafigggcdpaaGreatDoor
set_option linter.unusedVariables false
set_option linter.unusedSimpArgs false
open Go Go.RowKit Go.ChangeShapes Go.WideShapes Go.ChangeAt PScr

theorem laidOut : laidOutB Tryz.prog = true := by kernel_rfl
def none46 : Value := .agg #[.int .i64 0, .int .i64 0, .string ⟨#[]⟩, .bool false, .bool false, .slice none 0 0, .slice none 0 0, .slice none 0 0, .slice none 0 0, .string ⟨#[]⟩, .slice none 0 0, .slice none 0 0, .slice none 0 0]
theorem reads46 (os : Os) {H : Type} (enc : TypeId × Value → H) : ∃ places, DataW.whole enc Tryz.prog ((World.laidAll Tryz.prog os laidAll).forCall (fun _ _ => 0) ⟨#[], #[none46], []⟩).memory Tryz.f5.params.toList Rows.scriptTellsSpec.vars false #[none46].toList 8 = some ([.agg [.lit (.int .i64 0), .lit (.int .i64 0), .lit (.string []), .lit (.bool false), .lit (.bool false), .nil, .nil, .nil, .nil, .agg [.lit (.string []), .nil, .nil], .nil]], [], places) :=
  ⟨[], by kernel_rfl⟩
set_option maxRecDepth 100000 in
theorem tells_witness (os : Os) {H : Type} (enc : TypeId × Value → H) : ∃ (w : World) (tape : Tape) (i : Input), w.os = os ∧ (w.forCall tape i).Shaped Tryz.checked.prog ∧ i.vars = [] ∧ Input.okWide Tryz.checked.prog (w.forCall tape i) .any w.heap.size 5 i ∧
      (Rows.OpenSpec.upto Rows.scriptTellsSpec).preRow enc Tryz.checked.prog Tryz.f5 Rows.scriptTellsUptoRow.domain false Rows.scriptTellsUptoRow.laid (w.forCall tape i).memory i.args ∧ ({} : Assume).holds Tryz.checked.prog (lone (Frame.enter Tryz.checked.prog 5 i.args .normal) [] (w.forCall tape i)) := by
  obtain ⟨places, hx⟩ := reads46 os enc
  have hok : Input.okWideB Tryz.checked.prog ((World.laidAll Tryz.prog os laidAll).forCall (fun _ _ => 0) ⟨#[], #[none46], []⟩) 5 ⟨#[], #[none46], []⟩ = true := by kernel_rfl
  exact ⟨World.laidAll Tryz.prog os laidAll, fun _ _ => 0, ⟨#[], #[none46], []⟩, World.laidAll_os _ _ _, laid_shaped os, (Input.okWide_of_okWideB (base := 0) hok).1, (Input.okWide_of_okWideB hok).2, OpenSpec.preRow_of_cond 8 hx (by kernel_rfl) (fun k hk => by cases hk; kernel_rfl) (by kernel_rfl) (laid_met os _), by
    simp only [Assume.holds]
    exact ⟨by simp, by simp, fun _ => Modest.zero, by simp, by simp⟩⟩
set_option maxRecDepth 100000 in
theorem tells_lifted (os : Os) (started : os.Started) (H : Type) (enc : TypeId × Value → H) (G : Stop.Interp) :
    ReturnsInHanded {} Tryz.checked os 5 .any ((Rows.OpenSpec.upto Rows.scriptTellsSpec).preRow enc Tryz.prog Tryz.f5 Rows.scriptTellsUptoRow.domain false Rows.scriptTellsUptoRow.laid) (((Rows.OpenSpec.upto Rows.scriptTellsSpec).at G).post enc Tryz.prog Tryz.f5 false true false false) := by
  refine returnsInHanded_of_row (C := Tryz.checked) (s := Rows.OpenSpec.upto Rows.scriptTellsSpec) own started (by kernel_rfl) Tryz.func5 (tells_witness os enc) ?_
  intro W base args ds gs before hval0 hW _ hcond _ hL hsh _
  have hval : ∀ (j : Nat) t v, Tryz.f5.params[j]? = some t → args[j]? = some v → Value.okWide Tryz.prog W .any base t v := hval0
  have hW' := hW
  have hbulk : Rows.uptoBulkAll (ds ++ gs) ≤ 1048576 := of_decide_eq_true (hcond _ rfl)
  obtain ⟨p, q, hA0, hV, rfl, hfz, hnd⟩ := hW
  have hA : DataW.TrodAll enc Tryz.prog W 0 (fun _ => true) true Tryz.f5.params.toList args.toList ds p := hA0
  rw [Tryz.params5] at hA hval
  obtain ⟨v0, d0, rfl, rfl, h0⟩ := trodAll_one hA
  obtain ⟨rfl, rfl⟩ := trodVars_none hV
  have k0 := h0
  have lt0 : ∀ x ∈ p, x.block < W.heap.size := by
    obtain ⟨m, hm⟩ := k0
    exact DataW.trod_lt m _ _ _ hm
  obtain ⟨cs, rfl, _⟩ := okWide_struct Tryz.underlying46 (hval 0 46 v0 rfl rfl)
  obtain ⟨m, hm⟩ := h0
  have hb46 : Rows.uptoBulk d0 ≤ 1048576 := by
    simp only [List.append_nil, Rows.uptoBulkAll] at hbulk
    omega
  obtain ⟨Z⟩ := open46 1048576 m cs (d0, p) hm hb46
  obtain ⟨err, line, tok, has, cut, At, ct, ts, Au, cu, us, Ai, ci, ids, Ae, ce, es, t, Ax, cx, Ap, cp, Ag, cg, pages, rfl, herr, hline, htok, rt, ht, ru, hu, ri, hi, re, he, lx, rx, lp, rp, rg, hg⟩ := Z
  clear hA0 hval0 hm
  simp only [List.append_nil] at hW'
  have Fa := facts_of_laid hL hsh
  have E := ents_of_laid hL
  refine (tells_any W Fa err line tok has cut At ct ts Au cu us Ai ci ids Ae ce es t Ax cx Ap cp Ag cg pages herr hline (by omega) ht hu (fun x hx => by have := hi x hx; omega) he lx lp hg W (Below.refl _ _) E rt ru ri re rx rp rg).mono fun e W' ⟨he, hb⟩ => ?_
  subst he
  exact ⟨_, rfl, _, _, _, [], _, [], hW', trodAll_mk1 (shut_bool Tryz.underlying4 true), trodAll_mk1 (Below.trod laidOut (by kernel_rfl) (of_decide_eq_true (by kernel_rfl)) k0 hb lt0), rfl, hb.frame _, fun h => (by cases h)⟩

theorem tells_holds : Rows.ScriptTellsUptoSaid :=
  OpenClaim.holds_of_cond 5 Tryz.f5 rfl rfl rfl rfl rfl rfl rfl ⟨rfl, rfl, rfl, rfl, rfl⟩ rfl rfl rfl rfl rfl (by kernel_rfl) Tryz.func5 (by kernel_rfl)
    (of_decide_eq_true (by kernel_rfl)) (by unfold Func.isWrapper; rw [if_neg (of_decide_eq_false (by kernel_rfl))]; exact ⟨rfl, rfl⟩)
    (fun os started H enc _ G => by rw [OpenClaim.pre_eq_preRow]; exact tells_lifted os started H enc G)

theorem tells_card : Rows.ScriptTellsUptoCardSaid :=
  Claim7.holds_tied_plain_at .later [] [.data, .data, .data, .data, .sentinel, .sentinel, .listed, .data, .widerDeep, .pinned] true (true, "dde367174976e5e0b8670dd1563f24485fe03c81c008d9bec67db6a33db9fb85") true
    tells_holds (fun _ h => by cases h) (by kernel_rfl) (fun _ h => by cases h) scriptTellsUpto_row_tie rfl ⟨rfl, rfl⟩ (by kernel_rfl) rfl
    (fun f fn hf hfn => by
      obtain rfl : f = 5 := Option.some.inj ((show Tryz.prog.funcNamed "lunette/lunettelaw20.ScriptTells" = some 5 by kernel_rfl).symm.trans hf) |>.symm
      obtain rfl : fn = Tryz.f5 := (Option.some.inj (Tryz.func5.symm.trans hfn)).symm
      exact ⟨by kernel_rfl, fun j t ht => by
        rw [Tryz.params5] at ht
        have hm : t ∈ [46] := by simpa using Array.mem_of_getElem? ht
        have hall : ([46].all fun u => !Tryz.prog.wantsStandIn u) = true := by kernel_rfl
        exact (show Tryz.prog.wantsStandIn t = false by simpa using List.all_eq_true.1 hall t hm)⟩)
    (by kernel_rfl)
#print axioms tells_card
end Go.Proofs.YtbdoafigggcdpaaGreatDoor
