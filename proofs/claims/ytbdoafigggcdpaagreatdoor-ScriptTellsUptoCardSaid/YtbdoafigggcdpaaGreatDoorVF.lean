/- What the listed variables give the walks; the wrap; the start that fits. No condition of ours. -/
import Derived.Test.YtbdoafigggcdpaaGreatDoorVM5
import Derived.Test.YtbdoafigggcdpaaGreatDoorRows
import Derived.ProofKit
import Derived.LaidMore
import Derived.LaidHandle
import Derived.MakeChecks
import Derived.Stop.LaidErr
import Derived.Stop.Joined
import Derived.Lib.LaidTab
import Derived.Lib.LaidU8
import Derived.Shelf.Vars
import Derived.Handed
import Derived.Lay
namespace Go.Proofs.YtbdoafigggcdpaaGreatDoor
set_option linter.unusedVariables false
set_option linter.unusedSimpArgs false
open Go Go.RowKit Go.ChangeShapes Go.WideShapes Go.ChangeAt PScr

/-- what the rows of this seat list -/
def laidAll : List (String × DataW Unit) := [("math/bits.deBruijn32tab", Rows.laid_math_bits_deBruijn32tab), ("math/bits.deBruijn64tab", Rows.laid_math_bits_deBruijn64tab), ("internal/strconv.uint64pow10", Rows.laid_internal_strconv_uint64pow10), ("unicode/utf8.acceptRanges", Rows.laid_unicode_utf8_acceptRanges), ("strconv.ErrRange", Rows.laid_strconv_ErrRange), ("strconv.ErrSyntax", Rows.laid_strconv_ErrSyntax), ("unicode.White_Space", Rows.laid_unicode_White_Space), ("strings.asciiSpace", Rows.laid_strings_asciiSpace), ("lunette/script.entries", Rows.laid_lunette_script_entries), ("unicode/utf8.first", Rows.laid_unicode_utf8_first)]

theorem own : ownKnob Tryz.prog.godebug = none := by kernel_rfl
theorem gPow : Tryz.prog.globalNamed "internal/strconv.uint64pow10" = some 8 := by kernel_rfl
theorem gPowT : (Tryz.prog.globals[8]?).map (·.type) = some 224 := by kernel_rfl
theorem gSyn : Tryz.prog.globalNamed "strconv.ErrSyntax" = some 6 := by kernel_rfl
theorem gSynT : (Tryz.prog.globals[6]?).map (·.type) = some 91 := by kernel_rfl
theorem gRng : Tryz.prog.globalNamed "strconv.ErrRange" = some 7 := by kernel_rfl
theorem gRngT : (Tryz.prog.globals[7]?).map (·.type) = some 91 := by kernel_rfl
theorem gAsc : Tryz.prog.globalNamed "strings.asciiSpace" = some 1 := by kernel_rfl
theorem gAscT : (Tryz.prog.globals[1]?).map (·.type) = some 150 := by kernel_rfl
theorem gEnt : Tryz.prog.globalNamed "lunette/script.entries" = some 0 := by kernel_rfl
theorem gEntT : (Tryz.prog.globals[0]?).map (·.type) = some 110 := by kernel_rfl
theorem cells192 : Tryz.prog.cellsOf 192 = 1 := by kernel_rfl
theorem cells224 : Tryz.prog.cellsOf 224 = 20 := by kernel_rfl
theorem cells233 : Tryz.prog.cellsOf 233 = 1 := by kernel_rfl
theorem cells9 : Tryz.prog.cellsOf 9 = 1 := by kernel_rfl
theorem cells5 : Tryz.prog.cellsOf 5 = 1 := by kernel_rfl
theorem cells3 : Tryz.prog.cellsOf 3 = 1 := by kernel_rfl
theorem cells4 : Tryz.prog.cellsOf 4 = 1 := by kernel_rfl
theorem cells150 : Tryz.prog.cellsOf 150 = 256 := by kernel_rfl
theorem cells72 : Tryz.prog.cellsOf 72 = 8 := by kernel_rfl
theorem noHandle : (laidAll.all fun x => x.2.handleName?.isNone) = true := by kernel_rfl
theorem star : "*" ++ "errors.errorString" = "*errors.errorString" := by decide
theorem rowErr (u : TypeId) (h : Tryz.prog.typeName? 3 u = some "*errors.errorString") : u = 231 :=
  typeName_ptr_named (nm := "errors.errorString") (by rw [star]; kernel_rfl) (by kernel_rfl) (by decide) u (by rw [star]; exact h)

theorem mk_eq' (s : ByteArray) : (⟨s.data.toList.toArray⟩ : ByteArray) = s := ba_ext (by simp)
/-- a field's datum and the value in its cell -/
def litV : Lit → Value
  | .string l => .string ⟨l.toArray⟩
  | .int k n => .int k n
  | .bool b => .bool b
  | _ => undef
theorem lit_cell {W : World} {fuel : Nat} {t : TypeId} {cs : List Value} {l : Lit} {q : List MemPlace} (ht : Tryz.prog.underlying t = some .string ∨ Tryz.prog.underlying t = some (.int .i64) ∨ Tryz.prog.underlying t = some .bool) (h : DataW.trod (fun _ => ()) Tryz.prog W 0 (fun _ => true) false fuel t cs = some (.lit l, q)) : cs = [litV l] := by
  rcases ht with ht | ht | ht
  · obtain ⟨s, rfl, hx, _⟩ := DataW.trod_string ht h
    have hl := DataW.lit.inj (congrArg Prod.fst hx)
    rw [hl]
    simp only [litV, mk_eq']
  · obtain ⟨z, rfl, hx, _⟩ := DataW.trod_int ht h
    have hl := DataW.lit.inj (congrArg Prod.fst hx)
    rw [hl]
    rfl
  · obtain ⟨b, rfl, hx⟩ := DataW.trod_bool ht h
    have hl := DataW.lit.inj (congrArg Prod.fst hx)
    rw [hl]
    rfl

set_option maxRecDepth 100000 in
theorem facts_of_laid {W : World} (hL : laidMetH Tryz.prog laidAll W) (hsh : W.ShapedOpen Tryz.prog) : Facts W := by
  have h : laidMet Tryz.prog laidAll W := by
    rw [← MakeChecks.laidMetH_plain Tryz.prog laidAll W noHandle]; exact hL
  have h3 := h.tail.tail
  have h5 := h3.tail.tail
  have h6 := h5.tail
  have h8 := h6.tail.tail
  refine ⟨?_, ?_, ?_, ?_, ?_, ?_⟩
  · exact Lib.tabIs_of_head gPow gPowT Tryz.underlying224 Tryz.underlying192 cells192 cells224 h3
  · exact cell_of_shapedOpen_int (P := Tryz.prog) (g := 2) (t := 3) (zero := #[.int .i64 0]) hsh (of_decide_eq_true (by kernel_rfl)) (by kernel_rfl) rfl (by kernel_rfl) (by kernel_rfl) Tryz.underlying3
  · obtain ⟨a, s, hv, _⟩ := laid_sentinel h6 gSyn gSynT Tryz.underlying91 rowErr Tryz.underlying231 Tryz.underlying233 rfl rfl Tryz.underlying9 cells233 cells9
    exact ⟨_, _, hv⟩
  · obtain ⟨a, s, hv, _⟩ := laid_sentinel h5 gRng gRngT Tryz.underlying91 rowErr Tryz.underlying231 Tryz.underlying233 rfl rfl Tryz.underlying9 cells233 cells9
    exact ⟨_, _, hv⟩
  · exact Lib.tabIs_of_head gAsc gAscT Tryz.underlying150 Tryz.underlying5 cells5 cells150 h8
  · exact whiteTab_of_reads Tryz.lays199 ⟨by kernel_rfl, by kernel_rfl, by kernel_rfl, by kernel_rfl, by kernel_rfl, by kernel_rfl, by kernel_rfl, by kernel_rfl⟩ (Lib.laidMet.reads h (n := "unicode.White_Space") (d := Rows.laid_unicode_White_Space) (by simp [laidAll]))

/-- the data of the entries -/
def entData (e : Ent) : List Lit := [.string e.word.data.toList, .int .i64 e.n, .int .i64 e.lo, .int .i64 e.hi, .bool e.signs, .bool e.text, .bool e.pairs, .bool e.bytes]
theorem ents_data : Rows.laid_lunette_script_entries (H := Unit) = .agg (ents.map fun e => .agg ((entData e).map .lit)) := by rfl
theorem ents_of_laid {W : World} (hL : laidMetH Tryz.prog laidAll W) : EntsIn W := by
  have h : laidMet Tryz.prog laidAll W := by
    rw [← MakeChecks.laidMetH_plain Tryz.prog laidAll W noHandle]; exact hL
  have hr := Lib.laidMet.reads h (n := "lunette/script.entries") (d := Rows.laid_lunette_script_entries) (by simp [laidAll])
  obtain ⟨g, t, cs, fuel, p, hg, hty, hvar, hd⟩ := hr
  obtain rfl := Option.some.inj (gEnt.symm.trans hg)
  obtain rfl := Option.some.inj (gEntT.symm.trans hty)
  rw [ents_data] at hd
  intro i hi k v hk
  obtain ⟨fuel', d, q, hdi, he⟩ := Lib.array_elem Tryz.underlying110 hd i hi
  have hent : ents[i]? = some (entAt i) := by unfold entAt; rw [List.getD_eq_getElem?_getD]; have : i < ents.length := hi; simp [this]
  rw [List.getElem?_map, hent, Option.map_some, Option.some.injEq] at hdi
  subst hdi
  rw [cells72] at he
  obtain ⟨xs, n', hxs1, hxs, hl, hxl, hall⟩ := DataW.trod_struct Tryz.underlying72 he
  have hx : xs.map (·.1) = (entData (entAt i)).map .lit := by
    have := congrArg Prod.fst hxs
    simpa using this.symm
  have field : ∀ (k : Nat) (f : Field) (l : Lit), (#[{ name := "word", type := 9, offset := 0, embedded := false, tag := "", pkgPath := "lunette/script", byteOffset := 0 }, { name := "n", type := 3, offset := 1, embedded := false, tag := "", pkgPath := "lunette/script", byteOffset := 16 }, { name := "from", type := 3, offset := 2, embedded := false, tag := "", pkgPath := "lunette/script", byteOffset := 24 }, { name := "to", type := 3, offset := 3, embedded := false, tag := "", pkgPath := "lunette/script", byteOffset := 32 }, { name := "signs", type := 4, offset := 4, embedded := false, tag := "", pkgPath := "lunette/script", byteOffset := 40 }, { name := "text", type := 4, offset := 5, embedded := false, tag := "", pkgPath := "lunette/script", byteOffset := 41 }, { name := "pairs", type := 4, offset := 6, embedded := false, tag := "", pkgPath := "lunette/script", byteOffset := 42 }, { name := "bytes", type := 4, offset := 7, embedded := false, tag := "", pkgPath := "lunette/script", byteOffset := 43 }] : Array Field)[k]? = some f → f.offset = k → Tryz.prog.cellsOf f.type = 1 → (Tryz.prog.underlying f.type = some .string ∨ Tryz.prog.underlying f.type = some (.int .i64) ∨ Tryz.prog.underlying f.type = some .bool) → (entData (entAt i))[k]? = some l → k < 8 → W.cell? ⟨0, i * 8 + k, none⟩ = some (litV l) := by
    intro k f l hf ho hc ht hl1 hk8
    have h1 := hall k f hf
    rw [ho, hc] at h1
    have h2 : (xs.map (·.1))[k]? = some (.lit l) := by rw [hx, List.getElem?_map, hl1]; rfl
    rw [List.getElem?_map] at h2
    obtain ⟨y, hy, hy2⟩ := Option.map_eq_some_iff.1 h2
    rw [hy] at h1
    obtain ⟨y1, y2⟩ := y
    simp only at hy2
    subst hy2
    have h3 := lit_cell ht h1
    have h4 := congrArg (·[0]?) h3
    simp only [List.getElem?_take, List.getElem?_drop] at h4
    rw [World.var?_cell gEnt hvar (i * 8 + k), ← Array.getElem?_toList]
    simpa [hk8] using h4
  match k, hk with
  | 0, hk => obtain rfl := Option.some.inj hk; have := field 0 _ _ rfl rfl cells9 (.inl Tryz.underlying9) rfl (by omega); rw [show litV (.string (entAt i).word.data.toList) = .string (entAt i).word from by simp only [litV, mk_eq']] at this; exact this
  | 1, hk => obtain rfl := Option.some.inj hk; exact field 1 _ _ rfl rfl cells3 (.inr (.inl Tryz.underlying3)) rfl (by omega)
  | 2, hk => obtain rfl := Option.some.inj hk; exact field 2 _ _ rfl rfl cells3 (.inr (.inl Tryz.underlying3)) rfl (by omega)
  | 3, hk => obtain rfl := Option.some.inj hk; exact field 3 _ _ rfl rfl cells3 (.inr (.inl Tryz.underlying3)) rfl (by omega)
  | 4, hk => obtain rfl := Option.some.inj hk; exact field 4 _ _ rfl rfl cells4 (.inr (.inr Tryz.underlying4)) rfl (by omega)
  | 5, hk => obtain rfl := Option.some.inj hk; exact field 5 _ _ rfl rfl cells4 (.inr (.inr Tryz.underlying4)) rfl (by omega)
  | 6, hk => obtain rfl := Option.some.inj hk; exact field 6 _ _ rfl rfl cells4 (.inr (.inr Tryz.underlying4)) rfl (by omega)
  | 7, hk => obtain rfl := Option.some.inj hk; exact field 7 _ _ rfl rfl cells4 (.inr (.inr Tryz.underlying4)) rfl (by omega)
  | k + 8, hk => simp [Ent.vals] at hk

/-- The wrap for a row that lists variables: the contract is handed the reach, what is listed, and the world's shape. -/
theorem wrap {H : Type} {enc : TypeId × Value → H} {a : Assume} {C : Checked} {os : Os} {f : FuncId} {fn : Func} {s : ChangeSpec} {conds : List PathCond} {apart fresh handsOn again : Bool} {X : World → Array Value → Prop}
    (hX : ∀ (w w' : World) (args : Array Value), w.heap = w'.heap → X w args → X w' args)
    (own : ownKnob C.prog.godebug = none) (started : os.Started) (noInit : C.prog.inits.idxOf? f = none) (hfn : C.prog.funcs[f]? = some fn)
    (witness : ∃ (w : World) (tape : Tape) (i : Input), w.os = os ∧ (w.forCall tape i).Shaped C.prog ∧ i.vars = [] ∧ Input.okWide C.prog (w.forCall tape i) .any w.heap.size f i ∧
      ((s.pre enc C.prog fn conds apart (w.forCall tape i).memory i.args ∧ X (w.forCall tape i).memory i.args) ∧ sizedMet enc C.prog fn (OpenSpec.ofChange s) apart (w.forCall tape i).memory i.args) ∧ a.holds C.prog (lone (Frame.enter C.prog f i.args .normal) [] (w.forCall tape i)))
    (contract : ∀ (W : World) (base : Nat) (args : Array Value) (ds gs : List (DataW H)) (before : List MemPlace),
      (∀ (j : Nat) t v, fn.params[j]? = some t → args[j]? = some v → Value.okWide C.prog W .any base t v) →
      DataW.Whole enc C.prog fn.params.toList s.vars apart W args.toList ds gs before →
      (DataW.weightsEach C.prog (fn.params.toList ++ s.plain.varTypes C.prog) (ds ++ gs)).all (· ≤ reachBytes) = true → X W args → W.ShapedOpen C.prog →
      Calls C.prog f args W fun e W' => ∃ v, e = .returned v ∧ s.post enc C.prog fn apart fresh handsOn again W args v W') :
    ReturnsInHanded a C os f .any (fun w args => (s.pre enc C.prog fn conds apart w args ∧ X w args) ∧ sizedMet enc C.prog fn (OpenSpec.ofChange s) apart w args) (s.post enc C.prog fn apart fresh handsOn again) := by
  refine returnsInHanded_of_calls own started noInit witness ?_
  intro w tape i _ hsh _ hok hpre _
  obtain ⟨_, _, _, fn', hfn', _, _, _, _, hval⟩ := hok
  have e : fn' = fn := Option.some.inj (hfn'.symm.trans hfn)
  subst e
  obtain ⟨⟨⟨ds, gs, before, hw, _⟩, hx⟩, hz⟩ := hpre
  have hw' := DataW.Whole.of_heap (w' := w.forCall tape i) (by rfl) hw
  refine (contract (w.forCall tape i) w.heap.size i.args ds gs before hval hw' (hz.weights hw) (hX _ _ _ (by rfl) hx) hsh).mono fun e W' ⟨v, he, hp⟩ => ?_
  subst he
  exact ChangeSpec.post_blind hp

/-- The laid heap meets the condition. -/
theorem laid_met (os : Os) (args : Array Value) : laidMetH Tryz.prog laidAll ((World.laidAll Tryz.prog os laidAll).forCall (fun _ _ => 0) ⟨#[], args, []⟩).memory := by
  rw [MakeChecks.laidMetH_plain _ _ _ noHandle]
  exact laidMet_laidAll _ (by kernel_rfl) (by kernel_rfl)
theorem laid_shaped (os : Os) : (World.laidAll Tryz.prog os laidAll).Shaped Tryz.prog := World.shaped_of_ZipB (by kernel_rfl) (by kernel_rfl)
end Go.Proofs.YtbdoafigggcdpaaGreatDoor
