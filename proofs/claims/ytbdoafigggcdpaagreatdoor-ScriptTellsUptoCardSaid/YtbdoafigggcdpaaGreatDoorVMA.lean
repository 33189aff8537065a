/- What script.parse computes. No condition of ours. -/
import Derived.Test.YtbdoafigggcdpaaGreatDoorVM9
namespace Go.Proofs.YtbdoafigggcdpaaGreatDoor.PScr
open Go.RowKit Go.Proofs.YtbdoafigggcdpaaGreatDoorW.PrintWords Go.Proofs.YtbdoafigggcdpaaGreatDoorW.PrintLast Go.Proofs.YtbdoafigggcdpaaGreatDoorW.PrintMore
set_option linter.unusedVariables false
set_option linter.unusedSimpArgs false

theorem fieldsGoD_ne : ∀ (f : Nat) (cur l : List UInt8), ∀ x ∈ Lib.fieldsGoD f cur l, x ≠ []
  | 0, cur, l => by
    intro x hx
    unfold Lib.fieldsGoD at hx
    split at hx
    · simp at hx
    · simp at hx; subst hx; assumption
  | f + 1, cur, l => by
    intro x hx
    unfold Lib.fieldsGoD at hx
    split at hx
    · split at hx
      · simp at hx
      · simp at hx; subst hx; assumption
    · split at hx
      · rcases List.mem_append.1 hx with h | h
        · split at h
          · simp at h
          · simp at h; subst h; assumption
        · exact fieldsGoD_ne f _ _ x h
      · exact fieldsGoD_ne f _ _ x hx
theorem fieldsGoD_len : ∀ (f : Nat) (cur l : List UInt8), ∀ x ∈ Lib.fieldsGoD f cur l, x.length ≤ cur.length + l.length
  | 0, cur, l => by
    intro x hx
    unfold Lib.fieldsGoD at hx
    split at hx
    · simp at hx
    · simp at hx; subst hx; omega
  | f + 1, cur, l => by
    intro x hx
    unfold Lib.fieldsGoD at hx
    split at hx
    · split at hx
      · simp at hx
      · simp at hx; subst hx; omega
    · split at hx
      · rcases List.mem_append.1 hx with h | h
        · split at h
          · simp at h
          · simp at h; subst h; omega
        · have := fieldsGoD_len f _ _ x h
          simp only [List.length_drop, List.length_nil] at this
          omega
      · have := fieldsGoD_len f _ _ x hx
        simp only [List.length_append, List.length_take, List.length_drop] at this
        omega
theorem fieldsGoD_count : ∀ (f : Nat) (cur l : List UInt8), (Lib.fieldsGoD f cur l).length ≤ f + 1
  | 0, cur, l => by unfold Lib.fieldsGoD; split <;> simp
  | f + 1, cur, l => by
    unfold Lib.fieldsGoD
    split
    · split <;> simp
    · split
      · have := fieldsGoD_count f [] (l.drop (Lib.decodeL l).2)
        rw [List.length_append]
        split <;> simp <;> omega
      · have := fieldsGoD_count f (cur ++ l.take (Lib.decodeL l).2) (l.drop (Lib.decodeL l).2)
        omega

/-- is a word's first byte a sign? -/
def signed (p : ByteArray) : Bool := (p.get! 0).toNat == 43 || (p.get! 0).toNat == 45
/-- the tuple of a text, or none -/
def readOf (q : ByteArray) : S51 :=
  let x := cut1 q ⟨#[64]⟩
  let y := cut2 q ⟨#[64]⟩
  if tupleOk (parseK x) (parseI x) (parseR x) (parseK y) (parseI y) (parseR y) && (tupleText (parseK x) (parseI x) (parseR x) (parseK y) (parseI y) (parseR y)).toList == q.toList then ⟨parseK x, parseI x, parseR x, ⟨parseK y, parseI y, parseR y⟩⟩ else z51
/-- a line's parts while its words are read -/
structure PS where
  xs : List Int
  ts : List S51
  signs : ByteArray
def PS.step (s : PS) (p : ByteArray) : PS := match numOf p with
  | some n => ⟨s.xs ++ [n], s.ts, s.signs⟩
  | none => if signed p then ⟨s.xs, s.ts ++ [readOf (p.extract 1 p.size)], s.signs ++ p.extract 0 1⟩ else ⟨s.xs, s.ts ++ [readOf p], s.signs⟩
/-- the line that a text may be: word, numbers, tuples, signs, text -/
def wordOf (s : ByteArray) : ByteArray := cut1 s ⟨#[32]⟩
def restOf (s : ByteArray) : ByteArray := cut2 s ⟨#[32]⟩
def fieldsOf (s : ByteArray) : List ByteArray := (Lib.fieldsD s.data.toList).map fun x => ⟨x.toArray⟩
def isRules (s : ByteArray) : Bool := (wordOf s).toList == ([114, 117, 108, 101, 115] : List UInt8)
def partsOf (s : ByteArray) : PS := if isRules s then ⟨[], [], ⟨#[]⟩⟩ else (fieldsOf (restOf s)).foldl PS.step ⟨[], [], ⟨#[]⟩⟩
def textOf (s : ByteArray) : ByteArray := if isRules s then restOf s else ⟨#[]⟩
theorem PS.step_len (s : PS) (p : ByteArray) : (s.step p).xs.length ≤ s.xs.length + 1 ∧ (s.step p).ts.length ≤ s.ts.length + 1 ∧ (s.step p).signs.size ≤ s.signs.size + 1 := by
  unfold PS.step
  split
  · simp
  · split
    · refine ⟨by simp, by simp, ?_⟩
      simp only [ByteArray.size_append, ByteArray.size_extract]
      omega
    · simp
end Go.Proofs.YtbdoafigggcdpaaGreatDoor.PScr
