/- The walks of the document's answer: a line's text, lines' text. No condition of ours. -/
import Derived.Test.YtbdoafigggcdpaaGreatDoorVPD
import Derived.Test.YtbdoafigggcdpaaGreatDoorVRE
namespace Go.Proofs.YtbdoafigggcdpaaGreatDoor.PScr
open Go.RowKit Go.Proofs.YtbdoafigggcdpaaGreatDoorW.PrintWords Go.Proofs.YtbdoafigggcdpaaGreatDoorW.PrintLast Go.Proofs.YtbdoafigggcdpaaGreatDoorW.PrintMore
set_option linter.unusedVariables false
set_option linter.unusedSimpArgs false

/-! ### digits -/
def restDig (v : Nat) : List UInt8 := if v = 0 then [] else Lib.decDigits v
theorem restDig_step (v : Nat) (h : 0 < v) : restDig v = restDig (v / 10) ++ [UInt8.ofNat (48 + v % 10)] := by
  unfold restDig
  rw [if_neg (by omega), Lib.decDigits]
  split
  · rename_i h1
    have e : v / 10 = 0 := by omega
    have e2 : v % 10 = v := by omega
    rw [e, if_pos rfl, e2]
    rfl
  · rename_i h1
    rw [if_neg (by omega)]
/-! ### words, one behind the other -/
def glue (v : ByteArray) (us : List ByteArray) : ByteArray := us.foldl (fun s u => s ++ (⟨#[32]⟩ ++ u)) v
theorem glue_snoc (v : ByteArray) (us : List ByteArray) (u : ByteArray) : glue v (us ++ [u]) = glue v us ++ (⟨#[32]⟩ ++ u) := by unfold glue; rw [List.foldl_append]; rfl
theorem glue_joined : ∀ (us : List ByteArray) (v : ByteArray), glue v us = joined (v :: us)
  | [], v => ba_ext (by rw [join_cons, if_pos rfl]; rfl)
  | u :: us, v => by
    have e : glue v (u :: us) = glue (v ++ (⟨#[32]⟩ ++ u)) us := rfl
    rw [e, glue_joined us]
    refine ba_ext ?_
    have e1 := join_cons v (u :: us)
    rw [if_neg (by simp)] at e1
    rw [join_cons, e1, join_cons u]
    split <;> simp [ByteArray.data_append]
/-- what the words of a good line say of its parts -/
structure Parts (x : S29) : Prop where
  up : x.f0.toList = ([117, 112, 100, 97, 116, 101] : List UInt8) → x.f3.size = x.f2.length
  nup : x.f0.toList ≠ ([117, 112, 100, 97, 116, 101] : List UInt8) → x.f3.toList = []
  ru : x.f0.toList = ([114, 117, 108, 101, 115] : List UInt8) → x.f4.toList ≠ []
  nru : x.f0.toList ≠ ([114, 117, 108, 101, 115] : List UInt8) → x.f4.toList = []
/-! ### lines' text -/
end Go.Proofs.YtbdoafigggcdpaaGreatDoor.PScr
