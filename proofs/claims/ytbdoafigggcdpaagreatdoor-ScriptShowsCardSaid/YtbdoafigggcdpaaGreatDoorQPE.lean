/- Lines are the same as themselves; a row of lines behind a row of lines. No condition of ours. -/
import Derived.Test.YtbdoafigggcdpaaGreatDoorQPF
import Derived.Test.YtbdoafigggcdpaaGreatDoorQRG
namespace Go.Proofs.YtbdoafigggcdpaaGreatDoor.PScr
open Go.RowKit Go.Proofs.YtbdoafigggcdpaaGreatDoorW.PrintWords Go.Proofs.YtbdoafigggcdpaaGreatDoorW.PrintLast Go.Proofs.YtbdoafigggcdpaaGreatDoorW.PrintMore
set_option linter.unusedVariables false
set_option linter.unusedSimpArgs false
/-! ### the same lines -/
theorem wrapE (i : Nat) (h : i < 1099511627776) : wrap64 ((i : Int) + 1) = ((i + 1 : Nat) : Int) := by unfold wrap64; omega
theorem same2 (l : List S29) (i : Int) (h : ∃ k, lunetteref20_Same.l0 k l l (wrap64 (i + 1)) = some true) (a : ByteArray) (xs : List Int) (ts : List S51) (sg tx : ByteArray) (hts : ts.length < 1099511627776) : ∀ (d j : Nat), j + d = ts.length → ∃ k, lunetteref20_Same.l2 k l l i (j : Int) a xs ts sg tx a xs ts sg tx = some true
  | 0, j, hj => by
    obtain ⟨k, hk⟩ := h
    refine ⟨k + 1, ?_⟩
    unfold lunetteref20_Same.l2
    rw [if_neg (by omega)]
    exact hk
  | d + 1, j, hj => by
    obtain ⟨k, hk⟩ := same2 l i h a xs ts sg tx hts d (j + 1) (by omega)
    refine ⟨k + 1, ?_⟩
    unfold lunetteref20_Same.l2
    rw [if_pos (by omega), if_pos (by omega), if_pos (by omega), if_neg (by simp), wrapE j (by omega)]
    exact hk
theorem same1 (l : List S29) (i : Int) (h : ∃ k, lunetteref20_Same.l0 k l l (wrap64 (i + 1)) = some true) (a : ByteArray) (xs : List Int) (ts : List S51) (sg tx : ByteArray) (hxs : xs.length < 1099511627776) (hts : ts.length < 1099511627776) : ∀ (d j : Nat), j + d = xs.length → ∃ k, lunetteref20_Same.l1 k l l i (j : Int) a xs ts sg tx a xs ts sg tx = some true
  | 0, j, hj => by
    obtain ⟨k, hk⟩ := same2 l i h a xs ts sg tx hts ts.length 0 (by omega)
    refine ⟨k + 1, ?_⟩
    unfold lunetteref20_Same.l1
    rw [if_neg (by omega)]
    exact hk
  | d + 1, j, hj => by
    obtain ⟨k, hk⟩ := same1 l i h a xs ts sg tx hxs hts d (j + 1) (by omega)
    refine ⟨k + 1, ?_⟩
    unfold lunetteref20_Same.l1
    rw [if_pos (by omega), if_pos (by omega), if_pos (by omega), if_pos rfl, wrapE j (by omega)]
    exact hk
theorem same0 (l : List S29) (hl : l.length < 1099511627776) (hs : ∀ x ∈ l, x.f1.length < 1099511627776 ∧ x.f2.length < 1099511627776) : ∀ (d i : Nat), i + d = l.length → ∃ k, lunetteref20_Same.l0 k l l (i : Int) = some true
  | 0, i, hi => by
    refine ⟨1, ?_⟩
    unfold lunetteref20_Same.l0
    rw [if_neg (by omega)]
  | d + 1, i, hi => by
    have hlt : i < l.length := by omega
    have ih := same0 l hl hs d (i + 1) (by omega)
    rw [← wrapE i (by omega)] at ih
    have hx := hs l[i] (List.getElem_mem hlt)
    have hrd : rd_T29 l (i : Int) = l[i] := by unfold rd_T29; simp [hlt]
    obtain ⟨k, hk⟩ := same1 l (i : Int) ih l[i].f0 l[i].f1 l[i].f2 l[i].f3 l[i].f4 hx.1 hx.2 l[i].f1.length 0 (by omega)
    refine ⟨k + 2, ?_⟩
    unfold lunetteref20_Same.l0
    rw [if_pos (by omega), if_pos (by omega), if_pos (by omega), if_pos rfl, if_pos rfl, if_pos rfl, if_pos rfl, hrd]
    unfold lunetteref20_Same.j1
    rw [if_neg (by simp)]
    exact hk
theorem same_self (l : List S29) (hl : l.length < 1099511627776) (hs : ∀ x ∈ l, x.f1.length < 1099511627776 ∧ x.f2.length < 1099511627776) : ∃ k, lunetteref20_Same.f k l l = some true := by
  obtain ⟨k, hk⟩ := same0 l hl hs l.length 0 (by omega)
  refine ⟨k, ?_⟩
  unfold lunetteref20_Same.f
  rw [if_pos rfl]
  exact hk
theorem same_good (l : List S29) (hl : l.length < 1099511627776) (hs : ∀ x ∈ l, goodL x = true) : ∃ k, lunetteref20_Same.f k l l = some true :=
  same_self l hl fun x hx => by
    obtain ⟨h1, _, h2, _⟩ := good_small (hs x hx)
    exact ⟨by omega, by omega⟩

/-! ### a row of lines behind a row of lines -/
end Go.Proofs.YtbdoafigggcdpaaGreatDoor.PScr
