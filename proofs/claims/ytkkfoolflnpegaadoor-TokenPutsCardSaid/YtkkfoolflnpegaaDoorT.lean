/- What token.Get answers, as one plain function, and its laws. No condition of ours. -/
import Derived.Test.YtkkfoolflnpegaaDoorG
namespace Go.Proofs.YtkkfoolflnpegaaDoor
set_option linter.unusedVariables false
set_option linter.unusedSimpArgs false
open Go Go.RowKit

/-- the version of a token; 0: it is none -/
def getO (t : List UInt8) : Nat :=
  match Lib.parseUintB 32 (headOf t) with
  | .ok u => if 1 ≤ u ∧ tokL u = t then u else 0
  | _ => 0
/-- the number beside it -/
def getE (u : Nat) : Int := if u = 0 then 160 else 0

theorem tok_iff (u : Nat) (t : ByteArray) : tok u = t ↔ tokL u = t.data.toList := by
  constructor
  · rintro rfl; simp [tok]
  · intro h; apply ba_ext; simpa [tok] using h

theorem get_all (w0 : World) (F : Facts w0) (b : Nat) (hb0 : w0.heap.size ≤ b) (w : World) (hB : Below w0.heap.size w0 w) (hs : Summ w b) (t : ByteArray) (ht : t.size ≤ 1000) :
    Calls Tryd.prog 13 #[.pointer (some ⟨b, 0, none⟩), .string t] w fun e w' => e = .returned (.tuple #[.int .i64 (getO t.data.toList : Nat), .int .i64 (getE (getO t.data.toList))]) ∧ Summ w' b ∧ Keep b w w' := by
  unfold getO
  cases hp : Lib.parseUintB 32 (headOf t.data.toList)
  case ok u =>
    simp only []
    by_cases h1 : 1 ≤ u
    · by_cases he : tokL u = t.data.toList
      · rw [if_pos ⟨h1, he⟩]
        have := get_ok w0 F b hb0 w hB hs t ht u hp h1 ((tok_iff u t).2 he)
        rw [show getE u = 0 from if_neg (by omega)]
        exact this
      · rw [if_neg (fun h => he h.2)]
        exact get_other w0 F b hb0 w hB hs t ht u hp h1 (fun h => he ((tok_iff u t).1 h))
    · rw [if_neg (fun h => h1 h.1)]
      obtain rfl : u = 0 := by omega
      exact get_zero w0 F b hb0 w hB hs t ht hp
  all_goals exact get_bad w0 F b hb0 w hB hs t ht (fun u h => by rw [hp] at h; cases h)

theorem getO_spec {t : List UInt8} (h : getO t ≠ 0) : 1 ≤ getO t ∧ getO t ≤ 4294967295 ∧ tokL (getO t) = t := by
  unfold getO at h ⊢
  cases hp : Lib.parseUintB 32 (headOf t)
  case ok u =>
    rw [hp] at h
    simp only [] at h ⊢
    by_cases hc : 1 ≤ u ∧ tokL u = t
    · rw [if_pos hc]; exact ⟨hc.1, parseB_le _ _ hp, hc.2⟩
    · rw [if_neg hc] at h; exact absurd rfl h
  all_goals (rw [hp] at h; exact absurd rfl h)

theorem digit_rng (u : Nat) : ∀ c ∈ Lib.decDigits u, 48 ≤ c.toNat ∧ c.toNat ≤ 57 := by
  induction u using Nat.strongRecOn with
  | ind u ih =>
    unfold Lib.decDigits
    split
    · intro c hc
      simp only [List.mem_singleton] at hc
      subst hc
      rw [UInt8.toNat_ofNat']; omega
    · intro c hc
      rcases List.mem_append.1 hc with hc | hc
      · exact ih (u / 10) (by omega) c hc
      · simp only [List.mem_singleton] at hc
        subst hc
        rw [UInt8.toNat_ofNat']; omega

theorem parse_snoc (M : Nat) : ∀ (l : List UInt8) (acc u : Nat) (c : UInt8), Lib.parseUintM M acc l = .ok u → Lib.parseUintM M acc (l ++ [c]) = Lib.parseUintM M u [c]
  | [], acc, u, c, h => by
    simp only [Lib.parseUintM, Lib.NumEnd.ok.injEq] at h
    subst h; rfl
  | d :: r, acc, u, c, h => by
    rw [List.cons_append]
    unfold Lib.parseUintM at h ⊢
    split at h
    · rename_i hd
      rw [if_pos hd]
      split at h
      · cases h
      · rename_i h1
        rw [if_neg h1]
        split at h
        · cases h
        · rename_i h2
          rw [if_neg h2]
          exact parse_snoc M r _ u c h
    · cases h

theorem parse_digits (u : Nat) : u ≤ 4294967295 → Lib.parseUintM 4294967295 0 (Lib.decDigits u) = .ok u := by
  induction u using Nat.strongRecOn with
  | ind u ih =>
    intro hu
    unfold Lib.decDigits
    split
    · rename_i h
      have e : (UInt8.ofNat (48 + u)).toNat = 48 + u := by rw [UInt8.toNat_ofNat']; omega
      unfold Lib.parseUintM
      rw [e, if_pos (by omega), if_neg (by omega), if_neg (by omega)]
      unfold Lib.parseUintM
      congr 1; omega
    · rename_i h
      rw [parse_snoc _ _ _ _ _ (ih (u / 10) (by omega) (by omega))]
      have e : (UInt8.ofNat (48 + u % 10)).toNat = 48 + u % 10 := by rw [UInt8.toNat_ofNat']; omega
      unfold Lib.parseUintM
      rw [e, if_pos (by omega), if_neg (by omega), if_neg (by omega)]
      unfold Lib.parseUintM
      congr 1; omega

theorem digits_ne (u : Nat) : Lib.decDigits u ≠ [] := by unfold Lib.decDigits; split <;> simp

theorem index_point (l r : List UInt8) (h : ∀ c ∈ l, c ≠ 46) : Lib.index (l ++ 46 :: r) [46] = (l.length : Nat) := by
  refine Lib.index_first (by simp) (by simp [Lib.occAt]) (fun j hj => ?_)
  cases hb : Lib.occAt (l ++ 46 :: r) [46] j with
  | false => rfl
  | true =>
    have := Lib.occAt_head rfl hb
    rw [List.getElem?_append_left hj] at this
    exact absurd rfl (h 46 (List.mem_of_getElem? this))

theorem head_tok (l r : List UInt8) (h : ∀ c ∈ l, c ≠ 46) : headOf (118 :: l ++ 46 :: r) = l := by
  have e : Lib.trimPrefix (118 :: l ++ 46 :: r) [118] = l ++ 46 :: r := by simp [Lib.trimPrefix, Lib.hasPrefix]
  unfold headOf Lib.cut
  rw [e, index_point l r h, if_pos (by omega)]
  simp

theorem getO_tok (v : Nat) (h1 : 1 ≤ v) (h2 : v ≤ 4294967295) : getO (tokL v) = v := by
  have e : headOf (tokL v) = Lib.decDigits v := head_tok _ _ (fun c hc e => by have := digit_rng v c hc; subst e; simp at this)
  have hp : Lib.parseUintB 32 (Lib.decDigits v) = .ok v := by
    unfold Lib.parseUintB
    rw [if_neg (digits_ne v), show (2 ^ 32 - 1 : Nat) = 4294967295 from by decide]
    exact parse_digits v h2
  unfold getO
  rw [e, hp]
  simp only []
  rw [if_pos ⟨h1, trivial⟩]

theorem tok_inj (a b : Nat) (ha : 1 ≤ a) (ha' : a ≤ 4294967295) (hb : 1 ≤ b) (hb' : b ≤ 4294967295) (h : tokL a = tokL b) : a = b := by
  rw [← getO_tok a ha ha', ← getO_tok b hb hb', h]
theorem tok_size (v : Nat) (h : v ≤ 4294967295) : (tok v).size ≤ 30 := by
  have h1 := digits_len 9 v (by omega)
  have h2 : (mark (crc (headL v))).data.toList.length = 8 := by rw [Array.length_toList]; exact mark_size _
  show (tokL v).toArray.size ≤ 30
  rw [List.size_toArray]
  unfold tokL
  rw [List.length_append, List.length_cons, h2]
  simp only [headL, List.length_cons]
  omega
end Go.Proofs.YtkkfoolflnpegaaDoor
