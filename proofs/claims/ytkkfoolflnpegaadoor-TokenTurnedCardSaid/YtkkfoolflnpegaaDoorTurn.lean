/- The plain law: a token of which one letter is another one is none. No condition of ours. -/
import Derived.Test.YtkkfoolflnpegaaDoorT
import Derived.Test.YtkkfoolflnpegaaDoorLA
namespace Go.Proofs.YtkkfoolflnpegaaDoor
set_option linter.unusedVariables false
set_option linter.unusedSimpArgs false
open Go Go.RowKit

theorem tab_nodup : ((List.range 256).map fun i => tabOf i / 16777216).Nodup := by decide +kernel
theorem tab_inj (i j : Nat) (hi : i < 256) (hj : j < 256) (h : tabOf i / 16777216 = tabOf j / 16777216) : i = j := by
  have hn := tab_nodup
  rw [List.Nodup, List.pairwise_iff_getElem] at hn
  rcases Nat.lt_trichotomy i j with hlt | he | hgt
  · have := hn i j (by simpa using hi) (by simpa using hj) hlt
    simp only [List.getElem_map, List.getElem_range] at this
    exact absurd h this
  · exact he
  · have := hn j i (by simpa using hj) (by simpa using hi) hgt
    simp only [List.getElem_map, List.getElem_range] at this
    exact absurd h.symm this

theorem xor_cl {a b c : Nat} (h : a ^^^ b = a ^^^ c) : b = c := by
  have := congrArg (a ^^^ ·) h
  simpa [← Nat.xor_assoc] using this
theorem xor_cr {a b c : Nat} (h : b ^^^ a = c ^^^ a) : b = c := by
  rw [Nat.xor_comm b a, Nat.xor_comm c a] at h
  exact xor_cl h

theorem feed_top (v c : Nat) (hv : v < 4294967296) : feed v c / 16777216 = tabOf ((v % 256) ^^^ c) / 16777216 := by
  unfold feed
  have e : (16777216 : Nat) = 2 ^ 24 := by decide
  rw [e, ← Nat.shiftRight_eq_div_pow, ← Nat.shiftRight_eq_div_pow, Nat.shiftRight_xor_distrib, Nat.shiftRight_eq_div_pow (v / 256), Nat.div_eq_of_lt (by omega), Nat.zero_xor]

theorem feed_inj (v v' c : Nat) (hv : v < 4294967296) (hv' : v' < 4294967296) (hc : c < 256) (h : feed v c = feed v' c) : v = v' := by
  have h1 := feed_top v c hv
  have h2 := feed_top v' c hv'
  rw [h, h2] at h1
  have hx : (v % 256) ^^^ c < 256 := Nat.xor_lt_two_pow (n := 8) (by omega) hc
  have hx' : (v' % 256) ^^^ c < 256 := Nat.xor_lt_two_pow (n := 8) (by omega) hc
  have he := tab_inj _ _ hx' hx h1
  have hlow : v' % 256 = v % 256 := xor_cr he
  unfold feed at h
  rw [hlow] at h
  have hhigh : v / 256 = v' / 256 := xor_cr h
  omega

theorem feed_byte (v c c' : Nat) (hc : c < 256) (hc' : c' < 256) (h : feed v c = feed v c') : c = c' := by
  unfold feed at h
  have h1 := xor_cl h
  have hx : (v % 256) ^^^ c < 256 := Nat.xor_lt_two_pow (n := 8) (by omega) hc
  have hx' : (v % 256) ^^^ c' < 256 := Nat.xor_lt_two_pow (n := 8) (by omega) hc'
  exact xor_cl (tab_inj _ _ hx hx' (by rw [h1]))

theorem run_inj (r : List UInt8) : ∀ (v v' : Nat), v < 4294967296 → v' < 4294967296 → crcRun v r = crcRun v' r → v = v' := by
  induction r with
  | nil => intro v v' _ _ h; exact h
  | cons b r ih =>
    intro v v' hv hv' h
    have hb : b.toNat < 256 := by have := b.toNat_lt; simpa using this
    exact feed_inj v v' b.toNat hv hv' hb (ih _ _ (feed_lt hv hb) (feed_lt hv' hb) h)

theorem run_set (l : List UInt8) : ∀ (v i : Nat) (b : UInt8) (hi : i < l.length), v < 4294967296 → crcRun v (l.set i b) = crcRun v l → b = l[i] := by
  induction l with
  | nil => intro v i b hi _ _; simp at hi
  | cons c l ih =>
    intro v i b hi hv h
    cases i with
    | zero =>
      have hb : b.toNat < 256 := by have := b.toNat_lt; simpa using this
      have hc : c.toNat < 256 := by have := c.toNat_lt; simpa using this
      simp only [List.set_cons_zero] at h
      have := run_inj l _ _ (feed_lt hv hb) (feed_lt hv hc) h
      exact UInt8.toNat_inj.1 (feed_byte v _ _ hb hc this)
    | succ i =>
      have hc : c.toNat < 256 := by have := c.toNat_lt; simpa using this
      simp only [List.set_cons_succ] at h
      exact ih _ i b (by simpa using hi) (feed_lt hv hc) h

theorem crc_set (l : List UInt8) (i : Nat) (b : UInt8) (hi : i < l.length) (h : crc (l.set i b) = crc l) : b = l[i] := by
  unfold crc at h
  have h1 := crcRun_lt (l.set i b) (v := 4294967295) (by omega)
  have h2 := crcRun_lt l (v := 4294967295) (by omega)
  exact run_set l 4294967295 i b hi (by omega) (by omega)

theorem tokL_length (v : Nat) : (tokL v).length = (headL v).length + 9 := by
  have h2 : (mark (crc (headL v))).data.toList.length = 8 := by rw [Array.length_toList]; exact mark_size _
  unfold tokL
  rw [List.length_append, List.length_cons, h2]

theorem turned_none (v i : Nat) (b : UInt8) (hi : i < (tokL v).length) (hb : b ≠ (tokL v)[i]) : getO ((tokL v).set i b) = 0 := by
  apply Classical.byContradiction
  intro hne
  obtain ⟨_, hu, ht⟩ := getO_spec hne
  obtain ⟨u, hue⟩ : ∃ u, getO ((tokL v).set i b) = u := ⟨_, rfl⟩
  rw [hue] at ht hu
  have hlen : (headL u).length = (headL v).length := by
    have := congrArg List.length ht
    rw [tokL_length, List.length_set, tokL_length] at this
    omega
  have htake : headL u = ((tokL v).set i b).take (headL v).length := by
    rw [← ht]
    unfold tokL
    rw [List.take_append_of_le_length (by omega), List.take_of_length_le (by omega)]
  by_cases hin : i < (headL v).length
  · have hset : (tokL v).set i b = (headL v).set i b ++ 46 :: (mark (crc (headL v))).data.toList := by
      unfold tokL; rw [List.set_append_left _ _ hin]
    have hhead : headL u = (headL v).set i b := by
      rw [htake, hset, List.take_append_of_le_length (by simp), List.take_of_length_le (by simp)]
    rw [hset] at ht
    unfold tokL at ht
    rw [hhead] at ht
    have hm := List.append_cancel_left ht
    simp only [List.cons.injEq, true_and] at hm
    have hcrc := told_inj _ _ (crc_lt _) (crc_lt _) (ba_ext hm)
    have := crc_set (headL v) i b hin hcrc
    apply hb
    rw [this]
    have e : (tokL v)[i]? = (headL v)[i]? := by unfold tokL; rw [List.getElem?_append_left hin]
    rw [List.getElem?_eq_getElem hi, List.getElem?_eq_getElem hin] at e
    exact (Option.some.inj e).symm
  · have hhead : headL u = headL v := by
      rw [htake, List.take_set_of_le (by omega)]
      unfold tokL
      rw [List.take_append_of_le_length (by omega), List.take_of_length_le (by omega)]
    have : tokL u = tokL v := by unfold tokL; rw [hhead]
    rw [this] at ht
    apply hb
    have h1 : ((tokL v).set i b)[i]'(by simpa using hi) = (tokL v)[i] := by
      have := congrArg (fun l : List UInt8 => l[i]?) ht
      simp only [List.getElem?_eq_getElem hi, List.getElem?_eq_getElem (show i < ((tokL v).set i b).length by simpa using hi), Option.some.injEq] at this
      exact this.symm
    simpa using h1
end Go.Proofs.YtkkfoolflnpegaaDoor
