/- The walk of the reference's long division, bit by bit. No condition of ours. -/
import Derived.Test.YtkkfoolflnpegaaDoorBase
import Derived.Test.YtkkfoolflnpegaaDoorRows
import Derived.Test.YtkkfoolflnpegaaDoorCrc
import Derived.BigRegion
namespace Go.Proofs.YtkkfoolflnpegaaDoor
set_option linter.unusedVariables false
set_option linter.unusedSimpArgs false
open Go Go.RowKit

def bI (b : Bool) : Int := if b then 1 else 0
/-- the bits of a text, the lowest of each byte first; noughts behind -/
def msgBit (s : ByteArray) (j : Nat) : Bool := if h : j / 8 < s.size then (s[j / 8]).toNat.testBit (j % 8) else false
def bitsTo (s : ByteArray) (k : Nat) : List Value := (List.range k).map fun j => Value.int .i64 (bI (msgBit s j))
theorem bitsTo_succ (s : ByteArray) (k : Nat) : bitsTo s (k + 1) = bitsTo s k ++ [Value.int .i64 (bI (msgBit s k))] := by simp [bitsTo, List.range_succ]
theorem bitsTo_length (s : ByteArray) (k : Nat) : (bitsTo s k).length = k := by simp [bitsTo]

theorem info3 : (Tryd.prog.info? 3).map (fun i => (i.zero, i.size, i.bytes)) = some (some (.int .i64 0), 1, 8) := by kernel_rfl

theorem own_block {w : World} {base : Nat} {e : TypeId} {size : Nat} {v : Value} {n : Nat} {xs : List Value} (h : w.ownsRow base e size v n xs) (k : Nat) (hk : v.ownBlock = some k) : base ≤ k ∧ k < w.heap.size := by
  rcases h.2 with ⟨rfl, _⟩ | ⟨g, cap, cur, rfl, hb, hg, _⟩
  · simp [Value.ownBlock] at hk
  · simp only [Value.ownBlock, Option.some.injEq] at hk
    subst hk
    exact ⟨hb, blk_lt hg⟩

theorem bit_val (c m : Nat) : c / 2 ^ m % 2 = if c.testBit m then 1 else 0 := by
  rw [Nat.testBit_eq_decide_div_mod_eq]
  by_cases h : c / 2 ^ m % 2 = 1 <;> simp [h]; omega

theorem i64_low (n : Nat) (hn : n < 256) : bits .and .i64 (n : Int) 1 = ((n % 2 : Nat) : Int) := by
  have : ∀ n : Fin 256, bits .and .i64 (n.val : Int) 1 = ((n.val % 2 : Nat) : Int) := by decide +kernel
  exact this ⟨n, hn⟩
theorem msg_at (s : ByteArray) (k m : Nat) (hk : k < s.size) (hm : m < 8) (c : UInt8) (hc : s[k] = c) : bits BinOp.and IntKind.i64 ((c.toNat : Int) / 2 ^ m) 1 = bI (msgBit s (8 * k + m)) := by
  have hcl : c.toNat < 256 := by have := c.toNat_lt; simpa using this
  have e1 : ((c.toNat : Int) / 2 ^ m) = ((c.toNat / 2 ^ m : Nat) : Int) := by simp
  have e2 : (8 * k + m) / 8 = k := by omega
  have e3 : (8 * k + m) % 8 = m := by omega
  rw [e1, i64_low _ (Nat.lt_of_le_of_lt (Nat.div_le_self _ _) hcl), bit_val]
  unfold msgBit bI
  simp only [e2, e3, hk, dif_pos, hc]
  split <;> rfl
theorem news_one {w : World} {g : Nat} {x : Value} {t : TypeId} (h : w.heap[g]? = some (.cells #[x] t (0, 0))) : ∀ j u, [x][j]? = some u → w.cell? ((⟨g, 0, none⟩ : Addr).add j) = some u := by
  intro j u hj
  match j, hj with
  | 0, hj => simp at hj; subst hj; simp only [Addr.add]; simp only [if_true]; rw [blk_cell h]; rfl

/-- block g has the bits f, N of them, at its head -/
def Row (w : World) (g N : Nat) (f : Nat → Bool) : Prop := ∃ cur : Array Value, w.heap[g]? = some (.cells cur 3 (0, 0)) ∧ ∀ j, j < N → cur[j]? = some (.int .i64 (bI (f j)))
theorem Row.cell {w : World} {g N : Nat} {f : Nat → Bool} (h : Row w g N f) (j : Nat) (hj : j < N) : w.cell? ⟨g, j, none⟩ = some (.int .i64 (bI (f j))) := by
  obtain ⟨cur, hg, hc⟩ := h
  rw [blk_cell hg]; exact hc j hj
theorem Row.frozen {w : World} {g N : Nat} {f : Nat → Bool} (h : Row w g N f) (j : Nat) : w.frozen? ⟨g, j, none⟩ = false := by
  obtain ⟨cur, hg, hc⟩ := h
  exact blk_frozen hg j
theorem Row.set {w : World} {g N : Nat} {f f' : Nat → Bool} (h : Row w g N f) (q : Nat) (hq : q < N) (b : Bool) (hf : ∀ j, f' j = if j = q then b else f j) : Row (w.setCell ⟨g, q, none⟩ (.int .i64 (bI b))) g N f' := by
  obtain ⟨cur, hg, hc⟩ := h
  refine ⟨_, blk_set hg q _, fun j hj => ?_⟩
  rw [Array.getElem?_setIfInBounds, hf j]
  have hl : q < cur.size := by have := hc q hq; exact (Array.getElem?_eq_some_iff.1 this).1
  by_cases e : q = j
  · subst e; simp [hl]
  · rw [if_neg e, if_neg (fun h => e h.symm)]; exact hc j hj
theorem Row.lt {w : World} {g N : Nat} {f : Nat → Bool} (h : Row w g N f) : g < w.heap.size := by
  obtain ⟨cur, hg, hc⟩ := h
  exact blk_lt hg
theorem Row.alloc {w : World} {g N : Nat} {f : Nat → Bool} (h : Row w g N f) (o : Obj) : Row (w.alloc o) g N f := by
  obtain ⟨cur, hg, hc⟩ := h
  exact ⟨cur, blk_alloc hg o, hc⟩
theorem Row.drew {w : World} {g N : Nat} {f : Nat → Bool} (h : Row w g N f) : Row w.drew g N f := h
theorem row_of_own {w : World} {base N : Nat} {v : Value} (s : ByteArray) (hN : 0 < N) (h : w.ownsRow base 3 1 v N (bitsTo s N)) : ∃ g cap, v = .slice (some ⟨g, 0, none⟩) N cap ∧ base ≤ g ∧ Row w g N (msgBit s) := by
  rcases h.2 with ⟨_, h0⟩ | ⟨g, cap, cur, rfl, hb, hg, hn, hc, hsz, htk⟩
  · omega
  · refine ⟨g, cap, rfl, hb, cur, hg, fun j hj => ?_⟩
    have : (cur.toList.take (N * 1))[j]? = (bitsTo s N)[j]? := by rw [htk]
    rw [List.getElem?_take_of_lt (by omega)] at this
    rw [← Array.getElem?_toList, this]
    simp [bitsTo, hj]
/-- the first k bits turned -/
def headT (s : ByteArray) (k j : Nat) : Bool := if j < k then !msgBit s j else msgBit s j
def powL : List Nat := [32, 26, 23, 22, 16, 12, 11, 10, 8, 7, 5, 4, 2, 1, 0]
def powA : Array Value := (powL.map fun p => Value.int .i64 (p : Nat)).toArray
/-- the divisor's first k powers taken away at i -/
def flipTo (i : Nat) (f : Nat → Bool) : Nat → Nat → Bool
  | 0 => f
  | k + 1 => fun j => if j = i + 32 - powL.getD k 0 then !(flipTo i f k j) else flipTo i f k j
/-- the division's first i steps -/
def divTo (f : Nat → Bool) : Nat → Nat → Bool
  | 0 => f
  | i + 1 => if divTo f i i then flipTo i (divTo f i) 15 else divTo f i
/-- the rest's number, from the highest bit down: k bits -/
def restN (f : Nat → Bool) (n : Nat) : Nat → Nat
  | 0 => 0
  | k + 1 => 2 * restN f n k + (if f (n + (31 - k)) then 0 else 1)
/-- the reference's answer -/
def refCrc (s : ByteArray) : Nat := restN (divTo (headT s 32) (8 * s.size)) (8 * s.size) 32

theorem powA_at (k : Nat) (hk : k < 15) : powA[k]? = some (.int .i64 (powL.getD k 0 : Nat)) := by
  have : k < powL.length := hk
  simp [powA, List.getD, this]
theorem powL_le (k : Nat) : powL.getD k 0 ≤ 32 := by
  by_cases hk : k < 15
  · have : ∀ k : Fin 15, powL.getD k.val 0 ≤ 32 := by decide
    exact this ⟨k, hk⟩
  · have : powL[k]? = none := List.getElem?_eq_none (by simp [powL]; omega)
    simp [List.getD, this]
theorem bI_not (b : Bool) : 1 - bI b = bI (!b) := by cases b <;> rfl
theorem restN_lt (f : Nat → Bool) (n : Nat) : ∀ k, restN f n k < 2 ^ k
  | 0 => by simp [restN]
  | k + 1 => by
    have := restN_lt f n k
    simp only [restN, Nat.pow_succ]
    split <;> omega

set_option maxRecDepth 100000 in
set_option maxHeartbeats 1600000 in
theorem rof_any (s : ByteArray) (hs : s.size ≤ 1000) (w : World) :
    Calls Tryd.prog 22 #[.string s] w fun e w' => e = .returned (.int .u32 (refCrc s : Nat)) ∧ Below w.heap.size w w' := by
  obtain ⟨i0, hi, hz0, hz1, hz2⟩ := info_parts info3
  go_enter Tryd.func22, Tryd.ntmps22
  go_wp2
  go_loopw [3, 4] (fun v i wr => ∃ k : Nat, k ≤ s.size ∧ i = .int .i64 k ∧ wr.ownsRow w.heap.size 3 1 v (8 * k) (bitsTo s (8 * k)) ∧ Below w.heap.size w wr) (fun _ i _ => s.size - (intOf i).toNat)
  case atStart => exact ⟨0, by omega, rfl, ⟨rfl, .inr ⟨w.heap.size, 0, #[], rfl, Nat.le_refl _, blk_new _ _, by omega, by simp [maxLen], rfl, rfl⟩⟩, below_new (Below.refl _ _) _⟩
  case round =>
    obtain ⟨k, hk, rfl, hown, hb⟩ := hrel
    by_cases hlt : k < s.size
    · have HB := Lib.hid hb; clear hb
      have HO := Lib.hid hown; clear hown
      go_wp2
      go_loopw [3, 5] (fun v i wr => ∃ m : Nat, m ≤ 8 ∧ i = .int .i64 m ∧ wr.ownsRow w.heap.size 3 1 v (8 * k + m) (bitsTo s (8 * k + m)) ∧ Below w.heap.size w wr) (fun _ i _ => 8 - (intOf i).toNat)
      case atStart => exact ⟨0, by omega, rfl, HO.out, HB.out⟩
      case round =>
        obtain ⟨m, hm, rfl, hown, hb⟩ := hrel
        have HB := Lib.hid hb; clear hb
        have HO := Lib.hid hown; clear hown
        by_cases hlt2 : m < 8
        · obtain ⟨c, hc⟩ : ∃ c : UInt8, s[k] = c := ⟨_, rfl⟩
          have hcl : c.toNat < 256 := by have := c.toNat_lt; simpa using this
          have e1 := msg_at s k m hlt hlt2 c hc
          obtain ⟨y, hy⟩ : ∃ y, bI (msgBit s (8 * k + m)) = y := ⟨_, rfl⟩
          rw [hy] at e1
          have HY := Lib.hid hy; clear hy
          go_wp2_with (first
            | (at_builtin; refine wpList_append_own _ rfl _ _ 71 rfl w.heap.size 3 i0 (.int .i64 0) 1 8 Tryd.underlying71 hi hz0 hz1 hz2 rfl (by decide) _ _ _ rfl (HO.out.alloc _) ⟨wr.heap.size, 0, none⟩ 1 1 [.int .i64 y] rfl rfl (news_one (blk_new _ _)) ?c2 ?c3 ?c4 ?c5 ?_))
          case c2 => intro u hu; simp at hu; subst hu; rfl
          case c3 => unfold maxLen; omega
          case c4 => omega
          case c5 => rw [size_alloc]; have := HB.out.size; omega
          intro v' w1 hown' hgrow _
          have hb1 := (HB.out.alloc HB.out.size _).grown hgrow (by rw [size_alloc]; have := HB.out.size; omega) (fun q hq => (own_block HO.out q hq).1)
          have HO1 := Lib.hid hown'; clear hown'
          have HB1 := Lib.hid hb1; clear hb1 hgrow
          go_wp2
          exact ⟨⟨m + 1, by omega, by go_num, by rw [← Nat.add_assoc, bitsTo_succ, HY.out]; exact HO1.out, HB1.out⟩, by simp [intOf]; omega⟩
        · obtain rfl : m = 8 := by omega
          go_wp2
          exact ⟨⟨k + 1, by omega, by go_num, by rw [show 8 * (k + 1) = 8 * k + 8 by omega]; exact HO.out, HB.out⟩, by simp [intOf]; omega⟩
    · obtain rfl : k = s.size := by omega
      have HB := Lib.hid hb; clear hb
      have HO := Lib.hid hown; clear hown
      go_wp2
      go_loopw [3, 6] (fun v i wr => ∃ m : Nat, m ≤ 32 ∧ i = .int .i64 m ∧ wr.ownsRow w.heap.size 3 1 v (8 * s.size + m) (bitsTo s (8 * s.size + m)) ∧ Below w.heap.size w wr) (fun _ i _ => 32 - (intOf i).toNat)
      case atStart => exact ⟨0, by omega, rfl, HO.out, HB.out⟩
      case round =>
        obtain ⟨m, hm, rfl, hown, hb⟩ := hrel
        have HB := Lib.hid hb; clear hb
        have HO := Lib.hid hown; clear hown
        by_cases hlt2 : m < 32
        · have hy : (0 : Int) = bI (msgBit s (8 * s.size + m)) := by unfold msgBit; rw [dif_neg (by omega)]; rfl
          have HY := Lib.hid hy; clear hy
          go_wp2_with (first
            | (at_builtin; refine wpList_append_own _ rfl _ _ 71 rfl w.heap.size 3 i0 (.int .i64 0) 1 8 Tryd.underlying71 hi hz0 hz1 hz2 rfl (by decide) _ _ _ rfl (HO.out.alloc _) ⟨wr.heap.size, 0, none⟩ 1 1 [.int .i64 0] rfl rfl (news_one (blk_new _ _)) ?c2 ?c3 ?c4 ?c5 ?_))
          case c2 => intro u hu; simp at hu; subst hu; rfl
          case c3 => unfold maxLen; omega
          case c4 => omega
          case c5 => rw [size_alloc]; have := HB.out.size; omega
          intro v' w1 hown' hgrow _
          have hb1 := (HB.out.alloc HB.out.size _).grown hgrow (by rw [size_alloc]; have := HB.out.size; omega) (fun q hq => (own_block HO.out q hq).1)
          have HO1 := Lib.hid hown'; clear hown'
          have HB1 := Lib.hid hb1; clear hb1 hgrow
          go_wp2
          exact ⟨⟨m + 1, by omega, by go_num, by rw [← Nat.add_assoc, bitsTo_succ, ← HY.out]; exact HO1.out, HB1.out⟩, by simp [intOf]; omega⟩
        · obtain rfl : m = 32 := by omega
          obtain ⟨g, cap, rfl, hgb, hrow⟩ := row_of_own s (by omega) HO.out
          clear HO
          have HR := Lib.hid hrow; clear hrow
          have HGB := Lib.hid hgb; clear hgb
          obtain ⟨N, hN⟩ : ∃ N, 8 * s.size = N := ⟨_, rfl⟩
          rw [hN] at HR ⊢
          have hNl : N ≤ 8000 := by omega
          have HN := Lib.hid hN; clear hN
          go_wp2
          go_loopw [8] (fun i wr => ∃ k : Nat, k ≤ 32 ∧ i = .int .i64 k ∧ Row wr g (N + 32) (headT s k) ∧ Below w.heap.size w wr) (fun i _ => 32 - (intOf i).toNat)
          case atStart => exact ⟨0, by omega, rfl, by have := HR.out; exact this, HB.out⟩
          case round =>
            clear HB HR
            obtain ⟨k, hk, rfl, hrow, hb⟩ := hrel
            have HB := Lib.hid hb; clear hb
            by_cases hlt3 : k < 32
            · have hc := hrow.cell k (by omega)
              have hf := hrow.frozen k
              have hnot := bI_not (headT s k k)
              have hset := hrow.set k (by omega) (!headT s k k) (f' := headT s (k + 1)) (fun j => by
                unfold headT
                by_cases e : j = k
                · subst e; simp
                · rw [if_neg e]
                  by_cases h : j < k
                  · rw [if_pos h, if_pos (by omega)]
                  · rw [if_neg h, if_neg (by omega)])
              obtain ⟨y, hy⟩ : ∃ y, bI (headT s k k) = y := ⟨_, rfl⟩
              obtain ⟨z, hz⟩ : ∃ z, bI (!headT s k k) = z := ⟨_, rfl⟩
              rw [hy] at hc hnot
              rw [hz] at hset hnot
              have hyb : 0 ≤ y ∧ y ≤ 1 := by rw [← hy]; unfold bI; split <;> omega
              have HS := Lib.hid hset; clear hset hrow hy hz
              go_wp2
              exact ⟨⟨k + 1, by omega, by go_num, HS.out, HB.out.setCell HGB.out _⟩, by simp [intOf]; omega⟩
            · obtain rfl : k = 32 := by omega
              have HR := Lib.hid hrow; clear hrow
              have hgP : g ≠ wr.heap.size := by have := HR.out.lt; omega
              have hPb : w.heap.size ≤ wr.heap.size := HB.out.size
              obtain ⟨P, hP⟩ : ∃ P, wr.heap.size = P := ⟨_, rfl⟩
              go_wp2
              rw [hP] at hgP hPb
              go_loopw [10] (fun i wq => ∃ k : Nat, k ≤ N ∧ i = .int .i64 k ∧ Row wq g (N + 32) (divTo (headT s 32) k) ∧ wq.heap[P]? = some (.cells powA 3 (0, 0)) ∧ Below w.heap.size w wq) (fun i _ => N - (intOf i).toNat)
              case atStart => exact ⟨0, by omega, rfl, HR.out.alloc _, by rw [← hP]; exact blk_new _ _, HB.out.alloc HB.out.size _⟩
              case round =>
                clear HB HR hP
                obtain ⟨k, hk, rfl, hrow, hpow, hb⟩ := hrel
                have HB := Lib.hid hb; clear hb
                have HP := Lib.hid hpow; clear hpow
                by_cases hlt4 : k < N
                · have hc := hrow.cell k (by omega)
                  have HR := Lib.hid hrow; clear hrow
                  by_cases hbit : divTo (headT s 32) k k = true
                  · have hdiv : divTo (headT s 32) (k + 1) = flipTo k (divTo (headT s 32) k) 15 := by show (if divTo (headT s 32) k k = true then _ else _) = _; rw [if_pos hbit]
                    rw [hbit] at hc
                    have HD := Lib.hid hdiv; clear hdiv hbit
                    have hc' : wr.cell? ⟨g, k, none⟩ = some (.int .i64 1) := hc
                    clear hc
                    obtain ⟨f, hfe⟩ : ∃ f, divTo (headT s 32) k = f := ⟨_, rfl⟩
                    rw [hfe] at HR HD
                    clear hfe
                    go_wp2
                    go_loopw [11] (fun i wq => ∃ m : Nat, m ≤ 15 ∧ i = .int .i64 m ∧ Row wq g (N + 32) (flipTo k f m) ∧ wq.heap[P]? = some (.cells powA 3 (0, 0)) ∧ Below w.heap.size w wq) (fun i _ => 15 - (intOf i).toNat)
                    case atStart => exact ⟨0, by omega, rfl, HR.out, HP.out, HB.out⟩
                    case round =>
                      clear hc' HR HP HB
                      obtain ⟨m, hm, rfl, hrow, hpow, hb⟩ := hrel
                      have HB := Lib.hid hb; clear hb
                      by_cases hlt5 : m < 15
                      · have hcp : wr.cell? ⟨P, m, none⟩ = some (.int .i64 (powL.getD m 0 : Nat)) := by rw [blk_cell hpow]; exact powA_at m hlt5
                        have HP := Lib.hid hpow; clear hpow
                        have hple := powL_le m
                        have hfl : flipTo k f (m + 1) = fun j => if j = k + 32 - powL.getD m 0 then !(flipTo k f m j) else flipTo k f m j := rfl
                        obtain ⟨p, hp⟩ : ∃ p, powL.getD m 0 = p := ⟨_, rfl⟩
                        rw [hp] at hcp hple hfl
                        clear hp
                        obtain ⟨q, hq⟩ : ∃ q, k + 32 - p = q := ⟨_, rfl⟩
                        rw [hq] at hfl
                        have hqN : q < N + 32 := by omega
                        have hqe : ((k : Int) + 32 - (p : Int)) = (q : Int) := by omega
                        clear hq
                        have hcq := hrow.cell q hqN
                        have hfq := hrow.frozen q
                        have hnot := bI_not (flipTo k f m q)
                        have hset := hrow.set q hqN (!flipTo k f m q) (f' := flipTo k f (m + 1)) (fun j => by
                          rw [hfl]
                          show (if j = q then !(flipTo k f m j) else _) = _
                          by_cases e : j = q
                          · subst e; rfl
                          · rw [if_neg e, if_neg e])
                        obtain ⟨y, hy⟩ : ∃ y, bI (flipTo k f m q) = y := ⟨_, rfl⟩
                        obtain ⟨z, hz⟩ : ∃ z, bI (!flipTo k f m q) = z := ⟨_, rfl⟩
                        rw [hy] at hcq hnot
                        rw [hz] at hset hnot
                        have hyb : 0 ≤ y ∧ y ≤ 1 := by rw [← hy]; unfold bI; split <;> omega
                        have HS := Lib.hid hset; clear hset hrow hy hz
                        have HFL := Lib.hid hfl; clear hfl
                        have HPF : Hid (g ≠ P) := hgP
                        have hPf : wr.heap[P]? = some (.cells powA 3 (0, 0)) := HP.out
                        clear hPf
                        go_wp2
                        go_region
                        all_goals go_wp2
                        all_goals exact ⟨⟨m + 1, by omega, by go_num, HS.out, by exact blk_far HP.out (fun h => HPF.out h.symm) _, by exact (HB.out.setCell HGB.out _).drew⟩, by simp [intOf]; omega⟩
                      · obtain rfl : m = 15 := by omega
                        have HR := Lib.hid hrow; clear hrow
                        have HP := Lib.hid hpow; clear hpow
                        go_wp2
                        exact ⟨⟨k + 1, by omega, by go_num, by rw [HD.out]; exact HR.out, HP.out, HB.out⟩, by simp [intOf]; omega⟩
                  · have hbit' : divTo (headT s 32) k k = false := by simpa using hbit
                    have hdiv : divTo (headT s 32) (k + 1) = divTo (headT s 32) k := by show (if divTo (headT s 32) k k = true then _ else _) = _; rw [if_neg hbit]
                    rw [hbit'] at hc
                    have hc' : wr.cell? ⟨g, k, none⟩ = some (.int .i64 0) := hc
                    have HD := Lib.hid hdiv; clear hdiv hbit hbit' hc
                    go_wp2
                    exact ⟨⟨k + 1, by omega, by go_num, by rw [HD.out]; exact HR.out, HP.out, HB.out⟩, by simp [intOf]; omega⟩
                · obtain rfl : k = N := by omega
                  have HR := Lib.hid hrow; clear hrow
                  have hrow := HR.out
                  obtain ⟨f, hfe⟩ : ∃ f, divTo (headT s 32) k = f := ⟨_, rfl⟩
                  rw [hfe] at hrow
                  have HF := Lib.hid hfe; clear hfe HR
                  have HR := Lib.hid hrow; clear hrow
                  go_wp2
                  go_loop [12, 13] (fun v i => ∃ n : Nat, n ≤ 32 ∧ i = .int .i64 (31 - (n : Int)) ∧ v = .int .u32 (restN f k n : Nat)) (fun _ i => (intOf i + 1).toNat)
                  case atStart => exact ⟨0, by omega, rfl, rfl⟩
                  case round =>
                    obtain ⟨n, hn, rfl, rfl⟩ := hrel
                    by_cases hlt6 : n < 32
                    · have hlr := restN_lt f k n
                      have hle : restN f k n < 2147483648 := Nat.lt_of_lt_of_le hlr (by have := Nat.pow_le_pow_right (n := 2) (by omega) (show n ≤ 31 by omega); simpa using this)
                      clear hlr
                      obtain ⟨q, hq⟩ : ∃ q, 31 - n = q := ⟨_, rfl⟩
                      have hqe : (31 - (n : Int)) = (q : Int) := by omega
                      have hst : restN f k (n + 1) = 2 * restN f k n + (if f (k + q) then 0 else 1) := by rw [← hq]; rfl
                      have hc := HR.out.cell (k + q) (by omega)
                      have hnot := bI_not (f (k + q))
                      have hz : bI (!f (k + q)) = (((if f (k + q) then 0 else 1 : Nat)) : Int) := by cases f (k + q) <;> rfl
                      obtain ⟨y, hy⟩ : ∃ y, bI (f (k + q)) = y := ⟨_, rfl⟩
                      obtain ⟨z, hzz⟩ : ∃ z : Nat, (if f (k + q) then 0 else 1) = z := ⟨_, rfl⟩
                      have hz1 : z ≤ 1 := by rw [← hzz]; split <;> omega
                      rw [hzz] at hz hst
                      rw [hz] at hnot
                      rw [hy] at hc hnot
                      obtain ⟨r, hr⟩ : ∃ r, restN f k n = r := ⟨_, rfl⟩
                      rw [hr] at hle hst ⊢
                      have hyb : 0 ≤ y ∧ y ≤ 1 := by rw [← hy]; unfold bI; split <;> omega
                      have HST := Lib.hid hst; clear hst hy hzz hz hr
                      have hqn : q + n = 31 := by omega
                      have HQN := Lib.hid hqn; clear hq
                      rw [hqe]
                      have hql : q ≤ 31 := by omega
                      clear hqe hqn hlt6 hn
                      go_wp2
                      have hqn := HQN.out
                      exact ⟨⟨n + 1, by omega, congrArg _ (by omega), congrArg _ (by rw [HST.out]; omega)⟩, by simp [intOf]⟩
                    · obtain rfl : n = 32 := by omega
                      go_wp2
                      go_ret
                      refine ⟨?_, HB.out⟩
                      have hfin : refCrc s = restN f k 32 := by unfold refCrc; rw [HN.out, HF.out]
                      rw [hfin]; rfl
end Go.Proofs.YtkkfoolflnpegaaDoor
