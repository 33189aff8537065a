/- The walks of expand.Size and what it calls. No condition of ours. -/
import Derived.Test.YtbdoafigggcdpaaGreatDoorVM9
import Derived.Test.YtbdoafigggcdpaaGreatDoorVTT
import Derived.Deep.RegionHeld3
import Derived.Lib.SliceRun
namespace Go.Proofs.YtbdoafigggcdpaaGreatDoor.PScr
open Go.RowKit Go.Proofs.YtbdoafigggcdpaaGreatDoorW.PrintWords Go.Proofs.YtbdoafigggcdpaaGreatDoorW.PrintLast Go.Proofs.YtbdoafigggcdpaaGreatDoorW.PrintMore
set_option linter.unusedVariables false
set_option linter.unusedSimpArgs false

/-- a tree of few parts, not too deep -/
def FewT : Nat → S44 → Prop
  | 0, _ => False
  | d + 1, t => t.f1.length ≤ 40 ∧ t.f2.length ≤ 40 ∧ ∀ p ∈ t.f2, FewT d p
theorem few_sum (b : Nat) : ∀ (l : List S44), (∀ p ∈ l, nodes p ≤ b) → nodesL l ≤ l.length * b
  | [], _ => by rw [nodesL]; omega
  | p :: r, h => by
    have h1 := h p (by simp)
    have h2 := few_sum b r (fun q hq => h q (List.mem_cons_of_mem _ hq))
    rw [nodesL, List.length_cons, Nat.succ_mul]
    omega
theorem few_nodes : ∀ (d : Nat) (t : S44), FewT d t → nodes t ≤ 41 ^ d
  | 0, _, h => h.elim
  | d + 1, t, h => by
    obtain ⟨_, h2, h3⟩ := h
    have hs := few_sum (41 ^ d) t.f2 (fun p hp => few_nodes d p (h3 p hp))
    have h4 : t.f2.length * 41 ^ d ≤ 40 * 41 ^ d := Nat.mul_le_mul_right _ h2
    have h5 : 0 < 41 ^ d := Nat.pow_pos (by omega)
    rw [nodes_eq, Nat.pow_succ]
    omega

theorem q26 (w : World) (a : Option Addr) (n c n' c' : Nat) : (binOp .eql 26 (.slice a n c) (.slice none n' c')).run Tryz.prog w = .ok (.bool a.isNone) w := Lib.run_eql_slice_nil w _ _ a n c n' c' Tryz.underlying26
set_option maxHeartbeats 2000000 in
set_option maxRecDepth 100000 in
theorem clone_any (base : Nat) (v : Value) (m : Nat) (xs : List Int) (hm : m ≤ 1000) (w : World) (h : w.ownsRow base 3 1 v m (xs.map (Value.int .i64))) :
    Calls Tryz.prog 108 #[v] w fun e w' => ∃ v', e = .returned v' ∧ w'.ownsRow w.heap.size 3 1 v' m (xs.map (Value.int .i64)) ∧ Below w.heap.size w w' := by
  obtain ⟨i0, hi, hz0, hz1, hz2⟩ := info_parts info3
  have HO := Aside0.mk h
  obtain ⟨hl, h2⟩ := h
  rcases h2 with ⟨rfl, rfl⟩ | ⟨g, cap, cur, rfl, hb, hg, h3, h4, h5, h6⟩
  · go_enter Tryz.func108, Tryz.ntmps108
    have q0 := fun w => q26 w none 0 0 0 0
    go_wp2
    go_ret
    exact ⟨_, rfl, ⟨by simpa using hl, .inl ⟨rfl, rfl⟩⟩, Below.refl _ _⟩
  · have HG := Aside0.mk hg
    have hnews : ∀ j u, (xs.map (Value.int .i64))[j]? = some u → (w.alloc (.cells #[] 3)).cell? ((⟨g, 0, none⟩ : Addr).add j) = some u := by
      intro j u hj
      have hjl : j < (xs.map (Value.int .i64)).length := (List.getElem?_eq_some_iff.1 hj).1
      rw [Addr.add_lit]
      refine Lib.cell?_alloc_some _ ?_
      rw [Nat.zero_add, blk_cell HG.out]
      have h7 : (cur.toList.take (m * 1))[j]? = (xs.map (Value.int .i64))[j]? := by rw [h6]
      rw [List.getElem?_take, if_pos (by omega)] at h7
      rw [← Array.getElem?_toList, h7, hj]
    have HN := Aside0.mk hnews; clear hnews
    have HL := Aside0.mk hl
    clear hb hg h3 h4 h5 h6 HG
    have q1 := fun w => q26 w (some ⟨g, 0, none⟩) m cap 0 0
    go_enter Tryz.func108, Tryz.ntmps108
    go_wp2_with (first
      | (at_builtin; refine wpList_append_own _ rfl _ _ 26 rfl w.heap.size 3 i0 (.int .i64 0) 1 8 Tryz.underlying26 hi hz0 hz1 hz2 rfl (by decide) _ _ _ rfl (World.ownsRow_made w #[] 0 (Nat.le_refl _) (Nat.zero_le _) rfl) ⟨g, 0, none⟩ m cap (xs.map (Value.int .i64)) rfl ?c1 HN.out ?c2 ?c3 ?c4 ?c5 ?_))
    case c1 => exact HL.out
    case c2 => intro u hu; obtain ⟨x, _, rfl⟩ := List.mem_map.1 hu; rfl
    case c3 => unfold maxLen; omega
    case c4 => omega
    case c5 => simp
    intro v' w1 hown hgrow hnil
    go_wp2
    go_ret
    refine ⟨v', rfl, by simpa using hown, ((Below.refl _ w).alloc (Nat.le_refl _) _).grown hgrow (by simp) (by intro k hk; simp [Value.ownBlock] at hk; omega)⟩

/-- the count's cell -/
def Cnt (w : World) (g : Nat) (n : Int) : Prop := w.heap[g]? = some (.cells #[.int .i64 n] 3 (0, 0))
set_option maxHeartbeats 1000000 in
set_option maxRecDepth 100000 in
theorem step_any (g : Nat) (n : Nat) (hn : n < 4611686018427387904) (s : ByteArray) (v1 v2 way : Value) (w : World) (h : Cnt w g n) :
    Calls Tryz.prog 83 #[.agg #[.string s, v1, v2], way, .pointer (some ⟨g, 0, none⟩)] w fun e w' => e = .returned (.tuple #[]) ∧ Cnt w' g ((n + 1 : Nat) : Int) ∧ Kp w.heap.size g w w' := by
  have hlt := blk_lt h
  have H1 := Aside0.mk (blk_alloc h (.cells #[.string s, v1, v2] 44))
  have c0 := (blk_cell H1.out 0).trans rfl
  have f0 := blk_frozen H1.out 0
  have ew : wrap64 ((n : Int) + 1) = ((n + 1 : Nat) : Int) := by unfold wrap64; omega
  go_enter Tryz.func83, Tryz.ntmps83
  go_wp2
  go_end0
  refine ⟨rfl, ?_, ⟨rfl, rfl, rfl, by simp, fun k hk hne => ?_⟩⟩
  · exact blk_alloc (show (w.setCell ⟨g, 0, none⟩ (.int .i64 ((n + 1 : Nat) : Int))).heap[g]? = _ from blk_set h 0 _) _
  · exact (Below.heap_alloc _ _ _ (by simp; omega)).trans (Below.heap_setCell _ ⟨g, 0, none⟩ _ _ hne)
end Go.Proofs.YtbdoafigggcdpaaGreatDoor.PScr
