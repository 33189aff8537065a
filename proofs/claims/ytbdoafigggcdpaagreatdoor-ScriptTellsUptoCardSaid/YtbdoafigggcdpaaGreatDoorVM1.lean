/- The walks of tuple's names. No condition of ours. -/
import Derived.Test.YtbdoafigggcdpaaGreatDoorVK0
import Derived.Lib.OthersKept
namespace Go.Proofs.YtbdoafigggcdpaaGreatDoor.PScr
open Go.RowKit Go.Proofs.YtbdoafigggcdpaaGreatDoorW.PrintWords Go.Proofs.YtbdoafigggcdpaaGreatDoorW.PrintLast Go.Proofs.YtbdoafigggcdpaaGreatDoorW.PrintMore
set_option linter.unusedVariables false
set_option linter.unusedSimpArgs false

def isLetter (c : Nat) : Bool := decide (97 ≤ c) && decide (c ≤ 122)
def isDigit (c : Nat) : Bool := decide (48 ≤ c) && decide (c ≤ 57)
def nameAt (i c : Nat) : Bool := isLetter c || (decide (0 < i) && (isDigit c || decide (c = 95)))
def idAt (i c : Nat) : Bool := isLetter c || isDigit c || decide (c = 95) || decide (c = 45) || decide (c = 46)

theorem letter_any (c : Nat) (w : World) : Calls Tryz.prog 92 #[.int .i32 c] w fun e w' => e = .returned (.bool (isLetter c)) ∧ w' = w := by
  unfold isLetter
  by_cases h1 : 97 ≤ c <;> by_cases h2 : c ≤ 122
  all_goals (
    have e1 : (decide (97 ≤ (c : Int))) = decide (97 ≤ c) := by simp; omega
    have e2 : (decide ((c : Int) ≤ 122)) = decide (c ≤ 122) := by simp; omega
    go_enter Tryz.func92, Tryz.ntmps92
    go_wp2
    go_ret
    exact ⟨by simp [h1, h2], rfl⟩)
theorem digit_any (c : Nat) (w : World) : Calls Tryz.prog 93 #[.int .i32 c] w fun e w' => e = .returned (.bool (isDigit c)) ∧ w' = w := by
  unfold isDigit
  by_cases h1 : 48 ≤ c <;> by_cases h2 : c ≤ 57
  all_goals (
    have e1 : (decide (48 ≤ (c : Int))) = decide (48 ≤ c) := by simp; omega
    have e2 : (decide ((c : Int) ≤ 57)) = decide (c ≤ 57) := by simp; omega
    go_enter Tryz.func93, Tryz.ntmps93
    go_wp2
    go_ret
    exact ⟨by simp [h1, h2], rfl⟩)
theorem name1_any (i c : Nat) (w : World) : Calls Tryz.prog 91 #[.int .i64 i, .int .i32 c] w fun e w' => e = .returned (.bool (nameAt i c)) ∧ w' = w := by
  unfold nameAt
  have e0 : decide (0 < (i : Int)) = decide (0 < i) := by simp
  have e95 : ((c : Int) == 95) = decide (c = 95) := by rw [Bool.eq_iff_iff]; simp; omega
  go_enter Tryz.func91, Tryz.ntmps91
  cases hl : isLetter c <;> cases hi : decide (0 < i) <;> cases hd : isDigit c
  all_goals (
    go_wp2_with (first | (go_at_call 92; refine (letter_any c _).mono ?_; rintro e w' ⟨rfl, rfl⟩; rw [hl]) | (go_at_call 93; refine (digit_any c _).mono ?_; rintro e w' ⟨rfl, rfl⟩; rw [hd]))
    go_ret
    exact ⟨by simp, rfl⟩)
theorem id1_any (i c : Nat) (w : World) : Calls Tryz.prog 94 #[.int .i64 i, .int .i32 c] w fun e w' => e = .returned (.bool (idAt i c)) ∧ w' = w := by
  unfold idAt
  have e95 : ((c : Int) == 95) = decide (c = 95) := by rw [Bool.eq_iff_iff]; simp; omega
  have e45 : ((c : Int) == 45) = decide (c = 45) := by rw [Bool.eq_iff_iff]; simp; omega
  have e46 : ((c : Int) == 46) = decide (c = 46) := by rw [Bool.eq_iff_iff]; simp; omega
  go_enter Tryz.func94, Tryz.ntmps94
  cases hl : isLetter c <;> cases hd : isDigit c <;> cases h95 : decide (c = 95) <;> cases h45 : decide (c = 45) <;> rw [h95] at e95 <;> rw [h45] at e45
  all_goals (
    go_wp2_with (first | (go_at_call 92; refine (letter_any c _).mono ?_; rintro e w' ⟨rfl, rfl⟩; rw [hl]) | (go_at_call 93; refine (digit_any c _).mono ?_; rintro e w' ⟨rfl, rfl⟩; rw [hd]))
    go_ret
    exact ⟨by simp, rfl⟩)

/-- what a closure of tuple's answers, letter by letter -/
def Says (g : Nat) (q : Nat → Nat → Bool) : Prop := ∀ (i c : Nat) (w : World), Calls Tryz.prog g #[.int .i64 i, .int .i32 c] w fun e w' => e = .returned (.bool (q i c)) ∧ w' = w
theorem iterPos_at {w : World} {k : Nat} {s : ByteArray} {p : Nat} (h : w.heap[k]? = some (.stringIter s p)) : w.iterPos k = p := by simp [World.iterPos, h]
theorem run_next_end_at {P : Program} (w : World) (k : Nat) (s : ByteArray) (pos : Nat) (ty : TypeId) (hk : w.heap[k]? = some (.stringIter s pos)) (h : ¬ pos < s.size) :
    (Instr.next (.pointer (some ⟨k, 0, none⟩)) true ty).run P w = .ok (.tuple #[.bool false]) w := by
  simp [Instr.next, getObj, Sem.run, hk, h]
/-- every byte is one that may be there -/
def allAt (q : Nat → Nat → Bool) (s : ByteArray) : Bool := (List.range s.size).all fun i => q i (s.get! i).toNat
def madeOf (q : Nat → Nat → Bool) (s : ByteArray) (most : Nat) : Bool := allAt q s && decide (s.size ≠ 0) && decide (s.size ≤ most)

theorem get_get (s : ByteArray) (i : Nat) (h : i < s.size) : s.get! i = s[i]'h := by
  simp [ByteArray.get!, getElem!_pos, h]; rfl
theorem decode_high (s : ByteArray) (pos : Nat) (h : 128 ≤ (s.get! pos).toNat) : 128 ≤ (Utf8.decode s pos).1 := by
  have e : (Utf8.runeError : Nat) = 65533 := rfl
  unfold Utf8.decode
  simp only [Nat.add_zero]
  split
  · omega
  split
  · split <;> simp only [] <;> omega
  split
  · split
    · rename_i h1; simp only [Bool.and_eq_true, decide_eq_true_eq] at h1; simp only []; omega
    · simp only []; omega
  split
  · split
    · rename_i h1; simp only [Bool.and_eq_true, decide_eq_true_eq] at h1; simp only []; omega
    · simp only []; omega
  · simp only []; omega

set_option maxRecDepth 100000 in
theorem made_any (g : Nat) (q : Nat → Nat → Bool) (hq : Says g q) (hhi : ∀ i c, 128 ≤ c → q i c = false) (eg : ∀ args w, (callFunc g args).run Tryz.prog w = .ok (.enter g args) w) (s : ByteArray) (most : Nat) (hm : most ≤ 100) (w : World) :
    Calls Tryz.prog 90 #[.string s, .int .i64 most, .func (.func g) #[] #[]] w fun e w' => e = .returned (.bool (madeOf q s most)) ∧ Below w.heap.size w w' := by
  have HQ := Aside0.mk hq; clear hq
  have HH := Aside0.mk hhi; clear hhi
  go_enter Tryz.func90, Tryz.ntmps90
  go_wp2
  go_loopw [6] (fun v wr => ∃ pos, v = .bool false ∧ pos ≤ s.size ∧ wr.heap[w.heap.size]? = some (.stringIter s pos) ∧ Aside0 (∀ i, i < pos → q i (s.get! i).toNat = true) ∧ Below w.heap.size w wr) (fun _ wr => s.size - wr.iterPos w.heap.size)
  case atStart => exact ⟨0, rfl, by omega, World.iter_heap w s 0, ⟨fun i h => by omega⟩, (Below.refl _ _).alloc (Nat.le_refl _) _⟩
  case round =>
    obtain ⟨pos, rfl, hps, hit, HA, hbw⟩ := hrel
    have hpos0 := iterPos_at hit
    by_cases hp : pos < s.size
    · have hgg := get_get s pos hp
      by_cases ha : (s[pos]'hp).toNat < 128
      · have hnx : ∀ ty, (Instr.next (.pointer (some ⟨w.heap.size, 0, none⟩)) true ty).run Tryz.prog wr = _ := fun ty => Lib.run_next_ascii_at wr w.heap.size s pos ty hit hp ha
        have hit2 := Lib.iterAt_heap wr w.heap.size s pos (pos + 1) hit
        have hbw2 := Lib.below_iterAt hbw (k := w.heap.size) (Nat.le_refl _) s (pos + 1)
        obtain ⟨W1, hW1⟩ : ∃ W1, W1 = wr.iterAt w.heap.size s (pos + 1) := ⟨_, rfl⟩
        rw [← hW1] at hnx hit2 hbw2
        obtain ⟨c, hc⟩ : ∃ c, (s[pos]'hp).toNat = c := ⟨_, rfl⟩
        rw [hc] at hnx ha
        rw [← hgg] at hc
        have HC := Aside0.mk hc; clear hc hgg
        have HI := Aside0.mk hit2; clear hit2
        have HB := Aside0.mk hbw2; clear hbw2 hW1 hit hbw
        cases hqc : q pos c with
        | true =>
          go_wp2_with (first | (refine (HQ.out pos c _).mono ?_; rintro e w' ⟨rfl, rfl⟩; rw [hqc]))
          go_roundw
          case rel => exact ⟨pos + 1, rfl, by omega, HI.out, ⟨fun i h => by
            by_cases h' : i = pos
            · subst h'; rw [HC.out]; exact hqc
            · exact HA.out i (by omega)⟩, HB.out⟩
          case measure => rw [iterPos_at HI.out, hpos0]; omega
        | false =>
          go_wp2_with (first | (refine (HQ.out pos c _).mono ?_; rintro e w' ⟨rfl, rfl⟩; rw [hqc]))
          go_ret
          refine ⟨?_, HB.out⟩
          have : madeOf q s most = false := by
            unfold madeOf allAt
            have : ((List.range s.size).all fun i => q i (s.get! i).toNat) = false := by
              rw [List.all_eq_false]
              exact ⟨pos, List.mem_range.2 hp, by rw [HC.out, hqc]; simp⟩
            rw [this]; rfl
          rw [this]; rfl
      · have hnx : ∀ ty, (Instr.next (.pointer (some ⟨w.heap.size, 0, none⟩)) true ty).run Tryz.prog wr = _ := fun ty => Lib.run_next_any_at wr w.heap.size s pos ty hit hp
        have hbw2 := Lib.below_iterAt hbw (k := w.heap.size) (Nat.le_refl _) s (pos + (Utf8.decode s pos).2)
        have hdh := decode_high s pos (by rw [hgg]; omega)
        obtain ⟨W1, hW1⟩ : ∃ W1, W1 = wr.iterAt w.heap.size s (pos + (Utf8.decode s pos).2) := ⟨_, rfl⟩
        rw [← hW1] at hnx hbw2
        obtain ⟨c, hc⟩ : ∃ c, (Utf8.decode s pos).1 = c := ⟨_, rfl⟩
        rw [hc] at hnx hdh
        have HB := Aside0.mk hbw2; clear hbw2 hW1 hit hbw hc
        have hqc : q pos c = false := HH.out pos c hdh
        have hqb : q pos (s.get! pos).toNat = false := HH.out _ _ (by rw [hgg]; omega)
        clear hgg
        go_wp2_with (first | (refine (HQ.out pos c _).mono ?_; rintro e w' ⟨rfl, rfl⟩; rw [hqc]))
        go_ret
        refine ⟨?_, HB.out⟩
        have : madeOf q s most = false := by
          unfold madeOf allAt
          have : ((List.range s.size).all fun i => q i (s.get! i).toNat) = false := by
            rw [List.all_eq_false]
            exact ⟨pos, List.mem_range.2 hp, by rw [hqb]; simp⟩
          rw [this]; rfl
        rw [this]; rfl
    · obtain rfl : pos = s.size := by omega
      have hnx : ∀ ty, (Instr.next (.pointer (some ⟨w.heap.size, 0, none⟩)) true ty).run Tryz.prog wr = _ := fun ty => run_next_end_at wr w.heap.size s s.size ty hit hp
      have hall : allAt q s = true := by
        unfold allAt
        rw [List.all_eq_true]
        intro i hi
        exact HA.out i (List.mem_range.1 hi)
      have HB := Aside0.mk hbw; clear hbw hit
      by_cases hz : s.size = 0
      · have hz1 : (s.toList != []) = false := by
          have : s.toList = [] := by rw [ByteArray.toList_eq]; apply List.eq_nil_of_length_eq_zero; rw [Array.length_toList]; exact hz
          rw [this]; rfl
        have hz2 : s.toList = [] := by simpa using hz1
        go_wp2
        go_ret
        exact ⟨by rw [show madeOf q s most = false by unfold madeOf; simp [hz]]; rfl, HB.out⟩
      · have hz1 : (s.toList != []) = true := by
          rw [bne_iff_ne, ByteArray.toList_eq]
          intro h
          apply hz
          have := congrArg List.length h
          rw [Array.length_toList] at this
          exact this
        have hz2 : ¬ s.toList = [] := by simpa using hz1
        have hz3 : s.toList.isEmpty = false := by simpa using hz2
        by_cases hle : s.size ≤ most
        · have hl1 : decide ((s.size : Int) ≤ (most : Int)) = true := by simpa using hle
          go_wp2
          go_ret
          exact ⟨by rw [show madeOf q s most = true by unfold madeOf; simp [hz, hle, hall]]; rfl, HB.out⟩
        · have hl1 : decide ((s.size : Int) ≤ (most : Int)) = false := by simpa using hle
          go_wp2
          go_ret
          exact ⟨by rw [show madeOf q s most = false by unfold madeOf; simp [hle]]; rfl, HB.out⟩
theorem name_hi (i c : Nat) (h : 128 ≤ c) : nameAt i c = false := by
  unfold nameAt isLetter isDigit
  have h1 : decide (c ≤ 122) = false := by simp; omega
  have h2 : decide (c ≤ 57) = false := by simp; omega
  have h3 : decide (c = 95) = false := by simp; omega
  rw [h1, h2, h3]; simp
theorem id_hi (i c : Nat) (h : 128 ≤ c) : idAt i c = false := by
  unfold idAt isLetter isDigit
  have h1 : decide (c ≤ 122) = false := by simp; omega
  have h2 : decide (c ≤ 57) = false := by simp; omega
  have h3 : decide (c = 95) = false := by simp; omega
  have h4 : decide (c = 45) = false := by simp; omega
  have h5 : decide (c = 46) = false := by simp; omega
  rw [h1, h2, h3, h4, h5]; simp
def nameOk (s : ByteArray) : Bool := madeOf nameAt s 12
def idOk (s : ByteArray) : Bool := madeOf idAt s 16
theorem name_any (s : ByteArray) (w : World) :
    Calls Tryz.prog 55 #[.string s] w fun e w' => e = .returned (.bool (nameOk s)) ∧ Below w.heap.size w w' := by
  go_enter Tryz.func55, Tryz.ntmps55
  go_wp2_with fail
  refine (made_any 91 nameAt name1_any name_hi (fun args w => by go_simp) s 12 (by omega) _).mono ?_
  rintro e w' ⟨rfl, hb⟩
  go_wp2
  go_ret
  exact ⟨rfl, hb⟩
theorem id_any (s : ByteArray) (w : World) :
    Calls Tryz.prog 56 #[.string s] w fun e w' => e = .returned (.bool (idOk s)) ∧ Below w.heap.size w w' := by
  go_enter Tryz.func56, Tryz.ntmps56
  go_wp2_with fail
  refine (made_any 94 idAt id1_any id_hi (fun args w => by go_simp) s 16 (by omega) _).mono ?_
  rintro e w' ⟨rfl, hb⟩
  go_wp2
  go_ret
  exact ⟨rfl, hb⟩
theorem made_size {q : Nat → Nat → Bool} {s : ByteArray} {m : Nat} (h : madeOf q s m = true) : s.size ≤ m ∧ 0 < s.size := by
  unfold madeOf at h
  simp only [Bool.and_eq_true, decide_eq_true_eq] at h
  omega
end Go.Proofs.YtbdoafigggcdpaaGreatDoor.PScr
