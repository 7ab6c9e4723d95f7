/- Plain facts: numbers below 2 to the 64 as sets of nodes. No program here. -/
import Derived.Lib.TrailingZeros
import Derived.Shelf.Spec.TrailingZeros
import Derived.Test.YtgboplcjafmliaaDoorProg
import Derived.Test.YtgboplcjafmliaaDoorPAllx0
import Derived.Laws.BitsAllLaws
import Derived.StillTail
import Derived.Deep.Quiet
import Derived.WalkKit
import Derived.BigQuiet
import Derived.Deep.QuietTactic
import Derived.Laws.Rows
import Derived.Outline
import Derived.Deep.RegionHeld3
/- Plain facts: numbers below 2 to the 64 as sets of nodes. No program here. -/
namespace Go.Proofs.YtgboplcjafmliaaDoor.G
set_option linter.unusedVariables false
set_option linter.unusedSimpArgs false

/-- The nodes of a set, ascending. -/
def bl (s : Nat) : List Nat := (List.range' 0 64).filter s.testBit

theorem low_split (t m : Nat) (i : Nat) : (2 ^ t * (2 * m + 1)).testBit i = (decide (i = t) || (2 ^ (t + 1) * m).testBit i) := by
  rw [Nat.testBit_two_pow_mul, Nat.testBit_two_pow_mul]
  rcases Nat.lt_trichotomy i t with h | h | h
  · simp [show ¬ t ≤ i by omega, show ¬ t + 1 ≤ i by omega]; omega
  · subst h; simp
  · obtain ⟨d, rfl⟩ : ∃ d, i = t + 1 + d := ⟨i - (t + 1), by omega⟩
    simp only [show t ≤ t + 1 + d by omega, show t + 1 ≤ t + 1 + d by omega, show t + 1 + d - t = d + 1 by omega, show t + 1 + d - (t + 1) = d by omega, decide_true, Bool.true_and, Nat.testBit_succ]
    rw [show (2 * m + 1) / 2 = m by omega]
    simp; omega

theorem low_clear (t m : Nat) : (2 ^ t * (2 * m + 1)) &&& (2 ^ t * (2 * m + 1) - 1) = 2 ^ (t + 1) * m := by
  have hp : 0 < 2 ^ t := Nat.two_pow_pos t
  have e : 2 ^ t * (2 * m + 1) - 1 = 2 ^ t * (2 * m) + (2 ^ t - 1) := by rw [Nat.mul_add]; omega
  apply Nat.eq_of_testBit_eq
  intro i
  rw [Nat.testBit_and, e, Nat.testBit_two_pow_mul_add _ (by omega), low_split]
  rw [Nat.testBit_two_pow_mul]
  rcases Nat.lt_trichotomy i t with h | h | h
  · simp [show ¬ t + 1 ≤ i by omega, h, show i ≠ t by omega]
  · subst h; simp; intro h; omega
  · obtain ⟨d, rfl⟩ : ∃ d, i = t + 1 + d := ⟨i - (t + 1), by omega⟩
    simp only [show ¬ (t + 1 + d < t) by omega, if_false, show t + 1 + d - t = d + 1 by omega, Nat.testBit_succ, show t + 1 ≤ t + 1 + d by omega, show t + 1 + d - (t + 1) = d by omega]
    rw [show 2 * m / 2 = m by omega]
    simp; intro h; exact .inr h

/-- The lowest node of a set, and the set without it. -/
theorem low_of (s : Nat) (h0 : s ≠ 0) (h : s < 2 ^ 64) : Lib.ctz 64 s < 64 ∧ (∀ i, s.testBit i = (decide (i = Lib.ctz 64 s) || (s &&& (s - 1)).testBit i)) ∧ (∀ i, i ≤ Lib.ctz 64 s → (s &&& (s - 1)).testBit i = false) := by
  obtain ⟨m, hm, hk⟩ := Lib.ctzFrom_spec 64 s (by omega) h
  have e : Lib.ctz 64 s = Lib.ctzFrom 64 s := by simp [Lib.ctz, h0]
  rw [e]
  generalize Lib.ctzFrom 64 s = t at *
  subst hm
  rw [low_clear]
  refine ⟨hk, low_split t m, fun i hi => ?_⟩
  rw [Nat.testBit_two_pow_mul]; simp; omega

theorem low_lt (s : Nat) (h : s < 2 ^ 64) : s &&& (s - 1) < 2 ^ 64 := Nat.lt_of_le_of_lt Nat.and_le_left h

theorem filter_low (s : Nat) (h0 : s ≠ 0) (h : s < 2 ^ 64) : ∀ k m, m + k = 64 → (∀ i, i < m → s.testBit i = false) → (List.range' m k).filter s.testBit = Lib.ctz 64 s :: (List.range' (m + 1) (k - 1)).filter (s &&& (s - 1)).testBit := by
  obtain ⟨ht, hs, hz⟩ := low_of s h0 h
  have ht1 : s.testBit (Lib.ctz 64 s) = true := by rw [hs]; simp
  generalize Lib.ctz 64 s = t at *
  generalize s &&& (s - 1) = s' at *
  intro k
  induction k with
  | zero => intro m hm hl; rw [hl t (by omega)] at ht1; cases ht1
  | succ k ih =>
    intro m hm hl
    rw [List.range'_succ, Nat.add_sub_cancel]
    by_cases hb : s.testBit m = true
    · have hmt : m = t := by
        have := hs m; rw [hb] at this
        by_cases e : m = t
        · exact e
        · simp [e] at this
          by_cases hle : m ≤ t
          · rw [hz m hle] at this; cases this
          · rw [hl t (by omega)] at ht1; cases ht1
      rw [List.filter_cons_of_pos hb, hmt]
      congr 1
      apply List.filter_congr
      intro i hi
      rw [List.mem_range'_1] at hi
      rw [hs i]; simp [show i ≠ t by omega]
    · have hb : s.testBit m = false := by simpa using hb
      rw [List.filter_cons_of_neg (by simp [hb])]
      rw [ih (m + 1) (by omega) (fun i hi => by by_cases e : i = m; (subst e; exact hb); exact hl i (by omega))]
      congr 1
      have hmt : m < t := by
        apply Nat.lt_of_not_le; intro hle
        by_cases e : m = t
        · rw [e, ht1] at hb; cases hb
        · rw [hl t (by omega)] at ht1; cases ht1
      cases k with
      | zero => omega
      | succ k =>
        rw [List.range'_succ, List.filter_cons_of_neg (by simp [hz (m + 1) (by omega)])]
        rfl

theorem bl_zero_of (s m k : Nat) (hs : s = 0) : (List.range' m k).filter s.testBit = [] := by
  subst hs; simp
theorem mem_bl (s i : Nat) (h : s < 2 ^ 64) : i ∈ bl s ↔ s.testBit i = true := by
  unfold bl
  rw [List.mem_filter, List.mem_range'_1]
  constructor
  · exact fun h => h.2
  · intro hb
    refine ⟨⟨by omega, ?_⟩, hb⟩
    apply Nat.lt_of_not_le; intro hle
    rw [Nat.testBit_lt_two_pow (Nat.lt_of_lt_of_le h (Nat.pow_le_pow_right (by omega) (by omega : 64 ≤ i)))] at hb
    cases hb
theorem bl_lt (s i : Nat) (h : i ∈ bl s) : i < 64 := by
  unfold bl at h; rw [List.mem_filter, List.mem_range'_1] at h; omega
theorem bl_length (s : Nat) : (bl s).length ≤ 64 := by
  unfold bl; exact Nat.le_trans (List.length_filter_le _ _) (by simp)
theorem bl_nil (s : Nat) (h : s < 2 ^ 64) : bl s = [] ↔ s = 0 := by
  constructor
  · intro hb
    apply Nat.eq_of_testBit_eq; intro i
    have := mem_bl s i h
    rw [hb] at this; simp at this; rw [this]; simp
  · intro e; subst e; simp [bl]
theorem bl_sorted (s : Nat) : (bl s).Pairwise (· < ·) := by
  unfold bl; exact List.Pairwise.filter _ (List.pairwise_lt_range' ..)

/-- Element i of a list (0 behind its end). -/
def nth (l : List Nat) (i : Nat) : Nat := l.getD i 0
theorem nth_mem (l : List Nat) (k : Nat) (h : k < l.length) : nth l k ∈ l := by
  rw [nth, List.getD_eq_getElem?_getD, List.getElem?_eq_getElem h]; exact List.getElem_mem h
theorem nth_drop (l : List Nat) (k : Nat) (h : k < l.length) : l.drop k = nth l k :: l.drop (k + 1) := by
  rw [List.drop_eq_getElem_cons h, nth, List.getD_eq_getElem?_getD, List.getElem?_eq_getElem h]; rfl
/-- a without b. -/
def sdiff (a b : Nat) : Nat := a &&& (18446744073709551615 - b)
theorem sdiff_bit (a b i : Nat) (ha : a < 2 ^ 64) (hb : b < 2 ^ 64) : (sdiff a b).testBit i = (a.testBit i && !b.testBit i) := by
  unfold sdiff
  rw [Nat.testBit_and, show 18446744073709551615 - b = 2 ^ 64 - (b + 1) by omega, Nat.testBit_two_pow_sub_succ (by omega)]
  by_cases h : i < 64
  · simp [h]
  · rw [Nat.testBit_lt_two_pow (Nat.lt_of_lt_of_le ha (Nat.pow_le_pow_right (by omega) (by omega : 64 ≤ i)))]; simp
theorem sdiff_lt (a b : Nat) (ha : a < 2 ^ 64) : sdiff a b < 2 ^ 64 := Nat.lt_of_le_of_lt Nat.and_le_left ha
theorem or_lt (a b : Nat) (ha : a < 2 ^ 64) (hb : b < 2 ^ 64) : a ||| b < 2 ^ 64 := Nat.or_lt_two_pow ha hb
theorem and_lt (a b : Nat) (ha : a < 2 ^ 64) : a &&& b < 2 ^ 64 := Nat.lt_of_le_of_lt Nat.and_le_left ha
theorem pow_lt' (m : Nat) (h : m < 64) : 2 ^ m < 2 ^ 64 := Nat.pow_lt_pow_right (by omega) h
end Go.Proofs.YtgboplcjafmliaaDoor.G

/-
  DERIVED: THE SHELF's CONTRACTS AT THIS DUMP, IN PLAIN WORDS (tools/lay-plain.mjs out of 'YtgboplcjafmliaaDoorShelf.lean', which tools/lay-shelf.mjs wrote): THE SAME DECLARATIONS UNDER THE SAME NAMES: 'import', 'namespace', 'open', 'def', 'theorem' AND NOTHING ELSE: no command of the shelf's: FOR A HAND-IN. Each laying: the table of numbers ('.._ren') and one theorem, a field a fact of the dump's own or the kernel's comparison; each contract: ONE APPLICATION.
-/
namespace Go.Proofs
open Go.Shelf
set_option linter.unusedVariables false
set_option linter.unusedSimpArgs false
def Tryd.lays29_ren : Go.Shelf.Ren := ⟨fun | 29 => 68 | n => n, fun | 22 => 60 | 3 => 3 | 4 => 4 | 25 => 98 | 54 => 113 | 0 => 0 | 5 => 5 | n => n, fun | 1 => 0 | n => n⟩
theorem Tryd.lays29 : Go.Proofs.Lays7.n29 Tryd.prog Tryd.lays29_ren := {
  mixed := by kernel_rfl
  f29 := Tryd.func68.trans (congrArg some (by kernel_rfl))
  t0 := Tryd.underlying0
  a0 := Tryd.isAgg0
  z0 := Tryd.sizeOf0
  v0 := Tryd.zeroValue0
  i0 := by kernel_rfl
  t3 := Tryd.underlying3
  a3 := Tryd.isAgg3
  z3 := Tryd.sizeOf3
  v3 := Tryd.zeroValue3
  i3 := by kernel_rfl
  t4 := Tryd.underlying4
  a4 := Tryd.isAgg4
  z4 := Tryd.sizeOf4
  v4 := Tryd.zeroValue4
  i4 := by kernel_rfl
  t5 := Tryd.underlying5
  a5 := Tryd.isAgg5
  z5 := Tryd.sizeOf5
  v5 := Tryd.zeroValue5
  i5 := by kernel_rfl
  t22 := Tryd.underlying60
  a22 := Tryd.isAgg60
  z22 := Tryd.sizeOf60
  v22 := Tryd.zeroValue60
  i22 := by kernel_rfl
  t25 := Tryd.underlying98
  a25 := Tryd.isAgg98
  z25 := Tryd.sizeOf98
  v25 := Tryd.zeroValue98
  i25 := by kernel_rfl
  t54 := Tryd.underlying113
  a54 := Tryd.isAgg113
  z54 := Tryd.sizeOf113
  g1 := by kernel_rfl }
end Go.Proofs

/- Contracts of the small functions of package network (sets as bits), and what they compute. -/
namespace Go.Proofs.YtgboplcjafmliaaDoor.G
open Go.RowKit Go.Proofs.YtgboplcjafmliaaDoorW.PrintWords Go.Proofs.YtgboplcjafmliaaDoorW.PrintLast Go.Proofs.YtgboplcjafmliaaDoorW.PrintMore
open Go.Proofs.YtgboplcjafmliaaDoor.PAll
set_option linter.unusedVariables false
set_option linter.unusedSimpArgs false

def TabW (w : World) : Prop := TabAt 0 Lib.deBruijn64tab w ∧ 0 < w.heap.size
theorem TabW.below {w w1 : World} (h : TabW w) {B : Nat} (hB : 0 < B) (hb : Below B w w1) : TabW w1 :=
  ⟨fun j hj => (hb.cell (p := ⟨0, j, none⟩) hB).trans (h.1 j hj), Nat.lt_of_lt_of_le h.2 hb.size⟩

theorem u64_pow (m : Nat) (h : m < 64) : IntKind.u64.wrap ((2 : Int) ^ m) = ((2 ^ m : Nat) : Int) := by
  have h2 := pow_lt' m h
  rw [IntKind.wrap_u64, show ((2 : Int) ^ m) = ((2 ^ m : Nat) : Int) by norm_cast]
  generalize 2 ^ m = p at *
  omega

set_option maxHeartbeats 400000 in
theorem with_any (s m : Nat) (hs : s < 2 ^ 64) (hm : m < 64) (w : World) :
    Calls Tryd.prog 28 #[.int .u64 s, .int .i64 m] w fun e w' => e = .returned (.int .u64 ((s ||| 2 ^ m : Nat) : Int)) ∧ w = w' := by
  have hk : bits .or .u64 (s : Int) (IntKind.u64.wrap ((2 : Int) ^ m)) = ((s ||| 2 ^ m : Nat) : Int) := by
    rw [u64_pow m hm, u64_or_nat s _ hs (pow_lt' m hm)]
  have HK := Aside0.mk hk
  clear hk
  go_enter Tryd.func28, Tryd.ntmps28
  go_wp2
  go_ret
  rw [HK.out]
  exact ⟨rfl, rfl⟩

theorem with_any_q (s m : Nat) (hs : s < 2 ^ 64) (hm : m < 64) (w : World) :
    Calls Tryd.prog 28 #[.int .u64 s, .int .i64 m] w fun e w' => e = .returned (.int .u64 ((s ||| 2 ^ m : Nat) : Int)) ∧ w' = w :=
  (with_any s m hs hm w).mono fun _ _ ⟨h1, h2⟩ => ⟨h1, h2.symm⟩

set_option maxHeartbeats 400000 in
theorem has_any (s m : Nat) (hs : s < 2 ^ 64) (hm : m < 64) (w : World) :
    Calls Tryd.prog 46 #[.int .u64 s, .int .i64 m] w fun e w' => e = .returned (.bool (s.testBit m)) ∧ w = w' := by
  have hk : (bits .and .u64 ((s : Int) / (2 : Int) ^ m) 1 == 1) = s.testBit m := by
    rw [show ((s : Int) / (2 : Int) ^ m) = ((s / 2 ^ m : Nat) : Int) by norm_cast, show (1 : Int) = ((1 : Nat) : Int) by rfl, u64_and_nat _ 1 (Nat.lt_of_le_of_lt (Nat.div_le_self _ _) hs) (by omega)]
    rw [Nat.testBit, Nat.shiftRight_eq_div_pow, Nat.and_comm 1 (s / 2 ^ m), Nat.and_one_is_mod]
    rcases Nat.mod_two_eq_zero_or_one (s / 2 ^ m) with h | h <;> rw [h] <;> rfl
  have HK := Aside0.mk hk
  clear hk
  go_enter Tryd.func46, Tryd.ntmps46
  go_wp2
  go_ret
  rw [HK.out]
  exact ⟨rfl, rfl⟩

section
variable {P : Program} {ops : Array Oper} {Q : Exit → Act → World → Prop} {a : Act} {rest : List Oper} {o : Oper}
/-- append of one number to a slice of the call's own. -/
theorem app_int {w0 W : World} (k : IntKind) (t e : TypeId) (bytes : Nat) (s x : Operand) (hgd : o.guard = none)
    (ho : o.op = .call { callee := .builtin .append, args := #[s, x], argTypes := #[t, t] })
    (ht : P.underlying t = some (.slice e)) (hinfo : (P.info? e).map (fun i => (i.zero, i.size, i.bytes)) = some (some (.int k 0), 1, bytes)) (hb0 : 0 < bytes)
    (v : Value) (xs : List Int) (y : Int) (hs : a.eval s = v) (hx : a.eval x = .slice (some ⟨W.heap.size, 0, none⟩) 1 1)
    (HO : (Kd.int k).R e W w0.heap.size (fun _ => True) v xs) (HB : Below w0.heap.size w0 W) (hl : (xs.length + 1) * bytes ≤ 140737488355328)
    (h : ∀ v1 w1, Aside0 ((Kd.int k).R e w1 w0.heap.size (fun _ => True) v1 (xs ++ [y])) → Aside0 (Below w0.heap.size w0 w1) → Aside0 (W.grownBy w1 v.ownBlock) → wpList P ops Q rest (a.put o.dst v1) w1) :
    wpList P ops Q (o :: rest) a (W.alloc (.cells #[.int k y] e)) :=
  Kd.R_append (Kd.int k) (w0 := w0) w0.heap.size hgd s x t e (.int k 0) bytes ho ht hinfo rfl Nat.one_pos hb0 v xs y [.int k y] (fun _ => True) (fun _ => False) hs hx rfl (fun _ hk => hk.elim) (fun _ _ => trivial) HO HB HB.size hl
    fun v1 w1 h1 h2 h3 _ => h v1 w1 ⟨h1⟩ ⟨h2⟩ ⟨h3⟩
end

theorem has_any_q (s m : Nat) (hs : s < 2 ^ 64) (hm : m < 64) (w : World) :
    Calls Tryd.prog 46 #[.int .u64 s, .int .i64 m] w fun e w' => e = .returned (.bool (s.testBit m)) ∧ w' = w :=
  (has_any s m hs hm w).mono fun _ _ ⟨h1, h2⟩ => ⟨h1, h2.symm⟩

theorem tz_any (s : Nat) (hs : s < 18446744073709551616) (w : World) (hT : TabW w) :
    Calls Tryd.prog 68 #[.int .u64 s] w fun e w' => e = .returned (.int .i64 (Lib.ctz 64 s)) ∧ w = w' :=
  (Any7.bits_TrailingZeros64 Tryd.lays29 s hs w (fun _ => hT.1)).mono fun _ _ ⟨h1, h2⟩ => ⟨h1, h2.symm⟩

set_option maxHeartbeats 1000000 in
set_option maxRecDepth 100000 in
theorem list_any (s : Nat) (hs : s < 2 ^ 64) (w : World) (hT : TabW w) :
    Calls Tryd.prog 43 #[.int .u64 s] w fun e w' => ∃ v0_ : Value, e = .returned (v0_) ∧ Kd.R (Kd.int .i64) 3 w' w.heap.size (fun _ => True) v0_ ((bl s).map fun n : Nat => (n : Int)) ∧ Below w.heap.size w w' := by
  have HT := Aside0.mk hT
  have HS := Aside0.mk hs
  clear hs hT
  have HB := Aside0.mk (Below.refl w.heap.size w)
  go_enter Tryd.func43, Tryd.ntmps43
  go_wp2
  go_loopg [0, 3] 64 (fun k v0 v3 w' => ∃ (x : Nat) (l : List Int), v0 = .int .u64 x ∧ x < 18446744073709551616 ∧ k ≤ 64 ∧ Aside0 (∀ i, i < 64 - k → x.testBit i = false) ∧ Aside0 (l.length ≤ 64 - k) ∧ Aside0 (l ++ (((List.range' (64 - k) k).filter x.testBit).map fun n : Nat => (n : Int)) = (bl s).map fun n : Nat => (n : Int)) ∧ Aside0 (Kd.R (Kd.int .i64) 3 w' w.heap.size (fun _ => True) v3 l) ∧ Aside0 (Below w.heap.size w w'))
  case atStart => exact ⟨s, [], rfl, HS.out, Nat.le_refl _, ⟨fun i hi => by omega⟩, ⟨by simp⟩, ⟨rfl⟩, ⟨Kd.R_nil _ _ _ _ _⟩, HB⟩
  case round =>
    obtain ⟨x, l, rfl, hx, hk, HZ, HL, HE, HO, HB⟩ := hrel
    by_cases h0 : x = 0
    · have e0 : ((x : Int) != 0) = false := by simp [h0]
      have HE2 := HE.out
      rw [bl_zero_of _ _ _ h0] at HE2
      simp at HE2
      have HE := Aside0.mk HE2
      clear HE2 h0
      go_wp2
      go_ret
      exact ⟨_, rfl, by rw [← HE.out]; exact HO.out, HB.out⟩
    · have e0 : ((x : Int) != 0) = true := by simp [h0]
      obtain ⟨k, rfl⟩ : ∃ k, gk = k + 1 := ⟨gk - 1, by
        have : gk ≠ 0 := fun e => h0 (by
          apply Nat.eq_of_testBit_eq; intro i
          by_cases hi : i < 64
          · rw [HZ.out i (by omega)]; simp
          · rw [Nat.testBit_lt_two_pow (Nat.lt_of_lt_of_le (show x < 2 ^ 64 from hx) (Nat.pow_le_pow_right (by omega) (by omega : 64 ≤ i)))]; simp)
        omega⟩
      have hlow := low_of x h0 hx
      have hf := filter_low x h0 hx (k + 1) (64 - (k + 1)) (by omega) HZ.out
      have hsub : bits .and .u64 (x : Int) ((x : Int) - 1) = ((x &&& (x - 1) : Nat) : Int) := by
        rw [show ((x : Int) - 1) = ((x - 1 : Nat) : Int) by omega, u64_and_nat x _ hx (by omega)]
      have HSub := Aside0.mk hsub
      have HF := Aside0.mk hf
      have HLow := Aside0.mk hlow
      have hpos : 0 < x := by omega
      clear hsub hf hlow h0
      have HX := Aside0.mk hx
      go_wp2_with (first | (go_at_call 68; refine (tz_any x HX.out _ (HT.out.below (by exact HT.out.2) HB.out)).mono ?_; rintro e w' ⟨rfl, rfl⟩) | (at_builtin; refine app_int (w0 := w) .i64 25 3 8 (.tmp 10) (.tmp 13) rfl rfl Tryd.underlying25 info3 (by decide) _ l _ rfl rfl ?aO ?aB ?aL ?_; (case aO => exact HO.out); (case aB => exact HB.out); (case aL => have := HL.out; omega); clear HB HO; intro v1 w1 HO HB HG))
      rw [HSub.out]
      go_roundg k
      case measure => omega
      case rel =>
        refine ⟨x &&& (x - 1), l ++ [((Lib.ctz 64 x : Nat) : Int)], rfl, low_lt x HX.out, by omega, ⟨fun i hi => ?_⟩, ⟨by have := HL.out; simp; omega⟩, ⟨?_⟩, HO, HB⟩
        · by_cases h1 : i < 64 - (k + 1)
          · have h2 := HLow.out.2.1 i; rw [HZ.out i h1] at h2; exact (Bool.or_eq_false_iff.1 h2.symm).2
          · have h3 : i = 64 - (k + 1) := by omega
            apply HLow.out.2.2
            apply Nat.le_of_not_lt; intro h4
            have h2 := HLow.out.2.1 (Lib.ctz 64 x); rw [HZ.out _ (by omega)] at h2; simp at h2
        · rw [← HE.out, HF.out]
          rw [show 64 - (k + 1) + 1 = 64 - k by omega]
          simp

def up (l : List Nat) : List Int := l.map fun n : Nat => (n : Int)
theorem up_length (l : List Nat) : (up l).length = l.length := by simp [up]
theorem up_getD (l : List Nat) (i : Nat) : (up l).getD i 0 = ((nth l i : Nat) : Int) := by
  simp only [nth, up, List.getD_eq_getElem?_getD, List.getElem?_map]
  cases l[i]? <;> simp
/-- A row of nodes (or of sets) that is read. -/
def RdN (k : IntKind) (w : World) (A : Option Addr) (c : Nat) (l : List Nat) : Prop := l.length ≤ c ∧ (Kd.int k).C w A l.length (up l)
theorem RdN.below {k : IntKind} {w w1 : World} {A : Option Addr} {c : Nat} {l : List Nat} (h : RdN k w A c l) (hb : Below w.heap.size w w1) : RdN k w1 A c l := ⟨h.1, Kd.C_below h.2 hb⟩
theorem RdN.cell {k : IntKind} {w : World} {A : Option Addr} {c : Nat} {l : List Nat} (h : RdN k w A c l) (i : Nat) (hi : i < l.length) : ∃ ad, A = some ad ∧ w.cell? (ad.add i) = some (.int k ((nth l i : Nat) : Int)) := by
  have := (Kd.reads_of_C (d := (0 : Int)) h.2).at_ (i : Int) (by omega) (by omega)
  rw [← up_getD]
  simpa [rdOf] using this
theorem RdN.cell0 {k : IntKind} {w : World} {A : Option Addr} {c : Nat} {l : List Nat} (h : RdN k w A c l) (hi : 0 < l.length) : ∃ ad, A = some ad ∧ w.cell? ad = some (.int k ((nth l 0 : Nat) : Int)) := by
  obtain ⟨ad, h1, h2⟩ := h.cell 0 hi
  exact ⟨ad, h1, by rw [show ad.add 0 = ad by unfold Addr.add; simp] at h2; exact h2⟩
theorem RdN.take {k : IntKind} {w : World} {A : Option Addr} {c : Nat} {l : List Nat} (h : RdN k w A c l) (m : Nat) (hm : m ≤ l.length) : RdN k w A c (l.take m) := by
  refine ⟨by rw [List.length_take]; have := h.1; omega, ?_⟩
  have h2 := Kd.C_take (m := m) (xs := up l) (by rw [up_length]; exact h.2) (by rw [up_length]; exact hm)
  rw [show up (l.take m) = (up l).take m from by simp [up, List.map_take]]
  rw [List.length_take, up_length] at h2
  rw [List.length_take]; exact h2
theorem list_rd (s : Nat) (hs : s < 2 ^ 64) (w : World) (hT : TabW w) :
    Calls Tryd.prog 43 #[.int .u64 s] w fun e w' => ∃ A c, e = .returned (.slice A (bl s).length c) ∧ Aside0 (RdN .i64 w' A c (bl s)) ∧ Aside0 (Below w.heap.size w w') :=
  (list_any s hs w hT).mono fun e w' ⟨v0, he, hR, hb⟩ => by
    obtain ⟨A, c, h1, h2, h3⟩ := Kd.R_reads hR
    rw [← up, up_length] at *
    exact ⟨A, c, by rw [he, h1], ⟨h2, h3⟩, ⟨hb⟩⟩

theorem nx {w w1 w2 : World} (h : Aside0 (Below w.heap.size w w1)) (hb : Aside0 (Below w1.heap.size w1 w2)) : Aside0 (Below w.heap.size w w2) := ⟨below_then h.out h.out.size hb.out⟩
theorem bk {w1 w2 : World} {g : Nat} {o : Obj} (h : Aside0 (w1.heap[g]? = some o)) (hb : Aside0 (Below w1.heap.size w1 w2)) : Aside0 (w2.heap[g]? = some o) := ⟨blk_grown h.out (grown_of_below hb.out none) (by simp)⟩
section
variable {P : Program} {ops : Array Oper} {Q : Exit → Act → World → Prop} {a : Act} {rest : List Oper} {o : Oper}
theorem box_ev {w W : World} (N : Tmp) (cs : Array Value) (t : TypeId) (hgd : o.guard = none) (hd : o.dst = some N)
    (hrun : (execOp a.eval o).run P W = .ok (.value (.pointer (some ⟨W.heap.size, 0, none⟩))) (W.alloc (.cells cs t (0, 0)))) (HB : Below w.heap.size w W)
    (h : ∀ g, ∀ w1, Aside0 (w1.heap[g]? = some (.cells cs t (0, 0))) → Aside0 (Below w.heap.size w w1) → Aside0 (w.heap.size ≤ g) → wpList P ops Q rest (a.put o.dst (.pointer (some ⟨g, 0, none⟩))) w1) : wpList P ops Q (o :: rest) a W :=
  box_event hgd hd hrun fun g hg w1 hb hB => h g w1 ⟨hb⟩ ⟨below_then HB HB.size hB⟩ ⟨by rw [hg]; exact HB.size⟩
end
end Go.Proofs.YtgboplcjafmliaaDoor.G

/- Contracts of package network's functions over nets. -/
namespace Go.Proofs.YtgboplcjafmliaaDoor.G
open Go.RowKit Go.Proofs.YtgboplcjafmliaaDoorW.PrintWords Go.Proofs.YtgboplcjafmliaaDoorW.PrintLast Go.Proofs.YtgboplcjafmliaaDoorW.PrintMore
open Go.Proofs.YtgboplcjafmliaaDoor.PAll
set_option linter.unusedVariables false
set_option linter.unusedSimpArgs false

/-- A net as data. -/
structure NetD where
  all : Nat
  by_ : List Nat
  out : List Nat
/-- What a net's numbers are. -/
structure NetD.Ok (n : NetD) (N : Nat) : Prop where
  hN : N ≤ 40
  hb : n.by_.length = N
  ho : n.out.length = N
  ha : n.all = 2 ^ N - 1
  lb : ∀ i, nth n.by_ i < 2 ^ N
  lo : ∀ i, nth n.out i < 2 ^ N
  co : ∀ i j, (nth n.by_ i).testBit j = (nth n.out j).testBit i
theorem p64 {N : Nat} (h : N ≤ 40) {x : Nat} (hx : x < 2 ^ N) : x < 2 ^ 64 := Nat.lt_of_lt_of_le hx (Nat.pow_le_pow_right (by omega) (by omega))
theorem bl_in {N s i : Nat} (h : N ≤ 40) (hs : s < 2 ^ N) (hi : i ∈ bl s) : i < N := by
  have hb := (mem_bl s i (p64 h hs)).1 hi
  apply Nat.lt_of_not_le; intro hle
  rw [Nat.testBit_lt_two_pow (Nat.lt_of_lt_of_le hs (Nat.pow_le_pow_right (by omega) hle))] at hb
  cases hb
/-- How a net reads in memory. -/
def NetV (w : World) (n : NetD) (v : Value) : Prop := ∃ A1 c1 A2 c2, v = .agg #[.int .u64 n.all, .slice A1 n.by_.length c1, .slice A2 n.out.length c2] ∧ RdN .u64 w A1 c1 n.by_ ∧ RdN .u64 w A2 c2 n.out
theorem NetV.below {w w1 : World} {n : NetD} {v : Value} (h : NetV w n v) (hb : Below w.heap.size w w1) : NetV w1 n v := by
  obtain ⟨A1, c1, A2, c2, h1, h2, h3⟩ := h
  exact ⟨A1, c1, A2, c2, h1, h2.below hb, h3.below hb⟩
/-- The union of what a list of rows says of the nodes of a set. -/
def uni (rows : List Nat) (l : List Nat) (a : Nat) : Nat := l.foldl (fun a i => a ||| nth rows i) a
set_option maxHeartbeats 1000000 in
set_option maxRecDepth 100000 in
theorem hit_any (N : Nat) (n : NetD) (hok : n.Ok N) (v : Value) (s : Nat) (hs : s < 2 ^ N) (w : World) (hT : TabW w) (hn : NetV w n v) :
    Calls Tryd.prog 51 #[v, .int .u64 s] w fun e w' => e = .returned (.int .u64 ((uni n.out (bl s) 0 : Nat) : Int)) ∧ Aside0 (Below w.heap.size w w') := by
  obtain ⟨A1, c1, A2, c2, rfl, h2, h3⟩ := hn
  have HT := Aside0.mk hT
  have H3 := Aside0.mk h3
  have HOk := Aside0.mk hok
  have HS := Aside0.mk hs
  have hl : (bl s).length ≤ 64 := bl_length s
  clear hT h2 h3 hok hs
  have HB := Aside0.mk (Below.refl w.heap.size w)
  go_enter Tryd.func51, Tryd.ntmps51
  go_wp2_with (first | ((with_reducible refine gate_dst (N := 2) rfl ?_); refine box_ev (w := w) 2 #[.int .u64 n.all, .slice A1 n.by_.length c1, .slice A2 n.out.length c2] 64 rfl rfl ?hr HB.out ?_; (case hr => go_simp; done); clear HB; intro g w1 BK HB GE) | (go_at_call 43; refine (list_rd s (p64 HOk.out.hN HS.out) _ (HT.out.below HT.out.2 HB.out)).mono ?_; rintro e w2 ⟨A9, c9, rfl, HL, hb⟩; replace HB := nx HB hb; replace BK := bk BK hb; clear hb))
  go_loop [5, 7, 11] (fun v5 v7 v11 => ∃ (k acc : Nat), v11 = .int .i64 k ∧ v5 = .int .u64 acc ∧ k ≤ (bl s).length ∧ Aside0 (acc < 2 ^ 64) ∧ Aside0 (uni n.out ((bl s).drop k) acc = uni n.out (bl s) 0)) (fun _ _ v11 => (bl s).length - (intOf v11).toNat)
  case atStart => exact ⟨0, 0, rfl, rfl, Nat.zero_le _, ⟨by decide⟩, ⟨rfl⟩⟩
  case round =>
    obtain ⟨k, acc, rfl, rfl, hk, HA, HE⟩ := hrel
    by_cases hlt : k < (bl s).length
    · obtain ⟨ad, rfl, hc⟩ := HL.out.cell k hlt
      have hi := bl_in HOk.out.hN HS.out (nth_mem _ k hlt)
      have hd := nth_drop (bl s) k hlt
      generalize nth (bl s) k = i at *
      obtain ⟨ad2, rfl, hc2⟩ := (H3.out.below HB.out).cell i (by rw [HOk.out.ho]; exact hi)
      have ho : i < n.out.length := by rw [HOk.out.ho]; exact hi
      have hg := (blk_cell BK.out 2).trans rfl
      have HD := Aside0.mk hd
      clear hd hi
      have hor := u64_or_nat acc (nth n.out i) HA.out (p64 HOk.out.hN (HOk.out.lo i))
      have HOr := Aside0.mk hor
      clear hor
      go_wp2
      go_round
      case rel =>
        refine ⟨k + 1, acc ||| nth n.out i, by go_num, by rw [HOr.out], hlt, ⟨or_lt _ _ HA.out (p64 HOk.out.hN (HOk.out.lo i))⟩, ⟨?_⟩⟩
        rw [← HE.out, HD.out]; rfl
      case measure => simp [intOf]; omega
    · go_wp2
      go_ret
      have hkl : k = (bl s).length := by omega
      have he := HE.out
      rw [hkl, List.drop_length] at he
      refine ⟨?_, HB⟩
      rw [← he]; rfl
set_option maxHeartbeats 1000000 in
set_option maxRecDepth 100000 in
theorem attackers_any (N : Nat) (n : NetD) (hok : n.Ok N) (v : Value) (s : Nat) (hs : s < 2 ^ N) (w : World) (hT : TabW w) (hn : NetV w n v) :
    Calls Tryd.prog 56 #[v, .int .u64 s] w fun e w' => e = .returned (.int .u64 ((uni n.by_ (bl s) 0 : Nat) : Int)) ∧ Aside0 (Below w.heap.size w w') := by
  obtain ⟨A1, c1, A2, c2, rfl, h2, h3⟩ := hn
  have HT := Aside0.mk hT
  have H2 := Aside0.mk h2
  have HOk := Aside0.mk hok
  have HS := Aside0.mk hs
  have hl : (bl s).length ≤ 64 := bl_length s
  clear hT h2 h3 hok hs
  have HB := Aside0.mk (Below.refl w.heap.size w)
  go_enter Tryd.func56, Tryd.ntmps56
  go_wp2_with (first | ((with_reducible refine gate_dst (N := 2) rfl ?_); refine box_ev (w := w) 2 #[.int .u64 n.all, .slice A1 n.by_.length c1, .slice A2 n.out.length c2] 64 rfl rfl ?hr HB.out ?_; (case hr => go_simp; done); clear HB; intro g w1 BK HB GE) | (go_at_call 43; refine (list_rd s (p64 HOk.out.hN HS.out) _ (HT.out.below HT.out.2 HB.out)).mono ?_; rintro e w2 ⟨A9, c9, rfl, HL, hb⟩; replace HB := nx HB hb; replace BK := bk BK hb; clear hb))
  go_loop [5, 7, 11] (fun v5 v7 v11 => ∃ (k acc : Nat), v11 = .int .i64 k ∧ v5 = .int .u64 acc ∧ k ≤ (bl s).length ∧ Aside0 (acc < 2 ^ 64) ∧ Aside0 (uni n.by_ ((bl s).drop k) acc = uni n.by_ (bl s) 0)) (fun _ _ v11 => (bl s).length - (intOf v11).toNat)
  case atStart => exact ⟨0, 0, rfl, rfl, Nat.zero_le _, ⟨by decide⟩, ⟨rfl⟩⟩
  case round =>
    obtain ⟨k, acc, rfl, rfl, hk, HA, HE⟩ := hrel
    by_cases hlt : k < (bl s).length
    · obtain ⟨ad, rfl, hc⟩ := HL.out.cell k hlt
      have hi := bl_in HOk.out.hN HS.out (nth_mem _ k hlt)
      have hd := nth_drop (bl s) k hlt
      generalize nth (bl s) k = i at *
      obtain ⟨ad2, rfl, hc2⟩ := (H2.out.below HB.out).cell i (by rw [HOk.out.hb]; exact hi)
      have ho : i < n.by_.length := by rw [HOk.out.hb]; exact hi
      have hg := (blk_cell BK.out 1).trans rfl
      have HD := Aside0.mk hd
      clear hd hi
      have hor := u64_or_nat acc (nth n.by_ i) HA.out (p64 HOk.out.hN (HOk.out.lb i))
      have HOr := Aside0.mk hor
      clear hor
      go_wp2
      go_round
      case rel =>
        refine ⟨k + 1, acc ||| nth n.by_ i, by go_num, by rw [HOr.out], hlt, ⟨or_lt _ _ HA.out (p64 HOk.out.hN (HOk.out.lb i))⟩, ⟨?_⟩⟩
        rw [← HE.out, HD.out]; rfl
      case measure => simp [intOf]; omega
    · go_wp2
      go_ret
      have hkl : k = (bl s).length := by omega
      have he := HE.out
      rw [hkl, List.drop_length] at he
      refine ⟨?_, HB⟩
      rw [← he]; rfl

/-- No node of the set attacks one of it. -/
def freeB (n : NetD) (s : Nat) : Bool := uni n.out (bl s) 0 &&& s == 0
theorem uni_lt (rows : List Nat) (N : Nat) (h : ∀ i, nth rows i < 2 ^ N) : ∀ (l : List Nat) (a : Nat), a < 2 ^ N → uni rows l a < 2 ^ N
  | [], a, ha => ha
  | i :: l, a, ha => uni_lt rows N h l _ (Nat.or_lt_two_pow ha (h i))

set_option maxHeartbeats 1000000 in
theorem free_any (N : Nat) (n : NetD) (hok : n.Ok N) (v : Value) (s : Nat) (hs : s < 2 ^ N) (w : World) (hT : TabW w) (hn : NetV w n v) :
    Calls Tryd.prog 55 #[v, .int .u64 s] w fun e w' => e = .returned (.bool (freeB n s)) ∧ Aside0 (Below w.heap.size w w') := by
  have hn0 := hn
  obtain ⟨A1, c1, A2, c2, rfl, h2, h3⟩ := hn
  have HN := Aside0.mk hn0
  have HT := Aside0.mk hT
  have HOk := Aside0.mk hok
  have HS := Aside0.mk hs
  have hk : (bits .and .u64 ((uni n.out (bl s) 0 : Nat) : Int) (s : Int) == 0) = freeB n s := by
    rw [u64_and_nat _ _ (p64 hok.hN (uni_lt _ N hok.lo _ _ (Nat.two_pow_pos N))) (p64 hok.hN hs), freeB]
    rw [Bool.eq_iff_iff]; simp
  have HK := Aside0.mk hk
  clear hT h2 h3 hok hs hn0 hk
  have HB := Aside0.mk (Below.refl w.heap.size w)
  go_enter Tryd.func55, Tryd.ntmps55
  go_wp2_with (first | ((with_reducible refine gate_dst (N := 2) rfl ?_); refine box_ev (w := w) 2 #[.int .u64 n.all, .slice A1 n.by_.length c1, .slice A2 n.out.length c2] 64 rfl rfl ?hr HB.out ?_; (case hr => go_simp; done); clear HB; intro g w1 BK HB GE; have hg0 := (blk_cell BK.out 0).trans rfl; have hg1 := (blk_cell BK.out 1).trans rfl; have hg2 := (blk_cell BK.out 2).trans rfl) | (go_at_call 51; refine (hit_any N n HOk.out _ s HS.out _ (HT.out.below HT.out.2 HB.out) (HN.out.below HB.out)).mono ?_; rintro e w2 ⟨rfl, hb⟩; replace HB := nx HB hb; clear hb))
  go_ret
  rw [HK.out]
  exact ⟨rfl, HB⟩

set_option maxHeartbeats 1000000 in
theorem first_any (s : Nat) (h0 : s ≠ 0) (hs : s < 2 ^ 64) (w : World) (hT : TabW w) :
    Calls Tryd.prog 31 #[.int .u64 s] w fun e w' => e = .returned (.int .i64 ((nth (bl s) 0 : Nat) : Int)) ∧ Aside0 (Below w.heap.size w w') := by
  have hl : 0 < (bl s).length := by
    apply Nat.pos_of_ne_zero; intro h; exact h0 ((bl_nil s hs).1 (List.length_eq_zero_iff.1 h))
  have HT := Aside0.mk hT
  have HS := Aside0.mk hs
  have hl2 : (0 : Int) < ((bl s).length : Int) := by omega
  clear hT hs h0
  go_enter Tryd.func31, Tryd.ntmps31
  go_wp2_with (first | (go_at_call 43; refine (list_rd s HS.out _ HT.out).mono ?_; rintro e w2 ⟨A9, c9, rfl, HL, HB⟩; obtain ⟨ad, rfl, hc⟩ := HL.out.cell0 hl))
  go_ret
  exact ⟨rfl, HB⟩
end Go.Proofs.YtgboplcjafmliaaDoor.G

/- A region that draws its order: its first operations are quiet in a class of worlds (each has one value in every world of the class), the others come behind all of them, in one forced order: one walk serves every order. -/
namespace Go.Proofs.YtgboplcjafmliaaDoor.G
open Go
set_option linter.unusedVariables false
set_option linter.unusedSimpArgs false
/-- The worlds of a class, by an index. -/
structure Gd (S : World → Prop) where
  v : World
  h : S v
section
variable {P : Program} {ops : Array Oper} {md : Region.Mode} {C : World → Prop}

def wpHQ (P : Program) (md : Region.Mode) (ops : Array Oper) (C : World → Prop) (n : Nat) (L : Array Bool → Act → Prop) : Nat → Array Bool → Act → Prop
  | 0, listed, a => L listed a
  | f + 1, listed, a => Region.ready md ops listed ≠ [] ∧ ∀ i ∈ Region.ready md ops listed, i < n ∧ qOp P ops C i (wpHQ P md ops C n L f (listed.setIfInBounds i true)) a

theorem any_of_hq {n g : Nat} {L : Array Bool → Act → Prop} {Q' : Exit → Act → World → Prop} (hL : ∀ listed a w, C w → L listed a → wpAny P md ops Q' g listed a w) :
    ∀ (f : Nat) (listed : Array Bool) (a : Act) (w : World), C w → wpHQ P md ops C n L f listed a → wpAny P md ops Q' (f + g) listed a w
  | 0, listed, a, w, hw, h => by rw [Nat.zero_add]; exact hL _ _ _ hw h
  | f + 1, listed, a, w, hw, h => by
    rw [show f + 1 + g = (f + g) + 1 by omega]
    exact ⟨fun h0 => absurd h0 h.1, fun i hi => wpOp_of_qOp hw (fun a' w' hw' h' => any_of_hq hL f _ a' w' hw' h') (h.2 i hi).2⟩

theorem hq_first {n i : Nat} {oi : Oper} {v : Value} {L : Array Bool → Act → Prop} (hi : ops[i]? = some oi) (hsel : ∀ (j : Nat) (o : Oper) cs b, ops[j]? = some o → o.op ≠ .select cs b)
    (hs : Region.sinkB md ops n = true) (hc : Region.chainB md ops n = true) (hn : n < ops.size) (hin : i < n)
    (hdone : ∀ listed a, L listed a → ∀ j ∈ Region.ready md ops listed, n ≤ j) :
    ∀ (f : Nat) (listed : Array Bool) (a : Act), HeadInv md ops n listed →
      (∀ j oj, ops[j]? = some oj → j ≠ i → listed.getD j true = false → (∀ e ∈ oj.after, Region.binds md e = true → e.on ≠ i) → oi.apart ops oj = true) →
      i ∈ Region.ready md ops listed → YieldsIn P ops C oi v a →
      wpHQ P md ops C n L f (listed.setIfInBounds i true) (a.put oi.dst v) → wpHQ P md ops C n L (f + 1) listed a := by
  intro f
  induction f with
  | zero =>
    intro listed a inv _ hr hy H
    have hun := (mem_ready.1 hr).1
    refine ⟨fun h => (by rw [h] at hr; cases hr), fun j hj => ?_⟩
    have hjn : j < n := by
      rcases Nat.lt_or_ge j n with h | h
      · exact h
      · exact absurd hj (tail_waits hs hc hn inv _ i rfl hin hun j h)
    refine ⟨hjn, ?_⟩
    by_cases hji : j = i
    · subst hji; exact hy.qOp hi H
    · have := hdone _ _ H j (ready_mono hj hji)
      omega
  | succ f ih =>
    intro listed a inv hfree hr hy H
    have hun := (mem_ready.1 hr).1
    refine ⟨fun h => (by rw [h] at hr; cases hr), fun j hj => ?_⟩
    have hjn : j < n := by
      rcases Nat.lt_or_ge j n with h | h
      · exact h
      · exact absurd hj (tail_waits hs hc hn inv _ i rfl hin hun j h)
    refine ⟨hjn, ?_⟩
    by_cases hji : j = i
    · subst hji; exact hy.qOp hi H
    · have h1 := (H.2 j (ready_mono hj hji)).2
      obtain ⟨hjun, oj, hoj, hall⟩ := mem_ready.1 hj
      have hnot : ∀ e ∈ oj.after, Region.binds md e = true → e.on ≠ i := fun e he hb heq => by
        have h1 := hall e he hb
        rw [heq, getD_both hun] at h1
        cases h1
      have h2 := qOp_put hoj (hfree j oj hoj hji hjun hnot) (fun cs b => hsel i oi cs b hi) (fun cs b => hsel j oj cs b hoj) hy h1
      have hfree' : ∀ k ok, ops[k]? = some ok → k ≠ i → (listed.setIfInBounds j true).getD k true = false →
          (∀ e ∈ ok.after, Region.binds md e = true → e.on ≠ i) → oi.apart ops ok = true := fun k ok hk hki hun hno => by
        refine hfree k ok hk hki ?_ hno
        by_cases hjk : j = k
        · subst hjk; exact hjun
        · rw [getD_set_ne true hjk] at hun; exact hun
      refine qOp_mono (fun a' h3 => ih (listed.setIfInBounds j true) a' (inv.set hj hjn) hfree' (ready_mono hr (Ne.symm hji)) h3.1 ?_) h2
      rw [Array.setIfInBounds_comm _ _ hji]
      exact h3.2

theorem hq_lex {n g : Nat} {Lq : Act → Prop} (hsel : Region.noSelect ops = true) (hs : Region.sinkB md ops n = true) (hc : Region.chainB md ops n = true) (hn : n < ops.size) :
    ∀ (l : List Oper) (k : Nat) (listed : Array Bool) (a : Act), (∀ j, j < l.length → l[j]? = ops[k + j]?) → k + l.length = n → HeadInv md ops n listed →
    Region.lexHead md ops g l.length k listed = true → wpQuiet P ops C Lq l a →
    wpHQ P md ops C n (fun listed' a' => Region.seqB md ops g n listed' = true ∧ Lq a') l.length listed a
  | [], k, listed, a, _, hk, _, hB, h => by
    have : k = n := by simpa using hk
    subst this
    exact ⟨by simpa [Region.lexHead] using hB, h⟩
  | o :: l, k, listed, a, hl, hk, inv, hB, h => by
    have h0 : ops[k]? = some o := by simpa using (hl 0 (by simp)).symm
    simp only [List.length_cons, Region.lexHead, Bool.and_eq_true] at hB
    obtain ⟨⟨hr, hf⟩, hB'⟩ := hB
    have hkn : k < n := by simp only [List.length_cons] at hk; omega
    have hr' : k ∈ Region.ready md ops listed := by simpa using hr
    have hst : qOp P ops C k (wpQuiet P ops C Lq l) a := by unfold qOp; simp only [h0]; exact h
    obtain ⟨v, hy, hK⟩ := yieldsIn_of_qOp h0 hst
    exact hq_first h0 (Region.noSelect_spec hsel) hs hc hn hkn (fun listed' a' hL => seqB_ready hL.1) l.length listed a inv (Region.free_spec h0 hf) hr' hy
      (hq_lex hsel hs hc hn l (k + 1) _ _ (fun j hj => by have := hl (j + 1) (by simp; omega); simpa [Nat.add_assoc, Nat.add_comm 1 j] using this) (by simp only [List.length_cons] at hk; omega) (inv.set hr' hkn) hB' hK)

theorem wp_quiet_tail {id : Nat} {Q : Exit → Act → World → Prop} {a : Act} {w : World} {l : List Oper} (C : World → Prop) (n : Nat) (hm : P.follows .mixedOrders = true) (hB : Region.lexTailB .any l.toArray n = true) (hC : C w.drew)
    (h : wpQuiet P l.toArray C (fun a' => ∀ w', C w' → wpList P l.toArray Q (l.drop n) a' w') (l.take n) a) : (Code.region id l.toArray true).wp P Q a w := by
  simp only [Region.lexTailB, Bool.and_eq_true, decide_eq_true_eq] at hB
  obtain ⟨⟨⟨⟨hsel, hn⟩, hs⟩, hc⟩, hlex⟩ := hB
  have hn' : n < l.length := by simpa using hn
  have htl : (l.take n).length = n := by simp; omega
  have hdl : (l.drop n).length = l.toArray.size - n := by simp
  have inv0 : HeadInv .any l.toArray n (Array.replicate l.toArray.size false) :=
    ⟨by simp, fun j oj _ hl => (by rw [getD_replicate_false] at hl; cases hl), fun t _ ht => getD_in (by simpa using ht) (getD_replicate_false _ _)⟩
  have H := hq_lex (md := .any) (g := l.toArray.size - n) hsel hs hc hn (l.take n) 0 _ a (fun j hj => by
    have hj' : j < n := by rw [htl] at hj; exact hj
    simp [hj']) (by simpa using htl) inv0 (by rw [htl]; exact hlex) h
  refine wp_region_any hm ?_
  have := any_of_hq (Q' := Q) (g := l.toArray.size - n) (fun listed a' w' hw' hL => by
    have := wpAny_of_seq (md := .any) (Q' := Q) (l.drop n) n listed a' w' (fun j => by simp [List.getElem?_drop]) (by rw [hdl]; exact hL.1) (hL.2 w' hw')
    rwa [hdl] at this) _ _ _ _ hC H
  rw [htl, show n + (l.toArray.size - n) = l.toArray.size by omega] at this
  exact this

/-- The same where no operation is left for the tail. -/
theorem wp_quiet_cls {id : Nat} {Q : Exit → Act → World → Prop} {a : Act} {w : World} {l : List Oper} (C : World → Prop) (hm : P.follows .mixedOrders = true) (hB : Region.lexB .any l.toArray = true) (hC : C w.drew)
    (h : wpQuiet P l.toArray C (fun a' => ∀ w', C w' → Q .normal a' w') l a) : (Code.region id l.toArray true).wp P Q a w :=
  wp_region_quiet (C := C) hm hB hC (by simpa using h)
end
open Go.RowKit Go.Proofs.YtgboplcjafmliaaDoorW.PrintWords Go.Proofs.YtgboplcjafmliaaDoorW.PrintLast Go.Proofs.YtgboplcjafmliaaDoorW.PrintMore

/-- A world behind w: what lay there lies there; some blocks are known whole. -/
structure St (w : World) (bs : List (Nat × Obj)) (x : World) : Prop where
  hb : Below w.heap.size w x
  blk : ∀ p, p ∈ bs → x.heap[p.1]? = some p.2
theorem St.nx {w x y : World} {bs : List (Nat × Obj)} (h : St w bs x) (hb : Below x.heap.size x y) : St w bs y :=
  ⟨below_then h.hb h.hb.size hb, fun p hp => blk_grown (h.blk p hp) (grown_of_below hb none) (by simp)⟩
theorem St.drew {w x : World} {bs : List (Nat × Obj)} (h : St w bs x) : St w bs x.drew := ⟨h.hb.drew, h.blk⟩
theorem St.drewN {w x : World} {bs : List (Nat × Obj)} (h : St w bs x) (n : Nat) : St w bs (x.drewN n) := ⟨pw_below_drewN h.hb n, h.blk⟩
theorem St.refl (w : World) : St w [] w := ⟨Below.refl _ _, fun p hp => by cases hp⟩
theorem St.at_ {w x : World} {bs : List (Nat × Obj)} (h : St w bs x) {g : Nat} {cs : Array Value} {t : TypeId} (hp : (g, Obj.cells cs t (0, 0)) ∈ bs) (i : Nat) : x.cell? ⟨g, i, none⟩ = cs[i]? := blk_cell (h.blk _ hp) i
theorem St.free_ {w x : World} {bs : List (Nat × Obj)} (h : St w bs x) {g : Nat} {cs : Array Value} {t : TypeId} (hp : (g, Obj.cells cs t (0, 0)) ∈ bs) (i : Nat) : x.frozen? ⟨g, i, none⟩ = false := blk_frozen (h.blk _ hp) i
theorem St.add {w x : World} {bs : List (Nat × Obj)} (h : St w bs x) (o : Obj) : St w ((x.heap.size, o) :: bs) (x.alloc o) :=
  ⟨(h.nx (below_alloc (Below.refl _ _) o)).hb, fun p hp => by
    rcases List.mem_cons.1 hp with rfl | hp
    · exact blk_new x o
    · exact (h.nx (below_alloc (Below.refl _ _) o)).blk p hp⟩
theorem St.gdnx {w x : World} {bs : List (Nat × Obj)} (h : St w bs x) {P : Program} {f : FuncId} {args : Array Value} {v : Value}
    (hc : Calls P f args x fun e w' => e = .returned v ∧ Aside0 (Below x.heap.size x w')) : Calls P f args x fun e w' => e = .returned v ∧ ∃ j : Gd (St w bs), w' = j.v :=
  hc.mono fun e w' ⟨he, hb⟩ => ⟨he, ⟨w', h.nx hb.out⟩, rfl⟩
theorem St.gdsame {w x : World} {bs : List (Nat × Obj)} (h : St w bs x) {P : Program} {f : FuncId} {args : Array Value} {v : Value}
    (hc : Calls P f args x fun e w' => e = .returned v ∧ x = w') : Calls P f args x fun e w' => e = .returned v ∧ ∃ j : Gd (St w bs), w' = j.v :=
  hc.mono fun e w' ⟨he, hb⟩ => ⟨he, ⟨x, h⟩, hb.symm⟩
theorem St.ne {w x : World} {bs : List (Nat × Obj)} (h : St w bs x) : Nonempty (Gd (St w bs)) := ⟨⟨x, h⟩⟩
section
variable {P : Program} {ops : Array Oper} {Q : Exit → Act → World → Prop} {a : Act} {rest : List Oper} {o : Oper}
theorem box_st {w W : World} {bs : List (Nat × Obj)} (N : Tmp) (cs : Array Value) (t : TypeId) (hgd : o.guard = none) (hd : o.dst = some N)
    (hrun : (execOp a.eval o).run P W = .ok (.value (.pointer (some ⟨W.heap.size, 0, none⟩))) (W.alloc (.cells cs t (0, 0)))) (H : St w bs W)
    (h : ∀ g, ∀ w1, Aside0 (St w ((g, .cells cs t (0, 0)) :: bs) w1) → Aside0 (W.heap.size = g) → wpList P ops Q rest (a.put o.dst (.pointer (some ⟨g, 0, none⟩))) w1) : wpList P ops Q (o :: rest) a W :=
  box_event hgd hd hrun fun g hg w1 hb hB => h g w1 ⟨⟨below_then H.hb H.hb.size hB, fun p hp => by
    rcases List.mem_cons.1 hp with rfl | hp
    · exact hb
    · exact (H.nx hB).blk p hp⟩⟩ ⟨hg.symm⟩
end

/-- A world behind w in which some blocks of the call's own, each another one, are known whole. -/
structure Mem (w : World) (bs : List (Nat × Obj)) (x : World) : Prop where
  st : St w bs x
  lo : ∀ p, p ∈ bs → w.heap.size ≤ p.1
  nd : (bs.map fun p => p.1).Nodup
theorem Mem.refl (w : World) : Mem w [] w := ⟨St.refl w, (fun _ h => by cases h), by simp⟩
theorem Mem.nx {w x y : World} {bs : List (Nat × Obj)} (h : Mem w bs x) (hb : Below x.heap.size x y) : Mem w bs y := ⟨h.st.nx hb, h.lo, h.nd⟩
theorem Mem.drew {w x : World} {bs : List (Nat × Obj)} (h : Mem w bs x) : Mem w bs x.drew := ⟨h.st.drew, h.lo, h.nd⟩
theorem Mem.drewN {w x : World} {bs : List (Nat × Obj)} (h : Mem w bs x) (n : Nat) : Mem w bs (x.drewN n) := ⟨h.st.drewN n, h.lo, h.nd⟩
theorem Mem.lt {w x : World} {bs : List (Nat × Obj)} (h : Mem w bs x) (p : Nat × Obj) (hp : p ∈ bs) : p.1 < x.heap.size := blk_lt (h.st.blk p hp)
theorem Mem.add {w x : World} {bs : List (Nat × Obj)} (h : Mem w bs x) (o : Obj) : Mem w ((x.heap.size, o) :: bs) (x.alloc o) :=
  ⟨h.st.add o, fun p hp => by
    rcases List.mem_cons.1 hp with rfl | hp
    · exact h.st.hb.size
    · exact h.lo p hp, by
    rw [List.map_cons, List.nodup_cons]
    refine ⟨fun hm => ?_, h.nd⟩
    obtain ⟨p, hp, he⟩ := List.mem_map.1 hm
    have := h.lt p hp
    omega⟩
theorem Mem.three {w x : World} {bs : List (Nat × Obj)} (h : Mem w bs x) (o1 o2 o3 : Obj) : Mem w ((x.heap.size + 1 + 1, o3) :: (x.heap.size + 1, o2) :: (x.heap.size, o1) :: bs) (((x.alloc o1).alloc o2).alloc o3).drew := by
  have h3 := (((h.add o1).add o2).add o3).drew
  have e1 : (x.alloc o1).heap.size = x.heap.size + 1 := by simp
  have e2 : ((x.alloc o1).alloc o2).heap.size = x.heap.size + 1 + 1 := by simp
  rw [e2, e1] at h3
  exact h3
theorem perm_132 {α : Type} (a b c : α) (l : List α) : (a :: b :: c :: l).Perm (a :: c :: b :: l) := .cons a (.swap c b l)
theorem perm_213 {α : Type} (a b c : α) (l : List α) : (a :: b :: c :: l).Perm (b :: a :: c :: l) := .swap b a _
theorem perm_231 {α : Type} (a b c : α) (l : List α) : (a :: b :: c :: l).Perm (b :: c :: a :: l) := (perm_213 a b c l).trans (.cons b (.swap c a l))
theorem perm_312 {α : Type} (a b c : α) (l : List α) : (a :: b :: c :: l).Perm (c :: a :: b :: l) := (perm_132 a b c l).trans (.swap c a _)
theorem perm_321 {α : Type} (a b c : α) (l : List α) : (a :: b :: c :: l).Perm (c :: b :: a :: l) := (perm_231 a b c l).trans (.swap c b _)
theorem Mem.perm {w x : World} {bs cs : List (Nat × Obj)} (h : Mem w bs x) (hp : bs.Perm cs) : Mem w cs x :=
  ⟨⟨h.st.hb, fun p hm => h.st.blk p (hp.mem_iff.2 hm)⟩, fun p hm => h.lo p (hp.mem_iff.2 hm), (hp.map _).nodup_iff.1 h.nd⟩
theorem perm_4123 {α : Type} (a b c d : α) (l : List α) : (a :: b :: c :: d :: l).Perm (d :: a :: b :: c :: l) := (List.Perm.cons a (perm_312 b c d l)).trans (.swap d a _)
theorem Mem.sub {w x : World} {p : Nat × Obj} {bs : List (Nat × Obj)} (h : Mem w (p :: bs) x) : Mem w bs x :=
  ⟨⟨h.st.hb, fun q hm => h.st.blk q (List.mem_cons_of_mem _ hm)⟩, fun q hm => h.lo q (List.mem_cons_of_mem _ hm), by have := h.nd; rw [List.map_cons, List.nodup_cons] at this; exact this.2⟩
theorem Mem.set {w x : World} {g : Nat} {cs : Array Value} {t : TypeId} {bs : List (Nat × Obj)} (h : Mem w ((g, .cells cs t (0, 0)) :: bs) x) (i : Nat) (v : Value) : Mem w ((g, .cells (cs.setIfInBounds i v) t (0, 0)) :: bs) (x.setCell ⟨g, i, none⟩ v) := by
  have hg := h.lo _ List.mem_cons_self
  refine ⟨⟨Below.setCell h.st.hb (p := ⟨g, i, none⟩) hg v, fun p hp => ?_⟩, fun p hp => ?_, h.nd⟩
  · rcases List.mem_cons.1 hp with rfl | hp
    · exact heap_setCell_same x g i cs t v (h.st.blk _ List.mem_cons_self)
    · rw [heap_setCell_other x _ p.1 v (fun e => by
        have hn := h.nd
        rw [List.map_cons, List.nodup_cons] at hn
        exact hn.1 (List.mem_map.2 ⟨p, hp, e⟩))]
      exact h.st.blk p (List.mem_cons_of_mem _ hp)
  · rcases List.mem_cons.1 hp with rfl | hp
    · exact hg
    · exact h.lo p (List.mem_cons_of_mem _ hp)
section
variable {P : Program} {ops : Array Oper} {Q : Exit → Act → World → Prop} {a : Act} {rest : List Oper} {o : Oper}
theorem box_mem {w W : World} {bs : List (Nat × Obj)} (N : Tmp) (cs : Array Value) (t : TypeId) (hgd : o.guard = none) (hd : o.dst = some N)
    (hrun : (execOp a.eval o).run P W = .ok (.value (.pointer (some ⟨W.heap.size, 0, none⟩))) (W.alloc (.cells cs t (0, 0)))) (H : Mem w bs W)
    (h : ∀ g, ∀ w1, Aside0 (Mem w ((g, .cells cs t (0, 0)) :: bs) w1) → Aside0 (w1 = W.alloc (.cells cs t (0, 0))) → wpList P ops Q rest (a.put o.dst (.pointer (some ⟨g, 0, none⟩))) w1) : wpList P ops Q (o :: rest) a W :=
  Kd.event_run hgd hrun (h _ _ ⟨H.add _⟩ ⟨rfl⟩)
end
end Go.Proofs.YtgboplcjafmliaaDoor.G

/- The contract of game.search, and what it computes. -/
namespace Go.Proofs.YtgboplcjafmliaaDoor.G
open Go.RowKit Go.Proofs.YtgboplcjafmliaaDoorW.PrintWords Go.Proofs.YtgboplcjafmliaaDoorW.PrintLast Go.Proofs.YtgboplcjafmliaaDoorW.PrintMore
open Go.Proofs.YtgboplcjafmliaaDoor.PAll
set_option linter.unusedVariables false
set_option linter.unusedSimpArgs false

/-- The attackers of a set that it does not attack. -/
def openM (n : NetD) (s : Nat) : Nat := sdiff (uni n.by_ (bl s) 0) (uni n.out (bl s) 0)
/-- What search computes, with a bound on the depth. -/
def srch (n : NetD) : Nat → Nat → Option Nat
  | 0, _ => none
  | f + 1, s => if freeB n s = true then (if (bl (openM n s)).length = 0 then some s else (bl (nth n.by_ (nth (bl (openM n s)) 0))).findSome? fun x => srch n f (s ||| 2 ^ x)) else none
def resV (o : Option Nat) : Value := .tuple #[.int .u64 ((o.getD 0 : Nat) : Int), .bool o.isSome]
/-- The nodes that are not in a set. -/
def cov (N s : Nat) : Nat := (List.range N).countP fun i => !s.testBit i
theorem uni_bit (rows : List Nat) (i : Nat) : ∀ (l : List Nat) (a : Nat), (uni rows l a).testBit i = (a.testBit i || l.any fun j => (nth rows j).testBit i)
  | [], a => by simp [uni]
  | j :: l, a => by
    have := uni_bit rows i l (a ||| nth rows j)
    unfold uni at *
    rw [List.foldl_cons, this, Nat.testBit_or, List.any_cons, Bool.or_assoc]
theorem openM_lt {N : Nat} {n : NetD} (hok : n.Ok N) (s : Nat) : openM n s < 2 ^ N := Nat.lt_of_le_of_lt Nat.and_le_left (uni_lt _ N hok.lb _ _ (Nat.two_pow_pos N))
theorem open_new {N : Nat} {n : NetD} (hok : n.Ok N) {s : Nat} (hs : s < 2 ^ N) {y x : Nat} (hy : y ∈ bl (openM n s)) (hx : x ∈ bl (nth n.by_ y)) : s.testBit x = false := by
  have hU := p64 hok.hN (uni_lt _ N hok.lb (bl s) 0 (Nat.two_pow_pos N))
  have hV := p64 hok.hN (uni_lt _ N hok.lo (bl s) 0 (Nat.two_pow_pos N))
  have h1 := (mem_bl _ _ (p64 hok.hN (openM_lt hok s))).1 hy
  unfold openM at h1
  rw [sdiff_bit _ _ _ hU hV, Bool.and_eq_true, uni_bit _ _ (bl s) 0] at h1
  have h2 := (mem_bl _ _ (p64 hok.hN (hok.lb y))).1 hx
  have h3 := h1.2
  rw [uni_bit] at h3
  cases hb : s.testBit x with
  | false => rfl
  | true =>
    have : (bl s).any (fun j => (nth n.out j).testBit y) = true := List.any_eq_true.2 ⟨x, (mem_bl s x (p64 hok.hN hs)).2 hb, by rw [← hok.co]; exact h2⟩
    rw [this] at h3
    simp at h3
theorem countP_dec {x : Nat} (p q : Nat → Bool) (h : ∀ i, i ≠ x → p i = q i) (h0 : p x = false) (h1 : q x = true) : ∀ l : List Nat, l.countP p ≤ l.countP q ∧ (x ∈ l → l.countP p < l.countP q)
  | [] => by simp
  | i :: l => by
    have ih := countP_dec p q h h0 h1 l
    rw [List.countP_cons, List.countP_cons]
    by_cases e : x = i
    · subst e; rw [h0, h1]; simp; omega
    · rw [h i (Ne.symm e)]
      refine ⟨by have := ih.1; omega, fun hm => ?_⟩
      rcases List.mem_cons.1 hm with hm | hm
      · exact absurd hm e
      · have := ih.2 hm; omega
theorem cov_dec {N s x : Nat} (hx : x < N) (h : s.testBit x = false) : cov N (s ||| 2 ^ x) < cov N s :=
  (countP_dec (x := x) _ _ (fun i hi => by simp [Nat.testBit_or, Nat.testBit_two_pow, Ne.symm hi]) (by simp [Nat.testBit_or, Nat.testBit_two_pow]) (by simp [h]) (List.range N)).2 (List.mem_range.2 hx)

set_option maxHeartbeats 2000000 in
set_option maxRecDepth 100000 in
theorem search_any (N : Nat) (n : NetD) (hok : n.Ok N) : ∀ (f s : Nat) (hs : s < 2 ^ N) (hf : cov N s < f) (v : Value) (w : World) (hT : TabW w) (hn : NetV w n v),
    Calls Tryd.prog 27 #[v, .int .u64 s] w fun e w' => e = .returned (resV (srch n f s)) ∧ Aside0 (Below w.heap.size w w') := by
  have HOk := Aside0.mk hok
  clear hok
  intro f
  induction f with
  | zero => intro s hs hf; omega
  | succ f ih =>
  have IH := Aside0.mk ih
  clear ih
  intro s hs hf v w hT hn
  have hn0 := hn
  obtain ⟨A1, c1, A2, c2, rfl, h2, h3⟩ := hn
  have HN := Aside0.mk hn0
  have H2 := Aside0.mk h2
  have HT := Aside0.mk hT
  have HS := Aside0.mk hs
  have HF := Aside0.mk hf
  clear hT h2 h3 hs hn0 hf
  have HB := Aside0.mk (St.refl w)
  let O : Obj := .cells #[.int .u64 n.all, .slice A1 n.by_.length c1, .slice A2 n.out.length c2] 64 (0, 0)
  have hand : bits .andNot .u64 ((uni n.by_ (bl s) 0 : Nat) : Int) ((uni n.out (bl s) 0 : Nat) : Int) = ((openM n s : Nat) : Int) := u64_andNot_nat _ _ (p64 HOk.out.hN (uni_lt _ N HOk.out.lb _ _ (Nat.two_pow_pos N))) (p64 HOk.out.hN (uni_lt _ N HOk.out.lo _ _ (Nat.two_pow_pos N)))
  have HAnd := Aside0.mk hand
  clear hand
  by_cases hfr : freeB n s = true
  · by_cases hemp : (bl (openM n s)).length = 0
    · have hres : srch n (f + 1) s = some s := by rw [srch, if_pos hfr, if_pos hemp]
      rw [hres]
      have e0 : (((bl (openM n s)).length : Int) == 0) = true := by rw [hemp]; rfl
      clear hres hemp
      go_enter Tryd.func27, Tryd.ntmps27
      go_wp2_with (first | ((with_reducible refine gate_dst (N := 2) rfl ?_); refine box_st (w := w) 2 #[.int .u64 n.all, .slice A1 n.by_.length c1, .slice A2 n.out.length c2] 64 rfl rfl ?hr HB.out ?_; (case hr => go_simp; done); clear HB; intro g w1 HB GE; have hg0 := (HB.out.at_ (List.mem_cons_self) 0).trans rfl; have hg1 := (HB.out.at_ (List.mem_cons_self) 1).trans rfl; have hg2 := (HB.out.at_ (List.mem_cons_self) 2).trans rfl) | (go_at_call 55; refine (free_any N n HOk.out _ s HS.out _ (HT.out.below HT.out.2 HB.out.hb) (HN.out.below HB.out.hb)).mono ?_; rintro e w2 ⟨rfl, hb⟩; replace HB := Aside0.mk (HB.out.nx hb.out); clear hb hg0 hg1 hg2))
      haveI : Nonempty (Gd (St w [(g, O)])) := HB.out.ne
      have hs0 : ∀ i : Gd (St w [(g, O)]), i.v.cell? ⟨g, 0, none⟩ = some (.int .u64 n.all) := fun i => (i.h.at_ List.mem_cons_self 0).trans rfl
      have hs1 : ∀ i : Gd (St w [(g, O)]), i.v.cell? ⟨g, 1, none⟩ = some (.slice A1 n.by_.length c1) := fun i => (i.h.at_ List.mem_cons_self 1).trans rfl
      have hs2 : ∀ i : Gd (St w [(g, O)]), i.v.cell? ⟨g, 2, none⟩ = some (.slice A2 n.out.length c2) := fun i => (i.h.at_ List.mem_cons_self 2).trans rfl
      refine wp_quiet_tail (fun x => ∃ i : Gd (St w [(g, O)]), x = i.v) 7 (by kernel_rfl) (by kernel_rfl) ⟨⟨w2.drew, HB.out.drew⟩, rfl⟩ ?_
      simp only [List.take, List.drop]
      have C56 := Aside0.mk (fun i : Gd (St w [(g, O)]) => i.h.gdnx (attackers_any N n HOk.out _ s HS.out i.v (HT.out.below HT.out.2 i.h.hb) (HN.out.below i.h.hb)))
      have C51 := Aside0.mk (fun i : Gd (St w [(g, O)]) => i.h.gdnx (hit_any N n HOk.out _ s HS.out i.v (HT.out.below HT.out.2 i.h.hb) (HN.out.below i.h.hb)))
      repeat (quiet_step (first | (go_at_call 56; exact C56.out _) | (go_at_call 51; exact C51.out _)))
      refine wpQuiet_nil ?_
      clear C56 C51 hs0 hs1 hs2 this HB
      rintro _ ⟨⟨w3, hb3⟩, rfl⟩
      have HB := Aside0.mk hb3
      clear hb3
      rw [HAnd.out]
      go_wp2_with (first | (go_at_call 43; refine (list_rd (openM n s) (p64 HOk.out.hN (openM_lt HOk.out s)) _ (HT.out.below HT.out.2 HB.out.hb)).mono ?_; rintro e w4 ⟨A6, c6, rfl, HL, hb⟩; replace HB := Aside0.mk (HB.out.nx hb.out); clear hb))
      go_ret2
      exact ⟨rfl, ⟨HB.out.hb⟩⟩
    · have hem2 : 0 < (bl (openM n s)).length := by omega
      have hres : srch n (f + 1) s = (bl (nth n.by_ (nth (bl (openM n s)) 0))).findSome? fun x => srch n f (s ||| 2 ^ x) := by rw [srch, if_pos hfr, if_neg hemp]
      rw [hres]
      clear hres hemp
      have hy0 := nth_mem _ 0 hem2
      have hy := bl_in HOk.out.hN (openM_lt HOk.out s) hy0
      have HNew := Aside0.mk (fun x (hx : x ∈ bl (nth n.by_ (nth (bl (openM n s)) 0))) => open_new HOk.out HS.out hy0 hx)
      clear hy0
      obtain ⟨y, hyy⟩ : ∃ y, nth (bl (openM n s)) 0 = y := ⟨_, rfl⟩
      rw [hyy] at hy HNew ⊢
      have HY := Aside0.mk hyy
      clear hyy
      have e0 : (((bl (openM n s)).length : Int) == 0) = false := by rw [beq_eq_false_iff_ne]; omega
      go_enter Tryd.func27, Tryd.ntmps27
      go_wp2_with (first | ((with_reducible refine gate_dst (N := 2) rfl ?_); refine box_st (w := w) 2 #[.int .u64 n.all, .slice A1 n.by_.length c1, .slice A2 n.out.length c2] 64 rfl rfl ?hr HB.out ?_; (case hr => go_simp; done); clear HB; intro g w1 HB GE; have hg0 := (HB.out.at_ (List.mem_cons_self) 0).trans rfl; have hg1 := (HB.out.at_ (List.mem_cons_self) 1).trans rfl; have hg2 := (HB.out.at_ (List.mem_cons_self) 2).trans rfl) | (go_at_call 55; refine (free_any N n HOk.out _ s HS.out _ (HT.out.below HT.out.2 HB.out.hb) (HN.out.below HB.out.hb)).mono ?_; rintro e w2 ⟨rfl, hb⟩; replace HB := Aside0.mk (HB.out.nx hb.out); clear hb hg0 hg1 hg2))
      haveI : Nonempty (Gd (St w [(g, O)])) := HB.out.ne
      have hs0 : ∀ i : Gd (St w [(g, O)]), i.v.cell? ⟨g, 0, none⟩ = some (.int .u64 n.all) := fun i => (i.h.at_ List.mem_cons_self 0).trans rfl
      have hs1 : ∀ i : Gd (St w [(g, O)]), i.v.cell? ⟨g, 1, none⟩ = some (.slice A1 n.by_.length c1) := fun i => (i.h.at_ List.mem_cons_self 1).trans rfl
      have hs2 : ∀ i : Gd (St w [(g, O)]), i.v.cell? ⟨g, 2, none⟩ = some (.slice A2 n.out.length c2) := fun i => (i.h.at_ List.mem_cons_self 2).trans rfl
      refine wp_quiet_tail (fun x => ∃ i : Gd (St w [(g, O)]), x = i.v) 7 (by kernel_rfl) (by kernel_rfl) ⟨⟨w2.drew, HB.out.drew⟩, rfl⟩ ?_
      simp only [List.take, List.drop]
      have C56 := Aside0.mk (fun i : Gd (St w [(g, O)]) => i.h.gdnx (attackers_any N n HOk.out _ s HS.out i.v (HT.out.below HT.out.2 i.h.hb) (HN.out.below i.h.hb)))
      have C51 := Aside0.mk (fun i : Gd (St w [(g, O)]) => i.h.gdnx (hit_any N n HOk.out _ s HS.out i.v (HT.out.below HT.out.2 i.h.hb) (HN.out.below i.h.hb)))
      repeat (quiet_step (first | (go_at_call 56; exact C56.out _) | (go_at_call 51; exact C51.out _)))
      refine wpQuiet_nil ?_
      clear C56 C51 hs0 hs1 hs2 this HB
      rintro _ ⟨⟨w3, hb3⟩, rfl⟩
      have HB := Aside0.mk hb3
      clear hb3
      rw [HAnd.out]
      go_wp2_with (first | (go_at_call 43; refine (list_rd (openM n s) (p64 HOk.out.hN (openM_lt HOk.out s)) _ (HT.out.below HT.out.2 HB.out.hb)).mono ?_; rintro e w4 ⟨A6, c6, rfl, HL, hb⟩; replace HB := Aside0.mk (HB.out.nx hb.out); clear hb))
      obtain ⟨ad6, rfl, hc6⟩ := HL.out.cell0 hem2
      rw [HY.out] at hc6
      have hyl : y < n.by_.length := by rw [HOk.out.hb]; exact hy
      have hyi : (y : Int) < (n.by_.length : Int) := by omega
      have hemi : (0 : Int) < ((bl (openM n s)).length : Int) := by omega
      obtain ⟨ad1, rfl, hc1⟩ := (H2.out.below HB.out.hb).cell y hyl
      have hg1 := (HB.out.at_ (List.mem_cons_self) 1).trans rfl
      go_region_held3 (fun w' => w'.cell? ⟨g, 1, none⟩ = some (.slice (some ad1) n.by_.length c1) ∧ w'.cell? ad6 = some (.int .i64 y) ∧ w'.cell? (ad1.add y) = some (.int .u64 (nth n.by_ y))) (first | go_keep | exact ⟨pw_cell_below hb.out hg1, pw_cell_below hb.out hc6, pw_cell_below hb.out hc1⟩)
        (first | (go_at_call 43; refine (list_rd (nth n.by_ y) (p64 HOk.out.hN (HOk.out.lb y)) _ (HT.out.below HT.out.2 HB.out.hb.drew)).mono ?_; rintro e w5 ⟨A34, c34, rfl, HL34, hb⟩))
      have HB5 := Aside0.mk (HB.out.drew.nx hb.out)
      have HW5 : Aside0 (St w5 [(g, O)] w5) := ⟨⟨Below.refl _ _, HB5.out.blk⟩⟩
      have hl64 := bl_length (nth n.by_ y)
      clear HB hb hg1 hc1 hc6 hemi hyi
      go_wp2
      go_loopw [36] (fun v36 w' => ∃ k : Nat, v36 = .int .i64 k ∧ k ≤ (bl (nth n.by_ y)).length ∧ Aside0 (((bl (nth n.by_ y)).drop k).findSome? (fun x => srch n f (s ||| 2 ^ x)) = (bl (nth n.by_ y)).findSome? fun x => srch n f (s ||| 2 ^ x)) ∧ Aside0 (St w5 [(g, O)] w')) (fun v36 _ => (bl (nth n.by_ y)).length - (intOf v36).toNat)
      case atStart => exact ⟨0, rfl, Nat.zero_le _, ⟨rfl⟩, HW5⟩
      case round =>
        obtain ⟨k, rfl, hk, HE, HW⟩ := hrel
        by_cases hlt : k < (bl (nth n.by_ y)).length
        · obtain ⟨ad, rfl, hc⟩ := (HL34.out.below HW.out.hb).cell k hlt
          have hx0 := nth_mem _ k hlt
          have hx := bl_in HOk.out.hN (HOk.out.lb y) hx0
          have hxs := HNew.out _ hx0
          have HD := Aside0.mk (nth_drop _ k hlt)
          clear hx0
          generalize nth (bl (nth n.by_ y)) k = x at *
          have HXs := Aside0.mk hxs
          clear hxs
          have HL1 : Aside0 (s ||| 2 ^ x < 2 ^ N) := ⟨Nat.or_lt_two_pow HS.out (Nat.pow_lt_pow_right (by omega) hx)⟩
          have hcv := cov_dec hx HXs.out
          have HCv : Aside0 (cov N (s ||| 2 ^ x) < f) := ⟨by have := HF.out; omega⟩
          clear hcv
          go_wp2
          haveI : Nonempty (Gd (St wr [(g, O)])) := ⟨⟨wr, ⟨Below.refl _ _, HW.out.blk⟩⟩⟩
          have hs0 : ∀ i : Gd (St wr [(g, O)]), i.v.cell? ⟨g, 0, none⟩ = some (.int .u64 n.all) := fun i => (i.h.at_ List.mem_cons_self 0).trans rfl
          have hs1 : ∀ i : Gd (St wr [(g, O)]), i.v.cell? ⟨g, 1, none⟩ = some (.slice (some ad1) n.by_.length c1) := fun i => (i.h.at_ List.mem_cons_self 1).trans rfl
          have hs2 : ∀ i : Gd (St wr [(g, O)]), i.v.cell? ⟨g, 2, none⟩ = some (.slice A2 n.out.length c2) := fun i => (i.h.at_ List.mem_cons_self 2).trans rfl
          have C28 := Aside0.mk (fun i : Gd (St wr [(g, O)]) => i.h.gdsame (with_any s x (p64 HOk.out.hN HS.out) (Nat.lt_of_lt_of_le hx (Nat.le_trans HOk.out.hN (by omega))) i.v))
          have HBr := Aside0.mk (HB5.out.nx HW.out.hb)
          have C27 := Aside0.mk (fun i : Gd (St wr [(g, O)]) => i.h.gdnx (IH.out (s ||| 2 ^ x) HL1.out HCv.out _ i.v ((HT.out.below HT.out.2 HBr.out.hb).below (HT.out.below HT.out.2 HBr.out.hb).2 i.h.hb) ((HN.out.below HBr.out.hb).below i.h.hb)))
          cases hsr : srch n f (s ||| 2 ^ x) with
          | none =>
            rw [hsr] at C27
            unfold resV at C27
            have HSr := Aside0.mk hsr
            clear hsr
            refine wp_quiet_cls (fun x => ∃ i : Gd (St wr [(g, O)]), x = i.v) (by kernel_rfl) (by kernel_rfl) ⟨⟨wr.drew, ⟨(Below.refl _ _).drew, HW.out.blk⟩⟩, rfl⟩ ?_
            repeat (quiet_step (first | (go_at_call 28; exact C28.out _) | (go_at_call 27; exact C27.out _)))
            refine wpQuiet_nil ?_
            clear C28 C27 hs0 hs1 hs2 this hc
            rintro _ ⟨⟨w6, hb6⟩, rfl⟩
            have HW6 := Aside0.mk (HW.out.nx hb6.hb)
            clear hb6
            go_wp2
            go_roundw
            case rel => exact ⟨k + 1, by go_num, hlt, ⟨by rw [← HE.out, HD.out, List.findSome?_cons, HSr.out]⟩, HW6⟩
            case measure => simp [intOf]; omega
          | some t =>
            rw [hsr] at C27
            unfold resV at C27
            have HSr := Aside0.mk hsr
            clear hsr
            refine wp_quiet_cls (fun x => ∃ i : Gd (St wr [(g, O)]), x = i.v) (by kernel_rfl) (by kernel_rfl) ⟨⟨wr.drew, ⟨(Below.refl _ _).drew, HW.out.blk⟩⟩, rfl⟩ ?_
            repeat (quiet_step (first | (go_at_call 28; exact C28.out _) | (go_at_call 27; exact C27.out _)))
            refine wpQuiet_nil ?_
            clear C28 C27 hs0 hs1 hs2 this hc
            rintro _ ⟨⟨w6, hb6⟩, rfl⟩
            have HW6 := Aside0.mk (HW.out.nx hb6.hb)
            clear hb6
            go_wp2
            go_ret2
            refine ⟨?_, ⟨(HB5.out.nx HW6.out.hb).hb⟩⟩
            rw [← HE.out, HD.out, List.findSome?_cons, HSr.out]; rfl
        · go_wp2
          go_ret2
          have hkl : k = (bl (nth n.by_ y)).length := by omega
          have he := HE.out
          rw [hkl, List.drop_length] at he
          refine ⟨?_, ⟨(HB5.out.nx HW.out.hb).hb⟩⟩
          rw [← he]; rfl
  · have hres : srch n (f + 1) s = none := by rw [srch, if_neg hfr]
    rw [hres]
    clear hres
    have hfr : freeB n s = false := by simpa using hfr
    go_enter Tryd.func27, Tryd.ntmps27
    go_wp2_with (first | ((with_reducible refine gate_dst (N := 2) rfl ?_); refine box_st (w := w) 2 #[.int .u64 n.all, .slice A1 n.by_.length c1, .slice A2 n.out.length c2] 64 rfl rfl ?hr HB.out ?_; (case hr => go_simp; done); clear HB; intro g w1 HB GE; have hg0 := (HB.out.at_ (List.mem_cons_self) 0).trans rfl; have hg1 := (HB.out.at_ (List.mem_cons_self) 1).trans rfl; have hg2 := (HB.out.at_ (List.mem_cons_self) 2).trans rfl) | (go_at_call 55; refine (free_any N n HOk.out _ s HS.out _ (HT.out.below HT.out.2 HB.out.hb) (HN.out.below HB.out.hb)).mono ?_; rintro e w2 ⟨rfl, hb⟩; replace HB := Aside0.mk (HB.out.nx hb.out); clear hb hg0 hg1 hg2))
    go_ret2
    exact ⟨rfl, ⟨HB.out.hb⟩⟩
end Go.Proofs.YtgboplcjafmliaaDoor.G

/- The contract of Net.Grounded, and what it computes. -/
namespace Go.Proofs.YtgboplcjafmliaaDoor.G
open Go.RowKit Go.Proofs.YtgboplcjafmliaaDoorW.PrintWords Go.Proofs.YtgboplcjafmliaaDoorW.PrintLast Go.Proofs.YtgboplcjafmliaaDoorW.PrintMore
open Go.Proofs.YtgboplcjafmliaaDoor.PAll
set_option linter.unusedVariables false
set_option linter.unusedSimpArgs false

/-- A node that a set defends (out: what the set attacks). -/
def okB (n : NetD) (out i : Nat) : Bool := sdiff (nth n.by_ i) out == 0
def gfold (n : NetD) (out : Nat) (l : List Nat) (a : Nat) : Nat := l.foldl (fun a i => if okB n out i then a ||| 2 ^ i else a) a
def gstep (n : NetD) (s : Nat) : Nat := gfold n (uni n.out (bl s) 0) (bl n.all) s
/-- The rounds of Grounded, with a bound on their number. -/
def grd (n : NetD) : Nat → Nat → List Nat
  | 0, _ => []
  | f + 1, s => if gstep n s = s then [] else gstep n s :: grd n f (gstep n s)
theorem gfold_bit (n : NetD) (out i : Nat) : ∀ (l : List Nat) (a : Nat), (gfold n out l a).testBit i = (a.testBit i || (l.contains i && okB n out i))
  | [], a => by simp [gfold]
  | j :: l, a => by
    have := gfold_bit n out i l (if okB n out j then a ||| 2 ^ j else a)
    unfold gfold at *
    rw [List.foldl_cons, this]
    rw [List.contains_cons]
    by_cases e : i = j
    · subst e
      by_cases h : okB n out i = true
      · rw [if_pos h, h]; simp [Nat.testBit_or, Nat.testBit_two_pow]
      · rw [if_neg h]; simp [h]
    · have he : (i == j) = false := by rw [beq_eq_false_iff_ne]; exact e
      rw [he, Bool.false_or]
      congr 1
      split
      · simp [Nat.testBit_or, Nat.testBit_two_pow, Ne.symm e]
      · rfl
theorem gfold_lt {N : Nat} (n : NetD) (out : Nat) : ∀ (l : List Nat) (a : Nat), (∀ i, i ∈ l → i < N) → a < 2 ^ N → gfold n out l a < 2 ^ N
  | [], a, _, h => h
  | j :: l, a, hl, h => by
    have := gfold_lt n out l (if okB n out j then a ||| 2 ^ j else a) (fun i hi => hl i (List.mem_cons_of_mem _ hi)) (by
      split
      · exact Nat.or_lt_two_pow h (Nat.pow_lt_pow_right (by omega) (hl j List.mem_cons_self))
      · exact h)
    exact this
theorem all_lt {N : Nat} {n : NetD} (hok : n.Ok N) : n.all < 2 ^ N := by
  rw [hok.ha]; have := Nat.two_pow_pos N; omega
theorem mem_all {N : Nat} {n : NetD} (hok : n.Ok N) (i : Nat) : i ∈ bl n.all ↔ i < N := by
  rw [mem_bl _ _ (p64 hok.hN (all_lt hok)), hok.ha, Nat.testBit_two_pow_sub_one]; simp
theorem gstep_lt {N : Nat} {n : NetD} (hok : n.Ok N) (s : Nat) (hs : s < 2 ^ N) : gstep n s < 2 ^ N := gfold_lt n _ _ _ (fun i hi => (mem_all hok i).1 hi) hs
theorem gstep_bit {N : Nat} {n : NetD} (hok : n.Ok N) (s i : Nat) : (gstep n s).testBit i = (s.testBit i || (decide (i < N) && okB n (uni n.out (bl s) 0) i)) := by
  unfold gstep
  rw [gfold_bit]
  congr 2
  rw [Bool.eq_iff_iff]; simp [mem_all hok]
theorem cov_lt {N s t : Nat} (ht : t < 2 ^ N) (hs : s < 2 ^ N) (h : ∀ i, s.testBit i = true → t.testBit i = true) (hne : t ≠ s) : cov N t < cov N s := by
  have hx : ∃ x, t.testBit x = true ∧ s.testBit x = false := by
    apply Classical.byContradiction; intro hno
    apply hne
    apply Nat.eq_of_testBit_eq; intro i
    cases h1 : s.testBit i with
    | true => exact h i h1
    | false =>
      cases h2 : t.testBit i with
      | false => rfl
      | true => exact absurd ⟨i, h2, h1⟩ hno
  obtain ⟨x, hx1, hx2⟩ := hx
  have hxN : x < N := by
    apply Nat.lt_of_not_le; intro hle
    rw [Nat.testBit_lt_two_pow (Nat.lt_of_lt_of_le ht (Nat.pow_le_pow_right (by omega) hle))] at hx1; cases hx1
  unfold cov
  have key : ∀ l : List Nat, (l.countP fun i => !t.testBit i) ≤ (l.countP fun i => !s.testBit i) ∧ (x ∈ l → (l.countP fun i => !t.testBit i) < (l.countP fun i => !s.testBit i)) := by
    intro l
    induction l with
    | nil => simp
    | cons i l ih =>
      rw [List.countP_cons, List.countP_cons]
      have hle : (if (!t.testBit i) = true then 1 else 0) ≤ (if (!s.testBit i) = true then 1 else 0 : Nat) := by
        cases h1 : s.testBit i with
        | true => rw [h i h1]; simp
        | false => cases t.testBit i <;> simp
      refine ⟨by have := ih.1; omega, fun hm => ?_⟩
      rcases List.mem_cons.1 hm with rfl | hm
      · rw [hx1, hx2]; have := ih.1; simp; omega
      · have := ih.2 hm; omega
  exact (key (List.range N)).2 (List.mem_range.2 hxN)

set_option maxHeartbeats 4000000 in
set_option maxRecDepth 100000 in
theorem rounds_any (N : Nat) (n : NetD) (hok : n.Ok N) (v : Value) (w : World) (hT : TabW w) (hn : NetV w n v) :
    Calls Tryd.prog 49 #[v] w fun e w' => ∃ A c, e = .returned (.slice A (grd n (N + 1) 0).length c) ∧ Aside0 (RdN .u64 w' A c (grd n (N + 1) 0)) ∧ Aside0 (Below w.heap.size w w') := by
  have hn0 := hn
  obtain ⟨A1, c1, A2, c2, rfl, h2, h3⟩ := hn
  have HN := Aside0.mk hn0
  have H2 := Aside0.mk h2
  have HT := Aside0.mk hT
  have HOk := Aside0.mk hok
  clear hT h2 h3 hok hn0
  have HB := Aside0.mk (St.refl w)
  let O : Obj := .cells #[.int .u64 n.all, .slice A1 n.by_.length c1, .slice A2 n.out.length c2] 64 (0, 0)
  go_enter Tryd.func49, Tryd.ntmps49
  go_wp2_with (first | ((with_reducible refine gate_dst (N := 1) rfl ?_); refine box_st (w := w) 1 #[.int .u64 n.all, .slice A1 n.by_.length c1, .slice A2 n.out.length c2] 64 rfl rfl ?hr HB.out ?_; (case hr => go_simp; done); clear HB; intro g w1 HB GE))
  go_loopg [3, 4, 5, 6, 8] (N + 1) (fun k v3 v4 v5 v6 v8 w' => ∃ (acc : List Nat) (s : Nat), v4 = .int .u64 s ∧ Aside0 (s < 2 ^ N) ∧ Aside0 (cov N s < k) ∧ Aside0 (acc.length + k ≤ N + 1) ∧ Aside0 (acc ++ grd n k s = grd n (N + 1) 0) ∧ Aside0 ((Kd.int .u64).R 61 w' w.heap.size (fun _ => True) v3 (up acc)) ∧ Aside0 (St w [(g, O)] w'))
  case atStart => exact ⟨[], 0, rfl, ⟨Nat.two_pow_pos N⟩, ⟨by unfold cov; have := List.countP_le_length (p := fun i => !(0 : Nat).testBit i) (l := List.range N); simp at this ⊢⟩, ⟨by simp⟩, ⟨by simp⟩, ⟨Kd.R_nil _ _ _ _ _⟩, HB⟩
  case round =>
    clear HB
    obtain ⟨acc, s, rfl, HS, HC, HL, HE, HO, HW⟩ := hrel
    obtain ⟨k, rfl⟩ : ∃ k, gk = k + 1 := ⟨gk - 1, by have := HC.out; omega⟩
    have hg0 := (HW.out.at_ (.head _) 0).trans rfl
    have hg1 := (HW.out.at_ (.head _) 1).trans rfl
    have hg2 := (HW.out.at_ (.head _) 2).trans rfl
    have HU := Aside0.mk (uni_lt _ N HOk.out.lo (bl s) 0 (Nat.two_pow_pos N))
    obtain ⟨u, hu⟩ : ∃ u, uni n.out (bl s) 0 = u := ⟨_, rfl⟩
    rw [hu] at HU
    have hgs : gstep n s = gfold n u (bl n.all) s := by rw [gstep, hu]
    have HHit := Aside0.mk (fun (x : World) (h1 : TabW x) (h2 : NetV x n (.agg #[.int .u64 n.all, .slice A1 n.by_.length c1, .slice A2 n.out.length c2])) => hit_any N n HOk.out _ s HS.out x h1 h2)
    rw [hu] at HHit
    have HGs := Aside0.mk hgs
    clear hu hgs
    go_wp2_with (first | (go_at_call 51; refine (HHit.out _ (HT.out.below HT.out.2 HW.out.hb) (HN.out.below HW.out.hb)).mono ?_; rintro e w2 ⟨rfl, hb2⟩; have HO2 : Aside0 ((Kd.int .u64).R 61 w2 w.heap.size (fun _ => True) u3 (up acc)) := ⟨Kd.R_below HO.out hb2.out⟩; clear HO; replace HW := Aside0.mk (HW.out.nx hb2.out); clear hb2 hg0 hg1 hg2; have hg0 := (HW.out.at_ (.head _) 0).trans rfl) | (go_at_call 43; refine (list_rd n.all (p64 HOk.out.hN (all_lt HOk.out)) _ (HT.out.below HT.out.2 HW.out.hb)).mono ?_; rintro e w3 ⟨A15, c15, rfl, HL15, hb3⟩; have HO3 : Aside0 ((Kd.int .u64).R 61 w3 w.heap.size (fun _ => True) u3 (up acc)) := ⟨Kd.R_below HO2.out hb3.out⟩; clear HO2; replace HW := Aside0.mk (HW.out.nx hb3.out); clear hb3 hg0))
    have hl64 := bl_length n.all
    go_loop [6, 8, 17] (fun v6 v8 v17 => ∃ j a : Nat, v17 = .int .i64 j ∧ j ≤ (bl n.all).length ∧ v6 = .int .u64 a ∧ Aside0 (a < 2 ^ N) ∧ Aside0 (gfold n u ((bl n.all).drop j) a = gfold n u (bl n.all) s)) (fun _ _ v17 => (bl n.all).length - (intOf v17).toNat)
    case atStart => exact ⟨0, s, rfl, Nat.zero_le _, rfl, HS, ⟨rfl⟩⟩
    case round =>
      obtain ⟨j, a, rfl, hj, rfl, HA, HF⟩ := hrel
      by_cases hlt : j < (bl n.all).length
      · obtain ⟨ad, rfl, hc⟩ := HL15.out.cell j hlt
        have hi := (mem_all HOk.out _).1 (nth_mem _ j hlt)
        have HD := Aside0.mk (nth_drop _ j hlt)
        generalize nth (bl n.all) j = i at *
        obtain ⟨ad1, rfl, hc1⟩ := (H2.out.below HW.out.hb).cell i (by rw [HOk.out.hb]; exact hi)
        have hg1 := (HW.out.at_ (.head _) 1).trans rfl
        have hil : i < n.by_.length := by rw [HOk.out.hb]; exact hi
        have hi64 : i < 64 := Nat.lt_of_lt_of_le hi (Nat.le_trans HOk.out.hN (by omega))
        have hok1 : (bits .andNot .u64 ((nth n.by_ i : Nat) : Int) ((u : Nat) : Int) == 0) = okB n u i := by
          rw [u64_andNot_nat _ _ (p64 HOk.out.hN (HOk.out.lb i)) (p64 HOk.out.hN HU.out), okB, Bool.eq_iff_iff]
          simp [sdiff]
        have HWi := Aside0.mk (fun x : World => with_any a i (p64 HOk.out.hN HA.out) hi64 x)
        have HA2 : Aside0 (a ||| 2 ^ i < 2 ^ N) := ⟨Nat.or_lt_two_pow HA.out (Nat.pow_lt_pow_right (by omega) hi)⟩
        cases hb : okB n u i with
        | true =>
          rw [hb] at hok1
          have HBi := Aside0.mk hb
          clear hb
          go_wp2_with (first | (go_at_call 28; refine (HWi.out _).mono ?_; rintro e w' ⟨rfl, rfl⟩))
          refine ⟨⟨j + 1, a ||| 2 ^ i, by go_num, hlt, rfl, HA2, ⟨?_⟩⟩, by simp [intOf]; omega⟩
          rw [← HF.out, HD.out]; simp [gfold, HBi.out]
        | false =>
          rw [hb] at hok1
          have HBi := Aside0.mk hb
          clear hb
          go_wp2
          refine ⟨⟨j + 1, a, by go_num, hlt, rfl, HA, ⟨?_⟩⟩, by simp [intOf]; omega⟩
          rw [← HF.out, HD.out]; simp [gfold, HBi.out]
      · have hjl : j = (bl n.all).length := by omega
        have he := HF.out
        rw [hjl, List.drop_length] at he
        have HA3 : Aside0 (a = gstep n s) := ⟨by rw [HGs.out, ← he]; rfl⟩
        clear he hjl
        by_cases hst : a = s
        · have e1 : ((a : Int) == (s : Int)) = true := by rw [beq_iff_eq]; omega
          have HFin : Aside0 (acc = grd n (N + 1) 0) := ⟨by rw [← HE.out, grd, if_pos (by rw [← HA3.out]; exact hst), List.append_nil]⟩
          clear hst
          go_wp2
          go_ret
          obtain ⟨A, c, h1, h2, h3⟩ := Kd.R_reads HO3.out
          rw [up_length] at h1 h2 h3
          rw [← HFin.out]
          exact ⟨A, c, congrArg Ending.returned h1, ⟨h2, h3⟩, ⟨HW.out.hb⟩⟩
        · have e1 : ((a : Int) == (s : Int)) = false := by rw [beq_eq_false_iff_ne]; omega
          have HStep : Aside0 ((acc ++ [a]) ++ grd n k a = grd n (N + 1) 0) := ⟨by rw [← HE.out, grd, if_neg (by rw [← HA3.out]; exact hst), ← HA3.out]; simp⟩
          have HCv : Aside0 (cov N a < k) := ⟨by
            have h1 := cov_lt HA.out HS.out (fun i hi => by rw [HA3.out, gstep_bit HOk.out, hi]; rfl) hst
            have h2 := HC.out; omega⟩
          clear hst
          go_wp2_with (at_builtin; refine app_int (w0 := w) .u64 62 61 8 (.tmp 37) (.tmp 39) rfl rfl Tryd.underlying62 info61 (by decide) _ (up acc) (a : Int) rfl rfl ?aO ?aB ?aL ?_; (case aO => exact HO3.out); (case aB => exact HW.out.hb); (case aL => (have := HL.out; have := HOk.out.hN; rw [up_length]; omega)); intro v1 w4 HO4 HB4 HG4)
          go_roundg k
          case measure => omega
          case rel =>
            refine ⟨acc ++ [a], a, rfl, HA, HCv, ⟨by have := HL.out; simp; omega⟩, HStep, ⟨by rw [show up (acc ++ [a]) = up acc ++ [(a : Int)] by simp [up]]; exact HO4.out⟩, ⟨⟨HB4.out, fun p hp => ?_⟩⟩⟩
            rcases List.mem_cons.1 hp with rfl | hp
            · have hne : some g ≠ u3.ownBlock := fun e => by
                obtain ⟨cells, hcells⟩ := Kd.R_typed HO3.out g e.symm
                have h1 := HW.out.blk _ (.head _)
                rw [show (w3.heap[g]? = some O) = (w3.heap[(g, O).1]? = some (g, O).2) from rfl] at *
                rw [hcells] at h1
                injection h1 with h1
                injection h1 with _ h1 _
                exact absurd h1 (by decide)
              exact blk_grown (HW.out.blk _ (.head _)) HG4.out hne
            · cases hp
end Go.Proofs.YtgboplcjafmliaaDoor.G
