/- Plain facts on the games: legal moves, lines, admissible sets and the rounds. No program here. -/
import Derived.Test.YtgboplcjafmliaaDoorEQ6
import Derived.Test.YtgboplcjafmliaaDoorPAllx9
import Derived.Test.YtgboplcjafmliaaDoorPAllx6
/- Plain facts on the games: legal moves, lines, admissible sets and the rounds. No program here. -/
namespace Go.Proofs.YtgboplcjafmliaaDoor.G
open Go.RowKit
set_option linter.unusedVariables false
set_option linter.unusedSimpArgs false

/-- x attacks i. -/
def At (n : NetD) (i x : Nat) : Prop := (nth n.by_ i).testBit x = true
theorem zero_iff (s : Nat) : s = 0 ↔ ∀ i, s.testBit i = false := by
  constructor
  · rintro rfl i; simp
  · intro h; exact Nat.eq_of_testBit_eq (fun i => by rw [h i]; simp)
theorem At.lt {N : Nat} {n : NetD} (hok : n.Ok N) {i x : Nat} (h : At n i x) : x < N := bit_lt hok.hN (hok.lb i) h
theorem uni_by {N : Nat} {n : NetD} (hok : n.Ok N) {s : Nat} (hs : s < 2 ^ N) (x : Nat) : (uni n.by_ (bl s) 0).testBit x = true ↔ ∃ p, s.testBit p = true ∧ At n p x := by
  rw [uni_bit, Nat.zero_testBit, Bool.false_or, List.any_eq_true]
  constructor
  · rintro ⟨p, hp, h⟩; exact ⟨p, (mem_bl _ _ (p64 hok.hN hs)).1 hp, h⟩
  · rintro ⟨p, hp, h⟩; exact ⟨p, (mem_bl _ _ (p64 hok.hN hs)).2 hp, h⟩
theorem uni_out {N : Nat} {n : NetD} (hok : n.Ok N) {s : Nat} (hs : s < 2 ^ N) (x : Nat) : (uni n.out (bl s) 0).testBit x = true ↔ ∃ p, s.testBit p = true ∧ At n x p := by
  rw [uni_bit, Nat.zero_testBit, Bool.false_or, List.any_eq_true]
  constructor
  · rintro ⟨p, hp, h⟩; exact ⟨p, (mem_bl _ _ (p64 hok.hN hs)).1 hp, by rw [At, hok.co]; exact h⟩
  · rintro ⟨p, hp, h⟩; exact ⟨p, (mem_bl _ _ (p64 hok.hN hs)).2 hp, by rw [At, hok.co] at h; exact h⟩
theorem bool_false_iff (b : Bool) : b = false ↔ ¬ b = true := by cases b <;> simp
theorem open_iff {N : Nat} {n : NetD} (hok : n.Ok N) {s : Nat} (hs : s < 2 ^ N) : openM n s = 0 ↔ ∀ p x, s.testBit p = true → At n p x → ∃ b, s.testBit b = true ∧ At n x b := by
  have hU := p64 hok.hN (uni_lt _ N hok.lb (bl s) 0 (Nat.two_pow_pos N))
  have hV := p64 hok.hN (uni_lt _ N hok.lo (bl s) 0 (Nat.two_pow_pos N))
  rw [zero_iff]
  constructor
  · intro h p x hp hx
    have h1 := h x
    rw [openM, sdiff_bit _ _ _ hU hV, (uni_by hok hs x).2 ⟨p, hp, hx⟩, Bool.true_and, Bool.not_eq_false'] at h1
    exact (uni_out hok hs x).1 h1
  · intro h x
    rw [openM, sdiff_bit _ _ _ hU hV, bool_false_iff, Bool.and_eq_true, Bool.not_eq_true']
    rintro ⟨h1, h2⟩
    obtain ⟨p, hp, hx⟩ := (uni_by hok hs x).1 h1
    rw [(uni_out hok hs x).2 (h p x hp hx)] at h2
    cases h2
theorem free_iff {N : Nat} {n : NetD} (hok : n.Ok N) {s : Nat} (hs : s < 2 ^ N) : freeB n s = true ↔ ∀ p q, s.testBit p = true → s.testBit q = true → ¬ At n p q := by
  unfold freeB
  rw [beq_iff_eq, zero_iff]
  constructor
  · intro h p q hp hq hx
    have h1 := h p
    rw [Nat.testBit_and, (uni_out hok hs p).2 ⟨q, hq, hx⟩, hp] at h1
    cases h1
  · intro h p
    rw [Nat.testBit_and, bool_false_iff, Bool.and_eq_true]
    rintro ⟨h1, h2⟩
    obtain ⟨q, hq, hx⟩ := (uni_out hok hs p).1 h1
    exact h p q h2 hq hx
/-- An admissible set. -/
def Adm (N : Nat) (n : NetD) (s : Nat) : Prop := s < 2 ^ N ∧ (∀ p q, s.testBit p = true → s.testBit q = true → ¬ At n p q) ∧ (∀ p x, s.testBit p = true → At n p x → ∃ b, s.testBit b = true ∧ At n x b)
theorem srch_adm {N : Nat} {n : NetD} (hok : n.Ok N) {f s t : Nat} (hs : s < 2 ^ N) (h : srch n f s = some t) : Adm N n t ∧ ∀ i, s.testBit i = true → t.testBit i = true := by
  obtain ⟨h1, h2, h3, h4⟩ := srch_some hok f s t hs h
  exact ⟨⟨h1, (free_iff hok h1).1 h3, (open_iff hok h1).1 h4⟩, h2⟩
theorem or_bit (s x i : Nat) : (s ||| 2 ^ x).testBit i = true ↔ s.testBit i = true ∨ i = x := by
  rw [Nat.testBit_or, Nat.testBit_two_pow, Bool.or_eq_true, decide_eq_true_iff]
  constructor
  · rintro (h | h)
    · exact .inl h
    · exact .inr h.symm
  · rintro (h | h)
    · exact .inl h
    · exact .inr h.symm
theorem srch_none {N : Nat} {n : NetD} (hok : n.Ok N) : ∀ (f s : Nat), s < 2 ^ N → cov N s < f → srch n f s = none → ∀ t, Adm N n t → ¬ ∀ i, s.testBit i = true → t.testBit i = true
  | 0, s, hs, hf, _, t, _, _ => by omega
  | f + 1, s, hs, hf, h, t, ht, hst => by
    have hfree : freeB n s = true := (free_iff hok hs).2 fun p q hp hq => ht.2.1 p q (hst p hp) (hst q hq)
    rw [srch, if_pos hfree] at h
    by_cases h0 : (bl (openM n s)).length = 0
    · rw [if_pos h0] at h; cases h
    · rw [if_neg h0] at h
      have hy := nth_mem (bl (openM n s)) 0 (by omega)
      generalize nth (bl (openM n s)) 0 = y at *
      have hU := p64 hok.hN (uni_lt _ N hok.lb (bl s) 0 (Nat.two_pow_pos N))
      have hV := p64 hok.hN (uni_lt _ N hok.lo (bl s) 0 (Nat.two_pow_pos N))
      have h1 := (mem_bl _ _ (p64 hok.hN (openM_lt hok s))).1 hy
      unfold openM at h1
      rw [sdiff_bit _ _ _ hU hV, Bool.and_eq_true] at h1
      obtain ⟨p, hp, hpy⟩ := (uni_by hok hs y).1 h1.1
      obtain ⟨b, hb, hyb⟩ := ht.2.2 p y (hst p hp) hpy
      have hbm : b ∈ bl (nth n.by_ y) := (mem_bl _ _ (p64 hok.hN (hok.lb y))).2 hyb
      have hbN := hyb.lt hok
      have hn := List.findSome?_eq_none_iff.1 h b hbm
      have hnew := open_new hok hs hy hbm
      refine srch_none hok f (s ||| 2 ^ b) (Nat.or_lt_two_pow hs (Nat.pow_lt_pow_right (by omega) hbN)) ?_ hn t ht ?_
      · have := cov_dec (N := N) hbN hnew; omega
      · intro i hi
        rcases (or_bit s b i).1 hi with hi | rfl
        · exact hst i hi
        · exact hb

theorem pm_snoc (x : Nat) : ∀ (l : List Nat) (b : Bool), pm b (l ++ [x]) = pm b l ||| (if (b == ev l.length) = true then 2 ^ x else 0)
  | [], b => by cases b <;> simp [pm, ev]
  | y :: l, b => by
    rw [List.cons_append, pm, pm_snoc x l (!b), pm, Nat.or_assoc, List.length_cons, ev_succ]
    congr 3
    cases b <;> cases ev l.length <;> simp
theorem pmT_even {l : List Nat} (h : l.length % 2 = 0) (x : Nat) : pm true (l ++ [x]) = pm true l ||| 2 ^ x := by
  rw [pm_snoc, if_pos (by simp [ev, h])]
theorem pmT_odd {l : List Nat} (h : l.length % 2 = 1) (x : Nat) : pm true (l ++ [x]) = pm true l := by
  rw [pm_snoc, if_neg (by simp [ev, h])]; simp
theorem pmF_even {l : List Nat} (h : l.length % 2 = 0) (x : Nat) : pm false (l ++ [x]) = pm false l := by
  rw [pm_snoc, if_neg (by simp [ev, h])]; simp
theorem pmF_odd {l : List Nat} (h : l.length % 2 = 1) (x : Nat) : pm false (l ++ [x]) = pm false l ||| 2 ^ x := by
  rw [pm_snoc, if_pos (by simp [ev, h])]
theorem lastN_snoc (l : List Nat) (x : Nat) : lastN (l ++ [x]) = x := by
  unfold lastN nth
  rw [List.length_append, List.length_singleton, Nat.add_sub_cancel, List.getD_eq_getElem?_getD, List.getElem?_append_right (Nat.le_refl _), Nat.sub_self]
  rfl

theorem lg1O (n : NetD) {l : List Nat} (h : l.length % 2 = 1) (x : Nat) : (legalM n 1 l).testBit x = true ↔ At n (lastN l) x := by
  rw [legalM, if_pos rfl, if_pos h]; exact Iff.rfl
theorem lg1P {N : Nat} {n : NetD} (hok : n.Ok N) {l : List Nat} (hl : ∀ x, x ∈ l → x < N) (h : l.length % 2 = 0) (x : Nat) : (legalM n 1 l).testBit x = true ↔ At n (lastN l) x ∧ (pm true l).testBit x = false := by
  rw [legalM, if_pos rfl, if_neg (by omega), sdiff_bit _ _ _ (p64 hok.hN (hok.lb _)) (p64 hok.hN (pm_lt l true hl)), Bool.and_eq_true, Bool.not_eq_true']; exact Iff.rfl
theorem lg2O {N : Nat} {n : NetD} (hok : n.Ok N) {l : List Nat} (hl : ∀ x, x ∈ l → x < N) (h : l.length % 2 = 1) (x : Nat) : (legalM n 2 l).testBit x = true ↔ (∃ p, (pm true l).testBit p = true ∧ At n p x) ∧ (pm false l).testBit x = false := by
  rw [legalM, if_neg (by decide), if_pos h, sdiff_bit _ _ _ (p64 hok.hN (uni_lt _ N hok.lb _ _ (Nat.two_pow_pos N))) (p64 hok.hN (pm_lt l false hl)), Bool.and_eq_true, Bool.not_eq_true', uni_by hok (pm_lt l true hl)]
theorem foldl_if_bit (p : Nat → Bool) (i : Nat) : ∀ (l : List Nat) (a : Nat), (l.foldl (fun a x => if p x then a ||| 2 ^ x else a) a).testBit i = true ↔ a.testBit i = true ∨ (i ∈ l ∧ p i = true)
  | [], a => by simp
  | x :: l, a => by
    rw [List.foldl_cons, foldl_if_bit p i l]
    by_cases hx : p x = true
    · rw [if_pos hx, or_bit, List.mem_cons]
      constructor
      · rintro ((h | rfl) | ⟨h1, h2⟩)
        · exact .inl h
        · exact .inr ⟨.inl rfl, hx⟩
        · exact .inr ⟨.inr h1, h2⟩
      · rintro (h | ⟨rfl | h1, h2⟩)
        · exact .inl (.inl h)
        · exact .inl (.inr rfl)
        · exact .inr ⟨h1, h2⟩
    · rw [if_neg hx, List.mem_cons]
      constructor
      · rintro (h | ⟨h1, h2⟩)
        · exact .inl h
        · exact .inr ⟨.inr h1, h2⟩
      · rintro (h | ⟨rfl | h1, h2⟩)
        · exact .inl h
        · exact absurd h2 hx
        · exact .inr ⟨h1, h2⟩
/-- x is in no conflict with a set and itself. -/
def Fit (n : NetD) (s x : Nat) : Prop := ∀ y, s.testBit y = true ∨ y = x → ¬ At n x y ∧ ¬ At n y x
theorem may_iff {N : Nat} {n : NetD} (hok : n.Ok N) (s x : Nat) : mayM n s x = true ↔ Fit n s x := by
  unfold mayM Fit
  rw [beq_iff_eq, zero_iff]
  constructor
  · intro h y hy
    have h1 := h y
    rw [Nat.testBit_and, (or_bit s x y).2 hy, Bool.and_true, Nat.testBit_or, Bool.or_eq_false_iff, ← hok.co] at h1
    refine ⟨?_, ?_⟩
    · intro h2; unfold At at h2; rw [h1.1] at h2; cases h2
    · intro h2; unfold At at h2; rw [h1.2] at h2; cases h2
  · intro h y
    rw [Nat.testBit_and, bool_false_iff, Bool.and_eq_true, or_bit, Nat.testBit_or, Bool.or_eq_true, ← hok.co]
    rintro ⟨h1 | h1, h2⟩
    · exact (h y h2).1 h1
    · exact (h y h2).2 h1
theorem lg2P {N : Nat} {n : NetD} (hok : n.Ok N) {l : List Nat} (h : l.length % 2 = 0) (x : Nat) : (legalM n 2 l).testBit x = true ↔ At n (lastN l) x ∧ Fit n (pm true l) x := by
  rw [legalM, if_neg (by decide), if_neg (by omega), foldl_if_bit, mem_bl _ _ (p64 hok.hN (hok.lb _)), may_iff hok]
  constructor
  · rintro (h | h)
    · simp at h
    · exact h
  · exact fun h => .inr h

theorem played_snoc (n : NetD) (game : Nat) (l : List Nat) (a : Nat) (h0 : 0 < l.length) : playedB n game (l ++ [a]) = true ↔ playedB n game l = true ∧ (legalM n game l).testBit a = true := by
  have e0 : nth (l ++ [a]) 0 = nth l 0 := by
    unfold nth
    rw [List.getD_eq_getElem?_getD, List.getD_eq_getElem?_getD, List.getElem?_append_left h0]
  unfold playedB
  rw [e0]
  by_cases hs : game = 2 ∧ (nth n.by_ (nth l 0)).testBit (nth l 0) = true
  · rw [if_pos hs, if_pos hs]; simp
  · rw [if_neg hs, if_neg hs, List.all_eq_true, List.all_eq_true]
    constructor
    · intro h
      constructor
      · intro i hi
        have hi' := List.mem_range'_1.1 hi
        have := h i (List.mem_range'_1.2 (by rw [List.length_append, List.length_singleton]; omega))
        rw [List.take_append_of_le_length (by omega)] at this
        unfold nth at this ⊢
        rw [List.getD_eq_getElem?_getD, List.getElem?_append_left (by omega)] at this
        rw [List.getD_eq_getElem?_getD]
        exact this
      · have := h l.length (List.mem_range'_1.2 (by rw [List.length_append, List.length_singleton]; omega))
        rw [List.take_append_of_le_length (Nat.le_refl _), List.take_length] at this
        unfold nth at this
        rw [List.getD_eq_getElem?_getD, List.getElem?_append_right (Nat.le_refl _), Nat.sub_self] at this
        exact this
    · rintro ⟨h1, h2⟩ i hi
      have hi' := List.mem_range'_1.1 hi
      rw [List.length_append, List.length_singleton] at hi'
      rcases (show i < l.length ∨ i = l.length by omega) with hlt | rfl
      · have := h1 i (List.mem_range'_1.2 (by omega))
        rw [List.take_append_of_le_length (by omega)]
        unfold nth at this ⊢
        rw [List.getD_eq_getElem?_getD, List.getElem?_append_left (by omega)]
        rw [List.getD_eq_getElem?_getD] at this
        exact this
      · rw [List.take_append_of_le_length (Nat.le_refl _), List.take_length]
        unfold nth
        rw [List.getD_eq_getElem?_getD, List.getElem?_append_right (Nat.le_refl _), Nat.sub_self]
        exact h2
/-- A line that is played. -/
structure PL (N : Nat) (n : NetD) (game : Nat) (l : List Nat) : Prop where
  ne : 0 < l.length
  lt : ∀ x, x ∈ l → x < N
  pl : playedB n game l = true
  len1 : game = 1 → (l.length + 1) / 2 + cov N (pm true l) ≤ N
  len2 : game = 2 → l.length / 2 + cov N (pm false l) ≤ N
theorem PL.one {N : Nat} {n : NetD} (hok : n.Ok N) {game root : Nat} (hr : root < N) (hs : ¬(game = 2 ∧ At n root root)) : PL N n game [root] where
  ne := Nat.zero_lt_one
  lt := fun x hx => by rw [List.mem_singleton] at hx; omega
  pl := by
    unfold playedB
    rw [if_neg (show ¬(game = 2 ∧ (nth n.by_ (nth [root] 0)).testBit (nth [root] 0) = true) from hs)]
    rfl
  len1 := fun _ => by
    have h1 := cov_dec (N := N) (s := 0) hr (by simp)
    have h2 := cov0 N
    have e : pm true [root] = 0 ||| 2 ^ root := by simp [pm]
    rw [e, List.length_singleton]
    omega
  len2 := fun _ => by
    have h2 := cov0 N
    have e : pm false [root] = 0 := by simp [pm]
    rw [e, List.length_singleton]
    omega
theorem PL.last {N : Nat} {n : NetD} {game : Nat} {l : List Nat} (h : PL N n game l) : lastN l < N := h.lt _ (nth_mem l _ (by have := h.ne; omega))
theorem PL.snoc {N : Nat} {n : NetD} (hok : n.Ok N) {game : Nat} (hg : game = 1 ∨ game = 2) {l : List Nat} (h : PL N n game l) {a : Nat} (ha : (legalM n game l).testBit a = true) : PL N n game (l ++ [a]) := by
  have haN := bit_lt hok.hN (legal_lt hok game l h.lt) ha
  refine ⟨by simp, ?_, (played_snoc n game l a h.ne).2 ⟨h.pl, ha⟩, ?_, ?_⟩
  · intro x hx
    rcases List.mem_append.1 hx with hx | hx
    · exact h.lt x hx
    · rw [List.mem_singleton] at hx; omega
  · rintro rfl
    rw [List.length_append, List.length_singleton]
    have h1 := h.len1 rfl
    rcases Nat.mod_two_eq_zero_or_one l.length with hp | hp
    · rw [pmT_even hp]
      have := cov_dec haN ((lg1P hok h.lt hp a).1 ha).2
      omega
    · rw [pmT_odd hp]; omega
  · rintro rfl
    rw [List.length_append, List.length_singleton]
    have h1 := h.len2 rfl
    rcases Nat.mod_two_eq_zero_or_one l.length with hp | hp
    · rw [pmF_even hp]; omega
    · rw [pmF_odd hp]
      have := cov_dec haN ((lg2O hok h.lt hp a).1 ha).2
      omega
theorem PL.len {N : Nat} {n : NetD} {game : Nat} (hg : game = 1 ∨ game = 2) {l : List Nat} (h : PL N n game l) : l.length ≤ 2 * N + 1 := by
  rcases hg with hg | hg
  · have := h.len1 hg; omega
  · have := h.len2 hg; omega
theorem PL.legal {N : Nat} {n : NetD} {game : Nat} {l : List Nat} {a : Nat} (h0 : 0 < l.length) (h : PL N n game (l ++ [a])) : (legalM n game l).testBit a = true := ((played_snoc n game l a h0).1 h.pl).2

/-- The rounds as a chain of sets. -/
def gs (n : NetD) : Nat → Nat
  | 0 => 0
  | j + 1 => gstep n (gs n j)
theorem gs_lt {N : Nat} {n : NetD} (hok : n.Ok N) : ∀ j, gs n j < 2 ^ N
  | 0 => Nat.two_pow_pos N
  | j + 1 => gstep_lt hok _ (gs_lt hok j)
theorem gs_bit {N : Nat} {n : NetD} (hok : n.Ok N) (j i : Nat) : (gs n (j + 1)).testBit i = true ↔ (gs n j).testBit i = true ∨ (i < N ∧ ∀ x, At n i x → ∃ z, (gs n j).testBit z = true ∧ At n x z) := by
  have hU := p64 hok.hN (hok.lb i)
  have hV := p64 hok.hN (uni_lt _ N hok.lo (bl (gs n j)) 0 (Nat.two_pow_pos N))
  have hk : okB n (uni n.out (bl (gs n j)) 0) i = true ↔ ∀ x, At n i x → ∃ z, (gs n j).testBit z = true ∧ At n x z := by
    unfold okB
    rw [beq_iff_eq, zero_iff]
    constructor
    · intro h x hx
      have h1 := h x
      rw [sdiff_bit _ _ _ hU hV, show (nth n.by_ i).testBit x = true from hx, Bool.true_and, Bool.not_eq_false'] at h1
      exact (uni_out hok (gs_lt hok j) x).1 h1
    · intro h x
      rw [sdiff_bit _ _ _ hU hV, bool_false_iff, Bool.and_eq_true, Bool.not_eq_true']
      rintro ⟨h1, h2⟩
      rw [(uni_out hok (gs_lt hok j) x).2 (h x h1)] at h2
      cases h2
  rw [gs, gstep_bit hok, Bool.or_eq_true, Bool.and_eq_true, decide_eq_true_iff, hk]
theorem gs_mono {N : Nat} {n : NetD} (hok : n.Ok N) {i : Nat} : ∀ (d j : Nat), (gs n j).testBit i = true → (gs n (j + d)).testBit i = true
  | 0, j, h => h
  | d + 1, j, h => (gs_bit hok (j + d) i).2 (.inl (gs_mono hok d j h))
theorem gs_le {N : Nat} {n : NetD} (hok : n.Ok N) {i j k : Nat} (hjk : j ≤ k) (h : (gs n j).testBit i = true) : (gs n k).testBit i = true := by
  have := gs_mono hok (k - j) j h
  rwa [Nat.add_sub_cancel' hjk] at this
/-- The round in which a node comes in. -/
theorem gs_first {N : Nat} {n : NetD} (hok : n.Ok N) {i : Nat} : ∀ j, (gs n j).testBit i = true → ∃ k, k < j ∧ (gs n (k + 1)).testBit i = true ∧ (gs n k).testBit i = false
  | 0, h => by simp [gs] at h
  | j + 1, h => by
    cases hb : (gs n j).testBit i with
    | false => exact ⟨j, Nat.lt_succ_self j, h, hb⟩
    | true =>
      obtain ⟨k, h1, h2⟩ := gs_first hok j hb
      exact ⟨k, by omega, h2⟩
theorem grd_gs (n : NetD) : ∀ (f j : Nat) (r : Nat), r ∈ grd n f (gs n j) → ∃ m, r = gs n m
  | 0, j, r, h => by cases h
  | f + 1, j, r, h => by
    rw [grd] at h
    split at h
    · cases h
    · rcases List.mem_cons.1 h with rfl | h
      · exact ⟨j + 1, rfl⟩
      · exact grd_gs n f (j + 1) r h
theorem gnd_gs (N : Nat) (n : NetD) : ∃ m, gnd N n = gs n m := by
  unfold gnd lastN
  by_cases h : 0 < (grd n (N + 1) 0).length
  · exact grd_gs n (N + 1) 0 _ (nth_mem (grd n (N + 1) 0) _ (by omega))
  · refine ⟨0, ?_⟩
    rw [nth, List.getD_eq_getElem?_getD, List.getElem?_eq_none (by omega)]; rfl
end Go.Proofs.YtgboplcjafmliaaDoor.G

/- Who can win: lines that are good for a player. No program here. -/
namespace Go.Proofs.YtgboplcjafmliaaDoor.G
open Go.RowKit
set_option linter.unusedVariables false
set_option linter.unusedSimpArgs false

/-- Lines that are good for a player (par: what the length of a line is, modulo 2, where the player moves). -/
structure Strat (N : Nat) (n : NetD) (game par : Nat) (Good : List Nat → Prop) : Prop where
  pl : ∀ l, Good l → PL N n game l
  other : ∀ l, Good l → l.length % 2 ≠ par → ∀ a, (legalM n game l).testBit a = true → Good (l ++ [a])
  mine : ∀ l, Good l → l.length % 2 = par → ∃ a, (legalM n game l).testBit a = true ∧ Good (l ++ [a])

theorem odd_snoc {l : List Nat} {a : Nat} : (l ++ [a]).length % 2 = 1 ↔ l.length % 2 = 0 := by
  rw [List.length_append, List.length_singleton]; omega
theorem even_snoc {l : List Nat} {a : Nat} : (l ++ [a]).length % 2 = 0 ↔ l.length % 2 = 1 := by
  rw [List.length_append, List.length_singleton]; omega

/-- The proponent of the grounded game. -/
def P1 (N : Nat) (n : NetD) (l : List Nat) : Prop := PL N n 1 l ∧ (l.length % 2 = 1 → ∃ j, (gs n (j + 1)).testBit (lastN l) = true ∧ ∀ q, (pm true l).testBit q = true → (gs n j).testBit q = false) ∧
  (l.length % 2 = 0 → ∃ j, (∃ z, (gs n j).testBit z = true ∧ At n (lastN l) z) ∧ ∀ q, (pm true l).testBit q = true → (gs n j).testBit q = false)
theorem P1.one {N : Nat} {n : NetD} (hok : n.Ok N) {root : Nat} (hr : root < N) (h : (gnd N n).testBit root = true) : P1 N n [root] := by
  refine ⟨PL.one hok hr (by simp), fun _ => ?_, fun h => by simp at h⟩
  obtain ⟨m, hm⟩ := gnd_gs N n
  rw [hm] at h
  obtain ⟨k, _, h1, h2⟩ := gs_first hok m h
  refine ⟨k, h1, fun q hq => ?_⟩
  have : q = root := by
    have : (0 ||| 2 ^ root).testBit q = true := by simpa [pm] using hq
    rcases (or_bit 0 root q).1 this with h | h
    · simp at h
    · exact h
  rw [this]; exact h2
theorem P1.strat {N : Nat} {n : NetD} (hok : n.Ok N) : Strat N n 1 0 (P1 N n) where
  pl := fun l h => h.1
  other := fun l h hp a ha => by
    have ho : l.length % 2 = 1 := by omega
    refine ⟨h.1.snoc hok (.inl rfl) ha, fun he => by rw [odd_snoc] at he; omega, fun _ => ?_⟩
    obtain ⟨j, h1, h2⟩ := h.2.1 ho
    have hla := (lg1O n ho a).1 ha
    rw [lastN_snoc, pmT_odd ho]
    rcases (gs_bit hok j _).1 h1 with h3 | ⟨_, h3⟩
    · have hl : (pm true l).testBit (lastN l) = true := by
        have hne := h.1.ne
        obtain ⟨l', x, rfl⟩ : ∃ l' x, l = l' ++ [x] := ⟨l.dropLast, l.getLast (List.ne_nil_of_length_pos hne), (List.dropLast_concat_getLast _).symm⟩
        rw [lastN_snoc, pmT_even (odd_snoc.1 ho), or_bit]
        exact .inr rfl
      rw [h2 _ hl] at h3; cases h3
    · obtain ⟨z, hz1, hz2⟩ := h3 a hla
      exact ⟨j, ⟨z, hz1, hz2⟩, h2⟩
  mine := fun l h he => by
    obtain ⟨j, ⟨z, hz1, hz2⟩, h2⟩ := h.2.2 he
    have hnew : (pm true l).testBit z = false := by
      cases hb : (pm true l).testBit z with
      | false => rfl
      | true => rw [h2 z hb] at hz1; cases hz1
    have hlg := (lg1P hok h.1.lt he z).2 ⟨hz2, hnew⟩
    refine ⟨z, hlg, h.1.snoc hok (.inl rfl) hlg, fun _ => ?_, fun h => by rw [even_snoc] at h; omega⟩
    obtain ⟨k, hk, h3, h4⟩ := gs_first hok j hz1
    rw [lastN_snoc, pmT_even he]
    refine ⟨k, h3, fun q hq => ?_⟩
    rcases (or_bit _ _ _).1 hq with hq | rfl
    · cases hb : (gs n k).testBit q with
      | false => rfl
      | true =>
        have := h2 q hq
        rw [gs_le hok (by omega : k ≤ j) hb] at this
        cases this
    · exact h4

/-- The opponent of the grounded game. -/
def O1 (N : Nat) (n : NetD) (l : List Nat) : Prop := PL N n 1 l ∧ (l.length % 2 = 1 → (gnd N n).testBit (lastN l) = false) ∧ (l.length % 2 = 0 → (gout N n).testBit (lastN l) = false)
theorem O1.one {N : Nat} {n : NetD} (hok : n.Ok N) {root : Nat} (hr : root < N) (h : (gnd N n).testBit root = false) : O1 N n [root] :=
  ⟨PL.one hok hr (by simp), fun _ => h, fun h => by simp at h⟩
theorem O1.strat {N : Nat} {n : NetD} (hok : n.Ok N) : Strat N n 1 1 (O1 N n) where
  pl := fun l h => h.1
  other := fun l h hp a ha => by
    have he : l.length % 2 = 0 := by omega
    refine ⟨h.1.snoc hok (.inl rfl) ha, fun _ => ?_, fun h => by rw [even_snoc] at h; omega⟩
    have hla := ((lg1P hok h.1.lt he a).1 ha).1
    have h1 := h.2.2 he
    rw [lastN_snoc]
    cases hb : (gnd N n).testBit a with
    | false => rfl
    | true =>
      rw [gout, (uni_out hok (gnd_lt hok) _).2 ⟨a, hb, hla⟩] at h1
      cases h1
  mine := fun l h ho => by
    have h1 := qO_spec hok h.1.last (h.2.1 ho)
    have hlg := (lg1O n ho (qO N n (lastN l))).2 h1.1
    refine ⟨_, hlg, h.1.snoc hok (.inl rfl) hlg, fun h => by rw [odd_snoc] at h; omega, fun _ => ?_⟩
    rw [lastN_snoc]; exact h1.2

/-- The proponent of the credulous game, with an admissible set. -/
def P2 (N : Nat) (n : NetD) (t : Nat) (l : List Nat) : Prop := PL N n 2 l ∧ (∀ q, (pm true l).testBit q = true → t.testBit q = true) ∧ (l.length % 2 = 0 → ∃ p, t.testBit p = true ∧ At n p (lastN l))
theorem pm_one (root q : Nat) : (pm true [root]).testBit q = true ↔ q = root := by
  have e : pm true [root] = 0 ||| 2 ^ root := by simp [pm]
  rw [e, or_bit]; simp
theorem P2.one {N : Nat} {n : NetD} (hok : n.Ok N) {t root : Nat} (ht : Adm N n t) (hr : root < N) (h : t.testBit root = true) : P2 N n t [root] :=
  ⟨PL.one hok hr (fun h1 => ht.2.1 root root h h h1.2), fun q hq => by rw [(pm_one root q).1 hq]; exact h, fun h => by simp at h⟩
theorem P2.strat {N : Nat} {n : NetD} (hok : n.Ok N) {t : Nat} (ht : Adm N n t) : Strat N n 2 0 (P2 N n t) where
  pl := fun l h => h.1
  other := fun l h hp a ha => by
    have ho : l.length % 2 = 1 := by omega
    obtain ⟨⟨p, h1, h2⟩, _⟩ := (lg2O hok h.1.lt ho a).1 ha
    refine ⟨h.1.snoc hok (.inr rfl) ha, fun q hq => ?_, fun _ => ⟨p, h.2.1 p h1, by rw [lastN_snoc]; exact h2⟩⟩
    rw [pmT_odd ho] at hq
    exact h.2.1 q hq
  mine := fun l h he => by
    obtain ⟨p, hp1, hp2⟩ := h.2.2 he
    obtain ⟨z, hz1, hz2⟩ := ht.2.2 p _ hp1 hp2
    have hlg := (lg2P hok he z).2 ⟨hz2, fun y hy => by
      have hyt : t.testBit y = true := by
        rcases hy with hy | rfl
        · exact h.2.1 y hy
        · exact hz1
      exact ⟨ht.2.1 z y hz1 hyt, ht.2.1 y z hyt hz1⟩⟩
    refine ⟨z, hlg, h.1.snoc hok (.inr rfl) hlg, fun q hq => ?_, fun h => by rw [even_snoc] at h; omega⟩
    rw [pmT_even he] at hq
    rcases (or_bit _ _ _).1 hq with hq | rfl
    · exact h.2.1 q hq
    · exact hz1

/-- The opponent of the credulous game, where no admissible set has the proponent's nodes. -/
def O2 (N : Nat) (n : NetD) (l : List Nat) : Prop := PL N n 2 l ∧ (∀ p q, (pm true l).testBit p = true → (pm true l).testBit q = true → ¬ At n p q) ∧ (∀ t, Adm N n t → ¬ ∀ i, (pm true l).testBit i = true → t.testBit i = true) ∧
  (∀ y, (pm false l).testBit y = true → (l.length % 2 = 0 ∧ y = lastN l) ∨ ∃ p, (pm true l).testBit p = true ∧ At n y p)
theorem O2.one {N : Nat} {n : NetD} (hok : n.Ok N) {root : Nat} (hr : root < N) (hs : ¬ At n root root) (h : srch n (N + 1) (2 ^ root) = none) : O2 N n [root] := by
  refine ⟨PL.one hok hr (fun h => hs h.2), fun p q hp hq => ?_, fun t ht hi => ?_, fun y hy => by simp [pm] at hy⟩
  · rw [(pm_one root p).1 hp, (pm_one root q).1 hq]; exact hs
  · have h2 := cov_dec (N := N) (s := 0) hr (by simp)
    have h3 := cov0 N
    refine srch_none hok (N + 1) (2 ^ root) (Nat.pow_lt_pow_right (by omega) hr) (by rw [Nat.zero_or] at h2; omega) h t ht (fun i hi2 => hi i ((pm_one root i).2 ?_))
    rw [Nat.testBit_two_pow, decide_eq_true_iff] at hi2
    exact hi2.symm
theorem O2.strat {N : Nat} {n : NetD} (hok : n.Ok N) : Strat N n 2 1 (O2 N n) where
  pl := fun l h => h.1
  other := fun l h hp a ha => by
    have he : l.length % 2 = 0 := by omega
    obtain ⟨h1, h2⟩ := (lg2P hok he a).1 ha
    refine ⟨h.1.snoc hok (.inr rfl) ha, fun p q hp hq => ?_, fun t ht hi => h.2.2.1 t ht (fun i hi2 => hi i (by rw [pmT_even he]; exact (or_bit _ _ _).2 (.inl hi2))), fun y hy => ?_⟩
    · rw [pmT_even he] at hp hq
      rcases (or_bit _ _ _).1 hp with hp2 | hp2
      · rcases (or_bit _ _ _).1 hq with hq2 | hq2
        · exact h.2.1 p q hp2 hq2
        · rw [hq2]; exact (h2 p (.inl hp2)).2
      · rw [hp2]; exact (h2 q ((or_bit _ _ _).1 hq)).1
    · rw [pmF_even he] at hy
      right
      rw [pmT_even he]
      rcases h.2.2.2 y hy with ⟨_, rfl⟩ | ⟨p, hp1, hp2⟩
      · exact ⟨a, (or_bit _ _ _).2 (.inr rfl), h1⟩
      · exact ⟨p, (or_bit _ _ _).2 (.inl hp1), hp2⟩
  mine := fun l h ho => by
    have hlt := pm_lt l true h.1.lt
    have hex : ∃ a, (legalM n 2 l).testBit a = true := by
      apply Classical.byContradiction
      intro hno
      refine h.2.2.1 (pm true l) ⟨hlt, h.2.1, fun p x hp hx => ?_⟩ (fun i hi => hi)
      cases hb : (pm false l).testBit x with
      | false => exact absurd ⟨x, (lg2O hok h.1.lt ho x).2 ⟨⟨p, hp, hx⟩, hb⟩⟩ hno
      | true =>
        rcases h.2.2.2 x hb with ⟨h1, _⟩ | h1
        · omega
        · exact h1
    obtain ⟨a, ha⟩ := hex
    refine ⟨a, ha, h.1.snoc hok (.inr rfl) ha, ?_, ?_, fun y hy => ?_⟩
    · rw [pmT_odd ho]; exact h.2.1
    · rw [pmT_odd ho]; exact h.2.2.1
    · rw [pmF_odd ho] at hy
      rw [pmT_odd ho, lastN_snoc, even_snoc]
      rcases (or_bit _ _ _).1 hy with hy | rfl
      · rcases h.2.2.2 y hy with ⟨h1, _⟩ | h1
        · omega
        · exact .inr h1
      · exact .inl ⟨ho, rfl⟩
end Go.Proofs.YtgboplcjafmliaaDoor.G

/- The contract of net.Has, in plain terms. -/
namespace Go.Proofs.YtgboplcjafmliaaDoor.G
open Go.RowKit Go.Proofs.YtgboplcjafmliaaDoorW.PrintWords Go.Proofs.YtgboplcjafmliaaDoorW.PrintLast Go.Proofs.YtgboplcjafmliaaDoorW.PrintMore
open Go.Proofs.YtgboplcjafmliaaDoor.PAll
set_option linter.unusedVariables false
set_option linter.unusedSimpArgs false
/-- An attack of the graph. -/
def atkB (l : List S54) (a b : Int) : Bool := l.any fun p => p.f0 == a && p.f1 == b
theorem has_l0 (N a b : Int) (l : List S54) (hl : l.length < 2 ^ 44) : ∀ (k j : Nat), l.length - j < k → j ≤ l.length → deliberationnet_Has.l0 k a b (j : Int) N l = some (atkB (l.drop j) a b)
  | 0, j, h, _ => by omega
  | k + 1, j, h, hj => by
    rw [deliberationnet_Has.l0]
    by_cases hlt : j < l.length
    · rw [if_pos (by omega), if_pos (by omega)]
      have e : wrap64 ((j : Int) + 1) = ((j + 1 : Nat) : Int) := by unfold wrap64; omega
      have er : rd_T54 l (j : Int) = nthP l j := by
        unfold rd_T54 nthP
        simp
      rw [e, er, has_l0 N a b l hl k (j + 1) (by omega) (by omega), nthP_drop l j hlt]
      unfold atkB
      rw [List.any_cons]
      by_cases h0 : (nthP l j).f0 = a
      · rw [if_pos h0]
        by_cases h1 : (nthP l j).f1 = b
        · rw [if_pos h1, beq_iff_eq.2 h0, beq_iff_eq.2 h1]; rfl
        · rw [if_neg h1, beq_eq_false_iff_ne.2 h1, Bool.and_false, Bool.false_or]
      · rw [if_neg h0, beq_eq_false_iff_ne.2 h0, Bool.false_and, Bool.false_or]
    · rw [if_neg (by omega), List.drop_eq_nil_of_le (by omega)]; rfl
theorem nhas_any (N a b : Int) (l : List S54) (hl : l.length < 2 ^ 44) (A : Option Addr) (c : Nat) (w : World) (hr : RdP w A c l) :
    Calls Tryd.prog 15 #[.agg #[.int .i64 N, .slice A l.length c], .int .i64 a, .int .i64 b] w fun e w' => e = .returned (.bool (atkB l a b)) ∧ Aside0 (Below w.heap.size w w') :=
  (deliberationnet_Has.calls (l.length + 1) N A c l a b (atkB l a b) w hr.2 hr.1 (by
    unfold deliberationnet_Has.f
    exact has_l0 N a b l hl (l.length + 1) 0 (by omega) (Nat.zero_le _))).mono fun e w' ⟨h, hb⟩ => ⟨h, ⟨hb⟩⟩
theorem atkB_nat {N : Nat} {l : List S54} (h : InR N l) (a b : Nat) : atkB l (a : Int) (b : Int) = atk l a b := by
  unfold atkB atk
  rw [Bool.eq_iff_iff, List.any_eq_true, List.any_eq_true]
  constructor
  · rintro ⟨p, hp, e⟩
    refine ⟨p, hp, ?_⟩
    simp only [Bool.and_eq_true, beq_iff_eq] at e ⊢
    omega
  · rintro ⟨p, hp, e⟩
    refine ⟨p, hp, ?_⟩
    have := h p hp
    simp only [Bool.and_eq_true, beq_iff_eq] at e ⊢
    omega
end Go.Proofs.YtgboplcjafmliaaDoor.G

/- What best computes against what Solve answers. -/
namespace Go.Proofs.YtgboplcjafmliaaDoor.G
open Go.RowKit Go.Proofs.YtgboplcjafmliaaDoorW.PrintWords Go.Proofs.YtgboplcjafmliaaDoorW.PrintLast Go.Proofs.YtgboplcjafmliaaDoorW.PrintMore
open Go.Proofs.YtgboplcjafmliaaDoor.PAll
set_option linter.unusedVariables false
set_option linter.unusedSimpArgs false
def EP (M : Nat) (l : List S54) (k : Int) (n : Nat) (who : Int) : Prop := (k = 2 → atkB l n n = true → who = 2) ∧ (¬(k = 2 ∧ atkB l n n = true) → 0 < (bst M l k 4000 [n] 4000).2 → (bst M l k 4000 [n] 4000).1 = who)
theorem up_map (line : List Nat) : (up line).map Int.toNat = line := by
  unfold up
  rw [List.map_map]
  conv => rhs; rw [← List.map_id line]
  exact List.map_congr_left (fun x _ => by simp)
theorem argE_of {M : Nat} {l : List S54} (hv : valE M l = 0) {game : Nat} (hg : game = 1 ∨ game = 2) {line : List Nat} (h : PL M (netOf M l) game line) : argE M l game (up line) = 0 := by
  unfold argE
  rw [if_neg (by simp [hv]), if_neg (by omega), if_neg, if_neg (by rw [up_length]; have := h.ne; omega), Int.toNat_natCast, Int.toNat_natCast, up_map, if_pos h.pl]
  rw [List.any_eq_true]
  rintro ⟨x, hx, h2⟩
  obtain ⟨y, hy, rfl⟩ := List.mem_map.1 hx
  have := h.lt y hy
  simp only [Bool.or_eq_true, decide_eq_true_iff] at h2
  omega
theorem mvs_iff {M : Nat} (hM : M ≤ 40) {l : List S54} (hIn : InR M l) (hv : valE M l = 0) {game : Nat} (hg : game = 1 ∨ game = 2) {line : List Nat} (h : PL M (netOf M l) game line) (a : Nat) : a ∈ mvs M l game line ↔ (legalM (netOf M l) game line).testBit a = true := by
  unfold mvs
  rw [if_pos (argE_of hv hg h), movS, Int.toNat_natCast, Int.toNat_natCast, up_map, mem_bl _ _ (p64 hM (legal_lt (netOf_ok hM hIn) game line h.lt))]
theorem bLoop_mine (rec : List Nat → Int → Int × Int) (mover other : Int) (line : List Nat) (h60 : line.length ≤ 60) (hub : ∀ a left, (rec (line ++ [a]) left).2 ≤ left - 1) (f : Int) :
    ∀ (L : List Nat) (left : Int), left ≤ f → (∃ a, a ∈ L ∧ ∀ left, left ≤ f → 0 < (rec (line ++ [a]) left).2 → (rec (line ++ [a]) left).1 = mover) → 0 < (bLoop rec mover other line L left).2 → (bLoop rec mover other line L left).1 = mover
  | [], left, _, h, _ => by obtain ⟨a, ha, _⟩ := h; cases ha
  | x :: L, left, hf, h, hp => by
    rw [bLoop, if_neg (by omega)] at hp ⊢
    by_cases hm : (rec (line ++ [x]) left).1 = mover
    · rw [if_pos hm]
    · rw [if_neg hm] at hp ⊢
      obtain ⟨a, ha, h2⟩ := h
      have hle := hub x left
      rcases List.mem_cons.1 ha with rfl | ha
      · have h3 := bLoop_ub rec mover other line hub L (rec (line ++ [a]) left).2
        exact absurd (h2 left hf (by omega)) hm
      · exact bLoop_mine rec mover other line h60 hub f L _ (by omega) ⟨a, ha, h2⟩ hp
theorem bLoop_other (rec : List Nat → Int → Int × Int) (mover other : Int) (hne : other ≠ mover) (line : List Nat) (h60 : line.length ≤ 60) (hub : ∀ a left, (rec (line ++ [a]) left).2 ≤ left - 1) (f : Int) :
    ∀ (L : List Nat) (left : Int), left ≤ f → (∀ a, a ∈ L → ∀ left, left ≤ f → 0 < (rec (line ++ [a]) left).2 → (rec (line ++ [a]) left).1 = other) → 0 < (bLoop rec mover other line L left).2 → (bLoop rec mover other line L left).1 = other
  | [], left, _, h, _ => rfl
  | x :: L, left, hf, h, hp => by
    rw [bLoop, if_neg (by omega)] at hp ⊢
    by_cases hm : (rec (line ++ [x]) left).1 = mover
    · rw [if_pos hm] at hp
      have := h x List.mem_cons_self left hf hp
      rw [hm] at this
      exact absurd this.symm hne
    · rw [if_neg hm] at hp ⊢
      have hle := hub x left
      exact bLoop_other rec mover other hne line h60 hub f L _ (by omega) (fun a ha => h a (List.mem_cons_of_mem _ ha)) hp
theorem bst_law {M : Nat} (hM : M ≤ 20) {l : List S54} (hIn : InR M l) (hv : valE M l = 0) {game : Nat} (hg : game = 1 ∨ game = 2) {par : Nat} {who : Int} (hwho : (par = 0 ∧ who = 1) ∨ (par = 1 ∧ who = 2)) {Good : List Nat → Prop} (hS : Strat M (netOf M l) game par Good) :
    ∀ (f : Nat) (line : List Nat) (left : Int), left ≤ f → Good line → 0 < (bst M l game f line left).2 → (bst M l game f line left).1 = who
  | 0, line, left, hf, _, hp => by
    have h : 0 < left - 1 := hp
    omega
  | f + 1, line, left, hf, hG, hp => by
    rw [bst] at hp ⊢
    by_cases hle : left - 1 ≤ 0
    · rw [if_pos hle] at hp
      have h : 0 < left - 1 := hp
      omega
    · rw [if_neg hle] at hp ⊢
      have hpl := hS.pl line hG
      have h60 : line.length ≤ 60 := by have := hpl.len hg; omega
      have hub : ∀ a left, (bst M l game f (line ++ [a]) left).2 ≤ left - 1 := fun a left => bst_ub _ _ _ _ _ _
      have ih := bst_law hM hIn hv hg hwho hS f
      by_cases hpar : line.length % 2 = par
      · obtain ⟨a, ha, hGa⟩ := hS.mine line hG hpar
        have hmo : moverOf line = who := by
          unfold moverOf
          rcases hwho with ⟨h1, h2⟩ | ⟨h1, h2⟩
          · rw [if_pos (by omega), h2]
          · rw [if_neg (by omega), h2]
        rw [hmo] at hp ⊢
        exact bLoop_mine _ _ _ line h60 hub (f : Int) _ _ (by omega) ⟨a, (mvs_iff (by omega) hIn hv hg hpl a).2 ha, fun left h1 h2 => ih _ left h1 hGa h2⟩ hp
      · have hot : otherOf line = who ∧ otherOf line ≠ moverOf line := by
          unfold moverOf otherOf
          rcases hwho with ⟨h1, h2⟩ | ⟨h1, h2⟩
          · rw [if_neg (by omega), if_neg (by omega), h2]; exact ⟨rfl, by decide⟩
          · rw [if_pos (by omega), if_pos (by omega), h2]; exact ⟨rfl, by decide⟩
        have h3 := bLoop_other (bst M l game f) (moverOf line) (otherOf line) hot.2 line h60 hub (f : Int) (mvs M l game line) (left - 1) (by omega) (fun a ha left h1 h2 => by
          rw [hot.1]
          exact ih _ left h1 (hS.other line hG hpar a ((mvs_iff (by omega) hIn hv hg hpl a).1 ha)) h2) hp
        rw [h3, hot.1]
theorem exh_pure {M : Nat} (hM : M ≤ 4) {l : List S54} (hIn : InR M l) (hv : valE M l = 0) {k : Int} {n : Nat} (hn : n < M) {who : Int} {m : Nat} {pk : Nat → Nat} (hS : SolP M (netOf M l) n k who m pk) : EP M l k n who := by
  have hok := netOf_ok (by omega : M ≤ 40) hIn
  have hat : atkB l n n = true ↔ At (netOf M l) n n := by
    rw [atkB_nat hIn, At]
    show _ ↔ (nth (netBy M l) n).testBit n = true
    rw [by_bit hIn]
  unfold EP
  cases hS with
  | gp _ h1 _ => exact ⟨fun h => absurd h (by decide), fun _ hp => bst_law (by omega) hIn hv (game := 1) (.inl rfl) (.inl ⟨rfl, rfl⟩) (P1.strat hok) 4000 [n] 4000 (by decide) (P1.one hok hn h1) hp⟩
  | go _ h1 _ => exact ⟨fun h => absurd h (by decide), fun _ hp => bst_law (by omega) hIn hv (game := 1) (.inl rfl) (.inr ⟨rfl, rfl⟩) (O1.strat hok) 4000 [n] 4000 (by decide) (O1.one hok hn h1) hp⟩
  | cp _ s h1 _ =>
    obtain ⟨hA, hsub⟩ := srch_adm hok (Nat.pow_lt_pow_right (by omega) hn) h1
    have hsn : s.testBit n = true := hsub n (by simp)
    refine ⟨fun _ h => absurd (hat.1 h) (hA.2.1 n n hsn hsn), fun _ hp => bst_law (by omega) hIn hv (game := 2) (.inr rfl) (.inl ⟨rfl, rfl⟩) (P2.strat hok hA) 4000 [n] 4000 (by decide) (P2.one hok hA hn hsn) hp⟩
  | co _ h1 => exact ⟨fun _ _ => rfl, fun h hp => bst_law (by omega) hIn hv (game := 2) (.inr rfl) (.inr ⟨rfl, rfl⟩) (O2.strat hok) 4000 [n] 4000 (by decide) (O2.one hok hn (fun h2 => h ⟨rfl, hat.2 h2⟩) h1) hp⟩
end Go.Proofs.YtgboplcjafmliaaDoor.G

/- The contract of the checker's resists, and what it computes. -/
namespace Go.Proofs.YtgboplcjafmliaaDoor.G
open Go.RowKit Go.Proofs.YtgboplcjafmliaaDoorW.PrintWords Go.Proofs.YtgboplcjafmliaaDoorW.PrintLast Go.Proofs.YtgboplcjafmliaaDoorW.PrintMore
open Go.Proofs.YtgboplcjafmliaaDoor.PAll
set_option linter.unusedVariables false
set_option linter.unusedSimpArgs false

/-- What resists computes, with a bound on the depth. -/
def rStep (rec : Nat → Nat → Bool × Nat) : List Nat → Nat → Bool × Nat
  | [], r => (true, r)
  | y :: L, r => if r.testBit y = true then rStep rec L r else if (rec y r).1 = true then rStep rec L (rec y r).2 else rec y r
def rst (n : NetD) (rs : List Rp) : Nat → Nat → Nat → Bool × Nat
  | 0, _, r => (false, r)
  | f + 1, node, r => match rep rs node with
    | none => (false, r ||| 2 ^ node)
    | some x => if (nth n.by_ node).testBit x = true then rStep (rst n rs f) (bl (nth n.by_ x)) (r ||| 2 ^ node) else (false, r ||| 2 ^ node)

set_option maxHeartbeats 8000000 in
set_option maxRecDepth 100000 in
theorem resists_any (d : CkD) (ho : d.Ok) : ∀ (f node : Nat) (s : CS) (hn : node < d.N) (hz : cov d.N (s.reached ||| 2 ^ node) < f) (w : World) (hc : CkS d s w),
    Calls Tryd.prog 64 #[.pointer (some ⟨d.g, 0, none⟩), .int .i64 (node : Int)] w fun e w' => e = .returned (.bool (rst d.n d.rs f node s.reached).1) ∧ Aside0 (CkS d ⟨(rst d.n d.rs f node s.reached).2, s.st⟩ w') ∧ Aside0 (Kp d.g d.h w w') ∧ Aside0 (cov d.N (rst d.n d.rs f node s.reached).2 ≤ cov d.N (s.reached ||| 2 ^ node)) := by
  have HOd := Aside0.mk ho
  clear ho
  intro f
  induction f with
  | zero => intro node s hn hz; omega
  | succ f ih =>
    intro node s hn hz w hc
    have IH := Aside0.mk ih
    have HZ := Aside0.mk hz
    have HC := Aside0.mk hc
    clear ih hz hc
    have hN := HOd.out.ok.hN
    have hg7 : w.cell? ⟨d.g, 7, none⟩ = some (.int .u64 (s.reached : Int)) := HC.out.at_ 7
    have hfg : w.frozen? ⟨d.g, 7, none⟩ = false := blk_frozen HC.out.g 7
    have hni : (node : Int) < (d.N : Int) := by omega
    have hn64 : node < 64 := by omega
    have HWi := Aside0.mk (fun W : World => with_any s.reached node (p64 HOd.out.ok.hN HC.out.lt) (by omega) W)
    have hrl : s.reached ||| 2 ^ node < 2 ^ d.N := Nat.or_lt_two_pow HC.out.lt (Nat.pow_lt_pow_right (by omega) hn)
    have HC1 := Aside0.mk (HC.out.setr HOd.out (s.reached ||| 2 ^ node) hrl)
    have HK1 : Aside0 (Kp d.g d.h w (w.setCell ⟨d.g, 7, none⟩ (.int .u64 ((s.reached ||| 2 ^ node : Nat) : Int)))) := ⟨Kp.setg w 7 _⟩
    go_enter Tryd.func64, Tryd.ntmps64
    go_upto_region 2 with (go_at_call 28; refine (HWi.out _).mono ?_; rintro e w' ⟨rfl, rfl⟩)
    clear hg7 hfg HC HWi
    obtain ⟨r1, hr1⟩ : ∃ r1, s.reached ||| 2 ^ node = r1 := ⟨_, rfl⟩
    have HR1 := Aside0.mk hr1
    rw [hr1] at HC1 HK1 hrl HZ ⊢
    clear hr1
    generalize w.setCell ⟨d.g, 7, none⟩ (.int .u64 ((r1 : Nat) : Int)) = w1 at *
    obtain ⟨A4, c4, he, hrd⟩ := HC1.out.rp.reads
    injection he with e1 e2 e3
    have HRp := Aside0.mk (fun W (hW : RdR W A4 c4 d.rs) => reply_any d.rs HOd.out.rn HOd.out.so node hn64 A4 c4 d.game (d.root : Int) d.who W hW)
    have hg3 : w1.cell? ⟨d.g, 3, none⟩ = some (.int .i64 d.game) := HC1.out.at_ 3
    have hg4 : w1.cell? ⟨d.g, 4, none⟩ = some (.int .i64 (d.root : Int)) := HC1.out.at_ 4
    have hg5 : w1.cell? ⟨d.g, 5, none⟩ = some (.int .i64 d.who) := HC1.out.at_ 5
    have hg6 : w1.cell? ⟨d.g, 6, none⟩ = some (.slice A4 d.rs.length c4) := by rw [← e1, ← e3]; exact HC1.out.at_ 6
    have HRd := Aside0.mk hrd
    clear hrd e1 e2 e3
    cases hrep : rep d.rs node with
    | none =>
      have HV : Aside0 (rst d.n d.rs (f + 1) node s.reached = (false, r1)) := ⟨by rw [rst, hrep, HR1.out]⟩
      rw [hrep] at HRp
      unfold repV at HRp
      clear hrep
      have hno : (none : Option Nat).isSome = false := rfl
      go_wp2_with (first | (go_at_call 47; refine (HRp.out _ HRd.out).mono ?_; rintro e w3 ⟨rfl, hb⟩))
      go_ret
      rw [HV.out]
      exact ⟨rfl, ⟨HC1.out.nx hb.out⟩, ⟨HK1.out.trans (Kp.of hb.out)⟩, ⟨by rw [HR1.out]; exact Nat.le_refl _⟩⟩
    | some x =>
      have HRe := Aside0.mk hrep
      obtain ⟨p, hpm, hp1, hp2⟩ := rep_mem hrep
      have hx : x < d.N := by rw [← hp2]; exact (HOd.out.lt p hpm).2
      rw [hrep] at HRp
      unfold repV at HRp
      clear hrep hpm hp1 hp2 p
      have hno : (some x : Option Nat).isSome = true := rfl
      have hxi : (x : Int) < (d.N : Int) := by omega
      have HHas := Aside0.mk (fun W : World => has_any (nth d.n.by_ node) x (p64 HOd.out.ok.hN (HOd.out.ok.lb node)) (by omega) W)
      cases hby : (nth d.n.by_ node).testBit x with
      | false =>
        rw [hby] at HHas
        have HV : Aside0 (rst d.n d.rs (f + 1) node s.reached = (false, r1)) := ⟨by rw [rst, HRe.out]; simp only [hby, HR1.out]; rfl⟩
        clear hby
        go_wp2_with (first | (go_at_call 47; refine (HRp.out _ HRd.out).mono ?_; rintro e w3 ⟨rfl, hb⟩; have HC3 := Aside0.mk (HC1.out.nx hb.out); have HK3 := Aside0.mk (HK1.out.trans (Kp.of hb.out)); clear HC1 HK1 hb hg3 hg4 hg5 hg6; have hg1 : w3.cell? ⟨d.g, 1, none⟩ = some (.slice (some ⟨d.b1, 0, none⟩) d.N d.N) := HC3.out.at_ 1; have hb1 := HC3.out.bat HOd.out node hn; have hb1x := HC3.out.bat HOd.out x hx) | (go_at_call 46; refine (HHas.out _).mono ?_; rintro e w' ⟨rfl, rfl⟩))
        go_ret
        rw [HV.out]
        exact ⟨rfl, HC3, HK3, ⟨by rw [HR1.out]; exact Nat.le_refl _⟩⟩
      | true =>
        rw [hby] at HHas
        have HV : Aside0 (rst d.n d.rs (f + 1) node s.reached = rStep (rst d.n d.rs f) (bl (nth d.n.by_ x)) r1) := ⟨by rw [rst, HRe.out]; simp only [hby, HR1.out]; rfl⟩
        clear hby
        go_wp2_with (first | (go_at_call 47; refine (HRp.out _ HRd.out).mono ?_; rintro e w3 ⟨rfl, hb⟩; have HC3 := Aside0.mk (HC1.out.nx hb.out); have HK3 := Aside0.mk (HK1.out.trans (Kp.of hb.out)); clear HC1 HK1 hb hg3 hg4 hg5 hg6; have hg1 : w3.cell? ⟨d.g, 1, none⟩ = some (.slice (some ⟨d.b1, 0, none⟩) d.N d.N) := HC3.out.at_ 1; have hb1 := HC3.out.bat HOd.out node hn; have hb1x := HC3.out.bat HOd.out x hx) | (go_at_call 46; refine (HHas.out _).mono ?_; rintro e w' ⟨rfl, rfl⟩) | (go_at_call 43; refine (list_own (nth d.n.by_ x) (p64 HOd.out.ok.hN (HOd.out.ok.lb x)) _ HC3.out.tab).mono ?_; rintro e w4 ⟨v50, rfl, HL, hb⟩; obtain ⟨A50, c50, rfl⟩ := own_slice HL.out))
        have HC2 := Aside0.mk (HC3.out.nx hb.out)
        have HK2 := Aside0.mk (HK3.out.trans (Kp.of hb.out))
        have HBs : Aside0 (d.g < w3.heap.size ∧ d.h < w3.heap.size) := ⟨blk_lt HC3.out.g, blk_lt HC3.out.h⟩
        have HL2 : Aside0 (OwnI w4 w3.heap.size (.slice A50 (bl (nth d.n.by_ x)).length c50) (bl (nth d.n.by_ x))) := ⟨HL.out⟩
        have hl64 := bl_length (nth d.n.by_ x)
        clear HC3 HK3 hb HL hg1 hb1 hb1x
        go_loopw [8, 52] (fun v8 v52 w' => ∃ (j r : Nat), v52 = .int .i64 (j : Int) ∧ j ≤ (bl (nth d.n.by_ x)).length ∧ Aside0 (CkS d ⟨r, s.st⟩ w') ∧ Aside0 (Kp d.g d.h w w') ∧ Aside0 (OwnI w' w3.heap.size (.slice A50 (bl (nth d.n.by_ x)).length c50) (bl (nth d.n.by_ x))) ∧ Aside0 (rStep (rst d.n d.rs f) ((bl (nth d.n.by_ x)).drop j) r = rStep (rst d.n d.rs f) (bl (nth d.n.by_ x)) r1) ∧ Aside0 (cov d.N r ≤ cov d.N r1)) (fun _ v52 _ => (bl (nth d.n.by_ x)).length - (intOf v52).toNat)
        case atStart => exact ⟨0, r1, rfl, Nat.zero_le _, HC2, HK2, HL2, ⟨rfl⟩, ⟨Nat.le_refl _⟩⟩
        case round =>
          clear HC2 HK2 HL2
          obtain ⟨j, r, rfl, hj, HC, HK, HL, HE, HZc⟩ := hrel
          by_cases hlt : j < (bl (nth d.n.by_ x)).length
          · obtain ⟨A', c', he, hr⟩ := HL.out.reads
            injection he with e1 e2 e3
            subst e1 e3
            obtain ⟨ad50, rfl, hc50⟩ := hr.cell j hlt
            have hy := bl_in HOd.out.ok.hN (HOd.out.ok.lb x) (nth_mem _ j hlt)
            have HD := Aside0.mk (nth_drop (bl (nth d.n.by_ x)) j hlt)
            clear hr
            generalize nth (bl (nth d.n.by_ x)) j = y at *
            have hy64 : y < 64 := by omega
            have hg7 : wr.cell? ⟨d.g, 7, none⟩ = some (.int .u64 (r : Int)) := HC.out.at_ 7
            have HHy := Aside0.mk (fun W : World => has_any r y (p64 HOd.out.ok.hN HC.out.lt) hy64 W)
            cases hry : r.testBit y with
            | true =>
              rw [hry] at HHy
              have HV2 : Aside0 (rStep (rst d.n d.rs f) ((bl (nth d.n.by_ x)).drop (j + 1)) r = rStep (rst d.n d.rs f) (bl (nth d.n.by_ x)) r1) := ⟨by rw [← HE.out, HD.out, rStep, if_pos hry]⟩
              clear hry
              go_wp2_with (first | (go_at_call 46; refine (HHy.out _).mono ?_; rintro e w' ⟨rfl, rfl⟩))
              go_roundw
              case rel => exact ⟨j + 1, r, by go_num, hlt, HC, HK, HL, HV2, HZc⟩
              case measure => simp [intOf]; omega
            | false =>
              rw [hry] at HHy
              have hcd := cov_dec hy hry
              have HIH := Aside0.mk (fun W (hW : CkS d ⟨r, s.st⟩ W) => IH.out y ⟨r, s.st⟩ hy (by have := HZc.out; have := HZ.out; show cov d.N (r ||| 2 ^ y) < f; omega) W hW)
              have HStep : Aside0 (rStep (rst d.n d.rs f) ((bl (nth d.n.by_ x)).drop j) r = if (rst d.n d.rs f y r).1 = true then rStep (rst d.n d.rs f) ((bl (nth d.n.by_ x)).drop (j + 1)) (rst d.n d.rs f y r).2 else rst d.n d.rs f y r) := ⟨by rw [HD.out, rStep, if_neg (by rw [hry]; simp)]⟩
              have HZy : Aside0 (cov d.N (r ||| 2 ^ y) ≤ cov d.N r1) := ⟨by have := HZc.out; omega⟩
              clear hry hcd
              obtain ⟨⟨rb, r2⟩, hrec⟩ : ∃ q, rst d.n d.rs f y r = q := ⟨_, rfl⟩
              rw [hrec] at HStep
              simp only [hrec] at HIH HStep
              clear hrec
              cases rb with
              | true =>
                rw [if_pos rfl, HE.out] at HStep
                go_wp2_with (first | (go_at_call 46; refine (HHy.out _).mono ?_; rintro e w' ⟨rfl, rfl⟩) | (go_at_call 64; refine (HIH.out _ HC.out).mono ?_; rintro e w4 ⟨rfl, HC4, HKb, HZ4⟩; have HK4 := Aside0.mk (HK.out.trans HKb.out); have HL4 := Aside0.mk (HL.out.kp HKb.out HBs.out.1 HBs.out.2); clear HC HK HL HKb hg7 hc50))
                go_roundw
                case rel => exact ⟨j + 1, r2, by go_num, hlt, HC4, HK4, HL4, ⟨HStep.out.symm⟩, ⟨Nat.le_trans HZ4.out HZy.out⟩⟩
                case measure => simp [intOf]; omega
              | false =>
                rw [if_neg (by simp), HE.out] at HStep
                go_wp2_with (first | (go_at_call 46; refine (HHy.out _).mono ?_; rintro e w' ⟨rfl, rfl⟩) | (go_at_call 64; refine (HIH.out _ HC.out).mono ?_; rintro e w4 ⟨rfl, HC4, HKb, HZ4⟩; have HK4 := Aside0.mk (HK.out.trans HKb.out); have HL4 := Aside0.mk (HL.out.kp HKb.out HBs.out.1 HBs.out.2); clear HC HK HL HKb hg7 hc50))
                go_ret
                rw [HV.out, HStep.out]
                exact ⟨rfl, HC4, HK4, ⟨by rw [HR1.out]; exact Nat.le_trans HZ4.out HZy.out⟩⟩
          · have hjl : (bl (nth d.n.by_ x)).length ≤ j := Nat.le_of_not_lt hlt
            have he := HE.out
            rw [List.drop_eq_nil_of_le hjl, rStep] at he
            have HV2 : Aside0 (rst d.n d.rs (f + 1) node s.reached = (true, r)) := ⟨by rw [HV.out, ← he]⟩
            clear he hjl
            go_wp2
            go_ret
            rw [HV2.out]
            exact ⟨rfl, HC, HK, ⟨by rw [HR1.out]; exact HZc.out⟩⟩
end Go.Proofs.YtgboplcjafmliaaDoor.G

/- A region that draws its order and holds one call that writes: what stands before it is quiet, the call comes behind all of that, what stands behind it is quiet again. -/
namespace Go.Proofs.YtgboplcjafmliaaDoor.G
open Go
set_option linter.unusedVariables false
set_option linter.unusedSimpArgs false
section
variable {P : Program} {ops : Array Oper} {md : Region.Mode} {C : World → Prop}

def restB (md : Region.Mode) (ops : Array Oper) (n : Nat) : Bool :=
  (List.range ops.size).all fun t => decide (t ≤ n) || (List.range t).any fun j => decide (n ≤ j) && Region.waitsFor md ops t j

theorem waist_waits {n : Nat} {listed : Array Bool} (hs : Region.sinkB md ops n = true) (hc : restB md ops n = true) (hn : n < ops.size) (inv : HeadInv md ops n listed) :
    ∀ (d i : Nat), n - i = d → i < n → listed.getD i true = false → ∀ t, n ≤ t → t ∉ Region.ready md ops listed := by
  intro d
  induction d using Nat.strongRecOn with
  | _ d ih =>
    intro i hd hi hun t ht hr
    obtain ⟨_, ot, hot, hall⟩ := mem_ready.1 hr
    have htlt : t < ops.size := (Array.getElem?_eq_some_iff.1 hot).1
    by_cases htn : t = n
    · subst htn
      have h1 := List.all_eq_true.1 hs i (List.mem_range.2 hi)
      obtain ⟨j, hj, hj2⟩ := List.any_eq_true.1 h1
      simp only [Bool.and_eq_true, decide_eq_true_eq] at hj2
      obtain ⟨oj, hoj, e, he, hb, hon⟩ := Region.waitsFor_spec hj2.2
      have hjle : j ≤ t := by have := List.mem_range.1 hj; omega
      by_cases hjt : j = t
      · subst hjt
        have : oj = ot := Option.some.inj (hoj.symm.trans hot)
        subst this
        have h2 := hall e he hb
        rw [hon, getD_both hun] at h2
        cases h2
      · cases hl : listed.getD j false with
        | true =>
          have h2 := inv.closed j oj hoj hl e he hb
          rw [hon, getD_both hun] at h2
          cases h2
        | false =>
          have hjs : j < listed.size := by rw [inv.size]; omega
          exact ih (t - j) (by omega) j rfl (by omega) (getD_in hjs hl) t (Nat.le_refl _) hr
    · have h1 := List.all_eq_true.1 hc t (List.mem_range.2 htlt)
      simp only [Bool.or_eq_true, decide_eq_true_eq] at h1
      rcases h1 with h1 | h1
      · omega
      · obtain ⟨j, hj, hj2⟩ := List.any_eq_true.1 h1
        simp only [Bool.and_eq_true, decide_eq_true_eq] at hj2
        obtain ⟨o', ho', e, he, hb, hon⟩ := Region.waitsFor_spec hj2.2
        have : o' = ot := Option.some.inj (ho'.symm.trans hot)
        subst this
        have h2 := hall e he hb
        have hjt := List.mem_range.1 hj
        rw [hon, getD_both (inv.tail j hj2.1 (by omega))] at h2
        cases h2

theorem hq_first' {n i : Nat} {oi : Oper} {v : Value} {L : Array Bool → Act → Prop} (hi : ops[i]? = some oi) (hsel : ∀ (j : Nat) (o : Oper) cs b, ops[j]? = some o → o.op ≠ .select cs b)
    (hs : Region.sinkB md ops n = true) (hc : restB md ops n = true) (hn : n < ops.size) (hin : i < n)
    (hdone : ∀ listed a, L listed a → ∀ j ∈ Region.ready md ops listed, n ≤ j) :
    ∀ (f : Nat) (listed : Array Bool) (a : Act), HeadInv md ops n listed →
      (∀ j oj, ops[j]? = some oj → j ≠ i → listed.getD j true = false → (∀ e ∈ oj.after, Region.binds md e = true → e.on ≠ i) → oi.apart ops oj = true) →
      i ∈ Region.ready md ops listed → YieldsIn P ops C oi v a →
      wpHQ P md ops C n L f (listed.setIfInBounds i true) (a.put oi.dst v) → wpHQ P md ops C n L (f + 1) listed a := by
  intro f
  induction f with
  | zero =>
    intro listed a inv _ hr hy H
    have hun := (mem_ready.1 hr).1
    refine ⟨fun h => (by rw [h] at hr; cases hr), fun j hj => ?_⟩
    have hjn : j < n := by
      rcases Nat.lt_or_ge j n with h | h
      · exact h
      · exact absurd hj (waist_waits hs hc hn inv _ i rfl hin hun j h)
    refine ⟨hjn, ?_⟩
    by_cases hji : j = i
    · subst hji; exact hy.qOp hi H
    · have := hdone _ _ H j (ready_mono hj hji)
      omega
  | succ f ih =>
    intro listed a inv hfree hr hy H
    have hun := (mem_ready.1 hr).1
    refine ⟨fun h => (by rw [h] at hr; cases hr), fun j hj => ?_⟩
    have hjn : j < n := by
      rcases Nat.lt_or_ge j n with h | h
      · exact h
      · exact absurd hj (waist_waits hs hc hn inv _ i rfl hin hun j h)
    refine ⟨hjn, ?_⟩
    by_cases hji : j = i
    · subst hji; exact hy.qOp hi H
    · have h1 := (H.2 j (ready_mono hj hji)).2
      obtain ⟨hjun, oj, hoj, hall⟩ := mem_ready.1 hj
      have hnot : ∀ e ∈ oj.after, Region.binds md e = true → e.on ≠ i := fun e he hb heq => by
        have h1 := hall e he hb
        rw [heq, getD_both hun] at h1
        cases h1
      have h2 := qOp_put hoj (hfree j oj hoj hji hjun hnot) (fun cs b => hsel i oi cs b hi) (fun cs b => hsel j oj cs b hoj) hy h1
      have hfree' : ∀ k ok, ops[k]? = some ok → k ≠ i → (listed.setIfInBounds j true).getD k true = false →
          (∀ e ∈ ok.after, Region.binds md e = true → e.on ≠ i) → oi.apart ops ok = true := fun k ok hk hki hun hno => by
        refine hfree k ok hk hki ?_ hno
        by_cases hjk : j = k
        · subst hjk; exact hjun
        · rw [getD_set_ne true hjk] at hun; exact hun
      refine qOp_mono (fun a' h3 => ih (listed.setIfInBounds j true) a' (inv.set hj hjn) hfree' (ready_mono hr (Ne.symm hji)) h3.1 ?_) h2
      rw [Array.setIfInBounds_comm _ _ hji]
      exact h3.2

def endB (md : Region.Mode) (ops : Array Oper) (n : Nat) (listed : Array Bool) : Bool :=
  decide (Region.ready md ops listed = [n]) && Region.lexFrom md ops (ops.size - (n + 1)) (n + 1) (listed.setIfInBounds n true)
def waistHead (md : Region.Mode) (ops : Array Oper) : Nat → Nat → Array Bool → Bool
  | 0, k, listed => endB md ops k listed
  | f + 1, k, listed => (Region.ready md ops listed).contains k && Region.free md ops listed k && waistHead md ops f (k + 1) (listed.setIfInBounds k true)
theorem hq_lex' {n : Nat} {Lq : Act → Prop} (hsel : Region.noSelect ops = true) (hs : Region.sinkB md ops n = true) (hc : restB md ops n = true) (hn : n < ops.size) :
    ∀ (l : List Oper) (k : Nat) (listed : Array Bool) (a : Act), (∀ j, j < l.length → l[j]? = ops[k + j]?) → k + l.length = n → HeadInv md ops n listed →
    waistHead md ops l.length k listed = true → wpQuiet P ops C Lq l a →
    wpHQ P md ops C n (fun listed' a' => endB md ops n listed' = true ∧ Lq a') l.length listed a
  | [], k, listed, a, _, hk, _, hB, h => by
    have : k = n := by simpa using hk
    subst this
    exact ⟨by simpa [waistHead] using hB, h⟩
  | o :: l, k, listed, a, hl, hk, inv, hB, h => by
    have h0 : ops[k]? = some o := by simpa using (hl 0 (by simp)).symm
    simp only [List.length_cons, waistHead, Bool.and_eq_true] at hB
    obtain ⟨⟨hr, hf⟩, hB'⟩ := hB
    have hkn : k < n := by simp only [List.length_cons] at hk; omega
    have hr' : k ∈ Region.ready md ops listed := by simpa using hr
    have hst : qOp P ops C k (wpQuiet P ops C Lq l) a := by unfold qOp; simp only [h0]; exact h
    obtain ⟨v, hy, hK⟩ := yieldsIn_of_qOp h0 hst
    exact hq_first' h0 (Region.noSelect_spec hsel) hs hc hn hkn (fun listed' a' hL j hj => by
        have h2 := hL.1
        simp only [endB, Bool.and_eq_true, decide_eq_true_eq] at h2
        rw [h2.1] at hj
        have : j = n := by simpa using hj
        omega) l.length listed a inv (Region.free_spec h0 hf) hr' hy
      (hq_lex' hsel hs hc hn l (k + 1) _ _ (fun j hj => by have := hl (j + 1) (by simp; omega); simpa [Nat.add_assoc, Nat.add_comm 1 j] using this) (by simp only [List.length_cons] at hk; omega) (inv.set hr' hkn) hB' hK)

def waistB (md : Region.Mode) (ops : Array Oper) (n : Nat) : Bool :=
  Region.noSelect ops && decide (n < ops.size) && Region.sinkB md ops n && restB md ops n && waistHead md ops n 0 (Array.replicate ops.size false)
/-- The call in the middle, with what is to hold behind it. -/
def Mid (Q K : Exit → Act → World → Prop) : Exit → Act → World → Prop
  | .normal, a, w => K .normal a w
  | e, a, w => Q e a w

theorem wp_waist {id : Nat} {Q : Exit → Act → World → Prop} {a : Act} {w : World} {l : List Oper} (C : World → Prop) (n : Nat) (o : Oper) (ho : l[n]? = some o) (hm : P.follows .mixedOrders = true) (hB : waistB .any l.toArray n = true) (hC : C w.drew)
    (h : wpQuiet P l.toArray C (fun a' => ∀ w', C w' → wpList P l.toArray (Mid Q fun _ a1 w1 => ∃ C2 : World → Prop, C2 w1 ∧ wpQuiet P l.toArray C2 (fun a2 => ∀ w2, C2 w2 → Q .normal a2 w2) (l.drop (n + 1)) a1) [o] a' w') (l.take n) a) : (Code.region id l.toArray true).wp P Q a w := by
  simp only [waistB, Bool.and_eq_true, decide_eq_true_eq] at hB
  obtain ⟨⟨⟨⟨hsel, hn⟩, hs⟩, hc⟩, hlex⟩ := hB
  have hn' : n < l.length := by simpa using hn
  have htl : (l.take n).length = n := by simp; omega
  have inv0 : HeadInv .any l.toArray n (Array.replicate l.toArray.size false) :=
    ⟨by simp, fun j oj _ hl => (by rw [getD_replicate_false] at hl; cases hl), fun t _ ht => getD_in (by simpa using ht) (getD_replicate_false _ _)⟩
  have H := hq_lex' (md := .any) hsel hs hc hn (l.take n) 0 _ a (fun j hj => by
    have hj' : j < n := by rw [htl] at hj; exact hj
    simp [hj']) (by simpa using htl) inv0 (by rw [htl]; exact hlex) h
  refine wp_region_any hm ?_
  have hsz : l.toArray.size - n = (l.drop (n + 1)).length + 1 := by simp; omega
  have := any_of_hq (Q' := Q) (g := l.toArray.size - n) (fun listed a' w' hw' hL => by
    have h2 := hL.1
    simp only [endB, Bool.and_eq_true, decide_eq_true_eq] at h2
    rw [hsz]
    refine ⟨fun h3 => (by rw [h2.1] at h3; cases h3), fun i hi => ?_⟩
    rw [h2.1] at hi
    have hin : i = n := by simpa using hi
    subst hin
    have h0 : l.toArray[i]? = some o := by simpa using ho
    have hw : wpOp P l.toArray Q i (fun a1 w1 => ∃ C2 : World → Prop, C2 w1 ∧ wpQuiet P l.toArray C2 (fun a2 => ∀ w2, C2 w2 → Q .normal a2 w2) (l.drop (i + 1)) a1) a' w' := by
      unfold wpOp
      simp only [h0]
      exact hL.2 w' hw'
    refine wpOp_mono (fun a1 w1 h4 => ?_) hw
    obtain ⟨C2, hC2, h5⟩ := h4
    refine wpAny_of_quiet (C := C2) (Q := fun a2 => ∀ w2, C2 w2 → Q .normal a2 w2) (fun _ w2 hw2 h => h w2 hw2) _ _ _ _ hC2 ?_
    refine wpAnyQ_lex (md := .any) hsel (l.drop (i + 1)) (i + 1) _ _ (fun j => by simp [List.getElem?_drop]) ?_ h5
    have h6 : l.toArray.size - (i + 1) = (l.drop (i + 1)).length := by simp
    rw [← h6]; exact h2.2) _ _ _ _ hC H
  rw [htl, show n + (l.toArray.size - n) = l.toArray.size by omega] at this
  exact this
end
end Go.Proofs.YtgboplcjafmliaaDoor.G

/- The contract of the checker's wins, and what it computes. -/
namespace Go.Proofs.YtgboplcjafmliaaDoor.G
open Go.RowKit Go.Proofs.YtgboplcjafmliaaDoorW.PrintWords Go.Proofs.YtgboplcjafmliaaDoorW.PrintLast Go.Proofs.YtgboplcjafmliaaDoorW.PrintMore
open Go.Proofs.YtgboplcjafmliaaDoor.PAll
set_option linter.unusedVariables false
set_option linter.unusedSimpArgs false

theorem size_all' : ((List.range 41).all fun N => network_Set_Size.f ((2 ^ N - 1 : Nat) : Int) == some (N : Int)) = true := by kernel_rfl
theorem size_all (N : Nat) (h : N ≤ 40) : network_Set_Size.f ((2 ^ N - 1 : Nat) : Int) = some (N : Int) := by
  have := List.all_eq_true.1 size_all' N (List.mem_range.2 (by omega))
  simpa using this
def s00 (N : Nat) : CS := ⟨0, List.replicate N 0⟩
theorem zeros_le (s : CS) : zeros s ≤ s.st.length := List.countP_le_length
/-- Whether a strategy wins, as the checker finds it. -/
def winsB (d : CkD) : Bool :=
  if d.who = 1 then (vis d.n d.rs d.game (d.N + 1) d.root (s00 d.N)).1 && (d.game == 1 || freeB d.n (vis d.n d.rs d.game (d.N + 1) d.root (s00 d.N)).2.reached)
  else if d.game = 1 then (rst d.n d.rs (d.N + 1) d.root 0).1
  else if 10 < d.N ∨ 0 < d.rs.length then false else (srch d.n (d.N + 1) (2 ^ d.root)).isNone

/-- A state of the checker behind w. -/
def CkK (d : CkD) (s : CS) (w x : World) : Prop := CkS d s x ∧ Kp d.g d.h w x
set_option maxHeartbeats 4000000 in
set_option maxRecDepth 100000 in
theorem wins_any (d : CkD) (ho : d.Ok) (w : World) (hc : CkS d (s00 d.N) w) :
    Calls Tryd.prog 40 #[.pointer (some ⟨d.g, 0, none⟩)] w fun e w' => e = .returned (.bool (winsB d)) ∧ Aside0 (Kp d.g d.h w w') := by
  have HOd := Aside0.mk ho
  have HC := Aside0.mk hc
  clear ho hc
  have hN := HOd.out.ok.hN
  have hg3 : w.cell? ⟨d.g, 3, none⟩ = some (.int .i64 d.game) := HC.out.at_ 3
  have hg4 : w.cell? ⟨d.g, 4, none⟩ = some (.int .i64 (d.root : Int)) := HC.out.at_ 4
  have hg5 : w.cell? ⟨d.g, 5, none⟩ = some (.int .i64 d.who) := HC.out.at_ 5
  by_cases hw : d.who = 1
  · have q5 : (d.who == 1) = true := by rw [beq_iff_eq]; exact hw
    have HB : Aside0 (winsB d = ((vis d.n d.rs d.game (d.N + 1) d.root (s00 d.N)).1 && (d.game == 1 || freeB d.n (vis d.n d.rs d.game (d.N + 1) d.root (s00 d.N)).2.reached))) := ⟨by rw [winsB, if_pos hw]⟩
    rw [HB.out]
    clear hw
    have HVi := Aside0.mk (fun W hW => visit_any d HOd.out (d.N + 1) d.root (s00 d.N) HOd.out.root (Nat.lt_succ_of_le (Nat.le_trans (zeros_le _) (by simp [s00]))) W hW)
    obtain ⟨⟨rb, sd⟩, hrec⟩ : ∃ q, vis d.n d.rs d.game (d.N + 1) d.root (s00 d.N) = q := ⟨_, rfl⟩
    rw [hrec] at HVi ⊢
    simp only at HVi ⊢
    clear hrec HB
    go_enter Tryd.func40, Tryd.ntmps40
    go_upto_region 2 with fail
    haveI : Nonempty (Gd (CkK d (s00 d.N) w)) := ⟨⟨w, HC.out, Kp.refl _ _ _⟩⟩
    have hs4 : ∀ i : Gd (CkK d (s00 d.N) w), i.v.cell? ⟨d.g, 4, none⟩ = some (.int .i64 (d.root : Int)) := fun i => i.h.1.at_ 4
    refine wp_waist (fun x => ∃ i : Gd (CkK d (s00 d.N) w), x = i.v) 6 _ rfl (by kernel_rfl) (by kernel_rfl) ⟨⟨w.drew, HC.out.drew, Kp.of (Below.refl _ _).drew⟩, rfl⟩ ?_
    simp only [List.take, List.drop]
    repeat (quiet_step (fail))
    refine wpQuiet_nil ?_
    clear hs4 this
    rintro _ ⟨⟨w2, hb2⟩, rfl⟩
    have HC2 := Aside0.mk hb2
    clear hb2
    go_wp2_with (first | (go_at_call 63; refine (HVi.out _ HC2.out.1).mono ?_; rintro e w3 ⟨rfl, HC3, HK3, HZ3⟩))
    have HK := Aside0.mk (HC2.out.2.trans HK3.out)
    clear HK3 HC2 HVi
    refine ⟨fun x => ∃ i : Gd (CkK d sd w), x = i.v, ⟨⟨w3, HC3.out, HK.out⟩, rfl⟩, ?_⟩
    haveI : Nonempty (Gd (CkK d sd w)) := ⟨⟨w3, HC3.out, HK.out⟩⟩
    have hs3 : ∀ i : Gd (CkK d sd w), i.v.cell? ⟨d.g, 3, none⟩ = some (.int .i64 d.game) := fun i => i.h.1.at_ 3
    have hs0 : ∀ i : Gd (CkK d sd w), i.v.cell? ⟨d.g, 0, none⟩ = some (.int .u64 (d.n.all : Int)) := fun i => i.h.1.at_ 0
    have hs1 : ∀ i : Gd (CkK d sd w), i.v.cell? ⟨d.g, 1, none⟩ = some (.slice (some ⟨d.b1, 0, none⟩) d.N d.N) := fun i => i.h.1.at_ 1
    have hs2 : ∀ i : Gd (CkK d sd w), i.v.cell? ⟨d.g, 2, none⟩ = some (.slice (some ⟨d.b2, 0, none⟩) d.N d.N) := fun i => i.h.1.at_ 2
    have hs7 : ∀ i : Gd (CkK d sd w), i.v.cell? ⟨d.g, 7, none⟩ = some (.int .u64 (sd.reached : Int)) := fun i => i.h.1.at_ 7
    have C55 : Aside0 (∀ i : Gd (CkK d sd w), Calls Tryd.prog 55 #[.agg #[.int .u64 (d.n.all : Int), .slice (some ⟨d.b1, 0, none⟩) d.N d.N, .slice (some ⟨d.b2, 0, none⟩) d.N d.N], .int .u64 (sd.reached : Int)] i.v fun e w' => e = .returned (.bool (freeB d.n sd.reached)) ∧ ∃ j : Gd (CkK d sd w), w' = j.v) := ⟨fun i => (free_any d.N d.n HOd.out.ok _ sd.reached i.h.1.lt i.v i.h.1.tab (NetV_of_blk HOd.out.ok.hN i.h.1.b1 i.h.1.b2 HOd.out.ok.hb HOd.out.ok.ho)).mono fun e w' ⟨he, hb⟩ => ⟨he, ⟨w', i.h.1.nx hb.out, i.h.2.trans (Kp.of hb.out)⟩, rfl⟩⟩
    cases rb with
    | false =>
      repeat (go_big_quiet_step (fail))
      refine wpQuiet_nil ?_
      clear hs0 hs1 hs2 hs3 hs7 C55 this HC3 HK
      rintro _ ⟨⟨w4, hb4⟩, rfl⟩
      go_wp2
      go_ret
      exact ⟨rfl, ⟨hb4.2⟩⟩
    | true =>
      by_cases hga : d.game = 1
      · have q2 : (d.game == 1) = true := by rw [beq_iff_eq]; exact hga
        clear hga
        repeat (go_big_quiet_step (fail))
        refine wpQuiet_nil ?_
        clear hs0 hs1 hs2 hs3 hs7 C55 this HC3 HK
        rintro _ ⟨⟨w4, hb4⟩, rfl⟩
        go_wp2
        go_ret
        exact ⟨by rw [q2]; rfl, ⟨hb4.2⟩⟩
      · have q2 : (d.game == 1) = false := by rw [beq_eq_false_iff_ne]; exact hga
        clear hga
        repeat (go_big_quiet_step ((go_at_call 55; exact C55.out _)))
        refine wpQuiet_nil ?_
        clear hs0 hs1 hs2 hs3 hs7 C55 this HC3 HK
        rintro _ ⟨⟨w4, hb4⟩, rfl⟩
        go_wp2
        go_ret
        exact ⟨by rw [q2]; rfl, ⟨hb4.2⟩⟩
  · have q5 : (d.who == 1) = false := by rw [beq_eq_false_iff_ne]; exact hw
    by_cases hga : d.game = 1
    · have q2 : (d.game == 1) = true := by rw [beq_iff_eq]; exact hga
      have HB : Aside0 (winsB d = (rst d.n d.rs (d.N + 1) d.root 0).1) := ⟨by rw [winsB, if_neg hw, if_pos hga]⟩
      have HRs := Aside0.mk (resists_any d HOd.out (d.N + 1) d.root (s00 d.N) HOd.out.root (Nat.lt_succ_of_le (cov_le _ _)) w HC.out)
      rw [show (s00 d.N).reached = 0 from rfl] at HRs
      clear hw hga
      rw [HB.out]
      go_enter Tryd.func40, Tryd.ntmps40
      go_wp2_with (first | (go_at_call 64; refine HRs.out.mono ?_; rintro e w3 ⟨rfl, HC3, HK3, HZ3⟩))
      go_ret
      exact ⟨rfl, HK3⟩
    · have q2 : (d.game == 1) = false := by rw [beq_eq_false_iff_ne]; exact hga
      have hg0 : w.cell? ⟨d.g, 0, none⟩ = some (.int .u64 (d.n.all : Int)) := HC.out.at_ 0
      have HSz : Aside0 (∀ W, Calls Tryd.prog 65 #[.int .u64 (d.n.all : Int)] W fun e w' => e = .returned (.int .i64 (d.N : Int)) ∧ Drawn0 W w') := ⟨fun W => network_Set_Size.calls (d.n.all : Int) (d.N : Int) W (by rw [HOd.out.ok.ha]; exact size_all d.N HOd.out.ok.hN)⟩
      have HB : Aside0 (winsB d = if 10 < d.N ∨ 0 < d.rs.length then false else (srch d.n (d.N + 1) (2 ^ d.root)).isNone) := ⟨by rw [winsB, if_neg hw, if_neg hga]⟩
      clear hw hga
      by_cases hbig : 10 < d.N
      · have e1 : decide (10 < d.N) = true := decide_eq_true hbig
        have e1i : decide ((10 : Int) < (d.N : Int)) = true := decide_eq_true (by omega)
        rw [HB.out, if_pos (.inl hbig)]
        clear hbig
        go_enter Tryd.func40, Tryd.ntmps40
        go_wp2_with (first | (go_at_call 65; refine (HSz.out _).mono ?_; rintro e w3 ⟨rfl, hd⟩))
        go_ret
        exact ⟨rfl, ⟨Kp.of hd.below⟩⟩
      · have e1 : decide (10 < d.N) = false := decide_eq_false hbig
        have e1i : decide ((10 : Int) < (d.N : Int)) = false := decide_eq_false (by omega)
        by_cases hrs : 0 < d.rs.length
        · have e2 : decide (0 < d.rs.length) = true := decide_eq_true hrs
          rw [HB.out, if_pos (.inr hrs)]
          clear hbig hrs
          go_enter Tryd.func40, Tryd.ntmps40
          go_wp2_with (first | (go_at_call 65; refine (HSz.out _).mono ?_; rintro e w3 ⟨rfl, hd⟩; have hg6 : w3.cell? ⟨d.g, 6, none⟩ = some (.slice d.A d.rs.length d.c) := (HC.out.nx hd.below).at_ 6))
          go_ret
          exact ⟨rfl, ⟨Kp.of hd.below⟩⟩
        · have e2 : decide (0 < d.rs.length) = false := decide_eq_false hrs
          rw [HB.out, if_neg (fun h => h.elim hbig hrs)]
          clear hbig hrs
          go_enter Tryd.func40, Tryd.ntmps40
          go_upto_region 7 with (first | (go_at_call 65; refine (HSz.out _).mono ?_; rintro e w3 ⟨rfl, hd⟩; have hg6 : w3.cell? ⟨d.g, 6, none⟩ = some (.slice d.A d.rs.length d.c) := (HC.out.nx hd.below).at_ 6))
          have HC3 := Aside0.mk (HC.out.nx hd.below)
          have HK3 : Aside0 (Kp d.g d.h w w3) := ⟨Kp.of hd.below⟩
          haveI : Nonempty (Gd (CkK d (s00 d.N) w)) := ⟨⟨w3, HC3.out, HK3.out⟩⟩
          have hs0 : ∀ i : Gd (CkK d (s00 d.N) w), i.v.cell? ⟨d.g, 0, none⟩ = some (.int .u64 (d.n.all : Int)) := fun i => i.h.1.at_ 0
          have hs1 : ∀ i : Gd (CkK d (s00 d.N) w), i.v.cell? ⟨d.g, 1, none⟩ = some (.slice (some ⟨d.b1, 0, none⟩) d.N d.N) := fun i => i.h.1.at_ 1
          have hs2 : ∀ i : Gd (CkK d (s00 d.N) w), i.v.cell? ⟨d.g, 2, none⟩ = some (.slice (some ⟨d.b2, 0, none⟩) d.N d.N) := fun i => i.h.1.at_ 2
          have hs4 : ∀ i : Gd (CkK d (s00 d.N) w), i.v.cell? ⟨d.g, 4, none⟩ = some (.int .i64 (d.root : Int)) := fun i => i.h.1.at_ 4
          have hp2 : 2 ^ d.root < 2 ^ d.N := Nat.pow_lt_pow_right (by omega) HOd.out.root
          have HP2 := Aside0.mk hp2
          have C28 : Aside0 (∀ i : Gd (CkK d (s00 d.N) w), Calls Tryd.prog 28 #[.int .u64 0, .int .i64 (d.root : Int)] i.v fun e w' => e = .returned (.int .u64 ((2 ^ d.root : Nat) : Int)) ∧ ∃ j : Gd (CkK d (s00 d.N) w), w' = j.v) := ⟨fun i => by
            have h := with_any 0 d.root (by decide) (by have := HOd.out.root; have := HOd.out.ok.hN; omega) i.v
            rw [Nat.zero_or] at h
            exact Calls.mono h fun e w' ⟨he, hb⟩ => ⟨he, ⟨i.v, i.h⟩, hb.symm⟩⟩
          have C27 : Aside0 (∀ i : Gd (CkK d (s00 d.N) w), Calls Tryd.prog 27 #[.agg #[.int .u64 (d.n.all : Int), .slice (some ⟨d.b1, 0, none⟩) d.N d.N, .slice (some ⟨d.b2, 0, none⟩) d.N d.N], .int .u64 ((2 ^ d.root : Nat) : Int)] i.v fun e w' => e = .returned (resV (srch d.n (d.N + 1) (2 ^ d.root))) ∧ ∃ j : Gd (CkK d (s00 d.N) w), w' = j.v) := ⟨fun i => (search_any d.N d.n HOd.out.ok (d.N + 1) (2 ^ d.root) HP2.out (Nat.lt_succ_of_le (cov_le _ _)) (.agg #[.int .u64 (d.n.all : Int), .slice (some ⟨d.b1, 0, none⟩) d.N d.N, .slice (some ⟨d.b2, 0, none⟩) d.N d.N]) i.v i.h.1.tab (NetV_of_blk HOd.out.ok.hN i.h.1.b1 i.h.1.b2 HOd.out.ok.hb HOd.out.ok.ho)).mono fun e w' ⟨he, hb⟩ => ⟨he, ⟨w', i.h.1.nx hb.out, i.h.2.trans (Kp.of hb.out)⟩, rfl⟩⟩
          obtain ⟨o, ho⟩ : ∃ o, srch d.n (d.N + 1) (2 ^ d.root) = o := ⟨_, rfl⟩
          rw [ho] at C27 HB
          have HO := Aside0.mk ho
          unfold resV at C27
          clear ho
          obtain ⟨P2, hP⟩ : ∃ P2, 2 ^ d.root = P2 := ⟨_, rfl⟩
          rw [hP] at C28 C27
          have HPe := Aside0.mk hP
          clear hP hp2
          refine wp_quiet_cls (fun x => ∃ i : Gd (CkK d (s00 d.N) w), x = i.v) (by kernel_rfl) (by kernel_rfl) ⟨⟨w3.drew, HC3.out.drew, HK3.out.trans (Kp.of (Below.refl _ _).drew)⟩, rfl⟩ ?_
          repeat (go_big_quiet_step (first | (go_at_call 28; exact C28.out _) | (go_at_call 27; exact C27.out _)))
          refine wpQuiet_nil ?_
          clear hs0 hs1 hs2 hs4 C28 C27 this HC3 HK3
          rintro _ ⟨⟨w4, hb4⟩, rfl⟩
          go_wp2
          go_ret
          refine ⟨?_, ⟨hb4.2⟩⟩
          rw [HO.out]
          rfl
end Go.Proofs.YtgboplcjafmliaaDoor.G
