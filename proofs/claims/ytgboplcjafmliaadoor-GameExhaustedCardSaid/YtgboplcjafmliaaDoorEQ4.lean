/- The contract of game.answers, and what it computes. -/
import Derived.Test.YtgboplcjafmliaaDoorEQ3
import Derived.Deep.RegionLaw
import Derived.Test.YtgboplcjafmliaaDoorPAllx8
/- The contract of game.answers, and what it computes. -/
namespace Go.Proofs.YtgboplcjafmliaaDoor.G
open Go.RowKit Go.Proofs.YtgboplcjafmliaaDoorW.PrintWords Go.Proofs.YtgboplcjafmliaaDoorW.PrintLast Go.Proofs.YtgboplcjafmliaaDoorW.PrintMore
open Go.Proofs.YtgboplcjafmliaaDoor.PAll
set_option linter.unusedVariables false
set_option linter.unusedSimpArgs false

theorem contains_any (v : Value) (base : Nat) (l : List Nat) (y : Nat) (w : World) (h : OwnI w base v l) :
    Calls Tryd.prog 52 #[v, .int .i64 (y : Int)] w fun e w' => e = .returned (.bool (l.contains y)) ∧ w = w' := by
  have hup : (up l).contains (y : Int) = l.contains y := by
    rw [Bool.eq_iff_iff, List.contains_iff_mem, List.contains_iff_mem]
    simp only [up, List.mem_map]
    constructor
    · rintro ⟨a, ha, e⟩
      have : a = y := by omega
      rw [← this]; exact ha
    · exact fun h => ⟨y, h, rfl⟩
  rcases h.2 with ⟨rfl, h0⟩ | ⟨g, cap, cur, rfl, hg, hb, hcap, hmax, hcur, htake⟩
  · have e : l = [] := List.length_eq_zero_iff.1 h0
    subst e
    exact (Any.slices_Contains_int_empty Tryd.lays107 none 0 (y : Int) w).mono fun e w' ⟨h1, h2⟩ => ⟨h1, h2.symm⟩
  · have hc : ∀ j, j < (up l).length → w.cell? ⟨g, 0 + j, none⟩ = some (.int .i64 ((up l).getD j 0)) := by
      intro j hj
      have hj' : j < l.length * 1 := by rw [up_length] at hj; omega
      have h1 : (cur.toList.take (l.length * 1))[j]? = (nums .i64 (up l))[j]? := by rw [htake]
      rw [List.getElem?_take_of_lt hj', Array.getElem?_toList] at h1
      rw [Nat.zero_add, blk_cell hb, h1]
      simp only [nums, List.getElem?_map, List.getD_eq_getElem?_getD]
      rw [List.getElem?_eq_getElem hj]; rfl
    have h1 := Any.slices_Contains_int Tryd.lays107 g 0 l.length cap (up l) (y : Int) w (by rw [up_length]; exact Nat.le_refl _) (by have := hmax; unfold maxLen at this; omega) hc
    refine h1.mono fun e w' ⟨h2, h3⟩ => ⟨?_, h3.symm⟩
    rw [h2, show (up l).take l.length = up l by rw [List.take_of_length_le (by rw [up_length]; exact Nat.le_refl _)], hup]

theorem list_own (s : Nat) (hs : s < 2 ^ 64) (w : World) (hT : TabW w) :
    Calls Tryd.prog 43 #[.int .u64 s] w fun e w' => ∃ v, e = .returned v ∧ Aside0 (w'.ownsRow w.heap.size 3 1 v (bl s).length (nums .i64 (up (bl s)))) ∧ Aside0 (Below w.heap.size w w') :=
  (list_any s hs w hT).mono fun e w' ⟨v0, he, hR, hb⟩ => by
    have h := Kd.own_of_R hR
    rw [List.length_map] at h
    exact ⟨v0, he, ⟨h⟩, ⟨hb⟩⟩

/-- The nodes that a player's replies reach. -/
inductive Rc (n : NetD) (root : Nat) (pk : Nat → Nat) : Nat → Prop
  | root : Rc n root pk root
  | step {a x : Nat} : Rc n root pk a → (nth n.by_ a).testBit x = true → Rc n root pk (pk x)
/-- The attackers of reached nodes. -/
def RcA (n : NetD) (root : Nat) (pk : Nat → Nat) (x : Nat) : Prop := ∃ a, Rc n root pk a ∧ (nth n.by_ a).testBit x = true
/-- What the loops of answers keep: R the nodes that are reached, sl the attackers that have been seen, m these as a set. -/
structure AI (n : NetD) (root : Nat) (pk : Nat → Nat) (R sl : List Nat) (m : Nat) : Prop where
  r0 : root ∈ R
  rn : R.Nodup
  rr : ∀ a, a ∈ R → Rc n root pk a
  sm : ∀ x, m.testBit x = true ↔ x ∈ sl
  sr : ∀ x, x ∈ sl → RcA n root pk x ∧ pk x ∈ R
/-- The attackers of the first nodes have been seen. -/
def Seen (n : NetD) (R sl : List Nat) (i : Nat) : Prop := ∀ j, j < i → ∀ x, (nth n.by_ (nth R j)).testBit x = true → x ∈ sl
def addN (R : List Nat) (y : Nat) : List Nat := if R.contains y = true then R else R ++ [y]
theorem mem_addN (R : List Nat) (y : Nat) : y ∈ addN R y := by
  unfold addN
  split
  · rename_i h; exact List.contains_iff_mem.1 h
  · simp
theorem sub_addN (R : List Nat) (y a : Nat) (h : a ∈ R) : a ∈ addN R y := by
  unfold addN
  split
  · exact h
  · exact List.mem_append_left _ h
theorem nth_addN (R : List Nat) (y j : Nat) (h : j < R.length) : nth (addN R y) j = nth R j := by
  unfold addN
  split
  · rfl
  · unfold nth; rw [List.getD_eq_getElem?_getD, List.getD_eq_getElem?_getD, List.getElem?_append_left h]
theorem len_addN (R : List Nat) (y : Nat) : R.length ≤ (addN R y).length := by
  unfold addN
  split
  · exact Nat.le_refl _
  · simp
theorem AI.step {n : NetD} {root : Nat} {pk : Nat → Nat} {R sl : List Nat} {m x a : Nat} (h : AI n root pk R sl m) (ha : a ∈ R) (hx : (nth n.by_ a).testBit x = true) : AI n root pk (addN R (pk x)) (sl ++ [x]) (m ||| 2 ^ x) where
  r0 := sub_addN _ _ _ h.r0
  rn := by
    unfold addN
    split
    · exact h.rn
    · rename_i hc
      rw [List.nodup_append]
      refine ⟨h.rn, by simp, fun a ha b hb => ?_⟩
      rw [List.mem_singleton] at hb
      subst hb
      intro e
      subst e
      exact hc (List.contains_iff_mem.2 ha)
  rr := fun b hb => by
    unfold addN at hb
    split at hb
    · exact h.rr b hb
    · rcases List.mem_append.1 hb with hb | hb
      · exact h.rr b hb
      · rw [List.mem_singleton] at hb; subst hb; exact .step (h.rr a ha) hx
  sm := fun z => by
    rw [Nat.testBit_or, Nat.testBit_two_pow, Bool.or_eq_true, h.sm z]
    simp [eq_comm]
  sr := fun z hz => by
    rcases List.mem_append.1 hz with hz | hz
    · exact ⟨(h.sr z hz).1, sub_addN _ _ _ (h.sr z hz).2⟩
    · rw [List.mem_singleton] at hz; subst hz; exact ⟨⟨a, h.rr a ha, hx⟩, mem_addN _ _⟩
theorem nth_get (l : List Nat) (j : Nat) (h : j < l.length) : nth l j = l[j] := by
  rw [nth, List.getD_eq_getElem?_getD, List.getElem?_eq_getElem h]; rfl
theorem nodup_le : ∀ (N : Nat) (R : List Nat), R.Nodup → (∀ a, a ∈ R → a < N) → R.length ≤ N
  | 0, R, _, h => by
    cases R with
    | nil => simp
    | cons a R => have := h a List.mem_cons_self; omega
  | N + 1, R, hn, h => by
    have ih := nodup_le N (R.erase N) (hn.erase N) (fun a ha => by
      have h1 := h a (List.mem_of_mem_erase ha)
      have h2 : a ≠ N := fun e => by subst e; exact (List.Nodup.not_mem_erase hn) ha
      omega)
    have := List.length_erase_le (a := N) (l := R)
    by_cases hm : N ∈ R
    · rw [List.length_erase_of_mem hm] at ih; omega
    · rw [List.erase_of_not_mem hm] at ih; omega
theorem AI.done {n : NetD} {root : Nat} {pk : Nat → Nat} {R sl : List Nat} {m : Nat} (h : AI n root pk R sl m) (hs : Seen n R sl R.length) (x : Nat) : m.testBit x = true ↔ RcA n root pk x := by
  have hall : ∀ a, Rc n root pk a → a ∈ R := by
    intro a ha
    induction ha with
    | root => exact h.r0
    | step _ hx ih =>
      obtain ⟨j, hj, e⟩ := List.mem_iff_getElem.1 ih
      refine (h.sr _ (hs j hj _ ?_)).2
      rw [nth_get R j hj, e]
      exact hx
  rw [h.sm]
  constructor
  · exact fun hx => (h.sr x hx).1
  · rintro ⟨a, ha, hx⟩
    obtain ⟨j, hj, e⟩ := List.mem_iff_getElem.1 (hall a ha)
    refine hs j hj x ?_
    rw [nth_get R j hj, e]
    exact hx
theorem AI.le {n : NetD} {root : Nat} {pk : Nat → Nat} {R sl : List Nat} {m N : Nat} (h : AI n root pk R sl m) (hN : ∀ a, Rc n root pk a → a < N) : R.length ≤ N := by
  exact nodup_le N R h.rn (fun a ha => hN a (h.rr a ha))
def rp (x y : Nat) : Rp := (Fin.ofNat 64 x, Fin.ofNat 64 y)
theorem rp_fst (x y : Nat) (h : x < 64) : (rp x y).1.val = x := by simp [rp]; omega
theorem rp_snd (x y : Nat) (h : y < 64) : (rp x y).2.val = y := by simp [rp]; omega
/-- A sorted list of replies with as many different nodes as a set has is that set's. -/
theorem sorted_is (m : Nat) (hm : m < 2 ^ 64) (pk : Nat → Nat) (sl : List Nat) (hn : sl.Nodup) (hs : ∀ x, m.testBit x = true ↔ x ∈ sl) (rs : List Rp) (hp : rs.Perm (sl.map fun x => rp x (pk x))) (hso : rs.Pairwise fun p q => p.1.val ≤ q.1.val) : rs = (bl m).map fun x => rp x (pk x) := by
  have hlt : ∀ x, x ∈ sl → x < 64 := fun x hx => bl_lt m x ((mem_bl m x hm).2 ((hs x).2 hx))
  have hperm : sl.Perm (bl m) := by
    apply (List.perm_ext_iff_of_nodup hn ((bl_sorted m).imp (fun h => Nat.ne_of_lt h))).2
    intro x; rw [mem_bl m x hm, hs]
  have h2 : rs.Perm ((bl m).map fun x => rp x (pk x)) := hp.trans (hperm.map _)
  refine List.Perm.eq_of_pairwise (le := fun p q : Rp => p.1.val ≤ q.1.val) ?_ hso ?_ h2
  · intro a b ha hb h3 h4
    obtain ⟨x, hx, rfl⟩ := List.mem_map.1 (h2.mem_iff.1 ha)
    obtain ⟨y, hy, rfl⟩ := List.mem_map.1 hb
    rw [rp_fst _ _ (bl_lt m x hx), rp_fst _ _ (bl_lt m y hy)] at h3 h4
    have : x = y := by omega
    rw [this]
  · rw [List.pairwise_map]
    refine List.Pairwise.imp_of_mem ?_ (bl_sorted m)
    intro a b ha hb hab
    rw [rp_fst _ _ (bl_lt m a ha), rp_fst _ _ (bl_lt m b hb)]; omega

def s77 (p : Rp) : S77 := ⟨((p.1.val : Nat) : Int), ((p.2.val : Nat) : Int)⟩
/-- A row of replies that is read. -/
def RdR (w : World) (A : Option Addr) (c : Nat) (rs : List Rp) : Prop := rs.length ≤ c ∧ k77.C w A rs.length (rs.map s77)
theorem RdR.below {w w1 : World} {A : Option Addr} {c : Nat} {rs : List Rp} (h : RdR w A c rs) (hb : Below w.heap.size w w1) : RdR w1 A c rs := ⟨h.1, Kd.C_below h.2 hb⟩
theorem OwnRp.reads {w : World} {base : Nat} {v : Value} {rs : List Rp} (h : OwnRp w base v rs) : ∃ A c, v = .slice A rs.length c ∧ RdR w A c rs := by
  rcases h.2 with ⟨rfl, h0⟩ | ⟨g, cap, cur, rfl, hg, hb, hcap, hmax, hcur, htake⟩
  · refine ⟨none, 0, by rw [h0], by omega, by rw [List.length_map], by omega, fun hp => by omega⟩
  · refine ⟨_, cap, rfl, hcap, by rw [List.length_map], by have := hmax; unfold maxLen at this; omega, fun hp => ⟨_, rfl, fun j p hj => ?_⟩⟩
    rw [List.getElem?_map] at hj
    cases hr : rs[j]? with
    | none => rw [hr] at hj; cases hj
    | some q =>
      rw [hr] at hj
      simp only [Option.map_some, Option.some.injEq] at hj
      subst hj
      obtain ⟨hjl, hq⟩ := List.getElem?_eq_some_iff.1 hr
      refine ⟨_, rfl, k77_mk w (s77 q), fun i u hu => ?_⟩
      have hi : i < 2 := by
        obtain ⟨h1, _⟩ := List.getElem?_eq_some_iff.1 hu
        simpa using h1
      have hlt : j * 2 + i < rs.length * 2 := by omega
      have h1 : (cur.toList.take (rs.length * 2))[j * 2 + i]? = (rs.flatMap encRp)[j * 2 + i]? := by rw [htake]
      rw [List.getElem?_take_of_lt hlt, Array.getElem?_toList, flatRp_get _ _ hlt] at h1
      show w.cell? ((⟨g, 0, none⟩ : Addr).add (j * 2 + i)) = some u
      rw [add_plain, blk_cell hb, h1, show (j * 2 + i) / 2 = j by omega, show (j * 2 + i) % 2 = i by omega]
      rw [List.getD_eq_getElem?_getD, hr]
      rcases (by omega : i = 0 ∨ i = 1) with rfl | rfl
      · simpa [encRp, s77] using hu
      · simpa [encRp, s77] using hu
section
variable {P : Program} {ops : Array Oper} {Q : Exit → Act → World → Prop} {a : Act} {rest : List Oper} {o : Oper}
theorem app_rp2 {w0 W : World} (t : TypeId) (s x : Operand) (hgd : o.guard = none)
    (ho : o.op = .call { callee := .builtin .append, args := #[s, x], argTypes := #[t, t] })
    (ht : P.underlying t = some (.slice 77)) (hinfo : (P.info? 77).map (fun i => (i.zero, i.size, i.bytes)) = some (some (.agg #[.int .i64 0, .int .i64 0]), 2, 16))
    (v : Value) (xs : List Rp) (p q : Nat) (hp : p < 64) (hq : q < 64) (hs : a.eval s = v) (hx : a.eval x = .slice (some ⟨W.heap.size, 0, none⟩) 1 1)
    (HO : OwnRp W w0.heap.size v xs) (HB : Below w0.heap.size w0 W) (hl : xs.length < 1000000)
    (h : ∀ v1 w1, OwnRp w1 w0.heap.size v1 (xs ++ [rp p q]) → W.grownBy w1 v.ownBlock → wpList P ops Q rest (a.put o.dst v1) w1) :
    wpList P ops Q (o :: rest) a (W.alloc (.cells #[.int .i64 (p : Int), .int .i64 (q : Int)] 77)) := by
  have h1 := app_rp (w0 := w0) t s x hgd ho ht hinfo v xs (rp p q) hs hx HO HB hl (fun v1 w1 h1 h2 _ => h v1 w1 h1 h2)
  rw [rp_fst p q hp, rp_snd p q hq] at h1
  exact h1
end
theorem AS_ty1 (cs : Array Value) (g : Nat) : ∀ p, p ∈ [(g, Obj.cells cs 64 (0, 0))] → ∃ cs t, p.2 = .cells cs t (0, 0) ∧ t ≠ 3 ∧ t ≠ 77 := fun p hp => by
  rcases List.mem_cons.1 hp with rfl | hp
  · exact ⟨_, _, rfl, by decide, by decide⟩
  · cases hp

theorem take_next (L : List Nat) (j : Nat) (h : j < L.length) (y : Nat) (hy : y ∈ L.take (j + 1)) : y ∈ L.take j ∨ y = nth L j := by
  rw [List.take_add_one, List.mem_append, List.getElem?_eq_getElem h] at hy
  rw [nth_get L j h]
  simpa using hy
theorem AI.lt {n : NetD} {root : Nat} {pk : Nat → Nat} {R sl : List Nat} {m N : Nat} (h : AI n root pk R sl m) (hm : m < 2 ^ N) (hN : N ≤ 40) (hn : sl.Nodup) : sl.length ≤ 40 := by
  refine Nat.le_trans (nodup_le N sl hn fun x hx => ?_) hN
  exact bl_in hN hm ((mem_bl m x (p64 hN hm)).2 ((h.sm x).2 hx))
theorem addN_old {R : List Nat} {y : Nat} (h : R.contains y = true) : addN R y = R := by unfold addN; rw [if_pos h]
theorem addN_new {R : List Nat} {y : Nat} (h : R.contains y = false) : addN R y = R ++ [y] := by unfold addN; rw [if_neg (by rw [h]; simp)]
theorem Seen.add {n : NetD} {R sl : List Nat} {i : Nat} (h : Seen n R sl i) (hi : i < R.length) (y x : Nat) : Seen n (addN R y) (sl ++ [x]) i := fun j hj z hz => by
  rw [nth_addN R y j (by omega)] at hz
  exact List.mem_append_left _ (h j hj z hz)
def AtA (n : NetD) (R sl : List Nat) (i a j : Nat) : Prop := nth R i = a ∧ i < R.length ∧ ∀ x, x ∈ (bl (nth n.by_ a)).take j → x ∈ sl
theorem AtA.add {n : NetD} {R sl : List Nat} {i a j x : Nat} (h : AtA n R sl i a j) (ht : ∀ y, y ∈ (bl (nth n.by_ a)).take (j + 1) → y ∈ (bl (nth n.by_ a)).take j ∨ y = x) (y : Nat) : AtA n (addN R y) (sl ++ [x]) i a (j + 1) :=
  ⟨by rw [nth_addN R y i h.2.1]; exact h.1, Nat.lt_of_lt_of_le h.2.1 (len_addN R y), fun z hz => (ht z hz).elim (fun h1 => List.mem_append_left _ (h.2.2 z h1)) (fun e => by rw [e]; simp)⟩
theorem AtA.seen {n : NetD} {R sl : List Nat} {i a j : Nat} (h : AtA n R sl i a j) (hj : (bl (nth n.by_ a)).length ≤ j) (h64 : nth n.by_ a < 2 ^ 64) (hs : Seen n R sl i) : Seen n R sl (i + 1) := fun k hk x hx => by
  rcases Nat.lt_succ_iff_lt_or_eq.1 hk with h1 | h1
  · exact hs k h1 x hx
  · subst h1
    rw [h.1] at hx
    refine h.2.2 x ?_
    rw [List.take_of_length_le hj]
    exact (mem_bl _ _ h64).2 hx
theorem nodup_snoc {sl : List Nat} {x : Nat} (h : sl.Nodup) (hx : x ∉ sl) : (sl ++ [x]).Nodup := by
  rw [List.nodup_append]
  refine ⟨h, by simp, fun a ha b hb => ?_⟩
  rw [List.mem_singleton] at hb
  subst hb
  exact fun e => hx (e ▸ ha)
set_option maxHeartbeats 8000000 in
set_option maxRecDepth 100000 in
theorem answers_any (N : Nat) (n : NetD) (hok : n.Ok N) (v : Value) (root : Nat) (hroot : root < N) (gf : FuncId) (cb : Array Value) (pk : Nat → Nat) (w : World) (hT : TabW w) (hn : NetV w n v)
    (eg : ∀ args W, (callFunc gf args).run Tryd.prog W = .ok (.enter gf args) W)
    (hp : ∀ x, RcA n root pk x → ∀ W, Below w.heap.size w W → Calls Tryd.prog gf (#[.int .i64 (x : Int)] ++ cb) W fun e w' => e = .returned (.int .i64 ((pk x : Nat) : Int)) ∧ Aside0 (Below W.heap.size W w'))
    (hpN : ∀ x, RcA n root pk x → pk x < N) :
    Calls Tryd.prog 29 #[v, .int .i64 (root : Int), .func (.func gf) #[] cb] w fun e w' => ∃ A c m, e = .returned (.slice A (bl m).length c) ∧ Aside0 (m < 2 ^ N ∧ ∀ x, m.testBit x = true ↔ RcA n root pk x) ∧ Aside0 (OwnRp w' w.heap.size (.slice A (bl m).length c) ((bl m).map fun x => rp x (pk x))) ∧ Aside0 (Below w.heap.size w w') := by
  have hn0 := hn
  obtain ⟨A1, c1, A2, c2, rfl, h2, h3⟩ := hn
  have HN := Aside0.mk hn0
  have H2 := Aside0.mk h2
  have HT := Aside0.mk hT
  have HOk := Aside0.mk hok
  have HPk := Aside0.mk hp
  have HRc : Aside0 (∀ a, Rc n root pk a → a < N) := ⟨fun a ha => by
    induction ha with
    | root => exact hroot
    | step h1 h2 _ => exact hpN _ ⟨_, h1, h2⟩⟩
  have HPkN := Aside0.mk hpN
  clear hT h2 h3 hok hn0 hp hpN
  have HB := Aside0.mk (St.refl w)
  let O : Obj := .cells #[.int .u64 n.all, .slice A1 n.by_.length c1, .slice A2 n.out.length c2] 64 (0, 0)
  go_enter Tryd.func29, Tryd.ntmps29
  go_wp2_with (first | ((with_reducible refine gate_dst (N := 3) rfl ?_); refine box_st (w := w) 3 #[.int .u64 n.all, .slice A1 n.by_.length c1, .slice A2 n.out.length c2] 64 rfl rfl ?hr HB.out ?_; (case hr => go_simp; done); clear HB; intro g w1 HB GE))
  have HAS : Aside0 (AS w [(g, O)] (.slice (some ⟨w1.heap.size, 0, none⟩) 1 1) (.slice none 0 0) (.slice none 0 0) [root] [] [] (w1.alloc (.cells #[.int .i64 (root : Int)] 3))) :=
    ⟨⟨HB.out.nx (below_alloc (Below.refl _ _) _), own_lit w1 w.heap.size 3 .i64 [(root : Int)] HB.out.hb.size (by simp), own_nil _ _ _ _, own_nil _ _ _ _, .inr (.inl rfl), AS_ty1 _ _⟩⟩
  have hroot2 := hroot
  clear HB hroot2
  go_loopg [7, 8, 9, 10] (N + 1) (fun kk v7 v8 v9 v10 w' => ∃ (i m : Nat) (R sl L : List Nat) (vL : Value), v10 = .int .i64 (i : Int) ∧ v8 = .int .u64 (m : Int) ∧ Aside0 (i ≤ R.length ∧ R.length ≤ N ∧ N - i < kk) ∧ Aside0 (m < 2 ^ N ∧ sl.Nodup) ∧ Aside0 (AI n root pk R sl m) ∧ Aside0 (Seen n R sl i) ∧ Aside0 (AS w [(g, O)] v7 v9 vL R (sl.map fun x => rp x (pk x)) L w'))
  case atStart =>
    refine ⟨0, 0, [root], [], [], .slice none 0 0, rfl, rfl, ⟨by simp, by simp; omega, by omega⟩, ⟨Nat.two_pow_pos N, List.nodup_nil⟩, ⟨⟨by simp, by simp, fun a ha => by rw [List.mem_singleton.1 ha]; exact .root, fun x => by simp, fun x hx => by cases hx⟩⟩, ⟨fun j hj => by omega⟩, HAS⟩
  case round =>
    clear HAS
    obtain ⟨i, m, R, sl, L0, vL, rfl, rfl, HI, HM, HA, HSn, HS⟩ := hrel
    obtain ⟨A7, c7, rfl, hr7⟩ := HS.out.r.reads
    obtain ⟨k, rfl⟩ : ∃ k, gk = k + 1 := ⟨gk - 1, by have := HI.out; omega⟩
    by_cases hlt : i < R.length
    · have hia := nth_mem R i hlt
      obtain ⟨a, haa⟩ : ∃ a, nth R i = a := ⟨_, rfl⟩
      rw [haa] at hia
      have HIa := Aside0.mk haa
      have haN := HRc.out _ (HA.out.rr _ hia)
      obtain ⟨ad7, rfl, hc7⟩ := hr7.cell i hlt
      rw [haa] at hc7
      clear haa hr7
      have hal : a < n.by_.length := by rw [HOk.out.hb]; exact haN
      have hali : (a : Int) < (n.by_.length : Int) := by omega
      have hlti : (i : Int) < (R.length : Int) := by omega
      obtain ⟨ad1, rfl, hc1⟩ := (H2.out.below HS.out.st.hb).cell a hal
      have hg1 := (HS.out.st.at_ (List.mem_cons_self) 1).trans rfl
      go_wp2
      go_region_held3 (fun w' => w'.cell? ⟨g, 1, none⟩ = some (.slice (some ad1) n.by_.length c1) ∧ w'.cell? (ad7.add i) = some (.int .i64 a) ∧ w'.cell? (ad1.add a) = some (.int .u64 (nth n.by_ a))) (first | go_keep | exact ⟨pw_cell_below hb.out hg1, pw_cell_below hb.out hc7, pw_cell_below hb.out hc1⟩)
        (first | (go_at_call 43; refine (list_own (nth n.by_ a) (p64 HOk.out.hN (HOk.out.lb a)) _ (HT.out.below HT.out.2 HS.out.st.hb.drew)).mono ?_; rintro e w5 ⟨v30, rfl, HL30, hb⟩; obtain ⟨A30, c30, rfl⟩ := own_slice HL30.out))
      have HS5 := Aside0.mk ((HS.out.nx (Below.refl _ _).drew).newL hb.out HL30.out)
      have HJ : Aside0 (AtA n R sl i a 0) := ⟨HIa.out, hlt, fun x hx => by simp at hx⟩
      clear HS hb hg1 hc1 hc7 hali HL30
      have hl64 := bl_length (nth n.by_ a)
      go_wp2
      go_loopw [7, 8, 9, 12, 13, 32] (fun v7 v8 v9 v12 v13 v32 w' => ∃ (j m : Nat) (R sl : List Nat), v32 = .int .i64 (j : Int) ∧ v8 = .int .u64 (m : Int) ∧ j ≤ (bl (nth n.by_ a)).length ∧ Aside0 (m < 2 ^ N ∧ sl.Nodup) ∧ Aside0 (AI n root pk R sl m) ∧ Aside0 (Seen n R sl i) ∧ Aside0 (AtA n R sl i a j) ∧ Aside0 (AS w [(g, O)] v7 v9 (.slice A30 (bl (nth n.by_ a)).length c30) R (sl.map fun x => rp x (pk x)) (bl (nth n.by_ a)) w')) (fun _ _ _ _ _ v32 _ => (bl (nth n.by_ a)).length - (intOf v32).toNat)
      case atStart => exact ⟨0, m, R, sl, rfl, rfl, Nat.zero_le _, HM, HA, HSn, HJ, HS5⟩
      case round =>
        clear HM HA HSn HJ HS5 HIa hlti hlt hia
        obtain ⟨j, m, R, sl, rfl, rfl, hj, HM, HA, HSn, HJ, HS⟩ := hrel
        by_cases hlt : j < (bl (nth n.by_ a)).length
        · obtain ⟨A', c', he, hr⟩ := HS.out.l.reads
          injection he with e1 e2 e3
          subst e1 e3
          obtain ⟨ad30, rfl, hc30⟩ := hr.cell j hlt
          have hx0 := nth_mem _ j hlt
          have hxx := (mem_bl _ _ (p64 HOk.out.hN (HOk.out.lb a))).1 hx0
          have hx := bl_in HOk.out.hN (HOk.out.lb a) hx0
          have HTk := Aside0.mk (take_next (bl (nth n.by_ a)) j hlt)
          clear hx0 hr
          generalize nth (bl (nth n.by_ a)) j = x at *
          have hx64 : x < 64 := Nat.lt_of_lt_of_le hx (Nat.le_trans HOk.out.hN (by omega))
          have haR : a ∈ R := by rw [← HJ.out.1]; exact nth_mem _ _ HJ.out.2.1
          have HXa : Aside0 (RcA n root pk x) := ⟨a, HA.out.rr a haR, hxx⟩
          have HStep := Aside0.mk (HA.out.step haR hxx)
          have HPx : Aside0 (pk x < N) := ⟨HPkN.out x HXa.out⟩
          have HHas := Aside0.mk (fun W : World => has_any m x (p64 HOk.out.hN HM.out.1) hx64 W)
          have HWith := Aside0.mk (fun W : World => with_any m x (p64 HOk.out.hN HM.out.1) hx64 W)
          have HM2 : Aside0 (m ||| 2 ^ x < 2 ^ N) := ⟨Nat.or_lt_two_pow HM.out.1 (Nat.pow_lt_pow_right (by omega) hx)⟩
          clear hxx haR
          cases hbm : m.testBit x with
          | true =>
            rw [hbm] at HHas
            have HBm := Aside0.mk hbm
            clear hbm
            go_wp2_with (first | (go_at_call 46; refine (HHas.out _).mono ?_; rintro e w' ⟨rfl, rfl⟩))
            go_roundw
            case rel => exact ⟨j + 1, m, R, sl, by go_num, rfl, hlt, HM, HA, HSn, ⟨HJ.out.1, HJ.out.2.1, fun z hz => (HTk.out z hz).elim (HJ.out.2.2 z) (fun e => e ▸ (HA.out.sm x).1 HBm.out)⟩, HS⟩
            case measure => simp [intOf]; omega
          | false =>
            rw [hbm] at HHas
            have HNm : Aside0 (x ∉ sl) := ⟨fun h => by have := (HA.out.sm x).2 h; rw [hbm] at this; cases this⟩
            clear hbm
            have HPick := Aside0.mk (HPk.out x HXa.out)
            have HCont := Aside0.mk (fun (v : Value) (W : World) (h : OwnI W w.heap.size v R) => contains_any v w.heap.size R (pk x) W h)
            have HSl := Aside0.mk (HA.out.lt HM.out.1 HOk.out.hN HM.out.2)
            cases hcn : R.contains (pk x) with
            | true =>
              rw [hcn] at HCont
              go_wp2_with (first | (go_at_call 46; refine (HHas.out _).mono ?_; rintro e w' ⟨rfl, rfl⟩) | (go_at_call 28; refine (HWith.out _).mono ?_; rintro e w' ⟨rfl, rfl⟩) | (go_at_fn gf; refine (HPick.out _ HS.out.st.hb).mono ?_; rintro e w6 ⟨rfl, hb6⟩; replace HS := Aside0.mk (HS.out.nx hb6.out); clear hb6 hc30) | (go_at_call 52; refine (HCont.out _ _ HS7.out.r).mono ?_; rintro e w' ⟨rfl, rfl⟩) | (at_builtin; refine app_rp2 (w0 := w) 31 (.tmp 45) (.tmp 49) rfl rfl Tryd.underlying31 info77 _ (sl.map fun x => rp x (pk x)) x (pk x) hx64 (by have := HPx.out; have := HOk.out.hN; omega) rfl rfl ?aO ?aB ?aL ?_; (case aO => exact HS.out.o); (case aB => exact HS.out.st.hb); (case aL => (have := HSl.out; rw [List.length_map]; omega)); intro v1 w7 HO7 HG7; have HS7 := Aside0.mk (HS.out.appO HO7 HG7); clear HS HO7 HG7))
              rw [addN_old hcn] at HStep
              refine ⟨⟨j + 1, m ||| 2 ^ x, R, sl ++ [x], by go_num, rfl, hlt, ⟨HM2.out, nodup_snoc HM.out.2 HNm.out⟩, HStep, ⟨?_⟩, ⟨?_⟩, ⟨?_⟩⟩, by simp [intOf]; omega⟩
              · have := HSn.out.add HJ.out.2.1 (pk x) x; rw [addN_old hcn] at this; exact this
              · have := HJ.out.add HTk.out (pk x); rw [addN_old hcn] at this; exact this
              · rw [List.map_append]; exact HS7.out
            | false =>
              rw [hcn] at HCont
              go_wp2_with (first | (go_at_call 46; refine (HHas.out _).mono ?_; rintro e w' ⟨rfl, rfl⟩) | (go_at_call 28; refine (HWith.out _).mono ?_; rintro e w' ⟨rfl, rfl⟩) | (go_at_fn gf; refine (HPick.out _ HS.out.st.hb).mono ?_; rintro e w6 ⟨rfl, hb6⟩; replace HS := Aside0.mk (HS.out.nx hb6.out); clear hb6 hc30) | (go_at_call 52; refine (HCont.out _ _ HS7.out.r).mono ?_; rintro e w' ⟨rfl, rfl⟩) | (at_builtin; refine app_rp2 (w0 := w) 31 (.tmp 45) (.tmp 49) rfl rfl Tryd.underlying31 info77 _ (sl.map fun x => rp x (pk x)) x (pk x) hx64 (by have := HPx.out; have := HOk.out.hN; omega) rfl rfl ?aO ?aB ?aL ?_; (case aO => exact HS.out.o); (case aB => exact HS.out.st.hb); (case aL => (have := HSl.out; rw [List.length_map]; omega)); intro v1 w7 HO7 HG7; have HS7 := Aside0.mk (HS.out.appO HO7 HG7); clear HS HO7 HG7) | (at_builtin; refine app_node (w0 := w) 25 (.tmp 55) (.tmp 57) rfl rfl Tryd.underlying25 info3 _ R (pk x) rfl rfl ?aO ?aB ?aL ?_; (case aO => exact HS7.out.r); (case aB => exact HS7.out.st.hb); (case aL => (have := HA.out.le HRc.out; have := HOk.out.hN; omega)); intro v2 w8 HR8 HG8 HAt8; have HS8 := Aside0.mk (HS7.out.appR HR8 HG8 HAt8); clear HS7 HR8 HG8 HAt8))
              rw [addN_new hcn] at HStep
              refine ⟨⟨j + 1, m ||| 2 ^ x, R ++ [pk x], sl ++ [x], by go_num, rfl, hlt, ⟨HM2.out, nodup_snoc HM.out.2 HNm.out⟩, HStep, ⟨?_⟩, ⟨?_⟩, ⟨?_⟩⟩, by simp [intOf]; omega⟩
              · have := HSn.out.add HJ.out.2.1 (pk x) x; rw [addN_new hcn] at this; exact this
              · have := HJ.out.add HTk.out (pk x); rw [addN_new hcn] at this; exact this
              · rw [List.map_append]; exact HS8.out
        · have HEnd := Aside0.mk (Nat.le_of_not_lt hlt)
          have hi40 : i < 40 := by have := HJ.out.2.1; have := HA.out.le HRc.out; have := HOk.out.hN; omega
          go_wp2
          go_roundg k
          case measure => omega
          case rel =>
            have hRN := HA.out.le HRc.out
            refine ⟨i + 1, m, R, sl, _, _, by go_num, rfl, ⟨by have := HJ.out.2.1; omega, hRN, by have := HI.out.2.2; have := HJ.out.2.1; omega⟩, HM, HA, ⟨HJ.out.seen HEnd.out (p64 HOk.out.hN (HOk.out.lb a)) HSn.out⟩, HS⟩
    · have HSl := Aside0.mk (HA.out.lt HM.out.1 HOk.out.hN HM.out.2)
      go_wp2_with (first | (go_at_call 53; refine (sort_any 57 (.inl rfl) (sl.map fun x => rp x (pk x)) (by have := HSl.out; rw [List.length_map]; omega) _ _ _ HS.out.o).mono ?_; rintro e w8 ⟨rfl, rs, HPm, HSo, HO8, HG8⟩))
      go_ret
      have e := sorted_is m (p64 HOk.out.hN HM.out.1) pk sl HM.out.2 HA.out.sm rs HPm.out HSo.out
      obtain ⟨A, c, h1, h2⟩ := HO8.out.reads
      have hi : i = R.length := by have := HI.out; omega
      have hd := HA.out.done (by rw [← hi]; exact HSn.out)
      have h3 := HO8.out
      rw [h1, e, List.length_map] at h3
      rw [e, List.length_map] at h1
      replace h2 := h3
      exact ⟨A, c, m, congrArg Ending.returned h1, ⟨HM.out.1, hd⟩, ⟨h2⟩, ⟨HS.out.st.hb.grown HG8.out HS.out.st.hb.size (own_base' HS.out.o)⟩⟩
end Go.Proofs.YtgboplcjafmliaaDoor.G

/- The contract of game.reply: a binary search in replies that are sorted. -/
namespace Go.Proofs.YtgboplcjafmliaaDoor.G
open Go.RowKit Go.Proofs.YtgboplcjafmliaaDoorW.PrintWords Go.Proofs.YtgboplcjafmliaaDoorW.PrintLast Go.Proofs.YtgboplcjafmliaaDoorW.PrintMore
open Go.Proofs.YtgboplcjafmliaaDoor.PAll
set_option linter.unusedVariables false
set_option linter.unusedSimpArgs false

def nthR (rs : List Rp) (i : Nat) : Rp := rs.getD i (0, 0)
theorem nthR_get (rs : List Rp) (i : Nat) (h : i < rs.length) : nthR rs i = rs[i] := by
  rw [nthR, List.getD_eq_getElem?_getD, List.getElem?_eq_getElem h]; rfl
theorem RdR.cell {w : World} {A : Option Addr} {c : Nat} {rs : List Rp} (h : RdR w A c rs) (i : Nat) (hi : i < rs.length) : ∃ ad, A = some ad ∧ w.cell? (ad.add (i * 2)) = some (.int .i64 (((nthR rs i).1.val : Nat) : Int)) ∧ w.cell? ⟨(ad.add (i * 2)).block, (ad.add (i * 2)).off + 1, none⟩ = some (.int .i64 (((nthR rs i).2.val : Nat) : Int)) := by
  obtain ⟨ad, h1, h2, h3⟩ := at_T77 h.2 (i : Int) (by omega) (by omega)
  have e : rd_T77 (rs.map s77) (i : Int) = s77 (nthR rs i) := by
    unfold rd_T77
    rw [Int.toNat_natCast, List.getD_eq_getElem?_getD, List.getElem?_map, List.getElem?_eq_getElem hi, nthR_get rs i hi]; rfl
  rw [e] at h2 h3
  exact ⟨ad, h1, by simpa [s77] using h2, by simpa [s77] using h3⟩
/-- Replies that are strictly sorted. -/
def SortR (rs : List Rp) : Prop := rs.Pairwise fun p q => p.1.val < q.1.val
/-- The reply to a node. -/
def rep (rs : List Rp) (t : Nat) : Option Nat := (rs.find? fun p => p.1.val == t).map fun p => p.2.val

theorem SortR.lt {rs : List Rp} (h : SortR rs) {i j : Nat} (hij : i < j) (hj : j < rs.length) : (nthR rs i).1.val < (nthR rs j).1.val := by
  rw [nthR_get rs i (by omega), nthR_get rs j hj]
  exact List.pairwise_iff_getElem.1 h i j (by omega) hj hij
theorem rep_at {rs : List Rp} (h : SortR rs) {i t : Nat} (hi : i < rs.length) (e : (nthR rs i).1.val = t) : rep rs t = some (nthR rs i).2.val := by
  unfold rep
  have : rs.find? (fun p => p.1.val == t) = some (nthR rs i) := by
    rw [List.find?_eq_some_iff_getElem]
    refine ⟨by simpa using e, i, hi, (nthR_get rs i hi).symm, fun j hj => ?_⟩
    have h1 := h.lt hj hi
    rw [nthR_get rs j (by omega)] at h1
    simp; omega
  rw [this]; rfl
theorem rep_none {rs : List Rp} {t : Nat} (h : ∀ i, i < rs.length → (nthR rs i).1.val ≠ t) : rep rs t = none := by
  unfold rep
  have : rs.find? (fun p => p.1.val == t) = none := by
    rw [List.find?_eq_none]
    intro p hp
    obtain ⟨i, hi, e⟩ := List.mem_iff_getElem.1 hp
    have := h i hi
    rw [nthR_get rs i hi, e] at this
    simpa using this
  rw [this]; rfl

set_option maxHeartbeats 400000 in
theorem cmp70 (a b t : Nat) (ha : a < 64) (ht : t < 64) (W : World) : Calls Tryd.prog 70 #[.agg #[.int .i64 (a : Int), .int .i64 (b : Int)], .int .i64 (t : Int)] W fun e w' => e = .returned (.int .i64 ((a : Int) - (t : Int))) ∧ Aside0 (Below W.heap.size W w') := by
  have h : IntKind.i64.wrap ((a : Int) - (t : Int)) = (a : Int) - (t : Int) := IntWalk.i64_in _ (by omega)
  have H := Aside0.mk h
  clear h
  go_enter Tryd.func70, Tryd.ntmps70
  go_wp2
  go_ret
  exact ⟨rfl, ⟨below_alloc (Below.refl _ _) _⟩⟩

set_option maxHeartbeats 4000000 in
theorem search70_any (rs : List Rp) (hn : rs.length < 1000) (hs : SortR rs) (t : Nat) (ht : t < 64) (A : Option Addr) (c : Nat) (w : World) (hr : RdR w A c rs) :
    Calls Tryd.prog 69 #[.slice A rs.length c, .int .i64 (t : Int), .func (.func 70) #[] #[]] w fun e w' => ∃ i : Nat, i ≤ rs.length ∧ (∀ k, k < i → (nthR rs k).1.val < t) ∧ (∀ k, i ≤ k → k < rs.length → t ≤ (nthR rs k).1.val) ∧ e = .returned (.tuple #[.int .i64 (i : Int), .bool (decide (i < rs.length ∧ (nthR rs i).1.val = t))]) ∧ Aside0 (Below w.heap.size w w') := by
  have HR := Aside0.mk hr
  have HSo := Aside0.mk hs
  clear hr hs
  have HB := Aside0.mk (St.refl w)
  go_enter Tryd.func69, Tryd.ntmps69
  go_wp2
  go_loopg [9, 10, 11] (rs.length + 1) (fun kk v9 v10 v11 w' => ∃ (i j : Nat), v9 = .int .i64 (i : Int) ∧ v10 = .int .i64 (j : Int) ∧ Aside0 (i ≤ j ∧ j ≤ rs.length ∧ j - i < kk) ∧ Aside0 (∀ k, k < i → (nthR rs k).1.val < t) ∧ Aside0 (∀ k, j ≤ k → k < rs.length → t ≤ (nthR rs k).1.val) ∧ Aside0 (St w [] w'))
  case atStart => exact ⟨0, rs.length, rfl, rfl, ⟨by omega⟩, ⟨fun k hk => by omega⟩, ⟨fun k hk hk2 => by omega⟩, HB⟩
  case round =>
    clear HB
    obtain ⟨i, j, rfl, rfl, HI, HL, HG, HW⟩ := hrel
    obtain ⟨kk, rfl⟩ : ∃ k, gk = k + 1 := ⟨gk - 1, by have := HI.out; omega⟩
    by_cases hlt : i < j
    · obtain ⟨h, hh⟩ : ∃ h, (i + j) / 2 = h := ⟨_, rfl⟩
      have hh1 : i ≤ h := by omega
      have hh2 : h < j := by omega
      have hjn := HI.out.2.1
      have hhn : h < rs.length := by omega
      obtain ⟨ad, rfl, hc0, hc1⟩ := (HR.out.below HW.out.hb).cell h hhn
      obtain ⟨a, haa⟩ : ∃ a, (nthR rs h).1.val = a := ⟨_, rfl⟩
      obtain ⟨b, hbb⟩ : ∃ b, (nthR rs h).2.val = b := ⟨_, rfl⟩
      have ha64 : a < 64 := by rw [← haa]; exact (nthR rs h).1.isLt
      rw [haa] at hc0
      rw [hbb] at hc1
      have HAa := Aside0.mk haa
      have HHh := Aside0.mk hh
      clear haa hbb
      by_cases hd : a < t
      · have e1 : decide ((a : Int) - (t : Int) < 0) = true := decide_eq_true (by omega)
        have HL2 : Aside0 (∀ k, k < h + 1 → (nthR rs k).1.val < t) := ⟨fun k hk => by
          rcases Nat.lt_succ_iff_lt_or_eq.1 hk with h1 | h1
          · have := HSo.out.lt h1 hhn; have := HAa.out; omega
          · rw [h1, HAa.out]; exact hd⟩
        clear hd
        go_wp2
        go_roundg kk
        case measure => omega
        case rel => exact ⟨h + 1, j, by rw [← HHh.out]; rfl, rfl, ⟨by omega, hjn, by have := HI.out; omega⟩, HL2, HG, ⟨HW.out.nx (below_alloc (Below.refl _ _) _)⟩⟩
      · have e1 : decide ((a : Int) - (t : Int) < 0) = false := decide_eq_false (by omega)
        have HG2 : Aside0 (∀ k, h ≤ k → k < rs.length → t ≤ (nthR rs k).1.val) := ⟨fun k hk hk2 => by
          rcases Nat.eq_or_lt_of_le hk with h1 | h1
          · rw [← h1, HAa.out]; omega
          · have := HSo.out.lt h1 hk2; have := HAa.out; omega⟩
        clear hd
        go_wp2
        go_roundg kk
        case measure => omega
        case rel => exact ⟨i, h, rfl, by rw [← HHh.out]; rfl, ⟨hh1, by omega, by have := HI.out; omega⟩, HL, HG2, ⟨HW.out.nx (below_alloc (Below.refl _ _) _)⟩⟩
    · have hij : i = j := by have := HI.out.1; omega
      subst hij
      have hin := HI.out.2.1
      by_cases hil : i < rs.length
      · have e0 : decide ((i : Int) < (rs.length : Int)) = true := decide_eq_true (by omega)
        have e00 : decide (i < rs.length) = true := decide_eq_true hil
        obtain ⟨ad, rfl, hc0, hc1⟩ := (HR.out.below HW.out.hb).cell i hil
        obtain ⟨a, haa⟩ : ∃ a, (nthR rs i).1.val = a := ⟨_, rfl⟩
        obtain ⟨b, hbb⟩ : ∃ b, (nthR rs i).2.val = b := ⟨_, rfl⟩
        have ha64 : a < 64 := by rw [← haa]; exact (nthR rs i).1.isLt
        rw [haa] at hc0
        rw [hbb] at hc1
        have HAa := Aside0.mk haa
        clear haa hbb
        go_wp2
        go_ret2
        refine ⟨i, hin, HL.out, HG.out, ?_, ⟨(HW.out.nx (below_alloc (Below.refl _ _) _)).hb⟩⟩
        have e : ((a : Int) - (t : Int) == 0) = decide (i < rs.length ∧ (nthR rs i).1.val = t) := by
          rw [HAa.out, Bool.eq_iff_iff, beq_iff_eq, decide_eq_true_eq]
          omega
        rw [← e]
        rfl
      · have e0 : decide ((i : Int) < (rs.length : Int)) = false := decide_eq_false (by omega)
        have e00 : decide (i < rs.length) = false := decide_eq_false hil
        go_wp2
        go_ret2
        refine ⟨i, hin, HL.out, HG.out, ?_, ⟨HW.out.hb⟩⟩
        rw [show decide (i < rs.length ∧ (nthR rs i).1.val = t) = false from decide_eq_false (fun h => hil h.1)]
        rfl
/-- The two results of reply. -/
def repV (o : Option Nat) : Value := .tuple #[.int .i64 ((o.getD 0 : Nat) : Int), .bool o.isSome]
set_option maxHeartbeats 4000000 in
theorem reply_any (rs : List Rp) (hn : rs.length < 1000) (hs : SortR rs) (t : Nat) (ht : t < 64) (A : Option Addr) (c : Nat) (x y z : Int) (w : World) (hr : RdR w A c rs) :
    Calls Tryd.prog 47 #[.agg #[.int .i64 x, .int .i64 y, .int .i64 z, .slice A rs.length c], .int .i64 (t : Int)] w fun e w' => e = .returned (repV (rep rs t)) ∧ Aside0 (Below w.heap.size w w') := by
  have HR := Aside0.mk hr
  have HSo := Aside0.mk hs
  have HS := Aside0.mk (fun W h => search70_any rs hn hs t ht A c W h)
  clear hr hs
  have HB := Aside0.mk (St.refl w)
  go_enter Tryd.func47, Tryd.ntmps47
  go_upto_if 16 with (first | ((with_reducible refine gate_dst (N := 2) rfl ?_); refine box_st (w := w) 2 #[.int .i64 x, .int .i64 y, .int .i64 z, .slice A rs.length c] 33 rfl rfl ?hr HB.out ?_; (case hr => go_simp; done); clear HB; intro g w1 HB GE; have hg3 := (HB.out.at_ (List.mem_cons_self) 3).trans rfl) | (go_at_call 69; refine (HS.out _ (HR.out.below HB.out.hb)).mono ?_; rintro e w2 ⟨i, hi, h1, h2, rfl, hb⟩; obtain ⟨b, hbq⟩ : ∃ b, decide (i < rs.length ∧ (nthR rs i).1.val = t) = b := ⟨_, rfl⟩; rw [hbq]; have HBq := Aside0.mk hbq; clear hbq; have HL := Aside0.mk h1; have HG := Aside0.mk h2; have HB2 := Aside0.mk (HB.out.nx hb.out); clear HB hb hg3 h1 h2))
  cases b with
  | true =>
    have hq := of_decide_eq_true HBq.out
    have hil := hq.1
    have HRep := Aside0.mk (rep_at HSo.out hil hq.2)
    obtain ⟨ad, rfl, hc0, hc1⟩ := (HR.out.below HB2.out.hb).cell i hil
    have hg3 := (HB2.out.at_ (List.mem_cons_self) 3).trans rfl
    clear hq
    go_wp2
    go_ret2
    exact ⟨by rw [HRep.out]; rfl, ⟨HB2.out.hb⟩⟩
  | false =>
    have HRep : Aside0 (rep rs t = none) := ⟨rep_none fun k hk => by
      have hq := of_decide_eq_false HBq.out
      rcases Nat.lt_trichotomy k i with h | h | h
      · have := HL.out k h; omega
      · rw [h]; intro h2; exact hq ⟨by omega, h2⟩
      · have h1 := HG.out i (Nat.le_refl _) (by omega)
        have := HSo.out.lt h hk; omega⟩
    go_wp2
    go_ret2
    exact ⟨by rw [HRep.out]; rfl, ⟨HB2.out.hb⟩⟩
end Go.Proofs.YtgboplcjafmliaaDoor.G

/- The contract of the checker's visit, and what it computes. -/
namespace Go.Proofs.YtgboplcjafmliaaDoor.G
open Go.RowKit Go.Proofs.YtgboplcjafmliaaDoorW.PrintWords Go.Proofs.YtgboplcjafmliaaDoorW.PrintLast Go.Proofs.YtgboplcjafmliaaDoorW.PrintMore
open Go.Proofs.YtgboplcjafmliaaDoor.PAll
set_option linter.unusedVariables false
set_option linter.unusedSimpArgs false

/-- Two blocks may have been written, what else was there is there. -/
structure Kp (g h : Nat) (w x : World) : Prop where
  os : x.os = w.os
  tape : x.tape = w.tape
  output : x.output = w.output
  size : w.heap.size ≤ x.heap.size
  block : ∀ k, k < w.heap.size → k ≠ g → k ≠ h → x.heap[k]? = w.heap[k]?
theorem Kp.refl (g h : Nat) (w : World) : Kp g h w w := ⟨rfl, rfl, rfl, Nat.le_refl _, fun _ _ _ _ => rfl⟩
theorem Kp.trans {g h : Nat} {w x y : World} (a : Kp g h w x) (b : Kp g h x y) : Kp g h w y :=
  ⟨b.os.trans a.os, b.tape.trans a.tape, b.output.trans a.output, Nat.le_trans a.size b.size, fun k hk h1 h2 => (b.block k (Nat.lt_of_lt_of_le hk a.size) h1 h2).trans (a.block k hk h1 h2)⟩
theorem Kp.of {g h : Nat} {w x : World} (a : Below w.heap.size w x) : Kp g h w x := ⟨a.os, a.tape, a.output, a.size, fun k hk _ _ => a.block k hk⟩
theorem Kp.setg {g h : Nat} (w : World) (i : Nat) (v : Value) : Kp g h w (w.setCell ⟨g, i, none⟩ v) :=
  ⟨rfl, rfl, rfl, by simp, fun k _ h1 _ => heap_setCell_other w _ k v h1⟩
theorem Kp.seth {g h : Nat} (w : World) (i : Nat) (v : Value) : Kp g h w (w.setCell ⟨h, i, none⟩ v) :=
  ⟨rfl, rfl, rfl, by simp, fun k _ _ h2 => heap_setCell_other w _ k v h2⟩
theorem Kp.below {g h B : Nat} {w x : World} (a : Kp g h w x) (hg : B ≤ g) (hh : B ≤ h) (hB : B ≤ w.heap.size) : Below B w x :=
  ⟨a.os, a.tape, a.output, a.size, fun k hk => a.block k (by omega) (by omega) (by omega)⟩
theorem Kp.blk {g h : Nat} {w x : World} (a : Kp g h w x) {k : Nat} {cs cs' cs'' : Array Value} {t t' t'' : TypeId} (hk : w.heap[k]? = some (.cells cs t (0, 0))) (hg : w.heap[g]? = some (.cells cs' t' (0, 0))) (hh : w.heap[h]? = some (.cells cs'' t'' (0, 0))) (h1 : t ≠ t') (h2 : t ≠ t'') : x.heap[k]? = some (.cells cs t (0, 0)) := by
  rw [a.block k (blk_lt hk) (fun e => by subst e; rw [hk] at hg; injection hg with hg; injection hg with _ hg; exact h1 hg) (fun e => by subst e; rw [hk] at hh; injection hh with hh; injection hh with _ hh; exact h2 hh)]
  exact hk
theorem OwnI.kp {g h : Nat} {w x : World} {base : Nat} {v : Value} {l : List Nat} (o : OwnI w base v l) (a : Kp g h w x) (hg : g < base) (hh : h < base) : OwnI x base v l := by
  obtain ⟨h1, h2⟩ := o
  refine ⟨h1, ?_⟩
  rcases h2 with h2 | ⟨b, cap, cur, rfl, hb, hk, r⟩
  · exact .inl h2
  · exact .inr ⟨b, cap, cur, rfl, hb, (a.block b (blk_lt hk) (by omega) (by omega)).trans hk, r⟩
theorem OwnRp.kp {g h : Nat} {w x : World} {base : Nat} {v : Value} {rs : List Rp} (o : OwnRp w base v rs) (a : Kp g h w x) {cs' cs'' : Array Value} {t' t'' : TypeId} (hg : w.heap[g]? = some (.cells cs' t' (0, 0))) (hh : w.heap[h]? = some (.cells cs'' t'' (0, 0))) (h1 : 77 ≠ t') (h2 : 77 ≠ t'') : OwnRp x base v rs := by
  obtain ⟨h3, h4⟩ := o
  refine ⟨h3, ?_⟩
  rcases h4 with h4 | ⟨b, cap, cur, rfl, hb, hk, r⟩
  · exact .inl h4
  · exact .inr ⟨b, cap, cur, rfl, hb, a.blk hk hg hh h1 h2, r⟩

/-- Numbers in a block. -/
def i64s (l : List Nat) : Array Value := ((up l).map fun x => Value.int .i64 x).toArray
theorem i64s_get (l : List Nat) (i : Nat) (h : i < l.length) : (i64s l)[i]? = some (.int .i64 ((nth l i : Nat) : Int)) := by
  simp only [i64s, up, List.getElem?_toArray, List.getElem?_map, nth, List.getD_eq_getElem?_getD, List.getElem?_eq_getElem h]
  rfl
theorem i64s_set (l : List Nat) (t f : Nat) : (i64s l).setIfInBounds t (.int .i64 (f : Int)) = i64s (l.set t f) := by
  simp [i64s, up, List.map_set]

/-- What the checker knows, and where. -/
structure CkD where
  N : Nat
  n : NetD
  b1 : Nat
  b2 : Nat
  game : Int
  root : Nat
  who : Int
  A : Option Addr
  c : Nat
  base : Nat
  rs : List Rp
  g : Nat
  h : Nat
structure CkD.Ok (d : CkD) : Prop where
  ok : d.n.Ok d.N
  root : d.root < d.N
  game : d.game = 1 ∨ d.game = 2
  who : d.who = 1 ∨ d.who = 2
  so : SortR d.rs
  lt : ∀ p, p ∈ d.rs → p.1.val < d.N ∧ p.2.val < d.N
  rn : d.rs.length < 1000
  g0 : 0 < d.g
  h0 : 0 < d.h
def CkD.cells (d : CkD) (reached : Nat) : Array Value := #[.int .u64 (d.n.all : Int), .slice (some ⟨d.b1, 0, none⟩) d.N d.N, .slice (some ⟨d.b2, 0, none⟩) d.N d.N, .int .i64 d.game, .int .i64 (d.root : Int), .int .i64 d.who, .slice d.A d.rs.length d.c, .int .u64 (reached : Int), .slice (some ⟨d.h, 0, none⟩) d.N d.N]
structure CS where
  reached : Nat
  st : List Nat
structure CkS (d : CkD) (s : CS) (x : World) : Prop where
  tab : TabW x
  b1 : x.heap[d.b1]? = some (.cells (u64s d.n.by_) 61 (0, 0))
  b2 : x.heap[d.b2]? = some (.cells (u64s d.n.out) 61 (0, 0))
  rp : OwnRp x d.base (.slice d.A d.rs.length d.c) d.rs
  g : x.heap[d.g]? = some (.cells (d.cells s.reached) 84 (0, 0))
  h : x.heap[d.h]? = some (.cells (i64s s.st) 3 (0, 0))
  len : s.st.length = d.N
  lt : s.reached < 2 ^ d.N
theorem CkS.kp {d : CkD} {s t : CS} {x y : World} (a : CkS d s x) (ho : d.Ok) (k : Kp d.g d.h x y) (hg : y.heap[d.g]? = some (.cells (d.cells t.reached) 84 (0, 0))) (hh : y.heap[d.h]? = some (.cells (i64s t.st) 3 (0, 0))) (hl : t.st.length = d.N) (hr : t.reached < 2 ^ d.N) : CkS d t y :=
  ⟨a.tab.below (B := 1) (by omega) (k.below ho.g0 ho.h0 a.tab.2), k.blk a.b1 a.g a.h (by decide) (by decide), k.blk a.b2 a.g a.h (by decide) (by decide), a.rp.kp k a.g a.h (by decide) (by decide), hg, hh, hl, hr⟩
theorem CkS.nx {d : CkD} {s : CS} {x y : World} (a : CkS d s x) (hb : Below x.heap.size x y) : CkS d s y :=
  ⟨a.tab.below a.tab.2 hb, blk_grown a.b1 (grown_of_below hb none) (by simp), blk_grown a.b2 (grown_of_below hb none) (by simp), a.rp.below hb, blk_grown a.g (grown_of_below hb none) (by simp), blk_grown a.h (grown_of_below hb none) (by simp), a.len, a.lt⟩
theorem CkS.drew {d : CkD} {s : CS} {x : World} (a : CkS d s x) : CkS d s x.drew := a.nx (Below.refl _ _).drew
theorem CkS.at_ {d : CkD} {s : CS} {x : World} (a : CkS d s x) (i : Nat) : x.cell? ⟨d.g, i, none⟩ = (d.cells s.reached)[i]? := blk_cell a.g i
theorem CkS.hat {d : CkD} {s : CS} {x : World} (a : CkS d s x) (i : Nat) (hi : i < d.N) : x.cell? ⟨d.h, i, none⟩ = some (.int .i64 ((nth s.st i : Nat) : Int)) := (blk_cell a.h i).trans (i64s_get _ _ (by rw [a.len]; exact hi))
theorem CkS.bat {d : CkD} {s : CS} {x : World} (a : CkS d s x) (ho : d.Ok) (i : Nat) (hi : i < d.N) : x.cell? ⟨d.b1, i, none⟩ = some (.int .u64 ((nth d.n.by_ i : Nat) : Int)) := (blk_cell a.b1 i).trans (u64s_get _ _ (by rw [ho.ok.hb]; exact hi))
theorem CkS.ne {d : CkD} {s : CS} {x : World} (a : CkS d s x) : d.g ≠ d.h := fun e => by
  have h1 := a.g
  have h2 := a.h
  rw [e] at h1
  rw [h1] at h2
  injection h2 with h2
  injection h2 with _ h2
  exact absurd h2 (by decide)
/-- A node of the state is set. -/
theorem CkS.seth {d : CkD} {s : CS} {x : World} (a : CkS d s x) (ho : d.Ok) (i v : Nat) : CkS d ⟨s.reached, s.st.set i v⟩ (x.setCell ⟨d.h, i, none⟩ (.int .i64 (v : Int))) := by
  refine a.kp ho (Kp.seth x i _) ?_ ?_ (by simpa using a.len) a.lt
  · rw [heap_setCell_other x _ d.g _ (fun e => by have h1 := a.g; have h2 := a.h; change d.g = d.h at e; rw [e] at h1; rw [h1] at h2; injection h2 with h2; injection h2 with _ h2; exact absurd h2 (by decide))]
    exact a.g
  · rw [heap_setCell_same x d.h i (i64s s.st) 3 _ a.h, i64s_set]
theorem CkS.setr {d : CkD} {s : CS} {x : World} (a : CkS d s x) (ho : d.Ok) (r : Nat) (hr : r < 2 ^ d.N) : CkS d ⟨r, s.st⟩ (x.setCell ⟨d.g, 7, none⟩ (.int .u64 (r : Int))) := by
  refine a.kp ho (Kp.setg x 7 _) ?_ ?_ a.len hr
  · rw [heap_setCell_same x d.g 7 (d.cells s.reached) 84 _ a.g]; rfl
  · rw [heap_setCell_other x _ d.h _ (fun e => by have h1 := a.g; have h2 := a.h; change d.h = d.g at e; rw [← e] at h1; rw [h1] at h2; injection h2 with h2; injection h2 with _ h2; exact absurd h2 (by decide))]
    exact a.h

/-- What visit computes, with a bound on the depth. -/
def vStep (n : NetD) (rs : List Rp) (game : Int) (rec : Nat → CS → Bool × CS) : List Nat → CS → Bool × CS
  | [], s => (true, s)
  | x :: L, s => match rep rs x with
    | none => (false, s)
    | some y => if (nth n.by_ x).testBit y = true then
        (if nth s.st y = 1 ∧ game = 1 then (false, s)
         else if nth s.st y = 0 then (if (rec y s).1 = true then vStep n rs game rec L (rec y s).2 else rec y s) else vStep n rs game rec L s)
      else (false, s)
def vFin (node : Nat) (r : Bool × CS) : Bool × CS := if r.1 = true then (true, ⟨r.2.reached, r.2.st.set node 2⟩) else r
def vis (n : NetD) (rs : List Rp) (game : Int) : Nat → Nat → CS → Bool × CS
  | 0, _, s => (false, s)
  | f + 1, node, s => vFin node (vStep n rs game (vis n rs game f) (bl (nth n.by_ node)) ⟨s.reached ||| 2 ^ node, s.st.set node 1⟩)
theorem rep_mem {rs : List Rp} {t y : Nat} (h : rep rs t = some y) : ∃ p, p ∈ rs ∧ p.1.val = t ∧ p.2.val = y := by
  unfold rep at h
  obtain ⟨p, hp, e⟩ := Option.map_eq_some_iff.1 h
  exact ⟨p, List.mem_of_find?_eq_some hp, by have := List.find?_some hp; simpa using this, e⟩
/-- The nodes that have not been visited. -/
def zeros (s : CS) : Nat := s.st.countP fun x => x == 0

theorem zeros_set (r : Nat) {st : List Nat} {y : Nat} (hy : y < st.length) (h : nth st y = 0) : zeros ⟨r, st.set y 1⟩ < zeros ⟨r, st⟩ := by
  unfold zeros
  have h1 : st[y] = 0 := by rw [← nth_get st y hy]; exact h
  have h2 : 0 < st.countP fun x => x == 0 := List.countP_pos_iff.2 ⟨st[y], List.getElem_mem hy, by rw [h1]; rfl⟩
  show (st.set y 1).countP (fun x => x == 0) < st.countP (fun x => x == 0)
  rw [List.countP_set hy, h1]
  simp
  omega
theorem zeros_two (s : CS) (y : Nat) : zeros ⟨s.reached, s.st.set y 2⟩ ≤ zeros s := by
  unfold zeros
  by_cases hy : y < s.st.length
  · show (s.st.set y 2).countP (fun x => x == 0) ≤ s.st.countP (fun x => x == 0)
    rw [List.countP_set hy]
    simp
  · rw [List.set_eq_of_length_le (by omega)]; exact Nat.le_refl _
set_option maxHeartbeats 8000000 in
set_option maxRecDepth 100000 in
theorem visit_any (d : CkD) (ho : d.Ok) : ∀ (f node : Nat) (s : CS) (hn : node < d.N) (hz : zeros ⟨s.reached, s.st.set node 1⟩ < f) (w : World) (hc : CkS d s w),
    Calls Tryd.prog 63 #[.pointer (some ⟨d.g, 0, none⟩), .int .i64 (node : Int)] w fun e w' => e = .returned (.bool (vis d.n d.rs d.game f node s).1) ∧ Aside0 (CkS d (vis d.n d.rs d.game f node s).2 w') ∧ Aside0 (Kp d.g d.h w w') ∧ Aside0 (zeros (vis d.n d.rs d.game f node s).2 ≤ zeros ⟨s.reached, s.st.set node 1⟩) := by
  have HOd := Aside0.mk ho
  clear ho
  intro f
  induction f with
  | zero => intro node s hn hz; omega
  | succ f ih =>
    intro node s hn hz w hc
    have IH := Aside0.mk ih
    have HZ := Aside0.mk hz
    have HC := Aside0.mk hc
    clear ih hz hc
    have hN := HOd.out.ok.hN
    have hg8 : w.cell? ⟨d.g, 8, none⟩ = some (.slice (some ⟨d.h, 0, none⟩) d.N d.N) := HC.out.at_ 8
    have hg7 : w.cell? ⟨d.g, 7, none⟩ = some (.int .u64 (s.reached : Int)) := HC.out.at_ 7
    have hh := HC.out.hat node hn
    have hfh : w.frozen? ⟨d.h, node, none⟩ = false := blk_frozen HC.out.h node
    have hfg : w.frozen? ⟨d.g, 7, none⟩ = false := blk_frozen HC.out.g 7
    have hni : (node : Int) < (d.N : Int) := by omega
    have HWi := Aside0.mk (fun W : World => with_any s.reached node (p64 HOd.out.ok.hN HC.out.lt) (by omega) W)
    have hne : d.g ≠ d.h := HC.out.ne
    have hne2 : d.h ≠ d.g := Ne.symm hne
    go_enter Tryd.func63, Tryd.ntmps63
    go_upto_region 1 with fail
    have hrl : s.reached ||| 2 ^ node < 2 ^ d.N := Nat.or_lt_two_pow HC.out.lt (Nat.pow_lt_pow_right (by omega) hn)
    have HC1 := Aside0.mk ((HC.out.seth HOd.out node 1).setr HOd.out (s.reached ||| 2 ^ node) hrl).drew
    have HK1 : Aside0 (Kp d.g d.h w ((w.setCell ⟨d.h, node, none⟩ (.int .i64 1)).setCell ⟨d.g, 7, none⟩ (.int .u64 ((s.reached ||| 2 ^ node : Nat) : Int))).drew) := ⟨((Kp.seth w node _).trans (Kp.setg _ 7 _)).trans (Kp.of (Below.refl _ _).drew)⟩
    go_cut [4] (fun s4 wx => s4 = .bool false ∧ Aside0 (CkS d ⟨s.reached ||| 2 ^ node, s.st.set node 1⟩ wx) ∧ Aside0 (Kp d.g d.h w wx))
    case first =>
      go_region_with ((go_at_call 28; refine (HWi.out _).mono ?_; rintro e w' ⟨rfl, rfl⟩))
      all_goals (go_wp2_with fail; go_meet)
      all_goals exact ⟨rfl, ⟨HC1.out⟩, HK1⟩
    case rest =>
      obtain ⟨rfl, HC, HK⟩ := hcut
      clear hg8 hg7 hh hfh hfg HWi HC1 HK1 hrl
      obtain ⟨s1, hs1⟩ : ∃ s1, (⟨s.reached ||| 2 ^ node, s.st.set node 1⟩ : CS) = s1 := ⟨_, rfl⟩
      have HVis : Aside0 (vis d.n d.rs d.game (f + 1) node s = vFin node (vStep d.n d.rs d.game (vis d.n d.rs d.game f) (bl (nth d.n.by_ node)) s1)) := ⟨by rw [← hs1, vis]⟩
      have HZ1 : Aside0 (zeros ⟨s.reached, s.st.set node 1⟩ = zeros s1) := ⟨by rw [← hs1]; rfl⟩
      rw [HZ1.out] at HZ
      rw [hs1] at HC
      clear hs1
      have hg1 : wc.cell? ⟨d.g, 1, none⟩ = some (.slice (some ⟨d.b1, 0, none⟩) d.N d.N) := HC.out.at_ 1
      have hb1 := HC.out.bat HOd.out node hn
      go_wp2_with (first | (go_at_call 43; refine (list_own (nth d.n.by_ node) (p64 HOd.out.ok.hN (HOd.out.ok.lb node)) _ HC.out.tab).mono ?_; rintro e w2 ⟨v32, rfl, HL, hb⟩; obtain ⟨A32, c32, rfl⟩ := own_slice HL.out))
      have HC2 := Aside0.mk (HC.out.nx hb.out)
      have HK2 := Aside0.mk (HK.out.trans (Kp.of hb.out))
      have HBs : Aside0 (d.g < wc.heap.size ∧ d.h < wc.heap.size) := ⟨blk_lt HC.out.g, blk_lt HC.out.h⟩
      have HL2 : Aside0 (OwnI w2 wc.heap.size (.slice A32 (bl (nth d.n.by_ node)).length c32) (bl (nth d.n.by_ node))) := ⟨HL.out⟩
      have hl64 := bl_length (nth d.n.by_ node)
      clear HC HK hb HL hg1 hb1
      go_loopw [6, 7, 8, 34] (fun v6 v7 v8 v34 w' => ∃ (j : Nat) (sc : CS), v34 = .int .i64 (j : Int) ∧ j ≤ (bl (nth d.n.by_ node)).length ∧ Aside0 (CkS d sc w') ∧ Aside0 (Kp d.g d.h w w') ∧ Aside0 (OwnI w' wc.heap.size (.slice A32 (bl (nth d.n.by_ node)).length c32) (bl (nth d.n.by_ node))) ∧ Aside0 (vStep d.n d.rs d.game (vis d.n d.rs d.game f) ((bl (nth d.n.by_ node)).drop j) sc = vStep d.n d.rs d.game (vis d.n d.rs d.game f) (bl (nth d.n.by_ node)) s1) ∧ Aside0 (zeros sc ≤ zeros s1)) (fun _ _ _ v34 _ => (bl (nth d.n.by_ node)).length - (intOf v34).toNat)
      case atStart => exact ⟨0, s1, rfl, Nat.zero_le _, HC2, HK2, HL2, ⟨rfl⟩, ⟨Nat.le_refl _⟩⟩
      case round =>
        clear HC2 HK2 HL2
        obtain ⟨j, sc, rfl, hj, HC, HK, HL, HE, HZc⟩ := hrel
        by_cases hlt : j < (bl (nth d.n.by_ node)).length
        · obtain ⟨A', c', he, hr⟩ := HL.out.reads
          injection he with e1 e2 e3
          subst e1 e3
          obtain ⟨ad32, rfl, hc32⟩ := hr.cell j hlt
          have hx := bl_in HOd.out.ok.hN (HOd.out.ok.lb node) (nth_mem _ j hlt)
          have HD := Aside0.mk (nth_drop (bl (nth d.n.by_ node)) j hlt)
          clear hr
          generalize nth (bl (nth d.n.by_ node)) j = x at *
          have hx64 : x < 64 := by omega
          obtain ⟨A4, c4, he, hrd⟩ := HC.out.rp.reads
          injection he with e1 e2 e3
          have HRp := Aside0.mk (fun W (hW : RdR W A4 c4 d.rs) => reply_any d.rs HOd.out.rn HOd.out.so x hx64 A4 c4 d.game (d.root : Int) d.who W hW)
          have hg3 : wr.cell? ⟨d.g, 3, none⟩ = some (.int .i64 d.game) := HC.out.at_ 3
          have hg4 : wr.cell? ⟨d.g, 4, none⟩ = some (.int .i64 (d.root : Int)) := HC.out.at_ 4
          have hg5 : wr.cell? ⟨d.g, 5, none⟩ = some (.int .i64 d.who) := HC.out.at_ 5
          have hg6 : wr.cell? ⟨d.g, 6, none⟩ = some (.slice A4 d.rs.length c4) := by rw [← e1, ← e3]; exact HC.out.at_ 6
          have HRd := Aside0.mk hrd
          clear hrd e1 e2 e3
          cases hrep : rep d.rs x with
          | none =>
            have HRe := Aside0.mk hrep
            rw [hrep] at HRp
            unfold repV at HRp
            clear hrep
            have hno : (none : Option Nat).isSome = false := rfl
            go_wp2_with (first | (go_at_call 47; refine (HRp.out _ HRd.out).mono ?_; rintro e w3 ⟨rfl, hb⟩))
            go_ret
            have HV : vis d.n d.rs d.game (f + 1) node s = (false, sc) := by
              rw [HVis.out, ← HE.out, HD.out, vStep, HRe.out]; rfl
            rw [HV]
            exact ⟨rfl, ⟨HC.out.nx hb.out⟩, ⟨HK.out.trans (Kp.of hb.out)⟩, ⟨by rw [HZ1.out]; exact HZc.out⟩⟩
          | some y =>
            have HRe := Aside0.mk hrep
            obtain ⟨p, hpm, hp1, hp2⟩ := rep_mem hrep
            have hy : y < d.N := by rw [← hp2]; exact (HOd.out.lt p hpm).2
            rw [hrep] at HRp
            unfold repV at HRp
            clear hrep hpm hp1 hp2 p
            have hno : (some y : Option Nat).isSome = true := rfl
            have hyi : (y : Int) < (d.N : Int) := by omega
            have hxi : (x : Int) < (d.N : Int) := by omega
            have HHas := Aside0.mk (fun W : World => has_any (nth d.n.by_ x) y (p64 HOd.out.ok.hN (HOd.out.ok.lb x)) (by omega) W)
            obtain ⟨t, htt⟩ : ∃ t, nth sc.st y = t := ⟨_, rfl⟩
            have HTt := Aside0.mk htt
            cases hby : (nth d.n.by_ x).testBit y with
            | false =>
              rw [hby] at HHas
              have HBy := Aside0.mk hby
              clear hby htt
              go_wp2_with (first | (go_at_call 47; refine (HRp.out _ HRd.out).mono ?_; rintro e w3 ⟨rfl, hb⟩; have HC3 := Aside0.mk (HC.out.nx hb.out); have HK3 := Aside0.mk (HK.out.trans (Kp.of hb.out)); have HL3 := Aside0.mk (HL.out.below hb.out); clear HC HK HL hb hg3 hg4 hg5 hg6 hc32; have hg1 : w3.cell? ⟨d.g, 1, none⟩ = some (.slice (some ⟨d.b1, 0, none⟩) d.N d.N) := HC3.out.at_ 1; have hb1 := HC3.out.bat HOd.out x hx; have hg3 : w3.cell? ⟨d.g, 3, none⟩ = some (.int .i64 d.game) := HC3.out.at_ 3; have hg8 : w3.cell? ⟨d.g, 8, none⟩ = some (.slice (some ⟨d.h, 0, none⟩) d.N d.N) := HC3.out.at_ 8; have hh := HC3.out.hat y hy; rw [HTt.out] at hh) | (go_at_call 46; refine (HHas.out _).mono ?_; rintro e w' ⟨rfl, rfl⟩))
              go_ret
              have HV : vis d.n d.rs d.game (f + 1) node s = (false, sc) := by
                rw [HVis.out, ← HE.out, HD.out, vStep, HRe.out]; simp only [HBy.out]; rfl
              rw [HV]
              exact ⟨rfl, HC3, HK3, ⟨by rw [HZ1.out]; exact HZc.out⟩⟩
            | true =>
              rw [hby] at HHas
              have HBy := Aside0.mk hby
              clear hby
              by_cases ht1 : t = 1
              · have q1 : ((t : Int) == 1) = true := by rw [beq_iff_eq]; omega
                have q0 : ((t : Int) == 0) = false := by rw [beq_eq_false_iff_ne]; omega
                by_cases hga : d.game = 1
                · have q2 : (d.game == 1) = true := by rw [beq_iff_eq]; exact hga
                  have HV : Aside0 (vis d.n d.rs d.game (f + 1) node s = (false, sc)) := ⟨by
                    rw [HVis.out, ← HE.out, HD.out, vStep, HRe.out]; simp only [HBy.out, htt, ht1, hga]; rfl⟩
                  clear hga ht1 htt
                  go_wp2_with (first | (go_at_call 47; refine (HRp.out _ HRd.out).mono ?_; rintro e w3 ⟨rfl, hb⟩; have HC3 := Aside0.mk (HC.out.nx hb.out); have HK3 := Aside0.mk (HK.out.trans (Kp.of hb.out)); have HL3 := Aside0.mk (HL.out.below hb.out); clear HC HK HL hb hg3 hg4 hg5 hg6 hc32; have hg1 : w3.cell? ⟨d.g, 1, none⟩ = some (.slice (some ⟨d.b1, 0, none⟩) d.N d.N) := HC3.out.at_ 1; have hb1 := HC3.out.bat HOd.out x hx; have hg3 : w3.cell? ⟨d.g, 3, none⟩ = some (.int .i64 d.game) := HC3.out.at_ 3; have hg8 : w3.cell? ⟨d.g, 8, none⟩ = some (.slice (some ⟨d.h, 0, none⟩) d.N d.N) := HC3.out.at_ 8; have hh := HC3.out.hat y hy; rw [HTt.out] at hh) | (go_at_call 46; refine (HHas.out _).mono ?_; rintro e w' ⟨rfl, rfl⟩))
                  go_ret
                  rw [HV.out]
                  exact ⟨rfl, HC3, HK3, ⟨by rw [HZ1.out]; exact HZc.out⟩⟩
                · have q2 : (d.game == 1) = false := by rw [beq_eq_false_iff_ne]; exact hga
                  have HV : Aside0 (vStep d.n d.rs d.game (vis d.n d.rs d.game f) ((bl (nth d.n.by_ node)).drop (j + 1)) sc = vStep d.n d.rs d.game (vis d.n d.rs d.game f) (bl (nth d.n.by_ node)) s1) := ⟨by
                    rw [← HE.out, HD.out, vStep, HRe.out]; simp [HBy.out, htt, ht1, hga]⟩
                  clear hga ht1 htt
                  go_wp2_with (first | (go_at_call 47; refine (HRp.out _ HRd.out).mono ?_; rintro e w3 ⟨rfl, hb⟩; have HC3 := Aside0.mk (HC.out.nx hb.out); have HK3 := Aside0.mk (HK.out.trans (Kp.of hb.out)); have HL3 := Aside0.mk (HL.out.below hb.out); clear HC HK HL hb hg3 hg4 hg5 hg6 hc32; have hg1 : w3.cell? ⟨d.g, 1, none⟩ = some (.slice (some ⟨d.b1, 0, none⟩) d.N d.N) := HC3.out.at_ 1; have hb1 := HC3.out.bat HOd.out x hx; have hg3 : w3.cell? ⟨d.g, 3, none⟩ = some (.int .i64 d.game) := HC3.out.at_ 3; have hg8 : w3.cell? ⟨d.g, 8, none⟩ = some (.slice (some ⟨d.h, 0, none⟩) d.N d.N) := HC3.out.at_ 8; have hh := HC3.out.hat y hy; rw [HTt.out] at hh) | (go_at_call 46; refine (HHas.out _).mono ?_; rintro e w' ⟨rfl, rfl⟩))
                  go_roundw
                  case rel => exact ⟨j + 1, sc, by go_num, hlt, HC3, HK3, HL3, HV, HZc⟩
                  case measure => simp [intOf]; omega
              · have q1 : ((t : Int) == 1) = false := by rw [beq_eq_false_iff_ne]; omega
                by_cases ht0 : t = 0
                · have q0 : ((t : Int) == 0) = true := by rw [beq_iff_eq]; omega
                  have hzz : zeros ⟨sc.reached, sc.st.set y 1⟩ < f := by
                    have h1 := zeros_set sc.reached (st := sc.st) (y := y) (by rw [HC.out.len]; exact hy) (by rw [htt]; exact ht0)
                    have h2 := HZc.out
                    have h3 := HZ.out
                    have h4 : zeros ⟨sc.reached, sc.st⟩ = zeros sc := rfl
                    omega
                  have HIH := Aside0.mk (fun W (hW : CkS d sc W) => IH.out y sc hy hzz W hW)
                  have HZy : Aside0 (zeros ⟨sc.reached, sc.st.set y 1⟩ ≤ zeros s1) := ⟨by
                    have h1 := zeros_set sc.reached (st := sc.st) (y := y) (by rw [HC.out.len]; exact hy) (by rw [htt]; exact ht0)
                    have h2 := HZc.out
                    have h4 : zeros ⟨sc.reached, sc.st⟩ = zeros sc := rfl
                    omega⟩
                  have HStep : Aside0 (vStep d.n d.rs d.game (vis d.n d.rs d.game f) ((bl (nth d.n.by_ node)).drop j) sc = if (vis d.n d.rs d.game f y sc).1 = true then vStep d.n d.rs d.game (vis d.n d.rs d.game f) ((bl (nth d.n.by_ node)).drop (j + 1)) (vis d.n d.rs d.game f y sc).2 else vis d.n d.rs d.game f y sc) := ⟨by
                    rw [HD.out, vStep, HRe.out]; simp [HBy.out, htt, ht0]⟩
                  clear ht0 ht1 htt hzz
                  obtain ⟨⟨rb, sd⟩, hrec⟩ : ∃ r, vis d.n d.rs d.game f y sc = r := ⟨_, rfl⟩
                  rw [hrec] at HIH HStep
                  have HRec := Aside0.mk hrec
                  clear hrec
                  simp only at HIH HStep
                  cases rb with
                  | true =>
                    rw [if_pos rfl, HE.out] at HStep
                    go_wp2_with (first | (go_at_call 47; refine (HRp.out _ HRd.out).mono ?_; rintro e w3 ⟨rfl, hb⟩; have HC3 := Aside0.mk (HC.out.nx hb.out); have HK3 := Aside0.mk (HK.out.trans (Kp.of hb.out)); have HL3 := Aside0.mk (HL.out.below hb.out); clear HC HK HL hb hg3 hg4 hg5 hg6 hc32; have hg1 : w3.cell? ⟨d.g, 1, none⟩ = some (.slice (some ⟨d.b1, 0, none⟩) d.N d.N) := HC3.out.at_ 1; have hb1 := HC3.out.bat HOd.out x hx; have hg3 : w3.cell? ⟨d.g, 3, none⟩ = some (.int .i64 d.game) := HC3.out.at_ 3; have hg8 : w3.cell? ⟨d.g, 8, none⟩ = some (.slice (some ⟨d.h, 0, none⟩) d.N d.N) := HC3.out.at_ 8; have hh := HC3.out.hat y hy; rw [HTt.out] at hh) | (go_at_call 46; refine (HHas.out _).mono ?_; rintro e w' ⟨rfl, rfl⟩) | (go_at_call 63; refine (HIH.out _ HC3.out).mono ?_; rintro e w4 ⟨rfl, HC4, HKb, HZ4⟩; have HK4 := Aside0.mk (HK3.out.trans HKb.out); have HL4 := Aside0.mk (HL3.out.kp HKb.out HBs.out.1 HBs.out.2); clear HC3 HK3 HL3 HKb hg1 hb1 hg3 hg8 hh))
                    go_roundw
                    case rel => exact ⟨j + 1, sd, by go_num, hlt, HC4, HK4, HL4, ⟨HStep.out.symm⟩, ⟨Nat.le_trans HZ4.out HZy.out⟩⟩
                    case measure => simp [intOf]; omega
                  | false =>
                    rw [if_neg (by simp), HE.out] at HStep
                    go_wp2_with (first | (go_at_call 47; refine (HRp.out _ HRd.out).mono ?_; rintro e w3 ⟨rfl, hb⟩; have HC3 := Aside0.mk (HC.out.nx hb.out); have HK3 := Aside0.mk (HK.out.trans (Kp.of hb.out)); have HL3 := Aside0.mk (HL.out.below hb.out); clear HC HK HL hb hg3 hg4 hg5 hg6 hc32; have hg1 : w3.cell? ⟨d.g, 1, none⟩ = some (.slice (some ⟨d.b1, 0, none⟩) d.N d.N) := HC3.out.at_ 1; have hb1 := HC3.out.bat HOd.out x hx; have hg3 : w3.cell? ⟨d.g, 3, none⟩ = some (.int .i64 d.game) := HC3.out.at_ 3; have hg8 : w3.cell? ⟨d.g, 8, none⟩ = some (.slice (some ⟨d.h, 0, none⟩) d.N d.N) := HC3.out.at_ 8; have hh := HC3.out.hat y hy; rw [HTt.out] at hh) | (go_at_call 46; refine (HHas.out _).mono ?_; rintro e w' ⟨rfl, rfl⟩) | (go_at_call 63; refine (HIH.out _ HC3.out).mono ?_; rintro e w4 ⟨rfl, HC4, HKb, HZ4⟩; have HK4 := Aside0.mk (HK3.out.trans HKb.out); have HL4 := Aside0.mk (HL3.out.kp HKb.out HBs.out.1 HBs.out.2); clear HC3 HK3 HL3 HKb hg1 hb1 hg3 hg8 hh))
                    go_ret
                    have HV : vis d.n d.rs d.game (f + 1) node s = (false, sd) := by rw [HVis.out, HStep.out]; rfl
                    rw [HV]
                    exact ⟨rfl, HC4, HK4, ⟨by rw [HZ1.out]; exact Nat.le_trans HZ4.out HZy.out⟩⟩
                · have q0 : ((t : Int) == 0) = false := by rw [beq_eq_false_iff_ne]; omega
                  have HV : Aside0 (vStep d.n d.rs d.game (vis d.n d.rs d.game f) ((bl (nth d.n.by_ node)).drop (j + 1)) sc = vStep d.n d.rs d.game (vis d.n d.rs d.game f) (bl (nth d.n.by_ node)) s1) := ⟨by
                    rw [← HE.out, HD.out, vStep, HRe.out]; simp [HBy.out, htt, ht1, ht0]⟩
                  clear ht0 ht1 htt
                  go_wp2_with (first | (go_at_call 47; refine (HRp.out _ HRd.out).mono ?_; rintro e w3 ⟨rfl, hb⟩; have HC3 := Aside0.mk (HC.out.nx hb.out); have HK3 := Aside0.mk (HK.out.trans (Kp.of hb.out)); have HL3 := Aside0.mk (HL.out.below hb.out); clear HC HK HL hb hg3 hg4 hg5 hg6 hc32; have hg1 : w3.cell? ⟨d.g, 1, none⟩ = some (.slice (some ⟨d.b1, 0, none⟩) d.N d.N) := HC3.out.at_ 1; have hb1 := HC3.out.bat HOd.out x hx; have hg3 : w3.cell? ⟨d.g, 3, none⟩ = some (.int .i64 d.game) := HC3.out.at_ 3; have hg8 : w3.cell? ⟨d.g, 8, none⟩ = some (.slice (some ⟨d.h, 0, none⟩) d.N d.N) := HC3.out.at_ 8; have hh := HC3.out.hat y hy; rw [HTt.out] at hh) | (go_at_call 46; refine (HHas.out _).mono ?_; rintro e w' ⟨rfl, rfl⟩))
                  go_roundw
                  case rel => exact ⟨j + 1, sc, by go_num, hlt, HC3, HK3, HL3, HV, HZc⟩
                  case measure => simp [intOf]; omega
        · have hjl : (bl (nth d.n.by_ node)).length ≤ j := Nat.le_of_not_lt hlt
          have he := HE.out
          rw [List.drop_eq_nil_of_le hjl, vStep] at he
          have HV : Aside0 (vis d.n d.rs d.game (f + 1) node s = (true, ⟨sc.reached, sc.st.set node 2⟩)) := ⟨by rw [HVis.out, ← he]; rfl⟩
          clear he hjl
          have hg8 : wr.cell? ⟨d.g, 8, none⟩ = some (.slice (some ⟨d.h, 0, none⟩) d.N d.N) := HC.out.at_ 8
          have hh := HC.out.hat node hn
          have hfh : wr.frozen? ⟨d.h, node, none⟩ = false := blk_frozen HC.out.h node
          go_wp2
          go_ret
          rw [HV.out]
          exact ⟨rfl, ⟨HC.out.seth HOd.out node 2⟩, ⟨HK.out.trans (Kp.seth _ node _)⟩, ⟨by rw [HZ1.out]; exact Nat.le_trans (zeros_two sc node) HZc.out⟩⟩
end Go.Proofs.YtgboplcjafmliaaDoor.G

/- The contract of best, and what it computes. -/
namespace Go.Proofs.YtgboplcjafmliaaDoor.G
open Go.RowKit Go.Proofs.YtgboplcjafmliaaDoorW.PrintWords Go.Proofs.YtgboplcjafmliaaDoorW.PrintLast Go.Proofs.YtgboplcjafmliaaDoorW.PrintMore
open Go.Proofs.YtgboplcjafmliaaDoor.PAll
set_option linter.unusedVariables false
set_option linter.unusedSimpArgs false

theorem RdN.cells {w : World} {ad : Addr} {c : Nat} {l : List Nat} (h : RdN .i64 w (some ad) c l) : ∀ j u, (nums .i64 (up l))[j]? = some u → w.cell? (ad.add j) = some u := by
  intro j u hu
  have hj : j < l.length := by
    rcases Nat.lt_or_ge j l.length with h1 | h1
    · exact h1
    · rw [List.getElem?_eq_none (by simpa [nums, up] using h1)] at hu; cases hu
  obtain ⟨ad', e, hc⟩ := h.cell j hj
  injection e with e
  subst e
  rw [hc]
  simp [nums, up, List.getElem?_eq_getElem hj] at hu
  subst hu
  rw [nth_get l j hj]
section
variable {P : Program} {ops : Array Oper} {o : Oper} {a : Act} {Q : Exit → Act → World → Prop} {K : Act → World → Prop}
/-- append of a row of nodes to a row of the call's own, as a step of a region that draws its order. -/
theorem step_row {W : World} (base : Nat) (hw : Region.wanted o (yielded ops a.tmps) = true) (t : TypeId) (s x : Operand)
    (ho : o.op = .call { callee := .builtin .append, args := #[s, x], argTypes := #[t, t] })
    (ht : P.underlying t = some (.slice 3)) (hinfo : (P.info? 3).map (fun i => (i.zero, i.size, i.bytes)) = some (some (.int .i64 0), 1, 8))
    (v : Value) (xs ys : List Nat) (ad : Addr) (c : Nat) (hs : a.eval s = v) (hx : a.eval x = .slice (some ad) ys.length c)
    (HO : OwnI W base v xs) (HR : RdN .i64 W (some ad) c ys) (hb : base ≤ W.heap.size) (hl : xs.length + ys.length < 1000000)
    (h : ∀ v1 w1, OwnI w1 base v1 (xs ++ ys) → W.grownBy w1 v.ownBlock → (v1.ownBlock = v.ownBlock ∨ ∃ b, v1.ownBlock = some b ∧ W.heap.size ≤ b) → K (a.put o.dst v1) w1) :
    if Region.wanted o (yielded ops a.tmps) = true then Oper.wp P o a W K Q else K (a.put o.dst undef) W := by
  obtain ⟨i0, hi, hzz⟩ := Option.map_eq_some_iff.1 hinfo
  simp only [Prod.mk.injEq] at hzz
  obtain ⟨hz0, hz1, hz2⟩ := hzz
  obtain ⟨v1, w1, hr, h2, h3, _, h5⟩ := run_append_own_at (P := P) W base t o.type 3 i0 (.int .i64 0) 1 8 ht hi hz0 hz1 hz2 rfl (by omega) v xs.length (nums .i64 (up xs)) HO ad ys.length c (nums .i64 (up ys)) (by simp [nums, up]) HR.cells
    (by intro u hu; simp only [nums, List.mem_map] at hu; obtain ⟨q, _, rfl⟩ := hu; rfl) (by simp only [maxLen]; omega) (by omega) hb
  rw [if_pos hw]
  unfold Oper.wp execOp
  simp only [ho, resolve, invoke, builtin, Sem.run_bind, Sem.run_pure, Result.andThen_ok, List.map_toArray, List.map_cons, List.map_nil, hs, hx, hr]
  refine h v1 w1 ?_ h3 ?_
  · unfold OwnI
    rw [show (xs ++ ys).length = xs.length + ys.length by simp, show nums .i64 (up (xs ++ ys)) = nums .i64 (up xs) ++ nums .i64 (up ys) by simp [up, nums]]
    exact h2
  · rcases h5 with h5 | h5
    · exact .inl h5
    · exact .inr ⟨_, h5, Nat.le_refl _⟩
end
/-- The moves that Moves hands back. -/
def mvs (N : Int) (l : List S54) (k : Int) (line : List Nat) : List Nat := if argE N l k (up line) = 0 then bl (movS N l k (up line)) else []
def bLoop (rec : List Nat → Int → Int × Int) (mover other : Int) (line : List Nat) : List Nat → Int → Int × Int
  | [], left => (other, left)
  | a :: L, left => if 60 < line.length then (0, left) else if (rec (line ++ [a]) left).1 = mover then (mover, (rec (line ++ [a]) left).2) else bLoop rec mover other line L (rec (line ++ [a]) left).2
def moverOf (line : List Nat) : Int := if line.length % 2 = 0 then 1 else 2
def otherOf (line : List Nat) : Int := if line.length % 2 = 0 then 2 else 1
/-- What best computes, with a bound on the depth: the winner (0: unknown) and what is left. -/
def bst (N : Int) (l : List S54) (k : Int) : Nat → List Nat → Int → Int × Int
  | 0, _, left => (0, left - 1)
  | f + 1, line, left => if left - 1 ≤ 0 then (0, left - 1) else bLoop (bst N l k f) (moverOf line) (otherOf line) line (mvs N l k line) (left - 1)
theorem bst_low (N : Int) (l : List S54) (k : Int) (f : Nat) (line : List Nat) (left : Int) (h : left ≤ 0) : bst N l k f line left = (0, left - 1) := by
  cases f with
  | zero => rfl
  | succ f => rw [bst, if_pos (by omega)]
theorem mvs_mem {M : Nat} (hM : M ≤ 40) {l : List S54} {k : Int} {line : List Nat} {x : Nat} (h : x ∈ mvs M l k line) : x < M := by
  unfold mvs at h
  split at h
  · rename_i he
    obtain ⟨M', hM', hM2, hIn, hg, hln, _⟩ := argE_ok he
    have : M' = M := by omega
    subst this
    have hlt : movS M' l k (up line) < 2 ^ M' := by
      unfold movS
      rw [Int.toNat_natCast]
      refine legal_lt (netOf_ok hM hIn) _ _ (fun y hy => ?_)
      obtain ⟨z, hz, rfl⟩ := List.mem_map.1 hy
      have := hln z hz; omega
    exact bl_in hM hlt h
  · cases h
theorem mvs_len {M : Nat} (hM : M ≤ 40) (l : List S54) (k : Int) (line : List Nat) : (mvs M l k line).length ≤ 40 := by
  refine Nat.le_trans (nodup_le M _ ?_ (fun a ha => mvs_mem hM ha)) hM
  unfold mvs
  split
  · exact (bl_sorted _).imp (fun h => Nat.ne_of_lt h)
  · exact List.nodup_nil
theorem bLoop_lb (rec : List Nat → Int → Int × Int) (mover other : Int) (line : List Nat) (B : Int) (hB : 0 ≤ B) (hrec : ∀ a left, (left ≤ 0 → (rec (line ++ [a]) left).2 = left - 1) ∧ (0 < left → -B ≤ (rec (line ++ [a]) left).2)) :
    ∀ (L : List Nat) (left : Int), (if left ≤ 0 then left else -B) - L.length ≤ (bLoop rec mover other line L left).2
  | [], left => by simp [bLoop]; split <;> omega
  | a :: L, left => by
    rw [bLoop]
    have h1 := hrec a left
    have ih := bLoop_lb rec mover other line B hB hrec L (rec (line ++ [a]) left).2
    rw [List.length_cons]
    by_cases h60 : 60 < line.length
    · rw [if_pos h60]
      show (if left ≤ 0 then left else -B) - ((L.length + 1 : Nat) : Int) ≤ left
      split <;> omega
    · rw [if_neg h60]
      by_cases hm : (rec (line ++ [a]) left).1 = mover
      · rw [if_pos hm]
        show (if left ≤ 0 then left else -B) - ((L.length + 1 : Nat) : Int) ≤ (rec (line ++ [a]) left).2
        by_cases hl : left ≤ 0
        · rw [if_pos hl, h1.1 hl]; omega
        · rw [if_neg hl]; have := h1.2 (by omega); omega
      · rw [if_neg hm]
        by_cases hl : left ≤ 0
        · rw [if_pos hl]
          rw [if_pos (by rw [h1.1 hl]; omega), h1.1 hl] at ih
          rw [h1.1 hl]
          omega
        · rw [if_neg hl]
          have h2 := h1.2 (by omega)
          split at ih <;> omega
theorem bst_lb {M : Nat} (hM : M ≤ 40) (l : List S54) (k : Int) : ∀ (f : Nat) (line : List Nat) (left : Int), 0 < left → line.length ≤ 61 → -(40 * (61 - (line.length : Int))) ≤ (bst M l k f line left).2
  | 0, line, left, h, hl => by show _ ≤ left - 1; omega
  | f + 1, line, left, h, hl => by
    rw [bst]
    split
    · show _ ≤ left - 1; omega
    · rename_i hle
      by_cases h60 : 60 < line.length
      · cases hL : mvs M l k line with
        | nil => show _ ≤ left - 1; omega
        | cons a L => rw [bLoop, if_pos h60]; show _ ≤ left - 1; omega
      · have h1 := bLoop_lb (bst M l k f) (moverOf line) (otherOf line) line (40 * (60 - (line.length : Int))) (by omega) (fun a left => ⟨fun h => by rw [bst_low _ _ _ _ _ _ h], fun h => by
          have := bst_lb hM l k f (line ++ [a]) left h (by simp; omega)
          simp only [List.length_append, List.length_cons, List.length_nil] at this
          omega⟩) (mvs M l k line) (left - 1)
        rw [if_neg hle] at h1
        have h2 := mvs_len hM l k line
        omega
theorem bLoop_ub (rec : List Nat → Int → Int × Int) (mover other : Int) (line : List Nat) (hrec : ∀ a left, (rec (line ++ [a]) left).2 ≤ left - 1) :
    ∀ (L : List Nat) (left : Int), (bLoop rec mover other line L left).2 ≤ left
  | [], left => Int.le_refl _
  | a :: L, left => by
    rw [bLoop]
    have h1 := hrec a left
    have ih := bLoop_ub rec mover other line hrec L (rec (line ++ [a]) left).2
    by_cases h60 : 60 < line.length
    · rw [if_pos h60]; exact Int.le_refl _
    · rw [if_neg h60]
      by_cases hm : (rec (line ++ [a]) left).1 = mover
      · rw [if_pos hm]; show (rec (line ++ [a]) left).2 ≤ left; omega
      · rw [if_neg hm]; omega
theorem bst_ub (N : Int) (l : List S54) (k : Int) : ∀ (f : Nat) (line : List Nat) (left : Int), (bst N l k f line left).2 ≤ left - 1
  | 0, line, left => Int.le_refl _
  | f + 1, line, left => by
    rw [bst]
    split
    · exact Int.le_refl _
    · exact bLoop_ub _ _ _ _ (fun a left => bst_ub N l k f _ left) _ _
end Go.Proofs.YtgboplcjafmliaaDoor.G

/- The source of choices, in plain terms. -/
namespace Go.Proofs.YtgboplcjafmliaaDoor.G
open Go.RowKit Go.Proofs.YtgboplcjafmliaaDoorW.PrintWords Go.Proofs.YtgboplcjafmliaaDoorW.PrintLast Go.Proofs.YtgboplcjafmliaaDoorW.PrintMore
open Go.Proofs.YtgboplcjafmliaaDoor.PAll
set_option linter.unusedVariables false
set_option linter.unusedSimpArgs false

/-- A source at block g: its numbers came in by w0. -/
def SrcS (w0 : World) (g : Nat) (L : List Int) (W : World) : Prop := ∃ a : Int, IsS57 w0 W g L a ∧ 0 ≤ a ∧ a ≤ L.length ∧ L.length ≤ 2000
theorem raw_some {L : List Int} {a : Int} (h0 : 0 ≤ a) (h1 : a ≤ L.length) (h2 : L.length ≤ 2000) : ∃ r b, deliberationkeep_Src_Raw.f L a = some (r, b) ∧ 0 ≤ b ∧ b ≤ L.length := by
  unfold deliberationkeep_Src_Raw.f
  by_cases h : a ≥ (L.length : Int)
  · rw [if_pos h]; exact ⟨_, _, rfl, h0, h1⟩
  · have e1 : wrap64 (a + 1) = a + 1 := by unfold wrap64; omega
    have e2 : wrap64 (a + 1 - 1) = a := by unfold wrap64; omega
    rw [if_neg h, e1, e2, if_pos h0, if_pos (by omega)]
    exact ⟨_, _, rfl, by omega, by omega⟩
theorem mod_some (x k : Int) (h1 : 1 ≤ k) (h2 : k < 2 ^ 40) : ∃ r, deliberationkeep_Mod.f x k = some r ∧ 0 ≤ r ∧ r < k := by
  unfold deliberationkeep_Mod.f
  have h3 := Int.tmod_lt_of_pos x (b := k) (by omega)
  have h4 : -k < Int.tmod x k := by
    have := Int.lt_tmod_of_pos x (b := k) (by omega)
    omega
  rw [if_neg (by omega), if_neg (by omega)]
  by_cases h : Int.tmod x k < 0
  · have e : wrap64 (Int.tmod x k + k) = Int.tmod x k + k := by unfold wrap64; omega
    rw [if_pos h, e]; exact ⟨_, rfl, by omega, by omega⟩
  · rw [if_neg h]; exact ⟨_, rfl, by omega, by omega⟩
theorem n_some {L : List Int} {a : Int} (h0 : 0 ≤ a) (h1 : a ≤ L.length) (h2 : L.length ≤ 2000) (k : Int) (hk : 1 ≤ k) (hk2 : k < 2 ^ 40) : ∃ r b, deliberationkeep_Src_N.f L a k = some (r, b) ∧ 0 ≤ r ∧ r < k ∧ 0 ≤ b ∧ b ≤ L.length := by
  obtain ⟨r, b, e, hb0, hb1⟩ := raw_some h0 h1 h2
  obtain ⟨r', e', hr0, hr1⟩ := mod_some r k hk hk2
  refine ⟨r', b, ?_, hr0, hr1, hb0, hb1⟩
  unfold deliberationkeep_Src_N.f
  rw [e]
  simp [e']
theorem srcN_any (w0 : World) (g : Nat) (L : List Int) (k : Int) (hk : 1 ≤ k) (hk2 : k < 2 ^ 40) (w : World) (hs : SrcS w0 g L w) (hB : Below w0.heap.size w0 w) :
    Calls Tryd.prog 18 #[.pointer (some ⟨g, 0, none⟩), .int .i64 k] w fun e w' => ∃ r : Int, e = .returned (.int .i64 r) ∧ 0 ≤ r ∧ r < k ∧ Aside0 (SrcS w0 g L w') ∧ Aside0 (Below w0.heap.size w0 w') ∧ Aside0 (KeepBut w w' g none) := by
  obtain ⟨a, hI, h0, h1, h2⟩ := hs
  obtain ⟨r, b, e, hr0, hr1, hb0, hb1⟩ := n_some h0 h1 h2 k hk hk2
  exact (deliberationkeep_Src_N.calls g L a k r b w0 w hI hB e).mono fun e' w' ⟨h, hI', hB', hK⟩ => ⟨r, h, hr0, hr1, ⟨b, hI', hb0, hb1, h2⟩, ⟨hB'⟩, ⟨hK⟩⟩
theorem srcR_any (w0 : World) (g : Nat) (L : List Int) (lo hi : Int) (h1 : 0 ≤ lo) (h2 : lo ≤ hi) (h3 : hi < 1000) (w : World) (hs : SrcS w0 g L w) (hB : Below w0.heap.size w0 w) :
    Calls Tryd.prog 17 #[.pointer (some ⟨g, 0, none⟩), .int .i64 lo, .int .i64 hi] w fun e w' => ∃ r : Int, e = .returned (.int .i64 r) ∧ lo ≤ r ∧ r ≤ hi ∧ Aside0 (SrcS w0 g L w') ∧ Aside0 (Below w0.heap.size w0 w') ∧ Aside0 (KeepBut w w' g none) := by
  obtain ⟨a, hI, k0, k1, k2⟩ := hs
  have e1 : wrap64 (hi - lo) = hi - lo := by unfold wrap64; omega
  have e2 : wrap64 (hi - lo + 1) = hi - lo + 1 := by unfold wrap64; omega
  obtain ⟨r, b, e, hr0, hr1, hb0, hb1⟩ := n_some k0 k1 k2 (hi - lo + 1) (by omega) (by omega)
  have e3 : wrap64 (lo + r) = lo + r := by unfold wrap64; omega
  have h : deliberationkeep_Src_Range.f L a lo hi = some (lo + r, b) := by
    unfold deliberationkeep_Src_Range.f
    rw [e1, e2, e]
    simp [e3]
  exact (deliberationkeep_Src_Range.calls g L a lo hi (lo + r) b w0 w hI hB h).mono fun e' w' ⟨h, hI', hB', hK⟩ => ⟨lo + r, h, by omega, by omega, ⟨b, hI', hb0, hb1, k2⟩, ⟨hB'⟩, ⟨hK⟩⟩
theorem srcNew_any (L : List Int) (A : Option Addr) (c : Nat) (w0 : World) (hr : Kd.C (Kd.int .i64) w0 A L.length L) (hc : L.length ≤ c) (w : World) (hB : Below w0.heap.size w0 w) :
    Calls Tryd.prog 8 #[.slice A L.length c] w fun e w' => ∃ (g : Nat) (L' : List Int), e = .returned (.pointer (some ⟨g, 0, none⟩)) ∧ Aside0 (SrcS w0 g L' w') ∧ Aside0 (Below w0.heap.size w0 w') ∧ Aside0 (Below w.heap.size w w') := by
  obtain ⟨r1, h, hl⟩ : ∃ r1, deliberationkeep_New.f L = some (r1, 0) ∧ r1.length ≤ 2000 := by
    unfold deliberationkeep_New.f
    have h0 : 0 ≤ mn (L.length : Int) 2000 := by unfold mn; split <;> omega
    have h1 : mn (L.length : Int) 2000 ≤ (L.length : Int) := by unfold mn; split <;> omega
    have h2 : mn (L.length : Int) 2000 ≤ 2000 := by unfold mn; split <;> omega
    rw [if_pos h0, if_pos h1]
    exact ⟨_, rfl, by rw [List.length_take]; omega⟩
  exact (deliberationkeep_New.calls A c L r1 0 w0 w hB hr hc h).mono fun e w' ⟨g, h1, h2, h3, h4⟩ => ⟨g, r1, h1, ⟨0, h2, by omega, by omega, hl⟩, ⟨h3⟩, ⟨h4⟩⟩
end Go.Proofs.YtgboplcjafmliaaDoor.G
