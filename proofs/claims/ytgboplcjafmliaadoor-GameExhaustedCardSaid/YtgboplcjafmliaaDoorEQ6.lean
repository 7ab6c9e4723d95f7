/- The contract of game.grounded, and what it computes. -/
import Derived.Test.YtgboplcjafmliaaDoorEQ5
/- The contract of game.grounded, and what it computes. -/
namespace Go.Proofs.YtgboplcjafmliaaDoor.G
open Go.RowKit Go.Proofs.YtgboplcjafmliaaDoorW.PrintWords Go.Proofs.YtgboplcjafmliaaDoorW.PrintLast Go.Proofs.YtgboplcjafmliaaDoorW.PrintMore
open Go.Proofs.YtgboplcjafmliaaDoor.PAll
set_option linter.unusedVariables false
set_option linter.unusedSimpArgs false

theorem grd_lt {N : Nat} {n : NetD} (hok : n.Ok N) : ∀ (f s : Nat), s < 2 ^ N → ∀ r, r ∈ grd n f s → r < 2 ^ N
  | 0, s, hs, r, hr => by cases hr
  | f + 1, s, hs, r, hr => by
    rw [grd] at hr
    split at hr
    · cases hr
    · rcases List.mem_cons.1 hr with rfl | hr
      · exact gstep_lt hok s hs
      · exact grd_lt hok f _ (gstep_lt hok s hs) r hr
theorem grd_len (n : NetD) : ∀ (f s : Nat), (grd n f s).length ≤ f
  | 0, s => by simp [grd]
  | f + 1, s => by
    rw [grd]
    split
    · simp
    · have := grd_len n f (gstep n s); simp; omega
theorem grd_fix {N : Nat} {n : NetD} (hok : n.Ok N) : ∀ (f s : Nat), s < 2 ^ N → cov N s < f → gstep n ((grd n f s).getLastD s) = (grd n f s).getLastD s
  | 0, s, hs, h => by omega
  | f + 1, s, hs, h => by
    rw [grd]
    split
    · rename_i e; simpa using e
    · rename_i e
      have h1 := cov_lt (gstep_lt hok s hs) hs (fun i hi => by rw [gstep_bit hok, hi]; rfl) e
      have := grd_fix hok f (gstep n s) (gstep_lt hok s hs) (by omega)
      rw [List.getLastD_cons]
      exact this
theorem lastN_getLastD (l : List Nat) : lastN l = l.getLastD 0 := by
  unfold lastN nth
  rw [List.getLastD_eq_getLast?, List.getLast?_eq_getElem?, List.getD_eq_getElem?_getD]
/-- The grounded set. -/
def gnd (N : Nat) (n : NetD) : Nat := lastN (grd n (N + 1) 0)
theorem cov0 (N : Nat) : cov N 0 < N + 1 := by unfold cov; have := List.countP_le_length (p := fun i => !(0 : Nat).testBit i) (l := List.range N); simp at this ⊢
theorem gnd_fix {N : Nat} {n : NetD} (hok : n.Ok N) : gstep n (gnd N n) = gnd N n := by
  have := grd_fix hok (N + 1) 0 (Nat.two_pow_pos N) (cov0 N)
  unfold gnd
  rw [lastN_getLastD]
  exact this
theorem nth_lt {l : List Nat} {b : Nat} (hb : 0 < b) (h : ∀ r, r ∈ l → r < b) (i : Nat) : nth l i < b := by
  by_cases hi : i < l.length
  · exact h _ (nth_mem l i hi)
  · rw [nth, List.getD_eq_getElem?_getD, List.getElem?_eq_none (by omega)]; exact hb
theorem gnd_lt {N : Nat} {n : NetD} (hok : n.Ok N) : gnd N n < 2 ^ N := nth_lt (Nat.two_pow_pos N) (grd_lt hok _ _ (Nat.two_pow_pos N)) _

/-- What the grounded set attacks. -/
def gout (N : Nat) (n : NetD) : Nat := uni n.out (bl (gnd N n)) 0
theorem gout_lt {N : Nat} {n : NetD} (hok : n.Ok N) : gout N n < 2 ^ N := uni_lt _ N hok.lo _ _ (Nat.two_pow_pos N)
/-- The opponent's reply. -/
def qO (N : Nat) (n : NetD) (a : Nat) : Nat := low (sdiff (nth n.by_ a) (gout N n))
/-- The proponent's nodes that the opponent's replies reach. -/
inductive Rco (n : NetD) (root : Nat) (q : Nat → Nat) : Nat → Prop
  | root : Rco n root q root
  | step {a z : Nat} : Rco n root q a → (nth n.by_ (q a)).testBit z = true → Rco n root q z
theorem bit_lt {N s i : Nat} (hN : N ≤ 40) (h : s < 2 ^ N) (hb : s.testBit i = true) : i < N := bl_in hN h ((mem_bl s i (p64 hN h)).2 hb)
theorem out_open {N : Nat} {n : NetD} (hok : n.Ok N) {a : Nat} (ha : a < N) (h : (gnd N n).testBit a = false) : sdiff (nth n.by_ a) (gout N n) ≠ 0 := by
  have h1 := gstep_bit hok (gnd N n) a
  rw [gnd_fix hok, h, Bool.false_or, decide_eq_true ha, Bool.true_and] at h1
  intro h2
  rw [okB] at h1
  change sdiff (nth n.by_ a) (gout N n) = 0 at h2
  rw [show uni n.out (bl (gnd N n)) 0 = gout N n from rfl, h2] at h1
  exact absurd h1 (by simp)
theorem qO_spec {N : Nat} {n : NetD} (hok : n.Ok N) {a : Nat} (ha : a < N) (h : (gnd N n).testBit a = false) : (nth n.by_ a).testBit (qO N n a) = true ∧ (gout N n).testBit (qO N n a) = false := by
  have h1 := low_mem (out_open hok ha h) (sdiff_lt _ _ (p64 hok.hN (hok.lb a)))
  rw [sdiff_bit _ _ _ (p64 hok.hN (hok.lb a)) (p64 hok.hN (gout_lt hok))] at h1
  change ((nth n.by_ a).testBit (qO N n a) && !(gout N n).testBit (qO N n a)) = true at h1
  rw [Bool.and_eq_true, Bool.not_eq_true'] at h1
  exact h1
theorem Rco_out {N : Nat} {n : NetD} (hok : n.Ok N) {root : Nat} (hroot : root < N) (h : (gnd N n).testBit root = false) {a : Nat} (ha : Rco n root (qO N n) a) : a < N ∧ (gnd N n).testBit a = false := by
  induction ha with
  | root => exact ⟨hroot, h⟩
  | @step a z _ hz ih =>
    have hq := qO_spec hok ih.1 ih.2
    refine ⟨bit_lt hok.hN (hok.lb _) hz, ?_⟩
    cases hg : (gnd N n).testBit z with
    | false => rfl
    | true =>
      have : (gout N n).testBit (qO N n a) = true := by
        unfold gout
        rw [uni_bit, Bool.or_eq_true]
        refine .inr (List.any_eq_true.2 ⟨z, (mem_bl _ _ (p64 hok.hN (gnd_lt hok))).2 hg, ?_⟩)
        rw [← hok.co]; exact hz
      rw [this] at hq; cases hq.2

/-- What the loops of game.grounded keep: R the proponent's nodes that are reached. -/
structure OI (n : NetD) (root : Nat) (q : Nat → Nat) (R : List Nat) : Prop where
  r0 : root ∈ R
  rn : R.Nodup
  rr : ∀ a, a ∈ R → Rco n root q a
def OSeen (n : NetD) (q : Nat → Nat) (R : List Nat) (i : Nat) : Prop := ∀ j, j < i → ∀ z, (nth n.by_ (q (nth R j))).testBit z = true → z ∈ R
theorem OI.step {n : NetD} {root : Nat} {q : Nat → Nat} {R : List Nat} {a z : Nat} (h : OI n root q R) (ha : a ∈ R) (hz : (nth n.by_ (q a)).testBit z = true) : OI n root q (addN R z) where
  r0 := sub_addN _ _ _ h.r0
  rn := by
    unfold addN
    split
    · exact h.rn
    · rename_i hc
      exact nodup_snoc h.rn (fun hm => hc (List.contains_iff_mem.2 hm))
  rr := fun b hb => by
    unfold addN at hb
    split at hb
    · exact h.rr b hb
    · rcases List.mem_append.1 hb with hb | hb
      · exact h.rr b hb
      · rw [List.mem_singleton] at hb; subst hb; exact .step (h.rr a ha) hz
theorem OSeen.add {n : NetD} {q : Nat → Nat} {R : List Nat} {i : Nat} (h : OSeen n q R i) (hi : i ≤ R.length) (y : Nat) : OSeen n q (addN R y) i := fun j hj z hz => by
  rw [nth_addN R y j (by omega)] at hz
  exact sub_addN _ _ _ (h j hj z hz)
def OAt (n : NetD) (q : Nat → Nat) (R : List Nat) (i a j : Nat) : Prop := nth R i = a ∧ i < R.length ∧ ∀ x, x ∈ (bl (nth n.by_ (q a))).take j → x ∈ R
theorem OAt.add {n : NetD} {q : Nat → Nat} {R : List Nat} {i a j z : Nat} (h : OAt n q R i a j) (ht : ∀ y, y ∈ (bl (nth n.by_ (q a))).take (j + 1) → y ∈ (bl (nth n.by_ (q a))).take j ∨ y = z) : OAt n q (addN R z) i a (j + 1) :=
  ⟨by rw [nth_addN R z i h.2.1]; exact h.1, Nat.lt_of_lt_of_le h.2.1 (len_addN R z), fun x hx => (ht x hx).elim (fun h1 => sub_addN _ _ _ (h.2.2 x h1)) (fun e => by rw [e]; exact mem_addN _ _)⟩
theorem OAt.seen {n : NetD} {q : Nat → Nat} {R : List Nat} {i a j : Nat} (h : OAt n q R i a j) (hj : (bl (nth n.by_ (q a))).length ≤ j) (h64 : nth n.by_ (q a) < 2 ^ 64) (hs : OSeen n q R i) : OSeen n q R (i + 1) := fun k hk x hx => by
  rcases Nat.lt_succ_iff_lt_or_eq.1 hk with h1 | h1
  · exact hs k h1 x hx
  · subst h1
    rw [h.1] at hx
    refine h.2.2 x ?_
    rw [List.take_of_length_le hj]
    exact (mem_bl _ _ h64).2 hx
theorem OI.done {n : NetD} {root : Nat} {q : Nat → Nat} {R : List Nat} (h : OI n root q R) (hs : OSeen n q R R.length) (a : Nat) : a ∈ R ↔ Rco n root q a := by
  refine ⟨h.rr a, fun ha => ?_⟩
  induction ha with
  | root => exact h.r0
  | step _ hz ih =>
    obtain ⟨j, hj, e⟩ := List.mem_iff_getElem.1 ih
    refine hs j hj _ ?_
    rw [nth_get R j hj, e]
    exact hz
theorem take_addN (R : List Nat) (y i : Nat) (h : i ≤ R.length) : (addN R y).take i = R.take i := by
  unfold addN
  split
  · rfl
  · rw [List.take_append_of_le_length h]
/-- A list as a set. -/
def setOf (l : List Nat) : Nat := l.foldl (fun s x => s ||| 2 ^ x) 0
theorem setOf_bit' (x : Nat) : ∀ (l : List Nat) (a : Nat), (l.foldl (fun s x => s ||| 2 ^ x) a).testBit x = (a.testBit x || l.contains x)
  | [], a => by simp
  | y :: l, a => by
    rw [List.foldl_cons, setOf_bit' x l, List.contains_cons, Nat.testBit_or, Nat.testBit_two_pow, Bool.or_assoc]
    congr 2
    by_cases e : y = x
    · subst e; simp
    · rw [decide_eq_false e, beq_eq_false_iff_ne.2 (Ne.symm e)]
theorem setOf_bit (l : List Nat) (x : Nat) : (setOf l).testBit x = true ↔ x ∈ l := by
  unfold setOf; rw [setOf_bit']; simp
theorem setOf_lt {N : Nat} : ∀ (l : List Nat) (a : Nat), a < 2 ^ N → (∀ x, x ∈ l → x < N) → l.foldl (fun s x => s ||| 2 ^ x) a < 2 ^ N
  | [], a, h, _ => h
  | y :: l, a, h, hl => setOf_lt l _ (Nat.or_lt_two_pow h (Nat.pow_lt_pow_right (by omega) (hl y List.mem_cons_self))) (fun x hx => hl x (List.mem_cons_of_mem _ hx))

theorem setOf_lt' {N : Nat} (l : List Nat) (hl : ∀ x, x ∈ l → x < N) : setOf l < 2 ^ N := setOf_lt l 0 (Nat.two_pow_pos N) hl
theorem take_succ_map {β : Type} (R : List Nat) (i : Nat) (h : i < R.length) (f : Nat → β) : (R.take (i + 1)).map f = (R.take i).map f ++ [f (nth R i)] := by
  rw [List.take_add_one, List.getElem?_eq_getElem h, List.map_append, nth_get R i h]; rfl
def grdV (N : Nat) (n : NetD) (root base : Nat) (e : Ending) (w' : World) : Prop :=
  ∃ A c m, Aside0 (m < 2 ^ N) ∧ (((gnd N n).testBit root = true ∧ e = .returned (.tuple #[.int .i64 1, .slice A (bl m).length c]) ∧ Aside0 (∀ x, m.testBit x = true ↔ RcA n root (pickG n (grd n (N + 1) 0)) x) ∧ Aside0 (OwnRp w' base (.slice A (bl m).length c) ((bl m).map fun x => rp x (pickG n (grd n (N + 1) 0) x)))) ∨
    ((gnd N n).testBit root = false ∧ e = .returned (.tuple #[.int .i64 2, .slice A (bl m).length c]) ∧ Aside0 (∀ x, m.testBit x = true ↔ Rco n root (qO N n) x) ∧ Aside0 (OwnRp w' base (.slice A (bl m).length c) ((bl m).map fun x => rp x (qO N n x)))))

theorem low_and_lt {N : Nat} {n : NetD} (hok : n.Ok N) {x r : Nat} (h : nth n.by_ x &&& r ≠ 0) : low (nth n.by_ x &&& r) < N := by
  have h1 := low_mem h (and_lt _ _ (p64 hok.hN (hok.lb x)))
  rw [Nat.testBit_and, Bool.and_eq_true] at h1
  exact bit_lt hok.hN (hok.lb x) h1.1
theorem pickG_lt {N : Nat} {n : NetD} (hok : n.Ok N) (rows : List Nat) {x : Nat} (hx : x < N) : pickG n rows x < N := by
  unfold pickG
  split
  · rename_i r e
    exact low_and_lt hok (by have := List.find?_some e; simpa using this)
  · exact hx
theorem RcA.lt {N : Nat} {n : NetD} (hok : n.Ok N) {root : Nat} {pk : Nat → Nat} {x : Nat} (h : RcA n root pk x) : x < N := by
  obtain ⟨a, _, hx⟩ := h
  exact bit_lt hok.hN (hok.lb a) hx

theorem RdN.cellS {k : IntKind} {w : World} {ad : Addr} {c : Nat} {l : List Nat} (h : RdN k w (some ad) c l) (i : Nat) (hi : i < l.length) : w.cell? (ad.add i) = some (.int k ((nth l i : Nat) : Int)) := by
  obtain ⟨ad', e, hc⟩ := h.cell i hi
  injection e with e
  subst e
  exact hc
theorem AS_ty2 (h g : Nat) (cs cs' : Array Value) : ∀ p, p ∈ [(h, Obj.cells cs 62 (0, 0)), (g, Obj.cells cs' 64 (0, 0))] → ∃ cs t, p.2 = .cells cs t (0, 0) ∧ t ≠ 3 ∧ t ≠ 77 := fun p hp => by
  rcases List.mem_cons.1 hp with rfl | hp
  · exact ⟨_, _, rfl, by decide, by decide⟩
  · exact AS_ty1 _ _ p hp
theorem e50 : ∀ (args : Array Value) (W : World), (callFunc 50 args).run Tryd.prog W = .ok (.enter 50 args) W := enters_of Tryd.func50 (by kernel_rfl) rfl
theorem e30 : ∀ (args : Array Value) (W : World), (callFunc 30 args).run Tryd.prog W = .ok (.enter 30 args) W := enters_of Tryd.func30 (by kernel_rfl) rfl
set_option maxHeartbeats 8000000 in
set_option maxRecDepth 100000 in
theorem grounded_any (N : Nat) (n : NetD) (hok : n.Ok N) (v : Value) (root : Nat) (hroot : root < N) (w : World) (hT : TabW w) (hn : NetV w n v) :
    Calls Tryd.prog 26 #[v, .int .i64 (root : Int)] w fun e w' => grdV N n root w.heap.size e w' ∧ Aside0 (Below w.heap.size w w') := by
  have hn0 := hn
  obtain ⟨A1, c1, A2, c2, rfl, h2, h3⟩ := hn
  have HN := Aside0.mk hn0
  have H2 := Aside0.mk h2
  have HT := Aside0.mk hT
  have HOk := Aside0.mk hok
  clear hT h2 h3 hok hn0
  have HB := Aside0.mk (St.refl w)
  let O : Obj := .cells #[.int .u64 n.all, .slice A1 n.by_.length c1, .slice A2 n.out.length c2] 64 (0, 0)
  go_enter Tryd.func26, Tryd.ntmps26
  go_upto_region 2 with (first | ((with_reducible refine gate_dst (N := 2) rfl ?_); refine box_st (w := w) 2 #[.int .u64 n.all, .slice A1 n.by_.length c1, .slice A2 n.out.length c2] 64 rfl rfl ?hr HB.out ?_; (case hr => go_simp; done); clear HB; intro g w1 HB GE; have hg0 := (HB.out.at_ (List.mem_cons_self) 0).trans rfl; have hg1 := (HB.out.at_ (List.mem_cons_self) 1).trans rfl; have hg2 := (HB.out.at_ (List.mem_cons_self) 2).trans rfl) | (go_at_call 49; refine (rounds_any N n HOk.out _ _ (HT.out.below HT.out.2 HB.out.hb) (HN.out.below HB.out.hb)).mono ?_; rintro e w2 ⟨A16, c16, rfl, HR16, hb⟩; replace HB := Aside0.mk (HB.out.nx hb.out); clear hb hg0 hg1 hg2))
  have HB2 : Aside0 (St w [(w2.heap.size, .cells #[.slice A16 (grd n (N + 1) 0).length c16] 62 (0, 0)), (g, O)] (w2.alloc (.cells #[.slice A16 (grd n (N + 1) 0).length c16] 62))) := ⟨HB.out.add _⟩
  replace HR16 := Aside0.mk (HR16.out.below (below_alloc (Below.refl _ _) (.cells #[.slice A16 (grd n (N + 1) 0).length c16] 62 (0, 0))))
  have HGl := Aside0.mk (gnd_lt HOk.out)
  have hrl : (grd n (N + 1) 0).length ≤ 41 := Nat.le_trans (grd_len n (N + 1) 0) (by have := HOk.out.hN; omega)
  have HRw := Aside0.mk (grd_lt HOk.out (N + 1) 0 (Nat.two_pow_pos N))
  have HGe : Aside0 (gnd N n = lastN (grd n (N + 1) 0)) := ⟨rfl⟩
  obtain ⟨rows, hrows⟩ : ∃ rows, grd n (N + 1) 0 = rows := ⟨_, rfl⟩
  have HGE2 := Aside0.mk hrows
  rw [hrows] at HB2 HR16 HRw HGe hrl ⊢
  clear HB hrows
  generalize w2.heap.size = h at *
  change Code.wp Tryd.prog _ _ _ (w2.alloc (.cells #[.slice A16 rows.length c16] 62))
  generalize w2.alloc (.cells #[.slice A16 rows.length c16] 62) = w3 at *
  obtain ⟨gs, hgs⟩ : ∃ gs, gnd N n = gs := ⟨_, rfl⟩
  have HGs := Aside0.mk hgs
  rw [hgs] at HGl HGe
  clear hgs
  have hh0 := (HB2.out.at_ (List.mem_cons_self) 0).trans rfl
  go_upto_if 19 with fail
  go_cut [7] (fun s7 wx => s7 = .int .u64 gs ∧ wx = w3)
  case first =>
    by_cases h0 : 0 < rows.length
    · have e19 : decide (0 < rows.length) = true := decide_eq_true h0
      obtain ⟨ad16, rfl, hc16⟩ := HR16.out.cell (rows.length - 1) (by omega)
      rw [show nth rows (rows.length - 1) = gs from HGe.out.symm] at hc16
      have q1 : (0 : Int) ≤ (rows.length : Int) - 1 := by omega
      have q2 : (rows.length : Int) - 1 < (rows.length : Int) := by omega
      have q3 : ((rows.length : Int) - 1).toNat = rows.length - 1 := by omega
      have q4 : IntKind.i64.wrap ((rows.length : Int) - 1) = (rows.length : Int) - 1 := IntWalk.i64_in _ (by omega)
      go_wp2_with fail
      go_meet
      exact ⟨rfl, rfl⟩
    · have e19 : decide (0 < rows.length) = false := decide_eq_false h0
      have h00 : rows = [] := List.length_eq_zero_iff.1 (by omega)
      have hg00 : gs = 0 := by rw [HGe.out, h00]; rfl
      go_wp2_with fail
      go_meet
      exact ⟨by rw [hg00]; rfl, rfl⟩
  case rest =>
    obtain ⟨rfl, rfl⟩ := hcut
    have HHas := Aside0.mk (fun W : World => has_any gs root (p64 HOk.out.hN HGl.out) (by have := HOk.out.hN; omega) W)
    have hg0 := (HB2.out.at_ (.tail _ (.head _)) 0).trans rfl
    have hg1 := (HB2.out.at_ (.tail _ (.head _)) 1).trans rfl
    have hg2 := (HB2.out.at_ (.tail _ (.head _)) 2).trans rfl
    have HN3 := Aside0.mk (HN.out.below HB2.out.hb)
    have HT3 := Aside0.mk (HT.out.below HT.out.2 HB2.out.hb)
    cases hbt : gs.testBit root with
    | true =>
      rw [hbt] at HHas
      have HBt := Aside0.mk hbt
      clear hbt
      have HPick : Aside0 (∀ x, RcA n root (pickG n rows) x → ∀ W, Below wc.heap.size wc W → Calls Tryd.prog 50 (#[.int .i64 (x : Int)] ++ #[.pointer (some ⟨h, 0, none⟩), .pointer (some ⟨g, 0, none⟩)]) W fun e w' => e = .returned (.int .i64 ((pickG n rows x : Nat) : Int)) ∧ Aside0 (Below W.heap.size W w')) := ⟨fun x hx W hW => by
        have hx2 := hx.lt HOk.out
        have HBW := HB2.out.nx hW
        exact pickG_any N n HOk.out A1 c1 A2 c2 A16 c16 g h rows (by omega) HRw.out x hx2 W (HT3.out.below HT3.out.2 hW) (H2.out.below HBW.hb) (HR16.out.below hW) (HBW.blk _ (.tail _ (.head _))) (HBW.blk _ (.head _))⟩
      go_wp2_with (first | (go_at_call 46; refine (HHas.out _).mono ?_; rintro e w' ⟨rfl, rfl⟩) | (go_at_call 29; refine (answers_any N n HOk.out _ root hroot 50 _ (pickG n rows) _ HT3.out HN3.out e50 HPick.out (fun x hx => pickG_lt HOk.out rows (hx.lt HOk.out))).mono ?_; rintro e w4 ⟨A32, c32, m, rfl, HM, HR, hb⟩))
      go_ret2
      exact ⟨⟨A32, c32, m, ⟨HM.out.1⟩, .inl ⟨by rw [HGs.out]; exact HBt.out, rfl, ⟨by rw [HGE2.out]; exact HM.out.2⟩, ⟨by rw [HGE2.out]; exact own_weaken HR.out HB2.out.hb.size⟩⟩⟩, ⟨(HB2.out.nx hb.out).hb⟩⟩
    | false =>
      rw [hbt] at HHas
      have HBt := Aside0.mk hbt
      clear hbt
      have HRc : Aside0 (∀ a, Rco n root (qO N n) a → a < N ∧ (gnd N n).testBit a = false) := ⟨fun a ha => Rco_out HOk.out hroot (by rw [HGs.out]; exact HBt.out) ha⟩
      have HQb : Aside0 (∀ a, Rco n root (qO N n) a → qO N n a < N) := ⟨fun a ha => bit_lt HOk.out.hN (HOk.out.lb _) (qO_spec HOk.out (HRc.out a ha).1 (HRc.out a ha).2).1⟩
      have HQn : Aside0 (∀ a, Rco n root (qO N n) a → sdiff (nth n.by_ a) (gout N n) ≠ 0) := ⟨fun a ha => out_open HOk.out (HRc.out a ha).1 (HRc.out a ha).2⟩
      have HHit := Aside0.mk (fun (x : World) (h1 : TabW x) (h2 : NetV x n (.agg #[.int .u64 n.all, .slice A1 n.by_.length c1, .slice A2 n.out.length c2])) => hit_any N n HOk.out _ gs HGl.out x h1 h2)
      rw [show uni n.out (bl gs) 0 = gout N n by rw [gout, HGs.out]] at HHit
      have HUl := Aside0.mk (gout_lt HOk.out)
      have HQd : Aside0 (∀ a, low (sdiff (nth n.by_ a) (gout N n)) = qO N n a) := ⟨fun a => rfl⟩
      obtain ⟨q, hq⟩ : ∃ q, qO N n = q := ⟨_, rfl⟩
      obtain ⟨u, hu⟩ : ∃ u, gout N n = u := ⟨_, rfl⟩
      rw [hq] at HRc HQb HQn HQd
      rw [hu] at HHit HUl HQn HQd
      have HQe := Aside0.mk hq
      clear hq hu
      go_wp2_with (first | (go_at_call 46; refine (HHas.out _).mono ?_; rintro e w' ⟨rfl, rfl⟩) | (go_at_call 51; refine (HHit.out _ HT3.out HN3.out).mono ?_; rintro e w5 ⟨rfl, hb⟩))
      have HB5 := Aside0.mk (HB2.out.nx hb.out)
      have HAS : Aside0 (AS w [(h, .cells #[.slice A16 rows.length c16] 62 (0, 0)), (g, O)] (.slice (some ⟨w5.heap.size, 0, none⟩) 1 1) (.slice none 0 0) (.slice none 0 0) [root] [] [] (w5.alloc (.cells #[.int .i64 (root : Int)] 3))) :=
        ⟨⟨HB5.out.nx (below_alloc (Below.refl _ _) _), own_lit w5 w.heap.size 3 .i64 [(root : Int)] HB5.out.hb.size (by simp), own_nil _ _ _ _, own_nil _ _ _ _, .inr (.inl rfl), AS_ty2 _ _ _ _⟩⟩
      clear HB2 HB5 hb hg0 hg1 hg2 hh0 HHit HT3 HN3 HHas HR16 HRw
      go_loopg [9, 10, 11] (N + 1) (fun kk v9 v10 v11 w' => ∃ (i : Nat) (R L : List Nat) (vL : Value), v11 = .int .i64 (i : Int) ∧ Aside0 (i ≤ R.length ∧ R.length ≤ N ∧ N - i < kk) ∧ Aside0 (OI n root q R) ∧ Aside0 (OSeen n q R i) ∧ Aside0 (AS w [(h, .cells #[.slice A16 rows.length c16] 62 (0, 0)), (g, O)] v9 v10 vL R ((R.take i).map fun a => rp a (q a)) L w'))
      case atStart => exact ⟨0, [root], [], .slice none 0 0, rfl, ⟨by simp, by simp; omega, by omega⟩, ⟨⟨by simp, by simp, fun a ha => by rw [List.mem_singleton.1 ha]; exact .root⟩⟩, ⟨fun j hj => by omega⟩, HAS⟩
      case round =>
        clear HAS
        obtain ⟨i, R, L0, vL, rfl, HI, HA, HSn, HS⟩ := hrel
        obtain ⟨A9, c9, rfl, hr9⟩ := HS.out.r.reads
        obtain ⟨k, rfl⟩ : ∃ k, gk = k + 1 := ⟨gk - 1, by have := HI.out; omega⟩
        by_cases hlt : i < R.length
        · have hia := nth_mem R i hlt
          obtain ⟨a, haa⟩ : ∃ a, nth R i = a := ⟨_, rfl⟩
          rw [haa] at hia
          have HIa := Aside0.mk haa
          have hRa := HA.out.rr _ hia
          have haN := (HRc.out _ hRa).1
          have hqN := HQb.out _ hRa
          obtain ⟨ad9, rfl, hc9⟩ := hr9.cell i hlt
          rw [haa] at hc9
          have hal : a < n.by_.length := by rw [HOk.out.hb]; exact haN
          have hali : (a : Int) < (n.by_.length : Int) := by omega
          have hql : q a < n.by_.length := by rw [HOk.out.hb]; exact hqN
          have hqli : (q a : Int) < (n.by_.length : Int) := by omega
          have hlti : (i : Int) < (R.length : Int) := by omega
          obtain ⟨ad1, rfl, hc1⟩ := (H2.out.below HS.out.st.hb).cell a hal
          have hg1 := (HS.out.st.at_ (.tail _ (.head _)) 1).trans rfl
          have hand := u64_andNot_nat (nth n.by_ a) u (p64 HOk.out.hN (HOk.out.lb a)) (p64 HOk.out.hN HUl.out)
          have HAnd := Aside0.mk hand
          have HF := Aside0.mk (fun W (hT : TabW W) => first_any (sdiff (nth n.by_ a) u) (HQn.out a hRa) (sdiff_lt _ _ (p64 HOk.out.hN (HOk.out.lb a))) W hT)
          rw [show nth (bl (sdiff (nth n.by_ a) u)) 0 = q a from HQd.out a] at HF
          have HTk := Aside0.mk (take_succ_map R i hlt fun a => rp a (q a))
          rw [haa] at HTk
          clear haa hr9 hand hRa
          go_wp2
          go_region_held3 (fun w' => w'.cell? ⟨g, 1, none⟩ = some (.slice (some ad1) n.by_.length c1) ∧ w'.cell? (ad9.add i) = some (.int .i64 a) ∧ w'.cell? (ad1.add a) = some (.int .u64 (nth n.by_ a))) (first | go_keep | exact ⟨pw_cell_below hb.out hg1, pw_cell_below hb.out hc9, pw_cell_below hb.out hc1⟩)
            (first | (rw [show bits .andNot .u64 ((nth n.by_ a : Nat) : Int) ((u : Nat) : Int) = ((sdiff (nth n.by_ a) u : Nat) : Int) from HAnd.out]; go_at_call 31; refine (HF.out _ (HT.out.below HT.out.2 HS.out.st.hb.drew)).mono ?_; rintro e w5 ⟨rfl, hb⟩))
          have HS5 := Aside0.mk ((HS.out.nx (Below.refl _ _).drew).nx hb.out)
          have hc9 := pw_cell_below (Below.refl _ _).drew hc9
          have hc9 := pw_cell_below hb.out hc9
          have hRN := HI.out.2.1
          have hN40 := HOk.out.hN
          have HJ : Aside0 (OAt n q R i a 0) := ⟨HIa.out, hlt, fun x hx => by simp at hx⟩
          clear HS hb hg1 hc1 hali HF
          go_wp2_with (first | (at_builtin; refine app_rp2 (w0 := w) 31 (.tmp 55) (.tmp 62) rfl rfl Tryd.underlying31 info77 _ ((R.take i).map fun a => rp a (q a)) a (q a) (by omega) (by omega) rfl rfl ?aO ?aB ?aL ?_; (case aO => exact HS5.out.o); (case aB => exact HS5.out.st.hb); (case aL => (rw [List.length_map, List.length_take]; omega)); intro v1 w7 HO7 HG7; have HS7 := Aside0.mk (HS5.out.appO HO7 HG7); clear HS5 HO7 HG7 hc9; rw [← HTk.out] at HS7; have hg1 := (HS7.out.st.at_ (.tail _ (.head _)) 1).trans rfl; have hc1 := (H2.out.below HS7.out.st.hb).cellS (q a) hql) | (go_at_call 43; refine (list_own (nth n.by_ (q a)) (p64 HOk.out.hN (HOk.out.lb (q a))) _ (HT.out.below HT.out.2 HS7.out.st.hb)).mono ?_; rintro e w8 ⟨v69, rfl, HL69, hb⟩; obtain ⟨A69, c69, rfl⟩ := own_slice HL69.out; clear hg1 hc1))
          have HS8 := Aside0.mk (HS7.out.newL hb.out HL69.out)
          have hl64 := bl_length (nth n.by_ (q a))
          clear HS7 HL69 hb
          go_loopw [9, 14, 71] (fun v9 v14 v71 w' => ∃ (j : Nat) (R : List Nat), v71 = .int .i64 (j : Int) ∧ j ≤ (bl (nth n.by_ (q a))).length ∧ Aside0 (OI n root q R) ∧ Aside0 (OSeen n q R i) ∧ Aside0 (OAt n q R i a j) ∧ Aside0 (AS w [(h, .cells #[.slice A16 rows.length c16] 62 (0, 0)), (g, O)] v9 v1 (.slice A69 (bl (nth n.by_ (q a))).length c69) R ((R.take (i + 1)).map fun a => rp a (q a)) (bl (nth n.by_ (q a))) w')) (fun _ _ v71 _ => (bl (nth n.by_ (q a))).length - (intOf v71).toNat)
          case atStart => exact ⟨0, R, rfl, Nat.zero_le _, HA, HSn, HJ, HS8⟩
          case round =>
            clear HA HSn HJ HS8 HIa HTk hRN hlti hlt hia
            obtain ⟨j, R, rfl, hj, HA, HSn, HJ, HS⟩ := hrel
            by_cases hlt : j < (bl (nth n.by_ (q a))).length
            · obtain ⟨A', c', he, hr⟩ := HS.out.l.reads
              injection he with e1 e2 e3
              subst e1 e3
              obtain ⟨ad69, rfl, hc69⟩ := hr.cell j hlt
              have hx0 := nth_mem _ j hlt
              have hxx := (mem_bl _ _ (p64 HOk.out.hN (HOk.out.lb (q a)))).1 hx0
              have HTk := Aside0.mk (take_next (bl (nth n.by_ (q a))) j hlt)
              clear hx0 hr
              generalize nth (bl (nth n.by_ (q a))) j = x at *
              have haR : a ∈ R := by rw [← HJ.out.1]; exact nth_mem _ _ HJ.out.2.1
              have HStep := Aside0.mk (HA.out.step haR hxx)
              have HSn2 := Aside0.mk (HSn.out.add (Nat.le_of_lt HJ.out.2.1) x)
              have HJ2 := Aside0.mk (HJ.out.add HTk.out)
              have HTa := Aside0.mk (take_addN R x (i + 1) HJ.out.2.1)
              have HRN := Aside0.mk (nodup_le N R HA.out.rn fun b hb => (HRc.out b (HA.out.rr b hb)).1)
              have HCont := Aside0.mk (fun (v : Value) (W : World) (h : OwnI W w.heap.size v R) => contains_any v w.heap.size R x W h)
              clear hxx haR
              cases hcn : R.contains x with
              | true =>
                rw [hcn] at HCont
                rw [addN_old hcn] at HStep HSn2 HJ2
                clear hcn
                go_wp2_with (first | (go_at_call 52; refine (HCont.out _ _ HS.out.r).mono ?_; rintro e w' ⟨rfl, rfl⟩))
                exact ⟨⟨j + 1, R, by go_num, hlt, HStep, HSn2, HJ2, HS⟩, by simp [intOf]; omega⟩
              | false =>
                rw [hcn] at HCont
                rw [addN_new hcn] at HStep HSn2 HJ2 HTa
                clear hcn
                go_wp2_with (first | (go_at_call 52; refine (HCont.out _ _ HS.out.r).mono ?_; rintro e w' ⟨rfl, rfl⟩) | (at_builtin; refine app_node (w0 := w) 25 (.tmp 79) (.tmp 81) rfl rfl Tryd.underlying25 info3 _ R x rfl rfl ?aO ?aB ?aL ?_; (case aO => exact HS.out.r); (case aB => exact HS.out.st.hb); (case aL => (have := HRN.out; omega)); intro v2 w9 HR9 HG9 HAt9; have HS9 := Aside0.mk (HS.out.appR HR9 HG9 HAt9); clear HS HR9 HG9 HAt9))
                exact ⟨⟨j + 1, R ++ [x], by go_num, hlt, HStep, HSn2, HJ2, ⟨by rw [HTa.out]; exact HS9.out⟩⟩, by simp [intOf]; omega⟩
            · have HEnd := Aside0.mk (Nat.le_of_not_lt hlt)
              have hRN := nodup_le N R HA.out.rn fun b hb => (HRc.out b (HA.out.rr b hb)).1
              have hi40 : i < 40 := by have := HJ.out.2.1; omega
              have HI2 : Aside0 (i + 1 ≤ R.length ∧ R.length ≤ N ∧ N - (i + 1) < k) := ⟨by have := HJ.out.2.1; omega, hRN, by have := HI.out.2.2; have := HJ.out.2.1; omega⟩
              have HSn2 := Aside0.mk (HJ.out.seen HEnd.out (p64 HOk.out.hN (HOk.out.lb (q a))) HSn.out)
              go_wp2
              go_roundg k
              case measure => omega
              case rel => exact ⟨i + 1, R, _, _, by go_num, HI2, HA, HSn2, HS⟩
        · have hi : i = R.length := by have := HI.out; omega
          have HRl := Aside0.mk HI.out.2.1
          have HTk : Aside0 (R.take i = R) := ⟨by rw [hi, List.take_length]⟩
          rw [HTk.out] at HS
          have HSnR : Aside0 (OSeen n q R R.length) := ⟨by rw [← hi]; exact HSn.out⟩
          clear hi HI HSn HTk
          go_wp2_with (first | (go_at_call 53; refine (sort_any 54 (.inr rfl) (R.map fun a => rp a (q a)) (by have := HRl.out; have := HOk.out.hN; rw [List.length_map]; omega) _ _ _ HS.out.o).mono ?_; rintro e w8 ⟨rfl, rs, HPm, HSo, HO8, HG8⟩))
          have hRlt : ∀ x, x ∈ R → x < N := fun b hb => (HRc.out b (HA.out.rr b hb)).1
          have hm := setOf_lt' R hRlt
          have e := sorted_is (setOf R) (p64 HOk.out.hN hm) q R HA.out.rn (setOf_bit R) rs HPm.out HSo.out
          obtain ⟨A, c, h1, h2⟩ := HO8.out.reads
          have h3 := HO8.out
          rw [h1, e, List.length_map] at h3
          rw [e, List.length_map] at h1
          subst h1
          replace h2 := h3
          go_ret2
          exact ⟨⟨A, c, setOf R, ⟨hm⟩, .inr ⟨by rw [HGs.out]; exact HBt.out, rfl, ⟨fun x => by rw [setOf_bit, HQe.out]; exact HA.out.done HSnR.out x⟩, ⟨by rw [HQe.out]; exact h2⟩⟩⟩, ⟨HS.out.st.hb.grown HG8.out HS.out.st.hb.size (own_base' HS.out.o)⟩⟩
end Go.Proofs.YtgboplcjafmliaaDoor.G

/- The contract of game.Solve, and what it computes. -/
namespace Go.Proofs.YtgboplcjafmliaaDoor.G
open Go.RowKit Go.Proofs.YtgboplcjafmliaaDoorW.PrintWords Go.Proofs.YtgboplcjafmliaaDoorW.PrintLast Go.Proofs.YtgboplcjafmliaaDoorW.PrintMore
open Go.Proofs.YtgboplcjafmliaaDoor.PAll
set_option linter.unusedVariables false
set_option linter.unusedSimpArgs false

theorem srch_some {N : Nat} {n : NetD} (hok : n.Ok N) : ∀ (f s t : Nat), s < 2 ^ N → srch n f s = some t → t < 2 ^ N ∧ (∀ i, s.testBit i = true → t.testBit i = true) ∧ freeB n t = true ∧ openM n t = 0
  | 0, s, t, hs, h => by cases h
  | f + 1, s, t, hs, h => by
    rw [srch] at h
    split at h
    · rename_i hf
      split at h
      · rename_i h0
        injection h with h
        subst h
        exact ⟨hs, fun i hi => hi, hf, (bl_nil _ (p64 hok.hN (openM_lt hok s))).1 (List.length_eq_zero_iff.1 h0)⟩
      · obtain ⟨x, hx, h2⟩ := List.exists_of_findSome?_eq_some h
        have hxN := bl_in hok.hN (hok.lb _) hx
        obtain ⟨h3, h4, h5⟩ := srch_some hok f _ t (Nat.or_lt_two_pow hs (Nat.pow_lt_pow_right (by omega) hxN)) h2
        exact ⟨h3, fun i hi => h4 i (by rw [Nat.testBit_or, hi]; rfl), h5⟩
    · cases h
/-- A set that attacks its attackers. -/
theorem open_hits {N : Nat} {n : NetD} (hok : n.Ok N) {t : Nat} (ht : t < 2 ^ N) (h : openM n t = 0) {a x : Nat} (ha : t.testBit a = true) (hx : (nth n.by_ a).testBit x = true) : nth n.by_ x &&& t ≠ 0 := by
  have h64 := p64 hok.hN (uni_lt _ N hok.lb (bl t) 0 (Nat.two_pow_pos N))
  have h65 := p64 hok.hN (uni_lt _ N hok.lo (bl t) 0 (Nat.two_pow_pos N))
  have h1 : (openM n t).testBit x = false := by rw [h]; simp
  unfold openM at h1
  rw [sdiff_bit _ _ _ h64 h65, uni_bit, uni_bit] at h1
  have h2 : ((bl t).any fun j => (nth n.by_ j).testBit x) = true := List.any_eq_true.2 ⟨a, (mem_bl _ _ (p64 hok.hN ht)).2 ha, hx⟩
  rw [h2] at h1
  simp only [Nat.zero_testBit, Bool.false_or, Bool.or_true, Bool.true_and, Bool.not_eq_false'] at h1
  obtain ⟨b, hb, hbx⟩ := List.any_eq_true.1 h1
  rw [← hok.co] at hbx
  intro h3
  have : (nth n.by_ x &&& t).testBit b = true := by rw [Nat.testBit_and, hbx, (mem_bl _ _ (p64 hok.hN ht)).1 hb]; rfl
  rw [h3] at this
  simp at this
def pickS (n : NetD) (s x : Nat) : Nat := low (nth n.by_ x &&& s)
theorem pickS_in {N : Nat} {n : NetD} (hok : n.Ok N) {s x : Nat} (h : nth n.by_ x &&& s ≠ 0) : (nth n.by_ x).testBit (pickS n s x) = true ∧ s.testBit (pickS n s x) = true := by
  have h1 := low_mem h (and_lt _ _ (p64 hok.hN (hok.lb x)))
  rw [Nat.testBit_and, Bool.and_eq_true] at h1
  exact h1
theorem Rc_in {N : Nat} {n : NetD} (hok : n.Ok N) {t : Nat} (ht : t < 2 ^ N) (h : openM n t = 0) {root : Nat} (hr : t.testBit root = true) {a : Nat} (ha : Rc n root (pickS n t) a) : t.testBit a = true := by
  induction ha with
  | root => exact hr
  | step _ hx ih => exact (pickS_in hok (open_hits hok ht h ih hx)).2
theorem RcA_hit {N : Nat} {n : NetD} (hok : n.Ok N) {t : Nat} (ht : t < 2 ^ N) (h : openM n t = 0) {root : Nat} (hr : t.testBit root = true) {x : Nat} (hx : RcA n root (pickS n t) x) : nth n.by_ x &&& t ≠ 0 := by
  obtain ⟨a, ha, hax⟩ := hx
  exact open_hits hok ht h (Rc_in hok ht h hr ha) hax

/-- The error of Solve. -/
def solE (N : Int) (l : List S54) (game root : Int) : Int := if valE N l ≠ 0 then valE N l else if ¬(game = 1 ∨ game = 2) then 4 else if root < 0 ∨ N ≤ root then 1 else if game = 2 ∧ 10 < N then 2 else 0
/-- What a strategy of Solve is: the winner, the nodes that are replied to, the replies. -/
inductive SolP (N : Nat) (n : NetD) (root : Nat) : Int → Int → Nat → (Nat → Nat) → Prop
  | gp (m : Nat) : (gnd N n).testBit root = true → (∀ x, m.testBit x = true ↔ RcA n root (pickG n (grd n (N + 1) 0)) x) → SolP N n root 1 1 m (pickG n (grd n (N + 1) 0))
  | go (m : Nat) : (gnd N n).testBit root = false → (∀ x, m.testBit x = true ↔ Rco n root (qO N n) x) → SolP N n root 1 2 m (qO N n)
  | cp (m s : Nat) : srch n (N + 1) (2 ^ root) = some s → (∀ x, m.testBit x = true ↔ RcA n root (pickS n s) x) → SolP N n root 2 1 m (pickS n s)
  | co (pk : Nat → Nat) : srch n (N + 1) (2 ^ root) = none → SolP N n root 2 2 0 pk
def SolV (N : Int) (l : List S54) (game root : Int) (base : Nat) (e : Ending) (w' : World) : Prop :=
  (solE N l game root ≠ 0 ∧ e = .returned (.tuple #[.agg #[.int .i64 0, .int .i64 0, .int .i64 0, .slice none 0 0], .int .i64 (solE N l game root)])) ∨
  (solE N l game root = 0 ∧ ∃ (M r : Nat) (who : Int) (A : Option Addr) (c m : Nat) (pk : Nat → Nat), N = M ∧ root = r ∧ M ≤ 40 ∧ r < M ∧ InR M l ∧ m < 2 ^ M ∧ SolP M (netOf M l) r game who m pk ∧ e = .returned (.tuple #[.agg #[.int .i64 game, .int .i64 root, .int .i64 who, .slice A (bl m).length c], .int .i64 0]) ∧ OwnRp w' base (.slice A (bl m).length c) ((bl m).map fun x => rp x (pk x)))
theorem grdV_sol {N : Nat} {n : NetD} {root base : Nat} {e : Ending} {w' : World} (h : grdV N n root base e w') : ∃ (A : Option Addr) (c m : Nat) (who : Int) (pk : Nat → Nat), Aside0 (m < 2 ^ N) ∧ Aside0 (SolP N n root 1 who m pk) ∧ e = .returned (.tuple #[.int .i64 who, .slice A (bl m).length c]) ∧ Aside0 (OwnRp w' base (.slice A (bl m).length c) ((bl m).map fun x => rp x (pk x))) := by
  obtain ⟨A, c, m, hm, ⟨hb, he, hx, ho⟩ | ⟨hb, he, hx, ho⟩⟩ := h
  · exact ⟨A, c, m, 1, _, hm, ⟨.gp m hb hx.out⟩, he, ho⟩
  · exact ⟨A, c, m, 2, _, hm, ⟨.go m hb hx.out⟩, he, ho⟩
theorem grown_set (w : World) (a : Addr) (u : Value) : w.grownBy (w.setCell a u) (some a.block) :=
  ⟨rfl, rfl, rfl, by simp, fun k _ hk => heap_setCell_other w a k u (fun e => hk (by rw [e]))⟩
theorem OwnRp.set {x : World} {base : Nat} {v : Value} {rs : List Rp} (h : OwnRp x base v rs) {g : Nat} {cs : Array Value} {t : TypeId} (hb : x.heap[g]? = some (.cells cs t (0, 0))) (ht : t ≠ 77) (i : Nat) (u : Value) : OwnRp (x.setCell ⟨g, i, none⟩ u) base v rs := by
  have hne := own_ne h hb (Ne.symm ht)
  exact own_other h (grown_set x ⟨g, i, none⟩ u) (.inr (Ne.symm hne))
theorem cov_le (N s : Nat) : cov N s ≤ N := by unfold cov; have := List.countP_le_length (p := fun i => !s.testBit i) (l := List.range N); simpa using this
theorem Mem.set4 {w x : World} {g : Nat} {a b c d : Value} {t : TypeId} {bs : List (Nat × Obj)} (h : Mem w ((g, .cells #[a, b, c, d] t (0, 0)) :: bs) x) (a' b' c' d' : Value) : Mem w ((g, .cells #[a', b', c', d'] t (0, 0)) :: bs) ((((x.setCell ⟨g, 0, none⟩ a').setCell ⟨g, 1, none⟩ b').setCell ⟨g, 2, none⟩ c').setCell ⟨g, 3, none⟩ d') :=
  (((h.set 0 a').set 1 b').set 2 c').set 3 d'
theorem OwnRp.set4 {w x : World} {base : Nat} {v : Value} {rs : List Rp} (ho : OwnRp x base v rs) {g : Nat} {a b c d : Value} {t : TypeId} {bs : List (Nat × Obj)} (h : Mem w ((g, .cells #[a, b, c, d] t (0, 0)) :: bs) x) (ht : t ≠ 77) (a' b' c' d' : Value) : OwnRp ((((x.setCell ⟨g, 0, none⟩ a').setCell ⟨g, 1, none⟩ b').setCell ⟨g, 2, none⟩ c').setCell ⟨g, 3, none⟩ d') base v rs := by
  have h1 := h.set 0 a'
  have h2 := h1.set 1 b'
  have h3 := h2.set 2 c'
  exact (((ho.set (h.st.blk _ (.head _)) ht 0 a').set (h1.st.blk _ (.head _)) ht 1 b').set (h2.st.blk _ (.head _)) ht 2 c').set (h3.st.blk _ (.head _)) ht 3 d'
theorem sol_ret {w W : World} {g : Nat} {a b c d : Value} {bs : List (Nat × Obj)} {R : Ending → World → Prop} {act : Act} {x : Int} (h : Mem w ((g, .cells #[a, b, c, d] 33 (0, 0)) :: bs) W)
    (h6 : act.tmps.getD 6 undef = .pointer (some ⟨g, 0, none⟩)) (h7 : act.tmps.getD 7 undef = .int .i64 x) (hd : act.defers = []) (hR : R (.returned (.tuple #[.agg #[a, b, c, d], .int .i64 x])) W) : bodyPost Tryd.prog Tryd.f10 R .ret act W := by
  refine bodyPost_ret (results_ct (fn := Tryd.f10) (p := 6) (u := 7) (ty := 33) rfl _ _ g 33 #[a, b, c, d] (0, 0) _ h6 (h.st.blk _ (.head _)) Tryd.underlying33 rfl (by kernel_rfl)) hd ?_
  rw [h7]; exact hR

set_option maxHeartbeats 1000000 in
set_option maxRecDepth 100000 in
theorem solve_any (N : Int) (l : List S54) (hl : l.length < 2 ^ 44) (A : Option Addr) (c : Nat) (game root : Int) (w : World) (hT : TabW w) (hr : RdP w A c l) :
    Calls Tryd.prog 10 #[.agg #[.int .i64 N, .slice A l.length c], .int .i64 game, .int .i64 root] w fun e w' => SolV N l game root w.heap.size e w' ∧ Aside0 (Below w.heap.size w w') := by
  have HT := Aside0.mk hT
  have HR := Aside0.mk hr
  clear hT hr
  have HB := Aside0.mk (Mem.refl w)
  have HVal := Aside0.mk (fun W h => validate_any N l hl A c W h)
  have HEx := Aside0.mk (fun W => exists_any game W)
  by_cases hv : valE N l = 0
  · have e1 : (valE N l == 0) = true := by rw [beq_iff_eq]; exact hv
    have e2 : (valE N l != 0) = false := by rw [bne_eq_false_iff_eq]; exact hv
    obtain ⟨M, hNM, hM40, hin⟩ := valE_ok hv
    have HNM := Aside0.mk hNM
    have HIn := Aside0.mk hin
    clear hNM hin
    by_cases hg : game = 1 ∨ game = 2
    · have e3 : decide (game = 1 ∨ game = 2) = true := decide_eq_true hg
      by_cases hr0 : root < 0
      · have e4 : decide (root < 0) = true := decide_eq_true hr0
        have HSe : Aside0 (solE N l game root = 1) := ⟨by rw [solE, if_neg (by simp [hv]), if_neg (by simp [hg]), if_pos (.inl hr0)]⟩
        clear hv hg hr0
        go_enter Tryd.func10, Tryd.ntmps10
        go_upto_region 1 with (first | ((with_reducible refine gate_dst (N := 3) rfl ?_); refine box_mem (w := w) 3 #[.int .i64 N, .slice A l.length c] 24 rfl rfl ?hr HB.out ?_; (case hr => go_simp; done); clear HB; intro g w1 HB HW) | ((with_reducible refine gate_dst (N := 6) rfl ?_); refine box_mem (w := w) 6 #[.int .i64 0, .int .i64 0, .int .i64 0, .slice none 0 0] 33 rfl rfl ?hr HB.out ?_; (case hr => go_simp; done); clear HB HW; intro g2 w2 HB HW))
        have hg0 := (HB.out.st.at_ (.tail _ (.head _)) 0).trans rfl
        have hg1 := (HB.out.st.at_ (.tail _ (.head _)) 1).trans rfl
        go_wp2_with (first | (go_at_call 23; refine (HVal.out _ (HR.out.below HB.out.st.hb)).mono ?_; rintro e w3 ⟨rfl, hb⟩; have HB3 := Aside0.mk (HB.out.nx hb.out); clear hb HB hg0 hg1; have hf0 := HB3.out.st.free_ (g := g2) (.head _) 0; have hf1 := HB3.out.st.free_ (g := g2) (.head _) 1; have hf2 := HB3.out.st.free_ (g := g2) (.head _) 2; have hf3 := HB3.out.st.free_ (g := g2) (.head _) 3; have hc0 := (HB3.out.st.at_ (g := g2) (.head _) 0).trans rfl; have hc1 := (HB3.out.st.at_ (g := g2) (.head _) 1).trans rfl; have hc2 := (HB3.out.st.at_ (g := g2) (.head _) 2).trans rfl; have hc3 := (HB3.out.st.at_ (g := g2) (.head _) 3).trans rfl; have hg0 := (HB3.out.st.at_ (g := g) (.tail _ (.head _)) 0).trans rfl; have hg1 := (HB3.out.st.at_ (g := g) (.tail _ (.head _)) 1).trans rfl) | (go_at_call 24; refine (HEx.out _).mono ?_; rintro e w' ⟨rfl, rfl⟩))
        have HF := HB3.out.set4 (.int .i64 0) (.int .i64 0) (.int .i64 0) (.slice none 0 0)
        exact sol_ret HF rfl rfl rfl ⟨.inl ⟨by rw [HSe.out]; exact (by decide), by rw [HSe.out]⟩, ⟨HF.st.hb⟩⟩
      · have e4 : decide (root < 0) = false := decide_eq_false hr0
        by_cases hr1 : N ≤ root
        · have e5 : decide (N ≤ root) = true := decide_eq_true hr1
          have HSe : Aside0 (solE N l game root = 1) := ⟨by rw [solE, if_neg (by simp [hv]), if_neg (by simp [hg]), if_pos (.inr hr1)]⟩
          clear hv hg hr0 hr1
          go_enter Tryd.func10, Tryd.ntmps10
          go_upto_region 1 with (first | ((with_reducible refine gate_dst (N := 3) rfl ?_); refine box_mem (w := w) 3 #[.int .i64 N, .slice A l.length c] 24 rfl rfl ?hr HB.out ?_; (case hr => go_simp; done); clear HB; intro g w1 HB HW) | ((with_reducible refine gate_dst (N := 6) rfl ?_); refine box_mem (w := w) 6 #[.int .i64 0, .int .i64 0, .int .i64 0, .slice none 0 0] 33 rfl rfl ?hr HB.out ?_; (case hr => go_simp; done); clear HB HW; intro g2 w2 HB HW))
          have hg0 := (HB.out.st.at_ (.tail _ (.head _)) 0).trans rfl
          have hg1 := (HB.out.st.at_ (.tail _ (.head _)) 1).trans rfl
          go_wp2_with (first | (go_at_call 23; refine (HVal.out _ (HR.out.below HB.out.st.hb)).mono ?_; rintro e w3 ⟨rfl, hb⟩; have HB3 := Aside0.mk (HB.out.nx hb.out); clear hb HB hg0 hg1; have hf0 := HB3.out.st.free_ (g := g2) (.head _) 0; have hf1 := HB3.out.st.free_ (g := g2) (.head _) 1; have hf2 := HB3.out.st.free_ (g := g2) (.head _) 2; have hf3 := HB3.out.st.free_ (g := g2) (.head _) 3; have hc0 := (HB3.out.st.at_ (g := g2) (.head _) 0).trans rfl; have hc1 := (HB3.out.st.at_ (g := g2) (.head _) 1).trans rfl; have hc2 := (HB3.out.st.at_ (g := g2) (.head _) 2).trans rfl; have hc3 := (HB3.out.st.at_ (g := g2) (.head _) 3).trans rfl; have hg0 := (HB3.out.st.at_ (g := g) (.tail _ (.head _)) 0).trans rfl; have hg1 := (HB3.out.st.at_ (g := g) (.tail _ (.head _)) 1).trans rfl) | (go_at_call 24; refine (HEx.out _).mono ?_; rintro e w' ⟨rfl, rfl⟩))
          have HF := HB3.out.set4 (.int .i64 0) (.int .i64 0) (.int .i64 0) (.slice none 0 0)
          exact sol_ret HF rfl rfl rfl ⟨.inl ⟨by rw [HSe.out]; exact (by decide), by rw [HSe.out]⟩, ⟨HF.st.hb⟩⟩
        · have e5 : decide (N ≤ root) = false := decide_eq_false hr1
          obtain ⟨r, hrr⟩ := Int.eq_ofNat_of_zero_le (Int.not_lt.1 hr0)
          have hrM : r < M := by have := HNM.out; omega
          have HRt := Aside0.mk hrr
          have HNew := Aside0.mk (fun W h => new_any M hM40 l hl HIn.out A c W h)
          rw [← HNM.out] at HNew
          have HOk := Aside0.mk (netOf_ok hM40 HIn.out)
          clear hrr
          rcases hg with rfl | rfl
          · have HSe : Aside0 (solE N l 1 root = 0) := ⟨by rw [solE, if_neg (by simp [hv]), if_neg (by simp), if_neg (by intro h; rcases h with h | h; exact hr0 h; exact hr1 h), if_neg (by simp)]⟩
            clear hv hr0 hr1
            go_enter Tryd.func10, Tryd.ntmps10
            go_upto_region 1 with (first | ((with_reducible refine gate_dst (N := 3) rfl ?_); refine box_mem (w := w) 3 #[.int .i64 N, .slice A l.length c] 24 rfl rfl ?hr HB.out ?_; (case hr => go_simp; done); clear HB; intro g w1 HB HW) | ((with_reducible refine gate_dst (N := 6) rfl ?_); refine box_mem (w := w) 6 #[.int .i64 0, .int .i64 0, .int .i64 0, .slice none 0 0] 33 rfl rfl ?hr HB.out ?_; (case hr => go_simp; done); clear HB HW; intro g2 w2 HB HW))
            have hg0 := (HB.out.st.at_ (.tail _ (.head _)) 0).trans rfl
            have hg1 := (HB.out.st.at_ (.tail _ (.head _)) 1).trans rfl
            go_upto_region 11 with (first | (go_at_call 23; refine (HVal.out _ (HR.out.below HB.out.st.hb)).mono ?_; rintro e w3 ⟨rfl, hb⟩; have HB3 := Aside0.mk (HB.out.nx hb.out); clear hb HB hg0 hg1; have hf0 := HB3.out.st.free_ (g := g2) (.head _) 0; have hf1 := HB3.out.st.free_ (g := g2) (.head _) 1; have hf2 := HB3.out.st.free_ (g := g2) (.head _) 2; have hf3 := HB3.out.st.free_ (g := g2) (.head _) 3; have hc0 := (HB3.out.st.at_ (g := g2) (.head _) 0).trans rfl; have hc1 := (HB3.out.st.at_ (g := g2) (.head _) 1).trans rfl; have hc2 := (HB3.out.st.at_ (g := g2) (.head _) 2).trans rfl; have hc3 := (HB3.out.st.at_ (g := g2) (.head _) 3).trans rfl; have hg0 := (HB3.out.st.at_ (g := g) (.tail _ (.head _)) 0).trans rfl; have hg1 := (HB3.out.st.at_ (g := g) (.tail _ (.head _)) 1).trans rfl) | (go_at_call 24; refine (HEx.out _).mono ?_; rintro e w' ⟨rfl, rfl⟩) | (go_at_call 25; refine (HNew.out _ (HR.out.below HB3.out.st.hb)).mono ?_; rintro e w4 ⟨v, rfl, HV, hb⟩; obtain ⟨A1, c1, A2, c2, rfl, h1, h2⟩ := HV.out; have HB4 := Aside0.mk (HB3.out.nx hb.out); clear hb hf0 hf1 hf2 hf3 hc0 hc1 hc2 hc3 hg0 hg1))
            have HB5 : Aside0 (Mem w _ (w4.alloc (.cells #[.int .u64 (netOf M l).all, .slice A1 (netOf M l).by_.length c1, .slice A2 (netOf M l).out.length c2] 64))) := ⟨HB4.out.add (.cells #[.int .u64 (netOf M l).all, .slice A1 (netOf M l).by_.length c1, .slice A2 (netOf M l).out.length c2] 64 (0, 0))⟩
            have HV5 := Aside0.mk (HV.out.below (below_alloc (Below.refl _ _) (.cells #[.int .u64 (netOf M l).all, .slice A1 (netOf M l).by_.length c1, .slice A2 (netOf M l).out.length c2] 64 (0, 0))))
            have h15 := Aside0.mk (h1.below (below_alloc (Below.refl _ _) (.cells #[.int .u64 (netOf M l).all, .slice A1 (netOf M l).by_.length c1, .slice A2 (netOf M l).out.length c2] 64 (0, 0))))
            clear HB4 HV h1 h2 HB3
            change Code.wp Tryd.prog _ _ _ (w4.alloc (.cells #[.int .u64 (netOf M l).all, .slice A1 (netOf M l).by_.length c1, .slice A2 (netOf M l).out.length c2] 64))
            generalize w4.heap.size = g9 at *
            generalize w4.alloc (.cells #[.int .u64 (netOf M l).all, .slice A1 (netOf M l).by_.length c1, .slice A2 (netOf M l).out.length c2] 64) = w5 at *
            go_upto_region 12 with fail
            have HB6 := Aside0.mk (HB5.out.add (.cells #[.int .i64 1, .int .i64 root, .int .i64 2, .slice none 0 0] 33 (0, 0)))
            have HV6 := Aside0.mk (HV5.out.below (below_alloc (Below.refl _ _) (.cells #[.int .i64 1, .int .i64 root, .int .i64 2, .slice none 0 0] 33 (0, 0))))
            clear HB5 HV5 h15
            change Code.wp Tryd.prog _ _ _ (w5.alloc (.cells #[.int .i64 1, .int .i64 root, .int .i64 2, .slice none 0 0] 33 (0, 0)))
            generalize w5.heap.size = g10 at *
            generalize w5.alloc (.cells #[.int .i64 1, .int .i64 root, .int .i64 2, .slice none 0 0] 33 (0, 0)) = w6 at *
            have hn0 := (HB6.out.st.at_ (g := g9) (.tail _ (.head _)) 0).trans rfl
            have hn1 := (HB6.out.st.at_ (g := g9) (.tail _ (.head _)) 1).trans rfl
            have hn2 := (HB6.out.st.at_ (g := g9) (.tail _ (.head _)) 2).trans rfl
            have HGr := Aside0.mk (grounded_any M (netOf M l) HOk.out _ r hrM _ (HT.out.below HT.out.2 HB6.out.st.hb) HV6.out)
            rw [← HRt.out] at HGr
            go_upto_region 14 with (first | (go_at_call 26; refine HGr.out.mono ?_; rintro e w7 ⟨HG, hb⟩; obtain ⟨A7, c7, m, who, pk, hm, HSp, rfl, HO0⟩ := grdV_sol HG; have HO : Aside0 (OwnRp w7 w.heap.size (.slice A7 (bl m).length c7) ((bl m).map fun x => rp x (pk x))) := ⟨own_weaken HO0.out HB6.out.st.hb.size⟩; clear HO0; have HB7 := Aside0.mk (HB6.out.nx hb.out); clear HB6 HG hb hn0 hn1 hn2; have hf0 := HB7.out.st.free_ (g := g10) (.head _) 0; have hf1 := HB7.out.st.free_ (g := g10) (.head _) 1; have hf2 := HB7.out.st.free_ (g := g10) (.head _) 2; have hf3 := HB7.out.st.free_ (g := g10) (.head _) 3; have hc0 := (HB7.out.st.at_ (g := g10) (.head _) 0).trans rfl; have hc1 := (HB7.out.st.at_ (g := g10) (.head _) 1).trans rfl; have hc2 := (HB7.out.st.at_ (g := g10) (.head _) 2).trans rfl; have hc3 := (HB7.out.st.at_ (g := g10) (.head _) 3).trans rfl))
            have HB8 := Aside0.mk ((HB7.out.set 2 (.int .i64 who)).set 3 (.slice A7 (bl m).length c7))
            have HO8 := Aside0.mk ((HO.out.set (HB7.out.st.blk _ (.head _)) (by decide) 2 (.int .i64 who)).set ((HB7.out.set 2 (.int .i64 who)).st.blk _ (.head _)) (by decide) 3 (.slice A7 (bl m).length c7))
            clear hf0 hf1 hf2 hf3 hc0 hc1 hc2 hc3 HB7 HO
            generalize (w7.setCell ⟨g10, 2, none⟩ (.int .i64 who)).setCell ⟨g10, 3, none⟩ (.slice A7 (bl m).length c7) = w8 at *
            have HB9 : Aside0 (Mem w [(g10, .cells #[.int .i64 1, .int .i64 root, .int .i64 who, .slice A7 (bl m).length c7] 33 (0, 0)), _, _, _] w8) := ⟨HB8.out⟩
            clear HB8
            have k0 := (HB9.out.st.at_ (g := g10) (.head _) 0).trans rfl; have k1 := (HB9.out.st.at_ (g := g10) (.head _) 1).trans rfl; have k2 := (HB9.out.st.at_ (g := g10) (.head _) 2).trans rfl; have k3 := (HB9.out.st.at_ (g := g10) (.head _) 3).trans rfl
            have hf0 := HB9.out.st.free_ (g := g2) (.tail _ (.tail _ (.head _))) 0; have hf1 := HB9.out.st.free_ (g := g2) (.tail _ (.tail _ (.head _))) 1; have hf2 := HB9.out.st.free_ (g := g2) (.tail _ (.tail _ (.head _))) 2; have hf3 := HB9.out.st.free_ (g := g2) (.tail _ (.tail _ (.head _))) 3; have hc0 := (HB9.out.st.at_ (g := g2) (.tail _ (.tail _ (.head _))) 0).trans rfl; have hc1 := (HB9.out.st.at_ (g := g2) (.tail _ (.tail _ (.head _))) 1).trans rfl; have hc2 := (HB9.out.st.at_ (g := g2) (.tail _ (.tail _ (.head _))) 2).trans rfl; have hc3 := (HB9.out.st.at_ (g := g2) (.tail _ (.tail _ (.head _))) 3).trans rfl
            go_wp2
            have HF := (HB9.out.perm (perm_312 _ _ _ _)).set4 (.int .i64 1) (.int .i64 root) (.int .i64 who) (.slice A7 (bl m).length c7)
            have HOF := HO8.out.set4 (HB9.out.perm (perm_312 _ _ _ _)) (by decide) (.int .i64 1) (.int .i64 root) (.int .i64 who) (.slice A7 (bl m).length c7)
            exact sol_ret HF rfl rfl rfl ⟨.inr ⟨HSe.out, M, r, who, A7, c7, m, pk, HNM.out, HRt.out, hM40, hrM, HIn.out, hm.out, HSp.out, rfl, HOF⟩, ⟨HF.st.hb⟩⟩
          · by_cases hbig : 10 < N
            · have e6 : decide (10 < N) = true := decide_eq_true hbig
              have HSe : Aside0 (solE N l 2 root = 2) := ⟨by rw [solE, if_neg (by simp [hv]), if_neg (by simp), if_neg (by intro h; rcases h with h | h; exact hr0 h; exact hr1 h), if_pos ⟨rfl, hbig⟩]⟩
              clear hv hr0 hr1 hbig
              go_enter Tryd.func10, Tryd.ntmps10
              go_upto_region 1 with (first | ((with_reducible refine gate_dst (N := 3) rfl ?_); refine box_mem (w := w) 3 #[.int .i64 N, .slice A l.length c] 24 rfl rfl ?hr HB.out ?_; (case hr => go_simp; done); clear HB; intro g w1 HB HW) | ((with_reducible refine gate_dst (N := 6) rfl ?_); refine box_mem (w := w) 6 #[.int .i64 0, .int .i64 0, .int .i64 0, .slice none 0 0] 33 rfl rfl ?hr HB.out ?_; (case hr => go_simp; done); clear HB HW; intro g2 w2 HB HW))
              have hg0 := (HB.out.st.at_ (.tail _ (.head _)) 0).trans rfl
              have hg1 := (HB.out.st.at_ (.tail _ (.head _)) 1).trans rfl
              go_wp2_with (first | (go_at_call 23; refine (HVal.out _ (HR.out.below HB.out.st.hb)).mono ?_; rintro e w3 ⟨rfl, hb⟩; have HB3 := Aside0.mk (HB.out.nx hb.out); clear hb HB hg0 hg1; have hf0 := HB3.out.st.free_ (g := g2) (.head _) 0; have hf1 := HB3.out.st.free_ (g := g2) (.head _) 1; have hf2 := HB3.out.st.free_ (g := g2) (.head _) 2; have hf3 := HB3.out.st.free_ (g := g2) (.head _) 3; have hc0 := (HB3.out.st.at_ (g := g2) (.head _) 0).trans rfl; have hc1 := (HB3.out.st.at_ (g := g2) (.head _) 1).trans rfl; have hc2 := (HB3.out.st.at_ (g := g2) (.head _) 2).trans rfl; have hc3 := (HB3.out.st.at_ (g := g2) (.head _) 3).trans rfl; have hg0 := (HB3.out.st.at_ (g := g) (.tail _ (.head _)) 0).trans rfl; have hg1 := (HB3.out.st.at_ (g := g) (.tail _ (.head _)) 1).trans rfl) | (go_at_call 24; refine (HEx.out _).mono ?_; rintro e w' ⟨rfl, rfl⟩))
              have HF := HB3.out.set4 (.int .i64 0) (.int .i64 0) (.int .i64 0) (.slice none 0 0)
              exact sol_ret HF rfl rfl rfl ⟨.inl ⟨by rw [HSe.out]; exact (by decide), by rw [HSe.out]⟩, ⟨HF.st.hb⟩⟩
            · have e6 : decide (10 < N) = false := decide_eq_false hbig
              have HSe : Aside0 (solE N l 2 root = 0) := ⟨by rw [solE, if_neg (by simp [hv]), if_neg (by simp), if_neg (by intro h; rcases h with h | h; exact hr0 h; exact hr1 h), if_neg (by intro h; exact hbig h.2)]⟩
              clear hv hr0 hr1 hbig
              go_enter Tryd.func10, Tryd.ntmps10
              go_upto_region 1 with (first | ((with_reducible refine gate_dst (N := 3) rfl ?_); refine box_mem (w := w) 3 #[.int .i64 N, .slice A l.length c] 24 rfl rfl ?hr HB.out ?_; (case hr => go_simp; done); clear HB; intro g w1 HB HW) | ((with_reducible refine gate_dst (N := 6) rfl ?_); refine box_mem (w := w) 6 #[.int .i64 0, .int .i64 0, .int .i64 0, .slice none 0 0] 33 rfl rfl ?hr HB.out ?_; (case hr => go_simp; done); clear HB HW; intro g2 w2 HB HW))
              have hg0 := (HB.out.st.at_ (.tail _ (.head _)) 0).trans rfl
              have hg1 := (HB.out.st.at_ (.tail _ (.head _)) 1).trans rfl
              go_upto_region 11 with (first | (go_at_call 23; refine (HVal.out _ (HR.out.below HB.out.st.hb)).mono ?_; rintro e w3 ⟨rfl, hb⟩; have HB3 := Aside0.mk (HB.out.nx hb.out); clear hb HB hg0 hg1; have hf0 := HB3.out.st.free_ (g := g2) (.head _) 0; have hf1 := HB3.out.st.free_ (g := g2) (.head _) 1; have hf2 := HB3.out.st.free_ (g := g2) (.head _) 2; have hf3 := HB3.out.st.free_ (g := g2) (.head _) 3; have hc0 := (HB3.out.st.at_ (g := g2) (.head _) 0).trans rfl; have hc1 := (HB3.out.st.at_ (g := g2) (.head _) 1).trans rfl; have hc2 := (HB3.out.st.at_ (g := g2) (.head _) 2).trans rfl; have hc3 := (HB3.out.st.at_ (g := g2) (.head _) 3).trans rfl; have hg0 := (HB3.out.st.at_ (g := g) (.tail _ (.head _)) 0).trans rfl; have hg1 := (HB3.out.st.at_ (g := g) (.tail _ (.head _)) 1).trans rfl) | (go_at_call 24; refine (HEx.out _).mono ?_; rintro e w' ⟨rfl, rfl⟩) | (go_at_call 25; refine (HNew.out _ (HR.out.below HB3.out.st.hb)).mono ?_; rintro e w4 ⟨v, rfl, HV, hb⟩; obtain ⟨A1, c1, A2, c2, rfl, h1, h2⟩ := HV.out; have HB4 := Aside0.mk (HB3.out.nx hb.out); clear hb hf0 hf1 hf2 hf3 hc0 hc1 hc2 hc3 hg0 hg1))
              have HB5 : Aside0 (Mem w _ (w4.alloc (.cells #[.int .u64 (netOf M l).all, .slice A1 (netOf M l).by_.length c1, .slice A2 (netOf M l).out.length c2] 64))) := ⟨HB4.out.add (.cells #[.int .u64 (netOf M l).all, .slice A1 (netOf M l).by_.length c1, .slice A2 (netOf M l).out.length c2] 64 (0, 0))⟩
              have HV5 := Aside0.mk (HV.out.below (below_alloc (Below.refl _ _) (.cells #[.int .u64 (netOf M l).all, .slice A1 (netOf M l).by_.length c1, .slice A2 (netOf M l).out.length c2] 64 (0, 0))))
              have h15 := Aside0.mk (h1.below (below_alloc (Below.refl _ _) (.cells #[.int .u64 (netOf M l).all, .slice A1 (netOf M l).by_.length c1, .slice A2 (netOf M l).out.length c2] 64 (0, 0))))
              clear HB4 HV h1 h2 HB3
              change Code.wp Tryd.prog _ _ _ (w4.alloc (.cells #[.int .u64 (netOf M l).all, .slice A1 (netOf M l).by_.length c1, .slice A2 (netOf M l).out.length c2] 64))
              generalize w4.heap.size = g9 at *
              generalize w4.alloc (.cells #[.int .u64 (netOf M l).all, .slice A1 (netOf M l).by_.length c1, .slice A2 (netOf M l).out.length c2] 64) = w5 at *
              go_upto_region 12 with fail
              have HB6 := Aside0.mk (HB5.out.add (.cells #[.int .i64 2, .int .i64 root, .int .i64 2, .slice none 0 0] 33 (0, 0)))
              have HV6 := Aside0.mk (HV5.out.below (below_alloc (Below.refl _ _) (.cells #[.int .i64 2, .int .i64 root, .int .i64 2, .slice none 0 0] 33 (0, 0))))
              have h16 := Aside0.mk (h15.out.below (below_alloc (Below.refl _ _) (.cells #[.int .i64 2, .int .i64 root, .int .i64 2, .slice none 0 0] 33 (0, 0))))
              have HM5 := Aside0.mk ((Mem.refl w5).add (.cells #[.int .i64 2, .int .i64 root, .int .i64 2, .slice none 0 0] 33 (0, 0)))
              clear HB5
              change Code.wp Tryd.prog _ _ _ (w5.alloc (.cells #[.int .i64 2, .int .i64 root, .int .i64 2, .slice none 0 0] 33 (0, 0)))
              generalize w5.heap.size = g10 at *
              generalize w5.alloc (.cells #[.int .i64 2, .int .i64 root, .int .i64 2, .slice none 0 0] 33 (0, 0)) = w6 at *
              go_upto_region 15 with fail
              have hn0 := (HB6.out.st.at_ (g := g9) (.tail _ (.head _)) 0).trans rfl
              have hn1 := (HB6.out.st.at_ (g := g9) (.tail _ (.head _)) 1).trans rfl
              have hn2 := (HB6.out.st.at_ (g := g9) (.tail _ (.head _)) 2).trans rfl
              have HA := Aside0.mk (HB6.out.add (.cells #[.int .u64 0] 61 (0, 0)))
              have kn0 : (w6.alloc (.cells #[.int .u64 0] 61)).cell? ⟨g9, 0, none⟩ = some (.int .u64 (netOf M l).all) := (HA.out.st.at_ (g := g9) (.tail _ (.tail _ (.head _))) 0).trans rfl
              have kn1 : (w6.alloc (.cells #[.int .u64 0] 61)).cell? ⟨g9, 1, none⟩ = some (.slice A1 (netOf M l).by_.length c1) := (HA.out.st.at_ (g := g9) (.tail _ (.tail _ (.head _))) 1).trans rfl
              have kn2 : (w6.alloc (.cells #[.int .u64 0] 61)).cell? ⟨g9, 2, none⟩ = some (.slice A2 (netOf M l).out.length c2) := (HA.out.st.at_ (g := g9) (.tail _ (.tail _ (.head _))) 2).trans rfl
              have HWi : Aside0 (∀ W : World, Calls Tryd.prog 28 #[.int .u64 0, .int .i64 root] W fun e w' => e = .returned (.int .u64 ((2 ^ r : Nat) : Int)) ∧ W = w') := ⟨fun W => by
                have h := with_any 0 r (by decide) (by omega) W
                rw [Nat.zero_or, ← HRt.out] at h
                exact h⟩
              have HS := Aside0.mk (fun W h1 h2 => search_any M (netOf M l) HOk.out (M + 1) (2 ^ r) (Nat.pow_lt_pow_right (by omega) hrM) (by have := cov_le M (2 ^ r); omega) (.agg #[.int .u64 (netOf M l).all, .slice A1 (netOf M l).by_.length c1, .slice A2 (netOf M l).out.length c2]) W h1 h2)
              generalize hP : 2 ^ r = P2 at *
              have HP2 := Aside0.mk hP
              clear hP
              obtain ⟨o, ho⟩ : ∃ o, srch (netOf M l) (M + 1) P2 = o := ⟨_, rfl⟩
              rw [ho] at HS
              unfold resV at HS
              have HSr := Aside0.mk ho
              clear ho
              obtain ⟨sv, hsv⟩ : ∃ sv, o.getD 0 = sv := ⟨_, rfl⟩
              rw [hsv] at HS
              have HSv := Aside0.mk hsv
              clear hsv
              go_cut [11, 12] (fun s11 s12 wx => ∃ g11, s11 = .pointer (some ⟨g11, 0, none⟩) ∧ s12 = .bool o.isSome ∧ Aside0 (Mem w [(g11, .cells #[.int .u64 sv] 61 (0, 0)), (g10, .cells #[.int .i64 2, .int .i64 root, .int .i64 2, .slice none 0 0] 33 (0, 0)), (g9, .cells #[.int .u64 (netOf M l).all, .slice A1 (netOf M l).by_.length c1, .slice A2 (netOf M l).out.length c2] 64 (0, 0)), (g2, .cells #[.int .i64 0, .int .i64 0, .int .i64 0, .slice none 0 0] 33 (0, 0)), (g, .cells #[.int .i64 N, .slice A l.length c] 24 (0, 0))] wx) ∧ Aside0 (Mem w5 [(g11, .cells #[.int .u64 sv] 61 (0, 0)), (g10, .cells #[.int .i64 2, .int .i64 root, .int .i64 2, .slice none 0 0] 33 (0, 0))] wx))
              case first =>
                go_region_held3 (fun w' => w'.cell? ⟨g9, 0, none⟩ = some (.int .u64 (netOf M l).all) ∧ w'.cell? ⟨g9, 1, none⟩ = some (.slice A1 (netOf M l).by_.length c1) ∧ w'.cell? ⟨g9, 2, none⟩ = some (.slice A2 (netOf M l).out.length c2)) (first | go_keep | exact ⟨hn0, hn1, hn2⟩ | exact ⟨kn0, kn1, kn2⟩ | exact ⟨pw_cell_below hb.out hn0, pw_cell_below hb.out hn1, pw_cell_below hb.out hn2⟩ | exact ⟨pw_cell_below hb.out kn0, pw_cell_below hb.out kn1, pw_cell_below hb.out kn2⟩ | exact ⟨(HA8.out.st.at_ (g := g9) (.tail _ (.tail _ (.head _))) 0).trans rfl, (HA8.out.st.at_ (g := g9) (.tail _ (.tail _ (.head _))) 1).trans rfl, (HA8.out.st.at_ (g := g9) (.tail _ (.tail _ (.head _))) 2).trans rfl⟩ | (trace_state; fail))
                  (first | (go_at_call 28; refine (HWi.out _).mono ?_; rintro e w' ⟨rfl, rfl⟩) | (go_at_call 27; first | (refine (HS.out _ (HT.out.below HT.out.2 HB6.out.st.hb.drew) HV6.out).mono ?_; rintro e w7 ⟨rfl, hb⟩; have HA8 := Aside0.mk ((HB6.out.drew.nx hb.out).add (.cells #[.int .u64 sv] 61 (0, 0))); have HC8 := Aside0.mk ((HM5.out.drew.nx hb.out).add (.cells #[.int .u64 sv] 61 (0, 0)))) | (refine (HS.out _ (HT.out.below HT.out.2 HA.out.st.hb.drew) (HV6.out.below (below_alloc (Below.refl _ _) (.cells #[.int .u64 0] 61 (0, 0))).drew)).mono ?_; rintro e w7 ⟨rfl, hb⟩; have HA7 := Aside0.mk (HA.out.drew.nx hb.out); have ka := (HA7.out.st.at_ (.head _) 0).trans rfl; have kf := HA7.out.st.free_ (.head _) 0; have HA8 := Aside0.mk (HA7.out.set 0 (.int .u64 sv)); have HC8 := Aside0.mk (((HM5.out.add (.cells #[.int .u64 0] 61 (0, 0))).drew.nx hb.out).set 0 (.int .u64 sv)))))
                all_goals (go_wp2_with fail; go_meet)
                all_goals exact ⟨_, rfl, rfl, ⟨HA8.out⟩, ⟨HC8.out⟩⟩
              case rest =>
                clear HA HB6 hn0 hn1 hn2 kn0 kn1 kn2 HS HWi HM5 HV6 h16
                obtain ⟨g11, rfl, rfl, HM, HC⟩ := hcut
                cases o with
                | none =>
                  have hsome : (none : Option Nat).isSome = false := rfl
                  have k0 := (HM.out.st.at_ (g := g10) (.tail _ (.head _)) 0).trans rfl; have k1 := (HM.out.st.at_ (g := g10) (.tail _ (.head _)) 1).trans rfl; have k2 := (HM.out.st.at_ (g := g10) (.tail _ (.head _)) 2).trans rfl; have k3 := (HM.out.st.at_ (g := g10) (.tail _ (.head _)) 3).trans rfl
                  have hf0 := HM.out.st.free_ (g := g2) (.tail _ (.tail _ (.tail _ (.head _)))) 0; have hf1 := HM.out.st.free_ (g := g2) (.tail _ (.tail _ (.tail _ (.head _)))) 1; have hf2 := HM.out.st.free_ (g := g2) (.tail _ (.tail _ (.tail _ (.head _)))) 2; have hf3 := HM.out.st.free_ (g := g2) (.tail _ (.tail _ (.tail _ (.head _)))) 3; have hc0 := (HM.out.st.at_ (g := g2) (.tail _ (.tail _ (.tail _ (.head _)))) 0).trans rfl; have hc1 := (HM.out.st.at_ (g := g2) (.tail _ (.tail _ (.tail _ (.head _)))) 1).trans rfl; have hc2 := (HM.out.st.at_ (g := g2) (.tail _ (.tail _ (.tail _ (.head _)))) 2).trans rfl; have hc3 := (HM.out.st.at_ (g := g2) (.tail _ (.tail _ (.tail _ (.head _)))) 3).trans rfl
                  go_wp2
                  have HF := (HM.out.perm (perm_4123 _ _ _ _ _)).set4 (.int .i64 2) (.int .i64 root) (.int .i64 2) (.slice none 0 0)
                  have hb0 : (bl 0).length = 0 := by decide
                  have hb1 : bl 0 = [] := by decide
                  exact sol_ret HF rfl rfl rfl ⟨.inr ⟨HSe.out, M, r, 2, none, 0, 0, id, HNM.out, HRt.out, hM40, hrM, HIn.out, Nat.two_pow_pos M, .co id (by rw [HP2.out]; exact HSr.out), by rw [hb0], by rw [hb1]; exact own_nil _ _ _ _⟩, ⟨HF.st.hb⟩⟩
                | some s =>
                  have hsome : (some s : Option Nat).isSome = true := rfl
                  obtain rfl : s = sv := HSv.out
                  have kf2 := HM.out.st.free_ (g := g10) (.tail _ (.head _)) 2; have kc2 := (HM.out.st.at_ (g := g10) (.tail _ (.head _)) 2).trans rfl
                  go_upto_region 18 with fail
                  have HM9 := Aside0.mk ((HM.out.perm (perm_213 _ _ _ _)).set 2 (.int .i64 1))
                  have HC9 := Aside0.mk ((HC.out.perm (.swap _ _ _)).set 2 (.int .i64 1))
                  clear HM HC kf2 kc2
                  generalize wc.setCell ⟨g10, 2, none⟩ (.int .i64 1) = w9 at *
                  have hHM : Aside0 (Mem w [(g10, .cells #[.int .i64 2, .int .i64 root, .int .i64 1, .slice none 0 0] 33 (0, 0)), (g11, .cells #[.int .u64 s] 61 (0, 0)), (g9, .cells #[.int .u64 (netOf M l).all, .slice A1 (netOf M l).by_.length c1, .slice A2 (netOf M l).out.length c2] 64 (0, 0)), (g2, .cells #[.int .i64 0, .int .i64 0, .int .i64 0, .slice none 0 0] 33 (0, 0)), (g, .cells #[.int .i64 N, .slice A l.length c] 24 (0, 0))] w9) := ⟨HM9.out⟩
                  clear HM9
                  have hss := srch_some HOk.out _ _ _ (Nat.pow_lt_pow_right (by omega) hrM) (by rw [HP2.out]; exact HSr.out)
                  have HSs := Aside0.mk hss
                  have hrs : s.testBit r = true := hss.2.1 r (by simp)
                  have HAdm : Aside0 (∀ x, RcA (netOf M l) r (pickS (netOf M l) s) x → nth (netOf M l).by_ x &&& s ≠ 0) := ⟨fun x hx => RcA_hit HOk.out hss.1 hss.2.2.2 hrs hx⟩
                  clear hss hrs
                  have HPick : Aside0 (∀ x, RcA (netOf M l) r (pickS (netOf M l) s) x → ∀ W, Below w9.heap.size w9 W → Calls Tryd.prog 30 (#[.int .i64 (x : Int)] ++ #[.pointer (some ⟨g9, 0, none⟩), .pointer (some ⟨g11, 0, none⟩)]) W fun e w' => e = .returned (.int .i64 ((pickS (netOf M l) s x : Nat) : Int)) ∧ Aside0 (Below W.heap.size W w')) := ⟨fun x hx W hW => by
                    have hx2 := hx.lt HOk.out
                    have HBW := hHM.out.nx hW
                    exact pickS_any M (netOf M l) HOk.out A1 c1 A2 c2 g9 g11 s x HSs.out.1 hx2 (HAdm.out x hx) W (HT.out.below HT.out.2 HBW.st.hb) (h15.out.below (HC9.out.nx hW).st.hb) (HBW.st.blk _ (.tail _ (.tail _ (.head _)))) (HBW.st.blk _ (.tail _ (.head _)))⟩
                  have HAns := Aside0.mk (answers_any M (netOf M l) HOk.out _ r hrM 30 _ (pickS (netOf M l) s) w9 (HT.out.below HT.out.2 hHM.out.st.hb) (HV5.out.below HC9.out.st.hb) e30 HPick.out (fun x hx => bit_lt HOk.out.hN HSs.out.1 (pickS_in HOk.out (HAdm.out x hx)).2))
                  rw [← HRt.out] at HAns
                  clear HPick
                  have hn0 := (hHM.out.st.at_ (g := g9) (.tail _ (.tail _ (.head _))) 0).trans rfl
                  have hn1 := (hHM.out.st.at_ (g := g9) (.tail _ (.tail _ (.head _))) 1).trans rfl
                  have hn2 := (hHM.out.st.at_ (g := g9) (.tail _ (.tail _ (.head _))) 2).trans rfl
                  go_upto_region 19 with (first | (go_at_call 29; refine HAns.out.mono ?_; rintro e w10 ⟨A7, c7, m, rfl, HMm, HO0, hb⟩; have HO : Aside0 (OwnRp w10 w.heap.size (.slice A7 (bl m).length c7) ((bl m).map fun x => rp x (pickS (netOf M l) s x))) := ⟨own_weaken HO0.out hHM.out.st.hb.size⟩; clear HO0; have HM10 := Aside0.mk (hHM.out.nx hb.out); clear hb hn0 hn1 hn2 HAns hHM HC9; have kf3 := HM10.out.st.free_ (g := g10) (.head _) 3; have kc3 := (HM10.out.st.at_ (g := g10) (.head _) 3).trans rfl))
                  have HM11 := Aside0.mk (HM10.out.set 3 (.slice A7 (bl m).length c7))
                  have HO11 := Aside0.mk (HO.out.set (HM10.out.st.blk _ (.head _)) (by decide) 3 (.slice A7 (bl m).length c7))
                  clear HM10 HO kf3 kc3
                  generalize w10.setCell ⟨g10, 3, none⟩ (.slice A7 (bl m).length c7) = w11 at *
                  have HM : Aside0 (Mem w [(g10, .cells #[.int .i64 2, .int .i64 root, .int .i64 1, .slice A7 (bl m).length c7] 33 (0, 0)), (g11, .cells #[.int .u64 s] 61 (0, 0)), (g9, .cells #[.int .u64 (netOf M l).all, .slice A1 (netOf M l).by_.length c1, .slice A2 (netOf M l).out.length c2] 64 (0, 0)), (g2, .cells #[.int .i64 0, .int .i64 0, .int .i64 0, .slice none 0 0] 33 (0, 0)), (g, .cells #[.int .i64 N, .slice A l.length c] 24 (0, 0))] w11) := ⟨HM11.out⟩
                  clear HM11
                  have k0 := (HM.out.st.at_ (g := g10) (.head _) 0).trans rfl; have k1 := (HM.out.st.at_ (g := g10) (.head _) 1).trans rfl; have k2 := (HM.out.st.at_ (g := g10) (.head _) 2).trans rfl; have k3 := (HM.out.st.at_ (g := g10) (.head _) 3).trans rfl
                  have hf0 := HM.out.st.free_ (g := g2) (.tail _ (.tail _ (.tail _ (.head _)))) 0; have hf1 := HM.out.st.free_ (g := g2) (.tail _ (.tail _ (.tail _ (.head _)))) 1; have hf2 := HM.out.st.free_ (g := g2) (.tail _ (.tail _ (.tail _ (.head _)))) 2; have hf3 := HM.out.st.free_ (g := g2) (.tail _ (.tail _ (.tail _ (.head _)))) 3; have hc0 := (HM.out.st.at_ (g := g2) (.tail _ (.tail _ (.tail _ (.head _)))) 0).trans rfl; have hc1 := (HM.out.st.at_ (g := g2) (.tail _ (.tail _ (.tail _ (.head _)))) 1).trans rfl; have hc2 := (HM.out.st.at_ (g := g2) (.tail _ (.tail _ (.tail _ (.head _)))) 2).trans rfl; have hc3 := (HM.out.st.at_ (g := g2) (.tail _ (.tail _ (.tail _ (.head _)))) 3).trans rfl
                  go_wp2
                  have HP := HM.out.perm (perm_4123 _ _ _ _ _)
                  have HF := HP.set4 (.int .i64 2) (.int .i64 root) (.int .i64 1) (.slice A7 (bl m).length c7)
                  have HOF := HO11.out.set4 HP (by decide) (.int .i64 2) (.int .i64 root) (.int .i64 1) (.slice A7 (bl m).length c7)
                  exact sol_ret HF rfl rfl rfl ⟨.inr ⟨HSe.out, M, r, 1, A7, c7, m, pickS (netOf M l) s, HNM.out, HRt.out, hM40, hrM, HIn.out, HMm.out.1, .cp m s (by rw [HP2.out]; exact HSr.out) HMm.out.2, rfl, HOF⟩, ⟨HF.st.hb⟩⟩
    · have e3 : decide (game = 1 ∨ game = 2) = false := decide_eq_false hg
      have HSe : Aside0 (solE N l game root = 4) := ⟨by rw [solE, if_neg (by simp [hv]), if_pos hg]⟩
      clear hv hg
      go_enter Tryd.func10, Tryd.ntmps10
      go_upto_region 1 with (first | ((with_reducible refine gate_dst (N := 3) rfl ?_); refine box_mem (w := w) 3 #[.int .i64 N, .slice A l.length c] 24 rfl rfl ?hr HB.out ?_; (case hr => go_simp; done); clear HB; intro g w1 HB HW) | ((with_reducible refine gate_dst (N := 6) rfl ?_); refine box_mem (w := w) 6 #[.int .i64 0, .int .i64 0, .int .i64 0, .slice none 0 0] 33 rfl rfl ?hr HB.out ?_; (case hr => go_simp; done); clear HB HW; intro g2 w2 HB HW))
      have hg0 := (HB.out.st.at_ (.tail _ (.head _)) 0).trans rfl
      have hg1 := (HB.out.st.at_ (.tail _ (.head _)) 1).trans rfl
      go_wp2_with (first | (go_at_call 23; refine (HVal.out _ (HR.out.below HB.out.st.hb)).mono ?_; rintro e w3 ⟨rfl, hb⟩; have HB3 := Aside0.mk (HB.out.nx hb.out); clear hb HB hg0 hg1; have hf0 := HB3.out.st.free_ (g := g2) (.head _) 0; have hf1 := HB3.out.st.free_ (g := g2) (.head _) 1; have hf2 := HB3.out.st.free_ (g := g2) (.head _) 2; have hf3 := HB3.out.st.free_ (g := g2) (.head _) 3; have hc0 := (HB3.out.st.at_ (g := g2) (.head _) 0).trans rfl; have hc1 := (HB3.out.st.at_ (g := g2) (.head _) 1).trans rfl; have hc2 := (HB3.out.st.at_ (g := g2) (.head _) 2).trans rfl; have hc3 := (HB3.out.st.at_ (g := g2) (.head _) 3).trans rfl; have hg0 := (HB3.out.st.at_ (g := g) (.tail _ (.head _)) 0).trans rfl; have hg1 := (HB3.out.st.at_ (g := g) (.tail _ (.head _)) 1).trans rfl) | (go_at_call 24; refine (HEx.out _).mono ?_; rintro e w' ⟨rfl, rfl⟩))
      have HF := HB3.out.set4 (.int .i64 0) (.int .i64 0) (.int .i64 0) (.slice none 0 0)
      exact sol_ret HF rfl rfl rfl ⟨.inl ⟨by rw [HSe.out]; exact (by decide), by rw [HSe.out]⟩, ⟨HF.st.hb⟩⟩
  · have e1 : (valE N l == 0) = false := by rw [beq_eq_false_iff_ne]; exact hv
    have e2 : (valE N l != 0) = true := by rw [bne_iff_ne]; exact hv
    have HSe : Aside0 (solE N l game root = valE N l) := ⟨by rw [solE, if_pos hv]⟩
    have HV := Aside0.mk hv
    clear hv
    go_enter Tryd.func10, Tryd.ntmps10
    go_upto_region 1 with (first | ((with_reducible refine gate_dst (N := 3) rfl ?_); refine box_mem (w := w) 3 #[.int .i64 N, .slice A l.length c] 24 rfl rfl ?hr HB.out ?_; (case hr => go_simp; done); clear HB; intro g w1 HB HW) | ((with_reducible refine gate_dst (N := 6) rfl ?_); refine box_mem (w := w) 6 #[.int .i64 0, .int .i64 0, .int .i64 0, .slice none 0 0] 33 rfl rfl ?hr HB.out ?_; (case hr => go_simp; done); clear HB HW; intro g2 w2 HB HW))
    have hg0 := (HB.out.st.at_ (.tail _ (.head _)) 0).trans rfl
    have hg1 := (HB.out.st.at_ (.tail _ (.head _)) 1).trans rfl
    go_wp2_with (first | (go_at_call 23; refine (HVal.out _ (HR.out.below HB.out.st.hb)).mono ?_; rintro e w3 ⟨rfl, hb⟩; have HB3 := Aside0.mk (HB.out.nx hb.out); clear hb HB hg0 hg1; have hf0 := HB3.out.st.free_ (g := g2) (.head _) 0; have hf1 := HB3.out.st.free_ (g := g2) (.head _) 1; have hf2 := HB3.out.st.free_ (g := g2) (.head _) 2; have hf3 := HB3.out.st.free_ (g := g2) (.head _) 3; have hc0 := (HB3.out.st.at_ (g := g2) (.head _) 0).trans rfl; have hc1 := (HB3.out.st.at_ (g := g2) (.head _) 1).trans rfl; have hc2 := (HB3.out.st.at_ (g := g2) (.head _) 2).trans rfl; have hc3 := (HB3.out.st.at_ (g := g2) (.head _) 3).trans rfl; have hg0 := (HB3.out.st.at_ (g := g) (.tail _ (.head _)) 0).trans rfl; have hg1 := (HB3.out.st.at_ (g := g) (.tail _ (.head _)) 1).trans rfl) | (go_at_call 24; refine (HEx.out _).mono ?_; rintro e w' ⟨rfl, rfl⟩))
    have HF := HB3.out.set4 (.int .i64 0) (.int .i64 0) (.int .i64 0) (.slice none 0 0)
    exact sol_ret HF rfl rfl rfl ⟨.inl ⟨by rw [HSe.out]; exact HV.out, by rw [HSe.out]⟩, ⟨HF.st.hb⟩⟩
end Go.Proofs.YtgboplcjafmliaaDoor.G
