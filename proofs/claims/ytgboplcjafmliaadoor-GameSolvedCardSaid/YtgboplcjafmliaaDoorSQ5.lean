/- The contract of game.Solve, and what it computes. -/
import Derived.Test.YtgboplcjafmliaaDoorSQ4
/- The contract of game.Solve, and what it computes. -/
namespace Go.Proofs.YtgboplcjafmliaaDoor.G
open Go.RowKit Go.Proofs.YtgboplcjafmliaaDoorW.PrintWords Go.Proofs.YtgboplcjafmliaaDoorW.PrintLast Go.Proofs.YtgboplcjafmliaaDoorW.PrintMore
open Go.Proofs.YtgboplcjafmliaaDoor.PAll
set_option linter.unusedVariables false
set_option linter.unusedSimpArgs false

theorem srch_some {N : Nat} {n : NetD} (hok : n.Ok N) : ∀ (f s t : Nat), s < 2 ^ N → srch n f s = some t → t < 2 ^ N ∧ (∀ i, s.testBit i = true → t.testBit i = true) ∧ freeB n t = true ∧ openM n t = 0
  | 0, s, t, hs, h => by cases h
  | f + 1, s, t, hs, h => by
    rw [srch] at h
    split at h
    · rename_i hf
      split at h
      · rename_i h0
        injection h with h
        subst h
        exact ⟨hs, fun i hi => hi, hf, (bl_nil _ (p64 hok.hN (openM_lt hok s))).1 (List.length_eq_zero_iff.1 h0)⟩
      · obtain ⟨x, hx, h2⟩ := List.exists_of_findSome?_eq_some h
        have hxN := bl_in hok.hN (hok.lb _) hx
        obtain ⟨h3, h4, h5⟩ := srch_some hok f _ t (Nat.or_lt_two_pow hs (Nat.pow_lt_pow_right (by omega) hxN)) h2
        exact ⟨h3, fun i hi => h4 i (by rw [Nat.testBit_or, hi]; rfl), h5⟩
    · cases h
/-- A set that attacks its attackers. -/
theorem open_hits {N : Nat} {n : NetD} (hok : n.Ok N) {t : Nat} (ht : t < 2 ^ N) (h : openM n t = 0) {a x : Nat} (ha : t.testBit a = true) (hx : (nth n.by_ a).testBit x = true) : nth n.by_ x &&& t ≠ 0 := by
  have h64 := p64 hok.hN (uni_lt _ N hok.lb (bl t) 0 (Nat.two_pow_pos N))
  have h65 := p64 hok.hN (uni_lt _ N hok.lo (bl t) 0 (Nat.two_pow_pos N))
  have h1 : (openM n t).testBit x = false := by rw [h]; simp
  unfold openM at h1
  rw [sdiff_bit _ _ _ h64 h65, uni_bit, uni_bit] at h1
  have h2 : ((bl t).any fun j => (nth n.by_ j).testBit x) = true := List.any_eq_true.2 ⟨a, (mem_bl _ _ (p64 hok.hN ht)).2 ha, hx⟩
  rw [h2] at h1
  simp only [Nat.zero_testBit, Bool.false_or, Bool.or_true, Bool.true_and, Bool.not_eq_false'] at h1
  obtain ⟨b, hb, hbx⟩ := List.any_eq_true.1 h1
  rw [← hok.co] at hbx
  intro h3
  have : (nth n.by_ x &&& t).testBit b = true := by rw [Nat.testBit_and, hbx, (mem_bl _ _ (p64 hok.hN ht)).1 hb]; rfl
  rw [h3] at this
  simp at this
def pickS (n : NetD) (s x : Nat) : Nat := low (nth n.by_ x &&& s)
theorem pickS_in {N : Nat} {n : NetD} (hok : n.Ok N) {s x : Nat} (h : nth n.by_ x &&& s ≠ 0) : (nth n.by_ x).testBit (pickS n s x) = true ∧ s.testBit (pickS n s x) = true := by
  have h1 := low_mem h (and_lt _ _ (p64 hok.hN (hok.lb x)))
  rw [Nat.testBit_and, Bool.and_eq_true] at h1
  exact h1
theorem Rc_in {N : Nat} {n : NetD} (hok : n.Ok N) {t : Nat} (ht : t < 2 ^ N) (h : openM n t = 0) {root : Nat} (hr : t.testBit root = true) {a : Nat} (ha : Rc n root (pickS n t) a) : t.testBit a = true := by
  induction ha with
  | root => exact hr
  | step _ hx ih => exact (pickS_in hok (open_hits hok ht h ih hx)).2
theorem RcA_hit {N : Nat} {n : NetD} (hok : n.Ok N) {t : Nat} (ht : t < 2 ^ N) (h : openM n t = 0) {root : Nat} (hr : t.testBit root = true) {x : Nat} (hx : RcA n root (pickS n t) x) : nth n.by_ x &&& t ≠ 0 := by
  obtain ⟨a, ha, hax⟩ := hx
  exact open_hits hok ht h (Rc_in hok ht h hr ha) hax

/-- The error of Solve. -/
def solE (N : Int) (l : List S54) (game root : Int) : Int := if valE N l ≠ 0 then valE N l else if ¬(game = 1 ∨ game = 2) then 4 else if root < 0 ∨ N ≤ root then 1 else if game = 2 ∧ 10 < N then 2 else 0
/-- What a strategy of Solve is: the winner, the nodes that are replied to, the replies. -/
inductive SolP (N : Nat) (n : NetD) (root : Nat) : Int → Int → Nat → (Nat → Nat) → Prop
  | gp (m : Nat) : (gnd N n).testBit root = true → (∀ x, m.testBit x = true ↔ RcA n root (pickG n (grd n (N + 1) 0)) x) → SolP N n root 1 1 m (pickG n (grd n (N + 1) 0))
  | go (m : Nat) : (gnd N n).testBit root = false → (∀ x, m.testBit x = true ↔ Rco n root (qO N n) x) → SolP N n root 1 2 m (qO N n)
  | cp (m s : Nat) : srch n (N + 1) (2 ^ root) = some s → (∀ x, m.testBit x = true ↔ RcA n root (pickS n s) x) → SolP N n root 2 1 m (pickS n s)
  | co (pk : Nat → Nat) : srch n (N + 1) (2 ^ root) = none → SolP N n root 2 2 0 pk
def SolV (N : Int) (l : List S54) (game root : Int) (base : Nat) (e : Ending) (w' : World) : Prop :=
  (solE N l game root ≠ 0 ∧ e = .returned (.tuple #[.agg #[.int .i64 0, .int .i64 0, .int .i64 0, .slice none 0 0], .int .i64 (solE N l game root)])) ∨
  (solE N l game root = 0 ∧ ∃ (M r : Nat) (who : Int) (A : Option Addr) (c m : Nat) (pk : Nat → Nat), N = M ∧ root = r ∧ M ≤ 40 ∧ r < M ∧ InR M l ∧ m < 2 ^ M ∧ SolP M (netOf M l) r game who m pk ∧ e = .returned (.tuple #[.agg #[.int .i64 game, .int .i64 root, .int .i64 who, .slice A (bl m).length c], .int .i64 0]) ∧ OwnRp w' base (.slice A (bl m).length c) ((bl m).map fun x => rp x (pk x)))
theorem grdV_sol {N : Nat} {n : NetD} {root base : Nat} {e : Ending} {w' : World} (h : grdV N n root base e w') : ∃ (A : Option Addr) (c m : Nat) (who : Int) (pk : Nat → Nat), Aside0 (m < 2 ^ N) ∧ Aside0 (SolP N n root 1 who m pk) ∧ e = .returned (.tuple #[.int .i64 who, .slice A (bl m).length c]) ∧ Aside0 (OwnRp w' base (.slice A (bl m).length c) ((bl m).map fun x => rp x (pk x))) := by
  obtain ⟨A, c, m, hm, ⟨hb, he, hx, ho⟩ | ⟨hb, he, hx, ho⟩⟩ := h
  · exact ⟨A, c, m, 1, _, hm, ⟨.gp m hb hx.out⟩, he, ho⟩
  · exact ⟨A, c, m, 2, _, hm, ⟨.go m hb hx.out⟩, he, ho⟩
theorem grown_set (w : World) (a : Addr) (u : Value) : w.grownBy (w.setCell a u) (some a.block) :=
  ⟨rfl, rfl, rfl, by simp, fun k _ hk => heap_setCell_other w a k u (fun e => hk (by rw [e]))⟩
theorem OwnRp.set {x : World} {base : Nat} {v : Value} {rs : List Rp} (h : OwnRp x base v rs) {g : Nat} {cs : Array Value} {t : TypeId} (hb : x.heap[g]? = some (.cells cs t (0, 0))) (ht : t ≠ 77) (i : Nat) (u : Value) : OwnRp (x.setCell ⟨g, i, none⟩ u) base v rs := by
  have hne := own_ne h hb (Ne.symm ht)
  exact own_other h (grown_set x ⟨g, i, none⟩ u) (.inr (Ne.symm hne))
theorem cov_le (N s : Nat) : cov N s ≤ N := by unfold cov; have := List.countP_le_length (p := fun i => !s.testBit i) (l := List.range N); simpa using this
theorem Mem.set4 {w x : World} {g : Nat} {a b c d : Value} {t : TypeId} {bs : List (Nat × Obj)} (h : Mem w ((g, .cells #[a, b, c, d] t (0, 0)) :: bs) x) (a' b' c' d' : Value) : Mem w ((g, .cells #[a', b', c', d'] t (0, 0)) :: bs) ((((x.setCell ⟨g, 0, none⟩ a').setCell ⟨g, 1, none⟩ b').setCell ⟨g, 2, none⟩ c').setCell ⟨g, 3, none⟩ d') :=
  (((h.set 0 a').set 1 b').set 2 c').set 3 d'
theorem OwnRp.set4 {w x : World} {base : Nat} {v : Value} {rs : List Rp} (ho : OwnRp x base v rs) {g : Nat} {a b c d : Value} {t : TypeId} {bs : List (Nat × Obj)} (h : Mem w ((g, .cells #[a, b, c, d] t (0, 0)) :: bs) x) (ht : t ≠ 77) (a' b' c' d' : Value) : OwnRp ((((x.setCell ⟨g, 0, none⟩ a').setCell ⟨g, 1, none⟩ b').setCell ⟨g, 2, none⟩ c').setCell ⟨g, 3, none⟩ d') base v rs := by
  have h1 := h.set 0 a'
  have h2 := h1.set 1 b'
  have h3 := h2.set 2 c'
  exact (((ho.set (h.st.blk _ (.head _)) ht 0 a').set (h1.st.blk _ (.head _)) ht 1 b').set (h2.st.blk _ (.head _)) ht 2 c').set (h3.st.blk _ (.head _)) ht 3 d'
theorem sol_ret {w W : World} {g : Nat} {a b c d : Value} {bs : List (Nat × Obj)} {R : Ending → World → Prop} {act : Act} {x : Int} (h : Mem w ((g, .cells #[a, b, c, d] 33 (0, 0)) :: bs) W)
    (h6 : act.tmps.getD 6 undef = .pointer (some ⟨g, 0, none⟩)) (h7 : act.tmps.getD 7 undef = .int .i64 x) (hd : act.defers = []) (hR : R (.returned (.tuple #[.agg #[a, b, c, d], .int .i64 x])) W) : bodyPost Tryd.prog Tryd.f10 R .ret act W := by
  refine bodyPost_ret (results_ct (fn := Tryd.f10) (p := 6) (u := 7) (ty := 33) rfl _ _ g 33 #[a, b, c, d] (0, 0) _ h6 (h.st.blk _ (.head _)) Tryd.underlying33 rfl (by kernel_rfl)) hd ?_
  rw [h7]; exact hR

set_option maxHeartbeats 1000000 in
set_option maxRecDepth 100000 in
theorem solve_any (N : Int) (l : List S54) (hl : l.length < 2 ^ 44) (A : Option Addr) (c : Nat) (game root : Int) (w : World) (hT : TabW w) (hr : RdP w A c l) :
    Calls Tryd.prog 10 #[.agg #[.int .i64 N, .slice A l.length c], .int .i64 game, .int .i64 root] w fun e w' => SolV N l game root w.heap.size e w' ∧ Aside0 (Below w.heap.size w w') := by
  have HT := Aside0.mk hT
  have HR := Aside0.mk hr
  clear hT hr
  have HB := Aside0.mk (Mem.refl w)
  have HVal := Aside0.mk (fun W h => validate_any N l hl A c W h)
  have HEx := Aside0.mk (fun W => exists_any game W)
  by_cases hv : valE N l = 0
  · have e1 : (valE N l == 0) = true := by rw [beq_iff_eq]; exact hv
    have e2 : (valE N l != 0) = false := by rw [bne_eq_false_iff_eq]; exact hv
    obtain ⟨M, hNM, hM40, hin⟩ := valE_ok hv
    have HNM := Aside0.mk hNM
    have HIn := Aside0.mk hin
    clear hNM hin
    by_cases hg : game = 1 ∨ game = 2
    · have e3 : decide (game = 1 ∨ game = 2) = true := decide_eq_true hg
      by_cases hr0 : root < 0
      · have e4 : decide (root < 0) = true := decide_eq_true hr0
        have HSe : Aside0 (solE N l game root = 1) := ⟨by rw [solE, if_neg (by simp [hv]), if_neg (by simp [hg]), if_pos (.inl hr0)]⟩
        clear hv hg hr0
        go_enter Tryd.func10, Tryd.ntmps10
        go_upto_region 1 with (first | ((with_reducible refine gate_dst (N := 3) rfl ?_); refine box_mem (w := w) 3 #[.int .i64 N, .slice A l.length c] 24 rfl rfl ?hr HB.out ?_; (case hr => go_simp; done); clear HB; intro g w1 HB HW) | ((with_reducible refine gate_dst (N := 6) rfl ?_); refine box_mem (w := w) 6 #[.int .i64 0, .int .i64 0, .int .i64 0, .slice none 0 0] 33 rfl rfl ?hr HB.out ?_; (case hr => go_simp; done); clear HB HW; intro g2 w2 HB HW))
        have hg0 := (HB.out.st.at_ (.tail _ (.head _)) 0).trans rfl
        have hg1 := (HB.out.st.at_ (.tail _ (.head _)) 1).trans rfl
        go_wp2_with (first | (go_at_call 23; refine (HVal.out _ (HR.out.below HB.out.st.hb)).mono ?_; rintro e w3 ⟨rfl, hb⟩; have HB3 := Aside0.mk (HB.out.nx hb.out); clear hb HB hg0 hg1; have hf0 := HB3.out.st.free_ (g := g2) (.head _) 0; have hf1 := HB3.out.st.free_ (g := g2) (.head _) 1; have hf2 := HB3.out.st.free_ (g := g2) (.head _) 2; have hf3 := HB3.out.st.free_ (g := g2) (.head _) 3; have hc0 := (HB3.out.st.at_ (g := g2) (.head _) 0).trans rfl; have hc1 := (HB3.out.st.at_ (g := g2) (.head _) 1).trans rfl; have hc2 := (HB3.out.st.at_ (g := g2) (.head _) 2).trans rfl; have hc3 := (HB3.out.st.at_ (g := g2) (.head _) 3).trans rfl; have hg0 := (HB3.out.st.at_ (g := g) (.tail _ (.head _)) 0).trans rfl; have hg1 := (HB3.out.st.at_ (g := g) (.tail _ (.head _)) 1).trans rfl) | (go_at_call 24; refine (HEx.out _).mono ?_; rintro e w' ⟨rfl, rfl⟩))
        have HF := HB3.out.set4 (.int .i64 0) (.int .i64 0) (.int .i64 0) (.slice none 0 0)
        exact sol_ret HF rfl rfl rfl ⟨.inl ⟨by rw [HSe.out]; exact (by decide), by rw [HSe.out]⟩, ⟨HF.st.hb⟩⟩
      · have e4 : decide (root < 0) = false := decide_eq_false hr0
        by_cases hr1 : N ≤ root
        · have e5 : decide (N ≤ root) = true := decide_eq_true hr1
          have HSe : Aside0 (solE N l game root = 1) := ⟨by rw [solE, if_neg (by simp [hv]), if_neg (by simp [hg]), if_pos (.inr hr1)]⟩
          clear hv hg hr0 hr1
          go_enter Tryd.func10, Tryd.ntmps10
          go_upto_region 1 with (first | ((with_reducible refine gate_dst (N := 3) rfl ?_); refine box_mem (w := w) 3 #[.int .i64 N, .slice A l.length c] 24 rfl rfl ?hr HB.out ?_; (case hr => go_simp; done); clear HB; intro g w1 HB HW) | ((with_reducible refine gate_dst (N := 6) rfl ?_); refine box_mem (w := w) 6 #[.int .i64 0, .int .i64 0, .int .i64 0, .slice none 0 0] 33 rfl rfl ?hr HB.out ?_; (case hr => go_simp; done); clear HB HW; intro g2 w2 HB HW))
          have hg0 := (HB.out.st.at_ (.tail _ (.head _)) 0).trans rfl
          have hg1 := (HB.out.st.at_ (.tail _ (.head _)) 1).trans rfl
          go_wp2_with (first | (go_at_call 23; refine (HVal.out _ (HR.out.below HB.out.st.hb)).mono ?_; rintro e w3 ⟨rfl, hb⟩; have HB3 := Aside0.mk (HB.out.nx hb.out); clear hb HB hg0 hg1; have hf0 := HB3.out.st.free_ (g := g2) (.head _) 0; have hf1 := HB3.out.st.free_ (g := g2) (.head _) 1; have hf2 := HB3.out.st.free_ (g := g2) (.head _) 2; have hf3 := HB3.out.st.free_ (g := g2) (.head _) 3; have hc0 := (HB3.out.st.at_ (g := g2) (.head _) 0).trans rfl; have hc1 := (HB3.out.st.at_ (g := g2) (.head _) 1).trans rfl; have hc2 := (HB3.out.st.at_ (g := g2) (.head _) 2).trans rfl; have hc3 := (HB3.out.st.at_ (g := g2) (.head _) 3).trans rfl; have hg0 := (HB3.out.st.at_ (g := g) (.tail _ (.head _)) 0).trans rfl; have hg1 := (HB3.out.st.at_ (g := g) (.tail _ (.head _)) 1).trans rfl) | (go_at_call 24; refine (HEx.out _).mono ?_; rintro e w' ⟨rfl, rfl⟩))
          have HF := HB3.out.set4 (.int .i64 0) (.int .i64 0) (.int .i64 0) (.slice none 0 0)
          exact sol_ret HF rfl rfl rfl ⟨.inl ⟨by rw [HSe.out]; exact (by decide), by rw [HSe.out]⟩, ⟨HF.st.hb⟩⟩
        · have e5 : decide (N ≤ root) = false := decide_eq_false hr1
          obtain ⟨r, hrr⟩ := Int.eq_ofNat_of_zero_le (Int.not_lt.1 hr0)
          have hrM : r < M := by have := HNM.out; omega
          have HRt := Aside0.mk hrr
          have HNew := Aside0.mk (fun W h => new_any M hM40 l hl HIn.out A c W h)
          rw [← HNM.out] at HNew
          have HOk := Aside0.mk (netOf_ok hM40 HIn.out)
          clear hrr
          rcases hg with rfl | rfl
          · have HSe : Aside0 (solE N l 1 root = 0) := ⟨by rw [solE, if_neg (by simp [hv]), if_neg (by simp), if_neg (by intro h; rcases h with h | h; exact hr0 h; exact hr1 h), if_neg (by simp)]⟩
            clear hv hr0 hr1
            go_enter Tryd.func10, Tryd.ntmps10
            go_upto_region 1 with (first | ((with_reducible refine gate_dst (N := 3) rfl ?_); refine box_mem (w := w) 3 #[.int .i64 N, .slice A l.length c] 24 rfl rfl ?hr HB.out ?_; (case hr => go_simp; done); clear HB; intro g w1 HB HW) | ((with_reducible refine gate_dst (N := 6) rfl ?_); refine box_mem (w := w) 6 #[.int .i64 0, .int .i64 0, .int .i64 0, .slice none 0 0] 33 rfl rfl ?hr HB.out ?_; (case hr => go_simp; done); clear HB HW; intro g2 w2 HB HW))
            have hg0 := (HB.out.st.at_ (.tail _ (.head _)) 0).trans rfl
            have hg1 := (HB.out.st.at_ (.tail _ (.head _)) 1).trans rfl
            go_upto_region 11 with (first | (go_at_call 23; refine (HVal.out _ (HR.out.below HB.out.st.hb)).mono ?_; rintro e w3 ⟨rfl, hb⟩; have HB3 := Aside0.mk (HB.out.nx hb.out); clear hb HB hg0 hg1; have hf0 := HB3.out.st.free_ (g := g2) (.head _) 0; have hf1 := HB3.out.st.free_ (g := g2) (.head _) 1; have hf2 := HB3.out.st.free_ (g := g2) (.head _) 2; have hf3 := HB3.out.st.free_ (g := g2) (.head _) 3; have hc0 := (HB3.out.st.at_ (g := g2) (.head _) 0).trans rfl; have hc1 := (HB3.out.st.at_ (g := g2) (.head _) 1).trans rfl; have hc2 := (HB3.out.st.at_ (g := g2) (.head _) 2).trans rfl; have hc3 := (HB3.out.st.at_ (g := g2) (.head _) 3).trans rfl; have hg0 := (HB3.out.st.at_ (g := g) (.tail _ (.head _)) 0).trans rfl; have hg1 := (HB3.out.st.at_ (g := g) (.tail _ (.head _)) 1).trans rfl) | (go_at_call 24; refine (HEx.out _).mono ?_; rintro e w' ⟨rfl, rfl⟩) | (go_at_call 25; refine (HNew.out _ (HR.out.below HB3.out.st.hb)).mono ?_; rintro e w4 ⟨v, rfl, HV, hb⟩; obtain ⟨A1, c1, A2, c2, rfl, h1, h2⟩ := HV.out; have HB4 := Aside0.mk (HB3.out.nx hb.out); clear hb hf0 hf1 hf2 hf3 hc0 hc1 hc2 hc3 hg0 hg1))
            have HB5 : Aside0 (Mem w _ (w4.alloc (.cells #[.int .u64 (netOf M l).all, .slice A1 (netOf M l).by_.length c1, .slice A2 (netOf M l).out.length c2] 64))) := ⟨HB4.out.add (.cells #[.int .u64 (netOf M l).all, .slice A1 (netOf M l).by_.length c1, .slice A2 (netOf M l).out.length c2] 64 (0, 0))⟩
            have HV5 := Aside0.mk (HV.out.below (below_alloc (Below.refl _ _) (.cells #[.int .u64 (netOf M l).all, .slice A1 (netOf M l).by_.length c1, .slice A2 (netOf M l).out.length c2] 64 (0, 0))))
            have h15 := Aside0.mk (h1.below (below_alloc (Below.refl _ _) (.cells #[.int .u64 (netOf M l).all, .slice A1 (netOf M l).by_.length c1, .slice A2 (netOf M l).out.length c2] 64 (0, 0))))
            clear HB4 HV h1 h2 HB3
            change Code.wp Tryd.prog _ _ _ (w4.alloc (.cells #[.int .u64 (netOf M l).all, .slice A1 (netOf M l).by_.length c1, .slice A2 (netOf M l).out.length c2] 64))
            generalize w4.heap.size = g9 at *
            generalize w4.alloc (.cells #[.int .u64 (netOf M l).all, .slice A1 (netOf M l).by_.length c1, .slice A2 (netOf M l).out.length c2] 64) = w5 at *
            go_upto_region 12 with fail
            have HB6 := Aside0.mk (HB5.out.add (.cells #[.int .i64 1, .int .i64 root, .int .i64 2, .slice none 0 0] 33 (0, 0)))
            have HV6 := Aside0.mk (HV5.out.below (below_alloc (Below.refl _ _) (.cells #[.int .i64 1, .int .i64 root, .int .i64 2, .slice none 0 0] 33 (0, 0))))
            clear HB5 HV5 h15
            change Code.wp Tryd.prog _ _ _ (w5.alloc (.cells #[.int .i64 1, .int .i64 root, .int .i64 2, .slice none 0 0] 33 (0, 0)))
            generalize w5.heap.size = g10 at *
            generalize w5.alloc (.cells #[.int .i64 1, .int .i64 root, .int .i64 2, .slice none 0 0] 33 (0, 0)) = w6 at *
            have hn0 := (HB6.out.st.at_ (g := g9) (.tail _ (.head _)) 0).trans rfl
            have hn1 := (HB6.out.st.at_ (g := g9) (.tail _ (.head _)) 1).trans rfl
            have hn2 := (HB6.out.st.at_ (g := g9) (.tail _ (.head _)) 2).trans rfl
            have HGr := Aside0.mk (grounded_any M (netOf M l) HOk.out _ r hrM _ (HT.out.below HT.out.2 HB6.out.st.hb) HV6.out)
            rw [← HRt.out] at HGr
            go_upto_region 14 with (first | (go_at_call 26; refine HGr.out.mono ?_; rintro e w7 ⟨HG, hb⟩; obtain ⟨A7, c7, m, who, pk, hm, HSp, rfl, HO0⟩ := grdV_sol HG; have HO : Aside0 (OwnRp w7 w.heap.size (.slice A7 (bl m).length c7) ((bl m).map fun x => rp x (pk x))) := ⟨own_weaken HO0.out HB6.out.st.hb.size⟩; clear HO0; have HB7 := Aside0.mk (HB6.out.nx hb.out); clear HB6 HG hb hn0 hn1 hn2; have hf0 := HB7.out.st.free_ (g := g10) (.head _) 0; have hf1 := HB7.out.st.free_ (g := g10) (.head _) 1; have hf2 := HB7.out.st.free_ (g := g10) (.head _) 2; have hf3 := HB7.out.st.free_ (g := g10) (.head _) 3; have hc0 := (HB7.out.st.at_ (g := g10) (.head _) 0).trans rfl; have hc1 := (HB7.out.st.at_ (g := g10) (.head _) 1).trans rfl; have hc2 := (HB7.out.st.at_ (g := g10) (.head _) 2).trans rfl; have hc3 := (HB7.out.st.at_ (g := g10) (.head _) 3).trans rfl))
            have HB8 := Aside0.mk ((HB7.out.set 2 (.int .i64 who)).set 3 (.slice A7 (bl m).length c7))
            have HO8 := Aside0.mk ((HO.out.set (HB7.out.st.blk _ (.head _)) (by decide) 2 (.int .i64 who)).set ((HB7.out.set 2 (.int .i64 who)).st.blk _ (.head _)) (by decide) 3 (.slice A7 (bl m).length c7))
            clear hf0 hf1 hf2 hf3 hc0 hc1 hc2 hc3 HB7 HO
            generalize (w7.setCell ⟨g10, 2, none⟩ (.int .i64 who)).setCell ⟨g10, 3, none⟩ (.slice A7 (bl m).length c7) = w8 at *
            have HB9 : Aside0 (Mem w [(g10, .cells #[.int .i64 1, .int .i64 root, .int .i64 who, .slice A7 (bl m).length c7] 33 (0, 0)), _, _, _] w8) := ⟨HB8.out⟩
            clear HB8
            have k0 := (HB9.out.st.at_ (g := g10) (.head _) 0).trans rfl; have k1 := (HB9.out.st.at_ (g := g10) (.head _) 1).trans rfl; have k2 := (HB9.out.st.at_ (g := g10) (.head _) 2).trans rfl; have k3 := (HB9.out.st.at_ (g := g10) (.head _) 3).trans rfl
            have hf0 := HB9.out.st.free_ (g := g2) (.tail _ (.tail _ (.head _))) 0; have hf1 := HB9.out.st.free_ (g := g2) (.tail _ (.tail _ (.head _))) 1; have hf2 := HB9.out.st.free_ (g := g2) (.tail _ (.tail _ (.head _))) 2; have hf3 := HB9.out.st.free_ (g := g2) (.tail _ (.tail _ (.head _))) 3; have hc0 := (HB9.out.st.at_ (g := g2) (.tail _ (.tail _ (.head _))) 0).trans rfl; have hc1 := (HB9.out.st.at_ (g := g2) (.tail _ (.tail _ (.head _))) 1).trans rfl; have hc2 := (HB9.out.st.at_ (g := g2) (.tail _ (.tail _ (.head _))) 2).trans rfl; have hc3 := (HB9.out.st.at_ (g := g2) (.tail _ (.tail _ (.head _))) 3).trans rfl
            go_wp2
            have HF := (HB9.out.perm (perm_312 _ _ _ _)).set4 (.int .i64 1) (.int .i64 root) (.int .i64 who) (.slice A7 (bl m).length c7)
            have HOF := HO8.out.set4 (HB9.out.perm (perm_312 _ _ _ _)) (by decide) (.int .i64 1) (.int .i64 root) (.int .i64 who) (.slice A7 (bl m).length c7)
            exact sol_ret HF rfl rfl rfl ⟨.inr ⟨HSe.out, M, r, who, A7, c7, m, pk, HNM.out, HRt.out, hM40, hrM, HIn.out, hm.out, HSp.out, rfl, HOF⟩, ⟨HF.st.hb⟩⟩
          · by_cases hbig : 10 < N
            · have e6 : decide (10 < N) = true := decide_eq_true hbig
              have HSe : Aside0 (solE N l 2 root = 2) := ⟨by rw [solE, if_neg (by simp [hv]), if_neg (by simp), if_neg (by intro h; rcases h with h | h; exact hr0 h; exact hr1 h), if_pos ⟨rfl, hbig⟩]⟩
              clear hv hr0 hr1 hbig
              go_enter Tryd.func10, Tryd.ntmps10
              go_upto_region 1 with (first | ((with_reducible refine gate_dst (N := 3) rfl ?_); refine box_mem (w := w) 3 #[.int .i64 N, .slice A l.length c] 24 rfl rfl ?hr HB.out ?_; (case hr => go_simp; done); clear HB; intro g w1 HB HW) | ((with_reducible refine gate_dst (N := 6) rfl ?_); refine box_mem (w := w) 6 #[.int .i64 0, .int .i64 0, .int .i64 0, .slice none 0 0] 33 rfl rfl ?hr HB.out ?_; (case hr => go_simp; done); clear HB HW; intro g2 w2 HB HW))
              have hg0 := (HB.out.st.at_ (.tail _ (.head _)) 0).trans rfl
              have hg1 := (HB.out.st.at_ (.tail _ (.head _)) 1).trans rfl
              go_wp2_with (first | (go_at_call 23; refine (HVal.out _ (HR.out.below HB.out.st.hb)).mono ?_; rintro e w3 ⟨rfl, hb⟩; have HB3 := Aside0.mk (HB.out.nx hb.out); clear hb HB hg0 hg1; have hf0 := HB3.out.st.free_ (g := g2) (.head _) 0; have hf1 := HB3.out.st.free_ (g := g2) (.head _) 1; have hf2 := HB3.out.st.free_ (g := g2) (.head _) 2; have hf3 := HB3.out.st.free_ (g := g2) (.head _) 3; have hc0 := (HB3.out.st.at_ (g := g2) (.head _) 0).trans rfl; have hc1 := (HB3.out.st.at_ (g := g2) (.head _) 1).trans rfl; have hc2 := (HB3.out.st.at_ (g := g2) (.head _) 2).trans rfl; have hc3 := (HB3.out.st.at_ (g := g2) (.head _) 3).trans rfl; have hg0 := (HB3.out.st.at_ (g := g) (.tail _ (.head _)) 0).trans rfl; have hg1 := (HB3.out.st.at_ (g := g) (.tail _ (.head _)) 1).trans rfl) | (go_at_call 24; refine (HEx.out _).mono ?_; rintro e w' ⟨rfl, rfl⟩))
              have HF := HB3.out.set4 (.int .i64 0) (.int .i64 0) (.int .i64 0) (.slice none 0 0)
              exact sol_ret HF rfl rfl rfl ⟨.inl ⟨by rw [HSe.out]; exact (by decide), by rw [HSe.out]⟩, ⟨HF.st.hb⟩⟩
            · have e6 : decide (10 < N) = false := decide_eq_false hbig
              have HSe : Aside0 (solE N l 2 root = 0) := ⟨by rw [solE, if_neg (by simp [hv]), if_neg (by simp), if_neg (by intro h; rcases h with h | h; exact hr0 h; exact hr1 h), if_neg (by intro h; exact hbig h.2)]⟩
              clear hv hr0 hr1 hbig
              go_enter Tryd.func10, Tryd.ntmps10
              go_upto_region 1 with (first | ((with_reducible refine gate_dst (N := 3) rfl ?_); refine box_mem (w := w) 3 #[.int .i64 N, .slice A l.length c] 24 rfl rfl ?hr HB.out ?_; (case hr => go_simp; done); clear HB; intro g w1 HB HW) | ((with_reducible refine gate_dst (N := 6) rfl ?_); refine box_mem (w := w) 6 #[.int .i64 0, .int .i64 0, .int .i64 0, .slice none 0 0] 33 rfl rfl ?hr HB.out ?_; (case hr => go_simp; done); clear HB HW; intro g2 w2 HB HW))
              have hg0 := (HB.out.st.at_ (.tail _ (.head _)) 0).trans rfl
              have hg1 := (HB.out.st.at_ (.tail _ (.head _)) 1).trans rfl
              go_upto_region 11 with (first | (go_at_call 23; refine (HVal.out _ (HR.out.below HB.out.st.hb)).mono ?_; rintro e w3 ⟨rfl, hb⟩; have HB3 := Aside0.mk (HB.out.nx hb.out); clear hb HB hg0 hg1; have hf0 := HB3.out.st.free_ (g := g2) (.head _) 0; have hf1 := HB3.out.st.free_ (g := g2) (.head _) 1; have hf2 := HB3.out.st.free_ (g := g2) (.head _) 2; have hf3 := HB3.out.st.free_ (g := g2) (.head _) 3; have hc0 := (HB3.out.st.at_ (g := g2) (.head _) 0).trans rfl; have hc1 := (HB3.out.st.at_ (g := g2) (.head _) 1).trans rfl; have hc2 := (HB3.out.st.at_ (g := g2) (.head _) 2).trans rfl; have hc3 := (HB3.out.st.at_ (g := g2) (.head _) 3).trans rfl; have hg0 := (HB3.out.st.at_ (g := g) (.tail _ (.head _)) 0).trans rfl; have hg1 := (HB3.out.st.at_ (g := g) (.tail _ (.head _)) 1).trans rfl) | (go_at_call 24; refine (HEx.out _).mono ?_; rintro e w' ⟨rfl, rfl⟩) | (go_at_call 25; refine (HNew.out _ (HR.out.below HB3.out.st.hb)).mono ?_; rintro e w4 ⟨v, rfl, HV, hb⟩; obtain ⟨A1, c1, A2, c2, rfl, h1, h2⟩ := HV.out; have HB4 := Aside0.mk (HB3.out.nx hb.out); clear hb hf0 hf1 hf2 hf3 hc0 hc1 hc2 hc3 hg0 hg1))
              have HB5 : Aside0 (Mem w _ (w4.alloc (.cells #[.int .u64 (netOf M l).all, .slice A1 (netOf M l).by_.length c1, .slice A2 (netOf M l).out.length c2] 64))) := ⟨HB4.out.add (.cells #[.int .u64 (netOf M l).all, .slice A1 (netOf M l).by_.length c1, .slice A2 (netOf M l).out.length c2] 64 (0, 0))⟩
              have HV5 := Aside0.mk (HV.out.below (below_alloc (Below.refl _ _) (.cells #[.int .u64 (netOf M l).all, .slice A1 (netOf M l).by_.length c1, .slice A2 (netOf M l).out.length c2] 64 (0, 0))))
              have h15 := Aside0.mk (h1.below (below_alloc (Below.refl _ _) (.cells #[.int .u64 (netOf M l).all, .slice A1 (netOf M l).by_.length c1, .slice A2 (netOf M l).out.length c2] 64 (0, 0))))
              clear HB4 HV h1 h2 HB3
              change Code.wp Tryd.prog _ _ _ (w4.alloc (.cells #[.int .u64 (netOf M l).all, .slice A1 (netOf M l).by_.length c1, .slice A2 (netOf M l).out.length c2] 64))
              generalize w4.heap.size = g9 at *
              generalize w4.alloc (.cells #[.int .u64 (netOf M l).all, .slice A1 (netOf M l).by_.length c1, .slice A2 (netOf M l).out.length c2] 64) = w5 at *
              go_upto_region 12 with fail
              have HB6 := Aside0.mk (HB5.out.add (.cells #[.int .i64 2, .int .i64 root, .int .i64 2, .slice none 0 0] 33 (0, 0)))
              have HV6 := Aside0.mk (HV5.out.below (below_alloc (Below.refl _ _) (.cells #[.int .i64 2, .int .i64 root, .int .i64 2, .slice none 0 0] 33 (0, 0))))
              have h16 := Aside0.mk (h15.out.below (below_alloc (Below.refl _ _) (.cells #[.int .i64 2, .int .i64 root, .int .i64 2, .slice none 0 0] 33 (0, 0))))
              have HM5 := Aside0.mk ((Mem.refl w5).add (.cells #[.int .i64 2, .int .i64 root, .int .i64 2, .slice none 0 0] 33 (0, 0)))
              clear HB5
              change Code.wp Tryd.prog _ _ _ (w5.alloc (.cells #[.int .i64 2, .int .i64 root, .int .i64 2, .slice none 0 0] 33 (0, 0)))
              generalize w5.heap.size = g10 at *
              generalize w5.alloc (.cells #[.int .i64 2, .int .i64 root, .int .i64 2, .slice none 0 0] 33 (0, 0)) = w6 at *
              go_upto_region 15 with fail
              have hn0 := (HB6.out.st.at_ (g := g9) (.tail _ (.head _)) 0).trans rfl
              have hn1 := (HB6.out.st.at_ (g := g9) (.tail _ (.head _)) 1).trans rfl
              have hn2 := (HB6.out.st.at_ (g := g9) (.tail _ (.head _)) 2).trans rfl
              have HA := Aside0.mk (HB6.out.add (.cells #[.int .u64 0] 61 (0, 0)))
              have kn0 : (w6.alloc (.cells #[.int .u64 0] 61)).cell? ⟨g9, 0, none⟩ = some (.int .u64 (netOf M l).all) := (HA.out.st.at_ (g := g9) (.tail _ (.tail _ (.head _))) 0).trans rfl
              have kn1 : (w6.alloc (.cells #[.int .u64 0] 61)).cell? ⟨g9, 1, none⟩ = some (.slice A1 (netOf M l).by_.length c1) := (HA.out.st.at_ (g := g9) (.tail _ (.tail _ (.head _))) 1).trans rfl
              have kn2 : (w6.alloc (.cells #[.int .u64 0] 61)).cell? ⟨g9, 2, none⟩ = some (.slice A2 (netOf M l).out.length c2) := (HA.out.st.at_ (g := g9) (.tail _ (.tail _ (.head _))) 2).trans rfl
              have HWi : Aside0 (∀ W : World, Calls Tryd.prog 28 #[.int .u64 0, .int .i64 root] W fun e w' => e = .returned (.int .u64 ((2 ^ r : Nat) : Int)) ∧ W = w') := ⟨fun W => by
                have h := with_any 0 r (by decide) (by omega) W
                rw [Nat.zero_or, ← HRt.out] at h
                exact h⟩
              have HS := Aside0.mk (fun W h1 h2 => search_any M (netOf M l) HOk.out (M + 1) (2 ^ r) (Nat.pow_lt_pow_right (by omega) hrM) (by have := cov_le M (2 ^ r); omega) (.agg #[.int .u64 (netOf M l).all, .slice A1 (netOf M l).by_.length c1, .slice A2 (netOf M l).out.length c2]) W h1 h2)
              generalize hP : 2 ^ r = P2 at *
              have HP2 := Aside0.mk hP
              clear hP
              obtain ⟨o, ho⟩ : ∃ o, srch (netOf M l) (M + 1) P2 = o := ⟨_, rfl⟩
              rw [ho] at HS
              unfold resV at HS
              have HSr := Aside0.mk ho
              clear ho
              obtain ⟨sv, hsv⟩ : ∃ sv, o.getD 0 = sv := ⟨_, rfl⟩
              rw [hsv] at HS
              have HSv := Aside0.mk hsv
              clear hsv
              go_cut [11, 12] (fun s11 s12 wx => ∃ g11, s11 = .pointer (some ⟨g11, 0, none⟩) ∧ s12 = .bool o.isSome ∧ Aside0 (Mem w [(g11, .cells #[.int .u64 sv] 61 (0, 0)), (g10, .cells #[.int .i64 2, .int .i64 root, .int .i64 2, .slice none 0 0] 33 (0, 0)), (g9, .cells #[.int .u64 (netOf M l).all, .slice A1 (netOf M l).by_.length c1, .slice A2 (netOf M l).out.length c2] 64 (0, 0)), (g2, .cells #[.int .i64 0, .int .i64 0, .int .i64 0, .slice none 0 0] 33 (0, 0)), (g, .cells #[.int .i64 N, .slice A l.length c] 24 (0, 0))] wx) ∧ Aside0 (Mem w5 [(g11, .cells #[.int .u64 sv] 61 (0, 0)), (g10, .cells #[.int .i64 2, .int .i64 root, .int .i64 2, .slice none 0 0] 33 (0, 0))] wx))
              case first =>
                go_region_held3 (fun w' => w'.cell? ⟨g9, 0, none⟩ = some (.int .u64 (netOf M l).all) ∧ w'.cell? ⟨g9, 1, none⟩ = some (.slice A1 (netOf M l).by_.length c1) ∧ w'.cell? ⟨g9, 2, none⟩ = some (.slice A2 (netOf M l).out.length c2)) (first | go_keep | exact ⟨hn0, hn1, hn2⟩ | exact ⟨kn0, kn1, kn2⟩ | exact ⟨pw_cell_below hb.out hn0, pw_cell_below hb.out hn1, pw_cell_below hb.out hn2⟩ | exact ⟨pw_cell_below hb.out kn0, pw_cell_below hb.out kn1, pw_cell_below hb.out kn2⟩ | exact ⟨(HA8.out.st.at_ (g := g9) (.tail _ (.tail _ (.head _))) 0).trans rfl, (HA8.out.st.at_ (g := g9) (.tail _ (.tail _ (.head _))) 1).trans rfl, (HA8.out.st.at_ (g := g9) (.tail _ (.tail _ (.head _))) 2).trans rfl⟩ | (trace_state; fail))
                  (first | (go_at_call 28; refine (HWi.out _).mono ?_; rintro e w' ⟨rfl, rfl⟩) | (go_at_call 27; first | (refine (HS.out _ (HT.out.below HT.out.2 HB6.out.st.hb.drew) HV6.out).mono ?_; rintro e w7 ⟨rfl, hb⟩; have HA8 := Aside0.mk ((HB6.out.drew.nx hb.out).add (.cells #[.int .u64 sv] 61 (0, 0))); have HC8 := Aside0.mk ((HM5.out.drew.nx hb.out).add (.cells #[.int .u64 sv] 61 (0, 0)))) | (refine (HS.out _ (HT.out.below HT.out.2 HA.out.st.hb.drew) (HV6.out.below (below_alloc (Below.refl _ _) (.cells #[.int .u64 0] 61 (0, 0))).drew)).mono ?_; rintro e w7 ⟨rfl, hb⟩; have HA7 := Aside0.mk (HA.out.drew.nx hb.out); have ka := (HA7.out.st.at_ (.head _) 0).trans rfl; have kf := HA7.out.st.free_ (.head _) 0; have HA8 := Aside0.mk (HA7.out.set 0 (.int .u64 sv)); have HC8 := Aside0.mk (((HM5.out.add (.cells #[.int .u64 0] 61 (0, 0))).drew.nx hb.out).set 0 (.int .u64 sv)))))
                all_goals (go_wp2_with fail; go_meet)
                all_goals exact ⟨_, rfl, rfl, ⟨HA8.out⟩, ⟨HC8.out⟩⟩
              case rest =>
                clear HA HB6 hn0 hn1 hn2 kn0 kn1 kn2 HS HWi HM5 HV6 h16
                obtain ⟨g11, rfl, rfl, HM, HC⟩ := hcut
                cases o with
                | none =>
                  have hsome : (none : Option Nat).isSome = false := rfl
                  have k0 := (HM.out.st.at_ (g := g10) (.tail _ (.head _)) 0).trans rfl; have k1 := (HM.out.st.at_ (g := g10) (.tail _ (.head _)) 1).trans rfl; have k2 := (HM.out.st.at_ (g := g10) (.tail _ (.head _)) 2).trans rfl; have k3 := (HM.out.st.at_ (g := g10) (.tail _ (.head _)) 3).trans rfl
                  have hf0 := HM.out.st.free_ (g := g2) (.tail _ (.tail _ (.tail _ (.head _)))) 0; have hf1 := HM.out.st.free_ (g := g2) (.tail _ (.tail _ (.tail _ (.head _)))) 1; have hf2 := HM.out.st.free_ (g := g2) (.tail _ (.tail _ (.tail _ (.head _)))) 2; have hf3 := HM.out.st.free_ (g := g2) (.tail _ (.tail _ (.tail _ (.head _)))) 3; have hc0 := (HM.out.st.at_ (g := g2) (.tail _ (.tail _ (.tail _ (.head _)))) 0).trans rfl; have hc1 := (HM.out.st.at_ (g := g2) (.tail _ (.tail _ (.tail _ (.head _)))) 1).trans rfl; have hc2 := (HM.out.st.at_ (g := g2) (.tail _ (.tail _ (.tail _ (.head _)))) 2).trans rfl; have hc3 := (HM.out.st.at_ (g := g2) (.tail _ (.tail _ (.tail _ (.head _)))) 3).trans rfl
                  go_wp2
                  have HF := (HM.out.perm (perm_4123 _ _ _ _ _)).set4 (.int .i64 2) (.int .i64 root) (.int .i64 2) (.slice none 0 0)
                  have hb0 : (bl 0).length = 0 := by decide
                  have hb1 : bl 0 = [] := by decide
                  exact sol_ret HF rfl rfl rfl ⟨.inr ⟨HSe.out, M, r, 2, none, 0, 0, id, HNM.out, HRt.out, hM40, hrM, HIn.out, Nat.two_pow_pos M, .co id (by rw [HP2.out]; exact HSr.out), by rw [hb0], by rw [hb1]; exact own_nil _ _ _ _⟩, ⟨HF.st.hb⟩⟩
                | some s =>
                  have hsome : (some s : Option Nat).isSome = true := rfl
                  obtain rfl : s = sv := HSv.out
                  have kf2 := HM.out.st.free_ (g := g10) (.tail _ (.head _)) 2; have kc2 := (HM.out.st.at_ (g := g10) (.tail _ (.head _)) 2).trans rfl
                  go_upto_region 18 with fail
                  have HM9 := Aside0.mk ((HM.out.perm (perm_213 _ _ _ _)).set 2 (.int .i64 1))
                  have HC9 := Aside0.mk ((HC.out.perm (.swap _ _ _)).set 2 (.int .i64 1))
                  clear HM HC kf2 kc2
                  generalize wc.setCell ⟨g10, 2, none⟩ (.int .i64 1) = w9 at *
                  have hHM : Aside0 (Mem w [(g10, .cells #[.int .i64 2, .int .i64 root, .int .i64 1, .slice none 0 0] 33 (0, 0)), (g11, .cells #[.int .u64 s] 61 (0, 0)), (g9, .cells #[.int .u64 (netOf M l).all, .slice A1 (netOf M l).by_.length c1, .slice A2 (netOf M l).out.length c2] 64 (0, 0)), (g2, .cells #[.int .i64 0, .int .i64 0, .int .i64 0, .slice none 0 0] 33 (0, 0)), (g, .cells #[.int .i64 N, .slice A l.length c] 24 (0, 0))] w9) := ⟨HM9.out⟩
                  clear HM9
                  have hss := srch_some HOk.out _ _ _ (Nat.pow_lt_pow_right (by omega) hrM) (by rw [HP2.out]; exact HSr.out)
                  have HSs := Aside0.mk hss
                  have hrs : s.testBit r = true := hss.2.1 r (by simp)
                  have HAdm : Aside0 (∀ x, RcA (netOf M l) r (pickS (netOf M l) s) x → nth (netOf M l).by_ x &&& s ≠ 0) := ⟨fun x hx => RcA_hit HOk.out hss.1 hss.2.2.2 hrs hx⟩
                  clear hss hrs
                  have HPick : Aside0 (∀ x, RcA (netOf M l) r (pickS (netOf M l) s) x → ∀ W, Below w9.heap.size w9 W → Calls Tryd.prog 30 (#[.int .i64 (x : Int)] ++ #[.pointer (some ⟨g9, 0, none⟩), .pointer (some ⟨g11, 0, none⟩)]) W fun e w' => e = .returned (.int .i64 ((pickS (netOf M l) s x : Nat) : Int)) ∧ Aside0 (Below W.heap.size W w')) := ⟨fun x hx W hW => by
                    have hx2 := hx.lt HOk.out
                    have HBW := hHM.out.nx hW
                    exact pickS_any M (netOf M l) HOk.out A1 c1 A2 c2 g9 g11 s x HSs.out.1 hx2 (HAdm.out x hx) W (HT.out.below HT.out.2 HBW.st.hb) (h15.out.below (HC9.out.nx hW).st.hb) (HBW.st.blk _ (.tail _ (.tail _ (.head _)))) (HBW.st.blk _ (.tail _ (.head _)))⟩
                  have HAns := Aside0.mk (answers_any M (netOf M l) HOk.out _ r hrM 30 _ (pickS (netOf M l) s) w9 (HT.out.below HT.out.2 hHM.out.st.hb) (HV5.out.below HC9.out.st.hb) e30 HPick.out (fun x hx => bit_lt HOk.out.hN HSs.out.1 (pickS_in HOk.out (HAdm.out x hx)).2))
                  rw [← HRt.out] at HAns
                  clear HPick
                  have hn0 := (hHM.out.st.at_ (g := g9) (.tail _ (.tail _ (.head _))) 0).trans rfl
                  have hn1 := (hHM.out.st.at_ (g := g9) (.tail _ (.tail _ (.head _))) 1).trans rfl
                  have hn2 := (hHM.out.st.at_ (g := g9) (.tail _ (.tail _ (.head _))) 2).trans rfl
                  go_upto_region 19 with (first | (go_at_call 29; refine HAns.out.mono ?_; rintro e w10 ⟨A7, c7, m, rfl, HMm, HO0, hb⟩; have HO : Aside0 (OwnRp w10 w.heap.size (.slice A7 (bl m).length c7) ((bl m).map fun x => rp x (pickS (netOf M l) s x))) := ⟨own_weaken HO0.out hHM.out.st.hb.size⟩; clear HO0; have HM10 := Aside0.mk (hHM.out.nx hb.out); clear hb hn0 hn1 hn2 HAns hHM HC9; have kf3 := HM10.out.st.free_ (g := g10) (.head _) 3; have kc3 := (HM10.out.st.at_ (g := g10) (.head _) 3).trans rfl))
                  have HM11 := Aside0.mk (HM10.out.set 3 (.slice A7 (bl m).length c7))
                  have HO11 := Aside0.mk (HO.out.set (HM10.out.st.blk _ (.head _)) (by decide) 3 (.slice A7 (bl m).length c7))
                  clear HM10 HO kf3 kc3
                  generalize w10.setCell ⟨g10, 3, none⟩ (.slice A7 (bl m).length c7) = w11 at *
                  have HM : Aside0 (Mem w [(g10, .cells #[.int .i64 2, .int .i64 root, .int .i64 1, .slice A7 (bl m).length c7] 33 (0, 0)), (g11, .cells #[.int .u64 s] 61 (0, 0)), (g9, .cells #[.int .u64 (netOf M l).all, .slice A1 (netOf M l).by_.length c1, .slice A2 (netOf M l).out.length c2] 64 (0, 0)), (g2, .cells #[.int .i64 0, .int .i64 0, .int .i64 0, .slice none 0 0] 33 (0, 0)), (g, .cells #[.int .i64 N, .slice A l.length c] 24 (0, 0))] w11) := ⟨HM11.out⟩
                  clear HM11
                  have k0 := (HM.out.st.at_ (g := g10) (.head _) 0).trans rfl; have k1 := (HM.out.st.at_ (g := g10) (.head _) 1).trans rfl; have k2 := (HM.out.st.at_ (g := g10) (.head _) 2).trans rfl; have k3 := (HM.out.st.at_ (g := g10) (.head _) 3).trans rfl
                  have hf0 := HM.out.st.free_ (g := g2) (.tail _ (.tail _ (.tail _ (.head _)))) 0; have hf1 := HM.out.st.free_ (g := g2) (.tail _ (.tail _ (.tail _ (.head _)))) 1; have hf2 := HM.out.st.free_ (g := g2) (.tail _ (.tail _ (.tail _ (.head _)))) 2; have hf3 := HM.out.st.free_ (g := g2) (.tail _ (.tail _ (.tail _ (.head _)))) 3; have hc0 := (HM.out.st.at_ (g := g2) (.tail _ (.tail _ (.tail _ (.head _)))) 0).trans rfl; have hc1 := (HM.out.st.at_ (g := g2) (.tail _ (.tail _ (.tail _ (.head _)))) 1).trans rfl; have hc2 := (HM.out.st.at_ (g := g2) (.tail _ (.tail _ (.tail _ (.head _)))) 2).trans rfl; have hc3 := (HM.out.st.at_ (g := g2) (.tail _ (.tail _ (.tail _ (.head _)))) 3).trans rfl
                  go_wp2
                  have HP := HM.out.perm (perm_4123 _ _ _ _ _)
                  have HF := HP.set4 (.int .i64 2) (.int .i64 root) (.int .i64 1) (.slice A7 (bl m).length c7)
                  have HOF := HO11.out.set4 HP (by decide) (.int .i64 2) (.int .i64 root) (.int .i64 1) (.slice A7 (bl m).length c7)
                  exact sol_ret HF rfl rfl rfl ⟨.inr ⟨HSe.out, M, r, 1, A7, c7, m, pickS (netOf M l) s, HNM.out, HRt.out, hM40, hrM, HIn.out, HMm.out.1, .cp m s (by rw [HP2.out]; exact HSr.out) HMm.out.2, rfl, HOF⟩, ⟨HF.st.hb⟩⟩
    · have e3 : decide (game = 1 ∨ game = 2) = false := decide_eq_false hg
      have HSe : Aside0 (solE N l game root = 4) := ⟨by rw [solE, if_neg (by simp [hv]), if_pos hg]⟩
      clear hv hg
      go_enter Tryd.func10, Tryd.ntmps10
      go_upto_region 1 with (first | ((with_reducible refine gate_dst (N := 3) rfl ?_); refine box_mem (w := w) 3 #[.int .i64 N, .slice A l.length c] 24 rfl rfl ?hr HB.out ?_; (case hr => go_simp; done); clear HB; intro g w1 HB HW) | ((with_reducible refine gate_dst (N := 6) rfl ?_); refine box_mem (w := w) 6 #[.int .i64 0, .int .i64 0, .int .i64 0, .slice none 0 0] 33 rfl rfl ?hr HB.out ?_; (case hr => go_simp; done); clear HB HW; intro g2 w2 HB HW))
      have hg0 := (HB.out.st.at_ (.tail _ (.head _)) 0).trans rfl
      have hg1 := (HB.out.st.at_ (.tail _ (.head _)) 1).trans rfl
      go_wp2_with (first | (go_at_call 23; refine (HVal.out _ (HR.out.below HB.out.st.hb)).mono ?_; rintro e w3 ⟨rfl, hb⟩; have HB3 := Aside0.mk (HB.out.nx hb.out); clear hb HB hg0 hg1; have hf0 := HB3.out.st.free_ (g := g2) (.head _) 0; have hf1 := HB3.out.st.free_ (g := g2) (.head _) 1; have hf2 := HB3.out.st.free_ (g := g2) (.head _) 2; have hf3 := HB3.out.st.free_ (g := g2) (.head _) 3; have hc0 := (HB3.out.st.at_ (g := g2) (.head _) 0).trans rfl; have hc1 := (HB3.out.st.at_ (g := g2) (.head _) 1).trans rfl; have hc2 := (HB3.out.st.at_ (g := g2) (.head _) 2).trans rfl; have hc3 := (HB3.out.st.at_ (g := g2) (.head _) 3).trans rfl; have hg0 := (HB3.out.st.at_ (g := g) (.tail _ (.head _)) 0).trans rfl; have hg1 := (HB3.out.st.at_ (g := g) (.tail _ (.head _)) 1).trans rfl) | (go_at_call 24; refine (HEx.out _).mono ?_; rintro e w' ⟨rfl, rfl⟩))
      have HF := HB3.out.set4 (.int .i64 0) (.int .i64 0) (.int .i64 0) (.slice none 0 0)
      exact sol_ret HF rfl rfl rfl ⟨.inl ⟨by rw [HSe.out]; exact (by decide), by rw [HSe.out]⟩, ⟨HF.st.hb⟩⟩
  · have e1 : (valE N l == 0) = false := by rw [beq_eq_false_iff_ne]; exact hv
    have e2 : (valE N l != 0) = true := by rw [bne_iff_ne]; exact hv
    have HSe : Aside0 (solE N l game root = valE N l) := ⟨by rw [solE, if_pos hv]⟩
    have HV := Aside0.mk hv
    clear hv
    go_enter Tryd.func10, Tryd.ntmps10
    go_upto_region 1 with (first | ((with_reducible refine gate_dst (N := 3) rfl ?_); refine box_mem (w := w) 3 #[.int .i64 N, .slice A l.length c] 24 rfl rfl ?hr HB.out ?_; (case hr => go_simp; done); clear HB; intro g w1 HB HW) | ((with_reducible refine gate_dst (N := 6) rfl ?_); refine box_mem (w := w) 6 #[.int .i64 0, .int .i64 0, .int .i64 0, .slice none 0 0] 33 rfl rfl ?hr HB.out ?_; (case hr => go_simp; done); clear HB HW; intro g2 w2 HB HW))
    have hg0 := (HB.out.st.at_ (.tail _ (.head _)) 0).trans rfl
    have hg1 := (HB.out.st.at_ (.tail _ (.head _)) 1).trans rfl
    go_wp2_with (first | (go_at_call 23; refine (HVal.out _ (HR.out.below HB.out.st.hb)).mono ?_; rintro e w3 ⟨rfl, hb⟩; have HB3 := Aside0.mk (HB.out.nx hb.out); clear hb HB hg0 hg1; have hf0 := HB3.out.st.free_ (g := g2) (.head _) 0; have hf1 := HB3.out.st.free_ (g := g2) (.head _) 1; have hf2 := HB3.out.st.free_ (g := g2) (.head _) 2; have hf3 := HB3.out.st.free_ (g := g2) (.head _) 3; have hc0 := (HB3.out.st.at_ (g := g2) (.head _) 0).trans rfl; have hc1 := (HB3.out.st.at_ (g := g2) (.head _) 1).trans rfl; have hc2 := (HB3.out.st.at_ (g := g2) (.head _) 2).trans rfl; have hc3 := (HB3.out.st.at_ (g := g2) (.head _) 3).trans rfl; have hg0 := (HB3.out.st.at_ (g := g) (.tail _ (.head _)) 0).trans rfl; have hg1 := (HB3.out.st.at_ (g := g) (.tail _ (.head _)) 1).trans rfl) | (go_at_call 24; refine (HEx.out _).mono ?_; rintro e w' ⟨rfl, rfl⟩))
    have HF := HB3.out.set4 (.int .i64 0) (.int .i64 0) (.int .i64 0) (.slice none 0 0)
    exact sol_ret HF rfl rfl rfl ⟨.inl ⟨by rw [HSe.out]; exact HV.out, by rw [HSe.out]⟩, ⟨HF.st.hb⟩⟩
end Go.Proofs.YtgboplcjafmliaaDoor.G

/- Plain facts on the games: legal moves, lines, admissible sets and the rounds. No program here. -/
namespace Go.Proofs.YtgboplcjafmliaaDoor.G
open Go.RowKit
set_option linter.unusedVariables false
set_option linter.unusedSimpArgs false

/-- x attacks i. -/
def At (n : NetD) (i x : Nat) : Prop := (nth n.by_ i).testBit x = true
theorem zero_iff (s : Nat) : s = 0 ↔ ∀ i, s.testBit i = false := by
  constructor
  · rintro rfl i; simp
  · intro h; exact Nat.eq_of_testBit_eq (fun i => by rw [h i]; simp)
theorem At.lt {N : Nat} {n : NetD} (hok : n.Ok N) {i x : Nat} (h : At n i x) : x < N := bit_lt hok.hN (hok.lb i) h
theorem uni_by {N : Nat} {n : NetD} (hok : n.Ok N) {s : Nat} (hs : s < 2 ^ N) (x : Nat) : (uni n.by_ (bl s) 0).testBit x = true ↔ ∃ p, s.testBit p = true ∧ At n p x := by
  rw [uni_bit, Nat.zero_testBit, Bool.false_or, List.any_eq_true]
  constructor
  · rintro ⟨p, hp, h⟩; exact ⟨p, (mem_bl _ _ (p64 hok.hN hs)).1 hp, h⟩
  · rintro ⟨p, hp, h⟩; exact ⟨p, (mem_bl _ _ (p64 hok.hN hs)).2 hp, h⟩
theorem uni_out {N : Nat} {n : NetD} (hok : n.Ok N) {s : Nat} (hs : s < 2 ^ N) (x : Nat) : (uni n.out (bl s) 0).testBit x = true ↔ ∃ p, s.testBit p = true ∧ At n x p := by
  rw [uni_bit, Nat.zero_testBit, Bool.false_or, List.any_eq_true]
  constructor
  · rintro ⟨p, hp, h⟩; exact ⟨p, (mem_bl _ _ (p64 hok.hN hs)).1 hp, by rw [At, hok.co]; exact h⟩
  · rintro ⟨p, hp, h⟩; exact ⟨p, (mem_bl _ _ (p64 hok.hN hs)).2 hp, by rw [At, hok.co] at h; exact h⟩
theorem bool_false_iff (b : Bool) : b = false ↔ ¬ b = true := by cases b <;> simp
theorem open_iff {N : Nat} {n : NetD} (hok : n.Ok N) {s : Nat} (hs : s < 2 ^ N) : openM n s = 0 ↔ ∀ p x, s.testBit p = true → At n p x → ∃ b, s.testBit b = true ∧ At n x b := by
  have hU := p64 hok.hN (uni_lt _ N hok.lb (bl s) 0 (Nat.two_pow_pos N))
  have hV := p64 hok.hN (uni_lt _ N hok.lo (bl s) 0 (Nat.two_pow_pos N))
  rw [zero_iff]
  constructor
  · intro h p x hp hx
    have h1 := h x
    rw [openM, sdiff_bit _ _ _ hU hV, (uni_by hok hs x).2 ⟨p, hp, hx⟩, Bool.true_and, Bool.not_eq_false'] at h1
    exact (uni_out hok hs x).1 h1
  · intro h x
    rw [openM, sdiff_bit _ _ _ hU hV, bool_false_iff, Bool.and_eq_true, Bool.not_eq_true']
    rintro ⟨h1, h2⟩
    obtain ⟨p, hp, hx⟩ := (uni_by hok hs x).1 h1
    rw [(uni_out hok hs x).2 (h p x hp hx)] at h2
    cases h2
theorem free_iff {N : Nat} {n : NetD} (hok : n.Ok N) {s : Nat} (hs : s < 2 ^ N) : freeB n s = true ↔ ∀ p q, s.testBit p = true → s.testBit q = true → ¬ At n p q := by
  unfold freeB
  rw [beq_iff_eq, zero_iff]
  constructor
  · intro h p q hp hq hx
    have h1 := h p
    rw [Nat.testBit_and, (uni_out hok hs p).2 ⟨q, hq, hx⟩, hp] at h1
    cases h1
  · intro h p
    rw [Nat.testBit_and, bool_false_iff, Bool.and_eq_true]
    rintro ⟨h1, h2⟩
    obtain ⟨q, hq, hx⟩ := (uni_out hok hs p).1 h1
    exact h p q h2 hq hx
/-- An admissible set. -/
def Adm (N : Nat) (n : NetD) (s : Nat) : Prop := s < 2 ^ N ∧ (∀ p q, s.testBit p = true → s.testBit q = true → ¬ At n p q) ∧ (∀ p x, s.testBit p = true → At n p x → ∃ b, s.testBit b = true ∧ At n x b)
theorem srch_adm {N : Nat} {n : NetD} (hok : n.Ok N) {f s t : Nat} (hs : s < 2 ^ N) (h : srch n f s = some t) : Adm N n t ∧ ∀ i, s.testBit i = true → t.testBit i = true := by
  obtain ⟨h1, h2, h3, h4⟩ := srch_some hok f s t hs h
  exact ⟨⟨h1, (free_iff hok h1).1 h3, (open_iff hok h1).1 h4⟩, h2⟩
theorem or_bit (s x i : Nat) : (s ||| 2 ^ x).testBit i = true ↔ s.testBit i = true ∨ i = x := by
  rw [Nat.testBit_or, Nat.testBit_two_pow, Bool.or_eq_true, decide_eq_true_iff]
  constructor
  · rintro (h | h)
    · exact .inl h
    · exact .inr h.symm
  · rintro (h | h)
    · exact .inl h
    · exact .inr h.symm
theorem srch_none {N : Nat} {n : NetD} (hok : n.Ok N) : ∀ (f s : Nat), s < 2 ^ N → cov N s < f → srch n f s = none → ∀ t, Adm N n t → ¬ ∀ i, s.testBit i = true → t.testBit i = true
  | 0, s, hs, hf, _, t, _, _ => by omega
  | f + 1, s, hs, hf, h, t, ht, hst => by
    have hfree : freeB n s = true := (free_iff hok hs).2 fun p q hp hq => ht.2.1 p q (hst p hp) (hst q hq)
    rw [srch, if_pos hfree] at h
    by_cases h0 : (bl (openM n s)).length = 0
    · rw [if_pos h0] at h; cases h
    · rw [if_neg h0] at h
      have hy := nth_mem (bl (openM n s)) 0 (by omega)
      generalize nth (bl (openM n s)) 0 = y at *
      have hU := p64 hok.hN (uni_lt _ N hok.lb (bl s) 0 (Nat.two_pow_pos N))
      have hV := p64 hok.hN (uni_lt _ N hok.lo (bl s) 0 (Nat.two_pow_pos N))
      have h1 := (mem_bl _ _ (p64 hok.hN (openM_lt hok s))).1 hy
      unfold openM at h1
      rw [sdiff_bit _ _ _ hU hV, Bool.and_eq_true] at h1
      obtain ⟨p, hp, hpy⟩ := (uni_by hok hs y).1 h1.1
      obtain ⟨b, hb, hyb⟩ := ht.2.2 p y (hst p hp) hpy
      have hbm : b ∈ bl (nth n.by_ y) := (mem_bl _ _ (p64 hok.hN (hok.lb y))).2 hyb
      have hbN := hyb.lt hok
      have hn := List.findSome?_eq_none_iff.1 h b hbm
      have hnew := open_new hok hs hy hbm
      refine srch_none hok f (s ||| 2 ^ b) (Nat.or_lt_two_pow hs (Nat.pow_lt_pow_right (by omega) hbN)) ?_ hn t ht ?_
      · have := cov_dec (N := N) hbN hnew; omega
      · intro i hi
        rcases (or_bit s b i).1 hi with hi | rfl
        · exact hst i hi
        · exact hb

theorem pm_snoc (x : Nat) : ∀ (l : List Nat) (b : Bool), pm b (l ++ [x]) = pm b l ||| (if (b == ev l.length) = true then 2 ^ x else 0)
  | [], b => by cases b <;> simp [pm, ev]
  | y :: l, b => by
    rw [List.cons_append, pm, pm_snoc x l (!b), pm, Nat.or_assoc, List.length_cons, ev_succ]
    congr 3
    cases b <;> cases ev l.length <;> simp
theorem pmT_even {l : List Nat} (h : l.length % 2 = 0) (x : Nat) : pm true (l ++ [x]) = pm true l ||| 2 ^ x := by
  rw [pm_snoc, if_pos (by simp [ev, h])]
theorem pmT_odd {l : List Nat} (h : l.length % 2 = 1) (x : Nat) : pm true (l ++ [x]) = pm true l := by
  rw [pm_snoc, if_neg (by simp [ev, h])]; simp
theorem pmF_even {l : List Nat} (h : l.length % 2 = 0) (x : Nat) : pm false (l ++ [x]) = pm false l := by
  rw [pm_snoc, if_neg (by simp [ev, h])]; simp
theorem pmF_odd {l : List Nat} (h : l.length % 2 = 1) (x : Nat) : pm false (l ++ [x]) = pm false l ||| 2 ^ x := by
  rw [pm_snoc, if_pos (by simp [ev, h])]
theorem lastN_snoc (l : List Nat) (x : Nat) : lastN (l ++ [x]) = x := by
  unfold lastN nth
  rw [List.length_append, List.length_singleton, Nat.add_sub_cancel, List.getD_eq_getElem?_getD, List.getElem?_append_right (Nat.le_refl _), Nat.sub_self]
  rfl

theorem lg1O (n : NetD) {l : List Nat} (h : l.length % 2 = 1) (x : Nat) : (legalM n 1 l).testBit x = true ↔ At n (lastN l) x := by
  rw [legalM, if_pos rfl, if_pos h]; exact Iff.rfl
theorem lg1P {N : Nat} {n : NetD} (hok : n.Ok N) {l : List Nat} (hl : ∀ x, x ∈ l → x < N) (h : l.length % 2 = 0) (x : Nat) : (legalM n 1 l).testBit x = true ↔ At n (lastN l) x ∧ (pm true l).testBit x = false := by
  rw [legalM, if_pos rfl, if_neg (by omega), sdiff_bit _ _ _ (p64 hok.hN (hok.lb _)) (p64 hok.hN (pm_lt l true hl)), Bool.and_eq_true, Bool.not_eq_true']; exact Iff.rfl
theorem lg2O {N : Nat} {n : NetD} (hok : n.Ok N) {l : List Nat} (hl : ∀ x, x ∈ l → x < N) (h : l.length % 2 = 1) (x : Nat) : (legalM n 2 l).testBit x = true ↔ (∃ p, (pm true l).testBit p = true ∧ At n p x) ∧ (pm false l).testBit x = false := by
  rw [legalM, if_neg (by decide), if_pos h, sdiff_bit _ _ _ (p64 hok.hN (uni_lt _ N hok.lb _ _ (Nat.two_pow_pos N))) (p64 hok.hN (pm_lt l false hl)), Bool.and_eq_true, Bool.not_eq_true', uni_by hok (pm_lt l true hl)]
theorem foldl_if_bit (p : Nat → Bool) (i : Nat) : ∀ (l : List Nat) (a : Nat), (l.foldl (fun a x => if p x then a ||| 2 ^ x else a) a).testBit i = true ↔ a.testBit i = true ∨ (i ∈ l ∧ p i = true)
  | [], a => by simp
  | x :: l, a => by
    rw [List.foldl_cons, foldl_if_bit p i l]
    by_cases hx : p x = true
    · rw [if_pos hx, or_bit, List.mem_cons]
      constructor
      · rintro ((h | rfl) | ⟨h1, h2⟩)
        · exact .inl h
        · exact .inr ⟨.inl rfl, hx⟩
        · exact .inr ⟨.inr h1, h2⟩
      · rintro (h | ⟨rfl | h1, h2⟩)
        · exact .inl (.inl h)
        · exact .inl (.inr rfl)
        · exact .inr ⟨h1, h2⟩
    · rw [if_neg hx, List.mem_cons]
      constructor
      · rintro (h | ⟨h1, h2⟩)
        · exact .inl h
        · exact .inr ⟨.inr h1, h2⟩
      · rintro (h | ⟨rfl | h1, h2⟩)
        · exact .inl h
        · exact absurd h2 hx
        · exact .inr ⟨h1, h2⟩
/-- x is in no conflict with a set and itself. -/
def Fit (n : NetD) (s x : Nat) : Prop := ∀ y, s.testBit y = true ∨ y = x → ¬ At n x y ∧ ¬ At n y x
theorem may_iff {N : Nat} {n : NetD} (hok : n.Ok N) (s x : Nat) : mayM n s x = true ↔ Fit n s x := by
  unfold mayM Fit
  rw [beq_iff_eq, zero_iff]
  constructor
  · intro h y hy
    have h1 := h y
    rw [Nat.testBit_and, (or_bit s x y).2 hy, Bool.and_true, Nat.testBit_or, Bool.or_eq_false_iff, ← hok.co] at h1
    refine ⟨?_, ?_⟩
    · intro h2; unfold At at h2; rw [h1.1] at h2; cases h2
    · intro h2; unfold At at h2; rw [h1.2] at h2; cases h2
  · intro h y
    rw [Nat.testBit_and, bool_false_iff, Bool.and_eq_true, or_bit, Nat.testBit_or, Bool.or_eq_true, ← hok.co]
    rintro ⟨h1 | h1, h2⟩
    · exact (h y h2).1 h1
    · exact (h y h2).2 h1
theorem lg2P {N : Nat} {n : NetD} (hok : n.Ok N) {l : List Nat} (h : l.length % 2 = 0) (x : Nat) : (legalM n 2 l).testBit x = true ↔ At n (lastN l) x ∧ Fit n (pm true l) x := by
  rw [legalM, if_neg (by decide), if_neg (by omega), foldl_if_bit, mem_bl _ _ (p64 hok.hN (hok.lb _)), may_iff hok]
  constructor
  · rintro (h | h)
    · simp at h
    · exact h
  · exact fun h => .inr h

theorem played_snoc (n : NetD) (game : Nat) (l : List Nat) (a : Nat) (h0 : 0 < l.length) : playedB n game (l ++ [a]) = true ↔ playedB n game l = true ∧ (legalM n game l).testBit a = true := by
  have e0 : nth (l ++ [a]) 0 = nth l 0 := by
    unfold nth
    rw [List.getD_eq_getElem?_getD, List.getD_eq_getElem?_getD, List.getElem?_append_left h0]
  unfold playedB
  rw [e0]
  by_cases hs : game = 2 ∧ (nth n.by_ (nth l 0)).testBit (nth l 0) = true
  · rw [if_pos hs, if_pos hs]; simp
  · rw [if_neg hs, if_neg hs, List.all_eq_true, List.all_eq_true]
    constructor
    · intro h
      constructor
      · intro i hi
        have hi' := List.mem_range'_1.1 hi
        have := h i (List.mem_range'_1.2 (by rw [List.length_append, List.length_singleton]; omega))
        rw [List.take_append_of_le_length (by omega)] at this
        unfold nth at this ⊢
        rw [List.getD_eq_getElem?_getD, List.getElem?_append_left (by omega)] at this
        rw [List.getD_eq_getElem?_getD]
        exact this
      · have := h l.length (List.mem_range'_1.2 (by rw [List.length_append, List.length_singleton]; omega))
        rw [List.take_append_of_le_length (Nat.le_refl _), List.take_length] at this
        unfold nth at this
        rw [List.getD_eq_getElem?_getD, List.getElem?_append_right (Nat.le_refl _), Nat.sub_self] at this
        exact this
    · rintro ⟨h1, h2⟩ i hi
      have hi' := List.mem_range'_1.1 hi
      rw [List.length_append, List.length_singleton] at hi'
      rcases (show i < l.length ∨ i = l.length by omega) with hlt | rfl
      · have := h1 i (List.mem_range'_1.2 (by omega))
        rw [List.take_append_of_le_length (by omega)]
        unfold nth at this ⊢
        rw [List.getD_eq_getElem?_getD, List.getElem?_append_left (by omega)]
        rw [List.getD_eq_getElem?_getD] at this
        exact this
      · rw [List.take_append_of_le_length (Nat.le_refl _), List.take_length]
        unfold nth
        rw [List.getD_eq_getElem?_getD, List.getElem?_append_right (Nat.le_refl _), Nat.sub_self]
        exact h2
/-- A line that is played. -/
structure PL (N : Nat) (n : NetD) (game : Nat) (l : List Nat) : Prop where
  ne : 0 < l.length
  lt : ∀ x, x ∈ l → x < N
  pl : playedB n game l = true
  len1 : game = 1 → (l.length + 1) / 2 + cov N (pm true l) ≤ N
  len2 : game = 2 → l.length / 2 + cov N (pm false l) ≤ N
theorem PL.one {N : Nat} {n : NetD} (hok : n.Ok N) {game root : Nat} (hr : root < N) (hs : ¬(game = 2 ∧ At n root root)) : PL N n game [root] where
  ne := Nat.zero_lt_one
  lt := fun x hx => by rw [List.mem_singleton] at hx; omega
  pl := by
    unfold playedB
    rw [if_neg (show ¬(game = 2 ∧ (nth n.by_ (nth [root] 0)).testBit (nth [root] 0) = true) from hs)]
    rfl
  len1 := fun _ => by
    have h1 := cov_dec (N := N) (s := 0) hr (by simp)
    have h2 := cov0 N
    have e : pm true [root] = 0 ||| 2 ^ root := by simp [pm]
    rw [e, List.length_singleton]
    omega
  len2 := fun _ => by
    have h2 := cov0 N
    have e : pm false [root] = 0 := by simp [pm]
    rw [e, List.length_singleton]
    omega
theorem PL.last {N : Nat} {n : NetD} {game : Nat} {l : List Nat} (h : PL N n game l) : lastN l < N := h.lt _ (nth_mem l _ (by have := h.ne; omega))
theorem PL.snoc {N : Nat} {n : NetD} (hok : n.Ok N) {game : Nat} (hg : game = 1 ∨ game = 2) {l : List Nat} (h : PL N n game l) {a : Nat} (ha : (legalM n game l).testBit a = true) : PL N n game (l ++ [a]) := by
  have haN := bit_lt hok.hN (legal_lt hok game l h.lt) ha
  refine ⟨by simp, ?_, (played_snoc n game l a h.ne).2 ⟨h.pl, ha⟩, ?_, ?_⟩
  · intro x hx
    rcases List.mem_append.1 hx with hx | hx
    · exact h.lt x hx
    · rw [List.mem_singleton] at hx; omega
  · rintro rfl
    rw [List.length_append, List.length_singleton]
    have h1 := h.len1 rfl
    rcases Nat.mod_two_eq_zero_or_one l.length with hp | hp
    · rw [pmT_even hp]
      have := cov_dec haN ((lg1P hok h.lt hp a).1 ha).2
      omega
    · rw [pmT_odd hp]; omega
  · rintro rfl
    rw [List.length_append, List.length_singleton]
    have h1 := h.len2 rfl
    rcases Nat.mod_two_eq_zero_or_one l.length with hp | hp
    · rw [pmF_even hp]; omega
    · rw [pmF_odd hp]
      have := cov_dec haN ((lg2O hok h.lt hp a).1 ha).2
      omega
theorem PL.len {N : Nat} {n : NetD} {game : Nat} (hg : game = 1 ∨ game = 2) {l : List Nat} (h : PL N n game l) : l.length ≤ 2 * N + 1 := by
  rcases hg with hg | hg
  · have := h.len1 hg; omega
  · have := h.len2 hg; omega
theorem PL.legal {N : Nat} {n : NetD} {game : Nat} {l : List Nat} {a : Nat} (h0 : 0 < l.length) (h : PL N n game (l ++ [a])) : (legalM n game l).testBit a = true := ((played_snoc n game l a h0).1 h.pl).2

/-- The rounds as a chain of sets. -/
def gs (n : NetD) : Nat → Nat
  | 0 => 0
  | j + 1 => gstep n (gs n j)
theorem gs_lt {N : Nat} {n : NetD} (hok : n.Ok N) : ∀ j, gs n j < 2 ^ N
  | 0 => Nat.two_pow_pos N
  | j + 1 => gstep_lt hok _ (gs_lt hok j)
theorem gs_bit {N : Nat} {n : NetD} (hok : n.Ok N) (j i : Nat) : (gs n (j + 1)).testBit i = true ↔ (gs n j).testBit i = true ∨ (i < N ∧ ∀ x, At n i x → ∃ z, (gs n j).testBit z = true ∧ At n x z) := by
  have hU := p64 hok.hN (hok.lb i)
  have hV := p64 hok.hN (uni_lt _ N hok.lo (bl (gs n j)) 0 (Nat.two_pow_pos N))
  have hk : okB n (uni n.out (bl (gs n j)) 0) i = true ↔ ∀ x, At n i x → ∃ z, (gs n j).testBit z = true ∧ At n x z := by
    unfold okB
    rw [beq_iff_eq, zero_iff]
    constructor
    · intro h x hx
      have h1 := h x
      rw [sdiff_bit _ _ _ hU hV, show (nth n.by_ i).testBit x = true from hx, Bool.true_and, Bool.not_eq_false'] at h1
      exact (uni_out hok (gs_lt hok j) x).1 h1
    · intro h x
      rw [sdiff_bit _ _ _ hU hV, bool_false_iff, Bool.and_eq_true, Bool.not_eq_true']
      rintro ⟨h1, h2⟩
      rw [(uni_out hok (gs_lt hok j) x).2 (h x h1)] at h2
      cases h2
  rw [gs, gstep_bit hok, Bool.or_eq_true, Bool.and_eq_true, decide_eq_true_iff, hk]
theorem gs_mono {N : Nat} {n : NetD} (hok : n.Ok N) {i : Nat} : ∀ (d j : Nat), (gs n j).testBit i = true → (gs n (j + d)).testBit i = true
  | 0, j, h => h
  | d + 1, j, h => (gs_bit hok (j + d) i).2 (.inl (gs_mono hok d j h))
theorem gs_le {N : Nat} {n : NetD} (hok : n.Ok N) {i j k : Nat} (hjk : j ≤ k) (h : (gs n j).testBit i = true) : (gs n k).testBit i = true := by
  have := gs_mono hok (k - j) j h
  rwa [Nat.add_sub_cancel' hjk] at this
/-- The round in which a node comes in. -/
theorem gs_first {N : Nat} {n : NetD} (hok : n.Ok N) {i : Nat} : ∀ j, (gs n j).testBit i = true → ∃ k, k < j ∧ (gs n (k + 1)).testBit i = true ∧ (gs n k).testBit i = false
  | 0, h => by simp [gs] at h
  | j + 1, h => by
    cases hb : (gs n j).testBit i with
    | false => exact ⟨j, Nat.lt_succ_self j, h, hb⟩
    | true =>
      obtain ⟨k, h1, h2⟩ := gs_first hok j hb
      exact ⟨k, by omega, h2⟩
theorem grd_gs (n : NetD) : ∀ (f j : Nat) (r : Nat), r ∈ grd n f (gs n j) → ∃ m, r = gs n m
  | 0, j, r, h => by cases h
  | f + 1, j, r, h => by
    rw [grd] at h
    split at h
    · cases h
    · rcases List.mem_cons.1 h with rfl | h
      · exact ⟨j + 1, rfl⟩
      · exact grd_gs n f (j + 1) r h
theorem gnd_gs (N : Nat) (n : NetD) : ∃ m, gnd N n = gs n m := by
  unfold gnd lastN
  by_cases h : 0 < (grd n (N + 1) 0).length
  · exact grd_gs n (N + 1) 0 _ (nth_mem (grd n (N + 1) 0) _ (by omega))
  · refine ⟨0, ?_⟩
    rw [nth, List.getD_eq_getElem?_getD, List.getElem?_eq_none (by omega)]; rfl
end Go.Proofs.YtgboplcjafmliaaDoor.G

/- Who can win: lines that are good for a player. No program here. -/
namespace Go.Proofs.YtgboplcjafmliaaDoor.G
open Go.RowKit
set_option linter.unusedVariables false
set_option linter.unusedSimpArgs false

/-- Lines that are good for a player (par: what the length of a line is, modulo 2, where the player moves). -/
structure Strat (N : Nat) (n : NetD) (game par : Nat) (Good : List Nat → Prop) : Prop where
  pl : ∀ l, Good l → PL N n game l
  other : ∀ l, Good l → l.length % 2 ≠ par → ∀ a, (legalM n game l).testBit a = true → Good (l ++ [a])
  mine : ∀ l, Good l → l.length % 2 = par → ∃ a, (legalM n game l).testBit a = true ∧ Good (l ++ [a])

theorem odd_snoc {l : List Nat} {a : Nat} : (l ++ [a]).length % 2 = 1 ↔ l.length % 2 = 0 := by
  rw [List.length_append, List.length_singleton]; omega
theorem even_snoc {l : List Nat} {a : Nat} : (l ++ [a]).length % 2 = 0 ↔ l.length % 2 = 1 := by
  rw [List.length_append, List.length_singleton]; omega

/-- The proponent of the grounded game. -/
def P1 (N : Nat) (n : NetD) (l : List Nat) : Prop := PL N n 1 l ∧ (l.length % 2 = 1 → ∃ j, (gs n (j + 1)).testBit (lastN l) = true ∧ ∀ q, (pm true l).testBit q = true → (gs n j).testBit q = false) ∧
  (l.length % 2 = 0 → ∃ j, (∃ z, (gs n j).testBit z = true ∧ At n (lastN l) z) ∧ ∀ q, (pm true l).testBit q = true → (gs n j).testBit q = false)
theorem P1.one {N : Nat} {n : NetD} (hok : n.Ok N) {root : Nat} (hr : root < N) (h : (gnd N n).testBit root = true) : P1 N n [root] := by
  refine ⟨PL.one hok hr (by simp), fun _ => ?_, fun h => by simp at h⟩
  obtain ⟨m, hm⟩ := gnd_gs N n
  rw [hm] at h
  obtain ⟨k, _, h1, h2⟩ := gs_first hok m h
  refine ⟨k, h1, fun q hq => ?_⟩
  have : q = root := by
    have : (0 ||| 2 ^ root).testBit q = true := by simpa [pm] using hq
    rcases (or_bit 0 root q).1 this with h | h
    · simp at h
    · exact h
  rw [this]; exact h2
theorem P1.strat {N : Nat} {n : NetD} (hok : n.Ok N) : Strat N n 1 0 (P1 N n) where
  pl := fun l h => h.1
  other := fun l h hp a ha => by
    have ho : l.length % 2 = 1 := by omega
    refine ⟨h.1.snoc hok (.inl rfl) ha, fun he => by rw [odd_snoc] at he; omega, fun _ => ?_⟩
    obtain ⟨j, h1, h2⟩ := h.2.1 ho
    have hla := (lg1O n ho a).1 ha
    rw [lastN_snoc, pmT_odd ho]
    rcases (gs_bit hok j _).1 h1 with h3 | ⟨_, h3⟩
    · have hl : (pm true l).testBit (lastN l) = true := by
        have hne := h.1.ne
        obtain ⟨l', x, rfl⟩ : ∃ l' x, l = l' ++ [x] := ⟨l.dropLast, l.getLast (List.ne_nil_of_length_pos hne), (List.dropLast_concat_getLast _).symm⟩
        rw [lastN_snoc, pmT_even (odd_snoc.1 ho), or_bit]
        exact .inr rfl
      rw [h2 _ hl] at h3; cases h3
    · obtain ⟨z, hz1, hz2⟩ := h3 a hla
      exact ⟨j, ⟨z, hz1, hz2⟩, h2⟩
  mine := fun l h he => by
    obtain ⟨j, ⟨z, hz1, hz2⟩, h2⟩ := h.2.2 he
    have hnew : (pm true l).testBit z = false := by
      cases hb : (pm true l).testBit z with
      | false => rfl
      | true => rw [h2 z hb] at hz1; cases hz1
    have hlg := (lg1P hok h.1.lt he z).2 ⟨hz2, hnew⟩
    refine ⟨z, hlg, h.1.snoc hok (.inl rfl) hlg, fun _ => ?_, fun h => by rw [even_snoc] at h; omega⟩
    obtain ⟨k, hk, h3, h4⟩ := gs_first hok j hz1
    rw [lastN_snoc, pmT_even he]
    refine ⟨k, h3, fun q hq => ?_⟩
    rcases (or_bit _ _ _).1 hq with hq | rfl
    · cases hb : (gs n k).testBit q with
      | false => rfl
      | true =>
        have := h2 q hq
        rw [gs_le hok (by omega : k ≤ j) hb] at this
        cases this
    · exact h4

/-- The opponent of the grounded game. -/
def O1 (N : Nat) (n : NetD) (l : List Nat) : Prop := PL N n 1 l ∧ (l.length % 2 = 1 → (gnd N n).testBit (lastN l) = false) ∧ (l.length % 2 = 0 → (gout N n).testBit (lastN l) = false)
theorem O1.one {N : Nat} {n : NetD} (hok : n.Ok N) {root : Nat} (hr : root < N) (h : (gnd N n).testBit root = false) : O1 N n [root] :=
  ⟨PL.one hok hr (by simp), fun _ => h, fun h => by simp at h⟩
theorem O1.strat {N : Nat} {n : NetD} (hok : n.Ok N) : Strat N n 1 1 (O1 N n) where
  pl := fun l h => h.1
  other := fun l h hp a ha => by
    have he : l.length % 2 = 0 := by omega
    refine ⟨h.1.snoc hok (.inl rfl) ha, fun _ => ?_, fun h => by rw [even_snoc] at h; omega⟩
    have hla := ((lg1P hok h.1.lt he a).1 ha).1
    have h1 := h.2.2 he
    rw [lastN_snoc]
    cases hb : (gnd N n).testBit a with
    | false => rfl
    | true =>
      rw [gout, (uni_out hok (gnd_lt hok) _).2 ⟨a, hb, hla⟩] at h1
      cases h1
  mine := fun l h ho => by
    have h1 := qO_spec hok h.1.last (h.2.1 ho)
    have hlg := (lg1O n ho (qO N n (lastN l))).2 h1.1
    refine ⟨_, hlg, h.1.snoc hok (.inl rfl) hlg, fun h => by rw [odd_snoc] at h; omega, fun _ => ?_⟩
    rw [lastN_snoc]; exact h1.2

/-- The proponent of the credulous game, with an admissible set. -/
def P2 (N : Nat) (n : NetD) (t : Nat) (l : List Nat) : Prop := PL N n 2 l ∧ (∀ q, (pm true l).testBit q = true → t.testBit q = true) ∧ (l.length % 2 = 0 → ∃ p, t.testBit p = true ∧ At n p (lastN l))
theorem pm_one (root q : Nat) : (pm true [root]).testBit q = true ↔ q = root := by
  have e : pm true [root] = 0 ||| 2 ^ root := by simp [pm]
  rw [e, or_bit]; simp
theorem P2.one {N : Nat} {n : NetD} (hok : n.Ok N) {t root : Nat} (ht : Adm N n t) (hr : root < N) (h : t.testBit root = true) : P2 N n t [root] :=
  ⟨PL.one hok hr (fun h1 => ht.2.1 root root h h h1.2), fun q hq => by rw [(pm_one root q).1 hq]; exact h, fun h => by simp at h⟩
theorem P2.strat {N : Nat} {n : NetD} (hok : n.Ok N) {t : Nat} (ht : Adm N n t) : Strat N n 2 0 (P2 N n t) where
  pl := fun l h => h.1
  other := fun l h hp a ha => by
    have ho : l.length % 2 = 1 := by omega
    obtain ⟨⟨p, h1, h2⟩, _⟩ := (lg2O hok h.1.lt ho a).1 ha
    refine ⟨h.1.snoc hok (.inr rfl) ha, fun q hq => ?_, fun _ => ⟨p, h.2.1 p h1, by rw [lastN_snoc]; exact h2⟩⟩
    rw [pmT_odd ho] at hq
    exact h.2.1 q hq
  mine := fun l h he => by
    obtain ⟨p, hp1, hp2⟩ := h.2.2 he
    obtain ⟨z, hz1, hz2⟩ := ht.2.2 p _ hp1 hp2
    have hlg := (lg2P hok he z).2 ⟨hz2, fun y hy => by
      have hyt : t.testBit y = true := by
        rcases hy with hy | rfl
        · exact h.2.1 y hy
        · exact hz1
      exact ⟨ht.2.1 z y hz1 hyt, ht.2.1 y z hyt hz1⟩⟩
    refine ⟨z, hlg, h.1.snoc hok (.inr rfl) hlg, fun q hq => ?_, fun h => by rw [even_snoc] at h; omega⟩
    rw [pmT_even he] at hq
    rcases (or_bit _ _ _).1 hq with hq | rfl
    · exact h.2.1 q hq
    · exact hz1

/-- The opponent of the credulous game, where no admissible set has the proponent's nodes. -/
def O2 (N : Nat) (n : NetD) (l : List Nat) : Prop := PL N n 2 l ∧ (∀ p q, (pm true l).testBit p = true → (pm true l).testBit q = true → ¬ At n p q) ∧ (∀ t, Adm N n t → ¬ ∀ i, (pm true l).testBit i = true → t.testBit i = true) ∧
  (∀ y, (pm false l).testBit y = true → (l.length % 2 = 0 ∧ y = lastN l) ∨ ∃ p, (pm true l).testBit p = true ∧ At n y p)
theorem O2.one {N : Nat} {n : NetD} (hok : n.Ok N) {root : Nat} (hr : root < N) (hs : ¬ At n root root) (h : srch n (N + 1) (2 ^ root) = none) : O2 N n [root] := by
  refine ⟨PL.one hok hr (fun h => hs h.2), fun p q hp hq => ?_, fun t ht hi => ?_, fun y hy => by simp [pm] at hy⟩
  · rw [(pm_one root p).1 hp, (pm_one root q).1 hq]; exact hs
  · have h2 := cov_dec (N := N) (s := 0) hr (by simp)
    have h3 := cov0 N
    refine srch_none hok (N + 1) (2 ^ root) (Nat.pow_lt_pow_right (by omega) hr) (by rw [Nat.zero_or] at h2; omega) h t ht (fun i hi2 => hi i ((pm_one root i).2 ?_))
    rw [Nat.testBit_two_pow, decide_eq_true_iff] at hi2
    exact hi2.symm
theorem O2.strat {N : Nat} {n : NetD} (hok : n.Ok N) : Strat N n 2 1 (O2 N n) where
  pl := fun l h => h.1
  other := fun l h hp a ha => by
    have he : l.length % 2 = 0 := by omega
    obtain ⟨h1, h2⟩ := (lg2P hok he a).1 ha
    refine ⟨h.1.snoc hok (.inr rfl) ha, fun p q hp hq => ?_, fun t ht hi => h.2.2.1 t ht (fun i hi2 => hi i (by rw [pmT_even he]; exact (or_bit _ _ _).2 (.inl hi2))), fun y hy => ?_⟩
    · rw [pmT_even he] at hp hq
      rcases (or_bit _ _ _).1 hp with hp2 | hp2
      · rcases (or_bit _ _ _).1 hq with hq2 | hq2
        · exact h.2.1 p q hp2 hq2
        · rw [hq2]; exact (h2 p (.inl hp2)).2
      · rw [hp2]; exact (h2 q ((or_bit _ _ _).1 hq)).1
    · rw [pmF_even he] at hy
      right
      rw [pmT_even he]
      rcases h.2.2.2 y hy with ⟨_, rfl⟩ | ⟨p, hp1, hp2⟩
      · exact ⟨a, (or_bit _ _ _).2 (.inr rfl), h1⟩
      · exact ⟨p, (or_bit _ _ _).2 (.inl hp1), hp2⟩
  mine := fun l h ho => by
    have hlt := pm_lt l true h.1.lt
    have hex : ∃ a, (legalM n 2 l).testBit a = true := by
      apply Classical.byContradiction
      intro hno
      refine h.2.2.1 (pm true l) ⟨hlt, h.2.1, fun p x hp hx => ?_⟩ (fun i hi => hi)
      cases hb : (pm false l).testBit x with
      | false => exact absurd ⟨x, (lg2O hok h.1.lt ho x).2 ⟨⟨p, hp, hx⟩, hb⟩⟩ hno
      | true =>
        rcases h.2.2.2 x hb with ⟨h1, _⟩ | h1
        · omega
        · exact h1
    obtain ⟨a, ha⟩ := hex
    refine ⟨a, ha, h.1.snoc hok (.inr rfl) ha, ?_, ?_, fun y hy => ?_⟩
    · rw [pmT_odd ho]; exact h.2.1
    · rw [pmT_odd ho]; exact h.2.2.1
    · rw [pmF_odd ho] at hy
      rw [pmT_odd ho, lastN_snoc, even_snoc]
      rcases (or_bit _ _ _).1 hy with hy | rfl
      · rcases h.2.2.2 y hy with ⟨h1, _⟩ | h1
        · omega
        · exact .inr h1
      · exact .inl ⟨ho, rfl⟩
end Go.Proofs.YtgboplcjafmliaaDoor.G
