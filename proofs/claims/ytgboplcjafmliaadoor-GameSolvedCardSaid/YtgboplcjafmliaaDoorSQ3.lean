/- Contracts of game.moved, legal, played, and what they compute. -/
import Derived.Test.YtgboplcjafmliaaDoorSQ2
import Derived.IntWalk
import Derived.Test.YtgboplcjafmliaaDoorPAllx3
/- Contracts of game.moved, legal, played, and what they compute. -/
namespace Go.Proofs.YtgboplcjafmliaaDoor.G
open Go.RowKit Go.Proofs.YtgboplcjafmliaaDoorW.PrintWords Go.Proofs.YtgboplcjafmliaaDoorW.PrintLast Go.Proofs.YtgboplcjafmliaaDoorW.PrintMore
open Go.Proofs.YtgboplcjafmliaaDoor.PAll
set_option linter.unusedVariables false
set_option linter.unusedSimpArgs false

/-- The nodes of every second place of a line, from the first (b) or the second place on, as a set. -/
def pm (b : Bool) : List Nat → Nat
  | [] => 0
  | x :: l => (if b then 2 ^ x else 0) ||| pm (!b) l
def ev (k : Nat) : Bool := k % 2 == 0
theorem ev_succ (k : Nat) : ev (k + 1) = !ev k := by
  unfold ev
  rcases Nat.mod_two_eq_zero_or_one k with h | h <;> simp [h] <;> omega
theorem pm_lt {N : Nat} : ∀ (l : List Nat) (b : Bool), (∀ x, x ∈ l → x < N) → pm b l < 2 ^ N
  | [], _, _ => Nat.two_pow_pos N
  | x :: l, b, h => by
    refine Nat.or_lt_two_pow ?_ (pm_lt l _ fun y hy => h y (List.mem_cons_of_mem _ hy))
    cases b
    · exact Nat.two_pow_pos N
    · exact Nat.pow_lt_pow_right (by omega) (h x List.mem_cons_self)

set_option maxHeartbeats 2000000 in
set_option maxRecDepth 100000 in
theorem moved_any (N : Nat) (hN : N ≤ 40) (l : List Nat) (hl : ∀ x, x ∈ l → x < N) (A : Option Addr) (c : Nat) (w : World) (hb : l.length < 2 ^ 40) (hr : RdN .i64 w A c l) :
    Calls Tryd.prog 67 #[.slice A l.length c] w fun e w' => e = .returned (.tuple #[.int .u64 ((pm true l : Nat) : Int), .int .u64 ((pm false l : Nat) : Int)]) ∧ w = w' := by
  have HL := Aside0.mk hl
  have HR := Aside0.mk hr
  clear hl hr
  go_enter Tryd.func67, Tryd.ntmps67
  go_wp2
  go_loop [2, 3, 4, 5, 8] (fun v2 v3 v4 v5 v8 => ∃ (k a b : Nat), v8 = .int .i64 k ∧ k ≤ l.length ∧ v2 = .int .u64 a ∧ v3 = .int .u64 b ∧ Aside0 (a < 2 ^ 64 ∧ b < 2 ^ 64) ∧ Aside0 (a ||| pm (ev k) (l.drop k) = pm true l) ∧ Aside0 (b ||| pm (!ev k) (l.drop k) = pm false l)) (fun _ _ _ _ v8 => l.length - (intOf v8).toNat)
  case atStart => exact ⟨0, 0, 0, rfl, Nat.zero_le _, rfl, rfl, ⟨by decide, by decide⟩, ⟨by simp [ev]⟩, ⟨by simp [ev]⟩⟩
  case round =>
    obtain ⟨k, a, b, rfl, hk, rfl, rfl, HAB, HA, HBb⟩ := hrel
    by_cases hlt : k < l.length
    · obtain ⟨ad, rfl, hc⟩ := HR.out.cell k hlt
      have HD := Aside0.mk (nth_drop _ k hlt)
      have hx := HL.out _ (nth_mem _ k hlt)
      have HEv := Aside0.mk (ev_succ k)
      generalize nth l k = x at *
      have hx40 : x < 64 := by omega
      have HW1 := Aside0.mk (with_any a x HAB.out.1 hx40)
      have HW2 := Aside0.mk (with_any b x HAB.out.2 hx40)
      have hpx := pow_lt' x hx40
      have HPx := Aside0.mk hpx
      clear hpx
      by_cases he : k % 2 = 0
      · have hmod : ((((k : Int) % 2) == 0) = true) := by rw [beq_iff_eq]; omega
        have HEk : Aside0 (ev k = true) := ⟨by simp [ev, he]⟩
        clear he
        go_wp2_with (first | (go_at_call 28; refine (HW1.out _).mono ?_; rintro e w' ⟨rfl, rfl⟩))
        refine ⟨⟨k + 1, a ||| 2 ^ x, b, by go_num, hlt, rfl, rfl, ⟨or_lt _ _ HAB.out.1 HPx.out, HAB.out.2⟩, ⟨?_⟩, ⟨?_⟩⟩, by simp [intOf]; omega⟩
        · rw [← HA.out, HD.out, HEv.out, HEk.out, pm]; simp [Nat.or_assoc]
        · rw [← HBb.out, HD.out, HEv.out, HEk.out, pm]; simp
      · have hmod : ((((k : Int) % 2) == 0) = false) := by rw [beq_eq_false_iff_ne]; omega
        have HEk : Aside0 (ev k = false) := ⟨by simp [ev, he]⟩
        clear he
        go_wp2_with (first | (go_at_call 28; refine (HW2.out _).mono ?_; rintro e w' ⟨rfl, rfl⟩))
        refine ⟨⟨k + 1, a, b ||| 2 ^ x, by go_num, hlt, rfl, rfl, ⟨HAB.out.1, or_lt _ _ HAB.out.2 HPx.out⟩, ⟨?_⟩, ⟨?_⟩⟩, by simp [intOf]; omega⟩
        · rw [← HA.out, HD.out, HEv.out, HEk.out, pm]; simp
        · rw [← HBb.out, HD.out, HEv.out, HEk.out, pm]; simp [Nat.or_assoc]
    · go_wp2
      go_ret2
      have hkl : k = l.length := by omega
      have h1 := HA.out
      have h2 := HBb.out
      rw [hkl, List.drop_length, pm, Nat.or_zero] at h1 h2
      rw [h1, h2]
      exact ⟨rfl, rfl⟩

/-- The legal moves behind a line that is not empty. -/
def mayM (n : NetD) (p x : Nat) : Bool := (nth n.by_ x ||| nth n.out x) &&& (p ||| 2 ^ x) == 0
def lastN (l : List Nat) : Nat := nth l (l.length - 1)
def legalM (n : NetD) (game : Nat) (l : List Nat) : Nat :=
  if game = 1 then (if l.length % 2 = 1 then nth n.by_ (lastN l) else sdiff (nth n.by_ (lastN l)) (pm true l))
  else if l.length % 2 = 1 then sdiff (uni n.by_ (bl (pm true l)) 0) (pm false l)
  else (bl (nth n.by_ (lastN l))).foldl (fun a x => if mayM n (pm true l) x then a ||| 2 ^ x else a) 0

set_option maxHeartbeats 4000000 in
set_option maxRecDepth 100000 in
theorem legal_any (N : Nat) (n : NetD) (hok : n.Ok N) (game : Nat) (hg : game = 1 ∨ game = 2) (l : List Nat) (h0 : 0 < l.length) (hb : l.length < 2 ^ 40) (hl : ∀ x, x ∈ l → x < N) (A : Option Addr) (c : Nat) (v : Value) (w : World) (hT : TabW w) (hn : NetV w n v) (hr : RdN .i64 w A c l) :
    Calls Tryd.prog 42 #[v, .int .i64 game, .slice A l.length c] w fun e w' => e = .returned (.int .u64 ((legalM n game l : Nat) : Int)) ∧ Aside0 (Below w.heap.size w w') := by
  have hn0 := hn
  obtain ⟨A1, c1, A2, c2, rfl, h2, h3⟩ := hn
  have HN := Aside0.mk hn0
  have H2 := Aside0.mk h2
  have H3 := Aside0.mk h3
  have HT := Aside0.mk hT
  have HOk := Aside0.mk hok
  have HL := Aside0.mk hl
  have HR := Aside0.mk hr
  have hx := hl _ (nth_mem l (l.length - 1) (by omega))
  clear hT h2 h3 hok hn0 hl hr
  obtain ⟨y, hyy⟩ : ∃ y, lastN l = y := ⟨_, rfl⟩
  have HY := Aside0.mk hyy
  rw [show nth l (l.length - 1) = y from hyy] at hx
  clear hyy
  have hyl : y < n.by_.length := by rw [HOk.out.hb]; exact hx
  have HB := Aside0.mk (St.refl w)
  let O : Obj := .cells #[.int .u64 n.all, .slice A1 n.by_.length c1, .slice A2 n.out.length c2] 64 (0, 0)
  go_enter Tryd.func42, Tryd.ntmps42
  go_wp2_with (first | ((with_reducible refine gate_dst (N := 3) rfl ?_); refine box_st (w := w) 3 #[.int .u64 n.all, .slice A1 n.by_.length c1, .slice A2 n.out.length c2] 64 rfl rfl ?hr HB.out ?_; (case hr => go_simp; done); clear HB; intro g w1 HB GE) | (go_at_call 67; refine (moved_any N HOk.out.hN l HL.out A c _ hb (HR.out.below HB.out.hb)).mono ?_; rintro e w2 ⟨rfl, rfl⟩))
  obtain ⟨ad, rfl, hc⟩ := (HR.out.below HB.out.hb).cell (l.length - 1) (by omega)
  rw [show nth l (l.length - 1) = y from HY.out] at hc
  obtain ⟨ad1, rfl, hc1⟩ := (H2.out.below HB.out.hb).cell y hyl
  have hg1 := (HB.out.at_ (List.mem_cons_self) 1).trans rfl
  have q1 : (0 : Int) ≤ (l.length : Int) - 1 := by omega
  have q2 : (l.length : Int) - 1 < (l.length : Int) := by omega
  have q3 : ((l.length : Int) - 1).toNat = l.length - 1 := by omega
  have q4 : IntKind.i64.wrap ((l.length : Int) - 1) = (l.length : Int) - 1 := IntWalk.i64_in _ (by omega)
  have q5 : (0 : Int) ≤ (y : Int) := by omega
  have q6 : (y : Int) < (n.by_.length : Int) := by omega
  go_quiet (fail)
  clear q1 q2 q3 q4 q5 q6 hg1 hc1 hc
  have hP : pm true l < 2 ^ N := pm_lt l true HL.out
  have hO : pm false l < 2 ^ N := pm_lt l false HL.out
  have HP := Aside0.mk hP
  have HO := Aside0.mk hO
  clear hP hO
  have HB1 := Aside0.mk (HB.out.drewN nq)
  by_cases hpar : l.length % 2 = 1
  · have e2 : (((l.length : Int) % 2) == 1) = true := by rw [beq_iff_eq]; omega
    rcases hg with hg | hg
    · have e1 : ((game : Int) == 1) = true := by rw [beq_iff_eq]; omega
      have HE : Aside0 (legalM n game l = nth n.by_ y) := ⟨by rw [legalM, if_pos hg, if_pos hpar, HY.out]⟩
      clear hg hpar
      go_wp2
      go_ret
      exact ⟨by rw [HE.out]; rfl, ⟨HB1.out.hb⟩⟩
    · have e1 : ((game : Int) == 1) = false := by rw [beq_eq_false_iff_ne]; omega
      have HE : Aside0 (legalM n game l = sdiff (uni n.by_ (bl (pm true l)) 0) (pm false l)) := ⟨by rw [legalM, if_neg (by omega), if_pos hpar]⟩
      clear hg hpar
      have hg0 := (HB1.out.at_ (List.mem_cons_self) 0).trans rfl
      have hg1 := (HB1.out.at_ (List.mem_cons_self) 1).trans rfl
      have hg2 := (HB1.out.at_ (List.mem_cons_self) 2).trans rfl
      go_wp2_with (first | (go_at_call 56; refine (attackers_any N n HOk.out _ (pm true l) HP.out _ (HT.out.below HT.out.2 HB1.out.hb) (HN.out.below HB1.out.hb)).mono ?_; rintro e w3 ⟨rfl, hb3⟩; have HB2 := Aside0.mk (HB1.out.nx hb3.out)))
      go_ret
      refine ⟨?_, ⟨HB2.out.hb⟩⟩
      rw [HE.out]
      exact congrArg (fun z => Ending.returned (.int .u64 z)) (u64_andNot_nat _ _ (p64 HOk.out.hN (uni_lt _ N HOk.out.lb _ _ (Nat.two_pow_pos N))) (p64 HOk.out.hN HO.out))
  · have e2 : (((l.length : Int) % 2) == 1) = false := by rw [beq_eq_false_iff_ne]; omega
    rcases hg with hg | hg
    · have e1 : ((game : Int) == 1) = true := by rw [beq_iff_eq]; omega
      have HE : Aside0 (legalM n game l = sdiff (nth n.by_ y) (pm true l)) := ⟨by rw [legalM, if_pos hg, if_neg hpar, HY.out]⟩
      clear hg hpar
      go_wp2
      go_ret
      refine ⟨?_, ⟨HB1.out.hb⟩⟩
      rw [HE.out]
      exact congrArg (fun z => Ending.returned (.int .u64 z)) (u64_andNot_nat _ _ (p64 HOk.out.hN (HOk.out.lb y)) (p64 HOk.out.hN HP.out))
    · have e1 : ((game : Int) == 1) = false := by rw [beq_eq_false_iff_ne]; omega
      have HE : Aside0 (legalM n game l = (bl (nth n.by_ y)).foldl (fun a x => if mayM n (pm true l) x then a ||| 2 ^ x else a) 0) := ⟨by rw [legalM, if_neg (by omega), if_neg hpar, HY.out]⟩
      clear hg hpar
      go_wp2_with (first | (go_at_call 43; refine (list_rd (nth n.by_ y) (p64 HOk.out.hN (HOk.out.lb y)) _ (HT.out.below HT.out.2 HB1.out.hb)).mono ?_; rintro e w3 ⟨A54, c54, rfl, HL54, hb3⟩; have HB2 := Aside0.mk (HB1.out.nx hb3.out); clear hb3))
      have hl64 := bl_length (nth n.by_ y)
      have HW3 : Aside0 (St w3 [(g, O)] w3) := ⟨⟨Below.refl _ _, HB2.out.blk⟩⟩
      go_loopw [11, 13, 56] (fun v11 v13 v56 w' => ∃ k acc : Nat, v56 = .int .i64 k ∧ k ≤ (bl (nth n.by_ y)).length ∧ v11 = .int .u64 acc ∧ Aside0 (acc < 2 ^ 64) ∧ Aside0 (((bl (nth n.by_ y)).drop k).foldl (fun a x => if mayM n (pm true l) x then a ||| 2 ^ x else a) acc = (bl (nth n.by_ y)).foldl (fun a x => if mayM n (pm true l) x then a ||| 2 ^ x else a) 0) ∧ Aside0 (St w3 [(g, O)] w')) (fun _ _ v56 _ => (bl (nth n.by_ y)).length - (intOf v56).toNat)
      case atStart => exact ⟨0, 0, rfl, Nat.zero_le _, rfl, ⟨by decide⟩, ⟨rfl⟩, HW3⟩
      case round =>
        obtain ⟨k, acc, rfl, hk, rfl, HA, HF, HW⟩ := hrel
        by_cases hlt : k < (bl (nth n.by_ y)).length
        · obtain ⟨ad4, rfl, hc⟩ := (HL54.out.below HW.out.hb).cell k hlt
          have hx := bl_in HOk.out.hN (HOk.out.lb y) (nth_mem _ k hlt)
          have HD := Aside0.mk (nth_drop _ k hlt)
          generalize nth (bl (nth n.by_ y)) k = x at *
          have hx64 : x < 64 := Nat.lt_of_lt_of_le hx (Nat.le_trans HOk.out.hN (by omega))
          have HBr := Aside0.mk (HB2.out.nx HW.out.hb)
          obtain ⟨ad5, e5, hc5⟩ := (H2.out.below HBr.out.hb).cell x (by rw [HOk.out.hb]; exact hx)
          obtain rfl : ad1 = ad5 := by injection e5
          obtain ⟨ad6, rfl, hc6⟩ := (H3.out.below HBr.out.hb).cell x (by rw [HOk.out.ho]; exact hx)
          have hg1 := (HBr.out.at_ (List.mem_cons_self) 1).trans rfl
          have hg2 := (HBr.out.at_ (List.mem_cons_self) 2).trans rfl
          have q0 : (0 : Int) ≤ (x : Int) := by omega
          have q1 : (x : Int) < (n.by_.length : Int) := by rw [HOk.out.hb]; omega
          have q2 : (x : Int) < (n.out.length : Int) := by rw [HOk.out.ho]; omega
          have HPx := Aside0.mk (pow_lt' x hx64)
          have hp64 := p64 HOk.out.hN HP.out
          have C28 := Aside0.mk (fun w : World => with_any_q (pm true l) x hp64 hx64 w)
          have C28a := Aside0.mk (fun w : World => with_any acc x HA.out hx64 w)
          have hkk : (bits .and .u64 (bits .or .u64 ((nth n.by_ x : Nat) : Int) ((nth n.out x : Nat) : Int)) ((pm true l ||| 2 ^ x : Nat) : Int) == 0) = mayM n (pm true l) x := by
            rw [u64_or_nat _ _ (p64 HOk.out.hN (HOk.out.lb x)) (p64 HOk.out.hN (HOk.out.lo x)), u64_and_nat _ _ (or_lt _ _ (p64 HOk.out.hN (HOk.out.lb x)) (p64 HOk.out.hN (HOk.out.lo x))) (or_lt _ _ hp64 HPx.out), mayM, Bool.eq_iff_iff]
            simp
          clear hp64
          cases hm : mayM n (pm true l) x with
          | true =>
            rw [hm] at hkk
            have HM := Aside0.mk hm
            clear hm
            go_wp2
            go_quiet ((go_at_call 28; exact Calls.quiet_of_same (C28.out _)))
            clear hg1 hg2 hc hc5 hc6
            have HW2 := Aside0.mk (HW.out.drewN nq)
            go_wp2_with (first | (go_at_call 28; refine (C28a.out _).mono ?_; rintro e w' ⟨rfl, rfl⟩))
            refine ⟨⟨k + 1, acc ||| 2 ^ x, by go_num, hlt, rfl, ⟨or_lt _ _ HA.out HPx.out⟩, ⟨?_⟩, HW2⟩, by simp [intOf]; omega⟩
            rw [← HF.out, HD.out, List.foldl_cons, HM.out, if_pos rfl]
          | false =>
            rw [hm] at hkk
            have HM := Aside0.mk hm
            clear hm
            go_wp2
            go_quiet ((go_at_call 28; exact Calls.quiet_of_same (C28.out _)))
            clear hg1 hg2 hc hc5 hc6
            have HW2 := Aside0.mk (HW.out.drewN nq)
            go_wp2
            refine ⟨⟨k + 1, acc, by go_num, hlt, rfl, HA, ⟨?_⟩, HW2⟩, by simp [intOf]; omega⟩
            rw [← HF.out, HD.out, List.foldl_cons, HM.out, if_neg (by simp)]
        · go_wp2
          go_ret
          have hkl : k = (bl (nth n.by_ y)).length := by omega
          have he := HF.out
          rw [hkl, List.drop_length] at he
          refine ⟨?_, ⟨(HB2.out.nx HW.out.hb).hb⟩⟩
          rw [HE.out, ← he]; rfl

theorem legal_lt {N : Nat} {n : NetD} (hok : n.Ok N) (game : Nat) (l : List Nat) (hl : ∀ x, x ∈ l → x < N) : legalM n game l < 2 ^ N := by
  have hU := uni_lt _ N hok.lb (bl (pm true l)) 0 (Nat.two_pow_pos N)
  have key : ∀ (q : List Nat) (a : Nat), (∀ x, x ∈ q → x < N) → a < 2 ^ N → q.foldl (fun a x => if mayM n (pm true l) x then a ||| 2 ^ x else a) a < 2 ^ N := by
    intro q
    induction q with
    | nil => intro a _ h; exact h
    | cons x q ih =>
      intro a hq ha
      rw [List.foldl_cons]
      apply ih _ (fun y hy => hq y (List.mem_cons_of_mem _ hy))
      split
      · exact Nat.or_lt_two_pow ha (Nat.pow_lt_pow_right (by omega) (hq x List.mem_cons_self))
      · exact ha
  unfold legalM
  split
  · split
    · exact hok.lb _
    · exact Nat.lt_of_le_of_lt Nat.and_le_left (hok.lb _)
  · split
    · exact Nat.lt_of_le_of_lt Nat.and_le_left hU
    · exact key _ _ (fun x hx => bl_in hok.hN (hok.lb _) hx) (Nat.two_pow_pos N)

/-- Whether a line that is not empty is played. -/
def playedB (n : NetD) (game : Nat) (l : List Nat) : Bool :=
  if game = 2 ∧ (nth n.by_ (nth l 0)).testBit (nth l 0) = true then false
  else (List.range' 1 (l.length - 1)).all fun i => (legalM n game (l.take i)).testBit (nth l i)

set_option maxHeartbeats 4000000 in
set_option maxRecDepth 100000 in
theorem played_any (N : Nat) (n : NetD) (hok : n.Ok N) (game : Nat) (hg : game = 1 ∨ game = 2) (l : List Nat) (h0 : 0 < l.length) (hb : l.length < 2 ^ 40) (hl : ∀ x, x ∈ l → x < N) (A : Option Addr) (c : Nat) (v : Value) (w : World) (hT : TabW w) (hn : NetV w n v) (hr : RdN .i64 w A c l) :
    Calls Tryd.prog 66 #[v, .int .i64 game, .slice A l.length c] w fun e w' => e = .returned (.bool (playedB n game l)) ∧ Aside0 (Below w.heap.size w w') := by
  have hn0 := hn
  obtain ⟨A1, c1, A2, c2, rfl, h2, h3⟩ := hn
  have HN := Aside0.mk hn0
  have H2 := Aside0.mk h2
  have HT := Aside0.mk hT
  have HOk := Aside0.mk hok
  have HL := Aside0.mk hl
  have HR := Aside0.mk hr
  have hx := hl _ (nth_mem l 0 h0)
  clear hT h2 h3 hok hn0 hl hr
  obtain ⟨y, hyy⟩ : ∃ y, nth l 0 = y := ⟨_, rfl⟩
  have HY := Aside0.mk hyy
  rw [hyy] at hx
  clear hyy
  have hyl : y < n.by_.length := by rw [HOk.out.hb]; exact hx
  have hy64 : y < 64 := Nat.lt_of_lt_of_le hx (Nat.le_trans HOk.out.hN (by omega))
  have HB := Aside0.mk (St.refl w)
  let O : Obj := .cells #[.int .u64 n.all, .slice A1 n.by_.length c1, .slice A2 n.out.length c2] 64 (0, 0)
  have C46 := Aside0.mk (fun w : World => has_any_q (nth n.by_ y) y (p64 HOk.out.hN (HOk.out.lb y)) hy64 w)
  have q1 : (0 : Int) < (l.length : Int) := by omega
  have q5 : (0 : Int) ≤ (y : Int) := by omega
  have q6 : (y : Int) < (n.by_.length : Int) := by omega
  have HG := Aside0.mk hg
  rcases hg with hg | hg
  · have e1 : ((game : Int) == 2) = false := by rw [beq_eq_false_iff_ne]; omega
    have HPl : Aside0 (playedB n game l = (List.range' 1 (l.length - 1)).all fun i => (legalM n game (l.take i)).testBit (nth l i)) := ⟨by rw [playedB, if_neg (by omega)]⟩
    clear hg
    go_enter Tryd.func66, Tryd.ntmps66
    go_wp2_with (first | ((with_reducible refine gate_dst (N := 3) rfl ?_); refine box_st (w := w) 3 #[.int .u64 n.all, .slice A1 n.by_.length c1, .slice A2 n.out.length c2] 64 rfl rfl ?hr HB.out ?_; (case hr => go_simp; done); clear HB; intro g w1 HB GE))
    go_quiet (fail)
    have HBx := Aside0.mk (HB.out.drewN nq)
    clear q1 q5 q6 C46 HB
    go_wp2
    go_loopw [7] (fun v7 w' => ∃ k : Nat, v7 = .int .i64 k ∧ 1 ≤ k ∧ k ≤ l.length ∧ Aside0 (((List.range' k (l.length - k)).all fun i => (legalM n game (l.take i)).testBit (nth l i)) = playedB n game l) ∧ Aside0 (St w [(g, O)] w')) (fun v7 _ => l.length - (intOf v7).toNat)
    case atStart => exact ⟨1, rfl, Nat.le_refl _, h0, ⟨HPl.out.symm⟩, HBx⟩
    case round =>
      obtain ⟨k, rfl, hk1, hk, HE, HW⟩ := hrel
      by_cases hlt : k < l.length
      · obtain ⟨ad, rfl, hc⟩ := (HR.out.below HW.out.hb).cell k hlt
        have HX := Aside0.mk (HL.out _ (nth_mem l k hlt))
        have hlen : (l.take k).length = k := by rw [List.length_take]; omega
        have HLen := Aside0.mk hlen
        have HMem : Aside0 (∀ x, x ∈ l.take k → x < N) := ⟨fun x hx => HL.out x (List.mem_of_mem_take hx)⟩
        have hx64 : nth l k < 64 := Nat.lt_of_lt_of_le HX.out (Nat.le_trans HOk.out.hN (by omega))
        clear hlen
        have HRng := Aside0.mk (show List.range' k (l.length - k) = k :: List.range' (k + 1) (l.length - (k + 1)) by rw [show l.length - k = (l.length - (k + 1)) + 1 by omega, List.range'_succ])
        have HLg := Aside0.mk (legal_lt HOk.out game (l.take k) HMem.out)
        have HRt := Aside0.mk (HR.out.take k (by omega))
        generalize hLk : nth l k = x at *
        have HLk := Aside0.mk hLk
        clear hLk
        haveI : Nonempty (Gd (St wr [(g, O)])) := ⟨⟨wr, ⟨Below.refl _ _, HW.out.blk⟩⟩⟩
        have hs0 : ∀ i : Gd (St wr [(g, O)]), i.v.cell? ⟨g, 0, none⟩ = some (.int .u64 n.all) := fun i => (i.h.at_ List.mem_cons_self 0).trans rfl
        have hs1 : ∀ i : Gd (St wr [(g, O)]), i.v.cell? ⟨g, 1, none⟩ = some (.slice A1 n.by_.length c1) := fun i => (i.h.at_ List.mem_cons_self 1).trans rfl
        have hs2 : ∀ i : Gd (St wr [(g, O)]), i.v.cell? ⟨g, 2, none⟩ = some (.slice A2 n.out.length c2) := fun i => (i.h.at_ List.mem_cons_self 2).trans rfl
        have hs3 : ∀ i : Gd (St wr [(g, O)]), i.v.cell? (ad.add k) = some (.int .i64 x) := fun i => pw_cell_below i.h.hb hc
        have hki : (k : Int) < (l.length : Int) := by omega
        have hk0 : (0 : Int) ≤ (k : Int) := by omega
        have hkc : (k : Int) ≤ (c : Int) := by have := HR.out.1; omega
        have C42 := Aside0.mk (fun i : Gd (St wr [(g, O)]) => i.h.gdnx (legal_any N n HOk.out game HG.out (l.take k) (by rw [HLen.out]; exact hk1) (by rw [HLen.out]; omega) HMem.out (some ad) c _ i.v ((HT.out.below HT.out.2 HW.out.hb).below (HT.out.below HT.out.2 HW.out.hb).2 i.h.hb) ((HN.out.below HW.out.hb).below i.h.hb) ((HRt.out.below HW.out.hb).below i.h.hb)))
        rw [HLen.out] at C42
        have C46b := Aside0.mk (fun i : Gd (St wr [(g, O)]) => i.h.gdsame (has_any (legalM n game (l.take k)) x (p64 HOk.out.hN HLg.out) hx64 i.v))
        go_wp2
        refine wp_quiet_cls (fun x => ∃ i : Gd (St wr [(g, O)]), x = i.v) (by kernel_rfl) (by kernel_rfl) ⟨⟨wr.drew, ⟨(Below.refl _ _).drew, HW.out.blk⟩⟩, rfl⟩ ?_
        repeat (quiet_step (first | (go_at_call 42; exact C42.out _) | (go_at_call 46; exact C46b.out _)))
        refine wpQuiet_nil ?_
        clear C42 C46b hs0 hs1 hs2 hs3 this hc hki hk0 hkc
        rintro _ ⟨⟨w6, hb6⟩, rfl⟩
        have HW6 := Aside0.mk (HW.out.nx hb6.hb)
        clear hb6
        cases hbit : (legalM n game (l.take k)).testBit x with
        | true =>
          have HBit := Aside0.mk hbit
          clear hbit
          go_wp2
          refine ⟨⟨k + 1, by go_num, by omega, hlt, ⟨?_⟩, HW6⟩, by simp [intOf]; omega⟩
          rw [← HE.out, HRng.out, List.all_cons, HLk.out, HBit.out, Bool.true_and]
        | false =>
          have HBit := Aside0.mk hbit
          clear hbit
          go_wp2
          go_ret
          refine ⟨?_, ⟨HW6.out.hb⟩⟩
          rw [← HE.out, HRng.out, List.all_cons, HLk.out, HBit.out, Bool.false_and]; rfl
      · go_wp2
        go_ret
        have hkl : k = l.length := by omega
        have he := HE.out
        rw [hkl, Nat.sub_self, List.range'_zero] at he
        refine ⟨?_, ⟨HW.out.hb⟩⟩
        rw [← he]; rfl
  · have e1 : ((game : Int) == 2) = true := by rw [beq_iff_eq]; omega
    by_cases hself : (nth n.by_ y).testBit y = true
    · have HPl : Aside0 (playedB n game l = false) := ⟨by rw [playedB, HY.out, if_pos ⟨hg, hself⟩]⟩
      rw [hself] at C46
      clear hg hself
      go_enter Tryd.func66, Tryd.ntmps66
      go_wp2_with (first | ((with_reducible refine gate_dst (N := 3) rfl ?_); refine box_st (w := w) 3 #[.int .u64 n.all, .slice A1 n.by_.length c1, .slice A2 n.out.length c2] 64 rfl rfl ?hr HB.out ?_; (case hr => go_simp; done); clear HB; intro g w1 HB GE))
      obtain ⟨ad, rfl, hc⟩ := (HR.out.below HB.out.hb).cell0 h0
      rw [show nth l 0 = y from HY.out] at hc
      obtain ⟨ad1, rfl, hc1⟩ := (H2.out.below HB.out.hb).cell y hyl
      have hg1 := (HB.out.at_ (List.mem_cons_self) 1).trans rfl
      go_quiet ((go_at_call 46; exact Calls.quiet_of_same (C46.out _)))
      have HBx := Aside0.mk (HB.out.drewN nq)
      clear q1 q5 q6 C46 HB hg1 hc1 hc
      go_wp2
      go_ret
      exact ⟨by rw [HPl.out]; rfl, ⟨HBx.out.hb⟩⟩
    · have HPl : Aside0 (playedB n game l = (List.range' 1 (l.length - 1)).all fun i => (legalM n game (l.take i)).testBit (nth l i)) := ⟨by rw [playedB, HY.out, if_neg (fun h => hself h.2)]⟩
      have hself : (nth n.by_ y).testBit y = false := by simpa using hself
      rw [hself] at C46
      clear hg hself
      go_enter Tryd.func66, Tryd.ntmps66
      go_wp2_with (first | ((with_reducible refine gate_dst (N := 3) rfl ?_); refine box_st (w := w) 3 #[.int .u64 n.all, .slice A1 n.by_.length c1, .slice A2 n.out.length c2] 64 rfl rfl ?hr HB.out ?_; (case hr => go_simp; done); clear HB; intro g w1 HB GE))
      obtain ⟨ad, rfl, hc⟩ := (HR.out.below HB.out.hb).cell0 h0
      rw [show nth l 0 = y from HY.out] at hc
      obtain ⟨ad1, rfl, hc1⟩ := (H2.out.below HB.out.hb).cell y hyl
      have hg1 := (HB.out.at_ (List.mem_cons_self) 1).trans rfl
      go_quiet ((go_at_call 46; exact Calls.quiet_of_same (C46.out _)))
      have HBx := Aside0.mk (HB.out.drewN nq)
      clear q1 q5 q6 C46 HB hg1 hc1 hc
      go_wp2
      go_loopw [7] (fun v7 w' => ∃ k : Nat, v7 = .int .i64 k ∧ 1 ≤ k ∧ k ≤ l.length ∧ Aside0 (((List.range' k (l.length - k)).all fun i => (legalM n game (l.take i)).testBit (nth l i)) = playedB n game l) ∧ Aside0 (St w [(g, O)] w')) (fun v7 _ => l.length - (intOf v7).toNat)
      case atStart => exact ⟨1, rfl, Nat.le_refl _, h0, ⟨HPl.out.symm⟩, HBx⟩
      case round =>
        obtain ⟨k, rfl, hk1, hk, HE, HW⟩ := hrel
        by_cases hlt : k < l.length
        · obtain ⟨ad', ead, hc⟩ := (HR.out.below HW.out.hb).cell k hlt
          obtain rfl : ad = ad' := by injection ead
          have HX := Aside0.mk (HL.out _ (nth_mem l k hlt))
          have hlen : (l.take k).length = k := by rw [List.length_take]; omega
          have HLen := Aside0.mk hlen
          have HMem : Aside0 (∀ x, x ∈ l.take k → x < N) := ⟨fun x hx => HL.out x (List.mem_of_mem_take hx)⟩
          have hx64 : nth l k < 64 := Nat.lt_of_lt_of_le HX.out (Nat.le_trans HOk.out.hN (by omega))
          clear hlen
          have HRng := Aside0.mk (show List.range' k (l.length - k) = k :: List.range' (k + 1) (l.length - (k + 1)) by rw [show l.length - k = (l.length - (k + 1)) + 1 by omega, List.range'_succ])
          have HLg := Aside0.mk (legal_lt HOk.out game (l.take k) HMem.out)
          have HRt := Aside0.mk (HR.out.take k (by omega))
          generalize hLk : nth l k = x at *
          have HLk := Aside0.mk hLk
          clear hLk
          haveI : Nonempty (Gd (St wr [(g, O)])) := ⟨⟨wr, ⟨Below.refl _ _, HW.out.blk⟩⟩⟩
          have hs0 : ∀ i : Gd (St wr [(g, O)]), i.v.cell? ⟨g, 0, none⟩ = some (.int .u64 n.all) := fun i => (i.h.at_ List.mem_cons_self 0).trans rfl
          have hs1 : ∀ i : Gd (St wr [(g, O)]), i.v.cell? ⟨g, 1, none⟩ = some (.slice (some ad1) n.by_.length c1) := fun i => (i.h.at_ List.mem_cons_self 1).trans rfl
          have hs2 : ∀ i : Gd (St wr [(g, O)]), i.v.cell? ⟨g, 2, none⟩ = some (.slice A2 n.out.length c2) := fun i => (i.h.at_ List.mem_cons_self 2).trans rfl
          have hs3 : ∀ i : Gd (St wr [(g, O)]), i.v.cell? (ad.add k) = some (.int .i64 x) := fun i => pw_cell_below i.h.hb hc
          have hki : (k : Int) < (l.length : Int) := by omega
          have hk0 : (0 : Int) ≤ (k : Int) := by omega
          have hkc : (k : Int) ≤ (c : Int) := by have := HR.out.1; omega
          have C42 := Aside0.mk (fun i : Gd (St wr [(g, O)]) => i.h.gdnx (legal_any N n HOk.out game HG.out (l.take k) (by rw [HLen.out]; exact hk1) (by rw [HLen.out]; omega) HMem.out (some ad) c _ i.v ((HT.out.below HT.out.2 HW.out.hb).below (HT.out.below HT.out.2 HW.out.hb).2 i.h.hb) ((HN.out.below HW.out.hb).below i.h.hb) ((HRt.out.below HW.out.hb).below i.h.hb)))
          rw [HLen.out] at C42
          have C46b := Aside0.mk (fun i : Gd (St wr [(g, O)]) => i.h.gdsame (has_any (legalM n game (l.take k)) x (p64 HOk.out.hN HLg.out) hx64 i.v))
          go_wp2
          refine wp_quiet_cls (fun x => ∃ i : Gd (St wr [(g, O)]), x = i.v) (by kernel_rfl) (by kernel_rfl) ⟨⟨wr.drew, ⟨(Below.refl _ _).drew, HW.out.blk⟩⟩, rfl⟩ ?_
          repeat (quiet_step (first | (go_at_call 42; exact C42.out _) | (go_at_call 46; exact C46b.out _)))
          refine wpQuiet_nil ?_
          clear C42 C46b hs0 hs1 hs2 hs3 this hc hki hk0 hkc
          rintro _ ⟨⟨w6, hb6⟩, rfl⟩
          have HW6 := Aside0.mk (HW.out.nx hb6.hb)
          clear hb6
          cases hbit : (legalM n game (l.take k)).testBit x with
          | true =>
            have HBit := Aside0.mk hbit
            clear hbit
            go_wp2
            refine ⟨⟨k + 1, by go_num, by omega, hlt, ⟨?_⟩, HW6⟩, by simp [intOf]; omega⟩
            rw [← HE.out, HRng.out, List.all_cons, HLk.out, HBit.out, Bool.true_and]
          | false =>
            have HBit := Aside0.mk hbit
            clear hbit
            go_wp2
            go_ret
            refine ⟨?_, ⟨HW6.out.hb⟩⟩
            rw [← HE.out, HRng.out, List.all_cons, HLk.out, HBit.out, Bool.false_and]; rfl
        · go_wp2
          go_ret
          have hkl : k = l.length := by omega
          have he := HE.out
          rw [hkl, Nat.sub_self, List.range'_zero] at he
          refine ⟨?_, ⟨HW.out.hb⟩⟩
          rw [← he]; rfl
end Go.Proofs.YtgboplcjafmliaaDoor.G

/- The contract of game.grounded, and what it computes. -/
namespace Go.Proofs.YtgboplcjafmliaaDoor.G
open Go.RowKit Go.Proofs.YtgboplcjafmliaaDoorW.PrintWords Go.Proofs.YtgboplcjafmliaaDoorW.PrintLast Go.Proofs.YtgboplcjafmliaaDoorW.PrintMore
open Go.Proofs.YtgboplcjafmliaaDoor.PAll
set_option linter.unusedVariables false
set_option linter.unusedSimpArgs false

theorem grd_lt {N : Nat} {n : NetD} (hok : n.Ok N) : ∀ (f s : Nat), s < 2 ^ N → ∀ r, r ∈ grd n f s → r < 2 ^ N
  | 0, s, hs, r, hr => by cases hr
  | f + 1, s, hs, r, hr => by
    rw [grd] at hr
    split at hr
    · cases hr
    · rcases List.mem_cons.1 hr with rfl | hr
      · exact gstep_lt hok s hs
      · exact grd_lt hok f _ (gstep_lt hok s hs) r hr
theorem grd_len (n : NetD) : ∀ (f s : Nat), (grd n f s).length ≤ f
  | 0, s => by simp [grd]
  | f + 1, s => by
    rw [grd]
    split
    · simp
    · have := grd_len n f (gstep n s); simp; omega
theorem grd_fix {N : Nat} {n : NetD} (hok : n.Ok N) : ∀ (f s : Nat), s < 2 ^ N → cov N s < f → gstep n ((grd n f s).getLastD s) = (grd n f s).getLastD s
  | 0, s, hs, h => by omega
  | f + 1, s, hs, h => by
    rw [grd]
    split
    · rename_i e; simpa using e
    · rename_i e
      have h1 := cov_lt (gstep_lt hok s hs) hs (fun i hi => by rw [gstep_bit hok, hi]; rfl) e
      have := grd_fix hok f (gstep n s) (gstep_lt hok s hs) (by omega)
      rw [List.getLastD_cons]
      exact this
theorem lastN_getLastD (l : List Nat) : lastN l = l.getLastD 0 := by
  unfold lastN nth
  rw [List.getLastD_eq_getLast?, List.getLast?_eq_getElem?, List.getD_eq_getElem?_getD]
/-- The grounded set. -/
def gnd (N : Nat) (n : NetD) : Nat := lastN (grd n (N + 1) 0)
theorem cov0 (N : Nat) : cov N 0 < N + 1 := by unfold cov; have := List.countP_le_length (p := fun i => !(0 : Nat).testBit i) (l := List.range N); simp at this ⊢
theorem gnd_fix {N : Nat} {n : NetD} (hok : n.Ok N) : gstep n (gnd N n) = gnd N n := by
  have := grd_fix hok (N + 1) 0 (Nat.two_pow_pos N) (cov0 N)
  unfold gnd
  rw [lastN_getLastD]
  exact this
theorem nth_lt {l : List Nat} {b : Nat} (hb : 0 < b) (h : ∀ r, r ∈ l → r < b) (i : Nat) : nth l i < b := by
  by_cases hi : i < l.length
  · exact h _ (nth_mem l i hi)
  · rw [nth, List.getD_eq_getElem?_getD, List.getElem?_eq_none (by omega)]; exact hb
theorem gnd_lt {N : Nat} {n : NetD} (hok : n.Ok N) : gnd N n < 2 ^ N := nth_lt (Nat.two_pow_pos N) (grd_lt hok _ _ (Nat.two_pow_pos N)) _

/-- What the grounded set attacks. -/
def gout (N : Nat) (n : NetD) : Nat := uni n.out (bl (gnd N n)) 0
theorem gout_lt {N : Nat} {n : NetD} (hok : n.Ok N) : gout N n < 2 ^ N := uni_lt _ N hok.lo _ _ (Nat.two_pow_pos N)
/-- The opponent's reply. -/
def qO (N : Nat) (n : NetD) (a : Nat) : Nat := low (sdiff (nth n.by_ a) (gout N n))
/-- The proponent's nodes that the opponent's replies reach. -/
inductive Rco (n : NetD) (root : Nat) (q : Nat → Nat) : Nat → Prop
  | root : Rco n root q root
  | step {a z : Nat} : Rco n root q a → (nth n.by_ (q a)).testBit z = true → Rco n root q z
theorem bit_lt {N s i : Nat} (hN : N ≤ 40) (h : s < 2 ^ N) (hb : s.testBit i = true) : i < N := bl_in hN h ((mem_bl s i (p64 hN h)).2 hb)
theorem out_open {N : Nat} {n : NetD} (hok : n.Ok N) {a : Nat} (ha : a < N) (h : (gnd N n).testBit a = false) : sdiff (nth n.by_ a) (gout N n) ≠ 0 := by
  have h1 := gstep_bit hok (gnd N n) a
  rw [gnd_fix hok, h, Bool.false_or, decide_eq_true ha, Bool.true_and] at h1
  intro h2
  rw [okB] at h1
  change sdiff (nth n.by_ a) (gout N n) = 0 at h2
  rw [show uni n.out (bl (gnd N n)) 0 = gout N n from rfl, h2] at h1
  exact absurd h1 (by simp)
theorem qO_spec {N : Nat} {n : NetD} (hok : n.Ok N) {a : Nat} (ha : a < N) (h : (gnd N n).testBit a = false) : (nth n.by_ a).testBit (qO N n a) = true ∧ (gout N n).testBit (qO N n a) = false := by
  have h1 := low_mem (out_open hok ha h) (sdiff_lt _ _ (p64 hok.hN (hok.lb a)))
  rw [sdiff_bit _ _ _ (p64 hok.hN (hok.lb a)) (p64 hok.hN (gout_lt hok))] at h1
  change ((nth n.by_ a).testBit (qO N n a) && !(gout N n).testBit (qO N n a)) = true at h1
  rw [Bool.and_eq_true, Bool.not_eq_true'] at h1
  exact h1
theorem Rco_out {N : Nat} {n : NetD} (hok : n.Ok N) {root : Nat} (hroot : root < N) (h : (gnd N n).testBit root = false) {a : Nat} (ha : Rco n root (qO N n) a) : a < N ∧ (gnd N n).testBit a = false := by
  induction ha with
  | root => exact ⟨hroot, h⟩
  | @step a z _ hz ih =>
    have hq := qO_spec hok ih.1 ih.2
    refine ⟨bit_lt hok.hN (hok.lb _) hz, ?_⟩
    cases hg : (gnd N n).testBit z with
    | false => rfl
    | true =>
      have : (gout N n).testBit (qO N n a) = true := by
        unfold gout
        rw [uni_bit, Bool.or_eq_true]
        refine .inr (List.any_eq_true.2 ⟨z, (mem_bl _ _ (p64 hok.hN (gnd_lt hok))).2 hg, ?_⟩)
        rw [← hok.co]; exact hz
      rw [this] at hq; cases hq.2

/-- What the loops of game.grounded keep: R the proponent's nodes that are reached. -/
structure OI (n : NetD) (root : Nat) (q : Nat → Nat) (R : List Nat) : Prop where
  r0 : root ∈ R
  rn : R.Nodup
  rr : ∀ a, a ∈ R → Rco n root q a
def OSeen (n : NetD) (q : Nat → Nat) (R : List Nat) (i : Nat) : Prop := ∀ j, j < i → ∀ z, (nth n.by_ (q (nth R j))).testBit z = true → z ∈ R
theorem OI.step {n : NetD} {root : Nat} {q : Nat → Nat} {R : List Nat} {a z : Nat} (h : OI n root q R) (ha : a ∈ R) (hz : (nth n.by_ (q a)).testBit z = true) : OI n root q (addN R z) where
  r0 := sub_addN _ _ _ h.r0
  rn := by
    unfold addN
    split
    · exact h.rn
    · rename_i hc
      exact nodup_snoc h.rn (fun hm => hc (List.contains_iff_mem.2 hm))
  rr := fun b hb => by
    unfold addN at hb
    split at hb
    · exact h.rr b hb
    · rcases List.mem_append.1 hb with hb | hb
      · exact h.rr b hb
      · rw [List.mem_singleton] at hb; subst hb; exact .step (h.rr a ha) hz
theorem OSeen.add {n : NetD} {q : Nat → Nat} {R : List Nat} {i : Nat} (h : OSeen n q R i) (hi : i ≤ R.length) (y : Nat) : OSeen n q (addN R y) i := fun j hj z hz => by
  rw [nth_addN R y j (by omega)] at hz
  exact sub_addN _ _ _ (h j hj z hz)
def OAt (n : NetD) (q : Nat → Nat) (R : List Nat) (i a j : Nat) : Prop := nth R i = a ∧ i < R.length ∧ ∀ x, x ∈ (bl (nth n.by_ (q a))).take j → x ∈ R
theorem OAt.add {n : NetD} {q : Nat → Nat} {R : List Nat} {i a j z : Nat} (h : OAt n q R i a j) (ht : ∀ y, y ∈ (bl (nth n.by_ (q a))).take (j + 1) → y ∈ (bl (nth n.by_ (q a))).take j ∨ y = z) : OAt n q (addN R z) i a (j + 1) :=
  ⟨by rw [nth_addN R z i h.2.1]; exact h.1, Nat.lt_of_lt_of_le h.2.1 (len_addN R z), fun x hx => (ht x hx).elim (fun h1 => sub_addN _ _ _ (h.2.2 x h1)) (fun e => by rw [e]; exact mem_addN _ _)⟩
theorem OAt.seen {n : NetD} {q : Nat → Nat} {R : List Nat} {i a j : Nat} (h : OAt n q R i a j) (hj : (bl (nth n.by_ (q a))).length ≤ j) (h64 : nth n.by_ (q a) < 2 ^ 64) (hs : OSeen n q R i) : OSeen n q R (i + 1) := fun k hk x hx => by
  rcases Nat.lt_succ_iff_lt_or_eq.1 hk with h1 | h1
  · exact hs k h1 x hx
  · subst h1
    rw [h.1] at hx
    refine h.2.2 x ?_
    rw [List.take_of_length_le hj]
    exact (mem_bl _ _ h64).2 hx
theorem OI.done {n : NetD} {root : Nat} {q : Nat → Nat} {R : List Nat} (h : OI n root q R) (hs : OSeen n q R R.length) (a : Nat) : a ∈ R ↔ Rco n root q a := by
  refine ⟨h.rr a, fun ha => ?_⟩
  induction ha with
  | root => exact h.r0
  | step _ hz ih =>
    obtain ⟨j, hj, e⟩ := List.mem_iff_getElem.1 ih
    refine hs j hj _ ?_
    rw [nth_get R j hj, e]
    exact hz
theorem take_addN (R : List Nat) (y i : Nat) (h : i ≤ R.length) : (addN R y).take i = R.take i := by
  unfold addN
  split
  · rfl
  · rw [List.take_append_of_le_length h]
/-- A list as a set. -/
def setOf (l : List Nat) : Nat := l.foldl (fun s x => s ||| 2 ^ x) 0
theorem setOf_bit' (x : Nat) : ∀ (l : List Nat) (a : Nat), (l.foldl (fun s x => s ||| 2 ^ x) a).testBit x = (a.testBit x || l.contains x)
  | [], a => by simp
  | y :: l, a => by
    rw [List.foldl_cons, setOf_bit' x l, List.contains_cons, Nat.testBit_or, Nat.testBit_two_pow, Bool.or_assoc]
    congr 2
    by_cases e : y = x
    · subst e; simp
    · rw [decide_eq_false e, beq_eq_false_iff_ne.2 (Ne.symm e)]
theorem setOf_bit (l : List Nat) (x : Nat) : (setOf l).testBit x = true ↔ x ∈ l := by
  unfold setOf; rw [setOf_bit']; simp
theorem setOf_lt {N : Nat} : ∀ (l : List Nat) (a : Nat), a < 2 ^ N → (∀ x, x ∈ l → x < N) → l.foldl (fun s x => s ||| 2 ^ x) a < 2 ^ N
  | [], a, h, _ => h
  | y :: l, a, h, hl => setOf_lt l _ (Nat.or_lt_two_pow h (Nat.pow_lt_pow_right (by omega) (hl y List.mem_cons_self))) (fun x hx => hl x (List.mem_cons_of_mem _ hx))

theorem setOf_lt' {N : Nat} (l : List Nat) (hl : ∀ x, x ∈ l → x < N) : setOf l < 2 ^ N := setOf_lt l 0 (Nat.two_pow_pos N) hl
theorem take_succ_map {β : Type} (R : List Nat) (i : Nat) (h : i < R.length) (f : Nat → β) : (R.take (i + 1)).map f = (R.take i).map f ++ [f (nth R i)] := by
  rw [List.take_add_one, List.getElem?_eq_getElem h, List.map_append, nth_get R i h]; rfl
def grdV (N : Nat) (n : NetD) (root base : Nat) (e : Ending) (w' : World) : Prop :=
  ∃ A c m, Aside0 (m < 2 ^ N) ∧ (((gnd N n).testBit root = true ∧ e = .returned (.tuple #[.int .i64 1, .slice A (bl m).length c]) ∧ Aside0 (∀ x, m.testBit x = true ↔ RcA n root (pickG n (grd n (N + 1) 0)) x) ∧ Aside0 (OwnRp w' base (.slice A (bl m).length c) ((bl m).map fun x => rp x (pickG n (grd n (N + 1) 0) x)))) ∨
    ((gnd N n).testBit root = false ∧ e = .returned (.tuple #[.int .i64 2, .slice A (bl m).length c]) ∧ Aside0 (∀ x, m.testBit x = true ↔ Rco n root (qO N n) x) ∧ Aside0 (OwnRp w' base (.slice A (bl m).length c) ((bl m).map fun x => rp x (qO N n x)))))

theorem low_and_lt {N : Nat} {n : NetD} (hok : n.Ok N) {x r : Nat} (h : nth n.by_ x &&& r ≠ 0) : low (nth n.by_ x &&& r) < N := by
  have h1 := low_mem h (and_lt _ _ (p64 hok.hN (hok.lb x)))
  rw [Nat.testBit_and, Bool.and_eq_true] at h1
  exact bit_lt hok.hN (hok.lb x) h1.1
theorem pickG_lt {N : Nat} {n : NetD} (hok : n.Ok N) (rows : List Nat) {x : Nat} (hx : x < N) : pickG n rows x < N := by
  unfold pickG
  split
  · rename_i r e
    exact low_and_lt hok (by have := List.find?_some e; simpa using this)
  · exact hx
theorem RcA.lt {N : Nat} {n : NetD} (hok : n.Ok N) {root : Nat} {pk : Nat → Nat} {x : Nat} (h : RcA n root pk x) : x < N := by
  obtain ⟨a, _, hx⟩ := h
  exact bit_lt hok.hN (hok.lb a) hx

theorem RdN.cellS {k : IntKind} {w : World} {ad : Addr} {c : Nat} {l : List Nat} (h : RdN k w (some ad) c l) (i : Nat) (hi : i < l.length) : w.cell? (ad.add i) = some (.int k ((nth l i : Nat) : Int)) := by
  obtain ⟨ad', e, hc⟩ := h.cell i hi
  injection e with e
  subst e
  exact hc
theorem AS_ty2 (h g : Nat) (cs cs' : Array Value) : ∀ p, p ∈ [(h, Obj.cells cs 62 (0, 0)), (g, Obj.cells cs' 64 (0, 0))] → ∃ cs t, p.2 = .cells cs t (0, 0) ∧ t ≠ 3 ∧ t ≠ 77 := fun p hp => by
  rcases List.mem_cons.1 hp with rfl | hp
  · exact ⟨_, _, rfl, by decide, by decide⟩
  · exact AS_ty1 _ _ p hp
theorem e50 : ∀ (args : Array Value) (W : World), (callFunc 50 args).run Tryd.prog W = .ok (.enter 50 args) W := enters_of Tryd.func50 (by kernel_rfl) rfl
theorem e30 : ∀ (args : Array Value) (W : World), (callFunc 30 args).run Tryd.prog W = .ok (.enter 30 args) W := enters_of Tryd.func30 (by kernel_rfl) rfl
set_option maxHeartbeats 8000000 in
set_option maxRecDepth 100000 in
theorem grounded_any (N : Nat) (n : NetD) (hok : n.Ok N) (v : Value) (root : Nat) (hroot : root < N) (w : World) (hT : TabW w) (hn : NetV w n v) :
    Calls Tryd.prog 26 #[v, .int .i64 (root : Int)] w fun e w' => grdV N n root w.heap.size e w' ∧ Aside0 (Below w.heap.size w w') := by
  have hn0 := hn
  obtain ⟨A1, c1, A2, c2, rfl, h2, h3⟩ := hn
  have HN := Aside0.mk hn0
  have H2 := Aside0.mk h2
  have HT := Aside0.mk hT
  have HOk := Aside0.mk hok
  clear hT h2 h3 hok hn0
  have HB := Aside0.mk (St.refl w)
  let O : Obj := .cells #[.int .u64 n.all, .slice A1 n.by_.length c1, .slice A2 n.out.length c2] 64 (0, 0)
  go_enter Tryd.func26, Tryd.ntmps26
  go_upto_region 2 with (first | ((with_reducible refine gate_dst (N := 2) rfl ?_); refine box_st (w := w) 2 #[.int .u64 n.all, .slice A1 n.by_.length c1, .slice A2 n.out.length c2] 64 rfl rfl ?hr HB.out ?_; (case hr => go_simp; done); clear HB; intro g w1 HB GE; have hg0 := (HB.out.at_ (List.mem_cons_self) 0).trans rfl; have hg1 := (HB.out.at_ (List.mem_cons_self) 1).trans rfl; have hg2 := (HB.out.at_ (List.mem_cons_self) 2).trans rfl) | (go_at_call 49; refine (rounds_any N n HOk.out _ _ (HT.out.below HT.out.2 HB.out.hb) (HN.out.below HB.out.hb)).mono ?_; rintro e w2 ⟨A16, c16, rfl, HR16, hb⟩; replace HB := Aside0.mk (HB.out.nx hb.out); clear hb hg0 hg1 hg2))
  have HB2 : Aside0 (St w [(w2.heap.size, .cells #[.slice A16 (grd n (N + 1) 0).length c16] 62 (0, 0)), (g, O)] (w2.alloc (.cells #[.slice A16 (grd n (N + 1) 0).length c16] 62))) := ⟨HB.out.add _⟩
  replace HR16 := Aside0.mk (HR16.out.below (below_alloc (Below.refl _ _) (.cells #[.slice A16 (grd n (N + 1) 0).length c16] 62 (0, 0))))
  have HGl := Aside0.mk (gnd_lt HOk.out)
  have hrl : (grd n (N + 1) 0).length ≤ 41 := Nat.le_trans (grd_len n (N + 1) 0) (by have := HOk.out.hN; omega)
  have HRw := Aside0.mk (grd_lt HOk.out (N + 1) 0 (Nat.two_pow_pos N))
  have HGe : Aside0 (gnd N n = lastN (grd n (N + 1) 0)) := ⟨rfl⟩
  obtain ⟨rows, hrows⟩ : ∃ rows, grd n (N + 1) 0 = rows := ⟨_, rfl⟩
  have HGE2 := Aside0.mk hrows
  rw [hrows] at HB2 HR16 HRw HGe hrl ⊢
  clear HB hrows
  generalize w2.heap.size = h at *
  change Code.wp Tryd.prog _ _ _ (w2.alloc (.cells #[.slice A16 rows.length c16] 62))
  generalize w2.alloc (.cells #[.slice A16 rows.length c16] 62) = w3 at *
  obtain ⟨gs, hgs⟩ : ∃ gs, gnd N n = gs := ⟨_, rfl⟩
  have HGs := Aside0.mk hgs
  rw [hgs] at HGl HGe
  clear hgs
  have hh0 := (HB2.out.at_ (List.mem_cons_self) 0).trans rfl
  go_upto_if 19 with fail
  go_cut [7] (fun s7 wx => s7 = .int .u64 gs ∧ wx = w3)
  case first =>
    by_cases h0 : 0 < rows.length
    · have e19 : decide (0 < rows.length) = true := decide_eq_true h0
      obtain ⟨ad16, rfl, hc16⟩ := HR16.out.cell (rows.length - 1) (by omega)
      rw [show nth rows (rows.length - 1) = gs from HGe.out.symm] at hc16
      have q1 : (0 : Int) ≤ (rows.length : Int) - 1 := by omega
      have q2 : (rows.length : Int) - 1 < (rows.length : Int) := by omega
      have q3 : ((rows.length : Int) - 1).toNat = rows.length - 1 := by omega
      have q4 : IntKind.i64.wrap ((rows.length : Int) - 1) = (rows.length : Int) - 1 := IntWalk.i64_in _ (by omega)
      go_wp2_with fail
      go_meet
      exact ⟨rfl, rfl⟩
    · have e19 : decide (0 < rows.length) = false := decide_eq_false h0
      have h00 : rows = [] := List.length_eq_zero_iff.1 (by omega)
      have hg00 : gs = 0 := by rw [HGe.out, h00]; rfl
      go_wp2_with fail
      go_meet
      exact ⟨by rw [hg00]; rfl, rfl⟩
  case rest =>
    obtain ⟨rfl, rfl⟩ := hcut
    have HHas := Aside0.mk (fun W : World => has_any gs root (p64 HOk.out.hN HGl.out) (by have := HOk.out.hN; omega) W)
    have hg0 := (HB2.out.at_ (.tail _ (.head _)) 0).trans rfl
    have hg1 := (HB2.out.at_ (.tail _ (.head _)) 1).trans rfl
    have hg2 := (HB2.out.at_ (.tail _ (.head _)) 2).trans rfl
    have HN3 := Aside0.mk (HN.out.below HB2.out.hb)
    have HT3 := Aside0.mk (HT.out.below HT.out.2 HB2.out.hb)
    cases hbt : gs.testBit root with
    | true =>
      rw [hbt] at HHas
      have HBt := Aside0.mk hbt
      clear hbt
      have HPick : Aside0 (∀ x, RcA n root (pickG n rows) x → ∀ W, Below wc.heap.size wc W → Calls Tryd.prog 50 (#[.int .i64 (x : Int)] ++ #[.pointer (some ⟨h, 0, none⟩), .pointer (some ⟨g, 0, none⟩)]) W fun e w' => e = .returned (.int .i64 ((pickG n rows x : Nat) : Int)) ∧ Aside0 (Below W.heap.size W w')) := ⟨fun x hx W hW => by
        have hx2 := hx.lt HOk.out
        have HBW := HB2.out.nx hW
        exact pickG_any N n HOk.out A1 c1 A2 c2 A16 c16 g h rows (by omega) HRw.out x hx2 W (HT3.out.below HT3.out.2 hW) (H2.out.below HBW.hb) (HR16.out.below hW) (HBW.blk _ (.tail _ (.head _))) (HBW.blk _ (.head _))⟩
      go_wp2_with (first | (go_at_call 46; refine (HHas.out _).mono ?_; rintro e w' ⟨rfl, rfl⟩) | (go_at_call 29; refine (answers_any N n HOk.out _ root hroot 50 _ (pickG n rows) _ HT3.out HN3.out e50 HPick.out (fun x hx => pickG_lt HOk.out rows (hx.lt HOk.out))).mono ?_; rintro e w4 ⟨A32, c32, m, rfl, HM, HR, hb⟩))
      go_ret2
      exact ⟨⟨A32, c32, m, ⟨HM.out.1⟩, .inl ⟨by rw [HGs.out]; exact HBt.out, rfl, ⟨by rw [HGE2.out]; exact HM.out.2⟩, ⟨by rw [HGE2.out]; exact own_weaken HR.out HB2.out.hb.size⟩⟩⟩, ⟨(HB2.out.nx hb.out).hb⟩⟩
    | false =>
      rw [hbt] at HHas
      have HBt := Aside0.mk hbt
      clear hbt
      have HRc : Aside0 (∀ a, Rco n root (qO N n) a → a < N ∧ (gnd N n).testBit a = false) := ⟨fun a ha => Rco_out HOk.out hroot (by rw [HGs.out]; exact HBt.out) ha⟩
      have HQb : Aside0 (∀ a, Rco n root (qO N n) a → qO N n a < N) := ⟨fun a ha => bit_lt HOk.out.hN (HOk.out.lb _) (qO_spec HOk.out (HRc.out a ha).1 (HRc.out a ha).2).1⟩
      have HQn : Aside0 (∀ a, Rco n root (qO N n) a → sdiff (nth n.by_ a) (gout N n) ≠ 0) := ⟨fun a ha => out_open HOk.out (HRc.out a ha).1 (HRc.out a ha).2⟩
      have HHit := Aside0.mk (fun (x : World) (h1 : TabW x) (h2 : NetV x n (.agg #[.int .u64 n.all, .slice A1 n.by_.length c1, .slice A2 n.out.length c2])) => hit_any N n HOk.out _ gs HGl.out x h1 h2)
      rw [show uni n.out (bl gs) 0 = gout N n by rw [gout, HGs.out]] at HHit
      have HUl := Aside0.mk (gout_lt HOk.out)
      have HQd : Aside0 (∀ a, low (sdiff (nth n.by_ a) (gout N n)) = qO N n a) := ⟨fun a => rfl⟩
      obtain ⟨q, hq⟩ : ∃ q, qO N n = q := ⟨_, rfl⟩
      obtain ⟨u, hu⟩ : ∃ u, gout N n = u := ⟨_, rfl⟩
      rw [hq] at HRc HQb HQn HQd
      rw [hu] at HHit HUl HQn HQd
      have HQe := Aside0.mk hq
      clear hq hu
      go_wp2_with (first | (go_at_call 46; refine (HHas.out _).mono ?_; rintro e w' ⟨rfl, rfl⟩) | (go_at_call 51; refine (HHit.out _ HT3.out HN3.out).mono ?_; rintro e w5 ⟨rfl, hb⟩))
      have HB5 := Aside0.mk (HB2.out.nx hb.out)
      have HAS : Aside0 (AS w [(h, .cells #[.slice A16 rows.length c16] 62 (0, 0)), (g, O)] (.slice (some ⟨w5.heap.size, 0, none⟩) 1 1) (.slice none 0 0) (.slice none 0 0) [root] [] [] (w5.alloc (.cells #[.int .i64 (root : Int)] 3))) :=
        ⟨⟨HB5.out.nx (below_alloc (Below.refl _ _) _), own_lit w5 w.heap.size 3 .i64 [(root : Int)] HB5.out.hb.size (by simp), own_nil _ _ _ _, own_nil _ _ _ _, .inr (.inl rfl), AS_ty2 _ _ _ _⟩⟩
      clear HB2 HB5 hb hg0 hg1 hg2 hh0 HHit HT3 HN3 HHas HR16 HRw
      go_loopg [9, 10, 11] (N + 1) (fun kk v9 v10 v11 w' => ∃ (i : Nat) (R L : List Nat) (vL : Value), v11 = .int .i64 (i : Int) ∧ Aside0 (i ≤ R.length ∧ R.length ≤ N ∧ N - i < kk) ∧ Aside0 (OI n root q R) ∧ Aside0 (OSeen n q R i) ∧ Aside0 (AS w [(h, .cells #[.slice A16 rows.length c16] 62 (0, 0)), (g, O)] v9 v10 vL R ((R.take i).map fun a => rp a (q a)) L w'))
      case atStart => exact ⟨0, [root], [], .slice none 0 0, rfl, ⟨by simp, by simp; omega, by omega⟩, ⟨⟨by simp, by simp, fun a ha => by rw [List.mem_singleton.1 ha]; exact .root⟩⟩, ⟨fun j hj => by omega⟩, HAS⟩
      case round =>
        clear HAS
        obtain ⟨i, R, L0, vL, rfl, HI, HA, HSn, HS⟩ := hrel
        obtain ⟨A9, c9, rfl, hr9⟩ := HS.out.r.reads
        obtain ⟨k, rfl⟩ : ∃ k, gk = k + 1 := ⟨gk - 1, by have := HI.out; omega⟩
        by_cases hlt : i < R.length
        · have hia := nth_mem R i hlt
          obtain ⟨a, haa⟩ : ∃ a, nth R i = a := ⟨_, rfl⟩
          rw [haa] at hia
          have HIa := Aside0.mk haa
          have hRa := HA.out.rr _ hia
          have haN := (HRc.out _ hRa).1
          have hqN := HQb.out _ hRa
          obtain ⟨ad9, rfl, hc9⟩ := hr9.cell i hlt
          rw [haa] at hc9
          have hal : a < n.by_.length := by rw [HOk.out.hb]; exact haN
          have hali : (a : Int) < (n.by_.length : Int) := by omega
          have hql : q a < n.by_.length := by rw [HOk.out.hb]; exact hqN
          have hqli : (q a : Int) < (n.by_.length : Int) := by omega
          have hlti : (i : Int) < (R.length : Int) := by omega
          obtain ⟨ad1, rfl, hc1⟩ := (H2.out.below HS.out.st.hb).cell a hal
          have hg1 := (HS.out.st.at_ (.tail _ (.head _)) 1).trans rfl
          have hand := u64_andNot_nat (nth n.by_ a) u (p64 HOk.out.hN (HOk.out.lb a)) (p64 HOk.out.hN HUl.out)
          have HAnd := Aside0.mk hand
          have HF := Aside0.mk (fun W (hT : TabW W) => first_any (sdiff (nth n.by_ a) u) (HQn.out a hRa) (sdiff_lt _ _ (p64 HOk.out.hN (HOk.out.lb a))) W hT)
          rw [show nth (bl (sdiff (nth n.by_ a) u)) 0 = q a from HQd.out a] at HF
          have HTk := Aside0.mk (take_succ_map R i hlt fun a => rp a (q a))
          rw [haa] at HTk
          clear haa hr9 hand hRa
          go_wp2
          go_region_held3 (fun w' => w'.cell? ⟨g, 1, none⟩ = some (.slice (some ad1) n.by_.length c1) ∧ w'.cell? (ad9.add i) = some (.int .i64 a) ∧ w'.cell? (ad1.add a) = some (.int .u64 (nth n.by_ a))) (first | go_keep | exact ⟨pw_cell_below hb.out hg1, pw_cell_below hb.out hc9, pw_cell_below hb.out hc1⟩)
            (first | (rw [show bits .andNot .u64 ((nth n.by_ a : Nat) : Int) ((u : Nat) : Int) = ((sdiff (nth n.by_ a) u : Nat) : Int) from HAnd.out]; go_at_call 31; refine (HF.out _ (HT.out.below HT.out.2 HS.out.st.hb.drew)).mono ?_; rintro e w5 ⟨rfl, hb⟩))
          have HS5 := Aside0.mk ((HS.out.nx (Below.refl _ _).drew).nx hb.out)
          have hc9 := pw_cell_below (Below.refl _ _).drew hc9
          have hc9 := pw_cell_below hb.out hc9
          have hRN := HI.out.2.1
          have hN40 := HOk.out.hN
          have HJ : Aside0 (OAt n q R i a 0) := ⟨HIa.out, hlt, fun x hx => by simp at hx⟩
          clear HS hb hg1 hc1 hali HF
          go_wp2_with (first | (at_builtin; refine app_rp2 (w0 := w) 31 (.tmp 55) (.tmp 62) rfl rfl Tryd.underlying31 info77 _ ((R.take i).map fun a => rp a (q a)) a (q a) (by omega) (by omega) rfl rfl ?aO ?aB ?aL ?_; (case aO => exact HS5.out.o); (case aB => exact HS5.out.st.hb); (case aL => (rw [List.length_map, List.length_take]; omega)); intro v1 w7 HO7 HG7; have HS7 := Aside0.mk (HS5.out.appO HO7 HG7); clear HS5 HO7 HG7 hc9; rw [← HTk.out] at HS7; have hg1 := (HS7.out.st.at_ (.tail _ (.head _)) 1).trans rfl; have hc1 := (H2.out.below HS7.out.st.hb).cellS (q a) hql) | (go_at_call 43; refine (list_own (nth n.by_ (q a)) (p64 HOk.out.hN (HOk.out.lb (q a))) _ (HT.out.below HT.out.2 HS7.out.st.hb)).mono ?_; rintro e w8 ⟨v69, rfl, HL69, hb⟩; obtain ⟨A69, c69, rfl⟩ := own_slice HL69.out; clear hg1 hc1))
          have HS8 := Aside0.mk (HS7.out.newL hb.out HL69.out)
          have hl64 := bl_length (nth n.by_ (q a))
          clear HS7 HL69 hb
          go_loopw [9, 14, 71] (fun v9 v14 v71 w' => ∃ (j : Nat) (R : List Nat), v71 = .int .i64 (j : Int) ∧ j ≤ (bl (nth n.by_ (q a))).length ∧ Aside0 (OI n root q R) ∧ Aside0 (OSeen n q R i) ∧ Aside0 (OAt n q R i a j) ∧ Aside0 (AS w [(h, .cells #[.slice A16 rows.length c16] 62 (0, 0)), (g, O)] v9 v1 (.slice A69 (bl (nth n.by_ (q a))).length c69) R ((R.take (i + 1)).map fun a => rp a (q a)) (bl (nth n.by_ (q a))) w')) (fun _ _ v71 _ => (bl (nth n.by_ (q a))).length - (intOf v71).toNat)
          case atStart => exact ⟨0, R, rfl, Nat.zero_le _, HA, HSn, HJ, HS8⟩
          case round =>
            clear HA HSn HJ HS8 HIa HTk hRN hlti hlt hia
            obtain ⟨j, R, rfl, hj, HA, HSn, HJ, HS⟩ := hrel
            by_cases hlt : j < (bl (nth n.by_ (q a))).length
            · obtain ⟨A', c', he, hr⟩ := HS.out.l.reads
              injection he with e1 e2 e3
              subst e1 e3
              obtain ⟨ad69, rfl, hc69⟩ := hr.cell j hlt
              have hx0 := nth_mem _ j hlt
              have hxx := (mem_bl _ _ (p64 HOk.out.hN (HOk.out.lb (q a)))).1 hx0
              have HTk := Aside0.mk (take_next (bl (nth n.by_ (q a))) j hlt)
              clear hx0 hr
              generalize nth (bl (nth n.by_ (q a))) j = x at *
              have haR : a ∈ R := by rw [← HJ.out.1]; exact nth_mem _ _ HJ.out.2.1
              have HStep := Aside0.mk (HA.out.step haR hxx)
              have HSn2 := Aside0.mk (HSn.out.add (Nat.le_of_lt HJ.out.2.1) x)
              have HJ2 := Aside0.mk (HJ.out.add HTk.out)
              have HTa := Aside0.mk (take_addN R x (i + 1) HJ.out.2.1)
              have HRN := Aside0.mk (nodup_le N R HA.out.rn fun b hb => (HRc.out b (HA.out.rr b hb)).1)
              have HCont := Aside0.mk (fun (v : Value) (W : World) (h : OwnI W w.heap.size v R) => contains_any v w.heap.size R x W h)
              clear hxx haR
              cases hcn : R.contains x with
              | true =>
                rw [hcn] at HCont
                rw [addN_old hcn] at HStep HSn2 HJ2
                clear hcn
                go_wp2_with (first | (go_at_call 52; refine (HCont.out _ _ HS.out.r).mono ?_; rintro e w' ⟨rfl, rfl⟩))
                exact ⟨⟨j + 1, R, by go_num, hlt, HStep, HSn2, HJ2, HS⟩, by simp [intOf]; omega⟩
              | false =>
                rw [hcn] at HCont
                rw [addN_new hcn] at HStep HSn2 HJ2 HTa
                clear hcn
                go_wp2_with (first | (go_at_call 52; refine (HCont.out _ _ HS.out.r).mono ?_; rintro e w' ⟨rfl, rfl⟩) | (at_builtin; refine app_node (w0 := w) 25 (.tmp 79) (.tmp 81) rfl rfl Tryd.underlying25 info3 _ R x rfl rfl ?aO ?aB ?aL ?_; (case aO => exact HS.out.r); (case aB => exact HS.out.st.hb); (case aL => (have := HRN.out; omega)); intro v2 w9 HR9 HG9 HAt9; have HS9 := Aside0.mk (HS.out.appR HR9 HG9 HAt9); clear HS HR9 HG9 HAt9))
                exact ⟨⟨j + 1, R ++ [x], by go_num, hlt, HStep, HSn2, HJ2, ⟨by rw [HTa.out]; exact HS9.out⟩⟩, by simp [intOf]; omega⟩
            · have HEnd := Aside0.mk (Nat.le_of_not_lt hlt)
              have hRN := nodup_le N R HA.out.rn fun b hb => (HRc.out b (HA.out.rr b hb)).1
              have hi40 : i < 40 := by have := HJ.out.2.1; omega
              have HI2 : Aside0 (i + 1 ≤ R.length ∧ R.length ≤ N ∧ N - (i + 1) < k) := ⟨by have := HJ.out.2.1; omega, hRN, by have := HI.out.2.2; have := HJ.out.2.1; omega⟩
              have HSn2 := Aside0.mk (HJ.out.seen HEnd.out (p64 HOk.out.hN (HOk.out.lb (q a))) HSn.out)
              go_wp2
              go_roundg k
              case measure => omega
              case rel => exact ⟨i + 1, R, _, _, by go_num, HI2, HA, HSn2, HS⟩
        · have hi : i = R.length := by have := HI.out; omega
          have HRl := Aside0.mk HI.out.2.1
          have HTk : Aside0 (R.take i = R) := ⟨by rw [hi, List.take_length]⟩
          rw [HTk.out] at HS
          have HSnR : Aside0 (OSeen n q R R.length) := ⟨by rw [← hi]; exact HSn.out⟩
          clear hi HI HSn HTk
          go_wp2_with (first | (go_at_call 53; refine (sort_any 54 (.inr rfl) (R.map fun a => rp a (q a)) (by have := HRl.out; have := HOk.out.hN; rw [List.length_map]; omega) _ _ _ HS.out.o).mono ?_; rintro e w8 ⟨rfl, rs, HPm, HSo, HO8, HG8⟩))
          have hRlt : ∀ x, x ∈ R → x < N := fun b hb => (HRc.out b (HA.out.rr b hb)).1
          have hm := setOf_lt' R hRlt
          have e := sorted_is (setOf R) (p64 HOk.out.hN hm) q R HA.out.rn (setOf_bit R) rs HPm.out HSo.out
          obtain ⟨A, c, h1, h2⟩ := HO8.out.reads
          have h3 := HO8.out
          rw [h1, e, List.length_map] at h3
          rw [e, List.length_map] at h1
          subst h1
          replace h2 := h3
          go_ret2
          exact ⟨⟨A, c, setOf R, ⟨hm⟩, .inr ⟨by rw [HGs.out]; exact HBt.out, rfl, ⟨fun x => by rw [setOf_bit, HQe.out]; exact HA.out.done HSnR.out x⟩, ⟨by rw [HQe.out]; exact h2⟩⟩⟩, ⟨HS.out.st.hb.grown HG8.out HS.out.st.hb.size (own_base' HS.out.o)⟩⟩
end Go.Proofs.YtgboplcjafmliaaDoor.G

/- Contracts of graph.compare, graph.Validate and network.New, and what they compute. -/
namespace Go.Proofs.YtgboplcjafmliaaDoor.G
open Go.RowKit Go.Proofs.YtgboplcjafmliaaDoorW.PrintWords Go.Proofs.YtgboplcjafmliaaDoorW.PrintLast Go.Proofs.YtgboplcjafmliaaDoorW.PrintMore
open Go.Proofs.YtgboplcjafmliaaDoor.PAll
attribute [local go_sem] max2_int min2_int max_two min_two max_three min_three max_four min_four
set_option linter.unusedVariables false
set_option linter.unusedSimpArgs false

/-- How pairs are compared. -/
def cmpP (p q : S54) : Int := if p.f0 < q.f0 then -1 else if q.f0 < p.f0 then 1 else if p.f1 < q.f1 then -1 else if q.f1 < p.f1 then 1 else 0
theorem compare_any (p q : S54) (w : World) : Calls Tryd.prog 48 #[.agg #[.int .i64 p.f0, .int .i64 p.f1], .agg #[.int .i64 q.f0, .int .i64 q.f1]] w fun e w' => e = .returned (.int .i64 (cmpP p q)) ∧ Aside0 (Below w.heap.size w w') :=
  (graph_compare.calls 4 p.f0 p.f1 q.f0 q.f1 (cmpP p q) w (by
    unfold graph_compare.f cmp_Compare_int.f cmp_isNaN_int.f cmpP
    rcases Int.lt_trichotomy p.f0 q.f0 with h | h | h
    · simp [h, cmp_Or_int.f, cmp_Or_int.l0, rd]
      split <;> (try split) <;> rfl
    · rcases Int.lt_trichotomy p.f1 q.f1 with h2 | h2 | h2
      · simp [h, h2, cmp_Or_int.f, cmp_Or_int.l0, rd, wrap64]
      · simp [h, h2, cmp_Or_int.f, cmp_Or_int.l0, rd, wrap64]
      · simp [h, h2, cmp_Or_int.f, cmp_Or_int.l0, rd, wrap64, Int.not_lt.2 (Int.le_of_lt h2)]
    · simp [h, cmp_Or_int.f, cmp_Or_int.l0, rd, Int.not_lt.2 (Int.le_of_lt h)]
      split <;> (try split) <;> rfl)).mono fun _ _ ⟨h1, h2⟩ => ⟨h1, ⟨h2⟩⟩

def cmpQ : Option S54 → S54 → Bool
  | some q, p => decide (0 ≤ cmpP q p)
  | none, _ => false
/-- What Validate returns. -/
def valL (N : Int) : Option S54 → List S54 → Int
  | _, [] => 0
  | q, p :: l => if (p.f0 < 0 ∨ p.f1 < 0) ∨ (N ≤ p.f0 ∨ N ≤ p.f1) then 1 else if cmpQ q p = true then 8 else valL N (some p) l
theorem valL_cons (N : Int) (q : Option S54) (p : S54) (l : List S54) : valL N q (p :: l) = if (p.f0 < 0 ∨ p.f1 < 0) ∨ (N ≤ p.f0 ∨ N ≤ p.f1) then 1 else if cmpQ q p = true then 8 else valL N (some p) l := by rw [valL.eq_def]
def valE (N : Int) (l : List S54) : Int := if N < 0 ∨ 40 < N then 1 else valL N none l
/-- A row of pairs that is read. -/
def RdP (w : World) (A : Option Addr) (c : Nat) (l : List S54) : Prop := l.length ≤ c ∧ k54.C w A l.length l
theorem RdP.below {w w1 : World} {A : Option Addr} {c : Nat} {l : List S54} (h : RdP w A c l) (hb : Below w.heap.size w w1) : RdP w1 A c l := ⟨h.1, Kd.C_below h.2 hb⟩
def nthP (l : List S54) (i : Nat) : S54 := l.getD i z54
theorem nthP_drop (l : List S54) (k : Nat) (h : k < l.length) : l.drop k = nthP l k :: l.drop (k + 1) := by
  rw [List.drop_eq_getElem_cons h, nthP, List.getD_eq_getElem?_getD, List.getElem?_eq_getElem h]; rfl
theorem RdP.cell {w : World} {A : Option Addr} {c : Nat} {l : List S54} (h : RdP w A c l) (i : Nat) (hi : i < l.length) : ∃ ad, A = some ad ∧ w.cell? (ad.add (i * 2)) = some (.int .i64 (nthP l i).f0) ∧ w.cell? ⟨(ad.add (i * 2)).block, (ad.add (i * 2)).off + 1, none⟩ = some (.int .i64 (nthP l i).f1) := by
  obtain ⟨ad, h1, h2, h3⟩ := at_T54 h.2 (i : Int) (by omega) (by omega)
  exact ⟨ad, h1, by simpa [rd_T54, nthP] using h2, by simpa [rd_T54, nthP] using h3⟩

set_option maxHeartbeats 4000000 in
set_option maxRecDepth 100000 in
theorem validate_any (N : Int) (l : List S54) (hl : l.length < 2 ^ 44) (A : Option Addr) (c : Nat) (w : World) (hr : RdP w A c l) :
    Calls Tryd.prog 23 #[.agg #[.int .i64 N, .slice A l.length c]] w fun e w' => e = .returned (.int .i64 (valE N l)) ∧ Aside0 (Below w.heap.size w w') := by
  have HR := Aside0.mk hr
  clear hr
  have HB := Aside0.mk (St.refl w)
  let O : Obj := .cells #[.int .i64 N, .slice A l.length c] 24 (0, 0)
  by_cases hN : N < 0 ∨ 40 < N
  · have HE : Aside0 (valE N l = 1) := ⟨by rw [valE, if_pos hN]⟩
    by_cases hN0 : N < 0
    · clear hN
      go_enter Tryd.func23, Tryd.ntmps23
      go_wp2_with (first | ((with_reducible refine gate_dst (N := 1) rfl ?_); refine box_st (w := w) 1 #[.int .i64 N, .slice A l.length c] 24 rfl rfl ?hr HB.out ?_; (case hr => go_simp; done); clear HB; intro g w1 HB GE; have hg0 := (HB.out.at_ (List.mem_cons_self) 0).trans rfl))
      go_ret
      exact ⟨by rw [HE.out]; rfl, ⟨HB.out.hb⟩⟩
    · have hN1 : 40 < N := by omega
      clear hN
      go_enter Tryd.func23, Tryd.ntmps23
      go_wp2_with (first | ((with_reducible refine gate_dst (N := 1) rfl ?_); refine box_st (w := w) 1 #[.int .i64 N, .slice A l.length c] 24 rfl rfl ?hr HB.out ?_; (case hr => go_simp; done); clear HB; intro g w1 HB GE; have hg0 := (HB.out.at_ (List.mem_cons_self) 0).trans rfl))
      go_ret
      exact ⟨by rw [HE.out]; rfl, ⟨HB.out.hb⟩⟩
  · have hN0 : ¬ N < 0 := by omega
    have hN1 : ¬ 40 < N := by omega
    have HE : Aside0 (valE N l = valL N none l) := ⟨by rw [valE, if_neg hN]⟩
    clear hN
    go_enter Tryd.func23, Tryd.ntmps23
    go_wp2_with (first | ((with_reducible refine gate_dst (N := 1) rfl ?_); refine box_st (w := w) 1 #[.int .i64 N, .slice A l.length c] 24 rfl rfl ?hr HB.out ?_; (case hr => go_simp; done); clear HB; intro g w1 HB GE; have hg0 := (HB.out.at_ (List.mem_cons_self) 0).trans rfl; have hg1 := (HB.out.at_ (List.mem_cons_self) 1).trans rfl))
    clear hg0 hg1
    have HW1 : Aside0 (St w1 [(g, O)] w1) := ⟨⟨Below.refl _ _, HB.out.blk⟩⟩
    go_loopw [16] (fun v16 w' => ∃ k : Nat, v16 = .int .i64 k ∧ k ≤ l.length ∧ Aside0 (valL N (if k = 0 then none else some (nthP l (k - 1))) (l.drop k) = valL N none l) ∧ Aside0 (St w1 [(g, O)] w')) (fun v16 _ => l.length - (intOf v16).toNat)
    case atStart => exact ⟨0, rfl, Nat.zero_le _, ⟨rfl⟩, HW1⟩
    case round =>
      obtain ⟨k, rfl, hk, HV, HW⟩ := hrel
      by_cases hlt : k < l.length
      · obtain ⟨ad, rfl, hc0, hc1⟩ := (HR.out.below (HB.out.nx HW.out.hb).hb).cell k hlt
        have HD := Aside0.mk (nthP_drop l k hlt)
        obtain ⟨p, hp⟩ : ∃ p, nthP l k = p := ⟨_, rfl⟩
        rw [hp] at hc0 hc1
        have HP := Aside0.mk hp
        clear hp
        have hgN := (HW.out.at_ (List.mem_cons_self) 0).trans rfl
        have hgNa : (wr.alloc (.cells #[.int .i64 p.f0, .int .i64 p.f1] 54)).cell? ⟨g, 0, none⟩ = some (.int .i64 N) := pw_cell_below (below_alloc (Below.refl _ _) _) hgN
        obtain ⟨lo, hlo⟩ : ∃ m, (if p.f1 < p.f0 then p.f1 else p.f0) = m := ⟨_, rfl⟩
        obtain ⟨hi, hhi⟩ : ∃ m, (if p.f0 < p.f1 then p.f1 else p.f0) = m := ⟨_, rfl⟩
        have HLo : Aside0 (lo < 0 ↔ p.f0 < 0 ∨ p.f1 < 0) := ⟨by rw [← hlo]; split <;> omega⟩
        have HHi : Aside0 (N ≤ hi ↔ N ≤ p.f0 ∨ N ≤ p.f1) := ⟨by rw [← hhi]; split <;> omega⟩
        cases hd1 : decide (lo < 0) with
        | true =>
          have HBad : Aside0 (lo < 0) := ⟨of_decide_eq_true hd1⟩
          go_wp2
          go_ret
          refine ⟨?_, ⟨(HB.out.nx (HW.out.nx (below_alloc (Below.refl _ _) _)).hb).hb⟩⟩
          rw [HE.out, ← HV.out, HD.out, HP.out, valL_cons, if_pos (.inl (HLo.out.1 HBad.out))]; rfl
        | false =>
          have HNb : Aside0 (¬ lo < 0) := ⟨of_decide_eq_false hd1⟩
          cases hd2 : decide (N ≤ hi) with
          | true =>
            have HBad : Aside0 (N ≤ hi) := ⟨of_decide_eq_true hd2⟩
            go_wp2
            go_ret
            refine ⟨?_, ⟨(HB.out.nx (HW.out.nx (below_alloc (Below.refl _ _) _)).hb).hb⟩⟩
            rw [HE.out, ← HV.out, HD.out, HP.out, valL_cons, if_pos (.inr (HHi.out.1 HBad.out))]; rfl
          | false =>
            have HGood : Aside0 (¬ ((p.f0 < 0 ∨ p.f1 < 0) ∨ (N ≤ p.f0 ∨ N ≤ p.f1))) := ⟨fun h => h.elim (fun h => HNb.out (HLo.out.2 h)) (fun h => of_decide_eq_false hd2 (HHi.out.2 h))⟩
            go_wp2_with fail
            have HWa : Aside0 (St w1 [(wr.heap.size, .cells #[.int .i64 p.f0, .int .i64 p.f1] 54 (0, 0)), (g, O)] (wr.alloc (.cells #[.int .i64 p.f0, .int .i64 p.f1] 54))) := ⟨St.add HW.out _⟩
            clear hgNa hgN hc0 hc1 hd1 hd2 hlo hhi HLo HHi HNb
            generalize wr.alloc (.cells #[.int .i64 p.f0, .int .i64 p.f1] 54) = wa at *
            have HBa := Aside0.mk (HB.out.nx HWa.out.hb)
            cases k with
            | zero =>
              have HE2 : Aside0 (valL N none l = valL N (some p) (l.drop 1)) := ⟨by rw [← HV.out, HD.out, HP.out, valL_cons, if_neg HGood.out, if_neg (by simp [cmpQ])]⟩
              go_quiet (fail)
              have HW2 := Aside0.mk (HWa.out.drewN nq)
              go_wp2
              refine ⟨⟨1, rfl, hlt, ⟨by rw [HE2.out]; simp [HP.out]⟩, ⟨⟨HW2.out.hb, fun q hq => HW2.out.blk q (List.mem_cons_of_mem _ hq)⟩⟩⟩, by simp [intOf]; omega⟩
            | succ j =>
              obtain ⟨ad', ead, hd0, hd1⟩ := (HR.out.below HBa.out.hb).cell j (by omega)
              obtain rfl : ad = ad' := by injection ead
              obtain ⟨q, hq⟩ : ∃ q, nthP l j = q := ⟨_, rfl⟩
              rw [hq] at hd0 hd1
              have HQ := Aside0.mk hq
              clear hq ead
              have HCm := Aside0.mk (compare_any q p)
              have HE2 : Aside0 (valL N none l = if decide (0 ≤ cmpP q p) = true then 8 else valL N (some p) (l.drop (j + 1 + 1))) := ⟨by
                have hv := HV.out
                rw [if_neg (by omega : ¬ j + 1 = 0), show j + 1 - 1 = j by omega, HQ.out, HD.out, HP.out, valL_cons, if_neg HGood.out] at hv
                exact hv.symm⟩
              let Bs : List (Nat × Obj) := [(wr.heap.size, .cells #[.int .i64 p.f0, .int .i64 p.f1] 54 (0, 0)), (g, O)]
              haveI : Nonempty (Gd (St wa Bs)) := ⟨⟨wa, ⟨Below.refl _ _, HWa.out.blk⟩⟩⟩
              have hs1 : ∀ i : Gd (St wa Bs), i.v.cell? ⟨g, 1, none⟩ = some (.slice (some ad) l.length c) := fun i => (i.h.at_ (List.mem_cons_of_mem _ List.mem_cons_self) 1).trans rfl
              have hs2 : ∀ i : Gd (St wa Bs), i.v.cell? ⟨wr.heap.size, 0, none⟩ = some (.int .i64 p.f0) := fun i => (i.h.at_ List.mem_cons_self 0).trans rfl
              have hs3 : ∀ i : Gd (St wa Bs), i.v.cell? ⟨wr.heap.size, 1, none⟩ = some (.int .i64 p.f1) := fun i => (i.h.at_ List.mem_cons_self 1).trans rfl
              have hs4 : ∀ i : Gd (St wa Bs), i.v.cell? (ad.add (j * 2)) = some (.int .i64 q.f0) := fun i => pw_cell_below i.h.hb hd0
              have hs5 : ∀ i : Gd (St wa Bs), i.v.cell? ⟨(ad.add (j * 2)).block, (ad.add (j * 2)).off + 1, none⟩ = some (.int .i64 q.f1) := fun i => pw_cell_below i.h.hb hd1
              have C48 := Aside0.mk (fun i : Gd (St wa Bs) => i.h.gdnx (HCm.out i.v))
              have hj0 : (0 : Int) ≤ (j : Int) := by omega
              have hj1 : (j : Int) < (l.length : Int) := by omega
              refine wp_quiet_cls (fun x => ∃ i : Gd (St wa Bs), x = i.v) (by kernel_rfl) (by kernel_rfl) ⟨⟨wa.drew, ⟨(Below.refl _ _).drew, HWa.out.blk⟩⟩, rfl⟩ ?_
              have hjw : IntKind.i64.wrap (j : Int) = j := IntWalk.i64_in _ (by omega)
              repeat (quiet_step ((go_at_call 48; exact C48.out _)))
              refine wpQuiet_nil ?_
              clear C48 hs1 hs2 hs3 hs4 hs5 this hd0 hd1 hjw hj0 hj1 HCm
              rintro w6 ⟨⟨_, hb6⟩, rfl⟩
              have HW6 : Aside0 (St w1 [(g, O)] w6) := ⟨⟨(HWa.out.nx hb6.hb).hb, fun q hq => (HWa.out.nx hb6.hb).blk q (List.mem_cons_of_mem _ hq)⟩⟩
              clear hb6
              cases hcmp : decide (0 ≤ cmpP q p) with
              | true =>
                rw [hcmp, if_pos rfl] at HE2
                go_wp2
                go_ret
                exact ⟨by rw [HE.out, HE2.out]; rfl, ⟨(HB.out.nx HW6.out.hb).hb⟩⟩
              | false =>
                rw [hcmp, if_neg (by simp)] at HE2
                go_wp2
                refine ⟨⟨j + 1 + 1, by go_num, hlt, ⟨by rw [HE2.out, if_neg (by omega), show j + 1 + 1 - 1 = j + 1 by omega, HP.out]⟩, HW6⟩, by simp [intOf]; omega⟩
      · go_wp2
        go_ret
        have hkl : k = l.length := by omega
        have he := HV.out
        rw [hkl, List.drop_length] at he
        refine ⟨?_, ⟨(HB.out.nx HW.out.hb).hb⟩⟩
        rw [HE.out, ← he]; rfl
end Go.Proofs.YtgboplcjafmliaaDoor.G
