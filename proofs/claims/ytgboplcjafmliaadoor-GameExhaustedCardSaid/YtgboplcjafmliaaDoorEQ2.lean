/- Contracts of game.moved, legal, played, and what they compute. -/
import Derived.Test.YtgboplcjafmliaaDoorEQ1
import Derived.IntWalk
import Derived.Test.YtgboplcjafmliaaDoorPAllx3
import Derived.Deep.DeepCutAuto
import Derived.RegionTactic
/- Contracts of game.moved, legal, played, and what they compute. -/
namespace Go.Proofs.YtgboplcjafmliaaDoor.G
open Go.RowKit Go.Proofs.YtgboplcjafmliaaDoorW.PrintWords Go.Proofs.YtgboplcjafmliaaDoorW.PrintLast Go.Proofs.YtgboplcjafmliaaDoorW.PrintMore
open Go.Proofs.YtgboplcjafmliaaDoor.PAll
set_option linter.unusedVariables false
set_option linter.unusedSimpArgs false

/-- The nodes of every second place of a line, from the first (b) or the second place on, as a set. -/
def pm (b : Bool) : List Nat → Nat
  | [] => 0
  | x :: l => (if b then 2 ^ x else 0) ||| pm (!b) l
def ev (k : Nat) : Bool := k % 2 == 0
theorem ev_succ (k : Nat) : ev (k + 1) = !ev k := by
  unfold ev
  rcases Nat.mod_two_eq_zero_or_one k with h | h <;> simp [h] <;> omega
theorem pm_lt {N : Nat} : ∀ (l : List Nat) (b : Bool), (∀ x, x ∈ l → x < N) → pm b l < 2 ^ N
  | [], _, _ => Nat.two_pow_pos N
  | x :: l, b, h => by
    refine Nat.or_lt_two_pow ?_ (pm_lt l _ fun y hy => h y (List.mem_cons_of_mem _ hy))
    cases b
    · exact Nat.two_pow_pos N
    · exact Nat.pow_lt_pow_right (by omega) (h x List.mem_cons_self)

set_option maxHeartbeats 2000000 in
set_option maxRecDepth 100000 in
theorem moved_any (N : Nat) (hN : N ≤ 40) (l : List Nat) (hl : ∀ x, x ∈ l → x < N) (A : Option Addr) (c : Nat) (w : World) (hb : l.length < 2 ^ 40) (hr : RdN .i64 w A c l) :
    Calls Tryd.prog 67 #[.slice A l.length c] w fun e w' => e = .returned (.tuple #[.int .u64 ((pm true l : Nat) : Int), .int .u64 ((pm false l : Nat) : Int)]) ∧ w = w' := by
  have HL := Aside0.mk hl
  have HR := Aside0.mk hr
  clear hl hr
  go_enter Tryd.func67, Tryd.ntmps67
  go_wp2
  go_loop [2, 3, 4, 5, 8] (fun v2 v3 v4 v5 v8 => ∃ (k a b : Nat), v8 = .int .i64 k ∧ k ≤ l.length ∧ v2 = .int .u64 a ∧ v3 = .int .u64 b ∧ Aside0 (a < 2 ^ 64 ∧ b < 2 ^ 64) ∧ Aside0 (a ||| pm (ev k) (l.drop k) = pm true l) ∧ Aside0 (b ||| pm (!ev k) (l.drop k) = pm false l)) (fun _ _ _ _ v8 => l.length - (intOf v8).toNat)
  case atStart => exact ⟨0, 0, 0, rfl, Nat.zero_le _, rfl, rfl, ⟨by decide, by decide⟩, ⟨by simp [ev]⟩, ⟨by simp [ev]⟩⟩
  case round =>
    obtain ⟨k, a, b, rfl, hk, rfl, rfl, HAB, HA, HBb⟩ := hrel
    by_cases hlt : k < l.length
    · obtain ⟨ad, rfl, hc⟩ := HR.out.cell k hlt
      have HD := Aside0.mk (nth_drop _ k hlt)
      have hx := HL.out _ (nth_mem _ k hlt)
      have HEv := Aside0.mk (ev_succ k)
      generalize nth l k = x at *
      have hx40 : x < 64 := by omega
      have HW1 := Aside0.mk (with_any a x HAB.out.1 hx40)
      have HW2 := Aside0.mk (with_any b x HAB.out.2 hx40)
      have hpx := pow_lt' x hx40
      have HPx := Aside0.mk hpx
      clear hpx
      by_cases he : k % 2 = 0
      · have hmod : ((((k : Int) % 2) == 0) = true) := by rw [beq_iff_eq]; omega
        have HEk : Aside0 (ev k = true) := ⟨by simp [ev, he]⟩
        clear he
        go_wp2_with (first | (go_at_call 28; refine (HW1.out _).mono ?_; rintro e w' ⟨rfl, rfl⟩))
        refine ⟨⟨k + 1, a ||| 2 ^ x, b, by go_num, hlt, rfl, rfl, ⟨or_lt _ _ HAB.out.1 HPx.out, HAB.out.2⟩, ⟨?_⟩, ⟨?_⟩⟩, by simp [intOf]; omega⟩
        · rw [← HA.out, HD.out, HEv.out, HEk.out, pm]; simp [Nat.or_assoc]
        · rw [← HBb.out, HD.out, HEv.out, HEk.out, pm]; simp
      · have hmod : ((((k : Int) % 2) == 0) = false) := by rw [beq_eq_false_iff_ne]; omega
        have HEk : Aside0 (ev k = false) := ⟨by simp [ev, he]⟩
        clear he
        go_wp2_with (first | (go_at_call 28; refine (HW2.out _).mono ?_; rintro e w' ⟨rfl, rfl⟩))
        refine ⟨⟨k + 1, a, b ||| 2 ^ x, by go_num, hlt, rfl, rfl, ⟨HAB.out.1, or_lt _ _ HAB.out.2 HPx.out⟩, ⟨?_⟩, ⟨?_⟩⟩, by simp [intOf]; omega⟩
        · rw [← HA.out, HD.out, HEv.out, HEk.out, pm]; simp
        · rw [← HBb.out, HD.out, HEv.out, HEk.out, pm]; simp [Nat.or_assoc]
    · go_wp2
      go_ret2
      have hkl : k = l.length := by omega
      have h1 := HA.out
      have h2 := HBb.out
      rw [hkl, List.drop_length, pm, Nat.or_zero] at h1 h2
      rw [h1, h2]
      exact ⟨rfl, rfl⟩

/-- The legal moves behind a line that is not empty. -/
def mayM (n : NetD) (p x : Nat) : Bool := (nth n.by_ x ||| nth n.out x) &&& (p ||| 2 ^ x) == 0
def lastN (l : List Nat) : Nat := nth l (l.length - 1)
def legalM (n : NetD) (game : Nat) (l : List Nat) : Nat :=
  if game = 1 then (if l.length % 2 = 1 then nth n.by_ (lastN l) else sdiff (nth n.by_ (lastN l)) (pm true l))
  else if l.length % 2 = 1 then sdiff (uni n.by_ (bl (pm true l)) 0) (pm false l)
  else (bl (nth n.by_ (lastN l))).foldl (fun a x => if mayM n (pm true l) x then a ||| 2 ^ x else a) 0

set_option maxHeartbeats 4000000 in
set_option maxRecDepth 100000 in
theorem legal_any (N : Nat) (n : NetD) (hok : n.Ok N) (game : Nat) (hg : game = 1 ∨ game = 2) (l : List Nat) (h0 : 0 < l.length) (hb : l.length < 2 ^ 40) (hl : ∀ x, x ∈ l → x < N) (A : Option Addr) (c : Nat) (v : Value) (w : World) (hT : TabW w) (hn : NetV w n v) (hr : RdN .i64 w A c l) :
    Calls Tryd.prog 42 #[v, .int .i64 game, .slice A l.length c] w fun e w' => e = .returned (.int .u64 ((legalM n game l : Nat) : Int)) ∧ Aside0 (Below w.heap.size w w') := by
  have hn0 := hn
  obtain ⟨A1, c1, A2, c2, rfl, h2, h3⟩ := hn
  have HN := Aside0.mk hn0
  have H2 := Aside0.mk h2
  have H3 := Aside0.mk h3
  have HT := Aside0.mk hT
  have HOk := Aside0.mk hok
  have HL := Aside0.mk hl
  have HR := Aside0.mk hr
  have hx := hl _ (nth_mem l (l.length - 1) (by omega))
  clear hT h2 h3 hok hn0 hl hr
  obtain ⟨y, hyy⟩ : ∃ y, lastN l = y := ⟨_, rfl⟩
  have HY := Aside0.mk hyy
  rw [show nth l (l.length - 1) = y from hyy] at hx
  clear hyy
  have hyl : y < n.by_.length := by rw [HOk.out.hb]; exact hx
  have HB := Aside0.mk (St.refl w)
  let O : Obj := .cells #[.int .u64 n.all, .slice A1 n.by_.length c1, .slice A2 n.out.length c2] 64 (0, 0)
  go_enter Tryd.func42, Tryd.ntmps42
  go_wp2_with (first | ((with_reducible refine gate_dst (N := 3) rfl ?_); refine box_st (w := w) 3 #[.int .u64 n.all, .slice A1 n.by_.length c1, .slice A2 n.out.length c2] 64 rfl rfl ?hr HB.out ?_; (case hr => go_simp; done); clear HB; intro g w1 HB GE) | (go_at_call 67; refine (moved_any N HOk.out.hN l HL.out A c _ hb (HR.out.below HB.out.hb)).mono ?_; rintro e w2 ⟨rfl, rfl⟩))
  obtain ⟨ad, rfl, hc⟩ := (HR.out.below HB.out.hb).cell (l.length - 1) (by omega)
  rw [show nth l (l.length - 1) = y from HY.out] at hc
  obtain ⟨ad1, rfl, hc1⟩ := (H2.out.below HB.out.hb).cell y hyl
  have hg1 := (HB.out.at_ (List.mem_cons_self) 1).trans rfl
  have q1 : (0 : Int) ≤ (l.length : Int) - 1 := by omega
  have q2 : (l.length : Int) - 1 < (l.length : Int) := by omega
  have q3 : ((l.length : Int) - 1).toNat = l.length - 1 := by omega
  have q4 : IntKind.i64.wrap ((l.length : Int) - 1) = (l.length : Int) - 1 := IntWalk.i64_in _ (by omega)
  have q5 : (0 : Int) ≤ (y : Int) := by omega
  have q6 : (y : Int) < (n.by_.length : Int) := by omega
  go_quiet (fail)
  clear q1 q2 q3 q4 q5 q6 hg1 hc1 hc
  have hP : pm true l < 2 ^ N := pm_lt l true HL.out
  have hO : pm false l < 2 ^ N := pm_lt l false HL.out
  have HP := Aside0.mk hP
  have HO := Aside0.mk hO
  clear hP hO
  have HB1 := Aside0.mk (HB.out.drewN nq)
  by_cases hpar : l.length % 2 = 1
  · have e2 : (((l.length : Int) % 2) == 1) = true := by rw [beq_iff_eq]; omega
    rcases hg with hg | hg
    · have e1 : ((game : Int) == 1) = true := by rw [beq_iff_eq]; omega
      have HE : Aside0 (legalM n game l = nth n.by_ y) := ⟨by rw [legalM, if_pos hg, if_pos hpar, HY.out]⟩
      clear hg hpar
      go_wp2
      go_ret
      exact ⟨by rw [HE.out]; rfl, ⟨HB1.out.hb⟩⟩
    · have e1 : ((game : Int) == 1) = false := by rw [beq_eq_false_iff_ne]; omega
      have HE : Aside0 (legalM n game l = sdiff (uni n.by_ (bl (pm true l)) 0) (pm false l)) := ⟨by rw [legalM, if_neg (by omega), if_pos hpar]⟩
      clear hg hpar
      have hg0 := (HB1.out.at_ (List.mem_cons_self) 0).trans rfl
      have hg1 := (HB1.out.at_ (List.mem_cons_self) 1).trans rfl
      have hg2 := (HB1.out.at_ (List.mem_cons_self) 2).trans rfl
      go_wp2_with (first | (go_at_call 56; refine (attackers_any N n HOk.out _ (pm true l) HP.out _ (HT.out.below HT.out.2 HB1.out.hb) (HN.out.below HB1.out.hb)).mono ?_; rintro e w3 ⟨rfl, hb3⟩; have HB2 := Aside0.mk (HB1.out.nx hb3.out)))
      go_ret
      refine ⟨?_, ⟨HB2.out.hb⟩⟩
      rw [HE.out]
      exact congrArg (fun z => Ending.returned (.int .u64 z)) (u64_andNot_nat _ _ (p64 HOk.out.hN (uni_lt _ N HOk.out.lb _ _ (Nat.two_pow_pos N))) (p64 HOk.out.hN HO.out))
  · have e2 : (((l.length : Int) % 2) == 1) = false := by rw [beq_eq_false_iff_ne]; omega
    rcases hg with hg | hg
    · have e1 : ((game : Int) == 1) = true := by rw [beq_iff_eq]; omega
      have HE : Aside0 (legalM n game l = sdiff (nth n.by_ y) (pm true l)) := ⟨by rw [legalM, if_pos hg, if_neg hpar, HY.out]⟩
      clear hg hpar
      go_wp2
      go_ret
      refine ⟨?_, ⟨HB1.out.hb⟩⟩
      rw [HE.out]
      exact congrArg (fun z => Ending.returned (.int .u64 z)) (u64_andNot_nat _ _ (p64 HOk.out.hN (HOk.out.lb y)) (p64 HOk.out.hN HP.out))
    · have e1 : ((game : Int) == 1) = false := by rw [beq_eq_false_iff_ne]; omega
      have HE : Aside0 (legalM n game l = (bl (nth n.by_ y)).foldl (fun a x => if mayM n (pm true l) x then a ||| 2 ^ x else a) 0) := ⟨by rw [legalM, if_neg (by omega), if_neg hpar, HY.out]⟩
      clear hg hpar
      go_wp2_with (first | (go_at_call 43; refine (list_rd (nth n.by_ y) (p64 HOk.out.hN (HOk.out.lb y)) _ (HT.out.below HT.out.2 HB1.out.hb)).mono ?_; rintro e w3 ⟨A54, c54, rfl, HL54, hb3⟩; have HB2 := Aside0.mk (HB1.out.nx hb3.out); clear hb3))
      have hl64 := bl_length (nth n.by_ y)
      have HW3 : Aside0 (St w3 [(g, O)] w3) := ⟨⟨Below.refl _ _, HB2.out.blk⟩⟩
      go_loopw [11, 13, 56] (fun v11 v13 v56 w' => ∃ k acc : Nat, v56 = .int .i64 k ∧ k ≤ (bl (nth n.by_ y)).length ∧ v11 = .int .u64 acc ∧ Aside0 (acc < 2 ^ 64) ∧ Aside0 (((bl (nth n.by_ y)).drop k).foldl (fun a x => if mayM n (pm true l) x then a ||| 2 ^ x else a) acc = (bl (nth n.by_ y)).foldl (fun a x => if mayM n (pm true l) x then a ||| 2 ^ x else a) 0) ∧ Aside0 (St w3 [(g, O)] w')) (fun _ _ v56 _ => (bl (nth n.by_ y)).length - (intOf v56).toNat)
      case atStart => exact ⟨0, 0, rfl, Nat.zero_le _, rfl, ⟨by decide⟩, ⟨rfl⟩, HW3⟩
      case round =>
        obtain ⟨k, acc, rfl, hk, rfl, HA, HF, HW⟩ := hrel
        by_cases hlt : k < (bl (nth n.by_ y)).length
        · obtain ⟨ad4, rfl, hc⟩ := (HL54.out.below HW.out.hb).cell k hlt
          have hx := bl_in HOk.out.hN (HOk.out.lb y) (nth_mem _ k hlt)
          have HD := Aside0.mk (nth_drop _ k hlt)
          generalize nth (bl (nth n.by_ y)) k = x at *
          have hx64 : x < 64 := Nat.lt_of_lt_of_le hx (Nat.le_trans HOk.out.hN (by omega))
          have HBr := Aside0.mk (HB2.out.nx HW.out.hb)
          obtain ⟨ad5, e5, hc5⟩ := (H2.out.below HBr.out.hb).cell x (by rw [HOk.out.hb]; exact hx)
          obtain rfl : ad1 = ad5 := by injection e5
          obtain ⟨ad6, rfl, hc6⟩ := (H3.out.below HBr.out.hb).cell x (by rw [HOk.out.ho]; exact hx)
          have hg1 := (HBr.out.at_ (List.mem_cons_self) 1).trans rfl
          have hg2 := (HBr.out.at_ (List.mem_cons_self) 2).trans rfl
          have q0 : (0 : Int) ≤ (x : Int) := by omega
          have q1 : (x : Int) < (n.by_.length : Int) := by rw [HOk.out.hb]; omega
          have q2 : (x : Int) < (n.out.length : Int) := by rw [HOk.out.ho]; omega
          have HPx := Aside0.mk (pow_lt' x hx64)
          have hp64 := p64 HOk.out.hN HP.out
          have C28 := Aside0.mk (fun w : World => with_any_q (pm true l) x hp64 hx64 w)
          have C28a := Aside0.mk (fun w : World => with_any acc x HA.out hx64 w)
          have hkk : (bits .and .u64 (bits .or .u64 ((nth n.by_ x : Nat) : Int) ((nth n.out x : Nat) : Int)) ((pm true l ||| 2 ^ x : Nat) : Int) == 0) = mayM n (pm true l) x := by
            rw [u64_or_nat _ _ (p64 HOk.out.hN (HOk.out.lb x)) (p64 HOk.out.hN (HOk.out.lo x)), u64_and_nat _ _ (or_lt _ _ (p64 HOk.out.hN (HOk.out.lb x)) (p64 HOk.out.hN (HOk.out.lo x))) (or_lt _ _ hp64 HPx.out), mayM, Bool.eq_iff_iff]
            simp
          clear hp64
          cases hm : mayM n (pm true l) x with
          | true =>
            rw [hm] at hkk
            have HM := Aside0.mk hm
            clear hm
            go_wp2
            go_quiet ((go_at_call 28; exact Calls.quiet_of_same (C28.out _)))
            clear hg1 hg2 hc hc5 hc6
            have HW2 := Aside0.mk (HW.out.drewN nq)
            go_wp2_with (first | (go_at_call 28; refine (C28a.out _).mono ?_; rintro e w' ⟨rfl, rfl⟩))
            refine ⟨⟨k + 1, acc ||| 2 ^ x, by go_num, hlt, rfl, ⟨or_lt _ _ HA.out HPx.out⟩, ⟨?_⟩, HW2⟩, by simp [intOf]; omega⟩
            rw [← HF.out, HD.out, List.foldl_cons, HM.out, if_pos rfl]
          | false =>
            rw [hm] at hkk
            have HM := Aside0.mk hm
            clear hm
            go_wp2
            go_quiet ((go_at_call 28; exact Calls.quiet_of_same (C28.out _)))
            clear hg1 hg2 hc hc5 hc6
            have HW2 := Aside0.mk (HW.out.drewN nq)
            go_wp2
            refine ⟨⟨k + 1, acc, by go_num, hlt, rfl, HA, ⟨?_⟩, HW2⟩, by simp [intOf]; omega⟩
            rw [← HF.out, HD.out, List.foldl_cons, HM.out, if_neg (by simp)]
        · go_wp2
          go_ret
          have hkl : k = (bl (nth n.by_ y)).length := by omega
          have he := HF.out
          rw [hkl, List.drop_length] at he
          refine ⟨?_, ⟨(HB2.out.nx HW.out.hb).hb⟩⟩
          rw [HE.out, ← he]; rfl

theorem legal_lt {N : Nat} {n : NetD} (hok : n.Ok N) (game : Nat) (l : List Nat) (hl : ∀ x, x ∈ l → x < N) : legalM n game l < 2 ^ N := by
  have hU := uni_lt _ N hok.lb (bl (pm true l)) 0 (Nat.two_pow_pos N)
  have key : ∀ (q : List Nat) (a : Nat), (∀ x, x ∈ q → x < N) → a < 2 ^ N → q.foldl (fun a x => if mayM n (pm true l) x then a ||| 2 ^ x else a) a < 2 ^ N := by
    intro q
    induction q with
    | nil => intro a _ h; exact h
    | cons x q ih =>
      intro a hq ha
      rw [List.foldl_cons]
      apply ih _ (fun y hy => hq y (List.mem_cons_of_mem _ hy))
      split
      · exact Nat.or_lt_two_pow ha (Nat.pow_lt_pow_right (by omega) (hq x List.mem_cons_self))
      · exact ha
  unfold legalM
  split
  · split
    · exact hok.lb _
    · exact Nat.lt_of_le_of_lt Nat.and_le_left (hok.lb _)
  · split
    · exact Nat.lt_of_le_of_lt Nat.and_le_left hU
    · exact key _ _ (fun x hx => bl_in hok.hN (hok.lb _) hx) (Nat.two_pow_pos N)

/-- Whether a line that is not empty is played. -/
def playedB (n : NetD) (game : Nat) (l : List Nat) : Bool :=
  if game = 2 ∧ (nth n.by_ (nth l 0)).testBit (nth l 0) = true then false
  else (List.range' 1 (l.length - 1)).all fun i => (legalM n game (l.take i)).testBit (nth l i)

set_option maxHeartbeats 4000000 in
set_option maxRecDepth 100000 in
theorem played_any (N : Nat) (n : NetD) (hok : n.Ok N) (game : Nat) (hg : game = 1 ∨ game = 2) (l : List Nat) (h0 : 0 < l.length) (hb : l.length < 2 ^ 40) (hl : ∀ x, x ∈ l → x < N) (A : Option Addr) (c : Nat) (v : Value) (w : World) (hT : TabW w) (hn : NetV w n v) (hr : RdN .i64 w A c l) :
    Calls Tryd.prog 66 #[v, .int .i64 game, .slice A l.length c] w fun e w' => e = .returned (.bool (playedB n game l)) ∧ Aside0 (Below w.heap.size w w') := by
  have hn0 := hn
  obtain ⟨A1, c1, A2, c2, rfl, h2, h3⟩ := hn
  have HN := Aside0.mk hn0
  have H2 := Aside0.mk h2
  have HT := Aside0.mk hT
  have HOk := Aside0.mk hok
  have HL := Aside0.mk hl
  have HR := Aside0.mk hr
  have hx := hl _ (nth_mem l 0 h0)
  clear hT h2 h3 hok hn0 hl hr
  obtain ⟨y, hyy⟩ : ∃ y, nth l 0 = y := ⟨_, rfl⟩
  have HY := Aside0.mk hyy
  rw [hyy] at hx
  clear hyy
  have hyl : y < n.by_.length := by rw [HOk.out.hb]; exact hx
  have hy64 : y < 64 := Nat.lt_of_lt_of_le hx (Nat.le_trans HOk.out.hN (by omega))
  have HB := Aside0.mk (St.refl w)
  let O : Obj := .cells #[.int .u64 n.all, .slice A1 n.by_.length c1, .slice A2 n.out.length c2] 64 (0, 0)
  have C46 := Aside0.mk (fun w : World => has_any_q (nth n.by_ y) y (p64 HOk.out.hN (HOk.out.lb y)) hy64 w)
  have q1 : (0 : Int) < (l.length : Int) := by omega
  have q5 : (0 : Int) ≤ (y : Int) := by omega
  have q6 : (y : Int) < (n.by_.length : Int) := by omega
  have HG := Aside0.mk hg
  rcases hg with hg | hg
  · have e1 : ((game : Int) == 2) = false := by rw [beq_eq_false_iff_ne]; omega
    have HPl : Aside0 (playedB n game l = (List.range' 1 (l.length - 1)).all fun i => (legalM n game (l.take i)).testBit (nth l i)) := ⟨by rw [playedB, if_neg (by omega)]⟩
    clear hg
    go_enter Tryd.func66, Tryd.ntmps66
    go_wp2_with (first | ((with_reducible refine gate_dst (N := 3) rfl ?_); refine box_st (w := w) 3 #[.int .u64 n.all, .slice A1 n.by_.length c1, .slice A2 n.out.length c2] 64 rfl rfl ?hr HB.out ?_; (case hr => go_simp; done); clear HB; intro g w1 HB GE))
    go_quiet (fail)
    have HBx := Aside0.mk (HB.out.drewN nq)
    clear q1 q5 q6 C46 HB
    go_wp2
    go_loopw [7] (fun v7 w' => ∃ k : Nat, v7 = .int .i64 k ∧ 1 ≤ k ∧ k ≤ l.length ∧ Aside0 (((List.range' k (l.length - k)).all fun i => (legalM n game (l.take i)).testBit (nth l i)) = playedB n game l) ∧ Aside0 (St w [(g, O)] w')) (fun v7 _ => l.length - (intOf v7).toNat)
    case atStart => exact ⟨1, rfl, Nat.le_refl _, h0, ⟨HPl.out.symm⟩, HBx⟩
    case round =>
      obtain ⟨k, rfl, hk1, hk, HE, HW⟩ := hrel
      by_cases hlt : k < l.length
      · obtain ⟨ad, rfl, hc⟩ := (HR.out.below HW.out.hb).cell k hlt
        have HX := Aside0.mk (HL.out _ (nth_mem l k hlt))
        have hlen : (l.take k).length = k := by rw [List.length_take]; omega
        have HLen := Aside0.mk hlen
        have HMem : Aside0 (∀ x, x ∈ l.take k → x < N) := ⟨fun x hx => HL.out x (List.mem_of_mem_take hx)⟩
        have hx64 : nth l k < 64 := Nat.lt_of_lt_of_le HX.out (Nat.le_trans HOk.out.hN (by omega))
        clear hlen
        have HRng := Aside0.mk (show List.range' k (l.length - k) = k :: List.range' (k + 1) (l.length - (k + 1)) by rw [show l.length - k = (l.length - (k + 1)) + 1 by omega, List.range'_succ])
        have HLg := Aside0.mk (legal_lt HOk.out game (l.take k) HMem.out)
        have HRt := Aside0.mk (HR.out.take k (by omega))
        generalize hLk : nth l k = x at *
        have HLk := Aside0.mk hLk
        clear hLk
        haveI : Nonempty (Gd (St wr [(g, O)])) := ⟨⟨wr, ⟨Below.refl _ _, HW.out.blk⟩⟩⟩
        have hs0 : ∀ i : Gd (St wr [(g, O)]), i.v.cell? ⟨g, 0, none⟩ = some (.int .u64 n.all) := fun i => (i.h.at_ List.mem_cons_self 0).trans rfl
        have hs1 : ∀ i : Gd (St wr [(g, O)]), i.v.cell? ⟨g, 1, none⟩ = some (.slice A1 n.by_.length c1) := fun i => (i.h.at_ List.mem_cons_self 1).trans rfl
        have hs2 : ∀ i : Gd (St wr [(g, O)]), i.v.cell? ⟨g, 2, none⟩ = some (.slice A2 n.out.length c2) := fun i => (i.h.at_ List.mem_cons_self 2).trans rfl
        have hs3 : ∀ i : Gd (St wr [(g, O)]), i.v.cell? (ad.add k) = some (.int .i64 x) := fun i => pw_cell_below i.h.hb hc
        have hki : (k : Int) < (l.length : Int) := by omega
        have hk0 : (0 : Int) ≤ (k : Int) := by omega
        have hkc : (k : Int) ≤ (c : Int) := by have := HR.out.1; omega
        have C42 := Aside0.mk (fun i : Gd (St wr [(g, O)]) => i.h.gdnx (legal_any N n HOk.out game HG.out (l.take k) (by rw [HLen.out]; exact hk1) (by rw [HLen.out]; omega) HMem.out (some ad) c _ i.v ((HT.out.below HT.out.2 HW.out.hb).below (HT.out.below HT.out.2 HW.out.hb).2 i.h.hb) ((HN.out.below HW.out.hb).below i.h.hb) ((HRt.out.below HW.out.hb).below i.h.hb)))
        rw [HLen.out] at C42
        have C46b := Aside0.mk (fun i : Gd (St wr [(g, O)]) => i.h.gdsame (has_any (legalM n game (l.take k)) x (p64 HOk.out.hN HLg.out) hx64 i.v))
        go_wp2
        refine wp_quiet_cls (fun x => ∃ i : Gd (St wr [(g, O)]), x = i.v) (by kernel_rfl) (by kernel_rfl) ⟨⟨wr.drew, ⟨(Below.refl _ _).drew, HW.out.blk⟩⟩, rfl⟩ ?_
        repeat (quiet_step (first | (go_at_call 42; exact C42.out _) | (go_at_call 46; exact C46b.out _)))
        refine wpQuiet_nil ?_
        clear C42 C46b hs0 hs1 hs2 hs3 this hc hki hk0 hkc
        rintro _ ⟨⟨w6, hb6⟩, rfl⟩
        have HW6 := Aside0.mk (HW.out.nx hb6.hb)
        clear hb6
        cases hbit : (legalM n game (l.take k)).testBit x with
        | true =>
          have HBit := Aside0.mk hbit
          clear hbit
          go_wp2
          refine ⟨⟨k + 1, by go_num, by omega, hlt, ⟨?_⟩, HW6⟩, by simp [intOf]; omega⟩
          rw [← HE.out, HRng.out, List.all_cons, HLk.out, HBit.out, Bool.true_and]
        | false =>
          have HBit := Aside0.mk hbit
          clear hbit
          go_wp2
          go_ret
          refine ⟨?_, ⟨HW6.out.hb⟩⟩
          rw [← HE.out, HRng.out, List.all_cons, HLk.out, HBit.out, Bool.false_and]; rfl
      · go_wp2
        go_ret
        have hkl : k = l.length := by omega
        have he := HE.out
        rw [hkl, Nat.sub_self, List.range'_zero] at he
        refine ⟨?_, ⟨HW.out.hb⟩⟩
        rw [← he]; rfl
  · have e1 : ((game : Int) == 2) = true := by rw [beq_iff_eq]; omega
    by_cases hself : (nth n.by_ y).testBit y = true
    · have HPl : Aside0 (playedB n game l = false) := ⟨by rw [playedB, HY.out, if_pos ⟨hg, hself⟩]⟩
      rw [hself] at C46
      clear hg hself
      go_enter Tryd.func66, Tryd.ntmps66
      go_wp2_with (first | ((with_reducible refine gate_dst (N := 3) rfl ?_); refine box_st (w := w) 3 #[.int .u64 n.all, .slice A1 n.by_.length c1, .slice A2 n.out.length c2] 64 rfl rfl ?hr HB.out ?_; (case hr => go_simp; done); clear HB; intro g w1 HB GE))
      obtain ⟨ad, rfl, hc⟩ := (HR.out.below HB.out.hb).cell0 h0
      rw [show nth l 0 = y from HY.out] at hc
      obtain ⟨ad1, rfl, hc1⟩ := (H2.out.below HB.out.hb).cell y hyl
      have hg1 := (HB.out.at_ (List.mem_cons_self) 1).trans rfl
      go_quiet ((go_at_call 46; exact Calls.quiet_of_same (C46.out _)))
      have HBx := Aside0.mk (HB.out.drewN nq)
      clear q1 q5 q6 C46 HB hg1 hc1 hc
      go_wp2
      go_ret
      exact ⟨by rw [HPl.out]; rfl, ⟨HBx.out.hb⟩⟩
    · have HPl : Aside0 (playedB n game l = (List.range' 1 (l.length - 1)).all fun i => (legalM n game (l.take i)).testBit (nth l i)) := ⟨by rw [playedB, HY.out, if_neg (fun h => hself h.2)]⟩
      have hself : (nth n.by_ y).testBit y = false := by simpa using hself
      rw [hself] at C46
      clear hg hself
      go_enter Tryd.func66, Tryd.ntmps66
      go_wp2_with (first | ((with_reducible refine gate_dst (N := 3) rfl ?_); refine box_st (w := w) 3 #[.int .u64 n.all, .slice A1 n.by_.length c1, .slice A2 n.out.length c2] 64 rfl rfl ?hr HB.out ?_; (case hr => go_simp; done); clear HB; intro g w1 HB GE))
      obtain ⟨ad, rfl, hc⟩ := (HR.out.below HB.out.hb).cell0 h0
      rw [show nth l 0 = y from HY.out] at hc
      obtain ⟨ad1, rfl, hc1⟩ := (H2.out.below HB.out.hb).cell y hyl
      have hg1 := (HB.out.at_ (List.mem_cons_self) 1).trans rfl
      go_quiet ((go_at_call 46; exact Calls.quiet_of_same (C46.out _)))
      have HBx := Aside0.mk (HB.out.drewN nq)
      clear q1 q5 q6 C46 HB hg1 hc1 hc
      go_wp2
      go_loopw [7] (fun v7 w' => ∃ k : Nat, v7 = .int .i64 k ∧ 1 ≤ k ∧ k ≤ l.length ∧ Aside0 (((List.range' k (l.length - k)).all fun i => (legalM n game (l.take i)).testBit (nth l i)) = playedB n game l) ∧ Aside0 (St w [(g, O)] w')) (fun v7 _ => l.length - (intOf v7).toNat)
      case atStart => exact ⟨1, rfl, Nat.le_refl _, h0, ⟨HPl.out.symm⟩, HBx⟩
      case round =>
        obtain ⟨k, rfl, hk1, hk, HE, HW⟩ := hrel
        by_cases hlt : k < l.length
        · obtain ⟨ad', ead, hc⟩ := (HR.out.below HW.out.hb).cell k hlt
          obtain rfl : ad = ad' := by injection ead
          have HX := Aside0.mk (HL.out _ (nth_mem l k hlt))
          have hlen : (l.take k).length = k := by rw [List.length_take]; omega
          have HLen := Aside0.mk hlen
          have HMem : Aside0 (∀ x, x ∈ l.take k → x < N) := ⟨fun x hx => HL.out x (List.mem_of_mem_take hx)⟩
          have hx64 : nth l k < 64 := Nat.lt_of_lt_of_le HX.out (Nat.le_trans HOk.out.hN (by omega))
          clear hlen
          have HRng := Aside0.mk (show List.range' k (l.length - k) = k :: List.range' (k + 1) (l.length - (k + 1)) by rw [show l.length - k = (l.length - (k + 1)) + 1 by omega, List.range'_succ])
          have HLg := Aside0.mk (legal_lt HOk.out game (l.take k) HMem.out)
          have HRt := Aside0.mk (HR.out.take k (by omega))
          generalize hLk : nth l k = x at *
          have HLk := Aside0.mk hLk
          clear hLk
          haveI : Nonempty (Gd (St wr [(g, O)])) := ⟨⟨wr, ⟨Below.refl _ _, HW.out.blk⟩⟩⟩
          have hs0 : ∀ i : Gd (St wr [(g, O)]), i.v.cell? ⟨g, 0, none⟩ = some (.int .u64 n.all) := fun i => (i.h.at_ List.mem_cons_self 0).trans rfl
          have hs1 : ∀ i : Gd (St wr [(g, O)]), i.v.cell? ⟨g, 1, none⟩ = some (.slice (some ad1) n.by_.length c1) := fun i => (i.h.at_ List.mem_cons_self 1).trans rfl
          have hs2 : ∀ i : Gd (St wr [(g, O)]), i.v.cell? ⟨g, 2, none⟩ = some (.slice A2 n.out.length c2) := fun i => (i.h.at_ List.mem_cons_self 2).trans rfl
          have hs3 : ∀ i : Gd (St wr [(g, O)]), i.v.cell? (ad.add k) = some (.int .i64 x) := fun i => pw_cell_below i.h.hb hc
          have hki : (k : Int) < (l.length : Int) := by omega
          have hk0 : (0 : Int) ≤ (k : Int) := by omega
          have hkc : (k : Int) ≤ (c : Int) := by have := HR.out.1; omega
          have C42 := Aside0.mk (fun i : Gd (St wr [(g, O)]) => i.h.gdnx (legal_any N n HOk.out game HG.out (l.take k) (by rw [HLen.out]; exact hk1) (by rw [HLen.out]; omega) HMem.out (some ad) c _ i.v ((HT.out.below HT.out.2 HW.out.hb).below (HT.out.below HT.out.2 HW.out.hb).2 i.h.hb) ((HN.out.below HW.out.hb).below i.h.hb) ((HRt.out.below HW.out.hb).below i.h.hb)))
          rw [HLen.out] at C42
          have C46b := Aside0.mk (fun i : Gd (St wr [(g, O)]) => i.h.gdsame (has_any (legalM n game (l.take k)) x (p64 HOk.out.hN HLg.out) hx64 i.v))
          go_wp2
          refine wp_quiet_cls (fun x => ∃ i : Gd (St wr [(g, O)]), x = i.v) (by kernel_rfl) (by kernel_rfl) ⟨⟨wr.drew, ⟨(Below.refl _ _).drew, HW.out.blk⟩⟩, rfl⟩ ?_
          repeat (quiet_step (first | (go_at_call 42; exact C42.out _) | (go_at_call 46; exact C46b.out _)))
          refine wpQuiet_nil ?_
          clear C42 C46b hs0 hs1 hs2 hs3 this hc hki hk0 hkc
          rintro _ ⟨⟨w6, hb6⟩, rfl⟩
          have HW6 := Aside0.mk (HW.out.nx hb6.hb)
          clear hb6
          cases hbit : (legalM n game (l.take k)).testBit x with
          | true =>
            have HBit := Aside0.mk hbit
            clear hbit
            go_wp2
            refine ⟨⟨k + 1, by go_num, by omega, hlt, ⟨?_⟩, HW6⟩, by simp [intOf]; omega⟩
            rw [← HE.out, HRng.out, List.all_cons, HLk.out, HBit.out, Bool.true_and]
          | false =>
            have HBit := Aside0.mk hbit
            clear hbit
            go_wp2
            go_ret
            refine ⟨?_, ⟨HW6.out.hb⟩⟩
            rw [← HE.out, HRng.out, List.all_cons, HLk.out, HBit.out, Bool.false_and]; rfl
        · go_wp2
          go_ret
          have hkl : k = l.length := by omega
          have he := HE.out
          rw [hkl, Nat.sub_self, List.range'_zero] at he
          refine ⟨?_, ⟨HW.out.hb⟩⟩
          rw [← he]; rfl
end Go.Proofs.YtgboplcjafmliaaDoor.G

/- Contracts of graph.compare, graph.Validate and network.New, and what they compute. -/
namespace Go.Proofs.YtgboplcjafmliaaDoor.G
open Go.RowKit Go.Proofs.YtgboplcjafmliaaDoorW.PrintWords Go.Proofs.YtgboplcjafmliaaDoorW.PrintLast Go.Proofs.YtgboplcjafmliaaDoorW.PrintMore
open Go.Proofs.YtgboplcjafmliaaDoor.PAll
attribute [local go_sem] max2_int min2_int max_two min_two max_three min_three max_four min_four
set_option linter.unusedVariables false
set_option linter.unusedSimpArgs false

/-- How pairs are compared. -/
def cmpP (p q : S54) : Int := if p.f0 < q.f0 then -1 else if q.f0 < p.f0 then 1 else if p.f1 < q.f1 then -1 else if q.f1 < p.f1 then 1 else 0
theorem compare_any (p q : S54) (w : World) : Calls Tryd.prog 48 #[.agg #[.int .i64 p.f0, .int .i64 p.f1], .agg #[.int .i64 q.f0, .int .i64 q.f1]] w fun e w' => e = .returned (.int .i64 (cmpP p q)) ∧ Aside0 (Below w.heap.size w w') :=
  (graph_compare.calls 4 p.f0 p.f1 q.f0 q.f1 (cmpP p q) w (by
    unfold graph_compare.f cmp_Compare_int.f cmp_isNaN_int.f cmpP
    rcases Int.lt_trichotomy p.f0 q.f0 with h | h | h
    · simp [h, cmp_Or_int.f, cmp_Or_int.l0, rd]
      split <;> (try split) <;> rfl
    · rcases Int.lt_trichotomy p.f1 q.f1 with h2 | h2 | h2
      · simp [h, h2, cmp_Or_int.f, cmp_Or_int.l0, rd, wrap64]
      · simp [h, h2, cmp_Or_int.f, cmp_Or_int.l0, rd, wrap64]
      · simp [h, h2, cmp_Or_int.f, cmp_Or_int.l0, rd, wrap64, Int.not_lt.2 (Int.le_of_lt h2)]
    · simp [h, cmp_Or_int.f, cmp_Or_int.l0, rd, Int.not_lt.2 (Int.le_of_lt h)]
      split <;> (try split) <;> rfl)).mono fun _ _ ⟨h1, h2⟩ => ⟨h1, ⟨h2⟩⟩

def cmpQ : Option S54 → S54 → Bool
  | some q, p => decide (0 ≤ cmpP q p)
  | none, _ => false
/-- What Validate returns. -/
def valL (N : Int) : Option S54 → List S54 → Int
  | _, [] => 0
  | q, p :: l => if (p.f0 < 0 ∨ p.f1 < 0) ∨ (N ≤ p.f0 ∨ N ≤ p.f1) then 1 else if cmpQ q p = true then 8 else valL N (some p) l
theorem valL_cons (N : Int) (q : Option S54) (p : S54) (l : List S54) : valL N q (p :: l) = if (p.f0 < 0 ∨ p.f1 < 0) ∨ (N ≤ p.f0 ∨ N ≤ p.f1) then 1 else if cmpQ q p = true then 8 else valL N (some p) l := by rw [valL.eq_def]
def valE (N : Int) (l : List S54) : Int := if N < 0 ∨ 40 < N then 1 else valL N none l
/-- A row of pairs that is read. -/
def RdP (w : World) (A : Option Addr) (c : Nat) (l : List S54) : Prop := l.length ≤ c ∧ k54.C w A l.length l
theorem RdP.below {w w1 : World} {A : Option Addr} {c : Nat} {l : List S54} (h : RdP w A c l) (hb : Below w.heap.size w w1) : RdP w1 A c l := ⟨h.1, Kd.C_below h.2 hb⟩
def nthP (l : List S54) (i : Nat) : S54 := l.getD i z54
theorem nthP_drop (l : List S54) (k : Nat) (h : k < l.length) : l.drop k = nthP l k :: l.drop (k + 1) := by
  rw [List.drop_eq_getElem_cons h, nthP, List.getD_eq_getElem?_getD, List.getElem?_eq_getElem h]; rfl
theorem RdP.cell {w : World} {A : Option Addr} {c : Nat} {l : List S54} (h : RdP w A c l) (i : Nat) (hi : i < l.length) : ∃ ad, A = some ad ∧ w.cell? (ad.add (i * 2)) = some (.int .i64 (nthP l i).f0) ∧ w.cell? ⟨(ad.add (i * 2)).block, (ad.add (i * 2)).off + 1, none⟩ = some (.int .i64 (nthP l i).f1) := by
  obtain ⟨ad, h1, h2, h3⟩ := at_T54 h.2 (i : Int) (by omega) (by omega)
  exact ⟨ad, h1, by simpa [rd_T54, nthP] using h2, by simpa [rd_T54, nthP] using h3⟩

set_option maxHeartbeats 4000000 in
set_option maxRecDepth 100000 in
theorem validate_any (N : Int) (l : List S54) (hl : l.length < 2 ^ 44) (A : Option Addr) (c : Nat) (w : World) (hr : RdP w A c l) :
    Calls Tryd.prog 23 #[.agg #[.int .i64 N, .slice A l.length c]] w fun e w' => e = .returned (.int .i64 (valE N l)) ∧ Aside0 (Below w.heap.size w w') := by
  have HR := Aside0.mk hr
  clear hr
  have HB := Aside0.mk (St.refl w)
  let O : Obj := .cells #[.int .i64 N, .slice A l.length c] 24 (0, 0)
  by_cases hN : N < 0 ∨ 40 < N
  · have HE : Aside0 (valE N l = 1) := ⟨by rw [valE, if_pos hN]⟩
    by_cases hN0 : N < 0
    · clear hN
      go_enter Tryd.func23, Tryd.ntmps23
      go_wp2_with (first | ((with_reducible refine gate_dst (N := 1) rfl ?_); refine box_st (w := w) 1 #[.int .i64 N, .slice A l.length c] 24 rfl rfl ?hr HB.out ?_; (case hr => go_simp; done); clear HB; intro g w1 HB GE; have hg0 := (HB.out.at_ (List.mem_cons_self) 0).trans rfl))
      go_ret
      exact ⟨by rw [HE.out]; rfl, ⟨HB.out.hb⟩⟩
    · have hN1 : 40 < N := by omega
      clear hN
      go_enter Tryd.func23, Tryd.ntmps23
      go_wp2_with (first | ((with_reducible refine gate_dst (N := 1) rfl ?_); refine box_st (w := w) 1 #[.int .i64 N, .slice A l.length c] 24 rfl rfl ?hr HB.out ?_; (case hr => go_simp; done); clear HB; intro g w1 HB GE; have hg0 := (HB.out.at_ (List.mem_cons_self) 0).trans rfl))
      go_ret
      exact ⟨by rw [HE.out]; rfl, ⟨HB.out.hb⟩⟩
  · have hN0 : ¬ N < 0 := by omega
    have hN1 : ¬ 40 < N := by omega
    have HE : Aside0 (valE N l = valL N none l) := ⟨by rw [valE, if_neg hN]⟩
    clear hN
    go_enter Tryd.func23, Tryd.ntmps23
    go_wp2_with (first | ((with_reducible refine gate_dst (N := 1) rfl ?_); refine box_st (w := w) 1 #[.int .i64 N, .slice A l.length c] 24 rfl rfl ?hr HB.out ?_; (case hr => go_simp; done); clear HB; intro g w1 HB GE; have hg0 := (HB.out.at_ (List.mem_cons_self) 0).trans rfl; have hg1 := (HB.out.at_ (List.mem_cons_self) 1).trans rfl))
    clear hg0 hg1
    have HW1 : Aside0 (St w1 [(g, O)] w1) := ⟨⟨Below.refl _ _, HB.out.blk⟩⟩
    go_loopw [16] (fun v16 w' => ∃ k : Nat, v16 = .int .i64 k ∧ k ≤ l.length ∧ Aside0 (valL N (if k = 0 then none else some (nthP l (k - 1))) (l.drop k) = valL N none l) ∧ Aside0 (St w1 [(g, O)] w')) (fun v16 _ => l.length - (intOf v16).toNat)
    case atStart => exact ⟨0, rfl, Nat.zero_le _, ⟨rfl⟩, HW1⟩
    case round =>
      obtain ⟨k, rfl, hk, HV, HW⟩ := hrel
      by_cases hlt : k < l.length
      · obtain ⟨ad, rfl, hc0, hc1⟩ := (HR.out.below (HB.out.nx HW.out.hb).hb).cell k hlt
        have HD := Aside0.mk (nthP_drop l k hlt)
        obtain ⟨p, hp⟩ : ∃ p, nthP l k = p := ⟨_, rfl⟩
        rw [hp] at hc0 hc1
        have HP := Aside0.mk hp
        clear hp
        have hgN := (HW.out.at_ (List.mem_cons_self) 0).trans rfl
        have hgNa : (wr.alloc (.cells #[.int .i64 p.f0, .int .i64 p.f1] 54)).cell? ⟨g, 0, none⟩ = some (.int .i64 N) := pw_cell_below (below_alloc (Below.refl _ _) _) hgN
        obtain ⟨lo, hlo⟩ : ∃ m, (if p.f1 < p.f0 then p.f1 else p.f0) = m := ⟨_, rfl⟩
        obtain ⟨hi, hhi⟩ : ∃ m, (if p.f0 < p.f1 then p.f1 else p.f0) = m := ⟨_, rfl⟩
        have HLo : Aside0 (lo < 0 ↔ p.f0 < 0 ∨ p.f1 < 0) := ⟨by rw [← hlo]; split <;> omega⟩
        have HHi : Aside0 (N ≤ hi ↔ N ≤ p.f0 ∨ N ≤ p.f1) := ⟨by rw [← hhi]; split <;> omega⟩
        cases hd1 : decide (lo < 0) with
        | true =>
          have HBad : Aside0 (lo < 0) := ⟨of_decide_eq_true hd1⟩
          go_wp2
          go_ret
          refine ⟨?_, ⟨(HB.out.nx (HW.out.nx (below_alloc (Below.refl _ _) _)).hb).hb⟩⟩
          rw [HE.out, ← HV.out, HD.out, HP.out, valL_cons, if_pos (.inl (HLo.out.1 HBad.out))]; rfl
        | false =>
          have HNb : Aside0 (¬ lo < 0) := ⟨of_decide_eq_false hd1⟩
          cases hd2 : decide (N ≤ hi) with
          | true =>
            have HBad : Aside0 (N ≤ hi) := ⟨of_decide_eq_true hd2⟩
            go_wp2
            go_ret
            refine ⟨?_, ⟨(HB.out.nx (HW.out.nx (below_alloc (Below.refl _ _) _)).hb).hb⟩⟩
            rw [HE.out, ← HV.out, HD.out, HP.out, valL_cons, if_pos (.inr (HHi.out.1 HBad.out))]; rfl
          | false =>
            have HGood : Aside0 (¬ ((p.f0 < 0 ∨ p.f1 < 0) ∨ (N ≤ p.f0 ∨ N ≤ p.f1))) := ⟨fun h => h.elim (fun h => HNb.out (HLo.out.2 h)) (fun h => of_decide_eq_false hd2 (HHi.out.2 h))⟩
            go_wp2_with fail
            have HWa : Aside0 (St w1 [(wr.heap.size, .cells #[.int .i64 p.f0, .int .i64 p.f1] 54 (0, 0)), (g, O)] (wr.alloc (.cells #[.int .i64 p.f0, .int .i64 p.f1] 54))) := ⟨St.add HW.out _⟩
            clear hgNa hgN hc0 hc1 hd1 hd2 hlo hhi HLo HHi HNb
            generalize wr.alloc (.cells #[.int .i64 p.f0, .int .i64 p.f1] 54) = wa at *
            have HBa := Aside0.mk (HB.out.nx HWa.out.hb)
            cases k with
            | zero =>
              have HE2 : Aside0 (valL N none l = valL N (some p) (l.drop 1)) := ⟨by rw [← HV.out, HD.out, HP.out, valL_cons, if_neg HGood.out, if_neg (by simp [cmpQ])]⟩
              go_quiet (fail)
              have HW2 := Aside0.mk (HWa.out.drewN nq)
              go_wp2
              refine ⟨⟨1, rfl, hlt, ⟨by rw [HE2.out]; simp [HP.out]⟩, ⟨⟨HW2.out.hb, fun q hq => HW2.out.blk q (List.mem_cons_of_mem _ hq)⟩⟩⟩, by simp [intOf]; omega⟩
            | succ j =>
              obtain ⟨ad', ead, hd0, hd1⟩ := (HR.out.below HBa.out.hb).cell j (by omega)
              obtain rfl : ad = ad' := by injection ead
              obtain ⟨q, hq⟩ : ∃ q, nthP l j = q := ⟨_, rfl⟩
              rw [hq] at hd0 hd1
              have HQ := Aside0.mk hq
              clear hq ead
              have HCm := Aside0.mk (compare_any q p)
              have HE2 : Aside0 (valL N none l = if decide (0 ≤ cmpP q p) = true then 8 else valL N (some p) (l.drop (j + 1 + 1))) := ⟨by
                have hv := HV.out
                rw [if_neg (by omega : ¬ j + 1 = 0), show j + 1 - 1 = j by omega, HQ.out, HD.out, HP.out, valL_cons, if_neg HGood.out] at hv
                exact hv.symm⟩
              let Bs : List (Nat × Obj) := [(wr.heap.size, .cells #[.int .i64 p.f0, .int .i64 p.f1] 54 (0, 0)), (g, O)]
              haveI : Nonempty (Gd (St wa Bs)) := ⟨⟨wa, ⟨Below.refl _ _, HWa.out.blk⟩⟩⟩
              have hs1 : ∀ i : Gd (St wa Bs), i.v.cell? ⟨g, 1, none⟩ = some (.slice (some ad) l.length c) := fun i => (i.h.at_ (List.mem_cons_of_mem _ List.mem_cons_self) 1).trans rfl
              have hs2 : ∀ i : Gd (St wa Bs), i.v.cell? ⟨wr.heap.size, 0, none⟩ = some (.int .i64 p.f0) := fun i => (i.h.at_ List.mem_cons_self 0).trans rfl
              have hs3 : ∀ i : Gd (St wa Bs), i.v.cell? ⟨wr.heap.size, 1, none⟩ = some (.int .i64 p.f1) := fun i => (i.h.at_ List.mem_cons_self 1).trans rfl
              have hs4 : ∀ i : Gd (St wa Bs), i.v.cell? (ad.add (j * 2)) = some (.int .i64 q.f0) := fun i => pw_cell_below i.h.hb hd0
              have hs5 : ∀ i : Gd (St wa Bs), i.v.cell? ⟨(ad.add (j * 2)).block, (ad.add (j * 2)).off + 1, none⟩ = some (.int .i64 q.f1) := fun i => pw_cell_below i.h.hb hd1
              have C48 := Aside0.mk (fun i : Gd (St wa Bs) => i.h.gdnx (HCm.out i.v))
              have hj0 : (0 : Int) ≤ (j : Int) := by omega
              have hj1 : (j : Int) < (l.length : Int) := by omega
              refine wp_quiet_cls (fun x => ∃ i : Gd (St wa Bs), x = i.v) (by kernel_rfl) (by kernel_rfl) ⟨⟨wa.drew, ⟨(Below.refl _ _).drew, HWa.out.blk⟩⟩, rfl⟩ ?_
              have hjw : IntKind.i64.wrap (j : Int) = j := IntWalk.i64_in _ (by omega)
              repeat (quiet_step ((go_at_call 48; exact C48.out _)))
              refine wpQuiet_nil ?_
              clear C48 hs1 hs2 hs3 hs4 hs5 this hd0 hd1 hjw hj0 hj1 HCm
              rintro w6 ⟨⟨_, hb6⟩, rfl⟩
              have HW6 : Aside0 (St w1 [(g, O)] w6) := ⟨⟨(HWa.out.nx hb6.hb).hb, fun q hq => (HWa.out.nx hb6.hb).blk q (List.mem_cons_of_mem _ hq)⟩⟩
              clear hb6
              cases hcmp : decide (0 ≤ cmpP q p) with
              | true =>
                rw [hcmp, if_pos rfl] at HE2
                go_wp2
                go_ret
                exact ⟨by rw [HE.out, HE2.out]; rfl, ⟨(HB.out.nx HW6.out.hb).hb⟩⟩
              | false =>
                rw [hcmp, if_neg (by simp)] at HE2
                go_wp2
                refine ⟨⟨j + 1 + 1, by go_num, hlt, ⟨by rw [HE2.out, if_neg (by omega), show j + 1 + 1 - 1 = j + 1 by omega, HP.out]⟩, HW6⟩, by simp [intOf]; omega⟩
      · go_wp2
        go_ret
        have hkl : k = l.length := by omega
        have he := HV.out
        rw [hkl, List.drop_length] at he
        refine ⟨?_, ⟨(HB.out.nx HW.out.hb).hb⟩⟩
        rw [HE.out, ← he]; rfl
end Go.Proofs.YtgboplcjafmliaaDoor.G

/- The contract of network.New, and what it computes. -/
namespace Go.Proofs.YtgboplcjafmliaaDoor.G
open Go.RowKit Go.Proofs.YtgboplcjafmliaaDoorW.PrintWords Go.Proofs.YtgboplcjafmliaaDoorW.PrintLast Go.Proofs.YtgboplcjafmliaaDoorW.PrintMore
open Go.Proofs.YtgboplcjafmliaaDoor.PAll
set_option linter.unusedVariables false
set_option linter.unusedSimpArgs false

/-- One more node in a row. -/
def addR (rows : List Nat) (t f : Nat) : List Nat := rows.set t (nth rows t ||| 2 ^ f)
def netBy (N : Nat) (l : List S54) : List Nat := l.foldl (fun r p => addR r p.f1.toNat p.f0.toNat) (List.replicate N 0)
def netOut (N : Nat) (l : List S54) : List Nat := l.foldl (fun r p => addR r p.f0.toNat p.f1.toNat) (List.replicate N 0)
def netOf (N : Nat) (l : List S54) : NetD := ⟨2 ^ N - 1, netBy N l, netOut N l⟩
def u64s (l : List Nat) : Array Value := ((up l).map fun x => Value.int .u64 x).toArray
theorem two_pow_or (k : Nat) : (2 ^ k - 1) ||| 2 ^ k = 2 ^ (k + 1) - 1 := by
  apply Nat.eq_of_testBit_eq; intro i
  rw [Nat.testBit_or, Nat.testBit_two_pow_sub_one, Nat.testBit_two_pow_sub_one, Nat.testBit_two_pow]
  rw [Bool.eq_iff_iff]; simp; omega

theorem madeCells_zero (n : Nat) : madeCells #[Value.int .u64 0] n = u64s (List.replicate n 0) := by
  apply Array.toList_inj.1
  apply List.ext_getElem
  · simp [u64s, up, madeCells]
  · intro i h1 h2
    simp [u64s, up, madeCells, Nat.mod_one]
theorem nth_rep (k n : Nat) {i : Nat} : nth (List.replicate k 0) i < 2 ^ n := by
  have : nth (List.replicate k 0) i = 0 := by
    unfold nth
    rw [List.getD_eq_getElem?_getD, List.getElem?_replicate]
    split <;> rfl
  rw [this]; exact Nat.two_pow_pos n
theorem nthP_mem (l : List S54) (k : Nat) (h : k < l.length) : nthP l k ∈ l := by
  rw [nthP, List.getD_eq_getElem?_getD, List.getElem?_eq_getElem h]; exact List.getElem_mem h
theorem u64s_get (l : List Nat) (i : Nat) (h : i < l.length) : (u64s l)[i]? = some (.int .u64 ((nth l i : Nat) : Int)) := by
  simp only [u64s, up, List.getElem?_toArray, List.getElem?_map, nth, List.getD_eq_getElem?_getD, List.getElem?_eq_getElem h]
  rfl
theorem u64s_set (l : List Nat) (t f : Nat) : (u64s l).setIfInBounds t (.int .u64 ((nth l t ||| 2 ^ f : Nat) : Int)) = u64s (addR l t f) := by
  simp [u64s, up, addR, List.map_set]
theorem addR_length (l : List Nat) (t f : Nat) : (addR l t f).length = l.length := by simp [addR]
theorem addR_lt {N : Nat} (l : List Nat) (t f : Nat) (hf : f < N) (h : ∀ i, nth l i < 2 ^ N) : ∀ i, nth (addR l t f) i < 2 ^ N := by
  intro i
  have hor : nth l t ||| 2 ^ f < 2 ^ N := Nat.or_lt_two_pow (h t) (Nat.pow_lt_pow_right (by omega) hf)
  have h1 := h i
  unfold nth addR at *
  rw [List.getD_eq_getElem?_getD, List.getElem?_set]
  rw [List.getD_eq_getElem?_getD] at h1
  split
  · split
    · exact hor
    · exact Nat.two_pow_pos N
  · exact h1

theorem rdN_of_block {w : World} {b c : Nat} {l : List Nat} {e : TypeId} (h : w.heap[b]? = some (.cells (u64s l) e (0, 0))) (hc : l.length ≤ c) (hs : l.length < 2 ^ 40) : RdN .u64 w (some ⟨b, 0, none⟩) c l := by
  refine ⟨hc, Kd.C_of_reads (d := (0 : Int)) (h1 := fun _ => rfl) ⟨up_length l, by omega, fun _ => ⟨_, rfl, fun j hj => ?_⟩⟩⟩
  rw [add_plain, blk_cell h, u64s_get l j hj, up_getD]

set_option maxHeartbeats 4000000 in
set_option maxRecDepth 100000 in
theorem new_blk (N : Nat) (hN : N ≤ 40) (l : List S54) (hl : l.length < 2 ^ 44) (hv : ∀ p, p ∈ l → 0 ≤ p.f0 ∧ p.f0 < N ∧ 0 ≤ p.f1 ∧ p.f1 < N) (A : Option Addr) (c : Nat) (w : World) (hr : RdP w A c l) :
    Calls Tryd.prog 25 #[.agg #[.int .i64 N, .slice A l.length c]] w fun e w' => ∃ b1 b2, e = .returned (.agg #[.int .u64 ((netOf N l).all : Int), .slice (some ⟨b1, 0, none⟩) N N, .slice (some ⟨b2, 0, none⟩) N N]) ∧ Aside0 (w'.heap[b1]? = some (.cells (u64s (netOf N l).by_) 61 (0, 0))) ∧ Aside0 (w'.heap[b2]? = some (.cells (u64s (netOf N l).out) 61 (0, 0))) ∧ Aside0 ((netOf N l).by_.length = N ∧ (netOf N l).out.length = N) ∧ Aside0 (Below w.heap.size w w') := by
  have HR := Aside0.mk hr
  have HVl := Aside0.mk hv
  clear hr hv
  have HB := Aside0.mk (Mem.refl w)
  have hmk := print_make (P := Tryd.prog) 62 61 .u64 8 Tryd.underlying62 info61 (by decide) N (by omega)
  go_enter Tryd.func25, Tryd.ntmps25
  go_upto_region 1 with (first | ((with_reducible refine gate_dst (N := 1) rfl ?_); refine box_mem (w := w) 1 #[.int .i64 N, .slice A l.length c] 24 rfl rfl ?hr HB.out ?_; (case hr => go_simp; done); clear HB; intro g w1 HB HW) | ((with_reducible refine gate_dst (N := 2) rfl ?_); refine box_mem (w := w) 2 #[.int .u64 0, .slice none 0 0, .slice none 0 0] 64 rfl rfl ?hr HB.out ?_; (case hr => go_simp; done); clear HB HW; intro g2 w2 HB HW))
  simp only [Act.put, List.setIfInBounds_toArray, List.set_cons_succ, List.set_cons_zero]
  go_cut [3] (fun s3 wx => ∃ b1 b2 n3 : Nat, s3 = .pointer (some ⟨n3, 0, none⟩) ∧ Aside0 (Mem w [(n3, .cells #[.int .u64 0, .slice (some ⟨b1, 0, none⟩) N N, .slice (some ⟨b2, 0, none⟩) N N] 64 (0, 0)), (b1, .cells (madeCells #[.int .u64 0] N) 61 (0, 0)), (b2, .cells (madeCells #[.int .u64 0] N) 61 (0, 0)), (g2, .cells #[.int .u64 0, .slice none 0 0, .slice none 0 0] 64 (0, 0)), (g, .cells #[.int .i64 N, .slice A l.length c] 24 (0, 0))] wx))
  case first =>
    have hg0 := (HB.out.st.at_ (List.mem_cons_of_mem _ List.mem_cons_self) 0).trans rfl
    have hgl := HB.out.lt _ (List.mem_cons_of_mem _ List.mem_cons_self)
    go_region
    all_goals (go_wp2_with fail; go_meet)
    all_goals (first | exact ⟨(w2.heap.size + 1), w2.heap.size, (w2.heap.size + 1 + 1), rfl, ⟨(HB.out.three _ _ _).perm (List.Perm.refl _)⟩⟩ | exact ⟨w2.heap.size, (w2.heap.size + 1), (w2.heap.size + 1 + 1), rfl, ⟨(HB.out.three _ _ _).perm (perm_132 _ _ _ _)⟩⟩ | exact ⟨(w2.heap.size + 1 + 1), w2.heap.size, (w2.heap.size + 1), rfl, ⟨(HB.out.three _ _ _).perm (perm_213 _ _ _ _)⟩⟩ | exact ⟨w2.heap.size, (w2.heap.size + 1 + 1), (w2.heap.size + 1), rfl, ⟨(HB.out.three _ _ _).perm (perm_231 _ _ _ _)⟩⟩ | exact ⟨(w2.heap.size + 1 + 1), (w2.heap.size + 1), w2.heap.size, rfl, ⟨(HB.out.three _ _ _).perm (perm_312 _ _ _ _)⟩⟩ | exact ⟨(w2.heap.size + 1), (w2.heap.size + 1 + 1), w2.heap.size, rfl, ⟨(HB.out.three _ _ _).perm (perm_321 _ _ _ _)⟩⟩)
  case rest =>
    obtain ⟨b1, b2, n3, rfl, HM⟩ := hcut
    have HGm : Aside0 (∀ x, Mem w [(n3, .cells #[.int .u64 0, .slice (some ⟨b1, 0, none⟩) N N, .slice (some ⟨b2, 0, none⟩) N N] 64 (0, 0)), (b1, .cells (madeCells #[.int .u64 0] N) 61 (0, 0)), (b2, .cells (madeCells #[.int .u64 0] N) 61 (0, 0)), (g2, .cells #[.int .u64 0, .slice none 0 0, .slice none 0 0] 64 (0, 0)), (g, .cells #[.int .i64 N, .slice A l.length c] 24 (0, 0))] x → x.cell? ⟨g, 0, none⟩ = some (.int .i64 N)) := ⟨fun x h => (h.st.at_ (.tail _ (.tail _ (.tail _ (.tail _ (.head _))))) 0).trans rfl⟩
    have hgN := HGm.out _ HM.out
    go_wp2
    clear hgN HGm
    go_loopw [4, 16] (fun v4 v16 w' => ∃ k : Nat, v16 = .int .i64 k ∧ k ≤ N ∧ Aside0 (Mem w [(n3, .cells #[.int .u64 ((2 ^ k - 1 : Nat) : Int), .slice (some ⟨b1, 0, none⟩) N N, .slice (some ⟨b2, 0, none⟩) N N] 64 (0, 0)), (b1, .cells (madeCells #[.int .u64 0] N) 61 (0, 0)), (b2, .cells (madeCells #[.int .u64 0] N) 61 (0, 0)), (g2, .cells #[.int .u64 0, .slice none 0 0, .slice none 0 0] 64 (0, 0)), (g, .cells #[.int .i64 N, .slice A l.length c] 24 (0, 0))] w')) (fun _ v16 _ => N - (intOf v16).toNat)
    case atStart => exact ⟨0, rfl, Nat.zero_le _, HM⟩
    case round =>
      clear HM
      obtain ⟨k, rfl, hk, HM⟩ := hrel
      by_cases hlt : k < N
      · have hn0 := (HM.out.st.at_ (.head _) 0).trans rfl
        have hf0 := HM.out.st.free_ (.head _) 0
        have hp : 2 ^ k < 2 ^ 64 := pow_lt' k (by omega)
        have HC := Aside0.mk (fun x : World => with_any (2 ^ k - 1) k (Nat.lt_of_le_of_lt (Nat.sub_le _ _) hp) (by omega) x)
        have HM2 := HM.out.set 0 (.int .u64 ((2 ^ (k + 1) - 1 : Nat) : Int))
        have HMn : Aside0 (Mem w _ _) := ⟨HM2⟩
        have HO := Aside0.mk (two_pow_or k)
        clear HM2 hp
        rw [HO.out] at HC
        generalize 2 ^ k - 1 = s at *
        obtain ⟨s2, hs2⟩ : ∃ s2, 2 ^ (k + 1) - 1 = s2 := ⟨_, rfl⟩
        rw [hs2] at HC HMn
        have HS2 := Aside0.mk hs2
        clear HO hs2
        go_wp2_with (first | (go_at_call 28; refine (HC.out _).mono ?_; rintro e w' ⟨rfl, rfl⟩))
        refine ⟨⟨k + 1, by go_num, hlt, ?_⟩, by simp [intOf]; omega⟩
        rw [HS2.out]
        exact HMn
      · obtain rfl : k = N := by omega
        rw [madeCells_zero] at HM
        have hg1 := (HM.out.st.at_ (.tail _ (.tail _ (.tail _ (.tail _ (.head _))))) 1).trans rfl
        have hll : (l.length : Int) < 2 ^ 44 := by omega
        go_wp2
        clear hg1
        have HR0 : Aside0 ((List.replicate k 0).length = k) := ⟨by simp⟩
        go_loopw [6, 28] (fun v6 v28 w' => ∃ (j : Nat) (rb ro : List Nat), v28 = .int .i64 j ∧ j ≤ l.length ∧ Aside0 (rb.length = k) ∧ Aside0 (ro.length = k) ∧ Aside0 ((∀ i, nth rb i < 2 ^ k) ∧ (∀ i, nth ro i < 2 ^ k)) ∧ Aside0 ((l.drop j).foldl (fun r p => addR r p.f1.toNat p.f0.toNat) rb = netBy k l) ∧ Aside0 ((l.drop j).foldl (fun r p => addR r p.f0.toNat p.f1.toNat) ro = netOut k l) ∧ Aside0 (Mem w [(n3, .cells #[.int .u64 ((2 ^ k - 1 : Nat) : Int), .slice (some ⟨b1, 0, none⟩) k k, .slice (some ⟨b2, 0, none⟩) k k] 64 (0, 0)), (b1, .cells (u64s rb) 61 (0, 0)), (b2, .cells (u64s ro) 61 (0, 0)), (g2, .cells #[.int .u64 0, .slice none 0 0, .slice none 0 0] 64 (0, 0)), (g, .cells #[.int .i64 k, .slice A l.length c] 24 (0, 0))] w')) (fun _ v28 _ => l.length - (intOf v28).toNat)
        case atStart => exact ⟨0, List.replicate k 0, List.replicate k 0, rfl, Nat.zero_le _, HR0, HR0, ⟨fun i => nth_rep _ _, fun i => nth_rep _ _⟩, ⟨rfl⟩, ⟨rfl⟩, HM⟩
        case round =>
          clear HM
          obtain ⟨j, rb, ro, rfl, hj, HLb, HLo, HLt, HFb, HFo, HM⟩ := hrel
          by_cases hlt : j < l.length
          · obtain ⟨ad, rfl, hc0, hc1⟩ := (HR.out.below HM.out.st.hb).cell j hlt
            have HD := Aside0.mk (nthP_drop l j hlt)
            have hvp := HVl.out _ (nthP_mem l j hlt)
            obtain ⟨p, hp⟩ : ∃ p, nthP l j = p := ⟨_, rfl⟩
            rw [hp] at hc0 hc1 hvp
            have HP := Aside0.mk hp
            clear hp
            obtain ⟨h1, h2, h3, h4⟩ := hvp
            obtain ⟨f, hf⟩ := Int.eq_ofNat_of_zero_le h1
            obtain ⟨t, ht⟩ := Int.eq_ofNat_of_zero_le h3
            rw [hf] at hc0 h2
            rw [ht] at hc1 h4
            have HF := Aside0.mk hf
            have HT := Aside0.mk ht
            have hfk : f < k := by omega
            have htk : t < k := by omega
            clear h1 h2 h3 h4 hf ht
            go_wp2_with fail
            have HMa : Aside0 (Mem w _ (wr.alloc (.cells #[.int .i64 f, .int .i64 t] 54))) := ⟨HM.out.add _⟩
            have hfi : (f : Int) < (k : Int) := by omega
            have hti : (t : Int) < (k : Int) := by omega
            have hf0 : (0 : Int) ≤ (f : Int) := by omega
            have ht0 : (0 : Int) ≤ (t : Int) := by omega
            clear hc0 hc1
            generalize wr.alloc (.cells #[.int .i64 f, .int .i64 t] 54) = wa at *
            let Bsa : List (Nat × Obj) := [(wr.heap.size, .cells #[.int .i64 f, .int .i64 t] 54 (0, 0)), (n3, .cells #[.int .u64 ((2 ^ k - 1 : Nat) : Int), .slice (some ⟨b1, 0, none⟩) k k, .slice (some ⟨b2, 0, none⟩) k k] 64 (0, 0)), (b1, .cells (u64s rb) 61 (0, 0)), (b2, .cells (u64s ro) 61 (0, 0)), (g2, .cells #[.int .u64 0, .slice none 0 0, .slice none 0 0] 64 (0, 0)), (g, .cells #[.int .i64 k, .slice (some ad) l.length c] 24 (0, 0))]
            haveI : Nonempty (Gd (St wa Bsa)) := ⟨⟨wa, ⟨Below.refl _ _, HMa.out.st.blk⟩⟩⟩
            have hs1 : ∀ i : Gd (St wa Bsa), i.v.cell? ⟨n3, 1, none⟩ = some (.slice (some ⟨b1, 0, none⟩) k k) := fun i => (i.h.at_ (.tail _ (.head _)) 1).trans rfl
            have hs2 : ∀ i : Gd (St wa Bsa), i.v.cell? ⟨wr.heap.size, 0, none⟩ = some (.int .i64 f) := fun i => (i.h.at_ (.head _) 0).trans rfl
            have hs3 : ∀ i : Gd (St wa Bsa), i.v.cell? ⟨wr.heap.size, 1, none⟩ = some (.int .i64 t) := fun i => (i.h.at_ (.head _) 1).trans rfl
            have hs4 : ∀ i : Gd (St wa Bsa), i.v.cell? ⟨b1, t, none⟩ = some (.int .u64 ((nth rb t : Nat) : Int)) := fun i => (i.h.at_ (.tail _ (.tail _ (.head _))) t).trans (u64s_get _ _ (by rw [HLb.out]; exact htk))
            have C28 := Aside0.mk (fun i : Gd (St wa Bsa) => i.h.gdsame (with_any (nth rb t) f (p64 hN (HLt.out.1 t)) (by omega) i.v))
            refine wp_quiet_tail (fun x => ∃ i : Gd (St wa Bsa), x = i.v) 14 (by kernel_rfl) (by kernel_rfl) ⟨⟨wa.drew, ⟨(Below.refl _ _).drew, HMa.out.st.blk⟩⟩, rfl⟩ ?_
            simp only [List.take, List.drop]
            repeat (quiet_step ((go_at_call 28; exact C28.out _)))
            refine wpQuiet_nil ?_
            rintro w6 ⟨⟨_, hb6⟩, rfl⟩
            have Hw6 := HMa.out.nx hb6.hb
            clear C28 hs1 hs2 hs3 hs4 this hb6
            have HMb := Aside0.mk (Hw6.perm ((perm_312 _ _ _ _)))
            have hfr := HMb.out.st.free_ (.head _) t
            have hcl := (HMb.out.st.at_ (.head _) t).trans (u64s_get _ _ (by rw [HLb.out]; exact htk))
            have HMc0 := HMb.out.set t (.int .u64 ((nth rb t ||| 2 ^ f : Nat) : Int))
            rw [u64s_set] at HMc0
            have HMc := Aside0.mk (HMc0.perm (perm_231 _ _ _ _))
            clear Hw6 HMc0 HMa HM HMb
            go_wp2_with fail
            clear hfr hcl
            generalize w6.setCell ⟨b1, t, none⟩ (.int .u64 ((nth rb t ||| 2 ^ f : Nat) : Int)) = wb at *
            let Bsb : List (Nat × Obj) := [(wr.heap.size, .cells #[.int .i64 f, .int .i64 t] 54 (0, 0)), (n3, .cells #[.int .u64 ((2 ^ k - 1 : Nat) : Int), .slice (some ⟨b1, 0, none⟩) k k, .slice (some ⟨b2, 0, none⟩) k k] 64 (0, 0)), (b1, .cells (u64s (addR rb t f)) 61 (0, 0)), (b2, .cells (u64s ro) 61 (0, 0)), (g2, .cells #[.int .u64 0, .slice none 0 0, .slice none 0 0] 64 (0, 0)), (g, .cells #[.int .i64 k, .slice (some ad) l.length c] 24 (0, 0))]
            haveI : Nonempty (Gd (St wb Bsb)) := ⟨⟨wb, ⟨Below.refl _ _, HMc.out.st.blk⟩⟩⟩
            have hs1 : ∀ i : Gd (St wb Bsb), i.v.cell? ⟨n3, 2, none⟩ = some (.slice (some ⟨b2, 0, none⟩) k k) := fun i => (i.h.at_ (.tail _ (.head _)) 2).trans rfl
            have hs2 : ∀ i : Gd (St wb Bsb), i.v.cell? ⟨wr.heap.size, 0, none⟩ = some (.int .i64 f) := fun i => (i.h.at_ (.head _) 0).trans rfl
            have hs3 : ∀ i : Gd (St wb Bsb), i.v.cell? ⟨wr.heap.size, 1, none⟩ = some (.int .i64 t) := fun i => (i.h.at_ (.head _) 1).trans rfl
            have hs4 : ∀ i : Gd (St wb Bsb), i.v.cell? ⟨b2, f, none⟩ = some (.int .u64 ((nth ro f : Nat) : Int)) := fun i => (i.h.at_ (.tail _ (.tail _ (.tail _ (.head _)))) f).trans (u64s_get _ _ (by rw [HLo.out]; exact hfk))
            have C28 := Aside0.mk (fun i : Gd (St wb Bsb) => i.h.gdsame (with_any (nth ro f) t (p64 hN (HLt.out.2 f)) (by omega) i.v))
            refine wp_quiet_tail (fun x => ∃ i : Gd (St wb Bsb), x = i.v) 14 (by kernel_rfl) (by kernel_rfl) ⟨⟨wb.drew, ⟨(Below.refl _ _).drew, HMc.out.st.blk⟩⟩, rfl⟩ ?_
            simp only [List.take, List.drop]
            repeat (quiet_step ((go_at_call 28; exact C28.out _)))
            refine wpQuiet_nil ?_
            rintro w7 ⟨⟨_, hb6⟩, rfl⟩
            have Hw7 := HMc.out.nx hb6.hb
            clear C28 hs1 hs2 hs3 hs4 this hb6
            have HMd := Aside0.mk (Hw7.perm (perm_4123 _ _ _ _ _))
            have hfr := HMd.out.st.free_ (.head _) f
            have hcl := (HMd.out.st.at_ (.head _) f).trans (u64s_get _ _ (by rw [HLo.out]; exact hfk))
            have HMe0 := HMd.out.set f (.int .u64 ((nth ro f ||| 2 ^ t : Nat) : Int))
            rw [u64s_set] at HMe0
            have HMe := Aside0.mk (HMe0.perm (perm_4123 _ _ _ _ _).symm).sub
            clear Hw7 HMe0 HMc HMd
            go_wp2
            refine ⟨⟨j + 1, addR rb t f, addR ro f t, by go_num, hlt, ⟨by rw [addR_length]; exact HLb.out⟩, ⟨by rw [addR_length]; exact HLo.out⟩, ⟨addR_lt _ _ _ hfk HLt.out.1, addR_lt _ _ _ htk HLt.out.2⟩, ⟨?_⟩, ⟨?_⟩, HMe⟩, by simp [intOf]; omega⟩
            · rw [← HFb.out, HD.out, HP.out, List.foldl_cons, HF.out, HT.out]; rfl
            · rw [← HFo.out, HD.out, HP.out, List.foldl_cons, HF.out, HT.out]; rfl
          · have hjl : j = l.length := by omega
            have he1 := HFb.out
            have he2 := HFo.out
            rw [hjl, List.drop_length] at he1 he2
            have HE1 : Aside0 (rb = netBy k l) := ⟨he1⟩
            have HE2 : Aside0 (ro = netOut k l) := ⟨he2⟩
            clear he1 he2 hjl
            have hn0 := (HM.out.st.at_ (.head _) 0).trans rfl
            have hn1 := (HM.out.st.at_ (.head _) 1).trans rfl
            have hn2 := (HM.out.st.at_ (.head _) 2).trans rfl
            have hf0 := HM.out.st.free_ (g := g2) (.tail _ (.tail _ (.tail _ (.head _)))) 0
            have hf1 := HM.out.st.free_ (g := g2) (.tail _ (.tail _ (.tail _ (.head _)))) 1
            have hf2 := HM.out.st.free_ (g := g2) (.tail _ (.tail _ (.tail _ (.head _)))) 2
            have hc0 := (HM.out.st.at_ (g := g2) (.tail _ (.tail _ (.tail _ (.head _)))) 0).trans rfl
            have hc1 := (HM.out.st.at_ (g := g2) (.tail _ (.tail _ (.tail _ (.head _)))) 1).trans rfl
            have hc2 := (HM.out.st.at_ (g := g2) (.tail _ (.tail _ (.tail _ (.head _)))) 2).trans rfl
            go_wp2
            have HF1 := (HM.out.perm (perm_4123 _ _ _ _ _)).set 0 (.int .u64 ((2 ^ k - 1 : Nat) : Int))
            have HF2 := HF1.set 1 (.slice (some ⟨b1, 0, none⟩) k k)
            have HF3 := HF2.set 2 (.slice (some ⟨b2, 0, none⟩) k k)
            clear HF1 HF2 hn0 hn1 hn2 hf0 hf1 hf2 hc0 hc1 hc2
            refine bodyPost_ret (results_cell_row rfl _ _ g2 64 #[.int .u64 ((2 ^ k - 1 : Nat) : Int), .slice (some ⟨b1, 0, none⟩) k k, .slice (some ⟨b2, 0, none⟩) k k] (0, 0) _ rfl (HF3.st.blk _ (.head _)) Tryd.underlying64 rfl (by kernel_rfl)) rfl ?_
            refine ⟨b1, b2, rfl, ⟨?_⟩, ⟨?_⟩, ⟨?_, ?_⟩, ⟨HF3.st.hb⟩⟩
            · rw [netOf, ← HE1.out]
              exact HF3.st.blk _ (.tail _ (.tail _ (.head _)))
            · rw [netOf, ← HE2.out]
              exact HF3.st.blk _ (.tail _ (.tail _ (.tail _ (.head _))))
            · rw [netOf, ← HE1.out]
              exact HLb.out
            · rw [netOf, ← HE2.out]
              exact HLo.out
theorem NetV_of_blk {w : World} {n : NetD} {N b1 b2 : Nat} (hN : N ≤ 40) (h1 : w.heap[b1]? = some (.cells (u64s n.by_) 61 (0, 0))) (h2 : w.heap[b2]? = some (.cells (u64s n.out) 61 (0, 0))) (hl1 : n.by_.length = N) (hl2 : n.out.length = N) : NetV w n (.agg #[.int .u64 (n.all : Int), .slice (some ⟨b1, 0, none⟩) N N, .slice (some ⟨b2, 0, none⟩) N N]) :=
  ⟨some ⟨b1, 0, none⟩, N, some ⟨b2, 0, none⟩, N, by rw [hl1, hl2], rdN_of_block h1 (by omega) (by omega), rdN_of_block h2 (by omega) (by omega)⟩
theorem new_any (N : Nat) (hN : N ≤ 40) (l : List S54) (hl : l.length < 2 ^ 44) (hv : ∀ p, p ∈ l → 0 ≤ p.f0 ∧ p.f0 < N ∧ 0 ≤ p.f1 ∧ p.f1 < N) (A : Option Addr) (c : Nat) (w : World) (hr : RdP w A c l) :
    Calls Tryd.prog 25 #[.agg #[.int .i64 N, .slice A l.length c]] w fun e w' => ∃ v, e = .returned v ∧ Aside0 (NetV w' (netOf N l) v) ∧ Aside0 (Below w.heap.size w w') :=
  (new_blk N hN l hl hv A c w hr).mono fun e w' ⟨b1, b2, he, h1, h2, hl, hb⟩ => ⟨_, he, ⟨NetV_of_blk hN h1.out h2.out hl.out.1 hl.out.2⟩, hb⟩
end Go.Proofs.YtgboplcjafmliaaDoor.G
