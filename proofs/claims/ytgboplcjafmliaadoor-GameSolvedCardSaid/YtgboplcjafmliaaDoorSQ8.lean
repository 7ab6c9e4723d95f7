/- The references' Members and SomeAdmissible. -/
import Derived.Test.YtgboplcjafmliaaDoorSQ7
/- The references' Members and SomeAdmissible. -/
namespace Go.Proofs.YtgboplcjafmliaaDoor.G
open Go.RowKit Go.Proofs.YtgboplcjafmliaaDoorW.PrintWords Go.Proofs.YtgboplcjafmliaaDoorW.PrintLast Go.Proofs.YtgboplcjafmliaaDoorW.PrintMore
open Go.Proofs.YtgboplcjafmliaaDoor.PAll
set_option linter.unusedVariables false
set_option linter.unusedSimpArgs false
theorem bit_test (s m : Nat) (hs : s < 2 ^ 64) : (bits .and .u64 ((s : Int) / (2 : Int) ^ m) 1 == 1) = s.testBit m := by
  rw [show ((s : Int) / (2 : Int) ^ m) = ((s / 2 ^ m : Nat) : Int) by norm_cast, show (1 : Int) = ((1 : Nat) : Int) by rfl, u64_and_nat _ 1 (Nat.lt_of_le_of_lt (Nat.div_le_self _ _) hs) (by omega)]
  rw [Nat.testBit, Nat.shiftRight_eq_div_pow, Nat.and_comm 1 (s / 2 ^ m), Nat.and_one_is_mod]
  rcases Nat.mod_two_eq_zero_or_one (s / 2 ^ m) with h | h <;> rw [h] <;> rfl
/-- The nodes of a set below i. -/
def blU (s i : Nat) : List Nat := (List.range' 0 i).filter s.testBit
theorem blU_succ (s i : Nat) : blU s (i + 1) = blU s i ++ (if s.testBit i = true then [i] else []) := by
  unfold blU
  rw [List.range'_concat, List.filter_append]
  congr 1
  simp only [Nat.zero_add, Nat.mul_one, Nat.one_mul, List.filter_cons, List.filter_nil]
theorem blU_len (s i : Nat) : (blU s i).length ≤ i := Nat.le_trans (List.length_filter_le _ _) (by simp)
set_option maxHeartbeats 8000000 in
set_option maxRecDepth 100000 in
theorem members_any (s : Nat) (hs : s < 2 ^ 64) (w : World) :
    Calls Tryd.prog 59 #[.int .u64 s] w fun e w' => ∃ A c, e = .returned (.slice A (bl s).length c) ∧ Aside0 (OwnI w' w.heap.size (.slice A (bl s).length c) (bl s)) ∧ Aside0 (Below w.heap.size w w') := by
  have HO : Aside0 (OwnI w w.heap.size (.slice none 0 0) []) := ⟨own_nil _ _ _ _⟩
  have HB := Aside0.mk (Below.refl w.heap.size w)
  go_enter Tryd.func59, Tryd.ntmps59
  go_wp2
  go_loopw [3, 4] (fun v3 v4 x => ∃ (i : Nat) (A : Option Addr) (c : Nat), v3 = .slice A (blU s i).length c ∧ v4 = .int .i64 (i : Int) ∧ i ≤ 64 ∧ Aside0 (OwnI x w.heap.size (.slice A (blU s i).length c) (blU s i)) ∧ Aside0 (Below w.heap.size w x)) (fun _ v4 _ => 64 - (intOf v4).toNat)
  case atStart => exact ⟨0, none, 0, rfl, rfl, by omega, HO, HB⟩
  case round =>
    clear HO HB
    obtain ⟨i, A, c, rfl, rfl, hi, HO, HB⟩ := hrel
    by_cases hlt : i < 64
    · have i1 : decide ((i : Int) < 64) = true := decide_eq_true (by omega)
      have hbt := bit_test s i hs
      have hll := blU_len s i
      have hsu := blU_succ s i
      cases hb : s.testBit i with
      | false =>
        rw [hb] at hbt hsu
        rw [if_neg (by simp), List.append_nil] at hsu
        have HSu := Aside0.mk hsu
        clear hsu hb
        go_wp2
        exact ⟨⟨i + 1, A, c, by rw [HSu.out], by go_num, hlt, ⟨by rw [HSu.out]; exact HO.out⟩, HB⟩, by simp [intOf]; omega⟩
      | true =>
        rw [hb] at hbt hsu
        rw [if_pos rfl] at hsu
        have HSu := Aside0.mk hsu
        clear hsu hb
        go_wp2_with (first | (at_builtin; refine app_node (w0 := w) 25 (.tmp 15) (.tmp 17) rfl rfl Tryd.underlying25 info3 _ (blU s i) i rfl rfl ?aO ?aB ?aL ?_; (case aO => exact HO.out); (case aB => exact HB.out); (case aL => omega); intro v1 w1 HO1 HG1 _; have HB1 := Aside0.mk (HB.out.grown HG1 HB.out.size (own_base' HO.out)); rw [← HSu.out] at HO1; obtain ⟨A1, c1, rfl⟩ := own_slice HO1))
        exact ⟨⟨i + 1, A1, c1, rfl, by go_num, hlt, ⟨HO1⟩, HB1⟩, by simp [intOf]; omega⟩
    · have i1 : decide ((i : Int) < 64) = false := decide_eq_false (by omega)
      have hi64 : i = 64 := by omega
      subst hi64
      go_wp2
      go_ret
      exact ⟨A, c, rfl, HO, HB⟩
theorem bit_test0 (s m : Nat) (hs : s < 2 ^ 64) : (bits .and .u64 ((s : Int) / (2 : Int) ^ m) 1 == 0) = !s.testBit m := by
  rw [show ((s : Int) / (2 : Int) ^ m) = ((s / 2 ^ m : Nat) : Int) by norm_cast, show (1 : Int) = ((1 : Nat) : Int) by rfl, u64_and_nat _ 1 (Nat.lt_of_le_of_lt (Nat.div_le_self _ _) hs) (by omega)]
  rw [Nat.testBit, Nat.shiftRight_eq_div_pow, Nat.and_comm 1 (s / 2 ^ m), Nat.and_one_is_mod]
  rcases Nat.mod_two_eq_zero_or_one (s / 2 ^ m) with h | h <;> rw [h] <;> rfl
theorem in_nil (x : Int) (W : World) : Calls Tryd.prog 60 #[.slice none 0 0, .int .i64 x] W fun e w' => e = .returned (.bool false) ∧ W = w' := by
  obtain ⟨A', c', he, hrd⟩ := (show OwnI W 0 (.slice none 0 0) [] from own_nil _ _ _ _).reads
  injection he with e1 e2 e3
  subst e1 e3
  exact inB_any [] (by simp) none 0 x W hrd
/-- A node is in an admissible set. -/
def someB (T : Nat) (l : List S54) (a : Nat) (k : Nat) : Bool := (List.range' k (T - k)).any fun s => s.testBit a && admB l (bl s)
theorem someB_step {T k : Nat} (h : k < T) (l : List S54) (a : Nat) : someB T l a k = ((k.testBit a && admB l (bl k)) || someB T l a (k + 1)) := by
  unfold someB
  rw [show T - k = (T - (k + 1)) + 1 by omega, List.range'_succ, List.any_cons]
set_option maxHeartbeats 8000000 in
set_option maxRecDepth 100000 in
theorem some_any (M : Nat) (hM : M ≤ 16) (l : List S54) (hl : l.length < 2 ^ 40) (A : Option Addr) (c : Nat) (a : Nat) (ha : a < 64) (w : World) (hT : TabW w) (hr : RdP w A c l) :
    Calls Tryd.prog 33 #[.agg #[.int .i64 (M : Int), .slice A l.length c], .int .i64 (a : Int), .slice none 0 0] w fun e w' => e = .returned (.bool (someB (2 ^ M) l a 0)) ∧ Aside0 (Below w.heap.size w w') := by
  have HR := Aside0.mk hr
  have HB := Aside0.mk (St.refl w)
  clear hr
  have hT16 : 2 ^ M ≤ 2 ^ 16 := Nat.pow_le_pow_right (by omega) hM
  have hsh := u64_pow M (by omega)
  obtain ⟨T, hTe⟩ : ∃ T, 2 ^ M = T := ⟨_, rfl⟩
  rw [hTe] at hT16 hsh ⊢
  clear hTe
  go_enter Tryd.func33, Tryd.ntmps33
  go_wp2_with (first | ((with_reducible refine gate_dst (N := 3) rfl ?_); refine box_st (w := w) 3 #[.int .i64 (M : Int), .slice A l.length c] 24 rfl rfl ?hr HB.out ?_; (case hr => go_simp; done); clear HB; intro g w1 HB GE))
  go_loopw [7] (fun v7 x => ∃ k : Nat, v7 = .int .u64 (k : Int) ∧ k ≤ T ∧ Aside0 (someB T l a k = someB T l a 0) ∧ Aside0 (St w [(g, .cells #[.int .i64 (M : Int), .slice A l.length c] 24 (0, 0))] x)) (fun v7 _ => T - (intOf v7).toNat)
  case atStart => exact ⟨0, rfl, Nat.zero_le _, ⟨rfl⟩, HB⟩
  case round =>
    clear HB
    obtain ⟨k, rfl, hk, HE, HB⟩ := hrel
    have hx0 := (HB.out.at_ (.head _) 0).trans rfl
    have hx1 := (HB.out.at_ (.head _) 1).trans rfl
    by_cases hlt : k < T
    · have i1 : decide ((k : Int) < (T : Int)) = true := decide_eq_true (by omega)
      have hbt := bit_test0 k a (by omega)
      have HSt := Aside0.mk (someB_step hlt l a)
      cases hb : k.testBit a with
      | false =>
        rw [hb] at hbt HSt
        have HE2 : Aside0 (someB T l a (k + 1) = someB T l a 0) := ⟨by have h := HSt.out; rw [Bool.false_and, Bool.false_or] at h; rw [← h]; exact HE.out⟩
        clear hb
        go_wp2
        exact ⟨⟨k + 1, congrArg (Value.int IntKind.u64) (by omega), hlt, HE2, HB⟩, by simp [intOf]; omega⟩
      | true =>
        rw [hb] at hbt HSt
        have HMem := Aside0.mk (members_any k (by omega) wr)
        clear hb
        go_upto_region 7 with (first | (go_at_call 59; refine HMem.out.mono ?_; rintro e w5 ⟨A5, c5, rfl, HO5, hb⟩))
        have HB5 := Aside0.mk (HB.out.nx hb.out)
        clear HB HMem hb hx0 hx1
        generalize wr.heap.size = bs0 at HO5
        have hl64 := bl_length k
        have HIn := Aside0.mk (fun (W : World) (x : Int) => in_nil x W)
        go_wp2
        go_loopw [9, 10] (fun v9 v10 x => ∃ j : Nat, v9 = .bool false ∧ v10 = .int .i64 (j : Int) ∧ j ≤ (bl k).length ∧ Aside0 (St w [(g, .cells #[.int .i64 (M : Int), .slice A l.length c] 24 (0, 0))] x) ∧ Aside0 (OwnI x bs0 (.slice A5 (bl k).length c5) (bl k))) (fun _ v10 _ => (bl k).length - (intOf v10).toNat)
        case atStart => exact ⟨0, rfl, rfl, Nat.zero_le _, HB5, HO5⟩
        case round =>
          clear HB5 HO5
          obtain ⟨j, rfl, rfl, hj, HB5, HO5⟩ := hrel
          by_cases hjl : j < (bl k).length
          · have j1 : decide ((j : Int) < ((bl k).length : Int)) = true := decide_eq_true (by omega)
            have j2 : (j : Int) < ((bl k).length : Int) := by omega
            obtain ⟨A', c', he, hrd⟩ := HO5.out.reads
            injection he with e1 e2 e3
            subst e1 e3
            obtain ⟨ad, hA, hcz⟩ := hrd.cell j hjl
            subst hA
            clear hrd
            go_wp2_with (first | (go_at_call 60; refine (HIn.out _ _).mono ?_; rintro e w' ⟨rfl, rfl⟩))
            exact ⟨⟨j + 1, rfl, by go_num, hjl, HB5, HO5⟩, by simp [intOf]; omega⟩
          · have j1 : decide ((j : Int) < ((bl k).length : Int)) = false := decide_eq_false (by omega)
            obtain ⟨A', c', he, hrd⟩ := HO5.out.reads
            injection he with e1 e2 e3
            subst e1 e3
            have HAdm := Aside0.mk (adm_any (M : Int) l hl A c (bl k) (by omega) A5 c5 wr (HR.out.below HB5.out.hb) hrd)
            have hx0 := (HB5.out.at_ (.head _) 0).trans rfl
            have hx1 := (HB5.out.at_ (.head _) 1).trans rfl
            clear hrd
            cases hab : admB l (bl k) with
            | true =>
              rw [hab] at HAdm HSt
              have HRes : Aside0 (someB T l a 0 = true) := ⟨by rw [← HE.out, HSt.out]; rfl⟩
              clear hab
              go_wp2_with (first | (go_at_call 61; refine HAdm.out.mono ?_; rintro e w9 ⟨rfl, hb⟩))
              go_ret
              exact ⟨by rw [HRes.out]; rfl, ⟨(HB5.out.nx hb.out).hb⟩⟩
            | false =>
              rw [hab] at HAdm HSt
              have HE2 : Aside0 (someB T l a (k + 1) = someB T l a 0) := ⟨by have h := HSt.out; rw [Bool.and_false, Bool.false_or] at h; rw [← h]; exact HE.out⟩
              clear hab
              go_wp2_with (first | (go_at_call 61; refine HAdm.out.mono ?_; rintro e w9 ⟨rfl, hb⟩))
              exact ⟨⟨k + 1, congrArg (Value.int IntKind.u64) (by omega), hlt, HE2, ⟨HB5.out.nx hb.out⟩⟩, by simp [intOf]; omega⟩
    · have i1 : decide ((k : Int) < (T : Int)) = false := decide_eq_false (by omega)
      have HRes : Aside0 (someB T l a 0 = false) := ⟨by rw [← HE.out]; unfold someB; rw [show T - k = 0 by omega]; rfl⟩
      go_wp2
      go_ret
      exact ⟨by rw [HRes.out]; rfl, ⟨HB.out.hb⟩⟩
end Go.Proofs.YtgboplcjafmliaaDoor.G

/- Labels of the grounded labelling, round by round, against the rounds as sets; a node in an admissible set against search. No program here. -/
namespace Go.Proofs.YtgboplcjafmliaaDoor.G
open Go.RowKit Go.Proofs.YtgboplcjafmliaaDoorW.PrintWords Go.Proofs.YtgboplcjafmliaaDoorW.PrintLast Go.Proofs.YtgboplcjafmliaaDoorW.PrintMore
open Go.Proofs.YtgboplcjafmliaaDoor.PAll
set_option linter.unusedVariables false
set_option linter.unusedSimpArgs false

theorem gs_def {N : Nat} {n : NetD} (hok : n.Ok N) {p : Nat} : ∀ r, (gs n (r + 1)).testBit p = true → ∀ x, At n p x → ∃ z, (gs n r).testBit z = true ∧ At n x z
  | 0, h, x, hx => by
    rcases (gs_bit hok 0 p).1 h with h1 | ⟨_, h1⟩
    · simp [gs] at h1
    · exact h1 x hx
  | r + 1, h, x, hx => by
    rcases (gs_bit hok (r + 1) p).1 h with h1 | ⟨_, h1⟩
    · obtain ⟨z, hz, hxz⟩ := gs_def hok r h1 x hx
      exact ⟨z, gs_le hok (Nat.le_succ r) hz, hxz⟩
    · exact h1 x hx
theorem gs_cf {N : Nat} {n : NetD} (hok : n.Ok N) : ∀ r p q, (gs n r).testBit p = true → (gs n r).testBit q = true → ¬ At n p q
  | 0, p, q, h, _, _ => by simp [gs] at h
  | r + 1, p, q, hp, hq, h => by
    obtain ⟨z, hz, hqz⟩ := gs_def hok r hp q h
    obtain ⟨z', hz', hzz⟩ := gs_def hok r hq z hqz
    exact gs_cf hok r z z' hz hz' hzz
/-- Attacked by a round's set. -/
def attR (n : NetD) (r a : Nat) : Bool := (uni n.out (bl (gs n r)) 0).testBit a
theorem attR_iff {N : Nat} {n : NetD} (hok : n.Ok N) (r a : Nat) : attR n r a = true ↔ ∃ z, (gs n r).testBit z = true ∧ At n a z := uni_out hok (gs_lt hok r) a
/-- The label of a node behind r rounds: 1 In, 2 Out, 3 undecided. -/
def labOf (n : NetD) (r a : Nat) : Nat := if (gs n r).testBit a = true then 1 else if attR n r a = true then 2 else 3
theorem lab_one (n : NetD) (r a : Nat) : labOf n r a = 1 ↔ (gs n r).testBit a = true := by
  unfold labOf
  split
  · rename_i h; simp [h]
  · rename_i h; split <;> simp [h]
theorem lab_two {N : Nat} {n : NetD} (hok : n.Ok N) (r a : Nat) : labOf n r a = 2 ↔ attR n r a = true := by
  unfold labOf
  by_cases h : (gs n r).testBit a = true
  · rw [if_pos h]
    refine ⟨fun h => (by cases h), fun h2 => ?_⟩
    obtain ⟨z, hz, haz⟩ := (attR_iff hok r a).1 h2
    exact absurd haz (gs_cf hok r a z h hz)
  · rw [if_neg h]
    by_cases h2 : attR n r a = true
    · rw [if_pos h2]; simp [h2]
    · rw [if_neg h2]; simp [h2]
theorem lab_three (n : NetD) (r a : Nat) : labOf n r a = 3 ↔ ¬(gs n r).testBit a = true ∧ ¬ attR n r a = true := by
  unfold labOf
  by_cases h : (gs n r).testBit a = true
  · rw [if_pos h]; simp [h]
  · rw [if_neg h]
    by_cases h2 : attR n r a = true
    · rw [if_pos h2]; simp [h2]
    · rw [if_neg h2]; simp [h, h2]
/-- The nodes that come in in a round. -/
def nowP (n : NetD) (r a : Nat) : Prop := labOf n r a = 3 ∧ ∀ b, At n a b → labOf n r b = 2
theorem gs_now {N : Nat} {n : NetD} (hok : n.Ok N) {r a : Nat} (ha : a < N) : (gs n (r + 1)).testBit a = true ↔ (gs n r).testBit a = true ∨ nowP n r a := by
  rw [gs_bit hok]
  constructor
  · rintro (h | ⟨_, h⟩)
    · exact .inl h
    · by_cases hg : (gs n r).testBit a = true
      · exact .inl hg
      · right
        have hna : ∀ z, (gs n r).testBit z = true → ¬ At n a z := fun z hz haz => by
          obtain ⟨z', hz', hzz⟩ := h z haz
          exact gs_cf hok r z z' hz hz' hzz
        refine ⟨(lab_three n r a).2 ⟨hg, fun h2 => ?_⟩, fun b hb => (lab_two hok r b).2 ((attR_iff hok r b).2 (h b hb))⟩
        obtain ⟨z, hz, haz⟩ := (attR_iff hok r a).1 h2
        exact hna z hz haz
  · rintro (h | ⟨_, h⟩)
    · exact .inl h
    · exact .inr ⟨ha, fun x hx => (attR_iff hok r x).1 ((lab_two hok r x).1 (h x hx))⟩
theorem lab_step {N : Nat} {n : NetD} (hok : n.Ok N) {r a : Nat} (ha : a < N) : (nowP n r a → labOf n (r + 1) a = 1) ∧ (¬ nowP n r a → labOf n r a = 3 → (∃ b, nowP n r b ∧ At n a b) → labOf n (r + 1) a = 2) ∧ (¬ nowP n r a → ¬(labOf n r a = 3 ∧ ∃ b, nowP n r b ∧ At n a b) → labOf n (r + 1) a = labOf n r a) := by
  refine ⟨fun h => (lab_one n _ a).2 ((gs_now hok ha).2 (.inr h)), fun h1 h2 ⟨b, hb, hab⟩ => ?_, fun h1 h2 => ?_⟩
  · exact (lab_two hok _ a).2 ((attR_iff hok _ a).2 ⟨b, (gs_now hok (At.lt hok hab)).2 (.inr hb), hab⟩)
  · by_cases hg : (gs n r).testBit a = true
    · rw [(lab_one n r a).2 hg, (lab_one n (r + 1) a).2 ((gs_now hok ha).2 (.inl hg))]
    · have hg2 : ¬(gs n (r + 1)).testBit a = true := fun h => by
        rcases (gs_now hok ha).1 h with h | h
        · exact hg h
        · exact h1 h
      by_cases h3 : attR n r a = true
      · rw [(lab_two hok r a).2 h3]
        obtain ⟨z, hz, haz⟩ := (attR_iff hok r a).1 h3
        exact (lab_two hok _ a).2 ((attR_iff hok _ a).2 ⟨z, gs_le hok (Nat.le_succ r) hz, haz⟩)
      · have h4 := (lab_three n r a).2 ⟨hg, h3⟩
        rw [h4]
        refine (lab_three n (r + 1) a).2 ⟨hg2, fun h5 => ?_⟩
        obtain ⟨z, hz, haz⟩ := (attR_iff hok _ a).1 h5
        rcases (gs_now hok (At.lt hok haz)).1 hz with h6 | h6
        · exact h3 ((attR_iff hok r a).2 ⟨z, h6, haz⟩)
        · exact h2 ⟨h4, z, h6, haz⟩
theorem grd_last (n : NetD) : ∀ (f j : Nat), ∃ d, d ≤ f ∧ (grd n f (gs n j)).getLastD (gs n j) = gs n (j + d)
  | 0, j => ⟨0, Nat.le_refl _, rfl⟩
  | f + 1, j => by
    rw [grd]
    split
    · exact ⟨0, Nat.zero_le _, rfl⟩
    · obtain ⟨d, hd, h⟩ := grd_last n f (j + 1)
      refine ⟨d + 1, by omega, ?_⟩
      rw [List.getLastD_cons]
      rw [show j + (d + 1) = j + 1 + d by omega]
      exact h
theorem gsc {n : NetD} {j : Nat} (h : gstep n (gs n j) = gs n j) : ∀ d, gs n (j + d) = gs n j
  | 0 => rfl
  | d + 1 => by
    show gstep n (gs n (j + d)) = _
    rw [gsc h d, h]
/-- The set behind all rounds. -/
theorem gnd_all {N : Nat} {n : NetD} (hok : n.Ok N) : gnd N n = gs n (N + 1) := by
  obtain ⟨d, hd, h⟩ := grd_last n (N + 1) 0
  have hg : gnd N n = gs n d := by
    unfold gnd
    rw [lastN_getLastD]
    rw [Nat.zero_add] at h
    exact h
  have hfix := gnd_fix hok
  rw [hg] at hfix
  have := gsc hfix (N + 1 - d)
  rw [Nat.add_sub_cancel' hd] at this
  rw [hg, this]
theorem at_atk {M : Nat} {l : List S54} (hIn : InR M l) (i x : Nat) : At (netOf M l) i x ↔ atk l x i = true := by
  unfold At
  show (nth (netBy M l) i).testBit x = true ↔ _
  rw [by_bit hIn]
theorem inB_bl {s : Nat} (hs : s < 2 ^ 64) (x : Nat) : inB (bl s) (x : Int) = true ↔ s.testBit x = true := by
  unfold inB
  rw [List.any_eq_true]
  constructor
  · rintro ⟨y, hy, e⟩
    have e3 : (y : Int) = (x : Int) := by simpa using e
    have e2 : y = x := by omega
    rw [← e2]; exact (mem_bl s y hs).1 hy
  · intro h
    exact ⟨x, (mem_bl s x hs).2 h, by simp⟩
theorem attB_bl {M : Nat} {l : List S54} (hIn : InR M l) {s : Nat} (hs : s < 2 ^ 64) (b : Nat) : attB l (bl s) (b : Int) = true ↔ ∃ z, s.testBit z = true ∧ At (netOf M l) b z := by
  unfold attB
  rw [List.any_eq_true]
  constructor
  · rintro ⟨z, hz, e⟩
    rw [atkB_nat hIn] at e
    exact ⟨z, (mem_bl s z hs).1 hz, (at_atk hIn b z).2 e⟩
  · rintro ⟨z, hz, h⟩
    exact ⟨z, (mem_bl s z hs).2 hz, by rw [atkB_nat hIn]; exact (at_atk hIn b z).1 h⟩
theorem freeL_bl {M : Nat} {l : List S54} (hIn : InR M l) {s : Nat} (hs : s < 2 ^ 64) : freeL l (bl s) = true ↔ ∀ p q, s.testBit p = true → s.testBit q = true → ¬ At (netOf M l) p q := by
  unfold freeL
  rw [List.all_eq_true]
  constructor
  · intro h p q hp hq hx
    have h1 := h p ((mem_bl s p hs).2 hp)
    rw [(attB_bl hIn hs p).2 ⟨q, hq, hx⟩] at h1
    cases h1
  · intro h p hp
    rw [Bool.not_eq_true', bool_false_iff, attB_bl hIn hs]
    rintro ⟨z, hz, hx⟩
    exact h p z ((mem_bl s p hs).1 hp) hz hx
theorem admB_iff {M : Nat} (hM : M ≤ 40) {l : List S54} (hIn : InR M l) {s : Nat} (hs : s < 2 ^ M) : admB l (bl s) = true ↔ Adm M (netOf M l) s := by
  have h64 := p64 hM hs
  unfold admB Adm
  rw [Bool.and_eq_true, freeL_bl hIn h64, List.all_eq_true]
  constructor
  · rintro ⟨h1, h2⟩
    refine ⟨hs, h2, fun p x hp hx => ?_⟩
    obtain ⟨q, hq, e⟩ := List.any_eq_true.1 ((at_atk hIn p x).1 hx)
    have hr := hIn q hq
    simp only [Bool.and_eq_true, beq_iff_eq] at e
    have h3 := h1 q hq
    have e1 : q.f1 = (p : Int) := by omega
    have e0 : q.f0 = (x : Int) := by omega
    unfold defB at h3
    rw [e1, e0, (inB_bl h64 p).2 hp, Bool.true_and, Bool.not_not] at h3
    exact (attB_bl hIn h64 x).1 h3
  · rintro ⟨_, h2, h3⟩
    refine ⟨fun q hq => ?_, h2⟩
    have hr := hIn q hq
    obtain ⟨p, hp⟩ : ∃ p : Nat, q.f1 = (p : Int) := Int.eq_ofNat_of_zero_le hr.2.2.1
    obtain ⟨x, hx⟩ : ∃ x : Nat, q.f0 = (x : Int) := Int.eq_ofNat_of_zero_le hr.1
    unfold defB
    rw [hp, hx, Bool.not_eq_true', bool_false_iff, Bool.and_eq_true, inB_bl h64, Bool.not_eq_true']
    rintro ⟨h4, h5⟩
    have hat : At (netOf M l) p x := (at_atk hIn p x).2 (List.any_eq_true.2 ⟨q, hq, by simp only [Bool.and_eq_true, beq_iff_eq]; omega⟩)
    rw [(attB_bl hIn h64 x).2 (h3 p x h4 hat)] at h5
    cases h5
/-- A node is in an admissible set just where search finds one. -/
theorem someB_srch {M : Nat} (hM : M ≤ 40) {l : List S54} (hIn : InR M l) {a : Nat} (ha : a < M) : someB (2 ^ M) l a 0 = (srch (netOf M l) (M + 1) (2 ^ a)).isSome := by
  have hok := netOf_ok hM hIn
  have hlt : 2 ^ a < 2 ^ M := Nat.pow_lt_pow_right (by omega) ha
  rw [Bool.eq_iff_iff]
  unfold someB
  rw [List.any_eq_true]
  constructor
  · rintro ⟨s, hs, h⟩
    rw [Bool.and_eq_true] at h
    have hs2 : s < 2 ^ M := by have := List.mem_range'_1.1 hs; omega
    have hA := (admB_iff hM hIn hs2).1 h.2
    cases hr : srch (netOf M l) (M + 1) (2 ^ a) with
    | some t => rfl
    | none =>
      have hc := cov_dec (N := M) (s := 0) ha (by simp)
      have h0 := cov0 M
      rw [Nat.zero_or] at hc
      refine absurd (fun i hi => ?_) (srch_none hok (M + 1) (2 ^ a) hlt (by omega) hr s hA)
      rw [Nat.testBit_two_pow, decide_eq_true_iff] at hi
      rw [← hi]; exact h.1
  · intro h
    obtain ⟨t, ht⟩ := Option.isSome_iff_exists.1 h
    obtain ⟨hA, hsub⟩ := srch_adm hok hlt ht
    exact ⟨t, List.mem_range'_1.2 (by have := hA.1; omega), by rw [hsub a (by simp), (admB_iff hM hIn hA.1).2 hA]; rfl⟩
end Go.Proofs.YtgboplcjafmliaaDoor.G

/- Nodes reached by rounds, and what a strategy of Solve reaches. No program here. -/
namespace Go.Proofs.YtgboplcjafmliaaDoor.G
open Go.RowKit Go.Proofs.YtgboplcjafmliaaDoorW.PrintWords Go.Proofs.YtgboplcjafmliaaDoorW.PrintLast Go.Proofs.YtgboplcjafmliaaDoorW.PrintMore
open Go.Proofs.YtgboplcjafmliaaDoor.PAll
set_option linter.unusedVariables false
set_option linter.unusedSimpArgs false

/-- What is reached from a root by steps. -/
inductive Rch (E : Nat → Nat → Prop) (root : Nat) : Nat → Prop
  | root : Rch E root root
  | step {a c : Nat} : Rch E root a → E a c → Rch E root c
/-- What is reached in so many rounds. -/
def Dk (E : Nat → Nat → Prop) (root : Nat) : Nat → Nat → Prop
  | 0, c => c = root
  | k + 1, c => Dk E root k c ∨ ∃ a, Dk E root k a ∧ E a c
theorem Dk_rch {E : Nat → Nat → Prop} {root : Nat} : ∀ (k c : Nat), Dk E root k c → Rch E root c
  | 0, c, h => by
    have h : c = root := h
    rw [h]; exact .root
  | k + 1, c, h => by
    rcases h with h | ⟨a, h1, h2⟩
    · exact Dk_rch k c h
    · exact .step (Dk_rch k a h1) h2
theorem Dk_le {E : Nat → Nat → Prop} {root : Nat} {k c : Nat} (h : Dk E root k c) : ∀ d, Dk E root (k + d) c
  | 0 => h
  | d + 1 => .inl (Dk_le h d)
theorem Dk_root {E : Nat → Nat → Prop} {root : Nat} (k : Nat) : Dk E root k root := by
  have h := Dk_le (E := E) (root := root) (k := 0) (c := root) rfl k
  rwa [Nat.zero_add] at h
open Classical in
noncomputable def cntP (M : Nat) (P : Nat → Prop) : Nat := (List.range M).countP fun i => decide (P i)
theorem cntP_le (M : Nat) (P : Nat → Prop) : cntP M P ≤ M := by
  unfold cntP
  have := List.countP_le_length (p := fun i => @decide (P i) (Classical.propDecidable _)) (l := List.range M)
  simpa using this
theorem cntP_lt {M : Nat} {P Q : Nat → Prop} (h : ∀ i, P i → Q i) {x : Nat} (hx : x < M) (hP : ¬ P x) (hQ : Q x) : cntP M P < cntP M Q := by
  classical
  have hl : ∀ L : List Nat, (L.countP fun i => decide (P i)) ≤ (L.countP fun i => decide (Q i)) ∧ (x ∈ L → (L.countP fun i => decide (P i)) < (L.countP fun i => decide (Q i))) := by
    intro L
    induction L with
    | nil => exact ⟨Nat.le_refl _, fun h => by cases h⟩
    | cons y L ih =>
      obtain ⟨h1, h2⟩ := ih
      rw [List.countP_cons, List.countP_cons]
      refine ⟨?_, fun hm => ?_⟩
      · by_cases hp : P y
        · rw [if_pos (decide_eq_true hp), if_pos (decide_eq_true (h y hp))]; omega
        · rw [if_neg (by simpa using hp)]; omega
      · by_cases hyx : y = x
        · subst hyx
          rw [if_neg (by simpa using hP), if_pos (decide_eq_true hQ)]; omega
        · have h3 := h2 (by
            rcases List.mem_cons.1 hm with e | e
            · exact absurd e.symm hyx
            · exact e)
          by_cases hp : P y
          · rw [if_pos (decide_eq_true hp), if_pos (decide_eq_true (h y hp))]; omega
          · rw [if_neg (by simpa using hp)]; omega
  have := (hl (List.range M)).2 (List.mem_range.2 hx)
  unfold cntP
  exact this
theorem Dk_all {E : Nat → Nat → Prop} {root M : Nat} (hM : ∀ c, Rch E root c → c < M) {c : Nat} (h : Rch E root c) : Dk E root M c := by
  have key : ∀ k, (∀ a c, Dk E root k a → E a c → Dk E root k c) ∨ k + 1 ≤ cntP M (Dk E root k) := by
    intro k
    induction k with
    | zero =>
      right
      have := cntP_lt (M := M) (P := fun _ => False) (Q := Dk E root 0) (fun _ h => h.elim) (hM root .root) id rfl
      omega
    | succ k ih =>
      by_cases hc : ∀ a c, Dk E root k a → E a c → Dk E root k c
      · left
        have e : ∀ c, Dk E root (k + 1) c → Dk E root k c := fun c h => by
          rcases h with h | ⟨a, h1, h2⟩
          · exact h
          · exact hc a c h1 h2
        exact fun a c h1 h2 => .inl (hc a c (e a h1) h2)
      · right
        have h1 : k + 1 ≤ cntP M (Dk E root k) := by
          rcases ih with h | h
          · exact absurd h hc
          · exact h
        obtain ⟨a, ha⟩ := Classical.not_forall.1 hc
        obtain ⟨c, ha⟩ := Classical.not_forall.1 ha
        have h2 : Dk E root k a := Classical.byContradiction fun h => ha fun h3 => absurd h3 h
        have h3 : E a c := Classical.byContradiction fun h => ha fun _ h3 => absurd h3 h
        have h4 : ¬ Dk E root k c := fun h => ha fun _ _ => h
        have := cntP_lt (M := M) (P := Dk E root k) (Q := Dk E root (k + 1)) (fun _ h => .inl h) (hM c (.step (Dk_rch k a h2) h3)) h4 (.inr ⟨a, h2, h3⟩)
        omega
  have hcl : ∀ a c, Dk E root M a → E a c → Dk E root M c := by
    rcases key M with h | h
    · exact h
    · have := cntP_le M (Dk E root M)
      omega
  induction h with
  | root => exact Dk_root M
  | step _ h2 ih => exact hcl _ _ ih h2
/-- The steps of a strategy of the proponent, and of the opponent. -/
def E1 (n : NetD) (rs : List Rp) (a c : Nat) : Prop := ∃ b, At n a b ∧ rep rs b = some c
def E2 (n : NetD) (rs : List Rp) (a c : Nat) : Prop := ∃ r, rep rs a = some r ∧ At n r c
/-- Every attacker of what the proponent's strategy reaches has a reply that attacks it. -/
structure W1 (M : Nat) (n : NetD) (rs : List Rp) (root : Nat) : Prop where
  lt : ∀ a, Rch (E1 n rs) root a → a < M
  re : ∀ a b, Rch (E1 n rs) root a → At n a b → ∃ y, rep rs b = some y ∧ At n b y ∧ Rch (E1 n rs) root y
structure W2 (M : Nat) (n : NetD) (rs : List Rp) (root : Nat) : Prop where
  lt : ∀ a, Rch (E2 n rs) root a → a < M
  re : ∀ a, Rch (E2 n rs) root a → ∃ r, rep rs a = some r ∧ At n a r
theorem W1.of {N : Nat} {n : NetD} (hok : n.Ok N) {rs : List Rp} {game : Int} {S : Nat → Prop} {rank : Nat → Nat} (hS : SCl n rs game S rank) {root : Nat} (hr : root < N) (h0 : S root) : W1 N n rs root ∧ ∀ a, Rch (E1 n rs) root a → S a := by
  have hin : ∀ a, Rch (E1 n rs) root a → S a ∧ a < N := by
    intro a h
    induction h with
    | root => exact ⟨h0, hr⟩
    | step _ h2 ih =>
      obtain ⟨b, h3, h4⟩ := h2
      obtain ⟨y, h5, h6, h7, _⟩ := hS _ ih.1 b h3
      rw [h4] at h5
      injection h5 with h5
      subst h5
      exact ⟨h7, At.lt hok h6⟩
  refine ⟨⟨fun a h => (hin a h).2, fun a b h1 h2 => ?_⟩, fun a h => (hin a h).1⟩
  obtain ⟨y, h5, h6, _, _⟩ := hS _ (hin a h1).1 b h2
  exact ⟨y, h5, h6, .step h1 ⟨b, h2, h5⟩⟩
/-- What the reference's Check asks of a strategy of Solve. -/
inductive SolW (M : Nat) (n : NetD) (root : Nat) : Int → Int → List Rp → Prop
  | w11 (rs : List Rp) (rank : Nat → Nat) : W1 M n rs root → (∀ a, Rch (E1 n rs) root a → rank a < M + 1) → (∀ a b y, Rch (E1 n rs) root a → At n a b → rep rs b = some y → rank y < rank a) → SolW M n root 1 1 rs
  | w12 (rs : List Rp) : W2 M n rs root → SolW M n root 1 2 rs
  | w21 (rs : List Rp) : W1 M n rs root → (∀ p q, Rch (E1 n rs) root p → Rch (E1 n rs) root q → ¬ At n p q) → SolW M n root 2 1 rs
  | w22 : srch n (M + 1) (2 ^ root) = none → SolW M n root 2 2 []
theorem gs_top {N : Nat} {n : NetD} (hok : n.Ok N) {a j : Nat} (h : (gs n j).testBit a = true) : (gs n (N + 1)).testBit a = true := by
  rcases Nat.lt_or_ge j (N + 1) with h1 | h1
  · exact gs_le hok (Nat.le_of_lt h1) h
  · have hfix := gnd_fix hok
    rw [gnd_all hok] at hfix
    have := gsc hfix (j - (N + 1))
    rw [Nat.add_sub_cancel' h1] at this
    rw [← this]; exact h
theorem sol_w {M : Nat} (hM : M ≤ 40) {l : List S54} (hIn : InR M l) {root m : Nat} (hr : root < M) (hm : m < 2 ^ M) {game who : Int} {pk : Nat → Nat} (hS : SolP M (netOf M l) root game who m pk) : SolW M (netOf M l) root game who ((bl m).map fun x => rp x (pk x)) := by
  have hok := netOf_ok hM hIn
  cases hS with
  | gp _ h1 h2 =>
    obtain ⟨mm, hmm⟩ := gnd_gs M (netOf M l)
    rw [hmm] at h1
    have hin : ∀ a, Rc (netOf M l) root (pickG (netOf M l) (grd (netOf M l) (M + 1) 0)) a → ∃ j, (gs (netOf M l) j).testBit a = true := by
      intro a ha
      induction ha with
      | root => exact ⟨mm, h1⟩
      | step _ hx ih => exact (pickG_down hok ih hx).2.1
    have hcl : SCl (netOf M l) ((bl m).map fun x => rp x (pickG (netOf M l) (grd (netOf M l) (M + 1) 0) x)) 1 (Rc (netOf M l) root (pickG (netOf M l) (grd (netOf M l) (M + 1) 0))) (rnk (netOf M l)) := fun a ha x hx => by
      have hd := pickG_down hok (hin a ha) hx
      exact ⟨_, rep_bl hM hm _ ((h2 x).2 ⟨a, ha, hx⟩) (At.lt hok hd.1), hd.1, .step ha hx, fun _ => hd.2.2⟩
    obtain ⟨h3, h4⟩ := W1.of hok hcl hr .root
    refine .w11 _ (rnk (netOf M l)) h3 (fun a ha => ?_) (fun a b y ha hb hy => ?_)
    · obtain ⟨j, hj⟩ := hin a (h4 a ha)
      exact (rnk_spec hok (gs_top hok hj)).2.2
    · obtain ⟨z, h5, _, _, h6⟩ := hcl a (h4 a ha) b hb
      rw [h5] at hy
      injection hy with hy
      rw [← hy]; exact h6 rfl
  | go _ h1 h2 =>
    have hq : ∀ a, Rco (netOf M l) root (qO M (netOf M l)) a → rep ((bl m).map fun x => rp x (qO M (netOf M l) x)) a = some (qO M (netOf M l) a) ∧ At (netOf M l) a (qO M (netOf M l) a) ∧ a < M := fun a ha => by
      have h3 := Rco_out hok hr h1 ha
      have h4 := qO_spec hok h3.1 h3.2
      exact ⟨rep_bl hM hm _ ((h2 a).2 ha) (At.lt hok h4.1), h4.1, h3.1⟩
    have hin : ∀ a, Rch (E2 (netOf M l) ((bl m).map fun x => rp x (qO M (netOf M l) x))) root a → Rco (netOf M l) root (qO M (netOf M l)) a := by
      intro a h
      induction h with
      | root => exact .root
      | step _ h2 ih =>
        obtain ⟨r, h3, h4⟩ := h2
        rw [(hq _ ih).1] at h3
        injection h3 with h3
        subst h3
        exact .step ih h4
    exact .w12 _ ⟨fun a h => (hq a (hin a h)).2.2, fun a h => ⟨_, (hq a (hin a h)).1, (hq a (hin a h)).2.1⟩⟩
  | cp _ s h1 h2 =>
    obtain ⟨hA, hsub⟩ := srch_adm hok (Nat.pow_lt_pow_right (by omega) hr) h1
    have h3 := srch_some hok _ _ _ (Nat.pow_lt_pow_right (by omega) hr) h1
    have hin : ∀ a, Rc (netOf M l) root (pickS (netOf M l) s) a → s.testBit a = true := fun a ha => Rc_in hok h3.1 h3.2.2.2 (hsub root (by simp)) ha
    have hcl : SCl (netOf M l) ((bl m).map fun x => rp x (pickS (netOf M l) s x)) 2 (Rc (netOf M l) root (pickS (netOf M l) s)) (fun _ => 0) := fun a ha x hx => by
      have hp := pickS_in hok (open_hits hok h3.1 h3.2.2.2 (hin a ha) hx)
      exact ⟨_, rep_bl hM hm _ ((h2 x).2 ⟨a, ha, hx⟩) (bit_lt hM (hok.lb _) hp.1), hp.1, .step ha hx, fun h => by cases h⟩
    obtain ⟨h4, h5⟩ := W1.of hok hcl hr .root
    exact .w21 _ h4 fun p q hp hq => hA.2.1 p q (hin p (h5 p hp)) (hin q (h5 q hq))
  | co pk h1 =>
    have e : (bl 0).map (fun x => rp x (pk x)) = [] := by
      have : (bl 0) = [] := by unfold bl; simp
      rw [this]; rfl
    rw [e]
    exact .w22 h1
end Go.Proofs.YtgboplcjafmliaaDoor.G

/- The references' grounded labelling (net.Grounded). -/
namespace Go.Proofs.YtgboplcjafmliaaDoor.G
open Go.RowKit Go.Proofs.YtgboplcjafmliaaDoorW.PrintWords Go.Proofs.YtgboplcjafmliaaDoorW.PrintLast Go.Proofs.YtgboplcjafmliaaDoorW.PrintMore
open Go.Proofs.YtgboplcjafmliaaDoor.PAll
set_option linter.unusedVariables false
set_option linter.unusedSimpArgs false

/-- The labels and the ranks of a call, in blocks of its own. -/
structure GR (w : World) (M : Nat) (l : List S54) (A : Option Addr) (c g b4 b5 : Nat) (lab : List Nat) (x : World) : Prop where
  st : St w [(g, .cells #[.int .i64 (M : Int), .slice A l.length c] 24 (0, 0))] x
  k4 : x.heap[b4]? = some (.cells (i64s lab) 3 (0, 0))
  k5 : ∃ rk : List Nat, rk.length = M ∧ x.heap[b5]? = some (.cells (i64s rk) 3 (0, 0))
  len : lab.length = M
  g4 : w.heap.size ≤ b4
  g5 : w.heap.size ≤ b5
  ne : b4 ≠ b5
variable {w x y : World} {M : Nat} {l : List S54} {A : Option Addr} {c g b4 b5 : Nat} {lab : List Nat}
theorem GR.nx (h : GR w M l A c g b4 b5 lab x) (hb : Below x.heap.size x y) : GR w M l A c g b4 b5 lab y where
  st := h.st.nx hb
  k4 := blk_grown h.k4 (grown_of_below hb none) (by simp)
  k5 := by
    obtain ⟨rk, h1, h2⟩ := h.k5
    exact ⟨rk, h1, blk_grown h2 (grown_of_below hb none) (by simp)⟩
  len := h.len
  g4 := h.g4
  g5 := h.g5
  ne := h.ne
theorem GR.drew (h : GR w M l A c g b4 b5 lab x) : GR w M l A c g b4 b5 lab x.drew := h.nx (Below.refl _ _).drew
theorem St.setown {bs : List (Nat × Obj)} (h : St w bs x) {b : Nat} (hb : w.heap.size ≤ b) (hne : ∀ p, p ∈ bs → p.1 ≠ b) (i : Nat) (v : Value) : St w bs (x.setCell ⟨b, i, none⟩ v) where
  hb := by
    have k := Kp.setg (g := b) (h := b) x i v
    exact ⟨k.os.trans h.hb.os, k.tape.trans h.hb.tape, k.output.trans h.hb.output, Nat.le_trans h.hb.size k.size, fun j hj => (k.block j (Nat.lt_of_lt_of_le hj h.hb.size) (by omega) (by omega)).trans (h.hb.block j hj)⟩
  blk := fun p hp => by rw [heap_setCell_other x _ p.1 v (hne p hp)]; exact h.blk p hp
theorem GR.set4 (h : GR w M l A c g b4 b5 lab x) (i v : Nat) : GR w M l A c g b4 b5 (lab.set i v) (x.setCell ⟨b4, i, none⟩ (.int .i64 (v : Int))) where
  st := h.st.setown h.g4 (fun p hp => by
    rw [List.mem_singleton] at hp; subst hp
    exact blk_ne (h.st.blk _ (.head _)) h.k4 (by decide)) i _
  k4 := by rw [heap_setCell_same x b4 i (i64s lab) 3 _ h.k4, i64s_set]
  k5 := by
    obtain ⟨rk, h1, h2⟩ := h.k5
    exact ⟨rk, h1, by rw [heap_setCell_other x _ b5 _ (Ne.symm h.ne)]; exact h2⟩
  len := by rw [List.length_set]; exact h.len
  g4 := h.g4
  g5 := h.g5
  ne := h.ne
theorem GR.set5 (h : GR w M l A c g b4 b5 lab x) (i v : Nat) : GR w M l A c g b4 b5 lab (x.setCell ⟨b5, i, none⟩ (.int .i64 (v : Int))) where
  st := h.st.setown h.g5 (fun p hp => by
    rw [List.mem_singleton] at hp; subst hp
    obtain ⟨rk, h1, h2⟩ := h.k5
    exact blk_ne (h.st.blk _ (.head _)) h2 (by decide)) i _
  k4 := by rw [heap_setCell_other x _ b4 _ h.ne]; exact h.k4
  k5 := by
    obtain ⟨rk, h1, h2⟩ := h.k5
    exact ⟨rk.set i v, by rw [List.length_set]; exact h1, by rw [heap_setCell_same x b5 i (i64s rk) 3 _ h2, i64s_set]⟩
  len := h.len
  g4 := h.g4
  g5 := h.g5
  ne := h.ne
theorem GR.at4 (h : GR w M l A c g b4 b5 lab x) {i : Nat} (hi : i < M) : x.cell? ⟨b4, i, none⟩ = some (.int .i64 ((nth lab i : Nat) : Int)) := (blk_cell h.k4 i).trans (i64s_get _ _ (by rw [h.len]; exact hi))
theorem GR.at5 (h : GR w M l A c g b4 b5 lab x) {i : Nat} (hi : i < M) : ∃ v, x.cell? ⟨b5, i, none⟩ = some (.int .i64 v) := by
  obtain ⟨rk, h1, h2⟩ := h.k5
  exact ⟨_, (blk_cell h2 i).trans (i64s_get _ _ (by rw [h1]; exact hi))⟩
theorem GR.fr4 (h : GR w M l A c g b4 b5 lab x) (i : Nat) : x.frozen? ⟨b4, i, none⟩ = false := blk_frozen h.k4 i
theorem GR.fr5 (h : GR w M l A c g b4 b5 lab x) (i : Nat) : x.frozen? ⟨b5, i, none⟩ = false := by
  obtain ⟨rk, h1, h2⟩ := h.k5
  exact blk_frozen h2 i
theorem nth_set2 (l : List Nat) (t f i : Nat) (ht : t < l.length) : nth (l.set t f) i = if i = t then f else nth l i := by
  unfold nth
  rw [List.getD_eq_getElem?_getD, List.getD_eq_getElem?_getD, List.getElem?_set]
  by_cases h : t = i
  · subst h; rw [if_pos rfl, if_pos ht, if_pos rfl]; rfl
  · rw [if_neg h, if_neg (Ne.symm h)]
theorem al2_0 (w : World) (o o' : Obj) : ((w.alloc o).alloc o').drew.heap[w.heap.size]? = some o := by
  show ((w.heap.push o).push o')[w.heap.size]? = _
  rw [Array.getElem?_push_lt (by simp)]; simp
theorem al2_1 (w : World) (o o' : Obj) : ((w.alloc o).alloc o').drew.heap[w.heap.size + 1]? = some o' := by
  show ((w.heap.push o).push o')[w.heap.size + 1]? = _
  have h : w.heap.size + 1 = (w.heap.push o).size := by simp
  rw [h, Array.getElem?_push_size]
theorem GR.made (h : St w [(g, .cells #[.int .i64 (M : Int), .slice A l.length c] 24 (0, 0))] x) :
    GR w M l A c g x.heap.size (x.heap.size + 1) (List.replicate M 0) ((x.alloc (.cells (madeCells #[Value.int .i64 0] M) 3)).alloc (.cells (madeCells #[Value.int .i64 0] M) 3)).drew ∧
    GR w M l A c g (x.heap.size + 1) x.heap.size (List.replicate M 0) ((x.alloc (.cells (madeCells #[Value.int .i64 0] M) 3)).alloc (.cells (madeCells #[Value.int .i64 0] M) 3)).drew := by
  rw [made_zero]
  have hst := ((h.nx (below_alloc (Below.refl _ x) (.cells (i64s (List.replicate M 0)) 3))).nx (below_alloc (Below.refl _ _) (.cells (i64s (List.replicate M 0)) 3))).drew
  have h0 := al2_0 x (.cells (i64s (List.replicate M 0)) 3) (.cells (i64s (List.replicate M 0)) 3)
  have h1 := al2_1 x (.cells (i64s (List.replicate M 0)) 3) (.cells (i64s (List.replicate M 0)) 3)
  have hs := h.hb.size
  exact ⟨⟨hst, h0, ⟨_, by simp, h1⟩, by simp, hs, by omega, by omega⟩, ⟨hst, h1, ⟨_, by simp, h0⟩, by simp, by omega, hs, by omega⟩⟩
/-- A node that comes in, as far as the nodes below b tell. -/
def lokB (lab : List Nat) (l : List S54) (a b : Nat) : Bool := (nth lab a == 3) && (List.range' 0 b).all fun b : Nat => !atkB l (b : Int) (a : Int) || nth lab b == 2
theorem lokB_succ (lab : List Nat) (l : List S54) (a b : Nat) : lokB lab l a (b + 1) = (lokB lab l a b && (!atkB l (b : Int) (a : Int) || nth lab b == 2)) := by
  unfold lokB
  rw [List.range'_concat, List.all_append, Bool.and_assoc]
  congr 2
  simp
def nowU (lab : List Nat) (l : List S54) (M a : Nat) : List Nat := (List.range' 0 a).filter fun x => lokB lab l x M
theorem nowU_succ (lab : List Nat) (l : List S54) (M a : Nat) : nowU lab l M (a + 1) = nowU lab l M a ++ (if lokB lab l a M = true then [a] else []) := by
  unfold nowU
  rw [List.range'_concat, List.filter_append]
  congr 1
  simp only [Nat.zero_add, Nat.mul_one, Nat.one_mul, List.filter_cons, List.filter_nil]
theorem nowU_len (lab : List Nat) (l : List S54) (M a : Nat) : (nowU lab l M a).length ≤ a := Nat.le_trans (List.length_filter_le _ _) (by simp)
theorem lab_round {M : Nat} {l : List S54} (hIn : InR M l) (hok : (netOf M l).Ok M) {r : Nat} {lab lab2 lab3 nl : List Nat} (h1 : ∀ a, a < M → nth lab a = labOf (netOf M l) r a) (hn : ∀ x, x ∈ nl ↔ x < M ∧ lokB lab l x M = true) (h2 : ∀ y, y < M → nth lab2 y = if y ∈ nl then 1 else nth lab y) (h3 : ∀ y, y < M → nth lab3 y = if y < M ∧ nth lab2 y = 3 ∧ attB l nl (y : Int) = true then 2 else nth lab2 y) : ∀ a, a < M → nth lab3 a = labOf (netOf M l) (r + 1) a := by
  have hnow : ∀ x, x < M → (x ∈ nl ↔ nowP (netOf M l) r x) := fun x hx => by
    rw [hn x]
    unfold lokB nowP
    rw [Bool.and_eq_true, beq_iff_eq, List.all_eq_true, h1 x hx]
    constructor
    · rintro ⟨_, h4, h5⟩
      refine ⟨h4, fun b hb => ?_⟩
      have hbM := At.lt hok hb
      have h6 := h5 b (List.mem_range'_1.2 (by omega))
      rw [atkB_nat hIn, (at_atk hIn x b).1 hb, Bool.not_true, Bool.false_or, beq_iff_eq, h1 b hbM] at h6
      exact h6
    · rintro ⟨h4, h5⟩
      refine ⟨hx, h4, fun b hb => ?_⟩
      have hbM : b < M := by have := List.mem_range'_1.1 hb; omega
      rw [atkB_nat hIn, Bool.or_eq_true, Bool.not_eq_true', beq_iff_eq]
      cases hat : atk l b x with
      | false => exact .inl rfl
      | true => exact .inr (by rw [h1 b hbM]; exact h5 b ((at_atk hIn x b).2 hat))
  have hatt : ∀ y : Nat, attB l nl (y : Int) = true ↔ ∃ b, nowP (netOf M l) r b ∧ At (netOf M l) y b := fun y => by
    unfold attB
    rw [List.any_eq_true]
    constructor
    · rintro ⟨x, hx, e⟩
      rw [atkB_nat hIn] at e
      exact ⟨x, (hnow x ((hn x).1 hx).1).1 hx, (at_atk hIn y x).2 e⟩
    · rintro ⟨x, hx, e⟩
      exact ⟨x, (hnow x (At.lt hok e)).2 hx, by rw [atkB_nat hIn]; exact (at_atk hIn y x).1 e⟩
  intro a ha
  obtain ⟨s1, s2, s3⟩ := lab_step hok (r := r) ha
  rw [h3 a ha, h2 a ha]
  by_cases hna : a ∈ nl
  · rw [if_pos hna, if_neg (fun h => by have := h.2.1; omega)]
    exact (s1 ((hnow a ha).1 hna)).symm
  · have hnp : ¬ nowP (netOf M l) r a := fun h => hna ((hnow a ha).2 h)
    rw [if_neg hna, h1 a ha]
    by_cases hc : labOf (netOf M l) r a = 3 ∧ attB l nl (a : Int) = true
    · rw [if_pos ⟨ha, hc⟩]
      exact (s2 hnp hc.1 ((hatt a).1 hc.2)).symm
    · rw [if_neg (fun h => hc h.2)]
      exact (s3 hnp (fun h => hc ⟨h.1, (hatt a).2 h.2⟩)).symm
theorem GR.grown (h : GR w M l A c g b4 b5 lab x) {row : Option Nat} (hg : x.grownBy y row) {B : Nat} (hB : w.heap.size ≤ B) (hr : ∀ k, row = some k → B ≤ k) (h4 : b4 < B) (h5 : b5 < B) (hgB : g < B) : GR w M l A c g b4 b5 lab y where
  st := h.st.grown hg (fun k hk => Nat.le_trans hB (hr k hk)) (fun p hp => by
    rw [List.mem_singleton] at hp; subst hp
    intro e
    have := hr g e.symm
    omega)
  k4 := blk_grown h.k4 hg (fun e => by have := hr b4 e.symm; omega)
  k5 := by
    obtain ⟨rk, h1, h2⟩ := h.k5
    exact ⟨rk, h1, blk_grown h2 hg (fun e => by have := hr b5 e.symm; omega)⟩
  len := h.len
  g4 := h.g4
  g5 := h.g5
  ne := h.ne
theorem own_base3 {v : Value} {L : List Nat} {B : Nat} (h : OwnI x B v L) : ∀ k, v.ownBlock = some k → B ≤ k := fun k hk => own_base h k hk
set_option maxHeartbeats 8000000 in
set_option maxRecDepth 100000 in
theorem netGrounded_any (M : Nat) (hM : M ≤ 40) (l : List S54) (hl : l.length < 2 ^ 40) (hIn : InR M l) (A : Option Addr) (c : Nat) (w : World) (hr : RdP w A c l) :
    Calls Tryd.prog 32 #[.agg #[.int .i64 (M : Int), .slice A l.length c]] w fun e w' => ∃ (b4 : Nat) (lab : List Nat) (v5 : Value), e = .returned (.tuple #[.slice (some ⟨b4, 0, none⟩) M M, v5]) ∧ Aside0 (w'.heap[b4]? = some (.cells (i64s lab) 3 (0, 0)) ∧ lab.length = M ∧ ∀ a, a < M → nth lab a = labOf (netOf M l) (M + 1) a) ∧ Aside0 (Below w.heap.size w w') := by
  have HR := Aside0.mk hr
  have HNet := Aside0.mk (netOf_ok hM hIn)
  have HIn := Aside0.mk hIn
  have HB := Aside0.mk (St.refl w)
  have hmk := print_make (P := Tryd.prog) 25 3 .i64 8 Tryd.underlying25 info3 (by decide) M (by omega)
  clear hr hIn
  go_enter Tryd.func32, Tryd.ntmps32
  go_upto_region 1 with (first | ((with_reducible refine gate_dst (N := 1) rfl ?_); refine box_st (w := w) 1 #[.int .i64 (M : Int), .slice A l.length c] 24 rfl rfl ?hr HB.out ?_; (case hr => go_simp; done); clear HB; intro g w1 HB GE))
  have hx0 := (HB.out.at_ (.head _) 0).trans rfl
  go_cut [4, 5] (fun s4 s5 wx => ∃ b4 b5, s4 = .slice (some ⟨b4, 0, none⟩) M M ∧ s5 = .slice (some ⟨b5, 0, none⟩) M M ∧ Aside0 (GR w M l A c g b4 b5 (List.replicate M 0) wx))
  case first =>
    rename_i J9 K9 hJ9 hK9
    go_region_held3 (fun x => x.cell? ⟨g, 0, none⟩ = some (.int .i64 (M : Int))) (first | go_keep | exact ((HB.out.nx (below_alloc (Below.refl _ _) _)).at_ (.head _) 0).trans rfl | (trace_state; fail))
      (first | fail)
    all_goals
      refine hK9 _ _ (Met.intro (hJ9 _ _ ?_))
      (repeat apply Exists.intro)
      refine ⟨?_, rfl⟩
      first
        | exact ⟨_, _, rfl, rfl, ⟨(GR.made HB.out).1⟩⟩
        | exact ⟨_, _, rfl, rfl, ⟨(GR.made HB.out).2⟩⟩
  case rest =>
    obtain ⟨b4, b5, rfl, rfl, HG⟩ := hcut
    clear HB hx0 hmk
    go_wp2
    go_loopw [6] (fun v6 x => ∃ (i : Nat) (lab : List Nat), v6 = .int .i64 (i : Int) ∧ i ≤ M ∧ Aside0 (∀ a, a < i → nth lab a = 3) ∧ Aside0 (GR w M l A c g b4 b5 lab x)) (fun v6 _ => M - (intOf v6).toNat)
    case atStart => exact ⟨0, _, rfl, Nat.zero_le _, ⟨fun a ha => absurd ha (Nat.not_lt_zero _)⟩, HG⟩
    case round =>
      clear HG
      obtain ⟨i, lab, rfl, hi, HE, HG⟩ := hrel
      have hx0 := (HG.out.st.at_ (.head _) 0).trans rfl
      by_cases hlt : i < M
      · have i1 : decide ((i : Int) < (M : Int)) = true := decide_eq_true (by omega)
        have i2 : (i : Int) < (M : Int) := by omega
        have hc4 := HG.out.at4 hlt
        have hf4 := HG.out.fr4 i
        go_wp2
        have HG2 := Aside0.mk (HG.out.set4 i 3)
        have HE2 : Aside0 (∀ a, a < i + 1 → nth (lab.set i 3) a = 3) := ⟨fun a ha => by
          rw [nth_set2 lab i 3 a (by rw [HG.out.len]; exact hlt)]
          split
          · rfl
          · exact HE.out a (by omega)⟩
        exact ⟨⟨i + 1, _, by go_num, hlt, HE2, HG2⟩, by simp [intOf]; omega⟩
      · have i1 : decide ((i : Int) < (M : Int)) = false := decide_eq_false (by omega)
        have HL0 : Aside0 (∀ a, a < M → nth lab a = labOf (netOf M l) 0 a) := ⟨fun a ha => by
          rw [HE.out a (by omega)]
          exact ((lab_three _ 0 a).2 ⟨by simp [gs], fun h => by obtain ⟨z, hz, _⟩ := (attR_iff HNet.out 0 a).1 h; simp [gs] at hz⟩).symm⟩
        clear HE
        go_wp2
        clear hx0
        go_loopw [7] (fun v7 x => ∃ (r : Nat) (lab : List Nat), v7 = .int .i64 (r : Int) ∧ r ≤ M + 2 ∧ Aside0 (1 ≤ r ∧ ∀ a, a < M → nth lab a = labOf (netOf M l) (r - 1) a) ∧ Aside0 (GR w M l A c g b4 b5 lab x)) (fun v7 _ => M + 2 - (intOf v7).toNat)
        case atStart => exact ⟨1, lab, rfl, by omega, ⟨Nat.le_refl _, HL0.out⟩, HG⟩
        case round =>
          clear HL0 HG i1
          obtain ⟨r, lab, rfl, hrr, HL, HG⟩ := hrel
          have hx0 := (HG.out.st.at_ (.head _) 0).trans rfl
          have hw1 : IntKind.i64.wrap ((M : Int) + 1) = (M : Int) + 1 := IntWalk.i64_in _ (by omega)
          by_cases hrl : r ≤ M + 1
          · have i1 : decide ((r : Int) ≤ (M : Int) + 1) = true := decide_eq_true (by omega)
            have i1b : decide (r ≤ M + 1) = true := decide_eq_true hrl
            have HRl := Aside0.mk hrl
            clear hrl
            go_upto_region 11 with fail
            have hB4 : b4 < wr.heap.size := blk_lt HG.out.k4
            have hB5 : b5 < wr.heap.size := by obtain ⟨rk, h1, h2⟩ := HG.out.k5; exact blk_lt h2
            have hBg : g < wr.heap.size := blk_lt (HG.out.st.blk _ (.head _))
            have hBw : w.heap.size ≤ wr.heap.size := HG.out.st.hb.size
            have HO0 : Aside0 (OwnI wr wr.heap.size (.slice none 0 0) []) := ⟨own_nil _ _ _ _⟩
            obtain ⟨wB, hwB⟩ : ∃ x, x = wr := ⟨_, rfl⟩
            subst hwB
            have HBs0 : Aside0 (Below wB.heap.size wB wB) := ⟨Below.refl _ _⟩
            go_loopw [8, 9] (fun v8 v9 x => ∃ (a : Nat) (A8 : Option Addr) (c8 : Nat), v8 = .slice A8 (nowU lab l M a).length c8 ∧ v9 = .int .i64 (a : Int) ∧ a ≤ M ∧ Aside0 (GR w M l A c g b4 b5 lab x) ∧ Aside0 (OwnI x wB.heap.size (.slice A8 (nowU lab l M a).length c8) (nowU lab l M a)) ∧ Aside0 (Below wB.heap.size wB x)) (fun _ v9 _ => M - (intOf v9).toNat)
            case atStart => exact ⟨0, none, 0, rfl, rfl, Nat.zero_le _, HG, HO0, HBs0⟩
            case round =>
              clear HG HO0 HBs0 hx0 i1 i1b
              obtain ⟨a, A8, c8, rfl, rfl, ha, HG, HO, HBs⟩ := hrel
              have hx0 := (HG.out.st.at_ (.head _) 0).trans rfl
              by_cases hal : a < M
              · have i1 : decide ((a : Int) < (M : Int)) = true := decide_eq_true (by omega)
                have i2 : (a : Int) < (M : Int) := by omega
                have hc4 := HG.out.at4 hal
                have hq3 : (((nth lab a : Nat) : Int) == 3) = lokB lab l a 0 := by
                  unfold lokB
                  rw [show List.range' 0 0 = [] from rfl, List.all_nil, Bool.and_true, Bool.eq_iff_iff, beq_iff_eq, beq_iff_eq]
                  omega
                go_upto_region 15 with fail
                go_loopw [10, 11] (fun v10 v11 x => ∃ b : Nat, v10 = .bool (lokB lab l a b) ∧ v11 = .int .i64 (b : Int) ∧ b ≤ M ∧ Aside0 (GR w M l A c g b4 b5 lab x) ∧ Aside0 (OwnI x wB.heap.size (.slice A8 (nowU lab l M a).length c8) (nowU lab l M a)) ∧ Aside0 (Below wB.heap.size wB x)) (fun _ v11 _ => M - (intOf v11).toNat)
                case atStart => exact ⟨0, rfl, rfl, Nat.zero_le _, HG, HO, HBs⟩
                case round =>
                  clear HG HO HBs hx0 hc4 i1 i2 hq3
                  obtain ⟨b, rfl, rfl, hb, HG, HO, HBs⟩ := hrel
                  have hx0 := (HG.out.st.at_ (.head _) 0).trans rfl
                  have hx1 := (HG.out.st.at_ (.head _) 1).trans rfl
                  by_cases hbl : b < M
                  · have i1 : decide ((b : Int) < (M : Int)) = true := decide_eq_true (by omega)
                    have i2 : (b : Int) < (M : Int) := by omega
                    have hc4 := HG.out.at4 hbl
                    have HHas := Aside0.mk (nhas_any (M : Int) (b : Int) (a : Int) l (by omega) A c wr (HR.out.below HG.out.st.hb))
                    have HSu := Aside0.mk (lokB_succ lab l a b)
                    have hq2 : (((nth lab b : Nat) : Int) == 2) = (nth lab b == 2) := by
                      rw [Bool.eq_iff_iff, beq_iff_eq, beq_iff_eq]; omega
                    cases hok : lokB lab l a b with
                    | false =>
                      rw [hok, Bool.false_and] at HSu
                      clear hok hq2
                      go_wp2
                      exact ⟨⟨b + 1, by rw [HSu.out], by go_num, hbl, HG, HO, HBs⟩, by simp [intOf]; omega⟩
                    | true =>
                      rw [hok, Bool.true_and] at HSu
                      clear hok
                      cases hat : atkB l (b : Int) (a : Int) with
                      | false =>
                        rw [hat] at HHas HSu
                        clear hat
                        go_wp2_with (first | (go_at_call 15; refine HHas.out.mono ?_; rintro e w9 ⟨rfl, hbb⟩))
                        have HG9 := Aside0.mk (HG.out.nx hbb.out)
                        go_roundw
                        case rel => exact ⟨b + 1, by rw [HSu.out]; rfl, by go_num, hbl, HG9, ⟨HO.out.below hbb.out⟩, ⟨below_then HBs.out HBs.out.size hbb.out⟩⟩
                        case measure => simp [intOf]; omega
                      | true =>
                        rw [hat] at HHas HSu
                        clear hat
                        go_wp2_with (first | (go_at_call 15; refine HHas.out.mono ?_; rintro e w9 ⟨rfl, hbb⟩; have HG9 := Aside0.mk (HG.out.nx hbb.out); have hc9 := HG9.out.at4 hbl))
                        go_roundw
                        case rel => exact ⟨b + 1, by rw [HSu.out]; rfl, by go_num, hbl, HG9, ⟨HO.out.below hbb.out⟩, ⟨below_then HBs.out HBs.out.size hbb.out⟩⟩
                        case measure => simp [intOf]; omega
                  · have i1 : decide ((b : Int) < (M : Int)) = false := decide_eq_false (by omega)
                    have hbe : b = M := by omega
                    subst hbe
                    have HSn := Aside0.mk (nowU_succ lab l b a)
                    have hnl := nowU_len lab l b a
                    cases hok : lokB lab l a b with
                    | false =>
                      rw [hok, if_neg (by simp), List.append_nil] at HSn
                      go_wp2
                      exact ⟨⟨a + 1, A8, c8, by rw [HSn.out], by go_num, hal, HG, ⟨by rw [HSn.out]; exact HO.out⟩, HBs⟩, by simp [intOf]; omega⟩
                    | true =>
                      rw [hok, if_pos rfl] at HSn
                      go_wp2_with (first | (at_builtin; refine app_node (w0 := wB) 25 (.tmp 70) (.tmp 72) rfl rfl Tryd.underlying25 info3 _ (nowU lab l b a) a rfl rfl ?aO ?aB ?aL ?_; (case aO => exact HO.out); (case aB => exact HBs.out); (case aL => omega); intro v1 w10 HO1 HG1 _; have HG10 := Aside0.mk (HG.out.grown HG1 hBw (own_base3 HO.out) hB4 hB5 hBg); have HBs10 := Aside0.mk (HBs.out.grown HG1 HBs.out.size (own_base3 HO.out)); rw [← HSn.out] at HO1; obtain ⟨A1, c1, rfl⟩ := own_slice HO1))
                      exact ⟨⟨a + 1, A1, c1, rfl, by go_num, hal, HG10, ⟨HO1⟩, HBs10⟩, by simp [intOf]; omega⟩
              · have i1 : decide ((a : Int) < (M : Int)) = false := decide_eq_false (by omega)
                have hae : a = M := by omega
                subst hae
                go_upto_region 21 with fail
                have HNl : Aside0 (∀ x, x ∈ nowU lab l a a ↔ x < a ∧ lokB lab l x a = true) := ⟨fun x => by
                  unfold nowU
                  rw [List.mem_filter, List.mem_range'_1]
                  simp⟩
                have hnlen := nowU_len lab l a a
                generalize nowU lab l a a = nl at *
                clear HBs hx0 i1
                have HLab0 : Aside0 (∀ y, y < a → nth lab y = if y ∈ nl.take 0 then 1 else nth lab y) := ⟨fun y hy => by simp⟩
                go_loopw [76] (fun v76 x => ∃ (j : Nat) (lab2 : List Nat), v76 = .int .i64 (j : Int) ∧ j ≤ nl.length ∧ Aside0 (∀ y, y < a → nth lab2 y = if y ∈ nl.take j then 1 else nth lab y) ∧ Aside0 (GR w a l A c g b4 b5 lab2 x) ∧ Aside0 (OwnI x wB.heap.size (.slice A8 nl.length c8) nl)) (fun v76 _ => nl.length - (intOf v76).toNat)
                case atStart => exact ⟨0, lab, rfl, Nat.zero_le _, HLab0, HG, HO⟩
                case round =>
                  clear HG HO HLab0
                  obtain ⟨j, lab2, rfl, hj, HL2, HG, HO⟩ := hrel
                  by_cases hjl : j < nl.length
                  · have j1 : decide ((j : Int) < (nl.length : Int)) = true := decide_eq_true (by omega)
                    have j2 : (j : Int) < (nl.length : Int) := by omega
                    obtain ⟨A', c', he, hrd⟩ := HO.out.reads
                    injection he with e1 e2 e3
                    subst e1 e3
                    obtain ⟨ad, hA, hcz⟩ := hrd.cell j hjl
                    subst hA
                    clear hrd
                    have hxm := ((HNl.out _).1 (nth_mem nl j hjl)).1
                    have HTk := Aside0.mk (take_next nl j hjl)
                    have HTk2 : Aside0 (nth nl j ∈ nl.take (j + 1)) := ⟨List.mem_take_iff_getElem.2 ⟨j, by omega, by rw [nth_get nl j hjl]⟩⟩
                    have HTk3 : Aside0 (∀ y, y ∈ nl.take j → y ∈ nl.take (j + 1)) := ⟨fun y hy => (List.take_prefix_take_left (by omega)).subset hy⟩
                    generalize nth nl j = z at *
                    have z1 : (z : Int) < (a : Int) := by omega
                    have hc4 := HG.out.at4 hxm
                    have hf4 := HG.out.fr4 z
                    have HS4 := Aside0.mk (HG.out.set4 z 1)
                    have HO4 := Aside0.mk (HO.out.kp (Kp.setg (g := b4) (h := b4) wr z (.int .i64 ((1 : Nat) : Int))) hB4 hB4)
                    rw [show ((1 : Nat) : Int) = 1 from rfl] at HS4 HO4
                    obtain ⟨v5, hc5⟩ := HS4.out.at5 hxm
                    have hf5 := HS4.out.fr5 z
                    have HS5 := Aside0.mk (HS4.out.set5 z r)
                    have HO5 := Aside0.mk (HO4.out.kp (Kp.setg (g := b5) (h := b5) _ z (.int .i64 (r : Int))) hB5 hB5)
                    have HL3 : Aside0 (∀ y, y < a → nth (lab2.set z 1) y = if y ∈ nl.take (j + 1) then 1 else nth lab y) := ⟨fun y hy => by
                      rw [nth_set2 lab2 z 1 y (by rw [HG.out.len]; exact hxm)]
                      by_cases hyz : y = z
                      · rw [if_pos hyz, if_pos (by rw [hyz]; exact HTk2.out)]
                      · rw [if_neg hyz, HL2.out y hy]
                        by_cases h1 : y ∈ nl.take j
                        · rw [if_pos h1, if_pos (HTk3.out y h1)]
                        · rw [if_neg h1, if_neg (fun h2 => by
                            rcases HTk.out y h2 with h3 | h3
                            · exact h1 h3
                            · exact hyz h3)]⟩
                    clear HS4 HO4
                    go_wp2
                    exact ⟨⟨j + 1, _, by go_num, hjl, HL3, HS5, HO5⟩, by simp [intOf]; omega⟩
                  · have j1 : decide ((j : Int) < (nl.length : Int)) = false := decide_eq_false (by omega)
                    have hje : j = nl.length := by omega
                    subst hje
                    go_upto_region 26 with fail
                    have HL2b : Aside0 (∀ y, y < a → nth lab2 y = if y ∈ nl then 1 else nth lab y) := ⟨fun y hy => by have h := HL2.out y hy; rw [List.take_length] at h; exact h⟩
                    clear HL2 j1
                    have HL30 : Aside0 (∀ y, y < a → nth lab2 y = if y < 0 ∧ nth lab2 y = 3 ∧ attB l nl (y : Int) = true then 2 else nth lab2 y) := ⟨fun y hy => by rw [if_neg (fun h => Nat.not_lt_zero _ h.1)]⟩
                    go_loopw [14] (fun v14 x => ∃ (b : Nat) (lab3 : List Nat), v14 = .int .i64 (b : Int) ∧ b ≤ a ∧ Aside0 (∀ y, y < a → nth lab3 y = if y < b ∧ nth lab2 y = 3 ∧ attB l nl (y : Int) = true then 2 else nth lab2 y) ∧ Aside0 (GR w a l A c g b4 b5 lab3 x) ∧ Aside0 (OwnI x wB.heap.size (.slice A8 nl.length c8) nl)) (fun v14 _ => a - (intOf v14).toNat)
                    case atStart => exact ⟨0, lab2, rfl, Nat.zero_le _, HL30, HG, HO⟩
                    case round =>
                      clear HG HO HL30
                      obtain ⟨b, lab3, rfl, hb, HL3, HG, HO⟩ := hrel
                      have hx0 := (HG.out.st.at_ (.head _) 0).trans rfl
                      have hx1 := (HG.out.st.at_ (.head _) 1).trans rfl
                      by_cases hbl : b < a
                      · have j1 : decide ((b : Int) < (a : Int)) = true := decide_eq_true (by omega)
                        have j2 : (b : Int) < (a : Int) := by omega
                        have hc4 := HG.out.at4 hbl
                        have hb3 : nth lab3 b = nth lab2 b := by rw [HL3.out b hbl, if_neg (fun h => Nat.lt_irrefl _ h.1)]
                        rw [hb3] at hc4
                        clear hb3
                        have HNx : Aside0 (∀ L4 : List Nat, (∀ y, y < a → nth L4 y = if y = b then (if nth lab2 b = 3 ∧ attB l nl (b : Int) = true then 2 else nth lab2 b) else nth lab3 y) → ∀ y, y < a → nth L4 y = if y < b + 1 ∧ nth lab2 y = 3 ∧ attB l nl (y : Int) = true then 2 else nth lab2 y) := ⟨fun L4 h y hy => by
                          rw [h y hy]
                          by_cases e : y = b
                          · subst e
                            rw [if_pos rfl]
                            by_cases h2 : nth lab2 y = 3 ∧ attB l nl (y : Int) = true
                            · rw [if_pos h2, if_pos ⟨by omega, h2⟩]
                            · rw [if_neg h2, if_neg (fun h3 => h2 h3.2)]
                          · rw [if_neg e, HL3.out y hy]
                            by_cases h2 : nth lab2 y = 3 ∧ attB l nl (y : Int) = true
                            · by_cases h3 : y < b
                              · rw [if_pos ⟨h3, h2⟩, if_pos ⟨by omega, h2⟩]
                              · rw [if_neg (fun h => h3 h.1), if_neg (fun h => by omega)]
                            · rw [if_neg (fun h => h2 h.2), if_neg (fun h => h2 h.2)]⟩
                        have HLb : Aside0 (nth lab3 b = nth lab2 b) := ⟨by rw [HL3.out b hbl, if_neg (fun h => Nat.lt_irrefl _ h.1)]⟩
                        have hq3 : (((nth lab2 b : Nat) : Int) == 3) = decide (nth lab2 b = 3) := by
                          rw [Bool.eq_iff_iff, beq_iff_eq, decide_eq_true_iff]; omega
                        have HAtt : Aside0 (Calls Tryd.prog 58 #[.agg #[.int .i64 (a : Int), .slice A l.length c], .slice A8 nl.length c8, .int .i64 (b : Int)] wr fun e w' => e = .returned (.bool (attB l nl (b : Int))) ∧ Aside0 (Below wr.heap.size wr w')) := ⟨by
                          obtain ⟨A', c', he, hrd⟩ := HO.out.reads
                          injection he with e1 e2 e3
                          subst e1 e3
                          exact attacked_any (a : Int) l (by omega) A c nl (by omega) A8 c8 (b : Int) wr (HR.out.below HG.out.st.hb) hrd⟩
                        by_cases hl3 : nth lab2 b = 3
                        · rw [decide_eq_true hl3] at hq3
                          have HL4 := Aside0.mk hl3
                          clear hl3
                          cases hab : attB l nl (b : Int) with
                          | true =>
                            rw [hab] at HAtt
                            have HAb := Aside0.mk hab
                            clear hab
                            go_upto_region 29 with (first | (go_at_call 58; refine HAtt.out.mono ?_; rintro e w9 ⟨rfl, hbb⟩; have HG9 := Aside0.mk (HG.out.nx hbb.out); have HO9 := Aside0.mk (HO.out.below hbb.out)))
                            clear hc4 hx0 hx1
                            have hc4 := HG9.out.at4 hbl
                            have hf4 := HG9.out.fr4 b
                            have HS4 := Aside0.mk (HG9.out.set4 b 2)
                            have HO4 := Aside0.mk (HO9.out.kp (Kp.setg (g := b4) (h := b4) w9 b (.int .i64 ((2 : Nat) : Int))) hB4 hB4)
                            rw [show ((2 : Nat) : Int) = 2 from rfl] at HS4 HO4
                            obtain ⟨v5, hc5⟩ := HS4.out.at5 hbl
                            have hf5 := HS4.out.fr5 b
                            have HS5 := Aside0.mk (HS4.out.set5 b r)
                            have HO5 := Aside0.mk (HO4.out.kp (Kp.setg (g := b5) (h := b5) _ b (.int .i64 (r : Int))) hB5 hB5)
                            have HL5 := Aside0.mk (HNx.out (lab3.set b 2) (fun y hy => by
                              rw [nth_set2 lab3 b 2 y (by rw [HG9.out.len]; exact hbl)]
                              by_cases e : y = b
                              · rw [if_pos e, if_pos e, if_pos ⟨HL4.out, HAb.out⟩]
                              · rw [if_neg e, if_neg e]))
                            clear HS4 HO4
                            go_wp2
                            exact ⟨⟨b + 1, _, by go_num, hbl, HL5, HS5, HO5⟩, by simp [intOf]; omega⟩
                          | false =>
                            rw [hab] at HAtt
                            have HAb := Aside0.mk hab
                            clear hab
                            go_wp2_with (first | (go_at_call 58; refine HAtt.out.mono ?_; rintro e w9 ⟨rfl, hbb⟩; have HG9 := Aside0.mk (HG.out.nx hbb.out); have HO9 := Aside0.mk (HO.out.below hbb.out)))
                            exact ⟨⟨b + 1, lab3, by go_num, hbl, ⟨HNx.out lab3 (fun y hy => by
                              by_cases e : y = b
                              · rw [if_pos e, e, if_neg (fun h => by rw [HAb.out] at h; cases h.2), HLb.out]
                              · rw [if_neg e])⟩, HG9, HO9⟩, by simp [intOf]; omega⟩
                        · rw [decide_eq_false hl3] at hq3
                          have HL4 := Aside0.mk hl3
                          clear hl3
                          go_wp2
                          exact ⟨⟨b + 1, lab3, by go_num, hbl, ⟨HNx.out lab3 (fun y hy => by
                            by_cases e : y = b
                            · rw [if_pos e, e, if_neg (fun h => HL4.out h.1), HLb.out]
                            · rw [if_neg e])⟩, HG, HO⟩, by simp [intOf]; omega⟩
                      · have j1 : decide ((b : Int) < (a : Int)) = false := decide_eq_false (by omega)
                        have hbe : b = a := by omega
                        subst hbe
                        go_wp2
                        have hr1 := HL.out.1
                        have hr2 := HRl.out
                        have HLn := lab_round HIn.out HNet.out HL.out.2 HNl.out HL2b.out HL3.out
                        exact ⟨⟨r + 1, lab3, by go_num, by omega, ⟨by omega, by rw [show r + 1 - 1 = r - 1 + 1 by omega]; exact HLn⟩, HG⟩, by simp [intOf]; omega⟩
          · have i1 : decide ((r : Int) ≤ (M : Int) + 1) = false := decide_eq_false (by omega)
            have i1b : decide (r ≤ M + 1) = false := decide_eq_false hrl
            have hre : r = M + 2 := by omega
            subst hre
            go_wp2
            go_ret2
            exact ⟨b4, lab, _, rfl, ⟨HG.out.k4, HG.out.len, HL.out.2⟩, ⟨HG.out.st.hb⟩⟩
end Go.Proofs.YtgboplcjafmliaaDoor.G

/- A made row of bools, for the references' Reached and loops. -/
namespace Go.Proofs.YtgboplcjafmliaaDoor.G
open Go.RowKit Go.Proofs.YtgboplcjafmliaaDoorW.PrintWords Go.Proofs.YtgboplcjafmliaaDoorW.PrintLast Go.Proofs.YtgboplcjafmliaaDoorW.PrintMore
open Go.Proofs.YtgboplcjafmliaaDoor.PAll
set_option linter.unusedVariables false
set_option linter.unusedSimpArgs false
def bools (l : List Bool) : Array Value := (l.map fun b => Value.bool b).toArray
def nthB (l : List Bool) (i : Nat) : Bool := l.getD i false
theorem bools_get (l : List Bool) (i : Nat) (h : i < l.length) : (bools l)[i]? = some (.bool (nthB l i)) := by
  simp [bools, nthB, h]
theorem bools_set (l : List Bool) (i : Nat) (b : Bool) : (bools l).setIfInBounds i (.bool b) = bools (l.set i b) := by
  simp [bools, List.map_set]
theorem nthB_set (l : List Bool) (t : Nat) (b : Bool) (i : Nat) (ht : t < l.length) : nthB (l.set t b) i = if i = t then b else nthB l i := by
  unfold nthB
  rw [List.getD_eq_getElem?_getD, List.getD_eq_getElem?_getD, List.getElem?_set]
  by_cases h : t = i
  · subst h; rw [if_pos rfl, if_pos ht, if_pos rfl]; rfl
  · rw [if_neg h, if_neg (Ne.symm h)]
/-- A row of bools in a block of the call's own. -/
structure BR (w : World) (bs : List (Nat × Obj)) (b6 : Nat) (inn : List Bool) (x : World) : Prop where
  st : St w bs x
  k6 : x.heap[b6]? = some (.cells (bools inn) 4 (0, 0))
  g6 : w.heap.size ≤ b6
  ne : ∀ p, p ∈ bs → p.1 ≠ b6
variable {w x y : World} {bs : List (Nat × Obj)} {b6 : Nat} {inn : List Bool}
theorem BR.nx (h : BR w bs b6 inn x) (hb : Below x.heap.size x y) : BR w bs b6 inn y :=
  ⟨h.st.nx hb, blk_grown h.k6 (grown_of_below hb none) (by simp), h.g6, h.ne⟩
theorem BR.set (h : BR w bs b6 inn x) (i : Nat) (b : Bool) : BR w bs b6 (inn.set i b) (x.setCell ⟨b6, i, none⟩ (.bool b)) where
  st := h.st.setown h.g6 h.ne i _
  k6 := by rw [heap_setCell_same x b6 i (bools inn) 4 _ h.k6, bools_set]
  g6 := h.g6
  ne := h.ne
theorem BR.at_ (h : BR w bs b6 inn x) {i : Nat} (hi : i < inn.length) : x.cell? ⟨b6, i, none⟩ = some (.bool (nthB inn i)) := (blk_cell h.k6 i).trans (bools_get _ _ hi)
theorem BR.fr (h : BR w bs b6 inn x) (i : Nat) : x.frozen? ⟨b6, i, none⟩ = false := blk_frozen h.k6 i
end Go.Proofs.YtgboplcjafmliaaDoor.G
