/- The contract of awake. -/
import Derived.Test.YtgboplcjafmliaaDoorPQ8
import Derived.Test.YtgboplcjafmliaaDoorPAllx7
/- The contract of awake. -/
namespace Go.Proofs.YtgboplcjafmliaaDoor.G
open Go.RowKit Go.Proofs.YtgboplcjafmliaaDoorW.PrintWords Go.Proofs.YtgboplcjafmliaaDoorW.PrintLast Go.Proofs.YtgboplcjafmliaaDoorW.PrintMore
open Go.Proofs.YtgboplcjafmliaaDoor.PAll
set_option linter.unusedVariables false
set_option linter.unusedSimpArgs false

theorem solve_g0 (A : Option Addr) (c : Nat) (w : World) (hT : TabW w) (hr : RdP w A c l0) :
    Calls Tryd.prog 10 #[.agg #[.int .i64 2, .slice A 2 c], .int .i64 1, .int .i64 0] w fun e w' => ∃ A4 c4, e = .returned (.tuple #[.agg #[.int .i64 1, .int .i64 0, .int .i64 2, .slice A4 1 c4], .int .i64 0]) ∧ Aside0 (OwnRp w' w.heap.size (.slice A4 1 c4) [rp 0 1]) ∧ Aside0 (Below w.heap.size w w') :=
  (solve_any 2 l0 (by decide) A c 1 0 w hT hr).mono fun e w' ⟨h, hb⟩ => by
    rcases h with ⟨h, _⟩ | ⟨_, M, r, who, A4, c4, m, pk, hM, hr, _, _, _, _, hS, he, ho⟩
    · exact absurd solE_g h
    · have hM2 : M = 2 := by omega
      have hr0 : r = 0 := by omega
      subst hM2 hr0
      obtain ⟨h1, h2, h3⟩ := awake_g rfl hS
      subst h1 h2
      rw [bl1] at he ho
      rw [List.map_cons, List.map_nil, h3] at ho
      exact ⟨A4, c4, he, ⟨ho⟩, hb⟩
theorem solve_c0 (A : Option Addr) (c : Nat) (w : World) (hT : TabW w) (hr : RdP w A c l0) :
    Calls Tryd.prog 10 #[.agg #[.int .i64 2, .slice A 2 c], .int .i64 2, .int .i64 0] w fun e w' => ∃ A4 c4, e = .returned (.tuple #[.agg #[.int .i64 2, .int .i64 0, .int .i64 1, .slice A4 1 c4], .int .i64 0]) ∧ Aside0 (OwnRp w' w.heap.size (.slice A4 1 c4) [rp 1 0]) ∧ Aside0 (Below w.heap.size w w') :=
  (solve_any 2 l0 (by decide) A c 2 0 w hT hr).mono fun e w' ⟨h, hb⟩ => by
    rcases h with ⟨h, _⟩ | ⟨_, M, r, who, A4, c4, m, pk, hM, hr, _, _, _, _, hS, he, ho⟩
    · exact absurd solE_c h
    · have hM2 : M = 2 := by omega
      have hr0 : r = 0 := by omega
      subst hM2 hr0
      obtain ⟨h1, h2, h3⟩ := awake_c rfl hS
      subst h1 h2
      rw [bl2] at he ho
      rw [List.map_cons, List.map_nil, h3] at ho
      exact ⟨A4, c4, he, ⟨ho⟩, hb⟩
theorem inr0 : InR 2 l0 := fun p hp => by
  simp [l0] at hp
  rcases hp with rfl | rfl <;> decide
theorem check_g0 (A : Option Addr) (c : Nat) (A4 : Option Addr) (c4 base : Nat) (w : World) (hT : TabW w) (hr : RdP w A c l0) (ho : OwnRp w base (.slice A4 1 c4) [rp 0 1]) :
    Calls Tryd.prog 13 #[.agg #[.int .i64 2, .slice A 2 c], .agg #[.int .i64 1, .int .i64 0, .int .i64 2, .slice A4 1 c4]] w fun e w' => e = .returned (.int .i64 0) ∧ Aside0 (Below w.heap.size w w') := by
  have h := check_any 2 2 rfl (by decide) l0 (by decide) valE_0 inr0 A c 1 0 2 A4 c4 base [rp 0 1] str_g w hT hr ho
  rw [show winB 2 (netOf 2 l0) 1 0 2 [rp 0 1] = true from win_g] at h
  exact h
theorem check_c0 (A : Option Addr) (c : Nat) (A4 : Option Addr) (c4 base : Nat) (w : World) (hT : TabW w) (hr : RdP w A c l0) (ho : OwnRp w base (.slice A4 1 c4) [rp 1 0]) :
    Calls Tryd.prog 13 #[.agg #[.int .i64 2, .slice A 2 c], .agg #[.int .i64 2, .int .i64 0, .int .i64 1, .slice A4 1 c4]] w fun e w' => e = .returned (.int .i64 0) ∧ Aside0 (Below w.heap.size w w') := by
  have h := check_any 2 2 rfl (by decide) l0 (by decide) valE_0 inr0 A c 2 0 1 A4 c4 base [rp 1 0] str_c w hT hr ho
  rw [show winB 2 (netOf 2 l0) 2 0 1 [rp 1 0] = true from win_c] at h
  exact h
theorem replies_c0 (A4 : Option Addr) (c4 base : Nat) (w : World) (ho : OwnRp w base (.slice A4 1 c4) [rp 1 0]) :
    Calls Tryd.prog 22 #[.agg #[.int .i64 2, .int .i64 0, .int .i64 1, .slice A4 1 c4], .int .i64 1, .int .i64 0] w fun e w' => e = .returned (.bool true) ∧ Aside0 (Below w.heap.size w w') := by
  obtain ⟨A5, c5, he, hrd⟩ := ho.reads
  injection he with e1 e2 e3
  subst e1 e3
  exact (deliberationlaw25_replies.calls 3 2 0 1 A4 c4 [s77 (rp 1 0)] 1 0 true w hrd.2 hrd.1 (by kernel_rfl)).mono fun e w' ⟨h1, h2⟩ => ⟨h1, ⟨h2⟩⟩
theorem own_l0 (w : World) (base g : Nat) (hb : base ≤ g) (h : w.heap[g]? = some (.cells #[.int .i64 0, .int .i64 1, .int .i64 1, .int .i64 0] 54 (0, 0))) : OwnP w base (.slice (some ⟨g, 0, none⟩) 2 2) l0 :=
  ⟨rfl, .inr ⟨g, 2, _, rfl, hb, h, by decide, by decide, rfl, rfl⟩⟩

set_option maxHeartbeats 4000000 in
set_option maxRecDepth 100000 in
theorem awake_any (w : World) (hT : TabW w) : Calls Tryd.prog 7 #[] w fun e w' => e = .returned (.bool true) ∧ Aside0 (Below w.heap.size w w') := by
  have HT := Aside0.mk hT
  clear hT
  go_enter Tryd.func7, Tryd.ntmps7
  go_upto_region 2 with fail
  have HM0 := ((Mem.refl w).add (.cells #[.int .i64 0, .int .i64 1, .int .i64 1, .int .i64 0] 54 (0, 0))).add (.cells #[.int .i64 2, .slice (some ⟨w.heap.size, 0, none⟩) 2 2] 24 (0, 0))
  rw [show (w.alloc (.cells #[.int .i64 0, .int .i64 1, .int .i64 1, .int .i64 0] 54 (0, 0))).heap.size = w.heap.size + 1 by simp] at HM0
  change Code.wp Tryd.prog _ _ _ ((w.alloc (.cells #[.int .i64 0, .int .i64 1, .int .i64 1, .int .i64 0] 54 (0, 0))).alloc (.cells #[.int .i64 2, .slice (some ⟨w.heap.size, 0, none⟩) 2 2] 24 (0, 0)))
  generalize (w.alloc (.cells #[.int .i64 0, .int .i64 1, .int .i64 1, .int .i64 0] 54 (0, 0))).alloc (.cells #[.int .i64 2, .slice (some ⟨w.heap.size, 0, none⟩) 2 2] 24 (0, 0)) = w1 at *
  have HRd : Aside0 (RdP w1 (some ⟨w.heap.size, 0, none⟩) 2 l0) := by
    obtain ⟨A, c, he, hr⟩ := (own_l0 w1 w.heap.size w.heap.size (Nat.le_refl _) (HM0.st.blk _ (.tail _ (.head _)))).reads
    injection he with e1 e2 e3
    subst e1 e3
    exact ⟨hr⟩
  obtain ⟨gp, hgp⟩ : ∃ gp, w.heap.size = gp := ⟨_, rfl⟩
  rw [hgp] at HM0 HRd ⊢
  clear hgp
  have HM := Aside0.mk HM0
  clear HM0
  have HT1 := Aside0.mk (HT.out.below HT.out.2 HM.out.st.hb)
  have HS1 := Aside0.mk (solve_g0 (some ⟨gp, 0, none⟩) 2 w1 HT1.out HRd.out)
  have hm0 := (HM.out.st.at_ (.head _) 0).trans rfl
  have hm1 := (HM.out.st.at_ (.head _) 1).trans rfl
  go_upto_region 3 with (first | (go_at_call 10; refine HS1.out.mono ?_; rintro e w2 ⟨A4, c4, rfl, HO1, hb⟩))
  have HB2 : Aside0 (Below w1.heap.size w1 (w2.alloc (.cells #[.int .i64 1, .int .i64 0, .int .i64 2, .slice A4 1 c4] 33 (0, 0)))) := ⟨((St.refl w1).nx hb.out |>.nx (below_alloc (Below.refl _ _) _)).hb⟩
  have HM2 := Aside0.mk ((HM.out.nx hb.out).add (.cells #[.int .i64 1, .int .i64 0, .int .i64 2, .slice A4 1 c4] 33 (0, 0)))
  have HO2 := Aside0.mk (HO1.out.below (below_alloc (Below.refl _ _) (.cells #[.int .i64 1, .int .i64 0, .int .i64 2, .slice A4 1 c4] 33 (0, 0))))
  clear HM HO1 hb hm0 hm1 HS1 HT1
  change Code.wp Tryd.prog _ _ _ (w2.alloc (.cells #[.int .i64 1, .int .i64 0, .int .i64 2, .slice A4 1 c4] 33 (0, 0)))
  generalize w2.heap.size = g2 at *
  generalize w2.alloc (.cells #[.int .i64 1, .int .i64 0, .int .i64 2, .slice A4 1 c4] 33 (0, 0)) = w3 at *
  have HRd3 := Aside0.mk (HRd.out.below HB2.out)
  clear HRd HB2
  have HT3 := Aside0.mk (HT.out.below HT.out.2 HM2.out.st.hb)
  have HS3 := Aside0.mk (solve_c0 (some ⟨gp, 0, none⟩) 2 w3 HT3.out HRd3.out)
  have hm0 := (HM2.out.st.at_ (g := gp + 1) (.tail _ (.head _)) 0).trans rfl
  have hm1 := (HM2.out.st.at_ (g := gp + 1) (.tail _ (.head _)) 1).trans rfl
  go_upto_region 4 with (first | (go_at_call 10; refine HS3.out.mono ?_; rintro e w4 ⟨A6, c6, rfl, HO3, hb⟩))
  have HB4 : Aside0 (Below w3.heap.size w3 (w4.alloc (.cells #[.int .i64 2, .int .i64 0, .int .i64 1, .slice A6 1 c6] 33 (0, 0)))) := ⟨((St.refl w3).nx hb.out |>.nx (below_alloc (Below.refl _ _) _)).hb⟩
  have HM4 := Aside0.mk ((HM2.out.nx hb.out).add (.cells #[.int .i64 2, .int .i64 0, .int .i64 1, .slice A6 1 c6] 33 (0, 0)))
  have HO4 := Aside0.mk (HO3.out.below (below_alloc (Below.refl _ _) (.cells #[.int .i64 2, .int .i64 0, .int .i64 1, .slice A6 1 c6] 33 (0, 0))))
  clear HM2 HO3 hb hm0 hm1 HS3 HT3
  change Code.wp Tryd.prog _ _ _ (w4.alloc (.cells #[.int .i64 2, .int .i64 0, .int .i64 1, .slice A6 1 c6] 33 (0, 0)))
  generalize w4.heap.size = g4 at *
  generalize w4.alloc (.cells #[.int .i64 2, .int .i64 0, .int .i64 1, .slice A6 1 c6] 33 (0, 0)) = w5 at *
  have HRd5 := Aside0.mk (HRd3.out.below HB4.out)
  have HO5 := Aside0.mk (HO2.out.below HB4.out)
  clear HRd3 HB4 HO2
  have HF : Aside0 (∀ (x : World), Below w5.heap.size w5 x → TabW x ∧ RdP x (some ⟨gp, 0, none⟩) 2 l0 ∧ OwnRp x w1.heap.size (.slice A4 1 c4) [rp 0 1] ∧ OwnRp x w3.heap.size (.slice A6 1 c6) [rp 1 0]) := ⟨fun x hb => ⟨HT.out.below HT.out.2 (HM4.out.nx hb).st.hb, HRd5.out.below hb, HO5.out.below hb, HO4.out.below hb⟩⟩
  have hm0 := (HM4.out.st.at_ (g := gp + 1) (.tail _ (.tail _ (.head _))) 0).trans rfl
  have hm1 := (HM4.out.st.at_ (g := gp + 1) (.tail _ (.tail _ (.head _))) 1).trans rfl
  have ha0 := (HM4.out.st.at_ (g := g2) (.tail _ (.head _)) 0).trans rfl
  have ha1 := (HM4.out.st.at_ (g := g2) (.tail _ (.head _)) 1).trans rfl
  have ha2 := (HM4.out.st.at_ (g := g2) (.tail _ (.head _)) 2).trans rfl
  have ha3 := (HM4.out.st.at_ (g := g2) (.tail _ (.head _)) 3).trans rfl
  have hb2 := (HM4.out.st.at_ (g := g4) (.head _) 2).trans rfl
  have HMx := Aside0.mk (fun (x : World) (hb : Below w5.heap.size w5 x) => HM4.out.nx hb)
  have HCk : Aside0 (∀ (gm wh : Int) (A' : Option Addr) (c' : Nat) (x : World), Below w5.heap.size w5 x → ((gm = 1 ∧ wh = 2 ∧ A' = A4 ∧ c' = c4) ∨ (gm = 2 ∧ wh = 1 ∧ A' = A6 ∧ c' = c6)) → Calls Tryd.prog 13 #[.agg #[.int .i64 2, .slice (some ⟨gp, 0, none⟩) 2 2], .agg #[.int .i64 gm, .int .i64 0, .int .i64 wh, .slice A' 1 c']] x fun e w' => e = .returned (.int .i64 0) ∧ Aside0 (Below x.heap.size x w')) := ⟨fun gm wh A' c' x hb h => by
    rcases h with ⟨rfl, rfl, rfl, rfl⟩ | ⟨rfl, rfl, rfl, rfl⟩
    · exact check_g0 _ _ _ _ _ x (HF.out x hb).1 (HF.out x hb).2.1 (HF.out x hb).2.2.1
    · exact check_c0 _ _ _ _ _ x (HF.out x hb).1 (HF.out x hb).2.1 (HF.out x hb).2.2.2⟩
  have HC3 := Aside0.mk (fun (x : World) (hb : Below w5.heap.size w5 x) => replies_c0 _ _ _ x (HF.out x hb).2.2.2)
  have HBx : Aside0 (Below w5.heap.size w5 w5) := ⟨Below.refl _ _⟩
  go_wp2_with (first | (go_at_call 13; refine (HCk.out _ _ _ _ _ HBx.out ?hP).mono ?_; (case hP => (first | exact .inl ⟨rfl, rfl, rfl, rfl⟩ | exact .inr ⟨rfl, rfl, rfl, rfl⟩)); rintro e w6 ⟨rfl, hb6⟩; replace HBx := Aside0.mk (below_then HBx.out HBx.out.size hb6.out); clear hb6; have HM6 := Aside0.mk (HMx.out _ HBx.out); have hn0 := (HM6.out.st.at_ (g := gp + 1) (.tail _ (.tail _ (.head _))) 0).trans rfl; have hn1 := (HM6.out.st.at_ (g := gp + 1) (.tail _ (.tail _ (.head _))) 1).trans rfl; have hb0 := (HM6.out.st.at_ (g := g4) (.head _) 0).trans rfl; have hb1 := (HM6.out.st.at_ (g := g4) (.head _) 1).trans rfl; have hb2 := (HM6.out.st.at_ (g := g4) (.head _) 2).trans rfl; have hb3 := (HM6.out.st.at_ (g := g4) (.head _) 3).trans rfl) | (go_at_call 22; refine (HC3.out _ HBx.out).mono ?_; rintro e w8 ⟨rfl, hb8⟩; replace HBx := Aside0.mk (below_then HBx.out HBx.out.size hb8.out)))
  go_ret
  exact ⟨rfl, ⟨(HMx.out _ HBx.out).st.hb⟩⟩
end Go.Proofs.YtgboplcjafmliaaDoor.G

/- What best computes against what Solve answers. -/
namespace Go.Proofs.YtgboplcjafmliaaDoor.G
open Go.RowKit Go.Proofs.YtgboplcjafmliaaDoorW.PrintWords Go.Proofs.YtgboplcjafmliaaDoorW.PrintLast Go.Proofs.YtgboplcjafmliaaDoorW.PrintMore
open Go.Proofs.YtgboplcjafmliaaDoor.PAll
set_option linter.unusedVariables false
set_option linter.unusedSimpArgs false
def EP (M : Nat) (l : List S54) (k : Int) (n : Nat) (who : Int) : Prop := (k = 2 → atkB l n n = true → who = 2) ∧ (¬(k = 2 ∧ atkB l n n = true) → 0 < (bst M l k 4000 [n] 4000).2 → (bst M l k 4000 [n] 4000).1 = who)
theorem up_map (line : List Nat) : (up line).map Int.toNat = line := by
  unfold up
  rw [List.map_map]
  conv => rhs; rw [← List.map_id line]
  exact List.map_congr_left (fun x _ => by simp)
theorem argE_of {M : Nat} {l : List S54} (hv : valE M l = 0) {game : Nat} (hg : game = 1 ∨ game = 2) {line : List Nat} (h : PL M (netOf M l) game line) : argE M l game (up line) = 0 := by
  unfold argE
  rw [if_neg (by simp [hv]), if_neg (by omega), if_neg, if_neg (by rw [up_length]; have := h.ne; omega), Int.toNat_natCast, Int.toNat_natCast, up_map, if_pos h.pl]
  rw [List.any_eq_true]
  rintro ⟨x, hx, h2⟩
  obtain ⟨y, hy, rfl⟩ := List.mem_map.1 hx
  have := h.lt y hy
  simp only [Bool.or_eq_true, decide_eq_true_iff] at h2
  omega
theorem mvs_iff {M : Nat} (hM : M ≤ 40) {l : List S54} (hIn : InR M l) (hv : valE M l = 0) {game : Nat} (hg : game = 1 ∨ game = 2) {line : List Nat} (h : PL M (netOf M l) game line) (a : Nat) : a ∈ mvs M l game line ↔ (legalM (netOf M l) game line).testBit a = true := by
  unfold mvs
  rw [if_pos (argE_of hv hg h), movS, Int.toNat_natCast, Int.toNat_natCast, up_map, mem_bl _ _ (p64 hM (legal_lt (netOf_ok hM hIn) game line h.lt))]
theorem bLoop_mine (rec : List Nat → Int → Int × Int) (mover other : Int) (line : List Nat) (h60 : line.length ≤ 60) (hub : ∀ a left, (rec (line ++ [a]) left).2 ≤ left - 1) (f : Int) :
    ∀ (L : List Nat) (left : Int), left ≤ f → (∃ a, a ∈ L ∧ ∀ left, left ≤ f → 0 < (rec (line ++ [a]) left).2 → (rec (line ++ [a]) left).1 = mover) → 0 < (bLoop rec mover other line L left).2 → (bLoop rec mover other line L left).1 = mover
  | [], left, _, h, _ => by obtain ⟨a, ha, _⟩ := h; cases ha
  | x :: L, left, hf, h, hp => by
    rw [bLoop, if_neg (by omega)] at hp ⊢
    by_cases hm : (rec (line ++ [x]) left).1 = mover
    · rw [if_pos hm]
    · rw [if_neg hm] at hp ⊢
      obtain ⟨a, ha, h2⟩ := h
      have hle := hub x left
      rcases List.mem_cons.1 ha with rfl | ha
      · have h3 := bLoop_ub rec mover other line hub L (rec (line ++ [a]) left).2
        exact absurd (h2 left hf (by omega)) hm
      · exact bLoop_mine rec mover other line h60 hub f L _ (by omega) ⟨a, ha, h2⟩ hp
theorem bLoop_other (rec : List Nat → Int → Int × Int) (mover other : Int) (hne : other ≠ mover) (line : List Nat) (h60 : line.length ≤ 60) (hub : ∀ a left, (rec (line ++ [a]) left).2 ≤ left - 1) (f : Int) :
    ∀ (L : List Nat) (left : Int), left ≤ f → (∀ a, a ∈ L → ∀ left, left ≤ f → 0 < (rec (line ++ [a]) left).2 → (rec (line ++ [a]) left).1 = other) → 0 < (bLoop rec mover other line L left).2 → (bLoop rec mover other line L left).1 = other
  | [], left, _, h, _ => rfl
  | x :: L, left, hf, h, hp => by
    rw [bLoop, if_neg (by omega)] at hp ⊢
    by_cases hm : (rec (line ++ [x]) left).1 = mover
    · rw [if_pos hm] at hp
      have := h x List.mem_cons_self left hf hp
      rw [hm] at this
      exact absurd this.symm hne
    · rw [if_neg hm] at hp ⊢
      have hle := hub x left
      exact bLoop_other rec mover other hne line h60 hub f L _ (by omega) (fun a ha => h a (List.mem_cons_of_mem _ ha)) hp
theorem bst_law {M : Nat} (hM : M ≤ 20) {l : List S54} (hIn : InR M l) (hv : valE M l = 0) {game : Nat} (hg : game = 1 ∨ game = 2) {par : Nat} {who : Int} (hwho : (par = 0 ∧ who = 1) ∨ (par = 1 ∧ who = 2)) {Good : List Nat → Prop} (hS : Strat M (netOf M l) game par Good) :
    ∀ (f : Nat) (line : List Nat) (left : Int), left ≤ f → Good line → 0 < (bst M l game f line left).2 → (bst M l game f line left).1 = who
  | 0, line, left, hf, _, hp => by
    have h : 0 < left - 1 := hp
    omega
  | f + 1, line, left, hf, hG, hp => by
    rw [bst] at hp ⊢
    by_cases hle : left - 1 ≤ 0
    · rw [if_pos hle] at hp
      have h : 0 < left - 1 := hp
      omega
    · rw [if_neg hle] at hp ⊢
      have hpl := hS.pl line hG
      have h60 : line.length ≤ 60 := by have := hpl.len hg; omega
      have hub : ∀ a left, (bst M l game f (line ++ [a]) left).2 ≤ left - 1 := fun a left => bst_ub _ _ _ _ _ _
      have ih := bst_law hM hIn hv hg hwho hS f
      by_cases hpar : line.length % 2 = par
      · obtain ⟨a, ha, hGa⟩ := hS.mine line hG hpar
        have hmo : moverOf line = who := by
          unfold moverOf
          rcases hwho with ⟨h1, h2⟩ | ⟨h1, h2⟩
          · rw [if_pos (by omega), h2]
          · rw [if_neg (by omega), h2]
        rw [hmo] at hp ⊢
        exact bLoop_mine _ _ _ line h60 hub (f : Int) _ _ (by omega) ⟨a, (mvs_iff (by omega) hIn hv hg hpl a).2 ha, fun left h1 h2 => ih _ left h1 hGa h2⟩ hp
      · have hot : otherOf line = who ∧ otherOf line ≠ moverOf line := by
          unfold moverOf otherOf
          rcases hwho with ⟨h1, h2⟩ | ⟨h1, h2⟩
          · rw [if_neg (by omega), if_neg (by omega), h2]; exact ⟨rfl, by decide⟩
          · rw [if_pos (by omega), if_pos (by omega), h2]; exact ⟨rfl, by decide⟩
        have h3 := bLoop_other (bst M l game f) (moverOf line) (otherOf line) hot.2 line h60 hub (f : Int) (mvs M l game line) (left - 1) (by omega) (fun a ha left h1 h2 => by
          rw [hot.1]
          exact ih _ left h1 (hS.other line hG hpar a ((mvs_iff (by omega) hIn hv hg hpl a).1 ha)) h2) hp
        rw [h3, hot.1]
theorem exh_pure {M : Nat} (hM : M ≤ 4) {l : List S54} (hIn : InR M l) (hv : valE M l = 0) {k : Int} {n : Nat} (hn : n < M) {who : Int} {m : Nat} {pk : Nat → Nat} (hS : SolP M (netOf M l) n k who m pk) : EP M l k n who := by
  have hok := netOf_ok (by omega : M ≤ 40) hIn
  have hat : atkB l n n = true ↔ At (netOf M l) n n := by
    rw [atkB_nat hIn, At]
    show _ ↔ (nth (netBy M l) n).testBit n = true
    rw [by_bit hIn]
  unfold EP
  cases hS with
  | gp _ h1 _ => exact ⟨fun h => absurd h (by decide), fun _ hp => bst_law (by omega) hIn hv (game := 1) (.inl rfl) (.inl ⟨rfl, rfl⟩) (P1.strat hok) 4000 [n] 4000 (by decide) (P1.one hok hn h1) hp⟩
  | go _ h1 _ => exact ⟨fun h => absurd h (by decide), fun _ hp => bst_law (by omega) hIn hv (game := 1) (.inl rfl) (.inr ⟨rfl, rfl⟩) (O1.strat hok) 4000 [n] 4000 (by decide) (O1.one hok hn h1) hp⟩
  | cp _ s h1 _ =>
    obtain ⟨hA, hsub⟩ := srch_adm hok (Nat.pow_lt_pow_right (by omega) hn) h1
    have hsn : s.testBit n = true := hsub n (by simp)
    refine ⟨fun _ h => absurd (hat.1 h) (hA.2.1 n n hsn hsn), fun _ hp => bst_law (by omega) hIn hv (game := 2) (.inr rfl) (.inl ⟨rfl, rfl⟩) (P2.strat hok hA) 4000 [n] 4000 (by decide) (P2.one hok hA hn hsn) hp⟩
  | co _ h1 => exact ⟨fun _ _ => rfl, fun h hp => bst_law (by omega) hIn hv (game := 2) (.inr rfl) (.inr ⟨rfl, rfl⟩) (O2.strat hok) 4000 [n] 4000 (by decide) (O2.one hok hn (fun h2 => h ⟨rfl, hat.2 h2⟩) h1) hp⟩
end Go.Proofs.YtgboplcjafmliaaDoor.G

/- Parts of GamePlayed: what Solve returns is in order; the state of the law. -/
namespace Go.Proofs.YtgboplcjafmliaaDoor.G
open Go.RowKit Go.Proofs.YtgboplcjafmliaaDoorW.PrintWords Go.Proofs.YtgboplcjafmliaaDoorW.PrintLast Go.Proofs.YtgboplcjafmliaaDoorW.PrintMore
open Go.Proofs.YtgboplcjafmliaaDoor.PAll
set_option linter.unusedVariables false
set_option linter.unusedSimpArgs false

theorem sorted_map (m : Nat) (pk : Nat → Nat) : SortR ((bl m).map fun x => rp x (pk x)) := by
  unfold SortR
  rw [List.pairwise_map]
  refine (bl_sorted m).imp_of_mem fun {a b} ha hb hab => ?_
  have h1 := bl_lt m a ha
  have h2 := bl_lt m b hb
  have x1 : (Fin.ofNat 64 a).val = a := Nat.mod_eq_of_lt h1
  have x2 : (Fin.ofNat 64 b).val = b := Nat.mod_eq_of_lt h2
  show (Fin.ofNat 64 a).val < (Fin.ofNat 64 b).val
  omega
theorem sol_ok {M : Nat} (hM : M ≤ 40) {l : List S54} (hIn : InR M l) {root m : Nat} (hr : root < M) (hm : m < 2 ^ M) {game who : Int} {pk : Nat → Nat} (hg : game = 1 ∨ game = 2) (hS : SolP M (netOf M l) root game who m pk) : StrOk M game root who ((bl m).map fun x => rp x (pk x)) := by
  have hok := netOf_ok hM hIn
  have hw : who = 1 ∨ who = 2 := by cases hS <;> simp
  have hpk : ∀ x, x ∈ bl m → pk x < M := by
    intro x hx
    have hb := (mem_bl m x (p64 hM hm)).1 hx
    cases hS with
    | gp _ h1 h2 => exact pickG_lt hok _ (RcA.lt hok ((h2 x).1 hb))
    | go _ h1 h2 =>
      have h3 := Rco_out hok hr h1 ((h2 x).1 hb)
      exact bit_lt hM (hok.lb _) (qO_spec hok h3.1 h3.2).1
    | cp _ s h1 h2 =>
      have h3 := srch_some hok _ _ _ (Nat.pow_lt_pow_right (by omega) hr) h1
      exact bit_lt hM h3.1 (pickS_in hok (RcA_hit hok h3.1 h3.2.2.2 (h3.2.1 root (by simp)) ((h2 x).1 hb))).2
    | co pk h1 => simp at hb
  refine ⟨hr, hg, hw, sorted_map m pk, fun p hp => ?_⟩
  obtain ⟨x, hx, rfl⟩ := List.mem_map.1 hp
  have h1 := bl_in hM hm hx
  have h2 := hpk x hx
  have x1 : (Fin.ofNat 64 x).val = x := Nat.mod_eq_of_lt (by omega)
  have x2 : (Fin.ofNat 64 (pk x)).val = pk x := Nat.mod_eq_of_lt (by omega)
  show (Fin.ofNat 64 x).val < M ∧ (Fin.ofNat 64 (pk x)).val < M
  omega
/-- Solve on a valid graph: a strategy in order. -/
theorem solve_ok {M : Nat} (hM : M ≤ 8) (l : List S54) (hl : l.length < 2 ^ 44) (hv : valE M l = 0) (A : Option Addr) (c : Nat) (k : Int) (hk : k = 1 ∨ k = 2) (n : Int) (hn0 : 0 ≤ n) (hn : n < M) (w : World) (hT : TabW w) (hr : RdP w A c l) :
    Calls Tryd.prog 10 #[.agg #[.int .i64 (M : Int), .slice A l.length c], .int .i64 k, .int .i64 n] w fun e w' => ∃ (game root : Nat) (who : Int) (rs : List Rp) (A4 : Option Addr) (c4 : Nat), e = .returned (.tuple #[.agg #[.int .i64 (game : Int), .int .i64 (root : Int), .int .i64 who, .slice A4 rs.length c4], .int .i64 0]) ∧ Aside0 (StrOk M game root who rs) ∧ Aside0 (OwnRp w' w.heap.size (.slice A4 rs.length c4) rs) ∧ Aside0 (Below w.heap.size w w') :=
  (solve_any (M : Int) l hl A c k n w hT hr).mono fun e w' ⟨h, hb⟩ => by
    have hs : solE M l k n = 0 := by
      unfold solE
      rw [if_neg (by simp [hv]), if_neg (by simp [hk]), if_neg (by omega), if_neg (by omega)]
    rcases h with ⟨h1, _⟩ | ⟨_, M', r', who, A7, c7, m, pk, hM', hr', hM40, hrM, hIn', hm, hS, he, ho⟩
    · exact absurd hs h1
    · have e1 : M' = M := by omega
      subst e1
      have hok := sol_ok hM40 hIn' hrM hm hk hS
      refine ⟨k.toNat, r', who, (bl m).map fun x => rp x (pk x), A7, c7, ?_, ⟨?_⟩, ⟨?_⟩, hb⟩
      · rw [he, List.length_map, hr', Int.toNat_of_nonneg (by omega)]
      · rw [Int.toNat_of_nonneg (by omega)]; exact hok
      · rw [List.length_map]; exact ho
/-- The source, the graph, and blocks. -/
structure JG (w : World) (g : Nat) (L : List Int) (l : List S54) (A : Option Addr) (c base : Nat) (bs : List (Nat × Obj)) (x : World) : Prop where
  src : SrcS w g L x
  b0 : Below w.heap.size w x
  st : ∀ p, p ∈ bs → x.heap[p.1]? = some p.2
  ty : ∀ p, p ∈ bs → ∃ cs t, p.2 = .cells cs t (0, 0) ∧ t ≠ 57
  own : OwnP x base (.slice A l.length c) l
variable {w x y : World} {g : Nat} {L : List Int} {l : List S54} {A : Option Addr} {c base : Nat} {bs : List (Nat × Obj)}
theorem JG.nx (h : JG w g L l A c base bs x) (hb : Below x.heap.size x y) : JG w g L l A c base bs y where
  src := h.src.nx hb
  b0 := below_then h.b0 h.b0.size hb
  st := fun p hp => blk_grown (h.st p hp) (grown_of_below hb none) (by simp)
  ty := h.ty
  own := pw_own_below h.own hb
theorem JG.call (h : JG w g L l A c base bs x) (hs : SrcS w g L y) (hb : Below w.heap.size w y) (hk : KeepBut x y g none) : JG w g L l A c base bs y where
  src := hs
  b0 := hb
  st := fun p hp => by
    obtain ⟨cs, t, e, ht⟩ := h.ty p hp
    have h1 := h.st p hp
    rw [e] at h1 ⊢
    exact hk.blk h1 (h.src.ne h1 ht) (by simp)
  ty := h.ty
  own := by
    obtain ⟨h3, h4⟩ := h.own
    refine ⟨h3, ?_⟩
    rcases h4 with h4 | ⟨b, cap, cur, e, hb, hk1, r⟩
    · exact .inl h4
    · exact .inr ⟨b, cap, cur, e, hb, hk.blk hk1 (h.src.ne hk1 (by decide)) (by simp), r⟩
theorem JG.add (h : JG w g L l A c base bs x) (cs : Array Value) (t : TypeId) (ht : t ≠ 57) : JG w g L l A c base ((x.heap.size, .cells cs t (0, 0)) :: bs) (x.alloc (.cells cs t)) where
  src := h.src.nx (below_alloc (Below.refl _ _) _)
  b0 := below_alloc h.b0 _
  st := fun p hp => by
    rcases List.mem_cons.1 hp with rfl | hp
    · exact blk_new x _
    · exact blk_grown (h.st p hp) (World.grownBy_alloc _ _ none) (by simp)
  ty := fun p hp => by
    rcases List.mem_cons.1 hp with rfl | hp
    · exact ⟨cs, t, rfl, ht⟩
    · exact h.ty p hp
  own := pw_own_below h.own (below_alloc (Below.refl _ _) _)
theorem JG.drew (h : JG w g L l A c base bs x) : JG w g L l A c base bs x.drew := h.nx (Below.refl _ _).drew
theorem OwnP.rd {A : Option Addr} {c : Nat} {l : List S54} {x : World} {base : Nat} (h : OwnP x base (.slice A l.length c) l) : RdP x A c l := by
  obtain ⟨A', c', e, hr⟩ := h.reads
  injection e with e1 e2 e3
  subst e1 e3
  exact hr
theorem OwnRp.keep {rs : List Rp} {v : Value} {b7 : Nat} (ho : OwnRp x b7 v rs) (hs : SrcS w g L x) (hk : KeepBut x y g none) : OwnRp y b7 v rs := by
  obtain ⟨h3, h4⟩ := ho
  refine ⟨h3, ?_⟩
  rcases h4 with h4 | ⟨b, cap, cur, e, hb, hk1, r⟩
  · exact .inl h4
  · exact .inr ⟨b, cap, cur, e, hb, hk.blk hk1 (hs.ne hk1 (by decide)) (by simp), r⟩
theorem JG.ck (h : JG w g L l A c base bs x) : ∀ W, KeepBut x W g none → Kd.C k54 W A l.length l := fun W hk => by
  obtain ⟨h3, h4⟩ := h.own
  have : OwnP W base (.slice A l.length c) l := by
    refine ⟨h3, ?_⟩
    rcases h4 with h4 | ⟨b, cap, cur, e, hb, hk1, r⟩
    · exact .inl h4
    · exact .inr ⟨b, cap, cur, e, hb, hk.blk hk1 (h.src.ne hk1 (by decide)) (by simp), r⟩
  exact (OwnP.rd this).2
theorem JG.kp {b : Nat} {cs cs' : Array Value} (h : JG w g L l A c base ((b, .cells cs 33 (0, 0)) :: bs) x) (k : Kp b b x y) (hge : w.heap.size ≤ b) (hbs : ∀ p, p ∈ bs → p.1 ≠ b) (hy : y.heap[b]? = some (.cells cs' 33 (0, 0))) : JG w g L l A c base ((b, .cells cs' 33 (0, 0)) :: bs) y where
  src := by
    obtain ⟨a, ⟨A0, c0, hb, hg, hr0⟩, h1⟩ := h.src
    exact ⟨a, ⟨A0, c0, k.blk hb (h.st _ (.head _)) (h.st _ (.head _)) (by decide) (by decide), hg, hr0⟩, h1⟩
  b0 := ⟨k.os.trans h.b0.os, k.tape.trans h.b0.tape, k.output.trans h.b0.output, Nat.le_trans h.b0.size k.size, fun j hj => (k.block j (Nat.lt_of_lt_of_le hj h.b0.size) (by omega) (by omega)).trans (h.b0.block j hj)⟩
  st := fun p hp => by
    rcases List.mem_cons.1 hp with rfl | hp
    · exact hy
    · have h1 := h.st p (.tail _ hp)
      exact (k.block p.1 (blk_lt h1) (hbs p hp) (hbs p hp)).trans h1
  ty := fun p hp => by
    rcases List.mem_cons.1 hp with rfl | hp
    · exact ⟨_, _, rfl, by decide⟩
    · exact h.ty p (.tail _ hp)
  own := by
    obtain ⟨h3, h4⟩ := h.own
    refine ⟨h3, ?_⟩
    rcases h4 with h4 | ⟨b', cap, cur, e, hb, hk1, r⟩
    · exact .inl h4
    · exact .inr ⟨b', cap, cur, e, hb, k.blk hk1 (h.st _ (.head _)) (h.st _ (.head _)) (by decide) (by decide), r⟩
def set4 (x : World) (b : Nat) (v0 v1 v2 v3 : Value) : World := (((x.setCell ⟨b, 0, none⟩ v0).setCell ⟨b, 1, none⟩ v1).setCell ⟨b, 2, none⟩ v2).setCell ⟨b, 3, none⟩ v3
theorem set4_kp (x : World) (b : Nat) (v0 v1 v2 v3 : Value) : Kp b b x (set4 x b v0 v1 v2 v3) :=
  (((Kp.setg x 0 v0).trans (Kp.setg _ 1 v1)).trans (Kp.setg _ 2 v2)).trans (Kp.setg _ 3 v3)
theorem set4_at {x : World} {b : Nat} {u0 u1 u2 u3 : Value} (v0 v1 v2 v3 : Value) (h : x.heap[b]? = some (.cells #[u0, u1, u2, u3] 33 (0, 0))) : (set4 x b v0 v1 v2 v3).heap[b]? = some (.cells #[v0, v1, v2, v3] 33 (0, 0)) := by
  unfold set4
  have h1 := heap_setCell_same x b 0 _ 33 v0 h
  have h2 := heap_setCell_same _ b 1 _ 33 v1 h1
  have h3 := heap_setCell_same _ b 2 _ 33 v2 h2
  have h4 := heap_setCell_same _ b 3 _ 33 v3 h3
  exact h4
theorem JG.set4 {b : Nat} {u0 u1 u2 u3 : Value} (h : JG w g L l A c base ((b, .cells #[u0, u1, u2, u3] 33 (0, 0)) :: bs) x) (hge : w.heap.size ≤ b) (hbs : ∀ p, p ∈ bs → p.1 ≠ b) (v0 v1 v2 v3 : Value) : JG w g L l A c base ((b, .cells #[v0, v1, v2, v3] 33 (0, 0)) :: bs) (G.set4 x b v0 v1 v2 v3) :=
  h.kp (set4_kp x b v0 v1 v2 v3) hge hbs (set4_at v0 v1 v2 v3 (h.st _ (.head _)))
/-- What the loop over the two strategies keeps. -/
structure PX (w : World) (l : List S54) (A : Option Addr) (c base : Nat) (v1 v2 : Value) (rs1 rs2 : List Rp) (bb1 bb2 : Nat) (bs : List (Nat × Obj)) (x : World) : Prop where
  st : St w bs x
  own : OwnP x base (.slice A l.length c) l
  r1 : OwnRp x bb1 v1 rs1
  r2 : OwnRp x bb2 v2 rs2
theorem PX.nx {v1 v2 : Value} {rs1 rs2 : List Rp} {bb1 bb2 : Nat} (h : PX w l A c base v1 v2 rs1 rs2 bb1 bb2 bs x) (hb : Below x.heap.size x y) : PX w l A c base v1 v2 rs1 rs2 bb1 bb2 bs y :=
  ⟨h.st.nx hb, pw_own_below h.own hb, h.r1.below hb, h.r2.below hb⟩
/-- Who wins a line behind which there is no legal move. -/
theorem win_end {M : Nat} {l : List S54} (hv : valE M l = 0) {gm : Nat} (hg : gm = 1 ∨ gm = 2) {par : Nat} {wh : Int} (hpar : (par = 0 ∧ wh = 1) ∨ (par = 1 ∧ wh = 2)) {rs : List Rp} {Good : List Nat → Prop} (hS : StratR M (netOf M l) gm par rs Good) {z : List Nat} (hz : Good z) (h0 : legalM (netOf M l) gm z = 0) :
    winE M l gm (up z) = wh ∧ argE M l gm (up z) = 0 ∧ z.length ≤ 2 * M + 1 := by
  have hpl := hS.pl z hz
  have ha := argE_of hv hg hpl
  refine ⟨?_, ha, hpl.len hg⟩
  have hne : z.length % 2 ≠ par := fun e => by
    obtain ⟨a, _, h1, _⟩ := hS.mine z hz e
    rw [h0] at h1
    simp at h1
  have hm : (bl (movS M l gm (up z))).length = 0 := by
    unfold movS
    rw [Int.toNat_natCast, Int.toNat_natCast, up_map, h0]
    rfl
  unfold winE
  rw [if_neg (by rw [ha, hm]; simp), up_length]
  rcases hpar with ⟨h1, h2⟩ | ⟨h1, h2⟩
  · rw [if_pos (by omega), h2]
  · rw [if_neg (by omega), h2]
end Go.Proofs.YtgboplcjafmliaaDoor.G

/- The walk of GamePlayed. -/
namespace Go.Proofs.YtgboplcjafmliaaDoor.G
open Go.RowKit Go.Proofs.YtgboplcjafmliaaDoorW.PrintWords Go.Proofs.YtgboplcjafmliaaDoorW.PrintLast Go.Proofs.YtgboplcjafmliaaDoorW.PrintMore
open Go.Proofs.YtgboplcjafmliaaDoor.PAll
set_option linter.unusedVariables false
set_option linter.unusedSimpArgs false
set_option maxHeartbeats 8000000 in
set_option maxRecDepth 100000 in
theorem played_law (LL : List Int) (A0 : Option Addr) (c0 : Nat) (P : List Int) (Ap : Option Addr) (cp : Nat) (w : World) (hT : TabW w) (hr : Kd.C (Kd.int .i64) w A0 LL.length LL) (hc : LL.length ≤ c0) (hp : RdI w Ap cp P) (hP : P.length < 2 ^ 47) :
    Calls Tryd.prog 5 #[.slice A0 LL.length c0, .slice Ap P.length cp] w fun e w' => e = .returned (.bool true) ∧ Aside0 (Below w.heap.size w w') := by
  have HT := Aside0.mk hT
  have HP := Aside0.mk hp
  have HN := Aside0.mk (srcNew_any LL A0 c0 w hr hc w (Below.refl _ _))
  clear hT hr hc hp
  go_enter Tryd.func5, Tryd.ntmps5
  go_upto_region 2 with (first | (go_at_call 8; refine HN.out.mono ?_; rintro e w1 ⟨g, L', rfl, HS, HB1, _⟩))
  have HG := Aside0.mk (gen_any w g L' 8 (by decide) (by decide) w1 HS.out HB1.out HB1.out.size)
  clear HN HS
  go_upto_region 3 with (first | (go_at_call 9; refine HG.out.mono ?_; rintro e w2 ⟨M, A, c, l, rfl, hM1, hM8, hIn, hv, hl, HO, HS2, HB2, _⟩))
  have HJ0 : Aside0 (JG w g L' l A c w1.heap.size [] w2) := ⟨⟨HS2.out, HB2.out, fun p hp => by (cases hp), fun p hp => by (cases hp), HO.out⟩⟩
  have HJ : Aside0 (JG w g L' l A c w1.heap.size [(w2.heap.size, .cells #[.int .i64 (M : Int), .slice A l.length c] 24 (0, 0))] (w2.alloc (.cells #[.int .i64 (M : Int), .slice A l.length c] 24))) := ⟨HJ0.out.add _ 24 (by decide)⟩
  clear HG HB1 HB2 HO HS2 HJ0
  change Code.wp Tryd.prog _ _ _ (w2.alloc (.cells #[.int .i64 (M : Int), .slice A l.length c] 24))
  generalize w2.heap.size = b6 at *
  generalize w2.alloc (.cells #[.int .i64 (M : Int), .slice A l.length c] 24) = w3 at *
  generalize w1.heap.size = base at *
  have HIn := Aside0.mk hIn
  have Hv := Aside0.mk hv
  clear hIn hv
  have hM1i : (1 : Int) ≤ (M : Int) := by omega
  have hMi : (M : Int) < 2 ^ 40 := by omega
  have hc0 := (blk_cell (HJ.out.st _ (.head _)) 0).trans rfl
  have hc1 := (blk_cell (HJ.out.st _ (.head _)) 1).trans rfl
  have HF : Aside0 (∀ (x : World) (bs : List (Nat × Obj)), JG w g L' l A c base bs x → (b6, .cells #[.int .i64 (M : Int), .slice A l.length c] 24 (0, 0)) ∈ bs → x.cell? ⟨b6, 0, none⟩ = some (.int .i64 (M : Int)) ∧ x.cell? ⟨b6, 1, none⟩ = some (.slice A l.length c)) := ⟨fun x bs h hm => ⟨(blk_cell (h.st _ hm) 0).trans rfl, (blk_cell (h.st _ hm) 1).trans rfl⟩⟩
  go_cut [7, 8] (fun s7 s8 wx => ∃ (b7 : Nat) (game root : Nat) (who : Int) (rs : List Rp) (A4 : Option Addr) (c4 bb : Nat), s7 = .pointer (some ⟨b7, 0, none⟩) ∧ s8 = .int .i64 0 ∧ Aside0 (StrOk M game root who rs) ∧ Aside0 (JG w g L' l A c base [(b7, .cells #[.int .i64 (game : Int), .int .i64 (root : Int), .int .i64 who, .slice A4 rs.length c4] 33 (0, 0)), (b6, .cells #[.int .i64 (M : Int), .slice A l.length c] 24 (0, 0))] wx) ∧ Aside0 (OwnRp wx bb (.slice A4 rs.length c4) rs))
  case first =>
    let SM : Obj := .cells #[.int .i64 0, .int .i64 0, .int .i64 0, .slice none 0 0] 33 (0, 0)
    have HX := Aside0.mk (HJ.out.add #[.int .i64 0, .int .i64 0, .int .i64 0, .slice none 0 0] 33 (by decide))
    rename_i J9 K9 hJ9 hK9
    go_region_held3 (fun x => x.cell? ⟨b6, 0, none⟩ = some (.int .i64 (M : Int)) ∧ x.cell? ⟨b6, 1, none⟩ = some (.slice A l.length c)) (first | go_keep | exact HF.out _ _ HJ.out.drew (.head _) | exact HF.out _ _ HJ.out (.head _) | exact HF.out _ _ HX.out (.tail _ (.head _)) | exact HF.out _ _ HJ5.out (.head _) | exact HF.out _ _ (HJ5.out.add #[.int .i64 0, .int .i64 0, .int .i64 0, .slice none 0 0] 33 (by decide)) (.tail _ (.head _)) | exact HF.out _ _ HX5.out (.tail _ (.head _)) | exact HF.out _ _ HJ6.out (.head _) | exact HF.out _ _ (HJ6.out.add #[.int .i64 0, .int .i64 0, .int .i64 0, .slice none 0 0] 33 (by decide)) (.tail _ (.head _)) | exact HF.out _ _ HX6.out (.tail _ (.head _)) | exact HF.out _ _ HY6.out (.tail _ (.head _)) | exact HF.out _ _ HJ7.out (.head _) | exact HF.out _ _ (HJ7.out.add #[.int .i64 (game : Int), .int .i64 (root : Int), .int .i64 who, .slice A4 rs.length c4] 33 (by decide)) (.tail _ (.head _)) | exact HF.out _ _ HX7.out (.tail _ (.head _)) | exact HF.out _ _ HY7.out (.tail _ (.head _)) | exact HF.out _ _ HZ7.out (.tail _ (.head _)) | exact HF.out _ _ HW7.out (.tail _ (.head _)))
      (first | (go_at_call 17; first | ((with_reducible refine (srcR_any w g L' 1 2 (by omega) (by omega) (by omega) _ HJ.out.drew.src HJ.out.drew.b0).mono ?_); rintro e w5 ⟨r1, rfl, hr1, hr2, HS5, HB5, HK5⟩; have HJ5 := Aside0.mk (HJ.out.drew.call HS5.out HB5.out HK5.out)) | ((with_reducible refine (srcR_any w g L' 1 2 (by omega) (by omega) (by omega) _ HX.out.drew.src HX.out.drew.b0).mono ?_); rintro e w5 ⟨r1, rfl, hr1, hr2, HS5, HB5, HK5⟩; have HX5 := Aside0.mk (HX.out.drew.call HS5.out HB5.out HK5.out))) | (go_at_call 18; first | ((with_reducible refine (srcN_any w g L' (M : Int) hM1i hMi _ HJ5.out.src HJ5.out.b0).mono ?_); rintro e w6 ⟨r2, rfl, hs1, hs2, HS6, HB6, HK6⟩; have HJ6 := Aside0.mk (HJ5.out.call HS6.out HB6.out HK6.out)) | ((with_reducible refine (srcN_any w g L' (M : Int) hM1i hMi _ HX5.out.src HX5.out.b0).mono ?_); rintro e w6 ⟨r2, rfl, hs1, hs2, HS6, HB6, HK6⟩; have HX6 := Aside0.mk (HX5.out.call HS6.out HB6.out HK6.out)) | ((with_reducible refine (srcN_any w g L' (M : Int) hM1i hMi _ (HJ5.out.add #[.int .i64 0, .int .i64 0, .int .i64 0, .slice none 0 0] 33 (by decide)).src (HJ5.out.add #[.int .i64 0, .int .i64 0, .int .i64 0, .slice none 0 0] 33 (by decide)).b0).mono ?_); rintro e w6 ⟨r2, rfl, hs1, hs2, HS6, HB6, HK6⟩; have HY6 := Aside0.mk ((HJ5.out.add #[.int .i64 0, .int .i64 0, .int .i64 0, .slice none 0 0] 33 (by decide)).call HS6.out HB6.out HK6.out))) | (go_at_call 10; first | ((refine (solve_ok hM8 l (by omega) Hv.out A c r1 (by omega) r2 hs1 hs2 _ (HT.out.below HT.out.2 HJ6.out.b0) (OwnP.rd HJ6.out.own)).mono ?_); rintro e w7 ⟨game, root, who, rs, A4, c4, rfl, HOk, HO7, hb⟩; have HJ7 := Aside0.mk (HJ6.out.nx hb.out)) | ((refine (solve_ok hM8 l (by omega) Hv.out A c r1 (by omega) r2 hs1 hs2 _ (HT.out.below HT.out.2 HX6.out.b0) (OwnP.rd HX6.out.own)).mono ?_); rintro e w7 ⟨game, root, who, rs, A4, c4, rfl, HOk, HO7, hb⟩; have HX7 := Aside0.mk (HX6.out.nx hb.out); have hbk := HX7.out.st (w3.heap.size, _) (.head _); have hge : w.heap.size ≤ w3.heap.size := HJ.out.b0.size; have hbs : ∀ p, p ∈ [(b6, Obj.cells #[.int .i64 (M : Int), .slice A l.length c] 24 (0, 0))] → p.1 ≠ w3.heap.size := (fun p hp => (by rw [List.mem_singleton] at hp; subst hp; exact Nat.ne_of_lt (blk_lt (HJ.out.st _ (.head _))))); have HW7 := Aside0.mk (HX7.out.set4 hge hbs (.int .i64 (game : Int)) (.int .i64 (root : Int)) (.int .i64 who) (.slice A4 rs.length c4)); unfold G.set4 at HW7; have hz0 := (blk_cell hbk 0).trans rfl; have hf0 : w7.frozen? ⟨w3.heap.size, 0, none⟩ = false := blk_frozen hbk 0; have hz1 := (blk_cell hbk 1).trans rfl; have hf1 : w7.frozen? ⟨w3.heap.size, 1, none⟩ = false := blk_frozen hbk 1; have hz2 := (blk_cell hbk 2).trans rfl; have hf2 : w7.frozen? ⟨w3.heap.size, 2, none⟩ = false := blk_frozen hbk 2; have hz3 := (blk_cell hbk 3).trans rfl; have hf3 : w7.frozen? ⟨w3.heap.size, 3, none⟩ = false := blk_frozen hbk 3) | ((refine (solve_ok hM8 l (by omega) Hv.out A c r1 (by omega) r2 hs1 hs2 _ (HT.out.below HT.out.2 HY6.out.b0) (OwnP.rd HY6.out.own)).mono ?_); rintro e w7 ⟨game, root, who, rs, A4, c4, rfl, HOk, HO7, hb⟩; have HY7 := Aside0.mk (HY6.out.nx hb.out); have hbk := HY7.out.st (w5.heap.size, _) (.head _); have hge : w.heap.size ≤ w5.heap.size := HJ5.out.b0.size; have hbs : ∀ p, p ∈ [(b6, Obj.cells #[.int .i64 (M : Int), .slice A l.length c] 24 (0, 0))] → p.1 ≠ w5.heap.size := (fun p hp => (by rw [List.mem_singleton] at hp; subst hp; exact Nat.ne_of_lt (blk_lt (HJ5.out.st _ (.head _))))); have HW7 := Aside0.mk (HY7.out.set4 hge hbs (.int .i64 (game : Int)) (.int .i64 (root : Int)) (.int .i64 who) (.slice A4 rs.length c4)); unfold G.set4 at HW7; have hz0 := (blk_cell hbk 0).trans rfl; have hf0 : w7.frozen? ⟨w5.heap.size, 0, none⟩ = false := blk_frozen hbk 0; have hz1 := (blk_cell hbk 1).trans rfl; have hf1 : w7.frozen? ⟨w5.heap.size, 1, none⟩ = false := blk_frozen hbk 1; have hz2 := (blk_cell hbk 2).trans rfl; have hf2 : w7.frozen? ⟨w5.heap.size, 2, none⟩ = false := blk_frozen hbk 2; have hz3 := (blk_cell hbk 3).trans rfl; have hf3 : w7.frozen? ⟨w5.heap.size, 3, none⟩ = false := blk_frozen hbk 3) | ((refine (solve_ok hM8 l (by omega) Hv.out A c r1 (by omega) r2 hs1 hs2 _ (HT.out.below HT.out.2 (HJ6.out.add #[.int .i64 0, .int .i64 0, .int .i64 0, .slice none 0 0] 33 (by decide)).b0) (OwnP.rd (HJ6.out.add #[.int .i64 0, .int .i64 0, .int .i64 0, .slice none 0 0] 33 (by decide)).own)).mono ?_); rintro e w7 ⟨game, root, who, rs, A4, c4, rfl, HOk, HO7, hb⟩; have HZ7 := Aside0.mk ((HJ6.out.add #[.int .i64 0, .int .i64 0, .int .i64 0, .slice none 0 0] 33 (by decide)).nx hb.out); have hbk := HZ7.out.st (w6.heap.size, _) (.head _); have hge : w.heap.size ≤ w6.heap.size := HJ6.out.b0.size; have hbs : ∀ p, p ∈ [(b6, Obj.cells #[.int .i64 (M : Int), .slice A l.length c] 24 (0, 0))] → p.1 ≠ w6.heap.size := (fun p hp => (by rw [List.mem_singleton] at hp; subst hp; exact Nat.ne_of_lt (blk_lt (HJ6.out.st _ (.head _))))); have HW7 := Aside0.mk (HZ7.out.set4 hge hbs (.int .i64 (game : Int)) (.int .i64 (root : Int)) (.int .i64 who) (.slice A4 rs.length c4)); unfold G.set4 at HW7; have hz0 := (blk_cell hbk 0).trans rfl; have hf0 : w7.frozen? ⟨w6.heap.size, 0, none⟩ = false := blk_frozen hbk 0; have hz1 := (blk_cell hbk 1).trans rfl; have hf1 : w7.frozen? ⟨w6.heap.size, 1, none⟩ = false := blk_frozen hbk 1; have hz2 := (blk_cell hbk 2).trans rfl; have hf2 : w7.frozen? ⟨w6.heap.size, 2, none⟩ = false := blk_frozen hbk 2; have hz3 := (blk_cell hbk 3).trans rfl; have hf3 : w7.frozen? ⟨w6.heap.size, 3, none⟩ = false := blk_frozen hbk 3)))
    all_goals
      refine hK9 _ _ (Met.intro (hJ9 _ _ ?_))
      (repeat apply Exists.intro)
      refine ⟨?_, rfl⟩
      first
        | exact ⟨_, game, root, who, rs, A4, c4, _, rfl, rfl, HOk, ⟨HJ7.out.add _ 33 (by decide)⟩, ⟨HO7.out.below (below_alloc (Below.refl _ _) _)⟩⟩
        | exact ⟨_, game, root, who, rs, A4, c4, _, rfl, rfl, HOk, HW7, ⟨HO7.out.kp (set4_kp _ _ _ _ _ _) hbk hbk (by decide) (by decide)⟩⟩
  case rest =>
    obtain ⟨b7, game, root, who, rs, A4, c4, bb, rfl, rfl, HOk, HJ2, HO⟩ := hcut
    clear HJ hc0 hc1 HF
    by_cases hpl : 300 < P.length
    · have p1 : decide ((300 : Int) < (P.length : Int)) = true := decide_eq_true (by omega)
      have HA := Aside0.mk (awake_any wc (HT.out.below HT.out.2 HJ2.out.b0))
      clear hpl
      go_wp2_with (first | (go_at_call 7; refine HA.out.mono ?_; rintro e w9 ⟨rfl, hb⟩))
      go_ret
      exact ⟨rfl, ⟨(HJ2.out.nx hb.out).b0⟩⟩
    · have p1 : decide ((300 : Int) < (P.length : Int)) = false := decide_eq_false (by omega)
      go_upto_region 6 with fail
      have hcA : l.length ≤ c := (OwnP.rd HJ2.out.own).1
      have HF2 : Aside0 (∀ (x : World) (bs : List (Nat × Obj)), JG w g L' l A c base bs x → (b7, .cells #[.int .i64 (game : Int), .int .i64 (root : Int), .int .i64 who, .slice A4 rs.length c4] 33 (0, 0)) ∈ bs → (b6, .cells #[.int .i64 (M : Int), .slice A l.length c] 24 (0, 0)) ∈ bs → x.cell? ⟨b7, 0, none⟩ = some (.int .i64 (game : Int)) ∧ x.cell? ⟨b7, 1, none⟩ = some (.int .i64 (root : Int)) ∧ x.cell? ⟨b7, 2, none⟩ = some (.int .i64 who) ∧ x.cell? ⟨b7, 3, none⟩ = some (.slice A4 rs.length c4) ∧ x.cell? ⟨b6, 0, none⟩ = some (.int .i64 (M : Int)) ∧ x.cell? ⟨b6, 1, none⟩ = some (.slice A l.length c)) := ⟨fun x bs h h7 h6 => ⟨(blk_cell (h.st _ h7) 0).trans rfl, (blk_cell (h.st _ h7) 1).trans rfl, (blk_cell (h.st _ h7) 2).trans rfl, (blk_cell (h.st _ h7) 3).trans rfl, (blk_cell (h.st _ h6) 0).trans rfl, (blk_cell (h.st _ h6) 1).trans rfl⟩⟩
      obtain ⟨hd0, hd1, hd2, hd3, he0, he1⟩ := HF2.out _ _ HJ2.out (.head _) (.tail _ (.head _))
      go_region_held3 (fun x => x.cell? ⟨b7, 0, none⟩ = some (.int .i64 (game : Int)) ∧ x.cell? ⟨b7, 1, none⟩ = some (.int .i64 (root : Int)) ∧ x.cell? ⟨b7, 2, none⟩ = some (.int .i64 who) ∧ x.cell? ⟨b7, 3, none⟩ = some (.slice A4 rs.length c4) ∧ x.cell? ⟨b6, 0, none⟩ = some (.int .i64 (M : Int)) ∧ x.cell? ⟨b6, 1, none⟩ = some (.slice A l.length c)) (first | go_keep | exact HF2.out _ _ HJ2.out (.head _) (.tail _ (.head _)) | exact HF2.out _ _ HJ5.out (.head _) (.tail _ (.head _)) | exact HF2.out _ _ (HJ5.out.add _ 33 (by decide)) (.tail _ (.head _)) (.tail _ (.tail _ (.head _))))
        (first | (go_at_call 19; refine (strat_any w g L' M hM1 (by omega) l (by omega) A c hcA _ HJ2.out.drew.src HJ2.out.drew.b0 HJ2.out.drew.ck).mono ?_; rintro e w5 ⟨game2, root2, who2, rs2, A5, c5, rfl, HOk2, HO2, HS5, HB5, HK5⟩; have HJ5 := Aside0.mk (HJ2.out.drew.call HS5.out HB5.out HK5.out); have HO1 := Aside0.mk (OwnRp.keep (HO.out.below (Below.refl _ _).drew) HJ2.out.drew.src HK5.out)))
      have HPX : Aside0 (PX w l A c base (.slice A4 rs.length c4) (.slice A5 rs2.length c5) rs rs2 bb wc.drew.heap.size [(w5.heap.size, .cells #[.int .i64 (game : Int), .int .i64 (root : Int), .int .i64 who, .slice A4 rs.length c4, .int .i64 (game2 : Int), .int .i64 (root2 : Int), .int .i64 who2, .slice A5 rs2.length c5] 33 (0, 0)), (b6, .cells #[.int .i64 (M : Int), .slice A l.length c] 24 (0, 0))] (w5.alloc (.cells #[.int .i64 (game : Int), .int .i64 (root : Int), .int .i64 who, .slice A4 rs.length c4, .int .i64 (game2 : Int), .int .i64 (root2 : Int), .int .i64 who2, .slice A5 rs2.length c5] 33))) := ⟨{
        st := ⟨below_alloc HJ5.out.b0 _, fun p hp => by
          rcases List.mem_cons.1 hp with rfl | hp
          · exact blk_new w5 _
          rcases List.mem_cons.1 hp with rfl | hp
          · exact blk_grown (HJ5.out.st _ (.tail _ (.head _))) (World.grownBy_alloc _ _ none) (by simp)
          cases hp⟩
        own := pw_own_below HJ5.out.own (below_alloc (Below.refl _ _) _)
        r1 := HO1.out.below (below_alloc (Below.refl _ _) _)
        r2 := HO2.out.below (below_alloc (Below.refl _ _) _) }⟩
      clear HJ5 HO1 HO2 HJ2 HO hd0 hd1 hd2 hd3 he0 he1 HF2 HS5 HB5 HK5
      generalize w5.heap.size = b46 at *
      generalize w5.alloc (.cells #[.int .i64 (game : Int), .int .i64 (root : Int), .int .i64 who, .slice A4 rs.length c4, .int .i64 (game2 : Int), .int .i64 (root2 : Int), .int .i64 who2, .slice A5 rs2.length c5] 33) = w6 at *
      generalize wc.drew.heap.size = bb2 at *
      have HOk2 := Aside0.mk HOk2
      go_wp2
      go_loopw [48] (fun v48 x => ∃ i : Nat, v48 = .int .i64 (i : Int) ∧ i ≤ 2 ∧ Aside0 (PX w l A c base (.slice A4 rs.length c4) (.slice A5 rs2.length c5) rs rs2 bb bb2 [(b46, .cells #[.int .i64 (game : Int), .int .i64 (root : Int), .int .i64 who, .slice A4 rs.length c4, .int .i64 (game2 : Int), .int .i64 (root2 : Int), .int .i64 who2, .slice A5 rs2.length c5] 33 (0, 0)), (b6, .cells #[.int .i64 (M : Int), .slice A l.length c] 24 (0, 0))] x)) (fun v48 _ => 2 - (intOf v48).toNat)
      case atStart => exact ⟨0, rfl, by decide, HPX⟩
      case round =>
        clear HPX
        obtain ⟨i, rfl, hi, HPX⟩ := hrel
        by_cases hi2 : i < 2
        · have i1 : decide ((i : Int) < 2) = true := decide_eq_true (by omega)
          have i2 : decide (i < 2) = true := decide_eq_true hi2
          go_upto_region 8 with fail
          go_cut [10] (fun s10 wx => ∃ (b10 gm rt : Nat) (wh : Int) (rt' : List Rp) (A' : Option Addr) (c' bb' : Nat), s10 = .pointer (some ⟨b10, 0, none⟩) ∧ Aside0 (StrOk M gm rt wh rt') ∧ Aside0 (PX w l A c base (.slice A4 rs.length c4) (.slice A5 rs2.length c5) rs rs2 bb bb2 [(b46, .cells #[.int .i64 (game : Int), .int .i64 (root : Int), .int .i64 who, .slice A4 rs.length c4, .int .i64 (game2 : Int), .int .i64 (root2 : Int), .int .i64 who2, .slice A5 rs2.length c5] 33 (0, 0)), (b6, .cells #[.int .i64 (M : Int), .slice A l.length c] 24 (0, 0))] wx) ∧ Aside0 (wx.heap[b10]? = some (.cells #[.int .i64 (gm : Int), .int .i64 (rt : Int), .int .i64 wh, .slice A' rt'.length c'] 33 (0, 0))) ∧ Aside0 (OwnRp wx bb' (.slice A' rt'.length c') rt'))
          case first =>
            rcases (show i = 0 ∨ i = 1 by omega) with rfl | rfl
            · have hc0 := (HPX.out.st.at_ (.head _) 0).trans rfl
              have hc1 := (HPX.out.st.at_ (.head _) 1).trans rfl
              have hc2 := (HPX.out.st.at_ (.head _) 2).trans rfl
              have hc3 := (HPX.out.st.at_ (.head _) 3).trans rfl
              go_wp2_with fail
              go_meet
              exact ⟨_, game, root, who, rs, A4, c4, bb, rfl, HOk, ⟨HPX.out.nx (below_alloc (Below.refl _ _) _)⟩, ⟨blk_new _ _⟩, ⟨HPX.out.r1.below (below_alloc (Below.refl _ _) _)⟩⟩
            · have hc0 := (HPX.out.st.at_ (.head _) 4).trans rfl
              have hc1 := (HPX.out.st.at_ (.head _) 5).trans rfl
              have hc2 := (HPX.out.st.at_ (.head _) 6).trans rfl
              have hc3 := (HPX.out.st.at_ (.head _) 7).trans rfl
              go_wp2_with fail
              go_meet
              exact ⟨_, game2, root2, who2, rs2, A5, c5, bb2, rfl, HOk2, ⟨HPX.out.nx (below_alloc (Below.refl _ _) _)⟩, ⟨blk_new _ _⟩, ⟨HPX.out.r2.below (below_alloc (Below.refl _ _) _)⟩⟩
          case rest =>
            clear HPX
            obtain ⟨b10, gm, rt, wh, rt', A', c', bb', rfl, HOkk, HPX, HB10, HOr⟩ := hcut
            have hk0 := (blk_cell HB10.out 0).trans rfl
            have hk1 := (blk_cell HB10.out 1).trans rfl
            have hk2 := (blk_cell HB10.out 2).trans rfl
            have hk3 := (blk_cell HB10.out 3).trans rfl
            have hg0 := (HPX.out.st.at_ (g := b6) (.tail _ (.head _)) 0).trans rfl
            have hg1 := (HPX.out.st.at_ (g := b6) (.tail _ (.head _)) 1).trans rfl
            have hgm : gm = 1 ∨ gm = 2 := by have := HOkk.out.game; omega
            have hwh := HOkk.out.who
            go_upto_region 9 with fail
            go_cut [65] (fun s65 wx => ∃ bb : Bool, s65 = .bool bb ∧ (bb = false → ¬(gm = 2 ∧ wh = 2) ∧ winB M (netOf M l) gm rt wh rt' = true) ∧ Aside0 (Below wc.heap.size wc wx))
            case first =>
              have HCk := Aside0.mk (check_any (M : Int) M rfl (by omega) l (by omega) Hv.out HIn.out A c (gm : Int) rt wh A' c' bb' rt' HOkk.out wc (HT.out.below HT.out.2 HPX.out.st.hb) (OwnP.rd HPX.out.own) HOr.out)
              obtain ⟨wb, hwb⟩ : ∃ wb, winB M (netOf M l) gm rt wh rt' = wb := ⟨_, rfl⟩
              rw [hwb] at HCk
              by_cases hx : gm = 2
              · have q1 : ((gm : Int) == 2) = true := by rw [beq_iff_eq]; omega
                by_cases hy : wh = 2
                · have q2 : (wh == 2) = true := by rw [beq_iff_eq]; exact hy
                  clear hx hy hwb
                  go_wp2_with fail
                  go_meet
                  exact ⟨true, rfl, fun h => by (cases h), ⟨Below.refl _ _⟩⟩
                · have q2 : (wh == 2) = false := by rw [beq_eq_false_iff_ne]; exact hy
                  have hne : ¬(gm = 2 ∧ wh = 2) := fun h => hy h.2
                  have HNe := Aside0.mk hne
                  clear hx hy hne
                  cases wb with
                  | true =>
                    rw [show chkE true = 0 from rfl] at HCk
                    have HWb := Aside0.mk hwb
                    clear hwb
                    go_wp2_with (first | (go_at_call 13; refine HCk.out.mono ?_; rintro e w9 ⟨rfl, hb⟩))
                    go_meet
                    exact ⟨false, rfl, fun _ => ⟨HNe.out, HWb.out⟩, hb⟩
                  | false =>
                    rw [show chkE false = 11 from rfl] at HCk
                    clear hwb
                    go_wp2_with (first | (go_at_call 13; refine HCk.out.mono ?_; rintro e w9 ⟨rfl, hb⟩))
                    go_meet
                    exact ⟨true, rfl, fun h => by (cases h), hb⟩
              · have q1 : ((gm : Int) == 2) = false := by rw [beq_eq_false_iff_ne]; omega
                have hne : ¬(gm = 2 ∧ wh = 2) := fun h => hx h.1
                have HNe := Aside0.mk hne
                clear hx hne
                cases wb with
                | true =>
                  rw [show chkE true = 0 from rfl] at HCk
                  have HWb := Aside0.mk hwb
                  clear hwb
                  go_wp2_with (first | (go_at_call 13; refine HCk.out.mono ?_; rintro e w9 ⟨rfl, hb⟩))
                  go_meet
                  exact ⟨false, rfl, fun _ => ⟨HNe.out, HWb.out⟩, hb⟩
                | false =>
                  rw [show chkE false = 11 from rfl] at HCk
                  clear hwb
                  go_wp2_with (first | (go_at_call 13; refine HCk.out.mono ?_; rintro e w9 ⟨rfl, hb⟩))
                  go_meet
                  exact ⟨true, rfl, fun h => by (cases h), hb⟩
            case rest =>
              obtain ⟨bb5, rfl, hbb, hb⟩ := hcut
              have HPX2 := Aside0.mk (HPX.out.nx hb.out)
              have HB11 := Aside0.mk (blk_grown HB10.out (grown_of_below hb.out none) (by simp))
              have HOr2 := Aside0.mk (HOr.out.below hb.out)
              clear HPX HB10 HOr hb hk0 hk1 hk2 hk3 hg0 hg1
              cases bb5 with
              | true =>
                clear hbb
                go_wp2
                exact ⟨⟨i + 1, by go_num, by omega, HPX2⟩, by simp [intOf]; omega⟩
              | false =>
                obtain ⟨hne, hwin⟩ := hbb rfl
                have hMn := netOf_ok (by omega : M ≤ 40) HIn.out
                obtain ⟨par, Good, hpar, hSt, hGr, hself⟩ := win_good hMn hgm HOkk.out.root hwh hne hwin
                have hpl2 : P.length < 2 ^ 40 := by omega
                have HPlay := Aside0.mk (play_any M (by omega) l (by omega) Hv.out HIn.out A c gm rt wh A' c' bb' rt' HOkk.out par Good hpar hSt hGr hself hwin P Ap cp hpl2 wc (HT.out.below HT.out.2 HPX2.out.st.hb) (OwnP.rd HPX2.out.own) HOr2.out (HP.out.below HPX2.out.st.hb))
                have HSt := Aside0.mk hSt
                have HNet := Aside0.mk hMn
                have hk0 := (blk_cell HB11.out 0).trans rfl
                have hk1 := (blk_cell HB11.out 1).trans rfl
                have hk2 := (blk_cell HB11.out 2).trans rfl
                have hk3 := (blk_cell HB11.out 3).trans rfl
                have hg0 := (HPX2.out.st.at_ (g := b6) (.tail _ (.head _)) 0).trans rfl
                have hg1 := (HPX2.out.st.at_ (g := b6) (.tail _ (.head _)) 1).trans rfl
                clear hbb hne hwin hMn hSt hGr hself
                go_upto_region 11 with (first | (go_at_call 20; refine HPlay.out.mono ?_; rintro e w9 ⟨A6, c6, z, rfl, HZ, HOz, hb⟩))
                have HPX3 := Aside0.mk (HPX2.out.nx hb.out)
                have HB12 := Aside0.mk (blk_grown HB11.out (grown_of_below hb.out none) (by simp))
                clear HPX2 HB11 HOr2 hb hk0 hk1 hk2 hk3 hg0 hg1 HPlay
                obtain ⟨hw1, hw2, hzl⟩ := win_end Hv.out hgm hpar HSt.out HZ.out.1 HZ.out.2
                have HWin := Aside0.mk (winner_any (M : Int) l (by omega) A c (gm : Int) (up z) (by rw [up_length]; omega) A6 c6 w9 (HT.out.below HT.out.2 HPX3.out.st.hb) (OwnP.rd HPX3.out.own) HOz.out.rd.toI)
                rw [hw1, hw2, up_length] at HWin
                have hk0 := (blk_cell HB12.out 0).trans rfl
                have hk2 := (blk_cell HB12.out 2).trans rfl
                have hg0 := (HPX3.out.st.at_ (g := b6) (.tail _ (.head _)) 0).trans rfl
                have hg1 := (HPX3.out.st.at_ (g := b6) (.tail _ (.head _)) 1).trans rfl
                clear hw1 hw2 HZ HSt HNet hpar
                go_upto_region 14 with (first | (go_at_call 21; refine HWin.out.mono ?_; rintro e w10 ⟨rfl, hb⟩))
                have HPX4 := Aside0.mk (HPX3.out.nx hb.out)
                have HB13 := Aside0.mk (blk_grown HB12.out (grown_of_below hb.out none) (by simp))
                clear HPX3 HB12 hb hk0 hk2 hg0 hg1 HWin HOz
                have hk2 := (blk_cell HB13.out 2).trans rfl
                have hg0 := (HPX4.out.st.at_ (g := b6) (.tail _ (.head _)) 0).trans rfl
                have hm1 : IntKind.i64.wrap (2 * (M : Int)) = 2 * (M : Int) := IntWalk.i64_in _ (by omega)
                have hm2 : IntKind.i64.wrap (2 * (M : Int) + 2) = 2 * (M : Int) + 2 := IntWalk.i64_in _ (by omega)
                have hm3 : decide (2 * (M : Int) + 2 < (z.length : Int)) = false := decide_eq_false (by omega)
                go_wp2
                exact ⟨⟨i + 1, by go_num, by omega, HPX4⟩, by simp [intOf]; omega⟩
        · have HA := Aside0.mk (awake_any wr (HT.out.below HT.out.2 HPX.out.st.hb))
          have i1 : decide ((i : Int) < 2) = false := decide_eq_false (by omega)
          have i2 : decide (i < 2) = false := decide_eq_false hi2
          go_wp2_with (first | (go_at_call 7; refine HA.out.mono ?_; rintro e w9 ⟨rfl, hb⟩))
          go_ret
          exact ⟨rfl, ⟨(HPX.out.nx hb.out).st.hb⟩⟩
end Go.Proofs.YtgboplcjafmliaaDoor.G
