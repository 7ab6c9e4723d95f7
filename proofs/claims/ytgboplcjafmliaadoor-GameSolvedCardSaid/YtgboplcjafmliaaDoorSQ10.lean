/- The reference's game, and its Validate on a graph in order. -/
import Derived.Test.YtgboplcjafmliaaDoorSQ9
import Derived.Test.YtgboplcjafmliaaDoorPAllx7
/- The reference's game, and its Validate on a graph in order. -/
namespace Go.Proofs.YtgboplcjafmliaaDoor.G
open Go.RowKit Go.Proofs.YtgboplcjafmliaaDoorW.PrintWords Go.Proofs.YtgboplcjafmliaaDoorW.PrintLast Go.Proofs.YtgboplcjafmliaaDoorW.PrintMore
open Go.Proofs.YtgboplcjafmliaaDoor.PAll
set_option linter.unusedVariables false
set_option linter.unusedSimpArgs false
theorem rgame_any (x : Int) (hx : x = 1 ∨ x = 2) (w : World) : Calls Tryd.prog 35 #[.int .i64 x] w fun e w' => e = .returned (.bool true) ∧ w = w' := by
  rcases hx with rfl | rfl
  · go_enter Tryd.func35, Tryd.ntmps35
    go_wp2
    go_ret
    exact ⟨rfl, rfl⟩
  · go_enter Tryd.func35, Tryd.ntmps35
    go_wp2
    go_ret
    exact ⟨rfl, rfl⟩
/-- Pairs in order, one behind the other. -/
def ordP (p q : S54) : Prop := p.f0 < q.f0 ∨ (p.f0 = q.f0 ∧ p.f1 < q.f1)
theorem valL_ord (N : Int) : ∀ (q : Option S54) (l : List S54), valL N q l = 0 → (∀ q', q = some q' → ∀ p, l[0]? = some p → ordP q' p) ∧ ∀ i, i + 1 < l.length → ordP (nthP l i) (nthP l (i + 1))
  | q, [], _ => ⟨fun q' _ p hp => by simp at hp, fun i hi => by simp at hi⟩
  | q, p :: l, h => by
    rw [valL_cons] at h
    split at h
    · omega
    · split at h
      · omega
      · rename_i h1 h2
        obtain ⟨h3, h4⟩ := valL_ord N (some p) l h
        refine ⟨fun q' hq p' hp' => ?_, fun i hi => ?_⟩
        · injection hp' with hp'
          subst hp' hq
          unfold cmpQ cmpP at h2
          unfold ordP
          simp only at h2
          split at h2
          · omega
          · split at h2
            · simp at h2
            · split at h2
              · omega
              · split at h2
                · simp at h2
                · simp at h2
        · cases i with
          | zero =>
            have hl : 0 < l.length := by simpa using hi
            have e : l[0]? = some l[0] := List.getElem?_eq_getElem hl
            have := h3 p rfl _ e
            unfold nthP
            rw [List.getD_eq_getElem?_getD, List.getD_eq_getElem?_getD, List.getElem?_cons_succ, e]
            exact this
          | succ i =>
            have := h4 i (by simpa using hi)
            unfold nthP at this ⊢
            rw [List.getD_eq_getElem?_getD, List.getD_eq_getElem?_getD, List.getElem?_cons_succ, List.getElem?_cons_succ]
            rw [List.getD_eq_getElem?_getD, List.getD_eq_getElem?_getD] at this
            exact this
set_option maxHeartbeats 8000000 in
set_option maxRecDepth 100000 in
theorem rvalidate_any (M : Nat) (hM : M ≤ 40) (l : List S54) (hl : l.length < 2 ^ 40) (hIn : InR M l) (hv : valE M l = 0) (A : Option Addr) (c : Nat) (w : World) (hr : RdP w A c l) :
    Calls Tryd.prog 34 #[.agg #[.int .i64 (M : Int), .slice A l.length c]] w fun e w' => e = .returned (.int .i64 0) ∧ Aside0 (Below w.heap.size w w') := by
  have HR := Aside0.mk hr
  have HIn := Aside0.mk hIn
  have HB := Aside0.mk (St.refl w)
  have HOrd : Aside0 (∀ i, i + 1 < l.length → ordP (nthP l i) (nthP l (i + 1))) := ⟨by
    unfold valE at hv
    rw [if_neg (by omega)] at hv
    exact (valL_ord (M : Int) none l hv).2⟩
  have m1 : decide ((M : Int) < 0) = false := decide_eq_false (by omega)
  have m2 : decide ((40 : Int) < (M : Int)) = false := decide_eq_false (by omega)
  have m3 : decide (40 < M) = false := decide_eq_false (by omega)
  clear hr hIn hv
  go_enter Tryd.func34, Tryd.ntmps34
  go_upto_region 3 with (first | ((with_reducible refine gate_dst (N := 1) rfl ?_); refine box_st (w := w) 1 #[.int .i64 (M : Int), .slice A l.length c] 24 rfl rfl ?hr HB.out ?_; (case hr => go_simp; done); clear HB; intro g w1 HB GE; have hx0 := (HB.out.at_ (.head _) 0).trans rfl; have hx1 := (HB.out.at_ (.head _) 1).trans rfl))
  clear hx0 hx1
  go_wp2
  go_loopw [3] (fun v3 x => ∃ i : Nat, v3 = .int .i64 (i : Int) ∧ i ≤ l.length ∧ Aside0 (St w [(g, .cells #[.int .i64 (M : Int), .slice A l.length c] 24 (0, 0))] x)) (fun v3 _ => l.length - (intOf v3).toNat)
  case atStart => exact ⟨0, rfl, Nat.zero_le _, HB⟩
  case round =>
    clear HB
    obtain ⟨i, rfl, hi, HB⟩ := hrel
    have hx0 := (HB.out.at_ (.head _) 0).trans rfl
    have hx1 := (HB.out.at_ (.head _) 1).trans rfl
    by_cases hlt : i < l.length
    · have i1 : decide ((i : Int) < (l.length : Int)) = true := decide_eq_true (by omega)
      have i2 : (i : Int) < (l.length : Int) := by omega
      obtain ⟨ad, hA, hc0, hc1⟩ := (HR.out.below HB.out.hb).cell i hlt
      subst hA
      have hp := HIn.out _ (nthP_mem l i hlt)
      go_upto_region 7 with fail
      have HB4 : Aside0 (St w [(wr.heap.size, .cells #[.int .i64 (nthP l i).f0, .int .i64 (nthP l i).f1] 54 (0, 0)), (g, .cells #[.int .i64 (M : Int), .slice (some ad) l.length c] 24 (0, 0))] (wr.alloc (.cells #[.int .i64 (nthP l i).f0, .int .i64 (nthP l i).f1] 54))) := ⟨HB.out.add _⟩
      change Code.wp Tryd.prog _ _ _ (wr.alloc (.cells #[.int .i64 (nthP l i).f0, .int .i64 (nthP l i).f1] 54))
      have HO : Aside0 (0 < i → ordP (nthP l (i - 1)) (nthP l i)) := ⟨fun h => by have := HOrd.out (i - 1) (by omega); rwa [Nat.sub_add_cancel h] at this⟩
      clear HB hx0 hx1 hc0 hc1
      generalize wr.heap.size = g4 at *
      generalize wr.alloc (.cells #[.int .i64 (nthP l i).f0, .int .i64 (nthP l i).f1] 54) = w4 at *
      generalize nthP l i = p at *
      have hx0 := (HB4.out.at_ (g := g) (.tail _ (.head _)) 0).trans rfl
      have hx1 := (HB4.out.at_ (g := g) (.tail _ (.head _)) 1).trans rfl
      have hy0 := (HB4.out.at_ (.head _) 0).trans rfl
      have hy1 := (HB4.out.at_ (.head _) 1).trans rfl
      have p1 : decide (p.f0 < 0) = false := decide_eq_false (by omega)
      have p2 : decide ((M : Int) ≤ p.f0) = false := decide_eq_false (by omega)
      have p3 : decide (p.f1 < 0) = false := decide_eq_false (by omega)
      have p4 : decide ((M : Int) ≤ p.f1) = false := decide_eq_false (by omega)
      go_upto_region 9 with fail
      clear hx0 hx1 hy0 hy1 p1 p2 p3 p4
      haveI : Nonempty (Gd (St w [(g4, .cells #[.int .i64 p.f0, .int .i64 p.f1] 54 (0, 0)), (g, .cells #[.int .i64 (M : Int), .slice (some ad) l.length c] 24 (0, 0))])) := ⟨⟨w4, HB4.out⟩⟩
      have hs0 : ∀ j : Gd (St w [(g4, .cells #[.int .i64 p.f0, .int .i64 p.f1] 54 (0, 0)), (g, .cells #[.int .i64 (M : Int), .slice (some ad) l.length c] 24 (0, 0))]), j.v.cell? ⟨g, 0, none⟩ = some (.int .i64 (M : Int)) := fun j => (j.h.at_ (.tail _ (.head _)) 0).trans rfl
      have hs1 : ∀ j : Gd (St w [(g4, .cells #[.int .i64 p.f0, .int .i64 p.f1] 54 (0, 0)), (g, .cells #[.int .i64 (M : Int), .slice (some ad) l.length c] 24 (0, 0))]), j.v.cell? ⟨g, 1, none⟩ = some (.slice (some ad) l.length c) := fun j => (j.h.at_ (.tail _ (.head _)) 1).trans rfl
      have hs2 : ∀ j : Gd (St w [(g4, .cells #[.int .i64 p.f0, .int .i64 p.f1] 54 (0, 0)), (g, .cells #[.int .i64 (M : Int), .slice (some ad) l.length c] 24 (0, 0))]), j.v.cell? ⟨g4, 0, none⟩ = some (.int .i64 p.f0) := fun j => (j.h.at_ (.head _) 0).trans rfl
      have hs3 : ∀ j : Gd (St w [(g4, .cells #[.int .i64 p.f0, .int .i64 p.f1] 54 (0, 0)), (g, .cells #[.int .i64 (M : Int), .slice (some ad) l.length c] 24 (0, 0))]), j.v.cell? ⟨g4, 1, none⟩ = some (.int .i64 p.f1) := fun j => (j.h.at_ (.head _) 1).trans rfl
      by_cases hi0 : 0 < i
      · have q0 : decide ((0 : Int) < (i : Int)) = true := decide_eq_true (by omega)
        have q0b : decide (0 < i) = true := decide_eq_true hi0
        have hord := HO.out hi0
        have hs4 : ∀ j : Gd (St w [(g4, .cells #[.int .i64 p.f0, .int .i64 p.f1] 54 (0, 0)), (g, .cells #[.int .i64 (M : Int), .slice (some ad) l.length c] 24 (0, 0))]), j.v.cell? (ad.add ((i - 1) * 2)) = some (.int .i64 (nthP l (i - 1)).f0) := fun j => by
          obtain ⟨ad', e, h1, _⟩ := (HR.out.below j.h.hb).cell (i - 1) (by omega)
          injection e with e
          subst e; exact h1
        have hs5 : ∀ j : Gd (St w [(g4, .cells #[.int .i64 p.f0, .int .i64 p.f1] 54 (0, 0)), (g, .cells #[.int .i64 (M : Int), .slice (some ad) l.length c] 24 (0, 0))]), j.v.cell? ⟨(ad.add ((i - 1) * 2)).block, (ad.add ((i - 1) * 2)).off + 1, none⟩ = some (.int .i64 (nthP l (i - 1)).f1) := fun j => by
          obtain ⟨ad', e, _, h1⟩ := (HR.out.below j.h.hb).cell (i - 1) (by omega)
          injection e with e
          subst e; exact h1
        generalize nthP l (i - 1) = q at *
        have hsub : IntKind.i64.wrap ((i : Int) - 1) = ((i - 1 : Nat) : Int) := by rw [IntWalk.i64_in _ (by omega)]; omega
        have hii : ((i - 1 : Nat) : Int) < (l.length : Int) := by omega
        generalize i - 1 = i0 at *
        unfold ordP at hord
        rcases hord with h1 | ⟨h1, h2⟩
        · have c1 : decide (p.f0 < q.f0) = false := decide_eq_false (by omega)
          have c2 : (q.f0 == p.f0) = false := by rw [beq_eq_false_iff_ne]; omega
          refine wp_quiet_cls (fun x => ∃ j : Gd (St w [(g4, .cells #[.int .i64 p.f0, .int .i64 p.f1] 54 (0, 0)), (g, .cells #[.int .i64 (M : Int), .slice (some ad) l.length c] 24 (0, 0))]), x = j.v) (by kernel_rfl) (by kernel_rfl) ⟨⟨w4.drew, HB4.out.drew⟩, rfl⟩ ?_
          repeat (go_big_quiet_step (fail))
          refine wpQuiet_nil ?_
          clear hs0 hs1 hs2 hs3 hs4 hs5 this
          rintro _ ⟨⟨w5, hb5⟩, rfl⟩
          have HB5 := Aside0.mk (show St w [(g, .cells #[.int .i64 (M : Int), .slice (some ad) l.length c] 24 (0, 0))] _ from ⟨hb5.hb, fun p hp => hb5.blk p (.tail _ hp)⟩)
          clear hb5
          go_wp2
          exact ⟨⟨i + 1, by go_num, hlt, HB5⟩, by simp [intOf]; omega⟩
        · have c1 : decide (p.f0 < q.f0) = false := decide_eq_false (by omega)
          have c2 : (q.f0 == p.f0) = true := by rw [beq_iff_eq]; exact h1
          have c3 : decide (p.f1 ≤ q.f1) = false := decide_eq_false (by omega)
          clear h1
          refine wp_quiet_cls (fun x => ∃ j : Gd (St w [(g4, .cells #[.int .i64 p.f0, .int .i64 p.f1] 54 (0, 0)), (g, .cells #[.int .i64 (M : Int), .slice (some ad) l.length c] 24 (0, 0))]), x = j.v) (by kernel_rfl) (by kernel_rfl) ⟨⟨w4.drew, HB4.out.drew⟩, rfl⟩ ?_
          repeat (go_big_quiet_step (fail))
          refine wpQuiet_nil ?_
          clear hs0 hs1 hs2 hs3 hs4 hs5 this
          rintro _ ⟨⟨w5, hb5⟩, rfl⟩
          have HB5 := Aside0.mk (show St w [(g, .cells #[.int .i64 (M : Int), .slice (some ad) l.length c] 24 (0, 0))] _ from ⟨hb5.hb, fun p hp => hb5.blk p (.tail _ hp)⟩)
          clear hb5
          go_wp2
          exact ⟨⟨i + 1, by go_num, hlt, HB5⟩, by simp [intOf]; omega⟩
      · have q0 : decide ((0 : Int) < (i : Int)) = false := decide_eq_false (by omega)
        have q0b : decide (0 < i) = false := decide_eq_false hi0
        refine wp_quiet_cls (fun x => ∃ j : Gd (St w [(g4, .cells #[.int .i64 p.f0, .int .i64 p.f1] 54 (0, 0)), (g, .cells #[.int .i64 (M : Int), .slice (some ad) l.length c] 24 (0, 0))]), x = j.v) (by kernel_rfl) (by kernel_rfl) ⟨⟨w4.drew, HB4.out.drew⟩, rfl⟩ ?_
        repeat (go_big_quiet_step (fail))
        refine wpQuiet_nil ?_
        clear hs0 hs1 hs2 hs3 this
        rintro _ ⟨⟨w5, hb5⟩, rfl⟩
        have HB5 := Aside0.mk (show St w [(g, .cells #[.int .i64 (M : Int), .slice (some ad) l.length c] 24 (0, 0))] _ from ⟨hb5.hb, fun p hp => hb5.blk p (.tail _ hp)⟩)
        clear hb5
        go_wp2
        exact ⟨⟨i + 1, by go_num, hlt, HB5⟩, by simp [intOf]; omega⟩
    · have i1 : decide ((i : Int) < (l.length : Int)) = false := decide_eq_false (by omega)
      go_wp2
      go_ret
      exact ⟨rfl, ⟨HB.out.hb⟩⟩
end Go.Proofs.YtgboplcjafmliaaDoor.G

/- The reference's Check accepts the strategies of Solve. -/
namespace Go.Proofs.YtgboplcjafmliaaDoor.G
open Go.RowKit Go.Proofs.YtgboplcjafmliaaDoorW.PrintWords Go.Proofs.YtgboplcjafmliaaDoorW.PrintLast Go.Proofs.YtgboplcjafmliaaDoorW.PrintMore
open Go.Proofs.YtgboplcjafmliaaDoor.PAll
set_option linter.unusedVariables false
set_option linter.unusedSimpArgs false

theorem own_reads {w : World} {base : Nat} {A : Option Addr} {c : Nat} {rs : List Rp} (h : OwnRp w base (.slice A rs.length c) rs) : RdR w A c rs := by
  obtain ⟨A', c', he, hr⟩ := h.reads
  injection he with e1 e2 e3
  subst e1 e3
  exact hr
theorem own_readsI {w : World} {base : Nat} {A : Option Addr} {c : Nat} {L : List Nat} (h : OwnI w base (.slice A L.length c) L) : RdN .i64 w A c L := by
  obtain ⟨A', c', he, hr⟩ := h.reads
  injection he with e1 e2 e3
  subst e1 e3
  exact hr
theorem free_of {M : Nat} {l : List S54} (hIn : InR M l) {L : List Nat} (h : ∀ p q, p ∈ L → q ∈ L → ¬ At (netOf M l) p q) : freeL l L = true := by
  unfold freeL
  rw [List.all_eq_true]
  intro p hp
  rw [Bool.not_eq_true', bool_false_iff]
  intro ha
  unfold attB at ha
  rw [List.any_eq_true] at ha
  obtain ⟨z, hz, e⟩ := ha
  rw [atkB_nat hIn] at e
  exact h p z hp hz ((at_atk hIn p z).2 e)
theorem St.tl {w x : World} {p : Nat × Obj} {bs : List (Nat × Obj)} (h : St w (p :: bs) x) : St w bs x := ⟨h.hb, fun q hq => h.blk q (.tail _ hq)⟩
set_option maxHeartbeats 8000000 in
set_option maxRecDepth 100000 in
theorem rcheck_any (M : Nat) (hM : M ≤ 10) (l : List S54) (hl : l.length < 2 ^ 40) (hIn : InR M l) (hv : valE M l = 0) (A : Option Addr) (c : Nat) (game : Int) (root : Nat) (who : Int) (rs : List Rp) (hok : StrOk M game root who rs) (hSW : SolW M (netOf M l) root game who rs) (A4 : Option Addr) (c4 : Nat) (w : World) (hT : TabW w) (hr : RdP w A c l) (ho : RdR w A4 c4 rs) :
    Calls Tryd.prog 12 #[.agg #[.int .i64 (M : Int), .slice A l.length c], .agg #[.int .i64 game, .int .i64 (root : Int), .int .i64 who, .slice A4 rs.length c4]] w fun e w' => e = .returned (.int .i64 0) ∧ Aside0 (Below w.heap.size w w') := by
  have hlen := hok.len (by omega)
  have hroot := hok.root
  have HR := Aside0.mk hr
  have HO := Aside0.mk ho
  have HT := Aside0.mk hT
  have HOk := Aside0.mk hok
  have HSW := Aside0.mk hSW
  have HIn := Aside0.mk hIn
  have HB := Aside0.mk (St.refl w)
  have HVal := Aside0.mk (fun W (h : RdP W A c l) => rvalidate_any M (by omega) l hl hIn hv A c W h)
  have HGm := Aside0.mk (rgame_any game hok.game)
  have HLtR : Aside0 (∀ i, i < rs.length → (nthR rs i).1.val < M ∧ (nthR rs i).2.val < M) := ⟨fun i hi => by
    rw [nthR_get rs i hi]; exact hok.lt _ (List.getElem_mem hi)⟩
  have HSoR : Aside0 (∀ i j, i < j → j < rs.length → (nthR rs i).1.val < (nthR rs j).1.val) := ⟨fun i j h1 h2 => hok.so.lt h1 h2⟩
  clear hr ho hT hok hSW hIn hv
  have r1 : decide ((root : Int) < 0) = false := decide_eq_false (by omega)
  have r2 : decide ((M : Int) ≤ (root : Int)) = false := decide_eq_false (by omega)
  have r2b : decide (M ≤ root) = false := decide_eq_false (by omega)
  go_enter Tryd.func12, Tryd.ntmps12
  go_upto_region 4 with (first | ((with_reducible refine gate_dst (N := 2) rfl ?_); refine box_st (w := w) 2 #[.int .i64 (M : Int), .slice A l.length c] 24 rfl rfl ?hr HB.out ?_; (case hr => go_simp; done); clear HB; intro g w1 HB GE) | ((with_reducible refine gate_dst (N := 3) rfl ?_); refine box_st (w := w) 3 #[.int .i64 game, .int .i64 (root : Int), .int .i64 who, .slice A4 rs.length c4] 33 rfl rfl ?hr HB.out ?_; (case hr => go_simp; done); clear HB; intro g2 w2 HB GE2; have hx0 := (HB.out.at_ (g := g) (.tail _ (.head _)) 0).trans rfl; have hx1 := (HB.out.at_ (g := g) (.tail _ (.head _)) 1).trans rfl) | (go_at_call 34; refine (HVal.out _ (HR.out.below HB.out.hb)).mono ?_; rintro e w5 ⟨rfl, hb⟩; have HB5 := Aside0.mk (HB.out.nx hb.out); clear HB hx0 hx1 hb))
  have HB5 : Aside0 (St w (gsB M l A c game root who A4 rs.length c4 g g2) w5) := HB5
  have hx0 := (HB5.out.at_ (g := g) (.tail _ (.head _)) 0).trans rfl
  have hy0 := (HB5.out.at_ (g := g2) (.head _) 0).trans rfl
  have hy1 := (HB5.out.at_ (g := g2) (.head _) 1).trans rfl
  have hy2 := (HB5.out.at_ (g := g2) (.head _) 2).trans rfl
  have hy3 := (HB5.out.at_ (g := g2) (.head _) 3).trans rfl
  have hw := HOk.out.who
  go_cut [29] (fun s29 wx => s29 = .bool false ∧ wx = w5)
  case first =>
    rcases hw with rfl | rfl
    all_goals
      go_wp2_with (first | (go_at_call 35; refine (HGm.out _).mono ?_; rintro e w6 ⟨rfl, rfl⟩))
      go_meet
      exact ⟨rfl, rfl⟩
  case rest =>
    obtain ⟨rfl, rfl⟩ := hcut
    clear HVal HGm hw
    go_upto_region 9 with fail
    clear hx0 hy0 hy1 hy2 hy3 r1 r2 r2b
    go_loopw [6] (fun v6 x => ∃ i : Nat, v6 = .int .i64 (i : Int) ∧ i ≤ rs.length ∧ Aside0 (St w (gsB M l A c game root who A4 rs.length c4 g g2) x)) (fun v6 _ => rs.length - (intOf v6).toNat)
    case atStart => exact ⟨0, rfl, Nat.zero_le _, HB5⟩
    case round =>
      clear HB5
      obtain ⟨i, rfl, hi, HB⟩ := hrel
      have hy3 := (HB.out.at_ (g := g2) (.head _) 3).trans rfl
      by_cases hlt : i < rs.length
      · have i1 : decide ((i : Int) < (rs.length : Int)) = true := decide_eq_true (by omega)
        have i2 : (i : Int) < (rs.length : Int) := by omega
        obtain ⟨ad, hA, hc0, hc1⟩ := (HO.out.below HB.out.hb).cell i hlt
        subst hA
        have hp := HLtR.out i hlt
        obtain ⟨a, haa⟩ : ∃ a, (nthR rs i).1.val = a := ⟨_, rfl⟩
        obtain ⟨b, hbb⟩ : ∃ b, (nthR rs i).2.val = b := ⟨_, rfl⟩
        rw [haa] at hc0
        rw [hbb] at hc1
        rw [haa, hbb] at hp
        obtain ⟨haM, hbM⟩ := hp
        clear haa hbb
        go_upto_region 12 with fail
        have HB4 : Aside0 (St w ((wr.heap.size, .cells #[.int .i64 (a : Int), .int .i64 (b : Int)] 77 (0, 0)) :: gsB M l (A) c game root who (some ad) rs.length c4 g g2) (wr.alloc (.cells #[.int .i64 (a : Int), .int .i64 (b : Int)] 77))) := ⟨HB.out.add _⟩
        change Code.wp Tryd.prog _ _ _ (wr.alloc (.cells #[.int .i64 (a : Int), .int .i64 (b : Int)] 77))
        clear HB hy3 hc0 hc1
        generalize wr.heap.size = g4 at *
        generalize wr.alloc (.cells #[.int .i64 (a : Int), .int .i64 (b : Int)] 77) = w4 at *
        have hx0 := (HB4.out.at_ (g := g) (.tail _ (.tail _ (.head _))) 0).trans rfl
        have hz0 := (HB4.out.at_ (.head _) 0).trans rfl
        have hz1 := (HB4.out.at_ (.head _) 1).trans rfl
        have p1 : decide ((a : Int) < 0) = false := decide_eq_false (by omega)
        have p2 : decide ((M : Int) ≤ (a : Int)) = false := decide_eq_false (by omega)
        have p2b : decide (M ≤ a) = false := decide_eq_false (by omega)
        have p3 : decide ((b : Int) < 0) = false := decide_eq_false (by omega)
        have p4 : decide ((M : Int) ≤ (b : Int)) = false := decide_eq_false (by omega)
        have p4b : decide (M ≤ b) = false := decide_eq_false (by omega)
        go_wp2
        exact ⟨⟨i + 1, by go_num, hlt, ⟨HB4.out.tl⟩⟩, by simp [intOf]; omega⟩
      · have i1 : decide ((i : Int) < (rs.length : Int)) = false := decide_eq_false (by omega)
        have i1b : decide (i < rs.length) = false := decide_eq_false hlt
        go_upto_region 15 with fail
        clear hy3 i1 hi hlt i1b
        go_loopw [8] (fun v8 x => ∃ i : Nat, v8 = .int .i64 (i : Int) ∧ 1 ≤ i ∧ i ≤ rs.length + 1 ∧ Aside0 (St w (gsB M l A c game root who A4 rs.length c4 g g2) x)) (fun v8 _ => rs.length + 1 - (intOf v8).toNat)
        case atStart => exact ⟨1, rfl, Nat.le_refl _, by omega, HB⟩
        case round =>
          clear HB
          obtain ⟨i, rfl, hi1, hi, HB⟩ := hrel
          have hy3 := (HB.out.at_ (g := g2) (.head _) 3).trans rfl
          by_cases hlt : i < rs.length
          · have i1 : decide ((i : Int) < (rs.length : Int)) = true := decide_eq_true (by omega)
            have i2 : (i : Int) < (rs.length : Int) := by omega
            obtain ⟨ad, hA, hc0, hc1⟩ := (HO.out.below HB.out.hb).cell i hlt
            subst hA
            obtain ⟨ad', hA, hd0, hd1⟩ := (HO.out.below HB.out.hb).cell (i - 1) (by omega)
            injection hA with hA
            subst hA
            have hso := HSoR.out (i - 1) i (by omega) hlt
            have hsub : IntKind.i64.wrap ((i : Int) - 1) = ((i - 1 : Nat) : Int) := by rw [IntWalk.i64_in _ (by omega)]; omega
            have hii : ((i - 1 : Nat) : Int) < (rs.length : Int) := by omega
            obtain ⟨a, haa⟩ : ∃ a, (nthR rs i).1.val = a := ⟨_, rfl⟩
            obtain ⟨b, hbb⟩ : ∃ b, (nthR rs (i - 1)).1.val = b := ⟨_, rfl⟩
            rw [haa] at hc0 hso
            rw [hbb] at hd0 hso
            have p1 : decide ((a : Int) ≤ (b : Int)) = false := decide_eq_false (by omega)
            have p1b : decide (a ≤ b) = false := decide_eq_false (by omega)
            clear haa hbb hc1 hd1 hso
            generalize i - 1 = i0 at *
            go_upto_region 17 with fail
            go_quiet (fail)
            go_wp2
            exact ⟨⟨i + 1, by go_num, by omega, by omega, ⟨HB.out.drewN nq⟩⟩, by simp [intOf]; omega⟩
          · have i1 : decide ((i : Int) < (rs.length : Int)) = false := decide_eq_false (by omega)
            have i1b : decide (i < rs.length) = false := decide_eq_false hlt
            go_upto_region 19 with fail
            clear hy3 i1 hi hi1 hlt i1b
            have hx0 := (HB.out.at_ (g := g) (.tail _ (.head _)) 0).trans rfl
            have hx1 := (HB.out.at_ (g := g) (.tail _ (.head _)) 1).trans rfl
            have hy0 := (HB.out.at_ (g := g2) (.head _) 0).trans rfl
            have hy1 := (HB.out.at_ (g := g2) (.head _) 1).trans rfl
            have hy2 := (HB.out.at_ (g := g2) (.head _) 2).trans rfl
            have hy3 := (HB.out.at_ (g := g2) (.head _) 3).trans rfl
            cases HSW.out with
            | w11 _ rank h1 h2 h3 =>
              have HRch := Aside0.mk (fun W hr ho => reached_any M (by omega) l hl HIn.out A c 1 root hroot 1 _ rs (by omega) A4 c4 (.one h1) W hr ho)
              have HRe := Aside0.mk (fun (L : List Nat) (hL : ∀ a, a ∈ L ↔ Rch (E1 (netOf M l) rs) root a) (hll : L.length ≤ M) (A5 : Option Addr) (c5 : Nat) W hr ho hs => loops_any M (by omega) l hl HIn.out A c 1 root 1 rs (by omega) A4 c4 L hll A5 c5 rank (fun a ha => ⟨h1.lt a ((hL a).1 ha), h2 a ((hL a).1 ha)⟩) (fun a b ha hb => by
                obtain ⟨y, h4, h5, h6⟩ := h1.re a b ((hL a).1 ha) hb
                exact ⟨y, h4, (hL y).2 h6, h3 a b y ((hL a).1 ha) hb h4⟩) W hr ho hs)
              clear h1 h2 h3
              go_wp2_with (first | (go_at_call 36; refine (HRch.out _ (HR.out.below HB.out.hb) (HO.out.below HB.out.hb)).mono ?_; rintro e w7 ⟨A5, c5, L, rfl, HL, hLl, HOw, hb⟩; have HRd := Aside0.mk (own_readsI HOw.out); have HB7 := Aside0.mk (HB.out.nx hb.out); clear HB HRch HOw hb hx0 hx1 hy0 hy1 hy2 hy3; have hx0 := (HB7.out.at_ (g := g) (.tail _ (.head _)) 0).trans rfl; have hx1 := (HB7.out.at_ (g := g) (.tail _ (.head _)) 1).trans rfl; have hy0 := (HB7.out.at_ (g := g2) (.head _) 0).trans rfl; have hy1 := (HB7.out.at_ (g := g2) (.head _) 1).trans rfl; have hy2 := (HB7.out.at_ (g := g2) (.head _) 2).trans rfl; have hy3 := (HB7.out.at_ (g := g2) (.head _) 3).trans rfl) | (go_at_call 37; refine (HRe.out L HL.out hLl A5 c5 _ (HR.out.below HB7.out.hb) (HO.out.below HB7.out.hb) HRd.out).mono ?_; rintro e w8 ⟨rfl, hbb⟩; have HB8 := Aside0.mk (HB7.out.nx hbb.out); have hz0 := (HB8.out.at_ (g := g2) (.head _) 0).trans rfl))
              go_ret
              exact ⟨rfl, ⟨HB8.out.hb⟩⟩
            | w12 _ h1 =>
              have HRch := Aside0.mk (fun W hr ho => reached_any M (by omega) l hl HIn.out A c 1 root hroot 2 _ rs (by omega) A4 c4 (.two h1) W hr ho)
              clear h1
              go_wp2_with (first | (go_at_call 36; refine (HRch.out _ (HR.out.below HB.out.hb) (HO.out.below HB.out.hb)).mono ?_; rintro e w7 ⟨A5, c5, L, rfl, HL, hLl, HOw, hb⟩; have HRd := Aside0.mk (own_readsI HOw.out); have HB7 := Aside0.mk (HB.out.nx hb.out); clear HB HRch HOw hb hx0 hx1 hy0 hy1 hy2 hy3; have hx0 := (HB7.out.at_ (g := g) (.tail _ (.head _)) 0).trans rfl; have hx1 := (HB7.out.at_ (g := g) (.tail _ (.head _)) 1).trans rfl; have hy0 := (HB7.out.at_ (g := g2) (.head _) 0).trans rfl; have hy1 := (HB7.out.at_ (g := g2) (.head _) 1).trans rfl; have hy2 := (HB7.out.at_ (g := g2) (.head _) 2).trans rfl; have hy3 := (HB7.out.at_ (g := g2) (.head _) 3).trans rfl))
              go_ret
              exact ⟨rfl, ⟨HB7.out.hb⟩⟩
            | w21 _ h1 h2 =>
              have HRch := Aside0.mk (fun W hr ho => reached_any M (by omega) l hl HIn.out A c 2 root hroot 1 _ rs (by omega) A4 c4 (.one h1) W hr ho)
              have HFr := Aside0.mk (fun (L : List Nat) (hL : ∀ a, a ∈ L ↔ Rch (E1 (netOf M l) rs) root a) (hll : L.length ≤ M) (A5 : Option Addr) (c5 : Nat) W hr (hs : RdN .i64 W A5 c5 L) => by
                have h := freeL_any (M : Int) l (by omega) A c L (by omega) A5 c5 W hr hs
                rw [free_of HIn.out (fun p q hp hq => h2 p q ((hL p).1 hp) ((hL q).1 hq))] at h
                exact h)
              clear h1 h2
              go_wp2_with (first | (go_at_call 36; refine (HRch.out _ (HR.out.below HB.out.hb) (HO.out.below HB.out.hb)).mono ?_; rintro e w7 ⟨A5, c5, L, rfl, HL, hLl, HOw, hb⟩; have HRd := Aside0.mk (own_readsI HOw.out); have HB7 := Aside0.mk (HB.out.nx hb.out); clear HB HRch HOw hb hx0 hx1 hy0 hy1 hy2 hy3; have hx0 := (HB7.out.at_ (g := g) (.tail _ (.head _)) 0).trans rfl; have hx1 := (HB7.out.at_ (g := g) (.tail _ (.head _)) 1).trans rfl; have hy0 := (HB7.out.at_ (g := g2) (.head _) 0).trans rfl; have hy1 := (HB7.out.at_ (g := g2) (.head _) 1).trans rfl; have hy2 := (HB7.out.at_ (g := g2) (.head _) 2).trans rfl; have hy3 := (HB7.out.at_ (g := g2) (.head _) 3).trans rfl) | (go_at_call 38; refine (HFr.out L HL.out hLl A5 c5 _ (HR.out.below HB7.out.hb) HRd.out).mono ?_; rintro e w8 ⟨rfl, hbb⟩; have HB8 := Aside0.mk (HB7.out.nx hbb.out)))
              go_ret
              exact ⟨rfl, ⟨HB8.out.hb⟩⟩
            | w22 h1 =>
              have HSm := Aside0.mk (fun W (hT : TabW W) (h : RdP W A c l) => some_any M (by omega) l hl A c root (by omega) W hT h)
              rw [someB_srch (by omega) HIn.out hroot, h1] at HSm
              have m1 : decide ((10 : Int) < (M : Int)) = false := decide_eq_false (by omega)
              have m1b : decide (10 < M) = false := decide_eq_false (by omega)
              clear h1
              go_wp2_with (first | (go_at_call 33; refine (HSm.out _ (HT.out.below HT.out.2 HB.out.hb) (HR.out.below HB.out.hb)).mono ?_; rintro e w5 ⟨rfl, hb⟩; have HB5 := Aside0.mk (HB.out.nx hb.out)))
              go_ret
              exact ⟨rfl, ⟨HB5.out.hb⟩⟩
end Go.Proofs.YtgboplcjafmliaaDoor.G

/- The errors of Solve against those of Moves on the line of the root alone. No program here. -/
namespace Go.Proofs.YtgboplcjafmliaaDoor.G
open Go.RowKit Go.Proofs.YtgboplcjafmliaaDoorW.PrintWords Go.Proofs.YtgboplcjafmliaaDoorW.PrintLast Go.Proofs.YtgboplcjafmliaaDoorW.PrintMore
open Go.Proofs.YtgboplcjafmliaaDoor.PAll
set_option linter.unusedVariables false
set_option linter.unusedSimpArgs false
theorem valL_cases (N : Int) : ∀ (q : Option S54) (l : List S54), valL N q l = 0 ∨ valL N q l = 1 ∨ valL N q l = 8
  | q, [] => .inl (by rw [valL.eq_def])
  | q, p :: l => by
    rw [valL_cons]
    split
    · exact .inr (.inl rfl)
    · split
      · exact .inr (.inr rfl)
      · exact valL_cases N (some p) l
theorem valE_cases (N : Int) (l : List S54) : valE N l = 0 ∨ valE N l = 1 ∨ valE N l = 8 := by
  unfold valE
  split
  · exact .inr (.inl rfl)
  · exact valL_cases N none l
/-- What the law makes of the error of Moves. -/
def rawF (N : Int) (f k : Int) : Int := if (if f = 7 then 0 else f) = 0 ∧ k = 2 ∧ 10 < N then 2 else (if f = 7 then 0 else f)
theorem raw_eq (N : Int) (l : List S54) (k root : Int) : solE N l k root = rawF N (argE N l k [root]) k := by
  unfold rawF solE argE
  by_cases hv : valE N l ≠ 0
  · rw [if_pos hv, if_pos hv]
    have h := valE_cases N l
    rw [if_neg (by omega : ¬ valE N l = 7), if_neg (by omega)]
  · rw [if_neg hv, if_neg hv]
    by_cases hg : ¬(k = 1 ∨ k = 2)
    · rw [if_pos hg, if_pos hg, if_neg (by decide : ¬ (4 : Int) = 7), if_neg (by omega)]
    · rw [if_neg hg, if_neg hg]
      by_cases hr : root < 0 ∨ N ≤ root
      · have ha : ([root].any fun x => decide (x < 0) || decide (N ≤ x)) = true := by simp [hr]
        rw [if_pos hr, if_pos ha, if_neg (by decide : ¬ (1 : Int) = 7), if_neg (by omega)]
      · have ha : ¬([root].any fun x => decide (x < 0) || decide (N ≤ x)) = true := by simp; omega
        rw [if_neg hr, if_neg ha, if_neg (show ¬ [root].length = 0 by simp)]
        by_cases hp : playedB (netOf N.toNat l) k.toNat ([root].map Int.toNat) = true
        · rw [if_pos hp, if_neg (by decide : ¬ (0 : Int) = 7)]
          by_cases hb : k = 2 ∧ 10 < N
          · rw [if_pos hb, if_pos ⟨rfl, hb⟩]
          · rw [if_neg hb, if_neg (fun h => hb h.2)]
        · rw [if_neg hp, if_pos rfl]
          by_cases hb : k = 2 ∧ 10 < N
          · rw [if_pos hb, if_pos ⟨rfl, hb⟩]
          · rw [if_neg hb, if_neg (fun h => hb h.2)]
end Go.Proofs.YtgboplcjafmliaaDoor.G

/- The contract of net.Light, in plain terms. -/
namespace Go.Proofs.YtgboplcjafmliaaDoor.G
open Go.RowKit Go.Proofs.YtgboplcjafmliaaDoorW.PrintWords Go.Proofs.YtgboplcjafmliaaDoorW.PrintLast Go.Proofs.YtgboplcjafmliaaDoorW.PrintMore
open Go.Proofs.YtgboplcjafmliaaDoor.PAll
set_option linter.unusedVariables false
set_option linter.unusedSimpArgs false
theorem light_any (N : Int) (l : List S54) (A : Option Addr) (c : Nat) (w : World) (hr : RdP w A c l) :
    Calls Tryd.prog 6 #[.agg #[.int .i64 N, .slice A l.length c]] w fun e w' => ∃ r : Bool, e = .returned (.bool r) ∧ (r = true → l.length ≤ 2000) ∧ Aside0 (Below w.heap.size w w') := by
  obtain ⟨r, h, hl⟩ : ∃ r, deliberationnet_Light.f N l = some r ∧ (r = true → l.length ≤ 2000) := by
    unfold deliberationnet_Light.f
    repeat' split
    all_goals first
      | exact ⟨_, rfl, fun h => by cases h⟩
      | exact ⟨_, rfl, fun h => by simp at h; omega⟩
      | exact ⟨_, rfl, fun h => by omega⟩
  exact (deliberationnet_Light.calls N A c l r w hr.2 hr.1 h).mono fun e w' ⟨h1, h2⟩ => ⟨r, h1, hl, ⟨h2⟩⟩
end Go.Proofs.YtgboplcjafmliaaDoor.G

/- The two games of the sanity check, in plain terms. -/
namespace Go.Proofs.YtgboplcjafmliaaDoor.G
open Go.RowKit Go.Proofs.YtgboplcjafmliaaDoorW.PrintWords Go.Proofs.YtgboplcjafmliaaDoorW.PrintLast Go.Proofs.YtgboplcjafmliaaDoorW.PrintMore
open Go.Proofs.YtgboplcjafmliaaDoor.PAll
set_option linter.unusedVariables false
set_option linter.unusedSimpArgs false

def l0 : List S54 := [⟨0, 1⟩, ⟨1, 0⟩]
def n0 : NetD := netOf 2 l0
theorem n0_by0 : nth n0.by_ 0 = 2 := by kernel_rfl
theorem n0_by1 : nth n0.by_ 1 = 1 := by kernel_rfl
theorem gnd0 : gnd 2 n0 = 0 := by kernel_rfl
theorem q0_0 : qO 2 n0 0 = 1 := by kernel_rfl
theorem srch0 : srch n0 3 (2 ^ 0) = some 1 := by kernel_rfl
theorem pick0 : pickS n0 1 1 = 0 := by kernel_rfl
theorem tb1 (z : Nat) (h : (1 : Nat).testBit z = true) : z = 0 := by
  cases z with
  | zero => rfl
  | succ z => simp [Nat.testBit_succ] at h
theorem tb2 (z : Nat) (h : (2 : Nat).testBit z = true) : z = 1 := by
  cases z with
  | zero => simp at h
  | succ z => rw [Nat.testBit_succ] at h; have := tb1 z h; omega
theorem rco0 (x : Nat) : Rco n0 0 (qO 2 n0) x ↔ x = 0 := by
  constructor
  · intro h
    induction h with
    | root => rfl
    | step _ hz ih => subst ih; rw [q0_0, n0_by1] at hz; exact tb1 _ hz
  · rintro rfl; exact .root
theorem rc0 (x : Nat) (h : Rc n0 0 (pickS n0 1) x) : x = 0 := by
  induction h with
  | root => rfl
  | step _ hx ih => subst ih; rw [n0_by0] at hx; rw [tb2 _ hx]; exact pick0
theorem rca0 (x : Nat) : RcA n0 0 (pickS n0 1) x ↔ x = 1 := by
  constructor
  · rintro ⟨a, ha, hx⟩
    rw [rc0 a ha, n0_by0] at hx
    exact tb2 _ hx
  · rintro rfl
    exact ⟨0, .root, by rw [n0_by0]; rfl⟩
theorem awake_g {who : Int} {m : Nat} {pk : Nat → Nat} {g : Int} (hg : g = 1) (h : SolP 2 n0 0 g who m pk) : who = 2 ∧ m = 1 ∧ pk 0 = 1 := by
  cases h with
  | gp m h1 h2 => rw [gnd0] at h1; simp at h1
  | go m h1 h2 =>
    refine ⟨rfl, ?_, q0_0⟩
    apply Nat.eq_of_testBit_eq
    intro i
    rw [Bool.eq_iff_iff, h2 i, rco0]
    exact ⟨fun h => by subst h; rfl, tb1 i⟩
  | cp m s h1 h2 => cases hg
  | co pk h1 => cases hg
theorem awake_c {who : Int} {m : Nat} {pk : Nat → Nat} {g : Int} (hg : g = 2) (h : SolP 2 n0 0 g who m pk) : who = 1 ∧ m = 2 ∧ pk 1 = 0 := by
  cases h with
  | gp m h1 h2 => cases hg
  | go m h1 h2 => cases hg
  | cp m s h1 h2 =>
    rw [srch0] at h1
    injection h1 with h1
    subst h1
    refine ⟨rfl, ?_, pick0⟩
    apply Nat.eq_of_testBit_eq
    intro i
    rw [Bool.eq_iff_iff, h2 i, rca0]
    exact ⟨fun h => by subst h; rfl, tb2 i⟩
  | co pk h1 => rw [srch0] at h1; cases h1
theorem win_g : winB 2 n0 1 0 2 [rp 0 1] = true := by kernel_rfl
theorem win_c : winB 2 n0 2 0 1 [rp 1 0] = true := by kernel_rfl
theorem solE_g : solE 2 l0 1 0 = 0 := by kernel_rfl
theorem solE_c : solE 2 l0 2 0 = 0 := by kernel_rfl
theorem valE_0 : valE 2 l0 = 0 := by kernel_rfl
theorem str_g : StrOk 2 1 0 2 [rp 0 1] := ⟨by decide, .inl rfl, .inr rfl, by simp [SortR], by simp [rp]⟩
theorem str_c : StrOk 2 2 0 1 [rp 1 0] := ⟨by decide, .inr rfl, .inl rfl, by simp [SortR], by simp [rp]⟩
theorem bl1 : bl 1 = [0] := by kernel_rfl
theorem bl2 : bl 2 = [1] := by kernel_rfl
end Go.Proofs.YtgboplcjafmliaaDoor.G

/- The contract of awake. -/
namespace Go.Proofs.YtgboplcjafmliaaDoor.G
open Go.RowKit Go.Proofs.YtgboplcjafmliaaDoorW.PrintWords Go.Proofs.YtgboplcjafmliaaDoorW.PrintLast Go.Proofs.YtgboplcjafmliaaDoorW.PrintMore
open Go.Proofs.YtgboplcjafmliaaDoor.PAll
set_option linter.unusedVariables false
set_option linter.unusedSimpArgs false

theorem solve_g0 (A : Option Addr) (c : Nat) (w : World) (hT : TabW w) (hr : RdP w A c l0) :
    Calls Tryd.prog 10 #[.agg #[.int .i64 2, .slice A 2 c], .int .i64 1, .int .i64 0] w fun e w' => ∃ A4 c4, e = .returned (.tuple #[.agg #[.int .i64 1, .int .i64 0, .int .i64 2, .slice A4 1 c4], .int .i64 0]) ∧ Aside0 (OwnRp w' w.heap.size (.slice A4 1 c4) [rp 0 1]) ∧ Aside0 (Below w.heap.size w w') :=
  (solve_any 2 l0 (by decide) A c 1 0 w hT hr).mono fun e w' ⟨h, hb⟩ => by
    rcases h with ⟨h, _⟩ | ⟨_, M, r, who, A4, c4, m, pk, hM, hr, _, _, _, _, hS, he, ho⟩
    · exact absurd solE_g h
    · have hM2 : M = 2 := by omega
      have hr0 : r = 0 := by omega
      subst hM2 hr0
      obtain ⟨h1, h2, h3⟩ := awake_g rfl hS
      subst h1 h2
      rw [bl1] at he ho
      rw [List.map_cons, List.map_nil, h3] at ho
      exact ⟨A4, c4, he, ⟨ho⟩, hb⟩
theorem solve_c0 (A : Option Addr) (c : Nat) (w : World) (hT : TabW w) (hr : RdP w A c l0) :
    Calls Tryd.prog 10 #[.agg #[.int .i64 2, .slice A 2 c], .int .i64 2, .int .i64 0] w fun e w' => ∃ A4 c4, e = .returned (.tuple #[.agg #[.int .i64 2, .int .i64 0, .int .i64 1, .slice A4 1 c4], .int .i64 0]) ∧ Aside0 (OwnRp w' w.heap.size (.slice A4 1 c4) [rp 1 0]) ∧ Aside0 (Below w.heap.size w w') :=
  (solve_any 2 l0 (by decide) A c 2 0 w hT hr).mono fun e w' ⟨h, hb⟩ => by
    rcases h with ⟨h, _⟩ | ⟨_, M, r, who, A4, c4, m, pk, hM, hr, _, _, _, _, hS, he, ho⟩
    · exact absurd solE_c h
    · have hM2 : M = 2 := by omega
      have hr0 : r = 0 := by omega
      subst hM2 hr0
      obtain ⟨h1, h2, h3⟩ := awake_c rfl hS
      subst h1 h2
      rw [bl2] at he ho
      rw [List.map_cons, List.map_nil, h3] at ho
      exact ⟨A4, c4, he, ⟨ho⟩, hb⟩
theorem inr0 : InR 2 l0 := fun p hp => by
  simp [l0] at hp
  rcases hp with rfl | rfl <;> decide
theorem check_g0 (A : Option Addr) (c : Nat) (A4 : Option Addr) (c4 base : Nat) (w : World) (hT : TabW w) (hr : RdP w A c l0) (ho : OwnRp w base (.slice A4 1 c4) [rp 0 1]) :
    Calls Tryd.prog 13 #[.agg #[.int .i64 2, .slice A 2 c], .agg #[.int .i64 1, .int .i64 0, .int .i64 2, .slice A4 1 c4]] w fun e w' => e = .returned (.int .i64 0) ∧ Aside0 (Below w.heap.size w w') := by
  have h := check_any 2 2 rfl (by decide) l0 (by decide) valE_0 inr0 A c 1 0 2 A4 c4 base [rp 0 1] str_g w hT hr ho
  rw [show winB 2 (netOf 2 l0) 1 0 2 [rp 0 1] = true from win_g] at h
  exact h
theorem check_c0 (A : Option Addr) (c : Nat) (A4 : Option Addr) (c4 base : Nat) (w : World) (hT : TabW w) (hr : RdP w A c l0) (ho : OwnRp w base (.slice A4 1 c4) [rp 1 0]) :
    Calls Tryd.prog 13 #[.agg #[.int .i64 2, .slice A 2 c], .agg #[.int .i64 2, .int .i64 0, .int .i64 1, .slice A4 1 c4]] w fun e w' => e = .returned (.int .i64 0) ∧ Aside0 (Below w.heap.size w w') := by
  have h := check_any 2 2 rfl (by decide) l0 (by decide) valE_0 inr0 A c 2 0 1 A4 c4 base [rp 1 0] str_c w hT hr ho
  rw [show winB 2 (netOf 2 l0) 2 0 1 [rp 1 0] = true from win_c] at h
  exact h
theorem replies_c0 (A4 : Option Addr) (c4 base : Nat) (w : World) (ho : OwnRp w base (.slice A4 1 c4) [rp 1 0]) :
    Calls Tryd.prog 22 #[.agg #[.int .i64 2, .int .i64 0, .int .i64 1, .slice A4 1 c4], .int .i64 1, .int .i64 0] w fun e w' => e = .returned (.bool true) ∧ Aside0 (Below w.heap.size w w') := by
  obtain ⟨A5, c5, he, hrd⟩ := ho.reads
  injection he with e1 e2 e3
  subst e1 e3
  exact (deliberationlaw25_replies.calls 3 2 0 1 A4 c4 [s77 (rp 1 0)] 1 0 true w hrd.2 hrd.1 (by kernel_rfl)).mono fun e w' ⟨h1, h2⟩ => ⟨h1, ⟨h2⟩⟩
theorem own_l0 (w : World) (base g : Nat) (hb : base ≤ g) (h : w.heap[g]? = some (.cells #[.int .i64 0, .int .i64 1, .int .i64 1, .int .i64 0] 54 (0, 0))) : OwnP w base (.slice (some ⟨g, 0, none⟩) 2 2) l0 :=
  ⟨rfl, .inr ⟨g, 2, _, rfl, hb, h, by decide, by decide, rfl, rfl⟩⟩

set_option maxHeartbeats 4000000 in
set_option maxRecDepth 100000 in
theorem awake_any (w : World) (hT : TabW w) : Calls Tryd.prog 7 #[] w fun e w' => e = .returned (.bool true) ∧ Aside0 (Below w.heap.size w w') := by
  have HT := Aside0.mk hT
  clear hT
  go_enter Tryd.func7, Tryd.ntmps7
  go_upto_region 2 with fail
  have HM0 := ((Mem.refl w).add (.cells #[.int .i64 0, .int .i64 1, .int .i64 1, .int .i64 0] 54 (0, 0))).add (.cells #[.int .i64 2, .slice (some ⟨w.heap.size, 0, none⟩) 2 2] 24 (0, 0))
  rw [show (w.alloc (.cells #[.int .i64 0, .int .i64 1, .int .i64 1, .int .i64 0] 54 (0, 0))).heap.size = w.heap.size + 1 by simp] at HM0
  change Code.wp Tryd.prog _ _ _ ((w.alloc (.cells #[.int .i64 0, .int .i64 1, .int .i64 1, .int .i64 0] 54 (0, 0))).alloc (.cells #[.int .i64 2, .slice (some ⟨w.heap.size, 0, none⟩) 2 2] 24 (0, 0)))
  generalize (w.alloc (.cells #[.int .i64 0, .int .i64 1, .int .i64 1, .int .i64 0] 54 (0, 0))).alloc (.cells #[.int .i64 2, .slice (some ⟨w.heap.size, 0, none⟩) 2 2] 24 (0, 0)) = w1 at *
  have HRd : Aside0 (RdP w1 (some ⟨w.heap.size, 0, none⟩) 2 l0) := by
    obtain ⟨A, c, he, hr⟩ := (own_l0 w1 w.heap.size w.heap.size (Nat.le_refl _) (HM0.st.blk _ (.tail _ (.head _)))).reads
    injection he with e1 e2 e3
    subst e1 e3
    exact ⟨hr⟩
  obtain ⟨gp, hgp⟩ : ∃ gp, w.heap.size = gp := ⟨_, rfl⟩
  rw [hgp] at HM0 HRd ⊢
  clear hgp
  have HM := Aside0.mk HM0
  clear HM0
  have HT1 := Aside0.mk (HT.out.below HT.out.2 HM.out.st.hb)
  have HS1 := Aside0.mk (solve_g0 (some ⟨gp, 0, none⟩) 2 w1 HT1.out HRd.out)
  have hm0 := (HM.out.st.at_ (.head _) 0).trans rfl
  have hm1 := (HM.out.st.at_ (.head _) 1).trans rfl
  go_upto_region 3 with (first | (go_at_call 10; refine HS1.out.mono ?_; rintro e w2 ⟨A4, c4, rfl, HO1, hb⟩))
  have HB2 : Aside0 (Below w1.heap.size w1 (w2.alloc (.cells #[.int .i64 1, .int .i64 0, .int .i64 2, .slice A4 1 c4] 33 (0, 0)))) := ⟨((St.refl w1).nx hb.out |>.nx (below_alloc (Below.refl _ _) _)).hb⟩
  have HM2 := Aside0.mk ((HM.out.nx hb.out).add (.cells #[.int .i64 1, .int .i64 0, .int .i64 2, .slice A4 1 c4] 33 (0, 0)))
  have HO2 := Aside0.mk (HO1.out.below (below_alloc (Below.refl _ _) (.cells #[.int .i64 1, .int .i64 0, .int .i64 2, .slice A4 1 c4] 33 (0, 0))))
  clear HM HO1 hb hm0 hm1 HS1 HT1
  change Code.wp Tryd.prog _ _ _ (w2.alloc (.cells #[.int .i64 1, .int .i64 0, .int .i64 2, .slice A4 1 c4] 33 (0, 0)))
  generalize w2.heap.size = g2 at *
  generalize w2.alloc (.cells #[.int .i64 1, .int .i64 0, .int .i64 2, .slice A4 1 c4] 33 (0, 0)) = w3 at *
  have HRd3 := Aside0.mk (HRd.out.below HB2.out)
  clear HRd HB2
  have HT3 := Aside0.mk (HT.out.below HT.out.2 HM2.out.st.hb)
  have HS3 := Aside0.mk (solve_c0 (some ⟨gp, 0, none⟩) 2 w3 HT3.out HRd3.out)
  have hm0 := (HM2.out.st.at_ (g := gp + 1) (.tail _ (.head _)) 0).trans rfl
  have hm1 := (HM2.out.st.at_ (g := gp + 1) (.tail _ (.head _)) 1).trans rfl
  go_upto_region 4 with (first | (go_at_call 10; refine HS3.out.mono ?_; rintro e w4 ⟨A6, c6, rfl, HO3, hb⟩))
  have HB4 : Aside0 (Below w3.heap.size w3 (w4.alloc (.cells #[.int .i64 2, .int .i64 0, .int .i64 1, .slice A6 1 c6] 33 (0, 0)))) := ⟨((St.refl w3).nx hb.out |>.nx (below_alloc (Below.refl _ _) _)).hb⟩
  have HM4 := Aside0.mk ((HM2.out.nx hb.out).add (.cells #[.int .i64 2, .int .i64 0, .int .i64 1, .slice A6 1 c6] 33 (0, 0)))
  have HO4 := Aside0.mk (HO3.out.below (below_alloc (Below.refl _ _) (.cells #[.int .i64 2, .int .i64 0, .int .i64 1, .slice A6 1 c6] 33 (0, 0))))
  clear HM2 HO3 hb hm0 hm1 HS3 HT3
  change Code.wp Tryd.prog _ _ _ (w4.alloc (.cells #[.int .i64 2, .int .i64 0, .int .i64 1, .slice A6 1 c6] 33 (0, 0)))
  generalize w4.heap.size = g4 at *
  generalize w4.alloc (.cells #[.int .i64 2, .int .i64 0, .int .i64 1, .slice A6 1 c6] 33 (0, 0)) = w5 at *
  have HRd5 := Aside0.mk (HRd3.out.below HB4.out)
  have HO5 := Aside0.mk (HO2.out.below HB4.out)
  clear HRd3 HB4 HO2
  have HF : Aside0 (∀ (x : World), Below w5.heap.size w5 x → TabW x ∧ RdP x (some ⟨gp, 0, none⟩) 2 l0 ∧ OwnRp x w1.heap.size (.slice A4 1 c4) [rp 0 1] ∧ OwnRp x w3.heap.size (.slice A6 1 c6) [rp 1 0]) := ⟨fun x hb => ⟨HT.out.below HT.out.2 (HM4.out.nx hb).st.hb, HRd5.out.below hb, HO5.out.below hb, HO4.out.below hb⟩⟩
  have hm0 := (HM4.out.st.at_ (g := gp + 1) (.tail _ (.tail _ (.head _))) 0).trans rfl
  have hm1 := (HM4.out.st.at_ (g := gp + 1) (.tail _ (.tail _ (.head _))) 1).trans rfl
  have ha0 := (HM4.out.st.at_ (g := g2) (.tail _ (.head _)) 0).trans rfl
  have ha1 := (HM4.out.st.at_ (g := g2) (.tail _ (.head _)) 1).trans rfl
  have ha2 := (HM4.out.st.at_ (g := g2) (.tail _ (.head _)) 2).trans rfl
  have ha3 := (HM4.out.st.at_ (g := g2) (.tail _ (.head _)) 3).trans rfl
  have hb2 := (HM4.out.st.at_ (g := g4) (.head _) 2).trans rfl
  have HMx := Aside0.mk (fun (x : World) (hb : Below w5.heap.size w5 x) => HM4.out.nx hb)
  have HCk : Aside0 (∀ (gm wh : Int) (A' : Option Addr) (c' : Nat) (x : World), Below w5.heap.size w5 x → ((gm = 1 ∧ wh = 2 ∧ A' = A4 ∧ c' = c4) ∨ (gm = 2 ∧ wh = 1 ∧ A' = A6 ∧ c' = c6)) → Calls Tryd.prog 13 #[.agg #[.int .i64 2, .slice (some ⟨gp, 0, none⟩) 2 2], .agg #[.int .i64 gm, .int .i64 0, .int .i64 wh, .slice A' 1 c']] x fun e w' => e = .returned (.int .i64 0) ∧ Aside0 (Below x.heap.size x w')) := ⟨fun gm wh A' c' x hb h => by
    rcases h with ⟨rfl, rfl, rfl, rfl⟩ | ⟨rfl, rfl, rfl, rfl⟩
    · exact check_g0 _ _ _ _ _ x (HF.out x hb).1 (HF.out x hb).2.1 (HF.out x hb).2.2.1
    · exact check_c0 _ _ _ _ _ x (HF.out x hb).1 (HF.out x hb).2.1 (HF.out x hb).2.2.2⟩
  have HC3 := Aside0.mk (fun (x : World) (hb : Below w5.heap.size w5 x) => replies_c0 _ _ _ x (HF.out x hb).2.2.2)
  have HBx : Aside0 (Below w5.heap.size w5 w5) := ⟨Below.refl _ _⟩
  go_wp2_with (first | (go_at_call 13; refine (HCk.out _ _ _ _ _ HBx.out ?hP).mono ?_; (case hP => (first | exact .inl ⟨rfl, rfl, rfl, rfl⟩ | exact .inr ⟨rfl, rfl, rfl, rfl⟩)); rintro e w6 ⟨rfl, hb6⟩; replace HBx := Aside0.mk (below_then HBx.out HBx.out.size hb6.out); clear hb6; have HM6 := Aside0.mk (HMx.out _ HBx.out); have hn0 := (HM6.out.st.at_ (g := gp + 1) (.tail _ (.tail _ (.head _))) 0).trans rfl; have hn1 := (HM6.out.st.at_ (g := gp + 1) (.tail _ (.tail _ (.head _))) 1).trans rfl; have hb0 := (HM6.out.st.at_ (g := g4) (.head _) 0).trans rfl; have hb1 := (HM6.out.st.at_ (g := g4) (.head _) 1).trans rfl; have hb2 := (HM6.out.st.at_ (g := g4) (.head _) 2).trans rfl; have hb3 := (HM6.out.st.at_ (g := g4) (.head _) 3).trans rfl) | (go_at_call 22; refine (HC3.out _ HBx.out).mono ?_; rintro e w8 ⟨rfl, hb8⟩; replace HBx := Aside0.mk (below_then HBx.out HBx.out.size hb8.out)))
  go_ret
  exact ⟨rfl, ⟨(HMx.out _ HBx.out).st.hb⟩⟩
end Go.Proofs.YtgboplcjafmliaaDoor.G

/- What the walk of GameSolved holds all along, and the order of Solve's replies. -/
namespace Go.Proofs.YtgboplcjafmliaaDoor.G
open Go.RowKit Go.Proofs.YtgboplcjafmliaaDoorW.PrintWords Go.Proofs.YtgboplcjafmliaaDoorW.PrintLast Go.Proofs.YtgboplcjafmliaaDoorW.PrintMore
open Go.Proofs.YtgboplcjafmliaaDoor.PAll
set_option linter.unusedVariables false
set_option linter.unusedSimpArgs false
/-- What a law on one graph holds all along: the graph's block and its row. -/
structure EZ (w : World) (M : Nat) (l : List S54) (A : Option Addr) (c base b4 : Nat) (x : World) : Prop where
  hb : Below w.heap.size w x
  box : x.heap[b4]? = some (.cells #[.int .i64 (M : Int), .slice A l.length c] 24 (0, 0))
  own : OwnP x base (.slice A l.length c) l
theorem EZ.nx {w : World} {M : Nat} {l : List S54} {A : Option Addr} {c base b4 : Nat} {x y : World} (h : EZ w M l A c base b4 x) (hb : Below x.heap.size x y) : EZ w M l A c base b4 y where
  hb := below_then h.hb h.hb.size hb
  box := blk_grown h.box (grown_of_below hb none) (by simp)
  own := pw_own_below h.own hb
theorem EZ.rd {w : World} {M : Nat} {l : List S54} {A : Option Addr} {c base b4 : Nat} {x : World} (h : EZ w M l A c base b4 x) : RdP x A c l := by
  obtain ⟨A', c', e, hr⟩ := h.own.reads
  injection e with e1 e2 e3
  subst e1 e3
  exact hr
theorem EZ.tab {w : World} {M : Nat} {l : List S54} {A : Option Addr} {c base b4 : Nat} {x : World} (h : EZ w M l A c base b4 x) (hT : TabW w) : TabW x := hT.below hT.2 h.hb


theorem sorted_mapZ (m : Nat) (pk : Nat → Nat) : SortR ((bl m).map fun x => rp x (pk x)) := by
  unfold SortR
  rw [List.pairwise_map]
  refine (bl_sorted m).imp_of_mem fun {a b} ha hb hab => ?_
  have h1 := bl_lt m a ha
  have h2 := bl_lt m b hb
  have x1 : (Fin.ofNat 64 a).val = a := Nat.mod_eq_of_lt h1
  have x2 : (Fin.ofNat 64 b).val = b := Nat.mod_eq_of_lt h2
  show (Fin.ofNat 64 a).val < (Fin.ofNat 64 b).val
  omega
theorem sol_okZ {M : Nat} (hM : M ≤ 40) {l : List S54} (hIn : InR M l) {root m : Nat} (hr : root < M) (hm : m < 2 ^ M) {game who : Int} {pk : Nat → Nat} (hg : game = 1 ∨ game = 2) (hS : SolP M (netOf M l) root game who m pk) : StrOk M game root who ((bl m).map fun x => rp x (pk x)) := by
  have hok := netOf_ok hM hIn
  have hw : who = 1 ∨ who = 2 := by cases hS <;> simp
  have hpk : ∀ x, x ∈ bl m → pk x < M := by
    intro x hx
    have hb := (mem_bl m x (p64 hM hm)).1 hx
    cases hS with
    | gp _ h1 h2 => exact pickG_lt hok _ (RcA.lt hok ((h2 x).1 hb))
    | go _ h1 h2 =>
      have h3 := Rco_out hok hr h1 ((h2 x).1 hb)
      exact bit_lt hM (hok.lb _) (qO_spec hok h3.1 h3.2).1
    | cp _ s h1 h2 =>
      have h3 := srch_some hok _ _ _ (Nat.pow_lt_pow_right (by omega) hr) h1
      exact bit_lt hM h3.1 (pickS_in hok (RcA_hit hok h3.1 h3.2.2.2 (h3.2.1 root (by simp)) ((h2 x).1 hb))).2
    | co pk h1 => simp at hb
  refine ⟨hr, hg, hw, sorted_mapZ m pk, fun p hp => ?_⟩
  obtain ⟨x, hx, rfl⟩ := List.mem_map.1 hp
  have h1 := bl_in hM hm hx
  have h2 := hpk x hx
  have x1 : (Fin.ofNat 64 x).val = x := Nat.mod_eq_of_lt (by omega)
  have x2 : (Fin.ofNat 64 (pk x)).val = pk x := Nat.mod_eq_of_lt (by omega)
  show (Fin.ofNat 64 x).val < M ∧ (Fin.ofNat 64 (pk x)).val < M
  omega
end Go.Proofs.YtgboplcjafmliaaDoor.G

/- The walk of GameSolved. -/
namespace Go.Proofs.YtgboplcjafmliaaDoor.G
open Go.RowKit Go.Proofs.YtgboplcjafmliaaDoorW.PrintWords Go.Proofs.YtgboplcjafmliaaDoorW.PrintLast Go.Proofs.YtgboplcjafmliaaDoorW.PrintMore
open Go.Proofs.YtgboplcjafmliaaDoor.PAll
set_option linter.unusedVariables false
set_option linter.unusedSimpArgs false

theorem rdI_one (w : World) (g : Nat) (x : Int) (h : w.heap[g]? = some (.cells #[.int .i64 x] 3 (0, 0))) : RdI w (some ⟨g, 0, none⟩) 1 [x] := by
  refine ⟨Nat.le_refl _, rfl, by show 1 ≤ _; decide, fun _ => ⟨_, rfl, fun j p hj => ?_⟩⟩
  cases j with
  | succ j => simp at hj
  | zero =>
    injection hj with hj
    subst hj
    have h1 : w.cell? ⟨g, 0, none⟩ = some (.int .i64 x) := (blk_cell h 0).trans rfl
    refine ⟨[.int .i64 x], rfl, rfl, fun i u hi => ?_⟩
    cases i with
    | zero =>
      injection hi with hi
      rw [← hi]; exact h1
    | succ i => simp at hi
theorem win_who {M : Nat} {l : List S54} {root m : Nat} {game who : Int} {pk : Nat → Nat} (hS : SolP M (netOf M l) root game who m pk) : (who = 1 ∧ winR M l game root = true) ∨ (who = 2 ∧ winR M l game root = false) := by
  unfold winR
  cases hS with
  | gp _ h1 _ => left; exact ⟨rfl, by rw [if_pos rfl]; exact h1⟩
  | go _ h1 _ => right; exact ⟨rfl, by rw [if_pos rfl]; exact h1⟩
  | cp _ s h1 _ => left; exact ⟨rfl, by rw [if_neg (by decide), h1]; rfl⟩
  | co _ h1 => right; exact ⟨rfl, by rw [if_neg (by decide), h1]; rfl⟩
/-- What the law asks of a strategy of Solve. -/
structure SV (M : Nat) (l : List S54) (game : Int) (root : Nat) (who : Int) (rs : List Rp) : Prop where
  ok : StrOk M game root who rs
  w : SolW M (netOf M l) root game who rs
  win : winB M (netOf M l) game root who rs = true
  wh : (who = 1 ∧ winR M l game root = true) ∨ (who = 2 ∧ winR M l game root = false)
  co : game = 2 → who = 2 → rs.length = 0
theorem solved_solve {M : Nat} (hM : M ≤ 9) (l : List S54) (hl : l.length ≤ 1600) (hIn : InR M l) (hv : valE M l = 0) (A : Option Addr) (c : Nat) (k : Int) (hk : k = 1 ∨ k = 2) (n : Nat) (hn : n < M) (w : World) (hT : TabW w) (hr : RdP w A c l) :
    Calls Tryd.prog 10 #[.agg #[.int .i64 (M : Int), .slice A l.length c], .int .i64 k, .int .i64 (n : Int)] w fun e w' => ∃ (who : Int) (rs : List Rp) (A7 : Option Addr) (c7 : Nat), e = .returned (.tuple #[.agg #[.int .i64 k, .int .i64 (n : Int), .int .i64 who, .slice A7 rs.length c7], .int .i64 0]) ∧ Aside0 (SV M l k n who rs) ∧ Aside0 (OwnRp w' w.heap.size (.slice A7 rs.length c7) rs) ∧ Aside0 (Below w.heap.size w w') :=
  (solve_any (M : Int) l (by omega) A c k (n : Int) w hT hr).mono fun e w' ⟨h, hb⟩ => by
    have hs : solE M l k n = 0 := by
      unfold solE
      rw [if_neg (by simp [hv]), if_neg (by simp [hk]), if_neg (by omega), if_neg (by omega)]
    rcases h with ⟨h1, _⟩ | ⟨_, M', r', who, A7, c7, m, pk, hM', hr', hM40, hrM, hIn', hm, hS, he, ho⟩
    · exact absurd hs h1
    · have e1 : M' = M := by omega
      have e2 : r' = n := by omega
      subst e1 e2
      refine ⟨who, (bl m).map fun x => rp x (pk x), A7, c7, by rw [he, List.length_map], ⟨?_⟩, ⟨by rw [List.length_map]; exact ho⟩, hb⟩
      exact ⟨sol_okZ hM40 hIn' hrM hm hk hS, sol_w hM40 hIn' hrM hm hS, sol_wins hM40 hIn' hrM hm hS (fun _ => by omega), win_who hS, fun h1 h2 => by
        subst h1 h2
        cases hS with
        | co _ _ => simp [bl]⟩
/-- Solve on any graph: the error. -/
theorem raw_solve (N : Int) (l : List S54) (hl : l.length < 2 ^ 44) (A : Option Addr) (c : Nat) (k root : Int) (w : World) (hT : TabW w) (hr : RdP w A c l) :
    Calls Tryd.prog 10 #[.agg #[.int .i64 N, .slice A l.length c], .int .i64 k, .int .i64 root] w fun e w' => ∃ (a b d : Int) (A7 : Option Addr) (n7 c7 : Nat), e = .returned (.tuple #[.agg #[.int .i64 a, .int .i64 b, .int .i64 d, .slice A7 n7 c7], .int .i64 (solE N l k root)]) ∧ Aside0 (Below w.heap.size w w') :=
  (solve_any N l hl A c k root w hT hr).mono fun e w' ⟨h, hb⟩ => by
    rcases h with ⟨_, he⟩ | ⟨h0, M', r', who, A7, c7, m, pk, _, _, _, _, _, _, _, he, _⟩
    · exact ⟨_, _, _, _, _, _, he, hb⟩
    · rw [h0]; exact ⟨_, _, _, _, _, _, he, hb⟩
/-- Moves on the line of a root: the error. -/
theorem raw_moves (N : Int) (l : List S54) (hl : l.length < 2 ^ 44) (A : Option Addr) (c : Nat) (k root : Int) (A2 : Option Addr) (c2 : Nat) (w : World) (hT : TabW w) (hr : RdP w A c l) (h2 : RdI w A2 c2 [root]) :
    Calls Tryd.prog 14 #[.agg #[.int .i64 N, .slice A l.length c], .int .i64 k, .slice A2 1 c2] w fun e w' => ∃ (A7 : Option Addr) (n7 c7 : Nat), e = .returned (.tuple #[.slice A7 n7 c7, .int .i64 (argE N l k [root])]) ∧ Aside0 (Below w.heap.size w w') :=
  (moves_any N l hl A c k [root] (by simp) A2 c2 w hT hr h2).mono fun e w' ⟨h, hb⟩ => by
    rcases h with ⟨_, he⟩ | ⟨h0, A7, c7, he, _⟩
    · exact ⟨_, _, _, he, ⟨hb⟩⟩
    · rw [h0]; exact ⟨_, _, _, he, ⟨hb⟩⟩
/-- What the law holds all along: the graph, and the raw graph's block. -/
structure EY (w : World) (M : Nat) (l : List S54) (A : Option Addr) (c base b4 g0 : Nat) (o0 : Obj) (x : World) : Prop where
  ex : EZ w M l A c base b4 x
  k0 : x.heap[g0]? = some o0
theorem EY.nx {w : World} {M : Nat} {l : List S54} {A : Option Addr} {c base b4 g0 : Nat} {o0 : Obj} {x y : World} (h : EY w M l A c base b4 g0 o0 x) (hb : Below x.heap.size x y) : EY w M l A c base b4 g0 o0 y :=
  ⟨h.ex.nx hb, blk_grown h.k0 (grown_of_below hb none) (by simp)⟩
set_option maxHeartbeats 8000000 in
set_option maxRecDepth 100000 in
theorem solved_any (N0 : Int) (l0 : List S54) (A0 : Option Addr) (c0 : Nat) (L : List Int) (A1 : Option Addr) (c1 : Nat) (k0 root0 : Int) (w : World) (hT : TabW w) (hr0 : RdP w A0 c0 l0) (hr : Kd.C (Kd.int .i64) w A1 L.length L) (hc : L.length ≤ c1) :
    Calls Tryd.prog 3 #[.agg #[.int .i64 N0, .slice A0 l0.length c0], .slice A1 L.length c1, .int .i64 k0, .int .i64 root0] w fun e w' => e = .returned (.bool true) ∧ Aside0 (Below w.heap.size w w') := by
  have HT := Aside0.mk hT
  have HR0 := Aside0.mk hr0
  have HN := Aside0.mk (fun W hB => srcNew_any L A1 c1 w hr hc W hB)
  have HB := Aside0.mk (St.refl w)
  have HLi := Aside0.mk (fun W h => light_any N0 l0 A0 c0 W h)
  have HAw := Aside0.mk (fun W h => awake_any W h)
  clear hT hr hr0 hc
  go_enter Tryd.func3, Tryd.ntmps3
  go_upto_region 1 with (first | ((with_reducible refine gate_dst (N := 4) rfl ?_); refine box_st (w := w) 4 #[.int .i64 N0, .slice A0 l0.length c0] 24 rfl rfl ?hr HB.out ?_; (case hr => go_simp; done); clear HB; intro g0 w1 HB GE0; have hx0 := (HB.out.at_ (.head _) 0).trans rfl; have hx1 := (HB.out.at_ (.head _) 1).trans rfl))
  go_cut [22] (fun s22 wx => ∃ r : Bool, s22 = .bool r ∧ (r = false → l0.length ≤ 2000) ∧ Aside0 (St w [(g0, .cells #[.int .i64 N0, .slice A0 l0.length c0] 24 (0, 0))] wx))
  case first =>
    go_wp2_with (first | (go_at_call 6; refine (HLi.out _ (HR0.out.below HB.out.hb)).mono ?_; rintro e w2 ⟨r, rfl, hlr, hb⟩; have HB2 := Aside0.mk (HB.out.nx hb.out)))
    go_meet
    exact ⟨_, rfl, fun h => hlr (by simpa using h), HB2⟩
  case rest =>
    obtain ⟨r, rfl, hlr, HB2⟩ := hcut
    clear HB hx0 hx1
    cases r with
    | true =>
      clear hlr
      go_wp2_with (first | (go_at_call 7; refine (HAw.out _ (HT.out.below HT.out.2 HB2.out.hb)).mono ?_; rintro e w5 ⟨rfl, hb⟩))
      go_ret
      exact ⟨rfl, ⟨(HB2.out.nx hb.out).hb⟩⟩
    | false =>
      have hl0 := hlr rfl
      clear hlr
      go_upto_region 4 with (first | (go_at_call 8; refine (HN.out _ HB2.out.hb).mono ?_; rintro e w3 ⟨g, L', rfl, HS, HB1, hb⟩))
      have HG := Aside0.mk (gen_any w g L' 9 (by decide) (by decide) w3 HS.out HB1.out HB1.out.size)
      have hk3 := Aside0.mk ((HB2.out.nx hb.out).blk _ (.head _))
      have hne := Aside0.mk (HS.out.ne hk3.out (by decide))
      clear HB2 hb HN
      go_upto_region 5 with (first | (go_at_call 9; refine HG.out.mono ?_; rintro e w4 ⟨M, A, c, l, rfl, hM1, hM9, hIn, hv, hl, HO, _, HB4, HKB⟩))
      have HE : Aside0 (EY w M l A c w3.heap.size w4.heap.size g0 (.cells #[.int .i64 N0, .slice A0 l0.length c0] 24 (0, 0)) (w4.alloc (.cells #[.int .i64 (M : Int), .slice A l.length c] 24))) := ⟨{
        ex := {
          hb := below_alloc HB4.out _
          box := blk_new w4 _
          own := pw_own_below HO.out (below_alloc (Below.refl _ _) _) }
        k0 := blk_grown (HKB.out.blk hk3.out hne.out (by simp)) (World.grownBy_alloc _ _ none) (by simp) }⟩
      have hg4 : 0 < w4.heap.size := Nat.lt_of_lt_of_le HT.out.2 HB4.out.size
      clear HG HB1 HB4 HO HKB hk3 hne HS
      change Code.wp Tryd.prog _ _ _ (w4.alloc (.cells #[.int .i64 (M : Int), .slice A l.length c] 24))
      generalize w4.heap.size = b4 at *
      generalize w4.alloc (.cells #[.int .i64 (M : Int), .slice A l.length c] 24) = w5 at *
      generalize w3.heap.size = base at *
      have HIn := Aside0.mk hIn
      have Hv := Aside0.mk hv
      clear hIn hv
      go_wp2
      go_loopw [11] (fun v11 x => ∃ n : Nat, v11 = .int .i64 (n : Int) ∧ n ≤ M ∧ Aside0 (EY w M l A c base b4 g0 (.cells #[.int .i64 N0, .slice A0 l0.length c0] 24 (0, 0)) x)) (fun v11 _ => M - (intOf v11).toNat)
      case atStart => exact ⟨0, rfl, Nat.zero_le _, HE⟩
      case round =>
        clear HE
        obtain ⟨n, rfl, hn, HE⟩ := hrel
        have hx0 := (blk_cell HE.out.ex.box 0).trans rfl
        by_cases hlt : n < M
        · go_upto_region 9 with fail
          have HE2 := Aside0.mk (HE.out.nx (below_alloc (Below.refl _ wr) (.cells #[.int .i64 1, .int .i64 2] 3)))
          have HK2 : Aside0 ((wr.alloc (.cells #[.int .i64 1, .int .i64 2] 3)).heap[wr.heap.size]? = some (.cells #[.int .i64 1, .int .i64 2] 3 (0, 0))) := ⟨blk_new wr _⟩
          clear HE hx0
          change Code.wp Tryd.prog _ _ _ (wr.alloc (.cells #[.int .i64 1, .int .i64 2] 3))
          generalize wr.heap.size = b22 at *
          generalize wr.alloc (.cells #[.int .i64 1, .int .i64 2] 3) = w6 at *
          go_loopw [36] (fun v36 x => ∃ i : Nat, v36 = .int .i64 (i : Int) ∧ i ≤ 2 ∧ Aside0 (EY w M l A c base b4 g0 (.cells #[.int .i64 N0, .slice A0 l0.length c0] 24 (0, 0)) x) ∧ Aside0 (x.heap[b22]? = some (.cells #[.int .i64 1, .int .i64 2] 3 (0, 0)))) (fun v36 _ => 2 - (intOf v36).toNat)
          case atStart => exact ⟨0, rfl, by decide, HE2, HK2⟩
          case round =>
            clear HE2 HK2
            obtain ⟨i, rfl, hi, HE, HK⟩ := hrel
            by_cases hi2 : i < 2
            · obtain ⟨k, hk, hck⟩ : ∃ k : Int, (k = 1 ∨ k = 2) ∧ wr.cell? ⟨b22, i, none⟩ = some (.int .i64 k) := by
                rcases (show i = 0 ∨ i = 1 by omega) with rfl | rfl
                · exact ⟨1, .inl rfl, (blk_cell HK.out 0).trans rfl⟩
                · exact ⟨2, .inr rfl, (blk_cell HK.out 1).trans rfl⟩
              have i1 : decide ((i : Int) < 2) = true := decide_eq_true (by omega)
              have i2 : decide (i < 2) = true := decide_eq_true hi2
              have hx0 := (blk_cell HE.out.ex.box 0).trans rfl
              have hx1 := (blk_cell HE.out.ex.box 1).trans rfl
              have HSol := Aside0.mk (solved_solve hM9 l hl HIn.out Hv.out A c k hk n hlt wr (HE.out.ex.tab HT.out) HE.out.ex.rd)
              go_upto_region 12 with (first | (go_at_call 10; refine HSol.out.mono ?_; rintro e w7 ⟨who, rs, A7, c7, rfl, HSV, HO7, hb⟩))
              have HE5 := Aside0.mk ((HE.out.nx hb.out).nx (below_alloc (Below.refl _ w7) (.cells #[.int .i64 k, .int .i64 (n : Int), .int .i64 who, .slice A7 rs.length c7] 33)))
              have HK5 : Aside0 ((w7.alloc (.cells #[.int .i64 k, .int .i64 (n : Int), .int .i64 who, .slice A7 rs.length c7] 33)).heap[b22]? = some (.cells #[.int .i64 1, .int .i64 2] 3 (0, 0))) := ⟨blk_grown (blk_grown HK.out (grown_of_below hb.out none) (by simp)) (World.grownBy_alloc _ _ none) (by simp)⟩
              have HB8 : Aside0 ((w7.alloc (.cells #[.int .i64 k, .int .i64 (n : Int), .int .i64 who, .slice A7 rs.length c7] 33)).heap[w7.heap.size]? = some (.cells #[.int .i64 k, .int .i64 (n : Int), .int .i64 who, .slice A7 rs.length c7] 33 (0, 0))) := ⟨blk_new w7 _⟩
              have HO8 := Aside0.mk (HO7.out.below (below_alloc (Below.refl _ w7) (.cells #[.int .i64 k, .int .i64 (n : Int), .int .i64 who, .slice A7 rs.length c7] 33)))
              clear HE HK hb HSol hck hx0 hx1 HO7
              change Code.wp Tryd.prog _ _ _ (w7.alloc (.cells #[.int .i64 k, .int .i64 (n : Int), .int .i64 who, .slice A7 rs.length c7] 33))
              generalize w7.heap.size = b8 at *
              generalize w7.alloc (.cells #[.int .i64 k, .int .i64 (n : Int), .int .i64 who, .slice A7 rs.length c7] 33) = w8 at *
              generalize wr.heap.size = base7 at *
              have HGd : Aside0 (St w8 [(b8, .cells #[.int .i64 k, .int .i64 (n : Int), .int .i64 who, .slice A7 rs.length c7] 33 (0, 0)), (b4, .cells #[.int .i64 (M : Int), .slice A l.length c] 24 (0, 0))] w8) := ⟨⟨Below.refl _ _, fun p hp => by
                rcases List.mem_cons.1 hp with rfl | hp
                · exact HB8.out
                · rw [List.mem_singleton] at hp; subst hp; exact HE5.out.ex.box⟩⟩
              have hm8 : ∀ j : Gd (St w8 [(b8, .cells #[.int .i64 k, .int .i64 (n : Int), .int .i64 who, .slice A7 rs.length c7] 33 (0, 0)), (b4, .cells #[.int .i64 (M : Int), .slice A l.length c] 24 (0, 0))]), j.v.heap[b8]? = some (.cells #[.int .i64 k, .int .i64 (n : Int), .int .i64 who, .slice A7 rs.length c7] 33 (0, 0)) ∧ j.v.heap[b4]? = some (.cells #[.int .i64 (M : Int), .slice A l.length c] 24 (0, 0)) := fun j => ⟨j.h.blk _ (.head _), j.h.blk _ (.tail _ (.head _))⟩
              obtain ⟨bs, hbs⟩ : ∃ bs, [(b8, Obj.cells #[.int .i64 k, .int .i64 (n : Int), .int .i64 who, .slice A7 rs.length c7] 33 (0, 0)), (b4, Obj.cells #[.int .i64 (M : Int), .slice A l.length c] 24 (0, 0))] = bs := ⟨_, rfl⟩
              rw [hbs] at HGd hm8
              clear hbs
              have hx0 : ∀ j : Gd (St w8 bs), j.v.cell? ⟨b4, 0, none⟩ = some (.int .i64 (M : Int)) := fun j => (blk_cell (hm8 j).2 0).trans rfl
              have hx1 : ∀ j : Gd (St w8 bs), j.v.cell? ⟨b4, 1, none⟩ = some (.slice A l.length c) := fun j => (blk_cell (hm8 j).2 1).trans rfl
              have hy0 : ∀ j : Gd (St w8 bs), j.v.cell? ⟨b8, 0, none⟩ = some (.int .i64 k) := fun j => (blk_cell (hm8 j).1 0).trans rfl
              have hy1 : ∀ j : Gd (St w8 bs), j.v.cell? ⟨b8, 1, none⟩ = some (.int .i64 (n : Int)) := fun j => (blk_cell (hm8 j).1 1).trans rfl
              have hy2 : ∀ j : Gd (St w8 bs), j.v.cell? ⟨b8, 2, none⟩ = some (.int .i64 who) := fun j => (blk_cell (hm8 j).1 2).trans rfl
              have hy3 : ∀ j : Gd (St w8 bs), j.v.cell? ⟨b8, 3, none⟩ = some (.slice A7 rs.length c7) := fun j => (blk_cell (hm8 j).1 3).trans rfl
              have HT8 := Aside0.mk (HE5.out.ex.tab HT.out)
              have HR8 := Aside0.mk HE5.out.ex.rd
              have HD8 := Aside0.mk (own_reads HO8.out)
              have C11 : Aside0 (∀ j : Gd (St w8 bs), Calls Tryd.prog 11 #[.agg #[.int .i64 (M : Int), .slice A l.length c], .int .i64 k, .int .i64 (n : Int)] j.v fun e w' => e = .returned (.bool (winR M l k n)) ∧ ∃ k' : Gd (St w8 bs), w' = k'.v) := ⟨fun j => j.h.gdnx (rwins_any M (by omega) l (by omega) HIn.out A c k hk n hlt j.v (HT8.out.below HT8.out.2 j.h.hb) (HR8.out.below j.h.hb))⟩
              have C12 : Aside0 (∀ j : Gd (St w8 bs), Calls Tryd.prog 12 #[.agg #[.int .i64 (M : Int), .slice A l.length c], .agg #[.int .i64 k, .int .i64 (n : Int), .int .i64 who, .slice A7 rs.length c7]] j.v fun e w' => e = .returned (.int .i64 0) ∧ ∃ k' : Gd (St w8 bs), w' = k'.v) := ⟨fun j => j.h.gdnx (rcheck_any M (by omega) l (by omega) HIn.out Hv.out A c k n who rs HSV.out.ok HSV.out.w A7 c7 j.v (HT8.out.below HT8.out.2 j.h.hb) (HR8.out.below j.h.hb) (HD8.out.below j.h.hb))⟩
              have C13 : Aside0 (∀ j : Gd (St w8 bs), Calls Tryd.prog 13 #[.agg #[.int .i64 (M : Int), .slice A l.length c], .agg #[.int .i64 k, .int .i64 (n : Int), .int .i64 who, .slice A7 rs.length c7]] j.v fun e w' => e = .returned (.int .i64 0) ∧ ∃ k' : Gd (St w8 bs), w' = k'.v) := ⟨fun j => j.h.gdnx (by
                have h := check_any (M : Int) M rfl (by omega) l (by omega) Hv.out HIn.out A c k n who A7 c7 base7 rs HSV.out.ok j.v (HT8.out.below HT8.out.2 j.h.hb) (HR8.out.below j.h.hb) (HO8.out.below j.h.hb)
                rw [HSV.out.win] at h
                exact h)⟩
              have hwh := HSV.out.wh
              have hco := HSV.out.co
              haveI : Nonempty (Gd (St w8 bs)) := ⟨⟨w8, HGd.out⟩⟩
              clear hm8 HB8 HO8 HT8 HR8 HD8 HSV
              generalize winR M l k n = wr0 at *
              have hz0 : k = 2 → who = 2 → decide ((0 : Int) < (rs.length : Int)) = false := fun h1 h2 => decide_eq_false (by have := hco h1 h2; omega)
              clear hco
              rcases hk with rfl | rfl
              all_goals
                rcases hwh with ⟨rfl, rfl⟩ | ⟨rfl, rfl⟩
              rotate_left 3
              · have hz := hz0 rfl rfl
                have hz' : decide (0 < rs.length) = false := decide_eq_false (by have := of_decide_eq_false hz; omega)
                clear hz0
                refine wp_quiet_cls (fun x => ∃ j : Gd (St w8 bs), x = j.v) (by kernel_rfl) (by kernel_rfl) ⟨⟨w8.drew, HGd.out.drew⟩, rfl⟩ ?_
                repeat (go_big_quiet_step (first | (go_at_call 11; exact C11.out _) | (go_at_call 12; exact C12.out _) | (go_at_call 13; exact C13.out _)))
                refine wpQuiet_nil ?_
                clear hx0 hx1 hy0 hy1 hy2 hy3 this C11 C12 C13
                rintro _ ⟨⟨w9, hb9⟩, rfl⟩
                have HE9 := Aside0.mk (HE5.out.nx hb9.hb)
                have HK9 := Aside0.mk (blk_grown HK5.out (grown_of_below hb9.hb none) (by simp))
                clear hb9 HE5 HK5 HGd
                go_wp2
                exact ⟨⟨i + 1, by go_num, by omega, HE9, HK9⟩, by simp [intOf]; omega⟩
              all_goals
                clear hz0
                refine wp_quiet_cls (fun x => ∃ j : Gd (St w8 bs), x = j.v) (by kernel_rfl) (by kernel_rfl) ⟨⟨w8.drew, HGd.out.drew⟩, rfl⟩ ?_
                repeat (go_big_quiet_step (first | (go_at_call 11; exact C11.out _) | (go_at_call 12; exact C12.out _) | (go_at_call 13; exact C13.out _)))
                refine wpQuiet_nil ?_
                clear hx0 hx1 hy0 hy1 hy2 hy3 this C11 C12 C13
                rintro _ ⟨⟨w9, hb9⟩, rfl⟩
                have HE9 := Aside0.mk (HE5.out.nx hb9.hb)
                have HK9 := Aside0.mk (blk_grown HK5.out (grown_of_below hb9.hb none) (by simp))
                clear hb9 HE5 HK5 HGd
                go_wp2
                exact ⟨⟨i + 1, by go_num, by omega, HE9, HK9⟩, by simp [intOf]; omega⟩
            · go_wp2
              exact ⟨⟨n + 1, by go_num, hlt, HE⟩, by simp [intOf]; omega⟩
        · have HE := Aside0.mk HE.out
          have hz0 := (blk_cell HE.out.k0 0).trans rfl
          have hz1 := (blk_cell HE.out.k0 1).trans rfl
          have HSo := Aside0.mk (raw_solve N0 l0 (by omega) A0 c0 k0 root0 wr (HE.out.ex.tab HT.out) (HR0.out.below HE.out.ex.hb))
          go_upto_region 16 with (first | (go_at_call 10; refine HSo.out.mono ?_; rintro e w7 ⟨a7, b7, d7, A7, n7, c7, rfl, hb⟩))
          have HE5 := Aside0.mk ((HE.out.nx hb.out).nx (below_alloc (Below.refl _ w7) (.cells #[.int .i64 a7, .int .i64 b7, .int .i64 d7, .slice A7 n7 c7] 33)))
          clear HE hb HSo hx0 hz0 hz1
          change Code.wp Tryd.prog _ _ _ (w7.alloc (.cells #[.int .i64 a7, .int .i64 b7, .int .i64 d7, .slice A7 n7 c7] 33))
          generalize w7.heap.size = b8 at *
          generalize w7.alloc (.cells #[.int .i64 a7, .int .i64 b7, .int .i64 d7, .slice A7 n7 c7] 33) = w8 at *
          have hz0 := (blk_cell HE5.out.k0 0).trans rfl
          have hz1 := (blk_cell HE5.out.k0 1).trans rfl
          have HE6 := Aside0.mk (HE5.out.nx (below_alloc (Below.refl _ w8) (.cells #[.int .i64 root0] 3)))
          have HMv := Aside0.mk (raw_moves N0 l0 (by omega) A0 c0 k0 root0 (some ⟨w8.heap.size, 0, none⟩) 1 (w8.alloc (.cells #[.int .i64 root0] 3)) (HE6.out.ex.tab HT.out) (HR0.out.below HE6.out.ex.hb) (rdI_one _ _ _ (blk_new w8 _)))
          have HRaw := Aside0.mk (raw_eq N0 l0 k0 root0)
          generalize solE N0 l0 k0 root0 = xs at *
          generalize argE N0 l0 k0 [root0] = f at *
          go_upto_region 17 with (first | (go_at_call 14; refine HMv.out.mono ?_; rintro e w9 ⟨A9, n9, c9, rfl, hb⟩))
          have HE9 := Aside0.mk (HE6.out.nx hb.out)
          clear HE5 HE6 HMv hb hz0 hz1
          have hz0 := (blk_cell HE9.out.k0 0).trans rfl
          have hraw := HRaw.out
          clear HRaw
          unfold rawF at hraw
          have HTe := Aside0.mk (HE9.out.ex.tab HT.out)
          by_cases h7 : f = 7
          · subst h7
            rw [if_pos rfl] at hraw
            by_cases hk2 : k0 = 2
            · subst hk2
              by_cases hN : 10 < N0
              · rw [if_pos ⟨rfl, rfl, hN⟩] at hraw
                subst hraw
                have qN : decide (10 < N0) = true := decide_eq_true hN
                go_wp2_with (first | (go_at_call 7; refine (HAw.out _ HTe.out).mono ?_; rintro e w11 ⟨rfl, hb⟩))
                go_ret
                exact ⟨rfl, ⟨(HE9.out.nx hb.out).ex.hb⟩⟩
              · rw [if_neg (fun h => hN h.2.2)] at hraw
                subst hraw
                have qN : decide (10 < N0) = false := decide_eq_false hN
                go_wp2_with (first | (go_at_call 7; refine (HAw.out _ HTe.out).mono ?_; rintro e w11 ⟨rfl, hb⟩))
                go_ret
                exact ⟨rfl, ⟨(HE9.out.nx hb.out).ex.hb⟩⟩
            · rw [if_neg (fun h => hk2 h.2.1)] at hraw
              subst hraw
              have qk : (k0 == 2) = false := beq_eq_false_iff_ne.2 hk2
              clear hk2
              go_wp2_with (first | (go_at_call 7; refine (HAw.out _ HTe.out).mono ?_; rintro e w11 ⟨rfl, hb⟩))
              go_ret
              exact ⟨rfl, ⟨(HE9.out.nx hb.out).ex.hb⟩⟩
          · rw [if_neg h7] at hraw
            have q7 : (f == 7) = false := beq_eq_false_iff_ne.2 h7
            clear h7
            by_cases h0 : f = 0
            · subst h0
              by_cases hk2 : k0 = 2
              · subst hk2
                by_cases hN : 10 < N0
                · rw [if_pos ⟨rfl, rfl, hN⟩] at hraw
                  subst hraw
                  have qN : decide (10 < N0) = true := decide_eq_true hN
                  go_wp2_with (first | (go_at_call 7; refine (HAw.out _ HTe.out).mono ?_; rintro e w11 ⟨rfl, hb⟩))
                  go_ret
                  exact ⟨rfl, ⟨(HE9.out.nx hb.out).ex.hb⟩⟩
                · rw [if_neg (fun h => hN h.2.2)] at hraw
                  subst hraw
                  have qN : decide (10 < N0) = false := decide_eq_false hN
                  go_wp2_with (first | (go_at_call 7; refine (HAw.out _ HTe.out).mono ?_; rintro e w11 ⟨rfl, hb⟩))
                  go_ret
                  exact ⟨rfl, ⟨(HE9.out.nx hb.out).ex.hb⟩⟩
              · rw [if_neg (fun h => hk2 h.2.1)] at hraw
                subst hraw
                have qk : (k0 == 2) = false := beq_eq_false_iff_ne.2 hk2
                clear hk2
                go_wp2_with (first | (go_at_call 7; refine (HAw.out _ HTe.out).mono ?_; rintro e w11 ⟨rfl, hb⟩))
                go_ret
                exact ⟨rfl, ⟨(HE9.out.nx hb.out).ex.hb⟩⟩
            · rw [if_neg (fun h => h0 h.1)] at hraw
              subst hraw
              have q0 : (xs == 0) = false := beq_eq_false_iff_ne.2 h0
              clear h0
              go_wp2_with (first | (go_at_call 7; refine (HAw.out _ HTe.out).mono ?_; rintro e w11 ⟨rfl, hb⟩))
              go_ret
              exact ⟨rfl, ⟨(HE9.out.nx hb.out).ex.hb⟩⟩
end Go.Proofs.YtgboplcjafmliaaDoor.G
