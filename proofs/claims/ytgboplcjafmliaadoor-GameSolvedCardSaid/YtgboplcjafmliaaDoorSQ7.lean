/- The contract of game.Check at a strategy whose parts are in order. -/
import Derived.Test.YtgboplcjafmliaaDoorSQ6
import Derived.Test.YtgboplcjafmliaaDoorPAllx9
/- The contract of game.Check at a strategy whose parts are in order. -/
namespace Go.Proofs.YtgboplcjafmliaaDoor.G
open Go.RowKit Go.Proofs.YtgboplcjafmliaaDoorW.PrintWords Go.Proofs.YtgboplcjafmliaaDoorW.PrintLast Go.Proofs.YtgboplcjafmliaaDoorW.PrintMore
open Go.Proofs.YtgboplcjafmliaaDoor.PAll
set_option linter.unusedVariables false
set_option linter.unusedSimpArgs false

/-- Whether a strategy wins, as the checker finds it. -/
def winB (N : Nat) (n : NetD) (game : Int) (root : Nat) (who : Int) (rs : List Rp) : Bool :=
  if who = 1 then (vis n rs game (N + 1) root (s00 N)).1 && (game == 1 || freeB n (vis n rs game (N + 1) root (s00 N)).2.reached)
  else if game = 1 then (rst n rs (N + 1) root 0).1
  else if 10 < N ∨ 0 < rs.length then false else (srch n (N + 1) (2 ^ root)).isNone
theorem winsB_eq (d : CkD) : winsB d = winB d.N d.n d.game d.root d.who d.rs := rfl
/-- A strategy whose parts are in order. -/
structure StrOk (N : Nat) (game : Int) (root : Nat) (who : Int) (rs : List Rp) : Prop where
  root : root < N
  game : game = 1 ∨ game = 2
  who : who = 1 ∨ who = 2
  so : SortR rs
  lt : ∀ p, p ∈ rs → p.1.val < N ∧ p.2.val < N
theorem StrOk.len {N : Nat} {game : Int} {root : Nat} {who : Int} {rs : List Rp} (h : StrOk N game root who rs) (hN : N ≤ 40) : rs.length ≤ 40 := by
  have h1 : (rs.map fun p => p.1.val).Nodup := by
    rw [List.nodup_iff_pairwise_ne, List.pairwise_map]
    exact h.so.imp fun h => Nat.ne_of_lt h
  have := nodup_le N _ h1 (fun a ha => by obtain ⟨p, hp, rfl⟩ := List.mem_map.1 ha; exact (h.lt p hp).1)
  rw [List.length_map] at this
  omega

set_option maxHeartbeats 1000000 in
theorem in_any (N : Nat) (x : Nat) (hx : x < N) (A : Option Addr) (m c : Nat) (g : Nat) (w : World) (hg : w.heap[g]? = some (.cells #[.int .i64 (N : Int), .slice A m c] 24 (0, 0))) :
    Calls Tryd.prog 39 #[.int .i64 (x : Int), .pointer (some ⟨g, 0, none⟩)] w fun e w' => e = .returned (.bool true) ∧ w = w' := by
  have hg0 := (blk_cell hg 0).trans rfl
  have e1 : decide ((0 : Int) ≤ (x : Int)) = true := decide_eq_true (by omega)
  have e2 : decide ((x : Int) < (N : Int)) = true := decide_eq_true (by omega)
  have e3 : decide (x < N) = true := decide_eq_true hx
  clear hg
  go_enter Tryd.func39, Tryd.ntmps39
  go_wp2
  go_ret
  exact ⟨rfl, rfl⟩

/-- The error of Check at a strategy whose parts are in order. -/
def chkE (b : Bool) : Int := if b = true then 0 else 11
theorem made_zero (n : Nat) : madeCells #[Value.int .i64 0] n = i64s (List.replicate n 0) := by
  apply Array.toList_inj.1
  apply List.ext_getElem
  · simp [i64s, up, madeCells]
  · intro i h1 h2
    simp [i64s, up, madeCells, Nat.mod_one]
theorem ck_of (d : CkD) {w wx : World} {rest : List (Nat × Obj)} (hT : TabW w) (ho : OwnRp w d.base (.slice d.A d.rs.length d.c) d.rs) (hm : Mem w ((d.g, .cells (d.cells 0) 84 (0, 0)) :: (d.h, .cells (madeCells #[Value.int .i64 0] d.N) 3 (0, 0)) :: rest) wx) (h1 : wx.heap[d.b1]? = some (.cells (u64s d.n.by_) 61 (0, 0))) (h2 : wx.heap[d.b2]? = some (.cells (u64s d.n.out) 61 (0, 0))) :
    CkS d (s00 d.N) wx ∧ Below w.heap.size w wx ∧ w.heap.size ≤ d.g ∧ w.heap.size ≤ d.h := by
  refine ⟨⟨hT.below hT.2 hm.st.hb, h1, h2, ho.below hm.st.hb, hm.st.blk _ (.head _), ?_, by simp [s00], Nat.two_pow_pos _⟩, hm.st.hb, hm.lo _ (.head _), hm.lo _ (.tail _ (.head _))⟩
  have h3 := hm.st.blk _ (.tail _ (.head _))
  rw [made_zero] at h3
  exact h3
set_option maxHeartbeats 8000000 in
set_option maxRecDepth 100000 in
theorem check_any (N : Int) (M : Nat) (hNM : N = M) (hM : M ≤ 40) (l : List S54) (hl : l.length < 2 ^ 44) (hv : valE N l = 0) (hin : InR M l) (A : Option Addr) (c : Nat) (game : Int) (root : Nat) (who : Int) (A4 : Option Addr) (c4 base : Nat) (rs : List Rp) (hok : StrOk M game root who rs) (w : World) (hT : TabW w) (hr : RdP w A c l) (ho : OwnRp w base (.slice A4 rs.length c4) rs) :
    Calls Tryd.prog 13 #[.agg #[.int .i64 N, .slice A l.length c], .agg #[.int .i64 game, .int .i64 (root : Int), .int .i64 who, .slice A4 rs.length c4]] w fun e w' => e = .returned (.int .i64 (chkE (winB M (netOf M l) game root who rs))) ∧ Aside0 (Below w.heap.size w w') := by
  have HT := Aside0.mk hT
  have HR := Aside0.mk hr
  have HO := Aside0.mk ho
  have HOk := Aside0.mk hok
  have HNM := Aside0.mk hNM
  have HIn := Aside0.mk hin
  have hlen := hok.len hM
  clear hT hr ho hok hNM hin
  have HVal := Aside0.mk (fun W h => validate_any N l hl A c W h)
  rw [hv] at HVal
  have HEx := Aside0.mk (fun W => exists_any game W)
  have e3 : decide (game = 1 ∨ game = 2) = true := decide_eq_true HOk.out.game
  rw [e3] at HEx
  have HB := Aside0.mk (Mem.refl w)
  clear hv e3
  go_enter Tryd.func13, Tryd.ntmps13
  go_upto_region 5 with (first | ((with_reducible refine gate_dst (N := 2) rfl ?_); refine box_mem (w := w) 2 #[.int .i64 N, .slice A l.length c] 24 rfl rfl ?hr HB.out ?_; (case hr => go_simp; done); clear HB; intro g w1 HB HW) | ((with_reducible refine gate_dst (N := 3) rfl ?_); refine box_mem (w := w) 3 #[.int .i64 game, .int .i64 (root : Int), .int .i64 who, .slice A4 rs.length c4] 33 rfl rfl ?hr HB.out ?_; (case hr => go_simp; done); clear HB HW; intro g2 w2 HB HW; have hg0 := (HB.out.st.at_ (.tail _ (.head _)) 0).trans rfl; have hg1 := (HB.out.st.at_ (.tail _ (.head _)) 1).trans rfl) | (go_at_call 23; refine (HVal.out _ (HR.out.below HB.out.st.hb)).mono ?_; rintro e w3 ⟨rfl, hb⟩; have HB3 := Aside0.mk (HB.out.nx hb.out); clear hb HB hg0 hg1))
  have hk0 := (HB3.out.st.at_ (g := g2) (.head _) 0).trans rfl
  have hk1 := (HB3.out.st.at_ (g := g2) (.head _) 1).trans rfl
  have hk2 := (HB3.out.st.at_ (g := g2) (.head _) 2).trans rfl
  go_cut [30] (fun s30 wx => s30 = .bool false ∧ wx = w3)
  case first =>
    rcases HOk.out.who with hw | hw
    · have q1 : (who != 1) = false := by rw [bne_eq_false_iff_eq]; exact hw
      clear hw
      go_wp2_with (first | (go_at_call 24; refine (HEx.out _).mono ?_; rintro e w' ⟨rfl, rfl⟩))
      go_meet
      exact ⟨rfl, rfl⟩
    · have q1 : (who != 1) = true := by rw [bne_iff_ne, hw]; decide
      have q2 : (who != 2) = false := by rw [bne_eq_false_iff_eq]; exact hw
      clear hw
      go_wp2_with (first | (go_at_call 24; refine (HEx.out _).mono ?_; rintro e w' ⟨rfl, rfl⟩))
      go_meet
      exact ⟨rfl, rfl⟩
  case rest =>
    obtain ⟨rfl, rfl⟩ := hcut
    have HI39 : Aside0 (∀ (x : Nat), x < M → ∀ W : World, W.heap[g]? = some (.cells #[.int .i64 N, .slice A l.length c] 24 (0, 0)) → Calls Tryd.prog 39 #[.int .i64 (x : Int), .pointer (some ⟨g, 0, none⟩)] W fun e w' => e = .returned (.bool true) ∧ W = w') := ⟨fun x hx W hW => by
      rw [HNM.out] at hW
      exact in_any M x hx A l.length c g W hW⟩
    have hk3 := (HB3.out.st.at_ (g := g2) (.head _) 3).trans rfl
    clear HEx HVal hk0 hk2
    go_wp2_with (first | (go_at_call 39; refine (HI39.out root HOk.out.root _ (HB3.out.st.blk _ (.tail _ (.head _)))).mono ?_; rintro e w' ⟨rfl, rfl⟩))
    clear hk1 hk3
    go_loopw [8, 39] (fun v8 v39 w' => ∃ k : Nat, v39 = .int .i64 (k : Int) ∧ k ≤ rs.length ∧ Aside0 (Mem w [(g2, .cells #[.int .i64 game, .int .i64 (root : Int), .int .i64 who, .slice A4 rs.length c4] 33 (0, 0)), (g, .cells #[.int .i64 N, .slice A l.length c] 24 (0, 0))] w')) (fun _ v39 _ => rs.length - (intOf v39).toNat)
    case atStart => exact ⟨0, rfl, Nat.zero_le _, HB3⟩
    case round =>
      clear HB3
      obtain ⟨k, rfl, hk, HM⟩ := hrel
      by_cases hlt : k < rs.length
      · obtain ⟨A5, c5, he, hrd⟩ := (HO.out.below HM.out.st.hb).reads
        injection he with e1 e2 e3
        subst e1 e3
        obtain ⟨ad, rfl, hc0, hc1⟩ := hrd.cell k hlt
        have hpm : nthR rs k ∈ rs := by rw [nthR_get rs k hlt]; exact List.getElem_mem hlt
        have hpl := HOk.out.lt _ hpm
        clear hpm hrd
        obtain ⟨p1, hp1⟩ : ∃ p, (nthR rs k).1.val = p := ⟨_, rfl⟩
        obtain ⟨p2, hp2⟩ : ∃ p, (nthR rs k).2.val = p := ⟨_, rfl⟩
        rw [hp1] at hc0 hpl
        rw [hp2] at hc1 hpl
        obtain ⟨hl1, hl2⟩ := hpl
        clear hp1 hp2
        have HMa := Aside0.mk (HM.out.add (.cells #[.int .i64 (p1 : Int), .int .i64 (p2 : Int)] 77 (0, 0)))
        go_wp2_with (first | (go_at_call 39; refine (HI39.out _ ?hx _ (HMa.out.st.blk _ (.tail _ (.tail _ (.head _))))).mono ?_; (case hx => (first | exact hl1 | exact hl2)); rintro e w' ⟨rfl, rfl⟩))
        go_roundw
        case rel => exact ⟨k + 1, by go_num, hlt, ⟨HMa.out.sub⟩⟩
        case measure => simp [intOf]; omega
      · go_wp2
        go_loopw [9] (fun v9 w' => ∃ k : Nat, v9 = .int .i64 (k : Int) ∧ 1 ≤ k ∧ k ≤ rs.length + 1 ∧ Aside0 (Mem w [(g2, .cells #[.int .i64 game, .int .i64 (root : Int), .int .i64 who, .slice A4 rs.length c4] 33 (0, 0)), (g, .cells #[.int .i64 N, .slice A l.length c] 24 (0, 0))] w')) (fun v9 _ => rs.length + 1 - (intOf v9).toNat)
        case atStart => exact ⟨1, rfl, Nat.le_refl _, by omega, HM⟩
        case round =>
          clear HM hlt hk
          obtain ⟨k, rfl, hk1, hk, HM⟩ := hrel
          have hm3 := (HM.out.st.at_ (g := g2) (.head _) 3).trans rfl
          by_cases hlt : k < rs.length
          · obtain ⟨A5, c5, he, hrd⟩ := (HO.out.below HM.out.st.hb).reads
            injection he with e1 e2 e3
            subst e1 e3
            obtain ⟨ad, rfl, hc0, hc1⟩ := hrd.cell k hlt
            obtain ⟨ad', he, hd0, hd1⟩ := hrd.cell (k - 1) (by omega)
            injection he with he
            subst he
            have hord := HOk.out.so.lt (i := k - 1) (j := k) (by omega) hlt
            clear hrd hc1 hd1
            obtain ⟨p1, hp1⟩ : ∃ p, (nthR rs k).1.val = p := ⟨_, rfl⟩
            obtain ⟨p2, hp2⟩ : ∃ p, (nthR rs (k - 1)).1.val = p := ⟨_, rfl⟩
            rw [hp1] at hc0 hord
            rw [hp2] at hd0 hord
            clear hp1 hp2
            have q0 : (k : Int) < (rs.length : Int) := by omega
            have q1 : (0 : Int) ≤ (k : Int) - 1 := by omega
            have q2 : (k : Int) - 1 < (rs.length : Int) := by omega
            have q3 : ((k : Int) - 1).toNat = k - 1 := by omega
            have q4 : IntKind.i64.wrap ((k : Int) - 1) = (k : Int) - 1 := IntWalk.i64_in _ (by omega)
            have q5 : decide ((p1 : Int) ≤ (p2 : Int)) = false := decide_eq_false (by omega)
            have q6 : decide (p1 ≤ p2) = false := decide_eq_false (by omega)
            go_wp2
            go_quiet (fail)
            have HM2 := Aside0.mk (HM.out.drewN nq)
            clear q0 q1 q2 q3 q4 hc0 hd0 hm3 HM
            go_wp2
            go_roundw
            case rel => exact ⟨k + 1, by go_num, by omega, by omega, HM2⟩
            case measure => simp [intOf]; omega
          · go_upto_region 20 with fail
            have hNM := HNM.out
            subst hNM
            have hmk := print_make (P := Tryd.prog) 25 3 .i64 8 Tryd.underlying25 info3 (by decide) M (by omega)
            have HNew := Aside0.mk (fun W h => new_blk M hM l hl HIn.out A c W h)
            let S1 : Obj := .cells #[.int .i64 (M : Int), .slice A l.length c] 24 (0, 0)
            let S2 : Obj := .cells #[.int .i64 game, .int .i64 (root : Int), .int .i64 who, .slice A4 rs.length c4] 33 (0, 0)
            let SM : Obj := .cells (madeCells #[Value.int .i64 0] M) 3 (0, 0)
            have HSf : Aside0 (∀ (x : World) (bs : List (Nat × Obj)), Mem w bs x → (g2, S2) ∈ bs → (g, S1) ∈ bs → x.cell? ⟨g, 0, none⟩ = some (.int .i64 (M : Int)) ∧ x.cell? ⟨g, 1, none⟩ = some (.slice A l.length c) ∧ x.cell? ⟨g2, 0, none⟩ = some (.int .i64 game) ∧ x.cell? ⟨g2, 1, none⟩ = some (.int .i64 (root : Int)) ∧ x.cell? ⟨g2, 2, none⟩ = some (.int .i64 who) ∧ x.cell? ⟨g2, 3, none⟩ = some (.slice A4 rs.length c4)) :=
              ⟨fun x bs h h2 h1 => ⟨(h.st.at_ h1 0).trans rfl, (h.st.at_ h1 1).trans rfl, (h.st.at_ h2 0).trans rfl, (h.st.at_ h2 1).trans rfl, (h.st.at_ h2 2).trans rfl, (h.st.at_ h2 3).trans rfl⟩⟩
            have HX3 : Aside0 (Mem w ((wr.heap.size, SM) :: [(g2, S2), (g, S1)]) (wr.alloc SM)) := ⟨HM.out.add SM⟩
            go_cut [10] (fun s10 wx => ∃ (b1 b2 g84 h : Nat), s10 = .pointer (some ⟨g84, 0, none⟩) ∧ Aside0 (CkS ⟨M, netOf M l, b1, b2, game, root, who, A4, c4, base, rs, g84, h⟩ (s00 M) wx) ∧ Aside0 (Below w.heap.size w wx) ∧ Aside0 (w.heap.size ≤ g84 ∧ w.heap.size ≤ h))
            case first =>
              obtain ⟨n0, n1, m0, m1, m2, m3⟩ := HSf.out _ _ HM.out (.head _) (.tail _ (.head _))
              obtain ⟨n0x, n1x, m0x, m1x, m2x, m3x⟩ := HSf.out _ _ HX3.out (.tail _ (.head _)) (.tail _ (.tail _ (.head _)))
              clear hm3
              go_region_held3 (fun x => x.cell? ⟨g, 0, none⟩ = some (.int .i64 (M : Int)) ∧ x.cell? ⟨g, 1, none⟩ = some (.slice A l.length c) ∧ x.cell? ⟨g2, 0, none⟩ = some (.int .i64 game) ∧ x.cell? ⟨g2, 1, none⟩ = some (.int .i64 (root : Int)) ∧ x.cell? ⟨g2, 2, none⟩ = some (.int .i64 who) ∧ x.cell? ⟨g2, 3, none⟩ = some (.slice A4 rs.length c4)) (first | go_keep | exact HSf.out _ _ HM.out (.head _) (.tail _ (.head _)) | exact HSf.out _ _ HX3.out (.tail _ (.head _)) (.tail _ (.tail _ (.head _))) | exact HSf.out _ _ HL2.out (.head _) (.tail _ (.head _)) | exact HSf.out _ _ HL3.out (.tail _ (.head _)) (.tail _ (.tail _ (.head _))) | exact HSf.out _ _ HL4.out (.tail _ (.tail _ (.head _))) (.tail _ (.tail _ (.tail _ (.head _)))) | (trace_state; fail))
                (first | (go_at_call 25; first | (refine (HNew.out _ (HR.out.below HM.out.st.hb.drew)).mono ?_; rintro e w5 ⟨b1, b2, rfl, hb1, hb2, hll, hb⟩; have HL2 := Aside0.mk (HM.out.drew.nx hb.out)) | (refine (HNew.out _ (HR.out.below HX3.out.st.hb.drew)).mono ?_; rintro e w5 ⟨b1, b2, rfl, hb1, hb2, hll, hb⟩; have HL3 := Aside0.mk (HX3.out.drew.nx hb.out))))
              all_goals (go_wp2_with fail; go_meet)
              · have HL4 := (HL2.out.add SM).add (.cells (CkD.cells ⟨M, netOf M l, b1, b2, game, root, who, A4, c4, base, rs, w5.heap.size + 1, w5.heap.size⟩ 0) 84 (0, 0))
                rw [show (w5.alloc SM).heap.size = w5.heap.size + 1 by simp] at HL4
                have R := ck_of ⟨M, netOf M l, b1, b2, game, root, who, A4, c4, base, rs, w5.heap.size + 1, w5.heap.size⟩ HT.out HO.out HL4 (blk_grown (blk_grown hb1.out (World.grownBy_alloc _ _ none) (by simp)) (World.grownBy_alloc _ _ none) (by simp)) (blk_grown (blk_grown hb2.out (World.grownBy_alloc _ _ none) (by simp)) (World.grownBy_alloc _ _ none) (by simp))
                exact ⟨b1, b2, w5.heap.size + 1, w5.heap.size, rfl, ⟨R.1⟩, ⟨R.2.1⟩, ⟨R.2.2⟩⟩
              · have HL4 := HL3.out.add (.cells (CkD.cells ⟨M, netOf M l, b1, b2, game, root, who, A4, c4, base, rs, w5.heap.size, wr.heap.size⟩ 0) 84 (0, 0))
                have R := ck_of ⟨M, netOf M l, b1, b2, game, root, who, A4, c4, base, rs, w5.heap.size, wr.heap.size⟩ HT.out HO.out HL4 (blk_grown hb1.out (World.grownBy_alloc _ _ none) (by simp)) (blk_grown hb2.out (World.grownBy_alloc _ _ none) (by simp))
                exact ⟨b1, b2, w5.heap.size, wr.heap.size, rfl, ⟨R.1⟩, ⟨R.2.1⟩, ⟨R.2.2⟩⟩
            case rest =>
              obtain ⟨b1, b2, g84, h, rfl, HC, HBl, HGe⟩ := hcut
              have hdo : CkD.Ok ⟨M, netOf M l, b1, b2, game, root, who, A4, c4, base, rs, g84, h⟩ := ⟨netOf_ok hM HIn.out, HOk.out.root, HOk.out.game, HOk.out.who, HOk.out.so, HOk.out.lt, by have := hlen; show rs.length < 1000; omega, Nat.lt_of_lt_of_le HT.out.2 HGe.out.1, Nat.lt_of_lt_of_le HT.out.2 HGe.out.2⟩
              have HWn := Aside0.mk (wins_any _ hdo _ HC.out)
              rw [winsB_eq] at HWn
              simp only at HWn
              clear hm3 HSf HX3 HM hmk HNew hdo
              obtain ⟨b, hb⟩ : ∃ b, winB M (netOf M l) game root who rs = b := ⟨_, rfl⟩
              rw [hb] at HWn
              have HBb := Aside0.mk hb
              clear hb
              cases b with
              | true =>
                go_wp2_with (first | (go_at_call 40; refine HWn.out.mono ?_; rintro e w9 ⟨rfl, HK⟩))
                go_ret
                exact ⟨by rw [HBb.out]; rfl, ⟨HBl.out.trans (HK.out.below HGe.out.1 HGe.out.2 HBl.out.size)⟩⟩
              | false =>
                go_wp2_with (first | (go_at_call 40; refine HWn.out.mono ?_; rintro e w9 ⟨rfl, HK⟩))
                go_ret
                exact ⟨by rw [HBb.out]; rfl, ⟨HBl.out.trans (HK.out.below HGe.out.1 HGe.out.2 HBl.out.size)⟩⟩
end Go.Proofs.YtgboplcjafmliaaDoor.G

/- What a strategy that is accepted is worth: lines in which the player follows it. No program here. -/
namespace Go.Proofs.YtgboplcjafmliaaDoor.G
open Go.RowKit
set_option linter.unusedVariables false
set_option linter.unusedSimpArgs false

theorem nth_set (l : List Nat) (t f i : Nat) (ht : t < l.length) : nth (l.set t f) i = if i = t then f else nth l i := by
  unfold nth
  rw [List.getD_eq_getElem?_getD, List.getD_eq_getElem?_getD, List.getElem?_set]
  by_cases h : t = i
  · subst h; rw [if_pos rfl, if_pos ht, if_pos rfl]; rfl
  · rw [if_neg h, if_neg (Ne.symm h)]
/-- A node whose attackers all have replies that attack them, to nodes that are visited. -/
def Cl (n : NetD) (rs : List Rp) (game : Int) (s : CS) (rank : Nat → Nat) (a : Nat) : Prop := ∀ x, At n a x → ∃ y, rep rs x = some y ∧ At n x y ∧ nth s.st y ≠ 0 ∧ (game = 1 → nth s.st y = 2 ∧ rank y < rank a)
structure VI (N : Nat) (n : NetD) (rs : List Rp) (game : Int) (s : CS) : Prop where
  len : s.st.length = N
  le : ∀ i, nth s.st i ≤ 2
  re : ∀ i, s.reached.testBit i = true ↔ nth s.st i ≠ 0
  cl : ∃ (rank : Nat → Nat) (T : Nat), ∀ a, nth s.st a = 2 → rank a < T ∧ Cl n rs game s rank a
structure VP (s t : CS) : Prop where
  one : ∀ i, nth t.st i = 1 ↔ nth s.st i = 1
  two : ∀ i, nth s.st i = 2 → nth t.st i = 2
theorem VP.trans {s t u : CS} (a : VP s t) (b : VP t u) : VP s u := ⟨fun i => (b.one i).trans (a.one i), fun i h => b.two i (a.two i h)⟩
theorem vStep_ok {N : Nat} {n : NetD} (hok : n.Ok N) (rs : List Rp) (game : Int) (rec : Nat → CS → Bool × CS)
    (hrec : ∀ y s, y < N → VI N n rs game s → nth s.st y = 0 → (rec y s).1 = true → VI N n rs game (rec y s).2 ∧ VP s (rec y s).2 ∧ nth (rec y s).2.st y = 2) :
    ∀ (L : List Nat) (s : CS), VI N n rs game s → (vStep n rs game rec L s).1 = true → VI N n rs game (vStep n rs game rec L s).2 ∧ VP s (vStep n rs game rec L s).2 ∧
      ∀ x, x ∈ L → ∃ y, rep rs x = some y ∧ At n x y ∧ nth (vStep n rs game rec L s).2.st y ≠ 0 ∧ (game = 1 → nth (vStep n rs game rec L s).2.st y = 2)
  | [], s, hI, _ => ⟨hI, ⟨fun i => Iff.rfl, fun i h => h⟩, fun x hx => by cases hx⟩
  | x :: L, s, hI, h => by
    rw [vStep] at h ⊢
    cases hr : rep rs x with
    | none => rw [hr] at h; cases h
    | some y =>
      rw [hr] at h
      simp only at h ⊢
      by_cases hb : (nth n.by_ x).testBit y = true
      · rw [if_pos hb] at h ⊢
        have hyN : y < N := At.lt hok hb
        by_cases h1 : nth s.st y = 1 ∧ game = 1
        · rw [if_pos h1] at h; cases h
        · rw [if_neg h1] at h ⊢
          by_cases h0 : nth s.st y = 0
          · rw [if_pos h0] at h ⊢
            by_cases ht : (rec y s).1 = true
            · rw [if_pos ht] at h ⊢
              obtain ⟨hI2, hP2, hy2⟩ := hrec y s hyN hI h0 ht
              obtain ⟨hI3, hP3, hL⟩ := vStep_ok hok rs game rec hrec L _ hI2 h
              refine ⟨hI3, hP2.trans hP3, fun z hz => ?_⟩
              rcases List.mem_cons.1 hz with rfl | hz
              · have := hP3.two y hy2
                exact ⟨y, hr, hb, by omega, fun _ => this⟩
              · exact hL z hz
            · rw [if_neg ht] at h; exact absurd h ht
          · rw [if_neg h0] at h ⊢
            obtain ⟨hI3, hP3, hL⟩ := vStep_ok hok rs game rec hrec L s hI h
            refine ⟨hI3, hP3, fun z hz => ?_⟩
            rcases List.mem_cons.1 hz with rfl | hz
            · have hle := hI.le y
              rcases (show nth s.st y = 1 ∨ nth s.st y = 2 by omega) with e | e
              · have := (hP3.one y).2 e
                exact ⟨y, hr, hb, by omega, fun hg => absurd ⟨e, hg⟩ h1⟩
              · have := hP3.two y e
                exact ⟨y, hr, hb, by omega, fun _ => this⟩
            · exact hL z hz
      · rw [if_neg hb] at h; cases h
theorem vis_ok {N : Nat} {n : NetD} (hok : n.Ok N) (rs : List Rp) (game : Int) : ∀ (f node : Nat) (s : CS), node < N → VI N n rs game s → nth s.st node = 0 → (vis n rs game f node s).1 = true →
    VI N n rs game (vis n rs game f node s).2 ∧ VP s (vis n rs game f node s).2 ∧ nth (vis n rs game f node s).2.st node = 2
  | 0, node, s, hn, hI, h0, h => by cases h
  | f + 1, node, s, hn, hI, h0, h => by
    rw [vis] at h ⊢
    unfold vFin at h ⊢
    have hset : ∀ i, nth (s.st.set node 1) i = if i = node then 1 else nth s.st i := fun i => nth_set _ _ _ _ (by rw [hI.len]; exact hn)
    have hI1 : VI N n rs game ⟨s.reached ||| 2 ^ node, s.st.set node 1⟩ := {
      len := by show (s.st.set node 1).length = N; rw [List.length_set]; exact hI.len
      le := fun i => by
        show nth (s.st.set node 1) i ≤ 2
        rw [hset]; split
        · omega
        · exact hI.le i
      re := fun i => by
        show (s.reached ||| 2 ^ node).testBit i = true ↔ nth (s.st.set node 1) i ≠ 0
        rw [or_bit, hset, hI.re]
        by_cases e : i = node
        · rw [if_pos e]; simp [e]
        · rw [if_neg e]; simp [e]
      cl := by
        obtain ⟨rank, T, hc⟩ := hI.cl
        refine ⟨rank, T, fun a ha => ?_⟩
        have ha' : nth (s.st.set node 1) a = 2 := ha
        rw [hset] at ha'
        by_cases e : a = node
        · rw [if_pos e] at ha'; omega
        · rw [if_neg e] at ha'
          obtain ⟨h1, h2⟩ := hc a ha'
          refine ⟨h1, fun x hx => ?_⟩
          obtain ⟨y, hy1, hy2, hy3, hy4⟩ := h2 x hx
          have hyn : y ≠ node := fun e => by rw [e, h0] at hy3; exact hy3 rfl
          refine ⟨y, hy1, hy2, ?_, fun hg => ?_⟩
          · show nth (s.st.set node 1) y ≠ 0
            rw [hset, if_neg hyn]; exact hy3
          · show nth (s.st.set node 1) y = 2 ∧ _
            rw [hset, if_neg hyn]; exact hy4 hg }
    generalize hs1 : (⟨s.reached ||| 2 ^ node, s.st.set node 1⟩ : CS) = s1 at *
    have hst1 : s1.st = s.st.set node 1 := by rw [← hs1]
    cases hv : (vStep n rs game (vis n rs game f) (bl (nth n.by_ node)) s1).1 with
    | false =>
      rw [hv] at h
      rw [if_neg (by simp)] at h
      rw [hv] at h; cases h
    | true =>
      rw [if_pos rfl]
      obtain ⟨hI2, hP2, hL⟩ := vStep_ok hok rs game (vis n rs game f) (fun y t hy hIt h0t ht => vis_ok hok rs game f y t hy hIt h0t ht) _ s1 hI1 hv
      generalize (vStep n rs game (vis n rs game f) (bl (nth n.by_ node)) s1).2 = s2 at *
      have hset2 : ∀ i, nth (s2.st.set node 2) i = if i = node then 2 else nth s2.st i := fun i => nth_set _ _ _ _ (by rw [hI2.len]; exact hn)
      have hone : nth s2.st node = 1 := (hP2.one node).2 (by rw [hst1, hset, if_pos rfl])
      refine ⟨{
        len := by show (s2.st.set node 2).length = N; rw [List.length_set]; exact hI2.len
        le := fun i => by
          show nth (s2.st.set node 2) i ≤ 2
          rw [hset2]; split
          · omega
          · exact hI2.le i
        re := fun i => by
          show s2.reached.testBit i = true ↔ nth (s2.st.set node 2) i ≠ 0
          rw [hset2, hI2.re]
          by_cases e : i = node
          · rw [if_pos e, e, hone]; simp
          · rw [if_neg e]
        cl := by
          obtain ⟨rank, T, hc⟩ := hI2.cl
          refine ⟨fun i => if i = node then T else rank i, T + 1, fun a ha => ?_⟩
          have ha' : nth (s2.st.set node 2) a = 2 := ha
          rw [hset2] at ha'
          by_cases e : a = node
          · subst e
            refine ⟨by simp, fun x hx => ?_⟩
            obtain ⟨y, hy1, hy2, hy3, hy4⟩ := hL x ((mem_bl _ _ (p64 hok.hN (hok.lb a))).2 hx)
            refine ⟨y, hy1, hy2, ?_, fun hg => ?_⟩
            · show nth (s2.st.set a 2) y ≠ 0
              rw [hset2]; split
              · omega
              · exact hy3
            · have hy5 := hy4 hg
              have hya : y ≠ a := fun e => by rw [e, hone] at hy5; omega
              refine ⟨?_, ?_⟩
              · show nth (s2.st.set a 2) y = 2
                rw [hset2, if_neg hya]; exact hy5
              · show (if y = a then T else rank y) < (if a = a then T else rank a)
                rw [if_neg hya, if_pos rfl]; exact (hc y hy5).1
          · rw [if_neg e] at ha'
            obtain ⟨h1, h2⟩ := hc a ha'
            refine ⟨by show (if a = node then T else rank a) < T + 1; rw [if_neg e]; omega, fun x hx => ?_⟩
            obtain ⟨y, hy1, hy2, hy3, hy4⟩ := h2 x hx
            refine ⟨y, hy1, hy2, ?_, fun hg => ?_⟩
            · show nth (s2.st.set node 2) y ≠ 0
              rw [hset2]; split
              · omega
              · exact hy3
            · obtain ⟨hy5, hy6⟩ := hy4 hg
              have hyn : y ≠ node := fun e => by rw [e, hone] at hy5; omega
              refine ⟨?_, ?_⟩
              · show nth (s2.st.set node 2) y = 2
                rw [hset2, if_neg hyn]; exact hy5
              · show (if y = node then T else rank y) < (if a = node then T else rank a)
                rw [if_neg hyn, if_neg e]; exact hy6 }, ⟨fun i => ?_, fun i hi => ?_⟩, ?_⟩
      · show nth (s2.st.set node 2) i = 1 ↔ nth s.st i = 1
        rw [hset2]
        by_cases e : i = node
        · rw [if_pos e, e, h0]; simp
        · rw [if_neg e, hP2.one i, hst1, hset, if_neg e]
      · show nth (s2.st.set node 2) i = 2
        rw [hset2]
        by_cases e : i = node
        · rw [if_pos e]
        · rw [if_neg e]; exact hP2.two i (by rw [hst1, hset, if_neg e]; exact hi)
      · show nth (s2.st.set node 2) node = 2
        rw [hset2, if_pos rfl]
theorem s00_nth (N i : Nat) : nth (s00 N).st i = 0 := nth_rep0 N i
theorem s00_ok {N : Nat} {n : NetD} (rs : List Rp) (game : Int) : VI N n rs game (s00 N) where
  len := by simp [s00]
  le := fun i => by rw [s00_nth]; omega
  re := fun i => by rw [s00_nth]; simp [s00]
  cl := ⟨fun _ => 0, 0, fun a ha => by rw [s00_nth] at ha; omega⟩

/-- An accepted proponent: nodes that are closed under replies. -/
theorem win_p {N : Nat} {n : NetD} (hok : n.Ok N) {game : Int} {root : Nat} (hr : root < N) {rs : List Rp} (h : winB N n game root 1 rs = true) :
    ∃ (t : Nat) (rank : Nat → Nat), t < 2 ^ N ∧ t.testBit root = true ∧ (game ≠ 1 → freeB n t = true) ∧ ∀ a, t.testBit a = true → ∀ x, At n a x → ∃ y, rep rs x = some y ∧ At n x y ∧ t.testBit y = true ∧ (game = 1 → rank y < rank a) := by
  unfold winB at h
  rw [if_pos rfl, Bool.and_eq_true] at h
  obtain ⟨hI, hP, h2⟩ := vis_ok hok rs game (N + 1) root (s00 N) hr (s00_ok rs game) (s00_nth N root) h.1
  have hfree := h.2
  generalize (vis n rs game (N + 1) root (s00 N)).2 = s at *
  obtain ⟨rank, T, hc⟩ := hI.cl
  have htwo : ∀ i, s.reached.testBit i = true → nth s.st i = 2 := fun i hi => by
    have h1 := (hI.re i).1 hi
    have h3 := hI.le i
    have h4 : nth s.st i ≠ 1 := fun e => by
      have := (hP.one i).1 e
      rw [s00_nth] at this; omega
    omega
  refine ⟨s.reached, rank, ?_, (hI.re root).2 (by omega), fun hg => ?_, fun a ha x hx => ?_⟩
  · apply Nat.lt_pow_two_of_testBit
    intro i hi
    rw [bool_false_iff, hI.re]
    intro hne
    apply hne
    unfold nth
    rw [List.getD_eq_getElem?_getD, List.getElem?_eq_none (by rw [hI.len]; exact hi)]; rfl
  · rcases Bool.or_eq_true _ _ ▸ hfree with hf | hf
    · exact absurd (by simpa using hf) hg
    · exact hf
  · obtain ⟨y, hy1, hy2, hy3, hy4⟩ := (hc a (htwo a ha)).2 x hx
    exact ⟨y, hy1, hy2, (hI.re y).2 hy3, fun hg => (hy4 hg).2⟩

def RCl (n : NetD) (rs : List Rp) (r a : Nat) : Prop := ∃ x, rep rs a = some x ∧ At n a x ∧ ∀ y, At n x y → r.testBit y = true
theorem RCl.mono {n : NetD} {rs : List Rp} {r r' a : Nat} (h : RCl n rs r a) (hs : ∀ i, r.testBit i = true → r'.testBit i = true) : RCl n rs r' a := by
  obtain ⟨x, h1, h2, h3⟩ := h
  exact ⟨x, h1, h2, fun y hy => hs y (h3 y hy)⟩
theorem rStep_ok {n : NetD} {rs : List Rp} (rec : Nat → Nat → Bool × Nat)
    (hrec : ∀ y r, (rec y r).1 = true → (∀ i, r.testBit i = true → (rec y r).2.testBit i = true) ∧ (rec y r).2.testBit y = true ∧ ∀ a, (rec y r).2.testBit a = true → r.testBit a = true ∨ RCl n rs (rec y r).2 a) :
    ∀ (L : List Nat) (r : Nat), (rStep rec L r).1 = true → (∀ i, r.testBit i = true → (rStep rec L r).2.testBit i = true) ∧ (∀ y, y ∈ L → (rStep rec L r).2.testBit y = true) ∧ ∀ a, (rStep rec L r).2.testBit a = true → r.testBit a = true ∨ RCl n rs (rStep rec L r).2 a
  | [], r, _ => ⟨fun i h => h, fun y hy => (by cases hy), fun a h => .inl h⟩
  | y :: L, r, h => by
    rw [rStep] at h ⊢
    by_cases h1 : r.testBit y = true
    · rw [if_pos h1] at h ⊢
      obtain ⟨h2, h3, h4⟩ := rStep_ok rec hrec L r h
      refine ⟨h2, fun z hz => ?_, h4⟩
      rcases List.mem_cons.1 hz with rfl | hz
      · exact h2 _ h1
      · exact h3 z hz
    · rw [if_neg h1] at h ⊢
      by_cases h5 : (rec y r).1 = true
      · rw [if_pos h5] at h ⊢
        obtain ⟨h6, h7, h8⟩ := hrec y r h5
        obtain ⟨h2, h3, h4⟩ := rStep_ok rec hrec L _ h
        refine ⟨fun i hi => h2 i (h6 i hi), fun z hz => ?_, fun a ha => ?_⟩
        · rcases List.mem_cons.1 hz with rfl | hz
          · exact h2 _ h7
          · exact h3 z hz
        · rcases h4 a ha with ha | ha
          · rcases h8 a ha with ha | ha
            · exact .inl ha
            · exact .inr (ha.mono h2)
          · exact .inr ha
      · rw [if_neg h5] at h; exact absurd h h5
theorem rst_ok {N : Nat} {n : NetD} (hok : n.Ok N) (rs : List Rp) : ∀ (f node r : Nat), (rst n rs f node r).1 = true → (∀ i, r.testBit i = true → (rst n rs f node r).2.testBit i = true) ∧ (rst n rs f node r).2.testBit node = true ∧ ∀ a, (rst n rs f node r).2.testBit a = true → r.testBit a = true ∨ RCl n rs (rst n rs f node r).2 a
  | 0, node, r, h => by cases h
  | f + 1, node, r, h => by
    rw [rst] at h ⊢
    cases hr : rep rs node with
    | none => rw [hr] at h; cases h
    | some x =>
      rw [hr] at h
      simp only at h ⊢
      by_cases hb : (nth n.by_ node).testBit x = true
      · rw [if_pos hb] at h ⊢
        obtain ⟨h2, h3, h4⟩ := rStep_ok (rst n rs f) (fun y r h => rst_ok hok rs f y r h) _ _ h
        have hnode := h2 node ((or_bit _ _ _).2 (.inr rfl))
        refine ⟨fun i hi => h2 i ((or_bit _ _ _).2 (.inl hi)), hnode, fun a ha => ?_⟩
        have hcl : RCl n rs (rStep (rst n rs f) (bl (nth n.by_ x)) (r ||| 2 ^ node)).2 node := ⟨x, hr, hb, fun y hy => h3 y ((mem_bl _ _ (p64 hok.hN (hok.lb x))).2 hy)⟩
        rcases h4 a ha with ha | ha
        · rcases (or_bit _ _ _).1 ha with ha | rfl
          · exact .inl ha
          · exact .inr hcl
        · exact .inr ha
      · rw [if_neg hb] at h; cases h

/-- Lines that are good for a player who follows replies. -/
structure StratR (N : Nat) (n : NetD) (game par : Nat) (rs : List Rp) (Good : List Nat → Prop) : Prop where
  pl : ∀ l, Good l → PL N n game l
  other : ∀ l, Good l → l.length % 2 ≠ par → ∀ a, (legalM n game l).testBit a = true → Good (l ++ [a])
  mine : ∀ l, Good l → l.length % 2 = par → ∃ a, rep rs (lastN l) = some a ∧ (legalM n game l).testBit a = true ∧ Good (l ++ [a])
/-- Every accepted strategy, but the opponent's in the credulous game, has such lines. -/
theorem win_good {N : Nat} {n : NetD} (hok : n.Ok N) {game : Nat} (hg : game = 1 ∨ game = 2) {root : Nat} (hr : root < N) {who : Int} (hw : who = 1 ∨ who = 2) (hx : ¬(game = 2 ∧ who = 2)) {rs : List Rp} (h : winB N n game root who rs = true) :
    ∃ (par : Nat) (Good : List Nat → Prop), ((par = 0 ∧ who = 1) ∨ (par = 1 ∧ who = 2)) ∧ StratR N n game par rs Good ∧ Good [root] ∧ ¬(game = 2 ∧ At n root root) := by
  rcases hw with rfl | rfl
  · obtain ⟨t, rank, ht, htr, hf, hc⟩ := win_p hok hr h
    rcases hg with rfl | rfl
    · refine ⟨0, fun l => PL N n 1 l ∧ (l.length % 2 = 1 → t.testBit (lastN l) = true ∧ ∀ q, (pm true l).testBit q = true → rank (lastN l) ≤ rank q) ∧ (l.length % 2 = 0 → ∃ a, t.testBit a = true ∧ At n a (lastN l) ∧ ∀ q, (pm true l).testBit q = true → rank a ≤ rank q), .inl ⟨rfl, rfl⟩, ⟨fun l h => h.1, fun l h hp a ha => ?_, fun l h he => ?_⟩, ?_, by simp⟩
      · have ho : l.length % 2 = 1 := by omega
        refine ⟨h.1.snoc hok (.inl rfl) ha, fun he => by rw [odd_snoc] at he; omega, fun _ => ?_⟩
        obtain ⟨h1, h2⟩ := h.2.1 ho
        rw [lastN_snoc, pmT_odd ho]
        exact ⟨lastN l, h1, (lg1O n ho a).1 ha, h2⟩
      · obtain ⟨a, ha1, ha2, ha3⟩ := h.2.2 he
        obtain ⟨y, hy1, hy2, hy3, hy4⟩ := hc a ha1 _ ha2
        have hlt := hy4 rfl
        have hnew : (pm true l).testBit y = false := by
          rw [bool_false_iff]; intro hq
          have := ha3 y hq; omega
        have hlg := (lg1P hok h.1.lt he y).2 ⟨hy2, hnew⟩
        refine ⟨y, hy1, hlg, h.1.snoc hok (.inl rfl) hlg, fun _ => ⟨by rw [lastN_snoc]; exact hy3, fun q hq => ?_⟩, fun h => by rw [even_snoc] at h; omega⟩
        rw [lastN_snoc]
        rw [pmT_even he] at hq
        rcases (or_bit _ _ _).1 hq with hq | rfl
        · have := ha3 q hq; omega
        · exact Nat.le_refl _
      · exact ⟨PL.one hok hr (by simp), fun _ => ⟨htr, fun q hq => by rw [(pm_one root q).1 hq]; exact Nat.le_refl _⟩, fun h => by simp at h⟩
    · have hfr := (free_iff hok ht).1 (hf (by decide))
      refine ⟨0, fun l => PL N n 2 l ∧ (∀ q, (pm true l).testBit q = true → t.testBit q = true) ∧ (l.length % 2 = 0 → ∃ p, t.testBit p = true ∧ At n p (lastN l)), .inl ⟨rfl, rfl⟩, ⟨fun l h => h.1, fun l h hp a ha => ?_, fun l h he => ?_⟩, ?_, fun h => hfr root root htr htr h.2⟩
      · have ho : l.length % 2 = 1 := by omega
        obtain ⟨⟨p, h1, h2⟩, _⟩ := (lg2O hok h.1.lt ho a).1 ha
        refine ⟨h.1.snoc hok (.inr rfl) ha, fun q hq => ?_, fun _ => ⟨p, h.2.1 p h1, by rw [lastN_snoc]; exact h2⟩⟩
        rw [pmT_odd ho] at hq
        exact h.2.1 q hq
      · obtain ⟨p, hp1, hp2⟩ := h.2.2 he
        obtain ⟨z, hz0, hz2, hz1, _⟩ := hc p hp1 _ hp2
        have hlg := (lg2P hok he z).2 ⟨hz2, fun y hy => by
          have hyt : t.testBit y = true := by
            rcases hy with hy | rfl
            · exact h.2.1 y hy
            · exact hz1
          exact ⟨hfr z y hz1 hyt, hfr y z hyt hz1⟩⟩
        refine ⟨z, hz0, hlg, h.1.snoc hok (.inr rfl) hlg, fun q hq => ?_, fun h => by rw [even_snoc] at h; omega⟩
        rw [pmT_even he] at hq
        rcases (or_bit _ _ _).1 hq with hq | rfl
        · exact h.2.1 q hq
        · exact hz1
      · exact ⟨PL.one hok hr (fun h1 => hfr root root htr htr h1.2), fun q hq => by rw [(pm_one root q).1 hq]; exact htr, fun h => by simp at h⟩
  · have hg1 : game = 1 := by omega
    subst hg1
    unfold winB at h
    rw [if_neg (by decide), if_pos (by decide)] at h
    obtain ⟨_, h2, h3⟩ := rst_ok hok rs (N + 1) root 0 h
    generalize (rst n rs (N + 1) root 0).2 = r at *
    have hcl : ∀ a, r.testBit a = true → RCl n rs r a := fun a ha => by
      rcases h3 a ha with h4 | h4
      · simp at h4
      · exact h4
    refine ⟨1, fun l => PL N n 1 l ∧ (l.length % 2 = 1 → r.testBit (lastN l) = true) ∧ (l.length % 2 = 0 → ∀ y, At n (lastN l) y → r.testBit y = true), .inr ⟨rfl, rfl⟩, ⟨fun l h => h.1, fun l h hp a ha => ?_, fun l h ho => ?_⟩, ?_, by simp⟩
    · have he : l.length % 2 = 0 := by omega
      refine ⟨h.1.snoc hok (.inl rfl) ha, fun _ => ?_, fun h => by rw [even_snoc] at h; omega⟩
      rw [lastN_snoc]
      exact h.2.2 he a ((lg1P hok h.1.lt he a).1 ha).1
    · obtain ⟨x, hx1, hx2, hx3⟩ := hcl _ (h.2.1 ho)
      have hlg := (lg1O n ho x).2 hx2
      refine ⟨x, hx1, hlg, h.1.snoc hok (.inl rfl) hlg, fun h => by rw [odd_snoc] at h; omega, fun _ => ?_⟩
      rw [lastN_snoc]; exact hx3
    · exact ⟨PL.one hok hr (by simp), fun _ => h2, fun h => by simp at h⟩
end Go.Proofs.YtgboplcjafmliaaDoor.G

/- What Solve returns is accepted by Check. No program here. -/
namespace Go.Proofs.YtgboplcjafmliaaDoor.G
open Go.RowKit Go.Proofs.YtgboplcjafmliaaDoorW.PrintWords Go.Proofs.YtgboplcjafmliaaDoorW.PrintLast Go.Proofs.YtgboplcjafmliaaDoorW.PrintMore
open Go.Proofs.YtgboplcjafmliaaDoor.PAll
set_option linter.unusedVariables false
set_option linter.unusedSimpArgs false

theorem cov_mono {N s t : Nat} (h : ∀ i, s.testBit i = true → t.testBit i = true) : cov N t ≤ cov N s := by
  unfold cov
  refine List.countP_mono_left fun i _ hi => ?_
  simp only [Bool.not_eq_true'] at hi ⊢
  rw [bool_false_iff] at hi ⊢
  exact fun hs => hi (h i hs)
theorem cov_pos {N s i : Nat} (hi : i < N) (h : s.testBit i = false) : 0 < cov N s := Nat.lt_of_le_of_lt (Nat.zero_le _) (cov_dec hi h)
theorem VI.mark {N : Nat} {n : NetD} {rs : List Rp} {game : Int} {s : CS} (hI : VI N n rs game s) {node : Nat} (hn : node < N) (h0 : nth s.st node = 0) : VI N n rs game ⟨s.reached ||| 2 ^ node, s.st.set node 1⟩ := by
  have hset : ∀ i, nth (s.st.set node 1) i = if i = node then 1 else nth s.st i := fun i => nth_set _ _ _ _ (by rw [hI.len]; exact hn)
  exact {
    len := by show (s.st.set node 1).length = N; rw [List.length_set]; exact hI.len
    le := fun i => by
      show nth (s.st.set node 1) i ≤ 2
      rw [hset]; split
      · omega
      · exact hI.le i
    re := fun i => by
      show (s.reached ||| 2 ^ node).testBit i = true ↔ nth (s.st.set node 1) i ≠ 0
      rw [or_bit, hset, hI.re]
      by_cases e : i = node
      · rw [if_pos e]; simp [e]
      · rw [if_neg e]; simp [e]
    cl := by
      obtain ⟨rank, T, hc⟩ := hI.cl
      refine ⟨rank, T, fun a ha => ?_⟩
      have ha' : nth (s.st.set node 1) a = 2 := ha
      rw [hset] at ha'
      by_cases e : a = node
      · rw [if_pos e] at ha'; omega
      · rw [if_neg e] at ha'
        obtain ⟨h1, h2⟩ := hc a ha'
        refine ⟨h1, fun x hx => ?_⟩
        obtain ⟨y, hy1, hy2, hy3, hy4⟩ := h2 x hx
        have hyn : y ≠ node := fun e => by rw [e, h0] at hy3; exact hy3 rfl
        refine ⟨y, hy1, hy2, ?_, fun hg => ?_⟩
        · show nth (s.st.set node 1) y ≠ 0
          rw [hset, if_neg hyn]; exact hy3
        · show nth (s.st.set node 1) y = 2 ∧ _
          rw [hset, if_neg hyn]; exact hy4 hg }
theorem VP.sub {N : Nat} {n : NetD} {rs : List Rp} {game : Int} {s t : CS} (hs : VI N n rs game s) (ht : VI N n rs game t) (h : VP s t) : ∀ i, s.reached.testBit i = true → t.reached.testBit i = true := fun i hi => by
  have h1 := (hs.re i).1 hi
  have h2 := hs.le i
  refine (ht.re i).2 ?_
  rcases (show nth s.st i = 1 ∨ nth s.st i = 2 by omega) with e | e
  · rw [(h.one i).2 e]; decide
  · rw [h.two i e]; decide
/-- Nodes whose attackers have replies. -/
def SCl (n : NetD) (rs : List Rp) (game : Int) (S : Nat → Prop) (rank : Nat → Nat) : Prop := ∀ a, S a → ∀ x, At n a x → ∃ y, rep rs x = some y ∧ At n x y ∧ S y ∧ (game = 1 → rank y < rank a)
theorem vStep_true {N : Nat} {n : NetD} (hok : n.Ok N) (rs : List Rp) (game : Int) (S : Nat → Prop) (rank : Nat → Nat) (hS : SCl n rs game S rank) (f : Nat) (rec : Nat → CS → Bool × CS)
    (hok2 : ∀ y s, y < N → VI N n rs game s → nth s.st y = 0 → (rec y s).1 = true → VI N n rs game (rec y s).2 ∧ VP s (rec y s).2 ∧ nth (rec y s).2.st y = 2)
    (hrec : ∀ y s, y < N → VI N n rs game s → nth s.st y = 0 → S y → (∀ i, nth s.st i = 1 → game = 1 → rank y < rank i) → cov N s.reached ≤ f → (rec y s).1 = true ∧ ∀ i, (rec y s).2.reached.testBit i = true → s.reached.testBit i = true ∨ S i)
    (node : Nat) (hnode : S node) : ∀ (L : List Nat) (s : CS), (∀ x, x ∈ L → At n node x) → VI N n rs game s → (∀ i, nth s.st i = 1 → game = 1 → rank node ≤ rank i) → cov N s.reached ≤ f →
      (vStep n rs game rec L s).1 = true ∧ ∀ i, (vStep n rs game rec L s).2.reached.testBit i = true → s.reached.testBit i = true ∨ S i
  | [], s, _, _, _, _ => ⟨rfl, fun i h => .inl h⟩
  | x :: L, s, hL, hI, hone, hf => by
    obtain ⟨y, hy1, hy2, hy3, hy4⟩ := hS node hnode x (hL x List.mem_cons_self)
    have hyN : y < N := At.lt hok hy2
    rw [vStep, hy1]
    simp only
    rw [if_pos (show (nth n.by_ x).testBit y = true from hy2), if_neg (by
      rintro ⟨h1, h2⟩
      have h3 := hone y h1 h2
      have h4 := hy4 h2
      omega)]
    by_cases h0 : nth s.st y = 0
    · rw [if_pos h0]
      obtain ⟨h1, h2⟩ := hrec y s hyN hI h0 hy3 (fun i h1 h2 => by
        have h3 := hone i h1 h2
        have h4 := hy4 h2
        omega) hf
      rw [if_pos h1]
      obtain ⟨hI2, hP2, _⟩ := hok2 y s hyN hI h0 h1
      have hc := cov_mono (N := N) (hP2.sub hI hI2)
      obtain ⟨h5, h6⟩ := vStep_true hok rs game S rank hS f rec hok2 hrec node hnode L (rec y s).2 (fun x hx => hL x (List.mem_cons_of_mem _ hx)) hI2 (fun i h1 h2 => hone i ((hP2.one i).1 h1) h2) (by omega)
      refine ⟨h5, fun i hi => ?_⟩
      rcases h6 i hi with h7 | h7
      · exact h2 i h7
      · exact .inr h7
    · rw [if_neg h0]
      exact vStep_true hok rs game S rank hS f rec hok2 hrec node hnode L s (fun x hx => hL x (List.mem_cons_of_mem _ hx)) hI hone hf
theorem vis_true {N : Nat} {n : NetD} (hok : n.Ok N) (rs : List Rp) (game : Int) (S : Nat → Prop) (rank : Nat → Nat) (hS : SCl n rs game S rank) : ∀ (f node : Nat) (s : CS), node < N → VI N n rs game s → nth s.st node = 0 → S node → (∀ i, nth s.st i = 1 → game = 1 → rank node < rank i) → cov N s.reached ≤ f →
    (vis n rs game f node s).1 = true ∧ ∀ i, (vis n rs game f node s).2.reached.testBit i = true → s.reached.testBit i = true ∨ S i
  | 0, node, s, hn, hI, h0, _, _, hf => by
    have := cov_pos (N := N) (s := s.reached) hn (by rw [bool_false_iff, hI.re]; simp [h0])
    omega
  | f + 1, node, s, hn, hI, h0, hSn, hone, hf => by
    have hnb : s.reached.testBit node = false := by rw [bool_false_iff, hI.re]; simp [h0]
    have hc := cov_dec (N := N) hn hnb
    have hI1 := hI.mark hn h0
    have hset : ∀ i, nth (s.st.set node 1) i = if i = node then 1 else nth s.st i := fun i => nth_set _ _ _ _ (by rw [hI.len]; exact hn)
    obtain ⟨h1, h2⟩ := vStep_true hok rs game S rank hS f (vis n rs game f) (fun y t hy hIt h0t ht => vis_ok hok rs game f y t hy hIt h0t ht) (fun y t a b c d e g => vis_true hok rs game S rank hS f y t a b c d e g) node hSn (bl (nth n.by_ node)) ⟨s.reached ||| 2 ^ node, s.st.set node 1⟩ (fun x hx => (mem_bl _ _ (p64 hok.hN (hok.lb node))).1 hx) hI1 (fun i h1 h2 => by
      have h3 : nth (s.st.set node 1) i = 1 := h1
      rw [hset] at h3
      by_cases e : i = node
      · rw [e]; exact Nat.le_refl _
      · rw [if_neg e] at h3
        exact Nat.le_of_lt (hone i h3 h2)) (by show cov N (s.reached ||| 2 ^ node) ≤ f; omega)
    rw [vis]
    unfold vFin
    rw [if_pos h1]
    refine ⟨rfl, fun i hi => ?_⟩
    rcases h2 i hi with h3 | h3
    · rcases (or_bit _ _ _).1 h3 with h3 | rfl
      · exact .inl h3
      · exact .inr hSn
    · exact .inr h3

theorem rStep_true {N : Nat} (S : Nat → Prop) (f : Nat) (rec : Nat → Nat → Bool × Nat)
    (hok : ∀ y r, (rec y r).1 = true → (∀ i, r.testBit i = true → (rec y r).2.testBit i = true))
    (hrec : ∀ y r, y < N → S y → r.testBit y = false → cov N r ≤ f → (rec y r).1 = true) : ∀ (L : List Nat) (r : Nat), (∀ y, y ∈ L → y < N ∧ S y) → cov N r ≤ f → (rStep rec L r).1 = true
  | [], r, _, _ => rfl
  | y :: L, r, hL, hf => by
    rw [rStep]
    obtain ⟨hyN, hyS⟩ := hL y List.mem_cons_self
    cases hb : r.testBit y with
    | true =>
      rw [if_pos rfl]
      exact rStep_true S f rec hok hrec L r (fun z hz => hL z (List.mem_cons_of_mem _ hz)) hf
    | false =>
      rw [if_neg (by simp)]
      have h1 := hrec y r hyN hyS hb hf
      rw [if_pos h1]
      have := cov_mono (N := N) (hok y r h1)
      exact rStep_true S f rec hok hrec L _ (fun z hz => hL z (List.mem_cons_of_mem _ hz)) (by omega)
theorem rst_true {N : Nat} {n : NetD} (hok : n.Ok N) (rs : List Rp) (S : Nat → Prop) (hS : ∀ a, S a → ∃ x, rep rs a = some x ∧ At n a x ∧ ∀ y, At n x y → S y) : ∀ (f node r : Nat), node < N → S node → r.testBit node = false → cov N r ≤ f → (rst n rs f node r).1 = true
  | 0, node, r, hn, _, hb, hf => by have := cov_pos hn hb; omega
  | f + 1, node, r, hn, hSn, hb, hf => by
    obtain ⟨x, h1, h2, h3⟩ := hS node hSn
    have hc := cov_dec hn hb
    rw [rst, h1]
    simp only
    rw [if_pos (show (nth n.by_ node).testBit x = true from h2)]
    refine rStep_true S f (rst n rs f) (fun y r h => (rst_ok hok rs f y r h).1) (fun y r a b c d => rst_true hok rs S hS f y r a b c d) _ _ (fun y hy => ?_) (by omega)
    have hya : At n x y := (mem_bl _ _ (p64 hok.hN (hok.lb x))).1 hy
    exact ⟨At.lt hok hya, h3 y hya⟩
theorem rep_map (pk : Nat → Nat) (hpk : ∀ x, pk x < 64 ∨ True) : ∀ (L : List Nat) (x : Nat), x ∈ L → (∀ y, y ∈ L → y < 64) → pk x < 64 → rep (L.map fun x => rp x (pk x)) x = some (pk x)
  | [], x, h, _, _ => by cases h
  | y :: L, x, h, hL, hp => by
    have hy := hL y List.mem_cons_self
    have x1 : (Fin.ofNat 64 y).val = y := Nat.mod_eq_of_lt hy
    unfold rep
    rw [List.map_cons, List.find?_cons]
    by_cases e : y = x
    · subst e
      have x2 : (Fin.ofNat 64 (pk y)).val = pk y := Nat.mod_eq_of_lt hp
      have hc : ((rp y (pk y)).1.val == y) = true := by rw [beq_iff_eq]; exact x1
      rw [hc]
      show some (Fin.ofNat 64 (pk y)).val = _
      rw [x2]
    · have hc : ((rp y (pk y)).1.val == x) = false := by rw [beq_eq_false_iff_ne]; show (Fin.ofNat 64 y).val ≠ x; rw [x1]; exact e
      rw [hc]
      have hx : x ∈ L := by
        rcases List.mem_cons.1 h with h | h
        · exact absurd h.symm e
        · exact h
      exact rep_map pk hpk L x hx (fun z hz => hL z (List.mem_cons_of_mem _ hz)) hp
theorem rep_bl {N m : Nat} (hN : N ≤ 40) (hm : m < 2 ^ N) (pk : Nat → Nat) {x : Nat} (hx : m.testBit x = true) (hp : pk x < N) : rep ((bl m).map fun x => rp x (pk x)) x = some (pk x) :=
  rep_map pk (fun _ => .inr trivial) (bl m) x ((mem_bl m x (p64 hN hm)).2 hx) (fun y hy => bl_lt m y hy) (by omega)
/-- The round in which a node comes in, as a number. -/
noncomputable def rnk (n : NetD) (a : Nat) : Nat := Classical.epsilon fun k => (gs n (k + 1)).testBit a = true ∧ (gs n k).testBit a = false
theorem rnk_spec {N : Nat} {n : NetD} (hok : n.Ok N) {a j : Nat} (h : (gs n j).testBit a = true) : (gs n (rnk n a + 1)).testBit a = true ∧ (gs n (rnk n a)).testBit a = false ∧ rnk n a < j := by
  obtain ⟨k, hk, h1, h2⟩ := gs_first hok j h
  have := Classical.epsilon_spec (p := fun k => (gs n (k + 1)).testBit a = true ∧ (gs n k).testBit a = false) ⟨k, h1, h2⟩
  refine ⟨this.1, this.2, ?_⟩
  rcases Nat.lt_or_ge (Classical.epsilon fun k => (gs n (k + 1)).testBit a = true ∧ (gs n k).testBit a = false) j with h3 | h3
  · exact h3
  · have h4 := gs_le hok h3 h
    rw [this.2] at h4; cases h4
theorem gs_const {n : NetD} {j : Nat} (h : gstep n (gs n j) = gs n j) : ∀ d, gs n (j + d) = gs n j
  | 0 => rfl
  | d + 1 => by
    show gstep n (gs n (j + d)) = _
    rw [gs_const h d, h]
theorem grd_find {N : Nat} {n : NetD} (hok : n.Ok N) (P : Nat → Bool) : ∀ (f j : Nat), cov N (gs n j) < f → P (gs n j) = false → ∀ k, j < k → P (gs n k) = true → ∃ m, j < m ∧ m ≤ k ∧ (grd n f (gs n j)).find? P = some (gs n m) ∧ P (gs n m) = true
  | 0, j, hf, _, _, _, _ => by omega
  | f + 1, j, hf, h0, k, hk, hP => by
    rw [grd]
    by_cases e : gstep n (gs n j) = gs n j
    · have := gs_const e (k - j)
      rw [Nat.add_sub_cancel' (Nat.le_of_lt hk)] at this
      rw [this, h0] at hP; cases hP
    · rw [if_neg e, List.find?_cons]
      cases h1 : P (gstep n (gs n j)) with
      | true => exact ⟨j + 1, by omega, hk, rfl, h1⟩
      | false =>
        have hlt := cov_lt (gstep_lt hok _ (gs_lt hok j)) (gs_lt hok j) (fun i hi => by rw [gstep_bit hok, hi]; rfl) e
        have hk2 : j + 1 < k := by
          rcases Nat.lt_or_ge (j + 1) k with h | h
          · exact h
          · have : k = j + 1 := by omega
            rw [this] at hP
            rw [show gs n (j + 1) = gstep n (gs n j) from rfl, h1] at hP; cases hP
        obtain ⟨m, h2, h3, h4, h5⟩ := grd_find hok P f (j + 1) (by show cov N (gstep n (gs n j)) < f; omega) h1 k hk2 hP
        exact ⟨m, by omega, h3, h4, h5⟩
/-- The proponent's replies in the grounded game go down in the rounds. -/
theorem pickG_down {N : Nat} {n : NetD} (hok : n.Ok N) {a x : Nat} (ha : ∃ j, (gs n j).testBit a = true) (hx : At n a x) : At n x (pickG n (grd n (N + 1) 0) x) ∧ (∃ j, (gs n j).testBit (pickG n (grd n (N + 1) 0) x) = true) ∧ rnk n (pickG n (grd n (N + 1) 0) x) < rnk n a := by
  obtain ⟨j, hj⟩ := ha
  obtain ⟨h1, h2, _⟩ := rnk_spec hok hj
  rcases (gs_bit hok (rnk n a) a).1 h1 with h3 | ⟨_, h3⟩
  · rw [h2] at h3; cases h3
  · obtain ⟨z, hz1, hz2⟩ := h3 x hx
    have hPz : (nth n.by_ x &&& gs n (rnk n a) != 0) = true := by
      rw [bne_iff_ne]
      intro h
      have : (nth n.by_ x &&& gs n (rnk n a)).testBit z = true := by rw [Nat.testBit_and, hz1, show (nth n.by_ x).testBit z = true from hz2]; rfl
      rw [h] at this; simp at this
    have hP0 : (nth n.by_ x &&& gs n 0 != 0) = false := by simp [gs]
    have hpos : 0 < rnk n a := by
      rcases Nat.eq_zero_or_pos (rnk n a) with h | h
      · rw [h, hP0] at hPz; cases hPz
      · exact h
    obtain ⟨m, hm0, hmk, hf, hPm⟩ := grd_find hok (fun r => nth n.by_ x &&& r != 0) (N + 1) 0 (cov0 N) hP0 (rnk n a) hpos hPz
    change (grd n (N + 1) 0).find? (fun r => nth n.by_ x &&& r != 0) = some (gs n m) at hf
    have hne : nth n.by_ x &&& gs n m ≠ 0 := by simpa using hPm
    have hlow := low_mem hne (and_lt _ _ (p64 hok.hN (hok.lb x)))
    have e : pickG n (grd n (N + 1) 0) x = low (nth n.by_ x &&& gs n m) := by
      unfold pickG
      rw [hf]
    rw [e]
    rw [Nat.testBit_and, Bool.and_eq_true] at hlow
    refine ⟨hlow.1, ⟨m, hlow.2⟩, ?_⟩
    have := (rnk_spec hok hlow.2).2.2
    omega
theorem sol_wins {M : Nat} (hM : M ≤ 40) {l : List S54} (hIn : InR M l) {root m : Nat} (hr : root < M) (hm : m < 2 ^ M) {game who : Int} {pk : Nat → Nat} (hS : SolP M (netOf M l) root game who m pk) (h10 : game = 2 → M ≤ 10) : winB M (netOf M l) game root who ((bl m).map fun x => rp x (pk x)) = true := by
  have hok := netOf_ok hM hIn
  have hcov : cov M (s00 M).reached ≤ M + 1 := Nat.le_of_lt (cov0 M)
  unfold winB
  cases hS with
  | gp _ h1 h2 =>
    rw [if_pos rfl]
    obtain ⟨mm, hmm⟩ := gnd_gs M (netOf M l)
    rw [hmm] at h1
    have hin : ∀ a, Rc (netOf M l) root (pickG (netOf M l) (grd (netOf M l) (M + 1) 0)) a → ∃ j, (gs (netOf M l) j).testBit a = true := by
      intro a ha
      induction ha with
      | root => exact ⟨mm, h1⟩
      | step _ hx ih => exact (pickG_down hok ih hx).2.1
    have hcl : SCl (netOf M l) ((bl m).map fun x => rp x (pickG (netOf M l) (grd (netOf M l) (M + 1) 0) x)) 1 (Rc (netOf M l) root (pickG (netOf M l) (grd (netOf M l) (M + 1) 0))) (rnk (netOf M l)) := fun a ha x hx => by
      have hd := pickG_down hok (hin a ha) hx
      exact ⟨_, rep_bl hM hm _ ((h2 x).2 ⟨a, ha, hx⟩) (At.lt hok hd.1), hd.1, .step ha hx, fun _ => hd.2.2⟩
    have hv := (vis_true hok _ 1 _ _ hcl (M + 1) root (s00 M) hr (s00_ok _ _) (s00_nth M root) .root (fun i h => by rw [s00_nth] at h; cases h) hcov).1
    rw [hv]; rfl
  | go _ h1 h2 =>
    rw [if_neg (by decide), if_pos rfl]
    refine rst_true hok _ (Rco (netOf M l) root (qO M (netOf M l))) (fun a ha => ?_) (M + 1) root 0 hr .root (by simp) (Nat.le_of_lt (cov0 M))
    have h3 := Rco_out hok hr h1 ha
    have h4 := qO_spec hok h3.1 h3.2
    exact ⟨_, rep_bl hM hm _ ((h2 a).2 ha) (At.lt hok h4.1), h4.1, fun y hy => .step ha hy⟩
  | cp _ s h1 h2 =>
    rw [if_pos rfl]
    obtain ⟨hA, hsub⟩ := srch_adm hok (Nat.pow_lt_pow_right (by omega) hr) h1
    have h3 := srch_some hok _ _ _ (Nat.pow_lt_pow_right (by omega) hr) h1
    have hin : ∀ a, Rc (netOf M l) root (pickS (netOf M l) s) a → s.testBit a = true := fun a ha => Rc_in hok h3.1 h3.2.2.2 (hsub root (by simp)) ha
    have hcl : SCl (netOf M l) ((bl m).map fun x => rp x (pickS (netOf M l) s x)) 2 (Rc (netOf M l) root (pickS (netOf M l) s)) (fun _ => 0) := fun a ha x hx => by
      have hp := pickS_in hok (open_hits hok h3.1 h3.2.2.2 (hin a ha) hx)
      exact ⟨_, rep_bl hM hm _ ((h2 x).2 ⟨a, ha, hx⟩) (bit_lt hM (hok.lb _) hp.1), hp.1, .step ha hx, fun h => by cases h⟩
    obtain ⟨hv, hre⟩ := vis_true hok _ 2 _ _ hcl (M + 1) root (s00 M) hr (s00_ok _ _) (s00_nth M root) .root (fun i h => by rw [s00_nth] at h; cases h) hcov
    obtain ⟨hI, _, _⟩ := vis_ok hok _ 2 (M + 1) root (s00 M) hr (s00_ok _ _) (s00_nth M root) hv
    rw [hv, Bool.true_and, Bool.or_eq_true]
    right
    generalize (vis (netOf M l) ((bl m).map fun x => rp x (pickS (netOf M l) s x)) 2 (M + 1) root (s00 M)).2 = t at *
    have hlt : t.reached < 2 ^ M := by
      apply Nat.lt_pow_two_of_testBit
      intro i hi
      rw [bool_false_iff, hI.re]
      intro hne
      apply hne
      unfold nth
      rw [List.getD_eq_getElem?_getD, List.getElem?_eq_none (by rw [hI.len]; exact hi)]; rfl
    refine (free_iff hok hlt).2 fun p q hp hq => ?_
    have hp2 : s.testBit p = true := by
      rcases hre p hp with h | h
      · simp [s00] at h
      · exact hin p h
    have hq2 : s.testBit q = true := by
      rcases hre q hq with h | h
      · simp [s00] at h
      · exact hin q h
    exact hA.2.1 p q hp2 hq2
  | co pk h1 =>
    have := h10 rfl
    rw [if_neg (by decide), if_neg (by decide), if_neg (by simp [bl_zero_of, bl]; omega), h1]
    rfl
end Go.Proofs.YtgboplcjafmliaaDoor.G

/- The contract of net.Has, in plain terms. -/
namespace Go.Proofs.YtgboplcjafmliaaDoor.G
open Go.RowKit Go.Proofs.YtgboplcjafmliaaDoorW.PrintWords Go.Proofs.YtgboplcjafmliaaDoorW.PrintLast Go.Proofs.YtgboplcjafmliaaDoorW.PrintMore
open Go.Proofs.YtgboplcjafmliaaDoor.PAll
set_option linter.unusedVariables false
set_option linter.unusedSimpArgs false
/-- An attack of the graph. -/
def atkB (l : List S54) (a b : Int) : Bool := l.any fun p => p.f0 == a && p.f1 == b
theorem has_l0 (N a b : Int) (l : List S54) (hl : l.length < 2 ^ 44) : ∀ (k j : Nat), l.length - j < k → j ≤ l.length → deliberationnet_Has.l0 k a b (j : Int) N l = some (atkB (l.drop j) a b)
  | 0, j, h, _ => by omega
  | k + 1, j, h, hj => by
    rw [deliberationnet_Has.l0]
    by_cases hlt : j < l.length
    · rw [if_pos (by omega), if_pos (by omega)]
      have e : wrap64 ((j : Int) + 1) = ((j + 1 : Nat) : Int) := by unfold wrap64; omega
      have er : rd_T54 l (j : Int) = nthP l j := by
        unfold rd_T54 nthP
        simp
      rw [e, er, has_l0 N a b l hl k (j + 1) (by omega) (by omega), nthP_drop l j hlt]
      unfold atkB
      rw [List.any_cons]
      by_cases h0 : (nthP l j).f0 = a
      · rw [if_pos h0]
        by_cases h1 : (nthP l j).f1 = b
        · rw [if_pos h1, beq_iff_eq.2 h0, beq_iff_eq.2 h1]; rfl
        · rw [if_neg h1, beq_eq_false_iff_ne.2 h1, Bool.and_false, Bool.false_or]
      · rw [if_neg h0, beq_eq_false_iff_ne.2 h0, Bool.false_and, Bool.false_or]
    · rw [if_neg (by omega), List.drop_eq_nil_of_le (by omega)]; rfl
theorem nhas_any (N a b : Int) (l : List S54) (hl : l.length < 2 ^ 44) (A : Option Addr) (c : Nat) (w : World) (hr : RdP w A c l) :
    Calls Tryd.prog 15 #[.agg #[.int .i64 N, .slice A l.length c], .int .i64 a, .int .i64 b] w fun e w' => e = .returned (.bool (atkB l a b)) ∧ Aside0 (Below w.heap.size w w') :=
  (deliberationnet_Has.calls (l.length + 1) N A c l a b (atkB l a b) w hr.2 hr.1 (by
    unfold deliberationnet_Has.f
    exact has_l0 N a b l hl (l.length + 1) 0 (by omega) (Nat.zero_le _))).mono fun e w' ⟨h, hb⟩ => ⟨h, ⟨hb⟩⟩
theorem atkB_nat {N : Nat} {l : List S54} (h : InR N l) (a b : Nat) : atkB l (a : Int) (b : Int) = atk l a b := by
  unfold atkB atk
  rw [Bool.eq_iff_iff, List.any_eq_true, List.any_eq_true]
  constructor
  · rintro ⟨p, hp, e⟩
    refine ⟨p, hp, ?_⟩
    simp only [Bool.and_eq_true, beq_iff_eq] at e ⊢
    omega
  · rintro ⟨p, hp, e⟩
    refine ⟨p, hp, ?_⟩
    have := h p hp
    simp only [Bool.and_eq_true, beq_iff_eq] at e ⊢
    omega
end Go.Proofs.YtgboplcjafmliaaDoor.G

/- The references' small functions about graphs: Attacked, In, Free, and the reply of a strategy. -/
namespace Go.Proofs.YtgboplcjafmliaaDoor.G
open Go.RowKit Go.Proofs.YtgboplcjafmliaaDoorW.PrintWords Go.Proofs.YtgboplcjafmliaaDoorW.PrintLast Go.Proofs.YtgboplcjafmliaaDoorW.PrintMore
open Go.Proofs.YtgboplcjafmliaaDoor.PAll
set_option linter.unusedVariables false
set_option linter.unusedSimpArgs false

/-- An element of a list attacks a node. -/
def attB (l : List S54) (S : List Nat) (a : Int) : Bool := S.any fun x : Nat => atkB l (x : Int) a
set_option maxHeartbeats 8000000 in
set_option maxRecDepth 100000 in
theorem attacked_any (N : Int) (l : List S54) (hl : l.length < 2 ^ 44) (A : Option Addr) (c : Nat) (S : List Nat) (hS : S.length < 2 ^ 40) (A2 : Option Addr) (c2 : Nat) (a : Int) (w : World) (hr : RdP w A c l) (hs : RdN .i64 w A2 c2 S) :
    Calls Tryd.prog 58 #[.agg #[.int .i64 N, .slice A l.length c], .slice A2 S.length c2, .int .i64 a] w fun e w' => e = .returned (.bool (attB l S a)) ∧ Aside0 (Below w.heap.size w w') := by
  have HR := Aside0.mk hr
  have HS := Aside0.mk hs
  have HB := Aside0.mk (St.refl w)
  clear hr hs
  go_enter Tryd.func58, Tryd.ntmps58
  go_wp2_with (first | ((with_reducible refine gate_dst (N := 3) rfl ?_); refine box_st (w := w) 3 #[.int .i64 N, .slice A l.length c] 24 rfl rfl ?hr HB.out ?_; (case hr => go_simp; done); clear HB; intro g w1 HB GE))
  go_loopw [7] (fun v7 x => ∃ i : Nat, v7 = .int .i64 (i : Int) ∧ i ≤ S.length ∧ Aside0 (attB l (S.drop i) a = attB l S a) ∧ Aside0 (St w [(g, .cells #[.int .i64 N, .slice A l.length c] 24 (0, 0))] x)) (fun v7 _ => S.length - (intOf v7).toNat)
  case atStart => exact ⟨0, rfl, Nat.zero_le _, ⟨rfl⟩, HB⟩
  case round =>
    clear HB
    obtain ⟨i, rfl, hi, HE, HB⟩ := hrel
    by_cases hlt : i < S.length
    · have i1 : decide ((i : Int) < (S.length : Int)) = true := decide_eq_true (by omega)
      have i2 : (i : Int) < (S.length : Int) := by omega
      go_upto_region 4 with fail
      obtain ⟨ad2, hA2, hcz⟩ := (HS.out.below HB.out.hb).cell i hlt
      subst hA2
      have hx0 := (HB.out.at_ (.head _) 0).trans rfl
      have hx1 := (HB.out.at_ (.head _) 1).trans rfl
      have HD := Aside0.mk (nth_drop S i hlt)
      have HHas := Aside0.mk (fun W (hb : Below w.heap.size w W) => nhas_any N ((nth S i : Nat) : Int) a l hl A c W (HR.out.below hb))
      generalize nth S i = y at *
      go_cut [20] (fun s20 wx => s20 = .bool (atkB l (y : Int) a) ∧ Aside0 (St w [(g, .cells #[.int .i64 N, .slice A l.length c] 24 (0, 0))] wx))
      case first =>
        rename_i J9 K9 hJ9 hK9
        go_region_with (go_at_call 15; refine (HHas.out _ HB.out.drew.hb).mono ?_; rintro e w9 ⟨rfl, hb⟩)
        all_goals
          go_simp
          refine hK9 _ _ (Met.intro (hJ9 _ _ ?_))
          (repeat apply Exists.intro)
          refine ⟨?_, rfl⟩
          exact ⟨rfl, ⟨HB.out.drew.nx hb.out⟩⟩
      case rest =>
        obtain ⟨rfl, HB2⟩ := hcut
        clear HB hx0 hx1 hcz HHas
        have he := HE.out
        rw [HD.out] at he
        unfold attB at he
        rw [List.any_cons] at he
        cases hb : atkB l (y : Int) a with
        | true =>
          rw [hb, Bool.true_or] at he
          have HRes : Aside0 (attB l S a = true) := ⟨he.symm⟩
          clear he
          go_wp2
          go_ret
          exact ⟨by rw [HRes.out]; rfl, ⟨HB2.out.hb⟩⟩
        | false =>
          rw [hb, Bool.false_or] at he
          have HE2 : Aside0 (attB l (S.drop (i + 1)) a = attB l S a) := ⟨he⟩
          clear he
          go_wp2
          go_roundw
          case rel => exact ⟨i + 1, by go_num, hlt, HE2, HB2⟩
          case measure => simp [intOf]; omega
    · have i1 : decide ((i : Int) < (S.length : Int)) = false := decide_eq_false (by omega)
      have HRes : Aside0 (attB l S a = false) := ⟨by rw [← HE.out, List.drop_eq_nil_of_le (by omega)]; rfl⟩
      go_wp2
      go_ret
      exact ⟨by rw [HRes.out]; rfl, ⟨HB.out.hb⟩⟩

/-- No element of a list attacks another one, or itself. -/
def freeL (l : List S54) (S : List Nat) : Bool := S.all fun x : Nat => !attB l S (x : Int)
set_option maxHeartbeats 8000000 in
set_option maxRecDepth 100000 in
theorem freeL_any (N : Int) (l : List S54) (hl : l.length < 2 ^ 44) (A : Option Addr) (c : Nat) (S : List Nat) (hS : S.length < 2 ^ 40) (A2 : Option Addr) (c2 : Nat) (w : World) (hr : RdP w A c l) (hs : RdN .i64 w A2 c2 S) :
    Calls Tryd.prog 38 #[.agg #[.int .i64 N, .slice A l.length c], .slice A2 S.length c2] w fun e w' => e = .returned (.bool (freeL l S)) ∧ Aside0 (Below w.heap.size w w') := by
  have HR := Aside0.mk hr
  have HS := Aside0.mk hs
  have HB := Aside0.mk (St.refl w)
  clear hr hs
  go_enter Tryd.func38, Tryd.ntmps38
  go_wp2_with (first | ((with_reducible refine gate_dst (N := 2) rfl ?_); refine box_st (w := w) 2 #[.int .i64 N, .slice A l.length c] 24 rfl rfl ?hr HB.out ?_; (case hr => go_simp; done); clear HB; intro g w1 HB GE))
  go_loopw [5] (fun v5 x => ∃ i : Nat, v5 = .int .i64 (i : Int) ∧ i ≤ S.length ∧ Aside0 (((S.drop i).all fun x : Nat => !attB l S (x : Int)) = freeL l S) ∧ Aside0 (St w [(g, .cells #[.int .i64 N, .slice A l.length c] 24 (0, 0))] x)) (fun v5 _ => S.length - (intOf v5).toNat)
  case atStart => exact ⟨0, rfl, Nat.zero_le _, ⟨rfl⟩, HB⟩
  case round =>
    clear HB
    obtain ⟨i, rfl, hi, HE, HB⟩ := hrel
    by_cases hlt : i < S.length
    · have i1 : decide ((i : Int) < (S.length : Int)) = true := decide_eq_true (by omega)
      have i2 : (i : Int) < (S.length : Int) := by omega
      go_upto_region 4 with fail
      obtain ⟨ad2, hA2, hcz⟩ := (HS.out.below HB.out.hb).cell i hlt
      subst hA2
      have hx0 := (HB.out.at_ (.head _) 0).trans rfl
      have hx1 := (HB.out.at_ (.head _) 1).trans rfl
      have HD := Aside0.mk (nth_drop S i hlt)
      have HAt := Aside0.mk (fun W (hb : Below w.heap.size w W) => attacked_any N l hl A c S hS (some ad2) c2 ((nth S i : Nat) : Int) W (HR.out.below hb) (HS.out.below hb))
      generalize nth S i = y at *
      go_cut [18] (fun s18 wx => s18 = .bool (attB l S (y : Int)) ∧ Aside0 (St w [(g, .cells #[.int .i64 N, .slice A l.length c] 24 (0, 0))] wx))
      case first =>
        rename_i J9 K9 hJ9 hK9
        go_region_with (go_at_call 58; refine (HAt.out _ HB.out.drew.hb).mono ?_; rintro e w9 ⟨rfl, hb⟩)
        all_goals
          go_simp
          refine hK9 _ _ (Met.intro (hJ9 _ _ ?_))
          (repeat apply Exists.intro)
          refine ⟨?_, rfl⟩
          exact ⟨rfl, ⟨HB.out.drew.nx hb.out⟩⟩
      case rest =>
        obtain ⟨rfl, HB2⟩ := hcut
        clear HB hx0 hx1 hcz HAt
        have he := HE.out
        rw [HD.out, List.all_cons] at he
        cases hb : attB l S (y : Int) with
        | true =>
          rw [hb, Bool.not_true, Bool.false_and] at he
          have HRes : Aside0 (freeL l S = false) := ⟨he.symm⟩
          clear he
          go_wp2
          go_ret
          exact ⟨by rw [HRes.out]; rfl, ⟨HB2.out.hb⟩⟩
        | false =>
          rw [hb, Bool.not_false, Bool.true_and] at he
          have HE2 : Aside0 (((S.drop (i + 1)).all fun x : Nat => !attB l S (x : Int)) = freeL l S) := ⟨he⟩
          clear he
          go_wp2
          go_roundw
          case rel => exact ⟨i + 1, by go_num, hlt, HE2, HB2⟩
          case measure => simp [intOf]; omega
    · have i1 : decide ((i : Int) < (S.length : Int)) = false := decide_eq_false (by omega)
      have HRes : Aside0 (freeL l S = true) := ⟨by rw [← HE.out, List.drop_eq_nil_of_le (by omega)]; rfl⟩
      go_wp2
      go_ret
      exact ⟨by rw [HRes.out]; rfl, ⟨HB.out.hb⟩⟩
/-- A number is an element of a list. -/
def inB (S : List Nat) (x : Int) : Bool := S.any fun y : Nat => (y : Int) == x
set_option maxHeartbeats 8000000 in
set_option maxRecDepth 100000 in
theorem inB_any (S : List Nat) (hS : S.length < 2 ^ 40) (A2 : Option Addr) (c2 : Nat) (x : Int) (w : World) (hs : RdN .i64 w A2 c2 S) :
    Calls Tryd.prog 60 #[.slice A2 S.length c2, .int .i64 x] w fun e w' => e = .returned (.bool (inB S x)) ∧ w = w' := by
  have HS := Aside0.mk hs
  clear hs
  go_enter Tryd.func60, Tryd.ntmps60
  go_wp2
  go_loop [5] (fun v5 => ∃ i : Nat, v5 = .int .i64 (i : Int) ∧ i ≤ S.length ∧ Aside0 (inB (S.drop i) x = inB S x)) (fun v5 => S.length - (intOf v5).toNat)
  case atStart => exact ⟨0, rfl, Nat.zero_le _, ⟨rfl⟩⟩
  case round =>
    obtain ⟨i, rfl, hi, HE⟩ := hrel
    by_cases hlt : i < S.length
    · have i1 : decide ((i : Int) < (S.length : Int)) = true := decide_eq_true (by omega)
      have i2 : (i : Int) < (S.length : Int) := by omega
      obtain ⟨ad2, hA2, hcz⟩ := HS.out.cell i hlt
      subst hA2
      have HD := Aside0.mk (nth_drop S i hlt)
      generalize nth S i = y at *
      have he := HE.out
      rw [HD.out] at he
      unfold inB at he
      rw [List.any_cons] at he
      cases hb : ((y : Int) == x) with
      | true =>
        rw [hb, Bool.true_or] at he
        have HRes : Aside0 (inB S x = true) := ⟨he.symm⟩
        clear he
        go_wp2
        go_ret
        exact ⟨by rw [HRes.out]; rfl, rfl⟩
      | false =>
        rw [hb, Bool.false_or] at he
        have HE2 : Aside0 (inB (S.drop (i + 1)) x = inB S x) := ⟨he⟩
        clear he
        go_wp2
        exact ⟨⟨i + 1, by go_num, hlt, HE2⟩, by simp [intOf]; omega⟩
    · have i1 : decide ((i : Int) < (S.length : Int)) = false := decide_eq_false (by omega)
      have HRes : Aside0 (inB S x = false) := ⟨by rw [← HE.out, List.drop_eq_nil_of_le (by omega)]; rfl⟩
      go_wp2
      go_ret
      exact ⟨by rw [HRes.out]; rfl, rfl⟩
end Go.Proofs.YtgboplcjafmliaaDoor.G

/- The references' Admissible and the reply of a strategy. -/
namespace Go.Proofs.YtgboplcjafmliaaDoor.G
open Go.RowKit Go.Proofs.YtgboplcjafmliaaDoorW.PrintWords Go.Proofs.YtgboplcjafmliaaDoorW.PrintLast Go.Proofs.YtgboplcjafmliaaDoorW.PrintMore
open Go.Proofs.YtgboplcjafmliaaDoor.PAll
set_option linter.unusedVariables false
set_option linter.unusedSimpArgs false

/-- A set that defends itself against an attack. -/
def defB (l : List S54) (S : List Nat) (p : S54) : Bool := inB S p.f1 && !attB l S p.f0
def admB (l : List S54) (S : List Nat) : Bool := (l.all fun p => !defB l S p) && freeL l S
set_option maxHeartbeats 8000000 in
set_option maxRecDepth 100000 in
theorem adm_any (N : Int) (l : List S54) (hl : l.length < 2 ^ 40) (A : Option Addr) (c : Nat) (S : List Nat) (hS : S.length < 2 ^ 40) (A2 : Option Addr) (c2 : Nat) (w : World) (hr : RdP w A c l) (hs : RdN .i64 w A2 c2 S) :
    Calls Tryd.prog 61 #[.agg #[.int .i64 N, .slice A l.length c], .slice A2 S.length c2] w fun e w' => e = .returned (.bool (admB l S)) ∧ Aside0 (Below w.heap.size w w') := by
  have HR := Aside0.mk hr
  have HS := Aside0.mk hs
  have HB := Aside0.mk (St.refl w)
  clear hr hs
  go_enter Tryd.func61, Tryd.ntmps61
  go_wp2_with (first | ((with_reducible refine gate_dst (N := 2) rfl ?_); refine box_st (w := w) 2 #[.int .i64 N, .slice A l.length c] 24 rfl rfl ?hr HB.out ?_; (case hr => go_simp; done); clear HB; intro g w1 HB GE))
  go_loopw [5] (fun v5 x => ∃ i : Nat, v5 = .int .i64 (i : Int) ∧ i ≤ l.length ∧ Aside0 (((l.drop i).all fun p => !defB l S p) = (l.all fun p => !defB l S p)) ∧ Aside0 (St w [(g, .cells #[.int .i64 N, .slice A l.length c] 24 (0, 0))] x)) (fun v5 _ => l.length - (intOf v5).toNat)
  case atStart => exact ⟨0, rfl, Nat.zero_le _, ⟨rfl⟩, HB⟩
  case round =>
    clear HB
    obtain ⟨i, rfl, hi, HE, HB⟩ := hrel
    have hx0 := (HB.out.at_ (.head _) 0).trans rfl
    have hx1 := (HB.out.at_ (.head _) 1).trans rfl
    by_cases hlt : i < l.length
    · have i1 : decide ((i : Int) < (l.length : Int)) = true := decide_eq_true (by omega)
      have i2 : (i : Int) < (l.length : Int) := by omega
      go_upto_region 4 with fail
      clear hx0 hx1
      obtain ⟨ad, hA, _, _⟩ := (HR.out.below HB.out.hb).cell i hlt
      subst hA
      have hs0 : ∀ j : Gd (St w [(g, .cells #[.int .i64 N, .slice (some ad) l.length c] 24 (0, 0))]), j.v.cell? ⟨g, 0, none⟩ = some (.int .i64 N) := fun j => (j.h.at_ (.head _) 0).trans rfl
      have hs1 : ∀ j : Gd (St w [(g, .cells #[.int .i64 N, .slice (some ad) l.length c] 24 (0, 0))]), j.v.cell? ⟨g, 1, none⟩ = some (.slice (some ad) l.length c) := fun j => (j.h.at_ (.head _) 1).trans rfl
      have hs2 : ∀ j : Gd (St w [(g, .cells #[.int .i64 N, .slice (some ad) l.length c] 24 (0, 0))]), j.v.cell? (ad.add (i * 2)) = some (.int .i64 (nthP l i).f0) := fun j => by
        obtain ⟨ad', e, h1, _⟩ := (HR.out.below j.h.hb).cell i hlt
        injection e with e
        subst e; exact h1
      have hs3 : ∀ j : Gd (St w [(g, .cells #[.int .i64 N, .slice (some ad) l.length c] 24 (0, 0))]), j.v.cell? ⟨(ad.add (i * 2)).block, (ad.add (i * 2)).off + 1, none⟩ = some (.int .i64 (nthP l i).f1) := fun j => by
        obtain ⟨ad', e, _, h2⟩ := (HR.out.below j.h.hb).cell i hlt
        injection e with e
        subst e; exact h2
      have HD := Aside0.mk (nthP_drop l i hlt)
      generalize nthP l i = p at *
      have C60 : Aside0 (∀ j : Gd (St w [(g, .cells #[.int .i64 N, .slice (some ad) l.length c] 24 (0, 0))]), Calls Tryd.prog 60 #[.slice A2 S.length c2, .int .i64 p.f1] j.v fun e w' => e = .returned (.bool (inB S p.f1)) ∧ ∃ k : Gd (St w [(g, .cells #[.int .i64 N, .slice (some ad) l.length c] 24 (0, 0))]), w' = k.v) := ⟨fun j => j.h.gdsame (inB_any S hS A2 c2 p.f1 j.v (HS.out.below j.h.hb))⟩
      have C58 : Aside0 (∀ j : Gd (St w [(g, .cells #[.int .i64 N, .slice (some ad) l.length c] 24 (0, 0))]), Calls Tryd.prog 58 #[.agg #[.int .i64 N, .slice (some ad) l.length c], .slice A2 S.length c2, .int .i64 p.f0] j.v fun e w' => e = .returned (.bool (attB l S p.f0)) ∧ ∃ k : Gd (St w [(g, .cells #[.int .i64 N, .slice (some ad) l.length c] 24 (0, 0))]), w' = k.v) := ⟨fun j => j.h.gdnx (attacked_any N l (by omega) (some ad) c S hS A2 c2 p.f0 j.v (HR.out.below j.h.hb) (HS.out.below j.h.hb))⟩
      have he := HE.out
      rw [HD.out, List.all_cons] at he
      have hdef : defB l S p = (inB S p.f1 && !attB l S p.f0) := rfl
      rw [hdef] at he
      clear hdef
      haveI : Nonempty (Gd (St w [(g, .cells #[.int .i64 N, .slice (some ad) l.length c] 24 (0, 0))])) := ⟨⟨wr, HB.out⟩⟩
      cases hb1 : inB S p.f1 with
      | false =>
        rw [hb1, Bool.false_and, Bool.not_false, Bool.true_and] at he
        rw [hb1] at C60
        have HE2 : Aside0 (((l.drop (i + 1)).all fun p => !defB l S p) = (l.all fun p => !defB l S p)) := ⟨he⟩
        clear he hb1
        refine wp_quiet_cls (fun x => ∃ j : Gd (St w [(g, .cells #[.int .i64 N, .slice (some ad) l.length c] 24 (0, 0))]), x = j.v) (by kernel_rfl) (by kernel_rfl) ⟨⟨wr.drew, HB.out.drew⟩, rfl⟩ ?_
        repeat (go_big_quiet_step (first | (go_at_call 60; exact C60.out _) | (go_at_call 58; exact C58.out _)))
        refine wpQuiet_nil ?_
        clear hs0 hs1 hs2 hs3 C60 C58 this
        rintro _ ⟨⟨w4, hb4⟩, rfl⟩
        have HB4 := Aside0.mk hb4
        clear hb4
        go_wp2
        go_roundw
        case rel => exact ⟨i + 1, by go_num, hlt, HE2, HB4⟩
        case measure => simp [intOf]; omega
      | true =>
        rw [hb1, Bool.true_and] at he
        rw [hb1] at C60
        cases hb2 : attB l S p.f0 with
        | true =>
          rw [hb2, Bool.not_true, Bool.not_false, Bool.true_and] at he
          rw [hb2] at C58
          have HE2 : Aside0 (((l.drop (i + 1)).all fun p => !defB l S p) = (l.all fun p => !defB l S p)) := ⟨he⟩
          clear he hb1 hb2
          refine wp_quiet_cls (fun x => ∃ j : Gd (St w [(g, .cells #[.int .i64 N, .slice (some ad) l.length c] 24 (0, 0))]), x = j.v) (by kernel_rfl) (by kernel_rfl) ⟨⟨wr.drew, HB.out.drew⟩, rfl⟩ ?_
          repeat (go_big_quiet_step (first | (go_at_call 60; exact C60.out _) | (go_at_call 58; exact C58.out _)))
          refine wpQuiet_nil ?_
          clear hs0 hs1 hs2 hs3 C60 C58 this
          rintro _ ⟨⟨w4, hb4⟩, rfl⟩
          have HB4 := Aside0.mk hb4
          clear hb4
          go_wp2
          go_roundw
          case rel => exact ⟨i + 1, by go_num, hlt, HE2, HB4⟩
          case measure => simp [intOf]; omega
        | false =>
          rw [hb2, Bool.not_false, Bool.not_true, Bool.false_and] at he
          rw [hb2] at C58
          have HRes : Aside0 (admB l S = false) := ⟨by unfold admB; rw [← he]; rfl⟩
          clear he hb1 hb2
          refine wp_quiet_cls (fun x => ∃ j : Gd (St w [(g, .cells #[.int .i64 N, .slice (some ad) l.length c] 24 (0, 0))]), x = j.v) (by kernel_rfl) (by kernel_rfl) ⟨⟨wr.drew, HB.out.drew⟩, rfl⟩ ?_
          repeat (go_big_quiet_step (first | (go_at_call 60; exact C60.out _) | (go_at_call 58; exact C58.out _)))
          refine wpQuiet_nil ?_
          clear hs0 hs1 hs2 hs3 C60 C58 this
          rintro _ ⟨⟨w4, hb4⟩, rfl⟩
          have HB4 := Aside0.mk hb4
          clear hb4
          go_wp2
          go_ret
          exact ⟨by rw [HRes.out]; rfl, ⟨HB4.out.hb⟩⟩
    · have i1 : decide ((i : Int) < (l.length : Int)) = false := decide_eq_false (by omega)
      have HRes : Aside0 ((l.all fun p => !defB l S p) = true) := ⟨by rw [← HE.out, List.drop_eq_nil_of_le (by omega)]; rfl⟩
      have HFr := Aside0.mk (freeL_any N l (by omega) A c S hS A2 c2 wr (HR.out.below HB.out.hb) (HS.out.below HB.out.hb))
      go_wp2_with (first | (go_at_call 38; refine HFr.out.mono ?_; rintro e w9 ⟨rfl, hb⟩))
      go_ret
      exact ⟨by unfold admB; rw [HRes.out]; rfl, ⟨(HB.out.nx hb.out).hb⟩⟩

/-- The reply to a node, or -1. -/
def repI (rs : List Rp) (t : Nat) : Int := match rep rs t with
  | some y => (y : Int)
  | none => -1
set_option maxHeartbeats 8000000 in
set_option maxRecDepth 100000 in
theorem rreply_any (rs : List Rp) (hn : rs.length < 1000) (t : Nat) (ht : t < 64) (A : Option Addr) (c : Nat) (x y z : Int) (w : World) (hr : RdR w A c rs) :
    Calls Tryd.prog 62 #[.agg #[.int .i64 x, .int .i64 y, .int .i64 z, .slice A rs.length c], .int .i64 (t : Int)] w fun e w' => e = .returned (.int .i64 (repI rs t)) ∧ Aside0 (Below w.heap.size w w') := by
  have HR := Aside0.mk hr
  have HB := Aside0.mk (St.refl w)
  clear hr
  go_enter Tryd.func62, Tryd.ntmps62
  go_wp2_with (first | ((with_reducible refine gate_dst (N := 2) rfl ?_); refine box_st (w := w) 2 #[.int .i64 x, .int .i64 y, .int .i64 z, .slice A rs.length c] 33 rfl rfl ?hr HB.out ?_; (case hr => go_simp; done); clear HB; intro g w1 HB GE))
  go_loopw [5] (fun v5 X => ∃ i : Nat, v5 = .int .i64 (i : Int) ∧ i ≤ rs.length ∧ Aside0 (repI (rs.drop i) t = repI rs t) ∧ Aside0 (St w [(g, .cells #[.int .i64 x, .int .i64 y, .int .i64 z, .slice A rs.length c] 33 (0, 0))] X)) (fun v5 _ => rs.length - (intOf v5).toNat)
  case atStart => exact ⟨0, rfl, Nat.zero_le _, ⟨rfl⟩, HB⟩
  case round =>
    clear HB
    obtain ⟨i, rfl, hi, HE, HB⟩ := hrel
    have hx3 := (HB.out.at_ (.head _) 3).trans rfl
    by_cases hlt : i < rs.length
    · have i1 : decide ((i : Int) < (rs.length : Int)) = true := decide_eq_true (by omega)
      have i2 : (i : Int) < (rs.length : Int) := by omega
      obtain ⟨ad, hA, hc0, hc1⟩ := (HR.out.below HB.out.hb).cell i hlt
      subst hA
      have HD : Aside0 (rs.drop i = nthR rs i :: rs.drop (i + 1)) := ⟨by rw [nthR_get rs i hlt]; exact List.drop_eq_getElem_cons hlt⟩
      have hrep : rep (rs.drop i) t = if ((nthR rs i).1.val == t) = true then some (nthR rs i).2.val else rep (rs.drop (i + 1)) t := by
        rw [HD.out]
        unfold rep
        rw [List.find?_cons]
        cases ((nthR rs i).1.val == t) <;> rfl
      have HRp := Aside0.mk hrep
      clear hrep
      obtain ⟨p1, hp1⟩ : ∃ p, (nthR rs i).1.val = p := ⟨_, rfl⟩
      obtain ⟨p2, hp2⟩ : ∃ p, (nthR rs i).2.val = p := ⟨_, rfl⟩
      rw [hp1] at hc0 HRp
      rw [hp2] at hc1 HRp
      have he := HE.out
      unfold repI at he
      rw [HRp.out] at he
      clear HD hp1 hp2
      by_cases hpt : p1 = t
      · have q1 : ((p1 : Int) == (t : Int)) = true := by rw [beq_iff_eq]; omega
        rw [if_pos (by rw [beq_iff_eq]; exact hpt)] at he
        have HRes : Aside0 (repI rs t = (p2 : Int)) := ⟨he.symm⟩
        clear he hpt
        go_wp2
        go_ret
        exact ⟨by rw [HRes.out]; rfl, ⟨HB.out.hb⟩⟩
      · have q1 : ((p1 : Int) == (t : Int)) = false := by rw [beq_eq_false_iff_ne]; omega
        rw [if_neg (by rw [beq_iff_eq]; exact hpt)] at he
        have HE2 : Aside0 (repI (rs.drop (i + 1)) t = repI rs t) := ⟨he⟩
        clear he hpt
        go_wp2
        go_roundw
        case rel => exact ⟨i + 1, by go_num, hlt, HE2, HB⟩
        case measure => simp [intOf]; omega
    · have i1 : decide ((i : Int) < (rs.length : Int)) = false := decide_eq_false (by omega)
      have HRes : Aside0 (repI rs t = -1) := ⟨by rw [← HE.out, List.drop_eq_nil_of_le (by omega)]; rfl⟩
      go_wp2
      go_ret
      exact ⟨by rw [HRes.out]; rfl, ⟨HB.out.hb⟩⟩
end Go.Proofs.YtgboplcjafmliaaDoor.G
