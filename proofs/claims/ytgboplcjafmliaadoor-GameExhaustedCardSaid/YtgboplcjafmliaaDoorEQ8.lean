/- The contract of game.Check at a strategy whose parts are in order. -/
import Derived.Test.YtgboplcjafmliaaDoorEQ7
import Derived.Test.YtgboplcjafmliaaDoorPAllx7
/- The contract of game.Check at a strategy whose parts are in order. -/
namespace Go.Proofs.YtgboplcjafmliaaDoor.G
open Go.RowKit Go.Proofs.YtgboplcjafmliaaDoorW.PrintWords Go.Proofs.YtgboplcjafmliaaDoorW.PrintLast Go.Proofs.YtgboplcjafmliaaDoorW.PrintMore
open Go.Proofs.YtgboplcjafmliaaDoor.PAll
set_option linter.unusedVariables false
set_option linter.unusedSimpArgs false

/-- Whether a strategy wins, as the checker finds it. -/
def winB (N : Nat) (n : NetD) (game : Int) (root : Nat) (who : Int) (rs : List Rp) : Bool :=
  if who = 1 then (vis n rs game (N + 1) root (s00 N)).1 && (game == 1 || freeB n (vis n rs game (N + 1) root (s00 N)).2.reached)
  else if game = 1 then (rst n rs (N + 1) root 0).1
  else if 10 < N ∨ 0 < rs.length then false else (srch n (N + 1) (2 ^ root)).isNone
theorem winsB_eq (d : CkD) : winsB d = winB d.N d.n d.game d.root d.who d.rs := rfl
/-- A strategy whose parts are in order. -/
structure StrOk (N : Nat) (game : Int) (root : Nat) (who : Int) (rs : List Rp) : Prop where
  root : root < N
  game : game = 1 ∨ game = 2
  who : who = 1 ∨ who = 2
  so : SortR rs
  lt : ∀ p, p ∈ rs → p.1.val < N ∧ p.2.val < N
theorem StrOk.len {N : Nat} {game : Int} {root : Nat} {who : Int} {rs : List Rp} (h : StrOk N game root who rs) (hN : N ≤ 40) : rs.length ≤ 40 := by
  have h1 : (rs.map fun p => p.1.val).Nodup := by
    rw [List.nodup_iff_pairwise_ne, List.pairwise_map]
    exact h.so.imp fun h => Nat.ne_of_lt h
  have := nodup_le N _ h1 (fun a ha => by obtain ⟨p, hp, rfl⟩ := List.mem_map.1 ha; exact (h.lt p hp).1)
  rw [List.length_map] at this
  omega

set_option maxHeartbeats 1000000 in
theorem in_any (N : Nat) (x : Nat) (hx : x < N) (A : Option Addr) (m c : Nat) (g : Nat) (w : World) (hg : w.heap[g]? = some (.cells #[.int .i64 (N : Int), .slice A m c] 24 (0, 0))) :
    Calls Tryd.prog 39 #[.int .i64 (x : Int), .pointer (some ⟨g, 0, none⟩)] w fun e w' => e = .returned (.bool true) ∧ w = w' := by
  have hg0 := (blk_cell hg 0).trans rfl
  have e1 : decide ((0 : Int) ≤ (x : Int)) = true := decide_eq_true (by omega)
  have e2 : decide ((x : Int) < (N : Int)) = true := decide_eq_true (by omega)
  have e3 : decide (x < N) = true := decide_eq_true hx
  clear hg
  go_enter Tryd.func39, Tryd.ntmps39
  go_wp2
  go_ret
  exact ⟨rfl, rfl⟩

/-- The error of Check at a strategy whose parts are in order. -/
def chkE (b : Bool) : Int := if b = true then 0 else 11
theorem made_zero (n : Nat) : madeCells #[Value.int .i64 0] n = i64s (List.replicate n 0) := by
  apply Array.toList_inj.1
  apply List.ext_getElem
  · simp [i64s, up, madeCells]
  · intro i h1 h2
    simp [i64s, up, madeCells, Nat.mod_one]
theorem ck_of (d : CkD) {w wx : World} {rest : List (Nat × Obj)} (hT : TabW w) (ho : OwnRp w d.base (.slice d.A d.rs.length d.c) d.rs) (hm : Mem w ((d.g, .cells (d.cells 0) 84 (0, 0)) :: (d.h, .cells (madeCells #[Value.int .i64 0] d.N) 3 (0, 0)) :: rest) wx) (h1 : wx.heap[d.b1]? = some (.cells (u64s d.n.by_) 61 (0, 0))) (h2 : wx.heap[d.b2]? = some (.cells (u64s d.n.out) 61 (0, 0))) :
    CkS d (s00 d.N) wx ∧ Below w.heap.size w wx ∧ w.heap.size ≤ d.g ∧ w.heap.size ≤ d.h := by
  refine ⟨⟨hT.below hT.2 hm.st.hb, h1, h2, ho.below hm.st.hb, hm.st.blk _ (.head _), ?_, by simp [s00], Nat.two_pow_pos _⟩, hm.st.hb, hm.lo _ (.head _), hm.lo _ (.tail _ (.head _))⟩
  have h3 := hm.st.blk _ (.tail _ (.head _))
  rw [made_zero] at h3
  exact h3
set_option maxHeartbeats 8000000 in
set_option maxRecDepth 100000 in
theorem check_any (N : Int) (M : Nat) (hNM : N = M) (hM : M ≤ 40) (l : List S54) (hl : l.length < 2 ^ 44) (hv : valE N l = 0) (hin : InR M l) (A : Option Addr) (c : Nat) (game : Int) (root : Nat) (who : Int) (A4 : Option Addr) (c4 base : Nat) (rs : List Rp) (hok : StrOk M game root who rs) (w : World) (hT : TabW w) (hr : RdP w A c l) (ho : OwnRp w base (.slice A4 rs.length c4) rs) :
    Calls Tryd.prog 13 #[.agg #[.int .i64 N, .slice A l.length c], .agg #[.int .i64 game, .int .i64 (root : Int), .int .i64 who, .slice A4 rs.length c4]] w fun e w' => e = .returned (.int .i64 (chkE (winB M (netOf M l) game root who rs))) ∧ Aside0 (Below w.heap.size w w') := by
  have HT := Aside0.mk hT
  have HR := Aside0.mk hr
  have HO := Aside0.mk ho
  have HOk := Aside0.mk hok
  have HNM := Aside0.mk hNM
  have HIn := Aside0.mk hin
  have hlen := hok.len hM
  clear hT hr ho hok hNM hin
  have HVal := Aside0.mk (fun W h => validate_any N l hl A c W h)
  rw [hv] at HVal
  have HEx := Aside0.mk (fun W => exists_any game W)
  have e3 : decide (game = 1 ∨ game = 2) = true := decide_eq_true HOk.out.game
  rw [e3] at HEx
  have HB := Aside0.mk (Mem.refl w)
  clear hv e3
  go_enter Tryd.func13, Tryd.ntmps13
  go_upto_region 5 with (first | ((with_reducible refine gate_dst (N := 2) rfl ?_); refine box_mem (w := w) 2 #[.int .i64 N, .slice A l.length c] 24 rfl rfl ?hr HB.out ?_; (case hr => go_simp; done); clear HB; intro g w1 HB HW) | ((with_reducible refine gate_dst (N := 3) rfl ?_); refine box_mem (w := w) 3 #[.int .i64 game, .int .i64 (root : Int), .int .i64 who, .slice A4 rs.length c4] 33 rfl rfl ?hr HB.out ?_; (case hr => go_simp; done); clear HB HW; intro g2 w2 HB HW; have hg0 := (HB.out.st.at_ (.tail _ (.head _)) 0).trans rfl; have hg1 := (HB.out.st.at_ (.tail _ (.head _)) 1).trans rfl) | (go_at_call 23; refine (HVal.out _ (HR.out.below HB.out.st.hb)).mono ?_; rintro e w3 ⟨rfl, hb⟩; have HB3 := Aside0.mk (HB.out.nx hb.out); clear hb HB hg0 hg1))
  have hk0 := (HB3.out.st.at_ (g := g2) (.head _) 0).trans rfl
  have hk1 := (HB3.out.st.at_ (g := g2) (.head _) 1).trans rfl
  have hk2 := (HB3.out.st.at_ (g := g2) (.head _) 2).trans rfl
  go_cut [30] (fun s30 wx => s30 = .bool false ∧ wx = w3)
  case first =>
    rcases HOk.out.who with hw | hw
    · have q1 : (who != 1) = false := by rw [bne_eq_false_iff_eq]; exact hw
      clear hw
      go_wp2_with (first | (go_at_call 24; refine (HEx.out _).mono ?_; rintro e w' ⟨rfl, rfl⟩))
      go_meet
      exact ⟨rfl, rfl⟩
    · have q1 : (who != 1) = true := by rw [bne_iff_ne, hw]; decide
      have q2 : (who != 2) = false := by rw [bne_eq_false_iff_eq]; exact hw
      clear hw
      go_wp2_with (first | (go_at_call 24; refine (HEx.out _).mono ?_; rintro e w' ⟨rfl, rfl⟩))
      go_meet
      exact ⟨rfl, rfl⟩
  case rest =>
    obtain ⟨rfl, rfl⟩ := hcut
    have HI39 : Aside0 (∀ (x : Nat), x < M → ∀ W : World, W.heap[g]? = some (.cells #[.int .i64 N, .slice A l.length c] 24 (0, 0)) → Calls Tryd.prog 39 #[.int .i64 (x : Int), .pointer (some ⟨g, 0, none⟩)] W fun e w' => e = .returned (.bool true) ∧ W = w') := ⟨fun x hx W hW => by
      rw [HNM.out] at hW
      exact in_any M x hx A l.length c g W hW⟩
    have hk3 := (HB3.out.st.at_ (g := g2) (.head _) 3).trans rfl
    clear HEx HVal hk0 hk2
    go_wp2_with (first | (go_at_call 39; refine (HI39.out root HOk.out.root _ (HB3.out.st.blk _ (.tail _ (.head _)))).mono ?_; rintro e w' ⟨rfl, rfl⟩))
    clear hk1 hk3
    go_loopw [8, 39] (fun v8 v39 w' => ∃ k : Nat, v39 = .int .i64 (k : Int) ∧ k ≤ rs.length ∧ Aside0 (Mem w [(g2, .cells #[.int .i64 game, .int .i64 (root : Int), .int .i64 who, .slice A4 rs.length c4] 33 (0, 0)), (g, .cells #[.int .i64 N, .slice A l.length c] 24 (0, 0))] w')) (fun _ v39 _ => rs.length - (intOf v39).toNat)
    case atStart => exact ⟨0, rfl, Nat.zero_le _, HB3⟩
    case round =>
      clear HB3
      obtain ⟨k, rfl, hk, HM⟩ := hrel
      by_cases hlt : k < rs.length
      · obtain ⟨A5, c5, he, hrd⟩ := (HO.out.below HM.out.st.hb).reads
        injection he with e1 e2 e3
        subst e1 e3
        obtain ⟨ad, rfl, hc0, hc1⟩ := hrd.cell k hlt
        have hpm : nthR rs k ∈ rs := by rw [nthR_get rs k hlt]; exact List.getElem_mem hlt
        have hpl := HOk.out.lt _ hpm
        clear hpm hrd
        obtain ⟨p1, hp1⟩ : ∃ p, (nthR rs k).1.val = p := ⟨_, rfl⟩
        obtain ⟨p2, hp2⟩ : ∃ p, (nthR rs k).2.val = p := ⟨_, rfl⟩
        rw [hp1] at hc0 hpl
        rw [hp2] at hc1 hpl
        obtain ⟨hl1, hl2⟩ := hpl
        clear hp1 hp2
        have HMa := Aside0.mk (HM.out.add (.cells #[.int .i64 (p1 : Int), .int .i64 (p2 : Int)] 77 (0, 0)))
        go_wp2_with (first | (go_at_call 39; refine (HI39.out _ ?hx _ (HMa.out.st.blk _ (.tail _ (.tail _ (.head _))))).mono ?_; (case hx => (first | exact hl1 | exact hl2)); rintro e w' ⟨rfl, rfl⟩))
        go_roundw
        case rel => exact ⟨k + 1, by go_num, hlt, ⟨HMa.out.sub⟩⟩
        case measure => simp [intOf]; omega
      · go_wp2
        go_loopw [9] (fun v9 w' => ∃ k : Nat, v9 = .int .i64 (k : Int) ∧ 1 ≤ k ∧ k ≤ rs.length + 1 ∧ Aside0 (Mem w [(g2, .cells #[.int .i64 game, .int .i64 (root : Int), .int .i64 who, .slice A4 rs.length c4] 33 (0, 0)), (g, .cells #[.int .i64 N, .slice A l.length c] 24 (0, 0))] w')) (fun v9 _ => rs.length + 1 - (intOf v9).toNat)
        case atStart => exact ⟨1, rfl, Nat.le_refl _, by omega, HM⟩
        case round =>
          clear HM hlt hk
          obtain ⟨k, rfl, hk1, hk, HM⟩ := hrel
          have hm3 := (HM.out.st.at_ (g := g2) (.head _) 3).trans rfl
          by_cases hlt : k < rs.length
          · obtain ⟨A5, c5, he, hrd⟩ := (HO.out.below HM.out.st.hb).reads
            injection he with e1 e2 e3
            subst e1 e3
            obtain ⟨ad, rfl, hc0, hc1⟩ := hrd.cell k hlt
            obtain ⟨ad', he, hd0, hd1⟩ := hrd.cell (k - 1) (by omega)
            injection he with he
            subst he
            have hord := HOk.out.so.lt (i := k - 1) (j := k) (by omega) hlt
            clear hrd hc1 hd1
            obtain ⟨p1, hp1⟩ : ∃ p, (nthR rs k).1.val = p := ⟨_, rfl⟩
            obtain ⟨p2, hp2⟩ : ∃ p, (nthR rs (k - 1)).1.val = p := ⟨_, rfl⟩
            rw [hp1] at hc0 hord
            rw [hp2] at hd0 hord
            clear hp1 hp2
            have q0 : (k : Int) < (rs.length : Int) := by omega
            have q1 : (0 : Int) ≤ (k : Int) - 1 := by omega
            have q2 : (k : Int) - 1 < (rs.length : Int) := by omega
            have q3 : ((k : Int) - 1).toNat = k - 1 := by omega
            have q4 : IntKind.i64.wrap ((k : Int) - 1) = (k : Int) - 1 := IntWalk.i64_in _ (by omega)
            have q5 : decide ((p1 : Int) ≤ (p2 : Int)) = false := decide_eq_false (by omega)
            have q6 : decide (p1 ≤ p2) = false := decide_eq_false (by omega)
            go_wp2
            go_quiet (fail)
            have HM2 := Aside0.mk (HM.out.drewN nq)
            clear q0 q1 q2 q3 q4 hc0 hd0 hm3 HM
            go_wp2
            go_roundw
            case rel => exact ⟨k + 1, by go_num, by omega, by omega, HM2⟩
            case measure => simp [intOf]; omega
          · go_upto_region 20 with fail
            have hNM := HNM.out
            subst hNM
            have hmk := print_make (P := Tryd.prog) 25 3 .i64 8 Tryd.underlying25 info3 (by decide) M (by omega)
            have HNew := Aside0.mk (fun W h => new_blk M hM l hl HIn.out A c W h)
            let S1 : Obj := .cells #[.int .i64 (M : Int), .slice A l.length c] 24 (0, 0)
            let S2 : Obj := .cells #[.int .i64 game, .int .i64 (root : Int), .int .i64 who, .slice A4 rs.length c4] 33 (0, 0)
            let SM : Obj := .cells (madeCells #[Value.int .i64 0] M) 3 (0, 0)
            have HSf : Aside0 (∀ (x : World) (bs : List (Nat × Obj)), Mem w bs x → (g2, S2) ∈ bs → (g, S1) ∈ bs → x.cell? ⟨g, 0, none⟩ = some (.int .i64 (M : Int)) ∧ x.cell? ⟨g, 1, none⟩ = some (.slice A l.length c) ∧ x.cell? ⟨g2, 0, none⟩ = some (.int .i64 game) ∧ x.cell? ⟨g2, 1, none⟩ = some (.int .i64 (root : Int)) ∧ x.cell? ⟨g2, 2, none⟩ = some (.int .i64 who) ∧ x.cell? ⟨g2, 3, none⟩ = some (.slice A4 rs.length c4)) :=
              ⟨fun x bs h h2 h1 => ⟨(h.st.at_ h1 0).trans rfl, (h.st.at_ h1 1).trans rfl, (h.st.at_ h2 0).trans rfl, (h.st.at_ h2 1).trans rfl, (h.st.at_ h2 2).trans rfl, (h.st.at_ h2 3).trans rfl⟩⟩
            have HX3 : Aside0 (Mem w ((wr.heap.size, SM) :: [(g2, S2), (g, S1)]) (wr.alloc SM)) := ⟨HM.out.add SM⟩
            go_cut [10] (fun s10 wx => ∃ (b1 b2 g84 h : Nat), s10 = .pointer (some ⟨g84, 0, none⟩) ∧ Aside0 (CkS ⟨M, netOf M l, b1, b2, game, root, who, A4, c4, base, rs, g84, h⟩ (s00 M) wx) ∧ Aside0 (Below w.heap.size w wx) ∧ Aside0 (w.heap.size ≤ g84 ∧ w.heap.size ≤ h))
            case first =>
              obtain ⟨n0, n1, m0, m1, m2, m3⟩ := HSf.out _ _ HM.out (.head _) (.tail _ (.head _))
              obtain ⟨n0x, n1x, m0x, m1x, m2x, m3x⟩ := HSf.out _ _ HX3.out (.tail _ (.head _)) (.tail _ (.tail _ (.head _)))
              clear hm3
              go_region_held3 (fun x => x.cell? ⟨g, 0, none⟩ = some (.int .i64 (M : Int)) ∧ x.cell? ⟨g, 1, none⟩ = some (.slice A l.length c) ∧ x.cell? ⟨g2, 0, none⟩ = some (.int .i64 game) ∧ x.cell? ⟨g2, 1, none⟩ = some (.int .i64 (root : Int)) ∧ x.cell? ⟨g2, 2, none⟩ = some (.int .i64 who) ∧ x.cell? ⟨g2, 3, none⟩ = some (.slice A4 rs.length c4)) (first | go_keep | exact HSf.out _ _ HM.out (.head _) (.tail _ (.head _)) | exact HSf.out _ _ HX3.out (.tail _ (.head _)) (.tail _ (.tail _ (.head _))) | exact HSf.out _ _ HL2.out (.head _) (.tail _ (.head _)) | exact HSf.out _ _ HL3.out (.tail _ (.head _)) (.tail _ (.tail _ (.head _))) | exact HSf.out _ _ HL4.out (.tail _ (.tail _ (.head _))) (.tail _ (.tail _ (.tail _ (.head _)))) | (trace_state; fail))
                (first | (go_at_call 25; first | (refine (HNew.out _ (HR.out.below HM.out.st.hb.drew)).mono ?_; rintro e w5 ⟨b1, b2, rfl, hb1, hb2, hll, hb⟩; have HL2 := Aside0.mk (HM.out.drew.nx hb.out)) | (refine (HNew.out _ (HR.out.below HX3.out.st.hb.drew)).mono ?_; rintro e w5 ⟨b1, b2, rfl, hb1, hb2, hll, hb⟩; have HL3 := Aside0.mk (HX3.out.drew.nx hb.out))))
              all_goals (go_wp2_with fail; go_meet)
              · have HL4 := (HL2.out.add SM).add (.cells (CkD.cells ⟨M, netOf M l, b1, b2, game, root, who, A4, c4, base, rs, w5.heap.size + 1, w5.heap.size⟩ 0) 84 (0, 0))
                rw [show (w5.alloc SM).heap.size = w5.heap.size + 1 by simp] at HL4
                have R := ck_of ⟨M, netOf M l, b1, b2, game, root, who, A4, c4, base, rs, w5.heap.size + 1, w5.heap.size⟩ HT.out HO.out HL4 (blk_grown (blk_grown hb1.out (World.grownBy_alloc _ _ none) (by simp)) (World.grownBy_alloc _ _ none) (by simp)) (blk_grown (blk_grown hb2.out (World.grownBy_alloc _ _ none) (by simp)) (World.grownBy_alloc _ _ none) (by simp))
                exact ⟨b1, b2, w5.heap.size + 1, w5.heap.size, rfl, ⟨R.1⟩, ⟨R.2.1⟩, ⟨R.2.2⟩⟩
              · have HL4 := HL3.out.add (.cells (CkD.cells ⟨M, netOf M l, b1, b2, game, root, who, A4, c4, base, rs, w5.heap.size, wr.heap.size⟩ 0) 84 (0, 0))
                have R := ck_of ⟨M, netOf M l, b1, b2, game, root, who, A4, c4, base, rs, w5.heap.size, wr.heap.size⟩ HT.out HO.out HL4 (blk_grown hb1.out (World.grownBy_alloc _ _ none) (by simp)) (blk_grown hb2.out (World.grownBy_alloc _ _ none) (by simp))
                exact ⟨b1, b2, w5.heap.size, wr.heap.size, rfl, ⟨R.1⟩, ⟨R.2.1⟩, ⟨R.2.2⟩⟩
            case rest =>
              obtain ⟨b1, b2, g84, h, rfl, HC, HBl, HGe⟩ := hcut
              have hdo : CkD.Ok ⟨M, netOf M l, b1, b2, game, root, who, A4, c4, base, rs, g84, h⟩ := ⟨netOf_ok hM HIn.out, HOk.out.root, HOk.out.game, HOk.out.who, HOk.out.so, HOk.out.lt, by have := hlen; show rs.length < 1000; omega, Nat.lt_of_lt_of_le HT.out.2 HGe.out.1, Nat.lt_of_lt_of_le HT.out.2 HGe.out.2⟩
              have HWn := Aside0.mk (wins_any _ hdo _ HC.out)
              rw [winsB_eq] at HWn
              simp only at HWn
              clear hm3 HSf HX3 HM hmk HNew hdo
              obtain ⟨b, hb⟩ : ∃ b, winB M (netOf M l) game root who rs = b := ⟨_, rfl⟩
              rw [hb] at HWn
              have HBb := Aside0.mk hb
              clear hb
              cases b with
              | true =>
                go_wp2_with (first | (go_at_call 40; refine HWn.out.mono ?_; rintro e w9 ⟨rfl, HK⟩))
                go_ret
                exact ⟨by rw [HBb.out]; rfl, ⟨HBl.out.trans (HK.out.below HGe.out.1 HGe.out.2 HBl.out.size)⟩⟩
              | false =>
                go_wp2_with (first | (go_at_call 40; refine HWn.out.mono ?_; rintro e w9 ⟨rfl, HK⟩))
                go_ret
                exact ⟨by rw [HBb.out]; rfl, ⟨HBl.out.trans (HK.out.below HGe.out.1 HGe.out.2 HBl.out.size)⟩⟩
end Go.Proofs.YtgboplcjafmliaaDoor.G

/- The two games of the sanity check, in plain terms. -/
namespace Go.Proofs.YtgboplcjafmliaaDoor.G
open Go.RowKit Go.Proofs.YtgboplcjafmliaaDoorW.PrintWords Go.Proofs.YtgboplcjafmliaaDoorW.PrintLast Go.Proofs.YtgboplcjafmliaaDoorW.PrintMore
open Go.Proofs.YtgboplcjafmliaaDoor.PAll
set_option linter.unusedVariables false
set_option linter.unusedSimpArgs false

def l0 : List S54 := [⟨0, 1⟩, ⟨1, 0⟩]
def n0 : NetD := netOf 2 l0
theorem n0_by0 : nth n0.by_ 0 = 2 := by kernel_rfl
theorem n0_by1 : nth n0.by_ 1 = 1 := by kernel_rfl
theorem gnd0 : gnd 2 n0 = 0 := by kernel_rfl
theorem q0_0 : qO 2 n0 0 = 1 := by kernel_rfl
theorem srch0 : srch n0 3 (2 ^ 0) = some 1 := by kernel_rfl
theorem pick0 : pickS n0 1 1 = 0 := by kernel_rfl
theorem tb1 (z : Nat) (h : (1 : Nat).testBit z = true) : z = 0 := by
  cases z with
  | zero => rfl
  | succ z => simp [Nat.testBit_succ] at h
theorem tb2 (z : Nat) (h : (2 : Nat).testBit z = true) : z = 1 := by
  cases z with
  | zero => simp at h
  | succ z => rw [Nat.testBit_succ] at h; have := tb1 z h; omega
theorem rco0 (x : Nat) : Rco n0 0 (qO 2 n0) x ↔ x = 0 := by
  constructor
  · intro h
    induction h with
    | root => rfl
    | step _ hz ih => subst ih; rw [q0_0, n0_by1] at hz; exact tb1 _ hz
  · rintro rfl; exact .root
theorem rc0 (x : Nat) (h : Rc n0 0 (pickS n0 1) x) : x = 0 := by
  induction h with
  | root => rfl
  | step _ hx ih => subst ih; rw [n0_by0] at hx; rw [tb2 _ hx]; exact pick0
theorem rca0 (x : Nat) : RcA n0 0 (pickS n0 1) x ↔ x = 1 := by
  constructor
  · rintro ⟨a, ha, hx⟩
    rw [rc0 a ha, n0_by0] at hx
    exact tb2 _ hx
  · rintro rfl
    exact ⟨0, .root, by rw [n0_by0]; rfl⟩
theorem awake_g {who : Int} {m : Nat} {pk : Nat → Nat} {g : Int} (hg : g = 1) (h : SolP 2 n0 0 g who m pk) : who = 2 ∧ m = 1 ∧ pk 0 = 1 := by
  cases h with
  | gp m h1 h2 => rw [gnd0] at h1; simp at h1
  | go m h1 h2 =>
    refine ⟨rfl, ?_, q0_0⟩
    apply Nat.eq_of_testBit_eq
    intro i
    rw [Bool.eq_iff_iff, h2 i, rco0]
    exact ⟨fun h => by subst h; rfl, tb1 i⟩
  | cp m s h1 h2 => cases hg
  | co pk h1 => cases hg
theorem awake_c {who : Int} {m : Nat} {pk : Nat → Nat} {g : Int} (hg : g = 2) (h : SolP 2 n0 0 g who m pk) : who = 1 ∧ m = 2 ∧ pk 1 = 0 := by
  cases h with
  | gp m h1 h2 => cases hg
  | go m h1 h2 => cases hg
  | cp m s h1 h2 =>
    rw [srch0] at h1
    injection h1 with h1
    subst h1
    refine ⟨rfl, ?_, pick0⟩
    apply Nat.eq_of_testBit_eq
    intro i
    rw [Bool.eq_iff_iff, h2 i, rca0]
    exact ⟨fun h => by subst h; rfl, tb2 i⟩
  | co pk h1 => rw [srch0] at h1; cases h1
theorem win_g : winB 2 n0 1 0 2 [rp 0 1] = true := by kernel_rfl
theorem win_c : winB 2 n0 2 0 1 [rp 1 0] = true := by kernel_rfl
theorem solE_g : solE 2 l0 1 0 = 0 := by kernel_rfl
theorem solE_c : solE 2 l0 2 0 = 0 := by kernel_rfl
theorem valE_0 : valE 2 l0 = 0 := by kernel_rfl
theorem str_g : StrOk 2 1 0 2 [rp 0 1] := ⟨by decide, .inl rfl, .inr rfl, by simp [SortR], by simp [rp]⟩
theorem str_c : StrOk 2 2 0 1 [rp 1 0] := ⟨by decide, .inr rfl, .inl rfl, by simp [SortR], by simp [rp]⟩
theorem bl1 : bl 1 = [0] := by kernel_rfl
theorem bl2 : bl 2 = [1] := by kernel_rfl
end Go.Proofs.YtgboplcjafmliaaDoor.G

/- The contract of awake. -/
namespace Go.Proofs.YtgboplcjafmliaaDoor.G
open Go.RowKit Go.Proofs.YtgboplcjafmliaaDoorW.PrintWords Go.Proofs.YtgboplcjafmliaaDoorW.PrintLast Go.Proofs.YtgboplcjafmliaaDoorW.PrintMore
open Go.Proofs.YtgboplcjafmliaaDoor.PAll
set_option linter.unusedVariables false
set_option linter.unusedSimpArgs false

theorem solve_g0 (A : Option Addr) (c : Nat) (w : World) (hT : TabW w) (hr : RdP w A c l0) :
    Calls Tryd.prog 10 #[.agg #[.int .i64 2, .slice A 2 c], .int .i64 1, .int .i64 0] w fun e w' => ∃ A4 c4, e = .returned (.tuple #[.agg #[.int .i64 1, .int .i64 0, .int .i64 2, .slice A4 1 c4], .int .i64 0]) ∧ Aside0 (OwnRp w' w.heap.size (.slice A4 1 c4) [rp 0 1]) ∧ Aside0 (Below w.heap.size w w') :=
  (solve_any 2 l0 (by decide) A c 1 0 w hT hr).mono fun e w' ⟨h, hb⟩ => by
    rcases h with ⟨h, _⟩ | ⟨_, M, r, who, A4, c4, m, pk, hM, hr, _, _, _, _, hS, he, ho⟩
    · exact absurd solE_g h
    · have hM2 : M = 2 := by omega
      have hr0 : r = 0 := by omega
      subst hM2 hr0
      obtain ⟨h1, h2, h3⟩ := awake_g rfl hS
      subst h1 h2
      rw [bl1] at he ho
      rw [List.map_cons, List.map_nil, h3] at ho
      exact ⟨A4, c4, he, ⟨ho⟩, hb⟩
theorem solve_c0 (A : Option Addr) (c : Nat) (w : World) (hT : TabW w) (hr : RdP w A c l0) :
    Calls Tryd.prog 10 #[.agg #[.int .i64 2, .slice A 2 c], .int .i64 2, .int .i64 0] w fun e w' => ∃ A4 c4, e = .returned (.tuple #[.agg #[.int .i64 2, .int .i64 0, .int .i64 1, .slice A4 1 c4], .int .i64 0]) ∧ Aside0 (OwnRp w' w.heap.size (.slice A4 1 c4) [rp 1 0]) ∧ Aside0 (Below w.heap.size w w') :=
  (solve_any 2 l0 (by decide) A c 2 0 w hT hr).mono fun e w' ⟨h, hb⟩ => by
    rcases h with ⟨h, _⟩ | ⟨_, M, r, who, A4, c4, m, pk, hM, hr, _, _, _, _, hS, he, ho⟩
    · exact absurd solE_c h
    · have hM2 : M = 2 := by omega
      have hr0 : r = 0 := by omega
      subst hM2 hr0
      obtain ⟨h1, h2, h3⟩ := awake_c rfl hS
      subst h1 h2
      rw [bl2] at he ho
      rw [List.map_cons, List.map_nil, h3] at ho
      exact ⟨A4, c4, he, ⟨ho⟩, hb⟩
theorem inr0 : InR 2 l0 := fun p hp => by
  simp [l0] at hp
  rcases hp with rfl | rfl <;> decide
theorem check_g0 (A : Option Addr) (c : Nat) (A4 : Option Addr) (c4 base : Nat) (w : World) (hT : TabW w) (hr : RdP w A c l0) (ho : OwnRp w base (.slice A4 1 c4) [rp 0 1]) :
    Calls Tryd.prog 13 #[.agg #[.int .i64 2, .slice A 2 c], .agg #[.int .i64 1, .int .i64 0, .int .i64 2, .slice A4 1 c4]] w fun e w' => e = .returned (.int .i64 0) ∧ Aside0 (Below w.heap.size w w') := by
  have h := check_any 2 2 rfl (by decide) l0 (by decide) valE_0 inr0 A c 1 0 2 A4 c4 base [rp 0 1] str_g w hT hr ho
  rw [show winB 2 (netOf 2 l0) 1 0 2 [rp 0 1] = true from win_g] at h
  exact h
theorem check_c0 (A : Option Addr) (c : Nat) (A4 : Option Addr) (c4 base : Nat) (w : World) (hT : TabW w) (hr : RdP w A c l0) (ho : OwnRp w base (.slice A4 1 c4) [rp 1 0]) :
    Calls Tryd.prog 13 #[.agg #[.int .i64 2, .slice A 2 c], .agg #[.int .i64 2, .int .i64 0, .int .i64 1, .slice A4 1 c4]] w fun e w' => e = .returned (.int .i64 0) ∧ Aside0 (Below w.heap.size w w') := by
  have h := check_any 2 2 rfl (by decide) l0 (by decide) valE_0 inr0 A c 2 0 1 A4 c4 base [rp 1 0] str_c w hT hr ho
  rw [show winB 2 (netOf 2 l0) 2 0 1 [rp 1 0] = true from win_c] at h
  exact h
theorem replies_c0 (A4 : Option Addr) (c4 base : Nat) (w : World) (ho : OwnRp w base (.slice A4 1 c4) [rp 1 0]) :
    Calls Tryd.prog 22 #[.agg #[.int .i64 2, .int .i64 0, .int .i64 1, .slice A4 1 c4], .int .i64 1, .int .i64 0] w fun e w' => e = .returned (.bool true) ∧ Aside0 (Below w.heap.size w w') := by
  obtain ⟨A5, c5, he, hrd⟩ := ho.reads
  injection he with e1 e2 e3
  subst e1 e3
  exact (deliberationlaw25_replies.calls 3 2 0 1 A4 c4 [s77 (rp 1 0)] 1 0 true w hrd.2 hrd.1 (by kernel_rfl)).mono fun e w' ⟨h1, h2⟩ => ⟨h1, ⟨h2⟩⟩
theorem own_l0 (w : World) (base g : Nat) (hb : base ≤ g) (h : w.heap[g]? = some (.cells #[.int .i64 0, .int .i64 1, .int .i64 1, .int .i64 0] 54 (0, 0))) : OwnP w base (.slice (some ⟨g, 0, none⟩) 2 2) l0 :=
  ⟨rfl, .inr ⟨g, 2, _, rfl, hb, h, by decide, by decide, rfl, rfl⟩⟩

set_option maxHeartbeats 4000000 in
set_option maxRecDepth 100000 in
theorem awake_any (w : World) (hT : TabW w) : Calls Tryd.prog 7 #[] w fun e w' => e = .returned (.bool true) ∧ Aside0 (Below w.heap.size w w') := by
  have HT := Aside0.mk hT
  clear hT
  go_enter Tryd.func7, Tryd.ntmps7
  go_upto_region 2 with fail
  have HM0 := ((Mem.refl w).add (.cells #[.int .i64 0, .int .i64 1, .int .i64 1, .int .i64 0] 54 (0, 0))).add (.cells #[.int .i64 2, .slice (some ⟨w.heap.size, 0, none⟩) 2 2] 24 (0, 0))
  rw [show (w.alloc (.cells #[.int .i64 0, .int .i64 1, .int .i64 1, .int .i64 0] 54 (0, 0))).heap.size = w.heap.size + 1 by simp] at HM0
  change Code.wp Tryd.prog _ _ _ ((w.alloc (.cells #[.int .i64 0, .int .i64 1, .int .i64 1, .int .i64 0] 54 (0, 0))).alloc (.cells #[.int .i64 2, .slice (some ⟨w.heap.size, 0, none⟩) 2 2] 24 (0, 0)))
  generalize (w.alloc (.cells #[.int .i64 0, .int .i64 1, .int .i64 1, .int .i64 0] 54 (0, 0))).alloc (.cells #[.int .i64 2, .slice (some ⟨w.heap.size, 0, none⟩) 2 2] 24 (0, 0)) = w1 at *
  have HRd : Aside0 (RdP w1 (some ⟨w.heap.size, 0, none⟩) 2 l0) := by
    obtain ⟨A, c, he, hr⟩ := (own_l0 w1 w.heap.size w.heap.size (Nat.le_refl _) (HM0.st.blk _ (.tail _ (.head _)))).reads
    injection he with e1 e2 e3
    subst e1 e3
    exact ⟨hr⟩
  obtain ⟨gp, hgp⟩ : ∃ gp, w.heap.size = gp := ⟨_, rfl⟩
  rw [hgp] at HM0 HRd ⊢
  clear hgp
  have HM := Aside0.mk HM0
  clear HM0
  have HT1 := Aside0.mk (HT.out.below HT.out.2 HM.out.st.hb)
  have HS1 := Aside0.mk (solve_g0 (some ⟨gp, 0, none⟩) 2 w1 HT1.out HRd.out)
  have hm0 := (HM.out.st.at_ (.head _) 0).trans rfl
  have hm1 := (HM.out.st.at_ (.head _) 1).trans rfl
  go_upto_region 3 with (first | (go_at_call 10; refine HS1.out.mono ?_; rintro e w2 ⟨A4, c4, rfl, HO1, hb⟩))
  have HB2 : Aside0 (Below w1.heap.size w1 (w2.alloc (.cells #[.int .i64 1, .int .i64 0, .int .i64 2, .slice A4 1 c4] 33 (0, 0)))) := ⟨((St.refl w1).nx hb.out |>.nx (below_alloc (Below.refl _ _) _)).hb⟩
  have HM2 := Aside0.mk ((HM.out.nx hb.out).add (.cells #[.int .i64 1, .int .i64 0, .int .i64 2, .slice A4 1 c4] 33 (0, 0)))
  have HO2 := Aside0.mk (HO1.out.below (below_alloc (Below.refl _ _) (.cells #[.int .i64 1, .int .i64 0, .int .i64 2, .slice A4 1 c4] 33 (0, 0))))
  clear HM HO1 hb hm0 hm1 HS1 HT1
  change Code.wp Tryd.prog _ _ _ (w2.alloc (.cells #[.int .i64 1, .int .i64 0, .int .i64 2, .slice A4 1 c4] 33 (0, 0)))
  generalize w2.heap.size = g2 at *
  generalize w2.alloc (.cells #[.int .i64 1, .int .i64 0, .int .i64 2, .slice A4 1 c4] 33 (0, 0)) = w3 at *
  have HRd3 := Aside0.mk (HRd.out.below HB2.out)
  clear HRd HB2
  have HT3 := Aside0.mk (HT.out.below HT.out.2 HM2.out.st.hb)
  have HS3 := Aside0.mk (solve_c0 (some ⟨gp, 0, none⟩) 2 w3 HT3.out HRd3.out)
  have hm0 := (HM2.out.st.at_ (g := gp + 1) (.tail _ (.head _)) 0).trans rfl
  have hm1 := (HM2.out.st.at_ (g := gp + 1) (.tail _ (.head _)) 1).trans rfl
  go_upto_region 4 with (first | (go_at_call 10; refine HS3.out.mono ?_; rintro e w4 ⟨A6, c6, rfl, HO3, hb⟩))
  have HB4 : Aside0 (Below w3.heap.size w3 (w4.alloc (.cells #[.int .i64 2, .int .i64 0, .int .i64 1, .slice A6 1 c6] 33 (0, 0)))) := ⟨((St.refl w3).nx hb.out |>.nx (below_alloc (Below.refl _ _) _)).hb⟩
  have HM4 := Aside0.mk ((HM2.out.nx hb.out).add (.cells #[.int .i64 2, .int .i64 0, .int .i64 1, .slice A6 1 c6] 33 (0, 0)))
  have HO4 := Aside0.mk (HO3.out.below (below_alloc (Below.refl _ _) (.cells #[.int .i64 2, .int .i64 0, .int .i64 1, .slice A6 1 c6] 33 (0, 0))))
  clear HM2 HO3 hb hm0 hm1 HS3 HT3
  change Code.wp Tryd.prog _ _ _ (w4.alloc (.cells #[.int .i64 2, .int .i64 0, .int .i64 1, .slice A6 1 c6] 33 (0, 0)))
  generalize w4.heap.size = g4 at *
  generalize w4.alloc (.cells #[.int .i64 2, .int .i64 0, .int .i64 1, .slice A6 1 c6] 33 (0, 0)) = w5 at *
  have HRd5 := Aside0.mk (HRd3.out.below HB4.out)
  have HO5 := Aside0.mk (HO2.out.below HB4.out)
  clear HRd3 HB4 HO2
  have HF : Aside0 (∀ (x : World), Below w5.heap.size w5 x → TabW x ∧ RdP x (some ⟨gp, 0, none⟩) 2 l0 ∧ OwnRp x w1.heap.size (.slice A4 1 c4) [rp 0 1] ∧ OwnRp x w3.heap.size (.slice A6 1 c6) [rp 1 0]) := ⟨fun x hb => ⟨HT.out.below HT.out.2 (HM4.out.nx hb).st.hb, HRd5.out.below hb, HO5.out.below hb, HO4.out.below hb⟩⟩
  have hm0 := (HM4.out.st.at_ (g := gp + 1) (.tail _ (.tail _ (.head _))) 0).trans rfl
  have hm1 := (HM4.out.st.at_ (g := gp + 1) (.tail _ (.tail _ (.head _))) 1).trans rfl
  have ha0 := (HM4.out.st.at_ (g := g2) (.tail _ (.head _)) 0).trans rfl
  have ha1 := (HM4.out.st.at_ (g := g2) (.tail _ (.head _)) 1).trans rfl
  have ha2 := (HM4.out.st.at_ (g := g2) (.tail _ (.head _)) 2).trans rfl
  have ha3 := (HM4.out.st.at_ (g := g2) (.tail _ (.head _)) 3).trans rfl
  have hb2 := (HM4.out.st.at_ (g := g4) (.head _) 2).trans rfl
  have HMx := Aside0.mk (fun (x : World) (hb : Below w5.heap.size w5 x) => HM4.out.nx hb)
  have HCk : Aside0 (∀ (gm wh : Int) (A' : Option Addr) (c' : Nat) (x : World), Below w5.heap.size w5 x → ((gm = 1 ∧ wh = 2 ∧ A' = A4 ∧ c' = c4) ∨ (gm = 2 ∧ wh = 1 ∧ A' = A6 ∧ c' = c6)) → Calls Tryd.prog 13 #[.agg #[.int .i64 2, .slice (some ⟨gp, 0, none⟩) 2 2], .agg #[.int .i64 gm, .int .i64 0, .int .i64 wh, .slice A' 1 c']] x fun e w' => e = .returned (.int .i64 0) ∧ Aside0 (Below x.heap.size x w')) := ⟨fun gm wh A' c' x hb h => by
    rcases h with ⟨rfl, rfl, rfl, rfl⟩ | ⟨rfl, rfl, rfl, rfl⟩
    · exact check_g0 _ _ _ _ _ x (HF.out x hb).1 (HF.out x hb).2.1 (HF.out x hb).2.2.1
    · exact check_c0 _ _ _ _ _ x (HF.out x hb).1 (HF.out x hb).2.1 (HF.out x hb).2.2.2⟩
  have HC3 := Aside0.mk (fun (x : World) (hb : Below w5.heap.size w5 x) => replies_c0 _ _ _ x (HF.out x hb).2.2.2)
  have HBx : Aside0 (Below w5.heap.size w5 w5) := ⟨Below.refl _ _⟩
  go_wp2_with (first | (go_at_call 13; refine (HCk.out _ _ _ _ _ HBx.out ?hP).mono ?_; (case hP => (first | exact .inl ⟨rfl, rfl, rfl, rfl⟩ | exact .inr ⟨rfl, rfl, rfl, rfl⟩)); rintro e w6 ⟨rfl, hb6⟩; replace HBx := Aside0.mk (below_then HBx.out HBx.out.size hb6.out); clear hb6; have HM6 := Aside0.mk (HMx.out _ HBx.out); have hn0 := (HM6.out.st.at_ (g := gp + 1) (.tail _ (.tail _ (.head _))) 0).trans rfl; have hn1 := (HM6.out.st.at_ (g := gp + 1) (.tail _ (.tail _ (.head _))) 1).trans rfl; have hb0 := (HM6.out.st.at_ (g := g4) (.head _) 0).trans rfl; have hb1 := (HM6.out.st.at_ (g := g4) (.head _) 1).trans rfl; have hb2 := (HM6.out.st.at_ (g := g4) (.head _) 2).trans rfl; have hb3 := (HM6.out.st.at_ (g := g4) (.head _) 3).trans rfl) | (go_at_call 22; refine (HC3.out _ HBx.out).mono ?_; rintro e w8 ⟨rfl, hb8⟩; replace HBx := Aside0.mk (below_then HBx.out HBx.out.size hb8.out)))
  go_ret
  exact ⟨rfl, ⟨(HMx.out _ HBx.out).st.hb⟩⟩
end Go.Proofs.YtgboplcjafmliaaDoor.G

/- The walk of GameExhausted. -/
namespace Go.Proofs.YtgboplcjafmliaaDoor.G
open Go.RowKit Go.Proofs.YtgboplcjafmliaaDoorW.PrintWords Go.Proofs.YtgboplcjafmliaaDoorW.PrintLast Go.Proofs.YtgboplcjafmliaaDoorW.PrintMore
open Go.Proofs.YtgboplcjafmliaaDoor.PAll
set_option linter.unusedVariables false
set_option linter.unusedSimpArgs false

/-- What a law on one graph holds all along: the graph's block and its row. -/
structure EX (w : World) (M : Nat) (l : List S54) (A : Option Addr) (c base b4 : Nat) (x : World) : Prop where
  hb : Below w.heap.size w x
  box : x.heap[b4]? = some (.cells #[.int .i64 (M : Int), .slice A l.length c] 24 (0, 0))
  own : OwnP x base (.slice A l.length c) l
theorem EX.nx {w : World} {M : Nat} {l : List S54} {A : Option Addr} {c base b4 : Nat} {x y : World} (h : EX w M l A c base b4 x) (hb : Below x.heap.size x y) : EX w M l A c base b4 y where
  hb := below_then h.hb h.hb.size hb
  box := blk_grown h.box (grown_of_below hb none) (by simp)
  own := pw_own_below h.own hb
theorem EX.kp {w : World} {M : Nat} {l : List S54} {A : Option Addr} {c base b4 gl : Nat} {cs : Array Value} {x y : World} (h : EX w M l A c base b4 x) (k : Kp gl gl x y) (hg : w.heap.size ≤ gl) (hc : x.heap[gl]? = some (.cells cs 3 (0, 0))) : EX w M l A c base b4 y where
  hb := ⟨k.os.trans h.hb.os, k.tape.trans h.hb.tape, k.output.trans h.hb.output, Nat.le_trans h.hb.size k.size, fun j hj => (k.block j (Nat.lt_of_lt_of_le hj h.hb.size) (by omega) (by omega)).trans (h.hb.block j hj)⟩
  box := k.blk h.box hc hc (by decide) (by decide)
  own := by
    obtain ⟨h3, h4⟩ := h.own
    refine ⟨h3, ?_⟩
    rcases h4 with h4 | ⟨b, cap, cur, e, hb, hk, r⟩
    · exact .inl h4
    · exact .inr ⟨b, cap, cur, e, hb, k.blk hk hc hc (by decide) (by decide), r⟩
theorem EX.rd {w : World} {M : Nat} {l : List S54} {A : Option Addr} {c base b4 : Nat} {x : World} (h : EX w M l A c base b4 x) : RdP x A c l := by
  obtain ⟨A', c', e, hr⟩ := h.own.reads
  injection e with e1 e2 e3
  subst e1 e3
  exact hr
theorem EX.tab {w : World} {M : Nat} {l : List S54} {A : Option Addr} {c base b4 : Nat} {x : World} (h : EX w M l A c base b4 x) (hT : TabW w) : TabW x := hT.below hT.2 h.hb

/-- Solve on a valid graph, and what best then finds. -/
theorem exh_solve {M : Nat} (hM : M ≤ 4) (l : List S54) (hl : l.length ≤ 1600) (hIn : InR M l) (hv : valE M l = 0) (A : Option Addr) (c : Nat) (k : Int) (hk : k = 1 ∨ k = 2) (n : Nat) (hn : n < M) (w : World) (hT : TabW w) (hr : RdP w A c l) :
    Calls Tryd.prog 10 #[.agg #[.int .i64 (M : Int), .slice A l.length c], .int .i64 k, .int .i64 (n : Int)] w fun e w' => ∃ (who : Int) (A7 : Option Addr) (m7 c7 : Nat), e = .returned (.tuple #[.agg #[.int .i64 k, .int .i64 (n : Int), .int .i64 who, .slice A7 m7 c7], .int .i64 0]) ∧ Aside0 (EP M l k n who) ∧ Aside0 (Below w.heap.size w w') :=
  (solve_any (M : Int) l (by omega) A c k (n : Int) w hT hr).mono fun e w' ⟨h, hb⟩ => by
    have hs : solE M l k n = 0 := by
      unfold solE
      rw [if_neg (by simp [hv]), if_neg (by simp [hk]), if_neg (by omega), if_neg (by omega)]
    rcases h with ⟨h1, _⟩ | ⟨_, M', r', who, A7, c7, m, pk, hM', hr', hM40, hrM, hIn', hm, hS, he, _⟩
    · exact absurd hs h1
    · have e1 : M' = M := by omega
      have e2 : r' = n := by omega
      subst e1 e2
      exact ⟨who, A7, _, c7, he, ⟨exh_pure hM hIn' hv hrM hS⟩, hb⟩
set_option maxHeartbeats 8000000 in
set_option maxRecDepth 100000 in
theorem exh_any (L : List Int) (A0 : Option Addr) (c0 : Nat) (w : World) (hT : TabW w) (hr : Kd.C (Kd.int .i64) w A0 L.length L) (hc : L.length ≤ c0) :
    Calls Tryd.prog 4 #[.slice A0 L.length c0] w fun e w' => e = .returned (.bool true) ∧ Aside0 (Below w.heap.size w w') := by
  have HT := Aside0.mk hT
  have HN := Aside0.mk (srcNew_any L A0 c0 w hr hc w (Below.refl _ _))
  clear hT hr hc
  go_enter Tryd.func4, Tryd.ntmps4
  go_upto_region 2 with (first | (go_at_call 8; refine HN.out.mono ?_; rintro e w1 ⟨g, L', rfl, HS, HB1, _⟩))
  have HG := Aside0.mk (gen_any w g L' 4 (by decide) (by decide) w1 HS.out HB1.out HB1.out.size)
  clear HN HS
  go_upto_region 3 with (first | (go_at_call 9; refine HG.out.mono ?_; rintro e w2 ⟨M, A, c, l, rfl, hM1, hM4, hIn, hv, hl, HO, _, HB2, _⟩))
  have HE : Aside0 (EX w M l A c w1.heap.size w2.heap.size (w2.alloc (.cells #[.int .i64 (M : Int), .slice A l.length c] 24))) := ⟨{
    hb := below_alloc HB2.out _
    box := blk_new w2 _
    own := pw_own_below HO.out (below_alloc (Below.refl _ _) _) }⟩
  have hg4 : 0 < w2.heap.size := Nat.lt_of_lt_of_le HT.out.2 HB2.out.size
  clear HG HB1 HB2 HO
  change Code.wp Tryd.prog _ _ _ (w2.alloc (.cells #[.int .i64 (M : Int), .slice A l.length c] 24))
  generalize w2.heap.size = b4 at *
  generalize w2.alloc (.cells #[.int .i64 (M : Int), .slice A l.length c] 24) = w3 at *
  generalize w1.heap.size = base at *
  have HIn := Aside0.mk hIn
  have Hv := Aside0.mk hv
  clear hIn hv
  go_wp2
  go_loopw [5] (fun v5 x => ∃ n : Nat, v5 = .int .i64 (n : Int) ∧ n ≤ M ∧ Aside0 (EX w M l A c base b4 x)) (fun v5 _ => M - (intOf v5).toNat)
  case atStart => exact ⟨0, rfl, Nat.zero_le _, HE⟩
  case round =>
    clear HE
    obtain ⟨n, rfl, hn, HE⟩ := hrel
    have hx0 := (blk_cell HE.out.box 0).trans rfl
    by_cases hlt : n < M
    · go_upto_region 7 with fail
      have HE2 := Aside0.mk (HE.out.nx (below_alloc (Below.refl _ wr) (.cells #[.int .i64 1, .int .i64 2] 3)))
      have HK2 : Aside0 ((wr.alloc (.cells #[.int .i64 1, .int .i64 2] 3)).heap[wr.heap.size]? = some (.cells #[.int .i64 1, .int .i64 2] 3 (0, 0))) := ⟨blk_new wr _⟩
      clear HE hx0
      change Code.wp Tryd.prog _ _ _ (wr.alloc (.cells #[.int .i64 1, .int .i64 2] 3))
      generalize wr.heap.size = b22 at *
      generalize wr.alloc (.cells #[.int .i64 1, .int .i64 2] 3) = w4 at *
      go_loopw [24] (fun v24 x => ∃ i : Nat, v24 = .int .i64 (i : Int) ∧ i ≤ 2 ∧ Aside0 (EX w M l A c base b4 x) ∧ Aside0 (x.heap[b22]? = some (.cells #[.int .i64 1, .int .i64 2] 3 (0, 0)))) (fun v24 _ => 2 - (intOf v24).toNat)
      case atStart => exact ⟨0, rfl, by decide, HE2, HK2⟩
      case round =>
        clear HE2 HK2
        obtain ⟨i, rfl, hi, HE, HK⟩ := hrel
        by_cases hi2 : i < 2
        · obtain ⟨k, hk, hck⟩ : ∃ k : Int, (k = 1 ∨ k = 2) ∧ wr.cell? ⟨b22, i, none⟩ = some (.int .i64 k) := by
            rcases (show i = 0 ∨ i = 1 by omega) with rfl | rfl
            · exact ⟨1, .inl rfl, (blk_cell HK.out 0).trans rfl⟩
            · exact ⟨2, .inr rfl, (blk_cell HK.out 1).trans rfl⟩
          have i1 : decide ((i : Int) < 2) = true := decide_eq_true (by omega)
          have i2 : decide (i < 2) = true := decide_eq_true hi2
          have hx0 := (blk_cell HE.out.box 0).trans rfl
          have hx1 := (blk_cell HE.out.box 1).trans rfl
          have HSol := Aside0.mk (exh_solve hM4 l hl HIn.out Hv.out A c k hk n hlt wr (HE.out.tab HT.out) HE.out.rd)
          go_upto_region 10 with (first | (go_at_call 10; refine HSol.out.mono ?_; rintro e w5 ⟨who, A7, m7, c7, rfl, HEP, hb⟩))
          have HE5 := Aside0.mk ((HE.out.nx hb.out).nx (below_alloc (Below.refl _ w5) (.cells #[.int .i64 k, .int .i64 (n : Int), .int .i64 who, .slice A7 m7 c7] 33)))
          have HK5 : Aside0 ((w5.alloc (.cells #[.int .i64 k, .int .i64 (n : Int), .int .i64 who, .slice A7 m7 c7] 33)).heap[b22]? = some (.cells #[.int .i64 1, .int .i64 2] 3 (0, 0))) := ⟨blk_grown (blk_grown HK.out (grown_of_below hb.out none) (by simp)) (World.grownBy_alloc _ _ none) (by simp)⟩
          have HB8 : Aside0 ((w5.alloc (.cells #[.int .i64 k, .int .i64 (n : Int), .int .i64 who, .slice A7 m7 c7] 33)).heap[w5.heap.size]? = some (.cells #[.int .i64 k, .int .i64 (n : Int), .int .i64 who, .slice A7 m7 c7] 33 (0, 0))) := ⟨blk_new w5 _⟩
          clear HE HK hb HSol hck hx0 hx1
          change Code.wp Tryd.prog _ _ _ (w5.alloc (.cells #[.int .i64 k, .int .i64 (n : Int), .int .i64 who, .slice A7 m7 c7] 33))
          generalize w5.heap.size = b8 at *
          generalize w5.alloc (.cells #[.int .i64 k, .int .i64 (n : Int), .int .i64 who, .slice A7 m7 c7] 33) = w6 at *
          have hx0 := (blk_cell HE5.out.box 0).trans rfl
          have hx1 := (blk_cell HE5.out.box 1).trans rfl
          have HHas := Aside0.mk (nhas_any (M : Int) (n : Int) (n : Int) l (by omega) A c w6 HE5.out.rd)
          go_upto_region 12 with fail
          go_cut [44] (fun s44 wx => ∃ sb, s44 = .bool sb ∧ sb = (decide (k = 2) && atkB l n n) ∧ Aside0 (Below w6.heap.size w6 wx))
          case first =>
            by_cases hk2 : k = 2
            · subst hk2
              go_wp2_with (first | (go_at_call 15; refine HHas.out.mono ?_; rintro e w7 ⟨rfl, hb⟩))
              go_meet
              exact ⟨_, rfl, by simp, hb⟩
            · have k1 : (k == 2) = false := beq_eq_false_iff_ne.2 hk2
              have k2 : decide (k = 2) = false := decide_eq_false hk2
              go_wp2_with fail
              go_meet
              exact ⟨false, rfl, by rw [k2]; rfl, ⟨Below.refl _ _⟩⟩
          case rest =>
            obtain ⟨sb, rfl, hsb, hb⟩ := hcut
            have HE6 := Aside0.mk (HE5.out.nx hb.out)
            have HK6 := Aside0.mk (blk_grown HK5.out (grown_of_below hb.out none) (by simp))
            have HB6 := Aside0.mk (blk_grown HB8.out (grown_of_below hb.out none) (by simp))
            clear HE5 HK5 HB8 hb hx0 hx1 HHas
            have hy2 := (blk_cell HB6.out 2).trans rfl
            cases sb with
            | true =>
              have hw2 : who = 2 := by
                have h := hsb.symm
                rw [Bool.and_eq_true] at h
                exact HEP.out.1 (of_decide_eq_true h.1) h.2
              subst hw2
              clear hsb
              go_wp2
              exact ⟨⟨i + 1, by go_num, by omega, HE6, HK6⟩, by simp [intOf]; omega⟩
            | false =>
              have hq : Aside0 (0 < (bst M l k 4000 [n] 4000).2 → (bst M l k 4000 [n] 4000).1 = who) := ⟨HEP.out.2 (by
                rintro ⟨h1, h2⟩
                rw [decide_eq_true h1, h2] at hsb
                cases hsb)⟩
              clear hsb hy2
              go_upto_region 16 with fail
              have hgl := Aside0.mk (blk_new wc (.cells #[.int .i64 4000] 3))
              have HE7 := Aside0.mk (HE6.out.nx (below_alloc (Below.refl _ wc) (.cells #[.int .i64 4000] 3)))
              have HK7 := Aside0.mk (blk_grown HK6.out (World.grownBy_alloc wc (.cells #[.int .i64 4000] 3) none) (by simp))
              have HB7 := Aside0.mk (blk_grown HB6.out (World.grownBy_alloc wc (.cells #[.int .i64 4000] 3) none) (by simp))
              have hlo : w.heap.size ≤ wc.heap.size := HE6.out.hb.size
              have hn22 : b22 < wc.heap.size := blk_lt HK6.out
              clear HE6 HK6 HB6
              change Code.wp Tryd.prog _ _ _ (wc.alloc (.cells #[.int .i64 4000] 3))
              generalize wc.heap.size = gl at *
              generalize wc.alloc (.cells #[.int .i64 4000] 3) = w7 at *
              have hgls := blk_lt hgl.out
              have HE8 := Aside0.mk (HE7.out.nx (below_alloc (Below.refl _ w7) (.cells #[.int .i64 (n : Int)] 3)))
              have HBG : Aside0 (BG M l A c base gl 4000 (w7.alloc (.cells #[.int .i64 (n : Int)] 3))) := ⟨{
                tab := HE8.out.tab HT.out
                own := HE8.out.own
                cell := blk_grown hgl.out (World.grownBy_alloc _ _ none) (by simp)
                pos := Nat.lt_of_lt_of_le HT.out.2 hlo }⟩
              have HO8 : Aside0 (OwnI (w7.alloc (.cells #[.int .i64 (n : Int)] 3)) w7.heap.size (.slice (some ⟨w7.heap.size, 0, none⟩) 1 1) [n]) := ⟨rfl, .inr ⟨w7.heap.size, 1, _, rfl, Nat.le_refl _, blk_new w7 _, Nat.le_refl _, by decide, rfl, rfl⟩⟩
              have HBest := Aside0.mk (best_any M (by omega) l hl k A c base gl 4000 [n] (show 0 < [n].length from Nat.zero_lt_one) (show [n].length ≤ 61 by simp) 4000 (by decide) (by decide) (by decide) (some ⟨w7.heap.size, 0, none⟩) 1 w7.heap.size hgls _ HBG.out HO8.out)
              have hx0 := (blk_cell HE7.out.box 0).trans rfl
              have hx1 := (blk_cell HE7.out.box 1).trans rfl
              have HK8 := Aside0.mk (blk_grown HK7.out (World.grownBy_alloc w7 (.cells #[.int .i64 (n : Int)] 3) none) (by simp))
              have HB8 := Aside0.mk (blk_grown HB7.out (World.grownBy_alloc w7 (.cells #[.int .i64 (n : Int)] 3) none) (by simp))
              clear HO8 HE7 HK7 HB7
              generalize bst M l k 4000 [n] 4000 = r at *
              go_upto_region 17 with (first | (go_at_call 16; refine HBest.out.mono ?_; rintro e w9 ⟨rfl, hcl, hkp⟩))
              have HE9 := Aside0.mk (HE8.out.kp hkp.out hlo HBG.out.cell)
              have HK9 : Aside0 (w9.heap[b22]? = some (.cells #[.int .i64 1, .int .i64 2] 3 (0, 0))) := ⟨(hkp.out.block b22 (blk_lt HK8.out) (by omega) (by omega)).trans HK8.out⟩
              have HB9 := Aside0.mk (hkp.out.blk HB8.out HBG.out.cell HBG.out.cell (by decide) (by decide))
              have hyl := (blk_cell hcl.out 0).trans rfl
              have hy2 := (blk_cell HB9.out 2).trans rfl
              clear HE8 HK8 HB8 HBG HBest hkp hcl hx0 hx1 hgl
              obtain ⟨r1, r2⟩ := r
              by_cases hpos : 0 < r2
              · have hw : r1 = who := hq.out hpos
                subst hw
                have q1 : decide (0 < r2) = true := decide_eq_true hpos
                clear hq
                go_wp2
                exact ⟨⟨i + 1, by go_num, by omega, HE9, HK9⟩, by simp [intOf]; omega⟩
              · have q1 : decide (0 < r2) = false := decide_eq_false hpos
                clear hq
                go_wp2
                exact ⟨⟨i + 1, by go_num, by omega, HE9, HK9⟩, by simp [intOf]; omega⟩
        · go_wp2
          exact ⟨⟨n + 1, by go_num, hlt, HE⟩, by simp [intOf]; omega⟩
    · have HA := Aside0.mk (awake_any wr (HE.out.tab HT.out))
      go_wp2_with (first | (go_at_call 7; refine HA.out.mono ?_; rintro e w5 ⟨rfl, hb⟩))
      go_ret
      exact ⟨rfl, ⟨(HE.out.nx hb.out).hb⟩⟩
end Go.Proofs.YtgboplcjafmliaaDoor.G
