/- The contract of game.Check at a strategy whose parts are in order. -/
import Derived.Test.YtgboplcjafmliaaDoorPQ6
import Derived.Deep.RegionLaw
import Derived.Test.YtgboplcjafmliaaDoorPAllx8
/- The contract of game.Check at a strategy whose parts are in order. -/
namespace Go.Proofs.YtgboplcjafmliaaDoor.G
open Go.RowKit Go.Proofs.YtgboplcjafmliaaDoorW.PrintWords Go.Proofs.YtgboplcjafmliaaDoorW.PrintLast Go.Proofs.YtgboplcjafmliaaDoorW.PrintMore
open Go.Proofs.YtgboplcjafmliaaDoor.PAll
set_option linter.unusedVariables false
set_option linter.unusedSimpArgs false

/-- Whether a strategy wins, as the checker finds it. -/
def winB (N : Nat) (n : NetD) (game : Int) (root : Nat) (who : Int) (rs : List Rp) : Bool :=
  if who = 1 then (vis n rs game (N + 1) root (s00 N)).1 && (game == 1 || freeB n (vis n rs game (N + 1) root (s00 N)).2.reached)
  else if game = 1 then (rst n rs (N + 1) root 0).1
  else if 10 < N ∨ 0 < rs.length then false else (srch n (N + 1) (2 ^ root)).isNone
theorem winsB_eq (d : CkD) : winsB d = winB d.N d.n d.game d.root d.who d.rs := rfl
/-- A strategy whose parts are in order. -/
structure StrOk (N : Nat) (game : Int) (root : Nat) (who : Int) (rs : List Rp) : Prop where
  root : root < N
  game : game = 1 ∨ game = 2
  who : who = 1 ∨ who = 2
  so : SortR rs
  lt : ∀ p, p ∈ rs → p.1.val < N ∧ p.2.val < N
theorem StrOk.len {N : Nat} {game : Int} {root : Nat} {who : Int} {rs : List Rp} (h : StrOk N game root who rs) (hN : N ≤ 40) : rs.length ≤ 40 := by
  have h1 : (rs.map fun p => p.1.val).Nodup := by
    rw [List.nodup_iff_pairwise_ne, List.pairwise_map]
    exact h.so.imp fun h => Nat.ne_of_lt h
  have := nodup_le N _ h1 (fun a ha => by obtain ⟨p, hp, rfl⟩ := List.mem_map.1 ha; exact (h.lt p hp).1)
  rw [List.length_map] at this
  omega

set_option maxHeartbeats 1000000 in
theorem in_any (N : Nat) (x : Nat) (hx : x < N) (A : Option Addr) (m c : Nat) (g : Nat) (w : World) (hg : w.heap[g]? = some (.cells #[.int .i64 (N : Int), .slice A m c] 24 (0, 0))) :
    Calls Tryd.prog 39 #[.int .i64 (x : Int), .pointer (some ⟨g, 0, none⟩)] w fun e w' => e = .returned (.bool true) ∧ w = w' := by
  have hg0 := (blk_cell hg 0).trans rfl
  have e1 : decide ((0 : Int) ≤ (x : Int)) = true := decide_eq_true (by omega)
  have e2 : decide ((x : Int) < (N : Int)) = true := decide_eq_true (by omega)
  have e3 : decide (x < N) = true := decide_eq_true hx
  clear hg
  go_enter Tryd.func39, Tryd.ntmps39
  go_wp2
  go_ret
  exact ⟨rfl, rfl⟩

/-- The error of Check at a strategy whose parts are in order. -/
def chkE (b : Bool) : Int := if b = true then 0 else 11
theorem made_zero (n : Nat) : madeCells #[Value.int .i64 0] n = i64s (List.replicate n 0) := by
  apply Array.toList_inj.1
  apply List.ext_getElem
  · simp [i64s, up, madeCells]
  · intro i h1 h2
    simp [i64s, up, madeCells, Nat.mod_one]
theorem ck_of (d : CkD) {w wx : World} {rest : List (Nat × Obj)} (hT : TabW w) (ho : OwnRp w d.base (.slice d.A d.rs.length d.c) d.rs) (hm : Mem w ((d.g, .cells (d.cells 0) 84 (0, 0)) :: (d.h, .cells (madeCells #[Value.int .i64 0] d.N) 3 (0, 0)) :: rest) wx) (h1 : wx.heap[d.b1]? = some (.cells (u64s d.n.by_) 61 (0, 0))) (h2 : wx.heap[d.b2]? = some (.cells (u64s d.n.out) 61 (0, 0))) :
    CkS d (s00 d.N) wx ∧ Below w.heap.size w wx ∧ w.heap.size ≤ d.g ∧ w.heap.size ≤ d.h := by
  refine ⟨⟨hT.below hT.2 hm.st.hb, h1, h2, ho.below hm.st.hb, hm.st.blk _ (.head _), ?_, by simp [s00], Nat.two_pow_pos _⟩, hm.st.hb, hm.lo _ (.head _), hm.lo _ (.tail _ (.head _))⟩
  have h3 := hm.st.blk _ (.tail _ (.head _))
  rw [made_zero] at h3
  exact h3
set_option maxHeartbeats 8000000 in
set_option maxRecDepth 100000 in
theorem check_any (N : Int) (M : Nat) (hNM : N = M) (hM : M ≤ 40) (l : List S54) (hl : l.length < 2 ^ 44) (hv : valE N l = 0) (hin : InR M l) (A : Option Addr) (c : Nat) (game : Int) (root : Nat) (who : Int) (A4 : Option Addr) (c4 base : Nat) (rs : List Rp) (hok : StrOk M game root who rs) (w : World) (hT : TabW w) (hr : RdP w A c l) (ho : OwnRp w base (.slice A4 rs.length c4) rs) :
    Calls Tryd.prog 13 #[.agg #[.int .i64 N, .slice A l.length c], .agg #[.int .i64 game, .int .i64 (root : Int), .int .i64 who, .slice A4 rs.length c4]] w fun e w' => e = .returned (.int .i64 (chkE (winB M (netOf M l) game root who rs))) ∧ Aside0 (Below w.heap.size w w') := by
  have HT := Aside0.mk hT
  have HR := Aside0.mk hr
  have HO := Aside0.mk ho
  have HOk := Aside0.mk hok
  have HNM := Aside0.mk hNM
  have HIn := Aside0.mk hin
  have hlen := hok.len hM
  clear hT hr ho hok hNM hin
  have HVal := Aside0.mk (fun W h => validate_any N l hl A c W h)
  rw [hv] at HVal
  have HEx := Aside0.mk (fun W => exists_any game W)
  have e3 : decide (game = 1 ∨ game = 2) = true := decide_eq_true HOk.out.game
  rw [e3] at HEx
  have HB := Aside0.mk (Mem.refl w)
  clear hv e3
  go_enter Tryd.func13, Tryd.ntmps13
  go_upto_region 5 with (first | ((with_reducible refine gate_dst (N := 2) rfl ?_); refine box_mem (w := w) 2 #[.int .i64 N, .slice A l.length c] 24 rfl rfl ?hr HB.out ?_; (case hr => go_simp; done); clear HB; intro g w1 HB HW) | ((with_reducible refine gate_dst (N := 3) rfl ?_); refine box_mem (w := w) 3 #[.int .i64 game, .int .i64 (root : Int), .int .i64 who, .slice A4 rs.length c4] 33 rfl rfl ?hr HB.out ?_; (case hr => go_simp; done); clear HB HW; intro g2 w2 HB HW; have hg0 := (HB.out.st.at_ (.tail _ (.head _)) 0).trans rfl; have hg1 := (HB.out.st.at_ (.tail _ (.head _)) 1).trans rfl) | (go_at_call 23; refine (HVal.out _ (HR.out.below HB.out.st.hb)).mono ?_; rintro e w3 ⟨rfl, hb⟩; have HB3 := Aside0.mk (HB.out.nx hb.out); clear hb HB hg0 hg1))
  have hk0 := (HB3.out.st.at_ (g := g2) (.head _) 0).trans rfl
  have hk1 := (HB3.out.st.at_ (g := g2) (.head _) 1).trans rfl
  have hk2 := (HB3.out.st.at_ (g := g2) (.head _) 2).trans rfl
  go_cut [30] (fun s30 wx => s30 = .bool false ∧ wx = w3)
  case first =>
    rcases HOk.out.who with hw | hw
    · have q1 : (who != 1) = false := by rw [bne_eq_false_iff_eq]; exact hw
      clear hw
      go_wp2_with (first | (go_at_call 24; refine (HEx.out _).mono ?_; rintro e w' ⟨rfl, rfl⟩))
      go_meet
      exact ⟨rfl, rfl⟩
    · have q1 : (who != 1) = true := by rw [bne_iff_ne, hw]; decide
      have q2 : (who != 2) = false := by rw [bne_eq_false_iff_eq]; exact hw
      clear hw
      go_wp2_with (first | (go_at_call 24; refine (HEx.out _).mono ?_; rintro e w' ⟨rfl, rfl⟩))
      go_meet
      exact ⟨rfl, rfl⟩
  case rest =>
    obtain ⟨rfl, rfl⟩ := hcut
    have HI39 : Aside0 (∀ (x : Nat), x < M → ∀ W : World, W.heap[g]? = some (.cells #[.int .i64 N, .slice A l.length c] 24 (0, 0)) → Calls Tryd.prog 39 #[.int .i64 (x : Int), .pointer (some ⟨g, 0, none⟩)] W fun e w' => e = .returned (.bool true) ∧ W = w') := ⟨fun x hx W hW => by
      rw [HNM.out] at hW
      exact in_any M x hx A l.length c g W hW⟩
    have hk3 := (HB3.out.st.at_ (g := g2) (.head _) 3).trans rfl
    clear HEx HVal hk0 hk2
    go_wp2_with (first | (go_at_call 39; refine (HI39.out root HOk.out.root _ (HB3.out.st.blk _ (.tail _ (.head _)))).mono ?_; rintro e w' ⟨rfl, rfl⟩))
    clear hk1 hk3
    go_loopw [8, 39] (fun v8 v39 w' => ∃ k : Nat, v39 = .int .i64 (k : Int) ∧ k ≤ rs.length ∧ Aside0 (Mem w [(g2, .cells #[.int .i64 game, .int .i64 (root : Int), .int .i64 who, .slice A4 rs.length c4] 33 (0, 0)), (g, .cells #[.int .i64 N, .slice A l.length c] 24 (0, 0))] w')) (fun _ v39 _ => rs.length - (intOf v39).toNat)
    case atStart => exact ⟨0, rfl, Nat.zero_le _, HB3⟩
    case round =>
      clear HB3
      obtain ⟨k, rfl, hk, HM⟩ := hrel
      by_cases hlt : k < rs.length
      · obtain ⟨A5, c5, he, hrd⟩ := (HO.out.below HM.out.st.hb).reads
        injection he with e1 e2 e3
        subst e1 e3
        obtain ⟨ad, rfl, hc0, hc1⟩ := hrd.cell k hlt
        have hpm : nthR rs k ∈ rs := by rw [nthR_get rs k hlt]; exact List.getElem_mem hlt
        have hpl := HOk.out.lt _ hpm
        clear hpm hrd
        obtain ⟨p1, hp1⟩ : ∃ p, (nthR rs k).1.val = p := ⟨_, rfl⟩
        obtain ⟨p2, hp2⟩ : ∃ p, (nthR rs k).2.val = p := ⟨_, rfl⟩
        rw [hp1] at hc0 hpl
        rw [hp2] at hc1 hpl
        obtain ⟨hl1, hl2⟩ := hpl
        clear hp1 hp2
        have HMa := Aside0.mk (HM.out.add (.cells #[.int .i64 (p1 : Int), .int .i64 (p2 : Int)] 77 (0, 0)))
        go_wp2_with (first | (go_at_call 39; refine (HI39.out _ ?hx _ (HMa.out.st.blk _ (.tail _ (.tail _ (.head _))))).mono ?_; (case hx => (first | exact hl1 | exact hl2)); rintro e w' ⟨rfl, rfl⟩))
        go_roundw
        case rel => exact ⟨k + 1, by go_num, hlt, ⟨HMa.out.sub⟩⟩
        case measure => simp [intOf]; omega
      · go_wp2
        go_loopw [9] (fun v9 w' => ∃ k : Nat, v9 = .int .i64 (k : Int) ∧ 1 ≤ k ∧ k ≤ rs.length + 1 ∧ Aside0 (Mem w [(g2, .cells #[.int .i64 game, .int .i64 (root : Int), .int .i64 who, .slice A4 rs.length c4] 33 (0, 0)), (g, .cells #[.int .i64 N, .slice A l.length c] 24 (0, 0))] w')) (fun v9 _ => rs.length + 1 - (intOf v9).toNat)
        case atStart => exact ⟨1, rfl, Nat.le_refl _, by omega, HM⟩
        case round =>
          clear HM hlt hk
          obtain ⟨k, rfl, hk1, hk, HM⟩ := hrel
          have hm3 := (HM.out.st.at_ (g := g2) (.head _) 3).trans rfl
          by_cases hlt : k < rs.length
          · obtain ⟨A5, c5, he, hrd⟩ := (HO.out.below HM.out.st.hb).reads
            injection he with e1 e2 e3
            subst e1 e3
            obtain ⟨ad, rfl, hc0, hc1⟩ := hrd.cell k hlt
            obtain ⟨ad', he, hd0, hd1⟩ := hrd.cell (k - 1) (by omega)
            injection he with he
            subst he
            have hord := HOk.out.so.lt (i := k - 1) (j := k) (by omega) hlt
            clear hrd hc1 hd1
            obtain ⟨p1, hp1⟩ : ∃ p, (nthR rs k).1.val = p := ⟨_, rfl⟩
            obtain ⟨p2, hp2⟩ : ∃ p, (nthR rs (k - 1)).1.val = p := ⟨_, rfl⟩
            rw [hp1] at hc0 hord
            rw [hp2] at hd0 hord
            clear hp1 hp2
            have q0 : (k : Int) < (rs.length : Int) := by omega
            have q1 : (0 : Int) ≤ (k : Int) - 1 := by omega
            have q2 : (k : Int) - 1 < (rs.length : Int) := by omega
            have q3 : ((k : Int) - 1).toNat = k - 1 := by omega
            have q4 : IntKind.i64.wrap ((k : Int) - 1) = (k : Int) - 1 := IntWalk.i64_in _ (by omega)
            have q5 : decide ((p1 : Int) ≤ (p2 : Int)) = false := decide_eq_false (by omega)
            have q6 : decide (p1 ≤ p2) = false := decide_eq_false (by omega)
            go_wp2
            go_quiet (fail)
            have HM2 := Aside0.mk (HM.out.drewN nq)
            clear q0 q1 q2 q3 q4 hc0 hd0 hm3 HM
            go_wp2
            go_roundw
            case rel => exact ⟨k + 1, by go_num, by omega, by omega, HM2⟩
            case measure => simp [intOf]; omega
          · go_upto_region 20 with fail
            have hNM := HNM.out
            subst hNM
            have hmk := print_make (P := Tryd.prog) 25 3 .i64 8 Tryd.underlying25 info3 (by decide) M (by omega)
            have HNew := Aside0.mk (fun W h => new_blk M hM l hl HIn.out A c W h)
            let S1 : Obj := .cells #[.int .i64 (M : Int), .slice A l.length c] 24 (0, 0)
            let S2 : Obj := .cells #[.int .i64 game, .int .i64 (root : Int), .int .i64 who, .slice A4 rs.length c4] 33 (0, 0)
            let SM : Obj := .cells (madeCells #[Value.int .i64 0] M) 3 (0, 0)
            have HSf : Aside0 (∀ (x : World) (bs : List (Nat × Obj)), Mem w bs x → (g2, S2) ∈ bs → (g, S1) ∈ bs → x.cell? ⟨g, 0, none⟩ = some (.int .i64 (M : Int)) ∧ x.cell? ⟨g, 1, none⟩ = some (.slice A l.length c) ∧ x.cell? ⟨g2, 0, none⟩ = some (.int .i64 game) ∧ x.cell? ⟨g2, 1, none⟩ = some (.int .i64 (root : Int)) ∧ x.cell? ⟨g2, 2, none⟩ = some (.int .i64 who) ∧ x.cell? ⟨g2, 3, none⟩ = some (.slice A4 rs.length c4)) :=
              ⟨fun x bs h h2 h1 => ⟨(h.st.at_ h1 0).trans rfl, (h.st.at_ h1 1).trans rfl, (h.st.at_ h2 0).trans rfl, (h.st.at_ h2 1).trans rfl, (h.st.at_ h2 2).trans rfl, (h.st.at_ h2 3).trans rfl⟩⟩
            have HX3 : Aside0 (Mem w ((wr.heap.size, SM) :: [(g2, S2), (g, S1)]) (wr.alloc SM)) := ⟨HM.out.add SM⟩
            go_cut [10] (fun s10 wx => ∃ (b1 b2 g84 h : Nat), s10 = .pointer (some ⟨g84, 0, none⟩) ∧ Aside0 (CkS ⟨M, netOf M l, b1, b2, game, root, who, A4, c4, base, rs, g84, h⟩ (s00 M) wx) ∧ Aside0 (Below w.heap.size w wx) ∧ Aside0 (w.heap.size ≤ g84 ∧ w.heap.size ≤ h))
            case first =>
              obtain ⟨n0, n1, m0, m1, m2, m3⟩ := HSf.out _ _ HM.out (.head _) (.tail _ (.head _))
              obtain ⟨n0x, n1x, m0x, m1x, m2x, m3x⟩ := HSf.out _ _ HX3.out (.tail _ (.head _)) (.tail _ (.tail _ (.head _)))
              clear hm3
              go_region_held3 (fun x => x.cell? ⟨g, 0, none⟩ = some (.int .i64 (M : Int)) ∧ x.cell? ⟨g, 1, none⟩ = some (.slice A l.length c) ∧ x.cell? ⟨g2, 0, none⟩ = some (.int .i64 game) ∧ x.cell? ⟨g2, 1, none⟩ = some (.int .i64 (root : Int)) ∧ x.cell? ⟨g2, 2, none⟩ = some (.int .i64 who) ∧ x.cell? ⟨g2, 3, none⟩ = some (.slice A4 rs.length c4)) (first | go_keep | exact HSf.out _ _ HM.out (.head _) (.tail _ (.head _)) | exact HSf.out _ _ HX3.out (.tail _ (.head _)) (.tail _ (.tail _ (.head _))) | exact HSf.out _ _ HL2.out (.head _) (.tail _ (.head _)) | exact HSf.out _ _ HL3.out (.tail _ (.head _)) (.tail _ (.tail _ (.head _))) | exact HSf.out _ _ HL4.out (.tail _ (.tail _ (.head _))) (.tail _ (.tail _ (.tail _ (.head _)))) | (trace_state; fail))
                (first | (go_at_call 25; first | (refine (HNew.out _ (HR.out.below HM.out.st.hb.drew)).mono ?_; rintro e w5 ⟨b1, b2, rfl, hb1, hb2, hll, hb⟩; have HL2 := Aside0.mk (HM.out.drew.nx hb.out)) | (refine (HNew.out _ (HR.out.below HX3.out.st.hb.drew)).mono ?_; rintro e w5 ⟨b1, b2, rfl, hb1, hb2, hll, hb⟩; have HL3 := Aside0.mk (HX3.out.drew.nx hb.out))))
              all_goals (go_wp2_with fail; go_meet)
              · have HL4 := (HL2.out.add SM).add (.cells (CkD.cells ⟨M, netOf M l, b1, b2, game, root, who, A4, c4, base, rs, w5.heap.size + 1, w5.heap.size⟩ 0) 84 (0, 0))
                rw [show (w5.alloc SM).heap.size = w5.heap.size + 1 by simp] at HL4
                have R := ck_of ⟨M, netOf M l, b1, b2, game, root, who, A4, c4, base, rs, w5.heap.size + 1, w5.heap.size⟩ HT.out HO.out HL4 (blk_grown (blk_grown hb1.out (World.grownBy_alloc _ _ none) (by simp)) (World.grownBy_alloc _ _ none) (by simp)) (blk_grown (blk_grown hb2.out (World.grownBy_alloc _ _ none) (by simp)) (World.grownBy_alloc _ _ none) (by simp))
                exact ⟨b1, b2, w5.heap.size + 1, w5.heap.size, rfl, ⟨R.1⟩, ⟨R.2.1⟩, ⟨R.2.2⟩⟩
              · have HL4 := HL3.out.add (.cells (CkD.cells ⟨M, netOf M l, b1, b2, game, root, who, A4, c4, base, rs, w5.heap.size, wr.heap.size⟩ 0) 84 (0, 0))
                have R := ck_of ⟨M, netOf M l, b1, b2, game, root, who, A4, c4, base, rs, w5.heap.size, wr.heap.size⟩ HT.out HO.out HL4 (blk_grown hb1.out (World.grownBy_alloc _ _ none) (by simp)) (blk_grown hb2.out (World.grownBy_alloc _ _ none) (by simp))
                exact ⟨b1, b2, w5.heap.size, wr.heap.size, rfl, ⟨R.1⟩, ⟨R.2.1⟩, ⟨R.2.2⟩⟩
            case rest =>
              obtain ⟨b1, b2, g84, h, rfl, HC, HBl, HGe⟩ := hcut
              have hdo : CkD.Ok ⟨M, netOf M l, b1, b2, game, root, who, A4, c4, base, rs, g84, h⟩ := ⟨netOf_ok hM HIn.out, HOk.out.root, HOk.out.game, HOk.out.who, HOk.out.so, HOk.out.lt, by have := hlen; show rs.length < 1000; omega, Nat.lt_of_lt_of_le HT.out.2 HGe.out.1, Nat.lt_of_lt_of_le HT.out.2 HGe.out.2⟩
              have HWn := Aside0.mk (wins_any _ hdo _ HC.out)
              rw [winsB_eq] at HWn
              simp only at HWn
              clear hm3 HSf HX3 HM hmk HNew hdo
              obtain ⟨b, hb⟩ : ∃ b, winB M (netOf M l) game root who rs = b := ⟨_, rfl⟩
              rw [hb] at HWn
              have HBb := Aside0.mk hb
              clear hb
              cases b with
              | true =>
                go_wp2_with (first | (go_at_call 40; refine HWn.out.mono ?_; rintro e w9 ⟨rfl, HK⟩))
                go_ret
                exact ⟨by rw [HBb.out]; rfl, ⟨HBl.out.trans (HK.out.below HGe.out.1 HGe.out.2 HBl.out.size)⟩⟩
              | false =>
                go_wp2_with (first | (go_at_call 40; refine HWn.out.mono ?_; rintro e w9 ⟨rfl, HK⟩))
                go_ret
                exact ⟨by rw [HBb.out]; rfl, ⟨HBl.out.trans (HK.out.below HGe.out.1 HGe.out.2 HBl.out.size)⟩⟩
end Go.Proofs.YtgboplcjafmliaaDoor.G

/- What a strategy that is accepted is worth: lines in which the player follows it. No program here. -/
namespace Go.Proofs.YtgboplcjafmliaaDoor.G
open Go.RowKit
set_option linter.unusedVariables false
set_option linter.unusedSimpArgs false

theorem nth_set (l : List Nat) (t f i : Nat) (ht : t < l.length) : nth (l.set t f) i = if i = t then f else nth l i := by
  unfold nth
  rw [List.getD_eq_getElem?_getD, List.getD_eq_getElem?_getD, List.getElem?_set]
  by_cases h : t = i
  · subst h; rw [if_pos rfl, if_pos ht, if_pos rfl]; rfl
  · rw [if_neg h, if_neg (Ne.symm h)]
/-- A node whose attackers all have replies that attack them, to nodes that are visited. -/
def Cl (n : NetD) (rs : List Rp) (game : Int) (s : CS) (rank : Nat → Nat) (a : Nat) : Prop := ∀ x, At n a x → ∃ y, rep rs x = some y ∧ At n x y ∧ nth s.st y ≠ 0 ∧ (game = 1 → nth s.st y = 2 ∧ rank y < rank a)
structure VI (N : Nat) (n : NetD) (rs : List Rp) (game : Int) (s : CS) : Prop where
  len : s.st.length = N
  le : ∀ i, nth s.st i ≤ 2
  re : ∀ i, s.reached.testBit i = true ↔ nth s.st i ≠ 0
  cl : ∃ (rank : Nat → Nat) (T : Nat), ∀ a, nth s.st a = 2 → rank a < T ∧ Cl n rs game s rank a
structure VP (s t : CS) : Prop where
  one : ∀ i, nth t.st i = 1 ↔ nth s.st i = 1
  two : ∀ i, nth s.st i = 2 → nth t.st i = 2
theorem VP.trans {s t u : CS} (a : VP s t) (b : VP t u) : VP s u := ⟨fun i => (b.one i).trans (a.one i), fun i h => b.two i (a.two i h)⟩
theorem vStep_ok {N : Nat} {n : NetD} (hok : n.Ok N) (rs : List Rp) (game : Int) (rec : Nat → CS → Bool × CS)
    (hrec : ∀ y s, y < N → VI N n rs game s → nth s.st y = 0 → (rec y s).1 = true → VI N n rs game (rec y s).2 ∧ VP s (rec y s).2 ∧ nth (rec y s).2.st y = 2) :
    ∀ (L : List Nat) (s : CS), VI N n rs game s → (vStep n rs game rec L s).1 = true → VI N n rs game (vStep n rs game rec L s).2 ∧ VP s (vStep n rs game rec L s).2 ∧
      ∀ x, x ∈ L → ∃ y, rep rs x = some y ∧ At n x y ∧ nth (vStep n rs game rec L s).2.st y ≠ 0 ∧ (game = 1 → nth (vStep n rs game rec L s).2.st y = 2)
  | [], s, hI, _ => ⟨hI, ⟨fun i => Iff.rfl, fun i h => h⟩, fun x hx => by cases hx⟩
  | x :: L, s, hI, h => by
    rw [vStep] at h ⊢
    cases hr : rep rs x with
    | none => rw [hr] at h; cases h
    | some y =>
      rw [hr] at h
      simp only at h ⊢
      by_cases hb : (nth n.by_ x).testBit y = true
      · rw [if_pos hb] at h ⊢
        have hyN : y < N := At.lt hok hb
        by_cases h1 : nth s.st y = 1 ∧ game = 1
        · rw [if_pos h1] at h; cases h
        · rw [if_neg h1] at h ⊢
          by_cases h0 : nth s.st y = 0
          · rw [if_pos h0] at h ⊢
            by_cases ht : (rec y s).1 = true
            · rw [if_pos ht] at h ⊢
              obtain ⟨hI2, hP2, hy2⟩ := hrec y s hyN hI h0 ht
              obtain ⟨hI3, hP3, hL⟩ := vStep_ok hok rs game rec hrec L _ hI2 h
              refine ⟨hI3, hP2.trans hP3, fun z hz => ?_⟩
              rcases List.mem_cons.1 hz with rfl | hz
              · have := hP3.two y hy2
                exact ⟨y, hr, hb, by omega, fun _ => this⟩
              · exact hL z hz
            · rw [if_neg ht] at h; exact absurd h ht
          · rw [if_neg h0] at h ⊢
            obtain ⟨hI3, hP3, hL⟩ := vStep_ok hok rs game rec hrec L s hI h
            refine ⟨hI3, hP3, fun z hz => ?_⟩
            rcases List.mem_cons.1 hz with rfl | hz
            · have hle := hI.le y
              rcases (show nth s.st y = 1 ∨ nth s.st y = 2 by omega) with e | e
              · have := (hP3.one y).2 e
                exact ⟨y, hr, hb, by omega, fun hg => absurd ⟨e, hg⟩ h1⟩
              · have := hP3.two y e
                exact ⟨y, hr, hb, by omega, fun _ => this⟩
            · exact hL z hz
      · rw [if_neg hb] at h; cases h
theorem vis_ok {N : Nat} {n : NetD} (hok : n.Ok N) (rs : List Rp) (game : Int) : ∀ (f node : Nat) (s : CS), node < N → VI N n rs game s → nth s.st node = 0 → (vis n rs game f node s).1 = true →
    VI N n rs game (vis n rs game f node s).2 ∧ VP s (vis n rs game f node s).2 ∧ nth (vis n rs game f node s).2.st node = 2
  | 0, node, s, hn, hI, h0, h => by cases h
  | f + 1, node, s, hn, hI, h0, h => by
    rw [vis] at h ⊢
    unfold vFin at h ⊢
    have hset : ∀ i, nth (s.st.set node 1) i = if i = node then 1 else nth s.st i := fun i => nth_set _ _ _ _ (by rw [hI.len]; exact hn)
    have hI1 : VI N n rs game ⟨s.reached ||| 2 ^ node, s.st.set node 1⟩ := {
      len := by show (s.st.set node 1).length = N; rw [List.length_set]; exact hI.len
      le := fun i => by
        show nth (s.st.set node 1) i ≤ 2
        rw [hset]; split
        · omega
        · exact hI.le i
      re := fun i => by
        show (s.reached ||| 2 ^ node).testBit i = true ↔ nth (s.st.set node 1) i ≠ 0
        rw [or_bit, hset, hI.re]
        by_cases e : i = node
        · rw [if_pos e]; simp [e]
        · rw [if_neg e]; simp [e]
      cl := by
        obtain ⟨rank, T, hc⟩ := hI.cl
        refine ⟨rank, T, fun a ha => ?_⟩
        have ha' : nth (s.st.set node 1) a = 2 := ha
        rw [hset] at ha'
        by_cases e : a = node
        · rw [if_pos e] at ha'; omega
        · rw [if_neg e] at ha'
          obtain ⟨h1, h2⟩ := hc a ha'
          refine ⟨h1, fun x hx => ?_⟩
          obtain ⟨y, hy1, hy2, hy3, hy4⟩ := h2 x hx
          have hyn : y ≠ node := fun e => by rw [e, h0] at hy3; exact hy3 rfl
          refine ⟨y, hy1, hy2, ?_, fun hg => ?_⟩
          · show nth (s.st.set node 1) y ≠ 0
            rw [hset, if_neg hyn]; exact hy3
          · show nth (s.st.set node 1) y = 2 ∧ _
            rw [hset, if_neg hyn]; exact hy4 hg }
    generalize hs1 : (⟨s.reached ||| 2 ^ node, s.st.set node 1⟩ : CS) = s1 at *
    have hst1 : s1.st = s.st.set node 1 := by rw [← hs1]
    cases hv : (vStep n rs game (vis n rs game f) (bl (nth n.by_ node)) s1).1 with
    | false =>
      rw [hv] at h
      rw [if_neg (by simp)] at h
      rw [hv] at h; cases h
    | true =>
      rw [if_pos rfl]
      obtain ⟨hI2, hP2, hL⟩ := vStep_ok hok rs game (vis n rs game f) (fun y t hy hIt h0t ht => vis_ok hok rs game f y t hy hIt h0t ht) _ s1 hI1 hv
      generalize (vStep n rs game (vis n rs game f) (bl (nth n.by_ node)) s1).2 = s2 at *
      have hset2 : ∀ i, nth (s2.st.set node 2) i = if i = node then 2 else nth s2.st i := fun i => nth_set _ _ _ _ (by rw [hI2.len]; exact hn)
      have hone : nth s2.st node = 1 := (hP2.one node).2 (by rw [hst1, hset, if_pos rfl])
      refine ⟨{
        len := by show (s2.st.set node 2).length = N; rw [List.length_set]; exact hI2.len
        le := fun i => by
          show nth (s2.st.set node 2) i ≤ 2
          rw [hset2]; split
          · omega
          · exact hI2.le i
        re := fun i => by
          show s2.reached.testBit i = true ↔ nth (s2.st.set node 2) i ≠ 0
          rw [hset2, hI2.re]
          by_cases e : i = node
          · rw [if_pos e, e, hone]; simp
          · rw [if_neg e]
        cl := by
          obtain ⟨rank, T, hc⟩ := hI2.cl
          refine ⟨fun i => if i = node then T else rank i, T + 1, fun a ha => ?_⟩
          have ha' : nth (s2.st.set node 2) a = 2 := ha
          rw [hset2] at ha'
          by_cases e : a = node
          · subst e
            refine ⟨by simp, fun x hx => ?_⟩
            obtain ⟨y, hy1, hy2, hy3, hy4⟩ := hL x ((mem_bl _ _ (p64 hok.hN (hok.lb a))).2 hx)
            refine ⟨y, hy1, hy2, ?_, fun hg => ?_⟩
            · show nth (s2.st.set a 2) y ≠ 0
              rw [hset2]; split
              · omega
              · exact hy3
            · have hy5 := hy4 hg
              have hya : y ≠ a := fun e => by rw [e, hone] at hy5; omega
              refine ⟨?_, ?_⟩
              · show nth (s2.st.set a 2) y = 2
                rw [hset2, if_neg hya]; exact hy5
              · show (if y = a then T else rank y) < (if a = a then T else rank a)
                rw [if_neg hya, if_pos rfl]; exact (hc y hy5).1
          · rw [if_neg e] at ha'
            obtain ⟨h1, h2⟩ := hc a ha'
            refine ⟨by show (if a = node then T else rank a) < T + 1; rw [if_neg e]; omega, fun x hx => ?_⟩
            obtain ⟨y, hy1, hy2, hy3, hy4⟩ := h2 x hx
            refine ⟨y, hy1, hy2, ?_, fun hg => ?_⟩
            · show nth (s2.st.set node 2) y ≠ 0
              rw [hset2]; split
              · omega
              · exact hy3
            · obtain ⟨hy5, hy6⟩ := hy4 hg
              have hyn : y ≠ node := fun e => by rw [e, hone] at hy5; omega
              refine ⟨?_, ?_⟩
              · show nth (s2.st.set node 2) y = 2
                rw [hset2, if_neg hyn]; exact hy5
              · show (if y = node then T else rank y) < (if a = node then T else rank a)
                rw [if_neg hyn, if_neg e]; exact hy6 }, ⟨fun i => ?_, fun i hi => ?_⟩, ?_⟩
      · show nth (s2.st.set node 2) i = 1 ↔ nth s.st i = 1
        rw [hset2]
        by_cases e : i = node
        · rw [if_pos e, e, h0]; simp
        · rw [if_neg e, hP2.one i, hst1, hset, if_neg e]
      · show nth (s2.st.set node 2) i = 2
        rw [hset2]
        by_cases e : i = node
        · rw [if_pos e]
        · rw [if_neg e]; exact hP2.two i (by rw [hst1, hset, if_neg e]; exact hi)
      · show nth (s2.st.set node 2) node = 2
        rw [hset2, if_pos rfl]
theorem s00_nth (N i : Nat) : nth (s00 N).st i = 0 := nth_rep0 N i
theorem s00_ok {N : Nat} {n : NetD} (rs : List Rp) (game : Int) : VI N n rs game (s00 N) where
  len := by simp [s00]
  le := fun i => by rw [s00_nth]; omega
  re := fun i => by rw [s00_nth]; simp [s00]
  cl := ⟨fun _ => 0, 0, fun a ha => by rw [s00_nth] at ha; omega⟩

/-- An accepted proponent: nodes that are closed under replies. -/
theorem win_p {N : Nat} {n : NetD} (hok : n.Ok N) {game : Int} {root : Nat} (hr : root < N) {rs : List Rp} (h : winB N n game root 1 rs = true) :
    ∃ (t : Nat) (rank : Nat → Nat), t < 2 ^ N ∧ t.testBit root = true ∧ (game ≠ 1 → freeB n t = true) ∧ ∀ a, t.testBit a = true → ∀ x, At n a x → ∃ y, rep rs x = some y ∧ At n x y ∧ t.testBit y = true ∧ (game = 1 → rank y < rank a) := by
  unfold winB at h
  rw [if_pos rfl, Bool.and_eq_true] at h
  obtain ⟨hI, hP, h2⟩ := vis_ok hok rs game (N + 1) root (s00 N) hr (s00_ok rs game) (s00_nth N root) h.1
  have hfree := h.2
  generalize (vis n rs game (N + 1) root (s00 N)).2 = s at *
  obtain ⟨rank, T, hc⟩ := hI.cl
  have htwo : ∀ i, s.reached.testBit i = true → nth s.st i = 2 := fun i hi => by
    have h1 := (hI.re i).1 hi
    have h3 := hI.le i
    have h4 : nth s.st i ≠ 1 := fun e => by
      have := (hP.one i).1 e
      rw [s00_nth] at this; omega
    omega
  refine ⟨s.reached, rank, ?_, (hI.re root).2 (by omega), fun hg => ?_, fun a ha x hx => ?_⟩
  · apply Nat.lt_pow_two_of_testBit
    intro i hi
    rw [bool_false_iff, hI.re]
    intro hne
    apply hne
    unfold nth
    rw [List.getD_eq_getElem?_getD, List.getElem?_eq_none (by rw [hI.len]; exact hi)]; rfl
  · rcases Bool.or_eq_true _ _ ▸ hfree with hf | hf
    · exact absurd (by simpa using hf) hg
    · exact hf
  · obtain ⟨y, hy1, hy2, hy3, hy4⟩ := (hc a (htwo a ha)).2 x hx
    exact ⟨y, hy1, hy2, (hI.re y).2 hy3, fun hg => (hy4 hg).2⟩

def RCl (n : NetD) (rs : List Rp) (r a : Nat) : Prop := ∃ x, rep rs a = some x ∧ At n a x ∧ ∀ y, At n x y → r.testBit y = true
theorem RCl.mono {n : NetD} {rs : List Rp} {r r' a : Nat} (h : RCl n rs r a) (hs : ∀ i, r.testBit i = true → r'.testBit i = true) : RCl n rs r' a := by
  obtain ⟨x, h1, h2, h3⟩ := h
  exact ⟨x, h1, h2, fun y hy => hs y (h3 y hy)⟩
theorem rStep_ok {n : NetD} {rs : List Rp} (rec : Nat → Nat → Bool × Nat)
    (hrec : ∀ y r, (rec y r).1 = true → (∀ i, r.testBit i = true → (rec y r).2.testBit i = true) ∧ (rec y r).2.testBit y = true ∧ ∀ a, (rec y r).2.testBit a = true → r.testBit a = true ∨ RCl n rs (rec y r).2 a) :
    ∀ (L : List Nat) (r : Nat), (rStep rec L r).1 = true → (∀ i, r.testBit i = true → (rStep rec L r).2.testBit i = true) ∧ (∀ y, y ∈ L → (rStep rec L r).2.testBit y = true) ∧ ∀ a, (rStep rec L r).2.testBit a = true → r.testBit a = true ∨ RCl n rs (rStep rec L r).2 a
  | [], r, _ => ⟨fun i h => h, fun y hy => (by cases hy), fun a h => .inl h⟩
  | y :: L, r, h => by
    rw [rStep] at h ⊢
    by_cases h1 : r.testBit y = true
    · rw [if_pos h1] at h ⊢
      obtain ⟨h2, h3, h4⟩ := rStep_ok rec hrec L r h
      refine ⟨h2, fun z hz => ?_, h4⟩
      rcases List.mem_cons.1 hz with rfl | hz
      · exact h2 _ h1
      · exact h3 z hz
    · rw [if_neg h1] at h ⊢
      by_cases h5 : (rec y r).1 = true
      · rw [if_pos h5] at h ⊢
        obtain ⟨h6, h7, h8⟩ := hrec y r h5
        obtain ⟨h2, h3, h4⟩ := rStep_ok rec hrec L _ h
        refine ⟨fun i hi => h2 i (h6 i hi), fun z hz => ?_, fun a ha => ?_⟩
        · rcases List.mem_cons.1 hz with rfl | hz
          · exact h2 _ h7
          · exact h3 z hz
        · rcases h4 a ha with ha | ha
          · rcases h8 a ha with ha | ha
            · exact .inl ha
            · exact .inr (ha.mono h2)
          · exact .inr ha
      · rw [if_neg h5] at h; exact absurd h h5
theorem rst_ok {N : Nat} {n : NetD} (hok : n.Ok N) (rs : List Rp) : ∀ (f node r : Nat), (rst n rs f node r).1 = true → (∀ i, r.testBit i = true → (rst n rs f node r).2.testBit i = true) ∧ (rst n rs f node r).2.testBit node = true ∧ ∀ a, (rst n rs f node r).2.testBit a = true → r.testBit a = true ∨ RCl n rs (rst n rs f node r).2 a
  | 0, node, r, h => by cases h
  | f + 1, node, r, h => by
    rw [rst] at h ⊢
    cases hr : rep rs node with
    | none => rw [hr] at h; cases h
    | some x =>
      rw [hr] at h
      simp only at h ⊢
      by_cases hb : (nth n.by_ node).testBit x = true
      · rw [if_pos hb] at h ⊢
        obtain ⟨h2, h3, h4⟩ := rStep_ok (rst n rs f) (fun y r h => rst_ok hok rs f y r h) _ _ h
        have hnode := h2 node ((or_bit _ _ _).2 (.inr rfl))
        refine ⟨fun i hi => h2 i ((or_bit _ _ _).2 (.inl hi)), hnode, fun a ha => ?_⟩
        have hcl : RCl n rs (rStep (rst n rs f) (bl (nth n.by_ x)) (r ||| 2 ^ node)).2 node := ⟨x, hr, hb, fun y hy => h3 y ((mem_bl _ _ (p64 hok.hN (hok.lb x))).2 hy)⟩
        rcases h4 a ha with ha | ha
        · rcases (or_bit _ _ _).1 ha with ha | rfl
          · exact .inl ha
          · exact .inr hcl
        · exact .inr ha
      · rw [if_neg hb] at h; cases h

/-- Lines that are good for a player who follows replies. -/
structure StratR (N : Nat) (n : NetD) (game par : Nat) (rs : List Rp) (Good : List Nat → Prop) : Prop where
  pl : ∀ l, Good l → PL N n game l
  other : ∀ l, Good l → l.length % 2 ≠ par → ∀ a, (legalM n game l).testBit a = true → Good (l ++ [a])
  mine : ∀ l, Good l → l.length % 2 = par → ∃ a, rep rs (lastN l) = some a ∧ (legalM n game l).testBit a = true ∧ Good (l ++ [a])
/-- Every accepted strategy, but the opponent's in the credulous game, has such lines. -/
theorem win_good {N : Nat} {n : NetD} (hok : n.Ok N) {game : Nat} (hg : game = 1 ∨ game = 2) {root : Nat} (hr : root < N) {who : Int} (hw : who = 1 ∨ who = 2) (hx : ¬(game = 2 ∧ who = 2)) {rs : List Rp} (h : winB N n game root who rs = true) :
    ∃ (par : Nat) (Good : List Nat → Prop), ((par = 0 ∧ who = 1) ∨ (par = 1 ∧ who = 2)) ∧ StratR N n game par rs Good ∧ Good [root] ∧ ¬(game = 2 ∧ At n root root) := by
  rcases hw with rfl | rfl
  · obtain ⟨t, rank, ht, htr, hf, hc⟩ := win_p hok hr h
    rcases hg with rfl | rfl
    · refine ⟨0, fun l => PL N n 1 l ∧ (l.length % 2 = 1 → t.testBit (lastN l) = true ∧ ∀ q, (pm true l).testBit q = true → rank (lastN l) ≤ rank q) ∧ (l.length % 2 = 0 → ∃ a, t.testBit a = true ∧ At n a (lastN l) ∧ ∀ q, (pm true l).testBit q = true → rank a ≤ rank q), .inl ⟨rfl, rfl⟩, ⟨fun l h => h.1, fun l h hp a ha => ?_, fun l h he => ?_⟩, ?_, by simp⟩
      · have ho : l.length % 2 = 1 := by omega
        refine ⟨h.1.snoc hok (.inl rfl) ha, fun he => by rw [odd_snoc] at he; omega, fun _ => ?_⟩
        obtain ⟨h1, h2⟩ := h.2.1 ho
        rw [lastN_snoc, pmT_odd ho]
        exact ⟨lastN l, h1, (lg1O n ho a).1 ha, h2⟩
      · obtain ⟨a, ha1, ha2, ha3⟩ := h.2.2 he
        obtain ⟨y, hy1, hy2, hy3, hy4⟩ := hc a ha1 _ ha2
        have hlt := hy4 rfl
        have hnew : (pm true l).testBit y = false := by
          rw [bool_false_iff]; intro hq
          have := ha3 y hq; omega
        have hlg := (lg1P hok h.1.lt he y).2 ⟨hy2, hnew⟩
        refine ⟨y, hy1, hlg, h.1.snoc hok (.inl rfl) hlg, fun _ => ⟨by rw [lastN_snoc]; exact hy3, fun q hq => ?_⟩, fun h => by rw [even_snoc] at h; omega⟩
        rw [lastN_snoc]
        rw [pmT_even he] at hq
        rcases (or_bit _ _ _).1 hq with hq | rfl
        · have := ha3 q hq; omega
        · exact Nat.le_refl _
      · exact ⟨PL.one hok hr (by simp), fun _ => ⟨htr, fun q hq => by rw [(pm_one root q).1 hq]; exact Nat.le_refl _⟩, fun h => by simp at h⟩
    · have hfr := (free_iff hok ht).1 (hf (by decide))
      refine ⟨0, fun l => PL N n 2 l ∧ (∀ q, (pm true l).testBit q = true → t.testBit q = true) ∧ (l.length % 2 = 0 → ∃ p, t.testBit p = true ∧ At n p (lastN l)), .inl ⟨rfl, rfl⟩, ⟨fun l h => h.1, fun l h hp a ha => ?_, fun l h he => ?_⟩, ?_, fun h => hfr root root htr htr h.2⟩
      · have ho : l.length % 2 = 1 := by omega
        obtain ⟨⟨p, h1, h2⟩, _⟩ := (lg2O hok h.1.lt ho a).1 ha
        refine ⟨h.1.snoc hok (.inr rfl) ha, fun q hq => ?_, fun _ => ⟨p, h.2.1 p h1, by rw [lastN_snoc]; exact h2⟩⟩
        rw [pmT_odd ho] at hq
        exact h.2.1 q hq
      · obtain ⟨p, hp1, hp2⟩ := h.2.2 he
        obtain ⟨z, hz0, hz2, hz1, _⟩ := hc p hp1 _ hp2
        have hlg := (lg2P hok he z).2 ⟨hz2, fun y hy => by
          have hyt : t.testBit y = true := by
            rcases hy with hy | rfl
            · exact h.2.1 y hy
            · exact hz1
          exact ⟨hfr z y hz1 hyt, hfr y z hyt hz1⟩⟩
        refine ⟨z, hz0, hlg, h.1.snoc hok (.inr rfl) hlg, fun q hq => ?_, fun h => by rw [even_snoc] at h; omega⟩
        rw [pmT_even he] at hq
        rcases (or_bit _ _ _).1 hq with hq | rfl
        · exact h.2.1 q hq
        · exact hz1
      · exact ⟨PL.one hok hr (fun h1 => hfr root root htr htr h1.2), fun q hq => by rw [(pm_one root q).1 hq]; exact htr, fun h => by simp at h⟩
  · have hg1 : game = 1 := by omega
    subst hg1
    unfold winB at h
    rw [if_neg (by decide), if_pos (by decide)] at h
    obtain ⟨_, h2, h3⟩ := rst_ok hok rs (N + 1) root 0 h
    generalize (rst n rs (N + 1) root 0).2 = r at *
    have hcl : ∀ a, r.testBit a = true → RCl n rs r a := fun a ha => by
      rcases h3 a ha with h4 | h4
      · simp at h4
      · exact h4
    refine ⟨1, fun l => PL N n 1 l ∧ (l.length % 2 = 1 → r.testBit (lastN l) = true) ∧ (l.length % 2 = 0 → ∀ y, At n (lastN l) y → r.testBit y = true), .inr ⟨rfl, rfl⟩, ⟨fun l h => h.1, fun l h hp a ha => ?_, fun l h ho => ?_⟩, ?_, by simp⟩
    · have he : l.length % 2 = 0 := by omega
      refine ⟨h.1.snoc hok (.inl rfl) ha, fun _ => ?_, fun h => by rw [even_snoc] at h; omega⟩
      rw [lastN_snoc]
      exact h.2.2 he a ((lg1P hok h.1.lt he a).1 ha).1
    · obtain ⟨x, hx1, hx2, hx3⟩ := hcl _ (h.2.1 ho)
      have hlg := (lg1O n ho x).2 hx2
      refine ⟨x, hx1, hlg, h.1.snoc hok (.inl rfl) hlg, fun h => by rw [odd_snoc] at h; omega, fun _ => ?_⟩
      rw [lastN_snoc]; exact hx3
    · exact ⟨PL.one hok hr (by simp), fun _ => h2, fun h => by simp at h⟩
end Go.Proofs.YtgboplcjafmliaaDoor.G

/- The contract of best, and what it computes. -/
namespace Go.Proofs.YtgboplcjafmliaaDoor.G
open Go.RowKit Go.Proofs.YtgboplcjafmliaaDoorW.PrintWords Go.Proofs.YtgboplcjafmliaaDoorW.PrintLast Go.Proofs.YtgboplcjafmliaaDoorW.PrintMore
open Go.Proofs.YtgboplcjafmliaaDoor.PAll
set_option linter.unusedVariables false
set_option linter.unusedSimpArgs false

theorem RdN.cells {w : World} {ad : Addr} {c : Nat} {l : List Nat} (h : RdN .i64 w (some ad) c l) : ∀ j u, (nums .i64 (up l))[j]? = some u → w.cell? (ad.add j) = some u := by
  intro j u hu
  have hj : j < l.length := by
    rcases Nat.lt_or_ge j l.length with h1 | h1
    · exact h1
    · rw [List.getElem?_eq_none (by simpa [nums, up] using h1)] at hu; cases hu
  obtain ⟨ad', e, hc⟩ := h.cell j hj
  injection e with e
  subst e
  rw [hc]
  simp [nums, up, List.getElem?_eq_getElem hj] at hu
  subst hu
  rw [nth_get l j hj]
section
variable {P : Program} {ops : Array Oper} {o : Oper} {a : Act} {Q : Exit → Act → World → Prop} {K : Act → World → Prop}
/-- append of a row of nodes to a row of the call's own, as a step of a region that draws its order. -/
theorem step_row {W : World} (base : Nat) (hw : Region.wanted o (yielded ops a.tmps) = true) (t : TypeId) (s x : Operand)
    (ho : o.op = .call { callee := .builtin .append, args := #[s, x], argTypes := #[t, t] })
    (ht : P.underlying t = some (.slice 3)) (hinfo : (P.info? 3).map (fun i => (i.zero, i.size, i.bytes)) = some (some (.int .i64 0), 1, 8))
    (v : Value) (xs ys : List Nat) (ad : Addr) (c : Nat) (hs : a.eval s = v) (hx : a.eval x = .slice (some ad) ys.length c)
    (HO : OwnI W base v xs) (HR : RdN .i64 W (some ad) c ys) (hb : base ≤ W.heap.size) (hl : xs.length + ys.length < 1000000)
    (h : ∀ v1 w1, OwnI w1 base v1 (xs ++ ys) → W.grownBy w1 v.ownBlock → (v1.ownBlock = v.ownBlock ∨ ∃ b, v1.ownBlock = some b ∧ W.heap.size ≤ b) → K (a.put o.dst v1) w1) :
    if Region.wanted o (yielded ops a.tmps) = true then Oper.wp P o a W K Q else K (a.put o.dst undef) W := by
  obtain ⟨i0, hi, hzz⟩ := Option.map_eq_some_iff.1 hinfo
  simp only [Prod.mk.injEq] at hzz
  obtain ⟨hz0, hz1, hz2⟩ := hzz
  obtain ⟨v1, w1, hr, h2, h3, _, h5⟩ := run_append_own_at (P := P) W base t o.type 3 i0 (.int .i64 0) 1 8 ht hi hz0 hz1 hz2 rfl (by omega) v xs.length (nums .i64 (up xs)) HO ad ys.length c (nums .i64 (up ys)) (by simp [nums, up]) HR.cells
    (by intro u hu; simp only [nums, List.mem_map] at hu; obtain ⟨q, _, rfl⟩ := hu; rfl) (by simp only [maxLen]; omega) (by omega) hb
  rw [if_pos hw]
  unfold Oper.wp execOp
  simp only [ho, resolve, invoke, builtin, Sem.run_bind, Sem.run_pure, Result.andThen_ok, List.map_toArray, List.map_cons, List.map_nil, hs, hx, hr]
  refine h v1 w1 ?_ h3 ?_
  · unfold OwnI
    rw [show (xs ++ ys).length = xs.length + ys.length by simp, show nums .i64 (up (xs ++ ys)) = nums .i64 (up xs) ++ nums .i64 (up ys) by simp [up, nums]]
    exact h2
  · rcases h5 with h5 | h5
    · exact .inl h5
    · exact .inr ⟨_, h5, Nat.le_refl _⟩
end
/-- The moves that Moves hands back. -/
def mvs (N : Int) (l : List S54) (k : Int) (line : List Nat) : List Nat := if argE N l k (up line) = 0 then bl (movS N l k (up line)) else []
def bLoop (rec : List Nat → Int → Int × Int) (mover other : Int) (line : List Nat) : List Nat → Int → Int × Int
  | [], left => (other, left)
  | a :: L, left => if 60 < line.length then (0, left) else if (rec (line ++ [a]) left).1 = mover then (mover, (rec (line ++ [a]) left).2) else bLoop rec mover other line L (rec (line ++ [a]) left).2
def moverOf (line : List Nat) : Int := if line.length % 2 = 0 then 1 else 2
def otherOf (line : List Nat) : Int := if line.length % 2 = 0 then 2 else 1
/-- What best computes, with a bound on the depth: the winner (0: unknown) and what is left. -/
def bst (N : Int) (l : List S54) (k : Int) : Nat → List Nat → Int → Int × Int
  | 0, _, left => (0, left - 1)
  | f + 1, line, left => if left - 1 ≤ 0 then (0, left - 1) else bLoop (bst N l k f) (moverOf line) (otherOf line) line (mvs N l k line) (left - 1)
theorem bst_low (N : Int) (l : List S54) (k : Int) (f : Nat) (line : List Nat) (left : Int) (h : left ≤ 0) : bst N l k f line left = (0, left - 1) := by
  cases f with
  | zero => rfl
  | succ f => rw [bst, if_pos (by omega)]
theorem mvs_mem {M : Nat} (hM : M ≤ 40) {l : List S54} {k : Int} {line : List Nat} {x : Nat} (h : x ∈ mvs M l k line) : x < M := by
  unfold mvs at h
  split at h
  · rename_i he
    obtain ⟨M', hM', hM2, hIn, hg, hln, _⟩ := argE_ok he
    have : M' = M := by omega
    subst this
    have hlt : movS M' l k (up line) < 2 ^ M' := by
      unfold movS
      rw [Int.toNat_natCast]
      refine legal_lt (netOf_ok hM hIn) _ _ (fun y hy => ?_)
      obtain ⟨z, hz, rfl⟩ := List.mem_map.1 hy
      have := hln z hz; omega
    exact bl_in hM hlt h
  · cases h
theorem mvs_len {M : Nat} (hM : M ≤ 40) (l : List S54) (k : Int) (line : List Nat) : (mvs M l k line).length ≤ 40 := by
  refine Nat.le_trans (nodup_le M _ ?_ (fun a ha => mvs_mem hM ha)) hM
  unfold mvs
  split
  · exact (bl_sorted _).imp (fun h => Nat.ne_of_lt h)
  · exact List.nodup_nil
theorem bLoop_lb (rec : List Nat → Int → Int × Int) (mover other : Int) (line : List Nat) (B : Int) (hB : 0 ≤ B) (hrec : ∀ a left, (left ≤ 0 → (rec (line ++ [a]) left).2 = left - 1) ∧ (0 < left → -B ≤ (rec (line ++ [a]) left).2)) :
    ∀ (L : List Nat) (left : Int), (if left ≤ 0 then left else -B) - L.length ≤ (bLoop rec mover other line L left).2
  | [], left => by simp [bLoop]; split <;> omega
  | a :: L, left => by
    rw [bLoop]
    have h1 := hrec a left
    have ih := bLoop_lb rec mover other line B hB hrec L (rec (line ++ [a]) left).2
    rw [List.length_cons]
    by_cases h60 : 60 < line.length
    · rw [if_pos h60]
      show (if left ≤ 0 then left else -B) - ((L.length + 1 : Nat) : Int) ≤ left
      split <;> omega
    · rw [if_neg h60]
      by_cases hm : (rec (line ++ [a]) left).1 = mover
      · rw [if_pos hm]
        show (if left ≤ 0 then left else -B) - ((L.length + 1 : Nat) : Int) ≤ (rec (line ++ [a]) left).2
        by_cases hl : left ≤ 0
        · rw [if_pos hl, h1.1 hl]; omega
        · rw [if_neg hl]; have := h1.2 (by omega); omega
      · rw [if_neg hm]
        by_cases hl : left ≤ 0
        · rw [if_pos hl]
          rw [if_pos (by rw [h1.1 hl]; omega), h1.1 hl] at ih
          rw [h1.1 hl]
          omega
        · rw [if_neg hl]
          have h2 := h1.2 (by omega)
          split at ih <;> omega
theorem bst_lb {M : Nat} (hM : M ≤ 40) (l : List S54) (k : Int) : ∀ (f : Nat) (line : List Nat) (left : Int), 0 < left → line.length ≤ 61 → -(40 * (61 - (line.length : Int))) ≤ (bst M l k f line left).2
  | 0, line, left, h, hl => by show _ ≤ left - 1; omega
  | f + 1, line, left, h, hl => by
    rw [bst]
    split
    · show _ ≤ left - 1; omega
    · rename_i hle
      by_cases h60 : 60 < line.length
      · cases hL : mvs M l k line with
        | nil => show _ ≤ left - 1; omega
        | cons a L => rw [bLoop, if_pos h60]; show _ ≤ left - 1; omega
      · have h1 := bLoop_lb (bst M l k f) (moverOf line) (otherOf line) line (40 * (60 - (line.length : Int))) (by omega) (fun a left => ⟨fun h => by rw [bst_low _ _ _ _ _ _ h], fun h => by
          have := bst_lb hM l k f (line ++ [a]) left h (by simp; omega)
          simp only [List.length_append, List.length_cons, List.length_nil] at this
          omega⟩) (mvs M l k line) (left - 1)
        rw [if_neg hle] at h1
        have h2 := mvs_len hM l k line
        omega
theorem bLoop_ub (rec : List Nat → Int → Int × Int) (mover other : Int) (line : List Nat) (hrec : ∀ a left, (rec (line ++ [a]) left).2 ≤ left - 1) :
    ∀ (L : List Nat) (left : Int), (bLoop rec mover other line L left).2 ≤ left
  | [], left => Int.le_refl _
  | a :: L, left => by
    rw [bLoop]
    have h1 := hrec a left
    have ih := bLoop_ub rec mover other line hrec L (rec (line ++ [a]) left).2
    by_cases h60 : 60 < line.length
    · rw [if_pos h60]; exact Int.le_refl _
    · rw [if_neg h60]
      by_cases hm : (rec (line ++ [a]) left).1 = mover
      · rw [if_pos hm]; show (rec (line ++ [a]) left).2 ≤ left; omega
      · rw [if_neg hm]; omega
theorem bst_ub (N : Int) (l : List S54) (k : Int) : ∀ (f : Nat) (line : List Nat) (left : Int), (bst N l k f line left).2 ≤ left - 1
  | 0, line, left => Int.le_refl _
  | f + 1, line, left => by
    rw [bst]
    split
    · exact Int.le_refl _
    · exact bLoop_ub _ _ _ _ (fun a left => bst_ub N l k f _ left) _ _
end Go.Proofs.YtgboplcjafmliaaDoor.G

/- The source of choices, in plain terms. -/
namespace Go.Proofs.YtgboplcjafmliaaDoor.G
open Go.RowKit Go.Proofs.YtgboplcjafmliaaDoorW.PrintWords Go.Proofs.YtgboplcjafmliaaDoorW.PrintLast Go.Proofs.YtgboplcjafmliaaDoorW.PrintMore
open Go.Proofs.YtgboplcjafmliaaDoor.PAll
set_option linter.unusedVariables false
set_option linter.unusedSimpArgs false

/-- A source at block g: its numbers came in by w0. -/
def SrcS (w0 : World) (g : Nat) (L : List Int) (W : World) : Prop := ∃ a : Int, IsS57 w0 W g L a ∧ 0 ≤ a ∧ a ≤ L.length ∧ L.length ≤ 2000
theorem raw_some {L : List Int} {a : Int} (h0 : 0 ≤ a) (h1 : a ≤ L.length) (h2 : L.length ≤ 2000) : ∃ r b, deliberationkeep_Src_Raw.f L a = some (r, b) ∧ 0 ≤ b ∧ b ≤ L.length := by
  unfold deliberationkeep_Src_Raw.f
  by_cases h : a ≥ (L.length : Int)
  · rw [if_pos h]; exact ⟨_, _, rfl, h0, h1⟩
  · have e1 : wrap64 (a + 1) = a + 1 := by unfold wrap64; omega
    have e2 : wrap64 (a + 1 - 1) = a := by unfold wrap64; omega
    rw [if_neg h, e1, e2, if_pos h0, if_pos (by omega)]
    exact ⟨_, _, rfl, by omega, by omega⟩
theorem mod_some (x k : Int) (h1 : 1 ≤ k) (h2 : k < 2 ^ 40) : ∃ r, deliberationkeep_Mod.f x k = some r ∧ 0 ≤ r ∧ r < k := by
  unfold deliberationkeep_Mod.f
  have h3 := Int.tmod_lt_of_pos x (b := k) (by omega)
  have h4 : -k < Int.tmod x k := by
    have := Int.lt_tmod_of_pos x (b := k) (by omega)
    omega
  rw [if_neg (by omega), if_neg (by omega)]
  by_cases h : Int.tmod x k < 0
  · have e : wrap64 (Int.tmod x k + k) = Int.tmod x k + k := by unfold wrap64; omega
    rw [if_pos h, e]; exact ⟨_, rfl, by omega, by omega⟩
  · rw [if_neg h]; exact ⟨_, rfl, by omega, by omega⟩
theorem n_some {L : List Int} {a : Int} (h0 : 0 ≤ a) (h1 : a ≤ L.length) (h2 : L.length ≤ 2000) (k : Int) (hk : 1 ≤ k) (hk2 : k < 2 ^ 40) : ∃ r b, deliberationkeep_Src_N.f L a k = some (r, b) ∧ 0 ≤ r ∧ r < k ∧ 0 ≤ b ∧ b ≤ L.length := by
  obtain ⟨r, b, e, hb0, hb1⟩ := raw_some h0 h1 h2
  obtain ⟨r', e', hr0, hr1⟩ := mod_some r k hk hk2
  refine ⟨r', b, ?_, hr0, hr1, hb0, hb1⟩
  unfold deliberationkeep_Src_N.f
  rw [e]
  simp [e']
theorem srcN_any (w0 : World) (g : Nat) (L : List Int) (k : Int) (hk : 1 ≤ k) (hk2 : k < 2 ^ 40) (w : World) (hs : SrcS w0 g L w) (hB : Below w0.heap.size w0 w) :
    Calls Tryd.prog 18 #[.pointer (some ⟨g, 0, none⟩), .int .i64 k] w fun e w' => ∃ r : Int, e = .returned (.int .i64 r) ∧ 0 ≤ r ∧ r < k ∧ Aside0 (SrcS w0 g L w') ∧ Aside0 (Below w0.heap.size w0 w') ∧ Aside0 (KeepBut w w' g none) := by
  obtain ⟨a, hI, h0, h1, h2⟩ := hs
  obtain ⟨r, b, e, hr0, hr1, hb0, hb1⟩ := n_some h0 h1 h2 k hk hk2
  exact (deliberationkeep_Src_N.calls g L a k r b w0 w hI hB e).mono fun e' w' ⟨h, hI', hB', hK⟩ => ⟨r, h, hr0, hr1, ⟨b, hI', hb0, hb1, h2⟩, ⟨hB'⟩, ⟨hK⟩⟩
theorem srcR_any (w0 : World) (g : Nat) (L : List Int) (lo hi : Int) (h1 : 0 ≤ lo) (h2 : lo ≤ hi) (h3 : hi < 1000) (w : World) (hs : SrcS w0 g L w) (hB : Below w0.heap.size w0 w) :
    Calls Tryd.prog 17 #[.pointer (some ⟨g, 0, none⟩), .int .i64 lo, .int .i64 hi] w fun e w' => ∃ r : Int, e = .returned (.int .i64 r) ∧ lo ≤ r ∧ r ≤ hi ∧ Aside0 (SrcS w0 g L w') ∧ Aside0 (Below w0.heap.size w0 w') ∧ Aside0 (KeepBut w w' g none) := by
  obtain ⟨a, hI, k0, k1, k2⟩ := hs
  have e1 : wrap64 (hi - lo) = hi - lo := by unfold wrap64; omega
  have e2 : wrap64 (hi - lo + 1) = hi - lo + 1 := by unfold wrap64; omega
  obtain ⟨r, b, e, hr0, hr1, hb0, hb1⟩ := n_some k0 k1 k2 (hi - lo + 1) (by omega) (by omega)
  have e3 : wrap64 (lo + r) = lo + r := by unfold wrap64; omega
  have h : deliberationkeep_Src_Range.f L a lo hi = some (lo + r, b) := by
    unfold deliberationkeep_Src_Range.f
    rw [e1, e2, e]
    simp [e3]
  exact (deliberationkeep_Src_Range.calls g L a lo hi (lo + r) b w0 w hI hB h).mono fun e' w' ⟨h, hI', hB', hK⟩ => ⟨lo + r, h, by omega, by omega, ⟨b, hI', hb0, hb1, k2⟩, ⟨hB'⟩, ⟨hK⟩⟩
theorem srcNew_any (L : List Int) (A : Option Addr) (c : Nat) (w0 : World) (hr : Kd.C (Kd.int .i64) w0 A L.length L) (hc : L.length ≤ c) (w : World) (hB : Below w0.heap.size w0 w) :
    Calls Tryd.prog 8 #[.slice A L.length c] w fun e w' => ∃ (g : Nat) (L' : List Int), e = .returned (.pointer (some ⟨g, 0, none⟩)) ∧ Aside0 (SrcS w0 g L' w') ∧ Aside0 (Below w0.heap.size w0 w') ∧ Aside0 (Below w.heap.size w w') := by
  obtain ⟨r1, h, hl⟩ : ∃ r1, deliberationkeep_New.f L = some (r1, 0) ∧ r1.length ≤ 2000 := by
    unfold deliberationkeep_New.f
    have h0 : 0 ≤ mn (L.length : Int) 2000 := by unfold mn; split <;> omega
    have h1 : mn (L.length : Int) 2000 ≤ (L.length : Int) := by unfold mn; split <;> omega
    have h2 : mn (L.length : Int) 2000 ≤ 2000 := by unfold mn; split <;> omega
    rw [if_pos h0, if_pos h1]
    exact ⟨_, rfl, by rw [List.length_take]; omega⟩
  exact (deliberationkeep_New.calls A c L r1 0 w0 w hB hr hc h).mono fun e w' ⟨g, h1, h2, h3, h4⟩ => ⟨g, r1, h1, ⟨0, h2, by omega, by omega, hl⟩, ⟨h3⟩, ⟨h4⟩⟩
end Go.Proofs.YtgboplcjafmliaaDoor.G

/- The contract of deliberationnet.Graph: a graph in order. -/
namespace Go.Proofs.YtgboplcjafmliaaDoor.G
open Go.RowKit Go.Proofs.YtgboplcjafmliaaDoorW.PrintWords Go.Proofs.YtgboplcjafmliaaDoorW.PrintLast Go.Proofs.YtgboplcjafmliaaDoorW.PrintMore
open Go.Proofs.YtgboplcjafmliaaDoor.PAll
set_option linter.unusedVariables false
set_option linter.unusedSimpArgs false

def encP (p : S54) : List Value := [.int .i64 p.f0, .int .i64 p.f1]
theorem grown_setG (w : World) (a : Addr) (u : Value) : w.grownBy (w.setCell a u) (some a.block) :=
  ⟨rfl, rfl, rfl, by simp, fun k _ hk => heap_setCell_other w a k u (fun e => hk (by rw [e]))⟩
/-- A row of pairs of the call's own. -/
def OwnP (w : World) (base : Nat) (v : Value) (l : List S54) : Prop := w.ownsRow base 54 2 v l.length (l.flatMap encP)
theorem flatP_get : ∀ (l : List S54) (t : Nat), t < l.length * 2 → (l.flatMap encP)[t]? = some ((encP (nthP l (t / 2)))[t % 2]!)
  | [], t, h => by simp at h
  | p :: l, 0, _ => by simp [encP, nthP]
  | p :: l, 1, _ => by simp [encP, nthP]
  | p :: l, t + 2, h => by
    have ih := flatP_get l t (by simp at h; omega)
    rw [List.flatMap_cons, List.getElem?_append_right (by simp [encP])]
    rw [show t + 2 - (encP p).length = t by simp [encP], ih, show (t + 2) / 2 = t / 2 + 1 by omega, show (t + 2) % 2 = t % 2 by omega]
    simp [nthP]
theorem OwnP.reads {w : World} {base : Nat} {v : Value} {l : List S54} (h : OwnP w base v l) : ∃ A c, v = .slice A l.length c ∧ RdP w A c l := by
  rcases h.2 with ⟨rfl, h0⟩ | ⟨g, cap, cur, rfl, hg, hb, hcap, hmax, hcur, htake⟩
  · exact ⟨none, 0, by rw [h0], by omega, rfl, by omega, fun hp => by omega⟩
  · refine ⟨_, cap, rfl, hcap, rfl, by have := hmax; unfold maxLen at this; omega, fun hp => ⟨_, rfl, fun j p hj => ?_⟩⟩
    obtain ⟨hjl, hq⟩ := List.getElem?_eq_some_iff.1 hj
    refine ⟨_, rfl, k54_mk w p, fun i u hu => ?_⟩
    have hi : i < 2 := by
      obtain ⟨h1, _⟩ := List.getElem?_eq_some_iff.1 hu
      simpa using h1
    have hlt : j * 2 + i < l.length * 2 := by omega
    have h1 : (cur.toList.take (l.length * 2))[j * 2 + i]? = (l.flatMap encP)[j * 2 + i]? := by rw [htake]
    rw [List.getElem?_take_of_lt hlt, Array.getElem?_toList, flatP_get _ _ hlt] at h1
    show w.cell? ((⟨g, 0, none⟩ : Addr).add (j * 2 + i)) = some u
    rw [add_plain, blk_cell hb, h1, show (j * 2 + i) / 2 = j by omega, show (j * 2 + i) % 2 = i by omega]
    rw [nthP, List.getD_eq_getElem?_getD, hj]
    rcases (by omega : i = 0 ∨ i = 1) with rfl | rfl
    · simpa [encP] using hu
    · simpa [encP] using hu
section
variable {P : Program} {ops : Array Oper} {Q : Exit → Act → World → Prop} {a : Act} {rest : List Oper} {o : Oper}
theorem app_pair {w0 W : World} (base : Nat) (t : TypeId) (s x : Operand) (hgd : o.guard = none)
    (ho : o.op = .call { callee := .builtin .append, args := #[s, x], argTypes := #[t, t] })
    (ht : P.underlying t = some (.slice 54)) (hinfo : (P.info? 54).map (fun i => (i.zero, i.size, i.bytes)) = some (some (.agg #[.int .i64 0, .int .i64 0]), 2, 16))
    (v : Value) (xs : List S54) (p q : Int) (hs : a.eval s = v) (hx : a.eval x = .slice (some ⟨W.heap.size, 0, none⟩) 1 1)
    (HO : OwnP W base v xs) (HB : Below w0.heap.size w0 W) (hb0 : w0.heap.size ≤ base) (hb1 : base ≤ W.heap.size) (hl : xs.length < 1000000)
    (h : ∀ v1 w1, OwnP w1 base v1 (xs ++ [⟨p, q⟩]) → W.grownBy w1 v.ownBlock → Below w0.heap.size w0 w1 → wpList P ops Q rest (a.put o.dst v1) w1) :
    wpList P ops Q (o :: rest) a (W.alloc (.cells #[.int .i64 p, .int .i64 q] 54)) :=
  print_append_cells (w0 := W) base hgd s x t 54 (.agg #[.int .i64 0, .int .i64 0]) 2 16 ho ht hinfo rfl (by decide) (by decide) v xs.length (xs.flatMap encP) (encP ⟨p, q⟩) hs hx rfl (by simp [encP, Value.oneCell']) HO (Below.refl _ _) hb1 (by omega)
    fun v1 w1 h1 _ h3 _ => h v1 w1 (by
      unfold OwnP
      rw [show (xs ++ [(⟨p, q⟩ : S54)]).length = xs.length + 1 by simp, show (xs ++ [(⟨p, q⟩ : S54)]).flatMap encP = xs.flatMap encP ++ encP ⟨p, q⟩ by simp]
      exact h1) h3 (HB.grown h3 HB.size (fun k hk => Nat.le_trans hb0 (own_base HO k hk)))
end
/-- Pairs in order. -/
def plt (p q : S54) : Prop := p.f0 < q.f0 ∨ (p.f0 = q.f0 ∧ p.f1 < q.f1)
theorem cmp_plt {p q : S54} (h : plt p q) : cmpQ (some p) q = false := by
  show decide (0 ≤ cmpP p q) = false
  unfold cmpP
  rcases h with h | ⟨h1, h2⟩
  · rw [if_pos h]; decide
  · rw [if_neg (by omega), if_neg (by omega), if_pos h2]; decide
theorem valL_zero (N : Int) : ∀ (q : Option S54) (l : List S54), (∀ p, p ∈ l → 0 ≤ p.f0 ∧ p.f0 < N ∧ 0 ≤ p.f1 ∧ p.f1 < N) → l.Pairwise plt → (∀ r, q = some r → ∀ p, p ∈ l → plt r p) → valL N q l = 0
  | q, [], _, _, _ => by rw [valL]
  | q, p :: l, hr, hp, hq => by
    obtain ⟨h1, h2, h3, h4⟩ := hr p List.mem_cons_self
    rw [valL_cons, if_neg (by omega)]
    have hc : cmpQ q p = false := by
      cases q with
      | none => rfl
      | some r => exact cmp_plt (hq r rfl p List.mem_cons_self)
    rw [if_neg (by rw [hc]; simp)]
    rw [List.pairwise_cons] at hp
    exact valL_zero N (some p) l (fun x hx => hr x (List.mem_cons_of_mem _ hx)) hp.2 (fun r h x hx => by cases h; exact hp.1 x hx)
/-- What the loops of Graph keep: the source, the row of pairs, the variables. -/
structure GS (w0 w : World) (g : Nat) (L : List Int) (M : Nat) (g4 g5 : Nat) (A : Option Addr) (n c : Nat) (l : List S54) (x : World) : Prop where
  src : SrcS w0 g L x
  b0 : Below w0.heap.size w0 x
  kb : KeepBut w x g none
  k5 : x.heap[g5]? = some (.cells #[.int .i64 (M : Int), .slice A n c] 24 (0, 0))
  k4 : x.heap[g4]? = some (.cells #[.int .i64 0, .slice none 0 0] 24 (0, 0))
  n45 : g4 ≠ g5
  l4 : w.heap.size ≤ g4
  l5 : w.heap.size ≤ g5
  own : OwnP x w.heap.size (.slice A n c) l
theorem SrcS.ne {w0 : World} {g : Nat} {L : List Int} {x : World} (h : SrcS w0 g L x) {k : Nat} {cs : Array Value} {t : TypeId} (hk : x.heap[k]? = some (.cells cs t (0, 0))) (ht : t ≠ 57) : k ≠ g := by
  obtain ⟨a, ⟨A, c, hb, _⟩, _⟩ := h
  exact blk_ne hk hb ht
theorem SrcS.nx {w0 : World} {g : Nat} {L : List Int} {w w1 : World} (h : SrcS w0 g L w) (hb : Below w.heap.size w w1) : SrcS w0 g L w1 := by
  obtain ⟨a, hI, h1⟩ := h
  exact ⟨a, hI.below hb, h1⟩
theorem GS.call {w0 w : World} {g : Nat} {L : List Int} {M g4 g5 : Nat} {A : Option Addr} {n c : Nat} {l : List S54} {x y : World} (h : GS w0 w g L M g4 g5 A n c l x) (hs : SrcS w0 g L y) (hb : Below w0.heap.size w0 y) (hk : KeepBut x y g none) : GS w0 w g L M g4 g5 A n c l y where
  src := hs
  b0 := hb
  kb := h.kb.trans hk (.inl rfl)
  k5 := hk.blk h.k5 (h.src.ne h.k5 (by decide)) (by simp)
  k4 := hk.blk h.k4 (h.src.ne h.k4 (by decide)) (by simp)
  n45 := h.n45
  l4 := h.l4
  l5 := h.l5
  own := hk.own h.own (fun e => by
    obtain ⟨a, ⟨A', c', hbk, _⟩, _⟩ := h.src
    exact own_ne h.own hbk (by decide) e.symm) (by cases (Value.slice A n c).ownBlock <;> simp)
/-- Behind an append and the store of its slice. -/
theorem GS.app {w0 w : World} {g : Nat} {L : List Int} {M g4 g5 : Nat} {A A' : Option Addr} {n c n' c' : Nat} {l l' : List S54} {x y : World} (h : GS w0 w g L M g4 g5 A n c l x) (ho : OwnP y w.heap.size (.slice A' n' c') l') (hg : x.grownBy y (Value.slice A n c).ownBlock) (hb : Below w0.heap.size w0 y) (hw : w0.heap.size ≤ w.heap.size) : GS w0 w g L M g4 g5 A' n' c' l' (y.setCell ⟨g5, 1, none⟩ (.slice A' n' c')) := by
  have e5 := blk_grown h.k5 hg (own_ne h.own h.k5 (by decide))
  have e4 := blk_grown h.k4 hg (own_ne h.own h.k4 (by decide))
  have hsrc : SrcS w0 g L y := by
    obtain ⟨a, hI, h1⟩ := h.src
    obtain ⟨A1, c1, hbk, h2, h3⟩ := hI
    exact ⟨a, ⟨A1, c1, blk_grown hbk hg (own_ne h.own hbk (by decide)), h2, h3⟩, h1⟩
  have hne := hsrc.ne e5 (by decide)
  refine ⟨?_, hb.setCell (p := ⟨g5, 1, none⟩) (Nat.le_trans hw h.l5) _, ?_, ?_, ?_, h.n45, h.l4, h.l5, ?_⟩
  · obtain ⟨a, hI, h1⟩ := hsrc
    exact ⟨a, hI.far (p := ⟨g5, 1, none⟩) (Ne.symm hne) _, h1⟩
  · have hk := h.kb.trans (KeepBut.of_grown hg g) (by
      cases hv : (Value.slice A n c).ownBlock with
      | none => exact .inl rfl
      | some k => exact .inr ⟨k, rfl, own_base h.own k hv⟩)
    exact keep_far hk (p := ⟨g5, 1, none⟩) h.l5 _
  · rw [heap_setCell_same y g5 1 _ 24 _ e5]; rfl
  · rw [heap_setCell_other y _ g4 _ h.n45]; exact e4
  · exact own_other ho (grown_setG y ⟨g5, 1, none⟩ _) (.inr (Ne.symm (own_ne ho e5 (by decide))))

theorem GS.fin {w0 w : World} {g : Nat} {L : List Int} {M g4 g5 : Nat} {A : Option Addr} {n c : Nat} {l : List S54} {x : World} (h : GS w0 w g L M g4 g5 A n c l x) (hw : w0.heap.size ≤ w.heap.size) (u v : Value) :
    ((x.setCell ⟨g4, 0, none⟩ u).setCell ⟨g4, 1, none⟩ v).heap[g4]? = some (.cells #[u, v] 24 (0, 0)) ∧ OwnP ((x.setCell ⟨g4, 0, none⟩ u).setCell ⟨g4, 1, none⟩ v) w.heap.size (.slice A n c) l ∧ SrcS w0 g L ((x.setCell ⟨g4, 0, none⟩ u).setCell ⟨g4, 1, none⟩ v) ∧ Below w0.heap.size w0 ((x.setCell ⟨g4, 0, none⟩ u).setCell ⟨g4, 1, none⟩ v) ∧ KeepBut w ((x.setCell ⟨g4, 0, none⟩ u).setCell ⟨g4, 1, none⟩ v) g none := by
  have e1 := heap_setCell_same x g4 0 _ 24 u h.k4
  have e2 := heap_setCell_same _ g4 1 _ 24 v e1
  have hne := h.src.ne h.k4 (by decide)
  refine ⟨e2, ?_, ?_, (h.b0.setCell (p := ⟨g4, 0, none⟩) (Nat.le_trans hw h.l4) _).setCell (p := ⟨g4, 1, none⟩) (Nat.le_trans hw h.l4) _, keep_far (keep_far h.kb (p := ⟨g4, 0, none⟩) h.l4 _) (p := ⟨g4, 1, none⟩) h.l4 _⟩
  · have o1 : OwnP (x.setCell ⟨g4, 0, none⟩ u) w.heap.size (.slice A n c) l := own_other h.own (grown_setG x ⟨g4, 0, none⟩ u) (.inr (Ne.symm (own_ne h.own h.k4 (by decide))))
    exact own_other o1 (grown_setG _ ⟨g4, 1, none⟩ v) (.inr (Ne.symm (own_ne o1 e1 (by decide))))
  · obtain ⟨a, hI, h1⟩ := h.src
    exact ⟨a, (hI.far (p := ⟨g4, 0, none⟩) (Ne.symm hne) _).far (p := ⟨g4, 1, none⟩) (Ne.symm hne) _, h1⟩
/-- Pairs ahead of a place. -/
def before (a b : Nat) (l : List S54) : Prop := ∀ p, p ∈ l → p.f0 < a ∨ (p.f0 = a ∧ p.f1 < b)
theorem HP_add {M a b : Nat} {l : List S54} (h : InR M l ∧ l.Pairwise plt ∧ before a b l ∧ l.length ≤ a * 40 + b) (ha : a < M) (hb : b < M) : InR M (l ++ [⟨(a : Int), (b : Int)⟩]) ∧ (l ++ [(⟨(a : Int), (b : Int)⟩ : S54)]).Pairwise plt ∧ before a (b + 1) (l ++ [⟨(a : Int), (b : Int)⟩]) ∧ (l ++ [(⟨(a : Int), (b : Int)⟩ : S54)]).length ≤ a * 40 + (b + 1) := by
  refine ⟨fun p hp => ?_, ?_, fun p hp => ?_, by have := h.2.2.2; simp; omega⟩
  · rcases List.mem_append.1 hp with hp | hp
    · exact h.1 p hp
    · rw [List.mem_singleton] at hp; subst hp; simp; omega
  · rw [List.pairwise_append]
    refine ⟨h.2.1, by simp, fun p hp q hq => ?_⟩
    rw [List.mem_singleton] at hq
    subst hq
    have := h.2.2.1 p hp
    unfold plt
    simp
    omega
  · rcases List.mem_append.1 hp with hp | hp
    · have := h.2.2.1 p hp; omega
    · rw [List.mem_singleton] at hp; subst hp; simp; omega
set_option maxHeartbeats 8000000 in
set_option maxRecDepth 100000 in
theorem gen_any (w0 : World) (g : Nat) (L : List Int) (n : Nat) (hn1 : 1 ≤ n) (hn : n ≤ 40) (w : World) (hs : SrcS w0 g L w) (hB : Below w0.heap.size w0 w) (hw : w0.heap.size ≤ w.heap.size) :
    Calls Tryd.prog 9 #[.pointer (some ⟨g, 0, none⟩), .int .i64 (n : Int)] w fun e w' => ∃ (M : Nat) (A : Option Addr) (c : Nat) (l : List S54), e = .returned (.agg #[.int .i64 (M : Int), .slice A l.length c]) ∧ 1 ≤ M ∧ M ≤ n ∧ InR M l ∧ valE M l = 0 ∧ l.length ≤ 1600 ∧ Aside0 (OwnP w' w.heap.size (.slice A l.length c) l) ∧ Aside0 (SrcS w0 g L w') ∧ Aside0 (Below w0.heap.size w0 w') ∧ Aside0 (KeepBut w w' g none) := by
  have HS := Aside0.mk hs
  have HB := Aside0.mk hB
  clear hs hB
  go_enter Tryd.func9, Tryd.ntmps9
  go_upto_region 1 with (first | ((with_reducible refine gate_dst (N := 4) rfl ?_); refine box_mem (w := w) 4 #[.int .i64 0, .slice none 0 0] 24 rfl rfl ?hr (Mem.refl w) ?_; (case hr => go_simp; done); intro g4 w1 HM HW))
  have HS1 := Aside0.mk (HS.out.nx (w1 := w1) (by rw [HW.out]; exact below_alloc (Below.refl _ _) _))
  have HB1 : Aside0 (Below w0.heap.size w0 w1) := ⟨by rw [HW.out]; exact HB.out.alloc hw _⟩
  have HK1 : Aside0 (KeepBut w w1 g none) := ⟨KeepBut.of_below HM.out.st.hb _ _⟩
  have HR1 := Aside0.mk (srcR_any w0 g L 1 (n : Int) (by omega) (by omega) (by omega) w1 HS1.out HB1.out)
  go_upto_region 2 with (first | (go_at_call 17; refine HR1.out.mono ?_; rintro e w2 ⟨r, rfl, hr1, hr2, HS2, HB2, HK2⟩))
  obtain ⟨M, rfl⟩ := Int.eq_ofNat_of_zero_le (show 0 ≤ r by omega)
  have HG0 : Aside0 (GS w0 w g L M g4 w2.heap.size none 0 0 [] (w2.alloc (.cells #[.int .i64 (M : Int), .slice none 0 0] 24))) := ⟨{
    src := HS2.out.nx (below_alloc (Below.refl _ _) _)
    b0 := HB2.out.alloc (Nat.le_trans hw (Nat.le_trans HM.out.st.hb.size HK2.out.1)) _
    kb := keep_alloc (HK1.out.trans HK2.out (.inl rfl)) _
    k5 := blk_new w2 _
    k4 := blk_grown (HK2.out.blk (HM.out.st.blk _ (.head _)) (HS1.out.ne (HM.out.st.blk _ (.head _)) (by decide)) (by simp)) (World.grownBy_alloc _ _ none) (by simp)
    n45 := by
      have := blk_lt (HK2.out.blk (HM.out.st.blk _ (.head _)) (HS1.out.ne (HM.out.st.blk _ (.head _)) (by decide)) (by simp))
      show g4 ≠ w2.heap.size
      omega
    l4 := HM.out.lo _ (.head _)
    l5 := Nat.le_trans HM.out.st.hb.size HK2.out.1
    own := own_nil _ _ _ _ }⟩
  clear HS HB HM HW HS1 HB1 HK1 HR1 HS2 HB2 HK2
  change Code.wp Tryd.prog _ _ _ (w2.alloc (.cells #[.int .i64 (M : Int), .slice none 0 0] 24))
  generalize w2.heap.size = g5 at *
  generalize w2.alloc (.cells #[.int .i64 (M : Int), .slice none 0 0] 24) = w3 at *
  have HR2 := Aside0.mk (srcR_any w0 g L 2 5 (by omega) (by omega) (by omega) w3 HG0.out.src HG0.out.b0)
  go_upto_region 3 with (first | (go_at_call 17; refine HR2.out.mono ?_; rintro e w4 ⟨d, rfl, hd1, hd2, HS2, HB2, HK2⟩))
  have HG1 := Aside0.mk (HG0.out.call HS2.out HB2.out HK2.out)
  clear HG0 HS2 HB2 HK2 HR2
  go_wp2
  go_loopw [7, 8, 9] (fun v7 v8 v9 w' => ∃ (a : Nat) (A : Option Addr) (c : Nat) (l : List S54), v7 = .int .i64 (a : Int) ∧ a ≤ M ∧ Aside0 (GS w0 w g L M g4 g5 A l.length c l w') ∧ Aside0 (InR M l ∧ l.Pairwise plt ∧ before a 0 l ∧ l.length ≤ a * 40)) (fun v7 _ _ _ => M - (intOf v7).toNat)
  case atStart => exact ⟨0, none, 0, [], rfl, Nat.zero_le _, HG1, ⟨fun p hp => absurd hp (by simp), List.Pairwise.nil, fun p hp => absurd hp (by simp), by simp⟩⟩
  case round =>
    clear HG1
    obtain ⟨a, A, c, l, rfl, ha, HG, HP⟩ := hrel
    have hk0 := (blk_cell HG.out.k5 0).trans rfl
    by_cases hlt : a < M
    · go_wp2
      clear hk0
      go_loopw [8, 9] (fun v8 v9 w' => ∃ (b : Nat) (A : Option Addr) (c : Nat) (l : List S54), v8 = .int .i64 (b : Int) ∧ b ≤ M ∧ Aside0 (GS w0 w g L M g4 g5 A l.length c l w') ∧ Aside0 (InR M l ∧ l.Pairwise plt ∧ before a b l ∧ l.length ≤ a * 40 + b)) (fun v8 _ _ => M - (intOf v8).toNat)
      case atStart => exact ⟨0, A, c, l, rfl, Nat.zero_le _, HG, ⟨HP.out.1, HP.out.2.1, HP.out.2.2.1, HP.out.2.2.2⟩⟩
      case round =>
        clear HG HP
        obtain ⟨b, A, c, l, rfl, hb, HG, HP⟩ := hrel
        have hk0 := (blk_cell HG.out.k5 0).trans rfl
        by_cases hltb : b < M
        · have hM40 : M ≤ 40 := by omega
          have HP2 : Aside0 (InR M (l ++ [⟨(a : Int), (b : Int)⟩]) ∧ (l ++ [(⟨(a : Int), (b : Int)⟩ : S54)]).Pairwise plt ∧ before a (b + 1) (l ++ [⟨(a : Int), (b : Int)⟩]) ∧ (l ++ [(⟨(a : Int), (b : Int)⟩ : S54)]).length ≤ a * 40 + (b + 1)) := ⟨HP_add HP.out hlt hltb⟩
          have HP3 : Aside0 (InR M l ∧ l.Pairwise plt ∧ before a (b + 1) l ∧ l.length ≤ a * 40 + (b + 1)) := ⟨HP.out.1, HP.out.2.1, fun p hp => by have := HP.out.2.2.1 p hp; omega, by have := HP.out.2.2.2; omega⟩
          have hll : l.length < 1000000 := by
            have := HP.out.2.2.2
            have : a * 40 ≤ 40 * 40 := Nat.mul_le_mul_right 40 (by omega)
            omega
          by_cases hab : a = b
          · have q1 : ((a : Int) == (b : Int)) = true := by rw [beq_iff_eq]; omega
            have HN := Aside0.mk (srcN_any w0 g L 9 (by omega) (by omega) wr HG.out.src HG.out.b0)
            clear hab
            go_upto_if 35 with (first | (go_at_call 18; refine HN.out.mono ?_; rintro e w5 ⟨r, rfl, hr0, hr1, HS5, HB5, HK5⟩))
            have HG5 := Aside0.mk (HG.out.call HS5.out HB5.out HK5.out)
            clear HG HS5 HB5 HK5 HN hk0
            have k1 := (blk_cell HG5.out.k5 1).trans rfl
            by_cases hr : r = 1
            · have q2 : (r == 1) = true := by rw [beq_iff_eq]; exact hr
              clear hr
              go_wp2_with (first | (at_builtin; refine app_pair (w0 := w0) w.heap.size 22 (.tmp 37) (.tmp 41) rfl rfl Tryd.underlying22 info54 _ l (a : Int) (b : Int) rfl rfl ?aO ?aB hw ?aS hll ?_; (case aO => exact HG5.out.own); (case aB => exact HG5.out.b0); (case aS => exact HG5.out.kb.1); intro v1 w6 HO6 HG6 HB6; obtain ⟨A', c', rfl⟩ := own_slice HO6; have e5 := blk_grown HG5.out.k5 HG6 (own_ne HG5.out.own HG5.out.k5 (by decide)); have k1' := (blk_cell e5 1).trans rfl; have f1 : w6.frozen? ⟨g5, 1, none⟩ = false := blk_frozen e5 1; have HG7 := Aside0.mk (HG5.out.app HO6 HG6 HB6 hw); clear e5 k1))
              exact ⟨⟨b + 1, A', c', l ++ [⟨(a : Int), (b : Int)⟩], by go_num, hltb, ⟨by have h := HG7.out; rw [show (l ++ [(⟨(a : Int), (b : Int)⟩ : S54)]).length = l.length + 1 by simp] at h ⊢; exact h⟩, HP2⟩, by simp [intOf]; omega⟩
            · have q2 : (r == 1) = false := by rw [beq_eq_false_iff_ne]; exact hr
              clear hr
              go_wp2
              exact ⟨⟨b + 1, A, c, l, by go_num, hltb, HG5, HP3⟩, by simp [intOf]; omega⟩
          · have q1 : ((a : Int) == (b : Int)) = false := by rw [beq_eq_false_iff_ne]; omega
            have HN := Aside0.mk (srcN_any w0 g L d (by omega) (by omega) wr HG.out.src HG.out.b0)
            clear hab
            go_upto_if 35 with (first | (go_at_call 18; refine HN.out.mono ?_; rintro e w5 ⟨r, rfl, hr0, hr1, HS5, HB5, HK5⟩))
            have HG5 := Aside0.mk (HG.out.call HS5.out HB5.out HK5.out)
            clear HG HS5 HB5 HK5 HN hk0
            have k1 := (blk_cell HG5.out.k5 1).trans rfl
            by_cases hr : r = 1
            · have q2 : (r == 1) = true := by rw [beq_iff_eq]; exact hr
              clear hr
              go_wp2_with (first | (at_builtin; refine app_pair (w0 := w0) w.heap.size 22 (.tmp 37) (.tmp 41) rfl rfl Tryd.underlying22 info54 _ l (a : Int) (b : Int) rfl rfl ?aO ?aB hw ?aS hll ?_; (case aO => exact HG5.out.own); (case aB => exact HG5.out.b0); (case aS => exact HG5.out.kb.1); intro v1 w6 HO6 HG6 HB6; obtain ⟨A', c', rfl⟩ := own_slice HO6; have e5 := blk_grown HG5.out.k5 HG6 (own_ne HG5.out.own HG5.out.k5 (by decide)); have k1' := (blk_cell e5 1).trans rfl; have f1 : w6.frozen? ⟨g5, 1, none⟩ = false := blk_frozen e5 1; have HG7 := Aside0.mk (HG5.out.app HO6 HG6 HB6 hw); clear e5 k1))
              exact ⟨⟨b + 1, A', c', l ++ [⟨(a : Int), (b : Int)⟩], by go_num, hltb, ⟨by have h := HG7.out; rw [show (l ++ [(⟨(a : Int), (b : Int)⟩ : S54)]).length = l.length + 1 by simp] at h ⊢; exact h⟩, HP2⟩, by simp [intOf]; omega⟩
            · have q2 : (r == 1) = false := by rw [beq_eq_false_iff_ne]; exact hr
              clear hr
              go_wp2
              exact ⟨⟨b + 1, A, c, l, by go_num, hltb, HG5, HP3⟩, by simp [intOf]; omega⟩
        · go_wp2
          go_roundw
          case rel => exact ⟨a + 1, A, c, l, by go_num, hlt, HG, ⟨HP.out.1, HP.out.2.1, fun p hp => by have := HP.out.2.2.1 p hp; have := (HP.out.1 p hp).2.2.2; omega, by have := HP.out.2.2.2; omega⟩⟩
          case measure => simp [intOf]; omega
    · have ham : a = M := by omega
      have k0 := (blk_cell HG.out.k5 0).trans rfl
      have k1 := (blk_cell HG.out.k5 1).trans rfl
      have f0 : wr.frozen? ⟨g4, 0, none⟩ = false := blk_frozen HG.out.k4 0
      have f1 : wr.frozen? ⟨g4, 1, none⟩ = false := blk_frozen HG.out.k4 1
      have c0 := (blk_cell HG.out.k4 0).trans rfl
      have c1 := (blk_cell HG.out.k4 1).trans rfl
      clear hk0
      go_wp2
      have HF := HG.out.fin hw (.int .i64 (M : Int)) (.slice A l.length c)
      have hlen : l.length ≤ 1600 := by
        have := HP.out.2.2.2
        have : a * 40 ≤ 40 * 40 := Nat.mul_le_mul_right 40 (by omega)
        omega
      refine bodyPost_ret (results_cell_row rfl _ _ g4 24 #[.int .i64 (M : Int), .slice A l.length c] (0, 0) _ rfl HF.1 Tryd.underlying24 rfl (by kernel_rfl)) rfl ?_
      exact ⟨M, A, c, l, rfl, by omega, by omega, HP.out.1, by rw [valE, if_neg (by omega)]; exact valL_zero _ _ _ HP.out.1 HP.out.2.1 (fun r h => by cases h), hlen, ⟨HF.2.1⟩, ⟨HF.2.2.1⟩, ⟨HF.2.2.2.1⟩, ⟨HF.2.2.2.2⟩⟩
end Go.Proofs.YtgboplcjafmliaaDoor.G
