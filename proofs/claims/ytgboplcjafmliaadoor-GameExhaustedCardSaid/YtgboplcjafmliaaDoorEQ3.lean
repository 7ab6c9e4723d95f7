/- The net of a valid graph; contracts of game.arguments, Moves and Winner. -/
import Derived.Test.YtgboplcjafmliaaDoorEQ2
import Derived.Shelf.SlSortCmp.NoneTotal
import Derived.Test.YtgboplcjafmliaaDoorProg
import Derived.Shelf.Slices.Turned
/- The net of a valid graph; contracts of game.arguments, Moves and Winner. -/
namespace Go.Proofs.YtgboplcjafmliaaDoor.G
open Go.RowKit Go.Proofs.YtgboplcjafmliaaDoorW.PrintWords Go.Proofs.YtgboplcjafmliaaDoorW.PrintLast Go.Proofs.YtgboplcjafmliaaDoorW.PrintMore
open Go.Proofs.YtgboplcjafmliaaDoor.PAll
set_option linter.unusedVariables false
set_option linter.unusedSimpArgs false

theorem nth_addR (l : List Nat) (t f i : Nat) (ht : t < l.length) : nth (addR l t f) i = if i = t then nth l t ||| 2 ^ f else nth l i := by
  unfold addR nth
  rw [List.getD_eq_getElem?_getD, List.getElem?_set]
  by_cases h : t = i
  · subst h; simp [ht]
  · rw [if_neg h, if_neg (Ne.symm h), List.getD_eq_getElem?_getD]
/-- Which nodes a fold of pairs puts into which row. -/
theorem fold_bit (N : Nat) (a b : S54 → Nat) (i j : Nat) : ∀ (l : List S54) (rows : List Nat), rows.length = N → (∀ p, p ∈ l → a p < N) →
    (nth (l.foldl (fun r p => addR r (a p) (b p)) rows) i).testBit j = ((nth rows i).testBit j || l.any fun p => a p == i && b p == j)
  | [], rows, _, _ => by simp
  | p :: l, rows, hr, h => by
    rw [List.foldl_cons, fold_bit N a b i j l _ (by rw [addR_length]; exact hr) (fun q hq => h q (List.mem_cons_of_mem _ hq)), nth_addR _ _ _ _ (by rw [hr]; exact h p List.mem_cons_self), List.any_cons]
    by_cases e : i = a p
    · subst e
      rw [if_pos rfl, Nat.testBit_or, Nat.testBit_two_pow, Bool.or_assoc]
      have h1 : (a p == a p) = true := beq_self_eq_true _
      rw [h1, Bool.true_and]
      have h2 : (b p == j) = decide (b p = j) := rfl
      rw [h2]
    · have h1 : (a p == i) = false := by rw [beq_eq_false_iff_ne]; exact Ne.symm e
      rw [if_neg e, h1, Bool.false_and, Bool.false_or]
theorem fold_len (a b : S54 → Nat) : ∀ (l : List S54) (rows : List Nat), (l.foldl (fun r p => addR r (a p) (b p)) rows).length = rows.length
  | [], rows => rfl
  | p :: l, rows => by rw [List.foldl_cons, fold_len a b l, addR_length]
theorem fold_lt (N : Nat) (a b : S54 → Nat) : ∀ (l : List S54) (rows : List Nat), (∀ p, p ∈ l → b p < N) → (∀ i, nth rows i < 2 ^ N) → ∀ i, nth (l.foldl (fun r p => addR r (a p) (b p)) rows) i < 2 ^ N
  | [], rows, _, h => h
  | p :: l, rows, hb, h => fold_lt N a b l _ (fun q hq => hb q (List.mem_cons_of_mem _ hq)) (addR_lt _ _ _ (hb p List.mem_cons_self) h)
/-- All pairs of a list are between nodes. -/
def InR (N : Nat) (l : List S54) : Prop := ∀ p, p ∈ l → 0 ≤ p.f0 ∧ p.f0 < N ∧ 0 ≤ p.f1 ∧ p.f1 < N
theorem nth_rep0 (k i : Nat) : nth (List.replicate k 0) i = 0 := by
  unfold nth
  rw [List.getD_eq_getElem?_getD, List.getElem?_replicate]
  split <;> rfl
/-- An attack of a list of pairs. -/
def atk (l : List S54) (f t : Nat) : Bool := l.any fun p => p.f1.toNat == t && p.f0.toNat == f
theorem by_bit {N : Nat} {l : List S54} (h : InR N l) (i j : Nat) : (nth (netBy N l) i).testBit j = atk l j i := by
  unfold netBy atk
  rw [fold_bit N (fun p => p.f1.toNat) (fun p => p.f0.toNat) i j l _ (by simp) (fun p hp => by have := h p hp; omega), nth_rep0]
  simp
theorem out_bit {N : Nat} {l : List S54} (h : InR N l) (i j : Nat) : (nth (netOut N l) i).testBit j = atk l i j := by
  unfold netOut atk
  rw [fold_bit N (fun p => p.f0.toNat) (fun p => p.f1.toNat) i j l _ (by simp) (fun p hp => by have := h p hp; omega), nth_rep0]
  simp only [Nat.zero_testBit, Bool.false_or]
  congr 1; funext p; rw [Bool.and_comm]
theorem netOf_ok {N : Nat} (hN : N ≤ 40) {l : List S54} (h : InR N l) : (netOf N l).Ok N where
  hN := hN
  hb := by simp [netOf, netBy, fold_len (fun p => p.f1.toNat) (fun p => p.f0.toNat)]
  ho := by simp [netOf, netOut, fold_len (fun p => p.f0.toNat) (fun p => p.f1.toNat)]
  ha := rfl
  lb := fold_lt N (fun p => p.f1.toNat) (fun p => p.f0.toNat) l _ (fun p hp => by have := h p hp; omega) (fun i => nth_rep _ _)
  lo := fold_lt N (fun p => p.f0.toNat) (fun p => p.f1.toNat) l _ (fun p hp => by have := h p hp; omega) (fun i => nth_rep _ _)
  co := fun i j => by rw [show (netOf N l).by_ = netBy N l from rfl, show (netOf N l).out = netOut N l from rfl, by_bit h, out_bit h]
/-- Validate's OK. -/
theorem valL_ok (N : Int) : ∀ (q : Option S54) (l : List S54), valL N q l = 0 → ∀ p, p ∈ l → 0 ≤ p.f0 ∧ p.f0 < N ∧ 0 ≤ p.f1 ∧ p.f1 < N
  | q, [], _, p, hp => by cases hp
  | q, x :: l, h, p, hp => by
    rw [valL_cons] at h
    rcases List.mem_cons.1 hp with e | hp'
    · subst e
      by_cases h1 : (p.f0 < 0 ∨ p.f1 < 0) ∨ (N ≤ p.f0 ∨ N ≤ p.f1)
      · rw [if_pos h1] at h; omega
      · omega
    by_cases h1 : (x.f0 < 0 ∨ x.f1 < 0) ∨ (N ≤ x.f0 ∨ N ≤ x.f1)
    · rw [if_pos h1] at h; omega
    · rw [if_neg h1] at h
      by_cases h2 : cmpQ q x = true
      · rw [if_pos h2] at h; omega
      · rw [if_neg h2] at h
        exact valL_ok N _ l h p hp'
theorem valE_ok {N : Int} {l : List S54} (h : valE N l = 0) : ∃ M : Nat, N = M ∧ M ≤ 40 ∧ InR M l := by
  unfold valE at h
  split at h
  · omega
  · refine ⟨N.toNat, by omega, by omega, fun p hp => ?_⟩
    have := valL_ok N none l h p hp
    omega

/-- A row of numbers that is read. -/
def RdI (w : World) (A : Option Addr) (c : Nat) (l : List Int) : Prop := l.length ≤ c ∧ (Kd.int .i64).C w A l.length l
theorem RdI.below {w w1 : World} {A : Option Addr} {c : Nat} {l : List Int} (h : RdI w A c l) (hb : Below w.heap.size w w1) : RdI w1 A c l := ⟨h.1, Kd.C_below h.2 hb⟩
def nthI (l : List Int) (i : Nat) : Int := l.getD i 0
theorem nthI_drop (l : List Int) (k : Nat) (h : k < l.length) : l.drop k = nthI l k :: l.drop (k + 1) := by
  rw [List.drop_eq_getElem_cons h, nthI, List.getD_eq_getElem?_getD, List.getElem?_eq_getElem h]; rfl
theorem RdI.cell {w : World} {A : Option Addr} {c : Nat} {l : List Int} (h : RdI w A c l) (i : Nat) (hi : i < l.length) : ∃ ad, A = some ad ∧ w.cell? (ad.add i) = some (.int .i64 (nthI l i)) := by
  have := (Kd.reads_of_C (d := (0 : Int)) h.2).at_ (i : Int) (by omega) (by omega)
  simpa [rdOf, nthI] using this
theorem up_toNat (l : List Int) (h : ∀ x, x ∈ l → 0 ≤ x) : up (l.map Int.toNat) = l := by
  unfold up
  rw [List.map_map]
  conv => rhs; rw [← List.map_id l]
  apply List.map_congr_left
  intro x hx
  have := h x hx
  simp; omega
theorem RdI.nat {w : World} {A : Option Addr} {c : Nat} {l : List Int} (h : RdI w A c l) (h0 : ∀ x, x ∈ l → 0 ≤ x) : RdN .i64 w A c (l.map Int.toNat) := by
  refine ⟨by rw [List.length_map]; exact h.1, ?_⟩
  rw [up_toNat l h0, List.length_map]; exact h.2

/-- What arguments returns. -/
def argE (N : Int) (l : List S54) (game : Int) (line : List Int) : Int :=
  if valE N l ≠ 0 then valE N l else if ¬ (game = 1 ∨ game = 2) then 4 else if (line.any fun x => decide (x < 0) || decide (N ≤ x)) = true then 1
  else if line.length = 0 then 1 else if playedB (netOf N.toNat l) game.toNat (line.map Int.toNat) = true then 0 else 7

set_option maxHeartbeats 400000 in
theorem exists_any (x : Int) (w : World) : Calls Tryd.prog 24 #[.int .i64 x] w fun e w' => e = .returned (.bool (decide (x = 1 ∨ x = 2))) ∧ w = w' := by
  by_cases h1 : x = 1
  · subst h1
    go_enter Tryd.func24, Tryd.ntmps24
    go_wp2
    go_ret
    exact ⟨rfl, rfl⟩
  · have e1 : (x == 1) = false := by rw [beq_eq_false_iff_ne]; exact h1
    by_cases h2 : x = 2
    · subst h2
      go_enter Tryd.func24, Tryd.ntmps24
      go_wp2
      go_ret
      exact ⟨rfl, rfl⟩
    · have e2 : (x == 2) = false := by rw [beq_eq_false_iff_ne]; exact h2
      have he : decide (x = 1 ∨ x = 2) = false := by simp [h1, h2]
      rw [he]
      clear he h1 h2
      go_enter Tryd.func24, Tryd.ntmps24
      go_wp2
      go_ret
      exact ⟨rfl, rfl⟩

set_option maxHeartbeats 4000000 in
set_option maxRecDepth 100000 in
theorem arguments_any (N : Int) (l : List S54) (hl : l.length < 2 ^ 44) (A : Option Addr) (c : Nat) (game : Int) (line : List Int) (hb : line.length < 2 ^ 40) (A2 : Option Addr) (c2 : Nat) (w : World) (hT : TabW w) (hr : RdP w A c l) (hr2 : RdI w A2 c2 line) :
    Calls Tryd.prog 41 #[.agg #[.int .i64 N, .slice A l.length c], .int .i64 game, .slice A2 line.length c2] w fun e w' => e = .returned (.int .i64 (argE N l game line)) ∧ Aside0 (Below w.heap.size w w') := by
  have HR := Aside0.mk hr
  have HR2 := Aside0.mk hr2
  have HT := Aside0.mk hT
  clear hr hr2 hT
  have HB := Aside0.mk (St.refl w)
  let O : Obj := .cells #[.int .i64 N, .slice A l.length c] 24 (0, 0)
  have HVal := Aside0.mk (fun x : World => fun h : RdP x A c l => validate_any N l hl A c x h)
  have HEx := Aside0.mk (exists_any game)
  by_cases hv : valE N l = 0
  · rw [hv] at HVal
    by_cases hg : game = 1 ∨ game = 2
    · rw [decide_eq_true hg] at HEx
      go_enter Tryd.func41, Tryd.ntmps41
      go_wp2_with (first | ((with_reducible refine gate_dst (N := 3) rfl ?_); refine box_st (w := w) 3 #[.int .i64 N, .slice A l.length c] 24 rfl rfl ?hr HB.out ?_; (case hr => go_simp; done); clear HB; intro g w1 HB GE; have hg0 := (HB.out.at_ (List.mem_cons_self) 0).trans rfl; have hg1 := (HB.out.at_ (List.mem_cons_self) 1).trans rfl) | (go_at_call 23; refine (HVal.out _ (HR.out.below HB.out.hb)).mono ?_; rintro e w2 ⟨rfl, hb2⟩; replace HB := Aside0.mk (HB.out.nx hb2.out); clear hb2 hg0 hg1) | (go_at_call 24; refine (HEx.out _).mono ?_; rintro e w' ⟨rfl, rfl⟩))
      obtain ⟨M, rfl, hM, hIn⟩ := valE_ok hv
      have HIn := Aside0.mk hIn
      have HM := Aside0.mk hM
      have HVv := Aside0.mk hv
      have HG := Aside0.mk hg
      clear hM hIn hv hg
      have HW2 : Aside0 (St w2 [(g, O)] w2) := ⟨⟨Below.refl _ _, HB.out.blk⟩⟩
      go_loopw [9, 20] (fun v9 v20 w' => ∃ k : Nat, v20 = .int .i64 k ∧ k ≤ line.length ∧ Aside0 (∀ x, x ∈ line.take k → 0 ≤ x ∧ x < (M : Int)) ∧ Aside0 (w' = w2)) (fun _ v20 _ => line.length - (intOf v20).toNat)
      case atStart => exact ⟨0, rfl, Nat.zero_le _, ⟨fun x hx => by simp at hx⟩, ⟨rfl⟩⟩
      case round =>
        obtain ⟨k, rfl, hk, HGd, HWr⟩ := hrel
        obtain rfl := HWr.out
        clear HWr
        have hgN := (HB.out.at_ (List.mem_cons_self) 0).trans rfl
        by_cases hlt : k < line.length
        · obtain ⟨ad, rfl, hc⟩ := (HR2.out.below HB.out.hb).cell k hlt
          have HD := Aside0.mk (nthI_drop line k hlt)
          have HTk : Aside0 (line.take (k + 1) = line.take k ++ [nthI line k]) := ⟨by rw [List.take_succ_eq_append_getElem hlt, nthI, List.getD_eq_getElem?_getD, List.getElem?_eq_getElem hlt]; rfl⟩
          have HMm : Aside0 (nthI line k ∈ line) := ⟨by rw [nthI, List.getD_eq_getElem?_getD, List.getElem?_eq_getElem hlt]; exact List.getElem_mem hlt⟩
          generalize nthI line k = x at *
          by_cases hx0 : x < 0
          · have HE : Aside0 (argE M l game line = 1) := ⟨by rw [argE, if_neg (by rw [HVv.out]; simp), if_neg (fun h => h HG.out), if_pos (List.any_eq_true.2 ⟨x, HMm.out, by simp [hx0]⟩)]⟩
            go_wp2
            go_ret
            exact ⟨by rw [HE.out]; rfl, ⟨HB.out.hb⟩⟩
          · by_cases hxM : (M : Int) ≤ x
            · have HE : Aside0 (argE M l game line = 1) := ⟨by rw [argE, if_neg (by rw [HVv.out]; simp), if_neg (fun h => h HG.out), if_pos (List.any_eq_true.2 ⟨x, HMm.out, by simp [hxM]⟩)]⟩
              go_wp2
              go_ret
              exact ⟨by rw [HE.out]; rfl, ⟨HB.out.hb⟩⟩
            · have HGd2 : Aside0 (∀ y, y ∈ line.take (k + 1) → 0 ≤ y ∧ y < (M : Int)) := ⟨fun y hy => by
                rw [HTk.out] at hy
                rcases List.mem_append.1 hy with hy | hy
                · exact HGd.out y hy
                · rw [List.mem_singleton.1 hy]; omega⟩
              go_wp2
              exact ⟨⟨k + 1, by go_num, hlt, HGd2, ⟨trivial⟩⟩, by simp [intOf]; omega⟩
        · have hkl : k = line.length := by omega
          have hgd := HGd.out
          rw [hkl, List.take_length] at hgd
          have HLn := Aside0.mk hgd
          have hany : (line.any fun x => decide (x < 0) || decide ((M : Int) ≤ x)) = false := by
            rw [List.any_eq_false]; intro x hx; have := hgd x hx; simp; omega
          have HAny := Aside0.mk hany
          clear hgd hkl hany HGd
          by_cases hle : line.length = 0
          · have HE : Aside0 (argE M l game line = 1) := ⟨by rw [argE, if_neg (by rw [HVv.out]; simp), if_neg (fun h => h HG.out), if_neg (by rw [HAny.out]; simp), if_pos hle]⟩
            have e0 : ((line.length : Int) == 0) = true := by rw [hle]; rfl
            go_wp2
            go_ret
            exact ⟨by rw [HE.out]; rfl, ⟨HB.out.hb⟩⟩
          · have e0 : ((line.length : Int) == 0) = false := by rw [beq_eq_false_iff_ne]; omega
            have hg1 := (HB.out.at_ (List.mem_cons_self) 1).trans rfl
            have HNat : Aside0 (∀ y, y ∈ line.map Int.toNat → y < M) := ⟨fun y hy => by
              obtain ⟨x, hx, rfl⟩ := List.mem_map.1 hy
              have := HLn.out x hx; omega⟩
            have HOk := Aside0.mk (netOf_ok HM.out HIn.out)
            have HLen : Aside0 ((line.map Int.toNat).length = line.length) := ⟨List.length_map _⟩
            have HPl := Aside0.mk (fun (v : Value) (x : World) (h1 : TabW x) (h2 : NetV x (netOf M l) v) (h3 : RdN .i64 x A2 c2 (line.map Int.toNat)) => played_any M (netOf M l) HOk.out game.toNat (by have := HG.out; omega) (line.map Int.toNat) (by rw [HLen.out]; omega) (by rw [HLen.out]; exact hb) HNat.out A2 c2 v x h1 h2 h3)
            have HGt : Aside0 (((game.toNat : Nat) : Int) = game) := ⟨by have := HG.out; omega⟩
            rw [HGt.out, HLen.out] at HPl
            have HRn := Aside0.mk (HR2.out.nat (fun x hx => (HLn.out x hx).1))
            have HNw := Aside0.mk (fun (x : World) (h : RdP x A c l) => new_any M HM.out l hl HIn.out A c x h)
            have HE : Aside0 (argE M l game line = if playedB (netOf M l) game.toNat (line.map Int.toNat) = true then 0 else 7) := ⟨by rw [argE, if_neg (by rw [HVv.out]; simp), if_neg (fun h => h HG.out), if_neg (by rw [HAny.out]; simp), if_neg hle, Int.toNat_natCast]⟩
            clear hle
            cases hpb : playedB (netOf M l) game.toNat (line.map Int.toNat) with
            | true =>
              rw [hpb] at HPl HE
              clear hpb
              go_wp2_with (first | (go_at_call 25; refine (HNw.out _ (HR.out.below HB.out.hb)).mono ?_; rintro e w3 ⟨v3, rfl, hnv, hb3⟩; have HB3 := Aside0.mk (HB.out.nx hb3.out)) | (go_at_call 66; refine (HPl.out _ _ (HT.out.below HT.out.2 HB3.out.hb) hnv.out (HRn.out.below HB3.out.hb)).mono ?_; rintro e w4 ⟨rfl, hb4⟩; have HB4 := Aside0.mk (HB3.out.nx hb4.out)))
              go_ret
              exact ⟨by rw [HE.out]; rfl, ⟨HB4.out.hb⟩⟩
            | false =>
              rw [hpb] at HPl HE
              clear hpb
              go_wp2_with (first | (go_at_call 25; refine (HNw.out _ (HR.out.below HB.out.hb)).mono ?_; rintro e w3 ⟨v3, rfl, hnv, hb3⟩; have HB3 := Aside0.mk (HB.out.nx hb3.out)) | (go_at_call 66; refine (HPl.out _ _ (HT.out.below HT.out.2 HB3.out.hb) hnv.out (HRn.out.below HB3.out.hb)).mono ?_; rintro e w4 ⟨rfl, hb4⟩; have HB4 := Aside0.mk (HB3.out.nx hb4.out)))
              go_ret
              exact ⟨by rw [HE.out]; rfl, ⟨HB4.out.hb⟩⟩
    · have HE : Aside0 (argE N l game line = 4) := ⟨by rw [argE, if_neg (by rw [hv]; simp), if_pos hg]⟩
      rw [decide_eq_false hg] at HEx
      clear hv hg
      go_enter Tryd.func41, Tryd.ntmps41
      go_wp2_with (first | ((with_reducible refine gate_dst (N := 3) rfl ?_); refine box_st (w := w) 3 #[.int .i64 N, .slice A l.length c] 24 rfl rfl ?hr HB.out ?_; (case hr => go_simp; done); clear HB; intro g w1 HB GE; have hg0 := (HB.out.at_ (List.mem_cons_self) 0).trans rfl; have hg1 := (HB.out.at_ (List.mem_cons_self) 1).trans rfl) | (go_at_call 23; refine (HVal.out _ (HR.out.below HB.out.hb)).mono ?_; rintro e w2 ⟨rfl, hb2⟩; replace HB := Aside0.mk (HB.out.nx hb2.out); clear hb2 hg0 hg1) | (go_at_call 24; refine (HEx.out _).mono ?_; rintro e w' ⟨rfl, rfl⟩))
      go_ret
      exact ⟨by rw [HE.out]; rfl, ⟨HB.out.hb⟩⟩
  · have HE : Aside0 (argE N l game line = valE N l) := ⟨by rw [argE, if_pos hv]⟩
    have hv0 : (valE N l == 0) = false := by rw [beq_eq_false_iff_ne]; exact hv
    have hv1 : (valE N l != 0) = true := by rw [bne_iff_ne]; exact hv
    clear hv
    go_enter Tryd.func41, Tryd.ntmps41
    go_wp2_with (first | ((with_reducible refine gate_dst (N := 3) rfl ?_); refine box_st (w := w) 3 #[.int .i64 N, .slice A l.length c] 24 rfl rfl ?hr HB.out ?_; (case hr => go_simp; done); clear HB; intro g w1 HB GE; have hg0 := (HB.out.at_ (List.mem_cons_self) 0).trans rfl; have hg1 := (HB.out.at_ (List.mem_cons_self) 1).trans rfl) | (go_at_call 23; refine (HVal.out _ (HR.out.below HB.out.hb)).mono ?_; rintro e w2 ⟨rfl, hb2⟩; replace HB := Aside0.mk (HB.out.nx hb2.out); clear hb2 hg0 hg1))
    go_ret
    exact ⟨by rw [HE.out]; rfl, ⟨HB.out.hb⟩⟩

/-- What Moves returns: the legal moves where there is no error. -/
def movS (N : Int) (l : List S54) (game : Int) (line : List Int) : Nat := legalM (netOf N.toNat l) game.toNat (line.map Int.toNat)
theorem argE_ok {N : Int} {l : List S54} {game : Int} {line : List Int} (h : argE N l game line = 0) : ∃ M : Nat, N = M ∧ M ≤ 40 ∧ InR M l ∧ (game = 1 ∨ game = 2) ∧ (∀ x, x ∈ line → 0 ≤ x ∧ x < (M : Int)) ∧ 0 < line.length ∧ playedB (netOf M l) game.toNat (line.map Int.toNat) = true := by
  unfold argE at h
  by_cases hv : valE N l ≠ 0
  · rw [if_pos hv] at h; exact absurd h hv
  rw [if_neg hv] at h
  obtain ⟨M, rfl, hM, hIn⟩ := valE_ok (by simpa using hv)
  by_cases hg : ¬ (game = 1 ∨ game = 2)
  · rw [if_pos hg] at h; omega
  rw [if_neg hg] at h
  by_cases ha : (line.any fun x => decide (x < 0) || decide ((M : Int) ≤ x)) = true
  · rw [if_pos ha] at h; omega
  rw [if_neg ha] at h
  by_cases hl : line.length = 0
  · rw [if_pos hl] at h; omega
  rw [if_neg hl, Int.toNat_natCast] at h
  by_cases hp : playedB (netOf M l) game.toNat (line.map Int.toNat) = true
  · exact ⟨M, rfl, hM, hIn, by omega, by simpa using ha, by omega, hp⟩
  · rw [if_neg hp] at h; omega

theorem list_ownM (s : Nat) (hs : s < 2 ^ 64) (w : World) (hT : TabW w) :
    Calls Tryd.prog 43 #[.int .u64 s] w fun e w' => ∃ A c, e = .returned (.slice A (bl s).length c) ∧ Aside0 (w'.ownsRow w.heap.size 3 1 (.slice A (bl s).length c) (bl s).length (nums .i64 (up (bl s)))) ∧ Aside0 (Below w.heap.size w w') :=
  (list_any s hs w hT).mono fun e w' ⟨v0, he, hR, hb⟩ => by
    have h := Kd.own_of_R hR
    rw [List.length_map] at h
    obtain ⟨A, c, hv⟩ := own_slice h
    subst hv
    exact ⟨A, c, he, ⟨h⟩, ⟨hb⟩⟩
/-- What Moves hands back, in words on memory. -/
def MovP (N : Int) (l : List S54) (game : Int) (line : List Int) (w : World) (e : Ending) (w' : World) : Prop :=
  (argE N l game line ≠ 0 ∧ e = .returned (.tuple #[.slice none 0 0, .int .i64 (argE N l game line)]) ∨
    argE N l game line = 0 ∧ ∃ A c, e = .returned (.tuple #[.slice A (bl (movS N l game line)).length c, .int .i64 0]) ∧ w'.ownsRow w.heap.size 3 1 (.slice A (bl (movS N l game line)).length c) (bl (movS N l game line)).length (nums .i64 (up (bl (movS N l game line))))) ∧ Below w.heap.size w w'

set_option maxHeartbeats 4000000 in
set_option maxRecDepth 100000 in
theorem moves_any (N : Int) (l : List S54) (hl : l.length < 2 ^ 44) (A : Option Addr) (c : Nat) (game : Int) (line : List Int) (hb : line.length < 2 ^ 40) (A2 : Option Addr) (c2 : Nat) (w : World) (hT : TabW w) (hr : RdP w A c l) (hr2 : RdI w A2 c2 line) :
    Calls Tryd.prog 14 #[.agg #[.int .i64 N, .slice A l.length c], .int .i64 game, .slice A2 line.length c2] w (MovP N l game line w) := by
  have HR := Aside0.mk hr
  have HR2 := Aside0.mk hr2
  have HT := Aside0.mk hT
  clear hr hr2 hT
  have HB := Aside0.mk (St.refl w)
  let O : Obj := .cells #[.int .i64 N, .slice A l.length c] 24 (0, 0)
  have HArg := Aside0.mk (fun (x : World) (h0 : TabW x) (h1 : RdP x A c l) (h2 : RdI x A2 c2 line) => arguments_any N l hl A c game line hb A2 c2 x h0 h1 h2)
  by_cases he : argE N l game line = 0
  · obtain ⟨M, rfl, hM, hIn, hg, hln, hl0, hpl⟩ := argE_ok he
    have HE := Aside0.mk he
    rw [he] at HArg
    have HNat : Aside0 (∀ y, y ∈ line.map Int.toNat → y < M) := ⟨fun y hy => by
      obtain ⟨x, hx, rfl⟩ := List.mem_map.1 hy
      have := hln x hx; omega⟩
    have HOk := Aside0.mk (netOf_ok hM hIn)
    have HLen : Aside0 ((line.map Int.toNat).length = line.length) := ⟨List.length_map _⟩
    have HLg := Aside0.mk (fun (v : Value) (x : World) (h1 : TabW x) (h2 : NetV x (netOf M l) v) (h3 : RdN .i64 x A2 c2 (line.map Int.toNat)) => legal_any M (netOf M l) HOk.out game.toNat (by omega) (line.map Int.toNat) (by rw [HLen.out]; exact hl0) (by rw [HLen.out]; exact hb) HNat.out A2 c2 v x h1 h2 h3)
    have HGt : Aside0 (((game.toNat : Nat) : Int) = game) := ⟨by omega⟩
    rw [HGt.out, HLen.out] at HLg
    have HRn := Aside0.mk (HR2.out.nat (fun x hx => (hln x hx).1))
    have HNw := Aside0.mk (fun (x : World) (h : RdP x A c l) => new_any M hM l hl hIn A c x h)
    have hS : legalM (netOf M l) game.toNat (line.map Int.toNat) < 2 ^ 64 := p64 hM (legal_lt HOk.out game.toNat _ HNat.out)
    have hSe : movS M l game line = legalM (netOf M l) game.toNat (line.map Int.toNat) := by rw [movS, Int.toNat_natCast]
    rw [← hSe] at HLg hS
    have HS := Aside0.mk hS
    clear hM hIn hg hln hl0 hpl he hS hSe
    go_enter Tryd.func14, Tryd.ntmps14
    go_wp2_with (first | ((with_reducible refine gate_dst (N := 3) rfl ?_); refine box_st (w := w) 3 #[.int .i64 M, .slice A l.length c] 24 rfl rfl ?hr HB.out ?_; (case hr => go_simp; done); clear HB; intro g w1 HB GE; have hg0 := (HB.out.at_ (List.mem_cons_self) 0).trans rfl; have hg1 := (HB.out.at_ (List.mem_cons_self) 1).trans rfl) | (go_at_call 41; refine (HArg.out _ (HT.out.below HT.out.2 HB.out.hb) (HR.out.below HB.out.hb) (HR2.out.below HB.out.hb)).mono ?_; rintro e w2 ⟨rfl, hb2⟩; replace HB := Aside0.mk (HB.out.nx hb2.out); clear hb2 hg0 hg1; have hg0 := (HB.out.at_ (List.mem_cons_self) 0).trans rfl; have hg1 := (HB.out.at_ (List.mem_cons_self) 1).trans rfl) | (go_at_call 25; refine (HNw.out _ (HR.out.below HB.out.hb)).mono ?_; rintro e w3 ⟨v3, rfl, hnv, hb3⟩; have HB3 := Aside0.mk (HB.out.nx hb3.out)) | (go_at_call 42; refine (HLg.out _ _ (HT.out.below HT.out.2 HB3.out.hb) hnv.out (HRn.out.below HB3.out.hb)).mono ?_; rintro e w4 ⟨rfl, hb4⟩; have HB4 := Aside0.mk (HB3.out.nx hb4.out)) | (go_at_call 43; refine (list_ownM _ HS.out _ (HT.out.below HT.out.2 HB4.out.hb)).mono ?_; rintro e w5 ⟨A5, c5, rfl, HL5, hb5⟩; have HB5 := Aside0.mk (HB4.out.nx hb5.out)))
    go_ret2
    exact ⟨.inr ⟨HE.out, A5, c5, rfl, own_weaken HL5.out HB4.out.hb.size⟩, HB5.out.hb⟩
  · have hv0 : (argE N l game line == 0) = false := by rw [beq_eq_false_iff_ne]; exact he
    have hv1 : (argE N l game line != 0) = true := by rw [bne_iff_ne]; exact he
    have HE := Aside0.mk he
    clear he
    go_enter Tryd.func14, Tryd.ntmps14
    go_wp2_with (first | ((with_reducible refine gate_dst (N := 3) rfl ?_); refine box_st (w := w) 3 #[.int .i64 N, .slice A l.length c] 24 rfl rfl ?hr HB.out ?_; (case hr => go_simp; done); clear HB; intro g w1 HB GE; have hg0 := (HB.out.at_ (List.mem_cons_self) 0).trans rfl; have hg1 := (HB.out.at_ (List.mem_cons_self) 1).trans rfl) | (go_at_call 41; refine (HArg.out _ (HT.out.below HT.out.2 HB.out.hb) (HR.out.below HB.out.hb) (HR2.out.below HB.out.hb)).mono ?_; rintro e w2 ⟨rfl, hb2⟩; replace HB := Aside0.mk (HB.out.nx hb2.out); clear hb2 hg0 hg1))
    go_ret2
    exact ⟨.inl ⟨HE.out, rfl⟩, HB.out.hb⟩

/-- What Winner returns. -/
def winE (N : Int) (l : List S54) (game : Int) (line : List Int) : Int :=
  if argE N l game line ≠ 0 ∨ (bl (movS N l game line)).length ≠ 0 then 0 else if line.length % 2 = 1 then 1 else 2

set_option maxHeartbeats 4000000 in
set_option maxRecDepth 100000 in
theorem winner_any (N : Int) (l : List S54) (hl : l.length < 2 ^ 44) (A : Option Addr) (c : Nat) (game : Int) (line : List Int) (hb : line.length < 2 ^ 40) (A2 : Option Addr) (c2 : Nat) (w : World) (hT : TabW w) (hr : RdP w A c l) (hr2 : RdI w A2 c2 line) :
    Calls Tryd.prog 21 #[.agg #[.int .i64 N, .slice A l.length c], .int .i64 game, .slice A2 line.length c2] w fun e w' => e = .returned (.tuple #[.int .i64 (winE N l game line), .int .i64 (argE N l game line)]) ∧ Aside0 (Below w.heap.size w w') := by
  have HR := Aside0.mk hr
  have HR2 := Aside0.mk hr2
  have HT := Aside0.mk hT
  clear hr hr2 hT
  have HB := Aside0.mk (St.refl w)
  have HMv := Aside0.mk (fun (x : World) (h0 : TabW x) (h1 : RdP x A c l) (h2 : RdI x A2 c2 line) => moves_any N l hl A c game line hb A2 c2 x h0 h1 h2)
  by_cases he : argE N l game line = 0
  · have HE := Aside0.mk he
    have hbl := bl_length (movS N l game line)
    by_cases hlen : (bl (movS N l game line)).length = 0
    · have hd : decide (0 < (bl (movS N l game line)).length) = false := by rw [hlen]; rfl
      have HLn := Aside0.mk hlen
      by_cases hpar : line.length % 2 = 1
      · have HW : Aside0 (winE N l game line = 1) := ⟨by rw [winE, if_neg (by rw [he, hlen]; simp), if_pos hpar]⟩
        have e2 : (((line.length : Int) % 2) == 1) = true := by rw [beq_iff_eq]; omega
        rw [HW.out, he]
        clear he hpar hlen
        go_enter Tryd.func21, Tryd.ntmps21
        go_wp2_with (first | ((with_reducible refine gate_dst (N := 3) rfl ?_); refine box_st (w := w) 3 #[.int .i64 N, .slice A l.length c] 24 rfl rfl ?hr HB.out ?_; (case hr => go_simp; done); clear HB; intro g w1 HB GE; have hg0 := (HB.out.at_ (List.mem_cons_self) 0).trans rfl; have hg1 := (HB.out.at_ (List.mem_cons_self) 1).trans rfl) | (go_at_call 14; refine (HMv.out _ (HT.out.below HT.out.2 HB.out.hb) (HR.out.below HB.out.hb) (HR2.out.below HB.out.hb)).mono ?_; rintro e w2 ⟨⟨h, _⟩ | ⟨_, A5, c5, rfl, HL5⟩, hb2⟩; (exact absurd HE.out h); have HB2 := Aside0.mk (HB.out.nx hb2); clear hb2 HL5))
        go_ret2
        exact ⟨rfl, ⟨HB2.out.hb⟩⟩
      · have HW : Aside0 (winE N l game line = 2) := ⟨by rw [winE, if_neg (by rw [he, hlen]; simp), if_neg hpar]⟩
        have e2 : (((line.length : Int) % 2) == 1) = false := by rw [beq_eq_false_iff_ne]; omega
        rw [HW.out, he]
        clear he hpar hlen
        go_enter Tryd.func21, Tryd.ntmps21
        go_wp2_with (first | ((with_reducible refine gate_dst (N := 3) rfl ?_); refine box_st (w := w) 3 #[.int .i64 N, .slice A l.length c] 24 rfl rfl ?hr HB.out ?_; (case hr => go_simp; done); clear HB; intro g w1 HB GE; have hg0 := (HB.out.at_ (List.mem_cons_self) 0).trans rfl; have hg1 := (HB.out.at_ (List.mem_cons_self) 1).trans rfl) | (go_at_call 14; refine (HMv.out _ (HT.out.below HT.out.2 HB.out.hb) (HR.out.below HB.out.hb) (HR2.out.below HB.out.hb)).mono ?_; rintro e w2 ⟨⟨h, _⟩ | ⟨_, A5, c5, rfl, HL5⟩, hb2⟩; (exact absurd HE.out h); have HB2 := Aside0.mk (HB.out.nx hb2); clear hb2 HL5))
        go_ret2
        exact ⟨rfl, ⟨HB2.out.hb⟩⟩
    · have hd : decide (0 < (bl (movS N l game line)).length) = true := by rw [decide_eq_true_eq]; omega
      have HW : Aside0 (winE N l game line = 0) := ⟨by rw [winE, if_pos (.inr hlen)]⟩
      rw [HW.out, he]
      clear he hlen
      go_enter Tryd.func21, Tryd.ntmps21
      go_wp2_with (first | ((with_reducible refine gate_dst (N := 3) rfl ?_); refine box_st (w := w) 3 #[.int .i64 N, .slice A l.length c] 24 rfl rfl ?hr HB.out ?_; (case hr => go_simp; done); clear HB; intro g w1 HB GE; have hg0 := (HB.out.at_ (List.mem_cons_self) 0).trans rfl; have hg1 := (HB.out.at_ (List.mem_cons_self) 1).trans rfl) | (go_at_call 14; refine (HMv.out _ (HT.out.below HT.out.2 HB.out.hb) (HR.out.below HB.out.hb) (HR2.out.below HB.out.hb)).mono ?_; rintro e w2 ⟨⟨h, _⟩ | ⟨_, A5, c5, rfl, HL5⟩, hb2⟩; (exact absurd HE.out h); have HB2 := Aside0.mk (HB.out.nx hb2); clear hb2 HL5))
      go_ret2
      exact ⟨rfl, ⟨HB2.out.hb⟩⟩
  · have hv0 : (argE N l game line == 0) = false := by rw [beq_eq_false_iff_ne]; exact he
    have hv1 : (argE N l game line != 0) = true := by rw [bne_iff_ne]; exact he
    have HE := Aside0.mk he
    have HW : Aside0 (winE N l game line = 0) := ⟨by rw [winE, if_pos (.inl he)]⟩
    rw [HW.out]
    clear he
    go_enter Tryd.func21, Tryd.ntmps21
    go_wp2_with (first | ((with_reducible refine gate_dst (N := 3) rfl ?_); refine box_st (w := w) 3 #[.int .i64 N, .slice A l.length c] 24 rfl rfl ?hr HB.out ?_; (case hr => go_simp; done); clear HB; intro g w1 HB GE; have hg0 := (HB.out.at_ (List.mem_cons_self) 0).trans rfl; have hg1 := (HB.out.at_ (List.mem_cons_self) 1).trans rfl) | (go_at_call 14; refine (HMv.out _ (HT.out.below HT.out.2 HB.out.hb) (HR.out.below HB.out.hb) (HR2.out.below HB.out.hb)).mono ?_; rintro e w2 ⟨⟨_, rfl⟩ | ⟨h, _⟩, hb2⟩; (rotate_left; exact absurd h HE.out); have HB2 := Aside0.mk (HB.out.nx hb2); clear hb2))
    go_ret2
    exact ⟨rfl, ⟨HB2.out.hb⟩⟩
end Go.Proofs.YtgboplcjafmliaaDoor.G

/- The contract of Net.Grounded, and what it computes. -/
namespace Go.Proofs.YtgboplcjafmliaaDoor.G
open Go.RowKit Go.Proofs.YtgboplcjafmliaaDoorW.PrintWords Go.Proofs.YtgboplcjafmliaaDoorW.PrintLast Go.Proofs.YtgboplcjafmliaaDoorW.PrintMore
open Go.Proofs.YtgboplcjafmliaaDoor.PAll
set_option linter.unusedVariables false
set_option linter.unusedSimpArgs false

/-- A node that a set defends (out: what the set attacks). -/
def okB (n : NetD) (out i : Nat) : Bool := sdiff (nth n.by_ i) out == 0
def gfold (n : NetD) (out : Nat) (l : List Nat) (a : Nat) : Nat := l.foldl (fun a i => if okB n out i then a ||| 2 ^ i else a) a
def gstep (n : NetD) (s : Nat) : Nat := gfold n (uni n.out (bl s) 0) (bl n.all) s
/-- The rounds of Grounded, with a bound on their number. -/
def grd (n : NetD) : Nat → Nat → List Nat
  | 0, _ => []
  | f + 1, s => if gstep n s = s then [] else gstep n s :: grd n f (gstep n s)
theorem gfold_bit (n : NetD) (out i : Nat) : ∀ (l : List Nat) (a : Nat), (gfold n out l a).testBit i = (a.testBit i || (l.contains i && okB n out i))
  | [], a => by simp [gfold]
  | j :: l, a => by
    have := gfold_bit n out i l (if okB n out j then a ||| 2 ^ j else a)
    unfold gfold at *
    rw [List.foldl_cons, this]
    rw [List.contains_cons]
    by_cases e : i = j
    · subst e
      by_cases h : okB n out i = true
      · rw [if_pos h, h]; simp [Nat.testBit_or, Nat.testBit_two_pow]
      · rw [if_neg h]; simp [h]
    · have he : (i == j) = false := by rw [beq_eq_false_iff_ne]; exact e
      rw [he, Bool.false_or]
      congr 1
      split
      · simp [Nat.testBit_or, Nat.testBit_two_pow, Ne.symm e]
      · rfl
theorem gfold_lt {N : Nat} (n : NetD) (out : Nat) : ∀ (l : List Nat) (a : Nat), (∀ i, i ∈ l → i < N) → a < 2 ^ N → gfold n out l a < 2 ^ N
  | [], a, _, h => h
  | j :: l, a, hl, h => by
    have := gfold_lt n out l (if okB n out j then a ||| 2 ^ j else a) (fun i hi => hl i (List.mem_cons_of_mem _ hi)) (by
      split
      · exact Nat.or_lt_two_pow h (Nat.pow_lt_pow_right (by omega) (hl j List.mem_cons_self))
      · exact h)
    exact this
theorem all_lt {N : Nat} {n : NetD} (hok : n.Ok N) : n.all < 2 ^ N := by
  rw [hok.ha]; have := Nat.two_pow_pos N; omega
theorem mem_all {N : Nat} {n : NetD} (hok : n.Ok N) (i : Nat) : i ∈ bl n.all ↔ i < N := by
  rw [mem_bl _ _ (p64 hok.hN (all_lt hok)), hok.ha, Nat.testBit_two_pow_sub_one]; simp
theorem gstep_lt {N : Nat} {n : NetD} (hok : n.Ok N) (s : Nat) (hs : s < 2 ^ N) : gstep n s < 2 ^ N := gfold_lt n _ _ _ (fun i hi => (mem_all hok i).1 hi) hs
theorem gstep_bit {N : Nat} {n : NetD} (hok : n.Ok N) (s i : Nat) : (gstep n s).testBit i = (s.testBit i || (decide (i < N) && okB n (uni n.out (bl s) 0) i)) := by
  unfold gstep
  rw [gfold_bit]
  congr 2
  rw [Bool.eq_iff_iff]; simp [mem_all hok]
theorem cov_lt {N s t : Nat} (ht : t < 2 ^ N) (hs : s < 2 ^ N) (h : ∀ i, s.testBit i = true → t.testBit i = true) (hne : t ≠ s) : cov N t < cov N s := by
  have hx : ∃ x, t.testBit x = true ∧ s.testBit x = false := by
    apply Classical.byContradiction; intro hno
    apply hne
    apply Nat.eq_of_testBit_eq; intro i
    cases h1 : s.testBit i with
    | true => exact h i h1
    | false =>
      cases h2 : t.testBit i with
      | false => rfl
      | true => exact absurd ⟨i, h2, h1⟩ hno
  obtain ⟨x, hx1, hx2⟩ := hx
  have hxN : x < N := by
    apply Nat.lt_of_not_le; intro hle
    rw [Nat.testBit_lt_two_pow (Nat.lt_of_lt_of_le ht (Nat.pow_le_pow_right (by omega) hle))] at hx1; cases hx1
  unfold cov
  have key : ∀ l : List Nat, (l.countP fun i => !t.testBit i) ≤ (l.countP fun i => !s.testBit i) ∧ (x ∈ l → (l.countP fun i => !t.testBit i) < (l.countP fun i => !s.testBit i)) := by
    intro l
    induction l with
    | nil => simp
    | cons i l ih =>
      rw [List.countP_cons, List.countP_cons]
      have hle : (if (!t.testBit i) = true then 1 else 0) ≤ (if (!s.testBit i) = true then 1 else 0 : Nat) := by
        cases h1 : s.testBit i with
        | true => rw [h i h1]; simp
        | false => cases t.testBit i <;> simp
      refine ⟨by have := ih.1; omega, fun hm => ?_⟩
      rcases List.mem_cons.1 hm with rfl | hm
      · rw [hx1, hx2]; have := ih.1; simp; omega
      · have := ih.2 hm; omega
  exact (key (List.range N)).2 (List.mem_range.2 hxN)

set_option maxHeartbeats 4000000 in
set_option maxRecDepth 100000 in
theorem rounds_any (N : Nat) (n : NetD) (hok : n.Ok N) (v : Value) (w : World) (hT : TabW w) (hn : NetV w n v) :
    Calls Tryd.prog 49 #[v] w fun e w' => ∃ A c, e = .returned (.slice A (grd n (N + 1) 0).length c) ∧ Aside0 (RdN .u64 w' A c (grd n (N + 1) 0)) ∧ Aside0 (Below w.heap.size w w') := by
  have hn0 := hn
  obtain ⟨A1, c1, A2, c2, rfl, h2, h3⟩ := hn
  have HN := Aside0.mk hn0
  have H2 := Aside0.mk h2
  have HT := Aside0.mk hT
  have HOk := Aside0.mk hok
  clear hT h2 h3 hok hn0
  have HB := Aside0.mk (St.refl w)
  let O : Obj := .cells #[.int .u64 n.all, .slice A1 n.by_.length c1, .slice A2 n.out.length c2] 64 (0, 0)
  go_enter Tryd.func49, Tryd.ntmps49
  go_wp2_with (first | ((with_reducible refine gate_dst (N := 1) rfl ?_); refine box_st (w := w) 1 #[.int .u64 n.all, .slice A1 n.by_.length c1, .slice A2 n.out.length c2] 64 rfl rfl ?hr HB.out ?_; (case hr => go_simp; done); clear HB; intro g w1 HB GE))
  go_loopg [3, 4, 5, 6, 8] (N + 1) (fun k v3 v4 v5 v6 v8 w' => ∃ (acc : List Nat) (s : Nat), v4 = .int .u64 s ∧ Aside0 (s < 2 ^ N) ∧ Aside0 (cov N s < k) ∧ Aside0 (acc.length + k ≤ N + 1) ∧ Aside0 (acc ++ grd n k s = grd n (N + 1) 0) ∧ Aside0 ((Kd.int .u64).R 61 w' w.heap.size (fun _ => True) v3 (up acc)) ∧ Aside0 (St w [(g, O)] w'))
  case atStart => exact ⟨[], 0, rfl, ⟨Nat.two_pow_pos N⟩, ⟨by unfold cov; have := List.countP_le_length (p := fun i => !(0 : Nat).testBit i) (l := List.range N); simp at this ⊢⟩, ⟨by simp⟩, ⟨by simp⟩, ⟨Kd.R_nil _ _ _ _ _⟩, HB⟩
  case round =>
    clear HB
    obtain ⟨acc, s, rfl, HS, HC, HL, HE, HO, HW⟩ := hrel
    obtain ⟨k, rfl⟩ : ∃ k, gk = k + 1 := ⟨gk - 1, by have := HC.out; omega⟩
    have hg0 := (HW.out.at_ (.head _) 0).trans rfl
    have hg1 := (HW.out.at_ (.head _) 1).trans rfl
    have hg2 := (HW.out.at_ (.head _) 2).trans rfl
    have HU := Aside0.mk (uni_lt _ N HOk.out.lo (bl s) 0 (Nat.two_pow_pos N))
    obtain ⟨u, hu⟩ : ∃ u, uni n.out (bl s) 0 = u := ⟨_, rfl⟩
    rw [hu] at HU
    have hgs : gstep n s = gfold n u (bl n.all) s := by rw [gstep, hu]
    have HHit := Aside0.mk (fun (x : World) (h1 : TabW x) (h2 : NetV x n (.agg #[.int .u64 n.all, .slice A1 n.by_.length c1, .slice A2 n.out.length c2])) => hit_any N n HOk.out _ s HS.out x h1 h2)
    rw [hu] at HHit
    have HGs := Aside0.mk hgs
    clear hu hgs
    go_wp2_with (first | (go_at_call 51; refine (HHit.out _ (HT.out.below HT.out.2 HW.out.hb) (HN.out.below HW.out.hb)).mono ?_; rintro e w2 ⟨rfl, hb2⟩; have HO2 : Aside0 ((Kd.int .u64).R 61 w2 w.heap.size (fun _ => True) u3 (up acc)) := ⟨Kd.R_below HO.out hb2.out⟩; clear HO; replace HW := Aside0.mk (HW.out.nx hb2.out); clear hb2 hg0 hg1 hg2; have hg0 := (HW.out.at_ (.head _) 0).trans rfl) | (go_at_call 43; refine (list_rd n.all (p64 HOk.out.hN (all_lt HOk.out)) _ (HT.out.below HT.out.2 HW.out.hb)).mono ?_; rintro e w3 ⟨A15, c15, rfl, HL15, hb3⟩; have HO3 : Aside0 ((Kd.int .u64).R 61 w3 w.heap.size (fun _ => True) u3 (up acc)) := ⟨Kd.R_below HO2.out hb3.out⟩; clear HO2; replace HW := Aside0.mk (HW.out.nx hb3.out); clear hb3 hg0))
    have hl64 := bl_length n.all
    go_loop [6, 8, 17] (fun v6 v8 v17 => ∃ j a : Nat, v17 = .int .i64 j ∧ j ≤ (bl n.all).length ∧ v6 = .int .u64 a ∧ Aside0 (a < 2 ^ N) ∧ Aside0 (gfold n u ((bl n.all).drop j) a = gfold n u (bl n.all) s)) (fun _ _ v17 => (bl n.all).length - (intOf v17).toNat)
    case atStart => exact ⟨0, s, rfl, Nat.zero_le _, rfl, HS, ⟨rfl⟩⟩
    case round =>
      obtain ⟨j, a, rfl, hj, rfl, HA, HF⟩ := hrel
      by_cases hlt : j < (bl n.all).length
      · obtain ⟨ad, rfl, hc⟩ := HL15.out.cell j hlt
        have hi := (mem_all HOk.out _).1 (nth_mem _ j hlt)
        have HD := Aside0.mk (nth_drop _ j hlt)
        generalize nth (bl n.all) j = i at *
        obtain ⟨ad1, rfl, hc1⟩ := (H2.out.below HW.out.hb).cell i (by rw [HOk.out.hb]; exact hi)
        have hg1 := (HW.out.at_ (.head _) 1).trans rfl
        have hil : i < n.by_.length := by rw [HOk.out.hb]; exact hi
        have hi64 : i < 64 := Nat.lt_of_lt_of_le hi (Nat.le_trans HOk.out.hN (by omega))
        have hok1 : (bits .andNot .u64 ((nth n.by_ i : Nat) : Int) ((u : Nat) : Int) == 0) = okB n u i := by
          rw [u64_andNot_nat _ _ (p64 HOk.out.hN (HOk.out.lb i)) (p64 HOk.out.hN HU.out), okB, Bool.eq_iff_iff]
          simp [sdiff]
        have HWi := Aside0.mk (fun x : World => with_any a i (p64 HOk.out.hN HA.out) hi64 x)
        have HA2 : Aside0 (a ||| 2 ^ i < 2 ^ N) := ⟨Nat.or_lt_two_pow HA.out (Nat.pow_lt_pow_right (by omega) hi)⟩
        cases hb : okB n u i with
        | true =>
          rw [hb] at hok1
          have HBi := Aside0.mk hb
          clear hb
          go_wp2_with (first | (go_at_call 28; refine (HWi.out _).mono ?_; rintro e w' ⟨rfl, rfl⟩))
          refine ⟨⟨j + 1, a ||| 2 ^ i, by go_num, hlt, rfl, HA2, ⟨?_⟩⟩, by simp [intOf]; omega⟩
          rw [← HF.out, HD.out]; simp [gfold, HBi.out]
        | false =>
          rw [hb] at hok1
          have HBi := Aside0.mk hb
          clear hb
          go_wp2
          refine ⟨⟨j + 1, a, by go_num, hlt, rfl, HA, ⟨?_⟩⟩, by simp [intOf]; omega⟩
          rw [← HF.out, HD.out]; simp [gfold, HBi.out]
      · have hjl : j = (bl n.all).length := by omega
        have he := HF.out
        rw [hjl, List.drop_length] at he
        have HA3 : Aside0 (a = gstep n s) := ⟨by rw [HGs.out, ← he]; rfl⟩
        clear he hjl
        by_cases hst : a = s
        · have e1 : ((a : Int) == (s : Int)) = true := by rw [beq_iff_eq]; omega
          have HFin : Aside0 (acc = grd n (N + 1) 0) := ⟨by rw [← HE.out, grd, if_pos (by rw [← HA3.out]; exact hst), List.append_nil]⟩
          clear hst
          go_wp2
          go_ret
          obtain ⟨A, c, h1, h2, h3⟩ := Kd.R_reads HO3.out
          rw [up_length] at h1 h2 h3
          rw [← HFin.out]
          exact ⟨A, c, congrArg Ending.returned h1, ⟨h2, h3⟩, ⟨HW.out.hb⟩⟩
        · have e1 : ((a : Int) == (s : Int)) = false := by rw [beq_eq_false_iff_ne]; omega
          have HStep : Aside0 ((acc ++ [a]) ++ grd n k a = grd n (N + 1) 0) := ⟨by rw [← HE.out, grd, if_neg (by rw [← HA3.out]; exact hst), ← HA3.out]; simp⟩
          have HCv : Aside0 (cov N a < k) := ⟨by
            have h1 := cov_lt HA.out HS.out (fun i hi => by rw [HA3.out, gstep_bit HOk.out, hi]; rfl) hst
            have h2 := HC.out; omega⟩
          clear hst
          go_wp2_with (at_builtin; refine app_int (w0 := w) .u64 62 61 8 (.tmp 37) (.tmp 39) rfl rfl Tryd.underlying62 info61 (by decide) _ (up acc) (a : Int) rfl rfl ?aO ?aB ?aL ?_; (case aO => exact HO3.out); (case aB => exact HW.out.hb); (case aL => (have := HL.out; have := HOk.out.hN; rw [up_length]; omega)); intro v1 w4 HO4 HB4 HG4)
          go_roundg k
          case measure => omega
          case rel =>
            refine ⟨acc ++ [a], a, rfl, HA, HCv, ⟨by have := HL.out; simp; omega⟩, HStep, ⟨by rw [show up (acc ++ [a]) = up acc ++ [(a : Int)] by simp [up]]; exact HO4.out⟩, ⟨⟨HB4.out, fun p hp => ?_⟩⟩⟩
            rcases List.mem_cons.1 hp with rfl | hp
            · have hne : some g ≠ u3.ownBlock := fun e => by
                obtain ⟨cells, hcells⟩ := Kd.R_typed HO3.out g e.symm
                have h1 := HW.out.blk _ (.head _)
                rw [show (w3.heap[g]? = some O) = (w3.heap[(g, O).1]? = some (g, O).2) from rfl] at *
                rw [hcells] at h1
                injection h1 with h1
                injection h1 with _ h1 _
                exact absurd h1 (by decide)
              exact blk_grown (HW.out.blk _ (.head _)) HG4.out hne
            · cases hp
end Go.Proofs.YtgboplcjafmliaaDoor.G

/-
  DERIVED: THE SHELF's CONTRACTS AT THIS DUMP, IN PLAIN WORDS (tools/lay-plain.mjs out of 'YtgboplcjafmliaaDoorShelfS.lean', which tools/lay-shelf.mjs wrote): THE SAME DECLARATIONS UNDER THE SAME NAMES: 'import', 'namespace', 'open', 'def', 'theorem' AND NOTHING ELSE: no command of the shelf's: FOR A HAND-IN. Each laying: the table of numbers ('.._ren') and one theorem, a field a fact of the dump's own or the kernel's comparison; each contract: ONE APPLICATION.
-/
namespace Go.Proofs
open Go.Shelf
set_option linter.unusedVariables false
set_option linter.unusedSimpArgs false
def Tryd.sortR_ren : Go.Shelf.Ren := ⟨fun | 6 => 53 | 15 => 75 | 14 => 74 | 28 => 86 | 29 => 87 | 20 => 78 | 21 => 79 | 22 => 80 | 23 => 81 | 24 => 82 | 25 => 83 | 26 => 84 | 27 => 85 | 46 => 88 | 47 => 89 | 48 => 90 | 49 => 91 | 50 => 92 | 57 => 93 | n => n, fun | 22 => 31 | 24 => 77 | 25 => 96 | 3 => 3 | 39 => 98 | 0 => 0 | 53 => 122 | 55 => 60 | 4 => 4 | 46 => 116 | 45 => 115 | 50 => 89 | 5 => 5 | 9 => 9 | 66 => 123 | 70 => 43 | 76 => 128 | 77 => 129 | n => n, fun | n => n⟩
theorem Tryd.sortR : Go.Proofs.SlLaysF0.n6 Tryd.prog Tryd.sortR_ren := {
  mixed := by kernel_rfl
  f6 := ⟨Tryd.f53.name, by decide, Tryd.func53.trans (congrArg some (by kernel_rfl))⟩
  f14 := ⟨Tryd.f74.name, by decide, Tryd.func74.trans (congrArg some (by kernel_rfl))⟩
  f15 := Tryd.func75.trans (congrArg some (by kernel_rfl))
  f20 := ⟨Tryd.f78.name, by decide, Tryd.func78.trans (congrArg some (by kernel_rfl))⟩
  f21 := ⟨Tryd.f79.name, by decide, Tryd.func79.trans (congrArg some (by kernel_rfl))⟩
  f22 := ⟨Tryd.f80.name, by decide, Tryd.func80.trans (congrArg some (by kernel_rfl))⟩
  f23 := ⟨Tryd.f81.name, by decide, Tryd.func81.trans (congrArg some (by kernel_rfl))⟩
  f24 := ⟨Tryd.f82.name, by decide, Tryd.func82.trans (congrArg some (by kernel_rfl))⟩
  f25 := ⟨Tryd.f83.name, by decide, Tryd.func83.trans (congrArg some (by kernel_rfl))⟩
  f26 := ⟨Tryd.f84.name, by decide, Tryd.func84.trans (congrArg some (by kernel_rfl))⟩
  f27 := ⟨Tryd.f85.name, by decide, Tryd.func85.trans (congrArg some (by kernel_rfl))⟩
  f28 := Tryd.func86.trans (congrArg some (by kernel_rfl))
  f29 := Tryd.func87.trans (congrArg some (by kernel_rfl))
  f46 := ⟨Tryd.f88.name, by decide, Tryd.func88.trans (congrArg some (by kernel_rfl))⟩
  f47 := Tryd.func89.trans (congrArg some (by kernel_rfl))
  f48 := Tryd.func90.trans (congrArg some (by kernel_rfl))
  f49 := ⟨Tryd.f91.name, by decide, Tryd.func91.trans (congrArg some (by kernel_rfl))⟩
  f50 := ⟨Tryd.f92.name, by decide, Tryd.func92.trans (congrArg some (by kernel_rfl))⟩
  f57 := ⟨Tryd.f93.name, by decide, Tryd.func93.trans (congrArg some (by kernel_rfl))⟩
  t0 := Tryd.underlying0
  a0 := Tryd.isAgg0
  z0 := Tryd.sizeOf0
  v0 := Tryd.zeroValue0
  t3 := Tryd.underlying3
  a3 := Tryd.isAgg3
  z3 := Tryd.sizeOf3
  v3 := Tryd.zeroValue3
  t4 := Tryd.underlying4
  a4 := Tryd.isAgg4
  z4 := Tryd.sizeOf4
  v4 := Tryd.zeroValue4
  t5 := Tryd.underlying5
  a5 := Tryd.isAgg5
  z5 := Tryd.sizeOf5
  v5 := Tryd.zeroValue5
  t9 := Tryd.underlying9
  a9 := Tryd.isAgg9
  z9 := Tryd.sizeOf9
  v9 := Tryd.zeroValue9
  t22 := Tryd.underlying31
  a22 := Tryd.isAgg31
  z22 := Tryd.sizeOf31
  v22 := Tryd.zeroValue31
  t25 := Tryd.underlying96
  a25 := Tryd.isAgg96
  z25 := Tryd.sizeOf96
  v25 := Tryd.zeroValue96
  t39 := Tryd.underlying98
  a39 := Tryd.isAgg98
  z39 := Tryd.sizeOf98
  v39 := Tryd.zeroValue98
  t45 := Tryd.underlying115
  a45 := Tryd.isAgg115
  z45 := Tryd.sizeOf115
  v45 := Tryd.zeroValue115
  t46 := Tryd.underlying116
  a46 := Tryd.isAgg116
  z46 := Tryd.sizeOf116
  v46 := Tryd.zeroValue116
  t50 := Tryd.underlying89
  a50 := Tryd.isAgg89
  z50 := Tryd.sizeOf89
  v50 := Tryd.zeroValue89
  t53 := Tryd.underlying122
  a53 := Tryd.isAgg122
  z53 := Tryd.sizeOf122
  v53 := Tryd.zeroValue122
  t55 := Tryd.underlying60
  a55 := Tryd.isAgg60
  z55 := Tryd.sizeOf60
  v55 := Tryd.zeroValue60
  t66 := Tryd.underlying123
  a66 := Tryd.isAgg123
  z66 := Tryd.sizeOf123
  v66 := Tryd.zeroValue123
  t70 := Tryd.underlying43
  a70 := Tryd.isAgg43
  z70 := Tryd.sizeOf43
  v70 := Tryd.zeroValue43
  t76 := Tryd.underlying128
  a76 := Tryd.isAgg128
  z76 := Tryd.sizeOf128
  v76 := Tryd.zeroValue128
  t77 := Tryd.underlying129
  a77 := Tryd.isAgg129
  z77 := Tryd.sizeOf129
  v77 := Tryd.zeroValue129 }
end Go.Proofs

/- The contract of slices.SortFunc at replies of the call's own. -/
namespace Go.Proofs.YtgboplcjafmliaaDoor.G
open Go.RowKit Go.Proofs.YtgboplcjafmliaaDoorW.PrintWords Go.Proofs.YtgboplcjafmliaaDoorW.PrintLast Go.Proofs.YtgboplcjafmliaaDoorW.PrintMore
open Go.Proofs.YtgboplcjafmliaaDoor.PAll Go.Shelf Go.Sort
set_option linter.unusedVariables false
set_option linter.unusedSimpArgs false

/-- A reply between nodes. -/
abbrev Rp := Fin 64 × Fin 64
def encRp (p : Rp) : List Value := [.int .i64 ((p.1.val : Nat) : Int), .int .i64 ((p.2.val : Nat) : Int)]
def cfRp (p q : Rp) : Int := ((p.1.val : Nat) : Int) - ((q.1.val : Nat) : Int)
theorem ltRp (p q : Rp) : ltOf cfRp p q = decide (p.1.val < q.1.val) := by
  unfold ltOf cfRp
  rw [Bool.eq_iff_iff]; simp; omega
theorem swoRp : SWO (ltOf cfRp) where
  irrefl x := by rw [ltRp]; simp
  trans x y z h1 h2 := by rw [ltRp] at *; simp at *; omega
  ntrans x y z h1 h2 := by rw [ltRp] at *; simp at *; omega

set_option maxHeartbeats 400000 in
theorem cmp57 (a b c d : Nat) (ha : a < 64) (hc : c < 64) (W : World) : Calls Tryd.prog 57 #[.agg #[.int .i64 (a : Int), .int .i64 (b : Int)], .agg #[.int .i64 (c : Int), .int .i64 (d : Int)]] W fun e w' => e = .returned (.int .i64 ((a : Int) - (c : Int))) ∧ ∃ q os', w' = grow (W.drewN q) os' := by
  have h : IntKind.i64.wrap ((a : Int) - (c : Int)) = (a : Int) - (c : Int) := IntWalk.i64_in _ (by omega)
  have H := Aside0.mk h
  clear h
  go_enter Tryd.func57, Tryd.ntmps57
  go_wp2
  go_ret
  refine ⟨?_, 0, #[.cells #[.int .i64 (a : Int), .int .i64 (b : Int)] 77, .cells #[.int .i64 (c : Int), .int .i64 (d : Int)] 77], ?_⟩
  · rfl
  · rw [alloc_eq_grow, alloc_eq_grow, grow_grow]; rfl
set_option maxHeartbeats 400000 in
theorem cmp54 (a b c d : Nat) (ha : a < 64) (hc : c < 64) (W : World) : Calls Tryd.prog 54 #[.agg #[.int .i64 (a : Int), .int .i64 (b : Int)], .agg #[.int .i64 (c : Int), .int .i64 (d : Int)]] W fun e w' => e = .returned (.int .i64 ((a : Int) - (c : Int))) ∧ ∃ q os', w' = grow (W.drewN q) os' := by
  have h : IntKind.i64.wrap ((a : Int) - (c : Int)) = (a : Int) - (c : Int) := IntWalk.i64_in _ (by omega)
  have H := Aside0.mk h
  clear h
  go_enter Tryd.func54, Tryd.ntmps54
  go_wp2
  go_ret
  refine ⟨?_, 0, #[.cells #[.int .i64 (a : Int), .int .i64 (b : Int)] 77, .cells #[.int .i64 (c : Int), .int .i64 (d : Int)] 77], ?_⟩
  · rfl
  · rw [alloc_eq_grow, alloc_eq_grow, grow_grow]; rfl

/-- A row of replies of the call's own. -/
def OwnRp (w : World) (base : Nat) (v : Value) (rs : List Rp) : Prop := w.ownsRow base 77 2 v rs.length (rs.flatMap encRp)
theorem flatRp_len (rs : List Rp) : (rs.flatMap encRp).length = rs.length * 2 := by
  induction rs with
  | nil => rfl
  | cons p rs ih => rw [List.flatMap_cons, List.length_append, ih, List.length_cons]; simp [encRp]; omega
theorem flatRp_get : ∀ (rs : List Rp) (t : Nat), t < rs.length * 2 → (rs.flatMap encRp)[t]? = some ((encRp (rs.getD (t / 2) default))[t % 2]!)
  | [], t, h => by simp at h
  | p :: rs, 0, _ => by simp [encRp]
  | p :: rs, 1, _ => by simp [encRp]
  | p :: rs, t + 2, h => by
    have ih := flatRp_get rs t (by simp at h; omega)
    rw [List.flatMap_cons, List.getElem?_append_right (by simp [encRp])]
    rw [show t + 2 - (encRp p).length = t by simp [encRp], ih, show (t + 2) / 2 = t / 2 + 1 by omega, show (t + 2) % 2 = t % 2 by omega]
    simp
theorem flatK_rp (d : Array Rp) : flatK encRp 2 d = (d.toList.flatMap encRp).toArray := by
  apply Array.ext_getElem?
  intro t
  have hlen : (d.toList.flatMap encRp).length = d.size * 2 := by rw [flatRp_len, Array.length_toList]
  have e2 : (d.toList.flatMap encRp).toArray[t]? = (d.toList.flatMap encRp)[t]? := by simp
  rw [e2]
  by_cases h : t < d.size * 2
  · have h1 := flatRp_get d.toList t (by rw [Array.length_toList]; exact h)
    rw [h1]
    have h2 : t / 2 < d.size := by omega
    simp [flatK, h, h2, List.getD_eq_getElem?_getD]
  · rw [Array.getElem?_eq_none (by rw [size_flatK]; omega), List.getElem?_eq_none (by rw [hlen]; omega)]
theorem put_take (F : List Value) (cur : Array Value) (h : F.length ≤ cur.size) : (putCells id 0 F.toArray cur).toList.take F.length = F := by
  apply List.ext_getElem?
  intro j
  by_cases hj : j < F.length
  · rw [List.getElem?_take_of_lt hj, Array.getElem?_toList]
    simp [putCells, hj, show j < cur.size by omega]
  · rw [List.getElem?_take_eq_none (by omega), List.getElem?_eq_none (by omega)]

theorem sort_any (f : Nat) (hf : f = 57 ∨ f = 54) (rs : List Rp) (hn : rs.length < 1000) (v : Value) (base : Nat) (w : World) (hown : OwnRp w base v rs) :
    Calls Tryd.prog 53 #[v, .func (.func f) #[] #[]] w fun e w' => e = .returned (.tuple #[]) ∧ ∃ rs' : List Rp, Aside0 (rs'.Perm rs) ∧ Aside0 (rs'.Pairwise fun p q => p.1.val ≤ q.1.val) ∧ Aside0 (OwnRp w' base v rs') ∧ Aside0 (w.grownBy w' v.ownBlock) := by
  by_cases h0 : rs.length = 0
  · have e : rs = [] := List.length_eq_zero_iff.1 h0
    subst e
    have hv : ∃ p cap, v = .slice p 0 cap := by
      rcases hown.2 with ⟨h1, _⟩ | ⟨g, cap, cur, h1, _⟩
      · exact ⟨none, 0, h1⟩
      · exact ⟨_, _, h1⟩
    obtain ⟨p, cap, rfl⟩ := hv
    exact (AnyF.slices_SortFunc_none Tryd.sortR p cap (.func (.func f) #[] #[]) w).mono fun e w' ⟨h1, h2⟩ => by
      subst h2
      exact ⟨h1, [], ⟨List.Perm.refl _⟩, ⟨List.Pairwise.nil⟩, ⟨hown⟩, ⟨⟨rfl, rfl, rfl, Nat.le_refl _, fun _ _ _ => rfl⟩⟩⟩
  · rcases hown.2 with ⟨_, h1⟩ | ⟨g, cap, cur, rfl, hg, hb, hcap, hmax, hcur, htake⟩
    · exact absurd h1 h0
    · have eg : ∀ args w, (callFunc f args).run Tryd.prog w = .ok (.enter f args) w := by
        rcases hf with rfl | rfl
        · exact enters_of Tryd.func57 (by kernel_rfl) rfl
        · exact enters_of Tryd.func54 (by kernel_rfl) rfl
      have hcmp : CmpLays Tryd.prog f #[] encRp 2 cfRp g 0 rs.toArray.size w := by
        intro m os dk hs x y
        rcases hf with rfl | rfl
        · exact cmp57 x.1.val x.2.val y.1.val y.2.val x.1.isLt y.1.isLt _
        · exact cmp54 x.1.val x.2.val y.1.val y.2.val x.1.isLt y.1.isLt _
      have hH : HoldsK encRp 2 w g 0 rs.toArray := by
        unfold HoldsK
        rw [flatK_rp]
        intro j hj
        have hj' : j < rs.length * 2 := by rw [List.size_toArray, flatRp_len] at hj; simpa using hj
        refine ⟨?_, by simp [World.frozen?, hb]⟩
        have h1 : (cur.toList.take (rs.length * 2))[j]? = (rs.flatMap encRp)[j]? := by rw [htake]
        rw [List.getElem?_take_of_lt hj', Array.getElem?_toList] at h1
        simp only [World.cell?, hb, Nat.zero_add]
        simp only [Option.isSome_none, Bool.false_eq_true, if_false]
        rw [h1, flatRp_get _ _ hj']
        have h2 := flatRp_get rs j hj'
        simp only [id, List.getElem!_toArray, List.getElem!_eq_getElem?_getD, h2, Option.getD_some]
      have hcon := AnyQ.slices_SortFunc Tryd.sortR 2 Tryd.isAgg77 Tryd.sizeOf77 encRp (fun _ => rfl) (fun x v hv => by simp [encRp] at hv; rcases hv with rfl | rfl <;> rfl) cfRp swoRp f #[] g 0 cap rs.toArray w eg hcmp hH ((Array.getElem?_eq_some_iff.1 hb).1) (by simp; omega)
      change Calls Tryd.prog 53 _ _ _ at hcon
      refine hcon.mono ?_
      rintro e w' ⟨he, d', m, os, hp, hs, rfl⟩
      have hsz : d'.size = rs.length := by have := hp.1; simpa using this
      have hgl : g < w.heap.size := (Array.getElem?_eq_some_iff.1 hb).1
      refine ⟨he, d'.toList, ⟨?_⟩, ⟨?_⟩, ⟨?_⟩, ⟨?_⟩⟩
      · have h1 := hp.2.2
        have e1 : d'.extract 0 rs.toArray.size = d' := by rw [show rs.toArray.size = d'.size by simp [hsz]]; simp
        have e2 : rs.toArray.extract 0 rs.toArray.size = rs.toArray := by simp
        rw [e1, e2] at h1
        exact h1
      · rw [List.pairwise_iff_getElem]
        intro i j hi hj hij
        have h1 := hs i j (Nat.zero_le _) hij (by simpa [hsz] using hj)
        rw [ltRp, decide_eq_false_iff_not] at h1
        have hi' : i < d'.size := by simpa using hi
        have hj' : j < d'.size := by simpa using hj
        simp only [getElem!_pos, hi', hj'] at h1
        simp only [Array.getElem_toList]
        omega
      · have hheap : (sortWorldK encRp 2 w g 0 m d' os).heap[g]? = some (.cells (putCells id 0 (d'.toList.flatMap encRp).toArray cur) 77 (0, 0)) := by
          unfold sortWorldK putRowK
          rw [flatK_rp, heap_grow_old _ _ (by simpa using hgl)]
          simp [putRow, mapBlock, Sort.ahead, Array.getElem?_modify, hb, onCells]
        refine ⟨flatRp_len _, .inr ⟨g, cap, _, ?_, hg, hheap, ?_, hmax, ?_, ?_⟩⟩
        · simp [hsz]
        · simp [hsz]; exact hcap
        · simp [putCells, hcur]
        · have h3 := put_take (d'.toList.flatMap encRp) cur (by rw [flatRp_len, hcur]; simp [hsz]; omega)
          rw [flatRp_len] at h3
          exact h3
      · refine ⟨rfl, rfl, rfl, by simp [sortWorldK, putRowK], fun k hk hne => ?_⟩
        unfold sortWorldK putRowK
        rw [heap_grow_old _ _ (by simpa using hk)]
        have : g ≠ k := fun e => hne (by rw [e]; rfl)
        simp [putRow, mapBlock, Sort.ahead, Array.getElem?_modify, this]
end Go.Proofs.YtgboplcjafmliaaDoor.G

/- Rows of the call's own: append, and what stays. -/
namespace Go.Proofs.YtgboplcjafmliaaDoor.G
open Go.RowKit Go.Proofs.YtgboplcjafmliaaDoorW.PrintWords Go.Proofs.YtgboplcjafmliaaDoorW.PrintLast Go.Proofs.YtgboplcjafmliaaDoorW.PrintMore
open Go.Proofs.YtgboplcjafmliaaDoor.PAll
set_option linter.unusedVariables false
set_option linter.unusedSimpArgs false

/-- A row of numbers of the call's own. -/
def OwnI (w : World) (base : Nat) (v : Value) (l : List Nat) : Prop := w.ownsRow base 3 1 v l.length (nums .i64 (up l))
theorem OwnI.reads {w : World} {base : Nat} {v : Value} {l : List Nat} (h : OwnI w base v l) : ∃ A c, v = .slice A l.length c ∧ RdN .i64 w A c l := by
  obtain ⟨A, c, h1, h2⟩ := own_reads (k := .i64) h
  obtain ⟨A', c', h3, h4⟩ : ∃ A' c', v = .slice A' l.length c' ∧ l.length ≤ c' := by
    rcases h.2 with ⟨h3, h4⟩ | ⟨g, cap, cur, h3, _, _, h4, _⟩
    · exact ⟨none, 0, by rw [h3, h4], by omega⟩
    · exact ⟨_, _, h3, h4⟩
  rw [h1] at h3
  injection h3 with e1 e2 e3
  subst e1 e3
  refine ⟨A, c, h1, h4, Kd.C_of_reads (d := (0 : Int)) (h1 := fun _ => rfl) ?_⟩
  exact ⟨by rw [up_length], by have := h2.2.1; omega, fun hp => by
    obtain ⟨ad, e, hc⟩ := h2.2.2 hp
    exact ⟨ad, e, fun j hj => hc j hj⟩⟩

theorem St.grown {w x y : World} {bs : List (Nat × Obj)} (h : St w bs x) {row : Option Nat} (hg : x.grownBy y row) (hr : ∀ k, row = some k → w.heap.size ≤ k) (hne : ∀ p, p ∈ bs → some p.1 ≠ row) : St w bs y :=
  ⟨h.hb.grown hg h.hb.size hr, fun p hp => blk_grown (h.blk p hp) hg (hne p hp)⟩
theorem OwnI.grown {w w1 : World} {base : Nat} {v : Value} {l : List Nat} (h : OwnI w base v l) {row : Option Nat} (hg : w.grownBy w1 row) (hne : v.ownBlock = none ∨ v.ownBlock ≠ row) : OwnI w1 base v l := own_other h hg hne
theorem OwnRp.grown {w w1 : World} {base : Nat} {v : Value} {l : List Rp} (h : OwnRp w base v l) {row : Option Nat} (hg : w.grownBy w1 row) (hne : v.ownBlock = none ∨ v.ownBlock ≠ row) : OwnRp w1 base v l := own_other h hg hne
theorem OwnI.below {w w1 : World} {base : Nat} {v : Value} {l : List Nat} (h : OwnI w base v l) (hb : Below w.heap.size w w1) : OwnI w1 base v l := pw_own_below h hb
theorem OwnRp.below {w w1 : World} {base : Nat} {v : Value} {l : List Rp} (h : OwnRp w base v l) (hb : Below w.heap.size w w1) : OwnRp w1 base v l := pw_own_below h hb
section
variable {P : Program} {ops : Array Oper} {Q : Exit → Act → World → Prop} {a : Act} {rest : List Oper} {o : Oper}
/-- append of a node to a row of the call's own. -/
theorem app_node {w0 W : World} (t : TypeId) (s x : Operand) (hgd : o.guard = none)
    (ho : o.op = .call { callee := .builtin .append, args := #[s, x], argTypes := #[t, t] })
    (ht : P.underlying t = some (.slice 3)) (hinfo : (P.info? 3).map (fun i => (i.zero, i.size, i.bytes)) = some (some (.int .i64 0), 1, 8))
    (v : Value) (xs : List Nat) (y : Nat) (hs : a.eval s = v) (hx : a.eval x = .slice (some ⟨W.heap.size, 0, none⟩) 1 1)
    (HO : OwnI W w0.heap.size v xs) (HB : Below w0.heap.size w0 W) (hl : xs.length < 1000000)
    (h : ∀ v1 w1, OwnI w1 w0.heap.size v1 (xs ++ [y]) → W.grownBy w1 v.ownBlock → (v1.ownBlock = v.ownBlock ∨ ∃ b, v1.ownBlock = some b ∧ W.heap.size ≤ b) → wpList P ops Q rest (a.put o.dst v1) w1) :
    wpList P ops Q (o :: rest) a (W.alloc (.cells #[.int .i64 (y : Int)] 3)) :=
  print_append_cells (w0 := w0) w0.heap.size hgd s x t 3 (.int .i64 0) 1 8 ho ht hinfo rfl (by decide) (by decide) v xs.length (nums .i64 (up xs)) [.int .i64 (y : Int)] hs hx rfl (by simp [Value.oneCell']) HO HB HB.size (by omega)
    fun v1 w1 h1 _ h3 h4 => h v1 w1 (by
      unfold OwnI
      rw [show (xs ++ [y]).length = xs.length + 1 by simp, show nums .i64 (up (xs ++ [y])) = nums .i64 (up xs) ++ [.int .i64 (y : Int)] by simp [up, nums]]
      exact h1) h3 h4
/-- append of a reply to a row of the call's own. -/
theorem app_rp {w0 W : World} (t : TypeId) (s x : Operand) (hgd : o.guard = none)
    (ho : o.op = .call { callee := .builtin .append, args := #[s, x], argTypes := #[t, t] })
    (ht : P.underlying t = some (.slice 77)) (hinfo : (P.info? 77).map (fun i => (i.zero, i.size, i.bytes)) = some (some (.agg #[.int .i64 0, .int .i64 0]), 2, 16))
    (v : Value) (xs : List Rp) (y : Rp) (hs : a.eval s = v) (hx : a.eval x = .slice (some ⟨W.heap.size, 0, none⟩) 1 1)
    (HO : OwnRp W w0.heap.size v xs) (HB : Below w0.heap.size w0 W) (hl : xs.length < 1000000)
    (h : ∀ v1 w1, OwnRp w1 w0.heap.size v1 (xs ++ [y]) → W.grownBy w1 v.ownBlock → (v1.ownBlock = v.ownBlock ∨ ∃ b, v1.ownBlock = some b ∧ W.heap.size ≤ b) → wpList P ops Q rest (a.put o.dst v1) w1) :
    wpList P ops Q (o :: rest) a (W.alloc (.cells #[.int .i64 ((y.1.val : Nat) : Int), .int .i64 ((y.2.val : Nat) : Int)] 77)) :=
  print_append_cells (w0 := w0) w0.heap.size hgd s x t 77 (.agg #[.int .i64 0, .int .i64 0]) 2 16 ho ht hinfo rfl (by decide) (by decide) v xs.length (xs.flatMap encRp) (encRp y) hs hx rfl (by simp [encRp, Value.oneCell']) HO HB HB.size (by omega)
    fun v1 w1 h1 _ h3 h4 => h v1 w1 (by
      unfold OwnRp
      rw [show (xs ++ [y]).length = xs.length + 1 by simp, show (xs ++ [y]).flatMap encRp = xs.flatMap encRp ++ encRp y by simp]
      exact h1) h3 h4
end

/-- The state of a call that keeps a row of nodes, a row of replies and a list of nodes that it reads. -/
structure AS (w : World) (bs : List (Nat × Obj)) (v7 v9 v30 : Value) (R : List Nat) (ol : List Rp) (L : List Nat) (x : World) : Prop where
  st : St w bs x
  r : OwnI x w.heap.size v7 R
  o : OwnRp x w.heap.size v9 ol
  l : OwnI x w.heap.size v30 L
  ne : v7.ownBlock = none ∨ v30.ownBlock = none ∨ v7.ownBlock ≠ v30.ownBlock
  ty : ∀ p, p ∈ bs → ∃ cs t, p.2 = .cells cs t (0, 0) ∧ t ≠ 3 ∧ t ≠ 77
variable {w x y : World} {bs : List (Nat × Obj)} {v7 v9 v30 : Value} {R L : List Nat} {ol : List Rp}
theorem AS.nx (h : AS w bs v7 v9 v30 R ol L x) (hb : Below x.heap.size x y) : AS w bs v7 v9 v30 R ol L y := ⟨h.st.nx hb, h.r.below hb, h.o.below hb, h.l.below hb, h.ne, h.ty⟩
theorem AS.drewN (h : AS w bs v7 v9 v30 R ol L x) (n : Nat) : AS w bs v7 v9 v30 R ol L (x.drewN n) := h.nx (pw_below_drewN (Below.refl _ _) n)
theorem own_base' {w : World} {base : Nat} {e : TypeId} {size n : Nat} {v : Value} {xs : List Value} (h : w.ownsRow base e size v n xs) : ∀ k, v.ownBlock = some k → base ≤ k := fun k hk => own_base h k hk
theorem AS.blk3 (h : AS w bs v7 v9 v30 R ol L x) {v : Value} {l : List Nat} (hv : OwnI x w.heap.size v l) : ∀ p, p ∈ bs → some p.1 ≠ v.ownBlock := fun p hp => by
  obtain ⟨cs, t, e, h3, h77⟩ := h.ty p hp
  have hb := h.st.blk p hp
  rw [e] at hb
  exact own_ne hv hb (Ne.symm h3)
theorem AS.blk77 (h : AS w bs v7 v9 v30 R ol L x) : ∀ p, p ∈ bs → some p.1 ≠ v9.ownBlock := fun p hp => by
  obtain ⟨cs, t, e, h3, h77⟩ := h.ty p hp
  have hb := h.st.blk p hp
  rw [e] at hb
  exact own_ne h.o hb (Ne.symm h77)
/-- Behind an append to the row of nodes. -/
theorem AS.appR (h : AS w bs v7 v9 v30 R ol L x) {v' : Value} {R' : List Nat} (hr : OwnI y w.heap.size v' R') (hg : x.grownBy y v7.ownBlock) (hat : v'.ownBlock = v7.ownBlock ∨ ∃ b, v'.ownBlock = some b ∧ x.heap.size ≤ b) : AS w bs v' v9 v30 R' ol L y where
  st := h.st.grown hg (own_base' h.r) (h.blk3 h.r)
  r := hr
  o := h.o.grown hg (by
    rcases own_type_ne h.o h.r (by decide) with e | e
    · exact .inl e
    · exact .inr e)
  l := h.l.grown hg (by
    rcases h.ne with e | e | e
    · cases h5 : v30.ownBlock with
      | none => exact .inl rfl
      | some k => exact .inr (by rw [e]; simp)
    · exact .inl e
    · exact .inr (Ne.symm e))
  ne := by
    rcases hat with e | ⟨b, e, hb⟩
    · rw [e]; exact h.ne
    · cases h5 : v30.ownBlock with
      | none => exact .inr (.inl rfl)
      | some k =>
        refine .inr (.inr ?_)
        rw [e]
        intro hk
        injection hk with hk
        have := own_lt h.l k h5
        omega
  ty := h.ty
/-- Behind an append to the row of replies. -/
theorem AS.appO (h : AS w bs v7 v9 v30 R ol L x) {v' : Value} {ol' : List Rp} (ho : OwnRp y w.heap.size v' ol') (hg : x.grownBy y v9.ownBlock) : AS w bs v7 v' v30 R ol' L y where
  st := h.st.grown hg (own_base' h.o) h.blk77
  r := h.r.grown hg (own_type_ne h.r h.o (by decide))
  o := ho
  l := h.l.grown hg (own_type_ne h.l h.o (by decide))
  ne := h.ne
  ty := h.ty
/-- Another list is read from here on. -/
theorem AS.newL (h : AS w bs v7 v9 v30 R ol L x) {v' : Value} {L' : List Nat} (hb : Below x.heap.size x y) (hl : y.ownsRow x.heap.size 3 1 v' L'.length (nums .i64 (up L'))) : AS w bs v7 v9 v' R ol L' y where
  st := h.st.nx hb
  r := h.r.below hb
  o := h.o.below hb
  l := own_weaken hl h.st.hb.size
  ne := by
    cases h5 : v7.ownBlock with
    | none => exact .inl rfl
    | some k =>
      refine .inr (.inr ?_)
      intro hk
      have h6 := own_lt h.r k h5
      have h7 := own_base hl k hk.symm
      omega
  ty := h.ty
end Go.Proofs.YtgboplcjafmliaaDoor.G

/-
  DERIVED: THE SHELF's CONTRACTS AT THIS DUMP, IN PLAIN WORDS (tools/lay-plain.mjs out of 'YtgboplcjafmliaaDoorShelfC.lean', which tools/lay-shelf.mjs wrote): THE SAME DECLARATIONS UNDER THE SAME NAMES: 'import', 'namespace', 'open', 'def', 'theorem' AND NOTHING ELSE: no command of the shelf's: FOR A HAND-IN. Each laying: the table of numbers ('.._ren') and one theorem, a field a fact of the dump's own or the kernel's comparison; each contract: ONE APPLICATION.
-/
namespace Go.Proofs
open Go.Shelf
set_option linter.unusedVariables false
set_option linter.unusedSimpArgs false
def Tryd.lays107_ren : Go.Shelf.Ren := ⟨fun | 107 => 52 | 108 => 73 | n => n, fun | 28 => 25 | 3 => 3 | 4 => 4 | 0 => 0 | n => n, fun | n => n⟩
theorem Tryd.lays107 : Go.Proofs.Lays.n107 Tryd.prog Tryd.lays107_ren := {
  mixed := by kernel_rfl
  f107 := Tryd.func52.trans (congrArg some (by kernel_rfl))
  f108 := Tryd.func73.trans (congrArg some (by kernel_rfl))
  t0 := Tryd.underlying0
  a0 := Tryd.isAgg0
  z0 := Tryd.sizeOf0
  v0 := Tryd.zeroValue0
  t3 := Tryd.underlying3
  a3 := Tryd.isAgg3
  z3 := Tryd.sizeOf3
  v3 := Tryd.zeroValue3
  t4 := Tryd.underlying4
  a4 := Tryd.isAgg4
  z4 := Tryd.sizeOf4
  v4 := Tryd.zeroValue4
  t28 := Tryd.underlying25
  a28 := Tryd.isAgg25
  z28 := Tryd.sizeOf25
  v28 := Tryd.zeroValue25 }
end Go.Proofs
