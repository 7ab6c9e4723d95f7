/- The contract of network.New, and what it computes. -/
import Derived.Test.YtgboplcjafmliaaDoorSQ3
import Derived.Deep.DeepCutAuto
import Derived.RegionTactic
/- The contract of network.New, and what it computes. -/
namespace Go.Proofs.YtgboplcjafmliaaDoor.G
open Go.RowKit Go.Proofs.YtgboplcjafmliaaDoorW.PrintWords Go.Proofs.YtgboplcjafmliaaDoorW.PrintLast Go.Proofs.YtgboplcjafmliaaDoorW.PrintMore
open Go.Proofs.YtgboplcjafmliaaDoor.PAll
set_option linter.unusedVariables false
set_option linter.unusedSimpArgs false

/-- One more node in a row. -/
def addR (rows : List Nat) (t f : Nat) : List Nat := rows.set t (nth rows t ||| 2 ^ f)
def netBy (N : Nat) (l : List S54) : List Nat := l.foldl (fun r p => addR r p.f1.toNat p.f0.toNat) (List.replicate N 0)
def netOut (N : Nat) (l : List S54) : List Nat := l.foldl (fun r p => addR r p.f0.toNat p.f1.toNat) (List.replicate N 0)
def netOf (N : Nat) (l : List S54) : NetD := ⟨2 ^ N - 1, netBy N l, netOut N l⟩
def u64s (l : List Nat) : Array Value := ((up l).map fun x => Value.int .u64 x).toArray
theorem two_pow_or (k : Nat) : (2 ^ k - 1) ||| 2 ^ k = 2 ^ (k + 1) - 1 := by
  apply Nat.eq_of_testBit_eq; intro i
  rw [Nat.testBit_or, Nat.testBit_two_pow_sub_one, Nat.testBit_two_pow_sub_one, Nat.testBit_two_pow]
  rw [Bool.eq_iff_iff]; simp; omega

theorem madeCells_zero (n : Nat) : madeCells #[Value.int .u64 0] n = u64s (List.replicate n 0) := by
  apply Array.toList_inj.1
  apply List.ext_getElem
  · simp [u64s, up, madeCells]
  · intro i h1 h2
    simp [u64s, up, madeCells, Nat.mod_one]
theorem nth_rep (k n : Nat) {i : Nat} : nth (List.replicate k 0) i < 2 ^ n := by
  have : nth (List.replicate k 0) i = 0 := by
    unfold nth
    rw [List.getD_eq_getElem?_getD, List.getElem?_replicate]
    split <;> rfl
  rw [this]; exact Nat.two_pow_pos n
theorem nthP_mem (l : List S54) (k : Nat) (h : k < l.length) : nthP l k ∈ l := by
  rw [nthP, List.getD_eq_getElem?_getD, List.getElem?_eq_getElem h]; exact List.getElem_mem h
theorem u64s_get (l : List Nat) (i : Nat) (h : i < l.length) : (u64s l)[i]? = some (.int .u64 ((nth l i : Nat) : Int)) := by
  simp only [u64s, up, List.getElem?_toArray, List.getElem?_map, nth, List.getD_eq_getElem?_getD, List.getElem?_eq_getElem h]
  rfl
theorem u64s_set (l : List Nat) (t f : Nat) : (u64s l).setIfInBounds t (.int .u64 ((nth l t ||| 2 ^ f : Nat) : Int)) = u64s (addR l t f) := by
  simp [u64s, up, addR, List.map_set]
theorem addR_length (l : List Nat) (t f : Nat) : (addR l t f).length = l.length := by simp [addR]
theorem addR_lt {N : Nat} (l : List Nat) (t f : Nat) (hf : f < N) (h : ∀ i, nth l i < 2 ^ N) : ∀ i, nth (addR l t f) i < 2 ^ N := by
  intro i
  have hor : nth l t ||| 2 ^ f < 2 ^ N := Nat.or_lt_two_pow (h t) (Nat.pow_lt_pow_right (by omega) hf)
  have h1 := h i
  unfold nth addR at *
  rw [List.getD_eq_getElem?_getD, List.getElem?_set]
  rw [List.getD_eq_getElem?_getD] at h1
  split
  · split
    · exact hor
    · exact Nat.two_pow_pos N
  · exact h1

theorem rdN_of_block {w : World} {b c : Nat} {l : List Nat} {e : TypeId} (h : w.heap[b]? = some (.cells (u64s l) e (0, 0))) (hc : l.length ≤ c) (hs : l.length < 2 ^ 40) : RdN .u64 w (some ⟨b, 0, none⟩) c l := by
  refine ⟨hc, Kd.C_of_reads (d := (0 : Int)) (h1 := fun _ => rfl) ⟨up_length l, by omega, fun _ => ⟨_, rfl, fun j hj => ?_⟩⟩⟩
  rw [add_plain, blk_cell h, u64s_get l j hj, up_getD]

set_option maxHeartbeats 4000000 in
set_option maxRecDepth 100000 in
theorem new_blk (N : Nat) (hN : N ≤ 40) (l : List S54) (hl : l.length < 2 ^ 44) (hv : ∀ p, p ∈ l → 0 ≤ p.f0 ∧ p.f0 < N ∧ 0 ≤ p.f1 ∧ p.f1 < N) (A : Option Addr) (c : Nat) (w : World) (hr : RdP w A c l) :
    Calls Tryd.prog 25 #[.agg #[.int .i64 N, .slice A l.length c]] w fun e w' => ∃ b1 b2, e = .returned (.agg #[.int .u64 ((netOf N l).all : Int), .slice (some ⟨b1, 0, none⟩) N N, .slice (some ⟨b2, 0, none⟩) N N]) ∧ Aside0 (w'.heap[b1]? = some (.cells (u64s (netOf N l).by_) 61 (0, 0))) ∧ Aside0 (w'.heap[b2]? = some (.cells (u64s (netOf N l).out) 61 (0, 0))) ∧ Aside0 ((netOf N l).by_.length = N ∧ (netOf N l).out.length = N) ∧ Aside0 (Below w.heap.size w w') := by
  have HR := Aside0.mk hr
  have HVl := Aside0.mk hv
  clear hr hv
  have HB := Aside0.mk (Mem.refl w)
  have hmk := print_make (P := Tryd.prog) 62 61 .u64 8 Tryd.underlying62 info61 (by decide) N (by omega)
  go_enter Tryd.func25, Tryd.ntmps25
  go_upto_region 1 with (first | ((with_reducible refine gate_dst (N := 1) rfl ?_); refine box_mem (w := w) 1 #[.int .i64 N, .slice A l.length c] 24 rfl rfl ?hr HB.out ?_; (case hr => go_simp; done); clear HB; intro g w1 HB HW) | ((with_reducible refine gate_dst (N := 2) rfl ?_); refine box_mem (w := w) 2 #[.int .u64 0, .slice none 0 0, .slice none 0 0] 64 rfl rfl ?hr HB.out ?_; (case hr => go_simp; done); clear HB HW; intro g2 w2 HB HW))
  simp only [Act.put, List.setIfInBounds_toArray, List.set_cons_succ, List.set_cons_zero]
  go_cut [3] (fun s3 wx => ∃ b1 b2 n3 : Nat, s3 = .pointer (some ⟨n3, 0, none⟩) ∧ Aside0 (Mem w [(n3, .cells #[.int .u64 0, .slice (some ⟨b1, 0, none⟩) N N, .slice (some ⟨b2, 0, none⟩) N N] 64 (0, 0)), (b1, .cells (madeCells #[.int .u64 0] N) 61 (0, 0)), (b2, .cells (madeCells #[.int .u64 0] N) 61 (0, 0)), (g2, .cells #[.int .u64 0, .slice none 0 0, .slice none 0 0] 64 (0, 0)), (g, .cells #[.int .i64 N, .slice A l.length c] 24 (0, 0))] wx))
  case first =>
    have hg0 := (HB.out.st.at_ (List.mem_cons_of_mem _ List.mem_cons_self) 0).trans rfl
    have hgl := HB.out.lt _ (List.mem_cons_of_mem _ List.mem_cons_self)
    go_region
    all_goals (go_wp2_with fail; go_meet)
    all_goals (first | exact ⟨(w2.heap.size + 1), w2.heap.size, (w2.heap.size + 1 + 1), rfl, ⟨(HB.out.three _ _ _).perm (List.Perm.refl _)⟩⟩ | exact ⟨w2.heap.size, (w2.heap.size + 1), (w2.heap.size + 1 + 1), rfl, ⟨(HB.out.three _ _ _).perm (perm_132 _ _ _ _)⟩⟩ | exact ⟨(w2.heap.size + 1 + 1), w2.heap.size, (w2.heap.size + 1), rfl, ⟨(HB.out.three _ _ _).perm (perm_213 _ _ _ _)⟩⟩ | exact ⟨w2.heap.size, (w2.heap.size + 1 + 1), (w2.heap.size + 1), rfl, ⟨(HB.out.three _ _ _).perm (perm_231 _ _ _ _)⟩⟩ | exact ⟨(w2.heap.size + 1 + 1), (w2.heap.size + 1), w2.heap.size, rfl, ⟨(HB.out.three _ _ _).perm (perm_312 _ _ _ _)⟩⟩ | exact ⟨(w2.heap.size + 1), (w2.heap.size + 1 + 1), w2.heap.size, rfl, ⟨(HB.out.three _ _ _).perm (perm_321 _ _ _ _)⟩⟩)
  case rest =>
    obtain ⟨b1, b2, n3, rfl, HM⟩ := hcut
    have HGm : Aside0 (∀ x, Mem w [(n3, .cells #[.int .u64 0, .slice (some ⟨b1, 0, none⟩) N N, .slice (some ⟨b2, 0, none⟩) N N] 64 (0, 0)), (b1, .cells (madeCells #[.int .u64 0] N) 61 (0, 0)), (b2, .cells (madeCells #[.int .u64 0] N) 61 (0, 0)), (g2, .cells #[.int .u64 0, .slice none 0 0, .slice none 0 0] 64 (0, 0)), (g, .cells #[.int .i64 N, .slice A l.length c] 24 (0, 0))] x → x.cell? ⟨g, 0, none⟩ = some (.int .i64 N)) := ⟨fun x h => (h.st.at_ (.tail _ (.tail _ (.tail _ (.tail _ (.head _))))) 0).trans rfl⟩
    have hgN := HGm.out _ HM.out
    go_wp2
    clear hgN HGm
    go_loopw [4, 16] (fun v4 v16 w' => ∃ k : Nat, v16 = .int .i64 k ∧ k ≤ N ∧ Aside0 (Mem w [(n3, .cells #[.int .u64 ((2 ^ k - 1 : Nat) : Int), .slice (some ⟨b1, 0, none⟩) N N, .slice (some ⟨b2, 0, none⟩) N N] 64 (0, 0)), (b1, .cells (madeCells #[.int .u64 0] N) 61 (0, 0)), (b2, .cells (madeCells #[.int .u64 0] N) 61 (0, 0)), (g2, .cells #[.int .u64 0, .slice none 0 0, .slice none 0 0] 64 (0, 0)), (g, .cells #[.int .i64 N, .slice A l.length c] 24 (0, 0))] w')) (fun _ v16 _ => N - (intOf v16).toNat)
    case atStart => exact ⟨0, rfl, Nat.zero_le _, HM⟩
    case round =>
      clear HM
      obtain ⟨k, rfl, hk, HM⟩ := hrel
      by_cases hlt : k < N
      · have hn0 := (HM.out.st.at_ (.head _) 0).trans rfl
        have hf0 := HM.out.st.free_ (.head _) 0
        have hp : 2 ^ k < 2 ^ 64 := pow_lt' k (by omega)
        have HC := Aside0.mk (fun x : World => with_any (2 ^ k - 1) k (Nat.lt_of_le_of_lt (Nat.sub_le _ _) hp) (by omega) x)
        have HM2 := HM.out.set 0 (.int .u64 ((2 ^ (k + 1) - 1 : Nat) : Int))
        have HMn : Aside0 (Mem w _ _) := ⟨HM2⟩
        have HO := Aside0.mk (two_pow_or k)
        clear HM2 hp
        rw [HO.out] at HC
        generalize 2 ^ k - 1 = s at *
        obtain ⟨s2, hs2⟩ : ∃ s2, 2 ^ (k + 1) - 1 = s2 := ⟨_, rfl⟩
        rw [hs2] at HC HMn
        have HS2 := Aside0.mk hs2
        clear HO hs2
        go_wp2_with (first | (go_at_call 28; refine (HC.out _).mono ?_; rintro e w' ⟨rfl, rfl⟩))
        refine ⟨⟨k + 1, by go_num, hlt, ?_⟩, by simp [intOf]; omega⟩
        rw [HS2.out]
        exact HMn
      · obtain rfl : k = N := by omega
        rw [madeCells_zero] at HM
        have hg1 := (HM.out.st.at_ (.tail _ (.tail _ (.tail _ (.tail _ (.head _))))) 1).trans rfl
        have hll : (l.length : Int) < 2 ^ 44 := by omega
        go_wp2
        clear hg1
        have HR0 : Aside0 ((List.replicate k 0).length = k) := ⟨by simp⟩
        go_loopw [6, 28] (fun v6 v28 w' => ∃ (j : Nat) (rb ro : List Nat), v28 = .int .i64 j ∧ j ≤ l.length ∧ Aside0 (rb.length = k) ∧ Aside0 (ro.length = k) ∧ Aside0 ((∀ i, nth rb i < 2 ^ k) ∧ (∀ i, nth ro i < 2 ^ k)) ∧ Aside0 ((l.drop j).foldl (fun r p => addR r p.f1.toNat p.f0.toNat) rb = netBy k l) ∧ Aside0 ((l.drop j).foldl (fun r p => addR r p.f0.toNat p.f1.toNat) ro = netOut k l) ∧ Aside0 (Mem w [(n3, .cells #[.int .u64 ((2 ^ k - 1 : Nat) : Int), .slice (some ⟨b1, 0, none⟩) k k, .slice (some ⟨b2, 0, none⟩) k k] 64 (0, 0)), (b1, .cells (u64s rb) 61 (0, 0)), (b2, .cells (u64s ro) 61 (0, 0)), (g2, .cells #[.int .u64 0, .slice none 0 0, .slice none 0 0] 64 (0, 0)), (g, .cells #[.int .i64 k, .slice A l.length c] 24 (0, 0))] w')) (fun _ v28 _ => l.length - (intOf v28).toNat)
        case atStart => exact ⟨0, List.replicate k 0, List.replicate k 0, rfl, Nat.zero_le _, HR0, HR0, ⟨fun i => nth_rep _ _, fun i => nth_rep _ _⟩, ⟨rfl⟩, ⟨rfl⟩, HM⟩
        case round =>
          clear HM
          obtain ⟨j, rb, ro, rfl, hj, HLb, HLo, HLt, HFb, HFo, HM⟩ := hrel
          by_cases hlt : j < l.length
          · obtain ⟨ad, rfl, hc0, hc1⟩ := (HR.out.below HM.out.st.hb).cell j hlt
            have HD := Aside0.mk (nthP_drop l j hlt)
            have hvp := HVl.out _ (nthP_mem l j hlt)
            obtain ⟨p, hp⟩ : ∃ p, nthP l j = p := ⟨_, rfl⟩
            rw [hp] at hc0 hc1 hvp
            have HP := Aside0.mk hp
            clear hp
            obtain ⟨h1, h2, h3, h4⟩ := hvp
            obtain ⟨f, hf⟩ := Int.eq_ofNat_of_zero_le h1
            obtain ⟨t, ht⟩ := Int.eq_ofNat_of_zero_le h3
            rw [hf] at hc0 h2
            rw [ht] at hc1 h4
            have HF := Aside0.mk hf
            have HT := Aside0.mk ht
            have hfk : f < k := by omega
            have htk : t < k := by omega
            clear h1 h2 h3 h4 hf ht
            go_wp2_with fail
            have HMa : Aside0 (Mem w _ (wr.alloc (.cells #[.int .i64 f, .int .i64 t] 54))) := ⟨HM.out.add _⟩
            have hfi : (f : Int) < (k : Int) := by omega
            have hti : (t : Int) < (k : Int) := by omega
            have hf0 : (0 : Int) ≤ (f : Int) := by omega
            have ht0 : (0 : Int) ≤ (t : Int) := by omega
            clear hc0 hc1
            generalize wr.alloc (.cells #[.int .i64 f, .int .i64 t] 54) = wa at *
            let Bsa : List (Nat × Obj) := [(wr.heap.size, .cells #[.int .i64 f, .int .i64 t] 54 (0, 0)), (n3, .cells #[.int .u64 ((2 ^ k - 1 : Nat) : Int), .slice (some ⟨b1, 0, none⟩) k k, .slice (some ⟨b2, 0, none⟩) k k] 64 (0, 0)), (b1, .cells (u64s rb) 61 (0, 0)), (b2, .cells (u64s ro) 61 (0, 0)), (g2, .cells #[.int .u64 0, .slice none 0 0, .slice none 0 0] 64 (0, 0)), (g, .cells #[.int .i64 k, .slice (some ad) l.length c] 24 (0, 0))]
            haveI : Nonempty (Gd (St wa Bsa)) := ⟨⟨wa, ⟨Below.refl _ _, HMa.out.st.blk⟩⟩⟩
            have hs1 : ∀ i : Gd (St wa Bsa), i.v.cell? ⟨n3, 1, none⟩ = some (.slice (some ⟨b1, 0, none⟩) k k) := fun i => (i.h.at_ (.tail _ (.head _)) 1).trans rfl
            have hs2 : ∀ i : Gd (St wa Bsa), i.v.cell? ⟨wr.heap.size, 0, none⟩ = some (.int .i64 f) := fun i => (i.h.at_ (.head _) 0).trans rfl
            have hs3 : ∀ i : Gd (St wa Bsa), i.v.cell? ⟨wr.heap.size, 1, none⟩ = some (.int .i64 t) := fun i => (i.h.at_ (.head _) 1).trans rfl
            have hs4 : ∀ i : Gd (St wa Bsa), i.v.cell? ⟨b1, t, none⟩ = some (.int .u64 ((nth rb t : Nat) : Int)) := fun i => (i.h.at_ (.tail _ (.tail _ (.head _))) t).trans (u64s_get _ _ (by rw [HLb.out]; exact htk))
            have C28 := Aside0.mk (fun i : Gd (St wa Bsa) => i.h.gdsame (with_any (nth rb t) f (p64 hN (HLt.out.1 t)) (by omega) i.v))
            refine wp_quiet_tail (fun x => ∃ i : Gd (St wa Bsa), x = i.v) 14 (by kernel_rfl) (by kernel_rfl) ⟨⟨wa.drew, ⟨(Below.refl _ _).drew, HMa.out.st.blk⟩⟩, rfl⟩ ?_
            simp only [List.take, List.drop]
            repeat (quiet_step ((go_at_call 28; exact C28.out _)))
            refine wpQuiet_nil ?_
            rintro w6 ⟨⟨_, hb6⟩, rfl⟩
            have Hw6 := HMa.out.nx hb6.hb
            clear C28 hs1 hs2 hs3 hs4 this hb6
            have HMb := Aside0.mk (Hw6.perm ((perm_312 _ _ _ _)))
            have hfr := HMb.out.st.free_ (.head _) t
            have hcl := (HMb.out.st.at_ (.head _) t).trans (u64s_get _ _ (by rw [HLb.out]; exact htk))
            have HMc0 := HMb.out.set t (.int .u64 ((nth rb t ||| 2 ^ f : Nat) : Int))
            rw [u64s_set] at HMc0
            have HMc := Aside0.mk (HMc0.perm (perm_231 _ _ _ _))
            clear Hw6 HMc0 HMa HM HMb
            go_wp2_with fail
            clear hfr hcl
            generalize w6.setCell ⟨b1, t, none⟩ (.int .u64 ((nth rb t ||| 2 ^ f : Nat) : Int)) = wb at *
            let Bsb : List (Nat × Obj) := [(wr.heap.size, .cells #[.int .i64 f, .int .i64 t] 54 (0, 0)), (n3, .cells #[.int .u64 ((2 ^ k - 1 : Nat) : Int), .slice (some ⟨b1, 0, none⟩) k k, .slice (some ⟨b2, 0, none⟩) k k] 64 (0, 0)), (b1, .cells (u64s (addR rb t f)) 61 (0, 0)), (b2, .cells (u64s ro) 61 (0, 0)), (g2, .cells #[.int .u64 0, .slice none 0 0, .slice none 0 0] 64 (0, 0)), (g, .cells #[.int .i64 k, .slice (some ad) l.length c] 24 (0, 0))]
            haveI : Nonempty (Gd (St wb Bsb)) := ⟨⟨wb, ⟨Below.refl _ _, HMc.out.st.blk⟩⟩⟩
            have hs1 : ∀ i : Gd (St wb Bsb), i.v.cell? ⟨n3, 2, none⟩ = some (.slice (some ⟨b2, 0, none⟩) k k) := fun i => (i.h.at_ (.tail _ (.head _)) 2).trans rfl
            have hs2 : ∀ i : Gd (St wb Bsb), i.v.cell? ⟨wr.heap.size, 0, none⟩ = some (.int .i64 f) := fun i => (i.h.at_ (.head _) 0).trans rfl
            have hs3 : ∀ i : Gd (St wb Bsb), i.v.cell? ⟨wr.heap.size, 1, none⟩ = some (.int .i64 t) := fun i => (i.h.at_ (.head _) 1).trans rfl
            have hs4 : ∀ i : Gd (St wb Bsb), i.v.cell? ⟨b2, f, none⟩ = some (.int .u64 ((nth ro f : Nat) : Int)) := fun i => (i.h.at_ (.tail _ (.tail _ (.tail _ (.head _)))) f).trans (u64s_get _ _ (by rw [HLo.out]; exact hfk))
            have C28 := Aside0.mk (fun i : Gd (St wb Bsb) => i.h.gdsame (with_any (nth ro f) t (p64 hN (HLt.out.2 f)) (by omega) i.v))
            refine wp_quiet_tail (fun x => ∃ i : Gd (St wb Bsb), x = i.v) 14 (by kernel_rfl) (by kernel_rfl) ⟨⟨wb.drew, ⟨(Below.refl _ _).drew, HMc.out.st.blk⟩⟩, rfl⟩ ?_
            simp only [List.take, List.drop]
            repeat (quiet_step ((go_at_call 28; exact C28.out _)))
            refine wpQuiet_nil ?_
            rintro w7 ⟨⟨_, hb6⟩, rfl⟩
            have Hw7 := HMc.out.nx hb6.hb
            clear C28 hs1 hs2 hs3 hs4 this hb6
            have HMd := Aside0.mk (Hw7.perm (perm_4123 _ _ _ _ _))
            have hfr := HMd.out.st.free_ (.head _) f
            have hcl := (HMd.out.st.at_ (.head _) f).trans (u64s_get _ _ (by rw [HLo.out]; exact hfk))
            have HMe0 := HMd.out.set f (.int .u64 ((nth ro f ||| 2 ^ t : Nat) : Int))
            rw [u64s_set] at HMe0
            have HMe := Aside0.mk (HMe0.perm (perm_4123 _ _ _ _ _).symm).sub
            clear Hw7 HMe0 HMc HMd
            go_wp2
            refine ⟨⟨j + 1, addR rb t f, addR ro f t, by go_num, hlt, ⟨by rw [addR_length]; exact HLb.out⟩, ⟨by rw [addR_length]; exact HLo.out⟩, ⟨addR_lt _ _ _ hfk HLt.out.1, addR_lt _ _ _ htk HLt.out.2⟩, ⟨?_⟩, ⟨?_⟩, HMe⟩, by simp [intOf]; omega⟩
            · rw [← HFb.out, HD.out, HP.out, List.foldl_cons, HF.out, HT.out]; rfl
            · rw [← HFo.out, HD.out, HP.out, List.foldl_cons, HF.out, HT.out]; rfl
          · have hjl : j = l.length := by omega
            have he1 := HFb.out
            have he2 := HFo.out
            rw [hjl, List.drop_length] at he1 he2
            have HE1 : Aside0 (rb = netBy k l) := ⟨he1⟩
            have HE2 : Aside0 (ro = netOut k l) := ⟨he2⟩
            clear he1 he2 hjl
            have hn0 := (HM.out.st.at_ (.head _) 0).trans rfl
            have hn1 := (HM.out.st.at_ (.head _) 1).trans rfl
            have hn2 := (HM.out.st.at_ (.head _) 2).trans rfl
            have hf0 := HM.out.st.free_ (g := g2) (.tail _ (.tail _ (.tail _ (.head _)))) 0
            have hf1 := HM.out.st.free_ (g := g2) (.tail _ (.tail _ (.tail _ (.head _)))) 1
            have hf2 := HM.out.st.free_ (g := g2) (.tail _ (.tail _ (.tail _ (.head _)))) 2
            have hc0 := (HM.out.st.at_ (g := g2) (.tail _ (.tail _ (.tail _ (.head _)))) 0).trans rfl
            have hc1 := (HM.out.st.at_ (g := g2) (.tail _ (.tail _ (.tail _ (.head _)))) 1).trans rfl
            have hc2 := (HM.out.st.at_ (g := g2) (.tail _ (.tail _ (.tail _ (.head _)))) 2).trans rfl
            go_wp2
            have HF1 := (HM.out.perm (perm_4123 _ _ _ _ _)).set 0 (.int .u64 ((2 ^ k - 1 : Nat) : Int))
            have HF2 := HF1.set 1 (.slice (some ⟨b1, 0, none⟩) k k)
            have HF3 := HF2.set 2 (.slice (some ⟨b2, 0, none⟩) k k)
            clear HF1 HF2 hn0 hn1 hn2 hf0 hf1 hf2 hc0 hc1 hc2
            refine bodyPost_ret (results_cell_row rfl _ _ g2 64 #[.int .u64 ((2 ^ k - 1 : Nat) : Int), .slice (some ⟨b1, 0, none⟩) k k, .slice (some ⟨b2, 0, none⟩) k k] (0, 0) _ rfl (HF3.st.blk _ (.head _)) Tryd.underlying64 rfl (by kernel_rfl)) rfl ?_
            refine ⟨b1, b2, rfl, ⟨?_⟩, ⟨?_⟩, ⟨?_, ?_⟩, ⟨HF3.st.hb⟩⟩
            · rw [netOf, ← HE1.out]
              exact HF3.st.blk _ (.tail _ (.tail _ (.head _)))
            · rw [netOf, ← HE2.out]
              exact HF3.st.blk _ (.tail _ (.tail _ (.tail _ (.head _))))
            · rw [netOf, ← HE1.out]
              exact HLb.out
            · rw [netOf, ← HE2.out]
              exact HLo.out
theorem NetV_of_blk {w : World} {n : NetD} {N b1 b2 : Nat} (hN : N ≤ 40) (h1 : w.heap[b1]? = some (.cells (u64s n.by_) 61 (0, 0))) (h2 : w.heap[b2]? = some (.cells (u64s n.out) 61 (0, 0))) (hl1 : n.by_.length = N) (hl2 : n.out.length = N) : NetV w n (.agg #[.int .u64 (n.all : Int), .slice (some ⟨b1, 0, none⟩) N N, .slice (some ⟨b2, 0, none⟩) N N]) :=
  ⟨some ⟨b1, 0, none⟩, N, some ⟨b2, 0, none⟩, N, by rw [hl1, hl2], rdN_of_block h1 (by omega) (by omega), rdN_of_block h2 (by omega) (by omega)⟩
theorem new_any (N : Nat) (hN : N ≤ 40) (l : List S54) (hl : l.length < 2 ^ 44) (hv : ∀ p, p ∈ l → 0 ≤ p.f0 ∧ p.f0 < N ∧ 0 ≤ p.f1 ∧ p.f1 < N) (A : Option Addr) (c : Nat) (w : World) (hr : RdP w A c l) :
    Calls Tryd.prog 25 #[.agg #[.int .i64 N, .slice A l.length c]] w fun e w' => ∃ v, e = .returned v ∧ Aside0 (NetV w' (netOf N l) v) ∧ Aside0 (Below w.heap.size w w') :=
  (new_blk N hN l hl hv A c w hr).mono fun e w' ⟨b1, b2, he, h1, h2, hl, hb⟩ => ⟨_, he, ⟨NetV_of_blk hN h1.out h2.out hl.out.1 hl.out.2⟩, hb⟩
end Go.Proofs.YtgboplcjafmliaaDoor.G

/- The net of a valid graph; contracts of game.arguments, Moves and Winner. -/
namespace Go.Proofs.YtgboplcjafmliaaDoor.G
open Go.RowKit Go.Proofs.YtgboplcjafmliaaDoorW.PrintWords Go.Proofs.YtgboplcjafmliaaDoorW.PrintLast Go.Proofs.YtgboplcjafmliaaDoorW.PrintMore
open Go.Proofs.YtgboplcjafmliaaDoor.PAll
set_option linter.unusedVariables false
set_option linter.unusedSimpArgs false

theorem nth_addR (l : List Nat) (t f i : Nat) (ht : t < l.length) : nth (addR l t f) i = if i = t then nth l t ||| 2 ^ f else nth l i := by
  unfold addR nth
  rw [List.getD_eq_getElem?_getD, List.getElem?_set]
  by_cases h : t = i
  · subst h; simp [ht]
  · rw [if_neg h, if_neg (Ne.symm h), List.getD_eq_getElem?_getD]
/-- Which nodes a fold of pairs puts into which row. -/
theorem fold_bit (N : Nat) (a b : S54 → Nat) (i j : Nat) : ∀ (l : List S54) (rows : List Nat), rows.length = N → (∀ p, p ∈ l → a p < N) →
    (nth (l.foldl (fun r p => addR r (a p) (b p)) rows) i).testBit j = ((nth rows i).testBit j || l.any fun p => a p == i && b p == j)
  | [], rows, _, _ => by simp
  | p :: l, rows, hr, h => by
    rw [List.foldl_cons, fold_bit N a b i j l _ (by rw [addR_length]; exact hr) (fun q hq => h q (List.mem_cons_of_mem _ hq)), nth_addR _ _ _ _ (by rw [hr]; exact h p List.mem_cons_self), List.any_cons]
    by_cases e : i = a p
    · subst e
      rw [if_pos rfl, Nat.testBit_or, Nat.testBit_two_pow, Bool.or_assoc]
      have h1 : (a p == a p) = true := beq_self_eq_true _
      rw [h1, Bool.true_and]
      have h2 : (b p == j) = decide (b p = j) := rfl
      rw [h2]
    · have h1 : (a p == i) = false := by rw [beq_eq_false_iff_ne]; exact Ne.symm e
      rw [if_neg e, h1, Bool.false_and, Bool.false_or]
theorem fold_len (a b : S54 → Nat) : ∀ (l : List S54) (rows : List Nat), (l.foldl (fun r p => addR r (a p) (b p)) rows).length = rows.length
  | [], rows => rfl
  | p :: l, rows => by rw [List.foldl_cons, fold_len a b l, addR_length]
theorem fold_lt (N : Nat) (a b : S54 → Nat) : ∀ (l : List S54) (rows : List Nat), (∀ p, p ∈ l → b p < N) → (∀ i, nth rows i < 2 ^ N) → ∀ i, nth (l.foldl (fun r p => addR r (a p) (b p)) rows) i < 2 ^ N
  | [], rows, _, h => h
  | p :: l, rows, hb, h => fold_lt N a b l _ (fun q hq => hb q (List.mem_cons_of_mem _ hq)) (addR_lt _ _ _ (hb p List.mem_cons_self) h)
/-- All pairs of a list are between nodes. -/
def InR (N : Nat) (l : List S54) : Prop := ∀ p, p ∈ l → 0 ≤ p.f0 ∧ p.f0 < N ∧ 0 ≤ p.f1 ∧ p.f1 < N
theorem nth_rep0 (k i : Nat) : nth (List.replicate k 0) i = 0 := by
  unfold nth
  rw [List.getD_eq_getElem?_getD, List.getElem?_replicate]
  split <;> rfl
/-- An attack of a list of pairs. -/
def atk (l : List S54) (f t : Nat) : Bool := l.any fun p => p.f1.toNat == t && p.f0.toNat == f
theorem by_bit {N : Nat} {l : List S54} (h : InR N l) (i j : Nat) : (nth (netBy N l) i).testBit j = atk l j i := by
  unfold netBy atk
  rw [fold_bit N (fun p => p.f1.toNat) (fun p => p.f0.toNat) i j l _ (by simp) (fun p hp => by have := h p hp; omega), nth_rep0]
  simp
theorem out_bit {N : Nat} {l : List S54} (h : InR N l) (i j : Nat) : (nth (netOut N l) i).testBit j = atk l i j := by
  unfold netOut atk
  rw [fold_bit N (fun p => p.f0.toNat) (fun p => p.f1.toNat) i j l _ (by simp) (fun p hp => by have := h p hp; omega), nth_rep0]
  simp only [Nat.zero_testBit, Bool.false_or]
  congr 1; funext p; rw [Bool.and_comm]
theorem netOf_ok {N : Nat} (hN : N ≤ 40) {l : List S54} (h : InR N l) : (netOf N l).Ok N where
  hN := hN
  hb := by simp [netOf, netBy, fold_len (fun p => p.f1.toNat) (fun p => p.f0.toNat)]
  ho := by simp [netOf, netOut, fold_len (fun p => p.f0.toNat) (fun p => p.f1.toNat)]
  ha := rfl
  lb := fold_lt N (fun p => p.f1.toNat) (fun p => p.f0.toNat) l _ (fun p hp => by have := h p hp; omega) (fun i => nth_rep _ _)
  lo := fold_lt N (fun p => p.f0.toNat) (fun p => p.f1.toNat) l _ (fun p hp => by have := h p hp; omega) (fun i => nth_rep _ _)
  co := fun i j => by rw [show (netOf N l).by_ = netBy N l from rfl, show (netOf N l).out = netOut N l from rfl, by_bit h, out_bit h]
/-- Validate's OK. -/
theorem valL_ok (N : Int) : ∀ (q : Option S54) (l : List S54), valL N q l = 0 → ∀ p, p ∈ l → 0 ≤ p.f0 ∧ p.f0 < N ∧ 0 ≤ p.f1 ∧ p.f1 < N
  | q, [], _, p, hp => by cases hp
  | q, x :: l, h, p, hp => by
    rw [valL_cons] at h
    rcases List.mem_cons.1 hp with e | hp'
    · subst e
      by_cases h1 : (p.f0 < 0 ∨ p.f1 < 0) ∨ (N ≤ p.f0 ∨ N ≤ p.f1)
      · rw [if_pos h1] at h; omega
      · omega
    by_cases h1 : (x.f0 < 0 ∨ x.f1 < 0) ∨ (N ≤ x.f0 ∨ N ≤ x.f1)
    · rw [if_pos h1] at h; omega
    · rw [if_neg h1] at h
      by_cases h2 : cmpQ q x = true
      · rw [if_pos h2] at h; omega
      · rw [if_neg h2] at h
        exact valL_ok N _ l h p hp'
theorem valE_ok {N : Int} {l : List S54} (h : valE N l = 0) : ∃ M : Nat, N = M ∧ M ≤ 40 ∧ InR M l := by
  unfold valE at h
  split at h
  · omega
  · refine ⟨N.toNat, by omega, by omega, fun p hp => ?_⟩
    have := valL_ok N none l h p hp
    omega

/-- A row of numbers that is read. -/
def RdI (w : World) (A : Option Addr) (c : Nat) (l : List Int) : Prop := l.length ≤ c ∧ (Kd.int .i64).C w A l.length l
theorem RdI.below {w w1 : World} {A : Option Addr} {c : Nat} {l : List Int} (h : RdI w A c l) (hb : Below w.heap.size w w1) : RdI w1 A c l := ⟨h.1, Kd.C_below h.2 hb⟩
def nthI (l : List Int) (i : Nat) : Int := l.getD i 0
theorem nthI_drop (l : List Int) (k : Nat) (h : k < l.length) : l.drop k = nthI l k :: l.drop (k + 1) := by
  rw [List.drop_eq_getElem_cons h, nthI, List.getD_eq_getElem?_getD, List.getElem?_eq_getElem h]; rfl
theorem RdI.cell {w : World} {A : Option Addr} {c : Nat} {l : List Int} (h : RdI w A c l) (i : Nat) (hi : i < l.length) : ∃ ad, A = some ad ∧ w.cell? (ad.add i) = some (.int .i64 (nthI l i)) := by
  have := (Kd.reads_of_C (d := (0 : Int)) h.2).at_ (i : Int) (by omega) (by omega)
  simpa [rdOf, nthI] using this
theorem up_toNat (l : List Int) (h : ∀ x, x ∈ l → 0 ≤ x) : up (l.map Int.toNat) = l := by
  unfold up
  rw [List.map_map]
  conv => rhs; rw [← List.map_id l]
  apply List.map_congr_left
  intro x hx
  have := h x hx
  simp; omega
theorem RdI.nat {w : World} {A : Option Addr} {c : Nat} {l : List Int} (h : RdI w A c l) (h0 : ∀ x, x ∈ l → 0 ≤ x) : RdN .i64 w A c (l.map Int.toNat) := by
  refine ⟨by rw [List.length_map]; exact h.1, ?_⟩
  rw [up_toNat l h0, List.length_map]; exact h.2

/-- What arguments returns. -/
def argE (N : Int) (l : List S54) (game : Int) (line : List Int) : Int :=
  if valE N l ≠ 0 then valE N l else if ¬ (game = 1 ∨ game = 2) then 4 else if (line.any fun x => decide (x < 0) || decide (N ≤ x)) = true then 1
  else if line.length = 0 then 1 else if playedB (netOf N.toNat l) game.toNat (line.map Int.toNat) = true then 0 else 7

set_option maxHeartbeats 400000 in
theorem exists_any (x : Int) (w : World) : Calls Tryd.prog 24 #[.int .i64 x] w fun e w' => e = .returned (.bool (decide (x = 1 ∨ x = 2))) ∧ w = w' := by
  by_cases h1 : x = 1
  · subst h1
    go_enter Tryd.func24, Tryd.ntmps24
    go_wp2
    go_ret
    exact ⟨rfl, rfl⟩
  · have e1 : (x == 1) = false := by rw [beq_eq_false_iff_ne]; exact h1
    by_cases h2 : x = 2
    · subst h2
      go_enter Tryd.func24, Tryd.ntmps24
      go_wp2
      go_ret
      exact ⟨rfl, rfl⟩
    · have e2 : (x == 2) = false := by rw [beq_eq_false_iff_ne]; exact h2
      have he : decide (x = 1 ∨ x = 2) = false := by simp [h1, h2]
      rw [he]
      clear he h1 h2
      go_enter Tryd.func24, Tryd.ntmps24
      go_wp2
      go_ret
      exact ⟨rfl, rfl⟩

set_option maxHeartbeats 4000000 in
set_option maxRecDepth 100000 in
theorem arguments_any (N : Int) (l : List S54) (hl : l.length < 2 ^ 44) (A : Option Addr) (c : Nat) (game : Int) (line : List Int) (hb : line.length < 2 ^ 40) (A2 : Option Addr) (c2 : Nat) (w : World) (hT : TabW w) (hr : RdP w A c l) (hr2 : RdI w A2 c2 line) :
    Calls Tryd.prog 41 #[.agg #[.int .i64 N, .slice A l.length c], .int .i64 game, .slice A2 line.length c2] w fun e w' => e = .returned (.int .i64 (argE N l game line)) ∧ Aside0 (Below w.heap.size w w') := by
  have HR := Aside0.mk hr
  have HR2 := Aside0.mk hr2
  have HT := Aside0.mk hT
  clear hr hr2 hT
  have HB := Aside0.mk (St.refl w)
  let O : Obj := .cells #[.int .i64 N, .slice A l.length c] 24 (0, 0)
  have HVal := Aside0.mk (fun x : World => fun h : RdP x A c l => validate_any N l hl A c x h)
  have HEx := Aside0.mk (exists_any game)
  by_cases hv : valE N l = 0
  · rw [hv] at HVal
    by_cases hg : game = 1 ∨ game = 2
    · rw [decide_eq_true hg] at HEx
      go_enter Tryd.func41, Tryd.ntmps41
      go_wp2_with (first | ((with_reducible refine gate_dst (N := 3) rfl ?_); refine box_st (w := w) 3 #[.int .i64 N, .slice A l.length c] 24 rfl rfl ?hr HB.out ?_; (case hr => go_simp; done); clear HB; intro g w1 HB GE; have hg0 := (HB.out.at_ (List.mem_cons_self) 0).trans rfl; have hg1 := (HB.out.at_ (List.mem_cons_self) 1).trans rfl) | (go_at_call 23; refine (HVal.out _ (HR.out.below HB.out.hb)).mono ?_; rintro e w2 ⟨rfl, hb2⟩; replace HB := Aside0.mk (HB.out.nx hb2.out); clear hb2 hg0 hg1) | (go_at_call 24; refine (HEx.out _).mono ?_; rintro e w' ⟨rfl, rfl⟩))
      obtain ⟨M, rfl, hM, hIn⟩ := valE_ok hv
      have HIn := Aside0.mk hIn
      have HM := Aside0.mk hM
      have HVv := Aside0.mk hv
      have HG := Aside0.mk hg
      clear hM hIn hv hg
      have HW2 : Aside0 (St w2 [(g, O)] w2) := ⟨⟨Below.refl _ _, HB.out.blk⟩⟩
      go_loopw [9, 20] (fun v9 v20 w' => ∃ k : Nat, v20 = .int .i64 k ∧ k ≤ line.length ∧ Aside0 (∀ x, x ∈ line.take k → 0 ≤ x ∧ x < (M : Int)) ∧ Aside0 (w' = w2)) (fun _ v20 _ => line.length - (intOf v20).toNat)
      case atStart => exact ⟨0, rfl, Nat.zero_le _, ⟨fun x hx => by simp at hx⟩, ⟨rfl⟩⟩
      case round =>
        obtain ⟨k, rfl, hk, HGd, HWr⟩ := hrel
        obtain rfl := HWr.out
        clear HWr
        have hgN := (HB.out.at_ (List.mem_cons_self) 0).trans rfl
        by_cases hlt : k < line.length
        · obtain ⟨ad, rfl, hc⟩ := (HR2.out.below HB.out.hb).cell k hlt
          have HD := Aside0.mk (nthI_drop line k hlt)
          have HTk : Aside0 (line.take (k + 1) = line.take k ++ [nthI line k]) := ⟨by rw [List.take_succ_eq_append_getElem hlt, nthI, List.getD_eq_getElem?_getD, List.getElem?_eq_getElem hlt]; rfl⟩
          have HMm : Aside0 (nthI line k ∈ line) := ⟨by rw [nthI, List.getD_eq_getElem?_getD, List.getElem?_eq_getElem hlt]; exact List.getElem_mem hlt⟩
          generalize nthI line k = x at *
          by_cases hx0 : x < 0
          · have HE : Aside0 (argE M l game line = 1) := ⟨by rw [argE, if_neg (by rw [HVv.out]; simp), if_neg (fun h => h HG.out), if_pos (List.any_eq_true.2 ⟨x, HMm.out, by simp [hx0]⟩)]⟩
            go_wp2
            go_ret
            exact ⟨by rw [HE.out]; rfl, ⟨HB.out.hb⟩⟩
          · by_cases hxM : (M : Int) ≤ x
            · have HE : Aside0 (argE M l game line = 1) := ⟨by rw [argE, if_neg (by rw [HVv.out]; simp), if_neg (fun h => h HG.out), if_pos (List.any_eq_true.2 ⟨x, HMm.out, by simp [hxM]⟩)]⟩
              go_wp2
              go_ret
              exact ⟨by rw [HE.out]; rfl, ⟨HB.out.hb⟩⟩
            · have HGd2 : Aside0 (∀ y, y ∈ line.take (k + 1) → 0 ≤ y ∧ y < (M : Int)) := ⟨fun y hy => by
                rw [HTk.out] at hy
                rcases List.mem_append.1 hy with hy | hy
                · exact HGd.out y hy
                · rw [List.mem_singleton.1 hy]; omega⟩
              go_wp2
              exact ⟨⟨k + 1, by go_num, hlt, HGd2, ⟨trivial⟩⟩, by simp [intOf]; omega⟩
        · have hkl : k = line.length := by omega
          have hgd := HGd.out
          rw [hkl, List.take_length] at hgd
          have HLn := Aside0.mk hgd
          have hany : (line.any fun x => decide (x < 0) || decide ((M : Int) ≤ x)) = false := by
            rw [List.any_eq_false]; intro x hx; have := hgd x hx; simp; omega
          have HAny := Aside0.mk hany
          clear hgd hkl hany HGd
          by_cases hle : line.length = 0
          · have HE : Aside0 (argE M l game line = 1) := ⟨by rw [argE, if_neg (by rw [HVv.out]; simp), if_neg (fun h => h HG.out), if_neg (by rw [HAny.out]; simp), if_pos hle]⟩
            have e0 : ((line.length : Int) == 0) = true := by rw [hle]; rfl
            go_wp2
            go_ret
            exact ⟨by rw [HE.out]; rfl, ⟨HB.out.hb⟩⟩
          · have e0 : ((line.length : Int) == 0) = false := by rw [beq_eq_false_iff_ne]; omega
            have hg1 := (HB.out.at_ (List.mem_cons_self) 1).trans rfl
            have HNat : Aside0 (∀ y, y ∈ line.map Int.toNat → y < M) := ⟨fun y hy => by
              obtain ⟨x, hx, rfl⟩ := List.mem_map.1 hy
              have := HLn.out x hx; omega⟩
            have HOk := Aside0.mk (netOf_ok HM.out HIn.out)
            have HLen : Aside0 ((line.map Int.toNat).length = line.length) := ⟨List.length_map _⟩
            have HPl := Aside0.mk (fun (v : Value) (x : World) (h1 : TabW x) (h2 : NetV x (netOf M l) v) (h3 : RdN .i64 x A2 c2 (line.map Int.toNat)) => played_any M (netOf M l) HOk.out game.toNat (by have := HG.out; omega) (line.map Int.toNat) (by rw [HLen.out]; omega) (by rw [HLen.out]; exact hb) HNat.out A2 c2 v x h1 h2 h3)
            have HGt : Aside0 (((game.toNat : Nat) : Int) = game) := ⟨by have := HG.out; omega⟩
            rw [HGt.out, HLen.out] at HPl
            have HRn := Aside0.mk (HR2.out.nat (fun x hx => (HLn.out x hx).1))
            have HNw := Aside0.mk (fun (x : World) (h : RdP x A c l) => new_any M HM.out l hl HIn.out A c x h)
            have HE : Aside0 (argE M l game line = if playedB (netOf M l) game.toNat (line.map Int.toNat) = true then 0 else 7) := ⟨by rw [argE, if_neg (by rw [HVv.out]; simp), if_neg (fun h => h HG.out), if_neg (by rw [HAny.out]; simp), if_neg hle, Int.toNat_natCast]⟩
            clear hle
            cases hpb : playedB (netOf M l) game.toNat (line.map Int.toNat) with
            | true =>
              rw [hpb] at HPl HE
              clear hpb
              go_wp2_with (first | (go_at_call 25; refine (HNw.out _ (HR.out.below HB.out.hb)).mono ?_; rintro e w3 ⟨v3, rfl, hnv, hb3⟩; have HB3 := Aside0.mk (HB.out.nx hb3.out)) | (go_at_call 66; refine (HPl.out _ _ (HT.out.below HT.out.2 HB3.out.hb) hnv.out (HRn.out.below HB3.out.hb)).mono ?_; rintro e w4 ⟨rfl, hb4⟩; have HB4 := Aside0.mk (HB3.out.nx hb4.out)))
              go_ret
              exact ⟨by rw [HE.out]; rfl, ⟨HB4.out.hb⟩⟩
            | false =>
              rw [hpb] at HPl HE
              clear hpb
              go_wp2_with (first | (go_at_call 25; refine (HNw.out _ (HR.out.below HB.out.hb)).mono ?_; rintro e w3 ⟨v3, rfl, hnv, hb3⟩; have HB3 := Aside0.mk (HB.out.nx hb3.out)) | (go_at_call 66; refine (HPl.out _ _ (HT.out.below HT.out.2 HB3.out.hb) hnv.out (HRn.out.below HB3.out.hb)).mono ?_; rintro e w4 ⟨rfl, hb4⟩; have HB4 := Aside0.mk (HB3.out.nx hb4.out)))
              go_ret
              exact ⟨by rw [HE.out]; rfl, ⟨HB4.out.hb⟩⟩
    · have HE : Aside0 (argE N l game line = 4) := ⟨by rw [argE, if_neg (by rw [hv]; simp), if_pos hg]⟩
      rw [decide_eq_false hg] at HEx
      clear hv hg
      go_enter Tryd.func41, Tryd.ntmps41
      go_wp2_with (first | ((with_reducible refine gate_dst (N := 3) rfl ?_); refine box_st (w := w) 3 #[.int .i64 N, .slice A l.length c] 24 rfl rfl ?hr HB.out ?_; (case hr => go_simp; done); clear HB; intro g w1 HB GE; have hg0 := (HB.out.at_ (List.mem_cons_self) 0).trans rfl; have hg1 := (HB.out.at_ (List.mem_cons_self) 1).trans rfl) | (go_at_call 23; refine (HVal.out _ (HR.out.below HB.out.hb)).mono ?_; rintro e w2 ⟨rfl, hb2⟩; replace HB := Aside0.mk (HB.out.nx hb2.out); clear hb2 hg0 hg1) | (go_at_call 24; refine (HEx.out _).mono ?_; rintro e w' ⟨rfl, rfl⟩))
      go_ret
      exact ⟨by rw [HE.out]; rfl, ⟨HB.out.hb⟩⟩
  · have HE : Aside0 (argE N l game line = valE N l) := ⟨by rw [argE, if_pos hv]⟩
    have hv0 : (valE N l == 0) = false := by rw [beq_eq_false_iff_ne]; exact hv
    have hv1 : (valE N l != 0) = true := by rw [bne_iff_ne]; exact hv
    clear hv
    go_enter Tryd.func41, Tryd.ntmps41
    go_wp2_with (first | ((with_reducible refine gate_dst (N := 3) rfl ?_); refine box_st (w := w) 3 #[.int .i64 N, .slice A l.length c] 24 rfl rfl ?hr HB.out ?_; (case hr => go_simp; done); clear HB; intro g w1 HB GE; have hg0 := (HB.out.at_ (List.mem_cons_self) 0).trans rfl; have hg1 := (HB.out.at_ (List.mem_cons_self) 1).trans rfl) | (go_at_call 23; refine (HVal.out _ (HR.out.below HB.out.hb)).mono ?_; rintro e w2 ⟨rfl, hb2⟩; replace HB := Aside0.mk (HB.out.nx hb2.out); clear hb2 hg0 hg1))
    go_ret
    exact ⟨by rw [HE.out]; rfl, ⟨HB.out.hb⟩⟩

/-- What Moves returns: the legal moves where there is no error. -/
def movS (N : Int) (l : List S54) (game : Int) (line : List Int) : Nat := legalM (netOf N.toNat l) game.toNat (line.map Int.toNat)
theorem argE_ok {N : Int} {l : List S54} {game : Int} {line : List Int} (h : argE N l game line = 0) : ∃ M : Nat, N = M ∧ M ≤ 40 ∧ InR M l ∧ (game = 1 ∨ game = 2) ∧ (∀ x, x ∈ line → 0 ≤ x ∧ x < (M : Int)) ∧ 0 < line.length ∧ playedB (netOf M l) game.toNat (line.map Int.toNat) = true := by
  unfold argE at h
  by_cases hv : valE N l ≠ 0
  · rw [if_pos hv] at h; exact absurd h hv
  rw [if_neg hv] at h
  obtain ⟨M, rfl, hM, hIn⟩ := valE_ok (by simpa using hv)
  by_cases hg : ¬ (game = 1 ∨ game = 2)
  · rw [if_pos hg] at h; omega
  rw [if_neg hg] at h
  by_cases ha : (line.any fun x => decide (x < 0) || decide ((M : Int) ≤ x)) = true
  · rw [if_pos ha] at h; omega
  rw [if_neg ha] at h
  by_cases hl : line.length = 0
  · rw [if_pos hl] at h; omega
  rw [if_neg hl, Int.toNat_natCast] at h
  by_cases hp : playedB (netOf M l) game.toNat (line.map Int.toNat) = true
  · exact ⟨M, rfl, hM, hIn, by omega, by simpa using ha, by omega, hp⟩
  · rw [if_neg hp] at h; omega

theorem list_ownM (s : Nat) (hs : s < 2 ^ 64) (w : World) (hT : TabW w) :
    Calls Tryd.prog 43 #[.int .u64 s] w fun e w' => ∃ A c, e = .returned (.slice A (bl s).length c) ∧ Aside0 (w'.ownsRow w.heap.size 3 1 (.slice A (bl s).length c) (bl s).length (nums .i64 (up (bl s)))) ∧ Aside0 (Below w.heap.size w w') :=
  (list_any s hs w hT).mono fun e w' ⟨v0, he, hR, hb⟩ => by
    have h := Kd.own_of_R hR
    rw [List.length_map] at h
    obtain ⟨A, c, hv⟩ := own_slice h
    subst hv
    exact ⟨A, c, he, ⟨h⟩, ⟨hb⟩⟩
/-- What Moves hands back, in words on memory. -/
def MovP (N : Int) (l : List S54) (game : Int) (line : List Int) (w : World) (e : Ending) (w' : World) : Prop :=
  (argE N l game line ≠ 0 ∧ e = .returned (.tuple #[.slice none 0 0, .int .i64 (argE N l game line)]) ∨
    argE N l game line = 0 ∧ ∃ A c, e = .returned (.tuple #[.slice A (bl (movS N l game line)).length c, .int .i64 0]) ∧ w'.ownsRow w.heap.size 3 1 (.slice A (bl (movS N l game line)).length c) (bl (movS N l game line)).length (nums .i64 (up (bl (movS N l game line))))) ∧ Below w.heap.size w w'

set_option maxHeartbeats 4000000 in
set_option maxRecDepth 100000 in
theorem moves_any (N : Int) (l : List S54) (hl : l.length < 2 ^ 44) (A : Option Addr) (c : Nat) (game : Int) (line : List Int) (hb : line.length < 2 ^ 40) (A2 : Option Addr) (c2 : Nat) (w : World) (hT : TabW w) (hr : RdP w A c l) (hr2 : RdI w A2 c2 line) :
    Calls Tryd.prog 14 #[.agg #[.int .i64 N, .slice A l.length c], .int .i64 game, .slice A2 line.length c2] w (MovP N l game line w) := by
  have HR := Aside0.mk hr
  have HR2 := Aside0.mk hr2
  have HT := Aside0.mk hT
  clear hr hr2 hT
  have HB := Aside0.mk (St.refl w)
  let O : Obj := .cells #[.int .i64 N, .slice A l.length c] 24 (0, 0)
  have HArg := Aside0.mk (fun (x : World) (h0 : TabW x) (h1 : RdP x A c l) (h2 : RdI x A2 c2 line) => arguments_any N l hl A c game line hb A2 c2 x h0 h1 h2)
  by_cases he : argE N l game line = 0
  · obtain ⟨M, rfl, hM, hIn, hg, hln, hl0, hpl⟩ := argE_ok he
    have HE := Aside0.mk he
    rw [he] at HArg
    have HNat : Aside0 (∀ y, y ∈ line.map Int.toNat → y < M) := ⟨fun y hy => by
      obtain ⟨x, hx, rfl⟩ := List.mem_map.1 hy
      have := hln x hx; omega⟩
    have HOk := Aside0.mk (netOf_ok hM hIn)
    have HLen : Aside0 ((line.map Int.toNat).length = line.length) := ⟨List.length_map _⟩
    have HLg := Aside0.mk (fun (v : Value) (x : World) (h1 : TabW x) (h2 : NetV x (netOf M l) v) (h3 : RdN .i64 x A2 c2 (line.map Int.toNat)) => legal_any M (netOf M l) HOk.out game.toNat (by omega) (line.map Int.toNat) (by rw [HLen.out]; exact hl0) (by rw [HLen.out]; exact hb) HNat.out A2 c2 v x h1 h2 h3)
    have HGt : Aside0 (((game.toNat : Nat) : Int) = game) := ⟨by omega⟩
    rw [HGt.out, HLen.out] at HLg
    have HRn := Aside0.mk (HR2.out.nat (fun x hx => (hln x hx).1))
    have HNw := Aside0.mk (fun (x : World) (h : RdP x A c l) => new_any M hM l hl hIn A c x h)
    have hS : legalM (netOf M l) game.toNat (line.map Int.toNat) < 2 ^ 64 := p64 hM (legal_lt HOk.out game.toNat _ HNat.out)
    have hSe : movS M l game line = legalM (netOf M l) game.toNat (line.map Int.toNat) := by rw [movS, Int.toNat_natCast]
    rw [← hSe] at HLg hS
    have HS := Aside0.mk hS
    clear hM hIn hg hln hl0 hpl he hS hSe
    go_enter Tryd.func14, Tryd.ntmps14
    go_wp2_with (first | ((with_reducible refine gate_dst (N := 3) rfl ?_); refine box_st (w := w) 3 #[.int .i64 M, .slice A l.length c] 24 rfl rfl ?hr HB.out ?_; (case hr => go_simp; done); clear HB; intro g w1 HB GE; have hg0 := (HB.out.at_ (List.mem_cons_self) 0).trans rfl; have hg1 := (HB.out.at_ (List.mem_cons_self) 1).trans rfl) | (go_at_call 41; refine (HArg.out _ (HT.out.below HT.out.2 HB.out.hb) (HR.out.below HB.out.hb) (HR2.out.below HB.out.hb)).mono ?_; rintro e w2 ⟨rfl, hb2⟩; replace HB := Aside0.mk (HB.out.nx hb2.out); clear hb2 hg0 hg1; have hg0 := (HB.out.at_ (List.mem_cons_self) 0).trans rfl; have hg1 := (HB.out.at_ (List.mem_cons_self) 1).trans rfl) | (go_at_call 25; refine (HNw.out _ (HR.out.below HB.out.hb)).mono ?_; rintro e w3 ⟨v3, rfl, hnv, hb3⟩; have HB3 := Aside0.mk (HB.out.nx hb3.out)) | (go_at_call 42; refine (HLg.out _ _ (HT.out.below HT.out.2 HB3.out.hb) hnv.out (HRn.out.below HB3.out.hb)).mono ?_; rintro e w4 ⟨rfl, hb4⟩; have HB4 := Aside0.mk (HB3.out.nx hb4.out)) | (go_at_call 43; refine (list_ownM _ HS.out _ (HT.out.below HT.out.2 HB4.out.hb)).mono ?_; rintro e w5 ⟨A5, c5, rfl, HL5, hb5⟩; have HB5 := Aside0.mk (HB4.out.nx hb5.out)))
    go_ret2
    exact ⟨.inr ⟨HE.out, A5, c5, rfl, own_weaken HL5.out HB4.out.hb.size⟩, HB5.out.hb⟩
  · have hv0 : (argE N l game line == 0) = false := by rw [beq_eq_false_iff_ne]; exact he
    have hv1 : (argE N l game line != 0) = true := by rw [bne_iff_ne]; exact he
    have HE := Aside0.mk he
    clear he
    go_enter Tryd.func14, Tryd.ntmps14
    go_wp2_with (first | ((with_reducible refine gate_dst (N := 3) rfl ?_); refine box_st (w := w) 3 #[.int .i64 N, .slice A l.length c] 24 rfl rfl ?hr HB.out ?_; (case hr => go_simp; done); clear HB; intro g w1 HB GE; have hg0 := (HB.out.at_ (List.mem_cons_self) 0).trans rfl; have hg1 := (HB.out.at_ (List.mem_cons_self) 1).trans rfl) | (go_at_call 41; refine (HArg.out _ (HT.out.below HT.out.2 HB.out.hb) (HR.out.below HB.out.hb) (HR2.out.below HB.out.hb)).mono ?_; rintro e w2 ⟨rfl, hb2⟩; replace HB := Aside0.mk (HB.out.nx hb2.out); clear hb2 hg0 hg1))
    go_ret2
    exact ⟨.inl ⟨HE.out, rfl⟩, HB.out.hb⟩

/-- What Winner returns. -/
def winE (N : Int) (l : List S54) (game : Int) (line : List Int) : Int :=
  if argE N l game line ≠ 0 ∨ (bl (movS N l game line)).length ≠ 0 then 0 else if line.length % 2 = 1 then 1 else 2

set_option maxHeartbeats 4000000 in
set_option maxRecDepth 100000 in
theorem winner_any (N : Int) (l : List S54) (hl : l.length < 2 ^ 44) (A : Option Addr) (c : Nat) (game : Int) (line : List Int) (hb : line.length < 2 ^ 40) (A2 : Option Addr) (c2 : Nat) (w : World) (hT : TabW w) (hr : RdP w A c l) (hr2 : RdI w A2 c2 line) :
    Calls Tryd.prog 21 #[.agg #[.int .i64 N, .slice A l.length c], .int .i64 game, .slice A2 line.length c2] w fun e w' => e = .returned (.tuple #[.int .i64 (winE N l game line), .int .i64 (argE N l game line)]) ∧ Aside0 (Below w.heap.size w w') := by
  have HR := Aside0.mk hr
  have HR2 := Aside0.mk hr2
  have HT := Aside0.mk hT
  clear hr hr2 hT
  have HB := Aside0.mk (St.refl w)
  have HMv := Aside0.mk (fun (x : World) (h0 : TabW x) (h1 : RdP x A c l) (h2 : RdI x A2 c2 line) => moves_any N l hl A c game line hb A2 c2 x h0 h1 h2)
  by_cases he : argE N l game line = 0
  · have HE := Aside0.mk he
    have hbl := bl_length (movS N l game line)
    by_cases hlen : (bl (movS N l game line)).length = 0
    · have hd : decide (0 < (bl (movS N l game line)).length) = false := by rw [hlen]; rfl
      have HLn := Aside0.mk hlen
      by_cases hpar : line.length % 2 = 1
      · have HW : Aside0 (winE N l game line = 1) := ⟨by rw [winE, if_neg (by rw [he, hlen]; simp), if_pos hpar]⟩
        have e2 : (((line.length : Int) % 2) == 1) = true := by rw [beq_iff_eq]; omega
        rw [HW.out, he]
        clear he hpar hlen
        go_enter Tryd.func21, Tryd.ntmps21
        go_wp2_with (first | ((with_reducible refine gate_dst (N := 3) rfl ?_); refine box_st (w := w) 3 #[.int .i64 N, .slice A l.length c] 24 rfl rfl ?hr HB.out ?_; (case hr => go_simp; done); clear HB; intro g w1 HB GE; have hg0 := (HB.out.at_ (List.mem_cons_self) 0).trans rfl; have hg1 := (HB.out.at_ (List.mem_cons_self) 1).trans rfl) | (go_at_call 14; refine (HMv.out _ (HT.out.below HT.out.2 HB.out.hb) (HR.out.below HB.out.hb) (HR2.out.below HB.out.hb)).mono ?_; rintro e w2 ⟨⟨h, _⟩ | ⟨_, A5, c5, rfl, HL5⟩, hb2⟩; (exact absurd HE.out h); have HB2 := Aside0.mk (HB.out.nx hb2); clear hb2 HL5))
        go_ret2
        exact ⟨rfl, ⟨HB2.out.hb⟩⟩
      · have HW : Aside0 (winE N l game line = 2) := ⟨by rw [winE, if_neg (by rw [he, hlen]; simp), if_neg hpar]⟩
        have e2 : (((line.length : Int) % 2) == 1) = false := by rw [beq_eq_false_iff_ne]; omega
        rw [HW.out, he]
        clear he hpar hlen
        go_enter Tryd.func21, Tryd.ntmps21
        go_wp2_with (first | ((with_reducible refine gate_dst (N := 3) rfl ?_); refine box_st (w := w) 3 #[.int .i64 N, .slice A l.length c] 24 rfl rfl ?hr HB.out ?_; (case hr => go_simp; done); clear HB; intro g w1 HB GE; have hg0 := (HB.out.at_ (List.mem_cons_self) 0).trans rfl; have hg1 := (HB.out.at_ (List.mem_cons_self) 1).trans rfl) | (go_at_call 14; refine (HMv.out _ (HT.out.below HT.out.2 HB.out.hb) (HR.out.below HB.out.hb) (HR2.out.below HB.out.hb)).mono ?_; rintro e w2 ⟨⟨h, _⟩ | ⟨_, A5, c5, rfl, HL5⟩, hb2⟩; (exact absurd HE.out h); have HB2 := Aside0.mk (HB.out.nx hb2); clear hb2 HL5))
        go_ret2
        exact ⟨rfl, ⟨HB2.out.hb⟩⟩
    · have hd : decide (0 < (bl (movS N l game line)).length) = true := by rw [decide_eq_true_eq]; omega
      have HW : Aside0 (winE N l game line = 0) := ⟨by rw [winE, if_pos (.inr hlen)]⟩
      rw [HW.out, he]
      clear he hlen
      go_enter Tryd.func21, Tryd.ntmps21
      go_wp2_with (first | ((with_reducible refine gate_dst (N := 3) rfl ?_); refine box_st (w := w) 3 #[.int .i64 N, .slice A l.length c] 24 rfl rfl ?hr HB.out ?_; (case hr => go_simp; done); clear HB; intro g w1 HB GE; have hg0 := (HB.out.at_ (List.mem_cons_self) 0).trans rfl; have hg1 := (HB.out.at_ (List.mem_cons_self) 1).trans rfl) | (go_at_call 14; refine (HMv.out _ (HT.out.below HT.out.2 HB.out.hb) (HR.out.below HB.out.hb) (HR2.out.below HB.out.hb)).mono ?_; rintro e w2 ⟨⟨h, _⟩ | ⟨_, A5, c5, rfl, HL5⟩, hb2⟩; (exact absurd HE.out h); have HB2 := Aside0.mk (HB.out.nx hb2); clear hb2 HL5))
      go_ret2
      exact ⟨rfl, ⟨HB2.out.hb⟩⟩
  · have hv0 : (argE N l game line == 0) = false := by rw [beq_eq_false_iff_ne]; exact he
    have hv1 : (argE N l game line != 0) = true := by rw [bne_iff_ne]; exact he
    have HE := Aside0.mk he
    have HW : Aside0 (winE N l game line = 0) := ⟨by rw [winE, if_pos (.inl he)]⟩
    rw [HW.out]
    clear he
    go_enter Tryd.func21, Tryd.ntmps21
    go_wp2_with (first | ((with_reducible refine gate_dst (N := 3) rfl ?_); refine box_st (w := w) 3 #[.int .i64 N, .slice A l.length c] 24 rfl rfl ?hr HB.out ?_; (case hr => go_simp; done); clear HB; intro g w1 HB GE; have hg0 := (HB.out.at_ (List.mem_cons_self) 0).trans rfl; have hg1 := (HB.out.at_ (List.mem_cons_self) 1).trans rfl) | (go_at_call 14; refine (HMv.out _ (HT.out.below HT.out.2 HB.out.hb) (HR.out.below HB.out.hb) (HR2.out.below HB.out.hb)).mono ?_; rintro e w2 ⟨⟨_, rfl⟩ | ⟨h, _⟩, hb2⟩; (rotate_left; exact absurd h HE.out); have HB2 := Aside0.mk (HB.out.nx hb2); clear hb2))
    go_ret2
    exact ⟨rfl, ⟨HB2.out.hb⟩⟩
end Go.Proofs.YtgboplcjafmliaaDoor.G
