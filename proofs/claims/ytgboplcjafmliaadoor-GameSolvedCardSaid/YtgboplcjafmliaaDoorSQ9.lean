/- The reference's Reached, for a strategy whose reached nodes have replies. -/
import Derived.Test.YtgboplcjafmliaaDoorSQ8
import Derived.Test.YtgboplcjafmliaaDoorPAllx8
/- The reference's Reached, for a strategy whose reached nodes have replies. -/
namespace Go.Proofs.YtgboplcjafmliaaDoor.G
open Go.RowKit Go.Proofs.YtgboplcjafmliaaDoorW.PrintWords Go.Proofs.YtgboplcjafmliaaDoorW.PrintLast Go.Proofs.YtgboplcjafmliaaDoorW.PrintMore
open Go.Proofs.YtgboplcjafmliaaDoor.PAll
set_option linter.unusedVariables false
set_option linter.unusedSimpArgs false

theorem made_false (n : Nat) : madeCells #[Value.bool false] n = bools (List.replicate n false) := by
  apply Array.toList_inj.1
  apply List.ext_getElem
  · simp [bools, madeCells]
  · intro i h1 h2
    simp [bools, madeCells, Nat.mod_one]
theorem BR.grown {w x y : World} {bs : List (Nat × Obj)} {b6 : Nat} {inn : List Bool} (h : BR w bs b6 inn x) {row : Option Nat} (hg : x.grownBy y row) {B : Nat} (hB : w.heap.size ≤ B) (hr : ∀ k, row = some k → B ≤ k) (h6 : b6 < B) (hbs : ∀ p, p ∈ bs → p.1 < B) : BR w bs b6 inn y where
  st := h.st.grown hg (fun k hk => Nat.le_trans hB (hr k hk)) (fun p hp e => by
    have h1 := hbs p hp
    have h2 := hr p.1 e.symm
    omega)
  k6 := blk_grown h.k6 hg (fun e => by have := hr b6 e.symm; omega)
  g6 := h.g6
  ne := h.ne
theorem BR.lt {w x : World} {bs : List (Nat × Obj)} {b6 : Nat} {inn : List Bool} (h : BR w bs b6 inn x) : b6 < x.heap.size ∧ ∀ p, p ∈ bs → p.1 < x.heap.size := ⟨blk_lt h.k6, fun p hp => blk_lt (h.st.blk p hp)⟩
theorem BR.made {w x : World} {bs : List (Nat × Obj)} (h : St w bs x) (M : Nat) : BR w bs x.heap.size (List.replicate M false) (x.alloc (.cells (madeCells #[Value.bool false] M) 4)) := by
  rw [made_false]
  exact ⟨h.nx (below_alloc (Below.refl _ x) _), blk_new x _, h.hb.size, fun p hp => Nat.ne_of_lt (blk_lt (h.blk p hp))⟩
/-- The reached nodes so far, in a round. -/
structure RI (E : Nat → Nat → Prop) (root M r a : Nat) (inn : List Bool) : Prop where
  len : inn.length = M
  s : ∀ c, nthB inn c = true → Rch E root c
  d : ∀ c, Dk E root r c → nthB inn c = true
  e : ∀ b, b < a → Dk E root r b → ∀ c, E b c → nthB inn c = true
theorem RI.set {E : Nat → Nat → Prop} {root M r a : Nat} {inn : List Bool} (h : RI E root M r a inn) {c : Nat} (hc : c < M) (hr : Rch E root c) : RI E root M r a (inn.set c true) := by
  have hs : ∀ i, nthB (inn.set c true) i = if i = c then true else nthB inn i := fun i => nthB_set inn c true i (by rw [h.len]; exact hc)
  have hm : ∀ i, nthB inn i = true → nthB (inn.set c true) i = true := fun i hi => by
    rw [hs]; split
    · rfl
    · exact hi
  exact ⟨by rw [List.length_set]; exact h.len, fun i hi => by
    rw [hs] at hi
    split at hi
    · rename_i e; rw [e]; exact hr
    · exact h.s i hi, fun i hi => hm i (h.d i hi), fun b hb hd i hi => hm i (h.e b hb hd i hi)⟩
theorem set_mono {inn : List Bool} {c : Nat} (hc : c < inn.length) : ∀ i, nthB inn i = true → nthB (inn.set c true) i = true := fun i hi => by
  rw [nthB_set inn c true i hc]; split
  · rfl
  · exact hi
theorem set_self {inn : List Bool} {c : Nat} (hc : c < inn.length) : nthB (inn.set c true) c = true := by
  rw [nthB_set inn c true c hc, if_pos rfl]
theorem set_same {inn : List Bool} {c : Nat} {v : Bool} (hc : c < inn.length) (h : nthB inn c = v) : inn.set c v = inn := by
  apply List.ext_getElem
  · simp
  · intro i h1 h2
    rw [List.getElem_set]
    split
    · rename_i e
      subst e
      unfold nthB at h
      rw [List.getD_eq_getElem?_getD, List.getElem?_eq_getElem hc] at h
      exact h.symm
    · rfl
theorem RI.next {E : Nat → Nat → Prop} {root M r a : Nat} {inn : List Bool} (h : RI E root M r a inn) (he : Dk E root r a → ∀ c, E a c → nthB inn c = true) : RI E root M r (a + 1) inn :=
  ⟨h.len, h.s, h.d, fun b hb hd => by
    rcases Nat.lt_succ_iff_lt_or_eq.1 hb with h1 | h1
    · exact h.e b h1 hd
    · rw [h1] at hd ⊢; exact he hd⟩
theorem RI.round {E : Nat → Nat → Prop} {root M r : Nat} {inn : List Bool} (h : RI E root M r M inn) (hM : ∀ c, Rch E root c → c < M) : RI E root M (r + 1) 0 inn :=
  ⟨h.len, h.s, fun c hc => by
    rcases hc with hc | ⟨a, h1, h2⟩
    · exact h.d c hc
    · exact h.e a (hM a (Dk_rch r a h1)) h1 c h2, fun b hb => absurd hb (Nat.not_lt_zero _)⟩
theorem RI.all {E : Nat → Nat → Prop} {root M : Nat} {inn : List Bool} (h : RI E root M (M + 1) 0 inn) (hM : ∀ c, Rch E root c → c < M) (c : Nat) : nthB inn c = true ↔ Rch E root c :=
  ⟨h.s c, fun hc => h.d c (.inl (Dk_all hM hc))⟩
theorem RI.start {E : Nat → Nat → Prop} {root M : Nat} (hr : root < M) : RI E root M 0 0 ((List.replicate M false).set root true) := by
  have hs : ∀ i, nthB ((List.replicate M false).set root true) i = if i = root then true else nthB (List.replicate M false) i := fun i => nthB_set _ root true i (by simpa using hr)
  have h0 : ∀ i, nthB (List.replicate M false) i = false := fun i => by
    unfold nthB
    rw [List.getD_eq_getElem?_getD, List.getElem?_replicate]
    split <;> rfl
  refine ⟨by simp, fun c hc => ?_, fun c hc => ?_, fun b hb => absurd hb (Nat.not_lt_zero _)⟩
  · rw [hs, h0] at hc
    split at hc
    · rename_i e; rw [e]; exact .root
    · cases hc
  · have hc : c = root := hc
    rw [hs, if_pos hc]
/-- The elements below i of a row of bools. -/
def inU (inn : List Bool) (i : Nat) : List Nat := (List.range' 0 i).filter fun x => nthB inn x
theorem inU_succ (inn : List Bool) (i : Nat) : inU inn (i + 1) = inU inn i ++ (if nthB inn i = true then [i] else []) := by
  unfold inU
  rw [List.range'_concat, List.filter_append]
  congr 1
  simp only [Nat.zero_add, Nat.mul_one, Nat.one_mul, List.filter_cons, List.filter_nil]
theorem inU_len (inn : List Bool) (i : Nat) : (inU inn i).length ≤ i := Nat.le_trans (List.length_filter_le _ _) (by simp)
/-- Whose strategy it is, with its steps. -/
inductive WW (M : Nat) (n : NetD) (rs : List Rp) (root : Nat) : Int → (Nat → Nat → Prop) → Prop
  | one : W1 M n rs root → WW M n rs root 1 (E1 n rs)
  | two : W2 M n rs root → WW M n rs root 2 (E2 n rs)
theorem WW.lt {M : Nat} {n : NetD} {rs : List Rp} {root : Nat} {who : Int} {E : Nat → Nat → Prop} (h : WW M n rs root who E) : ∀ c, Rch E root c → c < M := by
  cases h with
  | one h => exact h.lt
  | two h => exact h.lt
/-- The blocks of a reference function on a graph and a strategy. -/
def gsB (M : Nat) (l : List S54) (A : Option Addr) (c : Nat) (game : Int) (root : Nat) (who : Int) (A4 : Option Addr) (m4 c4 g g2 : Nat) : List (Nat × Obj) :=
  [(g2, .cells #[.int .i64 (game : Int), .int .i64 (root : Int), .int .i64 who, .slice A4 m4 c4] 33 (0, 0)), (g, .cells #[.int .i64 (M : Int), .slice A l.length c] 24 (0, 0))]
set_option maxHeartbeats 8000000 in
set_option maxRecDepth 100000 in
theorem reached_any (M : Nat) (hM : M ≤ 40) (l : List S54) (hl : l.length < 2 ^ 40) (hIn : InR M l) (A : Option Addr) (c : Nat) (game : Int) (root : Nat) (hroot : root < M) (who : Int) (E : Nat → Nat → Prop) (rs : List Rp) (hrs : rs.length < 1000) (A4 : Option Addr) (c4 : Nat) (hW : WW M (netOf M l) rs root who E) (w : World) (hr : RdP w A c l) (ho : RdR w A4 c4 rs) :
    Calls Tryd.prog 36 #[.agg #[.int .i64 (M : Int), .slice A l.length c], .agg #[.int .i64 (game : Int), .int .i64 (root : Int), .int .i64 who, .slice A4 rs.length c4]] w fun e w' => ∃ (A5 : Option Addr) (c5 : Nat) (L : List Nat), e = .returned (.tuple #[.slice A5 L.length c5, .bool true]) ∧ Aside0 (∀ a, a ∈ L ↔ Rch E root a) ∧ L.length ≤ M ∧ Aside0 (OwnI w' w.heap.size (.slice A5 L.length c5) L) ∧ Aside0 (Below w.heap.size w w') := by
  have HR := Aside0.mk hr
  have HO := Aside0.mk ho
  have HW := Aside0.mk hW
  have HNet := Aside0.mk (netOf_ok hM hIn)
  have HIn := Aside0.mk hIn
  have HB := Aside0.mk (St.refl w)
  have HLt := Aside0.mk hW.lt
  have hmk := print_make_of (P := Tryd.prog) 101 4 (.bool false) 1 Tryd.underlying101 info4 rfl (by decide) M (by omega)
  have HHas := Aside0.mk (fun (a b : Nat) W (hb : Below w.heap.size w W) => nhas_any (M : Int) (a : Int) (b : Int) l (by omega) A c W (hr.below hb))
  have HRep := Aside0.mk (fun (t : Nat) (ht : t < 64) W (hb : Below w.heap.size w W) => rreply_any rs hrs t ht A4 c4 (game : Int) (root : Int) who W (ho.below hb))
  clear hr hIn ho hW
  have r1 : (root : Int) < (M : Int) := by omega
  go_enter Tryd.func36, Tryd.ntmps36
  go_upto_region 1 with (first | ((with_reducible refine gate_dst (N := 2) rfl ?_); refine box_st (w := w) 2 #[.int .i64 (M : Int), .slice A l.length c] 24 rfl rfl ?hr HB.out ?_; (case hr => go_simp; done); clear HB; intro g w1 HB GE) | ((with_reducible refine gate_dst (N := 3) rfl ?_); refine box_st (w := w) 3 #[.int .i64 (game : Int), .int .i64 (root : Int), .int .i64 who, .slice A4 rs.length c4] 33 rfl rfl ?hr HB.out ?_; (case hr => go_simp; done); clear HB; intro g2 w2 HB GE2))
  have hx0 := (HB.out.at_ (.tail _ (.head _)) 0).trans rfl
  go_upto_region 2 with fail
  have HG0 := Aside0.mk (BR.made HB.out M)
  change Code.wp Tryd.prog _ _ _ (w2.alloc (.cells (madeCells #[Value.bool false] M) 4))
  clear HB hx0 hmk
  generalize w2.heap.size = b6 at *
  generalize w2.alloc (.cells (madeCells #[Value.bool false] M) 4) = w3 at *
  have HG0 : Aside0 (BR w (gsB M l A c game root who A4 rs.length c4 g g2) b6 (List.replicate M false) w3) := HG0
  have hs1 := (HG0.out.st.at_ (.head _) 1).trans rfl
  have hc6 := HG0.out.at_ (i := root) (by simpa using hroot)
  have hf6 := HG0.out.fr root
  have HI := Aside0.mk (RI.start (E := E) hroot)
  go_upto_region 5 with fail
  have HG := Aside0.mk (HG0.out.set root true)
  clear HG0 hs1 hc6 hf6
  go_loopw [7, 8] (fun v7 v8 x => ∃ (r : Nat) (inn : List Bool), v7 = .bool true ∧ v8 = .int .i64 (r : Int) ∧ r ≤ M + 1 ∧ Aside0 (RI E root M r 0 inn) ∧ Aside0 (BR w (gsB M l A c game root who A4 rs.length c4 g g2) b6 inn x)) (fun _ v8 _ => M + 1 - (intOf v8).toNat)
  case atStart => exact ⟨0, _, rfl, rfl, by omega, HI, HG⟩
  case round =>
    clear HG HI
    obtain ⟨r, inn, rfl, rfl, hrr, HI, HG⟩ := hrel
    have hx0 := (HG.out.st.at_ (g := g) (.tail _ (.head _)) 0).trans rfl
    by_cases hrl : r ≤ M
    · have i1 : decide ((r : Int) ≤ (M : Int)) = true := decide_eq_true (by omega)
      have i1b : decide (r ≤ M) = true := decide_eq_true hrl
      have HRl := Aside0.mk hrl
      clear hrl
      go_upto_region 8 with fail
      clear hx0 i1 i1b
      go_loopw [7, 9] (fun v7 v9 x => ∃ (a : Nat) (inn : List Bool), v7 = .bool true ∧ v9 = .int .i64 (a : Int) ∧ a ≤ M ∧ Aside0 (RI E root M r a inn) ∧ Aside0 (BR w (gsB M l A c game root who A4 rs.length c4 g g2) b6 inn x)) (fun _ v9 _ => M - (intOf v9).toNat)
      case atStart => exact ⟨0, _, rfl, rfl, by omega, HI, HG⟩
      case round =>
        clear HG HI
        obtain ⟨a, inn, rfl, rfl, haa, HI, HG⟩ := hrel
        have hx0 := (HG.out.st.at_ (g := g) (.tail _ (.head _)) 0).trans rfl
        by_cases hal : a < M
        · have i1 : decide ((a : Int) < (M : Int)) = true := decide_eq_true (by omega)
          have i2 : (a : Int) < (M : Int) := by omega
          have hc6 := HG.out.at_ (i := a) (by rw [HI.out.len]; exact hal)
          cases hin : nthB inn a with
          | false =>
            rw [hin] at hc6
            have HIn2 := Aside0.mk hin
            clear hin
            go_wp2
            exact ⟨⟨a + 1, inn, rfl, by go_num, hal, ⟨HI.out.next (fun hd => by have := HI.out.d a hd; rw [HIn2.out] at this; cases this)⟩, HG⟩, by simp [intOf]; omega⟩
          | true =>
            rw [hin] at hc6
            have HRa := Aside0.mk (HI.out.s a hin)
            clear hin
            cases HW.out with
            | one hW1 =>
              have HNx : Aside0 (∀ inn' : List Bool, RI (E1 (netOf M l) rs) root M r a inn' → (∀ b, b < M → At (netOf M l) a b → ∀ y, rep rs b = some y → nthB inn' y = true) → RI (E1 (netOf M l) rs) root M r (a + 1) inn') := ⟨fun inn' h1 h2 => h1.next fun _ c hc => by
                obtain ⟨b, h3, h4⟩ := hc
                exact h2 b (At.lt HNet.out h3) h3 c h4⟩
              have HRe : Aside0 (∀ b : Nat, b < M → atkB l (b : Int) (a : Int) = true → ∃ y : Nat, y < M ∧ Rch (E1 (netOf M l) rs) root y ∧ rep rs b = some y ∧ (∀ W, Below w.heap.size w W → Calls Tryd.prog 62 #[.agg #[.int .i64 (game : Int), .int .i64 (root : Int), .int .i64 1, .slice A4 rs.length c4], .int .i64 (b : Int)] W fun e w' => e = .returned (.int .i64 (y : Int)) ∧ Aside0 (Below W.heap.size W w')) ∧ (∀ W, Below w.heap.size w W → Calls Tryd.prog 15 #[.agg #[.int .i64 (M : Int), .slice A l.length c], .int .i64 (y : Int), .int .i64 (b : Int)] W fun e w' => e = .returned (.bool true) ∧ Aside0 (Below W.heap.size W w'))) := ⟨fun b hbM hat => by
                rw [atkB_nat HIn.out] at hat
                obtain ⟨y, h1, h2, h3⟩ := hW1.re a b HRa.out ((at_atk HIn.out a b).2 hat)
                refine ⟨y, At.lt HNet.out h2, h3, h1, fun W hb => ?_, fun W hb => ?_⟩
                · have h := HRep.out b (by omega) W hb
                  have e : repI rs b = (y : Int) := by unfold repI; rw [h1]
                  rw [e] at h; exact h
                · have h := HHas.out y b W hb
                  rw [atkB_nat HIn.out, (at_atk HIn.out b y).1 h2] at h; exact h⟩
              clear hW1
              have hy2 := (HG.out.st.at_ (g := g2) (.head _) 2).trans rfl
              go_upto_region 20 with fail
              have HC0 : Aside0 (∀ b, b < 0 → At (netOf M l) a b → ∀ y, rep rs b = some y → nthB inn y = true) := ⟨fun c hc => absurd hc (Nat.not_lt_zero _)⟩
              clear i1 hy2 hx0 hc6
              go_loopw [7, 12] (fun v7 v12 x => ∃ (b : Nat) (inn : List Bool), v7 = .bool true ∧ v12 = .int .i64 (b : Int) ∧ b ≤ M ∧ Aside0 (RI (E1 (netOf M l) rs) root M r a inn) ∧ Aside0 (∀ b', b' < b → At (netOf M l) a b' → ∀ y, rep rs b' = some y → nthB inn y = true) ∧ Aside0 (BR w (gsB M l A c game root 1 A4 rs.length c4 g g2) b6 inn x)) (fun _ v12 _ => M - (intOf v12).toNat)
              case atStart => exact ⟨0, inn, rfl, rfl, Nat.zero_le _, HI, HC0, HG⟩
              case round =>
                clear HG HI HC0
                obtain ⟨b, inn, rfl, rfl, hb, HI, HC, HG⟩ := hrel
                have hx0 := (HG.out.st.at_ (g := g) (.tail _ (.head _)) 0).trans rfl
                have hx1 := (HG.out.st.at_ (g := g) (.tail _ (.head _)) 1).trans rfl
                by_cases hbl : b < M
                · have i1 : decide ((b : Int) < (M : Int)) = true := decide_eq_true (by omega)
                  have i2b : (b : Int) < (M : Int) := by omega
                  have hlen := HI.out.len
                  have HHs2 := Aside0.mk (HHas.out b a)
                  cases hat : atkB l (b : Int) (a : Int) with
                  | false =>
                    rw [hat] at HHs2
                    have HC2 : Aside0 (∀ b', b' < b + 1 → At (netOf M l) a b' → ∀ y, rep rs b' = some y → nthB inn y = true) := ⟨fun c hc h y hy => by
                      rcases Nat.lt_succ_iff_lt_or_eq.1 hc with h1 | h1
                      · exact HC.out c h1 h y hy
                      · have h2 := (at_atk HIn.out a b).1 (by rw [← h1]; exact h)
                        rw [← atkB_nat HIn.out, hat] at h2; cases h2⟩
                    clear hat
                    go_wp2_with (first | (go_at_call 15; refine (HHs2.out _ HG.out.st.hb).mono ?_; rintro e w9 ⟨rfl, hbb⟩; have HG9 := Aside0.mk (HG.out.nx hbb.out)))
                    exact ⟨⟨b + 1, inn, rfl, by go_num, hbl, HI, HC2, HG9⟩, by simp [intOf]; omega⟩
                  | true =>
                    rw [hat] at HHs2
                    obtain ⟨y, hyM, hyR, hyE, hC62, hC15⟩ := HRe.out b hbl hat
                    have HC62 := Aside0.mk hC62
                    have HC15 := Aside0.mk hC15
                    have HI2 := Aside0.mk (HI.out.set hyM hyR)
                    have HC2 : Aside0 (∀ b', b' < b + 1 → At (netOf M l) a b' → ∀ y', rep rs b' = some y' → nthB (inn.set y true) y' = true) := ⟨fun c hc h y' hy' => by
                      rcases Nat.lt_succ_iff_lt_or_eq.1 hc with h1 | h1
                      · exact set_mono (by omega) y' (HC.out c h1 h y' hy')
                      · rw [h1, hyE] at hy'
                        injection hy' with hy'
                        rw [← hy']; exact set_self (by omega)⟩
                    have n1 : decide (0 ≤ (y : Int)) = true := decide_eq_true (by omega)
                    have n2 : (y : Int) < (M : Int) := by omega
                    clear hat hyR hyE hC62 hC15
                    go_upto_region 24 with (first | (go_at_call 15; refine (HHs2.out _ HG.out.st.hb).mono ?_; rintro e w5 ⟨rfl, hbb⟩; have HG5 := Aside0.mk (HG.out.nx hbb.out); clear HG hx0 hx1 hbb HHs2; have hy0 := (HG5.out.st.at_ (g := g2) (.head _) 0).trans rfl; have hy1 := (HG5.out.st.at_ (g := g2) (.head _) 1).trans rfl; have hy2 := (HG5.out.st.at_ (g := g2) (.head _) 2).trans rfl; have hy3 := (HG5.out.st.at_ (g := g2) (.head _) 3).trans rfl) | (go_at_call 62; refine (HC62.out _ HG5.out.st.hb).mono ?_; rintro e w6 ⟨rfl, hbb⟩; have HG6 := Aside0.mk (HG5.out.nx hbb.out); clear HG5 hy0 hy1 hy2 hy3 hbb HC62; have hx0 := (HG6.out.st.at_ (g := g) (.tail _ (.head _)) 0).trans rfl; have hx1 := (HG6.out.st.at_ (g := g) (.tail _ (.head _)) 1).trans rfl))
                    go_wp2_with (first | (go_at_call 15; refine (HC15.out _ HG6.out.st.hb).mono ?_; rintro e w7 ⟨rfl, hbb⟩; have HG7 := Aside0.mk (HG6.out.nx hbb.out); clear HG6 hx0 hx1 hbb HC15; have hc7 := HG7.out.at_ (i := y) (by omega); have hf7 := HG7.out.fr y))
                    exact ⟨⟨b + 1, _, rfl, by go_num, hbl, HI2, HC2, ⟨HG7.out.set y true⟩⟩, by simp [intOf]; omega⟩
                · have i1 : decide ((b : Int) < (M : Int)) = false := decide_eq_false (by omega)
                  have hbe : b = M := by omega
                  subst hbe
                  have HI2 := Aside0.mk (HNx.out inn HI.out HC.out)
                  go_wp2
                  exact ⟨⟨a + 1, inn, rfl, by go_num, hal, HI2, HG⟩, by simp [intOf]; omega⟩
            | two hW2 =>
              obtain ⟨rr, hr1, hr2⟩ := hW2.re a HRa.out
              have hrM : rr < M := At.lt HNet.out hr2
              have HNx : Aside0 (∀ inn' : List Bool, RI (E2 (netOf M l) rs) root M r a inn' → (∀ c, c < M → At (netOf M l) rr c → nthB inn' c = true) → RI (E2 (netOf M l) rs) root M r (a + 1) inn') := ⟨fun inn' h1 h2 => h1.next fun _ c hc => by
                obtain ⟨r', h3, h4⟩ := hc
                rw [hr1] at h3
                injection h3 with h3
                subst h3
                exact h2 c (At.lt HNet.out h4) h4⟩
              have HStep : Aside0 (∀ c : Nat, atkB l (c : Int) (rr : Int) = true → Rch (E2 (netOf M l) rs) root c) := ⟨fun c hc => .step HRa.out ⟨rr, hr1, (at_atk HIn.out rr c).2 (by rw [← atkB_nat HIn.out]; exact hc)⟩⟩
              have HRp : Aside0 (∀ W, Below w.heap.size w W → Calls Tryd.prog 62 #[.agg #[.int .i64 (game : Int), .int .i64 (root : Int), .int .i64 2, .slice A4 rs.length c4], .int .i64 (a : Int)] W fun e w' => e = .returned (.int .i64 (rr : Int)) ∧ Aside0 (Below W.heap.size W w')) := ⟨fun W hb => by
                have h := HRep.out a (by omega) W hb
                have e : repI rs a = (rr : Int) := by unfold repI; rw [hr1]
                rw [e] at h; exact h⟩
              have HHs : Aside0 (∀ W, Below w.heap.size w W → Calls Tryd.prog 15 #[.agg #[.int .i64 (M : Int), .slice A l.length c], .int .i64 (rr : Int), .int .i64 (a : Int)] W fun e w' => e = .returned (.bool true) ∧ Aside0 (Below W.heap.size W w')) := ⟨fun W hb => by
                have h := HHas.out rr a W hb
                rw [atkB_nat HIn.out, (at_atk HIn.out a rr).1 hr2] at h; exact h⟩
              clear hr1 hr2 hW2
              have n1 : decide ((rr : Int) < 0) = false := decide_eq_false (by omega)
              have hy0 := (HG.out.st.at_ (g := g2) (.head _) 0).trans rfl
              have hy1 := (HG.out.st.at_ (g := g2) (.head _) 1).trans rfl
              have hy2 := (HG.out.st.at_ (g := g2) (.head _) 2).trans rfl
              have hy3 := (HG.out.st.at_ (g := g2) (.head _) 3).trans rfl
              go_upto_region 16 with (first | (go_at_call 62; refine (HRp.out _ HG.out.st.hb).mono ?_; rintro e w5 ⟨rfl, hb⟩; have HG5 := Aside0.mk (HG.out.nx hb.out); clear HG hx0 hc6 hy0 hy1 hy2 hy3 hb; have hx0 := (HG5.out.st.at_ (g := g) (.tail _ (.head _)) 0).trans rfl; have hx1 := (HG5.out.st.at_ (g := g) (.tail _ (.head _)) 1).trans rfl) | (go_at_call 15; refine (HHs.out _ HG5.out.st.hb).mono ?_; rintro e w6 ⟨rfl, hbb⟩; have HG6 := Aside0.mk (HG5.out.nx hbb.out); clear HG5 hx0 hx1 hbb))
              have HC0 : Aside0 (∀ c, c < 0 → At (netOf M l) rr c → nthB inn c = true) := ⟨fun c hc => absurd hc (Nat.not_lt_zero _)⟩
              clear i1
              go_loopw [11] (fun v11 x => ∃ (b : Nat) (inn : List Bool), v11 = .int .i64 (b : Int) ∧ b ≤ M ∧ Aside0 (RI (E2 (netOf M l) rs) root M r a inn) ∧ Aside0 (∀ c, c < b → At (netOf M l) rr c → nthB inn c = true) ∧ Aside0 (BR w (gsB M l A c game root 2 A4 rs.length c4 g g2) b6 inn x)) (fun v11 _ => M - (intOf v11).toNat)
              case atStart => exact ⟨0, inn, rfl, Nat.zero_le _, HI, HC0, HG6⟩
              case round =>
                clear HG6 HI HC0
                obtain ⟨b, inn, rfl, hb, HI, HC, HG⟩ := hrel
                have hx0 := (HG.out.st.at_ (g := g) (.tail _ (.head _)) 0).trans rfl
                have hx1 := (HG.out.st.at_ (g := g) (.tail _ (.head _)) 1).trans rfl
                by_cases hbl : b < M
                · have i1 : decide ((b : Int) < (M : Int)) = true := decide_eq_true (by omega)
                  have i2b : (b : Int) < (M : Int) := by omega
                  have hlen := HI.out.len
                  have hc6 := HG.out.at_ (i := b) (by omega)
                  have hf6 := HG.out.fr b
                  cases hin : nthB inn b with
                  | true =>
                    rw [hin] at hc6
                    have HS := Aside0.mk (HG.out.set b true)
                    rw [set_same (by omega) hin] at HS
                    have HC2 : Aside0 (∀ c, c < b + 1 → At (netOf M l) rr c → nthB inn c = true) := ⟨fun c hc h => by
                      rcases Nat.lt_succ_iff_lt_or_eq.1 hc with h1 | h1
                      · exact HC.out c h1 h
                      · rw [h1]; exact hin⟩
                    clear hin
                    go_wp2
                    exact ⟨⟨b + 1, inn, by go_num, hbl, HI, HC2, HS⟩, by simp [intOf]; omega⟩
                  | false =>
                    rw [hin] at hc6
                    have HIn3 := Aside0.mk hin
                    clear hin
                    have HHs2 := Aside0.mk (HHas.out b rr)
                    cases hat : atkB l (b : Int) (rr : Int) with
                    | true =>
                      rw [hat] at HHs2
                      have HI2 := Aside0.mk (HI.out.set hbl (HStep.out b hat))
                      have HC2 : Aside0 (∀ c, c < b + 1 → At (netOf M l) rr c → nthB (inn.set b true) c = true) := ⟨fun c hc h => by
                        rcases Nat.lt_succ_iff_lt_or_eq.1 hc with h1 | h1
                        · exact set_mono (by omega) c (HC.out c h1 h)
                        · rw [h1]; exact set_self (by omega)⟩
                      clear hat
                      go_wp2_with (first | (go_at_call 15; refine (HHs2.out _ HG.out.st.hb).mono ?_; rintro e w9 ⟨rfl, hbb⟩; have HG9 := Aside0.mk (HG.out.nx hbb.out); have hc9 := HG9.out.at_ (i := b) (by omega); have hf9 := HG9.out.fr b))
                      exact ⟨⟨b + 1, _, by go_num, hbl, HI2, HC2, ⟨HG9.out.set b true⟩⟩, by simp [intOf]; omega⟩
                    | false =>
                      rw [hat] at HHs2
                      have HC2 : Aside0 (∀ c, c < b + 1 → At (netOf M l) rr c → nthB inn c = true) := ⟨fun c hc h => by
                        rcases Nat.lt_succ_iff_lt_or_eq.1 hc with h1 | h1
                        · exact HC.out c h1 h
                        · have h2 := (at_atk HIn.out rr b).1 (by rw [← h1]; exact h)
                          rw [← atkB_nat HIn.out, hat] at h2; cases h2⟩
                      clear hat
                      go_wp2_with (first | (go_at_call 15; refine (HHs2.out _ HG.out.st.hb).mono ?_; rintro e w9 ⟨rfl, hbb⟩; have HG9 := Aside0.mk (HG.out.nx hbb.out); have hc9 := HG9.out.at_ (i := b) (by omega); have hf9 := HG9.out.fr b))
                      have HS := Aside0.mk (HG9.out.set b false)
                      rw [set_same (by omega) HIn3.out] at HS
                      exact ⟨⟨b + 1, inn, by go_num, hbl, HI, HC2, HS⟩, by simp [intOf]; omega⟩
                · have i1 : decide ((b : Int) < (M : Int)) = false := decide_eq_false (by omega)
                  have hbe : b = M := by omega
                  subst hbe
                  have HI2 := Aside0.mk (HNx.out inn HI.out HC.out)
                  go_wp2
                  exact ⟨⟨a + 1, inn, rfl, by go_num, hal, HI2, HG⟩, by simp [intOf]; omega⟩
        · have i1 : decide ((a : Int) < (M : Int)) = false := decide_eq_false (by omega)
          have hae : a = M := by omega
          subst hae
          go_wp2
          exact ⟨⟨r + 1, inn, rfl, by go_num, by have := HRl.out; omega, ⟨HI.out.round HLt.out⟩, HG⟩, by have := HRl.out; simp [intOf]; omega⟩
    · have i1 : decide ((r : Int) ≤ (M : Int)) = false := decide_eq_false (by omega)
      have i1b : decide (r ≤ M) = false := decide_eq_false hrl
      have hre : r = M + 1 := by omega
      have HAll := Aside0.mk (RI.all (by rw [← hre]; exact HI.out) HLt.out)
      have hlen := HI.out.len
      clear hrl hre
      go_upto_region 29 with fail
      clear hx0 i1 i1b
      have hB6 : b6 < wr.heap.size := HG.out.lt.1
      have HBl := Aside0.mk HG.out.lt.2
      have hBw : w.heap.size ≤ wr.heap.size := HG.out.st.hb.size
      have HO0 : Aside0 (OwnI wr wr.heap.size (.slice none 0 0) []) := ⟨own_nil _ _ _ _⟩
      have HBs0 : Aside0 (Below wr.heap.size wr wr) := ⟨Below.refl _ _⟩
      obtain ⟨wB, hwB⟩ : ∃ x, x = wr := ⟨_, rfl⟩
      subst hwB
      go_loopw [14, 15] (fun v14 v15 x => ∃ (i : Nat) (A8 : Option Addr) (c8 : Nat), v14 = .slice A8 (inU inn i).length c8 ∧ v15 = .int .i64 (i : Int) ∧ i ≤ M ∧ Aside0 (BR w (gsB M l A c game root who A4 rs.length c4 g g2) b6 inn x) ∧ Aside0 (OwnI x wB.heap.size (.slice A8 (inU inn i).length c8) (inU inn i)) ∧ Aside0 (Below wB.heap.size wB x)) (fun _ v15 _ => M - (intOf v15).toNat)
      case atStart => exact ⟨0, none, 0, rfl, rfl, Nat.zero_le _, HG, HO0, HBs0⟩
      case round =>
        clear HG HO0 HBs0
        obtain ⟨i, A8, c8, rfl, rfl, hi, HG, HOw, HBs⟩ := hrel
        have hx0 := (HG.out.st.at_ (g := g) (.tail _ (.head _)) 0).trans rfl
        have hll := inU_len inn i
        by_cases hlt : i < M
        · have i1 : decide ((i : Int) < (M : Int)) = true := decide_eq_true (by omega)
          have i2 : (i : Int) < (M : Int) := by omega
          have hc6 := HG.out.at_ (i := i) (by rw [hlen]; exact hlt)
          have hsu := inU_succ inn i
          cases hb : nthB inn i with
          | false =>
            rw [hb] at hc6 hsu
            rw [if_neg (by simp), List.append_nil] at hsu
            have HSu := Aside0.mk hsu
            clear hsu hb
            go_wp2
            exact ⟨⟨i + 1, A8, c8, by rw [HSu.out], by go_num, hlt, HG, ⟨by rw [HSu.out]; exact HOw.out⟩, HBs⟩, by simp [intOf]; omega⟩
          | true =>
            rw [hb] at hc6 hsu
            rw [if_pos rfl] at hsu
            have HSu := Aside0.mk hsu
            clear hsu hb
            go_wp2_with (first | (at_builtin; refine app_node (w0 := wB) 25 (.tmp 109) (.tmp 111) rfl rfl Tryd.underlying25 info3 _ (inU inn i) i rfl rfl ?aO ?aB ?aL ?_; (case aO => exact HOw.out); (case aB => exact HBs.out); (case aL => omega); intro v1 w10 HO1 HG1 _; have HG10 := Aside0.mk (HG.out.grown HG1 hBw (own_base3 HOw.out) hB6 HBl.out); have HBs10 := Aside0.mk (HBs.out.grown HG1 HBs.out.size (own_base3 HOw.out)); rw [← HSu.out] at HO1; obtain ⟨A1, c1, rfl⟩ := own_slice HO1))
            go_roundw
            case rel => exact ⟨i + 1, A1, c1, rfl, by go_num, hlt, HG10, ⟨HO1⟩, HBs10⟩
            case measure => simp [intOf]; omega
        · have i1 : decide ((i : Int) < (M : Int)) = false := decide_eq_false (by omega)
          have hie : i = M := by omega
          subst hie
          have HMem : Aside0 (∀ a, a ∈ inU inn i ↔ Rch E root a) := ⟨fun a => by
            unfold inU
            rw [List.mem_filter, List.mem_range'_1, HAll.out a]
            constructor
            · exact fun h => h.2
            · exact fun h => ⟨by have := HLt.out a h; omega, h⟩⟩
          go_wp2
          go_ret2
          exact ⟨A8, c8, inU inn i, rfl, HMem, hll, ⟨own_weaken HOw.out hBw⟩, ⟨HG.out.st.hb⟩⟩
end Go.Proofs.YtgboplcjafmliaaDoor.G

/- The reference's loops: none where replies go down in rank. -/
namespace Go.Proofs.YtgboplcjafmliaaDoor.G
open Go.RowKit Go.Proofs.YtgboplcjafmliaaDoorW.PrintWords Go.Proofs.YtgboplcjafmliaaDoorW.PrintLast Go.Proofs.YtgboplcjafmliaaDoorW.PrintMore
open Go.Proofs.YtgboplcjafmliaaDoor.PAll
set_option linter.unusedVariables false
set_option linter.unusedSimpArgs false

/-- The settled nodes so far, in a round. -/
structure SI (rank : Nat → Nat) (L : List Nat) (M r j : Nat) (set : List Bool) : Prop where
  len : set.length = M
  a : ∀ x, x ∈ L → rank x < r → nthB set x = true
  b : ∀ x, x ∈ L.take j → rank x ≤ r → nthB set x = true
theorem SI.step {rank : Nat → Nat} {L : List Nat} {M r j : Nat} {set : List Bool} (h : SI rank L M r j set) (hj : j < L.length) {z : Nat} (hz : nth L j = z) (hzM : z < M) {all : Bool} (hall : rank z ≤ r → all = true) : SI rank L M r (j + 1) (set.set z (nthB set z || all)) := by
  have hs : ∀ i, nthB (set.set z (nthB set z || all)) i = if i = z then (nthB set z || all) else nthB set i := fun i => nthB_set set z _ i (by rw [h.len]; exact hzM)
  have hm : ∀ i, nthB set i = true → nthB (set.set z (nthB set z || all)) i = true := fun i hi => by
    rw [hs]; split
    · rename_i e; rw [← e, hi]; rfl
    · exact hi
  refine ⟨by rw [List.length_set]; exact h.len, fun x hx hr => hm x (h.a x hx hr), fun x hx hr => ?_⟩
  rcases take_next L j hj x hx with h1 | h1
  · exact hm x (h.b x h1 hr)
  · rw [hz] at h1
    rw [hs, if_pos h1, hall (by rw [← h1]; exact hr), Bool.or_true]
theorem SI.round {rank : Nat → Nat} {L : List Nat} {M r : Nat} {set : List Bool} (h : SI rank L M r L.length set) : SI rank L M (r + 1) 0 set :=
  ⟨h.len, fun x hx hr => h.b x (by rw [List.take_length]; exact hx) (by omega), fun x hx => by simp at hx⟩
set_option maxHeartbeats 8000000 in
set_option maxRecDepth 100000 in
theorem loops_any (M : Nat) (hM : M ≤ 40) (l : List S54) (hl : l.length < 2 ^ 40) (hIn : InR M l) (A : Option Addr) (c : Nat) (game : Int) (root : Nat) (who : Int) (rs : List Rp) (hrs : rs.length < 1000) (A4 : Option Addr) (c4 : Nat) (L : List Nat) (hL : L.length ≤ M) (A5 : Option Addr) (c5 : Nat) (rank : Nat → Nat)
    (hlt : ∀ a, a ∈ L → a < M ∧ rank a < M + 1) (hre : ∀ a b, a ∈ L → At (netOf M l) a b → ∃ y, rep rs b = some y ∧ y ∈ L ∧ rank y < rank a) (w : World) (hr : RdP w A c l) (ho : RdR w A4 c4 rs) (hS : RdN .i64 w A5 c5 L) :
    Calls Tryd.prog 37 #[.agg #[.int .i64 (M : Int), .slice A l.length c], .agg #[.int .i64 (game : Int), .int .i64 (root : Int), .int .i64 who, .slice A4 rs.length c4], .slice A5 L.length c5] w fun e w' => e = .returned (.bool false) ∧ Aside0 (Below w.heap.size w w') := by
  have HS := Aside0.mk hS
  have HIn := Aside0.mk hIn
  have HNet := Aside0.mk (netOf_ok hM hIn)
  have HB := Aside0.mk (St.refl w)
  have HLt := Aside0.mk hlt
  have hmk := print_make_of (P := Tryd.prog) 101 4 (.bool false) 1 Tryd.underlying101 info4 rfl (by decide) M (by omega)
  have HHas := Aside0.mk (fun (a b : Nat) W (hb : Below w.heap.size w W) => nhas_any (M : Int) (a : Int) (b : Int) l (by omega) A c W (hr.below hb))
  have HRe : Aside0 (∀ a b : Nat, a ∈ L → b < M → atkB l (b : Int) (a : Int) = true → ∃ y : Nat, y < M ∧ y ∈ L ∧ rank y < rank a ∧ (∀ W, Below w.heap.size w W → Calls Tryd.prog 62 #[.agg #[.int .i64 (game : Int), .int .i64 (root : Int), .int .i64 who, .slice A4 rs.length c4], .int .i64 (b : Int)] W fun e w' => e = .returned (.int .i64 (y : Int)) ∧ Aside0 (Below W.heap.size W w'))) := ⟨fun a b ha hbM hat => by
    rw [atkB_nat hIn] at hat
    obtain ⟨y, h1, h2, h3⟩ := hre a b ha ((at_atk hIn a b).2 hat)
    refine ⟨y, (hlt y h2).1, h2, h3, fun W hb => ?_⟩
    have h := rreply_any rs hrs b (by omega) A4 c4 (game : Int) (root : Int) who W (ho.below hb)
    have e : repI rs b = (y : Int) := by unfold repI; rw [h1]
    rw [e] at h; exact h⟩
  clear hr hIn ho hS hlt hre
  go_enter Tryd.func37, Tryd.ntmps37
  go_upto_region 1 with (first | ((with_reducible refine gate_dst (N := 3) rfl ?_); refine box_st (w := w) 3 #[.int .i64 (M : Int), .slice A l.length c] 24 rfl rfl ?hr HB.out ?_; (case hr => go_simp; done); clear HB; intro g w1 HB GE) | ((with_reducible refine gate_dst (N := 4) rfl ?_); refine box_st (w := w) 4 #[.int .i64 (game : Int), .int .i64 (root : Int), .int .i64 who, .slice A4 rs.length c4] 33 rfl rfl ?hr HB.out ?_; (case hr => go_simp; done); clear HB; intro g2 w2 HB GE2))
  have hx0 := (HB.out.at_ (.tail _ (.head _)) 0).trans rfl
  go_upto_region 2 with fail
  have HG := Aside0.mk (BR.made HB.out M)
  change Code.wp Tryd.prog _ _ _ (w2.alloc (.cells (madeCells #[Value.bool false] M) 4))
  clear HB hx0 hmk
  generalize w2.heap.size = b6 at *
  generalize w2.alloc (.cells (madeCells #[Value.bool false] M) 4) = w3 at *
  have HG : Aside0 (BR w (gsB M l A c game root who A4 rs.length c4 g g2) b6 (List.replicate M false) w3) := HG
  have HI : Aside0 (SI rank L M 0 0 (List.replicate M false)) := ⟨⟨by simp, fun x _ h => absurd h (Nat.not_lt_zero _), fun x hx => by simp at hx⟩⟩
  go_upto_region 3 with fail
  go_loopw [8] (fun v8 x => ∃ (r : Nat) (set : List Bool), v8 = .int .i64 (r : Int) ∧ r ≤ M + 1 ∧ Aside0 (SI rank L M r 0 set) ∧ Aside0 (BR w (gsB M l A c game root who A4 rs.length c4 g g2) b6 set x)) (fun v8 _ => M + 1 - (intOf v8).toNat)
  case atStart => exact ⟨0, _, rfl, by omega, HI, HG⟩
  case round =>
    clear HG HI
    obtain ⟨r, set, rfl, hrr, HI, HG⟩ := hrel
    have hx0 := (HG.out.st.at_ (g := g) (.tail _ (.head _)) 0).trans rfl
    by_cases hrl : r ≤ M
    · have i1 : decide ((r : Int) ≤ (M : Int)) = true := decide_eq_true (by omega)
      have i1b : decide (r ≤ M) = true := decide_eq_true hrl
      have HRl := Aside0.mk hrl
      clear hrl
      go_upto_region 6 with fail
      clear hx0 i1 i1b
      go_loopw [26] (fun v26 x => ∃ (j : Nat) (set : List Bool), v26 = .int .i64 (j : Int) ∧ j ≤ L.length ∧ Aside0 (SI rank L M r j set) ∧ Aside0 (BR w (gsB M l A c game root who A4 rs.length c4 g g2) b6 set x)) (fun v26 _ => L.length - (intOf v26).toNat)
      case atStart => exact ⟨0, _, rfl, Nat.zero_le _, HI, HG⟩
      case round =>
        clear HG HI
        obtain ⟨j, set, rfl, hj, HI, HG⟩ := hrel
        by_cases hjl : j < L.length
        · have i1 : decide ((j : Int) < (L.length : Int)) = true := decide_eq_true (by omega)
          have i2 : (j : Int) < (L.length : Int) := by omega
          obtain ⟨ad, hA, hcz⟩ := (HS.out.below HG.out.st.hb).cell j hjl
          subst hA
          have hzL := nth_mem L j hjl
          obtain ⟨z, hz⟩ : ∃ z, nth L j = z := ⟨_, rfl⟩
          rw [hz] at hcz hzL
          have HZ := Aside0.mk hz
          have HZL := Aside0.mk hzL
          have hzM := (HLt.out z hzL).1
          clear hz hzL
          go_upto_region 10 with fail
          clear i1 i2 hcz
          have HA0 : Aside0 (rank z ≤ r → true = true) := ⟨fun _ => rfl⟩
          go_loopw [11, 12] (fun v11 v12 x => ∃ (all : Bool) (b : Nat), v11 = .bool all ∧ v12 = .int .i64 (b : Int) ∧ b ≤ M ∧ Aside0 (rank z ≤ r → all = true) ∧ Aside0 (BR w (gsB M l A c game root who A4 rs.length c4 g g2) b6 set x)) (fun _ v12 _ => M - (intOf v12).toNat)
          case atStart => exact ⟨true, 0, rfl, rfl, Nat.zero_le _, HA0, HG⟩
          case round =>
            clear HG HA0
            obtain ⟨all, b, rfl, rfl, hb, HA, HG⟩ := hrel
            have hx0 := (HG.out.st.at_ (g := g) (.tail _ (.head _)) 0).trans rfl
            have hx1 := (HG.out.st.at_ (g := g) (.tail _ (.head _)) 1).trans rfl
            by_cases hbl : b < M
            · have i1 : decide ((b : Int) < (M : Int)) = true := decide_eq_true (by omega)
              have HHs := Aside0.mk (HHas.out b z)
              cases hat : atkB l (b : Int) (z : Int) with
              | false =>
                rw [hat] at HHs
                clear hat
                go_wp2_with (first | (go_at_call 15; refine (HHs.out _ HG.out.st.hb).mono ?_; rintro e w9 ⟨rfl, hbb⟩; have HG9 := Aside0.mk (HG.out.nx hbb.out)))
                go_roundw
                case rel => exact ⟨all, b + 1, rfl, by go_num, hbl, HA, HG9⟩
                case measure => simp [intOf]; omega
              | true =>
                rw [hat] at HHs
                obtain ⟨y, hyM, hyL, hyR, hC62⟩ := HRe.out z b HZL.out hbl hat
                have HC62 := Aside0.mk hC62
                have n2 : (y : Int) < (M : Int) := by omega
                have hlen := HI.out.len
                cases all with
                | false =>
                  clear hat hyL hyR hC62
                  go_wp2_with (first | (go_at_call 15; refine (HHs.out _ HG.out.st.hb).mono ?_; rintro e w9 ⟨rfl, hbb⟩; have HG9 := Aside0.mk (HG.out.nx hbb.out)))
                  go_roundw
                  case rel => exact ⟨false, b + 1, rfl, by go_num, hbl, HA, HG9⟩
                  case measure => simp [intOf]; omega
                | true =>
                  have HA2 : Aside0 (rank z ≤ r → nthB set y = true) := ⟨fun h => HI.out.a y hyL (by omega)⟩
                  clear hat hyL hyR hC62
                  go_upto_region 13 with (first | (go_at_call 15; refine (HHs.out _ HG.out.st.hb).mono ?_; rintro e w9 ⟨rfl, hbb⟩; have HG9 := Aside0.mk (HG.out.nx hbb.out); clear HG hx0 hx1 hbb))
                  have hy0 := (HG9.out.st.at_ (g := g2) (.head _) 0).trans rfl
                  have hy1 := (HG9.out.st.at_ (g := g2) (.head _) 1).trans rfl
                  have hy2 := (HG9.out.st.at_ (g := g2) (.head _) 2).trans rfl
                  have hy3 := (HG9.out.st.at_ (g := g2) (.head _) 3).trans rfl
                  go_wp2_with (first | (go_at_call 62; refine (HC62.out _ HG9.out.st.hb).mono ?_; rintro e w6 ⟨rfl, hbb⟩; have HG6 := Aside0.mk (HG9.out.nx hbb.out); clear HG9 hy0 hy1 hy2 hy3 hbb; have hc6 := HG6.out.at_ (i := y) (by omega)))
                  go_roundw
                  case rel => exact ⟨nthB set y, b + 1, rfl, by go_num, hbl, HA2, HG6⟩
                  case measure => simp [intOf]; omega
            · have i1 : decide ((b : Int) < (M : Int)) = false := decide_eq_false (by omega)
              have HI2 := Aside0.mk (HI.out.step hjl HZ.out hzM HA.out)
              have hlen := HI.out.len
              have n2 : (z : Int) < (M : Int) := by omega
              have hc6 := HG.out.at_ (i := z) (by omega)
              have hf6 := HG.out.fr z
              have HG2 := Aside0.mk (HG.out.set z (nthB set z || all))
              cases hq : nthB set z with
              | true =>
                rw [hq, Bool.true_or] at HI2 HG2
                rw [hq] at hc6
                clear hq
                go_wp2
                exact ⟨⟨j + 1, _, by go_num, hjl, HI2, HG2⟩, by simp [intOf]; omega⟩
              | false =>
                rw [hq, Bool.false_or] at HI2 HG2
                rw [hq] at hc6
                clear hq
                go_wp2
                exact ⟨⟨j + 1, _, by go_num, hjl, HI2, HG2⟩, by simp [intOf]; omega⟩
        · have i1 : decide ((j : Int) < (L.length : Int)) = false := decide_eq_false (by omega)
          have hje : j = L.length := by omega
          have HI2 := Aside0.mk (SI.round (by rw [← hje]; exact HI.out))
          clear hje
          go_wp2
          exact ⟨⟨r + 1, set, by go_num, by have := HRl.out; omega, HI2, HG⟩, by have := HRl.out; simp [intOf]; omega⟩
    · have i1 : decide ((r : Int) ≤ (M : Int)) = false := decide_eq_false (by omega)
      have i1b : decide (r ≤ M) = false := decide_eq_false hrl
      have hre : r = M + 1 := by omega
      have HAll : Aside0 (∀ x, x ∈ L → nthB set x = true) := ⟨fun x hx => HI.out.a x hx (by rw [hre]; exact (HLt.out x hx).2)⟩
      have hlen := HI.out.len
      clear hrl hre
      go_upto_region 17 with fail
      clear hx0 i1 i1b
      go_loopw [62] (fun v62 x => ∃ j : Nat, v62 = .int .i64 (j : Int) ∧ j ≤ L.length ∧ Aside0 (BR w (gsB M l A c game root who A4 rs.length c4 g g2) b6 set x)) (fun v62 _ => L.length - (intOf v62).toNat)
      case atStart => exact ⟨0, rfl, Nat.zero_le _, HG⟩
      case round =>
        clear HG
        obtain ⟨j, rfl, hj, HG⟩ := hrel
        by_cases hjl : j < L.length
        · have i1 : decide ((j : Int) < (L.length : Int)) = true := decide_eq_true (by omega)
          have i2 : (j : Int) < (L.length : Int) := by omega
          obtain ⟨ad, hA, hcz⟩ := (HS.out.below HG.out.st.hb).cell j hjl
          subst hA
          have hzL := nth_mem L j hjl
          generalize nth L j = z at *
          have hzM := (HLt.out z hzL).1
          have n2 : (z : Int) < (M : Int) := by omega
          have hc6 := HG.out.at_ (i := z) (by omega)
          rw [HAll.out z hzL] at hc6
          clear hzL
          go_wp2
          exact ⟨⟨j + 1, by go_num, hjl, HG⟩, by simp [intOf]; omega⟩
        · have i1 : decide ((j : Int) < (L.length : Int)) = false := decide_eq_false (by omega)
          go_wp2
          go_ret
          exact ⟨rfl, ⟨HG.out.st.hb⟩⟩
end Go.Proofs.YtgboplcjafmliaaDoor.G

/- The reference's Wins: who has a strategy. -/
namespace Go.Proofs.YtgboplcjafmliaaDoor.G
open Go.RowKit Go.Proofs.YtgboplcjafmliaaDoorW.PrintWords Go.Proofs.YtgboplcjafmliaaDoorW.PrintLast Go.Proofs.YtgboplcjafmliaaDoorW.PrintMore
open Go.Proofs.YtgboplcjafmliaaDoor.PAll
set_option linter.unusedVariables false
set_option linter.unusedSimpArgs false
/-- What Wins answers. -/
def winR (M : Nat) (l : List S54) (k : Int) (root : Nat) : Bool := if k = 1 then (gnd M (netOf M l)).testBit root else (srch (netOf M l) (M + 1) (2 ^ root)).isSome
set_option maxHeartbeats 8000000 in
set_option maxRecDepth 100000 in
theorem rwins_any (M : Nat) (hM : M ≤ 16) (l : List S54) (hl : l.length < 2 ^ 40) (hIn : InR M l) (A : Option Addr) (c : Nat) (k : Int) (hk : k = 1 ∨ k = 2) (root : Nat) (hroot : root < M) (w : World) (hT : TabW w) (hr : RdP w A c l) :
    Calls Tryd.prog 11 #[.agg #[.int .i64 (M : Int), .slice A l.length c], .int .i64 k, .int .i64 (root : Int)] w fun e w' => e = .returned (.bool (winR M l k root)) ∧ Aside0 (Below w.heap.size w w') := by
  have HR := Aside0.mk hr
  have HT := Aside0.mk hT
  have HB := Aside0.mk (St.refl w)
  have hok := netOf_ok (by omega : M ≤ 40) hIn
  have HGr := Aside0.mk (fun W (h : RdP W A c l) => netGrounded_any M (by omega) l hl hIn A c W h)
  have HSm := Aside0.mk (fun W (hT : TabW W) (h : RdP W A c l) => some_any M hM l hl A c root (by omega) W hT h)
  rw [someB_srch (by omega) hIn hroot] at HSm
  have r1 : (root : Int) < (M : Int) := by omega
  clear hr hT
  rcases hk with rfl | rfl
  · have HW : Aside0 (winR M l 1 root = (gnd M (netOf M l)).testBit root) := ⟨by rw [winR, if_pos rfl]⟩
    have HGd : Aside0 (∀ x, (x = labOf (netOf M l) (M + 1) root) → (((x : Nat) : Int) == 1) = (gnd M (netOf M l)).testBit root) := ⟨fun x hx => by
      rw [Bool.eq_iff_iff, beq_iff_eq, gnd_all hok, ← lab_one, ← hx]; omega⟩
    clear hok
    go_enter Tryd.func11, Tryd.ntmps11
    go_upto_region 3 with (first | ((with_reducible refine gate_dst (N := 3) rfl ?_); refine box_st (w := w) 3 #[.int .i64 (M : Int), .slice A l.length c] 24 rfl rfl ?hr HB.out ?_; (case hr => go_simp; done); clear HB; intro g w1 HB GE; have hx0 := (HB.out.at_ (.head _) 0).trans rfl; have hx1 := (HB.out.at_ (.head _) 1).trans rfl) | (go_at_call 32; refine (HGr.out _ (HR.out.below HB.out.hb)).mono ?_; rintro e w5 ⟨b4, lab, v5, rfl, hlab, hb⟩))
    have hc4 : w5.cell? ⟨b4, root, none⟩ = some (.int .i64 ((nth lab root : Nat) : Int)) := (blk_cell hlab.out.1 root).trans (i64s_get _ _ (by rw [hlab.out.2.1]; exact hroot))
    have hq := HGd.out (nth lab root) (hlab.out.2.2 root hroot)
    have HBe := Aside0.mk (HB.out.nx hb.out).hb
    clear HB hb hx0 hx1 hlab
    go_wp2
    go_ret
    exact ⟨by rw [HW.out]; rfl, HBe⟩
  · have HW : Aside0 (winR M l 2 root = (srch (netOf M l) (M + 1) (2 ^ root)).isSome) := ⟨by rw [winR, if_neg (by decide)]⟩
    generalize (srch (netOf M l) (M + 1) (2 ^ root)).isSome = sb at *
    clear hok
    go_enter Tryd.func11, Tryd.ntmps11
    go_wp2_with (first | ((with_reducible refine gate_dst (N := 3) rfl ?_); refine box_st (w := w) 3 #[.int .i64 (M : Int), .slice A l.length c] 24 rfl rfl ?hr HB.out ?_; (case hr => go_simp; done); clear HB; intro g w1 HB GE; have hx0 := (HB.out.at_ (.head _) 0).trans rfl; have hx1 := (HB.out.at_ (.head _) 1).trans rfl) | (go_at_call 33; refine (HSm.out _ (HT.out.below HT.out.2 HB.out.hb) (HR.out.below HB.out.hb)).mono ?_; rintro e w5 ⟨rfl, hb⟩))
    have HBe := Aside0.mk (HB.out.nx hb.out).hb
    go_ret
    exact ⟨by rw [HW.out]; rfl, HBe⟩
end Go.Proofs.YtgboplcjafmliaaDoor.G

/- The source of choices, in plain terms. -/
namespace Go.Proofs.YtgboplcjafmliaaDoor.G
open Go.RowKit Go.Proofs.YtgboplcjafmliaaDoorW.PrintWords Go.Proofs.YtgboplcjafmliaaDoorW.PrintLast Go.Proofs.YtgboplcjafmliaaDoorW.PrintMore
open Go.Proofs.YtgboplcjafmliaaDoor.PAll
set_option linter.unusedVariables false
set_option linter.unusedSimpArgs false

/-- A source at block g: its numbers came in by w0. -/
def SrcS (w0 : World) (g : Nat) (L : List Int) (W : World) : Prop := ∃ a : Int, IsS57 w0 W g L a ∧ 0 ≤ a ∧ a ≤ L.length ∧ L.length ≤ 2000
theorem raw_some {L : List Int} {a : Int} (h0 : 0 ≤ a) (h1 : a ≤ L.length) (h2 : L.length ≤ 2000) : ∃ r b, deliberationkeep_Src_Raw.f L a = some (r, b) ∧ 0 ≤ b ∧ b ≤ L.length := by
  unfold deliberationkeep_Src_Raw.f
  by_cases h : a ≥ (L.length : Int)
  · rw [if_pos h]; exact ⟨_, _, rfl, h0, h1⟩
  · have e1 : wrap64 (a + 1) = a + 1 := by unfold wrap64; omega
    have e2 : wrap64 (a + 1 - 1) = a := by unfold wrap64; omega
    rw [if_neg h, e1, e2, if_pos h0, if_pos (by omega)]
    exact ⟨_, _, rfl, by omega, by omega⟩
theorem mod_some (x k : Int) (h1 : 1 ≤ k) (h2 : k < 2 ^ 40) : ∃ r, deliberationkeep_Mod.f x k = some r ∧ 0 ≤ r ∧ r < k := by
  unfold deliberationkeep_Mod.f
  have h3 := Int.tmod_lt_of_pos x (b := k) (by omega)
  have h4 : -k < Int.tmod x k := by
    have := Int.lt_tmod_of_pos x (b := k) (by omega)
    omega
  rw [if_neg (by omega), if_neg (by omega)]
  by_cases h : Int.tmod x k < 0
  · have e : wrap64 (Int.tmod x k + k) = Int.tmod x k + k := by unfold wrap64; omega
    rw [if_pos h, e]; exact ⟨_, rfl, by omega, by omega⟩
  · rw [if_neg h]; exact ⟨_, rfl, by omega, by omega⟩
theorem n_some {L : List Int} {a : Int} (h0 : 0 ≤ a) (h1 : a ≤ L.length) (h2 : L.length ≤ 2000) (k : Int) (hk : 1 ≤ k) (hk2 : k < 2 ^ 40) : ∃ r b, deliberationkeep_Src_N.f L a k = some (r, b) ∧ 0 ≤ r ∧ r < k ∧ 0 ≤ b ∧ b ≤ L.length := by
  obtain ⟨r, b, e, hb0, hb1⟩ := raw_some h0 h1 h2
  obtain ⟨r', e', hr0, hr1⟩ := mod_some r k hk hk2
  refine ⟨r', b, ?_, hr0, hr1, hb0, hb1⟩
  unfold deliberationkeep_Src_N.f
  rw [e]
  simp [e']
theorem srcN_any (w0 : World) (g : Nat) (L : List Int) (k : Int) (hk : 1 ≤ k) (hk2 : k < 2 ^ 40) (w : World) (hs : SrcS w0 g L w) (hB : Below w0.heap.size w0 w) :
    Calls Tryd.prog 18 #[.pointer (some ⟨g, 0, none⟩), .int .i64 k] w fun e w' => ∃ r : Int, e = .returned (.int .i64 r) ∧ 0 ≤ r ∧ r < k ∧ Aside0 (SrcS w0 g L w') ∧ Aside0 (Below w0.heap.size w0 w') ∧ Aside0 (KeepBut w w' g none) := by
  obtain ⟨a, hI, h0, h1, h2⟩ := hs
  obtain ⟨r, b, e, hr0, hr1, hb0, hb1⟩ := n_some h0 h1 h2 k hk hk2
  exact (deliberationkeep_Src_N.calls g L a k r b w0 w hI hB e).mono fun e' w' ⟨h, hI', hB', hK⟩ => ⟨r, h, hr0, hr1, ⟨b, hI', hb0, hb1, h2⟩, ⟨hB'⟩, ⟨hK⟩⟩
theorem srcR_any (w0 : World) (g : Nat) (L : List Int) (lo hi : Int) (h1 : 0 ≤ lo) (h2 : lo ≤ hi) (h3 : hi < 1000) (w : World) (hs : SrcS w0 g L w) (hB : Below w0.heap.size w0 w) :
    Calls Tryd.prog 17 #[.pointer (some ⟨g, 0, none⟩), .int .i64 lo, .int .i64 hi] w fun e w' => ∃ r : Int, e = .returned (.int .i64 r) ∧ lo ≤ r ∧ r ≤ hi ∧ Aside0 (SrcS w0 g L w') ∧ Aside0 (Below w0.heap.size w0 w') ∧ Aside0 (KeepBut w w' g none) := by
  obtain ⟨a, hI, k0, k1, k2⟩ := hs
  have e1 : wrap64 (hi - lo) = hi - lo := by unfold wrap64; omega
  have e2 : wrap64 (hi - lo + 1) = hi - lo + 1 := by unfold wrap64; omega
  obtain ⟨r, b, e, hr0, hr1, hb0, hb1⟩ := n_some k0 k1 k2 (hi - lo + 1) (by omega) (by omega)
  have e3 : wrap64 (lo + r) = lo + r := by unfold wrap64; omega
  have h : deliberationkeep_Src_Range.f L a lo hi = some (lo + r, b) := by
    unfold deliberationkeep_Src_Range.f
    rw [e1, e2, e]
    simp [e3]
  exact (deliberationkeep_Src_Range.calls g L a lo hi (lo + r) b w0 w hI hB h).mono fun e' w' ⟨h, hI', hB', hK⟩ => ⟨lo + r, h, by omega, by omega, ⟨b, hI', hb0, hb1, k2⟩, ⟨hB'⟩, ⟨hK⟩⟩
theorem srcNew_any (L : List Int) (A : Option Addr) (c : Nat) (w0 : World) (hr : Kd.C (Kd.int .i64) w0 A L.length L) (hc : L.length ≤ c) (w : World) (hB : Below w0.heap.size w0 w) :
    Calls Tryd.prog 8 #[.slice A L.length c] w fun e w' => ∃ (g : Nat) (L' : List Int), e = .returned (.pointer (some ⟨g, 0, none⟩)) ∧ Aside0 (SrcS w0 g L' w') ∧ Aside0 (Below w0.heap.size w0 w') ∧ Aside0 (Below w.heap.size w w') := by
  obtain ⟨r1, h, hl⟩ : ∃ r1, deliberationkeep_New.f L = some (r1, 0) ∧ r1.length ≤ 2000 := by
    unfold deliberationkeep_New.f
    have h0 : 0 ≤ mn (L.length : Int) 2000 := by unfold mn; split <;> omega
    have h1 : mn (L.length : Int) 2000 ≤ (L.length : Int) := by unfold mn; split <;> omega
    have h2 : mn (L.length : Int) 2000 ≤ 2000 := by unfold mn; split <;> omega
    rw [if_pos h0, if_pos h1]
    exact ⟨_, rfl, by rw [List.length_take]; omega⟩
  exact (deliberationkeep_New.calls A c L r1 0 w0 w hB hr hc h).mono fun e w' ⟨g, h1, h2, h3, h4⟩ => ⟨g, r1, h1, ⟨0, h2, by omega, by omega, hl⟩, ⟨h3⟩, ⟨h4⟩⟩
end Go.Proofs.YtgboplcjafmliaaDoor.G

/- The contract of deliberationnet.Graph: a graph in order. -/
namespace Go.Proofs.YtgboplcjafmliaaDoor.G
open Go.RowKit Go.Proofs.YtgboplcjafmliaaDoorW.PrintWords Go.Proofs.YtgboplcjafmliaaDoorW.PrintLast Go.Proofs.YtgboplcjafmliaaDoorW.PrintMore
open Go.Proofs.YtgboplcjafmliaaDoor.PAll
set_option linter.unusedVariables false
set_option linter.unusedSimpArgs false

def encP (p : S54) : List Value := [.int .i64 p.f0, .int .i64 p.f1]
theorem grown_setG (w : World) (a : Addr) (u : Value) : w.grownBy (w.setCell a u) (some a.block) :=
  ⟨rfl, rfl, rfl, by simp, fun k _ hk => heap_setCell_other w a k u (fun e => hk (by rw [e]))⟩
/-- A row of pairs of the call's own. -/
def OwnP (w : World) (base : Nat) (v : Value) (l : List S54) : Prop := w.ownsRow base 54 2 v l.length (l.flatMap encP)
theorem flatP_get : ∀ (l : List S54) (t : Nat), t < l.length * 2 → (l.flatMap encP)[t]? = some ((encP (nthP l (t / 2)))[t % 2]!)
  | [], t, h => by simp at h
  | p :: l, 0, _ => by simp [encP, nthP]
  | p :: l, 1, _ => by simp [encP, nthP]
  | p :: l, t + 2, h => by
    have ih := flatP_get l t (by simp at h; omega)
    rw [List.flatMap_cons, List.getElem?_append_right (by simp [encP])]
    rw [show t + 2 - (encP p).length = t by simp [encP], ih, show (t + 2) / 2 = t / 2 + 1 by omega, show (t + 2) % 2 = t % 2 by omega]
    simp [nthP]
theorem OwnP.reads {w : World} {base : Nat} {v : Value} {l : List S54} (h : OwnP w base v l) : ∃ A c, v = .slice A l.length c ∧ RdP w A c l := by
  rcases h.2 with ⟨rfl, h0⟩ | ⟨g, cap, cur, rfl, hg, hb, hcap, hmax, hcur, htake⟩
  · exact ⟨none, 0, by rw [h0], by omega, rfl, by omega, fun hp => by omega⟩
  · refine ⟨_, cap, rfl, hcap, rfl, by have := hmax; unfold maxLen at this; omega, fun hp => ⟨_, rfl, fun j p hj => ?_⟩⟩
    obtain ⟨hjl, hq⟩ := List.getElem?_eq_some_iff.1 hj
    refine ⟨_, rfl, k54_mk w p, fun i u hu => ?_⟩
    have hi : i < 2 := by
      obtain ⟨h1, _⟩ := List.getElem?_eq_some_iff.1 hu
      simpa using h1
    have hlt : j * 2 + i < l.length * 2 := by omega
    have h1 : (cur.toList.take (l.length * 2))[j * 2 + i]? = (l.flatMap encP)[j * 2 + i]? := by rw [htake]
    rw [List.getElem?_take_of_lt hlt, Array.getElem?_toList, flatP_get _ _ hlt] at h1
    show w.cell? ((⟨g, 0, none⟩ : Addr).add (j * 2 + i)) = some u
    rw [add_plain, blk_cell hb, h1, show (j * 2 + i) / 2 = j by omega, show (j * 2 + i) % 2 = i by omega]
    rw [nthP, List.getD_eq_getElem?_getD, hj]
    rcases (by omega : i = 0 ∨ i = 1) with rfl | rfl
    · simpa [encP] using hu
    · simpa [encP] using hu
section
variable {P : Program} {ops : Array Oper} {Q : Exit → Act → World → Prop} {a : Act} {rest : List Oper} {o : Oper}
theorem app_pair {w0 W : World} (base : Nat) (t : TypeId) (s x : Operand) (hgd : o.guard = none)
    (ho : o.op = .call { callee := .builtin .append, args := #[s, x], argTypes := #[t, t] })
    (ht : P.underlying t = some (.slice 54)) (hinfo : (P.info? 54).map (fun i => (i.zero, i.size, i.bytes)) = some (some (.agg #[.int .i64 0, .int .i64 0]), 2, 16))
    (v : Value) (xs : List S54) (p q : Int) (hs : a.eval s = v) (hx : a.eval x = .slice (some ⟨W.heap.size, 0, none⟩) 1 1)
    (HO : OwnP W base v xs) (HB : Below w0.heap.size w0 W) (hb0 : w0.heap.size ≤ base) (hb1 : base ≤ W.heap.size) (hl : xs.length < 1000000)
    (h : ∀ v1 w1, OwnP w1 base v1 (xs ++ [⟨p, q⟩]) → W.grownBy w1 v.ownBlock → Below w0.heap.size w0 w1 → wpList P ops Q rest (a.put o.dst v1) w1) :
    wpList P ops Q (o :: rest) a (W.alloc (.cells #[.int .i64 p, .int .i64 q] 54)) :=
  print_append_cells (w0 := W) base hgd s x t 54 (.agg #[.int .i64 0, .int .i64 0]) 2 16 ho ht hinfo rfl (by decide) (by decide) v xs.length (xs.flatMap encP) (encP ⟨p, q⟩) hs hx rfl (by simp [encP, Value.oneCell']) HO (Below.refl _ _) hb1 (by omega)
    fun v1 w1 h1 _ h3 _ => h v1 w1 (by
      unfold OwnP
      rw [show (xs ++ [(⟨p, q⟩ : S54)]).length = xs.length + 1 by simp, show (xs ++ [(⟨p, q⟩ : S54)]).flatMap encP = xs.flatMap encP ++ encP ⟨p, q⟩ by simp]
      exact h1) h3 (HB.grown h3 HB.size (fun k hk => Nat.le_trans hb0 (own_base HO k hk)))
end
/-- Pairs in order. -/
def plt (p q : S54) : Prop := p.f0 < q.f0 ∨ (p.f0 = q.f0 ∧ p.f1 < q.f1)
theorem cmp_plt {p q : S54} (h : plt p q) : cmpQ (some p) q = false := by
  show decide (0 ≤ cmpP p q) = false
  unfold cmpP
  rcases h with h | ⟨h1, h2⟩
  · rw [if_pos h]; decide
  · rw [if_neg (by omega), if_neg (by omega), if_pos h2]; decide
theorem valL_zero (N : Int) : ∀ (q : Option S54) (l : List S54), (∀ p, p ∈ l → 0 ≤ p.f0 ∧ p.f0 < N ∧ 0 ≤ p.f1 ∧ p.f1 < N) → l.Pairwise plt → (∀ r, q = some r → ∀ p, p ∈ l → plt r p) → valL N q l = 0
  | q, [], _, _, _ => by rw [valL]
  | q, p :: l, hr, hp, hq => by
    obtain ⟨h1, h2, h3, h4⟩ := hr p List.mem_cons_self
    rw [valL_cons, if_neg (by omega)]
    have hc : cmpQ q p = false := by
      cases q with
      | none => rfl
      | some r => exact cmp_plt (hq r rfl p List.mem_cons_self)
    rw [if_neg (by rw [hc]; simp)]
    rw [List.pairwise_cons] at hp
    exact valL_zero N (some p) l (fun x hx => hr x (List.mem_cons_of_mem _ hx)) hp.2 (fun r h x hx => by cases h; exact hp.1 x hx)
/-- What the loops of Graph keep: the source, the row of pairs, the variables. -/
structure GS (w0 w : World) (g : Nat) (L : List Int) (M : Nat) (g4 g5 : Nat) (A : Option Addr) (n c : Nat) (l : List S54) (x : World) : Prop where
  src : SrcS w0 g L x
  b0 : Below w0.heap.size w0 x
  kb : KeepBut w x g none
  k5 : x.heap[g5]? = some (.cells #[.int .i64 (M : Int), .slice A n c] 24 (0, 0))
  k4 : x.heap[g4]? = some (.cells #[.int .i64 0, .slice none 0 0] 24 (0, 0))
  n45 : g4 ≠ g5
  l4 : w.heap.size ≤ g4
  l5 : w.heap.size ≤ g5
  own : OwnP x w.heap.size (.slice A n c) l
theorem SrcS.ne {w0 : World} {g : Nat} {L : List Int} {x : World} (h : SrcS w0 g L x) {k : Nat} {cs : Array Value} {t : TypeId} (hk : x.heap[k]? = some (.cells cs t (0, 0))) (ht : t ≠ 57) : k ≠ g := by
  obtain ⟨a, ⟨A, c, hb, _⟩, _⟩ := h
  exact blk_ne hk hb ht
theorem SrcS.nx {w0 : World} {g : Nat} {L : List Int} {w w1 : World} (h : SrcS w0 g L w) (hb : Below w.heap.size w w1) : SrcS w0 g L w1 := by
  obtain ⟨a, hI, h1⟩ := h
  exact ⟨a, hI.below hb, h1⟩
theorem GS.call {w0 w : World} {g : Nat} {L : List Int} {M g4 g5 : Nat} {A : Option Addr} {n c : Nat} {l : List S54} {x y : World} (h : GS w0 w g L M g4 g5 A n c l x) (hs : SrcS w0 g L y) (hb : Below w0.heap.size w0 y) (hk : KeepBut x y g none) : GS w0 w g L M g4 g5 A n c l y where
  src := hs
  b0 := hb
  kb := h.kb.trans hk (.inl rfl)
  k5 := hk.blk h.k5 (h.src.ne h.k5 (by decide)) (by simp)
  k4 := hk.blk h.k4 (h.src.ne h.k4 (by decide)) (by simp)
  n45 := h.n45
  l4 := h.l4
  l5 := h.l5
  own := hk.own h.own (fun e => by
    obtain ⟨a, ⟨A', c', hbk, _⟩, _⟩ := h.src
    exact own_ne h.own hbk (by decide) e.symm) (by cases (Value.slice A n c).ownBlock <;> simp)
/-- Behind an append and the store of its slice. -/
theorem GS.app {w0 w : World} {g : Nat} {L : List Int} {M g4 g5 : Nat} {A A' : Option Addr} {n c n' c' : Nat} {l l' : List S54} {x y : World} (h : GS w0 w g L M g4 g5 A n c l x) (ho : OwnP y w.heap.size (.slice A' n' c') l') (hg : x.grownBy y (Value.slice A n c).ownBlock) (hb : Below w0.heap.size w0 y) (hw : w0.heap.size ≤ w.heap.size) : GS w0 w g L M g4 g5 A' n' c' l' (y.setCell ⟨g5, 1, none⟩ (.slice A' n' c')) := by
  have e5 := blk_grown h.k5 hg (own_ne h.own h.k5 (by decide))
  have e4 := blk_grown h.k4 hg (own_ne h.own h.k4 (by decide))
  have hsrc : SrcS w0 g L y := by
    obtain ⟨a, hI, h1⟩ := h.src
    obtain ⟨A1, c1, hbk, h2, h3⟩ := hI
    exact ⟨a, ⟨A1, c1, blk_grown hbk hg (own_ne h.own hbk (by decide)), h2, h3⟩, h1⟩
  have hne := hsrc.ne e5 (by decide)
  refine ⟨?_, hb.setCell (p := ⟨g5, 1, none⟩) (Nat.le_trans hw h.l5) _, ?_, ?_, ?_, h.n45, h.l4, h.l5, ?_⟩
  · obtain ⟨a, hI, h1⟩ := hsrc
    exact ⟨a, hI.far (p := ⟨g5, 1, none⟩) (Ne.symm hne) _, h1⟩
  · have hk := h.kb.trans (KeepBut.of_grown hg g) (by
      cases hv : (Value.slice A n c).ownBlock with
      | none => exact .inl rfl
      | some k => exact .inr ⟨k, rfl, own_base h.own k hv⟩)
    exact keep_far hk (p := ⟨g5, 1, none⟩) h.l5 _
  · rw [heap_setCell_same y g5 1 _ 24 _ e5]; rfl
  · rw [heap_setCell_other y _ g4 _ h.n45]; exact e4
  · exact own_other ho (grown_setG y ⟨g5, 1, none⟩ _) (.inr (Ne.symm (own_ne ho e5 (by decide))))

theorem GS.fin {w0 w : World} {g : Nat} {L : List Int} {M g4 g5 : Nat} {A : Option Addr} {n c : Nat} {l : List S54} {x : World} (h : GS w0 w g L M g4 g5 A n c l x) (hw : w0.heap.size ≤ w.heap.size) (u v : Value) :
    ((x.setCell ⟨g4, 0, none⟩ u).setCell ⟨g4, 1, none⟩ v).heap[g4]? = some (.cells #[u, v] 24 (0, 0)) ∧ OwnP ((x.setCell ⟨g4, 0, none⟩ u).setCell ⟨g4, 1, none⟩ v) w.heap.size (.slice A n c) l ∧ SrcS w0 g L ((x.setCell ⟨g4, 0, none⟩ u).setCell ⟨g4, 1, none⟩ v) ∧ Below w0.heap.size w0 ((x.setCell ⟨g4, 0, none⟩ u).setCell ⟨g4, 1, none⟩ v) ∧ KeepBut w ((x.setCell ⟨g4, 0, none⟩ u).setCell ⟨g4, 1, none⟩ v) g none := by
  have e1 := heap_setCell_same x g4 0 _ 24 u h.k4
  have e2 := heap_setCell_same _ g4 1 _ 24 v e1
  have hne := h.src.ne h.k4 (by decide)
  refine ⟨e2, ?_, ?_, (h.b0.setCell (p := ⟨g4, 0, none⟩) (Nat.le_trans hw h.l4) _).setCell (p := ⟨g4, 1, none⟩) (Nat.le_trans hw h.l4) _, keep_far (keep_far h.kb (p := ⟨g4, 0, none⟩) h.l4 _) (p := ⟨g4, 1, none⟩) h.l4 _⟩
  · have o1 : OwnP (x.setCell ⟨g4, 0, none⟩ u) w.heap.size (.slice A n c) l := own_other h.own (grown_setG x ⟨g4, 0, none⟩ u) (.inr (Ne.symm (own_ne h.own h.k4 (by decide))))
    exact own_other o1 (grown_setG _ ⟨g4, 1, none⟩ v) (.inr (Ne.symm (own_ne o1 e1 (by decide))))
  · obtain ⟨a, hI, h1⟩ := h.src
    exact ⟨a, (hI.far (p := ⟨g4, 0, none⟩) (Ne.symm hne) _).far (p := ⟨g4, 1, none⟩) (Ne.symm hne) _, h1⟩
/-- Pairs ahead of a place. -/
def before (a b : Nat) (l : List S54) : Prop := ∀ p, p ∈ l → p.f0 < a ∨ (p.f0 = a ∧ p.f1 < b)
theorem HP_add {M a b : Nat} {l : List S54} (h : InR M l ∧ l.Pairwise plt ∧ before a b l ∧ l.length ≤ a * 40 + b) (ha : a < M) (hb : b < M) : InR M (l ++ [⟨(a : Int), (b : Int)⟩]) ∧ (l ++ [(⟨(a : Int), (b : Int)⟩ : S54)]).Pairwise plt ∧ before a (b + 1) (l ++ [⟨(a : Int), (b : Int)⟩]) ∧ (l ++ [(⟨(a : Int), (b : Int)⟩ : S54)]).length ≤ a * 40 + (b + 1) := by
  refine ⟨fun p hp => ?_, ?_, fun p hp => ?_, by have := h.2.2.2; simp; omega⟩
  · rcases List.mem_append.1 hp with hp | hp
    · exact h.1 p hp
    · rw [List.mem_singleton] at hp; subst hp; simp; omega
  · rw [List.pairwise_append]
    refine ⟨h.2.1, by simp, fun p hp q hq => ?_⟩
    rw [List.mem_singleton] at hq
    subst hq
    have := h.2.2.1 p hp
    unfold plt
    simp
    omega
  · rcases List.mem_append.1 hp with hp | hp
    · have := h.2.2.1 p hp; omega
    · rw [List.mem_singleton] at hp; subst hp; simp; omega
set_option maxHeartbeats 8000000 in
set_option maxRecDepth 100000 in
theorem gen_any (w0 : World) (g : Nat) (L : List Int) (n : Nat) (hn1 : 1 ≤ n) (hn : n ≤ 40) (w : World) (hs : SrcS w0 g L w) (hB : Below w0.heap.size w0 w) (hw : w0.heap.size ≤ w.heap.size) :
    Calls Tryd.prog 9 #[.pointer (some ⟨g, 0, none⟩), .int .i64 (n : Int)] w fun e w' => ∃ (M : Nat) (A : Option Addr) (c : Nat) (l : List S54), e = .returned (.agg #[.int .i64 (M : Int), .slice A l.length c]) ∧ 1 ≤ M ∧ M ≤ n ∧ InR M l ∧ valE M l = 0 ∧ l.length ≤ 1600 ∧ Aside0 (OwnP w' w.heap.size (.slice A l.length c) l) ∧ Aside0 (SrcS w0 g L w') ∧ Aside0 (Below w0.heap.size w0 w') ∧ Aside0 (KeepBut w w' g none) := by
  have HS := Aside0.mk hs
  have HB := Aside0.mk hB
  clear hs hB
  go_enter Tryd.func9, Tryd.ntmps9
  go_upto_region 1 with (first | ((with_reducible refine gate_dst (N := 4) rfl ?_); refine box_mem (w := w) 4 #[.int .i64 0, .slice none 0 0] 24 rfl rfl ?hr (Mem.refl w) ?_; (case hr => go_simp; done); intro g4 w1 HM HW))
  have HS1 := Aside0.mk (HS.out.nx (w1 := w1) (by rw [HW.out]; exact below_alloc (Below.refl _ _) _))
  have HB1 : Aside0 (Below w0.heap.size w0 w1) := ⟨by rw [HW.out]; exact HB.out.alloc hw _⟩
  have HK1 : Aside0 (KeepBut w w1 g none) := ⟨KeepBut.of_below HM.out.st.hb _ _⟩
  have HR1 := Aside0.mk (srcR_any w0 g L 1 (n : Int) (by omega) (by omega) (by omega) w1 HS1.out HB1.out)
  go_upto_region 2 with (first | (go_at_call 17; refine HR1.out.mono ?_; rintro e w2 ⟨r, rfl, hr1, hr2, HS2, HB2, HK2⟩))
  obtain ⟨M, rfl⟩ := Int.eq_ofNat_of_zero_le (show 0 ≤ r by omega)
  have HG0 : Aside0 (GS w0 w g L M g4 w2.heap.size none 0 0 [] (w2.alloc (.cells #[.int .i64 (M : Int), .slice none 0 0] 24))) := ⟨{
    src := HS2.out.nx (below_alloc (Below.refl _ _) _)
    b0 := HB2.out.alloc (Nat.le_trans hw (Nat.le_trans HM.out.st.hb.size HK2.out.1)) _
    kb := keep_alloc (HK1.out.trans HK2.out (.inl rfl)) _
    k5 := blk_new w2 _
    k4 := blk_grown (HK2.out.blk (HM.out.st.blk _ (.head _)) (HS1.out.ne (HM.out.st.blk _ (.head _)) (by decide)) (by simp)) (World.grownBy_alloc _ _ none) (by simp)
    n45 := by
      have := blk_lt (HK2.out.blk (HM.out.st.blk _ (.head _)) (HS1.out.ne (HM.out.st.blk _ (.head _)) (by decide)) (by simp))
      show g4 ≠ w2.heap.size
      omega
    l4 := HM.out.lo _ (.head _)
    l5 := Nat.le_trans HM.out.st.hb.size HK2.out.1
    own := own_nil _ _ _ _ }⟩
  clear HS HB HM HW HS1 HB1 HK1 HR1 HS2 HB2 HK2
  change Code.wp Tryd.prog _ _ _ (w2.alloc (.cells #[.int .i64 (M : Int), .slice none 0 0] 24))
  generalize w2.heap.size = g5 at *
  generalize w2.alloc (.cells #[.int .i64 (M : Int), .slice none 0 0] 24) = w3 at *
  have HR2 := Aside0.mk (srcR_any w0 g L 2 5 (by omega) (by omega) (by omega) w3 HG0.out.src HG0.out.b0)
  go_upto_region 3 with (first | (go_at_call 17; refine HR2.out.mono ?_; rintro e w4 ⟨d, rfl, hd1, hd2, HS2, HB2, HK2⟩))
  have HG1 := Aside0.mk (HG0.out.call HS2.out HB2.out HK2.out)
  clear HG0 HS2 HB2 HK2 HR2
  go_wp2
  go_loopw [7, 8, 9] (fun v7 v8 v9 w' => ∃ (a : Nat) (A : Option Addr) (c : Nat) (l : List S54), v7 = .int .i64 (a : Int) ∧ a ≤ M ∧ Aside0 (GS w0 w g L M g4 g5 A l.length c l w') ∧ Aside0 (InR M l ∧ l.Pairwise plt ∧ before a 0 l ∧ l.length ≤ a * 40)) (fun v7 _ _ _ => M - (intOf v7).toNat)
  case atStart => exact ⟨0, none, 0, [], rfl, Nat.zero_le _, HG1, ⟨fun p hp => absurd hp (by simp), List.Pairwise.nil, fun p hp => absurd hp (by simp), by simp⟩⟩
  case round =>
    clear HG1
    obtain ⟨a, A, c, l, rfl, ha, HG, HP⟩ := hrel
    have hk0 := (blk_cell HG.out.k5 0).trans rfl
    by_cases hlt : a < M
    · go_wp2
      clear hk0
      go_loopw [8, 9] (fun v8 v9 w' => ∃ (b : Nat) (A : Option Addr) (c : Nat) (l : List S54), v8 = .int .i64 (b : Int) ∧ b ≤ M ∧ Aside0 (GS w0 w g L M g4 g5 A l.length c l w') ∧ Aside0 (InR M l ∧ l.Pairwise plt ∧ before a b l ∧ l.length ≤ a * 40 + b)) (fun v8 _ _ => M - (intOf v8).toNat)
      case atStart => exact ⟨0, A, c, l, rfl, Nat.zero_le _, HG, ⟨HP.out.1, HP.out.2.1, HP.out.2.2.1, HP.out.2.2.2⟩⟩
      case round =>
        clear HG HP
        obtain ⟨b, A, c, l, rfl, hb, HG, HP⟩ := hrel
        have hk0 := (blk_cell HG.out.k5 0).trans rfl
        by_cases hltb : b < M
        · have hM40 : M ≤ 40 := by omega
          have HP2 : Aside0 (InR M (l ++ [⟨(a : Int), (b : Int)⟩]) ∧ (l ++ [(⟨(a : Int), (b : Int)⟩ : S54)]).Pairwise plt ∧ before a (b + 1) (l ++ [⟨(a : Int), (b : Int)⟩]) ∧ (l ++ [(⟨(a : Int), (b : Int)⟩ : S54)]).length ≤ a * 40 + (b + 1)) := ⟨HP_add HP.out hlt hltb⟩
          have HP3 : Aside0 (InR M l ∧ l.Pairwise plt ∧ before a (b + 1) l ∧ l.length ≤ a * 40 + (b + 1)) := ⟨HP.out.1, HP.out.2.1, fun p hp => by have := HP.out.2.2.1 p hp; omega, by have := HP.out.2.2.2; omega⟩
          have hll : l.length < 1000000 := by
            have := HP.out.2.2.2
            have : a * 40 ≤ 40 * 40 := Nat.mul_le_mul_right 40 (by omega)
            omega
          by_cases hab : a = b
          · have q1 : ((a : Int) == (b : Int)) = true := by rw [beq_iff_eq]; omega
            have HN := Aside0.mk (srcN_any w0 g L 9 (by omega) (by omega) wr HG.out.src HG.out.b0)
            clear hab
            go_upto_if 35 with (first | (go_at_call 18; refine HN.out.mono ?_; rintro e w5 ⟨r, rfl, hr0, hr1, HS5, HB5, HK5⟩))
            have HG5 := Aside0.mk (HG.out.call HS5.out HB5.out HK5.out)
            clear HG HS5 HB5 HK5 HN hk0
            have k1 := (blk_cell HG5.out.k5 1).trans rfl
            by_cases hr : r = 1
            · have q2 : (r == 1) = true := by rw [beq_iff_eq]; exact hr
              clear hr
              go_wp2_with (first | (at_builtin; refine app_pair (w0 := w0) w.heap.size 22 (.tmp 37) (.tmp 41) rfl rfl Tryd.underlying22 info54 _ l (a : Int) (b : Int) rfl rfl ?aO ?aB hw ?aS hll ?_; (case aO => exact HG5.out.own); (case aB => exact HG5.out.b0); (case aS => exact HG5.out.kb.1); intro v1 w6 HO6 HG6 HB6; obtain ⟨A', c', rfl⟩ := own_slice HO6; have e5 := blk_grown HG5.out.k5 HG6 (own_ne HG5.out.own HG5.out.k5 (by decide)); have k1' := (blk_cell e5 1).trans rfl; have f1 : w6.frozen? ⟨g5, 1, none⟩ = false := blk_frozen e5 1; have HG7 := Aside0.mk (HG5.out.app HO6 HG6 HB6 hw); clear e5 k1))
              exact ⟨⟨b + 1, A', c', l ++ [⟨(a : Int), (b : Int)⟩], by go_num, hltb, ⟨by have h := HG7.out; rw [show (l ++ [(⟨(a : Int), (b : Int)⟩ : S54)]).length = l.length + 1 by simp] at h ⊢; exact h⟩, HP2⟩, by simp [intOf]; omega⟩
            · have q2 : (r == 1) = false := by rw [beq_eq_false_iff_ne]; exact hr
              clear hr
              go_wp2
              exact ⟨⟨b + 1, A, c, l, by go_num, hltb, HG5, HP3⟩, by simp [intOf]; omega⟩
          · have q1 : ((a : Int) == (b : Int)) = false := by rw [beq_eq_false_iff_ne]; omega
            have HN := Aside0.mk (srcN_any w0 g L d (by omega) (by omega) wr HG.out.src HG.out.b0)
            clear hab
            go_upto_if 35 with (first | (go_at_call 18; refine HN.out.mono ?_; rintro e w5 ⟨r, rfl, hr0, hr1, HS5, HB5, HK5⟩))
            have HG5 := Aside0.mk (HG.out.call HS5.out HB5.out HK5.out)
            clear HG HS5 HB5 HK5 HN hk0
            have k1 := (blk_cell HG5.out.k5 1).trans rfl
            by_cases hr : r = 1
            · have q2 : (r == 1) = true := by rw [beq_iff_eq]; exact hr
              clear hr
              go_wp2_with (first | (at_builtin; refine app_pair (w0 := w0) w.heap.size 22 (.tmp 37) (.tmp 41) rfl rfl Tryd.underlying22 info54 _ l (a : Int) (b : Int) rfl rfl ?aO ?aB hw ?aS hll ?_; (case aO => exact HG5.out.own); (case aB => exact HG5.out.b0); (case aS => exact HG5.out.kb.1); intro v1 w6 HO6 HG6 HB6; obtain ⟨A', c', rfl⟩ := own_slice HO6; have e5 := blk_grown HG5.out.k5 HG6 (own_ne HG5.out.own HG5.out.k5 (by decide)); have k1' := (blk_cell e5 1).trans rfl; have f1 : w6.frozen? ⟨g5, 1, none⟩ = false := blk_frozen e5 1; have HG7 := Aside0.mk (HG5.out.app HO6 HG6 HB6 hw); clear e5 k1))
              exact ⟨⟨b + 1, A', c', l ++ [⟨(a : Int), (b : Int)⟩], by go_num, hltb, ⟨by have h := HG7.out; rw [show (l ++ [(⟨(a : Int), (b : Int)⟩ : S54)]).length = l.length + 1 by simp] at h ⊢; exact h⟩, HP2⟩, by simp [intOf]; omega⟩
            · have q2 : (r == 1) = false := by rw [beq_eq_false_iff_ne]; exact hr
              clear hr
              go_wp2
              exact ⟨⟨b + 1, A, c, l, by go_num, hltb, HG5, HP3⟩, by simp [intOf]; omega⟩
        · go_wp2
          go_roundw
          case rel => exact ⟨a + 1, A, c, l, by go_num, hlt, HG, ⟨HP.out.1, HP.out.2.1, fun p hp => by have := HP.out.2.2.1 p hp; have := (HP.out.1 p hp).2.2.2; omega, by have := HP.out.2.2.2; omega⟩⟩
          case measure => simp [intOf]; omega
    · have ham : a = M := by omega
      have k0 := (blk_cell HG.out.k5 0).trans rfl
      have k1 := (blk_cell HG.out.k5 1).trans rfl
      have f0 : wr.frozen? ⟨g4, 0, none⟩ = false := blk_frozen HG.out.k4 0
      have f1 : wr.frozen? ⟨g4, 1, none⟩ = false := blk_frozen HG.out.k4 1
      have c0 := (blk_cell HG.out.k4 0).trans rfl
      have c1 := (blk_cell HG.out.k4 1).trans rfl
      clear hk0
      go_wp2
      have HF := HG.out.fin hw (.int .i64 (M : Int)) (.slice A l.length c)
      have hlen : l.length ≤ 1600 := by
        have := HP.out.2.2.2
        have : a * 40 ≤ 40 * 40 := Nat.mul_le_mul_right 40 (by omega)
        omega
      refine bodyPost_ret (results_cell_row rfl _ _ g4 24 #[.int .i64 (M : Int), .slice A l.length c] (0, 0) _ rfl HF.1 Tryd.underlying24 rfl (by kernel_rfl)) rfl ?_
      exact ⟨M, A, c, l, rfl, by omega, by omega, HP.out.1, by rw [valE, if_neg (by omega)]; exact valL_zero _ _ _ HP.out.1 HP.out.2.1 (fun r h => by cases h), hlen, ⟨HF.2.1⟩, ⟨HF.2.2.1⟩, ⟨HF.2.2.2.1⟩, ⟨HF.2.2.2.2⟩⟩
end Go.Proofs.YtgboplcjafmliaaDoor.G
