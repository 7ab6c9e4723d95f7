/- The contract of deliberationnet.Graph: a graph in order. -/
import Derived.Test.YtgboplcjafmliaaDoorEQ4
/- The contract of deliberationnet.Graph: a graph in order. -/
namespace Go.Proofs.YtgboplcjafmliaaDoor.G
open Go.RowKit Go.Proofs.YtgboplcjafmliaaDoorW.PrintWords Go.Proofs.YtgboplcjafmliaaDoorW.PrintLast Go.Proofs.YtgboplcjafmliaaDoorW.PrintMore
open Go.Proofs.YtgboplcjafmliaaDoor.PAll
set_option linter.unusedVariables false
set_option linter.unusedSimpArgs false

def encP (p : S54) : List Value := [.int .i64 p.f0, .int .i64 p.f1]
theorem grown_setG (w : World) (a : Addr) (u : Value) : w.grownBy (w.setCell a u) (some a.block) :=
  ⟨rfl, rfl, rfl, by simp, fun k _ hk => heap_setCell_other w a k u (fun e => hk (by rw [e]))⟩
/-- A row of pairs of the call's own. -/
def OwnP (w : World) (base : Nat) (v : Value) (l : List S54) : Prop := w.ownsRow base 54 2 v l.length (l.flatMap encP)
theorem flatP_get : ∀ (l : List S54) (t : Nat), t < l.length * 2 → (l.flatMap encP)[t]? = some ((encP (nthP l (t / 2)))[t % 2]!)
  | [], t, h => by simp at h
  | p :: l, 0, _ => by simp [encP, nthP]
  | p :: l, 1, _ => by simp [encP, nthP]
  | p :: l, t + 2, h => by
    have ih := flatP_get l t (by simp at h; omega)
    rw [List.flatMap_cons, List.getElem?_append_right (by simp [encP])]
    rw [show t + 2 - (encP p).length = t by simp [encP], ih, show (t + 2) / 2 = t / 2 + 1 by omega, show (t + 2) % 2 = t % 2 by omega]
    simp [nthP]
theorem OwnP.reads {w : World} {base : Nat} {v : Value} {l : List S54} (h : OwnP w base v l) : ∃ A c, v = .slice A l.length c ∧ RdP w A c l := by
  rcases h.2 with ⟨rfl, h0⟩ | ⟨g, cap, cur, rfl, hg, hb, hcap, hmax, hcur, htake⟩
  · exact ⟨none, 0, by rw [h0], by omega, rfl, by omega, fun hp => by omega⟩
  · refine ⟨_, cap, rfl, hcap, rfl, by have := hmax; unfold maxLen at this; omega, fun hp => ⟨_, rfl, fun j p hj => ?_⟩⟩
    obtain ⟨hjl, hq⟩ := List.getElem?_eq_some_iff.1 hj
    refine ⟨_, rfl, k54_mk w p, fun i u hu => ?_⟩
    have hi : i < 2 := by
      obtain ⟨h1, _⟩ := List.getElem?_eq_some_iff.1 hu
      simpa using h1
    have hlt : j * 2 + i < l.length * 2 := by omega
    have h1 : (cur.toList.take (l.length * 2))[j * 2 + i]? = (l.flatMap encP)[j * 2 + i]? := by rw [htake]
    rw [List.getElem?_take_of_lt hlt, Array.getElem?_toList, flatP_get _ _ hlt] at h1
    show w.cell? ((⟨g, 0, none⟩ : Addr).add (j * 2 + i)) = some u
    rw [add_plain, blk_cell hb, h1, show (j * 2 + i) / 2 = j by omega, show (j * 2 + i) % 2 = i by omega]
    rw [nthP, List.getD_eq_getElem?_getD, hj]
    rcases (by omega : i = 0 ∨ i = 1) with rfl | rfl
    · simpa [encP] using hu
    · simpa [encP] using hu
section
variable {P : Program} {ops : Array Oper} {Q : Exit → Act → World → Prop} {a : Act} {rest : List Oper} {o : Oper}
theorem app_pair {w0 W : World} (base : Nat) (t : TypeId) (s x : Operand) (hgd : o.guard = none)
    (ho : o.op = .call { callee := .builtin .append, args := #[s, x], argTypes := #[t, t] })
    (ht : P.underlying t = some (.slice 54)) (hinfo : (P.info? 54).map (fun i => (i.zero, i.size, i.bytes)) = some (some (.agg #[.int .i64 0, .int .i64 0]), 2, 16))
    (v : Value) (xs : List S54) (p q : Int) (hs : a.eval s = v) (hx : a.eval x = .slice (some ⟨W.heap.size, 0, none⟩) 1 1)
    (HO : OwnP W base v xs) (HB : Below w0.heap.size w0 W) (hb0 : w0.heap.size ≤ base) (hb1 : base ≤ W.heap.size) (hl : xs.length < 1000000)
    (h : ∀ v1 w1, OwnP w1 base v1 (xs ++ [⟨p, q⟩]) → W.grownBy w1 v.ownBlock → Below w0.heap.size w0 w1 → wpList P ops Q rest (a.put o.dst v1) w1) :
    wpList P ops Q (o :: rest) a (W.alloc (.cells #[.int .i64 p, .int .i64 q] 54)) :=
  print_append_cells (w0 := W) base hgd s x t 54 (.agg #[.int .i64 0, .int .i64 0]) 2 16 ho ht hinfo rfl (by decide) (by decide) v xs.length (xs.flatMap encP) (encP ⟨p, q⟩) hs hx rfl (by simp [encP, Value.oneCell']) HO (Below.refl _ _) hb1 (by omega)
    fun v1 w1 h1 _ h3 _ => h v1 w1 (by
      unfold OwnP
      rw [show (xs ++ [(⟨p, q⟩ : S54)]).length = xs.length + 1 by simp, show (xs ++ [(⟨p, q⟩ : S54)]).flatMap encP = xs.flatMap encP ++ encP ⟨p, q⟩ by simp]
      exact h1) h3 (HB.grown h3 HB.size (fun k hk => Nat.le_trans hb0 (own_base HO k hk)))
end
/-- Pairs in order. -/
def plt (p q : S54) : Prop := p.f0 < q.f0 ∨ (p.f0 = q.f0 ∧ p.f1 < q.f1)
theorem cmp_plt {p q : S54} (h : plt p q) : cmpQ (some p) q = false := by
  show decide (0 ≤ cmpP p q) = false
  unfold cmpP
  rcases h with h | ⟨h1, h2⟩
  · rw [if_pos h]; decide
  · rw [if_neg (by omega), if_neg (by omega), if_pos h2]; decide
theorem valL_zero (N : Int) : ∀ (q : Option S54) (l : List S54), (∀ p, p ∈ l → 0 ≤ p.f0 ∧ p.f0 < N ∧ 0 ≤ p.f1 ∧ p.f1 < N) → l.Pairwise plt → (∀ r, q = some r → ∀ p, p ∈ l → plt r p) → valL N q l = 0
  | q, [], _, _, _ => by rw [valL]
  | q, p :: l, hr, hp, hq => by
    obtain ⟨h1, h2, h3, h4⟩ := hr p List.mem_cons_self
    rw [valL_cons, if_neg (by omega)]
    have hc : cmpQ q p = false := by
      cases q with
      | none => rfl
      | some r => exact cmp_plt (hq r rfl p List.mem_cons_self)
    rw [if_neg (by rw [hc]; simp)]
    rw [List.pairwise_cons] at hp
    exact valL_zero N (some p) l (fun x hx => hr x (List.mem_cons_of_mem _ hx)) hp.2 (fun r h x hx => by cases h; exact hp.1 x hx)
/-- What the loops of Graph keep: the source, the row of pairs, the variables. -/
structure GS (w0 w : World) (g : Nat) (L : List Int) (M : Nat) (g4 g5 : Nat) (A : Option Addr) (n c : Nat) (l : List S54) (x : World) : Prop where
  src : SrcS w0 g L x
  b0 : Below w0.heap.size w0 x
  kb : KeepBut w x g none
  k5 : x.heap[g5]? = some (.cells #[.int .i64 (M : Int), .slice A n c] 24 (0, 0))
  k4 : x.heap[g4]? = some (.cells #[.int .i64 0, .slice none 0 0] 24 (0, 0))
  n45 : g4 ≠ g5
  l4 : w.heap.size ≤ g4
  l5 : w.heap.size ≤ g5
  own : OwnP x w.heap.size (.slice A n c) l
theorem SrcS.ne {w0 : World} {g : Nat} {L : List Int} {x : World} (h : SrcS w0 g L x) {k : Nat} {cs : Array Value} {t : TypeId} (hk : x.heap[k]? = some (.cells cs t (0, 0))) (ht : t ≠ 57) : k ≠ g := by
  obtain ⟨a, ⟨A, c, hb, _⟩, _⟩ := h
  exact blk_ne hk hb ht
theorem SrcS.nx {w0 : World} {g : Nat} {L : List Int} {w w1 : World} (h : SrcS w0 g L w) (hb : Below w.heap.size w w1) : SrcS w0 g L w1 := by
  obtain ⟨a, hI, h1⟩ := h
  exact ⟨a, hI.below hb, h1⟩
theorem GS.call {w0 w : World} {g : Nat} {L : List Int} {M g4 g5 : Nat} {A : Option Addr} {n c : Nat} {l : List S54} {x y : World} (h : GS w0 w g L M g4 g5 A n c l x) (hs : SrcS w0 g L y) (hb : Below w0.heap.size w0 y) (hk : KeepBut x y g none) : GS w0 w g L M g4 g5 A n c l y where
  src := hs
  b0 := hb
  kb := h.kb.trans hk (.inl rfl)
  k5 := hk.blk h.k5 (h.src.ne h.k5 (by decide)) (by simp)
  k4 := hk.blk h.k4 (h.src.ne h.k4 (by decide)) (by simp)
  n45 := h.n45
  l4 := h.l4
  l5 := h.l5
  own := hk.own h.own (fun e => by
    obtain ⟨a, ⟨A', c', hbk, _⟩, _⟩ := h.src
    exact own_ne h.own hbk (by decide) e.symm) (by cases (Value.slice A n c).ownBlock <;> simp)
/-- Behind an append and the store of its slice. -/
theorem GS.app {w0 w : World} {g : Nat} {L : List Int} {M g4 g5 : Nat} {A A' : Option Addr} {n c n' c' : Nat} {l l' : List S54} {x y : World} (h : GS w0 w g L M g4 g5 A n c l x) (ho : OwnP y w.heap.size (.slice A' n' c') l') (hg : x.grownBy y (Value.slice A n c).ownBlock) (hb : Below w0.heap.size w0 y) (hw : w0.heap.size ≤ w.heap.size) : GS w0 w g L M g4 g5 A' n' c' l' (y.setCell ⟨g5, 1, none⟩ (.slice A' n' c')) := by
  have e5 := blk_grown h.k5 hg (own_ne h.own h.k5 (by decide))
  have e4 := blk_grown h.k4 hg (own_ne h.own h.k4 (by decide))
  have hsrc : SrcS w0 g L y := by
    obtain ⟨a, hI, h1⟩ := h.src
    obtain ⟨A1, c1, hbk, h2, h3⟩ := hI
    exact ⟨a, ⟨A1, c1, blk_grown hbk hg (own_ne h.own hbk (by decide)), h2, h3⟩, h1⟩
  have hne := hsrc.ne e5 (by decide)
  refine ⟨?_, hb.setCell (p := ⟨g5, 1, none⟩) (Nat.le_trans hw h.l5) _, ?_, ?_, ?_, h.n45, h.l4, h.l5, ?_⟩
  · obtain ⟨a, hI, h1⟩ := hsrc
    exact ⟨a, hI.far (p := ⟨g5, 1, none⟩) (Ne.symm hne) _, h1⟩
  · have hk := h.kb.trans (KeepBut.of_grown hg g) (by
      cases hv : (Value.slice A n c).ownBlock with
      | none => exact .inl rfl
      | some k => exact .inr ⟨k, rfl, own_base h.own k hv⟩)
    exact keep_far hk (p := ⟨g5, 1, none⟩) h.l5 _
  · rw [heap_setCell_same y g5 1 _ 24 _ e5]; rfl
  · rw [heap_setCell_other y _ g4 _ h.n45]; exact e4
  · exact own_other ho (grown_setG y ⟨g5, 1, none⟩ _) (.inr (Ne.symm (own_ne ho e5 (by decide))))

theorem GS.fin {w0 w : World} {g : Nat} {L : List Int} {M g4 g5 : Nat} {A : Option Addr} {n c : Nat} {l : List S54} {x : World} (h : GS w0 w g L M g4 g5 A n c l x) (hw : w0.heap.size ≤ w.heap.size) (u v : Value) :
    ((x.setCell ⟨g4, 0, none⟩ u).setCell ⟨g4, 1, none⟩ v).heap[g4]? = some (.cells #[u, v] 24 (0, 0)) ∧ OwnP ((x.setCell ⟨g4, 0, none⟩ u).setCell ⟨g4, 1, none⟩ v) w.heap.size (.slice A n c) l ∧ SrcS w0 g L ((x.setCell ⟨g4, 0, none⟩ u).setCell ⟨g4, 1, none⟩ v) ∧ Below w0.heap.size w0 ((x.setCell ⟨g4, 0, none⟩ u).setCell ⟨g4, 1, none⟩ v) ∧ KeepBut w ((x.setCell ⟨g4, 0, none⟩ u).setCell ⟨g4, 1, none⟩ v) g none := by
  have e1 := heap_setCell_same x g4 0 _ 24 u h.k4
  have e2 := heap_setCell_same _ g4 1 _ 24 v e1
  have hne := h.src.ne h.k4 (by decide)
  refine ⟨e2, ?_, ?_, (h.b0.setCell (p := ⟨g4, 0, none⟩) (Nat.le_trans hw h.l4) _).setCell (p := ⟨g4, 1, none⟩) (Nat.le_trans hw h.l4) _, keep_far (keep_far h.kb (p := ⟨g4, 0, none⟩) h.l4 _) (p := ⟨g4, 1, none⟩) h.l4 _⟩
  · have o1 : OwnP (x.setCell ⟨g4, 0, none⟩ u) w.heap.size (.slice A n c) l := own_other h.own (grown_setG x ⟨g4, 0, none⟩ u) (.inr (Ne.symm (own_ne h.own h.k4 (by decide))))
    exact own_other o1 (grown_setG _ ⟨g4, 1, none⟩ v) (.inr (Ne.symm (own_ne o1 e1 (by decide))))
  · obtain ⟨a, hI, h1⟩ := h.src
    exact ⟨a, (hI.far (p := ⟨g4, 0, none⟩) (Ne.symm hne) _).far (p := ⟨g4, 1, none⟩) (Ne.symm hne) _, h1⟩
/-- Pairs ahead of a place. -/
def before (a b : Nat) (l : List S54) : Prop := ∀ p, p ∈ l → p.f0 < a ∨ (p.f0 = a ∧ p.f1 < b)
theorem HP_add {M a b : Nat} {l : List S54} (h : InR M l ∧ l.Pairwise plt ∧ before a b l ∧ l.length ≤ a * 40 + b) (ha : a < M) (hb : b < M) : InR M (l ++ [⟨(a : Int), (b : Int)⟩]) ∧ (l ++ [(⟨(a : Int), (b : Int)⟩ : S54)]).Pairwise plt ∧ before a (b + 1) (l ++ [⟨(a : Int), (b : Int)⟩]) ∧ (l ++ [(⟨(a : Int), (b : Int)⟩ : S54)]).length ≤ a * 40 + (b + 1) := by
  refine ⟨fun p hp => ?_, ?_, fun p hp => ?_, by have := h.2.2.2; simp; omega⟩
  · rcases List.mem_append.1 hp with hp | hp
    · exact h.1 p hp
    · rw [List.mem_singleton] at hp; subst hp; simp; omega
  · rw [List.pairwise_append]
    refine ⟨h.2.1, by simp, fun p hp q hq => ?_⟩
    rw [List.mem_singleton] at hq
    subst hq
    have := h.2.2.1 p hp
    unfold plt
    simp
    omega
  · rcases List.mem_append.1 hp with hp | hp
    · have := h.2.2.1 p hp; omega
    · rw [List.mem_singleton] at hp; subst hp; simp; omega
set_option maxHeartbeats 8000000 in
set_option maxRecDepth 100000 in
theorem gen_any (w0 : World) (g : Nat) (L : List Int) (n : Nat) (hn1 : 1 ≤ n) (hn : n ≤ 40) (w : World) (hs : SrcS w0 g L w) (hB : Below w0.heap.size w0 w) (hw : w0.heap.size ≤ w.heap.size) :
    Calls Tryd.prog 9 #[.pointer (some ⟨g, 0, none⟩), .int .i64 (n : Int)] w fun e w' => ∃ (M : Nat) (A : Option Addr) (c : Nat) (l : List S54), e = .returned (.agg #[.int .i64 (M : Int), .slice A l.length c]) ∧ 1 ≤ M ∧ M ≤ n ∧ InR M l ∧ valE M l = 0 ∧ l.length ≤ 1600 ∧ Aside0 (OwnP w' w.heap.size (.slice A l.length c) l) ∧ Aside0 (SrcS w0 g L w') ∧ Aside0 (Below w0.heap.size w0 w') ∧ Aside0 (KeepBut w w' g none) := by
  have HS := Aside0.mk hs
  have HB := Aside0.mk hB
  clear hs hB
  go_enter Tryd.func9, Tryd.ntmps9
  go_upto_region 1 with (first | ((with_reducible refine gate_dst (N := 4) rfl ?_); refine box_mem (w := w) 4 #[.int .i64 0, .slice none 0 0] 24 rfl rfl ?hr (Mem.refl w) ?_; (case hr => go_simp; done); intro g4 w1 HM HW))
  have HS1 := Aside0.mk (HS.out.nx (w1 := w1) (by rw [HW.out]; exact below_alloc (Below.refl _ _) _))
  have HB1 : Aside0 (Below w0.heap.size w0 w1) := ⟨by rw [HW.out]; exact HB.out.alloc hw _⟩
  have HK1 : Aside0 (KeepBut w w1 g none) := ⟨KeepBut.of_below HM.out.st.hb _ _⟩
  have HR1 := Aside0.mk (srcR_any w0 g L 1 (n : Int) (by omega) (by omega) (by omega) w1 HS1.out HB1.out)
  go_upto_region 2 with (first | (go_at_call 17; refine HR1.out.mono ?_; rintro e w2 ⟨r, rfl, hr1, hr2, HS2, HB2, HK2⟩))
  obtain ⟨M, rfl⟩ := Int.eq_ofNat_of_zero_le (show 0 ≤ r by omega)
  have HG0 : Aside0 (GS w0 w g L M g4 w2.heap.size none 0 0 [] (w2.alloc (.cells #[.int .i64 (M : Int), .slice none 0 0] 24))) := ⟨{
    src := HS2.out.nx (below_alloc (Below.refl _ _) _)
    b0 := HB2.out.alloc (Nat.le_trans hw (Nat.le_trans HM.out.st.hb.size HK2.out.1)) _
    kb := keep_alloc (HK1.out.trans HK2.out (.inl rfl)) _
    k5 := blk_new w2 _
    k4 := blk_grown (HK2.out.blk (HM.out.st.blk _ (.head _)) (HS1.out.ne (HM.out.st.blk _ (.head _)) (by decide)) (by simp)) (World.grownBy_alloc _ _ none) (by simp)
    n45 := by
      have := blk_lt (HK2.out.blk (HM.out.st.blk _ (.head _)) (HS1.out.ne (HM.out.st.blk _ (.head _)) (by decide)) (by simp))
      show g4 ≠ w2.heap.size
      omega
    l4 := HM.out.lo _ (.head _)
    l5 := Nat.le_trans HM.out.st.hb.size HK2.out.1
    own := own_nil _ _ _ _ }⟩
  clear HS HB HM HW HS1 HB1 HK1 HR1 HS2 HB2 HK2
  change Code.wp Tryd.prog _ _ _ (w2.alloc (.cells #[.int .i64 (M : Int), .slice none 0 0] 24))
  generalize w2.heap.size = g5 at *
  generalize w2.alloc (.cells #[.int .i64 (M : Int), .slice none 0 0] 24) = w3 at *
  have HR2 := Aside0.mk (srcR_any w0 g L 2 5 (by omega) (by omega) (by omega) w3 HG0.out.src HG0.out.b0)
  go_upto_region 3 with (first | (go_at_call 17; refine HR2.out.mono ?_; rintro e w4 ⟨d, rfl, hd1, hd2, HS2, HB2, HK2⟩))
  have HG1 := Aside0.mk (HG0.out.call HS2.out HB2.out HK2.out)
  clear HG0 HS2 HB2 HK2 HR2
  go_wp2
  go_loopw [7, 8, 9] (fun v7 v8 v9 w' => ∃ (a : Nat) (A : Option Addr) (c : Nat) (l : List S54), v7 = .int .i64 (a : Int) ∧ a ≤ M ∧ Aside0 (GS w0 w g L M g4 g5 A l.length c l w') ∧ Aside0 (InR M l ∧ l.Pairwise plt ∧ before a 0 l ∧ l.length ≤ a * 40)) (fun v7 _ _ _ => M - (intOf v7).toNat)
  case atStart => exact ⟨0, none, 0, [], rfl, Nat.zero_le _, HG1, ⟨fun p hp => absurd hp (by simp), List.Pairwise.nil, fun p hp => absurd hp (by simp), by simp⟩⟩
  case round =>
    clear HG1
    obtain ⟨a, A, c, l, rfl, ha, HG, HP⟩ := hrel
    have hk0 := (blk_cell HG.out.k5 0).trans rfl
    by_cases hlt : a < M
    · go_wp2
      clear hk0
      go_loopw [8, 9] (fun v8 v9 w' => ∃ (b : Nat) (A : Option Addr) (c : Nat) (l : List S54), v8 = .int .i64 (b : Int) ∧ b ≤ M ∧ Aside0 (GS w0 w g L M g4 g5 A l.length c l w') ∧ Aside0 (InR M l ∧ l.Pairwise plt ∧ before a b l ∧ l.length ≤ a * 40 + b)) (fun v8 _ _ => M - (intOf v8).toNat)
      case atStart => exact ⟨0, A, c, l, rfl, Nat.zero_le _, HG, ⟨HP.out.1, HP.out.2.1, HP.out.2.2.1, HP.out.2.2.2⟩⟩
      case round =>
        clear HG HP
        obtain ⟨b, A, c, l, rfl, hb, HG, HP⟩ := hrel
        have hk0 := (blk_cell HG.out.k5 0).trans rfl
        by_cases hltb : b < M
        · have hM40 : M ≤ 40 := by omega
          have HP2 : Aside0 (InR M (l ++ [⟨(a : Int), (b : Int)⟩]) ∧ (l ++ [(⟨(a : Int), (b : Int)⟩ : S54)]).Pairwise plt ∧ before a (b + 1) (l ++ [⟨(a : Int), (b : Int)⟩]) ∧ (l ++ [(⟨(a : Int), (b : Int)⟩ : S54)]).length ≤ a * 40 + (b + 1)) := ⟨HP_add HP.out hlt hltb⟩
          have HP3 : Aside0 (InR M l ∧ l.Pairwise plt ∧ before a (b + 1) l ∧ l.length ≤ a * 40 + (b + 1)) := ⟨HP.out.1, HP.out.2.1, fun p hp => by have := HP.out.2.2.1 p hp; omega, by have := HP.out.2.2.2; omega⟩
          have hll : l.length < 1000000 := by
            have := HP.out.2.2.2
            have : a * 40 ≤ 40 * 40 := Nat.mul_le_mul_right 40 (by omega)
            omega
          by_cases hab : a = b
          · have q1 : ((a : Int) == (b : Int)) = true := by rw [beq_iff_eq]; omega
            have HN := Aside0.mk (srcN_any w0 g L 9 (by omega) (by omega) wr HG.out.src HG.out.b0)
            clear hab
            go_upto_if 35 with (first | (go_at_call 18; refine HN.out.mono ?_; rintro e w5 ⟨r, rfl, hr0, hr1, HS5, HB5, HK5⟩))
            have HG5 := Aside0.mk (HG.out.call HS5.out HB5.out HK5.out)
            clear HG HS5 HB5 HK5 HN hk0
            have k1 := (blk_cell HG5.out.k5 1).trans rfl
            by_cases hr : r = 1
            · have q2 : (r == 1) = true := by rw [beq_iff_eq]; exact hr
              clear hr
              go_wp2_with (first | (at_builtin; refine app_pair (w0 := w0) w.heap.size 22 (.tmp 37) (.tmp 41) rfl rfl Tryd.underlying22 info54 _ l (a : Int) (b : Int) rfl rfl ?aO ?aB hw ?aS hll ?_; (case aO => exact HG5.out.own); (case aB => exact HG5.out.b0); (case aS => exact HG5.out.kb.1); intro v1 w6 HO6 HG6 HB6; obtain ⟨A', c', rfl⟩ := own_slice HO6; have e5 := blk_grown HG5.out.k5 HG6 (own_ne HG5.out.own HG5.out.k5 (by decide)); have k1' := (blk_cell e5 1).trans rfl; have f1 : w6.frozen? ⟨g5, 1, none⟩ = false := blk_frozen e5 1; have HG7 := Aside0.mk (HG5.out.app HO6 HG6 HB6 hw); clear e5 k1))
              exact ⟨⟨b + 1, A', c', l ++ [⟨(a : Int), (b : Int)⟩], by go_num, hltb, ⟨by have h := HG7.out; rw [show (l ++ [(⟨(a : Int), (b : Int)⟩ : S54)]).length = l.length + 1 by simp] at h ⊢; exact h⟩, HP2⟩, by simp [intOf]; omega⟩
            · have q2 : (r == 1) = false := by rw [beq_eq_false_iff_ne]; exact hr
              clear hr
              go_wp2
              exact ⟨⟨b + 1, A, c, l, by go_num, hltb, HG5, HP3⟩, by simp [intOf]; omega⟩
          · have q1 : ((a : Int) == (b : Int)) = false := by rw [beq_eq_false_iff_ne]; omega
            have HN := Aside0.mk (srcN_any w0 g L d (by omega) (by omega) wr HG.out.src HG.out.b0)
            clear hab
            go_upto_if 35 with (first | (go_at_call 18; refine HN.out.mono ?_; rintro e w5 ⟨r, rfl, hr0, hr1, HS5, HB5, HK5⟩))
            have HG5 := Aside0.mk (HG.out.call HS5.out HB5.out HK5.out)
            clear HG HS5 HB5 HK5 HN hk0
            have k1 := (blk_cell HG5.out.k5 1).trans rfl
            by_cases hr : r = 1
            · have q2 : (r == 1) = true := by rw [beq_iff_eq]; exact hr
              clear hr
              go_wp2_with (first | (at_builtin; refine app_pair (w0 := w0) w.heap.size 22 (.tmp 37) (.tmp 41) rfl rfl Tryd.underlying22 info54 _ l (a : Int) (b : Int) rfl rfl ?aO ?aB hw ?aS hll ?_; (case aO => exact HG5.out.own); (case aB => exact HG5.out.b0); (case aS => exact HG5.out.kb.1); intro v1 w6 HO6 HG6 HB6; obtain ⟨A', c', rfl⟩ := own_slice HO6; have e5 := blk_grown HG5.out.k5 HG6 (own_ne HG5.out.own HG5.out.k5 (by decide)); have k1' := (blk_cell e5 1).trans rfl; have f1 : w6.frozen? ⟨g5, 1, none⟩ = false := blk_frozen e5 1; have HG7 := Aside0.mk (HG5.out.app HO6 HG6 HB6 hw); clear e5 k1))
              exact ⟨⟨b + 1, A', c', l ++ [⟨(a : Int), (b : Int)⟩], by go_num, hltb, ⟨by have h := HG7.out; rw [show (l ++ [(⟨(a : Int), (b : Int)⟩ : S54)]).length = l.length + 1 by simp] at h ⊢; exact h⟩, HP2⟩, by simp [intOf]; omega⟩
            · have q2 : (r == 1) = false := by rw [beq_eq_false_iff_ne]; exact hr
              clear hr
              go_wp2
              exact ⟨⟨b + 1, A, c, l, by go_num, hltb, HG5, HP3⟩, by simp [intOf]; omega⟩
        · go_wp2
          go_roundw
          case rel => exact ⟨a + 1, A, c, l, by go_num, hlt, HG, ⟨HP.out.1, HP.out.2.1, fun p hp => by have := HP.out.2.2.1 p hp; have := (HP.out.1 p hp).2.2.2; omega, by have := HP.out.2.2.2; omega⟩⟩
          case measure => simp [intOf]; omega
    · have ham : a = M := by omega
      have k0 := (blk_cell HG.out.k5 0).trans rfl
      have k1 := (blk_cell HG.out.k5 1).trans rfl
      have f0 : wr.frozen? ⟨g4, 0, none⟩ = false := blk_frozen HG.out.k4 0
      have f1 : wr.frozen? ⟨g4, 1, none⟩ = false := blk_frozen HG.out.k4 1
      have c0 := (blk_cell HG.out.k4 0).trans rfl
      have c1 := (blk_cell HG.out.k4 1).trans rfl
      clear hk0
      go_wp2
      have HF := HG.out.fin hw (.int .i64 (M : Int)) (.slice A l.length c)
      have hlen : l.length ≤ 1600 := by
        have := HP.out.2.2.2
        have : a * 40 ≤ 40 * 40 := Nat.mul_le_mul_right 40 (by omega)
        omega
      refine bodyPost_ret (results_cell_row rfl _ _ g4 24 #[.int .i64 (M : Int), .slice A l.length c] (0, 0) _ rfl HF.1 Tryd.underlying24 rfl (by kernel_rfl)) rfl ?_
      exact ⟨M, A, c, l, rfl, by omega, by omega, HP.out.1, by rw [valE, if_neg (by omega)]; exact valL_zero _ _ _ HP.out.1 HP.out.2.1 (fun r h => by cases h), hlen, ⟨HF.2.1⟩, ⟨HF.2.2.1⟩, ⟨HF.2.2.2.1⟩, ⟨HF.2.2.2.2⟩⟩
end Go.Proofs.YtgboplcjafmliaaDoor.G

/- The walk of best. -/
namespace Go.Proofs.YtgboplcjafmliaaDoor.G
open Go.RowKit Go.Proofs.YtgboplcjafmliaaDoorW.PrintWords Go.Proofs.YtgboplcjafmliaaDoorW.PrintLast Go.Proofs.YtgboplcjafmliaaDoorW.PrintMore
open Go.Proofs.YtgboplcjafmliaaDoor.PAll
set_option linter.unusedVariables false
set_option linter.unusedSimpArgs false

/-- What best finds: the graph, the counter. -/
structure BG (M : Nat) (l : List S54) (A : Option Addr) (c base gl : Nat) (left : Int) (x : World) : Prop where
  tab : TabW x
  own : OwnP x base (.slice A l.length c) l
  cell : x.heap[gl]? = some (.cells #[.int .i64 left] 3 (0, 0))
  pos : 0 < gl
set_option maxHeartbeats 8000000 in
set_option maxRecDepth 100000 in
theorem best_low (M : Nat) (l : List S54) (k : Int) (A : Option Addr) (c base gl : Nat) (line : List Nat) (left : Int) (h1 : left - 1 ≤ 0) (h2 : -100000 ≤ left) (A2 : Option Addr) (c2 : Nat) (w : World) (hg : BG M l A c base gl left w) :
    Calls Tryd.prog 16 #[.agg #[.int .i64 (M : Int), .slice A l.length c], .int .i64 k, .slice A2 line.length c2, .pointer (some ⟨gl, 0, none⟩)] w fun e w' => e = .returned (.int .i64 0) ∧ Aside0 (w'.heap[gl]? = some (.cells #[.int .i64 (left - 1)] 3 (0, 0))) ∧ Aside0 (Kp gl gl w w') := by
  have HG := Aside0.mk hg
  have q1 : IntKind.i64.wrap (left - 1) = left - 1 := IntWalk.i64_in _ (by omega)
  have q2 : decide (left - 1 ≤ 0) = true := decide_eq_true h1
  have HB := Aside0.mk (St.refl w)
  clear hg
  go_enter Tryd.func16, Tryd.ntmps16
  go_upto_region 1 with (first | ((with_reducible refine gate_dst (N := 4) rfl ?_); refine box_st (w := w) 4 #[.int .i64 (M : Int), .slice A l.length c] 24 rfl rfl ?hr HB.out ?_; (case hr => go_simp; done); clear HB; intro g w1 HB GE))
  have hgl := blk_grown HG.out.cell (grown_of_below HB.out.hb none) (by simp)
  have hc := (blk_cell hgl 0).trans rfl
  have hf : w1.frozen? ⟨gl, 0, none⟩ = false := blk_frozen hgl 0
  go_wp2
  go_ret
  refine ⟨rfl, ⟨?_⟩, ⟨(Kp.of HB.out.hb).trans (Kp.setg w1 0 _)⟩⟩
  rw [heap_setCell_same w1 gl 0 _ 3 _ hgl]; rfl
theorem BG.kp {M : Nat} {l : List S54} {A : Option Addr} {c base gl : Nat} {left left' : Int} {x y : World} (h : BG M l A c base gl left x) (k : Kp gl gl x y) (hc : y.heap[gl]? = some (.cells #[.int .i64 left'] 3 (0, 0))) : BG M l A c base gl left' y where
  tab := h.tab.below (B := 1) (by omega) (k.below h.pos h.pos h.tab.2)
  own := by
    obtain ⟨h3, h4⟩ := h.own
    refine ⟨h3, ?_⟩
    rcases h4 with h4 | ⟨b, cap, cur, e, hb, hk, r⟩
    · exact .inl h4
    · exact .inr ⟨b, cap, cur, e, hb, k.blk hk h.cell h.cell (by decide) (by decide), r⟩
  cell := hc
  pos := h.pos
theorem BG.nx {M : Nat} {l : List S54} {A : Option Addr} {c base gl : Nat} {left : Int} {x y : World} (h : BG M l A c base gl left x) (hb : Below x.heap.size x y) : BG M l A c base gl left y := h.kp (Kp.of hb) (blk_grown h.cell (grown_of_below hb none) (by simp))
theorem BG.rd {M : Nat} {l : List S54} {A : Option Addr} {c base gl : Nat} {left : Int} {x : World} (h : BG M l A c base gl left x) : RdP x A c l := by
  obtain ⟨A', c', e, hr⟩ := h.own.reads
  injection e with e1 e2 e3
  subst e1 e3
  exact hr
theorem OwnI.rd {x : World} {base n : Nat} {A : Option Addr} {c : Nat} {l : List Nat} (h : OwnI x base (.slice A n c) l) : RdN .i64 x A c l := by
  obtain ⟨A', c', e, hr⟩ := h.reads
  injection e with e1 e2 e3
  subst e1 e3
  exact hr
theorem RdN.toI {x : World} {A : Option Addr} {c : Nat} {l : List Nat} (h : RdN .i64 x A c l) : RdI x A c (up l) := by
  refine ⟨by rw [up_length]; exact h.1, ?_⟩
  rw [up_length]
  exact h.2
section
variable {P : Program} {ops : Array Oper} {o : Oper} {a : Act} {Q : Exit → Act → World → Prop} {K : Act → World → Prop}
/-- The same, in a world that differs from an elder one in new blocks alone. -/
theorem step_rowB {wr W : World} (hw : Region.wanted o (yielded ops a.tmps) = true) (t : TypeId) (s x : Operand)
    (ho : o.op = .call { callee := .builtin .append, args := #[s, x], argTypes := #[t, t] })
    (ht : P.underlying t = some (.slice 3)) (hinfo : (P.info? 3).map (fun i => (i.zero, i.size, i.bytes)) = some (some (.int .i64 0), 1, 8))
    (v : Value) (xs ys : List Nat) (ad : Addr) (c : Nat) (hs : a.eval s = v) (hx : a.eval x = .slice (some ad) ys.length c)
    (HB : Below wr.heap.size wr W) (HO : OwnI W wr.heap.size v xs) (HR : RdN .i64 W (some ad) c ys) (hl : xs.length + ys.length < 1000000)
    (h : ∀ v1 w1, OwnI w1 wr.heap.size v1 (xs ++ ys) → Below wr.heap.size wr w1 → (∀ k ob, W.heap[k]? = some ob → some k ≠ v.ownBlock → w1.heap[k]? = some ob) → K (a.put o.dst v1) w1) :
    if Region.wanted o (yielded ops a.tmps) = true then Oper.wp P o a W K Q else K (a.put o.dst undef) W :=
  step_row wr.heap.size hw t s x ho ht hinfo v xs ys ad c hs hx HO HR HB.size hl fun v1 w1 h1 h2 _ => h v1 w1 h1
    (HB.grown h2 HB.size (by
      intro k hk
      rcases HO.2 with ⟨rfl, _⟩ | ⟨g, cap, cur, rfl, hg, _⟩
      · cases hk
      · injection hk with hk; subst hk; exact hg))
    (fun k ob hk hne => blk_grown hk h2 hne)
end
theorem own_empty {w : World} {base b : Nat} (hb : base ≤ b) (h : w.heap[b]? = some (.cells #[] 3 (0, 0))) : OwnI w base (.slice (some ⟨b, 0, none⟩) 0 0) [] :=
  ⟨rfl, .inr ⟨b, 0, #[], rfl, hb, h, Nat.le_refl _, Nat.zero_le _, rfl, rfl⟩⟩
theorem rd_one {w : World} {b a : Nat} (h : w.heap[b]? = some (.cells #[.int .i64 (a : Int)] 3 (0, 0))) : RdN .i64 w (some ⟨b, 0, none⟩) 1 [a] :=
  OwnI.rd (base := b) (n := 1) ⟨rfl, .inr ⟨b, 1, _, rfl, Nat.le_refl _, h, Nat.le_refl _, by decide, rfl, rfl⟩⟩
theorem alw1 (w : World) (o : Obj) : Below w.heap.size w (w.alloc o).drew := ((Below.refl _ w).alloc (Nat.le_refl _) o).drew
theorem alw2 (w : World) (o o' : Obj) : Below w.heap.size w ((w.alloc o).alloc o').drew := (((Below.refl _ w).alloc (Nat.le_refl _) o).alloc (by show w.heap.size ≤ (w.heap.push o).size; simp) o').drew
theorem alh1 (w : World) (o : Obj) : (w.alloc o).drew.heap[w.heap.size]? = some o := by show (w.heap.push o)[w.heap.size]? = _; simp
theorem alh20 (w : World) (o o' : Obj) : ((w.alloc o).alloc o').drew.heap[w.heap.size]? = some o := by
  show ((w.heap.push o).push o')[w.heap.size]? = _
  rw [Array.getElem?_push_lt (by simp)]; simp
theorem alh21 (w : World) (o o' : Obj) : ((w.alloc o).alloc o').drew.heap[w.heap.size + 1]? = some o' := by
  show ((w.heap.push o).push o')[w.heap.size + 1]? = _
  have h : w.heap.size + 1 = (w.heap.push o).size := by simp
  rw [h, Array.getElem?_push_size]
theorem alh0 (w : World) (o : Obj) : (w.alloc o).heap[w.heap.size]? = some o := by show (w.heap.push o)[w.heap.size]? = _; simp
section
variable {ops : Array Oper} {o : Oper} {a : Act} {Q : Exit → Act → World → Prop} {K : Act → World → Prop}
set_option maxRecDepth 100000 in
theorem bestA1 {wr : World} {line : List Nat} {ad : Addr} {c base2 : Nat} (HR : OwnI wr base2 (.slice (some ad) line.length c) line) (hl : line.length ≤ 61) (hw : Region.wanted o (yielded ops a.tmps) = true)
    (ho : o.op = .call { callee := .builtin .append, args := #[.tmp 58, .tmp 59], argTypes := #[25, 25] })
    (hs : a.eval (.tmp 58) = .slice (some ⟨wr.heap.size, 0, none⟩) 0 0) (hx : a.eval (.tmp 59) = .slice (some ad) line.length c)
    (h : ∀ v1 w1, OwnI w1 wr.heap.size v1 line → Below wr.heap.size wr w1 → K (a.put o.dst v1) w1) :
    if Region.wanted o (yielded ops a.tmps) = true then Oper.wp Tryd.prog o a (wr.alloc (.cells #[] 3)).drew K Q else K (a.put o.dst undef) (wr.alloc (.cells #[] 3)).drew :=
  step_rowB (wr := wr) hw 25 (.tmp 58) (.tmp 59) ho rfl rfl _ [] line ad c hs hx (alw1 wr _) (own_empty (by omega) (alh1 wr _)) (HR.rd.below (alw1 wr _)) (by show 0 + line.length < 1000000; omega) fun v1 w1 h1 h2 h3 => h v1 w1 h1 h2
set_option maxRecDepth 100000 in
theorem bestA2 {wr : World} {x : Int} {line : List Nat} {ad : Addr} {c base2 : Nat} (HR : OwnI wr base2 (.slice (some ad) line.length c) line) (hl : line.length ≤ 61) (hw : Region.wanted o (yielded ops a.tmps) = true)
    (ho : o.op = .call { callee := .builtin .append, args := #[.tmp 58, .tmp 59], argTypes := #[25, 25] })
    (hs : a.eval (.tmp 58) = .slice (some ⟨wr.heap.size, 0, none⟩) 0 0) (hx : a.eval (.tmp 59) = .slice (some ad) line.length c)
    (h : ∀ v1 w1, OwnI w1 wr.heap.size v1 line → Below wr.heap.size wr w1 → w1.heap[wr.heap.size + 1]? = some (.cells #[.int .i64 x] 3 (0, 0)) → K (a.put o.dst v1) w1) :
    if Region.wanted o (yielded ops a.tmps) = true then Oper.wp Tryd.prog o a ((wr.alloc (.cells #[] 3)).alloc (.cells #[.int .i64 x] 3)).drew K Q else K (a.put o.dst undef) ((wr.alloc (.cells #[] 3)).alloc (.cells #[.int .i64 x] 3)).drew :=
  step_rowB (wr := wr) hw 25 (.tmp 58) (.tmp 59) ho rfl rfl _ [] line ad c hs hx (alw2 wr _ _) (own_empty (by omega) (alh20 wr _ _)) (HR.rd.below (alw2 wr _ _)) (by show 0 + line.length < 1000000; omega) fun v1 w1 h1 h2 h3 => h v1 w1 h1 h2 (h3 _ _ (alh21 wr _ _) (by simp [Value.ownBlock]))
set_option maxRecDepth 100000 in
theorem bestA3 {wr : World} {x : Int} {line : List Nat} {ad : Addr} {c base2 : Nat} (HR : OwnI wr base2 (.slice (some ad) line.length c) line) (hl : line.length ≤ 61) (hw : Region.wanted o (yielded ops a.tmps) = true)
    (ho : o.op = .call { callee := .builtin .append, args := #[.tmp 58, .tmp 59], argTypes := #[25, 25] })
    (hs : a.eval (.tmp 58) = .slice (some ⟨wr.heap.size + 1, 0, none⟩) 0 0) (hx : a.eval (.tmp 59) = .slice (some ad) line.length c)
    (h : ∀ v1 w1, OwnI w1 wr.heap.size v1 line → Below wr.heap.size wr w1 → w1.heap[wr.heap.size]? = some (.cells #[.int .i64 x] 3 (0, 0)) → K (a.put o.dst v1) w1) :
    if Region.wanted o (yielded ops a.tmps) = true then Oper.wp Tryd.prog o a ((wr.alloc (.cells #[.int .i64 x] 3)).alloc (.cells #[] 3)).drew K Q else K (a.put o.dst undef) ((wr.alloc (.cells #[.int .i64 x] 3)).alloc (.cells #[] 3)).drew :=
  step_rowB (wr := wr) hw 25 (.tmp 58) (.tmp 59) ho rfl rfl _ [] line ad c hs hx (alw2 wr _ _) (own_empty (by omega) (alh21 wr _ _)) (HR.rd.below (alw2 wr _ _)) (by show 0 + line.length < 1000000; omega) fun v1 w1 h1 h2 h3 => h v1 w1 h1 h2 (h3 _ _ (alh20 wr _ _) (by simp [Value.ownBlock]))
set_option maxRecDepth 100000 in
theorem bestB1 {wr w1 : World} {x : Nat} {v1 : Value} {line : List Nat} (HO : OwnI w1 wr.heap.size v1 line) (HB : Below wr.heap.size wr w1) (hl : line.length ≤ 61) (hw : Region.wanted o (yielded ops a.tmps) = true)
    (ho : o.op = .call { callee := .builtin .append, args := #[.tmp 60, .tmp 62], argTypes := #[25, 25] })
    (hs : a.eval (.tmp 60) = v1) (hx : a.eval (.tmp 62) = .slice (some ⟨w1.heap.size, 0, none⟩) 1 1)
    (h : ∀ A2 c2 w2, OwnI w2 wr.heap.size (.slice A2 (line.length + 1) c2) (line ++ [x]) → Below wr.heap.size wr w2 → K (a.put o.dst (.slice A2 (line.length + 1) c2)) w2) :
    if Region.wanted o (yielded ops a.tmps) = true then Oper.wp Tryd.prog o a (w1.alloc (.cells #[.int .i64 (x : Int)] 3)) K Q else K (a.put o.dst undef) (w1.alloc (.cells #[.int .i64 (x : Int)] 3)) :=
  step_rowB (wr := wr) hw 25 (.tmp 60) (.tmp 62) ho rfl rfl v1 line [x] ⟨w1.heap.size, 0, none⟩ 1 hs hx (HB.alloc HB.size _) (OwnI.below HO ((Below.refl _ w1).alloc (Nat.le_refl _) _)) (rd_one (alh0 _ _)) (by show line.length + 1 < 1000000; omega) fun v2 w2 h1 h2 h3 => by
    obtain ⟨A9, c9, rfl, _⟩ := h1.reads
    have e : (line ++ [x]).length = line.length + 1 := by simp
    rw [e] at h1
    rw [e]
    exact h A9 c9 w2 h1 h2
set_option maxRecDepth 100000 in
theorem bestB2 {wr w1 : World} {x : Nat} {v1 : Value} {line : List Nat} {g : Nat} (HO : OwnI w1 wr.heap.size v1 line) (HB : Below wr.heap.size wr w1) (hl : line.length ≤ 61) (hw : Region.wanted o (yielded ops a.tmps) = true)
    (ho : o.op = .call { callee := .builtin .append, args := #[.tmp 60, .tmp 62], argTypes := #[25, 25] })
    (hs : a.eval (.tmp 60) = v1) (hx : a.eval (.tmp 62) = .slice (some ⟨g, 0, none⟩) 1 1) (hg : w1.heap[g]? = some (.cells #[.int .i64 (x : Int)] 3 (0, 0)))
    (h : ∀ A2 c2 w2, OwnI w2 wr.heap.size (.slice A2 (line.length + 1) c2) (line ++ [x]) → Below wr.heap.size wr w2 → K (a.put o.dst (.slice A2 (line.length + 1) c2)) w2) :
    if Region.wanted o (yielded ops a.tmps) = true then Oper.wp Tryd.prog o a w1 K Q else K (a.put o.dst undef) w1 :=
  step_rowB (wr := wr) hw 25 (.tmp 60) (.tmp 62) ho rfl rfl v1 line [x] ⟨g, 0, none⟩ 1 hs hx HB HO (rd_one hg) (by show line.length + 1 < 1000000; omega) fun v2 w2 h1 h2 h3 => by
    obtain ⟨A9, c9, rfl, _⟩ := h1.reads
    have e : (line ++ [x]).length = line.length + 1 := by simp
    rw [e] at h1
    rw [e]
    exact h A9 c9 w2 h1 h2
end
set_option maxHeartbeats 8000000 in
set_option maxRecDepth 100000 in
theorem best_any (M : Nat) (hM : M ≤ 40) (l : List S54) (hl : l.length ≤ 1600) (k : Int) (A : Option Addr) (c base gl : Nat) : ∀ (f : Nat) (line : List Nat) (h0 : 0 < line.length) (hlen : line.length ≤ 61) (left : Int) (h1 : left ≤ f) (h2 : -100000 ≤ left) (h3 : left ≤ 100000) (A2 : Option Addr) (c2 base2 : Nat) (hb2 : gl < base2) (w : World) (hg : BG M l A c base gl left w) (ho : OwnI w base2 (.slice A2 line.length c2) line),
    Calls Tryd.prog 16 #[.agg #[.int .i64 (M : Int), .slice A l.length c], .int .i64 k, .slice A2 line.length c2, .pointer (some ⟨gl, 0, none⟩)] w fun e w' => e = .returned (.int .i64 (bst M l k f line left).1) ∧ Aside0 (w'.heap[gl]? = some (.cells #[.int .i64 (bst M l k f line left).2] 3 (0, 0))) ∧ Aside0 (Kp gl gl w w') := by
  intro f
  induction f with
  | zero =>
    intro line h0 hlen left h1 h2 h3 A2 c2 base2 hb2 w hg ho
    exact best_low M l k A c base gl line left (by omega) h2 A2 c2 w hg
  | succ f ih =>
    intro line h0 hlen left h1 h2 h3 A2 c2 base2 hb2 w hg ho
    by_cases hle : left - 1 ≤ 0
    · rw [bst, if_pos hle]
      exact best_low M l k A c base gl line left hle h2 A2 c2 w hg
    · have HBst : Aside0 (bst M l k (f + 1) line left = bLoop (bst M l k f) (moverOf line) (otherOf line) line (mvs M l k line) (left - 1)) := ⟨by rw [bst, if_neg hle]⟩
      have IH := Aside0.mk ih
      have HG := Aside0.mk hg
      have HO := Aside0.mk ho
      have q1 : IntKind.i64.wrap (left - 1) = left - 1 := IntWalk.i64_in _ (by omega)
      have q2 : decide (left - 1 ≤ 0) = false := decide_eq_false hle
      have HB := Aside0.mk (St.refl w)
      clear hg ho ih hle
      go_enter Tryd.func16, Tryd.ntmps16
      go_upto_region 1 with (first | ((with_reducible refine gate_dst (N := 4) rfl ?_); refine box_st (w := w) 4 #[.int .i64 (M : Int), .slice A l.length c] 24 rfl rfl ?hr HB.out ?_; (case hr => go_simp; done); clear HB; intro g w1 HB GE))
      have hgl := blk_grown HG.out.cell (grown_of_below HB.out.hb none) (by simp)
      have hc := (blk_cell hgl 0).trans rfl
      have hf : w1.frozen? ⟨gl, 0, none⟩ = false := blk_frozen hgl 0
      go_upto_region 4 with fail
      have hbx := HB.out.blk _ (List.mem_cons_self)
      have hne : g ≠ gl := blk_ne hbx hgl (by decide)
      have HK2 : Aside0 (Kp gl gl w (w1.setCell ⟨gl, 0, none⟩ (.int .i64 (left - 1)))) := ⟨(Kp.of HB.out.hb).trans (Kp.setg w1 0 _)⟩
      have HG2 : Aside0 (BG M l A c base gl (left - 1) (w1.setCell ⟨gl, 0, none⟩ (.int .i64 (left - 1)))) := ⟨HG.out.kp HK2.out (by rw [heap_setCell_same w1 gl 0 _ 3 _ hgl]; rfl)⟩
      have HBx : Aside0 ((w1.setCell ⟨gl, 0, none⟩ (.int .i64 (left - 1))).heap[g]? = some (.cells #[.int .i64 (M : Int), .slice A l.length c] 24 (0, 0))) := ⟨by rw [heap_setCell_other w1 _ g _ hne]; exact hbx⟩
      have HO2 : Aside0 (OwnI (w1.setCell ⟨gl, 0, none⟩ (.int .i64 (left - 1))) base2 (.slice A2 line.length c2) line) := ⟨HO.out.kp HK2.out hb2 hb2⟩
      clear HG HO HB hgl hc hf hbx
      generalize w1.setCell ⟨gl, 0, none⟩ (.int .i64 (left - 1)) = w2 at *
      go_upto_if 27 with fail
      go_cut [9, 10] (fun s9 s10 wx => s9 = .int .i64 (moverOf line) ∧ s10 = .int .i64 (otherOf line) ∧ wx = w2)
      case first =>
        by_cases hp : line.length % 2 = 0
        · have e1 : (((line.length : Int) % 2) == 0) = true := by rw [beq_iff_eq]; omega
          have e2 : (line.length % 2 == 0) = true := by rw [beq_iff_eq]; exact hp
          have e3 : Int.tmod (line.length : Int) 2 = 0 := by rw [Int.tmod_eq_emod_of_nonneg (by omega)]; omega
          have hm : moverOf line = 1 ∧ otherOf line = 2 := by unfold moverOf otherOf; rw [if_pos hp, if_pos hp]; exact ⟨rfl, rfl⟩
          clear hp
          go_wp2_with fail
          go_meet
          exact ⟨by rw [hm.1], by rw [hm.2], rfl⟩
        · have e1 : (((line.length : Int) % 2) == 0) = false := by rw [beq_eq_false_iff_ne]; omega
          have e2 : (line.length % 2 == 0) = false := by rw [beq_eq_false_iff_ne]; exact hp
          have e3 : Int.tmod (line.length : Int) 2 = 1 := by rw [Int.tmod_eq_emod_of_nonneg (by omega)]; omega
          have hm : moverOf line = 2 ∧ otherOf line = 1 := by unfold moverOf otherOf; rw [if_neg hp, if_neg hp]; exact ⟨rfl, rfl⟩
          clear hp
          go_wp2_with fail
          go_meet
          exact ⟨by rw [hm.1], by rw [hm.2], rfl⟩
      case rest =>
        obtain ⟨rfl, rfl, rfl⟩ := hcut
        have hx0 := (blk_cell HBx.out 0).trans rfl
        have hx1 := (blk_cell HBx.out 1).trans rfl
        have HMv := Aside0.mk (moves_any (M : Int) l (by omega) A c k (up line) (by rw [up_length]; omega) A2 c2 wc HG2.out.tab HG2.out.rd HO2.out.rd.toI)
        rw [up_length] at HMv
        have HMv2 : Aside0 (Calls Tryd.prog 14 #[.agg #[.int .i64 (M : Int), .slice A l.length c], .int .i64 k, .slice A2 line.length c2] wc fun e w' => ∃ A3 c3 er, e = .returned (.tuple #[.slice A3 (mvs M l k line).length c3, .int .i64 er]) ∧ Aside0 (OwnI w' wc.heap.size (.slice A3 (mvs M l k line).length c3) (mvs M l k line)) ∧ Aside0 (Below wc.heap.size wc w')) := ⟨HMv.out.mono fun e w' ⟨h, hb⟩ => by
          rcases h with ⟨h1, he⟩ | ⟨h1, A3, c3, he, hr⟩
          · refine ⟨none, 0, argE M l k (up line), ?_, ⟨?_⟩, ⟨hb⟩⟩
            · rw [he, mvs, if_neg h1]; rfl
            · rw [mvs, if_neg h1]; exact own_nil _ _ _ _
          · refine ⟨A3, c3, 0, ?_, ⟨?_⟩, ⟨hb⟩⟩
            · rw [he, mvs, if_pos h1]
            · rw [mvs, if_pos h1]; exact hr⟩
        clear HMv
        go_upto_region 8 with (first | (go_at_call 14; refine HMv2.out.mono ?_; rintro e w3 ⟨A3, c3, er, rfl, HR3, hb⟩))
        have HG3 := Aside0.mk (HG2.out.nx hb.out)
        have HBx3 := Aside0.mk (blk_grown HBx.out (grown_of_below hb.out none) (by simp))
        have HO3 := Aside0.mk (HO2.out.below hb.out)
        have HK3 := Aside0.mk (HK2.out.trans (Kp.of hb.out))
        have hbs : gl < wc.heap.size := blk_lt HG2.out.cell
        have hml := mvs_len hM l k line
        have HMm := Aside0.mk (fun x (hx : x ∈ mvs M l k line) => mvs_mem hM hx)
        clear HG2 HBx HO2 HK2 hb hx0 hx1 HMv2
        obtain ⟨mv, hmv⟩ : ∃ mv, mvs M l k line = mv := ⟨_, rfl⟩
        rw [hmv] at HR3 HBst hml HMm ⊢
        clear hmv
        go_wp2
        go_loopw [14, 39] (fun v14 v39 w' => ∃ (j : Nat) (lf : Int), v39 = .int .i64 (j : Int) ∧ j ≤ mv.length ∧ Aside0 (BG M l A c base gl lf w') ∧ Aside0 (w'.heap[g]? = some (.cells #[.int .i64 (M : Int), .slice A l.length c] 24 (0, 0))) ∧ Aside0 (OwnI w' base2 (.slice A2 line.length c2) line) ∧ Aside0 (OwnI w' wc.heap.size (.slice A3 mv.length c3) mv) ∧ Aside0 (Kp gl gl w w') ∧ Aside0 (bLoop (bst M l k f) (moverOf line) (otherOf line) line (mv.drop j) lf = bLoop (bst M l k f) (moverOf line) (otherOf line) line mv (left - 1)) ∧ Aside0 (lf ≤ left - 1 ∧ -5000 - (j : Int) ≤ lf)) (fun _ v39 _ => mv.length - (intOf v39).toNat)
        case atStart => exact ⟨0, left - 1, rfl, Nat.zero_le _, HG3, HBx3, HO3, HR3, HK3, ⟨rfl⟩, ⟨Int.le_refl _, by have := of_decide_eq_false q2; omega⟩⟩
        case round =>
          clear HG3 HBx3 HO3 HR3 HK3
          obtain ⟨j, lf, rfl, hj, HG, HBx, HO, HR, HK, HE, HLf⟩ := hrel
          by_cases hlt : j < mv.length
          · have hcj := HR.out.rd.cell j hlt
            have ham := HMm.out (nth mv j) (nth_mem mv j hlt)
            have HD := Aside0.mk (nth_drop mv j hlt)
            have j1 : decide ((j : Int) < (mv.length : Int)) = true := decide_eq_true (by omega)
            have j2 : decide (j < mv.length) = true := decide_eq_true hlt
            obtain ⟨ad3, rfl, hcj⟩ := hcj
            generalize nth mv j = a at *
            have hx0 := (blk_cell HBx.out 0).trans rfl
            have p1 : decide ((a : Int) < 0) = false := decide_eq_false (by omega)
            have p2 : decide ((M : Int) ≤ (a : Int)) = false := decide_eq_false (by omega)
            have p3 : decide (M ≤ a) = false := decide_eq_false (by omega)
            by_cases h60 : 60 < line.length
            · have p4 : decide ((60 : Int) < (line.length : Int)) = true := decide_eq_true (by omega)
              have p5 : decide (60 < line.length) = true := decide_eq_true h60
              have he := HE.out
              rw [HD.out, bLoop, if_pos h60] at he
              go_wp2
              go_ret
              rw [HBst.out, ← he]
              exact ⟨rfl, ⟨HG.out.cell⟩, HK⟩
            · have p4 : decide ((60 : Int) < (line.length : Int)) = false := decide_eq_false (by omega)
              have p5 : decide (60 < line.length) = false := decide_eq_false h60
              go_upto_region 13 with fail
              obtain ⟨ad2, rfl, _⟩ := HO.out.rd.cell0 h0
              go_cut [67] (fun s67 wx => ∃ b lf', s67 = .bool b ∧ (b = true ↔ (bst M l k f (line ++ [a]) lf).1 = moverOf line) ∧ lf' = (bst M l k f (line ++ [a]) lf).2 ∧ Aside0 (BG M l A c base gl lf' wx) ∧ Aside0 (Kp gl gl wr wx))
              case first =>
                rename_i J9 K9 hJ9 hK9
                have hx1 := (blk_cell HBx.out 1).trans rfl
                have hgw : gl < wr.heap.size := blk_lt HG.out.cell
                have hq0 : ((wr.alloc (.cells #[] 3)).drew).cell? ⟨g, 0, none⟩ = some (.int .i64 (M : Int)) := (blk_cell (blk_grown HBx.out (grown_of_below (alw1 wr _) none) (by simp)) 0).trans rfl
                have hq1 : ((wr.alloc (.cells #[] 3)).drew).cell? ⟨g, 1, none⟩ = some (.slice A l.length c) := (blk_cell (blk_grown HBx.out (grown_of_below (alw1 wr _) none) (by simp)) 1).trans rfl
                have hq2 : ((wr.alloc (.cells #[.int .i64 (a : Int)] 3)).drew).cell? ⟨g, 0, none⟩ = some (.int .i64 (M : Int)) := (blk_cell (blk_grown HBx.out (grown_of_below (alw1 wr _) none) (by simp)) 0).trans rfl
                have hq3 : ((wr.alloc (.cells #[.int .i64 (a : Int)] 3)).drew).cell? ⟨g, 1, none⟩ = some (.slice A l.length c) := (blk_cell (blk_grown HBx.out (grown_of_below (alw1 wr _) none) (by simp)) 1).trans rfl
                have hq4 : (((wr.alloc (.cells #[] 3)).alloc (.cells #[.int .i64 (a : Int)] 3)).drew).cell? ⟨g, 0, none⟩ = some (.int .i64 (M : Int)) := (blk_cell (blk_grown HBx.out (grown_of_below (alw2 wr _ _) none) (by simp)) 0).trans rfl
                have hq5 : (((wr.alloc (.cells #[] 3)).alloc (.cells #[.int .i64 (a : Int)] 3)).drew).cell? ⟨g, 1, none⟩ = some (.slice A l.length c) := (blk_cell (blk_grown HBx.out (grown_of_below (alw2 wr _ _) none) (by simp)) 1).trans rfl
                have hq6 : (((wr.alloc (.cells #[.int .i64 (a : Int)] 3)).alloc (.cells #[] 3)).drew).cell? ⟨g, 0, none⟩ = some (.int .i64 (M : Int)) := (blk_cell (blk_grown HBx.out (grown_of_below (alw2 wr _ _) none) (by simp)) 0).trans rfl
                have hq7 : (((wr.alloc (.cells #[.int .i64 (a : Int)] 3)).alloc (.cells #[] 3)).drew).cell? ⟨g, 1, none⟩ = some (.slice A l.length c) := (blk_cell (blk_grown HBx.out (grown_of_below (alw2 wr _ _) none) (by simp)) 1).trans rfl
                have hq8 : ((wr.alloc (.cells #[] 3))).cell? ⟨g, 0, none⟩ = some (.int .i64 (M : Int)) := (blk_cell (blk_grown HBx.out (grown_of_below ((Below.refl _ wr).alloc (Nat.le_refl _) _) none) (by simp)) 0).trans rfl
                have hq9 : ((wr.alloc (.cells #[] 3))).cell? ⟨g, 1, none⟩ = some (.slice A l.length c) := (blk_cell (blk_grown HBx.out (grown_of_below ((Below.refl _ wr).alloc (Nat.le_refl _) _) none) (by simp)) 1).trans rfl
                have hq10 : ((wr.alloc (.cells #[.int .i64 (a : Int)] 3))).cell? ⟨g, 0, none⟩ = some (.int .i64 (M : Int)) := (blk_cell (blk_grown HBx.out (grown_of_below ((Below.refl _ wr).alloc (Nat.le_refl _) _) none) (by simp)) 0).trans rfl
                have hq11 : ((wr.alloc (.cells #[.int .i64 (a : Int)] 3))).cell? ⟨g, 1, none⟩ = some (.slice A l.length c) := (blk_cell (blk_grown HBx.out (grown_of_below ((Below.refl _ wr).alloc (Nat.le_refl _) _) none) (by simp)) 1).trans rfl
                have hlf1 := HLf.out.1
                have hlf2 := HLf.out.2
                have IHa : Aside0 (∀ A9 c9 W, BG M l A c base gl lf W → OwnI W wr.heap.size (.slice A9 (line.length + 1) c9) (line ++ [a]) → Calls Tryd.prog 16 #[.agg #[.int .i64 (M : Int), .slice A l.length c], .int .i64 k, .slice A9 (line.length + 1) c9, .pointer (some ⟨gl, 0, none⟩)] W fun e w' => e = .returned (.int .i64 (bst M l k f (line ++ [a]) lf).1) ∧ Aside0 (w'.heap[gl]? = some (.cells #[.int .i64 (bst M l k f (line ++ [a]) lf).2] 3 (0, 0))) ∧ Aside0 (Kp gl gl W w')) := ⟨fun A9 c9 W hG hO => by
                  have e : (line ++ [a]).length = line.length + 1 := by simp
                  have h := IH.out (line ++ [a]) (by omega) (by omega) lf (by omega) (by omega) (by omega) A9 c9 wr.heap.size hgw W hG
                  rw [e] at h
                  exact h hO⟩
                clear IH
                generalize bst M l k f (line ++ [a]) lf = r at *
                go_region_law (first
                  | ((with_reducible refine bestA1 HO.out hlen ?_ ?_ ?_ ?_ ?_); (focus (simp [Region.wanted])); (focus rfl); (focus rfl); (focus rfl); intro v1 w1 HO1 HB1; have hy0 := (blk_cell (blk_grown HBx.out (grown_of_below HB1 none) (by simp)) 0).trans rfl; have hy1 := (blk_cell (blk_grown HBx.out (grown_of_below HB1 none) (by simp)) 1).trans rfl; have hv0 : (w1.alloc (.cells #[.int .i64 (a : Int)] 3)).cell? ⟨g, 0, none⟩ = some (.int .i64 (M : Int)) := (blk_cell (blk_grown HBx.out (grown_of_below (HB1.alloc HB1.size _) none) (by simp)) 0).trans rfl; have hv1 : (w1.alloc (.cells #[.int .i64 (a : Int)] 3)).cell? ⟨g, 1, none⟩ = some (.slice A l.length c) := (blk_cell (blk_grown HBx.out (grown_of_below (HB1.alloc HB1.size _) none) (by simp)) 1).trans rfl)
                  | ((with_reducible refine bestA2 HO.out hlen ?_ ?_ ?_ ?_ ?_); (focus (simp [Region.wanted])); (focus rfl); (focus rfl); (focus rfl); intro v1 w1 HO1 HB1 hga; have hy0 := (blk_cell (blk_grown HBx.out (grown_of_below HB1 none) (by simp)) 0).trans rfl; have hy1 := (blk_cell (blk_grown HBx.out (grown_of_below HB1 none) (by simp)) 1).trans rfl)
                  | ((with_reducible refine bestA3 HO.out hlen ?_ ?_ ?_ ?_ ?_); (focus (simp [Region.wanted])); (focus rfl); (focus rfl); (focus rfl); intro v1 w1 HO1 HB1 hga; have hy0 := (blk_cell (blk_grown HBx.out (grown_of_below HB1 none) (by simp)) 0).trans rfl; have hy1 := (blk_cell (blk_grown HBx.out (grown_of_below HB1 none) (by simp)) 1).trans rfl)
                  | ((with_reducible refine bestB1 HO1 HB1 hlen ?_ ?_ ?_ ?_ ?_); (focus (simp [Region.wanted])); (focus rfl); (focus rfl); (focus rfl); clear HO1 HB1; intro A9 c9 w2 HO2 HB2; have hz0 := (blk_cell (blk_grown HBx.out (grown_of_below HB2 none) (by simp)) 0).trans rfl; have hz1 := (blk_cell (blk_grown HBx.out (grown_of_below HB2 none) (by simp)) 1).trans rfl)
                  | ((with_reducible refine bestB2 (x := a) HO1 HB1 hlen ?_ ?_ ?_ ?_ hga ?_); (focus (simp [Region.wanted])); (focus rfl); (focus rfl); (focus rfl); clear HO1 HB1; intro A9 c9 w2 HO2 HB2; have hz0 := (blk_cell (blk_grown HBx.out (grown_of_below HB2 none) (by simp)) 0).trans rfl; have hz1 := (blk_cell (blk_grown HBx.out (grown_of_below HB2 none) (by simp)) 1).trans rfl)
                  | (go_simp; go_at_call 16; refine (IHa.out A9 c9 w2 (HG.out.nx HB2) HO2).mono ?_; rintro e w3 ⟨rfl, hcl, hkp⟩))
                all_goals
                  go_simp
                  refine hK9 _ _ (Met.intro (hJ9 _ _ ?_))
                  (repeat apply Exists.intro)
                  refine ⟨?_, rfl⟩
                  exact ⟨_, r.2, rfl, by simp, rfl, ⟨(HG.out.nx HB2).kp hkp.out hcl.out⟩, ⟨(Kp.of HB2).trans hkp.out⟩⟩
              case rest =>
                obtain ⟨b, lf', rfl, hb, hlf', HG2, HKr⟩ := hcut
                have he := HE.out
                rw [HD.out, bLoop, if_neg h60] at he
                have hbc := (blk_cell HBx.out 0).trans rfl
                have hlen1 : lf' ≤ lf - 1 := by rw [hlf']; exact bst_ub _ _ _ _ _ _
                have hlb : -5000 - ((j : Int) + 1) ≤ lf' := by
                  have h5 := HLf.out.2
                  by_cases hq : lf ≤ 0
                  · rw [hlf', bst_low _ _ _ _ _ _ hq]; show _ ≤ lf - 1; omega
                  · have := bst_lb hM l k f (line ++ [a]) lf (by omega) (by simp; omega)
                    rw [← hlf'] at this
                    simp only [List.length_append, List.length_cons, List.length_nil] at this
                    omega
                rw [← hlf'] at he
                cases b with
                | true =>
                  rw [if_pos (hb.1 rfl)] at he
                  clear hb hbc
                  go_wp2
                  go_ret
                  rw [HBst.out, ← he]
                  exact ⟨rfl, ⟨HG2.out.cell⟩, ⟨HK.out.trans HKr.out⟩⟩
                | false =>
                  rw [if_neg (fun e => Bool.false_ne_true (hb.2 e))] at he
                  clear hb hbc
                  have HX : Aside0 (wc.heap[g]? = some (.cells #[.int .i64 (M : Int), .slice A l.length c] 24 (0, 0))) := ⟨HKr.out.blk HBx.out HG.out.cell HG.out.cell (by decide) (by decide)⟩
                  have HOx : Aside0 (OwnI wc base2 (.slice (some ad2) line.length c2) line) := ⟨HO.out.kp HKr.out hb2 hb2⟩
                  have HRx : Aside0 (OwnI wc _ (.slice (some ad3) mv.length c3) mv) := ⟨HR.out.kp HKr.out hbs hbs⟩
                  have HKx : Aside0 (Kp gl gl w wc) := ⟨HK.out.trans HKr.out⟩
                  have HEx := Aside0.mk he
                  clear he
                  have j3 : IntKind.i64.wrap ((j : Int) + 1) = ((j + 1 : Nat) : Int) := by rw [IntWalk.i64_in _ (by omega)]; omega
                  go_wp2
                  have hlf0 := HLf.out.1
                  refine ⟨⟨j + 1, lf', congrArg (Value.int IntKind.i64) (by omega), by omega, HG2, HX, HOx, HRx, HKx, HEx, ⟨by omega, by rw [Int.natCast_add]; exact hlb⟩⟩, ?_⟩
                  show mv.length - ((j : Int) + 1).toNat < mv.length - ((j : Nat) : Int).toNat
                  omega
          · have j1 : decide ((j : Int) < (mv.length : Int)) = false := decide_eq_false (by omega)
            have j2 : decide (j < mv.length) = false := decide_eq_false hlt
            have he := HE.out
            rw [List.drop_eq_nil_of_le (by omega), bLoop] at he
            go_wp2
            go_ret
            rw [HBst.out, ← he]
            exact ⟨rfl, ⟨HG.out.cell⟩, HK⟩
end Go.Proofs.YtgboplcjafmliaaDoor.G

/- The contracts of the replies that game.Solve and game.grounded choose. -/
namespace Go.Proofs.YtgboplcjafmliaaDoor.G
open Go.RowKit Go.Proofs.YtgboplcjafmliaaDoorW.PrintWords Go.Proofs.YtgboplcjafmliaaDoorW.PrintLast Go.Proofs.YtgboplcjafmliaaDoorW.PrintMore
open Go.Proofs.YtgboplcjafmliaaDoor.PAll
set_option linter.unusedVariables false
set_option linter.unusedSimpArgs false

/-- The least node of a set. -/
def low (s : Nat) : Nat := nth (bl s) 0
theorem u64_and (a b : Nat) (ha : a < 2 ^ 64) (hb : b < 2 ^ 64) : bits .and .u64 (a : Int) (b : Int) = ((a &&& b : Nat) : Int) := u64_and_nat a b ha hb
theorem low_mem {s : Nat} (h0 : s ≠ 0) (h : s < 2 ^ 64) : s.testBit (low s) = true := by
  rw [← mem_bl s _ h]
  exact nth_mem _ _ (Nat.pos_of_ne_zero fun h1 => h0 ((bl_nil s h).1 (List.length_eq_zero_iff.1 h1)))

set_option maxHeartbeats 2000000 in
theorem pickS_any (N : Nat) (n : NetD) (hok : n.Ok N) (A1 : Option Addr) (c1 : Nat) (A2 : Option Addr) (c2 : Nat) (g h : Nat) (s x : Nat) (hs : s < 2 ^ N) (hx : x < N) (h0 : nth n.by_ x &&& s ≠ 0) (w : World) (hT : TabW w) (hr : RdN .u64 w A1 c1 n.by_)
    (hg : w.heap[g]? = some (.cells #[.int .u64 n.all, .slice A1 n.by_.length c1, .slice A2 n.out.length c2] 64 (0, 0))) (hh : w.heap[h]? = some (.cells #[.int .u64 s] 61 (0, 0))) :
    Calls Tryd.prog 30 #[.int .i64 (x : Int), .pointer (some ⟨g, 0, none⟩), .pointer (some ⟨h, 0, none⟩)] w fun e w' => e = .returned (.int .i64 ((low (nth n.by_ x &&& s) : Nat) : Int)) ∧ Aside0 (Below w.heap.size w w') := by
  have hxl : x < n.by_.length := by rw [hok.hb]; exact hx
  have hxli : (x : Int) < (n.by_.length : Int) := by omega
  obtain ⟨ad1, rfl, hc1⟩ := hr.cell x hxl
  have hg1 := (blk_cell hg 1).trans rfl
  have hh1 := (blk_cell hh 0).trans rfl
  have hand := u64_and (nth n.by_ x) s (p64 hok.hN (hok.lb x)) (p64 hok.hN hs)
  have hlt : nth n.by_ x &&& s < 2 ^ 64 := and_lt _ _ (p64 hok.hN (hok.lb x))
  have HT := Aside0.mk hT
  have HAnd := Aside0.mk hand
  have HF := Aside0.mk (fun W (hT : TabW W) => first_any (nth n.by_ x &&& s) h0 hlt W hT)
  clear hT hr hg hh hok hs hand h0 hlt
  go_enter Tryd.func30, Tryd.ntmps30
  go_wp2
  go_region_held3 (fun w' => w'.cell? ⟨g, 1, none⟩ = some (.slice (some ad1) n.by_.length c1) ∧ w'.cell? ⟨h, 0, none⟩ = some (.int .u64 s) ∧ w'.cell? (ad1.add x) = some (.int .u64 (nth n.by_ x))) (first | go_keep | exact ⟨pw_cell_below hb.out hg1, pw_cell_below hb.out hh1, pw_cell_below hb.out hc1⟩)
    (first | (rw [HAnd.out]; go_at_call 31; refine (HF.out _ (HT.out.below HT.out.2 (Below.refl _ _).drew)).mono ?_; rintro e w5 ⟨rfl, hb⟩))
  go_wp2
  go_ret
  exact ⟨rfl, ⟨((St.refl w).drew.nx hb.out).hb⟩⟩

def pickG (n : NetD) (rows : List Nat) (x : Nat) : Nat := match rows.find? (fun r => nth n.by_ x &&& r != 0) with | some r => low (nth n.by_ x &&& r) | none => x
set_option maxHeartbeats 4000000 in
theorem pickG_any (N : Nat) (n : NetD) (hok : n.Ok N) (A1 : Option Addr) (c1 : Nat) (A2 : Option Addr) (c2 : Nat) (A7 : Option Addr) (c7 : Nat) (g h : Nat) (rows : List Nat) (hrn : rows.length ≤ 100) (hrow : ∀ r, r ∈ rows → r < 2 ^ N) (x : Nat) (hx : x < N) (w : World) (hT : TabW w) (hr : RdN .u64 w A1 c1 n.by_) (hr7 : RdN .u64 w A7 c7 rows)
    (hg : w.heap[g]? = some (.cells #[.int .u64 n.all, .slice A1 n.by_.length c1, .slice A2 n.out.length c2] 64 (0, 0))) (hh : w.heap[h]? = some (.cells #[.slice A7 rows.length c7] 62 (0, 0))) :
    Calls Tryd.prog 50 #[.int .i64 (x : Int), .pointer (some ⟨h, 0, none⟩), .pointer (some ⟨g, 0, none⟩)] w fun e w' => e = .returned (.int .i64 ((pickG n rows x : Nat) : Int)) ∧ Aside0 (Below w.heap.size w w') := by
  have hxl : x < n.by_.length := by rw [hok.hb]; exact hx
  have hxli : (x : Int) < (n.by_.length : Int) := by omega
  obtain ⟨ad1, rfl, hc1⟩ := hr.cell x hxl
  have hg1 := (blk_cell hg 1).trans rfl
  have hh1 := (blk_cell hh 0).trans rfl
  have hand := fun (r : Nat) (hrr : r ∈ rows) => u64_and (nth n.by_ x) r (p64 hok.hN (hok.lb x)) (p64 hok.hN (hrow r hrr))
  have hlt := fun (r : Nat) => and_lt (nth n.by_ x) r (p64 hok.hN (hok.lb x))
  have HT := Aside0.mk hT
  have HAnd := Aside0.mk hand
  have HR7 := Aside0.mk hr7
  have HF := Aside0.mk (fun (r : Nat) (h0 : nth n.by_ x &&& r ≠ 0) W (hT : TabW W) => first_any (nth n.by_ x &&& r) h0 (hlt r) W hT)
  clear hT hr hg hh hok hand hlt hr7 hrow
  go_enter Tryd.func50, Tryd.ntmps50
  go_wp2
  go_loopw [6, 9] (fun v6 v9 w' => ∃ k : Nat, v9 = .int .i64 k ∧ k ≤ rows.length ∧ w' = w ∧ Aside0 ((rows.drop k).find? (fun r => nth n.by_ x &&& r != 0) = rows.find? (fun r => nth n.by_ x &&& r != 0))) (fun _ v9 _ => rows.length - (intOf v9).toNat)
  case atStart => exact ⟨0, rfl, Nat.zero_le _, rfl, ⟨rfl⟩⟩
  case round =>
    obtain ⟨k, rfl, hk, rfl, HE⟩ := hrel
    by_cases hlt : k < rows.length
    · obtain ⟨ad7, rfl, hc7⟩ := HR7.out.cell k hlt
      have hrr := nth_mem _ k hlt
      have HD := Aside0.mk (nth_drop _ k hlt)
      generalize nth rows k = r at *
      have hand := HAnd.out r hrr
      by_cases h0 : nth n.by_ x &&& r = 0
      · have e1 : (bits .and .u64 ((nth n.by_ x : Nat) : Int) ((r : Nat) : Int) == 0) = true := by rw [hand, h0]; rfl
        clear hand
        go_wp2
        refine ⟨⟨k + 1, by go_num, hlt, trivial, ⟨?_⟩⟩, by simp [intOf]; omega⟩
        rw [← HE.out, HD.out, List.find?_cons_of_neg (by simp [h0])]
      · have e1 : (bits .and .u64 ((nth n.by_ x : Nat) : Int) ((r : Nat) : Int) == 0) = false := by rw [hand, beq_eq_false_iff_ne]; omega
        have HAn := Aside0.mk hand
        clear hand
        go_wp2_with (first | (rw [HAn.out]; go_at_call 31; refine (HF.out r h0 _ HT.out).mono ?_; rintro e w5 ⟨rfl, hb⟩))
        go_ret
        refine ⟨?_, ⟨hb.out⟩⟩
        rw [pickG, ← HE.out, HD.out, List.find?_cons_of_pos (by simp [h0])]
        rfl
    · go_wp2
      go_ret
      have hkl : k = rows.length := by omega
      have he := HE.out
      rw [hkl, List.drop_length] at he
      refine ⟨?_, ⟨Below.refl _ _⟩⟩
      rw [pickG, ← he]
      rfl
end Go.Proofs.YtgboplcjafmliaaDoor.G
