/- The walk of best. -/
import Derived.Test.YtgboplcjafmliaaDoorPQ7
import Derived.Test.YtgboplcjafmliaaDoorPAllx9
import Derived.Test.YtgboplcjafmliaaDoorPAllx20
/- The walk of best. -/
namespace Go.Proofs.YtgboplcjafmliaaDoor.G
open Go.RowKit Go.Proofs.YtgboplcjafmliaaDoorW.PrintWords Go.Proofs.YtgboplcjafmliaaDoorW.PrintLast Go.Proofs.YtgboplcjafmliaaDoorW.PrintMore
open Go.Proofs.YtgboplcjafmliaaDoor.PAll
set_option linter.unusedVariables false
set_option linter.unusedSimpArgs false

/-- What best finds: the graph, the counter. -/
structure BG (M : Nat) (l : List S54) (A : Option Addr) (c base gl : Nat) (left : Int) (x : World) : Prop where
  tab : TabW x
  own : OwnP x base (.slice A l.length c) l
  cell : x.heap[gl]? = some (.cells #[.int .i64 left] 3 (0, 0))
  pos : 0 < gl
set_option maxHeartbeats 8000000 in
set_option maxRecDepth 100000 in
theorem best_low (M : Nat) (l : List S54) (k : Int) (A : Option Addr) (c base gl : Nat) (line : List Nat) (left : Int) (h1 : left - 1 ≤ 0) (h2 : -100000 ≤ left) (A2 : Option Addr) (c2 : Nat) (w : World) (hg : BG M l A c base gl left w) :
    Calls Tryd.prog 16 #[.agg #[.int .i64 (M : Int), .slice A l.length c], .int .i64 k, .slice A2 line.length c2, .pointer (some ⟨gl, 0, none⟩)] w fun e w' => e = .returned (.int .i64 0) ∧ Aside0 (w'.heap[gl]? = some (.cells #[.int .i64 (left - 1)] 3 (0, 0))) ∧ Aside0 (Kp gl gl w w') := by
  have HG := Aside0.mk hg
  have q1 : IntKind.i64.wrap (left - 1) = left - 1 := IntWalk.i64_in _ (by omega)
  have q2 : decide (left - 1 ≤ 0) = true := decide_eq_true h1
  have HB := Aside0.mk (St.refl w)
  clear hg
  go_enter Tryd.func16, Tryd.ntmps16
  go_upto_region 1 with (first | ((with_reducible refine gate_dst (N := 4) rfl ?_); refine box_st (w := w) 4 #[.int .i64 (M : Int), .slice A l.length c] 24 rfl rfl ?hr HB.out ?_; (case hr => go_simp; done); clear HB; intro g w1 HB GE))
  have hgl := blk_grown HG.out.cell (grown_of_below HB.out.hb none) (by simp)
  have hc := (blk_cell hgl 0).trans rfl
  have hf : w1.frozen? ⟨gl, 0, none⟩ = false := blk_frozen hgl 0
  go_wp2
  go_ret
  refine ⟨rfl, ⟨?_⟩, ⟨(Kp.of HB.out.hb).trans (Kp.setg w1 0 _)⟩⟩
  rw [heap_setCell_same w1 gl 0 _ 3 _ hgl]; rfl
theorem BG.kp {M : Nat} {l : List S54} {A : Option Addr} {c base gl : Nat} {left left' : Int} {x y : World} (h : BG M l A c base gl left x) (k : Kp gl gl x y) (hc : y.heap[gl]? = some (.cells #[.int .i64 left'] 3 (0, 0))) : BG M l A c base gl left' y where
  tab := h.tab.below (B := 1) (by omega) (k.below h.pos h.pos h.tab.2)
  own := by
    obtain ⟨h3, h4⟩ := h.own
    refine ⟨h3, ?_⟩
    rcases h4 with h4 | ⟨b, cap, cur, e, hb, hk, r⟩
    · exact .inl h4
    · exact .inr ⟨b, cap, cur, e, hb, k.blk hk h.cell h.cell (by decide) (by decide), r⟩
  cell := hc
  pos := h.pos
theorem BG.nx {M : Nat} {l : List S54} {A : Option Addr} {c base gl : Nat} {left : Int} {x y : World} (h : BG M l A c base gl left x) (hb : Below x.heap.size x y) : BG M l A c base gl left y := h.kp (Kp.of hb) (blk_grown h.cell (grown_of_below hb none) (by simp))
theorem BG.rd {M : Nat} {l : List S54} {A : Option Addr} {c base gl : Nat} {left : Int} {x : World} (h : BG M l A c base gl left x) : RdP x A c l := by
  obtain ⟨A', c', e, hr⟩ := h.own.reads
  injection e with e1 e2 e3
  subst e1 e3
  exact hr
theorem OwnI.rd {x : World} {base n : Nat} {A : Option Addr} {c : Nat} {l : List Nat} (h : OwnI x base (.slice A n c) l) : RdN .i64 x A c l := by
  obtain ⟨A', c', e, hr⟩ := h.reads
  injection e with e1 e2 e3
  subst e1 e3
  exact hr
theorem RdN.toI {x : World} {A : Option Addr} {c : Nat} {l : List Nat} (h : RdN .i64 x A c l) : RdI x A c (up l) := by
  refine ⟨by rw [up_length]; exact h.1, ?_⟩
  rw [up_length]
  exact h.2
section
variable {P : Program} {ops : Array Oper} {o : Oper} {a : Act} {Q : Exit → Act → World → Prop} {K : Act → World → Prop}
/-- The same, in a world that differs from an elder one in new blocks alone. -/
theorem step_rowB {wr W : World} (hw : Region.wanted o (yielded ops a.tmps) = true) (t : TypeId) (s x : Operand)
    (ho : o.op = .call { callee := .builtin .append, args := #[s, x], argTypes := #[t, t] })
    (ht : P.underlying t = some (.slice 3)) (hinfo : (P.info? 3).map (fun i => (i.zero, i.size, i.bytes)) = some (some (.int .i64 0), 1, 8))
    (v : Value) (xs ys : List Nat) (ad : Addr) (c : Nat) (hs : a.eval s = v) (hx : a.eval x = .slice (some ad) ys.length c)
    (HB : Below wr.heap.size wr W) (HO : OwnI W wr.heap.size v xs) (HR : RdN .i64 W (some ad) c ys) (hl : xs.length + ys.length < 1000000)
    (h : ∀ v1 w1, OwnI w1 wr.heap.size v1 (xs ++ ys) → Below wr.heap.size wr w1 → (∀ k ob, W.heap[k]? = some ob → some k ≠ v.ownBlock → w1.heap[k]? = some ob) → K (a.put o.dst v1) w1) :
    if Region.wanted o (yielded ops a.tmps) = true then Oper.wp P o a W K Q else K (a.put o.dst undef) W :=
  step_row wr.heap.size hw t s x ho ht hinfo v xs ys ad c hs hx HO HR HB.size hl fun v1 w1 h1 h2 _ => h v1 w1 h1
    (HB.grown h2 HB.size (by
      intro k hk
      rcases HO.2 with ⟨rfl, _⟩ | ⟨g, cap, cur, rfl, hg, _⟩
      · cases hk
      · injection hk with hk; subst hk; exact hg))
    (fun k ob hk hne => blk_grown hk h2 hne)
end
theorem own_empty {w : World} {base b : Nat} (hb : base ≤ b) (h : w.heap[b]? = some (.cells #[] 3 (0, 0))) : OwnI w base (.slice (some ⟨b, 0, none⟩) 0 0) [] :=
  ⟨rfl, .inr ⟨b, 0, #[], rfl, hb, h, Nat.le_refl _, Nat.zero_le _, rfl, rfl⟩⟩
theorem rd_one {w : World} {b a : Nat} (h : w.heap[b]? = some (.cells #[.int .i64 (a : Int)] 3 (0, 0))) : RdN .i64 w (some ⟨b, 0, none⟩) 1 [a] :=
  OwnI.rd (base := b) (n := 1) ⟨rfl, .inr ⟨b, 1, _, rfl, Nat.le_refl _, h, Nat.le_refl _, by decide, rfl, rfl⟩⟩
theorem alw1 (w : World) (o : Obj) : Below w.heap.size w (w.alloc o).drew := ((Below.refl _ w).alloc (Nat.le_refl _) o).drew
theorem alw2 (w : World) (o o' : Obj) : Below w.heap.size w ((w.alloc o).alloc o').drew := (((Below.refl _ w).alloc (Nat.le_refl _) o).alloc (by show w.heap.size ≤ (w.heap.push o).size; simp) o').drew
theorem alh1 (w : World) (o : Obj) : (w.alloc o).drew.heap[w.heap.size]? = some o := by show (w.heap.push o)[w.heap.size]? = _; simp
theorem alh20 (w : World) (o o' : Obj) : ((w.alloc o).alloc o').drew.heap[w.heap.size]? = some o := by
  show ((w.heap.push o).push o')[w.heap.size]? = _
  rw [Array.getElem?_push_lt (by simp)]; simp
theorem alh21 (w : World) (o o' : Obj) : ((w.alloc o).alloc o').drew.heap[w.heap.size + 1]? = some o' := by
  show ((w.heap.push o).push o')[w.heap.size + 1]? = _
  have h : w.heap.size + 1 = (w.heap.push o).size := by simp
  rw [h, Array.getElem?_push_size]
theorem alh0 (w : World) (o : Obj) : (w.alloc o).heap[w.heap.size]? = some o := by show (w.heap.push o)[w.heap.size]? = _; simp
section
variable {ops : Array Oper} {o : Oper} {a : Act} {Q : Exit → Act → World → Prop} {K : Act → World → Prop}
set_option maxRecDepth 100000 in
theorem bestA1 {wr : World} {line : List Nat} {ad : Addr} {c base2 : Nat} (HR : OwnI wr base2 (.slice (some ad) line.length c) line) (hl : line.length ≤ 61) (hw : Region.wanted o (yielded ops a.tmps) = true)
    (ho : o.op = .call { callee := .builtin .append, args := #[.tmp 58, .tmp 59], argTypes := #[25, 25] })
    (hs : a.eval (.tmp 58) = .slice (some ⟨wr.heap.size, 0, none⟩) 0 0) (hx : a.eval (.tmp 59) = .slice (some ad) line.length c)
    (h : ∀ v1 w1, OwnI w1 wr.heap.size v1 line → Below wr.heap.size wr w1 → K (a.put o.dst v1) w1) :
    if Region.wanted o (yielded ops a.tmps) = true then Oper.wp Tryd.prog o a (wr.alloc (.cells #[] 3)).drew K Q else K (a.put o.dst undef) (wr.alloc (.cells #[] 3)).drew :=
  step_rowB (wr := wr) hw 25 (.tmp 58) (.tmp 59) ho rfl rfl _ [] line ad c hs hx (alw1 wr _) (own_empty (by omega) (alh1 wr _)) (HR.rd.below (alw1 wr _)) (by show 0 + line.length < 1000000; omega) fun v1 w1 h1 h2 h3 => h v1 w1 h1 h2
set_option maxRecDepth 100000 in
theorem bestA2 {wr : World} {x : Int} {line : List Nat} {ad : Addr} {c base2 : Nat} (HR : OwnI wr base2 (.slice (some ad) line.length c) line) (hl : line.length ≤ 61) (hw : Region.wanted o (yielded ops a.tmps) = true)
    (ho : o.op = .call { callee := .builtin .append, args := #[.tmp 58, .tmp 59], argTypes := #[25, 25] })
    (hs : a.eval (.tmp 58) = .slice (some ⟨wr.heap.size, 0, none⟩) 0 0) (hx : a.eval (.tmp 59) = .slice (some ad) line.length c)
    (h : ∀ v1 w1, OwnI w1 wr.heap.size v1 line → Below wr.heap.size wr w1 → w1.heap[wr.heap.size + 1]? = some (.cells #[.int .i64 x] 3 (0, 0)) → K (a.put o.dst v1) w1) :
    if Region.wanted o (yielded ops a.tmps) = true then Oper.wp Tryd.prog o a ((wr.alloc (.cells #[] 3)).alloc (.cells #[.int .i64 x] 3)).drew K Q else K (a.put o.dst undef) ((wr.alloc (.cells #[] 3)).alloc (.cells #[.int .i64 x] 3)).drew :=
  step_rowB (wr := wr) hw 25 (.tmp 58) (.tmp 59) ho rfl rfl _ [] line ad c hs hx (alw2 wr _ _) (own_empty (by omega) (alh20 wr _ _)) (HR.rd.below (alw2 wr _ _)) (by show 0 + line.length < 1000000; omega) fun v1 w1 h1 h2 h3 => h v1 w1 h1 h2 (h3 _ _ (alh21 wr _ _) (by simp [Value.ownBlock]))
set_option maxRecDepth 100000 in
theorem bestA3 {wr : World} {x : Int} {line : List Nat} {ad : Addr} {c base2 : Nat} (HR : OwnI wr base2 (.slice (some ad) line.length c) line) (hl : line.length ≤ 61) (hw : Region.wanted o (yielded ops a.tmps) = true)
    (ho : o.op = .call { callee := .builtin .append, args := #[.tmp 58, .tmp 59], argTypes := #[25, 25] })
    (hs : a.eval (.tmp 58) = .slice (some ⟨wr.heap.size + 1, 0, none⟩) 0 0) (hx : a.eval (.tmp 59) = .slice (some ad) line.length c)
    (h : ∀ v1 w1, OwnI w1 wr.heap.size v1 line → Below wr.heap.size wr w1 → w1.heap[wr.heap.size]? = some (.cells #[.int .i64 x] 3 (0, 0)) → K (a.put o.dst v1) w1) :
    if Region.wanted o (yielded ops a.tmps) = true then Oper.wp Tryd.prog o a ((wr.alloc (.cells #[.int .i64 x] 3)).alloc (.cells #[] 3)).drew K Q else K (a.put o.dst undef) ((wr.alloc (.cells #[.int .i64 x] 3)).alloc (.cells #[] 3)).drew :=
  step_rowB (wr := wr) hw 25 (.tmp 58) (.tmp 59) ho rfl rfl _ [] line ad c hs hx (alw2 wr _ _) (own_empty (by omega) (alh21 wr _ _)) (HR.rd.below (alw2 wr _ _)) (by show 0 + line.length < 1000000; omega) fun v1 w1 h1 h2 h3 => h v1 w1 h1 h2 (h3 _ _ (alh20 wr _ _) (by simp [Value.ownBlock]))
set_option maxRecDepth 100000 in
theorem bestB1 {wr w1 : World} {x : Nat} {v1 : Value} {line : List Nat} (HO : OwnI w1 wr.heap.size v1 line) (HB : Below wr.heap.size wr w1) (hl : line.length ≤ 61) (hw : Region.wanted o (yielded ops a.tmps) = true)
    (ho : o.op = .call { callee := .builtin .append, args := #[.tmp 60, .tmp 62], argTypes := #[25, 25] })
    (hs : a.eval (.tmp 60) = v1) (hx : a.eval (.tmp 62) = .slice (some ⟨w1.heap.size, 0, none⟩) 1 1)
    (h : ∀ A2 c2 w2, OwnI w2 wr.heap.size (.slice A2 (line.length + 1) c2) (line ++ [x]) → Below wr.heap.size wr w2 → K (a.put o.dst (.slice A2 (line.length + 1) c2)) w2) :
    if Region.wanted o (yielded ops a.tmps) = true then Oper.wp Tryd.prog o a (w1.alloc (.cells #[.int .i64 (x : Int)] 3)) K Q else K (a.put o.dst undef) (w1.alloc (.cells #[.int .i64 (x : Int)] 3)) :=
  step_rowB (wr := wr) hw 25 (.tmp 60) (.tmp 62) ho rfl rfl v1 line [x] ⟨w1.heap.size, 0, none⟩ 1 hs hx (HB.alloc HB.size _) (OwnI.below HO ((Below.refl _ w1).alloc (Nat.le_refl _) _)) (rd_one (alh0 _ _)) (by show line.length + 1 < 1000000; omega) fun v2 w2 h1 h2 h3 => by
    obtain ⟨A9, c9, rfl, _⟩ := h1.reads
    have e : (line ++ [x]).length = line.length + 1 := by simp
    rw [e] at h1
    rw [e]
    exact h A9 c9 w2 h1 h2
set_option maxRecDepth 100000 in
theorem bestB2 {wr w1 : World} {x : Nat} {v1 : Value} {line : List Nat} {g : Nat} (HO : OwnI w1 wr.heap.size v1 line) (HB : Below wr.heap.size wr w1) (hl : line.length ≤ 61) (hw : Region.wanted o (yielded ops a.tmps) = true)
    (ho : o.op = .call { callee := .builtin .append, args := #[.tmp 60, .tmp 62], argTypes := #[25, 25] })
    (hs : a.eval (.tmp 60) = v1) (hx : a.eval (.tmp 62) = .slice (some ⟨g, 0, none⟩) 1 1) (hg : w1.heap[g]? = some (.cells #[.int .i64 (x : Int)] 3 (0, 0)))
    (h : ∀ A2 c2 w2, OwnI w2 wr.heap.size (.slice A2 (line.length + 1) c2) (line ++ [x]) → Below wr.heap.size wr w2 → K (a.put o.dst (.slice A2 (line.length + 1) c2)) w2) :
    if Region.wanted o (yielded ops a.tmps) = true then Oper.wp Tryd.prog o a w1 K Q else K (a.put o.dst undef) w1 :=
  step_rowB (wr := wr) hw 25 (.tmp 60) (.tmp 62) ho rfl rfl v1 line [x] ⟨g, 0, none⟩ 1 hs hx HB HO (rd_one hg) (by show line.length + 1 < 1000000; omega) fun v2 w2 h1 h2 h3 => by
    obtain ⟨A9, c9, rfl, _⟩ := h1.reads
    have e : (line ++ [x]).length = line.length + 1 := by simp
    rw [e] at h1
    rw [e]
    exact h A9 c9 w2 h1 h2
end
set_option maxHeartbeats 8000000 in
set_option maxRecDepth 100000 in
theorem best_any (M : Nat) (hM : M ≤ 40) (l : List S54) (hl : l.length ≤ 1600) (k : Int) (A : Option Addr) (c base gl : Nat) : ∀ (f : Nat) (line : List Nat) (h0 : 0 < line.length) (hlen : line.length ≤ 61) (left : Int) (h1 : left ≤ f) (h2 : -100000 ≤ left) (h3 : left ≤ 100000) (A2 : Option Addr) (c2 base2 : Nat) (hb2 : gl < base2) (w : World) (hg : BG M l A c base gl left w) (ho : OwnI w base2 (.slice A2 line.length c2) line),
    Calls Tryd.prog 16 #[.agg #[.int .i64 (M : Int), .slice A l.length c], .int .i64 k, .slice A2 line.length c2, .pointer (some ⟨gl, 0, none⟩)] w fun e w' => e = .returned (.int .i64 (bst M l k f line left).1) ∧ Aside0 (w'.heap[gl]? = some (.cells #[.int .i64 (bst M l k f line left).2] 3 (0, 0))) ∧ Aside0 (Kp gl gl w w') := by
  intro f
  induction f with
  | zero =>
    intro line h0 hlen left h1 h2 h3 A2 c2 base2 hb2 w hg ho
    exact best_low M l k A c base gl line left (by omega) h2 A2 c2 w hg
  | succ f ih =>
    intro line h0 hlen left h1 h2 h3 A2 c2 base2 hb2 w hg ho
    by_cases hle : left - 1 ≤ 0
    · rw [bst, if_pos hle]
      exact best_low M l k A c base gl line left hle h2 A2 c2 w hg
    · have HBst : Aside0 (bst M l k (f + 1) line left = bLoop (bst M l k f) (moverOf line) (otherOf line) line (mvs M l k line) (left - 1)) := ⟨by rw [bst, if_neg hle]⟩
      have IH := Aside0.mk ih
      have HG := Aside0.mk hg
      have HO := Aside0.mk ho
      have q1 : IntKind.i64.wrap (left - 1) = left - 1 := IntWalk.i64_in _ (by omega)
      have q2 : decide (left - 1 ≤ 0) = false := decide_eq_false hle
      have HB := Aside0.mk (St.refl w)
      clear hg ho ih hle
      go_enter Tryd.func16, Tryd.ntmps16
      go_upto_region 1 with (first | ((with_reducible refine gate_dst (N := 4) rfl ?_); refine box_st (w := w) 4 #[.int .i64 (M : Int), .slice A l.length c] 24 rfl rfl ?hr HB.out ?_; (case hr => go_simp; done); clear HB; intro g w1 HB GE))
      have hgl := blk_grown HG.out.cell (grown_of_below HB.out.hb none) (by simp)
      have hc := (blk_cell hgl 0).trans rfl
      have hf : w1.frozen? ⟨gl, 0, none⟩ = false := blk_frozen hgl 0
      go_upto_region 4 with fail
      have hbx := HB.out.blk _ (List.mem_cons_self)
      have hne : g ≠ gl := blk_ne hbx hgl (by decide)
      have HK2 : Aside0 (Kp gl gl w (w1.setCell ⟨gl, 0, none⟩ (.int .i64 (left - 1)))) := ⟨(Kp.of HB.out.hb).trans (Kp.setg w1 0 _)⟩
      have HG2 : Aside0 (BG M l A c base gl (left - 1) (w1.setCell ⟨gl, 0, none⟩ (.int .i64 (left - 1)))) := ⟨HG.out.kp HK2.out (by rw [heap_setCell_same w1 gl 0 _ 3 _ hgl]; rfl)⟩
      have HBx : Aside0 ((w1.setCell ⟨gl, 0, none⟩ (.int .i64 (left - 1))).heap[g]? = some (.cells #[.int .i64 (M : Int), .slice A l.length c] 24 (0, 0))) := ⟨by rw [heap_setCell_other w1 _ g _ hne]; exact hbx⟩
      have HO2 : Aside0 (OwnI (w1.setCell ⟨gl, 0, none⟩ (.int .i64 (left - 1))) base2 (.slice A2 line.length c2) line) := ⟨HO.out.kp HK2.out hb2 hb2⟩
      clear HG HO HB hgl hc hf hbx
      generalize w1.setCell ⟨gl, 0, none⟩ (.int .i64 (left - 1)) = w2 at *
      go_upto_if 27 with fail
      go_cut [9, 10] (fun s9 s10 wx => s9 = .int .i64 (moverOf line) ∧ s10 = .int .i64 (otherOf line) ∧ wx = w2)
      case first =>
        by_cases hp : line.length % 2 = 0
        · have e1 : (((line.length : Int) % 2) == 0) = true := by rw [beq_iff_eq]; omega
          have e2 : (line.length % 2 == 0) = true := by rw [beq_iff_eq]; exact hp
          have e3 : Int.tmod (line.length : Int) 2 = 0 := by rw [Int.tmod_eq_emod_of_nonneg (by omega)]; omega
          have hm : moverOf line = 1 ∧ otherOf line = 2 := by unfold moverOf otherOf; rw [if_pos hp, if_pos hp]; exact ⟨rfl, rfl⟩
          clear hp
          go_wp2_with fail
          go_meet
          exact ⟨by rw [hm.1], by rw [hm.2], rfl⟩
        · have e1 : (((line.length : Int) % 2) == 0) = false := by rw [beq_eq_false_iff_ne]; omega
          have e2 : (line.length % 2 == 0) = false := by rw [beq_eq_false_iff_ne]; exact hp
          have e3 : Int.tmod (line.length : Int) 2 = 1 := by rw [Int.tmod_eq_emod_of_nonneg (by omega)]; omega
          have hm : moverOf line = 2 ∧ otherOf line = 1 := by unfold moverOf otherOf; rw [if_neg hp, if_neg hp]; exact ⟨rfl, rfl⟩
          clear hp
          go_wp2_with fail
          go_meet
          exact ⟨by rw [hm.1], by rw [hm.2], rfl⟩
      case rest =>
        obtain ⟨rfl, rfl, rfl⟩ := hcut
        have hx0 := (blk_cell HBx.out 0).trans rfl
        have hx1 := (blk_cell HBx.out 1).trans rfl
        have HMv := Aside0.mk (moves_any (M : Int) l (by omega) A c k (up line) (by rw [up_length]; omega) A2 c2 wc HG2.out.tab HG2.out.rd HO2.out.rd.toI)
        rw [up_length] at HMv
        have HMv2 : Aside0 (Calls Tryd.prog 14 #[.agg #[.int .i64 (M : Int), .slice A l.length c], .int .i64 k, .slice A2 line.length c2] wc fun e w' => ∃ A3 c3 er, e = .returned (.tuple #[.slice A3 (mvs M l k line).length c3, .int .i64 er]) ∧ Aside0 (OwnI w' wc.heap.size (.slice A3 (mvs M l k line).length c3) (mvs M l k line)) ∧ Aside0 (Below wc.heap.size wc w')) := ⟨HMv.out.mono fun e w' ⟨h, hb⟩ => by
          rcases h with ⟨h1, he⟩ | ⟨h1, A3, c3, he, hr⟩
          · refine ⟨none, 0, argE M l k (up line), ?_, ⟨?_⟩, ⟨hb⟩⟩
            · rw [he, mvs, if_neg h1]; rfl
            · rw [mvs, if_neg h1]; exact own_nil _ _ _ _
          · refine ⟨A3, c3, 0, ?_, ⟨?_⟩, ⟨hb⟩⟩
            · rw [he, mvs, if_pos h1]
            · rw [mvs, if_pos h1]; exact hr⟩
        clear HMv
        go_upto_region 8 with (first | (go_at_call 14; refine HMv2.out.mono ?_; rintro e w3 ⟨A3, c3, er, rfl, HR3, hb⟩))
        have HG3 := Aside0.mk (HG2.out.nx hb.out)
        have HBx3 := Aside0.mk (blk_grown HBx.out (grown_of_below hb.out none) (by simp))
        have HO3 := Aside0.mk (HO2.out.below hb.out)
        have HK3 := Aside0.mk (HK2.out.trans (Kp.of hb.out))
        have hbs : gl < wc.heap.size := blk_lt HG2.out.cell
        have hml := mvs_len hM l k line
        have HMm := Aside0.mk (fun x (hx : x ∈ mvs M l k line) => mvs_mem hM hx)
        clear HG2 HBx HO2 HK2 hb hx0 hx1 HMv2
        obtain ⟨mv, hmv⟩ : ∃ mv, mvs M l k line = mv := ⟨_, rfl⟩
        rw [hmv] at HR3 HBst hml HMm ⊢
        clear hmv
        go_wp2
        go_loopw [14, 39] (fun v14 v39 w' => ∃ (j : Nat) (lf : Int), v39 = .int .i64 (j : Int) ∧ j ≤ mv.length ∧ Aside0 (BG M l A c base gl lf w') ∧ Aside0 (w'.heap[g]? = some (.cells #[.int .i64 (M : Int), .slice A l.length c] 24 (0, 0))) ∧ Aside0 (OwnI w' base2 (.slice A2 line.length c2) line) ∧ Aside0 (OwnI w' wc.heap.size (.slice A3 mv.length c3) mv) ∧ Aside0 (Kp gl gl w w') ∧ Aside0 (bLoop (bst M l k f) (moverOf line) (otherOf line) line (mv.drop j) lf = bLoop (bst M l k f) (moverOf line) (otherOf line) line mv (left - 1)) ∧ Aside0 (lf ≤ left - 1 ∧ -5000 - (j : Int) ≤ lf)) (fun _ v39 _ => mv.length - (intOf v39).toNat)
        case atStart => exact ⟨0, left - 1, rfl, Nat.zero_le _, HG3, HBx3, HO3, HR3, HK3, ⟨rfl⟩, ⟨Int.le_refl _, by have := of_decide_eq_false q2; omega⟩⟩
        case round =>
          clear HG3 HBx3 HO3 HR3 HK3
          obtain ⟨j, lf, rfl, hj, HG, HBx, HO, HR, HK, HE, HLf⟩ := hrel
          by_cases hlt : j < mv.length
          · have hcj := HR.out.rd.cell j hlt
            have ham := HMm.out (nth mv j) (nth_mem mv j hlt)
            have HD := Aside0.mk (nth_drop mv j hlt)
            have j1 : decide ((j : Int) < (mv.length : Int)) = true := decide_eq_true (by omega)
            have j2 : decide (j < mv.length) = true := decide_eq_true hlt
            obtain ⟨ad3, rfl, hcj⟩ := hcj
            generalize nth mv j = a at *
            have hx0 := (blk_cell HBx.out 0).trans rfl
            have p1 : decide ((a : Int) < 0) = false := decide_eq_false (by omega)
            have p2 : decide ((M : Int) ≤ (a : Int)) = false := decide_eq_false (by omega)
            have p3 : decide (M ≤ a) = false := decide_eq_false (by omega)
            by_cases h60 : 60 < line.length
            · have p4 : decide ((60 : Int) < (line.length : Int)) = true := decide_eq_true (by omega)
              have p5 : decide (60 < line.length) = true := decide_eq_true h60
              have he := HE.out
              rw [HD.out, bLoop, if_pos h60] at he
              go_wp2
              go_ret
              rw [HBst.out, ← he]
              exact ⟨rfl, ⟨HG.out.cell⟩, HK⟩
            · have p4 : decide ((60 : Int) < (line.length : Int)) = false := decide_eq_false (by omega)
              have p5 : decide (60 < line.length) = false := decide_eq_false h60
              go_upto_region 13 with fail
              obtain ⟨ad2, rfl, _⟩ := HO.out.rd.cell0 h0
              go_cut [67] (fun s67 wx => ∃ b lf', s67 = .bool b ∧ (b = true ↔ (bst M l k f (line ++ [a]) lf).1 = moverOf line) ∧ lf' = (bst M l k f (line ++ [a]) lf).2 ∧ Aside0 (BG M l A c base gl lf' wx) ∧ Aside0 (Kp gl gl wr wx))
              case first =>
                rename_i J9 K9 hJ9 hK9
                have hx1 := (blk_cell HBx.out 1).trans rfl
                have hgw : gl < wr.heap.size := blk_lt HG.out.cell
                have hq0 : ((wr.alloc (.cells #[] 3)).drew).cell? ⟨g, 0, none⟩ = some (.int .i64 (M : Int)) := (blk_cell (blk_grown HBx.out (grown_of_below (alw1 wr _) none) (by simp)) 0).trans rfl
                have hq1 : ((wr.alloc (.cells #[] 3)).drew).cell? ⟨g, 1, none⟩ = some (.slice A l.length c) := (blk_cell (blk_grown HBx.out (grown_of_below (alw1 wr _) none) (by simp)) 1).trans rfl
                have hq2 : ((wr.alloc (.cells #[.int .i64 (a : Int)] 3)).drew).cell? ⟨g, 0, none⟩ = some (.int .i64 (M : Int)) := (blk_cell (blk_grown HBx.out (grown_of_below (alw1 wr _) none) (by simp)) 0).trans rfl
                have hq3 : ((wr.alloc (.cells #[.int .i64 (a : Int)] 3)).drew).cell? ⟨g, 1, none⟩ = some (.slice A l.length c) := (blk_cell (blk_grown HBx.out (grown_of_below (alw1 wr _) none) (by simp)) 1).trans rfl
                have hq4 : (((wr.alloc (.cells #[] 3)).alloc (.cells #[.int .i64 (a : Int)] 3)).drew).cell? ⟨g, 0, none⟩ = some (.int .i64 (M : Int)) := (blk_cell (blk_grown HBx.out (grown_of_below (alw2 wr _ _) none) (by simp)) 0).trans rfl
                have hq5 : (((wr.alloc (.cells #[] 3)).alloc (.cells #[.int .i64 (a : Int)] 3)).drew).cell? ⟨g, 1, none⟩ = some (.slice A l.length c) := (blk_cell (blk_grown HBx.out (grown_of_below (alw2 wr _ _) none) (by simp)) 1).trans rfl
                have hq6 : (((wr.alloc (.cells #[.int .i64 (a : Int)] 3)).alloc (.cells #[] 3)).drew).cell? ⟨g, 0, none⟩ = some (.int .i64 (M : Int)) := (blk_cell (blk_grown HBx.out (grown_of_below (alw2 wr _ _) none) (by simp)) 0).trans rfl
                have hq7 : (((wr.alloc (.cells #[.int .i64 (a : Int)] 3)).alloc (.cells #[] 3)).drew).cell? ⟨g, 1, none⟩ = some (.slice A l.length c) := (blk_cell (blk_grown HBx.out (grown_of_below (alw2 wr _ _) none) (by simp)) 1).trans rfl
                have hq8 : ((wr.alloc (.cells #[] 3))).cell? ⟨g, 0, none⟩ = some (.int .i64 (M : Int)) := (blk_cell (blk_grown HBx.out (grown_of_below ((Below.refl _ wr).alloc (Nat.le_refl _) _) none) (by simp)) 0).trans rfl
                have hq9 : ((wr.alloc (.cells #[] 3))).cell? ⟨g, 1, none⟩ = some (.slice A l.length c) := (blk_cell (blk_grown HBx.out (grown_of_below ((Below.refl _ wr).alloc (Nat.le_refl _) _) none) (by simp)) 1).trans rfl
                have hq10 : ((wr.alloc (.cells #[.int .i64 (a : Int)] 3))).cell? ⟨g, 0, none⟩ = some (.int .i64 (M : Int)) := (blk_cell (blk_grown HBx.out (grown_of_below ((Below.refl _ wr).alloc (Nat.le_refl _) _) none) (by simp)) 0).trans rfl
                have hq11 : ((wr.alloc (.cells #[.int .i64 (a : Int)] 3))).cell? ⟨g, 1, none⟩ = some (.slice A l.length c) := (blk_cell (blk_grown HBx.out (grown_of_below ((Below.refl _ wr).alloc (Nat.le_refl _) _) none) (by simp)) 1).trans rfl
                have hlf1 := HLf.out.1
                have hlf2 := HLf.out.2
                have IHa : Aside0 (∀ A9 c9 W, BG M l A c base gl lf W → OwnI W wr.heap.size (.slice A9 (line.length + 1) c9) (line ++ [a]) → Calls Tryd.prog 16 #[.agg #[.int .i64 (M : Int), .slice A l.length c], .int .i64 k, .slice A9 (line.length + 1) c9, .pointer (some ⟨gl, 0, none⟩)] W fun e w' => e = .returned (.int .i64 (bst M l k f (line ++ [a]) lf).1) ∧ Aside0 (w'.heap[gl]? = some (.cells #[.int .i64 (bst M l k f (line ++ [a]) lf).2] 3 (0, 0))) ∧ Aside0 (Kp gl gl W w')) := ⟨fun A9 c9 W hG hO => by
                  have e : (line ++ [a]).length = line.length + 1 := by simp
                  have h := IH.out (line ++ [a]) (by omega) (by omega) lf (by omega) (by omega) (by omega) A9 c9 wr.heap.size hgw W hG
                  rw [e] at h
                  exact h hO⟩
                clear IH
                generalize bst M l k f (line ++ [a]) lf = r at *
                go_region_law (first
                  | ((with_reducible refine bestA1 HO.out hlen ?_ ?_ ?_ ?_ ?_); (focus (simp [Region.wanted])); (focus rfl); (focus rfl); (focus rfl); intro v1 w1 HO1 HB1; have hy0 := (blk_cell (blk_grown HBx.out (grown_of_below HB1 none) (by simp)) 0).trans rfl; have hy1 := (blk_cell (blk_grown HBx.out (grown_of_below HB1 none) (by simp)) 1).trans rfl; have hv0 : (w1.alloc (.cells #[.int .i64 (a : Int)] 3)).cell? ⟨g, 0, none⟩ = some (.int .i64 (M : Int)) := (blk_cell (blk_grown HBx.out (grown_of_below (HB1.alloc HB1.size _) none) (by simp)) 0).trans rfl; have hv1 : (w1.alloc (.cells #[.int .i64 (a : Int)] 3)).cell? ⟨g, 1, none⟩ = some (.slice A l.length c) := (blk_cell (blk_grown HBx.out (grown_of_below (HB1.alloc HB1.size _) none) (by simp)) 1).trans rfl)
                  | ((with_reducible refine bestA2 HO.out hlen ?_ ?_ ?_ ?_ ?_); (focus (simp [Region.wanted])); (focus rfl); (focus rfl); (focus rfl); intro v1 w1 HO1 HB1 hga; have hy0 := (blk_cell (blk_grown HBx.out (grown_of_below HB1 none) (by simp)) 0).trans rfl; have hy1 := (blk_cell (blk_grown HBx.out (grown_of_below HB1 none) (by simp)) 1).trans rfl)
                  | ((with_reducible refine bestA3 HO.out hlen ?_ ?_ ?_ ?_ ?_); (focus (simp [Region.wanted])); (focus rfl); (focus rfl); (focus rfl); intro v1 w1 HO1 HB1 hga; have hy0 := (blk_cell (blk_grown HBx.out (grown_of_below HB1 none) (by simp)) 0).trans rfl; have hy1 := (blk_cell (blk_grown HBx.out (grown_of_below HB1 none) (by simp)) 1).trans rfl)
                  | ((with_reducible refine bestB1 HO1 HB1 hlen ?_ ?_ ?_ ?_ ?_); (focus (simp [Region.wanted])); (focus rfl); (focus rfl); (focus rfl); clear HO1 HB1; intro A9 c9 w2 HO2 HB2; have hz0 := (blk_cell (blk_grown HBx.out (grown_of_below HB2 none) (by simp)) 0).trans rfl; have hz1 := (blk_cell (blk_grown HBx.out (grown_of_below HB2 none) (by simp)) 1).trans rfl)
                  | ((with_reducible refine bestB2 (x := a) HO1 HB1 hlen ?_ ?_ ?_ ?_ hga ?_); (focus (simp [Region.wanted])); (focus rfl); (focus rfl); (focus rfl); clear HO1 HB1; intro A9 c9 w2 HO2 HB2; have hz0 := (blk_cell (blk_grown HBx.out (grown_of_below HB2 none) (by simp)) 0).trans rfl; have hz1 := (blk_cell (blk_grown HBx.out (grown_of_below HB2 none) (by simp)) 1).trans rfl)
                  | (go_simp; go_at_call 16; refine (IHa.out A9 c9 w2 (HG.out.nx HB2) HO2).mono ?_; rintro e w3 ⟨rfl, hcl, hkp⟩))
                all_goals
                  go_simp
                  refine hK9 _ _ (Met.intro (hJ9 _ _ ?_))
                  (repeat apply Exists.intro)
                  refine ⟨?_, rfl⟩
                  exact ⟨_, r.2, rfl, by simp, rfl, ⟨(HG.out.nx HB2).kp hkp.out hcl.out⟩, ⟨(Kp.of HB2).trans hkp.out⟩⟩
              case rest =>
                obtain ⟨b, lf', rfl, hb, hlf', HG2, HKr⟩ := hcut
                have he := HE.out
                rw [HD.out, bLoop, if_neg h60] at he
                have hbc := (blk_cell HBx.out 0).trans rfl
                have hlen1 : lf' ≤ lf - 1 := by rw [hlf']; exact bst_ub _ _ _ _ _ _
                have hlb : -5000 - ((j : Int) + 1) ≤ lf' := by
                  have h5 := HLf.out.2
                  by_cases hq : lf ≤ 0
                  · rw [hlf', bst_low _ _ _ _ _ _ hq]; show _ ≤ lf - 1; omega
                  · have := bst_lb hM l k f (line ++ [a]) lf (by omega) (by simp; omega)
                    rw [← hlf'] at this
                    simp only [List.length_append, List.length_cons, List.length_nil] at this
                    omega
                rw [← hlf'] at he
                cases b with
                | true =>
                  rw [if_pos (hb.1 rfl)] at he
                  clear hb hbc
                  go_wp2
                  go_ret
                  rw [HBst.out, ← he]
                  exact ⟨rfl, ⟨HG2.out.cell⟩, ⟨HK.out.trans HKr.out⟩⟩
                | false =>
                  rw [if_neg (fun e => Bool.false_ne_true (hb.2 e))] at he
                  clear hb hbc
                  have HX : Aside0 (wc.heap[g]? = some (.cells #[.int .i64 (M : Int), .slice A l.length c] 24 (0, 0))) := ⟨HKr.out.blk HBx.out HG.out.cell HG.out.cell (by decide) (by decide)⟩
                  have HOx : Aside0 (OwnI wc base2 (.slice (some ad2) line.length c2) line) := ⟨HO.out.kp HKr.out hb2 hb2⟩
                  have HRx : Aside0 (OwnI wc _ (.slice (some ad3) mv.length c3) mv) := ⟨HR.out.kp HKr.out hbs hbs⟩
                  have HKx : Aside0 (Kp gl gl w wc) := ⟨HK.out.trans HKr.out⟩
                  have HEx := Aside0.mk he
                  clear he
                  have j3 : IntKind.i64.wrap ((j : Int) + 1) = ((j + 1 : Nat) : Int) := by rw [IntWalk.i64_in _ (by omega)]; omega
                  go_wp2
                  have hlf0 := HLf.out.1
                  refine ⟨⟨j + 1, lf', congrArg (Value.int IntKind.i64) (by omega), by omega, HG2, HX, HOx, HRx, HKx, HEx, ⟨by omega, by rw [Int.natCast_add]; exact hlb⟩⟩, ?_⟩
                  show mv.length - ((j : Int) + 1).toNat < mv.length - ((j : Nat) : Int).toNat
                  omega
          · have j1 : decide ((j : Int) < (mv.length : Int)) = false := decide_eq_false (by omega)
            have j2 : decide (j < mv.length) = false := decide_eq_false hlt
            have he := HE.out
            rw [List.drop_eq_nil_of_le (by omega), bLoop] at he
            go_wp2
            go_ret
            rw [HBst.out, ← he]
            exact ⟨rfl, ⟨HG.out.cell⟩, HK⟩
end Go.Proofs.YtgboplcjafmliaaDoor.G

/- The walk of game.Play for a strategy that is accepted. -/
namespace Go.Proofs.YtgboplcjafmliaaDoor.G
open Go.RowKit Go.Proofs.YtgboplcjafmliaaDoorW.PrintWords Go.Proofs.YtgboplcjafmliaaDoorW.PrintLast Go.Proofs.YtgboplcjafmliaaDoorW.PrintMore
open Go.Proofs.YtgboplcjafmliaaDoor.PAll
set_option linter.unusedVariables false
set_option linter.unusedSimpArgs false

/-- The blocks of a call, and its own row of nodes. -/
structure LS (w : World) (bs : List (Nat × Obj)) (v : Value) (R : List Nat) (x : World) : Prop where
  st : St w bs x
  r : OwnI x w.heap.size v R
  ty : ∀ p, p ∈ bs → ∃ cs t, p.2 = .cells cs t (0, 0) ∧ t ≠ 3
theorem LS.nx {w x y : World} {bs : List (Nat × Obj)} {v : Value} {R : List Nat} (h : LS w bs v R x) (hb : Below x.heap.size x y) : LS w bs v R y := ⟨h.st.nx hb, h.r.below hb, h.ty⟩
theorem LS.app {w x y : World} {bs : List (Nat × Obj)} {v v' : Value} {R R' : List Nat} (h : LS w bs v R x) (hr : OwnI y w.heap.size v' R') (hg : x.grownBy y v.ownBlock) : LS w bs v' R' y where
  st := h.st.grown hg (own_base' h.r) (fun p hp => by
    obtain ⟨cs, t, e, h3⟩ := h.ty p hp
    have hb := h.st.blk p hp
    rw [e] at hb
    exact own_ne h.r hb (Ne.symm h3))
  r := hr
  ty := h.ty
def sliceLen : Value → Nat
  | .slice _ n _ => n
  | _ => 0
/-- The blocks of Play. -/
def plBs (M : Nat) (l : List S54) (A : Option Addr) (c : Nat) (game root : Nat) (who : Int) (A4 : Option Addr) (m4 c4 g3 g4 g9 b1 b2 : Nat) : List (Nat × Obj) :=
  [(g9, .cells #[.int .u64 ((netOf M l).all : Int), .slice (some ⟨b1, 0, none⟩) M M, .slice (some ⟨b2, 0, none⟩) M M] 64 (0, 0)), (b1, .cells (u64s (netOf M l).by_) 61 (0, 0)), (b2, .cells (u64s (netOf M l).out) 61 (0, 0)), (g4, .cells #[.int .i64 (game : Int), .int .i64 (root : Int), .int .i64 who, .slice A4 m4 c4] 33 (0, 0)), (g3, .cells #[.int .i64 (M : Int), .slice A l.length c] 24 (0, 0))]
set_option maxHeartbeats 8000000 in
set_option maxRecDepth 100000 in
theorem play_any (M : Nat) (hM : M ≤ 40) (l : List S54) (hl : l.length < 2 ^ 44) (hv : valE M l = 0) (hin : InR M l) (A : Option Addr) (c : Nat) (game : Nat) (root : Nat) (who : Int) (A4 : Option Addr) (c4 base : Nat) (rs : List Rp) (hok : StrOk M game root who rs) (par : Nat) (Good : List Nat → Prop)
    (hpar : (par = 0 ∧ who = 1) ∨ (par = 1 ∧ who = 2)) (hS : StratR M (netOf M l) game par rs Good) (hG : Good [root]) (hself : ¬(game = 2 ∧ At (netOf M l) root root)) (hw : winB M (netOf M l) game root who rs = true)
    (P : List Int) (Ap : Option Addr) (cp : Nat) (hP : P.length < 2 ^ 40) (w : World) (hT : TabW w) (hr : RdP w A c l) (ho : OwnRp w base (.slice A4 rs.length c4) rs) (hp : RdI w Ap cp P) :
    Calls Tryd.prog 20 #[.agg #[.int .i64 (M : Int), .slice A l.length c], .agg #[.int .i64 (game : Int), .int .i64 (root : Int), .int .i64 who, .slice A4 rs.length c4], .slice Ap P.length cp] w fun e w' => ∃ (A6 : Option Addr) (c6 : Nat) (z : List Nat), e = .returned (.tuple #[.slice A6 z.length c6, .int .i64 0]) ∧ Aside0 (Good z ∧ legalM (netOf M l) game z = 0) ∧ Aside0 (OwnI w' w.heap.size (.slice A6 z.length c6) z) ∧ Aside0 (Below w.heap.size w w') := by
  have HT := Aside0.mk hT
  have HR := Aside0.mk hr
  have HO := Aside0.mk ho
  have HP := Aside0.mk hp
  have HOk := Aside0.mk hok
  have HS := Aside0.mk hS
  have HG := Aside0.mk hG
  have HNet := Aside0.mk (netOf_ok hM hin)
  have hg12 : game = 1 ∨ game = 2 := by have := hok.game; omega
  have hlen := hok.len hM
  have HCk := Aside0.mk (fun W (hT : TabW W) (hr : RdP W A c l) (ho : OwnRp W base (.slice A4 rs.length c4) rs) => check_any (M : Int) M rfl hM l hl hv hin A c (game : Int) root who A4 c4 base rs hok W hT hr ho)
  rw [hw] at HCk
  have e0 : chkE true = 0 := rfl
  rw [e0] at HCk
  have HNew := Aside0.mk (fun W (hr : RdP W A c l) => new_blk M hM l hl hin A c W hr)
  have HB := Aside0.mk (Mem.refl w)
  clear hT hr ho hp hok hS hG e0
  go_enter Tryd.func20, Tryd.ntmps20
  go_upto_region 5 with (first | ((with_reducible refine gate_dst (N := 3) rfl ?_); refine box_mem (w := w) 3 #[.int .i64 (M : Int), .slice A l.length c] 24 rfl rfl ?hr HB.out ?_; (case hr => go_simp; done); clear HB; intro g3 w1 HB HW) | ((with_reducible refine gate_dst (N := 4) rfl ?_); refine box_mem (w := w) 4 #[.int .i64 (game : Int), .int .i64 (root : Int), .int .i64 who, .slice A4 rs.length c4] 33 rfl rfl ?hr HB.out ?_; (case hr => go_simp; done); clear HB HW; intro g4 w2 HB HW; have hg0 := (HB.out.st.at_ (.tail _ (.head _)) 0).trans rfl; have hg1 := (HB.out.st.at_ (.tail _ (.head _)) 1).trans rfl; have hh0 := (HB.out.st.at_ (.head _) 0).trans rfl; have hh1 := (HB.out.st.at_ (.head _) 1).trans rfl; have hh2 := (HB.out.st.at_ (.head _) 2).trans rfl; have hh3 := (HB.out.st.at_ (.head _) 3).trans rfl) | (go_at_call 13; refine (HCk.out _ (HT.out.below HT.out.2 HB.out.st.hb) (HR.out.below HB.out.st.hb) (HO.out.below HB.out.st.hb)).mono ?_; rintro e w3 ⟨rfl, hb⟩; have HB3 := Aside0.mk (HB.out.nx hb.out); have hi0 := (HB3.out.st.at_ (.tail _ (.head _)) 0).trans rfl; have hi1 := (HB3.out.st.at_ (.tail _ (.head _)) 1).trans rfl; clear hb HB hg0 hg1 hh0 hh1 hh2 hh3 HW) | (go_at_call 25; refine (HNew.out _ (HR.out.below HB3.out.st.hb)).mono ?_; rintro e w4 ⟨b1, b2, rfl, hk1, hk2, hkl, hb⟩))
  have HSt : Aside0 (St w (plBs M l A c game root who A4 rs.length c4 g3 g4 w4.heap.size b1 b2) (w4.alloc (.cells #[.int .u64 ((netOf M l).all : Int), .slice (some ⟨b1, 0, none⟩) M M, .slice (some ⟨b2, 0, none⟩) M M] 64))) := ⟨{
    hb := below_alloc (HB3.out.nx hb.out).st.hb _
    blk := fun p hp => by
      unfold plBs at hp
      rcases List.mem_cons.1 hp with rfl | hp
      · exact blk_new w4 _
      rcases List.mem_cons.1 hp with rfl | hp
      · exact blk_grown hk1.out (World.grownBy_alloc w4 _ none) (by simp)
      rcases List.mem_cons.1 hp with rfl | hp
      · exact blk_grown hk2.out (World.grownBy_alloc w4 _ none) (by simp)
      rcases List.mem_cons.1 hp with rfl | hp
      · exact blk_grown ((HB3.out.nx hb.out).st.blk _ (.head _)) (World.grownBy_alloc w4 _ none) (by simp)
      rcases List.mem_cons.1 hp with rfl | hp
      · exact blk_grown ((HB3.out.nx hb.out).st.blk _ (.tail _ (.head _))) (World.grownBy_alloc w4 _ none) (by simp)
      cases hp }⟩
  clear HB3 hk1 hk2 hb hi0 hi1 HCk HNew
  change Code.wp Tryd.prog _ _ _ (w4.alloc (.cells #[.int .u64 ((netOf M l).all : Int), .slice (some ⟨b1, 0, none⟩) M M, .slice (some ⟨b2, 0, none⟩) M M] 64))
  generalize w4.heap.size = g9 at *
  generalize w4.alloc (.cells #[.int .u64 ((netOf M l).all : Int), .slice (some ⟨b1, 0, none⟩) M M, .slice (some ⟨b2, 0, none⟩) M M] 64) = w5 at *
  have ht1 := (HSt.out.at_ (g := g4) (.tail _ (.tail _ (.tail _ (.head _)))) 1).trans rfl
  go_upto_region 6 with fail
  have HL : Aside0 (LS w (plBs M l A c game root who A4 rs.length c4 g3 g4 g9 b1 b2) (.slice (some ⟨w5.heap.size, 0, none⟩) 1 1) [root] (w5.alloc (.cells #[.int .i64 (root : Int)] 3))) := ⟨{
    st := HSt.out.nx (below_alloc (Below.refl _ _) _)
    r := ⟨rfl, .inr ⟨w5.heap.size, 1, _, rfl, HSt.out.hb.size, blk_new w5 _, Nat.le_refl _, by decide, rfl, rfl⟩⟩
    ty := fun p hp => by
      unfold plBs at hp
      rcases List.mem_cons.1 hp with rfl | hp
      · exact ⟨_, _, rfl, by decide⟩
      rcases List.mem_cons.1 hp with rfl | hp
      · exact ⟨_, _, rfl, by decide⟩
      rcases List.mem_cons.1 hp with rfl | hp
      · exact ⟨_, _, rfl, by decide⟩
      rcases List.mem_cons.1 hp with rfl | hp
      · exact ⟨_, _, rfl, by decide⟩
      rcases List.mem_cons.1 hp with rfl | hp
      · exact ⟨_, _, rfl, by decide⟩
      cases hp }⟩
  clear HSt ht1
  change Code.wp Tryd.prog _ _ _ (w5.alloc (.cells #[.int .i64 (root : Int)] 3))
  generalize w5.heap.size = bL at *
  generalize w5.alloc (.cells #[.int .i64 (root : Int)] 3) = w6 at *
  have ht0 := (HL.out.st.at_ (g := g4) (.tail _ (.tail _ (.tail _ (.head _)))) 0).trans rfl
  have ht1 := (HL.out.st.at_ (g := g4) (.tail _ (.tail _ (.tail _ (.head _)))) 1).trans rfl
  have hn1 := (HL.out.st.at_ (g := g9) (.head _) 1).trans rfl
  have hby : w6.cell? ⟨b1, root, none⟩ = some (.int .u64 ((nth (netOf M l).by_ root : Nat) : Int)) := (blk_cell (HL.out.st.blk _ (.tail _ (.head _))) root).trans (u64s_get _ _ (by rw [HNet.out.hb]; exact HOk.out.root))
  have hroot := HOk.out.root
  go_cut [40] (fun s40 wx => s40 = .bool false ∧ Aside0 (Below w6.heap.size w6 wx))
  case first =>
    by_cases h2 : game = 2
    · have q1 : ((game : Int) == 2) = true := by rw [beq_iff_eq]; omega
      have hno : (nth (netOf M l).by_ root).testBit root = false := by rw [bool_false_iff]; intro h; exact hself ⟨h2, h⟩
      have C46 := Aside0.mk (fun W => has_any_q (nth (netOf M l).by_ root) root (p64 hM (HNet.out.lb root)) (by omega) W)
      rw [hno] at C46
      clear h2 hself
      go_quiet ((go_at_call 46; exact Calls.quiet_of_same (C46.out _)))
      go_wp2_with fail
      go_meet
      exact ⟨rfl, ⟨pw_below_drewN (Below.refl _ _) nq⟩⟩
    · have q1 : ((game : Int) == 2) = false := by rw [beq_eq_false_iff_ne]; omega
      clear h2 hself
      go_quiet (fail)
      go_wp2_with fail
      go_meet
      exact ⟨rfl, ⟨pw_below_drewN (Below.refl _ _) nq⟩⟩
  case rest =>
    obtain ⟨rfl, hb⟩ := hcut
    have HL2 := Aside0.mk (HL.out.nx hb.out)
    clear HL hb ht0 ht1 hn1 hby
    have HLen : Aside0 (∀ z, Good z → 0 < z.length ∧ z.length ≤ 81 ∧ (∀ x, x ∈ z → x < M)) := ⟨fun z hz => by
      have h := HS.out.pl z hz
      have h2 := h.len hg12
      exact ⟨h.ne, by omega, h.lt⟩⟩
    go_wp2
    go_loopw [10, 11] (fun v10 v11 x => ∃ (z : List Nat) (o : Nat) (A6 : Option Addr) (c6 : Nat), v10 = .slice A6 z.length c6 ∧ v11 = .int .i64 (o : Int) ∧ o ≤ z.length ∧ Aside0 (Good z) ∧ Aside0 (LS w (plBs M l A c game root who A4 rs.length c4 g3 g4 g9 b1 b2) (.slice A6 z.length c6) z x)) (fun v10 _ _ => 100 - sliceLen v10)
    case atStart => exact ⟨[root], 0, _, _, rfl, rfl, Nat.zero_le _, HG, HL2⟩
    case round =>
      clear HL2 HG
      obtain ⟨z, o, A6, c6, rfl, rfl, ho, HG, HL⟩ := hrel
      have hz := HLen.out z HG.out
      obtain ⟨hz0, hz81, hzlt⟩ := hz
      have q1 : decide ((z.length : Int) < 200) = true := decide_eq_true (by omega)
      have hk1 := HL.out.st.blk (b1, _) (.tail _ (.head _))
      have hk2 := HL.out.st.blk (b2, _) (.tail _ (.tail _ (.head _)))
      have HLeg := Aside0.mk (legal_any M (netOf M l) HNet.out game hg12 z hz0 (by omega) hzlt A6 c6 _ wr (HT.out.below HT.out.2 HL.out.st.hb) (NetV_of_blk hM hk1 hk2 HNet.out.hb HNet.out.ho) HL.out.r.rd)
      have hx0 := (HL.out.st.at_ (g := g9) (.head _) 0).trans rfl
      have hx1 := (HL.out.st.at_ (g := g9) (.head _) 1).trans rfl
      have hx2 := (HL.out.st.at_ (g := g9) (.head _) 2).trans rfl
      have hx3 := (HL.out.st.at_ (g := g4) (.tail _ (.tail _ (.tail _ (.head _)))) 0).trans rfl
      have HMl := Aside0.mk (legal_lt HNet.out game z hzlt)
      obtain ⟨mask, hmask⟩ : ∃ m, legalM (netOf M l) game z = m := ⟨_, rfl⟩
      have HMask := Aside0.mk hmask
      rw [hmask] at HLeg HMl
      clear hk1 hk2 hmask
      go_upto_region 11 with (first | (go_at_call 42; refine HLeg.out.mono ?_; rintro e w7 ⟨rfl, hb⟩; have HL7 := Aside0.mk (HL.out.nx hb.out); clear HL HLeg hb hx0 hx1 hx2 hx3) | (go_at_call 43; refine (list_own mask (p64 hM HMl.out) _ (HT.out.below HT.out.2 HL7.out.st.hb)).mono ?_; rintro e w8 ⟨v8, rfl, HRw, hb⟩; obtain ⟨A12, c12, rfl⟩ := own_slice HRw.out; have HL8 := Aside0.mk (HL7.out.nx hb.out); clear HL7 hb))
      have HRow : Aside0 (OwnI w8 w7.heap.size (.slice A12 (bl mask).length c12) (bl mask)) := ⟨HRw.out⟩
      clear HRw
      by_cases hm0 : mask = 0
      · have hl0 : (bl mask).length = 0 := by rw [(bl_nil mask (p64 hM HMl.out)).2 hm0]; rfl
        have HEnd : Aside0 (legalM (netOf M l) game z = 0) := ⟨HMask.out.trans hm0⟩
        rw [hl0] at *
        go_wp2
        go_ret2
        exact ⟨A6, c6, z, rfl, ⟨HG.out, HEnd.out⟩, ⟨HL8.out.r⟩, ⟨HL8.out.st.hb⟩⟩
      · have hlp : 0 < (bl mask).length := Nat.pos_of_ne_zero (fun h => hm0 ((bl_nil mask (p64 hM HMl.out)).1 (List.length_eq_zero_iff.1 h)))
        have hl64 := bl_length mask
        have HBm := Aside0.mk (fun k (hk : k < (bl mask).length) => (mem_bl mask _ (p64 hM HMl.out)).1 (nth_mem (bl mask) k hk))
        have l1 : (((bl mask).length : Int) == 0) = false := by rw [beq_eq_false_iff_ne]; omega
        have l2 : decide ((0 : Int) < ((bl mask).length : Int)) = true := decide_eq_true (by omega)
        clear hm0
        go_upto_region 12 with fail
        have hh2 := (HL8.out.st.at_ (g := g4) (.tail _ (.tail _ (.tail _ (.head _)))) 2).trans rfl
        go_cut [13] (fun s13 wx => s13 = .bool (decide (z.length % 2 = par)) ∧ wx = w8)
        case first =>
          rcases Nat.mod_two_eq_zero_or_one z.length with hp | hp
          · have e1 : (((z.length : Int) % 2) == 0) = true := by rw [beq_iff_eq]; omega
            have e2 : (z.length % 2 == 0) = true := by rw [beq_iff_eq]; exact hp
            have e3 : Int.tmod (z.length : Int) 2 = 0 := by rw [Int.tmod_eq_emod_of_nonneg (by omega)]; omega
            rcases hpar with ⟨rfl, rfl⟩ | ⟨rfl, rfl⟩
            · have e4 : decide (z.length % 2 = 0) = true := decide_eq_true hp
              clear hp
              go_wp2_with fail
              go_meet
              exact ⟨by rw [e4], rfl⟩
            · have e4 : decide (z.length % 2 = 1) = false := decide_eq_false (by omega)
              clear hp
              go_wp2_with fail
              go_meet
              exact ⟨by rw [e4], rfl⟩
          · have e1 : (((z.length : Int) % 2) == 0) = false := by rw [beq_eq_false_iff_ne]; omega
            have e2 : (z.length % 2 == 0) = false := by rw [beq_eq_false_iff_ne]; omega
            have e3 : Int.tmod (z.length : Int) 2 = 1 := by rw [Int.tmod_eq_emod_of_nonneg (by omega)]; omega
            rcases hpar with ⟨rfl, rfl⟩ | ⟨rfl, rfl⟩
            · have e4 : decide (z.length % 2 = 0) = false := decide_eq_false (by omega)
              clear hp
              go_wp2_with fail
              go_meet
              exact ⟨by rw [e4], rfl⟩
            · have e4 : decide (z.length % 2 = 1) = true := decide_eq_true hp
              clear hp
              go_wp2_with fail
              go_meet
              exact ⟨by rw [e4], rfl⟩
        case rest =>
          obtain ⟨rfl, rfl⟩ := hcut
          clear hh2
          go_upto_region 13 with fail
          have hh0 := (HL8.out.st.at_ (g := g4) (.tail _ (.tail _ (.tail _ (.head _)))) 0).trans rfl
          have hh1 := (HL8.out.st.at_ (g := g4) (.tail _ (.tail _ (.tail _ (.head _)))) 1).trans rfl
          have hh2 := (HL8.out.st.at_ (g := g4) (.tail _ (.tail _ (.tail _ (.head _)))) 2).trans rfl
          have hh3 := (HL8.out.st.at_ (g := g4) (.tail _ (.tail _ (.tail _ (.head _)))) 3).trans rfl
          obtain ⟨ad6, hA6, hcz⟩ := HL8.out.r.rd.cell (z.length - 1) (by omega)
          subst hA6
          have hzl := hzlt _ (nth_mem z (z.length - 1) (by omega))
          have HRep : Aside0 (∀ W, Below wc.heap.size wc W → Calls Tryd.prog 47 #[.agg #[.int .i64 (game : Int), .int .i64 (root : Int), .int .i64 who, .slice A4 rs.length c4], .int .i64 ((nth z (z.length - 1) : Nat) : Int)] W fun e w' => e = .returned (.tuple #[.int .i64 (((rep rs (nth z (z.length - 1))).getD 0 : Nat) : Int), .bool (rep rs (nth z (z.length - 1))).isSome]) ∧ Aside0 (Below W.heap.size W w')) := ⟨fun W hb => by
            obtain ⟨A', c', he, hrd⟩ := (HO.out.below (HL8.out.nx hb).st.hb).reads
            injection he with e1 e2 e3
            subst e1 e3
            exact reply_any rs (by omega) HOk.out.so _ (by omega) _ _ _ _ _ W hrd⟩
          have hsub : IntKind.i64.wrap ((z.length : Int) - 1) = ((z.length - 1 : Nat) : Int) := by rw [IntWalk.i64_in _ (by omega)]; omega
          have i1 : decide ((0 : Int) ≤ ((z.length - 1 : Nat) : Int)) = true := decide_eq_true (by omega)
          have i2 : decide (((z.length - 1 : Nat) : Int) < (z.length : Int)) = true := decide_eq_true (by omega)
          have i3 : ((z.length - 1 : Nat) : Int) < (z.length : Int) := by omega
          have HLastz : Aside0 (nth z (z.length - 1) = lastN z) := ⟨rfl⟩
          generalize nth z (z.length - 1) = lz at *
          generalize z.length - 1 = zl at *
          go_cut [14, 15] (fun s14 s15 wx => s14 = .int .i64 (((rep rs lz).getD 0 : Nat) : Int) ∧ s15 = .bool (rep rs lz).isSome ∧ Aside0 (Below wc.heap.size wc wx))
          case first =>
            rename_i J9 K9 hJ9 hK9
            go_region_with (go_at_call 47; refine (HRep.out _ (Below.refl _ _).drew).mono ?_; rintro e w9 ⟨rfl, hb⟩)
            all_goals
              go_simp
              refine hK9 _ _ (Met.intro (hJ9 _ _ ?_))
              (repeat apply Exists.intro)
              refine ⟨?_, rfl⟩
              exact ⟨rfl, rfl, ⟨below_then ((Below.refl _ _).drew) (Nat.le_refl _) hb.out⟩⟩
          case rest =>
            obtain ⟨rfl, rfl, hb⟩ := hcut
            have HL9 := Aside0.mk (HL8.out.nx hb.out)
            have HRow9 := Aside0.mk (HRow.out.below hb.out)
            clear HL8 HRow hb hh0 hh1 hh2 hh3 hcz HRep
            by_cases hm : z.length % 2 = par
            · obtain ⟨a, ha1, ha2, ha3⟩ := HS.out.mine z HG.out hm
              have HGa := Aside0.mk ha3
              have m1 : decide (z.length % 2 = par) = true := decide_eq_true hm
              rw [← HLastz.out] at ha1
              rw [ha1, m1]
              simp only [Option.getD_some, Option.isSome_some]
              clear ha1 ha2 ha3 hm m1
              go_wp2_with (first | (at_builtin; refine app_node (w0 := w) 25 (.tmp 108) (.tmp 110) rfl rfl Tryd.underlying25 info3 _ z a rfl rfl ?bO1 ?bO2 ?bO3 ?_; (case bO1 => exact HL9.out.r); (case bO2 => exact HL9.out.st.hb); (case bO3 => omega); intro v9 w10 HR9 HG9 _; have HL10 := Aside0.mk (HL9.out.app HR9 HG9); obtain ⟨A13, c13, rfl⟩ := own_slice HL10.out.r; clear HL9 HR9 HG9))
              exact ⟨⟨z ++ [a], o, A13, c13, by rw [List.length_append, List.length_singleton], by go_num, by rw [List.length_append, List.length_singleton]; omega, HGa, ⟨by have h := HL10.out; rw [show (z ++ [a]).length = z.length + 1 by simp] at h ⊢; exact h⟩⟩, by show 100 - (z.length + 1) < 100 - z.length; omega⟩
            · have m1 : decide (z.length % 2 = par) = false := decide_eq_false hm
              have HOth := Aside0.mk (fun k (hk : k < (bl mask).length) => HS.out.other z HG.out hm (nth (bl mask) k) (by rw [HMask.out]; exact HBm.out k hk))
              rw [m1]
              clear m1 hm
              obtain ⟨ad12, hA12, hc0⟩ := HRow9.out.rd.cell0 hlp
              subst hA12
              have l3 : (0 : Int) < ((bl mask).length : Int) := by omega
              by_cases hop : o < P.length
              · obtain ⟨adp, hAp, hcp⟩ := (HP.out.below HL9.out.st.hb).cell o hop
                subst hAp
                have o1 : decide ((o : Int) < (P.length : Int)) = true := decide_eq_true (by omega)
                have o2 : decide ((0 : Int) ≤ (o : Int)) = true := decide_eq_true (by omega)
                generalize nthI P o = pk at *
                obtain ⟨L, hL⟩ : ∃ L : Nat, (bl mask).length = L := ⟨_, rfl⟩
                have t1 : Int.tmod pk (L : Int) < (L : Int) := Int.tmod_lt_of_pos pk (by omega)
                have t2 : -(L : Int) < Int.tmod pk (L : Int) := by
                  have := Int.lt_tmod_of_pos pk (b := (L : Int)) (by omega)
                  omega
                obtain ⟨u, hu⟩ : ∃ u : Int, Int.tmod pk (L : Int) = u := ⟨_, rfl⟩
                rw [hu] at t1 t2
                obtain ⟨k, hk⟩ : ∃ k : Nat, Int.tmod (u + (L : Int)) (L : Int) = (k : Int) := Int.eq_ofNat_of_zero_le (Int.tmod_nonneg _ (by omega))
                have hkL : k < L := by
                  have := Int.tmod_lt_of_pos (u + (L : Int)) (b := (L : Int)) (by omega)
                  omega
                have w1 : IntKind.i64.wrap u = u := IntWalk.i64_in _ (by omega)
                have w2 : IntKind.i64.wrap (u + (L : Int)) = u + (L : Int) := IntWalk.i64_in _ (by omega)
                have w3 : IntKind.i64.wrap (k : Int) = (k : Int) := IntWalk.i64_in _ (by omega)
                have k1 : decide ((0 : Int) ≤ (k : Int)) = true := decide_eq_true (by omega)
                have k2 : decide ((k : Int) < (L : Int)) = true := decide_eq_true (by omega)
                have k3 : (k : Int) < (L : Int) := by omega
                obtain ⟨ad13, hA13, hck⟩ := HRow9.out.rd.cell k (by rw [hL]; exact hkL)
                obtain rfl : ad12 = ad13 := Option.some.inj hA13
                have HGa := Aside0.mk (HOth.out k (by rw [hL]; exact hkL))
                generalize nth (bl mask) k = a at *
                rw [hL] at *
                clear hL t1 t2 HRow9 HOth HBm hA13
                go_wp2_with (first | (at_builtin; refine app_node (w0 := w) 25 (.tmp 108) (.tmp 110) rfl rfl Tryd.underlying25 info3 _ z a rfl rfl ?bQ1 ?bQ2 ?bQ3 ?_; (case bQ1 => exact HL9.out.r); (case bQ2 => exact HL9.out.st.hb); (case bQ3 => omega); intro v9 w10 HR9 HG9 _; have HL10 := Aside0.mk (HL9.out.app HR9 HG9); obtain ⟨A13, c13, rfl⟩ := own_slice HL10.out.r; clear HL9 HR9 HG9))
                exact ⟨⟨z ++ [a], o + 1, A13, c13, by rw [List.length_append, List.length_singleton], by go_num, by rw [List.length_append, List.length_singleton]; omega, HGa, ⟨by have h := HL10.out; rw [show (z ++ [a]).length = z.length + 1 by simp] at h ⊢; exact h⟩⟩, by show 100 - (z.length + 1) < 100 - z.length; omega⟩
              · have o1 : decide ((o : Int) < (P.length : Int)) = false := decide_eq_false (by omega)
                have HGa := Aside0.mk (HOth.out 0 hlp)
                generalize nth (bl mask) 0 = a at *
                go_wp2_with (first | (at_builtin; refine app_node (w0 := w) 25 (.tmp 108) (.tmp 110) rfl rfl Tryd.underlying25 info3 _ z a rfl rfl ?bP1 ?bP2 ?bP3 ?_; (case bP1 => exact HL9.out.r); (case bP2 => exact HL9.out.st.hb); (case bP3 => omega); intro v9 w10 HR9 HG9 _; have HL10 := Aside0.mk (HL9.out.app HR9 HG9); obtain ⟨A13, c13, rfl⟩ := own_slice HL10.out.r; clear HL9 HR9 HG9))
                exact ⟨⟨z ++ [a], o + 1, A13, c13, by rw [List.length_append, List.length_singleton], by go_num, by rw [List.length_append, List.length_singleton]; omega, HGa, ⟨by have h := HL10.out; rw [show (z ++ [a]).length = z.length + 1 by simp] at h ⊢; exact h⟩⟩, by show 100 - (z.length + 1) < 100 - z.length; omega⟩
end Go.Proofs.YtgboplcjafmliaaDoor.G

/- The contract of net.Has, in plain terms. -/
namespace Go.Proofs.YtgboplcjafmliaaDoor.G
open Go.RowKit Go.Proofs.YtgboplcjafmliaaDoorW.PrintWords Go.Proofs.YtgboplcjafmliaaDoorW.PrintLast Go.Proofs.YtgboplcjafmliaaDoorW.PrintMore
open Go.Proofs.YtgboplcjafmliaaDoor.PAll
set_option linter.unusedVariables false
set_option linter.unusedSimpArgs false
/-- An attack of the graph. -/
def atkB (l : List S54) (a b : Int) : Bool := l.any fun p => p.f0 == a && p.f1 == b
theorem has_l0 (N a b : Int) (l : List S54) (hl : l.length < 2 ^ 44) : ∀ (k j : Nat), l.length - j < k → j ≤ l.length → deliberationnet_Has.l0 k a b (j : Int) N l = some (atkB (l.drop j) a b)
  | 0, j, h, _ => by omega
  | k + 1, j, h, hj => by
    rw [deliberationnet_Has.l0]
    by_cases hlt : j < l.length
    · rw [if_pos (by omega), if_pos (by omega)]
      have e : wrap64 ((j : Int) + 1) = ((j + 1 : Nat) : Int) := by unfold wrap64; omega
      have er : rd_T54 l (j : Int) = nthP l j := by
        unfold rd_T54 nthP
        simp
      rw [e, er, has_l0 N a b l hl k (j + 1) (by omega) (by omega), nthP_drop l j hlt]
      unfold atkB
      rw [List.any_cons]
      by_cases h0 : (nthP l j).f0 = a
      · rw [if_pos h0]
        by_cases h1 : (nthP l j).f1 = b
        · rw [if_pos h1, beq_iff_eq.2 h0, beq_iff_eq.2 h1]; rfl
        · rw [if_neg h1, beq_eq_false_iff_ne.2 h1, Bool.and_false, Bool.false_or]
      · rw [if_neg h0, beq_eq_false_iff_ne.2 h0, Bool.false_and, Bool.false_or]
    · rw [if_neg (by omega), List.drop_eq_nil_of_le (by omega)]; rfl
theorem nhas_any (N a b : Int) (l : List S54) (hl : l.length < 2 ^ 44) (A : Option Addr) (c : Nat) (w : World) (hr : RdP w A c l) :
    Calls Tryd.prog 15 #[.agg #[.int .i64 N, .slice A l.length c], .int .i64 a, .int .i64 b] w fun e w' => e = .returned (.bool (atkB l a b)) ∧ Aside0 (Below w.heap.size w w') :=
  (deliberationnet_Has.calls (l.length + 1) N A c l a b (atkB l a b) w hr.2 hr.1 (by
    unfold deliberationnet_Has.f
    exact has_l0 N a b l hl (l.length + 1) 0 (by omega) (Nat.zero_le _))).mono fun e w' ⟨h, hb⟩ => ⟨h, ⟨hb⟩⟩
theorem atkB_nat {N : Nat} {l : List S54} (h : InR N l) (a b : Nat) : atkB l (a : Int) (b : Int) = atk l a b := by
  unfold atkB atk
  rw [Bool.eq_iff_iff, List.any_eq_true, List.any_eq_true]
  constructor
  · rintro ⟨p, hp, e⟩
    refine ⟨p, hp, ?_⟩
    simp only [Bool.and_eq_true, beq_iff_eq] at e ⊢
    omega
  · rintro ⟨p, hp, e⟩
    refine ⟨p, hp, ?_⟩
    have := h p hp
    simp only [Bool.and_eq_true, beq_iff_eq] at e ⊢
    omega
end Go.Proofs.YtgboplcjafmliaaDoor.G

/- The contract of strategy (the law's own), in plain terms. -/
namespace Go.Proofs.YtgboplcjafmliaaDoor.G
open Go.RowKit Go.Proofs.YtgboplcjafmliaaDoorW.PrintWords Go.Proofs.YtgboplcjafmliaaDoorW.PrintLast Go.Proofs.YtgboplcjafmliaaDoorW.PrintMore
open Go.Proofs.YtgboplcjafmliaaDoor.PAll
set_option linter.unusedVariables false
set_option linter.unusedSimpArgs false

/-- Replies that are made in order, to nodes below a. -/
def Rok (M a : Nat) (R : List S77) : Prop := R.Pairwise (fun p q => p.f0 < q.f0) ∧ (∀ s, s ∈ R → 0 ≤ s.f0 ∧ s.f0 < a ∧ 0 ≤ s.f1 ∧ s.f1 < M) ∧ R.length ≤ a
theorem Rok.next {M a : Nat} {R : List S77} (h : Rok M a R) : Rok M (a + 1) R := ⟨h.1, fun s hs => by have := h.2.1 s hs; omega, by have := h.2.2; omega⟩
theorem Rok.add {M a : Nat} {R : List S77} (h : Rok M a R) {y : Int} (h0 : 0 ≤ y) (h1 : y < M) : Rok M (a + 1) (R ++ [⟨(a : Int), y⟩]) := by
  refine ⟨?_, fun s hs => ?_, ?_⟩
  · rw [List.pairwise_append]
    refine ⟨h.1, List.pairwise_singleton _ _, fun p hp q hq => ?_⟩
    rw [List.mem_singleton] at hq
    subst hq
    exact (h.2.1 p hp).2.1
  · rcases List.mem_append.1 hs with hs | hs
    · have := h.2.1 s hs; omega
    · rw [List.mem_singleton] at hs
      subst hs
      refine ⟨by show (0 : Int) ≤ (a : Int); omega, by show (a : Int) < ((a + 1 : Nat) : Int); omega, h0, h1⟩
  · rw [List.length_append, List.length_singleton]; have := h.2.2; omega
def SRes (M : Nat) (L : List Int) (r1 r2 r3 : Int) (r : Int × Int × Int × List S77 × Int) : Prop := r.1 = r1 ∧ r.2.1 = r2 ∧ r.2.2.1 = r3 ∧ Rok M M r.2.2.2.1 ∧ 0 ≤ r.2.2.2.2 ∧ r.2.2.2.2 ≤ L.length
theorem j2_false (k : Nat) (x6 x7 x8 : Int) (L : List Int) (p N : Int) (l : List S54) (r1 r2 r3 : Int) (R : List S77) (h : R.length < 8796093022208) : deliberationlaw25_strategy.j2 (k + 1) x6 x7 x8 false L p N l r1 r2 r3 R = deliberationlaw25_strategy.l0 k (wrap64 (x6 + 1)) L p N l r1 r2 r3 (R ++ [⟨x6, x7⟩]) := by
  unfold deliberationlaw25_strategy.j2
  rw [if_neg Bool.false_ne_true, if_pos h]
theorem j2_true (k : Nat) (x6 x7 x8 : Int) (L : List Int) (p N : Int) (l : List S54) (r1 r2 r3 : Int) (R : List S77) (b : Bool) (h : deliberationnet_Has.f k N l x8 x6 = some b) : deliberationlaw25_strategy.j2 (k + 1) x6 x7 x8 true L p N l r1 r2 r3 R = deliberationlaw25_strategy.l1 k x6 (if b = true then x8 else x7) (wrap64 (x8 + 1)) L p N l r1 r2 r3 R := by
  unfold deliberationlaw25_strategy.j2
  rw [if_pos rfl, h, Option.bind_some]
  cases b
  · rfl
  · rfl
theorem l1_ge (k : Nat) (x6 x7 x8 : Int) (L : List Int) (p N : Int) (l : List S54) (r1 r2 r3 : Int) (R : List S77) (h : ¬ x8 < N) : deliberationlaw25_strategy.l1 (k + 1) x6 x7 x8 L p N l r1 r2 r3 R = deliberationlaw25_strategy.j2 k x6 x7 x8 false L p N l r1 r2 r3 R := by
  unfold deliberationlaw25_strategy.l1
  rw [if_neg h]
theorem l1_lt (k : Nat) (x6 x7 x8 : Int) (L : List Int) (p N : Int) (l : List S54) (r1 r2 r3 : Int) (R : List S77) (r q : Int) (h : x8 < N) (hn : deliberationkeep_Src_N.f L p 5 = some (r, q)) : deliberationlaw25_strategy.l1 (k + 1) x6 x7 x8 L p N l r1 r2 r3 R = deliberationlaw25_strategy.j2 k x6 x7 x8 (decide (r > 0)) L q N l r1 r2 r3 R := by
  unfold deliberationlaw25_strategy.l1
  rw [if_pos h, hn]
  rfl
theorem l0_ge (k : Nat) (x6 : Int) (L : List Int) (p N : Int) (l : List S54) (r1 r2 r3 : Int) (R : List S77) (h : ¬ x6 < N) : deliberationlaw25_strategy.l0 (k + 1) x6 L p N l r1 r2 r3 R = some (r1, r2, r3, R, p) := by
  unfold deliberationlaw25_strategy.l0
  rw [if_neg h]
theorem l0_zero (k : Nat) (x6 : Int) (L : List Int) (p N : Int) (l : List S54) (r1 r2 r3 : Int) (R : List S77) (r q : Int) (h : x6 < N) (hn : deliberationkeep_Src_N.f L p 3 = some (r, q)) (h0 : r = 0) : deliberationlaw25_strategy.l0 (k + 1) x6 L p N l r1 r2 r3 R = deliberationlaw25_strategy.l0 k (wrap64 (x6 + 1)) L q N l r1 r2 r3 R := by
  rw [deliberationlaw25_strategy.l0.eq_def]
  simp only
  rw [if_pos h, hn, Option.bind_some, if_pos h0]
theorem l0_pos (k : Nat) (x6 : Int) (L : List Int) (p N : Int) (l : List S54) (r1 r2 r3 : Int) (R : List S77) (r q r' q' : Int) (h : x6 < N) (hn : deliberationkeep_Src_N.f L p 3 = some (r, q)) (h0 : ¬ r = 0) (hn' : deliberationkeep_Src_N.f L q N = some (r', q')) : deliberationlaw25_strategy.l0 (k + 1) x6 L p N l r1 r2 r3 R = deliberationlaw25_strategy.l1 k x6 r' 0 L q' N l r1 r2 r3 R := by
  rw [deliberationlaw25_strategy.l0.eq_def]
  simp only
  rw [if_pos h, hn, Option.bind_some, if_neg h0, hn', Option.bind_some]
theorem st_l1 (M : Nat) (hM : M ≤ 40) (L : List Int) (hL : L.length ≤ 2000) (l : List S54) (hl : l.length < 2 ^ 44) (r1 r2 r3 : Int) (a : Nat) (ha : a < M) (K : Nat)
    (ih : ∀ (R : List S77) (p : Int), Rok M (a + 1) R → 0 ≤ p → p ≤ L.length → ∀ k, K ≤ k → ∃ r, deliberationlaw25_strategy.l0 k ((a + 1 : Nat) : Int) L p M l r1 r2 r3 R = some r ∧ SRes M L r1 r2 r3 r) (hK : l.length + 1 ≤ K) :
    ∀ (e b : Nat), b + e = M → ∀ (R : List S77) (p y : Int), Rok M a R → 0 ≤ p → p ≤ L.length → 0 ≤ y → y < M → ∀ k, K + 2 * e + 2 ≤ k → ∃ r, deliberationlaw25_strategy.l1 k (a : Int) y (b : Int) L p M l r1 r2 r3 R = some r ∧ SRes M L r1 r2 r3 r := by
  have hj : ∀ (R : List S77) (b : Nat) (p y : Int), Rok M a R → 0 ≤ p → p ≤ L.length → 0 ≤ y → y < M → ∀ k, K + 1 ≤ k → ∃ r, deliberationlaw25_strategy.j2 k (a : Int) y (b : Int) false L p M l r1 r2 r3 R = some r ∧ SRes M L r1 r2 r3 r := by
    intro R b p y hR hp0 hp1 hy0 hy1 k hk
    obtain ⟨k, rfl⟩ : ∃ m, k = m + 1 := ⟨k - 1, by omega⟩
    have hlen := hR.2.2
    have e : wrap64 ((a : Int) + 1) = ((a + 1 : Nat) : Int) := by unfold wrap64; omega
    rw [j2_false k _ _ _ _ _ _ _ _ _ _ _ (by omega), e]
    exact ih _ p (hR.add hy0 hy1) hp0 hp1 k (by omega)
  intro e
  induction e with
  | zero =>
    intro b hb R p y hR hp0 hp1 hy0 hy1 k hk
    obtain ⟨k, rfl⟩ : ∃ m, k = m + 1 := ⟨k - 1, by omega⟩
    rw [l1_ge k _ _ _ _ _ _ _ _ _ _ _ (by omega)]
    exact hj R b p y hR hp0 hp1 hy0 hy1 k (by omega)
  | succ e ihe =>
    intro b hb R p y hR hp0 hp1 hy0 hy1 k hk
    obtain ⟨k, rfl⟩ : ∃ m, k = m + 1 := ⟨k - 1, by omega⟩
    obtain ⟨r, q, hn, hr0, hr1, hq0, hq1⟩ := n_some hp0 hp1 hL 5 (by omega) (by omega)
    rw [l1_lt k _ _ _ _ _ _ _ _ _ _ _ r q (by omega) hn]
    by_cases hpos : r > 0
    · rw [decide_eq_true hpos]
      obtain ⟨k, rfl⟩ : ∃ m, k = m + 1 := ⟨k - 1, by omega⟩
      have hh : deliberationnet_Has.f k (M : Int) l (b : Int) (a : Int) = some (atkB l b a) := by
        unfold deliberationnet_Has.f
        exact has_l0 (M : Int) _ _ l hl k 0 (by omega) (Nat.zero_le _)
      have e1 : wrap64 ((b : Int) + 1) = ((b + 1 : Nat) : Int) := by unfold wrap64; omega
      rw [j2_true k _ _ _ _ _ _ _ _ _ _ _ _ hh, e1]
      have o1 : b + 1 + e = M := by omega
      have o2 : (b : Int) < M := by omega
      have o3 : K + 2 * e + 2 ≤ k := by omega
      have o4 : 0 ≤ (b : Int) := Int.natCast_nonneg b
      by_cases hb2 : atkB l (b : Int) (a : Int) = true
      · rw [if_pos hb2]; exact ihe (b + 1) o1 R q (b : Int) hR hq0 hq1 o4 o2 k o3
      · rw [if_neg hb2]; exact ihe (b + 1) o1 R q y hR hq0 hq1 hy0 hy1 k o3
    · rw [decide_eq_false hpos]
      exact hj R b q y hR hq0 hq1 hy0 hy1 k (by omega)
theorem st_l0 (M : Nat) (hM1 : 1 ≤ M) (hM : M ≤ 40) (L : List Int) (hL : L.length ≤ 2000) (l : List S54) (hl : l.length < 2 ^ 44) (r1 r2 r3 : Int) :
    ∀ (d : Nat), ∃ K : Nat, l.length + 1 ≤ K ∧ ∀ (a : Nat), a + d = M → ∀ (R : List S77) (p : Int), Rok M a R → 0 ≤ p → p ≤ L.length → ∀ k, K ≤ k → ∃ r, deliberationlaw25_strategy.l0 k (a : Int) L p M l r1 r2 r3 R = some r ∧ SRes M L r1 r2 r3 r := by
  intro d
  induction d with
  | zero =>
    refine ⟨l.length + 1, Nat.le_refl _, fun a ha R p hR hp0 hp1 k hk => ?_⟩
    obtain ⟨k, rfl⟩ : ∃ m, k = m + 1 := ⟨k - 1, by omega⟩
    have hnlt : ¬ (a : Int) < (M : Int) := by omega
    rw [l0_ge k _ _ _ _ _ _ _ _ _ hnlt]
    have : a = M := by omega
    subst this
    exact ⟨_, rfl, rfl, rfl, rfl, hR, hp0, hp1⟩
  | succ d ih =>
    obtain ⟨K, hK, ih⟩ := ih
    refine ⟨K + 2 * M + 3, by omega, fun a ha R p hR hp0 hp1 k hk => ?_⟩
    obtain ⟨k, rfl⟩ : ∃ m, k = m + 1 := ⟨k - 1, by omega⟩
    have hlt : (a : Int) < (M : Int) := by omega
    have hltn : a < M := by omega
    have had : a + 1 + d = M := by omega
    have e : wrap64 ((a : Int) + 1) = ((a + 1 : Nat) : Int) := by unfold wrap64; omega
    have hk1 : K ≤ k := by omega
    have hk2 : K + 2 * M + 2 ≤ k := by omega
    have hM0 : (1 : Int) ≤ (M : Int) := by omega
    have hM2 : (M : Int) < 2 ^ 40 := by omega
    obtain ⟨r, q, hn, hr0, hr1, hq0, hq1⟩ := n_some hp0 hp1 hL 3 (by omega) (by omega)
    by_cases h0 : r = 0
    · rw [l0_zero k _ _ _ _ _ _ _ _ _ r q hlt hn h0, e]
      exact ih (a + 1) had R q hR.next hq0 hq1 k hk1
    · obtain ⟨r', q', hn', hr0', hr1', hq0', hq1'⟩ := n_some hq0 hq1 hL (M : Int) hM0 hM2
      rw [l0_pos k _ _ _ _ _ _ _ _ _ r q r' q' hlt hn h0 hn']
      exact st_l1 M hM L hL l hl r1 r2 r3 a hltn K (fun R p h1 h2 h3 k hk => ih (a + 1) had R p h1 h2 h3 k hk) hK M 0 (Nat.zero_add M) R q' r' hR hq0' hq1' hr0' hr1' k hk2
theorem st_some (M : Nat) (hM1 : 1 ≤ M) (hM : M ≤ 40) (L : List Int) (hL : L.length ≤ 2000) (l : List S54) (hl : l.length < 2 ^ 44) {p : Int} (hp0 : 0 ≤ p) (hp1 : p ≤ L.length) :
    ∃ k r1 r2 r3 R q, deliberationlaw25_strategy.f k L p M l = some (r1, r2, r3, R, q) ∧ 1 ≤ r1 ∧ r1 ≤ 2 ∧ 0 ≤ r2 ∧ r2 < M ∧ 1 ≤ r3 ∧ r3 ≤ 2 ∧ Rok M M R ∧ 0 ≤ q ∧ q ≤ L.length := by
  have hrange : ∀ p : Int, 0 ≤ p → p ≤ L.length → ∃ r b, deliberationkeep_Src_Range.f L p 1 2 = some (r, b) ∧ 1 ≤ r ∧ r ≤ 2 ∧ 0 ≤ b ∧ b ≤ L.length := by
    intro p h0 h1
    obtain ⟨r, b, e, hr0, hr1, hb0, hb1⟩ := n_some h0 h1 hL 2 (by omega) (by omega)
    refine ⟨1 + r, b, ?_, by omega, by omega, hb0, hb1⟩
    unfold deliberationkeep_Src_Range.f
    have e1 : wrap64 (2 - 1) = 1 := by unfold wrap64; omega
    have e2 : wrap64 (1 + 1) = 2 := by unfold wrap64; omega
    have e3 : wrap64 (1 + r) = 1 + r := by unfold wrap64; omega
    rw [e1, e2, e]
    simp [e3]
  obtain ⟨r1, q1, h1, h1a, h1b, h1c, h1d⟩ := hrange p hp0 hp1
  obtain ⟨r2, q2, h2, h2a, h2b, h2c, h2d⟩ := n_some h1c h1d hL (M : Int) (by omega) (by omega)
  obtain ⟨r3, q3, h3, h3a, h3b, h3c, h3d⟩ := hrange q2 h2c h2d
  obtain ⟨K, _, hst⟩ := st_l0 M hM1 hM L hL l hl r1 r2 r3 M
  obtain ⟨r, hr, e1, e2, e3, hR, hq0, hq1⟩ := hst 0 (Nat.zero_add M) [] q3 ⟨List.Pairwise.nil, fun s hs => (List.not_mem_nil hs).elim, Nat.zero_le _⟩ h3c h3d K (Nat.le_refl _)
  obtain ⟨s1, s2, s3, R, q⟩ := r
  simp only at e1 e2 e3 hR hq0 hq1
  subst e1 e2 e3
  refine ⟨K, s1, s2, s3, R, q, ?_, h1a, h1b, h2a, h2b, h3a, h3b, hR, hq0, hq1⟩
  unfold deliberationlaw25_strategy.f
  rw [h1]
  simp only [Option.bind_some]
  rw [h2]
  simp only [Option.bind_some]
  rw [h3]
  simp only [Option.bind_some]
  exact hr
theorem reps_flat {w : World} {base : Nat} {ok : Nat → Prop} : ∀ (R : List S77) (cs : List Value), Reps (k77.M w base ok) k77.sz R cs → cs = R.flatMap fun s => [Value.int .i64 s.f0, Value.int .i64 s.f1]
  | [], cs, h => by
    have := h.1
    rw [List.length_nil, Nat.zero_mul] at this
    rw [List.length_eq_zero_iff.1 this]; rfl
  | s :: R, cs, h => by
    have h0 := h.2 0 s rfl
    have hsz : k77.sz = 2 := rfl
    have hl := h.1
    rw [hsz, List.length_cons] at hl
    rw [hsz, Nat.zero_mul, List.drop_zero] at h0
    have e0 := k77_openM h0
    have hR : Reps (k77.M w base ok) k77.sz R (cs.drop 2) := by
      refine ⟨by rw [List.length_drop, hsz]; omega, fun j p hp => ?_⟩
      have := h.2 (j + 1) p (by rw [List.getElem?_cons_succ]; exact hp)
      rw [hsz] at this ⊢
      rw [List.drop_drop]
      rw [show 2 + j * 2 = (j + 1) * 2 by omega]
      exact this
    rw [List.flatMap_cons, ← reps_flat R _ hR, ← e0, List.take_append_drop]
/-- A row of replies of the call's own, in nodes. -/
theorem ownRp_of {w : World} {base : Nat} {v : Value} {R : List S77} {M a : Nat} (hM : M ≤ 40) (ha : a ≤ 40) (hR : Rok M a R) (h : Kd.R k77 77 w base (fun _ => True) v R) : OwnRp w base v (R.map fun s => rp s.f0.toNat s.f1.toNat) := by
  obtain ⟨_, cs, ho, hr⟩ := h
  have e := reps_flat R cs hr
  unfold OwnRp
  rw [List.length_map]
  have e2 : (R.map fun s => rp s.f0.toNat s.f1.toNat).flatMap encRp = cs := by
    rw [e, List.flatMap_map]
    rw [List.flatMap_def, List.flatMap_def]
    congr 1
    apply List.map_congr_left
    intro s hs
    have h1 := hR.2.1 s hs
    have x1 : (Fin.ofNat 64 s.f0.toNat).val = s.f0.toNat := Nat.mod_eq_of_lt (by omega)
    have x2 : (Fin.ofNat 64 s.f1.toNat).val = s.f1.toNat := Nat.mod_eq_of_lt (by omega)
    show [Value.int .i64 (((Fin.ofNat 64 s.f0.toNat).val : Nat) : Int), Value.int .i64 (((Fin.ofNat 64 s.f1.toNat).val : Nat) : Int)] = _
    rw [x1, x2, Int.toNat_of_nonneg h1.1, Int.toNat_of_nonneg h1.2.2.1]
  rw [e2]
  exact ho
/-- What strategy returns: a strategy whose parts are in order. -/
theorem strat_any (w0 : World) (g : Nat) (L : List Int) (M : Nat) (hM1 : 1 ≤ M) (hM : M ≤ 40) (l : List S54) (hl : l.length < 2 ^ 44) (A : Option Addr) (c : Nat) (hc : l.length ≤ c) (w : World) (hs : SrcS w0 g L w) (hB : Below w0.heap.size w0 w) (hr : ∀ W, KeepBut w W g none → Kd.C k54 W A l.length l) :
    Calls Tryd.prog 19 #[.pointer (some ⟨g, 0, none⟩), .agg #[.int .i64 (M : Int), .slice A l.length c]] w fun e w' => ∃ (game root : Nat) (who : Int) (rs : List Rp) (A4 : Option Addr) (c4 : Nat), e = .returned (.agg #[.int .i64 (game : Int), .int .i64 (root : Int), .int .i64 who, .slice A4 rs.length c4]) ∧ StrOk M game root who rs ∧ Aside0 (OwnRp w' w.heap.size (.slice A4 rs.length c4) rs) ∧ Aside0 (SrcS w0 g L w') ∧ Aside0 (Below w0.heap.size w0 w') ∧ Aside0 (KeepBut w w' g none) := by
  obtain ⟨a, hI, h0, h1, h2⟩ := hs
  obtain ⟨k, r1, r2, r3, R, q, hf, a1, a2, a3, a4, a5, a6, hR, q0, q1⟩ := st_some M hM1 hM L h2 l hl h0 h1
  refine (deliberationlaw25_strategy.calls k g L a (M : Int) A c l r1 r2 r3 R q w0 w hI hB hr hc hf).mono fun e w' ⟨v, he, hv, hI', hB', hK⟩ => ?_
  have ho := ownRp_of hM hM hR hv
  obtain ⟨A4, c4, e4, _⟩ := ho.reads
  subst e4
  refine ⟨r1.toNat, r2.toNat, r3, R.map fun s => rp s.f0.toNat s.f1.toNat, A4, c4, ?_, ⟨by omega, by omega, by omega, ?_, ?_⟩, ⟨ho⟩, ⟨⟨q, hI', q0, q1, h2⟩⟩, ⟨hB'⟩, ⟨hK⟩⟩
  · rw [he, Int.toNat_of_nonneg (by omega), Int.toNat_of_nonneg a3]
  · unfold SortR
    rw [List.pairwise_map]
    refine hR.1.imp_of_mem fun {p q} hp hq hlt => ?_
    have b1 := hR.2.1 p hp
    have b2 := hR.2.1 q hq
    have x1 : (Fin.ofNat 64 p.f0.toNat).val = p.f0.toNat := Nat.mod_eq_of_lt (by omega)
    have x2 : (Fin.ofNat 64 q.f0.toNat).val = q.f0.toNat := Nat.mod_eq_of_lt (by omega)
    show (Fin.ofNat 64 p.f0.toNat).val < (Fin.ofNat 64 q.f0.toNat).val
    omega
  · intro p hp
    obtain ⟨s, hs, rfl⟩ := List.mem_map.1 hp
    have b1 := hR.2.1 s hs
    have x1 : (Fin.ofNat 64 s.f0.toNat).val = s.f0.toNat := Nat.mod_eq_of_lt (by omega)
    have x2 : (Fin.ofNat 64 s.f1.toNat).val = s.f1.toNat := Nat.mod_eq_of_lt (by omega)
    show (Fin.ofNat 64 s.f0.toNat).val < M ∧ (Fin.ofNat 64 s.f1.toNat).val < M
    omega
end Go.Proofs.YtgboplcjafmliaaDoor.G

/- The two games of the sanity check, in plain terms. -/
namespace Go.Proofs.YtgboplcjafmliaaDoor.G
open Go.RowKit Go.Proofs.YtgboplcjafmliaaDoorW.PrintWords Go.Proofs.YtgboplcjafmliaaDoorW.PrintLast Go.Proofs.YtgboplcjafmliaaDoorW.PrintMore
open Go.Proofs.YtgboplcjafmliaaDoor.PAll
set_option linter.unusedVariables false
set_option linter.unusedSimpArgs false

def l0 : List S54 := [⟨0, 1⟩, ⟨1, 0⟩]
def n0 : NetD := netOf 2 l0
theorem n0_by0 : nth n0.by_ 0 = 2 := by kernel_rfl
theorem n0_by1 : nth n0.by_ 1 = 1 := by kernel_rfl
theorem gnd0 : gnd 2 n0 = 0 := by kernel_rfl
theorem q0_0 : qO 2 n0 0 = 1 := by kernel_rfl
theorem srch0 : srch n0 3 (2 ^ 0) = some 1 := by kernel_rfl
theorem pick0 : pickS n0 1 1 = 0 := by kernel_rfl
theorem tb1 (z : Nat) (h : (1 : Nat).testBit z = true) : z = 0 := by
  cases z with
  | zero => rfl
  | succ z => simp [Nat.testBit_succ] at h
theorem tb2 (z : Nat) (h : (2 : Nat).testBit z = true) : z = 1 := by
  cases z with
  | zero => simp at h
  | succ z => rw [Nat.testBit_succ] at h; have := tb1 z h; omega
theorem rco0 (x : Nat) : Rco n0 0 (qO 2 n0) x ↔ x = 0 := by
  constructor
  · intro h
    induction h with
    | root => rfl
    | step _ hz ih => subst ih; rw [q0_0, n0_by1] at hz; exact tb1 _ hz
  · rintro rfl; exact .root
theorem rc0 (x : Nat) (h : Rc n0 0 (pickS n0 1) x) : x = 0 := by
  induction h with
  | root => rfl
  | step _ hx ih => subst ih; rw [n0_by0] at hx; rw [tb2 _ hx]; exact pick0
theorem rca0 (x : Nat) : RcA n0 0 (pickS n0 1) x ↔ x = 1 := by
  constructor
  · rintro ⟨a, ha, hx⟩
    rw [rc0 a ha, n0_by0] at hx
    exact tb2 _ hx
  · rintro rfl
    exact ⟨0, .root, by rw [n0_by0]; rfl⟩
theorem awake_g {who : Int} {m : Nat} {pk : Nat → Nat} {g : Int} (hg : g = 1) (h : SolP 2 n0 0 g who m pk) : who = 2 ∧ m = 1 ∧ pk 0 = 1 := by
  cases h with
  | gp m h1 h2 => rw [gnd0] at h1; simp at h1
  | go m h1 h2 =>
    refine ⟨rfl, ?_, q0_0⟩
    apply Nat.eq_of_testBit_eq
    intro i
    rw [Bool.eq_iff_iff, h2 i, rco0]
    exact ⟨fun h => by subst h; rfl, tb1 i⟩
  | cp m s h1 h2 => cases hg
  | co pk h1 => cases hg
theorem awake_c {who : Int} {m : Nat} {pk : Nat → Nat} {g : Int} (hg : g = 2) (h : SolP 2 n0 0 g who m pk) : who = 1 ∧ m = 2 ∧ pk 1 = 0 := by
  cases h with
  | gp m h1 h2 => cases hg
  | go m h1 h2 => cases hg
  | cp m s h1 h2 =>
    rw [srch0] at h1
    injection h1 with h1
    subst h1
    refine ⟨rfl, ?_, pick0⟩
    apply Nat.eq_of_testBit_eq
    intro i
    rw [Bool.eq_iff_iff, h2 i, rca0]
    exact ⟨fun h => by subst h; rfl, tb2 i⟩
  | co pk h1 => rw [srch0] at h1; cases h1
theorem win_g : winB 2 n0 1 0 2 [rp 0 1] = true := by kernel_rfl
theorem win_c : winB 2 n0 2 0 1 [rp 1 0] = true := by kernel_rfl
theorem solE_g : solE 2 l0 1 0 = 0 := by kernel_rfl
theorem solE_c : solE 2 l0 2 0 = 0 := by kernel_rfl
theorem valE_0 : valE 2 l0 = 0 := by kernel_rfl
theorem str_g : StrOk 2 1 0 2 [rp 0 1] := ⟨by decide, .inl rfl, .inr rfl, by simp [SortR], by simp [rp]⟩
theorem str_c : StrOk 2 2 0 1 [rp 1 0] := ⟨by decide, .inr rfl, .inl rfl, by simp [SortR], by simp [rp]⟩
theorem bl1 : bl 1 = [0] := by kernel_rfl
theorem bl2 : bl 2 = [1] := by kernel_rfl
end Go.Proofs.YtgboplcjafmliaaDoor.G
