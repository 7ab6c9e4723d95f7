/- The contract of game.reply: a binary search in replies that are sorted. -/
import Derived.Test.YtgboplcjafmliaaDoorSQ5
import Derived.Test.YtgboplcjafmliaaDoorPAllx6
/- The contract of game.reply: a binary search in replies that are sorted. -/
namespace Go.Proofs.YtgboplcjafmliaaDoor.G
open Go.RowKit Go.Proofs.YtgboplcjafmliaaDoorW.PrintWords Go.Proofs.YtgboplcjafmliaaDoorW.PrintLast Go.Proofs.YtgboplcjafmliaaDoorW.PrintMore
open Go.Proofs.YtgboplcjafmliaaDoor.PAll
set_option linter.unusedVariables false
set_option linter.unusedSimpArgs false

def nthR (rs : List Rp) (i : Nat) : Rp := rs.getD i (0, 0)
theorem nthR_get (rs : List Rp) (i : Nat) (h : i < rs.length) : nthR rs i = rs[i] := by
  rw [nthR, List.getD_eq_getElem?_getD, List.getElem?_eq_getElem h]; rfl
theorem RdR.cell {w : World} {A : Option Addr} {c : Nat} {rs : List Rp} (h : RdR w A c rs) (i : Nat) (hi : i < rs.length) : ∃ ad, A = some ad ∧ w.cell? (ad.add (i * 2)) = some (.int .i64 (((nthR rs i).1.val : Nat) : Int)) ∧ w.cell? ⟨(ad.add (i * 2)).block, (ad.add (i * 2)).off + 1, none⟩ = some (.int .i64 (((nthR rs i).2.val : Nat) : Int)) := by
  obtain ⟨ad, h1, h2, h3⟩ := at_T77 h.2 (i : Int) (by omega) (by omega)
  have e : rd_T77 (rs.map s77) (i : Int) = s77 (nthR rs i) := by
    unfold rd_T77
    rw [Int.toNat_natCast, List.getD_eq_getElem?_getD, List.getElem?_map, List.getElem?_eq_getElem hi, nthR_get rs i hi]; rfl
  rw [e] at h2 h3
  exact ⟨ad, h1, by simpa [s77] using h2, by simpa [s77] using h3⟩
/-- Replies that are strictly sorted. -/
def SortR (rs : List Rp) : Prop := rs.Pairwise fun p q => p.1.val < q.1.val
/-- The reply to a node. -/
def rep (rs : List Rp) (t : Nat) : Option Nat := (rs.find? fun p => p.1.val == t).map fun p => p.2.val

theorem SortR.lt {rs : List Rp} (h : SortR rs) {i j : Nat} (hij : i < j) (hj : j < rs.length) : (nthR rs i).1.val < (nthR rs j).1.val := by
  rw [nthR_get rs i (by omega), nthR_get rs j hj]
  exact List.pairwise_iff_getElem.1 h i j (by omega) hj hij
theorem rep_at {rs : List Rp} (h : SortR rs) {i t : Nat} (hi : i < rs.length) (e : (nthR rs i).1.val = t) : rep rs t = some (nthR rs i).2.val := by
  unfold rep
  have : rs.find? (fun p => p.1.val == t) = some (nthR rs i) := by
    rw [List.find?_eq_some_iff_getElem]
    refine ⟨by simpa using e, i, hi, (nthR_get rs i hi).symm, fun j hj => ?_⟩
    have h1 := h.lt hj hi
    rw [nthR_get rs j (by omega)] at h1
    simp; omega
  rw [this]; rfl
theorem rep_none {rs : List Rp} {t : Nat} (h : ∀ i, i < rs.length → (nthR rs i).1.val ≠ t) : rep rs t = none := by
  unfold rep
  have : rs.find? (fun p => p.1.val == t) = none := by
    rw [List.find?_eq_none]
    intro p hp
    obtain ⟨i, hi, e⟩ := List.mem_iff_getElem.1 hp
    have := h i hi
    rw [nthR_get rs i hi, e] at this
    simpa using this
  rw [this]; rfl

set_option maxHeartbeats 400000 in
theorem cmp70 (a b t : Nat) (ha : a < 64) (ht : t < 64) (W : World) : Calls Tryd.prog 70 #[.agg #[.int .i64 (a : Int), .int .i64 (b : Int)], .int .i64 (t : Int)] W fun e w' => e = .returned (.int .i64 ((a : Int) - (t : Int))) ∧ Aside0 (Below W.heap.size W w') := by
  have h : IntKind.i64.wrap ((a : Int) - (t : Int)) = (a : Int) - (t : Int) := IntWalk.i64_in _ (by omega)
  have H := Aside0.mk h
  clear h
  go_enter Tryd.func70, Tryd.ntmps70
  go_wp2
  go_ret
  exact ⟨rfl, ⟨below_alloc (Below.refl _ _) _⟩⟩

set_option maxHeartbeats 4000000 in
theorem search70_any (rs : List Rp) (hn : rs.length < 1000) (hs : SortR rs) (t : Nat) (ht : t < 64) (A : Option Addr) (c : Nat) (w : World) (hr : RdR w A c rs) :
    Calls Tryd.prog 69 #[.slice A rs.length c, .int .i64 (t : Int), .func (.func 70) #[] #[]] w fun e w' => ∃ i : Nat, i ≤ rs.length ∧ (∀ k, k < i → (nthR rs k).1.val < t) ∧ (∀ k, i ≤ k → k < rs.length → t ≤ (nthR rs k).1.val) ∧ e = .returned (.tuple #[.int .i64 (i : Int), .bool (decide (i < rs.length ∧ (nthR rs i).1.val = t))]) ∧ Aside0 (Below w.heap.size w w') := by
  have HR := Aside0.mk hr
  have HSo := Aside0.mk hs
  clear hr hs
  have HB := Aside0.mk (St.refl w)
  go_enter Tryd.func69, Tryd.ntmps69
  go_wp2
  go_loopg [9, 10, 11] (rs.length + 1) (fun kk v9 v10 v11 w' => ∃ (i j : Nat), v9 = .int .i64 (i : Int) ∧ v10 = .int .i64 (j : Int) ∧ Aside0 (i ≤ j ∧ j ≤ rs.length ∧ j - i < kk) ∧ Aside0 (∀ k, k < i → (nthR rs k).1.val < t) ∧ Aside0 (∀ k, j ≤ k → k < rs.length → t ≤ (nthR rs k).1.val) ∧ Aside0 (St w [] w'))
  case atStart => exact ⟨0, rs.length, rfl, rfl, ⟨by omega⟩, ⟨fun k hk => by omega⟩, ⟨fun k hk hk2 => by omega⟩, HB⟩
  case round =>
    clear HB
    obtain ⟨i, j, rfl, rfl, HI, HL, HG, HW⟩ := hrel
    obtain ⟨kk, rfl⟩ : ∃ k, gk = k + 1 := ⟨gk - 1, by have := HI.out; omega⟩
    by_cases hlt : i < j
    · obtain ⟨h, hh⟩ : ∃ h, (i + j) / 2 = h := ⟨_, rfl⟩
      have hh1 : i ≤ h := by omega
      have hh2 : h < j := by omega
      have hjn := HI.out.2.1
      have hhn : h < rs.length := by omega
      obtain ⟨ad, rfl, hc0, hc1⟩ := (HR.out.below HW.out.hb).cell h hhn
      obtain ⟨a, haa⟩ : ∃ a, (nthR rs h).1.val = a := ⟨_, rfl⟩
      obtain ⟨b, hbb⟩ : ∃ b, (nthR rs h).2.val = b := ⟨_, rfl⟩
      have ha64 : a < 64 := by rw [← haa]; exact (nthR rs h).1.isLt
      rw [haa] at hc0
      rw [hbb] at hc1
      have HAa := Aside0.mk haa
      have HHh := Aside0.mk hh
      clear haa hbb
      by_cases hd : a < t
      · have e1 : decide ((a : Int) - (t : Int) < 0) = true := decide_eq_true (by omega)
        have HL2 : Aside0 (∀ k, k < h + 1 → (nthR rs k).1.val < t) := ⟨fun k hk => by
          rcases Nat.lt_succ_iff_lt_or_eq.1 hk with h1 | h1
          · have := HSo.out.lt h1 hhn; have := HAa.out; omega
          · rw [h1, HAa.out]; exact hd⟩
        clear hd
        go_wp2
        go_roundg kk
        case measure => omega
        case rel => exact ⟨h + 1, j, by rw [← HHh.out]; rfl, rfl, ⟨by omega, hjn, by have := HI.out; omega⟩, HL2, HG, ⟨HW.out.nx (below_alloc (Below.refl _ _) _)⟩⟩
      · have e1 : decide ((a : Int) - (t : Int) < 0) = false := decide_eq_false (by omega)
        have HG2 : Aside0 (∀ k, h ≤ k → k < rs.length → t ≤ (nthR rs k).1.val) := ⟨fun k hk hk2 => by
          rcases Nat.eq_or_lt_of_le hk with h1 | h1
          · rw [← h1, HAa.out]; omega
          · have := HSo.out.lt h1 hk2; have := HAa.out; omega⟩
        clear hd
        go_wp2
        go_roundg kk
        case measure => omega
        case rel => exact ⟨i, h, rfl, by rw [← HHh.out]; rfl, ⟨hh1, by omega, by have := HI.out; omega⟩, HL, HG2, ⟨HW.out.nx (below_alloc (Below.refl _ _) _)⟩⟩
    · have hij : i = j := by have := HI.out.1; omega
      subst hij
      have hin := HI.out.2.1
      by_cases hil : i < rs.length
      · have e0 : decide ((i : Int) < (rs.length : Int)) = true := decide_eq_true (by omega)
        have e00 : decide (i < rs.length) = true := decide_eq_true hil
        obtain ⟨ad, rfl, hc0, hc1⟩ := (HR.out.below HW.out.hb).cell i hil
        obtain ⟨a, haa⟩ : ∃ a, (nthR rs i).1.val = a := ⟨_, rfl⟩
        obtain ⟨b, hbb⟩ : ∃ b, (nthR rs i).2.val = b := ⟨_, rfl⟩
        have ha64 : a < 64 := by rw [← haa]; exact (nthR rs i).1.isLt
        rw [haa] at hc0
        rw [hbb] at hc1
        have HAa := Aside0.mk haa
        clear haa hbb
        go_wp2
        go_ret2
        refine ⟨i, hin, HL.out, HG.out, ?_, ⟨(HW.out.nx (below_alloc (Below.refl _ _) _)).hb⟩⟩
        have e : ((a : Int) - (t : Int) == 0) = decide (i < rs.length ∧ (nthR rs i).1.val = t) := by
          rw [HAa.out, Bool.eq_iff_iff, beq_iff_eq, decide_eq_true_eq]
          omega
        rw [← e]
        rfl
      · have e0 : decide ((i : Int) < (rs.length : Int)) = false := decide_eq_false (by omega)
        have e00 : decide (i < rs.length) = false := decide_eq_false hil
        go_wp2
        go_ret2
        refine ⟨i, hin, HL.out, HG.out, ?_, ⟨HW.out.hb⟩⟩
        rw [show decide (i < rs.length ∧ (nthR rs i).1.val = t) = false from decide_eq_false (fun h => hil h.1)]
        rfl
/-- The two results of reply. -/
def repV (o : Option Nat) : Value := .tuple #[.int .i64 ((o.getD 0 : Nat) : Int), .bool o.isSome]
set_option maxHeartbeats 4000000 in
theorem reply_any (rs : List Rp) (hn : rs.length < 1000) (hs : SortR rs) (t : Nat) (ht : t < 64) (A : Option Addr) (c : Nat) (x y z : Int) (w : World) (hr : RdR w A c rs) :
    Calls Tryd.prog 47 #[.agg #[.int .i64 x, .int .i64 y, .int .i64 z, .slice A rs.length c], .int .i64 (t : Int)] w fun e w' => e = .returned (repV (rep rs t)) ∧ Aside0 (Below w.heap.size w w') := by
  have HR := Aside0.mk hr
  have HSo := Aside0.mk hs
  have HS := Aside0.mk (fun W h => search70_any rs hn hs t ht A c W h)
  clear hr hs
  have HB := Aside0.mk (St.refl w)
  go_enter Tryd.func47, Tryd.ntmps47
  go_upto_if 16 with (first | ((with_reducible refine gate_dst (N := 2) rfl ?_); refine box_st (w := w) 2 #[.int .i64 x, .int .i64 y, .int .i64 z, .slice A rs.length c] 33 rfl rfl ?hr HB.out ?_; (case hr => go_simp; done); clear HB; intro g w1 HB GE; have hg3 := (HB.out.at_ (List.mem_cons_self) 3).trans rfl) | (go_at_call 69; refine (HS.out _ (HR.out.below HB.out.hb)).mono ?_; rintro e w2 ⟨i, hi, h1, h2, rfl, hb⟩; obtain ⟨b, hbq⟩ : ∃ b, decide (i < rs.length ∧ (nthR rs i).1.val = t) = b := ⟨_, rfl⟩; rw [hbq]; have HBq := Aside0.mk hbq; clear hbq; have HL := Aside0.mk h1; have HG := Aside0.mk h2; have HB2 := Aside0.mk (HB.out.nx hb.out); clear HB hb hg3 h1 h2))
  cases b with
  | true =>
    have hq := of_decide_eq_true HBq.out
    have hil := hq.1
    have HRep := Aside0.mk (rep_at HSo.out hil hq.2)
    obtain ⟨ad, rfl, hc0, hc1⟩ := (HR.out.below HB2.out.hb).cell i hil
    have hg3 := (HB2.out.at_ (List.mem_cons_self) 3).trans rfl
    clear hq
    go_wp2
    go_ret2
    exact ⟨by rw [HRep.out]; rfl, ⟨HB2.out.hb⟩⟩
  | false =>
    have HRep : Aside0 (rep rs t = none) := ⟨rep_none fun k hk => by
      have hq := of_decide_eq_false HBq.out
      rcases Nat.lt_trichotomy k i with h | h | h
      · have := HL.out k h; omega
      · rw [h]; intro h2; exact hq ⟨by omega, h2⟩
      · have h1 := HG.out i (Nat.le_refl _) (by omega)
        have := HSo.out.lt h hk; omega⟩
    go_wp2
    go_ret2
    exact ⟨by rw [HRep.out]; rfl, ⟨HB2.out.hb⟩⟩
end Go.Proofs.YtgboplcjafmliaaDoor.G

/- The contract of the checker's visit, and what it computes. -/
namespace Go.Proofs.YtgboplcjafmliaaDoor.G
open Go.RowKit Go.Proofs.YtgboplcjafmliaaDoorW.PrintWords Go.Proofs.YtgboplcjafmliaaDoorW.PrintLast Go.Proofs.YtgboplcjafmliaaDoorW.PrintMore
open Go.Proofs.YtgboplcjafmliaaDoor.PAll
set_option linter.unusedVariables false
set_option linter.unusedSimpArgs false

/-- Two blocks may have been written, what else was there is there. -/
structure Kp (g h : Nat) (w x : World) : Prop where
  os : x.os = w.os
  tape : x.tape = w.tape
  output : x.output = w.output
  size : w.heap.size ≤ x.heap.size
  block : ∀ k, k < w.heap.size → k ≠ g → k ≠ h → x.heap[k]? = w.heap[k]?
theorem Kp.refl (g h : Nat) (w : World) : Kp g h w w := ⟨rfl, rfl, rfl, Nat.le_refl _, fun _ _ _ _ => rfl⟩
theorem Kp.trans {g h : Nat} {w x y : World} (a : Kp g h w x) (b : Kp g h x y) : Kp g h w y :=
  ⟨b.os.trans a.os, b.tape.trans a.tape, b.output.trans a.output, Nat.le_trans a.size b.size, fun k hk h1 h2 => (b.block k (Nat.lt_of_lt_of_le hk a.size) h1 h2).trans (a.block k hk h1 h2)⟩
theorem Kp.of {g h : Nat} {w x : World} (a : Below w.heap.size w x) : Kp g h w x := ⟨a.os, a.tape, a.output, a.size, fun k hk _ _ => a.block k hk⟩
theorem Kp.setg {g h : Nat} (w : World) (i : Nat) (v : Value) : Kp g h w (w.setCell ⟨g, i, none⟩ v) :=
  ⟨rfl, rfl, rfl, by simp, fun k _ h1 _ => heap_setCell_other w _ k v h1⟩
theorem Kp.seth {g h : Nat} (w : World) (i : Nat) (v : Value) : Kp g h w (w.setCell ⟨h, i, none⟩ v) :=
  ⟨rfl, rfl, rfl, by simp, fun k _ _ h2 => heap_setCell_other w _ k v h2⟩
theorem Kp.below {g h B : Nat} {w x : World} (a : Kp g h w x) (hg : B ≤ g) (hh : B ≤ h) (hB : B ≤ w.heap.size) : Below B w x :=
  ⟨a.os, a.tape, a.output, a.size, fun k hk => a.block k (by omega) (by omega) (by omega)⟩
theorem Kp.blk {g h : Nat} {w x : World} (a : Kp g h w x) {k : Nat} {cs cs' cs'' : Array Value} {t t' t'' : TypeId} (hk : w.heap[k]? = some (.cells cs t (0, 0))) (hg : w.heap[g]? = some (.cells cs' t' (0, 0))) (hh : w.heap[h]? = some (.cells cs'' t'' (0, 0))) (h1 : t ≠ t') (h2 : t ≠ t'') : x.heap[k]? = some (.cells cs t (0, 0)) := by
  rw [a.block k (blk_lt hk) (fun e => by subst e; rw [hk] at hg; injection hg with hg; injection hg with _ hg; exact h1 hg) (fun e => by subst e; rw [hk] at hh; injection hh with hh; injection hh with _ hh; exact h2 hh)]
  exact hk
theorem OwnI.kp {g h : Nat} {w x : World} {base : Nat} {v : Value} {l : List Nat} (o : OwnI w base v l) (a : Kp g h w x) (hg : g < base) (hh : h < base) : OwnI x base v l := by
  obtain ⟨h1, h2⟩ := o
  refine ⟨h1, ?_⟩
  rcases h2 with h2 | ⟨b, cap, cur, rfl, hb, hk, r⟩
  · exact .inl h2
  · exact .inr ⟨b, cap, cur, rfl, hb, (a.block b (blk_lt hk) (by omega) (by omega)).trans hk, r⟩
theorem OwnRp.kp {g h : Nat} {w x : World} {base : Nat} {v : Value} {rs : List Rp} (o : OwnRp w base v rs) (a : Kp g h w x) {cs' cs'' : Array Value} {t' t'' : TypeId} (hg : w.heap[g]? = some (.cells cs' t' (0, 0))) (hh : w.heap[h]? = some (.cells cs'' t'' (0, 0))) (h1 : 77 ≠ t') (h2 : 77 ≠ t'') : OwnRp x base v rs := by
  obtain ⟨h3, h4⟩ := o
  refine ⟨h3, ?_⟩
  rcases h4 with h4 | ⟨b, cap, cur, rfl, hb, hk, r⟩
  · exact .inl h4
  · exact .inr ⟨b, cap, cur, rfl, hb, a.blk hk hg hh h1 h2, r⟩

/-- Numbers in a block. -/
def i64s (l : List Nat) : Array Value := ((up l).map fun x => Value.int .i64 x).toArray
theorem i64s_get (l : List Nat) (i : Nat) (h : i < l.length) : (i64s l)[i]? = some (.int .i64 ((nth l i : Nat) : Int)) := by
  simp only [i64s, up, List.getElem?_toArray, List.getElem?_map, nth, List.getD_eq_getElem?_getD, List.getElem?_eq_getElem h]
  rfl
theorem i64s_set (l : List Nat) (t f : Nat) : (i64s l).setIfInBounds t (.int .i64 (f : Int)) = i64s (l.set t f) := by
  simp [i64s, up, List.map_set]

/-- What the checker knows, and where. -/
structure CkD where
  N : Nat
  n : NetD
  b1 : Nat
  b2 : Nat
  game : Int
  root : Nat
  who : Int
  A : Option Addr
  c : Nat
  base : Nat
  rs : List Rp
  g : Nat
  h : Nat
structure CkD.Ok (d : CkD) : Prop where
  ok : d.n.Ok d.N
  root : d.root < d.N
  game : d.game = 1 ∨ d.game = 2
  who : d.who = 1 ∨ d.who = 2
  so : SortR d.rs
  lt : ∀ p, p ∈ d.rs → p.1.val < d.N ∧ p.2.val < d.N
  rn : d.rs.length < 1000
  g0 : 0 < d.g
  h0 : 0 < d.h
def CkD.cells (d : CkD) (reached : Nat) : Array Value := #[.int .u64 (d.n.all : Int), .slice (some ⟨d.b1, 0, none⟩) d.N d.N, .slice (some ⟨d.b2, 0, none⟩) d.N d.N, .int .i64 d.game, .int .i64 (d.root : Int), .int .i64 d.who, .slice d.A d.rs.length d.c, .int .u64 (reached : Int), .slice (some ⟨d.h, 0, none⟩) d.N d.N]
structure CS where
  reached : Nat
  st : List Nat
structure CkS (d : CkD) (s : CS) (x : World) : Prop where
  tab : TabW x
  b1 : x.heap[d.b1]? = some (.cells (u64s d.n.by_) 61 (0, 0))
  b2 : x.heap[d.b2]? = some (.cells (u64s d.n.out) 61 (0, 0))
  rp : OwnRp x d.base (.slice d.A d.rs.length d.c) d.rs
  g : x.heap[d.g]? = some (.cells (d.cells s.reached) 84 (0, 0))
  h : x.heap[d.h]? = some (.cells (i64s s.st) 3 (0, 0))
  len : s.st.length = d.N
  lt : s.reached < 2 ^ d.N
theorem CkS.kp {d : CkD} {s t : CS} {x y : World} (a : CkS d s x) (ho : d.Ok) (k : Kp d.g d.h x y) (hg : y.heap[d.g]? = some (.cells (d.cells t.reached) 84 (0, 0))) (hh : y.heap[d.h]? = some (.cells (i64s t.st) 3 (0, 0))) (hl : t.st.length = d.N) (hr : t.reached < 2 ^ d.N) : CkS d t y :=
  ⟨a.tab.below (B := 1) (by omega) (k.below ho.g0 ho.h0 a.tab.2), k.blk a.b1 a.g a.h (by decide) (by decide), k.blk a.b2 a.g a.h (by decide) (by decide), a.rp.kp k a.g a.h (by decide) (by decide), hg, hh, hl, hr⟩
theorem CkS.nx {d : CkD} {s : CS} {x y : World} (a : CkS d s x) (hb : Below x.heap.size x y) : CkS d s y :=
  ⟨a.tab.below a.tab.2 hb, blk_grown a.b1 (grown_of_below hb none) (by simp), blk_grown a.b2 (grown_of_below hb none) (by simp), a.rp.below hb, blk_grown a.g (grown_of_below hb none) (by simp), blk_grown a.h (grown_of_below hb none) (by simp), a.len, a.lt⟩
theorem CkS.drew {d : CkD} {s : CS} {x : World} (a : CkS d s x) : CkS d s x.drew := a.nx (Below.refl _ _).drew
theorem CkS.at_ {d : CkD} {s : CS} {x : World} (a : CkS d s x) (i : Nat) : x.cell? ⟨d.g, i, none⟩ = (d.cells s.reached)[i]? := blk_cell a.g i
theorem CkS.hat {d : CkD} {s : CS} {x : World} (a : CkS d s x) (i : Nat) (hi : i < d.N) : x.cell? ⟨d.h, i, none⟩ = some (.int .i64 ((nth s.st i : Nat) : Int)) := (blk_cell a.h i).trans (i64s_get _ _ (by rw [a.len]; exact hi))
theorem CkS.bat {d : CkD} {s : CS} {x : World} (a : CkS d s x) (ho : d.Ok) (i : Nat) (hi : i < d.N) : x.cell? ⟨d.b1, i, none⟩ = some (.int .u64 ((nth d.n.by_ i : Nat) : Int)) := (blk_cell a.b1 i).trans (u64s_get _ _ (by rw [ho.ok.hb]; exact hi))
theorem CkS.ne {d : CkD} {s : CS} {x : World} (a : CkS d s x) : d.g ≠ d.h := fun e => by
  have h1 := a.g
  have h2 := a.h
  rw [e] at h1
  rw [h1] at h2
  injection h2 with h2
  injection h2 with _ h2
  exact absurd h2 (by decide)
/-- A node of the state is set. -/
theorem CkS.seth {d : CkD} {s : CS} {x : World} (a : CkS d s x) (ho : d.Ok) (i v : Nat) : CkS d ⟨s.reached, s.st.set i v⟩ (x.setCell ⟨d.h, i, none⟩ (.int .i64 (v : Int))) := by
  refine a.kp ho (Kp.seth x i _) ?_ ?_ (by simpa using a.len) a.lt
  · rw [heap_setCell_other x _ d.g _ (fun e => by have h1 := a.g; have h2 := a.h; change d.g = d.h at e; rw [e] at h1; rw [h1] at h2; injection h2 with h2; injection h2 with _ h2; exact absurd h2 (by decide))]
    exact a.g
  · rw [heap_setCell_same x d.h i (i64s s.st) 3 _ a.h, i64s_set]
theorem CkS.setr {d : CkD} {s : CS} {x : World} (a : CkS d s x) (ho : d.Ok) (r : Nat) (hr : r < 2 ^ d.N) : CkS d ⟨r, s.st⟩ (x.setCell ⟨d.g, 7, none⟩ (.int .u64 (r : Int))) := by
  refine a.kp ho (Kp.setg x 7 _) ?_ ?_ a.len hr
  · rw [heap_setCell_same x d.g 7 (d.cells s.reached) 84 _ a.g]; rfl
  · rw [heap_setCell_other x _ d.h _ (fun e => by have h1 := a.g; have h2 := a.h; change d.h = d.g at e; rw [← e] at h1; rw [h1] at h2; injection h2 with h2; injection h2 with _ h2; exact absurd h2 (by decide))]
    exact a.h

/-- What visit computes, with a bound on the depth. -/
def vStep (n : NetD) (rs : List Rp) (game : Int) (rec : Nat → CS → Bool × CS) : List Nat → CS → Bool × CS
  | [], s => (true, s)
  | x :: L, s => match rep rs x with
    | none => (false, s)
    | some y => if (nth n.by_ x).testBit y = true then
        (if nth s.st y = 1 ∧ game = 1 then (false, s)
         else if nth s.st y = 0 then (if (rec y s).1 = true then vStep n rs game rec L (rec y s).2 else rec y s) else vStep n rs game rec L s)
      else (false, s)
def vFin (node : Nat) (r : Bool × CS) : Bool × CS := if r.1 = true then (true, ⟨r.2.reached, r.2.st.set node 2⟩) else r
def vis (n : NetD) (rs : List Rp) (game : Int) : Nat → Nat → CS → Bool × CS
  | 0, _, s => (false, s)
  | f + 1, node, s => vFin node (vStep n rs game (vis n rs game f) (bl (nth n.by_ node)) ⟨s.reached ||| 2 ^ node, s.st.set node 1⟩)
theorem rep_mem {rs : List Rp} {t y : Nat} (h : rep rs t = some y) : ∃ p, p ∈ rs ∧ p.1.val = t ∧ p.2.val = y := by
  unfold rep at h
  obtain ⟨p, hp, e⟩ := Option.map_eq_some_iff.1 h
  exact ⟨p, List.mem_of_find?_eq_some hp, by have := List.find?_some hp; simpa using this, e⟩
/-- The nodes that have not been visited. -/
def zeros (s : CS) : Nat := s.st.countP fun x => x == 0

theorem zeros_set (r : Nat) {st : List Nat} {y : Nat} (hy : y < st.length) (h : nth st y = 0) : zeros ⟨r, st.set y 1⟩ < zeros ⟨r, st⟩ := by
  unfold zeros
  have h1 : st[y] = 0 := by rw [← nth_get st y hy]; exact h
  have h2 : 0 < st.countP fun x => x == 0 := List.countP_pos_iff.2 ⟨st[y], List.getElem_mem hy, by rw [h1]; rfl⟩
  show (st.set y 1).countP (fun x => x == 0) < st.countP (fun x => x == 0)
  rw [List.countP_set hy, h1]
  simp
  omega
theorem zeros_two (s : CS) (y : Nat) : zeros ⟨s.reached, s.st.set y 2⟩ ≤ zeros s := by
  unfold zeros
  by_cases hy : y < s.st.length
  · show (s.st.set y 2).countP (fun x => x == 0) ≤ s.st.countP (fun x => x == 0)
    rw [List.countP_set hy]
    simp
  · rw [List.set_eq_of_length_le (by omega)]; exact Nat.le_refl _
set_option maxHeartbeats 8000000 in
set_option maxRecDepth 100000 in
theorem visit_any (d : CkD) (ho : d.Ok) : ∀ (f node : Nat) (s : CS) (hn : node < d.N) (hz : zeros ⟨s.reached, s.st.set node 1⟩ < f) (w : World) (hc : CkS d s w),
    Calls Tryd.prog 63 #[.pointer (some ⟨d.g, 0, none⟩), .int .i64 (node : Int)] w fun e w' => e = .returned (.bool (vis d.n d.rs d.game f node s).1) ∧ Aside0 (CkS d (vis d.n d.rs d.game f node s).2 w') ∧ Aside0 (Kp d.g d.h w w') ∧ Aside0 (zeros (vis d.n d.rs d.game f node s).2 ≤ zeros ⟨s.reached, s.st.set node 1⟩) := by
  have HOd := Aside0.mk ho
  clear ho
  intro f
  induction f with
  | zero => intro node s hn hz; omega
  | succ f ih =>
    intro node s hn hz w hc
    have IH := Aside0.mk ih
    have HZ := Aside0.mk hz
    have HC := Aside0.mk hc
    clear ih hz hc
    have hN := HOd.out.ok.hN
    have hg8 : w.cell? ⟨d.g, 8, none⟩ = some (.slice (some ⟨d.h, 0, none⟩) d.N d.N) := HC.out.at_ 8
    have hg7 : w.cell? ⟨d.g, 7, none⟩ = some (.int .u64 (s.reached : Int)) := HC.out.at_ 7
    have hh := HC.out.hat node hn
    have hfh : w.frozen? ⟨d.h, node, none⟩ = false := blk_frozen HC.out.h node
    have hfg : w.frozen? ⟨d.g, 7, none⟩ = false := blk_frozen HC.out.g 7
    have hni : (node : Int) < (d.N : Int) := by omega
    have HWi := Aside0.mk (fun W : World => with_any s.reached node (p64 HOd.out.ok.hN HC.out.lt) (by omega) W)
    have hne : d.g ≠ d.h := HC.out.ne
    have hne2 : d.h ≠ d.g := Ne.symm hne
    go_enter Tryd.func63, Tryd.ntmps63
    go_upto_region 1 with fail
    have hrl : s.reached ||| 2 ^ node < 2 ^ d.N := Nat.or_lt_two_pow HC.out.lt (Nat.pow_lt_pow_right (by omega) hn)
    have HC1 := Aside0.mk ((HC.out.seth HOd.out node 1).setr HOd.out (s.reached ||| 2 ^ node) hrl).drew
    have HK1 : Aside0 (Kp d.g d.h w ((w.setCell ⟨d.h, node, none⟩ (.int .i64 1)).setCell ⟨d.g, 7, none⟩ (.int .u64 ((s.reached ||| 2 ^ node : Nat) : Int))).drew) := ⟨((Kp.seth w node _).trans (Kp.setg _ 7 _)).trans (Kp.of (Below.refl _ _).drew)⟩
    go_cut [4] (fun s4 wx => s4 = .bool false ∧ Aside0 (CkS d ⟨s.reached ||| 2 ^ node, s.st.set node 1⟩ wx) ∧ Aside0 (Kp d.g d.h w wx))
    case first =>
      go_region_with ((go_at_call 28; refine (HWi.out _).mono ?_; rintro e w' ⟨rfl, rfl⟩))
      all_goals (go_wp2_with fail; go_meet)
      all_goals exact ⟨rfl, ⟨HC1.out⟩, HK1⟩
    case rest =>
      obtain ⟨rfl, HC, HK⟩ := hcut
      clear hg8 hg7 hh hfh hfg HWi HC1 HK1 hrl
      obtain ⟨s1, hs1⟩ : ∃ s1, (⟨s.reached ||| 2 ^ node, s.st.set node 1⟩ : CS) = s1 := ⟨_, rfl⟩
      have HVis : Aside0 (vis d.n d.rs d.game (f + 1) node s = vFin node (vStep d.n d.rs d.game (vis d.n d.rs d.game f) (bl (nth d.n.by_ node)) s1)) := ⟨by rw [← hs1, vis]⟩
      have HZ1 : Aside0 (zeros ⟨s.reached, s.st.set node 1⟩ = zeros s1) := ⟨by rw [← hs1]; rfl⟩
      rw [HZ1.out] at HZ
      rw [hs1] at HC
      clear hs1
      have hg1 : wc.cell? ⟨d.g, 1, none⟩ = some (.slice (some ⟨d.b1, 0, none⟩) d.N d.N) := HC.out.at_ 1
      have hb1 := HC.out.bat HOd.out node hn
      go_wp2_with (first | (go_at_call 43; refine (list_own (nth d.n.by_ node) (p64 HOd.out.ok.hN (HOd.out.ok.lb node)) _ HC.out.tab).mono ?_; rintro e w2 ⟨v32, rfl, HL, hb⟩; obtain ⟨A32, c32, rfl⟩ := own_slice HL.out))
      have HC2 := Aside0.mk (HC.out.nx hb.out)
      have HK2 := Aside0.mk (HK.out.trans (Kp.of hb.out))
      have HBs : Aside0 (d.g < wc.heap.size ∧ d.h < wc.heap.size) := ⟨blk_lt HC.out.g, blk_lt HC.out.h⟩
      have HL2 : Aside0 (OwnI w2 wc.heap.size (.slice A32 (bl (nth d.n.by_ node)).length c32) (bl (nth d.n.by_ node))) := ⟨HL.out⟩
      have hl64 := bl_length (nth d.n.by_ node)
      clear HC HK hb HL hg1 hb1
      go_loopw [6, 7, 8, 34] (fun v6 v7 v8 v34 w' => ∃ (j : Nat) (sc : CS), v34 = .int .i64 (j : Int) ∧ j ≤ (bl (nth d.n.by_ node)).length ∧ Aside0 (CkS d sc w') ∧ Aside0 (Kp d.g d.h w w') ∧ Aside0 (OwnI w' wc.heap.size (.slice A32 (bl (nth d.n.by_ node)).length c32) (bl (nth d.n.by_ node))) ∧ Aside0 (vStep d.n d.rs d.game (vis d.n d.rs d.game f) ((bl (nth d.n.by_ node)).drop j) sc = vStep d.n d.rs d.game (vis d.n d.rs d.game f) (bl (nth d.n.by_ node)) s1) ∧ Aside0 (zeros sc ≤ zeros s1)) (fun _ _ _ v34 _ => (bl (nth d.n.by_ node)).length - (intOf v34).toNat)
      case atStart => exact ⟨0, s1, rfl, Nat.zero_le _, HC2, HK2, HL2, ⟨rfl⟩, ⟨Nat.le_refl _⟩⟩
      case round =>
        clear HC2 HK2 HL2
        obtain ⟨j, sc, rfl, hj, HC, HK, HL, HE, HZc⟩ := hrel
        by_cases hlt : j < (bl (nth d.n.by_ node)).length
        · obtain ⟨A', c', he, hr⟩ := HL.out.reads
          injection he with e1 e2 e3
          subst e1 e3
          obtain ⟨ad32, rfl, hc32⟩ := hr.cell j hlt
          have hx := bl_in HOd.out.ok.hN (HOd.out.ok.lb node) (nth_mem _ j hlt)
          have HD := Aside0.mk (nth_drop (bl (nth d.n.by_ node)) j hlt)
          clear hr
          generalize nth (bl (nth d.n.by_ node)) j = x at *
          have hx64 : x < 64 := by omega
          obtain ⟨A4, c4, he, hrd⟩ := HC.out.rp.reads
          injection he with e1 e2 e3
          have HRp := Aside0.mk (fun W (hW : RdR W A4 c4 d.rs) => reply_any d.rs HOd.out.rn HOd.out.so x hx64 A4 c4 d.game (d.root : Int) d.who W hW)
          have hg3 : wr.cell? ⟨d.g, 3, none⟩ = some (.int .i64 d.game) := HC.out.at_ 3
          have hg4 : wr.cell? ⟨d.g, 4, none⟩ = some (.int .i64 (d.root : Int)) := HC.out.at_ 4
          have hg5 : wr.cell? ⟨d.g, 5, none⟩ = some (.int .i64 d.who) := HC.out.at_ 5
          have hg6 : wr.cell? ⟨d.g, 6, none⟩ = some (.slice A4 d.rs.length c4) := by rw [← e1, ← e3]; exact HC.out.at_ 6
          have HRd := Aside0.mk hrd
          clear hrd e1 e2 e3
          cases hrep : rep d.rs x with
          | none =>
            have HRe := Aside0.mk hrep
            rw [hrep] at HRp
            unfold repV at HRp
            clear hrep
            have hno : (none : Option Nat).isSome = false := rfl
            go_wp2_with (first | (go_at_call 47; refine (HRp.out _ HRd.out).mono ?_; rintro e w3 ⟨rfl, hb⟩))
            go_ret
            have HV : vis d.n d.rs d.game (f + 1) node s = (false, sc) := by
              rw [HVis.out, ← HE.out, HD.out, vStep, HRe.out]; rfl
            rw [HV]
            exact ⟨rfl, ⟨HC.out.nx hb.out⟩, ⟨HK.out.trans (Kp.of hb.out)⟩, ⟨by rw [HZ1.out]; exact HZc.out⟩⟩
          | some y =>
            have HRe := Aside0.mk hrep
            obtain ⟨p, hpm, hp1, hp2⟩ := rep_mem hrep
            have hy : y < d.N := by rw [← hp2]; exact (HOd.out.lt p hpm).2
            rw [hrep] at HRp
            unfold repV at HRp
            clear hrep hpm hp1 hp2 p
            have hno : (some y : Option Nat).isSome = true := rfl
            have hyi : (y : Int) < (d.N : Int) := by omega
            have hxi : (x : Int) < (d.N : Int) := by omega
            have HHas := Aside0.mk (fun W : World => has_any (nth d.n.by_ x) y (p64 HOd.out.ok.hN (HOd.out.ok.lb x)) (by omega) W)
            obtain ⟨t, htt⟩ : ∃ t, nth sc.st y = t := ⟨_, rfl⟩
            have HTt := Aside0.mk htt
            cases hby : (nth d.n.by_ x).testBit y with
            | false =>
              rw [hby] at HHas
              have HBy := Aside0.mk hby
              clear hby htt
              go_wp2_with (first | (go_at_call 47; refine (HRp.out _ HRd.out).mono ?_; rintro e w3 ⟨rfl, hb⟩; have HC3 := Aside0.mk (HC.out.nx hb.out); have HK3 := Aside0.mk (HK.out.trans (Kp.of hb.out)); have HL3 := Aside0.mk (HL.out.below hb.out); clear HC HK HL hb hg3 hg4 hg5 hg6 hc32; have hg1 : w3.cell? ⟨d.g, 1, none⟩ = some (.slice (some ⟨d.b1, 0, none⟩) d.N d.N) := HC3.out.at_ 1; have hb1 := HC3.out.bat HOd.out x hx; have hg3 : w3.cell? ⟨d.g, 3, none⟩ = some (.int .i64 d.game) := HC3.out.at_ 3; have hg8 : w3.cell? ⟨d.g, 8, none⟩ = some (.slice (some ⟨d.h, 0, none⟩) d.N d.N) := HC3.out.at_ 8; have hh := HC3.out.hat y hy; rw [HTt.out] at hh) | (go_at_call 46; refine (HHas.out _).mono ?_; rintro e w' ⟨rfl, rfl⟩))
              go_ret
              have HV : vis d.n d.rs d.game (f + 1) node s = (false, sc) := by
                rw [HVis.out, ← HE.out, HD.out, vStep, HRe.out]; simp only [HBy.out]; rfl
              rw [HV]
              exact ⟨rfl, HC3, HK3, ⟨by rw [HZ1.out]; exact HZc.out⟩⟩
            | true =>
              rw [hby] at HHas
              have HBy := Aside0.mk hby
              clear hby
              by_cases ht1 : t = 1
              · have q1 : ((t : Int) == 1) = true := by rw [beq_iff_eq]; omega
                have q0 : ((t : Int) == 0) = false := by rw [beq_eq_false_iff_ne]; omega
                by_cases hga : d.game = 1
                · have q2 : (d.game == 1) = true := by rw [beq_iff_eq]; exact hga
                  have HV : Aside0 (vis d.n d.rs d.game (f + 1) node s = (false, sc)) := ⟨by
                    rw [HVis.out, ← HE.out, HD.out, vStep, HRe.out]; simp only [HBy.out, htt, ht1, hga]; rfl⟩
                  clear hga ht1 htt
                  go_wp2_with (first | (go_at_call 47; refine (HRp.out _ HRd.out).mono ?_; rintro e w3 ⟨rfl, hb⟩; have HC3 := Aside0.mk (HC.out.nx hb.out); have HK3 := Aside0.mk (HK.out.trans (Kp.of hb.out)); have HL3 := Aside0.mk (HL.out.below hb.out); clear HC HK HL hb hg3 hg4 hg5 hg6 hc32; have hg1 : w3.cell? ⟨d.g, 1, none⟩ = some (.slice (some ⟨d.b1, 0, none⟩) d.N d.N) := HC3.out.at_ 1; have hb1 := HC3.out.bat HOd.out x hx; have hg3 : w3.cell? ⟨d.g, 3, none⟩ = some (.int .i64 d.game) := HC3.out.at_ 3; have hg8 : w3.cell? ⟨d.g, 8, none⟩ = some (.slice (some ⟨d.h, 0, none⟩) d.N d.N) := HC3.out.at_ 8; have hh := HC3.out.hat y hy; rw [HTt.out] at hh) | (go_at_call 46; refine (HHas.out _).mono ?_; rintro e w' ⟨rfl, rfl⟩))
                  go_ret
                  rw [HV.out]
                  exact ⟨rfl, HC3, HK3, ⟨by rw [HZ1.out]; exact HZc.out⟩⟩
                · have q2 : (d.game == 1) = false := by rw [beq_eq_false_iff_ne]; exact hga
                  have HV : Aside0 (vStep d.n d.rs d.game (vis d.n d.rs d.game f) ((bl (nth d.n.by_ node)).drop (j + 1)) sc = vStep d.n d.rs d.game (vis d.n d.rs d.game f) (bl (nth d.n.by_ node)) s1) := ⟨by
                    rw [← HE.out, HD.out, vStep, HRe.out]; simp [HBy.out, htt, ht1, hga]⟩
                  clear hga ht1 htt
                  go_wp2_with (first | (go_at_call 47; refine (HRp.out _ HRd.out).mono ?_; rintro e w3 ⟨rfl, hb⟩; have HC3 := Aside0.mk (HC.out.nx hb.out); have HK3 := Aside0.mk (HK.out.trans (Kp.of hb.out)); have HL3 := Aside0.mk (HL.out.below hb.out); clear HC HK HL hb hg3 hg4 hg5 hg6 hc32; have hg1 : w3.cell? ⟨d.g, 1, none⟩ = some (.slice (some ⟨d.b1, 0, none⟩) d.N d.N) := HC3.out.at_ 1; have hb1 := HC3.out.bat HOd.out x hx; have hg3 : w3.cell? ⟨d.g, 3, none⟩ = some (.int .i64 d.game) := HC3.out.at_ 3; have hg8 : w3.cell? ⟨d.g, 8, none⟩ = some (.slice (some ⟨d.h, 0, none⟩) d.N d.N) := HC3.out.at_ 8; have hh := HC3.out.hat y hy; rw [HTt.out] at hh) | (go_at_call 46; refine (HHas.out _).mono ?_; rintro e w' ⟨rfl, rfl⟩))
                  go_roundw
                  case rel => exact ⟨j + 1, sc, by go_num, hlt, HC3, HK3, HL3, HV, HZc⟩
                  case measure => simp [intOf]; omega
              · have q1 : ((t : Int) == 1) = false := by rw [beq_eq_false_iff_ne]; omega
                by_cases ht0 : t = 0
                · have q0 : ((t : Int) == 0) = true := by rw [beq_iff_eq]; omega
                  have hzz : zeros ⟨sc.reached, sc.st.set y 1⟩ < f := by
                    have h1 := zeros_set sc.reached (st := sc.st) (y := y) (by rw [HC.out.len]; exact hy) (by rw [htt]; exact ht0)
                    have h2 := HZc.out
                    have h3 := HZ.out
                    have h4 : zeros ⟨sc.reached, sc.st⟩ = zeros sc := rfl
                    omega
                  have HIH := Aside0.mk (fun W (hW : CkS d sc W) => IH.out y sc hy hzz W hW)
                  have HZy : Aside0 (zeros ⟨sc.reached, sc.st.set y 1⟩ ≤ zeros s1) := ⟨by
                    have h1 := zeros_set sc.reached (st := sc.st) (y := y) (by rw [HC.out.len]; exact hy) (by rw [htt]; exact ht0)
                    have h2 := HZc.out
                    have h4 : zeros ⟨sc.reached, sc.st⟩ = zeros sc := rfl
                    omega⟩
                  have HStep : Aside0 (vStep d.n d.rs d.game (vis d.n d.rs d.game f) ((bl (nth d.n.by_ node)).drop j) sc = if (vis d.n d.rs d.game f y sc).1 = true then vStep d.n d.rs d.game (vis d.n d.rs d.game f) ((bl (nth d.n.by_ node)).drop (j + 1)) (vis d.n d.rs d.game f y sc).2 else vis d.n d.rs d.game f y sc) := ⟨by
                    rw [HD.out, vStep, HRe.out]; simp [HBy.out, htt, ht0]⟩
                  clear ht0 ht1 htt hzz
                  obtain ⟨⟨rb, sd⟩, hrec⟩ : ∃ r, vis d.n d.rs d.game f y sc = r := ⟨_, rfl⟩
                  rw [hrec] at HIH HStep
                  have HRec := Aside0.mk hrec
                  clear hrec
                  simp only at HIH HStep
                  cases rb with
                  | true =>
                    rw [if_pos rfl, HE.out] at HStep
                    go_wp2_with (first | (go_at_call 47; refine (HRp.out _ HRd.out).mono ?_; rintro e w3 ⟨rfl, hb⟩; have HC3 := Aside0.mk (HC.out.nx hb.out); have HK3 := Aside0.mk (HK.out.trans (Kp.of hb.out)); have HL3 := Aside0.mk (HL.out.below hb.out); clear HC HK HL hb hg3 hg4 hg5 hg6 hc32; have hg1 : w3.cell? ⟨d.g, 1, none⟩ = some (.slice (some ⟨d.b1, 0, none⟩) d.N d.N) := HC3.out.at_ 1; have hb1 := HC3.out.bat HOd.out x hx; have hg3 : w3.cell? ⟨d.g, 3, none⟩ = some (.int .i64 d.game) := HC3.out.at_ 3; have hg8 : w3.cell? ⟨d.g, 8, none⟩ = some (.slice (some ⟨d.h, 0, none⟩) d.N d.N) := HC3.out.at_ 8; have hh := HC3.out.hat y hy; rw [HTt.out] at hh) | (go_at_call 46; refine (HHas.out _).mono ?_; rintro e w' ⟨rfl, rfl⟩) | (go_at_call 63; refine (HIH.out _ HC3.out).mono ?_; rintro e w4 ⟨rfl, HC4, HKb, HZ4⟩; have HK4 := Aside0.mk (HK3.out.trans HKb.out); have HL4 := Aside0.mk (HL3.out.kp HKb.out HBs.out.1 HBs.out.2); clear HC3 HK3 HL3 HKb hg1 hb1 hg3 hg8 hh))
                    go_roundw
                    case rel => exact ⟨j + 1, sd, by go_num, hlt, HC4, HK4, HL4, ⟨HStep.out.symm⟩, ⟨Nat.le_trans HZ4.out HZy.out⟩⟩
                    case measure => simp [intOf]; omega
                  | false =>
                    rw [if_neg (by simp), HE.out] at HStep
                    go_wp2_with (first | (go_at_call 47; refine (HRp.out _ HRd.out).mono ?_; rintro e w3 ⟨rfl, hb⟩; have HC3 := Aside0.mk (HC.out.nx hb.out); have HK3 := Aside0.mk (HK.out.trans (Kp.of hb.out)); have HL3 := Aside0.mk (HL.out.below hb.out); clear HC HK HL hb hg3 hg4 hg5 hg6 hc32; have hg1 : w3.cell? ⟨d.g, 1, none⟩ = some (.slice (some ⟨d.b1, 0, none⟩) d.N d.N) := HC3.out.at_ 1; have hb1 := HC3.out.bat HOd.out x hx; have hg3 : w3.cell? ⟨d.g, 3, none⟩ = some (.int .i64 d.game) := HC3.out.at_ 3; have hg8 : w3.cell? ⟨d.g, 8, none⟩ = some (.slice (some ⟨d.h, 0, none⟩) d.N d.N) := HC3.out.at_ 8; have hh := HC3.out.hat y hy; rw [HTt.out] at hh) | (go_at_call 46; refine (HHas.out _).mono ?_; rintro e w' ⟨rfl, rfl⟩) | (go_at_call 63; refine (HIH.out _ HC3.out).mono ?_; rintro e w4 ⟨rfl, HC4, HKb, HZ4⟩; have HK4 := Aside0.mk (HK3.out.trans HKb.out); have HL4 := Aside0.mk (HL3.out.kp HKb.out HBs.out.1 HBs.out.2); clear HC3 HK3 HL3 HKb hg1 hb1 hg3 hg8 hh))
                    go_ret
                    have HV : vis d.n d.rs d.game (f + 1) node s = (false, sd) := by rw [HVis.out, HStep.out]; rfl
                    rw [HV]
                    exact ⟨rfl, HC4, HK4, ⟨by rw [HZ1.out]; exact Nat.le_trans HZ4.out HZy.out⟩⟩
                · have q0 : ((t : Int) == 0) = false := by rw [beq_eq_false_iff_ne]; omega
                  have HV : Aside0 (vStep d.n d.rs d.game (vis d.n d.rs d.game f) ((bl (nth d.n.by_ node)).drop (j + 1)) sc = vStep d.n d.rs d.game (vis d.n d.rs d.game f) (bl (nth d.n.by_ node)) s1) := ⟨by
                    rw [← HE.out, HD.out, vStep, HRe.out]; simp [HBy.out, htt, ht1, ht0]⟩
                  clear ht0 ht1 htt
                  go_wp2_with (first | (go_at_call 47; refine (HRp.out _ HRd.out).mono ?_; rintro e w3 ⟨rfl, hb⟩; have HC3 := Aside0.mk (HC.out.nx hb.out); have HK3 := Aside0.mk (HK.out.trans (Kp.of hb.out)); have HL3 := Aside0.mk (HL.out.below hb.out); clear HC HK HL hb hg3 hg4 hg5 hg6 hc32; have hg1 : w3.cell? ⟨d.g, 1, none⟩ = some (.slice (some ⟨d.b1, 0, none⟩) d.N d.N) := HC3.out.at_ 1; have hb1 := HC3.out.bat HOd.out x hx; have hg3 : w3.cell? ⟨d.g, 3, none⟩ = some (.int .i64 d.game) := HC3.out.at_ 3; have hg8 : w3.cell? ⟨d.g, 8, none⟩ = some (.slice (some ⟨d.h, 0, none⟩) d.N d.N) := HC3.out.at_ 8; have hh := HC3.out.hat y hy; rw [HTt.out] at hh) | (go_at_call 46; refine (HHas.out _).mono ?_; rintro e w' ⟨rfl, rfl⟩))
                  go_roundw
                  case rel => exact ⟨j + 1, sc, by go_num, hlt, HC3, HK3, HL3, HV, HZc⟩
                  case measure => simp [intOf]; omega
        · have hjl : (bl (nth d.n.by_ node)).length ≤ j := Nat.le_of_not_lt hlt
          have he := HE.out
          rw [List.drop_eq_nil_of_le hjl, vStep] at he
          have HV : Aside0 (vis d.n d.rs d.game (f + 1) node s = (true, ⟨sc.reached, sc.st.set node 2⟩)) := ⟨by rw [HVis.out, ← he]; rfl⟩
          clear he hjl
          have hg8 : wr.cell? ⟨d.g, 8, none⟩ = some (.slice (some ⟨d.h, 0, none⟩) d.N d.N) := HC.out.at_ 8
          have hh := HC.out.hat node hn
          have hfh : wr.frozen? ⟨d.h, node, none⟩ = false := blk_frozen HC.out.h node
          go_wp2
          go_ret
          rw [HV.out]
          exact ⟨rfl, ⟨HC.out.seth HOd.out node 2⟩, ⟨HK.out.trans (Kp.seth _ node _)⟩, ⟨by rw [HZ1.out]; exact Nat.le_trans (zeros_two sc node) HZc.out⟩⟩
end Go.Proofs.YtgboplcjafmliaaDoor.G

/- The contract of the checker's resists, and what it computes. -/
namespace Go.Proofs.YtgboplcjafmliaaDoor.G
open Go.RowKit Go.Proofs.YtgboplcjafmliaaDoorW.PrintWords Go.Proofs.YtgboplcjafmliaaDoorW.PrintLast Go.Proofs.YtgboplcjafmliaaDoorW.PrintMore
open Go.Proofs.YtgboplcjafmliaaDoor.PAll
set_option linter.unusedVariables false
set_option linter.unusedSimpArgs false

/-- What resists computes, with a bound on the depth. -/
def rStep (rec : Nat → Nat → Bool × Nat) : List Nat → Nat → Bool × Nat
  | [], r => (true, r)
  | y :: L, r => if r.testBit y = true then rStep rec L r else if (rec y r).1 = true then rStep rec L (rec y r).2 else rec y r
def rst (n : NetD) (rs : List Rp) : Nat → Nat → Nat → Bool × Nat
  | 0, _, r => (false, r)
  | f + 1, node, r => match rep rs node with
    | none => (false, r ||| 2 ^ node)
    | some x => if (nth n.by_ node).testBit x = true then rStep (rst n rs f) (bl (nth n.by_ x)) (r ||| 2 ^ node) else (false, r ||| 2 ^ node)

set_option maxHeartbeats 8000000 in
set_option maxRecDepth 100000 in
theorem resists_any (d : CkD) (ho : d.Ok) : ∀ (f node : Nat) (s : CS) (hn : node < d.N) (hz : cov d.N (s.reached ||| 2 ^ node) < f) (w : World) (hc : CkS d s w),
    Calls Tryd.prog 64 #[.pointer (some ⟨d.g, 0, none⟩), .int .i64 (node : Int)] w fun e w' => e = .returned (.bool (rst d.n d.rs f node s.reached).1) ∧ Aside0 (CkS d ⟨(rst d.n d.rs f node s.reached).2, s.st⟩ w') ∧ Aside0 (Kp d.g d.h w w') ∧ Aside0 (cov d.N (rst d.n d.rs f node s.reached).2 ≤ cov d.N (s.reached ||| 2 ^ node)) := by
  have HOd := Aside0.mk ho
  clear ho
  intro f
  induction f with
  | zero => intro node s hn hz; omega
  | succ f ih =>
    intro node s hn hz w hc
    have IH := Aside0.mk ih
    have HZ := Aside0.mk hz
    have HC := Aside0.mk hc
    clear ih hz hc
    have hN := HOd.out.ok.hN
    have hg7 : w.cell? ⟨d.g, 7, none⟩ = some (.int .u64 (s.reached : Int)) := HC.out.at_ 7
    have hfg : w.frozen? ⟨d.g, 7, none⟩ = false := blk_frozen HC.out.g 7
    have hni : (node : Int) < (d.N : Int) := by omega
    have hn64 : node < 64 := by omega
    have HWi := Aside0.mk (fun W : World => with_any s.reached node (p64 HOd.out.ok.hN HC.out.lt) (by omega) W)
    have hrl : s.reached ||| 2 ^ node < 2 ^ d.N := Nat.or_lt_two_pow HC.out.lt (Nat.pow_lt_pow_right (by omega) hn)
    have HC1 := Aside0.mk (HC.out.setr HOd.out (s.reached ||| 2 ^ node) hrl)
    have HK1 : Aside0 (Kp d.g d.h w (w.setCell ⟨d.g, 7, none⟩ (.int .u64 ((s.reached ||| 2 ^ node : Nat) : Int)))) := ⟨Kp.setg w 7 _⟩
    go_enter Tryd.func64, Tryd.ntmps64
    go_upto_region 2 with (go_at_call 28; refine (HWi.out _).mono ?_; rintro e w' ⟨rfl, rfl⟩)
    clear hg7 hfg HC HWi
    obtain ⟨r1, hr1⟩ : ∃ r1, s.reached ||| 2 ^ node = r1 := ⟨_, rfl⟩
    have HR1 := Aside0.mk hr1
    rw [hr1] at HC1 HK1 hrl HZ ⊢
    clear hr1
    generalize w.setCell ⟨d.g, 7, none⟩ (.int .u64 ((r1 : Nat) : Int)) = w1 at *
    obtain ⟨A4, c4, he, hrd⟩ := HC1.out.rp.reads
    injection he with e1 e2 e3
    have HRp := Aside0.mk (fun W (hW : RdR W A4 c4 d.rs) => reply_any d.rs HOd.out.rn HOd.out.so node hn64 A4 c4 d.game (d.root : Int) d.who W hW)
    have hg3 : w1.cell? ⟨d.g, 3, none⟩ = some (.int .i64 d.game) := HC1.out.at_ 3
    have hg4 : w1.cell? ⟨d.g, 4, none⟩ = some (.int .i64 (d.root : Int)) := HC1.out.at_ 4
    have hg5 : w1.cell? ⟨d.g, 5, none⟩ = some (.int .i64 d.who) := HC1.out.at_ 5
    have hg6 : w1.cell? ⟨d.g, 6, none⟩ = some (.slice A4 d.rs.length c4) := by rw [← e1, ← e3]; exact HC1.out.at_ 6
    have HRd := Aside0.mk hrd
    clear hrd e1 e2 e3
    cases hrep : rep d.rs node with
    | none =>
      have HV : Aside0 (rst d.n d.rs (f + 1) node s.reached = (false, r1)) := ⟨by rw [rst, hrep, HR1.out]⟩
      rw [hrep] at HRp
      unfold repV at HRp
      clear hrep
      have hno : (none : Option Nat).isSome = false := rfl
      go_wp2_with (first | (go_at_call 47; refine (HRp.out _ HRd.out).mono ?_; rintro e w3 ⟨rfl, hb⟩))
      go_ret
      rw [HV.out]
      exact ⟨rfl, ⟨HC1.out.nx hb.out⟩, ⟨HK1.out.trans (Kp.of hb.out)⟩, ⟨by rw [HR1.out]; exact Nat.le_refl _⟩⟩
    | some x =>
      have HRe := Aside0.mk hrep
      obtain ⟨p, hpm, hp1, hp2⟩ := rep_mem hrep
      have hx : x < d.N := by rw [← hp2]; exact (HOd.out.lt p hpm).2
      rw [hrep] at HRp
      unfold repV at HRp
      clear hrep hpm hp1 hp2 p
      have hno : (some x : Option Nat).isSome = true := rfl
      have hxi : (x : Int) < (d.N : Int) := by omega
      have HHas := Aside0.mk (fun W : World => has_any (nth d.n.by_ node) x (p64 HOd.out.ok.hN (HOd.out.ok.lb node)) (by omega) W)
      cases hby : (nth d.n.by_ node).testBit x with
      | false =>
        rw [hby] at HHas
        have HV : Aside0 (rst d.n d.rs (f + 1) node s.reached = (false, r1)) := ⟨by rw [rst, HRe.out]; simp only [hby, HR1.out]; rfl⟩
        clear hby
        go_wp2_with (first | (go_at_call 47; refine (HRp.out _ HRd.out).mono ?_; rintro e w3 ⟨rfl, hb⟩; have HC3 := Aside0.mk (HC1.out.nx hb.out); have HK3 := Aside0.mk (HK1.out.trans (Kp.of hb.out)); clear HC1 HK1 hb hg3 hg4 hg5 hg6; have hg1 : w3.cell? ⟨d.g, 1, none⟩ = some (.slice (some ⟨d.b1, 0, none⟩) d.N d.N) := HC3.out.at_ 1; have hb1 := HC3.out.bat HOd.out node hn; have hb1x := HC3.out.bat HOd.out x hx) | (go_at_call 46; refine (HHas.out _).mono ?_; rintro e w' ⟨rfl, rfl⟩))
        go_ret
        rw [HV.out]
        exact ⟨rfl, HC3, HK3, ⟨by rw [HR1.out]; exact Nat.le_refl _⟩⟩
      | true =>
        rw [hby] at HHas
        have HV : Aside0 (rst d.n d.rs (f + 1) node s.reached = rStep (rst d.n d.rs f) (bl (nth d.n.by_ x)) r1) := ⟨by rw [rst, HRe.out]; simp only [hby, HR1.out]; rfl⟩
        clear hby
        go_wp2_with (first | (go_at_call 47; refine (HRp.out _ HRd.out).mono ?_; rintro e w3 ⟨rfl, hb⟩; have HC3 := Aside0.mk (HC1.out.nx hb.out); have HK3 := Aside0.mk (HK1.out.trans (Kp.of hb.out)); clear HC1 HK1 hb hg3 hg4 hg5 hg6; have hg1 : w3.cell? ⟨d.g, 1, none⟩ = some (.slice (some ⟨d.b1, 0, none⟩) d.N d.N) := HC3.out.at_ 1; have hb1 := HC3.out.bat HOd.out node hn; have hb1x := HC3.out.bat HOd.out x hx) | (go_at_call 46; refine (HHas.out _).mono ?_; rintro e w' ⟨rfl, rfl⟩) | (go_at_call 43; refine (list_own (nth d.n.by_ x) (p64 HOd.out.ok.hN (HOd.out.ok.lb x)) _ HC3.out.tab).mono ?_; rintro e w4 ⟨v50, rfl, HL, hb⟩; obtain ⟨A50, c50, rfl⟩ := own_slice HL.out))
        have HC2 := Aside0.mk (HC3.out.nx hb.out)
        have HK2 := Aside0.mk (HK3.out.trans (Kp.of hb.out))
        have HBs : Aside0 (d.g < w3.heap.size ∧ d.h < w3.heap.size) := ⟨blk_lt HC3.out.g, blk_lt HC3.out.h⟩
        have HL2 : Aside0 (OwnI w4 w3.heap.size (.slice A50 (bl (nth d.n.by_ x)).length c50) (bl (nth d.n.by_ x))) := ⟨HL.out⟩
        have hl64 := bl_length (nth d.n.by_ x)
        clear HC3 HK3 hb HL hg1 hb1 hb1x
        go_loopw [8, 52] (fun v8 v52 w' => ∃ (j r : Nat), v52 = .int .i64 (j : Int) ∧ j ≤ (bl (nth d.n.by_ x)).length ∧ Aside0 (CkS d ⟨r, s.st⟩ w') ∧ Aside0 (Kp d.g d.h w w') ∧ Aside0 (OwnI w' w3.heap.size (.slice A50 (bl (nth d.n.by_ x)).length c50) (bl (nth d.n.by_ x))) ∧ Aside0 (rStep (rst d.n d.rs f) ((bl (nth d.n.by_ x)).drop j) r = rStep (rst d.n d.rs f) (bl (nth d.n.by_ x)) r1) ∧ Aside0 (cov d.N r ≤ cov d.N r1)) (fun _ v52 _ => (bl (nth d.n.by_ x)).length - (intOf v52).toNat)
        case atStart => exact ⟨0, r1, rfl, Nat.zero_le _, HC2, HK2, HL2, ⟨rfl⟩, ⟨Nat.le_refl _⟩⟩
        case round =>
          clear HC2 HK2 HL2
          obtain ⟨j, r, rfl, hj, HC, HK, HL, HE, HZc⟩ := hrel
          by_cases hlt : j < (bl (nth d.n.by_ x)).length
          · obtain ⟨A', c', he, hr⟩ := HL.out.reads
            injection he with e1 e2 e3
            subst e1 e3
            obtain ⟨ad50, rfl, hc50⟩ := hr.cell j hlt
            have hy := bl_in HOd.out.ok.hN (HOd.out.ok.lb x) (nth_mem _ j hlt)
            have HD := Aside0.mk (nth_drop (bl (nth d.n.by_ x)) j hlt)
            clear hr
            generalize nth (bl (nth d.n.by_ x)) j = y at *
            have hy64 : y < 64 := by omega
            have hg7 : wr.cell? ⟨d.g, 7, none⟩ = some (.int .u64 (r : Int)) := HC.out.at_ 7
            have HHy := Aside0.mk (fun W : World => has_any r y (p64 HOd.out.ok.hN HC.out.lt) hy64 W)
            cases hry : r.testBit y with
            | true =>
              rw [hry] at HHy
              have HV2 : Aside0 (rStep (rst d.n d.rs f) ((bl (nth d.n.by_ x)).drop (j + 1)) r = rStep (rst d.n d.rs f) (bl (nth d.n.by_ x)) r1) := ⟨by rw [← HE.out, HD.out, rStep, if_pos hry]⟩
              clear hry
              go_wp2_with (first | (go_at_call 46; refine (HHy.out _).mono ?_; rintro e w' ⟨rfl, rfl⟩))
              go_roundw
              case rel => exact ⟨j + 1, r, by go_num, hlt, HC, HK, HL, HV2, HZc⟩
              case measure => simp [intOf]; omega
            | false =>
              rw [hry] at HHy
              have hcd := cov_dec hy hry
              have HIH := Aside0.mk (fun W (hW : CkS d ⟨r, s.st⟩ W) => IH.out y ⟨r, s.st⟩ hy (by have := HZc.out; have := HZ.out; show cov d.N (r ||| 2 ^ y) < f; omega) W hW)
              have HStep : Aside0 (rStep (rst d.n d.rs f) ((bl (nth d.n.by_ x)).drop j) r = if (rst d.n d.rs f y r).1 = true then rStep (rst d.n d.rs f) ((bl (nth d.n.by_ x)).drop (j + 1)) (rst d.n d.rs f y r).2 else rst d.n d.rs f y r) := ⟨by rw [HD.out, rStep, if_neg (by rw [hry]; simp)]⟩
              have HZy : Aside0 (cov d.N (r ||| 2 ^ y) ≤ cov d.N r1) := ⟨by have := HZc.out; omega⟩
              clear hry hcd
              obtain ⟨⟨rb, r2⟩, hrec⟩ : ∃ q, rst d.n d.rs f y r = q := ⟨_, rfl⟩
              rw [hrec] at HStep
              simp only [hrec] at HIH HStep
              clear hrec
              cases rb with
              | true =>
                rw [if_pos rfl, HE.out] at HStep
                go_wp2_with (first | (go_at_call 46; refine (HHy.out _).mono ?_; rintro e w' ⟨rfl, rfl⟩) | (go_at_call 64; refine (HIH.out _ HC.out).mono ?_; rintro e w4 ⟨rfl, HC4, HKb, HZ4⟩; have HK4 := Aside0.mk (HK.out.trans HKb.out); have HL4 := Aside0.mk (HL.out.kp HKb.out HBs.out.1 HBs.out.2); clear HC HK HL HKb hg7 hc50))
                go_roundw
                case rel => exact ⟨j + 1, r2, by go_num, hlt, HC4, HK4, HL4, ⟨HStep.out.symm⟩, ⟨Nat.le_trans HZ4.out HZy.out⟩⟩
                case measure => simp [intOf]; omega
              | false =>
                rw [if_neg (by simp), HE.out] at HStep
                go_wp2_with (first | (go_at_call 46; refine (HHy.out _).mono ?_; rintro e w' ⟨rfl, rfl⟩) | (go_at_call 64; refine (HIH.out _ HC.out).mono ?_; rintro e w4 ⟨rfl, HC4, HKb, HZ4⟩; have HK4 := Aside0.mk (HK.out.trans HKb.out); have HL4 := Aside0.mk (HL.out.kp HKb.out HBs.out.1 HBs.out.2); clear HC HK HL HKb hg7 hc50))
                go_ret
                rw [HV.out, HStep.out]
                exact ⟨rfl, HC4, HK4, ⟨by rw [HR1.out]; exact Nat.le_trans HZ4.out HZy.out⟩⟩
          · have hjl : (bl (nth d.n.by_ x)).length ≤ j := Nat.le_of_not_lt hlt
            have he := HE.out
            rw [List.drop_eq_nil_of_le hjl, rStep] at he
            have HV2 : Aside0 (rst d.n d.rs (f + 1) node s.reached = (true, r)) := ⟨by rw [HV.out, ← he]⟩
            clear he hjl
            go_wp2
            go_ret
            rw [HV2.out]
            exact ⟨rfl, HC, HK, ⟨by rw [HR1.out]; exact HZc.out⟩⟩
end Go.Proofs.YtgboplcjafmliaaDoor.G

/- A region that draws its order and holds one call that writes: what stands before it is quiet, the call comes behind all of that, what stands behind it is quiet again. -/
namespace Go.Proofs.YtgboplcjafmliaaDoor.G
open Go
set_option linter.unusedVariables false
set_option linter.unusedSimpArgs false
section
variable {P : Program} {ops : Array Oper} {md : Region.Mode} {C : World → Prop}

def restB (md : Region.Mode) (ops : Array Oper) (n : Nat) : Bool :=
  (List.range ops.size).all fun t => decide (t ≤ n) || (List.range t).any fun j => decide (n ≤ j) && Region.waitsFor md ops t j

theorem waist_waits {n : Nat} {listed : Array Bool} (hs : Region.sinkB md ops n = true) (hc : restB md ops n = true) (hn : n < ops.size) (inv : HeadInv md ops n listed) :
    ∀ (d i : Nat), n - i = d → i < n → listed.getD i true = false → ∀ t, n ≤ t → t ∉ Region.ready md ops listed := by
  intro d
  induction d using Nat.strongRecOn with
  | _ d ih =>
    intro i hd hi hun t ht hr
    obtain ⟨_, ot, hot, hall⟩ := mem_ready.1 hr
    have htlt : t < ops.size := (Array.getElem?_eq_some_iff.1 hot).1
    by_cases htn : t = n
    · subst htn
      have h1 := List.all_eq_true.1 hs i (List.mem_range.2 hi)
      obtain ⟨j, hj, hj2⟩ := List.any_eq_true.1 h1
      simp only [Bool.and_eq_true, decide_eq_true_eq] at hj2
      obtain ⟨oj, hoj, e, he, hb, hon⟩ := Region.waitsFor_spec hj2.2
      have hjle : j ≤ t := by have := List.mem_range.1 hj; omega
      by_cases hjt : j = t
      · subst hjt
        have : oj = ot := Option.some.inj (hoj.symm.trans hot)
        subst this
        have h2 := hall e he hb
        rw [hon, getD_both hun] at h2
        cases h2
      · cases hl : listed.getD j false with
        | true =>
          have h2 := inv.closed j oj hoj hl e he hb
          rw [hon, getD_both hun] at h2
          cases h2
        | false =>
          have hjs : j < listed.size := by rw [inv.size]; omega
          exact ih (t - j) (by omega) j rfl (by omega) (getD_in hjs hl) t (Nat.le_refl _) hr
    · have h1 := List.all_eq_true.1 hc t (List.mem_range.2 htlt)
      simp only [Bool.or_eq_true, decide_eq_true_eq] at h1
      rcases h1 with h1 | h1
      · omega
      · obtain ⟨j, hj, hj2⟩ := List.any_eq_true.1 h1
        simp only [Bool.and_eq_true, decide_eq_true_eq] at hj2
        obtain ⟨o', ho', e, he, hb, hon⟩ := Region.waitsFor_spec hj2.2
        have : o' = ot := Option.some.inj (ho'.symm.trans hot)
        subst this
        have h2 := hall e he hb
        have hjt := List.mem_range.1 hj
        rw [hon, getD_both (inv.tail j hj2.1 (by omega))] at h2
        cases h2

theorem hq_first' {n i : Nat} {oi : Oper} {v : Value} {L : Array Bool → Act → Prop} (hi : ops[i]? = some oi) (hsel : ∀ (j : Nat) (o : Oper) cs b, ops[j]? = some o → o.op ≠ .select cs b)
    (hs : Region.sinkB md ops n = true) (hc : restB md ops n = true) (hn : n < ops.size) (hin : i < n)
    (hdone : ∀ listed a, L listed a → ∀ j ∈ Region.ready md ops listed, n ≤ j) :
    ∀ (f : Nat) (listed : Array Bool) (a : Act), HeadInv md ops n listed →
      (∀ j oj, ops[j]? = some oj → j ≠ i → listed.getD j true = false → (∀ e ∈ oj.after, Region.binds md e = true → e.on ≠ i) → oi.apart ops oj = true) →
      i ∈ Region.ready md ops listed → YieldsIn P ops C oi v a →
      wpHQ P md ops C n L f (listed.setIfInBounds i true) (a.put oi.dst v) → wpHQ P md ops C n L (f + 1) listed a := by
  intro f
  induction f with
  | zero =>
    intro listed a inv _ hr hy H
    have hun := (mem_ready.1 hr).1
    refine ⟨fun h => (by rw [h] at hr; cases hr), fun j hj => ?_⟩
    have hjn : j < n := by
      rcases Nat.lt_or_ge j n with h | h
      · exact h
      · exact absurd hj (waist_waits hs hc hn inv _ i rfl hin hun j h)
    refine ⟨hjn, ?_⟩
    by_cases hji : j = i
    · subst hji; exact hy.qOp hi H
    · have := hdone _ _ H j (ready_mono hj hji)
      omega
  | succ f ih =>
    intro listed a inv hfree hr hy H
    have hun := (mem_ready.1 hr).1
    refine ⟨fun h => (by rw [h] at hr; cases hr), fun j hj => ?_⟩
    have hjn : j < n := by
      rcases Nat.lt_or_ge j n with h | h
      · exact h
      · exact absurd hj (waist_waits hs hc hn inv _ i rfl hin hun j h)
    refine ⟨hjn, ?_⟩
    by_cases hji : j = i
    · subst hji; exact hy.qOp hi H
    · have h1 := (H.2 j (ready_mono hj hji)).2
      obtain ⟨hjun, oj, hoj, hall⟩ := mem_ready.1 hj
      have hnot : ∀ e ∈ oj.after, Region.binds md e = true → e.on ≠ i := fun e he hb heq => by
        have h1 := hall e he hb
        rw [heq, getD_both hun] at h1
        cases h1
      have h2 := qOp_put hoj (hfree j oj hoj hji hjun hnot) (fun cs b => hsel i oi cs b hi) (fun cs b => hsel j oj cs b hoj) hy h1
      have hfree' : ∀ k ok, ops[k]? = some ok → k ≠ i → (listed.setIfInBounds j true).getD k true = false →
          (∀ e ∈ ok.after, Region.binds md e = true → e.on ≠ i) → oi.apart ops ok = true := fun k ok hk hki hun hno => by
        refine hfree k ok hk hki ?_ hno
        by_cases hjk : j = k
        · subst hjk; exact hjun
        · rw [getD_set_ne true hjk] at hun; exact hun
      refine qOp_mono (fun a' h3 => ih (listed.setIfInBounds j true) a' (inv.set hj hjn) hfree' (ready_mono hr (Ne.symm hji)) h3.1 ?_) h2
      rw [Array.setIfInBounds_comm _ _ hji]
      exact h3.2

def endB (md : Region.Mode) (ops : Array Oper) (n : Nat) (listed : Array Bool) : Bool :=
  decide (Region.ready md ops listed = [n]) && Region.lexFrom md ops (ops.size - (n + 1)) (n + 1) (listed.setIfInBounds n true)
def waistHead (md : Region.Mode) (ops : Array Oper) : Nat → Nat → Array Bool → Bool
  | 0, k, listed => endB md ops k listed
  | f + 1, k, listed => (Region.ready md ops listed).contains k && Region.free md ops listed k && waistHead md ops f (k + 1) (listed.setIfInBounds k true)
theorem hq_lex' {n : Nat} {Lq : Act → Prop} (hsel : Region.noSelect ops = true) (hs : Region.sinkB md ops n = true) (hc : restB md ops n = true) (hn : n < ops.size) :
    ∀ (l : List Oper) (k : Nat) (listed : Array Bool) (a : Act), (∀ j, j < l.length → l[j]? = ops[k + j]?) → k + l.length = n → HeadInv md ops n listed →
    waistHead md ops l.length k listed = true → wpQuiet P ops C Lq l a →
    wpHQ P md ops C n (fun listed' a' => endB md ops n listed' = true ∧ Lq a') l.length listed a
  | [], k, listed, a, _, hk, _, hB, h => by
    have : k = n := by simpa using hk
    subst this
    exact ⟨by simpa [waistHead] using hB, h⟩
  | o :: l, k, listed, a, hl, hk, inv, hB, h => by
    have h0 : ops[k]? = some o := by simpa using (hl 0 (by simp)).symm
    simp only [List.length_cons, waistHead, Bool.and_eq_true] at hB
    obtain ⟨⟨hr, hf⟩, hB'⟩ := hB
    have hkn : k < n := by simp only [List.length_cons] at hk; omega
    have hr' : k ∈ Region.ready md ops listed := by simpa using hr
    have hst : qOp P ops C k (wpQuiet P ops C Lq l) a := by unfold qOp; simp only [h0]; exact h
    obtain ⟨v, hy, hK⟩ := yieldsIn_of_qOp h0 hst
    exact hq_first' h0 (Region.noSelect_spec hsel) hs hc hn hkn (fun listed' a' hL j hj => by
        have h2 := hL.1
        simp only [endB, Bool.and_eq_true, decide_eq_true_eq] at h2
        rw [h2.1] at hj
        have : j = n := by simpa using hj
        omega) l.length listed a inv (Region.free_spec h0 hf) hr' hy
      (hq_lex' hsel hs hc hn l (k + 1) _ _ (fun j hj => by have := hl (j + 1) (by simp; omega); simpa [Nat.add_assoc, Nat.add_comm 1 j] using this) (by simp only [List.length_cons] at hk; omega) (inv.set hr' hkn) hB' hK)

def waistB (md : Region.Mode) (ops : Array Oper) (n : Nat) : Bool :=
  Region.noSelect ops && decide (n < ops.size) && Region.sinkB md ops n && restB md ops n && waistHead md ops n 0 (Array.replicate ops.size false)
/-- The call in the middle, with what is to hold behind it. -/
def Mid (Q K : Exit → Act → World → Prop) : Exit → Act → World → Prop
  | .normal, a, w => K .normal a w
  | e, a, w => Q e a w

theorem wp_waist {id : Nat} {Q : Exit → Act → World → Prop} {a : Act} {w : World} {l : List Oper} (C : World → Prop) (n : Nat) (o : Oper) (ho : l[n]? = some o) (hm : P.follows .mixedOrders = true) (hB : waistB .any l.toArray n = true) (hC : C w.drew)
    (h : wpQuiet P l.toArray C (fun a' => ∀ w', C w' → wpList P l.toArray (Mid Q fun _ a1 w1 => ∃ C2 : World → Prop, C2 w1 ∧ wpQuiet P l.toArray C2 (fun a2 => ∀ w2, C2 w2 → Q .normal a2 w2) (l.drop (n + 1)) a1) [o] a' w') (l.take n) a) : (Code.region id l.toArray true).wp P Q a w := by
  simp only [waistB, Bool.and_eq_true, decide_eq_true_eq] at hB
  obtain ⟨⟨⟨⟨hsel, hn⟩, hs⟩, hc⟩, hlex⟩ := hB
  have hn' : n < l.length := by simpa using hn
  have htl : (l.take n).length = n := by simp; omega
  have inv0 : HeadInv .any l.toArray n (Array.replicate l.toArray.size false) :=
    ⟨by simp, fun j oj _ hl => (by rw [getD_replicate_false] at hl; cases hl), fun t _ ht => getD_in (by simpa using ht) (getD_replicate_false _ _)⟩
  have H := hq_lex' (md := .any) hsel hs hc hn (l.take n) 0 _ a (fun j hj => by
    have hj' : j < n := by rw [htl] at hj; exact hj
    simp [hj']) (by simpa using htl) inv0 (by rw [htl]; exact hlex) h
  refine wp_region_any hm ?_
  have hsz : l.toArray.size - n = (l.drop (n + 1)).length + 1 := by simp; omega
  have := any_of_hq (Q' := Q) (g := l.toArray.size - n) (fun listed a' w' hw' hL => by
    have h2 := hL.1
    simp only [endB, Bool.and_eq_true, decide_eq_true_eq] at h2
    rw [hsz]
    refine ⟨fun h3 => (by rw [h2.1] at h3; cases h3), fun i hi => ?_⟩
    rw [h2.1] at hi
    have hin : i = n := by simpa using hi
    subst hin
    have h0 : l.toArray[i]? = some o := by simpa using ho
    have hw : wpOp P l.toArray Q i (fun a1 w1 => ∃ C2 : World → Prop, C2 w1 ∧ wpQuiet P l.toArray C2 (fun a2 => ∀ w2, C2 w2 → Q .normal a2 w2) (l.drop (i + 1)) a1) a' w' := by
      unfold wpOp
      simp only [h0]
      exact hL.2 w' hw'
    refine wpOp_mono (fun a1 w1 h4 => ?_) hw
    obtain ⟨C2, hC2, h5⟩ := h4
    refine wpAny_of_quiet (C := C2) (Q := fun a2 => ∀ w2, C2 w2 → Q .normal a2 w2) (fun _ w2 hw2 h => h w2 hw2) _ _ _ _ hC2 ?_
    refine wpAnyQ_lex (md := .any) hsel (l.drop (i + 1)) (i + 1) _ _ (fun j => by simp [List.getElem?_drop]) ?_ h5
    have h6 : l.toArray.size - (i + 1) = (l.drop (i + 1)).length := by simp
    rw [← h6]; exact h2.2) _ _ _ _ hC H
  rw [htl, show n + (l.toArray.size - n) = l.toArray.size by omega] at this
  exact this
end
end Go.Proofs.YtgboplcjafmliaaDoor.G

/- The contract of the checker's wins, and what it computes. -/
namespace Go.Proofs.YtgboplcjafmliaaDoor.G
open Go.RowKit Go.Proofs.YtgboplcjafmliaaDoorW.PrintWords Go.Proofs.YtgboplcjafmliaaDoorW.PrintLast Go.Proofs.YtgboplcjafmliaaDoorW.PrintMore
open Go.Proofs.YtgboplcjafmliaaDoor.PAll
set_option linter.unusedVariables false
set_option linter.unusedSimpArgs false

theorem size_all' : ((List.range 41).all fun N => network_Set_Size.f ((2 ^ N - 1 : Nat) : Int) == some (N : Int)) = true := by kernel_rfl
theorem size_all (N : Nat) (h : N ≤ 40) : network_Set_Size.f ((2 ^ N - 1 : Nat) : Int) = some (N : Int) := by
  have := List.all_eq_true.1 size_all' N (List.mem_range.2 (by omega))
  simpa using this
def s00 (N : Nat) : CS := ⟨0, List.replicate N 0⟩
theorem zeros_le (s : CS) : zeros s ≤ s.st.length := List.countP_le_length
/-- Whether a strategy wins, as the checker finds it. -/
def winsB (d : CkD) : Bool :=
  if d.who = 1 then (vis d.n d.rs d.game (d.N + 1) d.root (s00 d.N)).1 && (d.game == 1 || freeB d.n (vis d.n d.rs d.game (d.N + 1) d.root (s00 d.N)).2.reached)
  else if d.game = 1 then (rst d.n d.rs (d.N + 1) d.root 0).1
  else if 10 < d.N ∨ 0 < d.rs.length then false else (srch d.n (d.N + 1) (2 ^ d.root)).isNone

/-- A state of the checker behind w. -/
def CkK (d : CkD) (s : CS) (w x : World) : Prop := CkS d s x ∧ Kp d.g d.h w x
set_option maxHeartbeats 4000000 in
set_option maxRecDepth 100000 in
theorem wins_any (d : CkD) (ho : d.Ok) (w : World) (hc : CkS d (s00 d.N) w) :
    Calls Tryd.prog 40 #[.pointer (some ⟨d.g, 0, none⟩)] w fun e w' => e = .returned (.bool (winsB d)) ∧ Aside0 (Kp d.g d.h w w') := by
  have HOd := Aside0.mk ho
  have HC := Aside0.mk hc
  clear ho hc
  have hN := HOd.out.ok.hN
  have hg3 : w.cell? ⟨d.g, 3, none⟩ = some (.int .i64 d.game) := HC.out.at_ 3
  have hg4 : w.cell? ⟨d.g, 4, none⟩ = some (.int .i64 (d.root : Int)) := HC.out.at_ 4
  have hg5 : w.cell? ⟨d.g, 5, none⟩ = some (.int .i64 d.who) := HC.out.at_ 5
  by_cases hw : d.who = 1
  · have q5 : (d.who == 1) = true := by rw [beq_iff_eq]; exact hw
    have HB : Aside0 (winsB d = ((vis d.n d.rs d.game (d.N + 1) d.root (s00 d.N)).1 && (d.game == 1 || freeB d.n (vis d.n d.rs d.game (d.N + 1) d.root (s00 d.N)).2.reached))) := ⟨by rw [winsB, if_pos hw]⟩
    rw [HB.out]
    clear hw
    have HVi := Aside0.mk (fun W hW => visit_any d HOd.out (d.N + 1) d.root (s00 d.N) HOd.out.root (Nat.lt_succ_of_le (Nat.le_trans (zeros_le _) (by simp [s00]))) W hW)
    obtain ⟨⟨rb, sd⟩, hrec⟩ : ∃ q, vis d.n d.rs d.game (d.N + 1) d.root (s00 d.N) = q := ⟨_, rfl⟩
    rw [hrec] at HVi ⊢
    simp only at HVi ⊢
    clear hrec HB
    go_enter Tryd.func40, Tryd.ntmps40
    go_upto_region 2 with fail
    haveI : Nonempty (Gd (CkK d (s00 d.N) w)) := ⟨⟨w, HC.out, Kp.refl _ _ _⟩⟩
    have hs4 : ∀ i : Gd (CkK d (s00 d.N) w), i.v.cell? ⟨d.g, 4, none⟩ = some (.int .i64 (d.root : Int)) := fun i => i.h.1.at_ 4
    refine wp_waist (fun x => ∃ i : Gd (CkK d (s00 d.N) w), x = i.v) 6 _ rfl (by kernel_rfl) (by kernel_rfl) ⟨⟨w.drew, HC.out.drew, Kp.of (Below.refl _ _).drew⟩, rfl⟩ ?_
    simp only [List.take, List.drop]
    repeat (quiet_step (fail))
    refine wpQuiet_nil ?_
    clear hs4 this
    rintro _ ⟨⟨w2, hb2⟩, rfl⟩
    have HC2 := Aside0.mk hb2
    clear hb2
    go_wp2_with (first | (go_at_call 63; refine (HVi.out _ HC2.out.1).mono ?_; rintro e w3 ⟨rfl, HC3, HK3, HZ3⟩))
    have HK := Aside0.mk (HC2.out.2.trans HK3.out)
    clear HK3 HC2 HVi
    refine ⟨fun x => ∃ i : Gd (CkK d sd w), x = i.v, ⟨⟨w3, HC3.out, HK.out⟩, rfl⟩, ?_⟩
    haveI : Nonempty (Gd (CkK d sd w)) := ⟨⟨w3, HC3.out, HK.out⟩⟩
    have hs3 : ∀ i : Gd (CkK d sd w), i.v.cell? ⟨d.g, 3, none⟩ = some (.int .i64 d.game) := fun i => i.h.1.at_ 3
    have hs0 : ∀ i : Gd (CkK d sd w), i.v.cell? ⟨d.g, 0, none⟩ = some (.int .u64 (d.n.all : Int)) := fun i => i.h.1.at_ 0
    have hs1 : ∀ i : Gd (CkK d sd w), i.v.cell? ⟨d.g, 1, none⟩ = some (.slice (some ⟨d.b1, 0, none⟩) d.N d.N) := fun i => i.h.1.at_ 1
    have hs2 : ∀ i : Gd (CkK d sd w), i.v.cell? ⟨d.g, 2, none⟩ = some (.slice (some ⟨d.b2, 0, none⟩) d.N d.N) := fun i => i.h.1.at_ 2
    have hs7 : ∀ i : Gd (CkK d sd w), i.v.cell? ⟨d.g, 7, none⟩ = some (.int .u64 (sd.reached : Int)) := fun i => i.h.1.at_ 7
    have C55 : Aside0 (∀ i : Gd (CkK d sd w), Calls Tryd.prog 55 #[.agg #[.int .u64 (d.n.all : Int), .slice (some ⟨d.b1, 0, none⟩) d.N d.N, .slice (some ⟨d.b2, 0, none⟩) d.N d.N], .int .u64 (sd.reached : Int)] i.v fun e w' => e = .returned (.bool (freeB d.n sd.reached)) ∧ ∃ j : Gd (CkK d sd w), w' = j.v) := ⟨fun i => (free_any d.N d.n HOd.out.ok _ sd.reached i.h.1.lt i.v i.h.1.tab (NetV_of_blk HOd.out.ok.hN i.h.1.b1 i.h.1.b2 HOd.out.ok.hb HOd.out.ok.ho)).mono fun e w' ⟨he, hb⟩ => ⟨he, ⟨w', i.h.1.nx hb.out, i.h.2.trans (Kp.of hb.out)⟩, rfl⟩⟩
    cases rb with
    | false =>
      repeat (go_big_quiet_step (fail))
      refine wpQuiet_nil ?_
      clear hs0 hs1 hs2 hs3 hs7 C55 this HC3 HK
      rintro _ ⟨⟨w4, hb4⟩, rfl⟩
      go_wp2
      go_ret
      exact ⟨rfl, ⟨hb4.2⟩⟩
    | true =>
      by_cases hga : d.game = 1
      · have q2 : (d.game == 1) = true := by rw [beq_iff_eq]; exact hga
        clear hga
        repeat (go_big_quiet_step (fail))
        refine wpQuiet_nil ?_
        clear hs0 hs1 hs2 hs3 hs7 C55 this HC3 HK
        rintro _ ⟨⟨w4, hb4⟩, rfl⟩
        go_wp2
        go_ret
        exact ⟨by rw [q2]; rfl, ⟨hb4.2⟩⟩
      · have q2 : (d.game == 1) = false := by rw [beq_eq_false_iff_ne]; exact hga
        clear hga
        repeat (go_big_quiet_step ((go_at_call 55; exact C55.out _)))
        refine wpQuiet_nil ?_
        clear hs0 hs1 hs2 hs3 hs7 C55 this HC3 HK
        rintro _ ⟨⟨w4, hb4⟩, rfl⟩
        go_wp2
        go_ret
        exact ⟨by rw [q2]; rfl, ⟨hb4.2⟩⟩
  · have q5 : (d.who == 1) = false := by rw [beq_eq_false_iff_ne]; exact hw
    by_cases hga : d.game = 1
    · have q2 : (d.game == 1) = true := by rw [beq_iff_eq]; exact hga
      have HB : Aside0 (winsB d = (rst d.n d.rs (d.N + 1) d.root 0).1) := ⟨by rw [winsB, if_neg hw, if_pos hga]⟩
      have HRs := Aside0.mk (resists_any d HOd.out (d.N + 1) d.root (s00 d.N) HOd.out.root (Nat.lt_succ_of_le (cov_le _ _)) w HC.out)
      rw [show (s00 d.N).reached = 0 from rfl] at HRs
      clear hw hga
      rw [HB.out]
      go_enter Tryd.func40, Tryd.ntmps40
      go_wp2_with (first | (go_at_call 64; refine HRs.out.mono ?_; rintro e w3 ⟨rfl, HC3, HK3, HZ3⟩))
      go_ret
      exact ⟨rfl, HK3⟩
    · have q2 : (d.game == 1) = false := by rw [beq_eq_false_iff_ne]; exact hga
      have hg0 : w.cell? ⟨d.g, 0, none⟩ = some (.int .u64 (d.n.all : Int)) := HC.out.at_ 0
      have HSz : Aside0 (∀ W, Calls Tryd.prog 65 #[.int .u64 (d.n.all : Int)] W fun e w' => e = .returned (.int .i64 (d.N : Int)) ∧ Drawn0 W w') := ⟨fun W => network_Set_Size.calls (d.n.all : Int) (d.N : Int) W (by rw [HOd.out.ok.ha]; exact size_all d.N HOd.out.ok.hN)⟩
      have HB : Aside0 (winsB d = if 10 < d.N ∨ 0 < d.rs.length then false else (srch d.n (d.N + 1) (2 ^ d.root)).isNone) := ⟨by rw [winsB, if_neg hw, if_neg hga]⟩
      clear hw hga
      by_cases hbig : 10 < d.N
      · have e1 : decide (10 < d.N) = true := decide_eq_true hbig
        have e1i : decide ((10 : Int) < (d.N : Int)) = true := decide_eq_true (by omega)
        rw [HB.out, if_pos (.inl hbig)]
        clear hbig
        go_enter Tryd.func40, Tryd.ntmps40
        go_wp2_with (first | (go_at_call 65; refine (HSz.out _).mono ?_; rintro e w3 ⟨rfl, hd⟩))
        go_ret
        exact ⟨rfl, ⟨Kp.of hd.below⟩⟩
      · have e1 : decide (10 < d.N) = false := decide_eq_false hbig
        have e1i : decide ((10 : Int) < (d.N : Int)) = false := decide_eq_false (by omega)
        by_cases hrs : 0 < d.rs.length
        · have e2 : decide (0 < d.rs.length) = true := decide_eq_true hrs
          rw [HB.out, if_pos (.inr hrs)]
          clear hbig hrs
          go_enter Tryd.func40, Tryd.ntmps40
          go_wp2_with (first | (go_at_call 65; refine (HSz.out _).mono ?_; rintro e w3 ⟨rfl, hd⟩; have hg6 : w3.cell? ⟨d.g, 6, none⟩ = some (.slice d.A d.rs.length d.c) := (HC.out.nx hd.below).at_ 6))
          go_ret
          exact ⟨rfl, ⟨Kp.of hd.below⟩⟩
        · have e2 : decide (0 < d.rs.length) = false := decide_eq_false hrs
          rw [HB.out, if_neg (fun h => h.elim hbig hrs)]
          clear hbig hrs
          go_enter Tryd.func40, Tryd.ntmps40
          go_upto_region 7 with (first | (go_at_call 65; refine (HSz.out _).mono ?_; rintro e w3 ⟨rfl, hd⟩; have hg6 : w3.cell? ⟨d.g, 6, none⟩ = some (.slice d.A d.rs.length d.c) := (HC.out.nx hd.below).at_ 6))
          have HC3 := Aside0.mk (HC.out.nx hd.below)
          have HK3 : Aside0 (Kp d.g d.h w w3) := ⟨Kp.of hd.below⟩
          haveI : Nonempty (Gd (CkK d (s00 d.N) w)) := ⟨⟨w3, HC3.out, HK3.out⟩⟩
          have hs0 : ∀ i : Gd (CkK d (s00 d.N) w), i.v.cell? ⟨d.g, 0, none⟩ = some (.int .u64 (d.n.all : Int)) := fun i => i.h.1.at_ 0
          have hs1 : ∀ i : Gd (CkK d (s00 d.N) w), i.v.cell? ⟨d.g, 1, none⟩ = some (.slice (some ⟨d.b1, 0, none⟩) d.N d.N) := fun i => i.h.1.at_ 1
          have hs2 : ∀ i : Gd (CkK d (s00 d.N) w), i.v.cell? ⟨d.g, 2, none⟩ = some (.slice (some ⟨d.b2, 0, none⟩) d.N d.N) := fun i => i.h.1.at_ 2
          have hs4 : ∀ i : Gd (CkK d (s00 d.N) w), i.v.cell? ⟨d.g, 4, none⟩ = some (.int .i64 (d.root : Int)) := fun i => i.h.1.at_ 4
          have hp2 : 2 ^ d.root < 2 ^ d.N := Nat.pow_lt_pow_right (by omega) HOd.out.root
          have HP2 := Aside0.mk hp2
          have C28 : Aside0 (∀ i : Gd (CkK d (s00 d.N) w), Calls Tryd.prog 28 #[.int .u64 0, .int .i64 (d.root : Int)] i.v fun e w' => e = .returned (.int .u64 ((2 ^ d.root : Nat) : Int)) ∧ ∃ j : Gd (CkK d (s00 d.N) w), w' = j.v) := ⟨fun i => by
            have h := with_any 0 d.root (by decide) (by have := HOd.out.root; have := HOd.out.ok.hN; omega) i.v
            rw [Nat.zero_or] at h
            exact Calls.mono h fun e w' ⟨he, hb⟩ => ⟨he, ⟨i.v, i.h⟩, hb.symm⟩⟩
          have C27 : Aside0 (∀ i : Gd (CkK d (s00 d.N) w), Calls Tryd.prog 27 #[.agg #[.int .u64 (d.n.all : Int), .slice (some ⟨d.b1, 0, none⟩) d.N d.N, .slice (some ⟨d.b2, 0, none⟩) d.N d.N], .int .u64 ((2 ^ d.root : Nat) : Int)] i.v fun e w' => e = .returned (resV (srch d.n (d.N + 1) (2 ^ d.root))) ∧ ∃ j : Gd (CkK d (s00 d.N) w), w' = j.v) := ⟨fun i => (search_any d.N d.n HOd.out.ok (d.N + 1) (2 ^ d.root) HP2.out (Nat.lt_succ_of_le (cov_le _ _)) (.agg #[.int .u64 (d.n.all : Int), .slice (some ⟨d.b1, 0, none⟩) d.N d.N, .slice (some ⟨d.b2, 0, none⟩) d.N d.N]) i.v i.h.1.tab (NetV_of_blk HOd.out.ok.hN i.h.1.b1 i.h.1.b2 HOd.out.ok.hb HOd.out.ok.ho)).mono fun e w' ⟨he, hb⟩ => ⟨he, ⟨w', i.h.1.nx hb.out, i.h.2.trans (Kp.of hb.out)⟩, rfl⟩⟩
          obtain ⟨o, ho⟩ : ∃ o, srch d.n (d.N + 1) (2 ^ d.root) = o := ⟨_, rfl⟩
          rw [ho] at C27 HB
          have HO := Aside0.mk ho
          unfold resV at C27
          clear ho
          obtain ⟨P2, hP⟩ : ∃ P2, 2 ^ d.root = P2 := ⟨_, rfl⟩
          rw [hP] at C28 C27
          have HPe := Aside0.mk hP
          clear hP hp2
          refine wp_quiet_cls (fun x => ∃ i : Gd (CkK d (s00 d.N) w), x = i.v) (by kernel_rfl) (by kernel_rfl) ⟨⟨w3.drew, HC3.out.drew, HK3.out.trans (Kp.of (Below.refl _ _).drew)⟩, rfl⟩ ?_
          repeat (go_big_quiet_step (first | (go_at_call 28; exact C28.out _) | (go_at_call 27; exact C27.out _)))
          refine wpQuiet_nil ?_
          clear hs0 hs1 hs2 hs4 C28 C27 this HC3 HK3
          rintro _ ⟨⟨w4, hb4⟩, rfl⟩
          go_wp2
          go_ret
          refine ⟨?_, ⟨hb4.2⟩⟩
          rw [HO.out]
          rfl
end Go.Proofs.YtgboplcjafmliaaDoor.G
