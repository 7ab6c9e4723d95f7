/-
  DERIVED: THE SHELF's CONTRACTS AT THIS DUMP, IN PLAIN WORDS (tools/lay-plain.mjs out of 'YtgboplcjafmliaaDoorShelfS.lean', which tools/lay-shelf.mjs wrote): THE SAME DECLARATIONS UNDER THE SAME NAMES: 'import', 'namespace', 'open', 'def', 'theorem' AND NOTHING ELSE: no command of the shelf's: FOR A HAND-IN. Each laying: the table of numbers ('.._ren') and one theorem, a field a fact of the dump's own or the kernel's comparison; each contract: ONE APPLICATION.
-/
import Derived.Test.YtgboplcjafmliaaDoorSQ1
import Derived.Shelf.SlSortCmp.NoneTotal
import Derived.Test.YtgboplcjafmliaaDoorProg
import Derived.Shelf.Slices.Turned
/-
  DERIVED: THE SHELF's CONTRACTS AT THIS DUMP, IN PLAIN WORDS (tools/lay-plain.mjs out of 'YtgboplcjafmliaaDoorShelfS.lean', which tools/lay-shelf.mjs wrote): THE SAME DECLARATIONS UNDER THE SAME NAMES: 'import', 'namespace', 'open', 'def', 'theorem' AND NOTHING ELSE: no command of the shelf's: FOR A HAND-IN. Each laying: the table of numbers ('.._ren') and one theorem, a field a fact of the dump's own or the kernel's comparison; each contract: ONE APPLICATION.
-/
namespace Go.Proofs
open Go.Shelf
set_option linter.unusedVariables false
set_option linter.unusedSimpArgs false
def Tryd.sortR_ren : Go.Shelf.Ren := ⟨fun | 6 => 53 | 15 => 75 | 14 => 74 | 28 => 86 | 29 => 87 | 20 => 78 | 21 => 79 | 22 => 80 | 23 => 81 | 24 => 82 | 25 => 83 | 26 => 84 | 27 => 85 | 46 => 88 | 47 => 89 | 48 => 90 | 49 => 91 | 50 => 92 | 57 => 93 | n => n, fun | 22 => 31 | 24 => 77 | 25 => 96 | 3 => 3 | 39 => 98 | 0 => 0 | 53 => 122 | 55 => 60 | 4 => 4 | 46 => 116 | 45 => 115 | 50 => 89 | 5 => 5 | 9 => 9 | 66 => 123 | 70 => 43 | 76 => 128 | 77 => 129 | n => n, fun | n => n⟩
theorem Tryd.sortR : Go.Proofs.SlLaysF0.n6 Tryd.prog Tryd.sortR_ren := {
  mixed := by kernel_rfl
  f6 := ⟨Tryd.f53.name, by decide, Tryd.func53.trans (congrArg some (by kernel_rfl))⟩
  f14 := ⟨Tryd.f74.name, by decide, Tryd.func74.trans (congrArg some (by kernel_rfl))⟩
  f15 := Tryd.func75.trans (congrArg some (by kernel_rfl))
  f20 := ⟨Tryd.f78.name, by decide, Tryd.func78.trans (congrArg some (by kernel_rfl))⟩
  f21 := ⟨Tryd.f79.name, by decide, Tryd.func79.trans (congrArg some (by kernel_rfl))⟩
  f22 := ⟨Tryd.f80.name, by decide, Tryd.func80.trans (congrArg some (by kernel_rfl))⟩
  f23 := ⟨Tryd.f81.name, by decide, Tryd.func81.trans (congrArg some (by kernel_rfl))⟩
  f24 := ⟨Tryd.f82.name, by decide, Tryd.func82.trans (congrArg some (by kernel_rfl))⟩
  f25 := ⟨Tryd.f83.name, by decide, Tryd.func83.trans (congrArg some (by kernel_rfl))⟩
  f26 := ⟨Tryd.f84.name, by decide, Tryd.func84.trans (congrArg some (by kernel_rfl))⟩
  f27 := ⟨Tryd.f85.name, by decide, Tryd.func85.trans (congrArg some (by kernel_rfl))⟩
  f28 := Tryd.func86.trans (congrArg some (by kernel_rfl))
  f29 := Tryd.func87.trans (congrArg some (by kernel_rfl))
  f46 := ⟨Tryd.f88.name, by decide, Tryd.func88.trans (congrArg some (by kernel_rfl))⟩
  f47 := Tryd.func89.trans (congrArg some (by kernel_rfl))
  f48 := Tryd.func90.trans (congrArg some (by kernel_rfl))
  f49 := ⟨Tryd.f91.name, by decide, Tryd.func91.trans (congrArg some (by kernel_rfl))⟩
  f50 := ⟨Tryd.f92.name, by decide, Tryd.func92.trans (congrArg some (by kernel_rfl))⟩
  f57 := ⟨Tryd.f93.name, by decide, Tryd.func93.trans (congrArg some (by kernel_rfl))⟩
  t0 := Tryd.underlying0
  a0 := Tryd.isAgg0
  z0 := Tryd.sizeOf0
  v0 := Tryd.zeroValue0
  t3 := Tryd.underlying3
  a3 := Tryd.isAgg3
  z3 := Tryd.sizeOf3
  v3 := Tryd.zeroValue3
  t4 := Tryd.underlying4
  a4 := Tryd.isAgg4
  z4 := Tryd.sizeOf4
  v4 := Tryd.zeroValue4
  t5 := Tryd.underlying5
  a5 := Tryd.isAgg5
  z5 := Tryd.sizeOf5
  v5 := Tryd.zeroValue5
  t9 := Tryd.underlying9
  a9 := Tryd.isAgg9
  z9 := Tryd.sizeOf9
  v9 := Tryd.zeroValue9
  t22 := Tryd.underlying31
  a22 := Tryd.isAgg31
  z22 := Tryd.sizeOf31
  v22 := Tryd.zeroValue31
  t25 := Tryd.underlying96
  a25 := Tryd.isAgg96
  z25 := Tryd.sizeOf96
  v25 := Tryd.zeroValue96
  t39 := Tryd.underlying98
  a39 := Tryd.isAgg98
  z39 := Tryd.sizeOf98
  v39 := Tryd.zeroValue98
  t45 := Tryd.underlying115
  a45 := Tryd.isAgg115
  z45 := Tryd.sizeOf115
  v45 := Tryd.zeroValue115
  t46 := Tryd.underlying116
  a46 := Tryd.isAgg116
  z46 := Tryd.sizeOf116
  v46 := Tryd.zeroValue116
  t50 := Tryd.underlying89
  a50 := Tryd.isAgg89
  z50 := Tryd.sizeOf89
  v50 := Tryd.zeroValue89
  t53 := Tryd.underlying122
  a53 := Tryd.isAgg122
  z53 := Tryd.sizeOf122
  v53 := Tryd.zeroValue122
  t55 := Tryd.underlying60
  a55 := Tryd.isAgg60
  z55 := Tryd.sizeOf60
  v55 := Tryd.zeroValue60
  t66 := Tryd.underlying123
  a66 := Tryd.isAgg123
  z66 := Tryd.sizeOf123
  v66 := Tryd.zeroValue123
  t70 := Tryd.underlying43
  a70 := Tryd.isAgg43
  z70 := Tryd.sizeOf43
  v70 := Tryd.zeroValue43
  t76 := Tryd.underlying128
  a76 := Tryd.isAgg128
  z76 := Tryd.sizeOf128
  v76 := Tryd.zeroValue128
  t77 := Tryd.underlying129
  a77 := Tryd.isAgg129
  z77 := Tryd.sizeOf129
  v77 := Tryd.zeroValue129 }
end Go.Proofs

/- The contract of slices.SortFunc at replies of the call's own. -/
namespace Go.Proofs.YtgboplcjafmliaaDoor.G
open Go.RowKit Go.Proofs.YtgboplcjafmliaaDoorW.PrintWords Go.Proofs.YtgboplcjafmliaaDoorW.PrintLast Go.Proofs.YtgboplcjafmliaaDoorW.PrintMore
open Go.Proofs.YtgboplcjafmliaaDoor.PAll Go.Shelf Go.Sort
set_option linter.unusedVariables false
set_option linter.unusedSimpArgs false

/-- A reply between nodes. -/
abbrev Rp := Fin 64 × Fin 64
def encRp (p : Rp) : List Value := [.int .i64 ((p.1.val : Nat) : Int), .int .i64 ((p.2.val : Nat) : Int)]
def cfRp (p q : Rp) : Int := ((p.1.val : Nat) : Int) - ((q.1.val : Nat) : Int)
theorem ltRp (p q : Rp) : ltOf cfRp p q = decide (p.1.val < q.1.val) := by
  unfold ltOf cfRp
  rw [Bool.eq_iff_iff]; simp; omega
theorem swoRp : SWO (ltOf cfRp) where
  irrefl x := by rw [ltRp]; simp
  trans x y z h1 h2 := by rw [ltRp] at *; simp at *; omega
  ntrans x y z h1 h2 := by rw [ltRp] at *; simp at *; omega

set_option maxHeartbeats 400000 in
theorem cmp57 (a b c d : Nat) (ha : a < 64) (hc : c < 64) (W : World) : Calls Tryd.prog 57 #[.agg #[.int .i64 (a : Int), .int .i64 (b : Int)], .agg #[.int .i64 (c : Int), .int .i64 (d : Int)]] W fun e w' => e = .returned (.int .i64 ((a : Int) - (c : Int))) ∧ ∃ q os', w' = grow (W.drewN q) os' := by
  have h : IntKind.i64.wrap ((a : Int) - (c : Int)) = (a : Int) - (c : Int) := IntWalk.i64_in _ (by omega)
  have H := Aside0.mk h
  clear h
  go_enter Tryd.func57, Tryd.ntmps57
  go_wp2
  go_ret
  refine ⟨?_, 0, #[.cells #[.int .i64 (a : Int), .int .i64 (b : Int)] 77, .cells #[.int .i64 (c : Int), .int .i64 (d : Int)] 77], ?_⟩
  · rfl
  · rw [alloc_eq_grow, alloc_eq_grow, grow_grow]; rfl
set_option maxHeartbeats 400000 in
theorem cmp54 (a b c d : Nat) (ha : a < 64) (hc : c < 64) (W : World) : Calls Tryd.prog 54 #[.agg #[.int .i64 (a : Int), .int .i64 (b : Int)], .agg #[.int .i64 (c : Int), .int .i64 (d : Int)]] W fun e w' => e = .returned (.int .i64 ((a : Int) - (c : Int))) ∧ ∃ q os', w' = grow (W.drewN q) os' := by
  have h : IntKind.i64.wrap ((a : Int) - (c : Int)) = (a : Int) - (c : Int) := IntWalk.i64_in _ (by omega)
  have H := Aside0.mk h
  clear h
  go_enter Tryd.func54, Tryd.ntmps54
  go_wp2
  go_ret
  refine ⟨?_, 0, #[.cells #[.int .i64 (a : Int), .int .i64 (b : Int)] 77, .cells #[.int .i64 (c : Int), .int .i64 (d : Int)] 77], ?_⟩
  · rfl
  · rw [alloc_eq_grow, alloc_eq_grow, grow_grow]; rfl

/-- A row of replies of the call's own. -/
def OwnRp (w : World) (base : Nat) (v : Value) (rs : List Rp) : Prop := w.ownsRow base 77 2 v rs.length (rs.flatMap encRp)
theorem flatRp_len (rs : List Rp) : (rs.flatMap encRp).length = rs.length * 2 := by
  induction rs with
  | nil => rfl
  | cons p rs ih => rw [List.flatMap_cons, List.length_append, ih, List.length_cons]; simp [encRp]; omega
theorem flatRp_get : ∀ (rs : List Rp) (t : Nat), t < rs.length * 2 → (rs.flatMap encRp)[t]? = some ((encRp (rs.getD (t / 2) default))[t % 2]!)
  | [], t, h => by simp at h
  | p :: rs, 0, _ => by simp [encRp]
  | p :: rs, 1, _ => by simp [encRp]
  | p :: rs, t + 2, h => by
    have ih := flatRp_get rs t (by simp at h; omega)
    rw [List.flatMap_cons, List.getElem?_append_right (by simp [encRp])]
    rw [show t + 2 - (encRp p).length = t by simp [encRp], ih, show (t + 2) / 2 = t / 2 + 1 by omega, show (t + 2) % 2 = t % 2 by omega]
    simp
theorem flatK_rp (d : Array Rp) : flatK encRp 2 d = (d.toList.flatMap encRp).toArray := by
  apply Array.ext_getElem?
  intro t
  have hlen : (d.toList.flatMap encRp).length = d.size * 2 := by rw [flatRp_len, Array.length_toList]
  have e2 : (d.toList.flatMap encRp).toArray[t]? = (d.toList.flatMap encRp)[t]? := by simp
  rw [e2]
  by_cases h : t < d.size * 2
  · have h1 := flatRp_get d.toList t (by rw [Array.length_toList]; exact h)
    rw [h1]
    have h2 : t / 2 < d.size := by omega
    simp [flatK, h, h2, List.getD_eq_getElem?_getD]
  · rw [Array.getElem?_eq_none (by rw [size_flatK]; omega), List.getElem?_eq_none (by rw [hlen]; omega)]
theorem put_take (F : List Value) (cur : Array Value) (h : F.length ≤ cur.size) : (putCells id 0 F.toArray cur).toList.take F.length = F := by
  apply List.ext_getElem?
  intro j
  by_cases hj : j < F.length
  · rw [List.getElem?_take_of_lt hj, Array.getElem?_toList]
    simp [putCells, hj, show j < cur.size by omega]
  · rw [List.getElem?_take_eq_none (by omega), List.getElem?_eq_none (by omega)]

theorem sort_any (f : Nat) (hf : f = 57 ∨ f = 54) (rs : List Rp) (hn : rs.length < 1000) (v : Value) (base : Nat) (w : World) (hown : OwnRp w base v rs) :
    Calls Tryd.prog 53 #[v, .func (.func f) #[] #[]] w fun e w' => e = .returned (.tuple #[]) ∧ ∃ rs' : List Rp, Aside0 (rs'.Perm rs) ∧ Aside0 (rs'.Pairwise fun p q => p.1.val ≤ q.1.val) ∧ Aside0 (OwnRp w' base v rs') ∧ Aside0 (w.grownBy w' v.ownBlock) := by
  by_cases h0 : rs.length = 0
  · have e : rs = [] := List.length_eq_zero_iff.1 h0
    subst e
    have hv : ∃ p cap, v = .slice p 0 cap := by
      rcases hown.2 with ⟨h1, _⟩ | ⟨g, cap, cur, h1, _⟩
      · exact ⟨none, 0, h1⟩
      · exact ⟨_, _, h1⟩
    obtain ⟨p, cap, rfl⟩ := hv
    exact (AnyF.slices_SortFunc_none Tryd.sortR p cap (.func (.func f) #[] #[]) w).mono fun e w' ⟨h1, h2⟩ => by
      subst h2
      exact ⟨h1, [], ⟨List.Perm.refl _⟩, ⟨List.Pairwise.nil⟩, ⟨hown⟩, ⟨⟨rfl, rfl, rfl, Nat.le_refl _, fun _ _ _ => rfl⟩⟩⟩
  · rcases hown.2 with ⟨_, h1⟩ | ⟨g, cap, cur, rfl, hg, hb, hcap, hmax, hcur, htake⟩
    · exact absurd h1 h0
    · have eg : ∀ args w, (callFunc f args).run Tryd.prog w = .ok (.enter f args) w := by
        rcases hf with rfl | rfl
        · exact enters_of Tryd.func57 (by kernel_rfl) rfl
        · exact enters_of Tryd.func54 (by kernel_rfl) rfl
      have hcmp : CmpLays Tryd.prog f #[] encRp 2 cfRp g 0 rs.toArray.size w := by
        intro m os dk hs x y
        rcases hf with rfl | rfl
        · exact cmp57 x.1.val x.2.val y.1.val y.2.val x.1.isLt y.1.isLt _
        · exact cmp54 x.1.val x.2.val y.1.val y.2.val x.1.isLt y.1.isLt _
      have hH : HoldsK encRp 2 w g 0 rs.toArray := by
        unfold HoldsK
        rw [flatK_rp]
        intro j hj
        have hj' : j < rs.length * 2 := by rw [List.size_toArray, flatRp_len] at hj; simpa using hj
        refine ⟨?_, by simp [World.frozen?, hb]⟩
        have h1 : (cur.toList.take (rs.length * 2))[j]? = (rs.flatMap encRp)[j]? := by rw [htake]
        rw [List.getElem?_take_of_lt hj', Array.getElem?_toList] at h1
        simp only [World.cell?, hb, Nat.zero_add]
        simp only [Option.isSome_none, Bool.false_eq_true, if_false]
        rw [h1, flatRp_get _ _ hj']
        have h2 := flatRp_get rs j hj'
        simp only [id, List.getElem!_toArray, List.getElem!_eq_getElem?_getD, h2, Option.getD_some]
      have hcon := AnyQ.slices_SortFunc Tryd.sortR 2 Tryd.isAgg77 Tryd.sizeOf77 encRp (fun _ => rfl) (fun x v hv => by simp [encRp] at hv; rcases hv with rfl | rfl <;> rfl) cfRp swoRp f #[] g 0 cap rs.toArray w eg hcmp hH ((Array.getElem?_eq_some_iff.1 hb).1) (by simp; omega)
      change Calls Tryd.prog 53 _ _ _ at hcon
      refine hcon.mono ?_
      rintro e w' ⟨he, d', m, os, hp, hs, rfl⟩
      have hsz : d'.size = rs.length := by have := hp.1; simpa using this
      have hgl : g < w.heap.size := (Array.getElem?_eq_some_iff.1 hb).1
      refine ⟨he, d'.toList, ⟨?_⟩, ⟨?_⟩, ⟨?_⟩, ⟨?_⟩⟩
      · have h1 := hp.2.2
        have e1 : d'.extract 0 rs.toArray.size = d' := by rw [show rs.toArray.size = d'.size by simp [hsz]]; simp
        have e2 : rs.toArray.extract 0 rs.toArray.size = rs.toArray := by simp
        rw [e1, e2] at h1
        exact h1
      · rw [List.pairwise_iff_getElem]
        intro i j hi hj hij
        have h1 := hs i j (Nat.zero_le _) hij (by simpa [hsz] using hj)
        rw [ltRp, decide_eq_false_iff_not] at h1
        have hi' : i < d'.size := by simpa using hi
        have hj' : j < d'.size := by simpa using hj
        simp only [getElem!_pos, hi', hj'] at h1
        simp only [Array.getElem_toList]
        omega
      · have hheap : (sortWorldK encRp 2 w g 0 m d' os).heap[g]? = some (.cells (putCells id 0 (d'.toList.flatMap encRp).toArray cur) 77 (0, 0)) := by
          unfold sortWorldK putRowK
          rw [flatK_rp, heap_grow_old _ _ (by simpa using hgl)]
          simp [putRow, mapBlock, Sort.ahead, Array.getElem?_modify, hb, onCells]
        refine ⟨flatRp_len _, .inr ⟨g, cap, _, ?_, hg, hheap, ?_, hmax, ?_, ?_⟩⟩
        · simp [hsz]
        · simp [hsz]; exact hcap
        · simp [putCells, hcur]
        · have h3 := put_take (d'.toList.flatMap encRp) cur (by rw [flatRp_len, hcur]; simp [hsz]; omega)
          rw [flatRp_len] at h3
          exact h3
      · refine ⟨rfl, rfl, rfl, by simp [sortWorldK, putRowK], fun k hk hne => ?_⟩
        unfold sortWorldK putRowK
        rw [heap_grow_old _ _ (by simpa using hk)]
        have : g ≠ k := fun e => hne (by rw [e]; rfl)
        simp [putRow, mapBlock, Sort.ahead, Array.getElem?_modify, this]
end Go.Proofs.YtgboplcjafmliaaDoor.G

/- Rows of the call's own: append, and what stays. -/
namespace Go.Proofs.YtgboplcjafmliaaDoor.G
open Go.RowKit Go.Proofs.YtgboplcjafmliaaDoorW.PrintWords Go.Proofs.YtgboplcjafmliaaDoorW.PrintLast Go.Proofs.YtgboplcjafmliaaDoorW.PrintMore
open Go.Proofs.YtgboplcjafmliaaDoor.PAll
set_option linter.unusedVariables false
set_option linter.unusedSimpArgs false

/-- A row of numbers of the call's own. -/
def OwnI (w : World) (base : Nat) (v : Value) (l : List Nat) : Prop := w.ownsRow base 3 1 v l.length (nums .i64 (up l))
theorem OwnI.reads {w : World} {base : Nat} {v : Value} {l : List Nat} (h : OwnI w base v l) : ∃ A c, v = .slice A l.length c ∧ RdN .i64 w A c l := by
  obtain ⟨A, c, h1, h2⟩ := own_reads (k := .i64) h
  obtain ⟨A', c', h3, h4⟩ : ∃ A' c', v = .slice A' l.length c' ∧ l.length ≤ c' := by
    rcases h.2 with ⟨h3, h4⟩ | ⟨g, cap, cur, h3, _, _, h4, _⟩
    · exact ⟨none, 0, by rw [h3, h4], by omega⟩
    · exact ⟨_, _, h3, h4⟩
  rw [h1] at h3
  injection h3 with e1 e2 e3
  subst e1 e3
  refine ⟨A, c, h1, h4, Kd.C_of_reads (d := (0 : Int)) (h1 := fun _ => rfl) ?_⟩
  exact ⟨by rw [up_length], by have := h2.2.1; omega, fun hp => by
    obtain ⟨ad, e, hc⟩ := h2.2.2 hp
    exact ⟨ad, e, fun j hj => hc j hj⟩⟩

theorem St.grown {w x y : World} {bs : List (Nat × Obj)} (h : St w bs x) {row : Option Nat} (hg : x.grownBy y row) (hr : ∀ k, row = some k → w.heap.size ≤ k) (hne : ∀ p, p ∈ bs → some p.1 ≠ row) : St w bs y :=
  ⟨h.hb.grown hg h.hb.size hr, fun p hp => blk_grown (h.blk p hp) hg (hne p hp)⟩
theorem OwnI.grown {w w1 : World} {base : Nat} {v : Value} {l : List Nat} (h : OwnI w base v l) {row : Option Nat} (hg : w.grownBy w1 row) (hne : v.ownBlock = none ∨ v.ownBlock ≠ row) : OwnI w1 base v l := own_other h hg hne
theorem OwnRp.grown {w w1 : World} {base : Nat} {v : Value} {l : List Rp} (h : OwnRp w base v l) {row : Option Nat} (hg : w.grownBy w1 row) (hne : v.ownBlock = none ∨ v.ownBlock ≠ row) : OwnRp w1 base v l := own_other h hg hne
theorem OwnI.below {w w1 : World} {base : Nat} {v : Value} {l : List Nat} (h : OwnI w base v l) (hb : Below w.heap.size w w1) : OwnI w1 base v l := pw_own_below h hb
theorem OwnRp.below {w w1 : World} {base : Nat} {v : Value} {l : List Rp} (h : OwnRp w base v l) (hb : Below w.heap.size w w1) : OwnRp w1 base v l := pw_own_below h hb
section
variable {P : Program} {ops : Array Oper} {Q : Exit → Act → World → Prop} {a : Act} {rest : List Oper} {o : Oper}
/-- append of a node to a row of the call's own. -/
theorem app_node {w0 W : World} (t : TypeId) (s x : Operand) (hgd : o.guard = none)
    (ho : o.op = .call { callee := .builtin .append, args := #[s, x], argTypes := #[t, t] })
    (ht : P.underlying t = some (.slice 3)) (hinfo : (P.info? 3).map (fun i => (i.zero, i.size, i.bytes)) = some (some (.int .i64 0), 1, 8))
    (v : Value) (xs : List Nat) (y : Nat) (hs : a.eval s = v) (hx : a.eval x = .slice (some ⟨W.heap.size, 0, none⟩) 1 1)
    (HO : OwnI W w0.heap.size v xs) (HB : Below w0.heap.size w0 W) (hl : xs.length < 1000000)
    (h : ∀ v1 w1, OwnI w1 w0.heap.size v1 (xs ++ [y]) → W.grownBy w1 v.ownBlock → (v1.ownBlock = v.ownBlock ∨ ∃ b, v1.ownBlock = some b ∧ W.heap.size ≤ b) → wpList P ops Q rest (a.put o.dst v1) w1) :
    wpList P ops Q (o :: rest) a (W.alloc (.cells #[.int .i64 (y : Int)] 3)) :=
  print_append_cells (w0 := w0) w0.heap.size hgd s x t 3 (.int .i64 0) 1 8 ho ht hinfo rfl (by decide) (by decide) v xs.length (nums .i64 (up xs)) [.int .i64 (y : Int)] hs hx rfl (by simp [Value.oneCell']) HO HB HB.size (by omega)
    fun v1 w1 h1 _ h3 h4 => h v1 w1 (by
      unfold OwnI
      rw [show (xs ++ [y]).length = xs.length + 1 by simp, show nums .i64 (up (xs ++ [y])) = nums .i64 (up xs) ++ [.int .i64 (y : Int)] by simp [up, nums]]
      exact h1) h3 h4
/-- append of a reply to a row of the call's own. -/
theorem app_rp {w0 W : World} (t : TypeId) (s x : Operand) (hgd : o.guard = none)
    (ho : o.op = .call { callee := .builtin .append, args := #[s, x], argTypes := #[t, t] })
    (ht : P.underlying t = some (.slice 77)) (hinfo : (P.info? 77).map (fun i => (i.zero, i.size, i.bytes)) = some (some (.agg #[.int .i64 0, .int .i64 0]), 2, 16))
    (v : Value) (xs : List Rp) (y : Rp) (hs : a.eval s = v) (hx : a.eval x = .slice (some ⟨W.heap.size, 0, none⟩) 1 1)
    (HO : OwnRp W w0.heap.size v xs) (HB : Below w0.heap.size w0 W) (hl : xs.length < 1000000)
    (h : ∀ v1 w1, OwnRp w1 w0.heap.size v1 (xs ++ [y]) → W.grownBy w1 v.ownBlock → (v1.ownBlock = v.ownBlock ∨ ∃ b, v1.ownBlock = some b ∧ W.heap.size ≤ b) → wpList P ops Q rest (a.put o.dst v1) w1) :
    wpList P ops Q (o :: rest) a (W.alloc (.cells #[.int .i64 ((y.1.val : Nat) : Int), .int .i64 ((y.2.val : Nat) : Int)] 77)) :=
  print_append_cells (w0 := w0) w0.heap.size hgd s x t 77 (.agg #[.int .i64 0, .int .i64 0]) 2 16 ho ht hinfo rfl (by decide) (by decide) v xs.length (xs.flatMap encRp) (encRp y) hs hx rfl (by simp [encRp, Value.oneCell']) HO HB HB.size (by omega)
    fun v1 w1 h1 _ h3 h4 => h v1 w1 (by
      unfold OwnRp
      rw [show (xs ++ [y]).length = xs.length + 1 by simp, show (xs ++ [y]).flatMap encRp = xs.flatMap encRp ++ encRp y by simp]
      exact h1) h3 h4
end

/-- The state of a call that keeps a row of nodes, a row of replies and a list of nodes that it reads. -/
structure AS (w : World) (bs : List (Nat × Obj)) (v7 v9 v30 : Value) (R : List Nat) (ol : List Rp) (L : List Nat) (x : World) : Prop where
  st : St w bs x
  r : OwnI x w.heap.size v7 R
  o : OwnRp x w.heap.size v9 ol
  l : OwnI x w.heap.size v30 L
  ne : v7.ownBlock = none ∨ v30.ownBlock = none ∨ v7.ownBlock ≠ v30.ownBlock
  ty : ∀ p, p ∈ bs → ∃ cs t, p.2 = .cells cs t (0, 0) ∧ t ≠ 3 ∧ t ≠ 77
variable {w x y : World} {bs : List (Nat × Obj)} {v7 v9 v30 : Value} {R L : List Nat} {ol : List Rp}
theorem AS.nx (h : AS w bs v7 v9 v30 R ol L x) (hb : Below x.heap.size x y) : AS w bs v7 v9 v30 R ol L y := ⟨h.st.nx hb, h.r.below hb, h.o.below hb, h.l.below hb, h.ne, h.ty⟩
theorem AS.drewN (h : AS w bs v7 v9 v30 R ol L x) (n : Nat) : AS w bs v7 v9 v30 R ol L (x.drewN n) := h.nx (pw_below_drewN (Below.refl _ _) n)
theorem own_base' {w : World} {base : Nat} {e : TypeId} {size n : Nat} {v : Value} {xs : List Value} (h : w.ownsRow base e size v n xs) : ∀ k, v.ownBlock = some k → base ≤ k := fun k hk => own_base h k hk
theorem AS.blk3 (h : AS w bs v7 v9 v30 R ol L x) {v : Value} {l : List Nat} (hv : OwnI x w.heap.size v l) : ∀ p, p ∈ bs → some p.1 ≠ v.ownBlock := fun p hp => by
  obtain ⟨cs, t, e, h3, h77⟩ := h.ty p hp
  have hb := h.st.blk p hp
  rw [e] at hb
  exact own_ne hv hb (Ne.symm h3)
theorem AS.blk77 (h : AS w bs v7 v9 v30 R ol L x) : ∀ p, p ∈ bs → some p.1 ≠ v9.ownBlock := fun p hp => by
  obtain ⟨cs, t, e, h3, h77⟩ := h.ty p hp
  have hb := h.st.blk p hp
  rw [e] at hb
  exact own_ne h.o hb (Ne.symm h77)
/-- Behind an append to the row of nodes. -/
theorem AS.appR (h : AS w bs v7 v9 v30 R ol L x) {v' : Value} {R' : List Nat} (hr : OwnI y w.heap.size v' R') (hg : x.grownBy y v7.ownBlock) (hat : v'.ownBlock = v7.ownBlock ∨ ∃ b, v'.ownBlock = some b ∧ x.heap.size ≤ b) : AS w bs v' v9 v30 R' ol L y where
  st := h.st.grown hg (own_base' h.r) (h.blk3 h.r)
  r := hr
  o := h.o.grown hg (by
    rcases own_type_ne h.o h.r (by decide) with e | e
    · exact .inl e
    · exact .inr e)
  l := h.l.grown hg (by
    rcases h.ne with e | e | e
    · cases h5 : v30.ownBlock with
      | none => exact .inl rfl
      | some k => exact .inr (by rw [e]; simp)
    · exact .inl e
    · exact .inr (Ne.symm e))
  ne := by
    rcases hat with e | ⟨b, e, hb⟩
    · rw [e]; exact h.ne
    · cases h5 : v30.ownBlock with
      | none => exact .inr (.inl rfl)
      | some k =>
        refine .inr (.inr ?_)
        rw [e]
        intro hk
        injection hk with hk
        have := own_lt h.l k h5
        omega
  ty := h.ty
/-- Behind an append to the row of replies. -/
theorem AS.appO (h : AS w bs v7 v9 v30 R ol L x) {v' : Value} {ol' : List Rp} (ho : OwnRp y w.heap.size v' ol') (hg : x.grownBy y v9.ownBlock) : AS w bs v7 v' v30 R ol' L y where
  st := h.st.grown hg (own_base' h.o) h.blk77
  r := h.r.grown hg (own_type_ne h.r h.o (by decide))
  o := ho
  l := h.l.grown hg (own_type_ne h.l h.o (by decide))
  ne := h.ne
  ty := h.ty
/-- Another list is read from here on. -/
theorem AS.newL (h : AS w bs v7 v9 v30 R ol L x) {v' : Value} {L' : List Nat} (hb : Below x.heap.size x y) (hl : y.ownsRow x.heap.size 3 1 v' L'.length (nums .i64 (up L'))) : AS w bs v7 v9 v' R ol L' y where
  st := h.st.nx hb
  r := h.r.below hb
  o := h.o.below hb
  l := own_weaken hl h.st.hb.size
  ne := by
    cases h5 : v7.ownBlock with
    | none => exact .inl rfl
    | some k =>
      refine .inr (.inr ?_)
      intro hk
      have h6 := own_lt h.r k h5
      have h7 := own_base hl k hk.symm
      omega
  ty := h.ty
end Go.Proofs.YtgboplcjafmliaaDoor.G

/-
  DERIVED: THE SHELF's CONTRACTS AT THIS DUMP, IN PLAIN WORDS (tools/lay-plain.mjs out of 'YtgboplcjafmliaaDoorShelfC.lean', which tools/lay-shelf.mjs wrote): THE SAME DECLARATIONS UNDER THE SAME NAMES: 'import', 'namespace', 'open', 'def', 'theorem' AND NOTHING ELSE: no command of the shelf's: FOR A HAND-IN. Each laying: the table of numbers ('.._ren') and one theorem, a field a fact of the dump's own or the kernel's comparison; each contract: ONE APPLICATION.
-/
namespace Go.Proofs
open Go.Shelf
set_option linter.unusedVariables false
set_option linter.unusedSimpArgs false
def Tryd.lays107_ren : Go.Shelf.Ren := ⟨fun | 107 => 52 | 108 => 73 | n => n, fun | 28 => 25 | 3 => 3 | 4 => 4 | 0 => 0 | n => n, fun | n => n⟩
theorem Tryd.lays107 : Go.Proofs.Lays.n107 Tryd.prog Tryd.lays107_ren := {
  mixed := by kernel_rfl
  f107 := Tryd.func52.trans (congrArg some (by kernel_rfl))
  f108 := Tryd.func73.trans (congrArg some (by kernel_rfl))
  t0 := Tryd.underlying0
  a0 := Tryd.isAgg0
  z0 := Tryd.sizeOf0
  v0 := Tryd.zeroValue0
  t3 := Tryd.underlying3
  a3 := Tryd.isAgg3
  z3 := Tryd.sizeOf3
  v3 := Tryd.zeroValue3
  t4 := Tryd.underlying4
  a4 := Tryd.isAgg4
  z4 := Tryd.sizeOf4
  v4 := Tryd.zeroValue4
  t28 := Tryd.underlying25
  a28 := Tryd.isAgg25
  z28 := Tryd.sizeOf25
  v28 := Tryd.zeroValue25 }
end Go.Proofs

/- The contract of game.answers, and what it computes. -/
namespace Go.Proofs.YtgboplcjafmliaaDoor.G
open Go.RowKit Go.Proofs.YtgboplcjafmliaaDoorW.PrintWords Go.Proofs.YtgboplcjafmliaaDoorW.PrintLast Go.Proofs.YtgboplcjafmliaaDoorW.PrintMore
open Go.Proofs.YtgboplcjafmliaaDoor.PAll
set_option linter.unusedVariables false
set_option linter.unusedSimpArgs false

theorem contains_any (v : Value) (base : Nat) (l : List Nat) (y : Nat) (w : World) (h : OwnI w base v l) :
    Calls Tryd.prog 52 #[v, .int .i64 (y : Int)] w fun e w' => e = .returned (.bool (l.contains y)) ∧ w = w' := by
  have hup : (up l).contains (y : Int) = l.contains y := by
    rw [Bool.eq_iff_iff, List.contains_iff_mem, List.contains_iff_mem]
    simp only [up, List.mem_map]
    constructor
    · rintro ⟨a, ha, e⟩
      have : a = y := by omega
      rw [← this]; exact ha
    · exact fun h => ⟨y, h, rfl⟩
  rcases h.2 with ⟨rfl, h0⟩ | ⟨g, cap, cur, rfl, hg, hb, hcap, hmax, hcur, htake⟩
  · have e : l = [] := List.length_eq_zero_iff.1 h0
    subst e
    exact (Any.slices_Contains_int_empty Tryd.lays107 none 0 (y : Int) w).mono fun e w' ⟨h1, h2⟩ => ⟨h1, h2.symm⟩
  · have hc : ∀ j, j < (up l).length → w.cell? ⟨g, 0 + j, none⟩ = some (.int .i64 ((up l).getD j 0)) := by
      intro j hj
      have hj' : j < l.length * 1 := by rw [up_length] at hj; omega
      have h1 : (cur.toList.take (l.length * 1))[j]? = (nums .i64 (up l))[j]? := by rw [htake]
      rw [List.getElem?_take_of_lt hj', Array.getElem?_toList] at h1
      rw [Nat.zero_add, blk_cell hb, h1]
      simp only [nums, List.getElem?_map, List.getD_eq_getElem?_getD]
      rw [List.getElem?_eq_getElem hj]; rfl
    have h1 := Any.slices_Contains_int Tryd.lays107 g 0 l.length cap (up l) (y : Int) w (by rw [up_length]; exact Nat.le_refl _) (by have := hmax; unfold maxLen at this; omega) hc
    refine h1.mono fun e w' ⟨h2, h3⟩ => ⟨?_, h3.symm⟩
    rw [h2, show (up l).take l.length = up l by rw [List.take_of_length_le (by rw [up_length]; exact Nat.le_refl _)], hup]

theorem list_own (s : Nat) (hs : s < 2 ^ 64) (w : World) (hT : TabW w) :
    Calls Tryd.prog 43 #[.int .u64 s] w fun e w' => ∃ v, e = .returned v ∧ Aside0 (w'.ownsRow w.heap.size 3 1 v (bl s).length (nums .i64 (up (bl s)))) ∧ Aside0 (Below w.heap.size w w') :=
  (list_any s hs w hT).mono fun e w' ⟨v0, he, hR, hb⟩ => by
    have h := Kd.own_of_R hR
    rw [List.length_map] at h
    exact ⟨v0, he, ⟨h⟩, ⟨hb⟩⟩

/-- The nodes that a player's replies reach. -/
inductive Rc (n : NetD) (root : Nat) (pk : Nat → Nat) : Nat → Prop
  | root : Rc n root pk root
  | step {a x : Nat} : Rc n root pk a → (nth n.by_ a).testBit x = true → Rc n root pk (pk x)
/-- The attackers of reached nodes. -/
def RcA (n : NetD) (root : Nat) (pk : Nat → Nat) (x : Nat) : Prop := ∃ a, Rc n root pk a ∧ (nth n.by_ a).testBit x = true
/-- What the loops of answers keep: R the nodes that are reached, sl the attackers that have been seen, m these as a set. -/
structure AI (n : NetD) (root : Nat) (pk : Nat → Nat) (R sl : List Nat) (m : Nat) : Prop where
  r0 : root ∈ R
  rn : R.Nodup
  rr : ∀ a, a ∈ R → Rc n root pk a
  sm : ∀ x, m.testBit x = true ↔ x ∈ sl
  sr : ∀ x, x ∈ sl → RcA n root pk x ∧ pk x ∈ R
/-- The attackers of the first nodes have been seen. -/
def Seen (n : NetD) (R sl : List Nat) (i : Nat) : Prop := ∀ j, j < i → ∀ x, (nth n.by_ (nth R j)).testBit x = true → x ∈ sl
def addN (R : List Nat) (y : Nat) : List Nat := if R.contains y = true then R else R ++ [y]
theorem mem_addN (R : List Nat) (y : Nat) : y ∈ addN R y := by
  unfold addN
  split
  · rename_i h; exact List.contains_iff_mem.1 h
  · simp
theorem sub_addN (R : List Nat) (y a : Nat) (h : a ∈ R) : a ∈ addN R y := by
  unfold addN
  split
  · exact h
  · exact List.mem_append_left _ h
theorem nth_addN (R : List Nat) (y j : Nat) (h : j < R.length) : nth (addN R y) j = nth R j := by
  unfold addN
  split
  · rfl
  · unfold nth; rw [List.getD_eq_getElem?_getD, List.getD_eq_getElem?_getD, List.getElem?_append_left h]
theorem len_addN (R : List Nat) (y : Nat) : R.length ≤ (addN R y).length := by
  unfold addN
  split
  · exact Nat.le_refl _
  · simp
theorem AI.step {n : NetD} {root : Nat} {pk : Nat → Nat} {R sl : List Nat} {m x a : Nat} (h : AI n root pk R sl m) (ha : a ∈ R) (hx : (nth n.by_ a).testBit x = true) : AI n root pk (addN R (pk x)) (sl ++ [x]) (m ||| 2 ^ x) where
  r0 := sub_addN _ _ _ h.r0
  rn := by
    unfold addN
    split
    · exact h.rn
    · rename_i hc
      rw [List.nodup_append]
      refine ⟨h.rn, by simp, fun a ha b hb => ?_⟩
      rw [List.mem_singleton] at hb
      subst hb
      intro e
      subst e
      exact hc (List.contains_iff_mem.2 ha)
  rr := fun b hb => by
    unfold addN at hb
    split at hb
    · exact h.rr b hb
    · rcases List.mem_append.1 hb with hb | hb
      · exact h.rr b hb
      · rw [List.mem_singleton] at hb; subst hb; exact .step (h.rr a ha) hx
  sm := fun z => by
    rw [Nat.testBit_or, Nat.testBit_two_pow, Bool.or_eq_true, h.sm z]
    simp [eq_comm]
  sr := fun z hz => by
    rcases List.mem_append.1 hz with hz | hz
    · exact ⟨(h.sr z hz).1, sub_addN _ _ _ (h.sr z hz).2⟩
    · rw [List.mem_singleton] at hz; subst hz; exact ⟨⟨a, h.rr a ha, hx⟩, mem_addN _ _⟩
theorem nth_get (l : List Nat) (j : Nat) (h : j < l.length) : nth l j = l[j] := by
  rw [nth, List.getD_eq_getElem?_getD, List.getElem?_eq_getElem h]; rfl
theorem nodup_le : ∀ (N : Nat) (R : List Nat), R.Nodup → (∀ a, a ∈ R → a < N) → R.length ≤ N
  | 0, R, _, h => by
    cases R with
    | nil => simp
    | cons a R => have := h a List.mem_cons_self; omega
  | N + 1, R, hn, h => by
    have ih := nodup_le N (R.erase N) (hn.erase N) (fun a ha => by
      have h1 := h a (List.mem_of_mem_erase ha)
      have h2 : a ≠ N := fun e => by subst e; exact (List.Nodup.not_mem_erase hn) ha
      omega)
    have := List.length_erase_le (a := N) (l := R)
    by_cases hm : N ∈ R
    · rw [List.length_erase_of_mem hm] at ih; omega
    · rw [List.erase_of_not_mem hm] at ih; omega
theorem AI.done {n : NetD} {root : Nat} {pk : Nat → Nat} {R sl : List Nat} {m : Nat} (h : AI n root pk R sl m) (hs : Seen n R sl R.length) (x : Nat) : m.testBit x = true ↔ RcA n root pk x := by
  have hall : ∀ a, Rc n root pk a → a ∈ R := by
    intro a ha
    induction ha with
    | root => exact h.r0
    | step _ hx ih =>
      obtain ⟨j, hj, e⟩ := List.mem_iff_getElem.1 ih
      refine (h.sr _ (hs j hj _ ?_)).2
      rw [nth_get R j hj, e]
      exact hx
  rw [h.sm]
  constructor
  · exact fun hx => (h.sr x hx).1
  · rintro ⟨a, ha, hx⟩
    obtain ⟨j, hj, e⟩ := List.mem_iff_getElem.1 (hall a ha)
    refine hs j hj x ?_
    rw [nth_get R j hj, e]
    exact hx
theorem AI.le {n : NetD} {root : Nat} {pk : Nat → Nat} {R sl : List Nat} {m N : Nat} (h : AI n root pk R sl m) (hN : ∀ a, Rc n root pk a → a < N) : R.length ≤ N := by
  exact nodup_le N R h.rn (fun a ha => hN a (h.rr a ha))
def rp (x y : Nat) : Rp := (Fin.ofNat 64 x, Fin.ofNat 64 y)
theorem rp_fst (x y : Nat) (h : x < 64) : (rp x y).1.val = x := by simp [rp]; omega
theorem rp_snd (x y : Nat) (h : y < 64) : (rp x y).2.val = y := by simp [rp]; omega
/-- A sorted list of replies with as many different nodes as a set has is that set's. -/
theorem sorted_is (m : Nat) (hm : m < 2 ^ 64) (pk : Nat → Nat) (sl : List Nat) (hn : sl.Nodup) (hs : ∀ x, m.testBit x = true ↔ x ∈ sl) (rs : List Rp) (hp : rs.Perm (sl.map fun x => rp x (pk x))) (hso : rs.Pairwise fun p q => p.1.val ≤ q.1.val) : rs = (bl m).map fun x => rp x (pk x) := by
  have hlt : ∀ x, x ∈ sl → x < 64 := fun x hx => bl_lt m x ((mem_bl m x hm).2 ((hs x).2 hx))
  have hperm : sl.Perm (bl m) := by
    apply (List.perm_ext_iff_of_nodup hn ((bl_sorted m).imp (fun h => Nat.ne_of_lt h))).2
    intro x; rw [mem_bl m x hm, hs]
  have h2 : rs.Perm ((bl m).map fun x => rp x (pk x)) := hp.trans (hperm.map _)
  refine List.Perm.eq_of_pairwise (le := fun p q : Rp => p.1.val ≤ q.1.val) ?_ hso ?_ h2
  · intro a b ha hb h3 h4
    obtain ⟨x, hx, rfl⟩ := List.mem_map.1 (h2.mem_iff.1 ha)
    obtain ⟨y, hy, rfl⟩ := List.mem_map.1 hb
    rw [rp_fst _ _ (bl_lt m x hx), rp_fst _ _ (bl_lt m y hy)] at h3 h4
    have : x = y := by omega
    rw [this]
  · rw [List.pairwise_map]
    refine List.Pairwise.imp_of_mem ?_ (bl_sorted m)
    intro a b ha hb hab
    rw [rp_fst _ _ (bl_lt m a ha), rp_fst _ _ (bl_lt m b hb)]; omega

def s77 (p : Rp) : S77 := ⟨((p.1.val : Nat) : Int), ((p.2.val : Nat) : Int)⟩
/-- A row of replies that is read. -/
def RdR (w : World) (A : Option Addr) (c : Nat) (rs : List Rp) : Prop := rs.length ≤ c ∧ k77.C w A rs.length (rs.map s77)
theorem RdR.below {w w1 : World} {A : Option Addr} {c : Nat} {rs : List Rp} (h : RdR w A c rs) (hb : Below w.heap.size w w1) : RdR w1 A c rs := ⟨h.1, Kd.C_below h.2 hb⟩
theorem OwnRp.reads {w : World} {base : Nat} {v : Value} {rs : List Rp} (h : OwnRp w base v rs) : ∃ A c, v = .slice A rs.length c ∧ RdR w A c rs := by
  rcases h.2 with ⟨rfl, h0⟩ | ⟨g, cap, cur, rfl, hg, hb, hcap, hmax, hcur, htake⟩
  · refine ⟨none, 0, by rw [h0], by omega, by rw [List.length_map], by omega, fun hp => by omega⟩
  · refine ⟨_, cap, rfl, hcap, by rw [List.length_map], by have := hmax; unfold maxLen at this; omega, fun hp => ⟨_, rfl, fun j p hj => ?_⟩⟩
    rw [List.getElem?_map] at hj
    cases hr : rs[j]? with
    | none => rw [hr] at hj; cases hj
    | some q =>
      rw [hr] at hj
      simp only [Option.map_some, Option.some.injEq] at hj
      subst hj
      obtain ⟨hjl, hq⟩ := List.getElem?_eq_some_iff.1 hr
      refine ⟨_, rfl, k77_mk w (s77 q), fun i u hu => ?_⟩
      have hi : i < 2 := by
        obtain ⟨h1, _⟩ := List.getElem?_eq_some_iff.1 hu
        simpa using h1
      have hlt : j * 2 + i < rs.length * 2 := by omega
      have h1 : (cur.toList.take (rs.length * 2))[j * 2 + i]? = (rs.flatMap encRp)[j * 2 + i]? := by rw [htake]
      rw [List.getElem?_take_of_lt hlt, Array.getElem?_toList, flatRp_get _ _ hlt] at h1
      show w.cell? ((⟨g, 0, none⟩ : Addr).add (j * 2 + i)) = some u
      rw [add_plain, blk_cell hb, h1, show (j * 2 + i) / 2 = j by omega, show (j * 2 + i) % 2 = i by omega]
      rw [List.getD_eq_getElem?_getD, hr]
      rcases (by omega : i = 0 ∨ i = 1) with rfl | rfl
      · simpa [encRp, s77] using hu
      · simpa [encRp, s77] using hu
section
variable {P : Program} {ops : Array Oper} {Q : Exit → Act → World → Prop} {a : Act} {rest : List Oper} {o : Oper}
theorem app_rp2 {w0 W : World} (t : TypeId) (s x : Operand) (hgd : o.guard = none)
    (ho : o.op = .call { callee := .builtin .append, args := #[s, x], argTypes := #[t, t] })
    (ht : P.underlying t = some (.slice 77)) (hinfo : (P.info? 77).map (fun i => (i.zero, i.size, i.bytes)) = some (some (.agg #[.int .i64 0, .int .i64 0]), 2, 16))
    (v : Value) (xs : List Rp) (p q : Nat) (hp : p < 64) (hq : q < 64) (hs : a.eval s = v) (hx : a.eval x = .slice (some ⟨W.heap.size, 0, none⟩) 1 1)
    (HO : OwnRp W w0.heap.size v xs) (HB : Below w0.heap.size w0 W) (hl : xs.length < 1000000)
    (h : ∀ v1 w1, OwnRp w1 w0.heap.size v1 (xs ++ [rp p q]) → W.grownBy w1 v.ownBlock → wpList P ops Q rest (a.put o.dst v1) w1) :
    wpList P ops Q (o :: rest) a (W.alloc (.cells #[.int .i64 (p : Int), .int .i64 (q : Int)] 77)) := by
  have h1 := app_rp (w0 := w0) t s x hgd ho ht hinfo v xs (rp p q) hs hx HO HB hl (fun v1 w1 h1 h2 _ => h v1 w1 h1 h2)
  rw [rp_fst p q hp, rp_snd p q hq] at h1
  exact h1
end
theorem AS_ty1 (cs : Array Value) (g : Nat) : ∀ p, p ∈ [(g, Obj.cells cs 64 (0, 0))] → ∃ cs t, p.2 = .cells cs t (0, 0) ∧ t ≠ 3 ∧ t ≠ 77 := fun p hp => by
  rcases List.mem_cons.1 hp with rfl | hp
  · exact ⟨_, _, rfl, by decide, by decide⟩
  · cases hp

theorem take_next (L : List Nat) (j : Nat) (h : j < L.length) (y : Nat) (hy : y ∈ L.take (j + 1)) : y ∈ L.take j ∨ y = nth L j := by
  rw [List.take_add_one, List.mem_append, List.getElem?_eq_getElem h] at hy
  rw [nth_get L j h]
  simpa using hy
theorem AI.lt {n : NetD} {root : Nat} {pk : Nat → Nat} {R sl : List Nat} {m N : Nat} (h : AI n root pk R sl m) (hm : m < 2 ^ N) (hN : N ≤ 40) (hn : sl.Nodup) : sl.length ≤ 40 := by
  refine Nat.le_trans (nodup_le N sl hn fun x hx => ?_) hN
  exact bl_in hN hm ((mem_bl m x (p64 hN hm)).2 ((h.sm x).2 hx))
theorem addN_old {R : List Nat} {y : Nat} (h : R.contains y = true) : addN R y = R := by unfold addN; rw [if_pos h]
theorem addN_new {R : List Nat} {y : Nat} (h : R.contains y = false) : addN R y = R ++ [y] := by unfold addN; rw [if_neg (by rw [h]; simp)]
theorem Seen.add {n : NetD} {R sl : List Nat} {i : Nat} (h : Seen n R sl i) (hi : i < R.length) (y x : Nat) : Seen n (addN R y) (sl ++ [x]) i := fun j hj z hz => by
  rw [nth_addN R y j (by omega)] at hz
  exact List.mem_append_left _ (h j hj z hz)
def AtA (n : NetD) (R sl : List Nat) (i a j : Nat) : Prop := nth R i = a ∧ i < R.length ∧ ∀ x, x ∈ (bl (nth n.by_ a)).take j → x ∈ sl
theorem AtA.add {n : NetD} {R sl : List Nat} {i a j x : Nat} (h : AtA n R sl i a j) (ht : ∀ y, y ∈ (bl (nth n.by_ a)).take (j + 1) → y ∈ (bl (nth n.by_ a)).take j ∨ y = x) (y : Nat) : AtA n (addN R y) (sl ++ [x]) i a (j + 1) :=
  ⟨by rw [nth_addN R y i h.2.1]; exact h.1, Nat.lt_of_lt_of_le h.2.1 (len_addN R y), fun z hz => (ht z hz).elim (fun h1 => List.mem_append_left _ (h.2.2 z h1)) (fun e => by rw [e]; simp)⟩
theorem AtA.seen {n : NetD} {R sl : List Nat} {i a j : Nat} (h : AtA n R sl i a j) (hj : (bl (nth n.by_ a)).length ≤ j) (h64 : nth n.by_ a < 2 ^ 64) (hs : Seen n R sl i) : Seen n R sl (i + 1) := fun k hk x hx => by
  rcases Nat.lt_succ_iff_lt_or_eq.1 hk with h1 | h1
  · exact hs k h1 x hx
  · subst h1
    rw [h.1] at hx
    refine h.2.2 x ?_
    rw [List.take_of_length_le hj]
    exact (mem_bl _ _ h64).2 hx
theorem nodup_snoc {sl : List Nat} {x : Nat} (h : sl.Nodup) (hx : x ∉ sl) : (sl ++ [x]).Nodup := by
  rw [List.nodup_append]
  refine ⟨h, by simp, fun a ha b hb => ?_⟩
  rw [List.mem_singleton] at hb
  subst hb
  exact fun e => hx (e ▸ ha)
set_option maxHeartbeats 8000000 in
set_option maxRecDepth 100000 in
theorem answers_any (N : Nat) (n : NetD) (hok : n.Ok N) (v : Value) (root : Nat) (hroot : root < N) (gf : FuncId) (cb : Array Value) (pk : Nat → Nat) (w : World) (hT : TabW w) (hn : NetV w n v)
    (eg : ∀ args W, (callFunc gf args).run Tryd.prog W = .ok (.enter gf args) W)
    (hp : ∀ x, RcA n root pk x → ∀ W, Below w.heap.size w W → Calls Tryd.prog gf (#[.int .i64 (x : Int)] ++ cb) W fun e w' => e = .returned (.int .i64 ((pk x : Nat) : Int)) ∧ Aside0 (Below W.heap.size W w'))
    (hpN : ∀ x, RcA n root pk x → pk x < N) :
    Calls Tryd.prog 29 #[v, .int .i64 (root : Int), .func (.func gf) #[] cb] w fun e w' => ∃ A c m, e = .returned (.slice A (bl m).length c) ∧ Aside0 (m < 2 ^ N ∧ ∀ x, m.testBit x = true ↔ RcA n root pk x) ∧ Aside0 (OwnRp w' w.heap.size (.slice A (bl m).length c) ((bl m).map fun x => rp x (pk x))) ∧ Aside0 (Below w.heap.size w w') := by
  have hn0 := hn
  obtain ⟨A1, c1, A2, c2, rfl, h2, h3⟩ := hn
  have HN := Aside0.mk hn0
  have H2 := Aside0.mk h2
  have HT := Aside0.mk hT
  have HOk := Aside0.mk hok
  have HPk := Aside0.mk hp
  have HRc : Aside0 (∀ a, Rc n root pk a → a < N) := ⟨fun a ha => by
    induction ha with
    | root => exact hroot
    | step h1 h2 _ => exact hpN _ ⟨_, h1, h2⟩⟩
  have HPkN := Aside0.mk hpN
  clear hT h2 h3 hok hn0 hp hpN
  have HB := Aside0.mk (St.refl w)
  let O : Obj := .cells #[.int .u64 n.all, .slice A1 n.by_.length c1, .slice A2 n.out.length c2] 64 (0, 0)
  go_enter Tryd.func29, Tryd.ntmps29
  go_wp2_with (first | ((with_reducible refine gate_dst (N := 3) rfl ?_); refine box_st (w := w) 3 #[.int .u64 n.all, .slice A1 n.by_.length c1, .slice A2 n.out.length c2] 64 rfl rfl ?hr HB.out ?_; (case hr => go_simp; done); clear HB; intro g w1 HB GE))
  have HAS : Aside0 (AS w [(g, O)] (.slice (some ⟨w1.heap.size, 0, none⟩) 1 1) (.slice none 0 0) (.slice none 0 0) [root] [] [] (w1.alloc (.cells #[.int .i64 (root : Int)] 3))) :=
    ⟨⟨HB.out.nx (below_alloc (Below.refl _ _) _), own_lit w1 w.heap.size 3 .i64 [(root : Int)] HB.out.hb.size (by simp), own_nil _ _ _ _, own_nil _ _ _ _, .inr (.inl rfl), AS_ty1 _ _⟩⟩
  have hroot2 := hroot
  clear HB hroot2
  go_loopg [7, 8, 9, 10] (N + 1) (fun kk v7 v8 v9 v10 w' => ∃ (i m : Nat) (R sl L : List Nat) (vL : Value), v10 = .int .i64 (i : Int) ∧ v8 = .int .u64 (m : Int) ∧ Aside0 (i ≤ R.length ∧ R.length ≤ N ∧ N - i < kk) ∧ Aside0 (m < 2 ^ N ∧ sl.Nodup) ∧ Aside0 (AI n root pk R sl m) ∧ Aside0 (Seen n R sl i) ∧ Aside0 (AS w [(g, O)] v7 v9 vL R (sl.map fun x => rp x (pk x)) L w'))
  case atStart =>
    refine ⟨0, 0, [root], [], [], .slice none 0 0, rfl, rfl, ⟨by simp, by simp; omega, by omega⟩, ⟨Nat.two_pow_pos N, List.nodup_nil⟩, ⟨⟨by simp, by simp, fun a ha => by rw [List.mem_singleton.1 ha]; exact .root, fun x => by simp, fun x hx => by cases hx⟩⟩, ⟨fun j hj => by omega⟩, HAS⟩
  case round =>
    clear HAS
    obtain ⟨i, m, R, sl, L0, vL, rfl, rfl, HI, HM, HA, HSn, HS⟩ := hrel
    obtain ⟨A7, c7, rfl, hr7⟩ := HS.out.r.reads
    obtain ⟨k, rfl⟩ : ∃ k, gk = k + 1 := ⟨gk - 1, by have := HI.out; omega⟩
    by_cases hlt : i < R.length
    · have hia := nth_mem R i hlt
      obtain ⟨a, haa⟩ : ∃ a, nth R i = a := ⟨_, rfl⟩
      rw [haa] at hia
      have HIa := Aside0.mk haa
      have haN := HRc.out _ (HA.out.rr _ hia)
      obtain ⟨ad7, rfl, hc7⟩ := hr7.cell i hlt
      rw [haa] at hc7
      clear haa hr7
      have hal : a < n.by_.length := by rw [HOk.out.hb]; exact haN
      have hali : (a : Int) < (n.by_.length : Int) := by omega
      have hlti : (i : Int) < (R.length : Int) := by omega
      obtain ⟨ad1, rfl, hc1⟩ := (H2.out.below HS.out.st.hb).cell a hal
      have hg1 := (HS.out.st.at_ (List.mem_cons_self) 1).trans rfl
      go_wp2
      go_region_held3 (fun w' => w'.cell? ⟨g, 1, none⟩ = some (.slice (some ad1) n.by_.length c1) ∧ w'.cell? (ad7.add i) = some (.int .i64 a) ∧ w'.cell? (ad1.add a) = some (.int .u64 (nth n.by_ a))) (first | go_keep | exact ⟨pw_cell_below hb.out hg1, pw_cell_below hb.out hc7, pw_cell_below hb.out hc1⟩)
        (first | (go_at_call 43; refine (list_own (nth n.by_ a) (p64 HOk.out.hN (HOk.out.lb a)) _ (HT.out.below HT.out.2 HS.out.st.hb.drew)).mono ?_; rintro e w5 ⟨v30, rfl, HL30, hb⟩; obtain ⟨A30, c30, rfl⟩ := own_slice HL30.out))
      have HS5 := Aside0.mk ((HS.out.nx (Below.refl _ _).drew).newL hb.out HL30.out)
      have HJ : Aside0 (AtA n R sl i a 0) := ⟨HIa.out, hlt, fun x hx => by simp at hx⟩
      clear HS hb hg1 hc1 hc7 hali HL30
      have hl64 := bl_length (nth n.by_ a)
      go_wp2
      go_loopw [7, 8, 9, 12, 13, 32] (fun v7 v8 v9 v12 v13 v32 w' => ∃ (j m : Nat) (R sl : List Nat), v32 = .int .i64 (j : Int) ∧ v8 = .int .u64 (m : Int) ∧ j ≤ (bl (nth n.by_ a)).length ∧ Aside0 (m < 2 ^ N ∧ sl.Nodup) ∧ Aside0 (AI n root pk R sl m) ∧ Aside0 (Seen n R sl i) ∧ Aside0 (AtA n R sl i a j) ∧ Aside0 (AS w [(g, O)] v7 v9 (.slice A30 (bl (nth n.by_ a)).length c30) R (sl.map fun x => rp x (pk x)) (bl (nth n.by_ a)) w')) (fun _ _ _ _ _ v32 _ => (bl (nth n.by_ a)).length - (intOf v32).toNat)
      case atStart => exact ⟨0, m, R, sl, rfl, rfl, Nat.zero_le _, HM, HA, HSn, HJ, HS5⟩
      case round =>
        clear HM HA HSn HJ HS5 HIa hlti hlt hia
        obtain ⟨j, m, R, sl, rfl, rfl, hj, HM, HA, HSn, HJ, HS⟩ := hrel
        by_cases hlt : j < (bl (nth n.by_ a)).length
        · obtain ⟨A', c', he, hr⟩ := HS.out.l.reads
          injection he with e1 e2 e3
          subst e1 e3
          obtain ⟨ad30, rfl, hc30⟩ := hr.cell j hlt
          have hx0 := nth_mem _ j hlt
          have hxx := (mem_bl _ _ (p64 HOk.out.hN (HOk.out.lb a))).1 hx0
          have hx := bl_in HOk.out.hN (HOk.out.lb a) hx0
          have HTk := Aside0.mk (take_next (bl (nth n.by_ a)) j hlt)
          clear hx0 hr
          generalize nth (bl (nth n.by_ a)) j = x at *
          have hx64 : x < 64 := Nat.lt_of_lt_of_le hx (Nat.le_trans HOk.out.hN (by omega))
          have haR : a ∈ R := by rw [← HJ.out.1]; exact nth_mem _ _ HJ.out.2.1
          have HXa : Aside0 (RcA n root pk x) := ⟨a, HA.out.rr a haR, hxx⟩
          have HStep := Aside0.mk (HA.out.step haR hxx)
          have HPx : Aside0 (pk x < N) := ⟨HPkN.out x HXa.out⟩
          have HHas := Aside0.mk (fun W : World => has_any m x (p64 HOk.out.hN HM.out.1) hx64 W)
          have HWith := Aside0.mk (fun W : World => with_any m x (p64 HOk.out.hN HM.out.1) hx64 W)
          have HM2 : Aside0 (m ||| 2 ^ x < 2 ^ N) := ⟨Nat.or_lt_two_pow HM.out.1 (Nat.pow_lt_pow_right (by omega) hx)⟩
          clear hxx haR
          cases hbm : m.testBit x with
          | true =>
            rw [hbm] at HHas
            have HBm := Aside0.mk hbm
            clear hbm
            go_wp2_with (first | (go_at_call 46; refine (HHas.out _).mono ?_; rintro e w' ⟨rfl, rfl⟩))
            go_roundw
            case rel => exact ⟨j + 1, m, R, sl, by go_num, rfl, hlt, HM, HA, HSn, ⟨HJ.out.1, HJ.out.2.1, fun z hz => (HTk.out z hz).elim (HJ.out.2.2 z) (fun e => e ▸ (HA.out.sm x).1 HBm.out)⟩, HS⟩
            case measure => simp [intOf]; omega
          | false =>
            rw [hbm] at HHas
            have HNm : Aside0 (x ∉ sl) := ⟨fun h => by have := (HA.out.sm x).2 h; rw [hbm] at this; cases this⟩
            clear hbm
            have HPick := Aside0.mk (HPk.out x HXa.out)
            have HCont := Aside0.mk (fun (v : Value) (W : World) (h : OwnI W w.heap.size v R) => contains_any v w.heap.size R (pk x) W h)
            have HSl := Aside0.mk (HA.out.lt HM.out.1 HOk.out.hN HM.out.2)
            cases hcn : R.contains (pk x) with
            | true =>
              rw [hcn] at HCont
              go_wp2_with (first | (go_at_call 46; refine (HHas.out _).mono ?_; rintro e w' ⟨rfl, rfl⟩) | (go_at_call 28; refine (HWith.out _).mono ?_; rintro e w' ⟨rfl, rfl⟩) | (go_at_fn gf; refine (HPick.out _ HS.out.st.hb).mono ?_; rintro e w6 ⟨rfl, hb6⟩; replace HS := Aside0.mk (HS.out.nx hb6.out); clear hb6 hc30) | (go_at_call 52; refine (HCont.out _ _ HS7.out.r).mono ?_; rintro e w' ⟨rfl, rfl⟩) | (at_builtin; refine app_rp2 (w0 := w) 31 (.tmp 45) (.tmp 49) rfl rfl Tryd.underlying31 info77 _ (sl.map fun x => rp x (pk x)) x (pk x) hx64 (by have := HPx.out; have := HOk.out.hN; omega) rfl rfl ?aO ?aB ?aL ?_; (case aO => exact HS.out.o); (case aB => exact HS.out.st.hb); (case aL => (have := HSl.out; rw [List.length_map]; omega)); intro v1 w7 HO7 HG7; have HS7 := Aside0.mk (HS.out.appO HO7 HG7); clear HS HO7 HG7))
              rw [addN_old hcn] at HStep
              refine ⟨⟨j + 1, m ||| 2 ^ x, R, sl ++ [x], by go_num, rfl, hlt, ⟨HM2.out, nodup_snoc HM.out.2 HNm.out⟩, HStep, ⟨?_⟩, ⟨?_⟩, ⟨?_⟩⟩, by simp [intOf]; omega⟩
              · have := HSn.out.add HJ.out.2.1 (pk x) x; rw [addN_old hcn] at this; exact this
              · have := HJ.out.add HTk.out (pk x); rw [addN_old hcn] at this; exact this
              · rw [List.map_append]; exact HS7.out
            | false =>
              rw [hcn] at HCont
              go_wp2_with (first | (go_at_call 46; refine (HHas.out _).mono ?_; rintro e w' ⟨rfl, rfl⟩) | (go_at_call 28; refine (HWith.out _).mono ?_; rintro e w' ⟨rfl, rfl⟩) | (go_at_fn gf; refine (HPick.out _ HS.out.st.hb).mono ?_; rintro e w6 ⟨rfl, hb6⟩; replace HS := Aside0.mk (HS.out.nx hb6.out); clear hb6 hc30) | (go_at_call 52; refine (HCont.out _ _ HS7.out.r).mono ?_; rintro e w' ⟨rfl, rfl⟩) | (at_builtin; refine app_rp2 (w0 := w) 31 (.tmp 45) (.tmp 49) rfl rfl Tryd.underlying31 info77 _ (sl.map fun x => rp x (pk x)) x (pk x) hx64 (by have := HPx.out; have := HOk.out.hN; omega) rfl rfl ?aO ?aB ?aL ?_; (case aO => exact HS.out.o); (case aB => exact HS.out.st.hb); (case aL => (have := HSl.out; rw [List.length_map]; omega)); intro v1 w7 HO7 HG7; have HS7 := Aside0.mk (HS.out.appO HO7 HG7); clear HS HO7 HG7) | (at_builtin; refine app_node (w0 := w) 25 (.tmp 55) (.tmp 57) rfl rfl Tryd.underlying25 info3 _ R (pk x) rfl rfl ?aO ?aB ?aL ?_; (case aO => exact HS7.out.r); (case aB => exact HS7.out.st.hb); (case aL => (have := HA.out.le HRc.out; have := HOk.out.hN; omega)); intro v2 w8 HR8 HG8 HAt8; have HS8 := Aside0.mk (HS7.out.appR HR8 HG8 HAt8); clear HS7 HR8 HG8 HAt8))
              rw [addN_new hcn] at HStep
              refine ⟨⟨j + 1, m ||| 2 ^ x, R ++ [pk x], sl ++ [x], by go_num, rfl, hlt, ⟨HM2.out, nodup_snoc HM.out.2 HNm.out⟩, HStep, ⟨?_⟩, ⟨?_⟩, ⟨?_⟩⟩, by simp [intOf]; omega⟩
              · have := HSn.out.add HJ.out.2.1 (pk x) x; rw [addN_new hcn] at this; exact this
              · have := HJ.out.add HTk.out (pk x); rw [addN_new hcn] at this; exact this
              · rw [List.map_append]; exact HS8.out
        · have HEnd := Aside0.mk (Nat.le_of_not_lt hlt)
          have hi40 : i < 40 := by have := HJ.out.2.1; have := HA.out.le HRc.out; have := HOk.out.hN; omega
          go_wp2
          go_roundg k
          case measure => omega
          case rel =>
            have hRN := HA.out.le HRc.out
            refine ⟨i + 1, m, R, sl, _, _, by go_num, rfl, ⟨by have := HJ.out.2.1; omega, hRN, by have := HI.out.2.2; have := HJ.out.2.1; omega⟩, HM, HA, ⟨HJ.out.seen HEnd.out (p64 HOk.out.hN (HOk.out.lb a)) HSn.out⟩, HS⟩
    · have HSl := Aside0.mk (HA.out.lt HM.out.1 HOk.out.hN HM.out.2)
      go_wp2_with (first | (go_at_call 53; refine (sort_any 57 (.inl rfl) (sl.map fun x => rp x (pk x)) (by have := HSl.out; rw [List.length_map]; omega) _ _ _ HS.out.o).mono ?_; rintro e w8 ⟨rfl, rs, HPm, HSo, HO8, HG8⟩))
      go_ret
      have e := sorted_is m (p64 HOk.out.hN HM.out.1) pk sl HM.out.2 HA.out.sm rs HPm.out HSo.out
      obtain ⟨A, c, h1, h2⟩ := HO8.out.reads
      have hi : i = R.length := by have := HI.out; omega
      have hd := HA.out.done (by rw [← hi]; exact HSn.out)
      have h3 := HO8.out
      rw [h1, e, List.length_map] at h3
      rw [e, List.length_map] at h1
      replace h2 := h3
      exact ⟨A, c, m, congrArg Ending.returned h1, ⟨HM.out.1, hd⟩, ⟨h2⟩, ⟨HS.out.st.hb.grown HG8.out HS.out.st.hb.size (own_base' HS.out.o)⟩⟩
end Go.Proofs.YtgboplcjafmliaaDoor.G

/- The contracts of the replies that game.Solve and game.grounded choose. -/
namespace Go.Proofs.YtgboplcjafmliaaDoor.G
open Go.RowKit Go.Proofs.YtgboplcjafmliaaDoorW.PrintWords Go.Proofs.YtgboplcjafmliaaDoorW.PrintLast Go.Proofs.YtgboplcjafmliaaDoorW.PrintMore
open Go.Proofs.YtgboplcjafmliaaDoor.PAll
set_option linter.unusedVariables false
set_option linter.unusedSimpArgs false

/-- The least node of a set. -/
def low (s : Nat) : Nat := nth (bl s) 0
theorem u64_and (a b : Nat) (ha : a < 2 ^ 64) (hb : b < 2 ^ 64) : bits .and .u64 (a : Int) (b : Int) = ((a &&& b : Nat) : Int) := u64_and_nat a b ha hb
theorem low_mem {s : Nat} (h0 : s ≠ 0) (h : s < 2 ^ 64) : s.testBit (low s) = true := by
  rw [← mem_bl s _ h]
  exact nth_mem _ _ (Nat.pos_of_ne_zero fun h1 => h0 ((bl_nil s h).1 (List.length_eq_zero_iff.1 h1)))

set_option maxHeartbeats 2000000 in
theorem pickS_any (N : Nat) (n : NetD) (hok : n.Ok N) (A1 : Option Addr) (c1 : Nat) (A2 : Option Addr) (c2 : Nat) (g h : Nat) (s x : Nat) (hs : s < 2 ^ N) (hx : x < N) (h0 : nth n.by_ x &&& s ≠ 0) (w : World) (hT : TabW w) (hr : RdN .u64 w A1 c1 n.by_)
    (hg : w.heap[g]? = some (.cells #[.int .u64 n.all, .slice A1 n.by_.length c1, .slice A2 n.out.length c2] 64 (0, 0))) (hh : w.heap[h]? = some (.cells #[.int .u64 s] 61 (0, 0))) :
    Calls Tryd.prog 30 #[.int .i64 (x : Int), .pointer (some ⟨g, 0, none⟩), .pointer (some ⟨h, 0, none⟩)] w fun e w' => e = .returned (.int .i64 ((low (nth n.by_ x &&& s) : Nat) : Int)) ∧ Aside0 (Below w.heap.size w w') := by
  have hxl : x < n.by_.length := by rw [hok.hb]; exact hx
  have hxli : (x : Int) < (n.by_.length : Int) := by omega
  obtain ⟨ad1, rfl, hc1⟩ := hr.cell x hxl
  have hg1 := (blk_cell hg 1).trans rfl
  have hh1 := (blk_cell hh 0).trans rfl
  have hand := u64_and (nth n.by_ x) s (p64 hok.hN (hok.lb x)) (p64 hok.hN hs)
  have hlt : nth n.by_ x &&& s < 2 ^ 64 := and_lt _ _ (p64 hok.hN (hok.lb x))
  have HT := Aside0.mk hT
  have HAnd := Aside0.mk hand
  have HF := Aside0.mk (fun W (hT : TabW W) => first_any (nth n.by_ x &&& s) h0 hlt W hT)
  clear hT hr hg hh hok hs hand h0 hlt
  go_enter Tryd.func30, Tryd.ntmps30
  go_wp2
  go_region_held3 (fun w' => w'.cell? ⟨g, 1, none⟩ = some (.slice (some ad1) n.by_.length c1) ∧ w'.cell? ⟨h, 0, none⟩ = some (.int .u64 s) ∧ w'.cell? (ad1.add x) = some (.int .u64 (nth n.by_ x))) (first | go_keep | exact ⟨pw_cell_below hb.out hg1, pw_cell_below hb.out hh1, pw_cell_below hb.out hc1⟩)
    (first | (rw [HAnd.out]; go_at_call 31; refine (HF.out _ (HT.out.below HT.out.2 (Below.refl _ _).drew)).mono ?_; rintro e w5 ⟨rfl, hb⟩))
  go_wp2
  go_ret
  exact ⟨rfl, ⟨((St.refl w).drew.nx hb.out).hb⟩⟩

def pickG (n : NetD) (rows : List Nat) (x : Nat) : Nat := match rows.find? (fun r => nth n.by_ x &&& r != 0) with | some r => low (nth n.by_ x &&& r) | none => x
set_option maxHeartbeats 4000000 in
theorem pickG_any (N : Nat) (n : NetD) (hok : n.Ok N) (A1 : Option Addr) (c1 : Nat) (A2 : Option Addr) (c2 : Nat) (A7 : Option Addr) (c7 : Nat) (g h : Nat) (rows : List Nat) (hrn : rows.length ≤ 100) (hrow : ∀ r, r ∈ rows → r < 2 ^ N) (x : Nat) (hx : x < N) (w : World) (hT : TabW w) (hr : RdN .u64 w A1 c1 n.by_) (hr7 : RdN .u64 w A7 c7 rows)
    (hg : w.heap[g]? = some (.cells #[.int .u64 n.all, .slice A1 n.by_.length c1, .slice A2 n.out.length c2] 64 (0, 0))) (hh : w.heap[h]? = some (.cells #[.slice A7 rows.length c7] 62 (0, 0))) :
    Calls Tryd.prog 50 #[.int .i64 (x : Int), .pointer (some ⟨h, 0, none⟩), .pointer (some ⟨g, 0, none⟩)] w fun e w' => e = .returned (.int .i64 ((pickG n rows x : Nat) : Int)) ∧ Aside0 (Below w.heap.size w w') := by
  have hxl : x < n.by_.length := by rw [hok.hb]; exact hx
  have hxli : (x : Int) < (n.by_.length : Int) := by omega
  obtain ⟨ad1, rfl, hc1⟩ := hr.cell x hxl
  have hg1 := (blk_cell hg 1).trans rfl
  have hh1 := (blk_cell hh 0).trans rfl
  have hand := fun (r : Nat) (hrr : r ∈ rows) => u64_and (nth n.by_ x) r (p64 hok.hN (hok.lb x)) (p64 hok.hN (hrow r hrr))
  have hlt := fun (r : Nat) => and_lt (nth n.by_ x) r (p64 hok.hN (hok.lb x))
  have HT := Aside0.mk hT
  have HAnd := Aside0.mk hand
  have HR7 := Aside0.mk hr7
  have HF := Aside0.mk (fun (r : Nat) (h0 : nth n.by_ x &&& r ≠ 0) W (hT : TabW W) => first_any (nth n.by_ x &&& r) h0 (hlt r) W hT)
  clear hT hr hg hh hok hand hlt hr7 hrow
  go_enter Tryd.func50, Tryd.ntmps50
  go_wp2
  go_loopw [6, 9] (fun v6 v9 w' => ∃ k : Nat, v9 = .int .i64 k ∧ k ≤ rows.length ∧ w' = w ∧ Aside0 ((rows.drop k).find? (fun r => nth n.by_ x &&& r != 0) = rows.find? (fun r => nth n.by_ x &&& r != 0))) (fun _ v9 _ => rows.length - (intOf v9).toNat)
  case atStart => exact ⟨0, rfl, Nat.zero_le _, rfl, ⟨rfl⟩⟩
  case round =>
    obtain ⟨k, rfl, hk, rfl, HE⟩ := hrel
    by_cases hlt : k < rows.length
    · obtain ⟨ad7, rfl, hc7⟩ := HR7.out.cell k hlt
      have hrr := nth_mem _ k hlt
      have HD := Aside0.mk (nth_drop _ k hlt)
      generalize nth rows k = r at *
      have hand := HAnd.out r hrr
      by_cases h0 : nth n.by_ x &&& r = 0
      · have e1 : (bits .and .u64 ((nth n.by_ x : Nat) : Int) ((r : Nat) : Int) == 0) = true := by rw [hand, h0]; rfl
        clear hand
        go_wp2
        refine ⟨⟨k + 1, by go_num, hlt, trivial, ⟨?_⟩⟩, by simp [intOf]; omega⟩
        rw [← HE.out, HD.out, List.find?_cons_of_neg (by simp [h0])]
      · have e1 : (bits .and .u64 ((nth n.by_ x : Nat) : Int) ((r : Nat) : Int) == 0) = false := by rw [hand, beq_eq_false_iff_ne]; omega
        have HAn := Aside0.mk hand
        clear hand
        go_wp2_with (first | (rw [HAn.out]; go_at_call 31; refine (HF.out r h0 _ HT.out).mono ?_; rintro e w5 ⟨rfl, hb⟩))
        go_ret
        refine ⟨?_, ⟨hb.out⟩⟩
        rw [pickG, ← HE.out, HD.out, List.find?_cons_of_pos (by simp [h0])]
        rfl
    · go_wp2
      go_ret
      have hkl : k = rows.length := by omega
      have he := HE.out
      rw [hkl, List.drop_length] at he
      refine ⟨?_, ⟨Below.refl _ _⟩⟩
      rw [pickG, ← he]
      rfl
end Go.Proofs.YtgboplcjafmliaaDoor.G
