/- GameSolved: whatever the input, the law answers true, and the input reads as it did. The table of math/bits that it reads is as the program's text lays it. -/
import Derived.Test.YtgboplcjafmliaaDoorSQ10
import Derived.Test.YtgboplcjafmliaaDoorRows
import Derived.Test.YtgboplcjafmliaaDoorTie
import Derived.Test.YtgboplcjafmliaaDoorWSized
import Derived.WalkKit
import Derived.ProofKit
import Derived.LaidMore
import Derived.OpenShut
import Derived.ShutString
import Derived.ChangeOld
import Derived.Below
import Derived.SizedLaws
import Derived.Lib.LaidTab
import Derived.MakeChecks
import Derived.Stop.Joined
import Derived.SevenTiedAt
import Derived.Test.YtgboplcjafmliaaDoorCards
import Derived.Lib.SmallJoins
import Derived.Deep.Slices
import Derived.Deep.Fields
/- What the rows of the three laws share: the table, as the row's condition lays it; a slice of numbers that came in. -/
namespace Go.Proofs.YtgboplcjafmliaaDoor.R
open Go Go.ChangeShapes Go.WideShapes Go.ChangeAt Go.RowKit
open Go.Proofs.YtgboplcjafmliaaDoor.G
set_option linter.unusedVariables false
set_option maxRecDepth 100000
theorem own : ownKnob Tryd.prog.godebug = none := by kernel_rfl
theorem laidOut : laidOutB Tryd.prog = true := by kernel_rfl
theorem gTab : Tryd.prog.globalNamed "math/bits.deBruijn64tab" = some 0 := by kernel_rfl
theorem tTab : (Tryd.prog.globals[0]?).map (·.type) = some 113 := by kernel_rfl
theorem uTab : Tryd.prog.underlying 113 = some (.array 64 5) := by kernel_rfl
theorem uU8 : Tryd.prog.underlying 5 = some (.int .u8) := by kernel_rfl
theorem cU8 : Tryd.prog.cellsOf 5 = 1 := by kernel_rfl
theorem cTab : Tryd.prog.cellsOf 113 = 64 := by kernel_rfl
theorem dTab {H : Type} : (Rows.laid_math_bits_deBruijn64tab : DataW H) = Lib.tabData .u8 (Lib.deBruijn64tab.map fun n : Nat => (n : Int)) := rfl
def laid : List (String × DataW Unit) := [("math/bits.deBruijn64tab", Rows.laid_math_bits_deBruijn64tab)]
/-- What the condition gives the walks. -/
theorem tab_of_laid {W : World} (h : laidMetH Tryd.prog laid W) : TabW W := by
  rw [MakeChecks.laidMetH_plain _ _ _ (by kernel_rfl)] at h
  unfold laid at h
  rw [dTab] at h
  have ht := Lib.tabIs_of_head gTab tTab uTab uU8 cU8 cTab h
  have hc : ∀ j, j < Lib.deBruijn64tab.length → W.cell? ⟨0, j, none⟩ = some (.int .u8 ((Lib.deBruijn64tab.getD j 0 : Nat) : Int)) := fun j hj => by
    rw [ht.cell gTab j (by simpa using hj)]
    rw [List.getD_eq_getElem?_getD, List.getD_eq_getElem?_getD, List.getElem?_map]
    rw [List.getElem?_eq_getElem hj]; rfl
  refine ⟨hc, ?_⟩
  have h0 := hc 0 (by decide)
  by_cases hz : 0 < W.heap.size
  · exact hz
  · unfold World.cell? at h0
    rw [Array.getElem?_eq_none (by show W.heap.size ≤ 0; omega)] at h0
    cases h0
/-- The door's own heap meets the condition. -/
theorem door_met (os : Os) (args : Array Value) : laidMetH Tryd.prog laid ((World.doorLaid Tryd.prog 400 os).forCall (fun _ _ => 0) ⟨#[], args, []⟩).memory :=
  laidMetH_of_parts3 (fuel := 8) (laidMet_of_run' 8 (by kernel_rfl) (by kernel_rfl)) (by kernel_rfl) (by kernel_rfl)
def IsRow (k : IntKind) (w : World) (a : Option Addr) (len cap : Nat) (zs : List Int) : Prop :=
  (a = none ∧ len = 0 ∧ cap = 0 ∧ zs = []) ∨
  ∃ x, a = some x ∧ len ≤ cap ∧ cap ≤ maxLen ∧ zs.length = cap ∧ (∀ i, i < zs.length → w.cell? (x.add i) = some (.int k (zs.getD i 0))) ∧ ∀ n ∈ zs, (Lit.int k n).wf = true
end Go.Proofs.YtgboplcjafmliaaDoor.R

/- GameSolved: whatever the input, the law answers true, and the input reads as it did. The table of math/bits that it reads is as the program's text lays it. -/
namespace Go.Proofs.YtgboplcjafmliaaDoor.R
open Go Go.ChangeShapes Go.WideShapes Go.ChangeAt Go.RowKit
open Go.Proofs.YtgboplcjafmliaaDoor.G Go.Proofs.YtgboplcjafmliaaDoorW Go.Proofs.YtgboplcjafmliaaDoorW.PrintWords
set_option linter.unusedVariables false
set_option maxRecDepth 100000
/-- A graph that came in. -/
theorem graph_open {H : Type} {enc : TypeId × Value → H} {W : World} {v : Value} {d : DataW H} {p : List MemPlace} {b0 : Nat} (hv : Value.okWide Tryd.prog W .any b0 24 v) (h : DataW.Trod enc Tryd.prog W 0 (fun _ => true) true 24 v d p) :
    ∃ (N : Int) (l : List PAll.S54) (A : Option Addr) (c : Nat), v = .agg #[.int .i64 N, .slice A l.length c] ∧ RdP W A c l := by
  obtain ⟨v0, v1, y0, y1, n, rfl, _, _, h0, h1⟩ := Joins.open_agg2 Tryd.underlying24 (by kernel_rfl) (by kernel_rfl) hv h
  obtain ⟨N, e0, _, _⟩ := DataW.trod_int Tryd.underlying3 h0
  injection e0 with e0
  subst e0
  rcases Deep.open_slice Tryd.underlying22 h1 with ⟨e1, _⟩ | ⟨a, len, cap, m, n', D, Pl, e1, _, hlc, hcm, hm, _, hi⟩
  · injection e1 with e1
    subst e1
    exact ⟨N, [], none, 0, rfl, Nat.le_refl _, rfl, by decide, fun h => absurd h (by simp)⟩
  · injection e1 with e1
    subst e1
    have hF : ∀ i, i < len → ∃ x : PAll.S54, W.cell? (a.add (i * 2)) = some (.int .i64 x.f0) ∧ W.cell? (a.add (i * 2 + 1)) = some (.int .i64 x.f1) := fun i hil => by
      obtain ⟨cs', hc, ht⟩ := hi i (by simp at hm; omega)
      rw [show Tryd.prog.cellsOf 54 = 2 by kernel_rfl] at hc
      obtain ⟨z0, z1, n2, _, hlen, g0, g1⟩ := trod_struct2 Tryd.underlying54 ht
      obtain ⟨_, hcl, hat⟩ := World.cells?_some hc
      rw [show Tryd.prog.cellsOf 3 = 1 by kernel_rfl] at g0 g1
      obtain ⟨x0, q0, _, _⟩ := DataW.trod_int Tryd.underlying3 g0
      obtain ⟨x1, q1, _, _⟩ := DataW.trod_int Tryd.underlying3 g1
      have h2 : cs'.length = 2 := hcl
      match cs', h2, q0, q1 with
      | [u0, u1], _, q0, q1 =>
        have e0 : u0 = .int .i64 x0 := by simpa using q0
        have e1 : u1 = .int .i64 x1 := by simpa using q1
        subst e0 e1
        refine ⟨⟨x0, x1⟩, ?_, ?_⟩
        · have h3 := hat 0 (by omega)
          have e : (a.add (i * 2)).add 0 = a.add (i * 2) := by cases a; rfl
          rw [e] at h3
          simpa using h3
        · have := hat 1 (by omega)
          rw [Go.Deep.add_add] at this
          simpa using this
    obtain ⟨F, hF⟩ : ∃ F : Nat → PAll.S54, ∀ i, i < len → W.cell? (a.add (i * 2)) = some (.int .i64 (F i).f0) ∧ W.cell? (a.add (i * 2 + 1)) = some (.int .i64 (F i).f1) := by
      classical
      refine ⟨fun i => if h : i < len then Classical.choose (hF i h) else PAll.z54, fun i hil => ?_⟩
      simp only [dif_pos hil]
      exact Classical.choose_spec (hF i hil)
    refine ⟨N, (List.range len).map F, some a, cap, by simp, by simpa using hlc, by simp, by simp; unfold maxLen at hcm; omega, fun _ => ⟨a, rfl, fun j q hj => ?_⟩⟩
    rw [List.getElem?_map] at hj
    have hjl : j < len := by
      by_cases hjl : j < len
      · exact hjl
      · rw [List.getElem?_eq_none (by simpa using hjl)] at hj; cases hj
    rw [List.getElem?_range hjl] at hj
    injection hj with hj
    subst hj
    refine ⟨[.int .i64 (F j).f0, .int .i64 (F j).f1], rfl, PAll.k54_mk W (F j), fun i u hu => ?_⟩
    match i, hu with
    | 0, hu => injection hu with hu; rw [← hu]; exact (hF j hjl).1
    | 1, hu => injection hu with hu; rw [← hu]; exact (hF j hjl).2
theorem solved_lifted (os : Os) (started : os.Started) (H : Type) (enc : TypeId × Value → H) :
    ReturnsInHanded {} Tryd.checked os 3 .any (fun w args => (Rows.gameSolvedSpec.pre enc Tryd.prog Tryd.f3 [] false w args ∧ laidMetH Tryd.prog laid w) ∧ sizedMet enc Tryd.prog Tryd.f3 (OpenSpec.ofChange Rows.gameSolvedSpec) false w args)
      (Rows.gameSolvedSpec.post enc Tryd.prog Tryd.f3 false true false false) := by
  refine returnsInHanded_of_change_and (C := Tryd.checked) (X := fun w _ => laidMetH Tryd.prog laid w) (fun _ _ _ hh h => h.of_heap hh) own started (by kernel_rfl) Tryd.func3
    (ChangeSpec.witness_shaped (enc := enc) (C := Tryd.checked) (os := os) (X := fun w _ => laidMetH Tryd.prog laid w) false (World.doorLaid Tryd.prog 400 os) #[.agg #[.int .i64 0, .slice none 0 0], .slice none 0 0, .int .i64 0, .int .i64 0] 8 rfl (World.shaped_of_RefB (by kernel_rfl) (by kernel_rfl)) (by kernel_rfl) (by kernel_rfl) (by kernel_rfl) (door_met os _)) ?_
  intro W base args ds gs before hval0 hW _ hsz0 hL _
  have hval : ∀ (j : Nat) t v, Tryd.f3.params[j]? = some t → args[j]? = some v → Value.okWide Tryd.prog W .any base t v := hval0
  have hW' := hW
  obtain ⟨p, q, hA0, hV, rfl, hfz, hnd⟩ := hW
  have hA : DataW.TrodAll enc Tryd.prog W 0 (fun _ => true) true Tryd.f3.params.toList args.toList ds p := hA0
  rw [Tryd.params3] at hA hval
  obtain ⟨v0, vs0, d0, ds0, p0, q0, hargs, rfl, rfl, h0, r0⟩ := trodAll_cons hA
  obtain ⟨v1, vs1, d1, ds1, p1, q1, rfl, rfl, rfl, h1, r1⟩ := trodAll_cons r0
  obtain ⟨v2, vs2, d2, ds2, p2, q2, rfl, rfl, rfl, h2, r2⟩ := trodAll_cons r1
  obtain ⟨v3, vs3, d3, ds3, p3, q3, rfl, rfl, rfl, h3, r3⟩ := trodAll_cons r2
  obtain ⟨rfl, rfl, rfl⟩ := trodAll_nil r3
  obtain rfl : args = #[v0, v1, v2, v3] := by cases args; simp_all
  obtain ⟨rfl, rfl⟩ := trodVars_none hV
  have k0 := h0
  have lt0 : ∀ x ∈ p0, x.block < W.heap.size := by obtain ⟨m, hm⟩ := k0; exact DataW.trod_lt m _ _ _ hm
  obtain ⟨N0, l0, a0, cap0, rfl, hr0⟩ := graph_open (hval 0 24 v0 rfl rfl) h0
  obtain ⟨a1, len1, cap1, rfl⟩ := okWide_slice Tryd.underlying25 (hval 1 25 v1 rfl rfl)
  have k1 := h1
  have lt1 : ∀ x ∈ p1, x.block < W.heap.size := by obtain ⟨m, hm⟩ := k1; exact DataW.trod_lt m _ _ _ hm
  obtain ⟨z1, w1⟩ : ∃ zs, IsRow .i64 W a1 len1 cap1 zs := by
    obtain ⟨fuel, hf⟩ := h1
    rcases open_ints Tryd.underlying25 Tryd.underlying3 (by kernel_rfl) hf with ⟨hcs, _⟩ | ⟨x, l, c, zs, hcs, _, hl, hm, hz, _, hcell, hwz⟩
    · simp [Value.cells] at hcs
      obtain ⟨rfl, rfl, rfl⟩ := hcs
      exact ⟨[], .inl ⟨rfl, rfl, rfl, rfl⟩⟩
    · simp [Value.cells] at hcs
      obtain ⟨rfl, rfl, rfl⟩ := hcs
      exact ⟨zs, .inr ⟨_, rfl, hl, hm, by simpa using hz, hcell, hwz⟩⟩
  obtain ⟨n2, rfl, rfl, rfl, wf2⟩ := open_int Tryd.underlying3 (hval 2 3 v2 rfl rfl) h2
  obtain ⟨n3, rfl, rfl, rfl, wf3⟩ := open_int Tryd.underlying3 (hval 3 3 v3 rfl rfl) h3
  clear hA0 hval0 hsz0
  obtain ⟨l1, rfl, hr1, hm1, hw1, hc1⟩ := PrintWords.ReadsInt.ofRowC w1
  refine (solved_any N0 l0 a0 cap0 l1 a1 cap1 n2 n3 W (tab_of_laid hL) hr0 (Kd.C_of_reads (d := (0 : Int)) (h1 := fun _ => rfl) hr1) hc1).mono fun e W' ⟨he, bel⟩ => ?_
  subst he
  exact ⟨_, rfl, _, _, _, [], _, [], hW', trodAll_mk1 (shut_bool Tryd.underlying4 _), (trodAll_cons_mk (Below.trod laidOut (by kernel_rfl) (of_decide_eq_true (by kernel_rfl)) k0 bel.out lt0) (trodAll_cons_mk (Below.trod laidOut (by kernel_rfl) (of_decide_eq_true (by kernel_rfl)) k1 bel.out lt1) (trodAll_cons_mk (shut_int Tryd.underlying3 wf2) (trodAll_cons_mk (shut_int Tryd.underlying3 wf3) trodAll_mk0)))), rfl, bel.out.frame _, fun h => by cases h⟩
theorem gameSolved_holds : Rows.GameSolvedSaid :=
  OpenClaim.holds_of_wide 3 Tryd.f3 rfl rfl rfl rfl rfl rfl rfl ⟨rfl, rfl, rfl, rfl, rfl⟩ rfl rfl rfl rfl rfl (by kernel_rfl) Tryd.func3 (by kernel_rfl)
    (of_decide_eq_true (by kernel_rfl)) (by unfold Func.isWrapper; first | (rw [if_pos (by decide +kernel)]; kernel_rfl) | (rw [if_neg (by decide +kernel)]; exact ⟨rfl, rfl⟩))
    (fun os started H enc _ => solved_lifted os started H enc)
end Go.Proofs.YtgboplcjafmliaaDoor.R
namespace Go.Proofs.YtgboplcjafmliaaDoor
open Go
set_option maxRecDepth 100000
/-- THE TIED CARD of GameSolved. -/
theorem gameSolved_card : Rows.GameSolvedCardSaid :=
  Claim7.holds_tied_plain_at .later [] [.data] true (true, "d02a68b50b45f48a34661375fbd6faecf9d38d094a781337fcef00caf95a9c46") false
    R.gameSolved_holds (fun _ h => by cases h) (by kernel_rfl) (fun _ h => by cases h) gameSolved_row_tie rfl ⟨rfl, rfl⟩ (by kernel_rfl) rfl
    (fun f fn hf hfn => by
      obtain rfl : f = 3 := Option.some.inj ((show Tryd.prog.funcNamed "deliberation/deliberationlaw25.GameSolved" = some 3 by kernel_rfl).symm.trans hf) |>.symm
      obtain rfl : fn = Tryd.f3 := (Option.some.inj (Tryd.func3.symm.trans hfn)).symm
      exact ⟨by kernel_rfl, fun j t ht => by
        rw [Tryd.params3] at ht
        have hm : t ∈ [24, 25, 3, 3] := by simpa using Array.mem_of_getElem? ht
        have hall : ([24, 25, 3, 3].all fun u => !Tryd.prog.wantsStandIn u) = true := by kernel_rfl
        exact (show Tryd.prog.wantsStandIn t = false by simpa using List.all_eq_true.1 hall t hm)⟩)
    (by kernel_rfl)
#print axioms gameSolved_card
end Go.Proofs.YtgboplcjafmliaaDoor
