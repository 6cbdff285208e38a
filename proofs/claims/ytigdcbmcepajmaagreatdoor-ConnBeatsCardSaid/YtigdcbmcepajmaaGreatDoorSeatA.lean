/- The seat's program: what must be so of it; the tables that the rows list. -/
import Derived.Test.YtigdcbmcepajmaaGreatDoorEngC
import Derived.Test.YtigdcbmcepajmaaGreatDoorEngC
import Derived.Test.YtigdcbmcepajmaaGreatDoorRows
import Derived.WalkKit
import Derived.ProofKit
import Derived.OpenShut
import Derived.Lay
import Derived.Lib.LaidTab
import Derived.MakeChecks
import Derived.Stop.Joined
namespace Go.Proofs.YtigdcbmcepajmaaGreatDoor
open Go.ChangeShapes Go.WideShapes Go.ChangeAt Go.RowKit Go.Abs

noncomputable def env (rng : List (Int × Int)) : Env := { P := Tryz.prog, ng := 6, nt := 447, rng := rng, appB := fun _ => none, summ := fun _ _ => none }
def deBruijnZ : List Int := [0, 1, 56, 2, 57, 49, 28, 3, 61, 58, 42, 50, 38, 29, 17, 4, 62, 47, 59, 36, 45, 43, 51, 22, 53, 39, 33, 30, 24, 18, 12, 5, 63, 55, 48, 27, 60, 41, 37, 16, 46, 35, 44, 21, 52, 32, 23, 11, 54, 26, 40, 15, 34, 20, 31, 10, 25, 14, 19, 9, 13, 8, 7, 6]
def deBruijn : List AV := deBruijnZ.map fun n => .int .u8 (.lit n)
def laid3 : List (String × DataW Unit) := [("math/bits.deBruijn64tab", Rows.laid_math_bits_deBruijn64tab), ("unicode/utf8.acceptRanges", Rows.laid_unicode_utf8_acceptRanges), ("unicode/utf8.first", Rows.laid_unicode_utf8_first)]

theorem own : ownKnob Tryz.prog.godebug = none := by kernel_rfl
theorem progOk0 : progOk (env []) = true := by decide +kernel
theorem envP (rng : List (Int × Int)) : EnvP (env rng) := ⟨(progOk_spec progOk0).1.mixed, (progOk_spec progOk0).1.num, (progOk_spec progOk0).1.fields⟩
theorem envZ (rng : List (Int × Int)) : EnvZ (env rng) := ⟨(progOk_spec progOk0).2.zero, (progOk_spec progOk0).2.slice⟩
theorem summ0 (rng : List (Int × Int)) (V : Val) : SummOK (env rng) V := fun _ _ _ _ _ _ h => by cases h
theorem fast (rng : List (Int × Int)) {V : Val} (h : EnvOK (env rng) V) : Fast (env rng) V := ⟨h, envP rng, envZ rng⟩

set_option maxRecDepth 100000 in
theorem seatB : factsB Tryz.prog = true := by kernel_rfl
set_option maxRecDepth 100000 in
theorem seatB2 : factsB2 Tryz.prog Rows.connBeatsRow = true := by kernel_rfl
set_option maxRecDepth 100000 in
theorem seatC : factsC Tryz.prog Rows.connBeatsRow = true := by kernel_rfl

/-- What the condition on the tables gives. -/
theorem of_laid {W : World} (h : laidMetH Tryz.prog laid3 W) : 5 < W.heap.size ∧ ∃ t fr, W.heap[2]? = some (.cells (deBruijnZ.map fun z => Value.int .u8 z).toArray t fr) := by
  rw [MakeChecks.laidMetH_plain _ _ _ (by kernel_rfl)] at h
  have h2 : Lib.TabIs Tryz.prog W "math/bits.deBruijn64tab" .u8 deBruijnZ := by
    have e : Rows.laid_math_bits_deBruijn64tab = Lib.tabData (H := Unit) .u8 deBruijnZ := by kernel_rfl
    refine Lib.tabIs_of_head (g := 2) (t := 287) (e := 5) (n := 64) (by kernel_rfl) (by kernel_rfl) (by kernel_rfl) (by kernel_rfl) (by kernel_rfl) (by kernel_rfl) (rest := laid3.tail) ?_
    rw [← e]; exact h
  have g2 : Tryz.prog.globalNamed "math/bits.deBruijn64tab" = some 2 := by kernel_rfl
  have g5 : Tryz.prog.globalNamed "unicode/utf8.acceptRanges" = some 5 := by kernel_rfl
  obtain ⟨ps, ⟨g0, t0, cs0, f0, p0, q0, hg0, ht0, hv0, hd0, ⟨g1, t1, cs1, f1, p1, q1, hg1, ht1, hv1, hd1, _, _⟩, _⟩, _, _⟩ := h
  refine ⟨?_, ?_⟩
  · simp only [World.var?, g5, Option.bind_some] at hv1
    split at hv1
    · rename_i c t fr hh
      exact (Array.getElem?_eq_some_iff.1 hh).1
    · cases hv1
  · unfold Lib.TabIs at h2
    simp only [World.var?, g2, Option.bind_some] at h2
    split at h2
    · rename_i c t fr hh
      cases h2
      exact ⟨t, fr, hh⟩
    · cases h2

/- the state at the beginning, for arguments that hold no memory -/
def blk0 (l : Nat) : Option Nat := if l < 6 then some l else none

theorem init0 {W : World} (h : laidMetH Tryz.prog laid3 W) (V : Val) : Init V W 6 16 [(2, deBruijn)] blk0 := by
  obtain ⟨hs, t, fr, hh⟩ := of_laid h
  refine ⟨by decide, by decide, fun l hl => by simp [blk0, hl], fun l hl => by simp [blk0]; omega, fun l b hb => ?_, fun x hx => ?_⟩
  · simp only [blk0] at hb
    split at hb <;> simp only [Option.some.injEq, reduceCtorEq] at hb
    omega
  · simp only [List.mem_singleton] at hx
    subst hx
    refine ⟨by decide, 2, _, t, fr, deBruijnZ.map fun z => Value.int .u8 z, rfl, hh, ?_, [], by simp⟩
    have : ∀ l : List Int, concs V (fun l => (blk0 l).map (rowOf W)) (l.map fun n => AV.int .u8 (.lit n)) = some (l.map fun z => Value.int .u8 z) := by
      intro l
      induction l with
      | nil => rfl
      | cons a r ih => simp only [List.map_cons, concs, conc, SI.I, ih, Option.bind_some, Option.map_some]
    exact this deBruijnZ

/-- A call that the engine finds to be true. -/
theorem engine {rng : List (Int × Int)} {V : Val} (hV : EnvOK (env rng) V) {W : World} (h : laidMetH Tryz.prog laid3 W) {fuel : Nat} {f : FuncId} {args : List AV} {cargs : Array Value} {pc : List SB} (hpc : PcOK V pc)
    (hc : concs V (fun l => (blk0 l).map (rowOf W)) args = some cargs.toList) (hall : allTrue (callF (env rng) fuel f args (initSt 16 [(2, deBruijn)] pc)) = true) :
    Calls Tryz.prog f cargs W fun e w' => e = .returned (.bool true) ∧ Below W.heap.size W w' :=
  allTrue_calls (E := env rng) (fast rng hV) (summ0 rng V) ((init0 h V).good (E := env rng) hpc) hc hall

end Go.Proofs.YtigdcbmcepajmaaGreatDoor
