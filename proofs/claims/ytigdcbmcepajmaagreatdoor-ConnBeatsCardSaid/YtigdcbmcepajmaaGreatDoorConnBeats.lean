/- ConnBeats: for every idle and beat span, whether bytes come or not, whatever the extra time, the law returns true and leaves its arguments as they were. Condition: Go's listed tables lie as the row lists them. -/
import Derived.Test.YtigdcbmcepajmaaGreatDoorConnBeatsRun
import Derived.Test.YtigdcbmcepajmaaGreatDoorCards
import Derived.Test.YtigdcbmcepajmaaGreatDoorTie
import Derived.SevenTiedAt
namespace Go.Proofs.YtigdcbmcepajmaaGreatDoor.ConnBeats
open Go.ChangeShapes Go.WideShapes Go.ChangeAt Go.RowKit Go.Abs

theorem walk (a0 : Int) (a1 : Int) (a2 : Bool) (a3 : Int) (w0 : (Lit.int .u32 a0).wf = true) (w1 : (Lit.int .u32 a1).wf = true) (w3 : (Lit.int .u16 a3).wf = true) (W : World) (h : laidMetH Tryz.prog laid3 W) :
    Calls Tryz.prog 4 #[.int .u32 a0, .int .u32 a1, .bool a2, .int .u16 a3] W fun e w' => e = .returned (.bool true) ∧ Below W.heap.size W w' := by
  let V : Val := { σ := fun i => match i with | 0 => a0 | 1 => a1 | 2 => if a2 then 1 else 0 | _ => a3, Φ := fun _ _ _ _ _ _ => 0 }
  have hV : EnvOK (env rng) V := by
    simp [Lit.wf, IntKind.min, IntKind.max, IntKind.signed, IntKind.bits] at w0 w1 w3
    refine ⟨fun i l u hi => ?_, fun f l u hf => by cases hf⟩
    match i, hi with
    | 0, hi => simp [env, rng] at hi; show l ≤ a0 ∧ a0 ≤ u; omega
    | 1, hi => simp [env, rng] at hi; show l ≤ a1 ∧ a1 ≤ u; omega
    | 2, hi => simp [env, rng] at hi; show l ≤ (if a2 then (1 : Int) else 0) ∧ (if a2 then (1 : Int) else 0) ≤ u; split <;> omega
    | 3, hi => simp [env, rng] at hi; show l ≤ a3 ∧ a3 ≤ u; omega
    | i + 4, hi => simp [env, rng] at hi
  refine engine hV h (pc := []) (fun c hc => by cases hc) ?_ run
  have hb : SB.B V (.eq (.var 2) (.lit 1)) = a2 := by cases a2 <;> rfl
  simp only [args, concs, conc, hb, SI.I, Option.bind_some, Option.map_some]
  rfl

set_option maxRecDepth 100000 in
theorem lifted (os : Os) (started : os.Started) (H : Type) (enc : TypeId × Value → H) :
    ReturnsInHanded {} Tryz.checked os 4 .any (fun w args => (Rows.connBeatsSpec.pre enc Tryz.prog Tryz.f4 [] false w args ∧ laidMetH Tryz.prog laid3 w) ∧ sizedMet enc Tryz.prog Tryz.f4 (OpenSpec.ofChange Rows.connBeatsSpec) false w args)
      (Rows.connBeatsSpec.post enc Tryz.prog Tryz.f4 false true false false) := by
  refine returnsInHanded_of_change_and (C := Tryz.checked) (X := fun w _ => laidMetH Tryz.prog laid3 w) (fun _ _ _ hh h => h.of_heap hh) own started (by kernel_rfl) Tryz.func4
    (ChangeSpec.witness_shaped (enc := enc) (C := Tryz.checked) (os := os) (X := fun w _ => laidMetH Tryz.prog laid3 w) false (World.laidAll Tryz.prog os laid3) #[.int .u32 0, .int .u32 0, .bool false, .int .u16 0] 8 (World.laidAll_os _ _ _)
      (World.shaped_of_ZipB (by kernel_rfl) (by kernel_rfl)) (by kernel_rfl) (by kernel_rfl) (by kernel_rfl)
      (by rw [MakeChecks.laidMetH_plain _ _ _ (by kernel_rfl)]; exact laidMet_laidAll _ (by kernel_rfl) (by kernel_rfl))) ?_
  intro W base args ds gs before hval0 hW _ _ hL _
  have hval : ∀ (j : Nat) t v, Tryz.f4.params[j]? = some t → args[j]? = some v → Value.okWide Tryz.prog W .any base t v := hval0
  have hW' := hW
  obtain ⟨p, q, hA0, hV, rfl, _, _⟩ := hW
  have hA : DataW.TrodAll enc Tryz.prog W 0 (fun _ => true) true Tryz.f4.params.toList args.toList ds p := hA0
  rw [Tryz.params4] at hA hval
  obtain ⟨v0, vs0, d0, ds0, p0, q0, hargs, rfl, rfl, h0, r0⟩ := trodAll_cons hA
  obtain ⟨v1, vs1, d1, ds1, p1, q1, rfl, rfl, rfl, h1, r1⟩ := trodAll_cons r0
  obtain ⟨v2, vs2, d2, ds2, p2, q2, rfl, rfl, rfl, h2, r2⟩ := trodAll_cons r1
  obtain ⟨v3, vs3, d3, ds3, p3, q3, rfl, rfl, rfl, h3, r3⟩ := trodAll_cons r2
  obtain ⟨rfl, rfl, rfl⟩ := trodAll_nil r3
  obtain rfl : args = #[v0, v1, v2, v3] := by cases args; simp_all
  obtain ⟨rfl, rfl⟩ := trodVars_none hV
  obtain ⟨a0, rfl, rfl, rfl, w0⟩ := open_int Tryz.underlying22 (hval 0 22 v0 rfl rfl) h0
  obtain ⟨a1, rfl, rfl, rfl, w1⟩ := open_int Tryz.underlying22 (hval 1 22 v1 rfl rfl) h1
  obtain ⟨a2, rfl, rfl, rfl⟩ := open_bool Tryz.underlying4 (hval 2 4 v2 rfl rfl) h2
  obtain ⟨a3, rfl, rfl, rfl, w3⟩ := open_int Tryz.underlying57 (hval 3 57 v3 rfl rfl) h3
  clear hA0 hval0
  simp only [List.append_nil] at hW'
  refine (walk a0 a1 a2 a3 w0 w1 w3 W hL).mono fun e W' ⟨he, hb⟩ => ?_
  subst he
  exact ⟨_, rfl, _, _, _, [], [], [], hW', trodAll_mk1 (shut_bool Tryz.underlying4 _), (trodAll_cons_mk (shut_int Tryz.underlying22 w0) (trodAll_cons_mk (shut_int Tryz.underlying22 w1) (trodAll_cons_mk (shut_bool Tryz.underlying4 _) (trodAll_cons_mk (shut_int Tryz.underlying57 w3) trodAll_mk0)))), rfl, hb.frame _, fun h => by cases h⟩

set_option maxRecDepth 100000 in
theorem rowA : factsA Tryz.prog 4 Rows.connBeatsRow = true := by kernel_rfl
set_option maxRecDepth 100000 in
theorem rowD : factsD Tryz.prog 4 Tryz.f4 Rows.connBeatsSpec Rows.connBeatsRow = true := by kernel_rfl
theorem closed : joinedFacts Tryz.prog 4 Tryz.f4 Rows.connBeatsSpec Rows.connBeatsRow = true := joinedFacts_of rowA seatB seatB2 seatC rowD

theorem inst : Tryz.f4.isInstance Tryz.prog Rows.connBeatsRow.origin Rows.connBeatsRow.targs := of_decide_eq_true (by kernel_rfl)
theorem wrap : Tryz.f4.isWrapper Tryz.prog Rows.connBeatsRow.wrapper Rows.connBeatsRow.mainSum := by
  unfold Func.isWrapper; first | (rw [if_pos (by decide +kernel)]; kernel_rfl) | (rw [if_neg (by decide +kernel)]; exact ⟨rfl, rfl⟩)

theorem named4 : Tryz.prog.funcNamed "signalbox/signalboxlaw21.ConnBeats" = some 4 := by kernel_rfl
theorem holds : Rows.connBeatsRow.holds Tryz.pinned (OpenSpec.ofChange Rows.connBeatsSpec) :=
  OpenClaim.holds_of_wide (p := Tryz.pinned) (s := Rows.connBeatsSpec) (c := Rows.connBeatsRow) 4 Tryz.f4 rfl rfl rfl rfl rfl rfl rfl ⟨rfl, rfl, rfl, rfl, rfl⟩ rfl rfl rfl rfl rfl named4 Tryz.func4 closed inst wrap
    (fun os started H enc _ => lifted os started H enc)

end Go.Proofs.YtigdcbmcepajmaaGreatDoor.ConnBeats

namespace Go.Proofs.YtigdcbmcepajmaaGreatDoor
open ConnBeats
theorem connBeats_holds : Rows.ConnBeatsCardSaid :=
  Claim7.holds_tied_plain_at .later [] [.data, .data, .pinned] true (true, "15f65b93c7d69682e2d8d0d51690068412c2c227332c5c621e6b09ccc6761e35") false
    holds (fun _ h => by cases h) (by as_aux_lemma => kernel_rfl) (fun _ h => by cases h) connBeats_row_tie rfl ⟨rfl, rfl⟩ (by as_aux_lemma => kernel_rfl) rfl
    (fun f fn hf hfn => by
      obtain rfl : f = 4 := Option.some.inj (named4.symm.trans hf) |>.symm
      obtain rfl : fn = Tryz.f4 := (Option.some.inj (Tryz.func4.symm.trans hfn)).symm
      exact ⟨by as_aux_lemma => kernel_rfl, fun j t ht => by
        rw [Tryz.params4] at ht
        have hm : t ∈ [22, 22, 4, 57] := by simpa using Array.mem_of_getElem? ht
        have hall : ([22, 22, 4, 57].all fun u => !Tryz.prog.wantsStandIn u) = true := by as_aux_lemma => kernel_rfl
        exact (show Tryz.prog.wantsStandIn t = false by simpa using List.all_eq_true.1 hall t hm)⟩)
    (by as_aux_lemma => kernel_rfl)
#print axioms connBeats_holds
end Go.Proofs.YtigdcbmcepajmaaGreatDoor
