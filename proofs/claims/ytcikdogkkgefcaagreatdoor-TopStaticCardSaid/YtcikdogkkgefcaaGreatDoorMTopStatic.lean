/-
  undertonetop.TopStatic is true, whatever the input, and what it reads is as it was; the listed variables of Go's library are tied to the program's text.
-/
import Derived.Test.YtcikdogkkgefcaaGreatDoorRows
import Derived.Test.YtcikdogkkgefcaaGreatDoorMS01
import Derived.Test.YtcikdogkkgefcaaGreatDoorCards
import Derived.Test.YtcikdogkkgefcaaGreatDoorTie
import Derived.ChangeOld
import Derived.Below
import Derived.WalkKit
import Derived.ProofKit
import Derived.OpenShut
import Derived.ShutString
import Derived.Carry
import Derived.Lay
import Derived.SevenTiedAt
namespace Go.Proofs.YtcikdogkkgefcaaGreatDoor.topStatic
open Go.ChangeShapes Go.WideShapes Go.ChangeAt Go.RowKit
set_option linter.unusedVariables false

theorem own : ownKnob Tryz.prog.godebug = none := by kernel_rfl

theorem laidOut : laidOutB Tryz.prog = true := by kernel_rfl

set_option maxRecDepth 100000 in
theorem lifted (os : Os) (started : os.Started) (H : Type) (enc : TypeId × Value → H) :
    ReturnsInHanded {} Tryz.checked os 3 .any (fun w args => (Rows.topStaticSpec.pre enc Tryz.prog Tryz.f3 [] false w args ∧ laidMetH Tryz.prog Rows.topStaticRow.laid w) ∧ sizedMet enc Tryz.prog Tryz.f3 (OpenSpec.ofChange Rows.topStaticSpec) false w args)
      (Rows.topStaticSpec.post enc Tryz.prog Tryz.f3 false true false false) := by
  have hpl : (Rows.topStaticRow.laid.all fun x => x.2.handleName?.isNone) = true := by kernel_rfl
  refine zUM (C := Tryz.checked) (X := fun w _ => laidMetH Tryz.prog Rows.topStaticRow.laid w) (fun _ _ _ hh h => h.of_heap hh) own started (by kernel_rfl) Tryz.func3
    (ChangeSpec.witness_shaped (enc := enc) (C := Tryz.checked) (os := os) (X := fun w _ => laidMetH Tryz.prog Rows.topStaticRow.laid w) false (World.laidAll Tryz.prog os Rows.topStaticRow.laid) #[.slice none 0 0] 8 (World.laidAll_os _ _ _)
      (World.shaped_of_ZipB (by kernel_rfl) (by kernel_rfl)) (by kernel_rfl) (by kernel_rfl) (by kernel_rfl)
      (by rw [MakeChecks.laidMetH_plain _ _ _ hpl]; exact laidMet_laidAll _ (by kernel_rfl) (by kernel_rfl))) ?_
  intro W base args ds gs before hval0 hW hL hsh
  have hval : ∀ (j : Nat) t v, Tryz.f3.params[j]? = some t → args[j]? = some v → Value.okWide Tryz.prog W .any base t v := hval0
  have hW' := hW
  obtain ⟨p, q, hA0, hV, rfl, hfz, hnd⟩ := hW
  have hA : DataW.TrodAll enc Tryz.prog W 0 (fun _ => true) true Tryz.f3.params.toList args.toList ds p := hA0
  rw [Tryz.params3] at hA hval
  obtain ⟨v0, vs0, d0, ds0, p0, q0, hargs, rfl, rfl, h0, r0⟩ := trodAll_cons hA
  obtain ⟨rfl, rfl, rfl⟩ := trodAll_nil r0
  obtain rfl : args = #[v0] := by cases args; simp_all
  obtain ⟨rfl, rfl⟩ := trodVars_none hV
  have h0k := h0
  have hlt0 : ∀ x ∈ p0, x.block < W.heap.size := fun x hx => by obtain ⟨n, hn⟩ := h0k; exact DataW.trod_lt n _ _ _ hn x hx
  obtain ⟨ρ0, l0, hro, hl0, hq0⟩ := zWf (hval 0 22 v0 rfl rfl) h0
  clear hA0 hval0 hval
  rw [MakeChecks.laidMetH_plain _ _ _ hpl] at hL
  have hm1 : ("unicode/utf8.first", Rows.laid_unicode_utf8_first) ∈ Rows.topStaticRow.laid := by simp [Rows.topStaticRow]
  have hm2 : ("unicode/utf8.acceptRanges", Rows.laid_unicode_utf8_acceptRanges) ∈ Rows.topStaticRow.laid := by simp [Rows.topStaticRow]
  have hm3 : ("strings.asciiSpace", Rows.laid_strings_asciiSpace) ∈ Rows.topStaticRow.laid := by simp [Rows.topStaticRow]
  refine ((zQs (zWh hsh) (zWe hL hm3) (zWl hL hm1 hm2) hl0 hq0 (St.start W ρ0 hro)).go).mono fun e W' h => ?_
  cases e with
  | panicked _ => exact absurd h (by simp [Ret])
  | outgrown => exact absurd h (by simp [Ret])
  | returned v =>
  have bel := h.2.below
  obtain ⟨rfl, -⟩ := h
  exact ⟨_, rfl, _, _, _, [], _, [], hW', trodAll_mk1 (shut_bool Tryz.underlying4 _), (trodAll_cons_mk (Below.trod laidOut (by kernel_rfl) (of_decide_eq_true (by kernel_rfl)) h0k bel hlt0) trodAll_mk0), rfl, bel.frame _, fun h => by cases h⟩

theorem j0 : (Rows.topStaticRow.wf (OpenSpec.ofChange Rows.topStaticSpec)) = true := by kernel_rfl
theorem j2 : (mapsRowed Tryz.prog) = true := by kernel_rfl
theorem j3 : (Tryz.f3.params.all (Tryz.prog.readableRec ·)) = true := by kernel_rfl
theorem j4 : (namedTie Tryz.prog Rows.topStaticRow.named Rows.topStaticSpec.vars) = true := by kernel_rfl
theorem j5 : ((Rows.topStaticRow.stops == [])) = true := by kernel_rfl
theorem j6 : ((Tryz.prog.stops == [])) = true := by kernel_rfl
theorem j7 : ((Rows.topStaticRow.knobs == [])) = true := by kernel_rfl
theorem j8 : ((Tryz.prog.stopKnobs == [])) = true := by kernel_rfl
theorem j9 : ((Rows.topStaticRow.inPlace == Tryz.prog.inPlace 3)) = true := by kernel_rfl
theorem j10 : ((Rows.topStaticRow.unfollowed == Tryz.prog.unfollowed 3)) = true := by kernel_rfl
theorem j11 : ((Rows.topStaticRow.recurses == Tryz.prog.recurses 3)) = true := by kernel_rfl
theorem j12 : ((Rows.topStaticRow.named == Tryz.prog.varsNamed 3)) = true := by kernel_rfl
theorem j13 : ((Rows.topStaticRow.maps == (Tryz.f3.params.toList ++ Rows.topStaticSpec.plain.varTypes Tryz.prog).any (Tryz.prog.mapsRec ·))) = true := by kernel_rfl
theorem j14 : ((Rows.topStaticRow.ifaces == (Tryz.f3.params.toList ++ Rows.topStaticSpec.plain.varTypes Tryz.prog).any (Tryz.prog.ifacesRec ·))) = true := by kernel_rfl
theorem j15 : ((Rows.topStaticRow.mapsOut == Tryz.prog.mapsAmong Tryz.f3.resultTypes.toList)) = true := by kernel_rfl
theorem j16 : ((Rows.topStaticRow.loops == (Tryz.f3.params.toList ++ Rows.topStaticSpec.plain.varTypes Tryz.prog).any (Tryz.prog.loopsFrom ·))) = true := by kernel_rfl
theorem j17 : ((Rows.topStaticRow.wideKeys == (Tryz.f3.params.toList ++ Rows.topStaticSpec.plain.varTypes Tryz.prog ++ Tryz.f3.resultTypes.toList).any (Tryz.prog.wideKeysFrom ·))) = true := by kernel_rfl
theorem j18 : (Rows.topStaticSpec.vars.all (Tryz.prog.varReadable ·)) = true := by kernel_rfl
theorem j19 : (Tryz.f3.resultTypes.all (fun t => Tryz.prog.readableRec t && decide (t < Tryz.prog.types.size))) = true := by kernel_rfl
theorem j20 : ((Rows.topStaticRow.ifacesOut == Tryz.f3.resultTypes.toList.any (Tryz.prog.ifacesRec ·))) = true := by kernel_rfl
theorem j21 : ((Rows.topStaticRow.loopsOut == Tryz.f3.resultTypes.toList.any (Tryz.prog.loopsFrom ·))) = true := by kernel_rfl
theorem j22 : ((Rows.topStaticRow.plainKeys == Tryz.prog.plainKeys)) = true := by kernel_rfl
theorem j23 : (Rows.topStaticRow.shortTexts.isNone) = true := by kernel_rfl
theorem j24 : (Tryz.prog.stopsHeard) = true := by kernel_rfl
theorem j25 : (Tryz.prog.mayEnter) = true := by kernel_rfl
theorem j26 : ((Rows.topStaticRow.lifted == Tryz.prog.liftsFinal)) = true := by kernel_rfl
theorem j27 : ((Tryz.prog.make == some Rows.topStaticRow.make)) = true := by kernel_rfl
theorem j28a : Rows.topStaticRow.domain.isEmpty = true := by kernel_rfl
theorem j28b : (Rows.topStaticRow.kinds == []) = true := by kernel_rfl
theorem j29 : ((Rows.topStaticRow.pinned == Rows.topStaticRow.pinnedBy)) = true := by kernel_rfl
theorem j30 : ((Rows.topStaticRow.veiled == (Tryz.f3.params.toList ++ Rows.topStaticSpec.plain.varTypes Tryz.prog ++ Tryz.f3.resultTypes.toList).any (Tryz.prog.veiledRec ·))) = true := by kernel_rfl
theorem j31 : (Rows.topStaticRow.veiledFits Tryz.prog Tryz.f3.params.toList (Tryz.f3.params.toList ++ Rows.topStaticSpec.plain.varTypes Tryz.prog ++ Tryz.f3.resultTypes.toList)) = true := by kernel_rfl

theorem over : Rows.topStaticRow.holds Tryz.pinned (OpenSpec.ofChange Rows.topStaticSpec) :=
  OpenClaim.holds_of_wide 3 Tryz.f3 rfl rfl rfl rfl rfl rfl rfl ⟨rfl, rfl, rfl, rfl, rfl⟩ rfl rfl rfl rfl rfl (by kernel_rfl) Tryz.func3 (zWW j0 laidOut j2 j3 j4 j5 j6 j7 j8 j9 j10 j11 j12 j13 j14 j15 j16 j17 j18 j19 j20 j21 j22 j23 j24 j25 j26 j27 j28a j28b j29 j30 j31)
    (of_decide_eq_true (by kernel_rfl)) (by unfold Func.isWrapper; first | (rw [if_pos (by decide +kernel)]; kernel_rfl) | (rw [if_neg (by decide +kernel)]; exact ⟨rfl, rfl⟩))
    (fun os started H enc _ => lifted os started H enc)

theorem proved : Rows.TopStaticCardSaid :=
  Claim7.holds_tied_plain_at .later [] [.data, .data, .data, .data, .sentinel, .sentinel, .listed, .data, .pinned] true (true, "5c8925004573a3213c5581deb004f3528524066faf1cf8265cd04a65bcdc1527") true
    over (fun _ h => by cases h) (by kernel_rfl) (fun _ h => by cases h) topStatic_row_tie rfl ⟨rfl, rfl⟩ (by kernel_rfl) rfl
    (fun f fn hf hfn => by
      obtain rfl : f = 3 := Option.some.inj ((show Tryz.prog.funcNamed "undertone/undertonetop.TopStatic" = some 3 by kernel_rfl).symm.trans hf) |>.symm
      obtain rfl : fn = Tryz.f3 := (Option.some.inj (Tryz.func3.symm.trans hfn)).symm
      exact ⟨by kernel_rfl, fun j t ht => by
        rw [Tryz.params3] at ht
        have hm : t ∈ [22] := by simpa using Array.mem_of_getElem? ht
        have hall : ([22].all fun u => !Tryz.prog.wantsStandIn u) = true := by kernel_rfl
        exact (show Tryz.prog.wantsStandIn t = false by simpa using List.all_eq_true.1 hall t hm)⟩)
    (by kernel_rfl)
#print axioms proved
end Go.Proofs.YtcikdogkkgefcaaGreatDoor.topStatic
