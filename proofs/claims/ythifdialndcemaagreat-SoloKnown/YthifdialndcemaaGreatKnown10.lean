/- 'SoloKnown' returns true for every input, and its arguments read as before. No condition. -/
import Derived.Test.YthifdialndcemaaGreatRows
import Derived.JoinedOf
import Derived.KernelRfl
import Derived.SizedLaws
import Derived.Test.YthifdialndcemaaGreatS9
set_option linter.unusedVariables false
set_option linter.unusedSimpArgs false

namespace Go.Proofs.YthifdialndcemaaGreat
theorem soloKnown_band {a b : Bool} (h : a = true) (k : b = true) : (a && b) = true := by rw [h, k]; rfl
theorem soloKnown_jf0 : (Rows.soloKnownRow.wf (OpenSpec.ofChange Rows.soloKnownSpec) : Bool) = true := by kernel_rfl
theorem soloKnown_jf1 : (laidOutB Tryz.prog : Bool) = true := by kernel_rfl
theorem soloKnown_jf2 : (mapsRowed Tryz.prog : Bool) = true := by kernel_rfl
theorem soloKnown_jf3 : (Tryz.f9.params.all (Tryz.prog.readableRec ·) : Bool) = true := by kernel_rfl
theorem soloKnown_jf4 : (namedTie Tryz.prog Rows.soloKnownRow.named Rows.soloKnownSpec.vars : Bool) = true := by kernel_rfl
theorem soloKnown_jf5 : ((Rows.soloKnownRow.stops == []) : Bool) = true := by kernel_rfl
theorem soloKnown_jf6 : ((Tryz.prog.stops == []) : Bool) = true := by kernel_rfl
theorem soloKnown_jf7 : ((Rows.soloKnownRow.knobs == []) : Bool) = true := by kernel_rfl
theorem soloKnown_jf8 : ((Tryz.prog.stopKnobs == []) : Bool) = true := by kernel_rfl
theorem soloKnown_jf9 : ((Rows.soloKnownRow.inPlace == Tryz.prog.inPlace 9) : Bool) = true := by kernel_rfl
theorem soloKnown_jf10 : ((Rows.soloKnownRow.unfollowed == Tryz.prog.unfollowed 9) : Bool) = true := by kernel_rfl
theorem soloKnown_jf11 : ((Rows.soloKnownRow.recurses == Tryz.prog.recurses 9) : Bool) = true := by kernel_rfl
theorem soloKnown_jf12 : ((Rows.soloKnownRow.named == Tryz.prog.varsNamed 9) : Bool) = true := by kernel_rfl
theorem soloKnown_jf13 : ((Rows.soloKnownRow.maps == (Tryz.f9.params.toList ++ Rows.soloKnownSpec.plain.varTypes Tryz.prog).any (Tryz.prog.mapsRec ·)) : Bool) = true := by kernel_rfl
theorem soloKnown_jf14 : ((Rows.soloKnownRow.ifaces == (Tryz.f9.params.toList ++ Rows.soloKnownSpec.plain.varTypes Tryz.prog).any (Tryz.prog.ifacesRec ·)) : Bool) = true := by kernel_rfl
theorem soloKnown_jf15 : ((Rows.soloKnownRow.mapsOut == Tryz.prog.mapsAmong Tryz.f9.resultTypes.toList) : Bool) = true := by kernel_rfl
theorem soloKnown_jf16 : ((Rows.soloKnownRow.loops == (Tryz.f9.params.toList ++ Rows.soloKnownSpec.plain.varTypes Tryz.prog).any (Tryz.prog.loopsFrom ·)) : Bool) = true := by kernel_rfl
theorem soloKnown_jf17 : ((Rows.soloKnownRow.wideKeys == (Tryz.f9.params.toList ++ Rows.soloKnownSpec.plain.varTypes Tryz.prog ++ Tryz.f9.resultTypes.toList).any (Tryz.prog.wideKeysFrom ·)) : Bool) = true := by kernel_rfl
theorem soloKnown_jf18 : (Rows.soloKnownSpec.vars.all (Tryz.prog.varReadable ·) : Bool) = true := by kernel_rfl
theorem soloKnown_jf19 : (Tryz.f9.resultTypes.all (fun t => Tryz.prog.readableRec t && decide (t < Tryz.prog.types.size)) : Bool) = true := by kernel_rfl
theorem soloKnown_jf20 : ((Rows.soloKnownRow.ifacesOut == Tryz.f9.resultTypes.toList.any (Tryz.prog.ifacesRec ·)) : Bool) = true := by kernel_rfl
theorem soloKnown_jf21 : ((Rows.soloKnownRow.loopsOut == Tryz.f9.resultTypes.toList.any (Tryz.prog.loopsFrom ·)) : Bool) = true := by kernel_rfl
theorem soloKnown_jf22 : ((Rows.soloKnownRow.plainKeys == Tryz.prog.plainKeys) : Bool) = true := by kernel_rfl
theorem soloKnown_jf23 : (Rows.soloKnownRow.shortTexts.isNone : Bool) = true := by kernel_rfl
theorem soloKnown_jf24 : (Tryz.prog.stopsHeard : Bool) = true := by kernel_rfl
theorem soloKnown_jf25 : (Tryz.prog.mayEnter : Bool) = true := by kernel_rfl
theorem soloKnown_jf26 : ((Rows.soloKnownRow.lifted == Tryz.prog.liftsFinal) : Bool) = true := by kernel_rfl
theorem soloKnown_jf27 : ((Tryz.prog.make == some Rows.soloKnownRow.make) : Bool) = true := by kernel_rfl
theorem soloKnown_jf28 : ((Rows.soloKnownRow.kinds == (if Rows.soloKnownRow.domain.isEmpty then [] else Tryz.f9.params.toList.map fun t => match Tryz.prog.underlying t with | some (.int k) => some k | _ => none)) : Bool) = true := by kernel_rfl
theorem soloKnown_jf29 : ((Rows.soloKnownRow.pinned == Rows.soloKnownRow.pinnedBy) : Bool) = true := by kernel_rfl
theorem soloKnown_jf30 : ((Rows.soloKnownRow.veiled == (Tryz.f9.params.toList ++ Rows.soloKnownSpec.plain.varTypes Tryz.prog ++ Tryz.f9.resultTypes.toList).any (Tryz.prog.veiledRec ·)) : Bool) = true := by kernel_rfl
theorem soloKnown_jf31 : (Rows.soloKnownRow.veiledFits Tryz.prog Tryz.f9.params.toList (Tryz.f9.params.toList ++ Rows.soloKnownSpec.plain.varTypes Tryz.prog ++ Tryz.f9.resultTypes.toList) : Bool) = true := by kernel_rfl
set_option maxRecDepth 100000 in
theorem soloKnown_joined : joinedFacts Tryz.prog 9 Tryz.f9 Rows.soloKnownSpec Rows.soloKnownRow = true := by
  unfold joinedFacts
  exact soloKnown_band (soloKnown_band (soloKnown_band (soloKnown_band (soloKnown_band (soloKnown_band (soloKnown_band (soloKnown_band (soloKnown_band (soloKnown_band (soloKnown_band (soloKnown_band (soloKnown_band (soloKnown_band (soloKnown_band (soloKnown_band (soloKnown_band (soloKnown_band (soloKnown_band (soloKnown_band (soloKnown_band (soloKnown_band (soloKnown_band (soloKnown_band (soloKnown_band (soloKnown_band (soloKnown_band (soloKnown_band (soloKnown_band (soloKnown_band (soloKnown_band (soloKnown_jf0) soloKnown_jf1) soloKnown_jf2) soloKnown_jf3) soloKnown_jf4) soloKnown_jf5) soloKnown_jf6) soloKnown_jf7) soloKnown_jf8) soloKnown_jf9) soloKnown_jf10) soloKnown_jf11) soloKnown_jf12) soloKnown_jf13) soloKnown_jf14) soloKnown_jf15) soloKnown_jf16) soloKnown_jf17) soloKnown_jf18) soloKnown_jf19) soloKnown_jf20) soloKnown_jf21) soloKnown_jf22) soloKnown_jf23) soloKnown_jf24) soloKnown_jf25) soloKnown_jf26) soloKnown_jf27) soloKnown_jf28) soloKnown_jf29) soloKnown_jf30) soloKnown_jf31
end Go.Proofs.YthifdialndcemaaGreat

namespace Go.Proofs.YthifdialndcemaaGreat
open Go.ChangeShapes Go.WideShapes Go.ChangeAt Go.RowKit Go.Deep Go.X

theorem soloKnown_own : ownKnob Tryz.prog.godebug = none := by kernel_rfl

set_option maxHeartbeats 1600000 in
set_option maxRecDepth 100000 in
theorem soloKnown_lifted (os : Os) (started : os.Started) (H : Type) (enc : TypeId × Value → H) :
    ReturnsInHanded {} Tryz.checked os 9 .any (Rows.soloKnownSpec.pre6 enc Tryz.prog Tryz.f9 Rows.soloKnownRow.domain false) (Rows.soloKnownSpec.post enc Tryz.prog Tryz.f9 false true false false) := by
  refine returnsInHanded_of_change_sized (C := Tryz.checked) soloKnown_own started (by kernel_rfl) Tryz.func9
    (ChangeSpec.witness6 (enc := enc) (C := Tryz.checked) false ⟨#[], #[], []⟩ 8 (by kernel_rfl) (by kernel_rfl) (by kernel_rfl) (by kernel_rfl)) ?_
  intro W base args ds gs before hval0 hW hcnd hsz0 _
  have hW' := hW
  obtain ⟨p, q, hA0, hV, rfl, hfz, hnd⟩ := hW
  have hA : DataW.TrodAll enc Tryz.prog W 0 (fun _ => true) true Tryz.f9.params.toList args.toList ds p := hA0
  have hp : Tryz.f9.params = #[] := by kernel_rfl
  rw [hp] at hA
  obtain ⟨rfl, rfl, rfl⟩ := trodAll_none hA
  obtain ⟨rfl, rfl⟩ := trodVars_none hV
  have hc := C_SoloKnown (c := ⟨W, fun _ => False⟩) (L := []) 
  refine (hc W (st_nil W)).mono ?_
  rintro x W' ⟨r, rfl, L', ⟨rfl, _⟩, hs⟩
  have hb : Below W.heap.size W W' := hs.mod.below
  have hlt := hW'.lt
  refine ⟨_, rfl, post_below (pa := []) (pv := []) hW' hb (fun _ _ _ => trodAll_mk1 (shut_bool (by kernel_rfl) _)) ?_ (fun _ _ => rfl) (by simp) (ok_one (t := 4) (by kernel_rfl) rfl (okWide_bool_mk (by kernel_rfl) _))⟩
  intro sp hsp
  exact trodAll_mk0

theorem soloKnown_holds : Rows.SoloKnownSaid :=
  OpenClaim.holds_of_wide 9 Tryz.f9 rfl rfl rfl rfl rfl rfl rfl ⟨rfl, rfl, rfl, rfl, rfl⟩ rfl rfl rfl rfl rfl (by kernel_rfl) Tryz.func9 soloKnown_joined
    (of_decide_eq_true (by kernel_rfl)) (by unfold Func.isWrapper; first | (rw [if_pos (by decide +kernel)]; kernel_rfl) | (rw [if_neg (by decide +kernel)]; exact ⟨rfl, rfl⟩))
    (fun os started H enc _ => soloKnown_lifted os started H enc)
#print axioms soloKnown_holds
end Go.Proofs.YthifdialndcemaaGreat
