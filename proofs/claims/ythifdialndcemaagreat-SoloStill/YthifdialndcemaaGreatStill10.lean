/- 'SoloStill' returns true for every input, and its arguments read as before. No condition. -/
import Derived.Test.YthifdialndcemaaGreatRows
import Derived.JoinedOf
import Derived.KernelRfl
import Derived.SizedLaws
import Derived.Test.YthifdialndcemaaGreatS9
set_option linter.unusedVariables false
set_option linter.unusedSimpArgs false

namespace Go.Proofs.YthifdialndcemaaGreat
theorem soloStill_band {a b : Bool} (h : a = true) (k : b = true) : (a && b) = true := by rw [h, k]; rfl
theorem soloStill_jf0 : (Rows.soloStillRow.wf (OpenSpec.ofChange Rows.soloStillSpec) : Bool) = true := by kernel_rfl
theorem soloStill_jf1 : (laidOutB Tryz.prog : Bool) = true := by kernel_rfl
theorem soloStill_jf2 : (mapsRowed Tryz.prog : Bool) = true := by kernel_rfl
theorem soloStill_jf3 : (Tryz.f10.params.all (Tryz.prog.readableRec ·) : Bool) = true := by kernel_rfl
theorem soloStill_jf4 : (namedTie Tryz.prog Rows.soloStillRow.named Rows.soloStillSpec.vars : Bool) = true := by kernel_rfl
theorem soloStill_jf5 : ((Rows.soloStillRow.stops == []) : Bool) = true := by kernel_rfl
theorem soloStill_jf6 : ((Tryz.prog.stops == []) : Bool) = true := by kernel_rfl
theorem soloStill_jf7 : ((Rows.soloStillRow.knobs == []) : Bool) = true := by kernel_rfl
theorem soloStill_jf8 : ((Tryz.prog.stopKnobs == []) : Bool) = true := by kernel_rfl
theorem soloStill_jf9 : ((Rows.soloStillRow.inPlace == Tryz.prog.inPlace 10) : Bool) = true := by kernel_rfl
theorem soloStill_jf10 : ((Rows.soloStillRow.unfollowed == Tryz.prog.unfollowed 10) : Bool) = true := by kernel_rfl
theorem soloStill_jf11 : ((Rows.soloStillRow.recurses == Tryz.prog.recurses 10) : Bool) = true := by kernel_rfl
theorem soloStill_jf12 : ((Rows.soloStillRow.named == Tryz.prog.varsNamed 10) : Bool) = true := by kernel_rfl
theorem soloStill_jf13 : ((Rows.soloStillRow.maps == (Tryz.f10.params.toList ++ Rows.soloStillSpec.plain.varTypes Tryz.prog).any (Tryz.prog.mapsRec ·)) : Bool) = true := by kernel_rfl
theorem soloStill_jf14 : ((Rows.soloStillRow.ifaces == (Tryz.f10.params.toList ++ Rows.soloStillSpec.plain.varTypes Tryz.prog).any (Tryz.prog.ifacesRec ·)) : Bool) = true := by kernel_rfl
theorem soloStill_jf15 : ((Rows.soloStillRow.mapsOut == Tryz.prog.mapsAmong Tryz.f10.resultTypes.toList) : Bool) = true := by kernel_rfl
theorem soloStill_jf16 : ((Rows.soloStillRow.loops == (Tryz.f10.params.toList ++ Rows.soloStillSpec.plain.varTypes Tryz.prog).any (Tryz.prog.loopsFrom ·)) : Bool) = true := by kernel_rfl
theorem soloStill_jf17 : ((Rows.soloStillRow.wideKeys == (Tryz.f10.params.toList ++ Rows.soloStillSpec.plain.varTypes Tryz.prog ++ Tryz.f10.resultTypes.toList).any (Tryz.prog.wideKeysFrom ·)) : Bool) = true := by kernel_rfl
theorem soloStill_jf18 : (Rows.soloStillSpec.vars.all (Tryz.prog.varReadable ·) : Bool) = true := by kernel_rfl
theorem soloStill_jf19 : (Tryz.f10.resultTypes.all (fun t => Tryz.prog.readableRec t && decide (t < Tryz.prog.types.size)) : Bool) = true := by kernel_rfl
theorem soloStill_jf20 : ((Rows.soloStillRow.ifacesOut == Tryz.f10.resultTypes.toList.any (Tryz.prog.ifacesRec ·)) : Bool) = true := by kernel_rfl
theorem soloStill_jf21 : ((Rows.soloStillRow.loopsOut == Tryz.f10.resultTypes.toList.any (Tryz.prog.loopsFrom ·)) : Bool) = true := by kernel_rfl
theorem soloStill_jf22 : ((Rows.soloStillRow.plainKeys == Tryz.prog.plainKeys) : Bool) = true := by kernel_rfl
theorem soloStill_jf23 : (Rows.soloStillRow.shortTexts.isNone : Bool) = true := by kernel_rfl
theorem soloStill_jf24 : (Tryz.prog.stopsHeard : Bool) = true := by kernel_rfl
theorem soloStill_jf25 : (Tryz.prog.mayEnter : Bool) = true := by kernel_rfl
theorem soloStill_jf26 : ((Rows.soloStillRow.lifted == Tryz.prog.liftsFinal) : Bool) = true := by kernel_rfl
theorem soloStill_jf27 : ((Tryz.prog.make == some Rows.soloStillRow.make) : Bool) = true := by kernel_rfl
theorem soloStill_jf28 : ((Rows.soloStillRow.kinds == (if Rows.soloStillRow.domain.isEmpty then [] else Tryz.f10.params.toList.map fun t => match Tryz.prog.underlying t with | some (.int k) => some k | _ => none)) : Bool) = true := by kernel_rfl
theorem soloStill_jf29 : ((Rows.soloStillRow.pinned == Rows.soloStillRow.pinnedBy) : Bool) = true := by kernel_rfl
theorem soloStill_jf30 : ((Rows.soloStillRow.veiled == (Tryz.f10.params.toList ++ Rows.soloStillSpec.plain.varTypes Tryz.prog ++ Tryz.f10.resultTypes.toList).any (Tryz.prog.veiledRec ·)) : Bool) = true := by kernel_rfl
theorem soloStill_jf31 : (Rows.soloStillRow.veiledFits Tryz.prog Tryz.f10.params.toList (Tryz.f10.params.toList ++ Rows.soloStillSpec.plain.varTypes Tryz.prog ++ Tryz.f10.resultTypes.toList) : Bool) = true := by kernel_rfl
set_option maxRecDepth 100000 in
theorem soloStill_joined : joinedFacts Tryz.prog 10 Tryz.f10 Rows.soloStillSpec Rows.soloStillRow = true := by
  unfold joinedFacts
  exact soloStill_band (soloStill_band (soloStill_band (soloStill_band (soloStill_band (soloStill_band (soloStill_band (soloStill_band (soloStill_band (soloStill_band (soloStill_band (soloStill_band (soloStill_band (soloStill_band (soloStill_band (soloStill_band (soloStill_band (soloStill_band (soloStill_band (soloStill_band (soloStill_band (soloStill_band (soloStill_band (soloStill_band (soloStill_band (soloStill_band (soloStill_band (soloStill_band (soloStill_band (soloStill_band (soloStill_band (soloStill_jf0) soloStill_jf1) soloStill_jf2) soloStill_jf3) soloStill_jf4) soloStill_jf5) soloStill_jf6) soloStill_jf7) soloStill_jf8) soloStill_jf9) soloStill_jf10) soloStill_jf11) soloStill_jf12) soloStill_jf13) soloStill_jf14) soloStill_jf15) soloStill_jf16) soloStill_jf17) soloStill_jf18) soloStill_jf19) soloStill_jf20) soloStill_jf21) soloStill_jf22) soloStill_jf23) soloStill_jf24) soloStill_jf25) soloStill_jf26) soloStill_jf27) soloStill_jf28) soloStill_jf29) soloStill_jf30) soloStill_jf31
end Go.Proofs.YthifdialndcemaaGreat

namespace Go.Proofs.YthifdialndcemaaGreat
open Go.ChangeShapes Go.WideShapes Go.ChangeAt Go.RowKit Go.Deep Go.X

theorem soloStill_own : ownKnob Tryz.prog.godebug = none := by kernel_rfl

set_option maxHeartbeats 1600000 in
set_option maxRecDepth 100000 in
theorem soloStill_lifted (os : Os) (started : os.Started) (H : Type) (enc : TypeId × Value → H) :
    ReturnsInHanded {} Tryz.checked os 10 .any (Rows.soloStillSpec.pre6 enc Tryz.prog Tryz.f10 Rows.soloStillRow.domain false) (Rows.soloStillSpec.post enc Tryz.prog Tryz.f10 false true false false) := by
  refine returnsInHanded_of_change_sized (C := Tryz.checked) soloStill_own started (by kernel_rfl) Tryz.func10
    (ChangeSpec.witness6 (enc := enc) (C := Tryz.checked) false ⟨#[], #[.slice none 0 0, .slice none 0 0, .agg (Key_enc .zero)], []⟩ 8 (by kernel_rfl) (by kernel_rfl) (by kernel_rfl) (by kernel_rfl)) ?_
  intro W base args ds gs before hval0 hW hcnd hsz0 _
  have hsz : (DataW.weightsEach Tryz.prog (Tryz.f10.params.toList ++ Rows.soloStillSpec.plain.varTypes Tryz.prog) (ds ++ gs)).all (· ≤ reachBytes) = true := hsz0
  have hval : ∀ (j : Nat) t v, Tryz.f10.params[j]? = some t → args[j]? = some v → Value.okWide Tryz.prog W .any base t v := hval0
  have hW' := hW
  obtain ⟨p, q, hA0, hV, rfl, hfz, hnd⟩ := hW
  have hA : DataW.TrodAll enc Tryz.prog W 0 (fun _ => true) true Tryz.f10.params.toList args.toList ds p := hA0
  have hp : Tryz.f10.params = #[96, 96, 45] := by kernel_rfl
  rw [hp] at hA hval hsz
  obtain ⟨v0, v1, v2, d0, d1, d2, p0, p1, p2, rfl, rfl, rfl, h0, h1, h2⟩ := trodAll_three hA
  obtain ⟨rfl, rfl⟩ := trodVars_none hV
  have h0k := h0
  have h1k := h1
  have h2k := h2
  obtain ⟨av0, m0, cap0, xs0, rfl, hg0, hq0⟩ := sacts_of (hval 0 96 v0 rfl rfl) h0 (fits_at hsz (i := 0) (by simp) (by simp))
  obtain ⟨av1, m1, cap1, xs1, rfl, hg1, hq1⟩ := sacts_of (hval 1 96 v1 rfl rfl) h1 (fits_at hsz (i := 1) (by simp) (by simp))
  obtain ⟨k2, rfl⟩ := arg_Key (hval 2 45 v2 rfl rfl) h2
  have hc := C_SoloStill (c := ⟨W, fun _ => False⟩) (L := []) (hg0 _ _ rfl (fun _ h => h)) (cx := cap0) hq0 (hg1 _ _ rfl (fun _ h => h)) (cx1 := cap1) hq1 (kk := k2)
  refine (hc W (st_nil W)).mono ?_
  rintro x W' ⟨r, rfl, L', ⟨rfl, _⟩, hs⟩
  have hb : Below W.heap.size W W' := hs.mod.below
  have hlt := hW'.lt
  refine ⟨_, rfl, post_below (pa := p0 ++ (p1 ++ p2)) (pv := []) hW' hb (fun _ _ _ => trodAll_mk1 (shut_bool (by kernel_rfl) _)) ?_ (fun _ _ => rfl) (by simp) (ok_one (t := 4) (by kernel_rfl) rfl (okWide_bool_mk (by kernel_rfl) _))⟩
  intro sp hsp
  have h9 := trodAll_mk3
    (trod_below (by kernel_rfl) (of_decide_eq_true (by kernel_rfl)) h0k hb (fun x hx => hlt x (by simp [hx])) (sp := sp) (fun x hx => hsp x (by simp [hx])))
    (trod_below (by kernel_rfl) (of_decide_eq_true (by kernel_rfl)) h1k hb (fun x hx => hlt x (by simp [hx])) (sp := sp) (fun x hx => hsp x (by simp [hx])))
    (trod_below (by kernel_rfl) (of_decide_eq_true (by kernel_rfl)) h2k hb (fun x hx => hlt x (by simp [hx])) (sp := sp) (fun x hx => hsp x (by simp [hx])))
  first | exact h9 | (simp only [List.append_nil] at h9; exact h9)

theorem soloStill_holds : Rows.SoloStillSaid :=
  OpenClaim.holds_of_wide 10 Tryz.f10 rfl rfl rfl rfl rfl rfl rfl ⟨rfl, rfl, rfl, rfl, rfl⟩ rfl rfl rfl rfl rfl (by kernel_rfl) Tryz.func10 soloStill_joined
    (of_decide_eq_true (by kernel_rfl)) (by unfold Func.isWrapper; first | (rw [if_pos (by decide +kernel)]; kernel_rfl) | (rw [if_neg (by decide +kernel)]; exact ⟨rfl, rfl⟩))
    (fun os started H enc _ => soloStill_lifted os started H enc)
#print axioms soloStill_holds
end Go.Proofs.YthifdialndcemaaGreat
