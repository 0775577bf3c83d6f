/- 'SoloFirst' returns true for every input, and its arguments read as before. No condition. -/
import Derived.Test.YthifdialndcemaaGreatRows
import Derived.JoinedOf
import Derived.KernelRfl
import Derived.SizedLaws
import Derived.Test.YthifdialndcemaaGreatS10
set_option linter.unusedVariables false
set_option linter.unusedSimpArgs false

namespace Go.Proofs.YthifdialndcemaaGreat
theorem soloFirst_band {a b : Bool} (h : a = true) (k : b = true) : (a && b) = true := by rw [h, k]; rfl
theorem soloFirst_jf0 : (Rows.soloFirstRow.wf (OpenSpec.ofChange Rows.soloFirstSpec) : Bool) = true := by kernel_rfl
theorem soloFirst_jf1 : (laidOutB Tryz.prog : Bool) = true := by kernel_rfl
theorem soloFirst_jf2 : (mapsRowed Tryz.prog : Bool) = true := by kernel_rfl
theorem soloFirst_jf3 : (Tryz.f8.params.all (Tryz.prog.readableRec ·) : Bool) = true := by kernel_rfl
theorem soloFirst_jf4 : (namedTie Tryz.prog Rows.soloFirstRow.named Rows.soloFirstSpec.vars : Bool) = true := by kernel_rfl
theorem soloFirst_jf5 : ((Rows.soloFirstRow.stops == []) : Bool) = true := by kernel_rfl
theorem soloFirst_jf6 : ((Tryz.prog.stops == []) : Bool) = true := by kernel_rfl
theorem soloFirst_jf7 : ((Rows.soloFirstRow.knobs == []) : Bool) = true := by kernel_rfl
theorem soloFirst_jf8 : ((Tryz.prog.stopKnobs == []) : Bool) = true := by kernel_rfl
theorem soloFirst_jf9 : ((Rows.soloFirstRow.inPlace == Tryz.prog.inPlace 8) : Bool) = true := by kernel_rfl
theorem soloFirst_jf10 : ((Rows.soloFirstRow.unfollowed == Tryz.prog.unfollowed 8) : Bool) = true := by kernel_rfl
theorem soloFirst_jf11 : ((Rows.soloFirstRow.recurses == Tryz.prog.recurses 8) : Bool) = true := by kernel_rfl
theorem soloFirst_jf12 : ((Rows.soloFirstRow.named == Tryz.prog.varsNamed 8) : Bool) = true := by kernel_rfl
theorem soloFirst_jf13 : ((Rows.soloFirstRow.maps == (Tryz.f8.params.toList ++ Rows.soloFirstSpec.plain.varTypes Tryz.prog).any (Tryz.prog.mapsRec ·)) : Bool) = true := by kernel_rfl
theorem soloFirst_jf14 : ((Rows.soloFirstRow.ifaces == (Tryz.f8.params.toList ++ Rows.soloFirstSpec.plain.varTypes Tryz.prog).any (Tryz.prog.ifacesRec ·)) : Bool) = true := by kernel_rfl
theorem soloFirst_jf15 : ((Rows.soloFirstRow.mapsOut == Tryz.prog.mapsAmong Tryz.f8.resultTypes.toList) : Bool) = true := by kernel_rfl
theorem soloFirst_jf16 : ((Rows.soloFirstRow.loops == (Tryz.f8.params.toList ++ Rows.soloFirstSpec.plain.varTypes Tryz.prog).any (Tryz.prog.loopsFrom ·)) : Bool) = true := by kernel_rfl
theorem soloFirst_jf17 : ((Rows.soloFirstRow.wideKeys == (Tryz.f8.params.toList ++ Rows.soloFirstSpec.plain.varTypes Tryz.prog ++ Tryz.f8.resultTypes.toList).any (Tryz.prog.wideKeysFrom ·)) : Bool) = true := by kernel_rfl
theorem soloFirst_jf18 : (Rows.soloFirstSpec.vars.all (Tryz.prog.varReadable ·) : Bool) = true := by kernel_rfl
theorem soloFirst_jf19 : (Tryz.f8.resultTypes.all (fun t => Tryz.prog.readableRec t && decide (t < Tryz.prog.types.size)) : Bool) = true := by kernel_rfl
theorem soloFirst_jf20 : ((Rows.soloFirstRow.ifacesOut == Tryz.f8.resultTypes.toList.any (Tryz.prog.ifacesRec ·)) : Bool) = true := by kernel_rfl
theorem soloFirst_jf21 : ((Rows.soloFirstRow.loopsOut == Tryz.f8.resultTypes.toList.any (Tryz.prog.loopsFrom ·)) : Bool) = true := by kernel_rfl
theorem soloFirst_jf22 : ((Rows.soloFirstRow.plainKeys == Tryz.prog.plainKeys) : Bool) = true := by kernel_rfl
theorem soloFirst_jf23 : (Rows.soloFirstRow.shortTexts.isNone : Bool) = true := by kernel_rfl
theorem soloFirst_jf24 : (Tryz.prog.stopsHeard : Bool) = true := by kernel_rfl
theorem soloFirst_jf25 : (Tryz.prog.mayEnter : Bool) = true := by kernel_rfl
theorem soloFirst_jf26 : ((Rows.soloFirstRow.lifted == Tryz.prog.liftsFinal) : Bool) = true := by kernel_rfl
theorem soloFirst_jf27 : ((Tryz.prog.make == some Rows.soloFirstRow.make) : Bool) = true := by kernel_rfl
theorem soloFirst_jf28 : ((Rows.soloFirstRow.kinds == (if Rows.soloFirstRow.domain.isEmpty then [] else Tryz.f8.params.toList.map fun t => match Tryz.prog.underlying t with | some (.int k) => some k | _ => none)) : Bool) = true := by kernel_rfl
theorem soloFirst_jf29 : ((Rows.soloFirstRow.pinned == Rows.soloFirstRow.pinnedBy) : Bool) = true := by kernel_rfl
theorem soloFirst_jf30 : ((Rows.soloFirstRow.veiled == (Tryz.f8.params.toList ++ Rows.soloFirstSpec.plain.varTypes Tryz.prog ++ Tryz.f8.resultTypes.toList).any (Tryz.prog.veiledRec ·)) : Bool) = true := by kernel_rfl
theorem soloFirst_jf31 : (Rows.soloFirstRow.veiledFits Tryz.prog Tryz.f8.params.toList (Tryz.f8.params.toList ++ Rows.soloFirstSpec.plain.varTypes Tryz.prog ++ Tryz.f8.resultTypes.toList) : Bool) = true := by kernel_rfl
set_option maxRecDepth 100000 in
theorem soloFirst_joined : joinedFacts Tryz.prog 8 Tryz.f8 Rows.soloFirstSpec Rows.soloFirstRow = true := by
  unfold joinedFacts
  exact soloFirst_band (soloFirst_band (soloFirst_band (soloFirst_band (soloFirst_band (soloFirst_band (soloFirst_band (soloFirst_band (soloFirst_band (soloFirst_band (soloFirst_band (soloFirst_band (soloFirst_band (soloFirst_band (soloFirst_band (soloFirst_band (soloFirst_band (soloFirst_band (soloFirst_band (soloFirst_band (soloFirst_band (soloFirst_band (soloFirst_band (soloFirst_band (soloFirst_band (soloFirst_band (soloFirst_band (soloFirst_band (soloFirst_band (soloFirst_band (soloFirst_band (soloFirst_jf0) soloFirst_jf1) soloFirst_jf2) soloFirst_jf3) soloFirst_jf4) soloFirst_jf5) soloFirst_jf6) soloFirst_jf7) soloFirst_jf8) soloFirst_jf9) soloFirst_jf10) soloFirst_jf11) soloFirst_jf12) soloFirst_jf13) soloFirst_jf14) soloFirst_jf15) soloFirst_jf16) soloFirst_jf17) soloFirst_jf18) soloFirst_jf19) soloFirst_jf20) soloFirst_jf21) soloFirst_jf22) soloFirst_jf23) soloFirst_jf24) soloFirst_jf25) soloFirst_jf26) soloFirst_jf27) soloFirst_jf28) soloFirst_jf29) soloFirst_jf30) soloFirst_jf31
end Go.Proofs.YthifdialndcemaaGreat

namespace Go.Proofs.YthifdialndcemaaGreat
open Go.ChangeShapes Go.WideShapes Go.ChangeAt Go.RowKit Go.Deep Go.X

theorem soloFirst_own : ownKnob Tryz.prog.godebug = none := by kernel_rfl

set_option maxHeartbeats 1600000 in
set_option maxRecDepth 100000 in
theorem soloFirst_lifted (os : Os) (started : os.Started) (H : Type) (enc : TypeId × Value → H) :
    ReturnsInHanded {} Tryz.checked os 8 .any (Rows.soloFirstSpec.pre6 enc Tryz.prog Tryz.f8 Rows.soloFirstRow.domain false) (Rows.soloFirstSpec.post enc Tryz.prog Tryz.f8 false true false false) := by
  refine returnsInHanded_of_change_sized (C := Tryz.checked) soloFirst_own started (by kernel_rfl) Tryz.func8
    (ChangeSpec.witness6 (enc := enc) (C := Tryz.checked) false ⟨#[], #[.slice none 0 0, .slice none 0 0, .slice none 0 0], []⟩ 8 (by kernel_rfl) (by kernel_rfl) (by kernel_rfl) (by kernel_rfl)) ?_
  intro W base args ds gs before hval0 hW hcnd hsz0 _
  have hsz : (DataW.weightsEach Tryz.prog (Tryz.f8.params.toList ++ Rows.soloFirstSpec.plain.varTypes Tryz.prog) (ds ++ gs)).all (· ≤ reachBytes) = true := hsz0
  have hval : ∀ (j : Nat) t v, Tryz.f8.params[j]? = some t → args[j]? = some v → Value.okWide Tryz.prog W .any base t v := hval0
  have hW' := hW
  obtain ⟨p, q, hA0, hV, rfl, hfz, hnd⟩ := hW
  have hA : DataW.TrodAll enc Tryz.prog W 0 (fun _ => true) true Tryz.f8.params.toList args.toList ds p := hA0
  have hp : Tryz.f8.params = #[96, 25, 25] := by kernel_rfl
  rw [hp] at hA hval hsz
  obtain ⟨v0, v1, v2, d0, d1, d2, p0, p1, p2, rfl, rfl, rfl, h0, h1, h2⟩ := trodAll_three hA
  obtain ⟨rfl, rfl⟩ := trodVars_none hV
  have h0k := h0
  have h1k := h1
  have h2k := h2
  obtain ⟨av0, m0, cap0, xs0, rfl, hg0, hq0⟩ := sacts_of (hval 0 96 v0 rfl rfl) h0 (fits_at hsz (i := 0) (by simp) (by simp))
  obtain ⟨av1, m1, cap1, xs1, rfl, hg1⟩ := writes_of (hval 1 25 v1 rfl rfl) h1 (fits_at hsz (i := 1) (by simp) (by simp))
  obtain ⟨av2, m2, cap2, xs2, rfl, hg2⟩ := writes_of (hval 2 25 v2 rfl rfl) h2 (fits_at hsz (i := 2) (by simp) (by simp))
  have hc := C_SoloFirst (c := ⟨W, fun _ => False⟩) (L := []) (hg0 _ _ rfl (fun _ h => h)) (cx := cap0) hq0 (hg1 _ _ rfl (fun _ h => h)) (cu := cap1) (hg2 _ _ rfl (fun _ h => h)) (cv := cap2)
  refine (hc W (st_nil W)).mono ?_
  rintro x W' ⟨r, rfl, L', ⟨rfl, _⟩, hs⟩
  have hb : Below W.heap.size W W' := hs.mod.below
  have hlt := hW'.lt
  refine ⟨_, rfl, post_below (pa := p0 ++ (p1 ++ p2)) (pv := []) hW' hb (fun _ _ _ => trodAll_mk1 (shut_bool (by kernel_rfl) _)) ?_ (fun _ _ => rfl) (by simp) (ok_one (t := 4) (by kernel_rfl) rfl (okWide_bool_mk (by kernel_rfl) _))⟩
  intro sp hsp
  have h9 := trodAll_mk3
    (trod_below (by kernel_rfl) (of_decide_eq_true (by kernel_rfl)) h0k hb (fun x hx => hlt x (by simp [hx])) (sp := sp) (fun x hx => hsp x (by simp [hx])))
    (trod_below (by kernel_rfl) (of_decide_eq_true (by kernel_rfl)) h1k hb (fun x hx => hlt x (by simp [hx])) (sp := sp) (fun x hx => hsp x (by simp [hx])))
    (trod_below (by kernel_rfl) (of_decide_eq_true (by kernel_rfl)) h2k hb (fun x hx => hlt x (by simp [hx])) (sp := sp) (fun x hx => hsp x (by simp [hx])))
  first | exact h9 | (simp only [List.append_nil] at h9; exact h9)

theorem soloFirst_holds : Rows.SoloFirstSaid :=
  OpenClaim.holds_of_wide 8 Tryz.f8 rfl rfl rfl rfl rfl rfl rfl ⟨rfl, rfl, rfl, rfl, rfl⟩ rfl rfl rfl rfl rfl (by kernel_rfl) Tryz.func8 soloFirst_joined
    (of_decide_eq_true (by kernel_rfl)) (by unfold Func.isWrapper; first | (rw [if_pos (by decide +kernel)]; kernel_rfl) | (rw [if_neg (by decide +kernel)]; exact ⟨rfl, rfl⟩))
    (fun os started H enc _ => soloFirst_lifted os started H enc)
#print axioms soloFirst_holds
end Go.Proofs.YthifdialndcemaaGreat
