/- 'PartStill' returns true for every input, and its arguments read as before. No condition. -/
import Derived.Test.YthifdialndcemaaGreatRows
import Derived.JoinedOf
import Derived.KernelRfl
import Derived.SizedLaws
import Derived.Test.YthifdialndcemaaGreatS11
set_option linter.unusedVariables false
set_option linter.unusedSimpArgs false

namespace Go.Proofs.YthifdialndcemaaGreat
theorem partStill_band {a b : Bool} (h : a = true) (k : b = true) : (a && b) = true := by rw [h, k]; rfl
theorem partStill_jf0 : (Rows.partStillRow.wf (OpenSpec.ofChange Rows.partStillSpec) : Bool) = true := by kernel_rfl
theorem partStill_jf1 : (laidOutB Tryz.prog : Bool) = true := by kernel_rfl
theorem partStill_jf2 : (mapsRowed Tryz.prog : Bool) = true := by kernel_rfl
theorem partStill_jf3 : (Tryz.f4.params.all (Tryz.prog.readableRec ·) : Bool) = true := by kernel_rfl
theorem partStill_jf4 : (namedTie Tryz.prog Rows.partStillRow.named Rows.partStillSpec.vars : Bool) = true := by kernel_rfl
theorem partStill_jf5 : ((Rows.partStillRow.stops == []) : Bool) = true := by kernel_rfl
theorem partStill_jf6 : ((Tryz.prog.stops == []) : Bool) = true := by kernel_rfl
theorem partStill_jf7 : ((Rows.partStillRow.knobs == []) : Bool) = true := by kernel_rfl
theorem partStill_jf8 : ((Tryz.prog.stopKnobs == []) : Bool) = true := by kernel_rfl
theorem partStill_jf9 : ((Rows.partStillRow.inPlace == Tryz.prog.inPlace 4) : Bool) = true := by kernel_rfl
theorem partStill_jf10 : ((Rows.partStillRow.unfollowed == Tryz.prog.unfollowed 4) : Bool) = true := by kernel_rfl
theorem partStill_jf11 : ((Rows.partStillRow.recurses == Tryz.prog.recurses 4) : Bool) = true := by kernel_rfl
theorem partStill_jf12 : ((Rows.partStillRow.named == Tryz.prog.varsNamed 4) : Bool) = true := by kernel_rfl
theorem partStill_jf13 : ((Rows.partStillRow.maps == (Tryz.f4.params.toList ++ Rows.partStillSpec.plain.varTypes Tryz.prog).any (Tryz.prog.mapsRec ·)) : Bool) = true := by kernel_rfl
theorem partStill_jf14 : ((Rows.partStillRow.ifaces == (Tryz.f4.params.toList ++ Rows.partStillSpec.plain.varTypes Tryz.prog).any (Tryz.prog.ifacesRec ·)) : Bool) = true := by kernel_rfl
theorem partStill_jf15 : ((Rows.partStillRow.mapsOut == Tryz.prog.mapsAmong Tryz.f4.resultTypes.toList) : Bool) = true := by kernel_rfl
theorem partStill_jf16 : ((Rows.partStillRow.loops == (Tryz.f4.params.toList ++ Rows.partStillSpec.plain.varTypes Tryz.prog).any (Tryz.prog.loopsFrom ·)) : Bool) = true := by kernel_rfl
theorem partStill_jf17 : ((Rows.partStillRow.wideKeys == (Tryz.f4.params.toList ++ Rows.partStillSpec.plain.varTypes Tryz.prog ++ Tryz.f4.resultTypes.toList).any (Tryz.prog.wideKeysFrom ·)) : Bool) = true := by kernel_rfl
theorem partStill_jf18 : (Rows.partStillSpec.vars.all (Tryz.prog.varReadable ·) : Bool) = true := by kernel_rfl
theorem partStill_jf19 : (Tryz.f4.resultTypes.all (fun t => Tryz.prog.readableRec t && decide (t < Tryz.prog.types.size)) : Bool) = true := by kernel_rfl
theorem partStill_jf20 : ((Rows.partStillRow.ifacesOut == Tryz.f4.resultTypes.toList.any (Tryz.prog.ifacesRec ·)) : Bool) = true := by kernel_rfl
theorem partStill_jf21 : ((Rows.partStillRow.loopsOut == Tryz.f4.resultTypes.toList.any (Tryz.prog.loopsFrom ·)) : Bool) = true := by kernel_rfl
theorem partStill_jf22 : ((Rows.partStillRow.plainKeys == Tryz.prog.plainKeys) : Bool) = true := by kernel_rfl
theorem partStill_jf23 : (Rows.partStillRow.shortTexts.isNone : Bool) = true := by kernel_rfl
theorem partStill_jf24 : (Tryz.prog.stopsHeard : Bool) = true := by kernel_rfl
theorem partStill_jf25 : (Tryz.prog.mayEnter : Bool) = true := by kernel_rfl
theorem partStill_jf26 : ((Rows.partStillRow.lifted == Tryz.prog.liftsFinal) : Bool) = true := by kernel_rfl
theorem partStill_jf27 : ((Tryz.prog.make == some Rows.partStillRow.make) : Bool) = true := by kernel_rfl
theorem partStill_jf28 : ((Rows.partStillRow.kinds == (if Rows.partStillRow.domain.isEmpty then [] else Tryz.f4.params.toList.map fun t => match Tryz.prog.underlying t with | some (.int k) => some k | _ => none)) : Bool) = true := by kernel_rfl
theorem partStill_jf29 : ((Rows.partStillRow.pinned == Rows.partStillRow.pinnedBy) : Bool) = true := by kernel_rfl
theorem partStill_jf30 : ((Rows.partStillRow.veiled == (Tryz.f4.params.toList ++ Rows.partStillSpec.plain.varTypes Tryz.prog ++ Tryz.f4.resultTypes.toList).any (Tryz.prog.veiledRec ·)) : Bool) = true := by kernel_rfl
theorem partStill_jf31 : (Rows.partStillRow.veiledFits Tryz.prog Tryz.f4.params.toList (Tryz.f4.params.toList ++ Rows.partStillSpec.plain.varTypes Tryz.prog ++ Tryz.f4.resultTypes.toList) : Bool) = true := by kernel_rfl
set_option maxRecDepth 100000 in
theorem partStill_joined : joinedFacts Tryz.prog 4 Tryz.f4 Rows.partStillSpec Rows.partStillRow = true := by
  unfold joinedFacts
  exact partStill_band (partStill_band (partStill_band (partStill_band (partStill_band (partStill_band (partStill_band (partStill_band (partStill_band (partStill_band (partStill_band (partStill_band (partStill_band (partStill_band (partStill_band (partStill_band (partStill_band (partStill_band (partStill_band (partStill_band (partStill_band (partStill_band (partStill_band (partStill_band (partStill_band (partStill_band (partStill_band (partStill_band (partStill_band (partStill_band (partStill_band (partStill_jf0) partStill_jf1) partStill_jf2) partStill_jf3) partStill_jf4) partStill_jf5) partStill_jf6) partStill_jf7) partStill_jf8) partStill_jf9) partStill_jf10) partStill_jf11) partStill_jf12) partStill_jf13) partStill_jf14) partStill_jf15) partStill_jf16) partStill_jf17) partStill_jf18) partStill_jf19) partStill_jf20) partStill_jf21) partStill_jf22) partStill_jf23) partStill_jf24) partStill_jf25) partStill_jf26) partStill_jf27) partStill_jf28) partStill_jf29) partStill_jf30) partStill_jf31
end Go.Proofs.YthifdialndcemaaGreat

namespace Go.Proofs.YthifdialndcemaaGreat
open Go.ChangeShapes Go.WideShapes Go.ChangeAt Go.RowKit Go.Deep Go.X

theorem partStill_own : ownKnob Tryz.prog.godebug = none := by kernel_rfl

set_option maxHeartbeats 1600000 in
set_option maxRecDepth 100000 in
theorem partStill_lifted (os : Os) (started : os.Started) (H : Type) (enc : TypeId × Value → H) :
    ReturnsInHanded {} Tryz.checked os 4 .any (Rows.partStillSpec.pre6 enc Tryz.prog Tryz.f4 Rows.partStillRow.domain false) (Rows.partStillSpec.post enc Tryz.prog Tryz.f4 false true false false) := by
  refine returnsInHanded_of_change_sized (C := Tryz.checked) partStill_own started (by kernel_rfl) Tryz.func4
    (ChangeSpec.witness6 (enc := enc) (C := Tryz.checked) false ⟨#[], #[.slice none 0 0, .agg (Key_enc .zero), .agg (Stamp_enc .zero), .slice none 0 0], []⟩ 8 (by kernel_rfl) (by kernel_rfl) (by kernel_rfl) (by kernel_rfl)) ?_
  intro W base args ds gs before hval0 hW hcnd hsz0 _
  have hsz : (DataW.weightsEach Tryz.prog (Tryz.f4.params.toList ++ Rows.partStillSpec.plain.varTypes Tryz.prog) (ds ++ gs)).all (· ≤ reachBytes) = true := hsz0
  have hval : ∀ (j : Nat) t v, Tryz.f4.params[j]? = some t → args[j]? = some v → Value.okWide Tryz.prog W .any base t v := hval0
  have hW' := hW
  obtain ⟨p, q, hA0, hV, rfl, hfz, hnd⟩ := hW
  have hA : DataW.TrodAll enc Tryz.prog W 0 (fun _ => true) true Tryz.f4.params.toList args.toList ds p := hA0
  have hp : Tryz.f4.params = #[22, 45, 24, 22] := by kernel_rfl
  rw [hp] at hA hval hsz
  obtain ⟨v0, v1, v2, v3, d0, d1, d2, d3, p0, p1, p2, p3, rfl, rfl, rfl, h0, h1, h2, h3⟩ := trodAll_four hA
  obtain ⟨rfl, rfl⟩ := trodVars_none hV
  have h0k := h0
  have h1k := h1
  have h2k := h2
  have h3k := h3
  obtain ⟨av, m, cap, xs, rfl, hg, hq⟩ := acts_of (hval 0 22 v0 rfl rfl) h0 (fits_at hsz (i := 0) (by simp) (by simp))
  obtain ⟨kk, rfl⟩ := arg_Key (hval 1 45 v1 rfl rfl) h1
  obtain ⟨s0, rfl⟩ := arg_Stamp (hval 2 24 v2 rfl rfl) h2 (fits_at hsz (i := 2) (by simp) (by simp))
  obtain ⟨aw, my, cy, ys, rfl, hg2, hq2⟩ := acts_of (hval 3 22 v3 rfl rfl) h3 (fits_at hsz (i := 3) (by simp) (by simp))
  have hc := C_PartStill (c := ⟨W, fun _ => False⟩) (L := []) (kk := kk) (s0 := s0) (hg _ _ rfl (fun _ h => h)) (cx := cap) (fun x hx => by
    obtain ⟨q1, ⟨ws, q2⟩, _⟩ := hq x hx
    exact ⟨q1, ws, q2 _ _ rfl (fun _ h => h)⟩) (hg2 _ _ rfl (fun _ h => h)) (cy := cy) (fun x hx => by
    obtain ⟨q1, ⟨ws, q2⟩, _⟩ := hq2 x hx
    exact ⟨q1, ws, q2 _ _ rfl (fun _ h => h)⟩)
  refine (hc W (st_nil W)).mono ?_
  rintro x W' ⟨r, rfl, L', ⟨rfl, _⟩, hs⟩
  have hb : Below W.heap.size W W' := hs.mod.below
  have hlt := hW'.lt
  refine ⟨_, rfl, post_below (pa := p0 ++ (p1 ++ (p2 ++ p3))) (pv := []) hW' hb (fun _ _ _ => trodAll_mk1 (shut_bool (by kernel_rfl) _)) ?_ (fun _ _ => rfl) (by simp) (ok_one (t := 4) (by kernel_rfl) rfl (okWide_bool_mk (by kernel_rfl) _))⟩
  intro sp hsp
  have h9 := trodAll_mk4
    (trod_below (by kernel_rfl) (of_decide_eq_true (by kernel_rfl)) h0k hb (fun x hx => hlt x (by simp [hx])) (sp := sp) (fun x hx => hsp x (by simp [hx])))
    (trod_below (by kernel_rfl) (of_decide_eq_true (by kernel_rfl)) h1k hb (fun x hx => hlt x (by simp [hx])) (sp := sp) (fun x hx => hsp x (by simp [hx])))
    (trod_below (by kernel_rfl) (of_decide_eq_true (by kernel_rfl)) h2k hb (fun x hx => hlt x (by simp [hx])) (sp := sp) (fun x hx => hsp x (by simp [hx])))
    (trod_below (by kernel_rfl) (of_decide_eq_true (by kernel_rfl)) h3k hb (fun x hx => hlt x (by simp [hx])) (sp := sp) (fun x hx => hsp x (by simp [hx])))
  exact h9

theorem partStill_holds : Rows.PartStillSaid :=
  OpenClaim.holds_of_wide 4 Tryz.f4 rfl rfl rfl rfl rfl rfl rfl ⟨rfl, rfl, rfl, rfl, rfl⟩ rfl rfl rfl rfl rfl (by kernel_rfl) Tryz.func4 partStill_joined
    (of_decide_eq_true (by kernel_rfl)) (by unfold Func.isWrapper; first | (rw [if_pos (by decide +kernel)]; kernel_rfl) | (rw [if_neg (by decide +kernel)]; exact ⟨rfl, rfl⟩))
    (fun os started H enc _ => partStill_lifted os started H enc)
#print axioms partStill_holds
end Go.Proofs.YthifdialndcemaaGreat
