/- 'PartHolds' returns true for every input, and its arguments read as before. No condition. -/
import Derived.Test.YthifdialndcemaaGreatRows
import Derived.JoinedOf
import Derived.KernelRfl
import Derived.SizedLaws
import Derived.Test.YthifdialndcemaaGreatS11
set_option linter.unusedVariables false
set_option linter.unusedSimpArgs false

namespace Go.Proofs.YthifdialndcemaaGreat
theorem partHolds_band {a b : Bool} (h : a = true) (k : b = true) : (a && b) = true := by rw [h, k]; rfl
theorem partHolds_jf0 : (Rows.partHoldsRow.wf (OpenSpec.ofChange Rows.partHoldsSpec) : Bool) = true := by kernel_rfl
theorem partHolds_jf1 : (laidOutB Tryz.prog : Bool) = true := by kernel_rfl
theorem partHolds_jf2 : (mapsRowed Tryz.prog : Bool) = true := by kernel_rfl
theorem partHolds_jf3 : (Tryz.f3.params.all (Tryz.prog.readableRec ·) : Bool) = true := by kernel_rfl
theorem partHolds_jf4 : (namedTie Tryz.prog Rows.partHoldsRow.named Rows.partHoldsSpec.vars : Bool) = true := by kernel_rfl
theorem partHolds_jf5 : ((Rows.partHoldsRow.stops == []) : Bool) = true := by kernel_rfl
theorem partHolds_jf6 : ((Tryz.prog.stops == []) : Bool) = true := by kernel_rfl
theorem partHolds_jf7 : ((Rows.partHoldsRow.knobs == []) : Bool) = true := by kernel_rfl
theorem partHolds_jf8 : ((Tryz.prog.stopKnobs == []) : Bool) = true := by kernel_rfl
theorem partHolds_jf9 : ((Rows.partHoldsRow.inPlace == Tryz.prog.inPlace 3) : Bool) = true := by kernel_rfl
theorem partHolds_jf10 : ((Rows.partHoldsRow.unfollowed == Tryz.prog.unfollowed 3) : Bool) = true := by kernel_rfl
theorem partHolds_jf11 : ((Rows.partHoldsRow.recurses == Tryz.prog.recurses 3) : Bool) = true := by kernel_rfl
theorem partHolds_jf12 : ((Rows.partHoldsRow.named == Tryz.prog.varsNamed 3) : Bool) = true := by kernel_rfl
theorem partHolds_jf13 : ((Rows.partHoldsRow.maps == (Tryz.f3.params.toList ++ Rows.partHoldsSpec.plain.varTypes Tryz.prog).any (Tryz.prog.mapsRec ·)) : Bool) = true := by kernel_rfl
theorem partHolds_jf14 : ((Rows.partHoldsRow.ifaces == (Tryz.f3.params.toList ++ Rows.partHoldsSpec.plain.varTypes Tryz.prog).any (Tryz.prog.ifacesRec ·)) : Bool) = true := by kernel_rfl
theorem partHolds_jf15 : ((Rows.partHoldsRow.mapsOut == Tryz.prog.mapsAmong Tryz.f3.resultTypes.toList) : Bool) = true := by kernel_rfl
theorem partHolds_jf16 : ((Rows.partHoldsRow.loops == (Tryz.f3.params.toList ++ Rows.partHoldsSpec.plain.varTypes Tryz.prog).any (Tryz.prog.loopsFrom ·)) : Bool) = true := by kernel_rfl
theorem partHolds_jf17 : ((Rows.partHoldsRow.wideKeys == (Tryz.f3.params.toList ++ Rows.partHoldsSpec.plain.varTypes Tryz.prog ++ Tryz.f3.resultTypes.toList).any (Tryz.prog.wideKeysFrom ·)) : Bool) = true := by kernel_rfl
theorem partHolds_jf18 : (Rows.partHoldsSpec.vars.all (Tryz.prog.varReadable ·) : Bool) = true := by kernel_rfl
theorem partHolds_jf19 : (Tryz.f3.resultTypes.all (fun t => Tryz.prog.readableRec t && decide (t < Tryz.prog.types.size)) : Bool) = true := by kernel_rfl
theorem partHolds_jf20 : ((Rows.partHoldsRow.ifacesOut == Tryz.f3.resultTypes.toList.any (Tryz.prog.ifacesRec ·)) : Bool) = true := by kernel_rfl
theorem partHolds_jf21 : ((Rows.partHoldsRow.loopsOut == Tryz.f3.resultTypes.toList.any (Tryz.prog.loopsFrom ·)) : Bool) = true := by kernel_rfl
theorem partHolds_jf22 : ((Rows.partHoldsRow.plainKeys == Tryz.prog.plainKeys) : Bool) = true := by kernel_rfl
theorem partHolds_jf23 : (Rows.partHoldsRow.shortTexts.isNone : Bool) = true := by kernel_rfl
theorem partHolds_jf24 : (Tryz.prog.stopsHeard : Bool) = true := by kernel_rfl
theorem partHolds_jf25 : (Tryz.prog.mayEnter : Bool) = true := by kernel_rfl
theorem partHolds_jf26 : ((Rows.partHoldsRow.lifted == Tryz.prog.liftsFinal) : Bool) = true := by kernel_rfl
theorem partHolds_jf27 : ((Tryz.prog.make == some Rows.partHoldsRow.make) : Bool) = true := by kernel_rfl
theorem partHolds_jf28 : ((Rows.partHoldsRow.kinds == (if Rows.partHoldsRow.domain.isEmpty then [] else Tryz.f3.params.toList.map fun t => match Tryz.prog.underlying t with | some (.int k) => some k | _ => none)) : Bool) = true := by kernel_rfl
theorem partHolds_jf29 : ((Rows.partHoldsRow.pinned == Rows.partHoldsRow.pinnedBy) : Bool) = true := by kernel_rfl
theorem partHolds_jf30 : ((Rows.partHoldsRow.veiled == (Tryz.f3.params.toList ++ Rows.partHoldsSpec.plain.varTypes Tryz.prog ++ Tryz.f3.resultTypes.toList).any (Tryz.prog.veiledRec ·)) : Bool) = true := by kernel_rfl
theorem partHolds_jf31 : (Rows.partHoldsRow.veiledFits Tryz.prog Tryz.f3.params.toList (Tryz.f3.params.toList ++ Rows.partHoldsSpec.plain.varTypes Tryz.prog ++ Tryz.f3.resultTypes.toList) : Bool) = true := by kernel_rfl
set_option maxRecDepth 100000 in
theorem partHolds_joined : joinedFacts Tryz.prog 3 Tryz.f3 Rows.partHoldsSpec Rows.partHoldsRow = true := by
  unfold joinedFacts
  exact partHolds_band (partHolds_band (partHolds_band (partHolds_band (partHolds_band (partHolds_band (partHolds_band (partHolds_band (partHolds_band (partHolds_band (partHolds_band (partHolds_band (partHolds_band (partHolds_band (partHolds_band (partHolds_band (partHolds_band (partHolds_band (partHolds_band (partHolds_band (partHolds_band (partHolds_band (partHolds_band (partHolds_band (partHolds_band (partHolds_band (partHolds_band (partHolds_band (partHolds_band (partHolds_band (partHolds_band (partHolds_jf0) partHolds_jf1) partHolds_jf2) partHolds_jf3) partHolds_jf4) partHolds_jf5) partHolds_jf6) partHolds_jf7) partHolds_jf8) partHolds_jf9) partHolds_jf10) partHolds_jf11) partHolds_jf12) partHolds_jf13) partHolds_jf14) partHolds_jf15) partHolds_jf16) partHolds_jf17) partHolds_jf18) partHolds_jf19) partHolds_jf20) partHolds_jf21) partHolds_jf22) partHolds_jf23) partHolds_jf24) partHolds_jf25) partHolds_jf26) partHolds_jf27) partHolds_jf28) partHolds_jf29) partHolds_jf30) partHolds_jf31
end Go.Proofs.YthifdialndcemaaGreat

namespace Go.Proofs.YthifdialndcemaaGreat
open Go.ChangeShapes Go.WideShapes Go.ChangeAt Go.RowKit Go.Deep Go.X

theorem partHolds_own : ownKnob Tryz.prog.godebug = none := by kernel_rfl

set_option maxHeartbeats 1600000 in
set_option maxRecDepth 100000 in
theorem partHolds_lifted (os : Os) (started : os.Started) (H : Type) (enc : TypeId × Value → H) :
    ReturnsInHanded {} Tryz.checked os 3 .any (Rows.partHoldsSpec.pre6 enc Tryz.prog Tryz.f3 Rows.partHoldsRow.domain false) (Rows.partHoldsSpec.post enc Tryz.prog Tryz.f3 false true false false) := by
  refine returnsInHanded_of_change_sized (C := Tryz.checked) partHolds_own started (by kernel_rfl) Tryz.func3
    (ChangeSpec.witness6 (enc := enc) (C := Tryz.checked) false ⟨#[], #[.slice none 0 0, .agg (Entry_enc .zero), .slice none 0 0, .int .i64 0], []⟩ 8 (by kernel_rfl) (by kernel_rfl) (by kernel_rfl) (by kernel_rfl)) ?_
  intro W base args ds gs before hval0 hW hcnd hsz0 _
  have hsz : (DataW.weightsEach Tryz.prog (Tryz.f3.params.toList ++ Rows.partHoldsSpec.plain.varTypes Tryz.prog) (ds ++ gs)).all (· ≤ reachBytes) = true := hsz0
  have hval : ∀ (j : Nat) t v, Tryz.f3.params[j]? = some t → args[j]? = some v → Value.okWide Tryz.prog W .any base t v := hval0
  have hW' := hW
  obtain ⟨p, q, hA0, hV, rfl, hfz, hnd⟩ := hW
  have hA : DataW.TrodAll enc Tryz.prog W 0 (fun _ => true) true Tryz.f3.params.toList args.toList ds p := hA0
  have hp : Tryz.f3.params = #[22, 27, 22, 2] := by kernel_rfl
  rw [hp] at hA hval hsz
  obtain ⟨v0, v1, v2, v3, d0, d1, d2, d3, p0, p1, p2, p3, rfl, rfl, rfl, h0, h1, h2, h3⟩ := trodAll_four hA
  obtain ⟨rfl, rfl⟩ := trodVars_none hV
  have h0k := h0
  have h1k := h1
  have h2k := h2
  have h3k := h3
  obtain ⟨av, m, cap, xs, rfl, hg, hq⟩ := acts_of (hval 0 22 v0 rfl rfl) h0 (fits_at hsz (i := 0) (by simp) (by simp))
  obtain ⟨en, rfl, hwf, ws, hE⟩ := arg_Entry (hval 1 27 v1 rfl rfl) h1 (fits_at hsz (i := 1) (by simp) (by simp))
  obtain ⟨aw, my, cy, ys, rfl, hg2, hq2⟩ := acts_of (hval 2 22 v2 rfl rfl) h2 (fits_at hsz (i := 2) (by simp) (by simp))
  have u2 : Tryz.prog.underlying 2 = some (.int .i64) := by kernel_rfl
  obtain ⟨u, rfl, rfl, rfl, wv⟩ := open_int u2 (hval 3 2 v3 rfl rfl) h3
  have hc := C_PartHolds (c := ⟨W, fun _ => False⟩) (L := []) (ti := ⟨en.id, hwf⟩) (u := u) (hg _ _ rfl (fun _ h => h)) (cx := cap) (fun x hx => by
    obtain ⟨q1, ⟨ws, q2⟩, _⟩ := hq x hx
    exact ⟨q1, ws, q2 _ _ rfl (fun _ h => h)⟩) (hE _ _ rfl (fun _ h => h)) rfl (hg2 _ _ rfl (fun _ h => h)) (cy := cy) (fun x hx => by
    obtain ⟨q1, ⟨ws, q2⟩, _⟩ := hq2 x hx
    exact ⟨q1, ws, q2 _ _ rfl (fun _ h => h)⟩)
  refine (hc W (st_nil W)).mono ?_
  rintro x W' ⟨r, rfl, L', ⟨rfl, _⟩, hs⟩
  have hb : Below W.heap.size W W' := hs.mod.below
  have hlt := hW'.lt
  refine ⟨_, rfl, post_below (pa := p0 ++ (p1 ++ (p2 ++ []))) (pv := []) hW' hb (fun _ _ _ => trodAll_mk1 (shut_bool (by kernel_rfl) _)) ?_ (fun _ _ => rfl) (by simp) (ok_one (t := 4) (by kernel_rfl) rfl (okWide_bool_mk (by kernel_rfl) _))⟩
  intro sp hsp
  have h9 := trodAll_mk4
    (trod_below (by kernel_rfl) (of_decide_eq_true (by kernel_rfl)) h0k hb (fun x hx => hlt x (by simp [hx])) (sp := sp) (fun x hx => hsp x (by simp [hx])))
    (trod_below (by kernel_rfl) (of_decide_eq_true (by kernel_rfl)) h1k hb (fun x hx => hlt x (by simp [hx])) (sp := sp) (fun x hx => hsp x (by simp [hx])))
    (trod_below (by kernel_rfl) (of_decide_eq_true (by kernel_rfl)) h2k hb (fun x hx => hlt x (by simp [hx])) (sp := sp) (fun x hx => hsp x (by simp [hx])))
    (shut_int (enc := enc) (P := Tryz.prog) (w := W') (base := 0) (spare := sp) (held := true) u2 wv)
  exact h9

theorem partHolds_holds : Rows.PartHoldsSaid :=
  OpenClaim.holds_of_wide 3 Tryz.f3 rfl rfl rfl rfl rfl rfl rfl ⟨rfl, rfl, rfl, rfl, rfl⟩ rfl rfl rfl rfl rfl (by kernel_rfl) Tryz.func3 partHolds_joined
    (of_decide_eq_true (by kernel_rfl)) (by unfold Func.isWrapper; first | (rw [if_pos (by decide +kernel)]; kernel_rfl) | (rw [if_neg (by decide +kernel)]; exact ⟨rfl, rfl⟩))
    (fun os started H enc _ => partHolds_lifted os started H enc)
#print axioms partHolds_holds
end Go.Proofs.YthifdialndcemaaGreat
