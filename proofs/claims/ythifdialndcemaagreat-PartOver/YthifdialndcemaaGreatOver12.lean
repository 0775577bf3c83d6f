/- 'PartOver' returns true for every input, and its arguments read as before. No condition. -/
import Derived.Test.YthifdialndcemaaGreatRows
import Derived.JoinedOf
import Derived.KernelRfl
import Derived.SizedLaws
import Derived.Test.YthifdialndcemaaGreatS11
set_option linter.unusedVariables false
set_option linter.unusedSimpArgs false

namespace Go.Proofs.YthifdialndcemaaGreat
theorem partOver_band {a b : Bool} (h : a = true) (k : b = true) : (a && b) = true := by rw [h, k]; rfl
theorem partOver_jf0 : (Rows.partOverRow.wf (OpenSpec.ofChange Rows.partOverSpec) : Bool) = true := by kernel_rfl
theorem partOver_jf1 : (laidOutB Tryz.prog : Bool) = true := by kernel_rfl
theorem partOver_jf2 : (mapsRowed Tryz.prog : Bool) = true := by kernel_rfl
theorem partOver_jf3 : (Tryz.f5.params.all (Tryz.prog.readableRec ·) : Bool) = true := by kernel_rfl
theorem partOver_jf4 : (namedTie Tryz.prog Rows.partOverRow.named Rows.partOverSpec.vars : Bool) = true := by kernel_rfl
theorem partOver_jf5 : ((Rows.partOverRow.stops == []) : Bool) = true := by kernel_rfl
theorem partOver_jf6 : ((Tryz.prog.stops == []) : Bool) = true := by kernel_rfl
theorem partOver_jf7 : ((Rows.partOverRow.knobs == []) : Bool) = true := by kernel_rfl
theorem partOver_jf8 : ((Tryz.prog.stopKnobs == []) : Bool) = true := by kernel_rfl
theorem partOver_jf9 : ((Rows.partOverRow.inPlace == Tryz.prog.inPlace 5) : Bool) = true := by kernel_rfl
theorem partOver_jf10 : ((Rows.partOverRow.unfollowed == Tryz.prog.unfollowed 5) : Bool) = true := by kernel_rfl
theorem partOver_jf11 : ((Rows.partOverRow.recurses == Tryz.prog.recurses 5) : Bool) = true := by kernel_rfl
theorem partOver_jf12 : ((Rows.partOverRow.named == Tryz.prog.varsNamed 5) : Bool) = true := by kernel_rfl
theorem partOver_jf13 : ((Rows.partOverRow.maps == (Tryz.f5.params.toList ++ Rows.partOverSpec.plain.varTypes Tryz.prog).any (Tryz.prog.mapsRec ·)) : Bool) = true := by kernel_rfl
theorem partOver_jf14 : ((Rows.partOverRow.ifaces == (Tryz.f5.params.toList ++ Rows.partOverSpec.plain.varTypes Tryz.prog).any (Tryz.prog.ifacesRec ·)) : Bool) = true := by kernel_rfl
theorem partOver_jf15 : ((Rows.partOverRow.mapsOut == Tryz.prog.mapsAmong Tryz.f5.resultTypes.toList) : Bool) = true := by kernel_rfl
theorem partOver_jf16 : ((Rows.partOverRow.loops == (Tryz.f5.params.toList ++ Rows.partOverSpec.plain.varTypes Tryz.prog).any (Tryz.prog.loopsFrom ·)) : Bool) = true := by kernel_rfl
theorem partOver_jf17 : ((Rows.partOverRow.wideKeys == (Tryz.f5.params.toList ++ Rows.partOverSpec.plain.varTypes Tryz.prog ++ Tryz.f5.resultTypes.toList).any (Tryz.prog.wideKeysFrom ·)) : Bool) = true := by kernel_rfl
theorem partOver_jf18 : (Rows.partOverSpec.vars.all (Tryz.prog.varReadable ·) : Bool) = true := by kernel_rfl
theorem partOver_jf19 : (Tryz.f5.resultTypes.all (fun t => Tryz.prog.readableRec t && decide (t < Tryz.prog.types.size)) : Bool) = true := by kernel_rfl
theorem partOver_jf20 : ((Rows.partOverRow.ifacesOut == Tryz.f5.resultTypes.toList.any (Tryz.prog.ifacesRec ·)) : Bool) = true := by kernel_rfl
theorem partOver_jf21 : ((Rows.partOverRow.loopsOut == Tryz.f5.resultTypes.toList.any (Tryz.prog.loopsFrom ·)) : Bool) = true := by kernel_rfl
theorem partOver_jf22 : ((Rows.partOverRow.plainKeys == Tryz.prog.plainKeys) : Bool) = true := by kernel_rfl
theorem partOver_jf23 : (Rows.partOverRow.shortTexts.isNone : Bool) = true := by kernel_rfl
theorem partOver_jf24 : (Tryz.prog.stopsHeard : Bool) = true := by kernel_rfl
theorem partOver_jf25 : (Tryz.prog.mayEnter : Bool) = true := by kernel_rfl
theorem partOver_jf26 : ((Rows.partOverRow.lifted == Tryz.prog.liftsFinal) : Bool) = true := by kernel_rfl
theorem partOver_jf27 : ((Tryz.prog.make == some Rows.partOverRow.make) : Bool) = true := by kernel_rfl
theorem partOver_jf28 : ((Rows.partOverRow.kinds == (if Rows.partOverRow.domain.isEmpty then [] else Tryz.f5.params.toList.map fun t => match Tryz.prog.underlying t with | some (.int k) => some k | _ => none)) : Bool) = true := by kernel_rfl
theorem partOver_jf29 : ((Rows.partOverRow.pinned == Rows.partOverRow.pinnedBy) : Bool) = true := by kernel_rfl
theorem partOver_jf30 : ((Rows.partOverRow.veiled == (Tryz.f5.params.toList ++ Rows.partOverSpec.plain.varTypes Tryz.prog ++ Tryz.f5.resultTypes.toList).any (Tryz.prog.veiledRec ·)) : Bool) = true := by kernel_rfl
theorem partOver_jf31 : (Rows.partOverRow.veiledFits Tryz.prog Tryz.f5.params.toList (Tryz.f5.params.toList ++ Rows.partOverSpec.plain.varTypes Tryz.prog ++ Tryz.f5.resultTypes.toList) : Bool) = true := by kernel_rfl
set_option maxRecDepth 100000 in
theorem partOver_joined : joinedFacts Tryz.prog 5 Tryz.f5 Rows.partOverSpec Rows.partOverRow = true := by
  unfold joinedFacts
  exact partOver_band (partOver_band (partOver_band (partOver_band (partOver_band (partOver_band (partOver_band (partOver_band (partOver_band (partOver_band (partOver_band (partOver_band (partOver_band (partOver_band (partOver_band (partOver_band (partOver_band (partOver_band (partOver_band (partOver_band (partOver_band (partOver_band (partOver_band (partOver_band (partOver_band (partOver_band (partOver_band (partOver_band (partOver_band (partOver_band (partOver_band (partOver_jf0) partOver_jf1) partOver_jf2) partOver_jf3) partOver_jf4) partOver_jf5) partOver_jf6) partOver_jf7) partOver_jf8) partOver_jf9) partOver_jf10) partOver_jf11) partOver_jf12) partOver_jf13) partOver_jf14) partOver_jf15) partOver_jf16) partOver_jf17) partOver_jf18) partOver_jf19) partOver_jf20) partOver_jf21) partOver_jf22) partOver_jf23) partOver_jf24) partOver_jf25) partOver_jf26) partOver_jf27) partOver_jf28) partOver_jf29) partOver_jf30) partOver_jf31
end Go.Proofs.YthifdialndcemaaGreat

namespace Go.Proofs.YthifdialndcemaaGreat
open Go.ChangeShapes Go.WideShapes Go.ChangeAt Go.RowKit Go.Deep Go.X

theorem partOver_own : ownKnob Tryz.prog.godebug = none := by kernel_rfl

set_option maxHeartbeats 1600000 in
set_option maxRecDepth 100000 in
theorem partOver_lifted (os : Os) (started : os.Started) (H : Type) (enc : TypeId × Value → H) :
    ReturnsInHanded {} Tryz.checked os 5 .any (Rows.partOverSpec.pre6 enc Tryz.prog Tryz.f5 Rows.partOverRow.domain false) (Rows.partOverSpec.post enc Tryz.prog Tryz.f5 false true false false) := by
  refine returnsInHanded_of_change_sized (C := Tryz.checked) partOver_own started (by kernel_rfl) Tryz.func5
    (ChangeSpec.witness6 (enc := enc) (C := Tryz.checked) false ⟨#[], #[.slice none 0 0, .int .i64 0], []⟩ 8 (by kernel_rfl) (by kernel_rfl) (by kernel_rfl) (by kernel_rfl)) ?_
  intro W base args ds gs before hval0 hW hcnd hsz0 _
  have hsz : (DataW.weightsEach Tryz.prog (Tryz.f5.params.toList ++ Rows.partOverSpec.plain.varTypes Tryz.prog) (ds ++ gs)).all (· ≤ reachBytes) = true := hsz0
  have hval : ∀ (j : Nat) t v, Tryz.f5.params[j]? = some t → args[j]? = some v → Value.okWide Tryz.prog W .any base t v := hval0
  have hW' := hW
  obtain ⟨p, q, hA0, hV, rfl, hfz, hnd⟩ := hW
  have hA : DataW.TrodAll enc Tryz.prog W 0 (fun _ => true) true Tryz.f5.params.toList args.toList ds p := hA0
  have hp : Tryz.f5.params = #[22, 2] := by kernel_rfl
  rw [hp] at hA hval hsz
  obtain ⟨v0, v1, d0, d1, p0, p1, rfl, rfl, rfl, h0, h1⟩ := trodAll_two hA
  obtain ⟨rfl, rfl⟩ := trodVars_none hV
  have h0k := h0
  have h1k := h1
  have u2 : Tryz.prog.underlying 2 = some (.int .i64) := by kernel_rfl
  obtain ⟨v, rfl, rfl, rfl, wv⟩ := open_int u2 (hval 1 2 v1 rfl rfl) h1
  have hw0 : Fits Tryz.prog 22 d0 := fun m hm => by
    rw [List.all_eq_true] at hsz
    have := hsz m (by simp only [List.append_assoc, List.cons_append, List.nil_append]; exact each_mem (i := 0) (T := 22) (d := d0) (by simp) (by simp) hm)
    simpa using this
  obtain ⟨av, m, cap, xs, rfl, hg, hq⟩ := acts_of (hval 0 22 v0 rfl rfl) h0 hw0
  have hc := C_PartOver (c := ⟨W, fun _ => False⟩) (L := []) (ti := ⟨v, wv⟩) (hg _ _ rfl (fun _ h => h)) (cx := cap) (fun x hx => by
    obtain ⟨q1, ⟨ws, q2⟩, _⟩ := hq x hx
    exact ⟨q1, ws, q2 _ _ rfl (fun _ h => h)⟩)
  refine (hc W (st_nil W)).mono ?_
  rintro x W' ⟨r, rfl, L', ⟨rfl, _⟩, hs⟩
  have hb : Below W.heap.size W W' := hs.mod.below
  have hlt := hW'.lt
  refine ⟨_, rfl, post_below (pa := p0) (pv := []) hW' hb (fun _ _ _ => trodAll_mk1 (shut_bool (by kernel_rfl) _)) ?_ (fun _ _ => rfl) (by simp) (ok_one (t := 4) (by kernel_rfl) rfl (okWide_bool_mk (by kernel_rfl) _))⟩
  intro sp hsp
  have h9 := trodAll_mk2 (trod_below (by kernel_rfl) (of_decide_eq_true (by kernel_rfl)) h0k hb (fun x hx => hlt x (by simp [hx])) (sp := sp) (fun x hx => hsp x (by simp [hx]))) (shut_int (enc := enc) (P := Tryz.prog) (w := W') (base := 0) (spare := sp) (held := true) u2 wv)
  rw [List.append_nil] at h9
  exact h9

theorem partOver_holds : Rows.PartOverSaid :=
  OpenClaim.holds_of_wide 5 Tryz.f5 rfl rfl rfl rfl rfl rfl rfl ⟨rfl, rfl, rfl, rfl, rfl⟩ rfl rfl rfl rfl rfl (by kernel_rfl) Tryz.func5 partOver_joined
    (of_decide_eq_true (by kernel_rfl)) (by unfold Func.isWrapper; first | (rw [if_pos (by decide +kernel)]; kernel_rfl) | (rw [if_neg (by decide +kernel)]; exact ⟨rfl, rfl⟩))
    (fun os started H enc _ => partOver_lifted os started H enc)
#print axioms partOver_holds
end Go.Proofs.YthifdialndcemaaGreat
