/- The promise, kept: Commit, Abort. Plain. -/
import Derived.Test.YthifdialndcemaaGreatProg
import Derived.Shelf.SlLaysF0
import Derived.Shelf.SlLaysM
import Derived.Shelf.SlGeneric
import Derived.Ground.SlsfProg
import Derived.Ground.SlgmProg
import Derived.Test.YthifdialndcemaaGreatS5
set_option linter.unusedVariables false
set_option linter.unusedSimpArgs false

namespace Go.X
section
variable {l : List (Key × CV)} {el : List (I64 × EV)} {hl : List (Key × I64)} {ol : List (I64 × Int)} {ti : I64}
theorem entT_some {q : EV} (h : alook el ti = some q) : entT el ti = q := by unfold entT; rw [h]; rfl
theorem entT_none (h : alook el ti = none) : entT el ti = evz := by unfold entT; rw [h]; rfl
/-- a held key of another one stays held -/
theorem Inv.other (hI : Inv l el hl ol) {t : I64} {q : EV} (ht : t ≠ ti) (hq : alook el t = some q) {w : Write} (hw : w ∈ q.2) : w.key ∉ (entT el ti).2.map (·.key) := by
  intro hm
  obtain ⟨w', hw', hk⟩ := List.mem_map.1 hm
  cases he : alook el ti with
  | none => rw [entT_none he] at hw'; simp [evz] at hw'
  | some q0 =>
    rw [entT_some he] at hw'
    have h1 := (hI.ent ti q0 he).held w' hw'
    have h2 := (hI.ent t q hq).held w hw
    rw [show w'.key = w.key from hk, h2] at h1
    exact ht (Option.some.inj h1)
theorem Inv.drop (hI : Inv l el hl ol) {v : Int} (hv : v = 2 ∨ v = 3) : Inv l (adel el ti) (dropL hl (entT el ti).2) (aput ol ti v) := by
  refine ⟨hI.ln, (adel_sub ti el).map _ |>.nodup hI.en, dropL_sub.map _ |>.nodup hI.hn, hI.sorted, hI.over.put ti hv, ?_, ?_, ?_, ?_⟩
  · intro t q hq
    have ht : t ≠ ti := fun e => by subst e; rw [alook_del_same hI.en] at hq; cases hq
    rw [alook_del_ne ht] at hq
    rw [alook_put_ne _ ht]; exact hI.free t q hq
  · intro t q hq
    have ht : t ≠ ti := fun e => by subst e; rw [alook_del_same hI.en] at hq; cases hq
    rw [alook_del_ne ht] at hq
    obtain ⟨h1, h2, h3, h4⟩ := hI.ent t q hq
    refine ⟨h1, fun w hw => ?_, h3, h4⟩
    rw [dropL_look hI.hn, if_neg (hI.other ht hq hw)]
    exact h2 w hw
  · intro k t hk
    rw [dropL_look hI.hn] at hk
    split at hk
    · cases hk
    · rename_i hn
      obtain ⟨q, h1, h2⟩ := hI.hold k t hk
      have ht : t ≠ ti := fun e => by subst e; rw [entT_some h1] at hn; exact hn h2
      exact ⟨q, by rw [alook_del_ne ht]; exact h1, h2⟩
  · refine Nat.le_trans (once_le fun k hk => ?_) hI.room
    rw [List.mem_append] at hk ⊢
    exact hk.imp_right fun h => (dropL_sub.map _).subset h
theorem afterPut_sorted {vs : List Version} {x : Version} (h : Sorted vs) : Sorted (afterPut vs x) := by
  unfold afterPut
  split
  · rename_i h0
    refine putV_sorted h ?_
    unfold putE at h0
    split at h0
    · cases h0
    · split at h0
      · cases h0
      · simp_all
  · exact h
theorem AppS.nodup {s : Stamp} {ws : List Write} {l' : List (Key × CV)} (h : AppS s l ws l') (hn : (l.map Prod.fst).Nodup) : (l'.map Prod.fst).Nodup := by
  induction h with
  | nil => exact hn
  | snoc _ ih => exact aput_nodup _ _ ih
theorem AppS.sorted {s : Stamp} {ws : List Write} {l' : List (Key × CV)} (h : AppS s l ws l') (hn : ∀ k, Sorted (getS l k)) : ∀ k, Sorted (getS l' k) := by
  induction h with
  | nil => exact hn
  | snoc _ ih => intro k; rw [getS_put]; split
                 · exact afterPut_sorted (ih _)
                 · exact ih k
/-- a transaction is committed -/
theorem Inv.commit (hI : Inv l el hl ol) {s : Stamp} {l' : List (Key × CV)} (hA : AppS s l (entT el ti).2 l') : Inv l' (adel el ti) (dropL hl (entT el ti).2) (aput ol ti 2) := by
  have hD := hI.drop (ti := ti) (v := 2) (.inl rfl)
  refine ⟨hA.nodup hI.ln, hD.en, hD.hn, hA.sorted hI.sorted, hD.over, hD.free, ?_, hD.hold, ?_⟩
  · intro t q hq
    obtain ⟨h1, h2, h3, h4⟩ := hD.ent t q hq
    have ht : t ≠ ti := fun e => by subst e; rw [alook_del_same hI.en] at hq; cases hq
    rw [alook_del_ne ht] at hq
    refine ⟨h1, h2, fun w hw => ?_, fun w hw => ?_⟩
    · rw [hA.getS_other (hI.other ht hq hw)]; exact h3 w hw
    · rw [hA.getS_other (hI.other ht hq hw)]; exact h4 w hw
  · refine Nat.le_trans (once_le fun k hk => ?_) hI.room
    rw [List.mem_append] at hk ⊢
    rcases hk with hk | hk
    · rcases (hA.keys k).1 hk with hk | hk
      · obtain ⟨w, hw, rfl⟩ := List.mem_map.1 hk
        cases he : alook el ti with
        | none => rw [entT_none he] at hw; simp [evz] at hw
        | some q0 =>
          rw [entT_some he] at hw
          exact .inr (mem_of_alook ((hI.ent ti q0 he).held w hw))
      · exact .inl hk
    · exact .inr ((dropL_sub.map _).subset hk)
/-- what is prepared can be applied -/
theorem apply_ok (hI : Inv l el hl ol) {q : EV} (hq : alook el ti = some q) {s : Stamp} (hg : s.good) (hu : q.2.any (usedS l s) = false) : applyE l s q.2 = 0 := by
  have hE := hI.ent ti q hq
  obtain ⟨_, _, hm, hw, _, _⟩ := goodE_parts hE.good
  have hnd := goodWs_nodup hw
  have hroom : roomS l q.2 = true := by
    unfold roomS
    rw [if_neg, decide_eq_true_eq]
    · have h1 : (l.map Prod.fst ++ (q.2.filter fun w => ((alook l w.key).map fun q => (⟨q.1, 0, none⟩ : Addr)).isNone).map (·.key)).length ≤ (once (l.map Prod.fst ++ hl.map Prod.fst)).length := by
        refine nodup_le ?_ fun k hk => ?_
        · rw [List.nodup_append]
          refine ⟨hI.ln, (List.filter_sublist.map _).nodup hnd, fun a ha b hb e => ?_⟩
          subst e
          obtain ⟨w, hw, hk⟩ := List.mem_map.1 hb
          obtain ⟨_, h2⟩ := List.mem_filter.1 hw
          obtain ⟨v, hv⟩ := alook_some_of_mem ha
          rw [show w.key = a from hk, hv] at h2
          cases h2
        · rw [once_mem, List.mem_append]
          rw [List.mem_append] at hk
          refine hk.imp_right fun hk => ?_
          obtain ⟨w, hw, rfl⟩ := List.mem_map.1 hk
          exact mem_of_alook (hE.held w (List.mem_filter.1 hw).1)
      have h2 := Nat.le_trans h1 hI.room
      rw [List.length_append, List.length_map, List.length_map] at h2
      unfold newN; rw [List.take_length]; exact h2
    · rw [Bool.not_eq_true, List.any_eq_false]
      intro w hw'
      have := hE.room w hw'
      unfold fullS
      simp only [decide_eq_true_eq]
      omega
  unfold applyE
  rw [if_neg, if_neg, if_neg (by rw [hroom]; decide)]
  · rw [Bool.not_eq_true]; exact hu
  · rintro (h | h | h)
    · exact h hg
    · rw [hm] at h; cases h
    · rw [hw] at h; cases h
end
/-! ## reads -/
theorem lt_of_cmp {a b : Stamp} (h : 0 < a.cmp b) : b.lt a := (cmp_pos a b).1 h
theorem below_all {vs : List Version} {s : Stamp} (h : ∀ v ∈ vs, v.stamp.lt s) : below vs s = vs.length := by
  refine below_eq (Nat.le_refl _) (fun k hk => (cmp_neg _ _).2 (h _ (List.getElem_mem _))) (fun h2 => absurd h2 (Nat.lt_irrefl _))
theorem hasS_no {vs : List Version} {s : Stamp} (h : ∀ v ∈ vs, v.stamp ≠ s) : hasS vs s = false := by
  unfold hasS; rw [List.any_eq_false]; intro v hv; simpa using h v hv
theorem hasS_yes {vs : List Version} {s : Stamp} {v : Version} (hv : v ∈ vs) (h : v.stamp = s) : hasS vs s = true := by
  unfold hasS; rw [List.any_eq_true]; exact ⟨v, hv, decide_eq_true h⟩
theorem below_app {A B : List Version} {s : Stamp} (hB : ∀ v ∈ B, ¬ v.stamp.lt s) : below (A ++ B) s = below A s := by
  unfold below
  rw [List.takeWhile_append]
  split
  · rename_i h
    have : B.takeWhile (fun v => decide (v.stamp.cmp s < 0)) = [] := by
      cases B with
      | nil => rfl
      | cons b B => rw [List.takeWhile_cons, if_neg]; simpa [cmp_neg] using hB b (by simp)
    rw [this, List.append_nil]
    rw [List.Sublist.eq_of_length (List.takeWhile_sublist _) h]
  · rfl
/-- a version above a time is not seen at it -/
theorem at_app {A B : List Version} {s : Stamp} (hA : Sorted A) (hB : ∀ v ∈ B, s.lt v.stamp) : atV (A ++ B) s = atV A s := by
  have h1 : below (A ++ B) s = below A s := below_app fun v hv h => Stamp.lt_irrefl _ (Stamp.lt_trans h (hB v hv))
  have h2 : hasS (A ++ B) s = hasS A s := by
    unfold hasS; rw [List.any_append]
    have : B.any (fun v => decide (v.stamp = s)) = false := by
      rw [List.any_eq_false]; intro v hv h
      have := hB v hv
      rw [of_decide_eq_true h] at this
      exact Stamp.lt_irrefl _ this
    rw [this, Bool.or_false]
  have h3 : upto (A ++ B) s = upto A s := by unfold upto; rw [h1, h2]
  unfold atV
  rw [h3]
  split
  · rfl
  · rename_i h
    have := upto_le (s := s) hA
    rw [List.getElem?_append_left (by omega)]
theorem Sorted.sub {A B : List Version} (h : Sorted B) (hs : A.Sublist B) : Sorted A := List.Pairwise.sublist hs h
theorem at_put {vs : List Version} {x : Version} {s : Stamp} (hs : Sorted vs) (hn : hasS vs x.stamp = false) (hx : s.lt x.stamp) : atV (putV vs x) s = atV vs s := by
  have hP := putV_sorted hs hn
  have hsp : vs = vs.take (below vs x.stamp) ++ vs.drop (below vs x.stamp) := (List.take_append_drop _ _).symm
  have hA : Sorted (vs.take (below vs x.stamp)) := hs.sub (List.take_sublist _ _)
  have hhi : ∀ v ∈ vs.drop (below vs x.stamp), x.stamp.lt v.stamp := by
    intro v hv
    unfold Sorted putV at hP
    rw [List.pairwise_append, List.pairwise_cons] at hP
    exact hP.2.1.1 v hv
  have e1 : atV (putV vs x) s = atV (vs.take (below vs x.stamp)) s := by
    unfold putV
    refine at_app hA fun v hv => ?_
    rcases List.mem_cons.1 hv with rfl | hv
    · exact hx
    · exact Stamp.lt_trans hx (hhi v hv)
  have e2 : atV vs s = atV (vs.take (below vs x.stamp)) s := by
    conv => lhs; rw [hsp]
    exact at_app hA fun v hv => Stamp.lt_trans hx (hhi v hv)
  rw [e1, e2]
theorem at_after {vs : List Version} {x : Version} {s : Stamp} (hs : Sorted vs) (hx : s.lt x.stamp) : atV (afterPut vs x) s = atV vs s := by
  unfold afterPut
  split
  · rename_i h0
    refine at_put hs ?_ hx
    unfold putE at h0
    split at h0
    · cases h0
    · split at h0
      · cases h0
      · simp_all
  · rfl
/-- the newest version is what is read at its time -/
theorem at_last {vs : List Version} {x : Version} (h : ∀ v ∈ vs, v.stamp.lt x.stamp) : atV (putV vs x) x.stamp = some x := by
  have hb : below vs x.stamp = vs.length := below_all h
  have hp : putV vs x = vs ++ [x] := by unfold putV; rw [hb]; simp
  have hb2 : below (vs ++ [x]) x.stamp = vs.length := by
    rw [below_app]
    · exact hb
    · intro v hv hl
      obtain rfl : v = x := by simpa using hv
      exact Stamp.lt_irrefl _ hl
  have hh : hasS (vs ++ [x]) x.stamp = true := hasS_yes (v := x) (by simp) rfl
  rw [hp]
  unfold atV upto
  rw [if_pos hh, hb2]
  simp
end Go.X

/- PartStill's law: what was read is read again. -/
namespace Go.X
section
variable {l : List (Key × CV)} {el : List (I64 × EV)} {hl : List (Key × I64)} {ol : List (I64 × Int)} {ti : I64} {k : Key} {s : Stamp} {now : Int}
/-- whoever is about to write the key does so above the time -/
def Stl (el : List (I64 × EV)) (k : Key) (s : Stamp) : Prop := ∀ t q, alook el t = some q → k ∈ q.2.map (·.key) → s.lt q.1.stamp
theorem read_is (hk : goodK k = true) (hs : s.good) (hb : (blocksT el hl k s).2 = false) (hn : ¬ now < s.t) : readP l el hl k s now = ((getV l k s).1, (getV l k s).2, 0) := by
  unfold readP
  rw [if_pos ⟨hk, hs⟩, if_neg]
  rintro (h | h)
  · rw [hb] at h; cases h
  · exact hn h
theorem Stl.of (hI : Inv l el hl ol) (hb : (blocksT el hl k s).2 = false) : Stl el k s := by
  intro t q hq hk
  obtain ⟨w, hw, rfl⟩ := List.mem_map.1 hk
  have hh := (hI.ent t q hq).held w hw
  unfold blocksT at hb
  rw [hh] at hb
  simp only [Option.isSome_some, if_true, Option.getD_some, hq] at hb
  split at hb
  · rename_i h; exact lt_of_cmp h
  · cases hb
theorem Stl.blocks (hI : Inv l el hl ol) (h : Stl el k s) : (blocksT el hl k s).2 = false := by
  unfold blocksT
  cases hh : alook hl k with
  | none => simp
  | some t =>
    obtain ⟨q, hq, hk⟩ := hI.hold k t hh
    have := (cmp_pos _ _).2 (h t q hq hk)
    simp only [Option.isSome_some, if_true, Option.getD_some, hq]
    rw [if_pos this]
theorem Stl.drop (hn : (el.map Prod.fst).Nodup) (h : Stl el k s) : Stl (adel el ti) k s := by
  intro t q hq hk
  by_cases ht : t = ti
  · subst ht; rw [alook_del_same hn] at hq; cases hq
  · rw [alook_del_ne ht] at hq; exact h t q hq hk
theorem stamp_ge {a b : Stamp} {c : Stamp} (h : ¬ a.cmp b < 0) (hc : c.lt b) : c.lt a := by
  rw [cmp_neg] at h
  rcases Stamp.lt_total a b with h1 | h1 | h1
  · exact absurd h1 h
  · rw [h1]; exact hc
  · exact Stamp.lt_trans hc h1
variable {pb : Nat} {Lp : List Pt} {en : Entry} {ws : List Write}
/-- what a step leaves -/
def Keeps (l : List (Key × CV)) (el : List (I64 × EV)) (l2 : List (Key × CV)) (el2 : List (I64 × EV)) (b : Stamp → Prop) : Prop := ∀ k s, b s → Stl el k s → Stl el2 k s ∧ getV l2 k s = getV l k s
end
end Go.X

namespace Go.X
open Go.Proofs
theorem ds_4 : isDesc Tryz.prog 4 = 1 := by kernel_rfl
section
variable {a b : Stamp}
end

end Go.X

namespace Go.X
open Go.Proofs

section
open Go.ChangeShapes Go.WideShapes Go.Deep Go.RowKit
variable {H : Type} {en : TypeId × Value → H} {W : World} {r : Reach} {b0 base : Nat} {spare : Nat → Bool} {held : Bool} {v : Value} {d : DataW H} {p : List MemPlace}
theorem okWide_arr {P : Program} {W : World} {r : Reach} {b0 : Nat} {t n e : TypeId} {v : Value} (ht : P.underlying t = some (.array n e)) (h : Value.okWide P W r b0 t v) : ∃ cs, v = .agg cs := by
  unfold Value.okWide at h
  rw [ht] at h
  obtain ⟨cs, rfl, _⟩ := h
  exact ⟨cs, rfl⟩
theorem arr_eq {a b : Array Value} (h : a.toList = b.toList) : a = b := Array.ext' h
set_option maxRecDepth 100000 in
theorem arg_Key (hv : Value.okWide Tryz.prog W r b0 45 v) (h : DataW.Trod en Tryz.prog W base spare held 45 v d p) : ∃ k : Key, v = .agg (Key_enc k) := by
  obtain ⟨cs, rfl⟩ := okWide_arr (n := 16) (e := 5) (by kernel_rfl) hv
  obtain ⟨n, hf⟩ := h
  obtain ⟨k, hk⟩ := dec_Key (e := 5) (by kernel_rfl) (by kernel_rfl) (by kernel_rfl) (by kernel_rfl) hf
  exact ⟨k, congrArg Value.agg (arr_eq hk)⟩
/-- a list of types, a list of data: what fits all of it fits each -/
theorem fits_at {P : Program} {ts : List TypeId} {ds : List (DataW H)} (h : (DataW.weightsEach P ts ds).all (· ≤ reachBytes) = true) {i : Nat} {T : TypeId} {d : DataW H} (ht : ts[i]? = some T) (hd : ds[i]? = some d) : Fits P T d := fun m hm => by
  rw [List.all_eq_true] at h
  have := h m (each_mem ht hd hm)
  simpa using this
end

end Go.X

/- PartHolds' law: what is prepared can be committed, and is read from then on. -/
namespace Go.X
section
variable {l : List (Key × CV)} {el : List (I64 × EV)} {hl : List (Key × I64)} {ol : List (I64 × Int)} {ti : I64}
/-- the entry is prepared -/
def HeldE (el : List (I64 × EV)) (ti : I64) (e : Entry) (ws : List Write) : Prop := ∃ sv, alook el ti = some ({ e with ws := sv }, ws)
/-- another one's place is as it was -/
def Same (ti : I64) (el el2 : List (I64 × EV)) : Prop := ∀ t, t ≠ ti → alook el2 t = alook el t
theorem HeldE.same {el2 : List (I64 × EV)} {t : I64} {e : Entry} {ws : List Write} (h : HeldE el t e ws) (hs : Same ti el el2) (ht : t ≠ ti) : HeldE el2 t e ws := by
  obtain ⟨sv, h1⟩ := h; exact ⟨sv, (hs t ht).trans h1⟩
variable {pb : Nat} {Lp : List Pt} {en : Entry} {ws : List Write}
theorem HeldE.good (hI : Inv l el hl ol) (h : HeldE el ti en ws) : goodE en ws = true := by
  obtain ⟨sv, h1⟩ := h
  have := (hI.ent ti _ h1).good
  exact this
theorem HeldE.entT (h : HeldE el ti en ws) : (Go.X.entT el ti).2 = ws ∧ (Go.X.entT el ti).1.stamp = en.stamp ∧ (Go.X.entT el ti).1.snap = en.snap := by
  obtain ⟨sv, h1⟩ := h
  rw [entT_some h1]; exact ⟨rfl, rfl, rfl⟩
theorem HeldE.state (hI : Inv l el hl ol) (h : HeldE el ti en ws) : stateP ol el ti = 1 := by
  obtain ⟨sv, h1⟩ := h
  rw [state_one hI.over, h1]
  exact ⟨hI.free ti _ h1, rfl⟩
/-- all versions of its keys are below its stamp, and below any that is not below that -/
theorem HeldE.below (hI : Inv l el hl ol) (h : HeldE el ti en ws) {c : Stamp} (hc : ¬ c.cmp en.stamp < 0) : ∀ w ∈ ws, ∀ v ∈ getS l w.key, v.stamp.lt c := by
  intro w hw v hv
  have hg := (goodE_parts (h.good hI)).2.2.2.2.2
  obtain ⟨sv, h1⟩ := h
  have h2 := (hI.ent ti _ h1).snap w hw v hv
  have h3 : v.stamp.lt en.stamp := by
    have h4 := lt_of_cmp hg
    have h5 : ¬ en.snap.lt v.stamp := fun h6 => h2 ((cmp_pos _ _).2 h6)
    rcases Stamp.lt_total v.stamp en.snap with h6 | h6 | h6
    · exact Stamp.lt_trans h6 h4
    · rw [h6]; exact h4
    · exact absurd h6 h5
  exact stamp_ge hc h3
theorem HeldE.can (hI : Inv l el hl ol) (h : HeldE el ti en ws) {c : Stamp} (hg : c.good) (hc : ¬ c.cmp en.stamp < 0) : canCommitP l ol el ti c = 0 ∧ ws.any (usedS l c) = false := by
  have hs := h.state hI
  have hb := h.below hI hc
  obtain ⟨h1, h2, _⟩ := h.entT
  have hu : ws.any (usedS l c) = false := by
    rw [List.any_eq_false]
    intro w hw
    have := hasS_no (vs := getS l w.key) (s := c) (fun v hv e => Stamp.lt_irrefl c (by have := hb w hw v hv; rwa [e] at this))
    unfold usedS; unfold hasS at this; rw [this]; decide
  refine ⟨?_, hu⟩
  unfold canCommitP
  rw [if_pos hg, if_neg (by omega), if_neg (by omega), if_neg (by omega), h2, if_neg hc, h1, if_neg (by rw [hu]; decide)]
theorem HeldE.commit (hI : Inv l el hl ol) (h : HeldE el ti en ws) {c : Stamp} (hg : c.good) (hc : ¬ c.cmp en.stamp < 0) : goC l ol el ti c ∧ applyE l c ws = 0 ∧ commitE l ol el ti c = 0 := by
  obtain ⟨h1, h2⟩ := h.can hI hg hc
  have h3 := h.state hI
  have hgo : goC l ol el ti c := ⟨h1, by omega⟩
  have ha : applyE l c ws = 0 := by
    obtain ⟨sv, h4⟩ := h
    exact apply_ok hI h4 hg h2
  refine ⟨hgo, ha, ?_⟩
  unfold commitE
  rw [if_pos hgo, h.entT.1]; exact ha
theorem HeldE.read (hI : Inv l el hl ol) (h : HeldE el ti en ws) {c : Stamp} {l' : List (Key × CV)} (hg : c.good) (hc : ¬ c.cmp en.stamp < 0) (hA : AppS c l ws l') {w : Write} (hw : w ∈ ws) :
    readP l' (adel el ti) (dropL hl ws) w.key c c.t = (w.val, !w.gone, 0) := by
  have hge := goodE_parts (h.good hI)
  have hgw := goodWs_mem hge.2.2.2.1 hw
  have hnd := goodWs_nodup hge.2.2.2.1
  have hb : (blocksT (adel el ti) (dropL hl ws) w.key c).2 = false := by
    unfold blocksT
    rw [dropL_look hI.hn, if_pos (List.mem_map.2 ⟨w, hw, rfl⟩)]
    simp
  rw [read_is hgw.1 hg hb (Int.lt_irrefl _)]
  have hlow := h.below hI hc w hw
  have hroom : (getS l w.key).length < 50 := by
    obtain ⟨sv, h4⟩ := h
    exact (hI.ent ti _ h4).room w hw
  have hpe : putE (getS l w.key) ⟨c, w.val, w.gone⟩ = 0 := by
    unfold putE
    rw [if_neg, if_neg, if_neg (by omega)]
    · rw [hasS_no (fun v hv e => Stamp.lt_irrefl c (by have := hlow v hv; rwa [e] at this))]; decide
    · rintro (h1 | h1 | h1)
      · exact h1 hg
      · have := hgw.2.1; simp only at h1; omega
      · exact hgw.2.2 h1
  have hs : getS l' w.key = putV (getS l w.key) ⟨c, w.val, w.gone⟩ := by
    rw [hA.getS_of hnd hw]; unfold afterPut; rw [if_pos hpe]
  have hat : atV (getS l' w.key) c = some ⟨c, w.val, w.gone⟩ := by
    rw [hs]; exact at_last (x := ⟨c, w.val, w.gone⟩) hlow
  unfold getV
  rw [hat]
  simp only
  cases hgn : w.gone with
  | false => simp
  | true =>
    have hv : w.val = ⟨#[]⟩ := by
      rcases Decidable.em (w.val = ⟨#[]⟩) with h1 | h1
      · exact h1
      · exact absurd ⟨hgn, h1⟩ hgw.2.2
    simp [hv]
end
end Go.X

namespace Go.X
open Go.Proofs
end Go.X

namespace Go.X
open Go.Proofs
theorem ds_206 : isDesc Tryz.prog 206 = 4 := by kernel_rfl
theorem fo_203_1 : fieldOff Tryz.prog 203 1 = some 1 := by kernel_rfl
theorem fo_203_3 : fieldOff Tryz.prog 203 3 = some 3 := by kernel_rfl
theorem kd_201 : kindOf Tryz.prog 201 = some (false, 1) := by kernel_rfl
theorem mp_201 : Tryz.prog.underlying 201 = some (.map 2 206) := by kernel_rfl
theorem zo_206 : zeroOf Tryz.prog 206 = some (.pointer none) := by kernel_rfl
/-! ## owned things under keys -/
def OwnL {K V : Type} (O : V → List Pt → Prop) : List (K × V) → List Pt → Prop
  | [], Cs => Cs = []
  | q :: l, Cs => ∃ G C1, Cs = G ++ C1 ∧ O q.2 G ∧ OwnL O l C1
theorem OwnL.take {K V : Type} [DecidableEq K] {O : V → List Pt → Prop} {k : K} {q : V} : ∀ {l : List (K × V)} {Cs : List Pt}, OwnL O l Cs → alook l k = some q → ∃ G C1, Cs.Perm (G ++ C1) ∧ O q G ∧
    (∀ q' G', O q' G' → ∃ Cs', OwnL O (aput l k q') Cs' ∧ (G' ++ C1).Perm Cs') ∧ ∃ Cs', OwnL O (adel l k) Cs' ∧ C1.Perm Cs'
  | [], _, _, h => by simp [alook] at h
  | (y, u) :: l, Cs, hC, h => by
    obtain ⟨G, C1, rfl, hO, hC1⟩ := hC
    unfold alook at h
    split at h
    · rename_i he
      obtain rfl := Option.some.inj h
      refine ⟨G, C1, .refl _, hO, fun q' G' hG' => ⟨G' ++ C1, ?_, .refl _⟩, C1, ?_, .refl _⟩
      · simp only [aput, he, if_true]
        exact ⟨G', C1, rfl, hG', hC1⟩
      · simp only [adel, he, if_true]; exact hC1
    · rename_i he
      obtain ⟨G2, C2, hp, hO2, hb, Cd, hd1, hd2⟩ := OwnL.take hC1 h
      refine ⟨G2, G ++ C2, ?_, hO2, fun q' G' hG' => ?_, G ++ Cd, ?_, hd2.append_left G⟩
      · exact (hp.append_left G).trans (List.perm_append_comm_assoc _ _ _)
      · obtain ⟨Cs', h1, h2⟩ := hb q' G' hG'
        refine ⟨G ++ Cs', ?_, (List.perm_append_comm_assoc _ _ _).trans (h2.append_left G)⟩
        simp only [aput, he, if_false]
        exact ⟨G, Cs', rfl, hO, h1⟩
      · simp only [adel, he, if_false]
        exact ⟨G, Cd, rfl, hO, hd1⟩
theorem OwnL.new {K V : Type} [DecidableEq K] {O : V → List Pt → Prop} {k : K} {q : V} {G : List Pt} (hG : O q G) : ∀ {l : List (K × V)} {Cs : List Pt}, OwnL O l Cs → alook l k = none →
    ∃ Cs', OwnL O (aput l k q) Cs' ∧ (G ++ Cs).Perm Cs'
  | [], Cs, hC, _ => by
    obtain rfl : Cs = [] := hC
    exact ⟨G ++ [], ⟨G, [], rfl, hG, rfl⟩, .refl _⟩
  | (y, u) :: l, Cs, hC, h => by
    obtain ⟨G1, C1, rfl, hO, hC1⟩ := hC
    unfold alook at h
    split at h
    · cases h
    · rename_i he
      obtain ⟨Cs', h1, h2⟩ := OwnL.new hG hC1 h
      refine ⟨G1 ++ Cs', ?_, (List.perm_append_comm_assoc _ _ _).trans (h2.append_left G1)⟩
      simp only [aput, he, if_false]
      exact ⟨G1, Cs', rfl, hO, h1⟩
/-! ## one transaction of solo, all of them -/
abbrev TX := Nat × (Stamp × List (Key × Write))
def txV (x : TX) : Value := .pointer (some ⟨x.1, 0, none⟩)
def wV (x : Write) : Value := .agg (Write_enc x)
def wz : Write := .zero
def OneT (x : TX) (G : List Pt) : Prop := ∃ mb es ck, G = [(x.1, .cells #[.int .i64 x.2.1.t, .int .u8 x.2.1.n, .map (some mb)] 208 (0, 0)), (mb, .map es ck)] ∧ MapIs keyV wV es ck x.2.2 ∧ x.2.2.length ≤ 16
/-- solo that is ours -/
structure SoOwn (p : Nat) (l : List (Key × CV)) (xl : List (I64 × TX)) (begun last : Int) (Ls : List Pt) : Prop where
  ex : ∃ sb lm es ck L1 L2, Ls = (p, .cells #[.pointer (some ⟨sb, 0, none⟩), .map (some lm), .int .i64 begun, .int .i64 last] 203 (0, 0)) :: (lm, .map es ck) :: (L1 ++ L2) ∧ StOwn sb l L1 ∧ MapIs i64V txV es ck xl ∧ OwnL OneT xl L2
  size : xl.length ≤ 100
  num : 0 ≤ begun ∧ begun ≤ 1000000 ∧ 0 ≤ last ∧ last ≤ 1000000
  ids : ∀ q ∈ xl, q.1.1 ≤ begun

set_option maxRecDepth 100000 in
set_option maxHeartbeats 2000000 in
theorem C_solo_New {c : Cx} {L : List Pt}  : Fn Tryz.prog 51 #[] c L (fun v L' => ∃ p lm sb mb, c.w0.heap.size ≤ p ∧ c.w0.heap.size ≤ lm ∧ c.w0.heap.size ≤ sb ∧ c.w0.heap.size ≤ mb ∧ v = .pointer (some ⟨p, 0, none⟩) ∧ L' = (p, .cells #[.pointer (some ⟨sb, 0, none⟩), .map (some lm), .int .i64 0, .int .i64 0] 203 (0, 0)) :: (lm, .map #[] 0) :: (sb, .cells #[.map (some mb)] 245 (0, 0)) :: (mb, .map #[] 0) :: L) := by
  refine Fn.enter Tryz.func51 rfl 5 rfl rfl (fun R hR => ?_)
  refine Cd.seq (fun K1 hK1 => ?_)
  refine Cd.region [0] rfl ?_
  refine Seq.rd0 at0 rfl rfl (O.assign (v := .pointer _) rfl) ?_
  refine Seq.nil ?_
  refine hK1 ?_
  refine Cd.seq (fun K2 hK2 => ?_)
  refine Cd.region [0, 1, 2, 3, 4] rfl ?_
  refine Seq.op at0 rfl (Op.callF rfl hb_87 C_store_New rfl ?_)
  rintro _ _ ⟨sb3, mb4, hsb3, hmb4, rfl, rfl⟩
  refine Seq.op at1 rfl (Op.new rfl (O.makeMap) ?_)
  intro b5 hb5
  refine Seq.rd0 at2 rfl rfl (O.build rfl (cs := #[.pointer (some ⟨sb3, 0, none⟩), .map (some b5), .int .i64 0, .int .i64 0]) (by kernel_rfl)) ?_
  refine Seq.op at3 rfl (Op.new rfl (O.box (v := .agg _) rfl (cs := #[.pointer (some ⟨sb3, 0, none⟩), .map (some b5), .int .i64 0, .int .i64 0]) rfl) ?_)
  intro b6 hb6
  refine Seq.rd0 at4 rfl rfl (O.assign (v := .pointer _) rfl) ?_
  refine Seq.nil ?_
  refine hK2 ?_
  refine Cd.ret ?_
  exact hR _ _ (Res.one (v := .pointer _) rfl rfl) ⟨b6, b5, sb3, mb4, hb6, hb5, hsb3, hmb4, rfl, rfl⟩ (.refl _)

theorem C_solo_New2 {c : Cx} {L : List Pt} : Fn Tryz.prog 51 #[] c L (fun v L' => ∃ p Ls, v = .pointer (some ⟨p, 0, none⟩) ∧ SoOwn p [] [] 0 0 Ls ∧ L' = Ls ++ L) := by
  refine Fn.mono C_solo_New ?_
  rintro v L' ⟨p, lm, sb, mb, _, _, _, _, hv, rfl⟩
  have hS : StOwn sb [] [(sb, .cells #[.map (some mb)] 245 (0, 0)), (mb, .map #[] 0)] := ⟨⟨mb, #[], 0, [], rfl, MapIs.nil, rfl⟩, by decide⟩
  exact ⟨p, _, hv, ⟨⟨sb, lm, #[], 0, _, [], rfl, hS, MapIs.nil, rfl⟩, by decide, by decide, by simp⟩, rfl⟩

set_option maxRecDepth 100000 in
set_option maxHeartbeats 2000000 in
theorem C_solo_Last {c : Cx} {L : List Pt} {p sb lm : Nat} {bg la : Int} (hp : Rd c L p (.cells #[.pointer (some ⟨sb, 0, none⟩), .map (some lm), .int .i64 bg, .int .i64 la] 203 (0, 0))) : Fn Tryz.prog 63 #[.pointer (some ⟨p, 0, none⟩)] c L (fun v L' => v = .int .i64 la ∧ L' = L) := by
  refine Fn.enter Tryz.func63 rfl 7 rfl rfl (fun R hR => ?_)
  refine Cd.seq (fun K1 hK1 => ?_)
  refine Cd.region [0] rfl ?_
  refine Seq.rd0 at0 rfl rfl (O.assign (v := .int .i64 _) rfl) ?_
  refine Seq.nil ?_
  refine hK1 ?_
  refine Cd.seq (fun K2 hK2 => ?_)
  refine Cd.region [0, 1, 2, 3, 4] rfl ?_
  refine Seq.rd0 at0 rfl rfl (O.move (v := .pointer _) rfl) ?_
  refine Seq.rd0 at1 rfl rfl (O.nilP rfl) ?_
  refine Seq.rd0 at2 rfl rfl (O.field fo_203_3 rfl) ?_
  refine Seq.rd1 at3 rfl rfl (O.load kd_2 rfl r4_3) hp ?_
  refine Seq.rd0 at4 rfl rfl (O.assign (v := .int .i64 _) rfl) ?_
  refine Seq.nil ?_
  refine hK2 ?_
  refine Cd.ret ?_
  exact hR _ _ (Res.one (v := .int .i64 _) rfl rfl) ⟨rfl, rfl⟩ (.refl _)

set_option maxRecDepth 100000 in
set_option maxHeartbeats 2000000 in
theorem C_solo_Abort_none {c : Cx} {L : List Pt} {p sb lm ck : Nat} {es : Array MapEntry} {L1 L2 : List Pt} {l : List (Key × CV)} {xl : List (I64 × TX)} {bg la : Int} (hSo : StOwn sb l L1) (hMx : MapIs i64V txV es ck xl) {ti : I64} (hl : alook xl ti = none) : Fn Tryz.prog 130 #[.pointer (some ⟨p, 0, none⟩), .int .i64 ti.1] c ((p, .cells #[.pointer (some ⟨sb, 0, none⟩), .map (some lm), .int .i64 bg, .int .i64 la] 203 (0, 0)) :: (lm, .map es ck) :: (L1 ++ (L2 ++ L))) (fun v L' => v = .int .i64 4 ∧ L' = ((p, .cells #[.pointer (some ⟨sb, 0, none⟩), .map (some lm), .int .i64 bg, .int .i64 la] 203 (0, 0)) :: (lm, .map es ck) :: (L1 ++ (L2 ++ L)))) := by
  refine Fn.enter Tryz.func130 rfl 17 rfl rfl (fun R hR => ?_)
  refine Cd.seq (fun K1 hK1 => ?_)
  refine Cd.region [0] rfl ?_
  refine Seq.rd0 at0 rfl rfl (O.assign (v := .int .i64 _) rfl) ?_
  refine Seq.nil ?_
  refine hK1 ?_
  refine Cd.seq (fun K2 hK2 => ?_)
  refine Cd.seq (fun K3 hK3 => ?_)
  refine Cd.region [0, 1, 2, 3, 4, 5, 6] rfl ?_
  refine Seq.rd0 at0 rfl rfl (O.move (v := .pointer _) rfl) ?_
  refine Seq.rd0 at1 rfl rfl (O.nilP rfl) ?_
  refine Seq.rd0 at2 rfl rfl (O.field fo_203_1 rfl) ?_
  refine Seq.rd1 at3 rfl rfl (O.load kd_201 rfl r4_1) Rd.head ?_
  refine Seq.rd0 at4 rfl rfl (O.move (v := .int .i64 _) rfl) ?_
  refine Seq.rd1 at5 rfl rfl (O.lookN (ok := false) (encV := txV) (a := ti) mp_201 kk_i64 hMx zo_206 rfl (by exact rfl) hl) Rd.head.cons ?_
  refine Seq.rd0 at6 rfl rfl (O.eqNil ds_206 rfl rfl) ?_
  refine Seq.nil ?_
  refine hK3 ?_
  refine Cd.condT rfl ?_
  refine Cd.seq (fun K4 hK4 => ?_)
  refine Cd.region [0] rfl ?_
  refine Seq.rd0 at0 rfl rfl (O.assign (v := .int .i64 _) rfl) ?_
  refine Seq.nil ?_
  refine hK4 ?_
  refine Cd.ret ?_
  exact hR _ _ (Res.one (v := .int .i64 _) rfl rfl) ⟨rfl, rfl⟩ (.refl _)

set_option maxRecDepth 100000 in
set_option maxHeartbeats 2000000 in
theorem C_solo_Abort_some {c : Cx} {L : List Pt} {p sb lm ck : Nat} {es : Array MapEntry} {L1 L2 : List Pt} {l : List (Key × CV)} {xl : List (I64 × TX)} {bg la : Int} (hSo : StOwn sb l L1) (hMx : MapIs i64V txV es ck xl) {ti : I64} {q : TX} (hl : alook xl ti = some q) : Fn Tryz.prog 130 #[.pointer (some ⟨p, 0, none⟩), .int .i64 ti.1] c ((p, .cells #[.pointer (some ⟨sb, 0, none⟩), .map (some lm), .int .i64 bg, .int .i64 la] 203 (0, 0)) :: (lm, .map es ck) :: (L1 ++ (L2 ++ L))) (fun v L' => v = .int .i64 0 ∧ ∃ es3, MapIs i64V txV es3 ck (adel xl ti) ∧ L' = ((p, .cells #[.pointer (some ⟨sb, 0, none⟩), .map (some lm), .int .i64 bg, .int .i64 la] 203 (0, 0)) :: (lm, .map es3 ck) :: (L1 ++ (L2 ++ L)))) := by
  refine Fn.enter Tryz.func130 rfl 17 rfl rfl (fun R hR => ?_)
  refine Cd.seq (fun K1 hK1 => ?_)
  refine Cd.region [0] rfl ?_
  refine Seq.rd0 at0 rfl rfl (O.assign (v := .int .i64 _) rfl) ?_
  refine Seq.nil ?_
  refine hK1 ?_
  refine Cd.seq (fun K2 hK2 => ?_)
  refine Cd.seq (fun K3 hK3 => ?_)
  refine Cd.region [0, 1, 2, 3, 4, 5, 6] rfl ?_
  refine Seq.rd0 at0 rfl rfl (O.move (v := .pointer _) rfl) ?_
  refine Seq.rd0 at1 rfl rfl (O.nilP rfl) ?_
  refine Seq.rd0 at2 rfl rfl (O.field fo_203_1 rfl) ?_
  refine Seq.rd1 at3 rfl rfl (O.load kd_201 rfl r4_1) Rd.head ?_
  refine Seq.rd0 at4 rfl rfl (O.move (v := .int .i64 _) rfl) ?_
  refine Seq.rd1 at5 rfl rfl (O.lookS (ok := false) (encV := txV) (a := ti) mp_201 kk_i64 hMx rfl (by exact rfl) hl) Rd.head.cons ?_
  refine Seq.rd0 at6 rfl rfl (O.eqNil ds_206 rfl rfl) ?_
  refine Seq.nil ?_
  refine hK3 ?_
  refine Cd.condF rfl ?_
  refine Cd.skip ?_
  refine hK2 ?_
  refine Cd.seq (fun K4 hK4 => ?_)
  refine Cd.region [0, 1, 2, 3, 4, 5] rfl ?_
  refine Seq.rd0 at0 rfl rfl (O.move (v := .pointer _) rfl) ?_
  refine Seq.rd0 at1 rfl rfl (O.nilP rfl) ?_
  refine Seq.rd0 at2 rfl rfl (O.field fo_203_1 rfl) ?_
  refine Seq.rd1 at3 rfl rfl (O.load kd_201 rfl r4_1) Rd.head ?_
  refine Seq.rd0 at4 rfl rfl (O.move (v := .int .i64 _) rfl) ?_
  refine Seq.op at5 rfl (Op.gen rfl (O.mapDel (encV := txV) (a := ti) mp_201 kk_i64 hMx rfl (by exact rfl) (A := [(p, _)]) rfl) ?_)
  rintro _ _ ⟨rfl, es3, hM3, rfl⟩
  refine Seq.nil ?_
  refine hK4 ?_
  refine Cd.seq (fun K5 hK5 => ?_)
  refine Cd.region [0] rfl ?_
  refine Seq.rd0 at0 rfl rfl (O.assign (v := .int .i64 _) rfl) ?_
  refine Seq.nil ?_
  refine hK5 ?_
  refine Cd.ret ?_
  exact hR _ _ (Res.one (v := .int .i64 _) rfl rfl) ⟨rfl, es3, hM3, rfl⟩ (.refl _)

end Go.X

namespace Go.X
open Go.Proofs
theorem ds_165 : isDesc Tryz.prog 165 = 6 := by kernel_rfl
theorem ds_201 : isDesc Tryz.prog 201 = 6 := by kernel_rfl
theorem fo_203_2 : fieldOff Tryz.prog 203 2 = some 2 := by kernel_rfl
theorem fo_208_1 : fieldOff Tryz.prog 208 1 = some 2 := by kernel_rfl
theorem kd_165 : kindOf Tryz.prog 165 = some (false, 1) := by kernel_rfl
theorem mp_165 : Tryz.prog.underlying 165 = some (.map 45 47) := by kernel_rfl
/-! ## Begin, Put -/
def putX (ws : List (Key × Write)) (w : Write) : Int := if goodWs [w] = false then 1 else if alook ws w.key = none ∧ 16 ≤ ws.length then 6 else 0
def afterX (ws : List (Key × Write)) (w : Write) : List (Key × Write) := if putX ws w = 0 then aput ws w.key w else ws
theorem oneW {c : Cx} {L : List Pt} {b : Nat} {x : Write} {el : Nat} {fz : Nat × Nat} (h : Rd c L b (.cells (rows Write_enc [x]) el fz)) : SlAt c L Write_enc (some ⟨b, 0, none⟩) 1 [x] :=
  ⟨rfl, by decide, fun _ => ⟨#[], #[], el, fz, rfl, by show Rd c L b (.cells (#[] ++ (rows Write_enc [x] ++ #[])) el fz); simpa using h⟩⟩

set_option maxRecDepth 100000 in
set_option maxHeartbeats 2000000 in
theorem C_solo_Begin_own {c : Cx} {L : List Pt} {p sb lm ck : Nat} {es : Array MapEntry} {L1 L2 : List Pt} {l : List (Key × CV)} {xl : List (I64 × TX)} {bg la : Int} (hSo : StOwn sb l L1) (hMx : MapIs i64V txV es ck xl) {ti : I64} (hti : ti.1 = bg + 1) (hlen : xl.length < 100) (hbg : 0 ≤ bg ∧ bg < 1000000) : Fn Tryz.prog 53 #[.pointer (some ⟨p, 0, none⟩)] c ((p, .cells #[.pointer (some ⟨sb, 0, none⟩), .map (some lm), .int .i64 bg, .int .i64 la] 203 (0, 0)) :: (lm, .map es ck) :: (L1 ++ (L2 ++ L))) (fun v L' => v = .tuple #[.int .i64 (bg + 1), .int .i64 0] ∧ ∃ xb mb es3 ck3, MapIs i64V txV es3 ck3 (aput xl ti (xb, (⟨la, 0⟩, []))) ∧ L' = (xb, .cells #[.int .i64 la, .int .u8 0, .map (some mb)] 208 (0, 0)) :: (mb, .map #[] 0) :: (p, .cells #[.pointer (some ⟨sb, 0, none⟩), .map (some lm), .int .i64 (bg + 1), .int .i64 la] 203 (0, 0)) :: (lm, .map es3 ck3) :: (L1 ++ (L2 ++ L))) := by
  have hms := hMx.size
  refine Fn.enter Tryz.func53 rfl 37 rfl rfl (fun R hR => ?_)
  refine Cd.seq (fun K1 hK1 => ?_)
  refine Cd.region [0, 1] rfl ?_
  refine Seq.rd0 at0 rfl rfl (O.assign (v := .int .i64 _) rfl) ?_
  refine Seq.rd0 at1 rfl rfl (O.assign (v := .int .i64 _) rfl) ?_
  refine Seq.nil ?_
  refine hK1 ?_
  refine Cd.seq (fun K2 hK2 => ?_)
  refine Cd.seq (fun K3 hK3 => ?_)
  refine Cd.region [0, 1, 2, 3, 4, 5] rfl ?_
  refine Seq.rd0 at0 rfl rfl (O.move (v := .pointer _) rfl) ?_
  refine Seq.rd0 at1 rfl rfl (O.nilP rfl) ?_
  refine Seq.rd0 at2 rfl rfl (O.field fo_203_1 rfl) ?_
  refine Seq.rd1 at3 rfl rfl (O.load kd_201 rfl r4_1) Rd.head ?_
  refine Seq.rd1 at4 rfl rfl (O.lenM ds_201 rfl) Rd.head.cons ?_
  refine Seq.rd0 at5 rfl rfl (O.geq rfl rfl) ?_
  refine Seq.nil ?_
  refine hK3 ?_
  refine Cd.if ((100 : Int) ≤ (es.size : Int)) rfl (fun t4 => ?_) (fun t4 => ?_)
  · skip
    omega
  · skip
    refine Cd.skip ?_
    refine hK2 ?_
    refine Cd.seq (fun K5 hK5 => ?_)
    refine Cd.region [0, 1, 2, 3, 4, 5, 6, 7] rfl ?_
    refine Seq.rd0 at0 rfl rfl (O.move (v := .pointer _) rfl) ?_
    refine Seq.rd0 at1 rfl rfl (O.nilP rfl) ?_
    refine Seq.rd0 at2 rfl rfl (O.field fo_203_2 rfl) ?_
    refine Seq.rd1 at3 rfl rfl (O.load kd_2 rfl r4_2) Rd.head ?_
    refine Seq.rd0 at4 rfl rfl (O.add rfl rfl (by omega) (by omega)) ?_
    refine Seq.rd0 at5 rfl rfl (O.nilP rfl) ?_
    refine Seq.rd0 at6 rfl rfl (O.field fo_203_2 rfl) ?_
    refine Seq.op at7 rfl (Op.set0 rfl (O.store1 kd_2 rfl (v := .int .i64 _) rfl (Nat.le_of_ble_eq_true rfl) rfl (cs' := #[.pointer (some ⟨sb, 0, none⟩), .map (some lm), .int .i64 (bg + 1), .int .i64 la]) rfl) ?_)
    refine Seq.nil ?_
    refine hK5 ?_
    refine Cd.seq (fun K6 hK6 => ?_)
    refine Cd.draw 17 rfl po ?_
    refine Any.rd0 0 at0 rfl rfl (O.move (v := .pointer _) rfl) (by kernel_rfl) (by kernel_rfl) (by kernel_rfl) ?_
    refine Any.rd0 1 at1 rfl rfl (O.nilP rfl) (by kernel_rfl) (by kernel_rfl) (by kernel_rfl) ?_
    refine Any.rd0 2 at2 rfl rfl (O.field fo_203_1 rfl) (by kernel_rfl) (by kernel_rfl) (by kernel_rfl) ?_
    refine Any.rd1 3 at3 rfl rfl (O.load kd_201 rfl r4_1) Rd.head (by kernel_rfl) (by kernel_rfl) (by kernel_rfl) ?_
    refine Any.rd0 4 at4 rfl rfl (O.move (v := .pointer _) rfl) (by kernel_rfl) (by kernel_rfl) (by kernel_rfl) ?_
    refine Any.rd0 5 at5 rfl rfl (O.nilP rfl) (by kernel_rfl) (by kernel_rfl) (by kernel_rfl) ?_
    refine Any.rd0 6 at6 rfl rfl (O.field fo_203_2 rfl) (by kernel_rfl) (by kernel_rfl) (by kernel_rfl) ?_
    refine Any.rd1 7 at7 rfl rfl (O.load kd_2 rfl r4_2) Rd.head (by kernel_rfl) (by kernel_rfl) (by kernel_rfl) ?_
    refine Any.rd0 8 at8 rfl rfl (O.move (v := .pointer _) rfl) (by kernel_rfl) (by kernel_rfl) (by kernel_rfl) ?_
    refine Any.rd0 9 at9 rfl rfl (O.nilP rfl) (by kernel_rfl) (by kernel_rfl) (by kernel_rfl) ?_
    refine Any.rd0 10 at10 rfl rfl (O.field fo_203_3 rfl) (by kernel_rfl) (by kernel_rfl) (by kernel_rfl) ?_
    refine Any.rd1 11 at11 rfl rfl (O.load kd_2 rfl r4_3) Rd.head (by kernel_rfl) (by kernel_rfl) (by kernel_rfl) ?_
    refine Any.rd0 12 at12 rfl rfl (O.build rfl (cs := (Stamp_enc (⟨la, 0⟩ : Stamp))) (by kernel_rfl)) (by kernel_rfl) (by kernel_rfl) (by kernel_rfl) ?_
    refine Any.one 13 at13 rfl (by kernel_rfl) ⟨⟨⟨trivial, Rd.head⟩, Rd.head⟩, Rd.head⟩ ?_
    refine Op.new rfl (O.makeMap) ?_
    intro b7 hb7
    refine Any.toK ?_
    refine Any.rd0 14 at14 rfl rfl (O.build rfl (cs := #[.int .i64 ((⟨la, 0⟩ : Stamp).t), .int .u8 ((⟨la, 0⟩ : Stamp).n), .map (some b7)]) (by kernel_rfl)) (by kernel_rfl) (by kernel_rfl) (by kernel_rfl) ?_
    refine Any.one 15 at15 rfl (by kernel_rfl) ⟨⟨⟨trivial, Rd.head.cons⟩, Rd.head.cons⟩, Rd.head.cons⟩ ?_
    refine Op.new rfl (O.box (v := .agg _) rfl (cs := #[.int .i64 ((⟨la, 0⟩ : Stamp).t), .int .u8 ((⟨la, 0⟩ : Stamp).n), .map (some b7)]) rfl) ?_
    intro b8 hb8
    refine Any.toK ?_
    refine Any.one 16 at16 rfl (by kernel_rfl) ⟨⟨⟨trivial, Rd.head.cons.cons⟩, Rd.head.cons.cons⟩, Rd.head.cons.cons⟩ ?_
    refine Op.gen rfl (O.mapSet (encV := txV) (u := (b8, (⟨la, 0⟩, []))) (a := ti) mp_201 kk_i64 hMx rfl (by exact (show _ = i64V ti by unfold i64V; rw [hti]; rfl)) rfl (A := [(b8, _), (b7, _), (p, _)]) rfl) ?_
    rintro _ _ ⟨rfl, es3, ck3, hMes3, rfl⟩
    refine Any.toK ?_
    refine Any.done (by kernel_rfl) ⟨⟨⟨trivial, Rd.head.cons.cons⟩, Rd.head.cons.cons⟩, Rd.head.cons.cons⟩ ?_
    refine hK6 ?_
    refine Cd.seq (fun K9 hK9 => ?_)
    refine Cd.region [0, 1, 2, 3, 4, 5] rfl ?_
    refine Seq.rd0 at0 rfl rfl (O.move (v := .pointer _) rfl) ?_
    refine Seq.rd0 at1 rfl rfl (O.nilP rfl) ?_
    refine Seq.rd0 at2 rfl rfl (O.field fo_203_2 rfl) ?_
    refine Seq.rd1 at3 rfl rfl (O.load kd_2 rfl r4_2) Rd.head.cons.cons ?_
    refine Seq.rd0 at4 rfl rfl (O.assign (v := .int .i64 _) rfl) ?_
    refine Seq.rd0 at5 rfl rfl (O.assign (v := .int .i64 _) rfl) ?_
    refine Seq.nil ?_
    refine hK9 ?_
    refine Cd.ret ?_
    exact hR _ _ (Res.two (v := .int .i64 _) (v' := .int .i64 _) rfl rfl rfl) ⟨rfl, b8, b7, es3, ck3, hMes3, rfl⟩ (.refl _)

set_option maxRecDepth 100000 in
set_option maxHeartbeats 2000000 in
theorem C_solo_Put_none {c : Cx} {L : List Pt} {p sb lm ck : Nat} {es : Array MapEntry} {L1 L2 : List Pt} {l : List (Key × CV)} {xl : List (I64 × TX)} {bg la : Int} (hSo : StOwn sb l L1) (hMx : MapIs i64V txV es ck xl) {ti : I64} {x : Write} (hl : alook xl ti = none) : Fn Tryz.prog 54 #[.pointer (some ⟨p, 0, none⟩), .int .i64 ti.1, .agg (Write_enc x)] c ((p, .cells #[.pointer (some ⟨sb, 0, none⟩), .map (some lm), .int .i64 bg, .int .i64 la] 203 (0, 0)) :: (lm, .map es ck) :: (L1 ++ (L2 ++ L))) (fun v L' => v = .int .i64 4 ∧ L' = ((p, .cells #[.pointer (some ⟨sb, 0, none⟩), .map (some lm), .int .i64 bg, .int .i64 la] 203 (0, 0)) :: (lm, .map es ck) :: (L1 ++ (L2 ++ L)))) := by
  refine Fn.enter Tryz.func54 rfl 51 rfl rfl (fun R hR => ?_)
  refine Cd.seq (fun K1 hK1 => ?_)
  refine Cd.region [0, 1] rfl ?_
  refine Seq.op at0 rfl (Op.new rfl (O.box (v := .agg _) rfl (cs := (Write_enc x)) rfl) ?_)
  intro b2 hb2
  refine Seq.rd0 at1 rfl rfl (O.assign (v := .int .i64 _) rfl) ?_
  refine Seq.nil ?_
  refine hK1 ?_
  refine Cd.seq (fun K3 hK3 => ?_)
  refine Cd.region [0, 1, 2, 3, 4, 5, 6] rfl ?_
  refine Seq.rd0 at0 rfl rfl (O.move (v := .pointer _) rfl) ?_
  refine Seq.rd0 at1 rfl rfl (O.nilP rfl) ?_
  refine Seq.rd0 at2 rfl rfl (O.field fo_203_1 rfl) ?_
  refine Seq.rd1 at3 rfl rfl (O.load kd_201 rfl r4_1) Rd.head.cons ?_
  refine Seq.rd0 at4 rfl rfl (O.move (v := .int .i64 _) rfl) ?_
  refine Seq.rd1 at5 rfl rfl (O.lookN (ok := false) (encV := txV) (a := ti) mp_201 kk_i64 hMx zo_206 rfl (by exact rfl) hl) Rd.head.cons.cons ?_
  refine Seq.rd0 at6 rfl rfl (O.assign (v := .pointer _) rfl) ?_
  refine Seq.nil ?_
  refine hK3 ?_
  refine Cd.seq (fun K4 hK4 => ?_)
  refine Cd.block ?_
  refine Cd.seq (fun K5 hK5 => ?_)
  refine Cd.region [0, 1, 2] rfl ?_
  refine Seq.rd0 at0 rfl rfl (O.move (v := .pointer _) rfl) ?_
  refine Seq.rd0 at1 rfl rfl (O.eqNil ds_206 rfl rfl) ?_
  refine Seq.rd0 at2 rfl rfl (O.assign (v := .bool _) rfl) ?_
  refine Seq.nil ?_
  refine hK5 ?_
  refine Cd.condT rfl ?_
  refine Cd.seq (fun K6 hK6 => ?_)
  refine Cd.region [0] rfl ?_
  refine Seq.rd0 at0 rfl rfl (O.assign (v := .int .i64 _) rfl) ?_
  refine Seq.nil ?_
  refine hK6 ?_
  refine Cd.ret ?_
  exact hR _ _ (Res.one (v := .int .i64 _) rfl rfl) ⟨rfl, rfl⟩ (.cons _ (.refl _))

set_option maxRecDepth 100000 in
set_option maxHeartbeats 2000000 in
theorem C_solo_Put_some {c : Cx} {L : List Pt} {p sb lm ck : Nat} {es : Array MapEntry} {L1 C1 : List Pt} {l : List (Key × CV)} {xl : List (I64 × TX)} {bg la : Int} (hSo : StOwn sb l L1) (hMx : MapIs i64V txV es ck xl) {ti : I64} {q : TX} {mb ck9 : Nat} {es9 : Array MapEntry} {ws : List (Key × Write)} (hl : alook xl ti = some q) (hMw : MapIs keyV wV es9 ck9 ws) (h16 : ws.length ≤ 16) {x : Write} : Fn Tryz.prog 54 #[.pointer (some ⟨p, 0, none⟩), .int .i64 ti.1, .agg (Write_enc x)] c ((p, .cells #[.pointer (some ⟨sb, 0, none⟩), .map (some lm), .int .i64 bg, .int .i64 la] 203 (0, 0)) :: (lm, .map es ck) :: (q.1, .cells #[.int .i64 q.2.1.t, .int .u8 q.2.1.n, .map (some mb)] 208 (0, 0)) :: (mb, .map es9 ck9) :: (L1 ++ (C1 ++ L))) (fun v L' => v = .int .i64 (putX ws x) ∧ ∃ es3 ck3, MapIs keyV wV es3 ck3 (afterX ws x) ∧ L' = ((p, .cells #[.pointer (some ⟨sb, 0, none⟩), .map (some lm), .int .i64 bg, .int .i64 la] 203 (0, 0)) :: (lm, .map es ck) :: (q.1, .cells #[.int .i64 q.2.1.t, .int .u8 q.2.1.n, .map (some mb)] 208 (0, 0)) :: (mb, .map es3 ck3) :: (L1 ++ (C1 ++ L)))) := by
  have hms := hMw.size
  refine Fn.enter Tryz.func54 rfl 51 rfl rfl (fun R hR => ?_)
  refine Cd.seq (fun K1 hK1 => ?_)
  refine Cd.region [0, 1] rfl ?_
  refine Seq.op at0 rfl (Op.new rfl (O.box (v := .agg _) rfl (cs := (Write_enc x)) rfl) ?_)
  intro b2 hb2
  refine Seq.rd0 at1 rfl rfl (O.assign (v := .int .i64 _) rfl) ?_
  refine Seq.nil ?_
  refine hK1 ?_
  refine Cd.seq (fun K3 hK3 => ?_)
  refine Cd.region [0, 1, 2, 3, 4, 5, 6] rfl ?_
  refine Seq.rd0 at0 rfl rfl (O.move (v := .pointer _) rfl) ?_
  refine Seq.rd0 at1 rfl rfl (O.nilP rfl) ?_
  refine Seq.rd0 at2 rfl rfl (O.field fo_203_1 rfl) ?_
  refine Seq.rd1 at3 rfl rfl (O.load kd_201 rfl r4_1) Rd.head.cons ?_
  refine Seq.rd0 at4 rfl rfl (O.move (v := .int .i64 _) rfl) ?_
  refine Seq.rd1 at5 rfl rfl (O.lookS (ok := false) (encV := txV) (a := ti) mp_201 kk_i64 hMx rfl (by exact rfl) hl) Rd.head.cons.cons ?_
  refine Seq.rd0 at6 rfl rfl (O.assign (v := .pointer _) rfl) ?_
  refine Seq.nil ?_
  refine hK3 ?_
  refine Cd.seq (fun K4 hK4 => ?_)
  refine Cd.block ?_
  refine Cd.seq (fun K5 hK5 => ?_)
  refine Cd.region [0, 1, 2] rfl ?_
  refine Seq.rd0 at0 rfl rfl (O.move (v := .pointer _) rfl) ?_
  refine Seq.rd0 at1 rfl rfl (O.eqNil ds_206 rfl rfl) ?_
  refine Seq.rd0 at2 rfl rfl (O.assign (v := .bool _) rfl) ?_
  refine Seq.nil ?_
  refine hK5 ?_
  refine Cd.condF rfl ?_
  refine Cd.seq (fun K6 hK6 => ?_)
  refine Cd.region [0, 1, 2, 3, 4] rfl ?_
  refine Seq.rd1 at0 rfl rfl (O.loadA kd_47 rfl (Nat.le_of_ble_eq_true rfl) (Write_all _)) Rd.head ?_
  refine Seq.op at1 rfl (Op.new rfl (O.buildSlice (el := 47) rfl (cs := (rows Write_enc [x])) (by kernel_rfl)) ?_)
  intro b7 hb7
  refine Seq.op at2 rfl (Op.callF rfl hb_105 (C_store_Good (oneW (Rd.head))) rfl ?_)
  rintro _ _ ⟨rfl, rfl⟩
  refine Seq.rd0 at3 rfl rfl (O.not rfl) ?_
  refine Seq.rd0 at4 rfl rfl (O.assign (v := .bool _) rfl) ?_
  refine Seq.nil ?_
  refine hK6 ?_
  refine Cd.cond (!(goodWs [x])) rfl (fun t8 => ?_) (fun t8 => ?_)
  · skip
    refine Cd.seq (fun K9 hK9 => ?_)
    refine Cd.region [0] rfl ?_
    refine Seq.rd0 at0 rfl rfl (O.assign (v := .int .i64 _) rfl) ?_
    refine Seq.nil ?_
    refine hK9 ?_
    refine Cd.ret ?_
    have h9 : (!goodWs [x]) = true := by assumption
    have hpx : putX ws x = 1 := by unfold putX; exact if_pos (by simpa using h9)
    exact hR _ _ (Res.one (v := .int .i64 _) rfl rfl) ⟨by rw [hpx], es9, ck9, by unfold afterX; rw [if_neg (by rw [hpx]; decide)]; exact hMw, rfl⟩ (.cons _ (.cons _ (.refl _)))
  · skip
    refine Cd.skip ?_
    refine hK4 ?_
    refine Cd.seq (fun K10 hK10 => ?_)
    refine Cd.seq (fun K11 hK11 => ?_)
    refine Cd.draw 13 rfl po ?_
    refine Any.rd0 0 at0 rfl rfl (O.move (v := .pointer _) rfl) (by kernel_rfl) (by kernel_rfl) (by kernel_rfl) ?_
    refine Any.rd0 1 at1 rfl rfl (O.nilP rfl) (by kernel_rfl) (by kernel_rfl) (by kernel_rfl) ?_
    refine Any.rd0 2 at2 rfl rfl (O.field fo_208_1 rfl) (by kernel_rfl) (by kernel_rfl) (by kernel_rfl) ?_
    refine Any.rd1 3 at3 rfl rfl (O.load kd_165 rfl r3_2) Rd.head.cons.cons.cons.cons (by kernel_rfl) (by kernel_rfl) (by kernel_rfl) ?_
    refine Any.rd0 4 at4 rfl rfl (O.field fo_47_0 rfl) (by kernel_rfl) (by kernel_rfl) (by kernel_rfl) ?_
    refine Any.rd1 5 at5 rfl rfl (O.loadA kd_45 rfl (Nat.le_of_ble_eq_true rfl) (Write_key _)) Rd.head.cons (by kernel_rfl) (by kernel_rfl) (by kernel_rfl) ?_
    refine Any.rd1 6 at6 rfl rfl (O.lookD (ok := true) (encV := wV) (a := x.key) wz mp_165 kk_key hMw zo_47 rfl (by exact rfl)) Rd.head.cons.cons.cons.cons.cons (by kernel_rfl) (by kernel_rfl) (by kernel_rfl) ?_
    refine Any.rd0 7 at7 rfl rfl (O.move (v := .tuple _) rfl) (by kernel_rfl) (by kernel_rfl) (by kernel_rfl) ?_
    refine Any.rd0 8 at8 rfl rfl (O.ext rfl r2_0) (by kernel_rfl) (by kernel_rfl) (by kernel_rfl) ?_
    refine Any.rd0 9 at9 rfl rfl (O.ext rfl r2_1) (by kernel_rfl) (by kernel_rfl) (by kernel_rfl) ?_
    refine Any.one 10 at10 rfl (by kernel_rfl) ⟨⟨⟨trivial, Rd.head.cons.cons.cons.cons⟩, Rd.head.cons⟩, Rd.head.cons.cons.cons.cons.cons⟩ ?_
    refine Op.new rfl (O.alloc zo_47 (cs := (Write_enc Write.zero)) rfl) ?_
    intro b12 hb12
    refine Any.toK ?_
    refine Any.one 11 at11 rfl (by kernel_rfl) ⟨⟨⟨trivial, Rd.head.cons.cons.cons.cons.cons⟩, Rd.head.cons.cons⟩, Rd.head.cons.cons.cons.cons.cons.cons⟩ ?_
    refine Op.set0 rfl (O.store kd_47 rfl (v := .agg _) rfl (Write_size _) (Write_room (Write_size _)) (Write_one _) (Write_put _ (Write_size _))) ?_
    refine Any.toK ?_
    refine Any.rd0 12 at12 rfl rfl (O.assign (v := .bool _) rfl) (by kernel_rfl) (by kernel_rfl) (by kernel_rfl) ?_
    refine Any.done (by kernel_rfl) ⟨⟨⟨trivial, Rd.head.cons.cons.cons.cons.cons⟩, Rd.head.cons.cons⟩, Rd.head.cons.cons.cons.cons.cons.cons⟩ ?_
    refine hK11 ?_
    refine Cd.seq (fun K13 hK13 => ?_)
    refine Cd.region [0, 1, 2, 3, 4, 5, 6, 7, 8, 9] rfl ?_
    refine Seq.rd0 at0 rfl rfl (O.move (v := .bool _) rfl) ?_
    refine Seq.rd0 at1 rfl rfl (O.not rfl) ?_
    refine Seq.rd0 at2 rfl rfl (O.move (v := .bool _) rfl) ?_
    cases t14 : (alook ws x.key).isSome
    · skip
      refine Seq.rd0 at3 rfl rfl (O.move (v := .pointer _) rfl) ?_
      refine Seq.rd0 at4 rfl rfl (O.nilP rfl) ?_
      refine Seq.rd0 at5 rfl rfl (O.field fo_208_1 rfl) ?_
      refine Seq.rd1 at6 rfl rfl (O.load kd_165 rfl r3_2) Rd.head.cons.cons.cons.cons.cons ?_
      refine Seq.rd1 at7 rfl rfl (O.lenM ds_165 rfl) Rd.head.cons.cons.cons.cons.cons.cons ?_
      refine Seq.rd0 at8 rfl rfl (O.geq rfl rfl) ?_
      refine Seq.rd0 at9 rfl rfl (O.pickT (v := .bool _) rfl rfl) ?_
      refine Seq.nil ?_
      refine hK13 ?_
      refine Cd.if ((16 : Int) ≤ (es9.size : Int)) rfl (fun t15 => ?_) (fun t15 => ?_)
      · skip
        refine Cd.seq (fun K16 hK16 => ?_)
        refine Cd.region [0] rfl ?_
        refine Seq.rd0 at0 rfl rfl (O.assign (v := .int .i64 _) rfl) ?_
        refine Seq.nil ?_
        refine hK16 ?_
        refine Cd.ret ?_
        have h9 : (!goodWs [x]) = false := by assumption
        have hpx : putX ws x = 6 := by unfold putX; exact by rw [if_neg (by simpa using h9), if_pos ⟨by simp_all, by omega⟩]
        exact hR _ _ (Res.one (v := .int .i64 _) rfl rfl) ⟨by rw [hpx], es9, ck9, by unfold afterX; rw [if_neg (by rw [hpx]; decide)]; exact hMw, rfl⟩ (.cons _ (.cons _ (.cons _ (.refl _))))
      · skip
        refine Cd.skip ?_
        refine hK10 ?_
        refine Cd.seq (fun K17 hK17 => ?_)
        refine Cd.draw 8 rfl po ?_
        refine Any.rd0 0 at0 rfl rfl (O.move (v := .pointer _) rfl) (by kernel_rfl) (by kernel_rfl) (by kernel_rfl) ?_
        refine Any.rd0 1 at1 rfl rfl (O.nilP rfl) (by kernel_rfl) (by kernel_rfl) (by kernel_rfl) ?_
        refine Any.rd0 2 at2 rfl rfl (O.field fo_208_1 rfl) (by kernel_rfl) (by kernel_rfl) (by kernel_rfl) ?_
        refine Any.rd1 3 at3 rfl rfl (O.load kd_165 rfl r3_2) Rd.head.cons.cons.cons.cons.cons (by kernel_rfl) (by kernel_rfl) (by kernel_rfl) ?_
        refine Any.rd0 4 at4 rfl rfl (O.field fo_47_0 rfl) (by kernel_rfl) (by kernel_rfl) (by kernel_rfl) ?_
        refine Any.rd1 5 at5 rfl rfl (O.loadA kd_45 rfl (Nat.le_of_ble_eq_true rfl) (Write_key _)) Rd.head.cons.cons (by kernel_rfl) (by kernel_rfl) (by kernel_rfl) ?_
        refine Any.rd1 6 at6 rfl rfl (O.loadA kd_47 rfl (Nat.le_of_ble_eq_true rfl) (Write_all _)) Rd.head.cons.cons (by kernel_rfl) (by kernel_rfl) (by kernel_rfl) ?_
        refine Any.one 7 at7 rfl (by kernel_rfl) ⟨⟨⟨trivial, Rd.head.cons.cons.cons.cons.cons⟩, Rd.head.cons.cons⟩, Rd.head.cons.cons⟩ ?_
        refine Op.gen rfl (O.mapSet (encV := wV) (u := x) (a := x.key) mp_165 kk_key hMw rfl (by exact rfl) rfl (A := [(b12, _), (b7, _), (b2, _), (p, _), (lm, _), (q.1, _)]) rfl) ?_
        rintro _ _ ⟨rfl, es3, ck3, hMes3, rfl⟩
        refine Any.toK ?_
        refine Any.done (by kernel_rfl) ⟨⟨⟨trivial, Rd.head.cons.cons.cons.cons.cons⟩, Rd.head.cons.cons⟩, Rd.head.cons.cons⟩ ?_
        refine hK17 ?_
        refine Cd.seq (fun K18 hK18 => ?_)
        refine Cd.region [0] rfl ?_
        refine Seq.rd0 at0 rfl rfl (O.assign (v := .int .i64 _) rfl) ?_
        refine Seq.nil ?_
        refine hK18 ?_
        refine Cd.ret ?_
        have h9 : (!goodWs [x]) = false := by assumption
        have hpx : putX ws x = 0 := by unfold putX; exact by rw [if_neg (by simpa using h9), if_neg (by rintro ⟨h8, h7⟩; first | omega | simp_all)]
        exact hR _ _ (Res.one (v := .int .i64 _) rfl rfl) ⟨by rw [hpx], es3, ck3, by unfold afterX; rw [if_pos hpx]; exact hMes3, rfl⟩ (.cons _ (.cons _ (.cons _ (.refl _))))
    · skip
      refine Seq.pass at3 rfl rfl ?_
      refine Seq.pass at4 rfl rfl ?_
      refine Seq.pass at5 rfl rfl ?_
      refine Seq.pass at6 rfl rfl ?_
      refine Seq.pass at7 rfl rfl ?_
      refine Seq.pass at8 rfl rfl ?_
      refine Seq.rd0 at9 rfl rfl (O.pickF (v := .bool _) rfl rfl) ?_
      refine Seq.nil ?_
      refine hK13 ?_
      refine Cd.condF rfl ?_
      refine Cd.skip ?_
      refine hK10 ?_
      refine Cd.seq (fun K19 hK19 => ?_)
      refine Cd.draw 8 rfl po ?_
      refine Any.rd0 0 at0 rfl rfl (O.move (v := .pointer _) rfl) (by kernel_rfl) (by kernel_rfl) (by kernel_rfl) ?_
      refine Any.rd0 1 at1 rfl rfl (O.nilP rfl) (by kernel_rfl) (by kernel_rfl) (by kernel_rfl) ?_
      refine Any.rd0 2 at2 rfl rfl (O.field fo_208_1 rfl) (by kernel_rfl) (by kernel_rfl) (by kernel_rfl) ?_
      refine Any.rd1 3 at3 rfl rfl (O.load kd_165 rfl r3_2) Rd.head.cons.cons.cons.cons.cons (by kernel_rfl) (by kernel_rfl) (by kernel_rfl) ?_
      refine Any.rd0 4 at4 rfl rfl (O.field fo_47_0 rfl) (by kernel_rfl) (by kernel_rfl) (by kernel_rfl) ?_
      refine Any.rd1 5 at5 rfl rfl (O.loadA kd_45 rfl (Nat.le_of_ble_eq_true rfl) (Write_key _)) Rd.head.cons.cons (by kernel_rfl) (by kernel_rfl) (by kernel_rfl) ?_
      refine Any.rd1 6 at6 rfl rfl (O.loadA kd_47 rfl (Nat.le_of_ble_eq_true rfl) (Write_all _)) Rd.head.cons.cons (by kernel_rfl) (by kernel_rfl) (by kernel_rfl) ?_
      refine Any.one 7 at7 rfl (by kernel_rfl) ⟨⟨⟨trivial, Rd.head.cons.cons.cons.cons.cons⟩, Rd.head.cons.cons⟩, Rd.head.cons.cons⟩ ?_
      refine Op.gen rfl (O.mapSet (encV := wV) (u := x) (a := x.key) mp_165 kk_key hMw rfl (by exact rfl) rfl (A := [(b12, _), (b7, _), (b2, _), (p, _), (lm, _), (q.1, _)]) rfl) ?_
      rintro _ _ ⟨rfl, es3, ck3, hMes3, rfl⟩
      refine Any.toK ?_
      refine Any.done (by kernel_rfl) ⟨⟨⟨trivial, Rd.head.cons.cons.cons.cons.cons⟩, Rd.head.cons.cons⟩, Rd.head.cons.cons⟩ ?_
      refine hK19 ?_
      refine Cd.seq (fun K20 hK20 => ?_)
      refine Cd.region [0] rfl ?_
      refine Seq.rd0 at0 rfl rfl (O.assign (v := .int .i64 _) rfl) ?_
      refine Seq.nil ?_
      refine hK20 ?_
      refine Cd.ret ?_
      have h9 : (!goodWs [x]) = false := by assumption
      have hpx : putX ws x = 0 := by unfold putX; exact by rw [if_neg (by simpa using h9), if_neg (by rintro ⟨h8, h7⟩; first | omega | simp_all)]
      exact hR _ _ (Res.one (v := .int .i64 _) rfl rfl) ⟨by rw [hpx], es3, ck3, by unfold afterX; rw [if_pos hpx]; exact hMes3, rfl⟩ (.cons _ (.cons _ (.cons _ (.refl _))))

end Go.X

/-
  DERIVED: THE SHELF's CONTRACTS AT THIS DUMP, IN PLAIN WORDS (tools/lay-plain.mjs out of 'SortLay2.lean', which tools/lay-shelf.mjs wrote): THE SAME DECLARATIONS UNDER THE SAME NAMES: 'import', 'namespace', 'open', 'def', 'theorem' AND NOTHING ELSE: no command of the shelf's: FOR A HAND-IN. Each laying: the table of numbers ('.._ren') and one theorem, a field a fact of the dump's own or the kernel's comparison; each contract: ONE APPLICATION.
-/
namespace Go.Proofs
open Go.Shelf
def Tryz.sortWrite_ren : Go.Shelf.Ren := ⟨fun | 6 => 229 | 15 => 232 | 14 => 253 | 28 => 263 | 29 => 264 | 20 => 277 | 21 => 278 | 22 => 279 | 23 => 280 | 24 => 281 | 25 => 282 | 26 => 283 | 27 => 284 | 46 => 303 | 47 => 286 | 48 => 287 | 49 => 304 | 50 => 305 | 57 => 311 | n => n, fun | 22 => 25 | 24 => 47 | 25 => 266 | 3 => 3 | 39 => 307 | 0 => 0 | 53 => 331 | 55 => 333 | 4 => 4 | 46 => 324 | 45 => 323 | 50 => 149 | 5 => 5 | 9 => 9 | 66 => 346 | 70 => 350 | 76 => 363 | 77 => 290 | n => n, fun | n => n⟩
theorem Tryz.sortWrite : Go.Proofs.SlLaysF0.n6 Tryz.prog Tryz.sortWrite_ren := {
  mixed := by kernel_rfl
  f6 := ⟨Tryz.f229.name, by decide, Tryz.func229.trans (congrArg some (by kernel_rfl))⟩
  f14 := ⟨Tryz.f253.name, by decide, Tryz.func253.trans (congrArg some (by kernel_rfl))⟩
  f15 := Tryz.func232.trans (congrArg some (by kernel_rfl))
  f20 := ⟨Tryz.f277.name, by decide, Tryz.func277.trans (congrArg some (by kernel_rfl))⟩
  f21 := ⟨Tryz.f278.name, by decide, Tryz.func278.trans (congrArg some (by kernel_rfl))⟩
  f22 := ⟨Tryz.f279.name, by decide, Tryz.func279.trans (congrArg some (by kernel_rfl))⟩
  f23 := ⟨Tryz.f280.name, by decide, Tryz.func280.trans (congrArg some (by kernel_rfl))⟩
  f24 := ⟨Tryz.f281.name, by decide, Tryz.func281.trans (congrArg some (by kernel_rfl))⟩
  f25 := ⟨Tryz.f282.name, by decide, Tryz.func282.trans (congrArg some (by kernel_rfl))⟩
  f26 := ⟨Tryz.f283.name, by decide, Tryz.func283.trans (congrArg some (by kernel_rfl))⟩
  f27 := ⟨Tryz.f284.name, by decide, Tryz.func284.trans (congrArg some (by kernel_rfl))⟩
  f28 := Tryz.func263.trans (congrArg some (by kernel_rfl))
  f29 := Tryz.func264.trans (congrArg some (by kernel_rfl))
  f46 := ⟨Tryz.f303.name, by decide, Tryz.func303.trans (congrArg some (by kernel_rfl))⟩
  f47 := Tryz.func286.trans (congrArg some (by kernel_rfl))
  f48 := Tryz.func287.trans (congrArg some (by kernel_rfl))
  f49 := ⟨Tryz.f304.name, by decide, Tryz.func304.trans (congrArg some (by kernel_rfl))⟩
  f50 := ⟨Tryz.f305.name, by decide, Tryz.func305.trans (congrArg some (by kernel_rfl))⟩
  f57 := ⟨Tryz.f311.name, by decide, Tryz.func311.trans (congrArg some (by kernel_rfl))⟩
  t0 := Tryz.underlying0
  a0 := Tryz.isAgg0
  z0 := Tryz.sizeOf0
  v0 := Tryz.zeroValue0
  t3 := Tryz.underlying3
  a3 := Tryz.isAgg3
  z3 := Tryz.sizeOf3
  v3 := Tryz.zeroValue3
  t4 := Tryz.underlying4
  a4 := Tryz.isAgg4
  z4 := Tryz.sizeOf4
  v4 := Tryz.zeroValue4
  t5 := Tryz.underlying5
  a5 := Tryz.isAgg5
  z5 := Tryz.sizeOf5
  v5 := Tryz.zeroValue5
  t9 := Tryz.underlying9
  a9 := Tryz.isAgg9
  z9 := Tryz.sizeOf9
  v9 := Tryz.zeroValue9
  t22 := Tryz.underlying25
  a22 := Tryz.isAgg25
  z22 := Tryz.sizeOf25
  v22 := Tryz.zeroValue25
  t25 := Tryz.underlying266
  a25 := Tryz.isAgg266
  z25 := Tryz.sizeOf266
  v25 := Tryz.zeroValue266
  t39 := Tryz.underlying307
  a39 := Tryz.isAgg307
  z39 := Tryz.sizeOf307
  v39 := Tryz.zeroValue307
  t45 := Tryz.underlying323
  a45 := Tryz.isAgg323
  z45 := Tryz.sizeOf323
  v45 := Tryz.zeroValue323
  t46 := Tryz.underlying324
  a46 := Tryz.isAgg324
  z46 := Tryz.sizeOf324
  v46 := Tryz.zeroValue324
  t50 := Tryz.underlying149
  a50 := Tryz.isAgg149
  z50 := Tryz.sizeOf149
  v50 := Tryz.zeroValue149
  t53 := Tryz.underlying331
  a53 := Tryz.isAgg331
  z53 := Tryz.sizeOf331
  v53 := Tryz.zeroValue331
  t55 := Tryz.underlying333
  a55 := Tryz.isAgg333
  z55 := Tryz.sizeOf333
  v55 := Tryz.zeroValue333
  t66 := Tryz.underlying346
  a66 := Tryz.isAgg346
  z66 := Tryz.sizeOf346
  v66 := Tryz.zeroValue346
  t70 := Tryz.underlying350
  a70 := Tryz.isAgg350
  z70 := Tryz.sizeOf350
  v70 := Tryz.zeroValue350
  t76 := Tryz.underlying363
  a76 := Tryz.isAgg363
  z76 := Tryz.sizeOf363
  v76 := Tryz.zeroValue363
  t77 := Tryz.underlying290
  a77 := Tryz.isAgg290
  z77 := Tryz.sizeOf290
  v77 := Tryz.zeroValue290 }
def Tryz.sortI64_ren : Go.Shelf.Ren := ⟨fun | 5 => 190 | 8 => 232 | 7 => 234 | 19 => 263 | 20 => 264 | 10 => 265 | 11 => 266 | 12 => 267 | 13 => 268 | 14 => 269 | 15 => 270 | 16 => 271 | 17 => 272 | 18 => 273 | 30 => 291 | 31 => 286 | 32 => 287 | 33 => 292 | 34 => 293 | 35 => 235 | 40 => 307 | n => n, fun | 23 => 72 | 25 => 2 | 3 => 3 | 32 => 307 | 22 => 72 | 0 => 0 | 44 => 331 | 46 => 333 | 4 => 4 | 36 => 324 | 35 => 323 | 41 => 149 | 5 => 5 | 9 => 9 | 53 => 346 | 57 => 350 | 63 => 363 | 64 => 290 | n => n, fun | n => n⟩
theorem Tryz.sortI64 : Go.Proofs.SlLaysM.n5 Tryz.prog Tryz.sortI64_ren := {
  mixed := by kernel_rfl
  f5 := ⟨Tryz.f190.name, by decide, Tryz.func190.trans (congrArg some (by kernel_rfl))⟩
  f7 := ⟨Tryz.f234.name, by decide, Tryz.func234.trans (congrArg some (by kernel_rfl))⟩
  f8 := Tryz.func232.trans (congrArg some (by kernel_rfl))
  f10 := ⟨Tryz.f265.name, by decide, Tryz.func265.trans (congrArg some (by kernel_rfl))⟩
  f11 := ⟨Tryz.f266.name, by decide, Tryz.func266.trans (congrArg some (by kernel_rfl))⟩
  f12 := ⟨Tryz.f267.name, by decide, Tryz.func267.trans (congrArg some (by kernel_rfl))⟩
  f13 := ⟨Tryz.f268.name, by decide, Tryz.func268.trans (congrArg some (by kernel_rfl))⟩
  f14 := ⟨Tryz.f269.name, by decide, Tryz.func269.trans (congrArg some (by kernel_rfl))⟩
  f15 := ⟨Tryz.f270.name, by decide, Tryz.func270.trans (congrArg some (by kernel_rfl))⟩
  f16 := ⟨Tryz.f271.name, by decide, Tryz.func271.trans (congrArg some (by kernel_rfl))⟩
  f17 := ⟨Tryz.f272.name, by decide, Tryz.func272.trans (congrArg some (by kernel_rfl))⟩
  f18 := ⟨Tryz.f273.name, by decide, Tryz.func273.trans (congrArg some (by kernel_rfl))⟩
  f19 := Tryz.func263.trans (congrArg some (by kernel_rfl))
  f20 := Tryz.func264.trans (congrArg some (by kernel_rfl))
  f30 := ⟨Tryz.f291.name, by decide, Tryz.func291.trans (congrArg some (by kernel_rfl))⟩
  f31 := Tryz.func286.trans (congrArg some (by kernel_rfl))
  f32 := Tryz.func287.trans (congrArg some (by kernel_rfl))
  f33 := ⟨Tryz.f292.name, by decide, Tryz.func292.trans (congrArg some (by kernel_rfl))⟩
  f34 := ⟨Tryz.f293.name, by decide, Tryz.func293.trans (congrArg some (by kernel_rfl))⟩
  f35 := ⟨Tryz.f235.name, by decide, Tryz.func235.trans (congrArg some (by kernel_rfl))⟩
  f40 := ⟨Tryz.f307.name, by decide, Tryz.func307.trans (congrArg some (by kernel_rfl))⟩
  t0 := Tryz.underlying0
  a0 := Tryz.isAgg0
  z0 := Tryz.sizeOf0
  v0 := Tryz.zeroValue0
  t3 := Tryz.underlying3
  a3 := Tryz.isAgg3
  z3 := Tryz.sizeOf3
  v3 := Tryz.zeroValue3
  t4 := Tryz.underlying4
  a4 := Tryz.isAgg4
  z4 := Tryz.sizeOf4
  v4 := Tryz.zeroValue4
  t5 := Tryz.underlying5
  a5 := Tryz.isAgg5
  z5 := Tryz.sizeOf5
  v5 := Tryz.zeroValue5
  t9 := Tryz.underlying9
  a9 := Tryz.isAgg9
  z9 := Tryz.sizeOf9
  v9 := Tryz.zeroValue9
  t22 := Tryz.underlying72
  a22 := Tryz.isAgg72
  z22 := Tryz.sizeOf72
  v22 := Tryz.zeroValue72
  t23 := Tryz.underlying72
  a23 := Tryz.isAgg72
  z23 := Tryz.sizeOf72
  v23 := Tryz.zeroValue72
  t25 := Tryz.underlying2
  a25 := Tryz.isAgg2
  z25 := Tryz.sizeOf2
  v25 := Tryz.zeroValue2
  t32 := Tryz.underlying307
  a32 := Tryz.isAgg307
  z32 := Tryz.sizeOf307
  v32 := Tryz.zeroValue307
  t35 := Tryz.underlying323
  a35 := Tryz.isAgg323
  z35 := Tryz.sizeOf323
  v35 := Tryz.zeroValue323
  t36 := Tryz.underlying324
  a36 := Tryz.isAgg324
  z36 := Tryz.sizeOf324
  v36 := Tryz.zeroValue324
  t41 := Tryz.underlying149
  a41 := Tryz.isAgg149
  z41 := Tryz.sizeOf149
  v41 := Tryz.zeroValue149
  t44 := Tryz.underlying331
  a44 := Tryz.isAgg331
  z44 := Tryz.sizeOf331
  v44 := Tryz.zeroValue331
  t46 := Tryz.underlying333
  a46 := Tryz.isAgg333
  z46 := Tryz.sizeOf333
  v46 := Tryz.zeroValue333
  t53 := Tryz.underlying346
  a53 := Tryz.isAgg346
  z53 := Tryz.sizeOf346
  v53 := Tryz.zeroValue346
  t57 := Tryz.underlying350
  a57 := Tryz.isAgg350
  z57 := Tryz.sizeOf350
  v57 := Tryz.zeroValue350
  t63 := Tryz.underlying363
  a63 := Tryz.isAgg363
  z63 := Tryz.sizeOf363
  v63 := Tryz.zeroValue363
  t64 := Tryz.underlying290
  a64 := Tryz.isAgg290
  z64 := Tryz.sizeOf290
  v64 := Tryz.zeroValue290 }
end Go.Proofs

namespace Go.X
open Go.Proofs
theorem hb_101 : hasBody Tryz.prog 101 = true := by kernel_rfl
theorem hb_178 : hasBody Tryz.prog 178 = true := by kernel_rfl
theorem hb_179 : hasBody Tryz.prog 179 = true := by kernel_rfl
theorem hb_228 : hasBody Tryz.prog 228 = true := by kernel_rfl
theorem hb_229 : hasBody Tryz.prog 229 = true := by kernel_rfl
theorem hb_252 : hasBody Tryz.prog 252 = true := by kernel_rfl
set_option maxRecDepth 100000 in
theorem C_AppendSeq_Write {c : Cx} {L : List Pt} {gf : FuncId} {lb : List Value} {N : Nat} {S : List Write → Prop} (hN : N ≤ 1000000000) (hgb : hasBody Tryz.prog gf = true)
    (hit : IterOk Tryz.prog c (fun x : Write => (.agg (Write_enc x))) gf lb N S L) :
    Fn Tryz.prog 252 #[.slice none 0 0, .func (.func gf) #[] lb.toArray] c L (fun v L' => ∃ xs Ls, S xs ∧ OwnSl 47 18 (rows Write_enc xs) xs.length v Ls ∧ L' = Ls ++ L) := by
  refine Fn.range (k := 13) (p := 7) (g := 6) Tryz.func252 rfl rfl rfl (fun X hX => ?_)
  refine rng [0, 1] rfl ?_
  refine Seq.op at0 rfl (Op.new rfl (O.box (v := .slice _ _ _) rfl rfl) ?_)
  intro b2 _
  refine Seq.rd0 at1 rfl rfl (O.assign (v := .slice _ _ _) rfl) ?_
  refine Seq.nil (nor_one (rng [0] rfl ?_))
  refine Seq.rd0 at0 rfl rfl (O.move (v := .func _ _ _) rfl) ?_
  refine Seq.nil (nor_one ?_)
  refine hX (gf := gf) (lb := lb) rfl hgb (fun D l rec hr => ?_)
  refine Fn.mono (hit l (fun pre Lo => ∃ v Ls, Lo = (l, .loop rec) :: (D, .deferred (some [])) :: (b2, .cells #[v] 25 (0, 0)) :: Ls ∧ OwnSl 47 18 (rows Write_enc pre) pre.length v Ls ∧ v.oneCell' = true) [(l, .loop rec), (D, .deferred (some [])), (b2, .cells #[.slice none 0 0] 25 (0, 0))] ?_ ⟨_, [], rfl, .inl ⟨rfl, rfl, rfl, rfl⟩, rfl⟩) ?_
  · rintro pre x _ R' hlen ⟨v, Ls, rfl, ho, hv1⟩
    refine YStep.make hr (by decide) (fun X hX => ?_)
    refine rng [0, 1] rfl ?_
    refine Seq.op at0 rfl (Op.new rfl (O.alloc zo_47 (cs := (Write_enc Write.zero)) rfl) ?_)
    intro bx _
    refine Seq.op at1 rfl (Op.set0 rfl (O.store kd_47 rfl (v := .agg _) rfl (Write_size _) (Write_room (Write_size _)) (Write_one _) (Write_put _ (Write_size _))) ?_)
    refine Ent.perm ?_ (.swap _ _ _)
    refine Seq.nil (nor_one ?_)
    refine hX (fun Y hY => ?_)
    refine rng [0, 1, 2, 3, 4] rfl ?_
    refine Seq.rd1 at0 rfl rfl (O.load kd_25 rfl r1_0) Rd.head.cons.cons.cons ?_
    refine Seq.rd1 at1 rfl rfl (O.loadA kd_47 rfl (Nat.le_of_ble_eq_true rfl) (Write_all _)) Rd.head.cons ?_
    refine Seq.op at2 rfl (Op.new rfl (O.buildSlice (el := 47) rfl (cs := rows Write_enc [x]) (by kernel_rfl)) ?_)
    intro bs _
    refine Ent.perm ?_ (bring (Ls := Ls) (pre := [(bs, _), (l, _), (bx, _), (D, _), (b2, _)]) (R := R'))
    refine Seq.op at3 rfl (Op.gen rfl (O.appendOwn (k := 1) (new := rows Write_enc [x]) ei_25 ds_25 (by decide) rfl ho (.inr ⟨bs, 0, 1, rows Write_enc [x], 47, (0, 0), rfl, Rd.head.sub (List.sublist_append_right _ _), Nat.le_refl _, by rw [rows_one]; exact Write_all x⟩) (by rw [rows_one]; exact Write_one x) (by decide) (by omega)) ?_)
    rintro v' _ ⟨Ls', ho', rfl⟩
    have hv2 : v'.oneCell' = true := by
      rcases ho' with ⟨_, _, rfl, _⟩ | ⟨_, _, _, rfl, _⟩ <;> rfl
    refine Ent.perm ?_ (bring (Ls := Ls') (pre := [(bs, _), (l, _), (bx, _), (D, _), (b2, _)]) (R := R')).symm
    refine Seq.op at4 rfl (Op.set4 rfl (O.store1 kd_25 rfl (v := v') rfl (Nat.le_of_ble_eq_true rfl) hv2 (cs' := #[v']) rfl) ?_)
    refine Seq.nil (nor_one ?_)
    exact Ent.sub (hY (L2 := (D, _) :: (b2, _) :: (Ls' ++ R')) ⟨_, ⟨v', Ls', rfl, by rw [rows_append, List.length_append]; exact ho', hv2⟩, rfl⟩) (.cons _ (.cons_cons _ (.cons _ (.refl _))))
  · rintro v _ ⟨xs, _, hS, ⟨sv, Ls, rfl, ho, _⟩, rfl⟩
    refine ⟨(b2, .cells #[sv] 25 (0, 0)) :: (Ls ++ L), rfl, fun Y hY => ?_⟩
    refine rng [0, 1] rfl ?_
    refine Seq.rd1 at0 rfl rfl (O.load kd_25 rfl r1_0) Rd.head.cons ?_
    refine Seq.rd0 at1 rfl rfl (O.assign (v := sv) rfl) ?_
    exact Seq.nil (nor_one (hY (Res.one (v := sv) rfl rfl) ⟨xs, Ls, hS, ho, rfl⟩ (List.sublist_cons_self _ _)))

theorem perm_stepV {K V : Type} {pre ks : List V} {rest rest' : List (K × V)} {a : K} {u : V} (hp : (pre ++ rest.map Prod.snd).Perm ks) (hpm : rest.Perm ((a, u) :: rest')) :
    ((pre ++ [u]) ++ rest'.map Prod.snd).Perm ks := by
  refine List.Perm.trans ?_ hp
  rw [List.append_assoc]
  exact List.Perm.append_left pre (hpm.map Prod.snd).symm
theorem step_ltV {K V : Type} {lst : List (K × V)} {pre : List V} {rest rest' : List (K × V)} {a : K} {u : V} (hp : (pre ++ rest.map Prod.snd).Perm (lst.map Prod.snd)) (hpm : rest.Perm ((a, u) :: rest')) : pre.length < lst.length := by
  have h1 := hp.length_eq
  have h2 := hpm.length_eq
  simp only [List.length_append, List.length_map, List.length_cons] at h1 h2
  omega

set_option maxRecDepth 100000 in
set_option maxHeartbeats 2000000 in
theorem C_valsWrite_fn {c : Cx} {L : List Pt} {K : Type} {encK : K → Value} {Rt Lo : List Pt} {bb bm l ck : Nat} {es : Array MapEntry} {lst : List (K × Write)} {I : List Write → List Pt → Prop} (hm : MapIs encK wV es ck lst) (hb : Rd c Rt bb (.cells #[.map (some bm)] 165 (0, 0))) (hr : Rd c Rt bm (.map es ck)) (hY : ∀ pre x Lo R', pre.length < lst.length → I pre Lo → YStep Tryz.prog c l (wV x) (Lo ++ R') (fun L' => ∃ Lo', I (pre ++ [x]) Lo' ∧ L' = Lo' ++ R')) (h0 : I [] Lo) : Fn Tryz.prog 230 #[.func (.yield l) #[] #[], .pointer (some ⟨bb, 0, none⟩)] c (Lo ++ Rt) (fun v L' => ∃ xs Lo', xs.Perm (lst.map Prod.snd) ∧ I xs Lo' ∧ L' = Lo' ++ Rt) := by
  refine Fn.enter Tryz.func230 rfl 15 rfl rfl (fun R hR => ?_)
  refine Cd.seq (fun K1 hK1 => ?_)
  refine Cd.region [0, 1] rfl ?_
  refine Seq.rd1 at0 rfl rfl (O.load kd_165 rfl r1_0) (hb.sub (List.sublist_append_right _ _)) ?_
  refine Seq.op at1 rfl (Op.gen rfl (O.range mp_165 hm rfl (hr.sub (List.sublist_append_right _ _))) ?_)
  rintro _ _ ⟨r, it, hr0, rfl, hi, rfl⟩
  refine Seq.nil ?_
  refine hK1 ?_
  refine Cd.block ?_
  refine Cd.loop (fun m2 e3 L4 => ∃ pre : List Write, ∃ rest : List (K × Write), ∃ Lo1 : List Pt, ∃ it : Obj, m2 = rest.length ∧ e3 0 = .func (.yield l) #[] #[] ∧ e3 6 = .pointer (some ⟨r, 0, none⟩) ∧ L4 = (r, it) :: (Lo1 ++ Rt) ∧ I pre Lo1 ∧ ItIs encK wV es ck bm rest it ∧ (pre ++ rest.map Prod.snd).Perm (lst.map Prod.snd)) _ ⟨[], lst, Lo, it, rfl, rfl, rfl, rfl, h0, hi, .refl _⟩ ?_
  rintro _ e3 _ ⟨pre, rest, Lo1, it, rfl, s5, s6, rfl, hI, hi, hp⟩ K7 hK7
  refine Cd.seq (fun K8 hK8 => ?_)
  refine Cd.region [0, 1] rfl ?_
  refine Seq.op at0 rfl (Op.gen rfl (O.next hm hi (by exact s6) (Rd.cons (hr.sub (List.sublist_append_right _ _)))) ?_)
  rintro _ _ (⟨rfl, rfl, rfl⟩ | ⟨a, u, rest', it', hpm, rfl, hi', hent, rfl⟩)
  · skip
    refine Seq.rd0 at1 rfl rfl (O.ext rfl r1_0) ?_
    refine Seq.nil ?_
    refine hK8 ?_
    refine Cd.seq (fun K9 hK9 => ?_)
    refine Cd.condF rfl ?_
    refine Cd.exit ?_
    exact hR _ _ (Res.zero rfl) ⟨pre, Lo1, by simpa using hp, hI, rfl⟩ (.cons _ (.refl _))
  · skip
    refine Seq.rd0 at1 rfl rfl (O.ext rfl r3_0) ?_
    refine Seq.nil ?_
    refine hK8 ?_
    refine Cd.seq (fun K10 hK10 => ?_)
    refine Cd.condT rfl ?_
    refine Cd.skip ?_
    refine hK10 ?_
    refine Cd.block ?_
    refine Cd.seq (fun K11 hK11 => ?_)
    refine Cd.region [0, 1, 2, 3] rfl ?_
    refine Seq.op at0 rfl (Op.gen rfl (hent _ _ (by exact s6) Rd.head (Rd.cons (hr.sub (List.sublist_append_right _ _)))) ?_)
    rintro _ _ ⟨rfl, rfl⟩
    refine Seq.rd0 at1 rfl rfl (O.ext rfl r2_1) ?_
    refine Seq.op at2 rfl (Op.new rfl (O.alloc zo_47 (cs := (Write_enc Write.zero)) rfl) ?_)
    intro b12 hb12
    refine Seq.op at3 rfl (Op.set0 rfl (O.store kd_47 rfl (v := .agg _) rfl (Write_size _) (Write_room (Write_size _)) (Write_one _) (Write_put _ (Write_size _))) ?_)
    refine Seq.nil ?_
    refine hK11 ?_
    refine Cd.seq (fun K13 hK13 => ?_)
    refine Cd.region [0, 1, 2, 3] rfl ?_
    refine Seq.rd0 at0 rfl rfl (O.move (v := (.func (.yield l) #[] #[])) (by exact s5)) ?_
    refine Seq.rd1 at1 rfl rfl (O.loadA kd_47 rfl (Nat.le_of_ble_eq_true rfl) (Write_all _)) Rd.head ?_
    refine Seq.opY at2 rfl (Ent.perm (Op.yield rfl rfl rfl (hY pre u Lo1 _ (step_ltV hp hpm) hI) ?_) (bring (Ls := Lo1) (pre := [(b12, _), (r, _)]) (R := Rt)))
    rintro _ ⟨Lo2, hI2, rfl⟩
    refine Ent.perm ?_ (bring (Ls := Lo2) (pre := [(b12, _), (r, _)]) (R := Rt)).symm
    refine Ent.drop ?_
    refine Seq.rd0 at3 rfl rfl (O.not rfl) ?_
    refine Seq.nil ?_
    refine hK13 ?_
    refine Cd.condF rfl ?_
    refine Cd.skip ?_
    exact hK7 _ (step_dec hpm) ⟨pre ++ [u], rest', Lo2, it', rfl, (by exact s5), (by exact s6), rfl, hI2, hi', perm_stepV hp hpm⟩

theorem C_valsWrite {c : Cx} {K : Type} {encK : K → Value} {Rt : List Pt} {bb bm ck : Nat} {es : Array MapEntry} {lst : List (K × Write)} (hm : MapIs encK wV es ck lst) (hb : Rd c Rt bb (.cells #[.map (some bm)] 165 (0, 0))) (hr : Rd c Rt bm (.map es ck)) :
    IterOk Tryz.prog c wV 230 [.pointer (some ⟨bb, 0, none⟩)] lst.length (fun xs => xs.Perm (lst.map Prod.snd)) Rt := fun _ _ _ hY h0 => C_valsWrite_fn (L := Rt) hm hb hr hY h0

set_option maxRecDepth 100000 in
set_option maxHeartbeats 2000000 in
theorem C_mapsValues {c : Cx} {L : List Pt} {mb : Nat} : Fn Tryz.prog 179 #[.map (some mb)] c L (fun v L' => ∃ bb, c.w0.heap.size ≤ bb ∧ v = .func (.func 230) #[] #[.pointer (some ⟨bb, 0, none⟩)] ∧ L' = (bb, .cells #[.map (some mb)] 165 (0, 0)) :: L) := by
  refine Fn.enter Tryz.func179 rfl 4 rfl rfl (fun R hR => ?_)
  refine Cd.seq (fun K1 hK1 => ?_)
  refine Cd.region [0, 1] rfl ?_
  refine Seq.op at0 rfl (Op.new rfl (O.box (v := .map _) rfl rfl) ?_)
  intro b2 hb2
  refine Seq.rd0 at1 rfl rfl (O.assign (v := .nilFunc) rfl) ?_
  refine Seq.nil ?_
  refine hK1 ?_
  refine Cd.seq (fun K3 hK3 => ?_)
  refine Cd.region [0, 1] rfl ?_
  refine Seq.rd0 at0 rfl rfl (O.mkFunc (fs' := #[]) (cs' := #[.pointer (some ⟨b2, 0, none⟩)]) (by kernel_rfl) (by kernel_rfl)) ?_
  refine Seq.rd0 at1 rfl rfl (O.assign (v := .func _ _ _) rfl) ?_
  refine Seq.nil ?_
  refine hK3 ?_
  refine Cd.ret ?_
  exact hR _ _ (Res.one (v := .func _ _ _) rfl rfl) ⟨b2, hb2, rfl, rfl⟩ (.refl _)

set_option maxRecDepth 100000 in
set_option maxHeartbeats 2000000 in
theorem C_cmpW {c : Cx} {L : List Pt} {x y : Write} : Fn Tryz.prog 180 #[.agg (Write_enc x), .agg (Write_enc y)] c L (fun v L' => v = .int .i64 (x.key.cmp y.key) ∧ L' = L) := by
  refine Fn.enter Tryz.func180 rfl 10 rfl rfl (fun R hR => ?_)
  refine Cd.seq (fun K1 hK1 => ?_)
  refine Cd.region [0, 1, 2] rfl ?_
  refine Seq.op at0 rfl (Op.new rfl (O.box (v := .agg _) rfl (cs := (Write_enc x)) rfl) ?_)
  intro b2 hb2
  refine Seq.op at1 rfl (Op.new rfl (O.box (v := .agg _) rfl (cs := (Write_enc y)) rfl) ?_)
  intro b3 hb3
  refine Seq.rd0 at2 rfl rfl (O.assign (v := .int .i64 _) rfl) ?_
  refine Seq.nil ?_
  refine hK1 ?_
  refine Cd.seq (fun K4 hK4 => ?_)
  refine Cd.region [0, 1, 2, 3, 4, 5] rfl ?_
  refine Seq.rd0 at0 rfl rfl (O.field fo_47_0 rfl) ?_
  refine Seq.rd1 at1 rfl rfl (O.loadA kd_45 rfl (Nat.le_of_ble_eq_true rfl) (Write_key _)) Rd.head.cons ?_
  refine Seq.rd0 at2 rfl rfl (O.field fo_47_0 rfl) ?_
  refine Seq.rd1 at3 rfl rfl (O.loadA kd_45 rfl (Nat.le_of_ble_eq_true rfl) (Write_key _)) Rd.head ?_
  refine Seq.op at4 rfl (Op.callF rfl hb_101 C_key_Cmp rfl ?_)
  rintro _ _ ⟨rfl, rfl⟩
  refine Seq.rd0 at5 rfl rfl (O.assign (v := .int .i64 _) rfl) ?_
  refine Seq.nil ?_
  refine hK4 ?_
  refine Cd.ret ?_
  exact hR _ _ (Res.one (v := .int .i64 _) rfl rfl) ⟨rfl, rfl⟩ (.cons _ (.cons _ (.refl _)))

instance : Inhabited Write := ⟨.zero⟩
theorem aE_write (w : World) : (isAgg 47).run Tryz.prog w = .ok true w := by kernel_rfl
theorem zE_write (w : World) : (Go.sizeOf 47).run Tryz.prog w = .ok 18 w := by kernel_rfl
def wcmp (x y : Write) : Int := x.key.cmp y.key
theorem wcmp_swo : Go.Sort.SWO (Go.Proofs.ltOf wcmp) := ⟨fun x => Key.swo.1 x.key, fun x y z => Key.swo.2 x.key y.key z.key, fun x y z => Key.swo.3 x.key y.key z.key⟩
/-- writes by their keys -/
def WOrd (l : List Write) : Prop := l.Pairwise fun x y => ¬ wcmp y x < 0
def OwnW (xs : List Write) (v : Value) (Ls : List Pt) : Prop := OwnSl 47 18 (rows Write_enc xs) xs.length v Ls
theorem C_SortFunc_ownW {c : Cx} {R Ls : List Pt} {xs : List Write} {v : Value} (ho : OwnW xs v Ls) (hsz : xs.length < 4611686018427387904) :
    Fn Tryz.prog 229 #[v, .func (.func 180) #[] #[]] c (Ls ++ R) (fun v' L' => v' = .tuple #[] ∧ ∃ ys Ls', ys.Perm xs ∧ WOrd ys ∧ OwnW ys v Ls' ∧ L' = Ls' ++ R) := by
  rcases ho with ⟨h0, _, rfl, rfl⟩ | ⟨b, cap, sp, rfl, h1, h2, h3, rfl⟩
  · obtain rfl : xs = [] := List.length_eq_zero_iff.1 h0
    intro w hw
    refine Calls.mono (Go.Proofs.AnyF.slices_SortFunc_none (ρ := Go.Proofs.Tryz.sortWrite_ren) Tryz.sortWrite none 0 (.func (.func 180) #[] #[]) w) ?_
    rintro e w' ⟨rfl, rfl⟩
    exact ⟨_, rfl, _, ⟨rfl, [], [], .refl _, .nil, .inl ⟨rfl, rfl, rfl, rfl⟩, rfl⟩, hw⟩
  · refine Fn.mono (Fn.sortK (ρ := Go.Proofs.Tryz.sortWrite_ren) Tryz.sortWrite aE_write zE_write Write_size Write_one wcmp_swo (by kernel_rfl) (fun c x y => C_cmpW) hsz) ?_
    rintro v' L' ⟨rfl, ys, hp, hs, rfl⟩
    have hl := hp.length_eq
    exact ⟨rfl, ys, [_], hp, hs, .inr ⟨b, cap, sp, by rw [hl], by omega, by rw [hl]; exact h2, rows_size Write_size ys, rfl⟩, rfl⟩

set_option maxRecDepth 100000 in
set_option maxHeartbeats 2000000 in
theorem C_Collect_Write {c : Cx} {L : List Pt} {gf : FuncId} {lb : List Value} {N : Nat} {S : List Write → Prop} (hN : N ≤ 1000000000) (hgb : hasBody Tryz.prog gf = true) (hit : IterOk Tryz.prog c wV gf lb N S L) (hSN : ∀ xs, S xs → xs.length ≤ N) : Fn Tryz.prog 228 #[.func (.func gf) #[] lb.toArray] c L (fun v L' => ∃ xs Ls, S xs ∧ OwnW xs v Ls ∧ L' = Ls ++ L) := by
  refine Fn.enter Tryz.func228 rfl 5 rfl rfl (fun R hR => ?_)
  refine Cd.seq (fun K1 hK1 => ?_)
  refine Cd.region [0] rfl ?_
  refine Seq.rd0 at0 rfl rfl (O.assign (v := .slice _ _ _) rfl) ?_
  refine Seq.nil ?_
  refine hK1 ?_
  refine Cd.seq (fun K2 hK2 => ?_)
  refine Cd.region [0, 1, 2] rfl ?_
  refine Seq.rd0 at0 rfl rfl (O.move (v := (.func (.func gf) #[] lb.toArray)) rfl) ?_
  refine Seq.op at1 rfl (Op.callF rfl hb_252 (C_AppendSeq_Write hN hgb hit) rfl ?_)
  rintro v3 _ ⟨xs4, Ls5, hSv3, hov3, rfl⟩
  refine Seq.rd0 at2 rfl rfl (O.assign (v := v3) rfl) ?_
  refine Seq.nil ?_
  refine hK2 ?_
  refine Cd.ret ?_
  exact hR _ _ (Res.one (v := v3) rfl rfl) ⟨xs4, Ls5, hSv3, hov3, rfl⟩ (.refl _)

set_option maxRecDepth 100000 in
set_option maxHeartbeats 2000000 in
theorem C_SortedFunc_Write {c : Cx} {L : List Pt} {gf : FuncId} {lb : List Value} {N : Nat} {S : List Write → Prop} (hN : N ≤ 1000000000) (hgb : hasBody Tryz.prog gf = true) (hit : IterOk Tryz.prog c wV gf lb N S L) (hSN : ∀ xs, S xs → xs.length ≤ N) : Fn Tryz.prog 178 #[.func (.func gf) #[] lb.toArray, .func (.func 180) #[] #[]] c L (fun v L' => ∃ xs ys Ls, S xs ∧ ys.Perm xs ∧ WOrd ys ∧ OwnW ys v Ls ∧ L' = Ls ++ L) := by
  refine Fn.enter Tryz.func178 rfl 12 rfl rfl (fun R hR => ?_)
  refine Cd.seq (fun K1 hK1 => ?_)
  refine Cd.region [0] rfl ?_
  refine Seq.rd0 at0 rfl rfl (O.assign (v := .slice _ _ _) rfl) ?_
  refine Seq.nil ?_
  refine hK1 ?_
  refine Cd.seq (fun K2 hK2 => ?_)
  refine Cd.region [0, 1, 2] rfl ?_
  refine Seq.rd0 at0 rfl rfl (O.move (v := (.func (.func gf) #[] lb.toArray)) rfl) ?_
  refine Seq.op at1 rfl (Op.callF rfl hb_228 (C_Collect_Write hN hgb hit hSN) rfl ?_)
  rintro v3 _ ⟨xs4, Ls5, hSv3, hov3, rfl⟩
  refine Seq.rd0 at2 rfl rfl (O.assign (v := v3) rfl) ?_
  refine Seq.nil ?_
  refine hK2 ?_
  refine Cd.seq (fun K6 hK6 => ?_)
  refine Cd.region [0, 1, 2] rfl ?_
  refine Seq.rd0 at0 rfl rfl (O.move (v := v3) rfl) ?_
  refine Seq.rd0 at1 rfl rfl (O.move (v := .func _ _ _) rfl) ?_
  refine Seq.op at2 rfl (Op.callF rfl hb_229 (C_SortFunc_ownW hov3 (by have := hSN _ hSv3; omega)) rfl ?_)
  rintro _ _ ⟨rfl, ys7, Ls8, hpys7, hsys7, hoys7, rfl⟩
  refine Seq.nil ?_
  refine hK6 ?_
  refine Cd.seq (fun K9 hK9 => ?_)
  refine Cd.region [0, 1] rfl ?_
  refine Seq.rd0 at0 rfl rfl (O.move (v := v3) rfl) ?_
  refine Seq.rd0 at1 rfl rfl (O.assign (v := v3) rfl) ?_
  refine Seq.nil ?_
  refine hK9 ?_
  refine Cd.ret ?_
  exact hR _ _ (Res.one (v := v3) rfl rfl) ⟨_, ys7, Ls8, hSv3, hpys7, hsys7, hoys7, rfl⟩ (.refl _)

set_option maxRecDepth 100000 in
set_option maxHeartbeats 2000000 in
theorem C_solo_Sorted {c : Cx} {L : List Pt} {mb ck : Nat} {es : Array MapEntry} {l : List (Key × Write)} (hm : MapIs keyV wV es ck l) (hmb : Rd c L mb (.map es ck)) (hlen : l.length ≤ 1000000000) : Fn Tryz.prog 107 #[.map (some mb)] c L (fun v L' => ∃ ys Ls, ys.Perm (l.map Prod.snd) ∧ WOrd ys ∧ OwnW ys v Ls ∧ L' = Ls ++ L) := by
  refine Fn.enter Tryz.func107 rfl 6 rfl rfl (fun R hR => ?_)
  refine Cd.seq (fun K1 hK1 => ?_)
  refine Cd.region [0] rfl ?_
  refine Seq.rd0 at0 rfl rfl (O.assign (v := .slice _ _ _) rfl) ?_
  refine Seq.nil ?_
  refine hK1 ?_
  refine Cd.seq (fun K2 hK2 => ?_)
  refine Cd.region [0, 1, 2, 3] rfl ?_
  refine Seq.rd0 at0 rfl rfl (O.move (v := .map _) rfl) ?_
  refine Seq.op at1 rfl (Op.callF rfl hb_179 C_mapsValues rfl ?_)
  rintro _ _ ⟨bb3, hbb3, rfl, rfl⟩
  refine Seq.op at2 rfl (Op.callF rfl hb_178 (C_SortedFunc_Write (gf := 230) (lb := [.pointer (some ⟨bb3, 0, none⟩)]) hlen (by kernel_rfl) (C_valsWrite hm Rd.head hmb.cons) (fun _ h => Nat.le_of_eq (h.length_eq.trans (List.length_map _)))) rfl ?_)
  rintro v4 _ ⟨xs5, ys6, Ls7, hSxs5, hpys6, hoys6, hwys6, rfl⟩
  refine Ent.perm ?_ (bring (Ls := Ls7) (pre := [(bb3, _)]) (R := L)).symm
  refine Seq.rd0 at3 rfl rfl (O.assign (v := v4) rfl) ?_
  refine Seq.nil ?_
  refine hK2 ?_
  refine Cd.ret ?_
  exact hR _ _ (Res.one (v := v4) rfl rfl) ⟨ys6, Ls7, hpys6.trans hSxs5, hoys6, hwys6, rfl⟩ (.cons _ (.refl _))

end Go.X
