/- Part 8 of the proofs over this program: what its functions compute. -/
import Derived.Test.YthifdialndcemaaGreatProg
import Derived.Shelf.SortM.Plain
import Derived.Shelf.SortM.SortNone
import Derived.Test.YthifdialndcemaaGreatS7
set_option linter.unusedVariables false
set_option linter.unusedSimpArgs false

namespace Go.X
open Go.Proofs
theorem hb_204 : hasBody Tryz.prog 204 = true := by kernel_rfl
/-! ## store.Trim -/
def trimS (l : List (Key × CV)) (s : Stamp) : Int := (l.map fun q => (trimN q.2.2 s : Int)).sum
structure TrimR (l : List (Key × CV)) (s : Stamp) (l' : List (Key × CV)) : Prop where
  get : ∀ k, getS l' k = (getS l k).drop (trimN (getS l k) s)
  keys : ∀ k ∈ l'.map Prod.fst, k ∈ l.map Prod.fst
structure TrimI (l : List (Key × CV)) (s : Stamp) (l1 rest : List (Key × CV)) (n : Int) : Prop where
  look : ∀ q ∈ rest, alook l1 q.1 = some q.2
  nd : (rest.map Prod.fst).Nodup
  get : ∀ k, getS l1 k = if k ∈ rest.map Prod.fst then getS l k else (getS l k).drop (trimN (getS l k) s)
  cnt : n + trimS rest s = trimS l s
  keys : ∀ k ∈ l1.map Prod.fst, k ∈ l.map Prod.fst
  size : l1.length ≤ 200
  bnd : 0 ≤ n ∧ n + 50 * rest.length ≤ 10000
theorem perm_sum : ∀ {a b : List Int}, a.Perm b → a.sum = b.sum := by
  intro a b h
  induction h with
  | nil => rfl
  | cons x _ ih => simp [ih]
  | swap x y l => simp only [List.sum_cons]; omega
  | trans _ _ h1 h2 => exact h1.trans h2
theorem alook_of_mem {K V : Type} [DecidableEq K] {l : List (K × V)} (hn : (l.map Prod.fst).Nodup) {q : K × V} (hq : q ∈ l) : alook l q.1 = some q.2 := by
  obtain ⟨j, hj, rfl⟩ := List.getElem_of_mem hq
  exact (alook_at hn (List.getElem?_eq_getElem hj)).1
theorem getS_none {l : List (Key × CV)} {k : Key} (h : k ∉ l.map Prod.fst) : getS l k = [] := by
  unfold getS; rw [(alook_none h).1]
theorem getS_some {l : List (Key × CV)} {k : Key} {q : CV} (h : alook l k = some q) : getS l k = q.2 := by unfold getS; rw [h]
theorem TrimI.init {l : List (Key × CV)} {s : Stamp} (hn : (l.map Prod.fst).Nodup) (h : l.length ≤ 200) : TrimI l s l l 0 where
  look := fun _ hq => alook_of_mem hn hq
  nd := hn
  get := fun k => by
    split
    · rfl
    · rename_i h0; rw [getS_none h0]; simp
  cnt := Int.zero_add _
  keys := fun _ h => h
  size := h
  bnd := ⟨Int.le_refl _, by omega⟩
theorem TrimI.step {l l1 l2 rest rest' : List (Key × CV)} {s : Stamp} {n : Int} {a : Key} {u : CV} (h : TrimI l s l1 rest n) (hpm : rest.Perm ((a, u) :: rest')) (hne : ∀ k, k ≠ a → alook l2 k = alook l1 k) (ha : getS l2 a = u.2.drop (trimN u.2 s))
    (hk : ∀ k ∈ l2.map Prod.fst, k ∈ l1.map Prod.fst) (hl : l2.length ≤ l1.length) (h50 : trimN u.2 s ≤ 50) : TrimI l s l2 rest' (n + (trimN u.2 s : Nat)) := by
  have hnd : a ∉ rest'.map Prod.fst ∧ (rest'.map Prod.fst).Nodup := by
    have := ((hpm.map Prod.fst).nodup_iff).1 h.nd
    simpa using this
  have hau : alook l1 a = some u := h.look (a, u) (hpm.mem_iff.2 (List.mem_cons_self))
  have hga : getS l a = u.2 := by
    have h1 := h.get a
    rw [if_pos ((hpm.map Prod.fst).mem_iff.2 (List.mem_cons_self)), getS_some hau] at h1
    exact h1.symm
  refine ⟨fun q hq => ?_, hnd.2, fun k => ?_, ?_, fun k hk' => h.keys k (hk k hk'), Nat.le_trans hl h.size, ?_⟩
  · have h1 : q.1 ≠ a := fun e => hnd.1 (e ▸ List.mem_map.2 ⟨q, hq, rfl⟩)
    rw [hne _ h1]; exact h.look q (hpm.mem_iff.2 (List.mem_cons_of_mem _ hq))
  · by_cases he : k = a
    · subst he
      rw [if_neg hnd.1, ha, hga]
    · have h1 : getS l2 k = getS l1 k := by unfold getS; rw [hne k he]
      rw [h1, h.get k]
      have h2 : k ∈ rest.map Prod.fst ↔ k ∈ rest'.map Prod.fst := by
        rw [(hpm.map Prod.fst).mem_iff, List.map_cons, List.mem_cons]
        exact ⟨fun h => h.resolve_left he, .inr⟩
      simp only [h2]
  · have h1 : trimS rest s = (trimN u.2 s : Int) + trimS rest' s := by
      unfold trimS
      rw [perm_sum (hpm.map fun q => (trimN q.2.2 s : Int))]
      simp
    have := h.cnt
    omega
  · have h1 := hpm.length_eq
    have := h.bnd
    simp only [List.length_cons] at h1
    omega
theorem aput_keep {K V : Type} [DecidableEq K] {k : K} {q u : V} : ∀ {l : List (K × V)}, alook l k = some q → (aput l k u).map Prod.fst = l.map Prod.fst ∧ (aput l k u).length = l.length ∧
    ∀ {β : Type} (f : V → β), f u = f q → (aput l k u).map (fun r => (r.1, f r.2)) = l.map (fun r => (r.1, f r.2))
  | [], h => by simp [alook] at h
  | (y, v) :: l, h => by
    unfold alook at h
    split at h
    · rename_i he
      obtain rfl := Option.some.inj h
      subst he
      simp only [aput, if_true, List.map_cons, List.length_cons, true_and]
      intro β f hf; rw [hf]
    · rename_i he
      obtain ⟨h1, h2, h3⟩ := aput_keep (u := u) h
      simp only [aput, he, if_false, List.map_cons, List.length_cons, h1, h2, true_and]
      intro β f hf; rw [h3 f hf]
theorem MapIs.upd {K V : Type} [DecidableEq K] {encK : K → Value} {encV : V → Value} {es : Array MapEntry} {ck : Nat} {l : List (K × V)} (h : MapIs encK encV es ck l) {k : K} {q u : V} (hl : alook l k = some q) (hu : encV u = encV q) : MapIs encK encV es ck (aput l k u) := by
  obtain ⟨h1, h2, h3⟩ := aput_keep (u := u) hl
  refine ⟨?_, by rw [h1]; exact h.keys, h.born, h.clock⟩
  have h4 := congrArg (List.map fun r : K × Value => (encK r.1, r.2)) (h3 encV hu)
  simp only [List.map_map, Function.comp_def] at h4
  rw [h.ents]; exact h4.symm
theorem ChOwn.del {k : Key} {q : CV} : ∀ {l : List (Key × CV)} {Cs : List Pt}, ChOwn l Cs → alook l k = some q → ∃ G C1, Cs.Perm (G ++ C1) ∧ ChOwn (adel l k) C1
  | [], _, _, h => by simp [alook] at h
  | (y, u) :: l, Cs, hC, h => by
    obtain ⟨G, C1, rfl, hO, hC1⟩ := hC
    unfold alook at h
    split at h
    · rename_i he
      refine ⟨G, C1, .refl _, ?_⟩
      simp only [adel, he, if_true]; exact hC1
    · rename_i he
      obtain ⟨G2, C2, hp, hd⟩ := ChOwn.del hC1 h
      refine ⟨G2, G ++ C2, (hp.append_left G).trans (List.perm_append_comm_assoc _ _ _), ?_⟩
      simp only [adel, he, if_false]
      exact ⟨G, C2, rfl, hO, hd⟩
theorem C_trimIn {c : Cx} {X Cs R : List Pt} {l : List (Key × CV)} {k : Key} {q : CV} {s : Stamp} (hC : ChOwn l Cs) (hl : alook l k = some q) : Fn Tryz.prog 204 #[.pointer (some ⟨q.1, 0, none⟩), .agg (Stamp_enc s)] c (X ++ (Cs ++ R))
    (fun v L' => v = .int .i64 (trimN q.2 s : Nat) ∧ ∃ Cs', ChOwn (aput l k (q.1, q.2.drop (trimN q.2 s))) Cs' ∧ L' = X ++ (Cs' ++ R)) := by
  obtain ⟨G, C1, hp, hO, hb⟩ := hC.take hl
  refine Fn.perm (L2 := G ++ (X ++ (C1 ++ R))) ?_ (perm3 hp.symm).symm
  refine Fn.post (C_chain_Trim (s := s) hO) fun v L' ⟨hv, G', hG', hL⟩ => ?_
  obtain ⟨Cs', h1, h2⟩ := hb _ _ hG'
  exact ⟨_, ⟨hv, Cs', h1, rfl⟩, by rw [hL]; exact perm3 h2⟩

set_option maxRecDepth 100000 in
set_option maxHeartbeats 2000000 in
theorem C_store_Trim_own {c : Cx} {L : List Pt} {sb mb ck : Nat} {es : Array MapEntry} {Cs : List Pt} {l : List (Key × CV)} {s : Stamp} (hm : MapIs keyV cvV es ck l) (hC : ChOwn l Cs) (hsz : l.length ≤ 200) : Fn Tryz.prog 139 #[.pointer (some ⟨sb, 0, none⟩), .agg (Stamp_enc s)] c ((sb, .cells #[.map (some mb)] 245 (0, 0)) :: (mb, .map es ck) :: (Cs ++ L)) (fun v L' => v = .int .i64 (trimS l s) ∧ ∃ l' Ls', StOwn sb l' Ls' ∧ TrimR l s l' ∧ L' = Ls' ++ L) := by
  refine Fn.enter Tryz.func139 rfl 32 rfl rfl (fun R hR => ?_)
  refine Cd.seq (fun K1 hK1 => ?_)
  refine Cd.region [0, 1] rfl ?_
  refine Seq.op at0 rfl (Op.new rfl (O.box (v := .agg _) rfl (cs := (Stamp_enc s)) rfl) ?_)
  intro b2 hb2
  refine Seq.rd0 at1 rfl rfl (O.assign (v := .int .i64 _) rfl) ?_
  refine Seq.nil ?_
  refine hK1 ?_
  refine Cd.seq (fun K3 hK3 => ?_)
  refine Cd.region [0] rfl ?_
  refine Seq.rd0 at0 rfl rfl (O.assign (v := .int .i64 _) rfl) ?_
  refine Seq.nil ?_
  refine hK3 ?_
  refine Cd.seq (fun K4 hK4 => ?_)
  refine Cd.seq (fun K5 hK5 => ?_)
  refine Cd.region [0, 1, 2, 3, 4] rfl ?_
  refine Seq.rd0 at0 rfl rfl (O.move (v := .pointer _) rfl) ?_
  refine Seq.rd0 at1 rfl rfl (O.nilP rfl) ?_
  refine Seq.rd0 at2 rfl rfl (O.field fo_245_0 rfl) ?_
  refine Seq.rd1 at3 rfl rfl (O.load kd_243 rfl r1_0) Rd.head.cons ?_
  refine Seq.op at4 rfl (Op.gen rfl (O.range mp_243 hm rfl (Rd.head.cons.cons)) ?_)
  rintro _ _ ⟨r, it, hr0, rfl, hi, rfl⟩
  refine Seq.nil ?_
  refine hK5 ?_
  refine Cd.block ?_
  refine Cd.loop (fun m6 e7 L8 => ∃ rest : List (Key × CV), ∃ it : Obj, ∃ es1 : Array MapEntry, ∃ l1 : List (Key × CV), ∃ Cs1 : List Pt, ∃ n : Int, m6 = rest.length ∧ e7 0 = .pointer (some ⟨sb, 0, none⟩) ∧ e7 3 = .pointer (some ⟨b2, 0, none⟩) ∧ e7 4 = .int .i64 0 ∧ e7 5 = .int .i64 n ∧ e7 12 = .pointer (some ⟨r, 0, none⟩) ∧ L8 = (r, it) :: (b2, .cells (Stamp_enc s) 24 (0, 0)) :: (sb, .cells #[.map (some mb)] 245 (0, 0)) :: (mb, .map es1 ck) :: (Cs1 ++ (L)) ∧ ItIs keyV cvV es1 ck mb rest it ∧ MapIs keyV cvV es1 ck l1 ∧ ChOwn l1 Cs1 ∧ TrimI l s l1 rest n) _ ⟨l, it, es, l, Cs, 0, rfl, rfl, rfl, rfl, rfl, rfl, rfl, hi, hm, hC, TrimI.init hm.keys hsz⟩ ?_
  rintro _ e7 _ ⟨rest, it, es1, l1, Cs1, n, rfl, s9, s10, s11, s12, s13, rfl, hi, hm1, hC1, hT⟩ K14 hK14
  refine Cd.seq (fun K15 hK15 => ?_)
  refine Cd.region [0, 1] rfl ?_
  refine Seq.op at0 rfl (Op.gen rfl (O.next2 kk_key hm1 hi (by exact s13) Rd.head.cons.cons.cons) ?_)
  rintro _ _ (⟨rfl, rfl, rfl⟩ | ⟨a, u, rest', it', hpm, rfl, hi', hdl, hent, rfl⟩)
  · skip
    refine Seq.rd0 at1 rfl rfl (O.ext rfl r1_0) ?_
    refine Seq.nil ?_
    refine hK15 ?_
    refine Cd.seq (fun K16 hK16 => ?_)
    refine Cd.condF rfl ?_
    refine Cd.exit ?_
    refine hK4 ?_
    refine Cd.seq (fun K17 hK17 => ?_)
    refine Cd.region [0, 1] rfl ?_
    refine Seq.rd0 at0 rfl rfl (O.move (v := .int .i64 _) (by exact s12)) ?_
    refine Seq.rd0 at1 rfl rfl (O.assign (v := .int .i64 _) rfl) ?_
    refine Seq.nil ?_
    refine hK17 ?_
    refine Cd.ret ?_
    have hst : StOwn sb l1 ((sb, .cells #[.map (some mb)] 245 (0, 0)) :: (mb, .map es1 ck) :: Cs1) := ⟨⟨mb, es1, ck, Cs1, rfl, hm1, hC1⟩, hT.size⟩
    have hcn := hT.cnt
    exact hR _ _ (Res.one (v := .int .i64 _) rfl rfl) ⟨by rw [← hcn]; congr 1; unfold trimS; simp, l1, _, hst, ⟨fun k => by rw [hT.get k]; rfl, hT.keys⟩, rfl⟩ (.cons _ (.cons _ (.refl _)))
  · skip
    refine Seq.rd0 at1 rfl rfl (O.ext rfl r3_0) ?_
    refine Seq.nil ?_
    refine hK15 ?_
    refine Cd.seq (fun K18 hK18 => ?_)
    refine Cd.condT rfl ?_
    refine Cd.skip ?_
    refine hK18 ?_
    refine Cd.block ?_
    refine Cd.seq (fun K19 hK19 => ?_)
    refine Cd.region [0, 1, 2, 3, 4, 5] rfl ?_
    refine Seq.op at0 rfl (Op.gen rfl (hent _ _ (by exact s13) Rd.head Rd.head.cons.cons.cons) ?_)
    rintro _ _ ⟨rfl, rfl⟩
    have hau : alook l1 a = some u := hT.look (a, u) (hpm.mem_iff.2 (List.mem_cons_self))
    have hch := hC1.ch (c := c) (R := L) hau
    have h50 := trimN_le (s := s) hch.2.1
    have h51 := hch.2.2
    have hnb := hT.bnd
    have hpl := hpm.length_eq
    simp only [List.length_cons] at hpl
    refine Seq.rd0 at1 rfl rfl (O.ext rfl r2_0) ?_
    refine Seq.rd0 at2 rfl rfl (O.ext rfl r2_1) ?_
    refine Seq.op at3 rfl (Op.new rfl (O.alloc zo_45 (cs := (Key_enc Key.zero)) rfl) ?_)
    intro b20 hb20
    refine Seq.op at4 rfl (Op.set0 rfl (O.store kd_45 rfl (v := .agg _) rfl (Key_size _) (Key_room (Key_size _)) (Key_one _) (Key_put _ (Key_size _))) ?_)
    refine Seq.rd0 at5 rfl rfl (O.assign (v := .pointer _) rfl) ?_
    refine Seq.nil ?_
    refine hK19 ?_
    refine Cd.seq (fun K21 hK21 => ?_)
    refine Cd.region [0, 1, 2, 3, 4, 5] rfl ?_
    refine Seq.rd0 at0 rfl rfl (O.move (v := .int .i64 _) (by exact s12)) ?_
    refine Seq.rd0 at1 rfl rfl (O.move (v := .pointer _) rfl) ?_
    refine Seq.rd1 at2 rfl rfl (O.loadA kd_24 (by exact s10) (Nat.le_of_ble_eq_true rfl) (Stamp_all _)) Rd.head.cons.cons ?_
    refine Seq.op at3 rfl (Op.callF rfl hb_204 (C_trimIn (X := [(b20, _), (r, _), (b2, _), (sb, _), (mb, _)]) (R := L) (s := s) hC1 hau) rfl ?_)
    rintro _ _ ⟨rfl, Cs2, hC2, rfl⟩
    have hm2 : MapIs keyV cvV es1 ck (aput l1 a (u.1, u.2.drop (trimN u.2 s))) := hm1.upd hau rfl
    have hak : alook (aput l1 a (u.1, u.2.drop (trimN u.2 s))) a = some (u.1, u.2.drop (trimN u.2 s)) := alook_put_same _ _ _
    refine Seq.rd0 at4 rfl rfl (O.add rfl rfl (by omega) (by omega)) ?_
    refine Seq.rd0 at5 rfl rfl (O.assign (v := .int .i64 _) rfl) ?_
    refine Seq.nil ?_
    refine hK21 ?_
    refine Cd.seq (fun K22 hK22 => ?_)
    refine Cd.region [0, 1, 2] rfl ?_
    refine Seq.rd0 at0 rfl rfl (O.move (v := .pointer _) rfl) ?_
    have hdd : (u.2.drop (trimN u.2 s)).length < 4611686018427387904 := by rw [List.length_drop]; omega
    refine Seq.op at1 rfl (Op.callF rfl hb_205 (C_chain_Len hdd ((hC2.ch (R := L) hak).1.cons.cons.cons.cons.cons)) rfl ?_)
    rintro _ _ ⟨rfl, rfl⟩
    refine Seq.rd0 at2 rfl rfl (O.eqI rfl rfl) ?_
    refine Seq.nil ?_
    refine hK22 ?_
    refine Cd.if (((u.2.drop (trimN u.2 s)).length : Int) = 0) rfl (fun t23 => ?_) (fun t23 => ?_)
    · skip
      refine Cd.draw 6 rfl po ?_
      refine Any.rd0 0 at0 rfl rfl (O.move (v := .pointer _) (by exact s9)) (by kernel_rfl) (by kernel_rfl) (by kernel_rfl) ?_
      refine Any.rd0 1 at1 rfl rfl (O.nilP rfl) (by kernel_rfl) (by kernel_rfl) (by kernel_rfl) ?_
      refine Any.rd0 2 at2 rfl rfl (O.field fo_245_0 rfl) (by kernel_rfl) (by kernel_rfl) (by kernel_rfl) ?_
      refine Any.rd1 3 at3 rfl rfl (O.load kd_243 rfl r1_0) Rd.head.cons.cons.cons (by kernel_rfl) (by kernel_rfl) (by kernel_rfl) ?_
      refine Any.rd1 4 at4 rfl rfl (O.loadA kd_45 rfl (Nat.le_of_ble_eq_true rfl) (Key_all _)) Rd.head (by kernel_rfl) (by kernel_rfl) (by kernel_rfl) ?_
      refine Any.one 5 at5 rfl (by kernel_rfl) ⟨⟨trivial, Rd.head.cons.cons.cons⟩, Rd.head⟩ ?_
      refine Op.gen rfl (O.mapDel2 (encV := cvV) (a := a) mp_243 kk_key hm2 (List.mem_map.2 ⟨_, alook_mem hak, rfl⟩) rfl (by exact rfl) (A := [(b20, _), (r, _), (b2, _), (sb, _)]) rfl) ?_
      rintro _ _ ⟨rfl, es3, hm3, hda, rfl⟩
      obtain ⟨G3, Cs3, hp3, hC3⟩ := hC2.del hak
      refine Ent.perm ?_ (perm3 (X := [(b20, _), (r, _), (b2, _), (sb, _), (mb, _)]) (R := L) hp3.symm).symm
      refine Ent.sub ?_ (sub_app (G := G3) (.refl _))
      refine Any.toK ?_
      refine Any.done (by kernel_rfl) ⟨⟨trivial, Rd.head.cons.cons.cons⟩, Rd.head⟩ ?_
      refine Ent.drop ?_
      have hka := aput_keep (u := (u.1, u.2.drop (trimN u.2 s))) hau
      have hd0 : u.2.drop (trimN u.2 s) = [] := List.eq_nil_of_length_eq_zero (by omega)
      have hnn := hm2.keys
      exact hK14 _ (step_dec hpm) ⟨rest', it', es3, (adel (aput l1 a (u.1, u.2.drop (trimN u.2 s))) a), Cs3, (n + (trimN u.2 s : Int)), rfl, (by exact s9), (by exact s10), (by exact s11), rfl, (by exact s13), rfl, hdl _ hda, hm3, hC3, hT.step hpm (fun k hk => (alook_del_ne hk _).trans (alook_put_ne _ hk _)) (by unfold getS; rw [alook_del_same hnn]; exact hd0.symm) (fun k hk => by rw [← hka.1]; exact ((adel_keys hnn k).1 hk).2) (by rw [← hka.2.1]; exact (adel_sub _ _).length_le) (by omega)⟩
    · skip
      refine Cd.skip ?_
      refine Ent.drop ?_
      have hka := aput_keep (u := (u.1, u.2.drop (trimN u.2 s))) hau
      exact hK14 _ (step_dec hpm) ⟨rest', it', es1, (aput l1 a (u.1, u.2.drop (trimN u.2 s))), Cs2, (n + (trimN u.2 s : Int)), rfl, (by exact s9), (by exact s10), (by exact s11), rfl, (by exact s13), rfl, hi', hm2, hC2, hT.step hpm (fun k hk => alook_put_ne _ hk _) (getS_some hak) (fun k hk => by rw [← hka.1]; exact hk) (Nat.le_of_eq hka.2.1) (by omega)⟩

theorem C_store_Trim {c : Cx} {R Ls : List Pt} {sb : Nat} {l : List (Key × CV)} {s : Stamp} (hS : StOwn sb l Ls) :
    Fn Tryz.prog 139 #[.pointer (some ⟨sb, 0, none⟩), .agg (Stamp_enc s)] c (Ls ++ R) (fun v L' => v = .int .i64 (trimS l s) ∧ ∃ l' Ls', StOwn sb l' Ls' ∧ TrimR l s l' ∧ L' = Ls' ++ R) := by
  obtain ⟨⟨mb, es, ck, Cs, rfl, h1, h2⟩, h3⟩ := hS
  exact C_store_Trim_own (L := R) h1 h2 h3

end Go.X

/- The engine, part 18: slices.Sort of int64. -/
namespace Go.X
open Go.Sort Go.Proofs Go.Shelf Go.RowKit
section
variable {P : Program} {c : Cx} {L : List Pt} {ρ : Ren}
theorem rows_int : ∀ xs : List Int, rows intE xs = (xs.map (Value.int .i64)).toArray
  | [] => rfl
  | x :: xs => by
    have h := rows_append (enc := intE) (l := [x]) (m := xs)
    rw [List.singleton_append] at h
    rw [h, rows_one, rows_int xs]
    simp [intE]
theorem putCells_map {α : Type} [Inhabited α] (f : α → Value) (d : Array α) : putCells f 0 d = putCells id 0 (d.map f) := by
  funext c
  unfold putCells
  apply Array.ext_getElem?
  intro i
  simp only [Array.getElem?_mapIdx, Array.size_map, Nat.zero_le, true_and, Nat.zero_add, Nat.sub_zero, id]
  congr 1
  funext x
  split
  · rename_i h
    rw [getElem!_pos d i h, getElem!_pos (d.map f) i (by simpa using h), Array.getElem_map]
  · rfl
theorem Fn.sortInt (Ly : SlLaysM.n5 P ρ) {b cap : Nat} {xs : List Int} {sp : Array Value} {el : TypeId} {R : List Pt} (hsz : xs.length < 4611686018427387904) :
    Fn P (ρ.f 5) #[.slice (some ⟨b, 0, none⟩) xs.length cap] c ((b, .cells (rows intE xs ++ sp) el (0, 0)) :: R)
      (fun v L' => v = .tuple #[] ∧ L' = (b, .cells (rows intE (xs.mergeSort fun x y => decide (x ≤ y)) ++ sp) el (0, 0)) :: R) := by
  intro w hw
  have hb := hw.look _ (List.mem_cons_self)
  have hH : Holds (Value.int .i64) w b 0 xs.toArray := by
    intro j hj
    simp only [List.size_toArray] at hj
    simp only [Nat.zero_add]
    have hz : (rows intE xs).size = xs.length := by rw [rows_int]; simp
    refine ⟨?_, by simp [World.frozen?, hb]⟩
    rw [cell_get hb, Array.getElem?_append_left (by omega), rows_int, getElem!_pos _ j (by simpa using hj)]
    simp [hj]
  refine Calls.mono (AnyM.slices_Sort_int Ly b 0 cap xs w hH (lt_of_get hb) hsz) ?_
  rintro e w' ⟨rfl, n, os, rfl⟩
  refine ⟨_, rfl, _, ⟨rfl, rfl⟩, ?_⟩
  have h1 : St c ((b, .cells (rows intE xs ++ sp) el (0, 0)) :: R) (Sort.ahead w n) := hw.drew _ (Nat.le_add_right _ _)
  have h2 := h1.look _ (List.mem_cons_self)
  unfold putRow
  rw [putCells_map]
  have h3 : (xs.mergeSort fun x y => decide (x ≤ y)).toArray.map (Value.int .i64) = rows intE (xs.mergeSort fun x y => decide (x ≤ y)) := by rw [rows_int]; simp
  rw [h3, mapBlock_blk (F0 := rows intE xs) (sp := sp) h2 (by rw [rows_int, rows_int]; simp)]
  exact St.grow (St.set (A := []) h1) os
theorem Fn.sortIntOwn (Ly : SlLaysM.n5 P ρ) {xs : List Int} {v : Value} {Ls R : List Pt} {el : Nat} (ho : OwnSl el 1 (rows intE xs) xs.length v Ls) (hsz : xs.length < 4611686018427387904) :
    Fn P (ρ.f 5) #[v] c (Ls ++ R) (fun v' L' => v' = .tuple #[] ∧ ∃ Ls', OwnSl el 1 (rows intE (xs.mergeSort fun x y => decide (x ≤ y))) xs.length v Ls' ∧ L' = Ls' ++ R) := by
  rcases ho with ⟨h0, h9, rfl, rfl⟩ | ⟨b, cap, sp, rfl, h1, h2, h3, rfl⟩
  · obtain rfl : xs = [] := List.length_eq_zero_iff.1 h0
    intro w hw
    refine Calls.mono (AnyM.slices_Sort_int_none Ly none 0 w) ?_
    rintro e w' ⟨rfl, rfl⟩
    exact ⟨_, rfl, _, ⟨rfl, [], .inl ⟨rfl, by simpa using h9, rfl, rfl⟩, rfl⟩, hw⟩
  · refine Fn.mono (Fn.sortInt Ly hsz) ?_
    rintro v' L' ⟨rfl, rfl⟩
    exact ⟨rfl, [_], .inr ⟨b, cap, sp, rfl, h1, h2, by rw [rows_int]; simp, rfl⟩, rfl⟩
end
end Go.X

namespace Go.X
open Go.Proofs
theorem hb_114 : hasBody Tryz.prog 114 = true := by kernel_rfl
theorem hb_139 : hasBody Tryz.prog 139 = true := by kernel_rfl
theorem hb_140 : hasBody Tryz.prog 140 = true := by kernel_rfl
theorem hb_189 : hasBody Tryz.prog 189 = true := by kernel_rfl
theorem hb_190 : hasBody Tryz.prog 190 = true := by kernel_rfl
theorem hb_233 : hasBody Tryz.prog 233 = true := by kernel_rfl
set_option maxRecDepth 100000 in
set_option maxHeartbeats 2000000 in
theorem C_keysTx_fn {c : Cx} {L : List Pt} {V : Type} {encV : V → Value} {Rt Lo : List Pt} {bb bm l ck : Nat} {es : Array MapEntry} {lst : List (Int × V)} {I : List Int → List Pt → Prop} (hm : MapIs (fun x : Int => (.int .i64 x)) encV es ck lst) (hb : Rd c Rt bb (.cells #[.map (some bm)] 201 (0, 0))) (hr : Rd c Rt bm (.map es ck)) (hY : ∀ pre x Lo R', pre.length < lst.length → I pre Lo → YStep Tryz.prog c l ((fun x : Int => (.int .i64 x)) x) (Lo ++ R') (fun L' => ∃ Lo', I (pre ++ [x]) Lo' ∧ L' = Lo' ++ R')) (h0 : I [] Lo) : Fn Tryz.prog 206 #[.func (.yield l) #[] #[], .pointer (some ⟨bb, 0, none⟩)] c (Lo ++ Rt) (fun v L' => ∃ xs Lo', xs.Perm (lst.map Prod.fst) ∧ I xs Lo' ∧ L' = Lo' ++ Rt) := by
  refine Fn.enter Tryz.func206 rfl 14 rfl rfl (fun R hR => ?_)
  refine Cd.seq (fun K1 hK1 => ?_)
  refine Cd.region [0, 1] rfl ?_
  refine Seq.rd1 at0 rfl rfl (O.load kd_201 rfl r1_0) (hb.sub (List.sublist_append_right _ _)) ?_
  refine Seq.op at1 rfl (Op.gen rfl (O.range mp_201 hm rfl (hr.sub (List.sublist_append_right _ _))) ?_)
  rintro _ _ ⟨r, it, hr0, rfl, hi, rfl⟩
  refine Seq.nil ?_
  refine hK1 ?_
  refine Cd.block ?_
  refine Cd.loop (fun m2 e3 L4 => ∃ pre : List Int, ∃ rest : List (Int × V), ∃ Lo1 : List Pt, ∃ it : Obj, m2 = rest.length ∧ e3 0 = .func (.yield l) #[] #[] ∧ e3 5 = .pointer (some ⟨r, 0, none⟩) ∧ L4 = (r, it) :: (Lo1 ++ Rt) ∧ I pre Lo1 ∧ ItIs (fun x : Int => (.int .i64 x)) encV es ck bm rest it ∧ (pre ++ rest.map Prod.fst).Perm (lst.map Prod.fst)) _ ⟨[], lst, Lo, it, rfl, rfl, rfl, rfl, h0, hi, .refl _⟩ ?_
  rintro _ e3 _ ⟨pre, rest, Lo1, it, rfl, s5, s6, rfl, hI, hi, hp⟩ K7 hK7
  refine Cd.seq (fun K8 hK8 => ?_)
  refine Cd.region [0, 1] rfl ?_
  refine Seq.op at0 rfl (Op.gen rfl (O.next hm hi (by exact s6) (Rd.cons (hr.sub (List.sublist_append_right _ _)))) ?_)
  rintro _ _ (⟨rfl, rfl, rfl⟩ | ⟨a, u, rest', it', hpm, rfl, hi', hent, rfl⟩)
  · skip
    refine Seq.rd0 at1 rfl rfl (O.ext rfl r1_0) ?_
    refine Seq.nil ?_
    refine hK8 ?_
    refine Cd.seq (fun K9 hK9 => ?_)
    refine Cd.condF rfl ?_
    refine Cd.exit ?_
    exact hR _ _ (Res.zero rfl) ⟨pre, Lo1, by simpa using hp, hI, rfl⟩ (.cons _ (.refl _))
  · skip
    refine Seq.rd0 at1 rfl rfl (O.ext rfl r3_0) ?_
    refine Seq.nil ?_
    refine hK8 ?_
    refine Cd.seq (fun K10 hK10 => ?_)
    refine Cd.condT rfl ?_
    refine Cd.skip ?_
    refine hK10 ?_
    refine Cd.block ?_
    refine Cd.seq (fun K11 hK11 => ?_)
    refine Cd.region [0, 1, 2] rfl ?_
    refine Seq.op at0 rfl (Op.gen rfl (hent _ _ (by exact s6) Rd.head (Rd.cons (hr.sub (List.sublist_append_right _ _)))) ?_)
    rintro _ _ ⟨rfl, rfl⟩
    refine Seq.rd0 at1 rfl rfl (O.ext rfl r2_0) ?_
    refine Seq.rd0 at2 rfl rfl (O.assign (v := .int .i64 _) rfl) ?_
    refine Seq.nil ?_
    refine hK11 ?_
    refine Cd.seq (fun K12 hK12 => ?_)
    refine Cd.region [0, 1, 2, 3] rfl ?_
    refine Seq.rd0 at0 rfl rfl (O.move (v := (.func (.yield l) #[] #[])) (by exact s5)) ?_
    refine Seq.rd0 at1 rfl rfl (O.move (v := .int .i64 _) rfl) ?_
    refine Seq.opY at2 rfl (Ent.perm (Op.yield rfl rfl rfl (hY pre a Lo1 _ (step_lt hp hpm) hI) ?_) (bring (Ls := Lo1) (pre := [(r, _)]) (R := Rt)))
    rintro _ ⟨Lo2, hI2, rfl⟩
    refine Ent.perm ?_ (bring (Ls := Lo2) (pre := [(r, _)]) (R := Rt)).symm
    refine Seq.rd0 at3 rfl rfl (O.not rfl) ?_
    refine Seq.nil ?_
    refine hK12 ?_
    refine Cd.condF rfl ?_
    refine Cd.skip ?_
    exact hK7 _ (step_dec hpm) ⟨pre ++ [a], rest', Lo2, it', rfl, (by exact s5), (by exact s6), rfl, hI2, hi', perm_step hp hpm⟩

theorem C_keysTx {c : Cx} {V : Type} {encV : V → Value} {Rt : List Pt} {bb bm ck : Nat} {es : Array MapEntry} {lst : List (Int × V)} (hm : MapIs (fun x : Int => (.int .i64 x)) encV es ck lst) (hb : Rd c Rt bb (.cells #[.map (some bm)] 201 (0, 0))) (hr : Rd c Rt bm (.map es ck)) :
    IterOk Tryz.prog c (fun x : Int => (.int .i64 x)) 206 [.pointer (some ⟨bb, 0, none⟩)] lst.length (fun xs => xs.Perm (lst.map Prod.fst)) Rt := fun _ _ _ hY h0 => C_keysTx_fn (L := Rt) hm hb hr hY h0

set_option maxRecDepth 100000 in
set_option maxHeartbeats 2000000 in
theorem C_mapsKeys_tx {c : Cx} {L : List Pt} {mb : Nat} : Fn Tryz.prog 140 #[.map (some mb)] c L (fun v L' => ∃ bb, c.w0.heap.size ≤ bb ∧ v = .func (.func 206) #[] #[.pointer (some ⟨bb, 0, none⟩)] ∧ L' = (bb, .cells #[.map (some mb)] 201 (0, 0)) :: L) := by
  refine Fn.enter Tryz.func140 rfl 4 rfl rfl (fun R hR => ?_)
  refine Cd.seq (fun K1 hK1 => ?_)
  refine Cd.region [0, 1] rfl ?_
  refine Seq.op at0 rfl (Op.new rfl (O.box (v := .map _) rfl rfl) ?_)
  intro b2 hb2
  refine Seq.rd0 at1 rfl rfl (O.assign (v := .nilFunc) rfl) ?_
  refine Seq.nil ?_
  refine hK1 ?_
  refine Cd.seq (fun K3 hK3 => ?_)
  refine Cd.region [0, 1] rfl ?_
  refine Seq.rd0 at0 rfl rfl (O.mkFunc (fs' := #[]) (cs' := #[.pointer (some ⟨b2, 0, none⟩)]) (by kernel_rfl) (by kernel_rfl)) ?_
  refine Seq.rd0 at1 rfl rfl (O.assign (v := .func _ _ _) rfl) ?_
  refine Seq.nil ?_
  refine hK3 ?_
  refine Cd.ret ?_
  exact hR _ _ (Res.one (v := .func _ _ _) rfl rfl) ⟨b2, hb2, rfl, rfl⟩ (.refl _)

theorem MapIs.int {V : Type} {encV : V → Value} {es : Array MapEntry} {ck : Nat} {l : List (I64 × V)} (h : MapIs i64V encV es ck l) : MapIs (fun x : Int => .int .i64 x) encV es ck (l.map fun q => (q.1.1, q.2)) := by
  refine ⟨?_, ?_, h.born, h.clock⟩
  · rw [h.ents, List.map_map]; rfl
  · have h1 := h.keys
    have h2 : (l.map fun q => (q.1.1, q.2)).map Prod.fst = (l.map Prod.fst).map Subtype.val := by simp [Function.comp_def]
    rw [h2]
    exact List.Pairwise.map _ (fun a b hne e => hne (Subtype.ext e)) h1
def OwnI (xs : List Int) (v : Value) (Ls : List Pt) : Prop := OwnSl 2 1 (rows intE xs) xs.length v Ls
theorem C_Sort_ownI {c : Cx} {R Ls : List Pt} {xs : List Int} {v : Value} (ho : OwnI xs v Ls) (hsz : xs.length < 4611686018427387904) :
    Fn Tryz.prog 190 #[v] c (Ls ++ R) (fun v' L' => v' = .tuple #[] ∧ ∃ ys Ls', ys.Perm xs ∧ ys.Pairwise (· ≤ ·) ∧ OwnI ys v Ls' ∧ L' = Ls' ++ R) := by
  refine Fn.mono (Fn.sortIntOwn (ρ := Go.Proofs.Tryz.sortI64_ren) Tryz.sortI64 ho hsz) ?_
  rintro v' L' ⟨rfl, Ls', h1, rfl⟩
  refine ⟨rfl, _, Ls', List.mergeSort_perm xs (fun x y => decide (x ≤ y)), ?_, by unfold OwnI; rw [List.length_mergeSort]; exact h1, rfl⟩
  have h2 := List.pairwise_mergeSort (le := fun x y : Int => decide (x ≤ y)) (fun a b c => by simp; omega) (fun a b => by simp; omega) xs
  exact h2.imp (fun h => by simpa using h)

set_option maxRecDepth 100000 in
set_option maxHeartbeats 2000000 in
theorem C_Collect_int64 {c : Cx} {L : List Pt} {gf : FuncId} {lb : List Value} {N : Nat} {S : List Int → Prop} (hN : N ≤ 1000000000) (hgb : hasBody Tryz.prog gf = true) (hit : IterOk Tryz.prog c (fun x : Int => .int .i64 x) gf lb N S L) (hSN : ∀ xs, S xs → xs.length ≤ N) : Fn Tryz.prog 189 #[.func (.func gf) #[] lb.toArray] c L (fun v L' => ∃ xs Ls, S xs ∧ OwnI xs v Ls ∧ L' = Ls ++ L) := by
  refine Fn.enter Tryz.func189 rfl 5 rfl rfl (fun R hR => ?_)
  refine Cd.seq (fun K1 hK1 => ?_)
  refine Cd.region [0] rfl ?_
  refine Seq.rd0 at0 rfl rfl (O.assign (v := .slice _ _ _) rfl) ?_
  refine Seq.nil ?_
  refine hK1 ?_
  refine Cd.seq (fun K2 hK2 => ?_)
  refine Cd.region [0, 1, 2] rfl ?_
  refine Seq.rd0 at0 rfl rfl (O.move (v := (.func (.func gf) #[] lb.toArray)) rfl) ?_
  refine Seq.op at1 rfl (Op.callF rfl hb_233 (C_AppendSeq_int64 hN hgb hit) rfl ?_)
  rintro v3 _ ⟨xs4, Ls5, hSv3, hov3, rfl⟩
  refine Seq.rd0 at2 rfl rfl (O.assign (v := v3) rfl) ?_
  refine Seq.nil ?_
  refine hK2 ?_
  refine Cd.ret ?_
  exact hR _ _ (Res.one (v := v3) rfl rfl) ⟨xs4, Ls5, hSv3, hov3, rfl⟩ (.refl _)

set_option maxRecDepth 100000 in
set_option maxHeartbeats 2000000 in
theorem C_Sorted_int64 {c : Cx} {L : List Pt} {gf : FuncId} {lb : List Value} {N : Nat} {S : List Int → Prop} (hN : N ≤ 1000000000) (hgb : hasBody Tryz.prog gf = true) (hit : IterOk Tryz.prog c (fun x : Int => .int .i64 x) gf lb N S L) (hSN : ∀ xs, S xs → xs.length ≤ N) : Fn Tryz.prog 114 #[.func (.func gf) #[] lb.toArray] c L (fun v L' => ∃ xs ys Ls, S xs ∧ ys.Perm xs ∧ ys.Pairwise (· ≤ ·) ∧ OwnI ys v Ls ∧ L' = Ls ++ L) := by
  refine Fn.enter Tryz.func114 rfl 9 rfl rfl (fun R hR => ?_)
  refine Cd.seq (fun K1 hK1 => ?_)
  refine Cd.region [0] rfl ?_
  refine Seq.rd0 at0 rfl rfl (O.assign (v := .slice _ _ _) rfl) ?_
  refine Seq.nil ?_
  refine hK1 ?_
  refine Cd.seq (fun K2 hK2 => ?_)
  refine Cd.region [0, 1, 2] rfl ?_
  refine Seq.rd0 at0 rfl rfl (O.move (v := (.func (.func gf) #[] lb.toArray)) rfl) ?_
  refine Seq.op at1 rfl (Op.callF rfl hb_189 (C_Collect_int64 hN hgb hit hSN) rfl ?_)
  rintro v3 _ ⟨xs4, Ls5, hSv3, hov3, rfl⟩
  refine Seq.rd0 at2 rfl rfl (O.assign (v := v3) rfl) ?_
  refine Seq.nil ?_
  refine hK2 ?_
  refine Cd.seq (fun K6 hK6 => ?_)
  refine Cd.region [0, 1] rfl ?_
  refine Seq.rd0 at0 rfl rfl (O.move (v := v3) rfl) ?_
  refine Seq.op at1 rfl (Op.callF rfl hb_190 (C_Sort_ownI hov3 (by have := hSN _ hSv3; omega)) rfl ?_)
  rintro _ _ ⟨rfl, ys7, Ls8, hpys7, hsys7, hoys7, rfl⟩
  refine Seq.nil ?_
  refine hK6 ?_
  refine Cd.seq (fun K9 hK9 => ?_)
  refine Cd.region [0, 1] rfl ?_
  refine Seq.rd0 at0 rfl rfl (O.move (v := v3) rfl) ?_
  refine Seq.rd0 at1 rfl rfl (O.assign (v := v3) rfl) ?_
  refine Seq.nil ?_
  refine hK9 ?_
  refine Cd.ret ?_
  exact hR _ _ (Res.one (v := v3) rfl rfl) ⟨_, ys7, Ls8, hSv3, hpys7, hsys7, hoys7, rfl⟩ (.refl _)

set_option maxRecDepth 100000 in
set_option maxHeartbeats 2000000 in
theorem C_solo_Open {c : Cx} {L : List Pt} {p sb lm ck : Nat} {es : Array MapEntry} {xl : List (I64 × TX)} {bg la : Int} (hp : Rd c L p (.cells #[.pointer (some ⟨sb, 0, none⟩), .map (some lm), .int .i64 bg, .int .i64 la] 203 (0, 0))) (hlm : Rd c L lm (.map es ck)) (hMx : MapIs i64V txV es ck xl) (hlen : xl.length ≤ 1000000000) : Fn Tryz.prog 62 #[.pointer (some ⟨p, 0, none⟩)] c L (fun v L' => ∃ ys Ls, ys.Perm (xl.map fun q => q.1.1) ∧ ys.Pairwise (· ≤ ·) ∧ OwnI ys v Ls ∧ L' = Ls ++ L) := by
  have hlen2 : (xl.map fun q => (q.1.1, q.2)).length ≤ 1000000000 := by rw [List.length_map]; exact hlen
  refine Fn.enter Tryz.func62 rfl 9 rfl rfl (fun R hR => ?_)
  refine Cd.seq (fun K1 hK1 => ?_)
  refine Cd.region [0] rfl ?_
  refine Seq.rd0 at0 rfl rfl (O.assign (v := .slice _ _ _) rfl) ?_
  refine Seq.nil ?_
  refine hK1 ?_
  refine Cd.seq (fun K2 hK2 => ?_)
  refine Cd.region [0, 1, 2, 3, 4, 5, 6] rfl ?_
  refine Seq.rd0 at0 rfl rfl (O.move (v := .pointer _) rfl) ?_
  refine Seq.rd0 at1 rfl rfl (O.nilP rfl) ?_
  refine Seq.rd0 at2 rfl rfl (O.field fo_203_1 rfl) ?_
  refine Seq.rd1 at3 rfl rfl (O.load kd_201 rfl r4_1) hp ?_
  refine Seq.op at4 rfl (Op.callF rfl hb_140 C_mapsKeys_tx rfl ?_)
  rintro _ _ ⟨bb3, hbb3, rfl, rfl⟩
  refine Seq.op at5 rfl (Op.callF rfl hb_114 (C_Sorted_int64 (gf := 206) (lb := [.pointer (some ⟨bb3, 0, none⟩)]) hlen2 (by kernel_rfl) (C_keysTx hMx.int Rd.head hlm.cons) (fun _ h => Nat.le_of_eq (h.length_eq.trans (List.length_map _)))) rfl ?_)
  rintro v4 _ ⟨xs5, ys6, Ls7, hSxs5, hpys6, hoys6, hwys6, rfl⟩
  refine Ent.perm ?_ (bring (Ls := Ls7) (pre := [(bb3, _)]) (R := L)).symm
  refine Seq.rd0 at6 rfl rfl (O.assign (v := v4) rfl) ?_
  refine Seq.nil ?_
  refine hK2 ?_
  refine Cd.ret ?_
  exact hR _ _ (Res.one (v := v4) rfl rfl) ⟨ys6, Ls7, by have h9 := hpys6.trans hSxs5; rw [List.map_map] at h9; exact h9, hoys6, hwys6, rfl⟩ (.cons _ (.refl _))

theorem OwnL.rd {c : Cx} {R : List Pt} {k : I64} {q : TX} : ∀ {xl : List (I64 × TX)} {Cs : List Pt}, OwnL OneT xl Cs → alook xl k = some q →
    ∃ mb es ck, Rd c (Cs ++ R) q.1 (.cells #[.int .i64 q.2.1.t, .int .u8 q.2.1.n, .map (some mb)] 208 (0, 0)) ∧ Rd c (Cs ++ R) mb (.map es ck) ∧ MapIs keyV wV es ck q.2.2 ∧ q.2.2.length ≤ 16
  | [], _, _, h => by simp [alook] at h
  | (y, u) :: l, Cs, hC, h => by
    obtain ⟨G, C1, rfl, hO, hC1⟩ := hC
    unfold alook at h
    split at h
    · obtain rfl := Option.some.inj h
      obtain ⟨mb, es, ck, rfl, h1, h2⟩ := hO
      exact ⟨mb, es, ck, .head, Rd.head.cons, h1, h2⟩
    · obtain ⟨mb, es, ck, h1, h2, h3, h4⟩ := OwnL.rd (c := c) (R := R) hC1 h
      exact ⟨mb, es, ck, by rw [List.append_assoc]; exact h1.app, by rw [List.append_assoc]; exact h2.app, h3, h4⟩
/-- the least of the snapshots, and the last time -/
structure LeastS (xl : List (I64 × TX)) (la : Int) (s : Stamp) : Prop where
  is : s = ⟨la, 0⟩ ∨ ∃ q ∈ xl, s = q.2.2.1
  la : ¬ (⟨la, 0⟩ : Stamp).cmp s < 0
  le : ∀ q ∈ xl, ¬ q.2.2.1.cmp s < 0
structure LeastI (xl pre : List (I64 × TX)) (la : Int) (s : Stamp) : Prop where
  is : s = ⟨la, 0⟩ ∨ ∃ q ∈ xl, s = q.2.2.1
  la : ¬ (⟨la, 0⟩ : Stamp).cmp s < 0
  le : ∀ q ∈ pre, ¬ q.2.2.1.cmp s < 0
theorem LeastI.nil {xl : List (I64 × TX)} {la : Int} : LeastI xl [] la ⟨la, 0⟩ := ⟨.inl rfl, by rw [cmp_neg]; exact Stamp.lt_irrefl _, by simp⟩
theorem LeastI.keep {xl pre : List (I64 × TX)} {la : Int} {s : Stamp} {q : I64 × TX} (h : LeastI xl pre la s) (hq : ¬ q.2.2.1.cmp s < 0) : LeastI xl (pre ++ [q]) la s :=
  ⟨h.is, h.la, fun x hx => by rcases List.mem_append.1 hx with hx | hx; exact h.le x hx; rw [List.mem_singleton.1 hx]; exact hq⟩
theorem LeastI.less {xl pre : List (I64 × TX)} {la : Int} {s : Stamp} {q : I64 × TX} (h : LeastI xl pre la s) (hm : q ∈ xl) (hq : q.2.2.1.cmp s < 0) : LeastI xl (pre ++ [q]) la q.2.2.1 := by
  have hlt := (cmp_neg _ _).1 hq
  refine ⟨.inr ⟨q, hm, rfl⟩, fun h1 => h.la ((cmp_neg _ _).2 (Stamp.lt_trans ((cmp_neg _ _).1 h1) hlt)), fun x hx => ?_⟩
  rcases List.mem_append.1 hx with hx | hx
  · exact fun h1 => h.le x hx ((cmp_neg _ _).2 (Stamp.lt_trans ((cmp_neg _ _).1 h1) hlt))
  · rw [List.mem_singleton.1 hx, cmp_neg]; exact Stamp.lt_irrefl _

set_option maxRecDepth 100000 in
set_option maxHeartbeats 2000000 in
theorem C_solo_Trim {c : Cx} {L : List Pt} {p sb lm ck : Nat} {es : Array MapEntry} {L1 L2 : List Pt} {l : List (Key × CV)} {xl : List (I64 × TX)} {bg la : Int} (hSo : StOwn sb l L1) (hMx : MapIs i64V txV es ck xl) (hOx : OwnL OneT xl L2) : Fn Tryz.prog 60 #[.pointer (some ⟨p, 0, none⟩)] c ((p, .cells #[.pointer (some ⟨sb, 0, none⟩), .map (some lm), .int .i64 bg, .int .i64 la] 203 (0, 0)) :: (lm, .map es ck) :: (L1 ++ (L2 ++ L))) (fun v L' => ∃ s0 l' Ls', LeastS xl la s0 ∧ v = .int .i64 (trimS l s0) ∧ StOwn sb l' Ls' ∧ TrimR l s0 l' ∧ L' = (p, .cells #[.pointer (some ⟨sb, 0, none⟩), .map (some lm), .int .i64 bg, .int .i64 la] 203 (0, 0)) :: (lm, .map es ck) :: (Ls' ++ (L2 ++ L))) := by
  refine Fn.enter Tryz.func60 rfl 37 rfl rfl (fun R hR => ?_)
  refine Cd.seq (fun K1 hK1 => ?_)
  refine Cd.region [0] rfl ?_
  refine Seq.rd0 at0 rfl rfl (O.assign (v := .int .i64 _) rfl) ?_
  refine Seq.nil ?_
  refine hK1 ?_
  refine Cd.seq (fun K2 hK2 => ?_)
  refine Cd.region [0, 1, 2, 3, 4, 5, 6] rfl ?_
  refine Seq.rd0 at0 rfl rfl (O.move (v := .pointer _) rfl) ?_
  refine Seq.rd0 at1 rfl rfl (O.nilP rfl) ?_
  refine Seq.rd0 at2 rfl rfl (O.field fo_203_3 rfl) ?_
  refine Seq.rd1 at3 rfl rfl (O.load kd_2 rfl r4_3) Rd.head ?_
  refine Seq.rd0 at4 rfl rfl (O.build rfl (cs := (Stamp_enc (⟨la, 0⟩ : Stamp))) (by kernel_rfl)) ?_
  refine Seq.op at5 rfl (Op.new rfl (O.alloc zo_24 (cs := (Stamp_enc Stamp.zero)) rfl) ?_)
  intro b3 hb3
  refine Seq.op at6 rfl (Op.set0 rfl (O.store kd_24 rfl (v := .agg _) rfl (Stamp_size _) (Stamp_room (Stamp_size _)) (Stamp_one _) (Stamp_put _ (Stamp_size _))) ?_)
  refine Seq.nil ?_
  refine hK2 ?_
  refine Cd.seq (fun K4 hK4 => ?_)
  refine Cd.seq (fun K5 hK5 => ?_)
  refine Cd.region [0, 1, 2, 3, 4] rfl ?_
  refine Seq.rd0 at0 rfl rfl (O.move (v := .pointer _) rfl) ?_
  refine Seq.rd0 at1 rfl rfl (O.nilP rfl) ?_
  refine Seq.rd0 at2 rfl rfl (O.field fo_203_1 rfl) ?_
  refine Seq.rd1 at3 rfl rfl (O.load kd_201 rfl r4_1) Rd.head.cons ?_
  refine Seq.op at4 rfl (Op.gen rfl (O.range mp_201 hMx rfl (Rd.head.cons.cons)) ?_)
  rintro _ _ ⟨r, it, hr0, rfl, hi, rfl⟩
  refine Seq.nil ?_
  refine hK5 ?_
  refine Cd.block ?_
  refine Cd.loop (fun m6 e7 L8 => ∃ pre : List (I64 × TX), ∃ rest : List (I64 × TX), ∃ it : Obj, ∃ s0 : Stamp, m6 = rest.length ∧ e7 0 = .pointer (some ⟨p, 0, none⟩) ∧ e7 2 = .int .i64 0 ∧ e7 3 = .pointer (some ⟨b3, 0, none⟩) ∧ e7 15 = .pointer (some ⟨r, 0, none⟩) ∧ L8 = (r, it) :: (b3, .cells (Stamp_enc s0) 24 (0, 0)) :: (p, .cells #[.pointer (some ⟨sb, 0, none⟩), .map (some lm), .int .i64 bg, .int .i64 la] 203 (0, 0)) :: (lm, .map es ck) :: (L1 ++ ((L2 ++ (L)))) ∧ ItIs i64V txV es ck lm rest it ∧ (pre ++ rest).Perm xl ∧ LeastI xl pre la s0) _ ⟨[], xl, it, ⟨la, 0⟩, rfl, rfl, rfl, rfl, rfl, rfl, hi, by exact .refl _, LeastI.nil⟩ ?_
  rintro _ e7 _ ⟨pre, rest, it, s0, rfl, s9, s10, s11, s12, rfl, hi, hp, hz⟩ K13 hK13
  refine Cd.seq (fun K14 hK14 => ?_)
  refine Cd.region [0, 1] rfl ?_
  refine Seq.op at0 rfl (Op.gen rfl (O.next hMx hi (by exact s12) Rd.head.cons.cons.cons) ?_)
  rintro _ _ (⟨rfl, rfl, rfl⟩ | ⟨a, u, rest', it', hpm, rfl, hi', hent, rfl⟩)
  · skip
    refine Seq.rd0 at1 rfl rfl (O.ext rfl r1_0) ?_
    refine Seq.nil ?_
    refine hK14 ?_
    refine Cd.seq (fun K15 hK15 => ?_)
    refine Cd.condF rfl ?_
    refine Cd.exit ?_
    refine hK4 ?_
    refine Cd.seq (fun K16 hK16 => ?_)
    refine Cd.draw 7 rfl po ?_
    refine Any.rd0 0 at0 rfl rfl (O.move (v := .pointer _) (by exact s9)) (by kernel_rfl) (by kernel_rfl) (by kernel_rfl) ?_
    refine Any.rd0 1 at1 rfl rfl (O.nilP rfl) (by kernel_rfl) (by kernel_rfl) (by kernel_rfl) ?_
    refine Any.rd0 2 at2 rfl rfl (O.field fo_203_0 rfl) (by kernel_rfl) (by kernel_rfl) (by kernel_rfl) ?_
    refine Any.rd1 3 at3 rfl rfl (O.load kd_137 rfl r4_0) Rd.head.cons.cons (by kernel_rfl) (by kernel_rfl) (by kernel_rfl) ?_
    refine Any.rd1 4 at4 rfl rfl (O.loadA kd_24 (by exact s11) (Nat.le_of_ble_eq_true rfl) (Stamp_all _)) Rd.head.cons (by kernel_rfl) (by kernel_rfl) (by kernel_rfl) ?_
    refine Any.one 5 at5 rfl (by kernel_rfl) ⟨⟨trivial, Rd.head.cons.cons⟩, Rd.head.cons⟩ ?_
    refine Op.callF rfl hb_139 (Fn.perm (C_store_Trim (R := ((r, _) :: (b3, _) :: (p, _) :: (lm, _) :: []) ++ (L2 ++ (L))) (s := s0) hSo) (bring (pre := ((r, _) :: (b3, _) :: (p, _) :: (lm, _) :: [])) (Ls := L1) (R := (L2 ++ (L))))) rfl ?_
    rintro _ _ ⟨rfl, l3, L3, hS3, hT3, rfl⟩
    refine Ent.perm ?_ (bring (Ls := L3) (pre := ((r, _) :: (b3, _) :: (p, _) :: (lm, _) :: [])) (R := (L2 ++ (L)))).symm
    refine Any.toK ?_
    refine Any.rd0 6 at6 rfl rfl (O.assign (v := .int .i64 _) rfl) (by kernel_rfl) (by kernel_rfl) (by kernel_rfl) ?_
    refine Any.done (by kernel_rfl) ⟨⟨trivial, Rd.head.cons.cons⟩, Rd.head.cons⟩ ?_
    refine hK16 ?_
    refine Cd.ret ?_
    have hpx : pre.Perm xl := by simpa using hp
    exact hR _ _ (Res.one (v := .int .i64 _) rfl rfl) ⟨s0, l3, L3, ⟨hz.is, hz.la, fun q hq => hz.le q (hpx.mem_iff.2 hq)⟩, rfl, hS3, hT3, rfl⟩ (.cons _ (.cons _ (.refl _)))
  · skip
    refine Seq.rd0 at1 rfl rfl (O.ext rfl r3_0) ?_
    refine Seq.nil ?_
    refine hK14 ?_
    refine Cd.seq (fun K17 hK17 => ?_)
    refine Cd.condT rfl ?_
    refine Cd.skip ?_
    refine hK17 ?_
    refine Cd.block ?_
    refine Cd.seq (fun K18 hK18 => ?_)
    refine Cd.region [0, 1, 2] rfl ?_
    refine Seq.op at0 rfl (Op.gen rfl (hent _ _ (by exact s12) Rd.head Rd.head.cons.cons.cons) ?_)
    rintro _ _ ⟨rfl, rfl⟩
    have hqm := permQ hp hpm
    obtain ⟨mbx, esx, ckx, hxr, _, _, _⟩ := hOx.rd (c := c) (R := L) (alook_of_mem hMx.keys hqm)
    refine Seq.rd0 at1 rfl rfl (O.ext rfl r2_1) ?_
    refine Seq.rd0 at2 rfl rfl (O.assign (v := .pointer _) rfl) ?_
    refine Seq.nil ?_
    refine hK18 ?_
    refine Cd.seq (fun K19 hK19 => ?_)
    refine Cd.draw 7 rfl po ?_
    refine Any.rd0 0 at0 rfl rfl (O.move (v := .pointer _) rfl) (by kernel_rfl) (by kernel_rfl) (by kernel_rfl) ?_
    refine Any.rd0 1 at1 rfl rfl (O.nilP rfl) (by kernel_rfl) (by kernel_rfl) (by kernel_rfl) ?_
    refine Any.rd0 2 at2 rfl rfl (O.field fo_208_0 rfl) (by kernel_rfl) (by kernel_rfl) (by kernel_rfl) ?_
    refine Any.rd1 3 at3 rfl rfl (O.loadA kd_24 rfl (Nat.le_of_ble_eq_true rfl) rfl) hxr.app.cons.cons.cons.cons (by kernel_rfl) (by kernel_rfl) (by kernel_rfl) ?_
    refine Any.rd1 4 at4 rfl rfl (O.loadA kd_24 (by exact s11) (Nat.le_of_ble_eq_true rfl) (Stamp_all _)) Rd.head.cons (by kernel_rfl) (by kernel_rfl) (by kernel_rfl) ?_
    refine Any.one 5 at5 rfl (by kernel_rfl) ⟨⟨trivial, hxr.app.cons.cons.cons.cons⟩, Rd.head.cons⟩ ?_
    refine Op.callF rfl hb_132 C_stamp_Cmp rfl ?_
    rintro _ _ ⟨rfl, rfl⟩
    refine Any.toK ?_
    refine Any.rd0 6 at6 rfl rfl (O.lss rfl rfl) (by kernel_rfl) (by kernel_rfl) (by kernel_rfl) ?_
    refine Any.done (by kernel_rfl) ⟨⟨trivial, hxr.app.cons.cons.cons.cons⟩, Rd.head.cons⟩ ?_
    refine hK19 ?_
    refine Cd.if (((u.2.1).cmp s0) < 0) rfl (fun t20 => ?_) (fun t20 => ?_)
    · skip
      refine Cd.region [0, 1, 2, 3, 4] rfl ?_
      refine Seq.rd0 at0 rfl rfl (O.move (v := .pointer _) rfl) ?_
      refine Seq.rd0 at1 rfl rfl (O.nilP rfl) ?_
      refine Seq.rd0 at2 rfl rfl (O.field fo_208_0 rfl) ?_
      refine Seq.rd1 at3 rfl rfl (O.loadA kd_24 rfl (Nat.le_of_ble_eq_true rfl) rfl) hxr.app.cons.cons.cons.cons ?_
      refine Seq.op at4 rfl (Op.set1 rfl (O.store kd_24 (by exact s11) (v := .agg _) rfl (Stamp_size _) (Stamp_room (Stamp_size _)) (Stamp_one _) (Stamp_put _ (Stamp_size _))) ?_)
      refine Seq.nil ?_
      exact hK13 _ (step_dec hpm) ⟨pre ++ [(a, u)], rest', it', u.2.1, rfl, (by exact s9), (by exact s10), (by exact s11), (by exact s12), rfl, hi', permM hp hpm, hz.less hqm (by assumption)⟩
    · skip
      refine Cd.skip ?_
      exact hK13 _ (step_dec hpm) ⟨pre ++ [(a, u)], rest', it', s0, rfl, (by exact s9), (by exact s10), (by exact s11), (by exact s12), rfl, hi', permM hp hpm, hz.keep (by assumption)⟩

end Go.X

namespace Go.X
open Go.Proofs

/-! ## solo as one thing that is ours -/
def putS (xl : List (I64 × TX)) (ti : I64) (x : Write) : Int := match alook xl ti with
  | none => 4
  | some q => putX q.2.2 x
def afterS (xl : List (I64 × TX)) (ti : I64) (x : Write) : List (I64 × TX) := match alook xl ti with
  | none => xl
  | some q => aput xl ti (q.1, (q.2.1, afterX q.2.2 x))
theorem afterX_len {ws : List (Key × Write)} {x : Write} (h : ws.length ≤ 16) : (afterX ws x).length ≤ 16 := by
  unfold afterX
  split
  · rename_i h0
    unfold putX at h0
    split at h0
    · cases h0
    · split at h0
      · cases h0
      · rename_i h1
        cases hl : alook ws x.key with
        | some u => rw [(aput_keep hl).2.1]; exact h
        | none =>
          have : ws.length < 16 := by
            rcases Nat.lt_or_ge ws.length 16 with h2 | h2
            · exact h2
            · exact absurd ⟨hl, h2⟩ h1
          rw [aput_length]; split <;> omega
  · exact h
section
variable {c : Cx} {R Ls : List Pt} {p : Nat} {l : List (Key × CV)} {xl : List (I64 × TX)} {bg la : Int} {ti : I64}
theorem SoOwn.keys (hS : SoOwn p l xl bg la Ls) : (xl.map Prod.fst).Nodup := by
  obtain ⟨⟨sb, lm, es, ck, L1, L2, rfl, h1, h2, h3⟩, h4, h5, h6⟩ := hS
  exact h2.keys
theorem perm4 {X G L1 C1 C2 R : List Pt} (h : (G ++ C1).Perm C2) : (X ++ (G ++ (L1 ++ (C1 ++ R)))).Perm (X ++ (L1 ++ (C2 ++ R))) := List.Perm.append_left X (perm3 h)
theorem perm5 {a b : Pt} {G L1 C1 C2 R : List Pt} (h : (G ++ C1).Perm C2) : (a :: b :: (G ++ (L1 ++ (C1 ++ R)))).Perm ((a :: b :: (L1 ++ C2)) ++ R) := by
  simpa using perm4 (X := [a, b]) (L1 := L1) (R := R) h
theorem C_So_Begin (hS : SoOwn p l xl bg la Ls) (hti : ti.1 = bg + 1) (hlen : xl.length < 100) (hbg : bg < 1000000) :
    Fn Tryz.prog 53 #[.pointer (some ⟨p, 0, none⟩)] c (Ls ++ R) (fun v L' => v = .tuple #[.int .i64 (bg + 1), .int .i64 0] ∧ ∃ xb Ls', SoOwn p l (aput xl ti (xb, (⟨la, 0⟩, []))) (bg + 1) la Ls' ∧ L' = Ls' ++ R) := by
  obtain ⟨⟨sb, lm, es, ck, L1, L2, rfl, h1, h2, h3⟩, h4, h5, h6⟩ := hS
  simp only [List.cons_append, List.append_assoc]
  refine Fn.post (C_solo_Begin_own (L := R) h1 h2 hti hlen ⟨h5.1, hbg⟩) ?_
  rintro v L' ⟨hv, xb, mb, es3, ck3, hm3, hL⟩
  have hn : alook xl ti = none := by
    cases hl : alook xl ti with
    | none => rfl
    | some q => have := h6 _ (alook_mem hl); simp only at this; omega
  obtain ⟨Cs', hc1, hc2⟩ := OwnL.new (O := OneT) (q := (xb, (⟨la, 0⟩, []))) (G := [(xb, .cells #[.int .i64 la, .int .u8 0, .map (some mb)] 208 (0, 0)), (mb, .map #[] 0)]) ⟨mb, #[], 0, rfl, MapIs.nil, by simp⟩ h3 hn
  refine ⟨_, ⟨hv, xb, _, ⟨⟨sb, lm, es3, ck3, L1, Cs', rfl, h1, hm3, hc1⟩, ?_, by omega, fun q hq => ?_⟩, rfl⟩, ?_⟩
  · rw [aput_length]; split <;> omega
  · have h7 := (aput_keys ti _ xl q.1).1 (List.mem_map.2 ⟨q, hq, rfl⟩)
    rcases h7 with h7 | h7
    · rw [h7]; omega
    · obtain ⟨r, hr, he⟩ := List.mem_map.1 h7
      have := h6 r hr; rw [he] at this; omega
  · rw [hL]
    simpa using perm3 (X := (p, _) :: (lm, _) :: L1) (R := R) hc2
theorem C_So_Put {x : Write} (hS : SoOwn p l xl bg la Ls) :
    Fn Tryz.prog 54 #[.pointer (some ⟨p, 0, none⟩), .int .i64 ti.1, .agg (Write_enc x)] c (Ls ++ R) (fun v L' => v = .int .i64 (putS xl ti x) ∧ ∃ Ls', SoOwn p l (afterS xl ti x) bg la Ls' ∧ L' = Ls' ++ R) := by
  obtain ⟨⟨sb, lm, es, ck, L1, L2, rfl, h1, h2, h3⟩, h4, h5, h6⟩ := hS
  simp only [List.cons_append, List.append_assoc]
  unfold putS afterS
  cases hl : alook xl ti with
  | none =>
    refine Fn.mono (C_solo_Put_none (L := R) h1 h2 hl) ?_
    rintro v L' ⟨hv, hL⟩
    exact ⟨hv, _, ⟨⟨sb, lm, es, ck, L1, L2, rfl, h1, h2, h3⟩, h4, h5, h6⟩, by rw [hL]; simp⟩
  | some q =>
    obtain ⟨G, C1, hp, ⟨mb, es9, ck9, rfl, hM, h16⟩, hb, _⟩ := OwnL.take h3 hl
    refine Fn.perm (L2 := (p, _) :: (lm, _) :: (_ :: _ :: (L1 ++ (C1 ++ R)))) ?_ (perm4 (X := [(p, _), (lm, _)]) hp.symm).symm
    refine Fn.post (C_solo_Put_some (L := R) h1 h2 hl hM h16) ?_
    rintro v L' ⟨hv, es3, ck3, hm3, hL⟩
    obtain ⟨Cs', hc1, hc2⟩ := hb (q.1, (q.2.1, afterX q.2.2 x)) _ ⟨mb, es3, ck3, rfl, hm3, afterX_len h16⟩
    have hk := aput_keep (u := (q.1, (q.2.1, afterX q.2.2 x))) hl
    refine ⟨_, ⟨hv, _, ⟨⟨sb, lm, es, ck, L1, Cs', rfl, h1, h2.upd hl rfl, hc1⟩, by rw [hk.2.1]; exact h4, h5, fun r hr => ?_⟩, rfl⟩, ?_⟩
    · have h7 : r.1 ∈ xl.map Prod.fst := by rw [← hk.1]; exact List.mem_map.2 ⟨r, hr, rfl⟩
      obtain ⟨r2, hr2, he⟩ := List.mem_map.1 h7
      have := h6 r2 hr2; rw [he] at this; exact this
    · rw [hL]
      exact perm5 hc2
theorem C_So_Commit (hS : SoOwn p l xl bg la Ls) (hla : la < 1000000) :
    Fn Tryz.prog 56 #[.pointer (some ⟨p, 0, none⟩), .int .i64 ti.1] c (Ls ++ R) (fun v L' => ∃ r e l' la' Ls', v = .tuple #[.agg (Stamp_enc r), .int .i64 e] ∧ SoOwn p l' (adel xl ti) bg la' Ls' ∧
      (match alook xl ti with
      | none => r = .zero ∧ e = 4 ∧ l' = l ∧ la' = la
      | some q => ComX l la q.2.1 q.2.2 r e l' la') ∧ L' = Ls' ++ R) := by
  have hnd := hS.keys
  obtain ⟨⟨sb, lm, es, ck, L1, L2, rfl, h1, h2, h3⟩, h4, h5, h6⟩ := hS
  simp only [List.cons_append, List.append_assoc]
  have hlen := (adel_sub ti xl).length_le
  have hids : ∀ q ∈ adel xl ti, q.1.1 ≤ bg := fun q hq => h6 q ((adel_sub ti xl).subset hq)
  cases hl : alook xl ti with
  | none =>
    have hd : adel xl ti = xl := by
      refine (alook_none ?_).2.2
      intro hm
      obtain ⟨q, hq, rfl⟩ := List.mem_map.1 hm
      rw [alook_of_mem hnd hq] at hl; cases hl
    refine Fn.mono (C_solo_Commit_none (L := R) h1 h2 hl) ?_
    rintro v L' ⟨hv, hL⟩
    exact ⟨_, _, _, _, _, hv, ⟨⟨sb, lm, es, ck, L1, L2, rfl, h1, hd.symm ▸ h2, hd.symm ▸ h3⟩, by omega, h5, hids⟩, ⟨rfl, rfl, rfl, rfl⟩, by rw [hL]; simp⟩
  | some q =>
    obtain ⟨G, C1, hp, ⟨mb, es9, ck9, rfl, hM, h16⟩, _, Cd, hc1, hc2⟩ := OwnL.take h3 hl
    refine Fn.perm (L2 := (p, _) :: (lm, _) :: (_ :: _ :: (L1 ++ (C1 ++ R)))) ?_ (perm4 (X := [(p, _), (lm, _)]) hp.symm).symm
    refine Fn.post (C_solo_Commit_some (L := R) h1 h2 hl hM h16 ⟨h5.2.2.1, hla⟩) ?_
    rintro v L' ⟨r, e, l', la', es3, Ls', hv, hm3, hs3, hcom, hL⟩
    have hla' : 0 ≤ la' ∧ la' ≤ 1000000 := by
      rcases hcom with ⟨_, _, _, _, h⟩ | ⟨_, _, _, _, _, h⟩ | ⟨_, _, _, _, _, h8, h9, h10⟩
      · omega
      · omega
      · by_cases he : e = 0
        · have := (h10 he).2.1; omega
        · have := (h9 he).2.2; omega
    refine ⟨_, ⟨r, e, l', la', _, hv, ⟨⟨sb, lm, es3, ck, Ls', Cd, rfl, hs3, hm3, hc1⟩, by omega, ⟨h5.1, h5.2.1, hla'⟩, hids⟩, hcom, rfl⟩, ?_⟩
    rw [hL]
    exact perm5 (G := []) hc2
theorem C_So_Trim (hS : SoOwn p l xl bg la Ls) :
    Fn Tryz.prog 60 #[.pointer (some ⟨p, 0, none⟩)] c (Ls ++ R) (fun v L' => ∃ s0 l' Ls', LeastS xl la s0 ∧ v = .int .i64 (trimS l s0) ∧ SoOwn p l' xl bg la Ls' ∧ TrimR l s0 l' ∧ L' = Ls' ++ R) := by
  obtain ⟨⟨sb, lm, es, ck, L1, L2, rfl, h1, h2, h3⟩, h4, h5, h6⟩ := hS
  simp only [List.cons_append, List.append_assoc]
  refine Fn.mono (C_solo_Trim (L := R) h1 h2 h3) ?_
  rintro v L' ⟨s0, l', Ls', ha, hb, hc, hd, hL⟩
  exact ⟨s0, l', _, ha, hb, ⟨⟨sb, lm, es, ck, Ls', L2, rfl, hc, h2, h3⟩, h4, h5, h6⟩, hd, by rw [hL]; simp⟩
theorem C_So_Open (hS : SoOwn p l xl bg la Ls) :
    Fn Tryz.prog 62 #[.pointer (some ⟨p, 0, none⟩)] c (Ls ++ R) (fun v L' => ∃ ys Lo, ys.Perm (xl.map fun q => q.1.1) ∧ ys.Pairwise (· ≤ ·) ∧ OwnI ys v Lo ∧ L' = Lo ++ (Ls ++ R)) := by
  obtain ⟨⟨sb, lm, es, ck, L1, L2, rfl, h1, h2, h3⟩, h4, h5, h6⟩ := hS
  exact C_solo_Open (L := _ :: (lm, .map es ck) :: ((L1 ++ L2) ++ R)) .head Rd.head.cons h2 (by omega)
theorem C_So_Last (hS : SoOwn p l xl bg la Ls) : Fn Tryz.prog 63 #[.pointer (some ⟨p, 0, none⟩)] c (Ls ++ R) (fun v L' => v = .int .i64 la ∧ L' = Ls ++ R) := by
  obtain ⟨⟨sb, lm, es, ck, L1, L2, rfl, h1, h2, h3⟩, h4, h5, h6⟩ := hS
  exact C_solo_Last (L := _ :: (lm, .map es ck) :: ((L1 ++ L2) ++ R)) .head
end

end Go.X

/- Acts upon solo: plain. -/
namespace Go.X
structure SAct where
  op : Int
  n : Int
  id : Int
  w : Write
  to : Key
deriving DecidableEq
def SAct_enc (a : SAct) : Array Value := #[.int .i64 a.op, .int .i64 a.n, .int .i64 a.id, kc a.w.key 0, kc a.w.key 1, kc a.w.key 2, kc a.w.key 3, kc a.w.key 4, kc a.w.key 5, kc a.w.key 6, kc a.w.key 7, kc a.w.key 8, kc a.w.key 9, kc a.w.key 10, kc a.w.key 11, kc a.w.key 12, kc a.w.key 13, kc a.w.key 14, kc a.w.key 15, .string a.w.val, .bool a.w.gone, kc a.to 0, kc a.to 1, kc a.to 2, kc a.to 3, kc a.to 4, kc a.to 5, kc a.to 6, kc a.to 7, kc a.to 8, kc a.to 9, kc a.to 10, kc a.to 11, kc a.to 12, kc a.to 13, kc a.to 14, kc a.to 15]
def SAct.zero : SAct := ⟨0, 0, 0, .zero, .zero⟩
end Go.X

namespace Go.X
open Go.Proofs
theorem hb_53 : hasBody Tryz.prog 53 = true := by kernel_rfl
theorem hb_54 : hasBody Tryz.prog 54 = true := by kernel_rfl
theorem hb_56 : hasBody Tryz.prog 56 = true := by kernel_rfl
theorem hb_60 : hasBody Tryz.prog 60 = true := by kernel_rfl
theorem hb_62 : hasBody Tryz.prog 62 = true := by kernel_rfl
/-! ## any calls -/
structure SoS where
  l : List (Key × CV)
  xl : List (I64 × TX)
  bg : Int
  la : Int
/-- calls, but of one transaction none: what may come of them -/
inductive Moves (nt : Int) (s : SoS) : SoS → Prop
  | refl : Moves nt s s
  | begin {t : SoS} {ti : I64} (xb : Nat) : Moves nt s t → ti.1 = t.bg + 1 → t.xl.length < 50 → Moves nt s ⟨t.l, aput t.xl ti (xb, (⟨t.la, 0⟩, [])), t.bg + 1, t.la⟩
  | put {t : SoS} {ti : I64} (x : Write) : Moves nt s t → ¬ (ti.1 = nt ∧ 0 < nt) → Moves nt s ⟨t.l, afterS t.xl ti x, t.bg, t.la⟩
  | commit {t : SoS} {ti : I64} {r : Stamp} {e : Int} {l' : List (Key × CV)} {la' : Int} : Moves nt s t → ¬ (ti.1 = nt ∧ 0 < nt) → (match alook t.xl ti with
      | none => r = .zero ∧ e = 4 ∧ l' = t.l ∧ la' = t.la
      | some q => ComX t.l t.la q.2.1 q.2.2 r e l' la') → Moves nt s ⟨l', adel t.xl ti, t.bg, la'⟩
  | abort {t : SoS} {ti : I64} : Moves nt s t → ¬ (ti.1 = nt ∧ 0 < nt) → Moves nt s ⟨t.l, adel t.xl ti, t.bg, t.la⟩
  | trim {t : SoS} {s0 : Stamp} {l' : List (Key × CV)} : Moves nt s t → LeastS t.xl t.la s0 → TrimR t.l s0 l' → Moves nt s ⟨l', t.xl, t.bg, t.la⟩
end Go.X

namespace Go.X
open Go.Proofs

/-! ## the document's 'may a key be' -/
set_option maxRecDepth 100000 in
set_option maxHeartbeats 2000000 in
theorem C_law23_k {c : Cx} {L : List Pt} {l : List UInt8} (hok : okT l = true) : Fn Tryz.prog 57 #[.string ⟨l.toArray⟩] c L (fun v L' => v = .agg (Key_enc (padK l)) ∧ L' = L) := by
  refine Fn.enter Tryz.func57 rfl 11 rfl rfl (fun R hR => ?_)
  refine Cd.seq (fun K1 hK1 => ?_)
  refine Cd.region [0] rfl ?_
  refine Seq.op at0 rfl (Op.new rfl (O.alloc zo_45 (cs := (Key_enc Key.zero)) rfl) ?_)
  intro b2 hb2
  refine Seq.nil ?_
  refine hK1 ?_
  refine Cd.seq (fun K3 hK3 => ?_)
  refine Cd.region [0, 1, 2, 3, 4, 5, 6, 7] rfl ?_
  refine Seq.rd0 at0 rfl rfl (O.move (v := .string _) rfl) ?_
  refine Seq.op at1 rfl (Op.callF rfl hb_103 (C_ref_Of (l := l) hok) rfl ?_)
  rintro _ _ ⟨rfl, rfl⟩
  refine Seq.rd0 at2 rfl rfl (O.move (v := .tuple _) rfl) ?_
  refine Seq.rd0 at3 rfl rfl (O.ext rfl r2_0) ?_
  refine Seq.rd0 at4 rfl rfl (O.ext rfl r2_1) ?_
  refine Seq.op at5 rfl (Op.new rfl (O.alloc zo_45 (cs := (Key_enc Key.zero)) rfl) ?_)
  intro b4 hb4
  refine Seq.op at6 rfl (Op.set0 rfl (O.store kd_45 rfl (v := .agg _) rfl (Key_size _) (Key_room (Key_size _)) (Key_one _) (Key_put _ (Key_size _))) ?_)
  refine Seq.rd0 at7 rfl rfl (O.assign (v := .bool _) rfl) ?_
  refine Seq.nil ?_
  refine hK3 ?_
  refine Cd.seq (fun K5 hK5 => ?_)
  refine Cd.region [0, 1] rfl ?_
  refine Seq.rd1 at0 rfl rfl (O.loadA kd_45 rfl (Nat.le_of_ble_eq_true rfl) (Key_all _)) Rd.head ?_
  refine Seq.op at1 rfl (Op.set1 rfl (O.store kd_45 rfl (v := .agg _) rfl (Key_size _) (Key_room (Key_size _)) (Key_one _) (Key_put _ (Key_size _))) ?_)
  refine Seq.nil ?_
  refine hK5 ?_
  refine Cd.ret ?_
  exact hR _ _ (Res.cell (out := #[]) rfl kd_45 rfl  Rd.head.cons rfl) ⟨rfl, rfl⟩ (.cons _ (.cons _ (.refl _)))

end Go.X

namespace Go.X
open Go.Proofs
theorem ds_97 : isDesc Tryz.prog 97 = 4 := by kernel_rfl
theorem hb_51 : hasBody Tryz.prog 51 = true := by kernel_rfl
theorem hb_57 : hasBody Tryz.prog 57 = true := by kernel_rfl
theorem hb_63 : hasBody Tryz.prog 63 = true := by kernel_rfl
/-! ## two that put one key -/
def i2 : I64 := ⟨2, by decide⟩
def kX : Key := padK [120]
theorem okX : okT [120] = true := by rfl
def wX1 : Write := ⟨kX, ⟨#[49]⟩, false⟩
def wX2 : Write := ⟨kX, ⟨#[50]⟩, false⟩
def vX1 : Version := ⟨⟨1, 0⟩, ⟨#[49]⟩, false⟩
def s00 : Stamp := ⟨0, 0⟩
theorem aw23_1 {xa xb : Nat} : aput [(i1, ((xa, (s00, [])) : TX))] i2 (xb, (s00, [])) = [(i1, (xa, (s00, []))), (i2, (xb, (s00, [])))] := by kernel_rfl
theorem aw23_2 {xa xb : Nat} : putS [(i1, ((xa, (s00, [])) : TX)), (i2, (xb, (s00, [])))] i1 wX1 = 0 ∧ afterS [(i1, ((xa, (s00, [])) : TX)), (i2, (xb, (s00, [])))] i1 wX1 = [(i1, (xa, (s00, [(kX, wX1)]))), (i2, (xb, (s00, [])))] := ⟨by kernel_rfl, by kernel_rfl⟩
theorem aw23_3 {xa xb : Nat} : putS [(i1, ((xa, (s00, [(kX, wX1)])) : TX)), (i2, (xb, (s00, [])))] i2 wX2 = 0 ∧ afterS [(i1, ((xa, (s00, [(kX, wX1)])) : TX)), (i2, (xb, (s00, [])))] i2 wX2 = [(i1, (xa, (s00, [(kX, wX1)]))), (i2, (xb, (s00, [(kX, wX2)])))] := ⟨by kernel_rfl, by kernel_rfl⟩
theorem aw23_4 {xa xb : Nat} : alook [(i1, ((xa, (s00, [(kX, wX1)])) : TX)), (i2, (xb, (s00, [(kX, wX2)])))] i1 = some (xa, (s00, [(kX, wX1)])) ∧ adel [(i1, ((xa, (s00, [(kX, wX1)])) : TX)), (i2, (xb, (s00, [(kX, wX2)])))] i1 = [(i2, (xb, (s00, [(kX, wX2)])))] := ⟨by kernel_rfl, by kernel_rfl⟩
theorem aw23_5 {xb : Nat} : alook [(i2, ((xb, (s00, [(kX, wX2)])) : TX))] i2 = some (xb, (s00, [(kX, wX2)])) ∧ adel [(i2, ((xb, (s00, [(kX, wX2)])) : TX))] i2 = [] := ⟨by kernel_rfl, by kernel_rfl⟩
theorem ComX.one {l l' : List (Key × CV)} {la la' e : Int} {s r : Stamp} {k : Key} {w : Write} (h : ComX l la s [(k, w)] r e l' la') (hn : conK l s k = false) (ha : applyE l ⟨la + 1, 0⟩ [w] = 0) :
    r = ⟨la + 1, 0⟩ ∧ e = 0 ∧ la' = la + 1 ∧ ∃ cb, l' = aput l w.key (cb, afterPut (getS l w.key) ⟨⟨la + 1, 0⟩, w.val, w.gone⟩) := by
  rcases h with ⟨h, _⟩ | ⟨_, ⟨q, hq, h⟩, _⟩ | ⟨_, _, ys, hp, _, he, _, h0⟩
  · cases h
  · rw [List.mem_singleton.1 hq, hn] at h; cases h
  · have hy : ys = [w] := List.perm_singleton.1 (by simpa using hp)
    subst hy
    rw [ha] at he
    obtain ⟨h1, h2, h3⟩ := h0 he
    exact ⟨h1, he, h2, h3.one⟩
theorem ComX.con {l l' : List (Key × CV)} {la la' e : Int} {s r : Stamp} {k : Key} {w : Write} {ws : List (Key × Write)} (h : ComX l la s ws r e l' la') (hm : (k, w) ∈ ws) (hn : conK l s k = true) : r = .zero ∧ e = 9 ∧ l' = l ∧ la' = la := by
  rcases h with ⟨h, _⟩ | ⟨_, _, h⟩ | ⟨_, h, _⟩
  · subst h; cases hm
  · exact h
  · have := h _ hm; rw [hn] at this; cases this
theorem ComX.none {l l' : List (Key × CV)} {la la' e : Int} {s r : Stamp} (h : ComX l la s [] r e l' la') : r = ⟨la, 0⟩ ∧ e = 0 ∧ l' = l ∧ la' = la := by
  rcases h with ⟨_, h⟩ | ⟨h, _⟩ | ⟨h, _⟩
  · exact h
  · exact absurd rfl h
  · exact absurd rfl h
theorem aw23_6 : conK [] s00 kX = false ∧ applyE [] ⟨0 + 1, 0⟩ [wX1] = 0 := ⟨by kernel_rfl, by kernel_rfl⟩
theorem aw23_7 {cb : Nat} : aput [] wX1.key (cb, afterPut (getS [] wX1.key) ⟨⟨0 + 1, 0⟩, wX1.val, wX1.gone⟩) = [(kX, ((cb, [vX1]) : CV))] := by kernel_rfl
theorem aw23_8 {cb : Nat} : conK [(kX, ((cb, [vX1]) : CV))] s00 kX = true := by kernel_rfl

set_option maxRecDepth 100000 in
set_option maxHeartbeats 2000000 in
theorem C_awake23 {c : Cx} {L : List Pt}  : Fn Tryz.prog 50 #[] c L (fun v L' => v = .bool true ∧ L' = L) := by
  refine Fn.enter Tryz.func50 rfl 69 rfl rfl (fun R hR => ?_)
  refine Cd.seq (fun K1 hK1 => ?_)
  refine Cd.region [0] rfl ?_
  refine Seq.rd0 at0 rfl rfl (O.assign (v := .bool _) rfl) ?_
  refine Seq.nil ?_
  refine hK1 ?_
  refine Cd.seq (fun K2 hK2 => ?_)
  refine Cd.region [0, 1] rfl ?_
  refine Seq.op at0 rfl (Op.callF rfl hb_51 C_solo_New2 rfl ?_)
  rintro _ _ ⟨p, Ls0, rfl, hS0, rfl⟩
  refine Seq.rd0 at1 rfl rfl (O.assign (v := .pointer _) rfl) ?_
  refine Seq.nil ?_
  refine hK2 ?_
  refine Cd.seq (fun K3 hK3 => ?_)
  refine Cd.seq (fun K4 hK4 => ?_)
  refine Cd.region [0, 1] rfl ?_
  refine Seq.rd0 at0 rfl rfl (O.move (v := .pointer _) rfl) ?_
  refine Seq.rd0 at1 rfl rfl (O.eqNil ds_97 rfl rfl) ?_
  refine Seq.nil ?_
  refine hK4 ?_
  refine Cd.condF rfl ?_
  refine Cd.skip ?_
  refine hK3 ?_
  refine Cd.seq (fun K5 hK5 => ?_)
  refine Cd.region [0, 1, 2, 3, 4, 5, 6] rfl ?_
  refine Seq.rd0 at0 rfl rfl (O.move (v := .pointer _) rfl) ?_
  refine Seq.op at1 rfl (Op.callF rfl hb_53 (Fn.perm (C_So_Begin (R := ([]) ++ L) (ti := i1) hS0 rfl (by decide) (by decide)) (bring (pre := ([])) (Ls := Ls0) (R := L))) rfl ?_)
  rintro _ _ ⟨rfl, xa, Ls1, hS1, rfl⟩
  have hS1 : SoOwn p [] [(i1, (xa, (s00, [])))] 1 0 Ls1 := hS1
  rw [show (0 : Int) + 1 = 1 from rfl]
  refine Ent.perm ?_ (bring (Ls := Ls1) (pre := ([])) (R := L)).symm
  refine Seq.rd0 at2 rfl rfl (O.move (v := .tuple _) rfl) ?_
  refine Seq.rd0 at3 rfl rfl (O.ext rfl r2_0) ?_
  refine Seq.rd0 at4 rfl rfl (O.ext rfl r2_1) ?_
  refine Seq.rd0 at5 rfl rfl (O.assign (v := .int .i64 _) rfl) ?_
  refine Seq.rd0 at6 rfl rfl (O.assign (v := .int .i64 _) rfl) ?_
  refine Seq.nil ?_
  refine hK5 ?_
  refine Cd.seq (fun K6 hK6 => ?_)
  refine Cd.region [0, 1, 2, 3, 4, 5, 6] rfl ?_
  refine Seq.rd0 at0 rfl rfl (O.move (v := .pointer _) rfl) ?_
  refine Seq.op at1 rfl (Op.callF rfl hb_53 (Fn.perm (C_So_Begin (R := ([]) ++ L) (ti := i2) hS1 rfl (by simp) (by decide)) (bring (pre := ([])) (Ls := Ls1) (R := L))) rfl ?_)
  rintro _ _ ⟨rfl, xb, Ls2, hS2, rfl⟩
  rw [show (⟨0, 0⟩ : Stamp) = s00 from rfl, aw23_1] at hS2
  have hS2 : SoOwn p [] [(i1, (xa, (s00, []))), (i2, (xb, (s00, [])))] 2 0 Ls2 := hS2
  rw [show (1 : Int) + 1 = 2 from rfl]
  refine Ent.perm ?_ (bring (Ls := Ls2) (pre := ([])) (R := L)).symm
  refine Seq.rd0 at2 rfl rfl (O.move (v := .tuple _) rfl) ?_
  refine Seq.rd0 at3 rfl rfl (O.ext rfl r2_0) ?_
  refine Seq.rd0 at4 rfl rfl (O.ext rfl r2_1) ?_
  refine Seq.rd0 at5 rfl rfl (O.assign (v := .int .i64 _) rfl) ?_
  refine Seq.rd0 at6 rfl rfl (O.assign (v := .int .i64 _) rfl) ?_
  refine Seq.nil ?_
  refine hK6 ?_
  refine Cd.seq (fun K7 hK7 => ?_)
  refine Cd.region [0, 1, 2, 3, 4] rfl ?_
  refine Seq.rd0 at0 rfl rfl (O.move (v := .pointer _) rfl) ?_
  refine Seq.rd0 at1 rfl rfl (O.move (v := .int .i64 _) rfl) ?_
  refine Seq.op at2 rfl (Op.callF rfl hb_57 (C_law23_k (l := [120]) okX) rfl ?_)
  rintro _ _ ⟨rfl, rfl⟩
  refine Seq.rd0 at3 rfl rfl (O.build rfl (cs := (Write_enc (⟨kX, (⟨#[49]⟩ : ByteArray), false⟩ : Write))) (by kernel_rfl)) ?_
  refine Seq.op at4 rfl (Op.callF rfl hb_54 (Fn.perm (C_So_Put (R := ([]) ++ L) (ti := i1) (x := wX1) hS2) (bring (pre := ([])) (Ls := Ls2) (R := L))) rfl ?_)
  rintro _ _ ⟨rfl, Ls3, hS3, rfl⟩
  rw [aw23_2.2] at hS3
  rw [aw23_2.1]
  refine Ent.perm ?_ (bring (Ls := Ls3) (pre := ([])) (R := L)).symm
  refine Seq.nil ?_
  refine hK7 ?_
  refine Cd.seq (fun K8 hK8 => ?_)
  refine Cd.region [0, 1, 2, 3, 4] rfl ?_
  refine Seq.rd0 at0 rfl rfl (O.move (v := .pointer _) rfl) ?_
  refine Seq.rd0 at1 rfl rfl (O.move (v := .int .i64 _) rfl) ?_
  refine Seq.op at2 rfl (Op.callF rfl hb_57 (C_law23_k (l := [120]) okX) rfl ?_)
  rintro _ _ ⟨rfl, rfl⟩
  refine Seq.rd0 at3 rfl rfl (O.build rfl (cs := (Write_enc (⟨kX, (⟨#[50]⟩ : ByteArray), false⟩ : Write))) (by kernel_rfl)) ?_
  refine Seq.op at4 rfl (Op.callF rfl hb_54 (Fn.perm (C_So_Put (R := ([]) ++ L) (ti := i2) (x := wX2) hS3) (bring (pre := ([])) (Ls := Ls3) (R := L))) rfl ?_)
  rintro _ _ ⟨rfl, Ls4, hS4, rfl⟩
  rw [aw23_3.2] at hS4
  rw [aw23_3.1]
  refine Ent.perm ?_ (bring (Ls := Ls4) (pre := ([])) (R := L)).symm
  refine Seq.nil ?_
  refine hK8 ?_
  refine Cd.seq (fun K9 hK9 => ?_)
  refine Cd.region [0, 1, 2, 3, 4, 5, 6, 7, 8] rfl ?_
  refine Seq.rd0 at0 rfl rfl (O.move (v := .pointer _) rfl) ?_
  refine Seq.rd0 at1 rfl rfl (O.move (v := .int .i64 _) rfl) ?_
  refine Seq.op at2 rfl (Op.callF rfl hb_56 (Fn.perm (C_So_Commit (R := ([]) ++ L) (ti := i1) hS4 (by decide)) (bring (pre := ([])) (Ls := Ls4) (R := L))) rfl ?_)
  rintro _ _ ⟨r1, e1, l1, la1, Ls5, rfl, hS5, hc1, rfl⟩
  rw [aw23_4.1] at hc1
  rw [aw23_4.2] at hS5
  obtain ⟨rfl, rfl, rfl, cb, rfl⟩ := ComX.one hc1 aw23_6.1 aw23_6.2
  rw [aw23_7] at hS5
  have hS5 : SoOwn p [(kX, (cb, [vX1]))] [(i2, (xb, (s00, [(kX, wX2)])))] 2 1 Ls5 := hS5
  rw [show (0 : Int) + 1 = 1 from rfl]
  refine Ent.perm ?_ (bring (Ls := Ls5) (pre := ([])) (R := L)).symm
  refine Seq.rd0 at3 rfl rfl (O.move (v := .tuple _) rfl) ?_
  refine Seq.rd0 at4 rfl rfl (O.ext rfl r2_0) ?_
  refine Seq.rd0 at5 rfl rfl (O.ext rfl r2_1) ?_
  refine Seq.op at6 rfl (Op.new rfl (O.alloc zo_24 (cs := (Stamp_enc Stamp.zero)) rfl) ?_)
  intro b10 hb10
  refine Seq.op at7 rfl (Op.set0 rfl (O.store kd_24 rfl (v := .agg _) rfl (Stamp_size _) (Stamp_room (Stamp_size _)) (Stamp_one _) (Stamp_put _ (Stamp_size _))) ?_)
  refine Seq.rd0 at8 rfl rfl (O.assign (v := .int .i64 _) rfl) ?_
  refine Seq.nil ?_
  refine hK9 ?_
  refine Cd.seq (fun K11 hK11 => ?_)
  refine Cd.region [0, 1, 2, 3, 4, 5, 6, 7, 8] rfl ?_
  refine Seq.rd0 at0 rfl rfl (O.move (v := .pointer _) rfl) ?_
  refine Seq.rd0 at1 rfl rfl (O.move (v := .int .i64 _) rfl) ?_
  refine Seq.op at2 rfl (Op.callF rfl hb_56 (Fn.perm (C_So_Commit (R := ((b10, _) :: []) ++ L) (ti := i2) hS5 (by decide)) (bring (pre := ((b10, _) :: [])) (Ls := Ls5) (R := L))) rfl ?_)
  rintro _ _ ⟨r2, e2, l2, la2, Ls6, rfl, hS6, hc2, rfl⟩
  rw [aw23_5.1] at hc2
  rw [aw23_5.2] at hS6
  obtain ⟨rfl, rfl, rfl, rfl⟩ := ComX.con hc2 (List.mem_cons_self) aw23_8
  refine Ent.perm ?_ (bring (Ls := Ls6) (pre := ((b10, _) :: [])) (R := L)).symm
  refine Seq.rd0 at3 rfl rfl (O.move (v := .tuple _) rfl) ?_
  refine Seq.rd0 at4 rfl rfl (O.ext rfl r2_0) ?_
  refine Seq.rd0 at5 rfl rfl (O.ext rfl r2_1) ?_
  refine Seq.op at6 rfl (Op.new rfl (O.alloc zo_24 (cs := (Stamp_enc Stamp.zero)) rfl) ?_)
  intro b12 hb12
  refine Seq.op at7 rfl (Op.set0 rfl (O.store kd_24 rfl (v := .agg _) rfl (Stamp_size _) (Stamp_room (Stamp_size _)) (Stamp_one _) (Stamp_put _ (Stamp_size _))) ?_)
  refine Seq.rd0 at8 rfl rfl (O.assign (v := .int .i64 _) rfl) ?_
  refine Seq.nil ?_
  refine hK11 ?_
  refine Cd.seq (fun K13 hK13 => ?_)
  refine Cd.region [0, 1, 2, 3, 4, 5, 6, 7, 8, 9, 10, 11, 12, 13, 14, 15, 16, 17, 18, 19, 20, 21, 22, 23, 24] rfl ?_
  refine Seq.rd0 at0 rfl rfl (O.move (v := .int .i64 _) rfl) ?_
  refine Seq.rd0 at1 rfl rfl (O.eqI rfl rfl) ?_
  refine Seq.rd0 at2 rfl rfl (O.move (v := .bool _) rfl) ?_
  have t14 : (1 : Int) = 1 := rfl
  rw [decide_eq_true t14]
  refine Seq.rd0 at3 rfl rfl (O.move (v := .int .i64 _) rfl) ?_
  refine Seq.rd0 at4 rfl rfl (O.eqI rfl rfl) ?_
  refine Seq.rd0 at5 rfl rfl (O.pickT (v := .bool _) rfl rfl) ?_
  refine Seq.rd0 at6 rfl rfl (O.move (v := .bool _) rfl) ?_
  have t15 : (2 : Int) = 2 := rfl
  rw [decide_eq_true t15]
  refine Seq.rd0 at7 rfl rfl (O.move (v := .int .i64 _) rfl) ?_
  refine Seq.rd0 at8 rfl rfl (O.eqI rfl rfl) ?_
  refine Seq.rd0 at9 rfl rfl (O.pickT (v := .bool _) rfl rfl) ?_
  refine Seq.rd0 at10 rfl rfl (O.move (v := .bool _) rfl) ?_
  have t16 : (0 : Int) = 0 := rfl
  rw [decide_eq_true t16]
  refine Seq.rd1 at11 rfl rfl (O.loadA kd_24 rfl (Nat.le_of_ble_eq_true rfl) (Stamp_all _)) Rd.head.cons ?_
  refine Seq.rd0 at12 rfl rfl (O.build rfl (cs := (Stamp_enc (⟨1, 0⟩ : Stamp))) (by kernel_rfl)) ?_
  refine Seq.rd0 at13 rfl rfl (eqStamp rfl rfl) ?_
  refine Seq.rd0 at14 rfl rfl (O.pickT (v := .bool _) rfl rfl) ?_
  refine Seq.rd0 at15 rfl rfl (O.move (v := .bool _) rfl) ?_
  have t17 : (⟨1, 0⟩ : Stamp) = (⟨1, 0⟩ : Stamp) := rfl
  rw [decide_eq_true t17]
  refine Seq.rd0 at16 rfl rfl (O.move (v := .int .i64 _) rfl) ?_
  refine Seq.rd0 at17 rfl rfl (O.eqI rfl rfl) ?_
  refine Seq.rd0 at18 rfl rfl (O.pickT (v := .bool _) rfl rfl) ?_
  refine Seq.rd0 at19 rfl rfl (O.move (v := .bool _) rfl) ?_
  have t18 : (9 : Int) = 9 := rfl
  rw [decide_eq_true t18]
  refine Seq.rd0 at20 rfl rfl (O.move (v := .pointer _) rfl) ?_
  refine Seq.op at21 rfl (Op.callF rfl hb_63 (Fn.perm (C_So_Last (R := ((b12, _) :: (b10, _) :: []) ++ L) hS6) (bring (pre := ((b12, _) :: (b10, _) :: [])) (Ls := Ls6) (R := L))) rfl ?_)
  rintro _ _ ⟨rfl, rfl⟩
  refine Ent.perm ?_ (bring (Ls := Ls6) (pre := ((b12, _) :: (b10, _) :: [])) (R := L)).symm
  refine Seq.rd0 at22 rfl rfl (O.eqI rfl rfl) ?_
  refine Seq.rd0 at23 rfl rfl (O.pickT (v := .bool _) rfl rfl) ?_
  refine Seq.rd0 at24 rfl rfl (O.assign (v := .bool _) rfl) ?_
  refine Seq.nil ?_
  refine hK13 ?_
  refine Cd.ret ?_
  exact hR _ _ (Res.one (v := .bool _) rfl rfl) ⟨rfl, rfl⟩ (.cons _ (.cons _ (sub_app (G := Ls6) (.refl _))))

end Go.X

/- Plain laws of solo: what two commits answer. -/
namespace Go.X
/-! ## versions behind a commit -/
theorem afterPut_mem {vs : List Version} {x v : Version} (h : v ∈ afterPut vs x) : v = x ∨ v ∈ vs := by
  unfold afterPut at h
  split at h
  · exact putV_mem.1 h
  · exact .inr h
theorem AppS.mem {s : Stamp} {l : List (Key × CV)} {ws : List Write} {l' : List (Key × CV)} (h : AppS s l ws l') {k : Key} {v : Version} (hv : v ∈ getS l' k) : v.stamp = s ∨ v ∈ getS l k := by
  induction h with
  | nil => exact .inr hv
  | snoc h ih =>
    rw [getS_put] at hv
    split at hv
    · rename_i he; subst he
      rcases afterPut_mem hv with h | h
      · exact .inl (by rw [h])
      · exact ih h
    · exact ih hv
/-- the times of a store's versions are not above -/
def Top (l : List (Key × CV)) (la : Int) : Prop := ∀ k, ∀ v ∈ getS l k, ¬ (⟨la, 0⟩ : Stamp).lt v.stamp
theorem lt_time {a b : Int} (h : a < b) : (⟨a, 0⟩ : Stamp).lt ⟨b, 0⟩ := .inl h
theorem Stamp.le_lt {a b c : Stamp} (h : ¬ b.lt a) (k : b.lt c) : a.lt c := by
  rcases Stamp.lt_total a b with h1 | h1 | h1
  · exact Stamp.lt_trans h1 k
  · rw [h1]; exact k
  · exact absurd h1 h
theorem Top.com {l l' : List (Key × CV)} {la la' e : Int} {s r : Stamp} {ws : List (Key × Write)} (hT : Top l la) (h : ComX l la s ws r e l' la') : Top l' la' := by
  rcases h with ⟨_, _, _, rfl, rfl⟩ | ⟨_, _, _, _, rfl, rfl⟩ | ⟨_, _, ys, _, _, _, h9, h10⟩
  · exact hT
  · exact hT
  · by_cases he : e = 0
    · obtain ⟨_, rfl, hA⟩ := h10 he
      intro k v hv
      rcases hA.mem hv with h | h
      · rw [h]; exact Stamp.lt_irrefl _
      · intro h1
        exact hT k v h (Stamp.lt_trans (lt_time (by omega)) h1)
    · obtain ⟨_, rfl, rfl⟩ := h9 he
      exact hT
structure SInv (s : SoS) : Prop where
  top : Top s.l s.la
  sorted : ∀ k, Sorted (getS s.l k)
  nn : 0 ≤ s.la
  snap : ∀ q ∈ s.xl, ¬ (⟨s.la, 0⟩ : Stamp).lt q.2.2.1
theorem SInv.new : SInv ⟨[], [], 0, 0⟩ := ⟨fun k v hv => by simp [getS, alook] at hv, fun k => by simp only [getS, alook]; exact .nil, by decide, by simp⟩
theorem ComX.sorted {l l' : List (Key × CV)} {la la' e : Int} {s r : Stamp} {ws : List (Key × Write)} (hS : ∀ k, Sorted (getS l k)) (h : ComX l la s ws r e l' la') : ∀ k, Sorted (getS l' k) := by
  rcases h with ⟨_, _, _, rfl, rfl⟩ | ⟨_, _, _, _, rfl, rfl⟩ | ⟨_, _, ys, _, _, _, h9, h10⟩
  · exact hS
  · exact hS
  · by_cases he : e = 0
    · exact (h10 he).2.2.sorted hS
    · rw [(h9 he).2.1]; exact hS
theorem ComX.le_la {l l' : List (Key × CV)} {la la' e : Int} {s r : Stamp} {ws : List (Key × Write)} (h : ComX l la s ws r e l' la') : la ≤ la' := by
  rcases h with ⟨_, _, _, _, h⟩ | ⟨_, _, _, _, _, h⟩ | ⟨_, _, _, _, _, h8, h9, h10⟩
  · omega
  · omega
  · by_cases he : e = 0
    · have := (h10 he).2.1; omega
    · have := (h9 he).2.2; omega
theorem Moves.inv {nt : Int} {s t : SoS} (h : Moves nt s t) (hs : SInv s) : SInv t := by
  induction h with
  | refl => exact hs
  | begin xb h hti hlen ih =>
    refine ⟨ih.top, ih.sorted, ih.nn, fun q hq => ?_⟩
    rcases aput_mem hq with h | h
    · subst h; exact Stamp.lt_irrefl _
    · exact ih.snap q h
  | put x h hti ih =>
    refine ⟨ih.top, ih.sorted, ih.nn, fun q hq => ?_⟩
    unfold afterS at hq
    split at hq
    · exact ih.snap q hq
    · rename_i q0 hq0
      rcases aput_mem hq with h | h
      · rw [h]; exact ih.snap (_, q0) (alook_mem hq0)
      · exact ih.snap q h
  | commit h hti hc ih =>
    rename_i t ti r e l' la'
    cases hl : alook t.xl ti with
    | none =>
      rw [hl] at hc
      obtain ⟨_, _, rfl, rfl⟩ := hc
      exact ⟨ih.top, ih.sorted, ih.nn, fun q hq => ih.snap q ((adel_sub _ _).subset hq)⟩
    | some q =>
      rw [hl] at hc
      have hle := hc.le_la
      refine ⟨ih.top.com hc, hc.sorted ih.sorted, by have := ih.nn; simp only; omega, fun q hq h1 => ?_⟩
      have h2 := ih.snap q ((adel_sub _ _).subset hq)
      rcases Int.lt_or_eq_of_le hle with h3 | h3
      · exact h2 (Stamp.lt_trans (lt_time h3) h1)
      · simp only at h1; rw [← h3] at h1; exact h2 h1
  | abort h hti ih => exact ⟨ih.top, ih.sorted, ih.nn, fun q hq => ih.snap q ((adel_sub _ _).subset hq)⟩
  | trim h hl ht ih =>
    refine ⟨fun k v hv => ?_, fun k => ?_, ih.nn, ih.snap⟩
    · rw [ht.get] at hv; exact ih.top k v (List.mem_of_mem_drop hv)
    · rw [ht.get]; exact (ih.sorted k).sublist (List.drop_sublist _ _)
/-! ## what one puts -/
def wsAll (ws : List (Key × Write)) (us : List Write) : List (Key × Write) := us.foldl afterX ws
theorem goodWs_one (w : Write) : goodWs [w] = goodW w := by simp [goodWs]
structure WInv (ws : List (Key × Write)) : Prop where
  nd : (ws.map Prod.fst).Nodup
  good : ∀ q ∈ ws, goodW q.2 = true ∧ q.2.key = q.1
theorem WInv.nil : WInv [] := ⟨.nil, by simp⟩
theorem WInv.step {ws : List (Key × Write)} {w : Write} (h : WInv ws) : WInv (afterX ws w) := by
  unfold afterX
  split
  · rename_i h0
    have hg : goodW w = true := by
      unfold putX at h0
      rw [goodWs_one] at h0
      split at h0
      · cases h0
      · simp_all
    refine ⟨aput_nodup _ _ h.nd, fun q hq => ?_⟩
    rcases aput_mem hq with h1 | h1
    · subst h1; exact ⟨hg, rfl⟩
    · exact h.good q h1
  · exact h
/-! ## a commit of good writes above all: it is done, or there is no room -/
/-! ## two that are open at once -/
def comW (x y : Write) : Bool := decide (x.key = y.key) && goodW x && goodW y
end Go.X

/- The engine, part 19: the places of long regions. -/
namespace Go.X
open Go
end Go.X

namespace Go.X
open Go.Proofs
theorem hb_50 : hasBody Tryz.prog 50 = true := by kernel_rfl
end Go.X

namespace Go.X
open Go.Proofs

open Go.ChangeShapes Go.WideShapes Go.Deep Go.RowKit

section
variable {H : Type} {en : TypeId × Value → H} {W : World} {r : Reach} {b0 base : Nat} {spare : Nat → Bool} {held : Bool} {v : Value} {d : DataW H} {p : List MemPlace}
end

end Go.X

namespace Go.X
open Go.Proofs
theorem hb_133 : hasBody Tryz.prog 133 = true := by kernel_rfl
/-! ## reading: get, Get -/
def withinK (k a b : Key) : Bool := decide (0 ≤ k.cmp a) && (decide (b = .zero) || decide (k.cmp b < 0))
def seeX (l : List (Key × CV)) (q : TX) (k : Key) : ByteArray × Bool := match alook q.2.2 k with
  | some w => (w.val, !w.gone)
  | none => getV l k q.2.1
def seeP (l : List (Key × CV)) (q : TX) (k : Key) : ByteArray × Bool × Int := if goodK k = true then ((seeX l q k).1, (seeX l q k).2, 0) else (⟨#[]⟩, false, 1)

set_option maxRecDepth 100000 in
set_option maxHeartbeats 2000000 in
theorem C_key_Within {c : Cx} {L : List Pt} {x y z : Key} : Fn Tryz.prog 138 #[.agg (Key_enc x), .agg (Key_enc y), .agg (Key_enc z)] c L (fun v L' => v = .bool (withinK x y z) ∧ L' = L) := by
  refine Fn.enter Tryz.func138 rfl 22 rfl rfl (fun R hR => ?_)
  refine Cd.seq (fun K1 hK1 => ?_)
  refine Cd.region [0, 1, 2, 3] rfl ?_
  refine Seq.op at0 rfl (Op.new rfl (O.box (v := .agg _) rfl (cs := (Key_enc x)) rfl) ?_)
  intro b2 hb2
  refine Seq.op at1 rfl (Op.new rfl (O.box (v := .agg _) rfl (cs := (Key_enc y)) rfl) ?_)
  intro b3 hb3
  refine Seq.op at2 rfl (Op.new rfl (O.box (v := .agg _) rfl (cs := (Key_enc z)) rfl) ?_)
  intro b4 hb4
  refine Seq.rd0 at3 rfl rfl (O.assign (v := .bool _) rfl) ?_
  refine Seq.nil ?_
  refine hK1 ?_
  refine Cd.seq (fun K5 hK5 => ?_)
  refine Cd.region [0, 1, 2, 3, 4, 5, 6, 7, 8, 9, 10, 11, 12, 13, 14, 15] rfl ?_
  refine Seq.rd1 at0 rfl rfl (O.loadA kd_45 rfl (Nat.le_of_ble_eq_true rfl) (Key_all _)) Rd.head.cons.cons ?_
  refine Seq.rd1 at1 rfl rfl (O.loadA kd_45 rfl (Nat.le_of_ble_eq_true rfl) (Key_all _)) Rd.head.cons ?_
  refine Seq.op at2 rfl (Op.callF rfl hb_101 C_key_Cmp rfl ?_)
  rintro _ _ ⟨rfl, rfl⟩
  refine Seq.rd0 at3 rfl rfl (O.geq rfl rfl) ?_
  refine Seq.rd0 at4 rfl rfl (O.move (v := .bool _) rfl) ?_
  by_cases t6 : (0 : Int) ≤ ((x).cmp y)
  · rw [decide_eq_true t6]
    refine Seq.rd1 at5 rfl rfl (O.loadA kd_45 rfl (Nat.le_of_ble_eq_true rfl) (Key_all _)) Rd.head ?_
    refine Seq.rd0 at6 rfl rfl (O.build rfl (cs := (Key_enc Key.zero)) (by kernel_rfl)) ?_
    refine Seq.rd0 at7 rfl rfl (eqKey rfl rfl) ?_
    refine Seq.rd0 at8 rfl rfl (O.move (v := .bool _) rfl) ?_
    by_cases t7 : z = Key.zero
    · rw [decide_eq_true t7]
      refine Seq.pass at9 rfl rfl ?_
      refine Seq.pass at10 rfl rfl ?_
      refine Seq.pass at11 rfl rfl ?_
      refine Seq.pass at12 rfl rfl ?_
      refine Seq.rd0 at13 rfl rfl (O.pickT (v := .bool _) rfl rfl) ?_
      refine Seq.rd0 at14 rfl rfl (O.pickT (v := .bool _) rfl rfl) ?_
      refine Seq.rd0 at15 rfl rfl (O.assign (v := .bool _) rfl) ?_
      refine Seq.nil ?_
      refine hK5 ?_
      refine Cd.ret ?_
      exact hR _ _ (Res.one (v := .bool _) rfl rfl) ⟨congrArg Value.bool (by unfold withinK; first | (simp_all; done) | (simp_all; omega)), rfl⟩ (.cons _ (.cons _ (.cons _ (.refl _))))
    · rw [decide_eq_false t7]
      refine Seq.rd1 at9 rfl rfl (O.loadA kd_45 rfl (Nat.le_of_ble_eq_true rfl) (Key_all _)) Rd.head.cons.cons ?_
      refine Seq.rd1 at10 rfl rfl (O.loadA kd_45 rfl (Nat.le_of_ble_eq_true rfl) (Key_all _)) Rd.head ?_
      refine Seq.op at11 rfl (Op.callF rfl hb_101 C_key_Cmp rfl ?_)
      rintro _ _ ⟨rfl, rfl⟩
      refine Seq.rd0 at12 rfl rfl (O.lss rfl rfl) ?_
      refine Seq.rd0 at13 rfl rfl (O.pickF (v := .bool _) rfl rfl) ?_
      refine Seq.rd0 at14 rfl rfl (O.pickT (v := .bool _) rfl rfl) ?_
      refine Seq.rd0 at15 rfl rfl (O.assign (v := .bool _) rfl) ?_
      refine Seq.nil ?_
      refine hK5 ?_
      refine Cd.ret ?_
      exact hR _ _ (Res.one (v := .bool _) rfl rfl) ⟨congrArg Value.bool (by unfold withinK; first | (simp_all; done) | (simp_all; omega)), rfl⟩ (.cons _ (.cons _ (.cons _ (.refl _))))
  · rw [decide_eq_false t6]
    refine Seq.pass at5 rfl rfl ?_
    refine Seq.pass at6 rfl rfl ?_
    refine Seq.pass at7 rfl rfl ?_
    refine Seq.pass at8 rfl rfl ?_
    refine Seq.pass at9 rfl rfl ?_
    refine Seq.pass at10 rfl rfl ?_
    refine Seq.pass at11 rfl rfl ?_
    refine Seq.pass at12 rfl rfl ?_
    refine Seq.pass at13 rfl rfl ?_
    refine Seq.rd0 at14 rfl rfl (O.pickF (v := .bool _) rfl rfl) ?_
    refine Seq.rd0 at15 rfl rfl (O.assign (v := .bool _) rfl) ?_
    refine Seq.nil ?_
    refine hK5 ?_
    refine Cd.ret ?_
    exact hR _ _ (Res.one (v := .bool _) rfl rfl) ⟨congrArg Value.bool (by unfold withinK; first | (simp_all; done) | (simp_all; omega)), rfl⟩ (.cons _ (.cons _ (.cons _ (.refl _))))

set_option maxRecDepth 100000 in
set_option maxHeartbeats 2000000 in
theorem C_solo_getx {c : Cx} {L : List Pt} {p sb lm ck : Nat} {es : Array MapEntry} {l : List (Key × CV)} {xl : List (I64 × TX)} {bg la : Int} (hp : Rd c L p (.cells #[.pointer (some ⟨sb, 0, none⟩), .map (some lm), .int .i64 bg, .int .i64 la] 203 (0, 0))) (hS : StAt c L sb l) {q : TX} {mb ck9 : Nat} {es9 : Array MapEntry} (hxr : Rd c L q.1 (.cells #[.int .i64 q.2.1.t, .int .u8 q.2.1.n, .map (some mb)] 208 (0, 0))) (hmr : Rd c L mb (.map es9 ck9)) (hMw : MapIs keyV wV es9 ck9 q.2.2) {k : Key} : Fn Tryz.prog 133 #[.pointer (some ⟨p, 0, none⟩), .pointer (some ⟨q.1, 0, none⟩), .agg (Key_enc k)] c L (fun v L' => v = .tuple #[.string (seeX l q k).1, .bool (seeX l q k).2] ∧ L' = L) := by
  refine Fn.enter Tryz.func133 rfl 37 rfl rfl (fun R hR => ?_)
  refine Cd.seq (fun K1 hK1 => ?_)
  refine Cd.region [0, 1, 2] rfl ?_
  refine Seq.op at0 rfl (Op.new rfl (O.box (v := .agg _) rfl (cs := (Key_enc k)) rfl) ?_)
  intro b2 hb2
  refine Seq.rd0 at1 rfl rfl (O.assign (v := .string _) rfl) ?_
  refine Seq.rd0 at2 rfl rfl (O.assign (v := .bool _) rfl) ?_
  refine Seq.nil ?_
  refine hK1 ?_
  refine Cd.seq (fun K3 hK3 => ?_)
  refine Cd.seq (fun K4 hK4 => ?_)
  refine Cd.draw 12 rfl po ?_
  refine Any.rd0 0 at0 rfl rfl (O.move (v := .pointer _) rfl) (by kernel_rfl) (by kernel_rfl) (by kernel_rfl) ?_
  refine Any.rd0 1 at1 rfl rfl (O.nilP rfl) (by kernel_rfl) (by kernel_rfl) (by kernel_rfl) ?_
  refine Any.rd0 2 at2 rfl rfl (O.field fo_208_1 rfl) (by kernel_rfl) (by kernel_rfl) (by kernel_rfl) ?_
  refine Any.rd1 3 at3 rfl rfl (O.load kd_165 rfl r3_2) hxr.cons (by kernel_rfl) (by kernel_rfl) (by kernel_rfl) ?_
  refine Any.rd1 4 at4 rfl rfl (O.loadA kd_45 rfl (Nat.le_of_ble_eq_true rfl) (Key_all _)) Rd.head (by kernel_rfl) (by kernel_rfl) (by kernel_rfl) ?_
  refine Any.rd1 5 at5 rfl rfl (O.lookD (ok := true) (encV := wV) (a := k) wz mp_165 kk_key hMw zo_47 rfl (by exact rfl)) hmr.cons (by kernel_rfl) (by kernel_rfl) (by kernel_rfl) ?_
  refine Any.rd0 6 at6 rfl rfl (O.move (v := .tuple _) rfl) (by kernel_rfl) (by kernel_rfl) (by kernel_rfl) ?_
  refine Any.rd0 7 at7 rfl rfl (O.ext rfl r2_0) (by kernel_rfl) (by kernel_rfl) (by kernel_rfl) ?_
  refine Any.rd0 8 at8 rfl rfl (O.ext rfl r2_1) (by kernel_rfl) (by kernel_rfl) (by kernel_rfl) ?_
  refine Any.one 9 at9 rfl (by kernel_rfl) ⟨⟨⟨trivial, hxr.cons⟩, Rd.head⟩, hmr.cons⟩ ?_
  refine Op.new rfl (O.alloc zo_47 (cs := (Write_enc Write.zero)) rfl) ?_
  intro b5 hb5
  refine Any.toK ?_
  refine Any.one 10 at10 rfl (by kernel_rfl) ⟨⟨⟨trivial, hxr.cons.cons⟩, Rd.head.cons⟩, hmr.cons.cons⟩ ?_
  refine Op.set0 rfl (O.store kd_47 rfl (v := .agg _) rfl (Write_size _) (Write_room (Write_size _)) (Write_one _) (Write_put _ (Write_size _))) ?_
  refine Any.toK ?_
  refine Any.rd0 11 at11 rfl rfl (O.assign (v := .bool _) rfl) (by kernel_rfl) (by kernel_rfl) (by kernel_rfl) ?_
  refine Any.done (by kernel_rfl) ⟨⟨⟨trivial, hxr.cons.cons⟩, Rd.head.cons⟩, hmr.cons.cons⟩ ?_
  refine hK4 ?_
  refine Cd.seq (fun K6 hK6 => ?_)
  refine Cd.region [0] rfl ?_
  refine Seq.rd0 at0 rfl rfl (O.move (v := .bool _) rfl) ?_
  refine Seq.nil ?_
  refine hK6 ?_
  refine Cd.cond ((alook q.2.2 k).isSome) rfl (fun t7 => ?_) (fun t7 => ?_)
  · skip
    refine Cd.seq (fun K8 hK8 => ?_)
    refine Cd.draw 7 rfl po ?_
    refine Any.rd0 0 at0 rfl rfl (O.field fo_47_1 rfl) (by kernel_rfl) (by kernel_rfl) (by kernel_rfl) ?_
    refine Any.rd1 1 at1 rfl rfl (O.load kd_9 rfl (Write_val _)) Rd.head (by kernel_rfl) (by kernel_rfl) (by kernel_rfl) ?_
    refine Any.rd0 2 at2 rfl rfl (O.field fo_47_2 rfl) (by kernel_rfl) (by kernel_rfl) (by kernel_rfl) ?_
    refine Any.rd1 3 at3 rfl rfl (O.load kd_4 rfl (Write_gone _)) Rd.head (by kernel_rfl) (by kernel_rfl) (by kernel_rfl) ?_
    refine Any.rd0 4 at4 rfl rfl (O.not rfl) (by kernel_rfl) (by kernel_rfl) (by kernel_rfl) ?_
    refine Any.rd0 5 at5 rfl rfl (O.assign (v := .string _) rfl) (by kernel_rfl) (by kernel_rfl) (by kernel_rfl) ?_
    refine Any.rd0 6 at6 rfl rfl (O.assign (v := .bool _) rfl) (by kernel_rfl) (by kernel_rfl) (by kernel_rfl) ?_
    refine Any.done (by kernel_rfl) ⟨⟨trivial, Rd.head⟩, Rd.head⟩ ?_
    refine hK8 ?_
    refine Cd.ret ?_
    exact hR _ _ (Res.two (v := .string _) (v' := .bool _) rfl rfl rfl) ⟨by unfold seeX; cases h8 : alook q.2.2 k <;> simp_all, rfl⟩ (.cons _ (.cons _ (.refl _)))
  · skip
    refine Cd.skip ?_
    refine hK3 ?_
    refine Cd.seq (fun K9 hK9 => ?_)
    refine Cd.draw 14 rfl po ?_
    refine Any.rd0 0 at0 rfl rfl (O.move (v := .pointer _) rfl) (by kernel_rfl) (by kernel_rfl) (by kernel_rfl) ?_
    refine Any.rd0 1 at1 rfl rfl (O.nilP rfl) (by kernel_rfl) (by kernel_rfl) (by kernel_rfl) ?_
    refine Any.rd0 2 at2 rfl rfl (O.field fo_203_0 rfl) (by kernel_rfl) (by kernel_rfl) (by kernel_rfl) ?_
    refine Any.rd1 3 at3 rfl rfl (O.load kd_137 rfl r4_0) hp.cons.cons (by kernel_rfl) (by kernel_rfl) (by kernel_rfl) ?_
    refine Any.rd1 4 at4 rfl rfl (O.loadA kd_45 rfl (Nat.le_of_ble_eq_true rfl) (Key_all _)) Rd.head.cons (by kernel_rfl) (by kernel_rfl) (by kernel_rfl) ?_
    refine Any.rd0 5 at5 rfl rfl (O.move (v := .pointer _) rfl) (by kernel_rfl) (by kernel_rfl) (by kernel_rfl) ?_
    refine Any.rd0 6 at6 rfl rfl (O.nilP rfl) (by kernel_rfl) (by kernel_rfl) (by kernel_rfl) ?_
    refine Any.rd0 7 at7 rfl rfl (O.field fo_208_0 rfl) (by kernel_rfl) (by kernel_rfl) (by kernel_rfl) ?_
    refine Any.rd1 8 at8 rfl rfl (O.loadA kd_24 rfl (Nat.le_of_ble_eq_true rfl) rfl) hxr.cons.cons (by kernel_rfl) (by kernel_rfl) (by kernel_rfl) ?_
    refine Any.one 9 at9 rfl (by kernel_rfl) ⟨⟨⟨trivial, hp.cons.cons⟩, Rd.head.cons⟩, hxr.cons.cons⟩ ?_
    refine Op.callF rfl hb_100 (C_store_Get (k := k) (s := q.2.1) (hS.cons.cons)) rfl ?_
    rintro _ _ ⟨rfl, rfl⟩
    refine Any.toK ?_
    refine Any.rd0 10 at10 rfl rfl (O.ext rfl r2_0) (by kernel_rfl) (by kernel_rfl) (by kernel_rfl) ?_
    refine Any.rd0 11 at11 rfl rfl (O.ext rfl r2_1) (by kernel_rfl) (by kernel_rfl) (by kernel_rfl) ?_
    refine Any.rd0 12 at12 rfl rfl (O.assign (v := .string _) rfl) (by kernel_rfl) (by kernel_rfl) (by kernel_rfl) ?_
    refine Any.rd0 13 at13 rfl rfl (O.assign (v := .bool _) rfl) (by kernel_rfl) (by kernel_rfl) (by kernel_rfl) ?_
    refine Any.done (by kernel_rfl) ⟨⟨⟨trivial, hp.cons.cons⟩, Rd.head.cons⟩, hxr.cons.cons⟩ ?_
    refine hK9 ?_
    refine Cd.ret ?_
    exact hR _ _ (Res.two (v := .string _) (v' := .bool _) rfl rfl rfl) ⟨by unfold seeX; cases h8 : alook q.2.2 k <;> simp_all, rfl⟩ (.cons _ (.cons _ (.refl _)))

set_option maxRecDepth 100000 in
set_option maxHeartbeats 2000000 in
theorem C_solo_Get_none {c : Cx} {L : List Pt} {p sb lm ck : Nat} {es : Array MapEntry} {l : List (Key × CV)} {xl : List (I64 × TX)} {bg la : Int} (hp : Rd c L p (.cells #[.pointer (some ⟨sb, 0, none⟩), .map (some lm), .int .i64 bg, .int .i64 la] 203 (0, 0))) (hlm : Rd c L lm (.map es ck)) (hMx : MapIs i64V txV es ck xl) {ti : I64} {k : Key} (hl : alook xl ti = none) : Fn Tryz.prog 58 #[.pointer (some ⟨p, 0, none⟩), .int .i64 ti.1, .agg (Key_enc k)] c L (fun v L' => v = .tuple #[.string ⟨#[]⟩, .bool false, .int .i64 4] ∧ L' = L) := by
  refine Fn.enter Tryz.func58 rfl 34 rfl rfl (fun R hR => ?_)
  refine Cd.seq (fun K1 hK1 => ?_)
  refine Cd.region [0, 1, 2, 3] rfl ?_
  refine Seq.op at0 rfl (Op.new rfl (O.box (v := .agg _) rfl (cs := (Key_enc k)) rfl) ?_)
  intro b2 hb2
  refine Seq.rd0 at1 rfl rfl (O.assign (v := .string _) rfl) ?_
  refine Seq.rd0 at2 rfl rfl (O.assign (v := .bool _) rfl) ?_
  refine Seq.rd0 at3 rfl rfl (O.assign (v := .int .i64 _) rfl) ?_
  refine Seq.nil ?_
  refine hK1 ?_
  refine Cd.seq (fun K3 hK3 => ?_)
  refine Cd.region [0, 1, 2, 3, 4, 5, 6] rfl ?_
  refine Seq.rd0 at0 rfl rfl (O.move (v := .pointer _) rfl) ?_
  refine Seq.rd0 at1 rfl rfl (O.nilP rfl) ?_
  refine Seq.rd0 at2 rfl rfl (O.field fo_203_1 rfl) ?_
  refine Seq.rd1 at3 rfl rfl (O.load kd_201 rfl r4_1) hp.cons ?_
  refine Seq.rd0 at4 rfl rfl (O.move (v := .int .i64 _) rfl) ?_
  refine Seq.rd1 at5 rfl rfl (O.lookN (ok := false) (encV := txV) (a := ti) mp_201 kk_i64 hMx zo_206 rfl (by exact rfl) hl) hlm.cons ?_
  refine Seq.rd0 at6 rfl rfl (O.assign (v := .pointer _) rfl) ?_
  refine Seq.nil ?_
  refine hK3 ?_
  refine Cd.seq (fun K4 hK4 => ?_)
  refine Cd.block ?_
  refine Cd.seq (fun K5 hK5 => ?_)
  refine Cd.region [0, 1, 2] rfl ?_
  refine Seq.rd0 at0 rfl rfl (O.move (v := .pointer _) rfl) ?_
  refine Seq.rd0 at1 rfl rfl (O.eqNil ds_206 rfl rfl) ?_
  refine Seq.rd0 at2 rfl rfl (O.assign (v := .bool _) rfl) ?_
  refine Seq.nil ?_
  refine hK5 ?_
  refine Cd.condT rfl ?_
  refine Cd.seq (fun K6 hK6 => ?_)
  refine Cd.region [0, 1, 2] rfl ?_
  refine Seq.rd0 at0 rfl rfl (O.assign (v := .string _) rfl) ?_
  refine Seq.rd0 at1 rfl rfl (O.assign (v := .bool _) rfl) ?_
  refine Seq.rd0 at2 rfl rfl (O.assign (v := .int .i64 _) rfl) ?_
  refine Seq.nil ?_
  refine hK6 ?_
  refine Cd.ret ?_
  exact hR _ _ (Res.three (v := .string _) (v' := .bool _) (v'' := .int .i64 _) rfl rfl rfl rfl) ⟨rfl, rfl⟩ (.cons _ (.refl _))

set_option maxRecDepth 100000 in
set_option maxHeartbeats 2000000 in
theorem C_solo_Get_some {c : Cx} {L : List Pt} {p sb lm ck : Nat} {es : Array MapEntry} {l : List (Key × CV)} {xl : List (I64 × TX)} {bg la : Int} (hp : Rd c L p (.cells #[.pointer (some ⟨sb, 0, none⟩), .map (some lm), .int .i64 bg, .int .i64 la] 203 (0, 0))) (hS : StAt c L sb l) (hlm : Rd c L lm (.map es ck)) (hMx : MapIs i64V txV es ck xl) {q : TX} {mb ck9 : Nat} {es9 : Array MapEntry} (hxr : Rd c L q.1 (.cells #[.int .i64 q.2.1.t, .int .u8 q.2.1.n, .map (some mb)] 208 (0, 0))) (hmr : Rd c L mb (.map es9 ck9)) (hMw : MapIs keyV wV es9 ck9 q.2.2) {ti : I64} {k : Key} (hl : alook xl ti = some q) : Fn Tryz.prog 58 #[.pointer (some ⟨p, 0, none⟩), .int .i64 ti.1, .agg (Key_enc k)] c L (fun v L' => v = .tuple #[.string (seeP l q k).1, .bool (seeP l q k).2.1, .int .i64 (seeP l q k).2.2] ∧ L' = L) := by
  refine Fn.enter Tryz.func58 rfl 34 rfl rfl (fun R hR => ?_)
  refine Cd.seq (fun K1 hK1 => ?_)
  refine Cd.region [0, 1, 2, 3] rfl ?_
  refine Seq.op at0 rfl (Op.new rfl (O.box (v := .agg _) rfl (cs := (Key_enc k)) rfl) ?_)
  intro b2 hb2
  refine Seq.rd0 at1 rfl rfl (O.assign (v := .string _) rfl) ?_
  refine Seq.rd0 at2 rfl rfl (O.assign (v := .bool _) rfl) ?_
  refine Seq.rd0 at3 rfl rfl (O.assign (v := .int .i64 _) rfl) ?_
  refine Seq.nil ?_
  refine hK1 ?_
  refine Cd.seq (fun K3 hK3 => ?_)
  refine Cd.region [0, 1, 2, 3, 4, 5, 6] rfl ?_
  refine Seq.rd0 at0 rfl rfl (O.move (v := .pointer _) rfl) ?_
  refine Seq.rd0 at1 rfl rfl (O.nilP rfl) ?_
  refine Seq.rd0 at2 rfl rfl (O.field fo_203_1 rfl) ?_
  refine Seq.rd1 at3 rfl rfl (O.load kd_201 rfl r4_1) hp.cons ?_
  refine Seq.rd0 at4 rfl rfl (O.move (v := .int .i64 _) rfl) ?_
  refine Seq.rd1 at5 rfl rfl (O.lookS (ok := false) (encV := txV) (a := ti) mp_201 kk_i64 hMx rfl (by exact rfl) hl) hlm.cons ?_
  refine Seq.rd0 at6 rfl rfl (O.assign (v := .pointer _) rfl) ?_
  refine Seq.nil ?_
  refine hK3 ?_
  refine Cd.seq (fun K4 hK4 => ?_)
  refine Cd.block ?_
  refine Cd.seq (fun K5 hK5 => ?_)
  refine Cd.region [0, 1, 2] rfl ?_
  refine Seq.rd0 at0 rfl rfl (O.move (v := .pointer _) rfl) ?_
  refine Seq.rd0 at1 rfl rfl (O.eqNil ds_206 rfl rfl) ?_
  refine Seq.rd0 at2 rfl rfl (O.assign (v := .bool _) rfl) ?_
  refine Seq.nil ?_
  refine hK5 ?_
  refine Cd.condF rfl ?_
  refine Cd.seq (fun K6 hK6 => ?_)
  refine Cd.region [0, 1, 2, 3] rfl ?_
  refine Seq.rd1 at0 rfl rfl (O.loadA kd_45 rfl (Nat.le_of_ble_eq_true rfl) (Key_all _)) Rd.head ?_
  refine Seq.op at1 rfl (Op.callF rfl hb_97 C_key_Good rfl ?_)
  rintro _ _ ⟨rfl, rfl⟩
  refine Seq.rd0 at2 rfl rfl (O.not rfl) ?_
  refine Seq.rd0 at3 rfl rfl (O.assign (v := .bool _) rfl) ?_
  refine Seq.nil ?_
  refine hK6 ?_
  refine Cd.cond (!(goodK k)) rfl (fun t7 => ?_) (fun t7 => ?_)
  · skip
    refine Cd.seq (fun K8 hK8 => ?_)
    refine Cd.region [0, 1, 2] rfl ?_
    refine Seq.rd0 at0 rfl rfl (O.assign (v := .string _) rfl) ?_
    refine Seq.rd0 at1 rfl rfl (O.assign (v := .bool _) rfl) ?_
    refine Seq.rd0 at2 rfl rfl (O.assign (v := .int .i64 _) rfl) ?_
    refine Seq.nil ?_
    refine hK8 ?_
    refine Cd.ret ?_
    exact hR _ _ (Res.three (v := .string _) (v' := .bool _) (v'' := .int .i64 _) rfl rfl rfl rfl) ⟨by unfold seeP; simp_all, rfl⟩ (.cons _ (.refl _))
  · skip
    refine Cd.skip ?_
    refine hK4 ?_
    refine Cd.seq (fun K9 hK9 => ?_)
    refine Cd.region [0, 1, 2, 3, 4, 5, 6, 7, 8] rfl ?_
    refine Seq.rd0 at0 rfl rfl (O.move (v := .pointer _) rfl) ?_
    refine Seq.rd0 at1 rfl rfl (O.move (v := .pointer _) rfl) ?_
    refine Seq.rd1 at2 rfl rfl (O.loadA kd_45 rfl (Nat.le_of_ble_eq_true rfl) (Key_all _)) Rd.head ?_
    refine Seq.op at3 rfl (Op.callF rfl hb_133 (C_solo_getx (es := es) (ck := ck) (xl := xl) (k := k) (hp.cons) (hS.cons) (hxr.cons) (hmr.cons) hMw) rfl ?_)
    rintro _ _ ⟨rfl, rfl⟩
    refine Seq.rd0 at4 rfl rfl (O.move (v := .tuple _) rfl) ?_
    refine Seq.rd0 at5 rfl rfl (O.ext rfl r2_0) ?_
    refine Seq.rd0 at6 rfl rfl (O.ext rfl r2_1) ?_
    refine Seq.rd0 at7 rfl rfl (O.assign (v := .string _) rfl) ?_
    refine Seq.rd0 at8 rfl rfl (O.assign (v := .bool _) rfl) ?_
    refine Seq.nil ?_
    refine hK9 ?_
    refine Cd.seq (fun K10 hK10 => ?_)
    refine Cd.region [0, 1, 2, 3, 4] rfl ?_
    refine Seq.rd0 at0 rfl rfl (O.move (v := .string _) rfl) ?_
    refine Seq.rd0 at1 rfl rfl (O.move (v := .bool _) rfl) ?_
    refine Seq.rd0 at2 rfl rfl (O.assign (v := .string _) rfl) ?_
    refine Seq.rd0 at3 rfl rfl (O.assign (v := .bool _) rfl) ?_
    refine Seq.rd0 at4 rfl rfl (O.assign (v := .int .i64 _) rfl) ?_
    refine Seq.nil ?_
    refine hK10 ?_
    refine Cd.ret ?_
    exact hR _ _ (Res.three (v := .string _) (v' := .bool _) (v'' := .int .i64 _) rfl rfl rfl rfl) ⟨by unfold seeP; simp_all, rfl⟩ (.cons _ (.refl _))

theorem SoOwn.rd {c : Cx} {R Ls : List Pt} {p : Nat} {l : List (Key × CV)} {xl : List (I64 × TX)} {bg la : Int} (hS : SoOwn p l xl bg la Ls) : ∃ sb lm es ck, Rd c (Ls ++ R) p (.cells #[.pointer (some ⟨sb, 0, none⟩), .map (some lm), .int .i64 bg, .int .i64 la] 203 (0, 0)) ∧ StAt c (Ls ++ R) sb l ∧ Rd c (Ls ++ R) lm (.map es ck) ∧ MapIs i64V txV es ck xl ∧
    ∀ {ti : I64} {q : TX}, alook xl ti = some q → ∃ mb es9 ck9, Rd c (Ls ++ R) q.1 (.cells #[.int .i64 q.2.1.t, .int .u8 q.2.1.n, .map (some mb)] 208 (0, 0)) ∧ Rd c (Ls ++ R) mb (.map es9 ck9) ∧ MapIs keyV wV es9 ck9 q.2.2 ∧ q.2.2.length ≤ 16 := by
  obtain ⟨⟨sb, lm, es, ck, L1, L2, rfl, h1, h2, h3⟩, h4, h5, h6⟩ := hS
  refine ⟨sb, lm, es, ck, .head, ?_, Rd.head.cons, h2, fun hl => ?_⟩
  · have := StOwn.at_ (c := c) (R := L2 ++ R) h1
    rw [← List.append_assoc] at this
    exact this.cons.cons
  · obtain ⟨mb, es9, ck9, h7, h8, h9, h10⟩ := h3.rd (c := c) (R := R) hl
    have e : L1 ++ L2 ++ R = L1 ++ (L2 ++ R) := List.append_assoc _ _ _
    refine ⟨mb, es9, ck9, ?_, ?_, h9, h10⟩
    · have := h7.app (G := L1); rw [← e] at this; exact this.cons.cons
    · have := h8.app (G := L1); rw [← e] at this; exact this.cons.cons
theorem C_So_Get {c : Cx} {R Ls : List Pt} {p : Nat} {l : List (Key × CV)} {xl : List (I64 × TX)} {bg la : Int} {ti : I64} {k : Key} {q : TX} (hS : SoOwn p l xl bg la Ls) (hl : alook xl ti = some q) :
    Fn Tryz.prog 58 #[.pointer (some ⟨p, 0, none⟩), .int .i64 ti.1, .agg (Key_enc k)] c (Ls ++ R) (fun v L' => v = .tuple #[.string (seeP l q k).1, .bool (seeP l q k).2.1, .int .i64 (seeP l q k).2.2] ∧ L' = Ls ++ R) := by
  obtain ⟨sb, lm, es, ck, h1, h2, h3, h4, h5⟩ := hS.rd (c := c) (R := R)
  obtain ⟨mb, es9, ck9, h6, h7, h8, _⟩ := h5 hl
  exact C_solo_Get_some h1 h2 h3 h4 h6 h7 h8 hl
theorem C_So_GetN {c : Cx} {R Ls : List Pt} {p : Nat} {l : List (Key × CV)} {xl : List (I64 × TX)} {bg la : Int} {ti : I64} {k : Key} (hS : SoOwn p l xl bg la Ls) (hl : alook xl ti = none) :
    Fn Tryz.prog 58 #[.pointer (some ⟨p, 0, none⟩), .int .i64 ti.1, .agg (Key_enc k)] c (Ls ++ R) (fun v L' => v = .tuple #[.string ⟨#[]⟩, .bool false, .int .i64 4] ∧ L' = Ls ++ R) := by
  obtain ⟨sb, lm, es, ck, h1, h2, h3, h4, h5⟩ := hS.rd (c := c) (R := R)
  exact C_solo_Get_none (l := l) h1 h3 h4 hl

set_option maxRecDepth 100000 in
set_option maxHeartbeats 2000000 in
theorem C_key_SortO {c : Cx} {L : List Pt} {av : Option Addr} {nx cx : Nat} {xs : List Key} (hX : SlAt c L Key_enc av nx xs) (hN : xs.length ≤ 1000000000) : Fn Tryz.prog 134 #[.slice av nx cx] c L (fun v L' => ∃ ys Ls, KSorted ys ∧ (∀ k, k ∈ ys ↔ k ∈ xs) ∧ OwnK ys v Ls ∧ L' = Ls ++ L) := by
  refine Fn.enter Tryz.func134 rfl 7 rfl rfl (fun R hR => ?_)
  refine Cd.seq (fun K1 hK1 => ?_)
  refine Cd.region [0] rfl ?_
  refine Seq.rd0 at0 rfl rfl (O.assign (v := .slice _ _ _) rfl) ?_
  refine Seq.nil ?_
  refine hK1 ?_
  refine Cd.seq (fun K2 hK2 => ?_)
  refine Cd.region [0, 1, 2, 3, 4] rfl ?_
  refine Seq.rd0 at0 rfl rfl (O.move (v := .slice _ _ _) rfl) ?_
  refine Seq.op at1 rfl (Op.callF rfl hb_200 C_slicesValues rfl ?_)
  rintro _ _ ⟨bb3, hbb3, rfl, rfl⟩
  refine Seq.op at2 rfl (Op.callF rfl hb_199 (C_SortedFunc_Key (gf := 238) (lb := [.pointer (some ⟨bb3, 0, none⟩)]) (N := xs.length) (S := fun ys => ys = xs) hN (by kernel_rfl) (C_Values Rd.head (hX.cons)) (fun _ h => Nat.le_of_eq (congrArg List.length h))) rfl ?_)
  rintro v9 _ ⟨xs9, ys9, Ls9, hS9, hp9, ho9, hw9, rfl⟩
  refine Seq.op at3 rfl (Op.callF rfl hb_198 (C_Compact hw9 (by rw [hp9.length_eq, hS9]; omega)) rfl ?_)
  rintro v8 _ ⟨Ls8, hw8, rfl⟩
  refine Seq.rd0 at4 rfl rfl (O.assign (v := v8) rfl) ?_
  refine Seq.nil ?_
  refine hK2 ?_
  refine Cd.ret ?_
  have hm8 : ∀ k, k ∈ dd ys9 ↔ k ∈ xs := fun k => by rw [dd_mem, hp9.mem_iff, hS9]
  exact hR _ _ (Res.one (v := v8) rfl rfl) ⟨dd ys9, Ls8, dd_ord ho9, hm8, hw8, rfl⟩ (List.Sublist.append_left (.cons _ (.refl _)) _)

end Go.X
