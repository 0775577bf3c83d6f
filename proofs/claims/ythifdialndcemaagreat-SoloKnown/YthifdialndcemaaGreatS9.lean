/- Part 9 of the proofs over this program: what its functions compute. -/
import Derived.Test.YthifdialndcemaaGreatProg
import Derived.Test.YthifdialndcemaaGreatS8
set_option linter.unusedVariables false
set_option linter.unusedSimpArgs false

namespace Go.X
open Go.Proofs
theorem ds_66 : isDesc Tryz.prog 66 = 5 := by kernel_rfl
theorem ei_66 : elemInfo Tryz.prog 66 = some (111, 17, 32, .agg #[.int .u8 0, .int .u8 0, .int .u8 0, .int .u8 0, .int .u8 0, .int .u8 0, .int .u8 0, .int .u8 0, .int .u8 0, .int .u8 0, .int .u8 0, .int .u8 0, .int .u8 0, .int .u8 0, .int .u8 0, .int .u8 0, .string ⟨#[]⟩]) := by kernel_rfl
theorem hb_137 : hasBody Tryz.prog 137 = true := by kernel_rfl
theorem hb_138 : hasBody Tryz.prog 138 = true := by kernel_rfl
set_option maxRecDepth 100000 in
set_option maxHeartbeats 2000000 in
theorem C_keysWr_fn {c : Cx} {L : List Pt} {V : Type} {encV : V → Value} {Rt Lo : List Pt} {bb bm l ck : Nat} {es : Array MapEntry} {lst : List (Key × V)} {I : List Key → List Pt → Prop} (hm : MapIs (fun x : Key => (.agg (Key_enc x))) encV es ck lst) (hb : Rd c Rt bb (.cells #[.map (some bm)] 165 (0, 0))) (hr : Rd c Rt bm (.map es ck)) (hY : ∀ pre x Lo R', pre.length < lst.length → I pre Lo → YStep Tryz.prog c l ((fun x : Key => (.agg (Key_enc x))) x) (Lo ++ R') (fun L' => ∃ Lo', I (pre ++ [x]) Lo' ∧ L' = Lo' ++ R')) (h0 : I [] Lo) : Fn Tryz.prog 203 #[.func (.yield l) #[] #[], .pointer (some ⟨bb, 0, none⟩)] c (Lo ++ Rt) (fun v L' => ∃ xs Lo', xs.Perm (lst.map Prod.fst) ∧ I xs Lo' ∧ L' = Lo' ++ Rt) := by
  refine Fn.enter Tryz.func203 rfl 14 rfl rfl (fun R hR => ?_)
  refine Cd.seq (fun K1 hK1 => ?_)
  refine Cd.region [0, 1] rfl ?_
  refine Seq.rd1 at0 rfl rfl (O.load kd_165 rfl r1_0) (hb.sub (List.sublist_append_right _ _)) ?_
  refine Seq.op at1 rfl (Op.gen rfl (O.range mp_165 hm rfl (hr.sub (List.sublist_append_right _ _))) ?_)
  rintro _ _ ⟨r, it, hr0, rfl, hi, rfl⟩
  refine Seq.nil ?_
  refine hK1 ?_
  refine Cd.block ?_
  refine Cd.loop (fun m2 e3 L4 => ∃ pre : List Key, ∃ rest : List (Key × V), ∃ Lo1 : List Pt, ∃ it : Obj, m2 = rest.length ∧ e3 0 = .func (.yield l) #[] #[] ∧ e3 5 = .pointer (some ⟨r, 0, none⟩) ∧ L4 = (r, it) :: (Lo1 ++ Rt) ∧ I pre Lo1 ∧ ItIs (fun x : Key => (.agg (Key_enc x))) encV es ck bm rest it ∧ (pre ++ rest.map Prod.fst).Perm (lst.map Prod.fst)) _ ⟨[], lst, Lo, it, rfl, rfl, rfl, rfl, h0, hi, .refl _⟩ ?_
  rintro _ e3 _ ⟨pre, rest, Lo1, it, rfl, s5, s6, rfl, hI, hi, hp⟩ K7 hK7
  refine Cd.seq (fun K8 hK8 => ?_)
  refine Cd.region [0, 1] rfl ?_
  refine Seq.op at0 rfl (Op.gen rfl (O.next hm hi (by exact s6) (Rd.cons (hr.sub (List.sublist_append_right _ _)))) ?_)
  rintro _ _ (⟨rfl, rfl, rfl⟩ | ⟨a, u, rest', it', hpm, rfl, hi', hent, rfl⟩)
  · skip
    refine Seq.rd0 at1 rfl rfl (O.ext rfl r1_0) ?_
    refine Seq.nil ?_
    refine hK8 ?_
    refine Cd.seq (fun K9 hK9 => ?_)
    refine Cd.condF rfl ?_
    refine Cd.exit ?_
    exact hR _ _ (Res.zero rfl) ⟨pre, Lo1, by simpa using hp, hI, rfl⟩ (.cons _ (.refl _))
  · skip
    refine Seq.rd0 at1 rfl rfl (O.ext rfl r3_0) ?_
    refine Seq.nil ?_
    refine hK8 ?_
    refine Cd.seq (fun K10 hK10 => ?_)
    refine Cd.condT rfl ?_
    refine Cd.skip ?_
    refine hK10 ?_
    refine Cd.block ?_
    refine Cd.seq (fun K11 hK11 => ?_)
    refine Cd.region [0, 1, 2, 3] rfl ?_
    refine Seq.op at0 rfl (Op.gen rfl (hent _ _ (by exact s6) Rd.head (Rd.cons (hr.sub (List.sublist_append_right _ _)))) ?_)
    rintro _ _ ⟨rfl, rfl⟩
    refine Seq.rd0 at1 rfl rfl (O.ext rfl r2_0) ?_
    refine Seq.op at2 rfl (Op.new rfl (O.alloc zo_45 (cs := (Key_enc Key.zero)) rfl) ?_)
    intro b12 hb12
    refine Seq.op at3 rfl (Op.set0 rfl (O.store kd_45 rfl (v := .agg _) rfl (Key_size _) (Key_room (Key_size _)) (Key_one _) (Key_put _ (Key_size _))) ?_)
    refine Seq.nil ?_
    refine hK11 ?_
    refine Cd.seq (fun K13 hK13 => ?_)
    refine Cd.region [0, 1, 2, 3] rfl ?_
    refine Seq.rd0 at0 rfl rfl (O.move (v := (.func (.yield l) #[] #[])) (by exact s5)) ?_
    refine Seq.rd1 at1 rfl rfl (O.loadA kd_45 rfl (Nat.le_of_ble_eq_true rfl) (Key_all _)) Rd.head ?_
    refine Seq.opY at2 rfl (Ent.perm (Op.yield rfl rfl rfl (hY pre a Lo1 _ (step_lt hp hpm) hI) ?_) (bring (Ls := Lo1) (pre := [(b12, _), (r, _)]) (R := Rt)))
    rintro _ ⟨Lo2, hI2, rfl⟩
    refine Ent.perm ?_ (bring (Ls := Lo2) (pre := [(b12, _), (r, _)]) (R := Rt)).symm
    refine Ent.drop ?_
    refine Seq.rd0 at3 rfl rfl (O.not rfl) ?_
    refine Seq.nil ?_
    refine hK13 ?_
    refine Cd.condF rfl ?_
    refine Cd.skip ?_
    exact hK7 _ (step_dec hpm) ⟨pre ++ [a], rest', Lo2, it', rfl, (by exact s5), (by exact s6), rfl, hI2, hi', perm_step hp hpm⟩

theorem C_keysWr {c : Cx} {V : Type} {encV : V → Value} {Rt : List Pt} {bb bm ck : Nat} {es : Array MapEntry} {lst : List (Key × V)} (hm : MapIs (fun x : Key => (.agg (Key_enc x))) encV es ck lst) (hb : Rd c Rt bb (.cells #[.map (some bm)] 165 (0, 0))) (hr : Rd c Rt bm (.map es ck)) :
    IterOk Tryz.prog c (fun x : Key => (.agg (Key_enc x))) 203 [.pointer (some ⟨bb, 0, none⟩)] lst.length (fun xs => xs.Perm (lst.map Prod.fst)) Rt := fun _ _ _ hY h0 => C_keysWr_fn (L := Rt) hm hb hr hY h0

set_option maxRecDepth 100000 in
set_option maxHeartbeats 2000000 in
theorem C_mapsKeys_wr {c : Cx} {L : List Pt} {mb : Nat} : Fn Tryz.prog 137 #[.map (some mb)] c L (fun v L' => ∃ bb, c.w0.heap.size ≤ bb ∧ v = .func (.func 203) #[] #[.pointer (some ⟨bb, 0, none⟩)] ∧ L' = (bb, .cells #[.map (some mb)] 165 (0, 0)) :: L) := by
  refine Fn.enter Tryz.func137 rfl 4 rfl rfl (fun R hR => ?_)
  refine Cd.seq (fun K1 hK1 => ?_)
  refine Cd.region [0, 1] rfl ?_
  refine Seq.op at0 rfl (Op.new rfl (O.box (v := .map _) rfl rfl) ?_)
  intro b2 hb2
  refine Seq.rd0 at1 rfl rfl (O.assign (v := .nilFunc) rfl) ?_
  refine Seq.nil ?_
  refine hK1 ?_
  refine Cd.seq (fun K3 hK3 => ?_)
  refine Cd.region [0, 1] rfl ?_
  refine Seq.rd0 at0 rfl rfl (O.mkFunc (fs' := #[]) (cs' := #[.pointer (some ⟨b2, 0, none⟩)]) (by kernel_rfl) (by kernel_rfl)) ?_
  refine Seq.rd0 at1 rfl rfl (O.assign (v := .func _ _ _) rfl) ?_
  refine Seq.nil ?_
  refine hK3 ?_
  refine Cd.ret ?_
  exact hR _ _ (Res.one (v := .func _ _ _) rfl rfl) ⟨b2, hb2, rfl, rfl⟩ (.refl _)

/-! ## Scan -/
def hitX (l : List (Key × CV)) (q : TX) (a b k : Key) : Option Item := if (seeX l q k).2 = true ∧ withinK k a b = true then some ⟨k, (seeX l q k).1⟩ else none
theorem fm_snoc {α β : Type} {f : α → Option β} {xs : List α} {i : Nat} (h : i < xs.length) : (xs.take (i + 1)).filterMap f = (xs.take i).filterMap f ++ (f xs[i]).toList := by
  rw [← List.take_append_getElem h, List.filterMap_append]
  congr 1
theorem fm_take {α β : Type} {f : α → Option β} {xs : List α} {i m : Nat} {acc : List β} (ha : acc = (xs.take i).filterMap f) (h1 : acc.length ≤ m) (h2 : m ≤ acc.length ∨ xs.length ≤ i) : acc = (xs.filterMap f).take m := by
  have h3 : xs.filterMap f = acc ++ (xs.drop i).filterMap f := by rw [ha, ← List.filterMap_append, List.take_append_drop]
  rw [h3]
  rcases h2 with h2 | h2
  · rw [List.take_append_of_le_length (by omega), List.take_of_length_le h1]
  · rw [List.drop_eq_nil_of_le h2, List.filterMap_nil, List.append_nil, List.take_of_length_le h1]
theorem keys_le {ys xs : List Key} (h : KSorted ys) (hm : ∀ k, k ∈ ys ↔ k ∈ xs) : ys.length ≤ xs.length := by
  exact nodup_le h.nodup (fun k hk => (hm k).1 hk)

set_option maxRecDepth 100000 in
set_option maxHeartbeats 2000000 in
theorem C_solo_Scan_some {c : Cx} {L : List Pt} {p sb lm ck : Nat} {es : Array MapEntry} {l : List (Key × CV)} {xl : List (I64 × TX)} {bg la : Int} (hp : Rd c L p (.cells #[.pointer (some ⟨sb, 0, none⟩), .map (some lm), .int .i64 bg, .int .i64 la] 203 (0, 0))) (hS : StAt c L sb l) (hlm : Rd c L lm (.map es ck)) (hMx : MapIs i64V txV es ck xl) {q : TX} {mb ck9 : Nat} {es9 : Array MapEntry} (hxr : Rd c L q.1 (.cells #[.int .i64 q.2.1.t, .int .u8 q.2.1.n, .map (some mb)] 208 (0, 0))) (hmr : Rd c L mb (.map es9 ck9)) (hMw : MapIs keyV wV es9 ck9 q.2.2) {ti : I64} {a b : Key} {most : Int} (hl : alook xl ti = some q) (h200 : l.length ≤ 200) (h16 : q.2.2.length ≤ 16) : Fn Tryz.prog 59 #[.pointer (some ⟨p, 0, none⟩), .int .i64 ti.1, .agg (Key_enc a), .agg (Key_enc b), .int .i64 most] c L (fun v L' => ∃ yq its Li ai ci, v = .tuple #[.slice ai its.length ci, .int .i64 0] ∧ KSorted yq ∧ (∀ k, k ∈ yq ↔ k ∈ l.map Prod.fst ∨ k ∈ q.2.2.map Prod.fst) ∧ its = (yq.filterMap (hitX l q a b)).take most.toNat ∧ OwnSl 111 17 (rows Item_enc its) its.length (.slice ai its.length ci) Li ∧ L' = Li ++ L) := by
  refine Fn.enter Tryz.func59 rfl 70 rfl rfl (fun R hR => ?_)
  refine Cd.seq (fun K1 hK1 => ?_)
  refine Cd.region [0, 1, 2, 3] rfl ?_
  refine Seq.op at0 rfl (Op.new rfl (O.box (v := .agg _) rfl (cs := (Key_enc a)) rfl) ?_)
  intro b2 hb2
  refine Seq.op at1 rfl (Op.new rfl (O.box (v := .agg _) rfl (cs := (Key_enc b)) rfl) ?_)
  intro b3 hb3
  refine Seq.rd0 at2 rfl rfl (O.assign (v := .slice _ _ _) rfl) ?_
  refine Seq.rd0 at3 rfl rfl (O.assign (v := .int .i64 _) rfl) ?_
  refine Seq.nil ?_
  refine hK1 ?_
  refine Cd.seq (fun K4 hK4 => ?_)
  refine Cd.region [0, 1, 2, 3, 4, 5, 6] rfl ?_
  refine Seq.rd0 at0 rfl rfl (O.move (v := .pointer _) rfl) ?_
  refine Seq.rd0 at1 rfl rfl (O.nilP rfl) ?_
  refine Seq.rd0 at2 rfl rfl (O.field fo_203_1 rfl) ?_
  refine Seq.rd1 at3 rfl rfl (O.load kd_201 rfl r4_1) hp.cons.cons ?_
  refine Seq.rd0 at4 rfl rfl (O.move (v := .int .i64 _) rfl) ?_
  refine Seq.rd1 at5 rfl rfl (O.lookS (ok := false) (encV := txV) (a := ti) mp_201 kk_i64 hMx rfl (by exact rfl) hl) hlm.cons.cons ?_
  refine Seq.rd0 at6 rfl rfl (O.assign (v := .pointer _) rfl) ?_
  refine Seq.nil ?_
  refine hK4 ?_
  refine Cd.seq (fun K5 hK5 => ?_)
  refine Cd.seq (fun K6 hK6 => ?_)
  refine Cd.region [0, 1] rfl ?_
  refine Seq.rd0 at0 rfl rfl (O.move (v := .pointer _) rfl) ?_
  refine Seq.rd0 at1 rfl rfl (O.eqNil ds_206 rfl rfl) ?_
  refine Seq.nil ?_
  refine hK6 ?_
  refine Cd.condF rfl ?_
  refine Cd.skip ?_
  refine hK5 ?_
  refine Cd.seq (fun K7 hK7 => ?_)
  refine Cd.region [0] rfl ?_
  refine Seq.rd0 at0 rfl rfl (O.assign (v := .slice _ _ _) rfl) ?_
  refine Seq.nil ?_
  refine hK7 ?_
  refine Cd.seq (fun K8 hK8 => ?_)
  refine Cd.seq (fun K9 hK9 => ?_)
  refine Cd.draw 15 rfl po ?_
  refine Any.rd0 0 at0 rfl rfl (O.move (v := .pointer _) rfl) (by kernel_rfl) (by kernel_rfl) (by kernel_rfl) ?_
  refine Any.rd0 1 at1 rfl rfl (O.nilP rfl) (by kernel_rfl) (by kernel_rfl) (by kernel_rfl) ?_
  refine Any.rd0 2 at2 rfl rfl (O.field fo_203_0 rfl) (by kernel_rfl) (by kernel_rfl) (by kernel_rfl) ?_
  refine Any.rd1 3 at3 rfl rfl (O.load kd_137 rfl r4_0) hp.cons.cons (by kernel_rfl) (by kernel_rfl) (by kernel_rfl) ?_
  refine Any.rd0 5 at5 rfl rfl (O.move (v := .pointer _) rfl) (by kernel_rfl) (by kernel_rfl) (by kernel_rfl) ?_
  refine Any.rd0 6 at6 rfl rfl (O.nilP rfl) (by kernel_rfl) (by kernel_rfl) (by kernel_rfl) ?_
  refine Any.rd0 7 at7 rfl rfl (O.field fo_208_1 rfl) (by kernel_rfl) (by kernel_rfl) (by kernel_rfl) ?_
  refine Any.rd1 8 at8 rfl rfl (O.load kd_165 rfl r3_2) hxr.cons.cons (by kernel_rfl) (by kernel_rfl) (by kernel_rfl) ?_
  refine Any.rd0 14 at14 rfl rfl (O.move (v := .int .i64 _) rfl) (by kernel_rfl) (by kernel_rfl) (by kernel_rfl) ?_
  refine Any.one 4 at4 rfl (by kernel_rfl) ⟨⟨trivial, hp.cons.cons⟩, hxr.cons.cons⟩ ?_
  refine Op.callF rfl hb_135 (C_store_Keys (hS.cons.cons)) rfl ?_
  rintro vk1 _ ⟨yk1, Lk1, hpk1, hsk1, hok1, rfl⟩
  have hlk1 := hpk1.length_eq
  rw [List.length_map] at hlk1
  refine Ent.perm ?_ (bring (Ls := Lk1) (pre := [(b3, _), (b2, _)]) (R := L)).symm
  refine Any.toK ?_
  refine Any.one 9 at9 rfl (by kernel_rfl) ⟨⟨trivial, hp.app.cons.cons⟩, hxr.app.cons.cons⟩ ?_
  refine Op.callF rfl hb_137 C_mapsKeys_wr rfl ?_
  rintro _ _ ⟨bb10, hbb10, rfl, rfl⟩
  refine Any.toK ?_
  refine Any.one 10 at10 rfl (by kernel_rfl) ⟨⟨trivial, hp.app.cons.cons.cons⟩, hxr.app.cons.cons.cons⟩ ?_
  refine Op.callF rfl hb_136 (C_Collect_Key (gf := 203) (lb := [.pointer (some ⟨bb10, 0, none⟩)]) (N := q.2.2.length) (by omega) (by kernel_rfl) (C_keysWr hMw Rd.head hmr.app.cons.cons.cons) (fun _ h => Nat.le_of_eq (h.length_eq.trans (List.length_map _)))) rfl ?_
  rintro vk2 _ ⟨yk2, Lk2, hpk2, hok2, rfl⟩
  have hlk2 := hpk2.length_eq
  rw [List.length_map] at hlk2
  refine Ent.perm ?_ (bring (Ls := Lk2) (pre := [(bb10, _), (b3, _), (b2, _)]) (R := (Lk1 ++ (L)))).symm
  refine Ent.drop ?_
  refine Any.toK ?_
  refine Any.one 11 at11 rfl (by kernel_rfl) ⟨⟨trivial, hp.app.app.cons.cons⟩, hxr.app.app.cons.cons⟩ ?_
  refine Op.gen rfl (Eg.perm (O.appendOwnZ (k := yk2.length) (new := rows Key_enc yk2) (R := (b3, _) :: (b2, _) :: (Lk2 ++ L)) ei_74 ds_74 (by decide) rfl hok1 ((hok2.src (R := L)).sub (sub_app (.cons _ (.cons _ ((.refl _)))))) (rows_ones Key_one) (by omega)) (bring (pre := (b3, _) :: (b2, _) :: Lk2) (Ls := Lk1) (R := L))) ?_
  rintro _ _ ⟨Lz0, hz0, rfl⟩
  obtain ⟨az0, cz0, rfl⟩ := hz0.form
  rw [← rows_append] at hz0
  refine Ent.perm ?_ (bring (Ls := Lz0) (pre := [(b3, _), (b2, _)]) (R := (Lk2 ++ (L)))).symm
  refine Any.toK ?_
  refine Any.one 12 at12 rfl (by kernel_rfl) ⟨⟨trivial, hp.app.app.cons.cons⟩, hxr.app.app.cons.cons⟩ ?_
  have hXz := OwnSl.at_ (c := c) (R := Lk2 ++ L) hz0 (by rw [List.length_append]) (by omega)
  have hlz : (yk1 ++ yk2).length ≤ 1000000000 := by rw [List.length_append]; omega
  refine Op.callF rfl hb_134 (C_key_SortO (hXz.cons.cons) hlz) rfl ?_
  rintro _ _ ⟨yq, Lq, hnq, hmq, hoq, rfl⟩
  obtain ⟨aq, cq, rfl⟩ := OwnSl.form hoq
  have hqle := keys_le hnq hmq
  rw [List.length_append] at hqle
  have hWq := OwnSl.at_ (c := c) (R := Lz0 ++ (Lk2 ++ L)) hoq rfl (by omega)
  refine Ent.perm ?_ (bring (Ls := Lq) (pre := [(b3, _), (b2, _)]) (R := (Lz0 ++ ((Lk2 ++ (L)))))).symm
  refine Any.toK ?_
  refine Any.rd0 13 at13 rfl rfl (O.lenS ds_74 rfl) (by kernel_rfl) (by kernel_rfl) (by kernel_rfl) ?_
  refine Any.done (by kernel_rfl) ⟨⟨trivial, hp.app.app.app.cons.cons⟩, hxr.app.app.app.cons.cons⟩ ?_
  refine hK9 ?_
  refine Cd.block ?_
  refine Cd.loop (fun m11 e12 L13 => ∃ i : Nat, ∃ ai : Option Addr, ∃ ci : Nat, ∃ Li : List Pt, ∃ acc : List Item, m11 = yq.length - i ∧ e12 0 = .pointer (some ⟨p, 0, none⟩) ∧ e12 4 = .int .i64 most ∧ e12 7 = .pointer (some ⟨b2, 0, none⟩) ∧ e12 8 = .pointer (some ⟨b3, 0, none⟩) ∧ e12 10 = .slice none 0 0 ∧ e12 11 = .int .i64 0 ∧ e12 12 = .pointer (some ⟨q.1, 0, none⟩) ∧ e12 13 = .slice ai acc.length ci ∧ e12 38 = .slice aq yq.length cq ∧ e12 39 = .int .i64 (yq.length : Int) ∧ e12 40 = .int .i64 (i : Int) ∧ L13 = (b3, .cells (Key_enc b) 45 (0, 0)) :: (b2, .cells (Key_enc a) 45 (0, 0)) :: (Li ++ ((Lq ++ ((Lz0 ++ ((Lk2 ++ (L)))))))) ∧ i ≤ yq.length ∧ acc = (yq.take i).filterMap (hitX l q a b) ∧ acc.length ≤ most.toNat ∧ OwnSl 111 17 (rows Item_enc acc) acc.length (.slice ai acc.length ci) Li) _ ⟨0, none, 0, [], [], rfl, rfl, rfl, rfl, rfl, rfl, rfl, rfl, rfl, rfl, rfl, rfl, rfl, Nat.zero_le _, rfl, Nat.zero_le _, (by exact .inl ⟨rfl, rfl, rfl, rfl⟩)⟩ ?_
  rintro _ e12 _ ⟨i, ai, ci, Li, acc, rfl, s14, s15, s16, s17, s18, s19, s20, s21, s22, s23, s24, rfl, hi, hac, hale, hoi⟩ K25 hK25
  have haq : acc.length ≤ i := by rw [hac]; exact Nat.le_trans (List.length_filterMap_le _ _) (by rw [List.length_take]; omega)
  refine Cd.seq (fun K26 hK26 => ?_)
  refine Cd.region [0] rfl ?_
  refine Seq.rd0 at0 rfl rfl (O.lss (by exact s24) (by exact s23)) ?_
  refine Seq.nil ?_
  refine hK26 ?_
  refine Cd.seq (fun K27 hK27 => ?_)
  refine Cd.if ((i : Int) < (yq.length : Int)) rfl (fun t28 => ?_) (fun t28 => ?_)
  · skip
    refine Cd.skip ?_
    refine hK27 ?_
    refine Cd.seq (fun K29 hK29 => ?_)
    refine Cd.block ?_
    refine Cd.seq (fun K30 hK30 => ?_)
    refine Cd.region [0, 1, 2, 3] rfl ?_
    have hlt31 : i < yq.length := by omega
    obtain ⟨pre31, sp31, el31, fz31, hav31, hrd31⟩ := hWq.at_ hlt31
    refine Seq.rd0 at0 rfl rfl (O.indexG sl_74 (by exact s22) hav31 (by exact s24) (by omega) (by omega)) ?_
    refine Seq.rd1 at1 rfl rfl (O.loadA kd_45 rfl (rowRoomP Key_size (getN hlt31)) (rowAtP Key_size (getN hlt31))) hrd31.app.cons.cons ?_
    refine Seq.op at2 rfl (Op.new rfl (O.alloc zo_45 (cs := (Key_enc Key.zero)) rfl) ?_)
    intro b32 hb32
    refine Seq.op at3 rfl (Op.set0 rfl (O.store kd_45 rfl (v := .agg _) rfl (Key_size _) (Key_room (Key_size _)) (Key_one _) (Key_put _ (Key_size _))) ?_)
    refine Seq.nil ?_
    refine hK30 ?_
    refine Cd.seq (fun K33 hK33 => ?_)
    refine Cd.seq (fun K34 hK34 => ?_)
    refine Cd.region [0, 1, 2, 3] rfl ?_
    refine Seq.rd0 at0 rfl rfl (O.move (v := .slice _ _ _) (by exact s21)) ?_
    refine Seq.rd0 at1 rfl rfl (O.lenS ds_66 rfl) ?_
    refine Seq.rd0 at2 rfl rfl (O.move (v := .int .i64 _) (by exact s15)) ?_
    refine Seq.rd0 at3 rfl rfl (O.geq rfl rfl) ?_
    refine Seq.nil ?_
    refine hK34 ?_
    refine Cd.if (most ≤ (acc.length : Int)) rfl (fun t35 => ?_) (fun t35 => ?_)
    · skip
      refine Cd.exit ?_
      refine hK8 ?_
      refine Cd.seq (fun K36 hK36 => ?_)
      refine Cd.region [0, 1, 2] rfl ?_
      refine Seq.rd0 at0 rfl rfl (O.move (v := .slice _ _ _) (by exact s21)) ?_
      refine Seq.rd0 at1 rfl rfl (O.assign (v := .slice _ _ _) rfl) ?_
      refine Seq.rd0 at2 rfl rfl (O.assign (v := .int .i64 _) rfl) ?_
      refine Seq.nil ?_
      refine hK36 ?_
      refine Cd.ret ?_
      have hfin := fm_take (m := most.toNat) hac hale (by first | exact .inr (by omega) | exact .inl (by omega))
      have hmy : ∀ k, k ∈ yq ↔ k ∈ l.map Prod.fst ∨ k ∈ q.2.2.map Prod.fst := fun k => by rw [hmq, List.mem_append, hpk1.mem_iff, hpk2.mem_iff]
      exact hR _ (Li ++ L) (Res.two (v := .slice _ _ _) (v' := .int .i64 _) rfl rfl rfl) ⟨yq, acc, Li, ai, ci, rfl, hnq, hmy, hfin, hoi, rfl⟩ (.cons _ (.cons _ (.cons _ ( List.Sublist.append_left (sub_app (sub_app (sub_app (.refl _)))) Li ))))
    · skip
      refine Cd.skip ?_
      refine hK33 ?_
      refine Cd.seq (fun K37 hK37 => ?_)
      refine Cd.region [0, 1, 2, 3, 4, 5, 6, 7, 8] rfl ?_
      refine Seq.rd0 at0 rfl rfl (O.move (v := .pointer _) (by exact s14)) ?_
      refine Seq.rd0 at1 rfl rfl (O.move (v := .pointer _) (by exact s20)) ?_
      refine Seq.rd1 at2 rfl rfl (O.loadA kd_45 rfl (Nat.le_of_ble_eq_true rfl) (Key_all _)) Rd.head ?_
      refine Seq.op at3 rfl (Op.callF rfl hb_133 (C_solo_getx (es := es) (ck := ck) (xl := xl) (k := yq[i]) (hp.app.app.app.app.cons.cons.cons) (hS.app.app.app.app.cons.cons.cons) (hxr.app.app.app.app.cons.cons.cons) (hmr.app.app.app.app.cons.cons.cons) hMw) rfl ?_)
      rintro _ _ ⟨rfl, rfl⟩
      refine Seq.rd0 at4 rfl rfl (O.move (v := .tuple _) rfl) ?_
      refine Seq.rd0 at5 rfl rfl (O.ext rfl r2_0) ?_
      refine Seq.rd0 at6 rfl rfl (O.ext rfl r2_1) ?_
      refine Seq.rd0 at7 rfl rfl (O.assign (v := .string _) rfl) ?_
      refine Seq.rd0 at8 rfl rfl (O.assign (v := .bool _) rfl) ?_
      refine Seq.nil ?_
      refine hK37 ?_
      refine Cd.seq (fun K38 hK38 => ?_)
      refine Cd.region [0, 1, 2, 3, 4, 5, 6] rfl ?_
      refine Seq.rd0 at0 rfl rfl (O.move (v := .bool _) rfl) ?_
      refine Seq.rd0 at1 rfl rfl (O.move (v := .bool _) rfl) ?_
      cases t39 : (seeX l q yq[i]).2
      · skip
        refine Seq.pass at2 rfl rfl ?_
        refine Seq.pass at3 rfl rfl ?_
        refine Seq.pass at4 rfl rfl ?_
        refine Seq.pass at5 rfl rfl ?_
        refine Seq.rd0 at6 rfl rfl (O.pickF (v := .bool _) rfl rfl) ?_
        refine Seq.nil ?_
        refine hK38 ?_
        refine Cd.condF rfl ?_
        refine Cd.skip ?_
        refine hK29 ?_
        refine Cd.region [0, 1] rfl ?_
        refine Seq.rd0 at0 rfl rfl (O.add (by exact s24) rfl (by omega) (by omega)) ?_
        refine Seq.rd0 at1 rfl rfl (O.move (v := .int .i64 _) rfl) ?_
        refine Seq.nil ?_
        refine Ent.drop ?_
        exact hK25 _ (by omega) ⟨i + 1, ai, ci, Li, acc, rfl, (by exact s14), (by exact s15), (by exact s16), (by exact s17), (by exact s18), (by exact s19), (by exact s20), (by exact s21), (by exact s22), (by exact s23), rfl, rfl, by omega, by rw [fm_snoc hlt31, ← hac]; unfold hitX; rw [if_neg (by rintro ⟨h8, h9⟩; first | exact Bool.noConfusion (h8.symm.trans (by assumption : _ = false)) | exact Bool.noConfusion (h9.symm.trans (by assumption : _ = false)))]; exact (List.append_nil _).symm, hale, hoi⟩
      · skip
        refine Seq.rd1 at2 rfl rfl (O.loadA kd_45 rfl (Nat.le_of_ble_eq_true rfl) (Key_all _)) Rd.head ?_
        refine Seq.rd1 at3 rfl rfl (O.loadA kd_45 (by exact s16) (Nat.le_of_ble_eq_true rfl) (Key_all _)) Rd.head.cons.cons ?_
        refine Seq.rd1 at4 rfl rfl (O.loadA kd_45 (by exact s17) (Nat.le_of_ble_eq_true rfl) (Key_all _)) Rd.head.cons ?_
        refine Seq.op at5 rfl (Op.callF rfl hb_138 (C_key_Within (x := yq[i]) (y := a) (z := b)) rfl ?_)
        rintro _ _ ⟨rfl, rfl⟩
        refine Seq.rd0 at6 rfl rfl (O.pickT (v := .bool _) rfl rfl) ?_
        refine Seq.nil ?_
        refine hK38 ?_
        refine Cd.cond ((withinK yq[i] a b)) rfl (fun t40 => ?_) (fun t40 => ?_)
        · skip
          refine Cd.region [0, 1, 2, 3, 4, 5, 6] rfl ?_
          refine Seq.rd0 at0 rfl rfl (O.move (v := .slice _ _ _) (by exact s21)) ?_
          refine Seq.rd1 at1 rfl rfl (O.loadA kd_45 rfl (Nat.le_of_ble_eq_true rfl) (Key_all _)) Rd.head ?_
          refine Seq.rd0 at2 rfl rfl (O.move (v := .string _) rfl) ?_
          refine Seq.rd0 at3 rfl rfl (O.build rfl (cs := (Item_enc (⟨yq[i], (seeX l q yq[i]).1⟩ : Item))) (by kernel_rfl)) ?_
          refine Seq.op at4 rfl (Op.new rfl (O.buildSlice (el := 111) rfl (cs := (rows Item_enc [(⟨yq[i], (seeX l q yq[i]).1⟩ : Item)])) (by kernel_rfl)) ?_)
          intro b41 hb41
          refine Seq.op at5 rfl (Op.gen rfl (Eg.perm (O.appendOwnZ (k := 1) (new := rows Item_enc [(⟨yq[i], (seeX l q yq[i]).1⟩ : Item)]) (R := [(b41, _), (b32, _), (b3, _), (b2, _)] ++ (Lq ++ (Lz0 ++ (Lk2 ++ L)))) ei_66 ds_66 (by decide) rfl hoi (.inr ⟨b41, 0, 1, _, _, _, rfl, Rd.head.app, Nat.le_of_ble_eq_true rfl, (rows_all Item_size)⟩) (rows_ones Item_one) (by omega)) (bring (pre := [(b41, _), (b32, _), (b3, _), (b2, _)]) (Ls := Li) (R := (Lq ++ (Lz0 ++ (Lk2 ++ L)))))) ?_)
          rintro v2 _ ⟨Li2, hi2, rfl⟩
          rw [← rows_append, show acc.length + 1 = (acc ++ [(⟨yq[i], (seeX l q yq[i]).1⟩ : Item)]).length from (by rw [List.length_append]; rfl)] at hi2
          obtain ⟨ai2, ci2, rfl⟩ := hi2.form
          refine Ent.perm ?_ (bring (Ls := Li2) (pre := [(b41, _), (b32, _), (b3, _), (b2, _)]) (R := (Lq ++ (Lz0 ++ (Lk2 ++ L))))).symm
          refine Seq.rd0 at6 rfl rfl (O.assign (v := .slice _ _ _) rfl) ?_
          refine Seq.nil ?_
          refine hK29 ?_
          refine Cd.region [0, 1] rfl ?_
          refine Seq.rd0 at0 rfl rfl (O.add (by exact s24) rfl (by omega) (by omega)) ?_
          refine Seq.rd0 at1 rfl rfl (O.move (v := .int .i64 _) rfl) ?_
          refine Seq.nil ?_
          refine Ent.drop ?_
          refine Ent.drop ?_
          exact hK25 _ (by omega) ⟨i + 1, ai2, ci2, Li2, (acc ++ [(⟨yq[i], (seeX l q yq[i]).1⟩ : Item)]), rfl, (by exact s14), (by exact s15), (by exact s16), (by exact s17), (by exact s18), (by exact s19), (by exact s20), rfl, (by exact s22), (by exact s23), rfl, rfl, by omega, by rw [fm_snoc hlt31, ← hac]; congr 1; unfold hitX; rw [if_pos ⟨by assumption, by assumption⟩]; rfl, by rw [List.length_append, List.length_singleton]; omega, hi2⟩
        · skip
          refine Cd.skip ?_
          refine hK29 ?_
          refine Cd.region [0, 1] rfl ?_
          refine Seq.rd0 at0 rfl rfl (O.add (by exact s24) rfl (by omega) (by omega)) ?_
          refine Seq.rd0 at1 rfl rfl (O.move (v := .int .i64 _) rfl) ?_
          refine Seq.nil ?_
          refine Ent.drop ?_
          exact hK25 _ (by omega) ⟨i + 1, ai, ci, Li, acc, rfl, (by exact s14), (by exact s15), (by exact s16), (by exact s17), (by exact s18), (by exact s19), (by exact s20), (by exact s21), (by exact s22), (by exact s23), rfl, rfl, by omega, by rw [fm_snoc hlt31, ← hac]; unfold hitX; rw [if_neg (by rintro ⟨h8, h9⟩; first | exact Bool.noConfusion (h8.symm.trans (by assumption : _ = false)) | exact Bool.noConfusion (h9.symm.trans (by assumption : _ = false)))]; exact (List.append_nil _).symm, hale, hoi⟩
  · skip
    refine Cd.exit ?_
    refine hK8 ?_
    refine Cd.seq (fun K42 hK42 => ?_)
    refine Cd.region [0, 1, 2] rfl ?_
    refine Seq.rd0 at0 rfl rfl (O.move (v := .slice _ _ _) (by exact s21)) ?_
    refine Seq.rd0 at1 rfl rfl (O.assign (v := .slice _ _ _) rfl) ?_
    refine Seq.rd0 at2 rfl rfl (O.assign (v := .int .i64 _) rfl) ?_
    refine Seq.nil ?_
    refine hK42 ?_
    refine Cd.ret ?_
    have hfin := fm_take (m := most.toNat) hac hale (by first | exact .inr (by omega) | exact .inl (by omega))
    have hmy : ∀ k, k ∈ yq ↔ k ∈ l.map Prod.fst ∨ k ∈ q.2.2.map Prod.fst := fun k => by rw [hmq, List.mem_append, hpk1.mem_iff, hpk2.mem_iff]
    exact hR _ (Li ++ L) (Res.two (v := .slice _ _ _) (v' := .int .i64 _) rfl rfl rfl) ⟨yq, acc, Li, ai, ci, rfl, hnq, hmy, hfin, hoi, rfl⟩ (.cons _ (.cons _ ( List.Sublist.append_left (sub_app (sub_app (sub_app (.refl _)))) Li )))

end Go.X

namespace Go.X
open Go.Proofs
theorem sl_66 : sliceOf Tryz.prog 66 = some (111, 17) := by kernel_rfl
/-! ## items -/
section
variable {e : Env} {d : Option Tmp} {ty : TypeId} {p : String} {af : Array Edge} {g : Option (Nat × Bool)} {x y : Operand} {t' : TypeId} {a b : Item}
end

theorem same_some {α : Type} {us vs : List α} {i : Nat} (h1 : i < us.length) (h2 : i < vs.length) (h : ¬ us[i] = vs[i]) : ¬ us = vs := by
  rintro rfl; exact h rfl
theorem same_all {α : Type} {us vs : List α} {i : Nat} (hl : us.length = vs.length) (hi : us.length ≤ i) (h : us.take i = vs.take i) : us = vs := by
  rwa [List.take_of_length_le hi, List.take_of_length_le (by omega)] at h
theorem same_next {α : Type} {us vs : List α} {i : Nat} (h1 : i < us.length) (h2 : i < vs.length) (h : us.take i = vs.take i) (he : us[i] = vs[i]) : us.take (i + 1) = vs.take (i + 1) := by
  rw [← List.take_append_getElem h1, ← List.take_append_getElem h2, h, he]

theorem C_So_Scan {c : Cx} {R Ls : List Pt} {p : Nat} {l : List (Key × CV)} {xl : List (I64 × TX)} {bg la most : Int} {ti : I64} {a b : Key} {q : TX} (hS : SoOwn p l xl bg la Ls) (hl : alook xl ti = some q) :
    Fn Tryz.prog 59 #[.pointer (some ⟨p, 0, none⟩), .int .i64 ti.1, .agg (Key_enc a), .agg (Key_enc b), .int .i64 most] c (Ls ++ R) (fun v L' => ∃ yq its Li ai ci, v = .tuple #[.slice ai its.length ci, .int .i64 0] ∧ KSorted yq ∧ (∀ k, k ∈ yq ↔ k ∈ l.map Prod.fst ∨ k ∈ q.2.2.map Prod.fst) ∧ its = (yq.filterMap (hitX l q a b)).take most.toNat ∧ OwnSl 111 17 (rows Item_enc its) its.length (.slice ai its.length ci) Li ∧ L' = Li ++ (Ls ++ R)) := by
  obtain ⟨sb, lm, es, ck, h1, h2, h3, h4, h5⟩ := hS.rd (c := c) (R := R)
  obtain ⟨mb, es9, ck9, h6, h7, h8, h16⟩ := h5 hl
  obtain ⟨⟨_, _, _, _, _, _, _, h9, _⟩, _⟩ := hS
  exact C_solo_Scan_some h1 h2 h3 h4 h6 h7 h8 hl h9.size h16

end Go.X

/- Plain laws of solo: what is read stays what it was. -/
namespace Go.X
/-! ## the versions up to a time -/
def leV (s : Stamp) (v : Version) : Bool := !decide (0 < v.stamp.cmp s)
theorem upto_tw {s : Stamp} : ∀ {vs : List Version}, Sorted vs → upto vs s = (vs.takeWhile (leV s)).length
  | [], _ => rfl
  | v :: vs, h => by
    have hv := List.pairwise_cons.1 h
    have ih := upto_tw (s := s) hv.2
    have hb : below (v :: vs) s = if v.stamp.cmp s < 0 then below vs s + 1 else 0 := by
      unfold below
      rw [List.takeWhile_cons]
      by_cases h1 : v.stamp.cmp s < 0
      · simp [h1]
      · simp [h1]
    have hh : hasS (v :: vs) s = (decide (v.stamp = s) || hasS vs s) := rfl
    rw [List.takeWhile_cons]
    unfold upto at ih ⊢
    rw [hb, hh]
    rcases Stamp.lt_total v.stamp s with h1 | h1 | h1
    · have h2 : v.stamp.cmp s < 0 := (cmp_neg _ _).2 h1
      have h3 : leV s v = true := by unfold leV; rw [decide_eq_false (by omega)]; rfl
      have h4 : ¬ v.stamp = s := fun e => Stamp.lt_irrefl s (e ▸ h1)
      rw [if_pos h2, if_pos h3, decide_eq_false h4, Bool.false_or, List.length_cons, ← ih]
      split <;> rfl
    · have h2 : v.stamp.cmp s = 0 := (cmp_zero _ _).2 h1
      have h3 : leV s v = true := by unfold leV; rw [decide_eq_false (by omega)]; rfl
      have h5 : vs.takeWhile (leV s) = [] := by
        cases vs with
        | nil => rfl
        | cons w vs =>
          have h6 := (cmp_pos _ _).2 (hv.1 w List.mem_cons_self)
          rw [List.takeWhile_cons, if_neg]
          unfold leV
          rw [h1] at h6
          rw [decide_eq_true h6]; decide
      rw [if_neg (show ¬ v.stamp.cmp s < 0 by omega), if_pos h3, decide_eq_true h1, Bool.true_or, if_pos rfl, List.length_cons, h5]
      rfl
    · have h2 : 0 < v.stamp.cmp s := (cmp_pos _ _).2 h1
      have h3 : ¬ leV s v = true := by unfold leV; rw [decide_eq_true h2]; decide
      have h4 : ¬ v.stamp = s := fun e => Stamp.lt_irrefl s (e ▸ h1)
      have h5 : hasS vs s = false := hasS_no fun w hw e => Stamp.lt_irrefl s (Stamp.lt_trans h1 (by have := hv.1 w hw; rwa [e] at this))
      rw [if_neg (show ¬ v.stamp.cmp s < 0 by omega), if_neg h3, decide_eq_false h4, h5]
      rfl
theorem tw_drop {α : Type} {p : α → Bool} : ∀ {l : List α} {m : Nat}, m ≤ (l.takeWhile p).length → ((l.drop m).takeWhile p).length = (l.takeWhile p).length - m
  | _, 0, _ => by simp
  | [], m + 1, h => by simp at h
  | x :: l, m + 1, h => by
    rw [List.takeWhile_cons] at h ⊢
    split at h
    · rename_i hp
      simp only [List.length_cons] at h
      rw [if_pos hp, List.drop_succ_cons, tw_drop (by omega), List.length_cons]
      omega
    · simp at h
theorem tw_mono {α : Type} {p q : α → Bool} (h : ∀ x, p x = true → q x = true) : ∀ l : List α, (l.takeWhile p).length ≤ (l.takeWhile q).length
  | [] => Nat.le_refl _
  | x :: l => by
    rw [List.takeWhile_cons, List.takeWhile_cons]
    split
    · rename_i hp
      rw [if_pos (h x hp)]
      simp only [List.length_cons]
      have := tw_mono h l
      omega
    · simp
theorem upto_mono {vs : List Version} (hs : Sorted vs) {a b : Stamp} (h : ¬ b.lt a) : upto vs a ≤ upto vs b := by
  rw [upto_tw hs, upto_tw hs]
  refine tw_mono (fun v hv => ?_) vs
  unfold leV at hv ⊢
  rw [Bool.not_eq_true', decide_eq_false_iff_not] at hv ⊢
  rw [cmp_pos] at hv ⊢
  exact fun h1 => by
    rcases Stamp.lt_total a b with h2 | h2 | h2
    · exact hv (Stamp.lt_trans h2 h1)
    · exact hv (h2 ▸ h1)
    · exact h h2
theorem at_drop {vs : List Version} (hs : Sorted vs) {s : Stamp} {m : Nat} (hm : m ≤ upto vs s) : atV (vs.drop m) s = if upto vs s = m then none else atV vs s := by
  have h1 : upto (vs.drop m) s = upto vs s - m := by
    rw [upto_tw (hs.sublist (List.drop_sublist _ _)), upto_tw hs]
    rw [upto_tw hs] at hm
    exact tw_drop hm
  unfold atV
  rw [h1]
  by_cases h2 : upto vs s = m
  · rw [if_pos (by omega), if_pos h2]
  · rw [if_neg (by omega), if_neg h2, if_neg (by omega), List.getElem?_drop]
    congr 1; omega
def viewV (o : Option Version) : ByteArray × Bool := match o with
  | some v => if v.gone then (⟨#[]⟩, false) else (v.val, true)
  | none => (⟨#[]⟩, false)
theorem getV_view (l : List (Key × CV)) (k : Key) (s : Stamp) : getV l k s = viewV (atV (getS l k) s) := rfl
theorem view_trim {vs : List Version} (hs : Sorted vs) {s s0 : Stamp} (h : ¬ s.lt s0) : viewV (atV (vs.drop (trimN vs s0)) s) = viewV (atV vs s) := by
  have hu := upto_mono hs h
  have hle := upto_le (s := s) hs
  unfold trimN
  by_cases hc : 0 < upto vs s0 ∧ ((vs[upto vs s0 - 1]?).getD .zero).gone = false
  · rw [if_pos hc, at_drop hs (by omega), if_neg (by omega)]
  · rw [if_neg hc, at_drop hs hu]
    by_cases he : upto vs s = upto vs s0
    · rw [if_pos he]
      unfold atV
      by_cases h0 : upto vs s = 0
      · rw [if_pos h0]
      · rw [if_neg h0]
        rw [← he] at hc
        rw [List.getElem?_eq_getElem (by omega)] at hc ⊢
        simp only [Option.getD_some] at hc
        cases hg : (vs[upto vs s - 1]'(by omega)).gone with
        | false => exact absurd ⟨by omega, hg⟩ hc
        | true => simp [viewV, hg]
    · rw [if_neg he]
theorem AppS.at_ {c s : Stamp} {l : List (Key × CV)} {ws : List Write} {l' : List (Key × CV)} (h : AppS c l ws l') (hn : ∀ k, Sorted (getS l k)) (hs : s.lt c) (k : Key) : atV (getS l' k) s = atV (getS l k) s := by
  induction h with
  | nil => rfl
  | snoc h ih =>
    rw [getS_put]
    split
    · rename_i he; subst he
      exact (at_after (h.sorted hn _) hs).trans ih
    · exact ih
theorem ComX.getV {l l' : List (Key × CV)} {la la' e : Int} {s r : Stamp} {snap : Stamp} {ws : List (Key × Write)} (hn : ∀ k, Sorted (getS l k)) (h : ComX l la snap ws r e l' la') (hs : ¬ (⟨la, 0⟩ : Stamp).lt s) (k : Key) : getV l' k s = getV l k s := by
  rcases h with ⟨_, _, _, rfl, rfl⟩ | ⟨_, _, _, _, rfl, rfl⟩ | ⟨_, _, ys, _, _, _, h9, h10⟩
  · rfl
  · rfl
  · by_cases he : e = 0
    · rw [getV_view, getV_view, (h10 he).2.2.at_ hn (Stamp.le_lt hs (lt_time (by omega)))]
    · rw [(h9 he).2.1]
/-- what one has put, and what one reads at one's snapshot, stays, whatever the others do -/
theorem Moves.still {nt : Int} {s t : SoS} (h : Moves nt s t) {ti : I64} {q : TX} (hti : ti.1 = nt) (h0 : 0 < nt) (hb : nt ≤ s.bg) (hq : alook s.xl ti = some q) (hs : SInv s) :
    alook t.xl ti = some q ∧ nt ≤ t.bg ∧ ∀ k, getV t.l k q.2.1 = getV s.l k q.2.1 := by
  induction h with
  | refl => exact ⟨hq, hb, fun _ => rfl⟩
  | begin xb h hti' hlen ih =>
    obtain ⟨h1, h2, h3⟩ := ih
    refine ⟨?_, by simp only; omega, h3⟩
    rw [alook_put_ne _ (fun e => by subst e; omega)]
    exact h1
  | put x h hti' ih =>
    obtain ⟨h1, h2, h3⟩ := ih
    refine ⟨?_, h2, h3⟩
    simp only
    unfold afterS
    split
    · exact h1
    · rw [alook_put_ne _ (fun e => hti' ⟨by rw [← e]; exact hti, h0⟩)]
      exact h1
  | commit h hti' hc ih =>
    rename_i t tj r e l' la'
    obtain ⟨h1, h2, h3⟩ := ih
    have hI := h.inv hs
    refine ⟨(alook_del_ne (fun e => hti' ⟨by rw [← e]; exact hti, h0⟩) _).trans h1, h2, fun k => ?_⟩
    rw [← h3 k]
    cases hl : alook t.xl tj with
    | none =>
      rw [hl] at hc
      obtain ⟨_, _, rfl, _⟩ := hc
      rfl
    | some q' =>
      rw [hl] at hc
      exact hc.getV hI.sorted (hI.snap _ (alook_mem h1)) k
  | abort h hti' ih =>
    obtain ⟨h1, h2, h3⟩ := ih
    exact ⟨(alook_del_ne (fun e => hti' ⟨by rw [← e]; exact hti, h0⟩) _).trans h1, h2, h3⟩
  | trim h hl ht ih =>
    obtain ⟨h1, h2, h3⟩ := ih
    have hI := h.inv hs
    refine ⟨h1, h2, fun k => ?_⟩
    rw [← h3 k, getV_view, getV_view, ht.get k]
    exact view_trim (hI.sorted k) (fun h9 => hl.le _ (alook_mem h1) ((cmp_neg _ _).2 h9))
theorem ksorted_eq : ∀ {a b : List Key}, KSorted a → KSorted b → (∀ k, k ∈ a ↔ k ∈ b) → a = b
  | [], [], _, _, _ => rfl
  | [], y :: b, _, _, h => absurd ((h y).2 List.mem_cons_self) (by simp)
  | x :: a, [], _, _, h => absurd ((h x).1 List.mem_cons_self) (by simp)
  | x :: a, y :: b, ha, hb, h => by
    have ha' := List.pairwise_cons.1 ha
    have hb' := List.pairwise_cons.1 hb
    have hxy : x = y := by
      rcases List.mem_cons.1 ((h x).1 List.mem_cons_self) with h1 | h1
      · exact h1
      · rcases List.mem_cons.1 ((h y).2 List.mem_cons_self) with h2 | h2
        · exact h2.symm
        · have h3 := hb'.1 x h1
          have h4 := ha'.1 y h2
          have h5 := Key.cmp_swap x y
          omega
    subst hxy
    have hirr : ∀ z : Key, ¬ z.cmp z < 0 := fun z => by have := (Key.cmp_eq (a := z) (b := z)).2 rfl; omega
    rw [ksorted_eq ha'.2 hb'.2 (fun k => ?_)]
    have h1 := h k
    simp only [List.mem_cons] at h1
    constructor
    · intro hk
      rcases h1.1 (.inr hk) with h2 | h2
      · subst h2; exact absurd (ha'.1 _ hk) (hirr _)
      · exact h2
    · intro hk
      rcases h1.2 (.inr hk) with h2 | h2
      · subst h2; exact absurd (hb'.1 _ hk) (hirr _)
      · exact h2
end Go.X

namespace Go.X
open Go.Proofs
theorem hb_58 : hasBody Tryz.prog 58 = true := by kernel_rfl
theorem hb_59 : hasBody Tryz.prog 59 = true := by kernel_rfl
theorem SInv.begin {l : List (Key × CV)} {xl : List (I64 × TX)} {bg la : Int} (h : SInv ⟨l, xl, bg, la⟩) (ti : I64) (xb : Nat) : SInv ⟨l, aput xl ti (xb, (⟨la, 0⟩, [])), bg + 1, la⟩ := by
  refine ⟨h.top, h.sorted, h.nn, fun q hq => ?_⟩
  rcases aput_mem hq with h1 | h1
  · subst h1; exact Stamp.lt_irrefl _
  · exact h.snap q h1
theorem bring3 {A B pre R : List Pt} : (A ++ (B ++ (pre ++ R))).Perm (pre ++ (A ++ (B ++ R))) := by
  refine ((bring (Ls := B) (pre := pre) (R := R)).symm.append_left A).trans ?_
  exact (bring (Ls := A) (pre := pre) (R := B ++ R)).symm
end Go.X

namespace Go.X
open Go.Proofs
theorem fo_111_0 : fieldOff Tryz.prog 111 0 = some 0 := by kernel_rfl
theorem hb_61 : hasBody Tryz.prog 61 = true := by kernel_rfl
theorem sl_72 : sliceOf Tryz.prog 72 = some (2, 1) := by kernel_rfl
/-! ## the chapter's example -/
def i3 : I64 := ⟨3, by decide⟩
def i4 : I64 := ⟨4, by decide⟩
def i9 : I64 := ⟨9, by decide⟩
def kY : Key := padK [121]
theorem okY : okT [121] = true := by rfl
def wXg : Write := ⟨kX, ⟨#[]⟩, true⟩
def wY2 : Write := ⟨kY, ⟨#[50]⟩, false⟩
def wX0 : Write := ⟨kX, ⟨#[]⟩, false⟩
def s10 : Stamp := ⟨1, 0⟩
def s20 : Stamp := ⟨2, 0⟩
def vXg : Version := ⟨⟨2, 0⟩, ⟨#[]⟩, true⟩
def vY2 : Version := ⟨⟨2, 0⟩, ⟨#[50]⟩, false⟩
def iY : Item := ⟨kY, ⟨#[50]⟩⟩
theorem perm_two {α : Type} {a b : α} {ys : List α} (h : ys.Perm [a, b]) : ys = [a, b] ∨ ys = [b, a] := by
  have hl := h.length_eq
  match ys, hl with
  | [x, y], _ =>
    have hx : x = a ∨ x = b := by have := h.mem_iff.1 (show x ∈ [x, y] by simp); simpa using this
    rcases hx with rfl | rfl
    · have h2 := (List.perm_cons _).1 h
      exact .inl (by rw [List.perm_singleton.1 h2])
    · have h3 : [x, y].Perm [x, a] := h.trans (.swap _ _ _)
      have h2 := (List.perm_cons _).1 h3
      exact .inr (by rw [List.perm_singleton.1 h2])
theorem AppS.two {s : Stamp} {l l' : List (Key × CV)} {w v : Write} (h : AppS s l [w, v] l') : ∃ c1 c2, l' = aput (aput l w.key (c1, afterPut (getS l w.key) ⟨s, w.val, w.gone⟩)) v.key (c2, afterPut (getS (aput l w.key (c1, afterPut (getS l w.key) ⟨s, w.val, w.gone⟩)) v.key) ⟨s, v.val, v.gone⟩) := by
  generalize hw : [w, v] = ws at h
  cases h with
  | nil => cases hw
  | snoc h =>
    rename_i ws l1 x cb
    match ws, hw with
    | [], hw => exact absurd (congrArg List.length hw) (by simp)
    | [y], hw =>
      simp only [List.cons_append, List.nil_append, List.cons.injEq, and_true] at hw
      obtain ⟨rfl, rfl⟩ := hw
      obtain ⟨c1, rfl⟩ := h.one
      exact ⟨c1, cb, rfl⟩
    | y :: z :: t, hw => exact absurd (congrArg List.length hw) (by simp)
theorem ComX.two {l l' : List (Key × CV)} {la la' e : Int} {s r : Stamp} {k j : Key} {w v : Write} (h : ComX l la s [(k, w), (j, v)] r e l' la') (h1 : conK l s k = false) (h2 : conK l s j = false) (ho : wcmp w v < 0) (ha : applyE l ⟨la + 1, 0⟩ [w, v] = 0) :
    r = ⟨la + 1, 0⟩ ∧ e = 0 ∧ la' = la + 1 ∧ AppS ⟨la + 1, 0⟩ l [w, v] l' := by
  rcases h with ⟨h, _⟩ | ⟨_, ⟨q, hq, h⟩, _⟩ | ⟨_, _, ys, hp, hw, he, _, h0⟩
  · cases h
  · simp only [List.mem_cons, List.not_mem_nil, or_false] at hq
    rcases hq with rfl | rfl
    · rw [h1] at h; cases h
    · rw [h2] at h; cases h
  · have hy : ys = [w, v] := by
      rcases perm_two (by simpa using hp) with h | h
      · exact h
      · subst h
        have := (List.pairwise_cons.1 hw).1 w (by simp)
        exact absurd ho this
    subst hy
    rw [ha] at he
    obtain ⟨h3, h4, h5⟩ := h0 he
    exact ⟨h3, he, h4, h5⟩
theorem LeastS.none {la : Int} {s : Stamp} (h : LeastS [] la s) : s = ⟨la, 0⟩ := by
  rcases h.is with h | ⟨q, hq, _⟩
  · exact h
  · cases hq
abbrev x1 (xa : Nat) : List (I64 × TX) := [(i1, (xa, (s00, [])))]
abbrev x2 (xa : Nat) : List (I64 × TX) := [(i1, (xa, (s00, [(kX, wX1)])))]
abbrev x3 (xb : Nat) : List (I64 × TX) := [(i2, (xb, (s10, [])))]
abbrev x4 (xb xc : Nat) : List (I64 × TX) := [(i2, (xb, (s10, []))), (i3, (xc, (s10, [])))]
abbrev x5 (xb xc : Nat) : List (I64 × TX) := [(i2, (xb, (s10, [(kX, wXg)]))), (i3, (xc, (s10, [])))]
abbrev x6 (xb xc : Nat) : List (I64 × TX) := [(i2, (xb, (s10, [(kX, wXg), (kY, wY2)]))), (i3, (xc, (s10, [])))]
abbrev x7 (xc : Nat) : List (I64 × TX) := [(i3, (xc, (s10, [])))]
abbrev x8 (xz : Nat) : List (I64 × TX) := [(i4, (xz, (s20, [])))]
abbrev l1s (cb : Nat) : List (Key × CV) := [(kX, (cb, [vX1]))]
abbrev l2s (c1 c2 : Nat) : List (Key × CV) := [(kX, (c1, [vX1, vXg])), (kY, (c2, [vY2]))]
theorem sk1 {xa : Nat} : putS (x1 xa) i1 wX1 = 0 ∧ afterS (x1 xa) i1 wX1 = x2 xa ∧ alook (x2 xa) i1 = some (xa, (s00, [(kX, wX1)])) ∧ adel (x2 xa) i1 = [] ∧ seeP [] (xa, (s00, [(kX, wX1)])) kX = (⟨#[49]⟩, true, 0) := ⟨by kernel_rfl, by kernel_rfl, by kernel_rfl, by kernel_rfl, by kernel_rfl⟩
theorem sk2 {xb xc : Nat} : aput (x3 xb) i3 (xc, (s10, [])) = x4 xb xc ∧ putS (x4 xb xc) i2 wXg = 0 ∧ afterS (x4 xb xc) i2 wXg = x5 xb xc ∧ putS (x5 xb xc) i2 wY2 = 0 ∧ afterS (x5 xb xc) i2 wY2 = x6 xb xc := ⟨by kernel_rfl, by kernel_rfl, by kernel_rfl, by kernel_rfl, by kernel_rfl⟩
theorem sk3 {xb xc : Nat} : alook (x6 xb xc) i2 = some (xb, (s10, [(kX, wXg), (kY, wY2)])) ∧ adel (x6 xb xc) i2 = x7 xc ∧ alook (x7 xc) i3 = some (xc, (s10, [])) ∧ adel (x7 xc) i3 = [] := ⟨by kernel_rfl, by kernel_rfl, by kernel_rfl, by kernel_rfl⟩
theorem sk4 {xb cb : Nat} : seeP (l1s cb) (xb, (s10, [(kX, wXg), (kY, wY2)])) kX = (⟨#[]⟩, false, 0) ∧ ([kX, kY].filterMap (hitX (l1s cb) (xb, (s10, [(kX, wXg), (kY, wY2)])) kA .zero)).take (9 : Int).toNat = [iY] := ⟨by kernel_rfl, by kernel_rfl⟩
theorem sk5 {cb : Nat} : conK (l1s cb) s10 kX = false ∧ conK (l1s cb) s10 kY = false ∧ applyE (l1s cb) ⟨1 + 1, 0⟩ [wXg, wY2] = 0 := ⟨by kernel_rfl, by kernel_rfl, by kernel_rfl⟩
theorem sk5o : wcmp wXg wY2 < 0 := of_decide_eq_true (by kernel_rfl)
theorem sk6 {cb c1 c2 : Nat} : aput (aput (l1s cb) wXg.key (c1, afterPut (getS (l1s cb) wXg.key) ⟨⟨1 + 1, 0⟩, wXg.val, wXg.gone⟩)) wY2.key (c2, afterPut (getS (aput (l1s cb) wXg.key (c1, afterPut (getS (l1s cb) wXg.key) ⟨⟨1 + 1, 0⟩, wXg.val, wXg.gone⟩)) wY2.key) ⟨⟨1 + 1, 0⟩, wY2.val, wY2.gone⟩) = l2s c1 c2 := by kernel_rfl
theorem sk7 {xc c1 c2 : Nat} : seeP (l2s c1 c2) (xc, (s10, [])) kX = (⟨#[49]⟩, true, 0) ∧ trimS (l2s c1 c2) ⟨2, 0⟩ = 2 := ⟨by kernel_rfl, by kernel_rfl⟩
theorem sk8 {xz : Nat} : putS (x8 xz) i4 .zero = 1 ∧ afterS (x8 xz) i4 .zero = x8 xz ∧ alook (x8 xz) i4 = some (xz, (s20, [])) := ⟨by kernel_rfl, by kernel_rfl, by kernel_rfl⟩
theorem sk9 {l : List (Key × CV)} {q : TX} : seeP l q .zero = (⟨#[]⟩, false, 1) := by unfold seeP; rw [if_neg (by rw [(by kernel_rfl : goodK .zero = false)]; decide)]
theorem sk10 : KSorted [kX, kY] := .cons (fun k hk => by rw [List.mem_singleton.1 hk]; exact of_decide_eq_true (by kernel_rfl)) (.cons (by simp) .nil)

set_option maxRecDepth 100000 in
set_option maxHeartbeats 2000000 in
theorem C_same64_23 {c : Cx} {L : List Pt} {au aw : Option Addr} {nu cu nv cv : Nat} {us vs : List Int} (hU : SlAt c L intE au nu us) (hV : SlAt c L intE aw nv vs) : Fn Tryz.prog 61 #[.slice au nu cu, .slice aw nv cv] c L (fun v L' => v = .bool (decide (us = vs)) ∧ L' = L) := by
  have hul := hU.len
  have hut := hU.lt
  have hvl := hV.len
  have hvt := hV.lt
  refine Fn.enter Tryz.func61 rfl 26 rfl rfl (fun R hR => ?_)
  refine Cd.seq (fun K1 hK1 => ?_)
  refine Cd.region [0] rfl ?_
  refine Seq.rd0 at0 rfl rfl (O.assign (v := .bool _) rfl) ?_
  refine Seq.nil ?_
  refine hK1 ?_
  refine Cd.seq (fun K2 hK2 => ?_)
  refine Cd.seq (fun K3 hK3 => ?_)
  refine Cd.region [0, 1, 2, 3, 4] rfl ?_
  refine Seq.rd0 at0 rfl rfl (O.move (v := .slice _ _ _) rfl) ?_
  refine Seq.rd0 at1 rfl rfl (O.lenS ds_72 rfl) ?_
  refine Seq.rd0 at2 rfl rfl (O.move (v := .slice _ _ _) rfl) ?_
  refine Seq.rd0 at3 rfl rfl (O.lenS ds_72 rfl) ?_
  refine Seq.rd0 at4 rfl rfl (O.neI rfl rfl) ?_
  refine Seq.nil ?_
  refine hK3 ?_
  refine Cd.ifn ((nu : Int) = (nv : Int)) rfl (fun t4 => ?_) (fun t4 => ?_)
  · skip
    refine Cd.seq (fun K5 hK5 => ?_)
    refine Cd.region [0] rfl ?_
    refine Seq.rd0 at0 rfl rfl (O.assign (v := .bool _) rfl) ?_
    refine Seq.nil ?_
    refine hK5 ?_
    refine Cd.ret ?_
    exact hR _ _ (Res.one (v := .bool _) rfl rfl) ⟨by rw [decide_eq_false (by first | exact same_some (i := i) (by omega) (by omega) (by assumption) | (intro h9; have := congrArg List.length h9; omega))], rfl⟩ (.refl _)
  · skip
    refine Cd.skip ?_
    refine hK2 ?_
    refine Cd.seq (fun K6 hK6 => ?_)
    refine Cd.seq (fun K7 hK7 => ?_)
    refine Cd.region [0] rfl ?_
    refine Seq.rd0 at0 rfl rfl (O.assign (v := .int .i64 _) rfl) ?_
    refine Seq.nil ?_
    refine hK7 ?_
    refine Cd.block ?_
    refine Cd.loop (fun m8 e9 L10 => ∃ i : Nat, m8 = us.length - i ∧ e9 0 = .slice au nu cu ∧ e9 1 = .slice aw nv cv ∧ e9 5 = .int .i64 (i : Int) ∧ L10 = L ∧ i ≤ us.length ∧ us.take i = vs.take i) _ ⟨0, rfl, rfl, rfl, rfl, rfl, Nat.zero_le _, rfl⟩ ?_
    rintro _ e9 _ ⟨i, rfl, s11, s12, s13, rfl, hi, hz⟩ K14 hK14
    refine Cd.seq (fun K15 hK15 => ?_)
    refine Cd.seq (fun K16 hK16 => ?_)
    refine Cd.region [0, 1, 2, 3] rfl ?_
    refine Seq.rd0 at0 rfl rfl (O.move (v := .int .i64 _) (by exact s13)) ?_
    refine Seq.rd0 at1 rfl rfl (O.move (v := .slice _ _ _) (by exact s11)) ?_
    refine Seq.rd0 at2 rfl rfl (O.lenS ds_72 rfl) ?_
    refine Seq.rd0 at3 rfl rfl (O.lss rfl rfl) ?_
    refine Seq.nil ?_
    refine hK16 ?_
    refine Cd.if ((i : Int) < (nu : Int)) rfl (fun t17 => ?_) (fun t17 => ?_)
    · skip
      refine Cd.skip ?_
      refine hK15 ?_
      refine Cd.seq (fun K18 hK18 => ?_)
      refine Cd.block ?_
      refine Cd.seq (fun K19 hK19 => ?_)
      refine Cd.draw 9 rfl po ?_
      refine Any.rd0 0 at0 rfl rfl (O.move (v := .slice _ _ _) (by exact s11)) (by kernel_rfl) (by kernel_rfl) (by kernel_rfl) ?_
      refine Any.rd0 1 at1 rfl rfl (O.move (v := .int .i64 _) (by exact s13)) (by kernel_rfl) (by kernel_rfl) (by kernel_rfl) ?_
      have hlt20 : i < us.length := by omega
      obtain ⟨pre20, sp20, el20, fz20, hav20, hrd20⟩ := hU.at_ hlt20
      refine Any.rd0 2 at2 rfl rfl (O.indexG sl_72 rfl hav20 rfl (by omega) (by omega)) (by kernel_rfl) (by kernel_rfl) (by kernel_rfl) ?_
      refine Any.rd1 3 at3 rfl rfl (O.load kd_2 rfl ((rowGetP (k := 0) intE_size (getN hlt20) (by decide)).trans rfl)) hrd20 (by kernel_rfl) (by kernel_rfl) (by kernel_rfl) ?_
      refine Any.rd0 4 at4 rfl rfl (O.move (v := .slice _ _ _) (by exact s12)) (by kernel_rfl) (by kernel_rfl) (by kernel_rfl) ?_
      refine Any.rd0 5 at5 rfl rfl (O.move (v := .int .i64 _) (by exact s13)) (by kernel_rfl) (by kernel_rfl) (by kernel_rfl) ?_
      have hlt21 : i < vs.length := by omega
      obtain ⟨pre21, sp21, el21, fz21, hav21, hrd21⟩ := hV.at_ hlt21
      refine Any.rd0 6 at6 rfl rfl (O.indexG sl_72 rfl hav21 rfl (by omega) (by omega)) (by kernel_rfl) (by kernel_rfl) (by kernel_rfl) ?_
      refine Any.rd1 7 at7 rfl rfl (O.load kd_2 rfl ((rowGetP (k := 0) intE_size (getN hlt21) (by decide)).trans rfl)) hrd21 (by kernel_rfl) (by kernel_rfl) (by kernel_rfl) ?_
      refine Any.rd0 8 at8 rfl rfl (O.neI rfl rfl) (by kernel_rfl) (by kernel_rfl) (by kernel_rfl) ?_
      refine Any.done (by kernel_rfl) ⟨⟨trivial, hrd20⟩, hrd21⟩ ?_
      refine hK19 ?_
      refine Cd.ifn (us[i] = vs[i]) rfl (fun t22 => ?_) (fun t22 => ?_)
      · skip
        refine Cd.seq (fun K23 hK23 => ?_)
        refine Cd.region [0] rfl ?_
        refine Seq.rd0 at0 rfl rfl (O.assign (v := .bool _) rfl) ?_
        refine Seq.nil ?_
        refine hK23 ?_
        refine Cd.ret ?_
        exact hR _ _ (Res.one (v := .bool _) rfl rfl) ⟨by rw [decide_eq_false (by first | exact same_some (i := i) (by omega) (by omega) (by assumption) | (intro h9; have := congrArg List.length h9; omega))], rfl⟩ (.refl _)
      · skip
        refine Cd.skip ?_
        refine hK18 ?_
        refine Cd.region [0, 1, 2] rfl ?_
        refine Seq.rd0 at0 rfl rfl (O.move (v := .int .i64 _) (by exact s13)) ?_
        refine Seq.rd0 at1 rfl rfl (O.add rfl rfl (by omega) (by omega)) ?_
        refine Seq.rd0 at2 rfl rfl (O.assign (v := .int .i64 _) rfl) ?_
        refine Seq.nil ?_
        exact hK14 _ (by omega) ⟨i + 1, rfl, (by exact s11), (by exact s12), rfl, rfl, by omega, same_next (by omega) (by omega) hz (by assumption)⟩
    · skip
      refine Cd.exit ?_
      refine hK6 ?_
      refine Cd.seq (fun K24 hK24 => ?_)
      refine Cd.region [0] rfl ?_
      refine Seq.rd0 at0 rfl rfl (O.assign (v := .bool _) rfl) ?_
      refine Seq.nil ?_
      refine hK24 ?_
      refine Cd.ret ?_
      exact hR _ _ (Res.one (v := .bool _) rfl rfl) ⟨by rw [decide_eq_true (same_all (by omega) (by omega) hz)], rfl⟩ (.refl _)

set_option maxRecDepth 100000 in
set_option maxHeartbeats 2000000 in
theorem C_SoloKnown {c : Cx} {L : List Pt}  : Fn Tryz.prog 9 #[] c L (fun v L' => v = .bool true ∧ L' = L) := by
  refine Fn.enter Tryz.func9 rfl 217 rfl rfl (fun R hR => ?_)
  refine Cd.seq (fun K1 hK1 => ?_)
  refine Cd.region [0] rfl ?_
  refine Seq.rd0 at0 rfl rfl (O.assign (v := .bool _) rfl) ?_
  refine Seq.nil ?_
  refine hK1 ?_
  refine Cd.seq (fun K2 hK2 => ?_)
  refine Cd.seq (fun K3 hK3 => ?_)
  refine Cd.region [0, 1] rfl ?_
  refine Seq.op at0 rfl (Op.callF rfl hb_50 C_awake23 rfl ?_)
  rintro _ L9 ⟨rfl, h9⟩
  rw [h9]
  refine Seq.rd0 at1 rfl rfl (O.not rfl) ?_
  refine Seq.nil ?_
  refine hK3 ?_
  refine Cd.condF rfl ?_
  refine Cd.skip ?_
  refine hK2 ?_
  refine Cd.seq (fun K4 hK4 => ?_)
  refine Cd.region [0, 1] rfl ?_
  refine Seq.op at0 rfl (Op.callF rfl hb_51 C_solo_New2 rfl ?_)
  rintro _ _ ⟨p, Ls0, rfl, hS0, rfl⟩
  refine Seq.rd0 at1 rfl rfl (O.assign (v := .pointer _) rfl) ?_
  refine Seq.nil ?_
  refine hK4 ?_
  refine Cd.seq (fun K5 hK5 => ?_)
  refine Cd.region [0, 1, 2, 3, 4, 5, 6] rfl ?_
  refine Seq.rd0 at0 rfl rfl (O.move (v := .pointer _) rfl) ?_
  refine Seq.op at1 rfl (Op.callF rfl hb_53 (Fn.perm (C_So_Begin (R := ([]) ++ L) (ti := i1) hS0 rfl (by simp) (by decide)) (bring (pre := ([])) (Ls := Ls0) (R := L))) rfl ?_)
  rintro _ _ ⟨rfl, xa, Ls1, hS1, rfl⟩
  have hS1 : SoOwn p [] (x1 xa) 1 0 Ls1 := hS1
  rw [show (0 : Int) + 1 = 1 from rfl]
  refine Ent.perm ?_ (bring (Ls := Ls1) (pre := ([])) (R := L)).symm
  refine Seq.rd0 at2 rfl rfl (O.move (v := .tuple _) rfl) ?_
  refine Seq.rd0 at3 rfl rfl (O.ext rfl r2_0) ?_
  refine Seq.rd0 at4 rfl rfl (O.ext rfl r2_1) ?_
  refine Seq.rd0 at5 rfl rfl (O.assign (v := .int .i64 _) rfl) ?_
  refine Seq.rd0 at6 rfl rfl (O.assign (v := .int .i64 _) rfl) ?_
  refine Seq.nil ?_
  refine hK5 ?_
  refine Cd.seq (fun K6 hK6 => ?_)
  refine Cd.region [0, 1, 2, 3, 4] rfl ?_
  refine Seq.rd0 at0 rfl rfl (O.move (v := .pointer _) rfl) ?_
  refine Seq.rd0 at1 rfl rfl (O.move (v := .int .i64 _) rfl) ?_
  refine Seq.op at2 rfl (Op.callF rfl hb_57 (C_law23_k (l := [120]) okX) rfl ?_)
  rintro _ _ ⟨rfl, rfl⟩
  refine Seq.rd0 at3 rfl rfl (O.build rfl (cs := (Write_enc (⟨kX, (⟨#[49]⟩ : ByteArray), false⟩ : Write))) (by kernel_rfl)) ?_
  refine Seq.op at4 rfl (Op.callF rfl hb_54 (Fn.perm (C_So_Put (R := ([]) ++ L) (ti := i1) (x := wX1) hS1) (bring (pre := ([])) (Ls := Ls1) (R := L))) rfl ?_)
  rintro _ _ ⟨rfl, Ls2, hS2, rfl⟩
  rw [sk1.2.1] at hS2
  rw [sk1.1]
  refine Ent.perm ?_ (bring (Ls := Ls2) (pre := ([])) (R := L)).symm
  refine Seq.nil ?_
  refine hK6 ?_
  refine Cd.seq (fun K7 hK7 => ?_)
  refine Cd.region [0, 1, 2, 3, 4, 5, 6, 7, 8, 9, 10] rfl ?_
  refine Seq.rd0 at0 rfl rfl (O.move (v := .pointer _) rfl) ?_
  refine Seq.rd0 at1 rfl rfl (O.move (v := .int .i64 _) rfl) ?_
  refine Seq.op at2 rfl (Op.callF rfl hb_57 (C_law23_k (l := [120]) okX) rfl ?_)
  rintro _ _ ⟨rfl, rfl⟩
  refine Seq.op at3 rfl (Op.callF rfl hb_58 (Fn.perm (C_So_Get (R := ([]) ++ L) (ti := i1) (k := kX) hS2 sk1.2.2.1) (bring (pre := ([])) (Ls := Ls2) (R := L))) rfl ?_)
  rintro _ _ ⟨rfl, rfl⟩
  refine Ent.perm ?_ (bring (Ls := Ls2) (pre := ([])) (R := L)).symm
  rw [sk1.2.2.2.2]
  refine Seq.rd0 at4 rfl rfl (O.move (v := .tuple _) rfl) ?_
  refine Seq.rd0 at5 rfl rfl (O.ext rfl r3_0) ?_
  refine Seq.rd0 at6 rfl rfl (O.ext rfl r3_1) ?_
  refine Seq.rd0 at7 rfl rfl (O.ext rfl r3_2) ?_
  refine Seq.rd0 at8 rfl rfl (O.assign (v := .string _) rfl) ?_
  refine Seq.rd0 at9 rfl rfl (O.assign (v := .bool _) rfl) ?_
  refine Seq.rd0 at10 rfl rfl (O.assign (v := .int .i64 _) rfl) ?_
  refine Seq.nil ?_
  refine hK7 ?_
  refine Cd.seq (fun K8 hK8 => ?_)
  refine Cd.region [0, 1, 2] rfl ?_
  refine Seq.rd0 at0 rfl rfl (O.move (v := .pointer _) rfl) ?_
  refine Seq.rd0 at1 rfl rfl (O.move (v := .int .i64 _) rfl) ?_
  refine Seq.op at2 rfl (Op.callF rfl hb_56 (Fn.perm (C_So_Commit (R := ([]) ++ L) (ti := i1) hS2 (by decide)) (bring (pre := ([])) (Ls := Ls2) (R := L))) rfl ?_)
  rintro _ _ ⟨r1, e1, lz1, la1, Ls3, rfl, hS3, hc1, rfl⟩
  rw [sk1.2.2.1] at hc1
  rw [sk1.2.2.2.1] at hS3
  obtain ⟨rfl, rfl, rfl, cb, rfl⟩ := ComX.one hc1 aw23_6.1 aw23_6.2
  rw [aw23_7] at hS3
  have hS3 : SoOwn p (l1s cb) [] 1 1 Ls3 := hS3
  refine Ent.perm ?_ (bring (Ls := Ls3) (pre := ([])) (R := L)).symm
  refine Seq.nil ?_
  refine hK8 ?_
  refine Cd.seq (fun K9 hK9 => ?_)
  refine Cd.region [0, 1, 2, 3, 4, 5, 6] rfl ?_
  refine Seq.rd0 at0 rfl rfl (O.move (v := .pointer _) rfl) ?_
  refine Seq.op at1 rfl (Op.callF rfl hb_53 (Fn.perm (C_So_Begin (R := ([]) ++ L) (ti := i2) hS3 rfl (by simp) (by decide)) (bring (pre := ([])) (Ls := Ls3) (R := L))) rfl ?_)
  rintro _ _ ⟨rfl, xb, Ls4, hS4, rfl⟩
  have hS4 : SoOwn p (l1s cb) (x3 xb) 2 1 Ls4 := hS4
  rw [show (1 : Int) + 1 = 2 from rfl]
  refine Ent.perm ?_ (bring (Ls := Ls4) (pre := ([])) (R := L)).symm
  refine Seq.rd0 at2 rfl rfl (O.move (v := .tuple _) rfl) ?_
  refine Seq.rd0 at3 rfl rfl (O.ext rfl r2_0) ?_
  refine Seq.rd0 at4 rfl rfl (O.ext rfl r2_1) ?_
  refine Seq.rd0 at5 rfl rfl (O.assign (v := .int .i64 _) rfl) ?_
  refine Seq.rd0 at6 rfl rfl (O.assign (v := .int .i64 _) rfl) ?_
  refine Seq.nil ?_
  refine hK9 ?_
  refine Cd.seq (fun K10 hK10 => ?_)
  refine Cd.region [0, 1, 2, 3, 4, 5, 6] rfl ?_
  refine Seq.rd0 at0 rfl rfl (O.move (v := .pointer _) rfl) ?_
  refine Seq.op at1 rfl (Op.callF rfl hb_53 (Fn.perm (C_So_Begin (R := ([]) ++ L) (ti := i3) hS4 rfl (by simp) (by decide)) (bring (pre := ([])) (Ls := Ls4) (R := L))) rfl ?_)
  rintro _ _ ⟨rfl, xc, Ls5, hS5, rfl⟩
  rw [show (⟨1, 0⟩ : Stamp) = s10 from rfl, sk2.1] at hS5
  have hS5 : SoOwn p (l1s cb) (x4 xb xc) 3 1 Ls5 := hS5
  rw [show (2 : Int) + 1 = 3 from rfl]
  refine Ent.perm ?_ (bring (Ls := Ls5) (pre := ([])) (R := L)).symm
  refine Seq.rd0 at2 rfl rfl (O.move (v := .tuple _) rfl) ?_
  refine Seq.rd0 at3 rfl rfl (O.ext rfl r2_0) ?_
  refine Seq.rd0 at4 rfl rfl (O.ext rfl r2_1) ?_
  refine Seq.rd0 at5 rfl rfl (O.assign (v := .int .i64 _) rfl) ?_
  refine Seq.rd0 at6 rfl rfl (O.assign (v := .int .i64 _) rfl) ?_
  refine Seq.nil ?_
  refine hK10 ?_
  refine Cd.seq (fun K11 hK11 => ?_)
  refine Cd.region [0, 1, 2, 3, 4] rfl ?_
  refine Seq.rd0 at0 rfl rfl (O.move (v := .pointer _) rfl) ?_
  refine Seq.rd0 at1 rfl rfl (O.move (v := .int .i64 _) rfl) ?_
  refine Seq.op at2 rfl (Op.callF rfl hb_57 (C_law23_k (l := [120]) okX) rfl ?_)
  rintro _ _ ⟨rfl, rfl⟩
  refine Seq.rd0 at3 rfl rfl (O.build rfl (cs := (Write_enc (⟨kX, ⟨#[]⟩, true⟩ : Write))) (by kernel_rfl)) ?_
  refine Seq.op at4 rfl (Op.callF rfl hb_54 (Fn.perm (C_So_Put (R := ([]) ++ L) (ti := i2) (x := wXg) hS5) (bring (pre := ([])) (Ls := Ls5) (R := L))) rfl ?_)
  rintro _ _ ⟨rfl, Ls6, hS6, rfl⟩
  rw [sk2.2.2.1] at hS6
  rw [sk2.2.1]
  refine Ent.perm ?_ (bring (Ls := Ls6) (pre := ([])) (R := L)).symm
  refine Seq.nil ?_
  refine hK11 ?_
  refine Cd.seq (fun K12 hK12 => ?_)
  refine Cd.region [0, 1, 2, 3, 4] rfl ?_
  refine Seq.rd0 at0 rfl rfl (O.move (v := .pointer _) rfl) ?_
  refine Seq.rd0 at1 rfl rfl (O.move (v := .int .i64 _) rfl) ?_
  refine Seq.op at2 rfl (Op.callF rfl hb_57 (C_law23_k (l := [121]) okY) rfl ?_)
  rintro _ _ ⟨rfl, rfl⟩
  refine Seq.rd0 at3 rfl rfl (O.build rfl (cs := (Write_enc (⟨kY, (⟨#[50]⟩ : ByteArray), false⟩ : Write))) (by kernel_rfl)) ?_
  refine Seq.op at4 rfl (Op.callF rfl hb_54 (Fn.perm (C_So_Put (R := ([]) ++ L) (ti := i2) (x := wY2) hS6) (bring (pre := ([])) (Ls := Ls6) (R := L))) rfl ?_)
  rintro _ _ ⟨rfl, Ls7, hS7, rfl⟩
  rw [sk2.2.2.2.2] at hS7
  rw [sk2.2.2.2.1]
  refine Ent.perm ?_ (bring (Ls := Ls7) (pre := ([])) (R := L)).symm
  refine Seq.nil ?_
  refine hK12 ?_
  refine Cd.seq (fun K13 hK13 => ?_)
  refine Cd.region [0, 1, 2, 3, 4, 5, 6, 7, 8, 9, 10] rfl ?_
  refine Seq.rd0 at0 rfl rfl (O.move (v := .pointer _) rfl) ?_
  refine Seq.rd0 at1 rfl rfl (O.move (v := .int .i64 _) rfl) ?_
  refine Seq.op at2 rfl (Op.callF rfl hb_57 (C_law23_k (l := [120]) okX) rfl ?_)
  rintro _ _ ⟨rfl, rfl⟩
  refine Seq.op at3 rfl (Op.callF rfl hb_58 (Fn.perm (C_So_Get (R := ([]) ++ L) (ti := i2) (k := kX) hS7 (sk3 (xb := xb) (xc := xc)).1) (bring (pre := ([])) (Ls := Ls7) (R := L))) rfl ?_)
  rintro _ _ ⟨rfl, rfl⟩
  refine Ent.perm ?_ (bring (Ls := Ls7) (pre := ([])) (R := L)).symm
  rw [sk4.1]
  refine Seq.rd0 at4 rfl rfl (O.move (v := .tuple _) rfl) ?_
  refine Seq.rd0 at5 rfl rfl (O.ext rfl r3_0) ?_
  refine Seq.rd0 at6 rfl rfl (O.ext rfl r3_1) ?_
  refine Seq.rd0 at7 rfl rfl (O.ext rfl r3_2) ?_
  refine Seq.rd0 at8 rfl rfl (O.assign (v := .string _) rfl) ?_
  refine Seq.rd0 at9 rfl rfl (O.assign (v := .bool _) rfl) ?_
  refine Seq.rd0 at10 rfl rfl (O.assign (v := .int .i64 _) rfl) ?_
  refine Seq.nil ?_
  refine hK13 ?_
  refine Cd.seq (fun K14 hK14 => ?_)
  refine Cd.region [0, 1, 2, 3, 4, 5, 6, 7, 8, 9] rfl ?_
  refine Seq.rd0 at0 rfl rfl (O.move (v := .pointer _) rfl) ?_
  refine Seq.rd0 at1 rfl rfl (O.move (v := .int .i64 _) rfl) ?_
  refine Seq.op at2 rfl (Op.callF rfl hb_57 (C_law23_k (l := [97]) okA) rfl ?_)
  rintro _ _ ⟨rfl, rfl⟩
  refine Seq.rd0 at3 rfl rfl (O.build rfl (cs := (Key_enc Key.zero)) (by kernel_rfl)) ?_
  refine Seq.op at4 rfl (Op.callF rfl hb_59 (Fn.perm (C_So_Scan (R := ([]) ++ L) (ti := i2) (a := kA) (b := .zero) (most := 9) hS7 (sk3 (xb := xb) (xc := xc)).1) (bring (pre := ([])) (Ls := Ls7) (R := L))) rfl ?_)
  rintro _ _ ⟨yq, its, Li1, ai1, ci1, rfl, hny, hmy, hits, hoi, rfl⟩
  refine Ent.perm ?_ (bring3 (A := Li1) (B := Ls7) (pre := ([])) (R := L))
  obtain rfl : yq = [kX, kY] := ksorted_eq hny sk10 (fun k => by rw [hmy]; simp only [List.map_cons, List.map_nil, List.mem_cons, List.not_mem_nil, or_false]; constructor <;> intro h <;> rcases h with h | h <;> simp_all)
  rw [sk4.2] at hits
  subst hits
  rw [show [iY].length = 1 from rfl] at hoi ⊢
  refine Seq.rd0 at5 rfl rfl (O.move (v := .tuple _) rfl) ?_
  refine Seq.rd0 at6 rfl rfl (O.ext rfl r2_0) ?_
  refine Seq.rd0 at7 rfl rfl (O.ext rfl r2_1) ?_
  refine Seq.rd0 at8 rfl rfl (O.assign (v := .slice _ _ _) rfl) ?_
  refine Seq.rd0 at9 rfl rfl (O.assign (v := .int .i64 _) rfl) ?_
  refine Seq.nil ?_
  refine hK14 ?_
  refine Cd.seq (fun K15 hK15 => ?_)
  refine Cd.region [0, 1, 2] rfl ?_
  refine Seq.rd0 at0 rfl rfl (O.move (v := .pointer _) rfl) ?_
  refine Seq.rd0 at1 rfl rfl (O.move (v := .int .i64 _) rfl) ?_
  refine Seq.op at2 rfl (Op.callF rfl hb_56 (Fn.perm (C_So_Commit (R := (Li1) ++ L) (ti := i2) hS7 (by decide)) (bring (pre := (Li1)) (Ls := Ls7) (R := L))) rfl ?_)
  rintro _ _ ⟨r2, e2, lz2, la2, Ls8, rfl, hS8, hc2, rfl⟩
  rw [(sk3 (xb := xb) (xc := xc)).1] at hc2
  rw [(sk3 (xb := xb) (xc := xc)).2.1] at hS8
  obtain ⟨rfl, rfl, rfl, hA2⟩ := ComX.two hc2 sk5.1 sk5.2.1 sk5o sk5.2.2
  obtain ⟨c1, c2, rfl⟩ := hA2.two
  rw [sk6] at hS8
  have hS8 : SoOwn p (l2s c1 c2) (x7 xc) 3 2 Ls8 := hS8
  refine Ent.perm ?_ (bring (Ls := Ls8) (pre := (Li1)) (R := L)).symm
  refine Seq.nil ?_
  refine hK15 ?_
  refine Cd.seq (fun K16 hK16 => ?_)
  refine Cd.region [0, 1, 2, 3, 4, 5, 6, 7, 8, 9, 10] rfl ?_
  refine Seq.rd0 at0 rfl rfl (O.move (v := .pointer _) rfl) ?_
  refine Seq.rd0 at1 rfl rfl (O.move (v := .int .i64 _) rfl) ?_
  refine Seq.op at2 rfl (Op.callF rfl hb_57 (C_law23_k (l := [120]) okX) rfl ?_)
  rintro _ _ ⟨rfl, rfl⟩
  refine Seq.op at3 rfl (Op.callF rfl hb_58 (Fn.perm (C_So_Get (R := (Li1) ++ L) (ti := i3) (k := kX) hS8 (sk3 (xb := xb) (xc := xc)).2.2.1) (bring (pre := (Li1)) (Ls := Ls8) (R := L))) rfl ?_)
  rintro _ _ ⟨rfl, rfl⟩
  refine Ent.perm ?_ (bring (Ls := Ls8) (pre := (Li1)) (R := L)).symm
  rw [sk7.1]
  refine Seq.rd0 at4 rfl rfl (O.move (v := .tuple _) rfl) ?_
  refine Seq.rd0 at5 rfl rfl (O.ext rfl r3_0) ?_
  refine Seq.rd0 at6 rfl rfl (O.ext rfl r3_1) ?_
  refine Seq.rd0 at7 rfl rfl (O.ext rfl r3_2) ?_
  refine Seq.rd0 at8 rfl rfl (O.assign (v := .string _) rfl) ?_
  refine Seq.rd0 at9 rfl rfl (O.assign (v := .bool _) rfl) ?_
  refine Seq.rd0 at10 rfl rfl (O.assign (v := .int .i64 _) rfl) ?_
  refine Seq.nil ?_
  refine hK16 ?_
  refine Cd.seq (fun K17 hK17 => ?_)
  refine Cd.region [0, 1, 2, 3, 4, 5, 6, 7, 8] rfl ?_
  refine Seq.rd0 at0 rfl rfl (O.move (v := .pointer _) rfl) ?_
  refine Seq.rd0 at1 rfl rfl (O.move (v := .int .i64 _) rfl) ?_
  refine Seq.op at2 rfl (Op.callF rfl hb_56 (Fn.perm (C_So_Commit (R := (Li1) ++ L) (ti := i3) hS8 (by decide)) (bring (pre := (Li1)) (Ls := Ls8) (R := L))) rfl ?_)
  rintro _ _ ⟨r3, e3, lz3, la3, Ls9, rfl, hS9, hc3, rfl⟩
  rw [(sk3 (xb := xb) (xc := xc)).2.2.1] at hc3
  rw [(sk3 (xb := xb) (xc := xc)).2.2.2] at hS9
  obtain ⟨rfl, rfl, rfl, rfl⟩ := ComX.none hc3
  refine Ent.perm ?_ (bring (Ls := Ls9) (pre := (Li1)) (R := L)).symm
  refine Seq.rd0 at3 rfl rfl (O.move (v := .tuple _) rfl) ?_
  refine Seq.rd0 at4 rfl rfl (O.ext rfl r2_0) ?_
  refine Seq.rd0 at5 rfl rfl (O.ext rfl r2_1) ?_
  refine Seq.op at6 rfl (Op.new rfl (O.alloc zo_24 (cs := (Stamp_enc Stamp.zero)) rfl) ?_)
  intro b18 hb18
  refine Seq.op at7 rfl (Op.set0 rfl (O.store kd_24 rfl (v := .agg _) rfl (Stamp_size _) (Stamp_room (Stamp_size _)) (Stamp_one _) (Stamp_put _ (Stamp_size _))) ?_)
  refine Seq.rd0 at8 rfl rfl (O.assign (v := .int .i64 _) rfl) ?_
  refine Seq.nil ?_
  refine hK17 ?_
  refine Cd.seq (fun K19 hK19 => ?_)
  refine Cd.region [0, 1, 2, 3, 4, 5, 6, 7, 8] rfl ?_
  refine Seq.rd0 at0 rfl rfl (O.move (v := .pointer _) rfl) ?_
  refine Seq.rd0 at1 rfl rfl (O.move (v := .int .i64 _) rfl) ?_
  refine Seq.op at2 rfl (Op.callF rfl hb_56 (Fn.perm (C_So_Commit (R := ((b18, _) :: Li1) ++ L) (ti := i3) hS9 (by decide)) (bring (pre := ((b18, _) :: Li1)) (Ls := Ls9) (R := L))) rfl ?_)
  rintro _ _ ⟨r4, e4, lz4, la4, Ls10, rfl, hS10, hc4, rfl⟩
  obtain ⟨rfl, rfl, rfl, rfl⟩ := hc4
  have hS10 : SoOwn p (l2s c1 c2) [] 3 2 Ls10 := hS10
  refine Ent.perm ?_ (bring (Ls := Ls10) (pre := ((b18, _) :: Li1)) (R := L)).symm
  refine Seq.rd0 at3 rfl rfl (O.move (v := .tuple _) rfl) ?_
  refine Seq.rd0 at4 rfl rfl (O.ext rfl r2_0) ?_
  refine Seq.rd0 at5 rfl rfl (O.ext rfl r2_1) ?_
  refine Seq.op at6 rfl (Op.new rfl (O.alloc zo_24 (cs := (Stamp_enc Stamp.zero)) rfl) ?_)
  intro b20 hb20
  refine Seq.op at7 rfl (Op.set0 rfl (O.store kd_24 rfl (v := .agg _) rfl (Stamp_size _) (Stamp_room (Stamp_size _)) (Stamp_one _) (Stamp_put _ (Stamp_size _))) ?_)
  refine Seq.rd0 at8 rfl rfl (O.assign (v := .int .i64 _) rfl) ?_
  refine Seq.nil ?_
  refine hK19 ?_
  refine Cd.seq (fun K21 hK21 => ?_)
  refine Cd.region [0, 1, 2, 3, 4, 5, 6, 7, 8, 9] rfl ?_
  refine Seq.rd0 at0 rfl rfl (O.move (v := .pointer _) rfl) ?_
  refine Seq.op at1 rfl (Op.callF rfl hb_57 (C_law23_k (l := [120]) okX) rfl ?_)
  rintro _ _ ⟨rfl, rfl⟩
  refine Seq.op at2 rfl (Op.callF rfl hb_58 (Fn.perm (C_So_GetN (R := ((b20, _) :: (b18, _) :: Li1) ++ L) (ti := i9) (k := kX) hS10 rfl) (bring (pre := ((b20, _) :: (b18, _) :: Li1)) (Ls := Ls10) (R := L))) rfl ?_)
  rintro _ _ ⟨rfl, rfl⟩
  refine Ent.perm ?_ (bring (Ls := Ls10) (pre := ((b20, _) :: (b18, _) :: Li1)) (R := L)).symm
  refine Seq.rd0 at3 rfl rfl (O.move (v := .tuple _) rfl) ?_
  refine Seq.rd0 at4 rfl rfl (O.ext rfl r3_0) ?_
  refine Seq.rd0 at5 rfl rfl (O.ext rfl r3_1) ?_
  refine Seq.rd0 at6 rfl rfl (O.ext rfl r3_2) ?_
  refine Seq.rd0 at7 rfl rfl (O.assign (v := .string _) rfl) ?_
  refine Seq.rd0 at8 rfl rfl (O.assign (v := .bool _) rfl) ?_
  refine Seq.rd0 at9 rfl rfl (O.assign (v := .int .i64 _) rfl) ?_
  refine Seq.nil ?_
  refine hK21 ?_
  refine Cd.seq (fun K22 hK22 => ?_)
  refine Cd.region [0, 1, 2, 3, 4, 5] rfl ?_
  refine Seq.rd0 at0 rfl rfl (O.move (v := .pointer _) rfl) ?_
  refine Seq.rd0 at1 rfl rfl (O.move (v := .int .i64 _) rfl) ?_
  refine Seq.op at2 rfl (Op.callF rfl hb_57 (C_law23_k (l := [120]) okX) rfl ?_)
  rintro _ _ ⟨rfl, rfl⟩
  refine Seq.rd0 at3 rfl rfl (O.build rfl (cs := (Write_enc (⟨kX, ⟨#[]⟩, false⟩ : Write))) (by kernel_rfl)) ?_
  refine Seq.op at4 rfl (Op.callF rfl hb_54 (Fn.perm (C_So_Put (R := ((b20, _) :: (b18, _) :: Li1) ++ L) (ti := i3) (x := wX0) hS10) (bring (pre := ((b20, _) :: (b18, _) :: Li1)) (Ls := Ls10) (R := L))) rfl ?_)
  rintro _ _ ⟨rfl, Ls11, hS11, rfl⟩
  have hS11 : SoOwn p (l2s c1 c2) [] 3 2 Ls11 := hS11
  rw [show putS [] i3 wX0 = 4 from rfl]
  refine Ent.perm ?_ (bring (Ls := Ls11) (pre := ((b20, _) :: (b18, _) :: Li1)) (R := L)).symm
  refine Seq.rd0 at5 rfl rfl (O.assign (v := .int .i64 _) rfl) ?_
  refine Seq.nil ?_
  refine hK22 ?_
  refine Cd.seq (fun K23 hK23 => ?_)
  refine Cd.region [0, 1, 2] rfl ?_
  refine Seq.rd0 at0 rfl rfl (O.move (v := .pointer _) rfl) ?_
  refine Seq.op at1 rfl (Op.callF rfl hb_60 (Fn.perm (C_So_Trim (R := ((b20, _) :: (b18, _) :: Li1) ++ L) hS11) (bring (pre := ((b20, _) :: (b18, _) :: Li1)) (Ls := Ls11) (R := L))) rfl ?_)
  rintro _ _ ⟨s0, lt, Ls12, hls, rfl, hS12, htr, rfl⟩
  obtain rfl := hls.none
  rw [(sk7 (xc := xc)).2]
  refine Ent.perm ?_ (bring (Ls := Ls12) (pre := ((b20, _) :: (b18, _) :: Li1)) (R := L)).symm
  refine Seq.rd0 at2 rfl rfl (O.assign (v := .int .i64 _) rfl) ?_
  refine Seq.nil ?_
  refine hK23 ?_
  refine Cd.seq (fun K24 hK24 => ?_)
  refine Cd.region [0, 1, 2, 3, 4, 5, 6] rfl ?_
  refine Seq.rd0 at0 rfl rfl (O.move (v := .pointer _) rfl) ?_
  refine Seq.op at1 rfl (Op.callF rfl hb_53 (Fn.perm (C_So_Begin (R := ((b20, _) :: (b18, _) :: Li1) ++ L) (ti := i4) hS12 rfl (by simp) (by decide)) (bring (pre := ((b20, _) :: (b18, _) :: Li1)) (Ls := Ls12) (R := L))) rfl ?_)
  rintro _ _ ⟨rfl, xz, Ls13, hS13, rfl⟩
  have hS13 : SoOwn p lt (x8 xz) 4 2 Ls13 := hS13
  rw [show (3 : Int) + 1 = 4 from rfl]
  refine Ent.perm ?_ (bring (Ls := Ls13) (pre := ((b20, _) :: (b18, _) :: Li1)) (R := L)).symm
  refine Seq.rd0 at2 rfl rfl (O.move (v := .tuple _) rfl) ?_
  refine Seq.rd0 at3 rfl rfl (O.ext rfl r2_0) ?_
  refine Seq.rd0 at4 rfl rfl (O.ext rfl r2_1) ?_
  refine Seq.rd0 at5 rfl rfl (O.assign (v := .int .i64 _) rfl) ?_
  refine Seq.rd0 at6 rfl rfl (O.assign (v := .int .i64 _) rfl) ?_
  refine Seq.nil ?_
  refine hK24 ?_
  refine Cd.seq (fun K25 hK25 => ?_)
  refine Cd.region [0, 1, 2, 3, 4] rfl ?_
  refine Seq.rd0 at0 rfl rfl (O.move (v := .pointer _) rfl) ?_
  refine Seq.rd0 at1 rfl rfl (O.move (v := .int .i64 _) rfl) ?_
  refine Seq.rd0 at2 rfl rfl (O.build rfl (cs := (Write_enc Write.zero)) (by kernel_rfl)) ?_
  refine Seq.op at3 rfl (Op.callF rfl hb_54 (Fn.perm (C_So_Put (R := ((b20, _) :: (b18, _) :: Li1) ++ L) (ti := i4) (x := .zero) hS13) (bring (pre := ((b20, _) :: (b18, _) :: Li1)) (Ls := Ls13) (R := L))) rfl ?_)
  rintro _ _ ⟨rfl, Ls14, hS14, rfl⟩
  rw [sk8.2.1] at hS14
  rw [sk8.1]
  refine Ent.perm ?_ (bring (Ls := Ls14) (pre := ((b20, _) :: (b18, _) :: Li1)) (R := L)).symm
  refine Seq.rd0 at4 rfl rfl (O.assign (v := .int .i64 _) rfl) ?_
  refine Seq.nil ?_
  refine hK25 ?_
  refine Cd.seq (fun K26 hK26 => ?_)
  refine Cd.region [0, 1, 2, 3, 4, 5, 6, 7, 8, 9, 10] rfl ?_
  refine Seq.rd0 at0 rfl rfl (O.move (v := .pointer _) rfl) ?_
  refine Seq.rd0 at1 rfl rfl (O.move (v := .int .i64 _) rfl) ?_
  refine Seq.rd0 at2 rfl rfl (O.build rfl (cs := (Key_enc Key.zero)) (by kernel_rfl)) ?_
  refine Seq.op at3 rfl (Op.callF rfl hb_58 (Fn.perm (C_So_Get (R := ((b20, _) :: (b18, _) :: Li1) ++ L) (ti := i4) (k := .zero) hS14 sk8.2.2) (bring (pre := ((b20, _) :: (b18, _) :: Li1)) (Ls := Ls14) (R := L))) rfl ?_)
  rintro _ _ ⟨rfl, rfl⟩
  refine Ent.perm ?_ (bring (Ls := Ls14) (pre := ((b20, _) :: (b18, _) :: Li1)) (R := L)).symm
  rw [sk9]
  refine Seq.rd0 at4 rfl rfl (O.move (v := .tuple _) rfl) ?_
  refine Seq.rd0 at5 rfl rfl (O.ext rfl r3_0) ?_
  refine Seq.rd0 at6 rfl rfl (O.ext rfl r3_1) ?_
  refine Seq.rd0 at7 rfl rfl (O.ext rfl r3_2) ?_
  refine Seq.rd0 at8 rfl rfl (O.assign (v := .string _) rfl) ?_
  refine Seq.rd0 at9 rfl rfl (O.assign (v := .bool _) rfl) ?_
  refine Seq.rd0 at10 rfl rfl (O.assign (v := .int .i64 _) rfl) ?_
  refine Seq.nil ?_
  refine hK26 ?_
  refine Cd.seq (fun K27 hK27 => ?_)
  refine Cd.draw 70 rfl po ?_
  refine Any.rd0 0 at0 rfl rfl (O.move (v := .bool _) rfl) (by kernel_rfl) (by kernel_rfl) (by kernel_rfl) ?_
  refine Any.rd0 1 at1 rfl rfl (O.move (v := .bool _) rfl) (by kernel_rfl) (by kernel_rfl) (by kernel_rfl) ?_
  refine Any.rd0 2 at2 rfl rfl (O.move (v := .string _) rfl) (by kernel_rfl) (by kernel_rfl) (by kernel_rfl) ?_
  refine Any.rd0 3 at3 rfl rfl (O.eqS rfl rfl) (by kernel_rfl) (by kernel_rfl) (by kernel_rfl) ?_
  refine Any.rd0 4 at4 rfl rfl (O.pickT (v := .bool _) rfl rfl) (by kernel_rfl) (by kernel_rfl) (by kernel_rfl) ?_
  refine Any.rd0 5 at5 rfl rfl (O.move (v := .bool _) rfl) (by kernel_rfl) (by kernel_rfl) (by kernel_rfl) ?_
  have t28 : (⟨#[49]⟩ : ByteArray) = (⟨#[49]⟩ : ByteArray) := rfl
  rw [decide_eq_true t28]
  refine Any.rd0 6 at6 rfl rfl (O.move (v := .bool _) rfl) (by kernel_rfl) (by kernel_rfl) (by kernel_rfl) ?_
  refine Any.rd0 7 at7 rfl rfl (O.not rfl) (by kernel_rfl) (by kernel_rfl) (by kernel_rfl) ?_
  refine Any.rd0 8 at8 rfl rfl (O.pickT (v := .bool _) rfl rfl) (by kernel_rfl) (by kernel_rfl) (by kernel_rfl) ?_
  refine Any.rd0 9 at9 rfl rfl (O.move (v := .bool _) rfl) (by kernel_rfl) (by kernel_rfl) (by kernel_rfl) ?_
  refine Any.rd0 10 at10 rfl rfl (O.move (v := .slice _ _ _) rfl) (by kernel_rfl) (by kernel_rfl) (by kernel_rfl) ?_
  refine Any.rd0 11 at11 rfl rfl (O.lenS ds_66 rfl) (by kernel_rfl) (by kernel_rfl) (by kernel_rfl) ?_
  refine Any.rd0 12 at12 rfl rfl (O.eqI rfl rfl) (by kernel_rfl) (by kernel_rfl) (by kernel_rfl) ?_
  refine Any.rd0 13 at13 rfl rfl (O.pickT (v := .bool _) rfl rfl) (by kernel_rfl) (by kernel_rfl) (by kernel_rfl) ?_
  refine Any.rd0 14 at14 rfl rfl (O.move (v := .bool _) rfl) (by kernel_rfl) (by kernel_rfl) (by kernel_rfl) ?_
  have t29 : ((1 : Nat) : Int) = 1 := rfl
  rw [decide_eq_true t29]
  refine Any.rd0 15 at15 rfl rfl (O.move (v := .slice _ _ _) rfl) (by kernel_rfl) (by kernel_rfl) (by kernel_rfl) ?_
  have hIt : SlAt c ((b20, .cells (Stamp_enc .zero) 24 (0, 0)) :: (b18, .cells (Stamp_enc (⟨2, 0⟩ : Stamp)) 24 (0, 0)) :: (Li1 ++ ((Ls14 ++ (L))))) Item_enc ai1 1 [iY] := (OwnSl.at_ (c := c) (R := (Ls14 ++ (L))) hoi rfl (by decide)).cons.cons
  have hlt9 : 0 < [iY].length := by decide
  obtain ⟨pre9, sp9, el9, fz9, hav9, hrd9⟩ := hIt.at_ hlt9
  refine Any.rd0 16 at16 rfl rfl (O.indexG sl_66 rfl hav9 rfl (by omega) (by omega)) (by kernel_rfl) (by kernel_rfl) (by kernel_rfl) ?_
  refine Any.rd0 17 at17 rfl rfl (O.field fo_111_0 rfl) (by kernel_rfl) (by kernel_rfl) (by kernel_rfl) ?_
  refine Any.rd1 18 at18 rfl rfl (O.loadA kd_45 rfl (rowRoomFP Item_size (getN hlt9) (by decide)) (rowSubP Item_size (getN hlt9) (by decide) (Item_key _))) hrd9 (by kernel_rfl) (by kernel_rfl) (by kernel_rfl) ?_
  refine Any.one 19 at19 rfl (by kernel_rfl) ⟨trivial, hrd9⟩ ?_
  refine Op.callF rfl hb_57 (C_law23_k (l := [121]) okY) rfl ?_
  rintro _ _ ⟨rfl, rfl⟩
  rw [show padK [121] = kY from rfl]
  refine Any.toK ?_
  refine Any.rd0 20 at20 rfl rfl (eqKey rfl rfl) (by kernel_rfl) (by kernel_rfl) (by kernel_rfl) ?_
  refine Any.rd0 21 at21 rfl rfl (O.pickT (v := .bool _) rfl rfl) (by kernel_rfl) (by kernel_rfl) (by kernel_rfl) ?_
  refine Any.rd0 22 at22 rfl rfl (O.move (v := .bool _) rfl) (by kernel_rfl) (by kernel_rfl) (by kernel_rfl) ?_
  have t30 : [iY][0].key = kY := rfl
  rw [decide_eq_true t30]
  refine Any.rd0 23 at23 rfl rfl (O.move (v := .bool _) rfl) (by kernel_rfl) (by kernel_rfl) (by kernel_rfl) ?_
  refine Any.rd0 24 at24 rfl rfl (O.pickT (v := .bool _) rfl rfl) (by kernel_rfl) (by kernel_rfl) (by kernel_rfl) ?_
  refine Any.rd0 25 at25 rfl rfl (O.move (v := .bool _) rfl) (by kernel_rfl) (by kernel_rfl) (by kernel_rfl) ?_
  refine Any.rd0 26 at26 rfl rfl (O.move (v := .string _) rfl) (by kernel_rfl) (by kernel_rfl) (by kernel_rfl) ?_
  refine Any.rd0 27 at27 rfl rfl (O.eqS rfl rfl) (by kernel_rfl) (by kernel_rfl) (by kernel_rfl) ?_
  refine Any.rd0 28 at28 rfl rfl (O.pickT (v := .bool _) rfl rfl) (by kernel_rfl) (by kernel_rfl) (by kernel_rfl) ?_
  refine Any.rd0 29 at29 rfl rfl (O.move (v := .bool _) rfl) (by kernel_rfl) (by kernel_rfl) (by kernel_rfl) ?_
  have t31 : (⟨#[49]⟩ : ByteArray) = (⟨#[49]⟩ : ByteArray) := rfl
  rw [decide_eq_true t31]
  refine Any.rd0 30 at30 rfl rfl (O.move (v := .int .i64 _) rfl) (by kernel_rfl) (by kernel_rfl) (by kernel_rfl) ?_
  refine Any.rd0 31 at31 rfl rfl (O.eqI rfl rfl) (by kernel_rfl) (by kernel_rfl) (by kernel_rfl) ?_
  refine Any.rd0 32 at32 rfl rfl (O.pickT (v := .bool _) rfl rfl) (by kernel_rfl) (by kernel_rfl) (by kernel_rfl) ?_
  refine Any.rd0 33 at33 rfl rfl (O.move (v := .bool _) rfl) (by kernel_rfl) (by kernel_rfl) (by kernel_rfl) ?_
  have t32 : (0 : Int) = 0 := rfl
  rw [decide_eq_true t32]
  refine Any.rd0 34 at34 rfl rfl (O.move (v := .int .i64 _) rfl) (by kernel_rfl) (by kernel_rfl) (by kernel_rfl) ?_
  refine Any.rd0 35 at35 rfl rfl (O.eqI rfl rfl) (by kernel_rfl) (by kernel_rfl) (by kernel_rfl) ?_
  refine Any.rd0 36 at36 rfl rfl (O.pickT (v := .bool _) rfl rfl) (by kernel_rfl) (by kernel_rfl) (by kernel_rfl) ?_
  refine Any.rd0 37 at37 rfl rfl (O.move (v := .bool _) rfl) (by kernel_rfl) (by kernel_rfl) (by kernel_rfl) ?_
  have t33 : (4 : Int) = 4 := rfl
  rw [decide_eq_true t33]
  refine Any.rd0 38 at38 rfl rfl (O.move (v := .int .i64 _) rfl) (by kernel_rfl) (by kernel_rfl) (by kernel_rfl) ?_
  refine Any.rd0 39 at39 rfl rfl (O.eqI rfl rfl) (by kernel_rfl) (by kernel_rfl) (by kernel_rfl) ?_
  refine Any.rd0 40 at40 rfl rfl (O.pickT (v := .bool _) rfl rfl) (by kernel_rfl) (by kernel_rfl) (by kernel_rfl) ?_
  refine Any.rd0 41 at41 rfl rfl (O.move (v := .bool _) rfl) (by kernel_rfl) (by kernel_rfl) (by kernel_rfl) ?_
  have t34 : (4 : Int) = 4 := rfl
  rw [decide_eq_true t34]
  refine Any.rd0 42 at42 rfl rfl (O.move (v := .int .i64 _) rfl) (by kernel_rfl) (by kernel_rfl) (by kernel_rfl) ?_
  refine Any.rd0 43 at43 rfl rfl (O.eqI rfl rfl) (by kernel_rfl) (by kernel_rfl) (by kernel_rfl) ?_
  refine Any.rd0 44 at44 rfl rfl (O.pickT (v := .bool _) rfl rfl) (by kernel_rfl) (by kernel_rfl) (by kernel_rfl) ?_
  refine Any.rd0 45 at45 rfl rfl (O.move (v := .bool _) rfl) (by kernel_rfl) (by kernel_rfl) (by kernel_rfl) ?_
  have t35 : (4 : Int) = 4 := rfl
  rw [decide_eq_true t35]
  refine Any.rd0 46 at46 rfl rfl (O.move (v := .int .i64 _) rfl) (by kernel_rfl) (by kernel_rfl) (by kernel_rfl) ?_
  refine Any.rd0 47 at47 rfl rfl (O.eqI rfl rfl) (by kernel_rfl) (by kernel_rfl) (by kernel_rfl) ?_
  refine Any.rd0 48 at48 rfl rfl (O.pickT (v := .bool _) rfl rfl) (by kernel_rfl) (by kernel_rfl) (by kernel_rfl) ?_
  refine Any.rd0 49 at49 rfl rfl (O.move (v := .bool _) rfl) (by kernel_rfl) (by kernel_rfl) (by kernel_rfl) ?_
  have t36 : (2 : Int) = 2 := rfl
  rw [decide_eq_true t36]
  refine Any.rd0 50 at50 rfl rfl (O.move (v := .int .i64 _) rfl) (by kernel_rfl) (by kernel_rfl) (by kernel_rfl) ?_
  refine Any.rd0 51 at51 rfl rfl (O.eqI rfl rfl) (by kernel_rfl) (by kernel_rfl) (by kernel_rfl) ?_
  refine Any.rd0 52 at52 rfl rfl (O.pickT (v := .bool _) rfl rfl) (by kernel_rfl) (by kernel_rfl) (by kernel_rfl) ?_
  refine Any.rd0 53 at53 rfl rfl (O.move (v := .bool _) rfl) (by kernel_rfl) (by kernel_rfl) (by kernel_rfl) ?_
  have t37 : (1 : Int) = 1 := rfl
  rw [decide_eq_true t37]
  refine Any.rd0 54 at54 rfl rfl (O.move (v := .int .i64 _) rfl) (by kernel_rfl) (by kernel_rfl) (by kernel_rfl) ?_
  refine Any.rd0 55 at55 rfl rfl (O.eqI rfl rfl) (by kernel_rfl) (by kernel_rfl) (by kernel_rfl) ?_
  refine Any.rd0 56 at56 rfl rfl (O.pickT (v := .bool _) rfl rfl) (by kernel_rfl) (by kernel_rfl) (by kernel_rfl) ?_
  refine Any.rd0 57 at57 rfl rfl (O.move (v := .bool _) rfl) (by kernel_rfl) (by kernel_rfl) (by kernel_rfl) ?_
  have t38 : (1 : Int) = 1 := rfl
  rw [decide_eq_true t38]
  refine Any.rd0 58 at58 rfl rfl (O.move (v := .pointer _) rfl) (by kernel_rfl) (by kernel_rfl) (by kernel_rfl) ?_
  refine Any.rd0 60 at60 rfl rfl (O.move (v := .int .i64 _) rfl) (by kernel_rfl) (by kernel_rfl) (by kernel_rfl) ?_
  refine Any.two 59 61 at59 at61 rfl rfl (by kernel_rfl) ⟨trivial, hrd9⟩ ?_ ?_
  · skip
    refine Op.callF rfl hb_62 (Fn.perm (C_So_Open (R := ((b20, _) :: (b18, _) :: Li1) ++ L) hS14) (bring (pre := ((b20, _) :: (b18, _) :: Li1)) (Ls := Ls14) (R := L))) rfl ?_
    rintro _ _ ⟨ys, Lo, hpy, hoy, hoo, rfl⟩
    obtain rfl : ys = [4] := List.perm_singleton.1 hpy
    obtain ⟨av9, cap9, rfl⟩ := OwnSl.form hoo
    refine Ent.perm ?_ ((bring (Ls := Ls14) (pre := ((b20, _) :: (b18, _) :: Li1)) (R := L)).symm.append_left Lo)
    refine Any.toK ?_
    refine Any.one 61 at61 rfl (by kernel_rfl) ⟨trivial, hrd9.app⟩ ?_
    refine Op.new rfl (O.buildSlice (el := 2) rfl (cs := (intRow [4])) (by kernel_rfl)) ?_
    intro b39 hb39
    refine Any.toK ?_
    refine Any.one 62 at62 rfl (by kernel_rfl) ⟨trivial, hrd9.app.cons⟩ ?_
    refine Op.callF rfl hb_61 (C_same64_23 (us := [4]) (vs := [4]) ((OwnSl.at_ (R := (b20, .cells (Stamp_enc .zero) 24 (0, 0)) :: (b18, .cells (Stamp_enc (⟨2, 0⟩ : Stamp)) 24 (0, 0)) :: (Li1 ++ ((Ls14 ++ (L))))) hoo rfl (by decide)).cons) (SlAt.one (enc := intE) Rd.head)) rfl ?_
    rintro _ _ ⟨rfl, rfl⟩
    rw [decide_eq_true rfl]
    refine Any.toK ?_
    refine Any.rd0 63 at63 rfl rfl (O.pickT (v := .bool _) rfl rfl) (by kernel_rfl) (by kernel_rfl) (by kernel_rfl) ?_
    refine Any.rd0 64 at64 rfl rfl (O.move (v := .bool _) rfl) (by kernel_rfl) (by kernel_rfl) (by kernel_rfl) ?_
    refine Any.rd0 65 at65 rfl rfl (O.move (v := .pointer _) rfl) (by kernel_rfl) (by kernel_rfl) (by kernel_rfl) ?_
    refine Any.one 66 at66 rfl (by kernel_rfl) ⟨trivial, hrd9.app.cons⟩ ?_
    refine Op.callF rfl hb_63 (Fn.perm (C_So_Last (R := ((b39, .cells (intRow [4]) 2 (0, 0)) :: (Lo ++ ((b20, .cells (Stamp_enc .zero) 24 (0, 0)) :: ((b18, .cells (Stamp_enc (⟨2, 0⟩ : Stamp)) 24 (0, 0)) :: (Li1 ++ []))))) ++ L) hS14) (by have h9 := bring (Ls := Ls14) (pre := ((b39, .cells (intRow [4]) 2 (0, 0)) :: (Lo ++ ((b20, .cells (Stamp_enc .zero) 24 (0, 0)) :: ((b18, .cells (Stamp_enc (⟨2, 0⟩ : Stamp)) 24 (0, 0)) :: (Li1 ++ [])))))) (R := L); simpa using h9)) rfl ?_
    rintro _ _ ⟨rfl, rfl⟩
    refine Ent.perm (L' := (b39, .cells (intRow [4]) 2 (0, 0)) :: (Lo ++ ((b20, .cells (Stamp_enc .zero) 24 (0, 0)) :: (b18, .cells (Stamp_enc (⟨2, 0⟩ : Stamp)) 24 (0, 0)) :: (Li1 ++ ((Ls14 ++ (L))))))) ?_ (by have h9 := bring (Ls := Ls14) (pre := ((b39, .cells (intRow [4]) 2 (0, 0)) :: (Lo ++ ((b20, .cells (Stamp_enc .zero) 24 (0, 0)) :: ((b18, .cells (Stamp_enc (⟨2, 0⟩ : Stamp)) 24 (0, 0)) :: (Li1 ++ [])))))) (R := L).symm; simpa using h9)
    refine Any.toK ?_
    refine Any.rd0 67 at67 rfl rfl (O.eqI rfl rfl) (by kernel_rfl) (by kernel_rfl) (by kernel_rfl) ?_
    refine Any.rd0 68 at68 rfl rfl (O.pickT (v := .bool _) rfl rfl) (by kernel_rfl) (by kernel_rfl) (by kernel_rfl) ?_
    refine Any.rd0 69 at69 rfl rfl (O.assign (v := .bool _) rfl) (by kernel_rfl) (by kernel_rfl) (by kernel_rfl) ?_
    refine Any.done (by kernel_rfl) ⟨trivial, hrd9.app.cons⟩ ?_
    refine hK27 ?_
    refine Cd.ret ?_
    exact hR _ _ (Res.one (v := .bool _) rfl rfl) ⟨rfl, rfl⟩ (.cons _ (sub_app (G := Lo) (.cons _ (.cons _ (sub_app (G := Li1) (sub_app (G := Ls14) (.refl _)))))))
  · skip
    refine Op.new rfl (O.buildSlice (el := 2) rfl (cs := (intRow [4])) (by kernel_rfl)) ?_
    intro b40 hb40
    refine Any.toK ?_
    refine Any.one 59 at59 rfl (by kernel_rfl) ⟨trivial, hrd9.cons⟩ ?_
    refine Op.callF rfl hb_62 (Fn.perm (C_So_Open (R := ((b40, _) :: (b20, _) :: (b18, _) :: Li1) ++ L) hS14) (bring (pre := ((b40, _) :: (b20, _) :: (b18, _) :: Li1)) (Ls := Ls14) (R := L))) rfl ?_
    rintro _ _ ⟨ys, Lo, hpy, hoy, hoo, rfl⟩
    obtain rfl : ys = [4] := List.perm_singleton.1 hpy
    obtain ⟨av9, cap9, rfl⟩ := OwnSl.form hoo
    refine Ent.perm ?_ ((bring (Ls := Ls14) (pre := ((b40, _) :: (b20, _) :: (b18, _) :: Li1)) (R := L)).symm.append_left Lo)
    refine Any.toK ?_
    refine Any.one 62 at62 rfl (by kernel_rfl) ⟨trivial, hrd9.cons.app⟩ ?_
    refine Op.callF rfl hb_61 (C_same64_23 (us := [4]) (vs := [4]) ((OwnSl.at_ (R := (b40, .cells (intRow [4]) 2 (0, 0)) :: (b20, .cells (Stamp_enc .zero) 24 (0, 0)) :: (b18, .cells (Stamp_enc (⟨2, 0⟩ : Stamp)) 24 (0, 0)) :: (Li1 ++ ((Ls14 ++ (L))))) hoo rfl (by decide))) (SlAt.one (enc := intE) Rd.head.app)) rfl ?_
    rintro _ _ ⟨rfl, rfl⟩
    rw [decide_eq_true rfl]
    refine Any.toK ?_
    refine Any.rd0 63 at63 rfl rfl (O.pickT (v := .bool _) rfl rfl) (by kernel_rfl) (by kernel_rfl) (by kernel_rfl) ?_
    refine Any.rd0 64 at64 rfl rfl (O.move (v := .bool _) rfl) (by kernel_rfl) (by kernel_rfl) (by kernel_rfl) ?_
    refine Any.rd0 65 at65 rfl rfl (O.move (v := .pointer _) rfl) (by kernel_rfl) (by kernel_rfl) (by kernel_rfl) ?_
    refine Any.one 66 at66 rfl (by kernel_rfl) ⟨trivial, hrd9.cons.app⟩ ?_
    refine Op.callF rfl hb_63 (Fn.perm (C_So_Last (R := (Lo ++ ((b40, .cells (intRow [4]) 2 (0, 0)) :: ((b20, .cells (Stamp_enc .zero) 24 (0, 0)) :: ((b18, .cells (Stamp_enc (⟨2, 0⟩ : Stamp)) 24 (0, 0)) :: (Li1 ++ []))))) ++ L) hS14) (by have h9 := bring (Ls := Ls14) (pre := (Lo ++ ((b40, .cells (intRow [4]) 2 (0, 0)) :: ((b20, .cells (Stamp_enc .zero) 24 (0, 0)) :: ((b18, .cells (Stamp_enc (⟨2, 0⟩ : Stamp)) 24 (0, 0)) :: (Li1 ++ [])))))) (R := L); simpa using h9)) rfl ?_
    rintro _ _ ⟨rfl, rfl⟩
    refine Ent.perm (L' := (Lo ++ ((b40, .cells (intRow [4]) 2 (0, 0)) :: (b20, .cells (Stamp_enc .zero) 24 (0, 0)) :: (b18, .cells (Stamp_enc (⟨2, 0⟩ : Stamp)) 24 (0, 0)) :: (Li1 ++ ((Ls14 ++ (L))))))) ?_ (by have h9 := bring (Ls := Ls14) (pre := (Lo ++ ((b40, .cells (intRow [4]) 2 (0, 0)) :: ((b20, .cells (Stamp_enc .zero) 24 (0, 0)) :: ((b18, .cells (Stamp_enc (⟨2, 0⟩ : Stamp)) 24 (0, 0)) :: (Li1 ++ [])))))) (R := L).symm; simpa using h9)
    refine Any.toK ?_
    refine Any.rd0 67 at67 rfl rfl (O.eqI rfl rfl) (by kernel_rfl) (by kernel_rfl) (by kernel_rfl) ?_
    refine Any.rd0 68 at68 rfl rfl (O.pickT (v := .bool _) rfl rfl) (by kernel_rfl) (by kernel_rfl) (by kernel_rfl) ?_
    refine Any.rd0 69 at69 rfl rfl (O.assign (v := .bool _) rfl) (by kernel_rfl) (by kernel_rfl) (by kernel_rfl) ?_
    refine Any.done (by kernel_rfl) ⟨trivial, hrd9.cons.app⟩ ?_
    refine hK27 ?_
    refine Cd.ret ?_
    exact hR _ _ (Res.one (v := .bool _) rfl rfl) ⟨rfl, rfl⟩ (sub_app (G := Lo) (.cons _ (.cons _ (.cons _ (sub_app (G := Li1) (sub_app (G := Ls14) (.refl _)))))))

end Go.X
