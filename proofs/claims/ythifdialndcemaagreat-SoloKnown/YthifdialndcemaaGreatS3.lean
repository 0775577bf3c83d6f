/- Part 3 of the proofs over this program: what its functions compute. -/
import Derived.Test.YthifdialndcemaaGreatProg
import Derived.Laws.BytesString
import Derived.Lib.Overlaps
import Derived.Sort.Statements
import Derived.Shelf.SlSortCmp.Insertion
import Derived.Shelf.GgSortFunc.InsertionK
import Derived.Shelf.SlSortCmp.WholeK
import Derived.Shelf.SlLaysF0
import Derived.Shelf.SlGeneric
import Derived.Ground.SlsfProg
import Derived.Shelf.SlSortCmp.NoneTotal
import Derived.Test.YthifdialndcemaaGreatS2
set_option linter.unusedVariables false
set_option linter.unusedSimpArgs false

namespace Go.X
open Go.Proofs
theorem kd_243 : kindOf Tryz.prog 243 = some (false, 1) := by kernel_rfl
theorem mp_243 : Tryz.prog.underlying 243 = some (.map 45 251) := by kernel_rfl
theorem perm_step {K V : Type} {pre ks : List K} {rest rest' : List (K × V)} {a : K} {u : V} (hp : (pre ++ rest.map Prod.fst).Perm ks) (hpm : rest.Perm ((a, u) :: rest')) :
    ((pre ++ [a]) ++ rest'.map Prod.fst).Perm ks := by
  refine List.Perm.trans ?_ hp
  rw [List.append_assoc]
  exact List.Perm.append_left pre (hpm.map Prod.fst).symm
theorem step_lt {K V : Type} {lst : List (K × V)} {pre : List K} {rest rest' : List (K × V)} {a : K} {u : V} (hp : (pre ++ rest.map Prod.fst).Perm (lst.map Prod.fst)) (hpm : rest.Perm ((a, u) :: rest')) : pre.length < lst.length := by
  have h1 := hp.length_eq
  have h2 := hpm.length_eq
  simp only [List.length_append, List.length_map, List.length_cons] at h1 h2
  omega
theorem step_dec {K V : Type} {rest rest' : List (K × V)} {a : K} {u : V} (hpm : rest.Perm ((a, u) :: rest')) : rest'.length < rest.length := by
  have h2 := hpm.length_eq
  simp only [List.length_cons] at h2
  omega

set_option maxRecDepth 100000 in
set_option maxHeartbeats 2000000 in
theorem C_keysChain_fn {c : Cx} {L : List Pt} {V : Type} {encV : V → Value} {Rt Lo : List Pt} {bb bm l ck : Nat} {es : Array MapEntry} {lst : List (Key × V)} {I : List Key → List Pt → Prop} (hm : MapIs (fun x : Key => (.agg (Key_enc x))) encV es ck lst) (hb : Rd c Rt bb (.cells #[.map (some bm)] 243 (0, 0))) (hr : Rd c Rt bm (.map es ck)) (hY : ∀ pre x Lo R', pre.length < lst.length → I pre Lo → YStep Tryz.prog c l ((fun x : Key => (.agg (Key_enc x))) x) (Lo ++ R') (fun L' => ∃ Lo', I (pre ++ [x]) Lo' ∧ L' = Lo' ++ R')) (h0 : I [] Lo) : Fn Tryz.prog 239 #[.func (.yield l) #[] #[], .pointer (some ⟨bb, 0, none⟩)] c (Lo ++ Rt) (fun v L' => ∃ xs Lo', xs.Perm (lst.map Prod.fst) ∧ I xs Lo' ∧ L' = Lo' ++ Rt) := by
  refine Fn.enter Tryz.func239 rfl 14 rfl rfl (fun R hR => ?_)
  refine Cd.seq (fun K1 hK1 => ?_)
  refine Cd.region [0, 1] rfl ?_
  refine Seq.rd1 at0 rfl rfl (O.load kd_243 rfl r1_0) (hb.sub (List.sublist_append_right _ _)) ?_
  refine Seq.op at1 rfl (Op.gen rfl (O.range mp_243 hm rfl (hr.sub (List.sublist_append_right _ _))) ?_)
  rintro _ _ ⟨r, it, hr0, rfl, hi, rfl⟩
  refine Seq.nil ?_
  refine hK1 ?_
  refine Cd.block ?_
  refine Cd.loop (fun m2 e3 L4 => ∃ pre : List Key, ∃ rest : List (Key × V), ∃ Lo1 : List Pt, ∃ it : Obj, m2 = rest.length ∧ e3 0 = .func (.yield l) #[] #[] ∧ e3 5 = .pointer (some ⟨r, 0, none⟩) ∧ L4 = (r, it) :: (Lo1 ++ Rt) ∧ I pre Lo1 ∧ ItIs (fun x : Key => (.agg (Key_enc x))) encV es ck bm rest it ∧ (pre ++ rest.map Prod.fst).Perm (lst.map Prod.fst)) _ ⟨[], lst, Lo, it, rfl, rfl, rfl, rfl, h0, hi, .refl _⟩ ?_
  rintro _ e3 _ ⟨pre, rest, Lo1, it, rfl, s5, s6, rfl, hI, hi, hp⟩ K7 hK7
  refine Cd.seq (fun K8 hK8 => ?_)
  refine Cd.region [0, 1] rfl ?_
  refine Seq.op at0 rfl (Op.gen rfl (O.next hm hi (by exact s6) (Rd.cons (hr.sub (List.sublist_append_right _ _)))) ?_)
  rintro _ _ (⟨rfl, rfl, rfl⟩ | ⟨a, u, rest', it', hpm, rfl, hi', hent, rfl⟩)
  · skip
    refine Seq.rd0 at1 rfl rfl (O.ext rfl r1_0) ?_
    refine Seq.nil ?_
    refine hK8 ?_
    refine Cd.seq (fun K9 hK9 => ?_)
    refine Cd.condF rfl ?_
    refine Cd.exit ?_
    exact hR _ _ (Res.zero rfl) ⟨pre, Lo1, by simpa using hp, hI, rfl⟩ (.cons _ (.refl _))
  · skip
    refine Seq.rd0 at1 rfl rfl (O.ext rfl r3_0) ?_
    refine Seq.nil ?_
    refine hK8 ?_
    refine Cd.seq (fun K10 hK10 => ?_)
    refine Cd.condT rfl ?_
    refine Cd.skip ?_
    refine hK10 ?_
    refine Cd.block ?_
    refine Cd.seq (fun K11 hK11 => ?_)
    refine Cd.region [0, 1, 2, 3] rfl ?_
    refine Seq.op at0 rfl (Op.gen rfl (hent _ _ (by exact s6) Rd.head (Rd.cons (hr.sub (List.sublist_append_right _ _)))) ?_)
    rintro _ _ ⟨rfl, rfl⟩
    refine Seq.rd0 at1 rfl rfl (O.ext rfl r2_0) ?_
    refine Seq.op at2 rfl (Op.new rfl (O.alloc zo_45 (cs := (Key_enc Key.zero)) rfl) ?_)
    intro b12 hb12
    refine Seq.op at3 rfl (Op.set0 rfl (O.store kd_45 rfl (v := .agg _) rfl (Key_size _) (Key_room (Key_size _)) (Key_one _) (Key_put _ (Key_size _))) ?_)
    refine Seq.nil ?_
    refine hK11 ?_
    refine Cd.seq (fun K13 hK13 => ?_)
    refine Cd.region [0, 1, 2, 3] rfl ?_
    refine Seq.rd0 at0 rfl rfl (O.move (v := (.func (.yield l) #[] #[])) (by exact s5)) ?_
    refine Seq.rd1 at1 rfl rfl (O.loadA kd_45 rfl (Nat.le_of_ble_eq_true rfl) (Key_all _)) Rd.head ?_
    refine Seq.opY at2 rfl (Ent.perm (Op.yield rfl rfl rfl (hY pre a Lo1 _ (step_lt hp hpm) hI) ?_) (bring (Ls := Lo1) (pre := [(b12, _), (r, _)]) (R := Rt)))
    rintro _ ⟨Lo2, hI2, rfl⟩
    refine Ent.perm ?_ (bring (Ls := Lo2) (pre := [(b12, _), (r, _)]) (R := Rt)).symm
    refine Ent.drop ?_
    refine Seq.rd0 at3 rfl rfl (O.not rfl) ?_
    refine Seq.nil ?_
    refine hK13 ?_
    refine Cd.condF rfl ?_
    refine Cd.skip ?_
    exact hK7 _ (step_dec hpm) ⟨pre ++ [a], rest', Lo2, it', rfl, (by exact s5), (by exact s6), rfl, hI2, hi', perm_step hp hpm⟩

theorem C_keysChain {c : Cx} {V : Type} {encV : V → Value} {Rt : List Pt} {bb bm ck : Nat} {es : Array MapEntry} {lst : List (Key × V)} (hm : MapIs (fun x : Key => (.agg (Key_enc x))) encV es ck lst) (hb : Rd c Rt bb (.cells #[.map (some bm)] 243 (0, 0))) (hr : Rd c Rt bm (.map es ck)) :
    IterOk Tryz.prog c (fun x : Key => (.agg (Key_enc x))) 239 [.pointer (some ⟨bb, 0, none⟩)] lst.length (fun xs => xs.Perm (lst.map Prod.fst)) Rt := fun _ _ _ hY h0 => C_keysChain_fn (L := Rt) hm hb hr hY h0

end Go.X

/- The engine, part 10: what may be a key: keys of sixteen bytes, numbers. -/
namespace Go.X
section
variable {P : Program}
theorem mapM_some {α β : Type} {f : α → Option β} {g : α → β} : ∀ {l : List α}, (∀ a ∈ l, f a = some (g a)) → l.mapM f = some (l.map g)
  | [], _ => rfl
  | a :: l, h => by
    rw [List.mapM_cons, h a (by simp), mapM_some (l := l) (fun b hb => h b (by simp [hb]))]
    rfl
theorem drop_one {α : Type} {l : List α} {i : Nat} (h : i < l.length) : (l.drop i).take 1 = [l[i]] := by
  rw [List.drop_eq_getElem_cons h]; rfl
theorem u8_wf (x : UInt8) : (Lit.int .u8 (x.toNat : Int)).wf = true := by
  have := x.toNat_lt
  simp only [Lit.wf, IntKind.min, IntKind.max, IntKind.bits, IntKind.signed, Bool.and_eq_true, decide_eq_true_eq, Bool.false_eq_true, if_false]
  omega
theorem keyOf_Key {k el : TypeId} (hrow : 0 < P.types.size) (hu : P.underlying k = some (.array 16 el)) (hue : P.underlying el = some (.int .u8)) (hc : P.cellsOf k = 16) (hce : P.cellsOf el = 1) (hkT : P.keyType k = true) (x : Key) :
    ∃ l, keyOf P k (.agg (Key_enc x)) = some l := by
  obtain ⟨s, hs⟩ : ∃ s, P.types.size = s + 1 := ⟨P.types.size - 1, by omega⟩
  have hlen : (Key_enc x).toList.length = 16 := rfl
  have hlits : P.keyLits (P.types.size + 1) k (Key_enc x).toList = some (((List.range 16).map fun i => [Lit.int .u8 ((x.l.getD i 0).toNat : Int)]).flatten) := by
    rw [hs]
    unfold Program.keyLits
    simp only [hu, hc, hce, hlen, if_true]
    rw [mapM_some (g := fun i => [Lit.int .u8 ((x.l.getD i 0).toNat : Int)])]
    · rfl
    · intro i hi
      have hi16 : i < 16 := by simpa using hi
      rw [Nat.mul_one, drop_one (by rw [hlen]; exact hi16)]
      have hg : (Key_enc x).toList[i]'(by rw [hlen]; exact hi16) = byteV (x.l.getD i 0) := by
        have h1 : (Key_enc x).toList = x.l.map byteV := by rw [Key_cells]
        have h2 : i < x.l.length := by rw [x.h]; exact hi16
        simp only [h1, List.getElem_map]
        simp [h2]
      rw [hg]
      unfold Program.keyLits
      simp only [hue, byteV]
      rw [if_pos ⟨trivial, u8_wf _⟩]
  refine ⟨.string (keyBytes ((List.range 16).map fun i => [Lit.int .u8 ((x.l.getD i 0).toNat : Int)]).flatten), ?_⟩
  · unfold keyOf
    simp only [hu, hkT, Value.formed, hc, Key_size, beq_self_eq_true, Bool.and_self, if_true]
    rw [show (Value.agg (Key_enc x)).cells = Key_enc x from rfl, hlits]
    rfl
theorem isKey_Key {k el : TypeId} {m : Nat} (hl : laidOutB P = true) (hm : m + 1 ≤ 10000) (hrow : k < P.types.size) (hu : P.underlying k = some (.array 16 el)) (hue : P.underlying el = some (.int .u8)) (hc : P.cellsOf k = 16) (hce : P.cellsOf el = 1)
    (hkt : P.keyTypeAt m k = true) (hkT : P.keyType k = true) : IsKey P k (fun x : Key => .agg (Key_enc x)) :=
  ⟨Maps.Keyed.of_law (deep_law_laid hl (m := m) hm hrow hkt (by rw [hu])), fun x => keyOf_Key (Nat.lt_of_le_of_lt (Nat.zero_le _) hrow) hu hue hc hce hkT x, fun a b h => Key_inj (by simpa using h)⟩

/-- a number of 64 bits -/
abbrev I64 := { x : Int // (Lit.int .i64 x).wf = true }
def i64V (x : I64) : Value := .int .i64 x.1
theorem isKey_I64 {k : TypeId} (hu : P.underlying k = some (.int .i64)) : IsKey P k i64V := by
  refine ⟨Maps.int_keyed hu, fun x => ⟨_, Maps.keyOf_int_mk hu x.2⟩, fun a b h => ?_⟩
  simp only [i64V, Value.int.injEq, true_and] at h
  exact Subtype.ext h
end
end Go.X

namespace Go.X
open Go.Proofs

theorem laid_all : laidOutB Tryz.prog = true := by kernel_rfl
def keyV (k : Key) : Value := .agg (Key_enc k)
theorem kk_key : IsKey Tryz.prog 45 keyV := isKey_Key (el := 5) (m := 2) laid_all (by omega) (of_decide_eq_true (by kernel_rfl)) (by kernel_rfl) (by kernel_rfl) (by kernel_rfl) (by kernel_rfl) (by kernel_rfl) (by kernel_rfl)

end Go.X

namespace Go.X
open Go.Proofs
theorem ds_251 : isDesc Tryz.prog 251 = 4 := by kernel_rfl
theorem fo_245_0 : fieldOff Tryz.prog 245 0 = some 0 := by kernel_rfl
theorem hb_218 : hasBody Tryz.prog 218 = true := by kernel_rfl
theorem zo_251 : zeroOf Tryz.prog 251 = some (.pointer none) := by kernel_rfl
/-- a chain: its block, its versions -/
abbrev CV := Nat × List Version
def cvV (x : CV) : Value := .pointer (some ⟨x.1, 0, none⟩)
/-- a store that can be read -/
structure StAt (c : Cx) (L : List Pt) (sb : Nat) (l : List (Key × CV)) : Prop where
  ex : ∃ mb es ck, Rd c L sb (.cells #[.map (some mb)] 245 (0, 0)) ∧ Rd c L mb (.map es ck) ∧ MapIs keyV cvV es ck l
  ch : ∀ k q, alook l k = some q → ChAt c L q.1 q.2 ∧ Sorted q.2 ∧ q.2.length ≤ 1000000000
  size : l.length ≤ 1000000000
theorem StAt.sub {c : Cx} {L L' : List Pt} {sb : Nat} {l : List (Key × CV)} (h : StAt c L sb l) (hs : L.Sublist L') : StAt c L' sb l := by
  obtain ⟨⟨mb, es, ck, h1, h2, h3⟩, h4, h5⟩ := h
  exact ⟨⟨mb, es, ck, h1.sub hs, h2.sub hs, h3⟩, fun k q hq => ⟨(h4 k q hq).1.sub hs, (h4 k q hq).2⟩, h5⟩
theorem StAt.cons {c : Cx} {L : List Pt} {sb : Nat} {l : List (Key × CV)} {p : Pt} (h : StAt c L sb l) : StAt c (p :: L) sb l := h.sub (List.sublist_cons_self _ _)
def getS (l : List (Key × CV)) (k : Key) : List Version := match alook l k with
  | some q => q.2
  | none => []
theorem StAt.len {c : Cx} {L : List Pt} {sb : Nat} {l : List (Key × CV)} (h : StAt c L sb l) (k : Key) : (getS l k).length ≤ 1000000000 := by
  unfold getS
  split
  · exact (h.ch _ _ ‹_›).2.2
  · simp

set_option maxRecDepth 100000 in
set_option maxHeartbeats 2000000 in
theorem C_of_some {c : Cx} {L : List Pt} {sb : Nat} {l : List (Key × CV)} {k : Key} (hS : StAt c L sb l) {q : CV} (hl : alook l k = some q) : Fn Tryz.prog 170 #[.pointer (some ⟨sb, 0, none⟩), .agg (Key_enc k)] c L (fun v L' => v = .pointer (some ⟨q.1, 0, none⟩) ∧ L' = L) := by
  have hSz := hS.size
  obtain ⟨⟨mb, es, ck, hsb, hmb, hm⟩, hch, _⟩ := id hS
  refine Fn.enter Tryz.func170 rfl 16 rfl rfl (fun R hR => ?_)
  refine Cd.seq (fun K1 hK1 => ?_)
  refine Cd.region [0, 1] rfl ?_
  refine Seq.op at0 rfl (Op.new rfl (O.box (v := .agg _) rfl (cs := (Key_enc k)) rfl) ?_)
  intro b2 hb2
  refine Seq.rd0 at1 rfl rfl (O.assign (v := .pointer _) rfl) ?_
  refine Seq.nil ?_
  refine hK1 ?_
  refine Cd.seq (fun K3 hK3 => ?_)
  refine Cd.draw 7 rfl po ?_
  refine Any.rd0 0 at0 rfl rfl (O.move (v := .pointer _) rfl) (by kernel_rfl) (by kernel_rfl) (by kernel_rfl) ?_
  refine Any.rd0 1 at1 rfl rfl (O.nilP rfl) (by kernel_rfl) (by kernel_rfl) (by kernel_rfl) ?_
  refine Any.rd0 2 at2 rfl rfl (O.field fo_245_0 rfl) (by kernel_rfl) (by kernel_rfl) (by kernel_rfl) ?_
  refine Any.rd1 3 at3 rfl rfl (O.load kd_243 rfl r1_0) hsb.cons (by kernel_rfl) (by kernel_rfl) (by kernel_rfl) ?_
  refine Any.rd1 4 at4 rfl rfl (O.loadA kd_45 rfl (Nat.le_of_ble_eq_true rfl) (Key_all _)) Rd.head (by kernel_rfl) (by kernel_rfl) (by kernel_rfl) ?_
  refine Any.rd1 5 at5 rfl rfl (O.lookS (ok := false) mp_243 kk_key hm rfl (by exact rfl) hl) hmb.cons (by kernel_rfl) (by kernel_rfl) (by kernel_rfl) ?_
  refine Any.rd0 6 at6 rfl rfl (O.assign (v := .pointer _) rfl) (by kernel_rfl) (by kernel_rfl) (by kernel_rfl) ?_
  refine Any.done (by kernel_rfl) ⟨⟨⟨trivial, hsb.cons⟩, Rd.head⟩, hmb.cons⟩ ?_
  refine hK3 ?_
  refine Cd.seq (fun K4 hK4 => ?_)
  refine Cd.seq (fun K5 hK5 => ?_)
  refine Cd.region [0, 1] rfl ?_
  refine Seq.rd0 at0 rfl rfl (O.move (v := .pointer _) rfl) ?_
  refine Seq.rd0 at1 rfl rfl (O.eqNil ds_251 rfl rfl) ?_
  refine Seq.nil ?_
  refine hK5 ?_
  refine Cd.condF rfl ?_
  refine Cd.skip ?_
  refine hK4 ?_
  refine Cd.seq (fun K6 hK6 => ?_)
  refine Cd.region [0, 1] rfl ?_
  refine Seq.rd0 at0 rfl rfl (O.move (v := .pointer _) rfl) ?_
  refine Seq.rd0 at1 rfl rfl (O.assign (v := .pointer _) rfl) ?_
  refine Seq.nil ?_
  refine hK6 ?_
  refine Cd.ret ?_
  exact hR _ _ (Res.one (v := .pointer _) rfl rfl) ⟨rfl, rfl⟩ (.cons _ (.refl _))

set_option maxRecDepth 100000 in
set_option maxHeartbeats 2000000 in
theorem C_of_none {c : Cx} {L : List Pt} {sb : Nat} {l : List (Key × CV)} {k : Key} (hS : StAt c L sb l) (hl : alook l k = none) : Fn Tryz.prog 170 #[.pointer (some ⟨sb, 0, none⟩), .agg (Key_enc k)] c L (fun v L' => ∃ b, c.w0.heap.size ≤ b ∧ v = .pointer (some ⟨b, 0, none⟩) ∧ L' = (b, .cells #[.slice none 0 0] 300 (0, 0)) :: L) := by
  have hSz := hS.size
  obtain ⟨⟨mb, es, ck, hsb, hmb, hm⟩, hch, _⟩ := id hS
  refine Fn.enter Tryz.func170 rfl 16 rfl rfl (fun R hR => ?_)
  refine Cd.seq (fun K1 hK1 => ?_)
  refine Cd.region [0, 1] rfl ?_
  refine Seq.op at0 rfl (Op.new rfl (O.box (v := .agg _) rfl (cs := (Key_enc k)) rfl) ?_)
  intro b2 hb2
  refine Seq.rd0 at1 rfl rfl (O.assign (v := .pointer _) rfl) ?_
  refine Seq.nil ?_
  refine hK1 ?_
  refine Cd.seq (fun K3 hK3 => ?_)
  refine Cd.draw 7 rfl po ?_
  refine Any.rd0 0 at0 rfl rfl (O.move (v := .pointer _) rfl) (by kernel_rfl) (by kernel_rfl) (by kernel_rfl) ?_
  refine Any.rd0 1 at1 rfl rfl (O.nilP rfl) (by kernel_rfl) (by kernel_rfl) (by kernel_rfl) ?_
  refine Any.rd0 2 at2 rfl rfl (O.field fo_245_0 rfl) (by kernel_rfl) (by kernel_rfl) (by kernel_rfl) ?_
  refine Any.rd1 3 at3 rfl rfl (O.load kd_243 rfl r1_0) hsb.cons (by kernel_rfl) (by kernel_rfl) (by kernel_rfl) ?_
  refine Any.rd1 4 at4 rfl rfl (O.loadA kd_45 rfl (Nat.le_of_ble_eq_true rfl) (Key_all _)) Rd.head (by kernel_rfl) (by kernel_rfl) (by kernel_rfl) ?_
  refine Any.rd1 5 at5 rfl rfl (O.lookN (ok := false) mp_243 kk_key hm zo_251 rfl (by exact rfl) hl) hmb.cons (by kernel_rfl) (by kernel_rfl) (by kernel_rfl) ?_
  refine Any.rd0 6 at6 rfl rfl (O.assign (v := .pointer _) rfl) (by kernel_rfl) (by kernel_rfl) (by kernel_rfl) ?_
  refine Any.done (by kernel_rfl) ⟨⟨⟨trivial, hsb.cons⟩, Rd.head⟩, hmb.cons⟩ ?_
  refine hK3 ?_
  refine Cd.seq (fun K4 hK4 => ?_)
  refine Cd.seq (fun K5 hK5 => ?_)
  refine Cd.region [0, 1] rfl ?_
  refine Seq.rd0 at0 rfl rfl (O.move (v := .pointer _) rfl) ?_
  refine Seq.rd0 at1 rfl rfl (O.eqNil ds_251 rfl rfl) ?_
  refine Seq.nil ?_
  refine hK5 ?_
  refine Cd.condT rfl ?_
  refine Cd.seq (fun K6 hK6 => ?_)
  refine Cd.region [0, 1] rfl ?_
  refine Seq.op at0 rfl (Op.callF rfl hb_218 C_chain_New rfl ?_)
  rintro _ _ ⟨b7, hb7, rfl, rfl⟩
  refine Seq.rd0 at1 rfl rfl (O.assign (v := .pointer _) rfl) ?_
  refine Seq.nil ?_
  refine hK6 ?_
  refine Cd.ret ?_
  exact hR _ _ (Res.one (v := .pointer _) rfl rfl) ⟨_, hb7, rfl, rfl⟩ (.cons_cons _ (.cons _ (.refl _)))

/-- 'of', both ways: a chain that holds getS l k, in the state L or in L and one block more -/
theorem C_of {c : Cx} {L : List Pt} {sb : Nat} {l : List (Key × CV)} {k : Key} (hS : StAt c L sb l) : Fn Tryz.prog 170 #[.pointer (some ⟨sb, 0, none⟩), .agg (Key_enc k)] c L (fun v L' => ∃ cb G, v = .pointer (some ⟨cb, 0, none⟩) ∧ L' = G ++ L ∧ ChAt c L' cb (getS l k) ∧ Sorted (getS l k) ∧ (getS l k).length < 4611686018427387904) := by
  cases hl : alook l k with
  | some q =>
    obtain ⟨h1, h2, h3⟩ := hS.ch k q hl
    have hg : getS l k = q.2 := by unfold getS; rw [hl]
    rw [hg]
    exact Fn.mono (C_of_some hS hl) fun v L' ⟨hv, hL⟩ => ⟨q.1, [], hv, hL, hL ▸ h1, h2, by omega⟩
  | none =>
    have hg : getS l k = [] := by unfold getS; rw [hl]
    rw [hg]
    exact Fn.mono (C_of_none hS hl) fun v L' ⟨b, hb, hv, hL⟩ => ⟨b, [_], hv, hL, .inl ⟨rfl, hL ▸ .head⟩, .nil, by decide⟩

end Go.X

namespace Go.X
open Go.Proofs
theorem fo_242_1 : fieldOff Tryz.prog 242 1 = some 2 := by kernel_rfl
theorem fo_242_2 : fieldOff Tryz.prog 242 2 = some 3 := by kernel_rfl
theorem hb_170 : hasBody Tryz.prog 170 = true := by kernel_rfl
theorem hb_176 : hasBody Tryz.prog 176 = true := by kernel_rfl
theorem hb_194 : hasBody Tryz.prog 194 = true := by kernel_rfl
theorem kd_4 : kindOf Tryz.prog 4 = some (false, 1) := by kernel_rfl
theorem kd_9 : kindOf Tryz.prog 9 = some (false, 1) := by kernel_rfl
theorem zo_24 : zeroOf Tryz.prog 24 = some (.agg #[.int .i64 0, .int .u8 0]) := by kernel_rfl
theorem Rd.app {c : Cx} {L G : List Pt} {b : Nat} {o : Obj} (h : Rd c L b o) : Rd c (G ++ L) b o := h.sub (List.sublist_append_right _ _)
theorem StAt.app {c : Cx} {L G : List Pt} {sb : Nat} {l : List (Key × CV)} (h : StAt c L sb l) : StAt c (G ++ L) sb l := h.sub (List.sublist_append_right _ _)
theorem ChAt.app {c : Cx} {L G : List Pt} {cb : Nat} {vs : List Version} (h : ChAt c L cb vs) : ChAt c (G ++ L) cb vs := h.sub (List.sublist_append_right _ _)
theorem sub_app {L L' G : List Pt} (h : L'.Sublist L) : L'.Sublist (G ++ L) := h.trans (List.sublist_append_right _ _)

set_option maxRecDepth 100000 in
set_option maxHeartbeats 2000000 in
theorem C_store_Newest {c : Cx} {L : List Pt} {sb : Nat} {l : List (Key × CV)} {k : Key} (hS : StAt c L sb l) : Fn Tryz.prog 131 #[.pointer (some ⟨sb, 0, none⟩), .agg (Key_enc k)] c L (fun v L' => v = .tuple #[.agg (Stamp_enc ((newestV (getS l k)).getD .zero).stamp), .bool (newestV (getS l k)).isSome] ∧ L' = L) := by
  refine Fn.enter Tryz.func131 rfl 18 rfl rfl (fun R hR => ?_)
  refine Cd.seq (fun K1 hK1 => ?_)
  refine Cd.region [0, 1, 2] rfl ?_
  refine Seq.op at0 rfl (Op.new rfl (O.box (v := .agg _) rfl (cs := (Key_enc k)) rfl) ?_)
  intro b2 hb2
  refine Seq.op at1 rfl (Op.new rfl (O.alloc zo_24 (cs := (Stamp_enc Stamp.zero)) rfl) ?_)
  intro b3 hb3
  refine Seq.rd0 at2 rfl rfl (O.assign (v := .bool _) rfl) ?_
  refine Seq.nil ?_
  refine hK1 ?_
  refine Cd.seq (fun K4 hK4 => ?_)
  refine Cd.region [0, 1, 2, 3, 4, 5, 6, 7, 8, 9] rfl ?_
  refine Seq.rd0 at0 rfl rfl (O.move (v := .pointer _) rfl) ?_
  refine Seq.rd1 at1 rfl rfl (O.loadA kd_45 rfl (Nat.le_of_ble_eq_true rfl) (Key_all _)) Rd.head.cons ?_
  refine Seq.op at2 rfl (Op.callF rfl hb_170 (C_of (k := k) hS.cons.cons) rfl ?_)
  rintro _ _ ⟨cb5, G6, rfl, rfl, hc7, hc7s, hc7n⟩
  refine Seq.op at3 rfl (Op.callF rfl hb_194 (C_chain_Newest hc7n hc7) rfl ?_)
  rintro _ _ ⟨rfl, rfl⟩
  refine Ent.sub ?_ (sub_app (.refl _))
  refine Seq.rd0 at4 rfl rfl (O.move (v := .tuple _) rfl) ?_
  refine Seq.rd0 at5 rfl rfl (O.ext rfl r2_0) ?_
  refine Seq.rd0 at6 rfl rfl (O.ext rfl r2_1) ?_
  refine Seq.op at7 rfl (Op.new rfl (O.alloc zo_242 (cs := (Version_enc Version.zero)) rfl) ?_)
  intro b8 hb8
  refine Seq.op at8 rfl (Op.set0 rfl (O.store kd_242 rfl (v := .agg _) rfl (Version_size _) (Version_room (Version_size _)) (Version_one _) (Version_put _ (Version_size _))) ?_)
  refine Seq.rd0 at9 rfl rfl (O.assign (v := .bool _) rfl) ?_
  refine Seq.nil ?_
  refine hK4 ?_
  refine Cd.seq (fun K9 hK9 => ?_)
  refine Cd.region [0, 1, 2, 3, 4] rfl ?_
  refine Seq.rd0 at0 rfl rfl (O.field fo_242_0 rfl) ?_
  refine Seq.rd1 at1 rfl rfl (O.loadA kd_24 rfl (Nat.le_of_ble_eq_true rfl) (Version_stamp _)) Rd.head ?_
  refine Seq.rd0 at2 rfl rfl (O.move (v := .bool _) rfl) ?_
  refine Seq.op at3 rfl (Op.set1 rfl (O.store kd_24 rfl (v := .agg _) rfl (Stamp_size _) (Stamp_room (Stamp_size _)) (Stamp_one _) (Stamp_put _ (Stamp_size _))) ?_)
  refine Seq.rd0 at4 rfl rfl (O.assign (v := .bool _) rfl) ?_
  refine Seq.nil ?_
  refine hK9 ?_
  refine Cd.ret ?_
  exact hR _ _ (Res.cell2 (v := .bool _) rfl kd_24 rfl rfl Rd.head.cons rfl) ⟨rfl, rfl⟩ (.cons _ (.cons _ (.cons _ (.refl _))))

def getV (l : List (Key × CV)) (k : Key) (s : Stamp) : ByteArray × Bool := match atV (getS l k) s with
  | some v => if v.gone then (⟨#[]⟩, false) else (v.val, true)
  | none => (⟨#[]⟩, false)

set_option maxRecDepth 100000 in
set_option maxHeartbeats 2000000 in
theorem C_store_Get {c : Cx} {L : List Pt} {sb : Nat} {l : List (Key × CV)} {k : Key} (hS : StAt c L sb l) {s : Stamp} : Fn Tryz.prog 100 #[.pointer (some ⟨sb, 0, none⟩), .agg (Key_enc k), .agg (Stamp_enc s)] c L (fun v L' => v = .tuple #[.string (getV l k s).1, .bool (getV l k s).2] ∧ L' = L) := by
  refine Fn.enter Tryz.func100 rfl 26 rfl rfl (fun R hR => ?_)
  refine Cd.seq (fun K1 hK1 => ?_)
  refine Cd.region [0, 1, 2, 3] rfl ?_
  refine Seq.op at0 rfl (Op.new rfl (O.box (v := .agg _) rfl (cs := (Key_enc k)) rfl) ?_)
  intro b2 hb2
  refine Seq.op at1 rfl (Op.new rfl (O.box (v := .agg _) rfl (cs := (Stamp_enc s)) rfl) ?_)
  intro b3 hb3
  refine Seq.rd0 at2 rfl rfl (O.assign (v := .string _) rfl) ?_
  refine Seq.rd0 at3 rfl rfl (O.assign (v := .bool _) rfl) ?_
  refine Seq.nil ?_
  refine hK1 ?_
  refine Cd.seq (fun K4 hK4 => ?_)
  refine Cd.draw 11 rfl po ?_
  refine Any.rd0 0 at0 rfl rfl (O.move (v := .pointer _) rfl) (by kernel_rfl) (by kernel_rfl) (by kernel_rfl) ?_
  refine Any.rd1 1 at1 rfl rfl (O.loadA kd_45 rfl (Nat.le_of_ble_eq_true rfl) (Key_all _)) Rd.head.cons (by kernel_rfl) (by kernel_rfl) (by kernel_rfl) ?_
  refine Any.rd1 3 at3 rfl rfl (O.loadA kd_24 rfl (Nat.le_of_ble_eq_true rfl) (Stamp_all _)) Rd.head (by kernel_rfl) (by kernel_rfl) (by kernel_rfl) ?_
  refine Any.two 2 8 at2 at8 rfl rfl (by kernel_rfl) ⟨⟨trivial, Rd.head.cons⟩, Rd.head⟩ ?_ ?_
  · skip
    refine Op.callF rfl hb_170 (C_of (k := k) hS.cons.cons) rfl ?_
    rintro _ _ ⟨cb5, G6, rfl, rfl, hc7, hc7s, hc7n⟩
    refine Any.toK ?_
    refine Any.two 4 8 at4 at8 rfl rfl (by kernel_rfl) ⟨⟨trivial, Rd.head.cons.app⟩, Rd.head.app⟩ ?_ ?_
    · skip
      refine Op.callF rfl hb_176 (C_chain_At hc7s hc7n hc7) rfl ?_
      rintro _ _ ⟨rfl, rfl⟩
      refine Ent.sub ?_ (sub_app (.refl _))
      refine Any.toK ?_
      refine Any.rd0 5 at5 rfl rfl (O.move (v := .tuple _) rfl) (by kernel_rfl) (by kernel_rfl) (by kernel_rfl) ?_
      refine Any.rd0 6 at6 rfl rfl (O.ext rfl r2_0) (by kernel_rfl) (by kernel_rfl) (by kernel_rfl) ?_
      refine Any.rd0 7 at7 rfl rfl (O.ext rfl r2_1) (by kernel_rfl) (by kernel_rfl) (by kernel_rfl) ?_
      refine Any.one 8 at8 rfl (by kernel_rfl) ⟨⟨trivial, Rd.head.cons⟩, Rd.head⟩ ?_
      refine Op.new rfl (O.alloc zo_242 (cs := (Version_enc Version.zero)) rfl) ?_
      intro b8 hb8
      refine Any.toK ?_
      refine Any.one 9 at9 rfl (by kernel_rfl) ⟨⟨trivial, Rd.head.cons.cons⟩, Rd.head.cons⟩ ?_
      refine Op.set0 rfl (O.store kd_242 rfl (v := .agg _) rfl (Version_size _) (Version_room (Version_size _)) (Version_one _) (Version_put _ (Version_size _))) ?_
      refine Any.toK ?_
      refine Any.rd0 10 at10 rfl rfl (O.assign (v := .bool _) rfl) (by kernel_rfl) (by kernel_rfl) (by kernel_rfl) ?_
      refine Any.done (by kernel_rfl) ⟨⟨trivial, Rd.head.cons.cons⟩, Rd.head.cons⟩ ?_
      refine hK4 ?_
      refine Cd.seq (fun K9 hK9 => ?_)
      refine Cd.seq (fun K10 hK10 => ?_)
      refine Cd.region [0, 1, 2, 3, 4, 5] rfl ?_
      refine Seq.rd0 at0 rfl rfl (O.move (v := .bool _) rfl) ?_
      refine Seq.rd0 at1 rfl rfl (O.not rfl) ?_
      refine Seq.rd0 at2 rfl rfl (O.move (v := .bool _) rfl) ?_
      cases t11 : (atV (getS l k) s).isSome
      · skip
        refine Seq.pass at3 rfl rfl ?_
        refine Seq.pass at4 rfl rfl ?_
        refine Seq.rd0 at5 rfl rfl (O.pickT (v := .bool _) rfl rfl) ?_
        refine Seq.nil ?_
        refine hK10 ?_
        refine Cd.condT rfl ?_
        refine Cd.seq (fun K12 hK12 => ?_)
        refine Cd.region [0, 1] rfl ?_
        refine Seq.rd0 at0 rfl rfl (O.assign (v := .string _) rfl) ?_
        refine Seq.rd0 at1 rfl rfl (O.assign (v := .bool _) rfl) ?_
        refine Seq.nil ?_
        refine hK12 ?_
        refine Cd.ret ?_
        exact hR _ _ (Res.two (v := .string _) (v' := .bool _) rfl rfl rfl) ⟨by simp only [getV]; cases hx : atV (getS l k) s <;> simp_all, rfl⟩ (.cons _ (.cons _ (.cons _ (.refl _))))
      · skip
        refine Seq.rd0 at3 rfl rfl (O.field fo_242_2 rfl) ?_
        refine Seq.rd1 at4 rfl rfl (O.load kd_4 rfl (Version_gone _)) Rd.head ?_
        refine Seq.rd0 at5 rfl rfl (O.pickF (v := .bool _) rfl rfl) ?_
        refine Seq.nil ?_
        refine hK10 ?_
        refine Cd.cond (((atV (getS l k) s).getD .zero).gone) rfl (fun t13 => ?_) (fun t13 => ?_)
        · skip
          refine Cd.seq (fun K14 hK14 => ?_)
          refine Cd.region [0, 1] rfl ?_
          refine Seq.rd0 at0 rfl rfl (O.assign (v := .string _) rfl) ?_
          refine Seq.rd0 at1 rfl rfl (O.assign (v := .bool _) rfl) ?_
          refine Seq.nil ?_
          refine hK14 ?_
          refine Cd.ret ?_
          exact hR _ _ (Res.two (v := .string _) (v' := .bool _) rfl rfl rfl) ⟨by simp only [getV]; cases hx : atV (getS l k) s <;> simp_all, rfl⟩ (.cons _ (.cons _ (.cons _ (.refl _))))
        · skip
          refine Cd.skip ?_
          refine hK9 ?_
          refine Cd.seq (fun K15 hK15 => ?_)
          refine Cd.region [0, 1, 2, 3] rfl ?_
          refine Seq.rd0 at0 rfl rfl (O.field fo_242_1 rfl) ?_
          refine Seq.rd1 at1 rfl rfl (O.load kd_9 rfl (Version_val _)) Rd.head ?_
          refine Seq.rd0 at2 rfl rfl (O.assign (v := .string _) rfl) ?_
          refine Seq.rd0 at3 rfl rfl (O.assign (v := .bool _) rfl) ?_
          refine Seq.nil ?_
          refine hK15 ?_
          refine Cd.ret ?_
          exact hR _ _ (Res.two (v := .string _) (v' := .bool _) rfl rfl rfl) ⟨by simp only [getV]; cases hx : atV (getS l k) s <;> simp_all, rfl⟩ (.cons _ (.cons _ (.cons _ (.refl _))))
    · skip
      refine Op.new rfl (O.alloc zo_242 (cs := (Version_enc Version.zero)) rfl) ?_
      intro b16 hb16
      refine Any.toK ?_
      refine Any.one 4 at4 rfl (by kernel_rfl) ⟨⟨trivial, Rd.head.cons.app.cons⟩, Rd.head.app.cons⟩ ?_
      refine Op.callF rfl hb_176 (C_chain_At hc7s hc7n hc7.cons) rfl ?_
      rintro _ _ ⟨rfl, rfl⟩
      refine Ent.sub ?_ (.cons_cons _ (sub_app (.refl _)))
      refine Any.toK ?_
      refine Any.rd0 5 at5 rfl rfl (O.move (v := .tuple _) rfl) (by kernel_rfl) (by kernel_rfl) (by kernel_rfl) ?_
      refine Any.rd0 6 at6 rfl rfl (O.ext rfl r2_0) (by kernel_rfl) (by kernel_rfl) (by kernel_rfl) ?_
      refine Any.rd0 7 at7 rfl rfl (O.ext rfl r2_1) (by kernel_rfl) (by kernel_rfl) (by kernel_rfl) ?_
      refine Any.one 9 at9 rfl (by kernel_rfl) ⟨⟨trivial, Rd.head.cons.cons⟩, Rd.head.cons⟩ ?_
      refine Op.set0 rfl (O.store kd_242 rfl (v := .agg _) rfl (Version_size _) (Version_room (Version_size _)) (Version_one _) (Version_put _ (Version_size _))) ?_
      refine Any.toK ?_
      refine Any.rd0 10 at10 rfl rfl (O.assign (v := .bool _) rfl) (by kernel_rfl) (by kernel_rfl) (by kernel_rfl) ?_
      refine Any.done (by kernel_rfl) ⟨⟨trivial, Rd.head.cons.cons⟩, Rd.head.cons⟩ ?_
      refine hK4 ?_
      refine Cd.seq (fun K17 hK17 => ?_)
      refine Cd.seq (fun K18 hK18 => ?_)
      refine Cd.region [0, 1, 2, 3, 4, 5] rfl ?_
      refine Seq.rd0 at0 rfl rfl (O.move (v := .bool _) rfl) ?_
      refine Seq.rd0 at1 rfl rfl (O.not rfl) ?_
      refine Seq.rd0 at2 rfl rfl (O.move (v := .bool _) rfl) ?_
      cases t19 : (atV (getS l k) s).isSome
      · skip
        refine Seq.pass at3 rfl rfl ?_
        refine Seq.pass at4 rfl rfl ?_
        refine Seq.rd0 at5 rfl rfl (O.pickT (v := .bool _) rfl rfl) ?_
        refine Seq.nil ?_
        refine hK18 ?_
        refine Cd.condT rfl ?_
        refine Cd.seq (fun K20 hK20 => ?_)
        refine Cd.region [0, 1] rfl ?_
        refine Seq.rd0 at0 rfl rfl (O.assign (v := .string _) rfl) ?_
        refine Seq.rd0 at1 rfl rfl (O.assign (v := .bool _) rfl) ?_
        refine Seq.nil ?_
        refine hK20 ?_
        refine Cd.ret ?_
        exact hR _ _ (Res.two (v := .string _) (v' := .bool _) rfl rfl rfl) ⟨by simp only [getV]; cases hx : atV (getS l k) s <;> simp_all, rfl⟩ (.cons _ (.cons _ (.cons _ (.refl _))))
      · skip
        refine Seq.rd0 at3 rfl rfl (O.field fo_242_2 rfl) ?_
        refine Seq.rd1 at4 rfl rfl (O.load kd_4 rfl (Version_gone _)) Rd.head ?_
        refine Seq.rd0 at5 rfl rfl (O.pickF (v := .bool _) rfl rfl) ?_
        refine Seq.nil ?_
        refine hK18 ?_
        refine Cd.cond (((atV (getS l k) s).getD .zero).gone) rfl (fun t21 => ?_) (fun t21 => ?_)
        · skip
          refine Cd.seq (fun K22 hK22 => ?_)
          refine Cd.region [0, 1] rfl ?_
          refine Seq.rd0 at0 rfl rfl (O.assign (v := .string _) rfl) ?_
          refine Seq.rd0 at1 rfl rfl (O.assign (v := .bool _) rfl) ?_
          refine Seq.nil ?_
          refine hK22 ?_
          refine Cd.ret ?_
          exact hR _ _ (Res.two (v := .string _) (v' := .bool _) rfl rfl rfl) ⟨by simp only [getV]; cases hx : atV (getS l k) s <;> simp_all, rfl⟩ (.cons _ (.cons _ (.cons _ (.refl _))))
        · skip
          refine Cd.skip ?_
          refine hK17 ?_
          refine Cd.seq (fun K23 hK23 => ?_)
          refine Cd.region [0, 1, 2, 3] rfl ?_
          refine Seq.rd0 at0 rfl rfl (O.field fo_242_1 rfl) ?_
          refine Seq.rd1 at1 rfl rfl (O.load kd_9 rfl (Version_val _)) Rd.head ?_
          refine Seq.rd0 at2 rfl rfl (O.assign (v := .string _) rfl) ?_
          refine Seq.rd0 at3 rfl rfl (O.assign (v := .bool _) rfl) ?_
          refine Seq.nil ?_
          refine hK23 ?_
          refine Cd.ret ?_
          exact hR _ _ (Res.two (v := .string _) (v' := .bool _) rfl rfl rfl) ⟨by simp only [getV]; cases hx : atV (getS l k) s <;> simp_all, rfl⟩ (.cons _ (.cons _ (.cons _ (.refl _))))
  · skip
    refine Op.new rfl (O.alloc zo_242 (cs := (Version_enc Version.zero)) rfl) ?_
    intro b24 hb24
    refine Any.toK ?_
    refine Any.one 2 at2 rfl (by kernel_rfl) ⟨⟨trivial, Rd.head.cons.cons⟩, Rd.head.cons⟩ ?_
    refine Op.callF rfl hb_170 (C_of (k := k) hS.cons.cons.cons) rfl ?_
    rintro _ _ ⟨cb25, G26, rfl, rfl, hc27, hc27s, hc27n⟩
    refine Any.toK ?_
    refine Any.one 4 at4 rfl (by kernel_rfl) ⟨⟨trivial, Rd.head.cons.cons.app⟩, Rd.head.cons.app⟩ ?_
    refine Op.callF rfl hb_176 (C_chain_At hc27s hc27n hc27) rfl ?_
    rintro _ _ ⟨rfl, rfl⟩
    refine Ent.sub ?_ (sub_app (.refl _))
    refine Any.toK ?_
    refine Any.rd0 5 at5 rfl rfl (O.move (v := .tuple _) rfl) (by kernel_rfl) (by kernel_rfl) (by kernel_rfl) ?_
    refine Any.rd0 6 at6 rfl rfl (O.ext rfl r2_0) (by kernel_rfl) (by kernel_rfl) (by kernel_rfl) ?_
    refine Any.rd0 7 at7 rfl rfl (O.ext rfl r2_1) (by kernel_rfl) (by kernel_rfl) (by kernel_rfl) ?_
    refine Any.one 9 at9 rfl (by kernel_rfl) ⟨⟨trivial, Rd.head.cons.cons⟩, Rd.head.cons⟩ ?_
    refine Op.set0 rfl (O.store kd_242 rfl (v := .agg _) rfl (Version_size _) (Version_room (Version_size _)) (Version_one _) (Version_put _ (Version_size _))) ?_
    refine Any.toK ?_
    refine Any.rd0 10 at10 rfl rfl (O.assign (v := .bool _) rfl) (by kernel_rfl) (by kernel_rfl) (by kernel_rfl) ?_
    refine Any.done (by kernel_rfl) ⟨⟨trivial, Rd.head.cons.cons⟩, Rd.head.cons⟩ ?_
    refine hK4 ?_
    refine Cd.seq (fun K28 hK28 => ?_)
    refine Cd.seq (fun K29 hK29 => ?_)
    refine Cd.region [0, 1, 2, 3, 4, 5] rfl ?_
    refine Seq.rd0 at0 rfl rfl (O.move (v := .bool _) rfl) ?_
    refine Seq.rd0 at1 rfl rfl (O.not rfl) ?_
    refine Seq.rd0 at2 rfl rfl (O.move (v := .bool _) rfl) ?_
    cases t30 : (atV (getS l k) s).isSome
    · skip
      refine Seq.pass at3 rfl rfl ?_
      refine Seq.pass at4 rfl rfl ?_
      refine Seq.rd0 at5 rfl rfl (O.pickT (v := .bool _) rfl rfl) ?_
      refine Seq.nil ?_
      refine hK29 ?_
      refine Cd.condT rfl ?_
      refine Cd.seq (fun K31 hK31 => ?_)
      refine Cd.region [0, 1] rfl ?_
      refine Seq.rd0 at0 rfl rfl (O.assign (v := .string _) rfl) ?_
      refine Seq.rd0 at1 rfl rfl (O.assign (v := .bool _) rfl) ?_
      refine Seq.nil ?_
      refine hK31 ?_
      refine Cd.ret ?_
      exact hR _ _ (Res.two (v := .string _) (v' := .bool _) rfl rfl rfl) ⟨by simp only [getV]; cases hx : atV (getS l k) s <;> simp_all, rfl⟩ (.cons _ (.cons _ (.cons _ (.refl _))))
    · skip
      refine Seq.rd0 at3 rfl rfl (O.field fo_242_2 rfl) ?_
      refine Seq.rd1 at4 rfl rfl (O.load kd_4 rfl (Version_gone _)) Rd.head ?_
      refine Seq.rd0 at5 rfl rfl (O.pickF (v := .bool _) rfl rfl) ?_
      refine Seq.nil ?_
      refine hK29 ?_
      refine Cd.cond (((atV (getS l k) s).getD .zero).gone) rfl (fun t32 => ?_) (fun t32 => ?_)
      · skip
        refine Cd.seq (fun K33 hK33 => ?_)
        refine Cd.region [0, 1] rfl ?_
        refine Seq.rd0 at0 rfl rfl (O.assign (v := .string _) rfl) ?_
        refine Seq.rd0 at1 rfl rfl (O.assign (v := .bool _) rfl) ?_
        refine Seq.nil ?_
        refine hK33 ?_
        refine Cd.ret ?_
        exact hR _ _ (Res.two (v := .string _) (v' := .bool _) rfl rfl rfl) ⟨by simp only [getV]; cases hx : atV (getS l k) s <;> simp_all, rfl⟩ (.cons _ (.cons _ (.cons _ (.refl _))))
      · skip
        refine Cd.skip ?_
        refine hK28 ?_
        refine Cd.seq (fun K34 hK34 => ?_)
        refine Cd.region [0, 1, 2, 3] rfl ?_
        refine Seq.rd0 at0 rfl rfl (O.field fo_242_1 rfl) ?_
        refine Seq.rd1 at1 rfl rfl (O.load kd_9 rfl (Version_val _)) Rd.head ?_
        refine Seq.rd0 at2 rfl rfl (O.assign (v := .string _) rfl) ?_
        refine Seq.rd0 at3 rfl rfl (O.assign (v := .bool _) rfl) ?_
        refine Seq.nil ?_
        refine hK34 ?_
        refine Cd.ret ?_
        exact hR _ _ (Res.two (v := .string _) (v' := .bool _) rfl rfl rfl) ⟨by simp only [getV]; cases hx : atV (getS l k) s <;> simp_all, rfl⟩ (.cons _ (.cons _ (.cons _ (.refl _))))

end Go.X

/- The engine, part 13: bytes and strings, copies, fields of values. -/
namespace Go.X
section
variable {P : Program} {n : Sz} {e : Env} {d : Option Tmp} {ty : TypeId} {p : String} {af : Array Edge} {g : Option (Nat × Bool)}
variable {c : Cx} {L : List Pt} {x y z : Operand} {v v' : Value}

/-- a slice of bytes as a string -/
theorem O.bytesToStr {s t el b o m cap : Nat} {cs : Array Value} {el' : TypeId} {fz : Nat × Nat} (hs : P.underlying s = some (.slice el)) (hel : P.underlying el = some (.int .u8)) (ht : P.underlying t = some .string)
    (hx : ev e x = .slice (some ⟨b, o, none⟩) m cap) {l : List UInt8} (hm : o + m ≤ cs.size) (hl : cs.extract o (o + m) = (l.map byteV).toArray) :
    Rn1 P e ⟨d, .convert s t x, ty, p, af, g⟩ b (.cells cs el' fz) (.string ⟨l.toArray⟩) := fun w hb => by
  have hload : (loadCells ⟨b, o, none⟩ m).run P w = .ok ((l.map (fun x => (x.toNat : Int))).map (Value.int .u8)).toArray w := by
    rw [run_loadRow hb hm, hl]
    simp [byteV, Function.comp_def]
  have h2 := run_bytesToString (P := P) w ⟨b, o, none⟩ m cap (l.map (fun x => (x.toNat : Int))) hload
  have h3 : ∀ (l : List UInt8) (acc : ByteArray), (l.map (fun x => (x.toNat : Int))).foldl (fun r n => r.push (UInt8.ofNat n.toNat)) acc = ⟨acc.data ++ l.toArray⟩ := by
    intro l
    induction l with
    | nil => intro acc; simp
    | cons a l ih =>
      intro acc
      simp only [List.map_cons, List.foldl_cons, Int.toNat_natCast, UInt8.ofNat_toNat, ih]
      simp [ByteArray.push]
  rw [h3] at h2
  have h4 : (ByteArray.empty.data ++ l.toArray) = l.toArray := by show (#[] : Array UInt8) ++ l.toArray = _; simp
  rw [h4] at h2
  simp [execOp, hx, convert, run_under hs, run_under hel, run_under ht, h2]

/-- what a copy or an append reads: k elements in all, the first m of them are cells -/
def SrcR (P : Program) (c : Cx) (L : List Pt) (sz : Nat) (v : Value) (k m : Nat) (cells : Array Value) : Prop :=
  ∀ w, St c L w → (Builtin.lenOf v).run P w = .ok k w ∧ (Builtin.firstCells sz m v).run P w = .ok cells w
theorem SrcR.str {s : ByteArray} {m : Nat} : SrcR P c L 1 (.string s) s.size m ((s.extract 0 m).data.map fun b => .int .u8 b.toNat) := fun w _ => by
  simp [Builtin.lenOf, Builtin.firstCells]
theorem SrcR.slice {sz b o k m cap : Nat} {cs : Array Value} {el : TypeId} {fz : Nat × Nat} {cells : Array Value} (hr : Rd c L b (.cells cs el fz)) (hm : o + m * sz ≤ cs.size) (hc : cs.extract o (o + m * sz) = cells) :
    SrcR P c L sz (.slice (some ⟨b, o, none⟩) k cap) k m cells := fun w hw => by
  subst hc
  refine ⟨by simp [Builtin.lenOf], ?_⟩
  simp only [Builtin.firstCells]; exact run_loadRow (hr w hw) hm

/-- 'copy' into a row that is ours -/
theorem O.copy {t ts el sz b o dn cap k : Nat} {cs new : Array Value} {el' : TypeId} (ht : sliceOf P t = some (el, sz)) (hx : ev e x = .slice (some ⟨b, o, none⟩) dn cap)
    (hk : SrcR P c ((b, .cells cs el' (0, 0)) :: L) sz (ev e y) k (Nat.min k dn) new) (hone : ∀ u ∈ new.toList, Value.oneCell' u = true) (hroom : o + new.size ≤ cs.size) {cs' : Array Value} (hcs : putL cs o new.toList = cs') :
    Eg P e ⟨d, .call { callee := .builtin .copy, args := #[x, y], argTypes := #[t, ts] }, ty, p, af, g⟩ c ((b, .cells cs el' (0, 0)) :: L)
      (fun v L' => v = .int .i64 ((Nat.min k dn : Nat) : Int) ∧ L' = (b, .cells cs' el' (0, 0)) :: L) := by
  intro w hw
  subst hcs
  obtain ⟨hu, i, hi, rfl⟩ := slice_parts ht
  obtain ⟨h1, h2⟩ := hk w hw
  have hst := run_storeL (P := P) (el := el') new.toList w o 0 cs (hw.look _ (List.mem_cons_self)) (by simpa using hroom) hone
  simp only [Nat.add_zero] at hst
  refine ⟨_, _, _, .inl ?_, ⟨rfl, rfl⟩, St.set (A := []) hw⟩
  simp [execOp, resolve, invoke, builtin, Builtin.copy_, hx, run_under hu, run_size hi, h1, h2, hst, goInt]

def partOf (P : Program) (s i : Nat) : Option (Nat × Bool × Nat) :=
  match P.underlying s with
  | some (.struct fs) => match fs[i]? with
    | some f => match kindOf P f.type with
      | some (ag, m) => some (f.offset, ag, m)
      | none => none
    | none => none
  | _ => none
end
end Go.X

/- The engine, part 14: what slices.Insert wants. -/
namespace Go.X
section
variable {P : Program} {n : Sz} {e : Env} {d : Option Tmp} {ty : TypeId} {p : String} {af : Array Edge} {g : Option (Nat × Bool)}
variable {c : Cx} {L : List Pt} {x y z : Operand} {v v' : Value}
theorem Ent.nd {K : Env → World → Prop} (h : (L.map Prod.fst).Nodup → Ent c L K e) : Ent c L K e := fun w hw => h hw.nd w hw
theorem Fn.nd {f : FuncId} {args : Array Value} {post : Value → List Pt → Prop} (h : (L.map Prod.fst).Nodup → Fn P f args c L post) : Fn P f args c L post := fun w hw => h hw.nd w hw

theorem O.capS {t : TypeId} {a : Option Addr} {m cap : Nat} (ht : isDesc P t = 5) (hx : ev e x = .slice a m cap) :
    Rn0 P e ⟨d, .call { callee := .builtin .cap, args := #[x], argTypes := #[t] }, ty, p, af, g⟩ (.int .i64 cap) := fun w => by
  obtain ⟨el, hu⟩ := desc_slice ht
  simp [execOp, resolve, invoke, builtin, Builtin.cap_, hx, run_under hu, goInt]

/-- 'append(s, make([]T, k)...)' where a new row is made -/
theorem O.appendMake {t t2 el sz by_ m k cap : Nat} {zv : Value} {a : Option Addr} {old : Array Value} (ht : elemInfo P t = some (el, sz, by_, zv)) (ht2 : intOf? P t2 = some .i64) (hby : by_ ≠ 0)
    (hx : ev e x = .slice a m cap) (hy : ev e y = .int .i64 (k : Nat)) (hm : Src c L sz (.slice a m cap) m old) (hgrow : cap < m + k) (hroom : (2 * (m + k) + 192) * by_ ≤ 281474976710656) :
    Eg P e ⟨d, .call { callee := .builtin .append, args := #[x, y], argTypes := #[t, t2] }, ty, p, af, g⟩ c L
      (fun v L' => ∃ b cap' new sp, c.w0.heap.size ≤ b ∧ m + k ≤ cap' ∧ new.size = k * sz ∧ sp.size = (cap' - (m + k)) * sz ∧ v = .slice (some ⟨b, 0, none⟩) (m + k) cap' ∧ L' = (b, .cells (old ++ (new ++ sp)) el (0, 0)) :: L) := by
  intro w hw
  obtain ⟨hu, i, hi, rfl, rfl, hz, hzs⟩ := elem_parts ht
  have hu2 := int_under ht2
  have hcapn : ¬ (m + k ≤ cap) := by omega
  have hnext := nextcap_le hgrow
  have hp48 : (2 : Nat) ^ 48 = 281474976710656 := by decide
  have h48 : ¬ (Builtin.nextslicecap (m + k) cap * i.bytes > 2 ^ 48) := by
    have : Builtin.nextslicecap (m + k) cap * i.bytes ≤ (2 * (m + k) + 192) * i.bytes := Nat.mul_le_mul_right _ hnext
    omega
  have hb1 : m + k ≤ 281474976710656 := by
    have h1 : (2 * (m + k) + 192) * 1 ≤ (2 * (m + k) + 192) * i.bytes := Nat.mul_le_mul_left _ (by omega)
    omega
  have hk64 : IntKind.i64.wrap (k : Int) = k := wrap64_id (by omega) (by omega)
  have hk48 : ¬ ((k : Int) * (i.bytes : Int) > (2 : Int) ^ 48) := by
    have h1 : k * i.bytes ≤ (2 * (m + k) + 192) * i.bytes := Nat.mul_le_mul_right _ (by omega)
    have h2 : ((k * i.bytes : Nat) : Int) ≤ ((281474976710656 : Nat) : Int) := Int.ofNat_le.2 (Nat.le_trans h1 hroom)
    have h3 : (2 : Int) ^ 48 = 281474976710656 := by decide
    rw [h3]; rw [Int.natCast_mul] at h2; omega
  have hneed : ¬ (((m + k : Nat) : Int) > IntKind.i64.max) := by
    have hmx : IntKind.i64.max = 9223372036854775807 := by decide
    rw [hmx]; omega
  let q : Question := .appendCap (m + k) cap el
  let cap' := q.cut (w.tape w.drawn q)
  have hcap' : m + k ≤ cap' := by show m + k ≤ m + k + _; omega
  have hw' : St c L w.drew := hw.drew _
  have hzz : zeroOf P el = some zv := by simp [zeroOf, hi, hz]
  have hf1 := hm.run (P := P) hw'
  refine ⟨_, _, _, .inl ?_, ⟨w.heap.size, cap', Builtin.zeroCells zv.cells k, Builtin.zeroCells zv.cells (cap' - (m + k)), hw.mod.size, hcap', by rw [zeroCells_size, hzs], by rw [zeroCells_size, hzs], rfl, rfl⟩, hw'.new _⟩
  have hlt0 : ¬ ((k : Int) < 0) := by omega
  have hk48' : ¬ (281474976710656 < (k : Int) * (i.bytes : Int)) := by
    have h3 : (2 : Int) ^ 48 = 281474976710656 := by decide
    rw [h3] at hk48; exact hk48
  have h48' : ¬ (281474976710656 < Builtin.nextslicecap (m + k) cap * i.bytes) := by rw [hp48] at h48; exact h48
  have hneed' : ¬ (9223372036854775807 < (m : Int) + (k : Int)) := by omega
  simp [execOp, resolve, invoke, builtin, Builtin.append_, hx, hy, asInt, asIntOf, run_under hu, run_under hu2, run_size hi, run_info hi, hk64, hlt0, hk48', hcapn, hby, h48', hneed', Question.forced, run_zero hzz, hf1, newRow, q, cap']
  intro h0
  have : Builtin.zeroCells zv.cells k = #[] := Array.eq_empty_of_size_eq_zero (by rw [zeroCells_size, hzs]; exact h0)
  rw [this]; simp

/-- two rows in two blocks do not overlap -/
theorem O.overlapsNo {f : FuncId} {fn : Func} {tR t el sz a oa la ca b ob lb cb : Nat} {csa csb : Array Value} {ela elb : TypeId} {tt : Array TypeId} (hf : P.funcs[f]? = some fn) (hname : (fn.name == "runtime.NumGoroutine") = false)
    (hb : fn.body.isNone = true) (hn : Extern.findNext fn = none) (he : Extern.find fn = some (Extern.SlicesOverlaps.overlaps #[t, t] #[tR])) (ht : sliceOf P t = some (el, sz))
    (hx : ev e x = .slice (some ⟨a, oa, none⟩) la ca) (hy : ev e y = .slice (some ⟨b, ob, none⟩) lb cb) (hab : a ≠ b) (ra : Rd c L a (.cells csa ela (0, 0))) (rb : Rd c L b (.cells csb elb (0, 0))) (hcs : csb.size ≠ 0) :
    Eg P e ⟨d, .call { callee := .value (.func f), args := #[x, y], argTypes := tt }, ty, p, af, g⟩ c L (fun v L' => v = .bool false ∧ L' = L) := by
  intro w hw
  obtain ⟨hu, i, hi, rfl⟩ := slice_parts ht
  have h1 := ra w hw
  have h2 := rb w hw
  refine ⟨.bool false, w, L, .inl (run_ext (args := [.slice (some ⟨a, oa, none⟩) la ca, .slice (some ⟨b, ob, none⟩) lb cb]) hf hname hb hn he (by simp [hx, hy]) ?_), ⟨rfl, rfl⟩, hw⟩
  exact Lib.run_overlaps_apart w t tR el hu i.size (fun w => run_size hi w) ⟨a, oa, none⟩ ⟨b, ob, none⟩ la ca lb cb hab ela elb csa.size csb.size (by simp [World.shape?, h1]) (by simp [World.shape?, h2]) hcs (by simp [World.frozen?, h1]) (by simp [World.frozen?, h1])
end
end Go.X

/- The order of keys. -/
namespace Go.X
open Go.Lib Go.Sort
theorem cb_eq : ∀ (a b : List UInt8), compareBytes a b = 0 ↔ a = b
  | [], [] => by simp [compareBytes]
  | [], _ :: _ => by simp [compareBytes]
  | _ :: _, [] => by simp [compareBytes]
  | x :: a, y :: b => by
    unfold compareBytes
    split
    · rename_i h
      constructor
      · intro h2; simp at h2
      · intro h2; simp only [List.cons.injEq] at h2; rw [h2.1] at h; exact absurd h (UInt8.lt_irrefl y)
    · split
      · rename_i h1 h
        constructor
        · intro h2; simp at h2
        · intro h2; simp only [List.cons.injEq] at h2; rw [h2.1] at h; exact absurd h (UInt8.lt_irrefl y)
      · rename_i h1 h2
        have hxy : x = y := UInt8.le_antisymm (UInt8.not_lt.1 h2) (UInt8.not_lt.1 h1)
        rw [cb_eq a b]; simp [hxy]
theorem cb_swap : ∀ (a b : List UInt8), compareBytes b a = - compareBytes a b
  | [], [] => by simp [compareBytes]
  | [], _ :: _ => by simp [compareBytes]
  | _ :: _, [] => by simp [compareBytes]
  | x :: a, y :: b => by
    unfold compareBytes
    by_cases h1 : x < y
    · have h2 : ¬ y < x := fun h => UInt8.lt_irrefl x (UInt8.lt_trans h1 h)
      simp [h1, h2]
    · by_cases h2 : y < x
      · simp [h1, h2]
      · simp only [h1, h2, if_false]; exact cb_swap a b
theorem cb_trans : ∀ (a b c : List UInt8), compareBytes a b < 0 → compareBytes b c < 0 → compareBytes a c < 0
  | [], [], c, h, _ => by simp [compareBytes] at h
  | [], _ :: _, [], _, h => by simp [compareBytes] at h
  | [], _ :: _, _ :: _, _, _ => by simp [compareBytes]
  | _ :: _, [], _, h, _ => by simp [compareBytes] at h
  | _ :: _, _ :: _, [], _, h => by simp [compareBytes] at h
  | x :: a, y :: b, z :: c, h1, h2 => by
    unfold compareBytes at h1 h2 ⊢
    by_cases hxy : x < y
    · have hxz : x < z := by
        by_cases hyz : y < z
        · exact UInt8.lt_trans hxy hyz
        · by_cases hzy : z < y
          · simp [hyz, hzy] at h2
          · have : y = z := UInt8.le_antisymm (UInt8.not_lt.1 hzy) (UInt8.not_lt.1 hyz)
            rwa [← this]
      simp [hxz]
    · by_cases hyx : y < x
      · simp [hxy, hyx] at h1
      · have hex : x = y := UInt8.le_antisymm (UInt8.not_lt.1 hyx) (UInt8.not_lt.1 hxy)
        subst hex
        simp only [UInt8.lt_irrefl, if_false] at h1
        by_cases hyz : x < z
        · simp [hyz]
        · by_cases hzy : z < x
          · simp [hyz, hzy] at h2
          · simp only [hyz, hzy, if_false] at h2 ⊢
            exact cb_trans a b c h1 h2
theorem Key.cmp_eq {a b : Key} : a.cmp b = 0 ↔ a = b := by
  unfold Key.cmp; rw [cb_eq]
  exact ⟨Key.ext', fun h => by rw [h]⟩
theorem Key.cmp_swap (a b : Key) : b.cmp a = - a.cmp b := cb_swap _ _
theorem Key.cmp_trans {a b c : Key} (h1 : a.cmp b < 0) (h2 : b.cmp c < 0) : a.cmp c < 0 := cb_trans _ _ _ h1 h2
theorem Key.swo : SWO (Go.Proofs.ltOf Key.cmp) := by
  refine ⟨fun x => by simp [Go.Proofs.ltOf, (Key.cmp_eq (a := x) (b := x)).2 rfl], ?_, ?_⟩
  · intro x y z h1 h2
    simp only [Go.Proofs.ltOf, decide_eq_true_eq] at *
    exact Key.cmp_trans h1 h2
  · intro x y z h1 h2
    simp only [Go.Proofs.ltOf, decide_eq_false_iff_not] at *
    intro h3
    have e1 := Key.cmp_swap x y
    have e2 := Key.cmp_swap y z
    by_cases h4 : x.cmp y = 0
    · rw [Key.cmp_eq] at h4; subst h4; exact h2 h3
    · by_cases h5 : y.cmp z = 0
      · rw [Key.cmp_eq] at h5; subst h5; exact h1 h3
      · have h6 : z.cmp x < 0 := Key.cmp_trans (b := y) (by omega) (by omega)
        have e3 := Key.cmp_swap x z
        omega
/-- keys in order, each once -/
def KSorted (l : List Key) : Prop := l.Pairwise fun a b => a.cmp b < 0
end Go.X

namespace Go.X
open Go.Proofs
theorem ud_260 : Tryz.prog.underlying 260 = some (.slice 5) := by kernel_rfl
theorem ud_5 : Tryz.prog.underlying 5 = some (.int .u8) := by kernel_rfl
theorem ud_9 : Tryz.prog.underlying 9 = some (.string) := by kernel_rfl
theorem Key_idx {k : Key} {i : Nat} (h : i < 16) : (Key_enc k)[0 + ((i : Nat) : Int).toNat * 1]? = some (.int .u8 ((k.l.getD i 0).toNat : Int)) := by
  rw [Int.toNat_natCast, Nat.mul_one, Nat.zero_add]
  have h2 : k.l[i]? = some (k.l.getD i 0) := by simp [k.h, h]
  rw [Key_get h2]; rfl
/-- a key's bytes ahead of its first nought -/
def textK (k : Key) : List UInt8 := k.l.takeWhile (fun x => x != 0)
theorem takeWhile_take {l : List UInt8} : ∀ {i : Nat}, i ≤ l.length → (∀ j, j < i → l.getD j 0 ≠ 0) → (i = l.length ∨ l.getD i 0 = 0) → l.takeWhile (fun x => x != 0) = l.take i := by
  induction l with
  | nil => intro i h _ _; simp
  | cons x l ih =>
    intro i h h1 h2
    cases i with
    | zero =>
      simp only [List.length_cons] at h2
      have : x = 0 := by rcases h2 with h2 | h2
                         · omega
                         · simpa using h2
      simp [this]
    | succ i =>
      have hx : x ≠ 0 := by have := h1 0 (by omega); simpa using this
      simp only [List.takeWhile_cons, bne_iff_ne, ne_eq, hx, not_false_eq_true, decide_true, if_true, List.take_succ_cons]
      rw [ih (i := i) (by simpa using h) (fun j hj => by have := h1 (j + 1) (by omega); simpa using this) (by simpa using h2)]
theorem text_eq {k : Key} {i : Nat} (h : i ≤ 16) (h1 : ∀ j, j < i → k.l.getD j 0 ≠ 0) (h2 : i = 16 ∨ k.l.getD i 0 = 0) : textK k = k.l.take i :=
  takeWhile_take (by rw [k.h]; exact h) h1 (by rw [k.h]; exact h2)
theorem Key_take {k : Key} {i : Nat} (h : i ≤ 16) : (Key_enc k).extract 0 (0 + ((i : Nat) : Int).toNat) = ((k.l.take i).map byteV).toArray := by
  rw [Int.toNat_natCast, Nat.zero_add, Key_cells]
  simp [List.map_take]
theorem u8_zero {x : UInt8} (h : ((x.toNat : Nat) : Int) = 0) : x = 0 := by
  have : x.toNat = 0 := by omega
  exact UInt8.toNat_inj.1 this
theorem u8_ne {x : UInt8} (h : ¬ ((x.toNat : Nat) : Int) = 0) : x ≠ 0 := fun e => h (by rw [e]; rfl)

set_option maxRecDepth 100000 in
set_option maxHeartbeats 2000000 in
theorem C_key_text {c : Cx} {L : List Pt} {k : Key} : Fn Tryz.prog 175 #[.agg (Key_enc k)] c L (fun v L' => v = .string ⟨(textK k).toArray⟩ ∧ L' = L) := by
  refine Fn.enter Tryz.func175 rfl 17 rfl rfl (fun R hR => ?_)
  refine Cd.seq (fun K1 hK1 => ?_)
  refine Cd.region [0, 1] rfl ?_
  refine Seq.op at0 rfl (Op.new rfl (O.box (v := .agg _) rfl (cs := (Key_enc k)) rfl) ?_)
  intro b2 hb2
  refine Seq.rd0 at1 rfl rfl (O.assign (v := .string _) rfl) ?_
  refine Seq.nil ?_
  refine hK1 ?_
  refine Cd.seq (fun K3 hK3 => ?_)
  refine Cd.region [0] rfl ?_
  refine Seq.rd0 at0 rfl rfl (O.assign (v := .int .i64 _) rfl) ?_
  refine Seq.nil ?_
  refine hK3 ?_
  refine Cd.seq (fun K4 hK4 => ?_)
  refine Cd.block ?_
  refine Cd.loop (fun m5 e6 L7 => ∃ i : Nat, m5 = 16 - i ∧ e6 1 = .pointer (some ⟨b2, 0, none⟩) ∧ e6 2 = .string ⟨#[]⟩ ∧ e6 3 = .int .i64 (i : Int) ∧ L7 = (b2, .cells (Key_enc k) 45 (0, 0)) :: L ∧ i ≤ 16 ∧ (∀ j, j < i → k.l.getD j 0 ≠ 0)) _ ⟨0, rfl, rfl, rfl, rfl, rfl, Nat.zero_le _, fun j hj => absurd hj (Nat.not_lt_zero j)⟩ ?_
  rintro _ e6 _ ⟨i, rfl, s8, s9, s10, rfl, hi, hz⟩ K11 hK11
  refine Cd.seq (fun K12 hK12 => ?_)
  refine Cd.seq (fun K13 hK13 => ?_)
  refine Cd.region [0, 1, 2, 3, 4, 5, 6, 7] rfl ?_
  refine Seq.rd0 at0 rfl rfl (O.move (v := .int .i64 _) (by exact s10)) ?_
  refine Seq.rd0 at1 rfl rfl (O.lss rfl rfl) ?_
  refine Seq.rd0 at2 rfl rfl (O.move (v := .bool _) rfl) ?_
  by_cases t14 : (i : Int) < 16
  · rw [decide_eq_true t14]
    refine Seq.rd0 at3 rfl rfl (O.move (v := .int .i64 _) (by exact s10)) ?_
    refine Seq.rd0 at4 rfl rfl (O.indexA ar_45 (by exact s8) rfl (by omega) (by omega)) ?_
    refine Seq.rd1 at5 rfl rfl (O.load kd_5 rfl (Key_idx (by omega))) Rd.head ?_
    refine Seq.rd0 at6 rfl rfl (O.neI rfl rfl) ?_
    refine Seq.rd0 at7 rfl rfl (O.pickT (v := .bool _) rfl rfl) ?_
    refine Seq.nil ?_
    refine hK13 ?_
    refine Cd.ifn (((k.l.getD i 0).toNat : Int) = 0) rfl (fun t15 => ?_) (fun t15 => ?_)
    · skip
      refine Cd.skip ?_
      refine hK12 ?_
      refine Cd.block ?_
      refine Cd.region [0, 1, 2] rfl ?_
      refine Seq.rd0 at0 rfl rfl (O.move (v := .int .i64 _) (by exact s10)) ?_
      refine Seq.rd0 at1 rfl rfl (O.add rfl rfl (by omega) (by omega)) ?_
      refine Seq.rd0 at2 rfl rfl (O.assign (v := .int .i64 _) rfl) ?_
      refine Seq.nil ?_
      exact hK11 _ (by omega) ⟨i + 1, rfl, (by exact s8), (by exact s9), rfl, rfl, by omega, fun j hj => by
        rcases Nat.lt_or_ge j i with h | h
        · exact hz j h
        · rw [show j = i by omega]; exact u8_ne (by assumption)⟩
    · skip
      refine Cd.exit ?_
      refine hK4 ?_
      refine Cd.seq (fun K16 hK16 => ?_)
      refine Cd.region [0, 1, 2, 3] rfl ?_
      refine Seq.rd0 at0 rfl rfl (O.move (v := .int .i64 _) (by exact s10)) ?_
      refine Seq.rd0 at1 rfl rfl (O.sliceAH ar_45 (by exact s8) rfl (by omega) (by omega)) ?_
      refine Seq.rd1 at2 rfl rfl (O.bytesToStr ud_260 ud_5 ud_9 rfl (l := k.l.take i) (by rw [Int.toNat_natCast, Key_size]; omega) (Key_take (by omega))) Rd.head ?_
      refine Seq.rd0 at3 rfl rfl (O.assign (v := .string _) rfl) ?_
      refine Seq.nil ?_
      refine hK16 ?_
      refine Cd.ret ?_
      have ht := text_eq hi hz (by first | exact .inr (u8_zero (by assumption)) | exact .inl (by omega))
      exact hR _ _ (Res.one (v := .string _) rfl rfl) ⟨by rw [ht], rfl⟩ (.cons _ (.refl _))
  · rw [decide_eq_false t14]
    refine Seq.pass at3 rfl rfl ?_
    refine Seq.pass at4 rfl rfl ?_
    refine Seq.pass at5 rfl rfl ?_
    refine Seq.pass at6 rfl rfl ?_
    refine Seq.rd0 at7 rfl rfl (O.pickF (v := .bool _) rfl rfl) ?_
    refine Seq.nil ?_
    refine hK13 ?_
    refine Cd.condF rfl ?_
    refine Cd.exit ?_
    refine hK4 ?_
    refine Cd.seq (fun K17 hK17 => ?_)
    refine Cd.region [0, 1, 2, 3] rfl ?_
    refine Seq.rd0 at0 rfl rfl (O.move (v := .int .i64 _) (by exact s10)) ?_
    refine Seq.rd0 at1 rfl rfl (O.sliceAH ar_45 (by exact s8) rfl (by omega) (by omega)) ?_
    refine Seq.rd1 at2 rfl rfl (O.bytesToStr ud_260 ud_5 ud_9 rfl (l := k.l.take i) (by rw [Int.toNat_natCast, Key_size]; omega) (Key_take (by omega))) Rd.head ?_
    refine Seq.rd0 at3 rfl rfl (O.assign (v := .string _) rfl) ?_
    refine Seq.nil ?_
    refine hK17 ?_
    refine Cd.ret ?_
    have ht := text_eq hi hz (by first | exact .inr (u8_zero (by assumption)) | exact .inl (by omega))
    exact hR _ _ (Res.one (v := .string _) rfl rfl) ⟨by rw [ht], rfl⟩ (.cons _ (.refl _))

end Go.X

namespace Go.X
open Go.Proofs
theorem hb_251 : hasBody Tryz.prog 251 = true := by kernel_rfl
theorem x_index {e : Env} {d : Option Tmp} {ty : TypeId} {p : String} {af : Array Edge} {g : Option (Nat × Bool)} {c : Cx} {L : List Pt} {x y : Operand} {tt : Array TypeId} {l : List UInt8}
    (hx : ev e x = .string ⟨l.toArray⟩) (hy : ev e y = .int .u8 0) :
    Eg Tryz.prog e ⟨d, .call { callee := .value (.func 276), args := #[x, y], argTypes := tt }, ty, p, af, g⟩ c L (fun v L' => v = .int .i64 (Lib.indexByte l 0) ∧ L' = L) := fun w hw =>
  ⟨_, w, L, .inl (run_ext (args := [.string ⟨l.toArray⟩, .int .u8 0]) Tryz.func276 (by kernel_rfl) (by kernel_rfl) (by kernel_rfl) (r := Extern.BytealgIndexByte.indexByte) (by kernel_rfl) (by simp [hx, hy]) (v := .int .i64 (Lib.indexByte l 0)) (by
    have := Lib.run_indexByteString (P := Tryz.prog) ⟨l.toArray⟩ 0 w
    simpa using this)), ⟨rfl, rfl⟩, hw⟩
theorem ix_ge : ∀ (l : List UInt8), 0 ≤ Lib.indexByte l 0 ↔ (0 : UInt8) ∈ l
  | [] => by simp [Lib.indexByte]
  | x :: l => by
    have ih := ix_ge l
    have hg := Lib.indexByte_ge l 0
    unfold Lib.indexByte
    by_cases hx : x = 0
    · subst hx; simp
    · have h1 : (x == 0) = false := by simpa using hx
      simp only [h1, Bool.false_eq_true, if_false, List.mem_cons]
      by_cases hm : Lib.indexByte l 0 = -1
      · simp only [hm, beq_self_eq_true, if_true]
        constructor
        · intro h; omega
        · rintro (h | h)
          · exact absurd h.symm hx
          · have := ih.2 h; omega
      · have h2 : (Lib.indexByte l 0 == -1) = false := by simpa using hm
        simp only [h2, Bool.false_eq_true, if_false]
        constructor
        · intro h; exact .inr (ih.1 (by omega))
        · rintro (h | h)
          · exact absurd h.symm hx
          · have := ih.2 h; omega

set_option maxRecDepth 100000 in
set_option maxHeartbeats 2000000 in
theorem C_ilite {c : Cx} {L : List Pt} {l : List UInt8} : Fn Tryz.prog 251 #[.string ⟨l.toArray⟩, .int .u8 0] c L (fun v L' => v = .int .i64 (Lib.indexByte l 0) ∧ L' = L) := by
  refine Fn.enter Tryz.func251 rfl 8 rfl rfl (fun R hR => ?_)
  refine Cd.seq (fun K1 hK1 => ?_)
  refine Cd.region [0] rfl ?_
  refine Seq.rd0 at0 rfl rfl (O.assign (v := .int .i64 _) rfl) ?_
  refine Seq.nil ?_
  refine hK1 ?_
  refine Cd.seq (fun K2 hK2 => ?_)
  refine Cd.region [0, 1, 2, 3] rfl ?_
  refine Seq.rd0 at0 rfl rfl (O.move (v := .string _) rfl) ?_
  refine Seq.rd0 at1 rfl rfl (O.move (v := .int .u8 _) rfl) ?_
  refine Seq.op at2 rfl (Op.gen rfl (x_index rfl rfl) ?_)
  rintro _ _ ⟨rfl, rfl⟩
  refine Seq.rd0 at3 rfl rfl (O.assign (v := .int .i64 _) rfl) ?_
  refine Seq.nil ?_
  refine hK2 ?_
  refine Cd.ret ?_
  exact hR _ _ (Res.one (v := .int .i64 _) rfl rfl) ⟨rfl, rfl⟩ (.refl _)

set_option maxRecDepth 100000 in
set_option maxHeartbeats 2000000 in
theorem C_indexByte {c : Cx} {L : List Pt} {l : List UInt8} : Fn Tryz.prog 225 #[.string ⟨l.toArray⟩, .int .u8 0] c L (fun v L' => v = .int .i64 (Lib.indexByte l 0) ∧ L' = L) := by
  refine Fn.enter Tryz.func225 rfl 8 rfl rfl (fun R hR => ?_)
  refine Cd.seq (fun K1 hK1 => ?_)
  refine Cd.region [0] rfl ?_
  refine Seq.rd0 at0 rfl rfl (O.assign (v := .int .i64 _) rfl) ?_
  refine Seq.nil ?_
  refine hK1 ?_
  refine Cd.seq (fun K2 hK2 => ?_)
  refine Cd.region [0, 1, 2, 3] rfl ?_
  refine Seq.rd0 at0 rfl rfl (O.move (v := .string _) rfl) ?_
  refine Seq.rd0 at1 rfl rfl (O.move (v := .int .u8 _) rfl) ?_
  refine Seq.op at2 rfl (Op.callF rfl hb_251 C_ilite rfl ?_)
  rintro _ _ ⟨rfl, rfl⟩
  refine Seq.rd0 at3 rfl rfl (O.assign (v := .int .i64 _) rfl) ?_
  refine Seq.nil ?_
  refine hK2 ?_
  refine Cd.ret ?_
  exact hR _ _ (Res.one (v := .int .i64 _) rfl rfl) ⟨rfl, rfl⟩ (.refl _)

/-- a text as a key -/
def padK (l : List UInt8) : Key := if h : l.length ≤ 16 then ⟨l ++ List.replicate (16 - l.length) 0, by simp; omega⟩ else .zero
def okT (l : List UInt8) : Bool := decide (l ≠ [] ∧ l.length ≤ 16 ∧ (0 : UInt8) ∉ l)
def ofK (l : List UInt8) : Key := if okT l then padK l else .zero
def ofE (l : List UInt8) : Int := if okT l then 0 else 1
theorem padK_cells {l : List UInt8} (h : l.length ≤ 16) : putL (Key_enc .zero) 0 (((⟨l.toArray⟩ : ByteArray).extract 0 (Nat.min (⟨l.toArray⟩ : ByteArray).size 16)).data.map fun b => (Value.int .u8 b.toNat)).toList = Key_enc (padK l) := by
  have hs : (⟨l.toArray⟩ : ByteArray).size = l.length := by simp [ByteArray.size]
  have hx : ((⟨l.toArray⟩ : ByteArray).extract 0 (Nat.min (⟨l.toArray⟩ : ByteArray).size 16)).data.toList = l := by
    rw [hs, show Nat.min l.length 16 = l.length from Nat.min_eq_left h]
    simp [ByteArray.data_extract]
  have h1 : (((⟨l.toArray⟩ : ByteArray).extract 0 (Nat.min (⟨l.toArray⟩ : ByteArray).size 16)).data.map fun b => (Value.int .u8 b.toNat)).toList = l.map byteV := by
    rw [Array.toList_map, hx]; rfl
  rw [h1]
  apply Array.ext'
  have := putL_mid (l.map byteV) [] ((List.replicate l.length 0).map byteV) ((List.replicate (16 - l.length) 0).map byteV) (Key_enc .zero) (by
    rw [Key_cells, List.nil_append, ← List.map_append, List.replicate_append_replicate]
    rw [show l.length + (16 - l.length) = 16 by omega]
    rfl) (by simp)
  simp only [List.length_nil, List.nil_append] at this
  rw [this, Key_cells]
  unfold padK
  rw [dif_pos h]
  simp

end Go.X

namespace Go.X
open Go.Proofs
theorem ds_9 : isDesc Tryz.prog 9 = 3 := by kernel_rfl
theorem hb_225 : hasBody Tryz.prog 225 = true := by kernel_rfl
theorem sl_260 : sliceOf Tryz.prog 260 = some (5, 1) := by kernel_rfl
theorem bytes_size {l : List UInt8} : (⟨l.toArray⟩ : ByteArray).size = l.length := by simp [ByteArray.size]
theorem bytes_nil {l : List UInt8} : (⟨l.toArray⟩ : ByteArray) = ⟨#[]⟩ ↔ l = [] := by
  constructor
  · intro h; have := congrArg ByteArray.size h; rw [bytes_size] at this; exact List.length_eq_zero_iff.1 this
  · rintro rfl; rfl
theorem bad1 {l : List UInt8} (h : (⟨l.toArray⟩ : ByteArray) = ⟨#[]⟩) : okT l = false := by
  rw [bytes_nil] at h; subst h; rfl
theorem bad2 {l : List UInt8} (h : (16 : Int) < ((⟨l.toArray⟩ : ByteArray).size : Int)) : okT l = false := by
  rw [bytes_size] at h; unfold okT; rw [decide_eq_false_iff_not]; rintro ⟨_, h2, _⟩; omega
theorem bad3 {l : List UInt8} (h : (0 : Int) ≤ Lib.indexByte l 0) : okT l = false := by
  rw [ix_ge] at h; unfold okT; rw [decide_eq_false_iff_not]; rintro ⟨_, _, h3⟩; exact h3 h
theorem okT_of {l : List UInt8} (h1 : ¬ (⟨l.toArray⟩ : ByteArray) = ⟨#[]⟩) (h2 : ¬ (16 : Int) < ((⟨l.toArray⟩ : ByteArray).size : Int)) (h3 : ¬ (0 : Int) ≤ Lib.indexByte l 0) : okT l = true := by
  rw [bytes_nil] at h1; rw [bytes_size] at h2; rw [ix_ge] at h3; unfold okT; rw [decide_eq_true_eq]; exact ⟨h1, by omega, h3⟩
theorem of_bad {l : List UInt8} (h : okT l = false) : ofK l = .zero ∧ ofE l = 1 := by unfold ofK ofE; simp [h]
theorem of_ok {l : List UInt8} (h : okT l = true) : ofK l = padK l ∧ ofE l = 0 := by unfold ofK ofE; simp [h]
theorem okT_len {l : List UInt8} (h : okT l = true) : l.length ≤ 16 := by unfold okT at h; rw [decide_eq_true_eq] at h; exact h.2.1
theorem str_one {l : List UInt8} {m : Nat} : ∀ u ∈ (((⟨l.toArray⟩ : ByteArray).extract 0 m).data.map fun b => (Value.int .u8 b.toNat)).toList, Value.oneCell' u = true := by
  intro u hu; rw [Array.toList_map] at hu; obtain ⟨a, _, rfl⟩ := List.mem_map.1 hu; rfl
theorem str_room {l : List UInt8} (h : l.length ≤ 16) : 0 + (((⟨l.toArray⟩ : ByteArray).extract 0 (Nat.min (⟨l.toArray⟩ : ByteArray).size 16)).data.map fun b => (Value.int .u8 b.toNat)).size ≤ (Key_enc Key.zero).size := by
  have h1 : ((⟨l.toArray⟩ : ByteArray).extract 0 (Nat.min (⟨l.toArray⟩ : ByteArray).size 16)).data.size ≤ 16 := by
    rw [bytes_size, show Nat.min l.length 16 = l.length from Nat.min_eq_left h]
    simp [ByteArray.data_extract]; omega
  rw [Nat.zero_add, Array.size_map, Key_size]; exact h1

set_option maxRecDepth 100000 in
set_option maxHeartbeats 2000000 in
theorem C_key_Of {c : Cx} {L : List Pt} {l : List UInt8} : Fn Tryz.prog 174 #[.string ⟨l.toArray⟩] c L (fun v L' => v = .tuple #[.agg (Key_enc (ofK l)), .int .i64 (ofE l)] ∧ L' = L) := by
  refine Fn.enter Tryz.func174 rfl 22 rfl rfl (fun R hR => ?_)
  refine Cd.seq (fun K1 hK1 => ?_)
  refine Cd.region [0, 1] rfl ?_
  refine Seq.op at0 rfl (Op.new rfl (O.alloc zo_45 (cs := (Key_enc Key.zero)) rfl) ?_)
  intro b2 hb2
  refine Seq.rd0 at1 rfl rfl (O.assign (v := .int .i64 _) rfl) ?_
  refine Seq.nil ?_
  refine hK1 ?_
  refine Cd.seq (fun K3 hK3 => ?_)
  refine Cd.region [0] rfl ?_
  refine Seq.op at0 rfl (Op.new rfl (O.alloc zo_45 (cs := (Key_enc Key.zero)) rfl) ?_)
  intro b4 hb4
  refine Seq.nil ?_
  refine hK3 ?_
  refine Cd.seq (fun K5 hK5 => ?_)
  refine Cd.seq (fun K6 hK6 => ?_)
  refine Cd.region [0, 1, 2, 3, 4, 5, 6, 7, 8, 9, 10, 11] rfl ?_
  refine Seq.rd0 at0 rfl rfl (O.move (v := .string _) rfl) ?_
  refine Seq.rd0 at1 rfl rfl (O.eqS rfl rfl) ?_
  refine Seq.rd0 at2 rfl rfl (O.move (v := .bool _) rfl) ?_
  by_cases t7 : (⟨l.toArray⟩ : ByteArray) = ⟨#[]⟩
  · rw [decide_eq_true t7]
    refine Seq.pass at3 rfl rfl ?_
    refine Seq.pass at4 rfl rfl ?_
    refine Seq.pass at5 rfl rfl ?_
    refine Seq.rd0 at6 rfl rfl (O.pickT (v := .bool _) rfl rfl) ?_
    refine Seq.rd0 at7 rfl rfl (O.move (v := .bool _) rfl) ?_
    refine Seq.pass at8 rfl rfl ?_
    refine Seq.pass at9 rfl rfl ?_
    refine Seq.pass at10 rfl rfl ?_
    refine Seq.rd0 at11 rfl rfl (O.pickT (v := .bool _) rfl rfl) ?_
    refine Seq.nil ?_
    refine hK6 ?_
    refine Cd.condT rfl ?_
    refine Cd.seq (fun K8 hK8 => ?_)
    refine Cd.region [0, 1, 2] rfl ?_
    refine Seq.rd1 at0 rfl rfl (O.loadA kd_45 rfl (Nat.le_of_ble_eq_true rfl) (Key_all _)) Rd.head ?_
    refine Seq.op at1 rfl (Op.set1 rfl (O.store kd_45 rfl (v := .agg _) rfl (Key_size _) (Key_room (Key_size _)) (Key_one _) (Key_put _ (Key_size _))) ?_)
    refine Seq.rd0 at2 rfl rfl (O.assign (v := .int .i64 _) rfl) ?_
    refine Seq.nil ?_
    refine hK8 ?_
    refine Cd.ret ?_
    exact hR _ _ (Res.cell2 (v := .int .i64 _) rfl kd_45 rfl rfl Rd.head.cons rfl) ⟨by have hb : okT l = false := (by first | exact bad1 (by assumption) | exact bad2 (by assumption) | exact bad3 (by assumption)); rw [(of_bad hb).1, (of_bad hb).2], rfl⟩ (.cons _ (.cons _ (.refl _)))
  · rw [decide_eq_false t7]
    refine Seq.rd0 at3 rfl rfl (O.move (v := .string _) rfl) ?_
    refine Seq.rd0 at4 rfl rfl (O.lenT ds_9 rfl) ?_
    refine Seq.rd0 at5 rfl rfl (O.gtr rfl rfl) ?_
    refine Seq.rd0 at6 rfl rfl (O.pickF (v := .bool _) rfl rfl) ?_
    refine Seq.rd0 at7 rfl rfl (O.move (v := .bool _) rfl) ?_
    by_cases t9 : (16 : Int) < ((⟨l.toArray⟩ : ByteArray).size : Int)
    · rw [decide_eq_true t9]
      refine Seq.pass at8 rfl rfl ?_
      refine Seq.pass at9 rfl rfl ?_
      refine Seq.pass at10 rfl rfl ?_
      refine Seq.rd0 at11 rfl rfl (O.pickT (v := .bool _) rfl rfl) ?_
      refine Seq.nil ?_
      refine hK6 ?_
      refine Cd.condT rfl ?_
      refine Cd.seq (fun K10 hK10 => ?_)
      refine Cd.region [0, 1, 2] rfl ?_
      refine Seq.rd1 at0 rfl rfl (O.loadA kd_45 rfl (Nat.le_of_ble_eq_true rfl) (Key_all _)) Rd.head ?_
      refine Seq.op at1 rfl (Op.set1 rfl (O.store kd_45 rfl (v := .agg _) rfl (Key_size _) (Key_room (Key_size _)) (Key_one _) (Key_put _ (Key_size _))) ?_)
      refine Seq.rd0 at2 rfl rfl (O.assign (v := .int .i64 _) rfl) ?_
      refine Seq.nil ?_
      refine hK10 ?_
      refine Cd.ret ?_
      exact hR _ _ (Res.cell2 (v := .int .i64 _) rfl kd_45 rfl rfl Rd.head.cons rfl) ⟨by have hb : okT l = false := (by first | exact bad1 (by assumption) | exact bad2 (by assumption) | exact bad3 (by assumption)); rw [(of_bad hb).1, (of_bad hb).2], rfl⟩ (.cons _ (.cons _ (.refl _)))
    · rw [decide_eq_false t9]
      refine Seq.rd0 at8 rfl rfl (O.move (v := .string _) rfl) ?_
      refine Seq.op at9 rfl (Op.callF rfl hb_225 C_indexByte rfl ?_)
      rintro _ _ ⟨rfl, rfl⟩
      refine Seq.rd0 at10 rfl rfl (O.geq rfl rfl) ?_
      refine Seq.rd0 at11 rfl rfl (O.pickF (v := .bool _) rfl rfl) ?_
      refine Seq.nil ?_
      refine hK6 ?_
      refine Cd.if ((0 : Int) ≤ (Lib.indexByte l 0)) rfl (fun t11 => ?_) (fun t11 => ?_)
      · skip
        refine Cd.seq (fun K12 hK12 => ?_)
        refine Cd.region [0, 1, 2] rfl ?_
        refine Seq.rd1 at0 rfl rfl (O.loadA kd_45 rfl (Nat.le_of_ble_eq_true rfl) (Key_all _)) Rd.head ?_
        refine Seq.op at1 rfl (Op.set1 rfl (O.store kd_45 rfl (v := .agg _) rfl (Key_size _) (Key_room (Key_size _)) (Key_one _) (Key_put _ (Key_size _))) ?_)
        refine Seq.rd0 at2 rfl rfl (O.assign (v := .int .i64 _) rfl) ?_
        refine Seq.nil ?_
        refine hK12 ?_
        refine Cd.ret ?_
        exact hR _ _ (Res.cell2 (v := .int .i64 _) rfl kd_45 rfl rfl Rd.head.cons rfl) ⟨by have hb : okT l = false := (by first | exact bad1 (by assumption) | exact bad2 (by assumption) | exact bad3 (by assumption)); rw [(of_bad hb).1, (of_bad hb).2], rfl⟩ (.cons _ (.cons _ (.refl _)))
      · skip
        refine Cd.skip ?_
        refine hK5 ?_
        refine Cd.seq (fun K13 hK13 => ?_)
        refine Cd.region [0, 1, 2] rfl ?_
        have hok := okT_of (l := l) (by assumption) (by assumption) (by assumption)
        refine Seq.rd0 at0 rfl rfl (O.sliceA ar_45 rfl) ?_
        refine Seq.rd0 at1 rfl rfl (O.move (v := .string _) rfl) ?_
        refine Seq.op at2 rfl (Op.gen rfl (O.copy sl_260 rfl (by exact SrcR.str) str_one (str_room (okT_len hok)) (padK_cells (okT_len hok))) ?_)
        rintro _ _ ⟨rfl, rfl⟩
        refine Seq.nil ?_
        refine hK13 ?_
        refine Cd.seq (fun K14 hK14 => ?_)
        refine Cd.region [0, 1, 2] rfl ?_
        refine Seq.rd1 at0 rfl rfl (O.loadA kd_45 rfl (Nat.le_of_ble_eq_true rfl) (Key_all _)) Rd.head ?_
        refine Seq.op at1 rfl (Op.set1 rfl (O.store kd_45 rfl (v := .agg _) rfl (Key_size _) (Key_room (Key_size _)) (Key_one _) (Key_put _ (Key_size _))) ?_)
        refine Seq.rd0 at2 rfl rfl (O.assign (v := .int .i64 _) rfl) ?_
        refine Seq.nil ?_
        refine hK14 ?_
        refine Cd.ret ?_
        exact hR _ _ (Res.cell2 (v := .int .i64 _) rfl kd_45 rfl rfl Rd.head.cons rfl) ⟨by rw [(of_ok hok).1, (of_ok hok).2], rfl⟩ (.cons _ (.cons _ (.refl _)))

end Go.X

/- The engine, part 11: the kit's contract of slices.SortFunc, at owned rows. -/
namespace Go.X
open Go.Sort Go.Proofs
section
variable {P : Program} {c : Cx} {L : List Pt}

theorem heap_ext {w w' : World} (h1 : w'.heap = w.heap) (h2 : w'.tape = w.tape) (h3 : w'.drawn = w.drawn) (h4 : w'.os = w.os) (h5 : w'.output = w.output) : w' = w := by
  cases w; cases w'; simp_all
theorem Mod.grow {w w' : World} (h : Mod (fun _ => False) w w') : ∃ q os', w' = grow (w.drewN q) os' := by
  refine ⟨w'.drawn - w.drawn, w'.heap.extract w.heap.size w'.heap.size, heap_ext ?_ h.tape ?_ h.os h.output⟩
  · show w'.heap = w.heap ++ w'.heap.extract w.heap.size w'.heap.size
    apply Array.ext_getElem?
    intro i
    by_cases hi : i < w.heap.size
    · rw [Array.getElem?_append_left hi]
      exact h.block i hi (fun f => f)
    · rw [Array.getElem?_append_right (by omega)]
      by_cases hi2 : i < w'.heap.size
      · have := h.size
        simp [hi2, show i - w.heap.size < w'.heap.size - w.heap.size by omega, show w.heap.size + (i - w.heap.size) = i by omega]
      · rw [Array.getElem?_eq_none (by omega), Array.getElem?_eq_none (by simp; omega)]
  · show w'.drawn = w.drawn + (w'.drawn - w.drawn)
    have := h.drawn
    omega

theorem St.grow {w : World} (h : St c L w) (os : Array Obj) : St c L (Sort.grow w os) := by
  have hget : ∀ k, k < w.heap.size → (Sort.grow w os).heap[k]? = w.heap[k]? := fun k hk => by
    show (w.heap ++ os)[k]? = _
    rw [Array.getElem?_append_left hk]
  refine ⟨⟨h.mod.os, h.mod.tape, h.mod.output, h.mod.drawn, ?_, ?_⟩, h.nd, fun p hp => (hget _ (h.lt hp)).trans (h.look p hp), h.own⟩
  · show _ ≤ (w.heap ++ os).size
    rw [Array.size_append]; have := h.mod.size; omega
  · intro k hk hf
    rw [hget k (Nat.lt_of_lt_of_le hk h.mod.size)]
    exact h.mod.block k hk hf

variable {α : Type} [Inhabited α] {enc : α → Array Value} {k : Nat}
theorem flatK_rows (hs : ∀ x, (enc x).size = k) (d : Array α) : flatK (fun x => (enc x).toList) k d = rows enc d.toList := by
  apply Array.ext_getElem?
  intro t
  by_cases ht : t < d.size * k
  · have hk0 : 0 < k := by
      rcases Nat.eq_zero_or_pos k with h | h
      · subst h; omega
      · exact h
    have hq : t / k < d.size := Nat.div_lt_of_lt_mul (by rwa [Nat.mul_comm])
    have hg := get_flatK (fun x => (enc x).toList) k d t ht
    have hr := rows_get hs (l := d.toList) (i := t / k) (x := d[t / k]) (sp := #[]) (by simp [hq]) (t % k) (Nat.mod_lt _ hk0)
    rw [Nat.div_add_mod' t k, Array.append_empty] at hr
    rw [hr]
    have h1 : t < (flatK (fun x => (enc x).toList) k d).size := by simpa using ht
    rw [getElem!_pos _ t h1, getElem!_pos d _ hq] at hg
    have h2 : t % k < (enc d[t / k]).toList.length := by simp only [Array.length_toList, hs]; exact Nat.mod_lt _ hk0
    rw [getElem!_pos _ (t % k) h2] at hg
    rw [Array.getElem?_eq_getElem h1, hg]
    simp at h2
    simp [h2]
  · rw [Array.getElem?_eq_none (by simpa using Nat.not_lt.1 ht), Array.getElem?_eq_none (by rw [rows_size hs]; simpa using Nat.not_lt.1 ht)]

theorem mapBlock_blk {w : World} {b : Nat} {F0 F sp : Array Value} {el : TypeId} {fz : Nat × Nat} (hb : w.heap[b]? = some (.cells (F0 ++ sp) el fz)) (hs : F0.size = F.size) :
    mapBlock w b (putCells id 0 F) = setBlk w b (.cells (F ++ sp) el fz) := by
  have hlt := lt_of_get hb
  have hput : putCells id 0 F (F0 ++ sp) = F ++ sp := by
    apply Array.ext_getElem?
    intro i
    simp only [putCells, Array.getElem?_mapIdx]
    by_cases hi : i < F.size
    · rw [Array.getElem?_append_left (by omega), Array.getElem?_append_left hi]
      simp [hi, show i < F0.size by omega]
    · rw [Array.getElem?_append_right (by omega), Array.getElem?_append_right (by omega), hs]
      cases hsp : sp[i - F.size]? <;> simp [hi]
  unfold mapBlock setBlk
  congr 1
  apply Array.ext_getElem?
  intro i
  rw [Array.getElem?_modify]
  by_cases hi : b = i
  · subst hi
    simp only [if_true, hb, Option.map_some, onCells, hput]
    simp [hlt]
  · rw [if_neg hi, Array.getElem?_setIfInBounds_ne hi]

theorem St.sorted {w : World} {b : Nat} {xs ys : List α} {sp : Array Value} {el : TypeId} (hs : ∀ x, (enc x).size = k) (h : St c ((b, .cells (rows enc xs ++ sp) el (0, 0)) :: L) w) (hl : ys.length = xs.length) (m : Nat) (os : Array Obj) :
    St c ((b, .cells (rows enc ys ++ sp) el (0, 0)) :: L) (sortWorldK (fun x => (enc x).toList) k w b 0 m ys.toArray os) := by
  unfold sortWorldK putRowK putRow
  rw [flatK_rows hs]
  have h1 : St c ((b, .cells (rows enc xs ++ sp) el (0, 0)) :: L) (Sort.ahead w m) := h.drew _ (Nat.le_add_right _ _)
  have h2 := h1.look _ (List.mem_cons_self)
  rw [mapBlock_blk (F0 := rows enc xs) (sp := sp) h2 (by rw [rows_size hs, rows_size hs]; simp [hl])]
  exact St.grow (St.set (A := []) h1) os

theorem holdsK_of {w : World} {b : Nat} {xs : List α} {sp : Array Value} {el : TypeId} (hs : ∀ x, (enc x).size = k) (h : w.heap[b]? = some (.cells (rows enc xs ++ sp) el (0, 0))) : HoldsK (fun x => (enc x).toList) k w b 0 xs.toArray := by
  unfold HoldsK Holds
  intro j hj
  rw [flatK_rows hs] at hj ⊢
  simp only [Nat.zero_add]
  refine ⟨?_, by simp [World.frozen?, h]⟩
  rw [cell_get h, Array.getElem?_append_left hj]
  simp only [id]
  rw [getElem!_pos _ j hj, Array.getElem?_eq_getElem hj]
end
end Go.X

/- The engine, part 12: slices.SortFunc. -/
namespace Go.X
open Go.Sort Go.Proofs Go.Shelf Go.RowKit Go.Lib
section
variable {P : Program} {c : Cx} {L : List Pt} {α : Type} [Inhabited α] {enc : α → Array Value} {k : Nat} {ρ : Ren}
theorem cmpLays_of {g : Nat} {cf : α → α → Int} (h : ∀ (c : Cx) (x y : α), Fn P g #[.agg (enc x), .agg (enc y)] c [] (fun v L' => v = .int .i64 (cf x y) ∧ L' = [])) (b size : Nat) (w : World) :
    CmpLays P g #[] (fun x => (enc x).toList) k cf b 0 size w := by
  intro m os dk _ x y
  have h1 := h ⟨sortWorldK (fun x => (enc x).toList) k w b 0 m dk os, fun _ => False⟩ x y _ ⟨Mod.refl _ _, by simp, by simp, by simp⟩
  simp only [Array.append_empty]
  refine Calls.mono h1 ?_
  rintro e w' ⟨v, rfl, L', ⟨rfl, rfl⟩, hst⟩
  exact ⟨rfl, hst.mod.grow⟩

theorem Fn.sortK (Lp : SlLaysF0.n6 P ρ) (aE : ∀ w, (isAgg (ρ.t 24)).run P w = .ok true w) (zE : ∀ w, (Go.sizeOf (ρ.t 24)).run P w = .ok k w) (hs : ∀ x, (enc x).size = k) (h1 : ∀ x, ∀ v ∈ (enc x).toList, Value.oneCell' v = true)
    {cf : α → α → Int} (hO : SWO (ltOf cf)) {g : Nat} (eg : hasBody P g = true) (hcmp : ∀ (c : Cx) (x y : α), Fn P g #[.agg (enc x), .agg (enc y)] c [] (fun v L' => v = .int .i64 (cf x y) ∧ L' = []))
    {b cap : Nat} {xs : List α} {sp : Array Value} {el : TypeId} {R : List Pt} (hsz : xs.length < 4611686018427387904) :
    Fn P (ρ.f 6) #[.slice (some ⟨b, 0, none⟩) xs.length cap, .func (.func g) #[] #[]] c ((b, .cells (rows enc xs ++ sp) el (0, 0)) :: R)
      (fun v L' => v = .tuple #[] ∧ ∃ ys : List α, ys.Perm xs ∧ ys.Pairwise (fun x y => ¬ cf y x < 0) ∧ L' = (b, .cells (rows enc ys ++ sp) el (0, 0)) :: R) := by
  intro w hw
  have hb := hw.look _ (List.mem_cons_self)
  have hcon := AnyQ.slices_SortFunc Lp k aE zE (fun x => (enc x).toList) (fun x => by simp [hs]) h1 cf hO g #[] b 0 cap xs.toArray w (run_callFunc eg) (cmpLays_of hcmp b _ w) (holdsK_of hs hb) (lt_of_get hb) (by simpa using hsz)
  simp only [List.size_toArray] at hcon
  refine Calls.mono hcon ?_
  rintro e w' ⟨rfl, d', n, os, hp, hsort, rfl⟩
  obtain ⟨hp1, _, hp3⟩ := hp
  simp only [List.size_toArray] at hp1
  have hperm : d'.toList.Perm xs := by
    have e1 : d'.extract 0 xs.length = d' := by rw [← hp1]; simp
    have e2 : xs.toArray.extract 0 xs.length = xs.toArray := by simp
    rwa [e1, e2] at hp3
  refine ⟨_, rfl, _, ⟨rfl, d'.toList, hperm, ?_, rfl⟩, ?_⟩
  · rw [List.pairwise_iff_getElem]
    intro i j hi hj hij
    have := hsort i j (Nat.zero_le _) hij (by simpa [hp1] using hj)
    simp only [Array.length_toList] at hi hj
    rw [getElem!_pos d' _ hj, getElem!_pos d' _ hi] at this
    simpa [ltOf] using this
  · have := St.sorted (L := R) hs hw hperm.length_eq n os
    simpa using this
end
end Go.X

/-
  DERIVED: THE SHELF's CONTRACTS AT THIS DUMP, IN PLAIN WORDS (tools/lay-plain.mjs out of 'SortLay.lean', which tools/lay-shelf.mjs wrote): THE SAME DECLARATIONS UNDER THE SAME NAMES: 'import', 'namespace', 'open', 'def', 'theorem' AND NOTHING ELSE: no command of the shelf's: FOR A HAND-IN. Each laying: the table of numbers ('.._ren') and one theorem, a field a fact of the dump's own or the kernel's comparison; each contract: ONE APPLICATION.
-/
namespace Go.Proofs
open Go.Shelf
def Tryz.sortKey_ren : Go.Shelf.Ren := ⟨fun | 6 => 237 | 15 => 232 | 14 => 274 | 28 => 263 | 29 => 264 | 20 => 294 | 21 => 295 | 22 => 296 | 23 => 297 | 24 => 298 | 25 => 299 | 26 => 300 | 27 => 301 | 46 => 308 | 47 => 286 | 48 => 287 | 49 => 309 | 50 => 310 | 57 => 312 | n => n, fun | 22 => 74 | 24 => 45 | 25 => 155 | 3 => 3 | 39 => 307 | 0 => 0 | 53 => 331 | 55 => 333 | 4 => 4 | 46 => 324 | 45 => 323 | 50 => 149 | 5 => 5 | 9 => 9 | 66 => 346 | 70 => 350 | 76 => 363 | 77 => 290 | n => n, fun | n => n⟩
theorem Tryz.sortKey : Go.Proofs.SlLaysF0.n6 Tryz.prog Tryz.sortKey_ren := {
  mixed := by kernel_rfl
  f6 := ⟨Tryz.f237.name, by decide, Tryz.func237.trans (congrArg some (by kernel_rfl))⟩
  f14 := ⟨Tryz.f274.name, by decide, Tryz.func274.trans (congrArg some (by kernel_rfl))⟩
  f15 := Tryz.func232.trans (congrArg some (by kernel_rfl))
  f20 := ⟨Tryz.f294.name, by decide, Tryz.func294.trans (congrArg some (by kernel_rfl))⟩
  f21 := ⟨Tryz.f295.name, by decide, Tryz.func295.trans (congrArg some (by kernel_rfl))⟩
  f22 := ⟨Tryz.f296.name, by decide, Tryz.func296.trans (congrArg some (by kernel_rfl))⟩
  f23 := ⟨Tryz.f297.name, by decide, Tryz.func297.trans (congrArg some (by kernel_rfl))⟩
  f24 := ⟨Tryz.f298.name, by decide, Tryz.func298.trans (congrArg some (by kernel_rfl))⟩
  f25 := ⟨Tryz.f299.name, by decide, Tryz.func299.trans (congrArg some (by kernel_rfl))⟩
  f26 := ⟨Tryz.f300.name, by decide, Tryz.func300.trans (congrArg some (by kernel_rfl))⟩
  f27 := ⟨Tryz.f301.name, by decide, Tryz.func301.trans (congrArg some (by kernel_rfl))⟩
  f28 := Tryz.func263.trans (congrArg some (by kernel_rfl))
  f29 := Tryz.func264.trans (congrArg some (by kernel_rfl))
  f46 := ⟨Tryz.f308.name, by decide, Tryz.func308.trans (congrArg some (by kernel_rfl))⟩
  f47 := Tryz.func286.trans (congrArg some (by kernel_rfl))
  f48 := Tryz.func287.trans (congrArg some (by kernel_rfl))
  f49 := ⟨Tryz.f309.name, by decide, Tryz.func309.trans (congrArg some (by kernel_rfl))⟩
  f50 := ⟨Tryz.f310.name, by decide, Tryz.func310.trans (congrArg some (by kernel_rfl))⟩
  f57 := ⟨Tryz.f312.name, by decide, Tryz.func312.trans (congrArg some (by kernel_rfl))⟩
  t0 := Tryz.underlying0
  a0 := Tryz.isAgg0
  z0 := Tryz.sizeOf0
  v0 := Tryz.zeroValue0
  t3 := Tryz.underlying3
  a3 := Tryz.isAgg3
  z3 := Tryz.sizeOf3
  v3 := Tryz.zeroValue3
  t4 := Tryz.underlying4
  a4 := Tryz.isAgg4
  z4 := Tryz.sizeOf4
  v4 := Tryz.zeroValue4
  t5 := Tryz.underlying5
  a5 := Tryz.isAgg5
  z5 := Tryz.sizeOf5
  v5 := Tryz.zeroValue5
  t9 := Tryz.underlying9
  a9 := Tryz.isAgg9
  z9 := Tryz.sizeOf9
  v9 := Tryz.zeroValue9
  t22 := Tryz.underlying74
  a22 := Tryz.isAgg74
  z22 := Tryz.sizeOf74
  v22 := Tryz.zeroValue74
  t25 := Tryz.underlying155
  a25 := Tryz.isAgg155
  z25 := Tryz.sizeOf155
  v25 := Tryz.zeroValue155
  t39 := Tryz.underlying307
  a39 := Tryz.isAgg307
  z39 := Tryz.sizeOf307
  v39 := Tryz.zeroValue307
  t45 := Tryz.underlying323
  a45 := Tryz.isAgg323
  z45 := Tryz.sizeOf323
  v45 := Tryz.zeroValue323
  t46 := Tryz.underlying324
  a46 := Tryz.isAgg324
  z46 := Tryz.sizeOf324
  v46 := Tryz.zeroValue324
  t50 := Tryz.underlying149
  a50 := Tryz.isAgg149
  z50 := Tryz.sizeOf149
  v50 := Tryz.zeroValue149
  t53 := Tryz.underlying331
  a53 := Tryz.isAgg331
  z53 := Tryz.sizeOf331
  v53 := Tryz.zeroValue331
  t55 := Tryz.underlying333
  a55 := Tryz.isAgg333
  z55 := Tryz.sizeOf333
  v55 := Tryz.zeroValue333
  t66 := Tryz.underlying346
  a66 := Tryz.isAgg346
  z66 := Tryz.sizeOf346
  v66 := Tryz.zeroValue346
  t70 := Tryz.underlying350
  a70 := Tryz.isAgg350
  z70 := Tryz.sizeOf350
  v70 := Tryz.zeroValue350
  t76 := Tryz.underlying363
  a76 := Tryz.isAgg363
  z76 := Tryz.sizeOf363
  v76 := Tryz.zeroValue363
  t77 := Tryz.underlying290
  a77 := Tryz.isAgg290
  z77 := Tryz.sizeOf290
  v77 := Tryz.zeroValue290 }
end Go.Proofs

namespace Go.X
open Go.Proofs

instance : Inhabited Key := ⟨.zero⟩
theorem aE_key (w : World) : (isAgg 45).run Tryz.prog w = .ok true w := by kernel_rfl
theorem zE_key (w : World) : (Go.sizeOf 45).run Tryz.prog w = .ok 16 w := by kernel_rfl
theorem C_SortFunc_Key {c : Cx} {R : List Pt} {b cap : Nat} {xs : List Key} {sp : Array Value} {el : TypeId} (hsz : xs.length < 4611686018427387904) :
    Fn Tryz.prog 237 #[.slice (some ⟨b, 0, none⟩) xs.length cap, .func (.func 101) #[] #[]] c ((b, .cells (rows Key_enc xs ++ sp) el (0, 0)) :: R)
      (fun v L' => v = .tuple #[] ∧ ∃ ys : List Key, ys.Perm xs ∧ ys.Pairwise (fun x y => ¬ y.cmp x < 0) ∧ L' = (b, .cells (rows Key_enc ys ++ sp) el (0, 0)) :: R) :=
  Fn.sortK (ρ := Go.Proofs.Tryz.sortKey_ren) Tryz.sortKey aE_key zE_key Key_size Key_one Key.swo (by kernel_rfl) (fun c x y => C_key_Cmp) hsz

end Go.X

namespace Go.X
open Go.Proofs
theorem hb_136 : hasBody Tryz.prog 136 = true := by kernel_rfl
theorem hb_202 : hasBody Tryz.prog 202 = true := by kernel_rfl
theorem hb_237 : hasBody Tryz.prog 237 = true := by kernel_rfl
/-- keys in order (equal ones side by side) -/
def KOrd (l : List Key) : Prop := l.Pairwise fun x y => ¬ y.cmp x < 0
/-- a slice of keys that is ours alone -/
def OwnK (xs : List Key) (v : Value) (Ls : List Pt) : Prop := OwnSl 45 16 (rows Key_enc xs) xs.length v Ls
theorem C_SortFunc_own {c : Cx} {R Ls : List Pt} {xs : List Key} {v : Value} (ho : OwnK xs v Ls) (hsz : xs.length < 4611686018427387904) :
    Fn Tryz.prog 237 #[v, .func (.func 101) #[] #[]] c (Ls ++ R) (fun v' L' => v' = .tuple #[] ∧ ∃ ys Ls', ys.Perm xs ∧ KOrd ys ∧ OwnK ys v Ls' ∧ L' = Ls' ++ R) := by
  rcases ho with ⟨h0, _, rfl, rfl⟩ | ⟨b, cap, sp, rfl, h1, h2, h3, rfl⟩
  · obtain rfl : xs = [] := List.length_eq_zero_iff.1 h0
    intro w hw
    refine Calls.mono (Go.Proofs.AnyF.slices_SortFunc_none (ρ := Go.Proofs.Tryz.sortKey_ren) Tryz.sortKey none 0 (.func (.func 101) #[] #[]) w) ?_
    rintro e w' ⟨rfl, rfl⟩
    exact ⟨_, rfl, _, ⟨rfl, [], [], .refl _, .nil, .inl ⟨rfl, rfl, rfl, rfl⟩, rfl⟩, hw⟩
  · refine Fn.mono (C_SortFunc_Key hsz) ?_
    rintro v' L' ⟨rfl, ys, hp, hs, rfl⟩
    have hl := hp.length_eq
    exact ⟨rfl, ys, [_], hp, hs, .inr ⟨b, cap, sp, by rw [hl], by omega, by rw [hl]; exact h2, rows_size Key_size ys, rfl⟩, rfl⟩

set_option maxRecDepth 100000 in
set_option maxHeartbeats 2000000 in
theorem C_Collect_Key {c : Cx} {L : List Pt} {gf : FuncId} {lb : List Value} {N : Nat} {S : List Key → Prop} (hN : N ≤ 1000000000) (hgb : hasBody Tryz.prog gf = true) (hit : IterOk Tryz.prog c keyV gf lb N S L) (hSN : ∀ xs, S xs → xs.length ≤ N) : Fn Tryz.prog 136 #[.func (.func gf) #[] lb.toArray] c L (fun v L' => ∃ xs Ls, S xs ∧ OwnK xs v Ls ∧ L' = Ls ++ L) := by
  refine Fn.enter Tryz.func136 rfl 5 rfl rfl (fun R hR => ?_)
  refine Cd.seq (fun K1 hK1 => ?_)
  refine Cd.region [0] rfl ?_
  refine Seq.rd0 at0 rfl rfl (O.assign (v := .slice _ _ _) rfl) ?_
  refine Seq.nil ?_
  refine hK1 ?_
  refine Cd.seq (fun K2 hK2 => ?_)
  refine Cd.region [0, 1, 2] rfl ?_
  refine Seq.rd0 at0 rfl rfl (O.move (v := (.func (.func gf) #[] lb.toArray)) rfl) ?_
  refine Seq.op at1 rfl (Op.callF rfl hb_202 (C_AppendSeq_Key hN hgb hit) rfl ?_)
  rintro v3 _ ⟨xs4, Ls5, hSv3, hov3, rfl⟩
  refine Seq.rd0 at2 rfl rfl (O.assign (v := v3) rfl) ?_
  refine Seq.nil ?_
  refine hK2 ?_
  refine Cd.ret ?_
  exact hR _ _ (Res.one (v := v3) rfl rfl) ⟨xs4, Ls5, hSv3, hov3, rfl⟩ (.refl _)

set_option maxRecDepth 100000 in
set_option maxHeartbeats 2000000 in
theorem C_SortedFunc_Key {c : Cx} {L : List Pt} {gf : FuncId} {lb : List Value} {N : Nat} {S : List Key → Prop} (hN : N ≤ 1000000000) (hgb : hasBody Tryz.prog gf = true) (hit : IterOk Tryz.prog c keyV gf lb N S L) (hSN : ∀ xs, S xs → xs.length ≤ N) : Fn Tryz.prog 199 #[.func (.func gf) #[] lb.toArray, .func (.func 101) #[] #[]] c L (fun v L' => ∃ xs ys Ls, S xs ∧ ys.Perm xs ∧ KOrd ys ∧ OwnK ys v Ls ∧ L' = Ls ++ L) := by
  refine Fn.enter Tryz.func199 rfl 12 rfl rfl (fun R hR => ?_)
  refine Cd.seq (fun K1 hK1 => ?_)
  refine Cd.region [0] rfl ?_
  refine Seq.rd0 at0 rfl rfl (O.assign (v := .slice _ _ _) rfl) ?_
  refine Seq.nil ?_
  refine hK1 ?_
  refine Cd.seq (fun K2 hK2 => ?_)
  refine Cd.region [0, 1, 2] rfl ?_
  refine Seq.rd0 at0 rfl rfl (O.move (v := (.func (.func gf) #[] lb.toArray)) rfl) ?_
  refine Seq.op at1 rfl (Op.callF rfl hb_136 (C_Collect_Key hN hgb hit hSN) rfl ?_)
  rintro v3 _ ⟨xs4, Ls5, hSv3, hov3, rfl⟩
  refine Seq.rd0 at2 rfl rfl (O.assign (v := v3) rfl) ?_
  refine Seq.nil ?_
  refine hK2 ?_
  refine Cd.seq (fun K6 hK6 => ?_)
  refine Cd.region [0, 1, 2] rfl ?_
  refine Seq.rd0 at0 rfl rfl (O.move (v := v3) rfl) ?_
  refine Seq.rd0 at1 rfl rfl (O.move (v := .func _ _ _) rfl) ?_
  refine Seq.op at2 rfl (Op.callF rfl hb_237 (C_SortFunc_own hov3 (by have := hSN _ hSv3; omega)) rfl ?_)
  rintro _ _ ⟨rfl, ys7, Ls8, hpys7, hsys7, hoys7, rfl⟩
  refine Seq.nil ?_
  refine hK6 ?_
  refine Cd.seq (fun K9 hK9 => ?_)
  refine Cd.region [0, 1] rfl ?_
  refine Seq.rd0 at0 rfl rfl (O.move (v := v3) rfl) ?_
  refine Seq.rd0 at1 rfl rfl (O.assign (v := v3) rfl) ?_
  refine Seq.nil ?_
  refine hK9 ?_
  refine Cd.ret ?_
  exact hR _ _ (Res.one (v := v3) rfl rfl) ⟨_, ys7, Ls8, hSv3, hpys7, hsys7, hoys7, rfl⟩ (.refl _)

end Go.X

namespace Go.X
open Go.Proofs
theorem hb_174 : hasBody Tryz.prog 174 = true := by kernel_rfl
theorem hb_175 : hasBody Tryz.prog 175 = true := by kernel_rfl
section
variable {e : Env} {d : Option Tmp} {ty : TypeId} {p : String} {af : Array Edge} {g : Option (Nat × Bool)} {x y : Operand} {t' : TypeId} {a b : Key}
theorem eqKey (hx : ev e x = .agg (Key_enc a)) (hy : ev e y = .agg (Key_enc b)) : Rn0 Tryz.prog e ⟨d, .binOp .eql 45 x y t', ty, p, af, g⟩ (.bool (decide (a = b))) :=
  O.eqK (enc := Key_enc) kk_key (m := 2) rfl (by kernel_rfl) (by kernel_rfl) (by kernel_rfl) hx hy
theorem neKey (hx : ev e x = .agg (Key_enc a)) (hy : ev e y = .agg (Key_enc b)) : Rn0 Tryz.prog e ⟨d, .binOp .neq 45 x y t', ty, p, af, g⟩ (.bool (!decide (a = b))) :=
  O.neK (enc := Key_enc) kk_key (m := 2) rfl (by kernel_rfl) (by kernel_rfl) (by kernel_rfl) hx hy
end
/-- may a key be? -/
def goodK (k : Key) : Bool := okT (textK k) && decide (ofK (textK k) = k)
theorem ofE_zero {l : List UInt8} : ofE l = 0 ↔ okT l = true := by unfold ofE; split <;> simp_all

set_option maxRecDepth 100000 in
set_option maxHeartbeats 2000000 in
theorem C_key_Good {c : Cx} {L : List Pt} {k : Key} : Fn Tryz.prog 97 #[.agg (Key_enc k)] c L (fun v L' => v = .bool (goodK k) ∧ L' = L) := by
  refine Fn.enter Tryz.func97 rfl 18 rfl rfl (fun R hR => ?_)
  refine Cd.seq (fun K1 hK1 => ?_)
  refine Cd.region [0, 1] rfl ?_
  refine Seq.op at0 rfl (Op.new rfl (O.box (v := .agg _) rfl (cs := (Key_enc k)) rfl) ?_)
  intro b2 hb2
  refine Seq.rd0 at1 rfl rfl (O.assign (v := .bool _) rfl) ?_
  refine Seq.nil ?_
  refine hK1 ?_
  refine Cd.seq (fun K3 hK3 => ?_)
  refine Cd.region [0, 1, 2, 3, 4, 5, 6, 7, 8] rfl ?_
  refine Seq.rd1 at0 rfl rfl (O.loadA kd_45 rfl (Nat.le_of_ble_eq_true rfl) (Key_all _)) Rd.head ?_
  refine Seq.op at1 rfl (Op.callF rfl hb_175 C_key_text rfl ?_)
  rintro _ _ ⟨rfl, rfl⟩
  refine Seq.op at2 rfl (Op.callF rfl hb_174 C_key_Of rfl ?_)
  rintro _ _ ⟨rfl, rfl⟩
  refine Seq.rd0 at3 rfl rfl (O.move (v := .tuple _) rfl) ?_
  refine Seq.rd0 at4 rfl rfl (O.ext rfl r2_0) ?_
  refine Seq.rd0 at5 rfl rfl (O.ext rfl r2_1) ?_
  refine Seq.op at6 rfl (Op.new rfl (O.alloc zo_45 (cs := (Key_enc Key.zero)) rfl) ?_)
  intro b4 hb4
  refine Seq.op at7 rfl (Op.set0 rfl (O.store kd_45 rfl (v := .agg _) rfl (Key_size _) (Key_room (Key_size _)) (Key_one _) (Key_put _ (Key_size _))) ?_)
  refine Seq.rd0 at8 rfl rfl (O.assign (v := .int .i64 _) rfl) ?_
  refine Seq.nil ?_
  refine hK3 ?_
  refine Cd.seq (fun K5 hK5 => ?_)
  refine Cd.region [0, 1, 2, 3, 4, 5, 6, 7] rfl ?_
  refine Seq.rd0 at0 rfl rfl (O.move (v := .int .i64 _) rfl) ?_
  refine Seq.rd0 at1 rfl rfl (O.eqI rfl rfl) ?_
  refine Seq.rd0 at2 rfl rfl (O.move (v := .bool _) rfl) ?_
  by_cases t6 : (ofE (textK k)) = 0
  · rw [decide_eq_true t6]
    refine Seq.rd1 at3 rfl rfl (O.loadA kd_45 rfl (Nat.le_of_ble_eq_true rfl) (Key_all _)) Rd.head ?_
    refine Seq.rd1 at4 rfl rfl (O.loadA kd_45 rfl (Nat.le_of_ble_eq_true rfl) (Key_all _)) Rd.head.cons ?_
    refine Seq.rd0 at5 rfl rfl (eqKey rfl rfl) ?_
    refine Seq.rd0 at6 rfl rfl (O.pickT (v := .bool _) rfl rfl) ?_
    refine Seq.rd0 at7 rfl rfl (O.assign (v := .bool _) rfl) ?_
    refine Seq.nil ?_
    refine hK5 ?_
    refine Cd.ret ?_
    exact hR _ _ (Res.one (v := .bool _) rfl rfl) ⟨by unfold goodK; rw [show okT (textK k) = true from ofE_zero.1 (by assumption), Bool.true_and]; try rfl, rfl⟩ (.cons _ (.cons _ (.refl _)))
  · rw [decide_eq_false t6]
    refine Seq.pass at3 rfl rfl ?_
    refine Seq.pass at4 rfl rfl ?_
    refine Seq.pass at5 rfl rfl ?_
    refine Seq.rd0 at6 rfl rfl (O.pickF (v := .bool _) rfl rfl) ?_
    refine Seq.rd0 at7 rfl rfl (O.assign (v := .bool _) rfl) ?_
    refine Seq.nil ?_
    refine hK5 ?_
    refine Cd.ret ?_
    exact hR _ _ (Res.one (v := .bool _) rfl rfl) ⟨by unfold goodK; rw [show okT (textK k) = false from Bool.eq_false_iff.2 (fun h => absurd (ofE_zero.2 h) (by assumption))]; try rfl, rfl⟩ (.cons _ (.cons _ (.refl _)))

end Go.X
