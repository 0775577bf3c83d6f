/-
  DERIVED: THE SHELF's CONTRACTS AT THIS DUMP, IN PLAIN WORDS (tools/lay-plain.mjs out of 'SortLay2.lean', which tools/lay-shelf.mjs wrote): THE SAME DECLARATIONS UNDER THE SAME NAMES: 'import', 'namespace', 'open', 'def', 'theorem' AND NOTHING ELSE: no command of the shelf's: FOR A HAND-IN. Each laying: the table of numbers ('.._ren') and one theorem, a field a fact of the dump's own or the kernel's comparison; each contract: ONE APPLICATION.
-/
import Derived.Shelf.SlLaysF0
import Derived.Shelf.SlLaysM
import Derived.Shelf.SlGeneric
import Derived.Ground.SlsfProg
import Derived.Ground.SlgmProg
import Derived.Test.YthifdialndcemaaGreatProg
import Derived.Test.YthifdialndcemaaGreatS6
set_option linter.unusedVariables false
set_option linter.unusedSimpArgs false

namespace Go.Proofs
open Go.Shelf
def Tryz.sortWrite_ren : Go.Shelf.Ren := ⟨fun | 6 => 229 | 15 => 232 | 14 => 253 | 28 => 263 | 29 => 264 | 20 => 277 | 21 => 278 | 22 => 279 | 23 => 280 | 24 => 281 | 25 => 282 | 26 => 283 | 27 => 284 | 46 => 303 | 47 => 286 | 48 => 287 | 49 => 304 | 50 => 305 | 57 => 311 | n => n, fun | 22 => 25 | 24 => 47 | 25 => 266 | 3 => 3 | 39 => 307 | 0 => 0 | 53 => 331 | 55 => 333 | 4 => 4 | 46 => 324 | 45 => 323 | 50 => 149 | 5 => 5 | 9 => 9 | 66 => 346 | 70 => 350 | 76 => 363 | 77 => 290 | n => n, fun | n => n⟩
theorem Tryz.sortWrite : Go.Proofs.SlLaysF0.n6 Tryz.prog Tryz.sortWrite_ren := {
  mixed := by kernel_rfl
  f6 := ⟨Tryz.f229.name, by decide, Tryz.func229.trans (congrArg some (by kernel_rfl))⟩
  f14 := ⟨Tryz.f253.name, by decide, Tryz.func253.trans (congrArg some (by kernel_rfl))⟩
  f15 := Tryz.func232.trans (congrArg some (by kernel_rfl))
  f20 := ⟨Tryz.f277.name, by decide, Tryz.func277.trans (congrArg some (by kernel_rfl))⟩
  f21 := ⟨Tryz.f278.name, by decide, Tryz.func278.trans (congrArg some (by kernel_rfl))⟩
  f22 := ⟨Tryz.f279.name, by decide, Tryz.func279.trans (congrArg some (by kernel_rfl))⟩
  f23 := ⟨Tryz.f280.name, by decide, Tryz.func280.trans (congrArg some (by kernel_rfl))⟩
  f24 := ⟨Tryz.f281.name, by decide, Tryz.func281.trans (congrArg some (by kernel_rfl))⟩
  f25 := ⟨Tryz.f282.name, by decide, Tryz.func282.trans (congrArg some (by kernel_rfl))⟩
  f26 := ⟨Tryz.f283.name, by decide, Tryz.func283.trans (congrArg some (by kernel_rfl))⟩
  f27 := ⟨Tryz.f284.name, by decide, Tryz.func284.trans (congrArg some (by kernel_rfl))⟩
  f28 := Tryz.func263.trans (congrArg some (by kernel_rfl))
  f29 := Tryz.func264.trans (congrArg some (by kernel_rfl))
  f46 := ⟨Tryz.f303.name, by decide, Tryz.func303.trans (congrArg some (by kernel_rfl))⟩
  f47 := Tryz.func286.trans (congrArg some (by kernel_rfl))
  f48 := Tryz.func287.trans (congrArg some (by kernel_rfl))
  f49 := ⟨Tryz.f304.name, by decide, Tryz.func304.trans (congrArg some (by kernel_rfl))⟩
  f50 := ⟨Tryz.f305.name, by decide, Tryz.func305.trans (congrArg some (by kernel_rfl))⟩
  f57 := ⟨Tryz.f311.name, by decide, Tryz.func311.trans (congrArg some (by kernel_rfl))⟩
  t0 := Tryz.underlying0
  a0 := Tryz.isAgg0
  z0 := Tryz.sizeOf0
  v0 := Tryz.zeroValue0
  t3 := Tryz.underlying3
  a3 := Tryz.isAgg3
  z3 := Tryz.sizeOf3
  v3 := Tryz.zeroValue3
  t4 := Tryz.underlying4
  a4 := Tryz.isAgg4
  z4 := Tryz.sizeOf4
  v4 := Tryz.zeroValue4
  t5 := Tryz.underlying5
  a5 := Tryz.isAgg5
  z5 := Tryz.sizeOf5
  v5 := Tryz.zeroValue5
  t9 := Tryz.underlying9
  a9 := Tryz.isAgg9
  z9 := Tryz.sizeOf9
  v9 := Tryz.zeroValue9
  t22 := Tryz.underlying25
  a22 := Tryz.isAgg25
  z22 := Tryz.sizeOf25
  v22 := Tryz.zeroValue25
  t25 := Tryz.underlying266
  a25 := Tryz.isAgg266
  z25 := Tryz.sizeOf266
  v25 := Tryz.zeroValue266
  t39 := Tryz.underlying307
  a39 := Tryz.isAgg307
  z39 := Tryz.sizeOf307
  v39 := Tryz.zeroValue307
  t45 := Tryz.underlying323
  a45 := Tryz.isAgg323
  z45 := Tryz.sizeOf323
  v45 := Tryz.zeroValue323
  t46 := Tryz.underlying324
  a46 := Tryz.isAgg324
  z46 := Tryz.sizeOf324
  v46 := Tryz.zeroValue324
  t50 := Tryz.underlying149
  a50 := Tryz.isAgg149
  z50 := Tryz.sizeOf149
  v50 := Tryz.zeroValue149
  t53 := Tryz.underlying331
  a53 := Tryz.isAgg331
  z53 := Tryz.sizeOf331
  v53 := Tryz.zeroValue331
  t55 := Tryz.underlying333
  a55 := Tryz.isAgg333
  z55 := Tryz.sizeOf333
  v55 := Tryz.zeroValue333
  t66 := Tryz.underlying346
  a66 := Tryz.isAgg346
  z66 := Tryz.sizeOf346
  v66 := Tryz.zeroValue346
  t70 := Tryz.underlying350
  a70 := Tryz.isAgg350
  z70 := Tryz.sizeOf350
  v70 := Tryz.zeroValue350
  t76 := Tryz.underlying363
  a76 := Tryz.isAgg363
  z76 := Tryz.sizeOf363
  v76 := Tryz.zeroValue363
  t77 := Tryz.underlying290
  a77 := Tryz.isAgg290
  z77 := Tryz.sizeOf290
  v77 := Tryz.zeroValue290 }
def Tryz.sortI64_ren : Go.Shelf.Ren := ⟨fun | 5 => 190 | 8 => 232 | 7 => 234 | 19 => 263 | 20 => 264 | 10 => 265 | 11 => 266 | 12 => 267 | 13 => 268 | 14 => 269 | 15 => 270 | 16 => 271 | 17 => 272 | 18 => 273 | 30 => 291 | 31 => 286 | 32 => 287 | 33 => 292 | 34 => 293 | 35 => 235 | 40 => 307 | n => n, fun | 23 => 72 | 25 => 2 | 3 => 3 | 32 => 307 | 22 => 72 | 0 => 0 | 44 => 331 | 46 => 333 | 4 => 4 | 36 => 324 | 35 => 323 | 41 => 149 | 5 => 5 | 9 => 9 | 53 => 346 | 57 => 350 | 63 => 363 | 64 => 290 | n => n, fun | n => n⟩
theorem Tryz.sortI64 : Go.Proofs.SlLaysM.n5 Tryz.prog Tryz.sortI64_ren := {
  mixed := by kernel_rfl
  f5 := ⟨Tryz.f190.name, by decide, Tryz.func190.trans (congrArg some (by kernel_rfl))⟩
  f7 := ⟨Tryz.f234.name, by decide, Tryz.func234.trans (congrArg some (by kernel_rfl))⟩
  f8 := Tryz.func232.trans (congrArg some (by kernel_rfl))
  f10 := ⟨Tryz.f265.name, by decide, Tryz.func265.trans (congrArg some (by kernel_rfl))⟩
  f11 := ⟨Tryz.f266.name, by decide, Tryz.func266.trans (congrArg some (by kernel_rfl))⟩
  f12 := ⟨Tryz.f267.name, by decide, Tryz.func267.trans (congrArg some (by kernel_rfl))⟩
  f13 := ⟨Tryz.f268.name, by decide, Tryz.func268.trans (congrArg some (by kernel_rfl))⟩
  f14 := ⟨Tryz.f269.name, by decide, Tryz.func269.trans (congrArg some (by kernel_rfl))⟩
  f15 := ⟨Tryz.f270.name, by decide, Tryz.func270.trans (congrArg some (by kernel_rfl))⟩
  f16 := ⟨Tryz.f271.name, by decide, Tryz.func271.trans (congrArg some (by kernel_rfl))⟩
  f17 := ⟨Tryz.f272.name, by decide, Tryz.func272.trans (congrArg some (by kernel_rfl))⟩
  f18 := ⟨Tryz.f273.name, by decide, Tryz.func273.trans (congrArg some (by kernel_rfl))⟩
  f19 := Tryz.func263.trans (congrArg some (by kernel_rfl))
  f20 := Tryz.func264.trans (congrArg some (by kernel_rfl))
  f30 := ⟨Tryz.f291.name, by decide, Tryz.func291.trans (congrArg some (by kernel_rfl))⟩
  f31 := Tryz.func286.trans (congrArg some (by kernel_rfl))
  f32 := Tryz.func287.trans (congrArg some (by kernel_rfl))
  f33 := ⟨Tryz.f292.name, by decide, Tryz.func292.trans (congrArg some (by kernel_rfl))⟩
  f34 := ⟨Tryz.f293.name, by decide, Tryz.func293.trans (congrArg some (by kernel_rfl))⟩
  f35 := ⟨Tryz.f235.name, by decide, Tryz.func235.trans (congrArg some (by kernel_rfl))⟩
  f40 := ⟨Tryz.f307.name, by decide, Tryz.func307.trans (congrArg some (by kernel_rfl))⟩
  t0 := Tryz.underlying0
  a0 := Tryz.isAgg0
  z0 := Tryz.sizeOf0
  v0 := Tryz.zeroValue0
  t3 := Tryz.underlying3
  a3 := Tryz.isAgg3
  z3 := Tryz.sizeOf3
  v3 := Tryz.zeroValue3
  t4 := Tryz.underlying4
  a4 := Tryz.isAgg4
  z4 := Tryz.sizeOf4
  v4 := Tryz.zeroValue4
  t5 := Tryz.underlying5
  a5 := Tryz.isAgg5
  z5 := Tryz.sizeOf5
  v5 := Tryz.zeroValue5
  t9 := Tryz.underlying9
  a9 := Tryz.isAgg9
  z9 := Tryz.sizeOf9
  v9 := Tryz.zeroValue9
  t22 := Tryz.underlying72
  a22 := Tryz.isAgg72
  z22 := Tryz.sizeOf72
  v22 := Tryz.zeroValue72
  t23 := Tryz.underlying72
  a23 := Tryz.isAgg72
  z23 := Tryz.sizeOf72
  v23 := Tryz.zeroValue72
  t25 := Tryz.underlying2
  a25 := Tryz.isAgg2
  z25 := Tryz.sizeOf2
  v25 := Tryz.zeroValue2
  t32 := Tryz.underlying307
  a32 := Tryz.isAgg307
  z32 := Tryz.sizeOf307
  v32 := Tryz.zeroValue307
  t35 := Tryz.underlying323
  a35 := Tryz.isAgg323
  z35 := Tryz.sizeOf323
  v35 := Tryz.zeroValue323
  t36 := Tryz.underlying324
  a36 := Tryz.isAgg324
  z36 := Tryz.sizeOf324
  v36 := Tryz.zeroValue324
  t41 := Tryz.underlying149
  a41 := Tryz.isAgg149
  z41 := Tryz.sizeOf149
  v41 := Tryz.zeroValue149
  t44 := Tryz.underlying331
  a44 := Tryz.isAgg331
  z44 := Tryz.sizeOf331
  v44 := Tryz.zeroValue331
  t46 := Tryz.underlying333
  a46 := Tryz.isAgg333
  z46 := Tryz.sizeOf333
  v46 := Tryz.zeroValue333
  t53 := Tryz.underlying346
  a53 := Tryz.isAgg346
  z53 := Tryz.sizeOf346
  v53 := Tryz.zeroValue346
  t57 := Tryz.underlying350
  a57 := Tryz.isAgg350
  z57 := Tryz.sizeOf350
  v57 := Tryz.zeroValue350
  t63 := Tryz.underlying363
  a63 := Tryz.isAgg363
  z63 := Tryz.sizeOf363
  v63 := Tryz.zeroValue363
  t64 := Tryz.underlying290
  a64 := Tryz.isAgg290
  z64 := Tryz.sizeOf290
  v64 := Tryz.zeroValue290 }
end Go.Proofs

namespace Go.X
open Go.Proofs
theorem hb_101 : hasBody Tryz.prog 101 = true := by kernel_rfl
theorem hb_178 : hasBody Tryz.prog 178 = true := by kernel_rfl
theorem hb_179 : hasBody Tryz.prog 179 = true := by kernel_rfl
theorem hb_228 : hasBody Tryz.prog 228 = true := by kernel_rfl
theorem hb_229 : hasBody Tryz.prog 229 = true := by kernel_rfl
theorem hb_252 : hasBody Tryz.prog 252 = true := by kernel_rfl
set_option maxRecDepth 100000 in
theorem C_AppendSeq_Write {c : Cx} {L : List Pt} {gf : FuncId} {lb : List Value} {N : Nat} {S : List Write → Prop} (hN : N ≤ 1000000000) (hgb : hasBody Tryz.prog gf = true)
    (hit : IterOk Tryz.prog c (fun x : Write => (.agg (Write_enc x))) gf lb N S L) :
    Fn Tryz.prog 252 #[.slice none 0 0, .func (.func gf) #[] lb.toArray] c L (fun v L' => ∃ xs Ls, S xs ∧ OwnSl 47 18 (rows Write_enc xs) xs.length v Ls ∧ L' = Ls ++ L) := by
  refine Fn.range (k := 13) (p := 7) (g := 6) Tryz.func252 rfl rfl rfl (fun X hX => ?_)
  refine rng [0, 1] rfl ?_
  refine Seq.op at0 rfl (Op.new rfl (O.box (v := .slice _ _ _) rfl rfl) ?_)
  intro b2 _
  refine Seq.rd0 at1 rfl rfl (O.assign (v := .slice _ _ _) rfl) ?_
  refine Seq.nil (nor_one (rng [0] rfl ?_))
  refine Seq.rd0 at0 rfl rfl (O.move (v := .func _ _ _) rfl) ?_
  refine Seq.nil (nor_one ?_)
  refine hX (gf := gf) (lb := lb) rfl hgb (fun D l rec hr => ?_)
  refine Fn.mono (hit l (fun pre Lo => ∃ v Ls, Lo = (l, .loop rec) :: (D, .deferred (some [])) :: (b2, .cells #[v] 25 (0, 0)) :: Ls ∧ OwnSl 47 18 (rows Write_enc pre) pre.length v Ls ∧ v.oneCell' = true) [(l, .loop rec), (D, .deferred (some [])), (b2, .cells #[.slice none 0 0] 25 (0, 0))] ?_ ⟨_, [], rfl, .inl ⟨rfl, rfl, rfl, rfl⟩, rfl⟩) ?_
  · rintro pre x _ R' hlen ⟨v, Ls, rfl, ho, hv1⟩
    refine YStep.make hr (by decide) (fun X hX => ?_)
    refine rng [0, 1] rfl ?_
    refine Seq.op at0 rfl (Op.new rfl (O.alloc zo_47 (cs := (Write_enc Write.zero)) rfl) ?_)
    intro bx _
    refine Seq.op at1 rfl (Op.set0 rfl (O.store kd_47 rfl (v := .agg _) rfl (Write_size _) (Write_room (Write_size _)) (Write_one _) (Write_put _ (Write_size _))) ?_)
    refine Ent.perm ?_ (.swap _ _ _)
    refine Seq.nil (nor_one ?_)
    refine hX (fun Y hY => ?_)
    refine rng [0, 1, 2, 3, 4] rfl ?_
    refine Seq.rd1 at0 rfl rfl (O.load kd_25 rfl r1_0) Rd.head.cons.cons.cons ?_
    refine Seq.rd1 at1 rfl rfl (O.loadA kd_47 rfl (Nat.le_of_ble_eq_true rfl) (Write_all _)) Rd.head.cons ?_
    refine Seq.op at2 rfl (Op.new rfl (O.buildSlice (el := 47) rfl (cs := rows Write_enc [x]) (by kernel_rfl)) ?_)
    intro bs _
    refine Ent.perm ?_ (bring (Ls := Ls) (pre := [(bs, _), (l, _), (bx, _), (D, _), (b2, _)]) (R := R'))
    refine Seq.op at3 rfl (Op.gen rfl (O.appendOwn (k := 1) (new := rows Write_enc [x]) ei_25 ds_25 (by decide) rfl ho (.inr ⟨bs, 0, 1, rows Write_enc [x], 47, (0, 0), rfl, Rd.head.sub (List.sublist_append_right _ _), Nat.le_refl _, by rw [rows_one]; exact Write_all x⟩) (by rw [rows_one]; exact Write_one x) (by decide) (by omega)) ?_)
    rintro v' _ ⟨Ls', ho', rfl⟩
    have hv2 : v'.oneCell' = true := by
      rcases ho' with ⟨_, _, rfl, _⟩ | ⟨_, _, _, rfl, _⟩ <;> rfl
    refine Ent.perm ?_ (bring (Ls := Ls') (pre := [(bs, _), (l, _), (bx, _), (D, _), (b2, _)]) (R := R')).symm
    refine Seq.op at4 rfl (Op.set4 rfl (O.store1 kd_25 rfl (v := v') rfl (Nat.le_of_ble_eq_true rfl) hv2 (cs' := #[v']) rfl) ?_)
    refine Seq.nil (nor_one ?_)
    exact Ent.sub (hY (L2 := (D, _) :: (b2, _) :: (Ls' ++ R')) ⟨_, ⟨v', Ls', rfl, by rw [rows_append, List.length_append]; exact ho', hv2⟩, rfl⟩) (.cons _ (.cons_cons _ (.cons _ (.refl _))))
  · rintro v _ ⟨xs, _, hS, ⟨sv, Ls, rfl, ho, _⟩, rfl⟩
    refine ⟨(b2, .cells #[sv] 25 (0, 0)) :: (Ls ++ L), rfl, fun Y hY => ?_⟩
    refine rng [0, 1] rfl ?_
    refine Seq.rd1 at0 rfl rfl (O.load kd_25 rfl r1_0) Rd.head.cons ?_
    refine Seq.rd0 at1 rfl rfl (O.assign (v := sv) rfl) ?_
    exact Seq.nil (nor_one (hY (Res.one (v := sv) rfl rfl) ⟨xs, Ls, hS, ho, rfl⟩ (List.sublist_cons_self _ _)))

theorem perm_stepV {K V : Type} {pre ks : List V} {rest rest' : List (K × V)} {a : K} {u : V} (hp : (pre ++ rest.map Prod.snd).Perm ks) (hpm : rest.Perm ((a, u) :: rest')) :
    ((pre ++ [u]) ++ rest'.map Prod.snd).Perm ks := by
  refine List.Perm.trans ?_ hp
  rw [List.append_assoc]
  exact List.Perm.append_left pre (hpm.map Prod.snd).symm
theorem step_ltV {K V : Type} {lst : List (K × V)} {pre : List V} {rest rest' : List (K × V)} {a : K} {u : V} (hp : (pre ++ rest.map Prod.snd).Perm (lst.map Prod.snd)) (hpm : rest.Perm ((a, u) :: rest')) : pre.length < lst.length := by
  have h1 := hp.length_eq
  have h2 := hpm.length_eq
  simp only [List.length_append, List.length_map, List.length_cons] at h1 h2
  omega

set_option maxRecDepth 100000 in
set_option maxHeartbeats 2000000 in
theorem C_valsWrite_fn {c : Cx} {L : List Pt} {K : Type} {encK : K → Value} {Rt Lo : List Pt} {bb bm l ck : Nat} {es : Array MapEntry} {lst : List (K × Write)} {I : List Write → List Pt → Prop} (hm : MapIs encK wV es ck lst) (hb : Rd c Rt bb (.cells #[.map (some bm)] 165 (0, 0))) (hr : Rd c Rt bm (.map es ck)) (hY : ∀ pre x Lo R', pre.length < lst.length → I pre Lo → YStep Tryz.prog c l (wV x) (Lo ++ R') (fun L' => ∃ Lo', I (pre ++ [x]) Lo' ∧ L' = Lo' ++ R')) (h0 : I [] Lo) : Fn Tryz.prog 230 #[.func (.yield l) #[] #[], .pointer (some ⟨bb, 0, none⟩)] c (Lo ++ Rt) (fun v L' => ∃ xs Lo', xs.Perm (lst.map Prod.snd) ∧ I xs Lo' ∧ L' = Lo' ++ Rt) := by
  refine Fn.enter Tryz.func230 rfl 15 rfl rfl (fun R hR => ?_)
  refine Cd.seq (fun K1 hK1 => ?_)
  refine Cd.region [0, 1] rfl ?_
  refine Seq.rd1 at0 rfl rfl (O.load kd_165 rfl r1_0) (hb.sub (List.sublist_append_right _ _)) ?_
  refine Seq.op at1 rfl (Op.gen rfl (O.range mp_165 hm rfl (hr.sub (List.sublist_append_right _ _))) ?_)
  rintro _ _ ⟨r, it, hr0, rfl, hi, rfl⟩
  refine Seq.nil ?_
  refine hK1 ?_
  refine Cd.block ?_
  refine Cd.loop (fun m2 e3 L4 => ∃ pre : List Write, ∃ rest : List (K × Write), ∃ Lo1 : List Pt, ∃ it : Obj, m2 = rest.length ∧ e3 0 = .func (.yield l) #[] #[] ∧ e3 6 = .pointer (some ⟨r, 0, none⟩) ∧ L4 = (r, it) :: (Lo1 ++ Rt) ∧ I pre Lo1 ∧ ItIs encK wV es ck bm rest it ∧ (pre ++ rest.map Prod.snd).Perm (lst.map Prod.snd)) _ ⟨[], lst, Lo, it, rfl, rfl, rfl, rfl, h0, hi, .refl _⟩ ?_
  rintro _ e3 _ ⟨pre, rest, Lo1, it, rfl, s5, s6, rfl, hI, hi, hp⟩ K7 hK7
  refine Cd.seq (fun K8 hK8 => ?_)
  refine Cd.region [0, 1] rfl ?_
  refine Seq.op at0 rfl (Op.gen rfl (O.next hm hi (by exact s6) (Rd.cons (hr.sub (List.sublist_append_right _ _)))) ?_)
  rintro _ _ (⟨rfl, rfl, rfl⟩ | ⟨a, u, rest', it', hpm, rfl, hi', hent, rfl⟩)
  · skip
    refine Seq.rd0 at1 rfl rfl (O.ext rfl r1_0) ?_
    refine Seq.nil ?_
    refine hK8 ?_
    refine Cd.seq (fun K9 hK9 => ?_)
    refine Cd.condF rfl ?_
    refine Cd.exit ?_
    exact hR _ _ (Res.zero rfl) ⟨pre, Lo1, by simpa using hp, hI, rfl⟩ (.cons _ (.refl _))
  · skip
    refine Seq.rd0 at1 rfl rfl (O.ext rfl r3_0) ?_
    refine Seq.nil ?_
    refine hK8 ?_
    refine Cd.seq (fun K10 hK10 => ?_)
    refine Cd.condT rfl ?_
    refine Cd.skip ?_
    refine hK10 ?_
    refine Cd.block ?_
    refine Cd.seq (fun K11 hK11 => ?_)
    refine Cd.region [0, 1, 2, 3] rfl ?_
    refine Seq.op at0 rfl (Op.gen rfl (hent _ _ (by exact s6) Rd.head (Rd.cons (hr.sub (List.sublist_append_right _ _)))) ?_)
    rintro _ _ ⟨rfl, rfl⟩
    refine Seq.rd0 at1 rfl rfl (O.ext rfl r2_1) ?_
    refine Seq.op at2 rfl (Op.new rfl (O.alloc zo_47 (cs := (Write_enc Write.zero)) rfl) ?_)
    intro b12 hb12
    refine Seq.op at3 rfl (Op.set0 rfl (O.store kd_47 rfl (v := .agg _) rfl (Write_size _) (Write_room (Write_size _)) (Write_one _) (Write_put _ (Write_size _))) ?_)
    refine Seq.nil ?_
    refine hK11 ?_
    refine Cd.seq (fun K13 hK13 => ?_)
    refine Cd.region [0, 1, 2, 3] rfl ?_
    refine Seq.rd0 at0 rfl rfl (O.move (v := (.func (.yield l) #[] #[])) (by exact s5)) ?_
    refine Seq.rd1 at1 rfl rfl (O.loadA kd_47 rfl (Nat.le_of_ble_eq_true rfl) (Write_all _)) Rd.head ?_
    refine Seq.opY at2 rfl (Ent.perm (Op.yield rfl rfl rfl (hY pre u Lo1 _ (step_ltV hp hpm) hI) ?_) (bring (Ls := Lo1) (pre := [(b12, _), (r, _)]) (R := Rt)))
    rintro _ ⟨Lo2, hI2, rfl⟩
    refine Ent.perm ?_ (bring (Ls := Lo2) (pre := [(b12, _), (r, _)]) (R := Rt)).symm
    refine Ent.drop ?_
    refine Seq.rd0 at3 rfl rfl (O.not rfl) ?_
    refine Seq.nil ?_
    refine hK13 ?_
    refine Cd.condF rfl ?_
    refine Cd.skip ?_
    exact hK7 _ (step_dec hpm) ⟨pre ++ [u], rest', Lo2, it', rfl, (by exact s5), (by exact s6), rfl, hI2, hi', perm_stepV hp hpm⟩

theorem C_valsWrite {c : Cx} {K : Type} {encK : K → Value} {Rt : List Pt} {bb bm ck : Nat} {es : Array MapEntry} {lst : List (K × Write)} (hm : MapIs encK wV es ck lst) (hb : Rd c Rt bb (.cells #[.map (some bm)] 165 (0, 0))) (hr : Rd c Rt bm (.map es ck)) :
    IterOk Tryz.prog c wV 230 [.pointer (some ⟨bb, 0, none⟩)] lst.length (fun xs => xs.Perm (lst.map Prod.snd)) Rt := fun _ _ _ hY h0 => C_valsWrite_fn (L := Rt) hm hb hr hY h0

set_option maxRecDepth 100000 in
set_option maxHeartbeats 2000000 in
theorem C_mapsValues {c : Cx} {L : List Pt} {mb : Nat} : Fn Tryz.prog 179 #[.map (some mb)] c L (fun v L' => ∃ bb, c.w0.heap.size ≤ bb ∧ v = .func (.func 230) #[] #[.pointer (some ⟨bb, 0, none⟩)] ∧ L' = (bb, .cells #[.map (some mb)] 165 (0, 0)) :: L) := by
  refine Fn.enter Tryz.func179 rfl 4 rfl rfl (fun R hR => ?_)
  refine Cd.seq (fun K1 hK1 => ?_)
  refine Cd.region [0, 1] rfl ?_
  refine Seq.op at0 rfl (Op.new rfl (O.box (v := .map _) rfl rfl) ?_)
  intro b2 hb2
  refine Seq.rd0 at1 rfl rfl (O.assign (v := .nilFunc) rfl) ?_
  refine Seq.nil ?_
  refine hK1 ?_
  refine Cd.seq (fun K3 hK3 => ?_)
  refine Cd.region [0, 1] rfl ?_
  refine Seq.rd0 at0 rfl rfl (O.mkFunc (fs' := #[]) (cs' := #[.pointer (some ⟨b2, 0, none⟩)]) (by kernel_rfl) (by kernel_rfl)) ?_
  refine Seq.rd0 at1 rfl rfl (O.assign (v := .func _ _ _) rfl) ?_
  refine Seq.nil ?_
  refine hK3 ?_
  refine Cd.ret ?_
  exact hR _ _ (Res.one (v := .func _ _ _) rfl rfl) ⟨b2, hb2, rfl, rfl⟩ (.refl _)

set_option maxRecDepth 100000 in
set_option maxHeartbeats 2000000 in
theorem C_cmpW {c : Cx} {L : List Pt} {x y : Write} : Fn Tryz.prog 180 #[.agg (Write_enc x), .agg (Write_enc y)] c L (fun v L' => v = .int .i64 (x.key.cmp y.key) ∧ L' = L) := by
  refine Fn.enter Tryz.func180 rfl 10 rfl rfl (fun R hR => ?_)
  refine Cd.seq (fun K1 hK1 => ?_)
  refine Cd.region [0, 1, 2] rfl ?_
  refine Seq.op at0 rfl (Op.new rfl (O.box (v := .agg _) rfl (cs := (Write_enc x)) rfl) ?_)
  intro b2 hb2
  refine Seq.op at1 rfl (Op.new rfl (O.box (v := .agg _) rfl (cs := (Write_enc y)) rfl) ?_)
  intro b3 hb3
  refine Seq.rd0 at2 rfl rfl (O.assign (v := .int .i64 _) rfl) ?_
  refine Seq.nil ?_
  refine hK1 ?_
  refine Cd.seq (fun K4 hK4 => ?_)
  refine Cd.region [0, 1, 2, 3, 4, 5] rfl ?_
  refine Seq.rd0 at0 rfl rfl (O.field fo_47_0 rfl) ?_
  refine Seq.rd1 at1 rfl rfl (O.loadA kd_45 rfl (Nat.le_of_ble_eq_true rfl) (Write_key _)) Rd.head.cons ?_
  refine Seq.rd0 at2 rfl rfl (O.field fo_47_0 rfl) ?_
  refine Seq.rd1 at3 rfl rfl (O.loadA kd_45 rfl (Nat.le_of_ble_eq_true rfl) (Write_key _)) Rd.head ?_
  refine Seq.op at4 rfl (Op.callF rfl hb_101 C_key_Cmp rfl ?_)
  rintro _ _ ⟨rfl, rfl⟩
  refine Seq.rd0 at5 rfl rfl (O.assign (v := .int .i64 _) rfl) ?_
  refine Seq.nil ?_
  refine hK4 ?_
  refine Cd.ret ?_
  exact hR _ _ (Res.one (v := .int .i64 _) rfl rfl) ⟨rfl, rfl⟩ (.cons _ (.cons _ (.refl _)))

instance : Inhabited Write := ⟨.zero⟩
theorem aE_write (w : World) : (isAgg 47).run Tryz.prog w = .ok true w := by kernel_rfl
theorem zE_write (w : World) : (Go.sizeOf 47).run Tryz.prog w = .ok 18 w := by kernel_rfl
def wcmp (x y : Write) : Int := x.key.cmp y.key
theorem wcmp_swo : Go.Sort.SWO (Go.Proofs.ltOf wcmp) := ⟨fun x => Key.swo.1 x.key, fun x y z => Key.swo.2 x.key y.key z.key, fun x y z => Key.swo.3 x.key y.key z.key⟩
/-- writes by their keys -/
def WOrd (l : List Write) : Prop := l.Pairwise fun x y => ¬ wcmp y x < 0
def OwnW (xs : List Write) (v : Value) (Ls : List Pt) : Prop := OwnSl 47 18 (rows Write_enc xs) xs.length v Ls
theorem C_SortFunc_ownW {c : Cx} {R Ls : List Pt} {xs : List Write} {v : Value} (ho : OwnW xs v Ls) (hsz : xs.length < 4611686018427387904) :
    Fn Tryz.prog 229 #[v, .func (.func 180) #[] #[]] c (Ls ++ R) (fun v' L' => v' = .tuple #[] ∧ ∃ ys Ls', ys.Perm xs ∧ WOrd ys ∧ OwnW ys v Ls' ∧ L' = Ls' ++ R) := by
  rcases ho with ⟨h0, _, rfl, rfl⟩ | ⟨b, cap, sp, rfl, h1, h2, h3, rfl⟩
  · obtain rfl : xs = [] := List.length_eq_zero_iff.1 h0
    intro w hw
    refine Calls.mono (Go.Proofs.AnyF.slices_SortFunc_none (ρ := Go.Proofs.Tryz.sortWrite_ren) Tryz.sortWrite none 0 (.func (.func 180) #[] #[]) w) ?_
    rintro e w' ⟨rfl, rfl⟩
    exact ⟨_, rfl, _, ⟨rfl, [], [], .refl _, .nil, .inl ⟨rfl, rfl, rfl, rfl⟩, rfl⟩, hw⟩
  · refine Fn.mono (Fn.sortK (ρ := Go.Proofs.Tryz.sortWrite_ren) Tryz.sortWrite aE_write zE_write Write_size Write_one wcmp_swo (by kernel_rfl) (fun c x y => C_cmpW) hsz) ?_
    rintro v' L' ⟨rfl, ys, hp, hs, rfl⟩
    have hl := hp.length_eq
    exact ⟨rfl, ys, [_], hp, hs, .inr ⟨b, cap, sp, by rw [hl], by omega, by rw [hl]; exact h2, rows_size Write_size ys, rfl⟩, rfl⟩

set_option maxRecDepth 100000 in
set_option maxHeartbeats 2000000 in
theorem C_Collect_Write {c : Cx} {L : List Pt} {gf : FuncId} {lb : List Value} {N : Nat} {S : List Write → Prop} (hN : N ≤ 1000000000) (hgb : hasBody Tryz.prog gf = true) (hit : IterOk Tryz.prog c wV gf lb N S L) (hSN : ∀ xs, S xs → xs.length ≤ N) : Fn Tryz.prog 228 #[.func (.func gf) #[] lb.toArray] c L (fun v L' => ∃ xs Ls, S xs ∧ OwnW xs v Ls ∧ L' = Ls ++ L) := by
  refine Fn.enter Tryz.func228 rfl 5 rfl rfl (fun R hR => ?_)
  refine Cd.seq (fun K1 hK1 => ?_)
  refine Cd.region [0] rfl ?_
  refine Seq.rd0 at0 rfl rfl (O.assign (v := .slice _ _ _) rfl) ?_
  refine Seq.nil ?_
  refine hK1 ?_
  refine Cd.seq (fun K2 hK2 => ?_)
  refine Cd.region [0, 1, 2] rfl ?_
  refine Seq.rd0 at0 rfl rfl (O.move (v := (.func (.func gf) #[] lb.toArray)) rfl) ?_
  refine Seq.op at1 rfl (Op.callF rfl hb_252 (C_AppendSeq_Write hN hgb hit) rfl ?_)
  rintro v3 _ ⟨xs4, Ls5, hSv3, hov3, rfl⟩
  refine Seq.rd0 at2 rfl rfl (O.assign (v := v3) rfl) ?_
  refine Seq.nil ?_
  refine hK2 ?_
  refine Cd.ret ?_
  exact hR _ _ (Res.one (v := v3) rfl rfl) ⟨xs4, Ls5, hSv3, hov3, rfl⟩ (.refl _)

set_option maxRecDepth 100000 in
set_option maxHeartbeats 2000000 in
theorem C_SortedFunc_Write {c : Cx} {L : List Pt} {gf : FuncId} {lb : List Value} {N : Nat} {S : List Write → Prop} (hN : N ≤ 1000000000) (hgb : hasBody Tryz.prog gf = true) (hit : IterOk Tryz.prog c wV gf lb N S L) (hSN : ∀ xs, S xs → xs.length ≤ N) : Fn Tryz.prog 178 #[.func (.func gf) #[] lb.toArray, .func (.func 180) #[] #[]] c L (fun v L' => ∃ xs ys Ls, S xs ∧ ys.Perm xs ∧ WOrd ys ∧ OwnW ys v Ls ∧ L' = Ls ++ L) := by
  refine Fn.enter Tryz.func178 rfl 12 rfl rfl (fun R hR => ?_)
  refine Cd.seq (fun K1 hK1 => ?_)
  refine Cd.region [0] rfl ?_
  refine Seq.rd0 at0 rfl rfl (O.assign (v := .slice _ _ _) rfl) ?_
  refine Seq.nil ?_
  refine hK1 ?_
  refine Cd.seq (fun K2 hK2 => ?_)
  refine Cd.region [0, 1, 2] rfl ?_
  refine Seq.rd0 at0 rfl rfl (O.move (v := (.func (.func gf) #[] lb.toArray)) rfl) ?_
  refine Seq.op at1 rfl (Op.callF rfl hb_228 (C_Collect_Write hN hgb hit hSN) rfl ?_)
  rintro v3 _ ⟨xs4, Ls5, hSv3, hov3, rfl⟩
  refine Seq.rd0 at2 rfl rfl (O.assign (v := v3) rfl) ?_
  refine Seq.nil ?_
  refine hK2 ?_
  refine Cd.seq (fun K6 hK6 => ?_)
  refine Cd.region [0, 1, 2] rfl ?_
  refine Seq.rd0 at0 rfl rfl (O.move (v := v3) rfl) ?_
  refine Seq.rd0 at1 rfl rfl (O.move (v := .func _ _ _) rfl) ?_
  refine Seq.op at2 rfl (Op.callF rfl hb_229 (C_SortFunc_ownW hov3 (by have := hSN _ hSv3; omega)) rfl ?_)
  rintro _ _ ⟨rfl, ys7, Ls8, hpys7, hsys7, hoys7, rfl⟩
  refine Seq.nil ?_
  refine hK6 ?_
  refine Cd.seq (fun K9 hK9 => ?_)
  refine Cd.region [0, 1] rfl ?_
  refine Seq.rd0 at0 rfl rfl (O.move (v := v3) rfl) ?_
  refine Seq.rd0 at1 rfl rfl (O.assign (v := v3) rfl) ?_
  refine Seq.nil ?_
  refine hK9 ?_
  refine Cd.ret ?_
  exact hR _ _ (Res.one (v := v3) rfl rfl) ⟨_, ys7, Ls8, hSv3, hpys7, hsys7, hoys7, rfl⟩ (.refl _)

set_option maxRecDepth 100000 in
set_option maxHeartbeats 2000000 in
theorem C_solo_Sorted {c : Cx} {L : List Pt} {mb ck : Nat} {es : Array MapEntry} {l : List (Key × Write)} (hm : MapIs keyV wV es ck l) (hmb : Rd c L mb (.map es ck)) (hlen : l.length ≤ 1000000000) : Fn Tryz.prog 107 #[.map (some mb)] c L (fun v L' => ∃ ys Ls, ys.Perm (l.map Prod.snd) ∧ WOrd ys ∧ OwnW ys v Ls ∧ L' = Ls ++ L) := by
  refine Fn.enter Tryz.func107 rfl 6 rfl rfl (fun R hR => ?_)
  refine Cd.seq (fun K1 hK1 => ?_)
  refine Cd.region [0] rfl ?_
  refine Seq.rd0 at0 rfl rfl (O.assign (v := .slice _ _ _) rfl) ?_
  refine Seq.nil ?_
  refine hK1 ?_
  refine Cd.seq (fun K2 hK2 => ?_)
  refine Cd.region [0, 1, 2, 3] rfl ?_
  refine Seq.rd0 at0 rfl rfl (O.move (v := .map _) rfl) ?_
  refine Seq.op at1 rfl (Op.callF rfl hb_179 C_mapsValues rfl ?_)
  rintro _ _ ⟨bb3, hbb3, rfl, rfl⟩
  refine Seq.op at2 rfl (Op.callF rfl hb_178 (C_SortedFunc_Write (gf := 230) (lb := [.pointer (some ⟨bb3, 0, none⟩)]) hlen (by kernel_rfl) (C_valsWrite hm Rd.head hmb.cons) (fun _ h => Nat.le_of_eq (h.length_eq.trans (List.length_map _)))) rfl ?_)
  rintro v4 _ ⟨xs5, ys6, Ls7, hSxs5, hpys6, hoys6, hwys6, rfl⟩
  refine Ent.perm ?_ (bring (Ls := Ls7) (pre := [(bb3, _)]) (R := L)).symm
  refine Seq.rd0 at3 rfl rfl (O.assign (v := v4) rfl) ?_
  refine Seq.nil ?_
  refine hK2 ?_
  refine Cd.ret ?_
  exact hR _ _ (Res.one (v := v4) rfl rfl) ⟨ys6, Ls7, hpys6.trans hSxs5, hoys6, hwys6, rfl⟩ (.cons _ (.refl _))

end Go.X

namespace Go.X
open Go.Proofs
theorem fo_203_0 : fieldOff Tryz.prog 203 0 = some 0 := by kernel_rfl
theorem fo_208_0 : fieldOff Tryz.prog 208 0 = some 0 := by kernel_rfl
theorem hb_107 : hasBody Tryz.prog 107 = true := by kernel_rfl
/-! ## Commit -/
/-- has a key a version above? -/
def conK (l : List (Key × CV)) (s : Stamp) (k : Key) : Bool := (newestV (getS l k)).isSome && decide (0 < ((newestV (getS l k)).getD .zero).stamp.cmp s)
def ComX (l : List (Key × CV)) (la : Int) (snap : Stamp) (ws : List (Key × Write)) (r : Stamp) (e : Int) (l' : List (Key × CV)) (la' : Int) : Prop :=
  (ws = [] ∧ r = ⟨la, 0⟩ ∧ e = 0 ∧ l' = l ∧ la' = la) ∨
  (ws ≠ [] ∧ (∃ q ∈ ws, conK l snap q.1 = true) ∧ r = .zero ∧ e = 9 ∧ l' = l ∧ la' = la) ∨
  (ws ≠ [] ∧ (∀ q ∈ ws, conK l snap q.1 = false) ∧ ∃ ys, ys.Perm (ws.map Prod.snd) ∧ WOrd ys ∧ e = applyE l ⟨la + 1, 0⟩ ys ∧ (e ≠ 0 → r = .zero ∧ l' = l ∧ la' = la) ∧ (e = 0 → r = ⟨la + 1, 0⟩ ∧ la' = la + 1 ∧ AppS ⟨la + 1, 0⟩ l ys l'))
theorem permM {K V : Type} {ws pre rest rest' : List (K × V)} {q : K × V} (hp : (pre ++ rest).Perm ws) (hpm : rest.Perm (q :: rest')) : ((pre ++ [q]) ++ rest').Perm ws := by
  refine List.Perm.trans ?_ hp
  rw [List.append_assoc]
  exact List.Perm.append_left pre hpm.symm
theorem permQ {K V : Type} {ws pre rest rest' : List (K × V)} {q : K × V} (hp : (pre ++ rest).Perm ws) (hpm : rest.Perm (q :: rest')) : q ∈ ws :=
  hp.mem_iff.1 (List.mem_append.2 (.inr (hpm.mem_iff.2 (List.mem_cons_self))))
theorem conN {l : List (Key × CV)} {s : Stamp} {pre : List (Key × Write)} {q : Key × Write} (h : ∀ x ∈ pre, conK l s x.1 = false) (hq : conK l s q.1 = false) : ∀ x ∈ pre ++ [q], conK l s x.1 = false := by
  intro x hx
  rcases List.mem_append.1 hx with hx | hx
  · exact h x hx
  · rw [List.mem_singleton.1 hx]; exact hq

set_option maxRecDepth 100000 in
set_option maxHeartbeats 2000000 in
theorem C_solo_Commit_none {c : Cx} {L : List Pt} {p sb lm ck : Nat} {es : Array MapEntry} {L1 L2 : List Pt} {l : List (Key × CV)} {xl : List (I64 × TX)} {bg la : Int} (hSo : StOwn sb l L1) (hMx : MapIs i64V txV es ck xl) {ti : I64} (hl : alook xl ti = none) : Fn Tryz.prog 56 #[.pointer (some ⟨p, 0, none⟩), .int .i64 ti.1] c ((p, .cells #[.pointer (some ⟨sb, 0, none⟩), .map (some lm), .int .i64 bg, .int .i64 la] 203 (0, 0)) :: (lm, .map es ck) :: (L1 ++ (L2 ++ L))) (fun v L' => v = .tuple #[.agg (Stamp_enc .zero), .int .i64 4] ∧ L' = ((p, .cells #[.pointer (some ⟨sb, 0, none⟩), .map (some lm), .int .i64 bg, .int .i64 la] 203 (0, 0)) :: (lm, .map es ck) :: (L1 ++ (L2 ++ L)))) := by
  refine Fn.enter Tryz.func56 rfl 95 rfl rfl (fun R hR => ?_)
  refine Cd.seq (fun K1 hK1 => ?_)
  refine Cd.region [0, 1] rfl ?_
  refine Seq.op at0 rfl (Op.new rfl (O.alloc zo_24 (cs := (Stamp_enc Stamp.zero)) rfl) ?_)
  intro b2 hb2
  refine Seq.rd0 at1 rfl rfl (O.assign (v := .int .i64 _) rfl) ?_
  refine Seq.nil ?_
  refine hK1 ?_
  refine Cd.seq (fun K3 hK3 => ?_)
  refine Cd.region [0, 1, 2, 3, 4, 5, 6] rfl ?_
  refine Seq.rd0 at0 rfl rfl (O.move (v := .pointer _) rfl) ?_
  refine Seq.rd0 at1 rfl rfl (O.nilP rfl) ?_
  refine Seq.rd0 at2 rfl rfl (O.field fo_203_1 rfl) ?_
  refine Seq.rd1 at3 rfl rfl (O.load kd_201 rfl r4_1) Rd.head.cons ?_
  refine Seq.rd0 at4 rfl rfl (O.move (v := .int .i64 _) rfl) ?_
  refine Seq.rd1 at5 rfl rfl (O.lookN (ok := false) (encV := txV) (a := ti) mp_201 kk_i64 hMx zo_206 rfl (by exact rfl) hl) Rd.head.cons.cons ?_
  refine Seq.rd0 at6 rfl rfl (O.assign (v := .pointer _) rfl) ?_
  refine Seq.nil ?_
  refine hK3 ?_
  refine Cd.seq (fun K4 hK4 => ?_)
  refine Cd.seq (fun K5 hK5 => ?_)
  refine Cd.region [0, 1] rfl ?_
  refine Seq.rd0 at0 rfl rfl (O.move (v := .pointer _) rfl) ?_
  refine Seq.rd0 at1 rfl rfl (O.eqNil ds_206 rfl rfl) ?_
  refine Seq.nil ?_
  refine hK5 ?_
  refine Cd.condT rfl ?_
  refine Cd.seq (fun K6 hK6 => ?_)
  refine Cd.region [0, 1, 2] rfl ?_
  refine Seq.rd0 at0 rfl rfl (O.build rfl (cs := (Stamp_enc Stamp.zero)) (by kernel_rfl)) ?_
  refine Seq.op at1 rfl (Op.set0 rfl (O.store kd_24 rfl (v := .agg _) rfl (Stamp_size _) (Stamp_room (Stamp_size _)) (Stamp_one _) (Stamp_put _ (Stamp_size _))) ?_)
  refine Seq.rd0 at2 rfl rfl (O.assign (v := .int .i64 _) rfl) ?_
  refine Seq.nil ?_
  refine hK6 ?_
  refine Cd.ret ?_
  exact hR _ _ (Res.cell2 (v := .int .i64 _) rfl kd_24 rfl rfl Rd.head rfl) ⟨rfl, rfl⟩ (.cons _ (.refl _))

set_option maxRecDepth 100000 in
set_option maxHeartbeats 2000000 in
theorem C_solo_Commit_some {c : Cx} {L : List Pt} {p sb lm ck : Nat} {es : Array MapEntry} {L1 C1 : List Pt} {l : List (Key × CV)} {xl : List (I64 × TX)} {bg la : Int} (hSo : StOwn sb l L1) (hMx : MapIs i64V txV es ck xl) {ti : I64} {q : TX} {mb ck9 : Nat} {es9 : Array MapEntry} {ws : List (Key × Write)} (hl : alook xl ti = some q) (hMw : MapIs keyV wV es9 ck9 ws) (h16 : ws.length ≤ 16) (hla : 0 ≤ la ∧ la < 1000000) : Fn Tryz.prog 56 #[.pointer (some ⟨p, 0, none⟩), .int .i64 ti.1] c ((p, .cells #[.pointer (some ⟨sb, 0, none⟩), .map (some lm), .int .i64 bg, .int .i64 la] 203 (0, 0)) :: (lm, .map es ck) :: (q.1, .cells #[.int .i64 q.2.1.t, .int .u8 q.2.1.n, .map (some mb)] 208 (0, 0)) :: (mb, .map es9 ck9) :: (L1 ++ (C1 ++ L))) (fun v L' => ∃ r e l' la' es3 Ls', v = .tuple #[.agg (Stamp_enc r), .int .i64 e] ∧ MapIs i64V txV es3 ck (adel xl ti) ∧ StOwn sb l' Ls' ∧ ComX l la q.2.1 ws r e l' la' ∧ L' = (p, .cells #[.pointer (some ⟨sb, 0, none⟩), .map (some lm), .int .i64 bg, .int .i64 la'] 203 (0, 0)) :: (lm, .map es3 ck) :: (Ls' ++ (C1 ++ L))) := by
  have hms := hMw.size
  have hSr := StOwn.at_ (c := c) (R := C1 ++ L) hSo
  refine Fn.enter Tryz.func56 rfl 95 rfl rfl (fun R hR => ?_)
  refine Cd.seq (fun K1 hK1 => ?_)
  refine Cd.region [0, 1] rfl ?_
  refine Seq.op at0 rfl (Op.new rfl (O.alloc zo_24 (cs := (Stamp_enc Stamp.zero)) rfl) ?_)
  intro b2 hb2
  refine Seq.rd0 at1 rfl rfl (O.assign (v := .int .i64 _) rfl) ?_
  refine Seq.nil ?_
  refine hK1 ?_
  refine Cd.seq (fun K3 hK3 => ?_)
  refine Cd.region [0, 1, 2, 3, 4, 5, 6] rfl ?_
  refine Seq.rd0 at0 rfl rfl (O.move (v := .pointer _) rfl) ?_
  refine Seq.rd0 at1 rfl rfl (O.nilP rfl) ?_
  refine Seq.rd0 at2 rfl rfl (O.field fo_203_1 rfl) ?_
  refine Seq.rd1 at3 rfl rfl (O.load kd_201 rfl r4_1) Rd.head.cons ?_
  refine Seq.rd0 at4 rfl rfl (O.move (v := .int .i64 _) rfl) ?_
  refine Seq.rd1 at5 rfl rfl (O.lookS (ok := false) (encV := txV) (a := ti) mp_201 kk_i64 hMx rfl (by exact rfl) hl) Rd.head.cons.cons ?_
  refine Seq.rd0 at6 rfl rfl (O.assign (v := .pointer _) rfl) ?_
  refine Seq.nil ?_
  refine hK3 ?_
  refine Cd.seq (fun K4 hK4 => ?_)
  refine Cd.seq (fun K5 hK5 => ?_)
  refine Cd.region [0, 1] rfl ?_
  refine Seq.rd0 at0 rfl rfl (O.move (v := .pointer _) rfl) ?_
  refine Seq.rd0 at1 rfl rfl (O.eqNil ds_206 rfl rfl) ?_
  refine Seq.nil ?_
  refine hK5 ?_
  refine Cd.condF rfl ?_
  refine Cd.skip ?_
  refine hK4 ?_
  refine Cd.seq (fun K6 hK6 => ?_)
  refine Cd.region [0, 1, 2, 3, 4, 5] rfl ?_
  refine Seq.rd0 at0 rfl rfl (O.move (v := .pointer _) rfl) ?_
  refine Seq.rd0 at1 rfl rfl (O.nilP rfl) ?_
  refine Seq.rd0 at2 rfl rfl (O.field fo_203_1 rfl) ?_
  refine Seq.rd1 at3 rfl rfl (O.load kd_201 rfl r4_1) Rd.head.cons ?_
  refine Seq.rd0 at4 rfl rfl (O.move (v := .int .i64 _) rfl) ?_
  refine Seq.op at5 rfl (Op.gen rfl (O.mapDel (encV := txV) (a := ti) mp_201 kk_i64 hMx rfl (by exact rfl) (A := [(b2, _), (p, _)]) rfl) ?_)
  rintro _ _ ⟨rfl, es3, hMes3, rfl⟩
  refine Seq.nil ?_
  refine hK6 ?_
  refine Cd.seq (fun K7 hK7 => ?_)
  refine Cd.seq (fun K8 hK8 => ?_)
  refine Cd.region [0, 1, 2, 3, 4, 5] rfl ?_
  refine Seq.rd0 at0 rfl rfl (O.move (v := .pointer _) rfl) ?_
  refine Seq.rd0 at1 rfl rfl (O.nilP rfl) ?_
  refine Seq.rd0 at2 rfl rfl (O.field fo_208_1 rfl) ?_
  refine Seq.rd1 at3 rfl rfl (O.load kd_165 rfl r3_2) Rd.head.cons.cons.cons ?_
  refine Seq.rd1 at4 rfl rfl (O.lenM ds_165 rfl) Rd.head.cons.cons.cons.cons ?_
  refine Seq.rd0 at5 rfl rfl (O.eqI rfl rfl) ?_
  refine Seq.nil ?_
  refine hK8 ?_
  refine Cd.if ((es9.size : Int) = 0) rfl (fun t9 => ?_) (fun t9 => ?_)
  · skip
    have he : ws = [] := List.eq_nil_of_length_eq_zero (by omega)
    refine Cd.seq (fun K10 hK10 => ?_)
    refine Cd.region [0, 1, 2, 3, 4, 5, 6] rfl ?_
    refine Seq.rd0 at0 rfl rfl (O.move (v := .pointer _) rfl) ?_
    refine Seq.rd0 at1 rfl rfl (O.nilP rfl) ?_
    refine Seq.rd0 at2 rfl rfl (O.field fo_203_3 rfl) ?_
    refine Seq.rd1 at3 rfl rfl (O.load kd_2 rfl r4_3) Rd.head.cons ?_
    refine Seq.rd0 at4 rfl rfl (O.build rfl (cs := (Stamp_enc (⟨la, 0⟩ : Stamp))) (by kernel_rfl)) ?_
    refine Seq.op at5 rfl (Op.set0 rfl (O.store kd_24 rfl (v := .agg _) rfl (Stamp_size _) (Stamp_room (Stamp_size _)) (Stamp_one _) (Stamp_put _ (Stamp_size _))) ?_)
    refine Seq.rd0 at6 rfl rfl (O.assign (v := .int .i64 _) rfl) ?_
    refine Seq.nil ?_
    refine hK10 ?_
    refine Cd.ret ?_
    exact hR _ ((p, .cells #[.pointer (some ⟨sb, 0, none⟩), .map (some lm), .int .i64 bg, .int .i64 la] 203 (0, 0)) :: (lm, .map es3 ck) :: (L1 ++ (C1 ++ L))) (Res.cell2 (v := .int .i64 _) rfl kd_24 rfl rfl Rd.head rfl) ⟨(⟨la, 0⟩ : Stamp), 0, l, la, es3, L1, rfl, hMes3, hSo, .inl ⟨he, rfl, rfl, rfl, rfl⟩, rfl⟩ (.cons _ (.cons_cons _ (.cons_cons _ (.cons _ (.cons _ (.refl _))))))
  · skip
    have hne : ws ≠ [] := fun h8 => (by assumption : ¬ (es9.size : Int) = 0) (by rw [hms, h8]; rfl)
    refine Cd.skip ?_
    refine hK7 ?_
    refine Cd.seq (fun K11 hK11 => ?_)
    refine Cd.seq (fun K12 hK12 => ?_)
    refine Cd.region [0, 1, 2, 3, 4] rfl ?_
    refine Seq.rd0 at0 rfl rfl (O.move (v := .pointer _) rfl) ?_
    refine Seq.rd0 at1 rfl rfl (O.nilP rfl) ?_
    refine Seq.rd0 at2 rfl rfl (O.field fo_208_1 rfl) ?_
    refine Seq.rd1 at3 rfl rfl (O.load kd_165 rfl r3_2) Rd.head.cons.cons.cons ?_
    refine Seq.op at4 rfl (Op.gen rfl (O.range mp_165 hMw rfl (Rd.head.cons.cons.cons.cons)) ?_)
    rintro _ _ ⟨r, it, hr0, rfl, hi, rfl⟩
    refine Seq.nil ?_
    refine hK12 ?_
    refine Cd.block ?_
    refine Cd.loop (fun m13 e14 L15 => ∃ pre : List (Key × Write), ∃ rest : List (Key × Write), ∃ it : Obj, m13 = rest.length ∧ e14 0 = .pointer (some ⟨p, 0, none⟩) ∧ e14 4 = .pointer (some ⟨b2, 0, none⟩) ∧ e14 6 = .pointer (some ⟨q.1, 0, none⟩) ∧ e14 41 = .pointer (some ⟨r, 0, none⟩) ∧ L15 = (r, it) :: (b2, .cells (Stamp_enc Stamp.zero) 24 (0, 0)) :: (p, .cells #[.pointer (some ⟨sb, 0, none⟩), .map (some lm), .int .i64 bg, .int .i64 la] 203 (0, 0)) :: (lm, .map es3 ck) :: (q.1, .cells #[.int .i64 q.2.1.t, .int .u8 q.2.1.n, .map (some mb)] 208 (0, 0)) :: (mb, .map es9 ck9) :: (L1 ++ ((C1 ++ (L)))) ∧ ItIs keyV wV es9 ck9 mb rest it ∧ (pre ++ rest).Perm ws ∧ (∀ x ∈ pre, conK l q.2.1 x.1 = false)) _ ⟨[], ws, it, rfl, rfl, rfl, rfl, rfl, rfl, hi, by exact .refl _, by intro x hx; simp at hx⟩ ?_
    rintro _ e14 _ ⟨pre, rest, it, rfl, s16, s17, s18, s19, rfl, hi, hp, hz⟩ K20 hK20
    refine Cd.seq (fun K21 hK21 => ?_)
    refine Cd.region [0, 1] rfl ?_
    refine Seq.op at0 rfl (Op.gen rfl (O.next hMw hi (by exact s19) Rd.head.cons.cons.cons.cons.cons) ?_)
    rintro _ _ (⟨rfl, rfl, rfl⟩ | ⟨a, u, rest', it', hpm, rfl, hi', hent, rfl⟩)
    · skip
      refine Seq.rd0 at1 rfl rfl (O.ext rfl r1_0) ?_
      refine Seq.nil ?_
      refine hK21 ?_
      refine Cd.seq (fun K22 hK22 => ?_)
      refine Cd.condF rfl ?_
      refine Cd.exit ?_
      refine hK11 ?_
      refine Cd.seq (fun K23 hK23 => ?_)
      refine Cd.region [0, 1, 2, 3, 4, 5, 6, 7] rfl ?_
      refine Seq.rd0 at0 rfl rfl (O.move (v := .pointer _) (by exact s16)) ?_
      refine Seq.rd0 at1 rfl rfl (O.nilP rfl) ?_
      refine Seq.rd0 at2 rfl rfl (O.field fo_203_3 rfl) ?_
      refine Seq.rd1 at3 rfl rfl (O.load kd_2 rfl r4_3) Rd.head.cons.cons ?_
      refine Seq.rd0 at4 rfl rfl (O.add rfl rfl (by omega) (by omega)) ?_
      refine Seq.rd0 at5 rfl rfl (O.build rfl (cs := (Stamp_enc (⟨(la + 1), 0⟩ : Stamp))) (by kernel_rfl)) ?_
      refine Seq.op at6 rfl (Op.new rfl (O.alloc zo_24 (cs := (Stamp_enc Stamp.zero)) rfl) ?_)
      intro b24 hb24
      refine Seq.op at7 rfl (Op.set0 rfl (O.store kd_24 rfl (v := .agg _) rfl (Stamp_size _) (Stamp_room (Stamp_size _)) (Stamp_one _) (Stamp_put _ (Stamp_size _))) ?_)
      refine Seq.nil ?_
      refine hK23 ?_
      refine Cd.seq (fun K25 hK25 => ?_)
      refine Cd.seq (fun K26 hK26 => ?_)
      refine Cd.draw 12 rfl po ?_
      refine Any.rd0 0 at0 rfl rfl (O.move (v := .pointer _) (by exact s16)) (by kernel_rfl) (by kernel_rfl) (by kernel_rfl) ?_
      refine Any.rd0 1 at1 rfl rfl (O.nilP rfl) (by kernel_rfl) (by kernel_rfl) (by kernel_rfl) ?_
      refine Any.rd0 2 at2 rfl rfl (O.field fo_203_0 rfl) (by kernel_rfl) (by kernel_rfl) (by kernel_rfl) ?_
      refine Any.rd1 3 at3 rfl rfl (O.load kd_137 rfl r4_0) Rd.head.cons.cons.cons (by kernel_rfl) (by kernel_rfl) (by kernel_rfl) ?_
      refine Any.rd1 4 at4 rfl rfl (O.loadA kd_24 rfl (Nat.le_of_ble_eq_true rfl) (Stamp_all _)) Rd.head (by kernel_rfl) (by kernel_rfl) (by kernel_rfl) ?_
      refine Any.rd0 5 at5 rfl rfl (O.move (v := .pointer _) (by exact s18)) (by kernel_rfl) (by kernel_rfl) (by kernel_rfl) ?_
      refine Any.rd0 6 at6 rfl rfl (O.nilP rfl) (by kernel_rfl) (by kernel_rfl) (by kernel_rfl) ?_
      refine Any.rd0 7 at7 rfl rfl (O.field fo_208_1 rfl) (by kernel_rfl) (by kernel_rfl) (by kernel_rfl) ?_
      refine Any.rd1 8 at8 rfl rfl (O.load kd_165 rfl r3_2) Rd.head.cons.cons.cons.cons.cons (by kernel_rfl) (by kernel_rfl) (by kernel_rfl) ?_
      refine Any.one 9 at9 rfl (by kernel_rfl) ⟨⟨⟨trivial, Rd.head.cons.cons.cons⟩, Rd.head⟩, Rd.head.cons.cons.cons.cons.cons⟩ ?_
      have h16' : ws.length ≤ 1000000000 := by omega
      refine Op.callF rfl hb_107 (C_solo_Sorted hMw (Rd.head.cons.cons.cons.cons.cons.cons) h16') rfl ?_
      rintro _ _ ⟨ys, Ly, hpy, hoy, hwy, rfl⟩
      obtain ⟨av, cap, rfl⟩ := OwnSl.form hwy
      refine Ent.perm ?_ (bring (Ls := Ly) (pre := [(b24, _), (r, _), (b2, _), (p, _), (lm, _), (q.1, _), (mb, _)]) (R := (L1 ++ ((C1 ++ (L)))))).symm
      refine Any.toK ?_
      refine Any.one 10 at10 rfl (by kernel_rfl) ⟨⟨⟨trivial, Rd.head.cons.cons.cons⟩, Rd.head⟩, Rd.head.cons.cons.cons.cons.cons⟩ ?_
      have hlen2 : ys.length = ws.length := by rw [hpy.length_eq, List.length_map]
      have hWy : SlAt c (Ly ++ (C1 ++ (L))) Write_enc av ys.length ys := (OwnSl.at_ (R := (C1 ++ (L))) hwy rfl (by omega))
      have hWx : SlAt c ((b24, .cells (Stamp_enc (⟨(la + 1), 0⟩ : Stamp)) 24 (0, 0)) :: (r, it) :: (b2, .cells (Stamp_enc Stamp.zero) 24 (0, 0)) :: (p, .cells #[.pointer (some ⟨sb, 0, none⟩), .map (some lm), .int .i64 bg, .int .i64 la] 203 (0, 0)) :: (lm, .map es3 ck) :: (q.1, .cells #[.int .i64 q.2.1.t, .int .u8 q.2.1.n, .map (some mb)] 208 (0, 0)) :: (mb, .map es9 ck9) :: (Ly ++ ((C1 ++ (L))))) Write_enc av ys.length ys := hWy.cons.cons.cons.cons.cons.cons.cons
      have hWz : SlAt c (((b24, .cells (Stamp_enc (⟨(la + 1), 0⟩ : Stamp)) 24 (0, 0)) :: ((r, it) :: ((b2, .cells (Stamp_enc Stamp.zero) 24 (0, 0)) :: ((p, .cells #[.pointer (some ⟨sb, 0, none⟩), .map (some lm), .int .i64 bg, .int .i64 la] 203 (0, 0)) :: ((lm, .map es3 ck) :: ((q.1, .cells #[.int .i64 q.2.1.t, .int .u8 q.2.1.n, .map (some mb)] 208 (0, 0)) :: ((mb, .map es9 ck9) :: (Ly ++ [])))))))) ++ (C1 ++ (L))) Write_enc av ys.length ys := by simpa using hWx
      refine Op.callF rfl hb_94 (Fn.perm (C_Apply (R := ((b24, .cells (Stamp_enc (⟨(la + 1), 0⟩ : Stamp)) 24 (0, 0)) :: ((r, it) :: ((b2, .cells (Stamp_enc Stamp.zero) 24 (0, 0)) :: ((p, .cells #[.pointer (some ⟨sb, 0, none⟩), .map (some lm), .int .i64 bg, .int .i64 la] 203 (0, 0)) :: ((lm, .map es3 ck) :: ((q.1, .cells #[.int .i64 q.2.1.t, .int .u8 q.2.1.n, .map (some mb)] 208 (0, 0)) :: ((mb, .map es9 ck9) :: (Ly ++ [])))))))) ++ (C1 ++ (L))) (s := (⟨la + 1, 0⟩ : Stamp)) (cw := cap) hSo hWz) (by have h9 := bring (Ls := L1) (pre := ((b24, .cells (Stamp_enc (⟨(la + 1), 0⟩ : Stamp)) 24 (0, 0)) :: ((r, it) :: ((b2, .cells (Stamp_enc Stamp.zero) 24 (0, 0)) :: ((p, .cells #[.pointer (some ⟨sb, 0, none⟩), .map (some lm), .int .i64 bg, .int .i64 la] 203 (0, 0)) :: ((lm, .map es3 ck) :: ((q.1, .cells #[.int .i64 q.2.1.t, .int .u8 q.2.1.n, .map (some mb)] 208 (0, 0)) :: ((mb, .map es9 ck9) :: (Ly ++ []))))))))) (R := (C1 ++ (L))); simpa using h9)) rfl ?_
      rintro _ _ ⟨rfl, l3, L3, hA3, hB3, hS3, rfl⟩
      refine Ent.perm (L' := (b24, .cells (Stamp_enc (⟨(la + 1), 0⟩ : Stamp)) 24 (0, 0)) :: (r, it) :: (b2, .cells (Stamp_enc Stamp.zero) 24 (0, 0)) :: (p, .cells #[.pointer (some ⟨sb, 0, none⟩), .map (some lm), .int .i64 bg, .int .i64 la] 203 (0, 0)) :: (lm, .map es3 ck) :: (q.1, .cells #[.int .i64 q.2.1.t, .int .u8 q.2.1.n, .map (some mb)] 208 (0, 0)) :: (mb, .map es9 ck9) :: (Ly ++ ((L3 ++ ((C1 ++ (L))))))) ?_ (by have h9 := bring (Ls := L3) (pre := ((b24, .cells (Stamp_enc (⟨(la + 1), 0⟩ : Stamp)) 24 (0, 0)) :: ((r, it) :: ((b2, .cells (Stamp_enc Stamp.zero) 24 (0, 0)) :: ((p, .cells #[.pointer (some ⟨sb, 0, none⟩), .map (some lm), .int .i64 bg, .int .i64 la] 203 (0, 0)) :: ((lm, .map es3 ck) :: ((q.1, .cells #[.int .i64 q.2.1.t, .int .u8 q.2.1.n, .map (some mb)] 208 (0, 0)) :: ((mb, .map es9 ck9) :: (Ly ++ []))))))))) (R := (C1 ++ (L))).symm; simpa using h9)
      refine Any.toK ?_
      refine Any.rd0 11 at11 rfl rfl (O.assign (v := .int .i64 _) rfl) (by kernel_rfl) (by kernel_rfl) (by kernel_rfl) ?_
      refine Any.done (by kernel_rfl) ⟨⟨⟨trivial, Rd.head.cons.cons.cons⟩, Rd.head⟩, Rd.head.cons.cons.cons.cons.cons⟩ ?_
      refine hK26 ?_
      refine Cd.seq (fun K27 hK27 => ?_)
      refine Cd.region [0, 1] rfl ?_
      refine Seq.rd0 at0 rfl rfl (O.move (v := .int .i64 _) rfl) ?_
      refine Seq.rd0 at1 rfl rfl (O.neI rfl rfl) ?_
      refine Seq.nil ?_
      refine hK27 ?_
      refine Cd.ifn ((applyE l ⟨la + 1, 0⟩ ys) = 0) rfl (fun t28 => ?_) (fun t28 => ?_)
      · skip
        have hzz : ∀ x ∈ ws, conK l q.2.1 x.1 = false := fun x hx => hz x ((by simpa using hp : pre.Perm ws).mem_iff.2 hx)
        refine Cd.seq (fun K29 hK29 => ?_)
        refine Cd.region [0, 1, 2, 3] rfl ?_
        refine Seq.rd0 at0 rfl rfl (O.build rfl (cs := (Stamp_enc Stamp.zero)) (by kernel_rfl)) ?_
        refine Seq.rd0 at1 rfl rfl (O.move (v := .int .i64 _) rfl) ?_
        refine Seq.op at2 rfl (Op.set2 rfl (O.store kd_24 (by exact s17) (v := .agg _) rfl (Stamp_size _) (Stamp_room (Stamp_size _)) (Stamp_one _) (Stamp_put _ (Stamp_size _))) ?_)
        refine Seq.rd0 at3 rfl rfl (O.assign (v := .int .i64 _) rfl) ?_
        refine Seq.nil ?_
        refine hK29 ?_
        refine Cd.ret ?_
        have hnz : ¬ applyE l ⟨la + 1, 0⟩ ys = 0 := by assumption
        exact hR _ ((p, .cells #[.pointer (some ⟨sb, 0, none⟩), .map (some lm), .int .i64 bg, .int .i64 la] 203 (0, 0)) :: (lm, .map es3 ck) :: (L3 ++ (C1 ++ L))) (Res.cell2 (v := .int .i64 _) rfl kd_24 (by exact s17) rfl Rd.head.cons.cons rfl) ⟨Stamp.zero, (applyE l ⟨la + 1, 0⟩ ys), l3, la, es3, L3, rfl, hMes3, hS3, .inr (.inr ⟨hne, hzz, ys, hpy, hoy, rfl, fun _ => ⟨rfl, hB3 hnz, rfl⟩, fun h => absurd h hnz⟩), rfl⟩ (.cons _ (.cons _ (.cons _ (.cons_cons _ (.cons_cons _ (.cons _ (.cons _ (sub_app (G := Ly) (.refl _)))))))))
      · skip
        have hzz : ∀ x ∈ ws, conK l q.2.1 x.1 = false := fun x hx => hz x ((by simpa using hp : pre.Perm ws).mem_iff.2 hx)
        refine Cd.skip ?_
        refine hK25 ?_
        refine Cd.seq (fun K30 hK30 => ?_)
        refine Cd.region [0, 1, 2, 3, 4, 5, 6, 7] rfl ?_
        refine Seq.rd0 at0 rfl rfl (O.move (v := .pointer _) (by exact s16)) ?_
        refine Seq.rd0 at1 rfl rfl (O.nilP rfl) ?_
        refine Seq.rd0 at2 rfl rfl (O.field fo_203_3 rfl) ?_
        refine Seq.rd1 at3 rfl rfl (O.load kd_2 rfl r4_3) Rd.head.cons.cons.cons ?_
        refine Seq.rd0 at4 rfl rfl (O.add rfl rfl (by omega) (by omega)) ?_
        refine Seq.rd0 at5 rfl rfl (O.nilP rfl) ?_
        refine Seq.rd0 at6 rfl rfl (O.field fo_203_3 rfl) ?_
        refine Seq.op at7 rfl (Op.set3 rfl (O.store1 kd_2 rfl (v := .int .i64 _) rfl (Nat.le_of_ble_eq_true rfl) rfl (cs' := #[.pointer (some ⟨sb, 0, none⟩), .map (some lm), .int .i64 bg, .int .i64 (la + 1)]) rfl) ?_)
        refine Seq.nil ?_
        refine hK30 ?_
        refine Cd.seq (fun K31 hK31 => ?_)
        refine Cd.region [0, 1, 2] rfl ?_
        refine Seq.rd1 at0 rfl rfl (O.loadA kd_24 rfl (Nat.le_of_ble_eq_true rfl) (Stamp_all _)) Rd.head ?_
        refine Seq.op at1 rfl (Op.set2 rfl (O.store kd_24 (by exact s17) (v := .agg _) rfl (Stamp_size _) (Stamp_room (Stamp_size _)) (Stamp_one _) (Stamp_put _ (Stamp_size _))) ?_)
        refine Seq.rd0 at2 rfl rfl (O.assign (v := .int .i64 _) rfl) ?_
        refine Seq.nil ?_
        refine hK31 ?_
        refine Cd.ret ?_
        have hz0 : applyE l ⟨la + 1, 0⟩ ys = 0 := by assumption
        exact hR _ ((p, .cells #[.pointer (some ⟨sb, 0, none⟩), .map (some lm), .int .i64 bg, .int .i64 (la + 1)] 203 (0, 0)) :: (lm, .map es3 ck) :: (L3 ++ (C1 ++ L))) (Res.cell2 (v := .int .i64 _) rfl kd_24 (by exact s17) rfl Rd.head.cons.cons rfl) ⟨(⟨(la + 1), 0⟩ : Stamp), 0, l3, (la + 1), es3, L3, rfl, hMes3, hS3, .inr (.inr ⟨hne, hzz, ys, hpy, hoy, hz0.symm, fun h => absurd rfl h, fun _ => ⟨rfl, rfl, hA3 hz0⟩⟩), rfl⟩ (.cons _ (.cons _ (.cons _ (.cons_cons _ (.cons_cons _ (.cons _ (.cons _ (sub_app (G := Ly) (.refl _)))))))))
    · skip
      refine Seq.rd0 at1 rfl rfl (O.ext rfl r3_0) ?_
      refine Seq.nil ?_
      refine hK21 ?_
      refine Cd.seq (fun K32 hK32 => ?_)
      refine Cd.condT rfl ?_
      refine Cd.skip ?_
      refine hK32 ?_
      refine Cd.block ?_
      refine Cd.seq (fun K33 hK33 => ?_)
      refine Cd.region [0, 1, 2, 3] rfl ?_
      refine Seq.op at0 rfl (Op.gen rfl (hent _ _ (by exact s19) Rd.head Rd.head.cons.cons.cons.cons.cons) ?_)
      rintro _ _ ⟨rfl, rfl⟩
      refine Seq.rd0 at1 rfl rfl (O.ext rfl r2_0) ?_
      refine Seq.op at2 rfl (Op.new rfl (O.alloc zo_45 (cs := (Key_enc Key.zero)) rfl) ?_)
      intro b34 hb34
      refine Seq.op at3 rfl (Op.set0 rfl (O.store kd_45 rfl (v := .agg _) rfl (Key_size _) (Key_room (Key_size _)) (Key_one _) (Key_put _ (Key_size _))) ?_)
      refine Seq.nil ?_
      refine hK33 ?_
      refine Cd.seq (fun K35 hK35 => ?_)
      refine Cd.draw 12 rfl po ?_
      refine Any.rd0 0 at0 rfl rfl (O.move (v := .pointer _) (by exact s16)) (by kernel_rfl) (by kernel_rfl) (by kernel_rfl) ?_
      refine Any.rd0 1 at1 rfl rfl (O.nilP rfl) (by kernel_rfl) (by kernel_rfl) (by kernel_rfl) ?_
      refine Any.rd0 2 at2 rfl rfl (O.field fo_203_0 rfl) (by kernel_rfl) (by kernel_rfl) (by kernel_rfl) ?_
      refine Any.rd1 3 at3 rfl rfl (O.load kd_137 rfl r4_0) Rd.head.cons.cons.cons (by kernel_rfl) (by kernel_rfl) (by kernel_rfl) ?_
      refine Any.rd1 4 at4 rfl rfl (O.loadA kd_45 rfl (Nat.le_of_ble_eq_true rfl) (Key_all _)) Rd.head (by kernel_rfl) (by kernel_rfl) (by kernel_rfl) ?_
      refine Any.two 5 9 at5 at9 rfl rfl (by kernel_rfl) ⟨⟨trivial, Rd.head.cons.cons.cons⟩, Rd.head⟩ ?_ ?_
      · skip
        refine Op.callF rfl hb_131 (C_store_Newest (k := a) (hSr.cons.cons.cons.cons.cons.cons.cons)) rfl ?_
        rintro _ _ ⟨rfl, rfl⟩
        refine Any.toK ?_
        refine Any.rd0 6 at6 rfl rfl (O.move (v := .tuple _) rfl) (by kernel_rfl) (by kernel_rfl) (by kernel_rfl) ?_
        refine Any.rd0 7 at7 rfl rfl (O.ext rfl r2_0) (by kernel_rfl) (by kernel_rfl) (by kernel_rfl) ?_
        refine Any.rd0 8 at8 rfl rfl (O.ext rfl r2_1) (by kernel_rfl) (by kernel_rfl) (by kernel_rfl) ?_
        refine Any.one 9 at9 rfl (by kernel_rfl) ⟨⟨trivial, Rd.head.cons.cons.cons⟩, Rd.head⟩ ?_
        refine Op.new rfl (O.alloc zo_24 (cs := (Stamp_enc Stamp.zero)) rfl) ?_
        intro b36 hb36
        refine Any.toK ?_
        refine Any.one 10 at10 rfl (by kernel_rfl) ⟨⟨trivial, Rd.head.cons.cons.cons.cons⟩, Rd.head.cons⟩ ?_
        refine Op.set0 rfl (O.store kd_24 rfl (v := .agg _) rfl (Stamp_size _) (Stamp_room (Stamp_size _)) (Stamp_one _) (Stamp_put _ (Stamp_size _))) ?_
        refine Any.toK ?_
        refine Any.rd0 11 at11 rfl rfl (O.assign (v := .bool _) rfl) (by kernel_rfl) (by kernel_rfl) (by kernel_rfl) ?_
        refine Any.done (by kernel_rfl) ⟨⟨trivial, Rd.head.cons.cons.cons.cons⟩, Rd.head.cons⟩ ?_
        refine hK35 ?_
        refine Cd.seq (fun K37 hK37 => ?_)
        refine Cd.draw 10 rfl po ?_
        refine Any.rd0 0 at0 rfl rfl (O.move (v := .bool _) rfl) (by kernel_rfl) (by kernel_rfl) (by kernel_rfl) ?_
        refine Any.rd0 1 at1 rfl rfl (O.move (v := .bool _) rfl) (by kernel_rfl) (by kernel_rfl) (by kernel_rfl) ?_
        cases t38 : (newestV (getS l a)).isSome
        · skip
          refine Any.pass 2 at2 rfl rfl (by kernel_rfl) (by kernel_rfl) (by kernel_rfl) ?_
          refine Any.pass 3 at3 rfl rfl (by kernel_rfl) (by kernel_rfl) (by kernel_rfl) ?_
          refine Any.pass 4 at4 rfl rfl (by kernel_rfl) (by kernel_rfl) (by kernel_rfl) ?_
          refine Any.pass 5 at5 rfl rfl (by kernel_rfl) (by kernel_rfl) (by kernel_rfl) ?_
          refine Any.pass 6 at6 rfl rfl (by kernel_rfl) (by kernel_rfl) (by kernel_rfl) ?_
          refine Any.pass 7 at7 rfl rfl (by kernel_rfl) (by kernel_rfl) (by kernel_rfl) ?_
          refine Any.pass 8 at8 rfl rfl (by kernel_rfl) (by kernel_rfl) (by kernel_rfl) ?_
          refine Any.rd0 9 at9 rfl rfl (O.pickF (v := .bool _) rfl rfl) (by kernel_rfl) (by kernel_rfl) (by kernel_rfl) ?_
          refine Any.done (by kernel_rfl) trivial ?_
          refine hK37 ?_
          refine Cd.condF rfl ?_
          refine Cd.skip ?_
          refine Ent.drop ?_
          refine Ent.drop ?_
          exact hK20 _ (step_dec hpm) ⟨pre ++ [(a, u)], rest', it', rfl, (by exact s16), (by exact s17), (by exact s18), (by exact s19), rfl, hi', permM hp hpm, conN hz (by unfold conK; simp_all)⟩
        · skip
          refine Any.rd1 2 at2 rfl rfl (O.loadA kd_24 rfl (Nat.le_of_ble_eq_true rfl) (Stamp_all _)) Rd.head (by kernel_rfl) (by kernel_rfl) (by kernel_rfl) ?_
          refine Any.rd0 3 at3 rfl rfl (O.move (v := .pointer _) (by exact s18)) (by kernel_rfl) (by kernel_rfl) (by kernel_rfl) ?_
          refine Any.rd0 4 at4 rfl rfl (O.nilP rfl) (by kernel_rfl) (by kernel_rfl) (by kernel_rfl) ?_
          refine Any.rd0 5 at5 rfl rfl (O.field fo_208_0 rfl) (by kernel_rfl) (by kernel_rfl) (by kernel_rfl) ?_
          refine Any.rd1 6 at6 rfl rfl (O.loadA kd_24 rfl (Nat.le_of_ble_eq_true rfl) rfl) Rd.head.cons.cons.cons.cons.cons.cons (by kernel_rfl) (by kernel_rfl) (by kernel_rfl) ?_
          refine Any.one 7 at7 rfl (by kernel_rfl) ⟨⟨trivial, Rd.head⟩, Rd.head.cons.cons.cons.cons.cons.cons⟩ ?_
          refine Op.callF rfl hb_132 C_stamp_Cmp rfl ?_
          rintro _ _ ⟨rfl, rfl⟩
          refine Any.toK ?_
          refine Any.rd0 8 at8 rfl rfl (O.gtr rfl rfl) (by kernel_rfl) (by kernel_rfl) (by kernel_rfl) ?_
          refine Any.rd0 9 at9 rfl rfl (O.pickT (v := .bool _) rfl rfl) (by kernel_rfl) (by kernel_rfl) (by kernel_rfl) ?_
          refine Any.done (by kernel_rfl) ⟨⟨trivial, Rd.head⟩, Rd.head.cons.cons.cons.cons.cons.cons⟩ ?_
          refine hK37 ?_
          refine Cd.if ((0 : Int) < ((((newestV (getS l a)).getD .zero).stamp).cmp q.2.1)) rfl (fun t39 => ?_) (fun t39 => ?_)
          · skip
            refine Cd.seq (fun K40 hK40 => ?_)
            refine Cd.region [0, 1, 2] rfl ?_
            refine Seq.rd0 at0 rfl rfl (O.build rfl (cs := (Stamp_enc Stamp.zero)) (by kernel_rfl)) ?_
            refine Seq.op at1 rfl (Op.set3 rfl (O.store kd_24 (by exact s17) (v := .agg _) rfl (Stamp_size _) (Stamp_room (Stamp_size _)) (Stamp_one _) (Stamp_put _ (Stamp_size _))) ?_)
            refine Seq.rd0 at2 rfl rfl (O.assign (v := .int .i64 _) rfl) ?_
            refine Seq.nil ?_
            refine hK40 ?_
            refine Cd.ret ?_
            exact hR _ ((p, .cells #[.pointer (some ⟨sb, 0, none⟩), .map (some lm), .int .i64 bg, .int .i64 la] 203 (0, 0)) :: (lm, .map es3 ck) :: (L1 ++ (C1 ++ L))) (Res.cell2 (v := .int .i64 _) rfl kd_24 (by exact s17) rfl Rd.head.cons.cons.cons rfl) ⟨Stamp.zero, 9, l, la, es3, L1, rfl, hMes3, hSo, .inr (.inl ⟨hne, ⟨_, permQ hp hpm, by unfold conK; simp_all⟩, rfl, rfl, rfl, rfl⟩), rfl⟩ (.cons _ (.cons _ (.cons _ (.cons _ (.cons_cons _ (.cons_cons _ (.cons _ (.cons _ (.refl _)))))))))
          · skip
            refine Cd.skip ?_
            refine Ent.drop ?_
            refine Ent.drop ?_
            exact hK20 _ (step_dec hpm) ⟨pre ++ [(a, u)], rest', it', rfl, (by exact s16), (by exact s17), (by exact s18), (by exact s19), rfl, hi', permM hp hpm, conN hz (by unfold conK; simp_all)⟩
      · skip
        refine Op.new rfl (O.alloc zo_24 (cs := (Stamp_enc Stamp.zero)) rfl) ?_
        intro b41 hb41
        refine Any.toK ?_
        refine Any.one 5 at5 rfl (by kernel_rfl) ⟨⟨trivial, Rd.head.cons.cons.cons.cons⟩, Rd.head.cons⟩ ?_
        refine Op.callF rfl hb_131 (C_store_Newest (k := a) (hSr.cons.cons.cons.cons.cons.cons.cons.cons)) rfl ?_
        rintro _ _ ⟨rfl, rfl⟩
        refine Any.toK ?_
        refine Any.rd0 6 at6 rfl rfl (O.move (v := .tuple _) rfl) (by kernel_rfl) (by kernel_rfl) (by kernel_rfl) ?_
        refine Any.rd0 7 at7 rfl rfl (O.ext rfl r2_0) (by kernel_rfl) (by kernel_rfl) (by kernel_rfl) ?_
        refine Any.rd0 8 at8 rfl rfl (O.ext rfl r2_1) (by kernel_rfl) (by kernel_rfl) (by kernel_rfl) ?_
        refine Any.one 10 at10 rfl (by kernel_rfl) ⟨⟨trivial, Rd.head.cons.cons.cons.cons⟩, Rd.head.cons⟩ ?_
        refine Op.set0 rfl (O.store kd_24 rfl (v := .agg _) rfl (Stamp_size _) (Stamp_room (Stamp_size _)) (Stamp_one _) (Stamp_put _ (Stamp_size _))) ?_
        refine Any.toK ?_
        refine Any.rd0 11 at11 rfl rfl (O.assign (v := .bool _) rfl) (by kernel_rfl) (by kernel_rfl) (by kernel_rfl) ?_
        refine Any.done (by kernel_rfl) ⟨⟨trivial, Rd.head.cons.cons.cons.cons⟩, Rd.head.cons⟩ ?_
        refine hK35 ?_
        refine Cd.seq (fun K42 hK42 => ?_)
        refine Cd.draw 10 rfl po ?_
        refine Any.rd0 0 at0 rfl rfl (O.move (v := .bool _) rfl) (by kernel_rfl) (by kernel_rfl) (by kernel_rfl) ?_
        refine Any.rd0 1 at1 rfl rfl (O.move (v := .bool _) rfl) (by kernel_rfl) (by kernel_rfl) (by kernel_rfl) ?_
        cases t43 : (newestV (getS l a)).isSome
        · skip
          refine Any.pass 2 at2 rfl rfl (by kernel_rfl) (by kernel_rfl) (by kernel_rfl) ?_
          refine Any.pass 3 at3 rfl rfl (by kernel_rfl) (by kernel_rfl) (by kernel_rfl) ?_
          refine Any.pass 4 at4 rfl rfl (by kernel_rfl) (by kernel_rfl) (by kernel_rfl) ?_
          refine Any.pass 5 at5 rfl rfl (by kernel_rfl) (by kernel_rfl) (by kernel_rfl) ?_
          refine Any.pass 6 at6 rfl rfl (by kernel_rfl) (by kernel_rfl) (by kernel_rfl) ?_
          refine Any.pass 7 at7 rfl rfl (by kernel_rfl) (by kernel_rfl) (by kernel_rfl) ?_
          refine Any.pass 8 at8 rfl rfl (by kernel_rfl) (by kernel_rfl) (by kernel_rfl) ?_
          refine Any.rd0 9 at9 rfl rfl (O.pickF (v := .bool _) rfl rfl) (by kernel_rfl) (by kernel_rfl) (by kernel_rfl) ?_
          refine Any.done (by kernel_rfl) trivial ?_
          refine hK42 ?_
          refine Cd.condF rfl ?_
          refine Cd.skip ?_
          refine Ent.drop ?_
          refine Ent.drop ?_
          exact hK20 _ (step_dec hpm) ⟨pre ++ [(a, u)], rest', it', rfl, (by exact s16), (by exact s17), (by exact s18), (by exact s19), rfl, hi', permM hp hpm, conN hz (by unfold conK; simp_all)⟩
        · skip
          refine Any.rd1 2 at2 rfl rfl (O.loadA kd_24 rfl (Nat.le_of_ble_eq_true rfl) (Stamp_all _)) Rd.head (by kernel_rfl) (by kernel_rfl) (by kernel_rfl) ?_
          refine Any.rd0 3 at3 rfl rfl (O.move (v := .pointer _) (by exact s18)) (by kernel_rfl) (by kernel_rfl) (by kernel_rfl) ?_
          refine Any.rd0 4 at4 rfl rfl (O.nilP rfl) (by kernel_rfl) (by kernel_rfl) (by kernel_rfl) ?_
          refine Any.rd0 5 at5 rfl rfl (O.field fo_208_0 rfl) (by kernel_rfl) (by kernel_rfl) (by kernel_rfl) ?_
          refine Any.rd1 6 at6 rfl rfl (O.loadA kd_24 rfl (Nat.le_of_ble_eq_true rfl) rfl) Rd.head.cons.cons.cons.cons.cons.cons (by kernel_rfl) (by kernel_rfl) (by kernel_rfl) ?_
          refine Any.one 7 at7 rfl (by kernel_rfl) ⟨⟨trivial, Rd.head⟩, Rd.head.cons.cons.cons.cons.cons.cons⟩ ?_
          refine Op.callF rfl hb_132 C_stamp_Cmp rfl ?_
          rintro _ _ ⟨rfl, rfl⟩
          refine Any.toK ?_
          refine Any.rd0 8 at8 rfl rfl (O.gtr rfl rfl) (by kernel_rfl) (by kernel_rfl) (by kernel_rfl) ?_
          refine Any.rd0 9 at9 rfl rfl (O.pickT (v := .bool _) rfl rfl) (by kernel_rfl) (by kernel_rfl) (by kernel_rfl) ?_
          refine Any.done (by kernel_rfl) ⟨⟨trivial, Rd.head⟩, Rd.head.cons.cons.cons.cons.cons.cons⟩ ?_
          refine hK42 ?_
          refine Cd.if ((0 : Int) < ((((newestV (getS l a)).getD .zero).stamp).cmp q.2.1)) rfl (fun t44 => ?_) (fun t44 => ?_)
          · skip
            refine Cd.seq (fun K45 hK45 => ?_)
            refine Cd.region [0, 1, 2] rfl ?_
            refine Seq.rd0 at0 rfl rfl (O.build rfl (cs := (Stamp_enc Stamp.zero)) (by kernel_rfl)) ?_
            refine Seq.op at1 rfl (Op.set3 rfl (O.store kd_24 (by exact s17) (v := .agg _) rfl (Stamp_size _) (Stamp_room (Stamp_size _)) (Stamp_one _) (Stamp_put _ (Stamp_size _))) ?_)
            refine Seq.rd0 at2 rfl rfl (O.assign (v := .int .i64 _) rfl) ?_
            refine Seq.nil ?_
            refine hK45 ?_
            refine Cd.ret ?_
            exact hR _ ((p, .cells #[.pointer (some ⟨sb, 0, none⟩), .map (some lm), .int .i64 bg, .int .i64 la] 203 (0, 0)) :: (lm, .map es3 ck) :: (L1 ++ (C1 ++ L))) (Res.cell2 (v := .int .i64 _) rfl kd_24 (by exact s17) rfl Rd.head.cons.cons.cons rfl) ⟨Stamp.zero, 9, l, la, es3, L1, rfl, hMes3, hSo, .inr (.inl ⟨hne, ⟨_, permQ hp hpm, by unfold conK; simp_all⟩, rfl, rfl, rfl, rfl⟩), rfl⟩ (.cons _ (.cons _ (.cons _ (.cons _ (.cons_cons _ (.cons_cons _ (.cons _ (.cons _ (.refl _)))))))))
          · skip
            refine Cd.skip ?_
            refine Ent.drop ?_
            refine Ent.drop ?_
            exact hK20 _ (step_dec hpm) ⟨pre ++ [(a, u)], rest', it', rfl, (by exact s16), (by exact s17), (by exact s18), (by exact s19), rfl, hi', permM hp hpm, conN hz (by unfold conK; simp_all)⟩

end Go.X

namespace Go.X
open Go.Proofs

/-! ## chain.Trim -/
def trimN (vs : List Version) (s : Stamp) : Nat := if 0 < upto vs s ∧ ((vs[upto vs s - 1]?).getD .zero).gone = false then upto vs s - 1 else upto vs s
theorem trimN_le {vs : List Version} {s : Stamp} (h : Sorted vs) : trimN vs s ≤ vs.length := by
  have := upto_le (s := s) h
  unfold trimN; split <;> omega
theorem rows_cut {α : Type} {enc : α → Array Value} {xs : List α} {sp : Array Value} (i : Nat) : rows enc xs ++ sp = rows enc (xs.take i) ++ (rows enc (xs.drop i) ++ sp) := by
  rw [← Array.append_assoc, ← rows_append, List.take_append_drop]
theorem SlAt.dropL {c : Cx} {L : List Pt} {α : Type} {enc : α → Array Value} {xs : List α} {sp : Array Value} {b cap el sz : Nat} {fz : Nat × Nat} {i : Int} (hs : ∀ x, (enc x).size = sz) (hb : Rd c L b (.cells (rows enc xs ++ sp) el fz)) (_h0 : 0 ≤ i) (h1 : i ≤ xs.length) (hcap : xs.length ≤ cap) (hlt : xs.length < 4611686018427387904) :
    SlAt c L enc (some (if cap = i.toNat then ⟨b, 0, none⟩ else ⟨b, 0 + i.toNat * sz, none⟩)) (xs.length - i.toNat) (xs.drop i.toNat) := by
  refine ⟨by rw [List.length_drop], by omega, fun hne => ?_⟩
  have hl : i.toNat < xs.length := by
    rcases Nat.lt_or_ge i.toNat xs.length with h | h
    · exact h
    · exact absurd (List.drop_eq_nil_of_le h) hne
  rw [if_neg (by omega)]
  have hz : (rows enc (xs.take i.toNat)).size = i.toNat * sz := by rw [rows_size hs, List.length_take, Nat.min_eq_left (by omega)]
  refine ⟨rows enc (xs.take i.toNat), sp, el, fz, by rw [hz, Nat.zero_add]; rfl, ?_⟩
  rw [← rows_cut]; exact hb

set_option maxRecDepth 100000 in
set_option maxHeartbeats 2000000 in
theorem C_Trim_nil {c : Cx} {L : List Pt} {cb : Nat} {s : Stamp} : Fn Tryz.prog 204 #[.pointer (some ⟨cb, 0, none⟩), .agg (Stamp_enc s)] c ((cb, .cells #[.slice none 0 0] 300 (0, 0)) :: L) (fun v L' => v = .int .i64 (trimN [] s : Nat) ∧ ∃ G', One cb (List.drop (trimN [] s) []) G' ∧ L' = G' ++ L) := by
  refine Fn.enter Tryz.func204 rfl 36 rfl rfl (fun R hR => ?_)
  refine Cd.seq (fun K1 hK1 => ?_)
  refine Cd.region [0, 1] rfl ?_
  refine Seq.op at0 rfl (Op.new rfl (O.box (v := .agg _) rfl (cs := (Stamp_enc s)) rfl) ?_)
  intro b2 hb2
  refine Seq.rd0 at1 rfl rfl (O.assign (v := .int .i64 _) rfl) ?_
  refine Seq.nil ?_
  refine hK1 ?_
  refine Cd.seq (fun K3 hK3 => ?_)
  refine Cd.region [0, 1, 2, 3] rfl ?_
  refine Seq.rd0 at0 rfl rfl (O.move (v := .pointer _) rfl) ?_
  refine Seq.rd1 at1 rfl rfl (O.loadA kd_24 rfl (Nat.le_of_ble_eq_true rfl) (Stamp_all _)) Rd.head ?_
  refine Seq.op at2 rfl (Op.callF rfl hb_226 (C_until .nil (by decide) (.inl ⟨rfl, Rd.head.cons⟩)) rfl ?_)
  rintro _ _ ⟨rfl, rfl⟩
  refine Seq.rd0 at3 rfl rfl (O.assign (v := .int .i64 _) rfl) ?_
  refine Seq.nil ?_
  refine hK3 ?_
  refine Cd.seq (fun K4 hK4 => ?_)
  refine Cd.seq (fun K5 hK5 => ?_)
  refine Cd.region [0, 1, 2, 3, 4, 5, 6, 7, 8, 9, 10, 11, 12, 13] rfl ?_
  refine Seq.rd0 at0 rfl rfl (O.move (v := .int .i64 _) rfl) ?_
  refine Seq.rd0 at1 rfl rfl (O.gtr rfl rfl) ?_
  refine Seq.rd0 at2 rfl rfl (O.move (v := .bool _) rfl) ?_
  have t6 : ¬ ((0 : Int) < ((upto [] s : Nat) : Int)) := by have : upto [] s = 0 := rfl; omega
  rw [decide_eq_false t6]
  refine Seq.pass at3 rfl rfl ?_
  refine Seq.pass at4 rfl rfl ?_
  refine Seq.pass at5 rfl rfl ?_
  refine Seq.pass at6 rfl rfl ?_
  refine Seq.pass at7 rfl rfl ?_
  refine Seq.pass at8 rfl rfl ?_
  refine Seq.pass at9 rfl rfl ?_
  refine Seq.pass at10 rfl rfl ?_
  refine Seq.pass at11 rfl rfl ?_
  refine Seq.pass at12 rfl rfl ?_
  refine Seq.rd0 at13 rfl rfl (O.pickF (v := .bool _) rfl rfl) ?_
  refine Seq.nil ?_
  refine hK5 ?_
  refine Cd.condF rfl ?_
  refine Cd.skip ?_
  refine hK4 ?_
  refine Cd.seq (fun K7 hK7 => ?_)
  refine Cd.region [0, 1, 2, 3, 4, 5, 6, 7, 8, 9, 10] rfl ?_
  refine Seq.rd0 at0 rfl rfl (O.move (v := .pointer _) rfl) ?_
  refine Seq.rd0 at1 rfl rfl (O.move (v := .pointer _) rfl) ?_
  refine Seq.rd0 at2 rfl rfl (O.nilP rfl) ?_
  refine Seq.rd0 at3 rfl rfl (O.field fo_300_0 rfl) ?_
  refine Seq.rd1 at4 rfl rfl (O.load kd_239 rfl r1_0) Rd.head.cons ?_
  refine Seq.rd0 at5 rfl rfl (O.move (v := .int .i64 _) rfl) ?_
  refine Seq.rd0 at6 rfl rfl (O.sliceNil sl_239 rfl rfl) ?_
  refine Seq.op at7 rfl (Op.callF rfl hb_240 (C_Clone_Version (xs := []) ⟨rfl, by decide, fun h => absurd rfl h⟩ (by simp)) rfl ?_)
  rintro _ _ ⟨avc, capc, Lc, rfl, hoc, rfl⟩
  refine Ent.perm ?_ (bring (Ls := Lc) (pre := [(b2, _), (cb, _)]) (R := L)).symm
  refine Seq.rd0 at8 rfl rfl (O.nilP rfl) ?_
  refine Seq.rd0 at9 rfl rfl (O.field fo_300_0 rfl) ?_
  refine Seq.op at10 rfl (Op.set1 rfl (O.store1 kd_239 rfl (v := .slice _ _ _) rfl (Nat.le_of_ble_eq_true rfl) rfl (cs' := #[.slice avc 0 capc]) rfl) ?_)
  refine Seq.nil ?_
  refine hK7 ?_
  refine Cd.seq (fun K8 hK8 => ?_)
  refine Cd.region [0, 1] rfl ?_
  refine Seq.rd0 at0 rfl rfl (O.move (v := .int .i64 _) rfl) ?_
  refine Seq.rd0 at1 rfl rfl (O.assign (v := .int .i64 _) rfl) ?_
  refine Seq.nil ?_
  refine hK8 ?_
  refine Cd.ret ?_
  exact hR _ ((cb, .cells #[.slice avc 0 capc] 300 (0, 0)) :: (Lc ++ L)) (Res.one (v := .int .i64 _) rfl rfl) ⟨rfl, (cb, .cells #[.slice avc 0 capc] 300 (0, 0)) :: Lc, ⟨avc, capc, Lc, rfl, hoc, .nil, by simp⟩, rfl⟩ (.cons _ (.refl _))

set_option maxRecDepth 100000 in
set_option maxHeartbeats 2000000 in
theorem C_Trim_own {c : Cx} {L : List Pt} {cb b cap : Nat} {vs : List Version} {s : Stamp} {sp : Array Value} (hs : Sorted vs) (h50 : vs.length ≤ 50) (hcap : vs.length ≤ cap) : Fn Tryz.prog 204 #[.pointer (some ⟨cb, 0, none⟩), .agg (Stamp_enc s)] c ((cb, .cells #[.slice (some ⟨b, 0, none⟩) vs.length cap] 300 (0, 0)) :: (b, .cells (rows Version_enc vs ++ sp) 242 (0, 0)) :: L) (fun v L' => v = .int .i64 (trimN vs s : Nat) ∧ ∃ G', One cb (List.drop (trimN vs s) vs) G' ∧ L' = G' ++ L) := by
  refine Fn.enter Tryz.func204 rfl 36 rfl rfl (fun R hR => ?_)
  refine Cd.seq (fun K1 hK1 => ?_)
  refine Cd.region [0, 1] rfl ?_
  refine Seq.op at0 rfl (Op.new rfl (O.box (v := .agg _) rfl (cs := (Stamp_enc s)) rfl) ?_)
  intro b2 hb2
  refine Seq.rd0 at1 rfl rfl (O.assign (v := .int .i64 _) rfl) ?_
  refine Seq.nil ?_
  refine hK1 ?_
  refine Cd.seq (fun K3 hK3 => ?_)
  refine Cd.region [0, 1, 2, 3] rfl ?_
  refine Seq.rd0 at0 rfl rfl (O.move (v := .pointer _) rfl) ?_
  refine Seq.rd1 at1 rfl rfl (O.loadA kd_24 rfl (Nat.le_of_ble_eq_true rfl) (Stamp_all _)) Rd.head ?_
  refine Seq.op at2 rfl (Op.callF rfl hb_226 (C_until hs (by omega) (.inr ⟨_, _, _, Rd.head.cons, Rd.head.cons.cons⟩)) rfl ?_)
  rintro _ _ ⟨rfl, rfl⟩
  have hul := upto_le (s := s) hs
  refine Seq.rd0 at3 rfl rfl (O.assign (v := .int .i64 _) rfl) ?_
  refine Seq.nil ?_
  refine hK3 ?_
  refine Cd.seq (fun K4 hK4 => ?_)
  refine Cd.seq (fun K5 hK5 => ?_)
  refine Cd.region [0, 1, 2, 3, 4, 5, 6, 7, 8, 9, 10, 11, 12, 13] rfl ?_
  refine Seq.rd0 at0 rfl rfl (O.move (v := .int .i64 _) rfl) ?_
  refine Seq.rd0 at1 rfl rfl (O.gtr rfl rfl) ?_
  refine Seq.rd0 at2 rfl rfl (O.move (v := .bool _) rfl) ?_
  by_cases t6 : (0 : Int) < ((upto vs s : Nat) : Int)
  · rw [decide_eq_true t6]
    refine Seq.rd0 at3 rfl rfl (O.move (v := .pointer _) rfl) ?_
    refine Seq.rd0 at4 rfl rfl (O.nilP rfl) ?_
    refine Seq.rd0 at5 rfl rfl (O.field fo_300_0 rfl) ?_
    refine Seq.rd1 at6 rfl rfl (O.load kd_239 rfl r1_0) Rd.head.cons ?_
    refine Seq.rd0 at7 rfl rfl (O.move (v := .int .i64 _) rfl) ?_
    refine Seq.rd0 at8 rfl rfl (O.sub rfl rfl (by omega) (by omega)) ?_
    refine Seq.rd0 at9 rfl rfl (O.index sl_239 rfl rfl (by omega) (by omega)) ?_
    refine Seq.rd0 at10 rfl rfl (O.field fo_242_2 rfl) ?_
    refine Seq.rd1 at11 rfl rfl (O.load kd_4 rfl ((rowGet Version_size (uptoN hs (by omega)) (by decide)).trans (Version_gone _))) Rd.head.cons.cons ?_
    refine Seq.rd0 at12 rfl rfl (O.not rfl) ?_
    refine Seq.rd0 at13 rfl rfl (O.pickT (v := .bool _) rfl rfl) ?_
    refine Seq.nil ?_
    refine hK5 ?_
    refine Cd.cond (!((vs[upto vs s - 1]).gone)) rfl (fun t7 => ?_) (fun t7 => ?_)
    · skip
      refine Cd.region [0, 1, 2] rfl ?_
      refine Seq.rd0 at0 rfl rfl (O.move (v := .int .i64 _) rfl) ?_
      refine Seq.rd0 at1 rfl rfl (O.sub rfl rfl (by omega) (by omega)) ?_
      refine Seq.rd0 at2 rfl rfl (O.assign (v := .int .i64 _) rfl) ?_
      refine Seq.nil ?_
      refine hK4 ?_
      refine Cd.seq (fun K8 hK8 => ?_)
      refine Cd.region [0, 1, 2, 3, 4, 5, 6, 7, 8, 9, 10] rfl ?_
      refine Seq.rd0 at0 rfl rfl (O.move (v := .pointer _) rfl) ?_
      refine Seq.rd0 at1 rfl rfl (O.move (v := .pointer _) rfl) ?_
      refine Seq.rd0 at2 rfl rfl (O.nilP rfl) ?_
      refine Seq.rd0 at3 rfl rfl (O.field fo_300_0 rfl) ?_
      refine Seq.rd1 at4 rfl rfl (O.load kd_239 rfl r1_0) Rd.head.cons ?_
      refine Seq.rd0 at5 rfl rfl (O.move (v := .int .i64 _) rfl) ?_
      refine Seq.rd0 at6 rfl rfl (O.sliceL sl_239 rfl rfl (by omega) (by omega)) ?_
      refine Seq.op at7 rfl (Op.callF rfl hb_240 (C_Clone_Version (SlAt.dropL Version_size (Rd.head.cons.cons) (by omega) (by omega) hcap (by omega)) (by omega)) rfl ?_)
      rintro _ _ ⟨avc, capc, Lc, rfl, hoc, rfl⟩
      refine Ent.perm ?_ (bring (Ls := Lc) (pre := [(b2, _), (cb, _), (b, _)]) (R := L)).symm
      refine Seq.rd0 at8 rfl rfl (O.nilP rfl) ?_
      refine Seq.rd0 at9 rfl rfl (O.field fo_300_0 rfl) ?_
      refine Seq.op at10 rfl (Op.set1 rfl (O.store1 kd_239 rfl (v := .slice _ _ _) rfl (Nat.le_of_ble_eq_true rfl) rfl (cs' := #[.slice avc (vs.length - ((((upto vs s : Nat) : Int) - 1)).toNat) capc]) rfl) ?_)
      refine Seq.nil ?_
      refine hK8 ?_
      refine Cd.seq (fun K9 hK9 => ?_)
      refine Cd.region [0, 1] rfl ?_
      refine Seq.rd0 at0 rfl rfl (O.move (v := .int .i64 _) rfl) ?_
      refine Seq.rd0 at1 rfl rfl (O.assign (v := .int .i64 _) rfl) ?_
      refine Seq.nil ?_
      refine hK9 ?_
      refine Cd.ret ?_
      have htn : trimN vs s = ((((upto vs s : Nat) : Int) - 1)).toNat := by
        unfold trimN; rw [if_pos ⟨by omega, by rw [show vs[upto vs s - 1]? = some (vs[upto vs s - 1]'(by omega)) from List.getElem?_eq_getElem (by omega)]; simp_all⟩]; omega
      have hdl : (vs.drop ((((upto vs s : Nat) : Int) - 1)).toNat).length = vs.length - ((((upto vs s : Nat) : Int) - 1)).toNat := List.length_drop
      have hone : One cb (vs.drop (trimN vs s)) ((cb, .cells #[.slice avc (vs.length - ((((upto vs s : Nat) : Int) - 1)).toNat) capc] 300 (0, 0)) :: Lc) := by
        rw [htn]; exact ⟨avc, capc, Lc, by rw [hdl], by rw [hdl]; exact hoc, hs.sublist (List.drop_sublist _ _), by rw [hdl]; omega⟩
      exact hR _ ((cb, .cells #[.slice avc (vs.length - ((((upto vs s : Nat) : Int) - 1)).toNat) capc] 300 (0, 0)) :: (Lc ++ L)) (Res.one (v := .int .i64 _) rfl rfl) ⟨by rw [htn]; congr 1; omega, _, hone, rfl⟩ (.cons _ (.cons_cons _ (.cons _ (.refl _))))
    · skip
      refine Cd.skip ?_
      refine hK4 ?_
      refine Cd.seq (fun K10 hK10 => ?_)
      refine Cd.region [0, 1, 2, 3, 4, 5, 6, 7, 8, 9, 10] rfl ?_
      refine Seq.rd0 at0 rfl rfl (O.move (v := .pointer _) rfl) ?_
      refine Seq.rd0 at1 rfl rfl (O.move (v := .pointer _) rfl) ?_
      refine Seq.rd0 at2 rfl rfl (O.nilP rfl) ?_
      refine Seq.rd0 at3 rfl rfl (O.field fo_300_0 rfl) ?_
      refine Seq.rd1 at4 rfl rfl (O.load kd_239 rfl r1_0) Rd.head.cons ?_
      refine Seq.rd0 at5 rfl rfl (O.move (v := .int .i64 _) rfl) ?_
      refine Seq.rd0 at6 rfl rfl (O.sliceL sl_239 rfl rfl (by omega) (by omega)) ?_
      refine Seq.op at7 rfl (Op.callF rfl hb_240 (C_Clone_Version (SlAt.dropL Version_size (Rd.head.cons.cons) (by omega) (by omega) hcap (by omega)) (by omega)) rfl ?_)
      rintro _ _ ⟨avc, capc, Lc, rfl, hoc, rfl⟩
      refine Ent.perm ?_ (bring (Ls := Lc) (pre := [(b2, _), (cb, _), (b, _)]) (R := L)).symm
      refine Seq.rd0 at8 rfl rfl (O.nilP rfl) ?_
      refine Seq.rd0 at9 rfl rfl (O.field fo_300_0 rfl) ?_
      refine Seq.op at10 rfl (Op.set1 rfl (O.store1 kd_239 rfl (v := .slice _ _ _) rfl (Nat.le_of_ble_eq_true rfl) rfl (cs' := #[.slice avc (vs.length - (((upto vs s : Nat) : Int)).toNat) capc]) rfl) ?_)
      refine Seq.nil ?_
      refine hK10 ?_
      refine Cd.seq (fun K11 hK11 => ?_)
      refine Cd.region [0, 1] rfl ?_
      refine Seq.rd0 at0 rfl rfl (O.move (v := .int .i64 _) rfl) ?_
      refine Seq.rd0 at1 rfl rfl (O.assign (v := .int .i64 _) rfl) ?_
      refine Seq.nil ?_
      refine hK11 ?_
      refine Cd.ret ?_
      have htn : trimN vs s = (((upto vs s : Nat) : Int)).toNat := by
        unfold trimN; rw [if_neg (by rintro ⟨h8, h9⟩; first | omega | (rw [show vs[upto vs s - 1]? = some (vs[upto vs s - 1]'(by omega)) from List.getElem?_eq_getElem (by omega)] at h9; simp_all))]; omega
      have hdl : (vs.drop (((upto vs s : Nat) : Int)).toNat).length = vs.length - (((upto vs s : Nat) : Int)).toNat := List.length_drop
      have hone : One cb (vs.drop (trimN vs s)) ((cb, .cells #[.slice avc (vs.length - (((upto vs s : Nat) : Int)).toNat) capc] 300 (0, 0)) :: Lc) := by
        rw [htn]; exact ⟨avc, capc, Lc, by rw [hdl], by rw [hdl]; exact hoc, hs.sublist (List.drop_sublist _ _), by rw [hdl]; omega⟩
      exact hR _ ((cb, .cells #[.slice avc (vs.length - (((upto vs s : Nat) : Int)).toNat) capc] 300 (0, 0)) :: (Lc ++ L)) (Res.one (v := .int .i64 _) rfl rfl) ⟨by rw [htn]; congr 1, _, hone, rfl⟩ (.cons _ (.cons_cons _ (.cons _ (.refl _))))
  · rw [decide_eq_false t6]
    refine Seq.pass at3 rfl rfl ?_
    refine Seq.pass at4 rfl rfl ?_
    refine Seq.pass at5 rfl rfl ?_
    refine Seq.pass at6 rfl rfl ?_
    refine Seq.pass at7 rfl rfl ?_
    refine Seq.pass at8 rfl rfl ?_
    refine Seq.pass at9 rfl rfl ?_
    refine Seq.pass at10 rfl rfl ?_
    refine Seq.pass at11 rfl rfl ?_
    refine Seq.pass at12 rfl rfl ?_
    refine Seq.rd0 at13 rfl rfl (O.pickF (v := .bool _) rfl rfl) ?_
    refine Seq.nil ?_
    refine hK5 ?_
    refine Cd.condF rfl ?_
    refine Cd.skip ?_
    refine hK4 ?_
    refine Cd.seq (fun K12 hK12 => ?_)
    refine Cd.region [0, 1, 2, 3, 4, 5, 6, 7, 8, 9, 10] rfl ?_
    refine Seq.rd0 at0 rfl rfl (O.move (v := .pointer _) rfl) ?_
    refine Seq.rd0 at1 rfl rfl (O.move (v := .pointer _) rfl) ?_
    refine Seq.rd0 at2 rfl rfl (O.nilP rfl) ?_
    refine Seq.rd0 at3 rfl rfl (O.field fo_300_0 rfl) ?_
    refine Seq.rd1 at4 rfl rfl (O.load kd_239 rfl r1_0) Rd.head.cons ?_
    refine Seq.rd0 at5 rfl rfl (O.move (v := .int .i64 _) rfl) ?_
    refine Seq.rd0 at6 rfl rfl (O.sliceL sl_239 rfl rfl (by omega) (by omega)) ?_
    refine Seq.op at7 rfl (Op.callF rfl hb_240 (C_Clone_Version (SlAt.dropL Version_size (Rd.head.cons.cons) (by omega) (by omega) hcap (by omega)) (by omega)) rfl ?_)
    rintro _ _ ⟨avc, capc, Lc, rfl, hoc, rfl⟩
    refine Ent.perm ?_ (bring (Ls := Lc) (pre := [(b2, _), (cb, _), (b, _)]) (R := L)).symm
    refine Seq.rd0 at8 rfl rfl (O.nilP rfl) ?_
    refine Seq.rd0 at9 rfl rfl (O.field fo_300_0 rfl) ?_
    refine Seq.op at10 rfl (Op.set1 rfl (O.store1 kd_239 rfl (v := .slice _ _ _) rfl (Nat.le_of_ble_eq_true rfl) rfl (cs' := #[.slice avc (vs.length - (((upto vs s : Nat) : Int)).toNat) capc]) rfl) ?_)
    refine Seq.nil ?_
    refine hK12 ?_
    refine Cd.seq (fun K13 hK13 => ?_)
    refine Cd.region [0, 1] rfl ?_
    refine Seq.rd0 at0 rfl rfl (O.move (v := .int .i64 _) rfl) ?_
    refine Seq.rd0 at1 rfl rfl (O.assign (v := .int .i64 _) rfl) ?_
    refine Seq.nil ?_
    refine hK13 ?_
    refine Cd.ret ?_
    have htn : trimN vs s = (((upto vs s : Nat) : Int)).toNat := by
      unfold trimN; rw [if_neg (by rintro ⟨h8, h9⟩; first | omega | (rw [show vs[upto vs s - 1]? = some (vs[upto vs s - 1]'(by omega)) from List.getElem?_eq_getElem (by omega)] at h9; simp_all))]; omega
    have hdl : (vs.drop (((upto vs s : Nat) : Int)).toNat).length = vs.length - (((upto vs s : Nat) : Int)).toNat := List.length_drop
    have hone : One cb (vs.drop (trimN vs s)) ((cb, .cells #[.slice avc (vs.length - (((upto vs s : Nat) : Int)).toNat) capc] 300 (0, 0)) :: Lc) := by
      rw [htn]; exact ⟨avc, capc, Lc, by rw [hdl], by rw [hdl]; exact hoc, hs.sublist (List.drop_sublist _ _), by rw [hdl]; omega⟩
    exact hR _ ((cb, .cells #[.slice avc (vs.length - (((upto vs s : Nat) : Int)).toNat) capc] 300 (0, 0)) :: (Lc ++ L)) (Res.one (v := .int .i64 _) rfl rfl) ⟨by rw [htn]; congr 1, _, hone, rfl⟩ (.cons _ (.cons_cons _ (.cons _ (.refl _))))

theorem C_chain_Trim {c : Cx} {R G : List Pt} {cb : Nat} {vs : List Version} {s : Stamp} (hO : One cb vs G) :
    Fn Tryz.prog 204 #[.pointer (some ⟨cb, 0, none⟩), .agg (Stamp_enc s)] c (G ++ R) (fun v L' => v = .int .i64 (trimN vs s : Nat) ∧ ∃ G', One cb (vs.drop (trimN vs s)) G' ∧ L' = G' ++ R) := by
  obtain ⟨av, cap, Ls, rfl, h1, h2, h3⟩ := hO
  rcases h1 with ⟨h0, _, hv, rfl⟩ | ⟨b, cap', sp, hv, h4, h5, h6, rfl⟩
  · obtain rfl : vs = [] := List.length_eq_zero_iff.1 h0
    obtain ⟨rfl, rfl⟩ : av = none ∧ cap = 0 := by simpa using hv
    exact C_Trim_nil (L := R)
  · obtain ⟨rfl, rfl⟩ : av = some ⟨b, 0, none⟩ ∧ cap = cap' := by simpa using hv
    exact C_Trim_own (L := R) h2 h3 h4

end Go.X

/- The engine, part 17: deleting while a map is gone over. -/
namespace Go.X
section
variable {P : Program} {c : Cx} {L : List Pt} {e : Env} {x y : Operand} {d : Option Tmp} {ty : TypeId} {p : String} {af : Array Edge} {g : Option (Nat × Bool)}
variable {K V : Type} {encK : K → Value} {encV : V → Value}
/-- the entry of a key is gone -/
structure DelAt (encK : K → Value) (es es' : Array MapEntry) (a : K) : Prop where
  ex : ∃ j q, es.toList[j]? = some q ∧ q.key = encK a ∧ es'.toList = es.toList.eraseIdx j
theorem O.mapDel2 [DecidableEq K] {t k kt el b : Nat} {es : Array MapEntry} {ck : Nat} {l : List (K × V)} {a : K} (ht : P.underlying t = some (.map k el)) (KK : IsKey P k encK) (h : MapIs encK encV es ck l) (hin : a ∈ l.map Prod.fst)
    (hx : ev e x = .map (some b)) (hy : ev e y = encK a) {A B : List Pt} (hL : L = A ++ (b, .map es ck) :: B) :
    Eg P e ⟨d, .call { callee := .builtin .delete, args := #[x, y], argTypes := #[t, kt] }, ty, p, af, g⟩ c L (fun v L' => v = .tuple #[] ∧ ∃ es', MapIs encK encV es' ck (adel l a) ∧ DelAt encK es es' a ∧ L' = A ++ (b, .map es' ck) :: B) := by
  subst hL
  intro w hw
  have hb := hw.look (b, .map es ck) (by simp)
  rcases run_find KK h a w with ⟨h1, h2⟩ | ⟨j, v, q, h1, h2, h3, h4⟩
  · exact absurd hin h1
  · have hj : j < es.size := by
      rcases Nat.lt_or_ge j es.toList.length with h' | h'
      · simpa using h'
      · rw [List.getElem?_eq_none h'] at h2; cases h2
    have htl : (es.eraseIdxIfInBounds j).toList = es.toList.eraseIdx j := by
      simp [Array.eraseIdxIfInBounds, hj]
    refine ⟨_, _, _, .inl ?_, ⟨rfl, es.eraseIdxIfInBounds j, ?_, ⟨j, q, h2, h3, htl⟩, rfl⟩, hw.set⟩
    · simp [execOp, resolve, invoke, builtin, Builtin.delete_, hx, hy, run_under ht, run_getMap hb, run_check KK, h4, run_setMap hb]
    · rw [(alook_at h.keys h1).2.2]
      refine ⟨?_, ?_, ?_, ?_⟩
      · rw [htl, map_erase, map_erase, h.ents]
      · rw [map_erase]; exact (List.eraseIdx_sublist _ _).nodup h.keys
      · rw [htl, map_erase]; exact (List.eraseIdx_sublist _ _).nodup h.born
      · intro r hr; rw [htl] at hr; exact h.clock r (List.mem_of_mem_eraseIdx hr)
theorem filter_erase {α : Type} {f : α → Bool} : ∀ {l : List α} {j : Nat} {q : α}, l[j]? = some q → f q = false → (l.eraseIdx j).filter f = l.filter f
  | [], _, _, h, _ => by simp at h
  | r :: l, 0, q, h, hf => by
    obtain rfl : r = q := by simpa using h
    simp [hf]
  | r :: l, j + 1, q, h, hf => by
    simp only [List.getElem?_cons_succ] at h
    simp only [List.eraseIdx_cons_succ, List.filter_cons, filter_erase h hf]
theorem MapIs.one {k : TypeId} (KK : IsKey P k encK) {es : Array MapEntry} {ck : Nat} {l : List (K × V)} (h : MapIs encK encV es ck l) {a : K} {i j : Nat} {q r : MapEntry} (hi : es.toList[i]? = some q) (hj : es.toList[j]? = some r)
    (hq : q.key = encK a) (hr : r.key = encK a) : q = r := by
  obtain ⟨x1, v1, h1, h2, _⟩ := h.at_ hi
  obtain ⟨x2, v2, h3, h4, _⟩ := h.at_ hj
  obtain rfl : x1 = a := KK.inj _ _ (h2.symm.trans hq)
  obtain rfl : x2 = x1 := KK.inj _ _ (h4.symm.trans hr)
  have hn := h.keys
  have hi1 : i < l.length := by
    rcases Nat.lt_or_ge i l.length with h' | h'
    · exact h'
    · rw [List.getElem?_eq_none h'] at h1; cases h1
  have hj1 : j < l.length := by
    rcases Nat.lt_or_ge j l.length with h' | h'
    · exact h'
    · rw [List.getElem?_eq_none h'] at h3; cases h3
  rw [List.getElem?_eq_getElem hi1] at h1
  rw [List.getElem?_eq_getElem hj1] at h3
  have he : i = j := (List.getElem_inj (xs := l.map Prod.fst) (h₀ := by simpa using hi1) (h₁ := by simpa using hj1) hn).1 (by
    simp only [List.getElem_map, Option.some.inj h1, Option.some.inj h3])
  subst he
  rw [hi] at hj
  exact Option.some.inj hj
/-- the step; and what stays to come when the entry is deleted -/
theorem O.next2 {k : TypeId} (KK : IsKey P k encK) {r bm : Nat} {it : Obj} {es : Array MapEntry} {ck : Nat} {l rest : List (K × V)} {R : List Pt} (h : MapIs encK encV es ck l) (hi : ItIs encK encV es ck bm rest it)
    (hx : ev e x = .pointer (some ⟨r, 0, none⟩)) (hr : Rd c ((r, it) :: R) bm (.map es ck)) :
    Eg P e ⟨d, .next x false, ty, p, af, g⟩ c ((r, it) :: R) (fun v L' =>
      (rest = [] ∧ v = .tuple #[.bool false] ∧ L' = (r, it) :: R) ∨
      (∃ a u rest' it', rest.Perm ((a, u) :: rest') ∧ v = .tuple #[.bool true, encK a, encV u] ∧ ItIs encK encV es ck bm rest' it' ∧ (∀ es', DelAt encK es es' a → ItIs encK encV es' ck bm rest' it') ∧
        (∀ e' : Env, ∀ x' : Operand, ev e' x' = .pointer (some ⟨r, 0, none⟩) → ∀ {L2 : List Pt} {d2 : Option Tmp} {ty2 : TypeId} {p2 : String} {af2 : Array Edge} {g2 : Option (Nat × Bool)}, Rd c L2 r it' → Rd c L2 bm (.map es ck) →
          Eg P e' ⟨d2, .entry x', ty2, p2, af2, g2⟩ c L2 (fun v2 L3 => v2 = .tuple #[encK a, encV u] ∧ L3 = L2)) ∧ L' = (r, it') :: R)) := by
  intro w hw
  obtain ⟨since, seen, c0, rfl, hold, hsc, hck, hl⟩ := hi.ex
  have hb := hr w hw
  have hrr := hw.look _ (List.mem_cons_self)
  rcases run_next_at (P := P) w ty r bm since c0 seen es ck hrr hb hold hsc with ⟨h0, hrun⟩ | ⟨q, hq, w1, hw1, hrun⟩
  · refine ⟨_, _, _, .inl ?_, .inl ⟨?_, rfl, rfl⟩, hw⟩
    · simp [execOp, hx, hrun]
    · have := congrArg List.length hl
      simp only [List.length_map, Array.length_toList, h0] at this
      exact List.length_eq_zero_iff.1 this.symm
  · obtain ⟨j, hj, hjq⟩ := List.getElem_of_mem hq
    have hjq' : (leftOf es seen).toList[j]? = some q := by rw [List.getElem?_eq_getElem hj, hjq]
    have hrj := congrArg (fun l => l[j]?) hl
    simp only [List.getElem?_map, hjq', Option.map_some] at hrj
    cases hrest : rest[j]? with
    | none => rw [hrest] at hrj; cases hrj
    | some au =>
      obtain ⟨a, u⟩ := au
      rw [hrest] at hrj
      simp only [Option.map_some, Option.some.injEq, Prod.mk.injEq] at hrj
      have hqe : q ∈ es.toList := by
        have : q ∈ (es.filter fun e => !seen.contains e.born).toList := hq
        simp at this; simpa using this.1
      have hst : St c ((r, .mapIter (some bm) since seen c0) :: R) w1 := by
        rcases hw1 with rfl | rfl
        · exact hw
        · exact hw.drew _
      have h3 : (leftOf es (seen.push q.born)).toList.map (fun q => (q.key, q.val)) = (rest.eraseIdx j).map (fun q => (encK q.1, encV q.2)) := by
        have h3 : (leftOf es (seen.push q.born)).toList = (leftOf es seen).toList.eraseIdx j := by
          have := nodup_filter_erase h.born (seen := seen) (j := j) (q := q) (by simpa [leftOf] using hjq')
          simpa [leftOf] using this
        rw [h3, map_erase, map_erase, hl]
      refine ⟨_, setBlk w1 r (.mapIter (some bm) since (seen.push q.born) ck), _, .inl ?_, .inr ⟨a, u, rest.eraseIdx j, _, ?_, rfl, ⟨⟨since, seen.push q.born, ck, rfl, hold, hck, hck, h3⟩⟩, ?_, ?_, rfl⟩, St.set (A := []) hst⟩
      · rw [hrj.1, hrj.2] at hrun
        simp [execOp, hx, hrun]
        rfl
      · have hlt : j < rest.length := by
          rcases Nat.lt_or_ge j rest.length with h' | h'
          · exact h'
          · rw [List.getElem?_eq_none h'] at hrest; cases hrest
        have : rest[j] = (a, u) := by rw [List.getElem?_eq_getElem hlt] at hrest; exact Option.some.inj hrest
        rw [← this]
        exact erase_perm hlt
      · rintro es' ⟨i, q', hi1, hi2, hi3⟩
        obtain ⟨jj, hjj, hjjq⟩ := List.getElem_of_mem hqe
        have hqq : q' = q := MapIs.one KK h hi1 (by rw [List.getElem?_eq_getElem hjj, hjjq]) hi2 hrj.1
        subst hqq
        refine ⟨⟨since, seen.push q'.born, ck, rfl, fun s hs => hold s ?_, hck, hck, ?_⟩⟩
        · rw [hi3] at hs; exact List.mem_of_mem_eraseIdx hs
        · rw [← h3]
          have h5 : (leftOf es' (seen.push q'.born)).toList = (leftOf es (seen.push q'.born)).toList := by
            simp only [leftOf, Array.toList_filter]
            rw [hi3]
            exact filter_erase hi1 (by simp)
          rw [h5]
      · intro e' x' hx' L2 d2 ty2 p2 af2 g2 hr2 hb2 w2 hw2
        have := run_entry_at (P := P) w2 r bm since seen es ck q (hr2 w2 hw2) (hb2 w2 hw2) hqe h.born
        refine ⟨_, _, _, .inl ?_, ⟨rfl, rfl⟩, hw2⟩
        rw [hrj.1, hrj.2] at this
        simp [execOp, hx', this]
end
end Go.X
