/- Records, acts: plain. -/
import Derived.Test.YthifdialndcemaaGreatProg
import Derived.Deep.Slices
import Derived.Deep.Fields
import Derived.ChangeSame
import Derived.OpenShut
import Derived.Carry
import Derived.ProofKit
import Derived.LaidMore
import Derived.Test.YthifdialndcemaaGreatS8
set_option linter.unusedVariables false
set_option linter.unusedSimpArgs false

namespace Go.X
structure Record where
  kind : Int
  id : Int
  snap : Stamp
  stamp : Stamp
  ws : Sv
  yes : Bool
  parts : Sv
  deriving DecidableEq
def Record_enc (a : Record) : Array Value := #[.int .i64 a.kind, .int .i64 a.id, .int .i64 a.snap.t, .int .u8 a.snap.n, .int .i64 a.stamp.t, .int .u8 a.stamp.n, .slice a.ws.a a.ws.n a.ws.c, .bool a.yes, .slice a.parts.a a.parts.n a.parts.c]
theorem Record_size (a : Record) : (Record_enc a).size = 9 := rfl
theorem Record_all (a : Record) : (Record_enc a).extract 0 (0 + 9) = Record_enc a := by kernel_rfl
theorem Record_kind (a : Record) : (Record_enc a)[0]? = some (.int .i64 a.kind) := rfl
theorem Record_id (a : Record) : (Record_enc a)[1]? = some (.int .i64 a.id) := rfl
theorem Record_snap (a : Record) : (Record_enc a).extract 2 (2 + 2) = Stamp_enc a.snap := by kernel_rfl
theorem Record_snap_t (a : Record) : (Record_enc a)[2]? = some (.int .i64 a.snap.t) := rfl
theorem Record_snap_n (a : Record) : (Record_enc a)[3]? = some (.int .u8 a.snap.n) := rfl
theorem Record_stamp (a : Record) : (Record_enc a).extract 4 (4 + 2) = Stamp_enc a.stamp := by kernel_rfl
theorem Record_stamp_t (a : Record) : (Record_enc a)[4]? = some (.int .i64 a.stamp.t) := rfl
theorem Record_stamp_n (a : Record) : (Record_enc a)[5]? = some (.int .u8 a.stamp.n) := rfl
theorem Record_ws (a : Record) : (Record_enc a)[6]? = some (.slice a.ws.a a.ws.n a.ws.c) := rfl
theorem Record_yes (a : Record) : (Record_enc a)[7]? = some (.bool a.yes) := rfl
theorem Record_parts (a : Record) : (Record_enc a)[8]? = some (.slice a.parts.a a.parts.n a.parts.c) := rfl
theorem Record_one (a : Record) : ∀ u ∈ (Value.agg (Record_enc a)).cells.toList, Value.oneCell' u = true := by
  intro u hu
  simp only [Value.cells, Record_enc, List.mem_cons, List.not_mem_nil, or_false] at hu
  rcases hu with rfl | rfl | rfl | rfl | rfl | rfl | rfl | rfl | rfl <;> rfl
theorem Record_put (a : Record) {cs : Array Value} (h : cs.size = 9) : putL cs 0 (Value.agg (Record_enc a)).cells.toList = Record_enc a := putL_whole (h.trans (Record_size a).symm)
theorem Record_room {cs : Array Value} (h : cs.size = 9) : 0 + 9 ≤ cs.size := by omega
def Record.zero : Record := ⟨0, 0, .zero, .zero, ⟨none, 0, 0⟩, false, ⟨none, 0, 0⟩⟩
structure Act where
  op : Int
  e : Entry
  at_ : Stamp
  r : Record
  deriving DecidableEq
def Act_enc (a : Act) : Array Value := #[.int .i64 a.op, .int .i64 a.e.id, .int .i64 a.e.snap.t, .int .u8 a.e.snap.n, .int .i64 a.e.stamp.t, .int .u8 a.e.stamp.n, .slice a.e.ws.a a.e.ws.n a.e.ws.c, .int .i64 a.at_.t, .int .u8 a.at_.n, .int .i64 a.r.kind, .int .i64 a.r.id, .int .i64 a.r.snap.t, .int .u8 a.r.snap.n, .int .i64 a.r.stamp.t, .int .u8 a.r.stamp.n, .slice a.r.ws.a a.r.ws.n a.r.ws.c, .bool a.r.yes, .slice a.r.parts.a a.r.parts.n a.r.parts.c]
theorem Act_size (a : Act) : (Act_enc a).size = 18 := rfl
theorem Act_all (a : Act) : (Act_enc a).extract 0 (0 + 18) = Act_enc a := by kernel_rfl
theorem Act_op (a : Act) : (Act_enc a)[0]? = some (.int .i64 a.op) := rfl
theorem Act_e (a : Act) : (Act_enc a).extract 1 (1 + 6) = Entry_enc a.e := by kernel_rfl
theorem Act_e_id (a : Act) : (Act_enc a)[1]? = some (.int .i64 a.e.id) := rfl
theorem Act_e_snap (a : Act) : (Act_enc a).extract 2 (2 + 2) = Stamp_enc a.e.snap := by kernel_rfl
theorem Act_e_snap_t (a : Act) : (Act_enc a)[2]? = some (.int .i64 a.e.snap.t) := rfl
theorem Act_e_snap_n (a : Act) : (Act_enc a)[3]? = some (.int .u8 a.e.snap.n) := rfl
theorem Act_e_stamp (a : Act) : (Act_enc a).extract 4 (4 + 2) = Stamp_enc a.e.stamp := by kernel_rfl
theorem Act_e_stamp_t (a : Act) : (Act_enc a)[4]? = some (.int .i64 a.e.stamp.t) := rfl
theorem Act_e_stamp_n (a : Act) : (Act_enc a)[5]? = some (.int .u8 a.e.stamp.n) := rfl
theorem Act_e_ws (a : Act) : (Act_enc a)[6]? = some (.slice a.e.ws.a a.e.ws.n a.e.ws.c) := rfl
theorem Act_at_ (a : Act) : (Act_enc a).extract 7 (7 + 2) = Stamp_enc a.at_ := by kernel_rfl
theorem Act_at__t (a : Act) : (Act_enc a)[7]? = some (.int .i64 a.at_.t) := rfl
theorem Act_at__n (a : Act) : (Act_enc a)[8]? = some (.int .u8 a.at_.n) := rfl
theorem Act_r (a : Act) : (Act_enc a).extract 9 (9 + 9) = Record_enc a.r := by kernel_rfl
theorem Act_r_kind (a : Act) : (Act_enc a)[9]? = some (.int .i64 a.r.kind) := rfl
theorem Act_r_id (a : Act) : (Act_enc a)[10]? = some (.int .i64 a.r.id) := rfl
theorem Act_r_snap (a : Act) : (Act_enc a).extract 11 (11 + 2) = Stamp_enc a.r.snap := by kernel_rfl
theorem Act_r_snap_t (a : Act) : (Act_enc a)[11]? = some (.int .i64 a.r.snap.t) := rfl
theorem Act_r_snap_n (a : Act) : (Act_enc a)[12]? = some (.int .u8 a.r.snap.n) := rfl
theorem Act_r_stamp (a : Act) : (Act_enc a).extract 13 (13 + 2) = Stamp_enc a.r.stamp := by kernel_rfl
theorem Act_r_stamp_t (a : Act) : (Act_enc a)[13]? = some (.int .i64 a.r.stamp.t) := rfl
theorem Act_r_stamp_n (a : Act) : (Act_enc a)[14]? = some (.int .u8 a.r.stamp.n) := rfl
theorem Act_r_ws (a : Act) : (Act_enc a)[15]? = some (.slice a.r.ws.a a.r.ws.n a.r.ws.c) := rfl
theorem Act_r_yes (a : Act) : (Act_enc a)[16]? = some (.bool a.r.yes) := rfl
theorem Act_r_parts (a : Act) : (Act_enc a)[17]? = some (.slice a.r.parts.a a.r.parts.n a.r.parts.c) := rfl
theorem Act_one (a : Act) : ∀ u ∈ (Value.agg (Act_enc a)).cells.toList, Value.oneCell' u = true := by
  intro u hu
  simp only [Value.cells, Act_enc, List.mem_cons, List.not_mem_nil, or_false] at hu
  rcases hu with rfl | rfl | rfl | rfl | rfl | rfl | rfl | rfl | rfl | rfl | rfl | rfl | rfl | rfl | rfl | rfl | rfl | rfl <;> rfl
theorem Act_put (a : Act) {cs : Array Value} (h : cs.size = 18) : putL cs 0 (Value.agg (Act_enc a)).cells.toList = Act_enc a := putL_whole (h.trans (Act_size a).symm)
theorem Act_room {cs : Array Value} (h : cs.size = 18) : 0 + 18 ≤ cs.size := by omega
def Act.zero : Act := ⟨0, .zero, .zero, .zero⟩
end Go.X

namespace Go.X
open Go.Proofs
theorem ds_22 : isDesc Tryz.prog 22 = 5 := by kernel_rfl
theorem fo_38_0 : fieldOff Tryz.prog 38 0 = some 0 := by kernel_rfl
theorem fo_38_1 : fieldOff Tryz.prog 38 1 = some 1 := by kernel_rfl
theorem fo_38_2 : fieldOff Tryz.prog 38 2 = some 7 := by kernel_rfl
theorem hb_13 : hasBody Tryz.prog 13 = true := by kernel_rfl
theorem hb_14 : hasBody Tryz.prog 14 = true := by kernel_rfl
theorem hb_18 : hasBody Tryz.prog 18 = true := by kernel_rfl
theorem kd_38 : kindOf Tryz.prog 38 = some (true, 18) := by kernel_rfl
theorem sl_22 : sliceOf Tryz.prog 22 = some (38, 18) := by kernel_rfl
theorem zo_38 : zeroOf Tryz.prog 38 = some (.agg #[.int .i64 0, .int .i64 0, .int .i64 0, .int .u8 0, .int .i64 0, .int .u8 0, .slice none 0 0, .int .i64 0, .int .u8 0, .int .i64 0, .int .i64 0, .int .i64 0, .int .u8 0, .int .i64 0, .int .u8 0, .slice none 0 0, .bool false, .slice none 0 0]) := by kernel_rfl
/-- an act's numbers are numbers; its writes can be read -/
def ActOk (c : Cx) (L : List Pt) (x : Act) : Prop := (Lit.int .i64 x.e.id).wf = true ∧ ∃ ws, SlAt c L Write_enc x.e.ws.a x.e.ws.n ws
section
variable {pb : Nat} {Lp : List Pt} {l : List (Key × CV)} {el : List (I64 × EV)} {hl : List (Key × I64)} {ol : List (I64 × Int)} {ti : I64} {en : Entry} {ws : List Write} {s : Stamp}
theorem over_prep (h : PtOwn pb l el hl ol Lp → True) (hov : Over23 ol) (ha : prepP l el hl ol ti en ws = 0 → ∃ sv, PtOwn pb l (aput el ti ({ en with ws := sv }, ws)) (holdL hl ws ti) ol Lp) (hb : ¬ prepP l el hl ol ti en ws = 0 → PtOwn pb l el hl ol Lp) :
    ∃ l2 el2 hl2 ol2, PtOwn pb l2 el2 hl2 ol2 Lp ∧ Over23 ol2 ∧ ∀ id, Fine (stateP ol el id) (stateP ol2 el2 id) := by
  by_cases h0 : prepP l el hl ol ti en ws = 0
  · obtain ⟨sv, hp⟩ := ha h0
    exact ⟨_, _, _, _, hp, hov, fun id => fine_prep hov (prepP_zero h0).2.1 _⟩
  · exact ⟨_, _, _, _, hb h0, hov, fun id => by unfold Fine; have := state_range (el := el) hov id; omega⟩
theorem over_commit {l' : List (Key × CV)} (hov : Over23 ol) (hb : ¬ goC l ol el ti s → PtOwn pb l el hl ol Lp) (ha : goC l ol el ti s → PtOwn pb l' (adel el ti) (dropL hl (entT el ti).2) (aput ol ti 2) Lp ∧ (applyE l s (entT el ti).2 = 0 → AppS s l (entT el ti).2 l') ∧ (¬ applyE l s (entT el ti).2 = 0 → l' = l)) :
    ∃ l2 el2 hl2 ol2, PtOwn pb l2 el2 hl2 ol2 Lp ∧ Over23 ol2 ∧ ∀ id, Fine (stateP ol el id) (stateP ol2 el2 id) := by
  by_cases h0 : goC l ol el ti s
  · refine ⟨_, _, _, _, (ha h0).1, hov.put ti (.inl rfl), fun id => fine_end hov (.inl rfl) ?_⟩
    obtain ⟨h1, h2⟩ := h0
    have := state_range (el := el) hov ti
    unfold canCommitP at h1
    split at h1
    · split at h1
      · cases h1
      · split at h1
        · cases h1
        · omega
    · cases h1
  · exact ⟨_, _, _, _, hb h0, hov, fun id => by unfold Fine; have := state_range (el := el) hov id; omega⟩
theorem over_abort (hov : Over23 ol) (ha : canAbortP ol el ti = 0 → PtOwn pb l (adel el ti) (dropL hl (entT el ti).2) (aput ol ti 3) Lp) (hb : ¬ canAbortP ol el ti = 0 → PtOwn pb l el hl ol Lp) :
    ∃ l2 el2 hl2 ol2, PtOwn pb l2 el2 hl2 ol2 Lp ∧ Over23 ol2 ∧ ∀ id, Fine (stateP ol el id) (stateP ol2 el2 id) := by
  by_cases h0 : canAbortP ol el ti = 0
  · refine ⟨_, _, _, _, ha h0, hov.put ti (.inr rfl), fun id => fine_end hov (.inr rfl) ?_⟩
    have := state_range (el := el) hov ti
    unfold canAbortP at h0
    split at h0
    · cases h0
    · split at h0
      · cases h0
      · omega
  · exact ⟨_, _, _, _, hb h0, hov, fun id => by unfold Fine; have := state_range (el := el) hov id; omega⟩
end

set_option maxRecDepth 100000 in
set_option maxHeartbeats 2000000 in
theorem C_PartOver {c : Cx} {L : List Pt} {av : Option Addr} {nx cx : Nat} {xs : List Act} (hX : SlAt c L Act_enc av nx xs) (hQ : ∀ x ∈ xs, ActOk c L x) {ti : I64} : Fn Tryz.prog 5 #[.slice av nx cx, .int .i64 ti.1] c L (fun v L' => v = .bool true ∧ L' = L) := by
  have hwl := hX.len
  have hwt := hX.lt
  refine Fn.enter Tryz.func5 rfl 79 rfl rfl (fun R hR => ?_)
  refine Cd.seq (fun K1 hK1 => ?_)
  refine Cd.region [0] rfl ?_
  refine Seq.rd0 at0 rfl rfl (O.assign (v := .bool _) rfl) ?_
  refine Seq.nil ?_
  refine hK1 ?_
  refine Cd.seq (fun K2 hK2 => ?_)
  refine Cd.seq (fun K3 hK3 => ?_)
  refine Cd.region [0, 1] rfl ?_
  refine Seq.op at0 rfl (Op.callF rfl hb_13 C_awake rfl ?_)
  rintro _ L9 ⟨rfl, h9⟩
  rw [h9]
  refine Seq.rd0 at1 rfl rfl (O.not rfl) ?_
  refine Seq.nil ?_
  refine hK3 ?_
  refine Cd.condF rfl ?_
  refine Cd.skip ?_
  refine hK2 ?_
  refine Cd.seq (fun K4 hK4 => ?_)
  refine Cd.seq (fun K5 hK5 => ?_)
  refine Cd.region [0, 1, 2] rfl ?_
  refine Seq.rd0 at0 rfl rfl (O.move (v := .slice _ _ _) rfl) ?_
  refine Seq.rd0 at1 rfl rfl (O.lenS ds_22 rfl) ?_
  refine Seq.rd0 at2 rfl rfl (O.gtr rfl rfl) ?_
  refine Seq.nil ?_
  refine hK5 ?_
  refine Cd.if ((40 : Int) < (nx : Int)) rfl (fun t6 => ?_) (fun t6 => ?_)
  · skip
    refine Cd.seq (fun K7 hK7 => ?_)
    refine Cd.region [0] rfl ?_
    refine Seq.rd0 at0 rfl rfl (O.assign (v := .bool _) rfl) ?_
    refine Seq.nil ?_
    refine hK7 ?_
    refine Cd.ret ?_
    exact hR _ L (Res.one (v := .bool _) rfl rfl) ⟨rfl, rfl⟩ (.refl _)
  · skip
    refine Cd.skip ?_
    refine hK4 ?_
    refine Cd.seq (fun K8 hK8 => ?_)
    refine Cd.region [0, 1] rfl ?_
    refine Seq.op at0 rfl (Op.callF rfl hb_15 C_part_New2 rfl ?_)
    rintro _ _ ⟨pb, Lp0, rfl, hp0, rfl⟩
    refine Seq.rd0 at1 rfl rfl (O.assign (v := .pointer _) rfl) ?_
    refine Seq.nil ?_
    refine hK8 ?_
    refine Cd.seq (fun K9 hK9 => ?_)
    refine Cd.region [0] rfl ?_
    refine Seq.rd0 at0 rfl rfl (O.assign (v := .int .i64 _) rfl) ?_
    refine Seq.nil ?_
    refine hK9 ?_
    refine Cd.seq (fun K10 hK10 => ?_)
    refine Cd.seq (fun K11 hK11 => ?_)
    refine Cd.region [0] rfl ?_
    refine Seq.rd0 at0 rfl rfl (O.assign (v := .int .i64 _) rfl) ?_
    refine Seq.nil ?_
    refine hK11 ?_
    refine Cd.block ?_
    refine Cd.loop (fun m12 e13 L14 => ∃ i : Nat, ∃ l1 : List (Key × CV), ∃ el1 : List (I64 × EV), ∃ hl1 : List (Key × I64), ∃ ol1 : List (I64 × Int), ∃ Lp : List Pt, m12 = xs.length - i ∧ e13 0 = .slice av nx cx ∧ e13 1 = .int .i64 ti.1 ∧ e13 5 = .pointer (some ⟨pb, 0, none⟩) ∧ e13 6 = .int .i64 (stateP ol1 el1 ti) ∧ e13 7 = .int .i64 (i : Int) ∧ L14 = (Lp ++ (L)) ∧ i ≤ xs.length ∧ PtOwn pb l1 el1 hl1 ol1 Lp ∧ Over23 ol1) _ ⟨0, [], [], [], [], Lp0, rfl, rfl, rfl, rfl, rfl, rfl, rfl, Nat.zero_le _, hp0, (by intro q hq; simp at hq)⟩ ?_
    rintro _ e13 _ ⟨i, l1, el1, hl1, ol1, Lp, rfl, s15, s16, s17, s18, s19, rfl, hi, hp, hov⟩ K20 hK20
    refine Cd.seq (fun K21 hK21 => ?_)
    refine Cd.seq (fun K22 hK22 => ?_)
    refine Cd.region [0, 1, 2, 3] rfl ?_
    refine Seq.rd0 at0 rfl rfl (O.move (v := .int .i64 _) (by exact s19)) ?_
    refine Seq.rd0 at1 rfl rfl (O.move (v := .slice _ _ _) (by exact s15)) ?_
    refine Seq.rd0 at2 rfl rfl (O.lenS ds_22 rfl) ?_
    refine Seq.rd0 at3 rfl rfl (O.lss rfl rfl) ?_
    refine Seq.nil ?_
    refine hK22 ?_
    refine Cd.if ((i : Int) < (nx : Int)) rfl (fun t23 => ?_) (fun t23 => ?_)
    · skip
      refine Cd.skip ?_
      refine hK21 ?_
      refine Cd.seq (fun K24 hK24 => ?_)
      refine Cd.block ?_
      refine Cd.seq (fun K25 hK25 => ?_)
      refine Cd.region [0, 1, 2, 3, 4, 5] rfl ?_
      refine Seq.rd0 at0 rfl rfl (O.move (v := .slice _ _ _) (by exact s15)) ?_
      refine Seq.rd0 at1 rfl rfl (O.move (v := .int .i64 _) (by exact s19)) ?_
      have hlt26 : i < xs.length := by omega
      obtain ⟨pre26, sp26, el26, fz26, hav26, hrd26⟩ := hX.at_ hlt26
      obtain ⟨hwf, wsi, hWi⟩ := hQ _ (List.getElem_mem hlt26)
      refine Seq.rd0 at2 rfl rfl (O.indexG sl_22 rfl hav26 rfl (by omega) (by omega)) ?_
      refine Seq.rd1 at3 rfl rfl (O.loadA kd_38 rfl (rowRoomP Act_size (getN hlt26)) (rowAtP Act_size (getN hlt26))) hrd26.app ?_
      refine Seq.op at4 rfl (Op.new rfl (O.alloc zo_38 (cs := (Act_enc Act.zero)) rfl) ?_)
      intro b27 hb27
      refine Seq.op at5 rfl (Op.set0 rfl (O.store kd_38 rfl (v := .agg _) rfl (Act_size _) (Act_room (Act_size _)) (Act_one _) (Act_put _ (Act_size _))) ?_)
      refine Seq.nil ?_
      refine hK25 ?_
      refine Cd.seq (fun K28 hK28 => ?_)
      refine Cd.seq (fun K29 hK29 => ?_)
      refine Cd.region [0, 1, 2, 3] rfl ?_
      refine Seq.rd0 at0 rfl rfl (O.field fo_38_1 rfl) ?_
      refine Seq.rd0 at1 rfl rfl (O.field fo_27_3 rfl) ?_
      refine Seq.rd1 at2 rfl rfl (O.load kd_25 rfl (Act_e_ws _)) Rd.head ?_
      refine Seq.op at3 rfl (Op.callF rfl hb_14 (C_long (hWi.app.cons)) rfl ?_)
      rintro _ _ ⟨rfl, rfl⟩
      refine Seq.nil ?_
      refine hK29 ?_
      refine Cd.cond ((longP wsi)) rfl (fun t30 => ?_) (fun t30 => ?_)
      · skip
        refine Cd.seq (fun K31 hK31 => ?_)
        refine Cd.region [0] rfl ?_
        refine Seq.rd0 at0 rfl rfl (O.assign (v := .bool _) rfl) ?_
        refine Seq.nil ?_
        refine hK31 ?_
        refine Cd.ret ?_
        exact hR _ L (Res.one (v := .bool _) rfl rfl) ⟨rfl, rfl⟩ (.cons _ (sub_app (G := Lp) (.refl _)))
      · skip
        refine Cd.skip ?_
        refine hK28 ?_
        refine Cd.seq (fun K32 hK32 => ?_)
        refine Cd.seq (fun K33 hK33 => ?_)
        refine Cd.region [0, 1] rfl ?_
        refine Seq.rd0 at0 rfl rfl (O.field fo_38_0 rfl) ?_
        refine Seq.rd1 at1 rfl rfl (O.load kd_3 rfl (Act_op _)) Rd.head ?_
        refine Seq.nil ?_
        refine hK33 ?_
        refine Cd.block ?_
        refine Cd.seq (fun K34 hK34 => ?_)
        refine Cd.region [0, 1] rfl ?_
        refine Seq.rd0 at0 rfl rfl (O.eqI rfl rfl) ?_
        refine Seq.rd0 at1 rfl rfl (O.assign (v := .bool _) rfl) ?_
        refine Seq.nil ?_
        refine hK34 ?_
        refine Cd.if (xs[i].op = 0) rfl (fun t35 => ?_) (fun t35 => ?_)
        · skip
          refine Cd.region [0, 1, 2, 3] rfl ?_
          refine Seq.rd0 at0 rfl rfl (O.move (v := .pointer _) (by exact s17)) ?_
          refine Seq.rd0 at1 rfl rfl (O.field fo_38_1 rfl) ?_
          refine Seq.rd1 at2 rfl rfl (O.loadA kd_27 rfl (Nat.le_of_ble_eq_true rfl) (Act_e _)) Rd.head ?_
          refine Seq.op at3 rfl (Op.callF rfl hb_16 (Fn.perm (C_Prepare (L := ((b27, _) :: []) ++ L) hp (en := xs[i].e) (ws := wsi) (hWi.app (G := ((b27, _) :: []))) (ti := (⟨xs[i].e.id, hwf⟩ : I64)) rfl hov) (bring (pre := ((b27, _) :: [])) (Ls := Lp) (R := L))) rfl ?_)
          rintro _ _ ⟨rfl, Lp2, rfl, ha, hb⟩
          obtain ⟨l2, el2, hl2, ol2, hp2, hov2, hfine⟩ := over_prep (fun _ => trivial) hov ha hb
          refine Ent.perm ?_ (bring (Ls := Lp2) (pre := ((b27, _) :: [])) (R := L)).symm
          refine Seq.nil ?_
          refine hK32 ?_
          refine Cd.seq (fun K36 hK36 => ?_)
          refine Cd.region [0, 1, 2, 3] rfl ?_
          refine Seq.rd0 at0 rfl rfl (O.move (v := .pointer _) (by exact s17)) ?_
          refine Seq.rd0 at1 rfl rfl (O.move (v := .int .i64 _) (by exact s16)) ?_
          refine Seq.op at2 rfl (Op.callF rfl hb_19 (C_State (ti := ti) ((PtOwn.at_ (R := L) hp2).cons)) rfl ?_)
          rintro _ _ ⟨rfl, rfl⟩
          refine Seq.rd0 at3 rfl rfl (O.assign (v := .int .i64 _) rfl) ?_
          refine Seq.nil ?_
          refine hK36 ?_
          refine Cd.seq (fun K37 hK37 => ?_)
          refine Cd.seq (fun K38 hK38 => ?_)
          refine Cd.region [0, 1, 2, 3, 4, 5, 6, 7, 8, 9, 10, 11, 12, 13, 14] rfl ?_
          refine Seq.rd0 at0 rfl rfl (O.move (v := .int .i64 _) (by exact s18)) ?_
          refine Seq.rd0 at1 rfl rfl (O.geq rfl rfl) ?_
          refine Seq.rd0 at2 rfl rfl (O.move (v := .bool _) rfl) ?_
          by_cases t39 : (2 : Int) ≤ (stateP ol1 el1 ti)
          · rw [decide_eq_true t39]
            refine Seq.rd0 at3 rfl rfl (O.move (v := .int .i64 _) rfl) ?_
            refine Seq.rd0 at4 rfl rfl (O.move (v := .int .i64 _) (by exact s18)) ?_
            refine Seq.rd0 at5 rfl rfl (O.neI rfl rfl) ?_
            refine Seq.rd0 at6 rfl rfl (O.pickT (v := .bool _) rfl rfl) ?_
            refine Seq.rd0 at7 rfl rfl (O.move (v := .bool _) rfl) ?_
            by_cases t40 : (stateP ol2 el2 ti) = (stateP ol1 el1 ti)
            · rw [decide_eq_true t40]
              refine Seq.rd0 at8 rfl rfl (O.move (v := .int .i64 _) (by exact s18)) ?_
              refine Seq.rd0 at9 rfl rfl (O.eqI rfl rfl) ?_
              refine Seq.rd0 at10 rfl rfl (O.move (v := .bool _) rfl) ?_
              by_cases t41 : (stateP ol1 el1 ti) = 1
              · rw [decide_eq_true t41]
                refine Seq.rd0 at11 rfl rfl (O.move (v := .int .i64 _) rfl) ?_
                refine Seq.rd0 at12 rfl rfl (O.eqI rfl rfl) ?_
                refine Seq.rd0 at13 rfl rfl (O.pickT (v := .bool _) rfl rfl) ?_
                refine Seq.rd0 at14 rfl rfl (O.pickF (v := .bool _) rfl rfl) ?_
                refine Seq.nil ?_
                refine hK38 ?_
                refine Cd.if ((stateP ol2 el2 ti) = 0) rfl (fun t42 => ?_) (fun t42 => ?_)
                · skip
                  refine Cd.seq (fun K43 hK43 => ?_)
                  refine Cd.region [0] rfl ?_
                  refine Seq.rd0 at0 rfl rfl (O.assign (v := .bool _) rfl) ?_
                  refine Seq.nil ?_
                  refine hK43 ?_
                  refine Cd.ret ?_
                  exfalso; have hf := hfine ti; unfold Fine at hf; omega
                · skip
                  refine Cd.skip ?_
                  refine hK37 ?_
                  refine Cd.region [0, 1] rfl ?_
                  refine Seq.rd0 at0 rfl rfl (O.move (v := .int .i64 _) rfl) ?_
                  refine Seq.rd0 at1 rfl rfl (O.assign (v := .int .i64 _) rfl) ?_
                  refine Seq.nil ?_
                  refine hK24 ?_
                  refine Cd.region [0, 1, 2] rfl ?_
                  refine Seq.rd0 at0 rfl rfl (O.move (v := .int .i64 _) (by exact s19)) ?_
                  refine Seq.rd0 at1 rfl rfl (O.add rfl rfl (by omega) (by omega)) ?_
                  refine Seq.rd0 at2 rfl rfl (O.assign (v := .int .i64 _) rfl) ?_
                  refine Seq.nil ?_
                  refine Ent.drop ?_
                  exact hK20 _ (by omega) ⟨i + 1, l2, el2, hl2, ol2, Lp2, rfl, (by exact s15), (by exact s16), (by exact s17), rfl, rfl, rfl, by omega, hp2, hov2⟩
              · rw [decide_eq_false t41]
                refine Seq.pass at11 rfl rfl ?_
                refine Seq.pass at12 rfl rfl ?_
                refine Seq.rd0 at13 rfl rfl (O.pickF (v := .bool _) rfl rfl) ?_
                refine Seq.rd0 at14 rfl rfl (O.pickF (v := .bool _) rfl rfl) ?_
                refine Seq.nil ?_
                refine hK38 ?_
                refine Cd.condF rfl ?_
                refine Cd.skip ?_
                refine hK37 ?_
                refine Cd.region [0, 1] rfl ?_
                refine Seq.rd0 at0 rfl rfl (O.move (v := .int .i64 _) rfl) ?_
                refine Seq.rd0 at1 rfl rfl (O.assign (v := .int .i64 _) rfl) ?_
                refine Seq.nil ?_
                refine hK24 ?_
                refine Cd.region [0, 1, 2] rfl ?_
                refine Seq.rd0 at0 rfl rfl (O.move (v := .int .i64 _) (by exact s19)) ?_
                refine Seq.rd0 at1 rfl rfl (O.add rfl rfl (by omega) (by omega)) ?_
                refine Seq.rd0 at2 rfl rfl (O.assign (v := .int .i64 _) rfl) ?_
                refine Seq.nil ?_
                refine Ent.drop ?_
                exact hK20 _ (by omega) ⟨i + 1, l2, el2, hl2, ol2, Lp2, rfl, (by exact s15), (by exact s16), (by exact s17), rfl, rfl, rfl, by omega, hp2, hov2⟩
            · rw [decide_eq_false t40]
              refine Seq.pass at8 rfl rfl ?_
              refine Seq.pass at9 rfl rfl ?_
              refine Seq.pass at10 rfl rfl ?_
              refine Seq.pass at11 rfl rfl ?_
              refine Seq.pass at12 rfl rfl ?_
              refine Seq.pass at13 rfl rfl ?_
              refine Seq.rd0 at14 rfl rfl (O.pickT (v := .bool _) rfl rfl) ?_
              refine Seq.nil ?_
              refine hK38 ?_
              refine Cd.condT rfl ?_
              refine Cd.seq (fun K44 hK44 => ?_)
              refine Cd.region [0] rfl ?_
              refine Seq.rd0 at0 rfl rfl (O.assign (v := .bool _) rfl) ?_
              refine Seq.nil ?_
              refine hK44 ?_
              refine Cd.ret ?_
              exfalso; have hf := hfine ti; unfold Fine at hf; omega
          · rw [decide_eq_false t39]
            refine Seq.pass at3 rfl rfl ?_
            refine Seq.pass at4 rfl rfl ?_
            refine Seq.pass at5 rfl rfl ?_
            refine Seq.rd0 at6 rfl rfl (O.pickF (v := .bool _) rfl rfl) ?_
            refine Seq.rd0 at7 rfl rfl (O.move (v := .bool _) rfl) ?_
            refine Seq.rd0 at8 rfl rfl (O.move (v := .int .i64 _) (by exact s18)) ?_
            refine Seq.rd0 at9 rfl rfl (O.eqI rfl rfl) ?_
            refine Seq.rd0 at10 rfl rfl (O.move (v := .bool _) rfl) ?_
            by_cases t45 : (stateP ol1 el1 ti) = 1
            · rw [decide_eq_true t45]
              refine Seq.rd0 at11 rfl rfl (O.move (v := .int .i64 _) rfl) ?_
              refine Seq.rd0 at12 rfl rfl (O.eqI rfl rfl) ?_
              refine Seq.rd0 at13 rfl rfl (O.pickT (v := .bool _) rfl rfl) ?_
              refine Seq.rd0 at14 rfl rfl (O.pickF (v := .bool _) rfl rfl) ?_
              refine Seq.nil ?_
              refine hK38 ?_
              refine Cd.if ((stateP ol2 el2 ti) = 0) rfl (fun t46 => ?_) (fun t46 => ?_)
              · skip
                refine Cd.seq (fun K47 hK47 => ?_)
                refine Cd.region [0] rfl ?_
                refine Seq.rd0 at0 rfl rfl (O.assign (v := .bool _) rfl) ?_
                refine Seq.nil ?_
                refine hK47 ?_
                refine Cd.ret ?_
                exfalso; have hf := hfine ti; unfold Fine at hf; omega
              · skip
                refine Cd.skip ?_
                refine hK37 ?_
                refine Cd.region [0, 1] rfl ?_
                refine Seq.rd0 at0 rfl rfl (O.move (v := .int .i64 _) rfl) ?_
                refine Seq.rd0 at1 rfl rfl (O.assign (v := .int .i64 _) rfl) ?_
                refine Seq.nil ?_
                refine hK24 ?_
                refine Cd.region [0, 1, 2] rfl ?_
                refine Seq.rd0 at0 rfl rfl (O.move (v := .int .i64 _) (by exact s19)) ?_
                refine Seq.rd0 at1 rfl rfl (O.add rfl rfl (by omega) (by omega)) ?_
                refine Seq.rd0 at2 rfl rfl (O.assign (v := .int .i64 _) rfl) ?_
                refine Seq.nil ?_
                refine Ent.drop ?_
                exact hK20 _ (by omega) ⟨i + 1, l2, el2, hl2, ol2, Lp2, rfl, (by exact s15), (by exact s16), (by exact s17), rfl, rfl, rfl, by omega, hp2, hov2⟩
            · rw [decide_eq_false t45]
              refine Seq.pass at11 rfl rfl ?_
              refine Seq.pass at12 rfl rfl ?_
              refine Seq.rd0 at13 rfl rfl (O.pickF (v := .bool _) rfl rfl) ?_
              refine Seq.rd0 at14 rfl rfl (O.pickF (v := .bool _) rfl rfl) ?_
              refine Seq.nil ?_
              refine hK38 ?_
              refine Cd.condF rfl ?_
              refine Cd.skip ?_
              refine hK37 ?_
              refine Cd.region [0, 1] rfl ?_
              refine Seq.rd0 at0 rfl rfl (O.move (v := .int .i64 _) rfl) ?_
              refine Seq.rd0 at1 rfl rfl (O.assign (v := .int .i64 _) rfl) ?_
              refine Seq.nil ?_
              refine hK24 ?_
              refine Cd.region [0, 1, 2] rfl ?_
              refine Seq.rd0 at0 rfl rfl (O.move (v := .int .i64 _) (by exact s19)) ?_
              refine Seq.rd0 at1 rfl rfl (O.add rfl rfl (by omega) (by omega)) ?_
              refine Seq.rd0 at2 rfl rfl (O.assign (v := .int .i64 _) rfl) ?_
              refine Seq.nil ?_
              refine Ent.drop ?_
              exact hK20 _ (by omega) ⟨i + 1, l2, el2, hl2, ol2, Lp2, rfl, (by exact s15), (by exact s16), (by exact s17), rfl, rfl, rfl, by omega, hp2, hov2⟩
        · skip
          refine Cd.seq (fun K48 hK48 => ?_)
          refine Cd.region [0, 1] rfl ?_
          refine Seq.rd0 at0 rfl rfl (O.eqI rfl rfl) ?_
          refine Seq.rd0 at1 rfl rfl (O.assign (v := .bool _) rfl) ?_
          refine Seq.nil ?_
          refine hK48 ?_
          refine Cd.if (xs[i].op = 1) rfl (fun t49 => ?_) (fun t49 => ?_)
          · skip
            refine Cd.region [0, 1, 2, 3, 4, 5, 6] rfl ?_
            refine Seq.rd0 at0 rfl rfl (O.move (v := .pointer _) (by exact s17)) ?_
            refine Seq.rd0 at1 rfl rfl (O.field fo_38_1 rfl) ?_
            refine Seq.rd0 at2 rfl rfl (O.field fo_27_0 rfl) ?_
            refine Seq.rd1 at3 rfl rfl (O.load kd_2 rfl (Act_e_id _)) Rd.head ?_
            refine Seq.rd0 at4 rfl rfl (O.field fo_38_2 rfl) ?_
            refine Seq.rd1 at5 rfl rfl (O.loadA kd_24 rfl (Nat.le_of_ble_eq_true rfl) (Act_at_ _)) Rd.head ?_
            refine Seq.op at6 rfl (Op.callF rfl hb_17 (Fn.perm (C_Commit (L := ((b27, _) :: []) ++ L) hp (ti := (⟨xs[i].e.id, hwf⟩ : I64)) (s := xs[i].at_)) (bring (pre := ((b27, _) :: [])) (Ls := Lp) (R := L))) rfl ?_)
            rintro _ _ ⟨rfl, l9, Lp2, rfl, hb, ha⟩
            obtain ⟨l2, el2, hl2, ol2, hp2, hov2, hfine⟩ := over_commit hov hb ha
            refine Ent.perm ?_ (bring (Ls := Lp2) (pre := ((b27, _) :: [])) (R := L)).symm
            refine Seq.nil ?_
            refine hK32 ?_
            refine Cd.seq (fun K50 hK50 => ?_)
            refine Cd.region [0, 1, 2, 3] rfl ?_
            refine Seq.rd0 at0 rfl rfl (O.move (v := .pointer _) (by exact s17)) ?_
            refine Seq.rd0 at1 rfl rfl (O.move (v := .int .i64 _) (by exact s16)) ?_
            refine Seq.op at2 rfl (Op.callF rfl hb_19 (C_State (ti := ti) ((PtOwn.at_ (R := L) hp2).cons)) rfl ?_)
            rintro _ _ ⟨rfl, rfl⟩
            refine Seq.rd0 at3 rfl rfl (O.assign (v := .int .i64 _) rfl) ?_
            refine Seq.nil ?_
            refine hK50 ?_
            refine Cd.seq (fun K51 hK51 => ?_)
            refine Cd.seq (fun K52 hK52 => ?_)
            refine Cd.region [0, 1, 2, 3, 4, 5, 6, 7, 8, 9, 10, 11, 12, 13, 14] rfl ?_
            refine Seq.rd0 at0 rfl rfl (O.move (v := .int .i64 _) (by exact s18)) ?_
            refine Seq.rd0 at1 rfl rfl (O.geq rfl rfl) ?_
            refine Seq.rd0 at2 rfl rfl (O.move (v := .bool _) rfl) ?_
            by_cases t53 : (2 : Int) ≤ (stateP ol1 el1 ti)
            · rw [decide_eq_true t53]
              refine Seq.rd0 at3 rfl rfl (O.move (v := .int .i64 _) rfl) ?_
              refine Seq.rd0 at4 rfl rfl (O.move (v := .int .i64 _) (by exact s18)) ?_
              refine Seq.rd0 at5 rfl rfl (O.neI rfl rfl) ?_
              refine Seq.rd0 at6 rfl rfl (O.pickT (v := .bool _) rfl rfl) ?_
              refine Seq.rd0 at7 rfl rfl (O.move (v := .bool _) rfl) ?_
              by_cases t54 : (stateP ol2 el2 ti) = (stateP ol1 el1 ti)
              · rw [decide_eq_true t54]
                refine Seq.rd0 at8 rfl rfl (O.move (v := .int .i64 _) (by exact s18)) ?_
                refine Seq.rd0 at9 rfl rfl (O.eqI rfl rfl) ?_
                refine Seq.rd0 at10 rfl rfl (O.move (v := .bool _) rfl) ?_
                by_cases t55 : (stateP ol1 el1 ti) = 1
                · rw [decide_eq_true t55]
                  refine Seq.rd0 at11 rfl rfl (O.move (v := .int .i64 _) rfl) ?_
                  refine Seq.rd0 at12 rfl rfl (O.eqI rfl rfl) ?_
                  refine Seq.rd0 at13 rfl rfl (O.pickT (v := .bool _) rfl rfl) ?_
                  refine Seq.rd0 at14 rfl rfl (O.pickF (v := .bool _) rfl rfl) ?_
                  refine Seq.nil ?_
                  refine hK52 ?_
                  refine Cd.if ((stateP ol2 el2 ti) = 0) rfl (fun t56 => ?_) (fun t56 => ?_)
                  · skip
                    refine Cd.seq (fun K57 hK57 => ?_)
                    refine Cd.region [0] rfl ?_
                    refine Seq.rd0 at0 rfl rfl (O.assign (v := .bool _) rfl) ?_
                    refine Seq.nil ?_
                    refine hK57 ?_
                    refine Cd.ret ?_
                    exfalso; have hf := hfine ti; unfold Fine at hf; omega
                  · skip
                    refine Cd.skip ?_
                    refine hK51 ?_
                    refine Cd.region [0, 1] rfl ?_
                    refine Seq.rd0 at0 rfl rfl (O.move (v := .int .i64 _) rfl) ?_
                    refine Seq.rd0 at1 rfl rfl (O.assign (v := .int .i64 _) rfl) ?_
                    refine Seq.nil ?_
                    refine hK24 ?_
                    refine Cd.region [0, 1, 2] rfl ?_
                    refine Seq.rd0 at0 rfl rfl (O.move (v := .int .i64 _) (by exact s19)) ?_
                    refine Seq.rd0 at1 rfl rfl (O.add rfl rfl (by omega) (by omega)) ?_
                    refine Seq.rd0 at2 rfl rfl (O.assign (v := .int .i64 _) rfl) ?_
                    refine Seq.nil ?_
                    refine Ent.drop ?_
                    exact hK20 _ (by omega) ⟨i + 1, l2, el2, hl2, ol2, Lp2, rfl, (by exact s15), (by exact s16), (by exact s17), rfl, rfl, rfl, by omega, hp2, hov2⟩
                · rw [decide_eq_false t55]
                  refine Seq.pass at11 rfl rfl ?_
                  refine Seq.pass at12 rfl rfl ?_
                  refine Seq.rd0 at13 rfl rfl (O.pickF (v := .bool _) rfl rfl) ?_
                  refine Seq.rd0 at14 rfl rfl (O.pickF (v := .bool _) rfl rfl) ?_
                  refine Seq.nil ?_
                  refine hK52 ?_
                  refine Cd.condF rfl ?_
                  refine Cd.skip ?_
                  refine hK51 ?_
                  refine Cd.region [0, 1] rfl ?_
                  refine Seq.rd0 at0 rfl rfl (O.move (v := .int .i64 _) rfl) ?_
                  refine Seq.rd0 at1 rfl rfl (O.assign (v := .int .i64 _) rfl) ?_
                  refine Seq.nil ?_
                  refine hK24 ?_
                  refine Cd.region [0, 1, 2] rfl ?_
                  refine Seq.rd0 at0 rfl rfl (O.move (v := .int .i64 _) (by exact s19)) ?_
                  refine Seq.rd0 at1 rfl rfl (O.add rfl rfl (by omega) (by omega)) ?_
                  refine Seq.rd0 at2 rfl rfl (O.assign (v := .int .i64 _) rfl) ?_
                  refine Seq.nil ?_
                  refine Ent.drop ?_
                  exact hK20 _ (by omega) ⟨i + 1, l2, el2, hl2, ol2, Lp2, rfl, (by exact s15), (by exact s16), (by exact s17), rfl, rfl, rfl, by omega, hp2, hov2⟩
              · rw [decide_eq_false t54]
                refine Seq.pass at8 rfl rfl ?_
                refine Seq.pass at9 rfl rfl ?_
                refine Seq.pass at10 rfl rfl ?_
                refine Seq.pass at11 rfl rfl ?_
                refine Seq.pass at12 rfl rfl ?_
                refine Seq.pass at13 rfl rfl ?_
                refine Seq.rd0 at14 rfl rfl (O.pickT (v := .bool _) rfl rfl) ?_
                refine Seq.nil ?_
                refine hK52 ?_
                refine Cd.condT rfl ?_
                refine Cd.seq (fun K58 hK58 => ?_)
                refine Cd.region [0] rfl ?_
                refine Seq.rd0 at0 rfl rfl (O.assign (v := .bool _) rfl) ?_
                refine Seq.nil ?_
                refine hK58 ?_
                refine Cd.ret ?_
                exfalso; have hf := hfine ti; unfold Fine at hf; omega
            · rw [decide_eq_false t53]
              refine Seq.pass at3 rfl rfl ?_
              refine Seq.pass at4 rfl rfl ?_
              refine Seq.pass at5 rfl rfl ?_
              refine Seq.rd0 at6 rfl rfl (O.pickF (v := .bool _) rfl rfl) ?_
              refine Seq.rd0 at7 rfl rfl (O.move (v := .bool _) rfl) ?_
              refine Seq.rd0 at8 rfl rfl (O.move (v := .int .i64 _) (by exact s18)) ?_
              refine Seq.rd0 at9 rfl rfl (O.eqI rfl rfl) ?_
              refine Seq.rd0 at10 rfl rfl (O.move (v := .bool _) rfl) ?_
              by_cases t59 : (stateP ol1 el1 ti) = 1
              · rw [decide_eq_true t59]
                refine Seq.rd0 at11 rfl rfl (O.move (v := .int .i64 _) rfl) ?_
                refine Seq.rd0 at12 rfl rfl (O.eqI rfl rfl) ?_
                refine Seq.rd0 at13 rfl rfl (O.pickT (v := .bool _) rfl rfl) ?_
                refine Seq.rd0 at14 rfl rfl (O.pickF (v := .bool _) rfl rfl) ?_
                refine Seq.nil ?_
                refine hK52 ?_
                refine Cd.if ((stateP ol2 el2 ti) = 0) rfl (fun t60 => ?_) (fun t60 => ?_)
                · skip
                  refine Cd.seq (fun K61 hK61 => ?_)
                  refine Cd.region [0] rfl ?_
                  refine Seq.rd0 at0 rfl rfl (O.assign (v := .bool _) rfl) ?_
                  refine Seq.nil ?_
                  refine hK61 ?_
                  refine Cd.ret ?_
                  exfalso; have hf := hfine ti; unfold Fine at hf; omega
                · skip
                  refine Cd.skip ?_
                  refine hK51 ?_
                  refine Cd.region [0, 1] rfl ?_
                  refine Seq.rd0 at0 rfl rfl (O.move (v := .int .i64 _) rfl) ?_
                  refine Seq.rd0 at1 rfl rfl (O.assign (v := .int .i64 _) rfl) ?_
                  refine Seq.nil ?_
                  refine hK24 ?_
                  refine Cd.region [0, 1, 2] rfl ?_
                  refine Seq.rd0 at0 rfl rfl (O.move (v := .int .i64 _) (by exact s19)) ?_
                  refine Seq.rd0 at1 rfl rfl (O.add rfl rfl (by omega) (by omega)) ?_
                  refine Seq.rd0 at2 rfl rfl (O.assign (v := .int .i64 _) rfl) ?_
                  refine Seq.nil ?_
                  refine Ent.drop ?_
                  exact hK20 _ (by omega) ⟨i + 1, l2, el2, hl2, ol2, Lp2, rfl, (by exact s15), (by exact s16), (by exact s17), rfl, rfl, rfl, by omega, hp2, hov2⟩
              · rw [decide_eq_false t59]
                refine Seq.pass at11 rfl rfl ?_
                refine Seq.pass at12 rfl rfl ?_
                refine Seq.rd0 at13 rfl rfl (O.pickF (v := .bool _) rfl rfl) ?_
                refine Seq.rd0 at14 rfl rfl (O.pickF (v := .bool _) rfl rfl) ?_
                refine Seq.nil ?_
                refine hK52 ?_
                refine Cd.condF rfl ?_
                refine Cd.skip ?_
                refine hK51 ?_
                refine Cd.region [0, 1] rfl ?_
                refine Seq.rd0 at0 rfl rfl (O.move (v := .int .i64 _) rfl) ?_
                refine Seq.rd0 at1 rfl rfl (O.assign (v := .int .i64 _) rfl) ?_
                refine Seq.nil ?_
                refine hK24 ?_
                refine Cd.region [0, 1, 2] rfl ?_
                refine Seq.rd0 at0 rfl rfl (O.move (v := .int .i64 _) (by exact s19)) ?_
                refine Seq.rd0 at1 rfl rfl (O.add rfl rfl (by omega) (by omega)) ?_
                refine Seq.rd0 at2 rfl rfl (O.assign (v := .int .i64 _) rfl) ?_
                refine Seq.nil ?_
                refine Ent.drop ?_
                exact hK20 _ (by omega) ⟨i + 1, l2, el2, hl2, ol2, Lp2, rfl, (by exact s15), (by exact s16), (by exact s17), rfl, rfl, rfl, by omega, hp2, hov2⟩
          · skip
            refine Cd.region [0, 1, 2, 3, 4] rfl ?_
            refine Seq.rd0 at0 rfl rfl (O.move (v := .pointer _) (by exact s17)) ?_
            refine Seq.rd0 at1 rfl rfl (O.field fo_38_1 rfl) ?_
            refine Seq.rd0 at2 rfl rfl (O.field fo_27_0 rfl) ?_
            refine Seq.rd1 at3 rfl rfl (O.load kd_2 rfl (Act_e_id _)) Rd.head ?_
            refine Seq.op at4 rfl (Op.callF rfl hb_18 (Fn.perm (C_Abort (L := ((b27, _) :: []) ++ L) hp (ti := (⟨xs[i].e.id, hwf⟩ : I64))) (bring (pre := ((b27, _) :: [])) (Ls := Lp) (R := L))) rfl ?_)
            rintro _ _ ⟨rfl, Lp2, rfl, ha, hb⟩
            obtain ⟨l2, el2, hl2, ol2, hp2, hov2, hfine⟩ := over_abort hov ha hb
            refine Ent.perm ?_ (bring (Ls := Lp2) (pre := ((b27, _) :: [])) (R := L)).symm
            refine Seq.nil ?_
            refine hK32 ?_
            refine Cd.seq (fun K62 hK62 => ?_)
            refine Cd.region [0, 1, 2, 3] rfl ?_
            refine Seq.rd0 at0 rfl rfl (O.move (v := .pointer _) (by exact s17)) ?_
            refine Seq.rd0 at1 rfl rfl (O.move (v := .int .i64 _) (by exact s16)) ?_
            refine Seq.op at2 rfl (Op.callF rfl hb_19 (C_State (ti := ti) ((PtOwn.at_ (R := L) hp2).cons)) rfl ?_)
            rintro _ _ ⟨rfl, rfl⟩
            refine Seq.rd0 at3 rfl rfl (O.assign (v := .int .i64 _) rfl) ?_
            refine Seq.nil ?_
            refine hK62 ?_
            refine Cd.seq (fun K63 hK63 => ?_)
            refine Cd.seq (fun K64 hK64 => ?_)
            refine Cd.region [0, 1, 2, 3, 4, 5, 6, 7, 8, 9, 10, 11, 12, 13, 14] rfl ?_
            refine Seq.rd0 at0 rfl rfl (O.move (v := .int .i64 _) (by exact s18)) ?_
            refine Seq.rd0 at1 rfl rfl (O.geq rfl rfl) ?_
            refine Seq.rd0 at2 rfl rfl (O.move (v := .bool _) rfl) ?_
            by_cases t65 : (2 : Int) ≤ (stateP ol1 el1 ti)
            · rw [decide_eq_true t65]
              refine Seq.rd0 at3 rfl rfl (O.move (v := .int .i64 _) rfl) ?_
              refine Seq.rd0 at4 rfl rfl (O.move (v := .int .i64 _) (by exact s18)) ?_
              refine Seq.rd0 at5 rfl rfl (O.neI rfl rfl) ?_
              refine Seq.rd0 at6 rfl rfl (O.pickT (v := .bool _) rfl rfl) ?_
              refine Seq.rd0 at7 rfl rfl (O.move (v := .bool _) rfl) ?_
              by_cases t66 : (stateP ol2 el2 ti) = (stateP ol1 el1 ti)
              · rw [decide_eq_true t66]
                refine Seq.rd0 at8 rfl rfl (O.move (v := .int .i64 _) (by exact s18)) ?_
                refine Seq.rd0 at9 rfl rfl (O.eqI rfl rfl) ?_
                refine Seq.rd0 at10 rfl rfl (O.move (v := .bool _) rfl) ?_
                by_cases t67 : (stateP ol1 el1 ti) = 1
                · rw [decide_eq_true t67]
                  refine Seq.rd0 at11 rfl rfl (O.move (v := .int .i64 _) rfl) ?_
                  refine Seq.rd0 at12 rfl rfl (O.eqI rfl rfl) ?_
                  refine Seq.rd0 at13 rfl rfl (O.pickT (v := .bool _) rfl rfl) ?_
                  refine Seq.rd0 at14 rfl rfl (O.pickF (v := .bool _) rfl rfl) ?_
                  refine Seq.nil ?_
                  refine hK64 ?_
                  refine Cd.if ((stateP ol2 el2 ti) = 0) rfl (fun t68 => ?_) (fun t68 => ?_)
                  · skip
                    refine Cd.seq (fun K69 hK69 => ?_)
                    refine Cd.region [0] rfl ?_
                    refine Seq.rd0 at0 rfl rfl (O.assign (v := .bool _) rfl) ?_
                    refine Seq.nil ?_
                    refine hK69 ?_
                    refine Cd.ret ?_
                    exfalso; have hf := hfine ti; unfold Fine at hf; omega
                  · skip
                    refine Cd.skip ?_
                    refine hK63 ?_
                    refine Cd.region [0, 1] rfl ?_
                    refine Seq.rd0 at0 rfl rfl (O.move (v := .int .i64 _) rfl) ?_
                    refine Seq.rd0 at1 rfl rfl (O.assign (v := .int .i64 _) rfl) ?_
                    refine Seq.nil ?_
                    refine hK24 ?_
                    refine Cd.region [0, 1, 2] rfl ?_
                    refine Seq.rd0 at0 rfl rfl (O.move (v := .int .i64 _) (by exact s19)) ?_
                    refine Seq.rd0 at1 rfl rfl (O.add rfl rfl (by omega) (by omega)) ?_
                    refine Seq.rd0 at2 rfl rfl (O.assign (v := .int .i64 _) rfl) ?_
                    refine Seq.nil ?_
                    refine Ent.drop ?_
                    exact hK20 _ (by omega) ⟨i + 1, l2, el2, hl2, ol2, Lp2, rfl, (by exact s15), (by exact s16), (by exact s17), rfl, rfl, rfl, by omega, hp2, hov2⟩
                · rw [decide_eq_false t67]
                  refine Seq.pass at11 rfl rfl ?_
                  refine Seq.pass at12 rfl rfl ?_
                  refine Seq.rd0 at13 rfl rfl (O.pickF (v := .bool _) rfl rfl) ?_
                  refine Seq.rd0 at14 rfl rfl (O.pickF (v := .bool _) rfl rfl) ?_
                  refine Seq.nil ?_
                  refine hK64 ?_
                  refine Cd.condF rfl ?_
                  refine Cd.skip ?_
                  refine hK63 ?_
                  refine Cd.region [0, 1] rfl ?_
                  refine Seq.rd0 at0 rfl rfl (O.move (v := .int .i64 _) rfl) ?_
                  refine Seq.rd0 at1 rfl rfl (O.assign (v := .int .i64 _) rfl) ?_
                  refine Seq.nil ?_
                  refine hK24 ?_
                  refine Cd.region [0, 1, 2] rfl ?_
                  refine Seq.rd0 at0 rfl rfl (O.move (v := .int .i64 _) (by exact s19)) ?_
                  refine Seq.rd0 at1 rfl rfl (O.add rfl rfl (by omega) (by omega)) ?_
                  refine Seq.rd0 at2 rfl rfl (O.assign (v := .int .i64 _) rfl) ?_
                  refine Seq.nil ?_
                  refine Ent.drop ?_
                  exact hK20 _ (by omega) ⟨i + 1, l2, el2, hl2, ol2, Lp2, rfl, (by exact s15), (by exact s16), (by exact s17), rfl, rfl, rfl, by omega, hp2, hov2⟩
              · rw [decide_eq_false t66]
                refine Seq.pass at8 rfl rfl ?_
                refine Seq.pass at9 rfl rfl ?_
                refine Seq.pass at10 rfl rfl ?_
                refine Seq.pass at11 rfl rfl ?_
                refine Seq.pass at12 rfl rfl ?_
                refine Seq.pass at13 rfl rfl ?_
                refine Seq.rd0 at14 rfl rfl (O.pickT (v := .bool _) rfl rfl) ?_
                refine Seq.nil ?_
                refine hK64 ?_
                refine Cd.condT rfl ?_
                refine Cd.seq (fun K70 hK70 => ?_)
                refine Cd.region [0] rfl ?_
                refine Seq.rd0 at0 rfl rfl (O.assign (v := .bool _) rfl) ?_
                refine Seq.nil ?_
                refine hK70 ?_
                refine Cd.ret ?_
                exfalso; have hf := hfine ti; unfold Fine at hf; omega
            · rw [decide_eq_false t65]
              refine Seq.pass at3 rfl rfl ?_
              refine Seq.pass at4 rfl rfl ?_
              refine Seq.pass at5 rfl rfl ?_
              refine Seq.rd0 at6 rfl rfl (O.pickF (v := .bool _) rfl rfl) ?_
              refine Seq.rd0 at7 rfl rfl (O.move (v := .bool _) rfl) ?_
              refine Seq.rd0 at8 rfl rfl (O.move (v := .int .i64 _) (by exact s18)) ?_
              refine Seq.rd0 at9 rfl rfl (O.eqI rfl rfl) ?_
              refine Seq.rd0 at10 rfl rfl (O.move (v := .bool _) rfl) ?_
              by_cases t71 : (stateP ol1 el1 ti) = 1
              · rw [decide_eq_true t71]
                refine Seq.rd0 at11 rfl rfl (O.move (v := .int .i64 _) rfl) ?_
                refine Seq.rd0 at12 rfl rfl (O.eqI rfl rfl) ?_
                refine Seq.rd0 at13 rfl rfl (O.pickT (v := .bool _) rfl rfl) ?_
                refine Seq.rd0 at14 rfl rfl (O.pickF (v := .bool _) rfl rfl) ?_
                refine Seq.nil ?_
                refine hK64 ?_
                refine Cd.if ((stateP ol2 el2 ti) = 0) rfl (fun t72 => ?_) (fun t72 => ?_)
                · skip
                  refine Cd.seq (fun K73 hK73 => ?_)
                  refine Cd.region [0] rfl ?_
                  refine Seq.rd0 at0 rfl rfl (O.assign (v := .bool _) rfl) ?_
                  refine Seq.nil ?_
                  refine hK73 ?_
                  refine Cd.ret ?_
                  exfalso; have hf := hfine ti; unfold Fine at hf; omega
                · skip
                  refine Cd.skip ?_
                  refine hK63 ?_
                  refine Cd.region [0, 1] rfl ?_
                  refine Seq.rd0 at0 rfl rfl (O.move (v := .int .i64 _) rfl) ?_
                  refine Seq.rd0 at1 rfl rfl (O.assign (v := .int .i64 _) rfl) ?_
                  refine Seq.nil ?_
                  refine hK24 ?_
                  refine Cd.region [0, 1, 2] rfl ?_
                  refine Seq.rd0 at0 rfl rfl (O.move (v := .int .i64 _) (by exact s19)) ?_
                  refine Seq.rd0 at1 rfl rfl (O.add rfl rfl (by omega) (by omega)) ?_
                  refine Seq.rd0 at2 rfl rfl (O.assign (v := .int .i64 _) rfl) ?_
                  refine Seq.nil ?_
                  refine Ent.drop ?_
                  exact hK20 _ (by omega) ⟨i + 1, l2, el2, hl2, ol2, Lp2, rfl, (by exact s15), (by exact s16), (by exact s17), rfl, rfl, rfl, by omega, hp2, hov2⟩
              · rw [decide_eq_false t71]
                refine Seq.pass at11 rfl rfl ?_
                refine Seq.pass at12 rfl rfl ?_
                refine Seq.rd0 at13 rfl rfl (O.pickF (v := .bool _) rfl rfl) ?_
                refine Seq.rd0 at14 rfl rfl (O.pickF (v := .bool _) rfl rfl) ?_
                refine Seq.nil ?_
                refine hK64 ?_
                refine Cd.condF rfl ?_
                refine Cd.skip ?_
                refine hK63 ?_
                refine Cd.region [0, 1] rfl ?_
                refine Seq.rd0 at0 rfl rfl (O.move (v := .int .i64 _) rfl) ?_
                refine Seq.rd0 at1 rfl rfl (O.assign (v := .int .i64 _) rfl) ?_
                refine Seq.nil ?_
                refine hK24 ?_
                refine Cd.region [0, 1, 2] rfl ?_
                refine Seq.rd0 at0 rfl rfl (O.move (v := .int .i64 _) (by exact s19)) ?_
                refine Seq.rd0 at1 rfl rfl (O.add rfl rfl (by omega) (by omega)) ?_
                refine Seq.rd0 at2 rfl rfl (O.assign (v := .int .i64 _) rfl) ?_
                refine Seq.nil ?_
                refine Ent.drop ?_
                exact hK20 _ (by omega) ⟨i + 1, l2, el2, hl2, ol2, Lp2, rfl, (by exact s15), (by exact s16), (by exact s17), rfl, rfl, rfl, by omega, hp2, hov2⟩
    · skip
      refine Cd.exit ?_
      refine hK10 ?_
      refine Cd.seq (fun K74 hK74 => ?_)
      refine Cd.region [0, 1, 2, 3, 4, 5, 6, 7, 8] rfl ?_
      refine Seq.rd0 at0 rfl rfl (O.move (v := .int .i64 _) (by exact s18)) ?_
      refine Seq.rd0 at1 rfl rfl (O.geq rfl rfl) ?_
      refine Seq.rd0 at2 rfl rfl (O.move (v := .bool _) rfl) ?_
      by_cases t75 : (0 : Int) ≤ (stateP ol1 el1 ti)
      · rw [decide_eq_true t75]
        refine Seq.rd0 at3 rfl rfl (O.move (v := .int .i64 _) (by exact s18)) ?_
        refine Seq.rd0 at4 rfl rfl (O.leq rfl rfl) ?_
        refine Seq.rd0 at5 rfl rfl (O.pickT (v := .bool _) rfl rfl) ?_
        refine Seq.rd0 at6 rfl rfl (O.move (v := .bool _) rfl) ?_
        by_cases t76 : (stateP ol1 el1 ti) ≤ 3
        · rw [decide_eq_true t76]
          refine Seq.rd0 at7 rfl rfl (O.pickT (v := .bool _) rfl rfl) ?_
          refine Seq.rd0 at8 rfl rfl (O.assign (v := .bool _) rfl) ?_
          refine Seq.nil ?_
          refine hK74 ?_
          refine Cd.ret ?_
          exact hR _ L (Res.one (v := .bool _) rfl rfl) ⟨rfl, rfl⟩ (sub_app (G := Lp) (.refl _))
        · rw [decide_eq_false t76]
          refine Seq.rd0 at7 rfl rfl (O.pickF (v := .bool _) rfl rfl) ?_
          refine Seq.rd0 at8 rfl rfl (O.assign (v := .bool _) rfl) ?_
          refine Seq.nil ?_
          refine hK74 ?_
          refine Cd.ret ?_
          exfalso; have hr := state_range (el := el1) hov ti; omega
      · rw [decide_eq_false t75]
        refine Seq.pass at3 rfl rfl ?_
        refine Seq.pass at4 rfl rfl ?_
        refine Seq.rd0 at5 rfl rfl (O.pickF (v := .bool _) rfl rfl) ?_
        refine Seq.rd0 at6 rfl rfl (O.move (v := .bool _) rfl) ?_
        refine Seq.rd0 at7 rfl rfl (O.pickF (v := .bool _) rfl rfl) ?_
        refine Seq.rd0 at8 rfl rfl (O.assign (v := .bool _) rfl) ?_
        refine Seq.nil ?_
        refine hK74 ?_
        refine Cd.ret ?_
        exfalso; have hr := state_range (el := el1) hov ti; omega

end Go.X

/- Arguments that are handed in: what they hold, as rows that can be read. -/
namespace Go.X
open Go.ChangeShapes Go.WideShapes Go.Deep
section
variable {H : Type} {en : TypeId × Value → H} {P : Program} {w : World} {base : Nat} {spare : Nat → Bool} {held : Bool}
def fieldAt (P : Program) (t i : Nat) : Option (Nat × Nat) := ((P.fieldsOf t)[i]?).map fun f => (f.type, f.offset)
/-- a datum's parts are not too great -/
def Fits (P : Program) (t : TypeId) (d : DataW H) : Prop := ∀ m ∈ d.weights P t, m ≤ reachBytes
theorem each_mem {m : Nat} : ∀ {ts : List TypeId} {ds : List (DataW H)} {i : Nat} {T : TypeId} {d : DataW H}, ts[i]? = some T → ds[i]? = some d → m ∈ d.weights P T → m ∈ DataW.weightsEach P ts ds
  | t :: ts, d0 :: ds, 0, T, d, ht, hd, hm => by
    obtain rfl : t = T := by simpa using ht
    obtain rfl : d0 = d := by simpa using hd
    simp only [DataW.weightsEach, List.mem_append]
    exact .inl hm
  | t :: ts, d0 :: ds, i + 1, T, d, ht, hd, hm => by
    simp only [DataW.weightsEach, List.mem_append]
    exact .inr (each_mem (by simpa using ht) (by simpa using hd) hm)
theorem all_mem {m : Nat} {e : TypeId} : ∀ {ds : List (DataW H)} {d : DataW H}, d ∈ ds → m ∈ d.weights P e → m ∈ DataW.weightsAll P e ds
  | d0 :: ds, d, hd, hm => by
    simp only [DataW.weightsAll, List.mem_append]
    rcases List.mem_cons.1 hd with rfl | hd
    · exact .inl hm
    · exact .inr (all_mem hd hm)
theorem trod_field {t fuel : Nat} {cs : List Value} {x : DataW H × List MemPlace} (hu : P.underlying t = some (.struct (P.fieldsOf t))) (h : DataW.trod en P w base spare held fuel t cs = some x) (hw : Fits P t x.1) :
    cs.length = P.cellsOf t ∧ ∃ n, ∀ i T o, fieldAt P t i = some (T, o) → ∃ y, DataW.trod en P w base spare held n T ((cs.drop o).take (P.cellsOf T)) = some y ∧ Fits P T y.1 := by
  obtain ⟨xs, n, _, rfl, hl, hx, hf⟩ := DataW.trod_struct hu h
  refine ⟨hl, n, fun i T o hi => ?_⟩
  unfold fieldAt at hi
  cases hfi : (P.fieldsOf t)[i]? with
  | none => rw [hfi] at hi; cases hi
  | some f =>
    rw [hfi] at hi
    simp only [Option.map_some, Option.some.injEq, Prod.mk.injEq] at hi
    obtain ⟨rfl, rfl⟩ := hi
    have hlt : i < xs.length := by rw [hx]; exact (Array.getElem?_eq_some_iff.1 hfi).1
    refine ⟨xs[i], (hf i f hfi).trans (List.getElem?_eq_getElem hlt), fun m hm => hw m ?_⟩
    simp only [DataW.weights, hu]
    exact each_mem (i := i) (by simp [hfi]) (by simp [List.getElem?_eq_getElem hlt]) hm
theorem split_at {α : Type} (cs : List α) (a : Nat) {b n : Nat} (hn : n = a + b) : (cs.drop a).take b ++ (cs.drop n) = cs.drop a := by
  subst hn
  rw [← List.drop_drop]; exact List.take_append_drop b _
/-- a key's cells -/
theorem dec_Key {t e fuel : Nat} {cs : List Value} {x : DataW H × List MemPlace} (ht : P.underlying t = some (.array 16 e)) (he : P.underlying e = some (.int .u8)) (hC : P.cellsOf t = 16) (hc : P.cellsOf e = 1)
    (h : DataW.trod en P w base spare held fuel t cs = some x) : ∃ k : Key, cs = (Key_enc k).toList := by
  obtain ⟨xs, m, _, _, hl, hn, hf⟩ := DataW.trod_array ht h
  rw [hC] at hl
  have hcell : ∀ i, i < 16 → ∃ b : UInt8, cs[i]? = some (byteV b) := by
    intro i hi
    have h1 := hf i hi
    rw [hc, Nat.mul_one, List.getElem?_eq_getElem (by omega)] at h1
    obtain ⟨v, hv, _, hw⟩ := DataW.trod_int he h1
    simp only [Lit.wf, IntKind.min, IntKind.max, IntKind.signed, IntKind.bits, Bool.and_eq_true, decide_eq_true_eq] at hw
    have h2 : cs[i]? = some (.int .u8 v) := by
      have := congrArg (fun l => l[0]?) hv
      simpa [List.getElem?_take, List.getElem?_drop] using this
    have h3 : 0 ≤ v := by simpa using hw.1
    have h4 : v < 256 := by have := hw.2; simp at this; omega
    refine ⟨UInt8.ofNat v.toNat, ?_⟩
    rw [h2, byteV]
    have : (UInt8.ofNat v.toNat).toNat = v.toNat := by rw [UInt8.toNat_ofNat']; omega
    rw [this, Int.toNat_of_nonneg h3]
  have hall : ∃ l : List UInt8, l.length = 16 ∧ cs = l.map byteV := by
    have key : ∀ k, k ≤ 16 → ∃ l : List UInt8, l.length = k ∧ cs.take k = l.map byteV := by
      intro k
      induction k with
      | zero => intro _; exact ⟨[], rfl, by simp⟩
      | succ k ih =>
        intro hk
        obtain ⟨l, h1, h2⟩ := ih (by omega)
        obtain ⟨b, hb⟩ := hcell k (by omega)
        exact ⟨l ++ [b], by simp [h1], by rw [List.take_add_one, h2, hb]; simp⟩
    obtain ⟨l, h1, h2⟩ := key 16 (Nat.le_refl _)
    exact ⟨l, h1, by rw [← h2, List.take_of_length_le (by omega)]⟩
  obtain ⟨l, h1, h2⟩ := hall
  exact ⟨⟨l, h1⟩, by rw [h2, Key_cells]⟩
theorem dec_int {t fuel : Nat} {k : IntKind} {cs : List Value} {x : DataW H × List MemPlace} (ht : P.underlying t = some (.int k)) (h : DataW.trod en P w base spare held fuel t cs = some x) :
    ∃ n, cs = [.int k n] ∧ (Lit.int k n).wf = true := by
  obtain ⟨n, h1, _, h2⟩ := DataW.trod_int ht h
  exact ⟨n, h1, h2⟩
theorem dec_bool {t fuel : Nat} {cs : List Value} {x : DataW H × List MemPlace} (ht : P.underlying t = some .bool) (h : DataW.trod en P w base spare held fuel t cs = some x) : ∃ b, cs = [.bool b] := by
  obtain ⟨n, h1, _⟩ := DataW.trod_bool ht h
  exact ⟨n, h1⟩
theorem dec_str {t fuel : Nat} {cs : List Value} {x : DataW H × List MemPlace} (ht : P.underlying t = some .string) (h : DataW.trod en P w base spare held fuel t cs = some x) : ∃ b : ByteArray, cs = [.string b] ∧ b.size ≤ maxLen := by
  obtain ⟨n, h1, _, h2⟩ := DataW.trod_string ht h
  exact ⟨n, h1, h2⟩
/-- a slice that was handed in can be read, as long as nothing outside is written -/
def Given {α : Type} (w : World) (enc : α → Array Value) (av : Option Addr) (n : Nat) (xs : List α) : Prop :=
  ∀ (c : Cx) (L : List Pt), c.w0 = w → (∀ b, ¬ c.F b) → SlAt c L enc av n xs
theorem list_of {α : Type} {Q : Nat → α → Prop} : ∀ (n : Nat), (∀ i, i < n → ∃ x, Q i x) → ∃ xs : List α, xs.length = n ∧ ∀ i x, xs[i]? = some x → Q i x
  | 0, _ => ⟨[], rfl, by simp⟩
  | n + 1, h => by
    obtain ⟨xs, h1, h2⟩ := list_of n (fun i hi => h i (by omega))
    obtain ⟨x, hx⟩ := h n (by omega)
    refine ⟨xs ++ [x], by simp [h1], fun i y hy => ?_⟩
    rw [List.getElem?_append] at hy
    split at hy
    · exact h2 i y hy
    · rename_i hi
      have : i = n := by
        rcases Nat.lt_or_ge (i - xs.length) 1 with h3 | h3
        · omega
        · rw [List.getElem?_eq_none (by simpa using h3)] at hy; cases hy
      subst this
      rw [h1, Nat.sub_self] at hy
      simp at hy; subst hy; exact hx
theorem dec_slice {α : Type} {enc : α → Array Value} {sz : Nat} {Q : α → Prop} {t e fuel : Nat} {cs : List Value} {x : DataW H × List MemPlace} (hs : ∀ x, (enc x).size = sz) (h0 : 0 < sz)
    (ht : P.underlying t = some (.slice e)) (hC : P.cellsOf e = sz) (hb1 : 1 ≤ P.bytesOf e) (dec : ∀ n cs' y, DataW.trod en P w base spare held n e cs' = some y → Fits P e y.1 → ∃ x, cs' = (enc x).toList ∧ Q x)
    (h : DataW.trod en P w base spare held fuel t cs = some x) (hw : Fits P t x.1) : ∃ av n cap xs, cs = [.slice av n cap] ∧ Given w enc av n xs ∧ ∀ x ∈ xs, Q x := by
  rcases open_slice ht h with ⟨rfl, _⟩ | ⟨a, len, cap, m, n, D, Pl, rfl, hb, hl, hm, hmm, rfl, hi⟩
  · exact ⟨none, 0, 0, [], rfl, fun c L _ _ => ⟨rfl, by decide, fun h => absurd rfl h⟩, by simp⟩
  · have hle : len ≤ m := by rw [hmm]; split <;> omega
    obtain ⟨xs, h1, h2⟩ := list_of (Q := fun i (x : α) => w.cells? base (a.add (i * sz)) sz = some (enc x).toList ∧ Q x) len (fun i hi' => by
      obtain ⟨cs', h3, h4⟩ := hi i (by omega)
      obtain ⟨x, rfl, hq⟩ := dec n cs' _ h4 (fun q hq => hw q (by
        simp only [DataW.weights, ht, List.mem_cons, List.mem_append]
        exact .inr (.inl (all_mem (List.mem_map.2 ⟨i, List.mem_range.2 hi', rfl⟩) hq))))
      rw [hC] at h3
      exact ⟨x, h3, hq⟩)
    refine ⟨some a, len, cap, xs, rfl, ?_, fun x hx => ?_⟩
    · intro c L hc hF
      have hcap : len < 4611686018427387904 := by
        have h5 := hw ((((List.range len).map D).length + ((List.range (m - len)).map fun j => D (len + j)).length) * P.bytesOf e) (by simp only [DataW.weights, ht, List.mem_cons]; exact .inl trivial)
        have h6 : len * 1 ≤ (((List.range len).map D).length + ((List.range (m - len)).map fun j => D (len + j)).length) * P.bytesOf e := Nat.mul_le_mul (by simp) hb1
        have h7 : reachBytes = 140737488351232 := rfl
        omega
      refine ⟨h1.symm, hcap, fun hn => ?_⟩
      have hpos : 0 < xs.length := List.length_pos_iff.2 hn
      have hat : ∀ i k, i < len → k < sz → ∀ x, xs[i]? = some x → w.cell? (a.add (i * sz + k)) = (enc x)[k]? := by
        intro i k hi' hk x hx
        obtain ⟨h3, _⟩ := h2 i x hx
        obtain ⟨_, _, h4⟩ := World.cells?_some h3
        have := h4 k hk
        rw [Go.Deep.add_add] at this
        rw [this]; simp
      have hx0 : xs[0]? = some xs[0] := List.getElem?_eq_getElem hpos
      have h00 := hat 0 0 (by omega) h0 _ hx0
      rw [Nat.zero_mul] at h00
      have e0 : a.add (0 + 0) = a := rfl
      rw [e0, Array.getElem?_eq_getElem (by rw [hs]; exact h0)] at h00
      unfold World.cell? at h00
      cases hob : w.heap[a.block]? with
      | none => rw [hob] at h00; cases h00
      | some ob =>
        rw [hob] at h00
        cases ob with
        | cells c2 el fz =>
          simp only at h00
          have hsp : a.spot = none := by
            cases hsp : a.spot with
            | none => rfl
            | some s => rw [hsp] at h00; simp at h00
          have hcell : ∀ j, w.cell? (a.add j) = c2[a.off + j]? := by
            intro j
            unfold World.cell? Addr.add
            by_cases hj : j = 0
            · subst hj; simp [hob, hsp]
            · simp [hj, hob]
          have hlast : a.off + len * sz ≤ c2.size := by
            have hi' : len - 1 < xs.length := by omega
            have h3 := hat (len - 1) (sz - 1) (by omega) (by omega) _ (List.getElem?_eq_getElem hi')
            have hlt2 : sz - 1 < (enc (xs[len - 1]'hi')).size := by rw [hs]; omega
            rw [hcell, Array.getElem?_eq_getElem hlt2] at h3
            have h4 := (Array.getElem?_eq_some_iff.1 h3).1
            have h5 : (len - 1) * sz + (sz - 1) + 1 = len * sz := by
              obtain ⟨q, rfl⟩ : ∃ q, len = q + 1 := ⟨len - 1, by omega⟩
              rw [Nat.add_sub_cancel, Nat.succ_mul]; omega
            omega
          have hrs := rows_size hs xs
          rw [h1] at hrs
          refine ⟨c2.extract 0 a.off, c2.extract (a.off + len * sz) c2.size, el, fz, ?_, ?_⟩
          · have : (c2.extract 0 a.off).size = a.off := by simp; omega
            rw [this]
            cases a
            simp only at hsp
            subst hsp
            rfl
          · have hcs : c2 = c2.extract 0 a.off ++ (rows enc xs ++ c2.extract (a.off + len * sz) c2.size) := by
              apply Array.ext_getElem?
              intro j
              have hpre : (c2.extract 0 a.off).size = a.off := by simp; omega
              rcases Nat.lt_or_ge j a.off with hj | hj
              · rw [Array.getElem?_append_left (by omega), Array.getElem?_extract]
                simp; omega
              · rw [Array.getElem?_append_right (by omega), hpre]
                rcases Nat.lt_or_ge (j - a.off) (len * sz) with hj2 | hj2
                · have hq : (j - a.off) / sz < len := by rw [Nat.div_lt_iff_lt_mul h0]; exact hj2
                  have hr : (j - a.off) % sz < sz := Nat.mod_lt _ h0
                  have hqx : (j - a.off) / sz < xs.length := by omega
                  have hd : (j - a.off) / sz * sz + (j - a.off) % sz = j - a.off := by rw [Nat.mul_comm]; exact Nat.div_add_mod _ _
                  have h3 := hat _ _ hq hr _ (List.getElem?_eq_getElem hqx)
                  have h4 := rows_get hs (sp := c2.extract (a.off + len * sz) c2.size) (List.getElem?_eq_getElem hqx) ((j - a.off) % sz) hr
                  rw [hcell, hd] at h3
                  rw [hd] at h4
                  rw [h4, ← h3, show a.off + (j - a.off) = j by omega]
                · rw [Array.getElem?_append_right (by omega), hrs, Array.getElem?_extract]
                  rw [show a.off + len * sz + (j - a.off - len * sz) = j by omega]
                  rcases Nat.lt_or_ge j c2.size with hj3 | hj3
                  · simp; omega
                  · rw [Array.getElem?_eq_none hj3]; simp
            have hb2 : w.heap[a.block]? = some (.cells (c2.extract 0 a.off ++ (rows enc xs ++ c2.extract (a.off + len * sz) c2.size)) el fz) := by rw [← hcs]; exact hob
            exact Rd.old (by rw [hc]; exact hb2) (hF _)
        | _ => cases h00
    · obtain ⟨i, hi', rfl⟩ := List.getElem_of_mem hx
      exact (h2 i _ (List.getElem?_eq_getElem hi')).2
end
end Go.X

namespace Go.X
open Go.Proofs

open Go.ChangeShapes Go.WideShapes Go.Deep Go.RowKit
/-- a write's row is handed in -/
def wsIn (w : World) (v : Sv) : Prop := ∃ ws : List Write, Given w Write_enc v.a v.n ws

theorem decI64 {H : Type} {en : TypeId × Value → H} {w : World} {base : Nat} {spare : Nat → Bool} {held : Bool} {n : Nat} {cs : List Value} {y : DataW H × List MemPlace} (h : DataW.trod en Tryz.prog w base spare held n 3 cs = some y) : ∃ x : Int, cs = (intE x).toList ∧ True := by
  obtain ⟨x, e, _⟩ := dec_int (k := .i64) (by kernel_rfl) h
  exact ⟨x, e, trivial⟩

theorem decWrite {H : Type} {en : TypeId × Value → H} {w : World} {base : Nat} {spare : Nat → Bool} {held : Bool} {n : Nat} {cs : List Value} {y : DataW H × List MemPlace} (h : DataW.trod en Tryz.prog w base spare held n 47 cs = some y) (hw : Fits Tryz.prog 47 y.1) : ∃ x : Write, cs = (Write_enc x).toList ∧ True := by
  obtain ⟨hl, n1, hf⟩ := trod_field (by kernel_rfl) h hw
  rw [(by kernel_rfl : Tryz.prog.cellsOf 47 = 18)] at hl
  obtain ⟨y0, h0, w0⟩ := hf 0 45 0 (by kernel_rfl)
  rw [(by kernel_rfl : Tryz.prog.cellsOf 45 = 16)] at h0
  obtain ⟨x0, e0⟩ := dec_Key (e := 5) (by kernel_rfl) (by kernel_rfl) (by kernel_rfl) (by kernel_rfl) h0
  obtain ⟨y1, h1, w1⟩ := hf 1 9 16 (by kernel_rfl)
  rw [(by kernel_rfl : Tryz.prog.cellsOf 9 = 1)] at h1
  obtain ⟨x1, e1, q1⟩ := dec_str (by kernel_rfl) h1
  obtain ⟨y2, h2, w2⟩ := hf 2 4 17 (by kernel_rfl)
  rw [(by kernel_rfl : Tryz.prog.cellsOf 4 = 1)] at h2
  obtain ⟨x2, e2⟩ := dec_bool (by kernel_rfl) h2
  have k0 := split_at cs 0 (b := 16) (n := 16) rfl
  rw [e0] at k0
  have k1 := split_at cs 16 (b := 1) (n := 17) rfl
  rw [e1] at k1
  have k2 := split_at cs 17 (b := 1) (n := 18) rfl
  rw [e2] at k2
  rw [List.drop_eq_nil_of_le (by omega : cs.length ≤ 18)] at k2
  rw [← k2] at k1
  rw [← k1] at k0
  refine ⟨⟨x0, x1, x2⟩, ?_, trivial⟩
  show cs.drop 0 = _; rw [← k0]; rfl

theorem decStamp {H : Type} {en : TypeId × Value → H} {w : World} {base : Nat} {spare : Nat → Bool} {held : Bool} {n : Nat} {cs : List Value} {y : DataW H × List MemPlace} (h : DataW.trod en Tryz.prog w base spare held n 24 cs = some y) (hw : Fits Tryz.prog 24 y.1) : ∃ x : Stamp, cs = (Stamp_enc x).toList ∧ True := by
  obtain ⟨hl, n1, hf⟩ := trod_field (by kernel_rfl) h hw
  rw [(by kernel_rfl : Tryz.prog.cellsOf 24 = 2)] at hl
  obtain ⟨y0, h0, w0⟩ := hf 0 2 0 (by kernel_rfl)
  rw [(by kernel_rfl : Tryz.prog.cellsOf 2 = 1)] at h0
  obtain ⟨x0, e0, q0⟩ := dec_int (k := .i64) (by kernel_rfl) h0
  obtain ⟨y1, h1, w1⟩ := hf 1 5 1 (by kernel_rfl)
  rw [(by kernel_rfl : Tryz.prog.cellsOf 5 = 1)] at h1
  obtain ⟨x1, e1, q1⟩ := dec_int (k := .u8) (by kernel_rfl) h1
  have k0 := split_at cs 0 (b := 1) (n := 1) rfl
  rw [e0] at k0
  have k1 := split_at cs 1 (b := 1) (n := 2) rfl
  rw [e1] at k1
  rw [List.drop_eq_nil_of_le (by omega : cs.length ≤ 2)] at k1
  rw [← k1] at k0
  refine ⟨⟨x0, x1⟩, ?_, trivial⟩
  show cs.drop 0 = _; rw [← k0]; rfl

theorem decEntry {H : Type} {en : TypeId × Value → H} {w : World} {base : Nat} {spare : Nat → Bool} {held : Bool} {n : Nat} {cs : List Value} {y : DataW H × List MemPlace} (h : DataW.trod en Tryz.prog w base spare held n 27 cs = some y) (hw : Fits Tryz.prog 27 y.1) : ∃ x : Entry, cs = (Entry_enc x).toList ∧ ((Lit.int .i64 x.id).wf = true ∧ wsIn w x.ws) := by
  obtain ⟨hl, n1, hf⟩ := trod_field (by kernel_rfl) h hw
  rw [(by kernel_rfl : Tryz.prog.cellsOf 27 = 6)] at hl
  obtain ⟨y0, h0, w0⟩ := hf 0 2 0 (by kernel_rfl)
  rw [(by kernel_rfl : Tryz.prog.cellsOf 2 = 1)] at h0
  obtain ⟨x0, e0, q0⟩ := dec_int (k := .i64) (by kernel_rfl) h0
  obtain ⟨y1, h1, w1⟩ := hf 1 24 1 (by kernel_rfl)
  rw [(by kernel_rfl : Tryz.prog.cellsOf 24 = 2)] at h1
  obtain ⟨x1, e1, q1⟩ := decStamp h1 w1
  obtain ⟨y2, h2, w2⟩ := hf 2 24 3 (by kernel_rfl)
  rw [(by kernel_rfl : Tryz.prog.cellsOf 24 = 2)] at h2
  obtain ⟨x2, e2, q2⟩ := decStamp h2 w2
  obtain ⟨y3, h3, w3⟩ := hf 3 25 5 (by kernel_rfl)
  rw [(by kernel_rfl : Tryz.prog.cellsOf 25 = 1)] at h3
  obtain ⟨a3, m3, c3, l3, e3, q3, _⟩ := dec_slice (enc := Write_enc) (Q := fun _ => True) Write_size (by decide) (by kernel_rfl) (by kernel_rfl) (of_decide_eq_true (by kernel_rfl)) (fun _ _ _ h hw => decWrite h hw) h3 w3
  have k0 := split_at cs 0 (b := 1) (n := 1) rfl
  rw [e0] at k0
  have k1 := split_at cs 1 (b := 2) (n := 3) rfl
  rw [e1] at k1
  have k2 := split_at cs 3 (b := 2) (n := 5) rfl
  rw [e2] at k2
  have k3 := split_at cs 5 (b := 1) (n := 6) rfl
  rw [e3] at k3
  rw [List.drop_eq_nil_of_le (by omega : cs.length ≤ 6)] at k3
  rw [← k3] at k2
  rw [← k2] at k1
  rw [← k1] at k0
  refine ⟨⟨x0, x1, x2, ⟨a3, m3, c3⟩⟩, ?_, ⟨q0, ⟨l3, q3⟩⟩⟩
  show cs.drop 0 = _; rw [← k0]; rfl

theorem decRecord {H : Type} {en : TypeId × Value → H} {w : World} {base : Nat} {spare : Nat → Bool} {held : Bool} {n : Nat} {cs : List Value} {y : DataW H × List MemPlace} (h : DataW.trod en Tryz.prog w base spare held n 36 cs = some y) (hw : Fits Tryz.prog 36 y.1) : ∃ x : Record, cs = (Record_enc x).toList ∧ wsIn w x.ws := by
  obtain ⟨hl, n1, hf⟩ := trod_field (by kernel_rfl) h hw
  rw [(by kernel_rfl : Tryz.prog.cellsOf 36 = 9)] at hl
  obtain ⟨y0, h0, w0⟩ := hf 0 3 0 (by kernel_rfl)
  rw [(by kernel_rfl : Tryz.prog.cellsOf 3 = 1)] at h0
  obtain ⟨x0, e0, q0⟩ := dec_int (k := .i64) (by kernel_rfl) h0
  obtain ⟨y1, h1, w1⟩ := hf 1 2 1 (by kernel_rfl)
  rw [(by kernel_rfl : Tryz.prog.cellsOf 2 = 1)] at h1
  obtain ⟨x1, e1, q1⟩ := dec_int (k := .i64) (by kernel_rfl) h1
  obtain ⟨y2, h2, w2⟩ := hf 2 24 2 (by kernel_rfl)
  rw [(by kernel_rfl : Tryz.prog.cellsOf 24 = 2)] at h2
  obtain ⟨x2, e2, q2⟩ := decStamp h2 w2
  obtain ⟨y3, h3, w3⟩ := hf 3 24 4 (by kernel_rfl)
  rw [(by kernel_rfl : Tryz.prog.cellsOf 24 = 2)] at h3
  obtain ⟨x3, e3, q3⟩ := decStamp h3 w3
  obtain ⟨y4, h4, w4⟩ := hf 4 25 6 (by kernel_rfl)
  rw [(by kernel_rfl : Tryz.prog.cellsOf 25 = 1)] at h4
  obtain ⟨a4, m4, c4, l4, e4, q4, _⟩ := dec_slice (enc := Write_enc) (Q := fun _ => True) Write_size (by decide) (by kernel_rfl) (by kernel_rfl) (of_decide_eq_true (by kernel_rfl)) (fun _ _ _ h hw => decWrite h hw) h4 w4
  obtain ⟨y5, h5, w5⟩ := hf 5 4 7 (by kernel_rfl)
  rw [(by kernel_rfl : Tryz.prog.cellsOf 4 = 1)] at h5
  obtain ⟨x5, e5⟩ := dec_bool (by kernel_rfl) h5
  obtain ⟨y6, h6, w6⟩ := hf 6 34 8 (by kernel_rfl)
  rw [(by kernel_rfl : Tryz.prog.cellsOf 34 = 1)] at h6
  obtain ⟨a6, m6, c6, l6, e6, q6, _⟩ := dec_slice (enc := intE) (Q := fun _ => True) intE_size (by decide) (by kernel_rfl) (by kernel_rfl) (of_decide_eq_true (by kernel_rfl)) (fun _ _ _ h _ => decI64 h) h6 w6
  have k0 := split_at cs 0 (b := 1) (n := 1) rfl
  rw [e0] at k0
  have k1 := split_at cs 1 (b := 1) (n := 2) rfl
  rw [e1] at k1
  have k2 := split_at cs 2 (b := 2) (n := 4) rfl
  rw [e2] at k2
  have k3 := split_at cs 4 (b := 2) (n := 6) rfl
  rw [e3] at k3
  have k4 := split_at cs 6 (b := 1) (n := 7) rfl
  rw [e4] at k4
  have k5 := split_at cs 7 (b := 1) (n := 8) rfl
  rw [e5] at k5
  have k6 := split_at cs 8 (b := 1) (n := 9) rfl
  rw [e6] at k6
  rw [List.drop_eq_nil_of_le (by omega : cs.length ≤ 9)] at k6
  rw [← k6] at k5
  rw [← k5] at k4
  rw [← k4] at k3
  rw [← k3] at k2
  rw [← k2] at k1
  rw [← k1] at k0
  refine ⟨⟨x0, x1, x2, x3, ⟨a4, m4, c4⟩, x5, ⟨a6, m6, c6⟩⟩, ?_, ⟨l4, q4⟩⟩
  show cs.drop 0 = _; rw [← k0]; rfl

theorem decAct {H : Type} {en : TypeId × Value → H} {w : World} {base : Nat} {spare : Nat → Bool} {held : Bool} {n : Nat} {cs : List Value} {y : DataW H × List MemPlace} (h : DataW.trod en Tryz.prog w base spare held n 38 cs = some y) (hw : Fits Tryz.prog 38 y.1) : ∃ x : Act, cs = (Act_enc x).toList ∧ ((Lit.int .i64 x.e.id).wf = true ∧ wsIn w x.e.ws ∧ wsIn w x.r.ws) := by
  obtain ⟨hl, n1, hf⟩ := trod_field (by kernel_rfl) h hw
  rw [(by kernel_rfl : Tryz.prog.cellsOf 38 = 18)] at hl
  obtain ⟨y0, h0, w0⟩ := hf 0 3 0 (by kernel_rfl)
  rw [(by kernel_rfl : Tryz.prog.cellsOf 3 = 1)] at h0
  obtain ⟨x0, e0, q0⟩ := dec_int (k := .i64) (by kernel_rfl) h0
  obtain ⟨y1, h1, w1⟩ := hf 1 27 1 (by kernel_rfl)
  rw [(by kernel_rfl : Tryz.prog.cellsOf 27 = 6)] at h1
  obtain ⟨x1, e1, q1⟩ := decEntry h1 w1
  obtain ⟨y2, h2, w2⟩ := hf 2 24 7 (by kernel_rfl)
  rw [(by kernel_rfl : Tryz.prog.cellsOf 24 = 2)] at h2
  obtain ⟨x2, e2, q2⟩ := decStamp h2 w2
  obtain ⟨y3, h3, w3⟩ := hf 3 36 9 (by kernel_rfl)
  rw [(by kernel_rfl : Tryz.prog.cellsOf 36 = 9)] at h3
  obtain ⟨x3, e3, q3⟩ := decRecord h3 w3
  have k0 := split_at cs 0 (b := 1) (n := 1) rfl
  rw [e0] at k0
  have k1 := split_at cs 1 (b := 6) (n := 7) rfl
  rw [e1] at k1
  have k2 := split_at cs 7 (b := 2) (n := 9) rfl
  rw [e2] at k2
  have k3 := split_at cs 9 (b := 9) (n := 18) rfl
  rw [e3] at k3
  rw [List.drop_eq_nil_of_le (by omega : cs.length ≤ 18)] at k3
  rw [← k3] at k2
  rw [← k2] at k1
  rw [← k1] at k0
  refine ⟨⟨x0, x1, x2, x3⟩, ?_, ⟨q1.1, q1.2, q3⟩⟩
  show cs.drop 0 = _; rw [← k0]; rfl

/-- a slice argument is a slice -/
theorem okWide_slice {P : Program} {W : World} {r : Reach} {b0 : Nat} {t e : TypeId} {v : Value} (ht : P.underlying t = some (.slice e)) (h : Value.okWide P W r b0 t v) : ∃ av m cap, v = .slice av m cap := by
  unfold Value.okWide at h
  rw [ht] at h
  simp only at h
  unfold Cell.okWide at h
  rw [ht] at h
  simp only at h
  unfold Cell.ok at h
  rw [ht] at h
  cases v <;> simp at h
  exact ⟨_, _, _, rfl⟩
set_option maxRecDepth 100000 in
theorem acts_of {H : Type} {en : TypeId × Value → H} {W : World} {r : Reach} {b0 base : Nat} {spare : Nat → Bool} {held : Bool} {v : Value} {d : DataW H} {p : List MemPlace} (hv : Value.okWide Tryz.prog W r b0 22 v) (h : DataW.Trod en Tryz.prog W base spare held 22 v d p) (hw : Fits Tryz.prog 22 d) :
    ∃ av m cap xs, v = .slice av m cap ∧ Given W Act_enc av m xs ∧ ∀ x ∈ xs, (Lit.int .i64 x.e.id).wf = true ∧ wsIn W x.e.ws ∧ wsIn W x.r.ws := by
  obtain ⟨av, m, cap, rfl⟩ := okWide_slice (e := 38) (by kernel_rfl) hv
  obtain ⟨n, hf⟩ := h
  obtain ⟨av', m', cap', xs, he, hg, hq⟩ := dec_slice (enc := Act_enc) (Q := fun x => (Lit.int .i64 x.e.id).wf = true ∧ wsIn W x.e.ws ∧ wsIn W x.r.ws) Act_size (by decide) (by kernel_rfl) (by kernel_rfl) (of_decide_eq_true (by kernel_rfl)) (fun _ _ _ h hw => decAct h hw) hf hw
  simp only [Value.cells, List.cons.injEq, Value.slice.injEq, and_true] at he
  obtain ⟨rfl, rfl, rfl⟩ := he
  exact ⟨_, _, _, xs, rfl, hg, hq⟩
theorem st_nil (W : World) : St ⟨W, fun _ => False⟩ [] W := ⟨Mod.refl _ _, by simp, by simp, by simp⟩
theorem Mod.below {W W' : World} (h : Mod (fun _ => False) W W') : Below W.heap.size W W' := ⟨h.os, h.tape, h.output, h.size, fun k hk => h.block k hk (fun h => h)⟩
/-- the row's conclusion, where old memory is as it was -/
theorem post_below {H : Type} {enc : TypeId × Value → H} {P : Program} {f : Func} {s : ChangeSpec} {apart fresh handsOn again : Bool} {W W' : World} {args : Array Value} {v : Value} {ds gs : List (DataW H)} {before pa pv : List MemPlace}
    (hW : DataW.Whole enc P f.params.toList s.vars apart W args.toList ds gs before) (hb : Below W.heap.size W W')
    (hres : ∀ (b : Nat) (sp : Nat → Bool) (hd : Bool), DataW.TrodAll enc P W' b sp hd f.resultTypes.toList (v.resultList f.resultTypes.size) (s.fn H (ds ++ gs)).results [])
    (hargs : ∀ sp : Nat → Bool, (∀ p ∈ before, sp p.block = true) → DataW.TrodAll enc P W' 0 sp true f.params.toList args.toList (s.fn H (ds ++ gs)).args pa)
    (hvars : ∀ sp : Nat → Bool, (∀ p ∈ before, sp p.block = true) → DataW.TrodVars enc P W' sp s.vars (s.fn H (ds ++ gs)).vars pv)
    (hps : before = pa ++ pv)
    (hok : ∀ (j : Nat) (t : TypeId) (r : Value), f.resultTypes[j]? = some t → (v.resultList f.resultTypes.size)[j]? = some r → Value.okWide P W' .any 0 t r) :
    s.post enc P f apart fresh handsOn again W args v W' := by
  have hold : ∀ p ∈ before, (fun b => decide (b < W.heap.size)) p.block = true := fun p hp => by simpa using hW.lt p hp
  have hlt := hW.lt
  refine ⟨ds, gs, before, [], pa, pv, hW, hres _ _ _, hargs _ hold, hvars _ hold, hb.frame _, fun _ => ?_⟩
  obtain ⟨_, _, _, _, _, hz, hn⟩ := hW
  refine ⟨hok, _, _, ([] ++ pa) ++ pv, ⟨[] ++ pa, pv, trodAll_append (hargs _ (fun _ _ => rfl)) (hres _ _ _), hvars _ (fun _ _ => rfl), rfl, ?_, ?_⟩, ?_⟩
  · intro b off hp
    have hp' : MemPlace.cell b off ∈ before := by rw [hps]; simpa using hp
    rw [hb.frozen (by exact hlt _ hp')]
    exact hz b off hp'
  · intro ha
    have := hn ha
    rw [hps] at this
    simpa using this
  · intro p hp _
    rw [hps]
    simpa using hp
/-- an argument reads behind the call as it did -/
theorem trod_below {H : Type} {enc : TypeId × Value → H} {t : TypeId} (hr : Tryz.prog.readableRec t = true) (hrow : t < Tryz.prog.types.size) {W W' : World} {v : Value} {d : DataW H} {ps : List MemPlace}
    (h : DataW.Trod enc Tryz.prog W 0 (fun _ => true) true t v d ps) (hb : Below W.heap.size W W') (hlt : ∀ x ∈ ps, x.block < W.heap.size) {sp : Nat → Bool} (hsp : ∀ x ∈ ps, sp x.block = true) :
    DataW.Trod enc Tryz.prog W' 0 sp true t v d ps := WideElems.Trod_stays laid_all hr hrow h (fun x hx => hb.same (hlt x hx)) hsp

end Go.X

/- The promise, kept: Commit, Abort. Plain. -/
namespace Go.X
section
variable {l : List (Key × CV)} {el : List (I64 × EV)} {hl : List (Key × I64)} {ol : List (I64 × Int)} {ti : I64}
theorem entT_some {q : EV} (h : alook el ti = some q) : entT el ti = q := by unfold entT; rw [h]; rfl
theorem entT_none (h : alook el ti = none) : entT el ti = evz := by unfold entT; rw [h]; rfl
/-- a held key of another one stays held -/
theorem Inv.other (hI : Inv l el hl ol) {t : I64} {q : EV} (ht : t ≠ ti) (hq : alook el t = some q) {w : Write} (hw : w ∈ q.2) : w.key ∉ (entT el ti).2.map (·.key) := by
  intro hm
  obtain ⟨w', hw', hk⟩ := List.mem_map.1 hm
  cases he : alook el ti with
  | none => rw [entT_none he] at hw'; simp [evz] at hw'
  | some q0 =>
    rw [entT_some he] at hw'
    have h1 := (hI.ent ti q0 he).held w' hw'
    have h2 := (hI.ent t q hq).held w hw
    rw [show w'.key = w.key from hk, h2] at h1
    exact ht (Option.some.inj h1)
theorem Inv.drop (hI : Inv l el hl ol) {v : Int} (hv : v = 2 ∨ v = 3) : Inv l (adel el ti) (dropL hl (entT el ti).2) (aput ol ti v) := by
  refine ⟨hI.ln, (adel_sub ti el).map _ |>.nodup hI.en, dropL_sub.map _ |>.nodup hI.hn, hI.sorted, hI.over.put ti hv, ?_, ?_, ?_, ?_⟩
  · intro t q hq
    have ht : t ≠ ti := fun e => by subst e; rw [alook_del_same hI.en] at hq; cases hq
    rw [alook_del_ne ht] at hq
    rw [alook_put_ne _ ht]; exact hI.free t q hq
  · intro t q hq
    have ht : t ≠ ti := fun e => by subst e; rw [alook_del_same hI.en] at hq; cases hq
    rw [alook_del_ne ht] at hq
    obtain ⟨h1, h2, h3, h4⟩ := hI.ent t q hq
    refine ⟨h1, fun w hw => ?_, h3, h4⟩
    rw [dropL_look hI.hn, if_neg (hI.other ht hq hw)]
    exact h2 w hw
  · intro k t hk
    rw [dropL_look hI.hn] at hk
    split at hk
    · cases hk
    · rename_i hn
      obtain ⟨q, h1, h2⟩ := hI.hold k t hk
      have ht : t ≠ ti := fun e => by subst e; rw [entT_some h1] at hn; exact hn h2
      exact ⟨q, by rw [alook_del_ne ht]; exact h1, h2⟩
  · refine Nat.le_trans (once_le fun k hk => ?_) hI.room
    rw [List.mem_append] at hk ⊢
    exact hk.imp_right fun h => (dropL_sub.map _).subset h
theorem afterPut_sorted {vs : List Version} {x : Version} (h : Sorted vs) : Sorted (afterPut vs x) := by
  unfold afterPut
  split
  · rename_i h0
    refine putV_sorted h ?_
    unfold putE at h0
    split at h0
    · cases h0
    · split at h0
      · cases h0
      · simp_all
  · exact h
theorem AppS.nodup {s : Stamp} {ws : List Write} {l' : List (Key × CV)} (h : AppS s l ws l') (hn : (l.map Prod.fst).Nodup) : (l'.map Prod.fst).Nodup := by
  induction h with
  | nil => exact hn
  | snoc _ ih => exact aput_nodup _ _ ih
theorem AppS.sorted {s : Stamp} {ws : List Write} {l' : List (Key × CV)} (h : AppS s l ws l') (hn : ∀ k, Sorted (getS l k)) : ∀ k, Sorted (getS l' k) := by
  induction h with
  | nil => exact hn
  | snoc _ ih => intro k; rw [getS_put]; split
                 · exact afterPut_sorted (ih _)
                 · exact ih k
/-- a transaction is committed -/
theorem Inv.commit (hI : Inv l el hl ol) {s : Stamp} {l' : List (Key × CV)} (hA : AppS s l (entT el ti).2 l') : Inv l' (adel el ti) (dropL hl (entT el ti).2) (aput ol ti 2) := by
  have hD := hI.drop (ti := ti) (v := 2) (.inl rfl)
  refine ⟨hA.nodup hI.ln, hD.en, hD.hn, hA.sorted hI.sorted, hD.over, hD.free, ?_, hD.hold, ?_⟩
  · intro t q hq
    obtain ⟨h1, h2, h3, h4⟩ := hD.ent t q hq
    have ht : t ≠ ti := fun e => by subst e; rw [alook_del_same hI.en] at hq; cases hq
    rw [alook_del_ne ht] at hq
    refine ⟨h1, h2, fun w hw => ?_, fun w hw => ?_⟩
    · rw [hA.getS_other (hI.other ht hq hw)]; exact h3 w hw
    · rw [hA.getS_other (hI.other ht hq hw)]; exact h4 w hw
  · refine Nat.le_trans (once_le fun k hk => ?_) hI.room
    rw [List.mem_append] at hk ⊢
    rcases hk with hk | hk
    · rcases (hA.keys k).1 hk with hk | hk
      · obtain ⟨w, hw, rfl⟩ := List.mem_map.1 hk
        cases he : alook el ti with
        | none => rw [entT_none he] at hw; simp [evz] at hw
        | some q0 =>
          rw [entT_some he] at hw
          exact .inr (mem_of_alook ((hI.ent ti q0 he).held w hw))
      · exact .inl hk
    · exact .inr ((dropL_sub.map _).subset hk)
theorem canCommit_zero {s : Stamp} (h : canCommitP l ol el ti s = 0) (hs : stateP ol el ti = 1) : s.good ∧ ¬ s.cmp (entT el ti).1.stamp < 0 ∧ (entT el ti).2.any (usedS l s) = false := by
  unfold canCommitP at h
  split at h
  · rename_i hg
    rw [if_neg (by omega), if_neg (by omega), if_neg (by omega)] at h
    split at h
    · cases h
    · rename_i hl
      split at h
      · cases h
      · rename_i hu
        exact ⟨hg, hl, by simpa using hu⟩
  · cases h
/-- what is prepared can be applied -/
theorem apply_ok (hI : Inv l el hl ol) {q : EV} (hq : alook el ti = some q) {s : Stamp} (hg : s.good) (hu : q.2.any (usedS l s) = false) : applyE l s q.2 = 0 := by
  have hE := hI.ent ti q hq
  obtain ⟨_, _, hm, hw, _, _⟩ := goodE_parts hE.good
  have hnd := goodWs_nodup hw
  have hroom : roomS l q.2 = true := by
    unfold roomS
    rw [if_neg, decide_eq_true_eq]
    · have h1 : (l.map Prod.fst ++ (q.2.filter fun w => ((alook l w.key).map fun q => (⟨q.1, 0, none⟩ : Addr)).isNone).map (·.key)).length ≤ (once (l.map Prod.fst ++ hl.map Prod.fst)).length := by
        refine nodup_le ?_ fun k hk => ?_
        · rw [List.nodup_append]
          refine ⟨hI.ln, (List.filter_sublist.map _).nodup hnd, fun a ha b hb e => ?_⟩
          subst e
          obtain ⟨w, hw, hk⟩ := List.mem_map.1 hb
          obtain ⟨_, h2⟩ := List.mem_filter.1 hw
          obtain ⟨v, hv⟩ := alook_some_of_mem ha
          rw [show w.key = a from hk, hv] at h2
          cases h2
        · rw [once_mem, List.mem_append]
          rw [List.mem_append] at hk
          refine hk.imp_right fun hk => ?_
          obtain ⟨w, hw, rfl⟩ := List.mem_map.1 hk
          exact mem_of_alook (hE.held w (List.mem_filter.1 hw).1)
      have h2 := Nat.le_trans h1 hI.room
      rw [List.length_append, List.length_map, List.length_map] at h2
      unfold newN; rw [List.take_length]; exact h2
    · rw [Bool.not_eq_true, List.any_eq_false]
      intro w hw'
      have := hE.room w hw'
      unfold fullS
      simp only [decide_eq_true_eq]
      omega
  unfold applyE
  rw [if_neg, if_neg, if_neg (by rw [hroom]; decide)]
  · rw [Bool.not_eq_true]; exact hu
  · rintro (h | h | h)
    · exact h hg
    · rw [hm] at h; cases h
    · rw [hw] at h; cases h
end
/-! ## reads -/
theorem lt_of_cmp {a b : Stamp} (h : 0 < a.cmp b) : b.lt a := (cmp_pos a b).1 h
theorem below_all {vs : List Version} {s : Stamp} (h : ∀ v ∈ vs, v.stamp.lt s) : below vs s = vs.length := by
  refine below_eq (Nat.le_refl _) (fun k hk => (cmp_neg _ _).2 (h _ (List.getElem_mem _))) (fun h2 => absurd h2 (Nat.lt_irrefl _))
theorem hasS_no {vs : List Version} {s : Stamp} (h : ∀ v ∈ vs, v.stamp ≠ s) : hasS vs s = false := by
  unfold hasS; rw [List.any_eq_false]; intro v hv; simpa using h v hv
theorem hasS_yes {vs : List Version} {s : Stamp} {v : Version} (hv : v ∈ vs) (h : v.stamp = s) : hasS vs s = true := by
  unfold hasS; rw [List.any_eq_true]; exact ⟨v, hv, decide_eq_true h⟩
theorem below_app {A B : List Version} {s : Stamp} (hB : ∀ v ∈ B, ¬ v.stamp.lt s) : below (A ++ B) s = below A s := by
  unfold below
  rw [List.takeWhile_append]
  split
  · rename_i h
    have : B.takeWhile (fun v => decide (v.stamp.cmp s < 0)) = [] := by
      cases B with
      | nil => rfl
      | cons b B => rw [List.takeWhile_cons, if_neg]; simpa [cmp_neg] using hB b (by simp)
    rw [this, List.append_nil]
    rw [List.Sublist.eq_of_length (List.takeWhile_sublist _) h]
  · rfl
/-- a version above a time is not seen at it -/
theorem at_app {A B : List Version} {s : Stamp} (hA : Sorted A) (hB : ∀ v ∈ B, s.lt v.stamp) : atV (A ++ B) s = atV A s := by
  have h1 : below (A ++ B) s = below A s := below_app fun v hv h => Stamp.lt_irrefl _ (Stamp.lt_trans h (hB v hv))
  have h2 : hasS (A ++ B) s = hasS A s := by
    unfold hasS; rw [List.any_append]
    have : B.any (fun v => decide (v.stamp = s)) = false := by
      rw [List.any_eq_false]; intro v hv h
      have := hB v hv
      rw [of_decide_eq_true h] at this
      exact Stamp.lt_irrefl _ this
    rw [this, Bool.or_false]
  have h3 : upto (A ++ B) s = upto A s := by unfold upto; rw [h1, h2]
  unfold atV
  rw [h3]
  split
  · rfl
  · rename_i h
    have := upto_le (s := s) hA
    rw [List.getElem?_append_left (by omega)]
theorem Sorted.sub {A B : List Version} (h : Sorted B) (hs : A.Sublist B) : Sorted A := List.Pairwise.sublist hs h
theorem at_put {vs : List Version} {x : Version} {s : Stamp} (hs : Sorted vs) (hn : hasS vs x.stamp = false) (hx : s.lt x.stamp) : atV (putV vs x) s = atV vs s := by
  have hP := putV_sorted hs hn
  have hsp : vs = vs.take (below vs x.stamp) ++ vs.drop (below vs x.stamp) := (List.take_append_drop _ _).symm
  have hA : Sorted (vs.take (below vs x.stamp)) := hs.sub (List.take_sublist _ _)
  have hhi : ∀ v ∈ vs.drop (below vs x.stamp), x.stamp.lt v.stamp := by
    intro v hv
    unfold Sorted putV at hP
    rw [List.pairwise_append, List.pairwise_cons] at hP
    exact hP.2.1.1 v hv
  have e1 : atV (putV vs x) s = atV (vs.take (below vs x.stamp)) s := by
    unfold putV
    refine at_app hA fun v hv => ?_
    rcases List.mem_cons.1 hv with rfl | hv
    · exact hx
    · exact Stamp.lt_trans hx (hhi v hv)
  have e2 : atV vs s = atV (vs.take (below vs x.stamp)) s := by
    conv => lhs; rw [hsp]
    exact at_app hA fun v hv => Stamp.lt_trans hx (hhi v hv)
  rw [e1, e2]
theorem at_after {vs : List Version} {x : Version} {s : Stamp} (hs : Sorted vs) (hx : s.lt x.stamp) : atV (afterPut vs x) s = atV vs s := by
  unfold afterPut
  split
  · rename_i h0
    refine at_put hs ?_ hx
    unfold putE at h0
    split at h0
    · cases h0
    · split at h0
      · cases h0
      · simp_all
  · rfl
/-- the newest version is what is read at its time -/
theorem at_last {vs : List Version} {x : Version} (h : ∀ v ∈ vs, v.stamp.lt x.stamp) : atV (putV vs x) x.stamp = some x := by
  have hb : below vs x.stamp = vs.length := below_all h
  have hp : putV vs x = vs ++ [x] := by unfold putV; rw [hb]; simp
  have hb2 : below (vs ++ [x]) x.stamp = vs.length := by
    rw [below_app]
    · exact hb
    · intro v hv hl
      obtain rfl : v = x := by simpa using hv
      exact Stamp.lt_irrefl _ hl
  have hh : hasS (vs ++ [x]) x.stamp = true := hasS_yes (v := x) (by simp) rfl
  rw [hp]
  unfold atV upto
  rw [if_pos hh, hb2]
  simp
end Go.X

/- PartStill's law: what was read is read again. -/
namespace Go.X
section
variable {l : List (Key × CV)} {el : List (I64 × EV)} {hl : List (Key × I64)} {ol : List (I64 × Int)} {ti : I64} {k : Key} {s : Stamp} {now : Int}
/-- whoever is about to write the key does so above the time -/
def Stl (el : List (I64 × EV)) (k : Key) (s : Stamp) : Prop := ∀ t q, alook el t = some q → k ∈ q.2.map (·.key) → s.lt q.1.stamp
theorem read_parts (h : (readP l el hl k s now).2.2 = 0) : goodK k = true ∧ s.good ∧ (blocksT el hl k s).2 = false ∧ ¬ now < s.t := by
  unfold readP at h
  split at h
  · rename_i hg
    split at h
    · cases h
    · rename_i hb
      rw [not_or] at hb
      exact ⟨hg.1, hg.2, by simpa using hb.1, hb.2⟩
  · cases h
theorem read_is (hk : goodK k = true) (hs : s.good) (hb : (blocksT el hl k s).2 = false) (hn : ¬ now < s.t) : readP l el hl k s now = ((getV l k s).1, (getV l k s).2, 0) := by
  unfold readP
  rw [if_pos ⟨hk, hs⟩, if_neg]
  rintro (h | h)
  · rw [hb] at h; cases h
  · exact hn h
theorem read_bad (h : ¬ (readP l el hl k s now).2.2 = 0) : (readP l el hl k s now).1 = ⟨#[]⟩ ∧ (readP l el hl k s now).2.1 = false := by
  unfold readP at h ⊢
  split
  · rename_i hg
    rw [if_pos hg] at h
    split
    · exact ⟨rfl, rfl⟩
    · rename_i hb
      rw [if_neg hb] at h
      exact absurd rfl h
  · exact ⟨rfl, rfl⟩
theorem Stl.of (hI : Inv l el hl ol) (hb : (blocksT el hl k s).2 = false) : Stl el k s := by
  intro t q hq hk
  obtain ⟨w, hw, rfl⟩ := List.mem_map.1 hk
  have hh := (hI.ent t q hq).held w hw
  unfold blocksT at hb
  rw [hh] at hb
  simp only [Option.isSome_some, if_true, Option.getD_some, hq] at hb
  split at hb
  · rename_i h; exact lt_of_cmp h
  · cases hb
theorem Stl.blocks (hI : Inv l el hl ol) (h : Stl el k s) : (blocksT el hl k s).2 = false := by
  unfold blocksT
  cases hh : alook hl k with
  | none => simp
  | some t =>
    obtain ⟨q, hq, hk⟩ := hI.hold k t hh
    have := (cmp_pos _ _).2 (h t q hq hk)
    simp only [Option.isSome_some, if_true, Option.getD_some, hq]
    rw [if_pos this]
theorem Stl.prep {e : Entry} {ws : List Write} {sv : Sv} (h : Stl el k s) (he : s.lt e.stamp) : Stl (aput el ti ({ e with ws := sv }, ws)) k s := by
  intro t q hq hk
  by_cases ht : t = ti
  · subst ht
    rw [alook_put_same] at hq
    obtain rfl := Option.some.inj hq
    exact he
  · rw [alook_put_ne _ ht] at hq; exact h t q hq hk
theorem Stl.drop (hn : (el.map Prod.fst).Nodup) (h : Stl el k s) : Stl (adel el ti) k s := by
  intro t q hq hk
  by_cases ht : t = ti
  · subst ht; rw [alook_del_same hn] at hq; cases hq
  · rw [alook_del_ne ht] at hq; exact h t q hq hk
theorem go_one {s' : Stamp} (hov : Over23 ol) (h : goC l ol el ti s') : stateP ol el ti = 1 := by
  obtain ⟨h1, h2⟩ := h
  have hr := state_range (el := el) hov ti
  unfold canCommitP at h1
  split at h1
  · split at h1
    · cases h1
    · split at h1
      · cases h1
      · omega
  · cases h1
theorem stamp_ge {a b : Stamp} {c : Stamp} (h : ¬ a.cmp b < 0) (hc : c.lt b) : c.lt a := by
  rw [cmp_neg] at h
  rcases Stamp.lt_total a b with h1 | h1 | h1
  · exact absurd h1 h
  · rw [h1]; exact hc
  · exact Stamp.lt_trans hc h1
theorem getV_commit {s' : Stamp} {l' : List (Key × CV)} (hI : Inv l el hl ol) (h : Stl el k s) (hg : goC l ol el ti s') (hA : AppS s' l (entT el ti).2 l') : getV l' k s = getV l k s := by
  have h1 := go_one hI.over hg
  obtain ⟨_, hge, _⟩ := canCommit_zero hg.1 h1
  obtain ⟨_, hsome⟩ := (state_one hI.over).1 h1
  obtain ⟨q, hq⟩ := Option.isSome_iff_exists.1 hsome
  rw [entT_some hq] at hge hA
  have hat : atV (getS l' k) s = atV (getS l k) s := by
    by_cases hk : k ∈ q.2.map (·.key)
    · obtain ⟨w, hw, rfl⟩ := List.mem_map.1 hk
      have hnd := goodWs_nodup (goodE_parts (hI.ent ti q hq).good).2.2.2.1
      rw [hA.getS_of hnd hw]
      exact at_after (hI.sorted _) (stamp_ge hge (h ti q hq hk))
    · rw [hA.getS_other hk]
  unfold getV
  rw [hat]
variable {pb : Nat} {Lp : List Pt} {en : Entry} {ws : List Write}
/-- what a step leaves -/
def Keeps (l : List (Key × CV)) (el : List (I64 × EV)) (l2 : List (Key × CV)) (el2 : List (I64 × EV)) (b : Stamp → Prop) : Prop := ∀ k s, b s → Stl el k s → Stl el2 k s ∧ getV l2 k s = getV l k s
theorem still_prep (hI : Inv l el hl ol) (ha : prepP l el hl ol ti en ws = 0 → ∃ sv, PtOwn pb l (aput el ti ({ en with ws := sv }, ws)) (holdL hl ws ti) ol Lp) (hb : ¬ prepP l el hl ol ti en ws = 0 → PtOwn pb l el hl ol Lp) :
    ∃ l2 el2 hl2 ol2, PtOwn pb l2 el2 hl2 ol2 Lp ∧ Inv l2 el2 hl2 ol2 ∧ Keeps l el l2 el2 (fun s => s.lt en.stamp) := by
  by_cases h0 : prepP l el hl ol ti en ws = 0
  · obtain ⟨sv, hp⟩ := ha h0
    exact ⟨_, _, _, _, hp, hI.prep h0, fun k s hs h => ⟨h.prep hs, rfl⟩⟩
  · exact ⟨_, _, _, _, hb h0, hI, fun k s _ h => ⟨h, rfl⟩⟩
theorem still_commit {l' : List (Key × CV)} (hI : Inv l el hl ol) {s' : Stamp} (hb : ¬ goC l ol el ti s' → PtOwn pb l el hl ol Lp) (ha : goC l ol el ti s' → PtOwn pb l' (adel el ti) (dropL hl (entT el ti).2) (aput ol ti 2) Lp ∧ (applyE l s' (entT el ti).2 = 0 → AppS s' l (entT el ti).2 l') ∧ (¬ applyE l s' (entT el ti).2 = 0 → l' = l)) :
    ∃ l2 el2 hl2 ol2, PtOwn pb l2 el2 hl2 ol2 Lp ∧ Inv l2 el2 hl2 ol2 ∧ Keeps l el l2 el2 (fun _ => True) := by
  by_cases h0 : goC l ol el ti s'
  · obtain ⟨hp, h1, h2⟩ := ha h0
    by_cases h3 : applyE l s' (entT el ti).2 = 0
    · exact ⟨_, _, _, _, hp, hI.commit (h1 h3), fun k s _ h => ⟨h.drop hI.en, getV_commit hI h h0 (h1 h3)⟩⟩
    · obtain rfl := h2 h3
      exact ⟨_, _, _, _, hp, hI.drop (.inl rfl), fun k s _ h => ⟨h.drop hI.en, rfl⟩⟩
  · exact ⟨_, _, _, _, hb h0, hI, fun k s _ h => ⟨h, rfl⟩⟩
theorem still_abort (hI : Inv l el hl ol) (ha : canAbortP ol el ti = 0 → PtOwn pb l (adel el ti) (dropL hl (entT el ti).2) (aput ol ti 3) Lp) (hb : ¬ canAbortP ol el ti = 0 → PtOwn pb l el hl ol Lp) :
    ∃ l2 el2 hl2 ol2, PtOwn pb l2 el2 hl2 ol2 Lp ∧ Inv l2 el2 hl2 ol2 ∧ Keeps l el l2 el2 (fun _ => True) := by
  by_cases h0 : canAbortP ol el ti = 0
  · exact ⟨_, _, _, _, ha h0, hI.drop (.inr rfl), fun k s _ h => ⟨h.drop hI.en, rfl⟩⟩
  · exact ⟨_, _, _, _, hb h0, hI, fun k s _ h => ⟨h, rfl⟩⟩
/-- the same read -/
theorem still_read {l0 : List (Key × CV)} {el0 : List (I64 × EV)} {hl0 : List (Key × I64)} (h0 : (readP l0 el0 hl0 k s now).2.2 = 0) (hI : Inv l el hl ol) (h : Stl el k s) (hg : getV l k s = getV l0 k s) : readP l el hl k s now = readP l0 el0 hl0 k s now := by
  obtain ⟨h1, h2, h3, h4⟩ := read_parts h0
  rw [read_is h1 h2 h3 h4, read_is h1 h2 (h.blocks hI) h4, hg]
end
end Go.X
