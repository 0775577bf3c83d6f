/- Part 7 of the proofs over this program: what its functions compute. -/
import Derived.Test.YthifdialndcemaaGreatProg
import Derived.Shelf.SortM.Plain
import Derived.Shelf.SortM.SortNone
import Derived.Test.YthifdialndcemaaGreatS6
set_option linter.unusedVariables false
set_option linter.unusedSimpArgs false

namespace Go.X
open Go.Proofs

/-! ## chain.Trim -/
def trimN (vs : List Version) (s : Stamp) : Nat := if 0 < upto vs s ∧ ((vs[upto vs s - 1]?).getD .zero).gone = false then upto vs s - 1 else upto vs s
theorem trimN_le {vs : List Version} {s : Stamp} (h : Sorted vs) : trimN vs s ≤ vs.length := by
  have := upto_le (s := s) h
  unfold trimN; split <;> omega
theorem rows_cut {α : Type} {enc : α → Array Value} {xs : List α} {sp : Array Value} (i : Nat) : rows enc xs ++ sp = rows enc (xs.take i) ++ (rows enc (xs.drop i) ++ sp) := by
  rw [← Array.append_assoc, ← rows_append, List.take_append_drop]
theorem SlAt.dropL {c : Cx} {L : List Pt} {α : Type} {enc : α → Array Value} {xs : List α} {sp : Array Value} {b cap el sz : Nat} {fz : Nat × Nat} {i : Int} (hs : ∀ x, (enc x).size = sz) (hb : Rd c L b (.cells (rows enc xs ++ sp) el fz)) (_h0 : 0 ≤ i) (h1 : i ≤ xs.length) (hcap : xs.length ≤ cap) (hlt : xs.length < 4611686018427387904) :
    SlAt c L enc (some (if cap = i.toNat then ⟨b, 0, none⟩ else ⟨b, 0 + i.toNat * sz, none⟩)) (xs.length - i.toNat) (xs.drop i.toNat) := by
  refine ⟨by rw [List.length_drop], by omega, fun hne => ?_⟩
  have hl : i.toNat < xs.length := by
    rcases Nat.lt_or_ge i.toNat xs.length with h | h
    · exact h
    · exact absurd (List.drop_eq_nil_of_le h) hne
  rw [if_neg (by omega)]
  have hz : (rows enc (xs.take i.toNat)).size = i.toNat * sz := by rw [rows_size hs, List.length_take, Nat.min_eq_left (by omega)]
  refine ⟨rows enc (xs.take i.toNat), sp, el, fz, by rw [hz, Nat.zero_add]; rfl, ?_⟩
  rw [← rows_cut]; exact hb

set_option maxRecDepth 100000 in
set_option maxHeartbeats 2000000 in
theorem C_Trim_nil {c : Cx} {L : List Pt} {cb : Nat} {s : Stamp} : Fn Tryz.prog 204 #[.pointer (some ⟨cb, 0, none⟩), .agg (Stamp_enc s)] c ((cb, .cells #[.slice none 0 0] 300 (0, 0)) :: L) (fun v L' => v = .int .i64 (trimN [] s : Nat) ∧ ∃ G', One cb (List.drop (trimN [] s) []) G' ∧ L' = G' ++ L) := by
  refine Fn.enter Tryz.func204 rfl 36 rfl rfl (fun R hR => ?_)
  refine Cd.seq (fun K1 hK1 => ?_)
  refine Cd.region [0, 1] rfl ?_
  refine Seq.op at0 rfl (Op.new rfl (O.box (v := .agg _) rfl (cs := (Stamp_enc s)) rfl) ?_)
  intro b2 hb2
  refine Seq.rd0 at1 rfl rfl (O.assign (v := .int .i64 _) rfl) ?_
  refine Seq.nil ?_
  refine hK1 ?_
  refine Cd.seq (fun K3 hK3 => ?_)
  refine Cd.region [0, 1, 2, 3] rfl ?_
  refine Seq.rd0 at0 rfl rfl (O.move (v := .pointer _) rfl) ?_
  refine Seq.rd1 at1 rfl rfl (O.loadA kd_24 rfl (Nat.le_of_ble_eq_true rfl) (Stamp_all _)) Rd.head ?_
  refine Seq.op at2 rfl (Op.callF rfl hb_226 (C_until .nil (by decide) (.inl ⟨rfl, Rd.head.cons⟩)) rfl ?_)
  rintro _ _ ⟨rfl, rfl⟩
  refine Seq.rd0 at3 rfl rfl (O.assign (v := .int .i64 _) rfl) ?_
  refine Seq.nil ?_
  refine hK3 ?_
  refine Cd.seq (fun K4 hK4 => ?_)
  refine Cd.seq (fun K5 hK5 => ?_)
  refine Cd.region [0, 1, 2, 3, 4, 5, 6, 7, 8, 9, 10, 11, 12, 13] rfl ?_
  refine Seq.rd0 at0 rfl rfl (O.move (v := .int .i64 _) rfl) ?_
  refine Seq.rd0 at1 rfl rfl (O.gtr rfl rfl) ?_
  refine Seq.rd0 at2 rfl rfl (O.move (v := .bool _) rfl) ?_
  have t6 : ¬ ((0 : Int) < ((upto [] s : Nat) : Int)) := by have : upto [] s = 0 := rfl; omega
  rw [decide_eq_false t6]
  refine Seq.pass at3 rfl rfl ?_
  refine Seq.pass at4 rfl rfl ?_
  refine Seq.pass at5 rfl rfl ?_
  refine Seq.pass at6 rfl rfl ?_
  refine Seq.pass at7 rfl rfl ?_
  refine Seq.pass at8 rfl rfl ?_
  refine Seq.pass at9 rfl rfl ?_
  refine Seq.pass at10 rfl rfl ?_
  refine Seq.pass at11 rfl rfl ?_
  refine Seq.pass at12 rfl rfl ?_
  refine Seq.rd0 at13 rfl rfl (O.pickF (v := .bool _) rfl rfl) ?_
  refine Seq.nil ?_
  refine hK5 ?_
  refine Cd.condF rfl ?_
  refine Cd.skip ?_
  refine hK4 ?_
  refine Cd.seq (fun K7 hK7 => ?_)
  refine Cd.region [0, 1, 2, 3, 4, 5, 6, 7, 8, 9, 10] rfl ?_
  refine Seq.rd0 at0 rfl rfl (O.move (v := .pointer _) rfl) ?_
  refine Seq.rd0 at1 rfl rfl (O.move (v := .pointer _) rfl) ?_
  refine Seq.rd0 at2 rfl rfl (O.nilP rfl) ?_
  refine Seq.rd0 at3 rfl rfl (O.field fo_300_0 rfl) ?_
  refine Seq.rd1 at4 rfl rfl (O.load kd_239 rfl r1_0) Rd.head.cons ?_
  refine Seq.rd0 at5 rfl rfl (O.move (v := .int .i64 _) rfl) ?_
  refine Seq.rd0 at6 rfl rfl (O.sliceNil sl_239 rfl rfl) ?_
  refine Seq.op at7 rfl (Op.callF rfl hb_240 (C_Clone_Version (xs := []) ⟨rfl, by decide, fun h => absurd rfl h⟩ (by simp)) rfl ?_)
  rintro _ _ ⟨avc, capc, Lc, rfl, hoc, rfl⟩
  refine Ent.perm ?_ (bring (Ls := Lc) (pre := [(b2, _), (cb, _)]) (R := L)).symm
  refine Seq.rd0 at8 rfl rfl (O.nilP rfl) ?_
  refine Seq.rd0 at9 rfl rfl (O.field fo_300_0 rfl) ?_
  refine Seq.op at10 rfl (Op.set1 rfl (O.store1 kd_239 rfl (v := .slice _ _ _) rfl (Nat.le_of_ble_eq_true rfl) rfl (cs' := #[.slice avc 0 capc]) rfl) ?_)
  refine Seq.nil ?_
  refine hK7 ?_
  refine Cd.seq (fun K8 hK8 => ?_)
  refine Cd.region [0, 1] rfl ?_
  refine Seq.rd0 at0 rfl rfl (O.move (v := .int .i64 _) rfl) ?_
  refine Seq.rd0 at1 rfl rfl (O.assign (v := .int .i64 _) rfl) ?_
  refine Seq.nil ?_
  refine hK8 ?_
  refine Cd.ret ?_
  exact hR _ ((cb, .cells #[.slice avc 0 capc] 300 (0, 0)) :: (Lc ++ L)) (Res.one (v := .int .i64 _) rfl rfl) ⟨rfl, (cb, .cells #[.slice avc 0 capc] 300 (0, 0)) :: Lc, ⟨avc, capc, Lc, rfl, hoc, .nil, by simp⟩, rfl⟩ (.cons _ (.refl _))

set_option maxRecDepth 100000 in
set_option maxHeartbeats 2000000 in
theorem C_Trim_own {c : Cx} {L : List Pt} {cb b cap : Nat} {vs : List Version} {s : Stamp} {sp : Array Value} (hs : Sorted vs) (h50 : vs.length ≤ 50) (hcap : vs.length ≤ cap) : Fn Tryz.prog 204 #[.pointer (some ⟨cb, 0, none⟩), .agg (Stamp_enc s)] c ((cb, .cells #[.slice (some ⟨b, 0, none⟩) vs.length cap] 300 (0, 0)) :: (b, .cells (rows Version_enc vs ++ sp) 242 (0, 0)) :: L) (fun v L' => v = .int .i64 (trimN vs s : Nat) ∧ ∃ G', One cb (List.drop (trimN vs s) vs) G' ∧ L' = G' ++ L) := by
  refine Fn.enter Tryz.func204 rfl 36 rfl rfl (fun R hR => ?_)
  refine Cd.seq (fun K1 hK1 => ?_)
  refine Cd.region [0, 1] rfl ?_
  refine Seq.op at0 rfl (Op.new rfl (O.box (v := .agg _) rfl (cs := (Stamp_enc s)) rfl) ?_)
  intro b2 hb2
  refine Seq.rd0 at1 rfl rfl (O.assign (v := .int .i64 _) rfl) ?_
  refine Seq.nil ?_
  refine hK1 ?_
  refine Cd.seq (fun K3 hK3 => ?_)
  refine Cd.region [0, 1, 2, 3] rfl ?_
  refine Seq.rd0 at0 rfl rfl (O.move (v := .pointer _) rfl) ?_
  refine Seq.rd1 at1 rfl rfl (O.loadA kd_24 rfl (Nat.le_of_ble_eq_true rfl) (Stamp_all _)) Rd.head ?_
  refine Seq.op at2 rfl (Op.callF rfl hb_226 (C_until hs (by omega) (.inr ⟨_, _, _, Rd.head.cons, Rd.head.cons.cons⟩)) rfl ?_)
  rintro _ _ ⟨rfl, rfl⟩
  have hul := upto_le (s := s) hs
  refine Seq.rd0 at3 rfl rfl (O.assign (v := .int .i64 _) rfl) ?_
  refine Seq.nil ?_
  refine hK3 ?_
  refine Cd.seq (fun K4 hK4 => ?_)
  refine Cd.seq (fun K5 hK5 => ?_)
  refine Cd.region [0, 1, 2, 3, 4, 5, 6, 7, 8, 9, 10, 11, 12, 13] rfl ?_
  refine Seq.rd0 at0 rfl rfl (O.move (v := .int .i64 _) rfl) ?_
  refine Seq.rd0 at1 rfl rfl (O.gtr rfl rfl) ?_
  refine Seq.rd0 at2 rfl rfl (O.move (v := .bool _) rfl) ?_
  by_cases t6 : (0 : Int) < ((upto vs s : Nat) : Int)
  · rw [decide_eq_true t6]
    refine Seq.rd0 at3 rfl rfl (O.move (v := .pointer _) rfl) ?_
    refine Seq.rd0 at4 rfl rfl (O.nilP rfl) ?_
    refine Seq.rd0 at5 rfl rfl (O.field fo_300_0 rfl) ?_
    refine Seq.rd1 at6 rfl rfl (O.load kd_239 rfl r1_0) Rd.head.cons ?_
    refine Seq.rd0 at7 rfl rfl (O.move (v := .int .i64 _) rfl) ?_
    refine Seq.rd0 at8 rfl rfl (O.sub rfl rfl (by omega) (by omega)) ?_
    refine Seq.rd0 at9 rfl rfl (O.index sl_239 rfl rfl (by omega) (by omega)) ?_
    refine Seq.rd0 at10 rfl rfl (O.field fo_242_2 rfl) ?_
    refine Seq.rd1 at11 rfl rfl (O.load kd_4 rfl ((rowGet Version_size (uptoN hs (by omega)) (by decide)).trans (Version_gone _))) Rd.head.cons.cons ?_
    refine Seq.rd0 at12 rfl rfl (O.not rfl) ?_
    refine Seq.rd0 at13 rfl rfl (O.pickT (v := .bool _) rfl rfl) ?_
    refine Seq.nil ?_
    refine hK5 ?_
    refine Cd.cond (!((vs[upto vs s - 1]).gone)) rfl (fun t7 => ?_) (fun t7 => ?_)
    · skip
      refine Cd.region [0, 1, 2] rfl ?_
      refine Seq.rd0 at0 rfl rfl (O.move (v := .int .i64 _) rfl) ?_
      refine Seq.rd0 at1 rfl rfl (O.sub rfl rfl (by omega) (by omega)) ?_
      refine Seq.rd0 at2 rfl rfl (O.assign (v := .int .i64 _) rfl) ?_
      refine Seq.nil ?_
      refine hK4 ?_
      refine Cd.seq (fun K8 hK8 => ?_)
      refine Cd.region [0, 1, 2, 3, 4, 5, 6, 7, 8, 9, 10] rfl ?_
      refine Seq.rd0 at0 rfl rfl (O.move (v := .pointer _) rfl) ?_
      refine Seq.rd0 at1 rfl rfl (O.move (v := .pointer _) rfl) ?_
      refine Seq.rd0 at2 rfl rfl (O.nilP rfl) ?_
      refine Seq.rd0 at3 rfl rfl (O.field fo_300_0 rfl) ?_
      refine Seq.rd1 at4 rfl rfl (O.load kd_239 rfl r1_0) Rd.head.cons ?_
      refine Seq.rd0 at5 rfl rfl (O.move (v := .int .i64 _) rfl) ?_
      refine Seq.rd0 at6 rfl rfl (O.sliceL sl_239 rfl rfl (by omega) (by omega)) ?_
      refine Seq.op at7 rfl (Op.callF rfl hb_240 (C_Clone_Version (SlAt.dropL Version_size (Rd.head.cons.cons) (by omega) (by omega) hcap (by omega)) (by omega)) rfl ?_)
      rintro _ _ ⟨avc, capc, Lc, rfl, hoc, rfl⟩
      refine Ent.perm ?_ (bring (Ls := Lc) (pre := [(b2, _), (cb, _), (b, _)]) (R := L)).symm
      refine Seq.rd0 at8 rfl rfl (O.nilP rfl) ?_
      refine Seq.rd0 at9 rfl rfl (O.field fo_300_0 rfl) ?_
      refine Seq.op at10 rfl (Op.set1 rfl (O.store1 kd_239 rfl (v := .slice _ _ _) rfl (Nat.le_of_ble_eq_true rfl) rfl (cs' := #[.slice avc (vs.length - ((((upto vs s : Nat) : Int) - 1)).toNat) capc]) rfl) ?_)
      refine Seq.nil ?_
      refine hK8 ?_
      refine Cd.seq (fun K9 hK9 => ?_)
      refine Cd.region [0, 1] rfl ?_
      refine Seq.rd0 at0 rfl rfl (O.move (v := .int .i64 _) rfl) ?_
      refine Seq.rd0 at1 rfl rfl (O.assign (v := .int .i64 _) rfl) ?_
      refine Seq.nil ?_
      refine hK9 ?_
      refine Cd.ret ?_
      have htn : trimN vs s = ((((upto vs s : Nat) : Int) - 1)).toNat := by
        unfold trimN; rw [if_pos ⟨by omega, by rw [show vs[upto vs s - 1]? = some (vs[upto vs s - 1]'(by omega)) from List.getElem?_eq_getElem (by omega)]; simp_all⟩]; omega
      have hdl : (vs.drop ((((upto vs s : Nat) : Int) - 1)).toNat).length = vs.length - ((((upto vs s : Nat) : Int) - 1)).toNat := List.length_drop
      have hone : One cb (vs.drop (trimN vs s)) ((cb, .cells #[.slice avc (vs.length - ((((upto vs s : Nat) : Int) - 1)).toNat) capc] 300 (0, 0)) :: Lc) := by
        rw [htn]; exact ⟨avc, capc, Lc, by rw [hdl], by rw [hdl]; exact hoc, hs.sublist (List.drop_sublist _ _), by rw [hdl]; omega⟩
      exact hR _ ((cb, .cells #[.slice avc (vs.length - ((((upto vs s : Nat) : Int) - 1)).toNat) capc] 300 (0, 0)) :: (Lc ++ L)) (Res.one (v := .int .i64 _) rfl rfl) ⟨by rw [htn]; congr 1; omega, _, hone, rfl⟩ (.cons _ (.cons_cons _ (.cons _ (.refl _))))
    · skip
      refine Cd.skip ?_
      refine hK4 ?_
      refine Cd.seq (fun K10 hK10 => ?_)
      refine Cd.region [0, 1, 2, 3, 4, 5, 6, 7, 8, 9, 10] rfl ?_
      refine Seq.rd0 at0 rfl rfl (O.move (v := .pointer _) rfl) ?_
      refine Seq.rd0 at1 rfl rfl (O.move (v := .pointer _) rfl) ?_
      refine Seq.rd0 at2 rfl rfl (O.nilP rfl) ?_
      refine Seq.rd0 at3 rfl rfl (O.field fo_300_0 rfl) ?_
      refine Seq.rd1 at4 rfl rfl (O.load kd_239 rfl r1_0) Rd.head.cons ?_
      refine Seq.rd0 at5 rfl rfl (O.move (v := .int .i64 _) rfl) ?_
      refine Seq.rd0 at6 rfl rfl (O.sliceL sl_239 rfl rfl (by omega) (by omega)) ?_
      refine Seq.op at7 rfl (Op.callF rfl hb_240 (C_Clone_Version (SlAt.dropL Version_size (Rd.head.cons.cons) (by omega) (by omega) hcap (by omega)) (by omega)) rfl ?_)
      rintro _ _ ⟨avc, capc, Lc, rfl, hoc, rfl⟩
      refine Ent.perm ?_ (bring (Ls := Lc) (pre := [(b2, _), (cb, _), (b, _)]) (R := L)).symm
      refine Seq.rd0 at8 rfl rfl (O.nilP rfl) ?_
      refine Seq.rd0 at9 rfl rfl (O.field fo_300_0 rfl) ?_
      refine Seq.op at10 rfl (Op.set1 rfl (O.store1 kd_239 rfl (v := .slice _ _ _) rfl (Nat.le_of_ble_eq_true rfl) rfl (cs' := #[.slice avc (vs.length - (((upto vs s : Nat) : Int)).toNat) capc]) rfl) ?_)
      refine Seq.nil ?_
      refine hK10 ?_
      refine Cd.seq (fun K11 hK11 => ?_)
      refine Cd.region [0, 1] rfl ?_
      refine Seq.rd0 at0 rfl rfl (O.move (v := .int .i64 _) rfl) ?_
      refine Seq.rd0 at1 rfl rfl (O.assign (v := .int .i64 _) rfl) ?_
      refine Seq.nil ?_
      refine hK11 ?_
      refine Cd.ret ?_
      have htn : trimN vs s = (((upto vs s : Nat) : Int)).toNat := by
        unfold trimN; rw [if_neg (by rintro ⟨h8, h9⟩; first | omega | (rw [show vs[upto vs s - 1]? = some (vs[upto vs s - 1]'(by omega)) from List.getElem?_eq_getElem (by omega)] at h9; simp_all))]; omega
      have hdl : (vs.drop (((upto vs s : Nat) : Int)).toNat).length = vs.length - (((upto vs s : Nat) : Int)).toNat := List.length_drop
      have hone : One cb (vs.drop (trimN vs s)) ((cb, .cells #[.slice avc (vs.length - (((upto vs s : Nat) : Int)).toNat) capc] 300 (0, 0)) :: Lc) := by
        rw [htn]; exact ⟨avc, capc, Lc, by rw [hdl], by rw [hdl]; exact hoc, hs.sublist (List.drop_sublist _ _), by rw [hdl]; omega⟩
      exact hR _ ((cb, .cells #[.slice avc (vs.length - (((upto vs s : Nat) : Int)).toNat) capc] 300 (0, 0)) :: (Lc ++ L)) (Res.one (v := .int .i64 _) rfl rfl) ⟨by rw [htn]; congr 1, _, hone, rfl⟩ (.cons _ (.cons_cons _ (.cons _ (.refl _))))
  · rw [decide_eq_false t6]
    refine Seq.pass at3 rfl rfl ?_
    refine Seq.pass at4 rfl rfl ?_
    refine Seq.pass at5 rfl rfl ?_
    refine Seq.pass at6 rfl rfl ?_
    refine Seq.pass at7 rfl rfl ?_
    refine Seq.pass at8 rfl rfl ?_
    refine Seq.pass at9 rfl rfl ?_
    refine Seq.pass at10 rfl rfl ?_
    refine Seq.pass at11 rfl rfl ?_
    refine Seq.pass at12 rfl rfl ?_
    refine Seq.rd0 at13 rfl rfl (O.pickF (v := .bool _) rfl rfl) ?_
    refine Seq.nil ?_
    refine hK5 ?_
    refine Cd.condF rfl ?_
    refine Cd.skip ?_
    refine hK4 ?_
    refine Cd.seq (fun K12 hK12 => ?_)
    refine Cd.region [0, 1, 2, 3, 4, 5, 6, 7, 8, 9, 10] rfl ?_
    refine Seq.rd0 at0 rfl rfl (O.move (v := .pointer _) rfl) ?_
    refine Seq.rd0 at1 rfl rfl (O.move (v := .pointer _) rfl) ?_
    refine Seq.rd0 at2 rfl rfl (O.nilP rfl) ?_
    refine Seq.rd0 at3 rfl rfl (O.field fo_300_0 rfl) ?_
    refine Seq.rd1 at4 rfl rfl (O.load kd_239 rfl r1_0) Rd.head.cons ?_
    refine Seq.rd0 at5 rfl rfl (O.move (v := .int .i64 _) rfl) ?_
    refine Seq.rd0 at6 rfl rfl (O.sliceL sl_239 rfl rfl (by omega) (by omega)) ?_
    refine Seq.op at7 rfl (Op.callF rfl hb_240 (C_Clone_Version (SlAt.dropL Version_size (Rd.head.cons.cons) (by omega) (by omega) hcap (by omega)) (by omega)) rfl ?_)
    rintro _ _ ⟨avc, capc, Lc, rfl, hoc, rfl⟩
    refine Ent.perm ?_ (bring (Ls := Lc) (pre := [(b2, _), (cb, _), (b, _)]) (R := L)).symm
    refine Seq.rd0 at8 rfl rfl (O.nilP rfl) ?_
    refine Seq.rd0 at9 rfl rfl (O.field fo_300_0 rfl) ?_
    refine Seq.op at10 rfl (Op.set1 rfl (O.store1 kd_239 rfl (v := .slice _ _ _) rfl (Nat.le_of_ble_eq_true rfl) rfl (cs' := #[.slice avc (vs.length - (((upto vs s : Nat) : Int)).toNat) capc]) rfl) ?_)
    refine Seq.nil ?_
    refine hK12 ?_
    refine Cd.seq (fun K13 hK13 => ?_)
    refine Cd.region [0, 1] rfl ?_
    refine Seq.rd0 at0 rfl rfl (O.move (v := .int .i64 _) rfl) ?_
    refine Seq.rd0 at1 rfl rfl (O.assign (v := .int .i64 _) rfl) ?_
    refine Seq.nil ?_
    refine hK13 ?_
    refine Cd.ret ?_
    have htn : trimN vs s = (((upto vs s : Nat) : Int)).toNat := by
      unfold trimN; rw [if_neg (by rintro ⟨h8, h9⟩; first | omega | (rw [show vs[upto vs s - 1]? = some (vs[upto vs s - 1]'(by omega)) from List.getElem?_eq_getElem (by omega)] at h9; simp_all))]; omega
    have hdl : (vs.drop (((upto vs s : Nat) : Int)).toNat).length = vs.length - (((upto vs s : Nat) : Int)).toNat := List.length_drop
    have hone : One cb (vs.drop (trimN vs s)) ((cb, .cells #[.slice avc (vs.length - (((upto vs s : Nat) : Int)).toNat) capc] 300 (0, 0)) :: Lc) := by
      rw [htn]; exact ⟨avc, capc, Lc, by rw [hdl], by rw [hdl]; exact hoc, hs.sublist (List.drop_sublist _ _), by rw [hdl]; omega⟩
    exact hR _ ((cb, .cells #[.slice avc (vs.length - (((upto vs s : Nat) : Int)).toNat) capc] 300 (0, 0)) :: (Lc ++ L)) (Res.one (v := .int .i64 _) rfl rfl) ⟨by rw [htn]; congr 1, _, hone, rfl⟩ (.cons _ (.cons_cons _ (.cons _ (.refl _))))

theorem C_chain_Trim {c : Cx} {R G : List Pt} {cb : Nat} {vs : List Version} {s : Stamp} (hO : One cb vs G) :
    Fn Tryz.prog 204 #[.pointer (some ⟨cb, 0, none⟩), .agg (Stamp_enc s)] c (G ++ R) (fun v L' => v = .int .i64 (trimN vs s : Nat) ∧ ∃ G', One cb (vs.drop (trimN vs s)) G' ∧ L' = G' ++ R) := by
  obtain ⟨av, cap, Ls, rfl, h1, h2, h3⟩ := hO
  rcases h1 with ⟨h0, _, hv, rfl⟩ | ⟨b, cap', sp, hv, h4, h5, h6, rfl⟩
  · obtain rfl : vs = [] := List.length_eq_zero_iff.1 h0
    obtain ⟨rfl, rfl⟩ : av = none ∧ cap = 0 := by simpa using hv
    exact C_Trim_nil (L := R)
  · obtain ⟨rfl, rfl⟩ : av = some ⟨b, 0, none⟩ ∧ cap = cap' := by simpa using hv
    exact C_Trim_own (L := R) h2 h3 h4

end Go.X

/- The engine, part 17: deleting while a map is gone over. -/
namespace Go.X
section
variable {P : Program} {c : Cx} {L : List Pt} {e : Env} {x y : Operand} {d : Option Tmp} {ty : TypeId} {p : String} {af : Array Edge} {g : Option (Nat × Bool)}
variable {K V : Type} {encK : K → Value} {encV : V → Value}
/-- the entry of a key is gone -/
structure DelAt (encK : K → Value) (es es' : Array MapEntry) (a : K) : Prop where
  ex : ∃ j q, es.toList[j]? = some q ∧ q.key = encK a ∧ es'.toList = es.toList.eraseIdx j
theorem O.mapDel2 [DecidableEq K] {t k kt el b : Nat} {es : Array MapEntry} {ck : Nat} {l : List (K × V)} {a : K} (ht : P.underlying t = some (.map k el)) (KK : IsKey P k encK) (h : MapIs encK encV es ck l) (hin : a ∈ l.map Prod.fst)
    (hx : ev e x = .map (some b)) (hy : ev e y = encK a) {A B : List Pt} (hL : L = A ++ (b, .map es ck) :: B) :
    Eg P e ⟨d, .call { callee := .builtin .delete, args := #[x, y], argTypes := #[t, kt] }, ty, p, af, g⟩ c L (fun v L' => v = .tuple #[] ∧ ∃ es', MapIs encK encV es' ck (adel l a) ∧ DelAt encK es es' a ∧ L' = A ++ (b, .map es' ck) :: B) := by
  subst hL
  intro w hw
  have hb := hw.look (b, .map es ck) (by simp)
  rcases run_find KK h a w with ⟨h1, h2⟩ | ⟨j, v, q, h1, h2, h3, h4⟩
  · exact absurd hin h1
  · have hj : j < es.size := by
      rcases Nat.lt_or_ge j es.toList.length with h' | h'
      · simpa using h'
      · rw [List.getElem?_eq_none h'] at h2; cases h2
    have htl : (es.eraseIdxIfInBounds j).toList = es.toList.eraseIdx j := by
      simp [Array.eraseIdxIfInBounds, hj]
    refine ⟨_, _, _, .inl ?_, ⟨rfl, es.eraseIdxIfInBounds j, ?_, ⟨j, q, h2, h3, htl⟩, rfl⟩, hw.set⟩
    · simp [execOp, resolve, invoke, builtin, Builtin.delete_, hx, hy, run_under ht, run_getMap hb, run_check KK, h4, run_setMap hb]
    · rw [(alook_at h.keys h1).2.2]
      refine ⟨?_, ?_, ?_, ?_⟩
      · rw [htl, map_erase, map_erase, h.ents]
      · rw [map_erase]; exact (List.eraseIdx_sublist _ _).nodup h.keys
      · rw [htl, map_erase]; exact (List.eraseIdx_sublist _ _).nodup h.born
      · intro r hr; rw [htl] at hr; exact h.clock r (List.mem_of_mem_eraseIdx hr)
theorem filter_erase {α : Type} {f : α → Bool} : ∀ {l : List α} {j : Nat} {q : α}, l[j]? = some q → f q = false → (l.eraseIdx j).filter f = l.filter f
  | [], _, _, h, _ => by simp at h
  | r :: l, 0, q, h, hf => by
    obtain rfl : r = q := by simpa using h
    simp [hf]
  | r :: l, j + 1, q, h, hf => by
    simp only [List.getElem?_cons_succ] at h
    simp only [List.eraseIdx_cons_succ, List.filter_cons, filter_erase h hf]
theorem MapIs.one {k : TypeId} (KK : IsKey P k encK) {es : Array MapEntry} {ck : Nat} {l : List (K × V)} (h : MapIs encK encV es ck l) {a : K} {i j : Nat} {q r : MapEntry} (hi : es.toList[i]? = some q) (hj : es.toList[j]? = some r)
    (hq : q.key = encK a) (hr : r.key = encK a) : q = r := by
  obtain ⟨x1, v1, h1, h2, _⟩ := h.at_ hi
  obtain ⟨x2, v2, h3, h4, _⟩ := h.at_ hj
  obtain rfl : x1 = a := KK.inj _ _ (h2.symm.trans hq)
  obtain rfl : x2 = x1 := KK.inj _ _ (h4.symm.trans hr)
  have hn := h.keys
  have hi1 : i < l.length := by
    rcases Nat.lt_or_ge i l.length with h' | h'
    · exact h'
    · rw [List.getElem?_eq_none h'] at h1; cases h1
  have hj1 : j < l.length := by
    rcases Nat.lt_or_ge j l.length with h' | h'
    · exact h'
    · rw [List.getElem?_eq_none h'] at h3; cases h3
  rw [List.getElem?_eq_getElem hi1] at h1
  rw [List.getElem?_eq_getElem hj1] at h3
  have he : i = j := (List.getElem_inj (xs := l.map Prod.fst) (h₀ := by simpa using hi1) (h₁ := by simpa using hj1) hn).1 (by
    simp only [List.getElem_map, Option.some.inj h1, Option.some.inj h3])
  subst he
  rw [hi] at hj
  exact Option.some.inj hj
/-- the step; and what stays to come when the entry is deleted -/
theorem O.next2 {k : TypeId} (KK : IsKey P k encK) {r bm : Nat} {it : Obj} {es : Array MapEntry} {ck : Nat} {l rest : List (K × V)} {R : List Pt} (h : MapIs encK encV es ck l) (hi : ItIs encK encV es ck bm rest it)
    (hx : ev e x = .pointer (some ⟨r, 0, none⟩)) (hr : Rd c ((r, it) :: R) bm (.map es ck)) :
    Eg P e ⟨d, .next x false, ty, p, af, g⟩ c ((r, it) :: R) (fun v L' =>
      (rest = [] ∧ v = .tuple #[.bool false] ∧ L' = (r, it) :: R) ∨
      (∃ a u rest' it', rest.Perm ((a, u) :: rest') ∧ v = .tuple #[.bool true, encK a, encV u] ∧ ItIs encK encV es ck bm rest' it' ∧ (∀ es', DelAt encK es es' a → ItIs encK encV es' ck bm rest' it') ∧
        (∀ e' : Env, ∀ x' : Operand, ev e' x' = .pointer (some ⟨r, 0, none⟩) → ∀ {L2 : List Pt} {d2 : Option Tmp} {ty2 : TypeId} {p2 : String} {af2 : Array Edge} {g2 : Option (Nat × Bool)}, Rd c L2 r it' → Rd c L2 bm (.map es ck) →
          Eg P e' ⟨d2, .entry x', ty2, p2, af2, g2⟩ c L2 (fun v2 L3 => v2 = .tuple #[encK a, encV u] ∧ L3 = L2)) ∧ L' = (r, it') :: R)) := by
  intro w hw
  obtain ⟨since, seen, c0, rfl, hold, hsc, hck, hl⟩ := hi.ex
  have hb := hr w hw
  have hrr := hw.look _ (List.mem_cons_self)
  rcases run_next_at (P := P) w ty r bm since c0 seen es ck hrr hb hold hsc with ⟨h0, hrun⟩ | ⟨q, hq, w1, hw1, hrun⟩
  · refine ⟨_, _, _, .inl ?_, .inl ⟨?_, rfl, rfl⟩, hw⟩
    · simp [execOp, hx, hrun]
    · have := congrArg List.length hl
      simp only [List.length_map, Array.length_toList, h0] at this
      exact List.length_eq_zero_iff.1 this.symm
  · obtain ⟨j, hj, hjq⟩ := List.getElem_of_mem hq
    have hjq' : (leftOf es seen).toList[j]? = some q := by rw [List.getElem?_eq_getElem hj, hjq]
    have hrj := congrArg (fun l => l[j]?) hl
    simp only [List.getElem?_map, hjq', Option.map_some] at hrj
    cases hrest : rest[j]? with
    | none => rw [hrest] at hrj; cases hrj
    | some au =>
      obtain ⟨a, u⟩ := au
      rw [hrest] at hrj
      simp only [Option.map_some, Option.some.injEq, Prod.mk.injEq] at hrj
      have hqe : q ∈ es.toList := by
        have : q ∈ (es.filter fun e => !seen.contains e.born).toList := hq
        simp at this; simpa using this.1
      have hst : St c ((r, .mapIter (some bm) since seen c0) :: R) w1 := by
        rcases hw1 with rfl | rfl
        · exact hw
        · exact hw.drew _
      have h3 : (leftOf es (seen.push q.born)).toList.map (fun q => (q.key, q.val)) = (rest.eraseIdx j).map (fun q => (encK q.1, encV q.2)) := by
        have h3 : (leftOf es (seen.push q.born)).toList = (leftOf es seen).toList.eraseIdx j := by
          have := nodup_filter_erase h.born (seen := seen) (j := j) (q := q) (by simpa [leftOf] using hjq')
          simpa [leftOf] using this
        rw [h3, map_erase, map_erase, hl]
      refine ⟨_, setBlk w1 r (.mapIter (some bm) since (seen.push q.born) ck), _, .inl ?_, .inr ⟨a, u, rest.eraseIdx j, _, ?_, rfl, ⟨⟨since, seen.push q.born, ck, rfl, hold, hck, hck, h3⟩⟩, ?_, ?_, rfl⟩, St.set (A := []) hst⟩
      · rw [hrj.1, hrj.2] at hrun
        simp [execOp, hx, hrun]
        rfl
      · have hlt : j < rest.length := by
          rcases Nat.lt_or_ge j rest.length with h' | h'
          · exact h'
          · rw [List.getElem?_eq_none h'] at hrest; cases hrest
        have : rest[j] = (a, u) := by rw [List.getElem?_eq_getElem hlt] at hrest; exact Option.some.inj hrest
        rw [← this]
        exact erase_perm hlt
      · rintro es' ⟨i, q', hi1, hi2, hi3⟩
        obtain ⟨jj, hjj, hjjq⟩ := List.getElem_of_mem hqe
        have hqq : q' = q := MapIs.one KK h hi1 (by rw [List.getElem?_eq_getElem hjj, hjjq]) hi2 hrj.1
        subst hqq
        refine ⟨⟨since, seen.push q'.born, ck, rfl, fun s hs => hold s ?_, hck, hck, ?_⟩⟩
        · rw [hi3] at hs; exact List.mem_of_mem_eraseIdx hs
        · rw [← h3]
          have h5 : (leftOf es' (seen.push q'.born)).toList = (leftOf es (seen.push q'.born)).toList := by
            simp only [leftOf, Array.toList_filter]
            rw [hi3]
            exact filter_erase hi1 (by simp)
          rw [h5]
      · intro e' x' hx' L2 d2 ty2 p2 af2 g2 hr2 hb2 w2 hw2
        have := run_entry_at (P := P) w2 r bm since seen es ck q (hr2 w2 hw2) (hb2 w2 hw2) hqe h.born
        refine ⟨_, _, _, .inl ?_, ⟨rfl, rfl⟩, hw2⟩
        rw [hrj.1, hrj.2] at this
        simp [execOp, hx', this]
end
end Go.X

namespace Go.X
open Go.Proofs
theorem hb_204 : hasBody Tryz.prog 204 = true := by kernel_rfl
/-! ## store.Trim -/
def trimS (l : List (Key × CV)) (s : Stamp) : Int := (l.map fun q => (trimN q.2.2 s : Int)).sum
structure TrimR (l : List (Key × CV)) (s : Stamp) (l' : List (Key × CV)) : Prop where
  get : ∀ k, getS l' k = (getS l k).drop (trimN (getS l k) s)
  keys : ∀ k ∈ l'.map Prod.fst, k ∈ l.map Prod.fst
structure TrimI (l : List (Key × CV)) (s : Stamp) (l1 rest : List (Key × CV)) (n : Int) : Prop where
  look : ∀ q ∈ rest, alook l1 q.1 = some q.2
  nd : (rest.map Prod.fst).Nodup
  get : ∀ k, getS l1 k = if k ∈ rest.map Prod.fst then getS l k else (getS l k).drop (trimN (getS l k) s)
  cnt : n + trimS rest s = trimS l s
  keys : ∀ k ∈ l1.map Prod.fst, k ∈ l.map Prod.fst
  size : l1.length ≤ 200
  bnd : 0 ≤ n ∧ n + 50 * rest.length ≤ 10000
theorem perm_sum : ∀ {a b : List Int}, a.Perm b → a.sum = b.sum := by
  intro a b h
  induction h with
  | nil => rfl
  | cons x _ ih => simp [ih]
  | swap x y l => simp only [List.sum_cons]; omega
  | trans _ _ h1 h2 => exact h1.trans h2
theorem alook_of_mem {K V : Type} [DecidableEq K] {l : List (K × V)} (hn : (l.map Prod.fst).Nodup) {q : K × V} (hq : q ∈ l) : alook l q.1 = some q.2 := by
  obtain ⟨j, hj, rfl⟩ := List.getElem_of_mem hq
  exact (alook_at hn (List.getElem?_eq_getElem hj)).1
theorem getS_none {l : List (Key × CV)} {k : Key} (h : k ∉ l.map Prod.fst) : getS l k = [] := by
  unfold getS; rw [(alook_none h).1]
theorem getS_some {l : List (Key × CV)} {k : Key} {q : CV} (h : alook l k = some q) : getS l k = q.2 := by unfold getS; rw [h]
theorem TrimI.init {l : List (Key × CV)} {s : Stamp} (hn : (l.map Prod.fst).Nodup) (h : l.length ≤ 200) : TrimI l s l l 0 where
  look := fun _ hq => alook_of_mem hn hq
  nd := hn
  get := fun k => by
    split
    · rfl
    · rename_i h0; rw [getS_none h0]; simp
  cnt := Int.zero_add _
  keys := fun _ h => h
  size := h
  bnd := ⟨Int.le_refl _, by omega⟩
theorem TrimI.step {l l1 l2 rest rest' : List (Key × CV)} {s : Stamp} {n : Int} {a : Key} {u : CV} (h : TrimI l s l1 rest n) (hpm : rest.Perm ((a, u) :: rest')) (hne : ∀ k, k ≠ a → alook l2 k = alook l1 k) (ha : getS l2 a = u.2.drop (trimN u.2 s))
    (hk : ∀ k ∈ l2.map Prod.fst, k ∈ l1.map Prod.fst) (hl : l2.length ≤ l1.length) (h50 : trimN u.2 s ≤ 50) : TrimI l s l2 rest' (n + (trimN u.2 s : Nat)) := by
  have hnd : a ∉ rest'.map Prod.fst ∧ (rest'.map Prod.fst).Nodup := by
    have := ((hpm.map Prod.fst).nodup_iff).1 h.nd
    simpa using this
  have hau : alook l1 a = some u := h.look (a, u) (hpm.mem_iff.2 (List.mem_cons_self))
  have hga : getS l a = u.2 := by
    have h1 := h.get a
    rw [if_pos ((hpm.map Prod.fst).mem_iff.2 (List.mem_cons_self)), getS_some hau] at h1
    exact h1.symm
  refine ⟨fun q hq => ?_, hnd.2, fun k => ?_, ?_, fun k hk' => h.keys k (hk k hk'), Nat.le_trans hl h.size, ?_⟩
  · have h1 : q.1 ≠ a := fun e => hnd.1 (e ▸ List.mem_map.2 ⟨q, hq, rfl⟩)
    rw [hne _ h1]; exact h.look q (hpm.mem_iff.2 (List.mem_cons_of_mem _ hq))
  · by_cases he : k = a
    · subst he
      rw [if_neg hnd.1, ha, hga]
    · have h1 : getS l2 k = getS l1 k := by unfold getS; rw [hne k he]
      rw [h1, h.get k]
      have h2 : k ∈ rest.map Prod.fst ↔ k ∈ rest'.map Prod.fst := by
        rw [(hpm.map Prod.fst).mem_iff, List.map_cons, List.mem_cons]
        exact ⟨fun h => h.resolve_left he, .inr⟩
      simp only [h2]
  · have h1 : trimS rest s = (trimN u.2 s : Int) + trimS rest' s := by
      unfold trimS
      rw [perm_sum (hpm.map fun q => (trimN q.2.2 s : Int))]
      simp
    have := h.cnt
    omega
  · have h1 := hpm.length_eq
    have := h.bnd
    simp only [List.length_cons] at h1
    omega
theorem aput_keep {K V : Type} [DecidableEq K] {k : K} {q u : V} : ∀ {l : List (K × V)}, alook l k = some q → (aput l k u).map Prod.fst = l.map Prod.fst ∧ (aput l k u).length = l.length ∧
    ∀ {β : Type} (f : V → β), f u = f q → (aput l k u).map (fun r => (r.1, f r.2)) = l.map (fun r => (r.1, f r.2))
  | [], h => by simp [alook] at h
  | (y, v) :: l, h => by
    unfold alook at h
    split at h
    · rename_i he
      obtain rfl := Option.some.inj h
      subst he
      simp only [aput, if_true, List.map_cons, List.length_cons, true_and]
      intro β f hf; rw [hf]
    · rename_i he
      obtain ⟨h1, h2, h3⟩ := aput_keep (u := u) h
      simp only [aput, he, if_false, List.map_cons, List.length_cons, h1, h2, true_and]
      intro β f hf; rw [h3 f hf]
theorem MapIs.upd {K V : Type} [DecidableEq K] {encK : K → Value} {encV : V → Value} {es : Array MapEntry} {ck : Nat} {l : List (K × V)} (h : MapIs encK encV es ck l) {k : K} {q u : V} (hl : alook l k = some q) (hu : encV u = encV q) : MapIs encK encV es ck (aput l k u) := by
  obtain ⟨h1, h2, h3⟩ := aput_keep (u := u) hl
  refine ⟨?_, by rw [h1]; exact h.keys, h.born, h.clock⟩
  have h4 := congrArg (List.map fun r : K × Value => (encK r.1, r.2)) (h3 encV hu)
  simp only [List.map_map, Function.comp_def] at h4
  rw [h.ents]; exact h4.symm
theorem ChOwn.del {k : Key} {q : CV} : ∀ {l : List (Key × CV)} {Cs : List Pt}, ChOwn l Cs → alook l k = some q → ∃ G C1, Cs.Perm (G ++ C1) ∧ ChOwn (adel l k) C1
  | [], _, _, h => by simp [alook] at h
  | (y, u) :: l, Cs, hC, h => by
    obtain ⟨G, C1, rfl, hO, hC1⟩ := hC
    unfold alook at h
    split at h
    · rename_i he
      refine ⟨G, C1, .refl _, ?_⟩
      simp only [adel, he, if_true]; exact hC1
    · rename_i he
      obtain ⟨G2, C2, hp, hd⟩ := ChOwn.del hC1 h
      refine ⟨G2, G ++ C2, (hp.append_left G).trans (List.perm_append_comm_assoc _ _ _), ?_⟩
      simp only [adel, he, if_false]
      exact ⟨G, C2, rfl, hO, hd⟩
theorem C_trimIn {c : Cx} {X Cs R : List Pt} {l : List (Key × CV)} {k : Key} {q : CV} {s : Stamp} (hC : ChOwn l Cs) (hl : alook l k = some q) : Fn Tryz.prog 204 #[.pointer (some ⟨q.1, 0, none⟩), .agg (Stamp_enc s)] c (X ++ (Cs ++ R))
    (fun v L' => v = .int .i64 (trimN q.2 s : Nat) ∧ ∃ Cs', ChOwn (aput l k (q.1, q.2.drop (trimN q.2 s))) Cs' ∧ L' = X ++ (Cs' ++ R)) := by
  obtain ⟨G, C1, hp, hO, hb⟩ := hC.take hl
  refine Fn.perm (L2 := G ++ (X ++ (C1 ++ R))) ?_ (perm3 hp.symm).symm
  refine Fn.post (C_chain_Trim (s := s) hO) fun v L' ⟨hv, G', hG', hL⟩ => ?_
  obtain ⟨Cs', h1, h2⟩ := hb _ _ hG'
  exact ⟨_, ⟨hv, Cs', h1, rfl⟩, by rw [hL]; exact perm3 h2⟩

set_option maxRecDepth 100000 in
set_option maxHeartbeats 2000000 in
theorem C_store_Trim_own {c : Cx} {L : List Pt} {sb mb ck : Nat} {es : Array MapEntry} {Cs : List Pt} {l : List (Key × CV)} {s : Stamp} (hm : MapIs keyV cvV es ck l) (hC : ChOwn l Cs) (hsz : l.length ≤ 200) : Fn Tryz.prog 139 #[.pointer (some ⟨sb, 0, none⟩), .agg (Stamp_enc s)] c ((sb, .cells #[.map (some mb)] 245 (0, 0)) :: (mb, .map es ck) :: (Cs ++ L)) (fun v L' => v = .int .i64 (trimS l s) ∧ ∃ l' Ls', StOwn sb l' Ls' ∧ TrimR l s l' ∧ L' = Ls' ++ L) := by
  refine Fn.enter Tryz.func139 rfl 32 rfl rfl (fun R hR => ?_)
  refine Cd.seq (fun K1 hK1 => ?_)
  refine Cd.region [0, 1] rfl ?_
  refine Seq.op at0 rfl (Op.new rfl (O.box (v := .agg _) rfl (cs := (Stamp_enc s)) rfl) ?_)
  intro b2 hb2
  refine Seq.rd0 at1 rfl rfl (O.assign (v := .int .i64 _) rfl) ?_
  refine Seq.nil ?_
  refine hK1 ?_
  refine Cd.seq (fun K3 hK3 => ?_)
  refine Cd.region [0] rfl ?_
  refine Seq.rd0 at0 rfl rfl (O.assign (v := .int .i64 _) rfl) ?_
  refine Seq.nil ?_
  refine hK3 ?_
  refine Cd.seq (fun K4 hK4 => ?_)
  refine Cd.seq (fun K5 hK5 => ?_)
  refine Cd.region [0, 1, 2, 3, 4] rfl ?_
  refine Seq.rd0 at0 rfl rfl (O.move (v := .pointer _) rfl) ?_
  refine Seq.rd0 at1 rfl rfl (O.nilP rfl) ?_
  refine Seq.rd0 at2 rfl rfl (O.field fo_245_0 rfl) ?_
  refine Seq.rd1 at3 rfl rfl (O.load kd_243 rfl r1_0) Rd.head.cons ?_
  refine Seq.op at4 rfl (Op.gen rfl (O.range mp_243 hm rfl (Rd.head.cons.cons)) ?_)
  rintro _ _ ⟨r, it, hr0, rfl, hi, rfl⟩
  refine Seq.nil ?_
  refine hK5 ?_
  refine Cd.block ?_
  refine Cd.loop (fun m6 e7 L8 => ∃ rest : List (Key × CV), ∃ it : Obj, ∃ es1 : Array MapEntry, ∃ l1 : List (Key × CV), ∃ Cs1 : List Pt, ∃ n : Int, m6 = rest.length ∧ e7 0 = .pointer (some ⟨sb, 0, none⟩) ∧ e7 3 = .pointer (some ⟨b2, 0, none⟩) ∧ e7 4 = .int .i64 0 ∧ e7 5 = .int .i64 n ∧ e7 12 = .pointer (some ⟨r, 0, none⟩) ∧ L8 = (r, it) :: (b2, .cells (Stamp_enc s) 24 (0, 0)) :: (sb, .cells #[.map (some mb)] 245 (0, 0)) :: (mb, .map es1 ck) :: (Cs1 ++ (L)) ∧ ItIs keyV cvV es1 ck mb rest it ∧ MapIs keyV cvV es1 ck l1 ∧ ChOwn l1 Cs1 ∧ TrimI l s l1 rest n) _ ⟨l, it, es, l, Cs, 0, rfl, rfl, rfl, rfl, rfl, rfl, rfl, hi, hm, hC, TrimI.init hm.keys hsz⟩ ?_
  rintro _ e7 _ ⟨rest, it, es1, l1, Cs1, n, rfl, s9, s10, s11, s12, s13, rfl, hi, hm1, hC1, hT⟩ K14 hK14
  refine Cd.seq (fun K15 hK15 => ?_)
  refine Cd.region [0, 1] rfl ?_
  refine Seq.op at0 rfl (Op.gen rfl (O.next2 kk_key hm1 hi (by exact s13) Rd.head.cons.cons.cons) ?_)
  rintro _ _ (⟨rfl, rfl, rfl⟩ | ⟨a, u, rest', it', hpm, rfl, hi', hdl, hent, rfl⟩)
  · skip
    refine Seq.rd0 at1 rfl rfl (O.ext rfl r1_0) ?_
    refine Seq.nil ?_
    refine hK15 ?_
    refine Cd.seq (fun K16 hK16 => ?_)
    refine Cd.condF rfl ?_
    refine Cd.exit ?_
    refine hK4 ?_
    refine Cd.seq (fun K17 hK17 => ?_)
    refine Cd.region [0, 1] rfl ?_
    refine Seq.rd0 at0 rfl rfl (O.move (v := .int .i64 _) (by exact s12)) ?_
    refine Seq.rd0 at1 rfl rfl (O.assign (v := .int .i64 _) rfl) ?_
    refine Seq.nil ?_
    refine hK17 ?_
    refine Cd.ret ?_
    have hst : StOwn sb l1 ((sb, .cells #[.map (some mb)] 245 (0, 0)) :: (mb, .map es1 ck) :: Cs1) := ⟨⟨mb, es1, ck, Cs1, rfl, hm1, hC1⟩, hT.size⟩
    have hcn := hT.cnt
    exact hR _ _ (Res.one (v := .int .i64 _) rfl rfl) ⟨by rw [← hcn]; congr 1; unfold trimS; simp, l1, _, hst, ⟨fun k => by rw [hT.get k]; rfl, hT.keys⟩, rfl⟩ (.cons _ (.cons _ (.refl _)))
  · skip
    refine Seq.rd0 at1 rfl rfl (O.ext rfl r3_0) ?_
    refine Seq.nil ?_
    refine hK15 ?_
    refine Cd.seq (fun K18 hK18 => ?_)
    refine Cd.condT rfl ?_
    refine Cd.skip ?_
    refine hK18 ?_
    refine Cd.block ?_
    refine Cd.seq (fun K19 hK19 => ?_)
    refine Cd.region [0, 1, 2, 3, 4, 5] rfl ?_
    refine Seq.op at0 rfl (Op.gen rfl (hent _ _ (by exact s13) Rd.head Rd.head.cons.cons.cons) ?_)
    rintro _ _ ⟨rfl, rfl⟩
    have hau : alook l1 a = some u := hT.look (a, u) (hpm.mem_iff.2 (List.mem_cons_self))
    have hch := hC1.ch (c := c) (R := L) hau
    have h50 := trimN_le (s := s) hch.2.1
    have h51 := hch.2.2
    have hnb := hT.bnd
    have hpl := hpm.length_eq
    simp only [List.length_cons] at hpl
    refine Seq.rd0 at1 rfl rfl (O.ext rfl r2_0) ?_
    refine Seq.rd0 at2 rfl rfl (O.ext rfl r2_1) ?_
    refine Seq.op at3 rfl (Op.new rfl (O.alloc zo_45 (cs := (Key_enc Key.zero)) rfl) ?_)
    intro b20 hb20
    refine Seq.op at4 rfl (Op.set0 rfl (O.store kd_45 rfl (v := .agg _) rfl (Key_size _) (Key_room (Key_size _)) (Key_one _) (Key_put _ (Key_size _))) ?_)
    refine Seq.rd0 at5 rfl rfl (O.assign (v := .pointer _) rfl) ?_
    refine Seq.nil ?_
    refine hK19 ?_
    refine Cd.seq (fun K21 hK21 => ?_)
    refine Cd.region [0, 1, 2, 3, 4, 5] rfl ?_
    refine Seq.rd0 at0 rfl rfl (O.move (v := .int .i64 _) (by exact s12)) ?_
    refine Seq.rd0 at1 rfl rfl (O.move (v := .pointer _) rfl) ?_
    refine Seq.rd1 at2 rfl rfl (O.loadA kd_24 (by exact s10) (Nat.le_of_ble_eq_true rfl) (Stamp_all _)) Rd.head.cons.cons ?_
    refine Seq.op at3 rfl (Op.callF rfl hb_204 (C_trimIn (X := [(b20, _), (r, _), (b2, _), (sb, _), (mb, _)]) (R := L) (s := s) hC1 hau) rfl ?_)
    rintro _ _ ⟨rfl, Cs2, hC2, rfl⟩
    have hm2 : MapIs keyV cvV es1 ck (aput l1 a (u.1, u.2.drop (trimN u.2 s))) := hm1.upd hau rfl
    have hak : alook (aput l1 a (u.1, u.2.drop (trimN u.2 s))) a = some (u.1, u.2.drop (trimN u.2 s)) := alook_put_same _ _ _
    refine Seq.rd0 at4 rfl rfl (O.add rfl rfl (by omega) (by omega)) ?_
    refine Seq.rd0 at5 rfl rfl (O.assign (v := .int .i64 _) rfl) ?_
    refine Seq.nil ?_
    refine hK21 ?_
    refine Cd.seq (fun K22 hK22 => ?_)
    refine Cd.region [0, 1, 2] rfl ?_
    refine Seq.rd0 at0 rfl rfl (O.move (v := .pointer _) rfl) ?_
    have hdd : (u.2.drop (trimN u.2 s)).length < 4611686018427387904 := by rw [List.length_drop]; omega
    refine Seq.op at1 rfl (Op.callF rfl hb_205 (C_chain_Len hdd ((hC2.ch (R := L) hak).1.cons.cons.cons.cons.cons)) rfl ?_)
    rintro _ _ ⟨rfl, rfl⟩
    refine Seq.rd0 at2 rfl rfl (O.eqI rfl rfl) ?_
    refine Seq.nil ?_
    refine hK22 ?_
    refine Cd.if (((u.2.drop (trimN u.2 s)).length : Int) = 0) rfl (fun t23 => ?_) (fun t23 => ?_)
    · skip
      refine Cd.draw 6 rfl po ?_
      refine Any.rd0 0 at0 rfl rfl (O.move (v := .pointer _) (by exact s9)) (by kernel_rfl) (by kernel_rfl) (by kernel_rfl) ?_
      refine Any.rd0 1 at1 rfl rfl (O.nilP rfl) (by kernel_rfl) (by kernel_rfl) (by kernel_rfl) ?_
      refine Any.rd0 2 at2 rfl rfl (O.field fo_245_0 rfl) (by kernel_rfl) (by kernel_rfl) (by kernel_rfl) ?_
      refine Any.rd1 3 at3 rfl rfl (O.load kd_243 rfl r1_0) Rd.head.cons.cons.cons (by kernel_rfl) (by kernel_rfl) (by kernel_rfl) ?_
      refine Any.rd1 4 at4 rfl rfl (O.loadA kd_45 rfl (Nat.le_of_ble_eq_true rfl) (Key_all _)) Rd.head (by kernel_rfl) (by kernel_rfl) (by kernel_rfl) ?_
      refine Any.one 5 at5 rfl (by kernel_rfl) ⟨⟨trivial, Rd.head.cons.cons.cons⟩, Rd.head⟩ ?_
      refine Op.gen rfl (O.mapDel2 (encV := cvV) (a := a) mp_243 kk_key hm2 (List.mem_map.2 ⟨_, alook_mem hak, rfl⟩) rfl (by exact rfl) (A := [(b20, _), (r, _), (b2, _), (sb, _)]) rfl) ?_
      rintro _ _ ⟨rfl, es3, hm3, hda, rfl⟩
      obtain ⟨G3, Cs3, hp3, hC3⟩ := hC2.del hak
      refine Ent.perm ?_ (perm3 (X := [(b20, _), (r, _), (b2, _), (sb, _), (mb, _)]) (R := L) hp3.symm).symm
      refine Ent.sub ?_ (sub_app (G := G3) (.refl _))
      refine Any.toK ?_
      refine Any.done (by kernel_rfl) ⟨⟨trivial, Rd.head.cons.cons.cons⟩, Rd.head⟩ ?_
      refine Ent.drop ?_
      have hka := aput_keep (u := (u.1, u.2.drop (trimN u.2 s))) hau
      have hd0 : u.2.drop (trimN u.2 s) = [] := List.eq_nil_of_length_eq_zero (by omega)
      have hnn := hm2.keys
      exact hK14 _ (step_dec hpm) ⟨rest', it', es3, (adel (aput l1 a (u.1, u.2.drop (trimN u.2 s))) a), Cs3, (n + (trimN u.2 s : Int)), rfl, (by exact s9), (by exact s10), (by exact s11), rfl, (by exact s13), rfl, hdl _ hda, hm3, hC3, hT.step hpm (fun k hk => (alook_del_ne hk _).trans (alook_put_ne _ hk _)) (by unfold getS; rw [alook_del_same hnn]; exact hd0.symm) (fun k hk => by rw [← hka.1]; exact ((adel_keys hnn k).1 hk).2) (by rw [← hka.2.1]; exact (adel_sub _ _).length_le) (by omega)⟩
    · skip
      refine Cd.skip ?_
      refine Ent.drop ?_
      have hka := aput_keep (u := (u.1, u.2.drop (trimN u.2 s))) hau
      exact hK14 _ (step_dec hpm) ⟨rest', it', es1, (aput l1 a (u.1, u.2.drop (trimN u.2 s))), Cs2, (n + (trimN u.2 s : Int)), rfl, (by exact s9), (by exact s10), (by exact s11), rfl, (by exact s13), rfl, hi', hm2, hC2, hT.step hpm (fun k hk => alook_put_ne _ hk _) (getS_some hak) (fun k hk => by rw [← hka.1]; exact hk) (Nat.le_of_eq hka.2.1) (by omega)⟩

theorem C_store_Trim {c : Cx} {R Ls : List Pt} {sb : Nat} {l : List (Key × CV)} {s : Stamp} (hS : StOwn sb l Ls) :
    Fn Tryz.prog 139 #[.pointer (some ⟨sb, 0, none⟩), .agg (Stamp_enc s)] c (Ls ++ R) (fun v L' => v = .int .i64 (trimS l s) ∧ ∃ l' Ls', StOwn sb l' Ls' ∧ TrimR l s l' ∧ L' = Ls' ++ R) := by
  obtain ⟨⟨mb, es, ck, Cs, rfl, h1, h2⟩, h3⟩ := hS
  exact C_store_Trim_own (L := R) h1 h2 h3

end Go.X

/- The engine, part 18: slices.Sort of int64. -/
namespace Go.X
open Go.Sort Go.Proofs Go.Shelf Go.RowKit
section
variable {P : Program} {c : Cx} {L : List Pt} {ρ : Ren}
theorem rows_int : ∀ xs : List Int, rows intE xs = (xs.map (Value.int .i64)).toArray
  | [] => rfl
  | x :: xs => by
    have h := rows_append (enc := intE) (l := [x]) (m := xs)
    rw [List.singleton_append] at h
    rw [h, rows_one, rows_int xs]
    simp [intE]
theorem putCells_map {α : Type} [Inhabited α] (f : α → Value) (d : Array α) : putCells f 0 d = putCells id 0 (d.map f) := by
  funext c
  unfold putCells
  apply Array.ext_getElem?
  intro i
  simp only [Array.getElem?_mapIdx, Array.size_map, Nat.zero_le, true_and, Nat.zero_add, Nat.sub_zero, id]
  congr 1
  funext x
  split
  · rename_i h
    rw [getElem!_pos d i h, getElem!_pos (d.map f) i (by simpa using h), Array.getElem_map]
  · rfl
theorem Fn.sortInt (Ly : SlLaysM.n5 P ρ) {b cap : Nat} {xs : List Int} {sp : Array Value} {el : TypeId} {R : List Pt} (hsz : xs.length < 4611686018427387904) :
    Fn P (ρ.f 5) #[.slice (some ⟨b, 0, none⟩) xs.length cap] c ((b, .cells (rows intE xs ++ sp) el (0, 0)) :: R)
      (fun v L' => v = .tuple #[] ∧ L' = (b, .cells (rows intE (xs.mergeSort fun x y => decide (x ≤ y)) ++ sp) el (0, 0)) :: R) := by
  intro w hw
  have hb := hw.look _ (List.mem_cons_self)
  have hH : Holds (Value.int .i64) w b 0 xs.toArray := by
    intro j hj
    simp only [List.size_toArray] at hj
    simp only [Nat.zero_add]
    have hz : (rows intE xs).size = xs.length := by rw [rows_int]; simp
    refine ⟨?_, by simp [World.frozen?, hb]⟩
    rw [cell_get hb, Array.getElem?_append_left (by omega), rows_int, getElem!_pos _ j (by simpa using hj)]
    simp [hj]
  refine Calls.mono (AnyM.slices_Sort_int Ly b 0 cap xs w hH (lt_of_get hb) hsz) ?_
  rintro e w' ⟨rfl, n, os, rfl⟩
  refine ⟨_, rfl, _, ⟨rfl, rfl⟩, ?_⟩
  have h1 : St c ((b, .cells (rows intE xs ++ sp) el (0, 0)) :: R) (Sort.ahead w n) := hw.drew _ (Nat.le_add_right _ _)
  have h2 := h1.look _ (List.mem_cons_self)
  unfold putRow
  rw [putCells_map]
  have h3 : (xs.mergeSort fun x y => decide (x ≤ y)).toArray.map (Value.int .i64) = rows intE (xs.mergeSort fun x y => decide (x ≤ y)) := by rw [rows_int]; simp
  rw [h3, mapBlock_blk (F0 := rows intE xs) (sp := sp) h2 (by rw [rows_int, rows_int]; simp)]
  exact St.grow (St.set (A := []) h1) os
theorem Fn.sortIntOwn (Ly : SlLaysM.n5 P ρ) {xs : List Int} {v : Value} {Ls R : List Pt} {el : Nat} (ho : OwnSl el 1 (rows intE xs) xs.length v Ls) (hsz : xs.length < 4611686018427387904) :
    Fn P (ρ.f 5) #[v] c (Ls ++ R) (fun v' L' => v' = .tuple #[] ∧ ∃ Ls', OwnSl el 1 (rows intE (xs.mergeSort fun x y => decide (x ≤ y))) xs.length v Ls' ∧ L' = Ls' ++ R) := by
  rcases ho with ⟨h0, h9, rfl, rfl⟩ | ⟨b, cap, sp, rfl, h1, h2, h3, rfl⟩
  · obtain rfl : xs = [] := List.length_eq_zero_iff.1 h0
    intro w hw
    refine Calls.mono (AnyM.slices_Sort_int_none Ly none 0 w) ?_
    rintro e w' ⟨rfl, rfl⟩
    exact ⟨_, rfl, _, ⟨rfl, [], .inl ⟨rfl, by simpa using h9, rfl, rfl⟩, rfl⟩, hw⟩
  · refine Fn.mono (Fn.sortInt Ly hsz) ?_
    rintro v' L' ⟨rfl, rfl⟩
    exact ⟨rfl, [_], .inr ⟨b, cap, sp, rfl, h1, h2, by rw [rows_int]; simp, rfl⟩, rfl⟩
end
end Go.X

namespace Go.X
open Go.Proofs
theorem hb_114 : hasBody Tryz.prog 114 = true := by kernel_rfl
theorem hb_139 : hasBody Tryz.prog 139 = true := by kernel_rfl
theorem hb_140 : hasBody Tryz.prog 140 = true := by kernel_rfl
theorem hb_189 : hasBody Tryz.prog 189 = true := by kernel_rfl
theorem hb_190 : hasBody Tryz.prog 190 = true := by kernel_rfl
theorem hb_233 : hasBody Tryz.prog 233 = true := by kernel_rfl
set_option maxRecDepth 100000 in
set_option maxHeartbeats 2000000 in
theorem C_keysTx_fn {c : Cx} {L : List Pt} {V : Type} {encV : V → Value} {Rt Lo : List Pt} {bb bm l ck : Nat} {es : Array MapEntry} {lst : List (Int × V)} {I : List Int → List Pt → Prop} (hm : MapIs (fun x : Int => (.int .i64 x)) encV es ck lst) (hb : Rd c Rt bb (.cells #[.map (some bm)] 201 (0, 0))) (hr : Rd c Rt bm (.map es ck)) (hY : ∀ pre x Lo R', pre.length < lst.length → I pre Lo → YStep Tryz.prog c l ((fun x : Int => (.int .i64 x)) x) (Lo ++ R') (fun L' => ∃ Lo', I (pre ++ [x]) Lo' ∧ L' = Lo' ++ R')) (h0 : I [] Lo) : Fn Tryz.prog 206 #[.func (.yield l) #[] #[], .pointer (some ⟨bb, 0, none⟩)] c (Lo ++ Rt) (fun v L' => ∃ xs Lo', xs.Perm (lst.map Prod.fst) ∧ I xs Lo' ∧ L' = Lo' ++ Rt) := by
  refine Fn.enter Tryz.func206 rfl 14 rfl rfl (fun R hR => ?_)
  refine Cd.seq (fun K1 hK1 => ?_)
  refine Cd.region [0, 1] rfl ?_
  refine Seq.rd1 at0 rfl rfl (O.load kd_201 rfl r1_0) (hb.sub (List.sublist_append_right _ _)) ?_
  refine Seq.op at1 rfl (Op.gen rfl (O.range mp_201 hm rfl (hr.sub (List.sublist_append_right _ _))) ?_)
  rintro _ _ ⟨r, it, hr0, rfl, hi, rfl⟩
  refine Seq.nil ?_
  refine hK1 ?_
  refine Cd.block ?_
  refine Cd.loop (fun m2 e3 L4 => ∃ pre : List Int, ∃ rest : List (Int × V), ∃ Lo1 : List Pt, ∃ it : Obj, m2 = rest.length ∧ e3 0 = .func (.yield l) #[] #[] ∧ e3 5 = .pointer (some ⟨r, 0, none⟩) ∧ L4 = (r, it) :: (Lo1 ++ Rt) ∧ I pre Lo1 ∧ ItIs (fun x : Int => (.int .i64 x)) encV es ck bm rest it ∧ (pre ++ rest.map Prod.fst).Perm (lst.map Prod.fst)) _ ⟨[], lst, Lo, it, rfl, rfl, rfl, rfl, h0, hi, .refl _⟩ ?_
  rintro _ e3 _ ⟨pre, rest, Lo1, it, rfl, s5, s6, rfl, hI, hi, hp⟩ K7 hK7
  refine Cd.seq (fun K8 hK8 => ?_)
  refine Cd.region [0, 1] rfl ?_
  refine Seq.op at0 rfl (Op.gen rfl (O.next hm hi (by exact s6) (Rd.cons (hr.sub (List.sublist_append_right _ _)))) ?_)
  rintro _ _ (⟨rfl, rfl, rfl⟩ | ⟨a, u, rest', it', hpm, rfl, hi', hent, rfl⟩)
  · skip
    refine Seq.rd0 at1 rfl rfl (O.ext rfl r1_0) ?_
    refine Seq.nil ?_
    refine hK8 ?_
    refine Cd.seq (fun K9 hK9 => ?_)
    refine Cd.condF rfl ?_
    refine Cd.exit ?_
    exact hR _ _ (Res.zero rfl) ⟨pre, Lo1, by simpa using hp, hI, rfl⟩ (.cons _ (.refl _))
  · skip
    refine Seq.rd0 at1 rfl rfl (O.ext rfl r3_0) ?_
    refine Seq.nil ?_
    refine hK8 ?_
    refine Cd.seq (fun K10 hK10 => ?_)
    refine Cd.condT rfl ?_
    refine Cd.skip ?_
    refine hK10 ?_
    refine Cd.block ?_
    refine Cd.seq (fun K11 hK11 => ?_)
    refine Cd.region [0, 1, 2] rfl ?_
    refine Seq.op at0 rfl (Op.gen rfl (hent _ _ (by exact s6) Rd.head (Rd.cons (hr.sub (List.sublist_append_right _ _)))) ?_)
    rintro _ _ ⟨rfl, rfl⟩
    refine Seq.rd0 at1 rfl rfl (O.ext rfl r2_0) ?_
    refine Seq.rd0 at2 rfl rfl (O.assign (v := .int .i64 _) rfl) ?_
    refine Seq.nil ?_
    refine hK11 ?_
    refine Cd.seq (fun K12 hK12 => ?_)
    refine Cd.region [0, 1, 2, 3] rfl ?_
    refine Seq.rd0 at0 rfl rfl (O.move (v := (.func (.yield l) #[] #[])) (by exact s5)) ?_
    refine Seq.rd0 at1 rfl rfl (O.move (v := .int .i64 _) rfl) ?_
    refine Seq.opY at2 rfl (Ent.perm (Op.yield rfl rfl rfl (hY pre a Lo1 _ (step_lt hp hpm) hI) ?_) (bring (Ls := Lo1) (pre := [(r, _)]) (R := Rt)))
    rintro _ ⟨Lo2, hI2, rfl⟩
    refine Ent.perm ?_ (bring (Ls := Lo2) (pre := [(r, _)]) (R := Rt)).symm
    refine Seq.rd0 at3 rfl rfl (O.not rfl) ?_
    refine Seq.nil ?_
    refine hK12 ?_
    refine Cd.condF rfl ?_
    refine Cd.skip ?_
    exact hK7 _ (step_dec hpm) ⟨pre ++ [a], rest', Lo2, it', rfl, (by exact s5), (by exact s6), rfl, hI2, hi', perm_step hp hpm⟩

theorem C_keysTx {c : Cx} {V : Type} {encV : V → Value} {Rt : List Pt} {bb bm ck : Nat} {es : Array MapEntry} {lst : List (Int × V)} (hm : MapIs (fun x : Int => (.int .i64 x)) encV es ck lst) (hb : Rd c Rt bb (.cells #[.map (some bm)] 201 (0, 0))) (hr : Rd c Rt bm (.map es ck)) :
    IterOk Tryz.prog c (fun x : Int => (.int .i64 x)) 206 [.pointer (some ⟨bb, 0, none⟩)] lst.length (fun xs => xs.Perm (lst.map Prod.fst)) Rt := fun _ _ _ hY h0 => C_keysTx_fn (L := Rt) hm hb hr hY h0

set_option maxRecDepth 100000 in
set_option maxHeartbeats 2000000 in
theorem C_mapsKeys_tx {c : Cx} {L : List Pt} {mb : Nat} : Fn Tryz.prog 140 #[.map (some mb)] c L (fun v L' => ∃ bb, c.w0.heap.size ≤ bb ∧ v = .func (.func 206) #[] #[.pointer (some ⟨bb, 0, none⟩)] ∧ L' = (bb, .cells #[.map (some mb)] 201 (0, 0)) :: L) := by
  refine Fn.enter Tryz.func140 rfl 4 rfl rfl (fun R hR => ?_)
  refine Cd.seq (fun K1 hK1 => ?_)
  refine Cd.region [0, 1] rfl ?_
  refine Seq.op at0 rfl (Op.new rfl (O.box (v := .map _) rfl rfl) ?_)
  intro b2 hb2
  refine Seq.rd0 at1 rfl rfl (O.assign (v := .nilFunc) rfl) ?_
  refine Seq.nil ?_
  refine hK1 ?_
  refine Cd.seq (fun K3 hK3 => ?_)
  refine Cd.region [0, 1] rfl ?_
  refine Seq.rd0 at0 rfl rfl (O.mkFunc (fs' := #[]) (cs' := #[.pointer (some ⟨b2, 0, none⟩)]) (by kernel_rfl) (by kernel_rfl)) ?_
  refine Seq.rd0 at1 rfl rfl (O.assign (v := .func _ _ _) rfl) ?_
  refine Seq.nil ?_
  refine hK3 ?_
  refine Cd.ret ?_
  exact hR _ _ (Res.one (v := .func _ _ _) rfl rfl) ⟨b2, hb2, rfl, rfl⟩ (.refl _)

theorem MapIs.int {V : Type} {encV : V → Value} {es : Array MapEntry} {ck : Nat} {l : List (I64 × V)} (h : MapIs i64V encV es ck l) : MapIs (fun x : Int => .int .i64 x) encV es ck (l.map fun q => (q.1.1, q.2)) := by
  refine ⟨?_, ?_, h.born, h.clock⟩
  · rw [h.ents, List.map_map]; rfl
  · have h1 := h.keys
    have h2 : (l.map fun q => (q.1.1, q.2)).map Prod.fst = (l.map Prod.fst).map Subtype.val := by simp [Function.comp_def]
    rw [h2]
    exact List.Pairwise.map _ (fun a b hne e => hne (Subtype.ext e)) h1
def OwnI (xs : List Int) (v : Value) (Ls : List Pt) : Prop := OwnSl 2 1 (rows intE xs) xs.length v Ls
theorem C_Sort_ownI {c : Cx} {R Ls : List Pt} {xs : List Int} {v : Value} (ho : OwnI xs v Ls) (hsz : xs.length < 4611686018427387904) :
    Fn Tryz.prog 190 #[v] c (Ls ++ R) (fun v' L' => v' = .tuple #[] ∧ ∃ ys Ls', ys.Perm xs ∧ ys.Pairwise (· ≤ ·) ∧ OwnI ys v Ls' ∧ L' = Ls' ++ R) := by
  refine Fn.mono (Fn.sortIntOwn (ρ := Go.Proofs.Tryz.sortI64_ren) Tryz.sortI64 ho hsz) ?_
  rintro v' L' ⟨rfl, Ls', h1, rfl⟩
  refine ⟨rfl, _, Ls', List.mergeSort_perm xs (fun x y => decide (x ≤ y)), ?_, by unfold OwnI; rw [List.length_mergeSort]; exact h1, rfl⟩
  have h2 := List.pairwise_mergeSort (le := fun x y : Int => decide (x ≤ y)) (fun a b c => by simp; omega) (fun a b => by simp; omega) xs
  exact h2.imp (fun h => by simpa using h)

set_option maxRecDepth 100000 in
set_option maxHeartbeats 2000000 in
theorem C_Collect_int64 {c : Cx} {L : List Pt} {gf : FuncId} {lb : List Value} {N : Nat} {S : List Int → Prop} (hN : N ≤ 1000000000) (hgb : hasBody Tryz.prog gf = true) (hit : IterOk Tryz.prog c (fun x : Int => .int .i64 x) gf lb N S L) (hSN : ∀ xs, S xs → xs.length ≤ N) : Fn Tryz.prog 189 #[.func (.func gf) #[] lb.toArray] c L (fun v L' => ∃ xs Ls, S xs ∧ OwnI xs v Ls ∧ L' = Ls ++ L) := by
  refine Fn.enter Tryz.func189 rfl 5 rfl rfl (fun R hR => ?_)
  refine Cd.seq (fun K1 hK1 => ?_)
  refine Cd.region [0] rfl ?_
  refine Seq.rd0 at0 rfl rfl (O.assign (v := .slice _ _ _) rfl) ?_
  refine Seq.nil ?_
  refine hK1 ?_
  refine Cd.seq (fun K2 hK2 => ?_)
  refine Cd.region [0, 1, 2] rfl ?_
  refine Seq.rd0 at0 rfl rfl (O.move (v := (.func (.func gf) #[] lb.toArray)) rfl) ?_
  refine Seq.op at1 rfl (Op.callF rfl hb_233 (C_AppendSeq_int64 hN hgb hit) rfl ?_)
  rintro v3 _ ⟨xs4, Ls5, hSv3, hov3, rfl⟩
  refine Seq.rd0 at2 rfl rfl (O.assign (v := v3) rfl) ?_
  refine Seq.nil ?_
  refine hK2 ?_
  refine Cd.ret ?_
  exact hR _ _ (Res.one (v := v3) rfl rfl) ⟨xs4, Ls5, hSv3, hov3, rfl⟩ (.refl _)

set_option maxRecDepth 100000 in
set_option maxHeartbeats 2000000 in
theorem C_Sorted_int64 {c : Cx} {L : List Pt} {gf : FuncId} {lb : List Value} {N : Nat} {S : List Int → Prop} (hN : N ≤ 1000000000) (hgb : hasBody Tryz.prog gf = true) (hit : IterOk Tryz.prog c (fun x : Int => .int .i64 x) gf lb N S L) (hSN : ∀ xs, S xs → xs.length ≤ N) : Fn Tryz.prog 114 #[.func (.func gf) #[] lb.toArray] c L (fun v L' => ∃ xs ys Ls, S xs ∧ ys.Perm xs ∧ ys.Pairwise (· ≤ ·) ∧ OwnI ys v Ls ∧ L' = Ls ++ L) := by
  refine Fn.enter Tryz.func114 rfl 9 rfl rfl (fun R hR => ?_)
  refine Cd.seq (fun K1 hK1 => ?_)
  refine Cd.region [0] rfl ?_
  refine Seq.rd0 at0 rfl rfl (O.assign (v := .slice _ _ _) rfl) ?_
  refine Seq.nil ?_
  refine hK1 ?_
  refine Cd.seq (fun K2 hK2 => ?_)
  refine Cd.region [0, 1, 2] rfl ?_
  refine Seq.rd0 at0 rfl rfl (O.move (v := (.func (.func gf) #[] lb.toArray)) rfl) ?_
  refine Seq.op at1 rfl (Op.callF rfl hb_189 (C_Collect_int64 hN hgb hit hSN) rfl ?_)
  rintro v3 _ ⟨xs4, Ls5, hSv3, hov3, rfl⟩
  refine Seq.rd0 at2 rfl rfl (O.assign (v := v3) rfl) ?_
  refine Seq.nil ?_
  refine hK2 ?_
  refine Cd.seq (fun K6 hK6 => ?_)
  refine Cd.region [0, 1] rfl ?_
  refine Seq.rd0 at0 rfl rfl (O.move (v := v3) rfl) ?_
  refine Seq.op at1 rfl (Op.callF rfl hb_190 (C_Sort_ownI hov3 (by have := hSN _ hSv3; omega)) rfl ?_)
  rintro _ _ ⟨rfl, ys7, Ls8, hpys7, hsys7, hoys7, rfl⟩
  refine Seq.nil ?_
  refine hK6 ?_
  refine Cd.seq (fun K9 hK9 => ?_)
  refine Cd.region [0, 1] rfl ?_
  refine Seq.rd0 at0 rfl rfl (O.move (v := v3) rfl) ?_
  refine Seq.rd0 at1 rfl rfl (O.assign (v := v3) rfl) ?_
  refine Seq.nil ?_
  refine hK9 ?_
  refine Cd.ret ?_
  exact hR _ _ (Res.one (v := v3) rfl rfl) ⟨_, ys7, Ls8, hSv3, hpys7, hsys7, hoys7, rfl⟩ (.refl _)

set_option maxRecDepth 100000 in
set_option maxHeartbeats 2000000 in
theorem C_solo_Open {c : Cx} {L : List Pt} {p sb lm ck : Nat} {es : Array MapEntry} {xl : List (I64 × TX)} {bg la : Int} (hp : Rd c L p (.cells #[.pointer (some ⟨sb, 0, none⟩), .map (some lm), .int .i64 bg, .int .i64 la] 203 (0, 0))) (hlm : Rd c L lm (.map es ck)) (hMx : MapIs i64V txV es ck xl) (hlen : xl.length ≤ 1000000000) : Fn Tryz.prog 62 #[.pointer (some ⟨p, 0, none⟩)] c L (fun v L' => ∃ ys Ls, ys.Perm (xl.map fun q => q.1.1) ∧ ys.Pairwise (· ≤ ·) ∧ OwnI ys v Ls ∧ L' = Ls ++ L) := by
  have hlen2 : (xl.map fun q => (q.1.1, q.2)).length ≤ 1000000000 := by rw [List.length_map]; exact hlen
  refine Fn.enter Tryz.func62 rfl 9 rfl rfl (fun R hR => ?_)
  refine Cd.seq (fun K1 hK1 => ?_)
  refine Cd.region [0] rfl ?_
  refine Seq.rd0 at0 rfl rfl (O.assign (v := .slice _ _ _) rfl) ?_
  refine Seq.nil ?_
  refine hK1 ?_
  refine Cd.seq (fun K2 hK2 => ?_)
  refine Cd.region [0, 1, 2, 3, 4, 5, 6] rfl ?_
  refine Seq.rd0 at0 rfl rfl (O.move (v := .pointer _) rfl) ?_
  refine Seq.rd0 at1 rfl rfl (O.nilP rfl) ?_
  refine Seq.rd0 at2 rfl rfl (O.field fo_203_1 rfl) ?_
  refine Seq.rd1 at3 rfl rfl (O.load kd_201 rfl r4_1) hp ?_
  refine Seq.op at4 rfl (Op.callF rfl hb_140 C_mapsKeys_tx rfl ?_)
  rintro _ _ ⟨bb3, hbb3, rfl, rfl⟩
  refine Seq.op at5 rfl (Op.callF rfl hb_114 (C_Sorted_int64 (gf := 206) (lb := [.pointer (some ⟨bb3, 0, none⟩)]) hlen2 (by kernel_rfl) (C_keysTx hMx.int Rd.head hlm.cons) (fun _ h => Nat.le_of_eq (h.length_eq.trans (List.length_map _)))) rfl ?_)
  rintro v4 _ ⟨xs5, ys6, Ls7, hSxs5, hpys6, hoys6, hwys6, rfl⟩
  refine Ent.perm ?_ (bring (Ls := Ls7) (pre := [(bb3, _)]) (R := L)).symm
  refine Seq.rd0 at6 rfl rfl (O.assign (v := v4) rfl) ?_
  refine Seq.nil ?_
  refine hK2 ?_
  refine Cd.ret ?_
  exact hR _ _ (Res.one (v := v4) rfl rfl) ⟨ys6, Ls7, by have h9 := hpys6.trans hSxs5; rw [List.map_map] at h9; exact h9, hoys6, hwys6, rfl⟩ (.cons _ (.refl _))

theorem OwnL.rd {c : Cx} {R : List Pt} {k : I64} {q : TX} : ∀ {xl : List (I64 × TX)} {Cs : List Pt}, OwnL OneT xl Cs → alook xl k = some q →
    ∃ mb es ck, Rd c (Cs ++ R) q.1 (.cells #[.int .i64 q.2.1.t, .int .u8 q.2.1.n, .map (some mb)] 208 (0, 0)) ∧ Rd c (Cs ++ R) mb (.map es ck) ∧ MapIs keyV wV es ck q.2.2 ∧ q.2.2.length ≤ 16
  | [], _, _, h => by simp [alook] at h
  | (y, u) :: l, Cs, hC, h => by
    obtain ⟨G, C1, rfl, hO, hC1⟩ := hC
    unfold alook at h
    split at h
    · obtain rfl := Option.some.inj h
      obtain ⟨mb, es, ck, rfl, h1, h2⟩ := hO
      exact ⟨mb, es, ck, .head, Rd.head.cons, h1, h2⟩
    · obtain ⟨mb, es, ck, h1, h2, h3, h4⟩ := OwnL.rd (c := c) (R := R) hC1 h
      exact ⟨mb, es, ck, by rw [List.append_assoc]; exact h1.app, by rw [List.append_assoc]; exact h2.app, h3, h4⟩
/-- the least of the snapshots, and the last time -/
structure LeastS (xl : List (I64 × TX)) (la : Int) (s : Stamp) : Prop where
  is : s = ⟨la, 0⟩ ∨ ∃ q ∈ xl, s = q.2.2.1
  la : ¬ (⟨la, 0⟩ : Stamp).cmp s < 0
  le : ∀ q ∈ xl, ¬ q.2.2.1.cmp s < 0
structure LeastI (xl pre : List (I64 × TX)) (la : Int) (s : Stamp) : Prop where
  is : s = ⟨la, 0⟩ ∨ ∃ q ∈ xl, s = q.2.2.1
  la : ¬ (⟨la, 0⟩ : Stamp).cmp s < 0
  le : ∀ q ∈ pre, ¬ q.2.2.1.cmp s < 0
theorem LeastI.nil {xl : List (I64 × TX)} {la : Int} : LeastI xl [] la ⟨la, 0⟩ := ⟨.inl rfl, by rw [cmp_neg]; exact Stamp.lt_irrefl _, by simp⟩
theorem LeastI.keep {xl pre : List (I64 × TX)} {la : Int} {s : Stamp} {q : I64 × TX} (h : LeastI xl pre la s) (hq : ¬ q.2.2.1.cmp s < 0) : LeastI xl (pre ++ [q]) la s :=
  ⟨h.is, h.la, fun x hx => by rcases List.mem_append.1 hx with hx | hx; exact h.le x hx; rw [List.mem_singleton.1 hx]; exact hq⟩
theorem LeastI.less {xl pre : List (I64 × TX)} {la : Int} {s : Stamp} {q : I64 × TX} (h : LeastI xl pre la s) (hm : q ∈ xl) (hq : q.2.2.1.cmp s < 0) : LeastI xl (pre ++ [q]) la q.2.2.1 := by
  have hlt := (cmp_neg _ _).1 hq
  refine ⟨.inr ⟨q, hm, rfl⟩, fun h1 => h.la ((cmp_neg _ _).2 (Stamp.lt_trans ((cmp_neg _ _).1 h1) hlt)), fun x hx => ?_⟩
  rcases List.mem_append.1 hx with hx | hx
  · exact fun h1 => h.le x hx ((cmp_neg _ _).2 (Stamp.lt_trans ((cmp_neg _ _).1 h1) hlt))
  · rw [List.mem_singleton.1 hx, cmp_neg]; exact Stamp.lt_irrefl _

set_option maxRecDepth 100000 in
set_option maxHeartbeats 2000000 in
theorem C_solo_Trim {c : Cx} {L : List Pt} {p sb lm ck : Nat} {es : Array MapEntry} {L1 L2 : List Pt} {l : List (Key × CV)} {xl : List (I64 × TX)} {bg la : Int} (hSo : StOwn sb l L1) (hMx : MapIs i64V txV es ck xl) (hOx : OwnL OneT xl L2) : Fn Tryz.prog 60 #[.pointer (some ⟨p, 0, none⟩)] c ((p, .cells #[.pointer (some ⟨sb, 0, none⟩), .map (some lm), .int .i64 bg, .int .i64 la] 203 (0, 0)) :: (lm, .map es ck) :: (L1 ++ (L2 ++ L))) (fun v L' => ∃ s0 l' Ls', LeastS xl la s0 ∧ v = .int .i64 (trimS l s0) ∧ StOwn sb l' Ls' ∧ TrimR l s0 l' ∧ L' = (p, .cells #[.pointer (some ⟨sb, 0, none⟩), .map (some lm), .int .i64 bg, .int .i64 la] 203 (0, 0)) :: (lm, .map es ck) :: (Ls' ++ (L2 ++ L))) := by
  refine Fn.enter Tryz.func60 rfl 37 rfl rfl (fun R hR => ?_)
  refine Cd.seq (fun K1 hK1 => ?_)
  refine Cd.region [0] rfl ?_
  refine Seq.rd0 at0 rfl rfl (O.assign (v := .int .i64 _) rfl) ?_
  refine Seq.nil ?_
  refine hK1 ?_
  refine Cd.seq (fun K2 hK2 => ?_)
  refine Cd.region [0, 1, 2, 3, 4, 5, 6] rfl ?_
  refine Seq.rd0 at0 rfl rfl (O.move (v := .pointer _) rfl) ?_
  refine Seq.rd0 at1 rfl rfl (O.nilP rfl) ?_
  refine Seq.rd0 at2 rfl rfl (O.field fo_203_3 rfl) ?_
  refine Seq.rd1 at3 rfl rfl (O.load kd_2 rfl r4_3) Rd.head ?_
  refine Seq.rd0 at4 rfl rfl (O.build rfl (cs := (Stamp_enc (⟨la, 0⟩ : Stamp))) (by kernel_rfl)) ?_
  refine Seq.op at5 rfl (Op.new rfl (O.alloc zo_24 (cs := (Stamp_enc Stamp.zero)) rfl) ?_)
  intro b3 hb3
  refine Seq.op at6 rfl (Op.set0 rfl (O.store kd_24 rfl (v := .agg _) rfl (Stamp_size _) (Stamp_room (Stamp_size _)) (Stamp_one _) (Stamp_put _ (Stamp_size _))) ?_)
  refine Seq.nil ?_
  refine hK2 ?_
  refine Cd.seq (fun K4 hK4 => ?_)
  refine Cd.seq (fun K5 hK5 => ?_)
  refine Cd.region [0, 1, 2, 3, 4] rfl ?_
  refine Seq.rd0 at0 rfl rfl (O.move (v := .pointer _) rfl) ?_
  refine Seq.rd0 at1 rfl rfl (O.nilP rfl) ?_
  refine Seq.rd0 at2 rfl rfl (O.field fo_203_1 rfl) ?_
  refine Seq.rd1 at3 rfl rfl (O.load kd_201 rfl r4_1) Rd.head.cons ?_
  refine Seq.op at4 rfl (Op.gen rfl (O.range mp_201 hMx rfl (Rd.head.cons.cons)) ?_)
  rintro _ _ ⟨r, it, hr0, rfl, hi, rfl⟩
  refine Seq.nil ?_
  refine hK5 ?_
  refine Cd.block ?_
  refine Cd.loop (fun m6 e7 L8 => ∃ pre : List (I64 × TX), ∃ rest : List (I64 × TX), ∃ it : Obj, ∃ s0 : Stamp, m6 = rest.length ∧ e7 0 = .pointer (some ⟨p, 0, none⟩) ∧ e7 2 = .int .i64 0 ∧ e7 3 = .pointer (some ⟨b3, 0, none⟩) ∧ e7 15 = .pointer (some ⟨r, 0, none⟩) ∧ L8 = (r, it) :: (b3, .cells (Stamp_enc s0) 24 (0, 0)) :: (p, .cells #[.pointer (some ⟨sb, 0, none⟩), .map (some lm), .int .i64 bg, .int .i64 la] 203 (0, 0)) :: (lm, .map es ck) :: (L1 ++ ((L2 ++ (L)))) ∧ ItIs i64V txV es ck lm rest it ∧ (pre ++ rest).Perm xl ∧ LeastI xl pre la s0) _ ⟨[], xl, it, ⟨la, 0⟩, rfl, rfl, rfl, rfl, rfl, rfl, hi, by exact .refl _, LeastI.nil⟩ ?_
  rintro _ e7 _ ⟨pre, rest, it, s0, rfl, s9, s10, s11, s12, rfl, hi, hp, hz⟩ K13 hK13
  refine Cd.seq (fun K14 hK14 => ?_)
  refine Cd.region [0, 1] rfl ?_
  refine Seq.op at0 rfl (Op.gen rfl (O.next hMx hi (by exact s12) Rd.head.cons.cons.cons) ?_)
  rintro _ _ (⟨rfl, rfl, rfl⟩ | ⟨a, u, rest', it', hpm, rfl, hi', hent, rfl⟩)
  · skip
    refine Seq.rd0 at1 rfl rfl (O.ext rfl r1_0) ?_
    refine Seq.nil ?_
    refine hK14 ?_
    refine Cd.seq (fun K15 hK15 => ?_)
    refine Cd.condF rfl ?_
    refine Cd.exit ?_
    refine hK4 ?_
    refine Cd.seq (fun K16 hK16 => ?_)
    refine Cd.draw 7 rfl po ?_
    refine Any.rd0 0 at0 rfl rfl (O.move (v := .pointer _) (by exact s9)) (by kernel_rfl) (by kernel_rfl) (by kernel_rfl) ?_
    refine Any.rd0 1 at1 rfl rfl (O.nilP rfl) (by kernel_rfl) (by kernel_rfl) (by kernel_rfl) ?_
    refine Any.rd0 2 at2 rfl rfl (O.field fo_203_0 rfl) (by kernel_rfl) (by kernel_rfl) (by kernel_rfl) ?_
    refine Any.rd1 3 at3 rfl rfl (O.load kd_137 rfl r4_0) Rd.head.cons.cons (by kernel_rfl) (by kernel_rfl) (by kernel_rfl) ?_
    refine Any.rd1 4 at4 rfl rfl (O.loadA kd_24 (by exact s11) (Nat.le_of_ble_eq_true rfl) (Stamp_all _)) Rd.head.cons (by kernel_rfl) (by kernel_rfl) (by kernel_rfl) ?_
    refine Any.one 5 at5 rfl (by kernel_rfl) ⟨⟨trivial, Rd.head.cons.cons⟩, Rd.head.cons⟩ ?_
    refine Op.callF rfl hb_139 (Fn.perm (C_store_Trim (R := ((r, _) :: (b3, _) :: (p, _) :: (lm, _) :: []) ++ (L2 ++ (L))) (s := s0) hSo) (bring (pre := ((r, _) :: (b3, _) :: (p, _) :: (lm, _) :: [])) (Ls := L1) (R := (L2 ++ (L))))) rfl ?_
    rintro _ _ ⟨rfl, l3, L3, hS3, hT3, rfl⟩
    refine Ent.perm ?_ (bring (Ls := L3) (pre := ((r, _) :: (b3, _) :: (p, _) :: (lm, _) :: [])) (R := (L2 ++ (L)))).symm
    refine Any.toK ?_
    refine Any.rd0 6 at6 rfl rfl (O.assign (v := .int .i64 _) rfl) (by kernel_rfl) (by kernel_rfl) (by kernel_rfl) ?_
    refine Any.done (by kernel_rfl) ⟨⟨trivial, Rd.head.cons.cons⟩, Rd.head.cons⟩ ?_
    refine hK16 ?_
    refine Cd.ret ?_
    have hpx : pre.Perm xl := by simpa using hp
    exact hR _ _ (Res.one (v := .int .i64 _) rfl rfl) ⟨s0, l3, L3, ⟨hz.is, hz.la, fun q hq => hz.le q (hpx.mem_iff.2 hq)⟩, rfl, hS3, hT3, rfl⟩ (.cons _ (.cons _ (.refl _)))
  · skip
    refine Seq.rd0 at1 rfl rfl (O.ext rfl r3_0) ?_
    refine Seq.nil ?_
    refine hK14 ?_
    refine Cd.seq (fun K17 hK17 => ?_)
    refine Cd.condT rfl ?_
    refine Cd.skip ?_
    refine hK17 ?_
    refine Cd.block ?_
    refine Cd.seq (fun K18 hK18 => ?_)
    refine Cd.region [0, 1, 2] rfl ?_
    refine Seq.op at0 rfl (Op.gen rfl (hent _ _ (by exact s12) Rd.head Rd.head.cons.cons.cons) ?_)
    rintro _ _ ⟨rfl, rfl⟩
    have hqm := permQ hp hpm
    obtain ⟨mbx, esx, ckx, hxr, _, _, _⟩ := hOx.rd (c := c) (R := L) (alook_of_mem hMx.keys hqm)
    refine Seq.rd0 at1 rfl rfl (O.ext rfl r2_1) ?_
    refine Seq.rd0 at2 rfl rfl (O.assign (v := .pointer _) rfl) ?_
    refine Seq.nil ?_
    refine hK18 ?_
    refine Cd.seq (fun K19 hK19 => ?_)
    refine Cd.draw 7 rfl po ?_
    refine Any.rd0 0 at0 rfl rfl (O.move (v := .pointer _) rfl) (by kernel_rfl) (by kernel_rfl) (by kernel_rfl) ?_
    refine Any.rd0 1 at1 rfl rfl (O.nilP rfl) (by kernel_rfl) (by kernel_rfl) (by kernel_rfl) ?_
    refine Any.rd0 2 at2 rfl rfl (O.field fo_208_0 rfl) (by kernel_rfl) (by kernel_rfl) (by kernel_rfl) ?_
    refine Any.rd1 3 at3 rfl rfl (O.loadA kd_24 rfl (Nat.le_of_ble_eq_true rfl) rfl) hxr.app.cons.cons.cons.cons (by kernel_rfl) (by kernel_rfl) (by kernel_rfl) ?_
    refine Any.rd1 4 at4 rfl rfl (O.loadA kd_24 (by exact s11) (Nat.le_of_ble_eq_true rfl) (Stamp_all _)) Rd.head.cons (by kernel_rfl) (by kernel_rfl) (by kernel_rfl) ?_
    refine Any.one 5 at5 rfl (by kernel_rfl) ⟨⟨trivial, hxr.app.cons.cons.cons.cons⟩, Rd.head.cons⟩ ?_
    refine Op.callF rfl hb_132 C_stamp_Cmp rfl ?_
    rintro _ _ ⟨rfl, rfl⟩
    refine Any.toK ?_
    refine Any.rd0 6 at6 rfl rfl (O.lss rfl rfl) (by kernel_rfl) (by kernel_rfl) (by kernel_rfl) ?_
    refine Any.done (by kernel_rfl) ⟨⟨trivial, hxr.app.cons.cons.cons.cons⟩, Rd.head.cons⟩ ?_
    refine hK19 ?_
    refine Cd.if (((u.2.1).cmp s0) < 0) rfl (fun t20 => ?_) (fun t20 => ?_)
    · skip
      refine Cd.region [0, 1, 2, 3, 4] rfl ?_
      refine Seq.rd0 at0 rfl rfl (O.move (v := .pointer _) rfl) ?_
      refine Seq.rd0 at1 rfl rfl (O.nilP rfl) ?_
      refine Seq.rd0 at2 rfl rfl (O.field fo_208_0 rfl) ?_
      refine Seq.rd1 at3 rfl rfl (O.loadA kd_24 rfl (Nat.le_of_ble_eq_true rfl) rfl) hxr.app.cons.cons.cons.cons ?_
      refine Seq.op at4 rfl (Op.set1 rfl (O.store kd_24 (by exact s11) (v := .agg _) rfl (Stamp_size _) (Stamp_room (Stamp_size _)) (Stamp_one _) (Stamp_put _ (Stamp_size _))) ?_)
      refine Seq.nil ?_
      exact hK13 _ (step_dec hpm) ⟨pre ++ [(a, u)], rest', it', u.2.1, rfl, (by exact s9), (by exact s10), (by exact s11), (by exact s12), rfl, hi', permM hp hpm, hz.less hqm (by assumption)⟩
    · skip
      refine Cd.skip ?_
      exact hK13 _ (step_dec hpm) ⟨pre ++ [(a, u)], rest', it', s0, rfl, (by exact s9), (by exact s10), (by exact s11), (by exact s12), rfl, hi', permM hp hpm, hz.keep (by assumption)⟩

end Go.X

namespace Go.X
open Go.Proofs

/-! ## solo as one thing that is ours -/
def putS (xl : List (I64 × TX)) (ti : I64) (x : Write) : Int := match alook xl ti with
  | none => 4
  | some q => putX q.2.2 x
def afterS (xl : List (I64 × TX)) (ti : I64) (x : Write) : List (I64 × TX) := match alook xl ti with
  | none => xl
  | some q => aput xl ti (q.1, (q.2.1, afterX q.2.2 x))
theorem afterX_len {ws : List (Key × Write)} {x : Write} (h : ws.length ≤ 16) : (afterX ws x).length ≤ 16 := by
  unfold afterX
  split
  · rename_i h0
    unfold putX at h0
    split at h0
    · cases h0
    · split at h0
      · cases h0
      · rename_i h1
        cases hl : alook ws x.key with
        | some u => rw [(aput_keep hl).2.1]; exact h
        | none =>
          have : ws.length < 16 := by
            rcases Nat.lt_or_ge ws.length 16 with h2 | h2
            · exact h2
            · exact absurd ⟨hl, h2⟩ h1
          rw [aput_length]; split <;> omega
  · exact h
section
variable {c : Cx} {R Ls : List Pt} {p : Nat} {l : List (Key × CV)} {xl : List (I64 × TX)} {bg la : Int} {ti : I64}
theorem SoOwn.keys (hS : SoOwn p l xl bg la Ls) : (xl.map Prod.fst).Nodup := by
  obtain ⟨⟨sb, lm, es, ck, L1, L2, rfl, h1, h2, h3⟩, h4, h5, h6⟩ := hS
  exact h2.keys
theorem perm4 {X G L1 C1 C2 R : List Pt} (h : (G ++ C1).Perm C2) : (X ++ (G ++ (L1 ++ (C1 ++ R)))).Perm (X ++ (L1 ++ (C2 ++ R))) := List.Perm.append_left X (perm3 h)
theorem perm5 {a b : Pt} {G L1 C1 C2 R : List Pt} (h : (G ++ C1).Perm C2) : (a :: b :: (G ++ (L1 ++ (C1 ++ R)))).Perm ((a :: b :: (L1 ++ C2)) ++ R) := by
  simpa using perm4 (X := [a, b]) (L1 := L1) (R := R) h
theorem perm6 {a b : Pt} {G L1 C1 C2 R : List Pt} (h : C2.Perm (G ++ C1)) : (a :: b :: (L1 ++ (C2 ++ R))).Perm (a :: b :: (G ++ (L1 ++ (C1 ++ R)))) := by
  simpa using (perm4 (X := [a, b]) (L1 := L1) (R := R) h.symm).symm
theorem Fn.weak {P : Program} {f : FuncId} {args : Array Value} {c : Cx} {L : List Pt} {post post' : Value → List Pt → Prop} (h : Fn P f args c L post)
    (hp : ∀ v L', post v L' → ∃ L'', post' v L'' ∧ ∃ L3, L'.Perm L3 ∧ L''.Sublist L3) : Fn P f args c L post' := fun w hw => (h w hw).mono fun x w' ⟨v, h1, L', h2, h3⟩ => by
  obtain ⟨L'', h4, L3, h5, h6⟩ := hp v L' h2
  exact ⟨v, h1, L'', h4, (h3.perm h5).sub h6⟩
theorem C_So_Begin (hS : SoOwn p l xl bg la Ls) (hti : ti.1 = bg + 1) (hlen : xl.length < 100) (hbg : bg < 1000000) :
    Fn Tryz.prog 53 #[.pointer (some ⟨p, 0, none⟩)] c (Ls ++ R) (fun v L' => v = .tuple #[.int .i64 (bg + 1), .int .i64 0] ∧ ∃ xb Ls', SoOwn p l (aput xl ti (xb, (⟨la, 0⟩, []))) (bg + 1) la Ls' ∧ L' = Ls' ++ R) := by
  obtain ⟨⟨sb, lm, es, ck, L1, L2, rfl, h1, h2, h3⟩, h4, h5, h6⟩ := hS
  simp only [List.cons_append, List.append_assoc]
  refine Fn.post (C_solo_Begin_own (L := R) h1 h2 hti hlen ⟨h5.1, hbg⟩) ?_
  rintro v L' ⟨hv, xb, mb, es3, ck3, hm3, hL⟩
  have hn : alook xl ti = none := by
    cases hl : alook xl ti with
    | none => rfl
    | some q => have := h6 _ (alook_mem hl); simp only at this; omega
  obtain ⟨Cs', hc1, hc2⟩ := OwnL.new (O := OneT) (q := (xb, (⟨la, 0⟩, []))) (G := [(xb, .cells #[.int .i64 la, .int .u8 0, .map (some mb)] 208 (0, 0)), (mb, .map #[] 0)]) ⟨mb, #[], 0, rfl, MapIs.nil, by simp⟩ h3 hn
  refine ⟨_, ⟨hv, xb, _, ⟨⟨sb, lm, es3, ck3, L1, Cs', rfl, h1, hm3, hc1⟩, ?_, by omega, fun q hq => ?_⟩, rfl⟩, ?_⟩
  · rw [aput_length]; split <;> omega
  · have h7 := (aput_keys ti _ xl q.1).1 (List.mem_map.2 ⟨q, hq, rfl⟩)
    rcases h7 with h7 | h7
    · rw [h7]; omega
    · obtain ⟨r, hr, he⟩ := List.mem_map.1 h7
      have := h6 r hr; rw [he] at this; omega
  · rw [hL]
    simpa using perm3 (X := (p, _) :: (lm, _) :: L1) (R := R) hc2
theorem C_So_Put {x : Write} (hS : SoOwn p l xl bg la Ls) :
    Fn Tryz.prog 54 #[.pointer (some ⟨p, 0, none⟩), .int .i64 ti.1, .agg (Write_enc x)] c (Ls ++ R) (fun v L' => v = .int .i64 (putS xl ti x) ∧ ∃ Ls', SoOwn p l (afterS xl ti x) bg la Ls' ∧ L' = Ls' ++ R) := by
  obtain ⟨⟨sb, lm, es, ck, L1, L2, rfl, h1, h2, h3⟩, h4, h5, h6⟩ := hS
  simp only [List.cons_append, List.append_assoc]
  unfold putS afterS
  cases hl : alook xl ti with
  | none =>
    refine Fn.mono (C_solo_Put_none (L := R) h1 h2 hl) ?_
    rintro v L' ⟨hv, hL⟩
    exact ⟨hv, _, ⟨⟨sb, lm, es, ck, L1, L2, rfl, h1, h2, h3⟩, h4, h5, h6⟩, by rw [hL]; simp⟩
  | some q =>
    obtain ⟨G, C1, hp, ⟨mb, es9, ck9, rfl, hM, h16⟩, hb, _⟩ := OwnL.take h3 hl
    refine Fn.perm (L2 := (p, _) :: (lm, _) :: (_ :: _ :: (L1 ++ (C1 ++ R)))) ?_ (perm4 (X := [(p, _), (lm, _)]) hp.symm).symm
    refine Fn.post (C_solo_Put_some (L := R) h1 h2 hl hM h16) ?_
    rintro v L' ⟨hv, es3, ck3, hm3, hL⟩
    obtain ⟨Cs', hc1, hc2⟩ := hb (q.1, (q.2.1, afterX q.2.2 x)) _ ⟨mb, es3, ck3, rfl, hm3, afterX_len h16⟩
    have hk := aput_keep (u := (q.1, (q.2.1, afterX q.2.2 x))) hl
    refine ⟨_, ⟨hv, _, ⟨⟨sb, lm, es, ck, L1, Cs', rfl, h1, h2.upd hl rfl, hc1⟩, by rw [hk.2.1]; exact h4, h5, fun r hr => ?_⟩, rfl⟩, ?_⟩
    · have h7 : r.1 ∈ xl.map Prod.fst := by rw [← hk.1]; exact List.mem_map.2 ⟨r, hr, rfl⟩
      obtain ⟨r2, hr2, he⟩ := List.mem_map.1 h7
      have := h6 r2 hr2; rw [he] at this; exact this
    · rw [hL]
      exact perm5 hc2
theorem C_So_Commit (hS : SoOwn p l xl bg la Ls) (hla : la < 1000000) :
    Fn Tryz.prog 56 #[.pointer (some ⟨p, 0, none⟩), .int .i64 ti.1] c (Ls ++ R) (fun v L' => ∃ r e l' la' Ls', v = .tuple #[.agg (Stamp_enc r), .int .i64 e] ∧ SoOwn p l' (adel xl ti) bg la' Ls' ∧
      (match alook xl ti with
      | none => r = .zero ∧ e = 4 ∧ l' = l ∧ la' = la
      | some q => ComX l la q.2.1 q.2.2 r e l' la') ∧ L' = Ls' ++ R) := by
  have hnd := hS.keys
  obtain ⟨⟨sb, lm, es, ck, L1, L2, rfl, h1, h2, h3⟩, h4, h5, h6⟩ := hS
  simp only [List.cons_append, List.append_assoc]
  have hlen := (adel_sub ti xl).length_le
  have hids : ∀ q ∈ adel xl ti, q.1.1 ≤ bg := fun q hq => h6 q ((adel_sub ti xl).subset hq)
  cases hl : alook xl ti with
  | none =>
    have hd : adel xl ti = xl := by
      refine (alook_none ?_).2.2
      intro hm
      obtain ⟨q, hq, rfl⟩ := List.mem_map.1 hm
      rw [alook_of_mem hnd hq] at hl; cases hl
    refine Fn.mono (C_solo_Commit_none (L := R) h1 h2 hl) ?_
    rintro v L' ⟨hv, hL⟩
    exact ⟨_, _, _, _, _, hv, ⟨⟨sb, lm, es, ck, L1, L2, rfl, h1, hd.symm ▸ h2, hd.symm ▸ h3⟩, by omega, h5, hids⟩, ⟨rfl, rfl, rfl, rfl⟩, by rw [hL]; simp⟩
  | some q =>
    obtain ⟨G, C1, hp, ⟨mb, es9, ck9, rfl, hM, h16⟩, _, Cd, hc1, hc2⟩ := OwnL.take h3 hl
    refine Fn.perm (L2 := (p, _) :: (lm, _) :: (_ :: _ :: (L1 ++ (C1 ++ R)))) ?_ (perm4 (X := [(p, _), (lm, _)]) hp.symm).symm
    refine Fn.post (C_solo_Commit_some (L := R) h1 h2 hl hM h16 ⟨h5.2.2.1, hla⟩) ?_
    rintro v L' ⟨r, e, l', la', es3, Ls', hv, hm3, hs3, hcom, hL⟩
    have hla' : 0 ≤ la' ∧ la' ≤ 1000000 := by
      rcases hcom with ⟨_, _, _, _, h⟩ | ⟨_, _, _, _, _, h⟩ | ⟨_, _, _, _, _, h8, h9, h10⟩
      · omega
      · omega
      · by_cases he : e = 0
        · have := (h10 he).2.1; omega
        · have := (h9 he).2.2; omega
    refine ⟨_, ⟨r, e, l', la', _, hv, ⟨⟨sb, lm, es3, ck, Ls', Cd, rfl, hs3, hm3, hc1⟩, by omega, ⟨h5.1, h5.2.1, hla'⟩, hids⟩, hcom, rfl⟩, ?_⟩
    rw [hL]
    exact perm5 (G := []) hc2
theorem C_So_Abort (hS : SoOwn p l xl bg la Ls) :
    Fn Tryz.prog 130 #[.pointer (some ⟨p, 0, none⟩), .int .i64 ti.1] c (Ls ++ R) (fun v L' => v = .int .i64 (if (alook xl ti).isSome then 0 else 4) ∧ ∃ Ls', SoOwn p l (adel xl ti) bg la Ls' ∧ L' = Ls' ++ R) := by
  have hnd := hS.keys
  obtain ⟨⟨sb, lm, es, ck, L1, L2, rfl, h1, h2, h3⟩, h4, h5, h6⟩ := hS
  simp only [List.cons_append, List.append_assoc]
  have hlen := (adel_sub ti xl).length_le
  have hids : ∀ q ∈ adel xl ti, q.1.1 ≤ bg := fun q hq => h6 q ((adel_sub ti xl).subset hq)
  cases hl : alook xl ti with
  | none =>
    have hd : adel xl ti = xl := by
      refine (alook_none ?_).2.2
      intro hm
      obtain ⟨q, hq, rfl⟩ := List.mem_map.1 hm
      rw [alook_of_mem hnd hq] at hl; cases hl
    refine Fn.mono (C_solo_Abort_none (L := R) h1 h2 hl) ?_
    rintro v L' ⟨hv, hL⟩
    exact ⟨hv, _, ⟨⟨sb, lm, es, ck, L1, L2, rfl, h1, hd.symm ▸ h2, hd.symm ▸ h3⟩, by omega, h5, hids⟩, by rw [hL]; simp⟩
  | some q =>
    obtain ⟨G, C1, hp, hO, _, Cd, hc1, hc2⟩ := OwnL.take h3 hl
    refine Fn.weak (C_solo_Abort_some (L := R) h1 h2 hl) ?_
    rintro v _ ⟨hv, es3, hm3, rfl⟩
    refine ⟨_, ⟨hv, _, ⟨⟨sb, lm, es3, ck, L1, Cd, rfl, h1, hm3, hc1⟩, by omega, h5, hids⟩, rfl⟩, _, perm6 (hp.trans (hc2.append_left G)), ?_⟩
    simp
theorem C_So_Trim (hS : SoOwn p l xl bg la Ls) :
    Fn Tryz.prog 60 #[.pointer (some ⟨p, 0, none⟩)] c (Ls ++ R) (fun v L' => ∃ s0 l' Ls', LeastS xl la s0 ∧ v = .int .i64 (trimS l s0) ∧ SoOwn p l' xl bg la Ls' ∧ TrimR l s0 l' ∧ L' = Ls' ++ R) := by
  obtain ⟨⟨sb, lm, es, ck, L1, L2, rfl, h1, h2, h3⟩, h4, h5, h6⟩ := hS
  simp only [List.cons_append, List.append_assoc]
  refine Fn.mono (C_solo_Trim (L := R) h1 h2 h3) ?_
  rintro v L' ⟨s0, l', Ls', ha, hb, hc, hd, hL⟩
  exact ⟨s0, l', _, ha, hb, ⟨⟨sb, lm, es, ck, Ls', L2, rfl, hc, h2, h3⟩, h4, h5, h6⟩, hd, by rw [hL]; simp⟩
theorem C_So_Open (hS : SoOwn p l xl bg la Ls) :
    Fn Tryz.prog 62 #[.pointer (some ⟨p, 0, none⟩)] c (Ls ++ R) (fun v L' => ∃ ys Lo, ys.Perm (xl.map fun q => q.1.1) ∧ ys.Pairwise (· ≤ ·) ∧ OwnI ys v Lo ∧ L' = Lo ++ (Ls ++ R)) := by
  obtain ⟨⟨sb, lm, es, ck, L1, L2, rfl, h1, h2, h3⟩, h4, h5, h6⟩ := hS
  exact C_solo_Open (L := _ :: (lm, .map es ck) :: ((L1 ++ L2) ++ R)) .head Rd.head.cons h2 (by omega)
theorem C_So_Last (hS : SoOwn p l xl bg la Ls) : Fn Tryz.prog 63 #[.pointer (some ⟨p, 0, none⟩)] c (Ls ++ R) (fun v L' => v = .int .i64 la ∧ L' = Ls ++ R) := by
  obtain ⟨⟨sb, lm, es, ck, L1, L2, rfl, h1, h2, h3⟩, h4, h5, h6⟩ := hS
  exact C_solo_Last (L := _ :: (lm, .map es ck) :: ((L1 ++ L2) ++ R)) .head
end

end Go.X

/- Acts upon solo: plain. -/
namespace Go.X
structure SAct where
  op : Int
  n : Int
  id : Int
  w : Write
  to : Key
deriving DecidableEq
def SAct_enc (a : SAct) : Array Value := #[.int .i64 a.op, .int .i64 a.n, .int .i64 a.id, kc a.w.key 0, kc a.w.key 1, kc a.w.key 2, kc a.w.key 3, kc a.w.key 4, kc a.w.key 5, kc a.w.key 6, kc a.w.key 7, kc a.w.key 8, kc a.w.key 9, kc a.w.key 10, kc a.w.key 11, kc a.w.key 12, kc a.w.key 13, kc a.w.key 14, kc a.w.key 15, .string a.w.val, .bool a.w.gone, kc a.to 0, kc a.to 1, kc a.to 2, kc a.to 3, kc a.to 4, kc a.to 5, kc a.to 6, kc a.to 7, kc a.to 8, kc a.to 9, kc a.to 10, kc a.to 11, kc a.to 12, kc a.to 13, kc a.to 14, kc a.to 15]
theorem SAct_size (a : SAct) : (SAct_enc a).size = 37 := rfl
theorem SAct_op (a : SAct) : (SAct_enc a)[0]? = some (.int .i64 a.op) := rfl
theorem SAct_id (a : SAct) : (SAct_enc a)[2]? = some (.int .i64 a.id) := rfl
theorem SAct_w (a : SAct) : (SAct_enc a).extract 3 (3 + 18) = Write_enc a.w := by kernel_rfl
theorem SAct_one (a : SAct) : ∀ u ∈ (Value.agg (SAct_enc a)).cells.toList, Value.oneCell' u = true := by
  intro u hu
  simp only [Value.cells, SAct_enc, List.mem_cons, List.not_mem_nil, or_false] at hu
  rcases hu with rfl | rfl | rfl | rfl | rfl | rfl | rfl | rfl | rfl | rfl | rfl | rfl | rfl | rfl | rfl | rfl | rfl | rfl | rfl | rfl | rfl | rfl | rfl | rfl | rfl | rfl | rfl | rfl | rfl | rfl | rfl | rfl | rfl | rfl | rfl | rfl | rfl <;> rfl
theorem SAct_put (a : SAct) {cs : Array Value} (h : cs.size = 37) : putL cs 0 (Value.agg (SAct_enc a)).cells.toList = SAct_enc a := putL_whole (h.trans (SAct_size a).symm)
theorem SAct_room {cs : Array Value} (h : cs.size = 37) : 0 + 37 ≤ cs.size := by omega
def SAct.zero : SAct := ⟨0, 0, 0, .zero, .zero⟩
end Go.X
