/- Part 2 of the proofs over this program: what its functions compute. -/
import Derived.Test.YthifdialndcemaaGreatProg
import Derived.Maps.RangeRun
import Derived.RangeFuncLeaves
import Derived.Test.YthifdialndcemaaGreatS1
set_option linter.unusedVariables false
set_option linter.unusedSimpArgs false

namespace Go.X
open Go.Proofs
theorem ds_239 : isDesc Tryz.prog 239 = 5 := by kernel_rfl
theorem hb_248 : hasBody Tryz.prog 248 = true := by kernel_rfl
theorem io_3 : intOf? Tryz.prog 3 = some .i64 := by kernel_rfl
theorem io_307 : intOf? Tryz.prog 307 = some .u64 := by kernel_rfl
theorem kd_242 : kindOf Tryz.prog 242 = some (true, 4) := by kernel_rfl
theorem sl_239 : sliceOf Tryz.prog 239 = some (242, 4) := by kernel_rfl
theorem getN {α : Type} {l : List α} {i : Nat} (h : i < l.length) : l[((i : Nat) : Int).toNat]? = some l[i] := by
  rw [Int.toNat_natCast]; exact List.getElem?_eq_getElem h
theorem bs_up {vs : List Version} {s : Stamp} (hs : Sorted vs) {h : Nat} (hl : h < vs.length) (hc : vs[h].stamp.cmp s < 0) (k : Nat) (hk : k < h + 1) (hkl : k < vs.length) : vs[k].stamp.cmp s < 0 := by
  rcases Nat.lt_or_ge k h with h1 | h1
  · exact (cmp_neg _ _).2 (Stamp.lt_trans (sorted_get hs h1 hl) ((cmp_neg _ _).1 hc))
  · obtain rfl : k = h := by omega
    exact hc
theorem bs_down {vs : List Version} {s : Stamp} (hs : Sorted vs) {h : Nat} (hl : h < vs.length) (hc : ¬ vs[h].stamp.cmp s < 0) (k : Nat) (hk : h ≤ k) (hkl : k < vs.length) : ¬ vs[k].stamp.cmp s < 0 := by
  rcases Nat.lt_or_ge h k with h1 | h1
  · intro h2
    exact hc ((cmp_neg _ _).2 (Stamp.lt_trans (sorted_get hs h1 hkl) ((cmp_neg _ _).1 h2)))
  · obtain rfl : k = h := by omega
    exact hc
theorem bs_end {vs : List Version} {s : Stamp} (hs : Sorted vs) {i j : Nat} (hij : i ≤ j) (hj : j ≤ vs.length) (hn : ¬ (i : Int) < (j : Int))
    (hlo : ∀ k (_ : k < i) (h : k < vs.length), vs[k].stamp.cmp s < 0) (hhi : ∀ k (_ : j ≤ k) (h : k < vs.length), ¬ vs[k].stamp.cmp s < 0) :
    i = below vs s ∧ hasS vs s = (if h : i < vs.length then decide (vs[i].stamp.cmp s = 0) else false) := by
  have hb := below_eq (vs := vs) (s := s) (i := i) (by omega) (fun k hk => hlo k hk (by omega)) (fun h => hhi i (by omega) h)
  refine ⟨hb.symm, ?_⟩
  rw [hasS_eq hs, hb]
  split
  · rename_i h
    rw [Bool.eq_iff_iff]
    simp only [decide_eq_true_eq]
    rw [cmp_zero]
  · rfl

set_option maxRecDepth 100000 in
set_option maxHeartbeats 2000000 in
theorem C_BinarySearch {c : Cx} {L : List Pt} {a cap : Nat} {vs : List Version} {s : Stamp} {sp : Array Value} {el : TypeId} {fz : Nat × Nat} (hs : Sorted vs) (hn : vs.length < 4611686018427387904) (ha : Rd c L a (.cells (rows Version_enc vs ++ sp) el fz)) : Fn Tryz.prog 247 #[.slice (some ⟨a, 0, none⟩) vs.length cap, .agg (Stamp_enc s), .func (.func 248) #[] #[]] c L (fun v L' => v = .tuple #[.int .i64 (below vs s : Nat), .bool (hasS vs s)] ∧ L' = L) := by
  refine Fn.enter Tryz.func247 rfl 49 rfl rfl (fun R hR => ?_)
  refine Cd.seq (fun K1 hK1 => ?_)
  refine Cd.region [0, 1, 2] rfl ?_
  refine Seq.op at0 rfl (Op.new rfl (O.box (v := .agg _) rfl (cs := (Stamp_enc s)) rfl) ?_)
  intro b2 hb2
  refine Seq.rd0 at1 rfl rfl (O.assign (v := .int .i64 _) rfl) ?_
  refine Seq.rd0 at2 rfl rfl (O.assign (v := .bool _) rfl) ?_
  refine Seq.nil ?_
  refine hK1 ?_
  refine Cd.seq (fun K3 hK3 => ?_)
  refine Cd.region [0, 1, 2] rfl ?_
  refine Seq.rd0 at0 rfl rfl (O.move (v := .slice _ _ _) rfl) ?_
  refine Seq.rd0 at1 rfl rfl (O.lenS ds_239 rfl) ?_
  refine Seq.rd0 at2 rfl rfl (O.assign (v := .int .i64 _) rfl) ?_
  refine Seq.nil ?_
  refine hK3 ?_
  refine Cd.seq (fun K4 hK4 => ?_)
  refine Cd.region [0, 1, 2] rfl ?_
  refine Seq.rd0 at0 rfl rfl (O.move (v := .int .i64 _) rfl) ?_
  refine Seq.rd0 at1 rfl rfl (O.assign (v := .int .i64 _) rfl) ?_
  refine Seq.rd0 at2 rfl rfl (O.assign (v := .int .i64 _) rfl) ?_
  refine Seq.nil ?_
  refine hK4 ?_
  refine Cd.seq (fun K5 hK5 => ?_)
  refine Cd.block ?_
  refine Cd.loop (fun m6 e7 L8 => ∃ i : Nat, ∃ j : Nat, m6 = j - i ∧ e7 0 = .slice (some ⟨a, 0, none⟩) vs.length cap ∧ e7 2 = .func (.func 248) #[] #[] ∧ e7 4 = .pointer (some ⟨b2, 0, none⟩) ∧ e7 6 = .int .i64 0 ∧ e7 7 = .bool false ∧ e7 8 = .int .i64 (vs.length : Int) ∧ e7 9 = .int .i64 (i : Int) ∧ e7 10 = .int .i64 (j : Int) ∧ L8 = (b2, .cells (Stamp_enc s) 24 (0, 0)) :: L ∧ i ≤ j ∧ j ≤ vs.length ∧ (∀ k (_ : k < i) (h : k < vs.length), vs[k].stamp.cmp s < 0) ∧ (∀ k (_ : j ≤ k) (h : k < vs.length), ¬ vs[k].stamp.cmp s < 0)) _ ⟨0, vs.length, rfl, rfl, rfl, rfl, rfl, rfl, rfl, rfl, rfl, rfl, Nat.zero_le _, Nat.le_refl _, fun k hk => absurd hk (by omega), fun k hk h => absurd hk (by omega)⟩ ?_
  rintro _ e7 _ ⟨i, j, rfl, s9, s10, s11, s12, s13, s14, s15, s16, rfl, hij, hj, hlo, hhi⟩ K17 hK17
  refine Cd.seq (fun K18 hK18 => ?_)
  refine Cd.seq (fun K19 hK19 => ?_)
  refine Cd.region [0, 1, 2] rfl ?_
  refine Seq.rd0 at0 rfl rfl (O.move (v := .int .i64 _) (by exact s15)) ?_
  refine Seq.rd0 at1 rfl rfl (O.move (v := .int .i64 _) (by exact s16)) ?_
  refine Seq.rd0 at2 rfl rfl (O.lss rfl rfl) ?_
  refine Seq.nil ?_
  refine hK19 ?_
  refine Cd.if ((i : Int) < (j : Int)) rfl (fun t20 => ?_) (fun t20 => ?_)
  · skip
    refine Cd.skip ?_
    refine hK18 ?_
    refine Cd.block ?_
    refine Cd.seq (fun K21 hK21 => ?_)
    refine Cd.region [0, 1, 2, 3, 4, 5, 6] rfl ?_
    refine Seq.rd0 at0 rfl rfl (O.move (v := .int .i64 _) (by exact s15)) ?_
    refine Seq.rd0 at1 rfl rfl (O.move (v := .int .i64 _) (by exact s16)) ?_
    refine Seq.rd0 at2 rfl rfl (O.add rfl rfl (by omega) (by omega)) ?_
    refine Seq.rd0 at3 rfl rfl (O.conv io_3 io_307 rfl (by omega) (by simp only [IntKind.bits]; omega)) ?_
    refine Seq.rd0 at4 rfl rfl (O.shr1 rfl rfl) ?_
    refine Seq.rd0 at5 rfl rfl (O.conv io_307 io_3 rfl (by omega) (by simp only [IntKind.bits]; omega)) ?_
    have hlt : (i + j) / 2 < vs.length := by omega
    refine Seq.rd0 at6 rfl rfl (O.assign (v := .int .i64 (((i + j) / 2 : Nat) : Int)) (by rw [show (((i + j) / 2 : Nat) : Int) = ((i : Int) + (j : Int)) / 2 by omega]; rfl)) ?_
    refine Seq.nil ?_
    refine hK21 ?_
    refine Cd.seq (fun K22 hK22 => ?_)
    refine Cd.draw 8 rfl po ?_
    refine Any.rd0 0 at0 rfl rfl (O.move (v := .func _ _ _) (by exact s10)) (by kernel_rfl) (by kernel_rfl) (by kernel_rfl) ?_
    refine Any.rd0 1 at1 rfl rfl (O.move (v := .slice _ _ _) (by exact s9)) (by kernel_rfl) (by kernel_rfl) (by kernel_rfl) ?_
    refine Any.rd0 2 at2 rfl rfl (O.move (v := .int .i64 _) rfl) (by kernel_rfl) (by kernel_rfl) (by kernel_rfl) ?_
    refine Any.rd0 3 at3 rfl rfl (O.index sl_239 rfl rfl (by omega) (by omega)) (by kernel_rfl) (by kernel_rfl) (by kernel_rfl) ?_
    refine Any.rd1 4 at4 rfl rfl (O.loadA kd_242 rfl (rowRoom Version_size (getN (by omega))) (rowAt Version_size (getN (by omega)))) ha.cons (by kernel_rfl) (by kernel_rfl) (by kernel_rfl) ?_
    refine Any.rd1 5 at5 rfl rfl (O.loadA kd_24 (by exact s11) (Nat.le_of_ble_eq_true rfl) (Stamp_all _)) Rd.head (by kernel_rfl) (by kernel_rfl) (by kernel_rfl) ?_
    refine Any.one 6 at6 rfl (by kernel_rfl) ⟨⟨trivial, ha.cons⟩, Rd.head⟩ ?_
    refine Op.callV rfl hb_248 rfl C_place1 rfl ?_
    rintro _ _ ⟨rfl, rfl⟩
    refine Any.toK ?_
    refine Any.rd0 7 at7 rfl rfl (O.lss rfl rfl) (by kernel_rfl) (by kernel_rfl) (by kernel_rfl) ?_
    refine Any.done (by kernel_rfl) ⟨⟨trivial, ha.cons⟩, Rd.head⟩ ?_
    refine hK22 ?_
    refine Cd.if (((vs[(i + j) / 2]).stamp.cmp s) < 0) rfl (fun t23 => ?_) (fun t23 => ?_)
    · skip
      refine Cd.region [0, 1, 2] rfl ?_
      refine Seq.rd0 at0 rfl rfl (O.move (v := .int .i64 _) rfl) ?_
      refine Seq.rd0 at1 rfl rfl (O.add rfl rfl (by omega) (by omega)) ?_
      refine Seq.rd0 at2 rfl rfl (O.assign (v := .int .i64 _) rfl) ?_
      refine Seq.nil ?_
      exact hK17 _ (by omega) ⟨(i + j) / 2 + 1, j, rfl, (by exact s9), (by exact s10), (by exact s11), (by exact s12), (by exact s13), (by exact s14), rfl, (by exact s16), rfl, by omega, hj, fun k hk h => bs_up hs hlt (by assumption) k (by omega) h, hhi⟩
    · skip
      refine Cd.region [0, 1] rfl ?_
      refine Seq.rd0 at0 rfl rfl (O.move (v := .int .i64 _) rfl) ?_
      refine Seq.rd0 at1 rfl rfl (O.assign (v := .int .i64 _) rfl) ?_
      refine Seq.nil ?_
      exact hK17 _ (by omega) ⟨i, (i + j) / 2, rfl, (by exact s9), (by exact s10), (by exact s11), (by exact s12), (by exact s13), (by exact s14), (by exact s15), rfl, rfl, by omega, by omega, hlo, fun k hk h => bs_down hs hlt (by assumption) k (by omega) h⟩
  · skip
    refine Cd.exit ?_
    refine hK5 ?_
    refine Cd.seq (fun K24 hK24 => ?_)
    refine Cd.draw 16 rfl po ?_
    refine Any.rd0 0 at0 rfl rfl (O.move (v := .int .i64 _) (by exact s15)) (by kernel_rfl) (by kernel_rfl) (by kernel_rfl) ?_
    refine Any.rd0 1 at1 rfl rfl (O.move (v := .int .i64 _) (by exact s15)) (by kernel_rfl) (by kernel_rfl) (by kernel_rfl) ?_
    refine Any.rd0 2 at2 rfl rfl (O.move (v := .int .i64 _) (by exact s14)) (by kernel_rfl) (by kernel_rfl) (by kernel_rfl) ?_
    refine Any.rd0 3 at3 rfl rfl (O.lss rfl rfl) (by kernel_rfl) (by kernel_rfl) (by kernel_rfl) ?_
    refine Any.rd0 4 at4 rfl rfl (O.move (v := .bool _) rfl) (by kernel_rfl) (by kernel_rfl) (by kernel_rfl) ?_
    by_cases t25 : (i : Int) < (vs.length : Int)
    · rw [decide_eq_true t25]
      refine Any.rd0 5 at5 rfl rfl (O.move (v := .func _ _ _) (by exact s10)) (by kernel_rfl) (by kernel_rfl) (by kernel_rfl) ?_
      refine Any.rd0 6 at6 rfl rfl (O.move (v := .slice _ _ _) (by exact s9)) (by kernel_rfl) (by kernel_rfl) (by kernel_rfl) ?_
      refine Any.rd0 7 at7 rfl rfl (O.move (v := .int .i64 _) (by exact s15)) (by kernel_rfl) (by kernel_rfl) (by kernel_rfl) ?_
      refine Any.rd0 8 at8 rfl rfl (O.index sl_239 rfl rfl (by omega) (by omega)) (by kernel_rfl) (by kernel_rfl) (by kernel_rfl) ?_
      refine Any.rd1 9 at9 rfl rfl (O.loadA kd_242 rfl (rowRoom Version_size (getN (by omega))) (rowAt Version_size (getN (by omega)))) ha.cons (by kernel_rfl) (by kernel_rfl) (by kernel_rfl) ?_
      refine Any.rd1 10 at10 rfl rfl (O.loadA kd_24 (by exact s11) (Nat.le_of_ble_eq_true rfl) (Stamp_all _)) Rd.head (by kernel_rfl) (by kernel_rfl) (by kernel_rfl) ?_
      refine Any.one 11 at11 rfl (by kernel_rfl) ⟨⟨trivial, ha.cons⟩, Rd.head⟩ ?_
      refine Op.callV rfl hb_248 rfl C_place1 rfl ?_
      rintro _ _ ⟨rfl, rfl⟩
      refine Any.toK ?_
      refine Any.rd0 12 at12 rfl rfl (O.eqI rfl rfl) (by kernel_rfl) (by kernel_rfl) (by kernel_rfl) ?_
      refine Any.rd0 13 at13 rfl rfl (O.pickT (v := .bool _) rfl rfl) (by kernel_rfl) (by kernel_rfl) (by kernel_rfl) ?_
      refine Any.rd0 14 at14 rfl rfl (O.assign (v := .int .i64 _) rfl) (by kernel_rfl) (by kernel_rfl) (by kernel_rfl) ?_
      refine Any.rd0 15 at15 rfl rfl (O.assign (v := .bool _) rfl) (by kernel_rfl) (by kernel_rfl) (by kernel_rfl) ?_
      refine Any.done (by kernel_rfl) ⟨⟨trivial, ha.cons⟩, Rd.head⟩ ?_
      refine hK24 ?_
      refine Cd.ret ?_
      obtain ⟨e1, e2⟩ := bs_end hs hij hj (by assumption) hlo hhi
      rw [dif_pos (by omega)] at e2
      exact hR _ _ (Res.two (v := .int .i64 _) (v' := .bool _) rfl rfl rfl) ⟨by rw [e2, ← e1], rfl⟩ (.cons _ (.refl _))
    · rw [decide_eq_false t25]
      refine Any.pass 5 at5 rfl rfl (by kernel_rfl) (by kernel_rfl) (by kernel_rfl) ?_
      refine Any.pass 6 at6 rfl rfl (by kernel_rfl) (by kernel_rfl) (by kernel_rfl) ?_
      refine Any.pass 7 at7 rfl rfl (by kernel_rfl) (by kernel_rfl) (by kernel_rfl) ?_
      refine Any.pass 8 at8 rfl rfl (by kernel_rfl) (by kernel_rfl) (by kernel_rfl) ?_
      refine Any.pass 9 at9 rfl rfl (by kernel_rfl) (by kernel_rfl) (by kernel_rfl) ?_
      refine Any.pass 10 at10 rfl rfl (by kernel_rfl) (by kernel_rfl) (by kernel_rfl) ?_
      refine Any.pass 11 at11 rfl rfl (by kernel_rfl) (by kernel_rfl) (by kernel_rfl) ?_
      refine Any.pass 12 at12 rfl rfl (by kernel_rfl) (by kernel_rfl) (by kernel_rfl) ?_
      refine Any.rd0 13 at13 rfl rfl (O.pickF (v := .bool _) rfl rfl) (by kernel_rfl) (by kernel_rfl) (by kernel_rfl) ?_
      refine Any.rd0 14 at14 rfl rfl (O.assign (v := .int .i64 _) rfl) (by kernel_rfl) (by kernel_rfl) (by kernel_rfl) ?_
      refine Any.rd0 15 at15 rfl rfl (O.assign (v := .bool _) rfl) (by kernel_rfl) (by kernel_rfl) (by kernel_rfl) ?_
      refine Any.done (by kernel_rfl) trivial ?_
      refine hK24 ?_
      refine Cd.ret ?_
      obtain ⟨e1, e2⟩ := bs_end hs hij hj (by assumption) hlo hhi
      rw [dif_neg (by omega)] at e2
      exact hR _ _ (Res.two (v := .int .i64 _) (v' := .bool _) rfl rfl rfl) ⟨by rw [e2, ← e1], rfl⟩ (.cons _ (.refl _))

end Go.X

namespace Go.X
open Go.Proofs
theorem fo_300_0 : fieldOff Tryz.prog 300 0 = some 0 := by kernel_rfl
theorem hb_223 : hasBody Tryz.prog 223 = true := by kernel_rfl
theorem hb_247 : hasBody Tryz.prog 247 = true := by kernel_rfl
theorem kd_239 : kindOf Tryz.prog 239 = some (false, 1) := by kernel_rfl
set_option maxRecDepth 100000 in
set_option maxHeartbeats 2000000 in
theorem C_BinarySearch_nil {c : Cx} {L : List Pt} {s : Stamp} : Fn Tryz.prog 247 #[.slice none 0 0, .agg (Stamp_enc s), .func (.func 248) #[] #[]] c L (fun v L' => v = .tuple #[.int .i64 (below [] s : Nat), .bool (hasS [] s)] ∧ L' = L) := by
  refine Fn.enter Tryz.func247 rfl 49 rfl rfl (fun R hR => ?_)
  refine Cd.seq (fun K1 hK1 => ?_)
  refine Cd.region [0, 1, 2] rfl ?_
  refine Seq.op at0 rfl (Op.new rfl (O.box (v := .agg _) rfl (cs := (Stamp_enc s)) rfl) ?_)
  intro b2 hb2
  refine Seq.rd0 at1 rfl rfl (O.assign (v := .int .i64 _) rfl) ?_
  refine Seq.rd0 at2 rfl rfl (O.assign (v := .bool _) rfl) ?_
  refine Seq.nil ?_
  refine hK1 ?_
  refine Cd.seq (fun K3 hK3 => ?_)
  refine Cd.region [0, 1, 2] rfl ?_
  refine Seq.rd0 at0 rfl rfl (O.move (v := .slice _ _ _) rfl) ?_
  refine Seq.rd0 at1 rfl rfl (O.lenS ds_239 rfl) ?_
  refine Seq.rd0 at2 rfl rfl (O.assign (v := .int .i64 _) rfl) ?_
  refine Seq.nil ?_
  refine hK3 ?_
  refine Cd.seq (fun K4 hK4 => ?_)
  refine Cd.region [0, 1, 2] rfl ?_
  refine Seq.rd0 at0 rfl rfl (O.move (v := .int .i64 _) rfl) ?_
  refine Seq.rd0 at1 rfl rfl (O.assign (v := .int .i64 _) rfl) ?_
  refine Seq.rd0 at2 rfl rfl (O.assign (v := .int .i64 _) rfl) ?_
  refine Seq.nil ?_
  refine hK4 ?_
  refine Cd.seq (fun K5 hK5 => ?_)
  refine Cd.block ?_
  refine Cd.loop (fun m6 e7 L8 => m6 = 0 ∧ e7 0 = .slice none 0 0 ∧ e7 2 = .func (.func 248) #[] #[] ∧ e7 4 = .pointer (some ⟨b2, 0, none⟩) ∧ e7 6 = .int .i64 0 ∧ e7 7 = .bool false ∧ e7 8 = .int .i64 0 ∧ e7 9 = .int .i64 0 ∧ e7 10 = .int .i64 0 ∧ L8 = (b2, .cells (Stamp_enc s) 24 (0, 0)) :: L) _ ⟨rfl, rfl, rfl, rfl, rfl, rfl, rfl, rfl, rfl, rfl⟩ ?_
  rintro _ e7 _ ⟨rfl, s9, s10, s11, s12, s13, s14, s15, s16, rfl⟩ K17 hK17
  refine Cd.seq (fun K18 hK18 => ?_)
  refine Cd.seq (fun K19 hK19 => ?_)
  refine Cd.region [0, 1, 2] rfl ?_
  refine Seq.rd0 at0 rfl rfl (O.move (v := .int .i64 _) (by exact s15)) ?_
  refine Seq.rd0 at1 rfl rfl (O.move (v := .int .i64 _) (by exact s16)) ?_
  refine Seq.rd0 at2 rfl rfl (O.lss rfl rfl) ?_
  refine Seq.nil ?_
  refine hK19 ?_
  refine Cd.if ((0 : Int) < 0) rfl (fun t20 => ?_) (fun t20 => ?_)
  · skip
    exact absurd t20 (by decide)
  · skip
    refine Cd.exit ?_
    refine hK5 ?_
    refine Cd.seq (fun K21 hK21 => ?_)
    refine Cd.draw 16 rfl po ?_
    refine Any.rd0 0 at0 rfl rfl (O.move (v := .int .i64 _) (by exact s15)) (by kernel_rfl) (by kernel_rfl) (by kernel_rfl) ?_
    refine Any.rd0 1 at1 rfl rfl (O.move (v := .int .i64 _) (by exact s15)) (by kernel_rfl) (by kernel_rfl) (by kernel_rfl) ?_
    refine Any.rd0 2 at2 rfl rfl (O.move (v := .int .i64 _) (by exact s14)) (by kernel_rfl) (by kernel_rfl) (by kernel_rfl) ?_
    refine Any.rd0 3 at3 rfl rfl (O.lss rfl rfl) (by kernel_rfl) (by kernel_rfl) (by kernel_rfl) ?_
    refine Any.rd0 4 at4 rfl rfl (O.move (v := .bool _) rfl) (by kernel_rfl) (by kernel_rfl) (by kernel_rfl) ?_
    have t22 : ¬ ((0 : Int) < 0) := (by decide)
    rw [decide_eq_false t22]
    refine Any.pass 5 at5 rfl rfl (by kernel_rfl) (by kernel_rfl) (by kernel_rfl) ?_
    refine Any.pass 6 at6 rfl rfl (by kernel_rfl) (by kernel_rfl) (by kernel_rfl) ?_
    refine Any.pass 7 at7 rfl rfl (by kernel_rfl) (by kernel_rfl) (by kernel_rfl) ?_
    refine Any.pass 8 at8 rfl rfl (by kernel_rfl) (by kernel_rfl) (by kernel_rfl) ?_
    refine Any.pass 9 at9 rfl rfl (by kernel_rfl) (by kernel_rfl) (by kernel_rfl) ?_
    refine Any.pass 10 at10 rfl rfl (by kernel_rfl) (by kernel_rfl) (by kernel_rfl) ?_
    refine Any.pass 11 at11 rfl rfl (by kernel_rfl) (by kernel_rfl) (by kernel_rfl) ?_
    refine Any.pass 12 at12 rfl rfl (by kernel_rfl) (by kernel_rfl) (by kernel_rfl) ?_
    refine Any.rd0 13 at13 rfl rfl (O.pickF (v := .bool _) rfl rfl) (by kernel_rfl) (by kernel_rfl) (by kernel_rfl) ?_
    refine Any.rd0 14 at14 rfl rfl (O.assign (v := .int .i64 _) rfl) (by kernel_rfl) (by kernel_rfl) (by kernel_rfl) ?_
    refine Any.rd0 15 at15 rfl rfl (O.assign (v := .bool _) rfl) (by kernel_rfl) (by kernel_rfl) (by kernel_rfl) ?_
    refine Any.done (by kernel_rfl) trivial ?_
    refine hK21 ?_
    refine Cd.ret ?_
    exact hR _ _ (Res.two (v := .int .i64 _) (v' := .bool _) rfl rfl rfl) ⟨rfl, rfl⟩ (.cons _ (.refl _))

/-- a chain of versions that can be read -/
def ChAt (c : Cx) (L : List Pt) (cb : Nat) (vs : List Version) : Prop :=
  (vs = [] ∧ Rd c L cb (.cells #[.slice none 0 0] 300 (0, 0))) ∨
  ∃ a cap sp, Rd c L cb (.cells #[.slice (some ⟨a, 0, none⟩) vs.length cap] 300 (0, 0)) ∧ Rd c L a (.cells (rows Version_enc vs ++ sp) 242 (0, 0))
theorem ChAt.sub {c : Cx} {L L' : List Pt} {cb : Nat} {vs : List Version} (h : ChAt c L cb vs) (hs : L.Sublist L') : ChAt c L' cb vs := by
  rcases h with ⟨h1, h2⟩ | ⟨a, cap, sp, h1, h2⟩
  · exact .inl ⟨h1, h2.sub hs⟩
  · exact .inr ⟨a, cap, sp, h1.sub hs, h2.sub hs⟩
theorem ChAt.cons {c : Cx} {L : List Pt} {cb : Nat} {vs : List Version} {p : Pt} (h : ChAt c L cb vs) : ChAt c (p :: L) cb vs := h.sub (List.sublist_cons_self _ _)

set_option maxRecDepth 100000 in
set_option maxHeartbeats 2000000 in
theorem C_place_nil {c : Cx} {L : List Pt} {cb : Nat} {s : Stamp} (hcb : Rd c L cb (.cells #[.slice none 0 0] 300 (0, 0))) : Fn Tryz.prog 223 #[.pointer (some ⟨cb, 0, none⟩), .agg (Stamp_enc s)] c L (fun v L' => v = .tuple #[.int .i64 (below ([] : List Version) s : Nat), .bool (hasS ([] : List Version) s)] ∧ L' = L) := by
  refine Fn.enter Tryz.func223 rfl 14 rfl rfl (fun R hR => ?_)
  refine Cd.seq (fun K1 hK1 => ?_)
  refine Cd.region [0, 1, 2] rfl ?_
  refine Seq.op at0 rfl (Op.new rfl (O.box (v := .agg _) rfl (cs := (Stamp_enc s)) rfl) ?_)
  intro b2 hb2
  refine Seq.rd0 at1 rfl rfl (O.assign (v := .int .i64 _) rfl) ?_
  refine Seq.rd0 at2 rfl rfl (O.assign (v := .bool _) rfl) ?_
  refine Seq.nil ?_
  refine hK1 ?_
  refine Cd.seq (fun K3 hK3 => ?_)
  refine Cd.draw 10 rfl po ?_
  refine Any.rd0 0 at0 rfl rfl (O.move (v := .pointer _) rfl) (by kernel_rfl) (by kernel_rfl) (by kernel_rfl) ?_
  refine Any.rd0 1 at1 rfl rfl (O.nilP rfl) (by kernel_rfl) (by kernel_rfl) (by kernel_rfl) ?_
  refine Any.rd0 2 at2 rfl rfl (O.field fo_300_0 rfl) (by kernel_rfl) (by kernel_rfl) (by kernel_rfl) ?_
  refine Any.rd1 3 at3 rfl rfl (O.load kd_239 rfl r1_0) hcb.cons (by kernel_rfl) (by kernel_rfl) (by kernel_rfl) ?_
  refine Any.rd1 4 at4 rfl rfl (O.loadA kd_24 rfl (Nat.le_of_ble_eq_true rfl) (Stamp_all _)) Rd.head (by kernel_rfl) (by kernel_rfl) (by kernel_rfl) ?_
  refine Any.one 5 at5 rfl (by kernel_rfl) ⟨⟨trivial, hcb.cons⟩, Rd.head⟩ ?_
  refine Op.callF rfl hb_247 C_BinarySearch_nil rfl ?_
  rintro _ _ ⟨rfl, rfl⟩
  refine Any.toK ?_
  refine Any.rd0 6 at6 rfl rfl (O.ext rfl r2_0) (by kernel_rfl) (by kernel_rfl) (by kernel_rfl) ?_
  refine Any.rd0 7 at7 rfl rfl (O.ext rfl r2_1) (by kernel_rfl) (by kernel_rfl) (by kernel_rfl) ?_
  refine Any.rd0 8 at8 rfl rfl (O.assign (v := .int .i64 _) rfl) (by kernel_rfl) (by kernel_rfl) (by kernel_rfl) ?_
  refine Any.rd0 9 at9 rfl rfl (O.assign (v := .bool _) rfl) (by kernel_rfl) (by kernel_rfl) (by kernel_rfl) ?_
  refine Any.done (by kernel_rfl) ⟨⟨trivial, hcb.cons⟩, Rd.head⟩ ?_
  refine hK3 ?_
  refine Cd.ret ?_
  exact hR _ _ (Res.two (v := .int .i64 _) (v' := .bool _) rfl rfl rfl) ⟨rfl, rfl⟩ (.cons _ (.refl _))

set_option maxRecDepth 100000 in
set_option maxHeartbeats 2000000 in
theorem C_place_some {c : Cx} {L : List Pt} {cb a cap : Nat} {vs : List Version} {sp : Array Value} {s : Stamp} (hs : Sorted vs) (hn : vs.length < 4611686018427387904) (hcb : Rd c L cb (.cells #[.slice (some ⟨a, 0, none⟩) vs.length cap] 300 (0, 0))) (ha : Rd c L a (.cells (rows Version_enc vs ++ sp) 242 (0, 0))) : Fn Tryz.prog 223 #[.pointer (some ⟨cb, 0, none⟩), .agg (Stamp_enc s)] c L (fun v L' => v = .tuple #[.int .i64 (below vs s : Nat), .bool (hasS vs s)] ∧ L' = L) := by
  refine Fn.enter Tryz.func223 rfl 14 rfl rfl (fun R hR => ?_)
  refine Cd.seq (fun K1 hK1 => ?_)
  refine Cd.region [0, 1, 2] rfl ?_
  refine Seq.op at0 rfl (Op.new rfl (O.box (v := .agg _) rfl (cs := (Stamp_enc s)) rfl) ?_)
  intro b2 hb2
  refine Seq.rd0 at1 rfl rfl (O.assign (v := .int .i64 _) rfl) ?_
  refine Seq.rd0 at2 rfl rfl (O.assign (v := .bool _) rfl) ?_
  refine Seq.nil ?_
  refine hK1 ?_
  refine Cd.seq (fun K3 hK3 => ?_)
  refine Cd.draw 10 rfl po ?_
  refine Any.rd0 0 at0 rfl rfl (O.move (v := .pointer _) rfl) (by kernel_rfl) (by kernel_rfl) (by kernel_rfl) ?_
  refine Any.rd0 1 at1 rfl rfl (O.nilP rfl) (by kernel_rfl) (by kernel_rfl) (by kernel_rfl) ?_
  refine Any.rd0 2 at2 rfl rfl (O.field fo_300_0 rfl) (by kernel_rfl) (by kernel_rfl) (by kernel_rfl) ?_
  refine Any.rd1 3 at3 rfl rfl (O.load kd_239 rfl r1_0) hcb.cons (by kernel_rfl) (by kernel_rfl) (by kernel_rfl) ?_
  refine Any.rd1 4 at4 rfl rfl (O.loadA kd_24 rfl (Nat.le_of_ble_eq_true rfl) (Stamp_all _)) Rd.head (by kernel_rfl) (by kernel_rfl) (by kernel_rfl) ?_
  refine Any.one 5 at5 rfl (by kernel_rfl) ⟨⟨trivial, hcb.cons⟩, Rd.head⟩ ?_
  refine Op.callF rfl hb_247 (C_BinarySearch hs hn ha.cons) rfl ?_
  rintro _ _ ⟨rfl, rfl⟩
  refine Any.toK ?_
  refine Any.rd0 6 at6 rfl rfl (O.ext rfl r2_0) (by kernel_rfl) (by kernel_rfl) (by kernel_rfl) ?_
  refine Any.rd0 7 at7 rfl rfl (O.ext rfl r2_1) (by kernel_rfl) (by kernel_rfl) (by kernel_rfl) ?_
  refine Any.rd0 8 at8 rfl rfl (O.assign (v := .int .i64 _) rfl) (by kernel_rfl) (by kernel_rfl) (by kernel_rfl) ?_
  refine Any.rd0 9 at9 rfl rfl (O.assign (v := .bool _) rfl) (by kernel_rfl) (by kernel_rfl) (by kernel_rfl) ?_
  refine Any.done (by kernel_rfl) ⟨⟨trivial, hcb.cons⟩, Rd.head⟩ ?_
  refine hK3 ?_
  refine Cd.ret ?_
  exact hR _ _ (Res.two (v := .int .i64 _) (v' := .bool _) rfl rfl rfl) ⟨rfl, rfl⟩ (.cons _ (.refl _))

theorem C_place {c : Cx} {L : List Pt} {cb : Nat} {vs : List Version} {s : Stamp} (hs : Sorted vs) (hn : vs.length < 4611686018427387904) (h : ChAt c L cb vs) : Fn Tryz.prog 223 #[.pointer (some ⟨cb, 0, none⟩), .agg (Stamp_enc s)] c L (fun v L' => v = .tuple #[.int .i64 (below vs s : Nat), .bool (hasS vs s)] ∧ L' = L) := by
  rcases h with ⟨rfl, h1⟩ | ⟨a, cap, sp, h1, h2⟩
  · exact C_place_nil h1
  · exact C_place_some hs hn h1 h2

set_option maxRecDepth 100000 in
set_option maxHeartbeats 2000000 in
theorem C_chain_Has {c : Cx} {L : List Pt} {cb : Nat} {vs : List Version} {s : Stamp} (hs : Sorted vs) (hn : vs.length < 4611686018427387904) (hc : ChAt c L cb vs) : Fn Tryz.prog 171 #[.pointer (some ⟨cb, 0, none⟩), .agg (Stamp_enc s)] c L (fun v L' => v = .bool (hasS vs s) ∧ L' = L) := by
  refine Fn.enter Tryz.func171 rfl 14 rfl rfl (fun R hR => ?_)
  refine Cd.seq (fun K1 hK1 => ?_)
  refine Cd.region [0, 1] rfl ?_
  refine Seq.op at0 rfl (Op.new rfl (O.box (v := .agg _) rfl (cs := (Stamp_enc s)) rfl) ?_)
  intro b2 hb2
  refine Seq.rd0 at1 rfl rfl (O.assign (v := .bool _) rfl) ?_
  refine Seq.nil ?_
  refine hK1 ?_
  refine Cd.seq (fun K3 hK3 => ?_)
  refine Cd.region [0, 1, 2, 3, 4, 5, 6, 7] rfl ?_
  refine Seq.rd0 at0 rfl rfl (O.move (v := .pointer _) rfl) ?_
  refine Seq.rd1 at1 rfl rfl (O.loadA kd_24 rfl (Nat.le_of_ble_eq_true rfl) (Stamp_all _)) Rd.head ?_
  refine Seq.op at2 rfl (Op.callF rfl hb_223 (C_place hs hn hc.cons) rfl ?_)
  rintro _ _ ⟨rfl, rfl⟩
  refine Seq.rd0 at3 rfl rfl (O.move (v := .tuple _) rfl) ?_
  refine Seq.rd0 at4 rfl rfl (O.ext rfl r2_0) ?_
  refine Seq.rd0 at5 rfl rfl (O.ext rfl r2_1) ?_
  refine Seq.rd0 at6 rfl rfl (O.assign (v := .int .i64 _) rfl) ?_
  refine Seq.rd0 at7 rfl rfl (O.assign (v := .bool _) rfl) ?_
  refine Seq.nil ?_
  refine hK3 ?_
  refine Cd.seq (fun K4 hK4 => ?_)
  refine Cd.region [0, 1] rfl ?_
  refine Seq.rd0 at0 rfl rfl (O.move (v := .bool _) rfl) ?_
  refine Seq.rd0 at1 rfl rfl (O.assign (v := .bool _) rfl) ?_
  refine Seq.nil ?_
  refine hK4 ?_
  refine Cd.ret ?_
  exact hR _ _ (Res.one (v := .bool _) rfl rfl) ⟨rfl, rfl⟩ (.cons _ (.refl _))

/-- how many versions are not above a stamp -/
def upto (vs : List Version) (s : Stamp) : Nat := if hasS vs s then below vs s + 1 else below vs s
theorem upto_le {vs : List Version} {s : Stamp} (hs : Sorted vs) : upto vs s ≤ vs.length := by
  unfold upto
  split
  · rename_i h
    rw [hasS_eq hs] at h
    split at h
    · omega
    · cases h
  · exact below_le vs s

set_option maxRecDepth 100000 in
set_option maxHeartbeats 2000000 in
theorem C_until {c : Cx} {L : List Pt} {cb : Nat} {vs : List Version} {s : Stamp} (hs : Sorted vs) (hn : vs.length < 4611686018427387904) (hc : ChAt c L cb vs) : Fn Tryz.prog 226 #[.pointer (some ⟨cb, 0, none⟩), .agg (Stamp_enc s)] c L (fun v L' => v = .int .i64 (upto vs s : Nat) ∧ L' = L) := by
  have hbl := below_le vs s
  refine Fn.enter Tryz.func226 rfl 17 rfl rfl (fun R hR => ?_)
  refine Cd.seq (fun K1 hK1 => ?_)
  refine Cd.region [0, 1] rfl ?_
  refine Seq.op at0 rfl (Op.new rfl (O.box (v := .agg _) rfl (cs := (Stamp_enc s)) rfl) ?_)
  intro b2 hb2
  refine Seq.rd0 at1 rfl rfl (O.assign (v := .int .i64 _) rfl) ?_
  refine Seq.nil ?_
  refine hK1 ?_
  refine Cd.seq (fun K3 hK3 => ?_)
  refine Cd.region [0, 1, 2, 3, 4, 5, 6, 7] rfl ?_
  refine Seq.rd0 at0 rfl rfl (O.move (v := .pointer _) rfl) ?_
  refine Seq.rd1 at1 rfl rfl (O.loadA kd_24 rfl (Nat.le_of_ble_eq_true rfl) (Stamp_all _)) Rd.head ?_
  refine Seq.op at2 rfl (Op.callF rfl hb_223 (C_place hs hn hc.cons) rfl ?_)
  rintro _ _ ⟨rfl, rfl⟩
  refine Seq.rd0 at3 rfl rfl (O.move (v := .tuple _) rfl) ?_
  refine Seq.rd0 at4 rfl rfl (O.ext rfl r2_0) ?_
  refine Seq.rd0 at5 rfl rfl (O.ext rfl r2_1) ?_
  refine Seq.rd0 at6 rfl rfl (O.assign (v := .int .i64 _) rfl) ?_
  refine Seq.rd0 at7 rfl rfl (O.assign (v := .bool _) rfl) ?_
  refine Seq.nil ?_
  refine hK3 ?_
  refine Cd.seq (fun K4 hK4 => ?_)
  refine Cd.seq (fun K5 hK5 => ?_)
  refine Cd.region [0] rfl ?_
  refine Seq.rd0 at0 rfl rfl (O.move (v := .bool _) rfl) ?_
  refine Seq.nil ?_
  refine hK5 ?_
  refine Cd.cond ((hasS vs s)) rfl (fun t6 => ?_) (fun t6 => ?_)
  · skip
    refine Cd.region [0, 1, 2] rfl ?_
    refine Seq.rd0 at0 rfl rfl (O.move (v := .int .i64 _) rfl) ?_
    refine Seq.rd0 at1 rfl rfl (O.add rfl rfl (by omega) (by omega)) ?_
    refine Seq.rd0 at2 rfl rfl (O.assign (v := .int .i64 _) rfl) ?_
    refine Seq.nil ?_
    refine hK4 ?_
    refine Cd.seq (fun K7 hK7 => ?_)
    refine Cd.region [0, 1] rfl ?_
    refine Seq.rd0 at0 rfl rfl (O.move (v := .int .i64 _) rfl) ?_
    refine Seq.rd0 at1 rfl rfl (O.assign (v := .int .i64 _) rfl) ?_
    refine Seq.nil ?_
    refine hK7 ?_
    refine Cd.ret ?_
    exact hR _ _ (Res.one (v := .int .i64 _) rfl rfl) ⟨by simp [upto, t6], rfl⟩ (.cons _ (.refl _))
  · skip
    refine Cd.skip ?_
    refine hK4 ?_
    refine Cd.seq (fun K8 hK8 => ?_)
    refine Cd.region [0, 1] rfl ?_
    refine Seq.rd0 at0 rfl rfl (O.move (v := .int .i64 _) rfl) ?_
    refine Seq.rd0 at1 rfl rfl (O.assign (v := .int .i64 _) rfl) ?_
    refine Seq.nil ?_
    refine hK8 ?_
    refine Cd.ret ?_
    exact hR _ _ (Res.one (v := .int .i64 _) rfl rfl) ⟨by simp [upto, t6], rfl⟩ (.cons _ (.refl _))

end Go.X

namespace Go.X
open Go.Proofs
theorem hb_226 : hasBody Tryz.prog 226 = true := by kernel_rfl
theorem zo_242 : zeroOf Tryz.prog 242 = some (.agg #[.int .i64 0, .int .u8 0, .string ⟨#[]⟩, .bool false]) := by kernel_rfl
set_option maxRecDepth 100000 in
set_option maxHeartbeats 2000000 in
theorem C_chain_Len_nil {c : Cx} {L : List Pt} {cb : Nat}  (hcb : Rd c L cb (.cells #[.slice none 0 0] 300 (0, 0))) : Fn Tryz.prog 205 #[.pointer (some ⟨cb, 0, none⟩)] c L (fun v L' => v = .int .i64 (([] : List Version).length : Nat) ∧ L' = L) := by
  refine Fn.enter Tryz.func205 rfl 8 rfl rfl (fun R hR => ?_)
  refine Cd.seq (fun K1 hK1 => ?_)
  refine Cd.region [0] rfl ?_
  refine Seq.rd0 at0 rfl rfl (O.assign (v := .int .i64 _) rfl) ?_
  refine Seq.nil ?_
  refine hK1 ?_
  refine Cd.seq (fun K2 hK2 => ?_)
  refine Cd.region [0, 1, 2, 3, 4, 5] rfl ?_
  refine Seq.rd0 at0 rfl rfl (O.move (v := .pointer _) rfl) ?_
  refine Seq.rd0 at1 rfl rfl (O.nilP rfl) ?_
  refine Seq.rd0 at2 rfl rfl (O.field fo_300_0 rfl) ?_
  refine Seq.rd1 at3 rfl rfl (O.load kd_239 rfl r1_0) hcb ?_
  refine Seq.rd0 at4 rfl rfl (O.lenS ds_239 rfl) ?_
  refine Seq.rd0 at5 rfl rfl (O.assign (v := .int .i64 _) rfl) ?_
  refine Seq.nil ?_
  refine hK2 ?_
  refine Cd.ret ?_
  exact hR _ _ (Res.one (v := .int .i64 _) rfl rfl) ⟨rfl, rfl⟩ (.refl _)

set_option maxRecDepth 100000 in
set_option maxHeartbeats 2000000 in
theorem C_chain_Len_some {c : Cx} {L : List Pt} {cb a cap : Nat} {vs : List Version} {sp : Array Value}  (hn : vs.length < 4611686018427387904) (hcb : Rd c L cb (.cells #[.slice (some ⟨a, 0, none⟩) vs.length cap] 300 (0, 0))) (ha : Rd c L a (.cells (rows Version_enc vs ++ sp) 242 (0, 0))) : Fn Tryz.prog 205 #[.pointer (some ⟨cb, 0, none⟩)] c L (fun v L' => v = .int .i64 (vs.length : Nat) ∧ L' = L) := by
  refine Fn.enter Tryz.func205 rfl 8 rfl rfl (fun R hR => ?_)
  refine Cd.seq (fun K1 hK1 => ?_)
  refine Cd.region [0] rfl ?_
  refine Seq.rd0 at0 rfl rfl (O.assign (v := .int .i64 _) rfl) ?_
  refine Seq.nil ?_
  refine hK1 ?_
  refine Cd.seq (fun K2 hK2 => ?_)
  refine Cd.region [0, 1, 2, 3, 4, 5] rfl ?_
  refine Seq.rd0 at0 rfl rfl (O.move (v := .pointer _) rfl) ?_
  refine Seq.rd0 at1 rfl rfl (O.nilP rfl) ?_
  refine Seq.rd0 at2 rfl rfl (O.field fo_300_0 rfl) ?_
  refine Seq.rd1 at3 rfl rfl (O.load kd_239 rfl r1_0) hcb ?_
  refine Seq.rd0 at4 rfl rfl (O.lenS ds_239 rfl) ?_
  refine Seq.rd0 at5 rfl rfl (O.assign (v := .int .i64 _) rfl) ?_
  refine Seq.nil ?_
  refine hK2 ?_
  refine Cd.ret ?_
  exact hR _ _ (Res.one (v := .int .i64 _) rfl rfl) ⟨rfl, rfl⟩ (.refl _)

theorem C_chain_Len {c : Cx} {L : List Pt} {cb : Nat} {vs : List Version}  (hn : vs.length < 4611686018427387904) (h : ChAt c L cb vs) : Fn Tryz.prog 205 #[.pointer (some ⟨cb, 0, none⟩)] c L (fun v L' => v = .int .i64 (vs.length : Nat) ∧ L' = L) := by
  rcases h with ⟨rfl, h1⟩ | ⟨a, cap, sp, h1, h2⟩
  · exact C_chain_Len_nil h1
  · exact C_chain_Len_some hn h1 h2

def newestV (vs : List Version) : Option Version := vs.getLast?
def atV (vs : List Version) (s : Stamp) : Option Version := if upto vs s = 0 then none else vs[upto vs s - 1]?
theorem lastN {vs : List Version} (h : ¬ ((vs.length : Nat) : Int) = 0) : vs[(((vs.length : Nat) : Int) - 1).toNat]? = some (vs[vs.length - 1]'(by omega)) := by
  rw [show (((vs.length : Nat) : Int) - 1).toNat = vs.length - 1 by omega]; exact List.getElem?_eq_getElem (by omega)
theorem newest_some {vs : List Version} (h : ¬ ((vs.length : Nat) : Int) = 0) : newestV vs = some (vs[vs.length - 1]'(by omega)) := by
  unfold newestV; rw [List.getLast?_eq_getElem?]; exact List.getElem?_eq_getElem (by omega)
theorem uptoN {vs : List Version} {s : Stamp} (hs : Sorted vs) (h : ¬ ((upto vs s : Nat) : Int) = 0) : vs[(((upto vs s : Nat) : Int) - 1).toNat]? = some (vs[upto vs s - 1]'(by have := upto_le (s := s) hs; omega)) := by
  rw [show (((upto vs s : Nat) : Int) - 1).toNat = upto vs s - 1 by omega]; exact List.getElem?_eq_getElem _
theorem at_some {vs : List Version} {s : Stamp} (hs : Sorted vs) (h : ¬ ((upto vs s : Nat) : Int) = 0) : atV vs s = some (vs[upto vs s - 1]'(by have := upto_le (s := s) hs; omega)) := by
  unfold atV; rw [if_neg (by omega)]; exact List.getElem?_eq_getElem _
theorem newest_none {vs : List Version} (h : ((vs.length : Nat) : Int) = 0) : newestV vs = none := by
  have : vs = [] := List.length_eq_zero_iff.1 (by omega)
  subst this; rfl
theorem at_none {vs : List Version} {s : Stamp} (h : ((upto vs s : Nat) : Int) = 0) : atV vs s = none := by unfold atV; rw [if_pos (by omega)]

set_option maxRecDepth 100000 in
set_option maxHeartbeats 2000000 in
theorem C_chain_Newest_nil {c : Cx} {L : List Pt} {cb : Nat}  (hcb : Rd c L cb (.cells #[.slice none 0 0] 300 (0, 0))) : Fn Tryz.prog 194 #[.pointer (some ⟨cb, 0, none⟩)] c L (fun v L' => v = .tuple #[.agg (Version_enc ((newestV ([] : List Version)).getD .zero)), .bool (newestV ([] : List Version)).isSome] ∧ L' = L) := by
  refine Fn.enter Tryz.func194 rfl 23 rfl rfl (fun R hR => ?_)
  refine Cd.seq (fun K1 hK1 => ?_)
  refine Cd.region [0, 1] rfl ?_
  refine Seq.op at0 rfl (Op.new rfl (O.alloc zo_242 (cs := (Version_enc Version.zero)) rfl) ?_)
  intro b2 hb2
  refine Seq.rd0 at1 rfl rfl (O.assign (v := .bool _) rfl) ?_
  refine Seq.nil ?_
  refine hK1 ?_
  refine Cd.seq (fun K3 hK3 => ?_)
  refine Cd.seq (fun K4 hK4 => ?_)
  refine Cd.region [0, 1, 2, 3, 4, 5] rfl ?_
  refine Seq.rd0 at0 rfl rfl (O.move (v := .pointer _) rfl) ?_
  refine Seq.rd0 at1 rfl rfl (O.nilP rfl) ?_
  refine Seq.rd0 at2 rfl rfl (O.field fo_300_0 rfl) ?_
  refine Seq.rd1 at3 rfl rfl (O.load kd_239 rfl r1_0) hcb.cons ?_
  refine Seq.rd0 at4 rfl rfl (O.lenS ds_239 rfl) ?_
  refine Seq.rd0 at5 rfl rfl (O.eqI rfl rfl) ?_
  refine Seq.nil ?_
  refine hK4 ?_
  refine Cd.if ((0 : Int) = 0) rfl (fun t5 => ?_) (fun t5 => ?_)
  · skip
    refine Cd.seq (fun K6 hK6 => ?_)
    refine Cd.region [0, 1, 2] rfl ?_
    refine Seq.rd0 at0 rfl rfl (O.build rfl (cs := (Version_enc Version.zero)) (by kernel_rfl)) ?_
    refine Seq.op at1 rfl (Op.set0 rfl (O.store kd_242 rfl (v := .agg _) rfl (Version_size _) (Version_room (Version_size _)) (Version_one _) (Version_put _ (Version_size _))) ?_)
    refine Seq.rd0 at2 rfl rfl (O.assign (v := .bool _) rfl) ?_
    refine Seq.nil ?_
    refine hK6 ?_
    refine Cd.ret ?_
    exact hR _ _ (Res.cell2 (v := .bool _) rfl kd_242 rfl rfl Rd.head rfl) ⟨rfl, rfl⟩ (.cons _ (.refl _))
  · skip
    exact absurd rfl t5

set_option maxRecDepth 100000 in
set_option maxHeartbeats 2000000 in
theorem C_chain_Newest_some {c : Cx} {L : List Pt} {cb a cap : Nat} {vs : List Version} {sp : Array Value}  (hn : vs.length < 4611686018427387904) (hcb : Rd c L cb (.cells #[.slice (some ⟨a, 0, none⟩) vs.length cap] 300 (0, 0))) (ha : Rd c L a (.cells (rows Version_enc vs ++ sp) 242 (0, 0))) : Fn Tryz.prog 194 #[.pointer (some ⟨cb, 0, none⟩)] c L (fun v L' => v = .tuple #[.agg (Version_enc ((newestV vs).getD .zero)), .bool (newestV vs).isSome] ∧ L' = L) := by
  refine Fn.enter Tryz.func194 rfl 23 rfl rfl (fun R hR => ?_)
  refine Cd.seq (fun K1 hK1 => ?_)
  refine Cd.region [0, 1] rfl ?_
  refine Seq.op at0 rfl (Op.new rfl (O.alloc zo_242 (cs := (Version_enc Version.zero)) rfl) ?_)
  intro b2 hb2
  refine Seq.rd0 at1 rfl rfl (O.assign (v := .bool _) rfl) ?_
  refine Seq.nil ?_
  refine hK1 ?_
  refine Cd.seq (fun K3 hK3 => ?_)
  refine Cd.seq (fun K4 hK4 => ?_)
  refine Cd.region [0, 1, 2, 3, 4, 5] rfl ?_
  refine Seq.rd0 at0 rfl rfl (O.move (v := .pointer _) rfl) ?_
  refine Seq.rd0 at1 rfl rfl (O.nilP rfl) ?_
  refine Seq.rd0 at2 rfl rfl (O.field fo_300_0 rfl) ?_
  refine Seq.rd1 at3 rfl rfl (O.load kd_239 rfl r1_0) hcb.cons ?_
  refine Seq.rd0 at4 rfl rfl (O.lenS ds_239 rfl) ?_
  refine Seq.rd0 at5 rfl rfl (O.eqI rfl rfl) ?_
  refine Seq.nil ?_
  refine hK4 ?_
  refine Cd.if ((vs.length : Int) = 0) rfl (fun t5 => ?_) (fun t5 => ?_)
  · skip
    refine Cd.seq (fun K6 hK6 => ?_)
    refine Cd.region [0, 1, 2] rfl ?_
    refine Seq.rd0 at0 rfl rfl (O.build rfl (cs := (Version_enc Version.zero)) (by kernel_rfl)) ?_
    refine Seq.op at1 rfl (Op.set0 rfl (O.store kd_242 rfl (v := .agg _) rfl (Version_size _) (Version_room (Version_size _)) (Version_one _) (Version_put _ (Version_size _))) ?_)
    refine Seq.rd0 at2 rfl rfl (O.assign (v := .bool _) rfl) ?_
    refine Seq.nil ?_
    refine hK6 ?_
    refine Cd.ret ?_
    exact hR _ _ (Res.cell2 (v := .bool _) rfl kd_242 rfl rfl Rd.head rfl) ⟨by rw [newest_none (by assumption)]; rfl, rfl⟩ (.cons _ (.refl _))
  · skip
    refine Cd.skip ?_
    refine hK3 ?_
    refine Cd.seq (fun K7 hK7 => ?_)
    refine Cd.draw 14 rfl po ?_
    refine Any.rd0 0 at0 rfl rfl (O.move (v := .pointer _) rfl) (by kernel_rfl) (by kernel_rfl) (by kernel_rfl) ?_
    refine Any.rd0 1 at1 rfl rfl (O.nilP rfl) (by kernel_rfl) (by kernel_rfl) (by kernel_rfl) ?_
    refine Any.rd0 2 at2 rfl rfl (O.field fo_300_0 rfl) (by kernel_rfl) (by kernel_rfl) (by kernel_rfl) ?_
    refine Any.rd1 3 at3 rfl rfl (O.load kd_239 rfl r1_0) hcb.cons (by kernel_rfl) (by kernel_rfl) (by kernel_rfl) ?_
    refine Any.rd0 4 at4 rfl rfl (O.move (v := .pointer _) rfl) (by kernel_rfl) (by kernel_rfl) (by kernel_rfl) ?_
    refine Any.rd0 5 at5 rfl rfl (O.nilP rfl) (by kernel_rfl) (by kernel_rfl) (by kernel_rfl) ?_
    refine Any.rd0 6 at6 rfl rfl (O.field fo_300_0 rfl) (by kernel_rfl) (by kernel_rfl) (by kernel_rfl) ?_
    refine Any.rd1 7 at7 rfl rfl (O.load kd_239 rfl r1_0) hcb.cons (by kernel_rfl) (by kernel_rfl) (by kernel_rfl) ?_
    refine Any.rd0 8 at8 rfl rfl (O.lenS ds_239 rfl) (by kernel_rfl) (by kernel_rfl) (by kernel_rfl) ?_
    refine Any.rd0 9 at9 rfl rfl (O.sub rfl rfl (by omega) (by omega)) (by kernel_rfl) (by kernel_rfl) (by kernel_rfl) ?_
    refine Any.rd0 10 at10 rfl rfl (O.index sl_239 rfl rfl (by omega) (by omega)) (by kernel_rfl) (by kernel_rfl) (by kernel_rfl) ?_
    refine Any.rd1 11 at11 rfl rfl (O.loadA kd_242 rfl (rowRoom Version_size (lastN (by assumption))) (rowAt Version_size (lastN (by assumption)))) ha.cons (by kernel_rfl) (by kernel_rfl) (by kernel_rfl) ?_
    refine Any.one 12 at12 rfl (by kernel_rfl) ⟨⟨⟨trivial, hcb.cons⟩, hcb.cons⟩, ha.cons⟩ ?_
    refine Op.set0 rfl (O.store kd_242 rfl (v := .agg _) rfl (Version_size _) (Version_room (Version_size _)) (Version_one _) (Version_put _ (Version_size _))) ?_
    refine Any.toK ?_
    refine Any.rd0 13 at13 rfl rfl (O.assign (v := .bool _) rfl) (by kernel_rfl) (by kernel_rfl) (by kernel_rfl) ?_
    refine Any.done (by kernel_rfl) ⟨⟨⟨trivial, hcb.cons⟩, hcb.cons⟩, ha.cons⟩ ?_
    refine hK7 ?_
    refine Cd.ret ?_
    exact hR _ _ (Res.cell2 (v := .bool _) rfl kd_242 rfl rfl Rd.head rfl) ⟨by rw [newest_some (by assumption)]; rfl, rfl⟩ (.cons _ (.refl _))

theorem C_chain_Newest {c : Cx} {L : List Pt} {cb : Nat} {vs : List Version}  (hn : vs.length < 4611686018427387904) (h : ChAt c L cb vs) : Fn Tryz.prog 194 #[.pointer (some ⟨cb, 0, none⟩)] c L (fun v L' => v = .tuple #[.agg (Version_enc ((newestV vs).getD .zero)), .bool (newestV vs).isSome] ∧ L' = L) := by
  rcases h with ⟨rfl, h1⟩ | ⟨a, cap, sp, h1, h2⟩
  · exact C_chain_Newest_nil h1
  · exact C_chain_Newest_some hn h1 h2

set_option maxRecDepth 100000 in
set_option maxHeartbeats 2000000 in
theorem C_chain_At_nil {c : Cx} {L : List Pt} {cb : Nat} {s : Stamp} (hcb : Rd c L cb (.cells #[.slice none 0 0] 300 (0, 0))) : Fn Tryz.prog 176 #[.pointer (some ⟨cb, 0, none⟩), .agg (Stamp_enc s)] c L (fun v L' => v = .tuple #[.agg (Version_enc ((atV ([] : List Version) s).getD .zero)), .bool (atV ([] : List Version) s).isSome] ∧ L' = L) := by
  refine Fn.enter Tryz.func176 rfl 21 rfl rfl (fun R hR => ?_)
  refine Cd.seq (fun K1 hK1 => ?_)
  refine Cd.region [0, 1, 2] rfl ?_
  refine Seq.op at0 rfl (Op.new rfl (O.box (v := .agg _) rfl (cs := (Stamp_enc s)) rfl) ?_)
  intro b2 hb2
  refine Seq.op at1 rfl (Op.new rfl (O.alloc zo_242 (cs := (Version_enc Version.zero)) rfl) ?_)
  intro b3 hb3
  refine Seq.rd0 at2 rfl rfl (O.assign (v := .bool _) rfl) ?_
  refine Seq.nil ?_
  refine hK1 ?_
  refine Cd.seq (fun K4 hK4 => ?_)
  refine Cd.region [0, 1, 2, 3] rfl ?_
  refine Seq.rd0 at0 rfl rfl (O.move (v := .pointer _) rfl) ?_
  refine Seq.rd1 at1 rfl rfl (O.loadA kd_24 rfl (Nat.le_of_ble_eq_true rfl) (Stamp_all _)) Rd.head.cons ?_
  refine Seq.op at2 rfl (Op.callF rfl hb_226 (C_until .nil (by decide) (.inl ⟨rfl, hcb.cons.cons⟩)) rfl ?_)
  rintro _ _ ⟨rfl, rfl⟩
  refine Seq.rd0 at3 rfl rfl (O.assign (v := .int .i64 _) rfl) ?_
  refine Seq.nil ?_
  refine hK4 ?_
  refine Cd.seq (fun K5 hK5 => ?_)
  refine Cd.seq (fun K6 hK6 => ?_)
  refine Cd.region [0, 1] rfl ?_
  refine Seq.rd0 at0 rfl rfl (O.move (v := .int .i64 _) rfl) ?_
  refine Seq.rd0 at1 rfl rfl (O.eqI rfl rfl) ?_
  refine Seq.nil ?_
  refine hK6 ?_
  refine Cd.if (((upto [] s : Nat) : Int) = 0) rfl (fun t7 => ?_) (fun t7 => ?_)
  · skip
    refine Cd.seq (fun K8 hK8 => ?_)
    refine Cd.region [0, 1, 2] rfl ?_
    refine Seq.rd0 at0 rfl rfl (O.build rfl (cs := (Version_enc Version.zero)) (by kernel_rfl)) ?_
    refine Seq.op at1 rfl (Op.set0 rfl (O.store kd_242 rfl (v := .agg _) rfl (Version_size _) (Version_room (Version_size _)) (Version_one _) (Version_put _ (Version_size _))) ?_)
    refine Seq.rd0 at2 rfl rfl (O.assign (v := .bool _) rfl) ?_
    refine Seq.nil ?_
    refine hK8 ?_
    refine Cd.ret ?_
    exact hR _ _ (Res.cell2 (v := .bool _) rfl kd_242 rfl rfl Rd.head rfl) ⟨rfl, rfl⟩ (.cons _ (.cons _ (.refl _)))
  · skip
    exact absurd rfl t7

set_option maxRecDepth 100000 in
set_option maxHeartbeats 2000000 in
theorem C_chain_At_some {c : Cx} {L : List Pt} {cb a cap : Nat} {vs : List Version} {sp : Array Value} {s : Stamp} (hs : Sorted vs) (hn : vs.length < 4611686018427387904) (hcb : Rd c L cb (.cells #[.slice (some ⟨a, 0, none⟩) vs.length cap] 300 (0, 0))) (ha : Rd c L a (.cells (rows Version_enc vs ++ sp) 242 (0, 0))) : Fn Tryz.prog 176 #[.pointer (some ⟨cb, 0, none⟩), .agg (Stamp_enc s)] c L (fun v L' => v = .tuple #[.agg (Version_enc ((atV vs s).getD .zero)), .bool (atV vs s).isSome] ∧ L' = L) := by
  refine Fn.enter Tryz.func176 rfl 21 rfl rfl (fun R hR => ?_)
  refine Cd.seq (fun K1 hK1 => ?_)
  refine Cd.region [0, 1, 2] rfl ?_
  refine Seq.op at0 rfl (Op.new rfl (O.box (v := .agg _) rfl (cs := (Stamp_enc s)) rfl) ?_)
  intro b2 hb2
  refine Seq.op at1 rfl (Op.new rfl (O.alloc zo_242 (cs := (Version_enc Version.zero)) rfl) ?_)
  intro b3 hb3
  refine Seq.rd0 at2 rfl rfl (O.assign (v := .bool _) rfl) ?_
  refine Seq.nil ?_
  refine hK1 ?_
  refine Cd.seq (fun K4 hK4 => ?_)
  refine Cd.region [0, 1, 2, 3] rfl ?_
  refine Seq.rd0 at0 rfl rfl (O.move (v := .pointer _) rfl) ?_
  refine Seq.rd1 at1 rfl rfl (O.loadA kd_24 rfl (Nat.le_of_ble_eq_true rfl) (Stamp_all _)) Rd.head.cons ?_
  refine Seq.op at2 rfl (Op.callF rfl hb_226 (C_until hs hn (.inr ⟨_, _, _, hcb.cons.cons, ha.cons.cons⟩)) rfl ?_)
  rintro _ _ ⟨rfl, rfl⟩
  have hul := upto_le (s := s) hs
  refine Seq.rd0 at3 rfl rfl (O.assign (v := .int .i64 _) rfl) ?_
  refine Seq.nil ?_
  refine hK4 ?_
  refine Cd.seq (fun K5 hK5 => ?_)
  refine Cd.seq (fun K6 hK6 => ?_)
  refine Cd.region [0, 1] rfl ?_
  refine Seq.rd0 at0 rfl rfl (O.move (v := .int .i64 _) rfl) ?_
  refine Seq.rd0 at1 rfl rfl (O.eqI rfl rfl) ?_
  refine Seq.nil ?_
  refine hK6 ?_
  refine Cd.if (((upto vs s : Nat) : Int) = 0) rfl (fun t7 => ?_) (fun t7 => ?_)
  · skip
    refine Cd.seq (fun K8 hK8 => ?_)
    refine Cd.region [0, 1, 2] rfl ?_
    refine Seq.rd0 at0 rfl rfl (O.build rfl (cs := (Version_enc Version.zero)) (by kernel_rfl)) ?_
    refine Seq.op at1 rfl (Op.set0 rfl (O.store kd_242 rfl (v := .agg _) rfl (Version_size _) (Version_room (Version_size _)) (Version_one _) (Version_put _ (Version_size _))) ?_)
    refine Seq.rd0 at2 rfl rfl (O.assign (v := .bool _) rfl) ?_
    refine Seq.nil ?_
    refine hK8 ?_
    refine Cd.ret ?_
    exact hR _ _ (Res.cell2 (v := .bool _) rfl kd_242 rfl rfl Rd.head rfl) ⟨by rw [at_none (by assumption)]; rfl, rfl⟩ (.cons _ (.cons _ (.refl _)))
  · skip
    refine Cd.skip ?_
    refine hK5 ?_
    refine Cd.seq (fun K9 hK9 => ?_)
    refine Cd.region [0, 1, 2, 3, 4, 5, 6, 7, 8, 9] rfl ?_
    refine Seq.rd0 at0 rfl rfl (O.move (v := .pointer _) rfl) ?_
    refine Seq.rd0 at1 rfl rfl (O.nilP rfl) ?_
    refine Seq.rd0 at2 rfl rfl (O.field fo_300_0 rfl) ?_
    refine Seq.rd1 at3 rfl rfl (O.load kd_239 rfl r1_0) hcb.cons.cons ?_
    refine Seq.rd0 at4 rfl rfl (O.move (v := .int .i64 _) rfl) ?_
    refine Seq.rd0 at5 rfl rfl (O.sub rfl rfl (by omega) (by omega)) ?_
    refine Seq.rd0 at6 rfl rfl (O.index sl_239 rfl rfl (by omega) (by omega)) ?_
    refine Seq.rd1 at7 rfl rfl (O.loadA kd_242 rfl (rowRoom Version_size (uptoN hs (by assumption))) (rowAt Version_size (uptoN hs (by assumption)))) ha.cons.cons ?_
    refine Seq.op at8 rfl (Op.set0 rfl (O.store kd_242 rfl (v := .agg _) rfl (Version_size _) (Version_room (Version_size _)) (Version_one _) (Version_put _ (Version_size _))) ?_)
    refine Seq.rd0 at9 rfl rfl (O.assign (v := .bool _) rfl) ?_
    refine Seq.nil ?_
    refine hK9 ?_
    refine Cd.ret ?_
    exact hR _ _ (Res.cell2 (v := .bool _) rfl kd_242 rfl rfl Rd.head rfl) ⟨by rw [at_some hs (by assumption)]; rfl, rfl⟩ (.cons _ (.cons _ (.refl _)))

theorem C_chain_At {c : Cx} {L : List Pt} {cb : Nat} {vs : List Version} {s : Stamp} (hs : Sorted vs) (hn : vs.length < 4611686018427387904) (h : ChAt c L cb vs) : Fn Tryz.prog 176 #[.pointer (some ⟨cb, 0, none⟩), .agg (Stamp_enc s)] c L (fun v L' => v = .tuple #[.agg (Version_enc ((atV vs s).getD .zero)), .bool (atV vs s).isSome] ∧ L' = L) := by
  rcases h with ⟨rfl, h1⟩ | ⟨a, cap, sp, h1, h2⟩
  · exact C_chain_At_nil h1
  · exact C_chain_At_some hs hn h1 h2

set_option maxRecDepth 100000 in
set_option maxHeartbeats 2000000 in
theorem C_chain_New {c : Cx} {L : List Pt}  : Fn Tryz.prog 218 #[] c L (fun v L' => ∃ b, c.w0.heap.size ≤ b ∧ v = .pointer (some ⟨b, 0, none⟩) ∧ L' = (b, .cells #[.slice none 0 0] 300 (0, 0)) :: L) := by
  refine Fn.enter Tryz.func218 rfl 3 rfl rfl (fun R hR => ?_)
  refine Cd.seq (fun K1 hK1 => ?_)
  refine Cd.region [0] rfl ?_
  refine Seq.rd0 at0 rfl rfl (O.assign (v := .pointer _) rfl) ?_
  refine Seq.nil ?_
  refine hK1 ?_
  refine Cd.seq (fun K2 hK2 => ?_)
  refine Cd.region [0, 1, 2] rfl ?_
  refine Seq.rd0 at0 rfl rfl (O.build rfl (cs := (Chain_enc Chain.zero)) (by kernel_rfl)) ?_
  refine Seq.op at1 rfl (Op.new rfl (O.box (v := .agg _) rfl (cs := (Chain_enc Chain.zero)) rfl) ?_)
  intro b3 hb3
  refine Seq.rd0 at2 rfl rfl (O.assign (v := .pointer _) rfl) ?_
  refine Seq.nil ?_
  refine hK2 ?_
  refine Cd.ret ?_
  exact hR _ _ (Res.one (v := .pointer _) rfl rfl) ⟨_, hb3, rfl, rfl⟩ (.refl _)

end Go.X

/- The engine, part 6: maps. -/
namespace Go.X
section alist
variable {K V : Type} [DecidableEq K]
def alook : List (K × V) → K → Option V
  | [], _ => none
  | (y, u) :: l, x => if y = x then some u else alook l x
def aput : List (K × V) → K → V → List (K × V)
  | [], x, v => [(x, v)]
  | (y, u) :: l, x, v => if y = x then (x, v) :: l else (y, u) :: aput l x v
def adel : List (K × V) → K → List (K × V)
  | [], _ => []
  | (y, u) :: l, x => if y = x then l else (y, u) :: adel l x
theorem alook_none {x : K} : ∀ {l : List (K × V)}, x ∉ l.map Prod.fst → alook l x = none ∧ (∀ v, aput l x v = l ++ [(x, v)]) ∧ adel l x = l
  | [], _ => ⟨rfl, fun _ => rfl, rfl⟩
  | (y, u) :: l, h => by
    simp only [List.map_cons, List.mem_cons, not_or] at h
    obtain ⟨h1, h2, h3⟩ := alook_none (l := l) h.2
    have hne : ¬ y = x := fun e => h.1 e.symm
    exact ⟨by simp [alook, hne, h1], fun v => by simp [aput, hne, h2], by simp [adel, hne, h3]⟩
theorem alook_at {x : K} {v : V} : ∀ {l : List (K × V)} {j : Nat}, (l.map Prod.fst).Nodup → l[j]? = some (x, v) →
    alook l x = some v ∧ (∀ u, aput l x u = l.set j (x, u)) ∧ adel l x = l.eraseIdx j
  | (y, u) :: l, 0, _, h => by
    obtain ⟨rfl, rfl⟩ : y = x ∧ u = v := by simpa using h
    exact ⟨by simp [alook], fun _ => by simp [aput], by simp [adel]⟩
  | (y, u) :: l, j + 1, hn, h => by
    simp only [List.map_cons, List.nodup_cons] at hn
    have h' : l[j]? = some (x, v) := by simpa using h
    have hm : x ∈ l.map Prod.fst := List.mem_map.2 ⟨(x, v), List.mem_of_getElem? h', rfl⟩
    have hne : ¬ y = x := fun e => hn.1 (e ▸ hm)
    obtain ⟨h1, h2, h3⟩ := alook_at hn.2 h'
    exact ⟨by simp [alook, hne, h1], fun w => by simp [aput, hne, h2], by simp [adel, hne, h3]⟩
theorem alook_mem {x : K} {v : V} : ∀ {l : List (K × V)}, alook l x = some v → (x, v) ∈ l
  | (y, u) :: l, h => by
    unfold alook at h
    split at h
    · rename_i he; subst he; obtain rfl := Option.some.inj h; simp
    · exact List.mem_cons_of_mem _ (alook_mem h)
theorem map_erase {α β : Type} (f : α → β) : ∀ (l : List α) (j : Nat), (l.eraseIdx j).map f = (l.map f).eraseIdx j
  | [], _ => rfl
  | _ :: _, 0 => rfl
  | _ :: l, j + 1 => congrArg (_ :: ·) (map_erase f l j)
theorem alook_put_same (x : K) (v : V) : ∀ l : List (K × V), alook (aput l x v) x = some v
  | [] => by simp [aput, alook]
  | (y, u) :: l => by
    unfold aput
    split
    · simp [alook]
    · rename_i h; simp [alook, h, alook_put_same x v l]
theorem alook_put_ne {x y : K} (v : V) (h : y ≠ x) : ∀ l : List (K × V), alook (aput l x v) y = alook l y
  | [] => by simp [aput, alook, Ne.symm h]
  | (z, u) :: l => by
    unfold aput
    split
    · rename_i hz; subst hz; simp [alook, Ne.symm h]
    · simp only [alook]; split
      · rfl
      · exact alook_put_ne v h l
theorem aput_keys (x : K) (v : V) : ∀ l : List (K × V), ∀ y, y ∈ (aput l x v).map Prod.fst ↔ y = x ∨ y ∈ l.map Prod.fst
  | [], y => by simp [aput]
  | (z, u) :: l, y => by
    unfold aput
    split
    · rename_i hz; subst hz; simp
    · simp only [List.map_cons, List.mem_cons, aput_keys x v l y]
      constructor <;> (intro h; rcases h with h | h | h <;> simp [h])
theorem aput_nodup (x : K) (v : V) : ∀ {l : List (K × V)}, (l.map Prod.fst).Nodup → ((aput l x v).map Prod.fst).Nodup
  | [], _ => by simp [aput]
  | (z, u) :: l, h => by
    simp only [List.map_cons, List.nodup_cons] at h
    unfold aput
    split
    · rename_i hz; subst hz; simpa using h
    · rename_i hz
      simp only [List.map_cons, List.nodup_cons]
      refine ⟨fun hm => ?_, aput_nodup x v h.2⟩
      rcases (aput_keys x v l z).1 hm with h1 | h1
      · exact hz h1
      · exact h.1 h1
theorem adel_keys {x : K} : ∀ {l : List (K × V)}, (l.map Prod.fst).Nodup → ∀ y, y ∈ (adel l x).map Prod.fst ↔ y ≠ x ∧ y ∈ l.map Prod.fst
  | [], _, y => by simp [adel]
  | (z, u) :: l, h, y => by
    simp only [List.map_cons, List.nodup_cons] at h
    unfold adel
    split
    · rename_i hz; subst hz
      simp only [List.map_cons, List.mem_cons]
      constructor
      · intro hy; exact ⟨fun e => h.1 (e ▸ hy), .inr hy⟩
      · rintro ⟨h1, h2 | h2⟩
        · exact absurd h2 h1
        · exact h2
    · rename_i hz
      simp only [List.map_cons, List.mem_cons, adel_keys h.2 y]
      constructor
      · rintro (h1 | ⟨h1, h2⟩)
        · subst h1; exact ⟨hz, .inl rfl⟩
        · exact ⟨h1, .inr h2⟩
      · rintro ⟨h1, h2 | h2⟩
        · exact .inl h2
        · exact .inr ⟨h1, h2⟩
theorem adel_sub (x : K) : ∀ l : List (K × V), (adel l x).Sublist l
  | [] => .slnil
  | (z, u) :: l => by
    unfold adel
    split
    · exact List.sublist_cons_self _ _
    · exact .cons_cons _ (adel_sub x l)
theorem alook_del_ne {x y : K} (h : y ≠ x) : ∀ l : List (K × V), alook (adel l x) y = alook l y
  | [] => rfl
  | (z, u) :: l => by
    unfold adel
    split
    · rename_i hz; subst hz; simp [alook, Ne.symm h]
    · simp only [alook]; split
      · rfl
      · exact alook_del_ne h l
theorem alook_del_same {x : K} {l : List (K × V)} (h : (l.map Prod.fst).Nodup) : alook (adel l x) x = none :=
  (alook_none (fun hm => ((adel_keys h x).1 hm).1 rfl)).1
end alist

section
variable {P : Program} {n : Sz} {e : Env} {d : Option Tmp} {ty : TypeId} {p : String} {af : Array Edge} {g : Option (Nat × Bool)}
variable {c : Cx} {L : List Pt} {x y z : Operand} {v v' : Value}
variable {K V : Type} {encK : K → Value} {encV : V → Value}

/-- the block of a map holds the list l -/
structure MapIs (encK : K → Value) (encV : V → Value) (es : Array MapEntry) (ck : Nat) (l : List (K × V)) : Prop where
  ents : es.toList.map (fun q => (q.key, q.val)) = l.map (fun q => (encK q.1, encV q.2))
  keys : (l.map Prod.fst).Nodup
  born : (es.toList.map (·.born)).Nodup
  clock : ∀ q ∈ es.toList, q.born < ck

theorem MapIs.size {es : Array MapEntry} {ck : Nat} {l : List (K × V)} (h : MapIs encK encV es ck l) : es.size = l.length := by
  have := congrArg List.length h.ents
  simpa using this
theorem MapIs.nil : MapIs encK encV #[] 0 [] := ⟨rfl, by simp, by simp, by simp⟩
theorem MapIs.at_ {es : Array MapEntry} {ck : Nat} {l : List (K × V)} (h : MapIs encK encV es ck l) {j : Nat} {q : MapEntry} (hj : es.toList[j]? = some q) :
    ∃ x v, l[j]? = some (x, v) ∧ q.key = encK x ∧ q.val = encV v := by
  have h1 := congrArg (fun l => l[j]?) h.ents
  simp only [List.getElem?_map, hj, Option.map_some] at h1
  cases hl : l[j]? with
  | none => rw [hl] at h1; cases h1
  | some r =>
    rw [hl] at h1
    simp only [Option.map_some, Option.some.injEq, Prod.mk.injEq] at h1
    exact ⟨r.1, r.2, rfl, h1.1, h1.2⟩

theorem run_find [DecidableEq K] {k : TypeId} (KK : IsKey P k encK) {es : Array MapEntry} {ck : Nat} {l : List (K × V)} (h : MapIs encK encV es ck l) (x : K) (w : World) :
    (x ∉ l.map Prod.fst ∧ (Instr.findKey k (encK x) es.toList).run P w = .ok none w) ∨
    ∃ j v q, l[j]? = some (x, v) ∧ es.toList[j]? = some q ∧ q.key = encK x ∧ (Instr.findKey k (encK x) es.toList).run P w = .ok (some (j, encV v)) w := by
  obtain ⟨lx, hx⟩ := KK.key x
  have hall : ∀ q ∈ es.toList, ∃ l, keyOf P k q.key = some l := by
    intro q hq
    obtain ⟨j, hj, rfl⟩ := List.getElem_of_mem hq
    obtain ⟨y, v, _, hk, _⟩ := h.at_ (List.getElem?_eq_getElem hj)
    rw [hk]; exact KK.key y
  rcases KK.law.find w hx es.toList hall with ⟨h1, h2⟩ | ⟨j, q, h1, h2, h3⟩
  · refine .inl ⟨fun hm => ?_, h1⟩
    obtain ⟨r, hr, rfl⟩ := List.mem_map.1 hm
    have : (encK r.1, encV r.2) ∈ es.toList.map (fun q => (q.key, q.val)) := by
      rw [h.ents]; exact List.mem_map.2 ⟨r, hr, rfl⟩
    obtain ⟨q, hq, he⟩ := List.mem_map.1 this
    simp only [Prod.mk.injEq] at he
    exact h2 q hq he.1
  · obtain ⟨y, v, hl, hk, hv⟩ := h.at_ h2
    have : y = x := KK.inj _ _ (hk.symm.trans h3)
    subst this
    exact .inr ⟨j, v, q, hl, h2, h3, by rw [h1, hv]⟩

theorem run_check {k : TypeId} (KK : IsKey P k encK) (x : K) (em : Bool) (w : World) : (Instr.checkKey em 10000 k (encK x)).run P w = .ok () w := by
  obtain ⟨lx, hx⟩ := KK.key x
  exact KK.law.check w em hx
theorem run_getMap {w : World} {b : Nat} {es : Array MapEntry} {ck : Nat} (h : w.heap[b]? = some (.map es ck)) : (getObj b).run P w = .ok (.map es ck) w := by
  simp [getObj, Sem.run, h]
theorem run_setMap {w : World} {b : Nat} {o : Obj} {es : Array MapEntry} {ck : Nat} (h : w.heap[b]? = some (.map es ck)) : (setObj b o).run P w = .ok () (setBlk w b o) := by
  simp [setObj, Sem.run, h, setBlk]

/-- a look-up of a key that is there -/
theorem O.lookS [DecidableEq K] {t k el b : Nat} {ok : Bool} {es : Array MapEntry} {ck : Nat} {l : List (K × V)} {a : K} {u : V} (ht : P.underlying t = some (.map k el)) (KK : IsKey P k encK) (h : MapIs encK encV es ck l)
    (hx : ev e x = .map (some b)) (hy : ev e y = encK a) (hl : alook l a = some u) :
    Rn1 P e ⟨d, .lookup t x y ok, ty, p, af, g⟩ b (.map es ck) (if ok then .tuple #[encV u, .bool true] else encV u) := fun w hb => by
  have hf : ∃ j, (Instr.findKey k (encK a) es.toList).run P w = .ok (some (j, encV u)) w := by
    rcases run_find KK h a w with ⟨h1, _⟩ | ⟨j, v, q, h1, h2, h3, h4⟩
    · rw [(alook_none h1).1] at hl; cases hl
    · rw [(alook_at h.keys h1).1] at hl
      obtain rfl := Option.some.inj hl
      exact ⟨j, h4⟩
  obtain ⟨j, hf⟩ := hf
  cases ok <;> simp [execOp, Instr.lookup, hx, hy, run_under ht, run_getMap hb, run_check KK, hf]
/-- a look-up of a key that is not there -/
theorem O.lookN [DecidableEq K] {t k el b : Nat} {ok : Bool} {es : Array MapEntry} {ck : Nat} {l : List (K × V)} {a : K} {zv : Value} (ht : P.underlying t = some (.map k el)) (KK : IsKey P k encK) (h : MapIs encK encV es ck l)
    (hz : zeroOf P el = some zv) (hx : ev e x = .map (some b)) (hy : ev e y = encK a) (hl : alook l a = none) :
    Rn1 P e ⟨d, .lookup t x y ok, ty, p, af, g⟩ b (.map es ck) (if ok then .tuple #[zv, .bool false] else zv) := fun w hb => by
  have hf : (Instr.findKey k (encK a) es.toList).run P w = .ok none w := by
    rcases run_find KK h a w with ⟨_, h1⟩ | ⟨j, v, q, h1, _⟩
    · exact h1
    · rw [(alook_at h.keys h1).1] at hl; cases hl
  cases ok <;> simp [execOp, Instr.lookup, hx, hy, run_under ht, run_getMap hb, run_check KK, hf, run_zero hz]

theorem MapIs.put [DecidableEq K] {k : TypeId} {es : Array MapEntry} {ck : Nat} {l : List (K × V)} (h : MapIs encK encV es ck l) (a : K) (u : V) :
    (a ∉ l.map Prod.fst → MapIs encK encV (es.push { key := encK a, val := encV u, born := ck }) (ck + 1) (aput l a u)) ∧
    (∀ j v q, l[j]? = some (a, v) → es.toList[j]? = some q → MapIs encK encV (es.modify j fun r => { r with key := encK a, val := encV u }) ck (aput l a u)) := by
  constructor
  · intro hm
    rw [(alook_none hm).2.1 u]
    refine ⟨?_, ?_, ?_, ?_⟩
    · simp [h.ents]
    · rw [List.map_append, List.nodup_append]
      exact ⟨h.keys, by simp, fun r hr s hs e => by simp at hs; subst hs; subst e; exact hm hr⟩
    · rw [Array.toList_push, List.map_append, List.nodup_append]
      refine ⟨h.born, by simp, fun r hr s hs e => ?_⟩
      simp at hs; subst hs; subst e
      obtain ⟨q, hq, hqe⟩ := List.mem_map.1 hr
      have := h.clock q hq
      omega
    · intro q hq
      rw [Array.toList_push] at hq
      rcases List.mem_append.1 hq with hq | hq
      · have := h.clock q hq; omega
      · simp at hq; subst hq; simp
  · intro j v q hl hq
    obtain ⟨_, h2, _⟩ := alook_at h.keys hl
    rw [h2 u]
    have hj : j < es.size := by
      rcases Nat.lt_or_ge j es.toList.length with h' | h'
      · simpa using h'
      · rw [List.getElem?_eq_none h'] at hq; cases hq
    have hjl : j < l.length := by rw [← h.size]; exact hj
    have htl : (es.modify j fun r => { r with key := encK a, val := encV u }).toList = es.toList.modify j (fun r => { r with key := encK a, val := encV u }) := by simp
    refine ⟨?_, ?_, ?_, ?_⟩
    · rw [htl]
      apply List.ext_getElem?
      intro i
      have hi := congrArg (fun l => l[i]?) h.ents
      simp only [List.getElem?_map] at hi
      simp only [List.getElem?_map, List.getElem?_modify, List.getElem?_set]
      by_cases hij : j = i
      · subst hij
        simp [hq, hjl]
      · simp only [hij, if_false]
        cases he : es.toList[i]? <;> simp [he] at hi ⊢ <;> exact hi
    · have : (l.set j (a, u)).map Prod.fst = l.map Prod.fst := by
        apply List.ext_getElem?
        intro i
        simp only [List.getElem?_map, List.getElem?_set]
        by_cases hij : j = i
        · subst hij; simp [hjl, hl]
          have := List.getElem?_eq_getElem hjl
          rw [hl] at this
          simp [← Option.some.inj this]
        · simp [hij]
      rw [this]; exact h.keys
    · have : (es.toList.modify j (fun r => { r with key := encK a, val := encV u })).map (·.born) = es.toList.map (·.born) := by
        apply List.ext_getElem?
        intro i
        simp only [List.getElem?_map, List.getElem?_modify]
        by_cases hij : j = i
        · subst hij; simp [hq]
        · simp [hij]
      rw [htl, this]; exact h.born
    · intro r hr
      rw [htl] at hr
      obtain ⟨i, hi, rfl⟩ := List.getElem_of_mem hr
      rw [List.getElem_modify]
      simp only [List.length_modify] at hi
      have hc : es.toList[i].born < ck := h.clock _ (List.getElem_mem hi)
      split <;> exact hc

/-- 'm[k] = v' -/
theorem O.mapSet [DecidableEq K] {t k el b : Nat} {es : Array MapEntry} {ck : Nat} {l : List (K × V)} {a : K} {u : V} (ht : P.underlying t = some (.map k el)) (KK : IsKey P k encK) (h : MapIs encK encV es ck l)
    (hx : ev e x = .map (some b)) (hy : ev e y = encK a) (hz : ev e z = encV u) {A B : List Pt} (hL : L = A ++ (b, .map es ck) :: B) :
    Eg P e ⟨d, .mapUpdate t x y z, ty, p, af, g⟩ c L (fun v L' => v = undef ∧ ∃ es' ck', MapIs encK encV es' ck' (aput l a u) ∧ L' = A ++ (b, .map es' ck') :: B) := by
  subst hL
  intro w hw
  have hb := hw.look (b, .map es ck) (by simp)
  have hput := MapIs.put (k := k) h a u
  rcases run_find KK h a w with ⟨h1, h2⟩ | ⟨j, v, q, h1, h2, h3, h4⟩
  · refine ⟨undef, _, _, .inr ⟨?_, rfl⟩, ⟨rfl, _, _, hput.1 h1, rfl⟩, hw.set⟩
    simp [execOp, Instr.mapUpdate, hx, hy, hz, run_under ht, run_getMap hb, run_check KK, h2, run_setMap hb]
  · obtain ⟨lx, hlx⟩ := KK.key a
    have hst := KK.law.stays w hlx
    have hq : es[j]? = some q := by simpa using h2
    refine ⟨undef, _, _, .inr ⟨?_, rfl⟩, ⟨rfl, _, _, hput.2 j v q h1 h2, rfl⟩, hw.set⟩
    simp [execOp, Instr.mapUpdate, hx, hy, hz, run_under ht, run_getMap hb, run_check KK, h4, hq, h3, hst, run_setMap hb]

/-- 'delete(m, k)' -/
theorem O.mapDel [DecidableEq K] {t k kt el b : Nat} {es : Array MapEntry} {ck : Nat} {l : List (K × V)} {a : K} (ht : P.underlying t = some (.map k el)) (KK : IsKey P k encK) (h : MapIs encK encV es ck l)
    (hx : ev e x = .map (some b)) (hy : ev e y = encK a) {A B : List Pt} (hL : L = A ++ (b, .map es ck) :: B) :
    Eg P e ⟨d, .call { callee := .builtin .delete, args := #[x, y], argTypes := #[t, kt] }, ty, p, af, g⟩ c L (fun v L' => v = .tuple #[] ∧ ∃ es', MapIs encK encV es' ck (adel l a) ∧ L' = A ++ (b, .map es' ck) :: B) := by
  subst hL
  intro w hw
  have hb := hw.look (b, .map es ck) (by simp)
  rcases run_find KK h a w with ⟨h1, h2⟩ | ⟨j, v, q, h1, h2, h3, h4⟩
  · refine ⟨_, _, _, .inl ?_, ⟨rfl, es, by rw [(alook_none h1).2.2]; exact h, rfl⟩, hw.set⟩
    simp [execOp, resolve, invoke, builtin, Builtin.delete_, hx, hy, run_under ht, run_getMap hb, run_check KK, h2, run_setMap hb]
  · have hj : j < es.size := by
      rcases Nat.lt_or_ge j es.toList.length with h' | h'
      · simpa using h'
      · rw [List.getElem?_eq_none h'] at h2; cases h2
    have htl : (es.eraseIdxIfInBounds j).toList = es.toList.eraseIdx j := by
      simp [Array.eraseIdxIfInBounds, hj]
    refine ⟨_, _, _, .inl ?_, ⟨rfl, es.eraseIdxIfInBounds j, ?_, rfl⟩, hw.set⟩
    · simp [execOp, resolve, invoke, builtin, Builtin.delete_, hx, hy, run_under ht, run_getMap hb, run_check KK, h4, run_setMap hb]
    · rw [(alook_at h.keys h1).2.2]
      refine ⟨?_, ?_, ?_, ?_⟩
      · rw [htl, map_erase, map_erase, h.ents]
      · rw [map_erase]; exact (List.eraseIdx_sublist _ _).nodup h.keys
      · rw [htl, map_erase]; exact (List.eraseIdx_sublist _ _).nodup h.born
      · intro r hr; rw [htl] at hr; exact h.clock r (List.mem_of_mem_eraseIdx hr)
end
end Go.X

/- The engine, part 7: append in place, owned slices; going over a map. -/
namespace Go.X
section
variable {P : Program} {n : Sz} {e : Env} {d : Option Tmp} {ty : TypeId} {p : String} {af : Array Edge} {g : Option (Nat × Bool)}
variable {c : Cx} {L : List Pt} {x y z : Operand} {v v' : Value}

theorem Eg.mono {o : Oper} {post post' : Value → List Pt → Prop} (h : Eg P e o c L post) (hp : ∀ v L', post v L' → ∃ L'', post' v L'' ∧ L'.Perm L'') : Eg P e o c L post' := fun w hw => by
  obtain ⟨v, w', L', h1, h2, h3⟩ := h w hw
  obtain ⟨L'', h4, h5⟩ := hp v L' h2
  exact ⟨v, w', L'', h1, h4, h3.perm h5⟩
theorem Eg.perm {o : Oper} {L2 : List Pt} {post : Value → List Pt → Prop} (h : Eg P e o c L post) (hp : L2.Perm L) : Eg P e o c L2 post := fun w hw => h w (hw.perm hp)

/-! ## append in place -/
theorem putL_mid : ∀ (vs pre mid post : List Value) (cs : Array Value), cs.toList = pre ++ (mid ++ post) → mid.length = vs.length →
    (putL cs pre.length vs).toList = pre ++ (vs ++ post)
  | [], pre, mid, post, cs, h, hl => by
    obtain rfl : mid = [] := List.length_eq_zero_iff.1 hl
    simpa [putL] using h
  | v :: vs, pre, mid, post, cs, h, hl => by
    cases mid with
    | nil => simp at hl
    | cons m mid =>
      simp only [List.length_cons, Nat.add_right_cancel_iff] at hl
      have := putL_mid vs (pre ++ [v]) mid post (cs.setIfInBounds pre.length v) (by simp [h]) hl
      simp only [List.length_append, List.length_cons, List.length_nil, Nat.zero_add] at this
      simp only [putL, this, List.append_assoc, List.cons_append, List.nil_append]

theorem O.appendIn {t t2 el sz by_ m k cap b : Nat} {zv : Value} {old mid post new : Array Value} (ht : elemInfo P t = some (el, sz, by_, zv)) (ht2 : isDesc P t2 = 5)
    (hx : ev e x = .slice (some ⟨b, 0, none⟩) m cap) (hk : Src c ((b, .cells (old ++ (mid ++ post)) el (0, 0)) :: L) sz (ev e y) k new) (hone : ∀ u ∈ new.toList, Value.oneCell' u = true)
    (hroom : m + k ≤ cap) (ho : old.size = m * sz) (hmid : mid.size = k * sz) :
    Eg P e ⟨d, .call { callee := .builtin .append, args := #[x, y], argTypes := #[t, t2] }, ty, p, af, g⟩ c ((b, .cells (old ++ (mid ++ post)) el (0, 0)) :: L)
      (fun v L' => v = .slice (some ⟨b, 0, none⟩) (m + k) cap ∧ L' = (b, .cells (old ++ (new ++ post)) el (0, 0)) :: L) := by
  intro w hw
  obtain ⟨hu, i, hi, rfl, rfl, hz, hzs⟩ := elem_parts ht
  obtain ⟨el2, hu2⟩ := desc_slice ht2
  have hf2 := hk.run (P := P) hw
  have hl := hk.len (P := P) w
  have hns := hk.size
  have hb := hw.look _ (List.mem_cons_self)
  have hst := run_storeL (P := P) (el := el) new.toList w (m * i.size) 0 _ hb (by simp [ho, hns, hmid]) hone
  have hput : putL (old ++ (mid ++ post)) (m * i.size + 0) new.toList = old ++ (new ++ post) := by
    apply Array.ext'
    have := putL_mid new.toList old.toList mid.toList post.toList (old ++ (mid ++ post)) (by simp) (by simp [hmid, hns])
    simpa [ho] using this
  rw [hput] at hst
  refine ⟨_, _, _, .inl ?_, ⟨rfl, rfl⟩, St.set (A := []) hw⟩
  simp [execOp, resolve, invoke, builtin, Builtin.append_, hx, run_under hu, run_under hu2, run_size hi, hl, hroom, hf2, Addr.add_none, hst]

/-- a slice that is ours alone: m elements, whose cells are old -/
def OwnSl (el sz : Nat) (old : Array Value) (m : Nat) (v : Value) (Ls : List Pt) : Prop :=
  (m = 0 ∧ old = #[] ∧ v = .slice none 0 0 ∧ Ls = []) ∨
  (∃ b cap sp, v = .slice (some ⟨b, 0, none⟩) m cap ∧ m ≤ cap ∧ sp.size = (cap - m) * sz ∧ old.size = m * sz ∧ Ls = [(b, .cells (old ++ sp) el (0, 0))])

theorem OwnSl.src {el sz m : Nat} {old : Array Value} {Ls R : List Pt} (h : OwnSl el sz old m v Ls) : Src c (Ls ++ R) sz v m old := by
  rcases h with ⟨rfl, rfl, rfl, rfl⟩ | ⟨b, cap, sp, rfl, h1, h2, h3, rfl⟩
  · exact .inl ⟨none, 0, rfl, rfl, rfl⟩
  · refine .inr ⟨b, 0, cap, _, _, _, rfl, .head, by simp [h3], ?_⟩
    simp [← h3]
theorem OwnSl.size {el sz m : Nat} {old : Array Value} {Ls : List Pt} (h : OwnSl el sz old m v Ls) : old.size = m * sz := by
  rcases h with ⟨rfl, rfl, rfl, rfl⟩ | ⟨b, cap, sp, rfl, h1, h2, h3, rfl⟩
  · simp
  · exact h3

theorem O.appendOwn {t t2 el sz by_ m k : Nat} {zv : Value} {old new : Array Value} {Ls R : List Pt} (ht : elemInfo P t = some (el, sz, by_, zv)) (ht2 : isDesc P t2 = 5) (hby : by_ ≠ 0)
    (hx : ev e x = v) (ho : OwnSl el sz old m v Ls) (hk : Src c (Ls ++ R) sz (ev e y) k new) (hone : ∀ u ∈ new.toList, Value.oneCell' u = true) (hk0 : 0 < k)
    (hroom : (2 * (m + k) + 192) * by_ ≤ 281474976710656) :
    Eg P e ⟨d, .call { callee := .builtin .append, args := #[x, y], argTypes := #[t, t2] }, ty, p, af, g⟩ c (Ls ++ R)
      (fun v' L' => ∃ Ls', OwnSl el sz (old ++ new) (m + k) v' Ls' ∧ L' = Ls' ++ R) := by
  have hsrc := ho.src (c := c) (R := R)
  have hns := hk.size
  have hsz := ho.size
  rcases ho with ⟨rfl, rfl, rfl, rfl⟩ | ⟨b, cap, sp, rfl, h1, h2, h3, rfl⟩
  · intro w hw
    obtain ⟨v', w', L', h1, ⟨b, cap', sp, h2, h3, h4, rfl, rfl⟩, h5⟩ := O.appendGrow (d := d) (ty := ty) (p := p) (af := af) (g := g) ht ht2 hby hx hsrc hk (by omega) hroom w hw
    exact ⟨_, _, _, h1, ⟨[(b, _)], .inr ⟨b, cap', sp, rfl, h3, h4, by simp [hns], rfl⟩, rfl⟩, h5⟩
  · by_cases hc : m + k ≤ cap
    · have hks : k * sz ≤ sp.size := by
        rw [h2]; exact Nat.mul_le_mul_right _ (by omega)
      have hsp : sp = sp.extract 0 (k * sz) ++ sp.extract (k * sz) sp.size := by
        simp [Nat.max_eq_right hks]
      intro w hw
      rw [hsp] at hw hk
      obtain ⟨v', w', L', h4, ⟨rfl, rfl⟩, h5⟩ := O.appendIn (d := d) (ty := ty) (p := p) (af := af) (g := g) (L := R) (mid := sp.extract 0 (k * sz)) (post := sp.extract (k * sz) sp.size) ht ht2 hx (by simpa using hk) hone hc h3 (by simp; omega) w (by simpa using hw)
      refine ⟨_, _, _, h4, ⟨[(b, _)], .inr ⟨b, cap, sp.extract (k * sz) sp.size, rfl, hc, ?_, ?_, ?_⟩, rfl⟩, h5⟩
      · simp only [Array.size_extract, h2, Nat.min_self]; rw [Nat.sub_add_eq, Nat.sub_mul (cap - m)]
      · simp [h3, hns, Nat.add_mul]
      · simp
    · intro w hw
      obtain ⟨v', w', L', h4, ⟨b', cap', sp', h5, h6, h7, rfl, rfl⟩, h8⟩ := O.appendGrow (d := d) (ty := ty) (p := p) (af := af) (g := g) ht ht2 hby hx hsrc hk (by omega) hroom w hw
      exact ⟨_, _, _, h4, ⟨[(b', _)], .inr ⟨b', cap', sp', rfl, h6, h7, by simp [h3, hns, Nat.add_mul], rfl⟩, rfl⟩, h8.sub (by simp)⟩

/-! ## going over a map -/
variable {K V : Type} {encK : K → Value} {encV : V → Value}
/-- an iterator's block: what is still to come; and what the last step gave -/
structure ItIs (encK : K → Value) (encV : V → Value) (es : Array MapEntry) (ck bm : Nat) (rest : List (K × V)) (it : Obj) : Prop where
  ex : ∃ since seen c0, it = .mapIter (some bm) since seen c0 ∧ (∀ q ∈ es.toList, q.born < since) ∧ since ≤ c0 ∧ since ≤ ck ∧
    (leftOf es seen).toList.map (fun q => (q.key, q.val)) = rest.map (fun q => (encK q.1, encV q.2))


/-- 'range m' -/
theorem O.range {t k el bm : Nat} {es : Array MapEntry} {ck : Nat} {l : List (K × V)} (ht : P.underlying t = some (.map k el)) (h : MapIs encK encV es ck l) (hx : ev e x = .map (some bm)) (hr : Rd c L bm (.map es ck)) :
    Eg P e ⟨d, .range t x, ty, p, af, g⟩ c L (fun v L' => ∃ b it, c.w0.heap.size ≤ b ∧ v = .pointer (some ⟨b, 0, none⟩) ∧ ItIs encK encV es ck bm l it ∧ L' = (b, it) :: L) := by
  intro w hw
  refine ⟨_, _, _, .inl ?_, ⟨w.heap.size, .mapIter (some bm) ck #[] ck, hw.mod.size, rfl, ⟨⟨ck, #[], ck, rfl, h.clock, Nat.le_refl _, Nat.le_refl _, ?_⟩⟩, rfl⟩, hw.new _⟩
  · simp [execOp, Instr.range, hx, run_under ht, run_getMap (hr w hw)]
  · rw [← h.ents]; simp [leftOf, List.filter_eq_self.2 (fun _ _ => rfl)]

theorem nodup_filter_erase {es : List MapEntry} (hn : (es.map (·.born)).Nodup) {seen : Array Nat} {j : Nat} {q : MapEntry}
    (hj : (es.filter (fun e => !seen.contains e.born))[j]? = some q) : es.filter (fun e => !(seen.push q.born).contains e.born) = (es.filter (fun e => !seen.contains e.born)).eraseIdx j := by
  have h1 : es.filter (fun e => !(seen.push q.born).contains e.born) = (es.filter (fun e => !seen.contains e.born)).filter (fun e => !(e.born == q.born)) := by
    rw [List.filter_filter]
    apply List.filter_congr
    intro r _
    simp only [Array.contains_push, Bool.not_or]
    rw [Bool.and_comm]
  rw [h1]
  have hn2 : ((es.filter (fun e => !seen.contains e.born)).map (·.born)).Nodup := (List.filter_sublist.map _).nodup hn
  generalize es.filter (fun e => !seen.contains e.born) = l at hj hn2
  clear h1 hn
  induction l generalizing j with
  | nil => simp at hj
  | cons r l ih =>
    simp only [List.map_cons, List.nodup_cons] at hn2
    cases j with
    | zero =>
      obtain rfl : r = q := by simpa using hj
      simp only [List.eraseIdx_cons_zero, List.filter_cons, beq_self_eq_true, Bool.not_true, Bool.false_eq_true, if_false]
      apply List.filter_eq_self.2
      intro s hs
      have : s.born ≠ r.born := fun e => hn2.1 (e ▸ List.mem_map.2 ⟨s, hs, rfl⟩)
      simpa using this
    | succ j =>
      have hj' : l[j]? = some q := by simpa using hj
      have hq : q ∈ l := List.mem_of_getElem? hj'
      have hne : r.born ≠ q.born := fun e => hn2.1 (e ▸ List.mem_map.2 ⟨q, hq, rfl⟩)
      simp only [List.eraseIdx_cons_succ, List.filter_cons]
      rw [if_pos (by simpa using hne), ih hj' hn2.2]

theorem erase_perm {α : Type} : ∀ {l : List α} {j : Nat} (h : j < l.length), l.Perm (l[j] :: l.eraseIdx j)
  | x :: l, 0, _ => .refl _
  | x :: l, j + 1, h => by
    simp only [List.length_cons, Nat.add_lt_add_iff_right] at h
    simp only [List.getElem_cons_succ, List.eraseIdx_cons_succ]
    exact ((erase_perm h).cons x).trans (.swap _ _ _)
/-- the step: nothing is left, or some entry comes -/
theorem O.next {r bm : Nat} {it : Obj} {es : Array MapEntry} {ck : Nat} {l rest : List (K × V)} {R : List Pt} (h : MapIs encK encV es ck l) (hi : ItIs encK encV es ck bm rest it)
    (hx : ev e x = .pointer (some ⟨r, 0, none⟩)) (hr : Rd c ((r, it) :: R) bm (.map es ck)) :
    Eg P e ⟨d, .next x false, ty, p, af, g⟩ c ((r, it) :: R) (fun v L' =>
      (rest = [] ∧ v = .tuple #[.bool false] ∧ L' = (r, it) :: R) ∨
      (∃ a u rest' it', rest.Perm ((a, u) :: rest') ∧ v = .tuple #[.bool true, encK a, encV u] ∧ ItIs encK encV es ck bm rest' it' ∧
        (∀ e' : Env, ∀ x' : Operand, ev e' x' = .pointer (some ⟨r, 0, none⟩) → ∀ {L2 : List Pt} {d2 : Option Tmp} {ty2 : TypeId} {p2 : String} {af2 : Array Edge} {g2 : Option (Nat × Bool)}, Rd c L2 r it' → Rd c L2 bm (.map es ck) →
          Eg P e' ⟨d2, .entry x', ty2, p2, af2, g2⟩ c L2 (fun v2 L3 => v2 = .tuple #[encK a, encV u] ∧ L3 = L2)) ∧ L' = (r, it') :: R)) := by
  intro w hw
  obtain ⟨since, seen, c0, rfl, hold, hsc, hck, hl⟩ := hi.ex
  have hb := hr w hw
  have hrr := hw.look _ (List.mem_cons_self)
  rcases run_next_at (P := P) w ty r bm since c0 seen es ck hrr hb hold hsc with ⟨h0, hrun⟩ | ⟨q, hq, w1, hw1, hrun⟩
  · refine ⟨_, _, _, .inl ?_, .inl ⟨?_, rfl, rfl⟩, hw⟩
    · simp [execOp, hx, hrun]
    · have := congrArg List.length hl
      simp only [List.length_map, Array.length_toList, h0] at this
      exact List.length_eq_zero_iff.1 this.symm
  · obtain ⟨j, hj, hjq⟩ := List.getElem_of_mem hq
    have hjq' : (leftOf es seen).toList[j]? = some q := by rw [List.getElem?_eq_getElem hj, hjq]
    have hrj := congrArg (fun l => l[j]?) hl
    simp only [List.getElem?_map, hjq', Option.map_some] at hrj
    cases hrest : rest[j]? with
    | none => rw [hrest] at hrj; cases hrj
    | some au =>
      obtain ⟨a, u⟩ := au
      rw [hrest] at hrj
      simp only [Option.map_some, Option.some.injEq, Prod.mk.injEq] at hrj
      have hqe : q ∈ es.toList := by
        have : q ∈ (es.filter fun e => !seen.contains e.born).toList := hq
        simp at this; simpa using this.1
      have hst : St c ((r, .mapIter (some bm) since seen c0) :: R) w1 := by
        rcases hw1 with rfl | rfl
        · exact hw
        · exact hw.drew _
      refine ⟨_, setBlk w1 r (.mapIter (some bm) since (seen.push q.born) ck), _, .inl ?_, .inr ⟨a, u, rest.eraseIdx j, _, ?_, rfl, ⟨⟨since, seen.push q.born, ck, rfl, hold, hck, hck, ?_⟩⟩, ?_, rfl⟩, St.set (A := []) hst⟩
      · rw [hrj.1, hrj.2] at hrun
        simp [execOp, hx, hrun]
        rfl
      · have hlt : j < rest.length := by
          rcases Nat.lt_or_ge j rest.length with h' | h'
          · exact h'
          · rw [List.getElem?_eq_none h'] at hrest; cases hrest
        have : rest[j] = (a, u) := by rw [List.getElem?_eq_getElem hlt] at hrest; exact Option.some.inj hrest
        rw [← this]
        exact erase_perm hlt
      · have h3 : (leftOf es (seen.push q.born)).toList = (leftOf es seen).toList.eraseIdx j := by
          have := nodup_filter_erase h.born (seen := seen) (j := j) (q := q) (by simpa [leftOf] using hjq')
          simpa [leftOf] using this
        rw [h3, map_erase, map_erase, hl]
      · intro e' x' hx' L2 d2 ty2 p2 af2 g2 hr2 hb2 w2 hw2
        have := run_entry_at (P := P) w2 r bm since seen es ck q (hr2 w2 hw2) (hb2 w2 hw2) hqe h.born
        refine ⟨_, _, _, .inl ?_, ⟨rfl, rfl⟩, hw2⟩
        rw [hrj.1, hrj.2] at this
        simp [execOp, hx', this]
end
end Go.X

/- The engine, part 8: range over a function. -/
namespace Go.X
section
variable {P : Program} {c : Cx} {L : List Pt}

/-- a call of yield at a: one round, which says 'go on' -/
def YStep (P : Program) (c : Cx) (l : Nat) (a : Value) (L : List Pt) (post : List Pt → Prop) : Prop :=
  ∀ w, St c L w → ∃ f tmps assign body, (Instr.yield l #[a]).run P w = .ok (.round l f tmps assign body) w ∧
    ∀ m, RoundIn Fence.wide m P l f tmps assign body w (fun x w' => x = .returned (.bool true) ∧ ∃ L', post L' ∧ St c L' w')

theorem Op.yield {n : Sz} {e : Env} {d : Option Tmp} {ty : TypeId} {p : String} {af : Array Edge} {g : Option (Nat × Bool)} {K : Env → World → Prop} {x y : Operand} {tt : Array TypeId} {l : Nat} {a : Value} {post : List Pt → Prop}
    (hd : dstOk n d = true) (hy : ev e y = .func (.yield l) #[] #[]) (hx : ev e x = a) (h : YStep P c l a L post)
    (k : ∀ L', post L' → Ent c L' K (updO e d (.bool true))) : Ent c L (OpY P n ⟨d, .call { callee := .value y, args := #[x], argTypes := tt }, ty, p, af, g⟩ K) e := fun w hw => by
  obtain ⟨f, tmps, assign, body, h1, h2⟩ := h w hw
  refine OpY.round (f := f) (tmps := tmps) (assign := assign) (body := body) hd ?_ (fun m => (h2 m).mono ?_)
  · simp [execOp, resolve, hy, hx, Deferred.ofValue, invoke, h1]
  · rintro x w' ⟨rfl, L', h3, h4⟩
    exact ⟨_, rfl, k L' h3 w' h4⟩

def oneP (X : EW) : Post := { nor := X, ret := fun _ _ => False, ex := fun _ _ _ => False, gt := fun _ _ _ => False }
theorem nor_one {X : EW} {e : Env} (h : Ent c L X e) : Ent c L (oneP X).nor e := h

theorem wpOpsIn_mono' {F : Fence} {n : Nat} {ops : Array Oper} {Q Q' : Exit → Act → World → Prop} (hq : ∀ e a w, Q e a w → Q' e a w) : ∀ (l : List Nat) (a : Act) (w : World), wpOpsIn F n P ops Q l a w → wpOpsIn F n P ops Q' l a w
  | [], a, w, h => hq _ _ _ h
  | i :: rest, a, w, h => by
    unfold wpOpsIn at h ⊢
    cases ho : ops[i]? with
    | none => simp only [ho] at h ⊢; exact wpOpsIn_mono' hq rest a w h
    | some o =>
      simp only [ho] at h ⊢
      split
      · rename_i hw
        rw [if_pos hw] at h
        refine ⟨h.1, ?_⟩
        have h2 := h.2
        generalize (o.semAt F.round a.eval).run P w = r at h2 ⊢
        cases r with
        | halt x w' => cases x <;> first | exact hq _ _ _ h2 | exact h2
        | ok nx w' =>
          cases nx with
          | value v => exact wpOpsIn_mono' hq rest _ _ h2
          | skip => exact wpOpsIn_mono' hq rest _ _ h2
          | defer d => exact wpOpsIn_mono' hq rest _ _ h2
          | enter f args =>
            refine ⟨h2.1, CallsIn.mono h2.2 fun x w'' hx => ?_⟩
            cases x with
            | returned v => exact wpOpsIn_mono' hq rest _ _ hx
            | panicked ch => exact hq _ _ _ hx
            | outgrown => obtain ⟨a, w, hx⟩ := hx; exact ⟨a, w, hq _ _ _ hx⟩
          | row row args => exact ⟨h2.1, RowsIn.mono h2.2 fun v w'' hx => wpOpsIn_mono' hq rest _ _ hx⟩
          | round l f t aa bd =>
            refine ⟨h2.1, RoundIn.mono h2.2 fun x w'' hx => ?_⟩
            cases x with
            | returned v => exact wpOpsIn_mono' hq rest _ _ hx
            | panicked ch => exact hq _ _ _ hx
            | outgrown => obtain ⟨a, w, hx⟩ := hx; exact ⟨a, w, hq _ _ _ hx⟩
          | _ => exact h2.elim
      · rename_i hw
        rw [if_neg hw] at h
        exact ⟨h.1, wpOpsIn_mono' hq rest _ _ h.2⟩

/-- the record of a loop over a function: one loop variable, in slot p -/
structure IsRec (rec : Loop) (k : Nat) (e : Env) (p : Nat) (A B : Array Oper) : Prop where
  size : rec.tmps.size = k
  env : (fun t => rec.tmps.getD t undef) = e
  params : rec.params = #[p]
  assign : ∃ i, rec.assign = .region i A false
  body : ∃ i j, rec.body = .block i (.region j B false)
  state : rec.state = .ready
  pending : rec.pending = none

theorem YStep.make {rec : Loop} {k p l : Nat} {e : Env} {A B : Array Oper} {a : Value} {post : List Pt → Prop} (hr : IsRec rec k e p A B) (hp : p < k)
    (h : ∀ X : EW, (∀ {e1 : Env} {L1 : List Pt}, (∀ Y : EW, (∀ {e2 : Env} {L2 : List Pt}, post ((l, .loop rec) :: L2) → Ent c ((l, .loop { rec with state := .busy }) :: L2) Y e2) →
        Ent c ((l, .loop { rec with state := .busy }) :: L1) (WOps P ⟨k, []⟩ B (oneP Y) (List.range B.size)) e1) → Ent c ((l, .loop rec) :: L1) X e1) →
      Ent c ((l, .loop rec) :: L) (WOps P ⟨k, []⟩ A (oneP X) (List.range A.size)) (upd e p a)) :
    YStep P c l a ((l, .loop rec) :: L) post := by
  intro w hw
  have hl := hw.look _ (List.mem_cons_self)
  obtain ⟨ia, hA⟩ := hr.assign
  obtain ⟨ib, jb, hB⟩ := hr.body
  refine ⟨_, _, _, _, run_yield hl (by simp [hr.params]), fun m => roundIn_of_wpIn (F := Fence.wide) trivial ?_⟩
  have h1 := h (fun e1 w1 => ∃ L1, Ent c ((l, .loop { rec with state := .busy }) :: L1) (WOps P ⟨k, []⟩ B (oneP fun e2 w2 => ∃ L2, post ((l, .loop rec) :: L2) ∧ St c ((l, .loop { rec with state := .busy }) :: L2) w2) (List.range B.size)) e1 ∧ St c ((l, .loop rec) :: L1) w1)
    (fun {e1 L1} hB w1 hw1 => ⟨L1, hB _ (fun hp _ hw => ⟨_, hp, hw⟩), hw1⟩) w hw
  rw [hA]
  refine wpIn_region (wpOpsIn_mono' ?_ _ _ _ (h1 (some l) m { tmps := (rec.params.zip #[a]).foldl (fun tmps (t, a) => tmps.setIfInBounds t a) rec.tmps, defers := [] } ⟨rfl, by simp [hr.params, hr.size], ?_⟩))
  · intro x a1 w1 hx
    cases x with
    | normal =>
      obtain ⟨hd, hsz, L1, hB1, hst⟩ := hx
      refine ⟨_, run_beginRound (hst.look _ (List.mem_cons_self)) hr.state, ?_⟩
      refine (congrArg (fun cd => Code.wpIn (Fence.wide.inRound l) m P cd (roundPost P l _) a1 _) hB).mpr ?_
      refine wpIn_block (wpIn_region (wpOpsIn_mono' ?_ _ _ _ (hB1 _ (St.set (A := []) hst) (some l) m a1 ⟨hd, hsz, rfl⟩)))
      intro x a2 w2 hx
      cases x with
      | normal =>
        obtain ⟨_, _, L2, hpost, hst2⟩ := hx
        refine ⟨_, _, run_endRound none (hst2.look _ (List.mem_cons_self)), rfl, _, hpost, ?_⟩
        have := St.set (A := []) (o' := .loop rec) hst2
        have he : ({ ({ rec with state := .busy } : Loop) with state := if (none : Option Code).isNone then .ready else .done, pending := none } : Loop) = rec := by
          have h1 := hr.state; have h2 := hr.pending
          cases rec; simp only at h1 h2; subst h1 h2; rfl
        rw [he]
        exact this
      | exit i => exact hx.2.2.elim
      | goto i => exact hx.2.2.elim
      | ret => exact hx.2.2.elim
      | panic _ => exact hx.elim
      | outgrown => exact hx.elim
    | exit i => exact hx.2.2.elim
    | goto i => exact hx.2.2.elim
    | ret => exact hx.2.2.elim
    | panic _ => exact hx.elim
    | outgrown => exact hx.elim
  · rw [← hr.env]
    funext t
    simp only [envOf, hr.params]
    by_cases ht : t = p
    · subst ht
      rw [upd_same]
      simp [hr.size, hp]
    · rw [upd_ne _ _ ht]
      simp [Array.getElem?_setIfInBounds_ne (Ne.symm ht)]

def coll (D : Nat) : Deferred := { target := .collected D, args := #[] }

theorem Fn.range {f : FuncId} {fn : Func} {k p g id0 id1 id4 idA idB b0 b1 : Nat} {ops0 ops1 ops4 A B : Array Oper} {args : List Value} {post : Value → List Pt → Prop} (hf : P.funcs[f]? = some fn)
    (hb : fn.body = some (.seq (.region id0 ops0 false) (.seq (.seq (.region id1 ops1 false) (.block b0 (.rangeFunc (.tmp g) #[p] (.region idA A false) (.block b1 (.region idB B false))))) (.seq (.region id4 ops4 false) .ret))))
    (hn : fn.ntmps = k) (hl : args.length.ble k = true)
    (h : ∀ X : EW, (∀ {e1 : Env} {L1 : List Pt} {gf : FuncId} {lb : List Value}, e1 g = .func (.func gf) #[] lb.toArray → hasBody P gf = true →
        (∀ (D l : Nat) (rec : Loop), IsRec rec k e1 p A B →
          Fn P gf (.func (.yield l) #[] #[] :: lb).toArray c ((l, .loop rec) :: (D, .deferred (some [])) :: L1) (fun _ L' => ∃ L2, L' = (l, .loop rec) :: (D, .deferred (some [])) :: L2 ∧
            ∀ Y : EW, (∀ {e2 : Env} {v : Value} {L4 : List Pt}, ResOk P fn c L2 e2 v → post v L4 → L4.Sublist L2 → Ent c ((D, .deferred (some [])) :: L2) Y e2) →
              Ent c ((D, .deferred (some [])) :: L2) (WOps P ⟨k, [coll D]⟩ ops4 (oneP Y) (List.range ops4.size)) e1)) → Ent c L1 X e1) →
      Ent c L (WOps P ⟨k, []⟩ ops0 (oneP (WOps P ⟨k, []⟩ ops1 (oneP X) (List.range ops1.size))) (List.range ops0.size)) (argE args)) :
    Fn P f args.toArray c L post := by
  subst hn
  intro w hw
  refine callsIn_wide.1 (callsIn_of_wp_marks (F := Fence.wide) (n := 0) hf hb trivial ?_)
  generalize hR : (fun x w' => ∃ v, x = Ending.returned v ∧ ∃ L', post v L' ∧ St c L' w') = R
  let Q : Exit → Act → World → Prop := bodyPostM Fence.wide 0 P fn R
  let tail : Code := .seq (.region id4 ops4 false) .ret
  let RF : Code := .block b0 (.rangeFunc (.tmp g) #[p] (.region idA A false) (.block b1 (.region idB B false)))
  have h1 := h (fun e1 w1 => ∀ a1, Fit ⟨fn.ntmps, []⟩ e1 a1 → RF.wpIn Fence.wide 0 P (Exit.then (tail.wpIn Fence.wide 0 P Q) Q) a1 w1) ?_ w hw
  · refine wpIn_seq (wpIn_region (wpOpsIn_mono' ?_ _ _ _ (h1 none 0 _ ⟨rfl, ?_, ?_⟩)))
    · intro x a1 w1 hx
      cases x with
      | normal =>
        obtain ⟨hd, hsz, h2⟩ := hx
        refine wpIn_seq (wpIn_seq (wpIn_region (wpOpsIn_mono' ?_ _ _ _ (h2 none 0 a1 ⟨hd, hsz, rfl⟩))))
        intro x a2 w2 hx
        cases x with
        | normal => exact hx.2.2 a2 ⟨hx.1, hx.2.1, rfl⟩
        | exit i => exact hx.2.2.elim
        | goto i => exact hx.2.2.elim
        | ret => exact hx.2.2.elim
        | panic _ => exact hx.elim
        | outgrown => exact hx.elim
      | exit i => exact hx.2.2.elim
      | goto i => exact hx.2.2.elim
      | ret => exact hx.2.2.elim
      | panic _ => exact hx.elim
      | outgrown => exact hx.elim
    · have := Nat.le_of_ble_eq_true hl
      simp; omega
    · have := Nat.le_of_ble_eq_true hl
      funext t
      simp only [envOf, argE, Array.getD_eq_getD_getElem?, Array.getElem?_append, List.size_toArray, Array.getElem?_replicate, List.getElem?_toArray]
      split
      · rfl
      · rename_i ht
        rw [List.getElem?_eq_none (by omega)]
        split <;> rfl
  · intro e1 L1 gf lb hg hgb hcall w1 hw1 a1 ha1
    refine wpIn_block (wpIn_rangeFunc fun fnid _ => ?_)
    have heg : a1.eval (.tmp g) = .func (.func gf) #[] lb.toArray := by rw [eval_eq, ha1.2.2]; exact hg
    obtain ⟨rec, hrec⟩ : ∃ rec : Loop, rec = { state := .ready, pending := none, fn := fnid, tmps := a1.tmps, params := #[p], assign := .region idA A false, body := .block b1 (.region idB B false), defers := w1.heap.size } := ⟨_, rfl⟩
    have hst2 := (hw1.new (.deferred (some []))).new (.loop rec)
    obtain ⟨W2, hW2⟩ : ∃ W2, (w1.alloc (.deferred (some []))).alloc (.loop rec) = W2 := ⟨_, rfl⟩
    rw [hW2] at hst2
    refine ⟨w1.heap.size + 1, [coll w1.heap.size], W2, { target := .fn (.func gf) lb.toArray, args := #[.func (.yield (w1.heap.size + 1)) #[] #[]] }, W2, gf, (.func (.yield (w1.heap.size + 1)) #[] #[] :: lb).toArray, W2, ?_, ?_, fun _ _ => trivial, ?_, fun h => (by cases h), ?_⟩
    · rw [← hW2, hrec]; exact run_enterLoop_outer _ _ _ _ _
    · have hc : a1.eval (.const (.func (.yield (w1.heap.size + 1)) #[] #[])) = .func (.yield (w1.heap.size + 1)) #[] #[] := rfl
      simp [resolve, heg, hc, Deferred.ofValue]
    · simp [invoke, run_callFunc hgb]
    · refine callsIn_wide.2 (Calls.mono (hcall w1.heap.size (w1.heap.size + 1) rec ⟨by rw [hrec]; exact ha1.2.1, by rw [hrec]; exact ha1.2.2, by rw [hrec], ⟨idA, by rw [hrec]⟩, ⟨b1, idB, by rw [hrec]⟩, by rw [hrec], by rw [hrec]⟩ _ (by simpa using hst2)) ?_)
      rintro x w3 ⟨v, rfl, L', ⟨L2, rfl, htail⟩, hw3⟩
      have hpend : rec.pending = none := by rw [hrec]
      refine ⟨none, _, (run_endLoop (hw3.look _ (List.mem_cons_self)) (by rw [hrec]; simp)).trans (congrArg (fun j => Result.ok j _) hpend), ?_⟩
      have hw4 := (St.set (A := []) (o' := .loop { rec with state := .exhausted }) hw3).tail
      have h5 := htail (fun e2 w2 => ∃ v L4, ResOk P fn c L2 e2 v ∧ post v L4 ∧ L4.Sublist L2 ∧ St c ((w1.heap.size, .deferred (some [])) :: L2) w2) (fun h1 h2 h3 w hw => ⟨_, _, h1, h2, h3, hw⟩) _ hw4
      show tail.wpIn Fence.wide 0 P Q _ _
      refine wpIn_seq (wpIn_region (wpOpsIn_mono' ?_ _ _ _ (h5 none 0 { a1 with defers := coll w1.heap.size :: a1.defers } ⟨by simp [ha1.1], ha1.2.1, ha1.2.2⟩)))
      intro x a2 w2 hx
      cases x with
      | normal =>
        obtain ⟨hd, _, v, L4, hres, hpost, hsub, hst⟩ := hx
        refine wpIn_ret ?_
        show LeavesInM Fence.wide 0 P fn a2.tmps R a2.defers .returning w2
        rw [hd]
        refine ⟨by simp, .inl ⟨_, _, rfl, run_takeDeferred (hst.look _ (List.mem_cons_self)), ?_⟩⟩
        have hst5 := (St.set (A := []) (o' := .deferred none) hst).tail
        refine ⟨v, ?_, ?_⟩
        · exact hres _ hst5
        · rw [← hR]; exact ⟨v, rfl, L4, hpost, hst5.sub hsub⟩
      | exit i => exact hx.2.2.elim
      | goto i => exact hx.2.2.elim
      | ret => exact hx.2.2.elim
      | panic _ => exact hx.elim
      | outgrown => exact hx.elim
end
end Go.X

/- The engine, part 9: iterators. -/
namespace Go.X
section
variable {P : Program} {c : Cx} {L : List Pt}
theorem rng {n : Sz} {ops : Array Oper} {Q : Post} {e : Env} (l : List Nat) (hl : List.range ops.size = l) (h : Ent c L (WOps P n ops Q l) e) : Ent c L (WOps P n ops Q (List.range ops.size)) e := by
  rw [hl]; exact h
theorem bring {Ls pre R : List Pt} : (pre ++ (Ls ++ R)).Perm (Ls ++ (pre ++ R)) := List.perm_append_comm_assoc _ _ _
theorem rows_append {α : Type} {enc : α → Array Value} {l m : List α} : rows enc (l ++ m) = rows enc l ++ rows enc m := by
  apply Array.ext'; simp [rows]
theorem rows_one {α : Type} {enc : α → Array Value} {x : α} : rows enc [x] = enc x := by
  apply Array.ext'; simp [rows]
def intE (x : Int) : Array Value := #[.int .i64 x]
theorem intE_size (x : Int) : (intE x).size = 1 := rfl
theorem Fn.perm {f : FuncId} {args : Array Value} {L2 : List Pt} {post : Value → List Pt → Prop} (h : Fn P f args c L2 post) (hp : L.Perm L2) : Fn P f args c L post := fun w hw => h w (hw.perm hp)
/-- an iterator: a closure that calls yield at each of xs, S xs -/
def IterOk (P : Program) (c : Cx) {α : Type} (enc : α → Value) (gf : FuncId) (lb : List Value) (N : Nat) (S : List α → Prop) (R : List Pt) : Prop :=
  ∀ (l : Nat) (I : List α → List Pt → Prop) (Lo : List Pt),
    (∀ pre x Lo R', pre.length < N → I pre Lo → YStep P c l (enc x) (Lo ++ R') (fun L' => ∃ Lo', I (pre ++ [x]) Lo' ∧ L' = Lo' ++ R')) → I [] Lo →
    Fn P gf (.func (.yield l) #[] #[] :: lb).toArray c (Lo ++ R) (fun _ L' => ∃ xs Lo', S xs ∧ I xs Lo' ∧ L' = Lo' ++ R)
end
end Go.X

namespace Go.X
open Go.Proofs
theorem ds_72 : isDesc Tryz.prog 72 = 5 := by kernel_rfl
theorem ds_74 : isDesc Tryz.prog 74 = 5 := by kernel_rfl
theorem ei_72 : elemInfo Tryz.prog 72 = some (2, 1, 8, .int .i64 0) := by kernel_rfl
theorem ei_74 : elemInfo Tryz.prog 74 = some (45, 16, 16, .agg #[.int .u8 0, .int .u8 0, .int .u8 0, .int .u8 0, .int .u8 0, .int .u8 0, .int .u8 0, .int .u8 0, .int .u8 0, .int .u8 0, .int .u8 0, .int .u8 0, .int .u8 0, .int .u8 0, .int .u8 0, .int .u8 0]) := by kernel_rfl
theorem kd_45 : kindOf Tryz.prog 45 = some (true, 16) := by kernel_rfl
theorem kd_72 : kindOf Tryz.prog 72 = some (false, 1) := by kernel_rfl
theorem kd_74 : kindOf Tryz.prog 74 = some (false, 1) := by kernel_rfl
theorem zo_45 : zeroOf Tryz.prog 45 = some (.agg #[.int .u8 0, .int .u8 0, .int .u8 0, .int .u8 0, .int .u8 0, .int .u8 0, .int .u8 0, .int .u8 0, .int .u8 0, .int .u8 0, .int .u8 0, .int .u8 0, .int .u8 0, .int .u8 0, .int .u8 0, .int .u8 0]) := by kernel_rfl
set_option maxRecDepth 100000 in
theorem C_AppendSeq_Key {c : Cx} {L : List Pt} {gf : FuncId} {lb : List Value} {N : Nat} {S : List Key → Prop} (hN : N ≤ 1000000000) (hgb : hasBody Tryz.prog gf = true)
    (hit : IterOk Tryz.prog c (fun x : Key => (.agg (Key_enc x))) gf lb N S L) :
    Fn Tryz.prog 202 #[.slice none 0 0, .func (.func gf) #[] lb.toArray] c L (fun v L' => ∃ xs Ls, S xs ∧ OwnSl 45 16 (rows Key_enc xs) xs.length v Ls ∧ L' = Ls ++ L) := by
  refine Fn.range (k := 13) (p := 7) (g := 6) Tryz.func202 rfl rfl rfl (fun X hX => ?_)
  refine rng [0, 1] rfl ?_
  refine Seq.op at0 rfl (Op.new rfl (O.box (v := .slice _ _ _) rfl rfl) ?_)
  intro b2 _
  refine Seq.rd0 at1 rfl rfl (O.assign (v := .slice _ _ _) rfl) ?_
  refine Seq.nil (nor_one (rng [0] rfl ?_))
  refine Seq.rd0 at0 rfl rfl (O.move (v := .func _ _ _) rfl) ?_
  refine Seq.nil (nor_one ?_)
  refine hX (gf := gf) (lb := lb) rfl hgb (fun D l rec hr => ?_)
  refine Fn.mono (hit l (fun pre Lo => ∃ v Ls, Lo = (l, .loop rec) :: (D, .deferred (some [])) :: (b2, .cells #[v] 74 (0, 0)) :: Ls ∧ OwnSl 45 16 (rows Key_enc pre) pre.length v Ls ∧ v.oneCell' = true) [(l, .loop rec), (D, .deferred (some [])), (b2, .cells #[.slice none 0 0] 74 (0, 0))] ?_ ⟨_, [], rfl, .inl ⟨rfl, rfl, rfl, rfl⟩, rfl⟩) ?_
  · rintro pre x _ R' hlen ⟨v, Ls, rfl, ho, hv1⟩
    refine YStep.make hr (by decide) (fun X hX => ?_)
    refine rng [0, 1] rfl ?_
    refine Seq.op at0 rfl (Op.new rfl (O.alloc zo_45 (cs := (Key_enc Key.zero)) rfl) ?_)
    intro bx _
    refine Seq.op at1 rfl (Op.set0 rfl (O.store kd_45 rfl (v := .agg _) rfl (Key_size _) (Key_room (Key_size _)) (Key_one _) (Key_put _ (Key_size _))) ?_)
    refine Ent.perm ?_ (.swap _ _ _)
    refine Seq.nil (nor_one ?_)
    refine hX (fun Y hY => ?_)
    refine rng [0, 1, 2, 3, 4] rfl ?_
    refine Seq.rd1 at0 rfl rfl (O.load kd_74 rfl r1_0) Rd.head.cons.cons.cons ?_
    refine Seq.rd1 at1 rfl rfl (O.loadA kd_45 rfl (Nat.le_of_ble_eq_true rfl) (Key_all _)) Rd.head.cons ?_
    refine Seq.op at2 rfl (Op.new rfl (O.buildSlice (el := 45) rfl (cs := rows Key_enc [x]) (by kernel_rfl)) ?_)
    intro bs _
    refine Ent.perm ?_ (bring (Ls := Ls) (pre := [(bs, _), (l, _), (bx, _), (D, _), (b2, _)]) (R := R'))
    refine Seq.op at3 rfl (Op.gen rfl (O.appendOwn (k := 1) (new := rows Key_enc [x]) ei_74 ds_74 (by decide) rfl ho (.inr ⟨bs, 0, 1, rows Key_enc [x], 45, (0, 0), rfl, Rd.head.sub (List.sublist_append_right _ _), Nat.le_refl _, by rw [rows_one]; exact Key_all x⟩) (by rw [rows_one]; exact Key_one x) (by decide) (by omega)) ?_)
    rintro v' _ ⟨Ls', ho', rfl⟩
    have hv2 : v'.oneCell' = true := by
      rcases ho' with ⟨_, _, rfl, _⟩ | ⟨_, _, _, rfl, _⟩ <;> rfl
    refine Ent.perm ?_ (bring (Ls := Ls') (pre := [(bs, _), (l, _), (bx, _), (D, _), (b2, _)]) (R := R')).symm
    refine Seq.op at4 rfl (Op.set4 rfl (O.store1 kd_74 rfl (v := v') rfl (Nat.le_of_ble_eq_true rfl) hv2 (cs' := #[v']) rfl) ?_)
    refine Seq.nil (nor_one ?_)
    exact Ent.sub (hY (L2 := (D, _) :: (b2, _) :: (Ls' ++ R')) ⟨_, ⟨v', Ls', rfl, by rw [rows_append, List.length_append]; exact ho', hv2⟩, rfl⟩) (.cons _ (.cons_cons _ (.cons _ (.refl _))))
  · rintro v _ ⟨xs, _, hS, ⟨sv, Ls, rfl, ho, _⟩, rfl⟩
    refine ⟨(b2, .cells #[sv] 74 (0, 0)) :: (Ls ++ L), rfl, fun Y hY => ?_⟩
    refine rng [0, 1] rfl ?_
    refine Seq.rd1 at0 rfl rfl (O.load kd_74 rfl r1_0) Rd.head.cons ?_
    refine Seq.rd0 at1 rfl rfl (O.assign (v := sv) rfl) ?_
    exact Seq.nil (nor_one (hY (Res.one (v := sv) rfl rfl) ⟨xs, Ls, hS, ho, rfl⟩ (List.sublist_cons_self _ _)))

set_option maxRecDepth 100000 in
theorem C_AppendSeq_int64 {c : Cx} {L : List Pt} {gf : FuncId} {lb : List Value} {N : Nat} {S : List Int → Prop} (hN : N ≤ 1000000000) (hgb : hasBody Tryz.prog gf = true)
    (hit : IterOk Tryz.prog c (fun x : Int => (.int .i64 x)) gf lb N S L) :
    Fn Tryz.prog 233 #[.slice none 0 0, .func (.func gf) #[] lb.toArray] c L (fun v L' => ∃ xs Ls, S xs ∧ OwnSl 2 1 (rows intE xs) xs.length v Ls ∧ L' = Ls ++ L) := by
  refine Fn.range (k := 13) (p := 7) (g := 6) Tryz.func233 rfl rfl rfl (fun X hX => ?_)
  refine rng [0, 1] rfl ?_
  refine Seq.op at0 rfl (Op.new rfl (O.box (v := .slice _ _ _) rfl rfl) ?_)
  intro b2 _
  refine Seq.rd0 at1 rfl rfl (O.assign (v := .slice _ _ _) rfl) ?_
  refine Seq.nil (nor_one (rng [0] rfl ?_))
  refine Seq.rd0 at0 rfl rfl (O.move (v := .func _ _ _) rfl) ?_
  refine Seq.nil (nor_one ?_)
  refine hX (gf := gf) (lb := lb) rfl hgb (fun D l rec hr => ?_)
  refine Fn.mono (hit l (fun pre Lo => ∃ v Ls, Lo = (l, .loop rec) :: (D, .deferred (some [])) :: (b2, .cells #[v] 72 (0, 0)) :: Ls ∧ OwnSl 2 1 (rows intE pre) pre.length v Ls ∧ v.oneCell' = true) [(l, .loop rec), (D, .deferred (some [])), (b2, .cells #[.slice none 0 0] 72 (0, 0))] ?_ ⟨_, [], rfl, .inl ⟨rfl, rfl, rfl, rfl⟩, rfl⟩) ?_
  · rintro pre x _ R' hlen ⟨v, Ls, rfl, ho, hv1⟩
    refine YStep.make hr (by decide) (fun X hX => ?_)
    refine rng [0] rfl ?_
    refine Seq.rd0 at0 rfl rfl (O.assign (v := .int .i64 _) rfl) ?_
    refine Seq.nil (nor_one ?_)
    refine hX (fun Y hY => ?_)
    refine rng [0, 1, 2, 3, 4] rfl ?_
    refine Seq.rd1 at0 rfl rfl (O.load kd_72 rfl r1_0) Rd.head.cons.cons ?_
    refine Seq.rd0 at1 rfl rfl (O.move (v := .int .i64 _) rfl) ?_
    refine Seq.op at2 rfl (Op.new rfl (O.buildSlice (el := 2) rfl (cs := rows intE [x]) (by kernel_rfl)) ?_)
    intro bs _
    refine Ent.perm ?_ (bring (Ls := Ls) (pre := [(bs, _), (l, _), (D, _), (b2, _)]) (R := R'))
    refine Seq.op at3 rfl (Op.gen rfl (O.appendOwn (k := 1) (new := rows intE [x]) ei_72 ds_72 (by decide) rfl ho (.inr ⟨bs, 0, 1, rows intE [x], 2, (0, 0), rfl, Rd.head.sub (List.sublist_append_right _ _), Nat.le_refl _, by rw [rows_one]; rfl⟩) (by rw [rows_one]; intro u hu; simp [intE] at hu; subst hu; rfl) (by decide) (by omega)) ?_)
    rintro v' _ ⟨Ls', ho', rfl⟩
    have hv2 : v'.oneCell' = true := by
      rcases ho' with ⟨_, _, rfl, _⟩ | ⟨_, _, _, rfl, _⟩ <;> rfl
    refine Ent.perm ?_ (bring (Ls := Ls') (pre := [(bs, _), (l, _), (D, _), (b2, _)]) (R := R')).symm
    refine Seq.op at4 rfl (Op.set3 rfl (O.store1 kd_72 rfl (v := v') rfl (Nat.le_of_ble_eq_true rfl) hv2 (cs' := #[v']) rfl) ?_)
    refine Seq.nil (nor_one ?_)
    exact Ent.sub (hY (L2 := (D, _) :: (b2, _) :: (Ls' ++ R')) ⟨_, ⟨v', Ls', rfl, by rw [rows_append, List.length_append]; exact ho', hv2⟩, rfl⟩) (.cons _ (.refl _))
  · rintro v _ ⟨xs, _, hS, ⟨sv, Ls, rfl, ho, _⟩, rfl⟩
    refine ⟨(b2, .cells #[sv] 72 (0, 0)) :: (Ls ++ L), rfl, fun Y hY => ?_⟩
    refine rng [0, 1] rfl ?_
    refine Seq.rd1 at0 rfl rfl (O.load kd_72 rfl r1_0) Rd.head.cons ?_
    refine Seq.rd0 at1 rfl rfl (O.assign (v := sv) rfl) ?_
    exact Seq.nil (nor_one (hY (Res.one (v := sv) rfl rfl) ⟨xs, Ls, hS, ho, rfl⟩ (List.sublist_cons_self _ _)))

end Go.X
