/- Part 7 of the proofs over this program: what its functions compute. -/
import Derived.Test.YthifdialndcemaaGreatProg
import Derived.Test.YthifdialndcemaaGreatS6
set_option linter.unusedVariables false
set_option linter.unusedSimpArgs false

namespace Go.X
open Go.Proofs

theorem put_mid {cs pre mid post v : Array Value} {o : Nat} (h : cs = pre ++ (mid ++ post)) (hs : mid.size = v.size) (ho : o = pre.size) : putL cs o v.toList = pre ++ (v ++ post) := by
  subst h ho
  have := putL_mid v.toList pre.toList mid.toList post.toList (pre ++ (mid ++ post)) (by simp) (by simpa using hs)
  apply Array.ext'
  rw [Array.length_toList] at this
  rw [this]; simp
theorem split_arr {cs : Array Value} {a b : Nat} (h : cs.size = a + b) : ∃ x y, cs = x ++ y ∧ x.size = a ∧ y.size = b := by
  refine ⟨cs.extract 0 a, cs.extract a cs.size, ?_, ?_, ?_⟩
  · simp [Nat.max_eq_right (show a ≤ cs.size by omega)]
  · simp; omega
  · simp; omega
section
variable {P : Program} {e : Env} {d : Option Tmp} {ty : TypeId} {p : String} {af : Array Edge} {g : Option (Nat × Bool)} {x y : Operand} {c : Cx} {L : List Pt}
theorem O.copyA {t ts el sz b o dn cap k : Nat} {cs new : Array Value} {el' : TypeId} (ht : sliceOf P t = some (el, sz)) (hx : ev e x = .slice (some ⟨b, o, none⟩) dn cap) (hle : k ≤ dn)
    (hk : SrcR P c ((b, .cells cs el' (0, 0)) :: L) sz (ev e y) k k new) (hone : ∀ u ∈ new.toList, Value.oneCell' u = true) (hroom : o + new.size ≤ cs.size) {cs' : Array Value} (hcs : putL cs o new.toList = cs') :
    Eg P e ⟨d, .call { callee := .builtin .copy, args := #[x, y], argTypes := #[t, ts] }, ty, p, af, g⟩ c ((b, .cells cs el' (0, 0)) :: L)
      (fun v L' => v = .int .i64 (k : Int) ∧ L' = (b, .cells cs' el' (0, 0)) :: L) := by
  have hm : Nat.min k dn = k := Nat.min_eq_left hle
  have := O.copy (d := d) (ty := ty) (p := p) (af := af) (g := g) (ts := ts) (k := k) (dn := dn) ht hx (by rw [hm]; exact hk) hone hroom hcs
  rw [hm] at this; exact this
theorem O.copyB {t ts el sz b o dn cap k : Nat} {cs new : Array Value} {el' : TypeId} (ht : sliceOf P t = some (el, sz)) (hx : ev e x = .slice (some ⟨b, o, none⟩) dn cap) (hle : dn ≤ k)
    (hk : SrcR P c ((b, .cells cs el' (0, 0)) :: L) sz (ev e y) k dn new) (hone : ∀ u ∈ new.toList, Value.oneCell' u = true) (hroom : o + new.size ≤ cs.size) {cs' : Array Value} (hcs : putL cs o new.toList = cs') :
    Eg P e ⟨d, .call { callee := .builtin .copy, args := #[x, y], argTypes := #[t, ts] }, ty, p, af, g⟩ c ((b, .cells cs el' (0, 0)) :: L)
      (fun v L' => v = .int .i64 (dn : Int) ∧ L' = (b, .cells cs' el' (0, 0)) :: L) := by
  have hm : Nat.min k dn = dn := Nat.min_eq_right hle
  have := O.copy (d := d) (ty := ty) (p := p) (af := af) (g := g) (ts := ts) (k := k) (dn := dn) ht hx (by rw [hm]; exact hk) hone hroom hcs
  rw [hm] at this; exact this
theorem O.sliceNil {t el sz : Nat} (ht : sliceOf P t = some (el, sz)) (hx : ev e x = .slice none 0 0) (hy : ev e y = .int .i64 0) :
    Rn0 P e ⟨d, .slice t x (some y) none none, ty, p, af, g⟩ (.slice none 0 0) := fun w => by
  obtain ⟨hu, j, hi, rfl⟩ := slice_parts ht
  simp [execOp, Instr.sliceAt, Instr.slice, run_under hu, hx, hy, Instr.sliceBounds, Instr.sliceBound, asIntOf, run_size hi]
end

theorem rows_take4 {vs : List Version} {sp : Array Value} {i : Nat} (hi : i ≤ vs.length) : (rows Version_enc vs ++ sp).extract 0 (0 + i * 4) = rows Version_enc (vs.take i) := by
  have h1 : rows Version_enc vs = rows Version_enc (vs.take i) ++ rows Version_enc (vs.drop i) := by rw [← rows_append, List.take_append_drop]
  have h2 : (rows Version_enc (vs.take i)).size = i * 4 := by rw [rows_size Version_size, List.length_take]; omega
  rw [h1, Array.append_assoc]
  have := ext_mid (pre := #[]) (mid := rows Version_enc (vs.take i)) (sp := rows Version_enc (vs.drop i) ++ sp)
  rw [Array.empty_append, h2] at this
  exact this
theorem rows_drop4 {vs : List Version} {sp : Array Value} {i m : Nat} (hi : i ≤ vs.length) (hm : m = vs.length - i) : (rows Version_enc vs ++ sp).extract (0 + ((i : Nat) : Int).toNat * 4) (0 + ((i : Nat) : Int).toNat * 4 + m * 4) = rows Version_enc (vs.drop i) := by
  subst hm
  have h1 : rows Version_enc vs = rows Version_enc (vs.take i) ++ rows Version_enc (vs.drop i) := by rw [← rows_append, List.take_append_drop]
  have h2 : (rows Version_enc (vs.take i)).size = i * 4 := by rw [rows_size Version_size, List.length_take]; omega
  have h3 : (rows Version_enc (vs.drop i)).size = (vs.length - i) * 4 := by rw [rows_size Version_size, List.length_drop]
  rw [h1, Array.append_assoc, Int.toNat_natCast, Nat.zero_add]
  have := ext_mid (pre := rows Version_enc (vs.take i)) (mid := rows Version_enc (vs.drop i)) (sp := sp)
  rw [h2, h3] at this
  exact this
theorem put3 {pre a b s v : Array Value} {o : Nat} (hs : v.size = a.size) (ho : o = pre.size) : putL (pre ++ ((a ++ b) ++ s)) o v.toList = pre ++ ((v ++ b) ++ s) := by
  rw [put_mid (pre := pre) (mid := a) (post := b ++ s) (by simp) hs.symm ho]; simp
theorem put4 {pre a b s v : Array Value} {o : Nat} (hs : v.size = b.size) (ho : o = pre.size + a.size) : putL (pre ++ ((a ++ b) ++ s)) o v.toList = pre ++ ((a ++ v) ++ s) := by
  rw [put_mid (pre := pre ++ a) (mid := b) (post := s) (by simp) hs.symm (by simpa using ho)]; simp
theorem put5 {vs : List Version} {a b : Array Value} {o i : Nat} (hi : i < vs.length) (ha : a.size = 4) (ho : o = (i + 1) * 4) : putL (rows Version_enc vs ++ (a ++ b)) o (rows Version_enc (vs.drop i)).toList = rows Version_enc (vs.take (i + 1)) ++ (rows Version_enc (vs.drop i) ++ b) := by
  have h1 : rows Version_enc vs = rows Version_enc (vs.take (i + 1)) ++ rows Version_enc (vs.drop (i + 1)) := by rw [← rows_append, List.take_append_drop]
  refine put_mid (mid := rows Version_enc (vs.drop (i + 1)) ++ a) (by rw [h1]; simp) ?_ ?_
  · simp only [Array.size_append, rows_size Version_size, List.length_drop, ha]; omega
  · simp only [rows_size Version_size, List.length_take]; omega
theorem put6 {vs : List Version} {s : Array Value} {x : Version} {o i : Nat} (hi : i < vs.length) (ho : o = i * 4) : putL (rows Version_enc (vs.take (i + 1)) ++ s) o (rows Version_enc [x]).toList = rows Version_enc (vs.take i) ++ (rows Version_enc [x] ++ s) := by
  have h1 : rows Version_enc (vs.take (i + 1)) = rows Version_enc (vs.take i) ++ rows Version_enc [vs[i]] := by rw [← rows_append, List.take_append_getElem hi]
  refine put_mid (mid := rows Version_enc [vs[i]]) (by rw [h1]; simp) ?_ ?_
  · simp only [rows_size Version_size, List.length_cons, List.length_nil]
  · simp only [rows_size Version_size, List.length_take]; omega
theorem ins_rows {vs : List Version} {x : Version} {i : Nat} : rows Version_enc (vs.take i ++ x :: vs.drop i) = rows Version_enc (vs.take i) ++ (rows Version_enc [x] ++ rows Version_enc (vs.drop i)) := by
  rw [← rows_append, ← rows_append]; rfl
theorem ins_len {vs : List Version} {x : Version} {i : Nat} (hi : i ≤ vs.length) : (vs.take i ++ x :: vs.drop i).length = vs.length + 1 := by
  rw [List.length_append, List.length_cons, List.length_take, List.length_drop]; omega

set_option maxRecDepth 100000 in
set_option maxHeartbeats 2000000 in
theorem C_Insert_own {c : Cx} {L : List Pt} {b cap bs i : Nat} {vs : List Version} {x : Version} {sp : Array Value} (hcap : vs.length ≤ cap) (hsp : sp.size = (cap - vs.length) * 4) (hi : i ≤ vs.length) (hlt : vs.length ≤ 1000000000) (hne : bs ≠ b) (hbs : Rd c L bs (.cells (rows Version_enc [x]) 242 (0, 0))) : Fn Tryz.prog 224 #[.slice (some ⟨b, 0, none⟩) vs.length cap, .int .i64 (i : Nat), .slice (some ⟨bs, 0, none⟩) 1 1] c ((b, .cells (rows Version_enc vs ++ sp) 242 (0, 0)) :: L) (fun v L' => ∃ av' cap' Ls', v = .slice av' (vs.length + 1) cap' ∧ OwnSl 242 4 (rows Version_enc (vs.take i ++ x :: vs.drop i)) (vs.length + 1) v Ls' ∧ L' = Ls' ++ L) := by
  refine Fn.enter Tryz.func224 rfl 95 rfl rfl (fun R hR => ?_)
  refine Cd.seq (fun K1 hK1 => ?_)
  refine Cd.region [0] rfl ?_
  refine Seq.rd0 at0 rfl rfl (O.assign (v := .slice _ _ _) rfl) ?_
  refine Seq.nil ?_
  refine hK1 ?_
  refine Cd.seq (fun K2 hK2 => ?_)
  refine Cd.region [0, 1, 2] rfl ?_
  refine Seq.rd0 at0 rfl rfl (O.move (v := .slice _ _ _) rfl) ?_
  refine Seq.rd0 at1 rfl rfl (O.move (v := .int .i64 _) rfl) ?_
  refine Seq.rd0 at2 rfl rfl (O.sliceL sl_239 rfl rfl (by omega) (by omega)) ?_
  refine Seq.nil ?_
  refine hK2 ?_
  refine Cd.seq (fun K3 hK3 => ?_)
  refine Cd.region [0, 1, 2] rfl ?_
  refine Seq.rd0 at0 rfl rfl (O.move (v := .slice _ _ _) rfl) ?_
  refine Seq.rd0 at1 rfl rfl (O.lenS ds_239 rfl) ?_
  refine Seq.rd0 at2 rfl rfl (O.assign (v := .int .i64 _) rfl) ?_
  refine Seq.nil ?_
  refine hK3 ?_
  refine Cd.seq (fun K4 hK4 => ?_)
  refine Cd.seq (fun K5 hK5 => ?_)
  refine Cd.region [0, 1] rfl ?_
  refine Seq.rd0 at0 rfl rfl (O.move (v := .int .i64 _) rfl) ?_
  refine Seq.rd0 at1 rfl rfl (O.eqI rfl rfl) ?_
  refine Seq.nil ?_
  refine hK5 ?_
  refine Cd.if ((1 : Int) = 0) rfl (fun t6 => ?_) (fun t6 => ?_)
  · skip
    exact absurd t6 (by decide)
  · skip
    refine Cd.skip ?_
    refine hK4 ?_
    refine Cd.seq (fun K7 hK7 => ?_)
    refine Cd.region [0, 1, 2] rfl ?_
    refine Seq.rd0 at0 rfl rfl (O.move (v := .slice _ _ _) rfl) ?_
    refine Seq.rd0 at1 rfl rfl (O.lenS ds_239 rfl) ?_
    refine Seq.rd0 at2 rfl rfl (O.assign (v := .int .i64 _) rfl) ?_
    refine Seq.nil ?_
    refine hK7 ?_
    refine Cd.seq (fun K8 hK8 => ?_)
    refine Cd.seq (fun K9 hK9 => ?_)
    refine Cd.region [0, 1, 2] rfl ?_
    refine Seq.rd0 at0 rfl rfl (O.move (v := .int .i64 _) rfl) ?_
    refine Seq.rd0 at1 rfl rfl (O.move (v := .int .i64 _) rfl) ?_
    refine Seq.rd0 at2 rfl rfl (O.eqI rfl rfl) ?_
    refine Seq.nil ?_
    refine hK9 ?_
    refine Cd.if ((i : Int) = (vs.length : Int)) rfl (fun t10 => ?_) (fun t10 => ?_)
    · skip
      refine Cd.seq (fun K11 hK11 => ?_)
      refine Cd.region [0, 1, 2, 3] rfl ?_
      refine Seq.rd0 at0 rfl rfl (O.move (v := .slice _ _ _) rfl) ?_
      refine Seq.rd0 at1 rfl rfl (O.move (v := .slice _ _ _) rfl) ?_
      refine Seq.op at2 rfl (Op.gen rfl (O.appendOwnZ (k := 1) (new := rows Version_enc [x]) (m := vs.length) (old := rows Version_enc vs) (Ls := [(b, _)]) (R := L) ei_239 ds_239 (by decide) rfl (.inr ⟨b, cap, sp, rfl, hcap, hsp, rows_size Version_size vs, rfl⟩) (.inr ⟨bs, 0, 1, _, _, _, rfl, hbs.cons, Nat.le_of_ble_eq_true rfl, rows_all Version_size⟩) (rows_ones Version_one) (by omega)) ?_)
      rintro vr _ ⟨Lr, hr, rfl⟩
      refine Seq.rd0 at3 rfl rfl (O.assign (v := vr) rfl) ?_
      refine Seq.nil ?_
      refine hK11 ?_
      refine Cd.ret ?_
      obtain ⟨ar, cr, rfl⟩ := hr.form
      have hii : i = vs.length := by omega
      exact hR _ _ (Res.one (v := .slice _ _ _) rfl rfl) ⟨ar, cr, Lr, rfl, by rw [ins_rows, hii, List.take_of_length_le (Nat.le_refl _), List.drop_length]; simpa [rows] using hr, rfl⟩ (.refl _)
    · skip
      refine Cd.skip ?_
      refine hK8 ?_
      refine Cd.seq (fun K12 hK12 => ?_)
      refine Cd.seq (fun K13 hK13 => ?_)
      refine Cd.region [0, 1, 2, 3, 4, 5] rfl ?_
      refine Seq.rd0 at0 rfl rfl (O.move (v := .int .i64 _) rfl) ?_
      refine Seq.rd0 at1 rfl rfl (O.move (v := .int .i64 _) rfl) ?_
      refine Seq.rd0 at2 rfl rfl (O.add rfl rfl (by omega) (by omega)) ?_
      refine Seq.rd0 at3 rfl rfl (O.move (v := .slice _ _ _) rfl) ?_
      refine Seq.rd0 at4 rfl rfl (O.capS ds_239 rfl) ?_
      refine Seq.rd0 at5 rfl rfl (O.gtr rfl rfl) ?_
      refine Seq.nil ?_
      refine hK13 ?_
      refine Cd.if ((cap : Int) < ((vs.length : Int) + 1)) rfl (fun t14 => ?_) (fun t14 => ?_)
      · skip
        refine Cd.seq (fun K15 hK15 => ?_)
        refine Cd.region [0, 1, 2, 3, 4, 5, 6, 7, 8, 9] rfl ?_
        refine Seq.rd0 at0 rfl rfl (O.move (v := .slice _ _ _) rfl) ?_
        refine Seq.rd0 at1 rfl rfl (O.move (v := .int .i64 _) rfl) ?_
        refine Seq.rd0 at2 rfl rfl (O.sliceH sl_239 rfl rfl (by omega) (by omega) (by intro q hq; cases hq; rfl)) ?_
        refine Seq.rd0 at3 rfl rfl (O.move (v := .int .i64 _) rfl) ?_
        refine Seq.rd0 at4 rfl rfl (O.move (v := .int .i64 _) rfl) ?_
        refine Seq.rd0 at5 rfl rfl (O.add rfl rfl (by omega) (by omega)) ?_
        refine Seq.rd0 at6 rfl rfl (O.move (v := .int .i64 _) rfl) ?_
        refine Seq.rd0 at7 rfl rfl (O.sub rfl rfl (by omega) (by omega)) ?_
        refine Seq.op at8 rfl (Op.gen rfl (O.appendMake (m := i) (k := vs.length + 1 - i) (old := rows Version_enc (vs.take i)) ei_239 io_3 (by decide) rfl (by show Value.int .i64 _ = Value.int .i64 _; congr 1; omega) (.inr ⟨b, 0, cap, _, _, _, rfl, .head, by rw [Array.size_append, rows_size Version_size]; have := Nat.mul_le_mul_right 4 hi; omega, rows_take4 hi⟩) (by omega) (by omega)) ?_)
        rintro _ _ ⟨b2, cap2, new2, sp2, hb2, hcap2, hnew2, hsp2, rfl, rfl⟩
        obtain ⟨nA, nB, rfl, hnA, hnB⟩ := split_arr (cs := new2) (a := 4) (b := (vs.length - i) * 4) (by rw [hnew2]; omega)
        refine Seq.rd0 at9 rfl rfl (O.assign (v := .slice _ _ _) rfl) ?_
        refine Seq.nil ?_
        refine hK15 ?_
        refine Cd.seq (fun K16 hK16 => ?_)
        refine Cd.region [0, 1, 2, 3, 4] rfl ?_
        refine Seq.rd0 at0 rfl rfl (O.move (v := .slice _ _ _) rfl) ?_
        refine Seq.rd0 at1 rfl rfl (O.move (v := .int .i64 _) rfl) ?_
        refine Seq.rd0 at2 rfl rfl (O.sliceLt sl_239 rfl rfl (by omega) (by omega) (by omega)) ?_
        refine Seq.rd0 at3 rfl rfl (O.move (v := .slice _ _ _) rfl) ?_
        refine Seq.op at4 rfl (Op.gen rfl (O.copyA (k := 1) (new := rows Version_enc [x]) sl_239 rfl (by omega) (SrcR.slice (hbs.cons.cons) (Nat.le_of_ble_eq_true rfl) (rows_all Version_size (xs := [x]))) (rows_ones Version_one) (by simp only [Array.size_append, rows_size Version_size, hnA, List.length_take, List.length_cons, List.length_nil]; omega) (put3 (by rw [rows_size Version_size, hnA]; rfl) (by rw [rows_size Version_size, List.length_take]; simp; omega))) ?_)
        rintro _ _ ⟨rfl, rfl⟩
        refine Seq.nil ?_
        refine hK16 ?_
        refine Cd.seq (fun K17 hK17 => ?_)
        refine Cd.draw 9 rfl po ?_
        refine Any.rd0 0 at0 rfl rfl (O.move (v := .slice _ _ _) rfl) (by kernel_rfl) (by kernel_rfl) (by kernel_rfl) ?_
        refine Any.rd0 1 at1 rfl rfl (O.move (v := .int .i64 _) rfl) (by kernel_rfl) (by kernel_rfl) (by kernel_rfl) ?_
        refine Any.rd0 2 at2 rfl rfl (O.move (v := .int .i64 _) rfl) (by kernel_rfl) (by kernel_rfl) (by kernel_rfl) ?_
        refine Any.rd0 3 at3 rfl rfl (O.add rfl rfl (by omega) (by omega)) (by kernel_rfl) (by kernel_rfl) (by kernel_rfl) ?_
        refine Any.rd0 4 at4 rfl rfl (O.sliceLt sl_239 rfl rfl (by omega) (by omega) (by omega)) (by kernel_rfl) (by kernel_rfl) (by kernel_rfl) ?_
        refine Any.rd0 5 at5 rfl rfl (O.move (v := .slice _ _ _) rfl) (by kernel_rfl) (by kernel_rfl) (by kernel_rfl) ?_
        refine Any.rd0 6 at6 rfl rfl (O.move (v := .int .i64 _) rfl) (by kernel_rfl) (by kernel_rfl) (by kernel_rfl) ?_
        refine Any.rd0 7 at7 rfl rfl (O.sliceLt sl_239 rfl rfl (by omega) (by omega) (by omega)) (by kernel_rfl) (by kernel_rfl) (by kernel_rfl) ?_
        refine Any.one 8 at8 rfl (by kernel_rfl) trivial ?_
        refine Op.gen rfl (O.copyB (new := rows Version_enc (vs.drop i)) sl_239 rfl (by omega) (SrcR.slice (Rd.head.cons) (by rw [Array.size_append, rows_size Version_size]; omega) (rows_drop4 hi (by omega))) (rows_ones Version_one) (by simp only [Array.size_append, rows_size Version_size, hnB, List.length_take, List.length_drop, List.length_cons, List.length_nil]; omega) (put4 (by rw [rows_size Version_size, hnB, List.length_drop]) (by simp only [rows_size Version_size, List.length_take, List.length_cons, List.length_nil]; omega))) ?_
        rintro _ _ ⟨rfl, rfl⟩
        refine Any.toK ?_
        refine Any.done (by kernel_rfl) trivial ?_
        refine hK17 ?_
        refine Cd.seq (fun K18 hK18 => ?_)
        refine Cd.region [0, 1] rfl ?_
        refine Seq.rd0 at0 rfl rfl (O.move (v := .slice _ _ _) rfl) ?_
        refine Seq.rd0 at1 rfl rfl (O.assign (v := .slice _ _ _) rfl) ?_
        refine Seq.nil ?_
        refine hK18 ?_
        refine Cd.ret ?_
        have hnn : i + (vs.length + 1 - i) = vs.length + 1 := by omega
        exact hR _ ((b2, _) :: L) (Res.one (v := .slice _ _ _) rfl rfl) ⟨_, cap2, [(b2, _)], by rw [hnn], .inr ⟨b2, cap2, sp2, by rw [hnn], by omega, by rw [hsp2, hnn], by rw [rows_size Version_size, ins_len hi], by rw [ins_rows]; simp⟩, rfl⟩ (.cons_cons _ (.cons _ (.refl _)))
      · skip
        refine Cd.skip ?_
        refine hK12 ?_
        refine Cd.seq (fun K19 hK19 => ?_)
        refine Cd.region [0, 1, 2, 3, 4, 5] rfl ?_
        refine Seq.rd0 at0 rfl rfl (O.move (v := .slice _ _ _) rfl) ?_
        refine Seq.rd0 at1 rfl rfl (O.move (v := .int .i64 _) rfl) ?_
        refine Seq.rd0 at2 rfl rfl (O.move (v := .int .i64 _) rfl) ?_
        refine Seq.rd0 at3 rfl rfl (O.add rfl rfl (by omega) (by omega)) ?_
        refine Seq.rd0 at4 rfl rfl (O.sliceH sl_239 rfl rfl (by omega) (by omega) (by intro q hq; cases hq; rfl)) ?_
        refine Seq.rd0 at5 rfl rfl (O.assign (v := .slice _ _ _) rfl) ?_
        refine Seq.nil ?_
        refine hK19 ?_
        refine Cd.seq (fun K20 hK20 => ?_)
        refine Cd.seq (fun K21 hK21 => ?_)
        refine Cd.region [0, 1, 2, 3, 4, 5, 6, 7] rfl ?_
        refine Seq.rd0 at0 rfl rfl (O.move (v := .slice _ _ _) rfl) ?_
        refine Seq.rd0 at1 rfl rfl (O.move (v := .slice _ _ _) rfl) ?_
        refine Seq.rd0 at2 rfl rfl (O.move (v := .int .i64 _) rfl) ?_
        refine Seq.rd0 at3 rfl rfl (O.move (v := .int .i64 _) rfl) ?_
        refine Seq.rd0 at4 rfl rfl (O.add rfl rfl (by omega) (by omega)) ?_
        refine Seq.rd0 at5 rfl rfl (O.sliceLt sl_239 rfl rfl (by omega) (by omega) (by omega)) ?_
        obtain ⟨spA, spB, rfl, hsA, hsB⟩ := split_arr (cs := sp) (a := 4) (b := (cap - vs.length - 1) * 4) (by rw [hsp]; omega)
        have hin : i < vs.length := by omega
        refine Seq.op at6 rfl (Op.gen rfl (O.overlapsNo (tR := 4) (t := 239) Tryz.func249 (by kernel_rfl) (by kernel_rfl) (by kernel_rfl) (by kernel_rfl) sl_239 rfl rfl hne hbs.cons Rd.head (by simp only [Array.size_append, hsA]; omega)) ?_)
        rintro _ _ ⟨rfl, rfl⟩
        refine Seq.rd0 at7 rfl rfl (O.not rfl) ?_
        refine Seq.nil ?_
        refine hK21 ?_
        refine Cd.condT rfl ?_
        refine Cd.seq (fun K22 hK22 => ?_)
        refine Cd.draw 9 rfl po ?_
        refine Any.rd0 0 at0 rfl rfl (O.move (v := .slice _ _ _) rfl) (by kernel_rfl) (by kernel_rfl) (by kernel_rfl) ?_
        refine Any.rd0 1 at1 rfl rfl (O.move (v := .int .i64 _) rfl) (by kernel_rfl) (by kernel_rfl) (by kernel_rfl) ?_
        refine Any.rd0 2 at2 rfl rfl (O.move (v := .int .i64 _) rfl) (by kernel_rfl) (by kernel_rfl) (by kernel_rfl) ?_
        refine Any.rd0 3 at3 rfl rfl (O.add rfl rfl (by omega) (by omega)) (by kernel_rfl) (by kernel_rfl) (by kernel_rfl) ?_
        refine Any.rd0 4 at4 rfl rfl (O.sliceLt sl_239 rfl rfl (by omega) (by omega) (by omega)) (by kernel_rfl) (by kernel_rfl) (by kernel_rfl) ?_
        refine Any.rd0 5 at5 rfl rfl (O.move (v := .slice _ _ _) rfl) (by kernel_rfl) (by kernel_rfl) (by kernel_rfl) ?_
        refine Any.rd0 6 at6 rfl rfl (O.move (v := .int .i64 _) rfl) (by kernel_rfl) (by kernel_rfl) (by kernel_rfl) ?_
        refine Any.rd0 7 at7 rfl rfl (O.sliceLt sl_239 rfl rfl (by omega) (by omega) (by omega)) (by kernel_rfl) (by kernel_rfl) (by kernel_rfl) ?_
        refine Any.one 8 at8 rfl (by kernel_rfl) trivial ?_
        refine Op.gen rfl (O.copyB (new := rows Version_enc (vs.drop i)) sl_239 rfl (by omega) (SrcR.slice (Rd.head) (by simp only [Array.size_append, rows_size Version_size, hsA, hsB]; omega) (rows_drop4 hi (by omega))) (rows_ones Version_one) (by simp only [Array.size_append, rows_size Version_size, hsA, hsB, List.length_drop]; omega) (put5 hin hsA (by omega))) ?_
        rintro _ _ ⟨rfl, rfl⟩
        refine Any.toK ?_
        refine Any.done (by kernel_rfl) trivial ?_
        refine hK22 ?_
        refine Cd.seq (fun K23 hK23 => ?_)
        refine Cd.region [0, 1, 2, 3, 4] rfl ?_
        refine Seq.rd0 at0 rfl rfl (O.move (v := .slice _ _ _) rfl) ?_
        refine Seq.rd0 at1 rfl rfl (O.move (v := .int .i64 _) rfl) ?_
        refine Seq.rd0 at2 rfl rfl (O.sliceLt sl_239 rfl rfl (by omega) (by omega) (by omega)) ?_
        refine Seq.rd0 at3 rfl rfl (O.move (v := .slice _ _ _) rfl) ?_
        refine Seq.op at4 rfl (Op.gen rfl (O.copyA (k := 1) (new := rows Version_enc [x]) sl_239 rfl (by omega) (SrcR.slice (hbs.cons) (Nat.le_of_ble_eq_true rfl) (rows_all Version_size (xs := [x]))) (rows_ones Version_one) (by simp only [Array.size_append, rows_size Version_size, hsB, List.length_drop, List.length_take, List.length_cons, List.length_nil]; omega) (put6 hin (by omega))) ?_)
        rintro _ _ ⟨rfl, rfl⟩
        refine Seq.nil ?_
        refine hK23 ?_
        refine Cd.seq (fun K24 hK24 => ?_)
        refine Cd.region [0, 1] rfl ?_
        refine Seq.rd0 at0 rfl rfl (O.move (v := .slice _ _ _) rfl) ?_
        refine Seq.rd0 at1 rfl rfl (O.assign (v := .slice _ _ _) rfl) ?_
        refine Seq.nil ?_
        refine hK24 ?_
        refine Cd.ret ?_
        have hnn : ((vs.length : Int) + ((1 : Nat) : Int)).toNat = vs.length + 1 := by omega
        exact hR _ ((b, _) :: L) (Res.one (v := .slice _ _ _) rfl rfl) ⟨_, cap, [(b, _)], by rw [hnn], .inr ⟨b, cap, spB, by rw [hnn], by omega, by rw [hsB]; congr 1, by rw [rows_size Version_size, ins_len hi], by rw [ins_rows]; simp⟩, rfl⟩ (.refl _)

end Go.X

namespace Go.X
open Go.Proofs
theorem hb_224 : hasBody Tryz.prog 224 = true := by kernel_rfl
set_option maxRecDepth 100000 in
set_option maxHeartbeats 2000000 in
theorem C_Insert_nil {c : Cx} {L : List Pt} {bs : Nat} {x : Version} (hbs : Rd c L bs (.cells (rows Version_enc [x]) 242 (0, 0))) : Fn Tryz.prog 224 #[.slice none 0 0, .int .i64 0, .slice (some ⟨bs, 0, none⟩) 1 1] c L (fun v L' => ∃ av' cap' Ls', v = .slice av' 1 cap' ∧ OwnSl 242 4 (rows Version_enc [x]) 1 v Ls' ∧ L' = Ls' ++ L) := by
  refine Fn.enter Tryz.func224 rfl 95 rfl rfl (fun R hR => ?_)
  refine Cd.seq (fun K1 hK1 => ?_)
  refine Cd.region [0] rfl ?_
  refine Seq.rd0 at0 rfl rfl (O.assign (v := .slice _ _ _) rfl) ?_
  refine Seq.nil ?_
  refine hK1 ?_
  refine Cd.seq (fun K2 hK2 => ?_)
  refine Cd.region [0, 1, 2] rfl ?_
  refine Seq.rd0 at0 rfl rfl (O.move (v := .slice _ _ _) rfl) ?_
  refine Seq.rd0 at1 rfl rfl (O.move (v := .int .i64 _) rfl) ?_
  refine Seq.rd0 at2 rfl rfl (O.sliceNil sl_239 rfl rfl) ?_
  refine Seq.nil ?_
  refine hK2 ?_
  refine Cd.seq (fun K3 hK3 => ?_)
  refine Cd.region [0, 1, 2] rfl ?_
  refine Seq.rd0 at0 rfl rfl (O.move (v := .slice _ _ _) rfl) ?_
  refine Seq.rd0 at1 rfl rfl (O.lenS ds_239 rfl) ?_
  refine Seq.rd0 at2 rfl rfl (O.assign (v := .int .i64 _) rfl) ?_
  refine Seq.nil ?_
  refine hK3 ?_
  refine Cd.seq (fun K4 hK4 => ?_)
  refine Cd.seq (fun K5 hK5 => ?_)
  refine Cd.region [0, 1] rfl ?_
  refine Seq.rd0 at0 rfl rfl (O.move (v := .int .i64 _) rfl) ?_
  refine Seq.rd0 at1 rfl rfl (O.eqI rfl rfl) ?_
  refine Seq.nil ?_
  refine hK5 ?_
  refine Cd.if ((1 : Int) = 0) rfl (fun t6 => ?_) (fun t6 => ?_)
  · skip
    exact absurd t6 (by decide)
  · skip
    refine Cd.skip ?_
    refine hK4 ?_
    refine Cd.seq (fun K7 hK7 => ?_)
    refine Cd.region [0, 1, 2] rfl ?_
    refine Seq.rd0 at0 rfl rfl (O.move (v := .slice _ _ _) rfl) ?_
    refine Seq.rd0 at1 rfl rfl (O.lenS ds_239 rfl) ?_
    refine Seq.rd0 at2 rfl rfl (O.assign (v := .int .i64 _) rfl) ?_
    refine Seq.nil ?_
    refine hK7 ?_
    refine Cd.seq (fun K8 hK8 => ?_)
    refine Cd.seq (fun K9 hK9 => ?_)
    refine Cd.region [0, 1, 2] rfl ?_
    refine Seq.rd0 at0 rfl rfl (O.move (v := .int .i64 _) rfl) ?_
    refine Seq.rd0 at1 rfl rfl (O.move (v := .int .i64 _) rfl) ?_
    refine Seq.rd0 at2 rfl rfl (O.eqI rfl rfl) ?_
    refine Seq.nil ?_
    refine hK9 ?_
    refine Cd.if ((0 : Int) = 0) rfl (fun t10 => ?_) (fun t10 => ?_)
    · skip
      refine Cd.seq (fun K11 hK11 => ?_)
      refine Cd.region [0, 1, 2, 3] rfl ?_
      refine Seq.rd0 at0 rfl rfl (O.move (v := .slice _ _ _) rfl) ?_
      refine Seq.rd0 at1 rfl rfl (O.move (v := .slice _ _ _) rfl) ?_
      refine Seq.op at2 rfl (Op.gen rfl (O.appendOwnZ (k := 1) (new := rows Version_enc [x]) (m := 0) (old := #[]) (Ls := []) (R := L) ei_239 ds_239 (by decide) rfl (.inl ⟨rfl, rfl, rfl, rfl⟩) (.inr ⟨bs, 0, 1, _, _, _, rfl, hbs, Nat.le_of_ble_eq_true rfl, rows_all Version_size⟩) (rows_ones Version_one) (by omega)) ?_)
      rintro vr _ ⟨Lr, hr, rfl⟩
      refine Seq.rd0 at3 rfl rfl (O.assign (v := vr) rfl) ?_
      refine Seq.nil ?_
      refine hK11 ?_
      refine Cd.ret ?_
      obtain ⟨ar, cr, rfl⟩ := hr.form
      exact hR _ _ (Res.one (v := .slice _ _ _) rfl rfl) ⟨ar, cr, Lr, rfl, by simpa using hr, rfl⟩ (.refl _)
    · skip
      exact absurd rfl t10

theorem C_Insert {c : Cx} {R Ls : List Pt} {av : Option Addr} {cap bs i : Nat} {vs : List Version} {x : Version} (ho : OwnSl 242 4 (rows Version_enc vs) vs.length (.slice av vs.length cap) Ls) (hi : i ≤ vs.length) (hlt : vs.length ≤ 1000000000)
    (hbs : (bs, .cells (rows Version_enc [x]) 242 (0, 0)) ∈ R) : Fn Tryz.prog 224 #[.slice av vs.length cap, .int .i64 (i : Nat), .slice (some ⟨bs, 0, none⟩) 1 1] c (Ls ++ R)
      (fun v L' => ∃ av' cap' Ls', v = .slice av' (vs.length + 1) cap' ∧ OwnSl 242 4 (rows Version_enc (vs.take i ++ x :: vs.drop i)) (vs.length + 1) (.slice av' (vs.length + 1) cap') Ls' ∧ L' = Ls' ++ R) := by
  rcases ho with ⟨h0, _, hv, rfl⟩ | ⟨b, cap', sp, hv, h1, h2, h3, rfl⟩
  · obtain rfl : vs = [] := List.length_eq_zero_iff.1 h0
    obtain ⟨rfl, rfl⟩ : av = none ∧ cap = 0 := by simpa using hv
    obtain rfl : i = 0 := by simpa using hi
    exact Fn.mono (C_Insert_nil (L := R) (Rd.mem hbs)) fun v L' ⟨av', cap', Ls', h4, h5, h6⟩ => ⟨av', cap', Ls', h4, h4 ▸ h5, h6⟩
  · obtain ⟨rfl, rfl⟩ : av = some ⟨b, 0, none⟩ ∧ cap = cap' := by simpa using hv
    refine Fn.nd fun hnd => ?_
    have hne : bs ≠ b := by
      rintro rfl
      simp only [List.singleton_append, List.map_cons, List.nodup_cons] at hnd
      exact hnd.1 (List.mem_map.2 ⟨_, hbs, rfl⟩)
    exact Fn.mono (C_Insert_own (L := R) h1 h2 hi hlt hne (Rd.mem hbs)) fun v L' ⟨av', cap', Ls', h4, h5, h6⟩ => ⟨av', cap', Ls', h4, h4 ▸ h5, h6⟩

set_option maxRecDepth 100000 in
set_option maxHeartbeats 2000000 in
theorem C_Put_own {c : Cx} {L : List Pt} {cb cap : Nat} {av : Option Addr} {vs : List Version} {x : Version} {Ls : List Pt} (ho : OwnSl 242 4 (rows Version_enc vs) vs.length (.slice av vs.length cap) Ls) (hs : Sorted vs) (h50 : vs.length ≤ 50) (hC : ChAt c ((cb, .cells #[.slice av vs.length cap] 300 (0, 0)) :: (Ls ++ L)) cb vs) : Fn Tryz.prog 173 #[.pointer (some ⟨cb, 0, none⟩), .agg (Version_enc x)] c ((cb, .cells #[.slice av vs.length cap] 300 (0, 0)) :: (Ls ++ L)) (fun v L' => v = .int .i64 (putE vs x) ∧ ∃ G', One cb (afterPut vs x) G' ∧ L' = G' ++ L) := by
  refine Fn.enter Tryz.func173 rfl 53 rfl rfl (fun R hR => ?_)
  refine Cd.seq (fun K1 hK1 => ?_)
  refine Cd.region [0, 1] rfl ?_
  refine Seq.op at0 rfl (Op.new rfl (O.box (v := .agg _) rfl (cs := (Version_enc x)) rfl) ?_)
  intro b2 hb2
  refine Seq.rd0 at1 rfl rfl (O.assign (v := .int .i64 _) rfl) ?_
  refine Seq.nil ?_
  refine hK1 ?_
  refine Cd.seq (fun K3 hK3 => ?_)
  refine Cd.seq (fun K4 hK4 => ?_)
  refine Cd.region [0, 1, 2, 3, 4, 5, 6, 7, 8, 9, 10, 11, 12, 13, 14, 15, 16, 17, 18] rfl ?_
  refine Seq.rd0 at0 rfl rfl (O.field fo_242_0 rfl) ?_
  refine Seq.rd1 at1 rfl rfl (O.loadA kd_24 rfl (Nat.le_of_ble_eq_true rfl) (Version_stamp _)) Rd.head ?_
  refine Seq.op at2 rfl (Op.callF rfl hb_98 C_stamp_Good rfl ?_)
  rintro _ _ ⟨rfl, rfl⟩
  refine Seq.rd0 at3 rfl rfl (O.not rfl) ?_
  refine Seq.rd0 at4 rfl rfl (O.move (v := .bool _) rfl) ?_
  cases t5 : decide (x.stamp).good
  · skip
    refine Seq.pass at5 rfl rfl ?_
    refine Seq.pass at6 rfl rfl ?_
    refine Seq.pass at7 rfl rfl ?_
    refine Seq.pass at8 rfl rfl ?_
    refine Seq.rd0 at9 rfl rfl (O.pickT (v := .bool _) rfl rfl) ?_
    refine Seq.rd0 at10 rfl rfl (O.move (v := .bool _) rfl) ?_
    refine Seq.pass at11 rfl rfl ?_
    refine Seq.pass at12 rfl rfl ?_
    refine Seq.pass at13 rfl rfl ?_
    refine Seq.pass at14 rfl rfl ?_
    refine Seq.pass at15 rfl rfl ?_
    refine Seq.pass at16 rfl rfl ?_
    refine Seq.pass at17 rfl rfl ?_
    refine Seq.rd0 at18 rfl rfl (O.pickT (v := .bool _) rfl rfl) ?_
    refine Seq.nil ?_
    refine hK4 ?_
    refine Cd.condT rfl ?_
    refine Cd.seq (fun K6 hK6 => ?_)
    refine Cd.region [0] rfl ?_
    refine Seq.rd0 at0 rfl rfl (O.assign (v := .int .i64 _) rfl) ?_
    refine Seq.nil ?_
    refine hK6 ?_
    refine Cd.ret ?_
    have hbad : ¬ x.stamp.good ∨ 200 < (x.val.size : Int) ∨ (x.gone = true ∧ ¬ x.val = ⟨#[]⟩) := by first | (left; assumption) | (left; simp_all; done) | (right; left; assumption) | (right; right; exact ⟨by assumption, by assumption⟩)
    have hpe : putE vs x = 1 := by unfold putE; rw [if_pos hbad]
    have hone : One cb (afterPut vs x) ((cb, .cells #[.slice av vs.length cap] 300 (0, 0)) :: Ls) := by
      have h2 : afterPut vs x = vs := by unfold afterPut; rw [if_neg (by omega)]
      rw [h2]; exact ⟨av, cap, Ls, rfl, ho, hs, h50⟩
    exact hR _ _ (Res.one (v := .int .i64 _) rfl rfl) ⟨by rw [hpe], _, hone, rfl⟩ (.cons _ (.refl _))
  · skip
    refine Seq.rd0 at5 rfl rfl (O.field fo_242_1 rfl) ?_
    refine Seq.rd1 at6 rfl rfl (O.load kd_9 rfl (Version_val _)) Rd.head ?_
    refine Seq.rd0 at7 rfl rfl (O.lenT ds_9 rfl) ?_
    refine Seq.rd0 at8 rfl rfl (O.gtr rfl rfl) ?_
    refine Seq.rd0 at9 rfl rfl (O.pickF (v := .bool _) rfl rfl) ?_
    refine Seq.rd0 at10 rfl rfl (O.move (v := .bool _) rfl) ?_
    by_cases t7 : (200 : Int) < (x.val.size : Int)
    · rw [decide_eq_true t7]
      refine Seq.pass at11 rfl rfl ?_
      refine Seq.pass at12 rfl rfl ?_
      refine Seq.pass at13 rfl rfl ?_
      refine Seq.pass at14 rfl rfl ?_
      refine Seq.pass at15 rfl rfl ?_
      refine Seq.pass at16 rfl rfl ?_
      refine Seq.pass at17 rfl rfl ?_
      refine Seq.rd0 at18 rfl rfl (O.pickT (v := .bool _) rfl rfl) ?_
      refine Seq.nil ?_
      refine hK4 ?_
      refine Cd.condT rfl ?_
      refine Cd.seq (fun K8 hK8 => ?_)
      refine Cd.region [0] rfl ?_
      refine Seq.rd0 at0 rfl rfl (O.assign (v := .int .i64 _) rfl) ?_
      refine Seq.nil ?_
      refine hK8 ?_
      refine Cd.ret ?_
      have hbad : ¬ x.stamp.good ∨ 200 < (x.val.size : Int) ∨ (x.gone = true ∧ ¬ x.val = ⟨#[]⟩) := by first | (left; assumption) | (left; simp_all; done) | (right; left; assumption) | (right; right; exact ⟨by assumption, by assumption⟩)
      have hpe : putE vs x = 1 := by unfold putE; rw [if_pos hbad]
      have hone : One cb (afterPut vs x) ((cb, .cells #[.slice av vs.length cap] 300 (0, 0)) :: Ls) := by
        have h2 : afterPut vs x = vs := by unfold afterPut; rw [if_neg (by omega)]
        rw [h2]; exact ⟨av, cap, Ls, rfl, ho, hs, h50⟩
      exact hR _ _ (Res.one (v := .int .i64 _) rfl rfl) ⟨by rw [hpe], _, hone, rfl⟩ (.cons _ (.refl _))
    · rw [decide_eq_false t7]
      refine Seq.rd0 at11 rfl rfl (O.field fo_242_2 rfl) ?_
      refine Seq.rd1 at12 rfl rfl (O.load kd_4 rfl (Version_gone _)) Rd.head ?_
      refine Seq.rd0 at13 rfl rfl (O.move (v := .bool _) rfl) ?_
      cases t9 : x.gone
      · skip
        refine Seq.pass at14 rfl rfl ?_
        refine Seq.pass at15 rfl rfl ?_
        refine Seq.pass at16 rfl rfl ?_
        refine Seq.rd0 at17 rfl rfl (O.pickF (v := .bool _) rfl rfl) ?_
        refine Seq.rd0 at18 rfl rfl (O.pickF (v := .bool _) rfl rfl) ?_
        refine Seq.nil ?_
        refine hK4 ?_
        refine Cd.condF rfl ?_
        refine Cd.skip ?_
        refine hK3 ?_
        refine Cd.seq (fun K10 hK10 => ?_)
        refine Cd.region [0, 1, 2, 3, 4, 5, 6, 7, 8] rfl ?_
        refine Seq.rd0 at0 rfl rfl (O.move (v := .pointer _) rfl) ?_
        refine Seq.rd0 at1 rfl rfl (O.field fo_242_0 rfl) ?_
        refine Seq.rd1 at2 rfl rfl (O.loadA kd_24 rfl (Nat.le_of_ble_eq_true rfl) (Version_stamp _)) Rd.head ?_
        refine Seq.op at3 rfl (Op.callF rfl hb_223 (C_place hs (by omega) (hC.cons)) rfl ?_)
        rintro _ _ ⟨rfl, rfl⟩
        refine Seq.rd0 at4 rfl rfl (O.move (v := .tuple _) rfl) ?_
        refine Seq.rd0 at5 rfl rfl (O.ext rfl r2_0) ?_
        refine Seq.rd0 at6 rfl rfl (O.ext rfl r2_1) ?_
        refine Seq.rd0 at7 rfl rfl (O.assign (v := .int .i64 _) rfl) ?_
        refine Seq.rd0 at8 rfl rfl (O.assign (v := .bool _) rfl) ?_
        refine Seq.nil ?_
        refine hK10 ?_
        refine Cd.seq (fun K11 hK11 => ?_)
        refine Cd.block ?_
        refine Cd.seq (fun K12 hK12 => ?_)
        refine Cd.region [0, 1] rfl ?_
        refine Seq.rd0 at0 rfl rfl (O.move (v := .bool _) rfl) ?_
        refine Seq.rd0 at1 rfl rfl (O.assign (v := .bool _) rfl) ?_
        refine Seq.nil ?_
        refine hK12 ?_
        refine Cd.cond ((hasS vs x.stamp)) rfl (fun t13 => ?_) (fun t13 => ?_)
        · skip
          refine Cd.seq (fun K14 hK14 => ?_)
          refine Cd.region [0] rfl ?_
          refine Seq.rd0 at0 rfl rfl (O.assign (v := .int .i64 _) rfl) ?_
          refine Seq.nil ?_
          refine hK14 ?_
          refine Cd.ret ?_
          have hok1 : ¬ (¬ x.stamp.good ∨ 200 < (x.val.size : Int) ∨ (x.gone = true ∧ ¬ x.val = ⟨#[]⟩)) := by rintro (h | h | ⟨h, h9⟩) <;> first | (simp_all; done) | omega
          have hpe : putE vs x = 5 := by unfold putE; rw [if_neg hok1, if_pos (by assumption)]
          have hone : One cb (afterPut vs x) ((cb, .cells #[.slice av vs.length cap] 300 (0, 0)) :: Ls) := by
            have h2 : afterPut vs x = vs := by unfold afterPut; rw [if_neg (by omega)]
            rw [h2]; exact ⟨av, cap, Ls, rfl, ho, hs, h50⟩
          exact hR _ _ (Res.one (v := .int .i64 _) rfl rfl) ⟨by rw [hpe], _, hone, rfl⟩ (.cons _ (.refl _))
        · skip
          refine Cd.seq (fun K15 hK15 => ?_)
          refine Cd.region [0, 1, 2, 3, 4, 5, 6] rfl ?_
          refine Seq.rd0 at0 rfl rfl (O.move (v := .pointer _) rfl) ?_
          refine Seq.rd0 at1 rfl rfl (O.nilP rfl) ?_
          refine Seq.rd0 at2 rfl rfl (O.field fo_300_0 rfl) ?_
          refine Seq.rd1 at3 rfl rfl (O.load kd_239 rfl r1_0) Rd.head.cons ?_
          refine Seq.rd0 at4 rfl rfl (O.lenS ds_239 rfl) ?_
          refine Seq.rd0 at5 rfl rfl (O.geq rfl rfl) ?_
          refine Seq.rd0 at6 rfl rfl (O.assign (v := .bool _) rfl) ?_
          refine Seq.nil ?_
          refine hK15 ?_
          refine Cd.if ((50 : Int) ≤ (vs.length : Int)) rfl (fun t16 => ?_) (fun t16 => ?_)
          · skip
            refine Cd.seq (fun K17 hK17 => ?_)
            refine Cd.region [0] rfl ?_
            refine Seq.rd0 at0 rfl rfl (O.assign (v := .int .i64 _) rfl) ?_
            refine Seq.nil ?_
            refine hK17 ?_
            refine Cd.ret ?_
            have hok1 : ¬ (¬ x.stamp.good ∨ 200 < (x.val.size : Int) ∨ (x.gone = true ∧ ¬ x.val = ⟨#[]⟩)) := by rintro (h | h | ⟨h, h9⟩) <;> first | (simp_all; done) | omega
            have hpe : putE vs x = 6 := by unfold putE; rw [if_neg hok1, if_neg (by simp_all), if_pos (by omega)]
            have hone : One cb (afterPut vs x) ((cb, .cells #[.slice av vs.length cap] 300 (0, 0)) :: Ls) := by
              have h2 : afterPut vs x = vs := by unfold afterPut; rw [if_neg (by omega)]
              rw [h2]; exact ⟨av, cap, Ls, rfl, ho, hs, h50⟩
            exact hR _ _ (Res.one (v := .int .i64 _) rfl rfl) ⟨by rw [hpe], _, hone, rfl⟩ (.cons _ (.refl _))
          · skip
            refine Cd.skip ?_
            refine hK11 ?_
            refine Cd.seq (fun K18 hK18 => ?_)
            refine Cd.draw 12 rfl po ?_
            refine Any.rd0 0 at0 rfl rfl (O.move (v := .pointer _) rfl) (by kernel_rfl) (by kernel_rfl) (by kernel_rfl) ?_
            refine Any.rd0 1 at1 rfl rfl (O.move (v := .pointer _) rfl) (by kernel_rfl) (by kernel_rfl) (by kernel_rfl) ?_
            refine Any.rd0 2 at2 rfl rfl (O.nilP rfl) (by kernel_rfl) (by kernel_rfl) (by kernel_rfl) ?_
            refine Any.rd0 3 at3 rfl rfl (O.field fo_300_0 rfl) (by kernel_rfl) (by kernel_rfl) (by kernel_rfl) ?_
            refine Any.rd0 5 at5 rfl rfl (O.move (v := .int .i64 _) rfl) (by kernel_rfl) (by kernel_rfl) (by kernel_rfl) ?_
            refine Any.rd1 6 at6 rfl rfl (O.loadA kd_242 rfl (Nat.le_of_ble_eq_true rfl) (Version_all _)) Rd.head (by kernel_rfl) (by kernel_rfl) (by kernel_rfl) ?_
            refine Any.two 4 7 at4 at7 rfl rfl (by kernel_rfl) ⟨trivial, Rd.head⟩ ?_ ?_
            · skip
              refine Op.rd1 rfl (O.load kd_239 rfl r1_0) Rd.head.cons ?_
              refine Any.toK ?_
              refine Any.one 7 at7 rfl (by kernel_rfl) ⟨trivial, Rd.head⟩ ?_
              refine Op.new rfl (O.buildSlice (el := 242) rfl (cs := (rows Version_enc [x])) (by kernel_rfl)) ?_
              intro b19 hb19
              refine Any.toK ?_
              refine Any.one 8 at8 rfl (by kernel_rfl) ⟨trivial, Rd.head.cons⟩ ?_
              refine Op.callF rfl hb_224 (Fn.perm (C_Insert (R := [(b19, _), (b2, _), (cb, _)] ++ L) ho (below_le vs x.stamp) (by omega) List.mem_cons_self) (bring (pre := [(b19, _), (b2, _), (cb, _)]))) rfl ?_
              rintro _ _ ⟨av2, cap2, Ls2, rfl, ho2, rfl⟩
              refine Ent.perm ?_ (bring (Ls := Ls2) (pre := [(b19, _), (b2, _), (cb, _)]) (R := L)).symm
              refine Any.toK ?_
              refine Any.rd0 9 at9 rfl rfl (O.nilP rfl) (by kernel_rfl) (by kernel_rfl) (by kernel_rfl) ?_
              refine Any.rd0 10 at10 rfl rfl (O.field fo_300_0 rfl) (by kernel_rfl) (by kernel_rfl) (by kernel_rfl) ?_
              refine Any.one 11 at11 rfl (by kernel_rfl) ⟨trivial, Rd.head.cons⟩ ?_
              refine Op.set2 rfl (O.store1 kd_239 rfl (v := .slice _ _ _) rfl (Nat.le_of_ble_eq_true rfl) rfl (cs' := #[.slice av2 (vs.length + 1) cap2]) rfl) ?_
              refine Any.toK ?_
              refine Any.done (by kernel_rfl) ⟨trivial, Rd.head.cons⟩ ?_
              refine hK18 ?_
              refine Cd.seq (fun K20 hK20 => ?_)
              refine Cd.region [0] rfl ?_
              refine Seq.rd0 at0 rfl rfl (O.assign (v := .int .i64 _) rfl) ?_
              refine Seq.nil ?_
              refine hK20 ?_
              refine Cd.ret ?_
              have hok1 : ¬ (¬ x.stamp.good ∨ 200 < (x.val.size : Int) ∨ (x.gone = true ∧ ¬ x.val = ⟨#[]⟩)) := by rintro (h | h | ⟨h, h9⟩) <;> first | (simp_all; done) | omega
              have hpe : putE vs x = 0 := by unfold putE; rw [if_neg hok1, if_neg (by simp_all), if_neg (by omega)]
              have hone : One cb (afterPut vs x) ((cb, .cells #[.slice av2 (vs.length + 1) cap2] 300 (0, 0)) :: Ls2) := by
                have h1 : hasS vs x.stamp = false := by simp_all
                have h2 : afterPut vs x = putV vs x := by unfold afterPut; rw [if_pos hpe]
                rw [h2]
                exact ⟨av2, cap2, Ls2, by rw [putV_length], by rw [putV_length]; exact ho2, putV_sorted hs h1, by rw [putV_length]; omega⟩
              exact hR _ _ (Res.one (v := .int .i64 _) rfl rfl) ⟨by rw [hpe], _, hone, rfl⟩ (.cons _ (.cons _ (.refl _)))
            · skip
              refine Op.new rfl (O.buildSlice (el := 242) rfl (cs := (rows Version_enc [x])) (by kernel_rfl)) ?_
              intro b21 hb21
              refine Any.toK ?_
              refine Any.one 4 at4 rfl (by kernel_rfl) ⟨trivial, Rd.head.cons⟩ ?_
              refine Op.rd1 rfl (O.load kd_239 rfl r1_0) Rd.head.cons.cons ?_
              refine Any.toK ?_
              refine Any.one 8 at8 rfl (by kernel_rfl) ⟨trivial, Rd.head.cons⟩ ?_
              refine Op.callF rfl hb_224 (Fn.perm (C_Insert (R := [(b21, _), (b2, _), (cb, _)] ++ L) ho (below_le vs x.stamp) (by omega) List.mem_cons_self) (bring (pre := [(b21, _), (b2, _), (cb, _)]))) rfl ?_
              rintro _ _ ⟨av2, cap2, Ls2, rfl, ho2, rfl⟩
              refine Ent.perm ?_ (bring (Ls := Ls2) (pre := [(b21, _), (b2, _), (cb, _)]) (R := L)).symm
              refine Any.toK ?_
              refine Any.rd0 9 at9 rfl rfl (O.nilP rfl) (by kernel_rfl) (by kernel_rfl) (by kernel_rfl) ?_
              refine Any.rd0 10 at10 rfl rfl (O.field fo_300_0 rfl) (by kernel_rfl) (by kernel_rfl) (by kernel_rfl) ?_
              refine Any.one 11 at11 rfl (by kernel_rfl) ⟨trivial, Rd.head.cons⟩ ?_
              refine Op.set2 rfl (O.store1 kd_239 rfl (v := .slice _ _ _) rfl (Nat.le_of_ble_eq_true rfl) rfl (cs' := #[.slice av2 (vs.length + 1) cap2]) rfl) ?_
              refine Any.toK ?_
              refine Any.done (by kernel_rfl) ⟨trivial, Rd.head.cons⟩ ?_
              refine hK18 ?_
              refine Cd.seq (fun K22 hK22 => ?_)
              refine Cd.region [0] rfl ?_
              refine Seq.rd0 at0 rfl rfl (O.assign (v := .int .i64 _) rfl) ?_
              refine Seq.nil ?_
              refine hK22 ?_
              refine Cd.ret ?_
              have hok1 : ¬ (¬ x.stamp.good ∨ 200 < (x.val.size : Int) ∨ (x.gone = true ∧ ¬ x.val = ⟨#[]⟩)) := by rintro (h | h | ⟨h, h9⟩) <;> first | (simp_all; done) | omega
              have hpe : putE vs x = 0 := by unfold putE; rw [if_neg hok1, if_neg (by simp_all), if_neg (by omega)]
              have hone : One cb (afterPut vs x) ((cb, .cells #[.slice av2 (vs.length + 1) cap2] 300 (0, 0)) :: Ls2) := by
                have h1 : hasS vs x.stamp = false := by simp_all
                have h2 : afterPut vs x = putV vs x := by unfold afterPut; rw [if_pos hpe]
                rw [h2]
                exact ⟨av2, cap2, Ls2, by rw [putV_length], by rw [putV_length]; exact ho2, putV_sorted hs h1, by rw [putV_length]; omega⟩
              exact hR _ _ (Res.one (v := .int .i64 _) rfl rfl) ⟨by rw [hpe], _, hone, rfl⟩ (.cons _ (.cons _ (.refl _)))
      · skip
        refine Seq.rd0 at14 rfl rfl (O.field fo_242_1 rfl) ?_
        refine Seq.rd1 at15 rfl rfl (O.load kd_9 rfl (Version_val _)) Rd.head ?_
        refine Seq.rd0 at16 rfl rfl (O.neS rfl rfl) ?_
        refine Seq.rd0 at17 rfl rfl (O.pickT (v := .bool _) rfl rfl) ?_
        refine Seq.rd0 at18 rfl rfl (O.pickF (v := .bool _) rfl rfl) ?_
        refine Seq.nil ?_
        refine hK4 ?_
        refine Cd.ifn (x.val = ⟨#[]⟩) rfl (fun t23 => ?_) (fun t23 => ?_)
        · skip
          refine Cd.seq (fun K24 hK24 => ?_)
          refine Cd.region [0] rfl ?_
          refine Seq.rd0 at0 rfl rfl (O.assign (v := .int .i64 _) rfl) ?_
          refine Seq.nil ?_
          refine hK24 ?_
          refine Cd.ret ?_
          have hbad : ¬ x.stamp.good ∨ 200 < (x.val.size : Int) ∨ (x.gone = true ∧ ¬ x.val = ⟨#[]⟩) := by first | (left; assumption) | (left; simp_all; done) | (right; left; assumption) | (right; right; exact ⟨by assumption, by assumption⟩)
          have hpe : putE vs x = 1 := by unfold putE; rw [if_pos hbad]
          have hone : One cb (afterPut vs x) ((cb, .cells #[.slice av vs.length cap] 300 (0, 0)) :: Ls) := by
            have h2 : afterPut vs x = vs := by unfold afterPut; rw [if_neg (by omega)]
            rw [h2]; exact ⟨av, cap, Ls, rfl, ho, hs, h50⟩
          exact hR _ _ (Res.one (v := .int .i64 _) rfl rfl) ⟨by rw [hpe], _, hone, rfl⟩ (.cons _ (.refl _))
        · skip
          refine Cd.skip ?_
          refine hK3 ?_
          refine Cd.seq (fun K25 hK25 => ?_)
          refine Cd.region [0, 1, 2, 3, 4, 5, 6, 7, 8] rfl ?_
          refine Seq.rd0 at0 rfl rfl (O.move (v := .pointer _) rfl) ?_
          refine Seq.rd0 at1 rfl rfl (O.field fo_242_0 rfl) ?_
          refine Seq.rd1 at2 rfl rfl (O.loadA kd_24 rfl (Nat.le_of_ble_eq_true rfl) (Version_stamp _)) Rd.head ?_
          refine Seq.op at3 rfl (Op.callF rfl hb_223 (C_place hs (by omega) (hC.cons)) rfl ?_)
          rintro _ _ ⟨rfl, rfl⟩
          refine Seq.rd0 at4 rfl rfl (O.move (v := .tuple _) rfl) ?_
          refine Seq.rd0 at5 rfl rfl (O.ext rfl r2_0) ?_
          refine Seq.rd0 at6 rfl rfl (O.ext rfl r2_1) ?_
          refine Seq.rd0 at7 rfl rfl (O.assign (v := .int .i64 _) rfl) ?_
          refine Seq.rd0 at8 rfl rfl (O.assign (v := .bool _) rfl) ?_
          refine Seq.nil ?_
          refine hK25 ?_
          refine Cd.seq (fun K26 hK26 => ?_)
          refine Cd.block ?_
          refine Cd.seq (fun K27 hK27 => ?_)
          refine Cd.region [0, 1] rfl ?_
          refine Seq.rd0 at0 rfl rfl (O.move (v := .bool _) rfl) ?_
          refine Seq.rd0 at1 rfl rfl (O.assign (v := .bool _) rfl) ?_
          refine Seq.nil ?_
          refine hK27 ?_
          refine Cd.cond ((hasS vs x.stamp)) rfl (fun t28 => ?_) (fun t28 => ?_)
          · skip
            refine Cd.seq (fun K29 hK29 => ?_)
            refine Cd.region [0] rfl ?_
            refine Seq.rd0 at0 rfl rfl (O.assign (v := .int .i64 _) rfl) ?_
            refine Seq.nil ?_
            refine hK29 ?_
            refine Cd.ret ?_
            have hok1 : ¬ (¬ x.stamp.good ∨ 200 < (x.val.size : Int) ∨ (x.gone = true ∧ ¬ x.val = ⟨#[]⟩)) := by rintro (h | h | ⟨h, h9⟩) <;> first | (simp_all; done) | omega
            have hpe : putE vs x = 5 := by unfold putE; rw [if_neg hok1, if_pos (by assumption)]
            have hone : One cb (afterPut vs x) ((cb, .cells #[.slice av vs.length cap] 300 (0, 0)) :: Ls) := by
              have h2 : afterPut vs x = vs := by unfold afterPut; rw [if_neg (by omega)]
              rw [h2]; exact ⟨av, cap, Ls, rfl, ho, hs, h50⟩
            exact hR _ _ (Res.one (v := .int .i64 _) rfl rfl) ⟨by rw [hpe], _, hone, rfl⟩ (.cons _ (.refl _))
          · skip
            refine Cd.seq (fun K30 hK30 => ?_)
            refine Cd.region [0, 1, 2, 3, 4, 5, 6] rfl ?_
            refine Seq.rd0 at0 rfl rfl (O.move (v := .pointer _) rfl) ?_
            refine Seq.rd0 at1 rfl rfl (O.nilP rfl) ?_
            refine Seq.rd0 at2 rfl rfl (O.field fo_300_0 rfl) ?_
            refine Seq.rd1 at3 rfl rfl (O.load kd_239 rfl r1_0) Rd.head.cons ?_
            refine Seq.rd0 at4 rfl rfl (O.lenS ds_239 rfl) ?_
            refine Seq.rd0 at5 rfl rfl (O.geq rfl rfl) ?_
            refine Seq.rd0 at6 rfl rfl (O.assign (v := .bool _) rfl) ?_
            refine Seq.nil ?_
            refine hK30 ?_
            refine Cd.if ((50 : Int) ≤ (vs.length : Int)) rfl (fun t31 => ?_) (fun t31 => ?_)
            · skip
              refine Cd.seq (fun K32 hK32 => ?_)
              refine Cd.region [0] rfl ?_
              refine Seq.rd0 at0 rfl rfl (O.assign (v := .int .i64 _) rfl) ?_
              refine Seq.nil ?_
              refine hK32 ?_
              refine Cd.ret ?_
              have hok1 : ¬ (¬ x.stamp.good ∨ 200 < (x.val.size : Int) ∨ (x.gone = true ∧ ¬ x.val = ⟨#[]⟩)) := by rintro (h | h | ⟨h, h9⟩) <;> first | (simp_all; done) | omega
              have hpe : putE vs x = 6 := by unfold putE; rw [if_neg hok1, if_neg (by simp_all), if_pos (by omega)]
              have hone : One cb (afterPut vs x) ((cb, .cells #[.slice av vs.length cap] 300 (0, 0)) :: Ls) := by
                have h2 : afterPut vs x = vs := by unfold afterPut; rw [if_neg (by omega)]
                rw [h2]; exact ⟨av, cap, Ls, rfl, ho, hs, h50⟩
              exact hR _ _ (Res.one (v := .int .i64 _) rfl rfl) ⟨by rw [hpe], _, hone, rfl⟩ (.cons _ (.refl _))
            · skip
              refine Cd.skip ?_
              refine hK26 ?_
              refine Cd.seq (fun K33 hK33 => ?_)
              refine Cd.draw 12 rfl po ?_
              refine Any.rd0 0 at0 rfl rfl (O.move (v := .pointer _) rfl) (by kernel_rfl) (by kernel_rfl) (by kernel_rfl) ?_
              refine Any.rd0 1 at1 rfl rfl (O.move (v := .pointer _) rfl) (by kernel_rfl) (by kernel_rfl) (by kernel_rfl) ?_
              refine Any.rd0 2 at2 rfl rfl (O.nilP rfl) (by kernel_rfl) (by kernel_rfl) (by kernel_rfl) ?_
              refine Any.rd0 3 at3 rfl rfl (O.field fo_300_0 rfl) (by kernel_rfl) (by kernel_rfl) (by kernel_rfl) ?_
              refine Any.rd0 5 at5 rfl rfl (O.move (v := .int .i64 _) rfl) (by kernel_rfl) (by kernel_rfl) (by kernel_rfl) ?_
              refine Any.rd1 6 at6 rfl rfl (O.loadA kd_242 rfl (Nat.le_of_ble_eq_true rfl) (Version_all _)) Rd.head (by kernel_rfl) (by kernel_rfl) (by kernel_rfl) ?_
              refine Any.two 4 7 at4 at7 rfl rfl (by kernel_rfl) ⟨trivial, Rd.head⟩ ?_ ?_
              · skip
                refine Op.rd1 rfl (O.load kd_239 rfl r1_0) Rd.head.cons ?_
                refine Any.toK ?_
                refine Any.one 7 at7 rfl (by kernel_rfl) ⟨trivial, Rd.head⟩ ?_
                refine Op.new rfl (O.buildSlice (el := 242) rfl (cs := (rows Version_enc [x])) (by kernel_rfl)) ?_
                intro b34 hb34
                refine Any.toK ?_
                refine Any.one 8 at8 rfl (by kernel_rfl) ⟨trivial, Rd.head.cons⟩ ?_
                refine Op.callF rfl hb_224 (Fn.perm (C_Insert (R := [(b34, _), (b2, _), (cb, _)] ++ L) ho (below_le vs x.stamp) (by omega) List.mem_cons_self) (bring (pre := [(b34, _), (b2, _), (cb, _)]))) rfl ?_
                rintro _ _ ⟨av2, cap2, Ls2, rfl, ho2, rfl⟩
                refine Ent.perm ?_ (bring (Ls := Ls2) (pre := [(b34, _), (b2, _), (cb, _)]) (R := L)).symm
                refine Any.toK ?_
                refine Any.rd0 9 at9 rfl rfl (O.nilP rfl) (by kernel_rfl) (by kernel_rfl) (by kernel_rfl) ?_
                refine Any.rd0 10 at10 rfl rfl (O.field fo_300_0 rfl) (by kernel_rfl) (by kernel_rfl) (by kernel_rfl) ?_
                refine Any.one 11 at11 rfl (by kernel_rfl) ⟨trivial, Rd.head.cons⟩ ?_
                refine Op.set2 rfl (O.store1 kd_239 rfl (v := .slice _ _ _) rfl (Nat.le_of_ble_eq_true rfl) rfl (cs' := #[.slice av2 (vs.length + 1) cap2]) rfl) ?_
                refine Any.toK ?_
                refine Any.done (by kernel_rfl) ⟨trivial, Rd.head.cons⟩ ?_
                refine hK33 ?_
                refine Cd.seq (fun K35 hK35 => ?_)
                refine Cd.region [0] rfl ?_
                refine Seq.rd0 at0 rfl rfl (O.assign (v := .int .i64 _) rfl) ?_
                refine Seq.nil ?_
                refine hK35 ?_
                refine Cd.ret ?_
                have hok1 : ¬ (¬ x.stamp.good ∨ 200 < (x.val.size : Int) ∨ (x.gone = true ∧ ¬ x.val = ⟨#[]⟩)) := by rintro (h | h | ⟨h, h9⟩) <;> first | (simp_all; done) | omega
                have hpe : putE vs x = 0 := by unfold putE; rw [if_neg hok1, if_neg (by simp_all), if_neg (by omega)]
                have hone : One cb (afterPut vs x) ((cb, .cells #[.slice av2 (vs.length + 1) cap2] 300 (0, 0)) :: Ls2) := by
                  have h1 : hasS vs x.stamp = false := by simp_all
                  have h2 : afterPut vs x = putV vs x := by unfold afterPut; rw [if_pos hpe]
                  rw [h2]
                  exact ⟨av2, cap2, Ls2, by rw [putV_length], by rw [putV_length]; exact ho2, putV_sorted hs h1, by rw [putV_length]; omega⟩
                exact hR _ _ (Res.one (v := .int .i64 _) rfl rfl) ⟨by rw [hpe], _, hone, rfl⟩ (.cons _ (.cons _ (.refl _)))
              · skip
                refine Op.new rfl (O.buildSlice (el := 242) rfl (cs := (rows Version_enc [x])) (by kernel_rfl)) ?_
                intro b36 hb36
                refine Any.toK ?_
                refine Any.one 4 at4 rfl (by kernel_rfl) ⟨trivial, Rd.head.cons⟩ ?_
                refine Op.rd1 rfl (O.load kd_239 rfl r1_0) Rd.head.cons.cons ?_
                refine Any.toK ?_
                refine Any.one 8 at8 rfl (by kernel_rfl) ⟨trivial, Rd.head.cons⟩ ?_
                refine Op.callF rfl hb_224 (Fn.perm (C_Insert (R := [(b36, _), (b2, _), (cb, _)] ++ L) ho (below_le vs x.stamp) (by omega) List.mem_cons_self) (bring (pre := [(b36, _), (b2, _), (cb, _)]))) rfl ?_
                rintro _ _ ⟨av2, cap2, Ls2, rfl, ho2, rfl⟩
                refine Ent.perm ?_ (bring (Ls := Ls2) (pre := [(b36, _), (b2, _), (cb, _)]) (R := L)).symm
                refine Any.toK ?_
                refine Any.rd0 9 at9 rfl rfl (O.nilP rfl) (by kernel_rfl) (by kernel_rfl) (by kernel_rfl) ?_
                refine Any.rd0 10 at10 rfl rfl (O.field fo_300_0 rfl) (by kernel_rfl) (by kernel_rfl) (by kernel_rfl) ?_
                refine Any.one 11 at11 rfl (by kernel_rfl) ⟨trivial, Rd.head.cons⟩ ?_
                refine Op.set2 rfl (O.store1 kd_239 rfl (v := .slice _ _ _) rfl (Nat.le_of_ble_eq_true rfl) rfl (cs' := #[.slice av2 (vs.length + 1) cap2]) rfl) ?_
                refine Any.toK ?_
                refine Any.done (by kernel_rfl) ⟨trivial, Rd.head.cons⟩ ?_
                refine hK33 ?_
                refine Cd.seq (fun K37 hK37 => ?_)
                refine Cd.region [0] rfl ?_
                refine Seq.rd0 at0 rfl rfl (O.assign (v := .int .i64 _) rfl) ?_
                refine Seq.nil ?_
                refine hK37 ?_
                refine Cd.ret ?_
                have hok1 : ¬ (¬ x.stamp.good ∨ 200 < (x.val.size : Int) ∨ (x.gone = true ∧ ¬ x.val = ⟨#[]⟩)) := by rintro (h | h | ⟨h, h9⟩) <;> first | (simp_all; done) | omega
                have hpe : putE vs x = 0 := by unfold putE; rw [if_neg hok1, if_neg (by simp_all), if_neg (by omega)]
                have hone : One cb (afterPut vs x) ((cb, .cells #[.slice av2 (vs.length + 1) cap2] 300 (0, 0)) :: Ls2) := by
                  have h1 : hasS vs x.stamp = false := by simp_all
                  have h2 : afterPut vs x = putV vs x := by unfold afterPut; rw [if_pos hpe]
                  rw [h2]
                  exact ⟨av2, cap2, Ls2, by rw [putV_length], by rw [putV_length]; exact ho2, putV_sorted hs h1, by rw [putV_length]; omega⟩
                exact hR _ _ (Res.one (v := .int .i64 _) rfl rfl) ⟨by rw [hpe], _, hone, rfl⟩ (.cons _ (.cons _ (.refl _)))

theorem C_Put {c : Cx} {R G : List Pt} {cb : Nat} {vs : List Version} {x : Version} (hO : One cb vs G) :
    Fn Tryz.prog 173 #[.pointer (some ⟨cb, 0, none⟩), .agg (Version_enc x)] c (G ++ R) (fun v L' => v = .int .i64 (putE vs x) ∧ ∃ G', One cb (afterPut vs x) G' ∧ L' = G' ++ R) := by
  have hC := hO.ch (c := c) (R := R)
  obtain ⟨av, cap, Ls, rfl, h1, h2, h3⟩ := hO
  exact C_Put_own (L := R) h1 h2 h3 hC

end Go.X

namespace Go.X
open Go.Proofs
theorem hb_171 : hasBody Tryz.prog 171 = true := by kernel_rfl
theorem hb_172 : hasBody Tryz.prog 172 = true := by kernel_rfl
theorem hb_173 : hasBody Tryz.prog 173 = true := by kernel_rfl
theorem perm3 {X G C1 C2 R : List Pt} (h : (G ++ C1).Perm C2) : (G ++ (X ++ (C1 ++ R))).Perm (X ++ (C2 ++ R)) := by
  refine (List.perm_append_comm_assoc _ _ _).trans (List.Perm.append_left X ?_)
  rw [← List.append_assoc]; exact h.append_right R
/-- 'of', and the chain it gives in front -/
theorem C_ofTake {c : Cx} {X Cs R : List Pt} {sb : Nat} {l : List (Key × CV)} {k : Key} (hS : StAt c (X ++ (Cs ++ R)) sb l) (hC : ChOwn l Cs) : Fn Tryz.prog 170 #[.pointer (some ⟨sb, 0, none⟩), .agg (Key_enc k)] c (X ++ (Cs ++ R))
    (fun v L' => ∃ cb G C1, v = .pointer (some ⟨cb, 0, none⟩) ∧ One cb (getS l k) G ∧ (∀ vs' G', One cb vs' G' → ∃ Cs', ChOwn (aput l k (cb, vs')) Cs' ∧ (G' ++ C1).Perm Cs') ∧ L' = G ++ (X ++ (C1 ++ R))) := by
  cases hl : alook l k with
  | some q =>
    have hg : getS l k = q.2 := by unfold getS; rw [hl]
    obtain ⟨G, C1, hp, hO, hb⟩ := hC.take hl
    refine Fn.post (C_of_some hS hl) fun v L' ⟨hv, hL⟩ => ⟨_, ⟨q.1, G, C1, hv, by rw [hg]; exact hO, hb, rfl⟩, ?_⟩
    rw [hL]; exact (perm3 hp.symm).symm
  | none =>
    have hg : getS l k = [] := by unfold getS; rw [hl]
    refine Fn.mono (C_of_none hS hl) fun v L' ⟨b, hb, hv, hL⟩ => ⟨b, [_], Cs, hv, by rw [hg]; exact One.new, fun vs' G' hG' => hC.new hG' hl, hL⟩
theorem app_len {s : Stamp} {l l1 : List (Key × CV)} {ws : List Write} {i : Nat} (hA : AppS s l (ws.take i) l1) (h : l1.length ≤ l.length + newN l ws i) (hi : i < ws.length) (q : CV) :
    (aput l1 ws[i].key q).length ≤ l.length + newN l ws (i + 1) := by
  rw [aput_length, newN_step hi]
  split
  · split <;> omega
  · rename_i hn
    have hn2 : ws[i].key ∉ l.map Prod.fst := fun hm => hn ((hA.keys _).2 (.inr hm))
    rw [(alook_none hn2).1]
    simp; omega
theorem app_next {s : Stamp} {l l1 : List (Key × CV)} {ws : List Write} {i cb : Nat} (hA : AppS s l (ws.take i) l1) (hi : i < ws.length) :
    AppS s l (ws.take (i + 1)) (aput l1 ws[i].key (cb, afterPut (getS l1 ws[i].key) ⟨s, ws[i].val, ws[i].gone⟩)) := by
  rw [← List.take_append_getElem hi]; exact .snoc hA
section
variable {l : List (Key × CV)} {s : Stamp} {ws : List Write}
theorem app1 (h : ¬ s.good ∨ manyWs ws = false ∨ goodWs ws = false) : applyE l s ws = 1 := if_pos h
theorem app5 (h1 : decide s.good = true) (h2 : manyWs ws = true) (h3 : (!goodWs ws) = false) (h : (ws.any fun w => hasS (getS l w.key) s) = true) : applyE l s ws = 5 := by
  unfold applyE; rw [if_neg (by simp_all), if_pos h]
theorem app6 (h1 : decide s.good = true) (h2 : manyWs ws = true) (h3 : (!goodWs ws) = false) (h : (ws.any fun w => hasS (getS l w.key) s) = false) (h4 : (!roomS l ws) = true) : applyE l s ws = 6 := by
  unfold applyE; rw [if_neg (by simp_all), if_neg (by rw [h]; decide), if_pos (by simpa using h4)]
theorem app0 (h1 : decide s.good = true) (h2 : manyWs ws = true) (h3 : (!goodWs ws) = false) (h : (ws.any fun w => hasS (getS l w.key) s) = false) (h4 : (!roomS l ws) = false) : applyE l s ws = 0 := by
  unfold applyE; rw [if_neg (by simp_all), if_neg (by rw [h]; decide), if_neg (by simpa using h4)]
theorem roomS_len (h4 : (!roomS l ws) = false) : l.length + newN l ws ws.length ≤ 200 := by
  unfold roomS at h4
  split at h4
  · cases h4
  · simpa using h4
end

theorem newN_mono {l : List (Key × CV)} {ws : List Write} {i : Nat} (h : i ≤ ws.length) : newN l ws i ≤ newN l ws ws.length := by
  unfold newN
  exact ((List.take_sublist_take_left h).filter _).length_le

set_option maxRecDepth 100000 in
set_option maxHeartbeats 2000000 in
theorem C_Apply_own {c : Cx} {L : List Pt} {sb mb ck : Nat} {es : Array MapEntry} {Cs : List Pt} {l : List (Key × CV)} {s : Stamp} (hm : MapIs keyV cvV es ck l) (hC : ChOwn l Cs) (hsz : l.length ≤ 200) {av : Option Addr} {nw cw : Nat} {ws : List Write} (hW : SlAt c L Write_enc av nw ws) : Fn Tryz.prog 94 #[.pointer (some ⟨sb, 0, none⟩), .agg (Stamp_enc s), .slice av nw cw] c ((sb, .cells #[.map (some mb)] 245 (0, 0)) :: (mb, .map es ck) :: (Cs ++ L)) (fun v L' => v = .int .i64 (applyE l s ws) ∧ ∃ l' Ls', (applyE l s ws = 0 → AppS s l ws l') ∧ (¬ applyE l s ws = 0 → l' = l) ∧ StOwn sb l' Ls' ∧ L' = Ls' ++ L) := by
  have hwl := hW.len
  have hwt := hW.lt
  have hS := StOwn.at_ (c := c) (R := L) (sb := sb) (Ls := (sb, .cells #[.map (some mb)] 245 (0, 0)) :: (mb, .map es ck) :: Cs) ⟨⟨mb, es, ck, Cs, rfl, hm, hC⟩, hsz⟩
  refine Fn.enter Tryz.func94 rfl 68 rfl rfl (fun R hR => ?_)
  refine Cd.seq (fun K1 hK1 => ?_)
  refine Cd.region [0, 1] rfl ?_
  refine Seq.op at0 rfl (Op.new rfl (O.box (v := .agg _) rfl (cs := (Stamp_enc s)) rfl) ?_)
  intro b2 hb2
  refine Seq.rd0 at1 rfl rfl (O.assign (v := .int .i64 _) rfl) ?_
  refine Seq.nil ?_
  refine hK1 ?_
  refine Cd.seq (fun K3 hK3 => ?_)
  refine Cd.seq (fun K4 hK4 => ?_)
  refine Cd.region [0, 1, 2, 3, 4, 5, 6, 7, 8, 9, 10, 11, 12] rfl ?_
  refine Seq.rd1 at0 rfl rfl (O.loadA kd_24 rfl (Nat.le_of_ble_eq_true rfl) (Stamp_all _)) Rd.head ?_
  refine Seq.op at1 rfl (Op.callF rfl hb_98 C_stamp_Good rfl ?_)
  rintro _ _ ⟨rfl, rfl⟩
  refine Seq.rd0 at2 rfl rfl (O.not rfl) ?_
  refine Seq.rd0 at3 rfl rfl (O.move (v := .bool _) rfl) ?_
  cases t5 : decide (s).good
  · skip
    refine Seq.pass at4 rfl rfl ?_
    refine Seq.pass at5 rfl rfl ?_
    refine Seq.pass at6 rfl rfl ?_
    refine Seq.rd0 at7 rfl rfl (O.pickT (v := .bool _) rfl rfl) ?_
    refine Seq.rd0 at8 rfl rfl (O.move (v := .bool _) rfl) ?_
    refine Seq.pass at9 rfl rfl ?_
    refine Seq.pass at10 rfl rfl ?_
    refine Seq.pass at11 rfl rfl ?_
    refine Seq.rd0 at12 rfl rfl (O.pickT (v := .bool _) rfl rfl) ?_
    refine Seq.nil ?_
    refine hK4 ?_
    refine Cd.condT rfl ?_
    refine Cd.seq (fun K6 hK6 => ?_)
    refine Cd.region [0] rfl ?_
    refine Seq.rd0 at0 rfl rfl (O.assign (v := .int .i64 _) rfl) ?_
    refine Seq.nil ?_
    refine hK6 ?_
    refine Cd.ret ?_
    have hap : applyE l s ws = 1 := by
      first | exact app1 (.inl (of_decide_eq_false (by assumption))) | exact app1 (.inr (.inl (by assumption))) | (have h9 : (!goodWs ws) = true := by assumption); exact app1 (.inr (.inr (by simpa using h9)))
    have hst : StOwn sb l ((sb, .cells #[.map (some mb)] 245 (0, 0)) :: (mb, .map es ck) :: Cs) := ⟨⟨mb, es, ck, Cs, rfl, hm, hC⟩, hsz⟩
    exact hR _ _ (Res.one (v := .int .i64 _) rfl rfl) ⟨by rw [hap], l, _, fun h => absurd (hap.symm.trans h) (by decide), fun _ => rfl, hst, rfl⟩ (.cons _ (.refl _))
  · skip
    refine Seq.rd0 at4 rfl rfl (O.move (v := .slice _ _ _) rfl) ?_
    refine Seq.op at5 rfl (Op.callF rfl hb_169 (C_Many hW.app.cons.cons.cons) rfl ?_)
    rintro _ _ ⟨rfl, rfl⟩
    refine Seq.rd0 at6 rfl rfl (O.not rfl) ?_
    refine Seq.rd0 at7 rfl rfl (O.pickF (v := .bool _) rfl rfl) ?_
    refine Seq.rd0 at8 rfl rfl (O.move (v := .bool _) rfl) ?_
    cases t7 : manyWs ws
    · skip
      refine Seq.pass at9 rfl rfl ?_
      refine Seq.pass at10 rfl rfl ?_
      refine Seq.pass at11 rfl rfl ?_
      refine Seq.rd0 at12 rfl rfl (O.pickT (v := .bool _) rfl rfl) ?_
      refine Seq.nil ?_
      refine hK4 ?_
      refine Cd.condT rfl ?_
      refine Cd.seq (fun K8 hK8 => ?_)
      refine Cd.region [0] rfl ?_
      refine Seq.rd0 at0 rfl rfl (O.assign (v := .int .i64 _) rfl) ?_
      refine Seq.nil ?_
      refine hK8 ?_
      refine Cd.ret ?_
      have hap : applyE l s ws = 1 := by
        first | exact app1 (.inl (of_decide_eq_false (by assumption))) | exact app1 (.inr (.inl (by assumption))) | (have h9 : (!goodWs ws) = true := by assumption); exact app1 (.inr (.inr (by simpa using h9)))
      have hst : StOwn sb l ((sb, .cells #[.map (some mb)] 245 (0, 0)) :: (mb, .map es ck) :: Cs) := ⟨⟨mb, es, ck, Cs, rfl, hm, hC⟩, hsz⟩
      exact hR _ _ (Res.one (v := .int .i64 _) rfl rfl) ⟨by rw [hap], l, _, fun h => absurd (hap.symm.trans h) (by decide), fun _ => rfl, hst, rfl⟩ (.cons _ (.refl _))
    · skip
      refine Seq.rd0 at9 rfl rfl (O.move (v := .slice _ _ _) rfl) ?_
      refine Seq.op at10 rfl (Op.callF rfl hb_105 (C_store_Good hW.app.cons.cons.cons) rfl ?_)
      rintro _ _ ⟨rfl, rfl⟩
      refine Seq.rd0 at11 rfl rfl (O.not rfl) ?_
      refine Seq.rd0 at12 rfl rfl (O.pickF (v := .bool _) rfl rfl) ?_
      refine Seq.nil ?_
      refine hK4 ?_
      refine Cd.cond (!(goodWs ws)) rfl (fun t9 => ?_) (fun t9 => ?_)
      · skip
        refine Cd.seq (fun K10 hK10 => ?_)
        refine Cd.region [0] rfl ?_
        refine Seq.rd0 at0 rfl rfl (O.assign (v := .int .i64 _) rfl) ?_
        refine Seq.nil ?_
        refine hK10 ?_
        refine Cd.ret ?_
        have hap : applyE l s ws = 1 := by
          first | exact app1 (.inl (of_decide_eq_false (by assumption))) | exact app1 (.inr (.inl (by assumption))) | (have h9 : (!goodWs ws) = true := by assumption); exact app1 (.inr (.inr (by simpa using h9)))
        have hst : StOwn sb l ((sb, .cells #[.map (some mb)] 245 (0, 0)) :: (mb, .map es ck) :: Cs) := ⟨⟨mb, es, ck, Cs, rfl, hm, hC⟩, hsz⟩
        exact hR _ _ (Res.one (v := .int .i64 _) rfl rfl) ⟨by rw [hap], l, _, fun h => absurd (hap.symm.trans h) (by decide), fun _ => rfl, hst, rfl⟩ (.cons _ (.refl _))
      · skip
        refine Cd.skip ?_
        refine hK3 ?_
        refine Cd.seq (fun K11 hK11 => ?_)
        refine Cd.seq (fun K12 hK12 => ?_)
        refine Cd.region [0, 1, 2] rfl ?_
        refine Seq.rd0 at0 rfl rfl (O.move (v := .slice _ _ _) rfl) ?_
        refine Seq.rd0 at1 rfl rfl (O.lenS ds_25 rfl) ?_
        refine Seq.rd0 at2 rfl rfl (O.move (v := .int .i64 _) rfl) ?_
        refine Seq.nil ?_
        refine hK12 ?_
        refine Cd.block ?_
        refine Cd.loop (fun m13 e14 L15 => ∃ i : Nat, m13 = ws.length - i ∧ e14 0 = .pointer (some ⟨sb, 0, none⟩) ∧ e14 2 = .slice av nw cw ∧ e14 4 = .pointer (some ⟨b2, 0, none⟩) ∧ e14 25 = .slice av nw cw ∧ e14 26 = .int .i64 (nw : Int) ∧ e14 27 = .int .i64 (i : Int) ∧ L15 = (b2, .cells (Stamp_enc s) 24 (0, 0)) :: (sb, .cells #[.map (some mb)] 245 (0, 0)) :: (mb, .map es ck) :: (Cs ++ (L)) ∧ i ≤ ws.length ∧ (∀ x ∈ ws.take i, hasS (getS l x.key) s = false)) _ ⟨0, rfl, rfl, rfl, rfl, rfl, rfl, rfl, rfl, Nat.zero_le _, fun w hw => by simp at hw⟩ ?_
        rintro _ e14 _ ⟨i, rfl, s16, s17, s18, s19, s20, s21, rfl, hi, hz⟩ K22 hK22
        refine Cd.seq (fun K23 hK23 => ?_)
        refine Cd.region [0] rfl ?_
        refine Seq.rd0 at0 rfl rfl (O.lss (by exact s21) (by exact s20)) ?_
        refine Seq.nil ?_
        refine hK23 ?_
        refine Cd.seq (fun K24 hK24 => ?_)
        refine Cd.if ((i : Int) < (nw : Int)) rfl (fun t25 => ?_) (fun t25 => ?_)
        · skip
          refine Cd.skip ?_
          refine hK24 ?_
          refine Cd.seq (fun K26 hK26 => ?_)
          refine Cd.block ?_
          refine Cd.seq (fun K27 hK27 => ?_)
          refine Cd.region [0, 1, 2, 3] rfl ?_
          have hlt28 : i < ws.length := by omega
          obtain ⟨pre28, sp28, el28, fz28, hav28, hrd28⟩ := hW.at_ hlt28
          refine Seq.rd0 at0 rfl rfl (O.indexG sl_25 (by exact s19) hav28 (by exact s21) (by omega) (by omega)) ?_
          refine Seq.rd1 at1 rfl rfl (O.loadA kd_47 rfl (rowRoomP Write_size (getN hlt28)) (rowAtP Write_size (getN hlt28))) hrd28.app.cons.cons.cons ?_
          refine Seq.op at2 rfl (Op.new rfl (O.alloc zo_47 (cs := (Write_enc Write.zero)) rfl) ?_)
          intro b29 hb29
          refine Seq.op at3 rfl (Op.set0 rfl (O.store kd_47 rfl (v := .agg _) rfl (Write_size _) (Write_room (Write_size _)) (Write_one _) (Write_put _ (Write_size _))) ?_)
          refine Seq.nil ?_
          refine hK27 ?_
          refine Cd.seq (fun K30 hK30 => ?_)
          refine Cd.draw 6 rfl po ?_
          refine Any.rd0 0 at0 rfl rfl (O.move (v := .pointer _) (by exact s16)) (by kernel_rfl) (by kernel_rfl) (by kernel_rfl) ?_
          refine Any.rd0 1 at1 rfl rfl (O.field fo_47_0 rfl) (by kernel_rfl) (by kernel_rfl) (by kernel_rfl) ?_
          refine Any.rd1 2 at2 rfl rfl (O.loadA kd_45 rfl (Nat.le_of_ble_eq_true rfl) (Write_key _)) Rd.head (by kernel_rfl) (by kernel_rfl) (by kernel_rfl) ?_
          refine Any.rd1 4 at4 rfl rfl (O.loadA kd_24 (by exact s18) (Nat.le_of_ble_eq_true rfl) (Stamp_all _)) Rd.head.cons (by kernel_rfl) (by kernel_rfl) (by kernel_rfl) ?_
          refine Any.one 3 at3 rfl (by kernel_rfl) ⟨⟨trivial, Rd.head⟩, Rd.head.cons⟩ ?_
          refine Op.callF rfl hb_170 (C_of (k := ws[i].key) hS.cons.cons) rfl ?_
          rintro _ _ ⟨cb31, G32, rfl, rfl, hc33, hc33s, hc33n⟩
          refine Any.toK ?_
          refine Any.one 5 at5 rfl (by kernel_rfl) ⟨⟨trivial, Rd.head.app⟩, Rd.head.cons.app⟩ ?_
          refine Op.callF rfl hb_171 (C_chain_Has hc33s hc33n hc33) rfl ?_
          rintro _ _ ⟨rfl, rfl⟩
          refine Ent.sub ?_ (sub_app (.refl _))
          refine Any.toK ?_
          refine Any.done (by kernel_rfl) ⟨⟨trivial, Rd.head⟩, Rd.head.cons⟩ ?_
          refine hK30 ?_
          refine Cd.cond ((hasS (getS l ws[i].key) s)) rfl (fun t34 => ?_) (fun t34 => ?_)
          · skip
            refine Cd.seq (fun K35 hK35 => ?_)
            refine Cd.region [0] rfl ?_
            refine Seq.rd0 at0 rfl rfl (O.assign (v := .int .i64 _) rfl) ?_
            refine Seq.nil ?_
            refine hK35 ?_
            refine Cd.ret ?_
            have hap : applyE l s ws = 5 := app5 (by assumption) (by assumption) (by assumption) (anyA_some (p := fun w : Write => hasS (getS l w.key) s) hlt28 (by assumption))
            have hst : StOwn sb l ((sb, .cells #[.map (some mb)] 245 (0, 0)) :: (mb, .map es ck) :: Cs) := ⟨⟨mb, es, ck, Cs, rfl, hm, hC⟩, hsz⟩
            exact hR _ _ (Res.one (v := .int .i64 _) rfl rfl) ⟨by rw [hap], l, _, fun h => absurd (hap.symm.trans h) (by decide), fun _ => rfl, hst, rfl⟩ (.cons _ (.cons _ (.refl _)))
          · skip
            refine Cd.skip ?_
            refine hK26 ?_
            refine Cd.region [0, 1] rfl ?_
            refine Seq.rd0 at0 rfl rfl (O.add (by exact s21) rfl (by omega) (by omega)) ?_
            refine Seq.rd0 at1 rfl rfl (O.move (v := .int .i64 _) rfl) ?_
            refine Seq.nil ?_
            refine Ent.drop ?_
            exact hK22 _ (by omega) ⟨i + 1, rfl, (by exact s16), (by exact s17), (by exact s18), (by exact s19), (by exact s20), rfl, rfl, by omega, takeA_next (p := fun x : Write => hasS (getS l x.key) s) hlt28 hz (by assumption)⟩
        · skip
          refine Cd.exit ?_
          refine hK11 ?_
          refine Cd.seq (fun K36 hK36 => ?_)
          refine Cd.seq (fun K37 hK37 => ?_)
          refine Cd.region [0, 1, 2, 3] rfl ?_
          refine Seq.rd0 at0 rfl rfl (O.move (v := .pointer _) (by exact s16)) ?_
          refine Seq.rd0 at1 rfl rfl (O.move (v := .slice _ _ _) (by exact s17)) ?_
          refine Seq.op at2 rfl (Op.callF rfl hb_172 (C_store_room (hS.cons) (hW.app.cons.cons.cons)) rfl ?_)
          rintro _ _ ⟨rfl, rfl⟩
          refine Seq.rd0 at3 rfl rfl (O.not rfl) ?_
          refine Seq.nil ?_
          refine hK37 ?_
          refine Cd.cond (!(roomS l ws)) rfl (fun t38 => ?_) (fun t38 => ?_)
          · skip
            refine Cd.seq (fun K39 hK39 => ?_)
            refine Cd.region [0] rfl ?_
            refine Seq.rd0 at0 rfl rfl (O.assign (v := .int .i64 _) rfl) ?_
            refine Seq.nil ?_
            refine hK39 ?_
            refine Cd.ret ?_
            have hap : applyE l s ws = 6 := app6 (by assumption) (by assumption) (by assumption) (anyA_none (p := fun w : Write => hasS (getS l w.key) s) (by omega) hz) (by assumption)
            have hst : StOwn sb l ((sb, .cells #[.map (some mb)] 245 (0, 0)) :: (mb, .map es ck) :: Cs) := ⟨⟨mb, es, ck, Cs, rfl, hm, hC⟩, hsz⟩
            exact hR _ _ (Res.one (v := .int .i64 _) rfl rfl) ⟨by rw [hap], l, _, fun h => absurd (hap.symm.trans h) (by decide), fun _ => rfl, hst, rfl⟩ (.cons _ (.refl _))
          · skip
            refine Cd.skip ?_
            refine hK36 ?_
            refine Cd.seq (fun K40 hK40 => ?_)
            refine Cd.seq (fun K41 hK41 => ?_)
            refine Cd.region [0, 1, 2] rfl ?_
            refine Seq.rd0 at0 rfl rfl (O.move (v := .slice _ _ _) (by exact s17)) ?_
            refine Seq.rd0 at1 rfl rfl (O.lenS ds_25 rfl) ?_
            refine Seq.rd0 at2 rfl rfl (O.move (v := .int .i64 _) rfl) ?_
            refine Seq.nil ?_
            refine hK41 ?_
            refine Cd.block ?_
            have hany : (ws.any fun w => hasS (getS l w.key) s) = false := anyA_none (by omega) hz
            have hrm := roomS_len (by assumption)
            refine Cd.loop (fun m42 e43 L44 => ∃ i : Nat, ∃ l1 : List (Key × CV), ∃ es1 : Array MapEntry, ∃ ck1 : Nat, ∃ Cs1 : List Pt, m42 = ws.length - i ∧ e43 0 = .pointer (some ⟨sb, 0, none⟩) ∧ e43 4 = .pointer (some ⟨b2, 0, none⟩) ∧ e43 42 = .slice av nw cw ∧ e43 43 = .int .i64 (nw : Int) ∧ e43 44 = .int .i64 (i : Int) ∧ L44 = (b2, .cells (Stamp_enc s) 24 (0, 0)) :: (sb, .cells #[.map (some mb)] 245 (0, 0)) :: (mb, .map es1 ck1) :: (Cs1 ++ (L)) ∧ i ≤ ws.length ∧ AppS s l (ws.take i) l1 ∧ MapIs keyV cvV es1 ck1 l1 ∧ ChOwn l1 Cs1 ∧ l1.length ≤ l.length + newN l ws i) _ ⟨0, l, es, ck, Cs, rfl, (by exact s16), (by exact s18), rfl, rfl, rfl, rfl, Nat.zero_le _, by exact .nil, hm, hC, by omega⟩ ?_
            rintro _ e43 _ ⟨i, l1, es1, ck1, Cs1, rfl, s45, s46, s47, s48, s49, rfl, hi2, hA, hm1, hC1, hl1⟩ K50 hK50
            have hnw : newN l ws i ≤ newN l ws ws.length := newN_mono (by omega)
            refine Cd.seq (fun K51 hK51 => ?_)
            refine Cd.region [0] rfl ?_
            refine Seq.rd0 at0 rfl rfl (O.lss (by exact s49) (by exact s48)) ?_
            refine Seq.nil ?_
            refine hK51 ?_
            refine Cd.seq (fun K52 hK52 => ?_)
            refine Cd.if ((i : Int) < (nw : Int)) rfl (fun t53 => ?_) (fun t53 => ?_)
            · skip
              refine Cd.skip ?_
              refine hK52 ?_
              refine Cd.seq (fun K54 hK54 => ?_)
              refine Cd.block ?_
              refine Cd.seq (fun K55 hK55 => ?_)
              refine Cd.region [0, 1, 2, 3] rfl ?_
              have hlt56 : i < ws.length := by omega
              obtain ⟨pre56, sp56, el56, fz56, hav56, hrd56⟩ := hW.at_ hlt56
              refine Seq.rd0 at0 rfl rfl (O.indexG sl_25 (by exact s47) hav56 (by exact s49) (by omega) (by omega)) ?_
              refine Seq.rd1 at1 rfl rfl (O.loadA kd_47 rfl (rowRoomP Write_size (getN hlt56)) (rowAtP Write_size (getN hlt56))) hrd56.app.cons.cons.cons ?_
              refine Seq.op at2 rfl (Op.new rfl (O.alloc zo_47 (cs := (Write_enc Write.zero)) rfl) ?_)
              intro b57 hb57
              refine Seq.op at3 rfl (Op.set0 rfl (O.store kd_47 rfl (v := .agg _) rfl (Write_size _) (Write_room (Write_size _)) (Write_one _) (Write_put _ (Write_size _))) ?_)
              refine Seq.nil ?_
              refine hK55 ?_
              refine Cd.seq (fun K58 hK58 => ?_)
              refine Cd.region [0, 1, 2, 3, 4] rfl ?_
              refine Seq.rd0 at0 rfl rfl (O.move (v := .pointer _) (by exact s45)) ?_
              refine Seq.rd0 at1 rfl rfl (O.field fo_47_0 rfl) ?_
              refine Seq.rd1 at2 rfl rfl (O.loadA kd_45 rfl (Nat.le_of_ble_eq_true rfl) (Write_key _)) Rd.head ?_
              have hSt : StAt c ([(b57, .cells (Write_enc ws[i]) 47 (0, 0)), (b2, .cells (Stamp_enc s) 24 (0, 0)), (sb, .cells #[.map (some mb)] 245 (0, 0)), (mb, .map es1 ck1)] ++ (Cs1 ++ L)) sb l1 := (StOwn.at_ (R := L) (Ls := (sb, _) :: (mb, _) :: Cs1) ⟨⟨mb, es1, ck1, Cs1, rfl, hm1, hC1⟩, by omega⟩).cons.cons
              refine Seq.op at3 rfl (Op.callF rfl hb_170 (C_ofTake (k := ws[i].key) (X := [(b57, _), (b2, _), (sb, _), (mb, _)]) (R := L) hSt hC1) rfl ?_)
              rintro _ _ ⟨cb, G, Cr, rfl, hO, hback, rfl⟩
              refine Seq.rd0 at4 rfl rfl (O.assign (v := .pointer _) rfl) ?_
              refine Seq.nil ?_
              refine hK58 ?_
              refine Cd.seq (fun K59 hK59 => ?_)
              refine Cd.region [0, 1, 2, 3, 4, 5, 6, 7] rfl ?_
              refine Seq.rd0 at0 rfl rfl (O.move (v := .pointer _) rfl) ?_
              refine Seq.rd1 at1 rfl rfl (O.loadA kd_24 (by exact s46) (Nat.le_of_ble_eq_true rfl) (Stamp_all _)) Rd.head.cons.app ?_
              refine Seq.rd0 at2 rfl rfl (O.field fo_47_1 rfl) ?_
              refine Seq.rd1 at3 rfl rfl (O.load kd_9 rfl (Write_val _)) Rd.head.app ?_
              refine Seq.rd0 at4 rfl rfl (O.field fo_47_2 rfl) ?_
              refine Seq.rd1 at5 rfl rfl (O.load kd_4 rfl (Write_gone _)) Rd.head.app ?_
              refine Seq.rd0 at6 rfl rfl (O.build rfl (cs := (Version_enc (⟨s, ws[i].val, ws[i].gone⟩ : Version))) (by kernel_rfl)) ?_
              refine Seq.op at7 rfl (Op.callF rfl hb_173 (C_Put (x := (⟨s, ws[i].val, ws[i].gone⟩ : Version)) hO) rfl ?_)
              rintro _ _ ⟨rfl, G2, hO2, rfl⟩
              obtain ⟨Cs2, hC2, hp2⟩ := hback _ _ hO2
              refine Ent.perm ?_ (perm3 (X := [(b57, _), (b2, _), (sb, _), (mb, _)]) (R := L) hp2)
              refine Seq.nil ?_
              refine hK59 ?_
              refine Cd.draw 8 rfl po ?_
              refine Any.rd0 0 at0 rfl rfl (O.move (v := .pointer _) (by exact s45)) (by kernel_rfl) (by kernel_rfl) (by kernel_rfl) ?_
              refine Any.rd0 1 at1 rfl rfl (O.nilP rfl) (by kernel_rfl) (by kernel_rfl) (by kernel_rfl) ?_
              refine Any.rd0 2 at2 rfl rfl (O.field fo_245_0 rfl) (by kernel_rfl) (by kernel_rfl) (by kernel_rfl) ?_
              refine Any.rd1 3 at3 rfl rfl (O.load kd_243 rfl r1_0) Rd.head.cons.cons (by kernel_rfl) (by kernel_rfl) (by kernel_rfl) ?_
              refine Any.rd0 4 at4 rfl rfl (O.field fo_47_0 rfl) (by kernel_rfl) (by kernel_rfl) (by kernel_rfl) ?_
              refine Any.rd1 5 at5 rfl rfl (O.loadA kd_45 rfl (Nat.le_of_ble_eq_true rfl) (Write_key _)) Rd.head (by kernel_rfl) (by kernel_rfl) (by kernel_rfl) ?_
              refine Any.rd0 6 at6 rfl rfl (O.move (v := .pointer _) rfl) (by kernel_rfl) (by kernel_rfl) (by kernel_rfl) ?_
              refine Any.one 7 at7 rfl (by kernel_rfl) ⟨⟨trivial, Rd.head.cons.cons⟩, Rd.head⟩ ?_
              refine Op.gen rfl (O.mapSet (encV := cvV) (u := (cb, afterPut (getS l1 ws[i].key) (⟨s, ws[i].val, ws[i].gone⟩ : Version))) mp_243 kk_key hm1 rfl (by exact rfl) rfl (A := [(b57, _), (b2, _), (sb, _)]) rfl) ?_
              rintro _ _ ⟨rfl, es2, ck2, hm2, rfl⟩
              refine Any.toK ?_
              refine Any.done (by kernel_rfl) ⟨⟨trivial, Rd.head.cons.cons⟩, Rd.head⟩ ?_
              refine hK54 ?_
              refine Cd.region [0, 1] rfl ?_
              refine Seq.rd0 at0 rfl rfl (O.add (by exact s49) rfl (by omega) (by omega)) ?_
              refine Seq.rd0 at1 rfl rfl (O.move (v := .int .i64 _) rfl) ?_
              refine Seq.nil ?_
              refine Ent.drop ?_
              exact hK50 _ (by omega) ⟨i + 1, _, es2, ck2, Cs2, rfl, (by exact s45), (by exact s46), (by exact s47), (by exact s48), rfl, rfl, by omega, app_next hA hlt56, hm2, hC2, app_len hA hl1 hlt56 _⟩
            · skip
              refine Cd.exit ?_
              refine hK40 ?_
              refine Cd.seq (fun K60 hK60 => ?_)
              refine Cd.region [0] rfl ?_
              refine Seq.rd0 at0 rfl rfl (O.assign (v := .int .i64 _) rfl) ?_
              refine Seq.nil ?_
              refine hK60 ?_
              refine Cd.ret ?_
              have hap : applyE l s ws = 0 := app0 (by assumption) (by assumption) (by assumption) hany (by assumption)
              have hwi : i = ws.length := by omega
              have hst : StOwn sb l1 ((sb, .cells #[.map (some mb)] 245 (0, 0)) :: (mb, .map es1 ck1) :: Cs1) := ⟨⟨mb, es1, ck1, Cs1, rfl, hm1, hC1⟩, by rw [hwi] at hl1; omega⟩
              exact hR _ _ (Res.one (v := .int .i64 _) rfl rfl) ⟨by rw [hap], l1, _, fun _ => by rw [hwi, List.take_length] at hA; exact hA, fun h => absurd hap h, hst, rfl⟩ (.cons _ (.refl _))

theorem C_Apply {c : Cx} {R Ls : List Pt} {sb : Nat} {l : List (Key × CV)} {s : Stamp} {av : Option Addr} {nw cw : Nat} {ws : List Write} (hS : StOwn sb l Ls) (hW : SlAt c R Write_enc av nw ws) :
    Fn Tryz.prog 94 #[.pointer (some ⟨sb, 0, none⟩), .agg (Stamp_enc s), .slice av nw cw] c (Ls ++ R) (fun v L' => v = .int .i64 (applyE l s ws) ∧ ∃ l' Ls', (applyE l s ws = 0 → AppS s l ws l') ∧ (¬ applyE l s ws = 0 → l' = l) ∧ StOwn sb l' Ls' ∧ L' = Ls' ++ R) := by
  obtain ⟨⟨mb, es, ck, Cs, rfl, h1, h2⟩, h3⟩ := hS
  exact C_Apply_own (L := R) h1 h2 h3 hW

end Go.X
