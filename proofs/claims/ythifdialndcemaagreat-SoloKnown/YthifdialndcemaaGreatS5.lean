/- Part 5 of the proofs over this program: what its functions compute. -/
import Derived.Test.YthifdialndcemaaGreatProg
import Derived.Test.YthifdialndcemaaGreatS4
set_option linter.unusedVariables false
set_option linter.unusedSimpArgs false

namespace Go.X
open Go.Proofs

theorem getX {α : Type} {xs : List α} {i : Int} {j : Nat} (h : i = (j : Int)) (hj : j < xs.length) : ∃ x, xs[i.toNat]? = some x ∧ xs[j]? = some x := by
  subst h; exact ⟨xs[j], by rw [Int.toNat_natCast]; exact List.getElem?_eq_getElem hj, List.getElem?_eq_getElem hj⟩
theorem dd_takeQ {α : Type} [DecidableEq α] {xs : List α} {k : Nat} {a b : α} (h1 : 1 ≤ k) (ha : xs[k - 1]? = some a) (hb : xs[k]? = some b) :
    dd (xs.take (k + 1)) = if a = b then dd (xs.take k) else dd (xs.take k) ++ [b] := by
  obtain ⟨hk, rfl⟩ := List.getElem?_eq_some_iff.1 hb
  obtain ⟨_, rfl⟩ := List.getElem?_eq_some_iff.1 ha
  exact dd_take h1 hk
theorem dd_one {α : Type} [DecidableEq α] {xs : List α} (h : xs.length < 2) : dd xs = xs := by
  match xs, h with
  | [], _ => rfl
  | [x], _ => simp [dd]
section
variable {P : Program} {e : Env} {d : Option Tmp} {ty : TypeId} {p : String} {af : Array Edge} {g : Option (Nat × Bool)} {x y : Operand}
theorem O.indexO {t el sz b o len cap : Nat} {k : IntKind} {i j : Int} (ht : sliceOf P t = some (el, sz)) (hx : ev e x = .slice (some ⟨b, o, none⟩) len cap) (hy : ev e y = .int k i)
    (h0 : 0 ≤ i) (h1 : i < len) (hj : o + i.toNat * sz = 0 + j.toNat * sz) : Rn0 P e ⟨d, .indexAddr t x y, ty, p, af, g⟩ (.pointer (some ⟨b, 0 + j.toNat * sz, none⟩)) := by
  rw [← hj]; exact O.index ht hx hy h0 h1
theorem O.sliceLt {t el sz len cap b o : Nat} {k : IntKind} {i : Int} (ht : sliceOf P t = some (el, sz)) (hx : ev e x = .slice (some ⟨b, o, none⟩) len cap) (hy : ev e y = .int k i) (h0 : 0 ≤ i) (h1 : i ≤ len) (h2 : i < cap) :
    Rn0 P e ⟨d, .slice t x (some y) none none, ty, p, af, g⟩ (.slice (some ⟨b, o + i.toNat * sz, none⟩) (len - i.toNat) (cap - i.toNat)) := by
  have := O.sliceL (d := d) (ty := ty) (p := p) (af := af) (g := g) ht hx hy h0 h1
  rwa [if_neg (by omega)] at this
end
section
variable {α : Type} {enc : α → Array Value} {sz : Nat}
theorem rows_clear (hs : ∀ x, (enc x).size = sz) {l : List α} {j : Nat} {sp v : Array Value} (hj : j ≤ l.length) (hv : v.size = (l.length - j) * sz) :
    putL (rows enc l ++ sp) (0 + (j : Int).toNat * sz) v.toList = rows enc (l.take j) ++ (v ++ sp) := by
  have h1 : rows enc l = rows enc (l.take j) ++ rows enc (l.drop j) := by rw [← rows_append, List.take_append_drop]
  have h2 : (rows enc (l.take j)).toList.length = 0 + (j : Int).toNat * sz := by rw [Array.length_toList, rows_size hs, List.length_take, Nat.min_eq_left hj, Int.toNat_natCast, Nat.zero_add]
  have := putL_mid v.toList (rows enc (l.take j)).toList (rows enc (l.drop j)).toList sp.toList (rows enc l ++ sp) (by rw [h1]; simp) (by rw [Array.length_toList, Array.length_toList, rows_size hs, hv, List.length_drop])
  rw [h2] at this
  apply Array.ext'
  rw [this]; simp
theorem take_set_next {xs zs : List α} {k : Nat} {a : α} (hk : k < zs.length) : (zs.set k a).take (k + 1) = zs.take k ++ [a] := by
  rw [List.take_add_one, List.getElem?_set_self hk, List.take_set_of_le (Nat.le_refl _)]; rfl
theorem drop_set_next {zs : List α} {k : Nat} {a : α} : (zs.set k a).drop (k + 1) = zs.drop (k + 1) := List.drop_set_of_lt (Nat.lt_succ_self _)
theorem drop_get {xs zs : List α} {k j : Nat} (h : zs.drop k = xs.drop k) (hj : k ≤ j) : zs[j]? = xs[j]? := by
  have := congrArg (fun l => l[j - k]?) h
  simpa [List.getElem?_drop, show k + (j - k) = j by omega] using this
theorem drop_more {xs zs : List α} {k j : Nat} (h : zs.drop k = xs.drop k) (hj : k ≤ j) : zs.drop j = xs.drop j := by
  have := congrArg (List.drop (j - k)) h
  simpa [List.drop_drop, show k + (j - k) = j by omega] using this
end

set_option maxRecDepth 100000 in
set_option maxHeartbeats 2000000 in
theorem C_Compact_own {c : Cx} {L : List Pt} {b cap : Nat} {xs : List Key} {sp : Array Value} (hcap : xs.length ≤ cap) (hsp : sp.size = (cap - xs.length) * 16) (hsz : (rows Key_enc xs).size = xs.length * 16) (hlt : xs.length < 4611686018427387904) : Fn Tryz.prog 198 #[.slice (some ⟨b, 0, none⟩) xs.length cap] c ((b, .cells (rows Key_enc xs ++ sp) 45 (0, 0)) :: L) (fun v L' => ∃ Ls, OwnK (dd xs) v Ls ∧ L' = Ls ++ L) := by
  refine Fn.enter Tryz.func198 rfl 61 rfl rfl (fun R hR => ?_)
  refine Cd.seq (fun K1 hK1 => ?_)
  refine Cd.region [0] rfl ?_
  refine Seq.rd0 at0 rfl rfl (O.assign (v := .slice _ _ _) rfl) ?_
  refine Seq.nil ?_
  refine hK1 ?_
  refine Cd.seq (fun K2 hK2 => ?_)
  refine Cd.seq (fun K3 hK3 => ?_)
  refine Cd.region [0, 1, 2] rfl ?_
  refine Seq.rd0 at0 rfl rfl (O.move (v := .slice _ _ _) rfl) ?_
  refine Seq.rd0 at1 rfl rfl (O.lenS ds_74 rfl) ?_
  refine Seq.rd0 at2 rfl rfl (O.lss rfl rfl) ?_
  refine Seq.nil ?_
  refine hK3 ?_
  refine Cd.if ((xs.length : Int) < 2) rfl (fun t4 => ?_) (fun t4 => ?_)
  · skip
    refine Cd.seq (fun K5 hK5 => ?_)
    refine Cd.region [0, 1] rfl ?_
    refine Seq.rd0 at0 rfl rfl (O.move (v := .slice _ _ _) rfl) ?_
    refine Seq.rd0 at1 rfl rfl (O.assign (v := .slice _ _ _) rfl) ?_
    refine Seq.nil ?_
    refine hK5 ?_
    refine Cd.ret ?_
    have hdd : dd xs = xs := dd_one (by omega)
    exact hR _ _ (Res.one (v := .slice _ _ _) rfl rfl) ⟨[(b, _)], by rw [hdd]; exact .inr ⟨b, cap, sp, rfl, hcap, hsp, hsz, rfl⟩, rfl⟩ (.refl _)
  · skip
    refine Cd.skip ?_
    refine hK2 ?_
    refine Cd.seq (fun K6 hK6 => ?_)
    refine Cd.seq (fun K7 hK7 => ?_)
    refine Cd.region [0] rfl ?_
    refine Seq.rd0 at0 rfl rfl (O.assign (v := .int .i64 _) rfl) ?_
    refine Seq.nil ?_
    refine hK7 ?_
    refine Cd.block ?_
    refine Cd.loop (fun m8 e9 L10 => ∃ k : Nat, m8 = xs.length - k ∧ e9 0 = .slice (some ⟨b, 0, none⟩) xs.length cap ∧ e9 3 = .int .i64 (k : Int) ∧ L10 = (b, .cells (rows Key_enc xs ++ sp) 45 (0, 0)) :: L ∧ 1 ≤ k ∧ k ≤ xs.length ∧ dd (xs.take k) = xs.take k) _ ⟨1, rfl, rfl, rfl, rfl, Nat.le_refl _, by omega, by rw [dd_one (by rw [List.length_take]; omega)]⟩ ?_
    rintro _ e9 _ ⟨k, rfl, s11, s12, rfl, hk1, hk, hd⟩ K13 hK13
    refine Cd.seq (fun K14 hK14 => ?_)
    refine Cd.seq (fun K15 hK15 => ?_)
    refine Cd.region [0, 1, 2, 3] rfl ?_
    refine Seq.rd0 at0 rfl rfl (O.move (v := .int .i64 _) (by exact s12)) ?_
    refine Seq.rd0 at1 rfl rfl (O.move (v := .slice _ _ _) (by exact s11)) ?_
    refine Seq.rd0 at2 rfl rfl (O.lenS ds_74 rfl) ?_
    refine Seq.rd0 at3 rfl rfl (O.lss rfl rfl) ?_
    refine Seq.nil ?_
    refine hK15 ?_
    refine Cd.if ((k : Int) < (xs.length : Int)) rfl (fun t16 => ?_) (fun t16 => ?_)
    · skip
      refine Cd.skip ?_
      refine hK14 ?_
      refine Cd.seq (fun K17 hK17 => ?_)
      refine Cd.block ?_
      refine Cd.seq (fun K18 hK18 => ?_)
      refine Cd.draw 10 rfl po ?_
      refine Any.rd0 0 at0 rfl rfl (O.move (v := .slice _ _ _) (by exact s11)) (by kernel_rfl) (by kernel_rfl) (by kernel_rfl) ?_
      refine Any.rd0 1 at1 rfl rfl (O.move (v := .int .i64 _) (by exact s12)) (by kernel_rfl) (by kernel_rfl) (by kernel_rfl) ?_
      obtain ⟨xa19, hA19, hB19⟩ := getX (xs := xs) (i := (k : Int)) (j := k) (by omega) (by omega)
      refine Any.rd0 2 at2 rfl rfl (O.index sl_74 rfl rfl (by omega) (by omega)) (by kernel_rfl) (by kernel_rfl) (by kernel_rfl) ?_
      refine Any.rd1 3 at3 rfl rfl (O.loadA kd_45 rfl (rowRoom Key_size hA19) (rowAt Key_size hA19)) Rd.head (by kernel_rfl) (by kernel_rfl) (by kernel_rfl) ?_
      refine Any.rd0 4 at4 rfl rfl (O.move (v := .slice _ _ _) (by exact s11)) (by kernel_rfl) (by kernel_rfl) (by kernel_rfl) ?_
      refine Any.rd0 5 at5 rfl rfl (O.move (v := .int .i64 _) (by exact s12)) (by kernel_rfl) (by kernel_rfl) (by kernel_rfl) ?_
      refine Any.rd0 6 at6 rfl rfl (O.sub rfl rfl (by omega) (by omega)) (by kernel_rfl) (by kernel_rfl) (by kernel_rfl) ?_
      obtain ⟨xa20, hA20, hB20⟩ := getX (xs := xs) (i := ((k : Int) - 1)) (j := k - 1) (by omega) (by omega)
      refine Any.rd0 7 at7 rfl rfl (O.index sl_74 rfl rfl (by omega) (by omega)) (by kernel_rfl) (by kernel_rfl) (by kernel_rfl) ?_
      refine Any.rd1 8 at8 rfl rfl (O.loadA kd_45 rfl (rowRoom Key_size hA20) (rowAt Key_size hA20)) Rd.head (by kernel_rfl) (by kernel_rfl) (by kernel_rfl) ?_
      refine Any.rd0 9 at9 rfl rfl (eqKey rfl rfl) (by kernel_rfl) (by kernel_rfl) (by kernel_rfl) ?_
      refine Any.done (by kernel_rfl) ⟨⟨trivial, Rd.head⟩, Rd.head⟩ ?_
      refine hK18 ?_
      refine Cd.if (xa19 = xa20) rfl (fun t21 => ?_) (fun t21 => ?_)
      · skip
        refine Cd.seq (fun K22 hK22 => ?_)
        refine Cd.region [0, 1, 2, 3] rfl ?_
        refine Seq.rd0 at0 rfl rfl (O.move (v := .slice _ _ _) (by exact s11)) ?_
        refine Seq.rd0 at1 rfl rfl (O.move (v := .int .i64 _) (by exact s12)) ?_
        refine Seq.rd0 at2 rfl rfl (O.sliceLt sl_74 rfl rfl (by omega) (by omega) (by omega)) ?_
        refine Seq.rd0 at3 rfl rfl (O.assign (v := .slice _ _ _) rfl) ?_
        refine Seq.nil ?_
        refine hK22 ?_
        refine Cd.seq (fun K23 hK23 => ?_)
        refine Cd.seq (fun K24 hK24 => ?_)
        refine Cd.region [0] rfl ?_
        refine Seq.rd0 at0 rfl rfl (O.assign (v := .int .i64 _) rfl) ?_
        refine Seq.nil ?_
        refine hK24 ?_
        refine Cd.block ?_
        refine Cd.loop (fun m25 e26 L27 => ∃ j : Nat, ∃ k2 : Nat, ∃ zs : List Key, m25 = xs.length - k2 ∧ e26 0 = .slice (some ⟨b, 0, none⟩) xs.length cap ∧ e26 3 = .int .i64 (j : Int) ∧ e26 4 = .slice (some ⟨b, 0 + ((k : Int)).toNat * 16, none⟩) (xs.length - ((k : Int)).toNat) (cap - ((k : Int)).toNat) ∧ e26 5 = .int .i64 (k2 : Int) ∧ e26 10 = .int .i64 (k : Int) ∧ e26 11 = .slice (some ⟨b, 0, none⟩) xs.length cap ∧ e26 12 = .int .i64 (xs.length : Int) ∧ e26 13 = .bool (decide ((k : Int) < (xs.length : Int))) ∧ e26 16 = .slice (some ⟨b, 0, none⟩) xs.length cap ∧ e26 17 = .int .i64 (k : Int) ∧ e26 18 = .pointer (some ⟨b, 0 + ((k : Int)).toNat * 16, none⟩) ∧ e26 19 = .agg (Key_enc xa19) ∧ e26 20 = .slice (some ⟨b, 0, none⟩) xs.length cap ∧ e26 21 = .int .i64 (k : Int) ∧ e26 22 = .int .i64 ((k : Int) - 1) ∧ e26 23 = .pointer (some ⟨b, 0 + (((k : Int) - 1)).toNat * 16, none⟩) ∧ e26 24 = .agg (Key_enc xa20) ∧ e26 25 = .bool (decide (xa19 = xa20)) ∧ e26 26 = .slice (some ⟨b, 0, none⟩) xs.length cap ∧ e26 27 = .int .i64 (k : Int) ∧ e26 28 = .slice (some ⟨b, 0 + ((k : Int)).toNat * 16, none⟩) (xs.length - ((k : Int)).toNat) (cap - ((k : Int)).toNat) ∧ L27 = (b, .cells (rows Key_enc zs ++ sp) 45 (0, 0)) :: L ∧ zs.length = xs.length ∧ zs.take j = dd (xs.take (k + k2)) ∧ zs.drop j = xs.drop j ∧ j + 1 ≤ k + k2 ∧ k + k2 ≤ xs.length ∧ 1 ≤ j ∧ 1 ≤ k2) _ ⟨k, 1, xs, rfl, (by exact s11), (by exact s12), rfl, rfl, rfl, rfl, rfl, rfl, rfl, rfl, rfl, rfl, rfl, rfl, rfl, rfl, rfl, rfl, rfl, rfl, rfl, rfl, rfl, by rw [dd_takeQ hk1 hB20 hB19, if_pos (by simp_all), hd], rfl, by omega, by omega, by omega, by omega⟩ ?_
        rintro _ e26 _ ⟨j, k2, zs, rfl, s28, s29, s30, s31, s32, s33, s34, s35, s36, s37, s38, s39, s40, s41, s42, s43, s44, s45, s46, s47, s48, rfl, hzl, hz1, hz2, hj1, hj2, hj3, hk2⟩ K49 hK49
        refine Cd.seq (fun K50 hK50 => ?_)
        refine Cd.seq (fun K51 hK51 => ?_)
        refine Cd.region [0, 1, 2, 3] rfl ?_
        refine Seq.rd0 at0 rfl rfl (O.move (v := .int .i64 _) (by exact s31)) ?_
        refine Seq.rd0 at1 rfl rfl (O.move (v := .slice _ _ _) (by exact s30)) ?_
        refine Seq.rd0 at2 rfl rfl (O.lenS ds_74 rfl) ?_
        refine Seq.rd0 at3 rfl rfl (O.lss rfl rfl) ?_
        refine Seq.nil ?_
        refine hK51 ?_
        refine Cd.if ((k2 : Int) < (((xs.length - ((k : Int)).toNat) : Nat) : Int)) rfl (fun t52 => ?_) (fun t52 => ?_)
        · skip
          refine Cd.skip ?_
          refine hK50 ?_
          refine Cd.seq (fun K53 hK53 => ?_)
          refine Cd.block ?_
          refine Cd.seq (fun K54 hK54 => ?_)
          refine Cd.draw 10 rfl po ?_
          refine Any.rd0 0 at0 rfl rfl (O.move (v := .slice _ _ _) (by exact s30)) (by kernel_rfl) (by kernel_rfl) (by kernel_rfl) ?_
          refine Any.rd0 1 at1 rfl rfl (O.move (v := .int .i64 _) (by exact s31)) (by kernel_rfl) (by kernel_rfl) (by kernel_rfl) ?_
          obtain ⟨xa55, hA55, hB55⟩ := getX (xs := zs) (i := ((k : Int) + (k2 : Int))) (j := k + k2) (by omega) (by omega)
          refine Any.rd0 2 at2 rfl rfl (O.indexO (j := ((k : Int) + (k2 : Int))) sl_74 rfl rfl (by omega) (by omega) (by omega)) (by kernel_rfl) (by kernel_rfl) (by kernel_rfl) ?_
          refine Any.rd1 3 at3 rfl rfl (O.loadA kd_45 rfl (rowRoom Key_size hA55) (rowAt Key_size hA55)) Rd.head (by kernel_rfl) (by kernel_rfl) (by kernel_rfl) ?_
          refine Any.rd0 4 at4 rfl rfl (O.move (v := .slice _ _ _) (by exact s30)) (by kernel_rfl) (by kernel_rfl) (by kernel_rfl) ?_
          refine Any.rd0 5 at5 rfl rfl (O.move (v := .int .i64 _) (by exact s31)) (by kernel_rfl) (by kernel_rfl) (by kernel_rfl) ?_
          refine Any.rd0 6 at6 rfl rfl (O.sub rfl rfl (by omega) (by omega)) (by kernel_rfl) (by kernel_rfl) (by kernel_rfl) ?_
          obtain ⟨xa56, hA56, hB56⟩ := getX (xs := zs) (i := ((k : Int) + ((k2 : Int) - 1))) (j := k + k2 - 1) (by omega) (by omega)
          refine Any.rd0 7 at7 rfl rfl (O.indexO (j := ((k : Int) + ((k2 : Int) - 1))) sl_74 rfl rfl (by omega) (by omega) (by omega)) (by kernel_rfl) (by kernel_rfl) (by kernel_rfl) ?_
          refine Any.rd1 8 at8 rfl rfl (O.loadA kd_45 rfl (rowRoom Key_size hA56) (rowAt Key_size hA56)) Rd.head (by kernel_rfl) (by kernel_rfl) (by kernel_rfl) ?_
          refine Any.rd0 9 at9 rfl rfl (neKey rfl rfl) (by kernel_rfl) (by kernel_rfl) (by kernel_rfl) ?_
          refine Any.done (by kernel_rfl) ⟨⟨trivial, Rd.head⟩, Rd.head⟩ ?_
          refine hK54 ?_
          refine Cd.ifn (xa55 = xa56) rfl (fun t57 => ?_) (fun t57 => ?_)
          · skip
            refine Cd.seq (fun K58 hK58 => ?_)
            refine Cd.region [0, 1, 2, 3, 4, 5, 6, 7] rfl ?_
            refine Seq.rd0 at0 rfl rfl (O.move (v := .slice _ _ _) (by exact s28)) ?_
            refine Seq.rd0 at1 rfl rfl (O.move (v := .int .i64 _) (by exact s29)) ?_
            refine Seq.rd0 at2 rfl rfl (O.move (v := .slice _ _ _) (by exact s30)) ?_
            refine Seq.rd0 at3 rfl rfl (O.move (v := .int .i64 _) (by exact s31)) ?_
            obtain ⟨xa59, hA59, hB59⟩ := getX (xs := zs) (i := ((k : Int) + (k2 : Int))) (j := k + k2) (by omega) (by omega)
            refine Seq.rd0 at4 rfl rfl (O.indexO (j := ((k : Int) + (k2 : Int))) sl_74 rfl rfl (by omega) (by omega) (by omega)) ?_
            refine Seq.rd1 at5 rfl rfl (O.loadA kd_45 rfl (rowRoom Key_size hA59) (rowAt Key_size hA59)) Rd.head ?_
            obtain ⟨xa60, hA60, hB60⟩ := getX (xs := zs) (i := (j : Int)) (j := j) (by omega) (by omega)
            refine Seq.rd0 at6 rfl rfl (O.index sl_74 rfl rfl (by omega) (by omega)) ?_
            refine Seq.op at7 rfl (Op.set0 rfl (O.store kd_45 rfl (v := .agg _) rfl (Key_size _) (rows_room_put Key_size (by omega) (by omega)) (Key_one _) (rows_put Key_size (by omega) (by omega))) ?_)
            refine Seq.nil ?_
            refine hK58 ?_
            refine Cd.region [0, 1, 2] rfl ?_
            refine Seq.rd0 at0 rfl rfl (O.move (v := .int .i64 _) (by exact s29)) ?_
            refine Seq.rd0 at1 rfl rfl (O.add rfl rfl (by omega) (by omega)) ?_
            refine Seq.rd0 at2 rfl rfl (O.assign (v := .int .i64 _) rfl) ?_
            refine Seq.nil ?_
            refine hK53 ?_
            refine Cd.region [0, 1, 2] rfl ?_
            refine Seq.rd0 at0 rfl rfl (O.move (v := .int .i64 _) (by exact s31)) ?_
            refine Seq.rd0 at1 rfl rfl (O.add rfl rfl (by omega) (by omega)) ?_
            refine Seq.rd0 at2 rfl rfl (O.assign (v := .int .i64 _) rfl) ?_
            refine Seq.nil ?_
            have hzx : ∀ q, j ≤ q → zs[q]? = xs[q]? := fun q hq => drop_get hz2 hq
            have hBa : xs[k + k2 - 1]? = some xa56 := (hzx _ (by omega)).symm.trans hB56
            have hBb : xs[k + k2]? = some xa55 := (hzx _ (by omega)).symm.trans hB55
            have hst := dd_takeQ (by omega) hBa hBb
            exact hK49 _ (by omega) ⟨j + 1, k2 + 1, (zs.set (j : Int).toNat xa59), rfl, (by exact s28), rfl, (by exact s30), rfl, (by exact s32), (by exact s33), (by exact s34), (by exact s35), (by exact s36), (by exact s37), (by exact s38), (by exact s39), (by exact s40), (by exact s41), (by exact s42), (by exact s43), (by exact s44), (by exact s45), (by exact s46), (by exact s47), (by exact s48), rfl, by simpa using hzl, by rw [show k + (k2 + 1) = k + k2 + 1 by omega, hst, if_neg (fun e => absurd e.symm (by assumption)), Int.toNat_natCast, take_set_next (xs := xs) (by omega), hz1]; have : xa59 = xa55 := Option.some.inj (hB59.symm.trans hB55); rw [this], by rw [Int.toNat_natCast, drop_set_next]; exact drop_more hz2 (by omega), by omega, by omega, by omega, by omega⟩
          · skip
            refine Cd.skip ?_
            refine hK53 ?_
            refine Cd.region [0, 1, 2] rfl ?_
            refine Seq.rd0 at0 rfl rfl (O.move (v := .int .i64 _) (by exact s31)) ?_
            refine Seq.rd0 at1 rfl rfl (O.add rfl rfl (by omega) (by omega)) ?_
            refine Seq.rd0 at2 rfl rfl (O.assign (v := .int .i64 _) rfl) ?_
            refine Seq.nil ?_
            have hzx : ∀ q, j ≤ q → zs[q]? = xs[q]? := fun q hq => drop_get hz2 hq
            have hBa : xs[k + k2 - 1]? = some xa56 := (hzx _ (by omega)).symm.trans hB56
            have hBb : xs[k + k2]? = some xa55 := (hzx _ (by omega)).symm.trans hB55
            have hst := dd_takeQ (by omega) hBa hBb
            exact hK49 _ (by omega) ⟨j, k2 + 1, zs, rfl, (by exact s28), (by exact s29), (by exact s30), rfl, (by exact s32), (by exact s33), (by exact s34), (by exact s35), (by exact s36), (by exact s37), (by exact s38), (by exact s39), (by exact s40), (by exact s41), (by exact s42), (by exact s43), (by exact s44), (by exact s45), (by exact s46), (by exact s47), (by exact s48), rfl, hzl, by rw [show k + (k2 + 1) = k + k2 + 1 by omega, hst, if_pos (by simp_all)]; exact hz1, hz2, by omega, by omega, by omega, by omega⟩
        · skip
          refine Cd.exit ?_
          refine hK23 ?_
          refine Cd.seq (fun K61 hK61 => ?_)
          refine Cd.region [0, 1, 2, 3] rfl ?_
          refine Seq.rd0 at0 rfl rfl (O.move (v := .slice _ _ _) (by exact s28)) ?_
          refine Seq.rd0 at1 rfl rfl (O.move (v := .int .i64 _) (by exact s29)) ?_
          refine Seq.rd0 at2 rfl rfl (O.sliceLt sl_74 rfl rfl (by omega) (by omega) (by omega)) ?_
          have hzc : (Builtin.zeroCells (Value.agg #[.int .u8 0, .int .u8 0, .int .u8 0, .int .u8 0, .int .u8 0, .int .u8 0, .int .u8 0, .int .u8 0, .int .u8 0, .int .u8 0, .int .u8 0, .int .u8 0, .int .u8 0, .int .u8 0, .int .u8 0, .int .u8 0]).cells (xs.length - (j : Int).toNat)).size = (zs.length - j) * 16 := by rw [zeroCells_size]; simp [Value.cells, hzl]
          refine Seq.op at3 rfl (Op.gen rfl (O.clear ei_74 rfl (by decide) (by rw [Array.size_append, rows_size Key_size, hzl]; omega) (fun _ => rows_clear Key_size (by omega) hzc) (fun h0 => absurd h0 (by omega))) ?_)
          rintro _ _ ⟨rfl, rfl⟩
          refine Seq.nil ?_
          refine hK61 ?_
          refine Cd.seq (fun K62 hK62 => ?_)
          refine Cd.region [0, 1, 2, 3] rfl ?_
          refine Seq.rd0 at0 rfl rfl (O.move (v := .slice _ _ _) (by exact s28)) ?_
          refine Seq.rd0 at1 rfl rfl (O.move (v := .int .i64 _) (by exact s29)) ?_
          refine Seq.rd0 at2 rfl rfl (O.sliceH sl_74 rfl rfl (by omega) (by omega) (by intro q hq; cases hq; rfl)) ?_
          refine Seq.rd0 at3 rfl rfl (O.assign (v := .slice _ _ _) rfl) ?_
          refine Seq.nil ?_
          refine hK62 ?_
          refine Cd.ret ?_
          have hfin : zs.take j = dd xs := by rw [hz1, List.take_of_length_le (by omega)]
          have hjl : (dd xs).length = j := by rw [← hfin, List.length_take]; omega
          have hOw : OwnK (dd xs) (.slice (some ⟨b, 0, none⟩) (j : Int).toNat cap) [(b, .cells (rows Key_enc (zs.take j) ++ ((Builtin.zeroCells (Value.agg #[.int .u8 0, .int .u8 0, .int .u8 0, .int .u8 0, .int .u8 0, .int .u8 0, .int .u8 0, .int .u8 0, .int .u8 0, .int .u8 0, .int .u8 0, .int .u8 0, .int .u8 0, .int .u8 0, .int .u8 0, .int .u8 0]).cells (xs.length - (j : Int).toNat)) ++ sp)) 45 (0, 0))] := by
            refine .inr ⟨b, cap, (Builtin.zeroCells (Value.agg #[.int .u8 0, .int .u8 0, .int .u8 0, .int .u8 0, .int .u8 0, .int .u8 0, .int .u8 0, .int .u8 0, .int .u8 0, .int .u8 0, .int .u8 0, .int .u8 0, .int .u8 0, .int .u8 0, .int .u8 0, .int .u8 0]).cells (xs.length - (j : Int).toNat)) ++ sp, by rw [hjl]; rfl, by omega, ?_, rows_size Key_size _, by rw [hfin]⟩
            rw [Array.size_append, hzc, hsp, hjl, hzl, ← Nat.add_mul]; congr 1; omega
          exact hR _ _ (Res.one (v := .slice _ _ _) rfl rfl) ⟨_, hOw, rfl⟩ (.refl _)
      · skip
        refine Cd.skip ?_
        refine hK17 ?_
        refine Cd.region [0, 1, 2] rfl ?_
        refine Seq.rd0 at0 rfl rfl (O.move (v := .int .i64 _) (by exact s12)) ?_
        refine Seq.rd0 at1 rfl rfl (O.add rfl rfl (by omega) (by omega)) ?_
        refine Seq.rd0 at2 rfl rfl (O.assign (v := .int .i64 _) rfl) ?_
        refine Seq.nil ?_
        exact hK13 _ (by omega) ⟨k + 1, rfl, (by exact s11), rfl, rfl, by omega, by omega, by rw [dd_takeQ hk1 hB20 hB19, if_neg (fun e => absurd e.symm (by assumption)), hd, List.take_add_one, hB19]; rfl⟩
    · skip
      refine Cd.exit ?_
      refine hK6 ?_
      refine Cd.seq (fun K63 hK63 => ?_)
      refine Cd.region [0, 1] rfl ?_
      refine Seq.rd0 at0 rfl rfl (O.move (v := .slice _ _ _) (by exact s11)) ?_
      refine Seq.rd0 at1 rfl rfl (O.assign (v := .slice _ _ _) rfl) ?_
      refine Seq.nil ?_
      refine hK63 ?_
      refine Cd.ret ?_
      have hdd : dd xs = xs := (by have hx : xs.take k = xs := List.take_of_length_le (by omega); rw [hx] at hd; exact hd)
      exact hR _ _ (Res.one (v := .slice _ _ _) rfl rfl) ⟨[(b, _)], by rw [hdd]; exact .inr ⟨b, cap, sp, rfl, hcap, hsp, hsz, rfl⟩, rfl⟩ (.refl _)

end Go.X

namespace Go.X
open Go.Proofs
theorem hb_198 : hasBody Tryz.prog 198 = true := by kernel_rfl
theorem hb_200 : hasBody Tryz.prog 200 = true := by kernel_rfl
section
variable {P : Program} {e : Env} {d : Option Tmp} {ty : TypeId} {p : String} {af : Array Edge} {g : Option (Nat × Bool)} {x y : Operand} {v : Value} {c : Cx}
/-- 'append' to a slice that is ours alone, whatever comes behind it -/
theorem O.appendOwnZ {t t2 el sz by_ m k : Nat} {zv : Value} {old new : Array Value} {Ls R : List Pt} (ht : elemInfo P t = some (el, sz, by_, zv)) (ht2 : isDesc P t2 = 5) (hby : by_ ≠ 0)
    (hx : ev e x = v) (ho : OwnSl el sz old m v Ls) (hk : Src c (Ls ++ R) sz (ev e y) k new) (hone : ∀ u ∈ new.toList, Value.oneCell' u = true)
    (hroom : (2 * (m + k) + 192) * by_ ≤ 281474976710656) :
    Eg P e ⟨d, .call { callee := .builtin .append, args := #[x, y], argTypes := #[t, t2] }, ty, p, af, g⟩ c (Ls ++ R)
      (fun v' L' => ∃ Ls', OwnSl el sz (old ++ new) (m + k) v' Ls' ∧ L' = Ls' ++ R) := by
  by_cases hk0 : 0 < k
  · exact O.appendOwn ht ht2 hby hx ho hk hone hk0 hroom
  · obtain rfl : k = 0 := by omega
    have hn : new = #[] := Array.eq_empty_of_size_eq_zero (by rw [hk.size]; simp)
    subst hn
    rcases ho with ⟨rfl, rfl, rfl, rfl⟩ | ⟨b, cap, sp, rfl, h1, h2, h3, rfl⟩
    · intro w hw
      obtain ⟨hu, i, hi, rfl, rfl, hz, hzs⟩ := elem_parts ht
      obtain ⟨el2, hu2⟩ := desc_slice ht2
      have hf2 := hk.run (P := P) hw
      have hl := hk.len (P := P) w
      refine ⟨.slice none 0 0, w, _, .inl ?_, ⟨[], .inl ⟨rfl, rfl, rfl, rfl⟩, rfl⟩, hw⟩
      simp [execOp, resolve, invoke, builtin, Builtin.append_, hx, run_under hu, run_under hu2, run_size hi, hl, hf2]
    · have hA := O.appendIn (d := d) (ty := ty) (p := p) (af := af) (g := g) (new := #[]) (mid := #[]) (post := sp) (L := R) (k := 0) ht ht2 hx (by simpa using hk) hone (by omega) h3 (by simp)
      simp only [Array.empty_append] at hA
      refine Eg.mono hA ?_
      rintro v' L' ⟨rfl, rfl⟩
      exact ⟨_, ⟨[(b, _)], .inr ⟨b, cap, sp, rfl, h1, h2, by simpa using h3, by simp⟩, rfl⟩, .refl _⟩
end

set_option maxRecDepth 100000 in
set_option maxHeartbeats 2000000 in
theorem C_Compact_nil {c : Cx} {L : List Pt}  : Fn Tryz.prog 198 #[.slice none 0 0] c L (fun v L' => v = .slice none 0 0 ∧ L' = L) := by
  refine Fn.enter Tryz.func198 rfl 61 rfl rfl (fun R hR => ?_)
  refine Cd.seq (fun K1 hK1 => ?_)
  refine Cd.region [0] rfl ?_
  refine Seq.rd0 at0 rfl rfl (O.assign (v := .slice _ _ _) rfl) ?_
  refine Seq.nil ?_
  refine hK1 ?_
  refine Cd.seq (fun K2 hK2 => ?_)
  refine Cd.seq (fun K3 hK3 => ?_)
  refine Cd.region [0, 1, 2] rfl ?_
  refine Seq.rd0 at0 rfl rfl (O.move (v := .slice _ _ _) rfl) ?_
  refine Seq.rd0 at1 rfl rfl (O.lenS ds_74 rfl) ?_
  refine Seq.rd0 at2 rfl rfl (O.lss rfl rfl) ?_
  refine Seq.nil ?_
  refine hK3 ?_
  refine Cd.if ((0 : Int) < 2) rfl (fun t4 => ?_) (fun t4 => ?_)
  · skip
    refine Cd.seq (fun K5 hK5 => ?_)
    refine Cd.region [0, 1] rfl ?_
    refine Seq.rd0 at0 rfl rfl (O.move (v := .slice _ _ _) rfl) ?_
    refine Seq.rd0 at1 rfl rfl (O.assign (v := .slice _ _ _) rfl) ?_
    refine Seq.nil ?_
    refine hK5 ?_
    refine Cd.ret ?_
    exact hR _ _ (Res.one (v := .slice _ _ _) rfl rfl) ⟨rfl, rfl⟩ (.refl _)
  · skip
    exact absurd (by decide) t4

theorem C_Compact {c : Cx} {R Ls : List Pt} {xs : List Key} {v : Value} (ho : OwnK xs v Ls) (hlt : xs.length < 4611686018427387904) :
    Fn Tryz.prog 198 #[v] c (Ls ++ R) (fun v' L' => ∃ Ls', OwnK (dd xs) v' Ls' ∧ L' = Ls' ++ R) := by
  rcases ho with ⟨h0, h1, rfl, rfl⟩ | ⟨b, cap, sp, rfl, h1, h2, h3, rfl⟩
  · obtain rfl : xs = [] := List.length_eq_zero_iff.1 h0
    exact Fn.mono (C_Compact_nil (L := R)) fun v' L' ⟨hv, hL⟩ => ⟨[], .inl ⟨rfl, rfl, hv, rfl⟩, hL⟩
  · exact C_Compact_own h1 h2 h3 hlt

end Go.X

/- What the mutators make of chains, stores, tables: plain. -/
namespace Go.X
/-- a version put into its place -/
def putV (vs : List Version) (x : Version) : List Version := vs.take (below vs x.stamp) ++ x :: vs.drop (below vs x.stamp)
def putE (vs : List Version) (x : Version) : Int :=
  if ¬ x.stamp.good ∨ 200 < (x.val.size : Int) ∨ (x.gone = true ∧ ¬ x.val = ⟨#[]⟩) then 1 else if hasS vs x.stamp = true then 5 else if 50 ≤ vs.length then 6 else 0
def afterPut (vs : List Version) (x : Version) : List Version := if putE vs x = 0 then putV vs x else vs
theorem hasS_false {vs : List Version} {s : Stamp} (h : hasS vs s = false) : ∀ v ∈ vs, v.stamp ≠ s := by
  unfold hasS at h
  rw [List.any_eq_false] at h
  intro v hv e
  exact h v hv (decide_eq_true e)
theorem putV_mem {vs : List Version} {x v : Version} : v ∈ putV vs x ↔ v = x ∨ v ∈ vs := by
  unfold putV
  rw [List.mem_append, List.mem_cons]
  have h : v ∈ vs ↔ v ∈ vs.take (below vs x.stamp) ∨ v ∈ vs.drop (below vs x.stamp) := by
    rw [← List.mem_append, List.take_append_drop]
  rw [h]
  constructor
  · rintro (h | h | h)
    · exact .inr (.inl h)
    · exact .inl h
    · exact .inr (.inr h)
  · rintro (h | h | h)
    · exact .inr (.inl h)
    · exact .inl h
    · exact .inr (.inr h)
theorem putV_sorted {vs : List Version} {x : Version} (hs : Sorted vs) (hn : hasS vs x.stamp = false) : Sorted (putV vs x) := by
  have hne := hasS_false hn
  unfold Sorted putV
  rw [List.pairwise_append, List.pairwise_cons]
  have hs' : (vs.take (below vs x.stamp) ++ vs.drop (below vs x.stamp)).Pairwise (fun a b => a.stamp.lt b.stamp) := by rw [List.take_append_drop]; exact hs
  rw [List.pairwise_append] at hs'
  have hlo : ∀ a ∈ vs.take (below vs x.stamp), a.stamp.lt x.stamp := by
    intro a ha
    obtain ⟨k, hk, rfl⟩ := List.getElem_of_mem ha
    rw [List.length_take] at hk
    rw [List.getElem_take]
    exact below_lt (by omega) _
  have hhi : ∀ b ∈ vs.drop (below vs x.stamp), x.stamp.lt b.stamp := by
    intro b hb
    have hbm : b ∈ vs := List.mem_of_mem_drop hb
    obtain ⟨k, hk, rfl⟩ := List.getElem_of_mem hb
    rw [List.length_drop] at hk
    rw [List.getElem_drop] at hbm ⊢
    have h1 := below_ge (s := x.stamp) hs (k := below vs x.stamp + k) (by omega) (by omega)
    rcases Stamp.lt_total (vs[below vs x.stamp + k]'(by omega)).stamp x.stamp with h2 | h2 | h2
    · exact absurd h2 h1
    · exact absurd h2 (hne _ (List.getElem_mem _))
    · exact h2
  refine ⟨hs'.1, ⟨hhi, hs'.2.1⟩, fun a ha b hb => ?_⟩
  rcases List.mem_cons.1 hb with rfl | hb
  · exact hlo a ha
  · exact hs'.2.2 a ha b hb
theorem putV_length {vs : List Version} {x : Version} : (putV vs x).length = vs.length + 1 := by
  unfold putV
  have := below_le vs x.stamp
  simp; omega
/-- what Apply makes of a store -/
inductive AppS (s : Stamp) (l : List (Key × CV)) : List Write → List (Key × CV) → Prop
  | nil : AppS s l [] l
  | snoc {ws : List Write} {l1 : List (Key × CV)} {w : Write} {cb : Nat} : AppS s l ws l1 → AppS s l (ws ++ [w]) (aput l1 w.key (cb, afterPut (getS l1 w.key) ⟨s, w.val, w.gone⟩))
theorem AppS.keys {s : Stamp} {l : List (Key × CV)} {ws : List Write} {l' : List (Key × CV)} (h : AppS s l ws l') : ∀ k, k ∈ l'.map Prod.fst ↔ k ∈ ws.map (·.key) ∨ k ∈ l.map Prod.fst := by
  induction h with
  | nil => intro k; simp
  | snoc h ih =>
    intro k
    rw [aput_keys, ih k, List.map_append, List.mem_append, List.map_cons, List.map_nil, List.mem_singleton]
    constructor
    · rintro (h | h | h)
      · exact .inl (.inr h)
      · exact .inl (.inl h)
      · exact .inr h
    · rintro ((h | h) | h)
      · exact .inr (.inl h)
      · exact .inl h
      · exact .inr (.inr h)
theorem getS_put {l : List (Key × CV)} {k k' : Key} {cb : Nat} {vs : List Version} : getS (aput l k (cb, vs)) k' = if k' = k then vs else getS l k' := by
  unfold getS
  by_cases h : k' = k
  · subst h; rw [alook_put_same, if_pos rfl]
  · rw [alook_put_ne _ h, if_neg h]
theorem AppS.getS_other {s : Stamp} {l : List (Key × CV)} {ws : List Write} {l' : List (Key × CV)} (h : AppS s l ws l') {k : Key} (hk : k ∉ ws.map (·.key)) : getS l' k = getS l k := by
  induction h with
  | nil => rfl
  | snoc h ih =>
    rw [List.map_append, List.mem_append, not_or] at hk
    have h2 : k ≠ _ := fun e => hk.2 (by rw [List.map_cons, List.map_nil, List.mem_singleton]; exact e)
    rw [getS_put, if_neg h2]
    exact ih hk.1
theorem AppS.getS_of {s : Stamp} {l : List (Key × CV)} {ws : List Write} {l' : List (Key × CV)} (h : AppS s l ws l') (hn : (ws.map (·.key)).Nodup) {w : Write} (hw : w ∈ ws) :
    getS l' w.key = afterPut (getS l w.key) ⟨s, w.val, w.gone⟩ := by
  induction h with
  | nil => simp at hw
  | snoc h ih =>
    rename_i ws l1 x cb
    rw [List.map_append, List.nodup_append] at hn
    rw [getS_put]
    rcases List.mem_append.1 hw with hw | hw
    · have hne : w.key ≠ x.key := fun e => hn.2.2 _ (List.mem_map.2 ⟨w, hw, rfl⟩) _ (by simp) e
      rw [if_neg hne]
      exact ih hn.1 hw
    · obtain rfl : w = x := by simpa using hw
      rw [if_pos rfl, h.getS_other (fun hm => hn.2.2 _ hm _ (by simp) rfl)]
def applyE (l : List (Key × CV)) (s : Stamp) (ws : List Write) : Int :=
  if ¬ s.good ∨ manyWs ws = false ∨ goodWs ws = false then 1 else if (ws.any fun w => hasS (getS l w.key) s) = true then 5 else if roomS l ws = false then 6 else 0
theorem aput_length {K V : Type} [DecidableEq K] (k : K) (v : V) : ∀ l : List (K × V), (aput l k v).length = l.length + if k ∈ l.map Prod.fst then 0 else 1
  | [] => by simp [aput]
  | (y, u) :: l => by
    unfold aput
    by_cases h : y = k
    · subst h; simp
    · have := aput_length k v l
      simp only [h, if_false, List.length_cons, this, List.map_cons, List.mem_cons, Ne.symm h, false_or]
      omega
/-- the holders behind Add, behind Drop -/
def holdL (hl : List (Key × I64)) (ws : List Write) (ti : I64) : List (Key × I64) := ws.foldl (fun h w => aput h w.key ti) hl
def dropL (hl : List (Key × I64)) (ws : List Write) : List (Key × I64) := ws.foldl (fun h w => adel h w.key) hl
theorem dropL_sub : ∀ {ws : List Write} {hl : List (Key × I64)}, (dropL hl ws).Sublist hl
  | [], _ => .refl _
  | w :: ws, hl => (dropL_sub (ws := ws) (hl := adel hl w.key)).trans (adel_sub _ _)
def addE (el : List (I64 × EV)) (hl : List (Key × I64)) (ti : I64) (e : Entry) (ws : List Write) : Int :=
  if goodE e ws = false then 1 else if (alook el ti).isSome = true then 5 else if (ws.any fun x => (alook hl x.key).isSome) = true then 9 else if 100 ≤ el.length then 6 else 0
/-- all keys: written, about to be written, of these writes -/
def allK (l : List (Key × CV)) (hl : List (Key × I64)) (ws : List Write) : List Key := l.map Prod.fst ++ (hl.map Prod.fst ++ ws.map (·.key))
def roomP (l : List (Key × CV)) (el : List (I64 × EV)) (hl : List (Key × I64)) (ws : List Write) : Bool :=
  if ws.any (fullS l) = true then false else decide (¬ 100 ≤ el.length ∧ (once (allK l hl ws)).length ≤ 200)
def mayP (l : List (Key × CV)) (el : List (I64 × EV)) (hl : List (Key × I64)) (ol : List (I64 × Int)) (ti : I64) (e : Entry) (ws : List Write) : Int :=
  if mayE e ws = false then 1 else if ¬ stateP ol el ti = 0 then 10 else if conflictP l hl e.snap ws = true then 9 else if roomP l el hl ws = false then 6 else 0
def prepP (l : List (Key × CV)) (el : List (I64 × EV)) (hl : List (Key × I64)) (ol : List (I64 × Int)) (ti : I64) (e : Entry) (ws : List Write) : Int :=
  if goodE e ws = false then 1 else mayP l el hl ol ti e ws
end Go.X

namespace Go.X
open Go.Proofs
theorem hb_134 : hasBody Tryz.prog 134 = true := by kernel_rfl
theorem hb_135 : hasBody Tryz.prog 135 = true := by kernel_rfl
theorem OwnSl.form {el sz m : Nat} {old : Array Value} {v : Value} {Ls : List Pt} (h : OwnSl el sz old m v Ls) : ∃ av cap, v = .slice av m cap := by
  rcases h with ⟨rfl, _, rfl, _⟩ | ⟨b, cap, sp, rfl, _⟩
  · exact ⟨none, 0, rfl⟩
  · exact ⟨_, cap, rfl⟩
theorem rows_all {α : Type} {enc : α → Array Value} {sz : Nat} (hs : ∀ x, (enc x).size = sz) {xs : List α} : (rows enc xs).extract 0 (0 + xs.length * sz) = rows enc xs := by
  rw [Nat.zero_add, ← rows_size hs]; simp

end Go.X

namespace Go.X
open Go.Proofs
section
variable {l : List (Key × CV)} {el : List (I64 × EV)} {hl : List (Key × I64)} {ol : List (I64 × Int)} {ti : I64} {e : Entry} {ws : List Write}
end

end Go.X

namespace Go.X
open Go.Proofs

theorem put_mid {cs pre mid post v : Array Value} {o : Nat} (h : cs = pre ++ (mid ++ post)) (hs : mid.size = v.size) (ho : o = pre.size) : putL cs o v.toList = pre ++ (v ++ post) := by
  subst h ho
  have := putL_mid v.toList pre.toList mid.toList post.toList (pre ++ (mid ++ post)) (by simp) (by simpa using hs)
  apply Array.ext'
  rw [Array.length_toList] at this
  rw [this]; simp
theorem split_arr {cs : Array Value} {a b : Nat} (h : cs.size = a + b) : ∃ x y, cs = x ++ y ∧ x.size = a ∧ y.size = b := by
  refine ⟨cs.extract 0 a, cs.extract a cs.size, ?_, ?_, ?_⟩
  · simp [Nat.max_eq_right (show a ≤ cs.size by omega)]
  · simp; omega
  · simp; omega
section
variable {P : Program} {e : Env} {d : Option Tmp} {ty : TypeId} {p : String} {af : Array Edge} {g : Option (Nat × Bool)} {x y : Operand} {c : Cx} {L : List Pt}
theorem O.copyA {t ts el sz b o dn cap k : Nat} {cs new : Array Value} {el' : TypeId} (ht : sliceOf P t = some (el, sz)) (hx : ev e x = .slice (some ⟨b, o, none⟩) dn cap) (hle : k ≤ dn)
    (hk : SrcR P c ((b, .cells cs el' (0, 0)) :: L) sz (ev e y) k k new) (hone : ∀ u ∈ new.toList, Value.oneCell' u = true) (hroom : o + new.size ≤ cs.size) {cs' : Array Value} (hcs : putL cs o new.toList = cs') :
    Eg P e ⟨d, .call { callee := .builtin .copy, args := #[x, y], argTypes := #[t, ts] }, ty, p, af, g⟩ c ((b, .cells cs el' (0, 0)) :: L)
      (fun v L' => v = .int .i64 (k : Int) ∧ L' = (b, .cells cs' el' (0, 0)) :: L) := by
  have hm : Nat.min k dn = k := Nat.min_eq_left hle
  have := O.copy (d := d) (ty := ty) (p := p) (af := af) (g := g) (ts := ts) (k := k) (dn := dn) ht hx (by rw [hm]; exact hk) hone hroom hcs
  rw [hm] at this; exact this
theorem O.copyB {t ts el sz b o dn cap k : Nat} {cs new : Array Value} {el' : TypeId} (ht : sliceOf P t = some (el, sz)) (hx : ev e x = .slice (some ⟨b, o, none⟩) dn cap) (hle : dn ≤ k)
    (hk : SrcR P c ((b, .cells cs el' (0, 0)) :: L) sz (ev e y) k dn new) (hone : ∀ u ∈ new.toList, Value.oneCell' u = true) (hroom : o + new.size ≤ cs.size) {cs' : Array Value} (hcs : putL cs o new.toList = cs') :
    Eg P e ⟨d, .call { callee := .builtin .copy, args := #[x, y], argTypes := #[t, ts] }, ty, p, af, g⟩ c ((b, .cells cs el' (0, 0)) :: L)
      (fun v L' => v = .int .i64 (dn : Int) ∧ L' = (b, .cells cs' el' (0, 0)) :: L) := by
  have hm : Nat.min k dn = dn := Nat.min_eq_right hle
  have := O.copy (d := d) (ty := ty) (p := p) (af := af) (g := g) (ts := ts) (k := k) (dn := dn) ht hx (by rw [hm]; exact hk) hone hroom hcs
  rw [hm] at this; exact this
theorem O.sliceNil {t el sz : Nat} (ht : sliceOf P t = some (el, sz)) (hx : ev e x = .slice none 0 0) (hy : ev e y = .int .i64 0) :
    Rn0 P e ⟨d, .slice t x (some y) none none, ty, p, af, g⟩ (.slice none 0 0) := fun w => by
  obtain ⟨hu, j, hi, rfl⟩ := slice_parts ht
  simp [execOp, Instr.sliceAt, Instr.slice, run_under hu, hx, hy, Instr.sliceBounds, Instr.sliceBound, asIntOf, run_size hi]
end

theorem rows_take4 {vs : List Version} {sp : Array Value} {i : Nat} (hi : i ≤ vs.length) : (rows Version_enc vs ++ sp).extract 0 (0 + i * 4) = rows Version_enc (vs.take i) := by
  have h1 : rows Version_enc vs = rows Version_enc (vs.take i) ++ rows Version_enc (vs.drop i) := by rw [← rows_append, List.take_append_drop]
  have h2 : (rows Version_enc (vs.take i)).size = i * 4 := by rw [rows_size Version_size, List.length_take]; omega
  rw [h1, Array.append_assoc]
  have := ext_mid (pre := #[]) (mid := rows Version_enc (vs.take i)) (sp := rows Version_enc (vs.drop i) ++ sp)
  rw [Array.empty_append, h2] at this
  exact this
theorem rows_drop4 {vs : List Version} {sp : Array Value} {i m : Nat} (hi : i ≤ vs.length) (hm : m = vs.length - i) : (rows Version_enc vs ++ sp).extract (0 + ((i : Nat) : Int).toNat * 4) (0 + ((i : Nat) : Int).toNat * 4 + m * 4) = rows Version_enc (vs.drop i) := by
  subst hm
  have h1 : rows Version_enc vs = rows Version_enc (vs.take i) ++ rows Version_enc (vs.drop i) := by rw [← rows_append, List.take_append_drop]
  have h2 : (rows Version_enc (vs.take i)).size = i * 4 := by rw [rows_size Version_size, List.length_take]; omega
  have h3 : (rows Version_enc (vs.drop i)).size = (vs.length - i) * 4 := by rw [rows_size Version_size, List.length_drop]
  rw [h1, Array.append_assoc, Int.toNat_natCast, Nat.zero_add]
  have := ext_mid (pre := rows Version_enc (vs.take i)) (mid := rows Version_enc (vs.drop i)) (sp := sp)
  rw [h2, h3] at this
  exact this
theorem put3 {pre a b s v : Array Value} {o : Nat} (hs : v.size = a.size) (ho : o = pre.size) : putL (pre ++ ((a ++ b) ++ s)) o v.toList = pre ++ ((v ++ b) ++ s) := by
  rw [put_mid (pre := pre) (mid := a) (post := b ++ s) (by simp) hs.symm ho]; simp
theorem put4 {pre a b s v : Array Value} {o : Nat} (hs : v.size = b.size) (ho : o = pre.size + a.size) : putL (pre ++ ((a ++ b) ++ s)) o v.toList = pre ++ ((a ++ v) ++ s) := by
  rw [put_mid (pre := pre ++ a) (mid := b) (post := s) (by simp) hs.symm (by simpa using ho)]; simp
theorem put5 {vs : List Version} {a b : Array Value} {o i : Nat} (hi : i < vs.length) (ha : a.size = 4) (ho : o = (i + 1) * 4) : putL (rows Version_enc vs ++ (a ++ b)) o (rows Version_enc (vs.drop i)).toList = rows Version_enc (vs.take (i + 1)) ++ (rows Version_enc (vs.drop i) ++ b) := by
  have h1 : rows Version_enc vs = rows Version_enc (vs.take (i + 1)) ++ rows Version_enc (vs.drop (i + 1)) := by rw [← rows_append, List.take_append_drop]
  refine put_mid (mid := rows Version_enc (vs.drop (i + 1)) ++ a) (by rw [h1]; simp) ?_ ?_
  · simp only [Array.size_append, rows_size Version_size, List.length_drop, ha]; omega
  · simp only [rows_size Version_size, List.length_take]; omega
theorem put6 {vs : List Version} {s : Array Value} {x : Version} {o i : Nat} (hi : i < vs.length) (ho : o = i * 4) : putL (rows Version_enc (vs.take (i + 1)) ++ s) o (rows Version_enc [x]).toList = rows Version_enc (vs.take i) ++ (rows Version_enc [x] ++ s) := by
  have h1 : rows Version_enc (vs.take (i + 1)) = rows Version_enc (vs.take i) ++ rows Version_enc [vs[i]] := by rw [← rows_append, List.take_append_getElem hi]
  refine put_mid (mid := rows Version_enc [vs[i]]) (by rw [h1]; simp) ?_ ?_
  · simp only [rows_size Version_size, List.length_cons, List.length_nil]
  · simp only [rows_size Version_size, List.length_take]; omega
theorem ins_rows {vs : List Version} {x : Version} {i : Nat} : rows Version_enc (vs.take i ++ x :: vs.drop i) = rows Version_enc (vs.take i) ++ (rows Version_enc [x] ++ rows Version_enc (vs.drop i)) := by
  rw [← rows_append, ← rows_append]; rfl
theorem ins_len {vs : List Version} {x : Version} {i : Nat} (hi : i ≤ vs.length) : (vs.take i ++ x :: vs.drop i).length = vs.length + 1 := by
  rw [List.length_append, List.length_cons, List.length_take, List.length_drop]; omega

set_option maxRecDepth 100000 in
set_option maxHeartbeats 2000000 in
theorem C_Insert_own {c : Cx} {L : List Pt} {b cap bs i : Nat} {vs : List Version} {x : Version} {sp : Array Value} (hcap : vs.length ≤ cap) (hsp : sp.size = (cap - vs.length) * 4) (hi : i ≤ vs.length) (hlt : vs.length ≤ 1000000000) (hne : bs ≠ b) (hbs : Rd c L bs (.cells (rows Version_enc [x]) 242 (0, 0))) : Fn Tryz.prog 224 #[.slice (some ⟨b, 0, none⟩) vs.length cap, .int .i64 (i : Nat), .slice (some ⟨bs, 0, none⟩) 1 1] c ((b, .cells (rows Version_enc vs ++ sp) 242 (0, 0)) :: L) (fun v L' => ∃ av' cap' Ls', v = .slice av' (vs.length + 1) cap' ∧ OwnSl 242 4 (rows Version_enc (vs.take i ++ x :: vs.drop i)) (vs.length + 1) v Ls' ∧ L' = Ls' ++ L) := by
  refine Fn.enter Tryz.func224 rfl 95 rfl rfl (fun R hR => ?_)
  refine Cd.seq (fun K1 hK1 => ?_)
  refine Cd.region [0] rfl ?_
  refine Seq.rd0 at0 rfl rfl (O.assign (v := .slice _ _ _) rfl) ?_
  refine Seq.nil ?_
  refine hK1 ?_
  refine Cd.seq (fun K2 hK2 => ?_)
  refine Cd.region [0, 1, 2] rfl ?_
  refine Seq.rd0 at0 rfl rfl (O.move (v := .slice _ _ _) rfl) ?_
  refine Seq.rd0 at1 rfl rfl (O.move (v := .int .i64 _) rfl) ?_
  refine Seq.rd0 at2 rfl rfl (O.sliceL sl_239 rfl rfl (by omega) (by omega)) ?_
  refine Seq.nil ?_
  refine hK2 ?_
  refine Cd.seq (fun K3 hK3 => ?_)
  refine Cd.region [0, 1, 2] rfl ?_
  refine Seq.rd0 at0 rfl rfl (O.move (v := .slice _ _ _) rfl) ?_
  refine Seq.rd0 at1 rfl rfl (O.lenS ds_239 rfl) ?_
  refine Seq.rd0 at2 rfl rfl (O.assign (v := .int .i64 _) rfl) ?_
  refine Seq.nil ?_
  refine hK3 ?_
  refine Cd.seq (fun K4 hK4 => ?_)
  refine Cd.seq (fun K5 hK5 => ?_)
  refine Cd.region [0, 1] rfl ?_
  refine Seq.rd0 at0 rfl rfl (O.move (v := .int .i64 _) rfl) ?_
  refine Seq.rd0 at1 rfl rfl (O.eqI rfl rfl) ?_
  refine Seq.nil ?_
  refine hK5 ?_
  refine Cd.if ((1 : Int) = 0) rfl (fun t6 => ?_) (fun t6 => ?_)
  · skip
    exact absurd t6 (by decide)
  · skip
    refine Cd.skip ?_
    refine hK4 ?_
    refine Cd.seq (fun K7 hK7 => ?_)
    refine Cd.region [0, 1, 2] rfl ?_
    refine Seq.rd0 at0 rfl rfl (O.move (v := .slice _ _ _) rfl) ?_
    refine Seq.rd0 at1 rfl rfl (O.lenS ds_239 rfl) ?_
    refine Seq.rd0 at2 rfl rfl (O.assign (v := .int .i64 _) rfl) ?_
    refine Seq.nil ?_
    refine hK7 ?_
    refine Cd.seq (fun K8 hK8 => ?_)
    refine Cd.seq (fun K9 hK9 => ?_)
    refine Cd.region [0, 1, 2] rfl ?_
    refine Seq.rd0 at0 rfl rfl (O.move (v := .int .i64 _) rfl) ?_
    refine Seq.rd0 at1 rfl rfl (O.move (v := .int .i64 _) rfl) ?_
    refine Seq.rd0 at2 rfl rfl (O.eqI rfl rfl) ?_
    refine Seq.nil ?_
    refine hK9 ?_
    refine Cd.if ((i : Int) = (vs.length : Int)) rfl (fun t10 => ?_) (fun t10 => ?_)
    · skip
      refine Cd.seq (fun K11 hK11 => ?_)
      refine Cd.region [0, 1, 2, 3] rfl ?_
      refine Seq.rd0 at0 rfl rfl (O.move (v := .slice _ _ _) rfl) ?_
      refine Seq.rd0 at1 rfl rfl (O.move (v := .slice _ _ _) rfl) ?_
      refine Seq.op at2 rfl (Op.gen rfl (O.appendOwnZ (k := 1) (new := rows Version_enc [x]) (m := vs.length) (old := rows Version_enc vs) (Ls := [(b, _)]) (R := L) ei_239 ds_239 (by decide) rfl (.inr ⟨b, cap, sp, rfl, hcap, hsp, rows_size Version_size vs, rfl⟩) (.inr ⟨bs, 0, 1, _, _, _, rfl, hbs.cons, Nat.le_of_ble_eq_true rfl, rows_all Version_size⟩) (rows_ones Version_one) (by omega)) ?_)
      rintro vr _ ⟨Lr, hr, rfl⟩
      refine Seq.rd0 at3 rfl rfl (O.assign (v := vr) rfl) ?_
      refine Seq.nil ?_
      refine hK11 ?_
      refine Cd.ret ?_
      obtain ⟨ar, cr, rfl⟩ := hr.form
      have hii : i = vs.length := by omega
      exact hR _ _ (Res.one (v := .slice _ _ _) rfl rfl) ⟨ar, cr, Lr, rfl, by rw [ins_rows, hii, List.take_of_length_le (Nat.le_refl _), List.drop_length]; simpa [rows] using hr, rfl⟩ (.refl _)
    · skip
      refine Cd.skip ?_
      refine hK8 ?_
      refine Cd.seq (fun K12 hK12 => ?_)
      refine Cd.seq (fun K13 hK13 => ?_)
      refine Cd.region [0, 1, 2, 3, 4, 5] rfl ?_
      refine Seq.rd0 at0 rfl rfl (O.move (v := .int .i64 _) rfl) ?_
      refine Seq.rd0 at1 rfl rfl (O.move (v := .int .i64 _) rfl) ?_
      refine Seq.rd0 at2 rfl rfl (O.add rfl rfl (by omega) (by omega)) ?_
      refine Seq.rd0 at3 rfl rfl (O.move (v := .slice _ _ _) rfl) ?_
      refine Seq.rd0 at4 rfl rfl (O.capS ds_239 rfl) ?_
      refine Seq.rd0 at5 rfl rfl (O.gtr rfl rfl) ?_
      refine Seq.nil ?_
      refine hK13 ?_
      refine Cd.if ((cap : Int) < ((vs.length : Int) + 1)) rfl (fun t14 => ?_) (fun t14 => ?_)
      · skip
        refine Cd.seq (fun K15 hK15 => ?_)
        refine Cd.region [0, 1, 2, 3, 4, 5, 6, 7, 8, 9] rfl ?_
        refine Seq.rd0 at0 rfl rfl (O.move (v := .slice _ _ _) rfl) ?_
        refine Seq.rd0 at1 rfl rfl (O.move (v := .int .i64 _) rfl) ?_
        refine Seq.rd0 at2 rfl rfl (O.sliceH sl_239 rfl rfl (by omega) (by omega) (by intro q hq; cases hq; rfl)) ?_
        refine Seq.rd0 at3 rfl rfl (O.move (v := .int .i64 _) rfl) ?_
        refine Seq.rd0 at4 rfl rfl (O.move (v := .int .i64 _) rfl) ?_
        refine Seq.rd0 at5 rfl rfl (O.add rfl rfl (by omega) (by omega)) ?_
        refine Seq.rd0 at6 rfl rfl (O.move (v := .int .i64 _) rfl) ?_
        refine Seq.rd0 at7 rfl rfl (O.sub rfl rfl (by omega) (by omega)) ?_
        refine Seq.op at8 rfl (Op.gen rfl (O.appendMake (m := i) (k := vs.length + 1 - i) (old := rows Version_enc (vs.take i)) ei_239 io_3 (by decide) rfl (by show Value.int .i64 _ = Value.int .i64 _; congr 1; omega) (.inr ⟨b, 0, cap, _, _, _, rfl, .head, by rw [Array.size_append, rows_size Version_size]; have := Nat.mul_le_mul_right 4 hi; omega, rows_take4 hi⟩) (by omega) (by omega)) ?_)
        rintro _ _ ⟨b2, cap2, new2, sp2, hb2, hcap2, hnew2, hsp2, rfl, rfl⟩
        obtain ⟨nA, nB, rfl, hnA, hnB⟩ := split_arr (cs := new2) (a := 4) (b := (vs.length - i) * 4) (by rw [hnew2]; omega)
        refine Seq.rd0 at9 rfl rfl (O.assign (v := .slice _ _ _) rfl) ?_
        refine Seq.nil ?_
        refine hK15 ?_
        refine Cd.seq (fun K16 hK16 => ?_)
        refine Cd.region [0, 1, 2, 3, 4] rfl ?_
        refine Seq.rd0 at0 rfl rfl (O.move (v := .slice _ _ _) rfl) ?_
        refine Seq.rd0 at1 rfl rfl (O.move (v := .int .i64 _) rfl) ?_
        refine Seq.rd0 at2 rfl rfl (O.sliceLt sl_239 rfl rfl (by omega) (by omega) (by omega)) ?_
        refine Seq.rd0 at3 rfl rfl (O.move (v := .slice _ _ _) rfl) ?_
        refine Seq.op at4 rfl (Op.gen rfl (O.copyA (k := 1) (new := rows Version_enc [x]) sl_239 rfl (by omega) (SrcR.slice (hbs.cons.cons) (Nat.le_of_ble_eq_true rfl) (rows_all Version_size (xs := [x]))) (rows_ones Version_one) (by simp only [Array.size_append, rows_size Version_size, hnA, List.length_take, List.length_cons, List.length_nil]; omega) (put3 (by rw [rows_size Version_size, hnA]; rfl) (by rw [rows_size Version_size, List.length_take]; simp; omega))) ?_)
        rintro _ _ ⟨rfl, rfl⟩
        refine Seq.nil ?_
        refine hK16 ?_
        refine Cd.seq (fun K17 hK17 => ?_)
        refine Cd.draw 9 rfl po ?_
        refine Any.rd0 0 at0 rfl rfl (O.move (v := .slice _ _ _) rfl) (by kernel_rfl) (by kernel_rfl) (by kernel_rfl) ?_
        refine Any.rd0 1 at1 rfl rfl (O.move (v := .int .i64 _) rfl) (by kernel_rfl) (by kernel_rfl) (by kernel_rfl) ?_
        refine Any.rd0 2 at2 rfl rfl (O.move (v := .int .i64 _) rfl) (by kernel_rfl) (by kernel_rfl) (by kernel_rfl) ?_
        refine Any.rd0 3 at3 rfl rfl (O.add rfl rfl (by omega) (by omega)) (by kernel_rfl) (by kernel_rfl) (by kernel_rfl) ?_
        refine Any.rd0 4 at4 rfl rfl (O.sliceLt sl_239 rfl rfl (by omega) (by omega) (by omega)) (by kernel_rfl) (by kernel_rfl) (by kernel_rfl) ?_
        refine Any.rd0 5 at5 rfl rfl (O.move (v := .slice _ _ _) rfl) (by kernel_rfl) (by kernel_rfl) (by kernel_rfl) ?_
        refine Any.rd0 6 at6 rfl rfl (O.move (v := .int .i64 _) rfl) (by kernel_rfl) (by kernel_rfl) (by kernel_rfl) ?_
        refine Any.rd0 7 at7 rfl rfl (O.sliceLt sl_239 rfl rfl (by omega) (by omega) (by omega)) (by kernel_rfl) (by kernel_rfl) (by kernel_rfl) ?_
        refine Any.one 8 at8 rfl (by kernel_rfl) trivial ?_
        refine Op.gen rfl (O.copyB (new := rows Version_enc (vs.drop i)) sl_239 rfl (by omega) (SrcR.slice (Rd.head.cons) (by rw [Array.size_append, rows_size Version_size]; omega) (rows_drop4 hi (by omega))) (rows_ones Version_one) (by simp only [Array.size_append, rows_size Version_size, hnB, List.length_take, List.length_drop, List.length_cons, List.length_nil]; omega) (put4 (by rw [rows_size Version_size, hnB, List.length_drop]) (by simp only [rows_size Version_size, List.length_take, List.length_cons, List.length_nil]; omega))) ?_
        rintro _ _ ⟨rfl, rfl⟩
        refine Any.toK ?_
        refine Any.done (by kernel_rfl) trivial ?_
        refine hK17 ?_
        refine Cd.seq (fun K18 hK18 => ?_)
        refine Cd.region [0, 1] rfl ?_
        refine Seq.rd0 at0 rfl rfl (O.move (v := .slice _ _ _) rfl) ?_
        refine Seq.rd0 at1 rfl rfl (O.assign (v := .slice _ _ _) rfl) ?_
        refine Seq.nil ?_
        refine hK18 ?_
        refine Cd.ret ?_
        have hnn : i + (vs.length + 1 - i) = vs.length + 1 := by omega
        exact hR _ ((b2, _) :: L) (Res.one (v := .slice _ _ _) rfl rfl) ⟨_, cap2, [(b2, _)], by rw [hnn], .inr ⟨b2, cap2, sp2, by rw [hnn], by omega, by rw [hsp2, hnn], by rw [rows_size Version_size, ins_len hi], by rw [ins_rows]; simp⟩, rfl⟩ (.cons_cons _ (.cons _ (.refl _)))
      · skip
        refine Cd.skip ?_
        refine hK12 ?_
        refine Cd.seq (fun K19 hK19 => ?_)
        refine Cd.region [0, 1, 2, 3, 4, 5] rfl ?_
        refine Seq.rd0 at0 rfl rfl (O.move (v := .slice _ _ _) rfl) ?_
        refine Seq.rd0 at1 rfl rfl (O.move (v := .int .i64 _) rfl) ?_
        refine Seq.rd0 at2 rfl rfl (O.move (v := .int .i64 _) rfl) ?_
        refine Seq.rd0 at3 rfl rfl (O.add rfl rfl (by omega) (by omega)) ?_
        refine Seq.rd0 at4 rfl rfl (O.sliceH sl_239 rfl rfl (by omega) (by omega) (by intro q hq; cases hq; rfl)) ?_
        refine Seq.rd0 at5 rfl rfl (O.assign (v := .slice _ _ _) rfl) ?_
        refine Seq.nil ?_
        refine hK19 ?_
        refine Cd.seq (fun K20 hK20 => ?_)
        refine Cd.seq (fun K21 hK21 => ?_)
        refine Cd.region [0, 1, 2, 3, 4, 5, 6, 7] rfl ?_
        refine Seq.rd0 at0 rfl rfl (O.move (v := .slice _ _ _) rfl) ?_
        refine Seq.rd0 at1 rfl rfl (O.move (v := .slice _ _ _) rfl) ?_
        refine Seq.rd0 at2 rfl rfl (O.move (v := .int .i64 _) rfl) ?_
        refine Seq.rd0 at3 rfl rfl (O.move (v := .int .i64 _) rfl) ?_
        refine Seq.rd0 at4 rfl rfl (O.add rfl rfl (by omega) (by omega)) ?_
        refine Seq.rd0 at5 rfl rfl (O.sliceLt sl_239 rfl rfl (by omega) (by omega) (by omega)) ?_
        obtain ⟨spA, spB, rfl, hsA, hsB⟩ := split_arr (cs := sp) (a := 4) (b := (cap - vs.length - 1) * 4) (by rw [hsp]; omega)
        have hin : i < vs.length := by omega
        refine Seq.op at6 rfl (Op.gen rfl (O.overlapsNo (tR := 4) (t := 239) Tryz.func249 (by kernel_rfl) (by kernel_rfl) (by kernel_rfl) (by kernel_rfl) sl_239 rfl rfl hne hbs.cons Rd.head (by simp only [Array.size_append, hsA]; omega)) ?_)
        rintro _ _ ⟨rfl, rfl⟩
        refine Seq.rd0 at7 rfl rfl (O.not rfl) ?_
        refine Seq.nil ?_
        refine hK21 ?_
        refine Cd.condT rfl ?_
        refine Cd.seq (fun K22 hK22 => ?_)
        refine Cd.draw 9 rfl po ?_
        refine Any.rd0 0 at0 rfl rfl (O.move (v := .slice _ _ _) rfl) (by kernel_rfl) (by kernel_rfl) (by kernel_rfl) ?_
        refine Any.rd0 1 at1 rfl rfl (O.move (v := .int .i64 _) rfl) (by kernel_rfl) (by kernel_rfl) (by kernel_rfl) ?_
        refine Any.rd0 2 at2 rfl rfl (O.move (v := .int .i64 _) rfl) (by kernel_rfl) (by kernel_rfl) (by kernel_rfl) ?_
        refine Any.rd0 3 at3 rfl rfl (O.add rfl rfl (by omega) (by omega)) (by kernel_rfl) (by kernel_rfl) (by kernel_rfl) ?_
        refine Any.rd0 4 at4 rfl rfl (O.sliceLt sl_239 rfl rfl (by omega) (by omega) (by omega)) (by kernel_rfl) (by kernel_rfl) (by kernel_rfl) ?_
        refine Any.rd0 5 at5 rfl rfl (O.move (v := .slice _ _ _) rfl) (by kernel_rfl) (by kernel_rfl) (by kernel_rfl) ?_
        refine Any.rd0 6 at6 rfl rfl (O.move (v := .int .i64 _) rfl) (by kernel_rfl) (by kernel_rfl) (by kernel_rfl) ?_
        refine Any.rd0 7 at7 rfl rfl (O.sliceLt sl_239 rfl rfl (by omega) (by omega) (by omega)) (by kernel_rfl) (by kernel_rfl) (by kernel_rfl) ?_
        refine Any.one 8 at8 rfl (by kernel_rfl) trivial ?_
        refine Op.gen rfl (O.copyB (new := rows Version_enc (vs.drop i)) sl_239 rfl (by omega) (SrcR.slice (Rd.head) (by simp only [Array.size_append, rows_size Version_size, hsA, hsB]; omega) (rows_drop4 hi (by omega))) (rows_ones Version_one) (by simp only [Array.size_append, rows_size Version_size, hsA, hsB, List.length_drop]; omega) (put5 hin hsA (by omega))) ?_
        rintro _ _ ⟨rfl, rfl⟩
        refine Any.toK ?_
        refine Any.done (by kernel_rfl) trivial ?_
        refine hK22 ?_
        refine Cd.seq (fun K23 hK23 => ?_)
        refine Cd.region [0, 1, 2, 3, 4] rfl ?_
        refine Seq.rd0 at0 rfl rfl (O.move (v := .slice _ _ _) rfl) ?_
        refine Seq.rd0 at1 rfl rfl (O.move (v := .int .i64 _) rfl) ?_
        refine Seq.rd0 at2 rfl rfl (O.sliceLt sl_239 rfl rfl (by omega) (by omega) (by omega)) ?_
        refine Seq.rd0 at3 rfl rfl (O.move (v := .slice _ _ _) rfl) ?_
        refine Seq.op at4 rfl (Op.gen rfl (O.copyA (k := 1) (new := rows Version_enc [x]) sl_239 rfl (by omega) (SrcR.slice (hbs.cons) (Nat.le_of_ble_eq_true rfl) (rows_all Version_size (xs := [x]))) (rows_ones Version_one) (by simp only [Array.size_append, rows_size Version_size, hsB, List.length_drop, List.length_take, List.length_cons, List.length_nil]; omega) (put6 hin (by omega))) ?_)
        rintro _ _ ⟨rfl, rfl⟩
        refine Seq.nil ?_
        refine hK23 ?_
        refine Cd.seq (fun K24 hK24 => ?_)
        refine Cd.region [0, 1] rfl ?_
        refine Seq.rd0 at0 rfl rfl (O.move (v := .slice _ _ _) rfl) ?_
        refine Seq.rd0 at1 rfl rfl (O.assign (v := .slice _ _ _) rfl) ?_
        refine Seq.nil ?_
        refine hK24 ?_
        refine Cd.ret ?_
        have hnn : ((vs.length : Int) + ((1 : Nat) : Int)).toNat = vs.length + 1 := by omega
        exact hR _ ((b, _) :: L) (Res.one (v := .slice _ _ _) rfl rfl) ⟨_, cap, [(b, _)], by rw [hnn], .inr ⟨b, cap, spB, by rw [hnn], by omega, by rw [hsB]; congr 1, by rw [rows_size Version_size, ins_len hi], by rw [ins_rows]; simp⟩, rfl⟩ (.refl _)

end Go.X

namespace Go.X
open Go.Proofs
theorem hb_224 : hasBody Tryz.prog 224 = true := by kernel_rfl
set_option maxRecDepth 100000 in
set_option maxHeartbeats 2000000 in
theorem C_Insert_nil {c : Cx} {L : List Pt} {bs : Nat} {x : Version} (hbs : Rd c L bs (.cells (rows Version_enc [x]) 242 (0, 0))) : Fn Tryz.prog 224 #[.slice none 0 0, .int .i64 0, .slice (some ⟨bs, 0, none⟩) 1 1] c L (fun v L' => ∃ av' cap' Ls', v = .slice av' 1 cap' ∧ OwnSl 242 4 (rows Version_enc [x]) 1 v Ls' ∧ L' = Ls' ++ L) := by
  refine Fn.enter Tryz.func224 rfl 95 rfl rfl (fun R hR => ?_)
  refine Cd.seq (fun K1 hK1 => ?_)
  refine Cd.region [0] rfl ?_
  refine Seq.rd0 at0 rfl rfl (O.assign (v := .slice _ _ _) rfl) ?_
  refine Seq.nil ?_
  refine hK1 ?_
  refine Cd.seq (fun K2 hK2 => ?_)
  refine Cd.region [0, 1, 2] rfl ?_
  refine Seq.rd0 at0 rfl rfl (O.move (v := .slice _ _ _) rfl) ?_
  refine Seq.rd0 at1 rfl rfl (O.move (v := .int .i64 _) rfl) ?_
  refine Seq.rd0 at2 rfl rfl (O.sliceNil sl_239 rfl rfl) ?_
  refine Seq.nil ?_
  refine hK2 ?_
  refine Cd.seq (fun K3 hK3 => ?_)
  refine Cd.region [0, 1, 2] rfl ?_
  refine Seq.rd0 at0 rfl rfl (O.move (v := .slice _ _ _) rfl) ?_
  refine Seq.rd0 at1 rfl rfl (O.lenS ds_239 rfl) ?_
  refine Seq.rd0 at2 rfl rfl (O.assign (v := .int .i64 _) rfl) ?_
  refine Seq.nil ?_
  refine hK3 ?_
  refine Cd.seq (fun K4 hK4 => ?_)
  refine Cd.seq (fun K5 hK5 => ?_)
  refine Cd.region [0, 1] rfl ?_
  refine Seq.rd0 at0 rfl rfl (O.move (v := .int .i64 _) rfl) ?_
  refine Seq.rd0 at1 rfl rfl (O.eqI rfl rfl) ?_
  refine Seq.nil ?_
  refine hK5 ?_
  refine Cd.if ((1 : Int) = 0) rfl (fun t6 => ?_) (fun t6 => ?_)
  · skip
    exact absurd t6 (by decide)
  · skip
    refine Cd.skip ?_
    refine hK4 ?_
    refine Cd.seq (fun K7 hK7 => ?_)
    refine Cd.region [0, 1, 2] rfl ?_
    refine Seq.rd0 at0 rfl rfl (O.move (v := .slice _ _ _) rfl) ?_
    refine Seq.rd0 at1 rfl rfl (O.lenS ds_239 rfl) ?_
    refine Seq.rd0 at2 rfl rfl (O.assign (v := .int .i64 _) rfl) ?_
    refine Seq.nil ?_
    refine hK7 ?_
    refine Cd.seq (fun K8 hK8 => ?_)
    refine Cd.seq (fun K9 hK9 => ?_)
    refine Cd.region [0, 1, 2] rfl ?_
    refine Seq.rd0 at0 rfl rfl (O.move (v := .int .i64 _) rfl) ?_
    refine Seq.rd0 at1 rfl rfl (O.move (v := .int .i64 _) rfl) ?_
    refine Seq.rd0 at2 rfl rfl (O.eqI rfl rfl) ?_
    refine Seq.nil ?_
    refine hK9 ?_
    refine Cd.if ((0 : Int) = 0) rfl (fun t10 => ?_) (fun t10 => ?_)
    · skip
      refine Cd.seq (fun K11 hK11 => ?_)
      refine Cd.region [0, 1, 2, 3] rfl ?_
      refine Seq.rd0 at0 rfl rfl (O.move (v := .slice _ _ _) rfl) ?_
      refine Seq.rd0 at1 rfl rfl (O.move (v := .slice _ _ _) rfl) ?_
      refine Seq.op at2 rfl (Op.gen rfl (O.appendOwnZ (k := 1) (new := rows Version_enc [x]) (m := 0) (old := #[]) (Ls := []) (R := L) ei_239 ds_239 (by decide) rfl (.inl ⟨rfl, rfl, rfl, rfl⟩) (.inr ⟨bs, 0, 1, _, _, _, rfl, hbs, Nat.le_of_ble_eq_true rfl, rows_all Version_size⟩) (rows_ones Version_one) (by omega)) ?_)
      rintro vr _ ⟨Lr, hr, rfl⟩
      refine Seq.rd0 at3 rfl rfl (O.assign (v := vr) rfl) ?_
      refine Seq.nil ?_
      refine hK11 ?_
      refine Cd.ret ?_
      obtain ⟨ar, cr, rfl⟩ := hr.form
      exact hR _ _ (Res.one (v := .slice _ _ _) rfl rfl) ⟨ar, cr, Lr, rfl, by simpa using hr, rfl⟩ (.refl _)
    · skip
      exact absurd rfl t10

theorem C_Insert {c : Cx} {R Ls : List Pt} {av : Option Addr} {cap bs i : Nat} {vs : List Version} {x : Version} (ho : OwnSl 242 4 (rows Version_enc vs) vs.length (.slice av vs.length cap) Ls) (hi : i ≤ vs.length) (hlt : vs.length ≤ 1000000000)
    (hbs : (bs, .cells (rows Version_enc [x]) 242 (0, 0)) ∈ R) : Fn Tryz.prog 224 #[.slice av vs.length cap, .int .i64 (i : Nat), .slice (some ⟨bs, 0, none⟩) 1 1] c (Ls ++ R)
      (fun v L' => ∃ av' cap' Ls', v = .slice av' (vs.length + 1) cap' ∧ OwnSl 242 4 (rows Version_enc (vs.take i ++ x :: vs.drop i)) (vs.length + 1) (.slice av' (vs.length + 1) cap') Ls' ∧ L' = Ls' ++ R) := by
  rcases ho with ⟨h0, _, hv, rfl⟩ | ⟨b, cap', sp, hv, h1, h2, h3, rfl⟩
  · obtain rfl : vs = [] := List.length_eq_zero_iff.1 h0
    obtain ⟨rfl, rfl⟩ : av = none ∧ cap = 0 := by simpa using hv
    obtain rfl : i = 0 := by simpa using hi
    exact Fn.mono (C_Insert_nil (L := R) (Rd.mem hbs)) fun v L' ⟨av', cap', Ls', h4, h5, h6⟩ => ⟨av', cap', Ls', h4, h4 ▸ h5, h6⟩
  · obtain ⟨rfl, rfl⟩ : av = some ⟨b, 0, none⟩ ∧ cap = cap' := by simpa using hv
    refine Fn.nd fun hnd => ?_
    have hne : bs ≠ b := by
      rintro rfl
      simp only [List.singleton_append, List.map_cons, List.nodup_cons] at hnd
      exact hnd.1 (List.mem_map.2 ⟨_, hbs, rfl⟩)
    exact Fn.mono (C_Insert_own (L := R) h1 h2 hi hlt hne (Rd.mem hbs)) fun v L' ⟨av', cap', Ls', h4, h5, h6⟩ => ⟨av', cap', Ls', h4, h4 ▸ h5, h6⟩

set_option maxRecDepth 100000 in
set_option maxHeartbeats 2000000 in
theorem C_Put_own {c : Cx} {L : List Pt} {cb cap : Nat} {av : Option Addr} {vs : List Version} {x : Version} {Ls : List Pt} (ho : OwnSl 242 4 (rows Version_enc vs) vs.length (.slice av vs.length cap) Ls) (hs : Sorted vs) (h50 : vs.length ≤ 50) (hC : ChAt c ((cb, .cells #[.slice av vs.length cap] 300 (0, 0)) :: (Ls ++ L)) cb vs) : Fn Tryz.prog 173 #[.pointer (some ⟨cb, 0, none⟩), .agg (Version_enc x)] c ((cb, .cells #[.slice av vs.length cap] 300 (0, 0)) :: (Ls ++ L)) (fun v L' => v = .int .i64 (putE vs x) ∧ ∃ G', One cb (afterPut vs x) G' ∧ L' = G' ++ L) := by
  refine Fn.enter Tryz.func173 rfl 53 rfl rfl (fun R hR => ?_)
  refine Cd.seq (fun K1 hK1 => ?_)
  refine Cd.region [0, 1] rfl ?_
  refine Seq.op at0 rfl (Op.new rfl (O.box (v := .agg _) rfl (cs := (Version_enc x)) rfl) ?_)
  intro b2 hb2
  refine Seq.rd0 at1 rfl rfl (O.assign (v := .int .i64 _) rfl) ?_
  refine Seq.nil ?_
  refine hK1 ?_
  refine Cd.seq (fun K3 hK3 => ?_)
  refine Cd.seq (fun K4 hK4 => ?_)
  refine Cd.region [0, 1, 2, 3, 4, 5, 6, 7, 8, 9, 10, 11, 12, 13, 14, 15, 16, 17, 18] rfl ?_
  refine Seq.rd0 at0 rfl rfl (O.field fo_242_0 rfl) ?_
  refine Seq.rd1 at1 rfl rfl (O.loadA kd_24 rfl (Nat.le_of_ble_eq_true rfl) (Version_stamp _)) Rd.head ?_
  refine Seq.op at2 rfl (Op.callF rfl hb_98 C_stamp_Good rfl ?_)
  rintro _ _ ⟨rfl, rfl⟩
  refine Seq.rd0 at3 rfl rfl (O.not rfl) ?_
  refine Seq.rd0 at4 rfl rfl (O.move (v := .bool _) rfl) ?_
  cases t5 : decide (x.stamp).good
  · skip
    refine Seq.pass at5 rfl rfl ?_
    refine Seq.pass at6 rfl rfl ?_
    refine Seq.pass at7 rfl rfl ?_
    refine Seq.pass at8 rfl rfl ?_
    refine Seq.rd0 at9 rfl rfl (O.pickT (v := .bool _) rfl rfl) ?_
    refine Seq.rd0 at10 rfl rfl (O.move (v := .bool _) rfl) ?_
    refine Seq.pass at11 rfl rfl ?_
    refine Seq.pass at12 rfl rfl ?_
    refine Seq.pass at13 rfl rfl ?_
    refine Seq.pass at14 rfl rfl ?_
    refine Seq.pass at15 rfl rfl ?_
    refine Seq.pass at16 rfl rfl ?_
    refine Seq.pass at17 rfl rfl ?_
    refine Seq.rd0 at18 rfl rfl (O.pickT (v := .bool _) rfl rfl) ?_
    refine Seq.nil ?_
    refine hK4 ?_
    refine Cd.condT rfl ?_
    refine Cd.seq (fun K6 hK6 => ?_)
    refine Cd.region [0] rfl ?_
    refine Seq.rd0 at0 rfl rfl (O.assign (v := .int .i64 _) rfl) ?_
    refine Seq.nil ?_
    refine hK6 ?_
    refine Cd.ret ?_
    have hbad : ¬ x.stamp.good ∨ 200 < (x.val.size : Int) ∨ (x.gone = true ∧ ¬ x.val = ⟨#[]⟩) := by first | (left; assumption) | (left; simp_all; done) | (right; left; assumption) | (right; right; exact ⟨by assumption, by assumption⟩)
    have hpe : putE vs x = 1 := by unfold putE; rw [if_pos hbad]
    have hone : One cb (afterPut vs x) ((cb, .cells #[.slice av vs.length cap] 300 (0, 0)) :: Ls) := by
      have h2 : afterPut vs x = vs := by unfold afterPut; rw [if_neg (by omega)]
      rw [h2]; exact ⟨av, cap, Ls, rfl, ho, hs, h50⟩
    exact hR _ _ (Res.one (v := .int .i64 _) rfl rfl) ⟨by rw [hpe], _, hone, rfl⟩ (.cons _ (.refl _))
  · skip
    refine Seq.rd0 at5 rfl rfl (O.field fo_242_1 rfl) ?_
    refine Seq.rd1 at6 rfl rfl (O.load kd_9 rfl (Version_val _)) Rd.head ?_
    refine Seq.rd0 at7 rfl rfl (O.lenT ds_9 rfl) ?_
    refine Seq.rd0 at8 rfl rfl (O.gtr rfl rfl) ?_
    refine Seq.rd0 at9 rfl rfl (O.pickF (v := .bool _) rfl rfl) ?_
    refine Seq.rd0 at10 rfl rfl (O.move (v := .bool _) rfl) ?_
    by_cases t7 : (200 : Int) < (x.val.size : Int)
    · rw [decide_eq_true t7]
      refine Seq.pass at11 rfl rfl ?_
      refine Seq.pass at12 rfl rfl ?_
      refine Seq.pass at13 rfl rfl ?_
      refine Seq.pass at14 rfl rfl ?_
      refine Seq.pass at15 rfl rfl ?_
      refine Seq.pass at16 rfl rfl ?_
      refine Seq.pass at17 rfl rfl ?_
      refine Seq.rd0 at18 rfl rfl (O.pickT (v := .bool _) rfl rfl) ?_
      refine Seq.nil ?_
      refine hK4 ?_
      refine Cd.condT rfl ?_
      refine Cd.seq (fun K8 hK8 => ?_)
      refine Cd.region [0] rfl ?_
      refine Seq.rd0 at0 rfl rfl (O.assign (v := .int .i64 _) rfl) ?_
      refine Seq.nil ?_
      refine hK8 ?_
      refine Cd.ret ?_
      have hbad : ¬ x.stamp.good ∨ 200 < (x.val.size : Int) ∨ (x.gone = true ∧ ¬ x.val = ⟨#[]⟩) := by first | (left; assumption) | (left; simp_all; done) | (right; left; assumption) | (right; right; exact ⟨by assumption, by assumption⟩)
      have hpe : putE vs x = 1 := by unfold putE; rw [if_pos hbad]
      have hone : One cb (afterPut vs x) ((cb, .cells #[.slice av vs.length cap] 300 (0, 0)) :: Ls) := by
        have h2 : afterPut vs x = vs := by unfold afterPut; rw [if_neg (by omega)]
        rw [h2]; exact ⟨av, cap, Ls, rfl, ho, hs, h50⟩
      exact hR _ _ (Res.one (v := .int .i64 _) rfl rfl) ⟨by rw [hpe], _, hone, rfl⟩ (.cons _ (.refl _))
    · rw [decide_eq_false t7]
      refine Seq.rd0 at11 rfl rfl (O.field fo_242_2 rfl) ?_
      refine Seq.rd1 at12 rfl rfl (O.load kd_4 rfl (Version_gone _)) Rd.head ?_
      refine Seq.rd0 at13 rfl rfl (O.move (v := .bool _) rfl) ?_
      cases t9 : x.gone
      · skip
        refine Seq.pass at14 rfl rfl ?_
        refine Seq.pass at15 rfl rfl ?_
        refine Seq.pass at16 rfl rfl ?_
        refine Seq.rd0 at17 rfl rfl (O.pickF (v := .bool _) rfl rfl) ?_
        refine Seq.rd0 at18 rfl rfl (O.pickF (v := .bool _) rfl rfl) ?_
        refine Seq.nil ?_
        refine hK4 ?_
        refine Cd.condF rfl ?_
        refine Cd.skip ?_
        refine hK3 ?_
        refine Cd.seq (fun K10 hK10 => ?_)
        refine Cd.region [0, 1, 2, 3, 4, 5, 6, 7, 8] rfl ?_
        refine Seq.rd0 at0 rfl rfl (O.move (v := .pointer _) rfl) ?_
        refine Seq.rd0 at1 rfl rfl (O.field fo_242_0 rfl) ?_
        refine Seq.rd1 at2 rfl rfl (O.loadA kd_24 rfl (Nat.le_of_ble_eq_true rfl) (Version_stamp _)) Rd.head ?_
        refine Seq.op at3 rfl (Op.callF rfl hb_223 (C_place hs (by omega) (hC.cons)) rfl ?_)
        rintro _ _ ⟨rfl, rfl⟩
        refine Seq.rd0 at4 rfl rfl (O.move (v := .tuple _) rfl) ?_
        refine Seq.rd0 at5 rfl rfl (O.ext rfl r2_0) ?_
        refine Seq.rd0 at6 rfl rfl (O.ext rfl r2_1) ?_
        refine Seq.rd0 at7 rfl rfl (O.assign (v := .int .i64 _) rfl) ?_
        refine Seq.rd0 at8 rfl rfl (O.assign (v := .bool _) rfl) ?_
        refine Seq.nil ?_
        refine hK10 ?_
        refine Cd.seq (fun K11 hK11 => ?_)
        refine Cd.block ?_
        refine Cd.seq (fun K12 hK12 => ?_)
        refine Cd.region [0, 1] rfl ?_
        refine Seq.rd0 at0 rfl rfl (O.move (v := .bool _) rfl) ?_
        refine Seq.rd0 at1 rfl rfl (O.assign (v := .bool _) rfl) ?_
        refine Seq.nil ?_
        refine hK12 ?_
        refine Cd.cond ((hasS vs x.stamp)) rfl (fun t13 => ?_) (fun t13 => ?_)
        · skip
          refine Cd.seq (fun K14 hK14 => ?_)
          refine Cd.region [0] rfl ?_
          refine Seq.rd0 at0 rfl rfl (O.assign (v := .int .i64 _) rfl) ?_
          refine Seq.nil ?_
          refine hK14 ?_
          refine Cd.ret ?_
          have hok1 : ¬ (¬ x.stamp.good ∨ 200 < (x.val.size : Int) ∨ (x.gone = true ∧ ¬ x.val = ⟨#[]⟩)) := by rintro (h | h | ⟨h, h9⟩) <;> first | (simp_all; done) | omega
          have hpe : putE vs x = 5 := by unfold putE; rw [if_neg hok1, if_pos (by assumption)]
          have hone : One cb (afterPut vs x) ((cb, .cells #[.slice av vs.length cap] 300 (0, 0)) :: Ls) := by
            have h2 : afterPut vs x = vs := by unfold afterPut; rw [if_neg (by omega)]
            rw [h2]; exact ⟨av, cap, Ls, rfl, ho, hs, h50⟩
          exact hR _ _ (Res.one (v := .int .i64 _) rfl rfl) ⟨by rw [hpe], _, hone, rfl⟩ (.cons _ (.refl _))
        · skip
          refine Cd.seq (fun K15 hK15 => ?_)
          refine Cd.region [0, 1, 2, 3, 4, 5, 6] rfl ?_
          refine Seq.rd0 at0 rfl rfl (O.move (v := .pointer _) rfl) ?_
          refine Seq.rd0 at1 rfl rfl (O.nilP rfl) ?_
          refine Seq.rd0 at2 rfl rfl (O.field fo_300_0 rfl) ?_
          refine Seq.rd1 at3 rfl rfl (O.load kd_239 rfl r1_0) Rd.head.cons ?_
          refine Seq.rd0 at4 rfl rfl (O.lenS ds_239 rfl) ?_
          refine Seq.rd0 at5 rfl rfl (O.geq rfl rfl) ?_
          refine Seq.rd0 at6 rfl rfl (O.assign (v := .bool _) rfl) ?_
          refine Seq.nil ?_
          refine hK15 ?_
          refine Cd.if ((50 : Int) ≤ (vs.length : Int)) rfl (fun t16 => ?_) (fun t16 => ?_)
          · skip
            refine Cd.seq (fun K17 hK17 => ?_)
            refine Cd.region [0] rfl ?_
            refine Seq.rd0 at0 rfl rfl (O.assign (v := .int .i64 _) rfl) ?_
            refine Seq.nil ?_
            refine hK17 ?_
            refine Cd.ret ?_
            have hok1 : ¬ (¬ x.stamp.good ∨ 200 < (x.val.size : Int) ∨ (x.gone = true ∧ ¬ x.val = ⟨#[]⟩)) := by rintro (h | h | ⟨h, h9⟩) <;> first | (simp_all; done) | omega
            have hpe : putE vs x = 6 := by unfold putE; rw [if_neg hok1, if_neg (by simp_all), if_pos (by omega)]
            have hone : One cb (afterPut vs x) ((cb, .cells #[.slice av vs.length cap] 300 (0, 0)) :: Ls) := by
              have h2 : afterPut vs x = vs := by unfold afterPut; rw [if_neg (by omega)]
              rw [h2]; exact ⟨av, cap, Ls, rfl, ho, hs, h50⟩
            exact hR _ _ (Res.one (v := .int .i64 _) rfl rfl) ⟨by rw [hpe], _, hone, rfl⟩ (.cons _ (.refl _))
          · skip
            refine Cd.skip ?_
            refine hK11 ?_
            refine Cd.seq (fun K18 hK18 => ?_)
            refine Cd.draw 12 rfl po ?_
            refine Any.rd0 0 at0 rfl rfl (O.move (v := .pointer _) rfl) (by kernel_rfl) (by kernel_rfl) (by kernel_rfl) ?_
            refine Any.rd0 1 at1 rfl rfl (O.move (v := .pointer _) rfl) (by kernel_rfl) (by kernel_rfl) (by kernel_rfl) ?_
            refine Any.rd0 2 at2 rfl rfl (O.nilP rfl) (by kernel_rfl) (by kernel_rfl) (by kernel_rfl) ?_
            refine Any.rd0 3 at3 rfl rfl (O.field fo_300_0 rfl) (by kernel_rfl) (by kernel_rfl) (by kernel_rfl) ?_
            refine Any.rd0 5 at5 rfl rfl (O.move (v := .int .i64 _) rfl) (by kernel_rfl) (by kernel_rfl) (by kernel_rfl) ?_
            refine Any.rd1 6 at6 rfl rfl (O.loadA kd_242 rfl (Nat.le_of_ble_eq_true rfl) (Version_all _)) Rd.head (by kernel_rfl) (by kernel_rfl) (by kernel_rfl) ?_
            refine Any.two 4 7 at4 at7 rfl rfl (by kernel_rfl) ⟨trivial, Rd.head⟩ ?_ ?_
            · skip
              refine Op.rd1 rfl (O.load kd_239 rfl r1_0) Rd.head.cons ?_
              refine Any.toK ?_
              refine Any.one 7 at7 rfl (by kernel_rfl) ⟨trivial, Rd.head⟩ ?_
              refine Op.new rfl (O.buildSlice (el := 242) rfl (cs := (rows Version_enc [x])) (by kernel_rfl)) ?_
              intro b19 hb19
              refine Any.toK ?_
              refine Any.one 8 at8 rfl (by kernel_rfl) ⟨trivial, Rd.head.cons⟩ ?_
              refine Op.callF rfl hb_224 (Fn.perm (C_Insert (R := [(b19, _), (b2, _), (cb, _)] ++ L) ho (below_le vs x.stamp) (by omega) List.mem_cons_self) (bring (pre := [(b19, _), (b2, _), (cb, _)]))) rfl ?_
              rintro _ _ ⟨av2, cap2, Ls2, rfl, ho2, rfl⟩
              refine Ent.perm ?_ (bring (Ls := Ls2) (pre := [(b19, _), (b2, _), (cb, _)]) (R := L)).symm
              refine Any.toK ?_
              refine Any.rd0 9 at9 rfl rfl (O.nilP rfl) (by kernel_rfl) (by kernel_rfl) (by kernel_rfl) ?_
              refine Any.rd0 10 at10 rfl rfl (O.field fo_300_0 rfl) (by kernel_rfl) (by kernel_rfl) (by kernel_rfl) ?_
              refine Any.one 11 at11 rfl (by kernel_rfl) ⟨trivial, Rd.head.cons⟩ ?_
              refine Op.set2 rfl (O.store1 kd_239 rfl (v := .slice _ _ _) rfl (Nat.le_of_ble_eq_true rfl) rfl (cs' := #[.slice av2 (vs.length + 1) cap2]) rfl) ?_
              refine Any.toK ?_
              refine Any.done (by kernel_rfl) ⟨trivial, Rd.head.cons⟩ ?_
              refine hK18 ?_
              refine Cd.seq (fun K20 hK20 => ?_)
              refine Cd.region [0] rfl ?_
              refine Seq.rd0 at0 rfl rfl (O.assign (v := .int .i64 _) rfl) ?_
              refine Seq.nil ?_
              refine hK20 ?_
              refine Cd.ret ?_
              have hok1 : ¬ (¬ x.stamp.good ∨ 200 < (x.val.size : Int) ∨ (x.gone = true ∧ ¬ x.val = ⟨#[]⟩)) := by rintro (h | h | ⟨h, h9⟩) <;> first | (simp_all; done) | omega
              have hpe : putE vs x = 0 := by unfold putE; rw [if_neg hok1, if_neg (by simp_all), if_neg (by omega)]
              have hone : One cb (afterPut vs x) ((cb, .cells #[.slice av2 (vs.length + 1) cap2] 300 (0, 0)) :: Ls2) := by
                have h1 : hasS vs x.stamp = false := by simp_all
                have h2 : afterPut vs x = putV vs x := by unfold afterPut; rw [if_pos hpe]
                rw [h2]
                exact ⟨av2, cap2, Ls2, by rw [putV_length], by rw [putV_length]; exact ho2, putV_sorted hs h1, by rw [putV_length]; omega⟩
              exact hR _ _ (Res.one (v := .int .i64 _) rfl rfl) ⟨by rw [hpe], _, hone, rfl⟩ (.cons _ (.cons _ (.refl _)))
            · skip
              refine Op.new rfl (O.buildSlice (el := 242) rfl (cs := (rows Version_enc [x])) (by kernel_rfl)) ?_
              intro b21 hb21
              refine Any.toK ?_
              refine Any.one 4 at4 rfl (by kernel_rfl) ⟨trivial, Rd.head.cons⟩ ?_
              refine Op.rd1 rfl (O.load kd_239 rfl r1_0) Rd.head.cons.cons ?_
              refine Any.toK ?_
              refine Any.one 8 at8 rfl (by kernel_rfl) ⟨trivial, Rd.head.cons⟩ ?_
              refine Op.callF rfl hb_224 (Fn.perm (C_Insert (R := [(b21, _), (b2, _), (cb, _)] ++ L) ho (below_le vs x.stamp) (by omega) List.mem_cons_self) (bring (pre := [(b21, _), (b2, _), (cb, _)]))) rfl ?_
              rintro _ _ ⟨av2, cap2, Ls2, rfl, ho2, rfl⟩
              refine Ent.perm ?_ (bring (Ls := Ls2) (pre := [(b21, _), (b2, _), (cb, _)]) (R := L)).symm
              refine Any.toK ?_
              refine Any.rd0 9 at9 rfl rfl (O.nilP rfl) (by kernel_rfl) (by kernel_rfl) (by kernel_rfl) ?_
              refine Any.rd0 10 at10 rfl rfl (O.field fo_300_0 rfl) (by kernel_rfl) (by kernel_rfl) (by kernel_rfl) ?_
              refine Any.one 11 at11 rfl (by kernel_rfl) ⟨trivial, Rd.head.cons⟩ ?_
              refine Op.set2 rfl (O.store1 kd_239 rfl (v := .slice _ _ _) rfl (Nat.le_of_ble_eq_true rfl) rfl (cs' := #[.slice av2 (vs.length + 1) cap2]) rfl) ?_
              refine Any.toK ?_
              refine Any.done (by kernel_rfl) ⟨trivial, Rd.head.cons⟩ ?_
              refine hK18 ?_
              refine Cd.seq (fun K22 hK22 => ?_)
              refine Cd.region [0] rfl ?_
              refine Seq.rd0 at0 rfl rfl (O.assign (v := .int .i64 _) rfl) ?_
              refine Seq.nil ?_
              refine hK22 ?_
              refine Cd.ret ?_
              have hok1 : ¬ (¬ x.stamp.good ∨ 200 < (x.val.size : Int) ∨ (x.gone = true ∧ ¬ x.val = ⟨#[]⟩)) := by rintro (h | h | ⟨h, h9⟩) <;> first | (simp_all; done) | omega
              have hpe : putE vs x = 0 := by unfold putE; rw [if_neg hok1, if_neg (by simp_all), if_neg (by omega)]
              have hone : One cb (afterPut vs x) ((cb, .cells #[.slice av2 (vs.length + 1) cap2] 300 (0, 0)) :: Ls2) := by
                have h1 : hasS vs x.stamp = false := by simp_all
                have h2 : afterPut vs x = putV vs x := by unfold afterPut; rw [if_pos hpe]
                rw [h2]
                exact ⟨av2, cap2, Ls2, by rw [putV_length], by rw [putV_length]; exact ho2, putV_sorted hs h1, by rw [putV_length]; omega⟩
              exact hR _ _ (Res.one (v := .int .i64 _) rfl rfl) ⟨by rw [hpe], _, hone, rfl⟩ (.cons _ (.cons _ (.refl _)))
      · skip
        refine Seq.rd0 at14 rfl rfl (O.field fo_242_1 rfl) ?_
        refine Seq.rd1 at15 rfl rfl (O.load kd_9 rfl (Version_val _)) Rd.head ?_
        refine Seq.rd0 at16 rfl rfl (O.neS rfl rfl) ?_
        refine Seq.rd0 at17 rfl rfl (O.pickT (v := .bool _) rfl rfl) ?_
        refine Seq.rd0 at18 rfl rfl (O.pickF (v := .bool _) rfl rfl) ?_
        refine Seq.nil ?_
        refine hK4 ?_
        refine Cd.ifn (x.val = ⟨#[]⟩) rfl (fun t23 => ?_) (fun t23 => ?_)
        · skip
          refine Cd.seq (fun K24 hK24 => ?_)
          refine Cd.region [0] rfl ?_
          refine Seq.rd0 at0 rfl rfl (O.assign (v := .int .i64 _) rfl) ?_
          refine Seq.nil ?_
          refine hK24 ?_
          refine Cd.ret ?_
          have hbad : ¬ x.stamp.good ∨ 200 < (x.val.size : Int) ∨ (x.gone = true ∧ ¬ x.val = ⟨#[]⟩) := by first | (left; assumption) | (left; simp_all; done) | (right; left; assumption) | (right; right; exact ⟨by assumption, by assumption⟩)
          have hpe : putE vs x = 1 := by unfold putE; rw [if_pos hbad]
          have hone : One cb (afterPut vs x) ((cb, .cells #[.slice av vs.length cap] 300 (0, 0)) :: Ls) := by
            have h2 : afterPut vs x = vs := by unfold afterPut; rw [if_neg (by omega)]
            rw [h2]; exact ⟨av, cap, Ls, rfl, ho, hs, h50⟩
          exact hR _ _ (Res.one (v := .int .i64 _) rfl rfl) ⟨by rw [hpe], _, hone, rfl⟩ (.cons _ (.refl _))
        · skip
          refine Cd.skip ?_
          refine hK3 ?_
          refine Cd.seq (fun K25 hK25 => ?_)
          refine Cd.region [0, 1, 2, 3, 4, 5, 6, 7, 8] rfl ?_
          refine Seq.rd0 at0 rfl rfl (O.move (v := .pointer _) rfl) ?_
          refine Seq.rd0 at1 rfl rfl (O.field fo_242_0 rfl) ?_
          refine Seq.rd1 at2 rfl rfl (O.loadA kd_24 rfl (Nat.le_of_ble_eq_true rfl) (Version_stamp _)) Rd.head ?_
          refine Seq.op at3 rfl (Op.callF rfl hb_223 (C_place hs (by omega) (hC.cons)) rfl ?_)
          rintro _ _ ⟨rfl, rfl⟩
          refine Seq.rd0 at4 rfl rfl (O.move (v := .tuple _) rfl) ?_
          refine Seq.rd0 at5 rfl rfl (O.ext rfl r2_0) ?_
          refine Seq.rd0 at6 rfl rfl (O.ext rfl r2_1) ?_
          refine Seq.rd0 at7 rfl rfl (O.assign (v := .int .i64 _) rfl) ?_
          refine Seq.rd0 at8 rfl rfl (O.assign (v := .bool _) rfl) ?_
          refine Seq.nil ?_
          refine hK25 ?_
          refine Cd.seq (fun K26 hK26 => ?_)
          refine Cd.block ?_
          refine Cd.seq (fun K27 hK27 => ?_)
          refine Cd.region [0, 1] rfl ?_
          refine Seq.rd0 at0 rfl rfl (O.move (v := .bool _) rfl) ?_
          refine Seq.rd0 at1 rfl rfl (O.assign (v := .bool _) rfl) ?_
          refine Seq.nil ?_
          refine hK27 ?_
          refine Cd.cond ((hasS vs x.stamp)) rfl (fun t28 => ?_) (fun t28 => ?_)
          · skip
            refine Cd.seq (fun K29 hK29 => ?_)
            refine Cd.region [0] rfl ?_
            refine Seq.rd0 at0 rfl rfl (O.assign (v := .int .i64 _) rfl) ?_
            refine Seq.nil ?_
            refine hK29 ?_
            refine Cd.ret ?_
            have hok1 : ¬ (¬ x.stamp.good ∨ 200 < (x.val.size : Int) ∨ (x.gone = true ∧ ¬ x.val = ⟨#[]⟩)) := by rintro (h | h | ⟨h, h9⟩) <;> first | (simp_all; done) | omega
            have hpe : putE vs x = 5 := by unfold putE; rw [if_neg hok1, if_pos (by assumption)]
            have hone : One cb (afterPut vs x) ((cb, .cells #[.slice av vs.length cap] 300 (0, 0)) :: Ls) := by
              have h2 : afterPut vs x = vs := by unfold afterPut; rw [if_neg (by omega)]
              rw [h2]; exact ⟨av, cap, Ls, rfl, ho, hs, h50⟩
            exact hR _ _ (Res.one (v := .int .i64 _) rfl rfl) ⟨by rw [hpe], _, hone, rfl⟩ (.cons _ (.refl _))
          · skip
            refine Cd.seq (fun K30 hK30 => ?_)
            refine Cd.region [0, 1, 2, 3, 4, 5, 6] rfl ?_
            refine Seq.rd0 at0 rfl rfl (O.move (v := .pointer _) rfl) ?_
            refine Seq.rd0 at1 rfl rfl (O.nilP rfl) ?_
            refine Seq.rd0 at2 rfl rfl (O.field fo_300_0 rfl) ?_
            refine Seq.rd1 at3 rfl rfl (O.load kd_239 rfl r1_0) Rd.head.cons ?_
            refine Seq.rd0 at4 rfl rfl (O.lenS ds_239 rfl) ?_
            refine Seq.rd0 at5 rfl rfl (O.geq rfl rfl) ?_
            refine Seq.rd0 at6 rfl rfl (O.assign (v := .bool _) rfl) ?_
            refine Seq.nil ?_
            refine hK30 ?_
            refine Cd.if ((50 : Int) ≤ (vs.length : Int)) rfl (fun t31 => ?_) (fun t31 => ?_)
            · skip
              refine Cd.seq (fun K32 hK32 => ?_)
              refine Cd.region [0] rfl ?_
              refine Seq.rd0 at0 rfl rfl (O.assign (v := .int .i64 _) rfl) ?_
              refine Seq.nil ?_
              refine hK32 ?_
              refine Cd.ret ?_
              have hok1 : ¬ (¬ x.stamp.good ∨ 200 < (x.val.size : Int) ∨ (x.gone = true ∧ ¬ x.val = ⟨#[]⟩)) := by rintro (h | h | ⟨h, h9⟩) <;> first | (simp_all; done) | omega
              have hpe : putE vs x = 6 := by unfold putE; rw [if_neg hok1, if_neg (by simp_all), if_pos (by omega)]
              have hone : One cb (afterPut vs x) ((cb, .cells #[.slice av vs.length cap] 300 (0, 0)) :: Ls) := by
                have h2 : afterPut vs x = vs := by unfold afterPut; rw [if_neg (by omega)]
                rw [h2]; exact ⟨av, cap, Ls, rfl, ho, hs, h50⟩
              exact hR _ _ (Res.one (v := .int .i64 _) rfl rfl) ⟨by rw [hpe], _, hone, rfl⟩ (.cons _ (.refl _))
            · skip
              refine Cd.skip ?_
              refine hK26 ?_
              refine Cd.seq (fun K33 hK33 => ?_)
              refine Cd.draw 12 rfl po ?_
              refine Any.rd0 0 at0 rfl rfl (O.move (v := .pointer _) rfl) (by kernel_rfl) (by kernel_rfl) (by kernel_rfl) ?_
              refine Any.rd0 1 at1 rfl rfl (O.move (v := .pointer _) rfl) (by kernel_rfl) (by kernel_rfl) (by kernel_rfl) ?_
              refine Any.rd0 2 at2 rfl rfl (O.nilP rfl) (by kernel_rfl) (by kernel_rfl) (by kernel_rfl) ?_
              refine Any.rd0 3 at3 rfl rfl (O.field fo_300_0 rfl) (by kernel_rfl) (by kernel_rfl) (by kernel_rfl) ?_
              refine Any.rd0 5 at5 rfl rfl (O.move (v := .int .i64 _) rfl) (by kernel_rfl) (by kernel_rfl) (by kernel_rfl) ?_
              refine Any.rd1 6 at6 rfl rfl (O.loadA kd_242 rfl (Nat.le_of_ble_eq_true rfl) (Version_all _)) Rd.head (by kernel_rfl) (by kernel_rfl) (by kernel_rfl) ?_
              refine Any.two 4 7 at4 at7 rfl rfl (by kernel_rfl) ⟨trivial, Rd.head⟩ ?_ ?_
              · skip
                refine Op.rd1 rfl (O.load kd_239 rfl r1_0) Rd.head.cons ?_
                refine Any.toK ?_
                refine Any.one 7 at7 rfl (by kernel_rfl) ⟨trivial, Rd.head⟩ ?_
                refine Op.new rfl (O.buildSlice (el := 242) rfl (cs := (rows Version_enc [x])) (by kernel_rfl)) ?_
                intro b34 hb34
                refine Any.toK ?_
                refine Any.one 8 at8 rfl (by kernel_rfl) ⟨trivial, Rd.head.cons⟩ ?_
                refine Op.callF rfl hb_224 (Fn.perm (C_Insert (R := [(b34, _), (b2, _), (cb, _)] ++ L) ho (below_le vs x.stamp) (by omega) List.mem_cons_self) (bring (pre := [(b34, _), (b2, _), (cb, _)]))) rfl ?_
                rintro _ _ ⟨av2, cap2, Ls2, rfl, ho2, rfl⟩
                refine Ent.perm ?_ (bring (Ls := Ls2) (pre := [(b34, _), (b2, _), (cb, _)]) (R := L)).symm
                refine Any.toK ?_
                refine Any.rd0 9 at9 rfl rfl (O.nilP rfl) (by kernel_rfl) (by kernel_rfl) (by kernel_rfl) ?_
                refine Any.rd0 10 at10 rfl rfl (O.field fo_300_0 rfl) (by kernel_rfl) (by kernel_rfl) (by kernel_rfl) ?_
                refine Any.one 11 at11 rfl (by kernel_rfl) ⟨trivial, Rd.head.cons⟩ ?_
                refine Op.set2 rfl (O.store1 kd_239 rfl (v := .slice _ _ _) rfl (Nat.le_of_ble_eq_true rfl) rfl (cs' := #[.slice av2 (vs.length + 1) cap2]) rfl) ?_
                refine Any.toK ?_
                refine Any.done (by kernel_rfl) ⟨trivial, Rd.head.cons⟩ ?_
                refine hK33 ?_
                refine Cd.seq (fun K35 hK35 => ?_)
                refine Cd.region [0] rfl ?_
                refine Seq.rd0 at0 rfl rfl (O.assign (v := .int .i64 _) rfl) ?_
                refine Seq.nil ?_
                refine hK35 ?_
                refine Cd.ret ?_
                have hok1 : ¬ (¬ x.stamp.good ∨ 200 < (x.val.size : Int) ∨ (x.gone = true ∧ ¬ x.val = ⟨#[]⟩)) := by rintro (h | h | ⟨h, h9⟩) <;> first | (simp_all; done) | omega
                have hpe : putE vs x = 0 := by unfold putE; rw [if_neg hok1, if_neg (by simp_all), if_neg (by omega)]
                have hone : One cb (afterPut vs x) ((cb, .cells #[.slice av2 (vs.length + 1) cap2] 300 (0, 0)) :: Ls2) := by
                  have h1 : hasS vs x.stamp = false := by simp_all
                  have h2 : afterPut vs x = putV vs x := by unfold afterPut; rw [if_pos hpe]
                  rw [h2]
                  exact ⟨av2, cap2, Ls2, by rw [putV_length], by rw [putV_length]; exact ho2, putV_sorted hs h1, by rw [putV_length]; omega⟩
                exact hR _ _ (Res.one (v := .int .i64 _) rfl rfl) ⟨by rw [hpe], _, hone, rfl⟩ (.cons _ (.cons _ (.refl _)))
              · skip
                refine Op.new rfl (O.buildSlice (el := 242) rfl (cs := (rows Version_enc [x])) (by kernel_rfl)) ?_
                intro b36 hb36
                refine Any.toK ?_
                refine Any.one 4 at4 rfl (by kernel_rfl) ⟨trivial, Rd.head.cons⟩ ?_
                refine Op.rd1 rfl (O.load kd_239 rfl r1_0) Rd.head.cons.cons ?_
                refine Any.toK ?_
                refine Any.one 8 at8 rfl (by kernel_rfl) ⟨trivial, Rd.head.cons⟩ ?_
                refine Op.callF rfl hb_224 (Fn.perm (C_Insert (R := [(b36, _), (b2, _), (cb, _)] ++ L) ho (below_le vs x.stamp) (by omega) List.mem_cons_self) (bring (pre := [(b36, _), (b2, _), (cb, _)]))) rfl ?_
                rintro _ _ ⟨av2, cap2, Ls2, rfl, ho2, rfl⟩
                refine Ent.perm ?_ (bring (Ls := Ls2) (pre := [(b36, _), (b2, _), (cb, _)]) (R := L)).symm
                refine Any.toK ?_
                refine Any.rd0 9 at9 rfl rfl (O.nilP rfl) (by kernel_rfl) (by kernel_rfl) (by kernel_rfl) ?_
                refine Any.rd0 10 at10 rfl rfl (O.field fo_300_0 rfl) (by kernel_rfl) (by kernel_rfl) (by kernel_rfl) ?_
                refine Any.one 11 at11 rfl (by kernel_rfl) ⟨trivial, Rd.head.cons⟩ ?_
                refine Op.set2 rfl (O.store1 kd_239 rfl (v := .slice _ _ _) rfl (Nat.le_of_ble_eq_true rfl) rfl (cs' := #[.slice av2 (vs.length + 1) cap2]) rfl) ?_
                refine Any.toK ?_
                refine Any.done (by kernel_rfl) ⟨trivial, Rd.head.cons⟩ ?_
                refine hK33 ?_
                refine Cd.seq (fun K37 hK37 => ?_)
                refine Cd.region [0] rfl ?_
                refine Seq.rd0 at0 rfl rfl (O.assign (v := .int .i64 _) rfl) ?_
                refine Seq.nil ?_
                refine hK37 ?_
                refine Cd.ret ?_
                have hok1 : ¬ (¬ x.stamp.good ∨ 200 < (x.val.size : Int) ∨ (x.gone = true ∧ ¬ x.val = ⟨#[]⟩)) := by rintro (h | h | ⟨h, h9⟩) <;> first | (simp_all; done) | omega
                have hpe : putE vs x = 0 := by unfold putE; rw [if_neg hok1, if_neg (by simp_all), if_neg (by omega)]
                have hone : One cb (afterPut vs x) ((cb, .cells #[.slice av2 (vs.length + 1) cap2] 300 (0, 0)) :: Ls2) := by
                  have h1 : hasS vs x.stamp = false := by simp_all
                  have h2 : afterPut vs x = putV vs x := by unfold afterPut; rw [if_pos hpe]
                  rw [h2]
                  exact ⟨av2, cap2, Ls2, by rw [putV_length], by rw [putV_length]; exact ho2, putV_sorted hs h1, by rw [putV_length]; omega⟩
                exact hR _ _ (Res.one (v := .int .i64 _) rfl rfl) ⟨by rw [hpe], _, hone, rfl⟩ (.cons _ (.cons _ (.refl _)))

theorem C_Put {c : Cx} {R G : List Pt} {cb : Nat} {vs : List Version} {x : Version} (hO : One cb vs G) :
    Fn Tryz.prog 173 #[.pointer (some ⟨cb, 0, none⟩), .agg (Version_enc x)] c (G ++ R) (fun v L' => v = .int .i64 (putE vs x) ∧ ∃ G', One cb (afterPut vs x) G' ∧ L' = G' ++ R) := by
  have hC := hO.ch (c := c) (R := R)
  obtain ⟨av, cap, Ls, rfl, h1, h2, h3⟩ := hO
  exact C_Put_own (L := R) h1 h2 h3 hC

end Go.X
