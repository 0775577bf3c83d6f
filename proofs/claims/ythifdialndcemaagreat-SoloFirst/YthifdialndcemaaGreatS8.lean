/- Part 8 of the proofs over this program: what its functions compute. -/
import Derived.Test.YthifdialndcemaaGreatProg
import Derived.Test.YthifdialndcemaaGreatS7
set_option linter.unusedVariables false
set_option linter.unusedSimpArgs false

namespace Go.X
open Go.Proofs
theorem ds_96 : isDesc Tryz.prog 96 = 5 := by kernel_rfl
theorem fo_205_0 : fieldOff Tryz.prog 205 0 = some 0 := by kernel_rfl
theorem fo_205_2 : fieldOff Tryz.prog 205 2 = some 2 := by kernel_rfl
theorem fo_205_3 : fieldOff Tryz.prog 205 3 = some 3 := by kernel_rfl
theorem hb_130 : hasBody Tryz.prog 130 = true := by kernel_rfl
theorem hb_53 : hasBody Tryz.prog 53 = true := by kernel_rfl
theorem hb_54 : hasBody Tryz.prog 54 = true := by kernel_rfl
theorem hb_56 : hasBody Tryz.prog 56 = true := by kernel_rfl
theorem hb_60 : hasBody Tryz.prog 60 = true := by kernel_rfl
theorem hb_62 : hasBody Tryz.prog 62 = true := by kernel_rfl
theorem kd_205 : kindOf Tryz.prog 205 = some (true, 37) := by kernel_rfl
theorem sl_96 : sliceOf Tryz.prog 96 = some (205, 37) := by kernel_rfl
theorem zo_205 : zeroOf Tryz.prog 205 = some (.agg #[.int .i64 0, .int .i64 0, .int .i64 0, .int .u8 0, .int .u8 0, .int .u8 0, .int .u8 0, .int .u8 0, .int .u8 0, .int .u8 0, .int .u8 0, .int .u8 0, .int .u8 0, .int .u8 0, .int .u8 0, .int .u8 0, .int .u8 0, .int .u8 0, .int .u8 0, .string ⟨#[]⟩, .bool false, .int .u8 0, .int .u8 0, .int .u8 0, .int .u8 0, .int .u8 0, .int .u8 0, .int .u8 0, .int .u8 0, .int .u8 0, .int .u8 0, .int .u8 0, .int .u8 0, .int .u8 0, .int .u8 0, .int .u8 0, .int .u8 0]) := by kernel_rfl
/-! ## any calls -/
structure SoS where
  l : List (Key × CV)
  xl : List (I64 × TX)
  bg : Int
  la : Int
/-- calls, but of one transaction none: what may come of them -/
inductive Moves (nt : Int) (s : SoS) : SoS → Prop
  | refl : Moves nt s s
  | begin {t : SoS} {ti : I64} (xb : Nat) : Moves nt s t → ti.1 = t.bg + 1 → t.xl.length < 50 → Moves nt s ⟨t.l, aput t.xl ti (xb, (⟨t.la, 0⟩, [])), t.bg + 1, t.la⟩
  | put {t : SoS} {ti : I64} (x : Write) : Moves nt s t → ¬ (ti.1 = nt ∧ 0 < nt) → Moves nt s ⟨t.l, afterS t.xl ti x, t.bg, t.la⟩
  | commit {t : SoS} {ti : I64} {r : Stamp} {e : Int} {l' : List (Key × CV)} {la' : Int} : Moves nt s t → ¬ (ti.1 = nt ∧ 0 < nt) → (match alook t.xl ti with
      | none => r = .zero ∧ e = 4 ∧ l' = t.l ∧ la' = t.la
      | some q => ComX t.l t.la q.2.1 q.2.2 r e l' la') → Moves nt s ⟨l', adel t.xl ti, t.bg, la'⟩
  | abort {t : SoS} {ti : I64} : Moves nt s t → ¬ (ti.1 = nt ∧ 0 < nt) → Moves nt s ⟨t.l, adel t.xl ti, t.bg, t.la⟩
  | trim {t : SoS} {s0 : Stamp} {l' : List (Key × CV)} : Moves nt s t → LeastS t.xl t.la s0 → TrimR t.l s0 l' → Moves nt s ⟨l', t.xl, t.bg, t.la⟩
theorem wfI {x : Int} (h : 0 ≤ x) (h2 : x ≤ 2000000) : (Lit.int .i64 x).wf = true := by
  have h3 : (-9223372036854775808 : Int) ≤ x := by omega
  have h4 : x ≤ 9223372036854775807 := by omega
  show (decide ((-9223372036854775808 : Int) ≤ x) && decide (x ≤ 9223372036854775807)) = true
  rw [decide_eq_true h3, decide_eq_true h4]; rfl
theorem ComX.la_le {l l' : List (Key × CV)} {la la' e : Int} {s r : Stamp} {ws : List (Key × Write)} (h : ComX l la s ws r e l' la') : la' ≤ la + 1 := by
  rcases h with ⟨_, _, _, _, h⟩ | ⟨_, _, _, _, _, h⟩ | ⟨_, _, _, _, _, h8, h9, h10⟩
  · omega
  · omega
  · by_cases he : e = 0
    · have := (h10 he).2.1; omega
    · have := (h9 he).2.2; omega
theorem com_la {xl : List (I64 × TX)} {ti : I64} {l l' : List (Key × CV)} {la la' e : Int} {r : Stamp} (h : match alook xl ti with
      | none => r = .zero ∧ e = 4 ∧ l' = l ∧ la' = la
      | some q => ComX l la q.2.1 q.2.2 r e l' la') : la' ≤ la + 1 := by
  cases hl : alook xl ti with
  | none => rw [hl] at h; have := h.2.2.2; omega
  | some q => rw [hl] at h; exact h.la_le
theorem afterS_keys {xl : List (I64 × TX)} {ti : I64} {x : Write} : (afterS xl ti x).map Prod.fst = xl.map Prod.fst ∧ (afterS xl ti x).length = xl.length := by
  unfold afterS
  cases hl : alook xl ti with
  | none => exact ⟨rfl, rfl⟩
  | some q => have := aput_keep (u := (q.1, (q.2.1, afterX q.2.2 x))) hl; exact ⟨this.1, this.2.1⟩
theorem aput_le {K V : Type} [DecidableEq K] (k : K) (v : V) (l : List (K × V)) : (aput l k v).length ≤ l.length + 1 := by rw [aput_length]; split <;> omega

set_option maxRecDepth 100000 in
set_option maxHeartbeats 2000000 in
theorem C_play {c : Cx} {L : List Pt} {p N : Nat} {Ls : List Pt} {l : List (Key × CV)} {xl : List (I64 × TX)} {bg la nt : Int} (hS0 : SoOwn p l xl bg la Ls) {av : Option Addr} {nx cx : Nat} {xs : List SAct} (hX : SlAt c L SAct_enc av nx xs) (hQ : ∀ x ∈ xs, (Lit.int .i64 x.id).wf = true) (hN : 50 ≤ N ∧ N ≤ 90) (hx0 : xl.length ≤ N) (hb0 : bg + xs.length < 1000000) (ha0 : la + xs.length < 1000000) : Fn Tryz.prog 52 #[.pointer (some ⟨p, 0, none⟩), .slice av nx cx, .int .i64 nt] c (Ls ++ L) (fun v L' => ∃ l' xl' bg' la' Ls', SoOwn p l' xl' bg' la' Ls' ∧ Moves nt ⟨l, xl, bg, la⟩ ⟨l', xl', bg', la'⟩ ∧ xl'.length ≤ N ∧ bg' ≤ bg + xs.length ∧ la' ≤ la + xs.length ∧ L' = Ls' ++ L) := by
  have hwl := hX.len
  have hwt := hX.lt
  refine Fn.enter Tryz.func52 rfl 60 rfl rfl (fun R hR => ?_)
  refine Cd.seq (fun K1 hK1 => ?_)
  refine Cd.region [0] rfl ?_
  refine Seq.rd0 at0 rfl rfl (O.assign (v := .int .i64 _) rfl) ?_
  refine Seq.nil ?_
  refine hK1 ?_
  refine Cd.block ?_
  refine Cd.loop (fun m2 e3 L4 => ∃ i : Nat, ∃ l1 : List (Key × CV), ∃ xl1 : List (I64 × TX), ∃ bg1 : Int, ∃ la1 : Int, ∃ Ls1 : List Pt, m2 = xs.length - i ∧ e3 0 = .pointer (some ⟨p, 0, none⟩) ∧ e3 1 = .slice av nx cx ∧ e3 2 = .int .i64 nt ∧ e3 6 = .int .i64 (i : Int) ∧ L4 = (Ls1 ++ (L)) ∧ i ≤ xs.length ∧ SoOwn p l1 xl1 bg1 la1 Ls1 ∧ Moves nt ⟨l, xl, bg, la⟩ ⟨l1, xl1, bg1, la1⟩ ∧ xl1.length ≤ N ∧ bg1 ≤ bg + i ∧ la1 ≤ la + i) _ ⟨0, l, xl, bg, la, Ls, rfl, rfl, rfl, rfl, rfl, rfl, Nat.zero_le _, hS0, by exact .refl, hx0, by omega, by omega⟩ ?_
  rintro _ e3 _ ⟨i, l1, xl1, bg1, la1, Ls1, rfl, s5, s6, s7, s8, rfl, hi, hS1, hM, hx1, hb1, ha1⟩ K9 hK9
  have hnum := hS1.num
  refine Cd.seq (fun K10 hK10 => ?_)
  refine Cd.seq (fun K11 hK11 => ?_)
  refine Cd.region [0, 1, 2, 3] rfl ?_
  refine Seq.rd0 at0 rfl rfl (O.move (v := .int .i64 _) (by exact s8)) ?_
  refine Seq.rd0 at1 rfl rfl (O.move (v := .slice _ _ _) (by exact s6)) ?_
  refine Seq.rd0 at2 rfl rfl (O.lenS ds_96 rfl) ?_
  refine Seq.rd0 at3 rfl rfl (O.lss rfl rfl) ?_
  refine Seq.nil ?_
  refine hK11 ?_
  refine Cd.if ((i : Int) < (nx : Int)) rfl (fun t12 => ?_) (fun t12 => ?_)
  · skip
    refine Cd.skip ?_
    refine hK10 ?_
    refine Cd.seq (fun K13 hK13 => ?_)
    refine Cd.block ?_
    refine Cd.seq (fun K14 hK14 => ?_)
    refine Cd.region [0, 1, 2, 3, 4, 5] rfl ?_
    refine Seq.rd0 at0 rfl rfl (O.move (v := .slice _ _ _) (by exact s6)) ?_
    refine Seq.rd0 at1 rfl rfl (O.move (v := .int .i64 _) (by exact s8)) ?_
    have hlt15 : i < xs.length := by omega
    obtain ⟨pre15, sp15, el15, fz15, hav15, hrd15⟩ := hX.at_ hlt15
    have hwf := hQ _ (List.getElem_mem hlt15)
    refine Seq.rd0 at2 rfl rfl (O.indexG sl_96 rfl hav15 rfl (by omega) (by omega)) ?_
    refine Seq.rd1 at3 rfl rfl (O.loadA kd_205 rfl (rowRoomP SAct_size (getN hlt15)) (rowAtP SAct_size (getN hlt15))) hrd15.app ?_
    refine Seq.op at4 rfl (Op.new rfl (O.alloc zo_205 (cs := (SAct_enc SAct.zero)) rfl) ?_)
    intro b16 hb16
    refine Seq.op at5 rfl (Op.set0 rfl (O.store kd_205 rfl (v := .agg _) rfl (SAct_size _) (SAct_room (SAct_size _)) (SAct_one _) (SAct_put _ (SAct_size _))) ?_)
    refine Seq.nil ?_
    refine hK14 ?_
    refine Cd.seq (fun K17 hK17 => ?_)
    refine Cd.seq (fun K18 hK18 => ?_)
    refine Cd.region [0, 1, 2, 3, 4, 5, 6, 7] rfl ?_
    refine Seq.rd0 at0 rfl rfl (O.field fo_205_2 rfl) ?_
    refine Seq.rd1 at1 rfl rfl (O.load kd_2 rfl (SAct_id _)) Rd.head ?_
    refine Seq.rd0 at2 rfl rfl (O.move (v := .int .i64 _) (by exact s7)) ?_
    refine Seq.rd0 at3 rfl rfl (O.eqI rfl rfl) ?_
    refine Seq.rd0 at4 rfl rfl (O.move (v := .bool _) rfl) ?_
    by_cases t19 : xs[i].id = nt
    · rw [decide_eq_true t19]
      refine Seq.rd0 at5 rfl rfl (O.move (v := .int .i64 _) (by exact s7)) ?_
      refine Seq.rd0 at6 rfl rfl (O.gtr rfl rfl) ?_
      refine Seq.rd0 at7 rfl rfl (O.pickT (v := .bool _) rfl rfl) ?_
      refine Seq.nil ?_
      refine hK18 ?_
      refine Cd.if ((0 : Int) < nt) rfl (fun t20 => ?_) (fun t20 => ?_)
      · skip
        refine Cd.exit ?_
        refine hK13 ?_
        refine Cd.region [0, 1, 2] rfl ?_
        refine Seq.rd0 at0 rfl rfl (O.move (v := .int .i64 _) (by exact s8)) ?_
        refine Seq.rd0 at1 rfl rfl (O.add rfl rfl (by omega) (by omega)) ?_
        refine Seq.rd0 at2 rfl rfl (O.assign (v := .int .i64 _) rfl) ?_
        refine Seq.nil ?_
        refine Ent.drop ?_
        exact hK9 _ (by omega) ⟨i + 1, l1, xl1, bg1, la1, Ls1, rfl, (by exact s5), (by exact s6), (by exact s7), rfl, rfl, by omega, hS1, hM, hx1, by omega, by omega⟩
      · skip
        refine Cd.skip ?_
        refine hK17 ?_
        refine Cd.seq (fun K21 hK21 => ?_)
        refine Cd.region [0, 1] rfl ?_
        refine Seq.rd0 at0 rfl rfl (O.field fo_205_0 rfl) ?_
        refine Seq.rd1 at1 rfl rfl (O.load kd_3 rfl (SAct_op _)) Rd.head ?_
        refine Seq.nil ?_
        refine hK21 ?_
        refine Cd.block ?_
        refine Cd.seq (fun K22 hK22 => ?_)
        refine Cd.region [0, 1] rfl ?_
        refine Seq.rd0 at0 rfl rfl (O.eqI rfl rfl) ?_
        refine Seq.rd0 at1 rfl rfl (O.assign (v := .bool _) rfl) ?_
        refine Seq.nil ?_
        refine hK22 ?_
        refine Cd.if (xs[i].op = 0) rfl (fun t23 => ?_) (fun t23 => ?_)
        · skip
          refine Cd.seq (fun K24 hK24 => ?_)
          refine Cd.region [0, 1, 2, 3] rfl ?_
          refine Seq.rd0 at0 rfl rfl (O.move (v := .pointer _) (by exact s5)) ?_
          refine Seq.op at1 rfl (Op.callF rfl hb_62 (Fn.perm (C_So_Open (R := ((b16, _) :: []) ++ L) hS1) (bring (pre := ((b16, _) :: [])) (Ls := Ls1) (R := L))) rfl ?_)
          rintro _ _ ⟨ys, Lo, hpy, hoy, hoi, rfl⟩
          obtain ⟨av9, cap9, rfl⟩ := OwnSl.form hoi
          have hyl : ys.length = xl1.length := by rw [hpy.length_eq, List.length_map]
          refine Ent.sub ?_ (sub_app (G := Lo) (.refl _))
          refine Ent.perm ?_ (bring (Ls := Ls1) (pre := ((b16, _) :: [])) (R := L)).symm
          refine Seq.rd0 at2 rfl rfl (O.lenS ds_72 rfl) ?_
          refine Seq.rd0 at3 rfl rfl (O.lss rfl rfl) ?_
          refine Seq.nil ?_
          refine hK24 ?_
          refine Cd.if ((ys.length : Int) < 50) rfl (fun t25 => ?_) (fun t25 => ?_)
          · skip
            refine Cd.region [0, 1] rfl ?_
            refine Seq.rd0 at0 rfl rfl (O.move (v := .pointer _) (by exact s5)) ?_
            have hib : (Lit.int .i64 (bg1 + 1)).wf = true := wfI (by omega) (by omega)
            refine Seq.op at1 rfl (Op.callF rfl hb_53 (Fn.perm (C_So_Begin (R := ((b16, _) :: []) ++ L) (ti := ⟨bg1 + 1, hib⟩) hS1 rfl (by omega) (by omega)) (bring (pre := ((b16, _) :: [])) (Ls := Ls1) (R := L))) rfl ?_)
            rintro _ _ ⟨rfl, xbLsB, LsB, hSB, rfl⟩
            refine Ent.perm ?_ (bring (Ls := LsB) (pre := ((b16, _) :: [])) (R := L)).symm
            refine Seq.nil ?_
            refine hK13 ?_
            refine Cd.region [0, 1, 2] rfl ?_
            refine Seq.rd0 at0 rfl rfl (O.move (v := .int .i64 _) (by exact s8)) ?_
            refine Seq.rd0 at1 rfl rfl (O.add rfl rfl (by omega) (by omega)) ?_
            refine Seq.rd0 at2 rfl rfl (O.assign (v := .int .i64 _) rfl) ?_
            refine Seq.nil ?_
            refine Ent.drop ?_
            exact hK9 _ (by omega) ⟨i + 1, l1, (aput xl1 ⟨bg1 + 1, hib⟩ (xbLsB, (⟨la1, 0⟩, []))), (bg1 + 1), la1, LsB, rfl, (by exact s5), (by exact s6), (by exact s7), rfl, rfl, by omega, hSB, by exact Moves.begin xbLsB hM rfl (by simp only; omega), by have := aput_le (⟨bg1 + 1, hib⟩ : I64) (xbLsB, ((⟨la1, 0⟩ : Stamp), ([] : List (Key × Write)))) xl1; omega, by omega, by omega⟩
          · skip
            refine Cd.skip ?_
            refine hK13 ?_
            refine Cd.region [0, 1, 2] rfl ?_
            refine Seq.rd0 at0 rfl rfl (O.move (v := .int .i64 _) (by exact s8)) ?_
            refine Seq.rd0 at1 rfl rfl (O.add rfl rfl (by omega) (by omega)) ?_
            refine Seq.rd0 at2 rfl rfl (O.assign (v := .int .i64 _) rfl) ?_
            refine Seq.nil ?_
            refine Ent.drop ?_
            exact hK9 _ (by omega) ⟨i + 1, l1, xl1, bg1, la1, Ls1, rfl, (by exact s5), (by exact s6), (by exact s7), rfl, rfl, by omega, hS1, hM, hx1, by omega, by omega⟩
        · skip
          refine Cd.seq (fun K26 hK26 => ?_)
          refine Cd.region [0, 1] rfl ?_
          refine Seq.rd0 at0 rfl rfl (O.eqI rfl rfl) ?_
          refine Seq.rd0 at1 rfl rfl (O.assign (v := .bool _) rfl) ?_
          refine Seq.nil ?_
          refine hK26 ?_
          refine Cd.if (xs[i].op = 3) rfl (fun t27 => ?_) (fun t27 => ?_)
          · skip
            refine Cd.region [0, 1, 2, 3, 4, 5] rfl ?_
            refine Seq.rd0 at0 rfl rfl (O.move (v := .pointer _) (by exact s5)) ?_
            refine Seq.rd0 at1 rfl rfl (O.field fo_205_2 rfl) ?_
            refine Seq.rd1 at2 rfl rfl (O.load kd_2 rfl (SAct_id _)) Rd.head ?_
            refine Seq.rd0 at3 rfl rfl (O.field fo_205_3 rfl) ?_
            refine Seq.rd1 at4 rfl rfl (O.loadA kd_47 rfl (Nat.le_of_ble_eq_true rfl) (SAct_w _)) Rd.head ?_
            have hsk : ¬ ((⟨xs[i].id, hwf⟩ : I64).1 = nt ∧ 0 < nt) := by first | assumption | (rintro ⟨h1, h2⟩; first | exact absurd h1 (by assumption) | exact absurd h2 (by assumption) | omega)
            refine Seq.op at5 rfl (Op.callF rfl hb_54 (Fn.perm (C_So_Put (R := ((b16, _) :: []) ++ L) (ti := (⟨xs[i].id, hwf⟩ : I64)) (x := xs[i].w) hS1) (bring (pre := ((b16, _) :: [])) (Ls := Ls1) (R := L))) rfl ?_)
            rintro _ _ ⟨rfl, LsP, hSP, rfl⟩
            refine Ent.perm ?_ (bring (Ls := LsP) (pre := ((b16, _) :: [])) (R := L)).symm
            refine Seq.nil ?_
            refine hK13 ?_
            refine Cd.region [0, 1, 2] rfl ?_
            refine Seq.rd0 at0 rfl rfl (O.move (v := .int .i64 _) (by exact s8)) ?_
            refine Seq.rd0 at1 rfl rfl (O.add rfl rfl (by omega) (by omega)) ?_
            refine Seq.rd0 at2 rfl rfl (O.assign (v := .int .i64 _) rfl) ?_
            refine Seq.nil ?_
            refine Ent.drop ?_
            exact hK9 _ (by omega) ⟨i + 1, l1, (afterS xl1 (⟨xs[i].id, hwf⟩ : I64) xs[i].w), bg1, la1, LsP, rfl, (by exact s5), (by exact s6), (by exact s7), rfl, rfl, by omega, hSP, by exact Moves.put _ hM (by assumption), by rw [afterS_keys.2]; exact hx1, by omega, by omega⟩
          · skip
            refine Cd.seq (fun K28 hK28 => ?_)
            refine Cd.region [0, 1] rfl ?_
            refine Seq.rd0 at0 rfl rfl (O.eqI rfl rfl) ?_
            refine Seq.rd0 at1 rfl rfl (O.assign (v := .bool _) rfl) ?_
            refine Seq.nil ?_
            refine hK28 ?_
            refine Cd.if (xs[i].op = 4) rfl (fun t29 => ?_) (fun t29 => ?_)
            · skip
              refine Cd.region [0, 1, 2, 3] rfl ?_
              refine Seq.rd0 at0 rfl rfl (O.move (v := .pointer _) (by exact s5)) ?_
              refine Seq.rd0 at1 rfl rfl (O.field fo_205_2 rfl) ?_
              refine Seq.rd1 at2 rfl rfl (O.load kd_2 rfl (SAct_id _)) Rd.head ?_
              have hsk : ¬ ((⟨xs[i].id, hwf⟩ : I64).1 = nt ∧ 0 < nt) := by first | assumption | (rintro ⟨h1, h2⟩; first | exact absurd h1 (by assumption) | exact absurd h2 (by assumption) | omega)
              refine Seq.op at3 rfl (Op.callF rfl hb_56 (Fn.perm (C_So_Commit (R := ((b16, _) :: []) ++ L) (ti := (⟨xs[i].id, hwf⟩ : I64)) hS1 (by omega)) (bring (pre := ((b16, _) :: [])) (Ls := Ls1) (R := L))) rfl ?_)
              rintro _ _ ⟨rC, eC, lC, laC, LsC, rfl, hSC, hcomC, rfl⟩
              refine Ent.perm ?_ (bring (Ls := LsC) (pre := ((b16, _) :: [])) (R := L)).symm
              refine Seq.nil ?_
              refine hK13 ?_
              refine Cd.region [0, 1, 2] rfl ?_
              refine Seq.rd0 at0 rfl rfl (O.move (v := .int .i64 _) (by exact s8)) ?_
              refine Seq.rd0 at1 rfl rfl (O.add rfl rfl (by omega) (by omega)) ?_
              refine Seq.rd0 at2 rfl rfl (O.assign (v := .int .i64 _) rfl) ?_
              refine Seq.nil ?_
              refine Ent.drop ?_
              exact hK9 _ (by omega) ⟨i + 1, lC, (adel xl1 (⟨xs[i].id, hwf⟩ : I64)), bg1, laC, LsC, rfl, (by exact s5), (by exact s6), (by exact s7), rfl, rfl, by omega, hSC, by exact Moves.commit hM (by assumption) hcomC, Nat.le_trans (adel_sub _ _).length_le hx1, by omega, by have := com_la hcomC; omega⟩
            · skip
              refine Cd.seq (fun K30 hK30 => ?_)
              refine Cd.region [0, 1] rfl ?_
              refine Seq.rd0 at0 rfl rfl (O.eqI rfl rfl) ?_
              refine Seq.rd0 at1 rfl rfl (O.assign (v := .bool _) rfl) ?_
              refine Seq.nil ?_
              refine hK30 ?_
              refine Cd.if (xs[i].op = 5) rfl (fun t31 => ?_) (fun t31 => ?_)
              · skip
                refine Cd.region [0, 1, 2, 3] rfl ?_
                refine Seq.rd0 at0 rfl rfl (O.move (v := .pointer _) (by exact s5)) ?_
                refine Seq.rd0 at1 rfl rfl (O.field fo_205_2 rfl) ?_
                refine Seq.rd1 at2 rfl rfl (O.load kd_2 rfl (SAct_id _)) Rd.head ?_
                have hsk : ¬ ((⟨xs[i].id, hwf⟩ : I64).1 = nt ∧ 0 < nt) := by first | assumption | (rintro ⟨h1, h2⟩; first | exact absurd h1 (by assumption) | exact absurd h2 (by assumption) | omega)
                refine Seq.op at3 rfl (Op.callF rfl hb_130 (Fn.perm (C_So_Abort (R := ((b16, _) :: []) ++ L) (ti := (⟨xs[i].id, hwf⟩ : I64)) hS1) (bring (pre := ((b16, _) :: [])) (Ls := Ls1) (R := L))) rfl ?_)
                rintro _ _ ⟨rfl, LsA, hSA, rfl⟩
                refine Ent.perm ?_ (bring (Ls := LsA) (pre := ((b16, _) :: [])) (R := L)).symm
                refine Seq.nil ?_
                refine hK13 ?_
                refine Cd.region [0, 1, 2] rfl ?_
                refine Seq.rd0 at0 rfl rfl (O.move (v := .int .i64 _) (by exact s8)) ?_
                refine Seq.rd0 at1 rfl rfl (O.add rfl rfl (by omega) (by omega)) ?_
                refine Seq.rd0 at2 rfl rfl (O.assign (v := .int .i64 _) rfl) ?_
                refine Seq.nil ?_
                refine Ent.drop ?_
                exact hK9 _ (by omega) ⟨i + 1, l1, (adel xl1 (⟨xs[i].id, hwf⟩ : I64)), bg1, la1, LsA, rfl, (by exact s5), (by exact s6), (by exact s7), rfl, rfl, by omega, hSA, by exact Moves.abort hM (by assumption), Nat.le_trans (adel_sub _ _).length_le hx1, by omega, by omega⟩
              · skip
                refine Cd.seq (fun K32 hK32 => ?_)
                refine Cd.region [0, 1] rfl ?_
                refine Seq.rd0 at0 rfl rfl (O.eqI rfl rfl) ?_
                refine Seq.rd0 at1 rfl rfl (O.assign (v := .bool _) rfl) ?_
                refine Seq.nil ?_
                refine hK32 ?_
                refine Cd.if (xs[i].op = 6) rfl (fun t33 => ?_) (fun t33 => ?_)
                · skip
                  refine Cd.region [0, 1] rfl ?_
                  refine Seq.rd0 at0 rfl rfl (O.move (v := .pointer _) (by exact s5)) ?_
                  refine Seq.op at1 rfl (Op.callF rfl hb_60 (Fn.perm (C_So_Trim (R := ((b16, _) :: []) ++ L) hS1) (bring (pre := ((b16, _) :: [])) (Ls := Ls1) (R := L))) rfl ?_)
                  rintro _ _ ⟨s0, lt, LsT, hls, rfl, hST, htr, rfl⟩
                  refine Ent.perm ?_ (bring (Ls := LsT) (pre := ((b16, _) :: [])) (R := L)).symm
                  refine Seq.nil ?_
                  refine hK13 ?_
                  refine Cd.region [0, 1, 2] rfl ?_
                  refine Seq.rd0 at0 rfl rfl (O.move (v := .int .i64 _) (by exact s8)) ?_
                  refine Seq.rd0 at1 rfl rfl (O.add rfl rfl (by omega) (by omega)) ?_
                  refine Seq.rd0 at2 rfl rfl (O.assign (v := .int .i64 _) rfl) ?_
                  refine Seq.nil ?_
                  refine Ent.drop ?_
                  exact hK9 _ (by omega) ⟨i + 1, lt, xl1, bg1, la1, LsT, rfl, (by exact s5), (by exact s6), (by exact s7), rfl, rfl, by omega, hST, by exact Moves.trim hM hls htr, hx1, by omega, by omega⟩
                · skip
                  refine Cd.skip ?_
                  refine hK13 ?_
                  refine Cd.region [0, 1, 2] rfl ?_
                  refine Seq.rd0 at0 rfl rfl (O.move (v := .int .i64 _) (by exact s8)) ?_
                  refine Seq.rd0 at1 rfl rfl (O.add rfl rfl (by omega) (by omega)) ?_
                  refine Seq.rd0 at2 rfl rfl (O.assign (v := .int .i64 _) rfl) ?_
                  refine Seq.nil ?_
                  refine Ent.drop ?_
                  exact hK9 _ (by omega) ⟨i + 1, l1, xl1, bg1, la1, Ls1, rfl, (by exact s5), (by exact s6), (by exact s7), rfl, rfl, by omega, hS1, hM, hx1, by omega, by omega⟩
    · rw [decide_eq_false t19]
      refine Seq.pass at5 rfl rfl ?_
      refine Seq.pass at6 rfl rfl ?_
      refine Seq.rd0 at7 rfl rfl (O.pickF (v := .bool _) rfl rfl) ?_
      refine Seq.nil ?_
      refine hK18 ?_
      refine Cd.condF rfl ?_
      refine Cd.skip ?_
      refine hK17 ?_
      refine Cd.seq (fun K34 hK34 => ?_)
      refine Cd.region [0, 1] rfl ?_
      refine Seq.rd0 at0 rfl rfl (O.field fo_205_0 rfl) ?_
      refine Seq.rd1 at1 rfl rfl (O.load kd_3 rfl (SAct_op _)) Rd.head ?_
      refine Seq.nil ?_
      refine hK34 ?_
      refine Cd.block ?_
      refine Cd.seq (fun K35 hK35 => ?_)
      refine Cd.region [0, 1] rfl ?_
      refine Seq.rd0 at0 rfl rfl (O.eqI rfl rfl) ?_
      refine Seq.rd0 at1 rfl rfl (O.assign (v := .bool _) rfl) ?_
      refine Seq.nil ?_
      refine hK35 ?_
      refine Cd.if (xs[i].op = 0) rfl (fun t36 => ?_) (fun t36 => ?_)
      · skip
        refine Cd.seq (fun K37 hK37 => ?_)
        refine Cd.region [0, 1, 2, 3] rfl ?_
        refine Seq.rd0 at0 rfl rfl (O.move (v := .pointer _) (by exact s5)) ?_
        refine Seq.op at1 rfl (Op.callF rfl hb_62 (Fn.perm (C_So_Open (R := ((b16, _) :: []) ++ L) hS1) (bring (pre := ((b16, _) :: [])) (Ls := Ls1) (R := L))) rfl ?_)
        rintro _ _ ⟨ys, Lo, hpy, hoy, hoi, rfl⟩
        obtain ⟨av9, cap9, rfl⟩ := OwnSl.form hoi
        have hyl : ys.length = xl1.length := by rw [hpy.length_eq, List.length_map]
        refine Ent.sub ?_ (sub_app (G := Lo) (.refl _))
        refine Ent.perm ?_ (bring (Ls := Ls1) (pre := ((b16, _) :: [])) (R := L)).symm
        refine Seq.rd0 at2 rfl rfl (O.lenS ds_72 rfl) ?_
        refine Seq.rd0 at3 rfl rfl (O.lss rfl rfl) ?_
        refine Seq.nil ?_
        refine hK37 ?_
        refine Cd.if ((ys.length : Int) < 50) rfl (fun t38 => ?_) (fun t38 => ?_)
        · skip
          refine Cd.region [0, 1] rfl ?_
          refine Seq.rd0 at0 rfl rfl (O.move (v := .pointer _) (by exact s5)) ?_
          have hib : (Lit.int .i64 (bg1 + 1)).wf = true := wfI (by omega) (by omega)
          refine Seq.op at1 rfl (Op.callF rfl hb_53 (Fn.perm (C_So_Begin (R := ((b16, _) :: []) ++ L) (ti := ⟨bg1 + 1, hib⟩) hS1 rfl (by omega) (by omega)) (bring (pre := ((b16, _) :: [])) (Ls := Ls1) (R := L))) rfl ?_)
          rintro _ _ ⟨rfl, xbLsB, LsB, hSB, rfl⟩
          refine Ent.perm ?_ (bring (Ls := LsB) (pre := ((b16, _) :: [])) (R := L)).symm
          refine Seq.nil ?_
          refine hK13 ?_
          refine Cd.region [0, 1, 2] rfl ?_
          refine Seq.rd0 at0 rfl rfl (O.move (v := .int .i64 _) (by exact s8)) ?_
          refine Seq.rd0 at1 rfl rfl (O.add rfl rfl (by omega) (by omega)) ?_
          refine Seq.rd0 at2 rfl rfl (O.assign (v := .int .i64 _) rfl) ?_
          refine Seq.nil ?_
          refine Ent.drop ?_
          exact hK9 _ (by omega) ⟨i + 1, l1, (aput xl1 ⟨bg1 + 1, hib⟩ (xbLsB, (⟨la1, 0⟩, []))), (bg1 + 1), la1, LsB, rfl, (by exact s5), (by exact s6), (by exact s7), rfl, rfl, by omega, hSB, by exact Moves.begin xbLsB hM rfl (by simp only; omega), by have := aput_le (⟨bg1 + 1, hib⟩ : I64) (xbLsB, ((⟨la1, 0⟩ : Stamp), ([] : List (Key × Write)))) xl1; omega, by omega, by omega⟩
        · skip
          refine Cd.skip ?_
          refine hK13 ?_
          refine Cd.region [0, 1, 2] rfl ?_
          refine Seq.rd0 at0 rfl rfl (O.move (v := .int .i64 _) (by exact s8)) ?_
          refine Seq.rd0 at1 rfl rfl (O.add rfl rfl (by omega) (by omega)) ?_
          refine Seq.rd0 at2 rfl rfl (O.assign (v := .int .i64 _) rfl) ?_
          refine Seq.nil ?_
          refine Ent.drop ?_
          exact hK9 _ (by omega) ⟨i + 1, l1, xl1, bg1, la1, Ls1, rfl, (by exact s5), (by exact s6), (by exact s7), rfl, rfl, by omega, hS1, hM, hx1, by omega, by omega⟩
      · skip
        refine Cd.seq (fun K39 hK39 => ?_)
        refine Cd.region [0, 1] rfl ?_
        refine Seq.rd0 at0 rfl rfl (O.eqI rfl rfl) ?_
        refine Seq.rd0 at1 rfl rfl (O.assign (v := .bool _) rfl) ?_
        refine Seq.nil ?_
        refine hK39 ?_
        refine Cd.if (xs[i].op = 3) rfl (fun t40 => ?_) (fun t40 => ?_)
        · skip
          refine Cd.region [0, 1, 2, 3, 4, 5] rfl ?_
          refine Seq.rd0 at0 rfl rfl (O.move (v := .pointer _) (by exact s5)) ?_
          refine Seq.rd0 at1 rfl rfl (O.field fo_205_2 rfl) ?_
          refine Seq.rd1 at2 rfl rfl (O.load kd_2 rfl (SAct_id _)) Rd.head ?_
          refine Seq.rd0 at3 rfl rfl (O.field fo_205_3 rfl) ?_
          refine Seq.rd1 at4 rfl rfl (O.loadA kd_47 rfl (Nat.le_of_ble_eq_true rfl) (SAct_w _)) Rd.head ?_
          have hsk : ¬ ((⟨xs[i].id, hwf⟩ : I64).1 = nt ∧ 0 < nt) := by first | assumption | (rintro ⟨h1, h2⟩; first | exact absurd h1 (by assumption) | exact absurd h2 (by assumption) | omega)
          refine Seq.op at5 rfl (Op.callF rfl hb_54 (Fn.perm (C_So_Put (R := ((b16, _) :: []) ++ L) (ti := (⟨xs[i].id, hwf⟩ : I64)) (x := xs[i].w) hS1) (bring (pre := ((b16, _) :: [])) (Ls := Ls1) (R := L))) rfl ?_)
          rintro _ _ ⟨rfl, LsP, hSP, rfl⟩
          refine Ent.perm ?_ (bring (Ls := LsP) (pre := ((b16, _) :: [])) (R := L)).symm
          refine Seq.nil ?_
          refine hK13 ?_
          refine Cd.region [0, 1, 2] rfl ?_
          refine Seq.rd0 at0 rfl rfl (O.move (v := .int .i64 _) (by exact s8)) ?_
          refine Seq.rd0 at1 rfl rfl (O.add rfl rfl (by omega) (by omega)) ?_
          refine Seq.rd0 at2 rfl rfl (O.assign (v := .int .i64 _) rfl) ?_
          refine Seq.nil ?_
          refine Ent.drop ?_
          exact hK9 _ (by omega) ⟨i + 1, l1, (afterS xl1 (⟨xs[i].id, hwf⟩ : I64) xs[i].w), bg1, la1, LsP, rfl, (by exact s5), (by exact s6), (by exact s7), rfl, rfl, by omega, hSP, by exact Moves.put _ hM (by assumption), by rw [afterS_keys.2]; exact hx1, by omega, by omega⟩
        · skip
          refine Cd.seq (fun K41 hK41 => ?_)
          refine Cd.region [0, 1] rfl ?_
          refine Seq.rd0 at0 rfl rfl (O.eqI rfl rfl) ?_
          refine Seq.rd0 at1 rfl rfl (O.assign (v := .bool _) rfl) ?_
          refine Seq.nil ?_
          refine hK41 ?_
          refine Cd.if (xs[i].op = 4) rfl (fun t42 => ?_) (fun t42 => ?_)
          · skip
            refine Cd.region [0, 1, 2, 3] rfl ?_
            refine Seq.rd0 at0 rfl rfl (O.move (v := .pointer _) (by exact s5)) ?_
            refine Seq.rd0 at1 rfl rfl (O.field fo_205_2 rfl) ?_
            refine Seq.rd1 at2 rfl rfl (O.load kd_2 rfl (SAct_id _)) Rd.head ?_
            have hsk : ¬ ((⟨xs[i].id, hwf⟩ : I64).1 = nt ∧ 0 < nt) := by first | assumption | (rintro ⟨h1, h2⟩; first | exact absurd h1 (by assumption) | exact absurd h2 (by assumption) | omega)
            refine Seq.op at3 rfl (Op.callF rfl hb_56 (Fn.perm (C_So_Commit (R := ((b16, _) :: []) ++ L) (ti := (⟨xs[i].id, hwf⟩ : I64)) hS1 (by omega)) (bring (pre := ((b16, _) :: [])) (Ls := Ls1) (R := L))) rfl ?_)
            rintro _ _ ⟨rC, eC, lC, laC, LsC, rfl, hSC, hcomC, rfl⟩
            refine Ent.perm ?_ (bring (Ls := LsC) (pre := ((b16, _) :: [])) (R := L)).symm
            refine Seq.nil ?_
            refine hK13 ?_
            refine Cd.region [0, 1, 2] rfl ?_
            refine Seq.rd0 at0 rfl rfl (O.move (v := .int .i64 _) (by exact s8)) ?_
            refine Seq.rd0 at1 rfl rfl (O.add rfl rfl (by omega) (by omega)) ?_
            refine Seq.rd0 at2 rfl rfl (O.assign (v := .int .i64 _) rfl) ?_
            refine Seq.nil ?_
            refine Ent.drop ?_
            exact hK9 _ (by omega) ⟨i + 1, lC, (adel xl1 (⟨xs[i].id, hwf⟩ : I64)), bg1, laC, LsC, rfl, (by exact s5), (by exact s6), (by exact s7), rfl, rfl, by omega, hSC, by exact Moves.commit hM (by assumption) hcomC, Nat.le_trans (adel_sub _ _).length_le hx1, by omega, by have := com_la hcomC; omega⟩
          · skip
            refine Cd.seq (fun K43 hK43 => ?_)
            refine Cd.region [0, 1] rfl ?_
            refine Seq.rd0 at0 rfl rfl (O.eqI rfl rfl) ?_
            refine Seq.rd0 at1 rfl rfl (O.assign (v := .bool _) rfl) ?_
            refine Seq.nil ?_
            refine hK43 ?_
            refine Cd.if (xs[i].op = 5) rfl (fun t44 => ?_) (fun t44 => ?_)
            · skip
              refine Cd.region [0, 1, 2, 3] rfl ?_
              refine Seq.rd0 at0 rfl rfl (O.move (v := .pointer _) (by exact s5)) ?_
              refine Seq.rd0 at1 rfl rfl (O.field fo_205_2 rfl) ?_
              refine Seq.rd1 at2 rfl rfl (O.load kd_2 rfl (SAct_id _)) Rd.head ?_
              have hsk : ¬ ((⟨xs[i].id, hwf⟩ : I64).1 = nt ∧ 0 < nt) := by first | assumption | (rintro ⟨h1, h2⟩; first | exact absurd h1 (by assumption) | exact absurd h2 (by assumption) | omega)
              refine Seq.op at3 rfl (Op.callF rfl hb_130 (Fn.perm (C_So_Abort (R := ((b16, _) :: []) ++ L) (ti := (⟨xs[i].id, hwf⟩ : I64)) hS1) (bring (pre := ((b16, _) :: [])) (Ls := Ls1) (R := L))) rfl ?_)
              rintro _ _ ⟨rfl, LsA, hSA, rfl⟩
              refine Ent.perm ?_ (bring (Ls := LsA) (pre := ((b16, _) :: [])) (R := L)).symm
              refine Seq.nil ?_
              refine hK13 ?_
              refine Cd.region [0, 1, 2] rfl ?_
              refine Seq.rd0 at0 rfl rfl (O.move (v := .int .i64 _) (by exact s8)) ?_
              refine Seq.rd0 at1 rfl rfl (O.add rfl rfl (by omega) (by omega)) ?_
              refine Seq.rd0 at2 rfl rfl (O.assign (v := .int .i64 _) rfl) ?_
              refine Seq.nil ?_
              refine Ent.drop ?_
              exact hK9 _ (by omega) ⟨i + 1, l1, (adel xl1 (⟨xs[i].id, hwf⟩ : I64)), bg1, la1, LsA, rfl, (by exact s5), (by exact s6), (by exact s7), rfl, rfl, by omega, hSA, by exact Moves.abort hM (by assumption), Nat.le_trans (adel_sub _ _).length_le hx1, by omega, by omega⟩
            · skip
              refine Cd.seq (fun K45 hK45 => ?_)
              refine Cd.region [0, 1] rfl ?_
              refine Seq.rd0 at0 rfl rfl (O.eqI rfl rfl) ?_
              refine Seq.rd0 at1 rfl rfl (O.assign (v := .bool _) rfl) ?_
              refine Seq.nil ?_
              refine hK45 ?_
              refine Cd.if (xs[i].op = 6) rfl (fun t46 => ?_) (fun t46 => ?_)
              · skip
                refine Cd.region [0, 1] rfl ?_
                refine Seq.rd0 at0 rfl rfl (O.move (v := .pointer _) (by exact s5)) ?_
                refine Seq.op at1 rfl (Op.callF rfl hb_60 (Fn.perm (C_So_Trim (R := ((b16, _) :: []) ++ L) hS1) (bring (pre := ((b16, _) :: [])) (Ls := Ls1) (R := L))) rfl ?_)
                rintro _ _ ⟨s0, lt, LsT, hls, rfl, hST, htr, rfl⟩
                refine Ent.perm ?_ (bring (Ls := LsT) (pre := ((b16, _) :: [])) (R := L)).symm
                refine Seq.nil ?_
                refine hK13 ?_
                refine Cd.region [0, 1, 2] rfl ?_
                refine Seq.rd0 at0 rfl rfl (O.move (v := .int .i64 _) (by exact s8)) ?_
                refine Seq.rd0 at1 rfl rfl (O.add rfl rfl (by omega) (by omega)) ?_
                refine Seq.rd0 at2 rfl rfl (O.assign (v := .int .i64 _) rfl) ?_
                refine Seq.nil ?_
                refine Ent.drop ?_
                exact hK9 _ (by omega) ⟨i + 1, lt, xl1, bg1, la1, LsT, rfl, (by exact s5), (by exact s6), (by exact s7), rfl, rfl, by omega, hST, by exact Moves.trim hM hls htr, hx1, by omega, by omega⟩
              · skip
                refine Cd.skip ?_
                refine hK13 ?_
                refine Cd.region [0, 1, 2] rfl ?_
                refine Seq.rd0 at0 rfl rfl (O.move (v := .int .i64 _) (by exact s8)) ?_
                refine Seq.rd0 at1 rfl rfl (O.add rfl rfl (by omega) (by omega)) ?_
                refine Seq.rd0 at2 rfl rfl (O.assign (v := .int .i64 _) rfl) ?_
                refine Seq.nil ?_
                refine Ent.drop ?_
                exact hK9 _ (by omega) ⟨i + 1, l1, xl1, bg1, la1, Ls1, rfl, (by exact s5), (by exact s6), (by exact s7), rfl, rfl, by omega, hS1, hM, hx1, by omega, by omega⟩
  · skip
    refine Cd.exit ?_
    exact hR _ _ (Res.zero rfl) ⟨l1, xl1, bg1, la1, Ls1, hS1, hM, hx1, by omega, by omega, rfl⟩ (.refl _)

end Go.X

namespace Go.X
open Go.Proofs

/-! ## the document's 'may a key be' -/
theorem goodK_of {k : Key} {m : Nat} (h0 : 0 < m) (h16 : m ≤ 16) (h1 : ∀ j, j < m → k.l.getD j 0 ≠ 0) (h2 : ∀ j, m ≤ j → j < 16 → k.l.getD j 0 = 0) : goodK k = true := by
  have ht : textK k = k.l.take m := text_eq h16 h1 (by
    rcases Nat.lt_or_ge m 16 with h | h
    · exact .inr (h2 m (Nat.le_refl _) h)
    · exact .inl (by omega))
  have hl := k.h
  have hlen : (k.l.take m).length = m := by rw [List.length_take]; omega
  have hok : okT (textK k) = true := by
    rw [ht]
    unfold okT
    rw [decide_eq_true_eq]
    refine ⟨fun h => by rw [h] at hlen; simp at hlen; omega, by omega, fun hz => ?_⟩
    obtain ⟨j, hj, he⟩ := List.getElem_of_mem hz
    rw [hlen] at hj
    have := h1 j hj
    rw [List.getD_eq_getElem?_getD, List.getElem?_eq_getElem (by omega)] at this
    rw [List.getElem_take] at he
    exact this (by simpa using he)
  unfold goodK
  rw [hok, Bool.true_and, decide_eq_true_eq]
  unfold ofK
  rw [if_pos hok, ht]
  apply Key.ext'
  unfold padK
  rw [dif_pos (by omega)]
  show k.l.take m ++ List.replicate (16 - (k.l.take m).length) 0 = k.l
  have hd : k.l.drop m = List.replicate (16 - m) 0 := by
    rw [List.eq_replicate_iff]
    refine ⟨by rw [List.length_drop, hl], fun b hb => ?_⟩
    obtain ⟨j, hj, he⟩ := List.getElem_of_mem hb
    rw [List.length_drop] at hj
    have := h2 (m + j) (by omega) (by omega)
    rw [List.getD_eq_getElem?_getD, List.getElem?_eq_getElem (by omega)] at this
    rw [List.getElem_drop] at he
    rw [← he]; simpa using this
  rw [hlen, ← hd, List.take_append_drop]
theorem goodK_form {k : Key} (h : goodK k = true) : k.l.getD 0 0 ≠ 0 ∧ ∀ i j, i ≤ j → j < 16 → k.l.getD i 0 = 0 → k.l.getD j 0 = 0 := by
  unfold goodK at h
  rw [Bool.and_eq_true, decide_eq_true_eq] at h
  obtain ⟨hok, he⟩ := h
  unfold ofK at he
  rw [if_pos hok] at he
  unfold okT at hok
  rw [decide_eq_true_eq] at hok
  obtain ⟨h1, h2, h3⟩ := hok
  have hl : k.l = textK k ++ List.replicate (16 - (textK k).length) 0 := by
    have := congrArg Key.l he
    unfold padK at this
    rw [dif_pos h2] at this
    exact this.symm
  generalize textK k = t at *
  have hlt : ∀ j, j < t.length → k.l.getD j 0 ≠ 0 := fun j hj hz => by
    rw [hl, List.getD_eq_getElem?_getD, List.getElem?_append_left hj, List.getElem?_eq_getElem hj] at hz
    exact h3 (by simp only [Option.getD_some] at hz; rw [← hz]; exact List.getElem_mem hj)
  have hge : ∀ j, t.length ≤ j → k.l.getD j 0 = 0 := fun j hj => by
    rw [hl, List.getD_eq_getElem?_getD, List.getElem?_append_right hj]
    cases h9 : (List.replicate (16 - t.length) (0 : UInt8))[j - t.length]? with
    | none => rfl
    | some x =>
      have := List.mem_of_getElem? h9
      rw [List.mem_replicate] at this
      simp [this.2]
  refine ⟨hlt 0 ?_, fun i j hij hj hi => hge j ?_⟩
  · rcases t with _ | ⟨a, t⟩
    · exact absurd rfl h1
    · simp
  · rcases Nat.lt_or_ge i t.length with h | h
    · exact absurd hi (hlt i h)
    · omega

set_option maxRecDepth 100000 in
set_option maxHeartbeats 2000000 in
theorem C_ref_Good {c : Cx} {L : List Pt} {k : Key} : Fn Tryz.prog 55 #[.agg (Key_enc k)] c L (fun v L' => v = .bool (goodK k) ∧ L' = L) := by
  refine Fn.enter Tryz.func55 rfl 17 rfl rfl (fun R hR => ?_)
  refine Cd.seq (fun K1 hK1 => ?_)
  refine Cd.region [0, 1] rfl ?_
  refine Seq.op at0 rfl (Op.new rfl (O.box (v := .agg _) rfl (cs := (Key_enc k)) rfl) ?_)
  intro b2 hb2
  refine Seq.rd0 at1 rfl rfl (O.assign (v := .bool _) rfl) ?_
  refine Seq.nil ?_
  refine hK1 ?_
  refine Cd.seq (fun K3 hK3 => ?_)
  refine Cd.region [0] rfl ?_
  refine Seq.rd0 at0 rfl rfl (O.assign (v := .bool _) rfl) ?_
  refine Seq.nil ?_
  refine hK3 ?_
  refine Cd.seq (fun K4 hK4 => ?_)
  refine Cd.seq (fun K5 hK5 => ?_)
  refine Cd.region [0] rfl ?_
  refine Seq.rd0 at0 rfl rfl (O.assign (v := .int .i64 _) rfl) ?_
  refine Seq.nil ?_
  refine hK5 ?_
  refine Cd.block ?_
  refine Cd.loop (fun m6 e7 L8 => ∃ i : Nat, ∃ m : Nat, ∃ en : Bool, m6 = 16 - i ∧ e7 1 = .pointer (some ⟨b2, 0, none⟩) ∧ e7 3 = .bool en ∧ e7 4 = .int .i64 (i : Int) ∧ L8 = (b2, .cells (Key_enc k) 45 (0, 0)) :: L ∧ i ≤ 16 ∧ m ≤ i ∧ en = decide (m < i) ∧ (∀ j, j < m → k.l.getD j 0 ≠ 0) ∧ (∀ j, m ≤ j → j < i → k.l.getD j 0 = 0)) _ ⟨0, 0, false, rfl, rfl, rfl, rfl, rfl, Nat.zero_le _, Nat.le_refl _, rfl, fun j hj => absurd hj (Nat.not_lt_zero j), fun j hj hj2 => absurd hj2 (Nat.not_lt_zero j)⟩ ?_
  rintro _ e7 _ ⟨i, m, en, rfl, s9, s10, s11, rfl, hi, hm, hen, hz, hy⟩ K12 hK12
  refine Cd.seq (fun K13 hK13 => ?_)
  refine Cd.seq (fun K14 hK14 => ?_)
  refine Cd.region [0, 1] rfl ?_
  refine Seq.rd0 at0 rfl rfl (O.move (v := .int .i64 _) (by exact s11)) ?_
  refine Seq.rd0 at1 rfl rfl (O.lss rfl rfl) ?_
  refine Seq.nil ?_
  refine hK14 ?_
  refine Cd.if ((i : Int) < 16) rfl (fun t15 => ?_) (fun t15 => ?_)
  · skip
    refine Cd.skip ?_
    refine hK13 ?_
    refine Cd.seq (fun K16 hK16 => ?_)
    refine Cd.block ?_
    refine Cd.seq (fun K17 hK17 => ?_)
    refine Cd.region [0, 1, 2, 3] rfl ?_
    refine Seq.rd0 at0 rfl rfl (O.move (v := .int .i64 _) (by exact s11)) ?_
    refine Seq.rd0 at1 rfl rfl (O.indexA ar_45 (by exact s9) rfl (by omega) (by omega)) ?_
    refine Seq.rd1 at2 rfl rfl (O.load kd_5 rfl (Key_idx (by omega))) Rd.head ?_
    refine Seq.rd0 at3 rfl rfl (O.eqI rfl rfl) ?_
    refine Seq.nil ?_
    refine hK17 ?_
    refine Cd.if (((k.l.getD i 0).toNat : Int) = 0) rfl (fun t18 => ?_) (fun t18 => ?_)
    · skip
      refine Cd.region [0] rfl ?_
      refine Seq.rd0 at0 rfl rfl (O.assign (v := .bool _) rfl) ?_
      refine Seq.nil ?_
      refine hK16 ?_
      refine Cd.region [0, 1, 2] rfl ?_
      refine Seq.rd0 at0 rfl rfl (O.move (v := .int .i64 _) (by exact s11)) ?_
      refine Seq.rd0 at1 rfl rfl (O.add rfl rfl (by omega) (by omega)) ?_
      refine Seq.rd0 at2 rfl rfl (O.assign (v := .int .i64 _) rfl) ?_
      refine Seq.nil ?_
      exact hK12 _ (by omega) ⟨i + 1, m, true, rfl, (by exact s9), rfl, rfl, rfl, by omega, by omega, by simp; omega, hz, fun j hj hj2 => by
        rcases Nat.lt_or_ge j i with h | h
        · exact hy j hj h
        · rw [show j = i by omega]; exact u8_zero (by assumption)⟩
    · skip
      refine Cd.seq (fun K19 hK19 => ?_)
      refine Cd.region [0] rfl ?_
      refine Seq.rd0 at0 rfl rfl (O.move (v := .bool _) (by exact s10)) ?_
      refine Seq.nil ?_
      refine hK19 ?_
      refine Cd.cond (en) rfl (fun t20 => ?_) (fun t20 => ?_)
      · skip
        refine Cd.seq (fun K21 hK21 => ?_)
        refine Cd.region [0] rfl ?_
        refine Seq.rd0 at0 rfl rfl (O.assign (v := .bool _) rfl) ?_
        refine Seq.nil ?_
        refine hK21 ?_
        refine Cd.ret ?_
        have hg : goodK k = false := by
          rw [Bool.eq_false_iff]; intro hg
          have h9 := (goodK_form hg).2 m i (by omega) (by omega)
          have hmi : m < i := by simp_all
          exact (u8_ne (by assumption)) (h9 (hy m (Nat.le_refl _) hmi))
        exact hR _ _ (Res.one (v := .bool _) rfl rfl) ⟨by rw [hg], rfl⟩ (.cons _ (.refl _))
      · skip
        refine Cd.skip ?_
        refine hK16 ?_
        refine Cd.region [0, 1, 2] rfl ?_
        refine Seq.rd0 at0 rfl rfl (O.move (v := .int .i64 _) (by exact s11)) ?_
        refine Seq.rd0 at1 rfl rfl (O.add rfl rfl (by omega) (by omega)) ?_
        refine Seq.rd0 at2 rfl rfl (O.assign (v := .int .i64 _) rfl) ?_
        refine Seq.nil ?_
        have hef : en = false := by assumption
        have hmi : m = i := by rw [hef] at hen; have := of_decide_eq_false hen.symm; omega
        exact hK12 _ (by omega) ⟨i + 1, (i + 1), en, rfl, (by exact s9), (by exact s10), rfl, rfl, by omega, by omega, by rw [hef]; simp, fun j hj => by
          rcases Nat.lt_or_ge j i with h | h
          · exact hz j (by omega)
          · rw [show j = i by omega]; exact u8_ne (by assumption), fun j hj hj2 => absurd hj2 (by omega)⟩
  · skip
    refine Cd.exit ?_
    refine hK4 ?_
    refine Cd.seq (fun K22 hK22 => ?_)
    refine Cd.region [0, 1, 2, 3] rfl ?_
    refine Seq.rd0 at0 rfl rfl (O.indexA ar_45 (by exact s9) rfl (by omega) (by omega)) ?_
    refine Seq.rd1 at1 rfl rfl (O.load kd_5 rfl (Key_idx (i := 0) (by omega))) Rd.head ?_
    refine Seq.rd0 at2 rfl rfl (O.neI rfl rfl) ?_
    refine Seq.rd0 at3 rfl rfl (O.assign (v := .bool _) rfl) ?_
    refine Seq.nil ?_
    refine hK22 ?_
    refine Cd.ret ?_
    have hg : goodK k = !decide (((k.l.getD 0 0).toNat : Int) = 0) := by
      have hi16 : i = 16 := by omega
      subst hi16
      by_cases h0 : ((k.l.getD 0 0).toNat : Int) = 0
      · rw [decide_eq_true h0, Bool.not_true, Bool.eq_false_iff]; intro hg; exact (goodK_form hg).1 (u8_zero h0)
      · rw [decide_eq_false h0, Bool.not_false]
        refine goodK_of (m := m) ?_ hm hz hy
        rcases Nat.eq_zero_or_pos m with h | h
        · exact absurd (hy 0 (by omega) (by omega)) (u8_ne h0)
        · exact h
    exact hR _ _ (Res.one (v := .bool _) rfl rfl) ⟨by rw [hg], rfl⟩ (.cons _ (.refl _))

set_option maxRecDepth 100000 in
set_option maxHeartbeats 2000000 in
theorem C_law23_k {c : Cx} {L : List Pt} {l : List UInt8} (hok : okT l = true) : Fn Tryz.prog 57 #[.string ⟨l.toArray⟩] c L (fun v L' => v = .agg (Key_enc (padK l)) ∧ L' = L) := by
  refine Fn.enter Tryz.func57 rfl 11 rfl rfl (fun R hR => ?_)
  refine Cd.seq (fun K1 hK1 => ?_)
  refine Cd.region [0] rfl ?_
  refine Seq.op at0 rfl (Op.new rfl (O.alloc zo_45 (cs := (Key_enc Key.zero)) rfl) ?_)
  intro b2 hb2
  refine Seq.nil ?_
  refine hK1 ?_
  refine Cd.seq (fun K3 hK3 => ?_)
  refine Cd.region [0, 1, 2, 3, 4, 5, 6, 7] rfl ?_
  refine Seq.rd0 at0 rfl rfl (O.move (v := .string _) rfl) ?_
  refine Seq.op at1 rfl (Op.callF rfl hb_103 (C_ref_Of (l := l) hok) rfl ?_)
  rintro _ _ ⟨rfl, rfl⟩
  refine Seq.rd0 at2 rfl rfl (O.move (v := .tuple _) rfl) ?_
  refine Seq.rd0 at3 rfl rfl (O.ext rfl r2_0) ?_
  refine Seq.rd0 at4 rfl rfl (O.ext rfl r2_1) ?_
  refine Seq.op at5 rfl (Op.new rfl (O.alloc zo_45 (cs := (Key_enc Key.zero)) rfl) ?_)
  intro b4 hb4
  refine Seq.op at6 rfl (Op.set0 rfl (O.store kd_45 rfl (v := .agg _) rfl (Key_size _) (Key_room (Key_size _)) (Key_one _) (Key_put _ (Key_size _))) ?_)
  refine Seq.rd0 at7 rfl rfl (O.assign (v := .bool _) rfl) ?_
  refine Seq.nil ?_
  refine hK3 ?_
  refine Cd.seq (fun K5 hK5 => ?_)
  refine Cd.region [0, 1] rfl ?_
  refine Seq.rd1 at0 rfl rfl (O.loadA kd_45 rfl (Nat.le_of_ble_eq_true rfl) (Key_all _)) Rd.head ?_
  refine Seq.op at1 rfl (Op.set1 rfl (O.store kd_45 rfl (v := .agg _) rfl (Key_size _) (Key_room (Key_size _)) (Key_one _) (Key_put _ (Key_size _))) ?_)
  refine Seq.nil ?_
  refine hK5 ?_
  refine Cd.ret ?_
  exact hR _ _ (Res.cell (out := #[]) rfl kd_45 rfl  Rd.head.cons rfl) ⟨rfl, rfl⟩ (.cons _ (.cons _ (.refl _)))

end Go.X

namespace Go.X
open Go.Proofs
theorem ds_97 : isDesc Tryz.prog 97 = 4 := by kernel_rfl
theorem hb_51 : hasBody Tryz.prog 51 = true := by kernel_rfl
theorem hb_57 : hasBody Tryz.prog 57 = true := by kernel_rfl
theorem hb_63 : hasBody Tryz.prog 63 = true := by kernel_rfl
/-! ## two that put one key -/
def i2 : I64 := ⟨2, by decide⟩
def kX : Key := padK [120]
theorem okX : okT [120] = true := by rfl
def wX1 : Write := ⟨kX, ⟨#[49]⟩, false⟩
def wX2 : Write := ⟨kX, ⟨#[50]⟩, false⟩
def vX1 : Version := ⟨⟨1, 0⟩, ⟨#[49]⟩, false⟩
def s00 : Stamp := ⟨0, 0⟩
theorem aw23_1 {xa xb : Nat} : aput [(i1, ((xa, (s00, [])) : TX))] i2 (xb, (s00, [])) = [(i1, (xa, (s00, []))), (i2, (xb, (s00, [])))] := by kernel_rfl
theorem aw23_2 {xa xb : Nat} : putS [(i1, ((xa, (s00, [])) : TX)), (i2, (xb, (s00, [])))] i1 wX1 = 0 ∧ afterS [(i1, ((xa, (s00, [])) : TX)), (i2, (xb, (s00, [])))] i1 wX1 = [(i1, (xa, (s00, [(kX, wX1)]))), (i2, (xb, (s00, [])))] := ⟨by kernel_rfl, by kernel_rfl⟩
theorem aw23_3 {xa xb : Nat} : putS [(i1, ((xa, (s00, [(kX, wX1)])) : TX)), (i2, (xb, (s00, [])))] i2 wX2 = 0 ∧ afterS [(i1, ((xa, (s00, [(kX, wX1)])) : TX)), (i2, (xb, (s00, [])))] i2 wX2 = [(i1, (xa, (s00, [(kX, wX1)]))), (i2, (xb, (s00, [(kX, wX2)])))] := ⟨by kernel_rfl, by kernel_rfl⟩
theorem aw23_4 {xa xb : Nat} : alook [(i1, ((xa, (s00, [(kX, wX1)])) : TX)), (i2, (xb, (s00, [(kX, wX2)])))] i1 = some (xa, (s00, [(kX, wX1)])) ∧ adel [(i1, ((xa, (s00, [(kX, wX1)])) : TX)), (i2, (xb, (s00, [(kX, wX2)])))] i1 = [(i2, (xb, (s00, [(kX, wX2)])))] := ⟨by kernel_rfl, by kernel_rfl⟩
theorem aw23_5 {xb : Nat} : alook [(i2, ((xb, (s00, [(kX, wX2)])) : TX))] i2 = some (xb, (s00, [(kX, wX2)])) ∧ adel [(i2, ((xb, (s00, [(kX, wX2)])) : TX))] i2 = [] := ⟨by kernel_rfl, by kernel_rfl⟩
theorem ComX.one {l l' : List (Key × CV)} {la la' e : Int} {s r : Stamp} {k : Key} {w : Write} (h : ComX l la s [(k, w)] r e l' la') (hn : conK l s k = false) (ha : applyE l ⟨la + 1, 0⟩ [w] = 0) :
    r = ⟨la + 1, 0⟩ ∧ e = 0 ∧ la' = la + 1 ∧ ∃ cb, l' = aput l w.key (cb, afterPut (getS l w.key) ⟨⟨la + 1, 0⟩, w.val, w.gone⟩) := by
  rcases h with ⟨h, _⟩ | ⟨_, ⟨q, hq, h⟩, _⟩ | ⟨_, _, ys, hp, _, he, _, h0⟩
  · cases h
  · rw [List.mem_singleton.1 hq, hn] at h; cases h
  · have hy : ys = [w] := List.perm_singleton.1 (by simpa using hp)
    subst hy
    rw [ha] at he
    obtain ⟨h1, h2, h3⟩ := h0 he
    exact ⟨h1, he, h2, h3.one⟩
theorem ComX.con {l l' : List (Key × CV)} {la la' e : Int} {s r : Stamp} {k : Key} {w : Write} {ws : List (Key × Write)} (h : ComX l la s ws r e l' la') (hm : (k, w) ∈ ws) (hn : conK l s k = true) : r = .zero ∧ e = 9 ∧ l' = l ∧ la' = la := by
  rcases h with ⟨h, _⟩ | ⟨_, _, h⟩ | ⟨_, h, _⟩
  · subst h; cases hm
  · exact h
  · have := h _ hm; rw [hn] at this; cases this
theorem ComX.none {l l' : List (Key × CV)} {la la' e : Int} {s r : Stamp} (h : ComX l la s [] r e l' la') : r = ⟨la, 0⟩ ∧ e = 0 ∧ l' = l ∧ la' = la := by
  rcases h with ⟨_, h⟩ | ⟨h, _⟩ | ⟨h, _⟩
  · exact h
  · exact absurd rfl h
  · exact absurd rfl h
theorem aw23_6 : conK [] s00 kX = false ∧ applyE [] ⟨0 + 1, 0⟩ [wX1] = 0 := ⟨by kernel_rfl, by kernel_rfl⟩
theorem aw23_7 {cb : Nat} : aput [] wX1.key (cb, afterPut (getS [] wX1.key) ⟨⟨0 + 1, 0⟩, wX1.val, wX1.gone⟩) = [(kX, ((cb, [vX1]) : CV))] := by kernel_rfl
theorem aw23_8 {cb : Nat} : conK [(kX, ((cb, [vX1]) : CV))] s00 kX = true := by kernel_rfl

set_option maxRecDepth 100000 in
set_option maxHeartbeats 2000000 in
theorem C_awake23 {c : Cx} {L : List Pt}  : Fn Tryz.prog 50 #[] c L (fun v L' => v = .bool true ∧ L' = L) := by
  refine Fn.enter Tryz.func50 rfl 69 rfl rfl (fun R hR => ?_)
  refine Cd.seq (fun K1 hK1 => ?_)
  refine Cd.region [0] rfl ?_
  refine Seq.rd0 at0 rfl rfl (O.assign (v := .bool _) rfl) ?_
  refine Seq.nil ?_
  refine hK1 ?_
  refine Cd.seq (fun K2 hK2 => ?_)
  refine Cd.region [0, 1] rfl ?_
  refine Seq.op at0 rfl (Op.callF rfl hb_51 C_solo_New2 rfl ?_)
  rintro _ _ ⟨p, Ls0, rfl, hS0, rfl⟩
  refine Seq.rd0 at1 rfl rfl (O.assign (v := .pointer _) rfl) ?_
  refine Seq.nil ?_
  refine hK2 ?_
  refine Cd.seq (fun K3 hK3 => ?_)
  refine Cd.seq (fun K4 hK4 => ?_)
  refine Cd.region [0, 1] rfl ?_
  refine Seq.rd0 at0 rfl rfl (O.move (v := .pointer _) rfl) ?_
  refine Seq.rd0 at1 rfl rfl (O.eqNil ds_97 rfl rfl) ?_
  refine Seq.nil ?_
  refine hK4 ?_
  refine Cd.condF rfl ?_
  refine Cd.skip ?_
  refine hK3 ?_
  refine Cd.seq (fun K5 hK5 => ?_)
  refine Cd.region [0, 1, 2, 3, 4, 5, 6] rfl ?_
  refine Seq.rd0 at0 rfl rfl (O.move (v := .pointer _) rfl) ?_
  refine Seq.op at1 rfl (Op.callF rfl hb_53 (Fn.perm (C_So_Begin (R := ([]) ++ L) (ti := i1) hS0 rfl (by decide) (by decide)) (bring (pre := ([])) (Ls := Ls0) (R := L))) rfl ?_)
  rintro _ _ ⟨rfl, xa, Ls1, hS1, rfl⟩
  have hS1 : SoOwn p [] [(i1, (xa, (s00, [])))] 1 0 Ls1 := hS1
  rw [show (0 : Int) + 1 = 1 from rfl]
  refine Ent.perm ?_ (bring (Ls := Ls1) (pre := ([])) (R := L)).symm
  refine Seq.rd0 at2 rfl rfl (O.move (v := .tuple _) rfl) ?_
  refine Seq.rd0 at3 rfl rfl (O.ext rfl r2_0) ?_
  refine Seq.rd0 at4 rfl rfl (O.ext rfl r2_1) ?_
  refine Seq.rd0 at5 rfl rfl (O.assign (v := .int .i64 _) rfl) ?_
  refine Seq.rd0 at6 rfl rfl (O.assign (v := .int .i64 _) rfl) ?_
  refine Seq.nil ?_
  refine hK5 ?_
  refine Cd.seq (fun K6 hK6 => ?_)
  refine Cd.region [0, 1, 2, 3, 4, 5, 6] rfl ?_
  refine Seq.rd0 at0 rfl rfl (O.move (v := .pointer _) rfl) ?_
  refine Seq.op at1 rfl (Op.callF rfl hb_53 (Fn.perm (C_So_Begin (R := ([]) ++ L) (ti := i2) hS1 rfl (by simp) (by decide)) (bring (pre := ([])) (Ls := Ls1) (R := L))) rfl ?_)
  rintro _ _ ⟨rfl, xb, Ls2, hS2, rfl⟩
  rw [show (⟨0, 0⟩ : Stamp) = s00 from rfl, aw23_1] at hS2
  have hS2 : SoOwn p [] [(i1, (xa, (s00, []))), (i2, (xb, (s00, [])))] 2 0 Ls2 := hS2
  rw [show (1 : Int) + 1 = 2 from rfl]
  refine Ent.perm ?_ (bring (Ls := Ls2) (pre := ([])) (R := L)).symm
  refine Seq.rd0 at2 rfl rfl (O.move (v := .tuple _) rfl) ?_
  refine Seq.rd0 at3 rfl rfl (O.ext rfl r2_0) ?_
  refine Seq.rd0 at4 rfl rfl (O.ext rfl r2_1) ?_
  refine Seq.rd0 at5 rfl rfl (O.assign (v := .int .i64 _) rfl) ?_
  refine Seq.rd0 at6 rfl rfl (O.assign (v := .int .i64 _) rfl) ?_
  refine Seq.nil ?_
  refine hK6 ?_
  refine Cd.seq (fun K7 hK7 => ?_)
  refine Cd.region [0, 1, 2, 3, 4] rfl ?_
  refine Seq.rd0 at0 rfl rfl (O.move (v := .pointer _) rfl) ?_
  refine Seq.rd0 at1 rfl rfl (O.move (v := .int .i64 _) rfl) ?_
  refine Seq.op at2 rfl (Op.callF rfl hb_57 (C_law23_k (l := [120]) okX) rfl ?_)
  rintro _ _ ⟨rfl, rfl⟩
  refine Seq.rd0 at3 rfl rfl (O.build rfl (cs := (Write_enc (⟨kX, (⟨#[49]⟩ : ByteArray), false⟩ : Write))) (by kernel_rfl)) ?_
  refine Seq.op at4 rfl (Op.callF rfl hb_54 (Fn.perm (C_So_Put (R := ([]) ++ L) (ti := i1) (x := wX1) hS2) (bring (pre := ([])) (Ls := Ls2) (R := L))) rfl ?_)
  rintro _ _ ⟨rfl, Ls3, hS3, rfl⟩
  rw [aw23_2.2] at hS3
  rw [aw23_2.1]
  refine Ent.perm ?_ (bring (Ls := Ls3) (pre := ([])) (R := L)).symm
  refine Seq.nil ?_
  refine hK7 ?_
  refine Cd.seq (fun K8 hK8 => ?_)
  refine Cd.region [0, 1, 2, 3, 4] rfl ?_
  refine Seq.rd0 at0 rfl rfl (O.move (v := .pointer _) rfl) ?_
  refine Seq.rd0 at1 rfl rfl (O.move (v := .int .i64 _) rfl) ?_
  refine Seq.op at2 rfl (Op.callF rfl hb_57 (C_law23_k (l := [120]) okX) rfl ?_)
  rintro _ _ ⟨rfl, rfl⟩
  refine Seq.rd0 at3 rfl rfl (O.build rfl (cs := (Write_enc (⟨kX, (⟨#[50]⟩ : ByteArray), false⟩ : Write))) (by kernel_rfl)) ?_
  refine Seq.op at4 rfl (Op.callF rfl hb_54 (Fn.perm (C_So_Put (R := ([]) ++ L) (ti := i2) (x := wX2) hS3) (bring (pre := ([])) (Ls := Ls3) (R := L))) rfl ?_)
  rintro _ _ ⟨rfl, Ls4, hS4, rfl⟩
  rw [aw23_3.2] at hS4
  rw [aw23_3.1]
  refine Ent.perm ?_ (bring (Ls := Ls4) (pre := ([])) (R := L)).symm
  refine Seq.nil ?_
  refine hK8 ?_
  refine Cd.seq (fun K9 hK9 => ?_)
  refine Cd.region [0, 1, 2, 3, 4, 5, 6, 7, 8] rfl ?_
  refine Seq.rd0 at0 rfl rfl (O.move (v := .pointer _) rfl) ?_
  refine Seq.rd0 at1 rfl rfl (O.move (v := .int .i64 _) rfl) ?_
  refine Seq.op at2 rfl (Op.callF rfl hb_56 (Fn.perm (C_So_Commit (R := ([]) ++ L) (ti := i1) hS4 (by decide)) (bring (pre := ([])) (Ls := Ls4) (R := L))) rfl ?_)
  rintro _ _ ⟨r1, e1, l1, la1, Ls5, rfl, hS5, hc1, rfl⟩
  rw [aw23_4.1] at hc1
  rw [aw23_4.2] at hS5
  obtain ⟨rfl, rfl, rfl, cb, rfl⟩ := ComX.one hc1 aw23_6.1 aw23_6.2
  rw [aw23_7] at hS5
  have hS5 : SoOwn p [(kX, (cb, [vX1]))] [(i2, (xb, (s00, [(kX, wX2)])))] 2 1 Ls5 := hS5
  rw [show (0 : Int) + 1 = 1 from rfl]
  refine Ent.perm ?_ (bring (Ls := Ls5) (pre := ([])) (R := L)).symm
  refine Seq.rd0 at3 rfl rfl (O.move (v := .tuple _) rfl) ?_
  refine Seq.rd0 at4 rfl rfl (O.ext rfl r2_0) ?_
  refine Seq.rd0 at5 rfl rfl (O.ext rfl r2_1) ?_
  refine Seq.op at6 rfl (Op.new rfl (O.alloc zo_24 (cs := (Stamp_enc Stamp.zero)) rfl) ?_)
  intro b10 hb10
  refine Seq.op at7 rfl (Op.set0 rfl (O.store kd_24 rfl (v := .agg _) rfl (Stamp_size _) (Stamp_room (Stamp_size _)) (Stamp_one _) (Stamp_put _ (Stamp_size _))) ?_)
  refine Seq.rd0 at8 rfl rfl (O.assign (v := .int .i64 _) rfl) ?_
  refine Seq.nil ?_
  refine hK9 ?_
  refine Cd.seq (fun K11 hK11 => ?_)
  refine Cd.region [0, 1, 2, 3, 4, 5, 6, 7, 8] rfl ?_
  refine Seq.rd0 at0 rfl rfl (O.move (v := .pointer _) rfl) ?_
  refine Seq.rd0 at1 rfl rfl (O.move (v := .int .i64 _) rfl) ?_
  refine Seq.op at2 rfl (Op.callF rfl hb_56 (Fn.perm (C_So_Commit (R := ((b10, _) :: []) ++ L) (ti := i2) hS5 (by decide)) (bring (pre := ((b10, _) :: [])) (Ls := Ls5) (R := L))) rfl ?_)
  rintro _ _ ⟨r2, e2, l2, la2, Ls6, rfl, hS6, hc2, rfl⟩
  rw [aw23_5.1] at hc2
  rw [aw23_5.2] at hS6
  obtain ⟨rfl, rfl, rfl, rfl⟩ := ComX.con hc2 (List.mem_cons_self) aw23_8
  refine Ent.perm ?_ (bring (Ls := Ls6) (pre := ((b10, _) :: [])) (R := L)).symm
  refine Seq.rd0 at3 rfl rfl (O.move (v := .tuple _) rfl) ?_
  refine Seq.rd0 at4 rfl rfl (O.ext rfl r2_0) ?_
  refine Seq.rd0 at5 rfl rfl (O.ext rfl r2_1) ?_
  refine Seq.op at6 rfl (Op.new rfl (O.alloc zo_24 (cs := (Stamp_enc Stamp.zero)) rfl) ?_)
  intro b12 hb12
  refine Seq.op at7 rfl (Op.set0 rfl (O.store kd_24 rfl (v := .agg _) rfl (Stamp_size _) (Stamp_room (Stamp_size _)) (Stamp_one _) (Stamp_put _ (Stamp_size _))) ?_)
  refine Seq.rd0 at8 rfl rfl (O.assign (v := .int .i64 _) rfl) ?_
  refine Seq.nil ?_
  refine hK11 ?_
  refine Cd.seq (fun K13 hK13 => ?_)
  refine Cd.region [0, 1, 2, 3, 4, 5, 6, 7, 8, 9, 10, 11, 12, 13, 14, 15, 16, 17, 18, 19, 20, 21, 22, 23, 24] rfl ?_
  refine Seq.rd0 at0 rfl rfl (O.move (v := .int .i64 _) rfl) ?_
  refine Seq.rd0 at1 rfl rfl (O.eqI rfl rfl) ?_
  refine Seq.rd0 at2 rfl rfl (O.move (v := .bool _) rfl) ?_
  have t14 : (1 : Int) = 1 := rfl
  rw [decide_eq_true t14]
  refine Seq.rd0 at3 rfl rfl (O.move (v := .int .i64 _) rfl) ?_
  refine Seq.rd0 at4 rfl rfl (O.eqI rfl rfl) ?_
  refine Seq.rd0 at5 rfl rfl (O.pickT (v := .bool _) rfl rfl) ?_
  refine Seq.rd0 at6 rfl rfl (O.move (v := .bool _) rfl) ?_
  have t15 : (2 : Int) = 2 := rfl
  rw [decide_eq_true t15]
  refine Seq.rd0 at7 rfl rfl (O.move (v := .int .i64 _) rfl) ?_
  refine Seq.rd0 at8 rfl rfl (O.eqI rfl rfl) ?_
  refine Seq.rd0 at9 rfl rfl (O.pickT (v := .bool _) rfl rfl) ?_
  refine Seq.rd0 at10 rfl rfl (O.move (v := .bool _) rfl) ?_
  have t16 : (0 : Int) = 0 := rfl
  rw [decide_eq_true t16]
  refine Seq.rd1 at11 rfl rfl (O.loadA kd_24 rfl (Nat.le_of_ble_eq_true rfl) (Stamp_all _)) Rd.head.cons ?_
  refine Seq.rd0 at12 rfl rfl (O.build rfl (cs := (Stamp_enc (⟨1, 0⟩ : Stamp))) (by kernel_rfl)) ?_
  refine Seq.rd0 at13 rfl rfl (eqStamp rfl rfl) ?_
  refine Seq.rd0 at14 rfl rfl (O.pickT (v := .bool _) rfl rfl) ?_
  refine Seq.rd0 at15 rfl rfl (O.move (v := .bool _) rfl) ?_
  have t17 : (⟨1, 0⟩ : Stamp) = (⟨1, 0⟩ : Stamp) := rfl
  rw [decide_eq_true t17]
  refine Seq.rd0 at16 rfl rfl (O.move (v := .int .i64 _) rfl) ?_
  refine Seq.rd0 at17 rfl rfl (O.eqI rfl rfl) ?_
  refine Seq.rd0 at18 rfl rfl (O.pickT (v := .bool _) rfl rfl) ?_
  refine Seq.rd0 at19 rfl rfl (O.move (v := .bool _) rfl) ?_
  have t18 : (9 : Int) = 9 := rfl
  rw [decide_eq_true t18]
  refine Seq.rd0 at20 rfl rfl (O.move (v := .pointer _) rfl) ?_
  refine Seq.op at21 rfl (Op.callF rfl hb_63 (Fn.perm (C_So_Last (R := ((b12, _) :: (b10, _) :: []) ++ L) hS6) (bring (pre := ((b12, _) :: (b10, _) :: [])) (Ls := Ls6) (R := L))) rfl ?_)
  rintro _ _ ⟨rfl, rfl⟩
  refine Ent.perm ?_ (bring (Ls := Ls6) (pre := ((b12, _) :: (b10, _) :: [])) (R := L)).symm
  refine Seq.rd0 at22 rfl rfl (O.eqI rfl rfl) ?_
  refine Seq.rd0 at23 rfl rfl (O.pickT (v := .bool _) rfl rfl) ?_
  refine Seq.rd0 at24 rfl rfl (O.assign (v := .bool _) rfl) ?_
  refine Seq.nil ?_
  refine hK13 ?_
  refine Cd.ret ?_
  exact hR _ _ (Res.one (v := .bool _) rfl rfl) ⟨rfl, rfl⟩ (.cons _ (.cons _ (sub_app (G := Ls6) (.refl _))))

end Go.X

/- Plain laws of solo: what two commits answer. -/
namespace Go.X
/-! ## versions behind a commit -/
theorem afterPut_mem {vs : List Version} {x v : Version} (h : v ∈ afterPut vs x) : v = x ∨ v ∈ vs := by
  unfold afterPut at h
  split at h
  · exact putV_mem.1 h
  · exact .inr h
theorem AppS.mem {s : Stamp} {l : List (Key × CV)} {ws : List Write} {l' : List (Key × CV)} (h : AppS s l ws l') {k : Key} {v : Version} (hv : v ∈ getS l' k) : v.stamp = s ∨ v ∈ getS l k := by
  induction h with
  | nil => exact .inr hv
  | snoc h ih =>
    rw [getS_put] at hv
    split at hv
    · rename_i he; subst he
      rcases afterPut_mem hv with h | h
      · exact .inl (by rw [h])
      · exact ih h
    · exact ih hv
/-- the times of a store's versions are not above -/
def Top (l : List (Key × CV)) (la : Int) : Prop := ∀ k, ∀ v ∈ getS l k, ¬ (⟨la, 0⟩ : Stamp).lt v.stamp
theorem lt_time {a b : Int} (h : a < b) : (⟨a, 0⟩ : Stamp).lt ⟨b, 0⟩ := .inl h
theorem Stamp.le_lt {a b c : Stamp} (h : ¬ b.lt a) (k : b.lt c) : a.lt c := by
  rcases Stamp.lt_total a b with h1 | h1 | h1
  · exact Stamp.lt_trans h1 k
  · rw [h1]; exact k
  · exact absurd h1 h
theorem Top.com {l l' : List (Key × CV)} {la la' e : Int} {s r : Stamp} {ws : List (Key × Write)} (hT : Top l la) (h : ComX l la s ws r e l' la') : Top l' la' := by
  rcases h with ⟨_, _, _, rfl, rfl⟩ | ⟨_, _, _, _, rfl, rfl⟩ | ⟨_, _, ys, _, _, _, h9, h10⟩
  · exact hT
  · exact hT
  · by_cases he : e = 0
    · obtain ⟨_, rfl, hA⟩ := h10 he
      intro k v hv
      rcases hA.mem hv with h | h
      · rw [h]; exact Stamp.lt_irrefl _
      · intro h1
        exact hT k v h (Stamp.lt_trans (lt_time (by omega)) h1)
    · obtain ⟨_, rfl, rfl⟩ := h9 he
      exact hT
structure SInv (s : SoS) : Prop where
  top : Top s.l s.la
  sorted : ∀ k, Sorted (getS s.l k)
  nn : 0 ≤ s.la
  snap : ∀ q ∈ s.xl, ¬ (⟨s.la, 0⟩ : Stamp).lt q.2.2.1
theorem SInv.new : SInv ⟨[], [], 0, 0⟩ := ⟨fun k v hv => by simp [getS, alook] at hv, fun k => by simp only [getS, alook]; exact .nil, by decide, by simp⟩
theorem ComX.sorted {l l' : List (Key × CV)} {la la' e : Int} {s r : Stamp} {ws : List (Key × Write)} (hS : ∀ k, Sorted (getS l k)) (h : ComX l la s ws r e l' la') : ∀ k, Sorted (getS l' k) := by
  rcases h with ⟨_, _, _, rfl, rfl⟩ | ⟨_, _, _, _, rfl, rfl⟩ | ⟨_, _, ys, _, _, _, h9, h10⟩
  · exact hS
  · exact hS
  · by_cases he : e = 0
    · exact (h10 he).2.2.sorted hS
    · rw [(h9 he).2.1]; exact hS
theorem ComX.le_la {l l' : List (Key × CV)} {la la' e : Int} {s r : Stamp} {ws : List (Key × Write)} (h : ComX l la s ws r e l' la') : la ≤ la' := by
  rcases h with ⟨_, _, _, _, h⟩ | ⟨_, _, _, _, _, h⟩ | ⟨_, _, _, _, _, h8, h9, h10⟩
  · omega
  · omega
  · by_cases he : e = 0
    · have := (h10 he).2.1; omega
    · have := (h9 he).2.2; omega
theorem Moves.inv {nt : Int} {s t : SoS} (h : Moves nt s t) (hs : SInv s) : SInv t := by
  induction h with
  | refl => exact hs
  | begin xb h hti hlen ih =>
    refine ⟨ih.top, ih.sorted, ih.nn, fun q hq => ?_⟩
    rcases aput_mem hq with h | h
    · subst h; exact Stamp.lt_irrefl _
    · exact ih.snap q h
  | put x h hti ih =>
    refine ⟨ih.top, ih.sorted, ih.nn, fun q hq => ?_⟩
    unfold afterS at hq
    split at hq
    · exact ih.snap q hq
    · rename_i q0 hq0
      rcases aput_mem hq with h | h
      · rw [h]; exact ih.snap (_, q0) (alook_mem hq0)
      · exact ih.snap q h
  | commit h hti hc ih =>
    rename_i t ti r e l' la'
    cases hl : alook t.xl ti with
    | none =>
      rw [hl] at hc
      obtain ⟨_, _, rfl, rfl⟩ := hc
      exact ⟨ih.top, ih.sorted, ih.nn, fun q hq => ih.snap q ((adel_sub _ _).subset hq)⟩
    | some q =>
      rw [hl] at hc
      have hle := hc.le_la
      refine ⟨ih.top.com hc, hc.sorted ih.sorted, by have := ih.nn; simp only; omega, fun q hq h1 => ?_⟩
      have h2 := ih.snap q ((adel_sub _ _).subset hq)
      rcases Int.lt_or_eq_of_le hle with h3 | h3
      · exact h2 (Stamp.lt_trans (lt_time h3) h1)
      · simp only at h1; rw [← h3] at h1; exact h2 h1
  | abort h hti ih => exact ⟨ih.top, ih.sorted, ih.nn, fun q hq => ih.snap q ((adel_sub _ _).subset hq)⟩
  | trim h hl ht ih =>
    refine ⟨fun k v hv => ?_, fun k => ?_, ih.nn, ih.snap⟩
    · rw [ht.get] at hv; exact ih.top k v (List.mem_of_mem_drop hv)
    · rw [ht.get]; exact (ih.sorted k).sublist (List.drop_sublist _ _)
theorem conK_top {l : List (Key × CV)} {la : Int} (hT : Top l la) (k : Key) : conK l ⟨la, 0⟩ k = false := by
  unfold conK newestV
  cases h : (getS l k).getLast? with
  | none => rfl
  | some v =>
    have hv : v ∈ getS l k := List.mem_of_getLast? h
    have := hT k v hv
    simp only [Option.isSome_some, Option.getD_some, Bool.true_and, decide_eq_false_iff_not]
    intro h1
    exact this ((cmp_pos _ _).1 h1)
/-! ## what one puts -/
def wsAll (ws : List (Key × Write)) (us : List Write) : List (Key × Write) := us.foldl afterX ws
theorem goodWs_one (w : Write) : goodWs [w] = goodW w := by simp [goodWs]
theorem afterX_bad {ws : List (Key × Write)} {w : Write} (h : goodW w = false) : afterX ws w = ws := by
  unfold afterX putX; rw [goodWs_one, h]; rfl
theorem afterX_good {ws : List (Key × Write)} {w : Write} (h : goodW w = true) (hl : ws.length < 16) : afterX ws w = aput ws w.key w := by
  have h0 : putX ws w = 0 := by
    unfold putX; rw [goodWs_one, h, if_neg Bool.noConfusion, if_neg (by rintro ⟨_, h⟩; omega)]
  unfold afterX; rw [if_pos h0]
structure WInv (ws : List (Key × Write)) : Prop where
  nd : (ws.map Prod.fst).Nodup
  good : ∀ q ∈ ws, goodW q.2 = true ∧ q.2.key = q.1
theorem WInv.nil : WInv [] := ⟨.nil, by simp⟩
theorem WInv.step {ws : List (Key × Write)} {w : Write} (h : WInv ws) : WInv (afterX ws w) := by
  unfold afterX
  split
  · rename_i h0
    have hg : goodW w = true := by
      unfold putX at h0
      rw [goodWs_one] at h0
      split at h0
      · cases h0
      · simp_all
    refine ⟨aput_nodup _ _ h.nd, fun q hq => ?_⟩
    rcases aput_mem hq with h1 | h1
    · subst h1; exact ⟨hg, rfl⟩
    · exact h.good q h1
  · exact h
theorem wsAll_snoc {ws : List (Key × Write)} {us : List Write} {i : Nat} (h : i < us.length) : wsAll ws (us.take (i + 1)) = afterX (wsAll ws (us.take i)) us[i] := by
  unfold wsAll; rw [← List.take_append_getElem h, List.foldl_append]; rfl
theorem wsAll_inv : ∀ {us : List Write} {ws : List (Key × Write)}, WInv ws → WInv (wsAll ws us)
  | [], _, h => h
  | w :: us, ws, h => show WInv (wsAll (afterX ws w) us) from wsAll_inv h.step
theorem afterX_le {ws : List (Key × Write)} {w : Write} : (afterX ws w).length ≤ ws.length + 1 := by
  unfold afterX; split
  · exact aput_le _ _ _
  · omega
theorem wsAll_len : ∀ {us : List Write} {ws : List (Key × Write)}, (wsAll ws us).length ≤ ws.length + us.length
  | [], _ => Nat.le_refl _
  | w :: us, ws => by
    have h1 := wsAll_len (us := us) (ws := afterX ws w)
    have h2 := afterX_le (ws := ws) (w := w)
    simp only [List.length_cons]
    show (wsAll (afterX ws w) us).length ≤ _
    omega
theorem wsAll_keys : ∀ {us : List Write} {ws : List (Key × Write)}, ws.length + us.length ≤ 16 → ∀ k, k ∈ (wsAll ws us).map Prod.fst ↔ k ∈ ws.map Prod.fst ∨ ∃ w ∈ us, goodW w = true ∧ w.key = k
  | [], _, _, k => by simp [wsAll]
  | w :: us, ws, hl, k => by
    simp only [List.length_cons] at hl
    have h2 := afterX_le (ws := ws) (w := w)
    show k ∈ (wsAll (afterX ws w) us).map Prod.fst ↔ _
    rw [wsAll_keys (by omega)]
    cases hg : goodW w with
    | false =>
      rw [afterX_bad hg]
      constructor
      · rintro (h | ⟨x, hx, h⟩)
        · exact .inl h
        · exact .inr ⟨x, List.mem_cons_of_mem _ hx, h⟩
      · rintro (h | ⟨x, hx, h⟩)
        · exact .inl h
        · rcases List.mem_cons.1 hx with h1 | h1
          · subst h1; rw [hg] at h; cases h.1
          · exact .inr ⟨x, h1, h⟩
    | true =>
      rw [afterX_good hg (by omega), aput_keys]
      constructor
      · rintro ((h | h) | ⟨x, hx, h⟩)
        · exact .inr ⟨w, List.mem_cons_self, hg, h.symm⟩
        · exact .inl h
        · exact .inr ⟨x, List.mem_cons_of_mem _ hx, h⟩
      · rintro (h | ⟨x, hx, h⟩)
        · exact .inl (.inr h)
        · rcases List.mem_cons.1 hx with h1 | h1
          · subst h1; exact .inl (.inl h.2.symm)
          · exact .inr ⟨x, h1, h⟩
/-! ## a commit of good writes above all: it is done, or there is no room -/
theorem apply_06 {l : List (Key × CV)} {la : Int} {ws : List (Key × Write)} {ys : List Write} (hT : Top l la) (h0 : 0 ≤ la) (h1 : la ≤ 1000000) (hW : WInv ws) (hne : ws ≠ []) (h16 : ws.length ≤ 16) (hp : ys.Perm (ws.map Prod.snd)) :
    applyE l ⟨la + 1, 0⟩ ys = 0 ∨ applyE l ⟨la + 1, 0⟩ ys = 6 := by
  have hmap : ws.map (fun q => q.2.key) = ws.map Prod.fst := List.map_congr_left fun q hq => (hW.good q hq).2
  have hlen : ys.length = ws.length := by rw [hp.length_eq, List.length_map]
  have hpos : 0 < ws.length := List.length_pos_iff.2 hne
  unfold applyE
  rw [if_neg, if_neg]
  · split
    · exact .inr rfl
    · exact .inl rfl
  · rw [Bool.not_eq_true, List.any_eq_false]
    intro w _
    rw [Bool.not_eq_true]
    exact hasS_no fun v hv e => hT _ v hv (by rw [e]; exact lt_time (by omega))
  · rintro (h | h | h)
    · apply h; unfold Stamp.good; simp only; omega
    · unfold manyWs at h; rw [decide_eq_false_iff_not] at h; omega
    · have : goodWs ys = true := by
        unfold goodWs
        rw [Bool.and_eq_true, List.all_eq_true, decide_eq_true_eq]
        constructor
        · intro w hw
          obtain ⟨q, hq, rfl⟩ := List.mem_map.1 (hp.mem_iff.1 hw)
          exact (hW.good q hq).1
        · rw [((hp.map (·.key)).nodup_iff), List.map_map]
          show (ws.map (fun q => q.2.key)).Nodup
          rw [hmap]; exact hW.nd
      rw [this] at h; cases h
theorem goodW_parts {w : Write} (h : goodW w = true) : goodK w.key = true ∧ w.val.size ≤ 200 ∧ ¬ (w.gone = true ∧ ¬ w.val = ⟨#[]⟩) := by
  unfold goodW at h
  simp only [Bool.and_eq_true, decide_eq_true_eq, Bool.not_eq_true', Bool.and_eq_false_iff, Bool.not_eq_false', decide_eq_true_eq] at h
  refine ⟨h.1.1, h.1.2, fun ⟨h1, h2⟩ => ?_⟩
  rcases h.2 with h3 | h3
  · rw [h1] at h3; cases h3
  · exact h2 h3
theorem conK_new {l l' : List (Key × CV)} {la : Int} {ws : List (Key × Write)} {ys : List Write} (hT : Top l la) (h0 : 0 ≤ la) (h1 : la ≤ 1000000) (hW : WInv ws) (hp : ys.Perm (ws.map Prod.snd)) (he : applyE l ⟨la + 1, 0⟩ ys = 0) (hA : AppS ⟨la + 1, 0⟩ l ys l') {k : Key}
    (hs : Sorted (getS l k)) : conK l' ⟨la, 0⟩ k = decide (k ∈ ws.map Prod.fst) := by
  have hmap : ws.map (fun q => q.2.key) = ws.map Prod.fst := List.map_congr_left fun q hq => (hW.good q hq).2
  have hkeys : ∀ x, x ∈ ys.map (·.key) ↔ x ∈ ws.map Prod.fst := fun x => by
    rw [(hp.map (·.key)).mem_iff, List.map_map, ← hmap]; rfl
  have hnd : (ys.map (·.key)).Nodup := by
    rw [((hp.map (·.key)).nodup_iff), List.map_map]
    show (ws.map (fun q => q.2.key)).Nodup
    rw [hmap]; exact hW.nd
  by_cases hk : k ∈ ws.map Prod.fst
  · rw [decide_eq_true hk]
    obtain ⟨w, hw, rfl⟩ := List.mem_map.1 ((hkeys k).2 hk)
    have hgw : goodW w = true := by
      obtain ⟨q, hq, rfl⟩ := List.mem_map.1 (hp.mem_iff.1 hw)
      exact (hW.good q hq).1
    have hr : roomS l ys = true := by
      unfold applyE at he
      split at he
      · cases he
      · split at he
        · cases he
        · split at he
          · cases he
          · simp_all
    have hroom : (getS l w.key).length < 50 := by
      unfold roomS at hr
      split at hr
      · cases hr
      · rename_i h9
        rw [Bool.not_eq_true, List.any_eq_false] at h9
        have := h9 w hw
        unfold fullS at this
        simp only [decide_eq_true_eq] at this; omega
    have hlow : ∀ v ∈ getS l w.key, v.stamp.lt ⟨la + 1, 0⟩ := fun v hv => Stamp.le_lt (hT _ v hv) (lt_time (by omega))
    have hpe : putE (getS l w.key) ⟨⟨la + 1, 0⟩, w.val, w.gone⟩ = 0 := by
      have hgp := goodW_parts hgw
      unfold putE
      rw [if_neg, if_neg, if_neg (by omega)]
      · rw [hasS_no (fun v hv e => Stamp.lt_irrefl _ (by have := hlow v hv; rwa [e] at this))]; decide
      · rintro (h1 | h1 | h1)
        · apply h1; unfold Stamp.good; simp only; omega
        · have := hgp.2.1; simp only at h1; omega
        · exact hgp.2.2 h1
    have h2 : getS l' w.key = getS l w.key ++ [⟨⟨la + 1, 0⟩, w.val, w.gone⟩] := by
      rw [hA.getS_of hnd hw]; unfold afterPut; rw [if_pos hpe]
      unfold putV; rw [below_all hlow]; simp
    have hnew : newestV (getS l' w.key) = some ⟨⟨la + 1, 0⟩, w.val, w.gone⟩ := by unfold newestV; rw [h2]; simp
    unfold conK
    rw [hnew]
    show (true && decide (0 < (⟨la + 1, 0⟩ : Stamp).cmp ⟨la, 0⟩)) = true
    rw [Bool.true_and]
    exact decide_eq_true ((cmp_pos _ _).2 (lt_time (by omega)))
  · rw [decide_eq_false hk]
    have h2 : getS l' k = getS l k := hA.getS_other (fun h => hk ((hkeys k).1 h))
    have h3 := conK_top hT k
    unfold conK at h3 ⊢
    rw [h2]; exact h3
/-! ## two that are open at once -/
def comW (x y : Write) : Bool := decide (x.key = y.key) && goodW x && goodW y
theorem first_law {l l' l'' : List (Key × CV)} {la la' la'' e f : Int} {r q : Stamp} {us vs : List Write} (hT : Top l la) (hs : ∀ k, Sorted (getS l k)) (h0 : 0 ≤ la) (h1 : la ≤ 900000) (hu : us.length ≤ 10) (hv : vs.length ≤ 10)
    (hx : ComX l la ⟨la, 0⟩ (wsAll [] us) r e l' la') (hy : ComX l' la' ⟨la, 0⟩ (wsAll [] vs) q f l'' la'') :
    (e ≠ 0 → e = 6) ∧ (e = 0 → (∃ x ∈ us, ∃ y ∈ vs, comW x y = true) → f = 9) ∧ (e = 0 → (∀ x ∈ us, ∀ y ∈ vs, comW x y = false) → f = 6 ∨ (f = 0 ∧ r.t ≤ q.t)) := by
  have hWu := wsAll_inv (us := us) WInv.nil
  have hWv := wsAll_inv (us := vs) WInv.nil
  have hku := wsAll_keys (us := us) (ws := []) (by simp; omega)
  have hkv := wsAll_keys (us := vs) (ws := []) (by simp; omega)
  have hlu := wsAll_len (us := us) (ws := [])
  have hlv := wsAll_len (us := vs) (ws := [])
  simp only [List.length_nil, Nat.zero_add, List.map_nil, List.not_mem_nil, false_or] at hku hkv hlu hlv
  have hT' := hT.com hx
  have hle := hx.le_la
  have hle2 := hx.la_le
  -- what the first answers, and which keys are new behind it
  have hfirst : (e ≠ 0 → e = 6) ∧ (e = 0 → r.t = la' ∧ ∀ k, conK l' ⟨la, 0⟩ k = decide (k ∈ (wsAll [] us).map Prod.fst)) := by
    rcases hx with ⟨hn, hr, he, hl, hla⟩ | ⟨_, ⟨z, hz, hc⟩, _⟩ | ⟨hne, _, ys, hp, _, he, _, h0'⟩
    · refine ⟨fun h => absurd he h, fun _ => ⟨by rw [hr, hla], fun k => ?_⟩⟩
      rw [hl, conK_top hT, hn]; simp
    · rw [conK_top hT] at hc; cases hc
    · refine ⟨fun h => ?_, fun h => ?_⟩
      · rcases apply_06 hT h0 (by omega) hWu hne (by omega) hp with h2 | h2
        · exact absurd (he.trans h2) h
        · exact he.trans h2
      · obtain ⟨hr, hla, hA⟩ := h0' h
        exact ⟨by rw [hr, hla], fun k => conK_new hT h0 (by omega) hWu hp (he.symm.trans h) hA (hs k)⟩
  refine ⟨hfirst.1, fun he hc => ?_, fun he hc => ?_⟩
  · obtain ⟨x, hx', y, hy', hxy⟩ := hc
    unfold comW at hxy
    simp only [Bool.and_eq_true, decide_eq_true_eq] at hxy
    have h2 := (hfirst.2 he).2 x.key
    rw [decide_eq_true ((hku x.key).2 ⟨x, hx', hxy.1.2, rfl⟩)] at h2
    have h3 := (hkv x.key).2 ⟨y, hy', hxy.2, hxy.1.1.symm⟩
    obtain ⟨z, hz, hzk⟩ := List.mem_map.1 h3
    have h4 : (x.key, z.2) ∈ wsAll [] vs := by rw [← hzk]; exact hz
    exact (ComX.con hy h4 h2).2.1
  · obtain ⟨hr, hck⟩ := hfirst.2 he
    rcases hy with ⟨_, hq, hf, _, _⟩ | ⟨_, ⟨z, hz, hzc⟩, _⟩ | ⟨hne, _, ys, hp, _, hf, _, h0'⟩
    · exact .inr ⟨hf, by rw [hq, hr]; exact Int.le_refl _⟩
    · rw [hck, decide_eq_true_eq] at hzc
      obtain ⟨x, hx', hgx, hxk⟩ := (hku z.1).1 hzc
      obtain ⟨y, hy', hgy, hyk⟩ := (hkv z.1).1 (List.mem_map.2 ⟨z, hz, rfl⟩)
      have := hc x hx' y hy'
      unfold comW at this
      rw [hgx, hgy, decide_eq_true (hxk.trans hyk.symm)] at this
      cases this
    · rcases apply_06 hT' (by omega) (by omega) hWv hne (by omega) hp with h2 | h2
      · refine .inr ⟨hf.trans h2, ?_⟩
        rw [(h0' (hf.trans h2)).1, hr]; simp only; omega
      · exact .inl (hf.trans h2)
end Go.X

/- The engine, part 19: the places of long regions. -/
namespace Go.X
open Go
theorem at72 {a0 a1 a2 a3 a4 a5 a6 a7 a8 a9 a10 a11 a12 a13 a14 a15 a16 a17 a18 a19 a20 a21 a22 a23 a24 a25 a26 a27 a28 a29 a30 a31 a32 a33 a34 a35 a36 a37 a38 a39 a40 a41 a42 a43 a44 a45 a46 a47 a48 a49 a50 a51 a52 a53 a54 a55 a56 a57 a58 a59 a60 a61 a62 a63 a64 a65 a66 a67 a68 a69 a70 a71 a72 : Oper} {r : List Oper} : (List.toArray (a0 :: a1 :: a2 :: a3 :: a4 :: a5 :: a6 :: a7 :: a8 :: a9 :: a10 :: a11 :: a12 :: a13 :: a14 :: a15 :: a16 :: a17 :: a18 :: a19 :: a20 :: a21 :: a22 :: a23 :: a24 :: a25 :: a26 :: a27 :: a28 :: a29 :: a30 :: a31 :: a32 :: a33 :: a34 :: a35 :: a36 :: a37 :: a38 :: a39 :: a40 :: a41 :: a42 :: a43 :: a44 :: a45 :: a46 :: a47 :: a48 :: a49 :: a50 :: a51 :: a52 :: a53 :: a54 :: a55 :: a56 :: a57 :: a58 :: a59 :: a60 :: a61 :: a62 :: a63 :: a64 :: a65 :: a66 :: a67 :: a68 :: a69 :: a70 :: a71 :: a72 :: r))[72]? = some a72 := rfl
end Go.X
