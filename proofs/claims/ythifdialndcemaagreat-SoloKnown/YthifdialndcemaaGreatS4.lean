/- The engine, part 15: look-ups with a default; slices that may be nil. -/
import Derived.Laws.Cover3
import Derived.Test.YthifdialndcemaaGreatProg
import Derived.Test.YthifdialndcemaaGreatS3
set_option linter.unusedVariables false
set_option linter.unusedSimpArgs false

namespace Go.X
section
variable {P : Program} {n : Sz} {e : Env} {d : Option Tmp} {ty : TypeId} {p : String} {af : Array Edge} {g : Option (Nat × Bool)}
variable {c : Cx} {L : List Pt} {x y z : Operand} {v v' : Value}
variable {K V : Type} [DecidableEq K] {encK : K → Value} {encV : V → Value}
/-- a look-up in a map whose zero value is a value -/
theorem O.lookD {t k el b : Nat} {ok : Bool} {es : Array MapEntry} {ck : Nat} {l : List (K × V)} {a : K} (dv : V) (ht : P.underlying t = some (.map k el)) (KK : IsKey P k encK) (h : MapIs encK encV es ck l)
    (hz : zeroOf P el = some (encV dv)) (hx : ev e x = .map (some b)) (hy : ev e y = encK a) :
    Rn1 P e ⟨d, .lookup t x y ok, ty, p, af, g⟩ b (.map es ck) (if ok then .tuple #[encV ((alook l a).getD dv), .bool (alook l a).isSome] else encV ((alook l a).getD dv)) := by
  cases hl : alook l a with
  | some u => exact O.lookS ht KK h hx hy hl
  | none => exact O.lookN ht KK h hz hx hy hl

/-- the block of an address that may be none -/
def blk : Option Addr → Nat
  | some q => q.block
  | none => 0
/-- a slice that can be read: n elements xs -/
structure SlAt (c : Cx) (L : List Pt) {α : Type} (enc : α → Array Value) (av : Option Addr) (n : Nat) (xs : List α) : Prop where
  len : n = xs.length
  lt : n < 4611686018427387904
  get : xs ≠ [] → ∃ pre sp el fz, av = some ⟨blk av, Array.size pre, none⟩ ∧ Rd c L (blk av) (.cells (pre ++ (rows enc xs ++ sp)) el fz)
variable {α : Type} {enc : α → Array Value}
theorem ext_mid {pre mid sp : Array Value} : (pre ++ (mid ++ sp)).extract pre.size (pre.size + mid.size) = mid := by
  simp [Array.extract_append]
theorem SlAt.sub {L' : List Pt} {av : Option Addr} {m : Nat} {xs : List α} (h : SlAt c L enc av m xs) (hs : L.Sublist L') : SlAt c L' enc av m xs :=
  ⟨h.len, h.lt, fun hn => let ⟨pre, sp, el, fz, h1, h2⟩ := h.get hn; ⟨pre, sp, el, fz, h1, h2.sub hs⟩⟩
theorem SlAt.cons {av : Option Addr} {m : Nat} {xs : List α} {q : Pt} (h : SlAt c L enc av m xs) : SlAt c (q :: L) enc av m xs := h.sub (List.sublist_cons_self _ _)
theorem SlAt.app {G : List Pt} {av : Option Addr} {m : Nat} {xs : List α} (h : SlAt c L enc av m xs) : SlAt c (G ++ L) enc av m xs := h.sub (List.sublist_append_right _ _)
theorem SlAt.at_ {av : Option Addr} {m i : Nat} {xs : List α} (h : SlAt c L enc av m xs) (hi : i < xs.length) : ∃ pre sp el fz, av = some ⟨blk av, Array.size pre, none⟩ ∧ Rd c L (blk av) (.cells (pre ++ (rows enc xs ++ sp)) el fz) :=
  h.get (by intro e; subst e; exact absurd hi (Nat.not_lt_zero _))
theorem O.indexG {t el sz b o len cap : Nat} {av : Option Addr} {k : IntKind} {i : Int} (ht : sliceOf P t = some (el, sz)) (hx : ev e x = .slice av len cap) (hav : av = some ⟨b, o, none⟩) (hy : ev e y = .int k i)
    (h0 : 0 ≤ i) (h1 : i < len) : Rn0 P e ⟨d, .indexAddr t x y, ty, p, af, g⟩ (.pointer (some ⟨b, o + i.toNat * sz, none⟩)) := O.index ht (hx.trans (by rw [hav])) hy h0 h1
theorem SlAt.src {av : Option Addr} {m sz cap : Nat} {xs : List α} (hs : ∀ x, (enc x).size = sz) (h : SlAt c L enc av m xs) : Src c L sz (.slice av m cap) m (rows enc xs) := by
  cases xs with
  | nil => obtain rfl : m = 0 := h.len; exact .inl ⟨av, cap, rfl, rfl, by simp [rows]⟩
  | cons x l =>
    obtain ⟨pre, sp, el, fz, h1, h2⟩ := h.get (by simp)
    have hr := rows_size hs (x :: l)
    refine .inr ⟨blk av, pre.size, cap, _, _, _, by rw [← h1], h2, ?_, ?_⟩
    · rw [Array.size_append, Array.size_append, hr, h.len]; omega
    · rw [h.len, ← hr]; exact ext_mid
/-- 'append' to a slice that is ours alone, and is not nil -/
theorem O.appendTo {t t2 el sz by_ m k b0 cap0 : Nat} {zv : Value} {old new : Array Value} {Ls R : List Pt} (ht : elemInfo P t = some (el, sz, by_, zv)) (ht2 : isDesc P t2 = 5) (hby : by_ ≠ 0)
    (hx : ev e x = .slice (some ⟨b0, 0, none⟩) m cap0) (ho : OwnSl el sz old m (.slice (some ⟨b0, 0, none⟩) m cap0) Ls) (hk : Src c (Ls ++ R) sz (ev e y) k new) (hone : ∀ u ∈ new.toList, Value.oneCell' u = true)
    (hroom : (2 * (m + k) + 192) * by_ ≤ 281474976710656) :
    Eg P e ⟨d, .call { callee := .builtin .append, args := #[x, y], argTypes := #[t, t2] }, ty, p, af, g⟩ c (Ls ++ R)
      (fun v' L' => ∃ b cap Ls', v' = .slice (some ⟨b, 0, none⟩) (m + k) cap ∧ OwnSl el sz (old ++ new) (m + k) v' Ls' ∧ L' = Ls' ++ R) := by
  by_cases hk0 : 0 < k
  · refine (O.appendOwn ht ht2 hby hx ho hk hone hk0 hroom).mono ?_
    rintro v' L' ⟨Ls', h1, rfl⟩
    refine ⟨_, ?_, .refl _⟩
    rcases h1 with ⟨h0, _⟩ | ⟨b, cap, sp, rfl, h2, h3, h4, rfl⟩
    · omega
    · exact ⟨b, cap, _, rfl, .inr ⟨b, cap, sp, rfl, h2, h3, h4, rfl⟩, rfl⟩
  · obtain rfl : k = 0 := by omega
    rcases ho with ⟨_, _, hv, _⟩ | ⟨b, cap, sp, hv, h1, h2, h3, rfl⟩
    · cases hv
    · obtain ⟨hb, rfl⟩ : b0 = b ∧ cap0 = cap := by simpa using hv
      subst hb
      have hn : new = #[] := Array.eq_empty_of_size_eq_zero (by rw [hk.size]; simp)
      subst hn
      have hA := O.appendIn (d := d) (ty := ty) (p := p) (af := af) (g := g) (new := #[]) (mid := #[]) (post := sp) (L := R) (k := 0) ht ht2 hx (by simpa using hk) hone (by omega) h3 (by simp)
      simp only [Array.empty_append] at hA
      refine Eg.mono hA ?_
      rintro v' L' ⟨rfl, rfl⟩
      exact ⟨_, ⟨b0, cap0, [(b0, _)], rfl, .inr ⟨b0, cap0, sp, rfl, h1, h2, by simpa using h3, by simp⟩, rfl⟩, .refl _⟩
/-- a slice and nil -/
theorem O.eqSlNil {t t' : TypeId} {av : Option Addr} {m cap : Nat} (ht : isDesc P t = 5) (hx : ev e x = .slice av m cap) (hy : ev e y = .slice none 0 0) :
    Rn0 P e ⟨d, .binOp .eql t x y t', ty, p, af, g⟩ (.bool av.isNone) := fun w => by
  obtain ⟨el, hu⟩ := desc_slice ht
  exact run_binop hx hy rfl (run_eql rfl (run_equal_slice_nil w t el av m cap hu))
/-- an own slice can be read -/
theorem OwnSl.at_ {el sz m : Nat} {xs : List α} {Ls R : List Pt} {av : Option Addr} {cap : Nat} (h : OwnSl el sz (rows enc xs) m (.slice av m cap) Ls) (hm : m = xs.length) (hlt : m < 4611686018427387904) : SlAt c (Ls ++ R) enc av m xs := by
  refine ⟨hm, hlt, fun hn => ?_⟩
  rcases h with ⟨h0, _, hv, rfl⟩ | ⟨b, cap', sp, hv, h1, h2, h3, rfl⟩
  · rw [hm] at h0; exact absurd (List.length_eq_zero_iff.1 h0) hn
  · obtain ⟨rfl, _⟩ : av = some ⟨b, 0, none⟩ ∧ cap = cap' := by simpa using hv
    exact ⟨#[], sp, el, (0, 0), rfl, by rw [Array.empty_append]; exact .head⟩
/-! ## rows behind other cells -/
section
variable {sz : Nat}
theorem extP (hs : ∀ x, (enc x).size = sz) {pre cs : Array Value} {a b : Nat} : (pre ++ cs).extract (pre.size + a) (pre.size + b) = cs.extract a b := by
  simp [Array.extract_append]
theorem rowAtP (hs : ∀ x, (enc x).size = sz) {pre sp : Array Value} {l : List α} {i : Int} {x : α} (h : l[i.toNat]? = some x) : (pre ++ (rows enc l ++ sp)).extract (pre.size + i.toNat * sz) (pre.size + i.toNat * sz + sz) = enc x := by
  rw [Nat.add_assoc, extP hs]; exact rows_at hs h
theorem rowRoomP (hs : ∀ x, (enc x).size = sz) {pre sp : Array Value} {l : List α} {i : Int} {x : α} (h : l[i.toNat]? = some x) : pre.size + i.toNat * sz + sz ≤ (pre ++ (rows enc l ++ sp)).size := by
  have := rows_room hs (sp := sp) h
  rw [Array.size_append]; omega
theorem rowGetP (hs : ∀ x, (enc x).size = sz) {pre sp : Array Value} {l : List α} {i : Int} {k : Nat} {x : α} (h : l[i.toNat]? = some x) (hk : k < sz) : (pre ++ (rows enc l ++ sp))[pre.size + i.toNat * sz + k]? = (enc x)[k]? := by
  rw [Nat.add_assoc, Array.getElem?_append_right (by omega), show pre.size + (i.toNat * sz + k) - pre.size = i.toNat * sz + k by omega]
  exact rows_get hs h k hk
theorem rowRoomFP (hs : ∀ x, (enc x).size = sz) {pre sp : Array Value} {l : List α} {i : Int} {k m : Nat} {x : α} (h : l[i.toNat]? = some x) (hk : k + m ≤ sz) : pre.size + i.toNat * sz + k + m ≤ (pre ++ (rows enc l ++ sp)).size := by
  have := rows_room hs (sp := sp) h
  rw [Array.size_append]; omega
theorem rowSubP (hs : ∀ x, (enc x).size = sz) {pre sp : Array Value} {l : List α} {i : Int} {k m : Nat} {x : α} {out : Array Value} (h : l[i.toNat]? = some x) (hk : k + m ≤ sz) (ho : (enc x).extract k (k + m) = out) :
    (pre ++ (rows enc l ++ sp)).extract (pre.size + i.toNat * sz + k) (pre.size + i.toNat * sz + k + m) = out := by
  have := rowSub hs (sp := sp) h hk ho
  rw [show pre.size + i.toNat * sz + k + m = pre.size + (i.toNat * sz + k + m) by omega, show pre.size + i.toNat * sz + k = pre.size + (i.toNat * sz + k) by omega, extP hs]
  simpa using this
end
end
end Go.X

namespace Go.X
open Go.Proofs
theorem ds_25 : isDesc Tryz.prog 25 = 5 := by kernel_rfl
theorem fo_47_0 : fieldOff Tryz.prog 47 0 = some 0 := by kernel_rfl
theorem fo_47_1 : fieldOff Tryz.prog 47 1 = some 16 := by kernel_rfl
theorem fo_47_2 : fieldOff Tryz.prog 47 2 = some 17 := by kernel_rfl
theorem hb_97 : hasBody Tryz.prog 97 = true := by kernel_rfl
theorem kd_47 : kindOf Tryz.prog 47 = some (true, 18) := by kernel_rfl
theorem mp_261 : Tryz.prog.underlying 261 = some (.map 45 4) := by kernel_rfl
theorem sl_25 : sliceOf Tryz.prog 25 = some (47, 18) := by kernel_rfl
theorem zo_4 : zeroOf Tryz.prog 4 = some (.bool false) := by kernel_rfl
theorem zo_47 : zeroOf Tryz.prog 47 = some (.agg #[.int .u8 0, .int .u8 0, .int .u8 0, .int .u8 0, .int .u8 0, .int .u8 0, .int .u8 0, .int .u8 0, .int .u8 0, .int .u8 0, .int .u8 0, .int .u8 0, .int .u8 0, .int .u8 0, .int .u8 0, .int .u8 0, .string ⟨#[]⟩, .bool false]) := by kernel_rfl
def boolV (b : Bool) : Value := .bool b
/-- may a write be? -/
def goodW (w : Write) : Bool := goodK w.key && decide (w.val.size ≤ 200) && !(w.gone && !decide (w.val = ⟨#[]⟩))
/-- may writes be, but for how many? -/
def goodWs (ws : List Write) : Bool := ws.all goodW && decide (ws.map (·.key)).Nodup
def manyWs (ws : List Write) : Bool := decide (1 ≤ ws.length ∧ ws.length ≤ 16)
theorem goodW_of {w : Write} (h1 : goodK w.key = true) (h2 : ¬ (200 : Int) < (w.val.size : Int)) (h3 : w.gone = false ∨ w.val = ⟨#[]⟩) : goodW w = true := by
  unfold goodW
  rw [h1, decide_eq_true (by omega)]
  rcases h3 with h | h <;> simp [h]
theorem badW1 {w : Write} (h1 : goodK w.key = false) : goodW w = false := by unfold goodW; simp [h1]
theorem badW2 {w : Write} (h : (200 : Int) < (w.val.size : Int)) : goodW w = false := by
  unfold goodW; rw [decide_eq_false (by omega)]; simp
theorem badW3 {w : Write} (h1 : w.gone = true) (h2 : ¬ w.val = ⟨#[]⟩) : goodW w = false := by unfold goodW; simp [h1, h2]
def seenL (ws : List Write) (i : Nat) : List (Key × Bool) := (ws.take i).map fun w => (w.key, true)
theorem seen_keys {ws : List Write} {i : Nat} : (seenL ws i).map Prod.fst = (ws.take i).map (·.key) := by simp [seenL, Function.comp_def]
theorem seen_look {ws : List Write} {i : Nat} {k : Key} (h : (alook (seenL ws i) k).getD false = true) : k ∈ (ws.take i).map (·.key) := by
  cases hl : alook (seenL ws i) k with
  | none => rw [hl] at h; cases h
  | some u => rw [← seen_keys]; exact List.mem_map.2 ⟨_, alook_mem hl, rfl⟩
theorem seen_none {ws : List Write} {i : Nat} {k : Key} (h : (alook (seenL ws i) k).getD false = false) : k ∉ (ws.take i).map (·.key) := by
  intro hm
  rw [← seen_keys] at hm
  obtain ⟨q, hq, rfl⟩ := List.mem_map.1 hm
  have hq2 : q.2 = true := by
    unfold seenL at hq; obtain ⟨w, _, rfl⟩ := List.mem_map.1 hq; rfl
  have key : ∀ l : List (Key × Bool), q ∈ l → (∀ r ∈ l, r.2 = true) → (alook l q.1).getD false = true := by
    intro l
    induction l with
    | nil => intro h; simp at h
    | cons r l ih =>
      intro hq hall
      obtain ⟨y, u⟩ := r
      unfold alook
      split
      · have := hall (y, u) (by simp); simpa using this
      · rename_i hne
        rcases List.mem_cons.1 hq with h | h
        · subst h; exact absurd rfl hne
        · exact ih h (fun r hr => hall r (by simp [hr]))
  have := key _ hq (fun r hr => by unfold seenL at hr; obtain ⟨w, _, rfl⟩ := List.mem_map.1 hr; rfl)
  rw [h] at this; cases this
theorem seen_put {ws : List Write} {i : Nat} (hi : i < ws.length) (h : (alook (seenL ws i) ws[i].key).getD false = false) : aput (seenL ws i) ws[i].key true = seenL ws (i + 1) := by
  have := seen_none h
  rw [← seen_keys] at this
  rw [(alook_none this).2.1]
  unfold seenL
  rw [List.take_add_one, List.getElem?_eq_getElem hi, List.map_append]
  rfl
theorem gw_next {ws : List Write} {i : Nat} (hi : i < ws.length) (hg : ∀ w ∈ ws.take i, goodW w = true) (h : goodW ws[i] = true) : ∀ w ∈ ws.take (i + 1), goodW w = true := by
  intro w hw
  rw [List.take_add_one, List.getElem?_eq_getElem hi] at hw
  simp only [Option.toList_some, List.mem_append, List.mem_singleton] at hw
  rcases hw with hw | rfl
  · exact hg w hw
  · exact h
theorem gw_true {ws : List Write} {i : Nat} {es : Array MapEntry} {ck : Nat} (hi : i = ws.length) (hg : ∀ w ∈ ws.take i, goodW w = true) (hM : MapIs keyV boolV es ck (seenL ws i)) : goodWs ws = true := by
  subst hi
  have h1 := hM.keys
  rw [seen_keys] at h1
  simp only [List.take_length] at h1 hg
  unfold goodWs
  rw [Bool.and_eq_true, List.all_eq_true, decide_eq_true_eq]
  exact ⟨hg, h1⟩
theorem gw_false {ws : List Write} {i : Nat} (hi : i < ws.length) (h : goodW ws[i] = false ∨ ws[i].key ∈ (ws.take i).map (·.key)) : goodWs ws = false := by
  rw [Bool.eq_false_iff]
  intro h1
  unfold goodWs at h1
  rw [Bool.and_eq_true, List.all_eq_true, decide_eq_true_eq] at h1
  rcases h with h | h
  · have := h1.1 _ (List.getElem_mem hi)
    rw [h] at this; cases this
  · have h2 := h1.2
    have h3 : ws = ws.take i ++ ws[i] :: ws.drop (i + 1) := by
      rw [← List.drop_eq_getElem_cons hi]; simp
    rw [h3, List.map_append, List.map_cons, List.nodup_append] at h2
    exact h2.2.2 _ h _ (by simp) rfl

set_option maxRecDepth 100000 in
set_option maxHeartbeats 2000000 in
theorem C_Many {c : Cx} {L : List Pt} {av : Option Addr} {nw cw : Nat} {ws : List Write} (hW : SlAt c L Write_enc av nw ws) : Fn Tryz.prog 169 #[.slice av nw cw] c L (fun v L' => v = .bool (manyWs ws) ∧ L' = L) := by
  have hwl := hW.len
  have hwt := hW.lt
  refine Fn.enter Tryz.func169 rfl 11 rfl rfl (fun R hR => ?_)
  refine Cd.seq (fun K1 hK1 => ?_)
  refine Cd.region [0] rfl ?_
  refine Seq.rd0 at0 rfl rfl (O.assign (v := .bool _) rfl) ?_
  refine Seq.nil ?_
  refine hK1 ?_
  refine Cd.seq (fun K2 hK2 => ?_)
  refine Cd.region [0, 1, 2, 3, 4, 5, 6, 7, 8] rfl ?_
  refine Seq.rd0 at0 rfl rfl (O.move (v := .slice _ _ _) rfl) ?_
  refine Seq.rd0 at1 rfl rfl (O.lenS ds_25 rfl) ?_
  refine Seq.rd0 at2 rfl rfl (O.geq rfl rfl) ?_
  refine Seq.rd0 at3 rfl rfl (O.move (v := .bool _) rfl) ?_
  by_cases t3 : (1 : Int) ≤ (nw : Int)
  · rw [decide_eq_true t3]
    refine Seq.rd0 at4 rfl rfl (O.move (v := .slice _ _ _) rfl) ?_
    refine Seq.rd0 at5 rfl rfl (O.lenS ds_25 rfl) ?_
    refine Seq.rd0 at6 rfl rfl (O.leq rfl rfl) ?_
    refine Seq.rd0 at7 rfl rfl (O.pickT (v := .bool _) rfl rfl) ?_
    refine Seq.rd0 at8 rfl rfl (O.assign (v := .bool _) rfl) ?_
    refine Seq.nil ?_
    refine hK2 ?_
    refine Cd.ret ?_
    have hb : manyWs ws = decide ((nw : Int) ≤ 16) := by unfold manyWs; rw [decide_eq_decide]; omega
    exact hR _ _ (Res.one (v := .bool _) rfl rfl) ⟨by rw [hb], rfl⟩ (.refl _)
  · rw [decide_eq_false t3]
    refine Seq.pass at4 rfl rfl ?_
    refine Seq.pass at5 rfl rfl ?_
    refine Seq.pass at6 rfl rfl ?_
    refine Seq.rd0 at7 rfl rfl (O.pickF (v := .bool _) rfl rfl) ?_
    refine Seq.rd0 at8 rfl rfl (O.assign (v := .bool _) rfl) ?_
    refine Seq.nil ?_
    refine hK2 ?_
    refine Cd.ret ?_
    have hb : manyWs ws = false := by unfold manyWs; rw [decide_eq_false_iff_not]; omega
    exact hR _ _ (Res.one (v := .bool _) rfl rfl) ⟨by rw [hb], rfl⟩ (.refl _)

set_option maxRecDepth 100000 in
set_option maxHeartbeats 2000000 in
theorem C_store_Good {c : Cx} {L : List Pt} {av : Option Addr} {nw cw : Nat} {ws : List Write} (hW : SlAt c L Write_enc av nw ws) : Fn Tryz.prog 105 #[.slice av nw cw] c L (fun v L' => v = .bool (goodWs ws) ∧ L' = L) := by
  have hwl := hW.len
  have hwt := hW.lt
  refine Fn.enter Tryz.func105 rfl 42 rfl rfl (fun R hR => ?_)
  refine Cd.seq (fun K1 hK1 => ?_)
  refine Cd.region [0] rfl ?_
  refine Seq.rd0 at0 rfl rfl (O.assign (v := .bool _) rfl) ?_
  refine Seq.nil ?_
  refine hK1 ?_
  refine Cd.seq (fun K2 hK2 => ?_)
  refine Cd.region [0, 1] rfl ?_
  refine Seq.op at0 rfl (Op.new rfl (O.makeMap) ?_)
  intro b3 hb3
  refine Seq.rd0 at1 rfl rfl (O.assign (v := .map _) rfl) ?_
  refine Seq.nil ?_
  refine hK2 ?_
  refine Cd.seq (fun K4 hK4 => ?_)
  refine Cd.seq (fun K5 hK5 => ?_)
  refine Cd.region [0, 1, 2] rfl ?_
  refine Seq.rd0 at0 rfl rfl (O.move (v := .slice _ _ _) rfl) ?_
  refine Seq.rd0 at1 rfl rfl (O.lenS ds_25 rfl) ?_
  refine Seq.rd0 at2 rfl rfl (O.move (v := .int .i64 _) rfl) ?_
  refine Seq.nil ?_
  refine hK5 ?_
  refine Cd.block ?_
  refine Cd.loop (fun m6 e7 L8 => ∃ i : Nat, ∃ es : Array MapEntry, ∃ ck : Nat, m6 = ws.length - i ∧ e7 3 = .map (some b3) ∧ e7 7 = .slice av nw cw ∧ e7 8 = .int .i64 (nw : Int) ∧ e7 9 = .int .i64 (i : Int) ∧ L8 = (b3, .map es ck) :: L ∧ i ≤ ws.length ∧ MapIs keyV boolV es ck (seenL ws i) ∧ (∀ w ∈ ws.take i, goodW w = true)) _ ⟨0, #[], 0, rfl, rfl, rfl, rfl, rfl, rfl, Nat.zero_le _, by exact MapIs.nil, fun w hw => by simp at hw⟩ ?_
  rintro _ e7 _ ⟨i, es, ck, rfl, s9, s10, s11, s12, rfl, hi, hM, hg⟩ K13 hK13
  refine Cd.seq (fun K14 hK14 => ?_)
  refine Cd.region [0] rfl ?_
  refine Seq.rd0 at0 rfl rfl (O.lss (by exact s12) (by exact s11)) ?_
  refine Seq.nil ?_
  refine hK14 ?_
  refine Cd.seq (fun K15 hK15 => ?_)
  refine Cd.if ((i : Int) < (nw : Int)) rfl (fun t16 => ?_) (fun t16 => ?_)
  · skip
    refine Cd.skip ?_
    refine hK15 ?_
    refine Cd.seq (fun K17 hK17 => ?_)
    refine Cd.block ?_
    refine Cd.seq (fun K18 hK18 => ?_)
    refine Cd.region [0, 1, 2, 3] rfl ?_
    have hlt19 : i < ws.length := by omega
    obtain ⟨pre19, sp19, el19, fz19, hav19, hrd19⟩ := hW.at_ hlt19
    refine Seq.rd0 at0 rfl rfl (O.indexG sl_25 (by exact s10) hav19 (by exact s12) (by omega) (by omega)) ?_
    refine Seq.rd1 at1 rfl rfl (O.loadA kd_47 rfl (rowRoomP Write_size (getN hlt19)) (rowAtP Write_size (getN hlt19))) hrd19.cons ?_
    refine Seq.op at2 rfl (Op.new rfl (O.alloc zo_47 (cs := (Write_enc Write.zero)) rfl) ?_)
    intro b20 hb20
    refine Seq.op at3 rfl (Op.set0 rfl (O.store kd_47 rfl (v := .agg _) rfl (Write_size _) (Write_room (Write_size _)) (Write_one _) (Write_put _ (Write_size _))) ?_)
    refine Seq.nil ?_
    refine hK18 ?_
    refine Cd.seq (fun K21 hK21 => ?_)
    refine Cd.seq (fun K22 hK22 => ?_)
    refine Cd.region [0, 1, 2, 3, 4, 5, 6, 7, 8, 9, 10, 11, 12, 13, 14, 15, 16, 17, 18, 19, 20, 21, 22, 23, 24] rfl ?_
    refine Seq.rd0 at0 rfl rfl (O.field fo_47_0 rfl) ?_
    refine Seq.rd1 at1 rfl rfl (O.loadA kd_45 rfl (Nat.le_of_ble_eq_true rfl) (Write_key _)) Rd.head ?_
    refine Seq.op at2 rfl (Op.callF rfl hb_97 C_key_Good rfl ?_)
    rintro _ _ ⟨rfl, rfl⟩
    refine Seq.rd0 at3 rfl rfl (O.not rfl) ?_
    refine Seq.rd0 at4 rfl rfl (O.move (v := .bool _) rfl) ?_
    cases t23 : goodK ws[i].key
    · skip
      refine Seq.pass at5 rfl rfl ?_
      refine Seq.pass at6 rfl rfl ?_
      refine Seq.pass at7 rfl rfl ?_
      refine Seq.pass at8 rfl rfl ?_
      refine Seq.rd0 at9 rfl rfl (O.pickT (v := .bool _) rfl rfl) ?_
      refine Seq.rd0 at10 rfl rfl (O.move (v := .bool _) rfl) ?_
      refine Seq.pass at11 rfl rfl ?_
      refine Seq.pass at12 rfl rfl ?_
      refine Seq.pass at13 rfl rfl ?_
      refine Seq.pass at14 rfl rfl ?_
      refine Seq.rd0 at15 rfl rfl (O.pickT (v := .bool _) rfl rfl) ?_
      refine Seq.rd0 at16 rfl rfl (O.move (v := .bool _) rfl) ?_
      refine Seq.pass at17 rfl rfl ?_
      refine Seq.pass at18 rfl rfl ?_
      refine Seq.pass at19 rfl rfl ?_
      refine Seq.pass at20 rfl rfl ?_
      refine Seq.pass at21 rfl rfl ?_
      refine Seq.pass at22 rfl rfl ?_
      refine Seq.pass at23 rfl rfl ?_
      refine Seq.rd0 at24 rfl rfl (O.pickT (v := .bool _) rfl rfl) ?_
      refine Seq.nil ?_
      refine hK22 ?_
      refine Cd.condT rfl ?_
      refine Cd.seq (fun K24 hK24 => ?_)
      refine Cd.region [0] rfl ?_
      refine Seq.rd0 at0 rfl rfl (O.assign (v := .bool _) rfl) ?_
      refine Seq.nil ?_
      refine hK24 ?_
      refine Cd.ret ?_
      exact hR _ _ (Res.one (v := .bool _) rfl rfl) ⟨by rw [gw_false (i := i) (by omega) (by first | exact .inr (seen_look (by assumption)) | exact .inl (badW1 (by assumption)) | exact .inl (badW2 (by assumption)) | exact .inl (badW3 (by assumption) (by assumption)))], rfl⟩ (.cons _ (.cons _ (.refl _)))
    · skip
      refine Seq.rd0 at5 rfl rfl (O.move (v := .map _) (by exact s9)) ?_
      refine Seq.rd0 at6 rfl rfl (O.field fo_47_0 rfl) ?_
      refine Seq.rd1 at7 rfl rfl (O.loadA kd_45 rfl (Nat.le_of_ble_eq_true rfl) (Write_key _)) Rd.head ?_
      refine Seq.rd1 at8 rfl rfl (O.lookD (ok := false) (encV := boolV) false mp_261 kk_key hM zo_4 rfl (by exact rfl)) Rd.head.cons ?_
      refine Seq.rd0 at9 rfl rfl (O.pickF (v := .bool _) rfl rfl) ?_
      refine Seq.rd0 at10 rfl rfl (O.move (v := .bool _) rfl) ?_
      cases t25 : ((alook (seenL ws i) ws[i].key).getD false)
      · skip
        refine Seq.rd0 at11 rfl rfl (O.field fo_47_1 rfl) ?_
        refine Seq.rd1 at12 rfl rfl (O.load kd_9 rfl (Write_val _)) Rd.head ?_
        refine Seq.rd0 at13 rfl rfl (O.lenT ds_9 rfl) ?_
        refine Seq.rd0 at14 rfl rfl (O.gtr rfl rfl) ?_
        refine Seq.rd0 at15 rfl rfl (O.pickF (v := .bool _) rfl rfl) ?_
        refine Seq.rd0 at16 rfl rfl (O.move (v := .bool _) rfl) ?_
        by_cases t26 : (200 : Int) < (ws[i].val.size : Int)
        · rw [decide_eq_true t26]
          refine Seq.pass at17 rfl rfl ?_
          refine Seq.pass at18 rfl rfl ?_
          refine Seq.pass at19 rfl rfl ?_
          refine Seq.pass at20 rfl rfl ?_
          refine Seq.pass at21 rfl rfl ?_
          refine Seq.pass at22 rfl rfl ?_
          refine Seq.pass at23 rfl rfl ?_
          refine Seq.rd0 at24 rfl rfl (O.pickT (v := .bool _) rfl rfl) ?_
          refine Seq.nil ?_
          refine hK22 ?_
          refine Cd.condT rfl ?_
          refine Cd.seq (fun K27 hK27 => ?_)
          refine Cd.region [0] rfl ?_
          refine Seq.rd0 at0 rfl rfl (O.assign (v := .bool _) rfl) ?_
          refine Seq.nil ?_
          refine hK27 ?_
          refine Cd.ret ?_
          exact hR _ _ (Res.one (v := .bool _) rfl rfl) ⟨by rw [gw_false (i := i) (by omega) (by first | exact .inr (seen_look (by assumption)) | exact .inl (badW1 (by assumption)) | exact .inl (badW2 (by assumption)) | exact .inl (badW3 (by assumption) (by assumption)))], rfl⟩ (.cons _ (.cons _ (.refl _)))
        · rw [decide_eq_false t26]
          refine Seq.rd0 at17 rfl rfl (O.field fo_47_2 rfl) ?_
          refine Seq.rd1 at18 rfl rfl (O.load kd_4 rfl (Write_gone _)) Rd.head ?_
          refine Seq.rd0 at19 rfl rfl (O.move (v := .bool _) rfl) ?_
          cases t28 : ws[i].gone
          · skip
            refine Seq.pass at20 rfl rfl ?_
            refine Seq.pass at21 rfl rfl ?_
            refine Seq.pass at22 rfl rfl ?_
            refine Seq.rd0 at23 rfl rfl (O.pickF (v := .bool _) rfl rfl) ?_
            refine Seq.rd0 at24 rfl rfl (O.pickF (v := .bool _) rfl rfl) ?_
            refine Seq.nil ?_
            refine hK22 ?_
            refine Cd.condF rfl ?_
            refine Cd.skip ?_
            refine hK21 ?_
            refine Cd.region [0, 1, 2, 3] rfl ?_
            refine Seq.rd0 at0 rfl rfl (O.move (v := .map _) (by exact s9)) ?_
            refine Seq.rd0 at1 rfl rfl (O.field fo_47_0 rfl) ?_
            refine Seq.rd1 at2 rfl rfl (O.loadA kd_45 rfl (Nat.le_of_ble_eq_true rfl) (Write_key _)) Rd.head ?_
            refine Seq.op at3 rfl (Op.gen rfl (O.mapSet (encV := boolV) (u := true) mp_261 kk_key hM rfl (by exact rfl) rfl (A := [(b20, _)]) rfl) ?_)
            rintro _ _ ⟨rfl, es', ck', hM', rfl⟩
            refine Seq.nil ?_
            refine hK17 ?_
            refine Cd.region [0, 1] rfl ?_
            refine Seq.rd0 at0 rfl rfl (O.add (by exact s12) rfl (by omega) (by omega)) ?_
            refine Seq.rd0 at1 rfl rfl (O.move (v := .int .i64 _) rfl) ?_
            refine Seq.nil ?_
            refine Ent.drop ?_
            exact hK13 _ (by omega) ⟨i + 1, es', ck', rfl, (by exact s9), (by exact s10), (by exact s11), rfl, rfl, by omega, by rw [seen_put hlt19 (by assumption)] at hM'; exact hM', gw_next hlt19 hg (goodW_of (by assumption) (by assumption) (by first | exact .inl (by assumption) | exact .inr (by assumption)))⟩
          · skip
            refine Seq.rd0 at20 rfl rfl (O.field fo_47_1 rfl) ?_
            refine Seq.rd1 at21 rfl rfl (O.load kd_9 rfl (Write_val _)) Rd.head ?_
            refine Seq.rd0 at22 rfl rfl (O.neS rfl rfl) ?_
            refine Seq.rd0 at23 rfl rfl (O.pickT (v := .bool _) rfl rfl) ?_
            refine Seq.rd0 at24 rfl rfl (O.pickF (v := .bool _) rfl rfl) ?_
            refine Seq.nil ?_
            refine hK22 ?_
            refine Cd.ifn (ws[i].val = ⟨#[]⟩) rfl (fun t29 => ?_) (fun t29 => ?_)
            · skip
              refine Cd.seq (fun K30 hK30 => ?_)
              refine Cd.region [0] rfl ?_
              refine Seq.rd0 at0 rfl rfl (O.assign (v := .bool _) rfl) ?_
              refine Seq.nil ?_
              refine hK30 ?_
              refine Cd.ret ?_
              exact hR _ _ (Res.one (v := .bool _) rfl rfl) ⟨by rw [gw_false (i := i) (by omega) (by first | exact .inr (seen_look (by assumption)) | exact .inl (badW1 (by assumption)) | exact .inl (badW2 (by assumption)) | exact .inl (badW3 (by assumption) (by assumption)))], rfl⟩ (.cons _ (.cons _ (.refl _)))
            · skip
              refine Cd.skip ?_
              refine hK21 ?_
              refine Cd.region [0, 1, 2, 3] rfl ?_
              refine Seq.rd0 at0 rfl rfl (O.move (v := .map _) (by exact s9)) ?_
              refine Seq.rd0 at1 rfl rfl (O.field fo_47_0 rfl) ?_
              refine Seq.rd1 at2 rfl rfl (O.loadA kd_45 rfl (Nat.le_of_ble_eq_true rfl) (Write_key _)) Rd.head ?_
              refine Seq.op at3 rfl (Op.gen rfl (O.mapSet (encV := boolV) (u := true) mp_261 kk_key hM rfl (by exact rfl) rfl (A := [(b20, _)]) rfl) ?_)
              rintro _ _ ⟨rfl, es', ck', hM', rfl⟩
              refine Seq.nil ?_
              refine hK17 ?_
              refine Cd.region [0, 1] rfl ?_
              refine Seq.rd0 at0 rfl rfl (O.add (by exact s12) rfl (by omega) (by omega)) ?_
              refine Seq.rd0 at1 rfl rfl (O.move (v := .int .i64 _) rfl) ?_
              refine Seq.nil ?_
              refine Ent.drop ?_
              exact hK13 _ (by omega) ⟨i + 1, es', ck', rfl, (by exact s9), (by exact s10), (by exact s11), rfl, rfl, by omega, by rw [seen_put hlt19 (by assumption)] at hM'; exact hM', gw_next hlt19 hg (goodW_of (by assumption) (by assumption) (by first | exact .inl (by assumption) | exact .inr (by assumption)))⟩
      · skip
        refine Seq.pass at11 rfl rfl ?_
        refine Seq.pass at12 rfl rfl ?_
        refine Seq.pass at13 rfl rfl ?_
        refine Seq.pass at14 rfl rfl ?_
        refine Seq.rd0 at15 rfl rfl (O.pickT (v := .bool _) rfl rfl) ?_
        refine Seq.rd0 at16 rfl rfl (O.move (v := .bool _) rfl) ?_
        refine Seq.pass at17 rfl rfl ?_
        refine Seq.pass at18 rfl rfl ?_
        refine Seq.pass at19 rfl rfl ?_
        refine Seq.pass at20 rfl rfl ?_
        refine Seq.pass at21 rfl rfl ?_
        refine Seq.pass at22 rfl rfl ?_
        refine Seq.pass at23 rfl rfl ?_
        refine Seq.rd0 at24 rfl rfl (O.pickT (v := .bool _) rfl rfl) ?_
        refine Seq.nil ?_
        refine hK22 ?_
        refine Cd.condT rfl ?_
        refine Cd.seq (fun K31 hK31 => ?_)
        refine Cd.region [0] rfl ?_
        refine Seq.rd0 at0 rfl rfl (O.assign (v := .bool _) rfl) ?_
        refine Seq.nil ?_
        refine hK31 ?_
        refine Cd.ret ?_
        exact hR _ _ (Res.one (v := .bool _) rfl rfl) ⟨by rw [gw_false (i := i) (by omega) (by first | exact .inr (seen_look (by assumption)) | exact .inl (badW1 (by assumption)) | exact .inl (badW2 (by assumption)) | exact .inl (badW3 (by assumption) (by assumption)))], rfl⟩ (.cons _ (.cons _ (.refl _)))
  · skip
    refine Cd.exit ?_
    refine hK4 ?_
    refine Cd.seq (fun K32 hK32 => ?_)
    refine Cd.region [0] rfl ?_
    refine Seq.rd0 at0 rfl rfl (O.assign (v := .bool _) rfl) ?_
    refine Seq.nil ?_
    refine hK32 ?_
    refine Cd.ret ?_
    exact hR _ _ (Res.one (v := .bool _) rfl rfl) ⟨by rw [gw_true (by omega) hg hM], rfl⟩ (.cons _ (.refl _))

end Go.X

namespace Go.X
open Go.Proofs
theorem hb_105 : hasBody Tryz.prog 105 = true := by kernel_rfl
theorem hb_169 : hasBody Tryz.prog 169 = true := by kernel_rfl
theorem hb_98 : hasBody Tryz.prog 98 = true := by kernel_rfl
theorem kd_25 : kindOf Tryz.prog 25 = some (false, 1) := by kernel_rfl
/-- may an entry be, but for its stamp? may it be? -/
def mayE (e : Entry) (ws : List Write) : Bool := decide (1 ≤ e.id) && (e.snap.good && (manyWs ws && goodWs ws))
def goodE (e : Entry) (ws : List Write) : Bool := mayE e ws && (e.stamp.good && decide (0 < e.stamp.cmp e.snap))

end Go.X

namespace Go.X
open Go.Proofs
theorem ei_239 : elemInfo Tryz.prog 239 = some (242, 4, 40, .agg #[.int .i64 0, .int .u8 0, .string ⟨#[]⟩, .bool false]) := by kernel_rfl
theorem ei_25 : elemInfo Tryz.prog 25 = some (47, 18, 40, .agg #[.int .u8 0, .int .u8 0, .int .u8 0, .int .u8 0, .int .u8 0, .int .u8 0, .int .u8 0, .int .u8 0, .int .u8 0, .int .u8 0, .int .u8 0, .int .u8 0, .int .u8 0, .int .u8 0, .int .u8 0, .int .u8 0, .string ⟨#[]⟩, .bool false]) := by kernel_rfl
theorem SlAt.nil {c : Cx} {L : List Pt} {α : Type} {enc : α → Array Value} {av : Option Addr} {n : Nat} {xs : List α} (h : SlAt c L enc av n xs) (hn : av.isNone = true) : n = 0 ∧ xs = [] := by
  cases xs with
  | nil => exact ⟨h.len, rfl⟩
  | cons x l =>
    obtain ⟨pre, sp, el, fz, h1, _⟩ := h.get (by simp)
    rw [h1] at hn; cases hn

theorem rows_ones {α : Type} {enc : α → Array Value} (h : ∀ x, ∀ u ∈ (Value.agg (enc x)).cells.toList, Value.oneCell' u = true) {xs : List α} : ∀ u ∈ (rows enc xs).toList, Value.oneCell' u = true := by
  intro u hu
  simp only [rows, List.mem_flatMap] at hu
  obtain ⟨x, _, h2⟩ := hu
  exact h x u h2

set_option maxRecDepth 100000 in
set_option maxHeartbeats 2000000 in
theorem C_Clone_Version {c : Cx} {L : List Pt} {av : Option Addr} {n cap : Nat} {xs : List Version} (hX : SlAt c L Version_enc av n xs) (hb : n ≤ 1000000000) : Fn Tryz.prog 240 #[.slice av n cap] c L (fun v L' => ∃ av' cap' Ls, v = .slice av' n cap' ∧ OwnSl 242 4 (rows Version_enc xs) n v Ls ∧ L' = Ls ++ L) := by
  refine Fn.enter Tryz.func240 rfl 8 rfl rfl (fun R hR => ?_)
  refine Cd.seq (fun K1 hK1 => ?_)
  refine Cd.region [0] rfl ?_
  refine Seq.rd0 at0 rfl rfl (O.assign (v := .slice _ _ _) rfl) ?_
  refine Seq.nil ?_
  refine hK1 ?_
  refine Cd.seq (fun K2 hK2 => ?_)
  refine Cd.seq (fun K3 hK3 => ?_)
  refine Cd.region [0, 1] rfl ?_
  refine Seq.rd0 at0 rfl rfl (O.move (v := .slice _ _ _) rfl) ?_
  refine Seq.rd0 at1 rfl rfl (O.eqSlNil ds_239 rfl rfl) ?_
  refine Seq.nil ?_
  refine hK3 ?_
  refine Cd.cond (av.isNone) rfl (fun t4 => ?_) (fun t4 => ?_)
  · skip
    refine Cd.seq (fun K5 hK5 => ?_)
    refine Cd.region [0] rfl ?_
    refine Seq.rd0 at0 rfl rfl (O.assign (v := .slice _ _ _) rfl) ?_
    refine Seq.nil ?_
    refine hK5 ?_
    refine Cd.ret ?_
    exact hR _ _ (Res.one (v := .slice _ _ _) rfl rfl) ⟨none, 0, [], by rw [(hX.nil (by assumption)).1], by obtain ⟨h1, h2⟩ := hX.nil (by assumption); subst h2; exact .inl ⟨h1, rfl, rfl, rfl⟩, rfl⟩ (.refl _)
  · skip
    refine Cd.skip ?_
    refine hK2 ?_
    refine Cd.seq (fun K6 hK6 => ?_)
    refine Cd.region [0, 1, 2, 3] rfl ?_
    refine Seq.op at0 rfl (Op.new rfl (O.buildSlice (el := 242) rfl (cs := (rows Version_enc [])) (by kernel_rfl)) ?_)
    intro b7 hb7
    refine Seq.rd0 at1 rfl rfl (O.move (v := .slice _ _ _) rfl) ?_
    refine Seq.op at2 rfl (Op.gen rfl (O.appendTo (k := n) (new := rows Version_enc xs) (Ls := [(b7, _)]) (R := L) ei_239 ds_239 (by decide) rfl (.inr ⟨b7, 0, #[], rfl, Nat.le_refl _, rfl, rfl, rfl⟩) (hX.cons.src Version_size) (rows_ones Version_one) (by omega)) ?_)
    rintro _ _ ⟨b9, cap9, Ls1, rfl, ho, rfl⟩
    refine Seq.rd0 at3 rfl rfl (O.assign (v := .slice _ _ _) rfl) ?_
    refine Seq.nil ?_
    refine hK6 ?_
    refine Cd.ret ?_
    exact hR _ _ (Res.one (v := .slice _ _ _) rfl rfl) ⟨_, _, Ls1, by rw [Nat.zero_add], by simpa [rows] using ho, rfl⟩ (.refl _)

end Go.X

namespace Go.X
open Go.Proofs
theorem hb_240 : hasBody Tryz.prog 240 = true := by kernel_rfl
end Go.X

namespace Go.X
open Go.Proofs
theorem hb_199 : hasBody Tryz.prog 199 = true := by kernel_rfl
theorem hb_201 : hasBody Tryz.prog 201 = true := by kernel_rfl
set_option maxRecDepth 100000 in
set_option maxHeartbeats 2000000 in
theorem C_mapsKeys_chain {c : Cx} {L : List Pt} {mb : Nat} : Fn Tryz.prog 201 #[.map (some mb)] c L (fun v L' => ∃ bb, c.w0.heap.size ≤ bb ∧ v = .func (.func 239) #[] #[.pointer (some ⟨bb, 0, none⟩)] ∧ L' = (bb, .cells #[.map (some mb)] 243 (0, 0)) :: L) := by
  refine Fn.enter Tryz.func201 rfl 4 rfl rfl (fun R hR => ?_)
  refine Cd.seq (fun K1 hK1 => ?_)
  refine Cd.region [0, 1] rfl ?_
  refine Seq.op at0 rfl (Op.new rfl (O.box (v := .map _) rfl rfl) ?_)
  intro b2 hb2
  refine Seq.rd0 at1 rfl rfl (O.assign (v := .nilFunc) rfl) ?_
  refine Seq.nil ?_
  refine hK1 ?_
  refine Cd.seq (fun K3 hK3 => ?_)
  refine Cd.region [0, 1] rfl ?_
  refine Seq.rd0 at0 rfl rfl (O.mkFunc (fs' := #[]) (cs' := #[.pointer (some ⟨b2, 0, none⟩)]) (by kernel_rfl) (by kernel_rfl)) ?_
  refine Seq.rd0 at1 rfl rfl (O.assign (v := .func _ _ _) rfl) ?_
  refine Seq.nil ?_
  refine hK3 ?_
  refine Cd.ret ?_
  exact hR _ _ (Res.one (v := .func _ _ _) rfl rfl) ⟨b2, hb2, rfl, rfl⟩ (.refl _)

set_option maxRecDepth 100000 in
set_option maxHeartbeats 2000000 in
theorem C_store_Keys {c : Cx} {L : List Pt} {sb : Nat} {l : List (Key × CV)} (hS : StAt c L sb l) : Fn Tryz.prog 135 #[.pointer (some ⟨sb, 0, none⟩)] c L (fun v L' => ∃ ys Ls, ys.Perm (l.map Prod.fst) ∧ KOrd ys ∧ OwnK ys v Ls ∧ L' = Ls ++ L) := by
  have hSz := hS.size
  obtain ⟨⟨mb, es, ck, hsb, hmb, hm⟩, hch, _⟩ := id hS
  refine Fn.enter Tryz.func135 rfl 9 rfl rfl (fun R hR => ?_)
  refine Cd.seq (fun K1 hK1 => ?_)
  refine Cd.region [0] rfl ?_
  refine Seq.rd0 at0 rfl rfl (O.assign (v := .slice _ _ _) rfl) ?_
  refine Seq.nil ?_
  refine hK1 ?_
  refine Cd.seq (fun K2 hK2 => ?_)
  refine Cd.region [0, 1, 2, 3, 4, 5, 6] rfl ?_
  refine Seq.rd0 at0 rfl rfl (O.move (v := .pointer _) rfl) ?_
  refine Seq.rd0 at1 rfl rfl (O.nilP rfl) ?_
  refine Seq.rd0 at2 rfl rfl (O.field fo_245_0 rfl) ?_
  refine Seq.rd1 at3 rfl rfl (O.load kd_243 rfl r1_0) hsb ?_
  refine Seq.op at4 rfl (Op.callF rfl hb_201 C_mapsKeys_chain rfl ?_)
  rintro _ _ ⟨bb3, hbb3, rfl, rfl⟩
  refine Seq.op at5 rfl (Op.callF rfl hb_199 (C_SortedFunc_Key (gf := 239) (lb := [.pointer (some ⟨bb3, 0, none⟩)]) hSz (by kernel_rfl) (C_keysChain hm Rd.head hmb.cons) (fun _ h => Nat.le_of_eq (h.length_eq.trans (List.length_map _)))) rfl ?_)
  rintro v4 _ ⟨xs5, ys6, Ls7, hSxs5, hpys6, hoys6, hwys6, rfl⟩
  refine Ent.perm ?_ (bring (Ls := Ls7) (pre := [(bb3, _)]) (R := L)).symm
  refine Seq.rd0 at6 rfl rfl (O.assign (v := v4) rfl) ?_
  refine Seq.nil ?_
  refine hK2 ?_
  refine Cd.ret ?_
  exact hR _ _ (Res.one (v := v4) rfl rfl) ⟨ys6, Ls7, hpys6.trans hSxs5, hoys6, hwys6, rfl⟩ (.cons _ (.refl _))

theorem kk_i64 : IsKey Tryz.prog 2 i64V := isKey_I64 (by kernel_rfl)
/-- an entry, and its writes -/
abbrev EV := Entry × List Write
def evV (x : EV) : Value := .agg (Entry_enc x.1)
def i64z : I64 := ⟨0, by decide⟩
def evz : EV := (.zero, [])
def intV (x : Int) : Value := .int .i64 x
/-- a table that can be read -/
structure TbAt (c : Cx) (L : List Pt) (tb : Nat) (el : List (I64 × EV)) (hl : List (Key × I64)) : Prop where
  ex : ∃ lm es1 ck1 hm es2 ck2, Rd c L tb (.cells #[.map (some lm), .map (some hm)] 249 (0, 0)) ∧ Rd c L lm (.map es1 ck1) ∧ MapIs i64V evV es1 ck1 el ∧ Rd c L hm (.map es2 ck2) ∧ MapIs keyV i64V es2 ck2 hl
  ws : ∀ id q, alook el id = some q → SlAt c L Write_enc q.1.ws.a q.1.ws.n q.2 ∧ q.2.length ≤ 16
  size : el.length ≤ 1000000000 ∧ hl.length ≤ 1000000000
theorem TbAt.sub {c : Cx} {L L' : List Pt} {tb : Nat} {el : List (I64 × EV)} {hl : List (Key × I64)} (h : TbAt c L tb el hl) (hs : L.Sublist L') : TbAt c L' tb el hl := by
  obtain ⟨⟨lm, es1, ck1, hm, es2, ck2, h1, h2, h3, h4, h5⟩, h6, h7⟩ := h
  exact ⟨⟨lm, es1, ck1, hm, es2, ck2, h1.sub hs, h2.sub hs, h3, h4.sub hs, h5⟩, fun id q hq => ⟨(h6 id q hq).1.sub hs, (h6 id q hq).2⟩, h7⟩
theorem TbAt.cons {c : Cx} {L : List Pt} {tb : Nat} {el : List (I64 × EV)} {hl : List (Key × I64)} {p : Pt} (h : TbAt c L tb el hl) : TbAt c (p :: L) tb el hl := h.sub (List.sublist_cons_self _ _)
theorem TbAt.app {c : Cx} {L G : List Pt} {tb : Nat} {el : List (I64 × EV)} {hl : List (Key × I64)} (h : TbAt c L tb el hl) : TbAt c (G ++ L) tb el hl := h.sub (List.sublist_append_right _ _)

end Go.X

namespace Go.X
open Go.Proofs
/-- a closure that tells p of a write, in L and in whatever is more -/
def PredOk (P : Program) (c : Cx) (L : List Pt) (f : FuncId) (cs : List Value) (p : Write → Bool) : Prop :=
  hasBody P f = true ∧ ∀ (x : Write) (L' : List Pt), L.Sublist L' → Fn P f (.agg (Write_enc x) :: cs).toArray c L' (fun v L'' => v = .bool (p x) ∧ L'' = L')
end Go.X

namespace Go.X
open Go.Proofs
/-- whom a read of a key at a time must wait for -/
def blocksT (el : List (I64 × EV)) (hl : List (Key × I64)) (k : Key) (s : Stamp) : Int × Bool :=
  if (alook hl k).isSome then (if 0 < ((alook el ((alook hl k).getD i64z)).getD evz).1.stamp.cmp s then (0, false) else (((alook hl k).getD i64z).1, true)) else (0, false)

end Go.X

namespace Go.X
open Go.Proofs
/-- the entry that a look-up gives -/
def entT (el : List (I64 × EV)) (id : I64) : EV := (alook el id).getD evz
theorem TbAt.ent {c : Cx} {L : List Pt} {tb : Nat} {el : List (I64 × EV)} {hl : List (Key × I64)} (h : TbAt c L tb el hl) (id : I64) :
    SlAt c L Write_enc (entT el id).1.ws.a (entT el id).1.ws.n (entT el id).2 ∧ (entT el id).1.ws.n ≤ 1000000000 := by
  unfold entT
  cases hq : alook el id with
  | none => exact ⟨⟨rfl, by decide, fun h => absurd rfl h⟩, by decide⟩
  | some q =>
    obtain ⟨h1, h2⟩ := h.ws id q hq
    refine ⟨h1, ?_⟩
    have := h1.len
    show q.1.ws.n ≤ _
    omega

/-- what is over -/
def intV' (x : Int) : Value := .int .i64 x
/-- a part that can be read -/
structure PtAt (c : Cx) (L : List Pt) (pb : Nat) (l : List (Key × CV)) (el : List (I64 × EV)) (hl : List (Key × I64)) (ol : List (I64 × Int)) : Prop where
  ex : ∃ sb tb om es ck, Rd c L pb (.cells #[.pointer (some ⟨sb, 0, none⟩), .pointer (some ⟨tb, 0, none⟩), .map (some om)] 144 (0, 0)) ∧ StAt c L sb l ∧ TbAt c L tb el hl ∧ Rd c L om (.map es ck) ∧ MapIs i64V intV es ck ol
theorem PtAt.sub {c : Cx} {L L' : List Pt} {pb : Nat} {l : List (Key × CV)} {el : List (I64 × EV)} {hl : List (Key × I64)} {ol : List (I64 × Int)} (h : PtAt c L pb l el hl ol) (hs : L.Sublist L') : PtAt c L' pb l el hl ol := by
  obtain ⟨⟨sb, tb, om, es, ck, h1, h2, h3, h4, h5⟩⟩ := h
  exact ⟨⟨sb, tb, om, es, ck, h1.sub hs, h2.sub hs, h3.sub hs, h4.sub hs, h5⟩⟩
theorem PtAt.cons {c : Cx} {L : List Pt} {pb : Nat} {l : List (Key × CV)} {el : List (I64 × EV)} {hl : List (Key × I64)} {ol : List (I64 × Int)} {p : Pt} (h : PtAt c L pb l el hl ol) : PtAt c (p :: L) pb l el hl ol := h.sub (List.sublist_cons_self _ _)
theorem PtAt.app {c : Cx} {L G : List Pt} {pb : Nat} {l : List (Key × CV)} {el : List (I64 × EV)} {hl : List (Key × I64)} {ol : List (I64 × Int)} (h : PtAt c L pb l el hl ol) : PtAt c (G ++ L) pb l el hl ol := h.sub (List.sublist_append_right _ _)
/-- what became of a transaction -/
def stateP (ol : List (I64 × Int)) (el : List (I64 × EV)) (ti : I64) : Int := if (alook ol ti).isSome then (alook ol ti).getD 0 else if (alook el ti).isSome then 1 else 0

end Go.X

namespace Go.X
open Go.Proofs
theorem hb_100 : hasBody Tryz.prog 100 = true := by kernel_rfl
theorem kd_137 : kindOf Tryz.prog 137 = some (false, 1) := by kernel_rfl
/-- what a read gives -/
def readP (l : List (Key × CV)) (el : List (I64 × EV)) (hl : List (Key × I64)) (k : Key) (s : Stamp) (now : Int) : ByteArray × Bool × Int :=
  if goodK k = true ∧ s.good then (if (blocksT el hl k s).2 = true ∨ now < s.t then (⟨#[]⟩, false, 8) else ((getV l k s).1, (getV l k s).2, 0)) else (⟨#[]⟩, false, 1)

end Go.X

namespace Go.X
open Go.Proofs
theorem hb_131 : hasBody Tryz.prog 131 = true := by kernel_rfl
/-- is a key's newest version above a stamp? -/
def aboveS (l : List (Key × CV)) (s : Stamp) (x : Write) : Bool := (newestV (getS l x.key)).isSome && decide (0 < ((newestV (getS l x.key)).getD .zero).stamp.cmp s)
def conflictP (l : List (Key × CV)) (hl : List (Key × I64)) (s : Stamp) (ws : List Write) : Bool := (ws.any fun x => (alook hl x.key).isSome) || ws.any (aboveS l s)

def canAbortP (ol : List (I64 × Int)) (el : List (I64 × EV)) (ti : I64) : Int := if ti.1 < 1 then 1 else if stateP ol el ti = 2 then 10 else 0

end Go.X

namespace Go.X
open Go.Proofs
theorem hb_87 : hasBody Tryz.prog 87 = true := by kernel_rfl
set_option maxRecDepth 100000 in
set_option maxHeartbeats 2000000 in
theorem C_store_New {c : Cx} {L : List Pt}  : Fn Tryz.prog 87 #[] c L (fun v L' => ∃ sb mb, c.w0.heap.size ≤ sb ∧ c.w0.heap.size ≤ mb ∧ v = .pointer (some ⟨sb, 0, none⟩) ∧ L' = (sb, .cells #[.map (some mb)] 245 (0, 0)) :: (mb, .map #[] 0) :: L) := by
  refine Fn.enter Tryz.func87 rfl 4 rfl rfl (fun R hR => ?_)
  refine Cd.seq (fun K1 hK1 => ?_)
  refine Cd.region [0] rfl ?_
  refine Seq.rd0 at0 rfl rfl (O.assign (v := .pointer _) rfl) ?_
  refine Seq.nil ?_
  refine hK1 ?_
  refine Cd.seq (fun K2 hK2 => ?_)
  refine Cd.region [0, 1, 2, 3] rfl ?_
  refine Seq.op at0 rfl (Op.new rfl (O.makeMap) ?_)
  intro b3 hb3
  refine Seq.rd0 at1 rfl rfl (O.build rfl (cs := #[.map (some b3)]) (by kernel_rfl)) ?_
  refine Seq.op at2 rfl (Op.new rfl (O.box (v := .agg _) rfl (cs := #[.map (some b3)]) rfl) ?_)
  intro b4 hb4
  refine Seq.rd0 at3 rfl rfl (O.assign (v := .pointer _) rfl) ?_
  refine Seq.nil ?_
  refine hK2 ?_
  refine Cd.ret ?_
  exact hR _ _ (Res.one (v := .pointer _) rfl rfl) ⟨b4, b3, hb4, hb3, rfl, rfl⟩ (.refl _)

end Go.X

/- The engine, part 16: stores into rows; clear. -/
namespace Go.X
section
variable {P : Program} {n : Sz} {e : Env} {d : Option Tmp} {ty : TypeId} {p : String} {af : Array Edge} {g : Option (Nat × Bool)}
variable {c : Cx} {L : List Pt} {x y z : Operand} {v v' : Value}
variable {α : Type} {enc : α → Array Value} {sz : Nat}
theorem rows_split (hs : ∀ x, (enc x).size = sz) {l : List α} {i : Nat} (hi : i < l.length) : (rows enc l).toList = (rows enc (l.take i)).toList ++ ((enc l[i]).toList ++ (rows enc (l.drop (i + 1))).toList) ∧ (rows enc (l.take i)).size = i * sz := by
  constructor
  · have h1 : l = l.take i ++ l[i] :: l.drop (i + 1) := by rw [← List.drop_eq_getElem_cons hi]; simp
    have h2 := congrArg (fun l => (rows enc l).toList) h1
    simp only [rows, List.flatMap_append, List.flatMap_cons] at h2 ⊢
    exact h2
  · rw [rows_size hs, List.length_take, Nat.min_eq_left (by omega)]
/-- a store of one element into a row -/
theorem rows_put (hs : ∀ x, (enc x).size = sz) {l : List α} {i : Int} {sp : Array Value} {a : α} (h0 : 0 ≤ i) (hi : i < (l.length : Nat)) :
    putL (rows enc l ++ sp) (0 + i.toNat * sz) (enc a).toList = rows enc (l.set i.toNat a) ++ sp := by
  have hi' : i.toNat < l.length := by omega
  obtain ⟨h1, h2⟩ := rows_split hs hi'
  obtain ⟨h3, h4⟩ := rows_split (l := l.set i.toNat a) hs (i := i.toNat) (by simpa using hi')
  apply Array.ext'
  have := putL_mid (enc a).toList (rows enc (l.take i.toNat)).toList (enc l[i.toNat]).toList ((rows enc (l.drop (i.toNat + 1))).toList ++ sp.toList) (rows enc l ++ sp) (by rw [Array.toList_append, h1]; simp) (by simp [hs])
  simp only [Array.length_toList, h2] at this
  rw [Nat.zero_add, this, Array.toList_append, h3]
  simp only [List.getElem_set_self, List.append_assoc]
  rw [List.take_set, List.set_eq_of_length_le (by simp; omega), List.drop_set_of_lt (by omega)]
theorem rows_room_put (hs : ∀ x, (enc x).size = sz) {l : List α} {i : Int} {sp : Array Value} (h0 : 0 ≤ i) (hi : i < (l.length : Nat)) : 0 + i.toNat * sz + sz ≤ (rows enc l ++ sp).size := by
  rw [Array.size_append, rows_size hs, Nat.zero_add]
  have : (i.toNat + 1) * sz ≤ l.length * sz := Nat.mul_le_mul_right _ (by omega)
  rw [Nat.succ_mul] at this
  omega

/-- 'clear' of a row's end -/
theorem O.clear {t el sz' by_ b o m cap : Nat} {zv : Value} {cs cs' : Array Value} {el' : TypeId} (ht : elemInfo P t = some (el, sz', by_, zv)) (hx : ev e x = .slice (some ⟨b, o, none⟩) m cap)
    (hone : ∀ u ∈ zv.cells.toList, Value.oneCell' u = true) (hroom : o + m * sz' ≤ cs.size) (hcs : m ≠ 0 → putL cs o (Builtin.zeroCells zv.cells m).toList = cs') (h0 : m = 0 → cs' = cs) :
    Eg P e ⟨d, .call { callee := .builtin .clear, args := #[x], argTypes := #[t] }, ty, p, af, g⟩ c ((b, .cells cs el' (0, 0)) :: L)
      (fun v L' => v = .tuple #[] ∧ L' = (b, .cells cs' el' (0, 0)) :: L) := by
  intro w hw
  obtain ⟨hu, i, hi, rfl, rfl, hz, hzs⟩ := elem_parts ht
  have hzz : zeroOf P el = some zv := by simp [zeroOf, hi, hz]
  cases m with
  | zero =>
    obtain rfl := h0 rfl
    refine ⟨_, w, _, .inl ?_, ⟨rfl, rfl⟩, hw⟩
    simp [execOp, resolve, invoke, builtin, Builtin.clear_, hx, run_under hu]
  | succ m =>
    have hsz : (Builtin.zeroCells zv.cells (m + 1)).size = (m + 1) * i.size := by rw [zeroCells_size, hzs]
    have hst := run_storeL (P := P) (el := el') (Builtin.zeroCells zv.cells (m + 1)).toList w o 0 cs (hw.look _ (List.mem_cons_self)) (by rw [Array.length_toList, hsz]; omega) (by
      intro u hu2
      simp only [Builtin.zeroCells, Array.toList_map, List.mem_map] at hu2
      obtain ⟨j, hj, rfl⟩ := hu2
      have hj2 : j < (m + 1) * zv.cells.size := by simpa using hj
      have hpos : 0 < zv.cells.size := by
        rcases Nat.eq_zero_or_pos zv.cells.size with h | h
        · rw [h] at hj2; simp at hj2
        · exact h
      have hlt := Nat.mod_lt j hpos
      rw [getElem!_pos zv.cells _ hlt]
      exact hone _ (by simp))
    have hcs2 : putL cs (o + 0) (Builtin.zeroCells zv.cells (m + 1)).toList = cs' := hcs (by omega)
    rw [hcs2] at hst
    refine ⟨_, _, _, .inl ?_, ⟨rfl, rfl⟩, St.set (A := []) hw⟩
    simp [execOp, resolve, invoke, builtin, Builtin.clear_, hx, run_under hu, run_zero hzz, hst]
end
end Go.X

namespace Go.X
open Go.Proofs

theorem run_eqStamp (x y : Stamp) (w : World) : (Op.equal 24 (.agg (Stamp_enc x)) (.agg (Stamp_enc y))).run Tryz.prog w = .ok (decide (x = y)) w := by
  have uT : Tryz.prog.underlying 2 = some (.int .i64) := by kernel_rfl
  have uN : Tryz.prog.underlying 5 = some (.int .u8) := by kernel_rfl
  have aT : ∀ w, (isAgg 2).run Tryz.prog w = .ok false w := fun w => by kernel_rfl
  have aN : ∀ w, (isAgg 5).run Tryz.prog w = .ok false w := fun w => by kernel_rfl
  have zT : ∀ w, (Go.sizeOf 2).run Tryz.prog w = .ok 1 w := fun w => by kernel_rfl
  have zN : ∀ w, (Go.sizeOf 5).run Tryz.prog w = .ok 1 w := fun w => by kernel_rfl
  have hS : Tryz.prog.underlying 24 = some (.struct (Tryz.prog.fieldsOf 24)) := by kernel_rfl
  have hp : Tryz.prog.stoodInHeld 24 = false := by kernel_rfl
  have hdec : decide (x = y) = (x.t == y.t && x.n == y.n) := by
    cases x; cases y; rw [Bool.eq_iff_iff]; simp [Stamp.mk.injEq]
  rw [hdec]
  show (Op.equalIn 10000 24 (.agg (Stamp_enc x)) (.agg (Stamp_enc y))).run Tryz.prog w = _
  simp only [Stamp_enc]
  rw [show (10000 : Nat) = 9999 + 1 from rfl, run_equalIn_agg w 9999 24 _ _ hS hp]
  simp only [Program.fieldsOf, Tryz.underlying24]
  go_simp
  by_cases h1 : x.t = y.t <;> by_cases h2 : x.n = y.n <;> simp [h1, h2]

section
variable {e : Env} {d : Option Tmp} {ty : TypeId} {p : String} {af : Array Edge} {g : Option (Nat × Bool)} {x y : Operand} {t' : TypeId} {a b : Stamp}
theorem eqStamp (hx : ev e x = .agg (Stamp_enc a)) (hy : ev e y = .agg (Stamp_enc b)) : Rn0 Tryz.prog e ⟨d, .binOp .eql 24 x y t', ty, p, af, g⟩ (.bool (decide (a = b))) := fun w =>
  run_binop hx hy (by simp [eqGuard, (by kernel_rfl : Tryz.prog.eqGuardType Tryz.prog.depth 24 = false)]) (run_eql rfl (run_eqStamp a b w))
end
/-- why may a transaction not be committed? -/
def usedS (l : List (Key × CV)) (s : Stamp) (x : Write) : Bool := (getS l x.key).any fun v => decide (v.stamp = s)
def canCommitP (l : List (Key × CV)) (ol : List (I64 × Int)) (el : List (I64 × EV)) (ti : I64) (s : Stamp) : Int :=
  if s.good then (if stateP ol el ti = 0 then 4 else if stateP ol el ti = 3 then 10 else if stateP ol el ti = 2 then 0 else
    if s.cmp (entT el ti).1.stamp < 0 then 1 else if (entT el ti).2.any (usedS l s) then 5 else 0) else 1
theorem takeA_next {α : Type} {ws : List α} {p : α → Bool} {i : Nat} (hi : i < ws.length) (h : ∀ w ∈ ws.take i, p w = false) (hp : p ws[i] = false) : ∀ w ∈ ws.take (i + 1), p w = false := by
  intro w hw
  rw [List.take_add_one, List.getElem?_eq_getElem hi] at hw
  simp only [Option.toList_some, List.mem_append, List.mem_singleton] at hw
  rcases hw with hw | rfl
  · exact h w hw
  · exact hp
theorem anyA_none {α : Type} {ws : List α} {p : α → Bool} {i : Nat} (hi : i = ws.length) (h : ∀ w ∈ ws.take i, p w = false) : ws.any p = false := by
  subst hi; rw [List.take_length] at h; rw [List.any_eq_false]; intro x hx; rw [h x hx]; decide
theorem anyA_some {α : Type} {ws : List α} {p : α → Bool} {i : Nat} (hi : i < ws.length) (h : p ws[i] = true) : ws.any p = true := List.any_eq_true.2 ⟨_, List.getElem_mem hi, h⟩

end Go.X

namespace Go.X
open Go.Proofs
section
variable {l : List (Key × CV)} {ol : List (I64 × Int)} {el : List (I64 × EV)} {ti : I64} {s : Stamp}
end

end Go.X

namespace Go.X
open Go.Proofs
theorem ds_243 : isDesc Tryz.prog 243 = 6 := by kernel_rfl
theorem hb_205 : hasBody Tryz.prog 205 = true := by kernel_rfl
theorem O.lookP {P : Program} {e : Env} {d : Option Tmp} {ty : TypeId} {p : String} {af : Array Edge} {g : Option (Nat × Bool)} {x y : Operand} {t k el b : Nat} {es : Array MapEntry} {ck : Nat} {l : List (Key × CV)} {a : Key}
    (ht : P.underlying t = some (.map k el)) (KK : IsKey P k keyV) (h : MapIs keyV cvV es ck l) (hz : zeroOf P el = some (.pointer none)) (hx : ev e x = .map (some b)) (hy : ev e y = keyV a) :
    Rn1 P e ⟨d, .lookup t x y false, ty, p, af, g⟩ b (.map es ck) (.pointer ((alook l a).map fun q => ⟨q.1, 0, none⟩)) := by
  cases hl : alook l a with
  | some u => exact O.lookS (encV := cvV) (ok := false) ht KK h hx hy hl
  | none => exact O.lookN (encV := cvV) (ok := false) ht KK h hz hx hy hl
/-- how many of the first i writes are of keys that a store has not -/
def newN (l : List (Key × CV)) (ws : List Write) (i : Nat) : Nat := ((ws.take i).filter fun w => ((alook l w.key).map fun q => (⟨q.1, 0, none⟩ : Addr)).isNone).length
def fullS (l : List (Key × CV)) (w : Write) : Bool := decide ((50 : Int) ≤ ((getS l w.key).length : Nat))
def roomS (l : List (Key × CV)) (ws : List Write) : Bool := if ws.any (fullS l) then false else decide (l.length + newN l ws ws.length ≤ 200)
theorem newN_le {l : List (Key × CV)} {ws : List Write} {i : Nat} : newN l ws i ≤ i := Nat.le_trans (List.length_filter_le _ _) (by rw [List.length_take]; omega)
theorem newN_step {l : List (Key × CV)} {ws : List Write} {i : Nat} (hi : i < ws.length) : newN l ws (i + 1) = newN l ws i + (if ((alook l ws[i].key).map fun q => (⟨q.1, 0, none⟩ : Addr)).isNone then 1 else 0) := by
  unfold newN
  rw [List.take_add_one, List.getElem?_eq_getElem hi, Option.toList_some, List.filter_append, List.length_append]
  congr 1
  rw [List.filter_cons]
  split <;> rfl

set_option maxRecDepth 100000 in
set_option maxHeartbeats 2000000 in
theorem C_store_room {c : Cx} {L : List Pt} {sb : Nat} {l : List (Key × CV)} (hS : StAt c L sb l) {av : Option Addr} {nw cw : Nat} {ws : List Write} (hW : SlAt c L Write_enc av nw ws) : Fn Tryz.prog 172 #[.pointer (some ⟨sb, 0, none⟩), .slice av nw cw] c L (fun v L' => v = .bool (roomS l ws) ∧ L' = L) := by
  have hSz := hS.size
  obtain ⟨⟨mb, es, ck, hsb, hmb, hm⟩, hch, _⟩ := id hS
  have hwl := hW.len
  have hwt := hW.lt
  have hms := hm.size
  refine Fn.enter Tryz.func172 rfl 38 rfl rfl (fun R hR => ?_)
  refine Cd.seq (fun K1 hK1 => ?_)
  refine Cd.region [0] rfl ?_
  refine Seq.rd0 at0 rfl rfl (O.assign (v := .bool _) rfl) ?_
  refine Seq.nil ?_
  refine hK1 ?_
  refine Cd.seq (fun K2 hK2 => ?_)
  refine Cd.region [0, 1, 2, 3, 4, 5] rfl ?_
  refine Seq.rd0 at0 rfl rfl (O.move (v := .pointer _) rfl) ?_
  refine Seq.rd0 at1 rfl rfl (O.nilP rfl) ?_
  refine Seq.rd0 at2 rfl rfl (O.field fo_245_0 rfl) ?_
  refine Seq.rd1 at3 rfl rfl (O.load kd_243 rfl r1_0) hsb ?_
  refine Seq.rd1 at4 rfl rfl (O.lenM ds_243 rfl) hmb ?_
  refine Seq.rd0 at5 rfl rfl (O.assign (v := .int .i64 _) rfl) ?_
  refine Seq.nil ?_
  refine hK2 ?_
  refine Cd.seq (fun K3 hK3 => ?_)
  refine Cd.seq (fun K4 hK4 => ?_)
  refine Cd.region [0, 1, 2] rfl ?_
  refine Seq.rd0 at0 rfl rfl (O.move (v := .slice _ _ _) rfl) ?_
  refine Seq.rd0 at1 rfl rfl (O.lenS ds_25 rfl) ?_
  refine Seq.rd0 at2 rfl rfl (O.move (v := .int .i64 _) rfl) ?_
  refine Seq.nil ?_
  refine hK4 ?_
  refine Cd.block ?_
  refine Cd.loop (fun m5 e6 L7 => ∃ i : Nat, ∃ nv : Int, m5 = ws.length - i ∧ e6 0 = .pointer (some ⟨sb, 0, none⟩) ∧ e6 5 = .int .i64 nv ∧ e6 13 = .slice av nw cw ∧ e6 14 = .int .i64 (nw : Int) ∧ e6 15 = .int .i64 (i : Int) ∧ L7 = L ∧ nv = ((l.length + newN l ws i : Nat) : Int) ∧ i ≤ ws.length ∧ (∀ x ∈ ws.take i, fullS l x = false)) _ ⟨0, (es.size : Int), rfl, rfl, rfl, rfl, rfl, rfl, rfl, by rw [hms]; rfl, Nat.zero_le _, fun w hw => by simp at hw⟩ ?_
  rintro _ e6 _ ⟨i, nv, rfl, s8, s9, s10, s11, s12, rfl, hnv, hi, hz⟩ K13 hK13
  have hnl := newN_le (l := l) (ws := ws) (i := i)
  refine Cd.seq (fun K14 hK14 => ?_)
  refine Cd.region [0] rfl ?_
  refine Seq.rd0 at0 rfl rfl (O.lss (by exact s12) (by exact s11)) ?_
  refine Seq.nil ?_
  refine hK14 ?_
  refine Cd.seq (fun K15 hK15 => ?_)
  refine Cd.if ((i : Int) < (nw : Int)) rfl (fun t16 => ?_) (fun t16 => ?_)
  · skip
    refine Cd.skip ?_
    refine hK15 ?_
    refine Cd.seq (fun K17 hK17 => ?_)
    refine Cd.block ?_
    refine Cd.seq (fun K18 hK18 => ?_)
    refine Cd.region [0, 1, 2, 3] rfl ?_
    have hlt19 : i < ws.length := by omega
    obtain ⟨pre19, sp19, el19, fz19, hav19, hrd19⟩ := hW.at_ hlt19
    refine Seq.rd0 at0 rfl rfl (O.indexG sl_25 (by exact s10) hav19 (by exact s12) (by omega) (by omega)) ?_
    refine Seq.rd1 at1 rfl rfl (O.loadA kd_47 rfl (rowRoomP Write_size (getN hlt19)) (rowAtP Write_size (getN hlt19))) hrd19 ?_
    refine Seq.op at2 rfl (Op.new rfl (O.alloc zo_47 (cs := (Write_enc Write.zero)) rfl) ?_)
    intro b20 hb20
    refine Seq.op at3 rfl (Op.set0 rfl (O.store kd_47 rfl (v := .agg _) rfl (Write_size _) (Write_room (Write_size _)) (Write_one _) (Write_put _ (Write_size _))) ?_)
    refine Seq.nil ?_
    refine hK18 ?_
    refine Cd.seq (fun K21 hK21 => ?_)
    refine Cd.seq (fun K22 hK22 => ?_)
    refine Cd.draw 8 rfl po ?_
    refine Any.rd0 0 at0 rfl rfl (O.move (v := .pointer _) (by exact s8)) (by kernel_rfl) (by kernel_rfl) (by kernel_rfl) ?_
    refine Any.rd0 1 at1 rfl rfl (O.nilP rfl) (by kernel_rfl) (by kernel_rfl) (by kernel_rfl) ?_
    refine Any.rd0 2 at2 rfl rfl (O.field fo_245_0 rfl) (by kernel_rfl) (by kernel_rfl) (by kernel_rfl) ?_
    refine Any.rd1 3 at3 rfl rfl (O.load kd_243 rfl r1_0) hsb.cons (by kernel_rfl) (by kernel_rfl) (by kernel_rfl) ?_
    refine Any.rd0 4 at4 rfl rfl (O.field fo_47_0 rfl) (by kernel_rfl) (by kernel_rfl) (by kernel_rfl) ?_
    refine Any.rd1 5 at5 rfl rfl (O.loadA kd_45 rfl (Nat.le_of_ble_eq_true rfl) (Write_key _)) Rd.head (by kernel_rfl) (by kernel_rfl) (by kernel_rfl) ?_
    refine Any.rd1 6 at6 rfl rfl (O.lookP mp_243 kk_key hm zo_251 rfl (by exact rfl)) hmb.cons (by kernel_rfl) (by kernel_rfl) (by kernel_rfl) ?_
    refine Any.rd0 7 at7 rfl rfl (O.eqNil ds_251 rfl rfl) (by kernel_rfl) (by kernel_rfl) (by kernel_rfl) ?_
    refine Any.done (by kernel_rfl) ⟨⟨⟨trivial, hsb.cons⟩, Rd.head⟩, hmb.cons⟩ ?_
    refine hK22 ?_
    refine Cd.cond (((alook l ws[i].key).map fun q => (⟨q.1, 0, none⟩ : Addr)).isNone) rfl (fun t23 => ?_) (fun t23 => ?_)
    · skip
      refine Cd.region [0, 1, 2] rfl ?_
      refine Seq.rd0 at0 rfl rfl (O.move (v := .int .i64 _) (by exact s9)) ?_
      refine Seq.rd0 at1 rfl rfl (O.add rfl rfl (by omega) (by omega)) ?_
      refine Seq.rd0 at2 rfl rfl (O.assign (v := .int .i64 _) rfl) ?_
      refine Seq.nil ?_
      refine hK21 ?_
      refine Cd.seq (fun K24 hK24 => ?_)
      refine Cd.region [0, 1, 2, 3, 4, 5] rfl ?_
      refine Seq.rd0 at0 rfl rfl (O.move (v := .pointer _) (by exact s8)) ?_
      refine Seq.rd0 at1 rfl rfl (O.field fo_47_0 rfl) ?_
      refine Seq.rd1 at2 rfl rfl (O.loadA kd_45 rfl (Nat.le_of_ble_eq_true rfl) (Write_key _)) Rd.head ?_
      refine Seq.op at3 rfl (Op.callF rfl hb_170 (C_of (k := ws[i].key) hS.cons) rfl ?_)
      rintro _ _ ⟨cb25, G26, rfl, rfl, hc27, hc27s, hc27n⟩
      refine Seq.op at4 rfl (Op.callF rfl hb_205 (C_chain_Len hc27n hc27) rfl ?_)
      rintro _ _ ⟨rfl, rfl⟩
      refine Ent.sub ?_ (sub_app (.refl _))
      refine Seq.rd0 at5 rfl rfl (O.geq rfl rfl) ?_
      refine Seq.nil ?_
      refine hK24 ?_
      refine Cd.if ((50 : Int) ≤ (((getS l ws[i].key).length : Nat) : Int)) rfl (fun t28 => ?_) (fun t28 => ?_)
      · skip
        refine Cd.seq (fun K29 hK29 => ?_)
        refine Cd.region [0] rfl ?_
        refine Seq.rd0 at0 rfl rfl (O.assign (v := .bool _) rfl) ?_
        refine Seq.nil ?_
        refine hK29 ?_
        refine Cd.ret ?_
        exact hR _ _ (Res.one (v := .bool _) rfl rfl) ⟨congrArg Value.bool (Eq.symm (by unfold roomS; rw [if_pos (anyA_some (p := fullS l) hlt19 (decide_eq_true (by assumption)))])), rfl⟩ (.cons _ (.refl _))
      · skip
        refine Cd.skip ?_
        refine hK17 ?_
        refine Cd.region [0, 1] rfl ?_
        refine Seq.rd0 at0 rfl rfl (O.add (by exact s12) rfl (by omega) (by omega)) ?_
        refine Seq.rd0 at1 rfl rfl (O.move (v := .int .i64 _) rfl) ?_
        refine Seq.nil ?_
        refine Ent.drop ?_
        exact hK13 _ (by omega) ⟨i + 1, (nv + 1), rfl, (by exact s8), rfl, (by exact s10), (by exact s11), rfl, rfl, by rw [newN_step hlt19, if_pos (by assumption)]; omega, by omega, takeA_next hlt19 hz (decide_eq_false (by assumption))⟩
    · skip
      refine Cd.skip ?_
      refine hK21 ?_
      refine Cd.seq (fun K30 hK30 => ?_)
      refine Cd.region [0, 1, 2, 3, 4, 5] rfl ?_
      refine Seq.rd0 at0 rfl rfl (O.move (v := .pointer _) (by exact s8)) ?_
      refine Seq.rd0 at1 rfl rfl (O.field fo_47_0 rfl) ?_
      refine Seq.rd1 at2 rfl rfl (O.loadA kd_45 rfl (Nat.le_of_ble_eq_true rfl) (Write_key _)) Rd.head ?_
      refine Seq.op at3 rfl (Op.callF rfl hb_170 (C_of (k := ws[i].key) hS.cons) rfl ?_)
      rintro _ _ ⟨cb31, G32, rfl, rfl, hc33, hc33s, hc33n⟩
      refine Seq.op at4 rfl (Op.callF rfl hb_205 (C_chain_Len hc33n hc33) rfl ?_)
      rintro _ _ ⟨rfl, rfl⟩
      refine Ent.sub ?_ (sub_app (.refl _))
      refine Seq.rd0 at5 rfl rfl (O.geq rfl rfl) ?_
      refine Seq.nil ?_
      refine hK30 ?_
      refine Cd.if ((50 : Int) ≤ (((getS l ws[i].key).length : Nat) : Int)) rfl (fun t34 => ?_) (fun t34 => ?_)
      · skip
        refine Cd.seq (fun K35 hK35 => ?_)
        refine Cd.region [0] rfl ?_
        refine Seq.rd0 at0 rfl rfl (O.assign (v := .bool _) rfl) ?_
        refine Seq.nil ?_
        refine hK35 ?_
        refine Cd.ret ?_
        exact hR _ _ (Res.one (v := .bool _) rfl rfl) ⟨congrArg Value.bool (Eq.symm (by unfold roomS; rw [if_pos (anyA_some (p := fullS l) hlt19 (decide_eq_true (by assumption)))])), rfl⟩ (.cons _ (.refl _))
      · skip
        refine Cd.skip ?_
        refine hK17 ?_
        refine Cd.region [0, 1] rfl ?_
        refine Seq.rd0 at0 rfl rfl (O.add (by exact s12) rfl (by omega) (by omega)) ?_
        refine Seq.rd0 at1 rfl rfl (O.move (v := .int .i64 _) rfl) ?_
        refine Seq.nil ?_
        refine Ent.drop ?_
        exact hK13 _ (by omega) ⟨i + 1, nv, rfl, (by exact s8), (by exact s9), (by exact s10), (by exact s11), rfl, rfl, by rw [newN_step hlt19, if_neg (ne_true_of_eq_false (by assumption))]; omega, by omega, takeA_next hlt19 hz (decide_eq_false (by assumption))⟩
  · skip
    refine Cd.exit ?_
    refine hK3 ?_
    refine Cd.seq (fun K36 hK36 => ?_)
    refine Cd.region [0, 1, 2] rfl ?_
    refine Seq.rd0 at0 rfl rfl (O.move (v := .int .i64 _) (by exact s9)) ?_
    refine Seq.rd0 at1 rfl rfl (O.leq rfl rfl) ?_
    refine Seq.rd0 at2 rfl rfl (O.assign (v := .bool _) rfl) ?_
    refine Seq.nil ?_
    refine hK36 ?_
    refine Cd.ret ?_
    exact hR _ _ (Res.one (v := .bool _) rfl rfl) ⟨congrArg Value.bool (Eq.symm (by obtain rfl : i = ws.length := (by omega); unfold roomS; rw [if_neg (by rw [anyA_none rfl hz]; decide), decide_eq_decide]; omega)), rfl⟩ (.refl _)

end Go.X

namespace Go.X
open Go.Proofs
theorem sl_74 : sliceOf Tryz.prog 74 = some (45, 16) := by kernel_rfl
set_option maxRecDepth 100000 in
set_option maxHeartbeats 2000000 in
theorem C_Values_fn {c : Cx} {L : List Pt} {Rt Lo : List Pt} {bb l nx cx : Nat} {av : Option Addr} {xs : List Key} {I : List Key → List Pt → Prop} (hb : Rd c Rt bb (.cells #[.slice av nx cx] 74 (0, 0))) (hX : SlAt c Rt Key_enc av nx xs) (hY : ∀ pre x Lo R', pre.length < xs.length → I pre Lo → YStep Tryz.prog c l (keyV x) (Lo ++ R') (fun L' => ∃ Lo', I (pre ++ [x]) Lo' ∧ L' = Lo' ++ R')) (h0 : I [] Lo) : Fn Tryz.prog 238 #[.func (.yield l) #[] #[], .pointer (some ⟨bb, 0, none⟩)] c (Lo ++ Rt) (fun v L' => ∃ Lo', I xs Lo' ∧ L' = Lo' ++ Rt) := by
  have hwl := hX.len
  have hwt := hX.lt
  refine Fn.enter Tryz.func238 rfl 16 rfl rfl (fun R hR => ?_)
  refine Cd.seq (fun K1 hK1 => ?_)
  refine Cd.region [0, 1, 2] rfl ?_
  refine Seq.rd1 at0 rfl rfl (O.load kd_74 rfl r1_0) hb.app ?_
  refine Seq.rd0 at1 rfl rfl (O.lenS ds_74 rfl) ?_
  refine Seq.rd0 at2 rfl rfl (O.move (v := .int .i64 _) rfl) ?_
  refine Seq.nil ?_
  refine hK1 ?_
  refine Cd.block ?_
  refine Cd.loop (fun m2 e3 L4 => ∃ i : Nat, ∃ Lo1 : List Pt, m2 = xs.length - i ∧ e3 0 = .func (.yield l) #[] #[] ∧ e3 5 = .slice av nx cx ∧ e3 6 = .int .i64 (nx : Int) ∧ e3 7 = .int .i64 (i : Int) ∧ L4 = (Lo1 ++ Rt) ∧ i ≤ xs.length ∧ I (xs.take i) Lo1) _ ⟨0, Lo, rfl, rfl, rfl, rfl, rfl, rfl, Nat.zero_le _, h0⟩ ?_
  rintro _ e3 _ ⟨i, Lo1, rfl, s5, s6, s7, s8, rfl, hi, hI⟩ K9 hK9
  refine Cd.seq (fun K10 hK10 => ?_)
  refine Cd.region [0] rfl ?_
  refine Seq.rd0 at0 rfl rfl (O.lss (by exact s8) (by exact s7)) ?_
  refine Seq.nil ?_
  refine hK10 ?_
  refine Cd.seq (fun K11 hK11 => ?_)
  refine Cd.if ((i : Int) < (nx : Int)) rfl (fun t12 => ?_) (fun t12 => ?_)
  · skip
    refine Cd.skip ?_
    refine hK11 ?_
    refine Cd.seq (fun K13 hK13 => ?_)
    refine Cd.block ?_
    refine Cd.seq (fun K14 hK14 => ?_)
    refine Cd.region [0, 1, 2, 3] rfl ?_
    have hlt15 : i < xs.length := by omega
    obtain ⟨pre15, sp15, el15, fz15, hav15, hrd15⟩ := hX.app.at_ hlt15
    refine Seq.rd0 at0 rfl rfl (O.indexG sl_74 (by exact s6) hav15 (by exact s8) (by omega) (by omega)) ?_
    refine Seq.rd1 at1 rfl rfl (O.loadA kd_45 rfl (rowRoomP Key_size (getN hlt15)) (rowAtP Key_size (getN hlt15))) hrd15 ?_
    refine Seq.op at2 rfl (Op.new rfl (O.alloc zo_45 (cs := (Key_enc Key.zero)) rfl) ?_)
    intro b16 hb16
    refine Seq.op at3 rfl (Op.set0 rfl (O.store kd_45 rfl (v := .agg _) rfl (Key_size _) (Key_room (Key_size _)) (Key_one _) (Key_put _ (Key_size _))) ?_)
    refine Seq.nil ?_
    refine hK14 ?_
    refine Cd.seq (fun K17 hK17 => ?_)
    refine Cd.region [0, 1, 2, 3] rfl ?_
    refine Seq.rd0 at0 rfl rfl (O.move (v := (.func (.yield l) #[] #[])) (by exact s5)) ?_
    refine Seq.rd1 at1 rfl rfl (O.loadA kd_45 rfl (Nat.le_of_ble_eq_true rfl) (Key_all _)) Rd.head ?_
    refine Seq.opY at2 rfl (Ent.perm (Op.yield rfl rfl rfl (hY (xs.take i) xs[i] Lo1 _ (by rw [List.length_take]; omega) hI) ?_) (bring (Ls := Lo1) (pre := [(b16, _)]) (R := Rt)))
    rintro _ ⟨Lo2, hI2, rfl⟩
    refine Ent.perm ?_ (bring (Ls := Lo2) (pre := [(b16, _)]) (R := Rt)).symm
    refine Ent.drop ?_
    refine Seq.rd0 at3 rfl rfl (O.not rfl) ?_
    refine Seq.nil ?_
    refine hK17 ?_
    refine Cd.condF rfl ?_
    refine Cd.skip ?_
    refine hK13 ?_
    refine Cd.region [0, 1] rfl ?_
    refine Seq.rd0 at0 rfl rfl (O.add (by exact s8) rfl (by omega) (by omega)) ?_
    refine Seq.rd0 at1 rfl rfl (O.move (v := .int .i64 _) rfl) ?_
    refine Seq.nil ?_
    exact hK9 _ (by omega) ⟨i + 1, Lo2, rfl, (by exact s5), (by exact s6), (by exact s7), rfl, rfl, by omega, by rw [List.take_add_one, List.getElem?_eq_getElem hlt15]; exact hI2⟩
  · skip
    refine Cd.exit ?_
    exact hR _ _ (Res.zero rfl) ⟨Lo1, by have hx : i = xs.length := (by omega); rw [hx, List.take_length] at hI; exact hI, rfl⟩ (.refl _)

theorem C_Values {c : Cx} {Rt : List Pt} {bb nx cx : Nat} {av : Option Addr} {xs : List Key} (hb : Rd c Rt bb (.cells #[.slice av nx cx] 74 (0, 0))) (hX : SlAt c Rt Key_enc av nx xs) :
    IterOk Tryz.prog c keyV 238 [.pointer (some ⟨bb, 0, none⟩)] xs.length (fun ys => ys = xs) Rt := fun _ _ _ hY h0 => Fn.mono (C_Values_fn (L := Rt) hb hX hY h0) fun _ _ ⟨Lo', h1, h2⟩ => ⟨xs, Lo', rfl, h1, h2⟩

end Go.X

namespace Go.X
open Go.Proofs

def longW (w : Write) : Bool := decide ((250 : Int) < (w.val.size : Int))
/-- are writes more than is asked of? -/
def longP (ws : List Write) : Bool := decide (20 < ws.length) || ws.any longW

end Go.X

namespace Go.X
open Go.Proofs

set_option maxRecDepth 100000 in
set_option maxHeartbeats 2000000 in
theorem C_slicesValues {c : Cx} {L : List Pt} {av : Option Addr} {nx cx : Nat} : Fn Tryz.prog 200 #[.slice av nx cx] c L (fun v L' => ∃ bb, c.w0.heap.size ≤ bb ∧ v = .func (.func 238) #[] #[.pointer (some ⟨bb, 0, none⟩)] ∧ L' = (bb, .cells #[.slice av nx cx] 74 (0, 0)) :: L) := by
  refine Fn.enter Tryz.func200 rfl 4 rfl rfl (fun R hR => ?_)
  refine Cd.seq (fun K1 hK1 => ?_)
  refine Cd.region [0, 1] rfl ?_
  refine Seq.op at0 rfl (Op.new rfl (O.box (v := .slice _ _ _) rfl rfl) ?_)
  intro b2 hb2
  refine Seq.rd0 at1 rfl rfl (O.assign (v := .nilFunc) rfl) ?_
  refine Seq.nil ?_
  refine hK1 ?_
  refine Cd.seq (fun K3 hK3 => ?_)
  refine Cd.region [0, 1] rfl ?_
  refine Seq.rd0 at0 rfl rfl (O.mkFunc (fs' := #[]) (cs' := #[.pointer (some ⟨b2, 0, none⟩)]) (by kernel_rfl) (by kernel_rfl)) ?_
  refine Seq.rd0 at1 rfl rfl (O.assign (v := .func _ _ _) rfl) ?_
  refine Seq.nil ?_
  refine hK3 ?_
  refine Cd.ret ?_
  exact hR _ _ (Res.one (v := .func _ _ _) rfl rfl) ⟨b2, hb2, rfl, rfl⟩ (.refl _)

end Go.X

/- Runs of equal elements: what Compact makes of a list. -/
namespace Go.X
section
variable {α : Type} [DecidableEq α]
def dd : List α → List α
  | [] => []
  | x :: l => if l.head? = some x then dd l else x :: dd l
theorem dd_snoc (x a : α) : ∀ l : List α, dd (l ++ [x, a]) = if x = a then dd (l ++ [x]) else dd (l ++ [x]) ++ [a]
  | [] => by
    by_cases h : x = a
    · subst h; simp [dd]
    · simp [dd, h, Ne.symm h]
  | y :: l => by
    have hh : (l ++ [x, a]).head? = (l ++ [x]).head? := by cases l <;> simp
    have ih := dd_snoc x a l
    simp only [List.cons_append, dd, hh, ih]
    by_cases h : x = a
    · simp [h]
    · simp only [h, if_false]; split <;> simp
theorem dd_take {xs : List α} {k : Nat} (h1 : 1 ≤ k) (hk : k < xs.length) :
    dd (xs.take (k + 1)) = if xs[k - 1]'(by omega) = xs[k] then dd (xs.take k) else dd (xs.take k) ++ [xs[k]] := by
  have h2 : xs.take k = xs.take (k - 1) ++ [xs[k - 1]'(by omega)] := by
    have : k - 1 < xs.length := by omega
    have h3 := List.take_append_getElem this
    rw [show k - 1 + 1 = k by omega] at h3
    exact h3.symm
  have h3 : xs.take (k + 1) = xs.take (k - 1) ++ [xs[k - 1]'(by omega), xs[k]] := by
    have h4 := List.take_append_getElem hk
    rw [← h4, h2, List.append_assoc]; rfl
  rw [h3, dd_snoc, ← h2]
theorem dd_mem (k : α) : ∀ l : List α, k ∈ dd l ↔ k ∈ l
  | [] => by simp [dd]
  | x :: l => by
    have ih := dd_mem k l
    simp only [dd]
    split
    · rename_i h
      have : x ∈ l := by cases l with
        | nil => simp at h
        | cons y l => simp at h; simp [h]
      rw [ih, List.mem_cons]
      constructor
      · exact .inr
      · rintro (rfl | h2)
        · exact this
        · exact h2
    · simp [ih]
/-- a list without doubles is not longer than one that has all its elements -/
theorem nodup_le : ∀ {l m : List α}, l.Nodup → (∀ x ∈ l, x ∈ m) → l.length ≤ m.length
  | [], _, _, _ => by simp
  | x :: l, m, hn, hs => by
    rw [List.nodup_cons] at hn
    have hx : x ∈ m := hs x (by simp)
    have := nodup_le (l := l) (m := m.erase x) hn.2 (fun y hy => (List.mem_erase_of_ne (fun e => hn.1 (by rw [← e]; exact hy))).2 (hs y (by simp [hy])))
    rw [List.length_erase_of_mem hx] at this
    have hp : 0 < m.length := List.length_pos_of_mem hx
    simp only [List.length_cons]
    omega
/-- each once -/
def once : List α → List α
  | [] => []
  | x :: l => if x ∈ l then once l else x :: once l
theorem once_mem (k : α) : ∀ l : List α, k ∈ once l ↔ k ∈ l
  | [] => by simp [once]
  | x :: l => by
    have ih := once_mem k l
    simp only [once]
    split
    · rename_i h
      rw [ih, List.mem_cons]
      constructor
      · exact .inr
      · rintro (rfl | h2)
        · exact h
        · exact h2
    · simp [ih]
theorem once_nodup : ∀ l : List α, (once l).Nodup
  | [] => by simp [once]
  | x :: l => by
    simp only [once]
    split
    · exact once_nodup l
    · rename_i h
      rw [List.nodup_cons]
      exact ⟨fun h2 => h ((once_mem x l).1 h2), once_nodup l⟩
end
theorem dd_ord : ∀ {l : List Key}, l.Pairwise (fun x y => ¬ y.cmp x < 0) → KSorted (dd l)
  | [], _ => .nil
  | x :: l, h => by
    rw [List.pairwise_cons] at h
    have ih := dd_ord h.2
    simp only [dd]
    split
    · exact ih
    · rename_i hh
      refine List.pairwise_cons.2 ⟨fun y hy => ?_, ih⟩
      rw [dd_mem] at hy
      have h1 := h.1 y hy
      have h2 := Key.cmp_swap x y
      by_cases h3 : x.cmp y = 0
      · rw [Key.cmp_eq] at h3
        subst h3
        cases l with
        | nil => simp at hy
        | cons z l =>
          have hz := h.1 z (by simp)
          have hzx : z ≠ x := fun e => hh (by simp [e])
          rcases List.mem_cons.1 hy with rfl | hy
          · exact absurd rfl hzx
          · have h4 := (List.pairwise_cons.1 h.2).1 x hy
            have h5 := Key.cmp_swap x z
            have h6 : x.cmp z = 0 := by omega
            rw [Key.cmp_eq] at h6
            exact absurd h6.symm hzx
      · omega
theorem KSorted.nodup {l : List Key} (h : KSorted l) : l.Nodup := by
  refine List.Pairwise.imp ?_ h
  intro a b hab e
  subst e
  have := (Key.cmp_eq (a := a) (b := a)).2 rfl
  omega
end Go.X

namespace Go.X
open Go.Proofs

theorem Fn.post {P : Program} {f : FuncId} {args : Array Value} {c : Cx} {L : List Pt} {post post' : Value → List Pt → Prop} (h : Fn P f args c L post)
    (hp : ∀ v L', post v L' → ∃ L'', post' v L'' ∧ L'.Perm L'') : Fn P f args c L post' := fun w hw => (h w hw).mono fun x w' ⟨v, h1, L', h2, h3⟩ => by
  obtain ⟨L'', h4, h5⟩ := hp v L' h2
  exact ⟨v, h1, L'', h4, h3.perm h5⟩
/-- one chain that is ours: its block, its row -/
def One (b : Nat) (vs : List Version) (G : List Pt) : Prop :=
  ∃ av cap Ls, G = (b, .cells #[.slice av vs.length cap] 300 (0, 0)) :: Ls ∧ OwnSl 242 4 (rows Version_enc vs) vs.length (.slice av vs.length cap) Ls ∧ Sorted vs ∧ vs.length ≤ 50
theorem One.ch {b : Nat} {vs : List Version} {G R : List Pt} {c : Cx} (h : One b vs G) : ChAt c (G ++ R) b vs := by
  obtain ⟨av, cap, Ls, rfl, h1, _, _⟩ := h
  rcases h1 with ⟨h0, _, hv, rfl⟩ | ⟨a, cap', sp, hv, _, _, _, rfl⟩
  · obtain rfl : vs = [] := List.length_eq_zero_iff.1 h0
    obtain ⟨rfl, rfl⟩ : av = none ∧ cap = 0 := by simpa using hv
    exact .inl ⟨rfl, .head⟩
  · obtain ⟨rfl, rfl⟩ : av = some ⟨a, 0, none⟩ ∧ cap = cap' := by simpa using hv
    exact .inr ⟨a, cap, sp, .head, Rd.head.cons⟩
theorem One.new {b : Nat} : One b [] [(b, .cells #[.slice none 0 0] 300 (0, 0))] := ⟨none, 0, [], rfl, .inl ⟨rfl, rfl, rfl, rfl⟩, .nil, by decide⟩
/-- the chains of a store -/
def ChOwn : List (Key × CV) → List Pt → Prop
  | [], Cs => Cs = []
  | q :: l, Cs => ∃ G C1, Cs = G ++ C1 ∧ One q.2.1 q.2.2 G ∧ ChOwn l C1
theorem ChOwn.take {k : Key} {q : CV} : ∀ {l : List (Key × CV)} {Cs : List Pt}, ChOwn l Cs → alook l k = some q → ∃ G C1, Cs.Perm (G ++ C1) ∧ One q.1 q.2 G ∧
    ∀ vs' G', One q.1 vs' G' → ∃ Cs', ChOwn (aput l k (q.1, vs')) Cs' ∧ (G' ++ C1).Perm Cs'
  | [], _, _, h => by simp [alook] at h
  | (y, u) :: l, Cs, hC, h => by
    obtain ⟨G, C1, rfl, hO, hC1⟩ := hC
    unfold alook at h
    split at h
    · rename_i he
      obtain rfl := Option.some.inj h
      refine ⟨G, C1, .refl _, hO, fun vs' G' hG' => ⟨G' ++ C1, ?_, .refl _⟩⟩
      simp only [aput, he, if_true]
      exact ⟨G', C1, rfl, hG', hC1⟩
    · rename_i he
      obtain ⟨G2, C2, hp, hO2, hb⟩ := ChOwn.take hC1 h
      refine ⟨G2, G ++ C2, ?_, hO2, fun vs' G' hG' => ?_⟩
      · exact (hp.append_left G).trans (List.perm_append_comm_assoc _ _ _)
      · obtain ⟨Cs', h1, h2⟩ := hb vs' G' hG'
        refine ⟨G ++ Cs', ?_, (List.perm_append_comm_assoc _ _ _).trans (h2.append_left G)⟩
        simp only [aput, he, if_false]
        exact ⟨G, Cs', rfl, hO, h1⟩
theorem ChOwn.new {k : Key} {b : Nat} {vs : List Version} {G : List Pt} (hG : One b vs G) : ∀ {l : List (Key × CV)} {Cs : List Pt}, ChOwn l Cs → alook l k = none →
    ∃ Cs', ChOwn (aput l k (b, vs)) Cs' ∧ (G ++ Cs).Perm Cs'
  | [], Cs, hC, _ => by
    obtain rfl : Cs = [] := hC
    exact ⟨G ++ [], ⟨G, [], rfl, hG, rfl⟩, .refl _⟩
  | (y, u) :: l, Cs, hC, h => by
    obtain ⟨G1, C1, rfl, hO, hC1⟩ := hC
    unfold alook at h
    split at h
    · cases h
    · rename_i he
      obtain ⟨Cs', h1, h2⟩ := ChOwn.new hG hC1 h
      refine ⟨G1 ++ Cs', ?_, (List.perm_append_comm_assoc _ _ _).trans (h2.append_left G1)⟩
      simp only [aput, he, if_false]
      exact ⟨G1, Cs', rfl, hO, h1⟩
theorem Rd.perm {c : Cx} {L L' : List Pt} {b : Nat} {o : Obj} (h : Rd c L b o) (hp : L'.Perm L) : Rd c L' b o := fun w hw => h w (hw.perm hp)
theorem ChAt.perm {c : Cx} {L L' : List Pt} {cb : Nat} {vs : List Version} (h : ChAt c L cb vs) (hp : L'.Perm L) : ChAt c L' cb vs := by
  rcases h with ⟨h1, h2⟩ | ⟨a, cap, sp, h1, h2⟩
  · exact .inl ⟨h1, h2.perm hp⟩
  · exact .inr ⟨a, cap, sp, h1.perm hp, h2.perm hp⟩
theorem ChOwn.ch {l : List (Key × CV)} {Cs R : List Pt} {c : Cx} {k : Key} {q : CV} (h : ChOwn l Cs) (hl : alook l k = some q) : ChAt c (Cs ++ R) q.1 q.2 ∧ Sorted q.2 ∧ q.2.length ≤ 50 := by
  obtain ⟨G, C1, hp, hO, _⟩ := h.take hl
  have h1 : ChAt c (G ++ (C1 ++ R)) q.1 q.2 := hO.ch
  refine ⟨h1.perm (by rw [← List.append_assoc]; exact hp.append_right R), ?_⟩
  obtain ⟨_, _, _, _, _, h2, h3⟩ := hO
  exact ⟨h2, h3⟩
/-- a store that is ours -/
structure StOwn (sb : Nat) (l : List (Key × CV)) (Ls : List Pt) : Prop where
  ex : ∃ mb es ck Cs, Ls = (sb, .cells #[.map (some mb)] 245 (0, 0)) :: (mb, .map es ck) :: Cs ∧ MapIs keyV cvV es ck l ∧ ChOwn l Cs
  size : l.length ≤ 200
theorem StOwn.at_ {sb : Nat} {l : List (Key × CV)} {Ls R : List Pt} {c : Cx} (h : StOwn sb l Ls) : StAt c (Ls ++ R) sb l := by
  obtain ⟨⟨mb, es, ck, Cs, rfl, h1, h2⟩, h3⟩ := h
  refine ⟨⟨mb, es, ck, .head, Rd.head.cons, h1⟩, fun k q hq => ?_, by omega⟩
  obtain ⟨h4, h5, h6⟩ := h2.ch (c := c) (R := R) hq
  exact ⟨h4.cons.cons, h5, by omega⟩
/-- a table that is ours -/
structure TbOwn (tb : Nat) (el : List (I64 × EV)) (hl : List (Key × I64)) (Ls : List Pt) : Prop where
  ex : ∃ lm es1 ck1 hm es2 ck2 J, Ls = (tb, .cells #[.map (some lm), .map (some hm)] 249 (0, 0)) :: (lm, .map es1 ck1) :: (hm, .map es2 ck2) :: J ∧ MapIs i64V evV es1 ck1 el ∧ MapIs keyV i64V es2 ck2 hl ∧
    ∀ id q, alook el id = some q → (∀ (c : Cx) (R : List Pt), SlAt c (J ++ R) Write_enc q.1.ws.a q.1.ws.n q.2) ∧ q.2.length ≤ 16
  size : el.length ≤ 100 ∧ hl.length ≤ 200
theorem TbOwn.at_ {tb : Nat} {el : List (I64 × EV)} {hl : List (Key × I64)} {Ls R : List Pt} {c : Cx} (h : TbOwn tb el hl Ls) : TbAt c (Ls ++ R) tb el hl := by
  obtain ⟨⟨lm, es1, ck1, hm, es2, ck2, J, rfl, h1, h2, h3⟩, h4, h5⟩ := h
  exact ⟨⟨lm, es1, ck1, hm, es2, ck2, .head, Rd.head.cons, h1, Rd.head.cons.cons, h2⟩, fun id q hq => ⟨((h3 id q hq).1 c R).cons.cons.cons, (h3 id q hq).2⟩, by omega, by omega⟩
/-- a part that is ours -/
structure PtOwn (pb : Nat) (l : List (Key × CV)) (el : List (I64 × EV)) (hl : List (Key × I64)) (ol : List (I64 × Int)) (Ls : List Pt) : Prop where
  ex : ∃ sb tb om es ck L1 L2, Ls = (pb, .cells #[.pointer (some ⟨sb, 0, none⟩), .pointer (some ⟨tb, 0, none⟩), .map (some om)] 144 (0, 0)) :: (om, .map es ck) :: (L1 ++ L2) ∧ StOwn sb l L1 ∧ TbOwn tb el hl L2 ∧ MapIs i64V intV es ck ol
theorem PtOwn.at_ {pb : Nat} {l : List (Key × CV)} {el : List (I64 × EV)} {hl : List (Key × I64)} {ol : List (I64 × Int)} {Ls R : List Pt} {c : Cx} (h : PtOwn pb l el hl ol Ls) : PtAt c (Ls ++ R) pb l el hl ol := by
  obtain ⟨⟨sb, tb, om, es, ck, L1, L2, rfl, h1, h2, h3⟩⟩ := h
  refine ⟨⟨sb, tb, om, es, ck, .head, ?_, ?_, Rd.head.cons, h3⟩⟩
  · have := h1.at_ (c := c) (R := L2 ++ R)
    rw [← List.append_assoc] at this
    exact this.cons.cons
  · have := (h2.at_ (c := c) (R := R)).app (G := L1)
    rw [← List.append_assoc] at this
    exact this.cons.cons

end Go.X
