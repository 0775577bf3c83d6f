/- The engine, part 6: maps. -/
import Derived.Maps.RangeRun
import Derived.RangeFuncLeaves
import Derived.Test.YthifdialndcemaaGreatProg
import Derived.Laws.BytesString
import Derived.Lib.Overlaps
import Derived.Test.YthifdialndcemaaGreatS1
set_option linter.unusedVariables false
set_option linter.unusedSimpArgs false

namespace Go.X
section alist
variable {K V : Type} [DecidableEq K]
def alook : List (K × V) → K → Option V
  | [], _ => none
  | (y, u) :: l, x => if y = x then some u else alook l x
def aput : List (K × V) → K → V → List (K × V)
  | [], x, v => [(x, v)]
  | (y, u) :: l, x, v => if y = x then (x, v) :: l else (y, u) :: aput l x v
def adel : List (K × V) → K → List (K × V)
  | [], _ => []
  | (y, u) :: l, x => if y = x then l else (y, u) :: adel l x
theorem alook_none {x : K} : ∀ {l : List (K × V)}, x ∉ l.map Prod.fst → alook l x = none ∧ (∀ v, aput l x v = l ++ [(x, v)]) ∧ adel l x = l
  | [], _ => ⟨rfl, fun _ => rfl, rfl⟩
  | (y, u) :: l, h => by
    simp only [List.map_cons, List.mem_cons, not_or] at h
    obtain ⟨h1, h2, h3⟩ := alook_none (l := l) h.2
    have hne : ¬ y = x := fun e => h.1 e.symm
    exact ⟨by simp [alook, hne, h1], fun v => by simp [aput, hne, h2], by simp [adel, hne, h3]⟩
theorem alook_at {x : K} {v : V} : ∀ {l : List (K × V)} {j : Nat}, (l.map Prod.fst).Nodup → l[j]? = some (x, v) →
    alook l x = some v ∧ (∀ u, aput l x u = l.set j (x, u)) ∧ adel l x = l.eraseIdx j
  | (y, u) :: l, 0, _, h => by
    obtain ⟨rfl, rfl⟩ : y = x ∧ u = v := by simpa using h
    exact ⟨by simp [alook], fun _ => by simp [aput], by simp [adel]⟩
  | (y, u) :: l, j + 1, hn, h => by
    simp only [List.map_cons, List.nodup_cons] at hn
    have h' : l[j]? = some (x, v) := by simpa using h
    have hm : x ∈ l.map Prod.fst := List.mem_map.2 ⟨(x, v), List.mem_of_getElem? h', rfl⟩
    have hne : ¬ y = x := fun e => hn.1 (e ▸ hm)
    obtain ⟨h1, h2, h3⟩ := alook_at hn.2 h'
    exact ⟨by simp [alook, hne, h1], fun w => by simp [aput, hne, h2], by simp [adel, hne, h3]⟩
theorem alook_mem {x : K} {v : V} : ∀ {l : List (K × V)}, alook l x = some v → (x, v) ∈ l
  | (y, u) :: l, h => by
    unfold alook at h
    split at h
    · rename_i he; subst he; obtain rfl := Option.some.inj h; simp
    · exact List.mem_cons_of_mem _ (alook_mem h)
theorem map_erase {α β : Type} (f : α → β) : ∀ (l : List α) (j : Nat), (l.eraseIdx j).map f = (l.map f).eraseIdx j
  | [], _ => rfl
  | _ :: _, 0 => rfl
  | _ :: l, j + 1 => congrArg (_ :: ·) (map_erase f l j)
theorem alook_put_same (x : K) (v : V) : ∀ l : List (K × V), alook (aput l x v) x = some v
  | [] => by simp [aput, alook]
  | (y, u) :: l => by
    unfold aput
    split
    · simp [alook]
    · rename_i h; simp [alook, h, alook_put_same x v l]
theorem alook_put_ne {x y : K} (v : V) (h : y ≠ x) : ∀ l : List (K × V), alook (aput l x v) y = alook l y
  | [] => by simp [aput, alook, Ne.symm h]
  | (z, u) :: l => by
    unfold aput
    split
    · rename_i hz; subst hz; simp [alook, Ne.symm h]
    · simp only [alook]; split
      · rfl
      · exact alook_put_ne v h l
theorem aput_keys (x : K) (v : V) : ∀ l : List (K × V), ∀ y, y ∈ (aput l x v).map Prod.fst ↔ y = x ∨ y ∈ l.map Prod.fst
  | [], y => by simp [aput]
  | (z, u) :: l, y => by
    unfold aput
    split
    · rename_i hz; subst hz; simp
    · simp only [List.map_cons, List.mem_cons, aput_keys x v l y]
      constructor <;> (intro h; rcases h with h | h | h <;> simp [h])
theorem aput_nodup (x : K) (v : V) : ∀ {l : List (K × V)}, (l.map Prod.fst).Nodup → ((aput l x v).map Prod.fst).Nodup
  | [], _ => by simp [aput]
  | (z, u) :: l, h => by
    simp only [List.map_cons, List.nodup_cons] at h
    unfold aput
    split
    · rename_i hz; subst hz; simpa using h
    · rename_i hz
      simp only [List.map_cons, List.nodup_cons]
      refine ⟨fun hm => ?_, aput_nodup x v h.2⟩
      rcases (aput_keys x v l z).1 hm with h1 | h1
      · exact hz h1
      · exact h.1 h1
theorem adel_keys {x : K} : ∀ {l : List (K × V)}, (l.map Prod.fst).Nodup → ∀ y, y ∈ (adel l x).map Prod.fst ↔ y ≠ x ∧ y ∈ l.map Prod.fst
  | [], _, y => by simp [adel]
  | (z, u) :: l, h, y => by
    simp only [List.map_cons, List.nodup_cons] at h
    unfold adel
    split
    · rename_i hz; subst hz
      simp only [List.map_cons, List.mem_cons]
      constructor
      · intro hy; exact ⟨fun e => h.1 (e ▸ hy), .inr hy⟩
      · rintro ⟨h1, h2 | h2⟩
        · exact absurd h2 h1
        · exact h2
    · rename_i hz
      simp only [List.map_cons, List.mem_cons, adel_keys h.2 y]
      constructor
      · rintro (h1 | ⟨h1, h2⟩)
        · subst h1; exact ⟨hz, .inl rfl⟩
        · exact ⟨h1, .inr h2⟩
      · rintro ⟨h1, h2 | h2⟩
        · exact .inl h2
        · exact .inr ⟨h1, h2⟩
theorem adel_sub (x : K) : ∀ l : List (K × V), (adel l x).Sublist l
  | [] => .slnil
  | (z, u) :: l => by
    unfold adel
    split
    · exact List.sublist_cons_self _ _
    · exact .cons_cons _ (adel_sub x l)
theorem alook_del_ne {x y : K} (h : y ≠ x) : ∀ l : List (K × V), alook (adel l x) y = alook l y
  | [] => rfl
  | (z, u) :: l => by
    unfold adel
    split
    · rename_i hz; subst hz; simp [alook, Ne.symm h]
    · simp only [alook]; split
      · rfl
      · exact alook_del_ne h l
theorem alook_del_same {x : K} {l : List (K × V)} (h : (l.map Prod.fst).Nodup) : alook (adel l x) x = none :=
  (alook_none (fun hm => ((adel_keys h x).1 hm).1 rfl)).1
end alist

section
variable {P : Program} {n : Sz} {e : Env} {d : Option Tmp} {ty : TypeId} {p : String} {af : Array Edge} {g : Option (Nat × Bool)}
variable {c : Cx} {L : List Pt} {x y z : Operand} {v v' : Value}
variable {K V : Type} {encK : K → Value} {encV : V → Value}

/-- the block of a map holds the list l -/
structure MapIs (encK : K → Value) (encV : V → Value) (es : Array MapEntry) (ck : Nat) (l : List (K × V)) : Prop where
  ents : es.toList.map (fun q => (q.key, q.val)) = l.map (fun q => (encK q.1, encV q.2))
  keys : (l.map Prod.fst).Nodup
  born : (es.toList.map (·.born)).Nodup
  clock : ∀ q ∈ es.toList, q.born < ck

theorem MapIs.size {es : Array MapEntry} {ck : Nat} {l : List (K × V)} (h : MapIs encK encV es ck l) : es.size = l.length := by
  have := congrArg List.length h.ents
  simpa using this
theorem MapIs.nil : MapIs encK encV #[] 0 [] := ⟨rfl, by simp, by simp, by simp⟩
theorem MapIs.at_ {es : Array MapEntry} {ck : Nat} {l : List (K × V)} (h : MapIs encK encV es ck l) {j : Nat} {q : MapEntry} (hj : es.toList[j]? = some q) :
    ∃ x v, l[j]? = some (x, v) ∧ q.key = encK x ∧ q.val = encV v := by
  have h1 := congrArg (fun l => l[j]?) h.ents
  simp only [List.getElem?_map, hj, Option.map_some] at h1
  cases hl : l[j]? with
  | none => rw [hl] at h1; cases h1
  | some r =>
    rw [hl] at h1
    simp only [Option.map_some, Option.some.injEq, Prod.mk.injEq] at h1
    exact ⟨r.1, r.2, rfl, h1.1, h1.2⟩

theorem run_find [DecidableEq K] {k : TypeId} (KK : IsKey P k encK) {es : Array MapEntry} {ck : Nat} {l : List (K × V)} (h : MapIs encK encV es ck l) (x : K) (w : World) :
    (x ∉ l.map Prod.fst ∧ (Instr.findKey k (encK x) es.toList).run P w = .ok none w) ∨
    ∃ j v q, l[j]? = some (x, v) ∧ es.toList[j]? = some q ∧ q.key = encK x ∧ (Instr.findKey k (encK x) es.toList).run P w = .ok (some (j, encV v)) w := by
  obtain ⟨lx, hx⟩ := KK.key x
  have hall : ∀ q ∈ es.toList, ∃ l, keyOf P k q.key = some l := by
    intro q hq
    obtain ⟨j, hj, rfl⟩ := List.getElem_of_mem hq
    obtain ⟨y, v, _, hk, _⟩ := h.at_ (List.getElem?_eq_getElem hj)
    rw [hk]; exact KK.key y
  rcases KK.law.find w hx es.toList hall with ⟨h1, h2⟩ | ⟨j, q, h1, h2, h3⟩
  · refine .inl ⟨fun hm => ?_, h1⟩
    obtain ⟨r, hr, rfl⟩ := List.mem_map.1 hm
    have : (encK r.1, encV r.2) ∈ es.toList.map (fun q => (q.key, q.val)) := by
      rw [h.ents]; exact List.mem_map.2 ⟨r, hr, rfl⟩
    obtain ⟨q, hq, he⟩ := List.mem_map.1 this
    simp only [Prod.mk.injEq] at he
    exact h2 q hq he.1
  · obtain ⟨y, v, hl, hk, hv⟩ := h.at_ h2
    have : y = x := KK.inj _ _ (hk.symm.trans h3)
    subst this
    exact .inr ⟨j, v, q, hl, h2, h3, by rw [h1, hv]⟩

theorem run_check {k : TypeId} (KK : IsKey P k encK) (x : K) (em : Bool) (w : World) : (Instr.checkKey em 10000 k (encK x)).run P w = .ok () w := by
  obtain ⟨lx, hx⟩ := KK.key x
  exact KK.law.check w em hx
theorem run_getMap {w : World} {b : Nat} {es : Array MapEntry} {ck : Nat} (h : w.heap[b]? = some (.map es ck)) : (getObj b).run P w = .ok (.map es ck) w := by
  simp [getObj, Sem.run, h]
theorem run_setMap {w : World} {b : Nat} {o : Obj} {es : Array MapEntry} {ck : Nat} (h : w.heap[b]? = some (.map es ck)) : (setObj b o).run P w = .ok () (setBlk w b o) := by
  simp [setObj, Sem.run, h, setBlk]

/-- a look-up of a key that is there -/
theorem O.lookS [DecidableEq K] {t k el b : Nat} {ok : Bool} {es : Array MapEntry} {ck : Nat} {l : List (K × V)} {a : K} {u : V} (ht : P.underlying t = some (.map k el)) (KK : IsKey P k encK) (h : MapIs encK encV es ck l)
    (hx : ev e x = .map (some b)) (hy : ev e y = encK a) (hl : alook l a = some u) :
    Rn1 P e ⟨d, .lookup t x y ok, ty, p, af, g⟩ b (.map es ck) (if ok then .tuple #[encV u, .bool true] else encV u) := fun w hb => by
  have hf : ∃ j, (Instr.findKey k (encK a) es.toList).run P w = .ok (some (j, encV u)) w := by
    rcases run_find KK h a w with ⟨h1, _⟩ | ⟨j, v, q, h1, h2, h3, h4⟩
    · rw [(alook_none h1).1] at hl; cases hl
    · rw [(alook_at h.keys h1).1] at hl
      obtain rfl := Option.some.inj hl
      exact ⟨j, h4⟩
  obtain ⟨j, hf⟩ := hf
  cases ok <;> simp [execOp, Instr.lookup, hx, hy, run_under ht, run_getMap hb, run_check KK, hf]
/-- a look-up of a key that is not there -/
theorem O.lookN [DecidableEq K] {t k el b : Nat} {ok : Bool} {es : Array MapEntry} {ck : Nat} {l : List (K × V)} {a : K} {zv : Value} (ht : P.underlying t = some (.map k el)) (KK : IsKey P k encK) (h : MapIs encK encV es ck l)
    (hz : zeroOf P el = some zv) (hx : ev e x = .map (some b)) (hy : ev e y = encK a) (hl : alook l a = none) :
    Rn1 P e ⟨d, .lookup t x y ok, ty, p, af, g⟩ b (.map es ck) (if ok then .tuple #[zv, .bool false] else zv) := fun w hb => by
  have hf : (Instr.findKey k (encK a) es.toList).run P w = .ok none w := by
    rcases run_find KK h a w with ⟨_, h1⟩ | ⟨j, v, q, h1, _⟩
    · exact h1
    · rw [(alook_at h.keys h1).1] at hl; cases hl
  cases ok <;> simp [execOp, Instr.lookup, hx, hy, run_under ht, run_getMap hb, run_check KK, hf, run_zero hz]

theorem MapIs.put [DecidableEq K] {k : TypeId} {es : Array MapEntry} {ck : Nat} {l : List (K × V)} (h : MapIs encK encV es ck l) (a : K) (u : V) :
    (a ∉ l.map Prod.fst → MapIs encK encV (es.push { key := encK a, val := encV u, born := ck }) (ck + 1) (aput l a u)) ∧
    (∀ j v q, l[j]? = some (a, v) → es.toList[j]? = some q → MapIs encK encV (es.modify j fun r => { r with key := encK a, val := encV u }) ck (aput l a u)) := by
  constructor
  · intro hm
    rw [(alook_none hm).2.1 u]
    refine ⟨?_, ?_, ?_, ?_⟩
    · simp [h.ents]
    · rw [List.map_append, List.nodup_append]
      exact ⟨h.keys, by simp, fun r hr s hs e => by simp at hs; subst hs; subst e; exact hm hr⟩
    · rw [Array.toList_push, List.map_append, List.nodup_append]
      refine ⟨h.born, by simp, fun r hr s hs e => ?_⟩
      simp at hs; subst hs; subst e
      obtain ⟨q, hq, hqe⟩ := List.mem_map.1 hr
      have := h.clock q hq
      omega
    · intro q hq
      rw [Array.toList_push] at hq
      rcases List.mem_append.1 hq with hq | hq
      · have := h.clock q hq; omega
      · simp at hq; subst hq; simp
  · intro j v q hl hq
    obtain ⟨_, h2, _⟩ := alook_at h.keys hl
    rw [h2 u]
    have hj : j < es.size := by
      rcases Nat.lt_or_ge j es.toList.length with h' | h'
      · simpa using h'
      · rw [List.getElem?_eq_none h'] at hq; cases hq
    have hjl : j < l.length := by rw [← h.size]; exact hj
    have htl : (es.modify j fun r => { r with key := encK a, val := encV u }).toList = es.toList.modify j (fun r => { r with key := encK a, val := encV u }) := by simp
    refine ⟨?_, ?_, ?_, ?_⟩
    · rw [htl]
      apply List.ext_getElem?
      intro i
      have hi := congrArg (fun l => l[i]?) h.ents
      simp only [List.getElem?_map] at hi
      simp only [List.getElem?_map, List.getElem?_modify, List.getElem?_set]
      by_cases hij : j = i
      · subst hij
        simp [hq, hjl]
      · simp only [hij, if_false]
        cases he : es.toList[i]? <;> simp [he] at hi ⊢ <;> exact hi
    · have : (l.set j (a, u)).map Prod.fst = l.map Prod.fst := by
        apply List.ext_getElem?
        intro i
        simp only [List.getElem?_map, List.getElem?_set]
        by_cases hij : j = i
        · subst hij; simp [hjl, hl]
          have := List.getElem?_eq_getElem hjl
          rw [hl] at this
          simp [← Option.some.inj this]
        · simp [hij]
      rw [this]; exact h.keys
    · have : (es.toList.modify j (fun r => { r with key := encK a, val := encV u })).map (·.born) = es.toList.map (·.born) := by
        apply List.ext_getElem?
        intro i
        simp only [List.getElem?_map, List.getElem?_modify]
        by_cases hij : j = i
        · subst hij; simp [hq]
        · simp [hij]
      rw [htl, this]; exact h.born
    · intro r hr
      rw [htl] at hr
      obtain ⟨i, hi, rfl⟩ := List.getElem_of_mem hr
      rw [List.getElem_modify]
      simp only [List.length_modify] at hi
      have hc : es.toList[i].born < ck := h.clock _ (List.getElem_mem hi)
      split <;> exact hc

/-- 'm[k] = v' -/
theorem O.mapSet [DecidableEq K] {t k el b : Nat} {es : Array MapEntry} {ck : Nat} {l : List (K × V)} {a : K} {u : V} (ht : P.underlying t = some (.map k el)) (KK : IsKey P k encK) (h : MapIs encK encV es ck l)
    (hx : ev e x = .map (some b)) (hy : ev e y = encK a) (hz : ev e z = encV u) {A B : List Pt} (hL : L = A ++ (b, .map es ck) :: B) :
    Eg P e ⟨d, .mapUpdate t x y z, ty, p, af, g⟩ c L (fun v L' => v = undef ∧ ∃ es' ck', MapIs encK encV es' ck' (aput l a u) ∧ L' = A ++ (b, .map es' ck') :: B) := by
  subst hL
  intro w hw
  have hb := hw.look (b, .map es ck) (by simp)
  have hput := MapIs.put (k := k) h a u
  rcases run_find KK h a w with ⟨h1, h2⟩ | ⟨j, v, q, h1, h2, h3, h4⟩
  · refine ⟨undef, _, _, .inr ⟨?_, rfl⟩, ⟨rfl, _, _, hput.1 h1, rfl⟩, hw.set⟩
    simp [execOp, Instr.mapUpdate, hx, hy, hz, run_under ht, run_getMap hb, run_check KK, h2, run_setMap hb]
  · obtain ⟨lx, hlx⟩ := KK.key a
    have hst := KK.law.stays w hlx
    have hq : es[j]? = some q := by simpa using h2
    refine ⟨undef, _, _, .inr ⟨?_, rfl⟩, ⟨rfl, _, _, hput.2 j v q h1 h2, rfl⟩, hw.set⟩
    simp [execOp, Instr.mapUpdate, hx, hy, hz, run_under ht, run_getMap hb, run_check KK, h4, hq, h3, hst, run_setMap hb]

/-- 'delete(m, k)' -/
theorem O.mapDel [DecidableEq K] {t k kt el b : Nat} {es : Array MapEntry} {ck : Nat} {l : List (K × V)} {a : K} (ht : P.underlying t = some (.map k el)) (KK : IsKey P k encK) (h : MapIs encK encV es ck l)
    (hx : ev e x = .map (some b)) (hy : ev e y = encK a) {A B : List Pt} (hL : L = A ++ (b, .map es ck) :: B) :
    Eg P e ⟨d, .call { callee := .builtin .delete, args := #[x, y], argTypes := #[t, kt] }, ty, p, af, g⟩ c L (fun v L' => v = .tuple #[] ∧ ∃ es', MapIs encK encV es' ck (adel l a) ∧ L' = A ++ (b, .map es' ck) :: B) := by
  subst hL
  intro w hw
  have hb := hw.look (b, .map es ck) (by simp)
  rcases run_find KK h a w with ⟨h1, h2⟩ | ⟨j, v, q, h1, h2, h3, h4⟩
  · refine ⟨_, _, _, .inl ?_, ⟨rfl, es, by rw [(alook_none h1).2.2]; exact h, rfl⟩, hw.set⟩
    simp [execOp, resolve, invoke, builtin, Builtin.delete_, hx, hy, run_under ht, run_getMap hb, run_check KK, h2, run_setMap hb]
  · have hj : j < es.size := by
      rcases Nat.lt_or_ge j es.toList.length with h' | h'
      · simpa using h'
      · rw [List.getElem?_eq_none h'] at h2; cases h2
    have htl : (es.eraseIdxIfInBounds j).toList = es.toList.eraseIdx j := by
      simp [Array.eraseIdxIfInBounds, hj]
    refine ⟨_, _, _, .inl ?_, ⟨rfl, es.eraseIdxIfInBounds j, ?_, rfl⟩, hw.set⟩
    · simp [execOp, resolve, invoke, builtin, Builtin.delete_, hx, hy, run_under ht, run_getMap hb, run_check KK, h4, run_setMap hb]
    · rw [(alook_at h.keys h1).2.2]
      refine ⟨?_, ?_, ?_, ?_⟩
      · rw [htl, map_erase, map_erase, h.ents]
      · rw [map_erase]; exact (List.eraseIdx_sublist _ _).nodup h.keys
      · rw [htl, map_erase]; exact (List.eraseIdx_sublist _ _).nodup h.born
      · intro r hr; rw [htl] at hr; exact h.clock r (List.mem_of_mem_eraseIdx hr)
end
end Go.X

/- The engine, part 7: append in place, owned slices; going over a map. -/
namespace Go.X
section
variable {P : Program} {n : Sz} {e : Env} {d : Option Tmp} {ty : TypeId} {p : String} {af : Array Edge} {g : Option (Nat × Bool)}
variable {c : Cx} {L : List Pt} {x y z : Operand} {v v' : Value}

theorem Eg.mono {o : Oper} {post post' : Value → List Pt → Prop} (h : Eg P e o c L post) (hp : ∀ v L', post v L' → ∃ L'', post' v L'' ∧ L'.Perm L'') : Eg P e o c L post' := fun w hw => by
  obtain ⟨v, w', L', h1, h2, h3⟩ := h w hw
  obtain ⟨L'', h4, h5⟩ := hp v L' h2
  exact ⟨v, w', L'', h1, h4, h3.perm h5⟩
theorem Eg.perm {o : Oper} {L2 : List Pt} {post : Value → List Pt → Prop} (h : Eg P e o c L post) (hp : L2.Perm L) : Eg P e o c L2 post := fun w hw => h w (hw.perm hp)

/-! ## append in place -/
theorem putL_mid : ∀ (vs pre mid post : List Value) (cs : Array Value), cs.toList = pre ++ (mid ++ post) → mid.length = vs.length →
    (putL cs pre.length vs).toList = pre ++ (vs ++ post)
  | [], pre, mid, post, cs, h, hl => by
    obtain rfl : mid = [] := List.length_eq_zero_iff.1 hl
    simpa [putL] using h
  | v :: vs, pre, mid, post, cs, h, hl => by
    cases mid with
    | nil => simp at hl
    | cons m mid =>
      simp only [List.length_cons, Nat.add_right_cancel_iff] at hl
      have := putL_mid vs (pre ++ [v]) mid post (cs.setIfInBounds pre.length v) (by simp [h]) hl
      simp only [List.length_append, List.length_cons, List.length_nil, Nat.zero_add] at this
      simp only [putL, this, List.append_assoc, List.cons_append, List.nil_append]

theorem O.appendIn {t t2 el sz by_ m k cap b : Nat} {zv : Value} {old mid post new : Array Value} (ht : elemInfo P t = some (el, sz, by_, zv)) (ht2 : isDesc P t2 = 5)
    (hx : ev e x = .slice (some ⟨b, 0, none⟩) m cap) (hk : Src c ((b, .cells (old ++ (mid ++ post)) el (0, 0)) :: L) sz (ev e y) k new) (hone : ∀ u ∈ new.toList, Value.oneCell' u = true)
    (hroom : m + k ≤ cap) (ho : old.size = m * sz) (hmid : mid.size = k * sz) :
    Eg P e ⟨d, .call { callee := .builtin .append, args := #[x, y], argTypes := #[t, t2] }, ty, p, af, g⟩ c ((b, .cells (old ++ (mid ++ post)) el (0, 0)) :: L)
      (fun v L' => v = .slice (some ⟨b, 0, none⟩) (m + k) cap ∧ L' = (b, .cells (old ++ (new ++ post)) el (0, 0)) :: L) := by
  intro w hw
  obtain ⟨hu, i, hi, rfl, rfl, hz, hzs⟩ := elem_parts ht
  obtain ⟨el2, hu2⟩ := desc_slice ht2
  have hf2 := hk.run (P := P) hw
  have hl := hk.len (P := P) w
  have hns := hk.size
  have hb := hw.look _ (List.mem_cons_self)
  have hst := run_storeL (P := P) (el := el) new.toList w (m * i.size) 0 _ hb (by simp [ho, hns, hmid]) hone
  have hput : putL (old ++ (mid ++ post)) (m * i.size + 0) new.toList = old ++ (new ++ post) := by
    apply Array.ext'
    have := putL_mid new.toList old.toList mid.toList post.toList (old ++ (mid ++ post)) (by simp) (by simp [hmid, hns])
    simpa [ho] using this
  rw [hput] at hst
  refine ⟨_, _, _, .inl ?_, ⟨rfl, rfl⟩, St.set (A := []) hw⟩
  simp [execOp, resolve, invoke, builtin, Builtin.append_, hx, run_under hu, run_under hu2, run_size hi, hl, hroom, hf2, Addr.add_none, hst]

/-- a slice that is ours alone: m elements, whose cells are old -/
def OwnSl (el sz : Nat) (old : Array Value) (m : Nat) (v : Value) (Ls : List Pt) : Prop :=
  (m = 0 ∧ old = #[] ∧ v = .slice none 0 0 ∧ Ls = []) ∨
  (∃ b cap sp, v = .slice (some ⟨b, 0, none⟩) m cap ∧ m ≤ cap ∧ sp.size = (cap - m) * sz ∧ old.size = m * sz ∧ Ls = [(b, .cells (old ++ sp) el (0, 0))])

theorem OwnSl.src {el sz m : Nat} {old : Array Value} {Ls R : List Pt} (h : OwnSl el sz old m v Ls) : Src c (Ls ++ R) sz v m old := by
  rcases h with ⟨rfl, rfl, rfl, rfl⟩ | ⟨b, cap, sp, rfl, h1, h2, h3, rfl⟩
  · exact .inl ⟨none, 0, rfl, rfl, rfl⟩
  · refine .inr ⟨b, 0, cap, _, _, _, rfl, .head, by simp [h3], ?_⟩
    simp [← h3]
theorem OwnSl.size {el sz m : Nat} {old : Array Value} {Ls : List Pt} (h : OwnSl el sz old m v Ls) : old.size = m * sz := by
  rcases h with ⟨rfl, rfl, rfl, rfl⟩ | ⟨b, cap, sp, rfl, h1, h2, h3, rfl⟩
  · simp
  · exact h3

theorem O.appendOwn {t t2 el sz by_ m k : Nat} {zv : Value} {old new : Array Value} {Ls R : List Pt} (ht : elemInfo P t = some (el, sz, by_, zv)) (ht2 : isDesc P t2 = 5) (hby : by_ ≠ 0)
    (hx : ev e x = v) (ho : OwnSl el sz old m v Ls) (hk : Src c (Ls ++ R) sz (ev e y) k new) (hone : ∀ u ∈ new.toList, Value.oneCell' u = true) (hk0 : 0 < k)
    (hroom : (2 * (m + k) + 192) * by_ ≤ 281474976710656) :
    Eg P e ⟨d, .call { callee := .builtin .append, args := #[x, y], argTypes := #[t, t2] }, ty, p, af, g⟩ c (Ls ++ R)
      (fun v' L' => ∃ Ls', OwnSl el sz (old ++ new) (m + k) v' Ls' ∧ L' = Ls' ++ R) := by
  have hsrc := ho.src (c := c) (R := R)
  have hns := hk.size
  have hsz := ho.size
  rcases ho with ⟨rfl, rfl, rfl, rfl⟩ | ⟨b, cap, sp, rfl, h1, h2, h3, rfl⟩
  · intro w hw
    obtain ⟨v', w', L', h1, ⟨b, cap', sp, h2, h3, h4, rfl, rfl⟩, h5⟩ := O.appendGrow (d := d) (ty := ty) (p := p) (af := af) (g := g) ht ht2 hby hx hsrc hk (by omega) hroom w hw
    exact ⟨_, _, _, h1, ⟨[(b, _)], .inr ⟨b, cap', sp, rfl, h3, h4, by simp [hns], rfl⟩, rfl⟩, h5⟩
  · by_cases hc : m + k ≤ cap
    · have hks : k * sz ≤ sp.size := by
        rw [h2]; exact Nat.mul_le_mul_right _ (by omega)
      have hsp : sp = sp.extract 0 (k * sz) ++ sp.extract (k * sz) sp.size := by
        simp [Nat.max_eq_right hks]
      intro w hw
      rw [hsp] at hw hk
      obtain ⟨v', w', L', h4, ⟨rfl, rfl⟩, h5⟩ := O.appendIn (d := d) (ty := ty) (p := p) (af := af) (g := g) (L := R) (mid := sp.extract 0 (k * sz)) (post := sp.extract (k * sz) sp.size) ht ht2 hx (by simpa using hk) hone hc h3 (by simp; omega) w (by simpa using hw)
      refine ⟨_, _, _, h4, ⟨[(b, _)], .inr ⟨b, cap, sp.extract (k * sz) sp.size, rfl, hc, ?_, ?_, ?_⟩, rfl⟩, h5⟩
      · simp only [Array.size_extract, h2, Nat.min_self]; rw [Nat.sub_add_eq, Nat.sub_mul (cap - m)]
      · simp [h3, hns, Nat.add_mul]
      · simp
    · intro w hw
      obtain ⟨v', w', L', h4, ⟨b', cap', sp', h5, h6, h7, rfl, rfl⟩, h8⟩ := O.appendGrow (d := d) (ty := ty) (p := p) (af := af) (g := g) ht ht2 hby hx hsrc hk (by omega) hroom w hw
      exact ⟨_, _, _, h4, ⟨[(b', _)], .inr ⟨b', cap', sp', rfl, h6, h7, by simp [h3, hns, Nat.add_mul], rfl⟩, rfl⟩, h8.sub (by simp)⟩

/-! ## going over a map -/
variable {K V : Type} {encK : K → Value} {encV : V → Value}
/-- an iterator's block: what is still to come; and what the last step gave -/
structure ItIs (encK : K → Value) (encV : V → Value) (es : Array MapEntry) (ck bm : Nat) (rest : List (K × V)) (it : Obj) : Prop where
  ex : ∃ since seen c0, it = .mapIter (some bm) since seen c0 ∧ (∀ q ∈ es.toList, q.born < since) ∧ since ≤ c0 ∧ since ≤ ck ∧
    (leftOf es seen).toList.map (fun q => (q.key, q.val)) = rest.map (fun q => (encK q.1, encV q.2))


/-- 'range m' -/
theorem O.range {t k el bm : Nat} {es : Array MapEntry} {ck : Nat} {l : List (K × V)} (ht : P.underlying t = some (.map k el)) (h : MapIs encK encV es ck l) (hx : ev e x = .map (some bm)) (hr : Rd c L bm (.map es ck)) :
    Eg P e ⟨d, .range t x, ty, p, af, g⟩ c L (fun v L' => ∃ b it, c.w0.heap.size ≤ b ∧ v = .pointer (some ⟨b, 0, none⟩) ∧ ItIs encK encV es ck bm l it ∧ L' = (b, it) :: L) := by
  intro w hw
  refine ⟨_, _, _, .inl ?_, ⟨w.heap.size, .mapIter (some bm) ck #[] ck, hw.mod.size, rfl, ⟨⟨ck, #[], ck, rfl, h.clock, Nat.le_refl _, Nat.le_refl _, ?_⟩⟩, rfl⟩, hw.new _⟩
  · simp [execOp, Instr.range, hx, run_under ht, run_getMap (hr w hw)]
  · rw [← h.ents]; simp [leftOf, List.filter_eq_self.2 (fun _ _ => rfl)]

theorem nodup_filter_erase {es : List MapEntry} (hn : (es.map (·.born)).Nodup) {seen : Array Nat} {j : Nat} {q : MapEntry}
    (hj : (es.filter (fun e => !seen.contains e.born))[j]? = some q) : es.filter (fun e => !(seen.push q.born).contains e.born) = (es.filter (fun e => !seen.contains e.born)).eraseIdx j := by
  have h1 : es.filter (fun e => !(seen.push q.born).contains e.born) = (es.filter (fun e => !seen.contains e.born)).filter (fun e => !(e.born == q.born)) := by
    rw [List.filter_filter]
    apply List.filter_congr
    intro r _
    simp only [Array.contains_push, Bool.not_or]
    rw [Bool.and_comm]
  rw [h1]
  have hn2 : ((es.filter (fun e => !seen.contains e.born)).map (·.born)).Nodup := (List.filter_sublist.map _).nodup hn
  generalize es.filter (fun e => !seen.contains e.born) = l at hj hn2
  clear h1 hn
  induction l generalizing j with
  | nil => simp at hj
  | cons r l ih =>
    simp only [List.map_cons, List.nodup_cons] at hn2
    cases j with
    | zero =>
      obtain rfl : r = q := by simpa using hj
      simp only [List.eraseIdx_cons_zero, List.filter_cons, beq_self_eq_true, Bool.not_true, Bool.false_eq_true, if_false]
      apply List.filter_eq_self.2
      intro s hs
      have : s.born ≠ r.born := fun e => hn2.1 (e ▸ List.mem_map.2 ⟨s, hs, rfl⟩)
      simpa using this
    | succ j =>
      have hj' : l[j]? = some q := by simpa using hj
      have hq : q ∈ l := List.mem_of_getElem? hj'
      have hne : r.born ≠ q.born := fun e => hn2.1 (e ▸ List.mem_map.2 ⟨q, hq, rfl⟩)
      simp only [List.eraseIdx_cons_succ, List.filter_cons]
      rw [if_pos (by simpa using hne), ih hj' hn2.2]

theorem erase_perm {α : Type} : ∀ {l : List α} {j : Nat} (h : j < l.length), l.Perm (l[j] :: l.eraseIdx j)
  | x :: l, 0, _ => .refl _
  | x :: l, j + 1, h => by
    simp only [List.length_cons, Nat.add_lt_add_iff_right] at h
    simp only [List.getElem_cons_succ, List.eraseIdx_cons_succ]
    exact ((erase_perm h).cons x).trans (.swap _ _ _)
/-- the step: nothing is left, or some entry comes -/
theorem O.next {r bm : Nat} {it : Obj} {es : Array MapEntry} {ck : Nat} {l rest : List (K × V)} {R : List Pt} (h : MapIs encK encV es ck l) (hi : ItIs encK encV es ck bm rest it)
    (hx : ev e x = .pointer (some ⟨r, 0, none⟩)) (hr : Rd c ((r, it) :: R) bm (.map es ck)) :
    Eg P e ⟨d, .next x false, ty, p, af, g⟩ c ((r, it) :: R) (fun v L' =>
      (rest = [] ∧ v = .tuple #[.bool false] ∧ L' = (r, it) :: R) ∨
      (∃ a u rest' it', rest.Perm ((a, u) :: rest') ∧ v = .tuple #[.bool true, encK a, encV u] ∧ ItIs encK encV es ck bm rest' it' ∧
        (∀ e' : Env, ∀ x' : Operand, ev e' x' = .pointer (some ⟨r, 0, none⟩) → ∀ {L2 : List Pt} {d2 : Option Tmp} {ty2 : TypeId} {p2 : String} {af2 : Array Edge} {g2 : Option (Nat × Bool)}, Rd c L2 r it' → Rd c L2 bm (.map es ck) →
          Eg P e' ⟨d2, .entry x', ty2, p2, af2, g2⟩ c L2 (fun v2 L3 => v2 = .tuple #[encK a, encV u] ∧ L3 = L2)) ∧ L' = (r, it') :: R)) := by
  intro w hw
  obtain ⟨since, seen, c0, rfl, hold, hsc, hck, hl⟩ := hi.ex
  have hb := hr w hw
  have hrr := hw.look _ (List.mem_cons_self)
  rcases run_next_at (P := P) w ty r bm since c0 seen es ck hrr hb hold hsc with ⟨h0, hrun⟩ | ⟨q, hq, w1, hw1, hrun⟩
  · refine ⟨_, _, _, .inl ?_, .inl ⟨?_, rfl, rfl⟩, hw⟩
    · simp [execOp, hx, hrun]
    · have := congrArg List.length hl
      simp only [List.length_map, Array.length_toList, h0] at this
      exact List.length_eq_zero_iff.1 this.symm
  · obtain ⟨j, hj, hjq⟩ := List.getElem_of_mem hq
    have hjq' : (leftOf es seen).toList[j]? = some q := by rw [List.getElem?_eq_getElem hj, hjq]
    have hrj := congrArg (fun l => l[j]?) hl
    simp only [List.getElem?_map, hjq', Option.map_some] at hrj
    cases hrest : rest[j]? with
    | none => rw [hrest] at hrj; cases hrj
    | some au =>
      obtain ⟨a, u⟩ := au
      rw [hrest] at hrj
      simp only [Option.map_some, Option.some.injEq, Prod.mk.injEq] at hrj
      have hqe : q ∈ es.toList := by
        have : q ∈ (es.filter fun e => !seen.contains e.born).toList := hq
        simp at this; simpa using this.1
      have hst : St c ((r, .mapIter (some bm) since seen c0) :: R) w1 := by
        rcases hw1 with rfl | rfl
        · exact hw
        · exact hw.drew _
      refine ⟨_, setBlk w1 r (.mapIter (some bm) since (seen.push q.born) ck), _, .inl ?_, .inr ⟨a, u, rest.eraseIdx j, _, ?_, rfl, ⟨⟨since, seen.push q.born, ck, rfl, hold, hck, hck, ?_⟩⟩, ?_, rfl⟩, St.set (A := []) hst⟩
      · rw [hrj.1, hrj.2] at hrun
        simp [execOp, hx, hrun]
        rfl
      · have hlt : j < rest.length := by
          rcases Nat.lt_or_ge j rest.length with h' | h'
          · exact h'
          · rw [List.getElem?_eq_none h'] at hrest; cases hrest
        have : rest[j] = (a, u) := by rw [List.getElem?_eq_getElem hlt] at hrest; exact Option.some.inj hrest
        rw [← this]
        exact erase_perm hlt
      · have h3 : (leftOf es (seen.push q.born)).toList = (leftOf es seen).toList.eraseIdx j := by
          have := nodup_filter_erase h.born (seen := seen) (j := j) (q := q) (by simpa [leftOf] using hjq')
          simpa [leftOf] using this
        rw [h3, map_erase, map_erase, hl]
      · intro e' x' hx' L2 d2 ty2 p2 af2 g2 hr2 hb2 w2 hw2
        have := run_entry_at (P := P) w2 r bm since seen es ck q (hr2 w2 hw2) (hb2 w2 hw2) hqe h.born
        refine ⟨_, _, _, .inl ?_, ⟨rfl, rfl⟩, hw2⟩
        rw [hrj.1, hrj.2] at this
        simp [execOp, hx', this]
end
end Go.X

/- The engine, part 8: range over a function. -/
namespace Go.X
section
variable {P : Program} {c : Cx} {L : List Pt}

/-- a call of yield at a: one round, which says 'go on' -/
def YStep (P : Program) (c : Cx) (l : Nat) (a : Value) (L : List Pt) (post : List Pt → Prop) : Prop :=
  ∀ w, St c L w → ∃ f tmps assign body, (Instr.yield l #[a]).run P w = .ok (.round l f tmps assign body) w ∧
    ∀ m, RoundIn Fence.wide m P l f tmps assign body w (fun x w' => x = .returned (.bool true) ∧ ∃ L', post L' ∧ St c L' w')

theorem Op.yield {n : Sz} {e : Env} {d : Option Tmp} {ty : TypeId} {p : String} {af : Array Edge} {g : Option (Nat × Bool)} {K : Env → World → Prop} {x y : Operand} {tt : Array TypeId} {l : Nat} {a : Value} {post : List Pt → Prop}
    (hd : dstOk n d = true) (hy : ev e y = .func (.yield l) #[] #[]) (hx : ev e x = a) (h : YStep P c l a L post)
    (k : ∀ L', post L' → Ent c L' K (updO e d (.bool true))) : Ent c L (OpY P n ⟨d, .call { callee := .value y, args := #[x], argTypes := tt }, ty, p, af, g⟩ K) e := fun w hw => by
  obtain ⟨f, tmps, assign, body, h1, h2⟩ := h w hw
  refine OpY.round (f := f) (tmps := tmps) (assign := assign) (body := body) hd ?_ (fun m => (h2 m).mono ?_)
  · simp [execOp, resolve, hy, hx, Deferred.ofValue, invoke, h1]
  · rintro x w' ⟨rfl, L', h3, h4⟩
    exact ⟨_, rfl, k L' h3 w' h4⟩

def oneP (X : EW) : Post := { nor := X, ret := fun _ _ => False, ex := fun _ _ _ => False, gt := fun _ _ _ => False }
theorem nor_one {X : EW} {e : Env} (h : Ent c L X e) : Ent c L (oneP X).nor e := h

theorem wpOpsIn_mono' {F : Fence} {n : Nat} {ops : Array Oper} {Q Q' : Exit → Act → World → Prop} (hq : ∀ e a w, Q e a w → Q' e a w) : ∀ (l : List Nat) (a : Act) (w : World), wpOpsIn F n P ops Q l a w → wpOpsIn F n P ops Q' l a w
  | [], a, w, h => hq _ _ _ h
  | i :: rest, a, w, h => by
    unfold wpOpsIn at h ⊢
    cases ho : ops[i]? with
    | none => simp only [ho] at h ⊢; exact wpOpsIn_mono' hq rest a w h
    | some o =>
      simp only [ho] at h ⊢
      split
      · rename_i hw
        rw [if_pos hw] at h
        refine ⟨h.1, ?_⟩
        have h2 := h.2
        generalize (o.semAt F.round a.eval).run P w = r at h2 ⊢
        cases r with
        | halt x w' => cases x <;> first | exact hq _ _ _ h2 | exact h2
        | ok nx w' =>
          cases nx with
          | value v => exact wpOpsIn_mono' hq rest _ _ h2
          | skip => exact wpOpsIn_mono' hq rest _ _ h2
          | defer d => exact wpOpsIn_mono' hq rest _ _ h2
          | enter f args =>
            refine ⟨h2.1, CallsIn.mono h2.2 fun x w'' hx => ?_⟩
            cases x with
            | returned v => exact wpOpsIn_mono' hq rest _ _ hx
            | panicked ch => exact hq _ _ _ hx
            | outgrown => obtain ⟨a, w, hx⟩ := hx; exact ⟨a, w, hq _ _ _ hx⟩
          | row row args => exact ⟨h2.1, RowsIn.mono h2.2 fun v w'' hx => wpOpsIn_mono' hq rest _ _ hx⟩
          | round l f t aa bd =>
            refine ⟨h2.1, RoundIn.mono h2.2 fun x w'' hx => ?_⟩
            cases x with
            | returned v => exact wpOpsIn_mono' hq rest _ _ hx
            | panicked ch => exact hq _ _ _ hx
            | outgrown => obtain ⟨a, w, hx⟩ := hx; exact ⟨a, w, hq _ _ _ hx⟩
          | _ => exact h2.elim
      · rename_i hw
        rw [if_neg hw] at h
        exact ⟨h.1, wpOpsIn_mono' hq rest _ _ h.2⟩

/-- the record of a loop over a function: one loop variable, in slot p -/
structure IsRec (rec : Loop) (k : Nat) (e : Env) (p : Nat) (A B : Array Oper) : Prop where
  size : rec.tmps.size = k
  env : (fun t => rec.tmps.getD t undef) = e
  params : rec.params = #[p]
  assign : ∃ i, rec.assign = .region i A false
  body : ∃ i j, rec.body = .block i (.region j B false)
  state : rec.state = .ready
  pending : rec.pending = none

theorem YStep.make {rec : Loop} {k p l : Nat} {e : Env} {A B : Array Oper} {a : Value} {post : List Pt → Prop} (hr : IsRec rec k e p A B) (hp : p < k)
    (h : ∀ X : EW, (∀ {e1 : Env} {L1 : List Pt}, (∀ Y : EW, (∀ {e2 : Env} {L2 : List Pt}, post ((l, .loop rec) :: L2) → Ent c ((l, .loop { rec with state := .busy }) :: L2) Y e2) →
        Ent c ((l, .loop { rec with state := .busy }) :: L1) (WOps P ⟨k, []⟩ B (oneP Y) (List.range B.size)) e1) → Ent c ((l, .loop rec) :: L1) X e1) →
      Ent c ((l, .loop rec) :: L) (WOps P ⟨k, []⟩ A (oneP X) (List.range A.size)) (upd e p a)) :
    YStep P c l a ((l, .loop rec) :: L) post := by
  intro w hw
  have hl := hw.look _ (List.mem_cons_self)
  obtain ⟨ia, hA⟩ := hr.assign
  obtain ⟨ib, jb, hB⟩ := hr.body
  refine ⟨_, _, _, _, run_yield hl (by simp [hr.params]), fun m => roundIn_of_wpIn (F := Fence.wide) trivial ?_⟩
  have h1 := h (fun e1 w1 => ∃ L1, Ent c ((l, .loop { rec with state := .busy }) :: L1) (WOps P ⟨k, []⟩ B (oneP fun e2 w2 => ∃ L2, post ((l, .loop rec) :: L2) ∧ St c ((l, .loop { rec with state := .busy }) :: L2) w2) (List.range B.size)) e1 ∧ St c ((l, .loop rec) :: L1) w1)
    (fun {e1 L1} hB w1 hw1 => ⟨L1, hB _ (fun hp _ hw => ⟨_, hp, hw⟩), hw1⟩) w hw
  rw [hA]
  refine wpIn_region (wpOpsIn_mono' ?_ _ _ _ (h1 (some l) m { tmps := (rec.params.zip #[a]).foldl (fun tmps (t, a) => tmps.setIfInBounds t a) rec.tmps, defers := [] } ⟨rfl, by simp [hr.params, hr.size], ?_⟩))
  · intro x a1 w1 hx
    cases x with
    | normal =>
      obtain ⟨hd, hsz, L1, hB1, hst⟩ := hx
      refine ⟨_, run_beginRound (hst.look _ (List.mem_cons_self)) hr.state, ?_⟩
      refine (congrArg (fun cd => Code.wpIn (Fence.wide.inRound l) m P cd (roundPost P l _) a1 _) hB).mpr ?_
      refine wpIn_block (wpIn_region (wpOpsIn_mono' ?_ _ _ _ (hB1 _ (St.set (A := []) hst) (some l) m a1 ⟨hd, hsz, rfl⟩)))
      intro x a2 w2 hx
      cases x with
      | normal =>
        obtain ⟨_, _, L2, hpost, hst2⟩ := hx
        refine ⟨_, _, run_endRound none (hst2.look _ (List.mem_cons_self)), rfl, _, hpost, ?_⟩
        have := St.set (A := []) (o' := .loop rec) hst2
        have he : ({ ({ rec with state := .busy } : Loop) with state := if (none : Option Code).isNone then .ready else .done, pending := none } : Loop) = rec := by
          have h1 := hr.state; have h2 := hr.pending
          cases rec; simp only at h1 h2; subst h1 h2; rfl
        rw [he]
        exact this
      | exit i => exact hx.2.2.elim
      | goto i => exact hx.2.2.elim
      | ret => exact hx.2.2.elim
      | panic _ => exact hx.elim
      | outgrown => exact hx.elim
    | exit i => exact hx.2.2.elim
    | goto i => exact hx.2.2.elim
    | ret => exact hx.2.2.elim
    | panic _ => exact hx.elim
    | outgrown => exact hx.elim
  · rw [← hr.env]
    funext t
    simp only [envOf, hr.params]
    by_cases ht : t = p
    · subst ht
      rw [upd_same]
      simp [hr.size, hp]
    · rw [upd_ne _ _ ht]
      simp [Array.getElem?_setIfInBounds_ne (Ne.symm ht)]

def coll (D : Nat) : Deferred := { target := .collected D, args := #[] }

theorem Fn.range {f : FuncId} {fn : Func} {k p g id0 id1 id4 idA idB b0 b1 : Nat} {ops0 ops1 ops4 A B : Array Oper} {args : List Value} {post : Value → List Pt → Prop} (hf : P.funcs[f]? = some fn)
    (hb : fn.body = some (.seq (.region id0 ops0 false) (.seq (.seq (.region id1 ops1 false) (.block b0 (.rangeFunc (.tmp g) #[p] (.region idA A false) (.block b1 (.region idB B false))))) (.seq (.region id4 ops4 false) .ret))))
    (hn : fn.ntmps = k) (hl : args.length.ble k = true)
    (h : ∀ X : EW, (∀ {e1 : Env} {L1 : List Pt} {gf : FuncId} {lb : List Value}, e1 g = .func (.func gf) #[] lb.toArray → hasBody P gf = true →
        (∀ (D l : Nat) (rec : Loop), IsRec rec k e1 p A B →
          Fn P gf (.func (.yield l) #[] #[] :: lb).toArray c ((l, .loop rec) :: (D, .deferred (some [])) :: L1) (fun _ L' => ∃ L2, L' = (l, .loop rec) :: (D, .deferred (some [])) :: L2 ∧
            ∀ Y : EW, (∀ {e2 : Env} {v : Value} {L4 : List Pt}, ResOk P fn c L2 e2 v → post v L4 → L4.Sublist L2 → Ent c ((D, .deferred (some [])) :: L2) Y e2) →
              Ent c ((D, .deferred (some [])) :: L2) (WOps P ⟨k, [coll D]⟩ ops4 (oneP Y) (List.range ops4.size)) e1)) → Ent c L1 X e1) →
      Ent c L (WOps P ⟨k, []⟩ ops0 (oneP (WOps P ⟨k, []⟩ ops1 (oneP X) (List.range ops1.size))) (List.range ops0.size)) (argE args)) :
    Fn P f args.toArray c L post := by
  subst hn
  intro w hw
  refine callsIn_wide.1 (callsIn_of_wp_marks (F := Fence.wide) (n := 0) hf hb trivial ?_)
  generalize hR : (fun x w' => ∃ v, x = Ending.returned v ∧ ∃ L', post v L' ∧ St c L' w') = R
  let Q : Exit → Act → World → Prop := bodyPostM Fence.wide 0 P fn R
  let tail : Code := .seq (.region id4 ops4 false) .ret
  let RF : Code := .block b0 (.rangeFunc (.tmp g) #[p] (.region idA A false) (.block b1 (.region idB B false)))
  have h1 := h (fun e1 w1 => ∀ a1, Fit ⟨fn.ntmps, []⟩ e1 a1 → RF.wpIn Fence.wide 0 P (Exit.then (tail.wpIn Fence.wide 0 P Q) Q) a1 w1) ?_ w hw
  · refine wpIn_seq (wpIn_region (wpOpsIn_mono' ?_ _ _ _ (h1 none 0 _ ⟨rfl, ?_, ?_⟩)))
    · intro x a1 w1 hx
      cases x with
      | normal =>
        obtain ⟨hd, hsz, h2⟩ := hx
        refine wpIn_seq (wpIn_seq (wpIn_region (wpOpsIn_mono' ?_ _ _ _ (h2 none 0 a1 ⟨hd, hsz, rfl⟩))))
        intro x a2 w2 hx
        cases x with
        | normal => exact hx.2.2 a2 ⟨hx.1, hx.2.1, rfl⟩
        | exit i => exact hx.2.2.elim
        | goto i => exact hx.2.2.elim
        | ret => exact hx.2.2.elim
        | panic _ => exact hx.elim
        | outgrown => exact hx.elim
      | exit i => exact hx.2.2.elim
      | goto i => exact hx.2.2.elim
      | ret => exact hx.2.2.elim
      | panic _ => exact hx.elim
      | outgrown => exact hx.elim
    · have := Nat.le_of_ble_eq_true hl
      simp; omega
    · have := Nat.le_of_ble_eq_true hl
      funext t
      simp only [envOf, argE, Array.getD_eq_getD_getElem?, Array.getElem?_append, List.size_toArray, Array.getElem?_replicate, List.getElem?_toArray]
      split
      · rfl
      · rename_i ht
        rw [List.getElem?_eq_none (by omega)]
        split <;> rfl
  · intro e1 L1 gf lb hg hgb hcall w1 hw1 a1 ha1
    refine wpIn_block (wpIn_rangeFunc fun fnid _ => ?_)
    have heg : a1.eval (.tmp g) = .func (.func gf) #[] lb.toArray := by rw [eval_eq, ha1.2.2]; exact hg
    obtain ⟨rec, hrec⟩ : ∃ rec : Loop, rec = { state := .ready, pending := none, fn := fnid, tmps := a1.tmps, params := #[p], assign := .region idA A false, body := .block b1 (.region idB B false), defers := w1.heap.size } := ⟨_, rfl⟩
    have hst2 := (hw1.new (.deferred (some []))).new (.loop rec)
    obtain ⟨W2, hW2⟩ : ∃ W2, (w1.alloc (.deferred (some []))).alloc (.loop rec) = W2 := ⟨_, rfl⟩
    rw [hW2] at hst2
    refine ⟨w1.heap.size + 1, [coll w1.heap.size], W2, { target := .fn (.func gf) lb.toArray, args := #[.func (.yield (w1.heap.size + 1)) #[] #[]] }, W2, gf, (.func (.yield (w1.heap.size + 1)) #[] #[] :: lb).toArray, W2, ?_, ?_, fun _ _ => trivial, ?_, fun h => (by cases h), ?_⟩
    · rw [← hW2, hrec]; exact run_enterLoop_outer _ _ _ _ _
    · have hc : a1.eval (.const (.func (.yield (w1.heap.size + 1)) #[] #[])) = .func (.yield (w1.heap.size + 1)) #[] #[] := rfl
      simp [resolve, heg, hc, Deferred.ofValue]
    · simp [invoke, run_callFunc hgb]
    · refine callsIn_wide.2 (Calls.mono (hcall w1.heap.size (w1.heap.size + 1) rec ⟨by rw [hrec]; exact ha1.2.1, by rw [hrec]; exact ha1.2.2, by rw [hrec], ⟨idA, by rw [hrec]⟩, ⟨b1, idB, by rw [hrec]⟩, by rw [hrec], by rw [hrec]⟩ _ (by simpa using hst2)) ?_)
      rintro x w3 ⟨v, rfl, L', ⟨L2, rfl, htail⟩, hw3⟩
      have hpend : rec.pending = none := by rw [hrec]
      refine ⟨none, _, (run_endLoop (hw3.look _ (List.mem_cons_self)) (by rw [hrec]; simp)).trans (congrArg (fun j => Result.ok j _) hpend), ?_⟩
      have hw4 := (St.set (A := []) (o' := .loop { rec with state := .exhausted }) hw3).tail
      have h5 := htail (fun e2 w2 => ∃ v L4, ResOk P fn c L2 e2 v ∧ post v L4 ∧ L4.Sublist L2 ∧ St c ((w1.heap.size, .deferred (some [])) :: L2) w2) (fun h1 h2 h3 w hw => ⟨_, _, h1, h2, h3, hw⟩) _ hw4
      show tail.wpIn Fence.wide 0 P Q _ _
      refine wpIn_seq (wpIn_region (wpOpsIn_mono' ?_ _ _ _ (h5 none 0 { a1 with defers := coll w1.heap.size :: a1.defers } ⟨by simp [ha1.1], ha1.2.1, ha1.2.2⟩)))
      intro x a2 w2 hx
      cases x with
      | normal =>
        obtain ⟨hd, _, v, L4, hres, hpost, hsub, hst⟩ := hx
        refine wpIn_ret ?_
        show LeavesInM Fence.wide 0 P fn a2.tmps R a2.defers .returning w2
        rw [hd]
        refine ⟨by simp, .inl ⟨_, _, rfl, run_takeDeferred (hst.look _ (List.mem_cons_self)), ?_⟩⟩
        have hst5 := (St.set (A := []) (o' := .deferred none) hst).tail
        refine ⟨v, ?_, ?_⟩
        · exact hres _ hst5
        · rw [← hR]; exact ⟨v, rfl, L4, hpost, hst5.sub hsub⟩
      | exit i => exact hx.2.2.elim
      | goto i => exact hx.2.2.elim
      | ret => exact hx.2.2.elim
      | panic _ => exact hx.elim
      | outgrown => exact hx.elim
end
end Go.X

/- The engine, part 9: iterators. -/
namespace Go.X
section
variable {P : Program} {c : Cx} {L : List Pt}
theorem rng {n : Sz} {ops : Array Oper} {Q : Post} {e : Env} (l : List Nat) (hl : List.range ops.size = l) (h : Ent c L (WOps P n ops Q l) e) : Ent c L (WOps P n ops Q (List.range ops.size)) e := by
  rw [hl]; exact h
theorem bring {Ls pre R : List Pt} : (pre ++ (Ls ++ R)).Perm (Ls ++ (pre ++ R)) := List.perm_append_comm_assoc _ _ _
theorem rows_append {α : Type} {enc : α → Array Value} {l m : List α} : rows enc (l ++ m) = rows enc l ++ rows enc m := by
  apply Array.ext'; simp [rows]
theorem rows_one {α : Type} {enc : α → Array Value} {x : α} : rows enc [x] = enc x := by
  apply Array.ext'; simp [rows]
def intE (x : Int) : Array Value := #[.int .i64 x]
theorem Fn.perm {f : FuncId} {args : Array Value} {L2 : List Pt} {post : Value → List Pt → Prop} (h : Fn P f args c L2 post) (hp : L.Perm L2) : Fn P f args c L post := fun w hw => h w (hw.perm hp)
/-- an iterator: a closure that calls yield at each of xs, S xs -/
def IterOk (P : Program) (c : Cx) {α : Type} (enc : α → Value) (gf : FuncId) (lb : List Value) (N : Nat) (S : List α → Prop) (R : List Pt) : Prop :=
  ∀ (l : Nat) (I : List α → List Pt → Prop) (Lo : List Pt),
    (∀ pre x Lo R', pre.length < N → I pre Lo → YStep P c l (enc x) (Lo ++ R') (fun L' => ∃ Lo', I (pre ++ [x]) Lo' ∧ L' = Lo' ++ R')) → I [] Lo →
    Fn P gf (.func (.yield l) #[] #[] :: lb).toArray c (Lo ++ R) (fun _ L' => ∃ xs Lo', S xs ∧ I xs Lo' ∧ L' = Lo' ++ R)
end
end Go.X

namespace Go.X
open Go.Proofs
theorem ds_72 : isDesc Tryz.prog 72 = 5 := by kernel_rfl
theorem ds_74 : isDesc Tryz.prog 74 = 5 := by kernel_rfl
theorem ei_72 : elemInfo Tryz.prog 72 = some (2, 1, 8, .int .i64 0) := by kernel_rfl
theorem ei_74 : elemInfo Tryz.prog 74 = some (45, 16, 16, .agg #[.int .u8 0, .int .u8 0, .int .u8 0, .int .u8 0, .int .u8 0, .int .u8 0, .int .u8 0, .int .u8 0, .int .u8 0, .int .u8 0, .int .u8 0, .int .u8 0, .int .u8 0, .int .u8 0, .int .u8 0, .int .u8 0]) := by kernel_rfl
theorem kd_45 : kindOf Tryz.prog 45 = some (true, 16) := by kernel_rfl
theorem kd_72 : kindOf Tryz.prog 72 = some (false, 1) := by kernel_rfl
theorem kd_74 : kindOf Tryz.prog 74 = some (false, 1) := by kernel_rfl
theorem zo_45 : zeroOf Tryz.prog 45 = some (.agg #[.int .u8 0, .int .u8 0, .int .u8 0, .int .u8 0, .int .u8 0, .int .u8 0, .int .u8 0, .int .u8 0, .int .u8 0, .int .u8 0, .int .u8 0, .int .u8 0, .int .u8 0, .int .u8 0, .int .u8 0, .int .u8 0]) := by kernel_rfl
set_option maxRecDepth 100000 in
theorem C_AppendSeq_Key {c : Cx} {L : List Pt} {gf : FuncId} {lb : List Value} {N : Nat} {S : List Key → Prop} (hN : N ≤ 1000000000) (hgb : hasBody Tryz.prog gf = true)
    (hit : IterOk Tryz.prog c (fun x : Key => (.agg (Key_enc x))) gf lb N S L) :
    Fn Tryz.prog 202 #[.slice none 0 0, .func (.func gf) #[] lb.toArray] c L (fun v L' => ∃ xs Ls, S xs ∧ OwnSl 45 16 (rows Key_enc xs) xs.length v Ls ∧ L' = Ls ++ L) := by
  refine Fn.range (k := 13) (p := 7) (g := 6) Tryz.func202 rfl rfl rfl (fun X hX => ?_)
  refine rng [0, 1] rfl ?_
  refine Seq.op at0 rfl (Op.new rfl (O.box (v := .slice _ _ _) rfl rfl) ?_)
  intro b2 _
  refine Seq.rd0 at1 rfl rfl (O.assign (v := .slice _ _ _) rfl) ?_
  refine Seq.nil (nor_one (rng [0] rfl ?_))
  refine Seq.rd0 at0 rfl rfl (O.move (v := .func _ _ _) rfl) ?_
  refine Seq.nil (nor_one ?_)
  refine hX (gf := gf) (lb := lb) rfl hgb (fun D l rec hr => ?_)
  refine Fn.mono (hit l (fun pre Lo => ∃ v Ls, Lo = (l, .loop rec) :: (D, .deferred (some [])) :: (b2, .cells #[v] 74 (0, 0)) :: Ls ∧ OwnSl 45 16 (rows Key_enc pre) pre.length v Ls ∧ v.oneCell' = true) [(l, .loop rec), (D, .deferred (some [])), (b2, .cells #[.slice none 0 0] 74 (0, 0))] ?_ ⟨_, [], rfl, .inl ⟨rfl, rfl, rfl, rfl⟩, rfl⟩) ?_
  · rintro pre x _ R' hlen ⟨v, Ls, rfl, ho, hv1⟩
    refine YStep.make hr (by decide) (fun X hX => ?_)
    refine rng [0, 1] rfl ?_
    refine Seq.op at0 rfl (Op.new rfl (O.alloc zo_45 (cs := (Key_enc Key.zero)) rfl) ?_)
    intro bx _
    refine Seq.op at1 rfl (Op.set0 rfl (O.store kd_45 rfl (v := .agg _) rfl (Key_size _) (Key_room (Key_size _)) (Key_one _) (Key_put _ (Key_size _))) ?_)
    refine Ent.perm ?_ (.swap _ _ _)
    refine Seq.nil (nor_one ?_)
    refine hX (fun Y hY => ?_)
    refine rng [0, 1, 2, 3, 4] rfl ?_
    refine Seq.rd1 at0 rfl rfl (O.load kd_74 rfl r1_0) Rd.head.cons.cons.cons ?_
    refine Seq.rd1 at1 rfl rfl (O.loadA kd_45 rfl (Nat.le_of_ble_eq_true rfl) (Key_all _)) Rd.head.cons ?_
    refine Seq.op at2 rfl (Op.new rfl (O.buildSlice (el := 45) rfl (cs := rows Key_enc [x]) (by kernel_rfl)) ?_)
    intro bs _
    refine Ent.perm ?_ (bring (Ls := Ls) (pre := [(bs, _), (l, _), (bx, _), (D, _), (b2, _)]) (R := R'))
    refine Seq.op at3 rfl (Op.gen rfl (O.appendOwn (k := 1) (new := rows Key_enc [x]) ei_74 ds_74 (by decide) rfl ho (.inr ⟨bs, 0, 1, rows Key_enc [x], 45, (0, 0), rfl, Rd.head.sub (List.sublist_append_right _ _), Nat.le_refl _, by rw [rows_one]; exact Key_all x⟩) (by rw [rows_one]; exact Key_one x) (by decide) (by omega)) ?_)
    rintro v' _ ⟨Ls', ho', rfl⟩
    have hv2 : v'.oneCell' = true := by
      rcases ho' with ⟨_, _, rfl, _⟩ | ⟨_, _, _, rfl, _⟩ <;> rfl
    refine Ent.perm ?_ (bring (Ls := Ls') (pre := [(bs, _), (l, _), (bx, _), (D, _), (b2, _)]) (R := R')).symm
    refine Seq.op at4 rfl (Op.set4 rfl (O.store1 kd_74 rfl (v := v') rfl (Nat.le_of_ble_eq_true rfl) hv2 (cs' := #[v']) rfl) ?_)
    refine Seq.nil (nor_one ?_)
    exact Ent.sub (hY (L2 := (D, _) :: (b2, _) :: (Ls' ++ R')) ⟨_, ⟨v', Ls', rfl, by rw [rows_append, List.length_append]; exact ho', hv2⟩, rfl⟩) (.cons _ (.cons_cons _ (.cons _ (.refl _))))
  · rintro v _ ⟨xs, _, hS, ⟨sv, Ls, rfl, ho, _⟩, rfl⟩
    refine ⟨(b2, .cells #[sv] 74 (0, 0)) :: (Ls ++ L), rfl, fun Y hY => ?_⟩
    refine rng [0, 1] rfl ?_
    refine Seq.rd1 at0 rfl rfl (O.load kd_74 rfl r1_0) Rd.head.cons ?_
    refine Seq.rd0 at1 rfl rfl (O.assign (v := sv) rfl) ?_
    exact Seq.nil (nor_one (hY (Res.one (v := sv) rfl rfl) ⟨xs, Ls, hS, ho, rfl⟩ (List.sublist_cons_self _ _)))

set_option maxRecDepth 100000 in
theorem C_AppendSeq_int64 {c : Cx} {L : List Pt} {gf : FuncId} {lb : List Value} {N : Nat} {S : List Int → Prop} (hN : N ≤ 1000000000) (hgb : hasBody Tryz.prog gf = true)
    (hit : IterOk Tryz.prog c (fun x : Int => (.int .i64 x)) gf lb N S L) :
    Fn Tryz.prog 233 #[.slice none 0 0, .func (.func gf) #[] lb.toArray] c L (fun v L' => ∃ xs Ls, S xs ∧ OwnSl 2 1 (rows intE xs) xs.length v Ls ∧ L' = Ls ++ L) := by
  refine Fn.range (k := 13) (p := 7) (g := 6) Tryz.func233 rfl rfl rfl (fun X hX => ?_)
  refine rng [0, 1] rfl ?_
  refine Seq.op at0 rfl (Op.new rfl (O.box (v := .slice _ _ _) rfl rfl) ?_)
  intro b2 _
  refine Seq.rd0 at1 rfl rfl (O.assign (v := .slice _ _ _) rfl) ?_
  refine Seq.nil (nor_one (rng [0] rfl ?_))
  refine Seq.rd0 at0 rfl rfl (O.move (v := .func _ _ _) rfl) ?_
  refine Seq.nil (nor_one ?_)
  refine hX (gf := gf) (lb := lb) rfl hgb (fun D l rec hr => ?_)
  refine Fn.mono (hit l (fun pre Lo => ∃ v Ls, Lo = (l, .loop rec) :: (D, .deferred (some [])) :: (b2, .cells #[v] 72 (0, 0)) :: Ls ∧ OwnSl 2 1 (rows intE pre) pre.length v Ls ∧ v.oneCell' = true) [(l, .loop rec), (D, .deferred (some [])), (b2, .cells #[.slice none 0 0] 72 (0, 0))] ?_ ⟨_, [], rfl, .inl ⟨rfl, rfl, rfl, rfl⟩, rfl⟩) ?_
  · rintro pre x _ R' hlen ⟨v, Ls, rfl, ho, hv1⟩
    refine YStep.make hr (by decide) (fun X hX => ?_)
    refine rng [0] rfl ?_
    refine Seq.rd0 at0 rfl rfl (O.assign (v := .int .i64 _) rfl) ?_
    refine Seq.nil (nor_one ?_)
    refine hX (fun Y hY => ?_)
    refine rng [0, 1, 2, 3, 4] rfl ?_
    refine Seq.rd1 at0 rfl rfl (O.load kd_72 rfl r1_0) Rd.head.cons.cons ?_
    refine Seq.rd0 at1 rfl rfl (O.move (v := .int .i64 _) rfl) ?_
    refine Seq.op at2 rfl (Op.new rfl (O.buildSlice (el := 2) rfl (cs := rows intE [x]) (by kernel_rfl)) ?_)
    intro bs _
    refine Ent.perm ?_ (bring (Ls := Ls) (pre := [(bs, _), (l, _), (D, _), (b2, _)]) (R := R'))
    refine Seq.op at3 rfl (Op.gen rfl (O.appendOwn (k := 1) (new := rows intE [x]) ei_72 ds_72 (by decide) rfl ho (.inr ⟨bs, 0, 1, rows intE [x], 2, (0, 0), rfl, Rd.head.sub (List.sublist_append_right _ _), Nat.le_refl _, by rw [rows_one]; rfl⟩) (by rw [rows_one]; intro u hu; simp [intE] at hu; subst hu; rfl) (by decide) (by omega)) ?_)
    rintro v' _ ⟨Ls', ho', rfl⟩
    have hv2 : v'.oneCell' = true := by
      rcases ho' with ⟨_, _, rfl, _⟩ | ⟨_, _, _, rfl, _⟩ <;> rfl
    refine Ent.perm ?_ (bring (Ls := Ls') (pre := [(bs, _), (l, _), (D, _), (b2, _)]) (R := R')).symm
    refine Seq.op at4 rfl (Op.set3 rfl (O.store1 kd_72 rfl (v := v') rfl (Nat.le_of_ble_eq_true rfl) hv2 (cs' := #[v']) rfl) ?_)
    refine Seq.nil (nor_one ?_)
    exact Ent.sub (hY (L2 := (D, _) :: (b2, _) :: (Ls' ++ R')) ⟨_, ⟨v', Ls', rfl, by rw [rows_append, List.length_append]; exact ho', hv2⟩, rfl⟩) (.cons _ (.refl _))
  · rintro v _ ⟨xs, _, hS, ⟨sv, Ls, rfl, ho, _⟩, rfl⟩
    refine ⟨(b2, .cells #[sv] 72 (0, 0)) :: (Ls ++ L), rfl, fun Y hY => ?_⟩
    refine rng [0, 1] rfl ?_
    refine Seq.rd1 at0 rfl rfl (O.load kd_72 rfl r1_0) Rd.head.cons ?_
    refine Seq.rd0 at1 rfl rfl (O.assign (v := sv) rfl) ?_
    exact Seq.nil (nor_one (hY (Res.one (v := sv) rfl rfl) ⟨xs, Ls, hS, ho, rfl⟩ (List.sublist_cons_self _ _)))

end Go.X

namespace Go.X
open Go.Proofs
theorem kd_243 : kindOf Tryz.prog 243 = some (false, 1) := by kernel_rfl
theorem mp_243 : Tryz.prog.underlying 243 = some (.map 45 251) := by kernel_rfl
theorem perm_step {K V : Type} {pre ks : List K} {rest rest' : List (K × V)} {a : K} {u : V} (hp : (pre ++ rest.map Prod.fst).Perm ks) (hpm : rest.Perm ((a, u) :: rest')) :
    ((pre ++ [a]) ++ rest'.map Prod.fst).Perm ks := by
  refine List.Perm.trans ?_ hp
  rw [List.append_assoc]
  exact List.Perm.append_left pre (hpm.map Prod.fst).symm
theorem step_lt {K V : Type} {lst : List (K × V)} {pre : List K} {rest rest' : List (K × V)} {a : K} {u : V} (hp : (pre ++ rest.map Prod.fst).Perm (lst.map Prod.fst)) (hpm : rest.Perm ((a, u) :: rest')) : pre.length < lst.length := by
  have h1 := hp.length_eq
  have h2 := hpm.length_eq
  simp only [List.length_append, List.length_map, List.length_cons] at h1 h2
  omega
theorem step_dec {K V : Type} {rest rest' : List (K × V)} {a : K} {u : V} (hpm : rest.Perm ((a, u) :: rest')) : rest'.length < rest.length := by
  have h2 := hpm.length_eq
  simp only [List.length_cons] at h2
  omega

set_option maxRecDepth 100000 in
set_option maxHeartbeats 2000000 in
theorem C_keysChain_fn {c : Cx} {L : List Pt} {V : Type} {encV : V → Value} {Rt Lo : List Pt} {bb bm l ck : Nat} {es : Array MapEntry} {lst : List (Key × V)} {I : List Key → List Pt → Prop} (hm : MapIs (fun x : Key => (.agg (Key_enc x))) encV es ck lst) (hb : Rd c Rt bb (.cells #[.map (some bm)] 243 (0, 0))) (hr : Rd c Rt bm (.map es ck)) (hY : ∀ pre x Lo R', pre.length < lst.length → I pre Lo → YStep Tryz.prog c l ((fun x : Key => (.agg (Key_enc x))) x) (Lo ++ R') (fun L' => ∃ Lo', I (pre ++ [x]) Lo' ∧ L' = Lo' ++ R')) (h0 : I [] Lo) : Fn Tryz.prog 239 #[.func (.yield l) #[] #[], .pointer (some ⟨bb, 0, none⟩)] c (Lo ++ Rt) (fun v L' => ∃ xs Lo', xs.Perm (lst.map Prod.fst) ∧ I xs Lo' ∧ L' = Lo' ++ Rt) := by
  refine Fn.enter Tryz.func239 rfl 14 rfl rfl (fun R hR => ?_)
  refine Cd.seq (fun K1 hK1 => ?_)
  refine Cd.region [0, 1] rfl ?_
  refine Seq.rd1 at0 rfl rfl (O.load kd_243 rfl r1_0) (hb.sub (List.sublist_append_right _ _)) ?_
  refine Seq.op at1 rfl (Op.gen rfl (O.range mp_243 hm rfl (hr.sub (List.sublist_append_right _ _))) ?_)
  rintro _ _ ⟨r, it, hr0, rfl, hi, rfl⟩
  refine Seq.nil ?_
  refine hK1 ?_
  refine Cd.block ?_
  refine Cd.loop (fun m2 e3 L4 => ∃ pre : List Key, ∃ rest : List (Key × V), ∃ Lo1 : List Pt, ∃ it : Obj, m2 = rest.length ∧ e3 0 = .func (.yield l) #[] #[] ∧ e3 5 = .pointer (some ⟨r, 0, none⟩) ∧ L4 = (r, it) :: (Lo1 ++ Rt) ∧ I pre Lo1 ∧ ItIs (fun x : Key => (.agg (Key_enc x))) encV es ck bm rest it ∧ (pre ++ rest.map Prod.fst).Perm (lst.map Prod.fst)) _ ⟨[], lst, Lo, it, rfl, rfl, rfl, rfl, h0, hi, .refl _⟩ ?_
  rintro _ e3 _ ⟨pre, rest, Lo1, it, rfl, s5, s6, rfl, hI, hi, hp⟩ K7 hK7
  refine Cd.seq (fun K8 hK8 => ?_)
  refine Cd.region [0, 1] rfl ?_
  refine Seq.op at0 rfl (Op.gen rfl (O.next hm hi (by exact s6) (Rd.cons (hr.sub (List.sublist_append_right _ _)))) ?_)
  rintro _ _ (⟨rfl, rfl, rfl⟩ | ⟨a, u, rest', it', hpm, rfl, hi', hent, rfl⟩)
  · skip
    refine Seq.rd0 at1 rfl rfl (O.ext rfl r1_0) ?_
    refine Seq.nil ?_
    refine hK8 ?_
    refine Cd.seq (fun K9 hK9 => ?_)
    refine Cd.condF rfl ?_
    refine Cd.exit ?_
    exact hR _ _ (Res.zero rfl) ⟨pre, Lo1, by simpa using hp, hI, rfl⟩ (.cons _ (.refl _))
  · skip
    refine Seq.rd0 at1 rfl rfl (O.ext rfl r3_0) ?_
    refine Seq.nil ?_
    refine hK8 ?_
    refine Cd.seq (fun K10 hK10 => ?_)
    refine Cd.condT rfl ?_
    refine Cd.skip ?_
    refine hK10 ?_
    refine Cd.block ?_
    refine Cd.seq (fun K11 hK11 => ?_)
    refine Cd.region [0, 1, 2, 3] rfl ?_
    refine Seq.op at0 rfl (Op.gen rfl (hent _ _ (by exact s6) Rd.head (Rd.cons (hr.sub (List.sublist_append_right _ _)))) ?_)
    rintro _ _ ⟨rfl, rfl⟩
    refine Seq.rd0 at1 rfl rfl (O.ext rfl r2_0) ?_
    refine Seq.op at2 rfl (Op.new rfl (O.alloc zo_45 (cs := (Key_enc Key.zero)) rfl) ?_)
    intro b12 hb12
    refine Seq.op at3 rfl (Op.set0 rfl (O.store kd_45 rfl (v := .agg _) rfl (Key_size _) (Key_room (Key_size _)) (Key_one _) (Key_put _ (Key_size _))) ?_)
    refine Seq.nil ?_
    refine hK11 ?_
    refine Cd.seq (fun K13 hK13 => ?_)
    refine Cd.region [0, 1, 2, 3] rfl ?_
    refine Seq.rd0 at0 rfl rfl (O.move (v := (.func (.yield l) #[] #[])) (by exact s5)) ?_
    refine Seq.rd1 at1 rfl rfl (O.loadA kd_45 rfl (Nat.le_of_ble_eq_true rfl) (Key_all _)) Rd.head ?_
    refine Seq.opY at2 rfl (Ent.perm (Op.yield rfl rfl rfl (hY pre a Lo1 _ (step_lt hp hpm) hI) ?_) (bring (Ls := Lo1) (pre := [(b12, _), (r, _)]) (R := Rt)))
    rintro _ ⟨Lo2, hI2, rfl⟩
    refine Ent.perm ?_ (bring (Ls := Lo2) (pre := [(b12, _), (r, _)]) (R := Rt)).symm
    refine Ent.drop ?_
    refine Seq.rd0 at3 rfl rfl (O.not rfl) ?_
    refine Seq.nil ?_
    refine hK13 ?_
    refine Cd.condF rfl ?_
    refine Cd.skip ?_
    exact hK7 _ (step_dec hpm) ⟨pre ++ [a], rest', Lo2, it', rfl, (by exact s5), (by exact s6), rfl, hI2, hi', perm_step hp hpm⟩

theorem C_keysChain {c : Cx} {V : Type} {encV : V → Value} {Rt : List Pt} {bb bm ck : Nat} {es : Array MapEntry} {lst : List (Key × V)} (hm : MapIs (fun x : Key => (.agg (Key_enc x))) encV es ck lst) (hb : Rd c Rt bb (.cells #[.map (some bm)] 243 (0, 0))) (hr : Rd c Rt bm (.map es ck)) :
    IterOk Tryz.prog c (fun x : Key => (.agg (Key_enc x))) 239 [.pointer (some ⟨bb, 0, none⟩)] lst.length (fun xs => xs.Perm (lst.map Prod.fst)) Rt := fun _ _ _ hY h0 => C_keysChain_fn (L := Rt) hm hb hr hY h0

end Go.X

/- The engine, part 10: what may be a key: keys of sixteen bytes, numbers. -/
namespace Go.X
section
variable {P : Program}
theorem mapM_some {α β : Type} {f : α → Option β} {g : α → β} : ∀ {l : List α}, (∀ a ∈ l, f a = some (g a)) → l.mapM f = some (l.map g)
  | [], _ => rfl
  | a :: l, h => by
    rw [List.mapM_cons, h a (by simp), mapM_some (l := l) (fun b hb => h b (by simp [hb]))]
    rfl
theorem drop_one {α : Type} {l : List α} {i : Nat} (h : i < l.length) : (l.drop i).take 1 = [l[i]] := by
  rw [List.drop_eq_getElem_cons h]; rfl
theorem u8_wf (x : UInt8) : (Lit.int .u8 (x.toNat : Int)).wf = true := by
  have := x.toNat_lt
  simp only [Lit.wf, IntKind.min, IntKind.max, IntKind.bits, IntKind.signed, Bool.and_eq_true, decide_eq_true_eq, Bool.false_eq_true, if_false]
  omega
theorem keyOf_Key {k el : TypeId} (hrow : 0 < P.types.size) (hu : P.underlying k = some (.array 16 el)) (hue : P.underlying el = some (.int .u8)) (hc : P.cellsOf k = 16) (hce : P.cellsOf el = 1) (hkT : P.keyType k = true) (x : Key) :
    ∃ l, keyOf P k (.agg (Key_enc x)) = some l := by
  obtain ⟨s, hs⟩ : ∃ s, P.types.size = s + 1 := ⟨P.types.size - 1, by omega⟩
  have hlen : (Key_enc x).toList.length = 16 := rfl
  have hlits : P.keyLits (P.types.size + 1) k (Key_enc x).toList = some (((List.range 16).map fun i => [Lit.int .u8 ((x.l.getD i 0).toNat : Int)]).flatten) := by
    rw [hs]
    unfold Program.keyLits
    simp only [hu, hc, hce, hlen, if_true]
    rw [mapM_some (g := fun i => [Lit.int .u8 ((x.l.getD i 0).toNat : Int)])]
    · rfl
    · intro i hi
      have hi16 : i < 16 := by simpa using hi
      rw [Nat.mul_one, drop_one (by rw [hlen]; exact hi16)]
      have hg : (Key_enc x).toList[i]'(by rw [hlen]; exact hi16) = byteV (x.l.getD i 0) := by
        have h1 : (Key_enc x).toList = x.l.map byteV := by rw [Key_cells]
        have h2 : i < x.l.length := by rw [x.h]; exact hi16
        simp only [h1, List.getElem_map]
        simp [h2]
      rw [hg]
      unfold Program.keyLits
      simp only [hue, byteV]
      rw [if_pos ⟨trivial, u8_wf _⟩]
  refine ⟨.string (keyBytes ((List.range 16).map fun i => [Lit.int .u8 ((x.l.getD i 0).toNat : Int)]).flatten), ?_⟩
  · unfold keyOf
    simp only [hu, hkT, Value.formed, hc, Key_size, beq_self_eq_true, Bool.and_self, if_true]
    rw [show (Value.agg (Key_enc x)).cells = Key_enc x from rfl, hlits]
    rfl
theorem isKey_Key {k el : TypeId} {m : Nat} (hl : laidOutB P = true) (hm : m + 1 ≤ 10000) (hrow : k < P.types.size) (hu : P.underlying k = some (.array 16 el)) (hue : P.underlying el = some (.int .u8)) (hc : P.cellsOf k = 16) (hce : P.cellsOf el = 1)
    (hkt : P.keyTypeAt m k = true) (hkT : P.keyType k = true) : IsKey P k (fun x : Key => .agg (Key_enc x)) :=
  ⟨Maps.Keyed.of_law (deep_law_laid hl (m := m) hm hrow hkt (by rw [hu])), fun x => keyOf_Key (Nat.lt_of_le_of_lt (Nat.zero_le _) hrow) hu hue hc hce hkT x, fun a b h => Key_inj (by simpa using h)⟩

/-- a number of 64 bits -/
abbrev I64 := { x : Int // (Lit.int .i64 x).wf = true }
def i64V (x : I64) : Value := .int .i64 x.1
theorem isKey_I64 {k : TypeId} (hu : P.underlying k = some (.int .i64)) : IsKey P k i64V := by
  refine ⟨Maps.int_keyed hu, fun x => ⟨_, Maps.keyOf_int_mk hu x.2⟩, fun a b h => ?_⟩
  simp only [i64V, Value.int.injEq, true_and] at h
  exact Subtype.ext h
end
end Go.X

namespace Go.X
open Go.Proofs

theorem laid_all : laidOutB Tryz.prog = true := by kernel_rfl
def keyV (k : Key) : Value := .agg (Key_enc k)
theorem kk_key : IsKey Tryz.prog 45 keyV := isKey_Key (el := 5) (m := 2) laid_all (by omega) (of_decide_eq_true (by kernel_rfl)) (by kernel_rfl) (by kernel_rfl) (by kernel_rfl) (by kernel_rfl) (by kernel_rfl) (by kernel_rfl)

end Go.X

namespace Go.X
open Go.Proofs
theorem ds_251 : isDesc Tryz.prog 251 = 4 := by kernel_rfl
theorem fo_245_0 : fieldOff Tryz.prog 245 0 = some 0 := by kernel_rfl
theorem hb_218 : hasBody Tryz.prog 218 = true := by kernel_rfl
theorem zo_251 : zeroOf Tryz.prog 251 = some (.pointer none) := by kernel_rfl
/-- a chain: its block, its versions -/
abbrev CV := Nat × List Version
def cvV (x : CV) : Value := .pointer (some ⟨x.1, 0, none⟩)
/-- a store that can be read -/
structure StAt (c : Cx) (L : List Pt) (sb : Nat) (l : List (Key × CV)) : Prop where
  ex : ∃ mb es ck, Rd c L sb (.cells #[.map (some mb)] 245 (0, 0)) ∧ Rd c L mb (.map es ck) ∧ MapIs keyV cvV es ck l
  ch : ∀ k q, alook l k = some q → ChAt c L q.1 q.2 ∧ Sorted q.2 ∧ q.2.length ≤ 1000000000
  size : l.length ≤ 1000000000
theorem StAt.sub {c : Cx} {L L' : List Pt} {sb : Nat} {l : List (Key × CV)} (h : StAt c L sb l) (hs : L.Sublist L') : StAt c L' sb l := by
  obtain ⟨⟨mb, es, ck, h1, h2, h3⟩, h4, h5⟩ := h
  exact ⟨⟨mb, es, ck, h1.sub hs, h2.sub hs, h3⟩, fun k q hq => ⟨(h4 k q hq).1.sub hs, (h4 k q hq).2⟩, h5⟩
theorem StAt.cons {c : Cx} {L : List Pt} {sb : Nat} {l : List (Key × CV)} {p : Pt} (h : StAt c L sb l) : StAt c (p :: L) sb l := h.sub (List.sublist_cons_self _ _)
def getS (l : List (Key × CV)) (k : Key) : List Version := match alook l k with
  | some q => q.2
  | none => []
theorem StAt.len {c : Cx} {L : List Pt} {sb : Nat} {l : List (Key × CV)} (h : StAt c L sb l) (k : Key) : (getS l k).length ≤ 1000000000 := by
  unfold getS
  split
  · exact (h.ch _ _ ‹_›).2.2
  · simp

set_option maxRecDepth 100000 in
set_option maxHeartbeats 2000000 in
theorem C_of_some {c : Cx} {L : List Pt} {sb : Nat} {l : List (Key × CV)} {k : Key} (hS : StAt c L sb l) {q : CV} (hl : alook l k = some q) : Fn Tryz.prog 170 #[.pointer (some ⟨sb, 0, none⟩), .agg (Key_enc k)] c L (fun v L' => v = .pointer (some ⟨q.1, 0, none⟩) ∧ L' = L) := by
  have hSz := hS.size
  obtain ⟨⟨mb, es, ck, hsb, hmb, hm⟩, hch, _⟩ := id hS
  refine Fn.enter Tryz.func170 rfl 16 rfl rfl (fun R hR => ?_)
  refine Cd.seq (fun K1 hK1 => ?_)
  refine Cd.region [0, 1] rfl ?_
  refine Seq.op at0 rfl (Op.new rfl (O.box (v := .agg _) rfl (cs := (Key_enc k)) rfl) ?_)
  intro b2 hb2
  refine Seq.rd0 at1 rfl rfl (O.assign (v := .pointer _) rfl) ?_
  refine Seq.nil ?_
  refine hK1 ?_
  refine Cd.seq (fun K3 hK3 => ?_)
  refine Cd.draw 7 rfl po ?_
  refine Any.rd0 0 at0 rfl rfl (O.move (v := .pointer _) rfl) (by kernel_rfl) (by kernel_rfl) (by kernel_rfl) ?_
  refine Any.rd0 1 at1 rfl rfl (O.nilP rfl) (by kernel_rfl) (by kernel_rfl) (by kernel_rfl) ?_
  refine Any.rd0 2 at2 rfl rfl (O.field fo_245_0 rfl) (by kernel_rfl) (by kernel_rfl) (by kernel_rfl) ?_
  refine Any.rd1 3 at3 rfl rfl (O.load kd_243 rfl r1_0) hsb.cons (by kernel_rfl) (by kernel_rfl) (by kernel_rfl) ?_
  refine Any.rd1 4 at4 rfl rfl (O.loadA kd_45 rfl (Nat.le_of_ble_eq_true rfl) (Key_all _)) Rd.head (by kernel_rfl) (by kernel_rfl) (by kernel_rfl) ?_
  refine Any.rd1 5 at5 rfl rfl (O.lookS (ok := false) mp_243 kk_key hm rfl (by exact rfl) hl) hmb.cons (by kernel_rfl) (by kernel_rfl) (by kernel_rfl) ?_
  refine Any.rd0 6 at6 rfl rfl (O.assign (v := .pointer _) rfl) (by kernel_rfl) (by kernel_rfl) (by kernel_rfl) ?_
  refine Any.done (by kernel_rfl) ⟨⟨⟨trivial, hsb.cons⟩, Rd.head⟩, hmb.cons⟩ ?_
  refine hK3 ?_
  refine Cd.seq (fun K4 hK4 => ?_)
  refine Cd.seq (fun K5 hK5 => ?_)
  refine Cd.region [0, 1] rfl ?_
  refine Seq.rd0 at0 rfl rfl (O.move (v := .pointer _) rfl) ?_
  refine Seq.rd0 at1 rfl rfl (O.eqNil ds_251 rfl rfl) ?_
  refine Seq.nil ?_
  refine hK5 ?_
  refine Cd.condF rfl ?_
  refine Cd.skip ?_
  refine hK4 ?_
  refine Cd.seq (fun K6 hK6 => ?_)
  refine Cd.region [0, 1] rfl ?_
  refine Seq.rd0 at0 rfl rfl (O.move (v := .pointer _) rfl) ?_
  refine Seq.rd0 at1 rfl rfl (O.assign (v := .pointer _) rfl) ?_
  refine Seq.nil ?_
  refine hK6 ?_
  refine Cd.ret ?_
  exact hR _ _ (Res.one (v := .pointer _) rfl rfl) ⟨rfl, rfl⟩ (.cons _ (.refl _))

set_option maxRecDepth 100000 in
set_option maxHeartbeats 2000000 in
theorem C_of_none {c : Cx} {L : List Pt} {sb : Nat} {l : List (Key × CV)} {k : Key} (hS : StAt c L sb l) (hl : alook l k = none) : Fn Tryz.prog 170 #[.pointer (some ⟨sb, 0, none⟩), .agg (Key_enc k)] c L (fun v L' => ∃ b, c.w0.heap.size ≤ b ∧ v = .pointer (some ⟨b, 0, none⟩) ∧ L' = (b, .cells #[.slice none 0 0] 300 (0, 0)) :: L) := by
  have hSz := hS.size
  obtain ⟨⟨mb, es, ck, hsb, hmb, hm⟩, hch, _⟩ := id hS
  refine Fn.enter Tryz.func170 rfl 16 rfl rfl (fun R hR => ?_)
  refine Cd.seq (fun K1 hK1 => ?_)
  refine Cd.region [0, 1] rfl ?_
  refine Seq.op at0 rfl (Op.new rfl (O.box (v := .agg _) rfl (cs := (Key_enc k)) rfl) ?_)
  intro b2 hb2
  refine Seq.rd0 at1 rfl rfl (O.assign (v := .pointer _) rfl) ?_
  refine Seq.nil ?_
  refine hK1 ?_
  refine Cd.seq (fun K3 hK3 => ?_)
  refine Cd.draw 7 rfl po ?_
  refine Any.rd0 0 at0 rfl rfl (O.move (v := .pointer _) rfl) (by kernel_rfl) (by kernel_rfl) (by kernel_rfl) ?_
  refine Any.rd0 1 at1 rfl rfl (O.nilP rfl) (by kernel_rfl) (by kernel_rfl) (by kernel_rfl) ?_
  refine Any.rd0 2 at2 rfl rfl (O.field fo_245_0 rfl) (by kernel_rfl) (by kernel_rfl) (by kernel_rfl) ?_
  refine Any.rd1 3 at3 rfl rfl (O.load kd_243 rfl r1_0) hsb.cons (by kernel_rfl) (by kernel_rfl) (by kernel_rfl) ?_
  refine Any.rd1 4 at4 rfl rfl (O.loadA kd_45 rfl (Nat.le_of_ble_eq_true rfl) (Key_all _)) Rd.head (by kernel_rfl) (by kernel_rfl) (by kernel_rfl) ?_
  refine Any.rd1 5 at5 rfl rfl (O.lookN (ok := false) mp_243 kk_key hm zo_251 rfl (by exact rfl) hl) hmb.cons (by kernel_rfl) (by kernel_rfl) (by kernel_rfl) ?_
  refine Any.rd0 6 at6 rfl rfl (O.assign (v := .pointer _) rfl) (by kernel_rfl) (by kernel_rfl) (by kernel_rfl) ?_
  refine Any.done (by kernel_rfl) ⟨⟨⟨trivial, hsb.cons⟩, Rd.head⟩, hmb.cons⟩ ?_
  refine hK3 ?_
  refine Cd.seq (fun K4 hK4 => ?_)
  refine Cd.seq (fun K5 hK5 => ?_)
  refine Cd.region [0, 1] rfl ?_
  refine Seq.rd0 at0 rfl rfl (O.move (v := .pointer _) rfl) ?_
  refine Seq.rd0 at1 rfl rfl (O.eqNil ds_251 rfl rfl) ?_
  refine Seq.nil ?_
  refine hK5 ?_
  refine Cd.condT rfl ?_
  refine Cd.seq (fun K6 hK6 => ?_)
  refine Cd.region [0, 1] rfl ?_
  refine Seq.op at0 rfl (Op.callF rfl hb_218 C_chain_New rfl ?_)
  rintro _ _ ⟨b7, hb7, rfl, rfl⟩
  refine Seq.rd0 at1 rfl rfl (O.assign (v := .pointer _) rfl) ?_
  refine Seq.nil ?_
  refine hK6 ?_
  refine Cd.ret ?_
  exact hR _ _ (Res.one (v := .pointer _) rfl rfl) ⟨_, hb7, rfl, rfl⟩ (.cons_cons _ (.cons _ (.refl _)))

/-- 'of', both ways: a chain that holds getS l k, in the state L or in L and one block more -/
theorem C_of {c : Cx} {L : List Pt} {sb : Nat} {l : List (Key × CV)} {k : Key} (hS : StAt c L sb l) : Fn Tryz.prog 170 #[.pointer (some ⟨sb, 0, none⟩), .agg (Key_enc k)] c L (fun v L' => ∃ cb G, v = .pointer (some ⟨cb, 0, none⟩) ∧ L' = G ++ L ∧ ChAt c L' cb (getS l k) ∧ Sorted (getS l k) ∧ (getS l k).length < 4611686018427387904) := by
  cases hl : alook l k with
  | some q =>
    obtain ⟨h1, h2, h3⟩ := hS.ch k q hl
    have hg : getS l k = q.2 := by unfold getS; rw [hl]
    rw [hg]
    exact Fn.mono (C_of_some hS hl) fun v L' ⟨hv, hL⟩ => ⟨q.1, [], hv, hL, hL ▸ h1, h2, by omega⟩
  | none =>
    have hg : getS l k = [] := by unfold getS; rw [hl]
    rw [hg]
    exact Fn.mono (C_of_none hS hl) fun v L' ⟨b, hb, hv, hL⟩ => ⟨b, [_], hv, hL, .inl ⟨rfl, hL ▸ .head⟩, .nil, by decide⟩

end Go.X

namespace Go.X
open Go.Proofs
theorem fo_242_1 : fieldOff Tryz.prog 242 1 = some 2 := by kernel_rfl
theorem fo_242_2 : fieldOff Tryz.prog 242 2 = some 3 := by kernel_rfl
theorem hb_170 : hasBody Tryz.prog 170 = true := by kernel_rfl
theorem hb_176 : hasBody Tryz.prog 176 = true := by kernel_rfl
theorem hb_194 : hasBody Tryz.prog 194 = true := by kernel_rfl
theorem kd_4 : kindOf Tryz.prog 4 = some (false, 1) := by kernel_rfl
theorem kd_9 : kindOf Tryz.prog 9 = some (false, 1) := by kernel_rfl
theorem zo_24 : zeroOf Tryz.prog 24 = some (.agg #[.int .i64 0, .int .u8 0]) := by kernel_rfl
theorem Rd.app {c : Cx} {L G : List Pt} {b : Nat} {o : Obj} (h : Rd c L b o) : Rd c (G ++ L) b o := h.sub (List.sublist_append_right _ _)
theorem StAt.app {c : Cx} {L G : List Pt} {sb : Nat} {l : List (Key × CV)} (h : StAt c L sb l) : StAt c (G ++ L) sb l := h.sub (List.sublist_append_right _ _)
theorem ChAt.app {c : Cx} {L G : List Pt} {cb : Nat} {vs : List Version} (h : ChAt c L cb vs) : ChAt c (G ++ L) cb vs := h.sub (List.sublist_append_right _ _)
theorem sub_app {L L' G : List Pt} (h : L'.Sublist L) : L'.Sublist (G ++ L) := h.trans (List.sublist_append_right _ _)

set_option maxRecDepth 100000 in
set_option maxHeartbeats 2000000 in
theorem C_store_Newest {c : Cx} {L : List Pt} {sb : Nat} {l : List (Key × CV)} {k : Key} (hS : StAt c L sb l) : Fn Tryz.prog 131 #[.pointer (some ⟨sb, 0, none⟩), .agg (Key_enc k)] c L (fun v L' => v = .tuple #[.agg (Stamp_enc ((newestV (getS l k)).getD .zero).stamp), .bool (newestV (getS l k)).isSome] ∧ L' = L) := by
  refine Fn.enter Tryz.func131 rfl 18 rfl rfl (fun R hR => ?_)
  refine Cd.seq (fun K1 hK1 => ?_)
  refine Cd.region [0, 1, 2] rfl ?_
  refine Seq.op at0 rfl (Op.new rfl (O.box (v := .agg _) rfl (cs := (Key_enc k)) rfl) ?_)
  intro b2 hb2
  refine Seq.op at1 rfl (Op.new rfl (O.alloc zo_24 (cs := (Stamp_enc Stamp.zero)) rfl) ?_)
  intro b3 hb3
  refine Seq.rd0 at2 rfl rfl (O.assign (v := .bool _) rfl) ?_
  refine Seq.nil ?_
  refine hK1 ?_
  refine Cd.seq (fun K4 hK4 => ?_)
  refine Cd.region [0, 1, 2, 3, 4, 5, 6, 7, 8, 9] rfl ?_
  refine Seq.rd0 at0 rfl rfl (O.move (v := .pointer _) rfl) ?_
  refine Seq.rd1 at1 rfl rfl (O.loadA kd_45 rfl (Nat.le_of_ble_eq_true rfl) (Key_all _)) Rd.head.cons ?_
  refine Seq.op at2 rfl (Op.callF rfl hb_170 (C_of (k := k) hS.cons.cons) rfl ?_)
  rintro _ _ ⟨cb5, G6, rfl, rfl, hc7, hc7s, hc7n⟩
  refine Seq.op at3 rfl (Op.callF rfl hb_194 (C_chain_Newest hc7n hc7) rfl ?_)
  rintro _ _ ⟨rfl, rfl⟩
  refine Ent.sub ?_ (sub_app (.refl _))
  refine Seq.rd0 at4 rfl rfl (O.move (v := .tuple _) rfl) ?_
  refine Seq.rd0 at5 rfl rfl (O.ext rfl r2_0) ?_
  refine Seq.rd0 at6 rfl rfl (O.ext rfl r2_1) ?_
  refine Seq.op at7 rfl (Op.new rfl (O.alloc zo_242 (cs := (Version_enc Version.zero)) rfl) ?_)
  intro b8 hb8
  refine Seq.op at8 rfl (Op.set0 rfl (O.store kd_242 rfl (v := .agg _) rfl (Version_size _) (Version_room (Version_size _)) (Version_one _) (Version_put _ (Version_size _))) ?_)
  refine Seq.rd0 at9 rfl rfl (O.assign (v := .bool _) rfl) ?_
  refine Seq.nil ?_
  refine hK4 ?_
  refine Cd.seq (fun K9 hK9 => ?_)
  refine Cd.region [0, 1, 2, 3, 4] rfl ?_
  refine Seq.rd0 at0 rfl rfl (O.field fo_242_0 rfl) ?_
  refine Seq.rd1 at1 rfl rfl (O.loadA kd_24 rfl (Nat.le_of_ble_eq_true rfl) (Version_stamp _)) Rd.head ?_
  refine Seq.rd0 at2 rfl rfl (O.move (v := .bool _) rfl) ?_
  refine Seq.op at3 rfl (Op.set1 rfl (O.store kd_24 rfl (v := .agg _) rfl (Stamp_size _) (Stamp_room (Stamp_size _)) (Stamp_one _) (Stamp_put _ (Stamp_size _))) ?_)
  refine Seq.rd0 at4 rfl rfl (O.assign (v := .bool _) rfl) ?_
  refine Seq.nil ?_
  refine hK9 ?_
  refine Cd.ret ?_
  exact hR _ _ (Res.cell2 (v := .bool _) rfl kd_24 rfl rfl Rd.head.cons rfl) ⟨rfl, rfl⟩ (.cons _ (.cons _ (.cons _ (.refl _))))

def getV (l : List (Key × CV)) (k : Key) (s : Stamp) : ByteArray × Bool := match atV (getS l k) s with
  | some v => if v.gone then (⟨#[]⟩, false) else (v.val, true)
  | none => (⟨#[]⟩, false)

set_option maxRecDepth 100000 in
set_option maxHeartbeats 2000000 in
theorem C_store_Get {c : Cx} {L : List Pt} {sb : Nat} {l : List (Key × CV)} {k : Key} (hS : StAt c L sb l) {s : Stamp} : Fn Tryz.prog 100 #[.pointer (some ⟨sb, 0, none⟩), .agg (Key_enc k), .agg (Stamp_enc s)] c L (fun v L' => v = .tuple #[.string (getV l k s).1, .bool (getV l k s).2] ∧ L' = L) := by
  refine Fn.enter Tryz.func100 rfl 26 rfl rfl (fun R hR => ?_)
  refine Cd.seq (fun K1 hK1 => ?_)
  refine Cd.region [0, 1, 2, 3] rfl ?_
  refine Seq.op at0 rfl (Op.new rfl (O.box (v := .agg _) rfl (cs := (Key_enc k)) rfl) ?_)
  intro b2 hb2
  refine Seq.op at1 rfl (Op.new rfl (O.box (v := .agg _) rfl (cs := (Stamp_enc s)) rfl) ?_)
  intro b3 hb3
  refine Seq.rd0 at2 rfl rfl (O.assign (v := .string _) rfl) ?_
  refine Seq.rd0 at3 rfl rfl (O.assign (v := .bool _) rfl) ?_
  refine Seq.nil ?_
  refine hK1 ?_
  refine Cd.seq (fun K4 hK4 => ?_)
  refine Cd.draw 11 rfl po ?_
  refine Any.rd0 0 at0 rfl rfl (O.move (v := .pointer _) rfl) (by kernel_rfl) (by kernel_rfl) (by kernel_rfl) ?_
  refine Any.rd1 1 at1 rfl rfl (O.loadA kd_45 rfl (Nat.le_of_ble_eq_true rfl) (Key_all _)) Rd.head.cons (by kernel_rfl) (by kernel_rfl) (by kernel_rfl) ?_
  refine Any.rd1 3 at3 rfl rfl (O.loadA kd_24 rfl (Nat.le_of_ble_eq_true rfl) (Stamp_all _)) Rd.head (by kernel_rfl) (by kernel_rfl) (by kernel_rfl) ?_
  refine Any.two 2 8 at2 at8 rfl rfl (by kernel_rfl) ⟨⟨trivial, Rd.head.cons⟩, Rd.head⟩ ?_ ?_
  · skip
    refine Op.callF rfl hb_170 (C_of (k := k) hS.cons.cons) rfl ?_
    rintro _ _ ⟨cb5, G6, rfl, rfl, hc7, hc7s, hc7n⟩
    refine Any.toK ?_
    refine Any.two 4 8 at4 at8 rfl rfl (by kernel_rfl) ⟨⟨trivial, Rd.head.cons.app⟩, Rd.head.app⟩ ?_ ?_
    · skip
      refine Op.callF rfl hb_176 (C_chain_At hc7s hc7n hc7) rfl ?_
      rintro _ _ ⟨rfl, rfl⟩
      refine Ent.sub ?_ (sub_app (.refl _))
      refine Any.toK ?_
      refine Any.rd0 5 at5 rfl rfl (O.move (v := .tuple _) rfl) (by kernel_rfl) (by kernel_rfl) (by kernel_rfl) ?_
      refine Any.rd0 6 at6 rfl rfl (O.ext rfl r2_0) (by kernel_rfl) (by kernel_rfl) (by kernel_rfl) ?_
      refine Any.rd0 7 at7 rfl rfl (O.ext rfl r2_1) (by kernel_rfl) (by kernel_rfl) (by kernel_rfl) ?_
      refine Any.one 8 at8 rfl (by kernel_rfl) ⟨⟨trivial, Rd.head.cons⟩, Rd.head⟩ ?_
      refine Op.new rfl (O.alloc zo_242 (cs := (Version_enc Version.zero)) rfl) ?_
      intro b8 hb8
      refine Any.toK ?_
      refine Any.one 9 at9 rfl (by kernel_rfl) ⟨⟨trivial, Rd.head.cons.cons⟩, Rd.head.cons⟩ ?_
      refine Op.set0 rfl (O.store kd_242 rfl (v := .agg _) rfl (Version_size _) (Version_room (Version_size _)) (Version_one _) (Version_put _ (Version_size _))) ?_
      refine Any.toK ?_
      refine Any.rd0 10 at10 rfl rfl (O.assign (v := .bool _) rfl) (by kernel_rfl) (by kernel_rfl) (by kernel_rfl) ?_
      refine Any.done (by kernel_rfl) ⟨⟨trivial, Rd.head.cons.cons⟩, Rd.head.cons⟩ ?_
      refine hK4 ?_
      refine Cd.seq (fun K9 hK9 => ?_)
      refine Cd.seq (fun K10 hK10 => ?_)
      refine Cd.region [0, 1, 2, 3, 4, 5] rfl ?_
      refine Seq.rd0 at0 rfl rfl (O.move (v := .bool _) rfl) ?_
      refine Seq.rd0 at1 rfl rfl (O.not rfl) ?_
      refine Seq.rd0 at2 rfl rfl (O.move (v := .bool _) rfl) ?_
      cases t11 : (atV (getS l k) s).isSome
      · skip
        refine Seq.pass at3 rfl rfl ?_
        refine Seq.pass at4 rfl rfl ?_
        refine Seq.rd0 at5 rfl rfl (O.pickT (v := .bool _) rfl rfl) ?_
        refine Seq.nil ?_
        refine hK10 ?_
        refine Cd.condT rfl ?_
        refine Cd.seq (fun K12 hK12 => ?_)
        refine Cd.region [0, 1] rfl ?_
        refine Seq.rd0 at0 rfl rfl (O.assign (v := .string _) rfl) ?_
        refine Seq.rd0 at1 rfl rfl (O.assign (v := .bool _) rfl) ?_
        refine Seq.nil ?_
        refine hK12 ?_
        refine Cd.ret ?_
        exact hR _ _ (Res.two (v := .string _) (v' := .bool _) rfl rfl rfl) ⟨by simp only [getV]; cases hx : atV (getS l k) s <;> simp_all, rfl⟩ (.cons _ (.cons _ (.cons _ (.refl _))))
      · skip
        refine Seq.rd0 at3 rfl rfl (O.field fo_242_2 rfl) ?_
        refine Seq.rd1 at4 rfl rfl (O.load kd_4 rfl (Version_gone _)) Rd.head ?_
        refine Seq.rd0 at5 rfl rfl (O.pickF (v := .bool _) rfl rfl) ?_
        refine Seq.nil ?_
        refine hK10 ?_
        refine Cd.cond (((atV (getS l k) s).getD .zero).gone) rfl (fun t13 => ?_) (fun t13 => ?_)
        · skip
          refine Cd.seq (fun K14 hK14 => ?_)
          refine Cd.region [0, 1] rfl ?_
          refine Seq.rd0 at0 rfl rfl (O.assign (v := .string _) rfl) ?_
          refine Seq.rd0 at1 rfl rfl (O.assign (v := .bool _) rfl) ?_
          refine Seq.nil ?_
          refine hK14 ?_
          refine Cd.ret ?_
          exact hR _ _ (Res.two (v := .string _) (v' := .bool _) rfl rfl rfl) ⟨by simp only [getV]; cases hx : atV (getS l k) s <;> simp_all, rfl⟩ (.cons _ (.cons _ (.cons _ (.refl _))))
        · skip
          refine Cd.skip ?_
          refine hK9 ?_
          refine Cd.seq (fun K15 hK15 => ?_)
          refine Cd.region [0, 1, 2, 3] rfl ?_
          refine Seq.rd0 at0 rfl rfl (O.field fo_242_1 rfl) ?_
          refine Seq.rd1 at1 rfl rfl (O.load kd_9 rfl (Version_val _)) Rd.head ?_
          refine Seq.rd0 at2 rfl rfl (O.assign (v := .string _) rfl) ?_
          refine Seq.rd0 at3 rfl rfl (O.assign (v := .bool _) rfl) ?_
          refine Seq.nil ?_
          refine hK15 ?_
          refine Cd.ret ?_
          exact hR _ _ (Res.two (v := .string _) (v' := .bool _) rfl rfl rfl) ⟨by simp only [getV]; cases hx : atV (getS l k) s <;> simp_all, rfl⟩ (.cons _ (.cons _ (.cons _ (.refl _))))
    · skip
      refine Op.new rfl (O.alloc zo_242 (cs := (Version_enc Version.zero)) rfl) ?_
      intro b16 hb16
      refine Any.toK ?_
      refine Any.one 4 at4 rfl (by kernel_rfl) ⟨⟨trivial, Rd.head.cons.app.cons⟩, Rd.head.app.cons⟩ ?_
      refine Op.callF rfl hb_176 (C_chain_At hc7s hc7n hc7.cons) rfl ?_
      rintro _ _ ⟨rfl, rfl⟩
      refine Ent.sub ?_ (.cons_cons _ (sub_app (.refl _)))
      refine Any.toK ?_
      refine Any.rd0 5 at5 rfl rfl (O.move (v := .tuple _) rfl) (by kernel_rfl) (by kernel_rfl) (by kernel_rfl) ?_
      refine Any.rd0 6 at6 rfl rfl (O.ext rfl r2_0) (by kernel_rfl) (by kernel_rfl) (by kernel_rfl) ?_
      refine Any.rd0 7 at7 rfl rfl (O.ext rfl r2_1) (by kernel_rfl) (by kernel_rfl) (by kernel_rfl) ?_
      refine Any.one 9 at9 rfl (by kernel_rfl) ⟨⟨trivial, Rd.head.cons.cons⟩, Rd.head.cons⟩ ?_
      refine Op.set0 rfl (O.store kd_242 rfl (v := .agg _) rfl (Version_size _) (Version_room (Version_size _)) (Version_one _) (Version_put _ (Version_size _))) ?_
      refine Any.toK ?_
      refine Any.rd0 10 at10 rfl rfl (O.assign (v := .bool _) rfl) (by kernel_rfl) (by kernel_rfl) (by kernel_rfl) ?_
      refine Any.done (by kernel_rfl) ⟨⟨trivial, Rd.head.cons.cons⟩, Rd.head.cons⟩ ?_
      refine hK4 ?_
      refine Cd.seq (fun K17 hK17 => ?_)
      refine Cd.seq (fun K18 hK18 => ?_)
      refine Cd.region [0, 1, 2, 3, 4, 5] rfl ?_
      refine Seq.rd0 at0 rfl rfl (O.move (v := .bool _) rfl) ?_
      refine Seq.rd0 at1 rfl rfl (O.not rfl) ?_
      refine Seq.rd0 at2 rfl rfl (O.move (v := .bool _) rfl) ?_
      cases t19 : (atV (getS l k) s).isSome
      · skip
        refine Seq.pass at3 rfl rfl ?_
        refine Seq.pass at4 rfl rfl ?_
        refine Seq.rd0 at5 rfl rfl (O.pickT (v := .bool _) rfl rfl) ?_
        refine Seq.nil ?_
        refine hK18 ?_
        refine Cd.condT rfl ?_
        refine Cd.seq (fun K20 hK20 => ?_)
        refine Cd.region [0, 1] rfl ?_
        refine Seq.rd0 at0 rfl rfl (O.assign (v := .string _) rfl) ?_
        refine Seq.rd0 at1 rfl rfl (O.assign (v := .bool _) rfl) ?_
        refine Seq.nil ?_
        refine hK20 ?_
        refine Cd.ret ?_
        exact hR _ _ (Res.two (v := .string _) (v' := .bool _) rfl rfl rfl) ⟨by simp only [getV]; cases hx : atV (getS l k) s <;> simp_all, rfl⟩ (.cons _ (.cons _ (.cons _ (.refl _))))
      · skip
        refine Seq.rd0 at3 rfl rfl (O.field fo_242_2 rfl) ?_
        refine Seq.rd1 at4 rfl rfl (O.load kd_4 rfl (Version_gone _)) Rd.head ?_
        refine Seq.rd0 at5 rfl rfl (O.pickF (v := .bool _) rfl rfl) ?_
        refine Seq.nil ?_
        refine hK18 ?_
        refine Cd.cond (((atV (getS l k) s).getD .zero).gone) rfl (fun t21 => ?_) (fun t21 => ?_)
        · skip
          refine Cd.seq (fun K22 hK22 => ?_)
          refine Cd.region [0, 1] rfl ?_
          refine Seq.rd0 at0 rfl rfl (O.assign (v := .string _) rfl) ?_
          refine Seq.rd0 at1 rfl rfl (O.assign (v := .bool _) rfl) ?_
          refine Seq.nil ?_
          refine hK22 ?_
          refine Cd.ret ?_
          exact hR _ _ (Res.two (v := .string _) (v' := .bool _) rfl rfl rfl) ⟨by simp only [getV]; cases hx : atV (getS l k) s <;> simp_all, rfl⟩ (.cons _ (.cons _ (.cons _ (.refl _))))
        · skip
          refine Cd.skip ?_
          refine hK17 ?_
          refine Cd.seq (fun K23 hK23 => ?_)
          refine Cd.region [0, 1, 2, 3] rfl ?_
          refine Seq.rd0 at0 rfl rfl (O.field fo_242_1 rfl) ?_
          refine Seq.rd1 at1 rfl rfl (O.load kd_9 rfl (Version_val _)) Rd.head ?_
          refine Seq.rd0 at2 rfl rfl (O.assign (v := .string _) rfl) ?_
          refine Seq.rd0 at3 rfl rfl (O.assign (v := .bool _) rfl) ?_
          refine Seq.nil ?_
          refine hK23 ?_
          refine Cd.ret ?_
          exact hR _ _ (Res.two (v := .string _) (v' := .bool _) rfl rfl rfl) ⟨by simp only [getV]; cases hx : atV (getS l k) s <;> simp_all, rfl⟩ (.cons _ (.cons _ (.cons _ (.refl _))))
  · skip
    refine Op.new rfl (O.alloc zo_242 (cs := (Version_enc Version.zero)) rfl) ?_
    intro b24 hb24
    refine Any.toK ?_
    refine Any.one 2 at2 rfl (by kernel_rfl) ⟨⟨trivial, Rd.head.cons.cons⟩, Rd.head.cons⟩ ?_
    refine Op.callF rfl hb_170 (C_of (k := k) hS.cons.cons.cons) rfl ?_
    rintro _ _ ⟨cb25, G26, rfl, rfl, hc27, hc27s, hc27n⟩
    refine Any.toK ?_
    refine Any.one 4 at4 rfl (by kernel_rfl) ⟨⟨trivial, Rd.head.cons.cons.app⟩, Rd.head.cons.app⟩ ?_
    refine Op.callF rfl hb_176 (C_chain_At hc27s hc27n hc27) rfl ?_
    rintro _ _ ⟨rfl, rfl⟩
    refine Ent.sub ?_ (sub_app (.refl _))
    refine Any.toK ?_
    refine Any.rd0 5 at5 rfl rfl (O.move (v := .tuple _) rfl) (by kernel_rfl) (by kernel_rfl) (by kernel_rfl) ?_
    refine Any.rd0 6 at6 rfl rfl (O.ext rfl r2_0) (by kernel_rfl) (by kernel_rfl) (by kernel_rfl) ?_
    refine Any.rd0 7 at7 rfl rfl (O.ext rfl r2_1) (by kernel_rfl) (by kernel_rfl) (by kernel_rfl) ?_
    refine Any.one 9 at9 rfl (by kernel_rfl) ⟨⟨trivial, Rd.head.cons.cons⟩, Rd.head.cons⟩ ?_
    refine Op.set0 rfl (O.store kd_242 rfl (v := .agg _) rfl (Version_size _) (Version_room (Version_size _)) (Version_one _) (Version_put _ (Version_size _))) ?_
    refine Any.toK ?_
    refine Any.rd0 10 at10 rfl rfl (O.assign (v := .bool _) rfl) (by kernel_rfl) (by kernel_rfl) (by kernel_rfl) ?_
    refine Any.done (by kernel_rfl) ⟨⟨trivial, Rd.head.cons.cons⟩, Rd.head.cons⟩ ?_
    refine hK4 ?_
    refine Cd.seq (fun K28 hK28 => ?_)
    refine Cd.seq (fun K29 hK29 => ?_)
    refine Cd.region [0, 1, 2, 3, 4, 5] rfl ?_
    refine Seq.rd0 at0 rfl rfl (O.move (v := .bool _) rfl) ?_
    refine Seq.rd0 at1 rfl rfl (O.not rfl) ?_
    refine Seq.rd0 at2 rfl rfl (O.move (v := .bool _) rfl) ?_
    cases t30 : (atV (getS l k) s).isSome
    · skip
      refine Seq.pass at3 rfl rfl ?_
      refine Seq.pass at4 rfl rfl ?_
      refine Seq.rd0 at5 rfl rfl (O.pickT (v := .bool _) rfl rfl) ?_
      refine Seq.nil ?_
      refine hK29 ?_
      refine Cd.condT rfl ?_
      refine Cd.seq (fun K31 hK31 => ?_)
      refine Cd.region [0, 1] rfl ?_
      refine Seq.rd0 at0 rfl rfl (O.assign (v := .string _) rfl) ?_
      refine Seq.rd0 at1 rfl rfl (O.assign (v := .bool _) rfl) ?_
      refine Seq.nil ?_
      refine hK31 ?_
      refine Cd.ret ?_
      exact hR _ _ (Res.two (v := .string _) (v' := .bool _) rfl rfl rfl) ⟨by simp only [getV]; cases hx : atV (getS l k) s <;> simp_all, rfl⟩ (.cons _ (.cons _ (.cons _ (.refl _))))
    · skip
      refine Seq.rd0 at3 rfl rfl (O.field fo_242_2 rfl) ?_
      refine Seq.rd1 at4 rfl rfl (O.load kd_4 rfl (Version_gone _)) Rd.head ?_
      refine Seq.rd0 at5 rfl rfl (O.pickF (v := .bool _) rfl rfl) ?_
      refine Seq.nil ?_
      refine hK29 ?_
      refine Cd.cond (((atV (getS l k) s).getD .zero).gone) rfl (fun t32 => ?_) (fun t32 => ?_)
      · skip
        refine Cd.seq (fun K33 hK33 => ?_)
        refine Cd.region [0, 1] rfl ?_
        refine Seq.rd0 at0 rfl rfl (O.assign (v := .string _) rfl) ?_
        refine Seq.rd0 at1 rfl rfl (O.assign (v := .bool _) rfl) ?_
        refine Seq.nil ?_
        refine hK33 ?_
        refine Cd.ret ?_
        exact hR _ _ (Res.two (v := .string _) (v' := .bool _) rfl rfl rfl) ⟨by simp only [getV]; cases hx : atV (getS l k) s <;> simp_all, rfl⟩ (.cons _ (.cons _ (.cons _ (.refl _))))
      · skip
        refine Cd.skip ?_
        refine hK28 ?_
        refine Cd.seq (fun K34 hK34 => ?_)
        refine Cd.region [0, 1, 2, 3] rfl ?_
        refine Seq.rd0 at0 rfl rfl (O.field fo_242_1 rfl) ?_
        refine Seq.rd1 at1 rfl rfl (O.load kd_9 rfl (Version_val _)) Rd.head ?_
        refine Seq.rd0 at2 rfl rfl (O.assign (v := .string _) rfl) ?_
        refine Seq.rd0 at3 rfl rfl (O.assign (v := .bool _) rfl) ?_
        refine Seq.nil ?_
        refine hK34 ?_
        refine Cd.ret ?_
        exact hR _ _ (Res.two (v := .string _) (v' := .bool _) rfl rfl rfl) ⟨by simp only [getV]; cases hx : atV (getS l k) s <;> simp_all, rfl⟩ (.cons _ (.cons _ (.cons _ (.refl _))))

end Go.X

/- The engine, part 13: bytes and strings, copies, fields of values. -/
namespace Go.X
section
variable {P : Program} {n : Sz} {e : Env} {d : Option Tmp} {ty : TypeId} {p : String} {af : Array Edge} {g : Option (Nat × Bool)}
variable {c : Cx} {L : List Pt} {x y z : Operand} {v v' : Value}

/-- a slice of bytes as a string -/
theorem O.bytesToStr {s t el b o m cap : Nat} {cs : Array Value} {el' : TypeId} {fz : Nat × Nat} (hs : P.underlying s = some (.slice el)) (hel : P.underlying el = some (.int .u8)) (ht : P.underlying t = some .string)
    (hx : ev e x = .slice (some ⟨b, o, none⟩) m cap) {l : List UInt8} (hm : o + m ≤ cs.size) (hl : cs.extract o (o + m) = (l.map byteV).toArray) :
    Rn1 P e ⟨d, .convert s t x, ty, p, af, g⟩ b (.cells cs el' fz) (.string ⟨l.toArray⟩) := fun w hb => by
  have hload : (loadCells ⟨b, o, none⟩ m).run P w = .ok ((l.map (fun x => (x.toNat : Int))).map (Value.int .u8)).toArray w := by
    rw [run_loadRow hb hm, hl]
    simp [byteV, Function.comp_def]
  have h2 := run_bytesToString (P := P) w ⟨b, o, none⟩ m cap (l.map (fun x => (x.toNat : Int))) hload
  have h3 : ∀ (l : List UInt8) (acc : ByteArray), (l.map (fun x => (x.toNat : Int))).foldl (fun r n => r.push (UInt8.ofNat n.toNat)) acc = ⟨acc.data ++ l.toArray⟩ := by
    intro l
    induction l with
    | nil => intro acc; simp
    | cons a l ih =>
      intro acc
      simp only [List.map_cons, List.foldl_cons, Int.toNat_natCast, UInt8.ofNat_toNat, ih]
      simp [ByteArray.push]
  rw [h3] at h2
  have h4 : (ByteArray.empty.data ++ l.toArray) = l.toArray := by show (#[] : Array UInt8) ++ l.toArray = _; simp
  rw [h4] at h2
  simp [execOp, hx, convert, run_under hs, run_under hel, run_under ht, h2]

/-- what a copy or an append reads: k elements in all, the first m of them are cells -/
def SrcR (P : Program) (c : Cx) (L : List Pt) (sz : Nat) (v : Value) (k m : Nat) (cells : Array Value) : Prop :=
  ∀ w, St c L w → (Builtin.lenOf v).run P w = .ok k w ∧ (Builtin.firstCells sz m v).run P w = .ok cells w
theorem SrcR.str {s : ByteArray} {m : Nat} : SrcR P c L 1 (.string s) s.size m ((s.extract 0 m).data.map fun b => .int .u8 b.toNat) := fun w _ => by
  simp [Builtin.lenOf, Builtin.firstCells]
theorem SrcR.slice {sz b o k m cap : Nat} {cs : Array Value} {el : TypeId} {fz : Nat × Nat} {cells : Array Value} (hr : Rd c L b (.cells cs el fz)) (hm : o + m * sz ≤ cs.size) (hc : cs.extract o (o + m * sz) = cells) :
    SrcR P c L sz (.slice (some ⟨b, o, none⟩) k cap) k m cells := fun w hw => by
  subst hc
  refine ⟨by simp [Builtin.lenOf], ?_⟩
  simp only [Builtin.firstCells]; exact run_loadRow (hr w hw) hm

/-- 'copy' into a row that is ours -/
theorem O.copy {t ts el sz b o dn cap k : Nat} {cs new : Array Value} {el' : TypeId} (ht : sliceOf P t = some (el, sz)) (hx : ev e x = .slice (some ⟨b, o, none⟩) dn cap)
    (hk : SrcR P c ((b, .cells cs el' (0, 0)) :: L) sz (ev e y) k (Nat.min k dn) new) (hone : ∀ u ∈ new.toList, Value.oneCell' u = true) (hroom : o + new.size ≤ cs.size) {cs' : Array Value} (hcs : putL cs o new.toList = cs') :
    Eg P e ⟨d, .call { callee := .builtin .copy, args := #[x, y], argTypes := #[t, ts] }, ty, p, af, g⟩ c ((b, .cells cs el' (0, 0)) :: L)
      (fun v L' => v = .int .i64 ((Nat.min k dn : Nat) : Int) ∧ L' = (b, .cells cs' el' (0, 0)) :: L) := by
  intro w hw
  subst hcs
  obtain ⟨hu, i, hi, rfl⟩ := slice_parts ht
  obtain ⟨h1, h2⟩ := hk w hw
  have hst := run_storeL (P := P) (el := el') new.toList w o 0 cs (hw.look _ (List.mem_cons_self)) (by simpa using hroom) hone
  simp only [Nat.add_zero] at hst
  refine ⟨_, _, _, .inl ?_, ⟨rfl, rfl⟩, St.set (A := []) hw⟩
  simp [execOp, resolve, invoke, builtin, Builtin.copy_, hx, run_under hu, run_size hi, h1, h2, hst, goInt]

def partOf (P : Program) (s i : Nat) : Option (Nat × Bool × Nat) :=
  match P.underlying s with
  | some (.struct fs) => match fs[i]? with
    | some f => match kindOf P f.type with
      | some (ag, m) => some (f.offset, ag, m)
      | none => none
    | none => none
  | _ => none
end
end Go.X

/- The engine, part 14: what slices.Insert wants. -/
namespace Go.X
section
variable {P : Program} {n : Sz} {e : Env} {d : Option Tmp} {ty : TypeId} {p : String} {af : Array Edge} {g : Option (Nat × Bool)}
variable {c : Cx} {L : List Pt} {x y z : Operand} {v v' : Value}
theorem Ent.nd {K : Env → World → Prop} (h : (L.map Prod.fst).Nodup → Ent c L K e) : Ent c L K e := fun w hw => h hw.nd w hw
theorem Fn.nd {f : FuncId} {args : Array Value} {post : Value → List Pt → Prop} (h : (L.map Prod.fst).Nodup → Fn P f args c L post) : Fn P f args c L post := fun w hw => h hw.nd w hw

theorem O.capS {t : TypeId} {a : Option Addr} {m cap : Nat} (ht : isDesc P t = 5) (hx : ev e x = .slice a m cap) :
    Rn0 P e ⟨d, .call { callee := .builtin .cap, args := #[x], argTypes := #[t] }, ty, p, af, g⟩ (.int .i64 cap) := fun w => by
  obtain ⟨el, hu⟩ := desc_slice ht
  simp [execOp, resolve, invoke, builtin, Builtin.cap_, hx, run_under hu, goInt]

/-- 'append(s, make([]T, k)...)' where a new row is made -/
theorem O.appendMake {t t2 el sz by_ m k cap : Nat} {zv : Value} {a : Option Addr} {old : Array Value} (ht : elemInfo P t = some (el, sz, by_, zv)) (ht2 : intOf? P t2 = some .i64) (hby : by_ ≠ 0)
    (hx : ev e x = .slice a m cap) (hy : ev e y = .int .i64 (k : Nat)) (hm : Src c L sz (.slice a m cap) m old) (hgrow : cap < m + k) (hroom : (2 * (m + k) + 192) * by_ ≤ 281474976710656) :
    Eg P e ⟨d, .call { callee := .builtin .append, args := #[x, y], argTypes := #[t, t2] }, ty, p, af, g⟩ c L
      (fun v L' => ∃ b cap' new sp, c.w0.heap.size ≤ b ∧ m + k ≤ cap' ∧ new.size = k * sz ∧ sp.size = (cap' - (m + k)) * sz ∧ v = .slice (some ⟨b, 0, none⟩) (m + k) cap' ∧ L' = (b, .cells (old ++ (new ++ sp)) el (0, 0)) :: L) := by
  intro w hw
  obtain ⟨hu, i, hi, rfl, rfl, hz, hzs⟩ := elem_parts ht
  have hu2 := int_under ht2
  have hcapn : ¬ (m + k ≤ cap) := by omega
  have hnext := nextcap_le hgrow
  have hp48 : (2 : Nat) ^ 48 = 281474976710656 := by decide
  have h48 : ¬ (Builtin.nextslicecap (m + k) cap * i.bytes > 2 ^ 48) := by
    have : Builtin.nextslicecap (m + k) cap * i.bytes ≤ (2 * (m + k) + 192) * i.bytes := Nat.mul_le_mul_right _ hnext
    omega
  have hb1 : m + k ≤ 281474976710656 := by
    have h1 : (2 * (m + k) + 192) * 1 ≤ (2 * (m + k) + 192) * i.bytes := Nat.mul_le_mul_left _ (by omega)
    omega
  have hk64 : IntKind.i64.wrap (k : Int) = k := wrap64_id (by omega) (by omega)
  have hk48 : ¬ ((k : Int) * (i.bytes : Int) > (2 : Int) ^ 48) := by
    have h1 : k * i.bytes ≤ (2 * (m + k) + 192) * i.bytes := Nat.mul_le_mul_right _ (by omega)
    have h2 : ((k * i.bytes : Nat) : Int) ≤ ((281474976710656 : Nat) : Int) := Int.ofNat_le.2 (Nat.le_trans h1 hroom)
    have h3 : (2 : Int) ^ 48 = 281474976710656 := by decide
    rw [h3]; rw [Int.natCast_mul] at h2; omega
  have hneed : ¬ (((m + k : Nat) : Int) > IntKind.i64.max) := by
    have hmx : IntKind.i64.max = 9223372036854775807 := by decide
    rw [hmx]; omega
  let q : Question := .appendCap (m + k) cap el
  let cap' := q.cut (w.tape w.drawn q)
  have hcap' : m + k ≤ cap' := by show m + k ≤ m + k + _; omega
  have hw' : St c L w.drew := hw.drew _
  have hzz : zeroOf P el = some zv := by simp [zeroOf, hi, hz]
  have hf1 := hm.run (P := P) hw'
  refine ⟨_, _, _, .inl ?_, ⟨w.heap.size, cap', Builtin.zeroCells zv.cells k, Builtin.zeroCells zv.cells (cap' - (m + k)), hw.mod.size, hcap', by rw [zeroCells_size, hzs], by rw [zeroCells_size, hzs], rfl, rfl⟩, hw'.new _⟩
  have hlt0 : ¬ ((k : Int) < 0) := by omega
  have hk48' : ¬ (281474976710656 < (k : Int) * (i.bytes : Int)) := by
    have h3 : (2 : Int) ^ 48 = 281474976710656 := by decide
    rw [h3] at hk48; exact hk48
  have h48' : ¬ (281474976710656 < Builtin.nextslicecap (m + k) cap * i.bytes) := by rw [hp48] at h48; exact h48
  have hneed' : ¬ (9223372036854775807 < (m : Int) + (k : Int)) := by omega
  simp [execOp, resolve, invoke, builtin, Builtin.append_, hx, hy, asInt, asIntOf, run_under hu, run_under hu2, run_size hi, run_info hi, hk64, hlt0, hk48', hcapn, hby, h48', hneed', Question.forced, run_zero hzz, hf1, newRow, q, cap']
  intro h0
  have : Builtin.zeroCells zv.cells k = #[] := Array.eq_empty_of_size_eq_zero (by rw [zeroCells_size, hzs]; exact h0)
  rw [this]; simp

/-- two rows in two blocks do not overlap -/
theorem O.overlapsNo {f : FuncId} {fn : Func} {tR t el sz a oa la ca b ob lb cb : Nat} {csa csb : Array Value} {ela elb : TypeId} {tt : Array TypeId} (hf : P.funcs[f]? = some fn) (hname : (fn.name == "runtime.NumGoroutine") = false)
    (hb : fn.body.isNone = true) (hn : Extern.findNext fn = none) (he : Extern.find fn = some (Extern.SlicesOverlaps.overlaps #[t, t] #[tR])) (ht : sliceOf P t = some (el, sz))
    (hx : ev e x = .slice (some ⟨a, oa, none⟩) la ca) (hy : ev e y = .slice (some ⟨b, ob, none⟩) lb cb) (hab : a ≠ b) (ra : Rd c L a (.cells csa ela (0, 0))) (rb : Rd c L b (.cells csb elb (0, 0))) (hcs : csb.size ≠ 0) :
    Eg P e ⟨d, .call { callee := .value (.func f), args := #[x, y], argTypes := tt }, ty, p, af, g⟩ c L (fun v L' => v = .bool false ∧ L' = L) := by
  intro w hw
  obtain ⟨hu, i, hi, rfl⟩ := slice_parts ht
  have h1 := ra w hw
  have h2 := rb w hw
  refine ⟨.bool false, w, L, .inl (run_ext (args := [.slice (some ⟨a, oa, none⟩) la ca, .slice (some ⟨b, ob, none⟩) lb cb]) hf hname hb hn he (by simp [hx, hy]) ?_), ⟨rfl, rfl⟩, hw⟩
  exact Lib.run_overlaps_apart w t tR el hu i.size (fun w => run_size hi w) ⟨a, oa, none⟩ ⟨b, ob, none⟩ la ca lb cb hab ela elb csa.size csb.size (by simp [World.shape?, h1]) (by simp [World.shape?, h2]) hcs (by simp [World.frozen?, h1]) (by simp [World.frozen?, h1])
end
end Go.X
