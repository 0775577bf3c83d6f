/- The engine, part 11: the kit's contract of slices.SortFunc, at owned rows. -/
import Derived.Shelf.GgSortFunc.InsertionK
import Derived.Shelf.SlSortCmp.WholeK
import Derived.Shelf.SlLaysF0
import Derived.Shelf.SlGeneric
import Derived.Ground.SlsfProg
import Derived.Test.YthifdialndcemaaGreatProg
import Derived.Shelf.SlSortCmp.NoneTotal
import Derived.Laws.Cover3
import Derived.Test.YthifdialndcemaaGreatS3
set_option linter.unusedVariables false
set_option linter.unusedSimpArgs false

namespace Go.X
open Go.Sort Go.Proofs
section
variable {P : Program} {c : Cx} {L : List Pt}

theorem heap_ext {w w' : World} (h1 : w'.heap = w.heap) (h2 : w'.tape = w.tape) (h3 : w'.drawn = w.drawn) (h4 : w'.os = w.os) (h5 : w'.output = w.output) : w' = w := by
  cases w; cases w'; simp_all
theorem Mod.grow {w w' : World} (h : Mod (fun _ => False) w w') : ∃ q os', w' = grow (w.drewN q) os' := by
  refine ⟨w'.drawn - w.drawn, w'.heap.extract w.heap.size w'.heap.size, heap_ext ?_ h.tape ?_ h.os h.output⟩
  · show w'.heap = w.heap ++ w'.heap.extract w.heap.size w'.heap.size
    apply Array.ext_getElem?
    intro i
    by_cases hi : i < w.heap.size
    · rw [Array.getElem?_append_left hi]
      exact h.block i hi (fun f => f)
    · rw [Array.getElem?_append_right (by omega)]
      by_cases hi2 : i < w'.heap.size
      · have := h.size
        simp [hi2, show i - w.heap.size < w'.heap.size - w.heap.size by omega, show w.heap.size + (i - w.heap.size) = i by omega]
      · rw [Array.getElem?_eq_none (by omega), Array.getElem?_eq_none (by simp; omega)]
  · show w'.drawn = w.drawn + (w'.drawn - w.drawn)
    have := h.drawn
    omega

theorem St.grow {w : World} (h : St c L w) (os : Array Obj) : St c L (Sort.grow w os) := by
  have hget : ∀ k, k < w.heap.size → (Sort.grow w os).heap[k]? = w.heap[k]? := fun k hk => by
    show (w.heap ++ os)[k]? = _
    rw [Array.getElem?_append_left hk]
  refine ⟨⟨h.mod.os, h.mod.tape, h.mod.output, h.mod.drawn, ?_, ?_⟩, h.nd, fun p hp => (hget _ (h.lt hp)).trans (h.look p hp), h.own⟩
  · show _ ≤ (w.heap ++ os).size
    rw [Array.size_append]; have := h.mod.size; omega
  · intro k hk hf
    rw [hget k (Nat.lt_of_lt_of_le hk h.mod.size)]
    exact h.mod.block k hk hf

variable {α : Type} [Inhabited α] {enc : α → Array Value} {k : Nat}
theorem flatK_rows (hs : ∀ x, (enc x).size = k) (d : Array α) : flatK (fun x => (enc x).toList) k d = rows enc d.toList := by
  apply Array.ext_getElem?
  intro t
  by_cases ht : t < d.size * k
  · have hk0 : 0 < k := by
      rcases Nat.eq_zero_or_pos k with h | h
      · subst h; omega
      · exact h
    have hq : t / k < d.size := Nat.div_lt_of_lt_mul (by rwa [Nat.mul_comm])
    have hg := get_flatK (fun x => (enc x).toList) k d t ht
    have hr := rows_get hs (l := d.toList) (i := t / k) (x := d[t / k]) (sp := #[]) (by simp [hq]) (t % k) (Nat.mod_lt _ hk0)
    rw [Nat.div_add_mod' t k, Array.append_empty] at hr
    rw [hr]
    have h1 : t < (flatK (fun x => (enc x).toList) k d).size := by simpa using ht
    rw [getElem!_pos _ t h1, getElem!_pos d _ hq] at hg
    have h2 : t % k < (enc d[t / k]).toList.length := by simp only [Array.length_toList, hs]; exact Nat.mod_lt _ hk0
    rw [getElem!_pos _ (t % k) h2] at hg
    rw [Array.getElem?_eq_getElem h1, hg]
    simp at h2
    simp [h2]
  · rw [Array.getElem?_eq_none (by simpa using Nat.not_lt.1 ht), Array.getElem?_eq_none (by rw [rows_size hs]; simpa using Nat.not_lt.1 ht)]

theorem mapBlock_blk {w : World} {b : Nat} {F0 F sp : Array Value} {el : TypeId} {fz : Nat × Nat} (hb : w.heap[b]? = some (.cells (F0 ++ sp) el fz)) (hs : F0.size = F.size) :
    mapBlock w b (putCells id 0 F) = setBlk w b (.cells (F ++ sp) el fz) := by
  have hlt := lt_of_get hb
  have hput : putCells id 0 F (F0 ++ sp) = F ++ sp := by
    apply Array.ext_getElem?
    intro i
    simp only [putCells, Array.getElem?_mapIdx]
    by_cases hi : i < F.size
    · rw [Array.getElem?_append_left (by omega), Array.getElem?_append_left hi]
      simp [hi, show i < F0.size by omega]
    · rw [Array.getElem?_append_right (by omega), Array.getElem?_append_right (by omega), hs]
      cases hsp : sp[i - F.size]? <;> simp [hi]
  unfold mapBlock setBlk
  congr 1
  apply Array.ext_getElem?
  intro i
  rw [Array.getElem?_modify]
  by_cases hi : b = i
  · subst hi
    simp only [if_true, hb, Option.map_some, onCells, hput]
    simp [hlt]
  · rw [if_neg hi, Array.getElem?_setIfInBounds_ne hi]

theorem St.sorted {w : World} {b : Nat} {xs ys : List α} {sp : Array Value} {el : TypeId} (hs : ∀ x, (enc x).size = k) (h : St c ((b, .cells (rows enc xs ++ sp) el (0, 0)) :: L) w) (hl : ys.length = xs.length) (m : Nat) (os : Array Obj) :
    St c ((b, .cells (rows enc ys ++ sp) el (0, 0)) :: L) (sortWorldK (fun x => (enc x).toList) k w b 0 m ys.toArray os) := by
  unfold sortWorldK putRowK putRow
  rw [flatK_rows hs]
  have h1 : St c ((b, .cells (rows enc xs ++ sp) el (0, 0)) :: L) (Sort.ahead w m) := h.drew _ (Nat.le_add_right _ _)
  have h2 := h1.look _ (List.mem_cons_self)
  rw [mapBlock_blk (F0 := rows enc xs) (sp := sp) h2 (by rw [rows_size hs, rows_size hs]; simp [hl])]
  exact St.grow (St.set (A := []) h1) os

theorem holdsK_of {w : World} {b : Nat} {xs : List α} {sp : Array Value} {el : TypeId} (hs : ∀ x, (enc x).size = k) (h : w.heap[b]? = some (.cells (rows enc xs ++ sp) el (0, 0))) : HoldsK (fun x => (enc x).toList) k w b 0 xs.toArray := by
  unfold HoldsK Holds
  intro j hj
  rw [flatK_rows hs] at hj ⊢
  simp only [Nat.zero_add]
  refine ⟨?_, by simp [World.frozen?, h]⟩
  rw [cell_get h, Array.getElem?_append_left hj]
  simp only [id]
  rw [getElem!_pos _ j hj, Array.getElem?_eq_getElem hj]
end
end Go.X

/- The engine, part 12: slices.SortFunc. -/
namespace Go.X
open Go.Sort Go.Proofs Go.Shelf Go.RowKit Go.Lib
section
variable {P : Program} {c : Cx} {L : List Pt} {α : Type} [Inhabited α] {enc : α → Array Value} {k : Nat} {ρ : Ren}
theorem cmpLays_of {g : Nat} {cf : α → α → Int} (h : ∀ (c : Cx) (x y : α), Fn P g #[.agg (enc x), .agg (enc y)] c [] (fun v L' => v = .int .i64 (cf x y) ∧ L' = [])) (b size : Nat) (w : World) :
    CmpLays P g #[] (fun x => (enc x).toList) k cf b 0 size w := by
  intro m os dk _ x y
  have h1 := h ⟨sortWorldK (fun x => (enc x).toList) k w b 0 m dk os, fun _ => False⟩ x y _ ⟨Mod.refl _ _, by simp, by simp, by simp⟩
  simp only [Array.append_empty]
  refine Calls.mono h1 ?_
  rintro e w' ⟨v, rfl, L', ⟨rfl, rfl⟩, hst⟩
  exact ⟨rfl, hst.mod.grow⟩

theorem Fn.sortK (Lp : SlLaysF0.n6 P ρ) (aE : ∀ w, (isAgg (ρ.t 24)).run P w = .ok true w) (zE : ∀ w, (Go.sizeOf (ρ.t 24)).run P w = .ok k w) (hs : ∀ x, (enc x).size = k) (h1 : ∀ x, ∀ v ∈ (enc x).toList, Value.oneCell' v = true)
    {cf : α → α → Int} (hO : SWO (ltOf cf)) {g : Nat} (eg : hasBody P g = true) (hcmp : ∀ (c : Cx) (x y : α), Fn P g #[.agg (enc x), .agg (enc y)] c [] (fun v L' => v = .int .i64 (cf x y) ∧ L' = []))
    {b cap : Nat} {xs : List α} {sp : Array Value} {el : TypeId} {R : List Pt} (hsz : xs.length < 4611686018427387904) :
    Fn P (ρ.f 6) #[.slice (some ⟨b, 0, none⟩) xs.length cap, .func (.func g) #[] #[]] c ((b, .cells (rows enc xs ++ sp) el (0, 0)) :: R)
      (fun v L' => v = .tuple #[] ∧ ∃ ys : List α, ys.Perm xs ∧ ys.Pairwise (fun x y => ¬ cf y x < 0) ∧ L' = (b, .cells (rows enc ys ++ sp) el (0, 0)) :: R) := by
  intro w hw
  have hb := hw.look _ (List.mem_cons_self)
  have hcon := AnyQ.slices_SortFunc Lp k aE zE (fun x => (enc x).toList) (fun x => by simp [hs]) h1 cf hO g #[] b 0 cap xs.toArray w (run_callFunc eg) (cmpLays_of hcmp b _ w) (holdsK_of hs hb) (lt_of_get hb) (by simpa using hsz)
  simp only [List.size_toArray] at hcon
  refine Calls.mono hcon ?_
  rintro e w' ⟨rfl, d', n, os, hp, hsort, rfl⟩
  obtain ⟨hp1, _, hp3⟩ := hp
  simp only [List.size_toArray] at hp1
  have hperm : d'.toList.Perm xs := by
    have e1 : d'.extract 0 xs.length = d' := by rw [← hp1]; simp
    have e2 : xs.toArray.extract 0 xs.length = xs.toArray := by simp
    rwa [e1, e2] at hp3
  refine ⟨_, rfl, _, ⟨rfl, d'.toList, hperm, ?_, rfl⟩, ?_⟩
  · rw [List.pairwise_iff_getElem]
    intro i j hi hj hij
    have := hsort i j (Nat.zero_le _) hij (by simpa [hp1] using hj)
    simp only [Array.length_toList] at hi hj
    rw [getElem!_pos d' _ hj, getElem!_pos d' _ hi] at this
    simpa [ltOf] using this
  · have := St.sorted (L := R) hs hw hperm.length_eq n os
    simpa using this
end
end Go.X

/-
  DERIVED: THE SHELF's CONTRACTS AT THIS DUMP, IN PLAIN WORDS (tools/lay-plain.mjs out of 'SortLay.lean', which tools/lay-shelf.mjs wrote): THE SAME DECLARATIONS UNDER THE SAME NAMES: 'import', 'namespace', 'open', 'def', 'theorem' AND NOTHING ELSE: no command of the shelf's: FOR A HAND-IN. Each laying: the table of numbers ('.._ren') and one theorem, a field a fact of the dump's own or the kernel's comparison; each contract: ONE APPLICATION.
-/
namespace Go.Proofs
open Go.Shelf
def Tryz.sortKey_ren : Go.Shelf.Ren := ⟨fun | 6 => 237 | 15 => 232 | 14 => 274 | 28 => 263 | 29 => 264 | 20 => 294 | 21 => 295 | 22 => 296 | 23 => 297 | 24 => 298 | 25 => 299 | 26 => 300 | 27 => 301 | 46 => 308 | 47 => 286 | 48 => 287 | 49 => 309 | 50 => 310 | 57 => 312 | n => n, fun | 22 => 74 | 24 => 45 | 25 => 155 | 3 => 3 | 39 => 307 | 0 => 0 | 53 => 331 | 55 => 333 | 4 => 4 | 46 => 324 | 45 => 323 | 50 => 149 | 5 => 5 | 9 => 9 | 66 => 346 | 70 => 350 | 76 => 363 | 77 => 290 | n => n, fun | n => n⟩
theorem Tryz.sortKey : Go.Proofs.SlLaysF0.n6 Tryz.prog Tryz.sortKey_ren := {
  mixed := by kernel_rfl
  f6 := ⟨Tryz.f237.name, by decide, Tryz.func237.trans (congrArg some (by kernel_rfl))⟩
  f14 := ⟨Tryz.f274.name, by decide, Tryz.func274.trans (congrArg some (by kernel_rfl))⟩
  f15 := Tryz.func232.trans (congrArg some (by kernel_rfl))
  f20 := ⟨Tryz.f294.name, by decide, Tryz.func294.trans (congrArg some (by kernel_rfl))⟩
  f21 := ⟨Tryz.f295.name, by decide, Tryz.func295.trans (congrArg some (by kernel_rfl))⟩
  f22 := ⟨Tryz.f296.name, by decide, Tryz.func296.trans (congrArg some (by kernel_rfl))⟩
  f23 := ⟨Tryz.f297.name, by decide, Tryz.func297.trans (congrArg some (by kernel_rfl))⟩
  f24 := ⟨Tryz.f298.name, by decide, Tryz.func298.trans (congrArg some (by kernel_rfl))⟩
  f25 := ⟨Tryz.f299.name, by decide, Tryz.func299.trans (congrArg some (by kernel_rfl))⟩
  f26 := ⟨Tryz.f300.name, by decide, Tryz.func300.trans (congrArg some (by kernel_rfl))⟩
  f27 := ⟨Tryz.f301.name, by decide, Tryz.func301.trans (congrArg some (by kernel_rfl))⟩
  f28 := Tryz.func263.trans (congrArg some (by kernel_rfl))
  f29 := Tryz.func264.trans (congrArg some (by kernel_rfl))
  f46 := ⟨Tryz.f308.name, by decide, Tryz.func308.trans (congrArg some (by kernel_rfl))⟩
  f47 := Tryz.func286.trans (congrArg some (by kernel_rfl))
  f48 := Tryz.func287.trans (congrArg some (by kernel_rfl))
  f49 := ⟨Tryz.f309.name, by decide, Tryz.func309.trans (congrArg some (by kernel_rfl))⟩
  f50 := ⟨Tryz.f310.name, by decide, Tryz.func310.trans (congrArg some (by kernel_rfl))⟩
  f57 := ⟨Tryz.f312.name, by decide, Tryz.func312.trans (congrArg some (by kernel_rfl))⟩
  t0 := Tryz.underlying0
  a0 := Tryz.isAgg0
  z0 := Tryz.sizeOf0
  v0 := Tryz.zeroValue0
  t3 := Tryz.underlying3
  a3 := Tryz.isAgg3
  z3 := Tryz.sizeOf3
  v3 := Tryz.zeroValue3
  t4 := Tryz.underlying4
  a4 := Tryz.isAgg4
  z4 := Tryz.sizeOf4
  v4 := Tryz.zeroValue4
  t5 := Tryz.underlying5
  a5 := Tryz.isAgg5
  z5 := Tryz.sizeOf5
  v5 := Tryz.zeroValue5
  t9 := Tryz.underlying9
  a9 := Tryz.isAgg9
  z9 := Tryz.sizeOf9
  v9 := Tryz.zeroValue9
  t22 := Tryz.underlying74
  a22 := Tryz.isAgg74
  z22 := Tryz.sizeOf74
  v22 := Tryz.zeroValue74
  t25 := Tryz.underlying155
  a25 := Tryz.isAgg155
  z25 := Tryz.sizeOf155
  v25 := Tryz.zeroValue155
  t39 := Tryz.underlying307
  a39 := Tryz.isAgg307
  z39 := Tryz.sizeOf307
  v39 := Tryz.zeroValue307
  t45 := Tryz.underlying323
  a45 := Tryz.isAgg323
  z45 := Tryz.sizeOf323
  v45 := Tryz.zeroValue323
  t46 := Tryz.underlying324
  a46 := Tryz.isAgg324
  z46 := Tryz.sizeOf324
  v46 := Tryz.zeroValue324
  t50 := Tryz.underlying149
  a50 := Tryz.isAgg149
  z50 := Tryz.sizeOf149
  v50 := Tryz.zeroValue149
  t53 := Tryz.underlying331
  a53 := Tryz.isAgg331
  z53 := Tryz.sizeOf331
  v53 := Tryz.zeroValue331
  t55 := Tryz.underlying333
  a55 := Tryz.isAgg333
  z55 := Tryz.sizeOf333
  v55 := Tryz.zeroValue333
  t66 := Tryz.underlying346
  a66 := Tryz.isAgg346
  z66 := Tryz.sizeOf346
  v66 := Tryz.zeroValue346
  t70 := Tryz.underlying350
  a70 := Tryz.isAgg350
  z70 := Tryz.sizeOf350
  v70 := Tryz.zeroValue350
  t76 := Tryz.underlying363
  a76 := Tryz.isAgg363
  z76 := Tryz.sizeOf363
  v76 := Tryz.zeroValue363
  t77 := Tryz.underlying290
  a77 := Tryz.isAgg290
  z77 := Tryz.sizeOf290
  v77 := Tryz.zeroValue290 }
end Go.Proofs

namespace Go.X
open Go.Proofs

instance : Inhabited Key := ⟨.zero⟩
theorem aE_key (w : World) : (isAgg 45).run Tryz.prog w = .ok true w := by kernel_rfl
theorem zE_key (w : World) : (Go.sizeOf 45).run Tryz.prog w = .ok 16 w := by kernel_rfl
theorem C_SortFunc_Key {c : Cx} {R : List Pt} {b cap : Nat} {xs : List Key} {sp : Array Value} {el : TypeId} (hsz : xs.length < 4611686018427387904) :
    Fn Tryz.prog 237 #[.slice (some ⟨b, 0, none⟩) xs.length cap, .func (.func 101) #[] #[]] c ((b, .cells (rows Key_enc xs ++ sp) el (0, 0)) :: R)
      (fun v L' => v = .tuple #[] ∧ ∃ ys : List Key, ys.Perm xs ∧ ys.Pairwise (fun x y => ¬ y.cmp x < 0) ∧ L' = (b, .cells (rows Key_enc ys ++ sp) el (0, 0)) :: R) :=
  Fn.sortK (ρ := Go.Proofs.Tryz.sortKey_ren) Tryz.sortKey aE_key zE_key Key_size Key_one Key.swo (by kernel_rfl) (fun c x y => C_key_Cmp) hsz

end Go.X

namespace Go.X
open Go.Proofs
theorem hb_136 : hasBody Tryz.prog 136 = true := by kernel_rfl
theorem hb_202 : hasBody Tryz.prog 202 = true := by kernel_rfl
theorem hb_237 : hasBody Tryz.prog 237 = true := by kernel_rfl
/-- keys in order (equal ones side by side) -/
def KOrd (l : List Key) : Prop := l.Pairwise fun x y => ¬ y.cmp x < 0
/-- a slice of keys that is ours alone -/
def OwnK (xs : List Key) (v : Value) (Ls : List Pt) : Prop := OwnSl 45 16 (rows Key_enc xs) xs.length v Ls
theorem C_SortFunc_own {c : Cx} {R Ls : List Pt} {xs : List Key} {v : Value} (ho : OwnK xs v Ls) (hsz : xs.length < 4611686018427387904) :
    Fn Tryz.prog 237 #[v, .func (.func 101) #[] #[]] c (Ls ++ R) (fun v' L' => v' = .tuple #[] ∧ ∃ ys Ls', ys.Perm xs ∧ KOrd ys ∧ OwnK ys v Ls' ∧ L' = Ls' ++ R) := by
  rcases ho with ⟨h0, _, rfl, rfl⟩ | ⟨b, cap, sp, rfl, h1, h2, h3, rfl⟩
  · obtain rfl : xs = [] := List.length_eq_zero_iff.1 h0
    intro w hw
    refine Calls.mono (Go.Proofs.AnyF.slices_SortFunc_none (ρ := Go.Proofs.Tryz.sortKey_ren) Tryz.sortKey none 0 (.func (.func 101) #[] #[]) w) ?_
    rintro e w' ⟨rfl, rfl⟩
    exact ⟨_, rfl, _, ⟨rfl, [], [], .refl _, .nil, .inl ⟨rfl, rfl, rfl, rfl⟩, rfl⟩, hw⟩
  · refine Fn.mono (C_SortFunc_Key hsz) ?_
    rintro v' L' ⟨rfl, ys, hp, hs, rfl⟩
    have hl := hp.length_eq
    exact ⟨rfl, ys, [_], hp, hs, .inr ⟨b, cap, sp, by rw [hl], by omega, by rw [hl]; exact h2, rows_size Key_size ys, rfl⟩, rfl⟩

set_option maxRecDepth 100000 in
set_option maxHeartbeats 2000000 in
theorem C_Collect_Key {c : Cx} {L : List Pt} {gf : FuncId} {lb : List Value} {N : Nat} {S : List Key → Prop} (hN : N ≤ 1000000000) (hgb : hasBody Tryz.prog gf = true) (hit : IterOk Tryz.prog c keyV gf lb N S L) (hSN : ∀ xs, S xs → xs.length ≤ N) : Fn Tryz.prog 136 #[.func (.func gf) #[] lb.toArray] c L (fun v L' => ∃ xs Ls, S xs ∧ OwnK xs v Ls ∧ L' = Ls ++ L) := by
  refine Fn.enter Tryz.func136 rfl 5 rfl rfl (fun R hR => ?_)
  refine Cd.seq (fun K1 hK1 => ?_)
  refine Cd.region [0] rfl ?_
  refine Seq.rd0 at0 rfl rfl (O.assign (v := .slice _ _ _) rfl) ?_
  refine Seq.nil ?_
  refine hK1 ?_
  refine Cd.seq (fun K2 hK2 => ?_)
  refine Cd.region [0, 1, 2] rfl ?_
  refine Seq.rd0 at0 rfl rfl (O.move (v := (.func (.func gf) #[] lb.toArray)) rfl) ?_
  refine Seq.op at1 rfl (Op.callF rfl hb_202 (C_AppendSeq_Key hN hgb hit) rfl ?_)
  rintro v3 _ ⟨xs4, Ls5, hSv3, hov3, rfl⟩
  refine Seq.rd0 at2 rfl rfl (O.assign (v := v3) rfl) ?_
  refine Seq.nil ?_
  refine hK2 ?_
  refine Cd.ret ?_
  exact hR _ _ (Res.one (v := v3) rfl rfl) ⟨xs4, Ls5, hSv3, hov3, rfl⟩ (.refl _)

set_option maxRecDepth 100000 in
set_option maxHeartbeats 2000000 in
theorem C_SortedFunc_Key {c : Cx} {L : List Pt} {gf : FuncId} {lb : List Value} {N : Nat} {S : List Key → Prop} (hN : N ≤ 1000000000) (hgb : hasBody Tryz.prog gf = true) (hit : IterOk Tryz.prog c keyV gf lb N S L) (hSN : ∀ xs, S xs → xs.length ≤ N) : Fn Tryz.prog 199 #[.func (.func gf) #[] lb.toArray, .func (.func 101) #[] #[]] c L (fun v L' => ∃ xs ys Ls, S xs ∧ ys.Perm xs ∧ KOrd ys ∧ OwnK ys v Ls ∧ L' = Ls ++ L) := by
  refine Fn.enter Tryz.func199 rfl 12 rfl rfl (fun R hR => ?_)
  refine Cd.seq (fun K1 hK1 => ?_)
  refine Cd.region [0] rfl ?_
  refine Seq.rd0 at0 rfl rfl (O.assign (v := .slice _ _ _) rfl) ?_
  refine Seq.nil ?_
  refine hK1 ?_
  refine Cd.seq (fun K2 hK2 => ?_)
  refine Cd.region [0, 1, 2] rfl ?_
  refine Seq.rd0 at0 rfl rfl (O.move (v := (.func (.func gf) #[] lb.toArray)) rfl) ?_
  refine Seq.op at1 rfl (Op.callF rfl hb_136 (C_Collect_Key hN hgb hit hSN) rfl ?_)
  rintro v3 _ ⟨xs4, Ls5, hSv3, hov3, rfl⟩
  refine Seq.rd0 at2 rfl rfl (O.assign (v := v3) rfl) ?_
  refine Seq.nil ?_
  refine hK2 ?_
  refine Cd.seq (fun K6 hK6 => ?_)
  refine Cd.region [0, 1, 2] rfl ?_
  refine Seq.rd0 at0 rfl rfl (O.move (v := v3) rfl) ?_
  refine Seq.rd0 at1 rfl rfl (O.move (v := .func _ _ _) rfl) ?_
  refine Seq.op at2 rfl (Op.callF rfl hb_237 (C_SortFunc_own hov3 (by have := hSN _ hSv3; omega)) rfl ?_)
  rintro _ _ ⟨rfl, ys7, Ls8, hpys7, hsys7, hoys7, rfl⟩
  refine Seq.nil ?_
  refine hK6 ?_
  refine Cd.seq (fun K9 hK9 => ?_)
  refine Cd.region [0, 1] rfl ?_
  refine Seq.rd0 at0 rfl rfl (O.move (v := v3) rfl) ?_
  refine Seq.rd0 at1 rfl rfl (O.assign (v := v3) rfl) ?_
  refine Seq.nil ?_
  refine hK9 ?_
  refine Cd.ret ?_
  exact hR _ _ (Res.one (v := v3) rfl rfl) ⟨_, ys7, Ls8, hSv3, hpys7, hsys7, hoys7, rfl⟩ (.refl _)

end Go.X

namespace Go.X
open Go.Proofs
theorem hb_174 : hasBody Tryz.prog 174 = true := by kernel_rfl
theorem hb_175 : hasBody Tryz.prog 175 = true := by kernel_rfl
section
variable {e : Env} {d : Option Tmp} {ty : TypeId} {p : String} {af : Array Edge} {g : Option (Nat × Bool)} {x y : Operand} {t' : TypeId} {a b : Key}
theorem eqKey (hx : ev e x = .agg (Key_enc a)) (hy : ev e y = .agg (Key_enc b)) : Rn0 Tryz.prog e ⟨d, .binOp .eql 45 x y t', ty, p, af, g⟩ (.bool (decide (a = b))) :=
  O.eqK (enc := Key_enc) kk_key (m := 2) rfl (by kernel_rfl) (by kernel_rfl) (by kernel_rfl) hx hy
theorem neKey (hx : ev e x = .agg (Key_enc a)) (hy : ev e y = .agg (Key_enc b)) : Rn0 Tryz.prog e ⟨d, .binOp .neq 45 x y t', ty, p, af, g⟩ (.bool (!decide (a = b))) :=
  O.neK (enc := Key_enc) kk_key (m := 2) rfl (by kernel_rfl) (by kernel_rfl) (by kernel_rfl) hx hy
end
/-- may a key be? -/
def goodK (k : Key) : Bool := okT (textK k) && decide (ofK (textK k) = k)
theorem ofE_zero {l : List UInt8} : ofE l = 0 ↔ okT l = true := by unfold ofE; split <;> simp_all

set_option maxRecDepth 100000 in
set_option maxHeartbeats 2000000 in
theorem C_key_Good {c : Cx} {L : List Pt} {k : Key} : Fn Tryz.prog 97 #[.agg (Key_enc k)] c L (fun v L' => v = .bool (goodK k) ∧ L' = L) := by
  refine Fn.enter Tryz.func97 rfl 18 rfl rfl (fun R hR => ?_)
  refine Cd.seq (fun K1 hK1 => ?_)
  refine Cd.region [0, 1] rfl ?_
  refine Seq.op at0 rfl (Op.new rfl (O.box (v := .agg _) rfl (cs := (Key_enc k)) rfl) ?_)
  intro b2 hb2
  refine Seq.rd0 at1 rfl rfl (O.assign (v := .bool _) rfl) ?_
  refine Seq.nil ?_
  refine hK1 ?_
  refine Cd.seq (fun K3 hK3 => ?_)
  refine Cd.region [0, 1, 2, 3, 4, 5, 6, 7, 8] rfl ?_
  refine Seq.rd1 at0 rfl rfl (O.loadA kd_45 rfl (Nat.le_of_ble_eq_true rfl) (Key_all _)) Rd.head ?_
  refine Seq.op at1 rfl (Op.callF rfl hb_175 C_key_text rfl ?_)
  rintro _ _ ⟨rfl, rfl⟩
  refine Seq.op at2 rfl (Op.callF rfl hb_174 C_key_Of rfl ?_)
  rintro _ _ ⟨rfl, rfl⟩
  refine Seq.rd0 at3 rfl rfl (O.move (v := .tuple _) rfl) ?_
  refine Seq.rd0 at4 rfl rfl (O.ext rfl r2_0) ?_
  refine Seq.rd0 at5 rfl rfl (O.ext rfl r2_1) ?_
  refine Seq.op at6 rfl (Op.new rfl (O.alloc zo_45 (cs := (Key_enc Key.zero)) rfl) ?_)
  intro b4 hb4
  refine Seq.op at7 rfl (Op.set0 rfl (O.store kd_45 rfl (v := .agg _) rfl (Key_size _) (Key_room (Key_size _)) (Key_one _) (Key_put _ (Key_size _))) ?_)
  refine Seq.rd0 at8 rfl rfl (O.assign (v := .int .i64 _) rfl) ?_
  refine Seq.nil ?_
  refine hK3 ?_
  refine Cd.seq (fun K5 hK5 => ?_)
  refine Cd.region [0, 1, 2, 3, 4, 5, 6, 7] rfl ?_
  refine Seq.rd0 at0 rfl rfl (O.move (v := .int .i64 _) rfl) ?_
  refine Seq.rd0 at1 rfl rfl (O.eqI rfl rfl) ?_
  refine Seq.rd0 at2 rfl rfl (O.move (v := .bool _) rfl) ?_
  by_cases t6 : (ofE (textK k)) = 0
  · rw [decide_eq_true t6]
    refine Seq.rd1 at3 rfl rfl (O.loadA kd_45 rfl (Nat.le_of_ble_eq_true rfl) (Key_all _)) Rd.head ?_
    refine Seq.rd1 at4 rfl rfl (O.loadA kd_45 rfl (Nat.le_of_ble_eq_true rfl) (Key_all _)) Rd.head.cons ?_
    refine Seq.rd0 at5 rfl rfl (eqKey rfl rfl) ?_
    refine Seq.rd0 at6 rfl rfl (O.pickT (v := .bool _) rfl rfl) ?_
    refine Seq.rd0 at7 rfl rfl (O.assign (v := .bool _) rfl) ?_
    refine Seq.nil ?_
    refine hK5 ?_
    refine Cd.ret ?_
    exact hR _ _ (Res.one (v := .bool _) rfl rfl) ⟨by unfold goodK; rw [show okT (textK k) = true from ofE_zero.1 (by assumption), Bool.true_and]; try rfl, rfl⟩ (.cons _ (.cons _ (.refl _)))
  · rw [decide_eq_false t6]
    refine Seq.pass at3 rfl rfl ?_
    refine Seq.pass at4 rfl rfl ?_
    refine Seq.pass at5 rfl rfl ?_
    refine Seq.rd0 at6 rfl rfl (O.pickF (v := .bool _) rfl rfl) ?_
    refine Seq.rd0 at7 rfl rfl (O.assign (v := .bool _) rfl) ?_
    refine Seq.nil ?_
    refine hK5 ?_
    refine Cd.ret ?_
    exact hR _ _ (Res.one (v := .bool _) rfl rfl) ⟨by unfold goodK; rw [show okT (textK k) = false from Bool.eq_false_iff.2 (fun h => absurd (ofE_zero.2 h) (by assumption))]; try rfl, rfl⟩ (.cons _ (.cons _ (.refl _)))

end Go.X

/- The engine, part 15: look-ups with a default; slices that may be nil. -/
namespace Go.X
section
variable {P : Program} {n : Sz} {e : Env} {d : Option Tmp} {ty : TypeId} {p : String} {af : Array Edge} {g : Option (Nat × Bool)}
variable {c : Cx} {L : List Pt} {x y z : Operand} {v v' : Value}
variable {K V : Type} [DecidableEq K] {encK : K → Value} {encV : V → Value}
/-- a look-up in a map whose zero value is a value -/
theorem O.lookD {t k el b : Nat} {ok : Bool} {es : Array MapEntry} {ck : Nat} {l : List (K × V)} {a : K} (dv : V) (ht : P.underlying t = some (.map k el)) (KK : IsKey P k encK) (h : MapIs encK encV es ck l)
    (hz : zeroOf P el = some (encV dv)) (hx : ev e x = .map (some b)) (hy : ev e y = encK a) :
    Rn1 P e ⟨d, .lookup t x y ok, ty, p, af, g⟩ b (.map es ck) (if ok then .tuple #[encV ((alook l a).getD dv), .bool (alook l a).isSome] else encV ((alook l a).getD dv)) := by
  cases hl : alook l a with
  | some u => exact O.lookS ht KK h hx hy hl
  | none => exact O.lookN ht KK h hz hx hy hl

/-- the block of an address that may be none -/
def blk : Option Addr → Nat
  | some q => q.block
  | none => 0
/-- a slice that can be read: n elements xs -/
structure SlAt (c : Cx) (L : List Pt) {α : Type} (enc : α → Array Value) (av : Option Addr) (n : Nat) (xs : List α) : Prop where
  len : n = xs.length
  lt : n < 4611686018427387904
  get : xs ≠ [] → ∃ pre sp el fz, av = some ⟨blk av, Array.size pre, none⟩ ∧ Rd c L (blk av) (.cells (pre ++ (rows enc xs ++ sp)) el fz)
variable {α : Type} {enc : α → Array Value}
theorem ext_mid {pre mid sp : Array Value} : (pre ++ (mid ++ sp)).extract pre.size (pre.size + mid.size) = mid := by
  simp [Array.extract_append]
theorem SlAt.sub {L' : List Pt} {av : Option Addr} {m : Nat} {xs : List α} (h : SlAt c L enc av m xs) (hs : L.Sublist L') : SlAt c L' enc av m xs :=
  ⟨h.len, h.lt, fun hn => let ⟨pre, sp, el, fz, h1, h2⟩ := h.get hn; ⟨pre, sp, el, fz, h1, h2.sub hs⟩⟩
theorem SlAt.cons {av : Option Addr} {m : Nat} {xs : List α} {q : Pt} (h : SlAt c L enc av m xs) : SlAt c (q :: L) enc av m xs := h.sub (List.sublist_cons_self _ _)
theorem SlAt.app {G : List Pt} {av : Option Addr} {m : Nat} {xs : List α} (h : SlAt c L enc av m xs) : SlAt c (G ++ L) enc av m xs := h.sub (List.sublist_append_right _ _)
theorem SlAt.at_ {av : Option Addr} {m i : Nat} {xs : List α} (h : SlAt c L enc av m xs) (hi : i < xs.length) : ∃ pre sp el fz, av = some ⟨blk av, Array.size pre, none⟩ ∧ Rd c L (blk av) (.cells (pre ++ (rows enc xs ++ sp)) el fz) :=
  h.get (by intro e; subst e; exact absurd hi (Nat.not_lt_zero _))
theorem O.indexG {t el sz b o len cap : Nat} {av : Option Addr} {k : IntKind} {i : Int} (ht : sliceOf P t = some (el, sz)) (hx : ev e x = .slice av len cap) (hav : av = some ⟨b, o, none⟩) (hy : ev e y = .int k i)
    (h0 : 0 ≤ i) (h1 : i < len) : Rn0 P e ⟨d, .indexAddr t x y, ty, p, af, g⟩ (.pointer (some ⟨b, o + i.toNat * sz, none⟩)) := O.index ht (hx.trans (by rw [hav])) hy h0 h1
theorem SlAt.src {av : Option Addr} {m sz cap : Nat} {xs : List α} (hs : ∀ x, (enc x).size = sz) (h : SlAt c L enc av m xs) : Src c L sz (.slice av m cap) m (rows enc xs) := by
  cases xs with
  | nil => obtain rfl : m = 0 := h.len; exact .inl ⟨av, cap, rfl, rfl, by simp [rows]⟩
  | cons x l =>
    obtain ⟨pre, sp, el, fz, h1, h2⟩ := h.get (by simp)
    have hr := rows_size hs (x :: l)
    refine .inr ⟨blk av, pre.size, cap, _, _, _, by rw [← h1], h2, ?_, ?_⟩
    · rw [Array.size_append, Array.size_append, hr, h.len]; omega
    · rw [h.len, ← hr]; exact ext_mid
/-- 'append' to a slice that is ours alone, and is not nil -/
theorem O.appendTo {t t2 el sz by_ m k b0 cap0 : Nat} {zv : Value} {old new : Array Value} {Ls R : List Pt} (ht : elemInfo P t = some (el, sz, by_, zv)) (ht2 : isDesc P t2 = 5) (hby : by_ ≠ 0)
    (hx : ev e x = .slice (some ⟨b0, 0, none⟩) m cap0) (ho : OwnSl el sz old m (.slice (some ⟨b0, 0, none⟩) m cap0) Ls) (hk : Src c (Ls ++ R) sz (ev e y) k new) (hone : ∀ u ∈ new.toList, Value.oneCell' u = true)
    (hroom : (2 * (m + k) + 192) * by_ ≤ 281474976710656) :
    Eg P e ⟨d, .call { callee := .builtin .append, args := #[x, y], argTypes := #[t, t2] }, ty, p, af, g⟩ c (Ls ++ R)
      (fun v' L' => ∃ b cap Ls', v' = .slice (some ⟨b, 0, none⟩) (m + k) cap ∧ OwnSl el sz (old ++ new) (m + k) v' Ls' ∧ L' = Ls' ++ R) := by
  by_cases hk0 : 0 < k
  · refine (O.appendOwn ht ht2 hby hx ho hk hone hk0 hroom).mono ?_
    rintro v' L' ⟨Ls', h1, rfl⟩
    refine ⟨_, ?_, .refl _⟩
    rcases h1 with ⟨h0, _⟩ | ⟨b, cap, sp, rfl, h2, h3, h4, rfl⟩
    · omega
    · exact ⟨b, cap, _, rfl, .inr ⟨b, cap, sp, rfl, h2, h3, h4, rfl⟩, rfl⟩
  · obtain rfl : k = 0 := by omega
    rcases ho with ⟨_, _, hv, _⟩ | ⟨b, cap, sp, hv, h1, h2, h3, rfl⟩
    · cases hv
    · obtain ⟨hb, rfl⟩ : b0 = b ∧ cap0 = cap := by simpa using hv
      subst hb
      have hn : new = #[] := Array.eq_empty_of_size_eq_zero (by rw [hk.size]; simp)
      subst hn
      have hA := O.appendIn (d := d) (ty := ty) (p := p) (af := af) (g := g) (new := #[]) (mid := #[]) (post := sp) (L := R) (k := 0) ht ht2 hx (by simpa using hk) hone (by omega) h3 (by simp)
      simp only [Array.empty_append] at hA
      refine Eg.mono hA ?_
      rintro v' L' ⟨rfl, rfl⟩
      exact ⟨_, ⟨b0, cap0, [(b0, _)], rfl, .inr ⟨b0, cap0, sp, rfl, h1, h2, by simpa using h3, by simp⟩, rfl⟩, .refl _⟩
/-- a slice and nil -/
theorem O.eqSlNil {t t' : TypeId} {av : Option Addr} {m cap : Nat} (ht : isDesc P t = 5) (hx : ev e x = .slice av m cap) (hy : ev e y = .slice none 0 0) :
    Rn0 P e ⟨d, .binOp .eql t x y t', ty, p, af, g⟩ (.bool av.isNone) := fun w => by
  obtain ⟨el, hu⟩ := desc_slice ht
  exact run_binop hx hy rfl (run_eql rfl (run_equal_slice_nil w t el av m cap hu))
/-- an own slice can be read -/
theorem OwnSl.at_ {el sz m : Nat} {xs : List α} {Ls R : List Pt} {av : Option Addr} {cap : Nat} (h : OwnSl el sz (rows enc xs) m (.slice av m cap) Ls) (hm : m = xs.length) (hlt : m < 4611686018427387904) : SlAt c (Ls ++ R) enc av m xs := by
  refine ⟨hm, hlt, fun hn => ?_⟩
  rcases h with ⟨h0, _, hv, rfl⟩ | ⟨b, cap', sp, hv, h1, h2, h3, rfl⟩
  · rw [hm] at h0; exact absurd (List.length_eq_zero_iff.1 h0) hn
  · obtain ⟨rfl, _⟩ : av = some ⟨b, 0, none⟩ ∧ cap = cap' := by simpa using hv
    exact ⟨#[], sp, el, (0, 0), rfl, by rw [Array.empty_append]; exact .head⟩
/-! ## rows behind other cells -/
section
variable {sz : Nat}
theorem extP (hs : ∀ x, (enc x).size = sz) {pre cs : Array Value} {a b : Nat} : (pre ++ cs).extract (pre.size + a) (pre.size + b) = cs.extract a b := by
  simp [Array.extract_append]
theorem rowAtP (hs : ∀ x, (enc x).size = sz) {pre sp : Array Value} {l : List α} {i : Int} {x : α} (h : l[i.toNat]? = some x) : (pre ++ (rows enc l ++ sp)).extract (pre.size + i.toNat * sz) (pre.size + i.toNat * sz + sz) = enc x := by
  rw [Nat.add_assoc, extP hs]; exact rows_at hs h
theorem rowRoomP (hs : ∀ x, (enc x).size = sz) {pre sp : Array Value} {l : List α} {i : Int} {x : α} (h : l[i.toNat]? = some x) : pre.size + i.toNat * sz + sz ≤ (pre ++ (rows enc l ++ sp)).size := by
  have := rows_room hs (sp := sp) h
  rw [Array.size_append]; omega
theorem rowGetP (hs : ∀ x, (enc x).size = sz) {pre sp : Array Value} {l : List α} {i : Int} {k : Nat} {x : α} (h : l[i.toNat]? = some x) (hk : k < sz) : (pre ++ (rows enc l ++ sp))[pre.size + i.toNat * sz + k]? = (enc x)[k]? := by
  rw [Nat.add_assoc, Array.getElem?_append_right (by omega), show pre.size + (i.toNat * sz + k) - pre.size = i.toNat * sz + k by omega]
  exact rows_get hs h k hk
theorem rowRoomFP (hs : ∀ x, (enc x).size = sz) {pre sp : Array Value} {l : List α} {i : Int} {k m : Nat} {x : α} (h : l[i.toNat]? = some x) (hk : k + m ≤ sz) : pre.size + i.toNat * sz + k + m ≤ (pre ++ (rows enc l ++ sp)).size := by
  have := rows_room hs (sp := sp) h
  rw [Array.size_append]; omega
theorem rowSubP (hs : ∀ x, (enc x).size = sz) {pre sp : Array Value} {l : List α} {i : Int} {k m : Nat} {x : α} {out : Array Value} (h : l[i.toNat]? = some x) (hk : k + m ≤ sz) (ho : (enc x).extract k (k + m) = out) :
    (pre ++ (rows enc l ++ sp)).extract (pre.size + i.toNat * sz + k) (pre.size + i.toNat * sz + k + m) = out := by
  have := rowSub hs (sp := sp) h hk ho
  rw [show pre.size + i.toNat * sz + k + m = pre.size + (i.toNat * sz + k + m) by omega, show pre.size + i.toNat * sz + k = pre.size + (i.toNat * sz + k) by omega, extP hs]
  simpa using this
end
end
end Go.X

namespace Go.X
open Go.Proofs
theorem ds_25 : isDesc Tryz.prog 25 = 5 := by kernel_rfl
theorem fo_47_0 : fieldOff Tryz.prog 47 0 = some 0 := by kernel_rfl
theorem fo_47_1 : fieldOff Tryz.prog 47 1 = some 16 := by kernel_rfl
theorem fo_47_2 : fieldOff Tryz.prog 47 2 = some 17 := by kernel_rfl
theorem hb_97 : hasBody Tryz.prog 97 = true := by kernel_rfl
theorem kd_47 : kindOf Tryz.prog 47 = some (true, 18) := by kernel_rfl
theorem mp_261 : Tryz.prog.underlying 261 = some (.map 45 4) := by kernel_rfl
theorem sl_25 : sliceOf Tryz.prog 25 = some (47, 18) := by kernel_rfl
theorem zo_4 : zeroOf Tryz.prog 4 = some (.bool false) := by kernel_rfl
theorem zo_47 : zeroOf Tryz.prog 47 = some (.agg #[.int .u8 0, .int .u8 0, .int .u8 0, .int .u8 0, .int .u8 0, .int .u8 0, .int .u8 0, .int .u8 0, .int .u8 0, .int .u8 0, .int .u8 0, .int .u8 0, .int .u8 0, .int .u8 0, .int .u8 0, .int .u8 0, .string ⟨#[]⟩, .bool false]) := by kernel_rfl
def boolV (b : Bool) : Value := .bool b
/-- may a write be? -/
def goodW (w : Write) : Bool := goodK w.key && decide (w.val.size ≤ 200) && !(w.gone && !decide (w.val = ⟨#[]⟩))
/-- may writes be, but for how many? -/
def goodWs (ws : List Write) : Bool := ws.all goodW && decide (ws.map (·.key)).Nodup
def manyWs (ws : List Write) : Bool := decide (1 ≤ ws.length ∧ ws.length ≤ 16)
theorem goodW_of {w : Write} (h1 : goodK w.key = true) (h2 : ¬ (200 : Int) < (w.val.size : Int)) (h3 : w.gone = false ∨ w.val = ⟨#[]⟩) : goodW w = true := by
  unfold goodW
  rw [h1, decide_eq_true (by omega)]
  rcases h3 with h | h <;> simp [h]
theorem badW1 {w : Write} (h1 : goodK w.key = false) : goodW w = false := by unfold goodW; simp [h1]
theorem badW2 {w : Write} (h : (200 : Int) < (w.val.size : Int)) : goodW w = false := by
  unfold goodW; rw [decide_eq_false (by omega)]; simp
theorem badW3 {w : Write} (h1 : w.gone = true) (h2 : ¬ w.val = ⟨#[]⟩) : goodW w = false := by unfold goodW; simp [h1, h2]
def seenL (ws : List Write) (i : Nat) : List (Key × Bool) := (ws.take i).map fun w => (w.key, true)
theorem seen_keys {ws : List Write} {i : Nat} : (seenL ws i).map Prod.fst = (ws.take i).map (·.key) := by simp [seenL, Function.comp_def]
theorem seen_look {ws : List Write} {i : Nat} {k : Key} (h : (alook (seenL ws i) k).getD false = true) : k ∈ (ws.take i).map (·.key) := by
  cases hl : alook (seenL ws i) k with
  | none => rw [hl] at h; cases h
  | some u => rw [← seen_keys]; exact List.mem_map.2 ⟨_, alook_mem hl, rfl⟩
theorem seen_none {ws : List Write} {i : Nat} {k : Key} (h : (alook (seenL ws i) k).getD false = false) : k ∉ (ws.take i).map (·.key) := by
  intro hm
  rw [← seen_keys] at hm
  obtain ⟨q, hq, rfl⟩ := List.mem_map.1 hm
  have hq2 : q.2 = true := by
    unfold seenL at hq; obtain ⟨w, _, rfl⟩ := List.mem_map.1 hq; rfl
  have key : ∀ l : List (Key × Bool), q ∈ l → (∀ r ∈ l, r.2 = true) → (alook l q.1).getD false = true := by
    intro l
    induction l with
    | nil => intro h; simp at h
    | cons r l ih =>
      intro hq hall
      obtain ⟨y, u⟩ := r
      unfold alook
      split
      · have := hall (y, u) (by simp); simpa using this
      · rename_i hne
        rcases List.mem_cons.1 hq with h | h
        · subst h; exact absurd rfl hne
        · exact ih h (fun r hr => hall r (by simp [hr]))
  have := key _ hq (fun r hr => by unfold seenL at hr; obtain ⟨w, _, rfl⟩ := List.mem_map.1 hr; rfl)
  rw [h] at this; cases this
theorem seen_put {ws : List Write} {i : Nat} (hi : i < ws.length) (h : (alook (seenL ws i) ws[i].key).getD false = false) : aput (seenL ws i) ws[i].key true = seenL ws (i + 1) := by
  have := seen_none h
  rw [← seen_keys] at this
  rw [(alook_none this).2.1]
  unfold seenL
  rw [List.take_add_one, List.getElem?_eq_getElem hi, List.map_append]
  rfl
theorem gw_next {ws : List Write} {i : Nat} (hi : i < ws.length) (hg : ∀ w ∈ ws.take i, goodW w = true) (h : goodW ws[i] = true) : ∀ w ∈ ws.take (i + 1), goodW w = true := by
  intro w hw
  rw [List.take_add_one, List.getElem?_eq_getElem hi] at hw
  simp only [Option.toList_some, List.mem_append, List.mem_singleton] at hw
  rcases hw with hw | rfl
  · exact hg w hw
  · exact h
theorem gw_true {ws : List Write} {i : Nat} {es : Array MapEntry} {ck : Nat} (hi : i = ws.length) (hg : ∀ w ∈ ws.take i, goodW w = true) (hM : MapIs keyV boolV es ck (seenL ws i)) : goodWs ws = true := by
  subst hi
  have h1 := hM.keys
  rw [seen_keys] at h1
  simp only [List.take_length] at h1 hg
  unfold goodWs
  rw [Bool.and_eq_true, List.all_eq_true, decide_eq_true_eq]
  exact ⟨hg, h1⟩
theorem gw_false {ws : List Write} {i : Nat} (hi : i < ws.length) (h : goodW ws[i] = false ∨ ws[i].key ∈ (ws.take i).map (·.key)) : goodWs ws = false := by
  rw [Bool.eq_false_iff]
  intro h1
  unfold goodWs at h1
  rw [Bool.and_eq_true, List.all_eq_true, decide_eq_true_eq] at h1
  rcases h with h | h
  · have := h1.1 _ (List.getElem_mem hi)
    rw [h] at this; cases this
  · have h2 := h1.2
    have h3 : ws = ws.take i ++ ws[i] :: ws.drop (i + 1) := by
      rw [← List.drop_eq_getElem_cons hi]; simp
    rw [h3, List.map_append, List.map_cons, List.nodup_append] at h2
    exact h2.2.2 _ h _ (by simp) rfl

set_option maxRecDepth 100000 in
set_option maxHeartbeats 2000000 in
theorem C_Many {c : Cx} {L : List Pt} {av : Option Addr} {nw cw : Nat} {ws : List Write} (hW : SlAt c L Write_enc av nw ws) : Fn Tryz.prog 169 #[.slice av nw cw] c L (fun v L' => v = .bool (manyWs ws) ∧ L' = L) := by
  have hwl := hW.len
  have hwt := hW.lt
  refine Fn.enter Tryz.func169 rfl 11 rfl rfl (fun R hR => ?_)
  refine Cd.seq (fun K1 hK1 => ?_)
  refine Cd.region [0] rfl ?_
  refine Seq.rd0 at0 rfl rfl (O.assign (v := .bool _) rfl) ?_
  refine Seq.nil ?_
  refine hK1 ?_
  refine Cd.seq (fun K2 hK2 => ?_)
  refine Cd.region [0, 1, 2, 3, 4, 5, 6, 7, 8] rfl ?_
  refine Seq.rd0 at0 rfl rfl (O.move (v := .slice _ _ _) rfl) ?_
  refine Seq.rd0 at1 rfl rfl (O.lenS ds_25 rfl) ?_
  refine Seq.rd0 at2 rfl rfl (O.geq rfl rfl) ?_
  refine Seq.rd0 at3 rfl rfl (O.move (v := .bool _) rfl) ?_
  by_cases t3 : (1 : Int) ≤ (nw : Int)
  · rw [decide_eq_true t3]
    refine Seq.rd0 at4 rfl rfl (O.move (v := .slice _ _ _) rfl) ?_
    refine Seq.rd0 at5 rfl rfl (O.lenS ds_25 rfl) ?_
    refine Seq.rd0 at6 rfl rfl (O.leq rfl rfl) ?_
    refine Seq.rd0 at7 rfl rfl (O.pickT (v := .bool _) rfl rfl) ?_
    refine Seq.rd0 at8 rfl rfl (O.assign (v := .bool _) rfl) ?_
    refine Seq.nil ?_
    refine hK2 ?_
    refine Cd.ret ?_
    have hb : manyWs ws = decide ((nw : Int) ≤ 16) := by unfold manyWs; rw [decide_eq_decide]; omega
    exact hR _ _ (Res.one (v := .bool _) rfl rfl) ⟨by rw [hb], rfl⟩ (.refl _)
  · rw [decide_eq_false t3]
    refine Seq.pass at4 rfl rfl ?_
    refine Seq.pass at5 rfl rfl ?_
    refine Seq.pass at6 rfl rfl ?_
    refine Seq.rd0 at7 rfl rfl (O.pickF (v := .bool _) rfl rfl) ?_
    refine Seq.rd0 at8 rfl rfl (O.assign (v := .bool _) rfl) ?_
    refine Seq.nil ?_
    refine hK2 ?_
    refine Cd.ret ?_
    have hb : manyWs ws = false := by unfold manyWs; rw [decide_eq_false_iff_not]; omega
    exact hR _ _ (Res.one (v := .bool _) rfl rfl) ⟨by rw [hb], rfl⟩ (.refl _)

set_option maxRecDepth 100000 in
set_option maxHeartbeats 2000000 in
theorem C_store_Good {c : Cx} {L : List Pt} {av : Option Addr} {nw cw : Nat} {ws : List Write} (hW : SlAt c L Write_enc av nw ws) : Fn Tryz.prog 105 #[.slice av nw cw] c L (fun v L' => v = .bool (goodWs ws) ∧ L' = L) := by
  have hwl := hW.len
  have hwt := hW.lt
  refine Fn.enter Tryz.func105 rfl 42 rfl rfl (fun R hR => ?_)
  refine Cd.seq (fun K1 hK1 => ?_)
  refine Cd.region [0] rfl ?_
  refine Seq.rd0 at0 rfl rfl (O.assign (v := .bool _) rfl) ?_
  refine Seq.nil ?_
  refine hK1 ?_
  refine Cd.seq (fun K2 hK2 => ?_)
  refine Cd.region [0, 1] rfl ?_
  refine Seq.op at0 rfl (Op.new rfl (O.makeMap) ?_)
  intro b3 hb3
  refine Seq.rd0 at1 rfl rfl (O.assign (v := .map _) rfl) ?_
  refine Seq.nil ?_
  refine hK2 ?_
  refine Cd.seq (fun K4 hK4 => ?_)
  refine Cd.seq (fun K5 hK5 => ?_)
  refine Cd.region [0, 1, 2] rfl ?_
  refine Seq.rd0 at0 rfl rfl (O.move (v := .slice _ _ _) rfl) ?_
  refine Seq.rd0 at1 rfl rfl (O.lenS ds_25 rfl) ?_
  refine Seq.rd0 at2 rfl rfl (O.move (v := .int .i64 _) rfl) ?_
  refine Seq.nil ?_
  refine hK5 ?_
  refine Cd.block ?_
  refine Cd.loop (fun m6 e7 L8 => ∃ i : Nat, ∃ es : Array MapEntry, ∃ ck : Nat, m6 = ws.length - i ∧ e7 3 = .map (some b3) ∧ e7 7 = .slice av nw cw ∧ e7 8 = .int .i64 (nw : Int) ∧ e7 9 = .int .i64 (i : Int) ∧ L8 = (b3, .map es ck) :: L ∧ i ≤ ws.length ∧ MapIs keyV boolV es ck (seenL ws i) ∧ (∀ w ∈ ws.take i, goodW w = true)) _ ⟨0, #[], 0, rfl, rfl, rfl, rfl, rfl, rfl, Nat.zero_le _, by exact MapIs.nil, fun w hw => by simp at hw⟩ ?_
  rintro _ e7 _ ⟨i, es, ck, rfl, s9, s10, s11, s12, rfl, hi, hM, hg⟩ K13 hK13
  refine Cd.seq (fun K14 hK14 => ?_)
  refine Cd.region [0] rfl ?_
  refine Seq.rd0 at0 rfl rfl (O.lss (by exact s12) (by exact s11)) ?_
  refine Seq.nil ?_
  refine hK14 ?_
  refine Cd.seq (fun K15 hK15 => ?_)
  refine Cd.if ((i : Int) < (nw : Int)) rfl (fun t16 => ?_) (fun t16 => ?_)
  · skip
    refine Cd.skip ?_
    refine hK15 ?_
    refine Cd.seq (fun K17 hK17 => ?_)
    refine Cd.block ?_
    refine Cd.seq (fun K18 hK18 => ?_)
    refine Cd.region [0, 1, 2, 3] rfl ?_
    have hlt19 : i < ws.length := by omega
    obtain ⟨pre19, sp19, el19, fz19, hav19, hrd19⟩ := hW.at_ hlt19
    refine Seq.rd0 at0 rfl rfl (O.indexG sl_25 (by exact s10) hav19 (by exact s12) (by omega) (by omega)) ?_
    refine Seq.rd1 at1 rfl rfl (O.loadA kd_47 rfl (rowRoomP Write_size (getN hlt19)) (rowAtP Write_size (getN hlt19))) hrd19.cons ?_
    refine Seq.op at2 rfl (Op.new rfl (O.alloc zo_47 (cs := (Write_enc Write.zero)) rfl) ?_)
    intro b20 hb20
    refine Seq.op at3 rfl (Op.set0 rfl (O.store kd_47 rfl (v := .agg _) rfl (Write_size _) (Write_room (Write_size _)) (Write_one _) (Write_put _ (Write_size _))) ?_)
    refine Seq.nil ?_
    refine hK18 ?_
    refine Cd.seq (fun K21 hK21 => ?_)
    refine Cd.seq (fun K22 hK22 => ?_)
    refine Cd.region [0, 1, 2, 3, 4, 5, 6, 7, 8, 9, 10, 11, 12, 13, 14, 15, 16, 17, 18, 19, 20, 21, 22, 23, 24] rfl ?_
    refine Seq.rd0 at0 rfl rfl (O.field fo_47_0 rfl) ?_
    refine Seq.rd1 at1 rfl rfl (O.loadA kd_45 rfl (Nat.le_of_ble_eq_true rfl) (Write_key _)) Rd.head ?_
    refine Seq.op at2 rfl (Op.callF rfl hb_97 C_key_Good rfl ?_)
    rintro _ _ ⟨rfl, rfl⟩
    refine Seq.rd0 at3 rfl rfl (O.not rfl) ?_
    refine Seq.rd0 at4 rfl rfl (O.move (v := .bool _) rfl) ?_
    cases t23 : goodK ws[i].key
    · skip
      refine Seq.pass at5 rfl rfl ?_
      refine Seq.pass at6 rfl rfl ?_
      refine Seq.pass at7 rfl rfl ?_
      refine Seq.pass at8 rfl rfl ?_
      refine Seq.rd0 at9 rfl rfl (O.pickT (v := .bool _) rfl rfl) ?_
      refine Seq.rd0 at10 rfl rfl (O.move (v := .bool _) rfl) ?_
      refine Seq.pass at11 rfl rfl ?_
      refine Seq.pass at12 rfl rfl ?_
      refine Seq.pass at13 rfl rfl ?_
      refine Seq.pass at14 rfl rfl ?_
      refine Seq.rd0 at15 rfl rfl (O.pickT (v := .bool _) rfl rfl) ?_
      refine Seq.rd0 at16 rfl rfl (O.move (v := .bool _) rfl) ?_
      refine Seq.pass at17 rfl rfl ?_
      refine Seq.pass at18 rfl rfl ?_
      refine Seq.pass at19 rfl rfl ?_
      refine Seq.pass at20 rfl rfl ?_
      refine Seq.pass at21 rfl rfl ?_
      refine Seq.pass at22 rfl rfl ?_
      refine Seq.pass at23 rfl rfl ?_
      refine Seq.rd0 at24 rfl rfl (O.pickT (v := .bool _) rfl rfl) ?_
      refine Seq.nil ?_
      refine hK22 ?_
      refine Cd.condT rfl ?_
      refine Cd.seq (fun K24 hK24 => ?_)
      refine Cd.region [0] rfl ?_
      refine Seq.rd0 at0 rfl rfl (O.assign (v := .bool _) rfl) ?_
      refine Seq.nil ?_
      refine hK24 ?_
      refine Cd.ret ?_
      exact hR _ _ (Res.one (v := .bool _) rfl rfl) ⟨by rw [gw_false (i := i) (by omega) (by first | exact .inr (seen_look (by assumption)) | exact .inl (badW1 (by assumption)) | exact .inl (badW2 (by assumption)) | exact .inl (badW3 (by assumption) (by assumption)))], rfl⟩ (.cons _ (.cons _ (.refl _)))
    · skip
      refine Seq.rd0 at5 rfl rfl (O.move (v := .map _) (by exact s9)) ?_
      refine Seq.rd0 at6 rfl rfl (O.field fo_47_0 rfl) ?_
      refine Seq.rd1 at7 rfl rfl (O.loadA kd_45 rfl (Nat.le_of_ble_eq_true rfl) (Write_key _)) Rd.head ?_
      refine Seq.rd1 at8 rfl rfl (O.lookD (ok := false) (encV := boolV) false mp_261 kk_key hM zo_4 rfl (by exact rfl)) Rd.head.cons ?_
      refine Seq.rd0 at9 rfl rfl (O.pickF (v := .bool _) rfl rfl) ?_
      refine Seq.rd0 at10 rfl rfl (O.move (v := .bool _) rfl) ?_
      cases t25 : ((alook (seenL ws i) ws[i].key).getD false)
      · skip
        refine Seq.rd0 at11 rfl rfl (O.field fo_47_1 rfl) ?_
        refine Seq.rd1 at12 rfl rfl (O.load kd_9 rfl (Write_val _)) Rd.head ?_
        refine Seq.rd0 at13 rfl rfl (O.lenT ds_9 rfl) ?_
        refine Seq.rd0 at14 rfl rfl (O.gtr rfl rfl) ?_
        refine Seq.rd0 at15 rfl rfl (O.pickF (v := .bool _) rfl rfl) ?_
        refine Seq.rd0 at16 rfl rfl (O.move (v := .bool _) rfl) ?_
        by_cases t26 : (200 : Int) < (ws[i].val.size : Int)
        · rw [decide_eq_true t26]
          refine Seq.pass at17 rfl rfl ?_
          refine Seq.pass at18 rfl rfl ?_
          refine Seq.pass at19 rfl rfl ?_
          refine Seq.pass at20 rfl rfl ?_
          refine Seq.pass at21 rfl rfl ?_
          refine Seq.pass at22 rfl rfl ?_
          refine Seq.pass at23 rfl rfl ?_
          refine Seq.rd0 at24 rfl rfl (O.pickT (v := .bool _) rfl rfl) ?_
          refine Seq.nil ?_
          refine hK22 ?_
          refine Cd.condT rfl ?_
          refine Cd.seq (fun K27 hK27 => ?_)
          refine Cd.region [0] rfl ?_
          refine Seq.rd0 at0 rfl rfl (O.assign (v := .bool _) rfl) ?_
          refine Seq.nil ?_
          refine hK27 ?_
          refine Cd.ret ?_
          exact hR _ _ (Res.one (v := .bool _) rfl rfl) ⟨by rw [gw_false (i := i) (by omega) (by first | exact .inr (seen_look (by assumption)) | exact .inl (badW1 (by assumption)) | exact .inl (badW2 (by assumption)) | exact .inl (badW3 (by assumption) (by assumption)))], rfl⟩ (.cons _ (.cons _ (.refl _)))
        · rw [decide_eq_false t26]
          refine Seq.rd0 at17 rfl rfl (O.field fo_47_2 rfl) ?_
          refine Seq.rd1 at18 rfl rfl (O.load kd_4 rfl (Write_gone _)) Rd.head ?_
          refine Seq.rd0 at19 rfl rfl (O.move (v := .bool _) rfl) ?_
          cases t28 : ws[i].gone
          · skip
            refine Seq.pass at20 rfl rfl ?_
            refine Seq.pass at21 rfl rfl ?_
            refine Seq.pass at22 rfl rfl ?_
            refine Seq.rd0 at23 rfl rfl (O.pickF (v := .bool _) rfl rfl) ?_
            refine Seq.rd0 at24 rfl rfl (O.pickF (v := .bool _) rfl rfl) ?_
            refine Seq.nil ?_
            refine hK22 ?_
            refine Cd.condF rfl ?_
            refine Cd.skip ?_
            refine hK21 ?_
            refine Cd.region [0, 1, 2, 3] rfl ?_
            refine Seq.rd0 at0 rfl rfl (O.move (v := .map _) (by exact s9)) ?_
            refine Seq.rd0 at1 rfl rfl (O.field fo_47_0 rfl) ?_
            refine Seq.rd1 at2 rfl rfl (O.loadA kd_45 rfl (Nat.le_of_ble_eq_true rfl) (Write_key _)) Rd.head ?_
            refine Seq.op at3 rfl (Op.gen rfl (O.mapSet (encV := boolV) (u := true) mp_261 kk_key hM rfl (by exact rfl) rfl (A := [(b20, _)]) rfl) ?_)
            rintro _ _ ⟨rfl, es', ck', hM', rfl⟩
            refine Seq.nil ?_
            refine hK17 ?_
            refine Cd.region [0, 1] rfl ?_
            refine Seq.rd0 at0 rfl rfl (O.add (by exact s12) rfl (by omega) (by omega)) ?_
            refine Seq.rd0 at1 rfl rfl (O.move (v := .int .i64 _) rfl) ?_
            refine Seq.nil ?_
            refine Ent.drop ?_
            exact hK13 _ (by omega) ⟨i + 1, es', ck', rfl, (by exact s9), (by exact s10), (by exact s11), rfl, rfl, by omega, by rw [seen_put hlt19 (by assumption)] at hM'; exact hM', gw_next hlt19 hg (goodW_of (by assumption) (by assumption) (by first | exact .inl (by assumption) | exact .inr (by assumption)))⟩
          · skip
            refine Seq.rd0 at20 rfl rfl (O.field fo_47_1 rfl) ?_
            refine Seq.rd1 at21 rfl rfl (O.load kd_9 rfl (Write_val _)) Rd.head ?_
            refine Seq.rd0 at22 rfl rfl (O.neS rfl rfl) ?_
            refine Seq.rd0 at23 rfl rfl (O.pickT (v := .bool _) rfl rfl) ?_
            refine Seq.rd0 at24 rfl rfl (O.pickF (v := .bool _) rfl rfl) ?_
            refine Seq.nil ?_
            refine hK22 ?_
            refine Cd.ifn (ws[i].val = ⟨#[]⟩) rfl (fun t29 => ?_) (fun t29 => ?_)
            · skip
              refine Cd.seq (fun K30 hK30 => ?_)
              refine Cd.region [0] rfl ?_
              refine Seq.rd0 at0 rfl rfl (O.assign (v := .bool _) rfl) ?_
              refine Seq.nil ?_
              refine hK30 ?_
              refine Cd.ret ?_
              exact hR _ _ (Res.one (v := .bool _) rfl rfl) ⟨by rw [gw_false (i := i) (by omega) (by first | exact .inr (seen_look (by assumption)) | exact .inl (badW1 (by assumption)) | exact .inl (badW2 (by assumption)) | exact .inl (badW3 (by assumption) (by assumption)))], rfl⟩ (.cons _ (.cons _ (.refl _)))
            · skip
              refine Cd.skip ?_
              refine hK21 ?_
              refine Cd.region [0, 1, 2, 3] rfl ?_
              refine Seq.rd0 at0 rfl rfl (O.move (v := .map _) (by exact s9)) ?_
              refine Seq.rd0 at1 rfl rfl (O.field fo_47_0 rfl) ?_
              refine Seq.rd1 at2 rfl rfl (O.loadA kd_45 rfl (Nat.le_of_ble_eq_true rfl) (Write_key _)) Rd.head ?_
              refine Seq.op at3 rfl (Op.gen rfl (O.mapSet (encV := boolV) (u := true) mp_261 kk_key hM rfl (by exact rfl) rfl (A := [(b20, _)]) rfl) ?_)
              rintro _ _ ⟨rfl, es', ck', hM', rfl⟩
              refine Seq.nil ?_
              refine hK17 ?_
              refine Cd.region [0, 1] rfl ?_
              refine Seq.rd0 at0 rfl rfl (O.add (by exact s12) rfl (by omega) (by omega)) ?_
              refine Seq.rd0 at1 rfl rfl (O.move (v := .int .i64 _) rfl) ?_
              refine Seq.nil ?_
              refine Ent.drop ?_
              exact hK13 _ (by omega) ⟨i + 1, es', ck', rfl, (by exact s9), (by exact s10), (by exact s11), rfl, rfl, by omega, by rw [seen_put hlt19 (by assumption)] at hM'; exact hM', gw_next hlt19 hg (goodW_of (by assumption) (by assumption) (by first | exact .inl (by assumption) | exact .inr (by assumption)))⟩
      · skip
        refine Seq.pass at11 rfl rfl ?_
        refine Seq.pass at12 rfl rfl ?_
        refine Seq.pass at13 rfl rfl ?_
        refine Seq.pass at14 rfl rfl ?_
        refine Seq.rd0 at15 rfl rfl (O.pickT (v := .bool _) rfl rfl) ?_
        refine Seq.rd0 at16 rfl rfl (O.move (v := .bool _) rfl) ?_
        refine Seq.pass at17 rfl rfl ?_
        refine Seq.pass at18 rfl rfl ?_
        refine Seq.pass at19 rfl rfl ?_
        refine Seq.pass at20 rfl rfl ?_
        refine Seq.pass at21 rfl rfl ?_
        refine Seq.pass at22 rfl rfl ?_
        refine Seq.pass at23 rfl rfl ?_
        refine Seq.rd0 at24 rfl rfl (O.pickT (v := .bool _) rfl rfl) ?_
        refine Seq.nil ?_
        refine hK22 ?_
        refine Cd.condT rfl ?_
        refine Cd.seq (fun K31 hK31 => ?_)
        refine Cd.region [0] rfl ?_
        refine Seq.rd0 at0 rfl rfl (O.assign (v := .bool _) rfl) ?_
        refine Seq.nil ?_
        refine hK31 ?_
        refine Cd.ret ?_
        exact hR _ _ (Res.one (v := .bool _) rfl rfl) ⟨by rw [gw_false (i := i) (by omega) (by first | exact .inr (seen_look (by assumption)) | exact .inl (badW1 (by assumption)) | exact .inl (badW2 (by assumption)) | exact .inl (badW3 (by assumption) (by assumption)))], rfl⟩ (.cons _ (.cons _ (.refl _)))
  · skip
    refine Cd.exit ?_
    refine hK4 ?_
    refine Cd.seq (fun K32 hK32 => ?_)
    refine Cd.region [0] rfl ?_
    refine Seq.rd0 at0 rfl rfl (O.assign (v := .bool _) rfl) ?_
    refine Seq.nil ?_
    refine hK32 ?_
    refine Cd.ret ?_
    exact hR _ _ (Res.one (v := .bool _) rfl rfl) ⟨by rw [gw_true (by omega) hg hM], rfl⟩ (.cons _ (.refl _))

end Go.X

namespace Go.X
open Go.Proofs
theorem fo_27_0 : fieldOff Tryz.prog 27 0 = some 0 := by kernel_rfl
theorem fo_27_1 : fieldOff Tryz.prog 27 1 = some 1 := by kernel_rfl
theorem fo_27_2 : fieldOff Tryz.prog 27 2 = some 3 := by kernel_rfl
theorem fo_27_3 : fieldOff Tryz.prog 27 3 = some 5 := by kernel_rfl
theorem hb_105 : hasBody Tryz.prog 105 = true := by kernel_rfl
theorem hb_163 : hasBody Tryz.prog 163 = true := by kernel_rfl
theorem hb_169 : hasBody Tryz.prog 169 = true := by kernel_rfl
theorem hb_98 : hasBody Tryz.prog 98 = true := by kernel_rfl
theorem kd_25 : kindOf Tryz.prog 25 = some (false, 1) := by kernel_rfl
theorem kd_27 : kindOf Tryz.prog 27 = some (true, 6) := by kernel_rfl
/-- may an entry be, but for its stamp? may it be? -/
def mayE (e : Entry) (ws : List Write) : Bool := decide (1 ≤ e.id) && (e.snap.good && (manyWs ws && goodWs ws))
def goodE (e : Entry) (ws : List Write) : Bool := mayE e ws && (e.stamp.good && decide (0 < e.stamp.cmp e.snap))

set_option maxRecDepth 100000 in
set_option maxHeartbeats 2000000 in
theorem C_prep_May {c : Cx} {L : List Pt} {en : Entry} {ws : List Write} (hE : SlAt c L Write_enc en.ws.a en.ws.n ws) : Fn Tryz.prog 163 #[.agg (Entry_enc en)] c L (fun v L' => v = .bool (mayE en ws) ∧ L' = L) := by
  refine Fn.enter Tryz.func163 rfl 21 rfl rfl (fun R hR => ?_)
  refine Cd.seq (fun K1 hK1 => ?_)
  refine Cd.region [0, 1] rfl ?_
  refine Seq.op at0 rfl (Op.new rfl (O.box (v := .agg _) rfl (cs := (Entry_enc en)) rfl) ?_)
  intro b2 hb2
  refine Seq.rd0 at1 rfl rfl (O.assign (v := .bool _) rfl) ?_
  refine Seq.nil ?_
  refine hK1 ?_
  refine Cd.seq (fun K3 hK3 => ?_)
  refine Cd.region [0, 1, 2, 3, 4, 5, 6, 7, 8, 9, 10, 11, 12, 13, 14, 15, 16, 17, 18] rfl ?_
  refine Seq.rd0 at0 rfl rfl (O.field fo_27_0 rfl) ?_
  refine Seq.rd1 at1 rfl rfl (O.load kd_2 rfl (Entry_id _)) Rd.head ?_
  refine Seq.rd0 at2 rfl rfl (O.geq rfl rfl) ?_
  refine Seq.rd0 at3 rfl rfl (O.move (v := .bool _) rfl) ?_
  by_cases t4 : (1 : Int) ≤ en.id
  · rw [decide_eq_true t4]
    refine Seq.rd0 at4 rfl rfl (O.field fo_27_1 rfl) ?_
    refine Seq.rd1 at5 rfl rfl (O.loadA kd_24 rfl (Nat.le_of_ble_eq_true rfl) (Entry_snap _)) Rd.head ?_
    refine Seq.op at6 rfl (Op.callF rfl hb_98 C_stamp_Good rfl ?_)
    rintro _ _ ⟨rfl, rfl⟩
    refine Seq.rd0 at7 rfl rfl (O.pickT (v := .bool _) rfl rfl) ?_
    refine Seq.rd0 at8 rfl rfl (O.move (v := .bool _) rfl) ?_
    cases t5 : decide (en.snap).good
    · skip
      refine Seq.pass at9 rfl rfl ?_
      refine Seq.pass at10 rfl rfl ?_
      refine Seq.pass at11 rfl rfl ?_
      refine Seq.rd0 at12 rfl rfl (O.pickF (v := .bool _) rfl rfl) ?_
      refine Seq.rd0 at13 rfl rfl (O.move (v := .bool _) rfl) ?_
      refine Seq.pass at14 rfl rfl ?_
      refine Seq.pass at15 rfl rfl ?_
      refine Seq.pass at16 rfl rfl ?_
      refine Seq.rd0 at17 rfl rfl (O.pickF (v := .bool _) rfl rfl) ?_
      refine Seq.rd0 at18 rfl rfl (O.assign (v := .bool _) rfl) ?_
      refine Seq.nil ?_
      refine hK3 ?_
      refine Cd.ret ?_
      exact hR _ _ (Res.one (v := .bool _) rfl rfl) ⟨by unfold mayE; simp_all; try (intro h; omega), rfl⟩ (.cons _ (.refl _))
    · skip
      refine Seq.rd0 at9 rfl rfl (O.field fo_27_3 rfl) ?_
      refine Seq.rd1 at10 rfl rfl (O.load kd_25 rfl (Entry_ws _)) Rd.head ?_
      refine Seq.op at11 rfl (Op.callF rfl hb_169 (C_Many hE.cons) rfl ?_)
      rintro _ _ ⟨rfl, rfl⟩
      refine Seq.rd0 at12 rfl rfl (O.pickT (v := .bool _) rfl rfl) ?_
      refine Seq.rd0 at13 rfl rfl (O.move (v := .bool _) rfl) ?_
      cases t6 : (manyWs ws)
      · skip
        refine Seq.pass at14 rfl rfl ?_
        refine Seq.pass at15 rfl rfl ?_
        refine Seq.pass at16 rfl rfl ?_
        refine Seq.rd0 at17 rfl rfl (O.pickF (v := .bool _) rfl rfl) ?_
        refine Seq.rd0 at18 rfl rfl (O.assign (v := .bool _) rfl) ?_
        refine Seq.nil ?_
        refine hK3 ?_
        refine Cd.ret ?_
        exact hR _ _ (Res.one (v := .bool _) rfl rfl) ⟨by unfold mayE; simp_all; try (intro h; omega), rfl⟩ (.cons _ (.refl _))
      · skip
        refine Seq.rd0 at14 rfl rfl (O.field fo_27_3 rfl) ?_
        refine Seq.rd1 at15 rfl rfl (O.load kd_25 rfl (Entry_ws _)) Rd.head ?_
        refine Seq.op at16 rfl (Op.callF rfl hb_105 (C_store_Good hE.cons) rfl ?_)
        rintro _ _ ⟨rfl, rfl⟩
        refine Seq.rd0 at17 rfl rfl (O.pickT (v := .bool _) rfl rfl) ?_
        refine Seq.rd0 at18 rfl rfl (O.assign (v := .bool _) rfl) ?_
        refine Seq.nil ?_
        refine hK3 ?_
        refine Cd.ret ?_
        exact hR _ _ (Res.one (v := .bool _) rfl rfl) ⟨by unfold mayE; simp_all; try (intro h; omega), rfl⟩ (.cons _ (.refl _))
  · rw [decide_eq_false t4]
    refine Seq.pass at4 rfl rfl ?_
    refine Seq.pass at5 rfl rfl ?_
    refine Seq.pass at6 rfl rfl ?_
    refine Seq.rd0 at7 rfl rfl (O.pickF (v := .bool _) rfl rfl) ?_
    refine Seq.rd0 at8 rfl rfl (O.move (v := .bool _) rfl) ?_
    refine Seq.pass at9 rfl rfl ?_
    refine Seq.pass at10 rfl rfl ?_
    refine Seq.pass at11 rfl rfl ?_
    refine Seq.rd0 at12 rfl rfl (O.pickF (v := .bool _) rfl rfl) ?_
    refine Seq.rd0 at13 rfl rfl (O.move (v := .bool _) rfl) ?_
    refine Seq.pass at14 rfl rfl ?_
    refine Seq.pass at15 rfl rfl ?_
    refine Seq.pass at16 rfl rfl ?_
    refine Seq.rd0 at17 rfl rfl (O.pickF (v := .bool _) rfl rfl) ?_
    refine Seq.rd0 at18 rfl rfl (O.assign (v := .bool _) rfl) ?_
    refine Seq.nil ?_
    refine hK3 ?_
    refine Cd.ret ?_
    exact hR _ _ (Res.one (v := .bool _) rfl rfl) ⟨by unfold mayE; simp_all; try (intro h; omega), rfl⟩ (.cons _ (.refl _))

set_option maxRecDepth 100000 in
set_option maxHeartbeats 2000000 in
theorem C_prep_Good {c : Cx} {L : List Pt} {en : Entry} {ws : List Write} (hE : SlAt c L Write_enc en.ws.a en.ws.n ws) : Fn Tryz.prog 89 #[.agg (Entry_enc en)] c L (fun v L' => v = .bool (goodE en ws) ∧ L' = L) := by
  refine Fn.enter Tryz.func89 rfl 18 rfl rfl (fun R hR => ?_)
  refine Cd.seq (fun K1 hK1 => ?_)
  refine Cd.region [0, 1] rfl ?_
  refine Seq.op at0 rfl (Op.new rfl (O.box (v := .agg _) rfl (cs := (Entry_enc en)) rfl) ?_)
  intro b2 hb2
  refine Seq.rd0 at1 rfl rfl (O.assign (v := .bool _) rfl) ?_
  refine Seq.nil ?_
  refine hK1 ?_
  refine Cd.seq (fun K3 hK3 => ?_)
  refine Cd.region [0, 1, 2, 3, 4, 5, 6, 7, 8, 9, 10, 11, 12, 13, 14, 15] rfl ?_
  refine Seq.rd1 at0 rfl rfl (O.loadA kd_27 rfl (Nat.le_of_ble_eq_true rfl) (Entry_all _)) Rd.head ?_
  refine Seq.op at1 rfl (Op.callF rfl hb_163 (C_prep_May hE.cons) rfl ?_)
  rintro _ _ ⟨rfl, rfl⟩
  refine Seq.rd0 at2 rfl rfl (O.move (v := .bool _) rfl) ?_
  cases t4 : (mayE en ws)
  · skip
    refine Seq.pass at3 rfl rfl ?_
    refine Seq.pass at4 rfl rfl ?_
    refine Seq.pass at5 rfl rfl ?_
    refine Seq.rd0 at6 rfl rfl (O.pickF (v := .bool _) rfl rfl) ?_
    refine Seq.rd0 at7 rfl rfl (O.move (v := .bool _) rfl) ?_
    refine Seq.pass at8 rfl rfl ?_
    refine Seq.pass at9 rfl rfl ?_
    refine Seq.pass at10 rfl rfl ?_
    refine Seq.pass at11 rfl rfl ?_
    refine Seq.pass at12 rfl rfl ?_
    refine Seq.pass at13 rfl rfl ?_
    refine Seq.rd0 at14 rfl rfl (O.pickF (v := .bool _) rfl rfl) ?_
    refine Seq.rd0 at15 rfl rfl (O.assign (v := .bool _) rfl) ?_
    refine Seq.nil ?_
    refine hK3 ?_
    refine Cd.ret ?_
    exact hR _ _ (Res.one (v := .bool _) rfl rfl) ⟨by unfold goodE; simp_all; try (intro h; omega), rfl⟩ (.cons _ (.refl _))
  · skip
    refine Seq.rd0 at3 rfl rfl (O.field fo_27_2 rfl) ?_
    refine Seq.rd1 at4 rfl rfl (O.loadA kd_24 rfl (Nat.le_of_ble_eq_true rfl) (Entry_stamp _)) Rd.head ?_
    refine Seq.op at5 rfl (Op.callF rfl hb_98 C_stamp_Good rfl ?_)
    rintro _ _ ⟨rfl, rfl⟩
    refine Seq.rd0 at6 rfl rfl (O.pickT (v := .bool _) rfl rfl) ?_
    refine Seq.rd0 at7 rfl rfl (O.move (v := .bool _) rfl) ?_
    cases t5 : decide (en.stamp).good
    · skip
      refine Seq.pass at8 rfl rfl ?_
      refine Seq.pass at9 rfl rfl ?_
      refine Seq.pass at10 rfl rfl ?_
      refine Seq.pass at11 rfl rfl ?_
      refine Seq.pass at12 rfl rfl ?_
      refine Seq.pass at13 rfl rfl ?_
      refine Seq.rd0 at14 rfl rfl (O.pickF (v := .bool _) rfl rfl) ?_
      refine Seq.rd0 at15 rfl rfl (O.assign (v := .bool _) rfl) ?_
      refine Seq.nil ?_
      refine hK3 ?_
      refine Cd.ret ?_
      exact hR _ _ (Res.one (v := .bool _) rfl rfl) ⟨by unfold goodE; simp_all; try (intro h; omega), rfl⟩ (.cons _ (.refl _))
    · skip
      refine Seq.rd0 at8 rfl rfl (O.field fo_27_2 rfl) ?_
      refine Seq.rd1 at9 rfl rfl (O.loadA kd_24 rfl (Nat.le_of_ble_eq_true rfl) (Entry_stamp _)) Rd.head ?_
      refine Seq.rd0 at10 rfl rfl (O.field fo_27_1 rfl) ?_
      refine Seq.rd1 at11 rfl rfl (O.loadA kd_24 rfl (Nat.le_of_ble_eq_true rfl) (Entry_snap _)) Rd.head ?_
      refine Seq.op at12 rfl (Op.callF rfl hb_132 C_stamp_Cmp rfl ?_)
      rintro _ _ ⟨rfl, rfl⟩
      refine Seq.rd0 at13 rfl rfl (O.gtr rfl rfl) ?_
      refine Seq.rd0 at14 rfl rfl (O.pickT (v := .bool _) rfl rfl) ?_
      refine Seq.rd0 at15 rfl rfl (O.assign (v := .bool _) rfl) ?_
      refine Seq.nil ?_
      refine hK3 ?_
      refine Cd.ret ?_
      exact hR _ _ (Res.one (v := .bool _) rfl rfl) ⟨by unfold goodE; simp_all; try (intro h; omega), rfl⟩ (.cons _ (.refl _))

end Go.X

namespace Go.X
open Go.Proofs
theorem ei_239 : elemInfo Tryz.prog 239 = some (242, 4, 40, .agg #[.int .i64 0, .int .u8 0, .string ⟨#[]⟩, .bool false]) := by kernel_rfl
theorem ei_25 : elemInfo Tryz.prog 25 = some (47, 18, 40, .agg #[.int .u8 0, .int .u8 0, .int .u8 0, .int .u8 0, .int .u8 0, .int .u8 0, .int .u8 0, .int .u8 0, .int .u8 0, .int .u8 0, .int .u8 0, .int .u8 0, .int .u8 0, .int .u8 0, .int .u8 0, .int .u8 0, .string ⟨#[]⟩, .bool false]) := by kernel_rfl
theorem SlAt.nil {c : Cx} {L : List Pt} {α : Type} {enc : α → Array Value} {av : Option Addr} {n : Nat} {xs : List α} (h : SlAt c L enc av n xs) (hn : av.isNone = true) : n = 0 ∧ xs = [] := by
  cases xs with
  | nil => exact ⟨h.len, rfl⟩
  | cons x l =>
    obtain ⟨pre, sp, el, fz, h1, _⟩ := h.get (by simp)
    rw [h1] at hn; cases hn

theorem rows_ones {α : Type} {enc : α → Array Value} (h : ∀ x, ∀ u ∈ (Value.agg (enc x)).cells.toList, Value.oneCell' u = true) {xs : List α} : ∀ u ∈ (rows enc xs).toList, Value.oneCell' u = true := by
  intro u hu
  simp only [rows, List.mem_flatMap] at hu
  obtain ⟨x, _, h2⟩ := hu
  exact h x u h2

set_option maxRecDepth 100000 in
set_option maxHeartbeats 2000000 in
theorem C_Clone_Write {c : Cx} {L : List Pt} {av : Option Addr} {n cap : Nat} {xs : List Write} (hX : SlAt c L Write_enc av n xs) (hb : n ≤ 1000000000) : Fn Tryz.prog 222 #[.slice av n cap] c L (fun v L' => ∃ av' cap' Ls, v = .slice av' n cap' ∧ OwnSl 47 18 (rows Write_enc xs) n v Ls ∧ L' = Ls ++ L) := by
  refine Fn.enter Tryz.func222 rfl 8 rfl rfl (fun R hR => ?_)
  refine Cd.seq (fun K1 hK1 => ?_)
  refine Cd.region [0] rfl ?_
  refine Seq.rd0 at0 rfl rfl (O.assign (v := .slice _ _ _) rfl) ?_
  refine Seq.nil ?_
  refine hK1 ?_
  refine Cd.seq (fun K2 hK2 => ?_)
  refine Cd.seq (fun K3 hK3 => ?_)
  refine Cd.region [0, 1] rfl ?_
  refine Seq.rd0 at0 rfl rfl (O.move (v := .slice _ _ _) rfl) ?_
  refine Seq.rd0 at1 rfl rfl (O.eqSlNil ds_25 rfl rfl) ?_
  refine Seq.nil ?_
  refine hK3 ?_
  refine Cd.cond (av.isNone) rfl (fun t4 => ?_) (fun t4 => ?_)
  · skip
    refine Cd.seq (fun K5 hK5 => ?_)
    refine Cd.region [0] rfl ?_
    refine Seq.rd0 at0 rfl rfl (O.assign (v := .slice _ _ _) rfl) ?_
    refine Seq.nil ?_
    refine hK5 ?_
    refine Cd.ret ?_
    exact hR _ _ (Res.one (v := .slice _ _ _) rfl rfl) ⟨none, 0, [], by rw [(hX.nil (by assumption)).1], by obtain ⟨h1, h2⟩ := hX.nil (by assumption); subst h2; exact .inl ⟨h1, rfl, rfl, rfl⟩, rfl⟩ (.refl _)
  · skip
    refine Cd.skip ?_
    refine hK2 ?_
    refine Cd.seq (fun K6 hK6 => ?_)
    refine Cd.region [0, 1, 2, 3] rfl ?_
    refine Seq.op at0 rfl (Op.new rfl (O.buildSlice (el := 47) rfl (cs := (rows Write_enc [])) (by kernel_rfl)) ?_)
    intro b7 hb7
    refine Seq.rd0 at1 rfl rfl (O.move (v := .slice _ _ _) rfl) ?_
    refine Seq.op at2 rfl (Op.gen rfl (O.appendTo (k := n) (new := rows Write_enc xs) (Ls := [(b7, _)]) (R := L) ei_25 ds_25 (by decide) rfl (.inr ⟨b7, 0, #[], rfl, Nat.le_refl _, rfl, rfl, rfl⟩) (hX.cons.src Write_size) (rows_ones Write_one) (by omega)) ?_)
    rintro _ _ ⟨b9, cap9, Ls1, rfl, ho, rfl⟩
    refine Seq.rd0 at3 rfl rfl (O.assign (v := .slice _ _ _) rfl) ?_
    refine Seq.nil ?_
    refine hK6 ?_
    refine Cd.ret ?_
    exact hR _ _ (Res.one (v := .slice _ _ _) rfl rfl) ⟨_, _, Ls1, by rw [Nat.zero_add], by simpa [rows] using ho, rfl⟩ (.refl _)

set_option maxRecDepth 100000 in
set_option maxHeartbeats 2000000 in
theorem C_Clone_Version {c : Cx} {L : List Pt} {av : Option Addr} {n cap : Nat} {xs : List Version} (hX : SlAt c L Version_enc av n xs) (hb : n ≤ 1000000000) : Fn Tryz.prog 240 #[.slice av n cap] c L (fun v L' => ∃ av' cap' Ls, v = .slice av' n cap' ∧ OwnSl 242 4 (rows Version_enc xs) n v Ls ∧ L' = Ls ++ L) := by
  refine Fn.enter Tryz.func240 rfl 8 rfl rfl (fun R hR => ?_)
  refine Cd.seq (fun K1 hK1 => ?_)
  refine Cd.region [0] rfl ?_
  refine Seq.rd0 at0 rfl rfl (O.assign (v := .slice _ _ _) rfl) ?_
  refine Seq.nil ?_
  refine hK1 ?_
  refine Cd.seq (fun K2 hK2 => ?_)
  refine Cd.seq (fun K3 hK3 => ?_)
  refine Cd.region [0, 1] rfl ?_
  refine Seq.rd0 at0 rfl rfl (O.move (v := .slice _ _ _) rfl) ?_
  refine Seq.rd0 at1 rfl rfl (O.eqSlNil ds_239 rfl rfl) ?_
  refine Seq.nil ?_
  refine hK3 ?_
  refine Cd.cond (av.isNone) rfl (fun t4 => ?_) (fun t4 => ?_)
  · skip
    refine Cd.seq (fun K5 hK5 => ?_)
    refine Cd.region [0] rfl ?_
    refine Seq.rd0 at0 rfl rfl (O.assign (v := .slice _ _ _) rfl) ?_
    refine Seq.nil ?_
    refine hK5 ?_
    refine Cd.ret ?_
    exact hR _ _ (Res.one (v := .slice _ _ _) rfl rfl) ⟨none, 0, [], by rw [(hX.nil (by assumption)).1], by obtain ⟨h1, h2⟩ := hX.nil (by assumption); subst h2; exact .inl ⟨h1, rfl, rfl, rfl⟩, rfl⟩ (.refl _)
  · skip
    refine Cd.skip ?_
    refine hK2 ?_
    refine Cd.seq (fun K6 hK6 => ?_)
    refine Cd.region [0, 1, 2, 3] rfl ?_
    refine Seq.op at0 rfl (Op.new rfl (O.buildSlice (el := 242) rfl (cs := (rows Version_enc [])) (by kernel_rfl)) ?_)
    intro b7 hb7
    refine Seq.rd0 at1 rfl rfl (O.move (v := .slice _ _ _) rfl) ?_
    refine Seq.op at2 rfl (Op.gen rfl (O.appendTo (k := n) (new := rows Version_enc xs) (Ls := [(b7, _)]) (R := L) ei_239 ds_239 (by decide) rfl (.inr ⟨b7, 0, #[], rfl, Nat.le_refl _, rfl, rfl, rfl⟩) (hX.cons.src Version_size) (rows_ones Version_one) (by omega)) ?_)
    rintro _ _ ⟨b9, cap9, Ls1, rfl, ho, rfl⟩
    refine Seq.rd0 at3 rfl rfl (O.assign (v := .slice _ _ _) rfl) ?_
    refine Seq.nil ?_
    refine hK6 ?_
    refine Cd.ret ?_
    exact hR _ _ (Res.one (v := .slice _ _ _) rfl rfl) ⟨_, _, Ls1, by rw [Nat.zero_add], by simpa [rows] using ho, rfl⟩ (.refl _)

end Go.X

namespace Go.X
open Go.Proofs
theorem hb_217 : hasBody Tryz.prog 217 = true := by kernel_rfl
theorem hb_222 : hasBody Tryz.prog 222 = true := by kernel_rfl
theorem hb_240 : hasBody Tryz.prog 240 = true := by kernel_rfl
theorem zo_27 : zeroOf Tryz.prog 27 = some (.agg #[.int .i64 0, .int .i64 0, .int .u8 0, .int .i64 0, .int .u8 0, .slice none 0 0]) := by kernel_rfl
theorem ChAt.sl {c : Cx} {L : List Pt} {cb : Nat} {vs : List Version} (h : ChAt c L cb vs) (hn : vs.length < 4611686018427387904) :
    ∃ av cap, Rd c L cb (.cells #[.slice av vs.length cap] 300 (0, 0)) ∧ SlAt c L Version_enc av vs.length vs := by
  rcases h with ⟨rfl, h⟩ | ⟨a, cap, sp, h1, h2⟩
  · exact ⟨none, 0, h, rfl, by simp, fun h => absurd rfl h⟩
  · exact ⟨_, cap, h1, rfl, hn, fun _ => ⟨#[], sp, _, _, rfl, by rw [Array.empty_append]; exact h2⟩⟩

set_option maxRecDepth 100000 in
set_option maxHeartbeats 2000000 in
theorem C_chain_All {c : Cx} {L : List Pt} {cb : Nat} {vs : List Version} (hn : vs.length ≤ 1000000000) (hc : ChAt c L cb vs) : Fn Tryz.prog 217 #[.pointer (some ⟨cb, 0, none⟩)] c L (fun v L' => ∃ av cap Ls, v = .slice av vs.length cap ∧ OwnSl 242 4 (rows Version_enc vs) vs.length v Ls ∧ L' = Ls ++ L) := by
  obtain ⟨av, cap, hcb, hX⟩ := hc.sl (by omega)
  refine Fn.enter Tryz.func217 rfl 8 rfl rfl (fun R hR => ?_)
  refine Cd.seq (fun K1 hK1 => ?_)
  refine Cd.region [0] rfl ?_
  refine Seq.rd0 at0 rfl rfl (O.assign (v := .slice _ _ _) rfl) ?_
  refine Seq.nil ?_
  refine hK1 ?_
  refine Cd.seq (fun K2 hK2 => ?_)
  refine Cd.region [0, 1, 2, 3, 4, 5] rfl ?_
  refine Seq.rd0 at0 rfl rfl (O.move (v := .pointer _) rfl) ?_
  refine Seq.rd0 at1 rfl rfl (O.nilP rfl) ?_
  refine Seq.rd0 at2 rfl rfl (O.field fo_300_0 rfl) ?_
  refine Seq.rd1 at3 rfl rfl (O.load kd_239 rfl r1_0) hcb ?_
  refine Seq.op at4 rfl (Op.callF rfl hb_240 (C_Clone_Version hX hn) rfl ?_)
  rintro _ _ ⟨av3, cap4, Ls5, rfl, hoLs5, rfl⟩
  refine Seq.rd0 at5 rfl rfl (O.assign (v := .slice _ _ _) rfl) ?_
  refine Seq.nil ?_
  refine hK2 ?_
  refine Cd.ret ?_
  exact hR _ _ (Res.one (v := .slice _ _ _) rfl rfl) ⟨av3, cap4, Ls5, rfl, hoLs5, rfl⟩ (.refl _)

set_option maxRecDepth 100000 in
set_option maxHeartbeats 2000000 in
theorem C_store_Chain {c : Cx} {L : List Pt} {sb : Nat} {l : List (Key × CV)} {k : Key} (hS : StAt c L sb l) : Fn Tryz.prog 161 #[.pointer (some ⟨sb, 0, none⟩), .agg (Key_enc k)] c L (fun v L' => ∃ av cap Ls, v = .slice av ((getS l k).length) cap ∧ OwnSl 242 4 (rows Version_enc (getS l k)) ((getS l k).length) v Ls ∧ L' = Ls ++ L) := by
  refine Fn.enter Tryz.func161 rfl 9 rfl rfl (fun R hR => ?_)
  refine Cd.seq (fun K1 hK1 => ?_)
  refine Cd.region [0, 1] rfl ?_
  refine Seq.op at0 rfl (Op.new rfl (O.box (v := .agg _) rfl (cs := (Key_enc k)) rfl) ?_)
  intro b2 hb2
  refine Seq.rd0 at1 rfl rfl (O.assign (v := .slice _ _ _) rfl) ?_
  refine Seq.nil ?_
  refine hK1 ?_
  refine Cd.seq (fun K3 hK3 => ?_)
  refine Cd.region [0, 1, 2, 3, 4] rfl ?_
  refine Seq.rd0 at0 rfl rfl (O.move (v := .pointer _) rfl) ?_
  refine Seq.rd1 at1 rfl rfl (O.loadA kd_45 rfl (Nat.le_of_ble_eq_true rfl) (Key_all _)) Rd.head ?_
  refine Seq.op at2 rfl (Op.callF rfl hb_170 (C_of (k := k) hS.cons) rfl ?_)
  rintro _ _ ⟨cb4, G5, rfl, rfl, hc6, hc6s, hc6n⟩
  refine Seq.op at3 rfl (Op.callF rfl hb_217 (C_chain_All (hS.len _) hc6) rfl ?_)
  rintro _ _ ⟨av7, cap8, Ls9, rfl, hoLs9, rfl⟩
  refine Ent.sub ?_ (List.Sublist.append_left (sub_app (.refl _)) _)
  refine Ent.perm ?_ (bring (Ls := Ls9) (pre := [(b2, _)]) (R := L)).symm
  refine Seq.rd0 at4 rfl rfl (O.assign (v := .slice _ _ _) rfl) ?_
  refine Seq.nil ?_
  refine hK3 ?_
  refine Cd.ret ?_
  exact hR _ _ (Res.one (v := .slice _ _ _) rfl rfl) ⟨av7, cap8, Ls9, rfl, hoLs9, rfl⟩ (.cons _ (.refl _))

set_option maxRecDepth 100000 in
set_option maxHeartbeats 2000000 in
theorem C_copied {c : Cx} {L : List Pt} {en : Entry} {ws : List Write} (hE : SlAt c L Write_enc en.ws.a en.ws.n ws) (hb : en.ws.n ≤ 1000000000) : Fn Tryz.prog 168 #[.agg (Entry_enc en)] c L (fun v L' => ∃ av cap Ls, v = .agg (Entry_enc { en with ws := ⟨av, en.ws.n, cap⟩ }) ∧ OwnSl 47 18 (rows Write_enc ws) en.ws.n (.slice av en.ws.n cap) Ls ∧ L' = Ls ++ L) := by
  refine Fn.enter Tryz.func168 rfl 8 rfl rfl (fun R hR => ?_)
  refine Cd.seq (fun K1 hK1 => ?_)
  refine Cd.region [0, 1] rfl ?_
  refine Seq.op at0 rfl (Op.new rfl (O.box (v := .agg _) rfl (cs := (Entry_enc en)) rfl) ?_)
  intro b2 hb2
  refine Seq.op at1 rfl (Op.new rfl (O.alloc zo_27 (cs := (Entry_enc Entry.zero)) rfl) ?_)
  intro b3 hb3
  refine Seq.nil ?_
  refine hK1 ?_
  refine Cd.seq (fun K4 hK4 => ?_)
  refine Cd.region [0, 1, 2, 3, 4] rfl ?_
  refine Seq.rd0 at0 rfl rfl (O.field fo_27_3 rfl) ?_
  refine Seq.rd1 at1 rfl rfl (O.load kd_25 rfl (Entry_ws _)) Rd.head.cons ?_
  refine Seq.op at2 rfl (Op.callF rfl hb_222 (C_Clone_Write hE.cons.cons hb) rfl ?_)
  rintro _ _ ⟨av5, cap6, Ls7, rfl, hoLs7, rfl⟩
  refine Ent.perm ?_ (bring (Ls := Ls7) (pre := [(b3, _), (b2, _)]) (R := L)).symm
  refine Seq.rd0 at3 rfl rfl (O.field fo_27_3 rfl) ?_
  refine Seq.op at4 rfl (Op.set1 rfl (O.store1 kd_25 rfl (v := .slice _ _ _) rfl (Nat.le_of_ble_eq_true rfl) rfl (cs' := (Entry_enc { en with ws := ⟨av5, en.ws.n, cap6⟩ })) (by kernel_rfl)) ?_)
  refine Seq.nil ?_
  refine hK4 ?_
  refine Cd.seq (fun K8 hK8 => ?_)
  refine Cd.region [0, 1] rfl ?_
  refine Seq.rd1 at0 rfl rfl (O.loadA kd_27 rfl (Nat.le_of_ble_eq_true rfl) (Entry_all _)) Rd.head.cons ?_
  refine Seq.op at1 rfl (Op.set0 rfl (O.store kd_27 rfl (v := .agg _) rfl (Entry_size _) (Entry_room (Entry_size _)) (Entry_one _) (Entry_put _ (Entry_size _))) ?_)
  refine Seq.nil ?_
  refine hK8 ?_
  refine Cd.ret ?_
  exact hR _ _ (Res.cell (out := #[]) rfl kd_27 rfl Rd.head rfl) ⟨av5, cap6, Ls7, rfl, hoLs7, rfl⟩ (.cons _ (.cons _ (.refl _)))

end Go.X

namespace Go.X
open Go.Proofs
theorem fo_249_1 : fieldOff Tryz.prog 249 1 = some 1 := by kernel_rfl
theorem hb_199 : hasBody Tryz.prog 199 = true := by kernel_rfl
theorem hb_201 : hasBody Tryz.prog 201 = true := by kernel_rfl
theorem hb_207 : hasBody Tryz.prog 207 = true := by kernel_rfl
set_option maxRecDepth 100000 in
set_option maxHeartbeats 2000000 in
theorem C_mapsKeys_chain {c : Cx} {L : List Pt} {mb : Nat} : Fn Tryz.prog 201 #[.map (some mb)] c L (fun v L' => ∃ bb, c.w0.heap.size ≤ bb ∧ v = .func (.func 239) #[] #[.pointer (some ⟨bb, 0, none⟩)] ∧ L' = (bb, .cells #[.map (some mb)] 243 (0, 0)) :: L) := by
  refine Fn.enter Tryz.func201 rfl 4 rfl rfl (fun R hR => ?_)
  refine Cd.seq (fun K1 hK1 => ?_)
  refine Cd.region [0, 1] rfl ?_
  refine Seq.op at0 rfl (Op.new rfl (O.box (v := .map _) rfl rfl) ?_)
  intro b2 hb2
  refine Seq.rd0 at1 rfl rfl (O.assign (v := .nilFunc) rfl) ?_
  refine Seq.nil ?_
  refine hK1 ?_
  refine Cd.seq (fun K3 hK3 => ?_)
  refine Cd.region [0, 1] rfl ?_
  refine Seq.rd0 at0 rfl rfl (O.mkFunc (fs' := #[]) (cs' := #[.pointer (some ⟨b2, 0, none⟩)]) (by kernel_rfl) (by kernel_rfl)) ?_
  refine Seq.rd0 at1 rfl rfl (O.assign (v := .func _ _ _) rfl) ?_
  refine Seq.nil ?_
  refine hK3 ?_
  refine Cd.ret ?_
  exact hR _ _ (Res.one (v := .func _ _ _) rfl rfl) ⟨b2, hb2, rfl, rfl⟩ (.refl _)

set_option maxRecDepth 100000 in
set_option maxHeartbeats 2000000 in
theorem C_mapsKeys_hold {c : Cx} {L : List Pt} {mb : Nat} : Fn Tryz.prog 207 #[.map (some mb)] c L (fun v L' => ∃ bb, c.w0.heap.size ≤ bb ∧ v = .func (.func 241) #[] #[.pointer (some ⟨bb, 0, none⟩)] ∧ L' = (bb, .cells #[.map (some mb)] 247 (0, 0)) :: L) := by
  refine Fn.enter Tryz.func207 rfl 4 rfl rfl (fun R hR => ?_)
  refine Cd.seq (fun K1 hK1 => ?_)
  refine Cd.region [0, 1] rfl ?_
  refine Seq.op at0 rfl (Op.new rfl (O.box (v := .map _) rfl rfl) ?_)
  intro b2 hb2
  refine Seq.rd0 at1 rfl rfl (O.assign (v := .nilFunc) rfl) ?_
  refine Seq.nil ?_
  refine hK1 ?_
  refine Cd.seq (fun K3 hK3 => ?_)
  refine Cd.region [0, 1] rfl ?_
  refine Seq.rd0 at0 rfl rfl (O.mkFunc (fs' := #[]) (cs' := #[.pointer (some ⟨b2, 0, none⟩)]) (by kernel_rfl) (by kernel_rfl)) ?_
  refine Seq.rd0 at1 rfl rfl (O.assign (v := .func _ _ _) rfl) ?_
  refine Seq.nil ?_
  refine hK3 ?_
  refine Cd.ret ?_
  exact hR _ _ (Res.one (v := .func _ _ _) rfl rfl) ⟨b2, hb2, rfl, rfl⟩ (.refl _)

set_option maxRecDepth 100000 in
set_option maxHeartbeats 2000000 in
theorem C_store_Keys {c : Cx} {L : List Pt} {sb : Nat} {l : List (Key × CV)} (hS : StAt c L sb l) : Fn Tryz.prog 135 #[.pointer (some ⟨sb, 0, none⟩)] c L (fun v L' => ∃ ys Ls, ys.Perm (l.map Prod.fst) ∧ KOrd ys ∧ OwnK ys v Ls ∧ L' = Ls ++ L) := by
  have hSz := hS.size
  obtain ⟨⟨mb, es, ck, hsb, hmb, hm⟩, hch, _⟩ := id hS
  refine Fn.enter Tryz.func135 rfl 9 rfl rfl (fun R hR => ?_)
  refine Cd.seq (fun K1 hK1 => ?_)
  refine Cd.region [0] rfl ?_
  refine Seq.rd0 at0 rfl rfl (O.assign (v := .slice _ _ _) rfl) ?_
  refine Seq.nil ?_
  refine hK1 ?_
  refine Cd.seq (fun K2 hK2 => ?_)
  refine Cd.region [0, 1, 2, 3, 4, 5, 6] rfl ?_
  refine Seq.rd0 at0 rfl rfl (O.move (v := .pointer _) rfl) ?_
  refine Seq.rd0 at1 rfl rfl (O.nilP rfl) ?_
  refine Seq.rd0 at2 rfl rfl (O.field fo_245_0 rfl) ?_
  refine Seq.rd1 at3 rfl rfl (O.load kd_243 rfl r1_0) hsb ?_
  refine Seq.op at4 rfl (Op.callF rfl hb_201 C_mapsKeys_chain rfl ?_)
  rintro _ _ ⟨bb3, hbb3, rfl, rfl⟩
  refine Seq.op at5 rfl (Op.callF rfl hb_199 (C_SortedFunc_Key (gf := 239) (lb := [.pointer (some ⟨bb3, 0, none⟩)]) hSz (by kernel_rfl) (C_keysChain hm Rd.head hmb.cons) (fun _ h => Nat.le_of_eq (h.length_eq.trans (List.length_map _)))) rfl ?_)
  rintro v4 _ ⟨xs5, ys6, Ls7, hSxs5, hpys6, hoys6, hwys6, rfl⟩
  refine Ent.perm ?_ (bring (Ls := Ls7) (pre := [(bb3, _)]) (R := L)).symm
  refine Seq.rd0 at6 rfl rfl (O.assign (v := v4) rfl) ?_
  refine Seq.nil ?_
  refine hK2 ?_
  refine Cd.ret ?_
  exact hR _ _ (Res.one (v := v4) rfl rfl) ⟨ys6, Ls7, hpys6.trans hSxs5, hoys6, hwys6, rfl⟩ (.cons _ (.refl _))

theorem kk_i64 : IsKey Tryz.prog 2 i64V := isKey_I64 (by kernel_rfl)
/-- an entry, and its writes -/
abbrev EV := Entry × List Write
def evV (x : EV) : Value := .agg (Entry_enc x.1)
def i64z : I64 := ⟨0, by decide⟩
def evz : EV := (.zero, [])
def intV (x : Int) : Value := .int .i64 x
/-- a table that can be read -/
structure TbAt (c : Cx) (L : List Pt) (tb : Nat) (el : List (I64 × EV)) (hl : List (Key × I64)) : Prop where
  ex : ∃ lm es1 ck1 hm es2 ck2, Rd c L tb (.cells #[.map (some lm), .map (some hm)] 249 (0, 0)) ∧ Rd c L lm (.map es1 ck1) ∧ MapIs i64V evV es1 ck1 el ∧ Rd c L hm (.map es2 ck2) ∧ MapIs keyV i64V es2 ck2 hl
  ws : ∀ id q, alook el id = some q → SlAt c L Write_enc q.1.ws.a q.1.ws.n q.2 ∧ q.2.length ≤ 16
  size : el.length ≤ 1000000000 ∧ hl.length ≤ 1000000000
theorem TbAt.sub {c : Cx} {L L' : List Pt} {tb : Nat} {el : List (I64 × EV)} {hl : List (Key × I64)} (h : TbAt c L tb el hl) (hs : L.Sublist L') : TbAt c L' tb el hl := by
  obtain ⟨⟨lm, es1, ck1, hm, es2, ck2, h1, h2, h3, h4, h5⟩, h6, h7⟩ := h
  exact ⟨⟨lm, es1, ck1, hm, es2, ck2, h1.sub hs, h2.sub hs, h3, h4.sub hs, h5⟩, fun id q hq => ⟨(h6 id q hq).1.sub hs, (h6 id q hq).2⟩, h7⟩
theorem TbAt.cons {c : Cx} {L : List Pt} {tb : Nat} {el : List (I64 × EV)} {hl : List (Key × I64)} {p : Pt} (h : TbAt c L tb el hl) : TbAt c (p :: L) tb el hl := h.sub (List.sublist_cons_self _ _)
theorem TbAt.app {c : Cx} {L G : List Pt} {tb : Nat} {el : List (I64 × EV)} {hl : List (Key × I64)} (h : TbAt c L tb el hl) : TbAt c (G ++ L) tb el hl := h.sub (List.sublist_append_right _ _)

set_option maxRecDepth 100000 in
set_option maxHeartbeats 2000000 in
theorem C_prep_Keys {c : Cx} {L : List Pt} {tb : Nat} {el : List (I64 × EV)} {hl : List (Key × I64)} (hT : TbAt c L tb el hl) : Fn Tryz.prog 141 #[.pointer (some ⟨tb, 0, none⟩)] c L (fun v L' => ∃ ys Ls, ys.Perm (hl.map Prod.fst) ∧ KOrd ys ∧ OwnK ys v Ls ∧ L' = Ls ++ L) := by
  obtain ⟨hT1, hT2⟩ := hT.size
  obtain ⟨⟨lm, es1, ck1, hm, es2, ck2, htb, hlm, hM1, hhm, hM2⟩, hws, _⟩ := id hT
  refine Fn.enter Tryz.func141 rfl 9 rfl rfl (fun R hR => ?_)
  refine Cd.seq (fun K1 hK1 => ?_)
  refine Cd.region [0] rfl ?_
  refine Seq.rd0 at0 rfl rfl (O.assign (v := .slice _ _ _) rfl) ?_
  refine Seq.nil ?_
  refine hK1 ?_
  refine Cd.seq (fun K2 hK2 => ?_)
  refine Cd.region [0, 1, 2, 3, 4, 5, 6] rfl ?_
  refine Seq.rd0 at0 rfl rfl (O.move (v := .pointer _) rfl) ?_
  refine Seq.rd0 at1 rfl rfl (O.nilP rfl) ?_
  refine Seq.rd0 at2 rfl rfl (O.field fo_249_1 rfl) ?_
  refine Seq.rd1 at3 rfl rfl (O.load kd_247 rfl r2_1) htb ?_
  refine Seq.op at4 rfl (Op.callF rfl hb_207 C_mapsKeys_hold rfl ?_)
  rintro _ _ ⟨bb3, hbb3, rfl, rfl⟩
  refine Seq.op at5 rfl (Op.callF rfl hb_199 (C_SortedFunc_Key (gf := 241) (lb := [.pointer (some ⟨bb3, 0, none⟩)]) hT2 (by kernel_rfl) (C_keysHold hM2 Rd.head hhm.cons) (fun _ h => Nat.le_of_eq (h.length_eq.trans (List.length_map _)))) rfl ?_)
  rintro v4 _ ⟨xs5, ys6, Ls7, hSxs5, hpys6, hoys6, hwys6, rfl⟩
  refine Ent.perm ?_ (bring (Ls := Ls7) (pre := [(bb3, _)]) (R := L)).symm
  refine Seq.rd0 at6 rfl rfl (O.assign (v := v4) rfl) ?_
  refine Seq.nil ?_
  refine hK2 ?_
  refine Cd.ret ?_
  exact hR _ _ (Res.one (v := v4) rfl rfl) ⟨ys6, Ls7, hpys6.trans hSxs5, hoys6, hwys6, rfl⟩ (.cons _ (.refl _))

end Go.X

namespace Go.X
open Go.Proofs
theorem ds_246 : isDesc Tryz.prog 246 = 6 := by kernel_rfl
theorem fo_249_0 : fieldOff Tryz.prog 249 0 = some 0 := by kernel_rfl
theorem hb_246 : hasBody Tryz.prog 246 = true := by kernel_rfl
theorem kd_246 : kindOf Tryz.prog 246 = some (false, 1) := by kernel_rfl
/-- a closure that tells p of a write, in L and in whatever is more -/
def PredOk (P : Program) (c : Cx) (L : List Pt) (f : FuncId) (cs : List Value) (p : Write → Bool) : Prop :=
  hasBody P f = true ∧ ∀ (x : Write) (L' : List Pt), L.Sublist L' → Fn P f (.agg (Write_enc x) :: cs).toArray c L' (fun v L'' => v = .bool (p x) ∧ L'' = L')
theorem take_next {ws : List Write} {p : Write → Bool} {i : Nat} (hi : i < ws.length) (h : ∀ w ∈ ws.take i, p w = false) (hp : p ws[i] = false) : ∀ w ∈ ws.take (i + 1), p w = false := by
  intro w hw
  rw [List.take_add_one, List.getElem?_eq_getElem hi] at hw
  simp only [Option.toList_some, List.mem_append, List.mem_singleton] at hw
  rcases hw with hw | rfl
  · exact h w hw
  · exact hp
theorem any_none {ws : List Write} {p : Write → Bool} {i : Nat} (hi : i = ws.length) (h : ∀ w ∈ ws.take i, p w = false) : ws.any p = false := by
  subst hi; rw [List.take_length] at h; rw [List.any_eq_false]; intro x hx; rw [h x hx]; decide
theorem any_some {ws : List Write} {p : Write → Bool} {i : Nat} (hi : i < ws.length) (h : p ws[i] = true) : ws.any p = true := List.any_eq_true.2 ⟨_, List.getElem_mem hi, h⟩

set_option maxRecDepth 100000 in
set_option maxHeartbeats 2000000 in
theorem C_IndexFunc {c : Cx} {L : List Pt} {av : Option Addr} {nw cw : Nat} {ws : List Write} (hW : SlAt c L Write_enc av nw ws) {pf : FuncId} {cs : List Value} {p : Write → Bool} (hP : PredOk Tryz.prog c L pf cs p) : Fn Tryz.prog 246 #[.slice av nw cw, .func (.func pf) #[] cs.toArray] c L (fun v L' => ∃ r : Int, v = .int .i64 r ∧ (0 ≤ r ↔ ws.any p = true) ∧ L' = L) := by
  have hwl := hW.len
  have hwt := hW.lt
  refine Fn.enter Tryz.func246 rfl 19 rfl rfl (fun R hR => ?_)
  refine Cd.seq (fun K1 hK1 => ?_)
  refine Cd.region [0] rfl ?_
  refine Seq.rd0 at0 rfl rfl (O.assign (v := .int .i64 _) rfl) ?_
  refine Seq.nil ?_
  refine hK1 ?_
  refine Cd.seq (fun K2 hK2 => ?_)
  refine Cd.seq (fun K3 hK3 => ?_)
  refine Cd.region [0, 1, 2] rfl ?_
  refine Seq.rd0 at0 rfl rfl (O.move (v := .slice _ _ _) rfl) ?_
  refine Seq.rd0 at1 rfl rfl (O.lenS ds_25 rfl) ?_
  refine Seq.rd0 at2 rfl rfl (O.move (v := .int .i64 _) rfl) ?_
  refine Seq.nil ?_
  refine hK3 ?_
  refine Cd.block ?_
  refine Cd.loop (fun m4 e5 L6 => ∃ i : Nat, m4 = ws.length - i ∧ e5 0 = .slice av nw cw ∧ e5 1 = .func (.func pf) #[] cs.toArray ∧ e5 7 = .int .i64 (nw : Int) ∧ e5 8 = .int .i64 (i : Int) ∧ L6 = L ∧ i ≤ ws.length ∧ (∀ w ∈ ws.take i, p w = false)) _ ⟨0, rfl, rfl, rfl, rfl, rfl, rfl, Nat.zero_le _, fun w hw => by simp at hw⟩ ?_
  rintro _ e5 _ ⟨i, rfl, s7, s8, s9, s10, rfl, hi, hz⟩ K11 hK11
  refine Cd.seq (fun K12 hK12 => ?_)
  refine Cd.region [0] rfl ?_
  refine Seq.rd0 at0 rfl rfl (O.lss (by exact s10) (by exact s9)) ?_
  refine Seq.nil ?_
  refine hK12 ?_
  refine Cd.seq (fun K13 hK13 => ?_)
  refine Cd.if ((i : Int) < (nw : Int)) rfl (fun t14 => ?_) (fun t14 => ?_)
  · skip
    refine Cd.skip ?_
    refine hK13 ?_
    refine Cd.seq (fun K15 hK15 => ?_)
    refine Cd.block ?_
    refine Cd.seq (fun K16 hK16 => ?_)
    refine Cd.region [0, 1] rfl ?_
    refine Seq.rd0 at0 rfl rfl (O.move (v := .int .i64 _) (by exact s10)) ?_
    refine Seq.rd0 at1 rfl rfl (O.assign (v := .int .i64 _) rfl) ?_
    refine Seq.nil ?_
    refine hK16 ?_
    refine Cd.seq (fun K17 hK17 => ?_)
    refine Cd.region [0, 1, 2, 3, 4, 5] rfl ?_
    refine Seq.rd0 at0 rfl rfl (O.move (v := (.func (.func pf) #[] cs.toArray)) (by exact s8)) ?_
    refine Seq.rd0 at1 rfl rfl (O.move (v := .slice _ _ _) (by exact s7)) ?_
    refine Seq.rd0 at2 rfl rfl (O.move (v := .int .i64 _) rfl) ?_
    have hlt18 : i < ws.length := by omega
    obtain ⟨pre18, sp18, el18, fz18, hav18, hrd18⟩ := hW.at_ hlt18
    refine Seq.rd0 at3 rfl rfl (O.indexG sl_25 rfl hav18 rfl (by omega) (by omega)) ?_
    refine Seq.rd1 at4 rfl rfl (O.loadA kd_47 rfl (rowRoomP Write_size (getN hlt18)) (rowAtP Write_size (getN hlt18))) hrd18 ?_
    refine Seq.op at5 rfl (Op.callV rfl hP.1 rfl (hP.2 _ _ (.refl _)) (by simp; rfl) ?_)
    rintro _ _ ⟨rfl, rfl⟩
    refine Seq.nil ?_
    refine hK17 ?_
    refine Cd.cond ((p ws[i])) rfl (fun t19 => ?_) (fun t19 => ?_)
    · skip
      refine Cd.seq (fun K20 hK20 => ?_)
      refine Cd.region [0, 1] rfl ?_
      refine Seq.rd0 at0 rfl rfl (O.move (v := .int .i64 _) rfl) ?_
      refine Seq.rd0 at1 rfl rfl (O.assign (v := .int .i64 _) rfl) ?_
      refine Seq.nil ?_
      refine hK20 ?_
      refine Cd.ret ?_
      exact hR _ _ (Res.one (v := .int .i64 _) rfl rfl) ⟨_, rfl, by rw [any_some hlt18 (by assumption)]; constructor <;> intro _ <;> first | rfl | omega, rfl⟩ (.refl _)
    · skip
      refine Cd.skip ?_
      refine hK15 ?_
      refine Cd.region [0, 1] rfl ?_
      refine Seq.rd0 at0 rfl rfl (O.add (by exact s10) rfl (by omega) (by omega)) ?_
      refine Seq.rd0 at1 rfl rfl (O.move (v := .int .i64 _) rfl) ?_
      refine Seq.nil ?_
      exact hK11 _ (by omega) ⟨i + 1, rfl, (by exact s7), (by exact s8), (by exact s9), rfl, rfl, by omega, take_next hlt18 hz (by assumption)⟩
  · skip
    refine Cd.exit ?_
    refine hK2 ?_
    refine Cd.seq (fun K21 hK21 => ?_)
    refine Cd.region [0] rfl ?_
    refine Seq.rd0 at0 rfl rfl (O.assign (v := .int .i64 _) rfl) ?_
    refine Seq.nil ?_
    refine hK21 ?_
    refine Cd.ret ?_
    exact hR _ _ (Res.one (v := .int .i64 _) rfl rfl) ⟨_, rfl, by rw [any_none (by omega) hz]; decide, rfl⟩ (.refl _)

set_option maxRecDepth 100000 in
set_option maxHeartbeats 2000000 in
theorem C_ContainsFunc {c : Cx} {L : List Pt} {av : Option Addr} {nw cw : Nat} {ws : List Write} (hW : SlAt c L Write_enc av nw ws) {pf : FuncId} {cs : List Value} {p : Write → Bool} (hP : PredOk Tryz.prog c L pf cs p) : Fn Tryz.prog 219 #[.slice av nw cw, .func (.func pf) #[] cs.toArray] c L (fun v L' => v = .bool (ws.any p) ∧ L' = L) := by
  refine Fn.enter Tryz.func219 rfl 9 rfl rfl (fun R hR => ?_)
  refine Cd.seq (fun K1 hK1 => ?_)
  refine Cd.region [0] rfl ?_
  refine Seq.rd0 at0 rfl rfl (O.assign (v := .bool _) rfl) ?_
  refine Seq.nil ?_
  refine hK1 ?_
  refine Cd.seq (fun K2 hK2 => ?_)
  refine Cd.region [0, 1, 2, 3, 4] rfl ?_
  refine Seq.rd0 at0 rfl rfl (O.move (v := .slice _ _ _) rfl) ?_
  refine Seq.rd0 at1 rfl rfl (O.move (v := (.func (.func pf) #[] cs.toArray)) rfl) ?_
  refine Seq.op at2 rfl (Op.callF rfl hb_246 (C_IndexFunc hW hP) rfl ?_)
  rintro _ _ ⟨r1, rfl, hr1, rfl⟩
  refine Seq.rd0 at3 rfl rfl (O.geq rfl rfl) ?_
  refine Seq.rd0 at4 rfl rfl (O.assign (v := .bool _) rfl) ?_
  refine Seq.nil ?_
  refine hK2 ?_
  refine Cd.ret ?_
  exact hR _ _ (Res.one (v := .bool _) rfl rfl) ⟨by rw [show decide ((0 : Int) ≤ r1) = ws.any p by rw [Bool.eq_iff_iff, decide_eq_true_eq]; exact hr1], rfl⟩ (.refl _)

set_option maxRecDepth 100000 in
set_option maxHeartbeats 2000000 in
theorem C_prep_Full {c : Cx} {L : List Pt} {tb : Nat} {el : List (I64 × EV)} {hl : List (Key × I64)} (hT : TbAt c L tb el hl) : Fn Tryz.prog 167 #[.pointer (some ⟨tb, 0, none⟩)] c L (fun v L' => v = .bool (decide (100 ≤ el.length)) ∧ L' = L) := by
  obtain ⟨hT1, hT2⟩ := hT.size
  obtain ⟨⟨lm, es1, ck1, hm, es2, ck2, htb, hlm, hM1, hhm, hM2⟩, hws, _⟩ := id hT
  refine Fn.enter Tryz.func167 rfl 9 rfl rfl (fun R hR => ?_)
  refine Cd.seq (fun K1 hK1 => ?_)
  refine Cd.region [0] rfl ?_
  refine Seq.rd0 at0 rfl rfl (O.assign (v := .bool _) rfl) ?_
  refine Seq.nil ?_
  refine hK1 ?_
  refine Cd.seq (fun K2 hK2 => ?_)
  refine Cd.region [0, 1, 2, 3, 4, 5, 6] rfl ?_
  refine Seq.rd0 at0 rfl rfl (O.move (v := .pointer _) rfl) ?_
  refine Seq.rd0 at1 rfl rfl (O.nilP rfl) ?_
  refine Seq.rd0 at2 rfl rfl (O.field fo_249_0 rfl) ?_
  refine Seq.rd1 at3 rfl rfl (O.load kd_246 rfl r2_0) htb ?_
  refine Seq.rd1 at4 rfl rfl (O.lenM ds_246 rfl) hlm ?_
  refine Seq.rd0 at5 rfl rfl (O.geq rfl rfl) ?_
  refine Seq.rd0 at6 rfl rfl (O.assign (v := .bool _) rfl) ?_
  refine Seq.nil ?_
  refine hK2 ?_
  refine Cd.ret ?_
  exact hR _ _ (Res.one (v := .bool _) rfl rfl) ⟨by have h1 := hM1.size; congr 1; rw [decide_eq_decide]; omega, rfl⟩ (.refl _)

end Go.X
