/- The order of keys. -/
import Derived.Sort.Statements
import Derived.Shelf.SlSortCmp.Insertion
import Derived.Test.YthifdialndcemaaGreatProg
import Derived.Shelf.GgSortFunc.InsertionK
import Derived.Shelf.SlSortCmp.WholeK
import Derived.Shelf.SlLaysF0
import Derived.Shelf.SlGeneric
import Derived.Ground.SlsfProg
import Derived.Shelf.SlSortCmp.NoneTotal
import Derived.Laws.Cover3
import Derived.Test.YthifdialndcemaaGreatS2
set_option linter.unusedVariables false
set_option linter.unusedSimpArgs false

namespace Go.X
open Go.Lib Go.Sort
theorem cb_eq : ∀ (a b : List UInt8), compareBytes a b = 0 ↔ a = b
  | [], [] => by simp [compareBytes]
  | [], _ :: _ => by simp [compareBytes]
  | _ :: _, [] => by simp [compareBytes]
  | x :: a, y :: b => by
    unfold compareBytes
    split
    · rename_i h
      constructor
      · intro h2; simp at h2
      · intro h2; simp only [List.cons.injEq] at h2; rw [h2.1] at h; exact absurd h (UInt8.lt_irrefl y)
    · split
      · rename_i h1 h
        constructor
        · intro h2; simp at h2
        · intro h2; simp only [List.cons.injEq] at h2; rw [h2.1] at h; exact absurd h (UInt8.lt_irrefl y)
      · rename_i h1 h2
        have hxy : x = y := UInt8.le_antisymm (UInt8.not_lt.1 h2) (UInt8.not_lt.1 h1)
        rw [cb_eq a b]; simp [hxy]
theorem cb_swap : ∀ (a b : List UInt8), compareBytes b a = - compareBytes a b
  | [], [] => by simp [compareBytes]
  | [], _ :: _ => by simp [compareBytes]
  | _ :: _, [] => by simp [compareBytes]
  | x :: a, y :: b => by
    unfold compareBytes
    by_cases h1 : x < y
    · have h2 : ¬ y < x := fun h => UInt8.lt_irrefl x (UInt8.lt_trans h1 h)
      simp [h1, h2]
    · by_cases h2 : y < x
      · simp [h1, h2]
      · simp only [h1, h2, if_false]; exact cb_swap a b
theorem cb_trans : ∀ (a b c : List UInt8), compareBytes a b < 0 → compareBytes b c < 0 → compareBytes a c < 0
  | [], [], c, h, _ => by simp [compareBytes] at h
  | [], _ :: _, [], _, h => by simp [compareBytes] at h
  | [], _ :: _, _ :: _, _, _ => by simp [compareBytes]
  | _ :: _, [], _, h, _ => by simp [compareBytes] at h
  | _ :: _, _ :: _, [], _, h => by simp [compareBytes] at h
  | x :: a, y :: b, z :: c, h1, h2 => by
    unfold compareBytes at h1 h2 ⊢
    by_cases hxy : x < y
    · have hxz : x < z := by
        by_cases hyz : y < z
        · exact UInt8.lt_trans hxy hyz
        · by_cases hzy : z < y
          · simp [hyz, hzy] at h2
          · have : y = z := UInt8.le_antisymm (UInt8.not_lt.1 hzy) (UInt8.not_lt.1 hyz)
            rwa [← this]
      simp [hxz]
    · by_cases hyx : y < x
      · simp [hxy, hyx] at h1
      · have hex : x = y := UInt8.le_antisymm (UInt8.not_lt.1 hyx) (UInt8.not_lt.1 hxy)
        subst hex
        simp only [UInt8.lt_irrefl, if_false] at h1
        by_cases hyz : x < z
        · simp [hyz]
        · by_cases hzy : z < x
          · simp [hyz, hzy] at h2
          · simp only [hyz, hzy, if_false] at h2 ⊢
            exact cb_trans a b c h1 h2
theorem Key.cmp_eq {a b : Key} : a.cmp b = 0 ↔ a = b := by
  unfold Key.cmp; rw [cb_eq]
  exact ⟨Key.ext', fun h => by rw [h]⟩
theorem Key.cmp_swap (a b : Key) : b.cmp a = - a.cmp b := cb_swap _ _
theorem Key.cmp_trans {a b c : Key} (h1 : a.cmp b < 0) (h2 : b.cmp c < 0) : a.cmp c < 0 := cb_trans _ _ _ h1 h2
theorem Key.swo : SWO (Go.Proofs.ltOf Key.cmp) := by
  refine ⟨fun x => by simp [Go.Proofs.ltOf, (Key.cmp_eq (a := x) (b := x)).2 rfl], ?_, ?_⟩
  · intro x y z h1 h2
    simp only [Go.Proofs.ltOf, decide_eq_true_eq] at *
    exact Key.cmp_trans h1 h2
  · intro x y z h1 h2
    simp only [Go.Proofs.ltOf, decide_eq_false_iff_not] at *
    intro h3
    have e1 := Key.cmp_swap x y
    have e2 := Key.cmp_swap y z
    by_cases h4 : x.cmp y = 0
    · rw [Key.cmp_eq] at h4; subst h4; exact h2 h3
    · by_cases h5 : y.cmp z = 0
      · rw [Key.cmp_eq] at h5; subst h5; exact h1 h3
      · have h6 : z.cmp x < 0 := Key.cmp_trans (b := y) (by omega) (by omega)
        have e3 := Key.cmp_swap x z
        omega
/-- keys in order, each once -/
def KSorted (l : List Key) : Prop := l.Pairwise fun a b => a.cmp b < 0
end Go.X

namespace Go.X
open Go.Proofs
theorem ud_260 : Tryz.prog.underlying 260 = some (.slice 5) := by kernel_rfl
theorem ud_5 : Tryz.prog.underlying 5 = some (.int .u8) := by kernel_rfl
theorem ud_9 : Tryz.prog.underlying 9 = some (.string) := by kernel_rfl
theorem Key_idx {k : Key} {i : Nat} (h : i < 16) : (Key_enc k)[0 + ((i : Nat) : Int).toNat * 1]? = some (.int .u8 ((k.l.getD i 0).toNat : Int)) := by
  rw [Int.toNat_natCast, Nat.mul_one, Nat.zero_add]
  have h2 : k.l[i]? = some (k.l.getD i 0) := by simp [k.h, h]
  rw [Key_get h2]; rfl
/-- a key's bytes ahead of its first nought -/
def textK (k : Key) : List UInt8 := k.l.takeWhile (fun x => x != 0)
theorem takeWhile_take {l : List UInt8} : ∀ {i : Nat}, i ≤ l.length → (∀ j, j < i → l.getD j 0 ≠ 0) → (i = l.length ∨ l.getD i 0 = 0) → l.takeWhile (fun x => x != 0) = l.take i := by
  induction l with
  | nil => intro i h _ _; simp
  | cons x l ih =>
    intro i h h1 h2
    cases i with
    | zero =>
      simp only [List.length_cons] at h2
      have : x = 0 := by rcases h2 with h2 | h2
                         · omega
                         · simpa using h2
      simp [this]
    | succ i =>
      have hx : x ≠ 0 := by have := h1 0 (by omega); simpa using this
      simp only [List.takeWhile_cons, bne_iff_ne, ne_eq, hx, not_false_eq_true, decide_true, if_true, List.take_succ_cons]
      rw [ih (i := i) (by simpa using h) (fun j hj => by have := h1 (j + 1) (by omega); simpa using this) (by simpa using h2)]
theorem text_eq {k : Key} {i : Nat} (h : i ≤ 16) (h1 : ∀ j, j < i → k.l.getD j 0 ≠ 0) (h2 : i = 16 ∨ k.l.getD i 0 = 0) : textK k = k.l.take i :=
  takeWhile_take (by rw [k.h]; exact h) h1 (by rw [k.h]; exact h2)
theorem Key_take {k : Key} {i : Nat} (h : i ≤ 16) : (Key_enc k).extract 0 (0 + ((i : Nat) : Int).toNat) = ((k.l.take i).map byteV).toArray := by
  rw [Int.toNat_natCast, Nat.zero_add, Key_cells]
  simp [List.map_take]
theorem u8_zero {x : UInt8} (h : ((x.toNat : Nat) : Int) = 0) : x = 0 := by
  have : x.toNat = 0 := by omega
  exact UInt8.toNat_inj.1 this
theorem u8_ne {x : UInt8} (h : ¬ ((x.toNat : Nat) : Int) = 0) : x ≠ 0 := fun e => h (by rw [e]; rfl)

set_option maxRecDepth 100000 in
set_option maxHeartbeats 2000000 in
theorem C_key_text {c : Cx} {L : List Pt} {k : Key} : Fn Tryz.prog 175 #[.agg (Key_enc k)] c L (fun v L' => v = .string ⟨(textK k).toArray⟩ ∧ L' = L) := by
  refine Fn.enter Tryz.func175 rfl 17 rfl rfl (fun R hR => ?_)
  refine Cd.seq (fun K1 hK1 => ?_)
  refine Cd.region [0, 1] rfl ?_
  refine Seq.op at0 rfl (Op.new rfl (O.box (v := .agg _) rfl (cs := (Key_enc k)) rfl) ?_)
  intro b2 hb2
  refine Seq.rd0 at1 rfl rfl (O.assign (v := .string _) rfl) ?_
  refine Seq.nil ?_
  refine hK1 ?_
  refine Cd.seq (fun K3 hK3 => ?_)
  refine Cd.region [0] rfl ?_
  refine Seq.rd0 at0 rfl rfl (O.assign (v := .int .i64 _) rfl) ?_
  refine Seq.nil ?_
  refine hK3 ?_
  refine Cd.seq (fun K4 hK4 => ?_)
  refine Cd.block ?_
  refine Cd.loop (fun m5 e6 L7 => ∃ i : Nat, m5 = 16 - i ∧ e6 1 = .pointer (some ⟨b2, 0, none⟩) ∧ e6 2 = .string ⟨#[]⟩ ∧ e6 3 = .int .i64 (i : Int) ∧ L7 = (b2, .cells (Key_enc k) 45 (0, 0)) :: L ∧ i ≤ 16 ∧ (∀ j, j < i → k.l.getD j 0 ≠ 0)) _ ⟨0, rfl, rfl, rfl, rfl, rfl, Nat.zero_le _, fun j hj => absurd hj (Nat.not_lt_zero j)⟩ ?_
  rintro _ e6 _ ⟨i, rfl, s8, s9, s10, rfl, hi, hz⟩ K11 hK11
  refine Cd.seq (fun K12 hK12 => ?_)
  refine Cd.seq (fun K13 hK13 => ?_)
  refine Cd.region [0, 1, 2, 3, 4, 5, 6, 7] rfl ?_
  refine Seq.rd0 at0 rfl rfl (O.move (v := .int .i64 _) (by exact s10)) ?_
  refine Seq.rd0 at1 rfl rfl (O.lss rfl rfl) ?_
  refine Seq.rd0 at2 rfl rfl (O.move (v := .bool _) rfl) ?_
  by_cases t14 : (i : Int) < 16
  · rw [decide_eq_true t14]
    refine Seq.rd0 at3 rfl rfl (O.move (v := .int .i64 _) (by exact s10)) ?_
    refine Seq.rd0 at4 rfl rfl (O.indexA ar_45 (by exact s8) rfl (by omega) (by omega)) ?_
    refine Seq.rd1 at5 rfl rfl (O.load kd_5 rfl (Key_idx (by omega))) Rd.head ?_
    refine Seq.rd0 at6 rfl rfl (O.neI rfl rfl) ?_
    refine Seq.rd0 at7 rfl rfl (O.pickT (v := .bool _) rfl rfl) ?_
    refine Seq.nil ?_
    refine hK13 ?_
    refine Cd.ifn (((k.l.getD i 0).toNat : Int) = 0) rfl (fun t15 => ?_) (fun t15 => ?_)
    · skip
      refine Cd.skip ?_
      refine hK12 ?_
      refine Cd.block ?_
      refine Cd.region [0, 1, 2] rfl ?_
      refine Seq.rd0 at0 rfl rfl (O.move (v := .int .i64 _) (by exact s10)) ?_
      refine Seq.rd0 at1 rfl rfl (O.add rfl rfl (by omega) (by omega)) ?_
      refine Seq.rd0 at2 rfl rfl (O.assign (v := .int .i64 _) rfl) ?_
      refine Seq.nil ?_
      exact hK11 _ (by omega) ⟨i + 1, rfl, (by exact s8), (by exact s9), rfl, rfl, by omega, fun j hj => by
        rcases Nat.lt_or_ge j i with h | h
        · exact hz j h
        · rw [show j = i by omega]; exact u8_ne (by assumption)⟩
    · skip
      refine Cd.exit ?_
      refine hK4 ?_
      refine Cd.seq (fun K16 hK16 => ?_)
      refine Cd.region [0, 1, 2, 3] rfl ?_
      refine Seq.rd0 at0 rfl rfl (O.move (v := .int .i64 _) (by exact s10)) ?_
      refine Seq.rd0 at1 rfl rfl (O.sliceAH ar_45 (by exact s8) rfl (by omega) (by omega)) ?_
      refine Seq.rd1 at2 rfl rfl (O.bytesToStr ud_260 ud_5 ud_9 rfl (l := k.l.take i) (by rw [Int.toNat_natCast, Key_size]; omega) (Key_take (by omega))) Rd.head ?_
      refine Seq.rd0 at3 rfl rfl (O.assign (v := .string _) rfl) ?_
      refine Seq.nil ?_
      refine hK16 ?_
      refine Cd.ret ?_
      have ht := text_eq hi hz (by first | exact .inr (u8_zero (by assumption)) | exact .inl (by omega))
      exact hR _ _ (Res.one (v := .string _) rfl rfl) ⟨by rw [ht], rfl⟩ (.cons _ (.refl _))
  · rw [decide_eq_false t14]
    refine Seq.pass at3 rfl rfl ?_
    refine Seq.pass at4 rfl rfl ?_
    refine Seq.pass at5 rfl rfl ?_
    refine Seq.pass at6 rfl rfl ?_
    refine Seq.rd0 at7 rfl rfl (O.pickF (v := .bool _) rfl rfl) ?_
    refine Seq.nil ?_
    refine hK13 ?_
    refine Cd.condF rfl ?_
    refine Cd.exit ?_
    refine hK4 ?_
    refine Cd.seq (fun K17 hK17 => ?_)
    refine Cd.region [0, 1, 2, 3] rfl ?_
    refine Seq.rd0 at0 rfl rfl (O.move (v := .int .i64 _) (by exact s10)) ?_
    refine Seq.rd0 at1 rfl rfl (O.sliceAH ar_45 (by exact s8) rfl (by omega) (by omega)) ?_
    refine Seq.rd1 at2 rfl rfl (O.bytesToStr ud_260 ud_5 ud_9 rfl (l := k.l.take i) (by rw [Int.toNat_natCast, Key_size]; omega) (Key_take (by omega))) Rd.head ?_
    refine Seq.rd0 at3 rfl rfl (O.assign (v := .string _) rfl) ?_
    refine Seq.nil ?_
    refine hK17 ?_
    refine Cd.ret ?_
    have ht := text_eq hi hz (by first | exact .inr (u8_zero (by assumption)) | exact .inl (by omega))
    exact hR _ _ (Res.one (v := .string _) rfl rfl) ⟨by rw [ht], rfl⟩ (.cons _ (.refl _))

end Go.X

namespace Go.X
open Go.Proofs
theorem hb_251 : hasBody Tryz.prog 251 = true := by kernel_rfl
theorem x_index {e : Env} {d : Option Tmp} {ty : TypeId} {p : String} {af : Array Edge} {g : Option (Nat × Bool)} {c : Cx} {L : List Pt} {x y : Operand} {tt : Array TypeId} {l : List UInt8}
    (hx : ev e x = .string ⟨l.toArray⟩) (hy : ev e y = .int .u8 0) :
    Eg Tryz.prog e ⟨d, .call { callee := .value (.func 276), args := #[x, y], argTypes := tt }, ty, p, af, g⟩ c L (fun v L' => v = .int .i64 (Lib.indexByte l 0) ∧ L' = L) := fun w hw =>
  ⟨_, w, L, .inl (run_ext (args := [.string ⟨l.toArray⟩, .int .u8 0]) Tryz.func276 (by kernel_rfl) (by kernel_rfl) (by kernel_rfl) (r := Extern.BytealgIndexByte.indexByte) (by kernel_rfl) (by simp [hx, hy]) (v := .int .i64 (Lib.indexByte l 0)) (by
    have := Lib.run_indexByteString (P := Tryz.prog) ⟨l.toArray⟩ 0 w
    simpa using this)), ⟨rfl, rfl⟩, hw⟩
theorem ix_ge : ∀ (l : List UInt8), 0 ≤ Lib.indexByte l 0 ↔ (0 : UInt8) ∈ l
  | [] => by simp [Lib.indexByte]
  | x :: l => by
    have ih := ix_ge l
    have hg := Lib.indexByte_ge l 0
    unfold Lib.indexByte
    by_cases hx : x = 0
    · subst hx; simp
    · have h1 : (x == 0) = false := by simpa using hx
      simp only [h1, Bool.false_eq_true, if_false, List.mem_cons]
      by_cases hm : Lib.indexByte l 0 = -1
      · simp only [hm, beq_self_eq_true, if_true]
        constructor
        · intro h; omega
        · rintro (h | h)
          · exact absurd h.symm hx
          · have := ih.2 h; omega
      · have h2 : (Lib.indexByte l 0 == -1) = false := by simpa using hm
        simp only [h2, Bool.false_eq_true, if_false]
        constructor
        · intro h; exact .inr (ih.1 (by omega))
        · rintro (h | h)
          · exact absurd h.symm hx
          · have := ih.2 h; omega

set_option maxRecDepth 100000 in
set_option maxHeartbeats 2000000 in
theorem C_ilite {c : Cx} {L : List Pt} {l : List UInt8} : Fn Tryz.prog 251 #[.string ⟨l.toArray⟩, .int .u8 0] c L (fun v L' => v = .int .i64 (Lib.indexByte l 0) ∧ L' = L) := by
  refine Fn.enter Tryz.func251 rfl 8 rfl rfl (fun R hR => ?_)
  refine Cd.seq (fun K1 hK1 => ?_)
  refine Cd.region [0] rfl ?_
  refine Seq.rd0 at0 rfl rfl (O.assign (v := .int .i64 _) rfl) ?_
  refine Seq.nil ?_
  refine hK1 ?_
  refine Cd.seq (fun K2 hK2 => ?_)
  refine Cd.region [0, 1, 2, 3] rfl ?_
  refine Seq.rd0 at0 rfl rfl (O.move (v := .string _) rfl) ?_
  refine Seq.rd0 at1 rfl rfl (O.move (v := .int .u8 _) rfl) ?_
  refine Seq.op at2 rfl (Op.gen rfl (x_index rfl rfl) ?_)
  rintro _ _ ⟨rfl, rfl⟩
  refine Seq.rd0 at3 rfl rfl (O.assign (v := .int .i64 _) rfl) ?_
  refine Seq.nil ?_
  refine hK2 ?_
  refine Cd.ret ?_
  exact hR _ _ (Res.one (v := .int .i64 _) rfl rfl) ⟨rfl, rfl⟩ (.refl _)

set_option maxRecDepth 100000 in
set_option maxHeartbeats 2000000 in
theorem C_indexByte {c : Cx} {L : List Pt} {l : List UInt8} : Fn Tryz.prog 225 #[.string ⟨l.toArray⟩, .int .u8 0] c L (fun v L' => v = .int .i64 (Lib.indexByte l 0) ∧ L' = L) := by
  refine Fn.enter Tryz.func225 rfl 8 rfl rfl (fun R hR => ?_)
  refine Cd.seq (fun K1 hK1 => ?_)
  refine Cd.region [0] rfl ?_
  refine Seq.rd0 at0 rfl rfl (O.assign (v := .int .i64 _) rfl) ?_
  refine Seq.nil ?_
  refine hK1 ?_
  refine Cd.seq (fun K2 hK2 => ?_)
  refine Cd.region [0, 1, 2, 3] rfl ?_
  refine Seq.rd0 at0 rfl rfl (O.move (v := .string _) rfl) ?_
  refine Seq.rd0 at1 rfl rfl (O.move (v := .int .u8 _) rfl) ?_
  refine Seq.op at2 rfl (Op.callF rfl hb_251 C_ilite rfl ?_)
  rintro _ _ ⟨rfl, rfl⟩
  refine Seq.rd0 at3 rfl rfl (O.assign (v := .int .i64 _) rfl) ?_
  refine Seq.nil ?_
  refine hK2 ?_
  refine Cd.ret ?_
  exact hR _ _ (Res.one (v := .int .i64 _) rfl rfl) ⟨rfl, rfl⟩ (.refl _)

/-- a text as a key -/
def padK (l : List UInt8) : Key := if h : l.length ≤ 16 then ⟨l ++ List.replicate (16 - l.length) 0, by simp; omega⟩ else .zero
def okT (l : List UInt8) : Bool := decide (l ≠ [] ∧ l.length ≤ 16 ∧ (0 : UInt8) ∉ l)
def ofK (l : List UInt8) : Key := if okT l then padK l else .zero
def ofE (l : List UInt8) : Int := if okT l then 0 else 1
theorem padK_cells {l : List UInt8} (h : l.length ≤ 16) : putL (Key_enc .zero) 0 (((⟨l.toArray⟩ : ByteArray).extract 0 (Nat.min (⟨l.toArray⟩ : ByteArray).size 16)).data.map fun b => (Value.int .u8 b.toNat)).toList = Key_enc (padK l) := by
  have hs : (⟨l.toArray⟩ : ByteArray).size = l.length := by simp [ByteArray.size]
  have hx : ((⟨l.toArray⟩ : ByteArray).extract 0 (Nat.min (⟨l.toArray⟩ : ByteArray).size 16)).data.toList = l := by
    rw [hs, show Nat.min l.length 16 = l.length from Nat.min_eq_left h]
    simp [ByteArray.data_extract]
  have h1 : (((⟨l.toArray⟩ : ByteArray).extract 0 (Nat.min (⟨l.toArray⟩ : ByteArray).size 16)).data.map fun b => (Value.int .u8 b.toNat)).toList = l.map byteV := by
    rw [Array.toList_map, hx]; rfl
  rw [h1]
  apply Array.ext'
  have := putL_mid (l.map byteV) [] ((List.replicate l.length 0).map byteV) ((List.replicate (16 - l.length) 0).map byteV) (Key_enc .zero) (by
    rw [Key_cells, List.nil_append, ← List.map_append, List.replicate_append_replicate]
    rw [show l.length + (16 - l.length) = 16 by omega]
    rfl) (by simp)
  simp only [List.length_nil, List.nil_append] at this
  rw [this, Key_cells]
  unfold padK
  rw [dif_pos h]
  simp

end Go.X

namespace Go.X
open Go.Proofs
theorem ds_9 : isDesc Tryz.prog 9 = 3 := by kernel_rfl
theorem hb_225 : hasBody Tryz.prog 225 = true := by kernel_rfl
theorem sl_260 : sliceOf Tryz.prog 260 = some (5, 1) := by kernel_rfl
theorem bytes_size {l : List UInt8} : (⟨l.toArray⟩ : ByteArray).size = l.length := by simp [ByteArray.size]
theorem bytes_nil {l : List UInt8} : (⟨l.toArray⟩ : ByteArray) = ⟨#[]⟩ ↔ l = [] := by
  constructor
  · intro h; have := congrArg ByteArray.size h; rw [bytes_size] at this; exact List.length_eq_zero_iff.1 this
  · rintro rfl; rfl
theorem bad1 {l : List UInt8} (h : (⟨l.toArray⟩ : ByteArray) = ⟨#[]⟩) : okT l = false := by
  rw [bytes_nil] at h; subst h; rfl
theorem bad2 {l : List UInt8} (h : (16 : Int) < ((⟨l.toArray⟩ : ByteArray).size : Int)) : okT l = false := by
  rw [bytes_size] at h; unfold okT; rw [decide_eq_false_iff_not]; rintro ⟨_, h2, _⟩; omega
theorem bad3 {l : List UInt8} (h : (0 : Int) ≤ Lib.indexByte l 0) : okT l = false := by
  rw [ix_ge] at h; unfold okT; rw [decide_eq_false_iff_not]; rintro ⟨_, _, h3⟩; exact h3 h
theorem okT_of {l : List UInt8} (h1 : ¬ (⟨l.toArray⟩ : ByteArray) = ⟨#[]⟩) (h2 : ¬ (16 : Int) < ((⟨l.toArray⟩ : ByteArray).size : Int)) (h3 : ¬ (0 : Int) ≤ Lib.indexByte l 0) : okT l = true := by
  rw [bytes_nil] at h1; rw [bytes_size] at h2; rw [ix_ge] at h3; unfold okT; rw [decide_eq_true_eq]; exact ⟨h1, by omega, h3⟩
theorem of_bad {l : List UInt8} (h : okT l = false) : ofK l = .zero ∧ ofE l = 1 := by unfold ofK ofE; simp [h]
theorem of_ok {l : List UInt8} (h : okT l = true) : ofK l = padK l ∧ ofE l = 0 := by unfold ofK ofE; simp [h]
theorem okT_len {l : List UInt8} (h : okT l = true) : l.length ≤ 16 := by unfold okT at h; rw [decide_eq_true_eq] at h; exact h.2.1
theorem str_one {l : List UInt8} {m : Nat} : ∀ u ∈ (((⟨l.toArray⟩ : ByteArray).extract 0 m).data.map fun b => (Value.int .u8 b.toNat)).toList, Value.oneCell' u = true := by
  intro u hu; rw [Array.toList_map] at hu; obtain ⟨a, _, rfl⟩ := List.mem_map.1 hu; rfl
theorem str_room {l : List UInt8} (h : l.length ≤ 16) : 0 + (((⟨l.toArray⟩ : ByteArray).extract 0 (Nat.min (⟨l.toArray⟩ : ByteArray).size 16)).data.map fun b => (Value.int .u8 b.toNat)).size ≤ (Key_enc Key.zero).size := by
  have h1 : ((⟨l.toArray⟩ : ByteArray).extract 0 (Nat.min (⟨l.toArray⟩ : ByteArray).size 16)).data.size ≤ 16 := by
    rw [bytes_size, show Nat.min l.length 16 = l.length from Nat.min_eq_left h]
    simp [ByteArray.data_extract]; omega
  rw [Nat.zero_add, Array.size_map, Key_size]; exact h1

set_option maxRecDepth 100000 in
set_option maxHeartbeats 2000000 in
theorem C_key_Of {c : Cx} {L : List Pt} {l : List UInt8} : Fn Tryz.prog 174 #[.string ⟨l.toArray⟩] c L (fun v L' => v = .tuple #[.agg (Key_enc (ofK l)), .int .i64 (ofE l)] ∧ L' = L) := by
  refine Fn.enter Tryz.func174 rfl 22 rfl rfl (fun R hR => ?_)
  refine Cd.seq (fun K1 hK1 => ?_)
  refine Cd.region [0, 1] rfl ?_
  refine Seq.op at0 rfl (Op.new rfl (O.alloc zo_45 (cs := (Key_enc Key.zero)) rfl) ?_)
  intro b2 hb2
  refine Seq.rd0 at1 rfl rfl (O.assign (v := .int .i64 _) rfl) ?_
  refine Seq.nil ?_
  refine hK1 ?_
  refine Cd.seq (fun K3 hK3 => ?_)
  refine Cd.region [0] rfl ?_
  refine Seq.op at0 rfl (Op.new rfl (O.alloc zo_45 (cs := (Key_enc Key.zero)) rfl) ?_)
  intro b4 hb4
  refine Seq.nil ?_
  refine hK3 ?_
  refine Cd.seq (fun K5 hK5 => ?_)
  refine Cd.seq (fun K6 hK6 => ?_)
  refine Cd.region [0, 1, 2, 3, 4, 5, 6, 7, 8, 9, 10, 11] rfl ?_
  refine Seq.rd0 at0 rfl rfl (O.move (v := .string _) rfl) ?_
  refine Seq.rd0 at1 rfl rfl (O.eqS rfl rfl) ?_
  refine Seq.rd0 at2 rfl rfl (O.move (v := .bool _) rfl) ?_
  by_cases t7 : (⟨l.toArray⟩ : ByteArray) = ⟨#[]⟩
  · rw [decide_eq_true t7]
    refine Seq.pass at3 rfl rfl ?_
    refine Seq.pass at4 rfl rfl ?_
    refine Seq.pass at5 rfl rfl ?_
    refine Seq.rd0 at6 rfl rfl (O.pickT (v := .bool _) rfl rfl) ?_
    refine Seq.rd0 at7 rfl rfl (O.move (v := .bool _) rfl) ?_
    refine Seq.pass at8 rfl rfl ?_
    refine Seq.pass at9 rfl rfl ?_
    refine Seq.pass at10 rfl rfl ?_
    refine Seq.rd0 at11 rfl rfl (O.pickT (v := .bool _) rfl rfl) ?_
    refine Seq.nil ?_
    refine hK6 ?_
    refine Cd.condT rfl ?_
    refine Cd.seq (fun K8 hK8 => ?_)
    refine Cd.region [0, 1, 2] rfl ?_
    refine Seq.rd1 at0 rfl rfl (O.loadA kd_45 rfl (Nat.le_of_ble_eq_true rfl) (Key_all _)) Rd.head ?_
    refine Seq.op at1 rfl (Op.set1 rfl (O.store kd_45 rfl (v := .agg _) rfl (Key_size _) (Key_room (Key_size _)) (Key_one _) (Key_put _ (Key_size _))) ?_)
    refine Seq.rd0 at2 rfl rfl (O.assign (v := .int .i64 _) rfl) ?_
    refine Seq.nil ?_
    refine hK8 ?_
    refine Cd.ret ?_
    exact hR _ _ (Res.cell2 (v := .int .i64 _) rfl kd_45 rfl rfl Rd.head.cons rfl) ⟨by have hb : okT l = false := (by first | exact bad1 (by assumption) | exact bad2 (by assumption) | exact bad3 (by assumption)); rw [(of_bad hb).1, (of_bad hb).2], rfl⟩ (.cons _ (.cons _ (.refl _)))
  · rw [decide_eq_false t7]
    refine Seq.rd0 at3 rfl rfl (O.move (v := .string _) rfl) ?_
    refine Seq.rd0 at4 rfl rfl (O.lenT ds_9 rfl) ?_
    refine Seq.rd0 at5 rfl rfl (O.gtr rfl rfl) ?_
    refine Seq.rd0 at6 rfl rfl (O.pickF (v := .bool _) rfl rfl) ?_
    refine Seq.rd0 at7 rfl rfl (O.move (v := .bool _) rfl) ?_
    by_cases t9 : (16 : Int) < ((⟨l.toArray⟩ : ByteArray).size : Int)
    · rw [decide_eq_true t9]
      refine Seq.pass at8 rfl rfl ?_
      refine Seq.pass at9 rfl rfl ?_
      refine Seq.pass at10 rfl rfl ?_
      refine Seq.rd0 at11 rfl rfl (O.pickT (v := .bool _) rfl rfl) ?_
      refine Seq.nil ?_
      refine hK6 ?_
      refine Cd.condT rfl ?_
      refine Cd.seq (fun K10 hK10 => ?_)
      refine Cd.region [0, 1, 2] rfl ?_
      refine Seq.rd1 at0 rfl rfl (O.loadA kd_45 rfl (Nat.le_of_ble_eq_true rfl) (Key_all _)) Rd.head ?_
      refine Seq.op at1 rfl (Op.set1 rfl (O.store kd_45 rfl (v := .agg _) rfl (Key_size _) (Key_room (Key_size _)) (Key_one _) (Key_put _ (Key_size _))) ?_)
      refine Seq.rd0 at2 rfl rfl (O.assign (v := .int .i64 _) rfl) ?_
      refine Seq.nil ?_
      refine hK10 ?_
      refine Cd.ret ?_
      exact hR _ _ (Res.cell2 (v := .int .i64 _) rfl kd_45 rfl rfl Rd.head.cons rfl) ⟨by have hb : okT l = false := (by first | exact bad1 (by assumption) | exact bad2 (by assumption) | exact bad3 (by assumption)); rw [(of_bad hb).1, (of_bad hb).2], rfl⟩ (.cons _ (.cons _ (.refl _)))
    · rw [decide_eq_false t9]
      refine Seq.rd0 at8 rfl rfl (O.move (v := .string _) rfl) ?_
      refine Seq.op at9 rfl (Op.callF rfl hb_225 C_indexByte rfl ?_)
      rintro _ _ ⟨rfl, rfl⟩
      refine Seq.rd0 at10 rfl rfl (O.geq rfl rfl) ?_
      refine Seq.rd0 at11 rfl rfl (O.pickF (v := .bool _) rfl rfl) ?_
      refine Seq.nil ?_
      refine hK6 ?_
      refine Cd.if ((0 : Int) ≤ (Lib.indexByte l 0)) rfl (fun t11 => ?_) (fun t11 => ?_)
      · skip
        refine Cd.seq (fun K12 hK12 => ?_)
        refine Cd.region [0, 1, 2] rfl ?_
        refine Seq.rd1 at0 rfl rfl (O.loadA kd_45 rfl (Nat.le_of_ble_eq_true rfl) (Key_all _)) Rd.head ?_
        refine Seq.op at1 rfl (Op.set1 rfl (O.store kd_45 rfl (v := .agg _) rfl (Key_size _) (Key_room (Key_size _)) (Key_one _) (Key_put _ (Key_size _))) ?_)
        refine Seq.rd0 at2 rfl rfl (O.assign (v := .int .i64 _) rfl) ?_
        refine Seq.nil ?_
        refine hK12 ?_
        refine Cd.ret ?_
        exact hR _ _ (Res.cell2 (v := .int .i64 _) rfl kd_45 rfl rfl Rd.head.cons rfl) ⟨by have hb : okT l = false := (by first | exact bad1 (by assumption) | exact bad2 (by assumption) | exact bad3 (by assumption)); rw [(of_bad hb).1, (of_bad hb).2], rfl⟩ (.cons _ (.cons _ (.refl _)))
      · skip
        refine Cd.skip ?_
        refine hK5 ?_
        refine Cd.seq (fun K13 hK13 => ?_)
        refine Cd.region [0, 1, 2] rfl ?_
        have hok := okT_of (l := l) (by assumption) (by assumption) (by assumption)
        refine Seq.rd0 at0 rfl rfl (O.sliceA ar_45 rfl) ?_
        refine Seq.rd0 at1 rfl rfl (O.move (v := .string _) rfl) ?_
        refine Seq.op at2 rfl (Op.gen rfl (O.copy sl_260 rfl (by exact SrcR.str) str_one (str_room (okT_len hok)) (padK_cells (okT_len hok))) ?_)
        rintro _ _ ⟨rfl, rfl⟩
        refine Seq.nil ?_
        refine hK13 ?_
        refine Cd.seq (fun K14 hK14 => ?_)
        refine Cd.region [0, 1, 2] rfl ?_
        refine Seq.rd1 at0 rfl rfl (O.loadA kd_45 rfl (Nat.le_of_ble_eq_true rfl) (Key_all _)) Rd.head ?_
        refine Seq.op at1 rfl (Op.set1 rfl (O.store kd_45 rfl (v := .agg _) rfl (Key_size _) (Key_room (Key_size _)) (Key_one _) (Key_put _ (Key_size _))) ?_)
        refine Seq.rd0 at2 rfl rfl (O.assign (v := .int .i64 _) rfl) ?_
        refine Seq.nil ?_
        refine hK14 ?_
        refine Cd.ret ?_
        exact hR _ _ (Res.cell2 (v := .int .i64 _) rfl kd_45 rfl rfl Rd.head.cons rfl) ⟨by rw [(of_ok hok).1, (of_ok hok).2], rfl⟩ (.cons _ (.cons _ (.refl _)))

end Go.X

/- The engine, part 11: the kit's contract of slices.SortFunc, at owned rows. -/
namespace Go.X
open Go.Sort Go.Proofs
section
variable {P : Program} {c : Cx} {L : List Pt}

theorem heap_ext {w w' : World} (h1 : w'.heap = w.heap) (h2 : w'.tape = w.tape) (h3 : w'.drawn = w.drawn) (h4 : w'.os = w.os) (h5 : w'.output = w.output) : w' = w := by
  cases w; cases w'; simp_all
theorem Mod.grow {w w' : World} (h : Mod (fun _ => False) w w') : ∃ q os', w' = grow (w.drewN q) os' := by
  refine ⟨w'.drawn - w.drawn, w'.heap.extract w.heap.size w'.heap.size, heap_ext ?_ h.tape ?_ h.os h.output⟩
  · show w'.heap = w.heap ++ w'.heap.extract w.heap.size w'.heap.size
    apply Array.ext_getElem?
    intro i
    by_cases hi : i < w.heap.size
    · rw [Array.getElem?_append_left hi]
      exact h.block i hi (fun f => f)
    · rw [Array.getElem?_append_right (by omega)]
      by_cases hi2 : i < w'.heap.size
      · have := h.size
        simp [hi2, show i - w.heap.size < w'.heap.size - w.heap.size by omega, show w.heap.size + (i - w.heap.size) = i by omega]
      · rw [Array.getElem?_eq_none (by omega), Array.getElem?_eq_none (by simp; omega)]
  · show w'.drawn = w.drawn + (w'.drawn - w.drawn)
    have := h.drawn
    omega

theorem St.grow {w : World} (h : St c L w) (os : Array Obj) : St c L (Sort.grow w os) := by
  have hget : ∀ k, k < w.heap.size → (Sort.grow w os).heap[k]? = w.heap[k]? := fun k hk => by
    show (w.heap ++ os)[k]? = _
    rw [Array.getElem?_append_left hk]
  refine ⟨⟨h.mod.os, h.mod.tape, h.mod.output, h.mod.drawn, ?_, ?_⟩, h.nd, fun p hp => (hget _ (h.lt hp)).trans (h.look p hp), h.own⟩
  · show _ ≤ (w.heap ++ os).size
    rw [Array.size_append]; have := h.mod.size; omega
  · intro k hk hf
    rw [hget k (Nat.lt_of_lt_of_le hk h.mod.size)]
    exact h.mod.block k hk hf

variable {α : Type} [Inhabited α] {enc : α → Array Value} {k : Nat}
theorem flatK_rows (hs : ∀ x, (enc x).size = k) (d : Array α) : flatK (fun x => (enc x).toList) k d = rows enc d.toList := by
  apply Array.ext_getElem?
  intro t
  by_cases ht : t < d.size * k
  · have hk0 : 0 < k := by
      rcases Nat.eq_zero_or_pos k with h | h
      · subst h; omega
      · exact h
    have hq : t / k < d.size := Nat.div_lt_of_lt_mul (by rwa [Nat.mul_comm])
    have hg := get_flatK (fun x => (enc x).toList) k d t ht
    have hr := rows_get hs (l := d.toList) (i := t / k) (x := d[t / k]) (sp := #[]) (by simp [hq]) (t % k) (Nat.mod_lt _ hk0)
    rw [Nat.div_add_mod' t k, Array.append_empty] at hr
    rw [hr]
    have h1 : t < (flatK (fun x => (enc x).toList) k d).size := by simpa using ht
    rw [getElem!_pos _ t h1, getElem!_pos d _ hq] at hg
    have h2 : t % k < (enc d[t / k]).toList.length := by simp only [Array.length_toList, hs]; exact Nat.mod_lt _ hk0
    rw [getElem!_pos _ (t % k) h2] at hg
    rw [Array.getElem?_eq_getElem h1, hg]
    simp at h2
    simp [h2]
  · rw [Array.getElem?_eq_none (by simpa using Nat.not_lt.1 ht), Array.getElem?_eq_none (by rw [rows_size hs]; simpa using Nat.not_lt.1 ht)]

theorem mapBlock_blk {w : World} {b : Nat} {F0 F sp : Array Value} {el : TypeId} {fz : Nat × Nat} (hb : w.heap[b]? = some (.cells (F0 ++ sp) el fz)) (hs : F0.size = F.size) :
    mapBlock w b (putCells id 0 F) = setBlk w b (.cells (F ++ sp) el fz) := by
  have hlt := lt_of_get hb
  have hput : putCells id 0 F (F0 ++ sp) = F ++ sp := by
    apply Array.ext_getElem?
    intro i
    simp only [putCells, Array.getElem?_mapIdx]
    by_cases hi : i < F.size
    · rw [Array.getElem?_append_left (by omega), Array.getElem?_append_left hi]
      simp [hi, show i < F0.size by omega]
    · rw [Array.getElem?_append_right (by omega), Array.getElem?_append_right (by omega), hs]
      cases hsp : sp[i - F.size]? <;> simp [hi]
  unfold mapBlock setBlk
  congr 1
  apply Array.ext_getElem?
  intro i
  rw [Array.getElem?_modify]
  by_cases hi : b = i
  · subst hi
    simp only [if_true, hb, Option.map_some, onCells, hput]
    simp [hlt]
  · rw [if_neg hi, Array.getElem?_setIfInBounds_ne hi]

theorem St.sorted {w : World} {b : Nat} {xs ys : List α} {sp : Array Value} {el : TypeId} (hs : ∀ x, (enc x).size = k) (h : St c ((b, .cells (rows enc xs ++ sp) el (0, 0)) :: L) w) (hl : ys.length = xs.length) (m : Nat) (os : Array Obj) :
    St c ((b, .cells (rows enc ys ++ sp) el (0, 0)) :: L) (sortWorldK (fun x => (enc x).toList) k w b 0 m ys.toArray os) := by
  unfold sortWorldK putRowK putRow
  rw [flatK_rows hs]
  have h1 : St c ((b, .cells (rows enc xs ++ sp) el (0, 0)) :: L) (Sort.ahead w m) := h.drew _ (Nat.le_add_right _ _)
  have h2 := h1.look _ (List.mem_cons_self)
  rw [mapBlock_blk (F0 := rows enc xs) (sp := sp) h2 (by rw [rows_size hs, rows_size hs]; simp [hl])]
  exact St.grow (St.set (A := []) h1) os

theorem holdsK_of {w : World} {b : Nat} {xs : List α} {sp : Array Value} {el : TypeId} (hs : ∀ x, (enc x).size = k) (h : w.heap[b]? = some (.cells (rows enc xs ++ sp) el (0, 0))) : HoldsK (fun x => (enc x).toList) k w b 0 xs.toArray := by
  unfold HoldsK Holds
  intro j hj
  rw [flatK_rows hs] at hj ⊢
  simp only [Nat.zero_add]
  refine ⟨?_, by simp [World.frozen?, h]⟩
  rw [cell_get h, Array.getElem?_append_left hj]
  simp only [id]
  rw [getElem!_pos _ j hj, Array.getElem?_eq_getElem hj]
end
end Go.X

/- The engine, part 12: slices.SortFunc. -/
namespace Go.X
open Go.Sort Go.Proofs Go.Shelf Go.RowKit Go.Lib
section
variable {P : Program} {c : Cx} {L : List Pt} {α : Type} [Inhabited α] {enc : α → Array Value} {k : Nat} {ρ : Ren}
theorem cmpLays_of {g : Nat} {cf : α → α → Int} (h : ∀ (c : Cx) (x y : α), Fn P g #[.agg (enc x), .agg (enc y)] c [] (fun v L' => v = .int .i64 (cf x y) ∧ L' = [])) (b size : Nat) (w : World) :
    CmpLays P g #[] (fun x => (enc x).toList) k cf b 0 size w := by
  intro m os dk _ x y
  have h1 := h ⟨sortWorldK (fun x => (enc x).toList) k w b 0 m dk os, fun _ => False⟩ x y _ ⟨Mod.refl _ _, by simp, by simp, by simp⟩
  simp only [Array.append_empty]
  refine Calls.mono h1 ?_
  rintro e w' ⟨v, rfl, L', ⟨rfl, rfl⟩, hst⟩
  exact ⟨rfl, hst.mod.grow⟩

theorem Fn.sortK (Lp : SlLaysF0.n6 P ρ) (aE : ∀ w, (isAgg (ρ.t 24)).run P w = .ok true w) (zE : ∀ w, (Go.sizeOf (ρ.t 24)).run P w = .ok k w) (hs : ∀ x, (enc x).size = k) (h1 : ∀ x, ∀ v ∈ (enc x).toList, Value.oneCell' v = true)
    {cf : α → α → Int} (hO : SWO (ltOf cf)) {g : Nat} (eg : hasBody P g = true) (hcmp : ∀ (c : Cx) (x y : α), Fn P g #[.agg (enc x), .agg (enc y)] c [] (fun v L' => v = .int .i64 (cf x y) ∧ L' = []))
    {b cap : Nat} {xs : List α} {sp : Array Value} {el : TypeId} {R : List Pt} (hsz : xs.length < 4611686018427387904) :
    Fn P (ρ.f 6) #[.slice (some ⟨b, 0, none⟩) xs.length cap, .func (.func g) #[] #[]] c ((b, .cells (rows enc xs ++ sp) el (0, 0)) :: R)
      (fun v L' => v = .tuple #[] ∧ ∃ ys : List α, ys.Perm xs ∧ ys.Pairwise (fun x y => ¬ cf y x < 0) ∧ L' = (b, .cells (rows enc ys ++ sp) el (0, 0)) :: R) := by
  intro w hw
  have hb := hw.look _ (List.mem_cons_self)
  have hcon := AnyQ.slices_SortFunc Lp k aE zE (fun x => (enc x).toList) (fun x => by simp [hs]) h1 cf hO g #[] b 0 cap xs.toArray w (run_callFunc eg) (cmpLays_of hcmp b _ w) (holdsK_of hs hb) (lt_of_get hb) (by simpa using hsz)
  simp only [List.size_toArray] at hcon
  refine Calls.mono hcon ?_
  rintro e w' ⟨rfl, d', n, os, hp, hsort, rfl⟩
  obtain ⟨hp1, _, hp3⟩ := hp
  simp only [List.size_toArray] at hp1
  have hperm : d'.toList.Perm xs := by
    have e1 : d'.extract 0 xs.length = d' := by rw [← hp1]; simp
    have e2 : xs.toArray.extract 0 xs.length = xs.toArray := by simp
    rwa [e1, e2] at hp3
  refine ⟨_, rfl, _, ⟨rfl, d'.toList, hperm, ?_, rfl⟩, ?_⟩
  · rw [List.pairwise_iff_getElem]
    intro i j hi hj hij
    have := hsort i j (Nat.zero_le _) hij (by simpa [hp1] using hj)
    simp only [Array.length_toList] at hi hj
    rw [getElem!_pos d' _ hj, getElem!_pos d' _ hi] at this
    simpa [ltOf] using this
  · have := St.sorted (L := R) hs hw hperm.length_eq n os
    simpa using this
end
end Go.X

/-
  DERIVED: THE SHELF's CONTRACTS AT THIS DUMP, IN PLAIN WORDS (tools/lay-plain.mjs out of 'SortLay.lean', which tools/lay-shelf.mjs wrote): THE SAME DECLARATIONS UNDER THE SAME NAMES: 'import', 'namespace', 'open', 'def', 'theorem' AND NOTHING ELSE: no command of the shelf's: FOR A HAND-IN. Each laying: the table of numbers ('.._ren') and one theorem, a field a fact of the dump's own or the kernel's comparison; each contract: ONE APPLICATION.
-/
namespace Go.Proofs
open Go.Shelf
def Tryz.sortKey_ren : Go.Shelf.Ren := ⟨fun | 6 => 237 | 15 => 232 | 14 => 274 | 28 => 263 | 29 => 264 | 20 => 294 | 21 => 295 | 22 => 296 | 23 => 297 | 24 => 298 | 25 => 299 | 26 => 300 | 27 => 301 | 46 => 308 | 47 => 286 | 48 => 287 | 49 => 309 | 50 => 310 | 57 => 312 | n => n, fun | 22 => 74 | 24 => 45 | 25 => 155 | 3 => 3 | 39 => 307 | 0 => 0 | 53 => 331 | 55 => 333 | 4 => 4 | 46 => 324 | 45 => 323 | 50 => 149 | 5 => 5 | 9 => 9 | 66 => 346 | 70 => 350 | 76 => 363 | 77 => 290 | n => n, fun | n => n⟩
theorem Tryz.sortKey : Go.Proofs.SlLaysF0.n6 Tryz.prog Tryz.sortKey_ren := {
  mixed := by kernel_rfl
  f6 := ⟨Tryz.f237.name, by decide, Tryz.func237.trans (congrArg some (by kernel_rfl))⟩
  f14 := ⟨Tryz.f274.name, by decide, Tryz.func274.trans (congrArg some (by kernel_rfl))⟩
  f15 := Tryz.func232.trans (congrArg some (by kernel_rfl))
  f20 := ⟨Tryz.f294.name, by decide, Tryz.func294.trans (congrArg some (by kernel_rfl))⟩
  f21 := ⟨Tryz.f295.name, by decide, Tryz.func295.trans (congrArg some (by kernel_rfl))⟩
  f22 := ⟨Tryz.f296.name, by decide, Tryz.func296.trans (congrArg some (by kernel_rfl))⟩
  f23 := ⟨Tryz.f297.name, by decide, Tryz.func297.trans (congrArg some (by kernel_rfl))⟩
  f24 := ⟨Tryz.f298.name, by decide, Tryz.func298.trans (congrArg some (by kernel_rfl))⟩
  f25 := ⟨Tryz.f299.name, by decide, Tryz.func299.trans (congrArg some (by kernel_rfl))⟩
  f26 := ⟨Tryz.f300.name, by decide, Tryz.func300.trans (congrArg some (by kernel_rfl))⟩
  f27 := ⟨Tryz.f301.name, by decide, Tryz.func301.trans (congrArg some (by kernel_rfl))⟩
  f28 := Tryz.func263.trans (congrArg some (by kernel_rfl))
  f29 := Tryz.func264.trans (congrArg some (by kernel_rfl))
  f46 := ⟨Tryz.f308.name, by decide, Tryz.func308.trans (congrArg some (by kernel_rfl))⟩
  f47 := Tryz.func286.trans (congrArg some (by kernel_rfl))
  f48 := Tryz.func287.trans (congrArg some (by kernel_rfl))
  f49 := ⟨Tryz.f309.name, by decide, Tryz.func309.trans (congrArg some (by kernel_rfl))⟩
  f50 := ⟨Tryz.f310.name, by decide, Tryz.func310.trans (congrArg some (by kernel_rfl))⟩
  f57 := ⟨Tryz.f312.name, by decide, Tryz.func312.trans (congrArg some (by kernel_rfl))⟩
  t0 := Tryz.underlying0
  a0 := Tryz.isAgg0
  z0 := Tryz.sizeOf0
  v0 := Tryz.zeroValue0
  t3 := Tryz.underlying3
  a3 := Tryz.isAgg3
  z3 := Tryz.sizeOf3
  v3 := Tryz.zeroValue3
  t4 := Tryz.underlying4
  a4 := Tryz.isAgg4
  z4 := Tryz.sizeOf4
  v4 := Tryz.zeroValue4
  t5 := Tryz.underlying5
  a5 := Tryz.isAgg5
  z5 := Tryz.sizeOf5
  v5 := Tryz.zeroValue5
  t9 := Tryz.underlying9
  a9 := Tryz.isAgg9
  z9 := Tryz.sizeOf9
  v9 := Tryz.zeroValue9
  t22 := Tryz.underlying74
  a22 := Tryz.isAgg74
  z22 := Tryz.sizeOf74
  v22 := Tryz.zeroValue74
  t25 := Tryz.underlying155
  a25 := Tryz.isAgg155
  z25 := Tryz.sizeOf155
  v25 := Tryz.zeroValue155
  t39 := Tryz.underlying307
  a39 := Tryz.isAgg307
  z39 := Tryz.sizeOf307
  v39 := Tryz.zeroValue307
  t45 := Tryz.underlying323
  a45 := Tryz.isAgg323
  z45 := Tryz.sizeOf323
  v45 := Tryz.zeroValue323
  t46 := Tryz.underlying324
  a46 := Tryz.isAgg324
  z46 := Tryz.sizeOf324
  v46 := Tryz.zeroValue324
  t50 := Tryz.underlying149
  a50 := Tryz.isAgg149
  z50 := Tryz.sizeOf149
  v50 := Tryz.zeroValue149
  t53 := Tryz.underlying331
  a53 := Tryz.isAgg331
  z53 := Tryz.sizeOf331
  v53 := Tryz.zeroValue331
  t55 := Tryz.underlying333
  a55 := Tryz.isAgg333
  z55 := Tryz.sizeOf333
  v55 := Tryz.zeroValue333
  t66 := Tryz.underlying346
  a66 := Tryz.isAgg346
  z66 := Tryz.sizeOf346
  v66 := Tryz.zeroValue346
  t70 := Tryz.underlying350
  a70 := Tryz.isAgg350
  z70 := Tryz.sizeOf350
  v70 := Tryz.zeroValue350
  t76 := Tryz.underlying363
  a76 := Tryz.isAgg363
  z76 := Tryz.sizeOf363
  v76 := Tryz.zeroValue363
  t77 := Tryz.underlying290
  a77 := Tryz.isAgg290
  z77 := Tryz.sizeOf290
  v77 := Tryz.zeroValue290 }
end Go.Proofs

namespace Go.X
open Go.Proofs

instance : Inhabited Key := ⟨.zero⟩
theorem aE_key (w : World) : (isAgg 45).run Tryz.prog w = .ok true w := by kernel_rfl
theorem zE_key (w : World) : (Go.sizeOf 45).run Tryz.prog w = .ok 16 w := by kernel_rfl
theorem C_SortFunc_Key {c : Cx} {R : List Pt} {b cap : Nat} {xs : List Key} {sp : Array Value} {el : TypeId} (hsz : xs.length < 4611686018427387904) :
    Fn Tryz.prog 237 #[.slice (some ⟨b, 0, none⟩) xs.length cap, .func (.func 101) #[] #[]] c ((b, .cells (rows Key_enc xs ++ sp) el (0, 0)) :: R)
      (fun v L' => v = .tuple #[] ∧ ∃ ys : List Key, ys.Perm xs ∧ ys.Pairwise (fun x y => ¬ y.cmp x < 0) ∧ L' = (b, .cells (rows Key_enc ys ++ sp) el (0, 0)) :: R) :=
  Fn.sortK (ρ := Go.Proofs.Tryz.sortKey_ren) Tryz.sortKey aE_key zE_key Key_size Key_one Key.swo (by kernel_rfl) (fun c x y => C_key_Cmp) hsz

end Go.X

namespace Go.X
open Go.Proofs
theorem hb_136 : hasBody Tryz.prog 136 = true := by kernel_rfl
theorem hb_202 : hasBody Tryz.prog 202 = true := by kernel_rfl
theorem hb_237 : hasBody Tryz.prog 237 = true := by kernel_rfl
/-- keys in order (equal ones side by side) -/
def KOrd (l : List Key) : Prop := l.Pairwise fun x y => ¬ y.cmp x < 0
/-- a slice of keys that is ours alone -/
def OwnK (xs : List Key) (v : Value) (Ls : List Pt) : Prop := OwnSl 45 16 (rows Key_enc xs) xs.length v Ls
theorem C_SortFunc_own {c : Cx} {R Ls : List Pt} {xs : List Key} {v : Value} (ho : OwnK xs v Ls) (hsz : xs.length < 4611686018427387904) :
    Fn Tryz.prog 237 #[v, .func (.func 101) #[] #[]] c (Ls ++ R) (fun v' L' => v' = .tuple #[] ∧ ∃ ys Ls', ys.Perm xs ∧ KOrd ys ∧ OwnK ys v Ls' ∧ L' = Ls' ++ R) := by
  rcases ho with ⟨h0, _, rfl, rfl⟩ | ⟨b, cap, sp, rfl, h1, h2, h3, rfl⟩
  · obtain rfl : xs = [] := List.length_eq_zero_iff.1 h0
    intro w hw
    refine Calls.mono (Go.Proofs.AnyF.slices_SortFunc_none (ρ := Go.Proofs.Tryz.sortKey_ren) Tryz.sortKey none 0 (.func (.func 101) #[] #[]) w) ?_
    rintro e w' ⟨rfl, rfl⟩
    exact ⟨_, rfl, _, ⟨rfl, [], [], .refl _, .nil, .inl ⟨rfl, rfl, rfl, rfl⟩, rfl⟩, hw⟩
  · refine Fn.mono (C_SortFunc_Key hsz) ?_
    rintro v' L' ⟨rfl, ys, hp, hs, rfl⟩
    have hl := hp.length_eq
    exact ⟨rfl, ys, [_], hp, hs, .inr ⟨b, cap, sp, by rw [hl], by omega, by rw [hl]; exact h2, rows_size Key_size ys, rfl⟩, rfl⟩

set_option maxRecDepth 100000 in
set_option maxHeartbeats 2000000 in
theorem C_Collect_Key {c : Cx} {L : List Pt} {gf : FuncId} {lb : List Value} {N : Nat} {S : List Key → Prop} (hN : N ≤ 1000000000) (hgb : hasBody Tryz.prog gf = true) (hit : IterOk Tryz.prog c keyV gf lb N S L) (hSN : ∀ xs, S xs → xs.length ≤ N) : Fn Tryz.prog 136 #[.func (.func gf) #[] lb.toArray] c L (fun v L' => ∃ xs Ls, S xs ∧ OwnK xs v Ls ∧ L' = Ls ++ L) := by
  refine Fn.enter Tryz.func136 rfl 5 rfl rfl (fun R hR => ?_)
  refine Cd.seq (fun K1 hK1 => ?_)
  refine Cd.region [0] rfl ?_
  refine Seq.rd0 at0 rfl rfl (O.assign (v := .slice _ _ _) rfl) ?_
  refine Seq.nil ?_
  refine hK1 ?_
  refine Cd.seq (fun K2 hK2 => ?_)
  refine Cd.region [0, 1, 2] rfl ?_
  refine Seq.rd0 at0 rfl rfl (O.move (v := (.func (.func gf) #[] lb.toArray)) rfl) ?_
  refine Seq.op at1 rfl (Op.callF rfl hb_202 (C_AppendSeq_Key hN hgb hit) rfl ?_)
  rintro v3 _ ⟨xs4, Ls5, hSv3, hov3, rfl⟩
  refine Seq.rd0 at2 rfl rfl (O.assign (v := v3) rfl) ?_
  refine Seq.nil ?_
  refine hK2 ?_
  refine Cd.ret ?_
  exact hR _ _ (Res.one (v := v3) rfl rfl) ⟨xs4, Ls5, hSv3, hov3, rfl⟩ (.refl _)

set_option maxRecDepth 100000 in
set_option maxHeartbeats 2000000 in
theorem C_SortedFunc_Key {c : Cx} {L : List Pt} {gf : FuncId} {lb : List Value} {N : Nat} {S : List Key → Prop} (hN : N ≤ 1000000000) (hgb : hasBody Tryz.prog gf = true) (hit : IterOk Tryz.prog c keyV gf lb N S L) (hSN : ∀ xs, S xs → xs.length ≤ N) : Fn Tryz.prog 199 #[.func (.func gf) #[] lb.toArray, .func (.func 101) #[] #[]] c L (fun v L' => ∃ xs ys Ls, S xs ∧ ys.Perm xs ∧ KOrd ys ∧ OwnK ys v Ls ∧ L' = Ls ++ L) := by
  refine Fn.enter Tryz.func199 rfl 12 rfl rfl (fun R hR => ?_)
  refine Cd.seq (fun K1 hK1 => ?_)
  refine Cd.region [0] rfl ?_
  refine Seq.rd0 at0 rfl rfl (O.assign (v := .slice _ _ _) rfl) ?_
  refine Seq.nil ?_
  refine hK1 ?_
  refine Cd.seq (fun K2 hK2 => ?_)
  refine Cd.region [0, 1, 2] rfl ?_
  refine Seq.rd0 at0 rfl rfl (O.move (v := (.func (.func gf) #[] lb.toArray)) rfl) ?_
  refine Seq.op at1 rfl (Op.callF rfl hb_136 (C_Collect_Key hN hgb hit hSN) rfl ?_)
  rintro v3 _ ⟨xs4, Ls5, hSv3, hov3, rfl⟩
  refine Seq.rd0 at2 rfl rfl (O.assign (v := v3) rfl) ?_
  refine Seq.nil ?_
  refine hK2 ?_
  refine Cd.seq (fun K6 hK6 => ?_)
  refine Cd.region [0, 1, 2] rfl ?_
  refine Seq.rd0 at0 rfl rfl (O.move (v := v3) rfl) ?_
  refine Seq.rd0 at1 rfl rfl (O.move (v := .func _ _ _) rfl) ?_
  refine Seq.op at2 rfl (Op.callF rfl hb_237 (C_SortFunc_own hov3 (by have := hSN _ hSv3; omega)) rfl ?_)
  rintro _ _ ⟨rfl, ys7, Ls8, hpys7, hsys7, hoys7, rfl⟩
  refine Seq.nil ?_
  refine hK6 ?_
  refine Cd.seq (fun K9 hK9 => ?_)
  refine Cd.region [0, 1] rfl ?_
  refine Seq.rd0 at0 rfl rfl (O.move (v := v3) rfl) ?_
  refine Seq.rd0 at1 rfl rfl (O.assign (v := v3) rfl) ?_
  refine Seq.nil ?_
  refine hK9 ?_
  refine Cd.ret ?_
  exact hR _ _ (Res.one (v := v3) rfl rfl) ⟨_, ys7, Ls8, hSv3, hpys7, hsys7, hoys7, rfl⟩ (.refl _)

end Go.X

namespace Go.X
open Go.Proofs
theorem hb_174 : hasBody Tryz.prog 174 = true := by kernel_rfl
theorem hb_175 : hasBody Tryz.prog 175 = true := by kernel_rfl
section
variable {e : Env} {d : Option Tmp} {ty : TypeId} {p : String} {af : Array Edge} {g : Option (Nat × Bool)} {x y : Operand} {t' : TypeId} {a b : Key}
theorem eqKey (hx : ev e x = .agg (Key_enc a)) (hy : ev e y = .agg (Key_enc b)) : Rn0 Tryz.prog e ⟨d, .binOp .eql 45 x y t', ty, p, af, g⟩ (.bool (decide (a = b))) :=
  O.eqK (enc := Key_enc) kk_key (m := 2) rfl (by kernel_rfl) (by kernel_rfl) (by kernel_rfl) hx hy
theorem neKey (hx : ev e x = .agg (Key_enc a)) (hy : ev e y = .agg (Key_enc b)) : Rn0 Tryz.prog e ⟨d, .binOp .neq 45 x y t', ty, p, af, g⟩ (.bool (!decide (a = b))) :=
  O.neK (enc := Key_enc) kk_key (m := 2) rfl (by kernel_rfl) (by kernel_rfl) (by kernel_rfl) hx hy
end
/-- may a key be? -/
def goodK (k : Key) : Bool := okT (textK k) && decide (ofK (textK k) = k)
theorem ofE_zero {l : List UInt8} : ofE l = 0 ↔ okT l = true := by unfold ofE; split <;> simp_all

set_option maxRecDepth 100000 in
set_option maxHeartbeats 2000000 in
theorem C_key_Good {c : Cx} {L : List Pt} {k : Key} : Fn Tryz.prog 97 #[.agg (Key_enc k)] c L (fun v L' => v = .bool (goodK k) ∧ L' = L) := by
  refine Fn.enter Tryz.func97 rfl 18 rfl rfl (fun R hR => ?_)
  refine Cd.seq (fun K1 hK1 => ?_)
  refine Cd.region [0, 1] rfl ?_
  refine Seq.op at0 rfl (Op.new rfl (O.box (v := .agg _) rfl (cs := (Key_enc k)) rfl) ?_)
  intro b2 hb2
  refine Seq.rd0 at1 rfl rfl (O.assign (v := .bool _) rfl) ?_
  refine Seq.nil ?_
  refine hK1 ?_
  refine Cd.seq (fun K3 hK3 => ?_)
  refine Cd.region [0, 1, 2, 3, 4, 5, 6, 7, 8] rfl ?_
  refine Seq.rd1 at0 rfl rfl (O.loadA kd_45 rfl (Nat.le_of_ble_eq_true rfl) (Key_all _)) Rd.head ?_
  refine Seq.op at1 rfl (Op.callF rfl hb_175 C_key_text rfl ?_)
  rintro _ _ ⟨rfl, rfl⟩
  refine Seq.op at2 rfl (Op.callF rfl hb_174 C_key_Of rfl ?_)
  rintro _ _ ⟨rfl, rfl⟩
  refine Seq.rd0 at3 rfl rfl (O.move (v := .tuple _) rfl) ?_
  refine Seq.rd0 at4 rfl rfl (O.ext rfl r2_0) ?_
  refine Seq.rd0 at5 rfl rfl (O.ext rfl r2_1) ?_
  refine Seq.op at6 rfl (Op.new rfl (O.alloc zo_45 (cs := (Key_enc Key.zero)) rfl) ?_)
  intro b4 hb4
  refine Seq.op at7 rfl (Op.set0 rfl (O.store kd_45 rfl (v := .agg _) rfl (Key_size _) (Key_room (Key_size _)) (Key_one _) (Key_put _ (Key_size _))) ?_)
  refine Seq.rd0 at8 rfl rfl (O.assign (v := .int .i64 _) rfl) ?_
  refine Seq.nil ?_
  refine hK3 ?_
  refine Cd.seq (fun K5 hK5 => ?_)
  refine Cd.region [0, 1, 2, 3, 4, 5, 6, 7] rfl ?_
  refine Seq.rd0 at0 rfl rfl (O.move (v := .int .i64 _) rfl) ?_
  refine Seq.rd0 at1 rfl rfl (O.eqI rfl rfl) ?_
  refine Seq.rd0 at2 rfl rfl (O.move (v := .bool _) rfl) ?_
  by_cases t6 : (ofE (textK k)) = 0
  · rw [decide_eq_true t6]
    refine Seq.rd1 at3 rfl rfl (O.loadA kd_45 rfl (Nat.le_of_ble_eq_true rfl) (Key_all _)) Rd.head ?_
    refine Seq.rd1 at4 rfl rfl (O.loadA kd_45 rfl (Nat.le_of_ble_eq_true rfl) (Key_all _)) Rd.head.cons ?_
    refine Seq.rd0 at5 rfl rfl (eqKey rfl rfl) ?_
    refine Seq.rd0 at6 rfl rfl (O.pickT (v := .bool _) rfl rfl) ?_
    refine Seq.rd0 at7 rfl rfl (O.assign (v := .bool _) rfl) ?_
    refine Seq.nil ?_
    refine hK5 ?_
    refine Cd.ret ?_
    exact hR _ _ (Res.one (v := .bool _) rfl rfl) ⟨by unfold goodK; rw [show okT (textK k) = true from ofE_zero.1 (by assumption), Bool.true_and]; try rfl, rfl⟩ (.cons _ (.cons _ (.refl _)))
  · rw [decide_eq_false t6]
    refine Seq.pass at3 rfl rfl ?_
    refine Seq.pass at4 rfl rfl ?_
    refine Seq.pass at5 rfl rfl ?_
    refine Seq.rd0 at6 rfl rfl (O.pickF (v := .bool _) rfl rfl) ?_
    refine Seq.rd0 at7 rfl rfl (O.assign (v := .bool _) rfl) ?_
    refine Seq.nil ?_
    refine hK5 ?_
    refine Cd.ret ?_
    exact hR _ _ (Res.one (v := .bool _) rfl rfl) ⟨by unfold goodK; rw [show okT (textK k) = false from Bool.eq_false_iff.2 (fun h => absurd (ofE_zero.2 h) (by assumption))]; try rfl, rfl⟩ (.cons _ (.cons _ (.refl _)))

end Go.X

/- The engine, part 15: look-ups with a default; slices that may be nil. -/
namespace Go.X
section
variable {P : Program} {n : Sz} {e : Env} {d : Option Tmp} {ty : TypeId} {p : String} {af : Array Edge} {g : Option (Nat × Bool)}
variable {c : Cx} {L : List Pt} {x y z : Operand} {v v' : Value}
variable {K V : Type} [DecidableEq K] {encK : K → Value} {encV : V → Value}
/-- a look-up in a map whose zero value is a value -/
theorem O.lookD {t k el b : Nat} {ok : Bool} {es : Array MapEntry} {ck : Nat} {l : List (K × V)} {a : K} (dv : V) (ht : P.underlying t = some (.map k el)) (KK : IsKey P k encK) (h : MapIs encK encV es ck l)
    (hz : zeroOf P el = some (encV dv)) (hx : ev e x = .map (some b)) (hy : ev e y = encK a) :
    Rn1 P e ⟨d, .lookup t x y ok, ty, p, af, g⟩ b (.map es ck) (if ok then .tuple #[encV ((alook l a).getD dv), .bool (alook l a).isSome] else encV ((alook l a).getD dv)) := by
  cases hl : alook l a with
  | some u => exact O.lookS ht KK h hx hy hl
  | none => exact O.lookN ht KK h hz hx hy hl

/-- the block of an address that may be none -/
def blk : Option Addr → Nat
  | some q => q.block
  | none => 0
/-- a slice that can be read: n elements xs -/
structure SlAt (c : Cx) (L : List Pt) {α : Type} (enc : α → Array Value) (av : Option Addr) (n : Nat) (xs : List α) : Prop where
  len : n = xs.length
  lt : n < 4611686018427387904
  get : xs ≠ [] → ∃ pre sp el fz, av = some ⟨blk av, Array.size pre, none⟩ ∧ Rd c L (blk av) (.cells (pre ++ (rows enc xs ++ sp)) el fz)
variable {α : Type} {enc : α → Array Value}
theorem ext_mid {pre mid sp : Array Value} : (pre ++ (mid ++ sp)).extract pre.size (pre.size + mid.size) = mid := by
  simp [Array.extract_append]
theorem SlAt.sub {L' : List Pt} {av : Option Addr} {m : Nat} {xs : List α} (h : SlAt c L enc av m xs) (hs : L.Sublist L') : SlAt c L' enc av m xs :=
  ⟨h.len, h.lt, fun hn => let ⟨pre, sp, el, fz, h1, h2⟩ := h.get hn; ⟨pre, sp, el, fz, h1, h2.sub hs⟩⟩
theorem SlAt.cons {av : Option Addr} {m : Nat} {xs : List α} {q : Pt} (h : SlAt c L enc av m xs) : SlAt c (q :: L) enc av m xs := h.sub (List.sublist_cons_self _ _)
theorem SlAt.app {G : List Pt} {av : Option Addr} {m : Nat} {xs : List α} (h : SlAt c L enc av m xs) : SlAt c (G ++ L) enc av m xs := h.sub (List.sublist_append_right _ _)
theorem SlAt.at_ {av : Option Addr} {m i : Nat} {xs : List α} (h : SlAt c L enc av m xs) (hi : i < xs.length) : ∃ pre sp el fz, av = some ⟨blk av, Array.size pre, none⟩ ∧ Rd c L (blk av) (.cells (pre ++ (rows enc xs ++ sp)) el fz) :=
  h.get (by intro e; subst e; exact absurd hi (Nat.not_lt_zero _))
theorem O.indexG {t el sz b o len cap : Nat} {av : Option Addr} {k : IntKind} {i : Int} (ht : sliceOf P t = some (el, sz)) (hx : ev e x = .slice av len cap) (hav : av = some ⟨b, o, none⟩) (hy : ev e y = .int k i)
    (h0 : 0 ≤ i) (h1 : i < len) : Rn0 P e ⟨d, .indexAddr t x y, ty, p, af, g⟩ (.pointer (some ⟨b, o + i.toNat * sz, none⟩)) := O.index ht (hx.trans (by rw [hav])) hy h0 h1
theorem SlAt.src {av : Option Addr} {m sz cap : Nat} {xs : List α} (hs : ∀ x, (enc x).size = sz) (h : SlAt c L enc av m xs) : Src c L sz (.slice av m cap) m (rows enc xs) := by
  cases xs with
  | nil => obtain rfl : m = 0 := h.len; exact .inl ⟨av, cap, rfl, rfl, by simp [rows]⟩
  | cons x l =>
    obtain ⟨pre, sp, el, fz, h1, h2⟩ := h.get (by simp)
    have hr := rows_size hs (x :: l)
    refine .inr ⟨blk av, pre.size, cap, _, _, _, by rw [← h1], h2, ?_, ?_⟩
    · rw [Array.size_append, Array.size_append, hr, h.len]; omega
    · rw [h.len, ← hr]; exact ext_mid
/-- 'append' to a slice that is ours alone, and is not nil -/
theorem O.appendTo {t t2 el sz by_ m k b0 cap0 : Nat} {zv : Value} {old new : Array Value} {Ls R : List Pt} (ht : elemInfo P t = some (el, sz, by_, zv)) (ht2 : isDesc P t2 = 5) (hby : by_ ≠ 0)
    (hx : ev e x = .slice (some ⟨b0, 0, none⟩) m cap0) (ho : OwnSl el sz old m (.slice (some ⟨b0, 0, none⟩) m cap0) Ls) (hk : Src c (Ls ++ R) sz (ev e y) k new) (hone : ∀ u ∈ new.toList, Value.oneCell' u = true)
    (hroom : (2 * (m + k) + 192) * by_ ≤ 281474976710656) :
    Eg P e ⟨d, .call { callee := .builtin .append, args := #[x, y], argTypes := #[t, t2] }, ty, p, af, g⟩ c (Ls ++ R)
      (fun v' L' => ∃ b cap Ls', v' = .slice (some ⟨b, 0, none⟩) (m + k) cap ∧ OwnSl el sz (old ++ new) (m + k) v' Ls' ∧ L' = Ls' ++ R) := by
  by_cases hk0 : 0 < k
  · refine (O.appendOwn ht ht2 hby hx ho hk hone hk0 hroom).mono ?_
    rintro v' L' ⟨Ls', h1, rfl⟩
    refine ⟨_, ?_, .refl _⟩
    rcases h1 with ⟨h0, _⟩ | ⟨b, cap, sp, rfl, h2, h3, h4, rfl⟩
    · omega
    · exact ⟨b, cap, _, rfl, .inr ⟨b, cap, sp, rfl, h2, h3, h4, rfl⟩, rfl⟩
  · obtain rfl : k = 0 := by omega
    rcases ho with ⟨_, _, hv, _⟩ | ⟨b, cap, sp, hv, h1, h2, h3, rfl⟩
    · cases hv
    · obtain ⟨hb, rfl⟩ : b0 = b ∧ cap0 = cap := by simpa using hv
      subst hb
      have hn : new = #[] := Array.eq_empty_of_size_eq_zero (by rw [hk.size]; simp)
      subst hn
      have hA := O.appendIn (d := d) (ty := ty) (p := p) (af := af) (g := g) (new := #[]) (mid := #[]) (post := sp) (L := R) (k := 0) ht ht2 hx (by simpa using hk) hone (by omega) h3 (by simp)
      simp only [Array.empty_append] at hA
      refine Eg.mono hA ?_
      rintro v' L' ⟨rfl, rfl⟩
      exact ⟨_, ⟨b0, cap0, [(b0, _)], rfl, .inr ⟨b0, cap0, sp, rfl, h1, h2, by simpa using h3, by simp⟩, rfl⟩, .refl _⟩
/-- a slice and nil -/
theorem O.eqSlNil {t t' : TypeId} {av : Option Addr} {m cap : Nat} (ht : isDesc P t = 5) (hx : ev e x = .slice av m cap) (hy : ev e y = .slice none 0 0) :
    Rn0 P e ⟨d, .binOp .eql t x y t', ty, p, af, g⟩ (.bool av.isNone) := fun w => by
  obtain ⟨el, hu⟩ := desc_slice ht
  exact run_binop hx hy rfl (run_eql rfl (run_equal_slice_nil w t el av m cap hu))
/-- an own slice can be read -/
theorem OwnSl.at_ {el sz m : Nat} {xs : List α} {Ls R : List Pt} {av : Option Addr} {cap : Nat} (h : OwnSl el sz (rows enc xs) m (.slice av m cap) Ls) (hm : m = xs.length) (hlt : m < 4611686018427387904) : SlAt c (Ls ++ R) enc av m xs := by
  refine ⟨hm, hlt, fun hn => ?_⟩
  rcases h with ⟨h0, _, hv, rfl⟩ | ⟨b, cap', sp, hv, h1, h2, h3, rfl⟩
  · rw [hm] at h0; exact absurd (List.length_eq_zero_iff.1 h0) hn
  · obtain ⟨rfl, _⟩ : av = some ⟨b, 0, none⟩ ∧ cap = cap' := by simpa using hv
    exact ⟨#[], sp, el, (0, 0), rfl, by rw [Array.empty_append]; exact .head⟩
/-! ## rows behind other cells -/
section
variable {sz : Nat}
theorem extP (hs : ∀ x, (enc x).size = sz) {pre cs : Array Value} {a b : Nat} : (pre ++ cs).extract (pre.size + a) (pre.size + b) = cs.extract a b := by
  simp [Array.extract_append]
theorem rowAtP (hs : ∀ x, (enc x).size = sz) {pre sp : Array Value} {l : List α} {i : Int} {x : α} (h : l[i.toNat]? = some x) : (pre ++ (rows enc l ++ sp)).extract (pre.size + i.toNat * sz) (pre.size + i.toNat * sz + sz) = enc x := by
  rw [Nat.add_assoc, extP hs]; exact rows_at hs h
theorem rowRoomP (hs : ∀ x, (enc x).size = sz) {pre sp : Array Value} {l : List α} {i : Int} {x : α} (h : l[i.toNat]? = some x) : pre.size + i.toNat * sz + sz ≤ (pre ++ (rows enc l ++ sp)).size := by
  have := rows_room hs (sp := sp) h
  rw [Array.size_append]; omega
end
end
end Go.X

namespace Go.X
open Go.Proofs
theorem ds_25 : isDesc Tryz.prog 25 = 5 := by kernel_rfl
theorem fo_47_0 : fieldOff Tryz.prog 47 0 = some 0 := by kernel_rfl
theorem fo_47_1 : fieldOff Tryz.prog 47 1 = some 16 := by kernel_rfl
theorem fo_47_2 : fieldOff Tryz.prog 47 2 = some 17 := by kernel_rfl
theorem hb_97 : hasBody Tryz.prog 97 = true := by kernel_rfl
theorem kd_47 : kindOf Tryz.prog 47 = some (true, 18) := by kernel_rfl
theorem mp_261 : Tryz.prog.underlying 261 = some (.map 45 4) := by kernel_rfl
theorem sl_25 : sliceOf Tryz.prog 25 = some (47, 18) := by kernel_rfl
theorem zo_4 : zeroOf Tryz.prog 4 = some (.bool false) := by kernel_rfl
theorem zo_47 : zeroOf Tryz.prog 47 = some (.agg #[.int .u8 0, .int .u8 0, .int .u8 0, .int .u8 0, .int .u8 0, .int .u8 0, .int .u8 0, .int .u8 0, .int .u8 0, .int .u8 0, .int .u8 0, .int .u8 0, .int .u8 0, .int .u8 0, .int .u8 0, .int .u8 0, .string ⟨#[]⟩, .bool false]) := by kernel_rfl
def boolV (b : Bool) : Value := .bool b
/-- may a write be? -/
def goodW (w : Write) : Bool := goodK w.key && decide (w.val.size ≤ 200) && !(w.gone && !decide (w.val = ⟨#[]⟩))
/-- may writes be, but for how many? -/
def goodWs (ws : List Write) : Bool := ws.all goodW && decide (ws.map (·.key)).Nodup
def manyWs (ws : List Write) : Bool := decide (1 ≤ ws.length ∧ ws.length ≤ 16)
theorem goodW_of {w : Write} (h1 : goodK w.key = true) (h2 : ¬ (200 : Int) < (w.val.size : Int)) (h3 : w.gone = false ∨ w.val = ⟨#[]⟩) : goodW w = true := by
  unfold goodW
  rw [h1, decide_eq_true (by omega)]
  rcases h3 with h | h <;> simp [h]
theorem badW1 {w : Write} (h1 : goodK w.key = false) : goodW w = false := by unfold goodW; simp [h1]
theorem badW2 {w : Write} (h : (200 : Int) < (w.val.size : Int)) : goodW w = false := by
  unfold goodW; rw [decide_eq_false (by omega)]; simp
theorem badW3 {w : Write} (h1 : w.gone = true) (h2 : ¬ w.val = ⟨#[]⟩) : goodW w = false := by unfold goodW; simp [h1, h2]
def seenL (ws : List Write) (i : Nat) : List (Key × Bool) := (ws.take i).map fun w => (w.key, true)
theorem seen_keys {ws : List Write} {i : Nat} : (seenL ws i).map Prod.fst = (ws.take i).map (·.key) := by simp [seenL, Function.comp_def]
theorem seen_look {ws : List Write} {i : Nat} {k : Key} (h : (alook (seenL ws i) k).getD false = true) : k ∈ (ws.take i).map (·.key) := by
  cases hl : alook (seenL ws i) k with
  | none => rw [hl] at h; cases h
  | some u => rw [← seen_keys]; exact List.mem_map.2 ⟨_, alook_mem hl, rfl⟩
theorem seen_none {ws : List Write} {i : Nat} {k : Key} (h : (alook (seenL ws i) k).getD false = false) : k ∉ (ws.take i).map (·.key) := by
  intro hm
  rw [← seen_keys] at hm
  obtain ⟨q, hq, rfl⟩ := List.mem_map.1 hm
  have hq2 : q.2 = true := by
    unfold seenL at hq; obtain ⟨w, _, rfl⟩ := List.mem_map.1 hq; rfl
  have key : ∀ l : List (Key × Bool), q ∈ l → (∀ r ∈ l, r.2 = true) → (alook l q.1).getD false = true := by
    intro l
    induction l with
    | nil => intro h; simp at h
    | cons r l ih =>
      intro hq hall
      obtain ⟨y, u⟩ := r
      unfold alook
      split
      · have := hall (y, u) (by simp); simpa using this
      · rename_i hne
        rcases List.mem_cons.1 hq with h | h
        · subst h; exact absurd rfl hne
        · exact ih h (fun r hr => hall r (by simp [hr]))
  have := key _ hq (fun r hr => by unfold seenL at hr; obtain ⟨w, _, rfl⟩ := List.mem_map.1 hr; rfl)
  rw [h] at this; cases this
theorem seen_put {ws : List Write} {i : Nat} (hi : i < ws.length) (h : (alook (seenL ws i) ws[i].key).getD false = false) : aput (seenL ws i) ws[i].key true = seenL ws (i + 1) := by
  have := seen_none h
  rw [← seen_keys] at this
  rw [(alook_none this).2.1]
  unfold seenL
  rw [List.take_add_one, List.getElem?_eq_getElem hi, List.map_append]
  rfl
theorem gw_next {ws : List Write} {i : Nat} (hi : i < ws.length) (hg : ∀ w ∈ ws.take i, goodW w = true) (h : goodW ws[i] = true) : ∀ w ∈ ws.take (i + 1), goodW w = true := by
  intro w hw
  rw [List.take_add_one, List.getElem?_eq_getElem hi] at hw
  simp only [Option.toList_some, List.mem_append, List.mem_singleton] at hw
  rcases hw with hw | rfl
  · exact hg w hw
  · exact h
theorem gw_true {ws : List Write} {i : Nat} {es : Array MapEntry} {ck : Nat} (hi : i = ws.length) (hg : ∀ w ∈ ws.take i, goodW w = true) (hM : MapIs keyV boolV es ck (seenL ws i)) : goodWs ws = true := by
  subst hi
  have h1 := hM.keys
  rw [seen_keys] at h1
  simp only [List.take_length] at h1 hg
  unfold goodWs
  rw [Bool.and_eq_true, List.all_eq_true, decide_eq_true_eq]
  exact ⟨hg, h1⟩
theorem gw_false {ws : List Write} {i : Nat} (hi : i < ws.length) (h : goodW ws[i] = false ∨ ws[i].key ∈ (ws.take i).map (·.key)) : goodWs ws = false := by
  rw [Bool.eq_false_iff]
  intro h1
  unfold goodWs at h1
  rw [Bool.and_eq_true, List.all_eq_true, decide_eq_true_eq] at h1
  rcases h with h | h
  · have := h1.1 _ (List.getElem_mem hi)
    rw [h] at this; cases this
  · have h2 := h1.2
    have h3 : ws = ws.take i ++ ws[i] :: ws.drop (i + 1) := by
      rw [← List.drop_eq_getElem_cons hi]; simp
    rw [h3, List.map_append, List.map_cons, List.nodup_append] at h2
    exact h2.2.2 _ h _ (by simp) rfl

set_option maxRecDepth 100000 in
set_option maxHeartbeats 2000000 in
theorem C_Many {c : Cx} {L : List Pt} {av : Option Addr} {nw cw : Nat} {ws : List Write} (hW : SlAt c L Write_enc av nw ws) : Fn Tryz.prog 169 #[.slice av nw cw] c L (fun v L' => v = .bool (manyWs ws) ∧ L' = L) := by
  have hwl := hW.len
  have hwt := hW.lt
  refine Fn.enter Tryz.func169 rfl 11 rfl rfl (fun R hR => ?_)
  refine Cd.seq (fun K1 hK1 => ?_)
  refine Cd.region [0] rfl ?_
  refine Seq.rd0 at0 rfl rfl (O.assign (v := .bool _) rfl) ?_
  refine Seq.nil ?_
  refine hK1 ?_
  refine Cd.seq (fun K2 hK2 => ?_)
  refine Cd.region [0, 1, 2, 3, 4, 5, 6, 7, 8] rfl ?_
  refine Seq.rd0 at0 rfl rfl (O.move (v := .slice _ _ _) rfl) ?_
  refine Seq.rd0 at1 rfl rfl (O.lenS ds_25 rfl) ?_
  refine Seq.rd0 at2 rfl rfl (O.geq rfl rfl) ?_
  refine Seq.rd0 at3 rfl rfl (O.move (v := .bool _) rfl) ?_
  by_cases t3 : (1 : Int) ≤ (nw : Int)
  · rw [decide_eq_true t3]
    refine Seq.rd0 at4 rfl rfl (O.move (v := .slice _ _ _) rfl) ?_
    refine Seq.rd0 at5 rfl rfl (O.lenS ds_25 rfl) ?_
    refine Seq.rd0 at6 rfl rfl (O.leq rfl rfl) ?_
    refine Seq.rd0 at7 rfl rfl (O.pickT (v := .bool _) rfl rfl) ?_
    refine Seq.rd0 at8 rfl rfl (O.assign (v := .bool _) rfl) ?_
    refine Seq.nil ?_
    refine hK2 ?_
    refine Cd.ret ?_
    have hb : manyWs ws = decide ((nw : Int) ≤ 16) := by unfold manyWs; rw [decide_eq_decide]; omega
    exact hR _ _ (Res.one (v := .bool _) rfl rfl) ⟨by rw [hb], rfl⟩ (.refl _)
  · rw [decide_eq_false t3]
    refine Seq.pass at4 rfl rfl ?_
    refine Seq.pass at5 rfl rfl ?_
    refine Seq.pass at6 rfl rfl ?_
    refine Seq.rd0 at7 rfl rfl (O.pickF (v := .bool _) rfl rfl) ?_
    refine Seq.rd0 at8 rfl rfl (O.assign (v := .bool _) rfl) ?_
    refine Seq.nil ?_
    refine hK2 ?_
    refine Cd.ret ?_
    have hb : manyWs ws = false := by unfold manyWs; rw [decide_eq_false_iff_not]; omega
    exact hR _ _ (Res.one (v := .bool _) rfl rfl) ⟨by rw [hb], rfl⟩ (.refl _)

set_option maxRecDepth 100000 in
set_option maxHeartbeats 2000000 in
theorem C_store_Good {c : Cx} {L : List Pt} {av : Option Addr} {nw cw : Nat} {ws : List Write} (hW : SlAt c L Write_enc av nw ws) : Fn Tryz.prog 105 #[.slice av nw cw] c L (fun v L' => v = .bool (goodWs ws) ∧ L' = L) := by
  have hwl := hW.len
  have hwt := hW.lt
  refine Fn.enter Tryz.func105 rfl 42 rfl rfl (fun R hR => ?_)
  refine Cd.seq (fun K1 hK1 => ?_)
  refine Cd.region [0] rfl ?_
  refine Seq.rd0 at0 rfl rfl (O.assign (v := .bool _) rfl) ?_
  refine Seq.nil ?_
  refine hK1 ?_
  refine Cd.seq (fun K2 hK2 => ?_)
  refine Cd.region [0, 1] rfl ?_
  refine Seq.op at0 rfl (Op.new rfl (O.makeMap) ?_)
  intro b3 hb3
  refine Seq.rd0 at1 rfl rfl (O.assign (v := .map _) rfl) ?_
  refine Seq.nil ?_
  refine hK2 ?_
  refine Cd.seq (fun K4 hK4 => ?_)
  refine Cd.seq (fun K5 hK5 => ?_)
  refine Cd.region [0, 1, 2] rfl ?_
  refine Seq.rd0 at0 rfl rfl (O.move (v := .slice _ _ _) rfl) ?_
  refine Seq.rd0 at1 rfl rfl (O.lenS ds_25 rfl) ?_
  refine Seq.rd0 at2 rfl rfl (O.move (v := .int .i64 _) rfl) ?_
  refine Seq.nil ?_
  refine hK5 ?_
  refine Cd.block ?_
  refine Cd.loop (fun m6 e7 L8 => ∃ i : Nat, ∃ es : Array MapEntry, ∃ ck : Nat, m6 = ws.length - i ∧ e7 3 = .map (some b3) ∧ e7 7 = .slice av nw cw ∧ e7 8 = .int .i64 (nw : Int) ∧ e7 9 = .int .i64 (i : Int) ∧ L8 = (b3, .map es ck) :: L ∧ i ≤ ws.length ∧ MapIs keyV boolV es ck (seenL ws i) ∧ (∀ w ∈ ws.take i, goodW w = true)) _ ⟨0, #[], 0, rfl, rfl, rfl, rfl, rfl, rfl, Nat.zero_le _, by exact MapIs.nil, fun w hw => by simp at hw⟩ ?_
  rintro _ e7 _ ⟨i, es, ck, rfl, s9, s10, s11, s12, rfl, hi, hM, hg⟩ K13 hK13
  refine Cd.seq (fun K14 hK14 => ?_)
  refine Cd.region [0] rfl ?_
  refine Seq.rd0 at0 rfl rfl (O.lss (by exact s12) (by exact s11)) ?_
  refine Seq.nil ?_
  refine hK14 ?_
  refine Cd.seq (fun K15 hK15 => ?_)
  refine Cd.if ((i : Int) < (nw : Int)) rfl (fun t16 => ?_) (fun t16 => ?_)
  · skip
    refine Cd.skip ?_
    refine hK15 ?_
    refine Cd.seq (fun K17 hK17 => ?_)
    refine Cd.block ?_
    refine Cd.seq (fun K18 hK18 => ?_)
    refine Cd.region [0, 1, 2, 3] rfl ?_
    have hlt19 : i < ws.length := by omega
    obtain ⟨pre19, sp19, el19, fz19, hav19, hrd19⟩ := hW.at_ hlt19
    refine Seq.rd0 at0 rfl rfl (O.indexG sl_25 (by exact s10) hav19 (by exact s12) (by omega) (by omega)) ?_
    refine Seq.rd1 at1 rfl rfl (O.loadA kd_47 rfl (rowRoomP Write_size (getN hlt19)) (rowAtP Write_size (getN hlt19))) hrd19.cons ?_
    refine Seq.op at2 rfl (Op.new rfl (O.alloc zo_47 (cs := (Write_enc Write.zero)) rfl) ?_)
    intro b20 hb20
    refine Seq.op at3 rfl (Op.set0 rfl (O.store kd_47 rfl (v := .agg _) rfl (Write_size _) (Write_room (Write_size _)) (Write_one _) (Write_put _ (Write_size _))) ?_)
    refine Seq.nil ?_
    refine hK18 ?_
    refine Cd.seq (fun K21 hK21 => ?_)
    refine Cd.seq (fun K22 hK22 => ?_)
    refine Cd.region [0, 1, 2, 3, 4, 5, 6, 7, 8, 9, 10, 11, 12, 13, 14, 15, 16, 17, 18, 19, 20, 21, 22, 23, 24] rfl ?_
    refine Seq.rd0 at0 rfl rfl (O.field fo_47_0 rfl) ?_
    refine Seq.rd1 at1 rfl rfl (O.loadA kd_45 rfl (Nat.le_of_ble_eq_true rfl) (Write_key _)) Rd.head ?_
    refine Seq.op at2 rfl (Op.callF rfl hb_97 C_key_Good rfl ?_)
    rintro _ _ ⟨rfl, rfl⟩
    refine Seq.rd0 at3 rfl rfl (O.not rfl) ?_
    refine Seq.rd0 at4 rfl rfl (O.move (v := .bool _) rfl) ?_
    cases t23 : goodK ws[i].key
    · skip
      refine Seq.pass at5 rfl rfl ?_
      refine Seq.pass at6 rfl rfl ?_
      refine Seq.pass at7 rfl rfl ?_
      refine Seq.pass at8 rfl rfl ?_
      refine Seq.rd0 at9 rfl rfl (O.pickT (v := .bool _) rfl rfl) ?_
      refine Seq.rd0 at10 rfl rfl (O.move (v := .bool _) rfl) ?_
      refine Seq.pass at11 rfl rfl ?_
      refine Seq.pass at12 rfl rfl ?_
      refine Seq.pass at13 rfl rfl ?_
      refine Seq.pass at14 rfl rfl ?_
      refine Seq.rd0 at15 rfl rfl (O.pickT (v := .bool _) rfl rfl) ?_
      refine Seq.rd0 at16 rfl rfl (O.move (v := .bool _) rfl) ?_
      refine Seq.pass at17 rfl rfl ?_
      refine Seq.pass at18 rfl rfl ?_
      refine Seq.pass at19 rfl rfl ?_
      refine Seq.pass at20 rfl rfl ?_
      refine Seq.pass at21 rfl rfl ?_
      refine Seq.pass at22 rfl rfl ?_
      refine Seq.pass at23 rfl rfl ?_
      refine Seq.rd0 at24 rfl rfl (O.pickT (v := .bool _) rfl rfl) ?_
      refine Seq.nil ?_
      refine hK22 ?_
      refine Cd.condT rfl ?_
      refine Cd.seq (fun K24 hK24 => ?_)
      refine Cd.region [0] rfl ?_
      refine Seq.rd0 at0 rfl rfl (O.assign (v := .bool _) rfl) ?_
      refine Seq.nil ?_
      refine hK24 ?_
      refine Cd.ret ?_
      exact hR _ _ (Res.one (v := .bool _) rfl rfl) ⟨by rw [gw_false (i := i) (by omega) (by first | exact .inr (seen_look (by assumption)) | exact .inl (badW1 (by assumption)) | exact .inl (badW2 (by assumption)) | exact .inl (badW3 (by assumption) (by assumption)))], rfl⟩ (.cons _ (.cons _ (.refl _)))
    · skip
      refine Seq.rd0 at5 rfl rfl (O.move (v := .map _) (by exact s9)) ?_
      refine Seq.rd0 at6 rfl rfl (O.field fo_47_0 rfl) ?_
      refine Seq.rd1 at7 rfl rfl (O.loadA kd_45 rfl (Nat.le_of_ble_eq_true rfl) (Write_key _)) Rd.head ?_
      refine Seq.rd1 at8 rfl rfl (O.lookD (ok := false) (encV := boolV) false mp_261 kk_key hM zo_4 rfl (by exact rfl)) Rd.head.cons ?_
      refine Seq.rd0 at9 rfl rfl (O.pickF (v := .bool _) rfl rfl) ?_
      refine Seq.rd0 at10 rfl rfl (O.move (v := .bool _) rfl) ?_
      cases t25 : ((alook (seenL ws i) ws[i].key).getD false)
      · skip
        refine Seq.rd0 at11 rfl rfl (O.field fo_47_1 rfl) ?_
        refine Seq.rd1 at12 rfl rfl (O.load kd_9 rfl (Write_val _)) Rd.head ?_
        refine Seq.rd0 at13 rfl rfl (O.lenT ds_9 rfl) ?_
        refine Seq.rd0 at14 rfl rfl (O.gtr rfl rfl) ?_
        refine Seq.rd0 at15 rfl rfl (O.pickF (v := .bool _) rfl rfl) ?_
        refine Seq.rd0 at16 rfl rfl (O.move (v := .bool _) rfl) ?_
        by_cases t26 : (200 : Int) < (ws[i].val.size : Int)
        · rw [decide_eq_true t26]
          refine Seq.pass at17 rfl rfl ?_
          refine Seq.pass at18 rfl rfl ?_
          refine Seq.pass at19 rfl rfl ?_
          refine Seq.pass at20 rfl rfl ?_
          refine Seq.pass at21 rfl rfl ?_
          refine Seq.pass at22 rfl rfl ?_
          refine Seq.pass at23 rfl rfl ?_
          refine Seq.rd0 at24 rfl rfl (O.pickT (v := .bool _) rfl rfl) ?_
          refine Seq.nil ?_
          refine hK22 ?_
          refine Cd.condT rfl ?_
          refine Cd.seq (fun K27 hK27 => ?_)
          refine Cd.region [0] rfl ?_
          refine Seq.rd0 at0 rfl rfl (O.assign (v := .bool _) rfl) ?_
          refine Seq.nil ?_
          refine hK27 ?_
          refine Cd.ret ?_
          exact hR _ _ (Res.one (v := .bool _) rfl rfl) ⟨by rw [gw_false (i := i) (by omega) (by first | exact .inr (seen_look (by assumption)) | exact .inl (badW1 (by assumption)) | exact .inl (badW2 (by assumption)) | exact .inl (badW3 (by assumption) (by assumption)))], rfl⟩ (.cons _ (.cons _ (.refl _)))
        · rw [decide_eq_false t26]
          refine Seq.rd0 at17 rfl rfl (O.field fo_47_2 rfl) ?_
          refine Seq.rd1 at18 rfl rfl (O.load kd_4 rfl (Write_gone _)) Rd.head ?_
          refine Seq.rd0 at19 rfl rfl (O.move (v := .bool _) rfl) ?_
          cases t28 : ws[i].gone
          · skip
            refine Seq.pass at20 rfl rfl ?_
            refine Seq.pass at21 rfl rfl ?_
            refine Seq.pass at22 rfl rfl ?_
            refine Seq.rd0 at23 rfl rfl (O.pickF (v := .bool _) rfl rfl) ?_
            refine Seq.rd0 at24 rfl rfl (O.pickF (v := .bool _) rfl rfl) ?_
            refine Seq.nil ?_
            refine hK22 ?_
            refine Cd.condF rfl ?_
            refine Cd.skip ?_
            refine hK21 ?_
            refine Cd.region [0, 1, 2, 3] rfl ?_
            refine Seq.rd0 at0 rfl rfl (O.move (v := .map _) (by exact s9)) ?_
            refine Seq.rd0 at1 rfl rfl (O.field fo_47_0 rfl) ?_
            refine Seq.rd1 at2 rfl rfl (O.loadA kd_45 rfl (Nat.le_of_ble_eq_true rfl) (Write_key _)) Rd.head ?_
            refine Seq.op at3 rfl (Op.gen rfl (O.mapSet (encV := boolV) (u := true) mp_261 kk_key hM rfl (by exact rfl) rfl (A := [(b20, _)]) rfl) ?_)
            rintro _ _ ⟨rfl, es', ck', hM', rfl⟩
            refine Seq.nil ?_
            refine hK17 ?_
            refine Cd.region [0, 1] rfl ?_
            refine Seq.rd0 at0 rfl rfl (O.add (by exact s12) rfl (by omega) (by omega)) ?_
            refine Seq.rd0 at1 rfl rfl (O.move (v := .int .i64 _) rfl) ?_
            refine Seq.nil ?_
            refine Ent.drop ?_
            exact hK13 _ (by omega) ⟨i + 1, es', ck', rfl, (by exact s9), (by exact s10), (by exact s11), rfl, rfl, by omega, by rw [seen_put hlt19 (by assumption)] at hM'; exact hM', gw_next hlt19 hg (goodW_of (by assumption) (by assumption) (by first | exact .inl (by assumption) | exact .inr (by assumption)))⟩
          · skip
            refine Seq.rd0 at20 rfl rfl (O.field fo_47_1 rfl) ?_
            refine Seq.rd1 at21 rfl rfl (O.load kd_9 rfl (Write_val _)) Rd.head ?_
            refine Seq.rd0 at22 rfl rfl (O.neS rfl rfl) ?_
            refine Seq.rd0 at23 rfl rfl (O.pickT (v := .bool _) rfl rfl) ?_
            refine Seq.rd0 at24 rfl rfl (O.pickF (v := .bool _) rfl rfl) ?_
            refine Seq.nil ?_
            refine hK22 ?_
            refine Cd.ifn (ws[i].val = ⟨#[]⟩) rfl (fun t29 => ?_) (fun t29 => ?_)
            · skip
              refine Cd.seq (fun K30 hK30 => ?_)
              refine Cd.region [0] rfl ?_
              refine Seq.rd0 at0 rfl rfl (O.assign (v := .bool _) rfl) ?_
              refine Seq.nil ?_
              refine hK30 ?_
              refine Cd.ret ?_
              exact hR _ _ (Res.one (v := .bool _) rfl rfl) ⟨by rw [gw_false (i := i) (by omega) (by first | exact .inr (seen_look (by assumption)) | exact .inl (badW1 (by assumption)) | exact .inl (badW2 (by assumption)) | exact .inl (badW3 (by assumption) (by assumption)))], rfl⟩ (.cons _ (.cons _ (.refl _)))
            · skip
              refine Cd.skip ?_
              refine hK21 ?_
              refine Cd.region [0, 1, 2, 3] rfl ?_
              refine Seq.rd0 at0 rfl rfl (O.move (v := .map _) (by exact s9)) ?_
              refine Seq.rd0 at1 rfl rfl (O.field fo_47_0 rfl) ?_
              refine Seq.rd1 at2 rfl rfl (O.loadA kd_45 rfl (Nat.le_of_ble_eq_true rfl) (Write_key _)) Rd.head ?_
              refine Seq.op at3 rfl (Op.gen rfl (O.mapSet (encV := boolV) (u := true) mp_261 kk_key hM rfl (by exact rfl) rfl (A := [(b20, _)]) rfl) ?_)
              rintro _ _ ⟨rfl, es', ck', hM', rfl⟩
              refine Seq.nil ?_
              refine hK17 ?_
              refine Cd.region [0, 1] rfl ?_
              refine Seq.rd0 at0 rfl rfl (O.add (by exact s12) rfl (by omega) (by omega)) ?_
              refine Seq.rd0 at1 rfl rfl (O.move (v := .int .i64 _) rfl) ?_
              refine Seq.nil ?_
              refine Ent.drop ?_
              exact hK13 _ (by omega) ⟨i + 1, es', ck', rfl, (by exact s9), (by exact s10), (by exact s11), rfl, rfl, by omega, by rw [seen_put hlt19 (by assumption)] at hM'; exact hM', gw_next hlt19 hg (goodW_of (by assumption) (by assumption) (by first | exact .inl (by assumption) | exact .inr (by assumption)))⟩
      · skip
        refine Seq.pass at11 rfl rfl ?_
        refine Seq.pass at12 rfl rfl ?_
        refine Seq.pass at13 rfl rfl ?_
        refine Seq.pass at14 rfl rfl ?_
        refine Seq.rd0 at15 rfl rfl (O.pickT (v := .bool _) rfl rfl) ?_
        refine Seq.rd0 at16 rfl rfl (O.move (v := .bool _) rfl) ?_
        refine Seq.pass at17 rfl rfl ?_
        refine Seq.pass at18 rfl rfl ?_
        refine Seq.pass at19 rfl rfl ?_
        refine Seq.pass at20 rfl rfl ?_
        refine Seq.pass at21 rfl rfl ?_
        refine Seq.pass at22 rfl rfl ?_
        refine Seq.pass at23 rfl rfl ?_
        refine Seq.rd0 at24 rfl rfl (O.pickT (v := .bool _) rfl rfl) ?_
        refine Seq.nil ?_
        refine hK22 ?_
        refine Cd.condT rfl ?_
        refine Cd.seq (fun K31 hK31 => ?_)
        refine Cd.region [0] rfl ?_
        refine Seq.rd0 at0 rfl rfl (O.assign (v := .bool _) rfl) ?_
        refine Seq.nil ?_
        refine hK31 ?_
        refine Cd.ret ?_
        exact hR _ _ (Res.one (v := .bool _) rfl rfl) ⟨by rw [gw_false (i := i) (by omega) (by first | exact .inr (seen_look (by assumption)) | exact .inl (badW1 (by assumption)) | exact .inl (badW2 (by assumption)) | exact .inl (badW3 (by assumption) (by assumption)))], rfl⟩ (.cons _ (.cons _ (.refl _)))
  · skip
    refine Cd.exit ?_
    refine hK4 ?_
    refine Cd.seq (fun K32 hK32 => ?_)
    refine Cd.region [0] rfl ?_
    refine Seq.rd0 at0 rfl rfl (O.assign (v := .bool _) rfl) ?_
    refine Seq.nil ?_
    refine hK32 ?_
    refine Cd.ret ?_
    exact hR _ _ (Res.one (v := .bool _) rfl rfl) ⟨by rw [gw_true (by omega) hg hM], rfl⟩ (.cons _ (.refl _))

end Go.X

namespace Go.X
open Go.Proofs
theorem hb_105 : hasBody Tryz.prog 105 = true := by kernel_rfl
theorem hb_169 : hasBody Tryz.prog 169 = true := by kernel_rfl
theorem hb_98 : hasBody Tryz.prog 98 = true := by kernel_rfl
theorem kd_25 : kindOf Tryz.prog 25 = some (false, 1) := by kernel_rfl
/-- may an entry be, but for its stamp? may it be? -/
def mayE (e : Entry) (ws : List Write) : Bool := decide (1 ≤ e.id) && (e.snap.good && (manyWs ws && goodWs ws))
def goodE (e : Entry) (ws : List Write) : Bool := mayE e ws && (e.stamp.good && decide (0 < e.stamp.cmp e.snap))

end Go.X

namespace Go.X
open Go.Proofs
theorem ei_239 : elemInfo Tryz.prog 239 = some (242, 4, 40, .agg #[.int .i64 0, .int .u8 0, .string ⟨#[]⟩, .bool false]) := by kernel_rfl
theorem ei_25 : elemInfo Tryz.prog 25 = some (47, 18, 40, .agg #[.int .u8 0, .int .u8 0, .int .u8 0, .int .u8 0, .int .u8 0, .int .u8 0, .int .u8 0, .int .u8 0, .int .u8 0, .int .u8 0, .int .u8 0, .int .u8 0, .int .u8 0, .int .u8 0, .int .u8 0, .int .u8 0, .string ⟨#[]⟩, .bool false]) := by kernel_rfl
theorem SlAt.nil {c : Cx} {L : List Pt} {α : Type} {enc : α → Array Value} {av : Option Addr} {n : Nat} {xs : List α} (h : SlAt c L enc av n xs) (hn : av.isNone = true) : n = 0 ∧ xs = [] := by
  cases xs with
  | nil => exact ⟨h.len, rfl⟩
  | cons x l =>
    obtain ⟨pre, sp, el, fz, h1, _⟩ := h.get (by simp)
    rw [h1] at hn; cases hn

theorem rows_ones {α : Type} {enc : α → Array Value} (h : ∀ x, ∀ u ∈ (Value.agg (enc x)).cells.toList, Value.oneCell' u = true) {xs : List α} : ∀ u ∈ (rows enc xs).toList, Value.oneCell' u = true := by
  intro u hu
  simp only [rows, List.mem_flatMap] at hu
  obtain ⟨x, _, h2⟩ := hu
  exact h x u h2

set_option maxRecDepth 100000 in
set_option maxHeartbeats 2000000 in
theorem C_Clone_Version {c : Cx} {L : List Pt} {av : Option Addr} {n cap : Nat} {xs : List Version} (hX : SlAt c L Version_enc av n xs) (hb : n ≤ 1000000000) : Fn Tryz.prog 240 #[.slice av n cap] c L (fun v L' => ∃ av' cap' Ls, v = .slice av' n cap' ∧ OwnSl 242 4 (rows Version_enc xs) n v Ls ∧ L' = Ls ++ L) := by
  refine Fn.enter Tryz.func240 rfl 8 rfl rfl (fun R hR => ?_)
  refine Cd.seq (fun K1 hK1 => ?_)
  refine Cd.region [0] rfl ?_
  refine Seq.rd0 at0 rfl rfl (O.assign (v := .slice _ _ _) rfl) ?_
  refine Seq.nil ?_
  refine hK1 ?_
  refine Cd.seq (fun K2 hK2 => ?_)
  refine Cd.seq (fun K3 hK3 => ?_)
  refine Cd.region [0, 1] rfl ?_
  refine Seq.rd0 at0 rfl rfl (O.move (v := .slice _ _ _) rfl) ?_
  refine Seq.rd0 at1 rfl rfl (O.eqSlNil ds_239 rfl rfl) ?_
  refine Seq.nil ?_
  refine hK3 ?_
  refine Cd.cond (av.isNone) rfl (fun t4 => ?_) (fun t4 => ?_)
  · skip
    refine Cd.seq (fun K5 hK5 => ?_)
    refine Cd.region [0] rfl ?_
    refine Seq.rd0 at0 rfl rfl (O.assign (v := .slice _ _ _) rfl) ?_
    refine Seq.nil ?_
    refine hK5 ?_
    refine Cd.ret ?_
    exact hR _ _ (Res.one (v := .slice _ _ _) rfl rfl) ⟨none, 0, [], by rw [(hX.nil (by assumption)).1], by obtain ⟨h1, h2⟩ := hX.nil (by assumption); subst h2; exact .inl ⟨h1, rfl, rfl, rfl⟩, rfl⟩ (.refl _)
  · skip
    refine Cd.skip ?_
    refine hK2 ?_
    refine Cd.seq (fun K6 hK6 => ?_)
    refine Cd.region [0, 1, 2, 3] rfl ?_
    refine Seq.op at0 rfl (Op.new rfl (O.buildSlice (el := 242) rfl (cs := (rows Version_enc [])) (by kernel_rfl)) ?_)
    intro b7 hb7
    refine Seq.rd0 at1 rfl rfl (O.move (v := .slice _ _ _) rfl) ?_
    refine Seq.op at2 rfl (Op.gen rfl (O.appendTo (k := n) (new := rows Version_enc xs) (Ls := [(b7, _)]) (R := L) ei_239 ds_239 (by decide) rfl (.inr ⟨b7, 0, #[], rfl, Nat.le_refl _, rfl, rfl, rfl⟩) (hX.cons.src Version_size) (rows_ones Version_one) (by omega)) ?_)
    rintro _ _ ⟨b9, cap9, Ls1, rfl, ho, rfl⟩
    refine Seq.rd0 at3 rfl rfl (O.assign (v := .slice _ _ _) rfl) ?_
    refine Seq.nil ?_
    refine hK6 ?_
    refine Cd.ret ?_
    exact hR _ _ (Res.one (v := .slice _ _ _) rfl rfl) ⟨_, _, Ls1, by rw [Nat.zero_add], by simpa [rows] using ho, rfl⟩ (.refl _)

end Go.X

namespace Go.X
open Go.Proofs
theorem hb_240 : hasBody Tryz.prog 240 = true := by kernel_rfl
end Go.X

namespace Go.X
open Go.Proofs
theorem hb_199 : hasBody Tryz.prog 199 = true := by kernel_rfl
theorem hb_201 : hasBody Tryz.prog 201 = true := by kernel_rfl
set_option maxRecDepth 100000 in
set_option maxHeartbeats 2000000 in
theorem C_mapsKeys_chain {c : Cx} {L : List Pt} {mb : Nat} : Fn Tryz.prog 201 #[.map (some mb)] c L (fun v L' => ∃ bb, c.w0.heap.size ≤ bb ∧ v = .func (.func 239) #[] #[.pointer (some ⟨bb, 0, none⟩)] ∧ L' = (bb, .cells #[.map (some mb)] 243 (0, 0)) :: L) := by
  refine Fn.enter Tryz.func201 rfl 4 rfl rfl (fun R hR => ?_)
  refine Cd.seq (fun K1 hK1 => ?_)
  refine Cd.region [0, 1] rfl ?_
  refine Seq.op at0 rfl (Op.new rfl (O.box (v := .map _) rfl rfl) ?_)
  intro b2 hb2
  refine Seq.rd0 at1 rfl rfl (O.assign (v := .nilFunc) rfl) ?_
  refine Seq.nil ?_
  refine hK1 ?_
  refine Cd.seq (fun K3 hK3 => ?_)
  refine Cd.region [0, 1] rfl ?_
  refine Seq.rd0 at0 rfl rfl (O.mkFunc (fs' := #[]) (cs' := #[.pointer (some ⟨b2, 0, none⟩)]) (by kernel_rfl) (by kernel_rfl)) ?_
  refine Seq.rd0 at1 rfl rfl (O.assign (v := .func _ _ _) rfl) ?_
  refine Seq.nil ?_
  refine hK3 ?_
  refine Cd.ret ?_
  exact hR _ _ (Res.one (v := .func _ _ _) rfl rfl) ⟨b2, hb2, rfl, rfl⟩ (.refl _)

set_option maxRecDepth 100000 in
set_option maxHeartbeats 2000000 in
theorem C_store_Keys {c : Cx} {L : List Pt} {sb : Nat} {l : List (Key × CV)} (hS : StAt c L sb l) : Fn Tryz.prog 135 #[.pointer (some ⟨sb, 0, none⟩)] c L (fun v L' => ∃ ys Ls, ys.Perm (l.map Prod.fst) ∧ KOrd ys ∧ OwnK ys v Ls ∧ L' = Ls ++ L) := by
  have hSz := hS.size
  obtain ⟨⟨mb, es, ck, hsb, hmb, hm⟩, hch, _⟩ := id hS
  refine Fn.enter Tryz.func135 rfl 9 rfl rfl (fun R hR => ?_)
  refine Cd.seq (fun K1 hK1 => ?_)
  refine Cd.region [0] rfl ?_
  refine Seq.rd0 at0 rfl rfl (O.assign (v := .slice _ _ _) rfl) ?_
  refine Seq.nil ?_
  refine hK1 ?_
  refine Cd.seq (fun K2 hK2 => ?_)
  refine Cd.region [0, 1, 2, 3, 4, 5, 6] rfl ?_
  refine Seq.rd0 at0 rfl rfl (O.move (v := .pointer _) rfl) ?_
  refine Seq.rd0 at1 rfl rfl (O.nilP rfl) ?_
  refine Seq.rd0 at2 rfl rfl (O.field fo_245_0 rfl) ?_
  refine Seq.rd1 at3 rfl rfl (O.load kd_243 rfl r1_0) hsb ?_
  refine Seq.op at4 rfl (Op.callF rfl hb_201 C_mapsKeys_chain rfl ?_)
  rintro _ _ ⟨bb3, hbb3, rfl, rfl⟩
  refine Seq.op at5 rfl (Op.callF rfl hb_199 (C_SortedFunc_Key (gf := 239) (lb := [.pointer (some ⟨bb3, 0, none⟩)]) hSz (by kernel_rfl) (C_keysChain hm Rd.head hmb.cons) (fun _ h => Nat.le_of_eq (h.length_eq.trans (List.length_map _)))) rfl ?_)
  rintro v4 _ ⟨xs5, ys6, Ls7, hSxs5, hpys6, hoys6, hwys6, rfl⟩
  refine Ent.perm ?_ (bring (Ls := Ls7) (pre := [(bb3, _)]) (R := L)).symm
  refine Seq.rd0 at6 rfl rfl (O.assign (v := v4) rfl) ?_
  refine Seq.nil ?_
  refine hK2 ?_
  refine Cd.ret ?_
  exact hR _ _ (Res.one (v := v4) rfl rfl) ⟨ys6, Ls7, hpys6.trans hSxs5, hoys6, hwys6, rfl⟩ (.cons _ (.refl _))

theorem kk_i64 : IsKey Tryz.prog 2 i64V := isKey_I64 (by kernel_rfl)
/-- an entry, and its writes -/
abbrev EV := Entry × List Write
def evV (x : EV) : Value := .agg (Entry_enc x.1)
def i64z : I64 := ⟨0, by decide⟩
def evz : EV := (.zero, [])
def intV (x : Int) : Value := .int .i64 x
/-- a table that can be read -/
structure TbAt (c : Cx) (L : List Pt) (tb : Nat) (el : List (I64 × EV)) (hl : List (Key × I64)) : Prop where
  ex : ∃ lm es1 ck1 hm es2 ck2, Rd c L tb (.cells #[.map (some lm), .map (some hm)] 249 (0, 0)) ∧ Rd c L lm (.map es1 ck1) ∧ MapIs i64V evV es1 ck1 el ∧ Rd c L hm (.map es2 ck2) ∧ MapIs keyV i64V es2 ck2 hl
  ws : ∀ id q, alook el id = some q → SlAt c L Write_enc q.1.ws.a q.1.ws.n q.2 ∧ q.2.length ≤ 16
  size : el.length ≤ 1000000000 ∧ hl.length ≤ 1000000000
theorem TbAt.sub {c : Cx} {L L' : List Pt} {tb : Nat} {el : List (I64 × EV)} {hl : List (Key × I64)} (h : TbAt c L tb el hl) (hs : L.Sublist L') : TbAt c L' tb el hl := by
  obtain ⟨⟨lm, es1, ck1, hm, es2, ck2, h1, h2, h3, h4, h5⟩, h6, h7⟩ := h
  exact ⟨⟨lm, es1, ck1, hm, es2, ck2, h1.sub hs, h2.sub hs, h3, h4.sub hs, h5⟩, fun id q hq => ⟨(h6 id q hq).1.sub hs, (h6 id q hq).2⟩, h7⟩
theorem TbAt.cons {c : Cx} {L : List Pt} {tb : Nat} {el : List (I64 × EV)} {hl : List (Key × I64)} {p : Pt} (h : TbAt c L tb el hl) : TbAt c (p :: L) tb el hl := h.sub (List.sublist_cons_self _ _)
theorem TbAt.app {c : Cx} {L G : List Pt} {tb : Nat} {el : List (I64 × EV)} {hl : List (Key × I64)} (h : TbAt c L tb el hl) : TbAt c (G ++ L) tb el hl := h.sub (List.sublist_append_right _ _)

end Go.X

namespace Go.X
open Go.Proofs
/-- a closure that tells p of a write, in L and in whatever is more -/
def PredOk (P : Program) (c : Cx) (L : List Pt) (f : FuncId) (cs : List Value) (p : Write → Bool) : Prop :=
  hasBody P f = true ∧ ∀ (x : Write) (L' : List Pt), L.Sublist L' → Fn P f (.agg (Write_enc x) :: cs).toArray c L' (fun v L'' => v = .bool (p x) ∧ L'' = L')
end Go.X

namespace Go.X
open Go.Proofs
/-- whom a read of a key at a time must wait for -/
def blocksT (el : List (I64 × EV)) (hl : List (Key × I64)) (k : Key) (s : Stamp) : Int × Bool :=
  if (alook hl k).isSome then (if 0 < ((alook el ((alook hl k).getD i64z)).getD evz).1.stamp.cmp s then (0, false) else (((alook hl k).getD i64z).1, true)) else (0, false)

end Go.X

namespace Go.X
open Go.Proofs
/-- the entry that a look-up gives -/
def entT (el : List (I64 × EV)) (id : I64) : EV := (alook el id).getD evz
theorem TbAt.ent {c : Cx} {L : List Pt} {tb : Nat} {el : List (I64 × EV)} {hl : List (Key × I64)} (h : TbAt c L tb el hl) (id : I64) :
    SlAt c L Write_enc (entT el id).1.ws.a (entT el id).1.ws.n (entT el id).2 ∧ (entT el id).1.ws.n ≤ 1000000000 := by
  unfold entT
  cases hq : alook el id with
  | none => exact ⟨⟨rfl, by decide, fun h => absurd rfl h⟩, by decide⟩
  | some q =>
    obtain ⟨h1, h2⟩ := h.ws id q hq
    refine ⟨h1, ?_⟩
    have := h1.len
    show q.1.ws.n ≤ _
    omega

/-- what is over -/
def intV' (x : Int) : Value := .int .i64 x
/-- a part that can be read -/
structure PtAt (c : Cx) (L : List Pt) (pb : Nat) (l : List (Key × CV)) (el : List (I64 × EV)) (hl : List (Key × I64)) (ol : List (I64 × Int)) : Prop where
  ex : ∃ sb tb om es ck, Rd c L pb (.cells #[.pointer (some ⟨sb, 0, none⟩), .pointer (some ⟨tb, 0, none⟩), .map (some om)] 144 (0, 0)) ∧ StAt c L sb l ∧ TbAt c L tb el hl ∧ Rd c L om (.map es ck) ∧ MapIs i64V intV es ck ol
theorem PtAt.sub {c : Cx} {L L' : List Pt} {pb : Nat} {l : List (Key × CV)} {el : List (I64 × EV)} {hl : List (Key × I64)} {ol : List (I64 × Int)} (h : PtAt c L pb l el hl ol) (hs : L.Sublist L') : PtAt c L' pb l el hl ol := by
  obtain ⟨⟨sb, tb, om, es, ck, h1, h2, h3, h4, h5⟩⟩ := h
  exact ⟨⟨sb, tb, om, es, ck, h1.sub hs, h2.sub hs, h3.sub hs, h4.sub hs, h5⟩⟩
theorem PtAt.cons {c : Cx} {L : List Pt} {pb : Nat} {l : List (Key × CV)} {el : List (I64 × EV)} {hl : List (Key × I64)} {ol : List (I64 × Int)} {p : Pt} (h : PtAt c L pb l el hl ol) : PtAt c (p :: L) pb l el hl ol := h.sub (List.sublist_cons_self _ _)
theorem PtAt.app {c : Cx} {L G : List Pt} {pb : Nat} {l : List (Key × CV)} {el : List (I64 × EV)} {hl : List (Key × I64)} {ol : List (I64 × Int)} (h : PtAt c L pb l el hl ol) : PtAt c (G ++ L) pb l el hl ol := h.sub (List.sublist_append_right _ _)
/-- what became of a transaction -/
def stateP (ol : List (I64 × Int)) (el : List (I64 × EV)) (ti : I64) : Int := if (alook ol ti).isSome then (alook ol ti).getD 0 else if (alook el ti).isSome then 1 else 0

end Go.X

namespace Go.X
open Go.Proofs
theorem hb_100 : hasBody Tryz.prog 100 = true := by kernel_rfl
theorem kd_137 : kindOf Tryz.prog 137 = some (false, 1) := by kernel_rfl
/-- what a read gives -/
def readP (l : List (Key × CV)) (el : List (I64 × EV)) (hl : List (Key × I64)) (k : Key) (s : Stamp) (now : Int) : ByteArray × Bool × Int :=
  if goodK k = true ∧ s.good then (if (blocksT el hl k s).2 = true ∨ now < s.t then (⟨#[]⟩, false, 8) else ((getV l k s).1, (getV l k s).2, 0)) else (⟨#[]⟩, false, 1)

end Go.X

namespace Go.X
open Go.Proofs
theorem hb_131 : hasBody Tryz.prog 131 = true := by kernel_rfl
/-- is a key's newest version above a stamp? -/
def aboveS (l : List (Key × CV)) (s : Stamp) (x : Write) : Bool := (newestV (getS l x.key)).isSome && decide (0 < ((newestV (getS l x.key)).getD .zero).stamp.cmp s)
def conflictP (l : List (Key × CV)) (hl : List (Key × I64)) (s : Stamp) (ws : List Write) : Bool := (ws.any fun x => (alook hl x.key).isSome) || ws.any (aboveS l s)

def canAbortP (ol : List (I64 × Int)) (el : List (I64 × EV)) (ti : I64) : Int := if ti.1 < 1 then 1 else if stateP ol el ti = 2 then 10 else 0

end Go.X

namespace Go.X
open Go.Proofs
theorem hb_87 : hasBody Tryz.prog 87 = true := by kernel_rfl
set_option maxRecDepth 100000 in
set_option maxHeartbeats 2000000 in
theorem C_store_New {c : Cx} {L : List Pt}  : Fn Tryz.prog 87 #[] c L (fun v L' => ∃ sb mb, c.w0.heap.size ≤ sb ∧ c.w0.heap.size ≤ mb ∧ v = .pointer (some ⟨sb, 0, none⟩) ∧ L' = (sb, .cells #[.map (some mb)] 245 (0, 0)) :: (mb, .map #[] 0) :: L) := by
  refine Fn.enter Tryz.func87 rfl 4 rfl rfl (fun R hR => ?_)
  refine Cd.seq (fun K1 hK1 => ?_)
  refine Cd.region [0] rfl ?_
  refine Seq.rd0 at0 rfl rfl (O.assign (v := .pointer _) rfl) ?_
  refine Seq.nil ?_
  refine hK1 ?_
  refine Cd.seq (fun K2 hK2 => ?_)
  refine Cd.region [0, 1, 2, 3] rfl ?_
  refine Seq.op at0 rfl (Op.new rfl (O.makeMap) ?_)
  intro b3 hb3
  refine Seq.rd0 at1 rfl rfl (O.build rfl (cs := #[.map (some b3)]) (by kernel_rfl)) ?_
  refine Seq.op at2 rfl (Op.new rfl (O.box (v := .agg _) rfl (cs := #[.map (some b3)]) rfl) ?_)
  intro b4 hb4
  refine Seq.rd0 at3 rfl rfl (O.assign (v := .pointer _) rfl) ?_
  refine Seq.nil ?_
  refine hK2 ?_
  refine Cd.ret ?_
  exact hR _ _ (Res.one (v := .pointer _) rfl rfl) ⟨b4, b3, hb4, hb3, rfl, rfl⟩ (.refl _)

end Go.X

/- The engine, part 16: stores into rows; clear. -/
namespace Go.X
section
variable {P : Program} {n : Sz} {e : Env} {d : Option Tmp} {ty : TypeId} {p : String} {af : Array Edge} {g : Option (Nat × Bool)}
variable {c : Cx} {L : List Pt} {x y z : Operand} {v v' : Value}
variable {α : Type} {enc : α → Array Value} {sz : Nat}
theorem rows_split (hs : ∀ x, (enc x).size = sz) {l : List α} {i : Nat} (hi : i < l.length) : (rows enc l).toList = (rows enc (l.take i)).toList ++ ((enc l[i]).toList ++ (rows enc (l.drop (i + 1))).toList) ∧ (rows enc (l.take i)).size = i * sz := by
  constructor
  · have h1 : l = l.take i ++ l[i] :: l.drop (i + 1) := by rw [← List.drop_eq_getElem_cons hi]; simp
    have h2 := congrArg (fun l => (rows enc l).toList) h1
    simp only [rows, List.flatMap_append, List.flatMap_cons] at h2 ⊢
    exact h2
  · rw [rows_size hs, List.length_take, Nat.min_eq_left (by omega)]
/-- a store of one element into a row -/
theorem rows_put (hs : ∀ x, (enc x).size = sz) {l : List α} {i : Int} {sp : Array Value} {a : α} (h0 : 0 ≤ i) (hi : i < (l.length : Nat)) :
    putL (rows enc l ++ sp) (0 + i.toNat * sz) (enc a).toList = rows enc (l.set i.toNat a) ++ sp := by
  have hi' : i.toNat < l.length := by omega
  obtain ⟨h1, h2⟩ := rows_split hs hi'
  obtain ⟨h3, h4⟩ := rows_split (l := l.set i.toNat a) hs (i := i.toNat) (by simpa using hi')
  apply Array.ext'
  have := putL_mid (enc a).toList (rows enc (l.take i.toNat)).toList (enc l[i.toNat]).toList ((rows enc (l.drop (i.toNat + 1))).toList ++ sp.toList) (rows enc l ++ sp) (by rw [Array.toList_append, h1]; simp) (by simp [hs])
  simp only [Array.length_toList, h2] at this
  rw [Nat.zero_add, this, Array.toList_append, h3]
  simp only [List.getElem_set_self, List.append_assoc]
  rw [List.take_set, List.set_eq_of_length_le (by simp; omega), List.drop_set_of_lt (by omega)]
theorem rows_room_put (hs : ∀ x, (enc x).size = sz) {l : List α} {i : Int} {sp : Array Value} (h0 : 0 ≤ i) (hi : i < (l.length : Nat)) : 0 + i.toNat * sz + sz ≤ (rows enc l ++ sp).size := by
  rw [Array.size_append, rows_size hs, Nat.zero_add]
  have : (i.toNat + 1) * sz ≤ l.length * sz := Nat.mul_le_mul_right _ (by omega)
  rw [Nat.succ_mul] at this
  omega

/-- 'clear' of a row's end -/
theorem O.clear {t el sz' by_ b o m cap : Nat} {zv : Value} {cs cs' : Array Value} {el' : TypeId} (ht : elemInfo P t = some (el, sz', by_, zv)) (hx : ev e x = .slice (some ⟨b, o, none⟩) m cap)
    (hone : ∀ u ∈ zv.cells.toList, Value.oneCell' u = true) (hroom : o + m * sz' ≤ cs.size) (hcs : m ≠ 0 → putL cs o (Builtin.zeroCells zv.cells m).toList = cs') (h0 : m = 0 → cs' = cs) :
    Eg P e ⟨d, .call { callee := .builtin .clear, args := #[x], argTypes := #[t] }, ty, p, af, g⟩ c ((b, .cells cs el' (0, 0)) :: L)
      (fun v L' => v = .tuple #[] ∧ L' = (b, .cells cs' el' (0, 0)) :: L) := by
  intro w hw
  obtain ⟨hu, i, hi, rfl, rfl, hz, hzs⟩ := elem_parts ht
  have hzz : zeroOf P el = some zv := by simp [zeroOf, hi, hz]
  cases m with
  | zero =>
    obtain rfl := h0 rfl
    refine ⟨_, w, _, .inl ?_, ⟨rfl, rfl⟩, hw⟩
    simp [execOp, resolve, invoke, builtin, Builtin.clear_, hx, run_under hu]
  | succ m =>
    have hsz : (Builtin.zeroCells zv.cells (m + 1)).size = (m + 1) * i.size := by rw [zeroCells_size, hzs]
    have hst := run_storeL (P := P) (el := el') (Builtin.zeroCells zv.cells (m + 1)).toList w o 0 cs (hw.look _ (List.mem_cons_self)) (by rw [Array.length_toList, hsz]; omega) (by
      intro u hu2
      simp only [Builtin.zeroCells, Array.toList_map, List.mem_map] at hu2
      obtain ⟨j, hj, rfl⟩ := hu2
      have hj2 : j < (m + 1) * zv.cells.size := by simpa using hj
      have hpos : 0 < zv.cells.size := by
        rcases Nat.eq_zero_or_pos zv.cells.size with h | h
        · rw [h] at hj2; simp at hj2
        · exact h
      have hlt := Nat.mod_lt j hpos
      rw [getElem!_pos zv.cells _ hlt]
      exact hone _ (by simp))
    have hcs2 : putL cs (o + 0) (Builtin.zeroCells zv.cells (m + 1)).toList = cs' := hcs (by omega)
    rw [hcs2] at hst
    refine ⟨_, _, _, .inl ?_, ⟨rfl, rfl⟩, St.set (A := []) hw⟩
    simp [execOp, resolve, invoke, builtin, Builtin.clear_, hx, run_under hu, run_zero hzz, hst]
end
end Go.X

namespace Go.X
open Go.Proofs

theorem run_eqStamp (x y : Stamp) (w : World) : (Op.equal 24 (.agg (Stamp_enc x)) (.agg (Stamp_enc y))).run Tryz.prog w = .ok (decide (x = y)) w := by
  have uT : Tryz.prog.underlying 2 = some (.int .i64) := by kernel_rfl
  have uN : Tryz.prog.underlying 5 = some (.int .u8) := by kernel_rfl
  have aT : ∀ w, (isAgg 2).run Tryz.prog w = .ok false w := fun w => by kernel_rfl
  have aN : ∀ w, (isAgg 5).run Tryz.prog w = .ok false w := fun w => by kernel_rfl
  have zT : ∀ w, (Go.sizeOf 2).run Tryz.prog w = .ok 1 w := fun w => by kernel_rfl
  have zN : ∀ w, (Go.sizeOf 5).run Tryz.prog w = .ok 1 w := fun w => by kernel_rfl
  have hS : Tryz.prog.underlying 24 = some (.struct (Tryz.prog.fieldsOf 24)) := by kernel_rfl
  have hp : Tryz.prog.stoodInHeld 24 = false := by kernel_rfl
  have hdec : decide (x = y) = (x.t == y.t && x.n == y.n) := by
    cases x; cases y; rw [Bool.eq_iff_iff]; simp [Stamp.mk.injEq]
  rw [hdec]
  show (Op.equalIn 10000 24 (.agg (Stamp_enc x)) (.agg (Stamp_enc y))).run Tryz.prog w = _
  simp only [Stamp_enc]
  rw [show (10000 : Nat) = 9999 + 1 from rfl, run_equalIn_agg w 9999 24 _ _ hS hp]
  simp only [Program.fieldsOf, Tryz.underlying24]
  go_simp
  by_cases h1 : x.t = y.t <;> by_cases h2 : x.n = y.n <;> simp [h1, h2]

section
variable {e : Env} {d : Option Tmp} {ty : TypeId} {p : String} {af : Array Edge} {g : Option (Nat × Bool)} {x y : Operand} {t' : TypeId} {a b : Stamp}
theorem eqStamp (hx : ev e x = .agg (Stamp_enc a)) (hy : ev e y = .agg (Stamp_enc b)) : Rn0 Tryz.prog e ⟨d, .binOp .eql 24 x y t', ty, p, af, g⟩ (.bool (decide (a = b))) := fun w =>
  run_binop hx hy (by simp [eqGuard, (by kernel_rfl : Tryz.prog.eqGuardType Tryz.prog.depth 24 = false)]) (run_eql rfl (run_eqStamp a b w))
end
/-- why may a transaction not be committed? -/
def usedS (l : List (Key × CV)) (s : Stamp) (x : Write) : Bool := (getS l x.key).any fun v => decide (v.stamp = s)
def canCommitP (l : List (Key × CV)) (ol : List (I64 × Int)) (el : List (I64 × EV)) (ti : I64) (s : Stamp) : Int :=
  if s.good then (if stateP ol el ti = 0 then 4 else if stateP ol el ti = 3 then 10 else if stateP ol el ti = 2 then 0 else
    if s.cmp (entT el ti).1.stamp < 0 then 1 else if (entT el ti).2.any (usedS l s) then 5 else 0) else 1
theorem takeA_next {α : Type} {ws : List α} {p : α → Bool} {i : Nat} (hi : i < ws.length) (h : ∀ w ∈ ws.take i, p w = false) (hp : p ws[i] = false) : ∀ w ∈ ws.take (i + 1), p w = false := by
  intro w hw
  rw [List.take_add_one, List.getElem?_eq_getElem hi] at hw
  simp only [Option.toList_some, List.mem_append, List.mem_singleton] at hw
  rcases hw with hw | rfl
  · exact h w hw
  · exact hp
theorem anyA_none {α : Type} {ws : List α} {p : α → Bool} {i : Nat} (hi : i = ws.length) (h : ∀ w ∈ ws.take i, p w = false) : ws.any p = false := by
  subst hi; rw [List.take_length] at h; rw [List.any_eq_false]; intro x hx; rw [h x hx]; decide
theorem anyA_some {α : Type} {ws : List α} {p : α → Bool} {i : Nat} (hi : i < ws.length) (h : p ws[i] = true) : ws.any p = true := List.any_eq_true.2 ⟨_, List.getElem_mem hi, h⟩

end Go.X

namespace Go.X
open Go.Proofs
section
variable {l : List (Key × CV)} {ol : List (I64 × Int)} {el : List (I64 × EV)} {ti : I64} {s : Stamp}
end

end Go.X
