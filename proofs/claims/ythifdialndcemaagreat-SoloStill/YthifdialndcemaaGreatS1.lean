/- The data of the program, as plain Lean: keys, stamps, writes; and how they lie in cells. -/
import Derived.Lib.Bytealg
import Derived.Test.YthifdialndcemaaGreatProg
import Derived.Laws.Append
import Derived.Test.YthifdialndcemaaGreatS0
set_option linter.unusedVariables false
set_option linter.unusedSimpArgs false

namespace Go.X

structure Key where
  l : List UInt8
  h : l.length = 16
  deriving DecidableEq

theorem Key.ext' {a b : Key} (h : a.l = b.l) : a = b := by cases a; cases b; simp_all
/-- a key as its sixteen bytes -/
theorem Key.rec16 {C : Key → Prop} (h : ∀ x0 x1 x2 x3 x4 x5 x6 x7 x8 x9 x10 x11 x12 x13 x14 x15 : UInt8,
    C ⟨[x0, x1, x2, x3, x4, x5, x6, x7, x8, x9, x10, x11, x12, x13, x14, x15], rfl⟩) (k : Key) : C k := by
  obtain ⟨l, hl⟩ := k
  match l, hl with
  | [x0, x1, x2, x3, x4, x5, x6, x7, x8, x9, x10, x11, x12, x13, x14, x15], _ => exact h ..
def Key.zero : Key := ⟨[0, 0, 0, 0, 0, 0, 0, 0, 0, 0, 0, 0, 0, 0, 0, 0], rfl⟩
def kc (k : Key) (i : Nat) : Value := byteV (k.l.getD i 0)
def Key_enc (k : Key) : Array Value := #[kc k 0, kc k 1, kc k 2, kc k 3, kc k 4, kc k 5, kc k 6, kc k 7, kc k 8, kc k 9, kc k 10, kc k 11, kc k 12, kc k 13, kc k 14, kc k 15]
theorem byteV_inj {a b : UInt8} (h : byteV a = byteV b) : a = b := by
  simp only [byteV, Value.int.injEq, true_and] at h
  exact UInt8.toNat_inj.1 (by omega)
theorem Key_cells (k : Key) : Key_enc k = (k.l.map byteV).toArray := by
  revert k; apply Key.rec16; intros; rfl
theorem Key_inj {a b : Key} (h : Key_enc a = Key_enc b) : a = b := by
  apply Key.ext'
  rw [Key_cells, Key_cells] at h
  have h2 : a.l.map byteV = b.l.map byteV := by simpa using h
  have key : ∀ l m : List UInt8, l.map byteV = m.map byteV → l = m := by
    intro l
    induction l with
    | nil => intro m h; cases m with
      | nil => rfl
      | cons _ _ => simp at h
    | cons x l ih => intro m h; cases m with
      | nil => simp at h
      | cons y m =>
        simp only [List.map_cons, List.cons.injEq] at h
        rw [byteV_inj h.1, ih m h.2]
  exact key _ _ h2
theorem Key_size (k : Key) : (Key_enc k).size = 16 := rfl
theorem Key_all (k : Key) : (Key_enc k).extract 0 (0 + 16) = Key_enc k := by kernel_rfl
theorem Key_get {k : Key} {j : Nat} {x : UInt8} (h : k.l[j]? = some x) : (Key_enc k)[j]? = some (byteV x) := by
  rw [Key_cells]; simp [h]
theorem Key_one (k : Key) : ∀ u ∈ (Value.agg (Key_enc k)).cells.toList, Value.oneCell' u = true := by
  intro u hu
  rw [Key_cells] at hu
  simp [Value.cells] at hu
  obtain ⟨a, _, rfl⟩ := hu
  rfl
theorem putL_all : ∀ (vs : List Value) (pre : List Value) (cs : Array Value), cs.size = pre.length + vs.length → cs.toList.take pre.length = pre →
    putL cs pre.length vs = (pre ++ vs).toArray
  | [], pre, cs, h, ht => by
    apply Array.ext'
    simp only [putL, List.append_nil]
    have h5 : cs.size = pre.length := by simpa using h
    rw [← ht, List.take_of_length_le (by rw [Array.length_toList]; omega)]
  | v :: vs, pre, cs, h, ht => by
    simp only [List.length_cons] at h
    simp only [putL]
    have h2 := putL_all vs (pre ++ [v]) (cs.setIfInBounds pre.length v) (by simp; omega) (by
      apply List.ext_getElem?
      intro i
      by_cases hi : i < pre.length
      · have h3 : pre.length ≠ i := by omega
        have h4 := congrArg (fun l => l[i]?) ht
        simp only [List.getElem?_take, hi, if_true] at h4
        simp [List.getElem?_take, List.getElem?_append, hi, List.getElem?_set_ne h3, show i < pre.length + 1 by omega]
        simp only [Array.getElem?_toList] at h4
        rw [h4, List.getElem?_eq_getElem hi]
      · by_cases hi2 : i = pre.length
        · subst hi2
          simp [List.getElem?_take, show pre.length < cs.size by omega]
        · simp [List.getElem?_take, List.getElem?_append, show ¬ i < pre.length + 1 by omega, hi, show i - pre.length ≠ 0 by omega])
    simp only [List.length_append, List.length_cons, List.length_nil, Nat.zero_add] at h2
    rw [h2]
    simp
/-- a store over all cells -/
theorem putL_whole {cs vs : Array Value} (h : cs.size = vs.size) : putL cs 0 vs.toList = vs := by
  have := putL_all vs.toList [] cs (by simpa using h) (by simp)
  simpa using this
theorem Key_put (k : Key) {cs : Array Value} (h : cs.size = 16) : putL cs 0 (Value.agg (Key_enc k)).cells.toList = Key_enc k := putL_whole (h.trans (Key_size k).symm)
theorem Key_room {cs : Array Value} (h : cs.size = 16) : 0 + 16 ≤ cs.size := by omega

/-- a slice as it lies in a cell -/
structure Sv where
  a : Option Addr
  n : Nat
  c : Nat
  deriving DecidableEq
def Sv.v (s : Sv) : Value := .slice s.a s.n s.c

structure Stamp where
  t : Int
  n : Int
  deriving DecidableEq
def Stamp_enc (a : Stamp) : Array Value := #[.int .i64 a.t, .int .u8 a.n]
theorem Stamp_size (a : Stamp) : (Stamp_enc a).size = 2 := rfl
theorem Stamp_all (a : Stamp) : (Stamp_enc a).extract 0 (0 + 2) = Stamp_enc a := by kernel_rfl
theorem Stamp_t (a : Stamp) : (Stamp_enc a)[0]? = some (.int .i64 a.t) := rfl
theorem Stamp_n (a : Stamp) : (Stamp_enc a)[1]? = some (.int .u8 a.n) := rfl
theorem Stamp_one (a : Stamp) : ∀ u ∈ (Value.agg (Stamp_enc a)).cells.toList, Value.oneCell' u = true := by
  intro u hu
  simp only [Value.cells, Stamp_enc, List.mem_cons, List.not_mem_nil, or_false] at hu
  rcases hu with rfl | rfl <;> rfl
theorem Stamp_put (a : Stamp) {cs : Array Value} (h : cs.size = 2) : putL cs 0 (Value.agg (Stamp_enc a)).cells.toList = Stamp_enc a := putL_whole (h.trans (Stamp_size a).symm)
theorem Stamp_room {cs : Array Value} (h : cs.size = 2) : 0 + 2 ≤ cs.size := by omega
def Stamp.zero : Stamp := ⟨0, 0⟩

structure Write where
  key : Key
  val : ByteArray
  gone : Bool
  deriving DecidableEq
def Write_enc (a : Write) : Array Value := #[kc a.key 0, kc a.key 1, kc a.key 2, kc a.key 3, kc a.key 4, kc a.key 5, kc a.key 6, kc a.key 7, kc a.key 8, kc a.key 9, kc a.key 10, kc a.key 11, kc a.key 12, kc a.key 13, kc a.key 14, kc a.key 15, .string a.val, .bool a.gone]
theorem Write_size (a : Write) : (Write_enc a).size = 18 := rfl
theorem Write_all (a : Write) : (Write_enc a).extract 0 (0 + 18) = Write_enc a := by kernel_rfl
theorem Write_key (a : Write) : (Write_enc a).extract 0 (0 + 16) = Key_enc a.key := by kernel_rfl
theorem Write_val (a : Write) : (Write_enc a)[16]? = some (.string a.val) := rfl
theorem Write_gone (a : Write) : (Write_enc a)[17]? = some (.bool a.gone) := rfl
theorem Write_one (a : Write) : ∀ u ∈ (Value.agg (Write_enc a)).cells.toList, Value.oneCell' u = true := by
  intro u hu
  simp only [Value.cells, Write_enc, List.mem_cons, List.not_mem_nil, or_false] at hu
  rcases hu with rfl | rfl | rfl | rfl | rfl | rfl | rfl | rfl | rfl | rfl | rfl | rfl | rfl | rfl | rfl | rfl | rfl | rfl <;> rfl
theorem Write_put (a : Write) {cs : Array Value} (h : cs.size = 18) : putL cs 0 (Value.agg (Write_enc a)).cells.toList = Write_enc a := putL_whole (h.trans (Write_size a).symm)
theorem Write_room {cs : Array Value} (h : cs.size = 18) : 0 + 18 ≤ cs.size := by omega
def Write.zero : Write := ⟨.zero, ⟨#[]⟩, false⟩

structure Item where
  key : Key
  val : ByteArray
  deriving DecidableEq
def Item_enc (a : Item) : Array Value := #[kc a.key 0, kc a.key 1, kc a.key 2, kc a.key 3, kc a.key 4, kc a.key 5, kc a.key 6, kc a.key 7, kc a.key 8, kc a.key 9, kc a.key 10, kc a.key 11, kc a.key 12, kc a.key 13, kc a.key 14, kc a.key 15, .string a.val]
theorem Item_size (a : Item) : (Item_enc a).size = 17 := rfl
theorem Item_one (a : Item) : ∀ u ∈ (Value.agg (Item_enc a)).cells.toList, Value.oneCell' u = true := by
  intro u hu
  simp only [Value.cells, Item_enc, List.mem_cons, List.not_mem_nil, or_false] at hu
  rcases hu with rfl | rfl | rfl | rfl | rfl | rfl | rfl | rfl | rfl | rfl | rfl | rfl | rfl | rfl | rfl | rfl | rfl <;> rfl
def Item.zero : Item := ⟨.zero, ⟨#[]⟩⟩

structure Version where
  stamp : Stamp
  val : ByteArray
  gone : Bool
  deriving DecidableEq
def Version_enc (a : Version) : Array Value := #[.int .i64 a.stamp.t, .int .u8 a.stamp.n, .string a.val, .bool a.gone]
theorem Version_size (a : Version) : (Version_enc a).size = 4 := rfl
theorem Version_all (a : Version) : (Version_enc a).extract 0 (0 + 4) = Version_enc a := by kernel_rfl
theorem Version_stamp (a : Version) : (Version_enc a).extract 0 (0 + 2) = Stamp_enc a.stamp := by kernel_rfl
theorem Version_val (a : Version) : (Version_enc a)[2]? = some (.string a.val) := rfl
theorem Version_gone (a : Version) : (Version_enc a)[3]? = some (.bool a.gone) := rfl
theorem Version_one (a : Version) : ∀ u ∈ (Value.agg (Version_enc a)).cells.toList, Value.oneCell' u = true := by
  intro u hu
  simp only [Value.cells, Version_enc, List.mem_cons, List.not_mem_nil, or_false] at hu
  rcases hu with rfl | rfl | rfl | rfl <;> rfl
theorem Version_put (a : Version) {cs : Array Value} (h : cs.size = 4) : putL cs 0 (Value.agg (Version_enc a)).cells.toList = Version_enc a := putL_whole (h.trans (Version_size a).symm)
theorem Version_room {cs : Array Value} (h : cs.size = 4) : 0 + 4 ≤ cs.size := by omega
def Version.zero : Version := ⟨.zero, ⟨#[]⟩, false⟩

structure Chain where
  l : Sv
  deriving DecidableEq
def Chain_enc (a : Chain) : Array Value := #[.slice a.l.a a.l.n a.l.c]
def Chain.zero : Chain := ⟨⟨none, 0, 0⟩⟩

structure Entry where
  id : Int
  snap : Stamp
  stamp : Stamp
  ws : Sv
  deriving DecidableEq
def Entry_enc (a : Entry) : Array Value := #[.int .i64 a.id, .int .i64 a.snap.t, .int .u8 a.snap.n, .int .i64 a.stamp.t, .int .u8 a.stamp.n, .slice a.ws.a a.ws.n a.ws.c]
def Entry.zero : Entry := ⟨0, .zero, .zero, ⟨none, 0, 0⟩⟩

/-- an order of numbers -/
def cmpI (a b : Int) : Int := if a < b then -1 else if b < a then 1 else 0
def Stamp.cmp (a b : Stamp) : Int := if cmpI a.t b.t = 0 then cmpI a.n b.n else cmpI a.t b.t
def Stamp.good (a : Stamp) : Prop := 0 ≤ a.t ∧ a.t ≤ 36028797018963967
instance (a : Stamp) : Decidable a.good := by unfold Stamp.good; infer_instance
def Key.cmp (a b : Key) : Int := Lib.compareBytes a.l b.l

/-! ## rows: slices of structs -/
def rows {α : Type} (enc : α → Array Value) (l : List α) : Array Value := (l.flatMap fun x => (enc x).toList).toArray
section
variable {α : Type} {enc : α → Array Value} {sz : Nat}
theorem rows_size (hs : ∀ x, (enc x).size = sz) (l : List α) : (rows enc l).size = l.length * sz := by
  induction l with
  | nil => simp [rows]
  | cons x l ih =>
    have h2 : (rows enc (x :: l)).size = (enc x).size + (rows enc l).size := by simp [rows]
    rw [h2, ih, hs, List.length_cons, Nat.succ_mul]; omega
theorem rows_get (hs : ∀ x, (enc x).size = sz) {sp : Array Value} : ∀ {l : List α} {i : Nat} {x : α}, l[i]? = some x → ∀ k, k < sz → (rows enc l ++ sp)[i * sz + k]? = (enc x)[k]?
  | y :: l, 0, x, h, k, hk => by
    have hx : y = x := by simpa using h
    subst hx
    have h2 : rows enc (y :: l) ++ sp = enc y ++ (rows enc l ++ sp) := by
      apply Array.ext'; simp [rows]
    rw [h2, Nat.zero_mul, Nat.zero_add, Array.getElem?_append_left (by rw [hs]; exact hk)]
  | y :: l, i + 1, x, h, k, hk => by
    have h2 : rows enc (y :: l) ++ sp = enc y ++ (rows enc l ++ sp) := by
      apply Array.ext'; simp [rows]
    have h3 : (i + 1) * sz + k = (enc y).size + (i * sz + k) := by rw [hs, Nat.succ_mul]; omega
    rw [h2, h3, Array.getElem?_append_right (by omega)]
    rw [show (enc y).size + (i * sz + k) - (enc y).size = i * sz + k by omega]
    exact rows_get hs (by simpa using h) k hk
theorem rows_room (hs : ∀ x, (enc x).size = sz) {sp : Array Value} {l : List α} {i : Nat} {x : α} (h : l[i]? = some x) : i * sz + sz ≤ (rows enc l ++ sp).size := by
  have hi : i < l.length := by
    rcases Nat.lt_or_ge i l.length with h' | h'
    · exact h'
    · rw [List.getElem?_eq_none h'] at h; cases h
  rw [Array.size_append, rows_size hs]
  have : (i + 1) * sz ≤ l.length * sz := Nat.mul_le_mul_right sz hi
  rw [Nat.succ_mul] at this
  omega
theorem rows_at (hs : ∀ x, (enc x).size = sz) {sp : Array Value} {l : List α} {i : Nat} {x : α} (h : l[i]? = some x) : (rows enc l ++ sp).extract (i * sz) (i * sz + sz) = enc x := by
  have hr := rows_room hs (sp := sp) h
  apply Array.ext
  · rw [Array.size_extract, hs]; omega
  · intro k h1 h2
    have hk : k < sz := by rw [hs] at h2; exact h2
    have h3 := rows_get hs (sp := sp) h k hk
    rw [Array.getElem?_eq_getElem (by omega), Array.getElem?_eq_getElem h2] at h3
    rw [Array.getElem_extract]
    exact Option.some.inj h3
theorem rowAt (hs : ∀ x, (enc x).size = sz) {sp : Array Value} {l : List α} {i : Int} {x : α} (h : l[i.toNat]? = some x) : (rows enc l ++ sp).extract (0 + i.toNat * sz) (0 + i.toNat * sz + sz) = enc x := by
  rw [Nat.zero_add]; exact rows_at hs h
theorem rowRoom (hs : ∀ x, (enc x).size = sz) {sp : Array Value} {l : List α} {i : Int} {x : α} (h : l[i.toNat]? = some x) : 0 + i.toNat * sz + sz ≤ (rows enc l ++ sp).size := by
  rw [Nat.zero_add]; exact rows_room hs h
theorem rowGet (hs : ∀ x, (enc x).size = sz) {sp : Array Value} {l : List α} {i : Int} {k : Nat} {x : α} (h : l[i.toNat]? = some x) (hk : k < sz) : (rows enc l ++ sp)[0 + i.toNat * sz + k]? = (enc x)[k]? := by
  rw [Nat.zero_add]; exact rows_get hs h k hk
end
end Go.X

namespace Go.X
open Go.Proofs
theorem hb_235 : hasBody Tryz.prog 235 = true := by kernel_rfl
theorem hb_236 : hasBody Tryz.prog 236 = true := by kernel_rfl
theorem po : Tryz.prog.follows .mixedOrders = true := by kernel_rfl
set_option maxRecDepth 100000 in
set_option maxHeartbeats 2000000 in
theorem C_isNaN_int64 {c : Cx} {L : List Pt} {a : Int} : Fn Tryz.prog 235 #[.int .i64 a] c L (fun v L' => v = .bool false ∧ L' = L) := by
  refine Fn.enter Tryz.func235 rfl 6 rfl rfl (fun R hR => ?_)
  refine Cd.seq (fun K1 hK1 => ?_)
  refine Cd.region [0] rfl ?_
  refine Seq.rd0 at0 rfl rfl (O.assign (v := .bool _) rfl) ?_
  refine Seq.nil ?_
  refine hK1 ?_
  refine Cd.seq (fun K2 hK2 => ?_)
  refine Cd.region [0, 1, 2, 3] rfl ?_
  refine Seq.rd0 at0 rfl rfl (O.move (v := .int .i64 _) rfl) ?_
  refine Seq.rd0 at1 rfl rfl (O.move (v := .int .i64 _) rfl) ?_
  refine Seq.rd0 at2 rfl rfl (O.neI rfl rfl) ?_
  refine Seq.rd0 at3 rfl rfl (O.assign (v := .bool _) rfl) ?_
  refine Seq.nil ?_
  refine hK2 ?_
  refine Cd.ret ?_
  exact hR _ _ (Res.one (v := .bool _) rfl rfl) ⟨by simp, rfl⟩ (.refl _)

set_option maxRecDepth 100000 in
set_option maxHeartbeats 2000000 in
theorem C_isNaN_uint8 {c : Cx} {L : List Pt} {a : Int} : Fn Tryz.prog 236 #[.int .u8 a] c L (fun v L' => v = .bool false ∧ L' = L) := by
  refine Fn.enter Tryz.func236 rfl 6 rfl rfl (fun R hR => ?_)
  refine Cd.seq (fun K1 hK1 => ?_)
  refine Cd.region [0] rfl ?_
  refine Seq.rd0 at0 rfl rfl (O.assign (v := .bool _) rfl) ?_
  refine Seq.nil ?_
  refine hK1 ?_
  refine Cd.seq (fun K2 hK2 => ?_)
  refine Cd.region [0, 1, 2, 3] rfl ?_
  refine Seq.rd0 at0 rfl rfl (O.move (v := .int .u8 _) rfl) ?_
  refine Seq.rd0 at1 rfl rfl (O.move (v := .int .u8 _) rfl) ?_
  refine Seq.rd0 at2 rfl rfl (O.neI rfl rfl) ?_
  refine Seq.rd0 at3 rfl rfl (O.assign (v := .bool _) rfl) ?_
  refine Seq.nil ?_
  refine hK2 ?_
  refine Cd.ret ?_
  exact hR _ _ (Res.one (v := .bool _) rfl rfl) ⟨by simp, rfl⟩ (.refl _)

set_option maxRecDepth 100000 in
set_option maxHeartbeats 2000000 in
theorem C_Compare_int64 {c : Cx} {L : List Pt} {a b : Int} : Fn Tryz.prog 196 #[.int .i64 a, .int .i64 b] c L (fun v L' => v = .int .i64 (cmpI a b) ∧ L' = L) := by
  refine Fn.enter Tryz.func196 rfl 20 rfl rfl (fun R hR => ?_)
  refine Cd.seq (fun K1 hK1 => ?_)
  refine Cd.region [0] rfl ?_
  refine Seq.rd0 at0 rfl rfl (O.assign (v := .int .i64 _) rfl) ?_
  refine Seq.nil ?_
  refine hK1 ?_
  refine Cd.seq (fun K2 hK2 => ?_)
  refine Cd.region [0, 1, 2] rfl ?_
  refine Seq.rd0 at0 rfl rfl (O.move (v := .int .i64 _) rfl) ?_
  refine Seq.op at1 rfl (Op.callF rfl hb_235 C_isNaN_int64 rfl ?_)
  rintro _ _ ⟨rfl, rfl⟩
  refine Seq.rd0 at2 rfl rfl (O.assign (v := .bool _) rfl) ?_
  refine Seq.nil ?_
  refine hK2 ?_
  refine Cd.seq (fun K3 hK3 => ?_)
  refine Cd.region [0, 1, 2] rfl ?_
  refine Seq.rd0 at0 rfl rfl (O.move (v := .int .i64 _) rfl) ?_
  refine Seq.op at1 rfl (Op.callF rfl hb_235 C_isNaN_int64 rfl ?_)
  rintro _ _ ⟨rfl, rfl⟩
  refine Seq.rd0 at2 rfl rfl (O.assign (v := .bool _) rfl) ?_
  refine Seq.nil ?_
  refine hK3 ?_
  refine Cd.seq (fun K4 hK4 => ?_)
  refine Cd.seq (fun K5 hK5 => ?_)
  refine Cd.region [0] rfl ?_
  refine Seq.rd0 at0 rfl rfl (O.move (v := .bool _) rfl) ?_
  refine Seq.nil ?_
  refine hK5 ?_
  refine Cd.condF rfl ?_
  refine Cd.skip ?_
  refine hK4 ?_
  refine Cd.seq (fun K6 hK6 => ?_)
  refine Cd.seq (fun K7 hK7 => ?_)
  refine Cd.region [0] rfl ?_
  refine Seq.rd0 at0 rfl rfl (O.move (v := .bool _) rfl) ?_
  refine Seq.nil ?_
  refine hK7 ?_
  refine Cd.condF rfl ?_
  refine Cd.skip ?_
  refine hK6 ?_
  refine Cd.seq (fun K8 hK8 => ?_)
  refine Cd.seq (fun K9 hK9 => ?_)
  refine Cd.region [0, 1, 2] rfl ?_
  refine Seq.rd0 at0 rfl rfl (O.move (v := .int .i64 _) rfl) ?_
  refine Seq.rd0 at1 rfl rfl (O.move (v := .int .i64 _) rfl) ?_
  refine Seq.rd0 at2 rfl rfl (O.lss rfl rfl) ?_
  refine Seq.nil ?_
  refine hK9 ?_
  refine Cd.if (a < b) rfl (fun t10 => ?_) (fun t10 => ?_)
  · skip
    refine Cd.seq (fun K11 hK11 => ?_)
    refine Cd.region [0] rfl ?_
    refine Seq.rd0 at0 rfl rfl (O.assign (v := .int .i64 _) rfl) ?_
    refine Seq.nil ?_
    refine hK11 ?_
    refine Cd.ret ?_
    exact hR _ _ (Res.one (v := .int .i64 _) rfl rfl) ⟨by simp [cmpI, *], rfl⟩ (.refl _)
  · skip
    refine Cd.skip ?_
    refine hK8 ?_
    refine Cd.seq (fun K12 hK12 => ?_)
    refine Cd.seq (fun K13 hK13 => ?_)
    refine Cd.region [0, 1, 2] rfl ?_
    refine Seq.rd0 at0 rfl rfl (O.move (v := .int .i64 _) rfl) ?_
    refine Seq.rd0 at1 rfl rfl (O.move (v := .int .i64 _) rfl) ?_
    refine Seq.rd0 at2 rfl rfl (O.gtr rfl rfl) ?_
    refine Seq.nil ?_
    refine hK13 ?_
    refine Cd.if (b < a) rfl (fun t14 => ?_) (fun t14 => ?_)
    · skip
      refine Cd.seq (fun K15 hK15 => ?_)
      refine Cd.region [0] rfl ?_
      refine Seq.rd0 at0 rfl rfl (O.assign (v := .int .i64 _) rfl) ?_
      refine Seq.nil ?_
      refine hK15 ?_
      refine Cd.ret ?_
      exact hR _ _ (Res.one (v := .int .i64 _) rfl rfl) ⟨by simp [cmpI, *], rfl⟩ (.refl _)
    · skip
      refine Cd.skip ?_
      refine hK12 ?_
      refine Cd.seq (fun K16 hK16 => ?_)
      refine Cd.region [0] rfl ?_
      refine Seq.rd0 at0 rfl rfl (O.assign (v := .int .i64 _) rfl) ?_
      refine Seq.nil ?_
      refine hK16 ?_
      refine Cd.ret ?_
      exact hR _ _ (Res.one (v := .int .i64 _) rfl rfl) ⟨by simp [cmpI, *], rfl⟩ (.refl _)

set_option maxRecDepth 100000 in
set_option maxHeartbeats 2000000 in
theorem C_Compare_uint8 {c : Cx} {L : List Pt} {a b : Int} : Fn Tryz.prog 197 #[.int .u8 a, .int .u8 b] c L (fun v L' => v = .int .i64 (cmpI a b) ∧ L' = L) := by
  refine Fn.enter Tryz.func197 rfl 20 rfl rfl (fun R hR => ?_)
  refine Cd.seq (fun K1 hK1 => ?_)
  refine Cd.region [0] rfl ?_
  refine Seq.rd0 at0 rfl rfl (O.assign (v := .int .i64 _) rfl) ?_
  refine Seq.nil ?_
  refine hK1 ?_
  refine Cd.seq (fun K2 hK2 => ?_)
  refine Cd.region [0, 1, 2] rfl ?_
  refine Seq.rd0 at0 rfl rfl (O.move (v := .int .u8 _) rfl) ?_
  refine Seq.op at1 rfl (Op.callF rfl hb_236 C_isNaN_uint8 rfl ?_)
  rintro _ _ ⟨rfl, rfl⟩
  refine Seq.rd0 at2 rfl rfl (O.assign (v := .bool _) rfl) ?_
  refine Seq.nil ?_
  refine hK2 ?_
  refine Cd.seq (fun K3 hK3 => ?_)
  refine Cd.region [0, 1, 2] rfl ?_
  refine Seq.rd0 at0 rfl rfl (O.move (v := .int .u8 _) rfl) ?_
  refine Seq.op at1 rfl (Op.callF rfl hb_236 C_isNaN_uint8 rfl ?_)
  rintro _ _ ⟨rfl, rfl⟩
  refine Seq.rd0 at2 rfl rfl (O.assign (v := .bool _) rfl) ?_
  refine Seq.nil ?_
  refine hK3 ?_
  refine Cd.seq (fun K4 hK4 => ?_)
  refine Cd.seq (fun K5 hK5 => ?_)
  refine Cd.region [0] rfl ?_
  refine Seq.rd0 at0 rfl rfl (O.move (v := .bool _) rfl) ?_
  refine Seq.nil ?_
  refine hK5 ?_
  refine Cd.condF rfl ?_
  refine Cd.skip ?_
  refine hK4 ?_
  refine Cd.seq (fun K6 hK6 => ?_)
  refine Cd.seq (fun K7 hK7 => ?_)
  refine Cd.region [0] rfl ?_
  refine Seq.rd0 at0 rfl rfl (O.move (v := .bool _) rfl) ?_
  refine Seq.nil ?_
  refine hK7 ?_
  refine Cd.condF rfl ?_
  refine Cd.skip ?_
  refine hK6 ?_
  refine Cd.seq (fun K8 hK8 => ?_)
  refine Cd.seq (fun K9 hK9 => ?_)
  refine Cd.region [0, 1, 2] rfl ?_
  refine Seq.rd0 at0 rfl rfl (O.move (v := .int .u8 _) rfl) ?_
  refine Seq.rd0 at1 rfl rfl (O.move (v := .int .u8 _) rfl) ?_
  refine Seq.rd0 at2 rfl rfl (O.lss rfl rfl) ?_
  refine Seq.nil ?_
  refine hK9 ?_
  refine Cd.if (a < b) rfl (fun t10 => ?_) (fun t10 => ?_)
  · skip
    refine Cd.seq (fun K11 hK11 => ?_)
    refine Cd.region [0] rfl ?_
    refine Seq.rd0 at0 rfl rfl (O.assign (v := .int .i64 _) rfl) ?_
    refine Seq.nil ?_
    refine hK11 ?_
    refine Cd.ret ?_
    exact hR _ _ (Res.one (v := .int .i64 _) rfl rfl) ⟨by simp [cmpI, *], rfl⟩ (.refl _)
  · skip
    refine Cd.skip ?_
    refine hK8 ?_
    refine Cd.seq (fun K12 hK12 => ?_)
    refine Cd.seq (fun K13 hK13 => ?_)
    refine Cd.region [0, 1, 2] rfl ?_
    refine Seq.rd0 at0 rfl rfl (O.move (v := .int .u8 _) rfl) ?_
    refine Seq.rd0 at1 rfl rfl (O.move (v := .int .u8 _) rfl) ?_
    refine Seq.rd0 at2 rfl rfl (O.gtr rfl rfl) ?_
    refine Seq.nil ?_
    refine hK13 ?_
    refine Cd.if (b < a) rfl (fun t14 => ?_) (fun t14 => ?_)
    · skip
      refine Cd.seq (fun K15 hK15 => ?_)
      refine Cd.region [0] rfl ?_
      refine Seq.rd0 at0 rfl rfl (O.assign (v := .int .i64 _) rfl) ?_
      refine Seq.nil ?_
      refine hK15 ?_
      refine Cd.ret ?_
      exact hR _ _ (Res.one (v := .int .i64 _) rfl rfl) ⟨by simp [cmpI, *], rfl⟩ (.refl _)
    · skip
      refine Cd.skip ?_
      refine hK12 ?_
      refine Cd.seq (fun K16 hK16 => ?_)
      refine Cd.region [0] rfl ?_
      refine Seq.rd0 at0 rfl rfl (O.assign (v := .int .i64 _) rfl) ?_
      refine Seq.nil ?_
      refine hK16 ?_
      refine Cd.ret ?_
      exact hR _ _ (Res.one (v := .int .i64 _) rfl rfl) ⟨by simp [cmpI, *], rfl⟩ (.refl _)

end Go.X

namespace Go.X
open Go.Proofs
theorem ds_34 : isDesc Tryz.prog 34 = 5 := by kernel_rfl
theorem fo_24_0 : fieldOff Tryz.prog 24 0 = some 0 := by kernel_rfl
theorem kd_2 : kindOf Tryz.prog 2 = some (false, 1) := by kernel_rfl
theorem kd_3 : kindOf Tryz.prog 3 = some (false, 1) := by kernel_rfl
theorem sl_34 : sliceOf Tryz.prog 34 = some (3, 1) := by kernel_rfl
set_option maxRecDepth 100000 in
set_option maxHeartbeats 2000000 in
theorem C_stamp_Good {c : Cx} {L : List Pt} {a : Stamp} : Fn Tryz.prog 98 #[.agg (Stamp_enc a)] c L (fun v L' => v = .bool (decide a.good) ∧ L' = L) := by
  refine Fn.enter Tryz.func98 rfl 11 rfl rfl (fun R hR => ?_)
  refine Cd.seq (fun K1 hK1 => ?_)
  refine Cd.region [0, 1] rfl ?_
  refine Seq.op at0 rfl (Op.new rfl (O.box (v := .agg _) rfl (cs := (Stamp_enc a)) rfl) ?_)
  intro b2 hb2
  refine Seq.rd0 at1 rfl rfl (O.assign (v := .bool _) rfl) ?_
  refine Seq.nil ?_
  refine hK1 ?_
  refine Cd.seq (fun K3 hK3 => ?_)
  refine Cd.region [0, 1, 2, 3, 4, 5, 6, 7, 8] rfl ?_
  refine Seq.rd0 at0 rfl rfl (O.field fo_24_0 rfl) ?_
  refine Seq.rd1 at1 rfl rfl (O.load kd_2 rfl (Stamp_t _)) Rd.head ?_
  refine Seq.rd0 at2 rfl rfl (O.geq rfl rfl) ?_
  refine Seq.rd0 at3 rfl rfl (O.move (v := .bool _) rfl) ?_
  by_cases t4 : (0 : Int) ≤ a.t
  · rw [decide_eq_true t4]
    refine Seq.rd0 at4 rfl rfl (O.field fo_24_0 rfl) ?_
    refine Seq.rd1 at5 rfl rfl (O.load kd_2 rfl (Stamp_t _)) Rd.head ?_
    refine Seq.rd0 at6 rfl rfl (O.leq rfl rfl) ?_
    refine Seq.rd0 at7 rfl rfl (O.pickT (v := .bool _) rfl rfl) ?_
    refine Seq.rd0 at8 rfl rfl (O.assign (v := .bool _) rfl) ?_
    refine Seq.nil ?_
    refine hK3 ?_
    refine Cd.ret ?_
    exact hR _ _ (Res.one (v := .bool _) rfl rfl) ⟨by simp [Stamp.good, *], rfl⟩ (.cons _ (.refl _))
  · rw [decide_eq_false t4]
    refine Seq.pass at4 rfl rfl ?_
    refine Seq.pass at5 rfl rfl ?_
    refine Seq.pass at6 rfl rfl ?_
    refine Seq.rd0 at7 rfl rfl (O.pickF (v := .bool _) rfl rfl) ?_
    refine Seq.rd0 at8 rfl rfl (O.assign (v := .bool _) rfl) ?_
    refine Seq.nil ?_
    refine hK3 ?_
    refine Cd.ret ?_
    exact hR _ _ (Res.one (v := .bool _) rfl rfl) ⟨by simp [Stamp.good, *], rfl⟩ (.cons _ (.refl _))

def intRow (xs : List Int) : Array Value := (xs.map (Value.int .i64)).toArray
theorem intRow_get {xs : List Int} {i : Nat} (h : i < xs.length) : (intRow xs)[0 + ((i : Nat) : Int).toNat * 1]? = some (.int .i64 (xs.getD i 0)) := by
  simp [intRow, h]
def orL : List Int → Int
  | [] => 0
  | x :: l => if x = 0 then orL l else x
theorem orL_hit : ∀ {xs : List Int} {i : Nat}, i < xs.length → (∀ j, j < i → xs.getD j 0 = 0) → xs.getD i 0 ≠ 0 → xs.getD i 0 = orL xs
  | x :: l, 0, _, _, h => by have : x ≠ 0 := by simpa using h
                             simp [orL, this]
  | x :: l, i + 1, hi, h0, h => by
    have hx : x = 0 := by simpa using h0 0 (by omega)
    have := orL_hit (xs := l) (i := i) (by simpa using hi) (fun j hj => by simpa using h0 (j + 1) (by omega)) (by simpa using h)
    simp only [orL, hx, if_true]
    simpa using this
theorem orL_miss : ∀ {xs : List Int}, (∀ j, j < xs.length → xs.getD j 0 = 0) → orL xs = 0
  | [], _ => rfl
  | x :: l, h => by
    have hx : x = 0 := by simpa using h 0 (by simp)
    simp only [orL, hx, if_true]
    exact orL_miss (fun j hj => by simpa using h (j + 1) (by simpa using hj))

set_option maxRecDepth 100000 in
set_option maxHeartbeats 2000000 in
theorem C_Or_int {c : Cx} {L : List Pt} {p : Nat} {xs : List Int} {el : TypeId} {fz : Nat × Nat} (hl : xs.length < 4611686018427387904) (hp : Rd c L p (.cells (intRow xs) el fz)) : Fn Tryz.prog 195 #[.slice (some ⟨p, 0, none⟩) xs.length xs.length] c L (fun v L' => v = .int .i64 (orL xs) ∧ L' = L) := by
  refine Fn.enter Tryz.func195 rfl 18 rfl rfl (fun R hR => ?_)
  refine Cd.seq (fun K1 hK1 => ?_)
  refine Cd.region [0] rfl ?_
  refine Seq.rd0 at0 rfl rfl (O.assign (v := .int .i64 _) rfl) ?_
  refine Seq.nil ?_
  refine hK1 ?_
  refine Cd.seq (fun K2 hK2 => ?_)
  refine Cd.region [0] rfl ?_
  refine Seq.rd0 at0 rfl rfl (O.assign (v := .int .i64 _) rfl) ?_
  refine Seq.nil ?_
  refine hK2 ?_
  refine Cd.seq (fun K3 hK3 => ?_)
  refine Cd.seq (fun K4 hK4 => ?_)
  refine Cd.region [0, 1, 2] rfl ?_
  refine Seq.rd0 at0 rfl rfl (O.move (v := .slice _ _ _) rfl) ?_
  refine Seq.rd0 at1 rfl rfl (O.lenS ds_34 rfl) ?_
  refine Seq.rd0 at2 rfl rfl (O.move (v := .int .i64 _) rfl) ?_
  refine Seq.nil ?_
  refine hK4 ?_
  refine Cd.block ?_
  refine Cd.loop (fun m5 e6 L7 => ∃ i : Nat, m5 = xs.length - i ∧ e6 3 = .int .i64 0 ∧ e6 6 = .slice (some ⟨p, 0, none⟩) xs.length xs.length ∧ e6 7 = .int .i64 (xs.length : Int) ∧ e6 8 = .int .i64 (i : Int) ∧ L7 = L ∧ i ≤ xs.length ∧ (∀ j, j < i → xs.getD j 0 = 0)) _ ⟨0, rfl, rfl, rfl, rfl, rfl, rfl, by omega, fun j hj => absurd hj (by omega)⟩ ?_
  rintro _ e6 _ ⟨i, rfl, s8, s9, s10, s11, rfl, hi, h0⟩ K12 hK12
  refine Cd.seq (fun K13 hK13 => ?_)
  refine Cd.region [0] rfl ?_
  refine Seq.rd0 at0 rfl rfl (O.lss (by exact s11) (by exact s10)) ?_
  refine Seq.nil ?_
  refine hK13 ?_
  refine Cd.seq (fun K14 hK14 => ?_)
  refine Cd.if ((i : Int) < (xs.length : Int)) rfl (fun t15 => ?_) (fun t15 => ?_)
  · skip
    refine Cd.skip ?_
    refine hK14 ?_
    refine Cd.seq (fun K16 hK16 => ?_)
    refine Cd.block ?_
    refine Cd.seq (fun K17 hK17 => ?_)
    refine Cd.region [0, 1, 2] rfl ?_
    refine Seq.rd0 at0 rfl rfl (O.index sl_34 (by exact s9) (by exact s11) (by omega) (by omega)) ?_
    refine Seq.rd1 at1 rfl rfl (O.load kd_3 rfl (intRow_get (by omega))) hp ?_
    refine Seq.rd0 at2 rfl rfl (O.assign (v := .int .i64 _) rfl) ?_
    refine Seq.nil ?_
    refine hK17 ?_
    refine Cd.seq (fun K18 hK18 => ?_)
    refine Cd.region [0, 1, 2] rfl ?_
    refine Seq.rd0 at0 rfl rfl (O.move (v := .int .i64 _) rfl) ?_
    refine Seq.rd0 at1 rfl rfl (O.move (v := .int .i64 _) (by exact s8)) ?_
    refine Seq.rd0 at2 rfl rfl (O.neI rfl rfl) ?_
    refine Seq.nil ?_
    refine hK18 ?_
    refine Cd.ifn ((xs.getD i 0) = 0) rfl (fun t19 => ?_) (fun t19 => ?_)
    · skip
      refine Cd.seq (fun K20 hK20 => ?_)
      refine Cd.region [0, 1] rfl ?_
      refine Seq.rd0 at0 rfl rfl (O.move (v := .int .i64 _) rfl) ?_
      refine Seq.rd0 at1 rfl rfl (O.assign (v := .int .i64 _) rfl) ?_
      refine Seq.nil ?_
      refine hK20 ?_
      refine Cd.ret ?_
      exact hR _ _ (Res.one (v := .int .i64 _) rfl rfl) ⟨by rw [orL_hit (by omega) h0 (by assumption)], rfl⟩ (.refl _)
    · skip
      refine Cd.skip ?_
      refine hK16 ?_
      refine Cd.region [0, 1] rfl ?_
      refine Seq.rd0 at0 rfl rfl (O.add (by exact s11) rfl (by omega) (by omega)) ?_
      refine Seq.rd0 at1 rfl rfl (O.move (v := .int .i64 _) rfl) ?_
      refine Seq.nil ?_
      exact hK12 _ (by omega) ⟨i + 1, rfl, (by exact s8), (by exact s9), (by exact s10), rfl, rfl, by omega, fun j hj => by rcases Nat.lt_or_ge j i with h | h; exact h0 j h; (have : j = i := by omega); subst this; assumption⟩
  · skip
    refine Cd.exit ?_
    refine hK3 ?_
    refine Cd.seq (fun K21 hK21 => ?_)
    refine Cd.region [0, 1] rfl ?_
    refine Seq.rd0 at0 rfl rfl (O.move (v := .int .i64 _) (by exact s8)) ?_
    refine Seq.rd0 at1 rfl rfl (O.assign (v := .int .i64 _) rfl) ?_
    refine Seq.nil ?_
    refine hK21 ?_
    refine Cd.ret ?_
    exact hR _ _ (Res.one (v := .int .i64 _) rfl rfl) ⟨by rw [orL_miss (fun j hj => h0 j (by omega))], rfl⟩ (.refl _)

end Go.X

namespace Go.X
open Go.Proofs
theorem ar_45 : arrayOf Tryz.prog 45 = some (16, 5, 1) := by kernel_rfl
theorem fo_24_1 : fieldOff Tryz.prog 24 1 = some 1 := by kernel_rfl
theorem fo_242_0 : fieldOff Tryz.prog 242 0 = some 0 := by kernel_rfl
theorem hb_132 : hasBody Tryz.prog 132 = true := by kernel_rfl
theorem hb_177 : hasBody Tryz.prog 177 = true := by kernel_rfl
theorem hb_195 : hasBody Tryz.prog 195 = true := by kernel_rfl
theorem hb_196 : hasBody Tryz.prog 196 = true := by kernel_rfl
theorem hb_197 : hasBody Tryz.prog 197 = true := by kernel_rfl
theorem kd_24 : kindOf Tryz.prog 24 = some (true, 2) := by kernel_rfl
theorem kd_5 : kindOf Tryz.prog 5 = some (false, 1) := by kernel_rfl
theorem orL_cmp (a b : Stamp) : orL [cmpI a.t b.t, cmpI a.n b.n] = a.cmp b := by
  unfold Stamp.cmp orL orL orL
  by_cases h : cmpI a.t b.t = 0
  · simp [h]; intro h2; exact h2.symm
  · simp [h]

set_option maxRecDepth 100000 in
set_option maxHeartbeats 2000000 in
theorem C_stamp_Cmp {c : Cx} {L : List Pt} {a b : Stamp} : Fn Tryz.prog 132 #[.agg (Stamp_enc a), .agg (Stamp_enc b)] c L (fun v L' => v = .int .i64 (a.cmp b) ∧ L' = L) := by
  refine Fn.enter Tryz.func132 rfl 17 rfl rfl (fun R hR => ?_)
  refine Cd.seq (fun K1 hK1 => ?_)
  refine Cd.region [0, 1, 2] rfl ?_
  refine Seq.op at0 rfl (Op.new rfl (O.box (v := .agg _) rfl (cs := (Stamp_enc a)) rfl) ?_)
  intro b2 hb2
  refine Seq.op at1 rfl (Op.new rfl (O.box (v := .agg _) rfl (cs := (Stamp_enc b)) rfl) ?_)
  intro b3 hb3
  refine Seq.rd0 at2 rfl rfl (O.assign (v := .int .i64 _) rfl) ?_
  refine Seq.nil ?_
  refine hK1 ?_
  refine Cd.seq (fun K4 hK4 => ?_)
  refine Cd.draw 13 rfl po ?_
  refine Any.rd0 0 at0 rfl rfl (O.field fo_24_0 rfl) (by kernel_rfl) (by kernel_rfl) (by kernel_rfl) ?_
  refine Any.rd1 1 at1 rfl rfl (O.load kd_2 rfl (Stamp_t _)) Rd.head.cons (by kernel_rfl) (by kernel_rfl) (by kernel_rfl) ?_
  refine Any.rd0 2 at2 rfl rfl (O.field fo_24_0 rfl) (by kernel_rfl) (by kernel_rfl) (by kernel_rfl) ?_
  refine Any.rd1 3 at3 rfl rfl (O.load kd_2 rfl (Stamp_t _)) Rd.head (by kernel_rfl) (by kernel_rfl) (by kernel_rfl) ?_
  refine Any.rd0 5 at5 rfl rfl (O.field fo_24_1 rfl) (by kernel_rfl) (by kernel_rfl) (by kernel_rfl) ?_
  refine Any.rd1 6 at6 rfl rfl (O.load kd_5 rfl (Stamp_n _)) Rd.head.cons (by kernel_rfl) (by kernel_rfl) (by kernel_rfl) ?_
  refine Any.rd0 7 at7 rfl rfl (O.field fo_24_1 rfl) (by kernel_rfl) (by kernel_rfl) (by kernel_rfl) ?_
  refine Any.rd1 8 at8 rfl rfl (O.load kd_5 rfl (Stamp_n _)) Rd.head (by kernel_rfl) (by kernel_rfl) (by kernel_rfl) ?_
  refine Any.one 4 at4 rfl (by kernel_rfl) ⟨⟨⟨⟨trivial, Rd.head.cons⟩, Rd.head⟩, Rd.head.cons⟩, Rd.head⟩ ?_
  refine Op.callF rfl hb_196 C_Compare_int64 rfl ?_
  rintro _ _ ⟨rfl, rfl⟩
  refine Any.toK ?_
  refine Any.one 9 at9 rfl (by kernel_rfl) ⟨⟨⟨⟨trivial, Rd.head.cons⟩, Rd.head⟩, Rd.head.cons⟩, Rd.head⟩ ?_
  refine Op.callF rfl hb_197 C_Compare_uint8 rfl ?_
  rintro _ _ ⟨rfl, rfl⟩
  refine Any.toK ?_
  refine Any.one 10 at10 rfl (by kernel_rfl) ⟨⟨⟨⟨trivial, Rd.head.cons⟩, Rd.head⟩, Rd.head.cons⟩, Rd.head⟩ ?_
  refine Op.new rfl (O.buildSlice (el := 3) rfl (cs := (intRow [(cmpI a.t b.t), (cmpI a.n b.n)])) (by kernel_rfl)) ?_
  intro b5 hb5
  refine Any.toK ?_
  refine Any.one 11 at11 rfl (by kernel_rfl) ⟨⟨⟨⟨trivial, Rd.head.cons.cons⟩, Rd.head.cons⟩, Rd.head.cons.cons⟩, Rd.head.cons⟩ ?_
  refine Op.callF rfl hb_195 (C_Or_int (by simp) Rd.head) rfl ?_
  rintro _ _ ⟨rfl, rfl⟩
  refine Any.toK ?_
  refine Any.rd0 12 at12 rfl rfl (O.assign (v := .int .i64 _) rfl) (by kernel_rfl) (by kernel_rfl) (by kernel_rfl) ?_
  refine Any.done (by kernel_rfl) ⟨⟨⟨⟨trivial, Rd.head.cons.cons⟩, Rd.head.cons⟩, Rd.head.cons.cons⟩, Rd.head.cons⟩ ?_
  refine hK4 ?_
  refine Cd.ret ?_
  exact hR _ _ (Res.one (v := .int .i64 _) rfl rfl) ⟨by rw [orL_cmp], rfl⟩ (.cons _ (.cons _ (.cons _ (.refl _))))

theorem X_compare {e : Env} {c : Cx} {L : List Pt} {x y : Operand} {d : Option Tmp} {ty : TypeId} {p : String} {af : Array Edge} {g : Option (Nat × Bool)} {tt : Array TypeId} {b1 b2 : Nat} {k1 k2 : Key} {t1 t2 : TypeId} {f1 f2 : Nat × Nat}
    (hx : [x, y].map (ev e) = [.slice (some ⟨b1, 0, none⟩) 16 16, .slice (some ⟨b2, 0, none⟩) 16 16]) (h1 : Rd c L b1 (.cells (Key_enc k1) t1 f1)) (h2 : Rd c L b2 (.cells (Key_enc k2) t2 f2)) :
    Eg Tryz.prog e ⟨d, .call { callee := .value (.func 227), args := #[x, y], argTypes := tt }, ty, p, af, g⟩ c L (fun v L' => v = .int .i64 (Key.cmp k1 k2) ∧ L' = L) := by
  intro w hw
  refine ⟨_, w, L, .inl (run_ext Tryz.func227 (by kernel_rfl) (by kernel_rfl) (by kernel_rfl) (r := Extern.BytealgCompare.compare) (by kernel_rfl) hx (v := .int .i64 (Key.cmp k1 k2)) ?_), ⟨rfl, rfl⟩, hw⟩
  have e1 := run_bytesOf (P := Tryz.prog) (o := 0) (cap := 16) (h1 w hw) k1.l (fun j x hj => by rw [Nat.zero_add]; exact Key_get hj)
  have e2 := run_bytesOf (P := Tryz.prog) (o := 0) (cap := 16) (h2 w hw) k2.l (fun j x hj => by rw [Nat.zero_add]; exact Key_get hj)
  rw [k1.h] at e1
  rw [k2.h] at e2
  change Sem.run Tryz.prog (do pure (goInt (Extern.BytealgCompare.cmp (← Extern.Bytes.bytesOf (.slice (some ⟨b1, 0, none⟩) 16 16)) (← Extern.Bytes.bytesOf (.slice (some ⟨b2, 0, none⟩) 16 16))))) w = _
  simp only [Sem.run_bind, e1, e2, Result.andThen_ok, Sem.run_pure, Lib.cmp_eq, goInt, Key.cmp]

set_option maxRecDepth 100000 in
set_option maxHeartbeats 2000000 in
theorem C_bytes_Compare {c : Cx} {L : List Pt} {b1 b2 : Nat} {k1 k2 : Key} {t1 t2 : TypeId} {f1 f2 : Nat × Nat} (h1 : Rd c L b1 (.cells (Key_enc k1) t1 f1)) (h2 : Rd c L b2 (.cells (Key_enc k2) t2 f2)) : Fn Tryz.prog 177 #[.slice (some ⟨b1, 0, none⟩) 16 16, .slice (some ⟨b2, 0, none⟩) 16 16] c L (fun v L' => v = .int .i64 (Key.cmp k1 k2) ∧ L' = L) := by
  refine Fn.enter Tryz.func177 rfl 8 rfl rfl (fun R hR => ?_)
  refine Cd.seq (fun K1 hK1 => ?_)
  refine Cd.region [0] rfl ?_
  refine Seq.rd0 at0 rfl rfl (O.assign (v := .int .i64 _) rfl) ?_
  refine Seq.nil ?_
  refine hK1 ?_
  refine Cd.seq (fun K2 hK2 => ?_)
  refine Cd.region [0, 1, 2, 3] rfl ?_
  refine Seq.rd0 at0 rfl rfl (O.move (v := .slice _ _ _) rfl) ?_
  refine Seq.rd0 at1 rfl rfl (O.move (v := .slice _ _ _) rfl) ?_
  refine Seq.op at2 rfl (Op.gen rfl (X_compare (by exact rfl) h1 h2) ?_)
  rintro _ _ ⟨rfl, rfl⟩
  refine Seq.rd0 at3 rfl rfl (O.assign (v := .int .i64 _) rfl) ?_
  refine Seq.nil ?_
  refine hK2 ?_
  refine Cd.ret ?_
  exact hR _ _ (Res.one (v := .int .i64 _) rfl rfl) ⟨rfl, rfl⟩ (.refl _)

set_option maxRecDepth 100000 in
set_option maxHeartbeats 2000000 in
theorem C_key_Cmp {c : Cx} {L : List Pt} {a b : Key} : Fn Tryz.prog 101 #[.agg (Key_enc a), .agg (Key_enc b)] c L (fun v L' => v = .int .i64 (a.cmp b) ∧ L' = L) := by
  refine Fn.enter Tryz.func101 rfl 8 rfl rfl (fun R hR => ?_)
  refine Cd.seq (fun K1 hK1 => ?_)
  refine Cd.region [0, 1, 2] rfl ?_
  refine Seq.op at0 rfl (Op.new rfl (O.box (v := .agg _) rfl (cs := (Key_enc a)) rfl) ?_)
  intro b2 hb2
  refine Seq.op at1 rfl (Op.new rfl (O.box (v := .agg _) rfl (cs := (Key_enc b)) rfl) ?_)
  intro b3 hb3
  refine Seq.rd0 at2 rfl rfl (O.assign (v := .int .i64 _) rfl) ?_
  refine Seq.nil ?_
  refine hK1 ?_
  refine Cd.seq (fun K4 hK4 => ?_)
  refine Cd.draw 4 rfl po ?_
  refine Any.rd0 0 at0 rfl rfl (O.sliceA ar_45 rfl) (by kernel_rfl) (by kernel_rfl) (by kernel_rfl) ?_
  refine Any.rd0 1 at1 rfl rfl (O.sliceA ar_45 rfl) (by kernel_rfl) (by kernel_rfl) (by kernel_rfl) ?_
  refine Any.one 2 at2 rfl (by kernel_rfl) trivial ?_
  refine Op.callF rfl hb_177 (C_bytes_Compare Rd.head.cons Rd.head) rfl ?_
  rintro _ _ ⟨rfl, rfl⟩
  refine Any.toK ?_
  refine Any.rd0 3 at3 rfl rfl (O.assign (v := .int .i64 _) rfl) (by kernel_rfl) (by kernel_rfl) (by kernel_rfl) ?_
  refine Any.done (by kernel_rfl) trivial ?_
  refine hK4 ?_
  refine Cd.ret ?_
  exact hR _ _ (Res.one (v := .int .i64 _) rfl rfl) ⟨rfl, rfl⟩ (.cons _ (.cons _ (.refl _)))

set_option maxRecDepth 100000 in
set_option maxHeartbeats 2000000 in
theorem C_place1 {c : Cx} {L : List Pt} {x : Version} {s : Stamp} : Fn Tryz.prog 248 #[.agg (Version_enc x), .agg (Stamp_enc s)] c L (fun v L' => v = .int .i64 (x.stamp.cmp s) ∧ L' = L) := by
  refine Fn.enter Tryz.func248 rfl 9 rfl rfl (fun R hR => ?_)
  refine Cd.seq (fun K1 hK1 => ?_)
  refine Cd.region [0, 1, 2] rfl ?_
  refine Seq.op at0 rfl (Op.new rfl (O.box (v := .agg _) rfl (cs := (Version_enc x)) rfl) ?_)
  intro b2 hb2
  refine Seq.op at1 rfl (Op.new rfl (O.box (v := .agg _) rfl (cs := (Stamp_enc s)) rfl) ?_)
  intro b3 hb3
  refine Seq.rd0 at2 rfl rfl (O.assign (v := .int .i64 _) rfl) ?_
  refine Seq.nil ?_
  refine hK1 ?_
  refine Cd.seq (fun K4 hK4 => ?_)
  refine Cd.region [0, 1, 2, 3, 4] rfl ?_
  refine Seq.rd0 at0 rfl rfl (O.field fo_242_0 rfl) ?_
  refine Seq.rd1 at1 rfl rfl (O.loadA kd_24 rfl (Nat.le_of_ble_eq_true rfl) (Version_stamp _)) Rd.head.cons ?_
  refine Seq.rd1 at2 rfl rfl (O.loadA kd_24 rfl (Nat.le_of_ble_eq_true rfl) (Stamp_all _)) Rd.head ?_
  refine Seq.op at3 rfl (Op.callF rfl hb_132 C_stamp_Cmp rfl ?_)
  rintro _ _ ⟨rfl, rfl⟩
  refine Seq.rd0 at4 rfl rfl (O.assign (v := .int .i64 _) rfl) ?_
  refine Seq.nil ?_
  refine hK4 ?_
  refine Cd.ret ?_
  exact hR _ _ (Res.one (v := .int .i64 _) rfl rfl) ⟨rfl, rfl⟩ (.cons _ (.cons _ (.refl _)))

end Go.X

/- Chains of versions, as plain lists. -/
namespace Go.X

def Stamp.lt (a b : Stamp) : Prop := a.t < b.t ∨ (a.t = b.t ∧ a.n < b.n)
theorem cmp_neg (a b : Stamp) : a.cmp b < 0 ↔ a.lt b := by
  unfold Stamp.cmp Stamp.lt cmpI
  by_cases h1 : a.t < b.t
  · simp [h1]
  · by_cases h2 : b.t < a.t
    · simp [h1, h2]; omega
    · have : a.t = b.t := by omega
      simp [this]
      by_cases h3 : a.n < b.n
      · simp [h3]
      · by_cases h4 : b.n < a.n <;> simp [h3, h4]
theorem cmp_pos (a b : Stamp) : 0 < a.cmp b ↔ b.lt a := by
  unfold Stamp.cmp Stamp.lt cmpI
  by_cases h1 : a.t < b.t
  · simp [h1]; omega
  · by_cases h2 : b.t < a.t
    · simp [h1, h2]
    · have : a.t = b.t := by omega
      simp [this]
      by_cases h3 : a.n < b.n
      · simp [h3]; omega
      · by_cases h4 : b.n < a.n <;> simp [h3, h4]
theorem cmp_zero (a b : Stamp) : a.cmp b = 0 ↔ a = b := by
  constructor
  · intro h
    have h1 : ¬ a.lt b := fun h2 => by have := (cmp_neg a b).2 h2; omega
    have h2 : ¬ b.lt a := fun h2 => by have := (cmp_pos a b).2 h2; omega
    unfold Stamp.lt at h1 h2
    cases a; cases b
    simp only [Stamp.mk.injEq] at *
    omega
  · rintro rfl
    unfold Stamp.cmp cmpI
    simp
theorem Stamp.lt_trans {a b c : Stamp} (h : a.lt b) (k : b.lt c) : a.lt c := by unfold Stamp.lt at *; omega
theorem Stamp.lt_irrefl (a : Stamp) : ¬ a.lt a := by unfold Stamp.lt; omega
theorem Stamp.lt_total (a b : Stamp) : a.lt b ∨ a = b ∨ b.lt a := by
  by_cases h : a.cmp b < 0
  · exact .inl ((cmp_neg a b).1 h)
  · by_cases h2 : 0 < a.cmp b
    · exact .inr (.inr ((cmp_pos a b).1 h2))
    · exact .inr (.inl ((cmp_zero a b).1 (by omega)))

/-- versions in the order of their stamps -/
def Sorted (vs : List Version) : Prop := vs.Pairwise (fun a b => a.stamp.lt b.stamp)
/-- how many versions are below a stamp -/
def below (vs : List Version) (s : Stamp) : Nat := (vs.takeWhile (fun v => decide (v.stamp.cmp s < 0))).length
def hasS (vs : List Version) (s : Stamp) : Bool := vs.any (fun v => decide (v.stamp = s))

theorem below_le (vs : List Version) (s : Stamp) : below vs s ≤ vs.length := by
  unfold below; exact (List.takeWhile_sublist _).length_le
theorem sorted_get {vs : List Version} (h : Sorted vs) {i j : Nat} (hij : i < j) (hj : j < vs.length) : (vs[i]'(by omega)).stamp.lt vs[j].stamp :=
  List.pairwise_iff_getElem.1 h i j (by omega) hj hij
/-- the place: what is ahead of it is below, what is from it on is not -/
theorem below_eq {vs : List Version} {s : Stamp} : ∀ {i : Nat} (hi : i ≤ vs.length) (_h1 : ∀ k (hk : k < i), (vs[k]'(by omega)).stamp.cmp s < 0)
    (_h2 : ∀ (h : i < vs.length), ¬ vs[i].stamp.cmp s < 0), below vs s = i := by
  induction vs with
  | nil => intro i hi _ _; simp at hi; subst hi; rfl
  | cons v vs ih =>
    intro i hi h1 h2
    cases i with
    | zero =>
      have := h2 (by simp)
      simp only [List.getElem_cons_zero] at this
      simp [below, List.takeWhile_cons, this]
    | succ i =>
      have h0 := h1 0 (by omega)
      simp only [List.getElem_cons_zero] at h0
      have := ih (i := i) (by simpa using hi) (fun k hk => by simpa using h1 (k + 1) (by omega)) (fun h => by have h3 := h2 (by simp only [List.length_cons]; omega); simpa only [List.getElem_cons_succ] using h3)
      unfold below at *
      simp [List.takeWhile_cons, h0, this]
theorem below_lt {vs : List Version} {s : Stamp} : ∀ {k : Nat} (_hk : k < below vs s) (h : k < vs.length), vs[k].stamp.lt s := by
  induction vs with
  | nil => intro k _ h; simp at h
  | cons v vs ih =>
    intro k hk h
    by_cases hv : v.stamp.cmp s < 0
    · cases k with
      | zero => exact (cmp_neg _ _).1 hv
      | succ k =>
        have : k < below vs s := by unfold below at *; simp [List.takeWhile_cons, hv] at hk; exact hk
        exact ih this (by simpa using h)
    · unfold below at hk; simp [List.takeWhile_cons, hv] at hk
theorem below_ge {vs : List Version} {s : Stamp} (hs : Sorted vs) : ∀ {k : Nat} (_hk : below vs s ≤ k) (h : k < vs.length), ¬ vs[k].stamp.lt s := by
  induction vs with
  | nil => intro k _ h; simp at h
  | cons v vs ih =>
    intro k hk h
    have hs2 : Sorted vs := (List.pairwise_cons.1 hs).2
    by_cases hv : v.stamp.cmp s < 0
    · cases k with
      | zero => unfold below at hk; simp [List.takeWhile_cons, hv] at hk
      | succ k =>
        have : below vs s ≤ k := by unfold below at *; simp [List.takeWhile_cons, hv] at hk; exact hk
        exact ih hs2 this (by simpa using h)
    · intro hlt
      cases k with
      | zero => exact hv ((cmp_neg _ _).2 hlt)
      | succ k =>
        have h3 := (List.pairwise_cons.1 hs).1 _ (List.getElem_mem (l := vs) (n := k) (by simpa using h))
        exact hv ((cmp_neg _ _).2 (Stamp.lt_trans h3 (by simpa using hlt)))
/-- found: the version at the place -/
theorem hasS_eq {vs : List Version} {s : Stamp} (hs : Sorted vs) : hasS vs s = (if h : below vs s < vs.length then decide (vs[below vs s].stamp = s) else false) := by
  rw [Bool.eq_iff_iff]
  constructor
  · intro h
    obtain ⟨v, hv, hvs⟩ := List.any_eq_true.1 h
    obtain ⟨k, hk, rfl⟩ := List.getElem_of_mem hv
    have hvs : vs[k].stamp = s := by simpa using hvs
    have hkb : k = below vs s := by
      rcases Nat.lt_trichotomy k (below vs s) with h1 | h1 | h1
      · exact absurd (hvs ▸ below_lt h1 hk) (Stamp.lt_irrefl _)
      · exact h1
      · have h2 := sorted_get hs h1 hk
        rw [hvs] at h2
        exact absurd h2 (below_ge hs (Nat.le_refl _) (by omega))
    subst hkb
    rw [dif_pos hk]; simpa using hvs
  · intro h
    split at h
    · rename_i hlt
      exact List.any_eq_true.2 ⟨_, List.getElem_mem hlt, h⟩
    · cases h
end Go.X

/- The engine, part 5: conversions, shifts, append, copy. -/
namespace Go.X
section
variable {P : Program} {n : Sz} {e : Env} {d : Option Tmp} {ty : TypeId} {p : String} {af : Array Edge} {g : Option (Nat × Bool)}
variable {c : Cx} {L : List Pt} {x y z : Operand} {v v' : Value}

def intOf? (P : Program) (t : TypeId) : Option IntKind :=
  match P.underlying t with
  | some (.int k) => some k
  | _ => none
theorem int_under {t : TypeId} {k : IntKind} (h : intOf? P t = some k) : P.underlying t = some (.int k) := by
  unfold intOf? at h; split at h
  · rename_i hu; rw [hu]; simpa using h
  · cases h
theorem wrap_id {k : IntKind} {a : Int} (h0 : 0 ≤ a) (h1 : a < 2 ^ (k.bits - 1)) : k.wrap a = a := by
  have hb : (2 : Int) ^ (k.bits - 1) ≤ 2 ^ k.bits := by cases k <;> decide
  have hm : a % 2 ^ k.bits = a := Int.emod_eq_of_lt h0 (by omega)
  unfold IntKind.wrap
  simp only [hm]
  split
  · rename_i h; simp at h; omega
  · rfl
/-- a conversion that changes nothing -/
theorem O.conv {s t : TypeId} {k k' : IntKind} {a : Int} (hs : intOf? P s = some k') (ht : intOf? P t = some k) (hx : ev e x = .int k' a) (h0 : 0 ≤ a) (h1 : a < 2 ^ (k.bits - 1)) :
    Rn0 P e ⟨d, .convert s t x, ty, p, af, g⟩ (.int k a) := fun w => by
  simp [execOp, hx, convert, run_under (int_under hs), run_under (int_under ht), Conv.intToInt, wrap_id h0 h1]
theorem O.shr1 {t t' : TypeId} {k k' : IntKind} {a : Int} (hx : ev e x = .int k a) (hy : ev e y = .int k' 1) : Rn0 P e ⟨d, .binOp .shr t x y t', ty, p, af, g⟩ (.int k (a / 2)) := fun w => by
  have hb : 1 ≤ k.bits := by cases k <;> decide
  have h := shift_shr k k' a 1 (by decide) (by exact_mod_cast hb)
  refine run_binop hx hy rfl ?_
  show (Op.shift .shr k a k' 1).run P w = _
  rw [h]
  rfl

/-! ## append -/
/-- a value of k elements of sz cells each, that can be read: its cells -/
def Src (c : Cx) (L : List Pt) (sz : Nat) (v : Value) (k : Nat) (cells : Array Value) : Prop :=
  (∃ (a : Option Addr) (cap : Nat), v = .slice a 0 cap ∧ k = 0 ∧ cells = #[]) ∨
  (∃ b o cap cs el fz, v = .slice (some ⟨b, o, none⟩) k cap ∧ Rd c L b (.cells cs el fz) ∧ o + k * sz ≤ cs.size ∧ cs.extract o (o + k * sz) = cells)
theorem Src.size {sz k : Nat} {cells : Array Value} (h : Src c L sz v k cells) : cells.size = k * sz := by
  rcases h with ⟨_, _, _, rfl, rfl⟩ | ⟨b, o, cap, cs, el, fz, _, _, h2, rfl⟩
  · simp
  · simp; omega
theorem Src.run {sz k : Nat} {cells : Array Value} (h : Src c L sz v k cells) {w : World} (hw : St c L w) : (Builtin.firstCells sz k v).run P w = .ok cells w := by
  rcases h with ⟨a, cap, rfl, rfl, rfl⟩ | ⟨b, o, cap, cs, el, fz, rfl, hr, h2, rfl⟩
  · cases a with
    | none => simp [Builtin.firstCells]
    | some a =>
      simp only [Builtin.firstCells, Nat.zero_mul]
      exact run_loadCells w _ 0 (fun _ => undef) (fun j hj => absurd hj (Nat.not_lt_zero j))
  · simp only [Builtin.firstCells]; exact run_loadRow (hr w hw) h2
theorem Src.len {sz k : Nat} {cells : Array Value} (h : Src c L sz v k cells) (w : World) : (Builtin.lenOf v).run P w = .ok k w := by
  rcases h with ⟨a, cap, rfl, rfl, rfl⟩ | ⟨b, o, cap, cs, el, fz, rfl, hr, h2, rfl⟩ <;> simp [Builtin.lenOf]
theorem Src.sub {sz k : Nat} {cells : Array Value} {L' : List Pt} (h : Src c L sz v k cells) (hs : L.Sublist L') : Src c L' sz v k cells := by
  rcases h with h | ⟨b, o, cap, cs, el, fz, h1, hr, h2⟩
  · exact .inl h
  · exact .inr ⟨b, o, cap, cs, el, fz, h1, hr.sub hs, h2⟩

theorem growBy_le (m : Nat) : ∀ (r c : Nat), c ≤ 2 * m + 192 → Builtin.growBy m r c ≤ 2 * m + 192
  | 0, c, h => h
  | r + 1, c, h => by
    simp only [Builtin.growBy]
    split
    · exact h
    · exact growBy_le m r _ (by omega)
theorem nextcap_le {m c : Nat} (h : c < m) : Builtin.nextslicecap m c ≤ 2 * m + 192 := by
  unfold Builtin.nextslicecap
  split
  · omega
  · split
    · omega
    · exact growBy_le m 4 c (by omega)

def elemInfo (P : Program) (t : TypeId) : Option (TypeId × Nat × Nat × Value) :=
  match P.underlying t with
  | some (.slice el) => match P.info? el with
    | some i => match i.zero with
      | some z => if z.cells.size = i.size then some (el, i.size, i.bytes, z) else none
      | none => none
    | none => none
  | _ => none
theorem elem_parts {t el sz by_ : Nat} {z : Value} (h : elemInfo P t = some (el, sz, by_, z)) :
    P.underlying t = some (.slice el) ∧ ∃ i, P.info? el = some i ∧ i.size = sz ∧ i.bytes = by_ ∧ i.zero = some z ∧ z.cells.size = sz := by
  unfold elemInfo at h
  split at h
  · rename_i el' hu
    split at h
    · rename_i i hi
      split at h
      · rename_i z' hz
        split at h
        · rename_i hs
          obtain ⟨rfl, rfl, rfl, rfl⟩ : el' = el ∧ i.size = sz ∧ i.bytes = by_ ∧ z' = z := by simpa using h
          exact ⟨hu, i, hi, rfl, rfl, hz, hs⟩
        · cases h
      · cases h
    · cases h
  · cases h

theorem zeroCells_size (z : Array Value) (m : Nat) : (Builtin.zeroCells z m).size = m * z.size := by simp [Builtin.zeroCells]

/-- 'append(s, x...)' where a new row is made -/
theorem O.appendGrow {t t2 el sz by_ m k cap : Nat} {z : Value} {a : Option Addr} {old new : Array Value} (ht : elemInfo P t = some (el, sz, by_, z)) (ht2 : isDesc P t2 = 5) (hby : by_ ≠ 0)
    (hx : ev e x = .slice a m cap) (hm : Src c L sz (.slice a m cap) m old) (hk : Src c L sz (ev e y) k new) (hgrow : cap < m + k) (hroom : (2 * (m + k) + 192) * by_ ≤ 281474976710656) :
    Eg P e ⟨d, .call { callee := .builtin .append, args := #[x, y], argTypes := #[t, t2] }, ty, p, af, g⟩ c L
      (fun v L' => ∃ b cap' sp, c.w0.heap.size ≤ b ∧ m + k ≤ cap' ∧ sp.size = (cap' - (m + k)) * sz ∧ v = .slice (some ⟨b, 0, none⟩) (m + k) cap' ∧ L' = (b, .cells (old ++ new ++ sp) el (0, 0)) :: L) := by
  intro w hw
  obtain ⟨hu, i, hi, rfl, rfl, hz, hzs⟩ := elem_parts ht
  obtain ⟨el2, hu2⟩ := desc_slice ht2
  have hcapn : ¬ (m + k ≤ cap) := by omega
  have hnext := nextcap_le hgrow
  have h48 : ¬ (Builtin.nextslicecap (m + k) cap * i.bytes > 2 ^ 48) := by
    have : Builtin.nextslicecap (m + k) cap * i.bytes ≤ (2 * (m + k) + 192) * i.bytes := Nat.mul_le_mul_right _ hnext
    have : (2 : Nat) ^ 48 = 281474976710656 := by decide
    omega
  let q : Question := .appendCap (m + k) cap el
  let cap' := q.cut (w.tape w.drawn q)
  have hcap' : m + k ≤ cap' := by show m + k ≤ m + k + _; omega
  let sp := Builtin.zeroCells z.cells (cap' - (m + k))
  have hw' : St c L w.drew := hw.drew _
  refine ⟨_, _, _, .inl ?_, ⟨w.heap.size, cap', sp, hw.mod.size, hcap', by rw [zeroCells_size, hzs], rfl, rfl⟩, hw'.new _⟩
  have hf1 := hm.run (P := P) hw'
  have hf2 := hk.run (P := P) hw'
  have hl := hk.len (P := P) w
  have hzz : zeroOf P el = some z := by simp [zeroOf, hi, hz]
  simp [execOp, resolve, invoke, builtin, Builtin.append_, hx, run_under hu, run_under hu2, run_size hi, run_info hi, hl, hcapn, hby, h48, Question.forced, run_zero hzz, hf1, hf2, newRow, q, cap', sp]
end
end Go.X

namespace Go.X
open Go.Proofs
theorem ds_239 : isDesc Tryz.prog 239 = 5 := by kernel_rfl
theorem hb_248 : hasBody Tryz.prog 248 = true := by kernel_rfl
theorem io_3 : intOf? Tryz.prog 3 = some .i64 := by kernel_rfl
theorem io_307 : intOf? Tryz.prog 307 = some .u64 := by kernel_rfl
theorem kd_242 : kindOf Tryz.prog 242 = some (true, 4) := by kernel_rfl
theorem sl_239 : sliceOf Tryz.prog 239 = some (242, 4) := by kernel_rfl
theorem getN {α : Type} {l : List α} {i : Nat} (h : i < l.length) : l[((i : Nat) : Int).toNat]? = some l[i] := by
  rw [Int.toNat_natCast]; exact List.getElem?_eq_getElem h
theorem bs_up {vs : List Version} {s : Stamp} (hs : Sorted vs) {h : Nat} (hl : h < vs.length) (hc : vs[h].stamp.cmp s < 0) (k : Nat) (hk : k < h + 1) (hkl : k < vs.length) : vs[k].stamp.cmp s < 0 := by
  rcases Nat.lt_or_ge k h with h1 | h1
  · exact (cmp_neg _ _).2 (Stamp.lt_trans (sorted_get hs h1 hl) ((cmp_neg _ _).1 hc))
  · obtain rfl : k = h := by omega
    exact hc
theorem bs_down {vs : List Version} {s : Stamp} (hs : Sorted vs) {h : Nat} (hl : h < vs.length) (hc : ¬ vs[h].stamp.cmp s < 0) (k : Nat) (hk : h ≤ k) (hkl : k < vs.length) : ¬ vs[k].stamp.cmp s < 0 := by
  rcases Nat.lt_or_ge h k with h1 | h1
  · intro h2
    exact hc ((cmp_neg _ _).2 (Stamp.lt_trans (sorted_get hs h1 hkl) ((cmp_neg _ _).1 h2)))
  · obtain rfl : k = h := by omega
    exact hc
theorem bs_end {vs : List Version} {s : Stamp} (hs : Sorted vs) {i j : Nat} (hij : i ≤ j) (hj : j ≤ vs.length) (hn : ¬ (i : Int) < (j : Int))
    (hlo : ∀ k (_ : k < i) (h : k < vs.length), vs[k].stamp.cmp s < 0) (hhi : ∀ k (_ : j ≤ k) (h : k < vs.length), ¬ vs[k].stamp.cmp s < 0) :
    i = below vs s ∧ hasS vs s = (if h : i < vs.length then decide (vs[i].stamp.cmp s = 0) else false) := by
  have hb := below_eq (vs := vs) (s := s) (i := i) (by omega) (fun k hk => hlo k hk (by omega)) (fun h => hhi i (by omega) h)
  refine ⟨hb.symm, ?_⟩
  rw [hasS_eq hs, hb]
  split
  · rename_i h
    rw [Bool.eq_iff_iff]
    simp only [decide_eq_true_eq]
    rw [cmp_zero]
  · rfl

set_option maxRecDepth 100000 in
set_option maxHeartbeats 2000000 in
theorem C_BinarySearch {c : Cx} {L : List Pt} {a cap : Nat} {vs : List Version} {s : Stamp} {sp : Array Value} {el : TypeId} {fz : Nat × Nat} (hs : Sorted vs) (hn : vs.length < 4611686018427387904) (ha : Rd c L a (.cells (rows Version_enc vs ++ sp) el fz)) : Fn Tryz.prog 247 #[.slice (some ⟨a, 0, none⟩) vs.length cap, .agg (Stamp_enc s), .func (.func 248) #[] #[]] c L (fun v L' => v = .tuple #[.int .i64 (below vs s : Nat), .bool (hasS vs s)] ∧ L' = L) := by
  refine Fn.enter Tryz.func247 rfl 49 rfl rfl (fun R hR => ?_)
  refine Cd.seq (fun K1 hK1 => ?_)
  refine Cd.region [0, 1, 2] rfl ?_
  refine Seq.op at0 rfl (Op.new rfl (O.box (v := .agg _) rfl (cs := (Stamp_enc s)) rfl) ?_)
  intro b2 hb2
  refine Seq.rd0 at1 rfl rfl (O.assign (v := .int .i64 _) rfl) ?_
  refine Seq.rd0 at2 rfl rfl (O.assign (v := .bool _) rfl) ?_
  refine Seq.nil ?_
  refine hK1 ?_
  refine Cd.seq (fun K3 hK3 => ?_)
  refine Cd.region [0, 1, 2] rfl ?_
  refine Seq.rd0 at0 rfl rfl (O.move (v := .slice _ _ _) rfl) ?_
  refine Seq.rd0 at1 rfl rfl (O.lenS ds_239 rfl) ?_
  refine Seq.rd0 at2 rfl rfl (O.assign (v := .int .i64 _) rfl) ?_
  refine Seq.nil ?_
  refine hK3 ?_
  refine Cd.seq (fun K4 hK4 => ?_)
  refine Cd.region [0, 1, 2] rfl ?_
  refine Seq.rd0 at0 rfl rfl (O.move (v := .int .i64 _) rfl) ?_
  refine Seq.rd0 at1 rfl rfl (O.assign (v := .int .i64 _) rfl) ?_
  refine Seq.rd0 at2 rfl rfl (O.assign (v := .int .i64 _) rfl) ?_
  refine Seq.nil ?_
  refine hK4 ?_
  refine Cd.seq (fun K5 hK5 => ?_)
  refine Cd.block ?_
  refine Cd.loop (fun m6 e7 L8 => ∃ i : Nat, ∃ j : Nat, m6 = j - i ∧ e7 0 = .slice (some ⟨a, 0, none⟩) vs.length cap ∧ e7 2 = .func (.func 248) #[] #[] ∧ e7 4 = .pointer (some ⟨b2, 0, none⟩) ∧ e7 6 = .int .i64 0 ∧ e7 7 = .bool false ∧ e7 8 = .int .i64 (vs.length : Int) ∧ e7 9 = .int .i64 (i : Int) ∧ e7 10 = .int .i64 (j : Int) ∧ L8 = (b2, .cells (Stamp_enc s) 24 (0, 0)) :: L ∧ i ≤ j ∧ j ≤ vs.length ∧ (∀ k (_ : k < i) (h : k < vs.length), vs[k].stamp.cmp s < 0) ∧ (∀ k (_ : j ≤ k) (h : k < vs.length), ¬ vs[k].stamp.cmp s < 0)) _ ⟨0, vs.length, rfl, rfl, rfl, rfl, rfl, rfl, rfl, rfl, rfl, rfl, Nat.zero_le _, Nat.le_refl _, fun k hk => absurd hk (by omega), fun k hk h => absurd hk (by omega)⟩ ?_
  rintro _ e7 _ ⟨i, j, rfl, s9, s10, s11, s12, s13, s14, s15, s16, rfl, hij, hj, hlo, hhi⟩ K17 hK17
  refine Cd.seq (fun K18 hK18 => ?_)
  refine Cd.seq (fun K19 hK19 => ?_)
  refine Cd.region [0, 1, 2] rfl ?_
  refine Seq.rd0 at0 rfl rfl (O.move (v := .int .i64 _) (by exact s15)) ?_
  refine Seq.rd0 at1 rfl rfl (O.move (v := .int .i64 _) (by exact s16)) ?_
  refine Seq.rd0 at2 rfl rfl (O.lss rfl rfl) ?_
  refine Seq.nil ?_
  refine hK19 ?_
  refine Cd.if ((i : Int) < (j : Int)) rfl (fun t20 => ?_) (fun t20 => ?_)
  · skip
    refine Cd.skip ?_
    refine hK18 ?_
    refine Cd.block ?_
    refine Cd.seq (fun K21 hK21 => ?_)
    refine Cd.region [0, 1, 2, 3, 4, 5, 6] rfl ?_
    refine Seq.rd0 at0 rfl rfl (O.move (v := .int .i64 _) (by exact s15)) ?_
    refine Seq.rd0 at1 rfl rfl (O.move (v := .int .i64 _) (by exact s16)) ?_
    refine Seq.rd0 at2 rfl rfl (O.add rfl rfl (by omega) (by omega)) ?_
    refine Seq.rd0 at3 rfl rfl (O.conv io_3 io_307 rfl (by omega) (by simp only [IntKind.bits]; omega)) ?_
    refine Seq.rd0 at4 rfl rfl (O.shr1 rfl rfl) ?_
    refine Seq.rd0 at5 rfl rfl (O.conv io_307 io_3 rfl (by omega) (by simp only [IntKind.bits]; omega)) ?_
    have hlt : (i + j) / 2 < vs.length := by omega
    refine Seq.rd0 at6 rfl rfl (O.assign (v := .int .i64 (((i + j) / 2 : Nat) : Int)) (by rw [show (((i + j) / 2 : Nat) : Int) = ((i : Int) + (j : Int)) / 2 by omega]; rfl)) ?_
    refine Seq.nil ?_
    refine hK21 ?_
    refine Cd.seq (fun K22 hK22 => ?_)
    refine Cd.draw 8 rfl po ?_
    refine Any.rd0 0 at0 rfl rfl (O.move (v := .func _ _ _) (by exact s10)) (by kernel_rfl) (by kernel_rfl) (by kernel_rfl) ?_
    refine Any.rd0 1 at1 rfl rfl (O.move (v := .slice _ _ _) (by exact s9)) (by kernel_rfl) (by kernel_rfl) (by kernel_rfl) ?_
    refine Any.rd0 2 at2 rfl rfl (O.move (v := .int .i64 _) rfl) (by kernel_rfl) (by kernel_rfl) (by kernel_rfl) ?_
    refine Any.rd0 3 at3 rfl rfl (O.index sl_239 rfl rfl (by omega) (by omega)) (by kernel_rfl) (by kernel_rfl) (by kernel_rfl) ?_
    refine Any.rd1 4 at4 rfl rfl (O.loadA kd_242 rfl (rowRoom Version_size (getN (by omega))) (rowAt Version_size (getN (by omega)))) ha.cons (by kernel_rfl) (by kernel_rfl) (by kernel_rfl) ?_
    refine Any.rd1 5 at5 rfl rfl (O.loadA kd_24 (by exact s11) (Nat.le_of_ble_eq_true rfl) (Stamp_all _)) Rd.head (by kernel_rfl) (by kernel_rfl) (by kernel_rfl) ?_
    refine Any.one 6 at6 rfl (by kernel_rfl) ⟨⟨trivial, ha.cons⟩, Rd.head⟩ ?_
    refine Op.callV rfl hb_248 rfl C_place1 rfl ?_
    rintro _ _ ⟨rfl, rfl⟩
    refine Any.toK ?_
    refine Any.rd0 7 at7 rfl rfl (O.lss rfl rfl) (by kernel_rfl) (by kernel_rfl) (by kernel_rfl) ?_
    refine Any.done (by kernel_rfl) ⟨⟨trivial, ha.cons⟩, Rd.head⟩ ?_
    refine hK22 ?_
    refine Cd.if (((vs[(i + j) / 2]).stamp.cmp s) < 0) rfl (fun t23 => ?_) (fun t23 => ?_)
    · skip
      refine Cd.region [0, 1, 2] rfl ?_
      refine Seq.rd0 at0 rfl rfl (O.move (v := .int .i64 _) rfl) ?_
      refine Seq.rd0 at1 rfl rfl (O.add rfl rfl (by omega) (by omega)) ?_
      refine Seq.rd0 at2 rfl rfl (O.assign (v := .int .i64 _) rfl) ?_
      refine Seq.nil ?_
      exact hK17 _ (by omega) ⟨(i + j) / 2 + 1, j, rfl, (by exact s9), (by exact s10), (by exact s11), (by exact s12), (by exact s13), (by exact s14), rfl, (by exact s16), rfl, by omega, hj, fun k hk h => bs_up hs hlt (by assumption) k (by omega) h, hhi⟩
    · skip
      refine Cd.region [0, 1] rfl ?_
      refine Seq.rd0 at0 rfl rfl (O.move (v := .int .i64 _) rfl) ?_
      refine Seq.rd0 at1 rfl rfl (O.assign (v := .int .i64 _) rfl) ?_
      refine Seq.nil ?_
      exact hK17 _ (by omega) ⟨i, (i + j) / 2, rfl, (by exact s9), (by exact s10), (by exact s11), (by exact s12), (by exact s13), (by exact s14), (by exact s15), rfl, rfl, by omega, by omega, hlo, fun k hk h => bs_down hs hlt (by assumption) k (by omega) h⟩
  · skip
    refine Cd.exit ?_
    refine hK5 ?_
    refine Cd.seq (fun K24 hK24 => ?_)
    refine Cd.draw 16 rfl po ?_
    refine Any.rd0 0 at0 rfl rfl (O.move (v := .int .i64 _) (by exact s15)) (by kernel_rfl) (by kernel_rfl) (by kernel_rfl) ?_
    refine Any.rd0 1 at1 rfl rfl (O.move (v := .int .i64 _) (by exact s15)) (by kernel_rfl) (by kernel_rfl) (by kernel_rfl) ?_
    refine Any.rd0 2 at2 rfl rfl (O.move (v := .int .i64 _) (by exact s14)) (by kernel_rfl) (by kernel_rfl) (by kernel_rfl) ?_
    refine Any.rd0 3 at3 rfl rfl (O.lss rfl rfl) (by kernel_rfl) (by kernel_rfl) (by kernel_rfl) ?_
    refine Any.rd0 4 at4 rfl rfl (O.move (v := .bool _) rfl) (by kernel_rfl) (by kernel_rfl) (by kernel_rfl) ?_
    by_cases t25 : (i : Int) < (vs.length : Int)
    · rw [decide_eq_true t25]
      refine Any.rd0 5 at5 rfl rfl (O.move (v := .func _ _ _) (by exact s10)) (by kernel_rfl) (by kernel_rfl) (by kernel_rfl) ?_
      refine Any.rd0 6 at6 rfl rfl (O.move (v := .slice _ _ _) (by exact s9)) (by kernel_rfl) (by kernel_rfl) (by kernel_rfl) ?_
      refine Any.rd0 7 at7 rfl rfl (O.move (v := .int .i64 _) (by exact s15)) (by kernel_rfl) (by kernel_rfl) (by kernel_rfl) ?_
      refine Any.rd0 8 at8 rfl rfl (O.index sl_239 rfl rfl (by omega) (by omega)) (by kernel_rfl) (by kernel_rfl) (by kernel_rfl) ?_
      refine Any.rd1 9 at9 rfl rfl (O.loadA kd_242 rfl (rowRoom Version_size (getN (by omega))) (rowAt Version_size (getN (by omega)))) ha.cons (by kernel_rfl) (by kernel_rfl) (by kernel_rfl) ?_
      refine Any.rd1 10 at10 rfl rfl (O.loadA kd_24 (by exact s11) (Nat.le_of_ble_eq_true rfl) (Stamp_all _)) Rd.head (by kernel_rfl) (by kernel_rfl) (by kernel_rfl) ?_
      refine Any.one 11 at11 rfl (by kernel_rfl) ⟨⟨trivial, ha.cons⟩, Rd.head⟩ ?_
      refine Op.callV rfl hb_248 rfl C_place1 rfl ?_
      rintro _ _ ⟨rfl, rfl⟩
      refine Any.toK ?_
      refine Any.rd0 12 at12 rfl rfl (O.eqI rfl rfl) (by kernel_rfl) (by kernel_rfl) (by kernel_rfl) ?_
      refine Any.rd0 13 at13 rfl rfl (O.pickT (v := .bool _) rfl rfl) (by kernel_rfl) (by kernel_rfl) (by kernel_rfl) ?_
      refine Any.rd0 14 at14 rfl rfl (O.assign (v := .int .i64 _) rfl) (by kernel_rfl) (by kernel_rfl) (by kernel_rfl) ?_
      refine Any.rd0 15 at15 rfl rfl (O.assign (v := .bool _) rfl) (by kernel_rfl) (by kernel_rfl) (by kernel_rfl) ?_
      refine Any.done (by kernel_rfl) ⟨⟨trivial, ha.cons⟩, Rd.head⟩ ?_
      refine hK24 ?_
      refine Cd.ret ?_
      obtain ⟨e1, e2⟩ := bs_end hs hij hj (by assumption) hlo hhi
      rw [dif_pos (by omega)] at e2
      exact hR _ _ (Res.two (v := .int .i64 _) (v' := .bool _) rfl rfl rfl) ⟨by rw [e2, ← e1], rfl⟩ (.cons _ (.refl _))
    · rw [decide_eq_false t25]
      refine Any.pass 5 at5 rfl rfl (by kernel_rfl) (by kernel_rfl) (by kernel_rfl) ?_
      refine Any.pass 6 at6 rfl rfl (by kernel_rfl) (by kernel_rfl) (by kernel_rfl) ?_
      refine Any.pass 7 at7 rfl rfl (by kernel_rfl) (by kernel_rfl) (by kernel_rfl) ?_
      refine Any.pass 8 at8 rfl rfl (by kernel_rfl) (by kernel_rfl) (by kernel_rfl) ?_
      refine Any.pass 9 at9 rfl rfl (by kernel_rfl) (by kernel_rfl) (by kernel_rfl) ?_
      refine Any.pass 10 at10 rfl rfl (by kernel_rfl) (by kernel_rfl) (by kernel_rfl) ?_
      refine Any.pass 11 at11 rfl rfl (by kernel_rfl) (by kernel_rfl) (by kernel_rfl) ?_
      refine Any.pass 12 at12 rfl rfl (by kernel_rfl) (by kernel_rfl) (by kernel_rfl) ?_
      refine Any.rd0 13 at13 rfl rfl (O.pickF (v := .bool _) rfl rfl) (by kernel_rfl) (by kernel_rfl) (by kernel_rfl) ?_
      refine Any.rd0 14 at14 rfl rfl (O.assign (v := .int .i64 _) rfl) (by kernel_rfl) (by kernel_rfl) (by kernel_rfl) ?_
      refine Any.rd0 15 at15 rfl rfl (O.assign (v := .bool _) rfl) (by kernel_rfl) (by kernel_rfl) (by kernel_rfl) ?_
      refine Any.done (by kernel_rfl) trivial ?_
      refine hK24 ?_
      refine Cd.ret ?_
      obtain ⟨e1, e2⟩ := bs_end hs hij hj (by assumption) hlo hhi
      rw [dif_neg (by omega)] at e2
      exact hR _ _ (Res.two (v := .int .i64 _) (v' := .bool _) rfl rfl rfl) ⟨by rw [e2, ← e1], rfl⟩ (.cons _ (.refl _))

end Go.X

namespace Go.X
open Go.Proofs
theorem fo_300_0 : fieldOff Tryz.prog 300 0 = some 0 := by kernel_rfl
theorem hb_223 : hasBody Tryz.prog 223 = true := by kernel_rfl
theorem hb_247 : hasBody Tryz.prog 247 = true := by kernel_rfl
theorem kd_239 : kindOf Tryz.prog 239 = some (false, 1) := by kernel_rfl
set_option maxRecDepth 100000 in
set_option maxHeartbeats 2000000 in
theorem C_BinarySearch_nil {c : Cx} {L : List Pt} {s : Stamp} : Fn Tryz.prog 247 #[.slice none 0 0, .agg (Stamp_enc s), .func (.func 248) #[] #[]] c L (fun v L' => v = .tuple #[.int .i64 (below [] s : Nat), .bool (hasS [] s)] ∧ L' = L) := by
  refine Fn.enter Tryz.func247 rfl 49 rfl rfl (fun R hR => ?_)
  refine Cd.seq (fun K1 hK1 => ?_)
  refine Cd.region [0, 1, 2] rfl ?_
  refine Seq.op at0 rfl (Op.new rfl (O.box (v := .agg _) rfl (cs := (Stamp_enc s)) rfl) ?_)
  intro b2 hb2
  refine Seq.rd0 at1 rfl rfl (O.assign (v := .int .i64 _) rfl) ?_
  refine Seq.rd0 at2 rfl rfl (O.assign (v := .bool _) rfl) ?_
  refine Seq.nil ?_
  refine hK1 ?_
  refine Cd.seq (fun K3 hK3 => ?_)
  refine Cd.region [0, 1, 2] rfl ?_
  refine Seq.rd0 at0 rfl rfl (O.move (v := .slice _ _ _) rfl) ?_
  refine Seq.rd0 at1 rfl rfl (O.lenS ds_239 rfl) ?_
  refine Seq.rd0 at2 rfl rfl (O.assign (v := .int .i64 _) rfl) ?_
  refine Seq.nil ?_
  refine hK3 ?_
  refine Cd.seq (fun K4 hK4 => ?_)
  refine Cd.region [0, 1, 2] rfl ?_
  refine Seq.rd0 at0 rfl rfl (O.move (v := .int .i64 _) rfl) ?_
  refine Seq.rd0 at1 rfl rfl (O.assign (v := .int .i64 _) rfl) ?_
  refine Seq.rd0 at2 rfl rfl (O.assign (v := .int .i64 _) rfl) ?_
  refine Seq.nil ?_
  refine hK4 ?_
  refine Cd.seq (fun K5 hK5 => ?_)
  refine Cd.block ?_
  refine Cd.loop (fun m6 e7 L8 => m6 = 0 ∧ e7 0 = .slice none 0 0 ∧ e7 2 = .func (.func 248) #[] #[] ∧ e7 4 = .pointer (some ⟨b2, 0, none⟩) ∧ e7 6 = .int .i64 0 ∧ e7 7 = .bool false ∧ e7 8 = .int .i64 0 ∧ e7 9 = .int .i64 0 ∧ e7 10 = .int .i64 0 ∧ L8 = (b2, .cells (Stamp_enc s) 24 (0, 0)) :: L) _ ⟨rfl, rfl, rfl, rfl, rfl, rfl, rfl, rfl, rfl, rfl⟩ ?_
  rintro _ e7 _ ⟨rfl, s9, s10, s11, s12, s13, s14, s15, s16, rfl⟩ K17 hK17
  refine Cd.seq (fun K18 hK18 => ?_)
  refine Cd.seq (fun K19 hK19 => ?_)
  refine Cd.region [0, 1, 2] rfl ?_
  refine Seq.rd0 at0 rfl rfl (O.move (v := .int .i64 _) (by exact s15)) ?_
  refine Seq.rd0 at1 rfl rfl (O.move (v := .int .i64 _) (by exact s16)) ?_
  refine Seq.rd0 at2 rfl rfl (O.lss rfl rfl) ?_
  refine Seq.nil ?_
  refine hK19 ?_
  refine Cd.if ((0 : Int) < 0) rfl (fun t20 => ?_) (fun t20 => ?_)
  · skip
    exact absurd t20 (by decide)
  · skip
    refine Cd.exit ?_
    refine hK5 ?_
    refine Cd.seq (fun K21 hK21 => ?_)
    refine Cd.draw 16 rfl po ?_
    refine Any.rd0 0 at0 rfl rfl (O.move (v := .int .i64 _) (by exact s15)) (by kernel_rfl) (by kernel_rfl) (by kernel_rfl) ?_
    refine Any.rd0 1 at1 rfl rfl (O.move (v := .int .i64 _) (by exact s15)) (by kernel_rfl) (by kernel_rfl) (by kernel_rfl) ?_
    refine Any.rd0 2 at2 rfl rfl (O.move (v := .int .i64 _) (by exact s14)) (by kernel_rfl) (by kernel_rfl) (by kernel_rfl) ?_
    refine Any.rd0 3 at3 rfl rfl (O.lss rfl rfl) (by kernel_rfl) (by kernel_rfl) (by kernel_rfl) ?_
    refine Any.rd0 4 at4 rfl rfl (O.move (v := .bool _) rfl) (by kernel_rfl) (by kernel_rfl) (by kernel_rfl) ?_
    have t22 : ¬ ((0 : Int) < 0) := (by decide)
    rw [decide_eq_false t22]
    refine Any.pass 5 at5 rfl rfl (by kernel_rfl) (by kernel_rfl) (by kernel_rfl) ?_
    refine Any.pass 6 at6 rfl rfl (by kernel_rfl) (by kernel_rfl) (by kernel_rfl) ?_
    refine Any.pass 7 at7 rfl rfl (by kernel_rfl) (by kernel_rfl) (by kernel_rfl) ?_
    refine Any.pass 8 at8 rfl rfl (by kernel_rfl) (by kernel_rfl) (by kernel_rfl) ?_
    refine Any.pass 9 at9 rfl rfl (by kernel_rfl) (by kernel_rfl) (by kernel_rfl) ?_
    refine Any.pass 10 at10 rfl rfl (by kernel_rfl) (by kernel_rfl) (by kernel_rfl) ?_
    refine Any.pass 11 at11 rfl rfl (by kernel_rfl) (by kernel_rfl) (by kernel_rfl) ?_
    refine Any.pass 12 at12 rfl rfl (by kernel_rfl) (by kernel_rfl) (by kernel_rfl) ?_
    refine Any.rd0 13 at13 rfl rfl (O.pickF (v := .bool _) rfl rfl) (by kernel_rfl) (by kernel_rfl) (by kernel_rfl) ?_
    refine Any.rd0 14 at14 rfl rfl (O.assign (v := .int .i64 _) rfl) (by kernel_rfl) (by kernel_rfl) (by kernel_rfl) ?_
    refine Any.rd0 15 at15 rfl rfl (O.assign (v := .bool _) rfl) (by kernel_rfl) (by kernel_rfl) (by kernel_rfl) ?_
    refine Any.done (by kernel_rfl) trivial ?_
    refine hK21 ?_
    refine Cd.ret ?_
    exact hR _ _ (Res.two (v := .int .i64 _) (v' := .bool _) rfl rfl rfl) ⟨rfl, rfl⟩ (.cons _ (.refl _))

/-- a chain of versions that can be read -/
def ChAt (c : Cx) (L : List Pt) (cb : Nat) (vs : List Version) : Prop :=
  (vs = [] ∧ Rd c L cb (.cells #[.slice none 0 0] 300 (0, 0))) ∨
  ∃ a cap sp, Rd c L cb (.cells #[.slice (some ⟨a, 0, none⟩) vs.length cap] 300 (0, 0)) ∧ Rd c L a (.cells (rows Version_enc vs ++ sp) 242 (0, 0))
theorem ChAt.sub {c : Cx} {L L' : List Pt} {cb : Nat} {vs : List Version} (h : ChAt c L cb vs) (hs : L.Sublist L') : ChAt c L' cb vs := by
  rcases h with ⟨h1, h2⟩ | ⟨a, cap, sp, h1, h2⟩
  · exact .inl ⟨h1, h2.sub hs⟩
  · exact .inr ⟨a, cap, sp, h1.sub hs, h2.sub hs⟩
theorem ChAt.cons {c : Cx} {L : List Pt} {cb : Nat} {vs : List Version} {p : Pt} (h : ChAt c L cb vs) : ChAt c (p :: L) cb vs := h.sub (List.sublist_cons_self _ _)

set_option maxRecDepth 100000 in
set_option maxHeartbeats 2000000 in
theorem C_place_nil {c : Cx} {L : List Pt} {cb : Nat} {s : Stamp} (hcb : Rd c L cb (.cells #[.slice none 0 0] 300 (0, 0))) : Fn Tryz.prog 223 #[.pointer (some ⟨cb, 0, none⟩), .agg (Stamp_enc s)] c L (fun v L' => v = .tuple #[.int .i64 (below ([] : List Version) s : Nat), .bool (hasS ([] : List Version) s)] ∧ L' = L) := by
  refine Fn.enter Tryz.func223 rfl 14 rfl rfl (fun R hR => ?_)
  refine Cd.seq (fun K1 hK1 => ?_)
  refine Cd.region [0, 1, 2] rfl ?_
  refine Seq.op at0 rfl (Op.new rfl (O.box (v := .agg _) rfl (cs := (Stamp_enc s)) rfl) ?_)
  intro b2 hb2
  refine Seq.rd0 at1 rfl rfl (O.assign (v := .int .i64 _) rfl) ?_
  refine Seq.rd0 at2 rfl rfl (O.assign (v := .bool _) rfl) ?_
  refine Seq.nil ?_
  refine hK1 ?_
  refine Cd.seq (fun K3 hK3 => ?_)
  refine Cd.draw 10 rfl po ?_
  refine Any.rd0 0 at0 rfl rfl (O.move (v := .pointer _) rfl) (by kernel_rfl) (by kernel_rfl) (by kernel_rfl) ?_
  refine Any.rd0 1 at1 rfl rfl (O.nilP rfl) (by kernel_rfl) (by kernel_rfl) (by kernel_rfl) ?_
  refine Any.rd0 2 at2 rfl rfl (O.field fo_300_0 rfl) (by kernel_rfl) (by kernel_rfl) (by kernel_rfl) ?_
  refine Any.rd1 3 at3 rfl rfl (O.load kd_239 rfl r1_0) hcb.cons (by kernel_rfl) (by kernel_rfl) (by kernel_rfl) ?_
  refine Any.rd1 4 at4 rfl rfl (O.loadA kd_24 rfl (Nat.le_of_ble_eq_true rfl) (Stamp_all _)) Rd.head (by kernel_rfl) (by kernel_rfl) (by kernel_rfl) ?_
  refine Any.one 5 at5 rfl (by kernel_rfl) ⟨⟨trivial, hcb.cons⟩, Rd.head⟩ ?_
  refine Op.callF rfl hb_247 C_BinarySearch_nil rfl ?_
  rintro _ _ ⟨rfl, rfl⟩
  refine Any.toK ?_
  refine Any.rd0 6 at6 rfl rfl (O.ext rfl r2_0) (by kernel_rfl) (by kernel_rfl) (by kernel_rfl) ?_
  refine Any.rd0 7 at7 rfl rfl (O.ext rfl r2_1) (by kernel_rfl) (by kernel_rfl) (by kernel_rfl) ?_
  refine Any.rd0 8 at8 rfl rfl (O.assign (v := .int .i64 _) rfl) (by kernel_rfl) (by kernel_rfl) (by kernel_rfl) ?_
  refine Any.rd0 9 at9 rfl rfl (O.assign (v := .bool _) rfl) (by kernel_rfl) (by kernel_rfl) (by kernel_rfl) ?_
  refine Any.done (by kernel_rfl) ⟨⟨trivial, hcb.cons⟩, Rd.head⟩ ?_
  refine hK3 ?_
  refine Cd.ret ?_
  exact hR _ _ (Res.two (v := .int .i64 _) (v' := .bool _) rfl rfl rfl) ⟨rfl, rfl⟩ (.cons _ (.refl _))

set_option maxRecDepth 100000 in
set_option maxHeartbeats 2000000 in
theorem C_place_some {c : Cx} {L : List Pt} {cb a cap : Nat} {vs : List Version} {sp : Array Value} {s : Stamp} (hs : Sorted vs) (hn : vs.length < 4611686018427387904) (hcb : Rd c L cb (.cells #[.slice (some ⟨a, 0, none⟩) vs.length cap] 300 (0, 0))) (ha : Rd c L a (.cells (rows Version_enc vs ++ sp) 242 (0, 0))) : Fn Tryz.prog 223 #[.pointer (some ⟨cb, 0, none⟩), .agg (Stamp_enc s)] c L (fun v L' => v = .tuple #[.int .i64 (below vs s : Nat), .bool (hasS vs s)] ∧ L' = L) := by
  refine Fn.enter Tryz.func223 rfl 14 rfl rfl (fun R hR => ?_)
  refine Cd.seq (fun K1 hK1 => ?_)
  refine Cd.region [0, 1, 2] rfl ?_
  refine Seq.op at0 rfl (Op.new rfl (O.box (v := .agg _) rfl (cs := (Stamp_enc s)) rfl) ?_)
  intro b2 hb2
  refine Seq.rd0 at1 rfl rfl (O.assign (v := .int .i64 _) rfl) ?_
  refine Seq.rd0 at2 rfl rfl (O.assign (v := .bool _) rfl) ?_
  refine Seq.nil ?_
  refine hK1 ?_
  refine Cd.seq (fun K3 hK3 => ?_)
  refine Cd.draw 10 rfl po ?_
  refine Any.rd0 0 at0 rfl rfl (O.move (v := .pointer _) rfl) (by kernel_rfl) (by kernel_rfl) (by kernel_rfl) ?_
  refine Any.rd0 1 at1 rfl rfl (O.nilP rfl) (by kernel_rfl) (by kernel_rfl) (by kernel_rfl) ?_
  refine Any.rd0 2 at2 rfl rfl (O.field fo_300_0 rfl) (by kernel_rfl) (by kernel_rfl) (by kernel_rfl) ?_
  refine Any.rd1 3 at3 rfl rfl (O.load kd_239 rfl r1_0) hcb.cons (by kernel_rfl) (by kernel_rfl) (by kernel_rfl) ?_
  refine Any.rd1 4 at4 rfl rfl (O.loadA kd_24 rfl (Nat.le_of_ble_eq_true rfl) (Stamp_all _)) Rd.head (by kernel_rfl) (by kernel_rfl) (by kernel_rfl) ?_
  refine Any.one 5 at5 rfl (by kernel_rfl) ⟨⟨trivial, hcb.cons⟩, Rd.head⟩ ?_
  refine Op.callF rfl hb_247 (C_BinarySearch hs hn ha.cons) rfl ?_
  rintro _ _ ⟨rfl, rfl⟩
  refine Any.toK ?_
  refine Any.rd0 6 at6 rfl rfl (O.ext rfl r2_0) (by kernel_rfl) (by kernel_rfl) (by kernel_rfl) ?_
  refine Any.rd0 7 at7 rfl rfl (O.ext rfl r2_1) (by kernel_rfl) (by kernel_rfl) (by kernel_rfl) ?_
  refine Any.rd0 8 at8 rfl rfl (O.assign (v := .int .i64 _) rfl) (by kernel_rfl) (by kernel_rfl) (by kernel_rfl) ?_
  refine Any.rd0 9 at9 rfl rfl (O.assign (v := .bool _) rfl) (by kernel_rfl) (by kernel_rfl) (by kernel_rfl) ?_
  refine Any.done (by kernel_rfl) ⟨⟨trivial, hcb.cons⟩, Rd.head⟩ ?_
  refine hK3 ?_
  refine Cd.ret ?_
  exact hR _ _ (Res.two (v := .int .i64 _) (v' := .bool _) rfl rfl rfl) ⟨rfl, rfl⟩ (.cons _ (.refl _))

theorem C_place {c : Cx} {L : List Pt} {cb : Nat} {vs : List Version} {s : Stamp} (hs : Sorted vs) (hn : vs.length < 4611686018427387904) (h : ChAt c L cb vs) : Fn Tryz.prog 223 #[.pointer (some ⟨cb, 0, none⟩), .agg (Stamp_enc s)] c L (fun v L' => v = .tuple #[.int .i64 (below vs s : Nat), .bool (hasS vs s)] ∧ L' = L) := by
  rcases h with ⟨rfl, h1⟩ | ⟨a, cap, sp, h1, h2⟩
  · exact C_place_nil h1
  · exact C_place_some hs hn h1 h2

set_option maxRecDepth 100000 in
set_option maxHeartbeats 2000000 in
theorem C_chain_Has {c : Cx} {L : List Pt} {cb : Nat} {vs : List Version} {s : Stamp} (hs : Sorted vs) (hn : vs.length < 4611686018427387904) (hc : ChAt c L cb vs) : Fn Tryz.prog 171 #[.pointer (some ⟨cb, 0, none⟩), .agg (Stamp_enc s)] c L (fun v L' => v = .bool (hasS vs s) ∧ L' = L) := by
  refine Fn.enter Tryz.func171 rfl 14 rfl rfl (fun R hR => ?_)
  refine Cd.seq (fun K1 hK1 => ?_)
  refine Cd.region [0, 1] rfl ?_
  refine Seq.op at0 rfl (Op.new rfl (O.box (v := .agg _) rfl (cs := (Stamp_enc s)) rfl) ?_)
  intro b2 hb2
  refine Seq.rd0 at1 rfl rfl (O.assign (v := .bool _) rfl) ?_
  refine Seq.nil ?_
  refine hK1 ?_
  refine Cd.seq (fun K3 hK3 => ?_)
  refine Cd.region [0, 1, 2, 3, 4, 5, 6, 7] rfl ?_
  refine Seq.rd0 at0 rfl rfl (O.move (v := .pointer _) rfl) ?_
  refine Seq.rd1 at1 rfl rfl (O.loadA kd_24 rfl (Nat.le_of_ble_eq_true rfl) (Stamp_all _)) Rd.head ?_
  refine Seq.op at2 rfl (Op.callF rfl hb_223 (C_place hs hn hc.cons) rfl ?_)
  rintro _ _ ⟨rfl, rfl⟩
  refine Seq.rd0 at3 rfl rfl (O.move (v := .tuple _) rfl) ?_
  refine Seq.rd0 at4 rfl rfl (O.ext rfl r2_0) ?_
  refine Seq.rd0 at5 rfl rfl (O.ext rfl r2_1) ?_
  refine Seq.rd0 at6 rfl rfl (O.assign (v := .int .i64 _) rfl) ?_
  refine Seq.rd0 at7 rfl rfl (O.assign (v := .bool _) rfl) ?_
  refine Seq.nil ?_
  refine hK3 ?_
  refine Cd.seq (fun K4 hK4 => ?_)
  refine Cd.region [0, 1] rfl ?_
  refine Seq.rd0 at0 rfl rfl (O.move (v := .bool _) rfl) ?_
  refine Seq.rd0 at1 rfl rfl (O.assign (v := .bool _) rfl) ?_
  refine Seq.nil ?_
  refine hK4 ?_
  refine Cd.ret ?_
  exact hR _ _ (Res.one (v := .bool _) rfl rfl) ⟨rfl, rfl⟩ (.cons _ (.refl _))

/-- how many versions are not above a stamp -/
def upto (vs : List Version) (s : Stamp) : Nat := if hasS vs s then below vs s + 1 else below vs s
theorem upto_le {vs : List Version} {s : Stamp} (hs : Sorted vs) : upto vs s ≤ vs.length := by
  unfold upto
  split
  · rename_i h
    rw [hasS_eq hs] at h
    split at h
    · omega
    · cases h
  · exact below_le vs s

set_option maxRecDepth 100000 in
set_option maxHeartbeats 2000000 in
theorem C_until {c : Cx} {L : List Pt} {cb : Nat} {vs : List Version} {s : Stamp} (hs : Sorted vs) (hn : vs.length < 4611686018427387904) (hc : ChAt c L cb vs) : Fn Tryz.prog 226 #[.pointer (some ⟨cb, 0, none⟩), .agg (Stamp_enc s)] c L (fun v L' => v = .int .i64 (upto vs s : Nat) ∧ L' = L) := by
  have hbl := below_le vs s
  refine Fn.enter Tryz.func226 rfl 17 rfl rfl (fun R hR => ?_)
  refine Cd.seq (fun K1 hK1 => ?_)
  refine Cd.region [0, 1] rfl ?_
  refine Seq.op at0 rfl (Op.new rfl (O.box (v := .agg _) rfl (cs := (Stamp_enc s)) rfl) ?_)
  intro b2 hb2
  refine Seq.rd0 at1 rfl rfl (O.assign (v := .int .i64 _) rfl) ?_
  refine Seq.nil ?_
  refine hK1 ?_
  refine Cd.seq (fun K3 hK3 => ?_)
  refine Cd.region [0, 1, 2, 3, 4, 5, 6, 7] rfl ?_
  refine Seq.rd0 at0 rfl rfl (O.move (v := .pointer _) rfl) ?_
  refine Seq.rd1 at1 rfl rfl (O.loadA kd_24 rfl (Nat.le_of_ble_eq_true rfl) (Stamp_all _)) Rd.head ?_
  refine Seq.op at2 rfl (Op.callF rfl hb_223 (C_place hs hn hc.cons) rfl ?_)
  rintro _ _ ⟨rfl, rfl⟩
  refine Seq.rd0 at3 rfl rfl (O.move (v := .tuple _) rfl) ?_
  refine Seq.rd0 at4 rfl rfl (O.ext rfl r2_0) ?_
  refine Seq.rd0 at5 rfl rfl (O.ext rfl r2_1) ?_
  refine Seq.rd0 at6 rfl rfl (O.assign (v := .int .i64 _) rfl) ?_
  refine Seq.rd0 at7 rfl rfl (O.assign (v := .bool _) rfl) ?_
  refine Seq.nil ?_
  refine hK3 ?_
  refine Cd.seq (fun K4 hK4 => ?_)
  refine Cd.seq (fun K5 hK5 => ?_)
  refine Cd.region [0] rfl ?_
  refine Seq.rd0 at0 rfl rfl (O.move (v := .bool _) rfl) ?_
  refine Seq.nil ?_
  refine hK5 ?_
  refine Cd.cond ((hasS vs s)) rfl (fun t6 => ?_) (fun t6 => ?_)
  · skip
    refine Cd.region [0, 1, 2] rfl ?_
    refine Seq.rd0 at0 rfl rfl (O.move (v := .int .i64 _) rfl) ?_
    refine Seq.rd0 at1 rfl rfl (O.add rfl rfl (by omega) (by omega)) ?_
    refine Seq.rd0 at2 rfl rfl (O.assign (v := .int .i64 _) rfl) ?_
    refine Seq.nil ?_
    refine hK4 ?_
    refine Cd.seq (fun K7 hK7 => ?_)
    refine Cd.region [0, 1] rfl ?_
    refine Seq.rd0 at0 rfl rfl (O.move (v := .int .i64 _) rfl) ?_
    refine Seq.rd0 at1 rfl rfl (O.assign (v := .int .i64 _) rfl) ?_
    refine Seq.nil ?_
    refine hK7 ?_
    refine Cd.ret ?_
    exact hR _ _ (Res.one (v := .int .i64 _) rfl rfl) ⟨by simp [upto, t6], rfl⟩ (.cons _ (.refl _))
  · skip
    refine Cd.skip ?_
    refine hK4 ?_
    refine Cd.seq (fun K8 hK8 => ?_)
    refine Cd.region [0, 1] rfl ?_
    refine Seq.rd0 at0 rfl rfl (O.move (v := .int .i64 _) rfl) ?_
    refine Seq.rd0 at1 rfl rfl (O.assign (v := .int .i64 _) rfl) ?_
    refine Seq.nil ?_
    refine hK8 ?_
    refine Cd.ret ?_
    exact hR _ _ (Res.one (v := .int .i64 _) rfl rfl) ⟨by simp [upto, t6], rfl⟩ (.cons _ (.refl _))

end Go.X

namespace Go.X
open Go.Proofs
theorem hb_226 : hasBody Tryz.prog 226 = true := by kernel_rfl
theorem zo_242 : zeroOf Tryz.prog 242 = some (.agg #[.int .i64 0, .int .u8 0, .string ⟨#[]⟩, .bool false]) := by kernel_rfl
set_option maxRecDepth 100000 in
set_option maxHeartbeats 2000000 in
theorem C_chain_Len_nil {c : Cx} {L : List Pt} {cb : Nat}  (hcb : Rd c L cb (.cells #[.slice none 0 0] 300 (0, 0))) : Fn Tryz.prog 205 #[.pointer (some ⟨cb, 0, none⟩)] c L (fun v L' => v = .int .i64 (([] : List Version).length : Nat) ∧ L' = L) := by
  refine Fn.enter Tryz.func205 rfl 8 rfl rfl (fun R hR => ?_)
  refine Cd.seq (fun K1 hK1 => ?_)
  refine Cd.region [0] rfl ?_
  refine Seq.rd0 at0 rfl rfl (O.assign (v := .int .i64 _) rfl) ?_
  refine Seq.nil ?_
  refine hK1 ?_
  refine Cd.seq (fun K2 hK2 => ?_)
  refine Cd.region [0, 1, 2, 3, 4, 5] rfl ?_
  refine Seq.rd0 at0 rfl rfl (O.move (v := .pointer _) rfl) ?_
  refine Seq.rd0 at1 rfl rfl (O.nilP rfl) ?_
  refine Seq.rd0 at2 rfl rfl (O.field fo_300_0 rfl) ?_
  refine Seq.rd1 at3 rfl rfl (O.load kd_239 rfl r1_0) hcb ?_
  refine Seq.rd0 at4 rfl rfl (O.lenS ds_239 rfl) ?_
  refine Seq.rd0 at5 rfl rfl (O.assign (v := .int .i64 _) rfl) ?_
  refine Seq.nil ?_
  refine hK2 ?_
  refine Cd.ret ?_
  exact hR _ _ (Res.one (v := .int .i64 _) rfl rfl) ⟨rfl, rfl⟩ (.refl _)

set_option maxRecDepth 100000 in
set_option maxHeartbeats 2000000 in
theorem C_chain_Len_some {c : Cx} {L : List Pt} {cb a cap : Nat} {vs : List Version} {sp : Array Value}  (hn : vs.length < 4611686018427387904) (hcb : Rd c L cb (.cells #[.slice (some ⟨a, 0, none⟩) vs.length cap] 300 (0, 0))) (ha : Rd c L a (.cells (rows Version_enc vs ++ sp) 242 (0, 0))) : Fn Tryz.prog 205 #[.pointer (some ⟨cb, 0, none⟩)] c L (fun v L' => v = .int .i64 (vs.length : Nat) ∧ L' = L) := by
  refine Fn.enter Tryz.func205 rfl 8 rfl rfl (fun R hR => ?_)
  refine Cd.seq (fun K1 hK1 => ?_)
  refine Cd.region [0] rfl ?_
  refine Seq.rd0 at0 rfl rfl (O.assign (v := .int .i64 _) rfl) ?_
  refine Seq.nil ?_
  refine hK1 ?_
  refine Cd.seq (fun K2 hK2 => ?_)
  refine Cd.region [0, 1, 2, 3, 4, 5] rfl ?_
  refine Seq.rd0 at0 rfl rfl (O.move (v := .pointer _) rfl) ?_
  refine Seq.rd0 at1 rfl rfl (O.nilP rfl) ?_
  refine Seq.rd0 at2 rfl rfl (O.field fo_300_0 rfl) ?_
  refine Seq.rd1 at3 rfl rfl (O.load kd_239 rfl r1_0) hcb ?_
  refine Seq.rd0 at4 rfl rfl (O.lenS ds_239 rfl) ?_
  refine Seq.rd0 at5 rfl rfl (O.assign (v := .int .i64 _) rfl) ?_
  refine Seq.nil ?_
  refine hK2 ?_
  refine Cd.ret ?_
  exact hR _ _ (Res.one (v := .int .i64 _) rfl rfl) ⟨rfl, rfl⟩ (.refl _)

theorem C_chain_Len {c : Cx} {L : List Pt} {cb : Nat} {vs : List Version}  (hn : vs.length < 4611686018427387904) (h : ChAt c L cb vs) : Fn Tryz.prog 205 #[.pointer (some ⟨cb, 0, none⟩)] c L (fun v L' => v = .int .i64 (vs.length : Nat) ∧ L' = L) := by
  rcases h with ⟨rfl, h1⟩ | ⟨a, cap, sp, h1, h2⟩
  · exact C_chain_Len_nil h1
  · exact C_chain_Len_some hn h1 h2

def newestV (vs : List Version) : Option Version := vs.getLast?
def atV (vs : List Version) (s : Stamp) : Option Version := if upto vs s = 0 then none else vs[upto vs s - 1]?
theorem lastN {vs : List Version} (h : ¬ ((vs.length : Nat) : Int) = 0) : vs[(((vs.length : Nat) : Int) - 1).toNat]? = some (vs[vs.length - 1]'(by omega)) := by
  rw [show (((vs.length : Nat) : Int) - 1).toNat = vs.length - 1 by omega]; exact List.getElem?_eq_getElem (by omega)
theorem newest_some {vs : List Version} (h : ¬ ((vs.length : Nat) : Int) = 0) : newestV vs = some (vs[vs.length - 1]'(by omega)) := by
  unfold newestV; rw [List.getLast?_eq_getElem?]; exact List.getElem?_eq_getElem (by omega)
theorem uptoN {vs : List Version} {s : Stamp} (hs : Sorted vs) (h : ¬ ((upto vs s : Nat) : Int) = 0) : vs[(((upto vs s : Nat) : Int) - 1).toNat]? = some (vs[upto vs s - 1]'(by have := upto_le (s := s) hs; omega)) := by
  rw [show (((upto vs s : Nat) : Int) - 1).toNat = upto vs s - 1 by omega]; exact List.getElem?_eq_getElem _
theorem at_some {vs : List Version} {s : Stamp} (hs : Sorted vs) (h : ¬ ((upto vs s : Nat) : Int) = 0) : atV vs s = some (vs[upto vs s - 1]'(by have := upto_le (s := s) hs; omega)) := by
  unfold atV; rw [if_neg (by omega)]; exact List.getElem?_eq_getElem _
theorem newest_none {vs : List Version} (h : ((vs.length : Nat) : Int) = 0) : newestV vs = none := by
  have : vs = [] := List.length_eq_zero_iff.1 (by omega)
  subst this; rfl
theorem at_none {vs : List Version} {s : Stamp} (h : ((upto vs s : Nat) : Int) = 0) : atV vs s = none := by unfold atV; rw [if_pos (by omega)]

set_option maxRecDepth 100000 in
set_option maxHeartbeats 2000000 in
theorem C_chain_Newest_nil {c : Cx} {L : List Pt} {cb : Nat}  (hcb : Rd c L cb (.cells #[.slice none 0 0] 300 (0, 0))) : Fn Tryz.prog 194 #[.pointer (some ⟨cb, 0, none⟩)] c L (fun v L' => v = .tuple #[.agg (Version_enc ((newestV ([] : List Version)).getD .zero)), .bool (newestV ([] : List Version)).isSome] ∧ L' = L) := by
  refine Fn.enter Tryz.func194 rfl 23 rfl rfl (fun R hR => ?_)
  refine Cd.seq (fun K1 hK1 => ?_)
  refine Cd.region [0, 1] rfl ?_
  refine Seq.op at0 rfl (Op.new rfl (O.alloc zo_242 (cs := (Version_enc Version.zero)) rfl) ?_)
  intro b2 hb2
  refine Seq.rd0 at1 rfl rfl (O.assign (v := .bool _) rfl) ?_
  refine Seq.nil ?_
  refine hK1 ?_
  refine Cd.seq (fun K3 hK3 => ?_)
  refine Cd.seq (fun K4 hK4 => ?_)
  refine Cd.region [0, 1, 2, 3, 4, 5] rfl ?_
  refine Seq.rd0 at0 rfl rfl (O.move (v := .pointer _) rfl) ?_
  refine Seq.rd0 at1 rfl rfl (O.nilP rfl) ?_
  refine Seq.rd0 at2 rfl rfl (O.field fo_300_0 rfl) ?_
  refine Seq.rd1 at3 rfl rfl (O.load kd_239 rfl r1_0) hcb.cons ?_
  refine Seq.rd0 at4 rfl rfl (O.lenS ds_239 rfl) ?_
  refine Seq.rd0 at5 rfl rfl (O.eqI rfl rfl) ?_
  refine Seq.nil ?_
  refine hK4 ?_
  refine Cd.if ((0 : Int) = 0) rfl (fun t5 => ?_) (fun t5 => ?_)
  · skip
    refine Cd.seq (fun K6 hK6 => ?_)
    refine Cd.region [0, 1, 2] rfl ?_
    refine Seq.rd0 at0 rfl rfl (O.build rfl (cs := (Version_enc Version.zero)) (by kernel_rfl)) ?_
    refine Seq.op at1 rfl (Op.set0 rfl (O.store kd_242 rfl (v := .agg _) rfl (Version_size _) (Version_room (Version_size _)) (Version_one _) (Version_put _ (Version_size _))) ?_)
    refine Seq.rd0 at2 rfl rfl (O.assign (v := .bool _) rfl) ?_
    refine Seq.nil ?_
    refine hK6 ?_
    refine Cd.ret ?_
    exact hR _ _ (Res.cell2 (v := .bool _) rfl kd_242 rfl rfl Rd.head rfl) ⟨rfl, rfl⟩ (.cons _ (.refl _))
  · skip
    exact absurd rfl t5

set_option maxRecDepth 100000 in
set_option maxHeartbeats 2000000 in
theorem C_chain_Newest_some {c : Cx} {L : List Pt} {cb a cap : Nat} {vs : List Version} {sp : Array Value}  (hn : vs.length < 4611686018427387904) (hcb : Rd c L cb (.cells #[.slice (some ⟨a, 0, none⟩) vs.length cap] 300 (0, 0))) (ha : Rd c L a (.cells (rows Version_enc vs ++ sp) 242 (0, 0))) : Fn Tryz.prog 194 #[.pointer (some ⟨cb, 0, none⟩)] c L (fun v L' => v = .tuple #[.agg (Version_enc ((newestV vs).getD .zero)), .bool (newestV vs).isSome] ∧ L' = L) := by
  refine Fn.enter Tryz.func194 rfl 23 rfl rfl (fun R hR => ?_)
  refine Cd.seq (fun K1 hK1 => ?_)
  refine Cd.region [0, 1] rfl ?_
  refine Seq.op at0 rfl (Op.new rfl (O.alloc zo_242 (cs := (Version_enc Version.zero)) rfl) ?_)
  intro b2 hb2
  refine Seq.rd0 at1 rfl rfl (O.assign (v := .bool _) rfl) ?_
  refine Seq.nil ?_
  refine hK1 ?_
  refine Cd.seq (fun K3 hK3 => ?_)
  refine Cd.seq (fun K4 hK4 => ?_)
  refine Cd.region [0, 1, 2, 3, 4, 5] rfl ?_
  refine Seq.rd0 at0 rfl rfl (O.move (v := .pointer _) rfl) ?_
  refine Seq.rd0 at1 rfl rfl (O.nilP rfl) ?_
  refine Seq.rd0 at2 rfl rfl (O.field fo_300_0 rfl) ?_
  refine Seq.rd1 at3 rfl rfl (O.load kd_239 rfl r1_0) hcb.cons ?_
  refine Seq.rd0 at4 rfl rfl (O.lenS ds_239 rfl) ?_
  refine Seq.rd0 at5 rfl rfl (O.eqI rfl rfl) ?_
  refine Seq.nil ?_
  refine hK4 ?_
  refine Cd.if ((vs.length : Int) = 0) rfl (fun t5 => ?_) (fun t5 => ?_)
  · skip
    refine Cd.seq (fun K6 hK6 => ?_)
    refine Cd.region [0, 1, 2] rfl ?_
    refine Seq.rd0 at0 rfl rfl (O.build rfl (cs := (Version_enc Version.zero)) (by kernel_rfl)) ?_
    refine Seq.op at1 rfl (Op.set0 rfl (O.store kd_242 rfl (v := .agg _) rfl (Version_size _) (Version_room (Version_size _)) (Version_one _) (Version_put _ (Version_size _))) ?_)
    refine Seq.rd0 at2 rfl rfl (O.assign (v := .bool _) rfl) ?_
    refine Seq.nil ?_
    refine hK6 ?_
    refine Cd.ret ?_
    exact hR _ _ (Res.cell2 (v := .bool _) rfl kd_242 rfl rfl Rd.head rfl) ⟨by rw [newest_none (by assumption)]; rfl, rfl⟩ (.cons _ (.refl _))
  · skip
    refine Cd.skip ?_
    refine hK3 ?_
    refine Cd.seq (fun K7 hK7 => ?_)
    refine Cd.draw 14 rfl po ?_
    refine Any.rd0 0 at0 rfl rfl (O.move (v := .pointer _) rfl) (by kernel_rfl) (by kernel_rfl) (by kernel_rfl) ?_
    refine Any.rd0 1 at1 rfl rfl (O.nilP rfl) (by kernel_rfl) (by kernel_rfl) (by kernel_rfl) ?_
    refine Any.rd0 2 at2 rfl rfl (O.field fo_300_0 rfl) (by kernel_rfl) (by kernel_rfl) (by kernel_rfl) ?_
    refine Any.rd1 3 at3 rfl rfl (O.load kd_239 rfl r1_0) hcb.cons (by kernel_rfl) (by kernel_rfl) (by kernel_rfl) ?_
    refine Any.rd0 4 at4 rfl rfl (O.move (v := .pointer _) rfl) (by kernel_rfl) (by kernel_rfl) (by kernel_rfl) ?_
    refine Any.rd0 5 at5 rfl rfl (O.nilP rfl) (by kernel_rfl) (by kernel_rfl) (by kernel_rfl) ?_
    refine Any.rd0 6 at6 rfl rfl (O.field fo_300_0 rfl) (by kernel_rfl) (by kernel_rfl) (by kernel_rfl) ?_
    refine Any.rd1 7 at7 rfl rfl (O.load kd_239 rfl r1_0) hcb.cons (by kernel_rfl) (by kernel_rfl) (by kernel_rfl) ?_
    refine Any.rd0 8 at8 rfl rfl (O.lenS ds_239 rfl) (by kernel_rfl) (by kernel_rfl) (by kernel_rfl) ?_
    refine Any.rd0 9 at9 rfl rfl (O.sub rfl rfl (by omega) (by omega)) (by kernel_rfl) (by kernel_rfl) (by kernel_rfl) ?_
    refine Any.rd0 10 at10 rfl rfl (O.index sl_239 rfl rfl (by omega) (by omega)) (by kernel_rfl) (by kernel_rfl) (by kernel_rfl) ?_
    refine Any.rd1 11 at11 rfl rfl (O.loadA kd_242 rfl (rowRoom Version_size (lastN (by assumption))) (rowAt Version_size (lastN (by assumption)))) ha.cons (by kernel_rfl) (by kernel_rfl) (by kernel_rfl) ?_
    refine Any.one 12 at12 rfl (by kernel_rfl) ⟨⟨⟨trivial, hcb.cons⟩, hcb.cons⟩, ha.cons⟩ ?_
    refine Op.set0 rfl (O.store kd_242 rfl (v := .agg _) rfl (Version_size _) (Version_room (Version_size _)) (Version_one _) (Version_put _ (Version_size _))) ?_
    refine Any.toK ?_
    refine Any.rd0 13 at13 rfl rfl (O.assign (v := .bool _) rfl) (by kernel_rfl) (by kernel_rfl) (by kernel_rfl) ?_
    refine Any.done (by kernel_rfl) ⟨⟨⟨trivial, hcb.cons⟩, hcb.cons⟩, ha.cons⟩ ?_
    refine hK7 ?_
    refine Cd.ret ?_
    exact hR _ _ (Res.cell2 (v := .bool _) rfl kd_242 rfl rfl Rd.head rfl) ⟨by rw [newest_some (by assumption)]; rfl, rfl⟩ (.cons _ (.refl _))

theorem C_chain_Newest {c : Cx} {L : List Pt} {cb : Nat} {vs : List Version}  (hn : vs.length < 4611686018427387904) (h : ChAt c L cb vs) : Fn Tryz.prog 194 #[.pointer (some ⟨cb, 0, none⟩)] c L (fun v L' => v = .tuple #[.agg (Version_enc ((newestV vs).getD .zero)), .bool (newestV vs).isSome] ∧ L' = L) := by
  rcases h with ⟨rfl, h1⟩ | ⟨a, cap, sp, h1, h2⟩
  · exact C_chain_Newest_nil h1
  · exact C_chain_Newest_some hn h1 h2

set_option maxRecDepth 100000 in
set_option maxHeartbeats 2000000 in
theorem C_chain_At_nil {c : Cx} {L : List Pt} {cb : Nat} {s : Stamp} (hcb : Rd c L cb (.cells #[.slice none 0 0] 300 (0, 0))) : Fn Tryz.prog 176 #[.pointer (some ⟨cb, 0, none⟩), .agg (Stamp_enc s)] c L (fun v L' => v = .tuple #[.agg (Version_enc ((atV ([] : List Version) s).getD .zero)), .bool (atV ([] : List Version) s).isSome] ∧ L' = L) := by
  refine Fn.enter Tryz.func176 rfl 21 rfl rfl (fun R hR => ?_)
  refine Cd.seq (fun K1 hK1 => ?_)
  refine Cd.region [0, 1, 2] rfl ?_
  refine Seq.op at0 rfl (Op.new rfl (O.box (v := .agg _) rfl (cs := (Stamp_enc s)) rfl) ?_)
  intro b2 hb2
  refine Seq.op at1 rfl (Op.new rfl (O.alloc zo_242 (cs := (Version_enc Version.zero)) rfl) ?_)
  intro b3 hb3
  refine Seq.rd0 at2 rfl rfl (O.assign (v := .bool _) rfl) ?_
  refine Seq.nil ?_
  refine hK1 ?_
  refine Cd.seq (fun K4 hK4 => ?_)
  refine Cd.region [0, 1, 2, 3] rfl ?_
  refine Seq.rd0 at0 rfl rfl (O.move (v := .pointer _) rfl) ?_
  refine Seq.rd1 at1 rfl rfl (O.loadA kd_24 rfl (Nat.le_of_ble_eq_true rfl) (Stamp_all _)) Rd.head.cons ?_
  refine Seq.op at2 rfl (Op.callF rfl hb_226 (C_until .nil (by decide) (.inl ⟨rfl, hcb.cons.cons⟩)) rfl ?_)
  rintro _ _ ⟨rfl, rfl⟩
  refine Seq.rd0 at3 rfl rfl (O.assign (v := .int .i64 _) rfl) ?_
  refine Seq.nil ?_
  refine hK4 ?_
  refine Cd.seq (fun K5 hK5 => ?_)
  refine Cd.seq (fun K6 hK6 => ?_)
  refine Cd.region [0, 1] rfl ?_
  refine Seq.rd0 at0 rfl rfl (O.move (v := .int .i64 _) rfl) ?_
  refine Seq.rd0 at1 rfl rfl (O.eqI rfl rfl) ?_
  refine Seq.nil ?_
  refine hK6 ?_
  refine Cd.if (((upto [] s : Nat) : Int) = 0) rfl (fun t7 => ?_) (fun t7 => ?_)
  · skip
    refine Cd.seq (fun K8 hK8 => ?_)
    refine Cd.region [0, 1, 2] rfl ?_
    refine Seq.rd0 at0 rfl rfl (O.build rfl (cs := (Version_enc Version.zero)) (by kernel_rfl)) ?_
    refine Seq.op at1 rfl (Op.set0 rfl (O.store kd_242 rfl (v := .agg _) rfl (Version_size _) (Version_room (Version_size _)) (Version_one _) (Version_put _ (Version_size _))) ?_)
    refine Seq.rd0 at2 rfl rfl (O.assign (v := .bool _) rfl) ?_
    refine Seq.nil ?_
    refine hK8 ?_
    refine Cd.ret ?_
    exact hR _ _ (Res.cell2 (v := .bool _) rfl kd_242 rfl rfl Rd.head rfl) ⟨rfl, rfl⟩ (.cons _ (.cons _ (.refl _)))
  · skip
    exact absurd rfl t7

set_option maxRecDepth 100000 in
set_option maxHeartbeats 2000000 in
theorem C_chain_At_some {c : Cx} {L : List Pt} {cb a cap : Nat} {vs : List Version} {sp : Array Value} {s : Stamp} (hs : Sorted vs) (hn : vs.length < 4611686018427387904) (hcb : Rd c L cb (.cells #[.slice (some ⟨a, 0, none⟩) vs.length cap] 300 (0, 0))) (ha : Rd c L a (.cells (rows Version_enc vs ++ sp) 242 (0, 0))) : Fn Tryz.prog 176 #[.pointer (some ⟨cb, 0, none⟩), .agg (Stamp_enc s)] c L (fun v L' => v = .tuple #[.agg (Version_enc ((atV vs s).getD .zero)), .bool (atV vs s).isSome] ∧ L' = L) := by
  refine Fn.enter Tryz.func176 rfl 21 rfl rfl (fun R hR => ?_)
  refine Cd.seq (fun K1 hK1 => ?_)
  refine Cd.region [0, 1, 2] rfl ?_
  refine Seq.op at0 rfl (Op.new rfl (O.box (v := .agg _) rfl (cs := (Stamp_enc s)) rfl) ?_)
  intro b2 hb2
  refine Seq.op at1 rfl (Op.new rfl (O.alloc zo_242 (cs := (Version_enc Version.zero)) rfl) ?_)
  intro b3 hb3
  refine Seq.rd0 at2 rfl rfl (O.assign (v := .bool _) rfl) ?_
  refine Seq.nil ?_
  refine hK1 ?_
  refine Cd.seq (fun K4 hK4 => ?_)
  refine Cd.region [0, 1, 2, 3] rfl ?_
  refine Seq.rd0 at0 rfl rfl (O.move (v := .pointer _) rfl) ?_
  refine Seq.rd1 at1 rfl rfl (O.loadA kd_24 rfl (Nat.le_of_ble_eq_true rfl) (Stamp_all _)) Rd.head.cons ?_
  refine Seq.op at2 rfl (Op.callF rfl hb_226 (C_until hs hn (.inr ⟨_, _, _, hcb.cons.cons, ha.cons.cons⟩)) rfl ?_)
  rintro _ _ ⟨rfl, rfl⟩
  have hul := upto_le (s := s) hs
  refine Seq.rd0 at3 rfl rfl (O.assign (v := .int .i64 _) rfl) ?_
  refine Seq.nil ?_
  refine hK4 ?_
  refine Cd.seq (fun K5 hK5 => ?_)
  refine Cd.seq (fun K6 hK6 => ?_)
  refine Cd.region [0, 1] rfl ?_
  refine Seq.rd0 at0 rfl rfl (O.move (v := .int .i64 _) rfl) ?_
  refine Seq.rd0 at1 rfl rfl (O.eqI rfl rfl) ?_
  refine Seq.nil ?_
  refine hK6 ?_
  refine Cd.if (((upto vs s : Nat) : Int) = 0) rfl (fun t7 => ?_) (fun t7 => ?_)
  · skip
    refine Cd.seq (fun K8 hK8 => ?_)
    refine Cd.region [0, 1, 2] rfl ?_
    refine Seq.rd0 at0 rfl rfl (O.build rfl (cs := (Version_enc Version.zero)) (by kernel_rfl)) ?_
    refine Seq.op at1 rfl (Op.set0 rfl (O.store kd_242 rfl (v := .agg _) rfl (Version_size _) (Version_room (Version_size _)) (Version_one _) (Version_put _ (Version_size _))) ?_)
    refine Seq.rd0 at2 rfl rfl (O.assign (v := .bool _) rfl) ?_
    refine Seq.nil ?_
    refine hK8 ?_
    refine Cd.ret ?_
    exact hR _ _ (Res.cell2 (v := .bool _) rfl kd_242 rfl rfl Rd.head rfl) ⟨by rw [at_none (by assumption)]; rfl, rfl⟩ (.cons _ (.cons _ (.refl _)))
  · skip
    refine Cd.skip ?_
    refine hK5 ?_
    refine Cd.seq (fun K9 hK9 => ?_)
    refine Cd.region [0, 1, 2, 3, 4, 5, 6, 7, 8, 9] rfl ?_
    refine Seq.rd0 at0 rfl rfl (O.move (v := .pointer _) rfl) ?_
    refine Seq.rd0 at1 rfl rfl (O.nilP rfl) ?_
    refine Seq.rd0 at2 rfl rfl (O.field fo_300_0 rfl) ?_
    refine Seq.rd1 at3 rfl rfl (O.load kd_239 rfl r1_0) hcb.cons.cons ?_
    refine Seq.rd0 at4 rfl rfl (O.move (v := .int .i64 _) rfl) ?_
    refine Seq.rd0 at5 rfl rfl (O.sub rfl rfl (by omega) (by omega)) ?_
    refine Seq.rd0 at6 rfl rfl (O.index sl_239 rfl rfl (by omega) (by omega)) ?_
    refine Seq.rd1 at7 rfl rfl (O.loadA kd_242 rfl (rowRoom Version_size (uptoN hs (by assumption))) (rowAt Version_size (uptoN hs (by assumption)))) ha.cons.cons ?_
    refine Seq.op at8 rfl (Op.set0 rfl (O.store kd_242 rfl (v := .agg _) rfl (Version_size _) (Version_room (Version_size _)) (Version_one _) (Version_put _ (Version_size _))) ?_)
    refine Seq.rd0 at9 rfl rfl (O.assign (v := .bool _) rfl) ?_
    refine Seq.nil ?_
    refine hK9 ?_
    refine Cd.ret ?_
    exact hR _ _ (Res.cell2 (v := .bool _) rfl kd_242 rfl rfl Rd.head rfl) ⟨by rw [at_some hs (by assumption)]; rfl, rfl⟩ (.cons _ (.cons _ (.refl _)))

theorem C_chain_At {c : Cx} {L : List Pt} {cb : Nat} {vs : List Version} {s : Stamp} (hs : Sorted vs) (hn : vs.length < 4611686018427387904) (h : ChAt c L cb vs) : Fn Tryz.prog 176 #[.pointer (some ⟨cb, 0, none⟩), .agg (Stamp_enc s)] c L (fun v L' => v = .tuple #[.agg (Version_enc ((atV vs s).getD .zero)), .bool (atV vs s).isSome] ∧ L' = L) := by
  rcases h with ⟨rfl, h1⟩ | ⟨a, cap, sp, h1, h2⟩
  · exact C_chain_At_nil h1
  · exact C_chain_At_some hs hn h1 h2

set_option maxRecDepth 100000 in
set_option maxHeartbeats 2000000 in
theorem C_chain_New {c : Cx} {L : List Pt}  : Fn Tryz.prog 218 #[] c L (fun v L' => ∃ b, c.w0.heap.size ≤ b ∧ v = .pointer (some ⟨b, 0, none⟩) ∧ L' = (b, .cells #[.slice none 0 0] 300 (0, 0)) :: L) := by
  refine Fn.enter Tryz.func218 rfl 3 rfl rfl (fun R hR => ?_)
  refine Cd.seq (fun K1 hK1 => ?_)
  refine Cd.region [0] rfl ?_
  refine Seq.rd0 at0 rfl rfl (O.assign (v := .pointer _) rfl) ?_
  refine Seq.nil ?_
  refine hK1 ?_
  refine Cd.seq (fun K2 hK2 => ?_)
  refine Cd.region [0, 1, 2] rfl ?_
  refine Seq.rd0 at0 rfl rfl (O.build rfl (cs := (Chain_enc Chain.zero)) (by kernel_rfl)) ?_
  refine Seq.op at1 rfl (Op.new rfl (O.box (v := .agg _) rfl (cs := (Chain_enc Chain.zero)) rfl) ?_)
  intro b3 hb3
  refine Seq.rd0 at2 rfl rfl (O.assign (v := .pointer _) rfl) ?_
  refine Seq.nil ?_
  refine hK2 ?_
  refine Cd.ret ?_
  exact hR _ _ (Res.one (v := .pointer _) rfl rfl) ⟨_, hb3, rfl, rfl⟩ (.refl _)

end Go.X
