/- Part 10 of the proofs over this program: what its functions compute. -/
import Derived.Test.YthifdialndcemaaGreatProg
import Derived.Test.YthifdialndcemaaGreatS9
set_option linter.unusedVariables false
set_option linter.unusedSimpArgs false

namespace Go.X
open Go.Proofs

open Go.ChangeShapes Go.WideShapes Go.Deep Go.RowKit

theorem decSAct {H : Type} {en : TypeId × Value → H} {w : World} {base : Nat} {spare : Nat → Bool} {held : Bool} {n : Nat} {cs : List Value} {y : DataW H × List MemPlace} (h : DataW.trod en Tryz.prog w base spare held n 205 cs = some y) (hw : Fits Tryz.prog 205 y.1) : ∃ x : SAct, cs = (SAct_enc x).toList ∧ (Lit.int .i64 x.id).wf = true := by
  obtain ⟨hl, n1, hf⟩ := trod_field (by kernel_rfl) h hw
  rw [(by kernel_rfl : Tryz.prog.cellsOf 205 = 37)] at hl
  obtain ⟨y0, h0, w0⟩ := hf 0 3 0 (by kernel_rfl)
  rw [(by kernel_rfl : Tryz.prog.cellsOf 3 = 1)] at h0
  obtain ⟨x0, e0, q0⟩ := dec_int (k := .i64) (by kernel_rfl) h0
  obtain ⟨y1, h1, w1⟩ := hf 1 3 1 (by kernel_rfl)
  rw [(by kernel_rfl : Tryz.prog.cellsOf 3 = 1)] at h1
  obtain ⟨x1, e1, q1⟩ := dec_int (k := .i64) (by kernel_rfl) h1
  obtain ⟨y2, h2, w2⟩ := hf 2 2 2 (by kernel_rfl)
  rw [(by kernel_rfl : Tryz.prog.cellsOf 2 = 1)] at h2
  obtain ⟨x2, e2, q2⟩ := dec_int (k := .i64) (by kernel_rfl) h2
  obtain ⟨y3, h3, w3⟩ := hf 3 47 3 (by kernel_rfl)
  rw [(by kernel_rfl : Tryz.prog.cellsOf 47 = 18)] at h3
  obtain ⟨x3, e3, q3⟩ := decWrite h3 w3
  obtain ⟨y4, h4, w4⟩ := hf 4 45 21 (by kernel_rfl)
  rw [(by kernel_rfl : Tryz.prog.cellsOf 45 = 16)] at h4
  obtain ⟨x4, e4⟩ := dec_Key (e := 5) (by kernel_rfl) (by kernel_rfl) (by kernel_rfl) (by kernel_rfl) h4
  have k0 := split_at cs 0 (b := 1) (n := 1) rfl
  rw [e0] at k0
  have k1 := split_at cs 1 (b := 1) (n := 2) rfl
  rw [e1] at k1
  have k2 := split_at cs 2 (b := 1) (n := 3) rfl
  rw [e2] at k2
  have k3 := split_at cs 3 (b := 18) (n := 21) rfl
  rw [e3] at k3
  have k4 := split_at cs 21 (b := 16) (n := 37) rfl
  rw [e4] at k4
  rw [List.drop_eq_nil_of_le (by omega : cs.length ≤ 37)] at k4
  rw [← k4] at k3
  rw [← k3] at k2
  rw [← k2] at k1
  rw [← k1] at k0
  refine ⟨⟨x0, x1, x2, x3, x4⟩, ?_, q2⟩
  show cs.drop 0 = _; rw [← k0]; rfl

section
variable {H : Type} {en : TypeId × Value → H} {W : World} {r : Reach} {b0 base : Nat} {spare : Nat → Bool} {held : Bool} {v : Value} {d : DataW H} {p : List MemPlace}
set_option maxRecDepth 100000 in
theorem sacts_of (hv : Value.okWide Tryz.prog W r b0 96 v) (h : DataW.Trod en Tryz.prog W base spare held 96 v d p) (hw : Fits Tryz.prog 96 d) :
    ∃ av m cap xs, v = .slice av m cap ∧ Given W SAct_enc av m xs ∧ ∀ x ∈ xs, (Lit.int .i64 x.id).wf = true := by
  obtain ⟨av, m, cap, rfl⟩ := okWide_slice (e := 205) (by kernel_rfl) hv
  obtain ⟨n, hf⟩ := h
  obtain ⟨av', m', cap', xs, he, hg, hq⟩ := dec_slice (enc := SAct_enc) (Q := fun x => (Lit.int .i64 x.id).wf = true) SAct_size (by decide) (by kernel_rfl) (by kernel_rfl) (of_decide_eq_true (by kernel_rfl)) (fun _ _ _ h hw => decSAct h hw) hf hw
  simp only [Value.cells, List.cons.injEq, Value.slice.injEq, and_true] at he
  obtain ⟨rfl, rfl, rfl⟩ := he
  exact ⟨_, _, _, xs, rfl, hg, hq⟩
set_option maxRecDepth 100000 in
theorem writes_of (hv : Value.okWide Tryz.prog W r b0 25 v) (h : DataW.Trod en Tryz.prog W base spare held 25 v d p) (hw : Fits Tryz.prog 25 d) :
    ∃ av m cap xs, v = .slice av m cap ∧ Given W Write_enc av m xs := by
  obtain ⟨av, m, cap, rfl⟩ := okWide_slice (e := 47) (by kernel_rfl) hv
  obtain ⟨n, hf⟩ := h
  obtain ⟨av', m', cap', xs, he, hg, hq⟩ := dec_slice (enc := Write_enc) (Q := fun _ => True) Write_size (by decide) (by kernel_rfl) (by kernel_rfl) (of_decide_eq_true (by kernel_rfl)) (fun _ _ _ h hw => decWrite h hw) hf hw
  simp only [Value.cells, List.cons.injEq, Value.slice.injEq, and_true] at he
  obtain ⟨rfl, rfl, rfl⟩ := he
  exact ⟨_, _, _, xs, rfl, hg⟩
end

end Go.X
