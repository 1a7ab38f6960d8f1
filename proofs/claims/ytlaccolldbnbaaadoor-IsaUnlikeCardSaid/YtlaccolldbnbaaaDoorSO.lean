/-
  AN INSTRUCTION BY VALUE (a struct of five whole numbers), OPENED AND SHUT: what the law's argument reads as, field by field.
-/
import Derived.Test.YtlaccolldbnbaaaDoorA0
import Derived.ProofKit
import Derived.OpenShut
import Derived.ChangeSame
import Derived.Lib.SmallJoins
namespace Go.Proofs.YtlaccolldbnbaaaDoor.Gx
open Go.ChangeShapes Go.WideShapes Go.ChangeAt Go.RowKit Go.Deep
set_option linter.unusedVariables false
section
variable {H : Type} {enc : TypeId × Value → H} {P : Program} {w : World} {base : Nat} {spare : Nat → Bool} {held : Bool}
theorem arr5 {α : Type} {cs : Array α} (h : cs.size = 5) : ∃ c0 c1 c2 c3 c4, cs = #[c0, c1, c2, c3, c4] := by
  obtain ⟨l⟩ := cs
  match l, h with
  | [c0, c1, c2, c3, c4], _ => exact ⟨c0, c1, c2, c3, c4, rfl⟩
theorem trod_five {t : TypeId} {f0 f1 f2 f3 f4 : Field} {fuel : Nat} {cs : List Value} {x : DataW H × List MemPlace} (ht : P.underlying t = some (.struct #[f0, f1, f2, f3, f4])) (h : DataW.trod enc P w base spare held fuel t cs = some x) :
    ∃ y0 y1 y2 y3 y4 n, x = (.agg [y0.1, y1.1, y2.1, y3.1, y4.1], y0.2 ++ (y1.2 ++ (y2.2 ++ (y3.2 ++ y4.2)))) ∧ DataW.trod enc P w base spare held n f0.type ((cs.drop f0.offset).take (P.cellsOf f0.type)) = some y0 ∧
      DataW.trod enc P w base spare held n f1.type ((cs.drop f1.offset).take (P.cellsOf f1.type)) = some y1 ∧ DataW.trod enc P w base spare held n f2.type ((cs.drop f2.offset).take (P.cellsOf f2.type)) = some y2 ∧
      DataW.trod enc P w base spare held n f3.type ((cs.drop f3.offset).take (P.cellsOf f3.type)) = some y3 ∧ DataW.trod enc P w base spare held n f4.type ((cs.drop f4.offset).take (P.cellsOf f4.type)) = some y4 := by
  obtain ⟨xs, n, _, rfl, hl, hlen, hf⟩ := DataW.trod_struct ht h
  match xs, hlen with
  | [y0, y1, y2, y3, y4], _ => exact ⟨y0, y1, y2, y3, y4, n, by simp, by simpa using hf 0 f0 rfl, by simpa using hf 1 f1 rfl, by simpa using hf 2 f2 rfl, by simpa using hf 3 f3 rfl, by simpa using hf 4 f4 rfl⟩
/-- A struct of five whole numbers of one cell each, opened. -/
theorem open_five {r : Reach} {b0 : Nat} {t : TypeId} {f0 f1 f2 f3 f4 : Field} {k : IntKind} {v : Value} {d : DataW H} {p : List MemPlace} (hs : P.underlying t = some (.struct #[f0, f1, f2, f3, f4])) (hone : oneCellFields P #[f0, f1, f2, f3, f4] = true) (hC : P.cellsOf t = 5)
    (k0 : P.underlying f0.type = some (.int k)) (k1 : P.underlying f1.type = some (.int k)) (k2 : P.underlying f2.type = some (.int k)) (k3 : P.underlying f3.type = some (.int k)) (k4 : P.underlying f4.type = some (.int k))
    (hv : Value.okWide P w r b0 t v) (h : DataW.Trod enc P w base spare held t v d p) :
    ∃ n0 n1 n2 n3 n4 : Int, v = .agg #[.int k n0, .int k n1, .int k n2, .int k n3, .int k n4] ∧ d = .agg [.lit (.int k n0), .lit (.int k n1), .lit (.int k n2), .lit (.int k n3), .lit (.int k n4)] ∧ p = [] ∧
      (Lit.int k n0).wf = true ∧ (Lit.int k n1).wf = true ∧ (Lit.int k n2).wf = true ∧ (Lit.int k n3).wf = true ∧ (Lit.int k n4).wf = true := by
  obtain ⟨cs, rfl, hsz⟩ := okWide_struct hs hv
  obtain ⟨c0, c1, c2, c3, c4, rfl⟩ := arr5 (hsz.trans hC)
  obtain ⟨fuel, hf⟩ := h
  obtain ⟨y0, y1, y2, y3, y4, n, hx, h0, h1, h2, h3, h4⟩ := trod_five hs hf
  obtain ⟨o0, q0⟩ := hone_of hone 0 f0 rfl
  obtain ⟨o1, q1⟩ := hone_of hone 1 f1 rfl
  obtain ⟨o2, q2⟩ := hone_of hone 2 f2 rfl
  obtain ⟨o3, q3⟩ := hone_of hone 3 f3 rfl
  obtain ⟨o4, q4⟩ := hone_of hone 4 f4 rfl
  obtain ⟨n0, e0, x0, w0⟩ := DataW.trod_int k0 h0
  obtain ⟨n1, e1, x1, w1⟩ := DataW.trod_int k1 h1
  obtain ⟨n2, e2, x2, w2⟩ := DataW.trod_int k2 h2
  obtain ⟨n3, e3, x3, w3⟩ := DataW.trod_int k3 h3
  obtain ⟨n4, e4, x4, w4⟩ := DataW.trod_int k4 h4
  obtain rfl : c0 = .int k n0 := by simpa [Value.cells, o0, q0] using e0
  obtain rfl : c1 = .int k n1 := by simpa [Value.cells, o1, q1] using e1
  obtain rfl : c2 = .int k n2 := by simpa [Value.cells, o2, q2] using e2
  obtain rfl : c3 = .int k n3 := by simpa [Value.cells, o3, q3] using e3
  obtain rfl : c4 = .int k n4 := by simpa [Value.cells, o4, q4] using e4
  simp only [Prod.mk.injEq] at hx
  obtain ⟨hd, hp⟩ := hx
  subst x0 x1 x2 x3 x4
  exact ⟨n0, n1, n2, n3, n4, rfl, hd, by simpa using hp, w0, w1, w2, w3, w4⟩
theorem shut_five {t : TypeId} {f0 f1 f2 f3 f4 : Field} {k : IntKind} {n0 n1 n2 n3 n4 : Int} (hs : P.underlying t = some (.struct #[f0, f1, f2, f3, f4])) (hone : oneCellFields P #[f0, f1, f2, f3, f4] = true) (hC : P.cellsOf t = 5)
    (k0 : P.underlying f0.type = some (.int k)) (k1 : P.underlying f1.type = some (.int k)) (k2 : P.underlying f2.type = some (.int k)) (k3 : P.underlying f3.type = some (.int k)) (k4 : P.underlying f4.type = some (.int k))
    (w0 : (Lit.int k n0).wf = true) (w1 : (Lit.int k n1).wf = true) (w2 : (Lit.int k n2).wf = true) (w3 : (Lit.int k n3).wf = true) (w4 : (Lit.int k n4).wf = true) :
    DataW.Trod enc P w base spare held t (.agg #[.int k n0, .int k n1, .int k n2, .int k n3, .int k n4]) (.agg [.lit (.int k n0), .lit (.int k n1), .lit (.int k n2), .lit (.int k n3), .lit (.int k n4)]) [] := by
  obtain ⟨o0, q0⟩ := hone_of hone 0 f0 rfl
  obtain ⟨o1, q1⟩ := hone_of hone 1 f1 rfl
  obtain ⟨o2, q2⟩ := hone_of hone 2 f2 rfl
  obtain ⟨o3, q3⟩ := hone_of hone 3 f3 rfl
  obtain ⟨o4, q4⟩ := hone_of hone 4 f4 rfl
  refine ⟨2, ?_⟩
  have := trod_struct_mk (enc := enc) (w := w) (base := base) (spare := spare) (held := held) (n := 1) (cs := [.int k n0, .int k n1, .int k n2, .int k n3, .int k n4])
    (xs := [(.lit (.int k n0), []), (.lit (.int k n1), []), (.lit (.int k n2), []), (.lit (.int k n3), []), (.lit (.int k n4), [])]) hs (by rw [hC]; rfl)
    (by simp [o0, q0, o1, q1, o2, q2, o3, q3, o4, q4, trod_int_mk 0 k0 w0, trod_int_mk 0 k1 w1, trod_int_mk 0 k2 w2, trod_int_mk 0 k3 w3, trod_int_mk 0 k4 w4])
  simpa [Value.cells] using this
end
end Go.Proofs.YtlaccolldbnbaaaDoor.Gx
