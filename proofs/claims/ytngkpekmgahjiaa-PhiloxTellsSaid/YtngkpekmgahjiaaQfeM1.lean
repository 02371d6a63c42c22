/- Arrays of two and of four uint32 as arguments: opened to their numbers, shut again. -/
import Derived.OpenShut
import Derived.ChangeShapes

namespace Go.Proofs.Ytngkpekmgahjiaa.ArrRow
open Go Go.ChangeShapes
variable {H : Type} {enc : TypeId × Value → H} {P : Program} {w : World} {base : Nat} {spare : Nat → Bool} {held : Bool} {t e : TypeId}

theorem one_cell {k : IntKind} {c : Value} {m : Nat} {x : DataW H × List MemPlace} (he : P.underlying e = some (.int k)) (h : DataW.trod enc P w base spare held m e [c] = some x) :
    ∃ n, c = .int k n ∧ x = (.lit (.int k n), []) ∧ (Lit.int k n).wf = true := by
  obtain ⟨n, hc, hx, hw⟩ := DataW.trod_int he h
  simp only [List.cons.injEq, and_true] at hc
  exact ⟨n, hc, hx, hw⟩

theorem open2 {r : Reach} {b0 : Nat} {k : IntKind} {v : Value} {d : DataW H} {ps : List MemPlace} (ht : P.underlying t = some (.array 2 e)) (he : P.underlying e = some (.int k))
    (hce : P.cellsOf e = 1) (hct : P.cellsOf t = 2) (hval : Value.okWide P w r b0 t v) (hd : DataW.Trod enc P w base spare held t v d ps) :
    ∃ n0 n1, v = .agg #[.int k n0, .int k n1] ∧ d = .agg [.lit (.int k n0), .lit (.int k n1)] ∧ ps = [] ∧ (Lit.int k n0).wf = true ∧ (Lit.int k n1).wf = true := by
  unfold Value.okWide at hval
  rw [ht] at hval
  obtain ⟨cs, rfl, hsz, _⟩ := hval
  obtain ⟨fuel, hf⟩ := hd
  obtain ⟨xs, m, rfl, hx, hl, hlen, hall⟩ := DataW.trod_array ht hf
  have hcs : (Value.agg cs).cells = cs := rfl
  rw [hcs] at hl hall
  rw [hct] at hl
  rw [hce] at hall
  obtain ⟨l⟩ := cs
  match l, hl with
  | [c0, c1], _ =>
    match xs, hlen with
    | [x0, x1], _ =>
      have h0 := hall 0 (by decide)
      have h1 := hall 1 (by decide)
      obtain ⟨n0, rfl, rfl, w0⟩ := one_cell he (show DataW.trod enc P w base spare held m e [c0] = some x0 from h0)
      obtain ⟨n1, rfl, rfl, w1⟩ := one_cell he (show DataW.trod enc P w base spare held m e [c1] = some x1 from h1)
      simp only [Prod.mk.injEq, List.map_cons, List.map_nil, List.flatMap_cons, List.flatMap_nil, List.append_nil] at hx
      exact ⟨n0, n1, rfl, hx.1, hx.2, w0, w1⟩

theorem shut2 {k : IntKind} {n0 n1 : Int} (ht : P.underlying t = some (.array 2 e)) (he : P.underlying e = some (.int k)) (hce : P.cellsOf e = 1) (hct : P.cellsOf t = 2)
    (w0 : (Lit.int k n0).wf = true) (w1 : (Lit.int k n1).wf = true) :
    DataW.Trod enc P w base spare held t (.agg #[.int k n0, .int k n1]) (.agg [.lit (.int k n0), .lit (.int k n1)]) [] := by
  refine ⟨2, ?_⟩
  have h : ∀ n, (Lit.int k n).wf = true → DataW.trod enc P w base spare held 1 e [.int k n] = some (.lit (.int k n), []) := fun n hn => by simp [DataW.trod, he, hn]
  unfold DataW.trod
  rw [ht]
  simp [Value.cells, hct, hce, List.range_succ, h n0 w0, h n1 w1]

theorem open4 {r : Reach} {b0 : Nat} {k : IntKind} {v : Value} {d : DataW H} {ps : List MemPlace} (ht : P.underlying t = some (.array 4 e)) (he : P.underlying e = some (.int k))
    (hce : P.cellsOf e = 1) (hct : P.cellsOf t = 4) (hval : Value.okWide P w r b0 t v) (hd : DataW.Trod enc P w base spare held t v d ps) :
    ∃ n0 n1 n2 n3, v = .agg #[.int k n0, .int k n1, .int k n2, .int k n3] ∧ d = .agg [.lit (.int k n0), .lit (.int k n1), .lit (.int k n2), .lit (.int k n3)] ∧ ps = [] ∧
      (Lit.int k n0).wf = true ∧ (Lit.int k n1).wf = true ∧ (Lit.int k n2).wf = true ∧ (Lit.int k n3).wf = true := by
  unfold Value.okWide at hval
  rw [ht] at hval
  obtain ⟨cs, rfl, hsz, _⟩ := hval
  obtain ⟨fuel, hf⟩ := hd
  obtain ⟨xs, m, rfl, hx, hl, hlen, hall⟩ := DataW.trod_array ht hf
  have hcs : (Value.agg cs).cells = cs := rfl
  rw [hcs] at hl hall
  rw [hct] at hl
  rw [hce] at hall
  obtain ⟨l⟩ := cs
  match l, hl with
  | [c0, c1, c2, c3], _ =>
    match xs, hlen with
    | [x0, x1, x2, x3], _ =>
      have h0 := hall 0 (by decide)
      have h1 := hall 1 (by decide)
      have h2 := hall 2 (by decide)
      have h3 := hall 3 (by decide)
      obtain ⟨n0, rfl, rfl, w0⟩ := one_cell he (show DataW.trod enc P w base spare held m e [c0] = some x0 from h0)
      obtain ⟨n1, rfl, rfl, w1⟩ := one_cell he (show DataW.trod enc P w base spare held m e [c1] = some x1 from h1)
      obtain ⟨n2, rfl, rfl, w2⟩ := one_cell he (show DataW.trod enc P w base spare held m e [c2] = some x2 from h2)
      obtain ⟨n3, rfl, rfl, w3⟩ := one_cell he (show DataW.trod enc P w base spare held m e [c3] = some x3 from h3)
      simp only [Prod.mk.injEq, List.map_cons, List.map_nil, List.flatMap_cons, List.flatMap_nil, List.append_nil] at hx
      exact ⟨n0, n1, n2, n3, rfl, hx.1, hx.2, w0, w1, w2, w3⟩

theorem shut4 {k : IntKind} {n0 n1 n2 n3 : Int} (ht : P.underlying t = some (.array 4 e)) (he : P.underlying e = some (.int k)) (hce : P.cellsOf e = 1) (hct : P.cellsOf t = 4)
    (w0 : (Lit.int k n0).wf = true) (w1 : (Lit.int k n1).wf = true) (w2 : (Lit.int k n2).wf = true) (w3 : (Lit.int k n3).wf = true) :
    DataW.Trod enc P w base spare held t (.agg #[.int k n0, .int k n1, .int k n2, .int k n3]) (.agg [.lit (.int k n0), .lit (.int k n1), .lit (.int k n2), .lit (.int k n3)]) [] := by
  refine ⟨2, ?_⟩
  have h : ∀ n, (Lit.int k n).wf = true → DataW.trod enc P w base spare held 1 e [.int k n] = some (.lit (.int k n), []) := fun n hn => by simp [DataW.trod, he, hn]
  unfold DataW.trod
  rw [ht]
  simp [Value.cells, hct, hce, List.range_succ, h n0 w0, h n1 w1, h n2 w2, h n3 w3]
end Go.Proofs.Ytngkpekmgahjiaa.ArrRow
