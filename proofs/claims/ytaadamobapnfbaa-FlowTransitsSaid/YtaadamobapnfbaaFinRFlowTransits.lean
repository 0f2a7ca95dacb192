/- FlowTransits: for every text and every three numbers the law returns true, and the arguments read as they did. No condition. -/
import Derived.Laws.IdiomArrays
import Derived.Test.YtaadamobapnfbaaFg4
namespace Go.Proofs.Ytaadamobapnfbaa.flowTransits
open Go Go.Abs Go.ChangeShapes Go.WideShapes Go.ChangeAt Go.RowKit
open Go.ChangeMaps (open_string shut_string)
set_option linter.unusedVariables false
theorem cells48 : Try.prog.cellsOf 48 = 1 := by kernel_rfl
theorem cells49 : Try.prog.cellsOf 49 = 3 := by kernel_rfl
theorem u16 {x : Int} (h : (Lit.int .u16 x).wf = true) : 0 ≤ x ∧ x < 65536 := by
  have h1 : IntKind.min .u16 = 0 := rfl
  have h2 : IntKind.max .u16 = 65535 := rfl
  simp only [Lit.wf, Bool.and_eq_true, decide_eq_true_eq, h1, h2] at h
  omega
theorem list3 {α : Type} : ∀ l : List α, l.length = 3 → ∃ a b c, l = [a, b, c]
  | [a, b, c], _ => ⟨a, b, c, rfl⟩
  | [], h => by simp at h
  | [_], h => by simp at h
  | [_, _], h => by simp at h
  | _ :: _ :: _ :: _ :: _, h => by simp at h
theorem reps_args (s : ByteArray) (x0 x1 x2 : Int) : Reps gh0 [vs s, .agg [.v (.int .u16 x0), .v (.int .u16 x1), .v (.int .u16 x2)]] #[.string s, .agg #[.int .u16 x0, .int .u16 x1, .int .u16 x2]] := by
  refine ⟨rfl, fun i x hx => ?_⟩
  match i, hx with
  | 0, hx =>
    simp only [List.getElem?_cons_zero, Option.some.injEq] at hx
    exact ⟨.string s, rfl, hx ▸ .v⟩
  | 1, hx =>
    simp only [List.getElem?_cons_succ, List.getElem?_cons_zero, Option.some.injEq] at hx
    subst hx
    refine ⟨.agg #[.int .u16 x0, .int .u16 x1, .int .u16 x2], rfl, Reps.agg ⟨rfl, fun j y hy => ?_⟩⟩
    match j, hy with
    | 0, hy => simp only [List.getElem?_cons_zero, Option.some.injEq] at hy; exact ⟨_, rfl, hy ▸ .v⟩
    | 1, hy => simp only [List.getElem?_cons_succ, List.getElem?_cons_zero, Option.some.injEq] at hy; exact ⟨_, rfl, hy ▸ .v⟩
    | 2, hy => simp only [List.getElem?_cons_succ, List.getElem?_cons_zero, Option.some.injEq] at hy; exact ⟨_, rfl, hy ▸ .v⟩
    | j + 3, hy => simp at hy
  | i + 2, hx => simp at hx
set_option maxRecDepth 100000 in
theorem lifted (os : Os) (started : os.Started) (H : Type) (enc : TypeId × Value → H) :
    ReturnsInHanded {} Try.checked os 6 .any (Rows.flowTransitsSpec.pre6 enc Try.prog Try.f6 Rows.flowTransitsRow.domain false) (Rows.flowTransitsSpec.post enc Try.prog Try.f6 false true false false) := by
  refine returnsInHanded_of_change_sized (C := Try.checked) owned0 started (by kernel_rfl) Try.func6
    (ChangeSpec.witness6 (enc := enc) (C := Try.checked) false ⟨#[], #[.string ByteArray.empty, .agg #[.int .u16 0, .int .u16 0, .int .u16 0]], []⟩ 8 (by kernel_rfl) (by kernel_rfl) (by kernel_rfl) (by kernel_rfl)) ?_
  intro W base args ds gs before hval0 hW hcnd hsz0 _
  have hval : ∀ (j : Nat) t v, Try.f6.params[j]? = some t → args[j]? = some v → Value.okWide Try.prog W .any base t v := hval0
  have hW' := hW
  obtain ⟨p, q, hA0, hV, rfl, hfz, hnd⟩ := hW
  have hA : DataW.TrodAll enc Try.prog W 0 (fun _ => true) true Try.f6.params.toList args.toList ds p := hA0
  rw [Try.params6] at hA hval
  obtain ⟨v0, vs0, d0, ds0, p0, q0, hargs, rfl, rfl, h0, r0⟩ := trodAll_cons hA
  obtain ⟨v1, vs1, d1, ds1, p1, q1, rfl, rfl, rfl, h1, r1⟩ := trodAll_cons r0
  obtain ⟨rfl, rfl, rfl⟩ := trodAll_nil r1
  obtain rfl : args = #[v0, v1] := by cases args; simp_all
  obtain ⟨rfl, rfl⟩ := trodVars_none hV
  obtain ⟨a0, rfl, rfl, rfl, y0⟩ := open_string Try.underlying9 (hval 0 9 v0 rfl rfl) h0
  obtain ⟨cs, rfl, hsz, _⟩ : ∃ cs, v1 = .agg cs ∧ cs.size = Try.prog.cellsOf 49 ∧ Row.okWide Try.prog W .any base 49 cs := by
    have := hval 1 49 v1 rfl rfl
    simpa [Value.okWide, Try.underlying49] using this
  rw [cells49] at hsz
  obtain ⟨l⟩ := cs
  obtain ⟨c0, c1, c2, rfl⟩ := list3 l hsz
  obtain ⟨fuel, hf⟩ := h1
  obtain ⟨z0, z1, z2, m, hx, hz0, hz1, hz2⟩ := trod_array3 Try.underlying49 cells48 hf
  obtain ⟨x0, e0, rfl, w0⟩ := DataW.trod_int Try.underlying48 hz0
  obtain ⟨x1, e1, rfl, w1⟩ := DataW.trod_int Try.underlying48 hz1
  obtain ⟨x2, e2, rfl, w2⟩ := DataW.trod_int Try.underlying48 hz2
  simp at e0 e1 e2
  subst e0 e1 e2
  simp only [Prod.mk.injEq] at hx
  obtain ⟨rfl, rfl⟩ := hx
  clear hA0 hval0 hsz0
  simp only [List.append_nil] at hW'
  refine (law_below (flowTransits_walk a0 x0 x1 x2 (u16 w0) (u16 w1) (u16 w2)) (reps_args a0 x0 x1 x2) W).mono fun e W' ⟨he, bel⟩ => ?_
  subst he
  have rdA : DataW.Trod enc Try.prog W' 0 (fun b => decide (b < W.heap.size)) true 49 (.agg #[.int .u16 x0, .int .u16 x1, .int .u16 x2]) (DataW.agg [.lit (.int .u16 x0), .lit (.int .u16 x1), .lit (.int .u16 x2)]) [] :=
    ⟨2, by simp [DataW.trod, Value.cells, Try.underlying49, Try.underlying48, cells49, cells48, w0, w1, w2, show List.range 3 = [0, 1, 2] from rfl]⟩
  exact ⟨_, rfl, _, _, _, [], _, [], hW', trodAll_mk1 (shut_bool Try.underlying4 _), (trodAll_cons_mk (shut_string Try.underlying9 y0) (trodAll_cons_mk rdA trodAll_mk0)), rfl, bel.frame _, fun h => by cases h⟩
theorem over : Rows.flowTransitsRow.holds Try.pinned (OpenSpec.ofChange Rows.flowTransitsSpec) :=
  OpenClaim.holds_of_wide 6 Try.f6 rfl rfl rfl rfl rfl rfl rfl ⟨rfl, rfl, rfl, rfl, rfl⟩ rfl rfl rfl rfl rfl (by kernel_rfl) Try.func6 (by kernel_rfl)
    (of_decide_eq_true (by kernel_rfl)) (by unfold Func.isWrapper; first | (rw [if_pos (by decide +kernel)]; kernel_rfl) | (rw [if_neg (by decide +kernel)]; exact ⟨rfl, rfl⟩))
    (fun os started H enc _ => lifted os started H enc)
end Go.Proofs.Ytaadamobapnfbaa.flowTransits
namespace Go.Proofs.Ytaadamobapnfbaa
theorem flowTransits_holds : Rows.FlowTransitsSaid := flowTransits.over
#print axioms flowTransits_holds
end Go.Proofs.Ytaadamobapnfbaa
