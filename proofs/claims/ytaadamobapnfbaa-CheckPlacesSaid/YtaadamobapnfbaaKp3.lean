/- Own texts, put together by a program: N0. -/
import Derived.Test.YtaadamobapnfbaaRows
import Derived.WalkKit
import Derived.ProofKit
import Derived.OpenShut
import Derived.ShutString
import Derived.ChangeOld
import Derived.Below
import Derived.SizedLaws
import Derived.Test.YtaadamobapnfbaaKp2
set_option linter.unusedVariables false
namespace Go.Proofs.Ytaadamobapnfbaa
open Go Go.Abs Go.RowKit
def gh0 : Gh := { per := fun _ => [], size := fun _ => 0, loc := fun _ => none, tok := fun _ => none, next := 0 }
theorem own0 (W : World) : Own gh0 [] W :=
  ⟨fun b h => absurd rfl h, fun it h => by simp at h, .nil, fun b _ => ⟨rfl, rfl⟩, fun m _ => ⟨rfl, rfl⟩, fun m b h => (by cases h), fun t p h => (by cases h)⟩
theorem law_below {f : FuncId} {args : List AV} {cargs : Array Value} (hc : ACalls Try.prog f args [] (RV (.v (.bool true)) [])) (hr : Reps gh0 args cargs) (W : World) :
    Calls Try.prog f cargs W fun e W' => e = .returned (.bool true) ∧ Below W.heap.size W W' := by
  refine (hc gh0 W cargs (own0 W) hr).mono fun e w he => ?_
  cases e with
  | returned c =>
    obtain ⟨G', R', r, hE, hO, hrep, hq⟩ := he
    cases hq
    refine ⟨by rw [hrep.v_inv], hE.os, hE.tape, hE.output, hE.size, fun k hk => (hE.same k hk ?_).1⟩
    rintro ⟨it, hi, _⟩
    simp at hi
  | panicked ch =>
    obtain ⟨G', R', x, c, h0, hE, hO, hrep, hq⟩ := he
    cases hq
  | outgrown => exact he.elim
theorem reps_string (s : ByteArray) : Reps gh0 [vs s] #[.string s] :=
  ⟨rfl, fun i x hx => by
    match i, hx with
    | 0, hx =>
      simp only [List.getElem?_cons_zero, Option.some.injEq] at hx
      exact ⟨.string s, rfl, hx ▸ .v⟩
    | i + 1, hx => simp at hx⟩
theorem owned0 : ownKnob Try.prog.godebug = none := by kernel_rfl
end Go.Proofs.Ytaadamobapnfbaa
