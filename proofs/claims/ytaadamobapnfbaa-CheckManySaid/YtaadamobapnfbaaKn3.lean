/- Own texts, put together by a program: L0 L1 M2 N0. -/
import Derived.Test.YtaadamobapnfbaaRows
import Derived.WalkKit
import Derived.ProofKit
import Derived.OpenShut
import Derived.ShutString
import Derived.ChangeOld
import Derived.Below
import Derived.SizedLaws
import Derived.Test.YtaadamobapnfbaaKn2
set_option linter.unusedVariables false
set_option linter.unusedSimpArgs false
namespace Go.Proofs.Ytaadamobapnfbaa
open Go Go.Abs
/-- where something is wrong, all that follows does nothing -/
def Lv (c d : CS) : Prop := d.code = 0 → c.code = 0
theorem Lv.refl (c : CS) : Lv c c := fun h => h
theorem Lv.trans {a b c : CS} (h : Lv a b) (h' : Lv b c) : Lv a c := fun k => h (h' k)
theorem Lv.need (c : CS) (ok : Bool) (a k : Int) (hk : k ≠ 0) : Lv c (c.need ok a k) := fun h => ((need_code c ok a k hk).1 h).1
theorem Lv.valOf {c : CS} {r : CS × Int} (h : Lv c r.1) (i : Int) : Lv c (valOf r i).1 := h.trans (.need _ _ _ _ (by decide))
theorem Lv.slotOf (c : CS) (s : ByteArray) (b : Bool) (a : Int) : Lv c (c.slotOf s b a).1 := .need _ _ _ _ (by decide)
theorem Lv.args {g : CS → Int → CS × Int} (hg : ∀ c i, Lv c (g c i).1) : ∀ (l : List Int) (c : CS) (b : Bool), Lv c (argsOf g l c b).1
  | [], c, b => .refl c
  | a :: l, c, b => (Lv.valOf (hg c a) a).trans (Lv.args hg l _ _)
theorem Lv.set {c d : CS} (h : Lv c d) (i n : Int) : Lv c (d.setSlot i n) := h
theorem Lv.kindCase {g : CS → Int → CS × Int} (ih : ∀ c i, Lv c (g c i).1) (c : CS) (i : Int) (e : Ex) : Lv c (kindCase g c i e).1 := by
  unfold Ytaadamobapnfbaa.kindCase
  split
  · exact .refl c
  split
  · split
    · exact .slotOf _ _ _ _
    · exact .slotOf _ _ _ _
  split
  · exact (((ih _ _).valOf _).trans (.slotOf _ _ _ _)).trans (.need _ _ _ _ (by decide))
  split
  · split
    · exact ((Lv.args ih _ _ _).trans (.need _ _ _ _ (by decide))).trans (.need _ _ _ _ (by decide))
    · exact (Lv.args ih _ _ _).trans (.need _ _ _ _ (by decide))
  split
  · exact ((ih _ _).valOf _).trans (.need _ _ _ _ (by decide))
  split
  · exact (((ih _ _).valOf _).trans ((ih _ _).valOf _)).trans (.need _ _ _ _ (by decide))
  · exact .refl c
theorem Lv.typed {c : CS} {r : CS × Int} (h : Lv c r.1) (i : Int) : Lv c (typed r i).1 := by
  unfold Ytaadamobapnfbaa.typed
  split
  · exact h
  · exact h
theorem Lv.expr6 : ∀ (n : Nat) (c : CS) (i : Int), Lv c (expr6 n c i).1
  | 0, c, i => .refl c
  | n + 1, c, i => by
    unfold Ytaadamobapnfbaa.expr6
    split
    · exact .refl c
    · exact (Lv.kindCase (Lv.expr6 n) c i _).typed i
theorem Lv.vals (c : CS) (i : Int) : Lv c (vals c i).1 := (Lv.expr6 _ _ _).valOf _
theorem Lv.decl (c : CS) (s : ByteArray) (k a : Int) : Lv c (c.decl s k a).1 := by
  unfold CS.decl
  split
  · rename_i h; exact fun h' => absurd h' h
  · exact .refl c
theorem Lv.stmts {g : CS → Int → CS} (hg : ∀ c i, Lv c (g c i)) (b : Int) : ∀ (l : List Int) (c : CS), Lv c (stmtsOf g b l c)
  | [], c => .refl c
  | i :: l, c => (hg c i).trans (fun h => Lv.stmts hg b l { g c i with block := b } h)
theorem Lv.blockOf {g : CS → Int → CS} (hg : ∀ c i, Lv c (g c i)) (c : CS) (l : List Int) : Lv c (blockOf g c l) :=
  fun h => Lv.stmts hg (c.block + 1) l { c with block := c.block + 1 } h
theorem Lv.case {g : CS → Int → CS} (hg : ∀ c i, Lv c (g c i)) (c : CS) (s : St) : Lv c (stmtCase g c s).1 := by
  have hv := Lv.vals c s.a
  unfold stmtCase
  split
  · split
    · exact hv
    · exact hv.trans (.decl _ _ _ _)
  split
  · split
    · exact .need _ _ _ _ (by decide)
    · exact (Lv.need _ _ _ _ (by decide)).trans (.decl _ _ _ _)
  split
  · split
    · exact hv
    · split
      · exact hv.trans ((Lv.slotOf _ _ _ _).trans (.need _ _ _ _ (by decide)))
      · exact hv.trans (Lv.slotOf _ _ _ _)
  split
  · split
    · exact hv.trans (Lv.vals _ _)
    · exact (hv.trans (Lv.vals _ _)).trans ((Lv.slotOf _ _ _ _).trans (.need _ _ _ _ (by decide)))
  split
  · exact ((hv.trans (.need _ _ _ _ (by decide))).trans (.blockOf hg _ _)).trans (.blockOf hg _ _)
  split
  · intro h
    have h1 := Lv.blockOf hg _ _ h
    exact hv ((need_code _ _ _ _ (by decide)).1 h1).1
  split
  · exact .need _ _ _ _ (by decide)
  split
  · split
    · exact hv.trans (.need _ _ _ _ (by decide))
    · exact .need _ _ _ _ (by decide)
  split
  · exact hv
  split
  · exact .expr6 _ _ _
  · exact .refl c
theorem Lv.putted {c : CS} {r : CS × Int} (h : Lv c r.1) (i : Int) : Lv c (putted r i) := by
  unfold Ytaadamobapnfbaa.putted
  split
  · exact h
  · exact h
theorem Lv.stm6 : ∀ (n : Nat) (c : CS) (i : Int), Lv c (stm6 n c i)
  | 0, c, i => .refl c
  | n + 1, c, i => by
    unfold Ytaadamobapnfbaa.stm6
    split
    · exact .refl c
    · exact fun h => (Lv.case (Lv.stm6 n) (c.setFunc i c.f) (c.stm i)).putted i h
end Go.Proofs.Ytaadamobapnfbaa
set_option linter.unusedVariables false
set_option linter.unusedSimpArgs false
namespace Go.Proofs.Ytaadamobapnfbaa
open Go Go.Abs
theorem Lv.body : ∀ (l : List Int) (c : CS), Lv c (bodyOf l c)
  | [], c => .refl c
  | k :: l, c => (Lv.stm6 c.t.stmts.length c k).trans (Lv.body l _)
theorem Lv.pars (fr : Int) : ∀ (l : List ByteArray) (c : CS), Lv c (parsOf fr l c)
  | [], c => .refl c
  | p :: l, c => by
    refine Lv.trans ?_ (Lv.pars fr l (if c.code = 0 then (c.decl p 1 fr).1 else c))
    split
    · exact .decl _ _ _ _
    · exact .refl c
theorem Lv.funs : ∀ (l : List Fu) (i : Nat) (c : CS), Lv c (funs i l c)
  | [], i, c => .refl c
  | g :: l, i, c => fun h => Lv.pars _ _ { c with f := i, names := [], block := 0 } (Lv.body _ _ (Lv.funs l (i + 1) _ h))
theorem IsTree.sts {s : ByteArray} {t : Tree} {toks : List Tok} {at_ : Int} (h : IsTree s t toks at_) : ∀ (i : Nat) (x : St), t.stmts[i]? = Option.some x → StOk x := fun i x hx => by
  have hlt := (List.getElem?_eq_some_iff.1 hx).1
  obtain ⟨k, g, a', b', c', d', x', y', q1, q2, q3, q4, q5, q6, q7, q8, q9, q10⟩ := h.cov.one_s i (Nat.zero_le _) hlt
  exact (q2.st i x q9 q10 hx).1
end Go.Proofs.Ytaadamobapnfbaa
set_option linter.unusedVariables false
set_option linter.unusedSimpArgs false
set_option maxRecDepth 1000000
namespace Go.Proofs.Ytaadamobapnfbaa
open Go Go.Abs
theorem way_len (t : Tree) (d : Ctx) : (way t d).length ≤ 2 := by
  unfold way; repeat' split
  all_goals simp
theorem FlowOk.small {t : Tree} {R : Nat → Nat} (hR : FR t R) {nx : List (List Int)} (h : FlowOk t nx) {i : Nat} (hi : i < nx.length) : nx[i].length ≤ 2 := by
  obtain ⟨k, d, hk, hin, hd⟩ := hR.ex (i := i) (by rw [← h.len]; exact hi)
  have := h.ways k d hin
  rw [hd, Int.toNat_natCast, List.getElem?_eq_getElem hi] at this
  rw [Option.some.inj this]; exact way_len t d
end Go.Proofs.Ytaadamobapnfbaa
set_option linter.unusedVariables false
namespace Go.Proofs.Ytaadamobapnfbaa
open Go Go.Abs Go.RowKit
def gh0 : Gh := { per := fun _ => [], size := fun _ => 0, loc := fun _ => none, tok := fun _ => none, next := 0 }
theorem own0 (W : World) : Own gh0 [] W :=
  ⟨fun b h => absurd rfl h, fun it h => by simp at h, .nil, fun b _ => ⟨rfl, rfl⟩, fun m _ => ⟨rfl, rfl⟩, fun m b h => (by cases h), fun t p h => (by cases h)⟩
theorem law_below {f : FuncId} {args : List AV} {cargs : Array Value} (hc : ACalls Try.prog f args [] (RV (.v (.bool true)) [])) (hr : Reps gh0 args cargs) (W : World) :
    Calls Try.prog f cargs W fun e W' => e = .returned (.bool true) ∧ Below W.heap.size W W' := by
  refine (hc gh0 W cargs (own0 W) hr).mono fun e w he => ?_
  cases e with
  | returned c =>
    obtain ⟨G', R', r, hE, hO, hrep, hq⟩ := he
    cases hq
    refine ⟨by rw [hrep.v_inv], hE.os, hE.tape, hE.output, hE.size, fun k hk => (hE.same k hk ?_).1⟩
    rintro ⟨it, hi, _⟩
    simp at hi
  | panicked ch =>
    obtain ⟨G', R', x, c, h0, hE, hO, hrep, hq⟩ := he
    cases hq
  | outgrown => exact he.elim
theorem owned0 : ownKnob Try.prog.godebug = none := by kernel_rfl
end Go.Proofs.Ytaadamobapnfbaa
