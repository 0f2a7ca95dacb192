/- Own texts, put together by a program: K7 K8 L0 L1 L2 M0 M1 M2 N0 M3. -/
import Derived.Test.YtaadamobapnfbaaRows
import Derived.WalkKit
import Derived.ProofKit
import Derived.OpenShut
import Derived.ShutString
import Derived.ChangeOld
import Derived.Below
import Derived.SizedLaws
import Derived.Test.YtaadamobapnfbaaFg3
/- ref07: Behind, Next, All. -/
set_option linter.unusedVariables false
set_option linter.unusedSimpArgs false
set_option maxRecDepth 100000
namespace Go.Proofs.Ytaadamobapnfbaa
open Go Go.Abs
theorem Beh.inF {t : Tree} {k : Nat} {d : Ctx} (h : Beh t k d) : InF t k d := by
  induction h with
  | top hg hj hb => exact ⟨_, _, hg, hj, .self⟩
  | thn h hin hi hj hb ih => obtain ⟨g, j, h1, h2, h3⟩ := hin; exact ⟨g, j, h1, h2, .thn h3 _ hj⟩
  | els h hin hi hj hb ih => obtain ⟨g, j, h1, h2, h3⟩ := hin; exact ⟨g, j, h1, h2, .els h3 _ hj⟩
def CBeh (t : Tree) (P : List Pl) (mP : Nat) (d : Ctx) : Prop :=
  ACalls Try.prog 46 [.agg t.cells, .sl 4 mP 0 t.stmts.length, vi d.i] [.mu mP (pcells P)] (RV (vi d.behind) [.mu mP (pcells P)])
theorem behind_step (t : Tree) (R : Nat → Nat) (ht : TreeOk t) (hR : FR t R) (P : List Pl) (mP : Nat) (hP : LaidOk t P) (k : Nat) (d : Ctx) (hB : Beh t k d) (hnx : d.k + 1 < d.L.length → d.behind = d.L.getD (d.k + 1) 0)
    (hlast : ¬ d.k + 1 < d.L.length → (d.inn < 0 ∧ d.behind = -1) ∨ (0 ≤ d.inn ∧ d.inn < t.stmts.length ∧ (t.stm d.inn).kind = 6 ∧ d.behind = d.inn) ∨ (0 ≤ d.inn ∧ d.inn < t.stmts.length ∧ (t.stm d.inn).kind ≠ 6 ∧ ∃ e, e.i = d.inn ∧ e.behind = d.behind ∧ CBeh t P mP e)) : CBeh t P mP d := by
  have hin := hB.inF
  have hok := hB.ok
  obtain ⟨lo, o1, o2, o3, o4⟩ := hR.own hin
  have i0 := o1.i0
  have hrow := hP.all k d hin
  have hPl := hP.len
  have hbig := ht.big
  have hk0 := hok.k0
  have hlb := hok.big
  have hil := ints_len d.L
  have hpl : (P.map Pl.cells)[d.i.toNat]? = some [.il 1 none (ints d.L), vi (d.k : Nat), vi d.inn, vi d.loop] := pl_get hrow
  unfold CBeh
  refine ACalls.of_code (c := _) Try.func46 rfl Try.ntmps46 (Nat.le_of_ble_eq_true rfl) ?_
  refine ACode.seq (ACode.region ?_)
  refine ASeq.op rfl rfl (AOp.boxP rfl rfl rfl (fun _ => rfl) (fun _ => ?_))
  refine ASeq.q rfl rfl (QOp.assign rfl rfl) ?_
  refine ASeq.nil ?_
  rename_i m3
  refine ACode.seq (ACode.region ?_)
  refine ASeq.q rfl rfl (QOp.move rfl rfl) ?_
  refine ASeq.q rfl rfl (QOp.move rfl rfl) ?_
  refine ASeq.q rfl rfl (QOp.indexM rfl rfl rfl (tok _ rfl) rfl (tok _ rfl) (by omega) (by omega) rfl) ?_
  refine ASeq.q rfl rfl (QOp.loadRow 0 (i := d.i.toNat) (row := [.il 1 none (ints d.L), vi (d.k : Nat), vi d.inn, vi d.loop]) rfl rfl rfl (tok _ rfl) rfl (pl_rows P) rfl hpl) ?_
  refine ASeq.op rfl rfl (AOp.allocP rfl (tok _ rfl) rfl rfl (fun _ => rfl) (fun _ => ?_))
  refine ASeq.op0 rfl rfl (AOp.storeP 2 rfl rfl rfl rfl (tok _ rfl) rfl rfl rfl rfl ?_)
  refine ASeq.nil ?_
  refine ACode.seq (ACode.seq (ACode.region ?_))
  refine ASeq.q rfl rfl (QOp.fieldM rfl rfl (tok _ rfl) rfl rfl (by decide) rfl) ?_
  refine ASeq.q rfl rfl (QOp.loadM 2 rfl rfl rfl (tok _ rfl) rfl) ?_
  refine ASeq.q rfl rfl (QOp.ar64 rfl rfl rfl rfl ⟨by omega, by omega⟩) ?_
  refine ASeq.q rfl rfl (QOp.fieldM rfl rfl (tok _ rfl) rfl rfl (by decide) rfl) ?_
  refine ASeq.q rfl rfl (QOp.loadM 2 rfl rfl rfl (tok _ rfl) rfl) ?_
  refine ASeq.q rfl rfl (QOp.lenI rfl rfl (tok _ rfl) rfl) ?_
  refine ASeq.q rfl rfl (QOp.cmp rfl rfl rfl rfl) ?_
  refine ASeq.nil ?_
  refine AExit.then_normal ?_
  refine ACode.cond _ rfl (fun hb => ?_) (fun hb => ?_)
  · have hlt : d.k + 1 < d.L.length := by have := of_decide_eq_true hb; rw [hil] at this; omega
    have hget := ints_get hlt
    have hval : d.behind = d.L[d.k + 1] := by rw [hnx hlt, List.getD_eq_getElem?_getD, List.getElem?_eq_getElem hlt]; rfl
    refine ACode.seq (ACode.region ?_)
    refine ASeq.q rfl rfl (QOp.fieldM rfl rfl (tok _ rfl) rfl rfl (by decide) rfl) ?_
    refine ASeq.q rfl rfl (QOp.loadM 2 rfl rfl rfl (tok _ rfl) rfl) ?_
    refine ASeq.q rfl rfl (QOp.fieldM rfl rfl (tok _ rfl) rfl rfl (by decide) rfl) ?_
    refine ASeq.q rfl rfl (QOp.loadM 2 rfl rfl rfl (tok _ rfl) rfl) ?_
    refine ASeq.q rfl rfl (QOp.ar64 rfl rfl rfl rfl ⟨by omega, by omega⟩) ?_
    refine ASeq.q rfl rfl (QOp.indexI rfl rfl rfl (tok _ rfl) rfl (tok _ rfl) (by omega) (by assumption)) ?_
    refine ASeq.q rfl rfl (QOp.loadI rfl rfl (tok _ rfl) rfl) ?_
    refine ASeq.q rfl rfl (QOp.assign rfl rfl) ?_
    refine ASeq.nil ?_
    refine ACode.ret (AExit.then_ret ?_)
    refine bodyQ_ret 1 (.tmp rfl .nil) rfl ?_
    rw [hval]; exact .mk
  have hnl : ¬ d.k + 1 < d.L.length := by have := of_decide_eq_false hb; rw [hil] at this; omega
  have hl := hlast hnl
  refine ACode.skip (ACode.seq (ACode.seq (ACode.region ?_)))
  refine ASeq.q rfl rfl (QOp.fieldM rfl rfl (tok _ rfl) rfl rfl (by decide) rfl) ?_
  refine ASeq.q rfl rfl (QOp.loadM 2 rfl rfl rfl (tok _ rfl) rfl) ?_
  refine ASeq.q rfl rfl (QOp.cmp rfl rfl rfl rfl) ?_
  refine ASeq.nil ?_
  refine AExit.then_normal ?_
  refine ACode.cond _ rfl (fun hb => ?_) (fun hb => ?_)
  · have hneg : d.inn < 0 := of_decide_eq_true hb
    have hval : d.behind = -1 := by
      rcases hl with h | h | h
      · exact h.2
      · omega
      · omega
    refine ACode.seq (ACode.region ?_)
    refine ASeq.q rfl rfl (QOp.assign rfl rfl) ?_
    refine ASeq.nil ?_
    refine ACode.ret (AExit.then_ret ?_)
    refine bodyQ_ret 1 (.tmp rfl .nil) rfl ?_
    rw [hval]; exact .mk
  have hge : ¬ d.inn < 0 := of_decide_eq_false hb
  have hl : 0 ≤ d.inn ∧ d.inn < t.stmts.length ∧ (((t.stm d.inn).kind = 6 ∧ d.behind = d.inn) ∨ ((t.stm d.inn).kind ≠ 6 ∧ ∃ e, e.i = d.inn ∧ e.behind = d.behind ∧ CBeh t P mP e)) := by
    rcases hl with h | h | h
    · omega
    · exact ⟨h.1, h.2.1, .inl h.2.2⟩
    · exact ⟨h.1, h.2.1, .inr h.2.2⟩
  obtain ⟨n0, n1, hl⟩ := hl
  have hrow2 := tst_get n0 n1
  refine ACode.skip (ACode.seq (ACode.seq (ACode.region ?_)))
  refine ASeq.q rfl rfl (QOp.fieldM rfl rfl (tok _ rfl) rfl rfl (by decide) rfl) ?_
  refine ASeq.q rfl rfl (QOp.loadM 1 rfl rfl rfl (tok _ rfl) rfl) ?_
  refine ASeq.q rfl rfl (QOp.fieldM rfl rfl (tok _ rfl) rfl rfl (by decide) rfl) ?_
  refine ASeq.q rfl rfl (QOp.loadM 2 rfl rfl rfl (tok _ rfl) rfl) ?_
  refine ASeq.q rfl rfl (QOp.indexI rfl rfl rfl (tok _ rfl) rfl (tok _ rfl) (by omega) (by assumption)) ?_
  refine ASeq.q rfl rfl (QOp.fieldI rfl rfl (tok _ rfl) rfl rfl (by decide) rfl) ?_
  refine ASeq.q rfl rfl (QOp.loadI rfl rfl (tok _ rfl) rfl) ?_
  refine ASeq.q rfl rfl (QOp.cmp rfl rfl rfl rfl) ?_
  refine ASeq.nil ?_
  refine AExit.then_normal ?_
  refine ACode.cond _ rfl (fun hb => ?_) (fun hb => ?_)
  · have hk6 : (t.stm d.inn).kind = 6 := by simpa using hb
    have hval : d.behind = d.inn := by
      rcases hl with h | h
      · exact h.2
      · exact absurd hk6 h.1
    refine ACode.seq (ACode.region ?_)
    refine ASeq.q rfl rfl (QOp.fieldM rfl rfl (tok _ rfl) rfl rfl (by decide) rfl) ?_
    refine ASeq.q rfl rfl (QOp.loadM 2 rfl rfl rfl (tok _ rfl) rfl) ?_
    refine ASeq.q rfl rfl (QOp.assign rfl rfl) ?_
    refine ASeq.nil ?_
    refine ACode.ret (AExit.then_ret ?_)
    refine bodyQ_ret 1 (.tmp rfl .nil) rfl ?_
    rw [hval]; exact .mk
  · have hk6 : (t.stm d.inn).kind ≠ 6 := by simpa using hb
    obtain ⟨e, e1, e2, e3⟩ : ∃ e, e.i = d.inn ∧ e.behind = d.behind ∧ CBeh t P mP e := by
      rcases hl with h | h
      · exact absurd h.1 hk6
      · exact h.2
    unfold CBeh at e3
    rw [e1, e2] at e3
    refine ACode.skip (ACode.seq (ACode.region ?_))
    refine ASeq.q rfl rfl (QOp.loadM 1 rfl rfl rfl (tok _ rfl) rfl) ?_
    refine ASeq.q rfl rfl (QOp.move rfl rfl) ?_
    refine ASeq.q rfl rfl (QOp.fieldM rfl rfl (tok _ rfl) rfl rfl (by decide) rfl) ?_
    refine ASeq.q rfl rfl (QOp.loadM 2 rfl rfl rfl (tok _ rfl) rfl) ?_
    refine ASeq.op rfl rfl (AOp.callP 1 rfl (by kernel_rfl) rfl rfl rfl (e3) ?_ (by rintro _ _ ⟨⟩))
    rintro _ _ ⟨⟩
    refine ASeq.q rfl rfl (QOp.assign rfl rfl) ?_
    refine ASeq.nil ?_
    refine ACode.ret ?_
    refine bodyQ_ret 1 (.tmp rfl .nil) rfl ?_
    exact .mk
theorem firstOf_drop (L : List Int) (k : Nat) (B : Int) : (k + 1 < L.length → firstOf (L.drop (k + 1)) B = L.getD (k + 1) 0) ∧ (¬ k + 1 < L.length → firstOf (L.drop (k + 1)) B = B) := by
  constructor
  · intro h
    rw [List.drop_eq_getElem_cons h, List.getD_eq_getElem?_getD, List.getElem?_eq_getElem h]; rfl
  · intro h
    rw [List.drop_eq_nil_of_le (by omega)]; rfl
theorem behinds (t : Tree) (R : Nat → Nat) (ht : TreeOk t) (hR : FR t R) (P : List Pl) (mP : Nat) (hP : LaidOk t P) (k : Nat) (d : Ctx) (hB : Beh t k d) : CBeh t P mP d := by
  have sub : ∀ (d : Ctx) (M : List Int) (j : Nat), InF t k d → 0 ≤ d.i → Beh t k (d.sub t M j) → CBeh t P mP d → CBeh t P mP (d.sub t M j) := by
    intro d M j hin hi hb ih
    obtain ⟨lo, o1, o2, o3, o4⟩ := hR.own hin
    refine behind_step t R ht hR P mP hP k _ hb ?_ ?_
    · unfold Ctx.sub
      split
      · exact (firstOf_drop M j _).1
      · exact (firstOf_drop M j _).1
    · unfold Ctx.sub
      split
      · rename_i h6
        intro hn
        exact .inr (.inl ⟨hi, o4, h6, (firstOf_drop M j _).2 hn⟩)
      · rename_i h6
        intro hn
        exact .inr (.inr ⟨hi, o4, h6, d, rfl, ((firstOf_drop M j _).2 hn).symm, ih⟩)
  induction hB with
  | top hg hj hb =>
    refine behind_step t R ht hR P mP hP k _ (.top hg hj hb) (firstOf_drop _ _ _).1 (fun hn => .inl ⟨(by decide : (-1 : Int) < 0), (firstOf_drop _ _ _).2 hn⟩)
  | thn h hin hi hj hb ih => exact sub _ _ _ hin hi (.thn h hin hi hj hb) ih
  | els h hin hi hj hb ih => exact sub _ _ _ hin hi (.els h hin hi hj hb) ih
end Go.Proofs.Ytaadamobapnfbaa
/- ref07: Next, All. -/
set_option linter.unusedVariables false
set_option linter.unusedSimpArgs false
set_option maxRecDepth 100000
namespace Go.Proofs.Ytaadamobapnfbaa
open Go Go.Abs
theorem first_get {L : List Int} (h : 0 < L.length) (B : Int) : (ints L)[0]? = some [vi (firstOf L B)] := by
  cases L with
  | nil => simp at h
  | cons x l => rfl
theorem first_nil {L : List Int} (h : ¬ 0 < L.length) (B : Int) : firstOf L B = B := by
  cases L with
  | nil => rfl
  | cons x l => simp at h
theorem next_walk (t : Tree) (R : Nat → Nat) (ht : TreeOk t) (hR : FR t R) (hJ : JumpsOk t) (P : List Pl) (mP : Nat) (hP : LaidOk t P) (k : Nat) (d : Ctx) (hin : InF t k d) :
    ACalls Try.prog 30 [.agg t.cells, .sl 4 mP 0 t.stmts.length, vi d.i] [.mu mP (pcells P)] (RV (.il 1 none (ints (way t d))) [.mu mP (pcells P)]) := by
  have hB := hin.beh ht hR
  have hok := hB.ok
  obtain ⟨lo, o1, o2, o3, o4⟩ := hR.own hin
  have i0 := o1.i0
  have hrow := tst_get i0 o4
  have hPl := hP.len
  have hbig := ht.big
  have hpl : (P.map Pl.cells)[d.i.toNat]? = some [.il 1 none (ints d.L), vi (d.k : Nat), vi d.inn, vi d.loop] := pl_get (hP.all k d hin)
  have hpk : (pcells P)[0 + d.i.toNat * 4 + 3]? = some (vi d.loop) := by rw [Nat.zero_add]; exact flatten_get (pl_rows P) hpl rfl
  have hbw := behinds t R ht hR P mP hP k d hB
  unfold CBeh at hbw
  generalize hs : t.stm d.i = s at hrow
  have hit := ints_len s.thn
  have hie := ints_len s.els
  refine ACalls.of_code (c := _) Try.func30 rfl Try.ntmps30 (Nat.le_of_ble_eq_true rfl) ?_
  refine ACode.seq (ACode.region ?_)
  refine ASeq.op rfl rfl (AOp.boxP rfl rfl rfl (fun _ => rfl) (fun _ => ?_))
  refine ASeq.q rfl rfl (QOp.assign rfl rfl) ?_
  refine ASeq.nil ?_
  rename_i m3
  refine ACode.seq (ACode.region ?_)
  refine ASeq.q rfl rfl (QOp.fieldM rfl rfl (tok _ rfl) rfl rfl (by decide) rfl) ?_
  refine ASeq.q rfl rfl (QOp.loadM 1 rfl rfl rfl (tok _ rfl) rfl) ?_
  refine ASeq.q rfl rfl (QOp.move rfl rfl) ?_
  refine ASeq.q rfl rfl (QOp.indexI rfl rfl rfl (tok _ rfl) rfl (tok _ rfl) (by omega) (by assumption)) ?_
  refine ASeq.q rfl rfl (QOp.loadI rfl rfl (tok _ rfl) rfl) ?_
  refine ASeq.op rfl rfl (AOp.allocP rfl (tok _ rfl) rfl rfl (fun _ => rfl) (fun _ => ?_))
  refine ASeq.op0 rfl rfl (AOp.storeP 2 rfl rfl rfl rfl (tok _ rfl) rfl rfl rfl rfl ?_)
  refine ASeq.nil ?_
  rename_i m7
  refine ACode.seq (ACode.region ?_)
  refine ASeq.q rfl rfl (QOp.loadM 1 rfl rfl rfl (tok _ rfl) rfl) ?_
  refine ASeq.q rfl rfl (QOp.move rfl rfl) ?_
  refine ASeq.q rfl rfl (QOp.move rfl rfl) ?_
  refine ASeq.op rfl rfl (AOp.callP 1 rfl (by kernel_rfl) rfl rfl rfl (hbw) ?_ (by rintro _ _ ⟨⟩))
  rintro _ _ ⟨⟩
  refine ASeq.q rfl rfl (QOp.assign rfl rfl) ?_
  refine ASeq.nil ?_
  refine ACode.seq (ACode.seq (ACode.region ?_))
  refine ASeq.q rfl rfl (QOp.fieldM rfl rfl (tok _ rfl) rfl rfl (by decide) rfl) ?_
  refine ASeq.q rfl rfl (QOp.loadM 2 rfl rfl rfl (tok _ rfl) rfl) ?_
  refine ASeq.nil ?_
  refine ACode.block (ACode.seq (ACode.region ?_))
  refine ASeq.q rfl rfl (QOp.cmp rfl rfl rfl rfl) ?_
  refine ASeq.q rfl rfl (QOp.assign rfl rfl) ?_
  refine ASeq.nil ?_
  refine AExit.then_normal ?_
  refine ACode.cond _ rfl (fun hb => ?_) (fun hb => ?_)
  · have hk5 : s.kind = 5 := by simpa using hb
    have hw : way t d = [firstOf s.thn d.behind, firstOf s.els d.behind] := by unfold way; rw [hs, if_pos hk5]
    rw [hw]
    refine ACode.seq (ACode.region ?_)
    refine ASeq.q rfl rfl (QOp.move rfl rfl) ?_
    refine ASeq.q rfl rfl (QOp.move rfl rfl) ?_
    refine ASeq.q rfl rfl (QOp.assign rfl rfl) ?_
    refine ASeq.q rfl rfl (QOp.assign rfl rfl) ?_
    refine ASeq.nil ?_
    refine AExit.then_normal ?_
    refine ACode.meet [(7, .mp m7 0), (10, vi d.behind), (9, vi (firstOf s.thn d.behind))] [.mu mP (pcells P), .mu m3 t.cells, .mu m7 s.cells] (fun rest => ?_) ?_
    · refine ACode.seq (ACode.region ?_)
      refine ASeq.q rfl rfl (QOp.fieldM rfl rfl (tok _ rfl) rfl rfl (by decide) rfl) ?_
      refine ASeq.q rfl rfl (QOp.loadM 2 rfl rfl rfl (tok _ rfl) rfl) ?_
      refine ASeq.q rfl rfl (QOp.lenI rfl rfl (tok _ rfl) rfl) ?_
      refine ASeq.q rfl rfl (QOp.cmp rfl rfl rfl rfl) ?_
      refine ASeq.nil ?_
      refine AExit.then_normal ?_
      refine ACode.cond _ rfl (fun hb => ?_) (fun hb => ?_)
      · have hlt : 0 < s.thn.length := by have := of_decide_eq_true hb; rw [hit] at this; omega
        have hget := first_get hlt d.behind
        refine ACode.region ?_
        refine ASeq.q rfl rfl (QOp.fieldM rfl rfl (tok _ rfl) rfl rfl (by decide) rfl) ?_
        refine ASeq.q rfl rfl (QOp.loadM 2 rfl rfl rfl (tok _ rfl) rfl) ?_
        refine ASeq.q rfl rfl (QOp.indexI rfl rfl rfl (tok _ rfl) rfl (tok _ rfl) (by decide) (by assumption)) ?_
        refine ASeq.q rfl rfl (QOp.loadI rfl rfl (tok _ rfl) rfl) ?_
        refine ASeq.q rfl rfl (QOp.assign rfl rfl) ?_
        refine ASeq.nil ?_
        refine AExit.then_normal ?_
        exact rest.atP 3 (.cons rfl (.cons rfl (.cons rfl .nil))) rfl
      · have hlt : ¬ 0 < s.thn.length := by have := of_decide_eq_false hb; rw [hit] at this; omega
        refine ACode.skip ?_
        refine AExit.then_normal ?_
        exact rest.atP 3 (.cons rfl (.cons rfl (.consE rfl (by rw [first_nil hlt]) .nil))) rfl
    refine ACode.meet [(9, vi (firstOf s.thn d.behind)), (10, vi (firstOf s.els d.behind))] [.mu mP (pcells P), .mu m3 t.cells, .mu m7 s.cells] (fun rest => ?_) ?_
    · refine ACode.seq (ACode.region ?_)
      refine ASeq.q rfl rfl (QOp.fieldM rfl rfl (tok _ rfl) rfl rfl (by decide) rfl) ?_
      refine ASeq.q rfl rfl (QOp.loadM 2 rfl rfl rfl (tok _ rfl) rfl) ?_
      refine ASeq.q rfl rfl (QOp.lenI rfl rfl (tok _ rfl) rfl) ?_
      refine ASeq.q rfl rfl (QOp.cmp rfl rfl rfl rfl) ?_
      refine ASeq.nil ?_
      refine AExit.then_normal ?_
      refine ACode.cond _ rfl (fun hb => ?_) (fun hb => ?_)
      · have hlt : 0 < s.els.length := by have := of_decide_eq_true hb; rw [hie] at this; omega
        have hget := first_get hlt d.behind
        refine ACode.region ?_
        refine ASeq.q rfl rfl (QOp.fieldM rfl rfl (tok _ rfl) rfl rfl (by decide) rfl) ?_
        refine ASeq.q rfl rfl (QOp.loadM 2 rfl rfl rfl (tok _ rfl) rfl) ?_
        refine ASeq.q rfl rfl (QOp.indexI rfl rfl rfl (tok _ rfl) rfl (tok _ rfl) (by decide) (by assumption)) ?_
        refine ASeq.q rfl rfl (QOp.loadI rfl rfl (tok _ rfl) rfl) ?_
        refine ASeq.q rfl rfl (QOp.assign rfl rfl) ?_
        refine ASeq.nil ?_
        refine AExit.then_normal ?_
        exact rest.atP 3 (.cons rfl (.cons rfl .nil)) rfl
      · have hlt : ¬ 0 < s.els.length := by have := of_decide_eq_false hb; rw [hie] at this; omega
        refine ACode.skip ?_
        refine AExit.then_normal ?_
        exact rest.atP 3 (.cons rfl (.consE rfl (by rw [first_nil hlt]) .nil)) rfl
    refine ACode.seq (ACode.region ?_)
    refine ASeq.q rfl rfl (QOp.move rfl rfl) ?_
    refine ASeq.q rfl rfl (QOp.move rfl rfl) ?_
    refine ASeq.op rfl rfl (AOp.buildSliceR rfl (tok _ rfl) rfl (tok _ rfl) (by decide) rfl (by decide) rfl rfl rfl rfl ?_)
    refine ASeq.q rfl rfl (QOp.assign rfl rfl) ?_
    refine ASeq.nil ?_
    refine ACode.ret (AExit.in_ret (AExit.then_ret ?_))
    refine bodyQ_ret 1 (.tmp rfl .nil) rfl ?_
    exact .mk
  have hne5 : s.kind ≠ 5 := by simpa using hb
  refine ACode.seq (ACode.region ?_)
  refine ASeq.q rfl rfl (QOp.cmp rfl rfl rfl rfl) ?_
  refine ASeq.q rfl rfl (QOp.assign rfl rfl) ?_
  refine ASeq.nil ?_
  refine AExit.then_normal ?_
  refine ACode.cond _ rfl (fun hb => ?_) (fun hb => ?_)
  · have hk6 : s.kind = 6 := by simpa using hb
    have hw : way t d = [firstOf s.thn d.i, d.behind] := by unfold way; rw [hs, if_neg hne5, if_pos hk6]
    rw [hw]
    refine ACode.seq (ACode.seq (ACode.region ?_))
    refine ASeq.q rfl rfl (QOp.fieldM rfl rfl (tok _ rfl) rfl rfl (by decide) rfl) ?_
    refine ASeq.q rfl rfl (QOp.loadM 2 rfl rfl rfl (tok _ rfl) rfl) ?_
    refine ASeq.q rfl rfl (QOp.lenI rfl rfl (tok _ rfl) rfl) ?_
    refine ASeq.q rfl rfl (QOp.cmp rfl rfl rfl rfl) ?_
    refine ASeq.nil ?_
    refine AExit.then_normal ?_
    refine ACode.cond _ rfl (fun hb => ?_) (fun hb => ?_)
    · have hlt : 0 < s.thn.length := by have := of_decide_eq_true hb; rw [hit] at this; omega
      have hget := first_get hlt d.i
      refine ACode.seq (ACode.region ?_)
      refine ASeq.q rfl rfl (QOp.fieldM rfl rfl (tok _ rfl) rfl rfl (by decide) rfl) ?_
      refine ASeq.q rfl rfl (QOp.loadM 2 rfl rfl rfl (tok _ rfl) rfl) ?_
      refine ASeq.q rfl rfl (QOp.indexI rfl rfl rfl (tok _ rfl) rfl (tok _ rfl) (by decide) (by assumption)) ?_
      refine ASeq.q rfl rfl (QOp.loadI rfl rfl (tok _ rfl) rfl) ?_
      refine ASeq.q rfl rfl (QOp.move rfl rfl) ?_
      refine ASeq.op rfl rfl (AOp.buildSliceR rfl (tok _ rfl) rfl (tok _ rfl) (by decide) rfl (by decide) rfl rfl rfl rfl ?_)
      refine ASeq.q rfl rfl (QOp.assign rfl rfl) ?_
      refine ASeq.nil ?_
      refine ACode.ret (AExit.then_ret (AExit.in_ret (AExit.then_ret ?_)))
      refine bodyQ_ret 1 (.tmp rfl .nil) rfl ?_
      exact .mk
    · have hlt : ¬ 0 < s.thn.length := by have := of_decide_eq_false hb; rw [hit] at this; omega
      rw [first_nil hlt]
      refine ACode.skip (ACode.seq (ACode.region ?_))
      refine ASeq.q rfl rfl (QOp.move rfl rfl) ?_
      refine ASeq.q rfl rfl (QOp.move rfl rfl) ?_
      refine ASeq.op rfl rfl (AOp.buildSliceR rfl (tok _ rfl) rfl (tok _ rfl) (by decide) rfl (by decide) rfl rfl rfl rfl ?_)
      refine ASeq.q rfl rfl (QOp.assign rfl rfl) ?_
      refine ASeq.nil ?_
      refine ACode.ret (AExit.in_ret (AExit.then_ret ?_))
      refine bodyQ_ret 1 (.tmp rfl .nil) rfl ?_
      exact .mk
  have hne6 : s.kind ≠ 6 := by simpa using hb
  have hjc := hJ k d hin
  rw [hs] at hjc
  refine ACode.seq (ACode.region ?_)
  refine ASeq.q rfl rfl (QOp.cmp rfl rfl rfl rfl) ?_
  refine ASeq.q rfl rfl (QOp.assign rfl rfl) ?_
  refine ASeq.nil ?_
  refine AExit.then_normal ?_
  refine ACode.cond _ rfl (fun hb => ?_) (fun hb => ?_)
  · have hk7 : s.kind = 7 := by simpa using hb
    have hw : way t d = [d.lb] := by unfold way; rw [hs, if_neg hne5, if_neg hne6, if_pos hk7]
    rw [hw]
    have hl0 := hjc (.inl hk7)
    obtain ⟨k2, e, h1, h2, h3⟩ : ∃ k e, InF t k e ∧ e.i = d.loop ∧ e.behind = d.lb := by
      rcases hok.loop with h | h
      · omega
      · exact h
    have hbe := behinds t R ht hR P mP hP k2 e (h1.beh ht hR)
    unfold CBeh at hbe
    rw [h2, h3] at hbe
    refine ACode.seq ?_
    refine ACode.drawn [[], [], [], [], [2, 3], [2, 3, 4], [2, 3, 4, 5], [0, 1, 2, 3, 4, 5, 6], [0, 1, 2, 3, 4, 5, 6, 7], [0, 1, 2, 3, 4, 5, 6, 7, 8]] (by kernel_rfl) mixed ?_
    refine DAny.ld 0 rfl rfl (by kernel_rfl) rfl (.does _ _ rfl (.none rfl) (QOp.loadM 1 rfl rfl rfl (tok _ rfl) rfl)) ?_
    refine DAny.qu 1 rfl rfl (by kernel_rfl) rfl (fun _ => .does _ _ rfl (.none rfl) (QOp.move rfl rfl)) ?_
    refine DAny.qu 2 rfl rfl (by kernel_rfl) rfl (fun _ => .does _ _ rfl (.none rfl) (QOp.move rfl rfl)) ?_
    refine DAny.qu 3 rfl rfl (by kernel_rfl) rfl (fun _ => .does _ _ rfl (.none rfl) (QOp.move rfl rfl)) ?_
    refine DAny.qu 4 rfl rfl (by kernel_rfl) rfl (fun _ => .does _ _ rfl (.none rfl) (QOp.indexM rfl rfl rfl (tok _ rfl) rfl (tok _ rfl) (by omega) (by omega) rfl)) ?_
    refine DAny.qu 5 rfl rfl (by kernel_rfl) rfl (fun _ => .does _ _ rfl (.none rfl) (QOp.fieldM rfl rfl (tok _ rfl) rfl rfl (by decide) rfl)) ?_
    refine DAny.ld 6 rfl rfl (by kernel_rfl) rfl (.does _ _ rfl (.none rfl) (QOp.loadAt 0 rfl rfl rfl (tok _ rfl) rfl (by assumption))) ?_
    refine DAny.ef 7 rfl (by kernel_rfl) (.none rfl) rfl rfl (AOp.callP 1 rfl (by kernel_rfl) rfl rfl rfl (hbe) ?_ (by rintro _ _ ⟨⟩))
    rintro _ _ ⟨⟩
    refine ⟨(by ((exact AllQ.nil))), ?_⟩
    refine DAny.ef 8 rfl (by kernel_rfl) (.none rfl) rfl rfl (AOp.buildSliceR rfl (tok _ rfl) rfl (tok _ rfl) (by decide) rfl (by decide) rfl rfl rfl rfl ⟨(by ((exact AllQ.nil))), ?_⟩)
    refine DAny.ef 9 rfl (by kernel_rfl) (.none rfl) rfl rfl (.q (QOp.assign rfl rfl) ⟨(by ((exact AllQ.nil))), ?_⟩)
    refine DAny.done (by kernel_rfl) ?_
    refine ACode.ret (AExit.in_ret (AExit.then_ret ?_))
    refine bodyQ_ret 1 (.tmp rfl .nil) rfl ?_
    exact .mk
  have hne7 : s.kind ≠ 7 := by simpa using hb
  refine ACode.seq (ACode.region ?_)
  refine ASeq.q rfl rfl (QOp.cmp rfl rfl rfl rfl) ?_
  refine ASeq.q rfl rfl (QOp.assign rfl rfl) ?_
  refine ASeq.nil ?_
  refine AExit.then_normal ?_
  refine ACode.cond _ rfl (fun hb => ?_) (fun hb => ?_)
  · have hk8 : s.kind = 8 := by simpa using hb
    have hw : way t d = [d.loop] := by unfold way; rw [hs, if_neg hne5, if_neg hne6, if_neg hne7, if_pos hk8]
    rw [hw]
    refine ACode.seq (ACode.region ?_)
    refine ASeq.q rfl rfl (QOp.move rfl rfl) ?_
    refine ASeq.q rfl rfl (QOp.move rfl rfl) ?_
    refine ASeq.q rfl rfl (QOp.indexM rfl rfl rfl (tok _ rfl) rfl (tok _ rfl) (by omega) (by omega) rfl) ?_
    refine ASeq.q rfl rfl (QOp.fieldM rfl rfl (tok _ rfl) rfl rfl (by decide) rfl) ?_
    refine ASeq.q rfl rfl (QOp.loadAt 0 rfl rfl rfl (tok _ rfl) rfl (by assumption)) ?_
    refine ASeq.op rfl rfl (AOp.buildSliceR rfl (tok _ rfl) rfl (tok _ rfl) (by decide) rfl (by decide) rfl rfl rfl rfl ?_)
    refine ASeq.q rfl rfl (QOp.assign rfl rfl) ?_
    refine ASeq.nil ?_
    refine ACode.ret (AExit.in_ret (AExit.then_ret ?_))
    refine bodyQ_ret 1 (.tmp rfl .nil) rfl ?_
    exact .mk
  have hne8 : s.kind ≠ 8 := by simpa using hb
  refine ACode.seq (ACode.region ?_)
  refine ASeq.q rfl rfl (QOp.cmp rfl rfl rfl rfl) ?_
  refine ASeq.q rfl rfl (QOp.assign rfl rfl) ?_
  refine ASeq.nil ?_
  refine AExit.then_normal ?_
  refine ACode.cond _ rfl (fun hb => ?_) (fun hb => ?_)
  · have hk9 : s.kind = 9 := by simpa using hb
    have hw : way t d = [-1] := by unfold way; rw [hs, if_neg hne5, if_neg hne6, if_neg hne7, if_neg hne8, if_pos hk9]
    rw [hw]
    refine ACode.seq (ACode.region ?_)
    refine ASeq.op rfl rfl (AOp.buildSliceR rfl (tok _ rfl) rfl (tok _ rfl) (by decide) rfl (by decide) rfl rfl rfl rfl ?_)
    refine ASeq.q rfl rfl (QOp.assign rfl rfl) ?_
    refine ASeq.nil ?_
    refine ACode.ret (AExit.in_ret (AExit.then_ret ?_))
    refine bodyQ_ret 1 (.tmp rfl .nil) rfl ?_
    exact .mk
  · have hne9 : s.kind ≠ 9 := by simpa using hb
    have hw : way t d = [d.behind] := by unfold way; rw [hs, if_neg hne5, if_neg hne6, if_neg hne7, if_neg hne8, if_neg hne9]
    rw [hw]
    refine ACode.skip (ACode.seq (ACode.region ?_))
    refine ASeq.q rfl rfl (QOp.move rfl rfl) ?_
    refine ASeq.op rfl rfl (AOp.buildSliceR rfl (tok _ rfl) rfl (tok _ rfl) (by decide) rfl (by decide) rfl rfl rfl rfl ?_)
    refine ASeq.q rfl rfl (QOp.assign rfl rfl) ?_
    refine ASeq.nil ?_
    refine ACode.ret ?_
    refine bodyQ_ret 1 (.tmp rfl .nil) rfl ?_
    exact .mk
def nxrows (ws : List (List Int)) : List (List AV) := ws.map fun w => [nxc w]
inductive RA (t : Tree) : AOut → List Abs.Item → Prop
  | mk (ws : List (List Int)) (hl : ws.length = t.stmts.length) (h : ∀ j, j < t.stmts.length → ∃ k d, InF t k d ∧ d.i = j ∧ ws[j]? = some (way t d)) : RA t (.ret (.il 1 none (nxrows ws))) []
theorem nxrows_len (ws : List (List Int)) : (nxrows ws).length = ws.length := by simp [nxrows]
theorem nxrows_snoc (ws : List (List Int)) (w : List Int) : nxrows ws ++ [[nxc w]] = nxrows (ws ++ [w]) := by simp [nxrows]
theorem nxrows_rows (ws : List (List Int)) (w : List Int) : ∀ r ∈ nxrows ws ++ [[nxc w]], r.length = 1 := rows_ok 1 _ _ (fun y hy => by obtain ⟨z, _, rfl⟩ := List.mem_map.1 hy; rfl) rfl
theorem all_walk (t : Tree) (R : Nat → Nat) (ht : TreeOk t) (hR : FR t R) (hJ : JumpsOk t) : ACalls Try.prog 17 [.agg t.cells] [] (RA t) := by
  refine ACalls.retellR ?_
  have hSl : (t.stmts.map St.cells).length = t.stmts.length := List.length_map ..
  have hbig := ht.big
  have hpl := places_walk t R ht hR
  refine ACalls.of_code (c := _) Try.func17 rfl Try.ntmps17 (Nat.le_of_ble_eq_true rfl) ?_
  refine ACode.newTok (fun τ => ?_)
  refine ACode.seq (ACode.region ?_)
  refine ASeq.op rfl rfl (AOp.boxP rfl rfl rfl (fun _ => rfl) (fun _ => ?_))
  refine ASeq.q rfl rfl (QOp.assign rfl rfl) ?_
  refine ASeq.nil ?_
  rename_i m1
  refine ACode.seq (ACode.region ?_)
  refine ASeq.q rfl rfl (QOp.loadM 1 rfl rfl rfl (tok _ rfl) rfl) ?_
  refine ASeq.op rfl rfl (AOp.callP 0 rfl (by kernel_rfl) rfl rfl rfl hpl ?_ (by rintro _ _ ⟨⟩))
  rintro _ _ ⟨mP, P, hP⟩
  refine ASeq.q rfl rfl (QOp.assign rfl rfl) ?_
  refine ASeq.nil ?_
  refine ACode.seq (ACode.region ?_)
  refine ASeq.q rfl rfl (QOp.assign rfl rfl) ?_
  refine ASeq.nil ?_
  refine ACode.seq (ACode.seq (ACode.region ?_))
  refine ASeq.slot 4 rfl (.nilT 1 (some τ)) ?_
  refine ASeq.q rfl rfl (QOp.fieldM rfl rfl (tok _ rfl) rfl rfl (by decide) rfl) ?_
  refine ASeq.q rfl rfl (QOp.loadM 2 rfl rfl rfl (tok _ rfl) rfl) ?_
  refine ASeq.q rfl rfl (QOp.lenI rfl rfl (tok _ rfl) rfl) ?_
  refine ASeq.q rfl rfl (QOp.move rfl rfl) ?_
  refine ASeq.nil ?_
  refine ACode.block ?_
  refine ACode.loopP (fun (x : Nat × List (List Int) × Nat) => [(1, .mp m1 0), (3, .sl 4 mP 0 t.stmts.length), (4, .il 1 (some x.2.2) (nxrows x.2.1)), (10, vi ((t.stmts.map St.cells).length : Int)), (11, vi x.1)])
    (fun x => [.mu mP (pcells P), .tk x.2.2, .mu m1 t.cells]) (fun x => t.stmts.length - x.1)
    (fun x => x.1 ≤ t.stmts.length ∧ x.2.1.length = x.1 ∧ ∀ j, j < x.1 → ∃ k d, InF t k d ∧ d.i = j ∧ x.2.1[j]? = some (way t d))
    (0, [], τ) ⟨Nat.zero_le _, rfl, fun j hj => by omega⟩ (.cons rfl (.cons rfl (.cons rfl (.cons rfl (.cons rfl .nil))))) 3 rfl ?_
  rintro ⟨i, ws, τ⟩ ⟨hi, hl, hw⟩
  dsimp only at hi hl hw
  have hnl := nxrows_len ws
  refine ACode.seq (ACode.region ?_)
  refine ASeq.q rfl rfl (QOp.cmp rfl rfl rfl rfl) ?_
  refine ASeq.nil ?_
  refine ACode.seq ?_
  refine ACode.cond _ rfl (fun hb => ?_) (fun hb => ?_)
  · have hlt : i < t.stmts.length := by have := of_decide_eq_true hb; rw [hSl] at this; omega
    obtain ⟨k, d, hk, hin, hdi⟩ := hR.ex hlt
    have hn := next_walk t R ht hR hJ P mP hP k d hin
    rw [hdi] at hn
    refine ACode.skip (ACode.seq (ACode.block (ACode.seq (ACode.region ?_))))
    refine ASeq.q rfl rfl (QOp.move rfl rfl) ?_
    refine ASeq.q rfl rfl (QOp.assign rfl rfl) ?_
    refine ASeq.nil ?_
    refine ACode.region ?_
    refine ASeq.q rfl rfl (QOp.move rfl rfl) ?_
    refine ASeq.q rfl rfl (QOp.loadM 2 rfl rfl rfl (tok _ rfl) rfl) ?_
    refine ASeq.q rfl rfl (QOp.move rfl rfl) ?_
    refine ASeq.q rfl rfl (QOp.move rfl rfl) ?_
    refine ASeq.op rfl rfl (AOp.callP 1 rfl (by kernel_rfl) rfl rfl rfl hn ?_ (by rintro _ _ ⟨⟩))
    rintro _ _ ⟨⟩
    refine ASeq.op rfl rfl (AOp.buildSliceR rfl (tok _ rfl) rfl (tok _ rfl) (by decide) rfl (by decide) rfl rfl rfl rfl ?_)
    refine ASeq.op rfl rfl (AOp.appendP 1 (e := 30) (tde := TT 30) rfl rfl rfl rfl (tok _ rfl) rfl (tok _ rfl) (tok _ rfl) rfl (by decide) rfl rfl (fun _ => rfl) (nxrows_rows ws (way t d)) (by simp only [nxrows_len, List.length_cons, List.length_nil]; omega) rfl (fun _ => ?_))
    refine ASeq.q rfl rfl (QOp.assign rfl rfl) ?_
    refine ASeq.nil ?_
    refine ACode.region ?_
    refine ASeq.q rfl rfl (QOp.ar64 rfl rfl rfl rfl ⟨by omega, by omega⟩) ?_
    refine ASeq.q rfl rfl (QOp.move rfl rfl) ?_
    refine ASeq.nil ?_
    refine AExit.then_normal ?_
    refine ⟨(i + 1, ws ++ [way t d], _), 3, ⟨hlt, by simp only [List.length_append, hl]; rfl, fun j hj => ?_⟩, by dsimp only; omega, .cons rfl (.cons rfl (.consE rfl (by show AV.il 1 _ (nxrows ws ++ [[nxc (way t d)]]) = _; rw [nxrows_snoc]) (.cons rfl (.cons rfl .nil)))), rfl⟩
    by_cases hji : j = i
    · subst hji
      exact ⟨k, d, hin, hdi, by dsimp only; rw [List.getElem?_append_right (by omega), hl]; simp⟩
    · obtain ⟨k', d', q1, q2, q3⟩ := hw j (by dsimp only at hj; omega)
      exact ⟨k', d', q1, q2, get_append q3⟩
  · have hge : i = t.stmts.length := by have := of_decide_eq_false hb; rw [hSl] at this; omega
    refine ACode.exit (ACode.seq (ACode.region ?_))
    refine ASeq.q rfl rfl (QOp.move rfl rfl) ?_
    refine ASeq.q rfl rfl (QOp.assign rfl rfl) ?_
    refine ASeq.nil ?_
    refine ACode.ret ?_
    refine bodyQ_ret 0 (.tmp rfl .nil) rfl ?_
    exact ⟨_, .tok 1 _ _, .mk ws (hl.trans hge) (fun j hj => hw j (by omega))⟩
theorem FR.same {t : Tree} {a b : List (List Int)} (ha : FlowOk t a) (hb : b.length = t.stmts.length) (h : ∀ j, j < t.stmts.length → ∃ k d, InF t k d ∧ d.i = j ∧ b[j]? = some (way t d)) : a = b := by
  apply List.ext_getElem?
  intro i
  by_cases hi : i < t.stmts.length
  · obtain ⟨k, d, q1, q2, q3⟩ := h i hi
    have := ha.ways k d q1
    rw [q2, Int.toNat_natCast] at this
    rw [this, q3]
  · rw [List.getElem?_eq_none (by have := ha.len; omega), List.getElem?_eq_none (by omega)]
end Go.Proofs.Ytaadamobapnfbaa
/- What a right program's statements are: jumps stand in whiles; functions told. -/
set_option linter.unusedVariables false
set_option linter.unusedSimpArgs false
namespace Go.Proofs.Ytaadamobapnfbaa
open Go Go.Abs
/-- where something is wrong, all that follows does nothing -/
def Lv (c d : CS) : Prop := d.code = 0 → c.code = 0
theorem Lv.refl (c : CS) : Lv c c := fun h => h
theorem Lv.trans {a b c : CS} (h : Lv a b) (h' : Lv b c) : Lv a c := fun k => h (h' k)
theorem Lv.need (c : CS) (ok : Bool) (a k : Int) (hk : k ≠ 0) : Lv c (c.need ok a k) := fun h => ((need_code c ok a k hk).1 h).1
theorem Lv.valOf {c : CS} {r : CS × Int} (h : Lv c r.1) (i : Int) : Lv c (valOf r i).1 := h.trans (.need _ _ _ _ (by decide))
theorem Lv.slotOf (c : CS) (s : ByteArray) (b : Bool) (a : Int) : Lv c (c.slotOf s b a).1 := .need _ _ _ _ (by decide)
theorem Lv.args {g : CS → Int → CS × Int} (hg : ∀ c i, Lv c (g c i).1) : ∀ (l : List Int) (c : CS) (b : Bool), Lv c (argsOf g l c b).1
  | [], c, b => .refl c
  | a :: l, c, b => (Lv.valOf (hg c a) a).trans (Lv.args hg l _ _)
theorem Lv.set {c d : CS} (h : Lv c d) (i n : Int) : Lv c (d.setSlot i n) := h
theorem Lv.kindCase {g : CS → Int → CS × Int} (ih : ∀ c i, Lv c (g c i).1) (c : CS) (i : Int) (e : Ex) : Lv c (kindCase g c i e).1 := by
  unfold Ytaadamobapnfbaa.kindCase
  split
  · exact .refl c
  split
  · split
    · exact .slotOf _ _ _ _
    · exact .slotOf _ _ _ _
  split
  · exact (((ih _ _).valOf _).trans (.slotOf _ _ _ _)).trans (.need _ _ _ _ (by decide))
  split
  · split
    · exact ((Lv.args ih _ _ _).trans (.need _ _ _ _ (by decide))).trans (.need _ _ _ _ (by decide))
    · exact (Lv.args ih _ _ _).trans (.need _ _ _ _ (by decide))
  split
  · exact ((ih _ _).valOf _).trans (.need _ _ _ _ (by decide))
  split
  · exact (((ih _ _).valOf _).trans ((ih _ _).valOf _)).trans (.need _ _ _ _ (by decide))
  · exact .refl c
theorem Lv.typed {c : CS} {r : CS × Int} (h : Lv c r.1) (i : Int) : Lv c (typed r i).1 := by
  unfold Ytaadamobapnfbaa.typed
  split
  · exact h
  · exact h
theorem Lv.expr6 : ∀ (n : Nat) (c : CS) (i : Int), Lv c (expr6 n c i).1
  | 0, c, i => .refl c
  | n + 1, c, i => by
    unfold Ytaadamobapnfbaa.expr6
    split
    · exact .refl c
    · exact (Lv.kindCase (Lv.expr6 n) c i _).typed i
theorem Lv.vals (c : CS) (i : Int) : Lv c (vals c i).1 := (Lv.expr6 _ _ _).valOf _
theorem Lv.decl (c : CS) (s : ByteArray) (k a : Int) : Lv c (c.decl s k a).1 := by
  unfold CS.decl
  split
  · rename_i h; exact fun h' => absurd h' h
  · exact .refl c
theorem Lv.stmts {g : CS → Int → CS} (hg : ∀ c i, Lv c (g c i)) (b : Int) : ∀ (l : List Int) (c : CS), Lv c (stmtsOf g b l c)
  | [], c => .refl c
  | i :: l, c => (hg c i).trans (fun h => Lv.stmts hg b l { g c i with block := b } h)
theorem Lv.blockOf {g : CS → Int → CS} (hg : ∀ c i, Lv c (g c i)) (c : CS) (l : List Int) : Lv c (blockOf g c l) :=
  fun h => Lv.stmts hg (c.block + 1) l { c with block := c.block + 1 } h
theorem Lv.case {g : CS → Int → CS} (hg : ∀ c i, Lv c (g c i)) (c : CS) (s : St) : Lv c (stmtCase g c s).1 := by
  have hv := Lv.vals c s.a
  unfold stmtCase
  split
  · split
    · exact hv
    · exact hv.trans (.decl _ _ _ _)
  split
  · split
    · exact .need _ _ _ _ (by decide)
    · exact (Lv.need _ _ _ _ (by decide)).trans (.decl _ _ _ _)
  split
  · split
    · exact hv
    · split
      · exact hv.trans ((Lv.slotOf _ _ _ _).trans (.need _ _ _ _ (by decide)))
      · exact hv.trans (Lv.slotOf _ _ _ _)
  split
  · split
    · exact hv.trans (Lv.vals _ _)
    · exact (hv.trans (Lv.vals _ _)).trans ((Lv.slotOf _ _ _ _).trans (.need _ _ _ _ (by decide)))
  split
  · exact ((hv.trans (.need _ _ _ _ (by decide))).trans (.blockOf hg _ _)).trans (.blockOf hg _ _)
  split
  · intro h
    have h1 := Lv.blockOf hg _ _ h
    exact hv ((need_code _ _ _ _ (by decide)).1 h1).1
  split
  · exact .need _ _ _ _ (by decide)
  split
  · split
    · exact hv.trans (.need _ _ _ _ (by decide))
    · exact .need _ _ _ _ (by decide)
  split
  · exact hv
  split
  · exact .expr6 _ _ _
  · exact .refl c
theorem Lv.putted {c : CS} {r : CS × Int} (h : Lv c r.1) (i : Int) : Lv c (putted r i) := by
  unfold Ytaadamobapnfbaa.putted
  split
  · exact h
  · exact h
theorem Lv.stm6 : ∀ (n : Nat) (c : CS) (i : Int), Lv c (stm6 n c i)
  | 0, c, i => .refl c
  | n + 1, c, i => by
    unfold Ytaadamobapnfbaa.stm6
    split
    · exact .refl c
    · exact fun h => (Lv.case (Lv.stm6 n) (c.setFunc i c.f) (c.stm i)).putted i h
/-- expressions, names leave statements' functions alone -/
theorem decl_func (c : CS) (s : ByteArray) (k a : Int) : (c.decl s k a).1.func = c.func := by
  unfold CS.decl
  split
  · rw [(Kept.need _ _ _ _).func, (Kept.need _ _ _ _).func]
  · rfl
theorem case_func {g : CS → Int → CS} (c : CS) (s : St) (h5 : s.kind ≠ 5) (h6 : s.kind ≠ 6) : (stmtCase g c s).1.func = c.func := by
  have hv := (Kept.vals c s.a).func
  unfold stmtCase
  split
  · split
    · exact hv
    · rw [decl_func]; exact hv
  split
  · split
    · exact (Kept.need _ _ _ _).func
    · rw [decl_func]; exact (Kept.need _ _ _ _).func
  split
  · split
    · exact hv
    · split
      · rw [(Kept.need _ _ _ _).func, (Kept.slotOf _ _ _ _).func]; exact hv
      · rw [(Kept.slotOf _ _ _ _).func]; exact hv
  split
  · split
    · rw [(Kept.vals _ _).func]; exact hv
    · rw [(Kept.need _ _ _ _).func, (Kept.slotOf _ _ _ _).func, (Kept.vals _ _).func]; exact hv
  split
  · exact (Kept.need _ _ _ _).func
  split
  · split
    · rw [(Kept.need _ _ _ _).func]; exact hv
    · exact (Kept.need _ _ _ _).func
  split
  · exact hv
  split
  · exact (Kept.expr6 _ _ _).func
  · rfl
theorem putted_func (r : CS × Int) (i : Int) : (putted r i).func = r.1.func := by unfold putted; split <;> rfl
/-- what a right statement is -/
structure Vis (t : Tree) (c d : CS) (occ : Ctx → Prop) (lo hi : Int) : Prop where
  jump : ∀ e, occ e → ((t.stm e.i).kind = 7 ∨ (t.stm e.i).kind = 8) → 0 ≤ e.loop
  func : ∀ e, occ e → d.func[e.i.toNat]? = some c.f
  rest : ∀ j : Nat, ((j : Int) < lo ∨ hi ≤ j) → d.func[j]? = c.func[j]?
def VS (n : Nat) : Prop := ∀ (t : Tree) (c : CS) (e : Ctx) (lo : Nat), c.t = t → c.ok → Own1 t e lo → e.i < n → (stm6 n c e.i).code = 0 → (0 < c.loops → 0 ≤ e.loop) → 0 ≤ c.loops → (∀ (i : Nat) (x : St), t.stmts[i]? = some x → StOk x) →
  Vis t c (stm6 n c e.i) (Occ t e) lo (e.i + 1)
theorem vis_list {n : Nat} (hS : VS n) (t : Tree) (L : List Int) (inn loop B lb b : Int) (hst : ∀ (i : Nat) (x : St), t.stmts[i]? = some x → StOk x) : ∀ (m k : Nat) (c : CS) (lo hi : Nat), L.length = k + m → SCov t (L.drop k) lo hi → hi ≤ n → c.t = t → c.ok → c.block = b →
    (stmtsOf (stm6 n) b (L.drop k) c).code = 0 → (0 < c.loops → 0 ≤ loop) → 0 ≤ c.loops →
    Vis t c (stmtsOf (stm6 n) b (L.drop k) c) (fun e => ∃ j, k ≤ j ∧ j < L.length ∧ Occ t (.at_ L j inn loop B lb) e) lo hi
  | 0, k, c, lo, hi, hm, hL, hn, hct, hc, hb, hcode, hl, hl0 => by
    have : L.drop k = [] := List.drop_eq_nil_of_le (by omega)
    rw [this] at hL ⊢
    cases hL
    exact ⟨fun e ⟨j, h1, h2, _⟩ => by omega, fun e ⟨j, h1, h2, _⟩ => by omega, fun j hj => rfl⟩
  | m + 1, k, c, lo, hi, hm, hL, hn, hct, hc, hb, hcode, hl, hl0 => by
    have hk : k < L.length := by omega
    have hdr := List.drop_eq_getElem_cons hk
    rw [hdr] at hL hcode ⊢
    obtain ⟨r, b0, q1, q1', q2, q3, q4, q5, q6, q7, q8⟩ := hL.mem 0 (by rw [List.length_cons]; omega)
    have q1 : L[k] = (r : Int) := q1
    have hb0 : lo = b0 := by cases q7; rfl
    subst hb0
    have q8 : SCov t (L.drop (k + 1)) (r + 1) hi := q8
    have ei : (Ctx.at_ L k inn loop B lb).i = L[k] := by show L.getD k 0 = _; rw [List.getD_eq_getElem?_getD, List.getElem?_eq_getElem hk]; rfl
    have o1 : Own1 t (.at_ L k inn loop B lb) lo := ⟨by rw [ei, q1]; omega, by rw [ei, q1]; omega, by rw [ei, q1]; exact q6⟩
    have hl2 := q8.le
    simp only [stmtsOf] at hcode ⊢
    have ks := KeptS.stm6 n c L[k] hc
    have k2 : KeptS c { stm6 n c L[k] with block := b } := { ks with block := hb.symm, ok := fun k => { ks.ok k with } }
    have hc2 := k2.ok hc
    have c2 : (stm6 n c L[k]).code = 0 := Lv.stmts (Lv.stm6 n) b (L.drop (k + 1)) { stm6 n c L[k] with block := b } hcode
    have v1 := hS t c (.at_ L k inn loop B lb) lo hct hc o1 (by rw [ei, q1]; omega) (by rw [ei]; exact c2) hl hl0 hst
    rw [ei] at v1
    have v2 := vis_list hS t L inn loop B lb b hst m (k + 1) { stm6 n c L[k] with block := b } (r + 1) hi (by omega) q8 hn (k2.t.trans hct) hc2 rfl hcode
      (by rw [k2.loops]; exact hl) (by rw [k2.loops]; exact hl0)
    refine ⟨fun e ⟨j, h1, h2, h3⟩ => ?_, fun e ⟨j, h1, h2, h3⟩ => ?_, fun j hj => ?_⟩
    · by_cases hjk : j = k
      · subst hjk; exact v1.jump e h3
      · exact v2.jump e ⟨j, by omega, h2, h3⟩
    · by_cases hjk : j = k
      · subst hjk
        obtain ⟨lo3, p1, p2, p3, p4⟩ := o1.occ h3
        have := p1.i0
        rw [v2.rest _ (by omega)]
        exact v1.func e h3
      · rw [v2.func e ⟨j, by omega, h2, h3⟩]
        exact congrArg some k2.f
    · rw [v2.rest j (by omega)]
      exact v1.rest j (by omega)
theorem vis_block {n : Nat} (hS : VS n) (t : Tree) (L : List Int) (inn loop B lb : Int) (hst : ∀ (i : Nat) (x : St), t.stmts[i]? = some x → StOk x) (c : CS) (lo hi : Nat) (hL : SCov t L lo hi) (hn : hi ≤ n) (hct : c.t = t) (hc : c.ok)
    (hcode : (blockOf (stm6 n) c L).code = 0) (hl : 0 < c.loops → 0 ≤ loop) (hl0 : 0 ≤ c.loops) : Vis t c (blockOf (stm6 n) c L) (fun e => ∃ j, j < L.length ∧ Occ t (.at_ L j inn loop B lb) e) lo hi := by
  have v := vis_list hS t L inn loop B lb (c.block + 1) hst L.length 0 { c with block := c.block + 1 } lo hi (by omega) hL hn hct { hc with } rfl hcode hl hl0
  exact ⟨fun e ⟨j, h1, h2⟩ => v.jump e ⟨j, Nat.zero_le _, h1, h2⟩, fun e ⟨j, h1, h2⟩ => v.func e ⟨j, Nat.zero_le _, h1, h2⟩, v.rest⟩
theorem vis_stmt (n : Nat) (hS : VS n) : VS (n + 1) := by
  intro t c e lo hct hc ho hn hcode hl hl0 hst
  have i0 := ho.i0
  have i1 := ho.i1
  have hs0 := hst e.i.toNat (t.stm e.i) (by simp only [Tree.stm, List.getD_eq_getElem?_getD]; rw [List.getElem?_eq_getElem (by omega)]; rfl)
  have hcc : c.code = 0 := Lv.stm6 (n + 1) c e.i hcode
  have hstm : c.stm e.i = t.stm e.i := by unfold CS.stm Tree.stm; rw [hct]
  have hk1 := KeptS.setFunc c e.i c.f
  have hok1 := hk1.ok hc
  have hlf : c.func.length = t.stmts.length := by rw [hc.lf, hct]
  obtain ⟨md, s1, s2⟩ := ho.kids.split
  have l1 := s1.le
  have l2 := s2.le
  unfold stm6 at hcode ⊢
  rw [if_neg (by omega), hstm] at hcode ⊢
  have hcode2 : (stmtCase (stm6 n) (c.setFunc e.i c.f) (t.stm e.i)).1.code = 0 := Lv.putted (Lv.refl _) e.i hcode
  generalize hs : t.stm e.i = s at *
  have hkv := Kept.vals (c.setFunc e.i c.f) s.a
  by_cases h5 : s.kind = 5
  · have hx : ∀ g, stmtCase g (c.setFunc e.i c.f) s = (blockOf g (blockOf g ((vals (c.setFunc e.i c.f) s.a).1.need ((vals (c.setFunc e.i c.f) s.a).2 == 2) s.fr 8) s.thn) s.els, -1) := fun g => by
      unfold stmtCase
      rw [if_neg (by omega), if_neg (by omega), if_neg (by omega), if_neg (by omega), if_pos h5]
    rw [hx] at hcode2 ⊢
    have hsub : ∀ (L : List Int) (k : Nat), e.sub t L k = .at_ L k e.i e.loop e.behind e.lb := fun L k => by unfold Ctx.sub; rw [hs, if_neg (by omega)]
    have hc1 : e.thn t = fun k => .at_ s.thn k e.i e.loop e.behind e.lb := by funext k; unfold Ctx.thn; rw [hsub, hs]
    have hc2 : e.els t = fun k => .at_ s.els k e.i e.loop e.behind e.lb := by funext k; unfold Ctx.els; rw [hsub, hs]
    have kx := hkv.trans (Kept.need _ ((vals (c.setFunc e.i c.f) s.a).2 == 2) s.fr 8)
    have lx : ((vals (c.setFunc e.i c.f) s.a).1.need ((vals (c.setFunc e.i c.f) s.a).2 == 2) s.fr 8).loops = c.loops := kx.loops
    have fx : ((vals (c.setFunc e.i c.f) s.a).1.need ((vals (c.setFunc e.i c.f) s.a).2 == 2) s.fr 8).func = c.func.set e.i.toNat c.f := kx.func
    have ffx : ((vals (c.setFunc e.i c.f) s.a).1.need ((vals (c.setFunc e.i c.f) s.a).2 == 2) s.fr 8).f = c.f := kx.f
    have tx : ((vals (c.setFunc e.i c.f) s.a).1.need ((vals (c.setFunc e.i c.f) s.a).2 == 2) s.fr 8).t = t := kx.t.trans hct
    have okx := kx.ok hok1
    generalize (vals (c.setFunc e.i c.f) s.a).1.need ((vals (c.setFunc e.i c.f) s.a).2 == 2) s.fr 8 = x at *
    have cy := Lv.blockOf (Lv.stm6 n) _ _ hcode2
    have v1 := vis_block hS t s.thn e.i e.loop e.behind e.lb hst x lo md s1 (by omega) tx okx cy (by rw [lx]; exact hl) (by rw [lx]; exact hl0)
    have ky := KeptS.blockOf (KeptS.stm6 n) x s.thn okx
    generalize blockOf (stm6 n) x s.thn = y at *
    have v2 := vis_block hS t s.els e.i e.loop e.behind e.lb hst y md e.i.toNat s2 (by omega) (ky.t.trans tx) (ky.ok okx) hcode2 (by rw [ky.loops, lx]; exact hl) (by rw [ky.loops, lx]; exact hl0)
    refine ⟨fun d hd hk => ?_, fun d hd => ?_, fun j hj => ?_⟩
    · rcases hd.cases with rfl | ⟨k, h1, h2⟩ | ⟨k, h1, h2⟩
      · rw [hs] at hk; omega
      · rw [hs] at h1; rw [hc1] at h2; exact v1.jump d ⟨k, h1, h2⟩ hk
      · rw [hs] at h1; rw [hc2] at h2; exact v2.jump d ⟨k, h1, h2⟩ hk
    · rw [putted_func]
      rcases hd.cases with rfl | ⟨k, h1, h2⟩ | ⟨k, h1, h2⟩
      · rw [v2.rest _ (by omega), v1.rest _ (by omega), fx, List.getElem?_set_self (by omega)]
      · rw [hs] at h1
        rw [hc1] at h2
        have hdl : d.i < md := by
          obtain ⟨lo1, p1, p2, p3, p4⟩ := s1.own h1 e.i e.loop e.behind e.lb
          obtain ⟨lo2, w1, w2, w3, w4⟩ := p1.occ h2
          omega
        have hd0 : 0 ≤ d.i := by
          obtain ⟨lo1, p1, p2, p3, p4⟩ := s1.own h1 e.i e.loop e.behind e.lb
          obtain ⟨lo2, w1, w2, w3, w4⟩ := p1.occ h2
          exact w1.i0
        rw [v2.rest _ (by omega), v1.func d ⟨k, h1, h2⟩, ffx]
      · rw [hs] at h1
        rw [hc2] at h2
        rw [v2.func d ⟨k, h1, h2⟩, ky.f, ffx]
    · rw [putted_func, v2.rest _ (by omega), v1.rest _ (by omega), fx, List.getElem?_set_ne (by omega)]
  by_cases h6 : s.kind = 6
  · have he := hs0.el h5
    have hx : ∀ g, stmtCase g (c.setFunc e.i c.f) s = ({ blockOf g ({ (vals (c.setFunc e.i c.f) s.a).1 with loops := c.loops + 1 }.need ((vals (c.setFunc e.i c.f) s.a).2 == 2) s.fr 8) s.thn with loops := c.loops }, -1) := fun g => by
      unfold stmtCase
      rw [if_neg (by omega), if_neg (by omega), if_neg (by omega), if_neg (by omega), if_neg (by omega), if_pos h6]; rfl
    rw [hx] at hcode2 ⊢
    have hsub : ∀ (L : List Int) (k : Nat), e.sub t L k = .at_ L k e.i e.i e.i e.behind := fun L k => by unfold Ctx.sub; rw [hs, if_pos h6]
    have hc1 : e.thn t = fun k => .at_ s.thn k e.i e.i e.i e.behind := by funext k; unfold Ctx.thn; rw [hsub, hs]
    have kx := Kept.need { (vals (c.setFunc e.i c.f) s.a).1 with loops := c.loops + 1 } ((vals (c.setFunc e.i c.f) s.a).2 == 2) s.fr 8
    have lx : ({ (vals (c.setFunc e.i c.f) s.a).1 with loops := c.loops + 1 }.need ((vals (c.setFunc e.i c.f) s.a).2 == 2) s.fr 8).loops = c.loops + 1 := kx.loops
    have fx : ({ (vals (c.setFunc e.i c.f) s.a).1 with loops := c.loops + 1 }.need ((vals (c.setFunc e.i c.f) s.a).2 == 2) s.fr 8).func = c.func.set e.i.toNat c.f := kx.func.trans hkv.func
    have ffx : ({ (vals (c.setFunc e.i c.f) s.a).1 with loops := c.loops + 1 }.need ((vals (c.setFunc e.i c.f) s.a).2 == 2) s.fr 8).f = c.f := kx.f.trans hkv.f
    have tx : ({ (vals (c.setFunc e.i c.f) s.a).1 with loops := c.loops + 1 }.need ((vals (c.setFunc e.i c.f) s.a).2 == 2) s.fr 8).t = t := kx.t.trans (hkv.t.trans hct)
    have okx := kx.ok { hkv.ok hok1 with }
    generalize ({ (vals (c.setFunc e.i c.f) s.a).1 with loops := c.loops + 1 } : CS).need ((vals (c.setFunc e.i c.f) s.a).2 == 2) s.fr 8 = x at *
    have v1 := vis_block hS t s.thn e.i e.i e.i e.behind hst x lo md s1 (by omega) tx okx hcode2 (fun _ => i0) (by omega)
    refine ⟨fun d hd hk => ?_, fun d hd => ?_, fun j hj => ?_⟩
    · rcases hd.cases with rfl | ⟨k, h1, h2⟩ | ⟨k, h1, h2⟩
      · rw [hs] at hk; omega
      · rw [hs] at h1; rw [hc1] at h2; exact v1.jump d ⟨k, h1, h2⟩ hk
      · rw [hs, he] at h1; simp at h1
    · rw [putted_func]
      rcases hd.cases with rfl | ⟨k, h1, h2⟩ | ⟨k, h1, h2⟩
      · dsimp only
        rw [v1.rest _ (by omega), fx, List.getElem?_set_self (by omega)]
      · rw [hs] at h1
        rw [hc1] at h2
        exact (v1.func d ⟨k, h1, h2⟩).trans (by rw [ffx])
      · rw [hs, he] at h1; simp at h1
    · rw [putted_func]
      dsimp only
      rw [v1.rest _ (by omega), fx, List.getElem?_set_ne (by omega)]
  have ht := hs0.th h5 h6
  have he := hs0.el h5
  have hfu : (putted (stmtCase (stm6 n) (c.setFunc e.i c.f) s) e.i).func = c.func.set e.i.toNat c.f := by rw [putted_func, case_func _ _ h5 h6]; rfl
  refine ⟨fun d hd hk => ?_, fun d hd => ?_, fun j hj => ?_⟩
  · rcases hd.cases with rfl | ⟨k, h1, _⟩ | ⟨k, h1, _⟩
    · rw [hs] at hk
      apply hl
      have : (stmtCase (stm6 n) (c.setFunc d.i c.f) s).1 = (c.setFunc d.i c.f).need (decide ((c.setFunc d.i c.f).loops > 0)) s.fr 9 := by
        unfold stmtCase
        rw [if_neg (by omega), if_neg (by omega), if_neg (by omega), if_neg (by omega), if_neg (by omega), if_neg (by omega), if_pos hk]
      rw [this] at hcode2
      exact of_decide_eq_true ((need_code _ _ _ _ (by decide)).1 hcode2).2
    · rw [hs, ht] at h1; simp at h1
    · rw [hs, he] at h1; simp at h1
  · rcases hd.cases with rfl | ⟨k, h1, _⟩ | ⟨k, h1, _⟩
    · rw [hfu, List.getElem?_set_self (by omega)]
    · rw [hs, ht] at h1; simp at h1
    · rw [hs, he] at h1; simp at h1
  · rw [hfu, List.getElem?_set_ne (by omega)]
end Go.Proofs.Ytaadamobapnfbaa
/- A right program: jumps stand in whiles; each statement's function is told. -/
set_option linter.unusedVariables false
set_option linter.unusedSimpArgs false
namespace Go.Proofs.Ytaadamobapnfbaa
open Go Go.Abs
theorem vis_all : ∀ n, VS n
  | 0 => fun t c e lo hct hc ho hn => absurd hn (by have := ho.i0; omega)
  | n + 1 => vis_stmt n (vis_all n)
theorem Lv.body : ∀ (l : List Int) (c : CS), Lv c (bodyOf l c)
  | [], c => .refl c
  | k :: l, c => (Lv.stm6 c.t.stmts.length c k).trans (Lv.body l _)
theorem Lv.pars (fr : Int) : ∀ (l : List ByteArray) (c : CS), Lv c (parsOf fr l c)
  | [], c => .refl c
  | p :: l, c => by
    refine Lv.trans ?_ (Lv.pars fr l (if c.code = 0 then (c.decl p 1 fr).1 else c))
    split
    · exact .decl _ _ _ _
    · exact .refl c
theorem Lv.funs : ∀ (l : List Fu) (i : Nat) (c : CS), Lv c (funs i l c)
  | [], i, c => .refl c
  | g :: l, i, c => fun h => Lv.pars _ _ { c with f := i, names := [], block := 0 } (Lv.body _ _ (Lv.funs l (i + 1) _ h))
theorem pars_func (fr : Int) : ∀ (l : List ByteArray) (c : CS), (parsOf fr l c).func = c.func
  | [], c => rfl
  | p :: l, c => by
    refine (pars_func fr l _).trans ?_
    split
    · exact decl_func _ _ _ _
    · rfl
theorem vis_body (t : Tree) (L : List Int) (inn loop B lb : Int) (hst : ∀ (i : Nat) (x : St), t.stmts[i]? = some x → StOk x) : ∀ (m k : Nat) (c : CS) (lo hi : Nat), L.length = k + m → SCov t (L.drop k) lo hi → hi ≤ t.stmts.length → c.t = t → c.ok →
    (bodyOf (L.drop k) c).code = 0 → (0 < c.loops → 0 ≤ loop) → 0 ≤ c.loops →
    Vis t c (bodyOf (L.drop k) c) (fun e => ∃ j, k ≤ j ∧ j < L.length ∧ Occ t (.at_ L j inn loop B lb) e) lo hi
  | 0, k, c, lo, hi, hm, hL, hn, hct, hc, hcode, hl, hl0 => by
    have : L.drop k = [] := List.drop_eq_nil_of_le (by omega)
    rw [this] at hL ⊢
    cases hL
    exact ⟨fun e ⟨j, h1, h2, _⟩ => by omega, fun e ⟨j, h1, h2, _⟩ => by omega, fun j hj => rfl⟩
  | m + 1, k, c, lo, hi, hm, hL, hn, hct, hc, hcode, hl, hl0 => by
    have hk : k < L.length := by omega
    have hdr := List.drop_eq_getElem_cons hk
    rw [hdr] at hL hcode ⊢
    obtain ⟨r, b0, q1, q1', q2, q3, q4, q5, q6, q7, q8⟩ := hL.mem 0 (by rw [List.length_cons]; omega)
    have q1 : L[k] = (r : Int) := q1
    have hb0 : lo = b0 := by cases q7; rfl
    subst hb0
    have q8 : SCov t (L.drop (k + 1)) (r + 1) hi := q8
    have ei : (Ctx.at_ L k inn loop B lb).i = L[k] := by show L.getD k 0 = _; rw [List.getD_eq_getElem?_getD, List.getElem?_eq_getElem hk]; rfl
    have o1 : Own1 t (.at_ L k inn loop B lb) lo := ⟨by rw [ei, q1]; omega, by rw [ei, q1]; omega, by rw [ei, q1]; exact q6⟩
    have hl2 := q8.le
    simp only [bodyOf] at hcode ⊢
    rw [hct] at hcode ⊢
    have ks := KeptS.stm6 t.stmts.length c L[k] hc
    have hc2 := ks.ok hc
    have c2 : (stm6 t.stmts.length c L[k]).code = 0 := Lv.body _ _ hcode
    have v1 := vis_all t.stmts.length t c (.at_ L k inn loop B lb) lo hct hc o1 (by rw [ei, q1]; omega) (by rw [ei]; exact c2) hl hl0 hst
    rw [ei] at v1
    have v2 := vis_body t L inn loop B lb hst m (k + 1) (stm6 t.stmts.length c L[k]) (r + 1) hi (by omega) q8 hn (ks.t.trans hct) hc2 hcode
      (by rw [ks.loops]; exact hl) (by rw [ks.loops]; exact hl0)
    refine ⟨fun e ⟨j, h1, h2, h3⟩ => ?_, fun e ⟨j, h1, h2, h3⟩ => ?_, fun j hj => ?_⟩
    · by_cases hjk : j = k
      · subst hjk; exact v1.jump e h3
      · exact v2.jump e ⟨j, by omega, h2, h3⟩
    · by_cases hjk : j = k
      · subst hjk
        obtain ⟨lo3, p1, p2, p3, p4⟩ := o1.occ h3
        have := p1.i0
        rw [v2.rest _ (by omega)]
        exact v1.func e h3
      · rw [v2.func e ⟨j, by omega, h2, h3⟩]
        exact congrArg some ks.f
    · rw [v2.rest j (by omega)]
      exact v1.rest j (by omega)
theorem vis_funs (t : Tree) (R : Nat → Nat) (ht : TreeOk t) (hR : FR t R) (hst : ∀ (i : Nat) (x : St), t.stmts[i]? = some x → StOk x) : ∀ (m i : Nat) (c : CS), t.funcs.length = i + m → Pre t i c → (funs i (t.funcs.drop i) c).code = 0 →
    (∀ k d, i ≤ k → InF t k d → (((t.stm d.i).kind = 7 ∨ (t.stm d.i).kind = 8) → 0 ≤ d.loop) ∧ (funs i (t.funcs.drop i) c).func[d.i.toNat]? = some (k : Int)) ∧ ∀ j : Nat, j < R i → (funs i (t.funcs.drop i) c).func[j]? = c.func[j]?
  | 0, i, c, hm, hp, hcode => by
    have : t.funcs.drop i = [] := List.drop_eq_nil_of_le (by omega)
    rw [this]
    exact ⟨fun k d hk ⟨g, j, h1, _⟩ => by have := (List.getElem?_eq_some_iff.1 h1).1; omega, fun j hj => rfl⟩
  | m + 1, i, c, hm, hp, hcode => by
    have hlt : i < t.funcs.length := by omega
    have hbig := ht.big
    rw [funs_drop _ _ _ hlt] at hcode ⊢
    have hok := hp.enter hlt hbig
    have hgk : t.funcs[i]? = some t.funcs[i] := List.getElem?_eq_getElem hlt
    have kp := KeptS.pars t.funcs[i].fr t.funcs[i].params (c.enter i) hok
    have kb := KeptS.body t.funcs[i].body _ (kp.ok hok)
    have hp2 := hp.next hlt (kp.trans kb)
    have hc2 := Lv.funs _ _ _ hcode
    have hR1 : R (i + 1) ≤ t.stmts.length := by rw [← hR.all]; exact hR.mono _ _ (by omega)
    have hRi := hR.mono i (i + 1) (by omega)
    obtain ⟨i1, i2⟩ := vis_funs t R ht hR hst m (i + 1) _ (by omega) hp2 hcode
    have lp : (parsOf t.funcs[i].fr t.funcs[i].params (c.enter i)).loops = 0 := kp.loops.trans hp.loops
    have v := vis_body t t.funcs[i].body (-1) (-1) (-1) (-1) hst t.funcs[i].body.length 0 (parsOf t.funcs[i].fr t.funcs[i].params (c.enter i)) (R i) (R (i + 1)) (by omega) (hR.body i _ hgk) hR1 (kp.t.trans hp.tt) (kp.ok hok) hc2 (by rw [lp]; intro h; omega) (by rw [lp]; omega)
    rw [List.drop_zero] at v
    generalize hcc : bodyOf t.funcs[i].body (parsOf t.funcs[i].fr t.funcs[i].params (c.enter i)) = c2 at *
    refine ⟨fun k d hk hin => ?_, fun j hj => ?_⟩
    · by_cases hki : k = i
      · subst hki
        have hin' := hin
        obtain ⟨g, j, h1, h2, h3⟩ := hin
        rw [hgk] at h1
        cases h1
        obtain ⟨lo, o1, o2, o3, o4⟩ := hR.own hin'
        have := o1.i0
        refine ⟨v.jump d ⟨j, Nat.zero_le _, h2, h3⟩, ?_⟩
        rw [i2 _ (by omega), v.func d ⟨j, Nat.zero_le _, h2, h3⟩]
        exact congrArg some kp.f
      · exact i1 k d (by omega) hin
    · rw [i2 j (by omega), v.rest j (.inl (by omega)), pars_func]; rfl
theorem right_flow (t : Tree) (R : Nat → Nat) (ht : TreeOk t) (hR : FR t R) (hst : ∀ (i : Nat) (x : St), t.stmts[i]? = some x → StOk x) (hc : (checked t).code = 0) : JumpsOk t ∧ ∀ k d, InF t k d → (checked t).func[d.i.toNat]? = some (k : Int) := by
  have h := vis_funs t R ht hR hst t.funcs.length 0 (faceOf (dups [] t.funcs (c0 t))) (by omega) (pre0 t) hc
  exact ⟨fun k d hin => (h.1 k d (Nat.zero_le _) hin).1, fun k d hin => (h.1 k d (Nat.zero_le _) hin).2⟩
theorem IsTree.sts {s : ByteArray} {t : Tree} {toks : List Tok} {at_ : Int} (h : IsTree s t toks at_) : ∀ (i : Nat) (x : St), t.stmts[i]? = Option.some x → StOk x := fun i x hx => by
  have hlt := (List.getElem?_eq_some_iff.1 hx).1
  obtain ⟨k, g, a', b', c', d', x', y', q1, q2, q3, q4, q5, q6, q7, q8, q9, q10⟩ := h.cov.one_s i (Nat.zero_le _) hlt
  exact (q2.st i x q9 q10 hx).1
end Go.Proofs.Ytaadamobapnfbaa
/- Ways lead to statements of the same function, or to the exit. -/
set_option linter.unusedVariables false
set_option linter.unusedSimpArgs false
namespace Go.Proofs.Ytaadamobapnfbaa
open Go Go.Abs
def Good (t : Tree) (k : Nat) (x : Int) : Prop := x = -1 ∨ ∃ e, InF t k e ∧ e.i = x
theorem firstOf_good {t : Tree} {k : Nat} {L : List Int} {B : Int} (hL : ∀ j, j < L.length → Good t k (L.getD j 0)) (hB : Good t k B) (n : Nat) : Good t k (firstOf (L.drop n) B) := by
  by_cases h : n < L.length
  · rw [List.drop_eq_getElem_cons h]
    have := hL n h
    rw [List.getD_eq_getElem?_getD, List.getElem?_eq_getElem h] at this
    exact this
  · rw [List.drop_eq_nil_of_le (by omega)]; exact hB
theorem InF.thns {t : Tree} {k : Nat} {d : Ctx} (h : InF t k d) : ∀ j, j < (t.stm d.i).thn.length → Good t k ((t.stm d.i).thn.getD j 0) := fun j hj => by
  obtain ⟨g, q, h1, h2, h3⟩ := h
  exact .inr ⟨d.thn t j, ⟨g, q, h1, h2, .thn h3 j hj⟩, sub_i _ _ _ _⟩
theorem InF.elss {t : Tree} {k : Nat} {d : Ctx} (h : InF t k d) : ∀ j, j < (t.stm d.i).els.length → Good t k ((t.stm d.i).els.getD j 0) := fun j hj => by
  obtain ⟨g, q, h1, h2, h3⟩ := h
  exact .inr ⟨d.els t j, ⟨g, q, h1, h2, .els h3 j hj⟩, sub_i _ _ _ _⟩
theorem Beh.good {t : Tree} {k : Nat} {d : Ctx} (h : Beh t k d) : Good t k d.behind ∧ (0 ≤ d.loop → Good t k d.loop ∧ Good t k d.lb) := by
  have sub : ∀ (d : Ctx) (M : List Int) (j : Nat), InF t k d → (∀ j, j < M.length → Good t k (M.getD j 0)) → (Good t k d.behind ∧ (0 ≤ d.loop → Good t k d.loop ∧ Good t k d.lb)) →
      Good t k (d.sub t M j).behind ∧ (0 ≤ (d.sub t M j).loop → Good t k (d.sub t M j).loop ∧ Good t k (d.sub t M j).lb) := by
    intro d M j hin hM ih
    have hi : Good t k d.i := .inr ⟨d, hin, rfl⟩
    unfold Ctx.sub
    split
    · exact ⟨firstOf_good hM hi _, fun _ => ⟨hi, ih.1⟩⟩
    · exact ⟨firstOf_good hM ih.1 _, ih.2⟩
  induction h with
  | @top g j hg hj hb => exact ⟨firstOf_good (fun q hq => .inr ⟨topC g q, ⟨g, q, hg, hq, .self⟩, rfl⟩) (.inl rfl) _, fun h => absurd h (by decide : ¬ (0 : Int) ≤ -1)⟩
  | thn h hin hi hj hb ih => exact sub _ _ _ hin hin.thns ih
  | els h hin hi hj hb ih => exact sub _ _ _ hin hin.elss ih
theorem way_good {t : Tree} {R : Nat → Nat} (ht : TreeOk t) (hR : FR t R) (hJ : JumpsOk t) {k : Nat} {d : Ctx} (h : InF t k d) : ∀ x ∈ way t d, Good t k x := by
  obtain ⟨b1, b2⟩ := (h.beh ht hR).good
  have hi : Good t k d.i := .inr ⟨d, h, rfl⟩
  have hj := hJ k d h
  have f1 := firstOf_good h.thns b1 0
  have f2 := firstOf_good h.elss b1 0
  have f3 := firstOf_good h.thns hi 0
  rw [List.drop_zero] at f1 f2 f3
  intro x hx
  unfold way at hx
  split at hx
  · simp only [List.mem_cons, List.not_mem_nil, or_false] at hx
    rcases hx with rfl | rfl
    · exact f1
    · exact f2
  split at hx
  · simp only [List.mem_cons, List.not_mem_nil, or_false] at hx
    rcases hx with rfl | rfl
    · exact f3
    · exact b1
  split at hx
  · rename_i h7
    rw [List.mem_singleton] at hx; subst hx
    exact (b2 (hj (.inl h7))).2
  split at hx
  · rename_i h8
    rw [List.mem_singleton] at hx; subst hx
    exact (b2 (hj (.inr h8))).1
  split at hx
  · rw [List.mem_singleton] at hx; exact .inl hx
  · rw [List.mem_singleton] at hx; subst hx; exact b1
theorem Good.range {t : Tree} {R : Nat → Nat} (hR : FR t R) {k : Nat} {x : Int} (h : Good t k x) : x = -1 ∨ (0 ≤ x ∧ x < t.stmts.length) := by
  rcases h with h | ⟨e, he, rfl⟩
  · exact .inl h
  · obtain ⟨lo, o1, o2, o3, o4⟩ := hR.own he
    exact .inr ⟨o1.i0, o4⟩
/-- where a way leads -/
theorem FlowOk.leads {t : Tree} {R : Nat → Nat} (ht : TreeOk t) (hR : FR t R) (hJ : JumpsOk t) {nx : List (List Int)} (h : FlowOk t nx) {i : Nat} (hi : i < nx.length) : ∃ k, (∃ d, InF t k d ∧ d.i = i ∧ nx[i] = way t d) ∧ ∀ x ∈ nx[i], Good t k x := by
  obtain ⟨k, d, hk, hin, hd⟩ := hR.ex (i := i) (by rw [← h.len]; exact hi)
  have := h.ways k d hin
  rw [hd, Int.toNat_natCast, List.getElem?_eq_getElem hi] at this
  have e := Option.some.inj this
  exact ⟨k, ⟨d, hin, hd, e⟩, by rw [e]; exact way_good ht hR hJ hin⟩
theorem pre_funs (t : Tree) (ht : TreeOk t) : ∀ (m i : Nat) (c : CS), t.funcs.length = i + m → Pre t i c → Pre t t.funcs.length (funs i (t.funcs.drop i) c)
  | 0, i, c, hm, hp => by
    have : t.funcs.drop i = [] := List.drop_eq_nil_of_le (by omega)
    rw [this, show t.funcs.length = i by omega]; exact hp
  | m + 1, i, c, hm, hp => by
    have hlt : i < t.funcs.length := by omega
    rw [funs_drop _ _ _ hlt]
    have hok := hp.enter hlt ht.big
    have kp := KeptS.pars t.funcs[i].fr t.funcs[i].params (c.enter i) hok
    have kb := KeptS.body t.funcs[i].body _ (kp.ok hok)
    exact pre_funs t ht m (i + 1) _ (by omega) (hp.next hlt (kp.trans kb))
theorem checked_pre (t : Tree) (ht : TreeOk t) : Pre t t.funcs.length (checked t) := by
  have := pre_funs t ht t.funcs.length 0 _ (by omega) (pre0 t)
  rw [List.drop_zero] at this
  exact this
end Go.Proofs.Ytaadamobapnfbaa
/- The law of flow: Right, awake. -/
set_option linter.unusedVariables false
set_option linter.unusedSimpArgs false
set_option maxRecDepth 1000000
namespace Go.Proofs.Ytaadamobapnfbaa
open Go Go.Abs
def rightOf (s : ByteArray) : Tree × Bool :=
  if s.size > 800 then ({}, false) else if (parse s).2.2 ≠ 0 then ({}, false) else ((parse s).1, (checked (parse s).1).code == 0)
set_option maxHeartbeats 1000000 in
theorem right_walk (s : ByteArray) : ACalls Try.prog 15 [vs s] [] (RV (.tup [.agg (rightOf s).1.cells, .v (.bool (rightOf s).2)]) []) := by
  refine ACalls.retellR ?_
  refine ACalls.of_code (c := _) Try.func15 rfl Try.ntmps15 (Nat.le_of_ble_eq_true rfl) ?_
  refine ACode.seq (ACode.region ?_)
  refine ASeq.op rfl rfl (AOp.allocP rfl (tok _ rfl) rfl rfl (fun _ => rfl) (fun _ => ?_))
  refine ASeq.q rfl rfl (QOp.assign rfl rfl) ?_
  refine ASeq.nil ?_
  rename_i m2
  refine ACode.seq (ACode.seq (ACode.region ?_))
  refine ASeq.q rfl rfl (QOp.move rfl rfl) ?_
  refine ASeq.q rfl rfl (QOp.lenS rfl rfl (tok _ rfl) rfl) ?_
  refine ASeq.q rfl rfl (QOp.cmp rfl rfl rfl rfl) ?_
  refine ASeq.nil ?_
  refine AExit.then_normal ?_
  refine ACode.cond _ rfl (fun hb => ?_) (fun hb => ?_)
  · have hbig : s.size > 800 := by have := of_decide_eq_true hb; omega
    have hr : rightOf s = ({}, false) := by unfold rightOf; rw [if_pos hbig]
    refine ACode.seq (ACode.region ?_)
    refine ASeq.q rfl rfl (QOp.build rfl (tok _ rfl) rfl rfl rfl rfl rfl) ?_
    refine ASeq.op0 rfl rfl (AOp.storeP 0 rfl rfl rfl rfl (tok _ rfl) rfl rfl rfl rfl ?_)
    refine ASeq.q rfl rfl (QOp.assign rfl rfl) ?_
    refine ASeq.nil ?_
    refine ACode.ret (AExit.then_ret ?_)
    refine bodyQ_ret 0 (.cell 0 rfl rfl (tok _ rfl) rfl (.tmp rfl .nil)) rfl ?_
    rw [hr]
    exact ⟨_, LeL.tup (.cons nilTree_le (.cons (.refl _) .nil)), .mk⟩
  have hsm : ¬ s.size > 800 := by have := of_decide_eq_false hb; omega
  have hs : s.size ≤ 1000000 := by omega
  refine ACode.skip (ACode.seq (ACode.region ?_))
  refine ASeq.q rfl rfl (QOp.move rfl rfl) ?_
  refine ASeq.op rfl rfl (AOp.callP 0 rfl (by kernel_rfl) rfl rfl rfl (parse_ok s hs) ?_ (by rintro _ _ ⟨⟩))
  rintro _ _ ⟨⟩
  refine ASeq.q rfl rfl (QOp.move rfl rfl) ?_
  refine ASeq.q rfl rfl (QOp.extract rfl rfl rfl) ?_
  refine ASeq.q rfl rfl (QOp.extract rfl rfl rfl) ?_
  refine ASeq.q rfl rfl (QOp.extract rfl rfl rfl) ?_
  refine ASeq.op rfl rfl (AOp.allocP rfl (tok _ rfl) rfl rfl (fun _ => rfl) (fun _ => ?_))
  refine ASeq.op0 rfl rfl (AOp.storeP 1 rfl rfl rfl rfl (tok _ rfl) rfl rfl rfl rfl ?_)
  refine ASeq.q rfl rfl (QOp.assign rfl rfl) ?_
  refine ASeq.q rfl rfl (QOp.assign rfl rfl) ?_
  refine ASeq.nil ?_
  rename_i m4
  refine ACode.seq (ACode.seq (ACode.region ?_))
  refine ASeq.q rfl rfl (QOp.move rfl rfl) ?_
  refine ASeq.q rfl rfl (QOp.cmp rfl rfl rfl rfl) ?_
  refine ASeq.nil ?_
  refine AExit.then_normal ?_
  refine ACode.cond _ rfl (fun hb => ?_) (fun hb => ?_)
  · have hne : (parse s).2.2 ≠ 0 := by simpa using hb
    have hr : rightOf s = ({}, false) := by unfold rightOf; rw [if_neg hsm, if_pos hne]
    refine ACode.seq (ACode.region ?_)
    refine ASeq.q rfl rfl (QOp.build rfl (tok _ rfl) rfl rfl rfl rfl rfl) ?_
    refine ASeq.op0 rfl rfl (AOp.storeP 0 rfl rfl rfl rfl (tok _ rfl) rfl rfl rfl rfl ?_)
    refine ASeq.q rfl rfl (QOp.assign rfl rfl) ?_
    refine ASeq.nil ?_
    refine ACode.ret (AExit.then_ret ?_)
    refine bodyQ_ret 0 (.cell 0 rfl rfl (tok _ rfl) rfl (.tmp rfl .nil)) rfl ?_
    rw [hr]
    exact ⟨_, LeL.tup (.cons nilTree_le (.cons (.refl _) .nil)), .mk⟩
  have hz : (parse s).2.2 = 0 := by simpa using hb
  have hr : rightOf s = ((parse s).1, (checked (parse s).1).code == 0) := by unfold rightOf; rw [if_neg hsm, if_neg (fun h => h hz)]
  obtain ⟨toks, at_, htree⟩ := parse_tree hs hz
  have hck := check6_ok (parse s).1 htree.ok
  rw [hr]
  generalize (parse s).1 = t at *
  refine ACode.skip (ACode.seq (ACode.region ?_))
  refine ASeq.q rfl rfl (QOp.loadM 1 rfl rfl rfl (tok _ rfl) rfl) ?_
  refine ASeq.op rfl rfl (AOp.callP 0 rfl (by kernel_rfl) rfl rfl rfl hck ?_ (by rintro _ _ ⟨⟩))
  rintro _ _ (⟨hbad⟩ | ⟨hgood, m, τ⟩)
  · refine ASeq.q rfl rfl (QOp.move rfl rfl) ?_
    refine ASeq.q rfl rfl (QOp.extract rfl rfl rfl) ?_
    refine ASeq.q rfl rfl (QOp.extract rfl rfl rfl) ?_
    refine ASeq.q rfl rfl (QOp.extract rfl rfl rfl) ?_
    refine ASeq.op rfl rfl (AOp.allocP rfl (tok _ rfl) rfl rfl (fun _ => rfl) (fun _ => ?_))
    refine ASeq.op0 rfl rfl (AOp.storeP 2 rfl rfl rfl rfl (tok _ rfl) rfl rfl rfl rfl ?_)
    refine ASeq.q rfl rfl (QOp.assign rfl rfl) ?_
    refine ASeq.q rfl rfl (QOp.assign rfl rfl) ?_
    refine ASeq.nil ?_
    refine ACode.seq (ACode.region ?_)
    refine ASeq.q rfl rfl (QOp.loadM 1 rfl rfl rfl (tok _ rfl) rfl) ?_
    refine ASeq.q rfl rfl (QOp.move rfl rfl) ?_
    refine ASeq.q rfl rfl (QOp.cmp rfl rfl rfl rfl) ?_
    refine ASeq.op0 rfl rfl (AOp.storeP 0 rfl rfl rfl rfl (tok _ rfl) rfl rfl rfl rfl ?_)
    refine ASeq.q rfl rfl (QOp.assign rfl rfl) ?_
    refine ASeq.nil ?_
    refine ACode.ret ?_
    refine bodyQ_ret 0 (.cell 0 rfl rfl (tok _ rfl) rfl (.tmp rfl .nil)) rfl ?_
    exact ⟨_, .refl _, .mk⟩
  · rw [hgood]
    refine ASeq.q rfl rfl (QOp.move rfl rfl) ?_
    refine ASeq.q rfl rfl (QOp.extract rfl rfl rfl) ?_
    refine ASeq.q rfl rfl (QOp.extract rfl rfl rfl) ?_
    refine ASeq.q rfl rfl (QOp.extract rfl rfl rfl) ?_
    refine ASeq.op rfl rfl (AOp.allocP rfl (tok _ rfl) rfl rfl (fun _ => rfl) (fun _ => ?_))
    refine ASeq.op0 rfl rfl (AOp.storeP 8 rfl rfl rfl rfl (tok _ rfl) rfl rfl rfl rfl ?_)
    refine ASeq.q rfl rfl (QOp.assign rfl rfl) ?_
    refine ASeq.q rfl rfl (QOp.assign rfl rfl) ?_
    refine ASeq.nil ?_
    refine ACode.seq (ACode.region ?_)
    refine ASeq.q rfl rfl (QOp.loadM 7 rfl rfl rfl (tok _ rfl) rfl) ?_
    refine ASeq.q rfl rfl (QOp.move rfl rfl) ?_
    refine ASeq.q rfl rfl (QOp.cmp rfl rfl rfl rfl) ?_
    refine ASeq.op0 rfl rfl (AOp.storeP 6 rfl rfl rfl rfl (tok _ rfl) rfl rfl rfl rfl ?_)
    refine ASeq.q rfl rfl (QOp.assign rfl rfl) ?_
    refine ASeq.nil ?_
    refine ACode.ret ?_
    refine bodyQ_ret 0 (.cell 6 rfl rfl (tok _ rfl) rfl (.tmp rfl .nil)) rfl ?_
    exact ⟨_, .refl _, .mk⟩
def s7 : ByteArray := ⟨#[102, 117, 110, 99, 32, 109, 97, 105, 110, 40, 41, 32, 123, 32, 118, 97, 114, 32, 120, 32, 61, 32, 48, 59, 32, 119, 104, 105, 108, 101, 32, 120, 32, 60, 32, 49, 32, 123, 32, 120, 32, 61, 32, 49, 59, 32, 125, 32, 120, 32, 61, 32, 50, 59, 32, 125]⟩
/-- what is known of a right text -/
structure RightT (s : ByteArray) (t : Tree) (R : Nat → Nat) : Prop where
  tree : ∃ toks at_, IsTree s t toks at_
  fr : FR t R
  code : (checked t).code = 0
theorem rightT {s : ByteArray} (h : (rightOf s).2 = true) : ∃ R, RightT s (rightOf s).1 R := by
  unfold rightOf at h ⊢
  split at h
  · cases h
  rename_i h1
  rw [if_neg h1]
  split at h
  · cases h
  rename_i h2
  rw [if_neg h2]
  have hz : (parse s).2.2 = 0 := Decidable.byContradiction h2
  obtain ⟨toks, at_, htree⟩ := parse_tree (by omega) hz
  obtain ⟨R, hR⟩ := htree.fr
  exact ⟨R, ⟨toks, at_, htree⟩, hR, by simpa using h⟩
theorem RightT.ok {s : ByteArray} {t : Tree} {R : Nat → Nat} (h : RightT s t R) : TreeOk t ∧ (∀ (i : Nat) (x : St), t.stmts[i]? = some x → StOk x) ∧ JumpsOk t ∧ ∀ k d, InF t k d → (checked t).func[d.i.toNat]? = some (k : Int) := by
  obtain ⟨toks, at_, ht⟩ := h.tree
  obtain ⟨h1, h2⟩ := right_flow t R ht.ok h.fr ht.sts h.code
  exact ⟨ht.ok, ht.sts, h1, h2⟩
theorem RightT.of {s : ByteArray} {t : Tree} {R : Nat → Nat} (h : RightT s t R) : ACalls Try.prog 16 [.agg t.cells] [] (RG t) := by
  obtain ⟨h1, h2, h3, h4⟩ := h.ok
  exact flow_of t R h1 h2 h.fr h3
theorem s7_right : (rightOf s7).2 = true := by decide +kernel
def t7 : Tree := (rightOf s7).1
def d72 : Ctx := .at_ [0, 2, 3] 1 (-1) (-1) (-1) (-1)
def d71 : Ctx := d72.thn t7 0
theorem t7_fu : (t7.funcs.map (·.body)) = [[0, 2, 3]] := by decide +kernel
theorem t7_len : t7.stmts.length = 4 := by decide +kernel
theorem t7_way2 : way t7 d72 = [1, 3] := by decide +kernel
theorem t7_way1 : way t7 d71 = [2] := by decide +kernel
theorem t7_i1 : d71.i = 1 := by decide +kernel
theorem t7_thn : 0 < (t7.stm d72.i).thn.length := by decide +kernel
theorem t7_flow {nx : List (List Int)} (h : FlowOk t7 nx) : nx.length = 4 ∧ nx[2]? = some [1, 3] ∧ nx[1]? = some [2] := by
  have hf := t7_fu
  obtain ⟨g, hg, hb⟩ : ∃ g, t7.funcs[0]? = some g ∧ g.body = [0, 2, 3] := by
    cases hl : t7.funcs with
    | nil => rw [hl] at hf; cases hf
    | cons g l =>
      rw [hl] at hf
      simp only [List.map_cons, List.cons.injEq] at hf
      exact ⟨g, rfl, hf.1⟩
  have h2 : InF t7 0 d72 := ⟨g, 1, hg, by rw [hb]; decide, by unfold topC; rw [hb]; exact .self⟩
  have h1 : InF t7 0 d71 := by
    obtain ⟨g', j, q1, q2, q3⟩ := h2
    exact ⟨g', j, q1, q2, .thn q3 0 t7_thn⟩
  have e2 := h.ways 0 d72 h2
  have e1 := h.ways 0 d71 h1
  rw [t7_way2] at e2
  rw [t7_way1, t7_i1] at e1
  exact ⟨h.len.trans t7_len, e2, e1⟩
end Go.Proofs.Ytaadamobapnfbaa
/- The law of flow: awake. -/
set_option linter.unusedVariables false
set_option linter.unusedSimpArgs false
set_option maxRecDepth 1000000
namespace Go.Proofs.Ytaadamobapnfbaa
open Go Go.Abs
set_option maxHeartbeats 1000000 in
theorem awake7_walk : ACalls Try.prog 14 [] [] (RV (.v (.bool true)) []) := by
  obtain ⟨R, hT⟩ := rightT s7_right
  have hof := hT.of
  have hrw := right_walk s7
  rw [s7_right] at hrw
  change ACalls Try.prog 16 [.agg t7.cells] [] (RG t7) at hof
  change ACalls Try.prog 15 [vs s7] [] (RV (.tup [.agg t7.cells, .v (.bool true)]) []) at hrw
  refine ACalls.of_code (c := _) Try.func14 rfl Try.ntmps14 (Nat.le_of_ble_eq_true rfl) ?_
  refine ACode.seq (ACode.region ?_)
  refine ASeq.q rfl rfl (QOp.assign rfl rfl) ?_
  refine ASeq.nil ?_
  refine ACode.seq (ACode.region ?_)
  refine ASeq.op rfl rfl (AOp.callP 0 rfl (by kernel_rfl) rfl rfl rfl (hrw) ?_ (by rintro _ _ ⟨⟩))
  rintro _ _ ⟨⟩
  refine ASeq.q rfl rfl (QOp.move rfl rfl) ?_
  refine ASeq.q rfl rfl (QOp.extract rfl rfl rfl) ?_
  refine ASeq.q rfl rfl (QOp.extract rfl rfl rfl) ?_
  refine ASeq.op rfl rfl (AOp.allocP rfl (tok _ rfl) rfl rfl (fun _ => rfl) (fun _ => ?_))
  refine ASeq.op0 rfl rfl (AOp.storeP 0 rfl rfl rfl rfl (tok _ rfl) rfl rfl rfl rfl ?_)
  refine ASeq.q rfl rfl (QOp.assign rfl rfl) ?_
  refine ASeq.nil ?_
  refine ACode.seq (ACode.region ?_)
  refine ASeq.q rfl rfl (QOp.loadM 0 rfl rfl rfl (tok _ rfl) rfl) ?_
  refine ASeq.op rfl rfl (AOp.callP 0 rfl (by kernel_rfl) rfl rfl rfl hof ?_ (by rintro _ _ ⟨⟩))
  rintro _ _ ⟨mN, nx, hnx⟩
  obtain ⟨h1, h2, h3⟩ := t7_flow hnx
  obtain ⟨n0, n3, rfl⟩ : ∃ n0 n3, nx = [n0, [2], [1, 3], n3] := by
    match nx, h1 with
    | [a, b, c, d], _ =>
      simp only [List.getElem?_cons_succ, List.getElem?_cons_zero, Option.some.injEq] at h2 h3
      subst h2; subst h3; exact ⟨a, d, rfl⟩
  rw [t7_len]
  refine ASeq.op rfl rfl (AOp.allocP rfl (tok _ rfl) rfl rfl (fun _ => rfl) (fun _ => ?_))
  refine ASeq.op0 rfl rfl (AOp.storeP 2 rfl rfl rfl rfl (tok _ rfl) rfl rfl rfl rfl ?_)
  refine ASeq.nil ?_
  refine ACode.seq (ACode.region ?_)
  refine ASeq.q rfl rfl (QOp.move rfl rfl) ?_
  refine ASeq.q rfl rfl (QOp.move rfl rfl) ?_
  refine ASeq.gq _ _ rfl rfl rfl rfl (QOp.fieldM rfl rfl (tok _ rfl) rfl rfl (by decide) rfl) ?_
  refine ASeq.gq _ _ rfl rfl rfl rfl (QOp.loadM 2 rfl rfl rfl (tok _ rfl) rfl) ?_
  refine ASeq.gq _ _ rfl rfl rfl rfl (QOp.lenM rfl rfl (tok _ rfl) rfl) ?_
  refine ASeq.gq _ _ rfl rfl rfl rfl (QOp.cmp rfl rfl rfl rfl) ?_
  refine ASeq.q rfl rfl (QOp.pickT rfl rfl rfl) ?_
  refine ASeq.q rfl rfl (QOp.move rfl rfl) ?_
  refine ASeq.gq _ _ rfl rfl rfl rfl (QOp.fieldM rfl rfl (tok _ rfl) rfl rfl (by decide) rfl) ?_
  refine ASeq.gq _ _ rfl rfl rfl rfl (QOp.loadM 2 rfl rfl rfl (tok _ rfl) rfl) ?_
  refine ASeq.gq _ _ rfl rfl rfl rfl (QOp.indexM rfl rfl rfl (tok _ rfl) rfl (tok _ rfl) (by decide) (by decide) rfl) ?_
  refine ASeq.gq _ _ rfl rfl rfl rfl (QOp.loadM 0 rfl rfl rfl (tok _ rfl) rfl) ?_
  refine ASeq.gq _ _ rfl rfl rfl rfl (QOp.lenI rfl rfl (tok _ rfl) rfl) ?_
  refine ASeq.gq _ _ rfl rfl rfl rfl (QOp.cmp rfl rfl rfl rfl) ?_
  refine ASeq.q rfl rfl (QOp.pickT rfl rfl rfl) ?_
  refine ASeq.q rfl rfl (QOp.move rfl rfl) ?_
  refine ASeq.gq _ _ rfl rfl rfl rfl (QOp.fieldM rfl rfl (tok _ rfl) rfl rfl (by decide) rfl) ?_
  refine ASeq.gq _ _ rfl rfl rfl rfl (QOp.loadM 2 rfl rfl rfl (tok _ rfl) rfl) ?_
  refine ASeq.gq _ _ rfl rfl rfl rfl (QOp.indexM rfl rfl rfl (tok _ rfl) rfl (tok _ rfl) (by decide) (by decide) rfl) ?_
  refine ASeq.gq _ _ rfl rfl rfl rfl (QOp.loadM 0 rfl rfl rfl (tok _ rfl) rfl) ?_
  refine ASeq.gq _ _ rfl rfl rfl rfl (QOp.indexI rfl rfl rfl (tok _ rfl) rfl (tok _ rfl) (by decide) (by rfl)) ?_
  refine ASeq.gq _ _ rfl rfl rfl rfl (QOp.loadI rfl rfl (tok _ rfl) rfl) ?_
  refine ASeq.gq _ _ rfl rfl rfl rfl (QOp.cmp rfl rfl rfl rfl) ?_
  refine ASeq.q rfl rfl (QOp.pickT rfl rfl rfl) ?_
  refine ASeq.q rfl rfl (QOp.move rfl rfl) ?_
  refine ASeq.gq _ _ rfl rfl rfl rfl (QOp.fieldM rfl rfl (tok _ rfl) rfl rfl (by decide) rfl) ?_
  refine ASeq.gq _ _ rfl rfl rfl rfl (QOp.loadM 2 rfl rfl rfl (tok _ rfl) rfl) ?_
  refine ASeq.gq _ _ rfl rfl rfl rfl (QOp.indexM rfl rfl rfl (tok _ rfl) rfl (tok _ rfl) (by decide) (by decide) rfl) ?_
  refine ASeq.gq _ _ rfl rfl rfl rfl (QOp.loadM 0 rfl rfl rfl (tok _ rfl) rfl) ?_
  refine ASeq.gq _ _ rfl rfl rfl rfl (QOp.indexI rfl rfl rfl (tok _ rfl) rfl (tok _ rfl) (by decide) (by rfl)) ?_
  refine ASeq.gq _ _ rfl rfl rfl rfl (QOp.loadI rfl rfl (tok _ rfl) rfl) ?_
  refine ASeq.gq _ _ rfl rfl rfl rfl (QOp.cmp rfl rfl rfl rfl) ?_
  refine ASeq.q rfl rfl (QOp.pickT rfl rfl rfl) ?_
  refine ASeq.q rfl rfl (QOp.move rfl rfl) ?_
  refine ASeq.gq _ _ rfl rfl rfl rfl (QOp.fieldM rfl rfl (tok _ rfl) rfl rfl (by decide) rfl) ?_
  refine ASeq.gq _ _ rfl rfl rfl rfl (QOp.loadM 2 rfl rfl rfl (tok _ rfl) rfl) ?_
  refine ASeq.gq _ _ rfl rfl rfl rfl (QOp.indexM rfl rfl rfl (tok _ rfl) rfl (tok _ rfl) (by decide) (by decide) rfl) ?_
  refine ASeq.gq _ _ rfl rfl rfl rfl (QOp.loadM 0 rfl rfl rfl (tok _ rfl) rfl) ?_
  refine ASeq.gq _ _ rfl rfl rfl rfl (QOp.lenI rfl rfl (tok _ rfl) rfl) ?_
  refine ASeq.gq _ _ rfl rfl rfl rfl (QOp.cmp rfl rfl rfl rfl) ?_
  refine ASeq.q rfl rfl (QOp.pickT rfl rfl rfl) ?_
  refine ASeq.q rfl rfl (QOp.move rfl rfl) ?_
  refine ASeq.gq _ _ rfl rfl rfl rfl (QOp.fieldM rfl rfl (tok _ rfl) rfl rfl (by decide) rfl) ?_
  refine ASeq.gq _ _ rfl rfl rfl rfl (QOp.loadM 2 rfl rfl rfl (tok _ rfl) rfl) ?_
  refine ASeq.gq _ _ rfl rfl rfl rfl (QOp.indexM rfl rfl rfl (tok _ rfl) rfl (tok _ rfl) (by decide) (by decide) rfl) ?_
  refine ASeq.gq _ _ rfl rfl rfl rfl (QOp.loadM 0 rfl rfl rfl (tok _ rfl) rfl) ?_
  refine ASeq.gq _ _ rfl rfl rfl rfl (QOp.indexI rfl rfl rfl (tok _ rfl) rfl (tok _ rfl) (by decide) (by rfl)) ?_
  refine ASeq.gq _ _ rfl rfl rfl rfl (QOp.loadI rfl rfl (tok _ rfl) rfl) ?_
  refine ASeq.gq _ _ rfl rfl rfl rfl (QOp.cmp rfl rfl rfl rfl) ?_
  refine ASeq.q rfl rfl (QOp.pickT rfl rfl rfl) ?_
  refine ASeq.q rfl rfl (QOp.assign rfl rfl) ?_
  refine ASeq.nil ?_
  refine ACode.ret ?_
  refine bodyQ_ret 0 (.tmp rfl .nil) rfl ?_
  exact .mk
end Go.Proofs.Ytaadamobapnfbaa
/- FlowGraphs: the walk. -/
set_option linter.unusedVariables false
set_option linter.unusedSimpArgs false
set_option maxRecDepth 1000000
namespace Go.Proofs.Ytaadamobapnfbaa
open Go Go.Abs
theorem RightT.all {s : ByteArray} {t : Tree} {R : Nat → Nat} (h : RightT s t R) : ACalls Try.prog 17 [.agg t.cells] [] (RA t) := by
  obtain ⟨h1, h2, h3, h4⟩ := h.ok
  exact all_walk t R h1 h.fr h3
theorem sameI_refl (l : List Int) : sameI l l = true := (sameI_eq l l).2 rfl
theorem nxrows_get {ws : List (List Int)} {i : Nat} (h : i < ws.length) : (nxrows ws)[i]? = some [nxc ws[i]] := by
  simp only [nxrows, List.getElem?_map, List.getElem?_eq_getElem h, Option.map_some]
theorem nx_get {nx : List (List Int)} {i : Nat} (h : i < nx.length) : (nx.map nxc)[0 + i * 1]? = some (nxc nx[i]) := by
  rw [Nat.zero_add, Nat.mul_one, List.getElem?_map, List.getElem?_eq_getElem h]; rfl
theorem way_len (t : Tree) (d : Ctx) : (way t d).length ≤ 2 := by
  unfold way; repeat' split
  all_goals simp
theorem FlowOk.small {t : Tree} {R : Nat → Nat} (hR : FR t R) {nx : List (List Int)} (h : FlowOk t nx) {i : Nat} (hi : i < nx.length) : nx[i].length ≤ 2 := by
  obtain ⟨k, d, hk, hin, hd⟩ := hR.ex (i := i) (by rw [← h.len]; exact hi)
  have := h.ways k d hin
  rw [hd, Int.toNat_natCast, List.getElem?_eq_getElem hi] at this
  rw [Option.some.inj this]; exact way_len t d
theorem firsts_len (t : Tree) : (firsts t).length = t.funcs.length := by simp [firsts]
theorem firsts_get {t : Tree} {i : Nat} (h : i < t.funcs.length) : (ints (firsts t))[i]? = some [vi (firstOf t.funcs[i].body (-1))] := by
  have : i < (firsts t).length := by rw [firsts_len]; exact h
  rw [ints_get this]; simp [firsts]
set_option maxHeartbeats 1000000 in
theorem flowGraphs_walk (s : ByteArray) : ACalls Try.prog 3 [vs s] [] (RV (.v (.bool true)) []) := by
  have haw := awake7_walk
  have hri := right_walk s
  refine ACalls.of_code (c := _) Try.func3 rfl Try.ntmps3 (Nat.le_of_ble_eq_true rfl) ?_
  refine ACode.seq (ACode.region ?_)
  refine ASeq.q rfl rfl (QOp.assign rfl rfl) ?_
  refine ASeq.nil ?_
  refine ACode.seq (ACode.seq (ACode.region ?_))
  refine ASeq.op rfl rfl (AOp.callP 0 rfl (by kernel_rfl) rfl rfl rfl (haw) ?_ (by rintro _ _ ⟨⟩))
  rintro _ _ ⟨⟩
  refine ASeq.q rfl rfl (QOp.not rfl rfl) ?_
  refine ASeq.nil ?_
  refine AExit.then_normal ?_
  refine ACode.cond _ rfl (fun hb => by cases hb) (fun _ => ?_)
  refine ACode.skip (ACode.seq (ACode.region ?_))
  refine ASeq.q rfl rfl (QOp.move rfl rfl) ?_
  refine ASeq.op rfl rfl (AOp.callP 0 rfl (by kernel_rfl) rfl rfl rfl (hri) ?_ (by rintro _ _ ⟨⟩))
  rintro _ _ ⟨⟩
  refine ASeq.q rfl rfl (QOp.move rfl rfl) ?_
  refine ASeq.q rfl rfl (QOp.extract rfl rfl rfl) ?_
  refine ASeq.q rfl rfl (QOp.extract rfl rfl rfl) ?_
  refine ASeq.op rfl rfl (AOp.allocP rfl (tok _ rfl) rfl rfl (fun _ => rfl) (fun _ => ?_))
  refine ASeq.op0 rfl rfl (AOp.storeP 0 rfl rfl rfl rfl (tok _ rfl) rfl rfl rfl rfl ?_)
  refine ASeq.q rfl rfl (QOp.assign rfl rfl) ?_
  refine ASeq.nil ?_
  rename_i m3
  refine ACode.seq (ACode.seq (ACode.region ?_))
  refine ASeq.q rfl rfl (QOp.move rfl rfl) ?_
  refine ASeq.q rfl rfl (QOp.not rfl rfl) ?_
  refine ASeq.nil ?_
  refine AExit.then_normal ?_
  refine ACode.cond _ rfl (fun hb => ?_) (fun hb => ?_)
  · refine ACode.seq (ACode.region ?_)
    refine ASeq.q rfl rfl (QOp.assign rfl rfl) ?_
    refine ASeq.nil ?_
    refine ACode.ret (AExit.then_ret ?_)
    refine bodyQ_ret 0 (.tmp rfl .nil) rfl ?_
    exact .mk
  have hright : (rightOf s).2 = true := by simpa using hb
  obtain ⟨R, hT⟩ := rightT hright
  have hof := hT.of
  have hal := hT.all
  have hR := hT.fr
  obtain ⟨ht, hst, hJ, hfu⟩ := hT.ok
  generalize (rightOf s).1 = t at *
  have hbig := ht.big
  have hFl : (t.funcs.map Fu.cells).length = t.funcs.length := List.length_map ..
  have hfl : (ints (firsts t)).length = t.funcs.length := by rw [ints_len, firsts_len]
  refine ACode.skip (ACode.seq (ACode.region ?_))
  refine ASeq.q rfl rfl (QOp.loadM 0 rfl rfl rfl (tok _ rfl) rfl) ?_
  refine ASeq.op rfl rfl (AOp.callP 0 rfl (by kernel_rfl) rfl rfl rfl hof ?_ (by rintro _ _ ⟨⟩))
  rintro _ _ ⟨mN, nx, hnx⟩
  refine ASeq.op rfl rfl (AOp.allocP rfl (tok _ rfl) rfl rfl (fun _ => rfl) (fun _ => ?_))
  refine ASeq.op0 rfl rfl (AOp.storeP 2 rfl rfl rfl rfl (tok _ rfl) rfl rfl rfl rfl ?_)
  refine ASeq.nil ?_
  rename_i m5
  refine ACode.seq (ACode.region ?_)
  refine ASeq.q rfl rfl (QOp.loadM 1 rfl rfl rfl (tok _ rfl) rfl) ?_
  refine ASeq.op rfl rfl (AOp.callP 0 rfl (by kernel_rfl) rfl rfl rfl hal ?_ (by rintro _ _ ⟨⟩))
  rintro _ _ ⟨ws, hwl, hws⟩
  have hsame := FR.same hnx hwl hws
  subst hsame
  have hnl := nxrows_len nx
  have hlen := hnx.len
  refine ASeq.q rfl rfl (QOp.assign rfl rfl) ?_
  refine ASeq.nil ?_
  refine ACode.seq (ACode.seq (ACode.region ?_))
  have e1 : ((t.stmts.length : Int) != ((nxrows nx).length : Int)) = false := by rw [hnl, hlen]; simp
  have e2 : (((ints (firsts t)).length : Int) != ((t.funcs.map Fu.cells).length : Int)) = false := by rw [hfl, hFl]; simp
  refine ASeq.q rfl rfl (QOp.fieldM rfl rfl (tok _ rfl) rfl rfl (by decide) rfl) ?_
  refine ASeq.q rfl rfl (QOp.loadM 2 rfl rfl rfl (tok _ rfl) rfl) ?_
  refine ASeq.q rfl rfl (QOp.lenM rfl rfl (tok _ rfl) rfl) ?_
  refine ASeq.q rfl rfl (QOp.move rfl rfl) ?_
  refine ASeq.q rfl rfl (QOp.lenI rfl rfl (tok _ rfl) rfl) ?_
  refine ASeq.q rfl rfl (QOp.cmp rfl rfl rfl rfl) ?_
  refine ASeq.slot 29 rfl (v' := .v (.bool false)) (by show AV.Le (.v (.bool ((t.stmts.length : Int) != ((nxrows nx).length : Int)))) _; rw [e1]; exact .refl _) ?_
  refine ASeq.q rfl rfl (QOp.move rfl rfl) ?_
  refine ASeq.gq _ _ rfl rfl rfl rfl (QOp.fieldM rfl rfl (tok _ rfl) rfl rfl (by decide) rfl) ?_
  refine ASeq.gq _ _ rfl rfl rfl rfl (QOp.loadM 2 rfl rfl rfl (tok _ rfl) rfl) ?_
  refine ASeq.gq _ _ rfl rfl rfl rfl (QOp.lenI rfl rfl (tok _ rfl) rfl) ?_
  refine ASeq.gq _ _ rfl rfl rfl rfl (QOp.fieldM rfl rfl (tok _ rfl) rfl rfl (by decide) rfl) ?_
  refine ASeq.gq _ _ rfl rfl rfl rfl (QOp.loadM 1 rfl rfl rfl (tok _ rfl) rfl) ?_
  refine ASeq.gq _ _ rfl rfl rfl rfl (QOp.lenI rfl rfl (tok _ rfl) rfl) ?_
  refine ASeq.gq _ _ rfl rfl rfl rfl (QOp.cmp rfl rfl rfl rfl) ?_
  refine ASeq.slot 37 rfl (v' := .v (.bool false)) (by show AV.Le (.v (.bool (((ints (firsts t)).length : Int) != ((t.funcs.map Fu.cells).length : Int)))) _; rw [e2]; exact .refl _) ?_
  refine ASeq.q rfl rfl (QOp.pickF rfl rfl rfl) ?_
  refine ASeq.nil ?_
  refine AExit.then_normal ?_
  refine ACode.cond _ rfl (fun hb => by cases hb) (fun _ => ?_)
  refine ACode.skip (ACode.seq (ACode.seq (ACode.region ?_)))
  refine ASeq.q rfl rfl (QOp.move rfl rfl) ?_
  refine ASeq.q rfl rfl (QOp.lenI rfl rfl (tok _ rfl) rfl) ?_
  refine ASeq.q rfl rfl (QOp.move rfl rfl) ?_
  refine ASeq.nil ?_
  refine ACode.block ?_
  refine ACode.loopP (fun (i : Nat) => [(3, .mp m3 0), (5, .mp m5 0), (6, .il 1 none (nxrows nx)), (40, vi ((nxrows nx).length : Int)), (41, vi i)])
    (fun _ => [.mu mN (nx.map nxc), .mu m3 t.cells, .mu m5 [.il 1 none (ints (firsts t)), .sl 1 mN 0 t.stmts.length]]) (fun i => nx.length - i) (fun i => i ≤ nx.length) 0 (Nat.zero_le _)
    (.cons rfl (.cons rfl (.cons rfl (.cons rfl (.cons rfl .nil))))) 3 rfl ?_
  intro i hi
  refine ACode.seq (ACode.region ?_)
  refine ASeq.q rfl rfl (QOp.cmp rfl rfl rfl rfl) ?_
  refine ASeq.nil ?_
  refine ACode.seq ?_
  refine ACode.cond _ rfl (fun hb => ?_) (fun hb => ?_)
  · have hlt : i < nx.length := by have := of_decide_eq_true hb; rw [hnl] at this; omega
    have g1 := nxrows_get hlt
    have g2 := nx_get hlt
    have hio := ints_ok nx[i] nx[i] none none (by have := hnx.small hR hlt; omega)
    rw [sameI_refl] at hio
    refine ACode.skip (ACode.seq (ACode.block (ACode.seq (ACode.region ?_))))
    refine ASeq.q rfl rfl (QOp.move rfl rfl) ?_
    refine ASeq.q rfl rfl (QOp.assign rfl rfl) ?_
    refine ASeq.nil ?_
    refine ACode.seq ?_
    refine ACode.drawn [[], [0], [], [0, 1, 2], [0, 1, 2, 3], [], [], [5, 6], [5, 6, 7], [0, 1, 2, 3, 4, 5, 6, 7, 8], [0, 1, 2, 3, 4, 5, 6, 7, 8, 9]] (by kernel_rfl) mixed ?_
    refine DAny.qu 0 rfl rfl (by kernel_rfl) rfl (fun _ => .does _ _ rfl (.none rfl) (QOp.fieldM rfl rfl (tok _ rfl) rfl rfl (by decide) rfl)) ?_
    refine DAny.ld 1 rfl rfl (by kernel_rfl) rfl (.does _ _ rfl (.none rfl) (QOp.loadM 2 rfl rfl rfl (tok _ rfl) rfl)) ?_
    refine DAny.qu 2 rfl rfl (by kernel_rfl) rfl (fun _ => .does _ _ rfl (.none rfl) (QOp.move rfl rfl)) ?_
    refine DAny.qu 3 rfl rfl (by kernel_rfl) rfl (fun _ => .does _ _ rfl (.none rfl) (QOp.indexM rfl rfl rfl (tok _ rfl) rfl (tok _ rfl) (by omega) (by omega) rfl)) ?_
    refine DAny.ld 4 rfl rfl (by kernel_rfl) rfl (.does _ _ rfl (.none rfl) (QOp.loadAt 0 rfl rfl rfl (tok _ rfl) rfl (by assumption))) ?_
    refine DAny.qu 5 rfl rfl (by kernel_rfl) rfl (fun _ => .does _ _ rfl (.none rfl) (QOp.move rfl rfl)) ?_
    refine DAny.qu 6 rfl rfl (by kernel_rfl) rfl (fun _ => .does _ _ rfl (.none rfl) (QOp.move rfl rfl)) ?_
    refine DAny.qu 7 rfl rfl (by kernel_rfl) rfl (fun _ => .does _ _ rfl (.none rfl) (QOp.indexI rfl rfl rfl (tok _ rfl) rfl (tok _ rfl) (by omega) (by assumption))) ?_
    refine DAny.qu 8 rfl rfl (by kernel_rfl) rfl (fun _ => .does _ _ rfl (.none rfl) (QOp.loadI rfl rfl (tok _ rfl) rfl)) ?_
    refine DAny.ef 9 rfl (by kernel_rfl) (.none rfl) rfl rfl (AOp.callP 0 rfl (by kernel_rfl) rfl rfl rfl (hio) ?_ (by rintro _ _ ⟨⟩))
    rintro _ _ ⟨⟩
    refine ⟨(by ((exact AllQ.nil))), ?_⟩
    refine DAny.qu 10 rfl rfl (by kernel_rfl) rfl (fun _ => .does _ _ rfl (.none rfl) (QOp.not rfl rfl)) ?_
    refine DAny.done (by kernel_rfl) ?_
    refine AExit.then_normal ?_
    refine ACode.cond _ rfl (fun hb => by cases hb) (fun _ => ?_)
    refine ACode.skip (ACode.region ?_)
    refine ASeq.q rfl rfl (QOp.ar64 rfl rfl rfl rfl ⟨by omega, by omega⟩) ?_
    refine ASeq.q rfl rfl (QOp.move rfl rfl) ?_
    refine ASeq.nil ?_
    refine AExit.then_normal ?_
    exact ⟨i + 1, 3, hlt, by omega, .cons rfl (.cons rfl (.cons rfl (.cons rfl (.cons rfl .nil)))), rfl⟩
  refine ACode.exit (ACode.seq (ACode.seq (ACode.region ?_)))
  refine ASeq.q rfl rfl (QOp.fieldM rfl rfl (tok _ rfl) rfl rfl (by decide) rfl) ?_
  refine ASeq.q rfl rfl (QOp.loadM 1 rfl rfl rfl (tok _ rfl) rfl) ?_
  refine ASeq.q rfl rfl (QOp.lenI rfl rfl (tok _ rfl) rfl) ?_
  refine ASeq.q rfl rfl (QOp.move rfl rfl) ?_
  refine ASeq.nil ?_
  refine ACode.block ?_
  refine ACode.loopP (fun (i : Nat) => [(3, .mp m3 0), (5, .mp m5 0), (57, .il 6 none (t.funcs.map Fu.cells)), (58, vi ((t.funcs.map Fu.cells).length : Int)), (59, vi i)])
    (fun _ => [.mu mN (nx.map nxc), .mu m3 t.cells, .mu m5 [.il 1 none (ints (firsts t)), .sl 1 mN 0 t.stmts.length]]) (fun i => t.funcs.length - i) (fun i => i ≤ t.funcs.length) 0 (Nat.zero_le _)
    (.cons rfl (.cons rfl (.cons rfl (.cons rfl (.cons rfl .nil))))) 3 rfl ?_
  intro i hi
  refine ACode.seq (ACode.region ?_)
  refine ASeq.q rfl rfl (QOp.cmp rfl rfl rfl rfl) ?_
  refine ASeq.nil ?_
  refine ACode.seq ?_
  refine ACode.cond _ rfl (fun hb => ?_) (fun hb => ?_)
  · have hlt : i < t.funcs.length := by have := of_decide_eq_true hb; rw [hFl] at this; omega
    have hgi := fu_at hlt
    have hgf := firsts_get hlt
    have hbl := ints_len t.funcs[i].body
    refine ACode.skip (ACode.seq (ACode.block (ACode.seq (ACode.region ?_))))
    refine ASeq.q rfl rfl (QOp.move rfl rfl) ?_
    refine ASeq.q rfl rfl (QOp.indexI rfl rfl rfl (tok _ rfl) rfl (tok _ rfl) (by omega) (by assumption)) ?_
    refine ASeq.q rfl rfl (QOp.loadI rfl rfl (tok _ rfl) rfl) ?_
    refine ASeq.op rfl rfl (AOp.allocP rfl (tok _ rfl) rfl rfl (fun _ => rfl) (fun _ => ?_))
    refine ASeq.q rfl rfl (QOp.assign rfl rfl) ?_
    refine ASeq.op0 rfl rfl (AOp.storeP 3 rfl rfl rfl rfl (tok _ rfl) rfl rfl rfl rfl ?_)
    refine ASeq.nil ?_
    refine ACode.seq (ACode.region ?_)
    refine ASeq.q rfl rfl (QOp.assign rfl rfl) ?_
    refine ASeq.nil ?_
    refine AExit.then_normal ?_
    refine ACode.meet [(3, .mp m3 0), (5, .mp m5 0), (57, .il 6 none (t.funcs.map Fu.cells)), (58, vi ((t.funcs.map Fu.cells).length : Int)), (59, vi i), (8, vi i), (10, vi (firstOf t.funcs[i].body (-1)))]
      [.mu mN (nx.map nxc), .mu m3 t.cells, .mu m5 [.il 1 none (ints (firsts t)), .sl 1 mN 0 t.stmts.length]] (fun rest => ?_) ?_
    · refine ACode.seq (ACode.region ?_)
      refine ASeq.q rfl rfl (QOp.fieldM rfl rfl (tok _ rfl) rfl rfl (by decide) rfl) ?_
      refine ASeq.q rfl rfl (QOp.loadM 3 rfl rfl rfl (tok _ rfl) rfl) ?_
      refine ASeq.q rfl rfl (QOp.lenI rfl rfl (tok _ rfl) rfl) ?_
      refine ASeq.q rfl rfl (QOp.cmp rfl rfl rfl rfl) ?_
      refine ASeq.nil ?_
      refine AExit.then_normal ?_
      refine ACode.cond _ rfl (fun hb => ?_) (fun hb => ?_)
      · have hlb : 0 < t.funcs[i].body.length := by have := of_decide_eq_true hb; rw [hbl] at this; omega
        have hget := first_get hlb (-1)
        refine ACode.region ?_
        refine ASeq.q rfl rfl (QOp.fieldM rfl rfl (tok _ rfl) rfl rfl (by decide) rfl) ?_
        refine ASeq.q rfl rfl (QOp.loadM 3 rfl rfl rfl (tok _ rfl) rfl) ?_
        refine ASeq.q rfl rfl (QOp.indexI rfl rfl rfl (tok _ rfl) rfl (tok _ rfl) (by decide) (by assumption)) ?_
        refine ASeq.q rfl rfl (QOp.loadI rfl rfl (tok _ rfl) rfl) ?_
        refine ASeq.q rfl rfl (QOp.assign rfl rfl) ?_
        refine ASeq.nil ?_
        refine AExit.then_normal ?_
        exact rest.atP 3 (.cons rfl (.cons rfl (.cons rfl (.cons rfl (.cons rfl (.cons rfl (.cons rfl .nil))))))) rfl
      · have hlb : ¬ 0 < t.funcs[i].body.length := by have := of_decide_eq_false hb; rw [hbl] at this; omega
        refine ACode.skip ?_
        refine AExit.then_normal ?_
        exact rest.atP 3 (.cons rfl (.cons rfl (.cons rfl (.cons rfl (.cons rfl (.cons rfl (.consE rfl (by rw [first_nil hlb]; rfl) .nil))))))) rfl
    refine ACode.seq (ACode.region ?_)
    refine ASeq.q rfl rfl (QOp.fieldM rfl rfl (tok _ rfl) rfl rfl (by decide) rfl) ?_
    refine ASeq.q rfl rfl (QOp.loadM 2 rfl rfl rfl (tok _ rfl) rfl) ?_
    refine ASeq.q rfl rfl (QOp.move rfl rfl) ?_
    refine ASeq.q rfl rfl (QOp.indexI rfl rfl rfl (tok _ rfl) rfl (tok _ rfl) (by omega) (by assumption)) ?_
    refine ASeq.q rfl rfl (QOp.loadI rfl rfl (tok _ rfl) rfl) ?_
    refine ASeq.q rfl rfl (QOp.move rfl rfl) ?_
    refine ASeq.q rfl rfl (QOp.cmp rfl rfl rfl rfl) ?_
    refine ASeq.nil ?_
    refine AExit.then_normal ?_
    refine ACode.cond _ rfl (fun hb => by simp at hb) (fun _ => ?_)
    refine ACode.skip (ACode.region ?_)
    refine ASeq.q rfl rfl (QOp.ar64 rfl rfl rfl rfl ⟨by omega, by omega⟩) ?_
    refine ASeq.q rfl rfl (QOp.move rfl rfl) ?_
    refine ASeq.nil ?_
    refine AExit.then_normal ?_
    exact ⟨i + 1, 3, hlt, by omega, .cons rfl (.cons rfl (.cons rfl (.cons rfl (.cons rfl .nil)))), rfl⟩
  · refine ACode.exit (ACode.seq (ACode.region ?_))
    refine ASeq.q rfl rfl (QOp.assign rfl rfl) ?_
    refine ASeq.nil ?_
    refine ACode.ret ?_
    refine bodyQ_ret 0 (.tmp rfl .nil) rfl ?_
    exact .mk
end Go.Proofs.Ytaadamobapnfbaa
/- From the abstract layer's walk of a law to what its row asks for. -/
set_option linter.unusedVariables false
namespace Go.Proofs.Ytaadamobapnfbaa
open Go Go.Abs Go.RowKit
def gh0 : Gh := { per := fun _ => [], size := fun _ => 0, loc := fun _ => none, tok := fun _ => none, next := 0 }
theorem own0 (W : World) : Own gh0 [] W :=
  ⟨fun b h => absurd rfl h, fun it h => by simp at h, .nil, fun b _ => ⟨rfl, rfl⟩, fun m _ => ⟨rfl, rfl⟩, fun m b h => (by cases h), fun t p h => (by cases h)⟩
theorem law_below {f : FuncId} {args : List AV} {cargs : Array Value} (hc : ACalls Try.prog f args [] (RV (.v (.bool true)) [])) (hr : Reps gh0 args cargs) (W : World) :
    Calls Try.prog f cargs W fun e W' => e = .returned (.bool true) ∧ Below W.heap.size W W' := by
  refine (hc gh0 W cargs (own0 W) hr).mono fun e w he => ?_
  cases e with
  | returned c =>
    obtain ⟨G', R', r, hE, hO, hrep, hq⟩ := he
    cases hq
    refine ⟨by rw [hrep.v_inv], hE.os, hE.tape, hE.output, hE.size, fun k hk => (hE.same k hk ?_).1⟩
    rintro ⟨it, hi, _⟩
    simp at hi
  | panicked ch =>
    obtain ⟨G', R', x, c, h0, hE, hO, hrep, hq⟩ := he
    cases hq
  | outgrown => exact he.elim
theorem reps_string (s : ByteArray) : Reps gh0 [vs s] #[.string s] :=
  ⟨rfl, fun i x hx => by
    match i, hx with
    | 0, hx =>
      simp only [List.getElem?_cons_zero, Option.some.injEq] at hx
      exact ⟨.string s, rfl, hx ▸ .v⟩
    | i + 1, hx => simp at hx⟩
theorem owned0 : ownKnob Try.prog.godebug = none := by kernel_rfl
end Go.Proofs.Ytaadamobapnfbaa
/- FlowStays: the walk. -/
set_option linter.unusedVariables false
set_option linter.unusedSimpArgs false
set_option maxRecDepth 1000000
namespace Go.Proofs.Ytaadamobapnfbaa
open Go Go.Abs
set_option maxHeartbeats 1000000 in
theorem flowStays_walk (s : ByteArray) : ACalls Try.prog 4 [vs s] [] (RV (.v (.bool true)) []) := by
  have haw := awake7_walk
  have hri := right_walk s
  refine ACalls.of_code (c := _) Try.func4 rfl Try.ntmps4 (Nat.le_of_ble_eq_true rfl) ?_
  refine ACode.seq (ACode.region ?_)
  refine ASeq.q rfl rfl (QOp.assign rfl rfl) ?_
  refine ASeq.nil ?_
  refine ACode.seq (ACode.seq (ACode.region ?_))
  refine ASeq.op rfl rfl (AOp.callP 0 rfl (by kernel_rfl) rfl rfl rfl (haw) ?_ (by rintro _ _ ⟨⟩))
  rintro _ _ ⟨⟩
  refine ASeq.q rfl rfl (QOp.not rfl rfl) ?_
  refine ASeq.nil ?_
  refine AExit.then_normal ?_
  refine ACode.cond _ rfl (fun hb => by cases hb) (fun _ => ?_)
  refine ACode.skip (ACode.seq (ACode.region ?_))
  refine ASeq.q rfl rfl (QOp.move rfl rfl) ?_
  refine ASeq.op rfl rfl (AOp.callP 0 rfl (by kernel_rfl) rfl rfl rfl (hri) ?_ (by rintro _ _ ⟨⟩))
  rintro _ _ ⟨⟩
  refine ASeq.q rfl rfl (QOp.move rfl rfl) ?_
  refine ASeq.q rfl rfl (QOp.extract rfl rfl rfl) ?_
  refine ASeq.q rfl rfl (QOp.extract rfl rfl rfl) ?_
  refine ASeq.op rfl rfl (AOp.allocP rfl (tok _ rfl) rfl rfl (fun _ => rfl) (fun _ => ?_))
  refine ASeq.op0 rfl rfl (AOp.storeP 0 rfl rfl rfl rfl (tok _ rfl) rfl rfl rfl rfl ?_)
  refine ASeq.q rfl rfl (QOp.assign rfl rfl) ?_
  refine ASeq.nil ?_
  rename_i m3
  refine ACode.seq (ACode.seq (ACode.region ?_))
  refine ASeq.q rfl rfl (QOp.move rfl rfl) ?_
  refine ASeq.q rfl rfl (QOp.not rfl rfl) ?_
  refine ASeq.nil ?_
  refine AExit.then_normal ?_
  refine ACode.cond _ rfl (fun hb => ?_) (fun hb => ?_)
  · refine ACode.seq (ACode.region ?_)
    refine ASeq.q rfl rfl (QOp.assign rfl rfl) ?_
    refine ASeq.nil ?_
    refine ACode.ret (AExit.then_ret ?_)
    refine bodyQ_ret 0 (.tmp rfl .nil) rfl ?_
    exact .mk
  have hright : (rightOf s).2 = true := by simpa using hb
  obtain ⟨R, hT⟩ := rightT hright
  have hof := hT.of
  have hR := hT.fr
  obtain ⟨ht, hst, hJ, hfu⟩ := hT.ok
  have hc0 := hT.code
  generalize (rightOf s).1 = t at *
  have hck := check6_ok t ht
  have hbig := ht.big
  have hSl : (t.stmts.map St.cells).length = t.stmts.length := List.length_map ..
  refine ACode.skip (ACode.seq (ACode.region ?_))
  refine ASeq.q rfl rfl (QOp.loadM 0 rfl rfl rfl (tok _ rfl) rfl) ?_
  refine ASeq.op rfl rfl (AOp.callP 0 rfl (by kernel_rfl) rfl rfl rfl hof ?_ (by rintro _ _ ⟨⟩))
  rintro _ _ ⟨mN, nx, hnx⟩
  have hlen := hnx.len
  refine ASeq.op rfl rfl (AOp.allocP rfl (tok _ rfl) rfl rfl (fun _ => rfl) (fun _ => ?_))
  refine ASeq.op0 rfl rfl (AOp.storeP 2 rfl rfl rfl rfl (tok _ rfl) rfl rfl rfl rfl ?_)
  refine ASeq.nil ?_
  rename_i m5
  refine ACode.seq (ACode.region ?_)
  refine ASeq.q rfl rfl (QOp.loadM 1 rfl rfl rfl (tok _ rfl) rfl) ?_
  refine ASeq.op rfl rfl (AOp.callP 0 rfl (by kernel_rfl) rfl rfl rfl hck ?_ (by rintro _ _ ⟨⟩))
  rintro _ _ (⟨hbad⟩ | ⟨hgood, m, τ⟩)
  · exact absurd hc0 hbad
  have hfl : (checked t).func.length = t.stmts.length := (checked_pre t ht).lf
  refine ASeq.q rfl rfl (QOp.move rfl rfl) ?_
  refine ASeq.q rfl rfl (QOp.extract rfl rfl rfl) ?_
  refine ASeq.q rfl rfl (QOp.extract rfl rfl rfl) ?_
  refine ASeq.q rfl rfl (QOp.extract rfl rfl rfl) ?_
  refine ASeq.op rfl rfl (AOp.allocP rfl (tok _ rfl) rfl rfl (fun _ => rfl) (fun _ => ?_))
  refine ASeq.op0 rfl rfl (AOp.storeP 9 rfl rfl rfl rfl (tok _ rfl) rfl rfl rfl rfl ?_)
  refine ASeq.q rfl rfl (QOp.assign rfl rfl) ?_
  refine ASeq.q rfl rfl (QOp.assign rfl rfl) ?_
  refine ASeq.nil ?_
  rename_i m6
  refine ACode.seq (ACode.seq (ACode.region ?_))
  have e1 : ((t.stmts.length : Int) != ((t.stmts.map St.cells).length : Int)) = false := by rw [hSl]; simp
  refine ASeq.q rfl rfl (QOp.fieldM rfl rfl (tok _ rfl) rfl rfl (by decide) rfl) ?_
  refine ASeq.q rfl rfl (QOp.loadM 8 rfl rfl rfl (tok _ rfl) rfl) ?_
  refine ASeq.q rfl rfl (QOp.lenM rfl rfl (tok _ rfl) rfl) ?_
  refine ASeq.q rfl rfl (QOp.fieldM rfl rfl (tok _ rfl) rfl rfl (by decide) rfl) ?_
  refine ASeq.q rfl rfl (QOp.loadM 7 rfl rfl rfl (tok _ rfl) rfl) ?_
  refine ASeq.q rfl rfl (QOp.lenI rfl rfl (tok _ rfl) rfl) ?_
  refine ASeq.q rfl rfl (QOp.cmp rfl rfl rfl rfl) ?_
  refine ASeq.nil ?_
  refine AExit.then_normal ?_
  refine ACode.cond _ rfl (fun hb => by rw [e1] at hb; cases hb) (fun _ => ?_)
  refine ACode.skip (ACode.seq (ACode.seq (ACode.region ?_)))
  refine ASeq.q rfl rfl (QOp.fieldM rfl rfl (tok _ rfl) rfl rfl (by decide) rfl) ?_
  refine ASeq.q rfl rfl (QOp.loadM 8 rfl rfl rfl (tok _ rfl) rfl) ?_
  refine ASeq.q rfl rfl (QOp.lenM rfl rfl (tok _ rfl) rfl) ?_
  refine ASeq.q rfl rfl (QOp.move rfl rfl) ?_
  refine ASeq.nil ?_
  refine ACode.block ?_
  refine ACode.loopP (fun (i : Nat) => [(3, .mp m3 0), (5, .mp m5 0), (6, .mp m6 0), (38, .sl 1 mN 0 t.stmts.length), (39, vi (t.stmts.length : Int)), (40, vi i)])
    (fun _ => (checked t).items m τ ++ [.mu mN (nx.map nxc), .mu m3 t.cells, .mu m5 [.il 1 none (ints (firsts t)), .sl 1 mN 0 t.stmts.length], .mu m6 [.sl 1 m.mT 0 (checked t).type.length, .sl 1 m.mS 0 (checked t).slot.length, .sl 1 m.mP 0 (checked t).put.length, .sl 1 m.mF 0 (checked t).func.length, .sl 1 m.mL 0 (checked t).slots.length]])
    (fun i => t.stmts.length - i) (fun i => i ≤ t.stmts.length) 0 (Nat.zero_le _)
    (.cons rfl (.cons rfl (.cons rfl (.cons rfl (.cons rfl (.cons rfl .nil)))))) 10 rfl ?_
  intro i hi
  refine ACode.seq (ACode.region ?_)
  refine ASeq.q rfl rfl (QOp.cmp rfl rfl rfl rfl) ?_
  refine ASeq.nil ?_
  refine ACode.seq ?_
  refine ACode.cond _ rfl (fun hb => ?_) (fun hb => ?_)
  · have hlt : i < t.stmts.length := by have := of_decide_eq_true hb; omega
    have hln : i < nx.length := by omega
    have g2 := nx_get hln
    obtain ⟨k, ⟨d, hin, hdi, hwd⟩, hgood⟩ := hnx.leads ht hR hJ hln
    have hsm := hnx.small hR hln
    have hil := ints_len nx[i]
    have hfi : ((checked t).func.map vi)[0 + i * 1]? = some (vi (k : Int)) := by
      have := hfu k d hin
      rw [hdi, Int.toNat_natCast] at this
      rw [Nat.zero_add, Nat.mul_one, List.getElem?_map, this]; rfl
    refine ACode.skip (ACode.seq (ACode.block (ACode.seq (ACode.region ?_))))
    refine ASeq.q rfl rfl (QOp.move rfl rfl) ?_
    refine ASeq.q rfl rfl (QOp.indexM rfl rfl rfl (tok _ rfl) rfl (tok _ rfl) (by omega) (by omega) rfl) ?_
    refine ASeq.q rfl rfl (QOp.loadAt 6 rfl rfl rfl (tok _ rfl) rfl (by assumption)) ?_
    refine ASeq.q rfl rfl (QOp.assign rfl rfl) ?_
    refine ASeq.q rfl rfl (QOp.assign rfl rfl) ?_
    refine ASeq.nil ?_
    refine ACode.seq (ACode.region ?_)
    refine ASeq.q rfl rfl (QOp.move rfl rfl) ?_
    refine ASeq.q rfl rfl (QOp.lenI rfl rfl (tok _ rfl) rfl) ?_
    refine ASeq.q rfl rfl (QOp.move rfl rfl) ?_
    refine ASeq.nil ?_
    refine ACode.block ?_
    refine ACode.loopP (fun (j : Nat) => [(3, .mp m3 0), (5, .mp m5 0), (6, .mp m6 0), (38, .sl 1 mN 0 t.stmts.length), (39, vi (t.stmts.length : Int)), (40, vi i), (9, vi i), (45, nxc nx[i]), (46, vi ((ints nx[i]).length : Int)), (47, vi j)])
      (fun _ => (checked t).items m τ ++ [.mu mN (nx.map nxc), .mu m3 t.cells, .mu m5 [.il 1 none (ints (firsts t)), .sl 1 mN 0 t.stmts.length], .mu m6 [.sl 1 m.mT 0 (checked t).type.length, .sl 1 m.mS 0 (checked t).slot.length, .sl 1 m.mP 0 (checked t).put.length, .sl 1 m.mF 0 (checked t).func.length, .sl 1 m.mL 0 (checked t).slots.length]])
      (fun j => nx[i].length - j) (fun j => j ≤ nx[i].length) 0 (Nat.zero_le _)
      (.cons rfl (.cons rfl (.cons rfl (.cons rfl (.cons rfl (.cons rfl (.cons rfl (.cons rfl (.cons rfl (.cons rfl .nil)))))))))) 10 rfl ?_
    intro j hj
    refine ACode.seq (ACode.region ?_)
    refine ASeq.q rfl rfl (QOp.cmp rfl rfl rfl rfl) ?_
    refine ASeq.nil ?_
    refine ACode.seq ?_
    refine ACode.cond _ rfl (fun hb => ?_) (fun hb => ?_)
    · have hlj : j < nx[i].length := by have := of_decide_eq_true hb; rw [hil] at this; omega
      have g3 := ints_get hlj
      have hgx := hgood _ (List.getElem_mem hlj)
      generalize hx : nx[i][j] = x at hgx g3
      have hrx := hgx.range hR
      refine ACode.skip (ACode.seq (ACode.block (ACode.seq (ACode.region ?_))))
      refine ASeq.q rfl rfl (QOp.indexI rfl rfl rfl (tok _ rfl) rfl (tok _ rfl) (by omega) (by assumption)) ?_
      refine ASeq.q rfl rfl (QOp.loadI rfl rfl (tok _ rfl) rfl) ?_
      refine ASeq.q rfl rfl (QOp.assign rfl rfl) ?_
      refine ASeq.nil ?_
      have h1 : decide (x < -1) = false := decide_eq_false (by omega)
      have h2 : decide (x ≥ ((t.stmts.map St.cells).length : Int)) = false := decide_eq_false (by rw [hSl]; omega)
      refine AExit.then_normal ?_
      refine ACode.seq ?_
      refine ACode.drawn [[], [0], [0, 1], [0, 1, 2], [0, 1, 2], [0, 1, 2, 4], [0, 1, 2, 4, 5], [0, 1, 2, 3, 4, 5, 6], [0, 1, 2, 3, 4, 5, 6, 7], [0, 1, 2, 3, 4, 5, 6, 7, 8], [0, 1, 2, 3, 4, 5, 6, 7, 8, 9], [0, 1, 2, 3, 4, 5, 6, 7, 8, 9, 10], [0, 1, 2, 3, 4, 5, 6, 7, 8, 9, 10, 11], [0, 1, 2, 3, 4, 5, 6, 7, 8, 9, 10, 11, 12], [0, 1, 2, 3, 4, 5, 6, 7, 8, 9, 10, 11, 12, 13], [0, 1, 2, 3, 4, 5, 6, 7, 8, 9, 10, 11, 12], [0, 1, 2, 3, 4, 5, 6, 7, 8, 9, 10, 11, 12, 13, 14, 15], [0, 1, 2, 3, 4, 5, 6, 7, 8, 9, 10, 11, 12, 13, 14, 15, 16], [0, 1, 2, 3, 4, 5, 6, 7, 8, 9, 10, 11, 12], [0, 1, 2, 3, 4, 5, 6, 7, 8, 9, 10, 11, 12, 18], [0, 1, 2, 3, 4, 5, 6, 7, 8, 9, 10, 11, 12], [0, 1, 2, 3, 4, 5, 6, 7, 8, 9, 10, 11, 12, 18, 19, 20], [0, 1, 2, 3, 4, 5, 6, 7, 8, 9, 10, 11, 12, 18, 19, 20, 21], [0, 1, 2, 3, 4, 5, 6, 7, 8, 9, 10, 11, 12, 13, 14, 15, 16, 17, 18, 19, 20, 21, 22], [0, 1, 2, 3, 4, 5, 6, 7, 8, 9, 10, 11, 12, 13, 14, 15, 16, 17, 18, 19, 20, 21, 22, 23], [0, 1, 2, 3, 4, 5, 6, 7, 8, 9, 10, 11, 12, 13, 14, 15, 16, 17, 18, 19, 20, 21, 22, 23, 24]] (by kernel_rfl) mixed ?_
      refine DAny.qu 0 rfl rfl (by kernel_rfl) rfl (fun _ => .does _ _ rfl (.none rfl) (QOp.move rfl rfl)) ?_
      refine DAny.qu 1 rfl rfl (by kernel_rfl) rfl (fun _ => .does _ _ rfl (.none rfl) (QOp.cmp rfl rfl rfl rfl)) ?_
      refine DAny.qu 2 rfl rfl (by kernel_rfl) rfl (fun _ => .does _ _ rfl (.none rfl) (QOp.move rfl rfl)) ?_
      -- STOP at 3 (listed 0,1,2)
      refine DAny.split 53 (decide (x < -1)) rfl (fun h => by rw [h1] at h; cases h) (fun _ => ?_)
      refine DAny.qu 3 rfl rfl (by kernel_rfl) rfl (fun _ => .does _ _ rfl (by exact .yes _ _ _ rfl rfl rfl) (QOp.move rfl rfl)) ?_
      refine DAny.qu 4 rfl rfl (by kernel_rfl) rfl (fun _ => .does _ _ rfl (by exact .yes _ _ _ rfl rfl rfl) (QOp.fieldM rfl rfl (tok _ rfl) rfl rfl (by decide) rfl)) ?_
      refine DAny.ld 5 rfl rfl (by kernel_rfl) rfl (.does _ _ rfl (by exact .yes _ _ _ rfl rfl rfl) (QOp.loadM 7 rfl rfl rfl (tok _ rfl) rfl)) ?_
      refine DAny.qu 6 rfl rfl (by kernel_rfl) rfl (fun _ => .does _ _ rfl (by exact .yes _ _ _ rfl rfl rfl) (QOp.lenI rfl rfl (tok _ rfl) rfl)) ?_
      refine DAny.qu 7 rfl rfl (by kernel_rfl) rfl (fun _ => .does _ _ rfl (by exact .yes _ _ _ rfl rfl rfl) (QOp.cmp rfl rfl rfl rfl)) ?_
      refine DAny.qu 8 rfl rfl (by kernel_rfl) rfl (fun _ => .does _ _ rfl (.none rfl) (QOp.pickF rfl rfl rfl)) ?_
      refine DAny.qu 9 rfl rfl (by kernel_rfl) rfl (fun _ => .does _ _ rfl (.none rfl) (QOp.move rfl rfl)) ?_
      -- STOP at 10 (listed 0,1,2,3,4,5,6,7,8,9)
      refine DAny.split 60 (decide (x ≥ ((t.stmts.map St.cells).length : Int))) rfl (fun h => by rw [h2] at h; cases h) (fun _ => ?_)
      refine DAny.qu 10 rfl rfl (by kernel_rfl) rfl (fun _ => .does _ _ rfl (by exact .yes _ _ _ rfl rfl rfl) (QOp.move rfl rfl)) ?_
      refine DAny.qu 11 rfl rfl (by kernel_rfl) rfl (fun _ => .does _ _ rfl (by exact .yes _ _ _ rfl rfl rfl) (QOp.cmp rfl rfl rfl rfl)) ?_
      refine DAny.qu 12 rfl rfl (by kernel_rfl) rfl (fun _ => .does _ _ rfl (by exact .yes _ _ _ rfl rfl rfl) (QOp.move rfl rfl)) ?_
      -- STOP at 13 (listed 0,1,2,3,4,5,6,7,8,9,10,11,12)
      refine DAny.split 63 (decide (x ≥ 0)) rfl (fun h => ?_) (fun h => ?_)
      · have hx0 : 0 ≤ x := of_decide_eq_true h
        have hfx : ((checked t).func.map vi)[0 + x.toNat * 1]? = some (vi (k : Int)) := by
          rcases hgx with rfl | ⟨e, he, rfl⟩
          · omega
          · rw [Nat.zero_add, Nat.mul_one, List.getElem?_map, hfu k e he]; rfl
        refine DAny.qu 13 rfl rfl (by kernel_rfl) rfl (fun _ => .does _ _ rfl (by exact .yes _ _ _ rfl rfl rfl) (QOp.fieldM rfl rfl (tok _ rfl) rfl rfl (by decide) rfl)) ?_
        refine DAny.ld 14 rfl rfl (by kernel_rfl) rfl (.does _ _ rfl (by exact .yes _ _ _ rfl rfl rfl) (QOp.loadM 9 rfl rfl rfl (tok _ rfl) rfl)) ?_
        refine DAny.qu 15 rfl rfl (by kernel_rfl) rfl (fun _ => .does _ _ rfl (by exact .yes _ _ _ rfl rfl rfl) (QOp.move rfl rfl)) ?_
        refine DAny.qu 16 rfl rfl (by kernel_rfl) rfl (fun _ => .does _ _ rfl (by exact .yes _ _ _ rfl rfl rfl) (QOp.indexM rfl rfl rfl (tok _ rfl) rfl (tok _ rfl) (by omega) (by omega) rfl)) ?_
        refine DAny.ld 17 rfl rfl (by kernel_rfl) rfl (.does _ _ rfl (by exact .yes _ _ _ rfl rfl rfl) (QOp.loadAt 3 rfl rfl rfl (tok _ rfl) rfl (by assumption))) ?_
        refine DAny.qu 18 rfl rfl (by kernel_rfl) rfl (fun _ => .does _ _ rfl (by exact .yes _ _ _ rfl rfl rfl) (QOp.fieldM rfl rfl (tok _ rfl) rfl rfl (by decide) rfl)) ?_
        refine DAny.ld 19 rfl rfl (by kernel_rfl) rfl (.does _ _ rfl (by exact .yes _ _ _ rfl rfl rfl) (QOp.loadM 9 rfl rfl rfl (tok _ rfl) rfl)) ?_
        refine DAny.qu 20 rfl rfl (by kernel_rfl) rfl (fun _ => .does _ _ rfl (by exact .yes _ _ _ rfl rfl rfl) (QOp.move rfl rfl)) ?_
        refine DAny.qu 21 rfl rfl (by kernel_rfl) rfl (fun _ => .does _ _ rfl (by exact .yes _ _ _ rfl rfl rfl) (QOp.indexM rfl rfl rfl (tok _ rfl) rfl (tok _ rfl) (by omega) (by omega) rfl)) ?_
        refine DAny.ld 22 rfl rfl (by kernel_rfl) rfl (.does _ _ rfl (by exact .yes _ _ _ rfl rfl rfl) (QOp.loadAt 3 rfl rfl rfl (tok _ rfl) rfl (by assumption))) ?_
        refine DAny.qu 23 rfl rfl (by kernel_rfl) rfl (fun _ => .does _ _ rfl (by exact .yes _ _ _ rfl rfl rfl) (QOp.cmp rfl rfl rfl rfl)) ?_
        refine DAny.qu 24 rfl rfl (by kernel_rfl) rfl (fun _ => .does _ _ rfl (by exact .yes _ _ _ rfl rfl rfl) (QOp.pickT rfl rfl rfl)) ?_
        refine DAny.qu 25 rfl rfl (by kernel_rfl) rfl (fun _ => .does _ _ rfl (.none rfl) (QOp.pickF rfl rfl rfl)) ?_
        refine DAny.done (by kernel_rfl) ?_
        refine AExit.then_normal ?_
        refine ACode.cond _ rfl (fun hb => by simp at hb) (fun _ => ?_)
        refine ACode.skip (ACode.region ?_)
        refine ASeq.q rfl rfl (QOp.ar64 rfl rfl rfl rfl ⟨by omega, by omega⟩) ?_
        refine ASeq.q rfl rfl (QOp.move rfl rfl) ?_
        refine ASeq.nil ?_
        refine AExit.then_normal ?_
        exact ⟨j + 1, 10, hlj, by omega, .cons rfl (.cons rfl (.cons rfl (.cons rfl (.cons rfl (.cons rfl (.cons rfl (.cons rfl (.cons rfl (.cons rfl .nil))))))))), rfl⟩
      · refine DAny.qu 13 rfl rfl (by kernel_rfl) rfl (fun _ => .passed _ rfl (.no _ _ _ rfl rfl rfl rfl)) ?_
        refine DAny.qu 14 rfl rfl (by kernel_rfl) rfl (fun _ => .passed _ rfl (.no _ _ _ rfl rfl rfl rfl)) ?_
        refine DAny.qu 15 rfl rfl (by kernel_rfl) rfl (fun _ => .passed _ rfl (.no _ _ _ rfl rfl rfl rfl)) ?_
        refine DAny.qu 16 rfl rfl (by kernel_rfl) rfl (fun _ => .passed _ rfl (.no _ _ _ rfl rfl rfl rfl)) ?_
        refine DAny.qu 17 rfl rfl (by kernel_rfl) rfl (fun _ => .passed _ rfl (.no _ _ _ rfl rfl rfl rfl)) ?_
        refine DAny.qu 18 rfl rfl (by kernel_rfl) rfl (fun _ => .passed _ rfl (.no _ _ _ rfl rfl rfl rfl)) ?_
        refine DAny.qu 19 rfl rfl (by kernel_rfl) rfl (fun _ => .passed _ rfl (.no _ _ _ rfl rfl rfl rfl)) ?_
        refine DAny.qu 20 rfl rfl (by kernel_rfl) rfl (fun _ => .passed _ rfl (.no _ _ _ rfl rfl rfl rfl)) ?_
        refine DAny.qu 21 rfl rfl (by kernel_rfl) rfl (fun _ => .passed _ rfl (.no _ _ _ rfl rfl rfl rfl)) ?_
        refine DAny.qu 22 rfl rfl (by kernel_rfl) rfl (fun _ => .passed _ rfl (.no _ _ _ rfl rfl rfl rfl)) ?_
        refine DAny.qu 23 rfl rfl (by kernel_rfl) rfl (fun _ => .passed _ rfl (.no _ _ _ rfl rfl rfl rfl)) ?_
        refine DAny.qu 24 rfl rfl (by kernel_rfl) rfl (fun _ => .does _ _ rfl (by exact .yes _ _ _ rfl rfl rfl) (QOp.pickF rfl rfl rfl)) ?_
        refine DAny.qu 25 rfl rfl (by kernel_rfl) rfl (fun _ => .does _ _ rfl (.none rfl) (QOp.pickF rfl rfl rfl)) ?_
        refine DAny.done (by kernel_rfl) ?_
        refine AExit.then_normal ?_
        refine ACode.cond _ rfl (fun hb => by cases hb) (fun _ => ?_)
        refine ACode.skip (ACode.region ?_)
        refine ASeq.q rfl rfl (QOp.ar64 rfl rfl rfl rfl ⟨by omega, by omega⟩) ?_
        refine ASeq.q rfl rfl (QOp.move rfl rfl) ?_
        refine ASeq.nil ?_
        refine AExit.then_normal ?_
        exact ⟨j + 1, 10, hlj, by omega, .cons rfl (.cons rfl (.cons rfl (.cons rfl (.cons rfl (.cons rfl (.cons rfl (.cons rfl (.cons rfl (.cons rfl .nil))))))))), rfl⟩
    · refine ACode.exit (ACode.region ?_)
      refine ASeq.q rfl rfl (QOp.ar64 rfl rfl rfl rfl ⟨by omega, by omega⟩) ?_
      refine ASeq.q rfl rfl (QOp.move rfl rfl) ?_
      refine ASeq.nil ?_
      refine AExit.then_normal ?_
      exact ⟨i + 1, 10, hlt, by omega, .cons rfl (.cons rfl (.cons rfl (.cons rfl (.cons rfl (.cons rfl .nil))))), rfl⟩
  · refine ACode.exit (ACode.seq (ACode.region ?_))
    refine ASeq.q rfl rfl (QOp.assign rfl rfl) ?_
    refine ASeq.nil ?_
    refine ACode.ret ?_
    refine bodyQ_ret 0 (.tmp rfl .nil) rfl ?_
    exact .mk
end Go.Proofs.Ytaadamobapnfbaa
