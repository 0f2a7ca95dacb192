/- Own texts, put together by a program: G6 G7 G8 G9 H0 H1 J0 J1 J2 J3 J4 K0 K1 K2 K3 K4. -/
import Derived.Test.YtaadamobapnfbaaFg2
/- ref06: statements on data; block. -/
set_option linter.unusedVariables false
set_option linter.unusedSimpArgs false
set_option maxRecDepth 100000
namespace Go.Proofs.Ytaadamobapnfbaa
open Go Go.Abs
theorem exprs6 : ∀ n, CExpr n
  | 0 => fun c m i τ h hw h0 h1 hn => absurd hn (by omega)
  | n + 1 => expr_walk6 n (exprs6 n)
def vals (c : CS) (i : Int) : CS × Int := valOf (expr6 c.t.exprs.length c i) i
def stmtCase (g : CS → Int → CS) (c : CS) (s : St) : CS × Int :=
  if s.kind = 1 then
    if (vals c s.a).1.code ≠ 0 then ((vals c s.a).1, -1) else (vals c s.a).1.decl s.name (vals c s.a).2 s.fr
  else if s.kind = 2 then
    if (c.need (decide (s.num ≥ 1) && decide (s.num ≤ 64)) s.fr 15).code ≠ 0 then (c.need (decide (s.num ≥ 1) && decide (s.num ≤ 64)) s.fr 15, -1)
    else (c.need (decide (s.num ≥ 1) && decide (s.num ≤ 64)) s.fr 15).decl s.name 3 s.fr
  else if s.kind = 3 then
    if (vals c s.a).1.code ≠ 0 then ((vals c s.a).1, -1)
    else if ((vals c s.a).1.slotOf s.name false s.fr).1.code = 0 then
      (((vals c s.a).1.slotOf s.name false s.fr).1.need ((vals c s.a).2 == (vals c s.a).1.cur.getD ((vals c s.a).1.slotOf s.name false s.fr).2.toNat 0) s.fr 8, ((vals c s.a).1.slotOf s.name false s.fr).2)
    else (vals c s.a).1.slotOf s.name false s.fr
  else if s.kind = 4 then
    if (vals (vals c s.a).1 s.b).1.code ≠ 0 then ((vals (vals c s.a).1 s.b).1, -1)
    else (((vals (vals c s.a).1 s.b).1.slotOf s.name true s.fr).1.need (((vals c s.a).2 == 1) && ((vals (vals c s.a).1 s.b).2 == 1)) s.fr 8, ((vals (vals c s.a).1 s.b).1.slotOf s.name true s.fr).2)
  else if s.kind = 5 then (blockOf g (blockOf g ((vals c s.a).1.need ((vals c s.a).2 == 2) s.fr 8) s.thn) s.els, -1)
  else if s.kind = 6 then
    ({ blockOf g ({ (vals c s.a).1 with loops := c.loops + 1 }.need ((vals c s.a).2 == 2) s.fr 8) s.thn with loops := c.loops }, -1)
  else if s.kind = 7 ∨ s.kind = 8 then (c.need (decide (c.loops > 0)) s.fr 9, -1)
  else if s.kind = 9 then
    if s.a ≥ 0 then ((vals c s.a).1.need ((vals c s.a).2 == (c.fu c.f).type) s.fr 8, -1) else (c.need (4 == (c.fu c.f).type) s.fr 8, -1)
  else if s.kind = 10 then ((vals c s.a).1, -1)
  else if s.kind = 11 then ((expr6 c.t.exprs.length c s.a).1, -1)
  else (c, -1)
def putted (r : CS × Int) (i : Int) : CS := if r.1.code = 0 then r.1.setPut i r.2 else r.1
def stm6 : Nat → CS → Int → CS
  | 0, c, _ => c
  | n + 1, c, i => if c.code ≠ 0 then c else putted (stmtCase (stm6 n) (c.setFunc i c.f) (c.stm i)) i
/-- what a statement leaves as it was -/
structure KeptS (c d : CS) : Prop where
  t : d.t = c.t
  f : d.f = c.f
  block : d.block = c.block
  loops : d.loops = c.loops
  lt : d.type.length = c.type.length
  ls : d.slot.length = c.slot.length
  lp : d.put.length = c.put.length
  lf : d.func.length = c.func.length
  lS : d.slots.length = c.slots.length
  cur : c.cur.length ≤ d.cur.length
  ok : c.ok → d.ok
  other : ∀ j, j ≠ c.f.toNat → d.slots[j]? = c.slots[j]?
theorem KeptS.refl (c : CS) : KeptS c c := ⟨rfl, rfl, rfl, rfl, rfl, rfl, rfl, rfl, rfl, Nat.le_refl _, fun h => h, fun _ _ => rfl⟩
theorem KeptS.trans {a b c : CS} (h : KeptS a b) (h' : KeptS b c) : KeptS a c :=
  ⟨h'.t.trans h.t, h'.f.trans h.f, h'.block.trans h.block, h'.loops.trans h.loops, h'.lt.trans h.lt, h'.ls.trans h.ls, h'.lp.trans h.lp, h'.lf.trans h.lf, h'.lS.trans h.lS, Nat.le_trans h.cur h'.cur, fun k => h'.ok (h.ok k), fun j hj => (h'.other j (by rw [h.f]; exact hj)).trans (h.other j hj)⟩
theorem Kept.toS {a b : CS} (h : Kept a b) : KeptS a b :=
  ⟨h.t, h.f, h.block, h.loops, h.lt, h.ls, by rw [h.put], by rw [h.func], by rw [h.slots], by rw [h.cur]; exact Nat.le_refl _, h.ok, fun _ _ => by rw [h.slots]⟩
theorem Kept.vals (c : CS) (i : Int) : Kept c (vals c i).1 := (Kept.expr6 _ _ _).valOf _
theorem cur_set {c : CS} (h0 : 0 ≤ c.f) (h1 : c.f < c.slots.length) (l : List Int) : (c.slots.set c.f.toNat l).getD c.f.toNat [] = l := by
  have : c.f.toNat < c.slots.length := by omega
  simp [List.getD_eq_getElem?_getD, this]
theorem KeptS.decl {c : CS} (h : c.ok) (s : ByteArray) (k a : Int) : KeptS c (c.decl s k a).1 := by
  unfold CS.decl
  split
  · exact ((Kept.need _ _ _ _).trans (.need _ _ _ _)).toS
  · rename_i hc
    have hc : ((c.need (!c.twice s) a 7).need (decide ((c.cur.length : Int) < 64)) a 5).code = 0 := Decidable.byContradiction hc
    have hl := of_decide_eq_true ((need_code _ _ _ _ (by decide)).1 hc).2
    have hcs := cur_set h.f0 h.f1 (c.cur ++ [k])
    have hcur : ({ c with slots := c.slots.set c.f.toNat (c.cur ++ [k]), names := c.names ++ [⟨s, c.block, c.cur.length⟩] } : CS).cur = c.cur ++ [k] := hcs
    refine ⟨rfl, rfl, rfl, rfl, rfl, rfl, rfl, rfl, by simp, by rw [hcur]; simp, fun _ => ⟨h.f0, by simpa using h.f1, by rw [hcur]; simp; omega, ?_, ?_, h.lt, h.ls, h.lp, h.lf, by simpa using h.lS, h.big⟩, fun j hj => by simp only [List.getElem?_set]; rw [if_neg (fun h => hj h.symm)]⟩
    · rw [hcur]; have := h.names; simpa using this
    · rw [hcur]
      intro n hn
      simp only [List.length_append, List.length_cons, List.length_nil]
      rcases List.mem_append.1 hn with hn | hn
      · have := h.nslot n hn; omega
      · rw [List.mem_singleton] at hn; subst hn; dsimp only; omega
theorem KeptS.stmts {g : CS → Int → CS} (hg : ∀ c i, c.ok → KeptS c (g c i)) (b : Int) : ∀ (l : List Int) (c : CS), c.ok → c.block = b → KeptS c (stmtsOf g b l c)
  | [], c, _, _ => .refl c
  | i :: l, c, h, hb => by
    have h1 := hg c i h
    have h2 : KeptS c { g c i with block := b } := { h1 with block := hb.symm, ok := fun k => { h1.ok k with } }
    exact h2.trans (KeptS.stmts hg b l _ (h2.ok h) rfl)
theorem KeptS.blockOf {g : CS → Int → CS} (hg : ∀ c i, c.ok → KeptS c (g c i)) (c : CS) (l : List Int) (h : c.ok) : KeptS c (blockOf g c l) := by
  have h1 := KeptS.stmts hg (c.block + 1) l { c with block := c.block + 1 } { h with } rfl
  unfold Ytaadamobapnfbaa.blockOf
  refine { t := h1.t, f := h1.f, block := rfl, loops := h1.loops, lt := h1.lt, ls := h1.ls, lp := h1.lp, lf := h1.lf, lS := h1.lS, cur := h1.cur, ok := fun _ => ?_, other := h1.other }
  have ho := h1.ok { h with }
  have hc := h1.cur
  refine { ho with names := Nat.le_trans h.names hc, nslot := fun n hn => ?_ }
  have := h.nslot n hn
  exact ⟨this.1, Int.lt_of_lt_of_le this.2 (by exact_mod_cast hc)⟩
def smax : Int := 1099511627776
def StWf (E : Nat) (i : Nat) (s : St) : Prop :=
  (s.kind = 1 ∨ s.kind = 3 ∨ s.kind = 4 ∨ s.kind = 5 ∨ s.kind = 6 ∨ s.kind = 10 ∨ s.kind = 11 → 0 ≤ s.a) ∧ (1 ≤ s.kind ∧ s.kind ≤ 11 ∧ s.kind ≠ 2 ∧ s.kind ≠ 7 ∧ s.kind ≠ 8 → s.a < E) ∧ (s.kind = 4 → 0 ≤ s.b ∧ s.b < E) ∧ (∀ k ∈ s.thn, 0 ≤ k ∧ k < i) ∧ (∀ k ∈ s.els, 0 ≤ k ∧ k < i) ∧
    s.thn.length ≤ 1048576 ∧ s.els.length ≤ 1048576
def StsWf (t : Tree) : Prop := ∀ (i : Nat) (s : St), t.stmts[i]? = some s → StWf t.exprs.length i s
def CStmt (n : Nat) : Prop := ∀ (c : CS) (m : Ms) (i : Int) (τ : Nat), c.ok → TreeWf c.t → StsWf c.t → 0 ≤ i → i < c.t.stmts.length → i < n → 0 ≤ c.block → c.block + n ≤ smax → 0 ≤ c.loops → c.loops + n ≤ smax →
  ACalls Try.prog 33 [.agg (c.cells m), vi i] (c.items m τ) (RS m (stm6 n c i))
theorem RS.of {m : Ms} {c : CS} {r : AV} {R : List Abs.Item} (τ : Nat) (h1 : r = .agg (c.cells m)) (h2 : R = c.items m τ) : RS m c (.ret r) R := by subst h1; subst h2; exact .mk τ
theorem stmts_drop (g : CS → Int → CS) (b : Int) (l : List Int) (i : Nat) (c : CS) (h : i < l.length) : stmtsOf g b (l.drop i) c = stmtsOf g b (l.drop (i + 1)) { g c l[i] with block := b } := by
  rw [List.drop_eq_getElem_cons h]; rfl
theorem block_walk6 {n : Nat} (hS : CStmt n) (hK : ∀ c i, c.ok → KeptS c (stm6 n c i)) (c : CS) (m : Ms) (l : List Int) (τ : Nat) (h : c.ok) (hw : TreeWf c.t) (hw2 : StsWf c.t) (hl : ∀ k ∈ l, 0 ≤ k ∧ k < n ∧ k < c.t.stmts.length) (hll : l.length ≤ 1048576)
    (hb0 : 0 ≤ c.block) (hb1 : c.block + 1 + n ≤ smax) (hl0 : 0 ≤ c.loops) (hl1 : c.loops + n ≤ smax) :
    ACalls Try.prog 49 [.agg (c.cells m), .il 1 none (ints l)] (c.items m τ) (RS m (blockOf (stm6 n) c l)) := by
  have hil := ints_len l
  have hmax : smax = 1099511627776 := rfl
  refine ACalls.of_code (c := _) Try.func49 rfl Try.ntmps49 (Nat.le_of_ble_eq_true rfl) ?_
  refine ACode.seq (ACode.region ?_)
  refine ASeq.op rfl rfl (AOp.boxP rfl rfl rfl (fun _ => rfl) (fun _ => ?_))
  refine ASeq.op rfl rfl (AOp.allocP rfl (tok _ rfl) rfl rfl (fun _ => rfl) (fun _ => ?_))
  refine ASeq.nil ?_
  rename_i m2 m4
  refine ACode.seq (ACode.region ?_)
  refine ASeq.q rfl rfl (QOp.fieldM rfl rfl (tok _ rfl) rfl rfl (by decide) rfl) ?_
  refine ASeq.q rfl rfl (QOp.loadM 6 rfl rfl rfl (tok _ rfl) rfl) ?_
  refine ASeq.q rfl rfl (QOp.assign rfl rfl) ?_
  refine ASeq.nil ?_
  refine ACode.seq (ACode.region ?_)
  refine ASeq.q rfl rfl (QOp.fieldM rfl rfl (tok _ rfl) rfl rfl (by decide) rfl) ?_
  refine ASeq.q rfl rfl (QOp.loadM 6 rfl rfl rfl (tok _ rfl) rfl) ?_
  refine ASeq.q rfl rfl (QOp.ar64 rfl rfl rfl rfl ⟨by omega, by omega⟩) ?_
  refine ASeq.q rfl rfl (QOp.fieldM rfl rfl (tok _ rfl) rfl rfl (by decide) rfl) ?_
  refine ASeq.op0 rfl rfl (AOp.storeP 6 rfl rfl rfl rfl (tok _ rfl) rfl rfl rfl rfl ?_)
  refine ASeq.nil ?_
  refine ACode.seq (ACode.region ?_)
  refine ASeq.q rfl rfl (QOp.fieldM rfl rfl (tok _ rfl) rfl rfl (by decide) rfl) ?_
  refine ASeq.q rfl rfl (QOp.loadM 6 rfl rfl rfl (tok _ rfl) rfl) ?_
  refine ASeq.q rfl rfl (QOp.assign rfl rfl) ?_
  refine ASeq.nil ?_
  refine ACode.seq (ACode.seq (ACode.region ?_))
  refine ASeq.q rfl rfl (QOp.move rfl rfl) ?_
  refine ASeq.q rfl rfl (QOp.lenI rfl rfl (tok _ rfl) rfl) ?_
  refine ASeq.q rfl rfl (QOp.move rfl rfl) ?_
  refine ASeq.nil ?_
  refine ACode.block ?_
  refine ACode.loopP (fun (x : Nat × CS × Nat) => [(1, .il 1 none (ints l)), (2, .mp m2 0), (4, .mp m4 0), (5, .il 3 none (c.names.map Nm.cells)), (6, vi (c.block + 1)), (17, vi ((ints l).length : Int)), (18, vi x.1)])
    (fun x => x.2.1.items m x.2.2 ++ [.mu m2 (x.2.1.cells m), .mu m4 (List.map AV.v (TT 79).zero)]) (fun x => l.length - x.1)
    (fun x => x.1 ≤ l.length ∧ KeptS { c with block := c.block + 1 } x.2.1 ∧ x.2.1.block = c.block + 1 ∧ stmtsOf (stm6 n) (c.block + 1) (l.drop x.1) x.2.1 = stmtsOf (stm6 n) (c.block + 1) l { c with block := c.block + 1 })
    (0, { c with block := c.block + 1 }, τ) ⟨Nat.zero_le _, .refl _, rfl, rfl⟩ (.cons rfl (.cons rfl (.cons rfl (.cons rfl (.cons rfl (.cons rfl (.cons rfl .nil))))))) 8 rfl ?_
  rintro ⟨k, d, τ⟩ ⟨hk, hkd, hdb, hres⟩
  dsimp only at hk hkd hdb hres
  have okd := hkd.ok { h with }
  have htd : d.t = c.t := hkd.t
  have hld : d.loops = c.loops := hkd.loops
  refine ACode.seq (ACode.region ?_)
  refine ASeq.q rfl rfl (QOp.cmp rfl rfl rfl rfl) ?_
  refine ASeq.nil ?_
  refine ACode.seq ?_
  refine ACode.cond _ rfl (fun hb => ?_) (fun hb => ?_)
  · have hlt : k < l.length := by have := of_decide_eq_true hb; rw [hil] at this; omega
    have hget := ints_get hlt
    have hm := hl _ (List.getElem_mem hlt)
    have hs := hS d m l[k] τ okd (by rw [htd]; exact hw) (by rw [htd]; exact hw2) hm.1 (by rw [htd]; exact hm.2.2) hm.2.1 (by omega) (by omega) (by omega) (by omega)
    have hks := hK d l[k] okd
    rw [stmts_drop _ _ _ _ _ hlt] at hres
    generalize stm6 n d l[k] = d2 at hs hks hres
    refine ACode.skip (ACode.seq (ACode.block (ACode.seq (ACode.region ?_))))
    refine ASeq.q rfl rfl (QOp.move rfl rfl) ?_
    refine ASeq.q rfl rfl (QOp.assign rfl rfl) ?_
    refine ASeq.nil ?_
    refine ACode.seq ?_
    refine ACode.drawn [[], [], [], [1, 2], [1, 2, 3], [0, 1, 2, 3, 4], [0, 1, 2, 3, 4, 5]] (by kernel_rfl) mixed ?_
    refine DAny.ld 0 rfl rfl (by kernel_rfl) rfl (.does _ _ rfl (.none rfl) (QOp.loadM 6 rfl rfl rfl (tok _ rfl) rfl)) ?_
    refine DAny.qu 1 rfl rfl (by kernel_rfl) rfl (fun _ => .does _ _ rfl (.none rfl) (QOp.move rfl rfl)) ?_
    refine DAny.qu 2 rfl rfl (by kernel_rfl) rfl (fun _ => .does _ _ rfl (.none rfl) (QOp.move rfl rfl)) ?_
    refine DAny.qu 3 rfl rfl (by kernel_rfl) rfl (fun _ => .does _ _ rfl (.none rfl) (QOp.indexI rfl rfl rfl (tok _ rfl) rfl (tok _ rfl) (by omega) (by assumption))) ?_
    refine DAny.qu 4 rfl rfl (by kernel_rfl) rfl (fun _ => .does _ _ rfl (.none rfl) (QOp.loadI rfl rfl (tok _ rfl) rfl)) ?_
    refine DAny.ef 5 rfl (by kernel_rfl) (.none rfl) rfl rfl (AOp.callP 6 rfl (by kernel_rfl) rfl rfl rfl (hs) ?_ (by rintro _ _ ⟨⟩))
    rintro _ _ ⟨τ⟩
    refine ⟨(by ((exact AllQ.nil))), ?_⟩
    refine DAny.ef0 6 rfl (by kernel_rfl) (.none rfl) rfl rfl (AOp.storeP 6 rfl rfl rfl rfl (tok _ rfl) rfl rfl rfl rfl ⟨(by ((exact AllQ.nil))), ?_⟩)
    refine DAny.done (by kernel_rfl) ?_
    refine ACode.region ?_
    refine ASeq.q rfl rfl (QOp.move rfl rfl) ?_
    refine ASeq.q rfl rfl (QOp.fieldM rfl rfl (tok _ rfl) rfl rfl (by decide) rfl) ?_
    refine ASeq.op0 rfl rfl (AOp.storeP 6 rfl rfl rfl rfl (tok _ rfl) rfl rfl rfl rfl ?_)
    refine ASeq.nil ?_
    refine ACode.region ?_
    refine ASeq.q rfl rfl (QOp.ar64 rfl rfl rfl rfl ⟨by omega, by omega⟩) ?_
    refine ASeq.q rfl rfl (QOp.move rfl rfl) ?_
    refine ASeq.nil ?_
    refine AExit.then_normal ?_
    have hk2 : KeptS d { d2 with block := c.block + 1 } := { hks with block := hdb.symm, ok := fun k => { hks.ok k with } }
    exact ⟨(k + 1, { d2 with block := c.block + 1 }, _), 8, ⟨hlt, hkd.trans hk2, rfl, hres⟩, by dsimp only; omega, .cons rfl (.cons rfl (.cons rfl (.cons rfl (.cons rfl (.cons rfl (.cons rfl .nil)))))), rfl⟩
  · have hge : k = l.length := by have := of_decide_eq_false hb; rw [hil] at this; omega
    rw [hge, List.drop_length] at hres
    simp only [stmtsOf] at hres
    refine ACode.exit (ACode.seq (ACode.region ?_))
    refine ASeq.q rfl rfl (QOp.move rfl rfl) ?_
    refine ASeq.q rfl rfl (QOp.fieldM rfl rfl (tok _ rfl) rfl rfl (by decide) rfl) ?_
    refine ASeq.op0 rfl rfl (AOp.storeP 6 rfl rfl rfl rfl (tok _ rfl) rfl rfl rfl rfl ?_)
    refine ASeq.nil ?_
    refine ACode.seq (ACode.region ?_)
    refine ASeq.q rfl rfl (QOp.move rfl rfl) ?_
    refine ASeq.q rfl rfl (QOp.ar64 rfl rfl rfl rfl ⟨by omega, by omega⟩) ?_
    refine ASeq.q rfl rfl (QOp.fieldM rfl rfl (tok _ rfl) rfl rfl (by decide) rfl) ?_
    refine ASeq.op0 rfl rfl (AOp.storeP 6 rfl rfl rfl rfl (tok _ rfl) rfl rfl rfl rfl ?_)
    refine ASeq.nil ?_
    refine ACode.seq (ACode.region ?_)
    refine ASeq.q rfl rfl (QOp.loadM 6 rfl rfl rfl (tok _ rfl) rfl) ?_
    refine ASeq.op0 rfl rfl (AOp.storeP 7 rfl rfl rfl rfl (tok _ rfl) rfl rfl rfl rfl ?_)
    refine ASeq.nil ?_
    refine ACode.ret ?_
    refine bodyQ_ret 6 (.cell 7 rfl rfl (tok _ rfl) rfl .nil) rfl ?_
    have hbo : blockOf (stm6 n) c l = { d with names := c.names, block := c.block } := by unfold blockOf; rw [← hres]
    rw [hbo]
    refine RS.of τ ?_ rfl
    show _ = AV.agg (CS.cells { d with names := c.names, block := c.block } m)
    simp only [CS.cells]
    rw [show c.block + 1 - 1 = c.block by omega]
    rfl
end Go.Proofs.Ytaadamobapnfbaa
/- ref06: Stmt. -/
set_option linter.unusedVariables false
set_option linter.unusedSimpArgs false
set_option maxRecDepth 100000
namespace Go.Proofs.Ytaadamobapnfbaa
open Go Go.Abs
theorem vals_walk (c : CS) (m : Ms) (i : Int) (τ : Nat) (h : c.ok) (hw : TreeWf c.t) (h0 : 0 ≤ i) (h1 : i < c.t.exprs.length) :
    ACalls Try.prog 47 [.agg (c.cells m), vi i] (c.items m τ) (RV (.tup [.agg ((vals c i).1.cells m), vi (vals c i).2]) ((vals c i).1.items m τ)) := value_walk (exprs6 _) c m i τ h hw h0 h1 h1
theorem cells_setFunc (c : CS) (i n : Int) (m : Ms) : (c.setFunc i n).cells m = c.cells m := by simp [CS.cells, CS.setFunc]
theorem st_get {c : CS} {i : Int} (h0 : 0 ≤ i) (h1 : i < c.t.stmts.length) : (c.t.stmts.map St.cells)[i.toNat]? = some (c.stm i).cells := by
  have hl : i.toNat < c.t.stmts.length := by omega
  simp only [List.getElem?_map, CS.stm, List.getD_eq_getElem?_getD, List.getElem?_eq_getElem hl, Option.map_some, Option.getD_some]
theorem st_wf {c : CS} (hw : StsWf c.t) {i : Int} (h0 : 0 ≤ i) (h1 : i < c.t.stmts.length) : StWf c.t.exprs.length i.toNat (c.stm i) := by
  have hl : i.toNat < c.t.stmts.length := by omega
  refine hw _ _ ?_
  simp only [CS.stm, List.getD_eq_getElem?_getD, List.getElem?_eq_getElem hl, Option.getD_some]
theorem KeptS.setFunc (c : CS) (i n : Int) : KeptS c (c.setFunc i n) := ⟨rfl, rfl, rfl, rfl, rfl, rfl, rfl, by simp [CS.setFunc], rfl, Nat.le_refl _, fun h => { h with lf := by simpa [CS.setFunc] using h.lf }, fun _ _ => rfl⟩
theorem KeptS.setPut (c : CS) (i n : Int) : KeptS c (c.setPut i n) := ⟨rfl, rfl, rfl, rfl, rfl, rfl, by simp [CS.setPut], rfl, rfl, Nat.le_refl _, fun h => { h with lp := by simpa [CS.setPut] using h.lp }, fun _ _ => rfl⟩
theorem KeptS.case {g : CS → Int → CS} (hg : ∀ c i, c.ok → KeptS c (g c i)) (c : CS) (s : St) (h : c.ok) : KeptS c (stmtCase g c s).1 := by
  have hv := Kept.vals c s.a
  unfold stmtCase
  split
  · split
    · exact hv.toS
    · exact hv.toS.trans (.decl (hv.ok h) _ _ _)
  split
  · split
    · exact (Kept.need _ _ _ _).toS
    · exact (Kept.need _ _ _ _).toS.trans (.decl ((Kept.need _ _ _ _).ok h) _ _ _)
  split
  · split
    · exact hv.toS
    · split
      · exact (hv.trans ((Kept.slotOf _ _ _ _).trans (.need _ _ _ _))).toS
      · exact (hv.trans (Kept.slotOf _ _ _ _)).toS
  split
  · split
    · exact (hv.trans (Kept.vals _ _)).toS
    · exact ((hv.trans (Kept.vals _ _)).trans ((Kept.slotOf _ _ _ _).trans (.need _ _ _ _))).toS
  split
  · have h1 := (hv.trans (Kept.need _ ((vals c s.a).2 == 2) s.fr 8)).toS
    have h2 := h1.trans (KeptS.blockOf hg _ s.thn (h1.ok h))
    exact h2.trans (KeptS.blockOf hg _ s.els (h2.ok h))
  split
  · have ok1 : ({ (vals c s.a).1 with loops := c.loops + 1 } : CS).ok := { hv.ok h with }
    have h1 := (Kept.need { (vals c s.a).1 with loops := c.loops + 1 } ((vals c s.a).2 == 2) s.fr 8).toS
    have h2 := h1.trans (KeptS.blockOf hg _ s.thn (h1.ok ok1))
    exact ⟨h2.t.trans hv.t, h2.f.trans hv.f, h2.block.trans hv.block, rfl, h2.lt.trans hv.lt, h2.ls.trans hv.ls, h2.lp.trans (by rw [hv.put]), h2.lf.trans (by rw [hv.func]), h2.lS.trans (by rw [hv.slots]), Nat.le_trans (Nat.le_of_eq (by rw [← hv.cur]; rfl)) h2.cur, fun _ => { h2.ok ok1 with }, fun j hj => (h2.other j (by show j ≠ (vals c s.a).1.f.toNat; rw [hv.f]; exact hj)).trans (by show (vals c s.a).1.slots[j]? = _; rw [hv.slots])⟩
  split
  · exact (Kept.need _ _ _ _).toS
  split
  · split
    · exact (hv.trans (Kept.need _ _ _ _)).toS
    · exact (Kept.need _ _ _ _).toS
  split
  · exact hv.toS
  split
  · exact (Kept.expr6 _ _ _).toS
  · exact .refl c
theorem KeptS.putted {c : CS} {r : CS × Int} (h : KeptS c r.1) (i : Int) : KeptS c (putted r i) := by
  unfold Ytaadamobapnfbaa.putted
  split
  · exact h.trans (.setPut _ _ _)
  · exact h
theorem KeptS.stm6 : ∀ (n : Nat) (c : CS) (i : Int), c.ok → KeptS c (stm6 n c i)
  | 0, c, i, _ => .refl c
  | n + 1, c, i, h => by
    unfold Ytaadamobapnfbaa.stm6
    split
    · exact .refl c
    · have h1 := KeptS.setFunc c i c.f
      exact (h1.trans (KeptS.case (KeptS.stm6 n) _ _ (h1.ok h))).putted i
end Go.Proofs.Ytaadamobapnfbaa
/- ref06: Stmt, walked. -/
set_option linter.unusedVariables false
set_option linter.unusedSimpArgs false
set_option maxRecDepth 100000
namespace Go.Proofs.Ytaadamobapnfbaa
open Go Go.Abs
set_option maxHeartbeats 8000000 in
theorem stmt_walk6 (n : Nat) (hS : CStmt n) : CStmt (n + 1) := by
  intro c m i τ h hw hw2 h0 h1 hn hb0 hb1 hl0 hl1
  have hK := KeptS.stm6 n
  have hrow := st_get h0 h1
  have hwf := st_wf hw2 h0 h1
  have hf0 := h.f0
  have hf1 := h.f1
  have hlf := h.lf
  have hlp := h.lp
  have hbig := h.big
  have okd : (c.setFunc i c.f).ok := (KeptS.setFunc c i c.f).ok h
  have hmax : smax = 1099511627776 := rfl
  rw [← cells_setFunc c i c.f m]
  refine ACalls.of_code (c := _) Try.func33 rfl Try.ntmps33 (Nat.le_of_ble_eq_true rfl) ?_
  refine ACode.seq (ACode.region ?_)
  refine ASeq.op rfl rfl (AOp.boxP rfl rfl rfl (fun _ => rfl) (fun _ => ?_))
  refine ASeq.op rfl rfl (AOp.allocP rfl (tok _ rfl) rfl rfl (fun _ => rfl) (fun _ => ?_))
  refine ASeq.nil ?_
  rename_i m2 m4
  refine ACode.seq (ACode.seq (ACode.region ?_))
  refine ASeq.q rfl rfl (QOp.fieldM rfl rfl (tok _ rfl) rfl rfl (by decide) rfl) ?_
  refine ASeq.q rfl rfl (QOp.loadM 6 rfl rfl rfl (tok _ rfl) rfl) ?_
  refine ASeq.q rfl rfl (QOp.cmp rfl rfl rfl rfl) ?_
  refine ASeq.nil ?_
  refine AExit.then_normal ?_
  refine ACode.cond _ rfl (fun hb => ?_) (fun hb => ?_)
  · have hc : c.code ≠ 0 := by simpa [CS.setFunc] using hb
    refine ACode.seq (ACode.region ?_)
    refine ASeq.q rfl rfl (QOp.loadM 6 rfl rfl rfl (tok _ rfl) rfl) ?_
    refine ASeq.op0 rfl rfl (AOp.storeP 7 rfl rfl rfl rfl (tok _ rfl) rfl rfl rfl rfl ?_)
    refine ASeq.nil ?_
    refine ACode.ret (AExit.then_ret ?_)
    refine bodyQ_ret 6 (.cell 7 rfl rfl (tok _ rfl) rfl .nil) rfl ?_
    rw [show stm6 (n + 1) c i = c by unfold stm6; rw [if_pos hc]]
    exact RS.of τ (by rw [← cells_setFunc c i c.f m]; rfl) rfl
  have hc : c.code = 0 := by simpa [CS.setFunc] using hb
  have hgo : stm6 (n + 1) c i = putted (stmtCase (stm6 n) (c.setFunc i c.f) (c.stm i)) i := by rw [stm6, if_neg (fun h => h hc)]
  have hdl : (c.setFunc i c.f).func.length = c.func.length := by simp [CS.setFunc]
  generalize c.stm i = s at hrow hwf hgo
  refine ACode.skip (ACode.seq (ACode.region ?_))
  refine ASeq.q rfl rfl (QOp.fieldM rfl rfl (tok _ rfl) rfl rfl (by decide) rfl) ?_
  refine ASeq.q rfl rfl (QOp.fieldM rfl rfl (tok _ rfl) rfl rfl (by decide) rfl) ?_
  refine ASeq.q rfl rfl (QOp.loadM 6 rfl rfl rfl (tok _ rfl) rfl) ?_
  refine ASeq.q rfl rfl (QOp.move rfl rfl) ?_
  refine ASeq.q rfl rfl (QOp.indexI rfl rfl rfl (tok _ rfl) rfl (tok _ rfl) (by omega) (by assumption)) ?_
  refine ASeq.q rfl rfl (QOp.loadI rfl rfl (tok _ rfl) rfl) ?_
  refine ASeq.op rfl rfl (AOp.allocP rfl (tok _ rfl) rfl rfl (fun _ => rfl) (fun _ => ?_))
  refine ASeq.op0 rfl rfl (AOp.storeP 8 rfl rfl rfl rfl (tok _ rfl) rfl rfl rfl rfl ?_)
  refine ASeq.nil ?_
  rename_i m5
  refine ACode.seq (ACode.region ?_)
  refine ASeq.q rfl rfl (QOp.fieldM rfl rfl (tok _ rfl) rfl rfl (by decide) rfl) ?_
  refine ASeq.q rfl rfl (QOp.fieldM rfl rfl (tok _ rfl) rfl rfl (by decide) rfl) ?_
  refine ASeq.q rfl rfl (QOp.loadM 8 rfl rfl rfl (tok _ rfl) rfl) ?_
  refine ASeq.q rfl rfl (QOp.assign rfl rfl) ?_
  refine ASeq.nil ?_
  refine ACode.seq (ACode.region ?_)
  refine ASeq.q rfl rfl (QOp.fieldM rfl rfl (tok _ rfl) rfl rfl (by decide) rfl) ?_
  refine ASeq.q rfl rfl (QOp.fieldM rfl rfl (tok _ rfl) rfl rfl (by decide) rfl) ?_
  refine ASeq.q rfl rfl (QOp.loadM 6 rfl rfl rfl (tok _ rfl) rfl) ?_
  refine ASeq.q rfl rfl (QOp.move rfl rfl) ?_
  refine ASeq.q rfl rfl (QOp.fieldM rfl rfl (tok _ rfl) rfl rfl (by decide) rfl) ?_
  refine ASeq.q rfl rfl (QOp.loadM 6 rfl rfl rfl (tok _ rfl) rfl) ?_
  refine ASeq.q rfl rfl (QOp.indexM rfl rfl rfl (tok _ rfl) rfl (tok _ rfl) (by omega) (by omega) rfl) ?_
  refine ASeq.op0 rfl rfl (storeInt 3 (j := i.toNat) (l := c.func) rfl rfl rfl rfl (tok _ rfl) rfl (by show 0 + _ * 1 = _; omega) (by omega) rfl ?_)
  refine ASeq.nil ?_
  refine ACode.seq (ACode.region ?_)
  refine ASeq.q rfl rfl (QOp.assign rfl rfl) ?_
  refine ASeq.nil ?_
  generalize hr : stmtCase (stm6 n) (c.setFunc i c.f) s = r at hgo
  have hkr : KeptS (c.setFunc i c.f) r.1 := by rw [← hr]; exact .case hK _ _ okd
  refine ACode.meetA (fun _ : Nat => [(1, vi i), (2, .mp m2 0), (4, .mp m4 0), (7, vi r.2)]) (fun τ => r.1.items m τ ++ [.mu m2 (r.1.cells m), .mu m4 (List.map AV.v (TT 79).zero)]) (fun rest => ?_) ?_
  · have hval := fun (i' : Int) (h0' : 0 ≤ i') (h1' : i' < c.t.exprs.length) => vals_walk (c.setFunc i c.f) m i' τ okd hw h0' h1'
    have hkv := fun (i' : Int) => Kept.vals (c.setFunc i c.f) i'
    have hr2 := hr.symm
    unfold stmtCase at hr2
    refine ACode.seq (ACode.region ?_)
    refine ASeq.q rfl rfl (QOp.fieldM rfl rfl (tok _ rfl) rfl rfl (by decide) rfl) ?_
    refine ASeq.q rfl rfl (QOp.loadM 8 rfl rfl rfl (tok _ rfl) rfl) ?_
    refine ASeq.nil ?_
    refine ACode.block (ACode.seq (ACode.region ?_))
    refine ASeq.q rfl rfl (QOp.cmp rfl rfl rfl rfl) ?_
    refine ASeq.q rfl rfl (QOp.assign rfl rfl) ?_
    refine ASeq.nil ?_
    refine AExit.then_normal ?_
    refine ACode.cond _ rfl (fun hb => ?_) (fun hb => ?_)
    · have hk1 : s.kind = 1 := eq_of_beq hb
      rw [if_pos hk1] at hr2
      have hv := hval s.a (hwf.1 (.inl hk1)) (hwf.2.1 (by omega))
      have hkv := hkv s.a
      generalize vals (c.setFunc i c.f) s.a = v at hv hkv hr2
      have okv := hkv.ok okd
      refine ACode.seq (ACode.region ?_)
      refine ASeq.q rfl rfl (QOp.loadM 6 rfl rfl rfl (tok _ rfl) rfl) ?_
      refine ASeq.q rfl rfl (QOp.fieldM rfl rfl (tok _ rfl) rfl rfl (by decide) rfl) ?_
      refine ASeq.q rfl rfl (QOp.loadM 8 rfl rfl rfl (tok _ rfl) rfl) ?_
      refine ASeq.op rfl rfl (AOp.callP 6 rfl (by kernel_rfl) rfl rfl rfl (hv) ?_ (by rintro _ _ ⟨⟩))
      rintro _ _ ⟨⟩
      refine ASeq.q rfl rfl (QOp.move rfl rfl) ?_
      refine ASeq.q rfl rfl (QOp.extract rfl rfl rfl) ?_
      refine ASeq.q rfl rfl (QOp.extract rfl rfl rfl) ?_
      refine ASeq.op rfl rfl (AOp.allocP rfl (tok _ rfl) rfl rfl (fun _ => rfl) (fun _ => ?_))
      refine ASeq.op0 rfl rfl (AOp.storeP 9 rfl rfl rfl rfl (tok _ rfl) rfl rfl rfl rfl ?_)
      refine ASeq.q rfl rfl (QOp.assign rfl rfl) ?_
      refine ASeq.nil ?_
      refine ACode.seq (ACode.seq (ACode.region ?_))
      refine ASeq.q rfl rfl (QOp.fieldM rfl rfl (tok _ rfl) rfl rfl (by decide) rfl) ?_
      refine ASeq.q rfl rfl (QOp.loadM 9 rfl rfl rfl (tok _ rfl) rfl) ?_
      refine ASeq.q rfl rfl (QOp.cmp rfl rfl rfl rfl) ?_
      refine ASeq.nil ?_
      refine AExit.then_normal ?_
      refine ACode.cond _ rfl (fun hb => ?_) (fun hb => ?_)
      · have hcv : (v.1).code ≠ 0 := by simpa using hb
        rw [if_pos hcv] at hr2
        refine ACode.seq (ACode.region ?_)
        refine ASeq.q rfl rfl (QOp.loadM 9 rfl rfl rfl (tok _ rfl) rfl) ?_
        refine ASeq.op0 rfl rfl (AOp.storeP 7 rfl rfl rfl rfl (tok _ rfl) rfl rfl rfl rfl ?_)
        refine ASeq.nil ?_
        refine ACode.ret (AExit.then_ret (AExit.in_ret (AExit.then_ret ?_)))
        refine bodyQ_ret 6 (.cell 7 rfl rfl (tok _ rfl) rfl .nil) rfl ?_
        rw [hgo, hr2, show putted (v.1, -1) i = v.1 by unfold putted; rw [if_neg hcv]]
        exact RS.of τ rfl (by rfl)
      have hcv : ¬ v.1.code ≠ 0 := by simpa using hb
      rw [if_neg hcv] at hr2
      refine ACode.skip (ACode.region ?_)
      refine ASeq.q rfl rfl (QOp.loadM 9 rfl rfl rfl (tok _ rfl) rfl) ?_
      refine ASeq.q rfl rfl (QOp.fieldM rfl rfl (tok _ rfl) rfl rfl (by decide) rfl) ?_
      refine ASeq.q rfl rfl (QOp.loadM 8 rfl rfl rfl (tok _ rfl) rfl) ?_
      refine ASeq.q rfl rfl (QOp.move rfl rfl) ?_
      refine ASeq.q rfl rfl (QOp.move rfl rfl) ?_
      refine ASeq.op rfl rfl (AOp.callP 6 rfl (by kernel_rfl) rfl rfl rfl (declare_ok v.1 m okv s.name v.2 s.fr τ) ?_ (by rintro _ _ ⟨⟩))
      rintro _ _ ⟨τ⟩
      refine ASeq.q rfl rfl (QOp.move rfl rfl) ?_
      refine ASeq.q rfl rfl (QOp.extract rfl rfl rfl) ?_
      refine ASeq.q rfl rfl (QOp.extract rfl rfl rfl) ?_
      refine ASeq.op0 rfl rfl (AOp.storeP 6 rfl rfl rfl rfl (tok _ rfl) rfl rfl rfl rfl ?_)
      refine ASeq.q rfl rfl (QOp.assign rfl rfl) ?_
      refine ASeq.nil ?_
      subst hr2
      refine (rest τ).atP 8 ?_ ?_
      · exact .cons rfl (.cons rfl (.cons rfl (.cons rfl .nil)))
      · rfl
    have hk1 : ¬ s.kind = 1 := ne_of_beq_false hb
    rw [if_neg hk1] at hr2
    refine ACode.seq (ACode.region ?_)
    refine ASeq.q rfl rfl (QOp.cmp rfl rfl rfl rfl) ?_
    refine ASeq.q rfl rfl (QOp.assign rfl rfl) ?_
    refine ASeq.nil ?_
    refine AExit.then_normal ?_
    refine ACode.cond _ rfl (fun hb => ?_) (fun hb => ?_)
    · have hk2 : s.kind = 2 := eq_of_beq hb
      rw [if_pos hk2] at hr2
      have okx := (Kept.need (c.setFunc i c.f) (decide (s.num ≥ 1) && decide (s.num ≤ 64)) s.fr 15).ok okd
      have hdec := declare_ok ((c.setFunc i c.f).need (decide (s.num ≥ 1) && decide (s.num ≤ 64)) s.fr 15) m okx s.name 3 s.fr τ
      rw [items_need] at hdec
      refine ACode.seq (ACode.region ?_)
      refine ASeq.cut 9 [(1, vi i), (2, .mp m2 0), (4, .mp m4 0), (5, .mp m5 0), (6, vi s.fr), (67, .agg ((c.setFunc i c.f).cells m)), (75, .v (.bool (decide (s.num ≥ 1) && decide (s.num ≤ 64))))] (fun meet => ?_) ?_
      · refine ASeq.q rfl rfl (QOp.loadM 6 rfl rfl rfl (tok _ rfl) rfl) ?_
        refine ASeq.q rfl rfl (QOp.fieldM rfl rfl (tok _ rfl) rfl rfl (by decide) rfl) ?_
        refine ASeq.q rfl rfl (QOp.loadM 8 rfl rfl rfl (tok _ rfl) rfl) ?_
        refine ASeq.q rfl rfl (QOp.cmp rfl rfl rfl rfl) ?_
        refine ASeq.q rfl rfl (QOp.move rfl rfl) ?_
        refine ASeq.split 71 (decide (s.num ≥ 1)) rfl (fun hb => ?_) (fun hb => ?_)
        · refine ASeq.gq _ _ rfl rfl rfl rfl (QOp.fieldM rfl rfl (tok _ rfl) rfl rfl (by decide) rfl) ?_
          refine ASeq.gq _ _ rfl rfl rfl rfl (QOp.loadM 8 rfl rfl rfl (tok _ rfl) rfl) ?_
          refine ASeq.gq _ _ rfl rfl rfl rfl (QOp.cmp rfl rfl rfl rfl) ?_
          refine ASeq.q rfl rfl (QOp.pickT rfl rfl rfl) ?_
          exact meet.at_ (.cons rfl (.cons rfl (.cons rfl (.cons rfl (.cons rfl (.cons rfl (.consB (b := decide (s.num ≤ 64)) rfl (by rw [hb]; rfl) .nil)))))))
        · refine ASeq.gno _ _ rfl rfl rfl rfl rfl ?_
          refine ASeq.gno _ _ rfl rfl rfl rfl rfl ?_
          refine ASeq.gno _ _ rfl rfl rfl rfl rfl ?_
          refine ASeq.q rfl rfl (QOp.pickF rfl rfl rfl) ?_
          exact meet.at_ (.cons rfl (.cons rfl (.cons rfl (.cons rfl (.cons rfl (.cons rfl (.consB (b := false) rfl (by rw [hb]; rfl) .nil)))))))
      refine ASeq.q rfl rfl (QOp.move rfl rfl) ?_
      refine ASeq.op rfl rfl (AOp.callP 0 rfl (by kernel_rfl) rfl rfl rfl (need_ok (c.setFunc i c.f) m (decide (s.num ≥ 1) && decide (s.num ≤ 64)) s.fr 15) ?_ (by rintro _ _ ⟨⟩))
      rintro _ _ ⟨⟩
      refine ASeq.op0 rfl rfl (AOp.storeP 6 rfl rfl rfl rfl (tok _ rfl) rfl rfl rfl rfl ?_)
      refine ASeq.nil ?_
      refine ACode.seq (ACode.seq (ACode.region ?_))
      refine ASeq.q rfl rfl (QOp.fieldM rfl rfl (tok _ rfl) rfl rfl (by decide) rfl) ?_
      refine ASeq.q rfl rfl (QOp.loadM 6 rfl rfl rfl (tok _ rfl) rfl) ?_
      refine ASeq.q rfl rfl (QOp.cmp rfl rfl rfl rfl) ?_
      refine ASeq.nil ?_
      refine AExit.then_normal ?_
      refine ACode.cond _ rfl (fun hb => ?_) (fun hb => ?_)
      · have hcv : ((c.setFunc i c.f).need (decide (s.num ≥ 1) && decide (s.num ≤ 64)) s.fr 15).code ≠ 0 := by simpa using hb
        rw [if_pos hcv] at hr2
        refine ACode.seq (ACode.region ?_)
        refine ASeq.q rfl rfl (QOp.loadM 6 rfl rfl rfl (tok _ rfl) rfl) ?_
        refine ASeq.op0 rfl rfl (AOp.storeP 7 rfl rfl rfl rfl (tok _ rfl) rfl rfl rfl rfl ?_)
        refine ASeq.nil ?_
        refine ACode.ret (AExit.then_ret (AExit.in_ret (AExit.then_ret ?_)))
        refine bodyQ_ret 6 (.cell 7 rfl rfl (tok _ rfl) rfl .nil) rfl ?_
        rw [hgo, hr2, show putted ((c.setFunc i c.f).need (decide (s.num ≥ 1) && decide (s.num ≤ 64)) s.fr 15, -1) i = (c.setFunc i c.f).need (decide (s.num ≥ 1) && decide (s.num ≤ 64)) s.fr 15 by unfold putted; rw [if_neg hcv]]
        exact RS.of τ rfl (by rw [items_need]; rfl)
      have hcv : ¬ ((c.setFunc i c.f).need (decide (s.num ≥ 1) && decide (s.num ≤ 64)) s.fr 15).code ≠ 0 := by simpa using hb
      rw [if_neg hcv] at hr2
      refine ACode.skip (ACode.region ?_)
      refine ASeq.q rfl rfl (QOp.loadM 6 rfl rfl rfl (tok _ rfl) rfl) ?_
      refine ASeq.q rfl rfl (QOp.fieldM rfl rfl (tok _ rfl) rfl rfl (by decide) rfl) ?_
      refine ASeq.q rfl rfl (QOp.loadM 8 rfl rfl rfl (tok _ rfl) rfl) ?_
      refine ASeq.q rfl rfl (QOp.move rfl rfl) ?_
      refine ASeq.op rfl rfl (AOp.callP 6 rfl (by kernel_rfl) rfl rfl rfl (hdec) ?_ (by rintro _ _ ⟨⟩))
      rintro _ _ ⟨τ⟩
      refine ASeq.q rfl rfl (QOp.move rfl rfl) ?_
      refine ASeq.q rfl rfl (QOp.extract rfl rfl rfl) ?_
      refine ASeq.q rfl rfl (QOp.extract rfl rfl rfl) ?_
      refine ASeq.op0 rfl rfl (AOp.storeP 6 rfl rfl rfl rfl (tok _ rfl) rfl rfl rfl rfl ?_)
      refine ASeq.q rfl rfl (QOp.assign rfl rfl) ?_
      refine ASeq.nil ?_
      subst hr2
      refine (rest τ).atP 8 ?_ ?_
      · exact .cons rfl (.cons rfl (.cons rfl (.cons rfl .nil)))
      · rfl
    have hk2 : ¬ s.kind = 2 := ne_of_beq_false hb
    rw [if_neg hk2] at hr2
    refine ACode.seq (ACode.region ?_)
    refine ASeq.q rfl rfl (QOp.cmp rfl rfl rfl rfl) ?_
    refine ASeq.q rfl rfl (QOp.assign rfl rfl) ?_
    refine ASeq.nil ?_
    refine AExit.then_normal ?_
    refine ACode.cond _ rfl (fun hb => ?_) (fun hb => ?_)
    · have hk3 : s.kind = 3 := eq_of_beq hb
      rw [if_pos hk3] at hr2
      have hv := hval s.a (hwf.1 (.inr (.inl hk3))) (hwf.2.1 (by omega))
      have hkv := hkv s.a
      generalize vals (c.setFunc i c.f) s.a = v at hv hkv hr2
      have okv := hkv.ok okd
      have hfind := okv.find_lt s.name
      have hcurv := slotCells_cur okv τ
      have hvf0 := okv.f0
      have hvf1 := okv.f1
      refine ACode.seq (ACode.region ?_)
      refine ASeq.q rfl rfl (QOp.loadM 6 rfl rfl rfl (tok _ rfl) rfl) ?_
      refine ASeq.q rfl rfl (QOp.fieldM rfl rfl (tok _ rfl) rfl rfl (by decide) rfl) ?_
      refine ASeq.q rfl rfl (QOp.loadM 8 rfl rfl rfl (tok _ rfl) rfl) ?_
      refine ASeq.op rfl rfl (AOp.callP 6 rfl (by kernel_rfl) rfl rfl rfl (hv) ?_ (by rintro _ _ ⟨⟩))
      rintro _ _ ⟨⟩
      refine ASeq.q rfl rfl (QOp.move rfl rfl) ?_
      refine ASeq.q rfl rfl (QOp.extract rfl rfl rfl) ?_
      refine ASeq.q rfl rfl (QOp.extract rfl rfl rfl) ?_
      refine ASeq.op rfl rfl (AOp.allocP rfl (tok _ rfl) rfl rfl (fun _ => rfl) (fun _ => ?_))
      refine ASeq.op0 rfl rfl (AOp.storeP 9 rfl rfl rfl rfl (tok _ rfl) rfl rfl rfl rfl ?_)
      refine ASeq.q rfl rfl (QOp.assign rfl rfl) ?_
      refine ASeq.nil ?_
      refine ACode.seq (ACode.seq (ACode.region ?_))
      refine ASeq.q rfl rfl (QOp.fieldM rfl rfl (tok _ rfl) rfl rfl (by decide) rfl) ?_
      refine ASeq.q rfl rfl (QOp.loadM 9 rfl rfl rfl (tok _ rfl) rfl) ?_
      refine ASeq.q rfl rfl (QOp.cmp rfl rfl rfl rfl) ?_
      refine ASeq.nil ?_
      refine AExit.then_normal ?_
      refine ACode.cond _ rfl (fun hb => ?_) (fun hb => ?_)
      · have hcv : (v.1).code ≠ 0 := by simpa using hb
        rw [if_pos hcv] at hr2
        refine ACode.seq (ACode.region ?_)
        refine ASeq.q rfl rfl (QOp.loadM 9 rfl rfl rfl (tok _ rfl) rfl) ?_
        refine ASeq.op0 rfl rfl (AOp.storeP 7 rfl rfl rfl rfl (tok _ rfl) rfl rfl rfl rfl ?_)
        refine ASeq.nil ?_
        refine ACode.ret (AExit.then_ret (AExit.in_ret (AExit.then_ret ?_)))
        refine bodyQ_ret 6 (.cell 7 rfl rfl (tok _ rfl) rfl .nil) rfl ?_
        rw [hgo, hr2, show putted (v.1, -1) i = v.1 by unfold putted; rw [if_neg hcv]]
        exact RS.of τ rfl (by rfl)
      have hcv : ¬ v.1.code ≠ 0 := by simpa using hb
      rw [if_neg hcv] at hr2
      refine ACode.skip (ACode.seq (ACode.region ?_))
      refine ASeq.q rfl rfl (QOp.loadM 9 rfl rfl rfl (tok _ rfl) rfl) ?_
      refine ASeq.q rfl rfl (QOp.fieldM rfl rfl (tok _ rfl) rfl rfl (by decide) rfl) ?_
      refine ASeq.q rfl rfl (QOp.loadM 8 rfl rfl rfl (tok _ rfl) rfl) ?_
      refine ASeq.q rfl rfl (QOp.move rfl rfl) ?_
      refine ASeq.op rfl rfl (AOp.callP 6 rfl (by kernel_rfl) rfl rfl rfl (slot_ok v.1 m okv s.name false s.fr τ) ?_ (by rintro _ _ ⟨⟩))
      rintro _ _ ⟨⟩
      refine ASeq.q rfl rfl (QOp.move rfl rfl) ?_
      refine ASeq.q rfl rfl (QOp.extract rfl rfl rfl) ?_
      refine ASeq.q rfl rfl (QOp.extract rfl rfl rfl) ?_
      refine ASeq.op0 rfl rfl (AOp.storeP 6 rfl rfl rfl rfl (tok _ rfl) rfl rfl rfl rfl ?_)
      refine ASeq.q rfl rfl (QOp.assign rfl rfl) ?_
      refine ASeq.nil ?_
      refine ACode.seq (ACode.region ?_)
      refine ASeq.q rfl rfl (QOp.fieldM rfl rfl (tok _ rfl) rfl rfl (by decide) rfl) ?_
      refine ASeq.q rfl rfl (QOp.loadM 6 rfl rfl rfl (tok _ rfl) rfl) ?_
      refine ASeq.q rfl rfl (QOp.cmp rfl rfl rfl rfl) ?_
      refine ASeq.nil ?_
      refine AExit.then_normal ?_
      refine ACode.cond _ rfl (fun hb => ?_) (fun hb => ?_)
      · have hcode : (v.1.slotOf s.name false s.fr).1.code = 0 := eq_of_beq hb
        have hok := ((need_code v.1 (v.1.slotOk (v.1.find s.name) false) s.fr 6 (by decide)).1 hcode).2
        have hsame : (v.1.slotOf s.name false s.fr).1 = v.1 := by unfold CS.slotOf; rw [hok, need_same]
        have hN0 : 0 ≤ (v.1.slotOf s.name false s.fr).2 := by
          unfold CS.slotOk at hok
          rw [Bool.and_eq_true] at hok
          exact of_decide_eq_true hok.1
        have hN1 : (v.1.slotOf s.name false s.fr).2 < v.1.cur.length := by
          rcases hfind with h' | h'
          · exact absurd hN0 (by show ¬ 0 ≤ v.1.find s.name; omega)
          · exact h'
        have hget := cur_get (c := v.1) hN0 hN1
        rw [if_pos hcode, hsame] at hr2
        rw [hsame]
        refine ACode.drawn [[], [], [], [2], [2, 3], [], [5], [2, 3, 4, 5, 6], [2, 3, 4, 5, 6, 7], [], [2, 3, 4, 5, 6, 7, 8, 9], [2, 3, 4, 5, 6, 7, 8, 9, 10], [1, 2, 3, 4, 5, 6, 7, 8, 9, 10, 11], [], [0, 1, 2, 3, 4, 5, 6, 7, 8, 9, 10, 11, 12, 13], [0, 1, 2, 3, 4, 5, 6, 7, 8, 9, 10, 11, 12, 13, 14]] (by kernel_rfl) mixed ?_
        refine DAny.ld 0 rfl rfl (by kernel_rfl) rfl (.does _ _ rfl (.none rfl) (QOp.loadM 6 rfl rfl rfl (tok _ rfl) rfl)) ?_
        refine DAny.qu 1 rfl rfl (by kernel_rfl) rfl (fun _ => .does _ _ rfl (.none rfl) (QOp.move rfl rfl)) ?_
        refine DAny.qu 2 rfl rfl (by kernel_rfl) rfl (fun _ => .does _ _ rfl (.none rfl) (QOp.fieldM rfl rfl (tok _ rfl) rfl rfl (by decide) rfl)) ?_
        refine DAny.qu 3 rfl rfl (by kernel_rfl) rfl (fun _ => .does _ _ rfl (.none rfl) (QOp.fieldM rfl rfl (tok _ rfl) rfl rfl (by decide) rfl)) ?_
        refine DAny.ld 4 rfl rfl (by kernel_rfl) rfl (.does _ _ rfl (.none rfl) (QOp.loadM 6 rfl rfl rfl (tok _ rfl) rfl)) ?_
        refine DAny.qu 5 rfl rfl (by kernel_rfl) rfl (fun _ => .does _ _ rfl (.none rfl) (QOp.fieldM rfl rfl (tok _ rfl) rfl rfl (by decide) rfl)) ?_
        refine DAny.ld 6 rfl rfl (by kernel_rfl) rfl (.does _ _ rfl (.none rfl) (QOp.loadM 6 rfl rfl rfl (tok _ rfl) rfl)) ?_
        refine DAny.qu 7 rfl rfl (by kernel_rfl) rfl (fun _ => .does _ _ rfl (.none rfl) (QOp.indexM rfl rfl rfl (tok _ rfl) rfl (tok _ rfl) (by omega) (by omega) rfl)) ?_
        refine DAny.ld 8 rfl rfl (by kernel_rfl) rfl (.does _ _ rfl (.none rfl) (QOp.loadAt 4 rfl rfl rfl (tok _ rfl) rfl (by assumption))) ?_
        refine DAny.qu 9 rfl rfl (by kernel_rfl) rfl (fun _ => .does _ _ rfl (.none rfl) (QOp.move rfl rfl)) ?_
        refine DAny.qu 10 rfl rfl (by kernel_rfl) rfl (fun _ => .does _ _ rfl (.none rfl) (QOp.indexI rfl rfl rfl (tok _ rfl) rfl (tok _ rfl) (by omega) (by assumption))) ?_
        refine DAny.qu 11 rfl rfl (by kernel_rfl) rfl (fun _ => .does _ _ rfl (.none rfl) (QOp.loadI rfl rfl (tok _ rfl) rfl)) ?_
        refine DAny.qu 12 rfl rfl (by kernel_rfl) rfl (fun _ => .does _ _ rfl (.none rfl) (QOp.cmp rfl rfl rfl rfl)) ?_
        refine DAny.qu 13 rfl rfl (by kernel_rfl) rfl (fun _ => .does _ _ rfl (.none rfl) (QOp.move rfl rfl)) ?_
        refine DAny.ef 14 rfl (by kernel_rfl) (.none rfl) rfl rfl (AOp.callP 0 rfl (by kernel_rfl) rfl rfl rfl (need_ok v.1 m _ s.fr 8) ?_ (by rintro _ _ ⟨⟩))
        rintro _ _ ⟨⟩
        refine ⟨(by ((exact AllQ.nil))), ?_⟩
        refine DAny.ef0 15 rfl (by kernel_rfl) (.none rfl) rfl rfl (AOp.storeP 6 rfl rfl rfl rfl (tok _ rfl) rfl rfl rfl rfl ⟨(by ((exact AllQ.nil))), ?_⟩)
        refine DAny.done (by kernel_rfl) ?_
        subst hr2
        refine (rest τ).atP 8 ?_ ?_
        · exact .cons rfl (.cons rfl (.cons rfl (.cons rfl .nil)))
        · rw [items_need]; rfl
      · have hcode : ¬ (v.1.slotOf s.name false s.fr).1.code = 0 := ne_of_beq_false hb
        rw [if_neg hcode] at hr2
        refine ACode.skip ?_
        subst hr2
        refine (rest τ).atP 8 ?_ ?_
        · exact .cons rfl (.cons rfl (.cons rfl (.cons rfl .nil)))
        · rw [items_slot]; rfl
    have hk3 : ¬ s.kind = 3 := ne_of_beq_false hb
    rw [if_neg hk3] at hr2
    refine ACode.seq (ACode.region ?_)
    refine ASeq.q rfl rfl (QOp.cmp rfl rfl rfl rfl) ?_
    refine ASeq.q rfl rfl (QOp.assign rfl rfl) ?_
    refine ASeq.nil ?_
    refine AExit.then_normal ?_
    refine ACode.cond _ rfl (fun hb => ?_) (fun hb => ?_)
    · have hk4 : s.kind = 4 := eq_of_beq hb
      rw [if_pos hk4] at hr2
      have hv := hval s.a (hwf.1 (.inr (.inr (.inl hk4)))) (hwf.2.1 (by omega))
      have hkv := hkv s.a
      have hbb := hwf.2.2.1 hk4
      generalize vals (c.setFunc i c.f) s.a = v at hv hkv hr2
      have okv := hkv.ok okd
      have htv : v.1.t = c.t := hkv.t
      have hv2 := vals_walk v.1 m s.b τ okv (by rw [htv]; exact hw) hbb.1 (by rw [htv]; exact hbb.2)
      have hkw := Kept.vals v.1 s.b
      generalize vals v.1 s.b = w at hv2 hkw hr2
      have okw := hkw.ok okv
      refine ACode.seq (ACode.region ?_)
      refine ASeq.q rfl rfl (QOp.loadM 6 rfl rfl rfl (tok _ rfl) rfl) ?_
      refine ASeq.q rfl rfl (QOp.fieldM rfl rfl (tok _ rfl) rfl rfl (by decide) rfl) ?_
      refine ASeq.q rfl rfl (QOp.loadM 8 rfl rfl rfl (tok _ rfl) rfl) ?_
      refine ASeq.op rfl rfl (AOp.callP 6 rfl (by kernel_rfl) rfl rfl rfl (hv) ?_ (by rintro _ _ ⟨⟩))
      rintro _ _ ⟨⟩
      refine ASeq.q rfl rfl (QOp.move rfl rfl) ?_
      refine ASeq.q rfl rfl (QOp.extract rfl rfl rfl) ?_
      refine ASeq.q rfl rfl (QOp.extract rfl rfl rfl) ?_
      refine ASeq.op rfl rfl (AOp.allocP rfl (tok _ rfl) rfl rfl (fun _ => rfl) (fun _ => ?_))
      refine ASeq.op0 rfl rfl (AOp.storeP 9 rfl rfl rfl rfl (tok _ rfl) rfl rfl rfl rfl ?_)
      refine ASeq.q rfl rfl (QOp.assign rfl rfl) ?_
      refine ASeq.nil ?_
      refine ACode.seq (ACode.region ?_)
      refine ASeq.q rfl rfl (QOp.loadM 9 rfl rfl rfl (tok _ rfl) rfl) ?_
      refine ASeq.q rfl rfl (QOp.fieldM rfl rfl (tok _ rfl) rfl rfl (by decide) rfl) ?_
      refine ASeq.q rfl rfl (QOp.loadM 8 rfl rfl rfl (tok _ rfl) rfl) ?_
      refine ASeq.op rfl rfl (AOp.callP 6 rfl (by kernel_rfl) rfl rfl rfl (hv2) ?_ (by rintro _ _ ⟨⟩))
      rintro _ _ ⟨⟩
      refine ASeq.q rfl rfl (QOp.move rfl rfl) ?_
      refine ASeq.q rfl rfl (QOp.extract rfl rfl rfl) ?_
      refine ASeq.q rfl rfl (QOp.extract rfl rfl rfl) ?_
      refine ASeq.op rfl rfl (AOp.allocP rfl (tok _ rfl) rfl rfl (fun _ => rfl) (fun _ => ?_))
      refine ASeq.op0 rfl rfl (AOp.storeP 10 rfl rfl rfl rfl (tok _ rfl) rfl rfl rfl rfl ?_)
      refine ASeq.q rfl rfl (QOp.assign rfl rfl) ?_
      refine ASeq.nil ?_
      refine ACode.seq (ACode.seq (ACode.region ?_))
      refine ASeq.q rfl rfl (QOp.fieldM rfl rfl (tok _ rfl) rfl rfl (by decide) rfl) ?_
      refine ASeq.q rfl rfl (QOp.loadM 10 rfl rfl rfl (tok _ rfl) rfl) ?_
      refine ASeq.q rfl rfl (QOp.cmp rfl rfl rfl rfl) ?_
      refine ASeq.nil ?_
      refine AExit.then_normal ?_
      refine ACode.cond _ rfl (fun hb => ?_) (fun hb => ?_)
      · have hcv : (w.1).code ≠ 0 := by simpa using hb
        rw [if_pos hcv] at hr2
        refine ACode.seq (ACode.region ?_)
        refine ASeq.q rfl rfl (QOp.loadM 10 rfl rfl rfl (tok _ rfl) rfl) ?_
        refine ASeq.op0 rfl rfl (AOp.storeP 7 rfl rfl rfl rfl (tok _ rfl) rfl rfl rfl rfl ?_)
        refine ASeq.nil ?_
        refine ACode.ret (AExit.then_ret (AExit.in_ret (AExit.then_ret ?_)))
        refine bodyQ_ret 6 (.cell 7 rfl rfl (tok _ rfl) rfl .nil) rfl ?_
        rw [hgo, hr2, show putted (w.1, -1) i = w.1 by unfold putted; rw [if_neg hcv]]
        exact RS.of τ rfl (by rfl)
      have hcv : ¬ w.1.code ≠ 0 := by simpa using hb
      rw [if_neg hcv] at hr2
      refine ACode.skip (ACode.seq (ACode.region ?_))
      refine ASeq.q rfl rfl (QOp.loadM 10 rfl rfl rfl (tok _ rfl) rfl) ?_
      refine ASeq.q rfl rfl (QOp.fieldM rfl rfl (tok _ rfl) rfl rfl (by decide) rfl) ?_
      refine ASeq.q rfl rfl (QOp.loadM 8 rfl rfl rfl (tok _ rfl) rfl) ?_
      refine ASeq.q rfl rfl (QOp.move rfl rfl) ?_
      refine ASeq.op rfl rfl (AOp.callP 6 rfl (by kernel_rfl) rfl rfl rfl (slot_ok w.1 m okw s.name true s.fr τ) ?_ (by rintro _ _ ⟨⟩))
      rintro _ _ ⟨⟩
      refine ASeq.q rfl rfl (QOp.move rfl rfl) ?_
      refine ASeq.q rfl rfl (QOp.extract rfl rfl rfl) ?_
      refine ASeq.q rfl rfl (QOp.extract rfl rfl rfl) ?_
      refine ASeq.op0 rfl rfl (AOp.storeP 6 rfl rfl rfl rfl (tok _ rfl) rfl rfl rfl rfl ?_)
      refine ASeq.q rfl rfl (QOp.assign rfl rfl) ?_
      refine ASeq.nil ?_
      refine ACode.region ?_
      refine ASeq.q rfl rfl (QOp.loadM 6 rfl rfl rfl (tok _ rfl) rfl) ?_
      refine ASeq.q rfl rfl (QOp.move rfl rfl) ?_
      refine ASeq.q rfl rfl (QOp.cmp rfl rfl rfl rfl) ?_
      refine ASeq.q rfl rfl (QOp.move rfl rfl) ?_
      refine ASeq.split 160 (v.2 == 1) rfl (fun hb => ?_) (fun hb => ?_)
      · rw [hb, Bool.true_and] at hr2
        refine ASeq.gq _ _ rfl rfl rfl rfl (QOp.move rfl rfl) ?_
        refine ASeq.gq _ _ rfl rfl rfl rfl (QOp.cmp rfl rfl rfl rfl) ?_
        refine ASeq.q rfl rfl (QOp.pickT rfl rfl rfl) ?_
        refine ASeq.q rfl rfl (QOp.move rfl rfl) ?_
        refine ASeq.op rfl rfl (AOp.callP 0 rfl (by kernel_rfl) rfl rfl rfl (need_ok _ m _ s.fr 8) ?_ (by rintro _ _ ⟨⟩))
        rintro _ _ ⟨⟩
        refine ASeq.op0 rfl rfl (AOp.storeP 6 rfl rfl rfl rfl (tok _ rfl) rfl rfl rfl rfl ?_)
        refine ASeq.nil ?_
        subst hr2
        refine (rest τ).atP 8 ?_ ?_
        · exact .cons rfl (.cons rfl (.cons rfl (.cons rfl .nil)))
        · rw [items_need, items_slot]; rfl
      · rw [hb, Bool.false_and] at hr2
        refine ASeq.gno _ _ rfl rfl rfl rfl rfl ?_
        refine ASeq.gno _ _ rfl rfl rfl rfl rfl ?_
        refine ASeq.q rfl rfl (QOp.pickF rfl rfl rfl) ?_
        refine ASeq.q rfl rfl (QOp.move rfl rfl) ?_
        refine ASeq.op rfl rfl (AOp.callP 0 rfl (by kernel_rfl) rfl rfl rfl (need_ok _ m _ s.fr 8) ?_ (by rintro _ _ ⟨⟩))
        rintro _ _ ⟨⟩
        refine ASeq.op0 rfl rfl (AOp.storeP 6 rfl rfl rfl rfl (tok _ rfl) rfl rfl rfl rfl ?_)
        refine ASeq.nil ?_
        subst hr2
        refine (rest τ).atP 8 ?_ ?_
        · exact .cons rfl (.cons rfl (.cons rfl (.cons rfl .nil)))
        · rw [items_need, items_slot]; rfl
    have hk4 : ¬ s.kind = 4 := ne_of_beq_false hb
    rw [if_neg hk4] at hr2
    refine ACode.seq (ACode.region ?_)
    refine ASeq.q rfl rfl (QOp.cmp rfl rfl rfl rfl) ?_
    refine ASeq.q rfl rfl (QOp.assign rfl rfl) ?_
    refine ASeq.nil ?_
    refine AExit.then_normal ?_
    refine ACode.cond _ rfl (fun hb => ?_) (fun hb => ?_)
    · have hk5 : s.kind = 5 := eq_of_beq hb
      rw [if_pos hk5] at hr2
      have hv := hval s.a (hwf.1 (.inr (.inr (.inr (.inl hk5))))) (hwf.2.1 (by omega))
      have hkv := hkv s.a
      generalize vals (c.setFunc i c.f) s.a = v at hv hkv hr2
      have okv := hkv.ok okd
      have hkx := hkv.trans (Kept.need v.1 (v.2 == 2) s.fr 8)
      have okx := hkx.ok okd
      have htx : (v.1.need (v.2 == 2) s.fr 8).t = c.t := hkx.t
      have hbx : (v.1.need (v.2 == 2) s.fr 8).block = c.block := hkx.block
      have hlx : (v.1.need (v.2 == 2) s.fr 8).loops = c.loops := hkx.loops
      have hblk := block_walk6 hS hK (v.1.need (v.2 == 2) s.fr 8) m s.thn τ okx (by rw [htx]; exact hw) (by rw [htx]; exact hw2)
        (fun k hk => by have := hwf.2.2.2.1 k hk; rw [htx]; omega) hwf.2.2.2.2.2.1 (by rw [hbx]; exact hb0) (by rw [hbx]; omega) (by rw [hlx]; exact hl0) (by rw [hlx]; omega)
      rw [items_need] at hblk
      have hk1' := KeptS.blockOf hK (v.1.need (v.2 == 2) s.fr 8) s.thn okx
      generalize blockOf (stm6 n) (v.1.need (v.2 == 2) s.fr 8) s.thn = y at hblk hk1' hr2
      have oky := hk1'.ok okx
      have hty : y.t = c.t := hk1'.t.trans htx
      have hby : y.block = c.block := hk1'.block.trans hbx
      have hly : y.loops = c.loops := hk1'.loops.trans hlx
      have hblk2 := fun τ' => block_walk6 hS hK y m s.els τ' oky (by rw [hty]; exact hw) (by rw [hty]; exact hw2)
        (fun k hk => by have := hwf.2.2.2.2.1 k hk; rw [hty]; omega) hwf.2.2.2.2.2.2 (by rw [hby]; exact hb0) (by rw [hby]; omega) (by rw [hly]; exact hl0) (by rw [hly]; omega)
      refine ACode.seq (ACode.region ?_)
      refine ASeq.q rfl rfl (QOp.loadM 6 rfl rfl rfl (tok _ rfl) rfl) ?_
      refine ASeq.q rfl rfl (QOp.fieldM rfl rfl (tok _ rfl) rfl rfl (by decide) rfl) ?_
      refine ASeq.q rfl rfl (QOp.loadM 8 rfl rfl rfl (tok _ rfl) rfl) ?_
      refine ASeq.op rfl rfl (AOp.callP 6 rfl (by kernel_rfl) rfl rfl rfl (hv) ?_ (by rintro _ _ ⟨⟩))
      rintro _ _ ⟨⟩
      refine ASeq.q rfl rfl (QOp.move rfl rfl) ?_
      refine ASeq.q rfl rfl (QOp.extract rfl rfl rfl) ?_
      refine ASeq.q rfl rfl (QOp.extract rfl rfl rfl) ?_
      refine ASeq.op rfl rfl (AOp.allocP rfl (tok _ rfl) rfl rfl (fun _ => rfl) (fun _ => ?_))
      refine ASeq.op0 rfl rfl (AOp.storeP 9 rfl rfl rfl rfl (tok _ rfl) rfl rfl rfl rfl ?_)
      refine ASeq.q rfl rfl (QOp.assign rfl rfl) ?_
      refine ASeq.nil ?_
      refine ACode.seq ?_
      refine ACode.drawn [[], [], [1], [], [0, 1, 2, 3], [], [5], [0, 1, 2, 3, 4, 5, 6], [0, 1, 2, 3, 4, 5, 6, 7]] (by kernel_rfl) mixed ?_
      refine DAny.ld 0 rfl rfl (by kernel_rfl) rfl (.does _ _ rfl (.none rfl) (QOp.loadM 9 rfl rfl rfl (tok _ rfl) rfl)) ?_
      refine DAny.qu 1 rfl rfl (by kernel_rfl) rfl (fun _ => .does _ _ rfl (.none rfl) (QOp.move rfl rfl)) ?_
      refine DAny.qu 2 rfl rfl (by kernel_rfl) rfl (fun _ => .does _ _ rfl (.none rfl) (QOp.cmp rfl rfl rfl rfl)) ?_
      refine DAny.qu 3 rfl rfl (by kernel_rfl) rfl (fun _ => .does _ _ rfl (.none rfl) (QOp.move rfl rfl)) ?_
      refine DAny.qu 5 rfl rfl (by kernel_rfl) rfl (fun _ => .does _ _ rfl (.none rfl) (QOp.fieldM rfl rfl (tok _ rfl) rfl rfl (by decide) rfl)) ?_
      refine DAny.ld 6 rfl rfl (by kernel_rfl) rfl (.does _ _ rfl (.none rfl) (QOp.loadM 8 rfl rfl rfl (tok _ rfl) rfl)) ?_
      refine DAny.ef 4 rfl (by kernel_rfl) (.none rfl) rfl rfl (AOp.callP 0 rfl (by kernel_rfl) rfl rfl rfl (need_ok v.1 m (v.2 == 2) s.fr 8) ?_ (by rintro _ _ ⟨⟩))
      rintro _ _ ⟨⟩
      refine ⟨(by ((refine AllQ.cons (.does _ _ rfl (.none rfl) (QOp.loadM 8 rfl rfl rfl (tok _ rfl) rfl)) ?_); (exact AllQ.nil))), ?_⟩
      refine DAny.ef 7 rfl (by kernel_rfl) (.none rfl) rfl rfl (AOp.callP 6 rfl (by kernel_rfl) rfl rfl rfl (hblk) ?_ (by rintro _ _ ⟨⟩))
      rintro _ _ ⟨τ⟩
      refine ⟨(by ((exact AllQ.nil))), ?_⟩
      refine DAny.ef0 8 rfl (by kernel_rfl) (.none rfl) rfl rfl (AOp.storeP 6 rfl rfl rfl rfl (tok _ rfl) rfl rfl rfl rfl ⟨(by ((exact AllQ.nil))), ?_⟩)
      refine DAny.done (by kernel_rfl) ?_
      refine ACode.region ?_
      refine ASeq.q rfl rfl (QOp.loadM 6 rfl rfl rfl (tok _ rfl) rfl) ?_
      refine ASeq.q rfl rfl (QOp.fieldM rfl rfl (tok _ rfl) rfl rfl (by decide) rfl) ?_
      refine ASeq.q rfl rfl (QOp.loadM 8 rfl rfl rfl (tok _ rfl) rfl) ?_
      refine ASeq.op rfl rfl (AOp.callP 6 rfl (by kernel_rfl) rfl rfl rfl (hblk2 _) ?_ (by rintro _ _ ⟨⟩))
      rintro _ _ ⟨τ⟩
      refine ASeq.op0 rfl rfl (AOp.storeP 6 rfl rfl rfl rfl (tok _ rfl) rfl rfl rfl rfl ?_)
      refine ASeq.nil ?_
      subst hr2
      refine (rest τ).atP 8 ?_ ?_
      · exact .cons rfl (.cons rfl (.cons rfl (.cons rfl .nil)))
      · rfl
    have hk5 : ¬ s.kind = 5 := ne_of_beq_false hb
    rw [if_neg hk5] at hr2
    refine ACode.seq (ACode.region ?_)
    refine ASeq.q rfl rfl (QOp.cmp rfl rfl rfl rfl) ?_
    refine ASeq.q rfl rfl (QOp.assign rfl rfl) ?_
    refine ASeq.nil ?_
    refine AExit.then_normal ?_
    refine ACode.cond _ rfl (fun hb => ?_) (fun hb => ?_)
    · have hk6 : s.kind = 6 := eq_of_beq hb
      rw [if_pos hk6] at hr2
      have hv := hval s.a (hwf.1 (.inr (.inr (.inr (.inr (.inl hk6)))))) (hwf.2.1 (by omega))
      have hkv := hkv s.a
      generalize vals (c.setFunc i c.f) s.a = v at hv hkv hr2
      have okv := hkv.ok okd
      have hvl : v.1.loops = (c.setFunc i c.f).loops := hkv.loops
      rw [← hvl] at hr2
      have okl : ({ v.1 with loops := v.1.loops + 1 } : CS).ok := { okv with }
      have hkx := Kept.need { v.1 with loops := v.1.loops + 1 } (v.2 == 2) s.fr 8
      have okx := hkx.ok okl
      have hnd := need_ok { v.1 with loops := v.1.loops + 1 } m (v.2 == 2) s.fr 8
      have hit := items_need { v.1 with loops := v.1.loops + 1 } (v.2 == 2) s.fr 8 m τ
      generalize hx : CS.need { v.1 with loops := v.1.loops + 1 } (v.2 == 2) s.fr 8 = x at hkx okx hnd hit hr2
      have htx : x.t = c.t := hkx.t.trans hkv.t
      have hbx : x.block = c.block := hkx.block.trans hkv.block
      have hlx : x.loops = c.loops + 1 := by rw [hkx.loops]; show v.1.loops + 1 = c.loops + 1; rw [hvl]; rfl
      have hblk := block_walk6 hS hK x m s.thn τ okx (by rw [htx]; exact hw) (by rw [htx]; exact hw2)
        (fun k hk => by have := hwf.2.2.2.1 k hk; rw [htx]; omega) hwf.2.2.2.2.2.1 (by rw [hbx]; exact hb0) (by rw [hbx]; omega) (by rw [hlx]; omega) (by rw [hlx]; omega)
      rw [hit] at hblk
      have hk1' := KeptS.blockOf hK x s.thn okx
      generalize blockOf (stm6 n) x s.thn = y at hblk hk1' hr2
      have hly : y.loops = c.loops + 1 := hk1'.loops.trans hlx
      have hvc : v.1.loops = c.loops := hvl
      rw [hvc] at hr2
      have hlv : v.1.loops + 1 ≤ smax := by rw [hvc]; omega
      have hlv0 : 0 ≤ v.1.loops := by rw [hvc]; exact hl0
      refine ACode.seq (ACode.region ?_)
      refine ASeq.q rfl rfl (QOp.loadM 6 rfl rfl rfl (tok _ rfl) rfl) ?_
      refine ASeq.q rfl rfl (QOp.fieldM rfl rfl (tok _ rfl) rfl rfl (by decide) rfl) ?_
      refine ASeq.q rfl rfl (QOp.loadM 8 rfl rfl rfl (tok _ rfl) rfl) ?_
      refine ASeq.op rfl rfl (AOp.callP 6 rfl (by kernel_rfl) rfl rfl rfl (hv) ?_ (by rintro _ _ ⟨⟩))
      rintro _ _ ⟨⟩
      refine ASeq.q rfl rfl (QOp.move rfl rfl) ?_
      refine ASeq.q rfl rfl (QOp.extract rfl rfl rfl) ?_
      refine ASeq.q rfl rfl (QOp.extract rfl rfl rfl) ?_
      refine ASeq.op rfl rfl (AOp.allocP rfl (tok _ rfl) rfl rfl (fun _ => rfl) (fun _ => ?_))
      refine ASeq.op0 rfl rfl (AOp.storeP 9 rfl rfl rfl rfl (tok _ rfl) rfl rfl rfl rfl ?_)
      refine ASeq.q rfl rfl (QOp.assign rfl rfl) ?_
      refine ASeq.nil ?_
      refine ACode.seq (ACode.region ?_)
      refine ASeq.q rfl rfl (QOp.fieldM rfl rfl (tok _ rfl) rfl rfl (by decide) rfl) ?_
      refine ASeq.q rfl rfl (QOp.loadM 9 rfl rfl rfl (tok _ rfl) rfl) ?_
      refine ASeq.q rfl rfl (QOp.ar64 rfl rfl rfl rfl ⟨by omega, by omega⟩) ?_
      refine ASeq.q rfl rfl (QOp.fieldM rfl rfl (tok _ rfl) rfl rfl (by decide) rfl) ?_
      refine ASeq.op0 rfl rfl (AOp.storeP 9 rfl rfl rfl rfl (tok _ rfl) rfl rfl rfl rfl ?_)
      refine ASeq.nil ?_
      refine ACode.seq ?_
      refine ACode.drawn [[], [], [1], [], [0, 1, 2, 3], [], [5], [0, 1, 2, 3, 4, 5, 6], [0, 1, 2, 3, 4, 5, 6, 7]] (by kernel_rfl) mixed ?_
      refine DAny.ld 0 rfl rfl (by kernel_rfl) rfl (.does _ _ rfl (.none rfl) (QOp.loadM 9 rfl rfl rfl (tok _ rfl) rfl)) ?_
      refine DAny.qu 1 rfl rfl (by kernel_rfl) rfl (fun _ => .does _ _ rfl (.none rfl) (QOp.move rfl rfl)) ?_
      refine DAny.qu 2 rfl rfl (by kernel_rfl) rfl (fun _ => .does _ _ rfl (.none rfl) (QOp.cmp rfl rfl rfl rfl)) ?_
      refine DAny.qu 3 rfl rfl (by kernel_rfl) rfl (fun _ => .does _ _ rfl (.none rfl) (QOp.move rfl rfl)) ?_
      refine DAny.qu 5 rfl rfl (by kernel_rfl) rfl (fun _ => .does _ _ rfl (.none rfl) (QOp.fieldM rfl rfl (tok _ rfl) rfl rfl (by decide) rfl)) ?_
      refine DAny.ld 6 rfl rfl (by kernel_rfl) rfl (.does _ _ rfl (.none rfl) (QOp.loadM 8 rfl rfl rfl (tok _ rfl) rfl)) ?_
      refine DAny.ef 4 rfl (by kernel_rfl) (.none rfl) rfl rfl (AOp.callP 0 rfl (by kernel_rfl) rfl rfl rfl (hnd) ?_ (by rintro _ _ ⟨⟩))
      rintro _ _ ⟨⟩
      refine ⟨(by ((refine AllQ.cons (.does _ _ rfl (.none rfl) (QOp.loadM 8 rfl rfl rfl (tok _ rfl) rfl)) ?_); (exact AllQ.nil))), ?_⟩
      refine DAny.ef 7 rfl (by kernel_rfl) (.none rfl) rfl rfl (AOp.callP 6 rfl (by kernel_rfl) rfl rfl rfl (hblk) ?_ (by rintro _ _ ⟨⟩))
      rintro _ _ ⟨τ⟩
      refine ⟨(by ((exact AllQ.nil))), ?_⟩
      refine DAny.ef0 8 rfl (by kernel_rfl) (.none rfl) rfl rfl (AOp.storeP 6 rfl rfl rfl rfl (tok _ rfl) rfl rfl rfl rfl ⟨(by ((exact AllQ.nil))), ?_⟩)
      refine DAny.done (by kernel_rfl) ?_
      refine ACode.region ?_
      refine ASeq.q rfl rfl (QOp.fieldM rfl rfl (tok _ rfl) rfl rfl (by decide) rfl) ?_
      refine ASeq.q rfl rfl (QOp.loadM 6 rfl rfl rfl (tok _ rfl) rfl) ?_
      refine ASeq.q rfl rfl (QOp.ar64 rfl rfl rfl rfl ⟨by omega, by omega⟩) ?_
      refine ASeq.q rfl rfl (QOp.fieldM rfl rfl (tok _ rfl) rfl rfl (by decide) rfl) ?_
      refine ASeq.op0 rfl rfl (AOp.storeP 6 rfl rfl rfl rfl (tok _ rfl) rfl rfl rfl rfl ?_)
      refine ASeq.nil ?_
      subst hr2
      refine (rest τ).atP 8 ?_ ?_
      · exact .cons rfl (.cons rfl (.cons rfl (.cons rfl .nil)))
      · rw [show c.loops = y.loops - 1 by omega]; rfl
    have hk6 : ¬ s.kind = 6 := ne_of_beq_false hb
    rw [if_neg hk6] at hr2
    refine ACode.seq (ACode.seq (ACode.region ?_))
    refine ASeq.q rfl rfl (QOp.cmp rfl rfl rfl rfl) ?_
    refine ASeq.q rfl rfl (QOp.assign rfl rfl) ?_
    refine ASeq.nil ?_
    refine AExit.then_normal ?_
    refine ACode.cond _ rfl (fun hb => ?_) (fun hb => ?_)
    · have hk7 : s.kind = 7 := eq_of_beq hb
      rw [if_pos (.inl hk7)] at hr2
      refine ACode.skip ?_
      refine ACode.cond _ rfl (fun hb2 => ?_) (fun hb2 => by rw [hb] at hb2; cases hb2)
      refine ACode.region ?_
      refine ASeq.q rfl rfl (QOp.loadM 6 rfl rfl rfl (tok _ rfl) rfl) ?_
      refine ASeq.q rfl rfl (QOp.fieldM rfl rfl (tok _ rfl) rfl rfl (by decide) rfl) ?_
      refine ASeq.q rfl rfl (QOp.loadM 6 rfl rfl rfl (tok _ rfl) rfl) ?_
      refine ASeq.q rfl rfl (QOp.cmp rfl rfl rfl rfl) ?_
      refine ASeq.q rfl rfl (QOp.move rfl rfl) ?_
      refine ASeq.op rfl rfl (AOp.callP 0 rfl (by kernel_rfl) rfl rfl rfl (need_ok (c.setFunc i c.f) m (decide ((c.setFunc i c.f).loops > 0)) s.fr 9) ?_ (by rintro _ _ ⟨⟩))
      rintro _ _ ⟨⟩
      refine ASeq.op0 rfl rfl (AOp.storeP 6 rfl rfl rfl rfl (tok _ rfl) rfl rfl rfl rfl ?_)
      refine ASeq.nil ?_
      subst hr2
      refine (rest τ).atP 8 ?_ ?_
      · exact .cons rfl (.cons rfl (.cons rfl (.cons rfl .nil)))
      · rw [items_need]; rfl
    have hk7 : ¬ s.kind = 7 := ne_of_beq_false hb
    refine ACode.region ?_
    refine ASeq.q rfl rfl (QOp.cmp rfl rfl rfl rfl) ?_
    refine ASeq.q rfl rfl (QOp.assign rfl rfl) ?_
    refine ASeq.nil ?_
    refine ACode.cond _ rfl (fun hb => ?_) (fun hb => ?_)
    · have hk8 : s.kind = 8 := eq_of_beq hb
      rw [if_pos (.inr hk8)] at hr2
      refine ACode.region ?_
      refine ASeq.q rfl rfl (QOp.loadM 6 rfl rfl rfl (tok _ rfl) rfl) ?_
      refine ASeq.q rfl rfl (QOp.fieldM rfl rfl (tok _ rfl) rfl rfl (by decide) rfl) ?_
      refine ASeq.q rfl rfl (QOp.loadM 6 rfl rfl rfl (tok _ rfl) rfl) ?_
      refine ASeq.q rfl rfl (QOp.cmp rfl rfl rfl rfl) ?_
      refine ASeq.q rfl rfl (QOp.move rfl rfl) ?_
      refine ASeq.op rfl rfl (AOp.callP 0 rfl (by kernel_rfl) rfl rfl rfl (need_ok (c.setFunc i c.f) m (decide ((c.setFunc i c.f).loops > 0)) s.fr 9) ?_ (by rintro _ _ ⟨⟩))
      rintro _ _ ⟨⟩
      refine ASeq.op0 rfl rfl (AOp.storeP 6 rfl rfl rfl rfl (tok _ rfl) rfl rfl rfl rfl ?_)
      refine ASeq.nil ?_
      subst hr2
      refine (rest τ).atP 8 ?_ ?_
      · exact .cons rfl (.cons rfl (.cons rfl (.cons rfl .nil)))
      · rw [items_need]; rfl
    have hk8 : ¬ s.kind = 8 := ne_of_beq_false hb
    rw [if_neg (fun h => h.elim hk7 hk8)] at hr2
    have hlS := h.lS
    have hrowf : (c.t.funcs.map Fu.cells)[c.f.toNat]? = some ((c.setFunc i c.f).fu (c.setFunc i c.f).f).cells := by
      have : c.f.toNat < c.t.funcs.length := by omega
      rw [fu_get this]
      simp only [CS.fu, CS.setFunc, List.getD_eq_getElem?_getD, List.getElem?_eq_getElem this, Option.getD_some]
    refine ACode.seq (ACode.region ?_)
    refine ASeq.q rfl rfl (QOp.cmp rfl rfl rfl rfl) ?_
    refine ASeq.q rfl rfl (QOp.assign rfl rfl) ?_
    refine ASeq.nil ?_
    refine AExit.then_normal ?_
    refine ACode.cond _ rfl (fun hb => ?_) (fun hb => ?_)
    · have hk9 : s.kind = 9 := eq_of_beq hb
      rw [if_pos hk9] at hr2
      refine ACode.seq (ACode.region ?_)
      refine ASeq.q rfl rfl (QOp.assign rfl rfl) ?_
      refine ASeq.nil ?_
      refine ACode.seq (ACode.seq (ACode.region ?_))
      refine ASeq.q rfl rfl (QOp.fieldM rfl rfl (tok _ rfl) rfl rfl (by decide) rfl) ?_
      refine ASeq.q rfl rfl (QOp.loadM 8 rfl rfl rfl (tok _ rfl) rfl) ?_
      refine ASeq.q rfl rfl (QOp.cmp rfl rfl rfl rfl) ?_
      refine ASeq.nil ?_
      refine AExit.then_normal ?_
      refine ACode.cond _ rfl (fun hb => ?_) (fun hb => ?_)
      · have ha : s.a ≥ 0 := of_decide_eq_true hb
        rw [if_pos ha] at hr2
        have hv := hval s.a ha (hwf.2.1 (by omega))
        have hkv := hkv s.a
        generalize vals (c.setFunc i c.f) s.a = v at hv hkv hr2
        have htv : v.1.t = c.t := hkv.t
        have hfv : v.1.f = c.f := hkv.f
        have hrowv : (v.1.t.funcs.map Fu.cells)[v.1.f.toNat]? = some ((c.setFunc i c.f).fu (c.setFunc i c.f).f).cells := by rw [htv, hfv]; exact hrowf
        have hvf0 : 0 ≤ v.1.f := by rw [hfv]; exact hf0
        refine ACode.region ?_
        refine ASeq.q rfl rfl (QOp.loadM 6 rfl rfl rfl (tok _ rfl) rfl) ?_
        refine ASeq.q rfl rfl (QOp.fieldM rfl rfl (tok _ rfl) rfl rfl (by decide) rfl) ?_
        refine ASeq.q rfl rfl (QOp.loadM 8 rfl rfl rfl (tok _ rfl) rfl) ?_
        refine ASeq.op rfl rfl (AOp.callP 6 rfl (by kernel_rfl) rfl rfl rfl (hv) ?_ (by rintro _ _ ⟨⟩))
        rintro _ _ ⟨⟩
        refine ASeq.q rfl rfl (QOp.move rfl rfl) ?_
        refine ASeq.q rfl rfl (QOp.extract rfl rfl rfl) ?_
        refine ASeq.q rfl rfl (QOp.extract rfl rfl rfl) ?_
        refine ASeq.op0 rfl rfl (AOp.storeP 6 rfl rfl rfl rfl (tok _ rfl) rfl rfl rfl rfl ?_)
        refine ASeq.q rfl rfl (QOp.assign rfl rfl) ?_
        refine ASeq.nil ?_
        refine AExit.then_normal ?_
        refine ACode.drawn [[], [], [], [2], [2, 3], [], [5], [2, 3, 4, 5, 6], [2, 3, 4, 5, 6, 7], [2, 3, 4, 5, 6, 7, 8], [1, 2, 3, 4, 5, 6, 7, 8, 9], [], [0, 1, 2, 3, 4, 5, 6, 7, 8, 9, 10, 11], [0, 1, 2, 3, 4, 5, 6, 7, 8, 9, 10, 11, 12]] (by kernel_rfl) mixed ?_
        refine DAny.ld 0 rfl rfl (by kernel_rfl) rfl (.does _ _ rfl (.none rfl) (QOp.loadM 6 rfl rfl rfl (tok _ rfl) rfl)) ?_
        refine DAny.qu 1 rfl rfl (by kernel_rfl) rfl (fun _ => .does _ _ rfl (.none rfl) (QOp.move rfl rfl)) ?_
        refine DAny.qu 2 rfl rfl (by kernel_rfl) rfl (fun _ => .does _ _ rfl (.none rfl) (QOp.fieldM rfl rfl (tok _ rfl) rfl rfl (by decide) rfl)) ?_
        refine DAny.qu 3 rfl rfl (by kernel_rfl) rfl (fun _ => .does _ _ rfl (.none rfl) (QOp.fieldM rfl rfl (tok _ rfl) rfl rfl (by decide) rfl)) ?_
        refine DAny.ld 4 rfl rfl (by kernel_rfl) rfl (.does _ _ rfl (.none rfl) (QOp.loadM 6 rfl rfl rfl (tok _ rfl) rfl)) ?_
        refine DAny.qu 5 rfl rfl (by kernel_rfl) rfl (fun _ => .does _ _ rfl (.none rfl) (QOp.fieldM rfl rfl (tok _ rfl) rfl rfl (by decide) rfl)) ?_
        refine DAny.ld 6 rfl rfl (by kernel_rfl) rfl (.does _ _ rfl (.none rfl) (QOp.loadM 6 rfl rfl rfl (tok _ rfl) rfl)) ?_
        refine DAny.qu 7 rfl rfl (by kernel_rfl) rfl (fun _ => .does _ _ rfl (.none rfl) (QOp.indexI rfl rfl rfl (tok _ rfl) rfl (tok _ rfl) (by omega) (by assumption))) ?_
        refine DAny.qu 8 rfl rfl (by kernel_rfl) rfl (fun _ => .does _ _ rfl (.none rfl) (QOp.fieldI rfl rfl (tok _ rfl) rfl rfl (by decide) rfl)) ?_
        refine DAny.qu 9 rfl rfl (by kernel_rfl) rfl (fun _ => .does _ _ rfl (.none rfl) (QOp.loadI rfl rfl (tok _ rfl) rfl)) ?_
        refine DAny.qu 10 rfl rfl (by kernel_rfl) rfl (fun _ => .does _ _ rfl (.none rfl) (QOp.cmp rfl rfl rfl rfl)) ?_
        refine DAny.qu 11 rfl rfl (by kernel_rfl) rfl (fun _ => .does _ _ rfl (.none rfl) (QOp.move rfl rfl)) ?_
        refine DAny.ef 12 rfl (by kernel_rfl) (.none rfl) rfl rfl (AOp.callP 0 rfl (by kernel_rfl) rfl rfl rfl (need_ok v.1 m _ s.fr 8) ?_ (by rintro _ _ ⟨⟩))
        rintro _ _ ⟨⟩
        refine ⟨(by ((exact AllQ.nil))), ?_⟩
        refine DAny.ef0 13 rfl (by kernel_rfl) (.none rfl) rfl rfl (AOp.storeP 6 rfl rfl rfl rfl (tok _ rfl) rfl rfl rfl rfl ⟨(by ((exact AllQ.nil))), ?_⟩)
        refine DAny.done (by kernel_rfl) ?_
        subst hr2
        refine (rest τ).atP 8 ?_ ?_
        · exact .cons rfl (.cons rfl (.cons rfl (.cons rfl .nil)))
        · rw [items_need]; rfl
      · have ha : ¬ s.a ≥ 0 := of_decide_eq_false hb
        rw [if_neg ha] at hr2
        have hdf0 : 0 ≤ (c.setFunc i c.f).f := hf0
        have hrowd : ((c.setFunc i c.f).t.funcs.map Fu.cells)[(c.setFunc i c.f).f.toNat]? = some ((c.setFunc i c.f).fu (c.setFunc i c.f).f).cells := hrowf
        refine ACode.skip (AExit.then_normal ?_)
        refine ACode.drawn [[], [], [], [2], [2, 3], [], [5], [2, 3, 4, 5, 6], [2, 3, 4, 5, 6, 7], [2, 3, 4, 5, 6, 7, 8], [1, 2, 3, 4, 5, 6, 7, 8, 9], [], [0, 1, 2, 3, 4, 5, 6, 7, 8, 9, 10, 11], [0, 1, 2, 3, 4, 5, 6, 7, 8, 9, 10, 11, 12]] (by kernel_rfl) mixed ?_
        refine DAny.ld 0 rfl rfl (by kernel_rfl) rfl (.does _ _ rfl (.none rfl) (QOp.loadM 6 rfl rfl rfl (tok _ rfl) rfl)) ?_
        refine DAny.qu 1 rfl rfl (by kernel_rfl) rfl (fun _ => .does _ _ rfl (.none rfl) (QOp.move rfl rfl)) ?_
        refine DAny.qu 2 rfl rfl (by kernel_rfl) rfl (fun _ => .does _ _ rfl (.none rfl) (QOp.fieldM rfl rfl (tok _ rfl) rfl rfl (by decide) rfl)) ?_
        refine DAny.qu 3 rfl rfl (by kernel_rfl) rfl (fun _ => .does _ _ rfl (.none rfl) (QOp.fieldM rfl rfl (tok _ rfl) rfl rfl (by decide) rfl)) ?_
        refine DAny.ld 4 rfl rfl (by kernel_rfl) rfl (.does _ _ rfl (.none rfl) (QOp.loadM 6 rfl rfl rfl (tok _ rfl) rfl)) ?_
        refine DAny.qu 5 rfl rfl (by kernel_rfl) rfl (fun _ => .does _ _ rfl (.none rfl) (QOp.fieldM rfl rfl (tok _ rfl) rfl rfl (by decide) rfl)) ?_
        refine DAny.ld 6 rfl rfl (by kernel_rfl) rfl (.does _ _ rfl (.none rfl) (QOp.loadM 6 rfl rfl rfl (tok _ rfl) rfl)) ?_
        refine DAny.qu 7 rfl rfl (by kernel_rfl) rfl (fun _ => .does _ _ rfl (.none rfl) (QOp.indexI rfl rfl rfl (tok _ rfl) rfl (tok _ rfl) (by omega) (by assumption))) ?_
        refine DAny.qu 8 rfl rfl (by kernel_rfl) rfl (fun _ => .does _ _ rfl (.none rfl) (QOp.fieldI rfl rfl (tok _ rfl) rfl rfl (by decide) rfl)) ?_
        refine DAny.qu 9 rfl rfl (by kernel_rfl) rfl (fun _ => .does _ _ rfl (.none rfl) (QOp.loadI rfl rfl (tok _ rfl) rfl)) ?_
        refine DAny.qu 10 rfl rfl (by kernel_rfl) rfl (fun _ => .does _ _ rfl (.none rfl) (QOp.cmp rfl rfl rfl rfl)) ?_
        refine DAny.qu 11 rfl rfl (by kernel_rfl) rfl (fun _ => .does _ _ rfl (.none rfl) (QOp.move rfl rfl)) ?_
        refine DAny.ef 12 rfl (by kernel_rfl) (.none rfl) rfl rfl (AOp.callP 0 rfl (by kernel_rfl) rfl rfl rfl (need_ok (c.setFunc i c.f) m _ s.fr 8) ?_ (by rintro _ _ ⟨⟩))
        rintro _ _ ⟨⟩
        refine ⟨(by ((exact AllQ.nil))), ?_⟩
        refine DAny.ef0 13 rfl (by kernel_rfl) (.none rfl) rfl rfl (AOp.storeP 6 rfl rfl rfl rfl (tok _ rfl) rfl rfl rfl rfl ⟨(by ((exact AllQ.nil))), ?_⟩)
        refine DAny.done (by kernel_rfl) ?_
        subst hr2
        refine (rest τ).atP 8 ?_ ?_
        · exact .cons rfl (.cons rfl (.cons rfl (.cons rfl .nil)))
        · rw [items_need]; rfl
    have hk9 : ¬ s.kind = 9 := ne_of_beq_false hb
    rw [if_neg hk9] at hr2
    refine ACode.seq (ACode.region ?_)
    refine ASeq.q rfl rfl (QOp.cmp rfl rfl rfl rfl) ?_
    refine ASeq.q rfl rfl (QOp.assign rfl rfl) ?_
    refine ASeq.nil ?_
    refine AExit.then_normal ?_
    refine ACode.cond _ rfl (fun hb => ?_) (fun hb => ?_)
    · have hk10 : s.kind = 10 := eq_of_beq hb
      rw [if_pos hk10] at hr2
      have hv := hval s.a (hwf.1 (.inr (.inr (.inr (.inr (.inr (.inl hk10))))))) (hwf.2.1 (by omega))
      refine ACode.region ?_
      refine ASeq.q rfl rfl (QOp.loadM 6 rfl rfl rfl (tok _ rfl) rfl) ?_
      refine ASeq.q rfl rfl (QOp.fieldM rfl rfl (tok _ rfl) rfl rfl (by decide) rfl) ?_
      refine ASeq.q rfl rfl (QOp.loadM 8 rfl rfl rfl (tok _ rfl) rfl) ?_
      refine ASeq.op rfl rfl (AOp.callP 6 rfl (by kernel_rfl) rfl rfl rfl (hv) ?_ (by rintro _ _ ⟨⟩))
      rintro _ _ ⟨⟩
      refine ASeq.q rfl rfl (QOp.move rfl rfl) ?_
      refine ASeq.q rfl rfl (QOp.extract rfl rfl rfl) ?_
      refine ASeq.q rfl rfl (QOp.extract rfl rfl rfl) ?_
      refine ASeq.op0 rfl rfl (AOp.storeP 6 rfl rfl rfl rfl (tok _ rfl) rfl rfl rfl rfl ?_)
      refine ASeq.nil ?_
      subst hr2
      refine (rest τ).atP 8 ?_ ?_
      · exact .cons rfl (.cons rfl (.cons rfl (.cons rfl .nil)))
      · rfl
    have hk10 : ¬ s.kind = 10 := ne_of_beq_false hb
    rw [if_neg hk10] at hr2
    refine ACode.seq (ACode.region ?_)
    refine ASeq.q rfl rfl (QOp.cmp rfl rfl rfl rfl) ?_
    refine ASeq.q rfl rfl (QOp.assign rfl rfl) ?_
    refine ASeq.nil ?_
    refine AExit.then_normal ?_
    refine ACode.cond _ rfl (fun hb => ?_) (fun hb => ?_)
    · have hk11 : s.kind = 11 := eq_of_beq hb
      rw [if_pos hk11] at hr2
      have hal := hwf.2.1 (by omega)
      have hv := exprs6 (c.setFunc i c.f).t.exprs.length (c.setFunc i c.f) m s.a τ okd hw (hwf.1 (.inr (.inr (.inr (.inr (.inr (.inr hk11))))))) hal hal
      refine ACode.region ?_
      refine ASeq.q rfl rfl (QOp.loadM 6 rfl rfl rfl (tok _ rfl) rfl) ?_
      refine ASeq.q rfl rfl (QOp.fieldM rfl rfl (tok _ rfl) rfl rfl (by decide) rfl) ?_
      refine ASeq.q rfl rfl (QOp.loadM 8 rfl rfl rfl (tok _ rfl) rfl) ?_
      refine ASeq.op rfl rfl (AOp.callP 6 rfl (by kernel_rfl) rfl rfl rfl (hv) ?_ (by rintro _ _ ⟨⟩))
      rintro _ _ ⟨⟩
      refine ASeq.q rfl rfl (QOp.move rfl rfl) ?_
      refine ASeq.q rfl rfl (QOp.extract rfl rfl rfl) ?_
      refine ASeq.q rfl rfl (QOp.extract rfl rfl rfl) ?_
      refine ASeq.op0 rfl rfl (AOp.storeP 6 rfl rfl rfl rfl (tok _ rfl) rfl rfl rfl rfl ?_)
      refine ASeq.nil ?_
      subst hr2
      refine (rest τ).atP 8 ?_ ?_
      · exact .cons rfl (.cons rfl (.cons rfl (.cons rfl .nil)))
      · rfl
    have hk11 : ¬ s.kind = 11 := ne_of_beq_false hb
    rw [if_neg hk11] at hr2
    refine ACode.skip ?_
    subst hr2
    refine (rest τ).atP 8 ?_ ?_
    · exact .cons rfl (.cons rfl (.cons rfl (.cons rfl .nil)))
    · rfl
  · intro τ
    have hpl : r.1.put.length = c.t.stmts.length := by rw [hkr.lp]; exact hlp
    refine ACode.seq (ACode.seq (ACode.region ?_))
    refine ASeq.q rfl rfl (QOp.fieldM rfl rfl (tok _ rfl) rfl rfl (by decide) rfl) ?_
    refine ASeq.q rfl rfl (QOp.loadM 6 rfl rfl rfl (tok _ rfl) rfl) ?_
    refine ASeq.q rfl rfl (QOp.cmp rfl rfl rfl rfl) ?_
    refine ASeq.nil ?_
    refine AExit.then_normal ?_
    refine ACode.cond _ rfl (fun hb => ?_) (fun hb => ?_)
    · have hcr : r.1.code = 0 := by simpa using hb
      refine ACode.region ?_
      refine ASeq.q rfl rfl (QOp.fieldM rfl rfl (tok _ rfl) rfl rfl (by decide) rfl) ?_
      refine ASeq.q rfl rfl (QOp.fieldM rfl rfl (tok _ rfl) rfl rfl (by decide) rfl) ?_
      refine ASeq.q rfl rfl (QOp.loadM 6 rfl rfl rfl (tok _ rfl) rfl) ?_
      refine ASeq.q rfl rfl (QOp.move rfl rfl) ?_
      refine ASeq.q rfl rfl (QOp.move rfl rfl) ?_
      refine ASeq.q rfl rfl (QOp.indexM rfl rfl rfl (tok _ rfl) rfl (tok _ rfl) (by omega) (by omega) rfl) ?_
      refine ASeq.op0 rfl rfl (storeInt 2 (j := i.toNat) (l := r.1.put) rfl rfl rfl rfl (tok _ rfl) rfl (by show 0 + _ * 1 = _; omega) (by omega) rfl ?_)
      refine ASeq.nil ?_
      refine ACode.seq (ACode.region ?_)
      refine ASeq.q rfl rfl (QOp.loadM 6 rfl rfl rfl (tok _ rfl) rfl) ?_
      refine ASeq.op0 rfl rfl (AOp.storeP 7 rfl rfl rfl rfl (tok _ rfl) rfl rfl rfl rfl ?_)
      refine ASeq.nil ?_
      refine ACode.ret ?_
      refine bodyQ_ret 6 (.cell 7 rfl rfl (tok _ rfl) rfl .nil) rfl ?_
      rw [hgo, show putted r i = r.1.setPut i r.2 by unfold putted; rw [if_pos hcr]]
      refine RS.of τ ?_ rfl
      have hsl : (r.1.setPut i r.2).put.length = r.1.put.length := by simp [CS.setPut]
      show _ = AV.agg ((r.1.setPut i r.2).cells m)
      simp only [CS.cells, hsl]
      rfl
    · have hcr : ¬ r.1.code = 0 := by simpa using hb
      refine ACode.skip (ACode.seq (ACode.region ?_))
      refine ASeq.q rfl rfl (QOp.loadM 6 rfl rfl rfl (tok _ rfl) rfl) ?_
      refine ASeq.op0 rfl rfl (AOp.storeP 7 rfl rfl rfl rfl (tok _ rfl) rfl rfl rfl rfl ?_)
      refine ASeq.nil ?_
      refine ACode.ret ?_
      refine bodyQ_ret 6 (.cell 7 rfl rfl (tok _ rfl) rfl .nil) rfl ?_
      rw [hgo, show putted r i = r.1 by unfold putted; rw [if_neg hcr]]
      exact RS.of τ rfl rfl
end Go.Proofs.Ytaadamobapnfbaa
/- ref06: Ints; Check on data. -/
set_option linter.unusedVariables false
set_option linter.unusedSimpArgs false
set_option maxRecDepth 100000
namespace Go.Proofs.Ytaadamobapnfbaa
open Go Go.Abs
theorem stms6 : ∀ n, CStmt n
  | 0 => fun c m i τ h hw hw2 h0 h1 hn => absurd hn (by omega)
  | n + 1 => stmt_walk6 n (stms6 n)
/-- the same numbers? -/
def sameI : List Int → List Int → Bool
  | [], [] => true
  | a :: l, b :: m => if (a != b) = true then false else sameI l m
  | _, _ => false
theorem sameI_eq : ∀ (l m : List Int), sameI l m = true ↔ l = m
  | [], [] => by simp [sameI]
  | [], _ :: _ => by simp [sameI]
  | _ :: _, [] => by simp [sameI]
  | a :: l, b :: m => by
    simp only [sameI]
    split
    · rename_i h; simp at h; simp [h]
    · rename_i h; simp at h; simp [h, sameI_eq l m]
theorem sameI_drop (l m : List Int) (i : Nat) (hl : i < l.length) (hm : i < m.length) : sameI (l.drop i) (m.drop i) = if (l[i] != m[i]) = true then false else sameI (l.drop (i + 1)) (m.drop (i + 1)) := by
  rw [List.drop_eq_getElem_cons hl, List.drop_eq_getElem_cons hm]; rfl
theorem sameI_len (l m : List Int) (h : l.length ≠ m.length) : sameI l m = false := by
  cases hs : sameI l m with
  | false => rfl
  | true => exact absurd (congrArg List.length ((sameI_eq l m).1 hs)) h
theorem ints_ok (l m : List Int) (tl tm : Option Nat) (hl : l.length ≤ 1048576) : ACalls Try.prog 18 [.il 1 tl (ints l), .il 1 tm (ints m)] [] (RV (.v (.bool (sameI l m))) []) := by
  have e1 := ints_len l
  have e2 := ints_len m
  refine ACalls.of_code (c := _) Try.func18 rfl Try.ntmps18 (Nat.le_of_ble_eq_true rfl) ?_
  refine ACode.seq (ACode.region ?_)
  refine ASeq.q rfl rfl (QOp.assign rfl rfl) ?_
  refine ASeq.nil ?_
  refine ACode.seq (ACode.seq (ACode.region ?_))
  refine ASeq.q rfl rfl (QOp.move rfl rfl) ?_
  refine ASeq.q rfl rfl (QOp.lenI rfl rfl (tok _ rfl) rfl) ?_
  refine ASeq.q rfl rfl (QOp.move rfl rfl) ?_
  refine ASeq.q rfl rfl (QOp.lenI rfl rfl (tok _ rfl) rfl) ?_
  refine ASeq.q rfl rfl (QOp.cmp rfl rfl rfl rfl) ?_
  refine ASeq.nil ?_
  refine AExit.then_normal ?_
  refine ACode.cond _ rfl (fun hb => ?_) (fun hb => ?_)
  · have hne : l.length ≠ m.length := by
      have := bne_iff_ne.1 hb
      rw [e1, e2] at this; omega
    refine ACode.seq (ACode.region ?_)
    refine ASeq.q rfl rfl (QOp.assign rfl rfl) ?_
    refine ASeq.nil ?_
    refine ACode.ret (AExit.then_ret ?_)
    refine bodyQ_ret 0 (.tmp rfl .nil) rfl ?_
    rw [sameI_len l m hne]; exact .mk
  have heq : l.length = m.length := by
    have := bne_eq_false_iff_eq.1 hb
    rw [e1, e2] at this; omega
  refine ACode.skip (ACode.seq (ACode.seq (ACode.region ?_)))
  refine ASeq.q rfl rfl (QOp.move rfl rfl) ?_
  refine ASeq.q rfl rfl (QOp.lenI rfl rfl (tok _ rfl) rfl) ?_
  refine ASeq.q rfl rfl (QOp.move rfl rfl) ?_
  refine ASeq.nil ?_
  refine ACode.block ?_
  refine ACode.loopP (fun i : Nat => [(0, .il 1 tl (ints l)), (1, .il 1 tm (ints m)), (12, vi ((ints l).length : Int)), (13, vi i)]) (fun _ => []) (fun i => l.length - i)
    (fun i => i ≤ l.length ∧ sameI (l.drop i) (m.drop i) = sameI l m) 0 ⟨Nat.zero_le _, rfl⟩ (.cons rfl (.cons rfl (.cons rfl (.cons rfl .nil)))) 0 rfl ?_
  rintro i ⟨hi, he⟩
  refine ACode.seq (ACode.region ?_)
  refine ASeq.q rfl rfl (QOp.cmp rfl rfl rfl rfl) ?_
  refine ASeq.nil ?_
  refine ACode.seq ?_
  refine ACode.cond _ rfl (fun hb => ?_) (fun hb => ?_)
  · have hlt : i < l.length := by have := of_decide_eq_true hb; rw [e1] at this; omega
    have hlm : i < m.length := by omega
    have g1 := ints_get hlt
    have g2 := ints_get hlm
    rw [sameI_drop l m i hlt hlm] at he
    refine ACode.skip (ACode.seq (ACode.block (ACode.seq (ACode.region ?_))))
    refine ASeq.q rfl rfl (QOp.move rfl rfl) ?_
    refine ASeq.q rfl rfl (QOp.assign rfl rfl) ?_
    refine ASeq.nil ?_
    refine ACode.seq ?_
    refine ACode.drawn [[], [], [0, 1], [0, 1, 2], [], [], [4, 5], [4, 5, 6], [0, 1, 2, 3, 4, 5, 6, 7]] (by kernel_rfl) mixed ?_
    refine DAny.qu 0 rfl rfl (by kernel_rfl) rfl (fun _ => .does _ _ rfl (.none rfl) (QOp.move rfl rfl)) ?_
    refine DAny.qu 1 rfl rfl (by kernel_rfl) rfl (fun _ => .does _ _ rfl (.none rfl) (QOp.move rfl rfl)) ?_
    refine DAny.qu 2 rfl rfl (by kernel_rfl) rfl (fun _ => .does _ _ rfl (.none rfl) (QOp.indexI rfl rfl rfl (tok _ rfl) rfl (tok _ rfl) (by omega) (by assumption))) ?_
    refine DAny.qu 3 rfl rfl (by kernel_rfl) rfl (fun _ => .does _ _ rfl (.none rfl) (QOp.loadI rfl rfl (tok _ rfl) rfl)) ?_
    refine DAny.qu 4 rfl rfl (by kernel_rfl) rfl (fun _ => .does _ _ rfl (.none rfl) (QOp.move rfl rfl)) ?_
    refine DAny.qu 5 rfl rfl (by kernel_rfl) rfl (fun _ => .does _ _ rfl (.none rfl) (QOp.move rfl rfl)) ?_
    refine DAny.qu 6 rfl rfl (by kernel_rfl) rfl (fun _ => .does _ _ rfl (.none rfl) (QOp.indexI rfl rfl rfl (tok _ rfl) rfl (tok _ rfl) (by omega) (by assumption))) ?_
    refine DAny.qu 7 rfl rfl (by kernel_rfl) rfl (fun _ => .does _ _ rfl (.none rfl) (QOp.loadI rfl rfl (tok _ rfl) rfl)) ?_
    refine DAny.qu 8 rfl rfl (by kernel_rfl) rfl (fun _ => .does _ _ rfl (.none rfl) (QOp.cmp rfl rfl rfl rfl)) ?_
    refine DAny.done (by kernel_rfl) ?_
    refine AExit.then_normal ?_
    refine ACode.cond _ rfl (fun hb => ?_) (fun hb => ?_)
    · rw [if_pos hb] at he
      refine ACode.seq (ACode.region ?_)
      refine ASeq.q rfl rfl (QOp.assign rfl rfl) ?_
      refine ASeq.nil ?_
      refine ACode.ret (AExit.in_ret (AExit.then_ret (AExit.then_ret (AExit.in_ret (AExit.then_ret ?_)))))
      refine bodyQ_ret 0 (.tmp rfl .nil) rfl ?_
      rw [← he]; exact .mk
    · rw [if_neg (by rw [hb]; decide)] at he
      refine ACode.skip (ACode.region ?_)
      refine ASeq.q rfl rfl (QOp.ar64 rfl rfl rfl rfl ⟨by omega, by omega⟩) ?_
      refine ASeq.q rfl rfl (QOp.move rfl rfl) ?_
      refine ASeq.nil ?_
      refine AExit.then_normal ?_
      exact ⟨i + 1, 0, ⟨hlt, he⟩, by omega, .cons rfl (.cons rfl (.cons rfl (.cons rfl .nil))), rfl⟩
  · have hge : i = l.length := by have := of_decide_eq_false hb; rw [e1] at this; omega
    have h2 : m.drop i = [] := List.drop_eq_nil_of_le (by omega)
    refine ACode.exit (ACode.seq (ACode.region ?_))
    refine ASeq.q rfl rfl (QOp.assign rfl rfl) ?_
    refine ASeq.nil ?_
    refine ACode.ret ?_
    refine bodyQ_ret 0 (.tmp rfl .nil) rfl ?_
    rw [← he, h2, hge, List.drop_length]; exact .mk
/-! Check on data. -/
def c0 (t : Tree) : CS := { t := t, type := List.replicate t.exprs.length 0, slot := List.replicate t.exprs.length (-1), put := List.replicate t.stmts.length (-1), func := List.replicate t.stmts.length 0, slots := List.replicate t.funcs.length [] }
def dupOf (g : Fu) : List Fu → CS → CS
  | [], c => c
  | f :: l, c => dupOf g l (c.need (!(f.name.data.toList == g.name.data.toList)) g.fr 7)
def dups (pre : List Fu) : List Fu → CS → CS
  | [], c => c
  | g :: l, c => dups (pre ++ [g]) l (dupOf g pre c)
def faceOf (c : CS) : CS :=
  (c.need ((c.fu 0).name.data.toList == [109, 97, 105, 110]) 0 17).need (((c.fu 0).params.length : Int) == 0 && (c.fu 0).type == 4) (c.fu 0).fr 8
def parsOf (fr : Int) : List ByteArray → CS → CS
  | [], c => c
  | p :: l, c => parsOf fr l (if c.code = 0 then (c.decl p 1 fr).1 else c)
def bodyOf : List Int → CS → CS
  | [], c => c
  | k :: l, c => bodyOf l (stm6 c.t.stmts.length c k)
def funs : Nat → List Fu → CS → CS
  | _, [], c => c
  | i, g :: l, c => funs (i + 1) l (bodyOf g.body (parsOf g.fr g.params { c with f := i, names := [], block := 0 }))
def checked (t : Tree) : CS := funs 0 t.funcs (faceOf (dups [] t.funcs (c0 t)))
end Go.Proofs.Ytaadamobapnfbaa
/- ref06: Check, what the steps keep. -/
set_option linter.unusedVariables false
set_option linter.unusedSimpArgs false
set_option maxRecDepth 100000
namespace Go.Proofs.Ytaadamobapnfbaa
open Go Go.Abs
def nilv : AV := .v (.slice none 0 0)
structure TreeOk (t : Tree) : Prop where
  ex : TreeWf t
  st : StsWf t
  fu : ∀ g ∈ t.funcs, g.params.length ≤ 1048576 ∧ g.body.length ≤ 1048576 ∧ ∀ k ∈ g.body, 0 ≤ k ∧ k < t.stmts.length
  some : 0 < t.funcs.length
  big : t.exprs.length ≤ 1048576 ∧ t.stmts.length ≤ 1048576 ∧ t.funcs.length ≤ 1048576
/-- a state ahead of the i-th function -/
structure Pre (t : Tree) (i : Nat) (c : CS) : Prop where
  tt : c.t = t
  f0 : 0 ≤ c.f
  f1 : (c.f = 0 ∧ i = 0) ∨ c.f + 1 = i
  lt : c.type.length = t.exprs.length
  ls : c.slot.length = t.exprs.length
  lp : c.put.length = t.stmts.length
  lf : c.func.length = t.stmts.length
  lS : c.slots.length = t.funcs.length
  loops : c.loops = 0
  rest : ∀ j, i ≤ j → j < t.funcs.length → c.slots[j]? = some []
def CS.enter (c : CS) (i : Nat) : CS := { c with f := i, names := [], block := 0 }
theorem Pre.cur {t : Tree} {i : Nat} {c : CS} (h : Pre t i c) (hi : i < t.funcs.length) : (c.enter i).cur = [] := by
  have := h.rest i (Nat.le_refl _) hi
  simp only [CS.cur, CS.enter, Int.toNat_natCast, List.getD_eq_getElem?_getD, this, Option.getD_some]
theorem Pre.enter {t : Tree} {i : Nat} {c : CS} (h : Pre t i c) (hi : i < t.funcs.length) (hb : t.exprs.length ≤ 1048576 ∧ t.stmts.length ≤ 1048576 ∧ t.funcs.length ≤ 1048576) : (c.enter i).ok := by
  have hc := h.cur hi
  refine ⟨by show (0:Int) ≤ (i:Int); omega, ?_, by rw [hc]; simp, by rw [hc]; simp [CS.enter], fun n hn => by simp [CS.enter] at hn, ?_, ?_, ?_, ?_, ?_, ?_⟩
  · show ((i:Nat):Int) < (c.slots.length : Int); rw [h.lS]; omega
  · show c.type.length = c.t.exprs.length; rw [h.lt, h.tt]
  · show c.slot.length = c.t.exprs.length; rw [h.ls, h.tt]
  · show c.put.length = c.t.stmts.length; rw [h.lp, h.tt]
  · show c.func.length = c.t.stmts.length; rw [h.lf, h.tt]
  · show c.slots.length = c.t.funcs.length; rw [h.lS, h.tt]
  · show c.t.exprs.length ≤ 1048576 ∧ c.t.stmts.length ≤ 1048576 ∧ c.t.funcs.length ≤ 1048576; rw [h.tt]; exact hb
theorem KeptS.pars (fr : Int) : ∀ (l : List ByteArray) (c : CS), c.ok → KeptS c (parsOf fr l c)
  | [], c, _ => .refl c
  | p :: l, c, h => by
    have h1 : KeptS c (if c.code = 0 then (c.decl p 1 fr).1 else c) := by
      split
      · exact .decl h _ _ _
      · exact .refl c
    exact h1.trans (KeptS.pars fr l _ (h1.ok h))
theorem KeptS.body : ∀ (l : List Int) (c : CS), c.ok → KeptS c (bodyOf l c)
  | [], c, _ => .refl c
  | k :: l, c, h => by
    have h1 := KeptS.stm6 c.t.stmts.length c k h
    exact h1.trans (KeptS.body l _ (h1.ok h))
theorem Pre.next {t : Tree} {i : Nat} {c d : CS} (h : Pre t i c) (hi : i < t.funcs.length) (hk : KeptS (c.enter i) d) : Pre t (i + 1) d := by
  refine ⟨hk.t.trans h.tt, by rw [hk.f]; show (0:Int) ≤ (i:Int); omega, .inr (by rw [hk.f]; show (i:Int) + 1 = ((i+1:Nat):Int); omega), hk.lt.trans h.lt, hk.ls.trans h.ls, hk.lp.trans h.lp, hk.lf.trans h.lf, hk.lS.trans h.lS, hk.loops.trans h.loops, fun j hj hl => ?_⟩
  have hne : j ≠ (c.enter i).f.toNat := by show j ≠ ((i:Nat):Int).toNat; omega
  rw [hk.other j hne]
  exact h.rest j (by omega) hl
theorem dupOf_slots (g : Fu) (s : List (List Int)) : ∀ (l : List Fu) (c : CS), dupOf g l { c with slots := s } = { dupOf g l c with slots := s }
  | [], c => rfl
  | f :: l, c => by
    simp only [dupOf]
    rw [← dupOf_slots g s l]
    congr 1
    unfold CS.need
    split <;> rfl
theorem Kept.dupOf (g : Fu) : ∀ (l : List Fu) (c : CS), Kept c (dupOf g l c) ∧ (dupOf g l c).type = c.type ∧ (dupOf g l c).slot = c.slot
  | [], c => ⟨.refl c, rfl, rfl⟩
  | f :: l, c => by
    have h := Kept.dupOf g l (c.need (!(f.name.data.toList == g.name.data.toList)) g.fr 7)
    have h2 : (c.need (!(f.name.data.toList == g.name.data.toList)) g.fr 7).type = c.type ∧ (c.need (!(f.name.data.toList == g.name.data.toList)) g.fr 7).slot = c.slot := by
      unfold CS.need; split <;> exact ⟨rfl, rfl⟩
    exact ⟨(Kept.need _ _ _ _).trans h.1, h.2.1.trans h2.1, h.2.2.trans h2.2⟩
theorem Kept.dups : ∀ (l pre : List Fu) (c : CS), Kept c (dups pre l c) ∧ (dups pre l c).type = c.type ∧ (dups pre l c).slot = c.slot
  | [], pre, c => ⟨.refl c, rfl, rfl⟩
  | g :: l, pre, c => by
    have h1 := Kept.dupOf g pre c
    have h := Kept.dups l (pre ++ [g]) (Ytaadamobapnfbaa.dupOf g pre c)
    exact ⟨h1.1.trans h.1, h.2.1.trans h1.2.1, h.2.2.trans h1.2.2⟩
theorem Kept.face (c : CS) : Kept c (faceOf c) := (Kept.need _ _ _ _).trans (.need _ _ _ _)
theorem pre0 (t : Tree) : Pre t 0 (faceOf (dups [] t.funcs (c0 t))) := by
  have h := (Kept.dups t.funcs [] (c0 t)).1.trans (Kept.face _)
  refine ⟨h.t, by rw [h.f]; exact Int.le_refl 0, .inl ⟨h.f, rfl⟩, by rw [h.lt]; simp [c0], by rw [h.ls]; simp [c0], by rw [h.put]; simp [c0], by rw [h.func]; simp [c0], by rw [h.slots]; simp [c0], h.loops, fun j _ hj => ?_⟩
  rw [h.slots]; simp [c0, hj]
theorem slots_get {c : CS} {τ : Nat} {j : Nat} : (c.slotCells τ)[j]? = (c.slots[j]?).map (slotCell τ c.f j) := by
  simp only [CS.slotCells, List.getElem?_mapIdx]
theorem LeL.of : ∀ (l m : List AV), l.length = m.length → (∀ (j : Nat) (x y : AV), l[j]? = some x → m[j]? = some y → AV.Le x y) → LeL l m
  | [], [], _, _ => .nil
  | x :: l, y :: m, h, hg => .cons (hg 0 x y rfl rfl) (LeL.of l m (by simpa using h) fun j a b ha hb => hg (j + 1) a b (by simpa using ha) (by simpa using hb))
  | [], _ :: _, h, _ => by simp at h
  | _ :: _, [], h, _ => by simp at h
theorem enter_le {t : Tree} {i : Nat} {c : CS} (h : Pre t i c) (hi : i < t.funcs.length) (τ : Nat) : LeL (c.slotCells τ) ((c.enter i).slotCells τ) := by
  refine LeL.of _ _ (by simp [CS.slotCells, CS.enter]) fun j x y hx hy => ?_
  rw [slots_get] at hx hy
  obtain ⟨s, hs, rfl⟩ := Option.map_eq_some_iff.1 hx
  obtain ⟨s', hs', rfl⟩ := Option.map_eq_some_iff.1 hy
  have e : s' = s := Option.some.inj (hs'.symm.trans hs)
  subst e
  have h0 := h.f0
  have h1 := h.f1
  have hlt : j < t.funcs.length := by rw [← h.lS]; exact (List.getElem?_eq_some_iff.1 hs).1
  have hr : i ≤ j → s' = [] := fun hij => Option.some.inj (hs.symm.trans (h.rest j hij hlt))
  show AV.Le (slotCell τ c.f j s') (slotCell τ (i : Int) j s')
  unfold slotCell
  by_cases a1 : (j : Int) = c.f
  · rw [if_pos a1]
    by_cases b1 : (j : Int) = (i : Int)
    · rw [if_pos b1]; exact .refl _
    · rw [if_neg b1]
      by_cases b2 : (j : Int) < (i : Int)
      · rw [if_pos b2]; exact .tok 1 _ _
      · omega
  · rw [if_neg a1]
    by_cases a2 : (j : Int) < c.f
    · rw [if_pos a2, if_neg (by omega), if_pos (by omega)]; exact .refl _
    · rw [if_neg a2]
      by_cases b1 : (j : Int) = (i : Int)
      · rw [if_pos b1, hr (by omega)]; exact .nilT 1 _
      · rw [if_neg b1]
        by_cases b2 : (j : Int) < (i : Int)
        · omega
        · rw [if_neg b2]; exact .refl _
theorem nils_le (τ : Nat) (n : Nat) : LeL (List.replicate n nilv) (CS.slotCells { t := default, type := [], slot := [], put := [], func := [], slots := List.replicate n [] } τ) := by
  refine LeL.of _ _ (by simp [CS.slotCells]) fun j x y hx hy => ?_
  rw [slots_get] at hy
  obtain ⟨s', hs', rfl⟩ := Option.map_eq_some_iff.1 hy
  have e1 : x = nilv := by have := List.mem_of_getElem? hx; exact (List.mem_replicate.1 this).2
  have e2 : s' = [] := by have := List.mem_of_getElem? hs'; exact (List.mem_replicate.1 this).2
  subst e1; subst e2
  unfold slotCell nilv
  split
  · exact .nilT 1 _
  · split
    · exact .nilT 1 _
    · exact .refl _
theorem dupOf_drop (g : Fu) (l : List Fu) (j : Nat) (c : CS) (h : j < l.length) : dupOf g (l.drop j) c = dupOf g (l.drop (j + 1)) (c.need (!(l[j].name.data.toList == g.name.data.toList)) g.fr 7) := by
  rw [List.drop_eq_getElem_cons h]; rfl
theorem dups_drop (l : List Fu) (i : Nat) (c : CS) (h : i < l.length) : dups (l.take i) (l.drop i) c = dups (l.take (i + 1)) (l.drop (i + 1)) (dupOf l[i] (l.take i) c) := by
  rw [List.drop_eq_getElem_cons h, List.take_add_one, List.getElem?_eq_getElem h]; rfl
theorem funs_drop (l : List Fu) (i : Nat) (c : CS) (h : i < l.length) : funs i (l.drop i) c = funs (i + 1) (l.drop (i + 1)) (bodyOf l[i].body (parsOf l[i].fr l[i].params (c.enter i))) := by
  rw [List.drop_eq_getElem_cons h]; rfl
theorem pars_drop (fr : Int) (l : List ByteArray) (i : Nat) (c : CS) (h : i < l.length) : parsOf fr (l.drop i) c = parsOf fr (l.drop (i + 1)) (if c.code = 0 then (c.decl l[i] 1 fr).1 else c) := by
  rw [List.drop_eq_getElem_cons h]; rfl
theorem body_drop (l : List Int) (i : Nat) (c : CS) (h : i < l.length) : bodyOf (l.drop i) c = bodyOf (l.drop (i + 1)) (stm6 c.t.stmts.length c l[i]) := by
  rw [List.drop_eq_getElem_cons h]; rfl
inductive RK (t : Tree) : AOut → List Abs.Item → Prop
  | bad (h : (checked t).code ≠ 0) : RK t (.ret (.tup [.agg [nilv, nilv, nilv, nilv, nilv], vi (checked t).at_, vi (checked t).code])) []
  | good (h : (checked t).code = 0) (m : Ms) (τ : Nat) : RK t (.ret (.tup [.agg [.sl 1 m.mT 0 (checked t).type.length, .sl 1 m.mS 0 (checked t).slot.length, .sl 1 m.mP 0 (checked t).put.length, .sl 1 m.mF 0 (checked t).func.length, .sl 1 m.mL 0 (checked t).slots.length], vi 0, vi 0])) ((checked t).items m τ)
theorem fu_at {t : Tree} {i : Nat} (h : i < t.funcs.length) : (t.funcs.map Fu.cells)[i]? = some t.funcs[i].cells := by
  simp only [List.getElem?_map, List.getElem?_eq_getElem h, Option.map_some]
end Go.Proofs.Ytaadamobapnfbaa
/- ref06: Check. -/
set_option linter.unusedVariables false
set_option linter.unusedSimpArgs false
set_option maxRecDepth 100000
namespace Go.Proofs.Ytaadamobapnfbaa
open Go Go.Abs
def CS.init (t : Tree) (lT lS lP lF : List Int) (k : Nat) : CS := { t := t, type := lT, slot := lS, put := lP, func := lF, slots := List.replicate k [] }
theorem row1 (x : AV) : ∀ r ∈ [[x]], r.length = 1 := fun r h => by rw [List.mem_singleton] at h; subst h; rfl
theorem vi_len (l : List Int) : (l.map vi).length = l.length * 1 := by simp
theorem rep_succ {α : Type} (n : Nat) (x : α) : List.replicate n x ++ [x] = List.replicate (n + 1) x := List.replicate_succ'.symm
theorem need_with (d : CS) (s : List (List Int)) (ok : Bool) (a k : Int) : ({ d with slots := s } : CS).need ok a k = { d.need ok a k with slots := s } := by
  unfold CS.need; split <;> rfl
set_option maxHeartbeats 4000000 in
theorem check6_ok (t : Tree) (h : TreeOk t) : ACalls Try.prog 19 [.agg t.cells] [] (RK t) := by
  have hEl : (t.exprs.map Ex.cells).length = t.exprs.length := List.length_map ..
  have hSl : (t.stmts.map St.cells).length = t.stmts.length := List.length_map ..
  have hFl : (t.funcs.map Fu.cells).length = t.funcs.length := List.length_map ..
  have hbig := h.big
  have hf0 := fu_at h.some
  refine ACalls.of_code (c := _) Try.func19 rfl Try.ntmps19 (Nat.le_of_ble_eq_true rfl) ?_
  refine ACode.newVirt (fun mT => ?_)
  refine ACode.newVirt (fun mS => ?_)
  refine ACode.newVirt (fun mP => ?_)
  refine ACode.newVirt (fun mF => ?_)
  refine ACode.newVirt (fun mL => ?_)
  refine ACode.newTok (fun τ => ?_)
  refine ACode.seq (ACode.region ?_)
  refine ASeq.op rfl rfl (AOp.boxP rfl rfl rfl (fun _ => rfl) (fun _ => ?_))
  refine ASeq.op rfl rfl (AOp.allocP rfl (tok _ rfl) rfl rfl (fun _ => rfl) (fun _ => ?_))
  refine ASeq.q rfl rfl (QOp.assign rfl rfl) ?_
  refine ASeq.q rfl rfl (QOp.assign rfl rfl) ?_
  refine ASeq.nil ?_
  rename_i m1 m2
  refine ACode.seq (ACode.region ?_)
  refine ASeq.q rfl rfl (QOp.loadM 6 rfl rfl rfl (tok _ rfl) rfl) ?_
  refine ASeq.q rfl rfl (QOp.build rfl (tok _ rfl) rfl rfl rfl rfl rfl) ?_
  refine ASeq.op rfl rfl (AOp.allocP rfl (tok _ rfl) rfl rfl (fun _ => rfl) (fun _ => ?_))
  refine ASeq.op0 rfl rfl (AOp.storeP 8 rfl rfl rfl rfl (tok _ rfl) rfl rfl rfl rfl ?_)
  refine ASeq.nil ?_
  rename_i m5
  refine ACode.seq (ACode.seq (ACode.region ?_))
  refine ASeq.cells (cells' := (CS.init t [] [] [] [] 0).cells ⟨mT, mS, mP, mF, mL⟩) [_, _, _, _, _, _, _, _] [] rfl
    (.cons (.refl _) (.cons (.refl _) (.cons (.refl _) (.cons (.nilM _ _ _) (.cons (.nilM _ _ _) (.cons (.nilM _ _ _) (.cons (.nilM _ _ _) (.cons (.nilM _ _ _) (.cons (.refl _) (.cons (.nilT 3 _) (.cons (.refl _) (.cons (.refl _) (.cons (.refl _) (.cons (.refl _) .nil)))))))))))))) ?_
  refine ASeq.q rfl rfl (QOp.fieldM rfl rfl (tok _ rfl) rfl rfl (by decide) rfl) ?_
  refine ASeq.q rfl rfl (QOp.loadM 6 rfl rfl rfl (tok _ rfl) rfl) ?_
  refine ASeq.q rfl rfl (QOp.lenI rfl rfl (tok _ rfl) rfl) ?_
  refine ASeq.q rfl rfl (QOp.move rfl rfl) ?_
  refine ASeq.nil ?_
  refine ACode.block ?_
  refine ACode.loopP (fun (x : Nat × Nat × Nat × List Int × List Int) => [(1, .mp m1 0), (2, .mp m2 0), (5, .mp m5 0), (15, vi ((t.exprs.map Ex.cells).length : Int)), (16, vi x.1)])
    (fun x => [.mu x.2.1 (x.2.2.2.1.map vi), .mu x.2.2.1 (x.2.2.2.2.map vi), .mu mP [], .mu mF [], .mu mL [], .tk τ, .mu m1 t.cells, .mu m2 (List.map AV.v (TT 44).zero), .mu m5 ((CS.init t x.2.2.2.1 x.2.2.2.2 [] [] 0).cells ⟨x.2.1, x.2.2.1, mP, mF, mL⟩)]) (fun x => t.exprs.length - x.1)
    (fun x => x.1 ≤ t.exprs.length ∧ x.2.2.2.1 = List.replicate x.1 0 ∧ x.2.2.2.2 = List.replicate x.1 (-1)) (0, mT, mS, [], []) ⟨Nat.zero_le _, rfl, rfl⟩ (.cons rfl (.cons rfl (.cons rfl (.cons rfl (.cons rfl .nil))))) 9 rfl ?_
  rintro ⟨i, mT, mS, lT, lS⟩ ⟨hi, eT, eS⟩
  dsimp only at hi eT eS
  have hlT : lT.length = i := by rw [eT, List.length_replicate]
  have hlS : lS.length = i := by rw [eS, List.length_replicate]
  refine ACode.seq (ACode.region ?_)
  refine ASeq.q rfl rfl (QOp.cmp rfl rfl rfl rfl) ?_
  refine ASeq.nil ?_
  refine ACode.seq ?_
  refine ACode.cond _ rfl (fun hb => ?_) (fun hb => ?_)
  · have hlt : i < t.exprs.length := by have := of_decide_eq_true hb; rw [hEl] at this; omega
    refine ACode.skip (ACode.seq (ACode.block (ACode.seq (ACode.region ?_))))
    refine ASeq.q rfl rfl (QOp.fieldM rfl rfl (tok _ rfl) rfl rfl (by decide) rfl) ?_
    refine ASeq.q rfl rfl (QOp.fieldM rfl rfl (tok _ rfl) rfl rfl (by decide) rfl) ?_
    refine ASeq.q rfl rfl (QOp.loadM 8 rfl rfl rfl (tok _ rfl) rfl) ?_
    refine ASeq.op rfl rfl (AOp.buildSliceR rfl (tok _ rfl) rfl (tok _ rfl) (by decide) rfl (by decide) rfl rfl rfl rfl ?_)
    refine ASeq.op rfl rfl (AOp.appendMP 0 (e := 3) (tde := TT 3) rfl rfl rfl rfl (tok _ rfl) rfl (tok _ rfl) (tok _ rfl) rfl (by decide) rfl rfl (fun _ => rfl) (vi_len lT) (row1 _) (by simp only [CS.init, List.length_cons, List.length_nil]; omega) rfl (fun _ => ?_))
    refine ASeq.q rfl rfl (QOp.fieldM rfl rfl (tok _ rfl) rfl rfl (by decide) rfl) ?_
    refine ASeq.q rfl rfl (QOp.fieldM rfl rfl (tok _ rfl) rfl rfl (by decide) rfl) ?_
    refine ASeq.op0 rfl rfl (AOp.storeP 8 rfl rfl rfl rfl (tok _ rfl) rfl rfl rfl rfl ?_)
    refine ASeq.nil ?_
    refine ACode.region ?_
    refine ASeq.q rfl rfl (QOp.fieldM rfl rfl (tok _ rfl) rfl rfl (by decide) rfl) ?_
    refine ASeq.q rfl rfl (QOp.fieldM rfl rfl (tok _ rfl) rfl rfl (by decide) rfl) ?_
    refine ASeq.q rfl rfl (QOp.loadM 8 rfl rfl rfl (tok _ rfl) rfl) ?_
    refine ASeq.op rfl rfl (AOp.buildSliceR rfl (tok _ rfl) rfl (tok _ rfl) (by decide) rfl (by decide) rfl rfl rfl rfl ?_)
    refine ASeq.op rfl rfl (AOp.appendMP 1 (e := 3) (tde := TT 3) rfl rfl rfl rfl (tok _ rfl) rfl (tok _ rfl) (tok _ rfl) rfl (by decide) rfl rfl (fun _ => rfl) (vi_len lS) (row1 _) (by simp only [CS.init, List.length_cons, List.length_nil]; omega) rfl (fun _ => ?_))
    refine ASeq.q rfl rfl (QOp.fieldM rfl rfl (tok _ rfl) rfl rfl (by decide) rfl) ?_
    refine ASeq.q rfl rfl (QOp.fieldM rfl rfl (tok _ rfl) rfl rfl (by decide) rfl) ?_
    refine ASeq.op0 rfl rfl (AOp.storeP 8 rfl rfl rfl rfl (tok _ rfl) rfl rfl rfl rfl ?_)
    refine ASeq.nil ?_
    refine ACode.region ?_
    refine ASeq.q rfl rfl (QOp.ar64 rfl rfl rfl rfl ⟨by omega, by omega⟩) ?_
    refine ASeq.q rfl rfl (QOp.move rfl rfl) ?_
    refine ASeq.nil ?_
    refine AExit.then_normal ?_
    exact ⟨(i + 1, _, _, lT ++ [0], lS ++ [-1]), 9, ⟨hlt, by dsimp only; rw [eT, rep_succ], by dsimp only; rw [eS, rep_succ]⟩, by dsimp only; omega, .cons rfl (.cons rfl (.cons rfl (.cons rfl (.cons rfl .nil)))), by simp only [List.map_append, CS.init, CS.cells, List.length_append]; rfl⟩
  have hge : i = t.exprs.length := by have := of_decide_eq_false hb; rw [hEl] at this; omega
  refine ACode.exit (ACode.seq (ACode.seq (ACode.region ?_)))
  refine ASeq.q rfl rfl (QOp.fieldM rfl rfl (tok _ rfl) rfl rfl (by decide) rfl) ?_
  refine ASeq.q rfl rfl (QOp.loadM 6 rfl rfl rfl (tok _ rfl) rfl) ?_
  refine ASeq.q rfl rfl (QOp.lenI rfl rfl (tok _ rfl) rfl) ?_
  refine ASeq.q rfl rfl (QOp.move rfl rfl) ?_
  refine ASeq.nil ?_
  refine ACode.block ?_
  refine ACode.loopP (fun (x : Nat × Nat × Nat × List Int × List Int) => [(1, .mp m1 0), (2, .mp m2 0), (5, .mp m5 0), (35, vi ((t.stmts.map St.cells).length : Int)), (36, vi x.1)])
    (fun x => [.mu mT (lT.map vi), .mu mS (lS.map vi), .mu x.2.1 (x.2.2.2.1.map vi), .mu x.2.2.1 (x.2.2.2.2.map vi), .mu mL [], .tk τ, .mu m1 t.cells, .mu m2 (List.map AV.v (TT 44).zero), .mu m5 ((CS.init t lT lS x.2.2.2.1 x.2.2.2.2 0).cells ⟨mT, mS, x.2.1, x.2.2.1, mL⟩)]) (fun x => t.stmts.length - x.1)
    (fun x => x.1 ≤ t.stmts.length ∧ x.2.2.2.1 = List.replicate x.1 (-1) ∧ x.2.2.2.2 = List.replicate x.1 0) (0, mP, mF, [], []) ⟨Nat.zero_le _, rfl, rfl⟩ (.cons rfl (.cons rfl (.cons rfl (.cons rfl (.cons rfl .nil))))) 9 rfl ?_
  rintro ⟨j, mP, mF, lP, lF⟩ ⟨hj, eP, eF⟩
  dsimp only at hj eP eF
  have hlP : lP.length = j := by rw [eP, List.length_replicate]
  have hlF : lF.length = j := by rw [eF, List.length_replicate]
  refine ACode.seq (ACode.region ?_)
  refine ASeq.q rfl rfl (QOp.cmp rfl rfl rfl rfl) ?_
  refine ASeq.nil ?_
  refine ACode.seq ?_
  refine ACode.cond _ rfl (fun hb => ?_) (fun hb => ?_)
  · have hlt : j < t.stmts.length := by have := of_decide_eq_true hb; rw [hSl] at this; omega
    refine ACode.skip (ACode.seq (ACode.block (ACode.seq (ACode.region ?_))))
    refine ASeq.q rfl rfl (QOp.fieldM rfl rfl (tok _ rfl) rfl rfl (by decide) rfl) ?_
    refine ASeq.q rfl rfl (QOp.fieldM rfl rfl (tok _ rfl) rfl rfl (by decide) rfl) ?_
    refine ASeq.q rfl rfl (QOp.loadM 8 rfl rfl rfl (tok _ rfl) rfl) ?_
    refine ASeq.op rfl rfl (AOp.buildSliceR rfl (tok _ rfl) rfl (tok _ rfl) (by decide) rfl (by decide) rfl rfl rfl rfl ?_)
    refine ASeq.op rfl rfl (AOp.appendMP 2 (e := 3) (tde := TT 3) rfl rfl rfl rfl (tok _ rfl) rfl (tok _ rfl) (tok _ rfl) rfl (by decide) rfl rfl (fun _ => rfl) (vi_len lP) (row1 _) (by simp only [CS.init, List.length_cons, List.length_nil]; omega) rfl (fun _ => ?_))
    refine ASeq.q rfl rfl (QOp.fieldM rfl rfl (tok _ rfl) rfl rfl (by decide) rfl) ?_
    refine ASeq.q rfl rfl (QOp.fieldM rfl rfl (tok _ rfl) rfl rfl (by decide) rfl) ?_
    refine ASeq.op0 rfl rfl (AOp.storeP 8 rfl rfl rfl rfl (tok _ rfl) rfl rfl rfl rfl ?_)
    refine ASeq.nil ?_
    refine ACode.region ?_
    refine ASeq.q rfl rfl (QOp.fieldM rfl rfl (tok _ rfl) rfl rfl (by decide) rfl) ?_
    refine ASeq.q rfl rfl (QOp.fieldM rfl rfl (tok _ rfl) rfl rfl (by decide) rfl) ?_
    refine ASeq.q rfl rfl (QOp.loadM 8 rfl rfl rfl (tok _ rfl) rfl) ?_
    refine ASeq.op rfl rfl (AOp.buildSliceR rfl (tok _ rfl) rfl (tok _ rfl) (by decide) rfl (by decide) rfl rfl rfl rfl ?_)
    refine ASeq.op rfl rfl (AOp.appendMP 3 (e := 3) (tde := TT 3) rfl rfl rfl rfl (tok _ rfl) rfl (tok _ rfl) (tok _ rfl) rfl (by decide) rfl rfl (fun _ => rfl) (vi_len lF) (row1 _) (by simp only [CS.init, List.length_cons, List.length_nil]; omega) rfl (fun _ => ?_))
    refine ASeq.q rfl rfl (QOp.fieldM rfl rfl (tok _ rfl) rfl rfl (by decide) rfl) ?_
    refine ASeq.q rfl rfl (QOp.fieldM rfl rfl (tok _ rfl) rfl rfl (by decide) rfl) ?_
    refine ASeq.op0 rfl rfl (AOp.storeP 8 rfl rfl rfl rfl (tok _ rfl) rfl rfl rfl rfl ?_)
    refine ASeq.nil ?_
    refine ACode.region ?_
    refine ASeq.q rfl rfl (QOp.ar64 rfl rfl rfl rfl ⟨by omega, by omega⟩) ?_
    refine ASeq.q rfl rfl (QOp.move rfl rfl) ?_
    refine ASeq.nil ?_
    refine AExit.then_normal ?_
    exact ⟨(j + 1, _, _, lP ++ [-1], lF ++ [0]), 9, ⟨hlt, by dsimp only; rw [eP, rep_succ], by dsimp only; rw [eF, rep_succ]⟩, by dsimp only; omega, .cons rfl (.cons rfl (.cons rfl (.cons rfl (.cons rfl .nil)))), by simp only [List.map_append, CS.init, CS.cells, List.length_append]; rfl⟩
  have hgj : j = t.stmts.length := by have := of_decide_eq_false hb; rw [hSl] at this; omega
  subst hge
  subst hgj
  have hfull : ∀ k, CS.init t lT lS lP lF k = { c0 t with slots := List.replicate k [] } := fun k => by
    unfold CS.init c0; rw [eT, eS, eP, eF]
  refine ACode.exit (ACode.seq (ACode.seq (ACode.region ?_)))
  refine ASeq.q rfl rfl (QOp.fieldM rfl rfl (tok _ rfl) rfl rfl (by decide) rfl) ?_
  refine ASeq.q rfl rfl (QOp.loadM 6 rfl rfl rfl (tok _ rfl) rfl) ?_
  refine ASeq.q rfl rfl (QOp.lenI rfl rfl (tok _ rfl) rfl) ?_
  refine ASeq.q rfl rfl (QOp.move rfl rfl) ?_
  refine ASeq.nil ?_
  refine ACode.block ?_
  refine ACode.loopP (fun (x : Nat × Nat × CS) => [(1, .mp m1 0), (2, .mp m2 0), (5, .mp m5 0), (55, vi ((t.funcs.map Fu.cells).length : Int)), (56, vi x.1)])
    (fun x => [.mu mT (lT.map vi), .mu mS (lS.map vi), .mu mP (lP.map vi), .mu mF (lF.map vi), .mu x.2.1 (List.replicate x.1 nilv), .tk τ, .mu m1 t.cells, .mu m2 (List.map AV.v (TT 44).zero), .mu m5 (CS.cells { x.2.2 with slots := List.replicate x.1 [] } ⟨mT, mS, mP, mF, x.2.1⟩)]) (fun x => t.funcs.length - x.1)
    (fun x => x.1 ≤ t.funcs.length ∧ Kept (c0 t) x.2.2 ∧ x.2.2.type = lT ∧ x.2.2.slot = lS ∧ dups (t.funcs.take x.1) (t.funcs.drop x.1) x.2.2 = dups [] t.funcs (c0 t)) (0, mL, c0 t) ⟨Nat.zero_le _, .refl _, eT.symm, eS.symm, by simp⟩ (.cons rfl (.cons rfl (.cons rfl (.cons rfl (.cons rfl .nil))))) 9 (by rw [hfull]; rfl) ?_
  rintro ⟨i, mL, d⟩ ⟨hi, hkd, edT, edS, hres⟩
  dsimp only at hi hkd edT edS hres
  have hdt : d.t = t := hkd.t
  refine ACode.seq (ACode.region ?_)
  refine ASeq.q rfl rfl (QOp.cmp rfl rfl rfl rfl) ?_
  refine ASeq.nil ?_
  refine ACode.seq ?_
  refine ACode.cond _ rfl (fun hb => ?_) (fun hb => ?_)
  · have hlt : i < t.funcs.length := by have := of_decide_eq_true hb; rw [hFl] at this; omega
    have hgi := fu_at hlt
    rw [dups_drop _ _ _ hlt] at hres
    refine ACode.skip (ACode.seq (ACode.block (ACode.seq (ACode.region ?_))))
    refine ASeq.q rfl rfl (QOp.move rfl rfl) ?_
    refine ASeq.q rfl rfl (QOp.assign rfl rfl) ?_
    refine ASeq.nil ?_
    refine ACode.seq (ACode.region ?_)
    refine ASeq.q rfl rfl (QOp.fieldM rfl rfl (tok _ rfl) rfl rfl (by decide) rfl) ?_
    refine ASeq.q rfl rfl (QOp.fieldM rfl rfl (tok _ rfl) rfl rfl (by decide) rfl) ?_
    refine ASeq.q rfl rfl (QOp.loadM 8 rfl rfl rfl (tok _ rfl) rfl) ?_
    refine ASeq.op rfl rfl (AOp.buildSliceR rfl (tok _ rfl) rfl (tok _ rfl) (by decide) rfl (by decide) rfl rfl rfl rfl ?_)
    refine ASeq.op rfl rfl (AOp.appendMP 4 (e := 30) (tde := TT 30) rfl rfl rfl rfl (tok _ rfl) rfl (tok _ rfl) (tok _ rfl) rfl (by decide) rfl rfl (fun _ => rfl) (by simp only [List.length_replicate]; exact (Nat.mul_one _).symm) (row1 _) (by simp only [List.length_cons, List.length_nil, List.length_replicate]; omega) rfl (fun _ => ?_))
    rename_i mL2
    refine ASeq.q rfl rfl (QOp.fieldM rfl rfl (tok _ rfl) rfl rfl (by decide) rfl) ?_
    refine ASeq.q rfl rfl (QOp.fieldM rfl rfl (tok _ rfl) rfl rfl (by decide) rfl) ?_
    refine ASeq.op0 rfl rfl (AOp.storeP 8 rfl rfl rfl rfl (tok _ rfl) rfl rfl rfl rfl ?_)
    refine ASeq.nil ?_
    refine ACode.seq (ACode.region ?_)
    refine ASeq.q rfl rfl (QOp.assign rfl rfl) ?_
    refine ASeq.nil ?_
    refine ACode.block ?_
    refine ACode.loopP (fun (x : Nat × CS) => [(1, .mp m1 0), (2, .mp m2 0), (5, .mp m5 0), (55, vi ((t.funcs.map Fu.cells).length : Int)), (56, vi i), (6, vi i), (7, vi x.1)])
      (fun x => [.mu mT (lT.map vi), .mu mS (lS.map vi), .mu mP (lP.map vi), .mu mF (lF.map vi), .mu mL2 (List.replicate (i + 1) nilv), .tk τ, .mu m1 t.cells, .mu m2 (List.map AV.v (TT 44).zero), .mu m5 (CS.cells { x.2 with slots := List.replicate (i + 1) [] } ⟨mT, mS, mP, mF, mL2⟩)]) (fun x => i - x.1)
      (fun x => x.1 ≤ i ∧ Kept d x.2 ∧ x.2.type = lT ∧ x.2.slot = lS ∧ dupOf t.funcs[i] ((t.funcs.take i).drop x.1) x.2 = dupOf t.funcs[i] (t.funcs.take i) d) (0, d) ⟨Nat.zero_le _, .refl _, edT, edS, rfl⟩ (.cons rfl (.cons rfl (.cons rfl (.cons rfl (.cons rfl (.cons rfl (.cons rfl .nil))))))) 9
      (by simp only [← rep_succ, CS.cells, List.length_append]; rfl) ?_
    rintro ⟨j, e⟩ ⟨hj, hke, eeT, eeS, hres2⟩
    dsimp only at hj hke eeT eeS hres2
    have het : e.t = t := hke.t.trans hdt
    refine ACode.seq (ACode.seq (ACode.region ?_))
    refine ASeq.q rfl rfl (QOp.move rfl rfl) ?_
    refine ASeq.q rfl rfl (QOp.move rfl rfl) ?_
    refine ASeq.q rfl rfl (QOp.cmp rfl rfl rfl rfl) ?_
    refine ASeq.nil ?_
    refine AExit.then_normal ?_
    refine ACode.cond _ rfl (fun hb => ?_) (fun hb => ?_)
    · have hjl : j < i := by have := of_decide_eq_true hb; omega
      have hgj := fu_at (t := t) (i := j) (by omega)
      have htj : (t.funcs.take i)[j]'(by rw [List.length_take]; omega) = t.funcs[j] := List.getElem_take ..
      rw [dupOf_drop _ _ _ _ (by rw [List.length_take]; omega), htj] at hres2
      refine ACode.skip (ACode.seq (ACode.block ?_))
      refine ACode.drawn [[], [], [1], [], [1, 2, 3], [1, 2, 3, 4], [1, 2, 3, 4, 5], [], [7], [], [7, 8, 9], [7, 8, 9, 10], [7, 8, 9, 10, 11], [1, 2, 3, 4, 5, 6, 7, 8, 9, 10, 11, 12], [], [14], [], [14, 15, 16], [14, 15, 16, 17], [14, 15, 16, 17, 18], [14, 15, 16, 17, 18, 19], [0, 1, 2, 3, 4, 5, 6, 7, 8, 9, 10, 11, 12, 13, 14, 15, 16, 17, 18, 19, 20], [0, 1, 2, 3, 4, 5, 6, 7, 8, 9, 10, 11, 12, 13, 14, 15, 16, 17, 18, 19, 20, 21]] (by kernel_rfl) mixed ?_
      refine DAny.ld 0 rfl rfl (by kernel_rfl) rfl (.does _ _ rfl (.none rfl) (QOp.loadM 8 rfl rfl rfl (tok _ rfl) rfl)) ?_
      refine DAny.qu 1 rfl rfl (by kernel_rfl) rfl (fun _ => .does _ _ rfl (.none rfl) (QOp.fieldM rfl rfl (tok _ rfl) rfl rfl (by decide) rfl)) ?_
      refine DAny.ld 2 rfl rfl (by kernel_rfl) rfl (.does _ _ rfl (.none rfl) (QOp.loadM 6 rfl rfl rfl (tok _ rfl) rfl)) ?_
      refine DAny.qu 3 rfl rfl (by kernel_rfl) rfl (fun _ => .does _ _ rfl (.none rfl) (QOp.move rfl rfl)) ?_
      refine DAny.qu 4 rfl rfl (by kernel_rfl) rfl (fun _ => .does _ _ rfl (.none rfl) (QOp.indexI rfl rfl rfl (tok _ rfl) rfl (tok _ rfl) (by omega) (by assumption))) ?_
      refine DAny.qu 5 rfl rfl (by kernel_rfl) rfl (fun _ => .does _ _ rfl (.none rfl) (QOp.fieldI rfl rfl (tok _ rfl) rfl rfl (by decide) rfl)) ?_
      refine DAny.qu 6 rfl rfl (by kernel_rfl) rfl (fun _ => .does _ _ rfl (.none rfl) (QOp.loadI rfl rfl (tok _ rfl) rfl)) ?_
      refine DAny.qu 7 rfl rfl (by kernel_rfl) rfl (fun _ => .does _ _ rfl (.none rfl) (QOp.fieldM rfl rfl (tok _ rfl) rfl rfl (by decide) rfl)) ?_
      refine DAny.ld 8 rfl rfl (by kernel_rfl) rfl (.does _ _ rfl (.none rfl) (QOp.loadM 6 rfl rfl rfl (tok _ rfl) rfl)) ?_
      refine DAny.qu 9 rfl rfl (by kernel_rfl) rfl (fun _ => .does _ _ rfl (.none rfl) (QOp.move rfl rfl)) ?_
      refine DAny.qu 10 rfl rfl (by kernel_rfl) rfl (fun _ => .does _ _ rfl (.none rfl) (QOp.indexI rfl rfl rfl (tok _ rfl) rfl (tok _ rfl) (by omega) (by assumption))) ?_
      refine DAny.qu 11 rfl rfl (by kernel_rfl) rfl (fun _ => .does _ _ rfl (.none rfl) (QOp.fieldI rfl rfl (tok _ rfl) rfl rfl (by decide) rfl)) ?_
      refine DAny.qu 12 rfl rfl (by kernel_rfl) rfl (fun _ => .does _ _ rfl (.none rfl) (QOp.loadI rfl rfl (tok _ rfl) rfl)) ?_
      refine DAny.qu 13 rfl rfl (by kernel_rfl) rfl (fun _ => .does _ _ rfl (.none rfl) (QOp.cmpStr rfl rfl rfl rfl)) ?_
      refine DAny.qu 14 rfl rfl (by kernel_rfl) rfl (fun _ => .does _ _ rfl (.none rfl) (QOp.fieldM rfl rfl (tok _ rfl) rfl rfl (by decide) rfl)) ?_
      refine DAny.ld 15 rfl rfl (by kernel_rfl) rfl (.does _ _ rfl (.none rfl) (QOp.loadM 6 rfl rfl rfl (tok _ rfl) rfl)) ?_
      refine DAny.qu 16 rfl rfl (by kernel_rfl) rfl (fun _ => .does _ _ rfl (.none rfl) (QOp.move rfl rfl)) ?_
      refine DAny.qu 17 rfl rfl (by kernel_rfl) rfl (fun _ => .does _ _ rfl (.none rfl) (QOp.indexI rfl rfl rfl (tok _ rfl) rfl (tok _ rfl) (by omega) (by assumption))) ?_
      refine DAny.qu 18 rfl rfl (by kernel_rfl) rfl (fun _ => .does _ _ rfl (.none rfl) (QOp.fieldI rfl rfl (tok _ rfl) rfl rfl (by decide) rfl)) ?_
      refine DAny.qu 19 rfl rfl (by kernel_rfl) rfl (fun _ => .does _ _ rfl (.none rfl) (QOp.fieldI rfl rfl (tok _ rfl) rfl rfl (by decide) rfl)) ?_
      refine DAny.qu 20 rfl rfl (by kernel_rfl) rfl (fun _ => .does _ _ rfl (.none rfl) (QOp.loadI rfl rfl (tok _ rfl) rfl)) ?_
      refine DAny.ef 21 rfl (by kernel_rfl) (.none rfl) rfl rfl (AOp.callP 0 rfl (by kernel_rfl) rfl rfl rfl (need_ok _ _ _ _ 7) ?_ (by rintro _ _ ⟨⟩))
      rintro _ _ ⟨⟩
      refine ⟨(by ((exact AllQ.nil))), ?_⟩
      refine DAny.ef0 22 rfl (by kernel_rfl) (.none rfl) rfl rfl (AOp.storeP 8 rfl rfl rfl rfl (tok _ rfl) rfl rfl rfl rfl ⟨(by ((exact AllQ.nil))), ?_⟩)
      refine DAny.done (by kernel_rfl) ?_
      refine ACode.region ?_
      refine ASeq.q rfl rfl (QOp.move rfl rfl) ?_
      refine ASeq.q rfl rfl (QOp.ar64 rfl rfl rfl rfl ⟨by omega, by omega⟩) ?_
      refine ASeq.q rfl rfl (QOp.assign rfl rfl) ?_
      refine ASeq.nil ?_
      refine AExit.then_normal ?_
      have hkn := Kept.need e (!(t.funcs[j].name.data.toList == t.funcs[i].name.data.toList)) t.funcs[i].fr 7
      exact ⟨(j + 1, e.need (!(t.funcs[j].name.data.toList == t.funcs[i].name.data.toList)) t.funcs[i].fr 7), 9, ⟨hjl, hke.trans hkn, by dsimp only; rw [← eeT]; unfold CS.need; split <;> rfl, by dsimp only; rw [← eeS]; unfold CS.need; split <;> rfl, hres2⟩, by dsimp only; omega,
        .cons rfl (.cons rfl (.cons rfl (.cons rfl (.cons rfl (.cons rfl (.cons rfl .nil)))))), by dsimp only; rw [← need_with]; rfl⟩
    · have hge : j = i := by have := of_decide_eq_false hb; omega
      have htl : (t.funcs.take i).drop j = [] := List.drop_eq_nil_of_le (by rw [List.length_take]; omega)
      rw [htl] at hres2
      simp only [dupOf] at hres2
      rw [← hres2] at hres
      refine ACode.exit (ACode.region ?_)
      refine ASeq.q rfl rfl (QOp.ar64 rfl rfl rfl rfl ⟨by omega, by omega⟩) ?_
      refine ASeq.q rfl rfl (QOp.move rfl rfl) ?_
      refine ASeq.nil ?_
      refine AExit.then_normal ?_
      exact ⟨(i + 1, mL2, e), 9, ⟨hlt, hkd.trans hke, eeT, eeS, hres⟩, by dsimp only; omega, .cons rfl (.cons rfl (.cons rfl (.cons rfl (.cons rfl .nil)))), rfl⟩
  have hge : i = t.funcs.length := by have := of_decide_eq_false hb; rw [hFl] at this; omega
  subst hge
  rw [List.take_length, List.drop_length] at hres
  simp only [dups] at hres
  have hds : d.slots = List.replicate t.funcs.length [] := hkd.slots
  have hdw : ({ d with slots := List.replicate t.funcs.length [] } : CS) = d := by rw [← hds]
  rw [hdw]
  have hf0 := h.some
  have hfd : d.fu 0 = t.funcs[0] := by
    unfold CS.fu
    simp only [hkd.t, c0, List.getD_eq_getElem?_getD, Int.toNat_zero, List.getElem?_eq_getElem h.some, Option.getD_some]
  have hsp : (c0 t).slotCells τ = CS.slotCells { t := default, type := [], slot := [], put := [], func := [], slots := List.replicate t.funcs.length [] } τ := rfl
  have hsd : d.slotCells τ = (c0 t).slotCells τ := by unfold CS.slotCells; rw [hkd.slots, hkd.f]
  have hnl := nils_le τ t.funcs.length
  rw [← hsp, ← hsd] at hnl
  have hitems : [Abs.Item.mu mT (lT.map vi), .mu mS (lS.map vi), .mu mP (lP.map vi), .mu mF (lF.map vi), .mu mL (d.slotCells τ), .tk τ] = d.items ⟨mT, mS, mP, mF, mL⟩ τ := by
    unfold CS.items
    rw [edT, edS, hkd.put, hkd.func, eP, eF]; rfl
  refine ACode.cells [_, _, _, _] [_, _, _, _] rfl hnl ?_
  show ACode Try.prog _ _ _ _ ([Abs.Item.mu mT (lT.map vi), .mu mS (lS.map vi), .mu mP (lP.map vi), .mu mF (lF.map vi), .mu mL (d.slotCells τ), .tk τ] ++ [.mu m1 t.cells, .mu m2 (List.map AV.v (TT 44).zero), .mu m5 (d.cells ⟨mT, mS, mP, mF, mL⟩)]) _
  rw [hitems]
  generalize (⟨mT, mS, mP, mF, mL⟩ : Ms) = m
  have hdt : d.t = t := hkd.t
  refine ACode.exit (ACode.seq ?_)
  refine ACode.drawn [[], [], [1], [1, 2], [1, 2, 3], [1, 2, 3, 4], [1, 2, 3, 4, 5], [0, 1, 2, 3, 4, 5, 6], [0, 1, 2, 3, 4, 5, 6, 7]] (by kernel_rfl) mixed ?_
  refine DAny.ld 0 rfl rfl (by kernel_rfl) rfl (.does _ _ rfl (.none rfl) (QOp.loadM 8 rfl rfl rfl (tok _ rfl) rfl)) ?_
  refine DAny.qu 1 rfl rfl (by kernel_rfl) rfl (fun _ => .does _ _ rfl (.none rfl) (QOp.fieldM rfl rfl (tok _ rfl) rfl rfl (by decide) rfl)) ?_
  refine DAny.ld 2 rfl rfl (by kernel_rfl) rfl (.does _ _ rfl (.none rfl) (QOp.loadM 6 rfl rfl rfl (tok _ rfl) rfl)) ?_
  refine DAny.qu 3 rfl rfl (by kernel_rfl) rfl (fun _ => .does _ _ rfl (.none rfl) (QOp.indexI rfl rfl rfl (tok _ rfl) rfl (tok _ rfl) (by decide) (by assumption))) ?_
  refine DAny.qu 4 rfl rfl (by kernel_rfl) rfl (fun _ => .does _ _ rfl (.none rfl) (QOp.fieldI rfl rfl (tok _ rfl) rfl rfl (by decide) rfl)) ?_
  refine DAny.qu 5 rfl rfl (by kernel_rfl) rfl (fun _ => .does _ _ rfl (.none rfl) (QOp.loadI rfl rfl (tok _ rfl) rfl)) ?_
  refine DAny.qu 6 rfl rfl (by kernel_rfl) rfl (fun _ => .does _ _ rfl (.none rfl) (QOp.cmpStr rfl rfl rfl rfl)) ?_
  refine DAny.ef 7 rfl (by kernel_rfl) (.none rfl) rfl rfl (AOp.callP 0 rfl (by kernel_rfl) rfl rfl rfl (need_ok _ _ _ _ 17) ?_ (by rintro _ _ ⟨⟩))
  rintro _ _ ⟨⟩
  refine ⟨(by ((exact AllQ.nil))), ?_⟩
  refine DAny.ef0 8 rfl (by kernel_rfl) (.none rfl) rfl rfl (AOp.storeP 8 rfl rfl rfl rfl (tok _ rfl) rfl rfl rfl rfl ⟨(by ((exact AllQ.nil))), ?_⟩)
  refine DAny.done (by kernel_rfl) ?_
  have hfc : faceOf d = (d.need (t.funcs[0].name.data.toList == [109, 97, 105, 110]) 0 17).need (((strs t.funcs[0].params).length : Int) == 0 && t.funcs[0].type == 4) t.funcs[0].fr 8 := by
    unfold faceOf; rw [hfd, strs_len]
  refine ACode.meet [(1, .mp m1 0), (2, .mp m2 0), (5, .mp m5 0)] (d.items m τ ++ [.mu m1 t.cells, .mu m2 (List.map AV.v (TT 44).zero), .mu m5 ((faceOf d).cells m)]) (fun rest => ?_) ?_
  · refine ACode.drawn [[], [], [1], [1, 2], [1, 2, 3], [1, 2, 3, 4], [1, 2, 3, 4, 5], [1, 2, 3, 4, 5, 6], [1, 2, 3, 4, 5, 6, 7], [1, 2, 3, 4, 5, 6, 7, 8], [1, 2, 3, 4, 5, 6, 7, 8, 9], [1, 2, 3, 4, 5, 6, 7, 8, 9, 10], [1, 2, 3, 4, 5, 6, 7, 8, 9, 10, 11], [1, 2, 3, 4, 5, 6, 7, 8, 9, 10, 11, 12], [1, 2, 3, 4, 5, 6, 7, 8, 9, 10, 11, 12, 13], [1, 2, 3, 4, 5, 6, 7, 8, 9, 10, 11, 12, 13, 14], [], [16], [16, 17], [16, 17, 18], [16, 17, 18, 19], [16, 17, 18, 19, 20], [0, 1, 2, 3, 4, 5, 6, 7, 8, 9, 10, 11, 12, 13, 14, 15, 16, 17, 18, 19, 20, 21], [0, 1, 2, 3, 4, 5, 6, 7, 8, 9, 10, 11, 12, 13, 14, 15, 16, 17, 18, 19, 20, 21, 22]] (by kernel_rfl) mixed ?_
    refine DAny.ld 0 rfl rfl (by kernel_rfl) rfl (.does _ _ rfl (.none rfl) (QOp.loadM 8 rfl rfl rfl (tok _ rfl) rfl)) ?_
    refine DAny.qu 1 rfl rfl (by kernel_rfl) rfl (fun _ => .does _ _ rfl (.none rfl) (QOp.fieldM rfl rfl (tok _ rfl) rfl rfl (by decide) rfl)) ?_
    refine DAny.ld 2 rfl rfl (by kernel_rfl) rfl (.does _ _ rfl (.none rfl) (QOp.loadM 6 rfl rfl rfl (tok _ rfl) rfl)) ?_
    refine DAny.qu 3 rfl rfl (by kernel_rfl) rfl (fun _ => .does _ _ rfl (.none rfl) (QOp.indexI rfl rfl rfl (tok _ rfl) rfl (tok _ rfl) (by decide) (by assumption))) ?_
    refine DAny.qu 4 rfl rfl (by kernel_rfl) rfl (fun _ => .does _ _ rfl (.none rfl) (QOp.fieldI rfl rfl (tok _ rfl) rfl rfl (by decide) rfl)) ?_
    refine DAny.qu 5 rfl rfl (by kernel_rfl) rfl (fun _ => .does _ _ rfl (.none rfl) (QOp.loadI rfl rfl (tok _ rfl) rfl)) ?_
    refine DAny.qu 6 rfl rfl (by kernel_rfl) rfl (fun _ => .does _ _ rfl (.none rfl) (QOp.lenI rfl rfl (tok _ rfl) rfl)) ?_
    refine DAny.qu 7 rfl rfl (by kernel_rfl) rfl (fun _ => .does _ _ rfl (.none rfl) (QOp.cmp rfl rfl rfl rfl)) ?_
    refine DAny.qu 8 rfl rfl (by kernel_rfl) rfl (fun _ => .does _ _ rfl (.none rfl) (QOp.move rfl rfl)) ?_
    refine DAny.qu 16 rfl rfl (by kernel_rfl) rfl (fun _ => .does _ _ rfl (.none rfl) (QOp.fieldM rfl rfl (tok _ rfl) rfl rfl (by decide) rfl)) ?_
    refine DAny.ld 17 rfl rfl (by kernel_rfl) rfl (.does _ _ rfl (.none rfl) (QOp.loadM 6 rfl rfl rfl (tok _ rfl) rfl)) ?_
    refine DAny.qu 18 rfl rfl (by kernel_rfl) rfl (fun _ => .does _ _ rfl (.none rfl) (QOp.indexI rfl rfl rfl (tok _ rfl) rfl (tok _ rfl) (by decide) (by assumption))) ?_
    refine DAny.qu 19 rfl rfl (by kernel_rfl) rfl (fun _ => .does _ _ rfl (.none rfl) (QOp.fieldI rfl rfl (tok _ rfl) rfl rfl (by decide) rfl)) ?_
    refine DAny.qu 20 rfl rfl (by kernel_rfl) rfl (fun _ => .does _ _ rfl (.none rfl) (QOp.fieldI rfl rfl (tok _ rfl) rfl rfl (by decide) rfl)) ?_
    refine DAny.qu 21 rfl rfl (by kernel_rfl) rfl (fun _ => .does _ _ rfl (.none rfl) (QOp.loadI rfl rfl (tok _ rfl) rfl)) ?_
    -- STOP at 9 (listed 0,1,2,3,4,5,6,7,8,16,17,18,19,20,21)
    refine DAny.split 110 (((strs t.funcs[0].params).length : Int) == 0) rfl (fun hp => ?_) (fun hp => ?_)
    · rw [hp, Bool.true_and] at hfc
      refine DAny.qu 9 rfl rfl (by kernel_rfl) rfl (fun _ => .does _ _ rfl (by exact .yes _ _ _ rfl rfl rfl) (QOp.fieldM rfl rfl (tok _ rfl) rfl rfl (by decide) rfl)) ?_
      refine DAny.ld 10 rfl rfl (by kernel_rfl) rfl (.does _ _ rfl (by exact .yes _ _ _ rfl rfl rfl) (QOp.loadM 6 rfl rfl rfl (tok _ rfl) rfl)) ?_
      refine DAny.qu 11 rfl rfl (by kernel_rfl) rfl (fun _ => .does _ _ rfl (by exact .yes _ _ _ rfl rfl rfl) (QOp.indexI rfl rfl rfl (tok _ rfl) rfl (tok _ rfl) (by decide) (by assumption))) ?_
      refine DAny.qu 12 rfl rfl (by kernel_rfl) rfl (fun _ => .does _ _ rfl (by exact .yes _ _ _ rfl rfl rfl) (QOp.fieldI rfl rfl (tok _ rfl) rfl rfl (by decide) rfl)) ?_
      refine DAny.qu 13 rfl rfl (by kernel_rfl) rfl (fun _ => .does _ _ rfl (by exact .yes _ _ _ rfl rfl rfl) (QOp.loadI rfl rfl (tok _ rfl) rfl)) ?_
      refine DAny.qu 14 rfl rfl (by kernel_rfl) rfl (fun _ => .does _ _ rfl (by exact .yes _ _ _ rfl rfl rfl) (QOp.cmp rfl rfl rfl rfl)) ?_
      refine DAny.qu 15 rfl rfl (by kernel_rfl) rfl (fun _ => .does _ _ rfl (.none rfl) (QOp.pickT rfl rfl rfl)) ?_
      refine DAny.ef 22 rfl (by kernel_rfl) (.none rfl) rfl rfl (AOp.callP 0 rfl (by kernel_rfl) rfl rfl rfl (need_ok _ _ _ _ 8) ?_ (by rintro _ _ ⟨⟩))
      rintro _ _ ⟨⟩
      refine ⟨(by ((exact AllQ.nil))), ?_⟩
      refine DAny.ef0 23 rfl (by kernel_rfl) (.none rfl) rfl rfl (AOp.storeP 8 rfl rfl rfl rfl (tok _ rfl) rfl rfl rfl rfl ⟨(by ((exact AllQ.nil))), ?_⟩)
      refine DAny.done (by kernel_rfl) ?_
      refine AExit.then_normal ?_
      exact rest.atP 9 (.cons rfl (.cons rfl (.cons rfl .nil))) (by rw [hfc]; rfl)
    · rw [hp, Bool.false_and] at hfc
      refine DAny.qu 9 rfl rfl (by kernel_rfl) rfl (fun _ => .passed _ rfl (.no _ _ _ rfl rfl rfl rfl)) ?_
      refine DAny.qu 10 rfl rfl (by kernel_rfl) rfl (fun _ => .passed _ rfl (.no _ _ _ rfl rfl rfl rfl)) ?_
      refine DAny.qu 11 rfl rfl (by kernel_rfl) rfl (fun _ => .passed _ rfl (.no _ _ _ rfl rfl rfl rfl)) ?_
      refine DAny.qu 12 rfl rfl (by kernel_rfl) rfl (fun _ => .passed _ rfl (.no _ _ _ rfl rfl rfl rfl)) ?_
      refine DAny.qu 13 rfl rfl (by kernel_rfl) rfl (fun _ => .passed _ rfl (.no _ _ _ rfl rfl rfl rfl)) ?_
      refine DAny.qu 14 rfl rfl (by kernel_rfl) rfl (fun _ => .passed _ rfl (.no _ _ _ rfl rfl rfl rfl)) ?_
      refine DAny.qu 15 rfl rfl (by kernel_rfl) rfl (fun _ => .does _ _ rfl (.none rfl) (QOp.pickF rfl rfl rfl)) ?_
      refine DAny.ef 22 rfl (by kernel_rfl) (.none rfl) rfl rfl (AOp.callP 0 rfl (by kernel_rfl) rfl rfl rfl (need_ok _ _ _ _ 8) ?_ (by rintro _ _ ⟨⟩))
      rintro _ _ ⟨⟩
      refine ⟨(by ((exact AllQ.nil))), ?_⟩
      refine DAny.ef0 23 rfl (by kernel_rfl) (.none rfl) rfl rfl (AOp.storeP 8 rfl rfl rfl rfl (tok _ rfl) rfl rfl rfl rfl ⟨(by ((exact AllQ.nil))), ?_⟩)
      refine DAny.done (by kernel_rfl) ?_
      refine AExit.then_normal ?_
      exact rest.atP 9 (.cons rfl (.cons rfl (.cons rfl .nil))) (by rw [hfc]; rfl)
  have hpre := pre0 t
  rw [← hres] at hpre
  have hid : d.items m τ = (faceOf d).items m τ := by unfold faceOf; rw [items_need, items_need]
  have hck : checked t = funs 0 t.funcs (faceOf d) := by unfold checked; rw [hres]
  rw [hid]
  generalize faceOf d = e0 at hpre hck
  refine ACode.seq (ACode.seq (ACode.region ?_))
  refine ASeq.q rfl rfl (QOp.fieldM rfl rfl (tok _ rfl) rfl rfl (by decide) rfl) ?_
  refine ASeq.q rfl rfl (QOp.loadM 6 rfl rfl rfl (tok _ rfl) rfl) ?_
  refine ASeq.q rfl rfl (QOp.lenI rfl rfl (tok _ rfl) rfl) ?_
  refine ASeq.q rfl rfl (QOp.move rfl rfl) ?_
  refine ASeq.nil ?_
  refine ACode.block ?_
  refine ACode.loopP (fun (x : Nat × CS × Nat) => [(1, .mp m1 0), (2, .mp m2 0), (5, .mp m5 0), (127, vi ((t.funcs.map Fu.cells).length : Int)), (128, vi x.1)])
    (fun x => x.2.1.items m x.2.2 ++ [.mu m1 t.cells, .mu m2 (List.map AV.v (TT 44).zero), .mu m5 (x.2.1.cells m)]) (fun x => t.funcs.length - x.1)
    (fun x => x.1 ≤ t.funcs.length ∧ Pre t x.1 x.2.1 ∧ funs x.1 (t.funcs.drop x.1) x.2.1 = checked t) (0, e0, τ) ⟨Nat.zero_le _, hpre, hck.symm⟩ (.cons rfl (.cons rfl (.cons rfl (.cons rfl (.cons rfl .nil))))) 9 rfl ?_
  clear hck hpre hid hfc hres hnl hsd hsp hfd hdw hds hkd hitems hfull hlF hlP eP eF hlT hlS eT eS
  rintro ⟨i, c, τ⟩ ⟨hi, hpre, hres⟩
  dsimp only at hi hpre hres
  refine ACode.seq (ACode.region ?_)
  refine ASeq.q rfl rfl (QOp.cmp rfl rfl rfl rfl) ?_
  refine ASeq.nil ?_
  refine ACode.seq ?_
  refine ACode.cond _ rfl (fun hb => ?_) (fun hb => ?_)
  · have hlt : i < t.funcs.length := by have := of_decide_eq_true hb; rw [hFl] at this; omega
    have hgi := fu_at hlt
    have hok := hpre.enter hlt hbig
    have hle := enter_le hpre hlt τ
    rw [funs_drop _ _ _ hlt] at hres
    have hfu := h.fu _ (List.getElem_mem hlt)
    refine ACode.skip (ACode.seq (ACode.block (ACode.seq (ACode.region ?_))))
    refine ASeq.q rfl rfl (QOp.move rfl rfl) ?_
    refine ASeq.q rfl rfl (QOp.assign rfl rfl) ?_
    refine ASeq.nil ?_
    refine ACode.seq (ACode.region ?_)
    refine ASeq.q rfl rfl (QOp.move rfl rfl) ?_
    refine ASeq.q rfl rfl (QOp.fieldM rfl rfl (tok _ rfl) rfl rfl (by decide) rfl) ?_
    refine ASeq.op0 rfl rfl (AOp.storeP 8 rfl rfl rfl rfl (tok _ rfl) rfl rfl rfl rfl ?_)
    refine ASeq.nil ?_
    refine ACode.seq (ACode.region ?_)
    refine ASeq.q rfl rfl (QOp.fieldM rfl rfl (tok _ rfl) rfl rfl (by decide) rfl) ?_
    refine ASeq.op0 rfl rfl (AOp.storeP 8 rfl rfl rfl rfl (tok _ rfl) rfl rfl rfl rfl ?_)
    refine ASeq.nil ?_
    refine ACode.seq (ACode.region ?_)
    refine ASeq.q rfl rfl (QOp.fieldM rfl rfl (tok _ rfl) rfl rfl (by decide) rfl) ?_
    refine ASeq.op0 rfl rfl (AOp.storeP 8 rfl rfl rfl rfl (tok _ rfl) rfl rfl rfl rfl ?_)
    refine ASeq.nil ?_
    refine ACode.seq (ACode.seq (ACode.region ?_))
    refine ASeq.cells (cells' := (c.enter i).slotCells τ) [_, _, _, _] [_, _, _, _] rfl hle ?_
    refine ASeq.cells (cells' := (c.enter i).cells m) [_, _, _, _, _, _, _, _] [] rfl
      (.cons (.refl _) (.cons (.refl _) (.cons (.refl _) (.cons (.refl _) (.cons (.refl _) (.cons (.refl _) (.cons (.refl _) (.cons (.refl _) (.cons (.refl _) (.cons (.nilT 3 _) (.cons (.refl _) (.cons (.refl _) (.cons (.refl _) (.cons (.refl _) .nil)))))))))))))) ?_
    refine ASeq.q rfl rfl (QOp.fieldM rfl rfl (tok _ rfl) rfl rfl (by decide) rfl) ?_
    refine ASeq.q rfl rfl (QOp.loadM 6 rfl rfl rfl (tok _ rfl) rfl) ?_
    refine ASeq.q rfl rfl (QOp.move rfl rfl) ?_
    refine ASeq.q rfl rfl (QOp.indexI rfl rfl rfl (tok _ rfl) rfl (tok _ rfl) (by omega) (by assumption)) ?_
    refine ASeq.q rfl rfl (QOp.fieldI rfl rfl (tok _ rfl) rfl rfl (by decide) rfl) ?_
    refine ASeq.q rfl rfl (QOp.loadI rfl rfl (tok _ rfl) rfl) ?_
    refine ASeq.q rfl rfl (QOp.lenI rfl rfl (tok _ rfl) rfl) ?_
    refine ASeq.q rfl rfl (QOp.move rfl rfl) ?_
    refine ASeq.nil ?_
    refine ACode.block ?_
    refine ACode.loopP (fun (x : Nat × CS × Nat) => [(1, .mp m1 0), (2, .mp m2 0), (5, .mp m5 0), (127, vi ((t.funcs.map Fu.cells).length : Int)), (128, vi i), (8, vi i), (141, vi ((strs t.funcs[i].params).length : Int)), (142, vi x.1)])
      (fun x => x.2.1.items m x.2.2 ++ [.mu m1 t.cells, .mu m2 (List.map AV.v (TT 44).zero), .mu m5 (x.2.1.cells m)]) (fun x => t.funcs[i].params.length - x.1)
      (fun x => x.1 ≤ t.funcs[i].params.length ∧ KeptS (c.enter i) x.2.1 ∧ parsOf t.funcs[i].fr (t.funcs[i].params.drop x.1) x.2.1 = parsOf t.funcs[i].fr t.funcs[i].params (c.enter i)) (0, c.enter i, τ) ⟨Nat.zero_le _, .refl _, rfl⟩
      (.cons rfl (.cons rfl (.cons rfl (.cons rfl (.cons rfl (.cons rfl (.cons rfl (.cons rfl .nil)))))))) 9 rfl ?_
    rintro ⟨k, d, τ⟩ ⟨hk, hkd, hres2⟩
    dsimp only at hk hkd hres2
    have hpl := strs_len t.funcs[i].params
    refine ACode.seq (ACode.region ?_)
    refine ASeq.q rfl rfl (QOp.cmp rfl rfl rfl rfl) ?_
    refine ASeq.nil ?_
    refine ACode.seq ?_
    refine ACode.cond _ rfl (fun hb => ?_) (fun hb => ?_)
    · have hlk : k < t.funcs[i].params.length := by have := of_decide_eq_true hb; rw [hpl] at this; omega
      have hgk := strs_get hlk
      have hok2 := hkd.ok hok
      rw [pars_drop _ _ _ _ hlk] at hres2
      refine ACode.skip (ACode.seq (ACode.block (ACode.seq (ACode.region ?_))))
      refine ASeq.q rfl rfl (QOp.move rfl rfl) ?_
      refine ASeq.q rfl rfl (QOp.assign rfl rfl) ?_
      refine ASeq.nil ?_
      refine ACode.seq (ACode.region ?_)
      refine ASeq.q rfl rfl (QOp.fieldM rfl rfl (tok _ rfl) rfl rfl (by decide) rfl) ?_
      refine ASeq.q rfl rfl (QOp.loadM 8 rfl rfl rfl (tok _ rfl) rfl) ?_
      refine ASeq.q rfl rfl (QOp.cmp rfl rfl rfl rfl) ?_
      refine ASeq.nil ?_
      refine AExit.then_normal ?_
      refine ACode.cond _ rfl (fun hb => ?_) (fun hb => ?_)
      · have hc0 : d.code = 0 := by simpa using hb
        rw [if_pos hc0] at hres2
        refine ACode.drawn [[], [], [1], [], [1, 2, 3], [1, 2, 3, 4], [1, 2, 3, 4, 5], [], [1, 2, 3, 4, 5, 6, 7], [1, 2, 3, 4, 5, 6, 7, 8], [], [10], [], [10, 11, 12], [10, 11, 12, 13], [10, 11, 12, 13, 14], [10, 11, 12, 13, 14, 15], [0, 1, 2, 3, 4, 5, 6, 7, 8, 9, 10, 11, 12, 13, 14, 15, 16], [0, 1, 2, 3, 4, 5, 6, 7, 8, 9, 10, 11, 12, 13, 14, 15, 16, 17], [0, 1, 2, 3, 4, 5, 6, 7, 8, 9, 10, 11, 12, 13, 14, 15, 16, 17, 18], [0, 1, 2, 3, 4, 5, 6, 7, 8, 9, 10, 11, 12, 13, 14, 15, 16, 17, 18], [0, 1, 2, 3, 4, 5, 6, 7, 8, 9, 10, 11, 12, 13, 14, 15, 16, 17, 18, 19]] (by kernel_rfl) mixed ?_
        refine DAny.ld 0 rfl rfl (by kernel_rfl) rfl (.does _ _ rfl (.none rfl) (QOp.loadM 8 rfl rfl rfl (tok _ rfl) rfl)) ?_
        refine DAny.qu 1 rfl rfl (by kernel_rfl) rfl (fun _ => .does _ _ rfl (.none rfl) (QOp.fieldM rfl rfl (tok _ rfl) rfl rfl (by decide) rfl)) ?_
        refine DAny.ld 2 rfl rfl (by kernel_rfl) rfl (.does _ _ rfl (.none rfl) (QOp.loadM 6 rfl rfl rfl (tok _ rfl) rfl)) ?_
        refine DAny.qu 3 rfl rfl (by kernel_rfl) rfl (fun _ => .does _ _ rfl (.none rfl) (QOp.move rfl rfl)) ?_
        refine DAny.qu 4 rfl rfl (by kernel_rfl) rfl (fun _ => .does _ _ rfl (.none rfl) (QOp.indexI rfl rfl rfl (tok _ rfl) rfl (tok _ rfl) (by omega) (by assumption))) ?_
        refine DAny.qu 5 rfl rfl (by kernel_rfl) rfl (fun _ => .does _ _ rfl (.none rfl) (QOp.fieldI rfl rfl (tok _ rfl) rfl rfl (by decide) rfl)) ?_
        refine DAny.qu 6 rfl rfl (by kernel_rfl) rfl (fun _ => .does _ _ rfl (.none rfl) (QOp.loadI rfl rfl (tok _ rfl) rfl)) ?_
        refine DAny.qu 7 rfl rfl (by kernel_rfl) rfl (fun _ => .does _ _ rfl (.none rfl) (QOp.move rfl rfl)) ?_
        refine DAny.qu 8 rfl rfl (by kernel_rfl) rfl (fun _ => .does _ _ rfl (.none rfl) (QOp.indexI rfl rfl rfl (tok _ rfl) rfl (tok _ rfl) (by omega) (by assumption))) ?_
        refine DAny.qu 9 rfl rfl (by kernel_rfl) rfl (fun _ => .does _ _ rfl (.none rfl) (QOp.loadI rfl rfl (tok _ rfl) rfl)) ?_
        refine DAny.qu 10 rfl rfl (by kernel_rfl) rfl (fun _ => .does _ _ rfl (.none rfl) (QOp.fieldM rfl rfl (tok _ rfl) rfl rfl (by decide) rfl)) ?_
        refine DAny.ld 11 rfl rfl (by kernel_rfl) rfl (.does _ _ rfl (.none rfl) (QOp.loadM 6 rfl rfl rfl (tok _ rfl) rfl)) ?_
        refine DAny.qu 12 rfl rfl (by kernel_rfl) rfl (fun _ => .does _ _ rfl (.none rfl) (QOp.move rfl rfl)) ?_
        refine DAny.qu 13 rfl rfl (by kernel_rfl) rfl (fun _ => .does _ _ rfl (.none rfl) (QOp.indexI rfl rfl rfl (tok _ rfl) rfl (tok _ rfl) (by omega) (by assumption))) ?_
        refine DAny.qu 14 rfl rfl (by kernel_rfl) rfl (fun _ => .does _ _ rfl (.none rfl) (QOp.fieldI rfl rfl (tok _ rfl) rfl rfl (by decide) rfl)) ?_
        refine DAny.qu 15 rfl rfl (by kernel_rfl) rfl (fun _ => .does _ _ rfl (.none rfl) (QOp.fieldI rfl rfl (tok _ rfl) rfl rfl (by decide) rfl)) ?_
        refine DAny.qu 16 rfl rfl (by kernel_rfl) rfl (fun _ => .does _ _ rfl (.none rfl) (QOp.loadI rfl rfl (tok _ rfl) rfl)) ?_
        refine DAny.ef 17 rfl (by kernel_rfl) (.none rfl) rfl rfl (AOp.callP 6 rfl (by kernel_rfl) rfl rfl rfl (declare_ok d m hok2 _ 1 _ τ) ?_ (by rintro _ _ ⟨⟩))
        rintro _ _ ⟨τ⟩
        refine ⟨(by ((exact AllQ.nil))), ?_⟩
        refine DAny.qu 18 rfl rfl (by kernel_rfl) rfl (fun _ => .does _ _ rfl (.none rfl) (QOp.move rfl rfl)) ?_
        refine DAny.qu 19 rfl rfl (by kernel_rfl) rfl (fun _ => .does _ _ rfl (.none rfl) (QOp.extract rfl rfl rfl)) ?_
        refine DAny.qu 20 rfl rfl (by kernel_rfl) rfl (fun _ => .does _ _ rfl (.none rfl) (QOp.extract rfl rfl rfl)) ?_
        refine DAny.ef0 21 rfl (by kernel_rfl) (.none rfl) rfl rfl (AOp.storeP 8 rfl rfl rfl rfl (tok _ rfl) rfl rfl rfl rfl ⟨(by ((exact AllQ.nil))), ?_⟩)
        refine DAny.done (by kernel_rfl) ?_
        have hkk := KeptS.decl hok2 t.funcs[i].params[k] 1 t.funcs[i].fr
        refine ACode.region ?_
        refine ASeq.q rfl rfl (QOp.ar64 rfl rfl rfl rfl ⟨by omega, by omega⟩) ?_
        refine ASeq.q rfl rfl (QOp.move rfl rfl) ?_
        refine ASeq.nil ?_
        refine AExit.then_normal ?_
        exact ⟨(k + 1, (d.decl t.funcs[i].params[k] 1 t.funcs[i].fr).1, _), 9, ⟨hlk, hkd.trans hkk, hres2⟩, by dsimp only; omega, .cons rfl (.cons rfl (.cons rfl (.cons rfl (.cons rfl (.cons rfl (.cons rfl (.cons rfl .nil))))))), rfl⟩
      · have hc0 : ¬ d.code = 0 := by simpa using hb
        rw [if_neg hc0] at hres2
        refine ACode.skip (ACode.region ?_)
        refine ASeq.q rfl rfl (QOp.ar64 rfl rfl rfl rfl ⟨by omega, by omega⟩) ?_
        refine ASeq.q rfl rfl (QOp.move rfl rfl) ?_
        refine ASeq.nil ?_
        refine AExit.then_normal ?_
        exact ⟨(k + 1, d, τ), 9, ⟨hlk, hkd, hres2⟩, by dsimp only; omega, .cons rfl (.cons rfl (.cons rfl (.cons rfl (.cons rfl (.cons rfl (.cons rfl (.cons rfl .nil))))))), rfl⟩
    have hge : k = t.funcs[i].params.length := by have := of_decide_eq_false hb; rw [hpl] at this; omega
    rw [hge, List.drop_length] at hres2
    simp only [parsOf] at hres2
    rw [← hres2] at hres
    clear hres2
    refine ACode.exit (ACode.seq (ACode.region ?_))
    refine ASeq.q rfl rfl (QOp.fieldM rfl rfl (tok _ rfl) rfl rfl (by decide) rfl) ?_
    refine ASeq.q rfl rfl (QOp.loadM 6 rfl rfl rfl (tok _ rfl) rfl) ?_
    refine ASeq.q rfl rfl (QOp.move rfl rfl) ?_
    refine ASeq.q rfl rfl (QOp.indexI rfl rfl rfl (tok _ rfl) rfl (tok _ rfl) (by omega) (by assumption)) ?_
    refine ASeq.q rfl rfl (QOp.fieldI rfl rfl (tok _ rfl) rfl rfl (by decide) rfl) ?_
    refine ASeq.q rfl rfl (QOp.loadI rfl rfl (tok _ rfl) rfl) ?_
    refine ASeq.q rfl rfl (QOp.lenI rfl rfl (tok _ rfl) rfl) ?_
    refine ASeq.q rfl rfl (QOp.move rfl rfl) ?_
    refine ASeq.nil ?_
    refine ACode.block ?_
    refine ACode.loopP (fun (x : Nat × CS × Nat) => [(1, .mp m1 0), (2, .mp m2 0), (5, .mp m5 0), (127, vi ((t.funcs.map Fu.cells).length : Int)), (128, vi i), (8, vi i), (176, vi ((ints t.funcs[i].body).length : Int)), (177, vi x.1)])
      (fun x => x.2.1.items m x.2.2 ++ [.mu m1 t.cells, .mu m2 (List.map AV.v (TT 44).zero), .mu m5 (x.2.1.cells m)]) (fun x => t.funcs[i].body.length - x.1)
      (fun x => x.1 ≤ t.funcs[i].body.length ∧ KeptS (c.enter i) x.2.1 ∧ bodyOf (t.funcs[i].body.drop x.1) x.2.1 = bodyOf t.funcs[i].body d) (0, d, τ) ⟨Nat.zero_le _, hkd, rfl⟩
      (.cons rfl (.cons rfl (.cons rfl (.cons rfl (.cons rfl (.cons rfl (.cons rfl (.cons rfl .nil)))))))) 9 rfl ?_
    clear hge hb
    rintro ⟨k, e, τ⟩ ⟨hk, hke, hres2⟩
    dsimp only at hk hke hres2
    have hbl := ints_len t.funcs[i].body
    have het : e.t = t := hke.t.trans hpre.tt
    have heb : e.block = 0 := hke.block
    have hel : e.loops = 0 := hke.loops.trans hpre.loops
    have hmax : smax = 1099511627776 := rfl
    refine ACode.seq (ACode.region ?_)
    refine ASeq.q rfl rfl (QOp.cmp rfl rfl rfl rfl) ?_
    refine ASeq.nil ?_
    refine ACode.seq ?_
    refine ACode.cond _ rfl (fun hb => ?_) (fun hb => ?_)
    · have hlk : k < t.funcs[i].body.length := by have := of_decide_eq_true hb; rw [hbl] at this; omega
      have hgk := ints_get hlk
      have hok2 := hke.ok hok
      have hm := hfu.2.2 _ (List.getElem_mem hlk)
      rw [body_drop _ _ _ hlk, het] at hres2
      have hs := stms6 t.stmts.length e m t.funcs[i].body[k] τ hok2 (by rw [het]; exact h.ex) (by rw [het]; exact h.st) hm.1 (by rw [het]; exact hm.2) hm.2 (by omega) (by omega) (by omega) (by omega)
      have hks := KeptS.stm6 t.stmts.length e t.funcs[i].body[k] hok2
      generalize stm6 t.stmts.length e t.funcs[i].body[k] = e2 at hres2 hs hks
      refine ACode.skip (ACode.seq (ACode.block (ACode.seq (ACode.region ?_))))
      refine ASeq.q rfl rfl (QOp.move rfl rfl) ?_
      refine ASeq.q rfl rfl (QOp.assign rfl rfl) ?_
      refine ASeq.nil ?_
      refine AExit.then_normal ?_
      refine ACode.drawn [[], [], [1], [], [1, 2, 3], [1, 2, 3, 4], [1, 2, 3, 4, 5], [], [1, 2, 3, 4, 5, 6, 7], [1, 2, 3, 4, 5, 6, 7, 8], [0, 1, 2, 3, 4, 5, 6, 7, 8, 9], [0, 1, 2, 3, 4, 5, 6, 7, 8, 9, 10]] (by kernel_rfl) mixed ?_
      refine DAny.ld 0 rfl rfl (by kernel_rfl) rfl (.does _ _ rfl (.none rfl) (QOp.loadM 8 rfl rfl rfl (tok _ rfl) rfl)) ?_
      refine DAny.qu 1 rfl rfl (by kernel_rfl) rfl (fun _ => .does _ _ rfl (.none rfl) (QOp.fieldM rfl rfl (tok _ rfl) rfl rfl (by decide) rfl)) ?_
      refine DAny.ld 2 rfl rfl (by kernel_rfl) rfl (.does _ _ rfl (.none rfl) (QOp.loadM 6 rfl rfl rfl (tok _ rfl) rfl)) ?_
      refine DAny.qu 3 rfl rfl (by kernel_rfl) rfl (fun _ => .does _ _ rfl (.none rfl) (QOp.move rfl rfl)) ?_
      refine DAny.qu 4 rfl rfl (by kernel_rfl) rfl (fun _ => .does _ _ rfl (.none rfl) (QOp.indexI rfl rfl rfl (tok _ rfl) rfl (tok _ rfl) (by omega) (by assumption))) ?_
      refine DAny.qu 5 rfl rfl (by kernel_rfl) rfl (fun _ => .does _ _ rfl (.none rfl) (QOp.fieldI rfl rfl (tok _ rfl) rfl rfl (by decide) rfl)) ?_
      refine DAny.qu 6 rfl rfl (by kernel_rfl) rfl (fun _ => .does _ _ rfl (.none rfl) (QOp.loadI rfl rfl (tok _ rfl) rfl)) ?_
      refine DAny.qu 7 rfl rfl (by kernel_rfl) rfl (fun _ => .does _ _ rfl (.none rfl) (QOp.move rfl rfl)) ?_
      refine DAny.qu 8 rfl rfl (by kernel_rfl) rfl (fun _ => .does _ _ rfl (.none rfl) (QOp.indexI rfl rfl rfl (tok _ rfl) rfl (tok _ rfl) (by omega) (by assumption))) ?_
      refine DAny.qu 9 rfl rfl (by kernel_rfl) rfl (fun _ => .does _ _ rfl (.none rfl) (QOp.loadI rfl rfl (tok _ rfl) rfl)) ?_
      refine DAny.ef 10 rfl (by kernel_rfl) (.none rfl) rfl rfl (AOp.callP 6 rfl (by kernel_rfl) rfl rfl rfl (hs) ?_ (by rintro _ _ ⟨⟩))
      rintro _ _ ⟨τ⟩
      refine ⟨(by ((exact AllQ.nil))), ?_⟩
      refine DAny.ef0 11 rfl (by kernel_rfl) (.none rfl) rfl rfl (AOp.storeP 8 rfl rfl rfl rfl (tok _ rfl) rfl rfl rfl rfl ⟨(by ((exact AllQ.nil))), ?_⟩)
      refine DAny.done (by kernel_rfl) ?_
      refine ACode.region ?_
      refine ASeq.q rfl rfl (QOp.ar64 rfl rfl rfl rfl ⟨by omega, by omega⟩) ?_
      refine ASeq.q rfl rfl (QOp.move rfl rfl) ?_
      refine ASeq.nil ?_
      refine AExit.then_normal ?_
      exact ⟨(k + 1, e2, _), 9, ⟨hlk, hke.trans hks, hres2⟩, by dsimp only; omega, .cons rfl (.cons rfl (.cons rfl (.cons rfl (.cons rfl (.cons rfl (.cons rfl (.cons rfl .nil))))))), rfl⟩
    have hge : k = t.funcs[i].body.length := by have := of_decide_eq_false hb; rw [hbl] at this; omega
    rw [hge, List.drop_length] at hres2
    simp only [bodyOf] at hres2
    rw [← hres2] at hres
    refine ACode.exit (ACode.region ?_)
    refine ASeq.q rfl rfl (QOp.ar64 rfl rfl rfl rfl ⟨by omega, by omega⟩) ?_
    refine ASeq.q rfl rfl (QOp.move rfl rfl) ?_
    refine ASeq.nil ?_
    refine AExit.then_normal ?_
    exact ⟨(i + 1, e, τ), 9, ⟨hlt, hpre.next hlt hke, hres⟩, by dsimp only; omega, .cons rfl (.cons rfl (.cons rfl (.cons rfl (.cons rfl .nil)))), rfl⟩
  have hge : i = t.funcs.length := by have := of_decide_eq_false hb; rw [hFl] at this; omega
  rw [hge, List.drop_length] at hres
  simp only [funs] at hres
  refine ACode.exit (ACode.seq (ACode.seq (ACode.region ?_)))
  refine ASeq.q rfl rfl (QOp.fieldM rfl rfl (tok _ rfl) rfl rfl (by decide) rfl) ?_
  refine ASeq.q rfl rfl (QOp.loadM 8 rfl rfl rfl (tok _ rfl) rfl) ?_
  refine ASeq.q rfl rfl (QOp.cmp rfl rfl rfl rfl) ?_
  refine ASeq.nil ?_
  refine AExit.then_normal ?_
  refine ACode.cond _ rfl (fun hb => ?_) (fun hb => ?_)
  · have hc0 : c.code ≠ 0 := by simpa using hb
    refine ACode.seq ?_
    refine ACode.drawn [[], [], [1], [], [3], [0], [0, 1, 2, 5], [0, 1, 2, 3, 4, 5, 6]] (by kernel_rfl) mixed ?_
    refine DAny.qu 0 rfl rfl (by kernel_rfl) rfl (fun _ => .does _ _ rfl (.none rfl) (QOp.build rfl (tok _ rfl) rfl rfl rfl rfl rfl)) ?_
    refine DAny.qu 1 rfl rfl (by kernel_rfl) rfl (fun _ => .does _ _ rfl (.none rfl) (QOp.fieldM rfl rfl (tok _ rfl) rfl rfl (by decide) rfl)) ?_
    refine DAny.ld 2 rfl rfl (by kernel_rfl) rfl (.does _ _ rfl (.none rfl) (QOp.loadM 8 rfl rfl rfl (tok _ rfl) rfl)) ?_
    refine DAny.qu 3 rfl rfl (by kernel_rfl) rfl (fun _ => .does _ _ rfl (.none rfl) (QOp.fieldM rfl rfl (tok _ rfl) rfl rfl (by decide) rfl)) ?_
    refine DAny.ld 4 rfl rfl (by kernel_rfl) rfl (.does _ _ rfl (.none rfl) (QOp.loadM 8 rfl rfl rfl (tok _ rfl) rfl)) ?_
    refine DAny.ef0 5 rfl (by kernel_rfl) (.none rfl) rfl rfl (AOp.storeP 7 rfl rfl rfl rfl (tok _ rfl) rfl rfl rfl rfl ⟨(by ((refine AllQ.cons (.does _ _ rfl (.none rfl) (QOp.loadM 8 rfl rfl rfl (tok _ rfl) rfl)) ?_); (refine AllQ.cons (.does _ _ rfl (.none rfl) (QOp.loadM 8 rfl rfl rfl (tok _ rfl) rfl)) ?_); (exact AllQ.nil))), ?_⟩)
    refine DAny.ef 6 rfl (by kernel_rfl) (.none rfl) rfl rfl (.q (QOp.assign rfl rfl) ⟨(by ((refine AllQ.cons (.does _ _ rfl (.none rfl) (QOp.loadM 8 rfl rfl rfl (tok _ rfl) rfl)) ?_); (exact AllQ.nil))), ?_⟩)
    refine DAny.ef 7 rfl (by kernel_rfl) (.none rfl) rfl rfl (.q (QOp.assign rfl rfl) ⟨(by ((exact AllQ.nil))), ?_⟩)
    refine DAny.done (by kernel_rfl) ?_
    refine ACode.ret (AExit.then_ret ?_)
    refine bodyQ_ret 0 (.cell 7 rfl rfl (tok _ rfl) rfl (.tmp rfl (.tmp rfl .nil))) rfl ?_
    rw [hres] at hc0
    have := RK.bad hc0
    rw [← hres] at this
    exact this
  · have hc0 : c.code = 0 := by simpa using hb
    refine ACode.skip (ACode.seq (ACode.region ?_))
    refine ASeq.q rfl rfl (QOp.fieldM rfl rfl (tok _ rfl) rfl rfl (by decide) rfl) ?_
    refine ASeq.q rfl rfl (QOp.loadM 8 rfl rfl rfl (tok _ rfl) rfl) ?_
    refine ASeq.op0 rfl rfl (AOp.storeP 7 rfl rfl rfl rfl (tok _ rfl) rfl rfl rfl rfl ?_)
    refine ASeq.q rfl rfl (QOp.assign rfl rfl) ?_
    refine ASeq.q rfl rfl (QOp.assign rfl rfl) ?_
    refine ASeq.nil ?_
    refine ACode.ret ?_
    refine bodyQ_ret 6 (.cell 7 rfl rfl (tok _ rfl) rfl (.tmp rfl (.tmp rfl .nil))) rfl ?_
    rw [hres] at hc0
    have := RK.good hc0 m τ
    rw [← hres] at this
    exact this
end Go.Proofs.Ytaadamobapnfbaa
/- What the parser's functions leave: a forest. -/
set_option linter.unusedVariables false
set_option linter.unusedSimpArgs false
namespace Go.Proofs.Ytaadamobapnfbaa
open Go Go.Abs
inductive Rt where
  | e (r : Int)
  | s (r : Int)
def Ex.kids (x : Ex) : List Int := if x.kind = 9 then [x.a, x.b] else if x.kind = 5 ∨ x.kind = 8 then [x.a] else if x.kind = 6 then x.list else []
def St.xs (s : St) : List Int := if s.kind = 4 then [s.a, s.b] else if s.kind = 9 then (if s.a < 0 then [] else [s.a]) else if s.kind = 2 ∨ s.kind = 7 ∨ s.kind = 8 then [] else [s.a]
def St.kids (s : St) : List Rt := s.xs.map .e ++ (s.thn ++ s.els).map .s
/-- roots cover expressions and statements -/
inductive Cov (es : List Ex) (ss : List St) : List Rt → Nat → Nat → Nat → Nat → Prop
  | nil (a b : Nat) : Cov es ss [] a b a b
  | e {r a b c d : Nat} {x : Ex} {l : List Rt} (hx : es[r]? = some x) (hk : Cov es ss (x.kids.map .e) a b r b) (hl : Cov es ss l (r + 1) b c d) : Cov es ss (.e (r : Int) :: l) a b c d
  | s {r a b c d e1 : Nat} {x : St} {l : List Rt} (hx : ss[r]? = some x) (hk : Cov es ss x.kids a b e1 r) (hl : Cov es ss l e1 (r + 1) c d) : Cov es ss (.s (r : Int) :: l) a b c d
theorem Cov.append {es : List Ex} {ss : List St} {l l' : List Rt} {a b c d e f : Nat} (h : Cov es ss l a b c d) (h' : Cov es ss l' c d e f) : Cov es ss (l ++ l') a b e f := by
  induction h with
  | nil a b => exact h'
  | e hx hk hl ih1 ih2 => exact .e hx hk (ih2 h')
  | s hx hk hl ih1 ih2 => exact .s hx hk (ih2 h')
theorem get_append {α : Type} {l l' : List α} {i : Nat} {x : α} (h : l[i]? = some x) : (l ++ l')[i]? = some x := by
  rw [List.getElem?_append_left (List.getElem?_eq_some_iff.1 h).1]; exact h
theorem Cov.more {es es' : List Ex} {ss ss' : List St} {l : List Rt} {a b c d : Nat} (h : Cov es ss l a b c d) : Cov (es ++ es') (ss ++ ss') l a b c d := by
  induction h with
  | nil a b => exact .nil a b
  | e hx hk hl ih1 ih2 => exact .e (get_append hx) ih1 ih2
  | s hx hk hl ih1 ih2 => exact .s (get_append hx) ih1 ih2
theorem Cov.le {es : List Ex} {ss : List St} {l : List Rt} {a b c d : Nat} (h : Cov es ss l a b c d) : a ≤ c ∧ b ≤ d := by
  induction h with
  | nil a b => exact ⟨Nat.le_refl _, Nat.le_refl _⟩
  | e hx hk hl ih1 ih2 => omega
  | s hx hk hl ih1 ih2 => omega
/-- from which tokens a node's span comes -/
def Span (toks : List Tok) (a b fr to : Int) : Prop := ∃ i j : Int, a ≤ i ∧ i < j ∧ j ≤ b ∧ fr = (toks.getD i.toNat default).fr ∧ to = (toks.getD (j - 1).toNat default).to
theorem Span.wide {toks : List Tok} {a b a' b' fr to : Int} (h : Span toks a b fr to) (h1 : a' ≤ a) (h2 : b ≤ b') : Span toks a' b' fr to := by
  obtain ⟨i, j, h3, h4, h5, h6, h7⟩ := h
  exact ⟨i, j, by omega, h4, by omega, h6, h7⟩
structure ExOk (x : Ex) : Prop where
  k1 : 1 ≤ x.kind ∧ x.kind ≤ 9
  op9 : x.kind = 9 → 0 < x.op.size
  op8 : x.kind = 8 → x.op.data.toList = [45] ∨ x.op.data.toList = [33]
  ls : x.kind = 6 ∨ x.list = []
structure StOk (x : St) : Prop where
  k1 : 1 ≤ x.kind ∧ x.kind ≤ 11
  nm : x.kind ≤ 4 ↔ 0 < x.name.size
  th : x.kind ≠ 5 → x.kind ≠ 6 → x.thn = []
  el : x.kind ≠ 5 → x.els = []
structure Grow (k : Int) (p q : PS) (l : List Rt) : Prop where
  text : q.text = p.text
  toks : q.toks = p.toks
  funcs : q.funcs = p.funcs
  adv : p.at_ + k ≤ q.at_
  exs : ∃ xs, q.exprs = p.exprs ++ xs
  sts : ∃ ys, q.stmts = p.stmts ++ ys
  cov : Cov q.exprs q.stmts l p.exprs.length p.stmts.length q.exprs.length q.stmts.length
  exok : ∀ (i : Nat) (x : Ex), p.exprs.length ≤ i → q.exprs[i]? = some x → ExOk x ∧ Span p.toks p.at_ q.at_ x.fr x.to
  stok : ∀ (i : Nat) (x : St), p.stmts.length ≤ i → q.stmts[i]? = some x → StOk x ∧ Span p.toks p.at_ q.at_ x.fr x.to
def GR (k : Int) (p q : PS) (l : List Rt) : Prop := q.code = 0 → p.code = 0 ∧ Grow k p q l
theorem GR.then {k k' : Int} {p q r : PS} {l l' : List Rt} (h : GR k p q l) (h' : GR k' q r l') (hk : 0 ≤ k) (hk' : 0 ≤ k') : GR (k + k') p r (l ++ l') := by
  intro hc
  obtain ⟨hq, g'⟩ := h' hc
  obtain ⟨hp, g⟩ := h hq
  have a1 := g.adv
  have a2 := g'.adv
  obtain ⟨xs, ex⟩ := g.exs
  obtain ⟨xs', ex'⟩ := g'.exs
  obtain ⟨ys, sx⟩ := g.sts
  obtain ⟨ys', sx'⟩ := g'.sts
  refine ⟨hp, g'.text.trans g.text, g'.toks.trans g.toks, g'.funcs.trans g.funcs, by omega, ⟨xs ++ xs', by rw [ex', ex, List.append_assoc]⟩, ⟨ys ++ ys', by rw [sx', sx, List.append_assoc]⟩, ?_, fun i x hi hx => ?_, fun i x hi hx => ?_⟩
  · refine Cov.append (c := q.exprs.length) (d := q.stmts.length) ?_ g'.cov
    rw [ex', sx']
    exact g.cov.more
  · by_cases hlt : i < q.exprs.length
    · rw [ex', List.getElem?_append_left hlt] at hx
      have := g.exok i x hi hx
      exact ⟨this.1, this.2.wide (Int.le_refl _) (by omega)⟩
    · have := g'.exok i x (by omega) hx
      rw [g.toks] at this
      exact ⟨this.1, this.2.wide (by omega) (Int.le_refl _)⟩
  · by_cases hlt : i < q.stmts.length
    · rw [sx', List.getElem?_append_left hlt] at hx
      have := g.stok i x hi hx
      exact ⟨this.1, this.2.wide (Int.le_refl _) (by omega)⟩
    · have := g'.stok i x (by omega) hx
      rw [g.toks] at this
      exact ⟨this.1, this.2.wide (by omega) (Int.le_refl _)⟩
theorem GR.weak {k k' : Int} {p q : PS} {l : List Rt} (h : GR k p q l) (hk : k' ≤ k) : GR k' p q l := fun hc => by
  obtain ⟨h1, h2⟩ := h hc
  exact ⟨h1, { h2 with adv := by have := h2.adv; omega }⟩
theorem GR.list {k : Int} {p q : PS} {l l' : List Rt} (h : GR k p q l) (e : l = l') : GR k p q l' := e ▸ h
theorem GR.dead {k : Int} {p q : PS} {l : List Rt} (h : q.code ≠ 0) : GR k p q l := fun hc => absurd hc h
theorem GR.refl (p : PS) : GR 0 p p [] := fun hc =>
  ⟨hc, rfl, rfl, rfl, by omega, ⟨[], by simp⟩, ⟨[], by simp⟩, .nil _ _, fun i x hi hx => (by rw [List.getElem?_eq_none hi] at hx; cases hx), fun i x hi hx => (by rw [List.getElem?_eq_none hi] at hx; cases hx)⟩
theorem GR.fail (p : PS) (c : Int) (hc : c ≠ 0) (k : Int) (l : List Rt) : GR k p (p.fail c) l := .dead (by
  unfold PS.fail; split
  · exact hc
  · rename_i h; exact h)
theorem GR.skip (p : PS) : GR 1 p p.skip [] := fun hc =>
  ⟨hc, rfl, rfl, rfl, by simp [PS.skip], ⟨[], by simp [PS.skip]⟩, ⟨[], by simp [PS.skip]⟩, .nil _ _, fun i x hi hx => (by rw [show p.skip.exprs = p.exprs from rfl, List.getElem?_eq_none hi] at hx; cases hx), fun i x hi hx => (by rw [show p.skip.stmts = p.stmts from rfl, List.getElem?_eq_none hi] at hx; cases hx)⟩
theorem GR.want (p : PS) (s : ByteArray) : GR 1 p (p.want s) [] := by
  unfold PS.want
  split
  · exact .skip p
  · exact .fail p 3 (by decide) _ _
theorem GR.kindOf (p : PS) (k : Int) : GR 1 p (p.kindOf k).1 [] := by
  unfold PS.kindOf
  split
  · exact .fail p 3 (by decide) _ _
  · exact .skip p
theorem GR.deep (p : PS) (d : Int) : GR 0 p (p.deep d) [] := by
  unfold PS.deep
  split
  · exact .fail p 4 (by decide) _ _
  · exact .refl p
theorem GR.many (p : PS) : GR 0 p p.many [] := by
  unfold PS.many
  split
  · exact .fail p 5 (by decide) _ _
  · exact .refl p
theorem GR.put {k : Int} {p0 p : PS} {x : Ex} {fr : Int} {l : List Rt} (h : GR k p0 p l) (hk : 1 ≤ k) (hl : l = x.kids.map .e) (hfr : fr = p0.here) (hx : p.code = 0 → ExOk x) : GR k p0 (p.put fr x).1 [.e (p.put fr x).2] := by
  intro hc
  by_cases hp : p.code ≠ 0
  · unfold PS.put at hc; rw [if_pos hp] at hc; exact absurd hc hp
  have hp' : p.code = 0 := Decidable.byContradiction hp
  obtain ⟨h0, g⟩ := h hp'
  have ha := g.adv
  obtain ⟨xs, ex⟩ := g.exs
  have hxx := hx hp'
  unfold PS.put
  rw [if_neg hp]
  refine ⟨h0, g.text, g.toks, g.funcs, g.adv, ⟨xs ++ [{ x with fr := fr, to := p.lastTo }], by dsimp only; rw [ex, List.append_assoc]⟩, g.sts, ?_, fun i y hi hy => ?_, fun i y hi hy => g.stok i y hi hy⟩
  · dsimp only
    have hcov := g.cov.more (es' := [{ x with fr := fr, to := p.lastTo }]) (ss' := [])
    rw [List.append_nil] at hcov
    rw [hl] at hcov
    have hs : p.stmts.length = p0.stmts.length := by
      obtain ⟨ys, sx⟩ := g.sts
      have : ∀ (es : List Ex) (ss : List St) (l : List Int) (a b c d : Nat), Cov es ss (l.map .e) a b c d → b = d := by
        intro es ss l a b c d hcv
        generalize hm : l.map Rt.e = m at hcv
        induction hcv generalizing l with
        | nil => rfl
        | e hx hk hl ih1 ih2 =>
          cases l with
          | nil => simp at hm
          | cons y l => simp at hm; exact ih2 l hm.2
        | s hx hk hl ih1 ih2 =>
          cases l with
          | nil => simp at hm
          | cons y l => simp at hm
      exact (this _ _ _ _ _ _ _ hcov).symm
    rw [List.length_append, List.length_singleton]
    rw [hs] at hcov ⊢
    exact .e (x := { x with fr := fr, to := p.lastTo }) (by simp) hcov (.nil _ _)
  · dsimp only at hy ⊢
    by_cases hlt : i < p.exprs.length
    · rw [List.getElem?_append_left hlt] at hy
      exact g.exok i y hi hy
    · rw [List.getElem?_append_right (by omega)] at hy
      have hy' := List.mem_of_getElem? hy
      rw [List.mem_singleton] at hy'
      subst hy'
      refine ⟨⟨hxx.k1, hxx.op9, hxx.op8, hxx.ls⟩, p0.at_, p.at_, Int.le_refl _, by omega, Int.le_refl _, ?_, ?_⟩
      · dsimp only; rw [hfr]; rfl
      · dsimp only; unfold PS.lastTo; rw [g.toks]
theorem GR.addC {k : Int} {p0 p : PS} {x : St} {fr : Int} {l : List Rt} (h : GR k p0 p l) (hk : 1 ≤ k) (hl : p.code = 0 → l = x.kids) (hfr : fr = p0.here) (hx : p.code = 0 → StOk x) : GR k p0 (p.add fr x).1 [.s (p.add fr x).2] := by
  intro hc
  by_cases hp : p.many.code ≠ 0
  · unfold PS.add at hc; simp only at hc; rw [if_pos hp] at hc; exact absurd hc hp
  have hp' : p.many.code = 0 := Decidable.byContradiction hp
  have hpm := GR.many p hp'
  have hmp : p.many = p := by
    unfold PS.many at hp' ⊢
    split
    · rename_i hcc
      rw [if_pos hcc] at hp'
      unfold PS.fail at hp'
      rw [if_pos hcc.1] at hp'
      exact absurd (show (5 : Int) = 0 from hp') (by decide)
    · rfl
  obtain ⟨h0, g⟩ := h hpm.1
  have ha := g.adv
  obtain ⟨xs, ex⟩ := g.sts
  have hxx := hx hpm.1
  unfold PS.add
  simp only
  rw [if_neg hp, hmp]
  refine ⟨h0, g.text, g.toks, g.funcs, g.adv, g.exs, ⟨xs ++ [{ x with fr := fr, to := p.lastTo }], by dsimp only; rw [ex, List.append_assoc]⟩, ?_, fun i y hi hy => g.exok i y hi hy, fun i y hi hy => ?_⟩
  · dsimp only
    have hcov := g.cov.more (es' := []) (ss' := [{ x with fr := fr, to := p.lastTo }])
    rw [List.append_nil] at hcov
    rw [hl hpm.1] at hcov
    rw [List.length_append, List.length_singleton]
    exact .s (x := { x with fr := fr, to := p.lastTo }) (by simp) hcov (.nil _ _)
  · dsimp only at hy ⊢
    by_cases hlt : i < p.stmts.length
    · rw [List.getElem?_append_left hlt] at hy
      exact g.stok i y hi hy
    · rw [List.getElem?_append_right (by omega)] at hy
      have hy' := List.mem_of_getElem? hy
      rw [List.mem_singleton] at hy'
      subst hy'
      refine ⟨⟨hxx.k1, hxx.nm, hxx.th, hxx.el⟩, p0.at_, p.at_, Int.le_refl _, by omega, Int.le_refl _, ?_, ?_⟩
      · dsimp only; rw [hfr]; rfl
      · dsimp only; unfold PS.lastTo; rw [g.toks]
theorem GR.add {k : Int} {p0 p : PS} {x : St} {fr : Int} {l : List Rt} (h : GR k p0 p l) (hk : 1 ≤ k) (hl : l = x.kids) (hfr : fr = p0.here) (hx : p.code = 0 → StOk x) : GR k p0 (p.add fr x).1 [.s (p.add fr x).2] :=
  GR.addC h hk (fun _ => hl) hfr hx
theorem Cov.nn {es : List Ex} {ss : List St} {l : List Rt} {a b c d : Nat} (h : Cov es ss l a b c d) : ∀ r, Rt.e r ∈ l → 0 ≤ r := by
  induction h with
  | nil a b => intro r hr; simp at hr
  | e hx hk hl ih1 ih2 =>
    intro r hr
    rcases List.mem_cons.1 hr with h | h
    · cases h; omega
    · exact ih2 r h
  | s hx hk hl ih1 ih2 =>
    intro r hr
    rcases List.mem_cons.1 hr with h | h
    · cases h
    · exact ih2 r h
theorem GR.nn {k : Int} {p q : PS} {l : List Rt} (h : GR k p q l) (hc : q.code = 0) {r : Int} (hr : Rt.e r ∈ l) : 0 ≤ r := (h hc).2.cov.nn r hr
end Go.Proofs.Ytaadamobapnfbaa
/- What the parser's functions leave: expressions. -/
set_option linter.unusedVariables false
set_option linter.unusedSimpArgs false
namespace Go.Proofs.Ytaadamobapnfbaa
open Go Go.Abs
theorem size_pos {s : ByteArray} (h : ¬ s.data.toList = []) : 0 < s.size := by
  rcases Nat.eq_zero_or_pos s.size with h0 | h0
  · exact absurd (List.eq_nil_of_length_eq_zero (by simpa using h0)) h
  · exact h0
theorem PS.is_word {p : PS} {s : ByteArray} (h : p.is s = true) : p.word.data.toList = s.data.toList := by
  simp only [PS.is, Bool.and_eq_true, beq_iff_eq] at h
  exact h.2
theorem ExOk.plain {x : Ex} (h : 1 ≤ x.kind ∧ x.kind ≤ 7) (hl : x.kind = 6 ∨ x.list = []) : ExOk x := ⟨by omega, fun h' => by omega, fun h' => by omega, hl⟩
structure Grows (n : Nat) : Prop where
  row : ∀ p l d, GR 1 p (row n p l d).1 [.e (row n p l d).2]
  rowLoop : ∀ p0 k p a l d fr, GR k p0 p [.e a] → 1 ≤ k → fr = p0.here → GR k p0 (rowLoop n p a l d fr).1 [.e (rowLoop n p a l d fr).2]
  exprP : ∀ p d, GR 1 p (exprP n p d).1 [.e (exprP n p d).2]
  unary : ∀ p d, GR 1 p (unary n p d).1 [.e (unary n p d).2]
  primary : ∀ p d, GR 1 p (primary n p d).1 [.e (primary n p d).2]
  callP : ∀ p0 k p fr name d, GR k p0 p [] → 1 ≤ k → fr = p0.here → GR k p0 (callP n p fr name d).1 [.e (callP n p fr name d).2]
  callLoop : ∀ p0 k p l d, GR k p0 p (l.map .e) → 0 ≤ k → GR k p0 (callLoop n p l d).1 ((callLoop n p l d).2.map .e)
theorem grows : ∀ n, Grows n
  | 0 => ⟨fun p _ _ => .fail p 98 (by decide) _ _, fun _ _ p _ _ _ _ _ _ _ => .dead (by unfold Ytaadamobapnfbaa.rowLoop PS.fail; split; exact (by decide : (98:Int) ≠ 0); assumption), fun p _ => .fail p 98 (by decide) _ _, fun p _ => .fail p 98 (by decide) _ _,
      fun p _ => .fail p 98 (by decide) _ _, fun _ _ p _ _ _ _ _ _ => .dead (by unfold Ytaadamobapnfbaa.callP PS.fail; split; exact (by decide : (98:Int) ≠ 0); assumption), fun _ _ p _ _ _ _ => .dead (by unfold Ytaadamobapnfbaa.callLoop PS.fail; split; exact (by decide : (98:Int) ≠ 0); assumption)⟩
  | n + 1 => by
    have ih := grows n
    refine ⟨fun p l d => ?_, fun p0 k p a l d fr h hk hfr => ?_, fun p d => ?_, fun p d => ?_, fun p d => ?_, fun p0 k p fr name d h hk hfr => ?_, fun p0 k p l d h hk => ?_⟩
    · unfold Ytaadamobapnfbaa.row
      split
      · exact ih.unary p d
      · exact ih.rowLoop p 1 _ _ _ _ _ (ih.row p _ d) (by decide) rfl
    · unfold Ytaadamobapnfbaa.rowLoop
      split
      · exact h
      · rename_i hs
        have h1 := (h.then (GR.skip p) (by omega) (by decide)).then (ih.row p.skip (l + 1) d) (by omega) (by decide)
        have h2 := GR.put (x := { kind := 9, op := p.sign l, a := a, b := (Ytaadamobapnfbaa.row n p.skip (l + 1) d).2 }) (fr := fr) h1 (by omega) rfl hfr (fun _ => ⟨(by decide : (1 : Int) ≤ 9 ∧ (9 : Int) ≤ 9), fun _ => size_pos hs, fun h => absurd (show (9 : Int) = 8 from h) (by decide), .inr rfl⟩)
        split
        · exact h2.weak (by omega)
        · exact ih.rowLoop p0 k _ _ _ _ _ (h2.weak (by omega)) hk hfr
    · unfold Ytaadamobapnfbaa.exprP
      split
      · rename_i h; exact .dead h
      · exact (GR.deep p d).then (ih.row _ 0 d) (by decide) (by decide)
    · unfold Ytaadamobapnfbaa.unary
      split
      · rename_i h
        split
        · rename_i h; exact .dead h
        · have h1 := ((GR.skip p).then (GR.deep p.skip (d + 1)) (by decide) (by decide)).then (ih.unary _ (d + 1)) (by decide) (by decide)
          refine (GR.put (x := { kind := 8, op := p.word, a := _ }) (fr := p.here) h1 (by decide) rfl rfl (fun _ => ⟨(by decide : (1 : Int) ≤ 8 ∧ (8 : Int) ≤ 9), fun h => absurd (show (8 : Int) = 9 from h) (by decide), fun _ => ?_, .inr rfl⟩)).weak (by decide)
          exact h.imp PS.is_word PS.is_word
      · exact ih.primary p d
    · unfold Ytaadamobapnfbaa.primary
      split
      · rename_i h; exact .dead h
      split
      · exact GR.put (GR.kindOf p 2) (by decide) rfl rfl (fun _ => .plain (show (1 : Int) ≤ 1 ∧ (1 : Int) ≤ 7 by decide) (.inr rfl))
      split
      · exact GR.put (GR.want p _) (by decide) rfl rfl (fun _ => .plain (show (1 : Int) ≤ 2 ∧ (2 : Int) ≤ 7 by decide) (.inr rfl))
      split
      · exact GR.put (GR.want p _) (by decide) rfl rfl (fun _ => .plain (show (1 : Int) ≤ 3 ∧ (3 : Int) ≤ 7 by decide) (.inr rfl))
      split
      · exact GR.put (GR.want p _) (by decide) rfl rfl (fun _ => .plain (show (1 : Int) ≤ 7 ∧ (7 : Int) ≤ 7 by decide) (.inr rfl))
      split
      · exact ((((GR.want p _).then (ih.exprP _ _) (by decide) (by decide)).then (GR.want _ _) (by decide) (by decide)).weak (by decide)).list rfl
      have hk := GR.kindOf p 1
      split
      · have h1 := (((hk.then (GR.want _ w_lb) (by decide) (by decide)).then (ih.exprP _ (d + 1)) (by decide) (by decide)).then (GR.want _ w_rb) (by decide) (by decide))
        exact (GR.put h1 (by decide) rfl rfl (fun _ => .plain (show (1 : Int) ≤ 5 ∧ (5 : Int) ≤ 7 by decide) (.inr rfl))).weak (by decide)
      split
      · exact ih.callP p 1 _ _ _ _ hk (by decide) rfl
      · exact GR.put hk (by decide) rfl rfl (fun _ => .plain (show (1 : Int) ≤ 4 ∧ (4 : Int) ≤ 7 by decide) (.inr rfl))
    · unfold Ytaadamobapnfbaa.callP
      have h1 := h.then (GR.want p w_lp) (by omega) (by decide)
      have h2 := (ih.callLoop p0 (k + 1) _ [] d h1 (by omega)).then (GR.want _ w_rp) (by omega) (by decide)
      exact (GR.put h2 (by omega) (List.append_nil _) hfr (fun _ => .plain (show (1 : Int) ≤ 6 ∧ (6 : Int) ≤ 7 by decide) (.inl rfl))).weak (by omega)
    · unfold Ytaadamobapnfbaa.callLoop
      split
      · have h0 : GR 0 p (if l = [] then p else p.want w_comma) [] := by
          split
          · exact .refl p
          · exact (GR.want p _).weak (by decide)
        have h1 := (h.then h0 hk (by decide)).then (ih.exprP _ (d + 1)) (by omega) (by decide)
        exact ih.callLoop p0 k _ _ d ((h1.weak (by omega)).list (by simp)) hk
      · exact h
end Go.Proofs.Ytaadamobapnfbaa
/- What the parser's functions leave: statements. -/
set_option linter.unusedVariables false
set_option linter.unusedSimpArgs false
namespace Go.Proofs.Ytaadamobapnfbaa
open Go Go.Abs
/-- names are not empty -/
def named (l : List Tok) : Prop := ∀ t ∈ l, t.kind ≠ 0 → t.fr < t.to
structure Long (p : PS) : Prop where
  ok : p.ok
  nm : named p.toks
theorem Long.step {e s : Int} {p q : PS} (h : Long p) (hs : Step e s p q) (he : 0 ≤ e) (hss : 0 ≤ s) : Long q := ⟨hs.ok he hss h.ok, by rw [hs.toks]; exact h.nm⟩
theorem kindOf_name {p : PS} (h : Long p) (k : Int) (hk : k ≠ 0) (hc : (p.kindOf k).1.code = 0) : 0 < (p.kindOf k).2.size := by
  unfold PS.kindOf at hc ⊢
  split
  · rename_i h'
    rw [if_pos h'] at hc
    exact absurd hc (by unfold PS.fail; split; exact (by decide : (3:Int) ≠ 0); assumption)
  · rename_i h'
    have h2 : p.tok.kind = k := Decidable.byContradiction fun h'' => h' (.inr h'')
    have h3 := h.nm _ h.ok.mem (by rw [h2]; exact hk)
    have h4 := h.ok.span
    show 0 < (p.text.extract p.tok.fr.toNat p.tok.to.toNat).size
    rw [ByteArray.size_extract]; omega
theorem kids5 (a : Int) (l m : List Int) (s : St) (hk : s.kind = 5 ∨ s.kind = 6) (ha : s.a = a) (h1 : s.thn = l) (h2 : s.els = m) : [Rt.e a] ++ l.map .s ++ m.map .s = s.kids := by
  subst ha; subst h1; subst h2
  have hx : s.xs = [s.a] := by
    unfold St.xs
    rw [if_neg (by omega), if_neg (by omega), if_neg (by omega)]
  unfold St.kids; rw [hx, List.map_append]; simp
theorem StOk.jump {s : St} (hk : 5 ≤ s.kind ∧ s.kind ≤ 11) (hn : s.name.size = 0) (ht : s.kind ≠ 5 → s.kind ≠ 6 → s.thn = []) (he : s.kind ≠ 5 → s.els = []) : StOk s := ⟨by omega, by omega, ht, he⟩
theorem StOk.name {s : St} (hk : 1 ≤ s.kind ∧ s.kind ≤ 4) (hn : 0 < s.name.size) (ht : s.thn = []) (he : s.els = []) : StOk s := ⟨by omega, by omega, fun _ _ => ht, fun _ => he⟩
theorem GR.code {k : Int} {p q : PS} {l : List Rt} (h : GR k p q l) (hc : q.code = 0) : p.code = 0 := (h hc).1
structure Grows2 (n : Nat) : Prop where
  block : ∀ p d, Long p → GR 1 p (block n p d).1 ((block n p d).2.map .s)
  blockLoop : ∀ p0 k p l d, Long p → GR k p0 p (l.map .s) → 0 ≤ k → GR k p0 (blockLoop n p l d).1 ((blockLoop n p l d).2.map .s)
  stmt : ∀ p d, Long p → GR 1 p (stmt n p d).1 [.s (stmt n p d).2]
  branch : ∀ p0 k p fr d, Long p → GR k p0 p [] → 1 ≤ k → fr = p0.here → GR k p0 (branch n p fr d).1 [.s (branch n p fr d).2]
theorem failed (p : PS) (c : Int) (hc : c ≠ 0) : (p.fail c).code ≠ 0 := by
  unfold PS.fail; split
  · exact hc
  · assumption
theorem grows2 : ∀ n, Grows2 n
  | 0 => ⟨fun p _ _ => .fail p 98 (by decide) _ _, fun _ _ p _ _ _ _ _ => .dead (failed p 98 (by decide)), fun p _ _ => .fail p 98 (by decide) _ _, fun _ _ p _ _ _ _ _ _ => .dead (failed p 98 (by decide))⟩
  | n + 1 => by
    have ih := grows2 n
    have ie := grows n
    have is_ := steps n
    have is2 := steps2 n
    refine ⟨fun p d hp => ?_, fun p0 k p l d hp h hk => ?_, fun p d hp => ?_, fun p0 k p fr d hp h hk hfr => ?_⟩
    · unfold Ytaadamobapnfbaa.block
      have g0 : GR 0 p (if p.is w_lc = true then p.deep d else p) [] := by
        split
        · exact .deep p d
        · exact .refl p
      have s0 : Step 0 0 p (if p.is w_lc = true then p.deep d else p) := by
        split
        · exact .deep p d
        · exact .refl p
      have g1 := g0.then (GR.want _ w_lc) (by decide) (by decide)
      have s1 := s0.then (Step.want _ w_lc) (by decide) (by decide)
      exact (((ih.blockLoop p 1 _ [] d (hp.step s1 (by decide) (by decide)) g1 (by decide)).then (GR.want _ w_rc) (by decide) (by decide)).weak (by decide)).list (List.append_nil _)
    · unfold Ytaadamobapnfbaa.blockLoop
      split
      · have g1 := h.then (ih.stmt p d hp) hk (by decide)
        exact ih.blockLoop p0 k _ _ d (hp.step (is2.stmt p d) (by decide) (by decide)) ((g1.weak (by omega)).list (by simp)) hk
      · exact h
    · unfold Ytaadamobapnfbaa.stmt
      split
      · exact ih.branch p 1 _ _ d (hp.step (Step.want p _) (by decide) (by decide)) (GR.want p _) (by decide) rfl
      split
      · have s1 := (Step.want p w_while).then (is_.exprP _ d) (by decide) (by decide)
        have g1 := ((GR.want p w_while).then (ie.exprP _ d) (by decide) (by decide)).then (ih.block _ (d + 1) (hp.step s1 (by decide) (by decide))) (by decide) (by decide)
        refine (GR.add (x := { kind := 6, a := _, thn := _ }) g1 (by decide) (Eq.trans ?_ (kids5 _ _ _ _ (.inr rfl) rfl rfl rfl)) rfl (fun _ => .jump (show (5 : Int) ≤ 6 ∧ (6 : Int) ≤ 11 by decide) rfl (fun _ h => absurd rfl h) (fun _ => rfl))).weak (by decide)
        simp
      split
      · have gk := (GR.want p w_var).then (GR.kindOf _ 1) (by decide) (by decide)
        have hn := kindOf_name (hp.step (Step.want p w_var) (by decide) (by decide)) 1 (by decide)
        split
        · have g1 := (((gk.then (GR.want _ w_lb) (by decide) (by decide)).then (GR.kindOf _ 2) (by decide) (by decide)).then (GR.want _ w_rb) (by decide) (by decide))
          have g0 := (((GR.want ((p.want w_var).kindOf 1).1 w_lb).then (GR.kindOf _ 2) (by decide) (by decide)).then (GR.want _ w_rb) (by decide) (by decide)).then (GR.want _ w_semi) (by decide) (by decide)
          have g2 := g1.then (GR.want _ w_semi) (by decide) (by decide)
          exact (GR.add g2 (by decide) rfl rfl (fun hc => .name (show (1 : Int) ≤ 2 ∧ (2 : Int) ≤ 4 by decide) (hn (g0.code hc)) rfl rfl)).weak (by decide)
        · have g0 := ((GR.want ((p.want w_var).kindOf 1).1 w_eq).then (ie.exprP _ d) (by decide) (by decide)).then (GR.want _ w_semi) (by decide) (by decide)
          have g2 := gk.then g0 (by decide) (by decide)
          exact (GR.add g2 (by decide) rfl rfl (fun hc => .name (show (1 : Int) ≤ 1 ∧ (1 : Int) ≤ 4 by decide) (hn (g0.code hc)) rfl rfl)).weak (by decide)
      split
      · exact (GR.add ((GR.want p _).then (GR.want _ _) (by decide) (by decide)) (by decide) rfl rfl (fun _ => .jump (show (5 : Int) ≤ 7 ∧ (7 : Int) ≤ 11 by decide) rfl (fun _ _ => rfl) (fun _ => rfl))).weak (by decide)
      split
      · exact (GR.add ((GR.want p _).then (GR.want _ _) (by decide) (by decide)) (by decide) rfl rfl (fun _ => .jump (show (5 : Int) ≤ 8 ∧ (8 : Int) ≤ 11 by decide) rfl (fun _ _ => rfl) (fun _ => rfl))).weak (by decide)
      split
      · split
        · exact (GR.add ((GR.want p _).then (GR.want _ _) (by decide) (by decide)) (by decide) rfl rfl (fun _ => .jump (show (5 : Int) ≤ 9 ∧ (9 : Int) ≤ 11 by decide) rfl (fun _ _ => rfl) (fun _ => rfl))).weak (by decide)
        · have g1 := ((GR.want p w_return).then (ie.exprP _ d) (by decide) (by decide)).then (GR.want _ w_semi) (by decide) (by decide)
          refine (GR.addC g1 (by decide) (fun hc => ?_) rfl (fun _ => .jump (show (5 : Int) ≤ 9 ∧ (9 : Int) ≤ 11 by decide) rfl (fun _ _ => rfl) (fun _ => rfl))).weak (by decide)
          have hnn := g1.nn hc (r := (exprP n (p.want w_return) d).2) (by simp)
          unfold St.kids St.xs
          simp only []
          rw [if_neg (by decide), if_pos trivial, if_neg (by omega)]
          rfl
      split
      · exact (GR.add (((GR.want p _).then (ie.exprP _ _) (by decide) (by decide)).then (GR.want _ _) (by decide) (by decide)) (by decide) rfl rfl (fun _ => .jump (show (5 : Int) ≤ 10 ∧ (10 : Int) ≤ 11 by decide) rfl (fun _ _ => rfl) (fun _ => rfl))).weak (by decide)
      have hk := GR.kindOf p 1
      have hn := kindOf_name hp 1 (by decide)
      split
      · exact (GR.add ((ie.callP p 1 _ _ _ d hk (by decide) rfl).then (GR.want _ _) (by decide) (by decide)) (by decide) rfl rfl (fun _ => .jump (show (5 : Int) ≤ 11 ∧ (11 : Int) ≤ 11 by decide) rfl (fun _ _ => rfl) (fun _ => rfl))).weak (by decide)
      split
      · have g0 := ((((GR.want (p.kindOf 1).1 w_lb).then (ie.exprP _ (d + 1)) (by decide) (by decide)).then (GR.want _ w_rb) (by decide) (by decide)).then (GR.want _ w_eq) (by decide) (by decide)).then (ie.exprP _ d) (by decide) (by decide)
        have g1 := g0.then (GR.want _ w_semi) (by decide) (by decide)
        exact (GR.add (hk.then g1 (by decide) (by decide)) (by decide) rfl rfl (fun hc => .name (show (1 : Int) ≤ 4 ∧ (4 : Int) ≤ 4 by decide) (hn (g1.code hc)) rfl rfl)).weak (by decide)
      · have g0 := ((GR.want (p.kindOf 1).1 w_eq).then (ie.exprP _ d) (by decide) (by decide)).then (GR.want _ w_semi) (by decide) (by decide)
        exact (GR.add (hk.then g0 (by decide) (by decide)) (by decide) rfl rfl (fun hc => .name (show (1 : Int) ≤ 3 ∧ (3 : Int) ≤ 4 by decide) (hn (g0.code hc)) rfl rfl)).weak (by decide)
    · unfold Ytaadamobapnfbaa.branch
      simp (config := { zeta := true }) only []
      have s0 := is_.exprP p d
      have s1 := s0.then (is2.block _ (d + 1)) (by decide) (by decide)
      have g1 := (h.then (ie.exprP p d) (by omega) (by decide)).then (ih.block _ (d + 1) (hp.step s0 (by decide) (by decide))) (by omega) (by decide)
      split
      · have g2 := g1.then (GR.want _ w_else) (by omega) (by decide)
        have s2 := s1.then (Step.want _ w_else) (by decide) (by decide)
        split
        · have s3 := s2.then (Step.deep _ (d + 1)) (by decide) (by decide)
          have s4 := s3.then (Step.want _ w_if) (by decide) (by decide)
          have g3 := g2.then (GR.deep _ (d + 1)) (by omega) (by decide)
          have g4 := g3.then (ih.branch _ 1 _ _ (d + 1) (hp.step s4 (by decide) (by decide)) (GR.want _ w_if) (by decide) rfl) (by omega) (by decide)
          refine (GR.add g4 (by omega) (Eq.trans ?_ (kids5 _ _ _ _ (.inl rfl) rfl rfl rfl)) hfr (fun _ => .jump (show (5 : Int) ≤ 5 ∧ (5 : Int) ≤ 11 by decide) rfl (fun h => absurd rfl h) (fun h => absurd rfl h))).weak (by omega)
          simp
        · have g4 := g2.then (ih.block _ (d + 1) (hp.step s2 (by decide) (by decide))) (by omega) (by decide)
          refine (GR.add g4 (by omega) (Eq.trans ?_ (kids5 _ _ _ _ (.inl rfl) rfl rfl rfl)) hfr (fun _ => .jump (show (5 : Int) ≤ 5 ∧ (5 : Int) ≤ 11 by decide) rfl (fun h => absurd rfl h) (fun h => absurd rfl h))).weak (by omega)
          simp
      · refine (GR.add g1 (by omega) (Eq.trans ?_ (kids5 _ _ _ _ (.inl rfl) rfl rfl rfl)) hfr (fun _ => .jump (show (5 : Int) ≤ 5 ∧ (5 : Int) ≤ 11 by decide) rfl (fun h => absurd rfl h) (fun h => absurd rfl h))).weak (by omega)
        simp
end Go.Proofs.Ytaadamobapnfbaa
/- What the parser leaves: functions; the tree of a text. -/
set_option linter.unusedVariables false
set_option linter.unusedSimpArgs false
namespace Go.Proofs.Ytaadamobapnfbaa
open Go Go.Abs
theorem GR.full (p : PS) : GR 0 p p.full [] := by
  unfold PS.full
  split
  · exact .fail p 5 (by decide) _ _
  · exact .refl p
theorem GR.params : ∀ (n : Nat) (p : PS) (l : List ByteArray), GR 0 p (params n p l).1 []
  | 0, p, l => .fail p 98 (by decide) _ _
  | n + 1, p, l => by
    unfold Ytaadamobapnfbaa.params
    split
    · have h0 : GR 0 p (if l = [] then p else p.want w_comma) [] := by
        split
        · exact .refl p
        · exact (GR.want p _).weak (by decide)
      exact ((h0.then (GR.kindOf _ 1) (by decide) (by decide)).then (GR.params n _ _) (by decide) (by decide)).weak (by decide)
    · exact .refl p
theorem params_len : ∀ (n : Nat) (p : PS) (l : List ByteArray), (params n p l).1.code = 0 → ((params n p l).2.length : Int) + p.at_ ≤ l.length + (params n p l).1.at_
  | 0, p, l, hc => absurd hc (failed p 98 (by decide))
  | n + 1, p, l, hc => by
    unfold Ytaadamobapnfbaa.params at hc ⊢
    split
    · rename_i h
      rw [if_pos h] at hc
      have h0 : GR 0 p (if l = [] then p else p.want w_comma) [] := by
        split
        · exact .refl p
        · exact (GR.want p _).weak (by decide)
      have h1 := (h0.then (GR.kindOf _ 1) (by decide) (by decide))
      have h2 := (GR.params n _ _ hc).1
      have h3 := (h1 h2).2.adv
      have := params_len n _ _ hc
      rw [List.length_append, List.length_singleton] at this
      omega
    · show (l.length : Int) + p.at_ ≤ l.length + p.at_; omega
def funcHead (n : Nat) (p : PS) : PS × List ByteArray := params n (((p.full.want w_func).kindOf 1).1.want w_lp) []
theorem funcEnd_grow (n : Nat) (p : PS) (hp : Long p) : GR 4 p (funcEnd n p).1 ((funcEnd n p).2.map .s) ∧ ((funcEnd n p).1.code = 0 → (funcHead n p).1.code = 0 ∧ ((p.full.want w_func).kindOf 1).1.code = 0) := by
  unfold Ytaadamobapnfbaa.funcEnd funcHead
  have s0 := ((((Step.full p).then (Step.want _ w_func) (by decide) (by decide)).then (Step.kindOf _ 1 (by decide)) (by decide) (by decide)).then (Step.want _ w_lp) (by decide) (by decide))
  have s1 := (s0.then (Step.params n _ []) (by decide) (by decide)).then (Step.want _ w_rp) (by decide) (by decide)
  have g00 := ((GR.full p).then (GR.want _ w_func) (by decide) (by decide)).then (GR.kindOf _ 1) (by decide) (by decide)
  have g0 := g00.then (GR.want _ w_lp) (by decide) (by decide)
  have g1 := (g0.then (GR.params n _ []) (by decide) (by decide)).then (GR.want _ w_rp) (by decide) (by decide)
  have gp := GR.params n (((p.full.want w_func).kindOf 1).1.want w_lp) []
  have key : ∀ q2, GR 0 (((params n (((p.full.want w_func).kindOf 1).1.want w_lp) []).1.want w_rp)) q2 [] → Step 0 0 (((params n (((p.full.want w_func).kindOf 1).1.want w_lp) []).1.want w_rp)) q2 →
      GR 4 p (Ytaadamobapnfbaa.block n q2 1).1 ((Ytaadamobapnfbaa.block n q2 1).2.map .s) ∧ ((Ytaadamobapnfbaa.block n q2 1).1.code = 0 → (params n (((p.full.want w_func).kindOf 1).1.want w_lp) []).1.code = 0 ∧ ((p.full.want w_func).kindOf 1).1.code = 0) := by
    intro q2 gq sq
    have s2 := s1.then sq (by decide) (by decide)
    have gb := (grows2 n).block q2 1 (hp.step s2 (by decide) (by decide))
    refine ⟨(((g1.then gq (by decide) (by decide)).then gb (by decide) (by decide)).weak (by decide)).list (by simp), fun hc => ?_⟩
    have c1 := gq.code (gb.code hc)
    have c2 := (GR.want _ w_rp).code c1
    exact ⟨c2, (GR.want _ w_lp).code (gp.code c2)⟩
  split
  · exact key _ ((GR.want _ w_int).weak (by decide)) ((Step.want _ w_int).weak (by decide) (by decide))
  · exact key _ (.refl _) (.refl _)
structure FOne (toks : List Tok) (es : List Ex) (ss : List St) (g : Fu) (a b : Nat) (x : Int) (c d : Nat) (y : Int) : Prop where
  cov : Cov es ss (g.body.map .s) a b c d
  ex : ∀ (i : Nat) (z : Ex), a ≤ i → i < c → es[i]? = some z → ExOk z ∧ Span toks x y z.fr z.to
  st : ∀ (i : Nat) (z : St), b ≤ i → i < d → ss[i]? = some z → StOk z ∧ Span toks x y z.fr z.to
  lt : x < y
  fr : g.fr = (toks.getD x.toNat default).fr
  to : g.to = (toks.getD (y - 1).toNat default).to
  type : g.type = 1 ∨ g.type = 4
  name : 0 < g.name.size
  params : (g.params.length : Int) ≤ y - x
inductive FCov (toks : List Tok) (es : List Ex) (ss : List St) : List Fu → Nat → Nat → Int → Nat → Nat → Int → Prop
  | nil (a b : Nat) (x : Int) : FCov toks es ss [] a b x a b x
  | snoc {l : List Fu} {g : Fu} {a b c d e f : Nat} {x y z : Int} (h : FCov toks es ss l a b x c d y) (h' : FOne toks es ss g c d y e f z) : FCov toks es ss (l ++ [g]) a b x e f z
theorem FCov.le {toks : List Tok} {es : List Ex} {ss : List St} {l : List Fu} {a b c d : Nat} {x y : Int} (h : FCov toks es ss l a b x c d y) : a ≤ c ∧ b ≤ d ∧ x ≤ y := by
  induction h with
  | nil => simp
  | snoc h h' ih => have := h'.cov.le; have := h'.lt; omega
theorem FOne.more {toks : List Tok} {es es' : List Ex} {ss ss' : List St} {g : Fu} {a b c d : Nat} {x y : Int} (h : FOne toks es ss g a b x c d y) (hc : c ≤ es.length) (hd : d ≤ ss.length) : FOne toks (es ++ es') (ss ++ ss') g a b x c d y :=
  { h with cov := h.cov.more, ex := fun i z h1 h2 hz => h.ex i z h1 h2 (by rw [List.getElem?_append_left (by omega)] at hz; exact hz), st := fun i z h1 h2 hz => h.st i z h1 h2 (by rw [List.getElem?_append_left (by omega)] at hz; exact hz) }
theorem FCov.more {toks : List Tok} {es es' : List Ex} {ss ss' : List St} {l : List Fu} {a b c d : Nat} {x y : Int} (h : FCov toks es ss l a b x c d y) : c ≤ es.length → d ≤ ss.length → FCov toks (es ++ es') (ss ++ ss') l a b x c d y := by
  induction h with
  | nil => exact fun _ _ => .nil _ _ _
  | snoc h h' ih =>
    intro hc hd
    have := h'.cov.le
    exact .snoc (ih (by omega) (by omega)) (h'.more hc hd)
theorem function_forest (n : Nat) (p : PS) (hp : Long p) (hf : FCov p.toks p.exprs p.stmts p.funcs 0 0 0 p.exprs.length p.stmts.length p.at_) (hc : (function n p).code = 0) :
    Long (function n p) ∧ (function n p).toks = p.toks ∧ (function n p).text = p.text ∧ (function n p).funcs ≠ [] ∧ FCov (function n p).toks (function n p).exprs (function n p).stmts (function n p).funcs 0 0 0 (function n p).exprs.length (function n p).stmts.length (function n p).at_ := by
  have ho := function_ok (n := n) hp.ok
  rw [function_eq] at hc ho ⊢
  split at hc
  · rename_i h; exact absurd hc h
  rename_i hq
  rw [if_neg hq] at ho ⊢
  have hq : (funcEnd n p).1.code = 0 := Decidable.byContradiction hq
  obtain ⟨hg, hcs⟩ := funcEnd_grow n p hp
  obtain ⟨c1, c2⟩ := hcs hq
  obtain ⟨hc0, g⟩ := hg hq
  obtain ⟨xs, ex⟩ := g.exs
  obtain ⟨ys, sx⟩ := g.sts
  have hadv := g.adv
  have htk : (funcEnd n p).1.toks = p.toks := g.toks
  refine ⟨⟨ho.1, by show named (funcEnd n p).1.toks; rw [htk]; exact hp.nm⟩, ho.2.1, ho.2.2.1, by simp, ?_⟩
  dsimp only
  rw [g.funcs, htk]
  refine .snoc (c := p.exprs.length) (d := p.stmts.length) (y := p.at_) ?_ ?_
  · rw [ex, sx]; exact hf.more (Nat.le_refl _) (Nat.le_refl _)
  · refine ⟨g.cov, fun i z h1 h2 hz => g.exok i z h1 hz, fun i z h1 h2 hz => g.stok i z h1 hz, by omega, rfl, ?_, ?_, ?_, ?_⟩
    · show (funcEnd n p).1.lastTo = _; unfold PS.lastTo; rw [htk]
    · unfold funcOf; dsimp only; split
      · exact .inl rfl
      · exact .inr rfl
    · exact kindOf_name (hp.step ((Step.full p).then (Step.want _ w_func) (by decide) (by decide)) (by decide) (by decide)) 1 (by decide) c2
    · have h1 := params_len n _ _ c1
      have g0 := (((GR.full p).then (GR.want _ w_func) (by decide) (by decide)).then (GR.kindOf _ 1) (by decide) (by decide)).then (GR.want _ w_lp) (by decide) (by decide)
      have h2 := (g0 ((GR.params n _ []).code c1)).2.adv
      have h3 : (funcHead n p).1.at_ ≤ (funcEnd n p).1.at_ := by
        unfold Ytaadamobapnfbaa.funcEnd funcHead
        split
        · exact ((((Step.want _ w_rp).then (Step.want _ w_int) (by decide) (by decide)).then ((steps2 n).block _ 1) (by decide) (by decide))).at_
        · exact ((Step.want _ w_rp).then ((steps2 n).block _ 1) (by decide) (by decide)).at_
      show ((funcHead n p).2.length : Int) ≤ _
      simp only [List.length_nil] at h1
      change ((funcHead n p).2.length : Int) + _ ≤ _ + (funcHead n p).1.at_ at h1
      omega
theorem parseLoop_forest (k : Nat) : ∀ (n : Nat) (p : PS), Long p → FCov p.toks p.exprs p.stmts p.funcs 0 0 0 p.exprs.length p.stmts.length p.at_ → (parseLoop k n p).code = 0 →
    Long (parseLoop k n p) ∧ (parseLoop k n p).toks = p.toks ∧ (parseLoop k n p).text = p.text ∧ (parseLoop k n p).funcs ≠ [] ∧ FCov (parseLoop k n p).toks (parseLoop k n p).exprs (parseLoop k n p).stmts (parseLoop k n p).funcs 0 0 0 (parseLoop k n p).exprs.length (parseLoop k n p).stmts.length (parseLoop k n p).at_
  | 0, p, hp, hf, hc => absurd hc (failed p 98 (by decide))
  | n + 1, p, hp, hf, hc => by
    unfold Ytaadamobapnfbaa.parseLoop at hc ⊢
    split
    · rename_i h
      rw [if_pos h] at hc
      by_cases hz : (function k p).code = 0
      · obtain ⟨h1, h2, h3, h4, h5⟩ := function_forest k p hp hf hz
        obtain ⟨q1, q2, q3, q4, q5⟩ := parseLoop_forest k n _ h1 h5 hc
        exact ⟨q1, q2.trans h2, q3.trans h3, q4, q5⟩
      · have : parseLoop k n (function k p) = if n = 0 then (function k p).fail 98 else function k p := by
          cases n with
          | zero => simp [Ytaadamobapnfbaa.parseLoop]
          | succ n => simp [Ytaadamobapnfbaa.parseLoop, hz]
        rw [this] at hc
        split at hc
        · exact absurd hc (failed _ 98 (by decide))
        · exact absurd hc hz
    · rename_i h
      rw [if_neg h] at hc
      refine ⟨hp, rfl, rfl, ?_, hf⟩
      intro hn
      exact h ⟨hc, .inl hn⟩
end Go.Proofs.Ytaadamobapnfbaa
/- The tree of a text is well-formed. -/
set_option linter.unusedVariables false
set_option linter.unusedSimpArgs false
namespace Go.Proofs.Ytaadamobapnfbaa
open Go Go.Abs
theorem Chain.named {s : ByteArray} {at_ : Nat} {l : List Tok} (h : Chain s at_ l) : Ytaadamobapnfbaa.named l := by
  induction h with
  | last h hk => intro t ht hn; rw [List.mem_singleton] at ht; subst ht; exact absurd hk hn
  | cons h hk h' ih =>
    intro t ht hn
    rcases List.mem_cons.1 ht with rfl | ht
    · exact h.kind hk
    · exact ih t ht hn
structure IsTree (s : ByteArray) (t : Tree) (toks : List Tok) (at_ : Int) : Prop where
  chain : Chain s 0 toks
  cov : FCov toks t.exprs t.stmts t.funcs 0 0 0 t.exprs.length t.stmts.length at_
  lt : at_ < toks.length
  some : t.funcs ≠ []
  big : t.exprs.length ≤ 20001 ∧ t.stmts.length ≤ 20001 ∧ t.funcs.length ≤ 20001
  small : at_ ≤ 20001
theorem parse_tree {s : ByteArray} (hs : s.size ≤ 1000000) (hc : (parse s).2.2 = 0) : ∃ toks at_, IsTree s (parse s).1 toks at_ := by
  unfold parse at hc ⊢
  split at hc
  · rename_i h; exact absurd hc h
  rename_i h1
  rw [if_neg h1]
  split at hc
  · rename_i h; exact absurd hc h
  rename_i h2
  rw [if_neg h2]
  have h1 : (tokens s).2.2 = 0 := Decidable.byContradiction h1
  have h2 : (parsed s).code = 0 := Decidable.byContradiction h2
  have hch := tokens_chain h1
  have hl : Long (startP s) := ⟨PS.start_ok hs h1, hch.named⟩
  obtain ⟨q1, q2, q3, q4, q5⟩ := parseLoop_forest (fuelP s) _ (startP s) hl (.nil 0 0 0) h2
  have o := q1.ok
  have e1 := o.ex
  have e2 := o.st
  have e3 := o.fu
  have e4 := o.at1
  have e5 := o.small
  change ((parsed s).exprs.length : Int) ≤ (parsed s).at_ at e1
  change ((parsed s).stmts.length : Int) ≤ (parsed s).at_ at e2
  change ((parsed s).funcs.length : Int) ≤ (parsed s).at_ at e3
  change (parsed s).at_ < ((parsed s).toks.length : Int) at e4
  change (parsed s).toks.length ≤ 1048576 at e5
  have e6 : (parsed s).toks = (tokens s).1 := q2
  have e7 := hch.len
  have e8 : s.size ≤ 20000 := by
    unfold tokens at h1
    by_cases h : 20000 < s.size
    · rw [if_pos h] at h1; exact absurd h1 (by decide)
    · omega
  rw [e6] at e4
  refine ⟨(tokens s).1, (parsed s).at_, hch, ?_, ?_, q4, ?_, ?_⟩
  · dsimp only; rw [← e6]; exact q5
  · exact e4
  · dsimp only; omega
  · omega
theorem Cov.roots {es : List Ex} {ss : List St} {l : List Rt} {a b c d : Nat} (h : Cov es ss l a b c d) : (∀ r, Rt.e r ∈ l → (a : Int) ≤ r ∧ r < c) ∧ (∀ r, Rt.s r ∈ l → (b : Int) ≤ r ∧ r < d) ∧ l.length + a + b ≤ c + d := by
  induction h with
  | nil => simp
  | @e r a b c d x l hx hk hl ih1 ih2 =>
    have l1 := hk.le
    have l2 := hl.le
    refine ⟨fun r' hr => ?_, fun r' hr => ?_, ?_⟩
    · rcases List.mem_cons.1 hr with h | h
      · cases h; omega
      · have := ih2.1 r' h; omega
    · rcases List.mem_cons.1 hr with h | h
      · cases h
      · exact ih2.2.1 r' h
    · have := ih2.2.2; rw [List.length_cons]; omega
  | @s r a b c d e1 x l hx hk hl ih1 ih2 =>
    have l1 := hk.le
    have l2 := hl.le
    refine ⟨fun r' hr => ?_, fun r' hr => ?_, ?_⟩
    · rcases List.mem_cons.1 hr with h | h
      · cases h
      · have := ih2.1 r' h; omega
    · rcases List.mem_cons.1 hr with h | h
      · cases h; omega
      · have := ih2.2.1 r' h; omega
    · have := ih2.2.2; rw [List.length_cons]; omega
theorem Cov.exAt {es : List Ex} {ss : List St} {l : List Rt} {a b c d : Nat} (h : Cov es ss l a b c d) : ∀ (i : Nat) (x : Ex), a ≤ i → i < c → es[i]? = some x → ∃ a' b', Cov es ss (x.kids.map .e) a' b' i b' := by
  induction h with
  | nil => intro i x h1 h2; omega
  | @e r a b c d y l hx hk hl ih1 ih2 =>
    intro i x h1 h2 h3
    by_cases hlt : i < r
    · exact ih1 i x h1 hlt h3
    by_cases he : i = r
    · subst he
      rw [hx] at h3; cases h3
      exact ⟨a, b, hk⟩
    · exact ih2 i x (by omega) h2 h3
  | @s r a b c d e1 y l hx hk hl ih1 ih2 =>
    intro i x h1 h2 h3
    by_cases hlt : i < e1
    · exact ih1 i x h1 hlt h3
    · exact ih2 i x (by omega) h2 h3
theorem Cov.stAt {es : List Ex} {ss : List St} {l : List Rt} {a b c d : Nat} (h : Cov es ss l a b c d) : ∀ (i : Nat) (x : St), b ≤ i → i < d → ss[i]? = some x → ∃ a' b' c', Cov es ss x.kids a' b' c' i ∧ a ≤ a' ∧ b ≤ b' ∧ c' ≤ c := by
  induction h with
  | nil => intro i x h1 h2; omega
  | @e r a b c d y l hx hk hl ih1 ih2 =>
    intro i x h1 h2 h3
    have l1 := hk.le
    obtain ⟨a', b', c', q1, q2, q3, q4⟩ := ih2 i x h1 h2 h3
    exact ⟨a', b', c', q1, by omega, q3, q4⟩
  | @s r a b c d e1 y l hx hk hl ih1 ih2 =>
    intro i x h1 h2 h3
    have l1 := hk.le
    have l2 := hl.le
    by_cases hlt : i < r
    · obtain ⟨a', b', c', q1, q2, q3, q4⟩ := ih1 i x h1 hlt h3
      exact ⟨a', b', c', q1, q2, q3, by omega⟩
    by_cases he : i = r
    · subst he
      rw [hx] at h3; cases h3
      exact ⟨a, b, e1, hk, Nat.le_refl _, Nat.le_refl _, l2.1⟩
    · obtain ⟨a', b', c', q1, q2, q3, q4⟩ := ih2 i x (by omega) h2 h3
      exact ⟨a', b', c', q1, by omega, by omega, q4⟩
/-- the function to which an expression, a statement belongs -/
theorem FCov.one_e {toks : List Tok} {es : List Ex} {ss : List St} {l : List Fu} {a b c d : Nat} {x y : Int} (h : FCov toks es ss l a b x c d y) : ∀ i, a ≤ i → i < c →
    ∃ (k : Nat) (g : Fu) (a' b' c' d' : Nat) (x' y' : Int), l[k]? = some g ∧ FOne toks es ss g a' b' x' c' d' y' ∧ a ≤ a' ∧ b ≤ b' ∧ x ≤ x' ∧ c' ≤ c ∧ d' ≤ d ∧ y' ≤ y ∧ a' ≤ i ∧ i < c' := by
  induction h with
  | nil => intro i h1 h2; omega
  | @snoc l g a b c d e f x y z h h' ih =>
    intro i h1 h2
    have l1 := h.le
    have l2 := h'.cov.le
    have l3 := h'.lt
    by_cases hlt : i < c
    · obtain ⟨k, g', a', b', c', d', x', y', q1, q2, q3, q4, q5, q6, q7, q8, q9, q10⟩ := ih i h1 hlt
      exact ⟨k, g', a', b', c', d', x', y', get_append q1, q2, q3, q4, q5, by omega, by omega, by omega, q9, q10⟩
    · exact ⟨l.length, g, c, d, e, f, y, z, by simp, h', by omega, by omega, by omega, by omega, by omega, by omega, by omega, h2⟩
theorem FCov.one_s {toks : List Tok} {es : List Ex} {ss : List St} {l : List Fu} {a b c d : Nat} {x y : Int} (h : FCov toks es ss l a b x c d y) : ∀ i, b ≤ i → i < d →
    ∃ (k : Nat) (g : Fu) (a' b' c' d' : Nat) (x' y' : Int), l[k]? = some g ∧ FOne toks es ss g a' b' x' c' d' y' ∧ a ≤ a' ∧ b ≤ b' ∧ x ≤ x' ∧ c' ≤ c ∧ d' ≤ d ∧ y' ≤ y ∧ b' ≤ i ∧ i < d' := by
  induction h with
  | nil => intro i h1 h2; omega
  | @snoc l g a b c d e f x y z h h' ih =>
    intro i h1 h2
    have l1 := h.le
    have l2 := h'.cov.le
    have l3 := h'.lt
    by_cases hlt : i < d
    · obtain ⟨k, g', a', b', c', d', x', y', q1, q2, q3, q4, q5, q6, q7, q8, q9, q10⟩ := ih i h1 hlt
      exact ⟨k, g', a', b', c', d', x', y', get_append q1, q2, q3, q4, q5, by omega, by omega, by omega, q9, q10⟩
    · exact ⟨l.length, g, c, d, e, f, y, z, by simp, h', by omega, by omega, by omega, by omega, by omega, by omega, by omega, h2⟩
theorem FCov.one_f {toks : List Tok} {es : List Ex} {ss : List St} {l : List Fu} {a b c d : Nat} {x y : Int} (h : FCov toks es ss l a b x c d y) : ∀ k g, l[k]? = some g →
    ∃ (a' b' c' d' : Nat) (x' y' : Int), FOne toks es ss g a' b' x' c' d' y' ∧ a ≤ a' ∧ b ≤ b' ∧ x ≤ x' ∧ c' ≤ c ∧ d' ≤ d ∧ y' ≤ y ∧ FCov toks es ss (l.take k) a b x a' b' x' := by
  induction h with
  | nil => intro k g hk; simp at hk
  | @snoc l g a b c d e f x y z h h' ih =>
    intro k g' hk
    have l1 := h.le
    have l2 := h'.cov.le
    have l3 := h'.lt
    by_cases hlt : k < l.length
    · rw [List.getElem?_append_left hlt] at hk
      obtain ⟨a', b', c', d', x', y', q2, q3, q4, q5, q6, q7, q8, q9⟩ := ih k g' hk
      exact ⟨a', b', c', d', x', y', q2, q3, q4, q5, by omega, by omega, by omega, by rw [List.take_append_of_le_length (by omega)]; exact q9⟩
    · have hk0 : k = l.length := by
        have := (List.getElem?_eq_some_iff.1 hk).1
        simp at this; omega
      subst hk0
      simp at hk
      subst hk
      exact ⟨c, d, e, f, y, z, h', by omega, by omega, by omega, by omega, by omega, by omega, by rw [List.take_left]; exact h⟩
theorem IsTree.ok {s : ByteArray} {t : Tree} {toks : List Tok} {at_ : Int} (h : IsTree s t toks at_) : TreeOk t := by
  have hbig := h.big
  refine ⟨fun i x hx => ?_, fun i x hx => ?_, fun g hg => ?_, ?_, by omega⟩
  · have hlt := (List.getElem?_eq_some_iff.1 hx).1
    obtain ⟨k, g, a', b', c', d', x', y', q1, q2, q3, q4, q5, q6, q7, q8, q9, q10⟩ := h.cov.one_e i (Nat.zero_le _) hlt
    obtain ⟨u, v, hcv⟩ := q2.cov.exAt i x q9 q10 hx
    have hr := hcv.roots
    have hok := (q2.ex i x q9 q10 hx).1
    have mem : ∀ r ∈ x.kids, 0 ≤ r ∧ r < (i : Int) := fun r hr' => by
      have := hr.1 r (List.mem_map.2 ⟨r, hr', rfl⟩); omega
    refine ⟨fun hk => ?_, fun hk => ?_, fun hk => ?_, ?_⟩
    · refine mem x.a ?_
      unfold Ex.kids
      rcases hk with hk | hk | hk <;> rw [hk] <;> simp
    · have hb := mem x.b (by unfold Ex.kids; rw [hk]; simp)
      exact ⟨hb.1, hb.2, hok.op9 hk⟩
    · intro a ha
      exact mem a (by unfold Ex.kids; rw [if_neg (by omega), if_neg (by omega), if_pos hk]; exact ha)
    · rcases hok.ls with h6 | h6
      · have := hr.2.2
        rw [List.length_map, show x.kids = x.list by unfold Ex.kids; rw [if_neg (by omega), if_neg (by omega), if_pos h6]] at this
        omega
      · rw [h6]; simp
  · have hlt := (List.getElem?_eq_some_iff.1 hx).1
    obtain ⟨k, g, a', b', c', d', x', y', q1, q2, q3, q4, q5, q6, q7, q8, q9, q10⟩ := h.cov.one_s i (Nat.zero_le _) hlt
    obtain ⟨u, v, w, hcv, u1, u2, u3⟩ := q2.cov.stAt i x q9 q10 hx
    have hr := hcv.roots
    have hok := (q2.st i x q9 q10 hx).1
    have hk1 := hok.k1
    have mem : ∀ r ∈ x.xs, 0 ≤ r ∧ r < (t.exprs.length : Int) := fun r hr' => by
      have := hr.1 r (by unfold St.kids; exact List.mem_append_left _ (List.mem_map.2 ⟨r, hr', rfl⟩)); omega
    have mem2 : ∀ r ∈ x.thn ++ x.els, 0 ≤ r ∧ r < (i : Int) := fun r hr' => by
      have := hr.2.1 r (by unfold St.kids; exact List.mem_append_right _ (List.mem_map.2 ⟨r, hr', rfl⟩)); omega
    have hlen := hr.2.2
    have hk4 : x.thn.length + x.els.length ≤ x.kids.length := by unfold St.kids; simp
    refine ⟨fun hk => ?_, fun hk => ?_, fun hk => ?_, fun r hr' => mem2 r (List.mem_append_left _ hr'), fun r hr' => mem2 r (List.mem_append_right _ hr'), by omega, by omega⟩
    · refine (mem x.a ?_).1
      unfold St.xs
      by_cases h4 : x.kind = 4
      · rw [if_pos h4]; simp
      · rw [if_neg h4, if_neg (by omega), if_neg (by omega)]; simp
    · by_cases h9 : x.kind = 9 ∧ x.a < 0
      · omega
      · refine (mem x.a ?_).2
        unfold St.xs
        by_cases h4 : x.kind = 4
        · rw [if_pos h4]; simp
        · rw [if_neg h4]
          by_cases h99 : x.kind = 9
          · rw [if_pos h99, if_neg (by omega)]; simp
          · rw [if_neg h99, if_neg (by omega)]; simp
    · have := mem x.b (by unfold St.xs; rw [if_pos hk]; simp)
      exact this
  · obtain ⟨k, hk, hg'⟩ := List.getElem_of_mem hg
    obtain ⟨a', b', c', d', x', y', q2, q3, q4, q5, q6, q7, q8, q9⟩ := h.cov.one_f k g (by rw [List.getElem?_eq_getElem hk, hg'])
    have hr := q2.cov.roots
    have hs := h.small
    refine ⟨by have := q2.params; omega, by have := hr.2.2; rw [List.length_map] at this; have := hbig; omega, fun r hr' => ?_⟩
    have := hr.2.1 r (List.mem_map.2 ⟨r, hr', rfl⟩); omega
  · have := h.some
    cases hf : t.funcs with
    | nil => exact absurd hf this
    | cons => simp
end Go.Proofs.Ytaadamobapnfbaa
/- Where statements stand; which come next: on data. -/
set_option linter.unusedVariables false
set_option linter.unusedSimpArgs false
namespace Go.Proofs.Ytaadamobapnfbaa
open Go Go.Abs
structure Ctx where
  i : Int
  L : List Int
  k : Nat
  inn : Int
  loop : Int
  behind : Int
  lb : Int
def firstOf : List Int → Int → Int
  | [], b => b
  | a :: _, _ => a
def Tree.stm (t : Tree) (i : Int) : St := t.stmts.getD i.toNat default
def Ctx.at_ (L : List Int) (k : Nat) (inn loop B lb : Int) : Ctx := ⟨L.getD k 0, L, k, inn, loop, firstOf (L.drop (k + 1)) B, lb⟩
def Ctx.sub (t : Tree) (c : Ctx) (L : List Int) (k : Nat) : Ctx :=
  if (t.stm c.i).kind = 6 then .at_ L k c.i c.i c.i c.behind else .at_ L k c.i c.loop c.behind c.lb
def Ctx.thn (t : Tree) (c : Ctx) (k : Nat) : Ctx := c.sub t (t.stm c.i).thn k
def Ctx.els (t : Tree) (c : Ctx) (k : Nat) : Ctx := c.sub t (t.stm c.i).els k
inductive Occ (t : Tree) (c : Ctx) : Ctx → Prop
  | self : Occ t c c
  | thn {d : Ctx} (h : Occ t c d) (k : Nat) (hk : k < (t.stm d.i).thn.length) : Occ t c (d.thn t k)
  | els {d : Ctx} (h : Occ t c d) (k : Nat) (hk : k < (t.stm d.i).els.length) : Occ t c (d.els t k)
theorem Occ.trans {t : Tree} {c d e : Ctx} (h : Occ t c d) (h' : Occ t d e) : Occ t c e := by
  induction h' with
  | self => exact h
  | thn h' k hk ih => exact .thn ih k hk
  | els h' k hk ih => exact .els ih k hk
theorem Occ.cases {t : Tree} {c d : Ctx} (h : Occ t c d) : d = c ∨ (∃ k, k < (t.stm c.i).thn.length ∧ Occ t (c.thn t k) d) ∨ (∃ k, k < (t.stm c.i).els.length ∧ Occ t (c.els t k) d) := by
  induction h with
  | self => exact .inl rfl
  | thn h k hk ih =>
    rcases ih with rfl | ⟨j, hj, ho⟩ | ⟨j, hj, ho⟩
    · exact .inr (.inl ⟨k, hk, .self⟩)
    · exact .inr (.inl ⟨j, hj, .thn ho k hk⟩)
    · exact .inr (.inr ⟨j, hj, .thn ho k hk⟩)
  | els h k hk ih =>
    rcases ih with rfl | ⟨j, hj, ho⟩ | ⟨j, hj, ho⟩
    · exact .inr (.inr ⟨k, hk, .self⟩)
    · exact .inr (.inl ⟨j, hj, .els ho k hk⟩)
    · exact .inr (.inr ⟨j, hj, .els ho k hk⟩)
def topC (g : Fu) (k : Nat) : Ctx := .at_ g.body k (-1) (-1) (-1) (-1)
def way (t : Tree) (c : Ctx) : List Int :=
  if (t.stm c.i).kind = 5 then [firstOf (t.stm c.i).thn c.behind, firstOf (t.stm c.i).els c.behind]
  else if (t.stm c.i).kind = 6 then [firstOf (t.stm c.i).thn c.i, c.behind]
  else if (t.stm c.i).kind = 7 then [c.lb] else if (t.stm c.i).kind = 8 then [c.loop] else if (t.stm c.i).kind = 9 then [-1] else [c.behind]
/-- statements alone -/
inductive SCov (t : Tree) : List Int → Nat → Nat → Prop
  | nil (a : Nat) : SCov t [] a a
  | cons {r a c : Nat} {l : List Int} (hr : r < t.stmts.length) (hk : SCov t ((t.stm r).thn ++ (t.stm r).els) a r) (hl : SCov t l (r + 1) c) : SCov t ((r : Int) :: l) a c
theorem SCov.le {t : Tree} {l : List Int} {a c : Nat} (h : SCov t l a c) : a ≤ c := by
  induction h with
  | nil => exact Nat.le_refl _
  | cons hr hk hl ih1 ih2 => omega
theorem SCov.split {t : Tree} : ∀ {l m : List Int} {a c : Nat}, SCov t (l ++ m) a c → ∃ b, SCov t l a b ∧ SCov t m b c
  | [], m, a, c, h => ⟨a, .nil a, h⟩
  | x :: l, m, a, c, h => by
    cases h with
    | cons hr hk hl =>
      obtain ⟨b, h1, h2⟩ := SCov.split hl
      exact ⟨b, .cons hr hk h1, h2⟩
def stmtRoots : List Rt → List Int
  | [] => []
  | .e _ :: l => stmtRoots l
  | .s r :: l => r :: stmtRoots l
theorem stmtRoots_append : ∀ l m : List Rt, stmtRoots (l ++ m) = stmtRoots l ++ stmtRoots m
  | [], m => rfl
  | .e _ :: l, m => stmtRoots_append l m
  | .s r :: l, m => by simp only [List.cons_append, stmtRoots, stmtRoots_append l m]
theorem stmtRoots_e : ∀ l : List Int, stmtRoots (l.map .e) = []
  | [] => rfl
  | _ :: l => stmtRoots_e l
theorem stmtRoots_s : ∀ l : List Int, stmtRoots (l.map .s) = l
  | [] => rfl
  | x :: l => by simp only [List.map_cons, stmtRoots, stmtRoots_s l]
theorem Cov.scov {t : Tree} {l : List Rt} {a b c d : Nat} (h : Cov t.exprs t.stmts l a b c d) : SCov t (stmtRoots l) b d := by
  induction h with
  | nil a b => exact .nil b
  | e hx hk hl ih1 ih2 =>
    exact ih2
  | @s r a b c d e1 x l hx hk hl ih1 ih2 =>
    have hs : t.stm (r : Int) = x := by
      simp only [Tree.stm, Int.toNat_natCast, List.getD_eq_getElem?_getD, hx, Option.getD_some]
    refine .cons (List.getElem?_eq_some_iff.1 hx).1 ?_ ih2
    rw [hs]
    unfold St.kids at ih1
    rw [stmtRoots_append, stmtRoots_e, stmtRoots_s] at ih1
    exact ih1
theorem SCov.mem {t : Tree} {l : List Int} {a c : Nat} (h : SCov t l a c) : ∀ k (hk : k < l.length), ∃ r b : Nat, l[k] = (r : Int) ∧ l.getD k 0 = (r : Int) ∧ a ≤ b ∧ b ≤ r ∧ r < c ∧ r < t.stmts.length ∧ SCov t ((t.stm r).thn ++ (t.stm r).els) b r ∧ SCov t (l.take k) a b ∧ SCov t (l.drop (k + 1)) (r + 1) c := by
  induction h with
  | nil => intro k hk; simp at hk
  | @cons r a c l hr hk hl ih1 ih2 =>
    intro k hk'
    have l1 := hk.le
    have l2 := hl.le
    cases k with
    | zero => exact ⟨r, a, rfl, rfl, Nat.le_refl _, l1, l2, hr, hk, .nil _, hl⟩
    | succ k =>
      obtain ⟨r', b, q1, q1', q2, q3, q4, q5, q6, q7, q8⟩ := ih2 k (by simpa using hk')
      exact ⟨r', b, q1, q1', by omega, q3, q4, q5, q6, .cons hr hk q7, q8⟩
theorem SCov.len {t : Tree} {l : List Int} {a c : Nat} (h : SCov t l a c) : l.length + a ≤ c := by
  induction h with
  | nil => simp
  | cons hr hk hl ih1 ih2 => have := hk.le; rw [List.length_cons]; omega
/-- a statement's own range -/
structure Own1 (t : Tree) (c : Ctx) (lo : Nat) : Prop where
  i0 : 0 ≤ c.i
  i1 : c.i < t.stmts.length
  kids : SCov t ((t.stm c.i).thn ++ (t.stm c.i).els) lo c.i.toNat
theorem SCov.own {t : Tree} {l : List Int} {a c : Nat} (h : SCov t l a c) {k : Nat} (hk : k < l.length) (inn loop B lb : Int) : ∃ lo, Own1 t (.at_ l k inn loop B lb) lo ∧ a ≤ lo ∧ (Ctx.at_ l k inn loop B lb).i < c ∧ SCov t (l.take k) a lo := by
  obtain ⟨r, b, q1, q1', q2, q3, q4, q5, q6, q7, q8⟩ := h.mem k hk
  have e : (Ctx.at_ l k inn loop B lb).i = (r : Int) := q1'
  refine ⟨b, ⟨by rw [e]; omega, by rw [e]; omega, ?_⟩, q2, by rw [e]; omega, q7⟩
  rw [e]; exact q6
theorem sub_i (t : Tree) (c : Ctx) (L : List Int) (k : Nat) : (c.sub t L k).i = L.getD k 0 := by unfold Ctx.sub; split <;> rfl
theorem Own1.thn {t : Tree} {c : Ctx} {lo : Nat} (h : Own1 t c lo) {k : Nat} (hk : k < (t.stm c.i).thn.length) : ∃ lo', Own1 t (c.thn t k) lo' ∧ lo ≤ lo' ∧ (c.thn t k).i < c.i := by
  obtain ⟨b, h1, h2⟩ := h.kids.split
  have := h.i0
  have hl := h2.le
  unfold Ctx.thn Ctx.sub
  split
  · obtain ⟨lo', q1, q2, q3, _⟩ := h1.own hk c.i c.i c.i c.behind
    exact ⟨lo', q1, q2, by omega⟩
  · obtain ⟨lo', q1, q2, q3, _⟩ := h1.own hk c.i c.loop c.behind c.lb
    exact ⟨lo', q1, q2, by omega⟩
theorem Own1.els {t : Tree} {c : Ctx} {lo : Nat} (h : Own1 t c lo) {k : Nat} (hk : k < (t.stm c.i).els.length) : ∃ lo', Own1 t (c.els t k) lo' ∧ lo ≤ lo' ∧ (c.els t k).i < c.i := by
  obtain ⟨b, h1, h2⟩ := h.kids.split
  have := h.i0
  have hl := h1.le
  unfold Ctx.els Ctx.sub
  split
  · obtain ⟨lo', q1, q2, q3, _⟩ := h2.own hk c.i c.i c.i c.behind
    exact ⟨lo', q1, by omega, by omega⟩
  · obtain ⟨lo', q1, q2, q3, _⟩ := h2.own hk c.i c.loop c.behind c.lb
    exact ⟨lo', q1, by omega, by omega⟩
theorem Own1.occ {t : Tree} {c d : Ctx} {lo : Nat} (h : Own1 t c lo) (ho : Occ t c d) : ∃ lo', Own1 t d lo' ∧ lo ≤ lo' ∧ lo' ≤ d.i ∧ d.i ≤ c.i := by
  induction ho with
  | self => exact ⟨lo, h, Nat.le_refl _, by have := h.kids.le; have := h.i0; omega, Int.le_refl _⟩
  | thn ho k hk ih =>
    obtain ⟨lo', q1, q2, q3, q4⟩ := ih
    obtain ⟨lo2, p1, p2, p3⟩ := q1.thn hk
    exact ⟨lo2, p1, by omega, by have := p1.kids.le; have := p1.i0; omega, by omega⟩
  | els ho k hk ih =>
    obtain ⟨lo', q1, q2, q3, q4⟩ := ih
    obtain ⟨lo2, p1, p2, p3⟩ := q1.els hk
    exact ⟨lo2, p1, by omega, by have := p1.kids.le; have := p1.i0; omega, by omega⟩
end Go.Proofs.Ytaadamobapnfbaa
/- Every statement stands somewhere; functions' ranges; what comes behind. -/
set_option linter.unusedVariables false
set_option linter.unusedSimpArgs false
namespace Go.Proofs.Ytaadamobapnfbaa
open Go Go.Abs
theorem SCov.find {t : Tree} {l : List Int} {a c : Nat} (h : SCov t l a c) : ∀ i : Nat, a ≤ i → i < c → ∃ k r lo : Nat, k < l.length ∧ l.getD k 0 = (r : Int) ∧ lo ≤ i ∧ i ≤ r ∧ r < c ∧ SCov t ((t.stm r).thn ++ (t.stm r).els) lo r := by
  induction h with
  | nil => intro i h1 h2; omega
  | @cons r a c l hr hk hl ih1 ih2 =>
    intro i h1 h2
    have l2 := hl.le
    by_cases hi : i ≤ r
    · exact ⟨0, r, a, by simp, rfl, h1, hi, by omega, hk⟩
    · obtain ⟨k, r', lo, q1, q2, q3, q4, q5, q6⟩ := ih2 i (by omega) h2
      exact ⟨k + 1, r', lo, by simpa using q1, by simpa using q2, q3, q4, q5, q6⟩
theorem SCov.occ {t : Tree} : ∀ (n : Nat) {l : List Int} {a c : Nat}, SCov t l a c → c ≤ n → ∀ i : Nat, a ≤ i → i < c → ∃ k, k < l.length ∧ ∀ inn loop B lb, ∃ d, Occ t (.at_ l k inn loop B lb) d ∧ d.i = i := by
  intro n
  induction n with
  | zero => intro l a c h hc i h1 h2; omega
  | succ n ih =>
    intro l a c h hc i h1 h2
    obtain ⟨k, r, lo, q1, q2, q3, q4, q5, q6⟩ := h.find i h1 h2
    refine ⟨k, q1, fun inn loop B lb => ?_⟩
    have ei : (Ctx.at_ l k inn loop B lb).i = (r : Int) := q2
    by_cases he : i = r
    · exact ⟨_, .self, by rw [ei, he]⟩
    obtain ⟨b, s1, s2⟩ := q6.split
    have l1 := s1.le
    have l2 := s2.le
    by_cases hb : i < b
    · obtain ⟨k', p1, p2⟩ := ih s1 (by omega) i q3 hb
      rw [← ei] at p1 p2
      by_cases h6 : (t.stm (Ctx.at_ l k inn loop B lb).i).kind = 6
      · obtain ⟨d, o1, o2⟩ := p2 (Ctx.at_ l k inn loop B lb).i (Ctx.at_ l k inn loop B lb).i (Ctx.at_ l k inn loop B lb).i (Ctx.at_ l k inn loop B lb).behind
        refine ⟨d, Occ.trans (.thn .self k' p1) ?_, o2⟩
        unfold Ctx.thn Ctx.sub; rw [if_pos h6]; exact o1
      · obtain ⟨d, o1, o2⟩ := p2 (Ctx.at_ l k inn loop B lb).i (Ctx.at_ l k inn loop B lb).loop (Ctx.at_ l k inn loop B lb).behind (Ctx.at_ l k inn loop B lb).lb
        refine ⟨d, Occ.trans (.thn .self k' p1) ?_, o2⟩
        unfold Ctx.thn Ctx.sub; rw [if_neg h6]; exact o1
    · obtain ⟨k', p1, p2⟩ := ih s2 (by omega) i (by omega) (by omega)
      rw [← ei] at p1 p2
      by_cases h6 : (t.stm (Ctx.at_ l k inn loop B lb).i).kind = 6
      · obtain ⟨d, o1, o2⟩ := p2 (Ctx.at_ l k inn loop B lb).i (Ctx.at_ l k inn loop B lb).i (Ctx.at_ l k inn loop B lb).i (Ctx.at_ l k inn loop B lb).behind
        refine ⟨d, Occ.trans (.els .self k' p1) ?_, o2⟩
        unfold Ctx.els Ctx.sub; rw [if_pos h6]; exact o1
      · obtain ⟨d, o1, o2⟩ := p2 (Ctx.at_ l k inn loop B lb).i (Ctx.at_ l k inn loop B lb).loop (Ctx.at_ l k inn loop B lb).behind (Ctx.at_ l k inn loop B lb).lb
        refine ⟨d, Occ.trans (.els .self k' p1) ?_, o2⟩
        unfold Ctx.els Ctx.sub; rw [if_neg h6]; exact o1
/-- functions' ranges -/
structure FR (t : Tree) (R : Nat → Nat) : Prop where
  body : ∀ (k : Nat) (g : Fu), t.funcs[k]? = some g → SCov t g.body (R k) (R (k + 1))
  zero : R 0 = 0
  all : R t.funcs.length = t.stmts.length
  mono : ∀ i j, i ≤ j → R i ≤ R j
theorem FCov.ranges {t : Tree} {toks : List Tok} {l : List Fu} {a b c d : Nat} {x y : Int} (h : FCov toks t.exprs t.stmts l a b x c d y) :
    ∃ R : Nat → Nat, (∀ (k : Nat) (g : Fu), l[k]? = some g → SCov t g.body (R k) (R (k + 1))) ∧ R 0 = b ∧ R l.length = d ∧ (∀ i j, i ≤ j → R i ≤ R j) ∧ ∀ i, R i ≤ d := by
  induction h with
  | nil a b x => exact ⟨fun _ => b, fun k g hk => by simp at hk, rfl, rfl, fun _ _ _ => Nat.le_refl _, fun _ => Nat.le_refl _⟩
  | @snoc l g a b c d e f x y z h h' ih =>
    obtain ⟨R, q1, q2, q3, q4, q5⟩ := ih
    have hcov := h'.cov.scov
    rw [stmtRoots_s] at hcov
    have hle := hcov.le
    refine ⟨fun i => if i ≤ l.length then R i else f, fun k g' hk => ?_, by simp [q2], by dsimp only; rw [List.length_append, List.length_singleton, if_neg (by omega)], fun i j hij => ?_, fun i => ?_⟩
    · by_cases hlt : k < l.length
      · rw [List.getElem?_append_left hlt] at hk
        have := q1 k g' hk
        simp only [show k ≤ l.length by omega, show k + 1 ≤ l.length by omega, if_true]
        exact this
      · have hk0 : k = l.length := by
          have := (List.getElem?_eq_some_iff.1 hk).1
          simp at this; omega
        subst hk0
        simp at hk
        subst hk
        simp only [Nat.le_refl, if_true, show ¬ l.length + 1 ≤ l.length by omega, if_false, q3]
        exact hcov
    · dsimp only
      split
      · split
        · exact q4 _ _ hij
        · have := q5 i; omega
      · rw [if_neg (by omega)]; exact Nat.le_refl _
    · dsimp only
      split
      · have := q5 i; omega
      · exact Nat.le_refl _
theorem IsTree.fr {s : ByteArray} {t : Tree} {toks : List Tok} {at_ : Int} (h : IsTree s t toks at_) : ∃ R, FR t R := by
  obtain ⟨R, q1, q2, q3, q4, q5⟩ := h.cov.ranges
  exact ⟨R, q1, q2, q3, q4⟩
/-- a statement stands in the k-th function -/
def InF (t : Tree) (k : Nat) (d : Ctx) : Prop := ∃ (g : Fu) (j : Nat), t.funcs[k]? = some g ∧ j < g.body.length ∧ Occ t (topC g j) d
theorem FR.own {t : Tree} {R : Nat → Nat} (h : FR t R) {k : Nat} {d : Ctx} (hd : InF t k d) : ∃ lo, Own1 t d lo ∧ (R k : Int) ≤ d.i ∧ d.i < R (k + 1) ∧ d.i < t.stmts.length := by
  obtain ⟨g, j, hg, hj, ho⟩ := hd
  obtain ⟨lo, q1, q2, q3, _⟩ := (h.body k g hg).own hj (-1) (-1) (-1) (-1)
  obtain ⟨lo', p1, p2, p3, p4⟩ := q1.occ ho
  have hq3 : (topC g j).i < (R (k + 1) : Int) := q3
  exact ⟨lo', p1, by omega, Int.lt_of_le_of_lt p4 hq3, p1.i1⟩
theorem FR.ex {t : Tree} {R : Nat → Nat} (h : FR t R) {i : Nat} (hi : i < t.stmts.length) : ∃ k d, k < t.funcs.length ∧ InF t k d ∧ d.i = i := by
  have : ∀ n, n ≤ t.funcs.length → i < R n → ∃ k, k < n ∧ R k ≤ i ∧ i < R (k + 1) := by
    intro n
    induction n with
    | zero => intro _ h0; rw [h.zero] at h0; omega
    | succ n ih =>
      intro hn h0
      by_cases hlt : i < R n
      · obtain ⟨k, h1, h2⟩ := ih (by omega) hlt
        exact ⟨k, by omega, h2⟩
      · exact ⟨n, by omega, by omega, h0⟩
  obtain ⟨k, hk, h1, h2⟩ := this t.funcs.length (Nat.le_refl _) (by rw [h.all]; exact hi)
  obtain ⟨j, hj, hd⟩ := (h.body k t.funcs[k] (List.getElem?_eq_getElem hk)).occ _ (Nat.le_refl _) i h1 h2
  obtain ⟨d, o1, o2⟩ := hd (-1) (-1) (-1) (-1)
  exact ⟨k, d, hk, ⟨t.funcs[k], j, List.getElem?_eq_getElem hk, hj, o1⟩, o2⟩
theorem FR.eqs {t : Tree} {R : Nat → Nat} (h : FR t R) {a b : List (List Int)} (ha : a.length = t.stmts.length) (hb : b.length = t.stmts.length)
    (h1 : ∀ k d, InF t k d → a[d.i.toNat]? = some (way t d)) (h2 : ∀ k d, InF t k d → b[d.i.toNat]? = some (way t d)) : a = b := by
  apply List.ext_getElem?
  intro i
  by_cases hi : i < t.stmts.length
  · obtain ⟨k, d, hk, hd, e⟩ := h.ex hi
    have e1 := h1 k d hd
    have e2 := h2 k d hd
    rw [e, Int.toNat_natCast] at e1 e2
    rw [e1, e2]
  · rw [List.getElem?_eq_none (by omega), List.getElem?_eq_none (by omega)]
end Go.Proofs.Ytaadamobapnfbaa
/- flow: first, list. -/
set_option linter.unusedVariables false
set_option linter.unusedSimpArgs false
set_option maxRecDepth 100000
namespace Go.Proofs.Ytaadamobapnfbaa
open Go Go.Abs
theorem ints_row1 (l : List Int) : ∀ r ∈ ints l, r.length = 1 := fun r h => by obtain ⟨x, _, rfl⟩ := List.mem_map.1 h; rfl
theorem first_ok (l : List Int) (b : Int) : ACalls Try.prog 27 [.il 1 none (ints l), vi b] [] (RV (vi (firstOf l b)) []) := by
  have hil := ints_len l
  refine ACalls.of_code (c := _) Try.func27 rfl Try.ntmps27 (Nat.le_of_ble_eq_true rfl) ?_
  refine ACode.seq (ACode.region ?_)
  refine ASeq.q rfl rfl (QOp.assign rfl rfl) ?_
  refine ASeq.nil ?_
  refine ACode.seq (ACode.seq (ACode.region ?_))
  refine ASeq.q rfl rfl (QOp.move rfl rfl) ?_
  refine ASeq.q rfl rfl (QOp.lenI rfl rfl (tok _ rfl) rfl) ?_
  refine ASeq.q rfl rfl (QOp.cmp rfl rfl rfl rfl) ?_
  refine ASeq.nil ?_
  refine AExit.then_normal ?_
  refine ACode.cond _ rfl (fun hb => ?_) (fun hb => ?_)
  · have hl : l = [] := by
      have : ((ints l).length : Int) = 0 := by simpa using hb
      rw [hil] at this
      exact List.eq_nil_of_length_eq_zero (by omega)
    refine ACode.seq (ACode.region ?_)
    refine ASeq.q rfl rfl (QOp.move rfl rfl) ?_
    refine ASeq.q rfl rfl (QOp.assign rfl rfl) ?_
    refine ASeq.nil ?_
    refine ACode.ret (AExit.then_ret ?_)
    refine bodyQ_ret 0 (.tmp rfl .nil) rfl ?_
    rw [hl]; exact .mk
  · cases l with
    | nil => exact absurd hb (by decide)
    | cons x l =>
      refine ACode.skip (ACode.seq (ACode.region ?_))
      refine ASeq.q rfl rfl (QOp.move rfl rfl) ?_
      refine ASeq.q rfl rfl (QOp.indexI rfl rfl rfl (tok _ rfl) rfl (tok _ rfl) (by decide) (by rfl)) ?_
      refine ASeq.q rfl rfl (QOp.loadI rfl rfl (tok _ rfl) rfl) ?_
      refine ASeq.q rfl rfl (QOp.assign rfl rfl) ?_
      refine ASeq.nil ?_
      refine ACode.ret ?_
      refine bodyQ_ret 0 (.tmp rfl .nil) rfl ?_
      exact .mk
def nxc (w : List Int) : AV := .il 1 none (ints w)
def lcells (l : List (Int × Int)) : List AV := (l.map fun p => [vi p.1, vi p.2]).flatten
def bcells (t : Tree) (first : List Int) (τ mN n mo depth : Nat) : List AV :=
  [.il 9 none (t.exprs.map Ex.cells), .il 9 none (t.stmts.map St.cells), .il 6 none (t.funcs.map Fu.cells), .il 1 (some τ) (ints first), .sl 1 mN 0 n, .sl 2 mo 0 depth]
inductive RF (t : Tree) (first : List Int) (τ mB mN n : Nat) (loops : List (Int × Int)) (P : List (List Int) → Prop) : AOut → List Abs.Item → Prop
  | mk (nx : List (List Int)) (mo : Nat) (h : P nx) : RF t first τ mB mN n loops P (.ret (.tup [])) [.mu mB (bcells t first τ mN n mo loops.length), .mu mN (nx.map nxc), .mu mo (lcells loops)]
/-- the innermost while is the last one -/
def LP (loops : List (Int × Int)) (loop lb : Int) : Prop := loop < 0 ∨ ∃ pre, loops = pre ++ [(loop, lb)]
def JOk (t : Tree) (c : Ctx) : Prop := ∀ d, Occ t c d → ((t.stm d.i).kind = 7 ∨ (t.stm d.i).kind = 8) → 0 ≤ d.loop
structure WaysIn (t : Tree) (nx nx' : List (List Int)) (occ : Ctx → Prop) (lo hi : Int) : Prop where
  len : nx'.length = nx.length
  ways : ∀ d, occ d → nx'[d.i.toNat]? = some (way t d)
  rest : ∀ j : Nat, ((j : Int) < lo ∨ hi ≤ j) → nx'[j]? = nx[j]?
def CSt (n : Nat) : Prop := ∀ (t : Tree) (first : List Int) (τ mB mN : Nat) (nx : List (List Int)) (mo : Nat) (loops : List (Int × Int)) (c : Ctx) (lo : Nat), TreeOk t → (∀ (i : Nat) (x : St), t.stmts[i]? = some x → StOk x) →
  nx.length = t.stmts.length → Own1 t c lo → c.i < n → LP loops c.loop c.lb → JOk t c → (loops.length : Int) + c.i + 1 ≤ 4000000 →
  ACalls Try.prog 44 [.mp mB 0, vi c.i, vi c.behind] [.mu mB (bcells t first τ mN t.stmts.length mo loops.length), .mu mN (nx.map nxc), .mu mo (lcells loops)]
    (RF t first τ mB mN t.stmts.length loops (fun nx' => WaysIn t nx nx' (Occ t c) lo (c.i + 1)))
theorem drop_ints (l : List Int) (k : Nat) : ((ints l).take (ints l).length).drop k = ints (l.drop k) := by
  rw [List.take_length]; simp [ints]
theorem list_walk {n : Nat} (hS : CSt n) (t : Tree) (first : List Int) (τ mB mN : Nat) (nx : List (List Int)) (mo : Nat) (loops : List (Int × Int)) (L : List Int) (inn loop B lb : Int) (lo hi : Nat) (ht : TreeOk t) (hst : ∀ (i : Nat) (x : St), t.stmts[i]? = some x → StOk x)
    (hnx : nx.length = t.stmts.length) (hL : SCov t L lo hi) (hn : hi ≤ n) (hlp : LP loops loop lb) (hj : ∀ k, k < L.length → JOk t (.at_ L k inn loop B lb)) (hd : (loops.length : Int) + hi ≤ 4000000) :
    ACalls Try.prog 28 [.mp mB 0, .il 1 none (ints L), vi B] [.mu mB (bcells t first τ mN t.stmts.length mo loops.length), .mu mN (nx.map nxc), .mu mo (lcells loops)]
      (RF t first τ mB mN t.stmts.length loops (fun nx' => WaysIn t nx nx' (fun d => ∃ k, k < L.length ∧ Occ t (.at_ L k inn loop B lb) d) lo hi)) := by
  have hil := ints_len L
  have hlen := hL.len
  refine ACalls.of_code (c := _) Try.func28 rfl Try.ntmps28 (Nat.le_of_ble_eq_true rfl) ?_
  refine ACode.seq (ACode.region ?_)
  refine ASeq.q rfl rfl (QOp.move rfl rfl) ?_
  refine ASeq.q rfl rfl (QOp.lenI rfl rfl (tok _ rfl) rfl) ?_
  refine ASeq.q rfl rfl (QOp.move rfl rfl) ?_
  refine ASeq.nil ?_
  refine ACode.block ?_
  refine ACode.loopP (fun (x : Nat × List (List Int) × Nat) => [(0, .mp mB 0), (1, .il 1 none (ints L)), (2, vi B), (8, .il 1 none (ints L)), (9, vi ((ints L).length : Int)), (10, vi x.1)])
    (fun x => [.mu mB (bcells t first τ mN t.stmts.length x.2.2 loops.length), .mu mN (x.2.1.map nxc), .mu x.2.2 (lcells loops)]) (fun x => L.length - x.1)
    (fun x => x.1 ≤ L.length ∧ x.2.1.length = nx.length ∧ (∀ k d, k < x.1 → Occ t (.at_ L k inn loop B lb) d → x.2.1[d.i.toNat]? = some (way t d)) ∧ ∀ j : Nat, ((j : Int) < lo ∨ (hi : Int) ≤ j) → x.2.1[j]? = nx[j]?)
    (0, nx, mo) ⟨Nat.zero_le _, rfl, fun k d hk => by omega, fun _ _ => rfl⟩ (.cons rfl (.cons rfl (.cons rfl (.cons rfl (.cons rfl (.cons rfl .nil)))))) 3 rfl ?_
  rintro ⟨k, ny, mo⟩ ⟨hk, hl, hw, hrest⟩
  dsimp only at hk hl hw hrest
  refine ACode.seq (ACode.region ?_)
  refine ASeq.q rfl rfl (QOp.cmp rfl rfl rfl rfl) ?_
  refine ASeq.nil ?_
  refine ACode.seq ?_
  refine ACode.cond _ rfl (fun hb => ?_) (fun hb => ?_)
  · have hlt : k < L.length := by have := of_decide_eq_true hb; rw [hil] at this; omega
    have hget := ints_get hlt
    obtain ⟨r, b, e1, e2, e3, e4, e5, e6, e7, e8, e9⟩ := hL.mem k hlt
    obtain ⟨lo', o1, o2, o3, o4⟩ := hL.own hlt inn loop B lb
    have ei : (Ctx.at_ L k inn loop B lb).i = L[k] := by rw [e1]; exact e2
    have hs := hS t first τ mB mN ny mo loops (.at_ L k inn loop B lb) lo' ht hst (hl.trans hnx) o1 (by omega) hlp (hj k hlt) (by omega)
    rw [ei] at hs
    have hf := first_ok (L.drop (k + 1)) B
    refine ACode.skip (ACode.seq (ACode.block (ACode.seq (ACode.region ?_))))
    refine ASeq.q rfl rfl (QOp.move rfl rfl) ?_
    refine ASeq.q rfl rfl (QOp.indexI rfl rfl rfl (tok _ rfl) rfl (tok _ rfl) (by omega) (by assumption)) ?_
    refine ASeq.q rfl rfl (QOp.loadI rfl rfl (tok _ rfl) rfl) ?_
    refine ASeq.q rfl rfl (QOp.assign rfl rfl) ?_
    refine ASeq.q rfl rfl (QOp.assign rfl rfl) ?_
    refine ASeq.nil ?_
    refine ACode.region ?_
    refine ASeq.q rfl rfl (QOp.move rfl rfl) ?_
    refine ASeq.q rfl rfl (QOp.move rfl rfl) ?_
    refine ASeq.q rfl rfl (QOp.move rfl rfl) ?_
    refine ASeq.q rfl rfl (QOp.move rfl rfl) ?_
    refine ASeq.q rfl rfl (QOp.ar64 rfl rfl rfl rfl ⟨by omega, by omega⟩) ?_
    refine ASeq.q rfl rfl (QOp.cutI (tde := TT 3) (tk' := none) (rows' := ints (L.drop (k + 1))) rfl rfl (tok _ rfl) rfl (tok _ rfl) rfl rfl (by omega) (by omega) (by omega) (by rw [show ((k : Int) + 1).toNat = k + 1 by omega, Int.toNat_natCast]; exact drop_ints L (k + 1)) (.inl rfl)) ?_
    refine ASeq.q rfl rfl (QOp.move rfl rfl) ?_
    refine ASeq.op rfl rfl (AOp.callP 0 rfl (by kernel_rfl) rfl rfl rfl (hf) ?_ (by rintro _ _ ⟨⟩))
    rintro _ _ ⟨⟩
    refine ASeq.op rfl rfl (AOp.callP 3 rfl (by kernel_rfl) rfl rfl rfl (hs) ?_ (by rintro _ _ ⟨⟩))
    rintro _ _ ⟨nx, mo, hnx⟩
    refine ASeq.nil ?_
    refine ACode.region ?_
    refine ASeq.q rfl rfl (QOp.ar64 rfl rfl rfl rfl ⟨by omega, by omega⟩) ?_
    refine ASeq.q rfl rfl (QOp.move rfl rfl) ?_
    refine ASeq.nil ?_
    refine AExit.then_normal ?_
    refine ⟨(k + 1, nx, mo), 3, ⟨hlt, hnx.len.trans hl, fun j d hj' ho => ?_, fun j hj' => ?_⟩, by dsimp only; omega, .cons rfl (.cons rfl (.cons rfl (.cons rfl (.cons rfl (.cons rfl .nil))))), rfl⟩
    · by_cases hjk : j = k
      · subst hjk; exact hnx.ways d ho
      · have hjlt : j < k := by omega
        rw [hnx.rest d.i.toNat ?_]
        · exact hw j d hjlt ho
        · left
          obtain ⟨lo2, p1, p2, p3, p4⟩ := o4.own (k := j) (by rw [List.length_take]; omega) inn loop B lb
          obtain ⟨lo3, u1, u2, u3, u4⟩ := hL.own (k := j) (by omega) inn loop B lb
          obtain ⟨lo4, w1, w2, w3, w4⟩ := u1.occ ho
          have g1 : (Ctx.at_ L j inn loop B lb).i = (Ctx.at_ (L.take k) j inn loop B lb).i := by
            show L.getD j 0 = (L.take k).getD j 0
            rw [List.getD_eq_getElem?_getD, List.getD_eq_getElem?_getD, List.getElem?_take, if_pos hjlt]
          have := w1.i0
          omega
    · rw [hnx.rest j ?_]
      · exact hrest j hj'
      · omega
  · have hge : k = L.length := by have := of_decide_eq_false hb; rw [hil] at this; omega
    refine ACode.exit (AExit.then_exit (AExit.then_exit (AExit.in_same ?_)))
    refine bodyQ_end 3 .nil rfl ?_
    exact RF.mk ny mo ⟨hl, fun d ⟨k', hk', ho⟩ => hw k' d (by omega) ho, hrest⟩
end Go.Proofs.Ytaadamobapnfbaa
/- flow: stmt. -/
set_option linter.unusedVariables false
set_option linter.unusedSimpArgs false
set_option maxRecDepth 100000
namespace Go.Proofs.Ytaadamobapnfbaa
open Go Go.Abs
theorem storeNx {P : Program} {N : Nat} {D : List Deferred} {env : Env} {R R' : List Abs.Item} {o : Oper} {K Kp : AV → List Abs.Item → Prop} (p : Nat) {t : TypeId} {td : TD} {x y : Operand} {m k j : Nat} {w : List Int} {rows : List (List AV)} {l : List (List Int)} (ho : o.op = .store t x y)
    (hx : ev N env x = some (.mp m k)) (hi : R[p]? = some (.mu m (l.map nxc))) (hy : ev N env y = some (.il 1 none rows)) (hw : rows = ints w) (hT : TOK P t td) (hsz : td.size = 1) (hkj : k = j) (hlt : j < l.length) (hR : setO p (.mu m ((l.set j w).map nxc)) R = some R') (hk : K .any R') : AOp P N D o env R K Kp := by
  subst hkj; subst hw
  refine AOp.storeAt p ho hx hi hy hT rfl hsz (by simpa using hlt) ?_ hk
  rw [show (AV.il 1 none (ints w)) = nxc w from rfl, ← List.map_set]; exact hR
theorem tst_get {t : Tree} {i : Int} (h0 : 0 ≤ i) (h1 : i < t.stmts.length) : (t.stmts.map St.cells)[i.toNat]? = some (t.stm i).cells := by
  have hl : i.toNat < t.stmts.length := by omega
  simp only [List.getElem?_map, Tree.stm, List.getD_eq_getElem?_getD, List.getElem?_eq_getElem hl, Option.map_some, Option.getD_some]
theorem WaysIn.one {t : Tree} {nx : List (List Int)} {c : Ctx} {lo : Nat} {w : List Int} (h : Own1 t c lo) (hn : nx.length = t.stmts.length) (hw : w = way t c) (ht : (t.stm c.i).thn = []) (he : (t.stm c.i).els = []) : WaysIn t nx (nx.set c.i.toNat w) (Occ t c) lo (c.i + 1) := by
  have i0 := h.i0
  have i1 := h.i1
  have hk := h.kids.le
  refine ⟨by simp, fun d hd => ?_, fun j hj => ?_⟩
  · rcases hd.cases with rfl | ⟨k, h1, _⟩ | ⟨k, h1, _⟩
    · rw [List.getElem?_set_self (by omega), hw]
    · rw [ht] at h1; simp at h1
    · rw [he] at h1; simp at h1
  · rw [List.getElem?_set_ne (by omega)]
theorem RF.of {t : Tree} {first : List Int} {τ mB mN n : Nat} {loops : List (Int × Int)} {P : List (List Int) → Prop} {R : List Abs.Item} (nx : List (List Int)) (mo : Nat) (h : P nx) (hR : R = [.mu mB (bcells t first τ mN n mo loops.length), .mu mN (nx.map nxc), .mu mo (lcells loops)]) : RF t first τ mB mN n loops P (.ret (.tup [])) R := by
  subst hR; exact .mk nx mo h
theorem lcells_snoc (l : List (Int × Int)) (p : Int × Int) : lcells (l ++ [p]) = lcells l ++ [[vi p.1, vi p.2]].flatten := by simp [lcells]
theorem lcells_len (l : List (Int × Int)) : (lcells l).length = l.length * 2 := by
  induction l with
  | nil => rfl
  | cons x l ih => simp only [lcells, List.map_cons, List.flatten_cons, List.length_append, List.length_cons, List.length_nil] at ih ⊢; omega
theorem lcells_last {loops : List (Int × Int)} {pre : List (Int × Int)} {a b : Int} (h : loops = pre ++ [(a, b)]) : (lcells loops)[0 + ((loops.length : Int) - 1).toNat * 2 + 0]? = some (vi a) ∧ (lcells loops)[0 + ((loops.length : Int) - 1).toNat * 2 + 1]? = some (vi b) := by
  have e : ((loops.length : Int) - 1).toNat = pre.length := by rw [h, List.length_append, List.length_singleton]; omega
  rw [e, h, lcells_snoc]
  have := lcells_len pre
  constructor
  · rw [List.getElem?_append_right (by omega), this]; simp
  · rw [List.getElem?_append_right (by omega), this, show 0 + pre.length * 2 + 1 - pre.length * 2 = 1 by omega]; simp
theorem row2 (x y : AV) : ∀ r ∈ [[x, y]], r.length = 2 := fun r h => by rw [List.mem_singleton] at h; subst h; rfl
theorem leOfEq {l m : List AV} (h : l = m) : LeL l m := h ▸ LeL.refl l
set_option maxHeartbeats 4000000 in
theorem flow_stmt (n : Nat) (hS : CSt n) : CSt (n + 1) := by
  intro t first τ mB mN nx0 mo0 loops c lo ht hst hnx0 hown hn hlp hj hd
  have i0 := hown.i0
  have i1 := hown.i1
  have hrow := tst_get i0 i1
  have hs0 := hst c.i.toNat (t.stm c.i) (by simp only [Tree.stm, List.getD_eq_getElem?_getD]; rw [List.getElem?_eq_getElem (by omega)]; rfl)
  have hlt : 0 + c.i.toNat * 1 < nx0.length := by omega
  have hii : 0 + c.i.toNat * 1 = c.i.toNat := by omega
  have hb := ht.big
  generalize hs : t.stm c.i = s at hrow hs0
  have hkids := hown.kids
  rw [hs] at hkids
  have hkl := hkids.le
  obtain ⟨md, k1, k2⟩ := hkids.split
  have k1l := k1.le
  have k2l := k2.le
  refine ACalls.of_code (c := _) Try.func44 rfl Try.ntmps44 (Nat.le_of_ble_eq_true rfl) ?_
  refine ACode.seq (ACode.region ?_)
  refine ASeq.q rfl rfl (QOp.move rfl rfl) ?_
  refine ASeq.q rfl rfl (QOp.nilCheckM rfl rfl) ?_
  refine ASeq.q rfl rfl (QOp.fieldM rfl rfl (tok _ rfl) rfl rfl (by decide) rfl) ?_
  refine ASeq.q rfl rfl (QOp.fieldM rfl rfl (tok _ rfl) rfl rfl (by decide) rfl) ?_
  refine ASeq.q rfl rfl (QOp.loadM 0 rfl rfl rfl (tok _ rfl) rfl) ?_
  refine ASeq.q rfl rfl (QOp.move rfl rfl) ?_
  refine ASeq.q rfl rfl (QOp.indexI rfl rfl rfl (tok _ rfl) rfl (tok _ rfl) (by omega) (by assumption)) ?_
  refine ASeq.q rfl rfl (QOp.loadI rfl rfl (tok _ rfl) rfl) ?_
  refine ASeq.op rfl rfl (AOp.allocP rfl (tok _ rfl) rfl rfl (fun _ => rfl) (fun _ => ?_))
  refine ASeq.op0 rfl rfl (AOp.storeP 3 rfl rfl rfl rfl (tok _ rfl) rfl rfl rfl rfl ?_)
  refine ASeq.nil ?_
  rename_i m6
  refine ACode.seq (ACode.region ?_)
  refine ASeq.q rfl rfl (QOp.fieldM rfl rfl (tok _ rfl) rfl rfl (by decide) rfl) ?_
  refine ASeq.q rfl rfl (QOp.loadM 3 rfl rfl rfl (tok _ rfl) rfl) ?_
  refine ASeq.nil ?_
  refine ACode.block (ACode.seq (ACode.region ?_))
  refine ASeq.q rfl rfl (QOp.cmp rfl rfl rfl rfl) ?_
  refine ASeq.q rfl rfl (QOp.assign rfl rfl) ?_
  refine ASeq.nil ?_
  refine AExit.then_normal ?_
  refine ACode.cond _ rfl (fun hb => ?_) (fun hb => ?_)
  · have hk5 : s.kind = 5 := by simpa using hb
    have hw : way t c = [firstOf s.thn c.behind, firstOf s.els c.behind] := by unfold way; rw [hs, if_pos hk5]
    have hsub : ∀ (L : List Int) (k : Nat), c.sub t L k = .at_ L k c.i c.loop c.behind c.lb := fun L k => by unfold Ctx.sub; rw [hs, if_neg (by omega)]
    have hc1 : c.thn t = fun k => .at_ s.thn k c.i c.loop c.behind c.lb := by funext k; unfold Ctx.thn; rw [hsub, hs]
    have hc2 : c.els t = fun k => .at_ s.els k c.i c.loop c.behind c.lb := by funext k; unfold Ctx.els; rw [hsub, hs]
    have hl1 : (nx0.set c.i.toNat (way t c)).length = t.stmts.length := by rw [List.length_set]; exact hnx0
    have hj1 : ∀ k, k < s.thn.length → JOk t (.at_ s.thn k c.i c.loop c.behind c.lb) := fun k hk d ho => by
      refine hj d (Occ.trans (.thn .self k (by rw [hs]; exact hk)) ?_)
      rw [hc1]; exact ho
    have hj2 : ∀ k, k < s.els.length → JOk t (.at_ s.els k c.i c.loop c.behind c.lb) := fun k hk d ho => by
      refine hj d (Occ.trans (.els .self k (by rw [hs]; exact hk)) ?_)
      rw [hc2]; exact ho
    refine ACode.seq ?_
    refine ACode.drawn [[], [0], [0, 1], [0, 1, 2], [0, 1, 2, 3], [], [], [6], [], [6, 7, 8], [], [10], [], [6, 7, 8, 9, 10, 11, 12], [6, 7, 8, 9, 10, 11, 12, 13], [0, 1, 2, 3, 4, 5, 6, 7, 8, 9, 10, 11, 12, 13, 14], [0, 1, 2, 3, 4, 5, 6, 7, 8, 9, 10, 11, 12, 13, 14, 15]] (by kernel_rfl) mixed ?_
    refine DAny.qu 0 rfl rfl (by kernel_rfl) rfl (fun _ => .does _ _ rfl (.none rfl) (QOp.move rfl rfl)) ?_
    refine DAny.qu 1 rfl rfl (by kernel_rfl) rfl (fun _ => .does _ _ rfl (.none rfl) (QOp.nilCheckM rfl rfl)) ?_
    refine DAny.qu 2 rfl rfl (by kernel_rfl) rfl (fun _ => .does _ _ rfl (.none rfl) (QOp.fieldM rfl rfl (tok _ rfl) rfl rfl (by decide) rfl)) ?_
    refine DAny.qu 3 rfl rfl (by kernel_rfl) rfl (fun _ => .does _ _ rfl (.none rfl) (QOp.fieldM rfl rfl (tok _ rfl) rfl rfl (by decide) rfl)) ?_
    refine DAny.ld 4 rfl rfl (by kernel_rfl) rfl (.does _ _ rfl (.none rfl) (QOp.loadM 0 rfl rfl rfl (tok _ rfl) rfl)) ?_
    refine DAny.qu 5 rfl rfl (by kernel_rfl) rfl (fun _ => .does _ _ rfl (.none rfl) (QOp.move rfl rfl)) ?_
    refine DAny.qu 6 rfl rfl (by kernel_rfl) rfl (fun _ => .does _ _ rfl (.none rfl) (QOp.fieldM rfl rfl (tok _ rfl) rfl rfl (by decide) rfl)) ?_
    refine DAny.ld 7 rfl rfl (by kernel_rfl) rfl (.does _ _ rfl (.none rfl) (QOp.loadM 3 rfl rfl rfl (tok _ rfl) rfl)) ?_
    refine DAny.qu 8 rfl rfl (by kernel_rfl) rfl (fun _ => .does _ _ rfl (.none rfl) (QOp.move rfl rfl)) ?_
    refine DAny.qu 10 rfl rfl (by kernel_rfl) rfl (fun _ => .does _ _ rfl (.none rfl) (QOp.fieldM rfl rfl (tok _ rfl) rfl rfl (by decide) rfl)) ?_
    refine DAny.ld 11 rfl rfl (by kernel_rfl) rfl (.does _ _ rfl (.none rfl) (QOp.loadM 3 rfl rfl rfl (tok _ rfl) rfl)) ?_
    refine DAny.qu 12 rfl rfl (by kernel_rfl) rfl (fun _ => .does _ _ rfl (.none rfl) (QOp.move rfl rfl)) ?_
    refine DAny.ef 9 rfl (by kernel_rfl) (.none rfl) rfl rfl (AOp.callP 0 rfl (by kernel_rfl) rfl rfl rfl (first_ok _ _) ?_ (by rintro _ _ ⟨⟩))
    rintro _ _ ⟨⟩
    refine ⟨(by ((refine AllQ.cons (.does _ _ rfl (.none rfl) (QOp.loadM 3 rfl rfl rfl (tok _ rfl) rfl)) ?_); (refine AllQ.cons (.does _ _ rfl (.none rfl) (QOp.loadM 0 rfl rfl rfl (tok _ rfl) rfl)) ?_); (exact AllQ.nil))), ?_⟩
    refine DAny.ef 13 rfl (by kernel_rfl) (.none rfl) rfl rfl (AOp.callP 0 rfl (by kernel_rfl) rfl rfl rfl (first_ok _ _) ?_ (by rintro _ _ ⟨⟩))
    rintro _ _ ⟨⟩
    refine ⟨(by ((refine AllQ.cons (.does _ _ rfl (.none rfl) (QOp.loadM 0 rfl rfl rfl (tok _ rfl) rfl)) ?_); (exact AllQ.nil))), ?_⟩
    refine DAny.ef 14 rfl (by kernel_rfl) (.none rfl) rfl rfl (AOp.buildSliceR rfl (tok _ rfl) rfl (tok _ rfl) (by decide) rfl (by decide) rfl rfl rfl rfl ⟨(by ((refine AllQ.cons (.does _ _ rfl (.none rfl) (QOp.loadM 0 rfl rfl rfl (tok _ rfl) rfl)) ?_); (exact AllQ.nil))), ?_⟩)
    refine DAny.qu 15 rfl rfl (by kernel_rfl) rfl (fun _ => .does _ _ rfl (.none rfl) (QOp.indexM rfl rfl rfl (tok _ rfl) rfl (tok _ rfl) (by omega) (by omega) rfl)) ?_
    -- STOP before effect 16 (listed 0,1,2,3,4,5,6,7,8,9,10,11,12,13,14,15)
    refine DAny.ef0 16 rfl (by kernel_rfl) (.none rfl) rfl rfl (storeNx 1 (j := c.i.toNat) (w := way t c) rfl rfl rfl rfl (by rw [hw]; rfl) (tok _ rfl) rfl hii (by omega) rfl ⟨(by ((exact AllQ.nil))), ?_⟩)
    refine DAny.done (by kernel_rfl) ?_
    refine ACode.seq (ACode.region ?_)
    refine ASeq.q rfl rfl (QOp.move rfl rfl) ?_
    refine ASeq.q rfl rfl (QOp.fieldM rfl rfl (tok _ rfl) rfl rfl (by decide) rfl) ?_
    refine ASeq.q rfl rfl (QOp.loadM 3 rfl rfl rfl (tok _ rfl) rfl) ?_
    refine ASeq.q rfl rfl (QOp.move rfl rfl) ?_
    refine ASeq.op rfl rfl (AOp.callP 3 rfl (by kernel_rfl) rfl rfl rfl (list_walk hS t first τ mB mN (nx0.set c.i.toNat (way t c)) mo0 loops s.thn c.i c.loop c.behind c.lb lo md ht hst hl1 k1 (by omega) hlp hj1 (by omega)) ?_ (by rintro _ _ ⟨⟩))
    rintro _ _ ⟨nx, mo, hnx⟩
    refine ASeq.nil ?_
    have h1 := hnx
    refine ACode.region ?_
    refine ASeq.q rfl rfl (QOp.move rfl rfl) ?_
    refine ASeq.q rfl rfl (QOp.fieldM rfl rfl (tok _ rfl) rfl rfl (by decide) rfl) ?_
    refine ASeq.q rfl rfl (QOp.loadM 3 rfl rfl rfl (tok _ rfl) rfl) ?_
    refine ASeq.q rfl rfl (QOp.move rfl rfl) ?_
    refine ASeq.op rfl rfl (AOp.callP 3 rfl (by kernel_rfl) rfl rfl rfl (list_walk hS t first τ mB mN nx mo loops s.els c.i c.loop c.behind c.lb md c.i.toNat ht hst (h1.len.trans hl1) k2 (by omega) hlp hj2 (by omega)) ?_ (by rintro _ _ ⟨⟩))
    rintro _ _ ⟨nx, mo, hnx⟩
    refine ASeq.nil ?_
    refine AExit.in_normal ?_
    refine bodyQ_end 3 .nil rfl ?_
    refine RF.mk nx mo ⟨hnx.len.trans (h1.len.trans (by rw [List.length_set])), fun d hdd => ?_, fun j hj => ?_⟩
    · rcases hdd.cases with rfl | ⟨k, hk, ho⟩ | ⟨k, hk, ho⟩
      · rw [hnx.rest _ (.inr (by omega)), h1.rest _ (.inr (by omega)), List.getElem?_set_self (by omega)]
      · rw [hs] at hk
        rw [hc1] at ho
        rw [hnx.rest _ ?_]
        · exact h1.ways d ⟨k, hk, ho⟩
        · left
          obtain ⟨lo1, p1, p2, p3, p4⟩ := k1.own hk c.i c.loop c.behind c.lb
          obtain ⟨lo2, q1, q2, q3, q4⟩ := p1.occ ho
          have := q1.i0
          omega
      · rw [hs] at hk
        rw [hc2] at ho
        exact hnx.ways d ⟨k, hk, ho⟩
    · rw [hnx.rest _ (by omega), h1.rest _ (by omega), List.getElem?_set_ne (by omega)]
  have hne5 : s.kind ≠ 5 := by simpa using hb
  refine ACode.seq (ACode.region ?_)
  refine ASeq.q rfl rfl (QOp.cmp rfl rfl rfl rfl) ?_
  refine ASeq.q rfl rfl (QOp.assign rfl rfl) ?_
  refine ASeq.nil ?_
  refine AExit.then_normal ?_
  refine ACode.cond _ rfl (fun hb => ?_) (fun hb => ?_)
  · have hk6 : s.kind = 6 := by simpa using hb
    have hw : way t c = [firstOf s.thn c.i, c.behind] := by unfold way; rw [hs, if_neg hne5, if_pos hk6]
    have hsub : ∀ (L : List Int) (k : Nat), c.sub t L k = .at_ L k c.i c.i c.i c.behind := fun L k => by unfold Ctx.sub; rw [hs, if_pos hk6]
    have hc1 : c.thn t = fun k => .at_ s.thn k c.i c.i c.i c.behind := by funext k; unfold Ctx.thn; rw [hsub, hs]
    have hels := hs0.el hne5
    have hl1 : (nx0.set c.i.toNat (way t c)).length = t.stmts.length := by rw [List.length_set]; exact hnx0
    have hj1 : ∀ k, k < s.thn.length → JOk t (.at_ s.thn k c.i c.i c.i c.behind) := fun k hk d ho => by
      refine hj d (Occ.trans (.thn .self k (by rw [hs]; exact hk)) ?_)
      rw [hc1]; exact ho
    have hlen2 : (loops ++ [(c.i, c.behind)]).length = loops.length + 1 := by simp
    have hdep : ((loops ++ [(c.i, c.behind)]).length : Int) + md ≤ 4000000 := by omega
    refine ACode.seq ?_
    refine ACode.drawn [[], [0], [0, 1], [0, 1, 2], [0, 1, 2, 3], [], [], [6], [], [6, 7, 8], [], [6, 7, 8, 9, 10], [0, 1, 2, 3, 4, 5, 6, 7, 8, 9, 10, 11], [0, 1, 2, 3, 4, 5, 6, 7, 8, 9, 10, 11, 12]] (by kernel_rfl) mixed ?_
    refine DAny.qu 0 rfl rfl (by kernel_rfl) rfl (fun _ => .does _ _ rfl (.none rfl) (QOp.move rfl rfl)) ?_
    refine DAny.qu 1 rfl rfl (by kernel_rfl) rfl (fun _ => .does _ _ rfl (.none rfl) (QOp.nilCheckM rfl rfl)) ?_
    refine DAny.qu 2 rfl rfl (by kernel_rfl) rfl (fun _ => .does _ _ rfl (.none rfl) (QOp.fieldM rfl rfl (tok _ rfl) rfl rfl (by decide) rfl)) ?_
    refine DAny.qu 3 rfl rfl (by kernel_rfl) rfl (fun _ => .does _ _ rfl (.none rfl) (QOp.fieldM rfl rfl (tok _ rfl) rfl rfl (by decide) rfl)) ?_
    refine DAny.ld 4 rfl rfl (by kernel_rfl) rfl (.does _ _ rfl (.none rfl) (QOp.loadM 0 rfl rfl rfl (tok _ rfl) rfl)) ?_
    refine DAny.qu 5 rfl rfl (by kernel_rfl) rfl (fun _ => .does _ _ rfl (.none rfl) (QOp.move rfl rfl)) ?_
    refine DAny.qu 6 rfl rfl (by kernel_rfl) rfl (fun _ => .does _ _ rfl (.none rfl) (QOp.fieldM rfl rfl (tok _ rfl) rfl rfl (by decide) rfl)) ?_
    refine DAny.ld 7 rfl rfl (by kernel_rfl) rfl (.does _ _ rfl (.none rfl) (QOp.loadM 3 rfl rfl rfl (tok _ rfl) rfl)) ?_
    refine DAny.qu 8 rfl rfl (by kernel_rfl) rfl (fun _ => .does _ _ rfl (.none rfl) (QOp.move rfl rfl)) ?_
    refine DAny.qu 10 rfl rfl (by kernel_rfl) rfl (fun _ => .does _ _ rfl (.none rfl) (QOp.move rfl rfl)) ?_
    refine DAny.ef 9 rfl (by kernel_rfl) (.none rfl) rfl rfl (AOp.callP 0 rfl (by kernel_rfl) rfl rfl rfl (first_ok _ _) ?_ (by rintro _ _ ⟨⟩))
    rintro _ _ ⟨⟩
    refine ⟨(by ((refine AllQ.cons (.does _ _ rfl (.none rfl) (QOp.loadM 0 rfl rfl rfl (tok _ rfl) rfl)) ?_); (exact AllQ.nil))), ?_⟩
    refine DAny.ef 11 rfl (by kernel_rfl) (.none rfl) rfl rfl (AOp.buildSliceR rfl (tok _ rfl) rfl (tok _ rfl) (by decide) rfl (by decide) rfl rfl rfl rfl ⟨(by ((refine AllQ.cons (.does _ _ rfl (.none rfl) (QOp.loadM 0 rfl rfl rfl (tok _ rfl) rfl)) ?_); (exact AllQ.nil))), ?_⟩)
    refine DAny.qu 12 rfl rfl (by kernel_rfl) rfl (fun _ => .does _ _ rfl (.none rfl) (QOp.indexM rfl rfl rfl (tok _ rfl) rfl (tok _ rfl) (by omega) (by omega) rfl)) ?_
    -- STOP before effect 13 (listed 0,1,2,3,4,5,6,7,8,9,10,11,12)
    refine DAny.ef0 13 rfl (by kernel_rfl) (.none rfl) rfl rfl (storeNx 1 (j := c.i.toNat) (w := way t c) rfl rfl rfl rfl (by rw [hw]; rfl) (tok _ rfl) rfl hii (by omega) rfl ⟨(by ((exact AllQ.nil))), ?_⟩)
    refine DAny.done (by kernel_rfl) ?_
    refine ACode.seq (ACode.region ?_)
    refine ASeq.q rfl rfl (QOp.move rfl rfl) ?_
    refine ASeq.q rfl rfl (QOp.move rfl rfl) ?_
    refine ASeq.q rfl rfl (QOp.nilCheckM rfl rfl) ?_
    refine ASeq.q rfl rfl (QOp.fieldM rfl rfl (tok _ rfl) rfl rfl (by decide) rfl) ?_
    refine ASeq.q rfl rfl (QOp.loadM 0 rfl rfl rfl (tok _ rfl) rfl) ?_
    refine ASeq.q rfl rfl (QOp.move rfl rfl) ?_
    refine ASeq.q rfl rfl (QOp.move rfl rfl) ?_
    refine ASeq.q rfl rfl (QOp.build rfl (tok _ rfl) rfl rfl rfl rfl rfl) ?_
    refine ASeq.op rfl rfl (AOp.buildSliceR rfl (tok _ rfl) rfl (tok _ rfl) (by decide) rfl (by decide) rfl rfl rfl rfl ?_)
    refine ASeq.op rfl rfl (AOp.appendMP 2 (e := 141) (tde := TT 141) rfl rfl rfl rfl (tok _ rfl) rfl (tok _ rfl) (tok _ rfl) rfl (by decide) rfl rfl (fun _ => rfl) (lcells_len loops) (row2 _ _) (by simp only [List.length_cons, List.length_nil]; omega) rfl (fun _ => ?_))
    refine ASeq.q rfl rfl (QOp.nilCheckM rfl rfl) ?_
    refine ASeq.q rfl rfl (QOp.fieldM rfl rfl (tok _ rfl) rfl rfl (by decide) rfl) ?_
    refine ASeq.op0 rfl rfl (AOp.storeP 0 rfl rfl rfl rfl (tok _ rfl) rfl rfl rfl rfl ?_)
    refine ASeq.nil ?_
    refine ACode.seq (ACode.region ?_)
    refine ASeq.cells (cells' := lcells (loops ++ [(c.i, c.behind)])) [_, _] [_] rfl (leOfEq (lcells_snoc loops (c.i, c.behind)).symm) ?_
    refine ASeq.cells (cells' := bcells t first τ mN t.stmts.length _ (loops ++ [(c.i, c.behind)]).length) [] [_, _, _] rfl (leOfEq (by rw [hlen2]; rfl)) ?_
    refine ASeq.q rfl rfl (QOp.move rfl rfl) ?_
    refine ASeq.q rfl rfl (QOp.fieldM rfl rfl (tok _ rfl) rfl rfl (by decide) rfl) ?_
    refine ASeq.q rfl rfl (QOp.loadM 3 rfl rfl rfl (tok _ rfl) rfl) ?_
    refine ASeq.q rfl rfl (QOp.move rfl rfl) ?_
    refine ASeq.op rfl rfl (AOp.callP 3 rfl (by kernel_rfl) rfl rfl rfl (list_walk hS t first τ mB mN (nx0.set c.i.toNat (way t c)) _ (loops ++ [(c.i, c.behind)]) s.thn c.i c.i c.i c.behind lo md ht hst hl1 k1 (by omega) (.inr ⟨loops, rfl⟩) hj1 hdep) ?_ (by rintro _ _ ⟨⟩))
    rintro _ _ ⟨nx, mo, hnx⟩
    refine ASeq.nil ?_
    rw [hlen2]
    refine AExit.then_normal ?_
    refine ACode.shrink (loops.length * 2) [_, _] [_] rfl ?_
    rw [show (lcells (loops ++ [(c.i, c.behind)])).take (loops.length * 2) = lcells loops by rw [lcells_snoc, ← lcells_len loops, List.take_left]]
    refine ACode.drawn [[], [], [1], [1, 2], [1, 2, 3], [], [5], [5, 6], [5, 6, 7], [5, 6, 7, 8], [5, 6, 7, 8, 9], [1, 2, 3, 4, 5, 6, 7, 8, 9, 10], [0, 1, 2, 3, 4, 5, 6, 7, 8, 9, 10, 11], [0, 1, 2, 3, 4, 5, 6, 7, 8, 9, 10, 11, 12], [0, 1, 2, 3, 4, 5, 6, 7, 8, 9, 10, 11, 12, 13]] (by kernel_rfl) mixed ?_
    refine DAny.qu 0 rfl rfl (by kernel_rfl) rfl (fun _ => .does _ _ rfl (.none rfl) (QOp.move rfl rfl)) ?_
    refine DAny.qu 1 rfl rfl (by kernel_rfl) rfl (fun _ => .does _ _ rfl (.none rfl) (QOp.move rfl rfl)) ?_
    refine DAny.qu 2 rfl rfl (by kernel_rfl) rfl (fun _ => .does _ _ rfl (.none rfl) (QOp.nilCheckM rfl rfl)) ?_
    refine DAny.qu 3 rfl rfl (by kernel_rfl) rfl (fun _ => .does _ _ rfl (.none rfl) (QOp.fieldM rfl rfl (tok _ rfl) rfl rfl (by decide) rfl)) ?_
    refine DAny.ld 4 rfl rfl (by kernel_rfl) rfl (.does _ _ rfl (.none rfl) (QOp.loadM 0 rfl rfl rfl (tok _ rfl) rfl)) ?_
    refine DAny.qu 5 rfl rfl (by kernel_rfl) rfl (fun _ => .does _ _ rfl (.none rfl) (QOp.move rfl rfl)) ?_
    refine DAny.qu 6 rfl rfl (by kernel_rfl) rfl (fun _ => .does _ _ rfl (.none rfl) (QOp.nilCheckM rfl rfl)) ?_
    refine DAny.qu 7 rfl rfl (by kernel_rfl) rfl (fun _ => .does _ _ rfl (.none rfl) (QOp.fieldM rfl rfl (tok _ rfl) rfl rfl (by decide) rfl)) ?_
    refine DAny.ld 8 rfl rfl (by kernel_rfl) rfl (.does _ _ rfl (.none rfl) (QOp.loadM 0 rfl rfl rfl (tok _ rfl) rfl)) ?_
    refine DAny.qu 9 rfl rfl (by kernel_rfl) rfl (fun _ => .does _ _ rfl (.none rfl) (QOp.lenM rfl rfl (tok _ rfl) rfl)) ?_
    refine DAny.qu 10 rfl rfl (by kernel_rfl) rfl (fun _ => .does _ _ rfl (.none rfl) (QOp.ar64 rfl rfl rfl rfl ⟨by omega, by omega⟩)) ?_
    refine DAny.qu 11 rfl rfl (by kernel_rfl) rfl (fun _ => .does _ _ rfl (.none rfl) (QOp.cutM rfl rfl rfl (tok _ rfl) rfl (tok _ rfl) (by omega) (by omega))) ?_
    refine DAny.qu 12 rfl rfl (by kernel_rfl) rfl (fun _ => .does _ _ rfl (.none rfl) (QOp.nilCheckM rfl rfl)) ?_
    refine DAny.qu 13 rfl rfl (by kernel_rfl) rfl (fun _ => .does _ _ rfl (.none rfl) (QOp.fieldM rfl rfl (tok _ rfl) rfl rfl (by decide) rfl)) ?_
    refine DAny.ef0 14 rfl (by kernel_rfl) (.none rfl) rfl rfl (AOp.storeP 0 rfl rfl rfl rfl (tok _ rfl) rfl rfl rfl rfl ⟨(by ((exact AllQ.nil))), ?_⟩)
    refine DAny.done (by kernel_rfl) ?_
    refine AExit.in_normal ?_
    refine bodyQ_end 3 .nil rfl ?_
    have hlast : (((loops.length + 1 : Nat) : Int) - 1).toNat = loops.length := by omega
    refine RF.of nx mo ⟨hnx.len.trans (by rw [List.length_set]), fun d hdd => ?_, fun j hj => ?_⟩ (by
      show [Abs.Item.mu mB [_, _, _, _, _, .sl 2 mo 0 (((loops.length + 1 : Nat) : Int) - 1).toNat], .mu mN _, .mu mo _] = _
      rw [hlast]; rfl)
    · rcases hdd.cases with rfl | ⟨k, hk, ho⟩ | ⟨k, hk, ho⟩
      · rw [hnx.rest _ (.inr (by omega)), List.getElem?_set_self (by omega)]
      · rw [hs] at hk
        rw [hc1] at ho
        exact hnx.ways d ⟨k, hk, ho⟩
      · rw [hs, hels] at hk; simp at hk
    · rw [hnx.rest _ (by omega), List.getElem?_set_ne (by omega)]
  have hne6 : s.kind ≠ 6 := by simpa using hb
  have hthn := hs0.th hne5 hne6
  have hels := hs0.el hne5
  have hone : ∀ w, w = way t c → WaysIn t nx0 (nx0.set c.i.toNat w) (Occ t c) lo (c.i + 1) := fun w hw => .one hown hnx0 hw (by rw [hs]; exact hthn) (by rw [hs]; exact hels)
  have hjc := hj c .self
  rw [hs] at hjc
  refine ACode.seq (ACode.region ?_)
  refine ASeq.q rfl rfl (QOp.cmp rfl rfl rfl rfl) ?_
  refine ASeq.q rfl rfl (QOp.assign rfl rfl) ?_
  refine ASeq.nil ?_
  refine AExit.then_normal ?_
  refine ACode.cond _ rfl (fun hb => ?_) (fun hb => ?_)
  · have hk7 : s.kind = 7 := by simpa using hb
    have hw : way t c = [c.lb] := by unfold way; rw [hs, if_neg hne5, if_neg hne6, if_pos hk7]
    have hl0 := hjc (.inl hk7)
    obtain ⟨pre, hpre⟩ : ∃ pre, loops = pre ++ [(c.loop, c.lb)] := by rcases hlp with h | h; omega; exact h
    have hlast := (lcells_last hpre).2
    have hpos : 1 ≤ loops.length := by rw [hpre]; simp
    refine ACode.drawn [[], [0], [0, 1], [0, 1, 2], [0, 1, 2, 3], [], [], [6], [6, 7], [6, 7, 8], [], [10], [10, 11], [10, 11, 12], [10, 11, 12, 13], [10, 11, 12, 13, 14], [6, 7, 8, 9, 10, 11, 12, 13, 14, 15], [6, 7, 8, 9, 10, 11, 12, 13, 14, 15, 16], [6, 7, 8, 9, 10, 11, 12, 13, 14, 15, 16, 17], [6, 7, 8, 9, 10, 11, 12, 13, 14, 15, 16, 17, 18], [0, 1, 2, 3, 4, 5, 6, 7, 8, 9, 10, 11, 12, 13, 14, 15, 16, 17, 18, 19], [0, 1, 2, 3, 4, 5, 6, 7, 8, 9, 10, 11, 12, 13, 14, 15, 16, 17, 18, 19, 20]] (by kernel_rfl) mixed ?_
    refine DAny.qu 0 rfl rfl (by kernel_rfl) rfl (fun _ => .does _ _ rfl (.none rfl) (QOp.move rfl rfl)) ?_
    refine DAny.qu 1 rfl rfl (by kernel_rfl) rfl (fun _ => .does _ _ rfl (.none rfl) (QOp.nilCheckM rfl rfl)) ?_
    refine DAny.qu 2 rfl rfl (by kernel_rfl) rfl (fun _ => .does _ _ rfl (.none rfl) (QOp.fieldM rfl rfl (tok _ rfl) rfl rfl (by decide) rfl)) ?_
    refine DAny.qu 3 rfl rfl (by kernel_rfl) rfl (fun _ => .does _ _ rfl (.none rfl) (QOp.fieldM rfl rfl (tok _ rfl) rfl rfl (by decide) rfl)) ?_
    refine DAny.ld 4 rfl rfl (by kernel_rfl) rfl (.does _ _ rfl (.none rfl) (QOp.loadM 0 rfl rfl rfl (tok _ rfl) rfl)) ?_
    refine DAny.qu 5 rfl rfl (by kernel_rfl) rfl (fun _ => .does _ _ rfl (.none rfl) (QOp.move rfl rfl)) ?_
    refine DAny.qu 6 rfl rfl (by kernel_rfl) rfl (fun _ => .does _ _ rfl (.none rfl) (QOp.move rfl rfl)) ?_
    refine DAny.qu 7 rfl rfl (by kernel_rfl) rfl (fun _ => .does _ _ rfl (.none rfl) (QOp.nilCheckM rfl rfl)) ?_
    refine DAny.qu 8 rfl rfl (by kernel_rfl) rfl (fun _ => .does _ _ rfl (.none rfl) (QOp.fieldM rfl rfl (tok _ rfl) rfl rfl (by decide) rfl)) ?_
    refine DAny.ld 9 rfl rfl (by kernel_rfl) rfl (.does _ _ rfl (.none rfl) (QOp.loadM 0 rfl rfl rfl (tok _ rfl) rfl)) ?_
    refine DAny.qu 10 rfl rfl (by kernel_rfl) rfl (fun _ => .does _ _ rfl (.none rfl) (QOp.move rfl rfl)) ?_
    refine DAny.qu 11 rfl rfl (by kernel_rfl) rfl (fun _ => .does _ _ rfl (.none rfl) (QOp.nilCheckM rfl rfl)) ?_
    refine DAny.qu 12 rfl rfl (by kernel_rfl) rfl (fun _ => .does _ _ rfl (.none rfl) (QOp.fieldM rfl rfl (tok _ rfl) rfl rfl (by decide) rfl)) ?_
    refine DAny.ld 13 rfl rfl (by kernel_rfl) rfl (.does _ _ rfl (.none rfl) (QOp.loadM 0 rfl rfl rfl (tok _ rfl) rfl)) ?_
    refine DAny.qu 14 rfl rfl (by kernel_rfl) rfl (fun _ => .does _ _ rfl (.none rfl) (QOp.lenM rfl rfl (tok _ rfl) rfl)) ?_
    refine DAny.qu 15 rfl rfl (by kernel_rfl) rfl (fun _ => .does _ _ rfl (.none rfl) (QOp.ar64 rfl rfl rfl rfl ⟨by omega, by omega⟩)) ?_
    refine DAny.qu 16 rfl rfl (by kernel_rfl) rfl (fun _ => .does _ _ rfl (.none rfl) (QOp.indexM rfl rfl rfl (tok _ rfl) rfl (tok _ rfl) (by omega) (by omega) rfl)) ?_
    refine DAny.qu 17 rfl rfl (by kernel_rfl) rfl (fun _ => .does _ _ rfl (.none rfl) (QOp.fieldM rfl rfl (tok _ rfl) rfl rfl (by decide) rfl)) ?_
    refine DAny.ld 18 rfl rfl (by kernel_rfl) rfl (.does _ _ rfl (.none rfl) (QOp.loadAt 2 rfl rfl rfl (tok _ rfl) rfl (by assumption))) ?_
    refine DAny.ef 19 rfl (by kernel_rfl) (.none rfl) rfl rfl (AOp.buildSliceR rfl (tok _ rfl) rfl (tok _ rfl) (by decide) rfl (by decide) rfl rfl rfl rfl ⟨(by ((refine AllQ.cons (.does _ _ rfl (.none rfl) (QOp.loadM 0 rfl rfl rfl (tok _ rfl) rfl)) ?_); (exact AllQ.nil))), ?_⟩)
    refine DAny.qu 20 rfl rfl (by kernel_rfl) rfl (fun _ => .does _ _ rfl (.none rfl) (QOp.indexM rfl rfl rfl (tok _ rfl) rfl (tok _ rfl) (by omega) (by omega) rfl)) ?_
    -- STOP before effect 21 (listed 0,1,2,3,4,5,6,7,8,9,10,11,12,13,14,15,16,17,18,19,20)
    refine DAny.ef0 21 rfl (by kernel_rfl) (.none rfl) rfl rfl (storeNx 1 (j := c.i.toNat) (w := way t c) rfl rfl rfl rfl (by rw [hw]; rfl) (tok _ rfl) rfl hii (by omega) rfl ⟨(by ((exact AllQ.nil))), ?_⟩)
    refine DAny.done (by kernel_rfl) ?_
    refine AExit.in_normal ?_
    refine bodyQ_end 3 .nil rfl ?_
    exact RF.mk _ mo0 (hone _ rfl)
  have hne7 : s.kind ≠ 7 := by simpa using hb
  refine ACode.seq (ACode.region ?_)
  refine ASeq.q rfl rfl (QOp.cmp rfl rfl rfl rfl) ?_
  refine ASeq.q rfl rfl (QOp.assign rfl rfl) ?_
  refine ASeq.nil ?_
  refine AExit.then_normal ?_
  refine ACode.cond _ rfl (fun hb => ?_) (fun hb => ?_)
  · have hk8 : s.kind = 8 := by simpa using hb
    have hw : way t c = [c.loop] := by unfold way; rw [hs, if_neg hne5, if_neg hne6, if_neg hne7, if_pos hk8]
    have hl0 := hjc (.inr hk8)
    obtain ⟨pre, hpre⟩ : ∃ pre, loops = pre ++ [(c.loop, c.lb)] := by rcases hlp with h | h; omega; exact h
    have hlast := (lcells_last hpre).1
    have hpos : 1 ≤ loops.length := by rw [hpre]; simp
    refine ACode.drawn [[], [0], [0, 1], [0, 1, 2], [0, 1, 2, 3], [], [], [6], [6, 7], [6, 7, 8], [], [10], [10, 11], [10, 11, 12], [10, 11, 12, 13], [10, 11, 12, 13, 14], [6, 7, 8, 9, 10, 11, 12, 13, 14, 15], [6, 7, 8, 9, 10, 11, 12, 13, 14, 15, 16], [6, 7, 8, 9, 10, 11, 12, 13, 14, 15, 16, 17], [6, 7, 8, 9, 10, 11, 12, 13, 14, 15, 16, 17, 18], [0, 1, 2, 3, 4, 5, 6, 7, 8, 9, 10, 11, 12, 13, 14, 15, 16, 17, 18, 19], [0, 1, 2, 3, 4, 5, 6, 7, 8, 9, 10, 11, 12, 13, 14, 15, 16, 17, 18, 19, 20]] (by kernel_rfl) mixed ?_
    refine DAny.qu 0 rfl rfl (by kernel_rfl) rfl (fun _ => .does _ _ rfl (.none rfl) (QOp.move rfl rfl)) ?_
    refine DAny.qu 1 rfl rfl (by kernel_rfl) rfl (fun _ => .does _ _ rfl (.none rfl) (QOp.nilCheckM rfl rfl)) ?_
    refine DAny.qu 2 rfl rfl (by kernel_rfl) rfl (fun _ => .does _ _ rfl (.none rfl) (QOp.fieldM rfl rfl (tok _ rfl) rfl rfl (by decide) rfl)) ?_
    refine DAny.qu 3 rfl rfl (by kernel_rfl) rfl (fun _ => .does _ _ rfl (.none rfl) (QOp.fieldM rfl rfl (tok _ rfl) rfl rfl (by decide) rfl)) ?_
    refine DAny.ld 4 rfl rfl (by kernel_rfl) rfl (.does _ _ rfl (.none rfl) (QOp.loadM 0 rfl rfl rfl (tok _ rfl) rfl)) ?_
    refine DAny.qu 5 rfl rfl (by kernel_rfl) rfl (fun _ => .does _ _ rfl (.none rfl) (QOp.move rfl rfl)) ?_
    refine DAny.qu 6 rfl rfl (by kernel_rfl) rfl (fun _ => .does _ _ rfl (.none rfl) (QOp.move rfl rfl)) ?_
    refine DAny.qu 7 rfl rfl (by kernel_rfl) rfl (fun _ => .does _ _ rfl (.none rfl) (QOp.nilCheckM rfl rfl)) ?_
    refine DAny.qu 8 rfl rfl (by kernel_rfl) rfl (fun _ => .does _ _ rfl (.none rfl) (QOp.fieldM rfl rfl (tok _ rfl) rfl rfl (by decide) rfl)) ?_
    refine DAny.ld 9 rfl rfl (by kernel_rfl) rfl (.does _ _ rfl (.none rfl) (QOp.loadM 0 rfl rfl rfl (tok _ rfl) rfl)) ?_
    refine DAny.qu 10 rfl rfl (by kernel_rfl) rfl (fun _ => .does _ _ rfl (.none rfl) (QOp.move rfl rfl)) ?_
    refine DAny.qu 11 rfl rfl (by kernel_rfl) rfl (fun _ => .does _ _ rfl (.none rfl) (QOp.nilCheckM rfl rfl)) ?_
    refine DAny.qu 12 rfl rfl (by kernel_rfl) rfl (fun _ => .does _ _ rfl (.none rfl) (QOp.fieldM rfl rfl (tok _ rfl) rfl rfl (by decide) rfl)) ?_
    refine DAny.ld 13 rfl rfl (by kernel_rfl) rfl (.does _ _ rfl (.none rfl) (QOp.loadM 0 rfl rfl rfl (tok _ rfl) rfl)) ?_
    refine DAny.qu 14 rfl rfl (by kernel_rfl) rfl (fun _ => .does _ _ rfl (.none rfl) (QOp.lenM rfl rfl (tok _ rfl) rfl)) ?_
    refine DAny.qu 15 rfl rfl (by kernel_rfl) rfl (fun _ => .does _ _ rfl (.none rfl) (QOp.ar64 rfl rfl rfl rfl ⟨by omega, by omega⟩)) ?_
    refine DAny.qu 16 rfl rfl (by kernel_rfl) rfl (fun _ => .does _ _ rfl (.none rfl) (QOp.indexM rfl rfl rfl (tok _ rfl) rfl (tok _ rfl) (by omega) (by omega) rfl)) ?_
    refine DAny.qu 17 rfl rfl (by kernel_rfl) rfl (fun _ => .does _ _ rfl (.none rfl) (QOp.fieldM rfl rfl (tok _ rfl) rfl rfl (by decide) rfl)) ?_
    refine DAny.ld 18 rfl rfl (by kernel_rfl) rfl (.does _ _ rfl (.none rfl) (QOp.loadAt 2 rfl rfl rfl (tok _ rfl) rfl (by assumption))) ?_
    refine DAny.ef 19 rfl (by kernel_rfl) (.none rfl) rfl rfl (AOp.buildSliceR rfl (tok _ rfl) rfl (tok _ rfl) (by decide) rfl (by decide) rfl rfl rfl rfl ⟨(by ((refine AllQ.cons (.does _ _ rfl (.none rfl) (QOp.loadM 0 rfl rfl rfl (tok _ rfl) rfl)) ?_); (exact AllQ.nil))), ?_⟩)
    refine DAny.qu 20 rfl rfl (by kernel_rfl) rfl (fun _ => .does _ _ rfl (.none rfl) (QOp.indexM rfl rfl rfl (tok _ rfl) rfl (tok _ rfl) (by omega) (by omega) rfl)) ?_
    -- STOP before effect 21 (listed 0,1,2,3,4,5,6,7,8,9,10,11,12,13,14,15,16,17,18,19,20)
    refine DAny.ef0 21 rfl (by kernel_rfl) (.none rfl) rfl rfl (storeNx 1 (j := c.i.toNat) (w := way t c) rfl rfl rfl rfl (by rw [hw]; rfl) (tok _ rfl) rfl hii (by omega) rfl ⟨(by ((exact AllQ.nil))), ?_⟩)
    refine DAny.done (by kernel_rfl) ?_
    refine AExit.in_normal ?_
    refine bodyQ_end 3 .nil rfl ?_
    exact RF.mk _ mo0 (hone _ rfl)
  have hne8 : s.kind ≠ 8 := by simpa using hb
  refine ACode.seq (ACode.region ?_)
  refine ASeq.q rfl rfl (QOp.cmp rfl rfl rfl rfl) ?_
  refine ASeq.q rfl rfl (QOp.assign rfl rfl) ?_
  refine ASeq.nil ?_
  refine AExit.then_normal ?_
  refine ACode.cond _ rfl (fun hb => ?_) (fun hb => ?_)
  · have hk9 : s.kind = 9 := by simpa using hb
    have hw : way t c = [-1] := by unfold way; rw [hs, if_neg hne5, if_neg hne6, if_neg hne7, if_neg hne8, if_pos hk9]
    refine ACode.region ?_
    refine ASeq.q rfl rfl (QOp.move rfl rfl) ?_
    refine ASeq.q rfl rfl (QOp.nilCheckM rfl rfl) ?_
    refine ASeq.q rfl rfl (QOp.fieldM rfl rfl (tok _ rfl) rfl rfl (by decide) rfl) ?_
    refine ASeq.q rfl rfl (QOp.fieldM rfl rfl (tok _ rfl) rfl rfl (by decide) rfl) ?_
    refine ASeq.q rfl rfl (QOp.loadM 0 rfl rfl rfl (tok _ rfl) rfl) ?_
    refine ASeq.q rfl rfl (QOp.move rfl rfl) ?_
    refine ASeq.op rfl rfl (AOp.buildSliceR rfl (tok _ rfl) rfl (tok _ rfl) (by decide) rfl (by decide) rfl rfl rfl rfl ?_)
    refine ASeq.q rfl rfl (QOp.indexM rfl rfl rfl (tok _ rfl) rfl (tok _ rfl) (by omega) (by omega) rfl) ?_
    refine ASeq.op0 rfl rfl (storeNx 1 (j := c.i.toNat) (w := way t c) rfl rfl rfl rfl (by rw [hw]; rfl) (tok _ rfl) rfl hii (by omega) rfl ?_)
    refine ASeq.nil ?_
    refine AExit.in_normal ?_
    refine bodyQ_end 3 .nil rfl ?_
    exact RF.mk _ mo0 (hone _ rfl)
  · have hne9 : s.kind ≠ 9 := by simpa using hb
    have hw : way t c = [c.behind] := by unfold way; rw [hs, if_neg hne5, if_neg hne6, if_neg hne7, if_neg hne8, if_neg hne9]
    refine ACode.region ?_
    refine ASeq.q rfl rfl (QOp.move rfl rfl) ?_
    refine ASeq.q rfl rfl (QOp.nilCheckM rfl rfl) ?_
    refine ASeq.q rfl rfl (QOp.fieldM rfl rfl (tok _ rfl) rfl rfl (by decide) rfl) ?_
    refine ASeq.q rfl rfl (QOp.fieldM rfl rfl (tok _ rfl) rfl rfl (by decide) rfl) ?_
    refine ASeq.q rfl rfl (QOp.loadM 0 rfl rfl rfl (tok _ rfl) rfl) ?_
    refine ASeq.q rfl rfl (QOp.move rfl rfl) ?_
    refine ASeq.q rfl rfl (QOp.move rfl rfl) ?_
    refine ASeq.op rfl rfl (AOp.buildSliceR rfl (tok _ rfl) rfl (tok _ rfl) (by decide) rfl (by decide) rfl rfl rfl rfl ?_)
    refine ASeq.q rfl rfl (QOp.indexM rfl rfl rfl (tok _ rfl) rfl (tok _ rfl) (by omega) (by omega) rfl) ?_
    refine ASeq.op0 rfl rfl (storeNx 1 (j := c.i.toNat) (w := way t c) rfl rfl rfl rfl (by rw [hw]; rfl) (tok _ rfl) rfl hii (by omega) rfl ?_)
    refine ASeq.nil ?_
    refine AExit.in_normal ?_
    refine bodyQ_end 3 .nil rfl ?_
    exact RF.mk _ mo0 (hone _ rfl)
end Go.Proofs.Ytaadamobapnfbaa
/- flow: Of. -/
set_option linter.unusedVariables false
set_option linter.unusedSimpArgs false
set_option maxRecDepth 100000
namespace Go.Proofs.Ytaadamobapnfbaa
open Go Go.Abs
theorem flow_stmts : ∀ n, CSt n
  | 0 => fun t first τ mB mN nx mo loops c lo ht hst hnx hown hn hlp hj hd => absurd hn (by have := hown.i0; omega)
  | n + 1 => flow_stmt n (flow_stmts n)
structure FlowOk (t : Tree) (nx : List (List Int)) : Prop where
  len : nx.length = t.stmts.length
  ways : ∀ k d, InF t k d → nx[d.i.toNat]? = some (way t d)
def firsts (t : Tree) : List Int := t.funcs.map fun g => firstOf g.body (-1)
def JumpsOk (t : Tree) : Prop := ∀ k d, InF t k d → ((t.stm d.i).kind = 7 ∨ (t.stm d.i).kind = 8) → 0 ≤ d.loop
inductive RG (t : Tree) : AOut → List Abs.Item → Prop
  | mk (mN : Nat) (nx : List (List Int)) (h : FlowOk t nx) : RG t (.ret (.agg [.il 1 none (ints (firsts t)), .sl 1 mN 0 t.stmts.length])) [.mu mN (nx.map nxc)]
theorem nils_nx (n : Nat) : LeL (List.replicate n [AV.v (.slice none 0 0)]).flatten ((List.replicate n ([] : List Int)).map nxc) := by
  induction n with
  | zero => exact .nil
  | succ n ih => rw [List.replicate_succ, List.replicate_succ]; exact .cons (.nilT 1 none) ih
theorem perm6 {α : Type} (a b c d e f : α) : [a, b, c, d, e, f].Perm [f, e, a, b, c, d] :=
  (List.perm_append_comm (l₁ := [a, b, c, d]) (l₂ := [e, f])).trans (List.Perm.swap f e _)
set_option maxHeartbeats 4000000 in
theorem flow_of (t : Tree) (R : Nat → Nat) (ht : TreeOk t) (hst : ∀ (i : Nat) (x : St), t.stmts[i]? = some x → StOk x) (hR : FR t R) (hJ : JumpsOk t) : ACalls Try.prog 16 [.agg t.cells] [] (RG t) := by
  refine ACalls.retellR ?_
  have hSl : (t.stmts.map St.cells).length = t.stmts.length := List.length_map ..
  have hFl : (t.funcs.map Fu.cells).length = t.funcs.length := List.length_map ..
  have hbig := ht.big
  refine ACalls.of_code (c := _) Try.func16 rfl Try.ntmps16 (Nat.le_of_ble_eq_true rfl) ?_
  refine ACode.newVirt (fun mo => ?_)
  refine ACode.newTok (fun τ => ?_)
  refine ACode.seq (ACode.region ?_)
  refine ASeq.op rfl rfl (AOp.boxP rfl rfl rfl (fun _ => rfl) (fun _ => ?_))
  refine ASeq.op rfl rfl (AOp.allocP rfl (tok _ rfl) rfl rfl (fun _ => rfl) (fun _ => ?_))
  refine ASeq.nil ?_
  rename_i m1 m2
  refine ACode.seq ?_
  refine ACode.drawn [[], [], [1], [1, 2], [1, 2, 3], [1, 2, 3, 4], [0, 1, 2, 3, 4, 5], [0, 1, 2, 3, 4, 5, 6], [0, 1, 2, 3, 4, 5, 6, 7]] (by kernel_rfl) mixed ?_
  refine DAny.ld 0 rfl rfl (by kernel_rfl) rfl (.does _ _ rfl (.none rfl) (QOp.loadM 2 rfl rfl rfl (tok _ rfl) rfl)) ?_
  refine DAny.qu 1 rfl rfl (by kernel_rfl) rfl (fun _ => .does _ _ rfl (.none rfl) (QOp.fieldM rfl rfl (tok _ rfl) rfl rfl (by decide) rfl)) ?_
  refine DAny.ld 2 rfl rfl (by kernel_rfl) rfl (.does _ _ rfl (.none rfl) (QOp.loadM 2 rfl rfl rfl (tok _ rfl) rfl)) ?_
  refine DAny.qu 3 rfl rfl (by kernel_rfl) rfl (fun _ => .does _ _ rfl (.none rfl) (QOp.lenI rfl rfl (tok _ rfl) rfl)) ?_
  -- STOP at effect 4 Go.Op.makeSlice 31 (Go.Operand.tmp 9) (Go.Operand.tmp 9) (listed 0,1,2,3)
  refine DAny.ef 4 rfl (by kernel_rfl) (.none rfl) rfl rfl (AOp.makeP (n := (t.stmts.map St.cells).length) rfl rfl rfl (tok _ rfl) rfl (tok _ rfl) (by decide) rfl rfl (fun _ => rfl) (by omega) rfl (fun mN => ⟨(by ((refine AllQ.cons (.does _ _ rfl (.none rfl) (QOp.loadM 2 rfl rfl rfl (tok _ rfl) rfl)) ?_); (exact AllQ.nil))), ?_⟩))
  refine DAny.qu 5 rfl rfl (by kernel_rfl) rfl (fun _ => .does _ _ rfl (.none rfl) (QOp.build rfl (tok _ rfl) rfl rfl rfl rfl rfl)) ?_
  refine DAny.qu 6 rfl rfl (by kernel_rfl) rfl (fun _ => .does _ _ rfl (.none rfl) (QOp.build rfl (tok _ rfl) rfl rfl rfl rfl rfl)) ?_
  -- STOP at effect 7 Go.Op.box 71 (Go.Operand.tmp 12) (listed 0,1,2,3,4,5,6)
  refine DAny.ef 7 rfl (by kernel_rfl) (.none rfl) rfl rfl (AOp.boxP rfl rfl rfl (fun _ => rfl) (fun mB => ⟨(by ((exact AllQ.nil))), ?_⟩))
  refine DAny.ef 8 rfl (by kernel_rfl) (.none rfl) rfl rfl (.q (QOp.assign rfl rfl) ⟨(by ((exact AllQ.nil))), ?_⟩)
  refine DAny.done (by kernel_rfl) ?_
  refine AExit.then_normal ?_
  refine ACode.items _ (perm6 _ _ _ _ _ _) (List.Sublist.refl _) ?_
  refine ACode.cells (cells' := (List.replicate t.stmts.length ([] : List Int)).map nxc) [_] [_, _, _, _] rfl (by rw [hSl]; exact nils_nx _) ?_
  refine ACode.cells (cells' := bcells t [] τ mN t.stmts.length mo 0) [] [_, _, _, _, _] rfl (.cons (.refl _) (.cons (.refl _) (.cons (.refl _) (.cons (.nilT 1 _) (.cons (by rw [hSl]; exact .refl _) (.cons (.nilM 2 mo 0) .nil)))))) ?_
  refine ACode.seq (ACode.seq (ACode.region ?_))
  refine ASeq.q rfl rfl (QOp.fieldM rfl rfl (tok _ rfl) rfl rfl (by decide) rfl) ?_
  refine ASeq.q rfl rfl (QOp.loadM 4 rfl rfl rfl (tok _ rfl) rfl) ?_
  refine ASeq.q rfl rfl (QOp.lenI rfl rfl (tok _ rfl) rfl) ?_
  refine ASeq.q rfl rfl (QOp.move rfl rfl) ?_
  refine ASeq.nil ?_
  refine ACode.block ?_
  refine ACode.loopP (fun (x : Nat × List Int × Nat × List (List Int) × Nat) => [(2, .mp m2 0), (3, .mp mB 0), (15, .il 6 none (t.funcs.map Fu.cells)), (16, vi ((t.funcs.map Fu.cells).length : Int)), (17, vi x.1)])
    (fun x => [.mu mB (bcells t x.2.1 x.2.2.1 mN t.stmts.length x.2.2.2.2 0), .mu mN (x.2.2.2.1.map nxc), .mu x.2.2.2.2 [], .tk x.2.2.1, .mu m1 t.cells, .mu m2 (List.map AV.v (TT 33).zero)]) (fun x => t.funcs.length - x.1)
    (fun x => x.1 ≤ t.funcs.length ∧ x.2.1 = (t.funcs.take x.1).map (fun g => firstOf g.body (-1)) ∧ x.2.2.2.1.length = t.stmts.length ∧ ∀ k d, k < x.1 → InF t k d → x.2.2.2.1[d.i.toNat]? = some (way t d))
    (0, [], τ, List.replicate t.stmts.length [], mo) ⟨Nat.zero_le _, rfl, by simp, fun k d hk => by omega⟩ (.cons rfl (.cons rfl (.cons rfl (.cons rfl (.cons rfl .nil))))) 6 rfl ?_
  rintro ⟨i, fs, τ, nx0, mo⟩ ⟨hi, hfs, hnl, hways⟩
  dsimp only at hi hfs hnl hways
  have hfl : fs.length = i := by rw [hfs, List.length_map, List.length_take]; omega
  have hil := ints_len fs
  refine ACode.seq (ACode.region ?_)
  refine ASeq.q rfl rfl (QOp.cmp rfl rfl rfl rfl) ?_
  refine ASeq.nil ?_
  refine ACode.seq ?_
  refine ACode.cond _ rfl (fun hb => ?_) (fun hb => ?_)
  · have hlt : i < t.funcs.length := by have := of_decide_eq_true hb; rw [hFl] at this; omega
    have hgi := fu_at hlt
    have hgk : t.funcs[i]? = some t.funcs[i] := List.getElem?_eq_getElem hlt
    have hbody := hR.body i _ hgk
    have hbl := hbody.le
    have hR1 : R (i + 1) ≤ t.stmts.length := by rw [← hR.all]; exact hR.mono _ _ (by omega)
    have hjj : ∀ k, k < t.funcs[i].body.length → JOk t (.at_ t.funcs[i].body k (-1) (-1) (-1) (-1)) := fun k hk d ho => hJ i d ⟨_, k, hgk, hk, ho⟩
    have hdep : (([] : List (Int × Int)).length : Int) + R (i + 1) ≤ 4000000 := by simp only [List.length_nil]; omega
    refine ACode.skip (ACode.seq (ACode.block (ACode.seq (ACode.region ?_))))
    refine ASeq.q rfl rfl (QOp.indexI rfl rfl rfl (tok _ rfl) rfl (tok _ rfl) (by omega) (by assumption)) ?_
    refine ASeq.q rfl rfl (QOp.loadI rfl rfl (tok _ rfl) rfl) ?_
    refine ASeq.op rfl rfl (AOp.allocP rfl (tok _ rfl) rfl rfl (fun _ => rfl) (fun _ => ?_))
    refine ASeq.op0 rfl rfl (AOp.storeP 6 rfl rfl rfl rfl (tok _ rfl) rfl rfl rfl rfl ?_)
    refine ASeq.nil ?_
    refine ACode.seq ?_
    refine ACode.drawn [[], [], [1], [1, 2], [1, 2, 3], [1, 2, 3, 4], [], [6], [6, 7], [6, 7, 8], [1, 2, 3, 4, 5, 6, 7, 8, 9], [0, 1, 2, 3, 4, 5, 6, 7, 8, 9, 10], [0, 1, 2, 3, 4, 5, 6, 7, 8, 9, 10, 11], [0, 1, 2, 3, 4, 5, 6, 7, 8, 9, 10, 11, 12], [0, 1, 2, 3, 4, 5, 6, 7, 8, 9, 10, 11, 12, 13]] (by kernel_rfl) mixed ?_
    refine DAny.qu 0 rfl rfl (by kernel_rfl) rfl (fun _ => .does _ _ rfl (.none rfl) (QOp.move rfl rfl)) ?_
    refine DAny.qu 1 rfl rfl (by kernel_rfl) rfl (fun _ => .does _ _ rfl (.none rfl) (QOp.move rfl rfl)) ?_
    refine DAny.qu 2 rfl rfl (by kernel_rfl) rfl (fun _ => .does _ _ rfl (.none rfl) (QOp.nilCheckM rfl rfl)) ?_
    refine DAny.qu 3 rfl rfl (by kernel_rfl) rfl (fun _ => .does _ _ rfl (.none rfl) (QOp.fieldM rfl rfl (tok _ rfl) rfl rfl (by decide) rfl)) ?_
    refine DAny.qu 4 rfl rfl (by kernel_rfl) rfl (fun _ => .does _ _ rfl (.none rfl) (QOp.fieldM rfl rfl (tok _ rfl) rfl rfl (by decide) rfl)) ?_
    refine DAny.ld 5 rfl rfl (by kernel_rfl) rfl (.does _ _ rfl (.none rfl) (QOp.loadM 0 rfl rfl rfl (tok _ rfl) rfl)) ?_
    refine DAny.qu 6 rfl rfl (by kernel_rfl) rfl (fun _ => .does _ _ rfl (.none rfl) (QOp.fieldM rfl rfl (tok _ rfl) rfl rfl (by decide) rfl)) ?_
    refine DAny.ld 7 rfl rfl (by kernel_rfl) rfl (.does _ _ rfl (.none rfl) (QOp.loadM 6 rfl rfl rfl (tok _ rfl) rfl)) ?_
    refine DAny.ef 8 rfl (by kernel_rfl) (.none rfl) rfl rfl (AOp.callP 0 rfl (by kernel_rfl) rfl rfl rfl (first_ok _ _) ?_ (by rintro _ _ ⟨⟩))
    rintro _ _ ⟨⟩
    refine ⟨(by ((refine AllQ.cons (.does _ _ rfl (.none rfl) (QOp.loadM 0 rfl rfl rfl (tok _ rfl) rfl)) ?_); (exact AllQ.nil))), ?_⟩
    refine DAny.ef 9 rfl (by kernel_rfl) (.none rfl) rfl rfl (AOp.buildSliceR rfl (tok _ rfl) rfl (tok _ rfl) (by decide) rfl (by decide) rfl rfl rfl rfl ⟨(by ((refine AllQ.cons (.does _ _ rfl (.none rfl) (QOp.loadM 0 rfl rfl rfl (tok _ rfl) rfl)) ?_); (exact AllQ.nil))), ?_⟩)
    refine DAny.ef 10 rfl (by kernel_rfl) (.none rfl) rfl rfl (AOp.appendP 3 (e := 3) (tde := TT 3) rfl rfl rfl rfl (tok _ rfl) rfl (tok _ rfl) (tok _ rfl) rfl (by decide) rfl rfl (fun _ => rfl) (ints_rows fs _) (by simp only [ints_len, List.length_cons, List.length_nil]; omega) rfl (fun _ => ⟨(by ((exact AllQ.nil))), ?_⟩))
    refine DAny.qu 11 rfl rfl (by kernel_rfl) rfl (fun _ => .does _ _ rfl (.none rfl) (QOp.nilCheckM rfl rfl)) ?_
    refine DAny.qu 12 rfl rfl (by kernel_rfl) rfl (fun _ => .does _ _ rfl (.none rfl) (QOp.fieldM rfl rfl (tok _ rfl) rfl rfl (by decide) rfl)) ?_
    refine DAny.qu 13 rfl rfl (by kernel_rfl) rfl (fun _ => .does _ _ rfl (.none rfl) (QOp.fieldM rfl rfl (tok _ rfl) rfl rfl (by decide) rfl)) ?_
    refine DAny.ef0 14 rfl (by kernel_rfl) (.none rfl) rfl rfl (AOp.storeP 0 rfl rfl rfl rfl (tok _ rfl) rfl rfl rfl rfl ⟨(by ((exact AllQ.nil))), ?_⟩)
    refine DAny.done (by kernel_rfl) ?_
    rename_i m5 τ'
    refine ACode.region ?_
    refine ASeq.cells (cells' := bcells t (fs ++ [firstOf t.funcs[i].body (-1)]) τ' mN t.stmts.length mo 0) [] [_, _, _, _, _, _] rfl (leOfEq (by rw [ints_snoc]; rfl)) ?_
    refine ASeq.q rfl rfl (QOp.move rfl rfl) ?_
    refine ASeq.q rfl rfl (QOp.fieldM rfl rfl (tok _ rfl) rfl rfl (by decide) rfl) ?_
    refine ASeq.q rfl rfl (QOp.loadM 6 rfl rfl rfl (tok _ rfl) rfl) ?_
    refine ASeq.op rfl rfl (AOp.callP 3 rfl (by kernel_rfl) rfl rfl rfl (list_walk (flow_stmts (R (i + 1))) t (fs ++ [firstOf t.funcs[i].body (-1)]) τ' mB mN nx0 mo [] t.funcs[i].body (-1) (-1) (-1) (-1) (R i) (R (i + 1)) ht hst hnl hbody (Nat.le_refl _) (.inl (by decide)) hjj hdep) ?_ (by rintro _ _ ⟨⟩))
    rintro _ _ ⟨nx, mo, hnx⟩
    refine ASeq.nil ?_
    refine ACode.region ?_
    refine ASeq.q rfl rfl (QOp.ar64 rfl rfl rfl rfl ⟨by omega, by omega⟩) ?_
    refine ASeq.q rfl rfl (QOp.move rfl rfl) ?_
    refine ASeq.nil ?_
    refine AExit.then_normal ?_
    refine ⟨(i + 1, fs ++ [firstOf t.funcs[i].body (-1)], τ', nx, mo), 6, ⟨hlt, ?_, hnx.len.trans hnl, fun k d hk hin => ?_⟩, by dsimp only; omega, .cons rfl (.cons rfl (.cons rfl (.cons rfl (.cons rfl .nil)))), rfl⟩
    · dsimp only; rw [hfs, List.take_add_one, List.getElem?_eq_getElem hlt, Option.toList_some, List.map_append]; rfl
    · by_cases hki : k = i
      · subst hki
        obtain ⟨g, j, h1, h2, h3⟩ := hin
        rw [hgk] at h1
        cases h1
        exact hnx.ways d ⟨j, h2, h3⟩
      · have hlt' : k < i := by omega
        obtain ⟨lo, o1, o2, o3, o4⟩ := hR.own hin
        have := hR.mono (k + 1) i (by omega)
        have := o1.i0
        rw [hnx.rest _ (.inl (by omega))]
        exact hways k d hlt' hin
  · have hge : i = t.funcs.length := by have := of_decide_eq_false hb; rw [hFl] at this; omega
    refine ACode.exit (ACode.seq (ACode.region ?_))
    refine ASeq.q rfl rfl (QOp.move rfl rfl) ?_
    refine ASeq.q rfl rfl (QOp.nilCheckM rfl rfl) ?_
    refine ASeq.q rfl rfl (QOp.fieldM rfl rfl (tok _ rfl) rfl rfl (by decide) rfl) ?_
    refine ASeq.q rfl rfl (QOp.loadM 0 rfl rfl rfl (tok _ rfl) rfl) ?_
    refine ASeq.op0 rfl rfl (AOp.storeP 5 rfl rfl rfl rfl (tok _ rfl) rfl rfl rfl rfl ?_)
    refine ASeq.nil ?_
    refine ACode.ret ?_
    have hfs2 : fs = firsts t := by rw [hfs, hge, List.take_length]; rfl
    refine ⟨_, _, [.mu mN (nx0.map nxc)], .cell 5 rfl rfl (tok _ rfl) rfl .nil, .refl _, .cons _ (.cons_cons _ (List.nil_sublist _)), ?_⟩
    rw [hfs2]
    exact ⟨_, LeL.agg (.cons (.tok 1 _ _) (.cons (.refl _) .nil)), .mk mN nx0 ⟨hnl, fun k d hin => by
      obtain ⟨g, j, h1, h2, h3⟩ := hin
      exact hways k d (by rw [hge]; exact (List.getElem?_eq_some_iff.1 h1).1) ⟨g, j, h1, h2, h3⟩⟩⟩
end Go.Proofs.Ytaadamobapnfbaa
