/- Own texts, put together by a program: T2 T0 T1 Q0 P0 T3 T4 T5 T6 T7 T8 T9 Ta Tb Td Tc. -/
import Derived.RangeFuncNested
import Derived.RangeFuncBound
import Derived.RangeFuncCalls
import Derived.RangeFuncLeaves
import Derived.RangeFuncFrom
import Derived.Shelf.Abstract
import Derived.Shelf.RegionOpen
import Derived.WalkKit
import Derived.OwnWalkIn
import Derived.TacticsInMore
import Derived.LoopNIn
import Derived.LoopIn
import Derived.Test.YtaadamobapnfbaaProg
import Derived.RangeFuncBox
import Derived.Test.YtaadamobapnfbaaKn3
namespace Go.Proofs.Ytaadamobapnfbaa
open Go Go.RowKit Go.Shelf
attribute [local go_sem] Oper.semAt_some
def upto {α : Type} (f : Nat → α) (k : Nat) : List α := (List.range k).map f
theorem upto_succ {α : Type} (f : Nat → α) (k : Nat) : upto f (k + 1) = upto f k ++ [f k] := by simp [upto, List.range_succ]
theorem upto_length {α : Type} (f : Nat → α) (k : Nat) : (upto f k).length = k := by simp [upto]
set_option maxRecDepth 100000 in
set_option maxHeartbeats 2000000 in
theorem back116 {β : Type} (val : β → Value) (F : Fence) (n : Nat) (h7 : F.fn 116) (hro : F.round = none) (hn : 1 ≤ n) (l Bs n₀ b off len cap : Nat) (g : Nat → β) (hreach : len ≤ 1048576) (hb : b < n₀) (J Jx : List (Int × β) → World → Prop)
    (hY : ∀ pre x W, J pre W → pre.length < len → YieldAt F (n - 1) Try.prog l #[.int .i64 x.1, val x.2] W fun e W' =>
      (e = .returned (.bool true) ∧ J (pre ++ [x]) W' ∧ Below n₀ W W') ∨ (e = .returned (.bool false) ∧ Jx (pre ++ [x]) W'))
    (W : World) (hBs : W.cell? ⟨Bs, 0, none⟩ = some (.slice (some ⟨b, off, none⟩) len cap)) (hBn : Bs < n₀) (hc : ∀ j, j < len → W.cell? ⟨b, off + j, none⟩ = some (val (g j))) (h0 : J [] W) :
    CallsIn F n Try.prog 116 #[.func (.yield l) #[] #[], .pointer (some ⟨Bs, 0, none⟩)] W fun e W' => (∃ v, e = .returned v) ∧
      ((∃ ys, ys = upto (fun k => ((len : Int) - 1 - k, g (len - 1 - k))) len ∧ J ys W') ∨ (∃ pre, (∃ k, k ≤ len ∧ pre = upto (fun k => ((len : Int) - 1 - k, g (len - 1 - k))) k) ∧ Jx pre W')) := by
  refine callsIn_of_wp Try.func116 rfl h7 ?_ hro
  simp only [Try.ntmps116, List.size_toArray, List.length_cons, List.length_nil, Nat.reduceAdd, Nat.reduceSub, Array.replicate_succ, Array.replicate_zero, List.push_toArray, List.append_toArray, List.nil_append, List.cons_append]
  gi_wp2
  gi_loopw [3] (fun i wr => ∃ k : Nat, k ≤ len ∧ i = .int .i64 ((len : Int) - 1 - k) ∧ J (upto (fun k => ((len : Int) - 1 - k, g (len - 1 - k))) k) wr ∧ Below n₀ W wr)
    (fun i _ => (intOf i + 1).toNat)
  case atStart => exact ⟨0, Nat.zero_le _, by simp, h0, Below.refl _ _⟩
  case round =>
    obtain ⟨k, hk, rfl, hJs, hnx⟩ := hrel
    have hBs' : wr.cell? ⟨Bs, 0, none⟩ = some (.slice (some ⟨b, off, none⟩) len cap) := (hnx.cell (p := ⟨Bs, 0, none⟩) hBn).trans hBs
    by_cases hlt : k < len
    · obtain ⟨m, hm⟩ : ∃ m, len = k + 1 + m := ⟨len - 1 - k, by omega⟩
      have e1 : (len : Int) - 1 - k = (m : Int) := by omega
      have e2 : len - 1 - k = m := by omega
      have hml : m < len := by omega
      clear hm
      have hcx : wr.cell? ⟨b, off + m, none⟩ = some (val (g m)) := (hnx.cell (p := ⟨b, off + m, none⟩) hb).trans (hc m hml)
      obtain ⟨fn, tmps, assign, body, hy, hR⟩ := hY _ ((m : Int), g m) wr hJs (by rw [upto_length]; exact hlt)
      dsimp only at hy
      rw [e1]
      gi_wp2
      refine hR.mono ?_
      rintro e W3 (⟨rfl, hJ3, hk3⟩ | ⟨rfl, hJx3⟩)
      · gi_wp2
        go_roundw
        case rel => exact ⟨k + 1, by omega, by simp; omega, by rw [upto_succ]; simp only [e1, e2]; exact hJ3, hnx.trans hk3⟩
        case measure => simp [intOf]
      · gi_wp2
        refine bodyPost_ret (results_none rfl _ _ _) rfl ?_
        exact ⟨⟨_, rfl⟩, .inr ⟨_, ⟨k + 1, by omega, by rw [upto_succ]; simp only [e1, e2]⟩, hJx3⟩⟩
    · obtain rfl : k = len := by omega
      gi_wp2
      go_end0
      exact ⟨⟨_, rfl⟩, .inl ⟨_, rfl, hJs⟩⟩
set_option maxHeartbeats 1000000 in
theorem back104 (F : Fence) (n : Nat) (h5 : F.fn 104) (hro : F.round = none) (a : Option Addr) (len cap : Nat) (w : World) :
    CallsIn F n Try.prog 104 #[.slice a len cap] w fun e w' => e = .returned (.func (.func 116) #[] #[.pointer (some ⟨w.heap.size, 0, none⟩)]) ∧ w' = w.alloc (.cells #[.slice a len cap] 96) := by
  refine callsIn_of_wp Try.func104 rfl h5 ?_ hro
  simp only [Try.ntmps104, List.size_toArray, List.length_cons, List.length_nil, Nat.reduceAdd, Nat.reduceSub, Array.replicate_succ, Array.replicate_zero, List.push_toArray, List.append_toArray, List.nil_append, List.cons_append]
  gi_wp2
  go_ret
  exact ⟨rfl, rfl⟩
end Go.Proofs.Ytaadamobapnfbaa
set_option linter.unusedVariables false
set_option linter.unusedSimpArgs false
namespace Go.Proofs.Ytaadamobapnfbaa
open Go Go.Abs
/-- where something is wrong, all that follows does nothing -/
def Stk (c d : CS) : Prop := c.code ≠ 0 → d.code = c.code ∧ d.at_ = c.at_
theorem Stk.refl (c : CS) : Stk c c := fun _ => ⟨rfl, rfl⟩
theorem Stk.trans {a b c : CS} (h : Stk a b) (h' : Stk b c) : Stk a c := fun k => by
  obtain ⟨h1, h2⟩ := h k
  obtain ⟨h3, h4⟩ := h' (by rw [h1]; exact k)
  exact ⟨h3.trans h1, h4.trans h2⟩
theorem Stk.need (c : CS) (ok : Bool) (a k : Int) : Stk c (c.need ok a k) := fun h => by
  unfold CS.need
  rw [if_neg (fun h' => h h'.1)]
  exact ⟨rfl, rfl⟩
theorem Stk.valOf {c : CS} {r : CS × Int} (h : Stk c r.1) (i : Int) : Stk c (valOf r i).1 := h.trans (.need _ _ _ _)
theorem Stk.slotOf (c : CS) (s : ByteArray) (b : Bool) (a : Int) : Stk c (c.slotOf s b a).1 := .need _ _ _ _
theorem Stk.args {g : CS → Int → CS × Int} (hg : ∀ c i, Stk c (g c i).1) : ∀ (l : List Int) (c : CS) (b : Bool), Stk c (argsOf g l c b).1
  | [], c, b => .refl c
  | a :: l, c, b => (Stk.valOf (hg c a) a).trans (Stk.args hg l _ _)
theorem Stk.set {c d : CS} (h : Stk c d) (i n : Int) : Stk c (d.setSlot i n) := h
theorem Stk.kindCase {g : CS → Int → CS × Int} (ih : ∀ c i, Stk c (g c i).1) (c : CS) (i : Int) (e : Ex) : Stk c (kindCase g c i e).1 := by
  unfold Ytaadamobapnfbaa.kindCase
  split
  · exact .refl c
  split
  · split
    · exact .slotOf _ _ _ _
    · exact .slotOf _ _ _ _
  split
  · exact (((ih _ _).valOf _).trans (.slotOf _ _ _ _)).trans (.need _ _ _ _)
  split
  · split
    · exact ((Stk.args ih _ _ _).trans (.need _ _ _ _)).trans (.need _ _ _ _)
    · exact (Stk.args ih _ _ _).trans (.need _ _ _ _)
  split
  · exact ((ih _ _).valOf _).trans (.need _ _ _ _)
  split
  · exact (((ih _ _).valOf _).trans ((ih _ _).valOf _)).trans (.need _ _ _ _)
  · exact .refl c
theorem Stk.typed {c : CS} {r : CS × Int} (h : Stk c r.1) (i : Int) : Stk c (typed r i).1 := by
  unfold Ytaadamobapnfbaa.typed
  split
  · exact h
  · exact h
theorem Stk.expr6 : ∀ (n : Nat) (c : CS) (i : Int), Stk c (expr6 n c i).1
  | 0, c, i => .refl c
  | n + 1, c, i => by
    unfold Ytaadamobapnfbaa.expr6
    split
    · exact .refl c
    · exact (Stk.kindCase (Stk.expr6 n) c i _).typed i
theorem Stk.vals (c : CS) (i : Int) : Stk c (vals c i).1 := (Stk.expr6 _ _ _).valOf _
theorem Stk.decl (c : CS) (s : ByteArray) (k a : Int) : Stk c (c.decl s k a).1 := by
  unfold CS.decl
  split
  · exact (Stk.need _ _ _ _).trans (.need _ _ _ _)
  · exact fun _ => ⟨rfl, rfl⟩
theorem Stk.stmts {g : CS → Int → CS} (hg : ∀ c i, Stk c (g c i)) (b : Int) : ∀ (l : List Int) (c : CS), Stk c (stmtsOf g b l c)
  | [], c => .refl c
  | i :: l, c => (hg c i).trans (fun h => Stk.stmts hg b l { g c i with block := b } h)
theorem Stk.blockOf {g : CS → Int → CS} (hg : ∀ c i, Stk c (g c i)) (c : CS) (l : List Int) : Stk c (blockOf g c l) :=
  fun h => Stk.stmts hg (c.block + 1) l { c with block := c.block + 1 } h
theorem Stk.case {g : CS → Int → CS} (hg : ∀ c i, Stk c (g c i)) (c : CS) (s : St) : Stk c (stmtCase g c s).1 := by
  have hv := Stk.vals c s.a
  unfold stmtCase
  split
  · split
    · exact hv
    · exact hv.trans (.decl _ _ _ _)
  split
  · split
    · exact .need _ _ _ _
    · exact (Stk.need _ _ _ _).trans (.decl _ _ _ _)
  split
  · split
    · exact hv
    · split
      · exact hv.trans ((Stk.slotOf _ _ _ _).trans (.need _ _ _ _))
      · exact hv.trans (Stk.slotOf _ _ _ _)
  split
  · split
    · exact hv.trans (Stk.vals _ _)
    · exact (hv.trans (Stk.vals _ _)).trans ((Stk.slotOf _ _ _ _).trans (.need _ _ _ _))
  split
  · exact ((hv.trans (.need _ _ _ _)).trans (.blockOf hg _ _)).trans (.blockOf hg _ _)
  split
  · intro h
    obtain ⟨h1, h2⟩ := hv h
    have h3 := (Stk.need ({ (Ytaadamobapnfbaa.vals c s.a).1 with loops := c.loops + 1 } : CS) ((Ytaadamobapnfbaa.vals c s.a).2 == 2) s.fr 8).trans (Stk.blockOf hg _ s.thn)
    have := h3 (by show (Ytaadamobapnfbaa.vals c s.a).1.code ≠ 0; rw [h1]; exact h)
    exact ⟨this.1.trans h1, this.2.trans h2⟩
  split
  · exact .need _ _ _ _
  split
  · split
    · exact hv.trans (.need _ _ _ _)
    · exact .need _ _ _ _
  split
  · exact hv
  split
  · exact .expr6 _ _ _
  · exact .refl c
theorem Stk.putted {c : CS} {r : CS × Int} (h : Stk c r.1) (i : Int) : Stk c (putted r i) := by
  unfold Ytaadamobapnfbaa.putted
  split
  · exact h
  · exact h
theorem Stk.stm6 : ∀ (n : Nat) (c : CS) (i : Int), Stk c (stm6 n c i)
  | 0, c, i => .refl c
  | n + 1, c, i => by
    unfold Ytaadamobapnfbaa.stm6
    split
    · exact .refl c
    · exact fun h => (Stk.case (Stk.stm6 n) (c.setFunc i c.f) (c.stm i)).putted i h
end Go.Proofs.Ytaadamobapnfbaa
set_option linter.unusedVariables false
set_option linter.unusedSimpArgs false
set_option maxRecDepth 100000
namespace Go.Proofs.Ytaadamobapnfbaa
open Go Go.Abs
def wrongV (at_ code : Int) : AV := .ifc 100 (.agg [vi at_, vi code])
inductive RNeed (ok : Bool) (at_ code : Int) : AOut → List Abs.Item → Prop
  | ok (h : ok = true) : RNeed ok at_ code (.ret (.tup [])) []
  | bad (h : ok = false) : RNeed ok at_ code (.pan (wrongV at_ code)) []
theorem cneed_ok (ok : Bool) (fr to code : Int) : ACalls Try.prog 61 [.v (.bool ok), .agg [vi fr, vi to], vi code] [] (RNeed ok fr code) := by
  refine ACalls.of_code (c := _) Try.func61 rfl Try.ntmps61 (Nat.le_of_ble_eq_true rfl) ?_
  refine ACode.seq (ACode.region ?_)
  refine ASeq.op rfl rfl (AOp.boxP rfl rfl rfl (fun _ => rfl) (fun _ => ?_))
  refine ASeq.nil ?_
  rename_i m4
  refine ACode.seq (ACode.region ?_)
  refine ASeq.q rfl rfl (QOp.move rfl rfl) ?_
  refine ASeq.q rfl rfl (QOp.not rfl rfl) ?_
  refine ASeq.nil ?_
  refine AExit.then_normal ?_
  refine ACode.cond _ rfl (fun hb => ?_) (fun hb => ?_)
  · have hok : ok = false := by simpa using hb
    refine ACode.region ?_
    refine ASeq.q rfl rfl (QOp.fieldM rfl rfl (tok _ rfl) rfl rfl (by decide) rfl) ?_
    refine ASeq.q rfl rfl (QOp.loadM 0 rfl rfl rfl (tok _ rfl) rfl) ?_
    refine ASeq.q rfl rfl (QOp.move rfl rfl) ?_
    refine ASeq.q rfl rfl (QOp.build rfl (tok _ rfl) rfl rfl rfl rfl rfl) ?_
    refine ASeq.q rfl rfl (QOp.makeIface rfl rfl (tok _ rfl) (by intro n h; cases h)) ?_
    refine ASeq.op0 rfl rfl (AOp.panic rfl rfl ?_)
    exact bodyQ_pan 0 rfl (.bad hok)
  · have hok : ok = true := by simpa using hb
    refine ACode.skip ?_
    refine bodyQ_end 0 .nil rfl ?_
    exact .ok hok
def brow (n : Nm) : List AV := [vs n.text, vi n.slot]
def sameT (s : ByteArray) (n : Nm) : Bool := n.text.data.toList == s.data.toList
theorem same65 (s : ByteArray) (n : Nm) (m : Nat) : ACalls Try.prog 65 [.agg (brow n), .mp m 0] [.mu m [vs s]] (RV (.v (.bool (sameT s n))) [.mu m [vs s]]) := by
  refine ACalls.of_code (c := _) Try.func65 rfl Try.ntmps65 (Nat.le_of_ble_eq_true rfl) ?_
  refine ACode.seq (ACode.region ?_)
  refine ASeq.op rfl rfl (AOp.boxP rfl rfl rfl (fun _ => rfl) (fun _ => ?_))
  refine ASeq.q rfl rfl (QOp.assign rfl rfl) ?_
  refine ASeq.nil ?_
  rename_i m2
  refine ACode.seq (ACode.region ?_)
  refine ASeq.q rfl rfl (QOp.fieldM rfl rfl (tok _ rfl) rfl rfl (by decide) rfl) ?_
  refine ASeq.q rfl rfl (QOp.loadM 1 rfl rfl rfl (tok _ rfl) rfl) ?_
  refine ASeq.q rfl rfl (QOp.loadM 0 rfl rfl rfl (tok _ rfl) rfl) ?_
  refine ASeq.q rfl rfl (QOp.cmpStr rfl rfl rfl rfl) ?_
  refine ASeq.q rfl rfl (QOp.assign rfl rfl) ?_
  refine ASeq.nil ?_
  refine ACode.ret ?_
  refine bodyQ_ret 1 (.tmp rfl .nil) rfl ?_
  exact .mk
/-- the first one's place; -1: none -/
def idxN (s : ByteArray) : List Nm → Nat → Int
  | [], _ => -1
  | n :: l, k => if sameT s n = true then (k : Int) else idxN s l (k + 1)
theorem idxN_drop (s : ByteArray) (l : List Nm) (k : Nat) (h : k < l.length) : idxN s (l.drop k) k = if sameT s l[k] = true then (k : Int) else idxN s (l.drop (k + 1)) (k + 1) := by
  rw [List.drop_eq_getElem_cons h]; rfl
theorem brows_get {l : List Nm} {k : Nat} (h : k < l.length) : (l.map brow)[k]? = some [vs l[k].text, vi l[k].slot] := by
  rw [List.getElem?_map, List.getElem?_eq_getElem h]; rfl
theorem index83 (g : FuncId) (hg : callOk Try.prog g = true) (hs : ∀ (s : ByteArray) (n : Nm) (m : Nat), ACalls Try.prog g [.agg (brow n), .mp m 0] [.mu m [vs s]] (RV (.v (.bool (sameT s n))) [.mu m [vs s]]))
    (s : ByteArray) (m : Nat) (tk : Option Nat) (l : List Nm) (hl : l.length ≤ 1048576) : ACalls Try.prog 83 [.il 2 tk (l.map brow), .fn (.func g) [] [.mp m 0]] [.mu m [vs s]] (RV (vi (idxN s l 0)) [.mu m [vs s]]) := by
  have hll : (l.map brow).length = l.length := List.length_map ..
  refine ACalls.of_code (c := _) Try.func83 rfl Try.ntmps83 (Nat.le_of_ble_eq_true rfl) ?_
  refine ACode.seq (ACode.region ?_)
  refine ASeq.q rfl rfl (QOp.assign rfl rfl) ?_
  refine ASeq.nil ?_
  refine ACode.seq (ACode.seq (ACode.region ?_))
  refine ASeq.q rfl rfl (QOp.move rfl rfl) ?_
  refine ASeq.q rfl rfl (QOp.lenI rfl rfl (tok _ rfl) rfl) ?_
  refine ASeq.q rfl rfl (QOp.move rfl rfl) ?_
  refine ASeq.nil ?_
  refine ACode.block ?_
  refine ACode.loopP (fun (k : Nat) => [(0, .il 2 tk (l.map brow)), (1, .fn (.func g) [] [.mp m 0]), (7, vi ((l.map brow).length : Int)), (8, vi k)]) (fun _ => [.mu m [vs s]]) (fun k => l.length - k)
    (fun k => k ≤ l.length ∧ idxN s (l.drop k) k = idxN s l 0) 0 ⟨Nat.zero_le _, rfl⟩ (.cons rfl (.cons rfl (.cons rfl (.cons rfl .nil)))) 1 rfl ?_
  rintro k ⟨hk, he⟩
  refine ACode.seq (ACode.region ?_)
  refine ASeq.q rfl rfl (QOp.cmp rfl rfl rfl rfl) ?_
  refine ASeq.nil ?_
  refine ACode.seq ?_
  refine ACode.cond _ rfl (fun hb => ?_) (fun hb => ?_)
  · have hlt : k < l.length := by have := of_decide_eq_true hb; rw [hll] at this; omega
    have hget := brows_get hlt
    have hsk := hs s l[k] m
    rw [idxN_drop s l k hlt] at he
    refine ACode.skip (ACode.seq (ACode.block (ACode.seq (ACode.region ?_))))
    refine ASeq.q rfl rfl (QOp.move rfl rfl) ?_
    refine ASeq.q rfl rfl (QOp.assign rfl rfl) ?_
    refine ASeq.nil ?_
    refine ACode.seq (ACode.region ?_)
    refine ASeq.q rfl rfl (QOp.move rfl rfl) ?_
    refine ASeq.q rfl rfl (QOp.move rfl rfl) ?_
    refine ASeq.q rfl rfl (QOp.move rfl rfl) ?_
    refine ASeq.q rfl rfl (QOp.indexI rfl rfl rfl (tok _ rfl) rfl (tok _ rfl) (by omega) (by assumption)) ?_
    refine ASeq.q rfl rfl (QOp.loadI rfl rfl (tok _ rfl) rfl) ?_
    refine ASeq.op rfl rfl (AOp.callFnP 1 rfl hg rfl rfl rfl rfl hsk ?_ (by rintro _ _ ⟨⟩))
    rintro _ _ ⟨⟩
    refine ASeq.nil ?_
    refine AExit.then_normal ?_
    refine ACode.cond _ rfl (fun hb => ?_) (fun hb => ?_)
    · rw [if_pos hb] at he
      refine ACode.seq (ACode.region ?_)
      refine ASeq.q rfl rfl (QOp.move rfl rfl) ?_
      refine ASeq.q rfl rfl (QOp.assign rfl rfl) ?_
      refine ASeq.nil ?_
      refine ACode.ret (AExit.in_ret (AExit.then_ret (AExit.then_ret (AExit.in_ret (AExit.then_ret ?_)))))
      refine bodyQ_ret 1 (.tmp rfl .nil) rfl ?_
      rw [← he]; exact .mk
    · rw [if_neg (by rw [hb]; decide)] at he
      refine ACode.skip (ACode.region ?_)
      refine ASeq.q rfl rfl (QOp.ar64 rfl rfl rfl rfl ⟨by omega, by omega⟩) ?_
      refine ASeq.q rfl rfl (QOp.move rfl rfl) ?_
      refine ASeq.nil ?_
      refine AExit.then_normal ?_
      exact ⟨k + 1, 1, ⟨hlt, he⟩, by omega, .cons rfl (.cons rfl (.cons rfl (.cons rfl .nil))), rfl⟩
  · have hge : k = l.length := by have := of_decide_eq_false hb; rw [hll] at this; omega
    subst hge
    rw [List.drop_length] at he
    refine ACode.exit (ACode.seq (ACode.region ?_))
    refine ASeq.q rfl rfl (QOp.assign rfl rfl) ?_
    refine ASeq.nil ?_
    refine ACode.ret ?_
    refine bodyQ_ret 1 (.tmp rfl .nil) rfl ?_
    rw [← he]; exact .mk
theorem same105p (s : ByteArray) (n : Nm) : ACalls Try.prog 105 [.agg (brow n), .ip [vs s]] [] (RV (.v (.bool (sameT s n))) []) := by
  refine ACalls.of_code (c := _) Try.func105 rfl Try.ntmps105 (Nat.le_of_ble_eq_true rfl) ?_
  refine ACode.seq (ACode.region ?_)
  refine ASeq.op rfl rfl (AOp.boxP rfl rfl rfl (fun _ => rfl) (fun _ => ?_))
  refine ASeq.q rfl rfl (QOp.assign rfl rfl) ?_
  refine ASeq.nil ?_
  rename_i m2
  refine ACode.seq (ACode.region ?_)
  refine ASeq.q rfl rfl (QOp.fieldM rfl rfl (tok _ rfl) rfl rfl (by decide) rfl) ?_
  refine ASeq.q rfl rfl (QOp.loadM 0 rfl rfl rfl (tok _ rfl) rfl) ?_
  refine ASeq.q rfl rfl (QOp.loadI rfl rfl (tok _ rfl) rfl) ?_
  refine ASeq.q rfl rfl (QOp.cmpStr rfl rfl rfl rfl) ?_
  refine ASeq.q rfl rfl (QOp.assign rfl rfl) ?_
  refine ASeq.nil ?_
  refine ACode.ret ?_
  refine bodyQ_ret 0 (.tmp rfl .nil) rfl ?_
  exact .mk
theorem index83p
    (s : ByteArray) (tk : Option Nat) (l : List Nm) (hl : l.length ≤ 1048576) : ACalls Try.prog 83 [.il 2 tk (l.map brow), .fn (.func 105) [] [.ip [vs s]]] [] (RV (vi (idxN s l 0)) []) := by
  have hll : (l.map brow).length = l.length := List.length_map ..
  refine ACalls.of_code (c := _) Try.func83 rfl Try.ntmps83 (Nat.le_of_ble_eq_true rfl) ?_
  refine ACode.seq (ACode.region ?_)
  refine ASeq.q rfl rfl (QOp.assign rfl rfl) ?_
  refine ASeq.nil ?_
  refine ACode.seq (ACode.seq (ACode.region ?_))
  refine ASeq.q rfl rfl (QOp.move rfl rfl) ?_
  refine ASeq.q rfl rfl (QOp.lenI rfl rfl (tok _ rfl) rfl) ?_
  refine ASeq.q rfl rfl (QOp.move rfl rfl) ?_
  refine ASeq.nil ?_
  refine ACode.block ?_
  refine ACode.loopP (fun (k : Nat) => [(0, .il 2 tk (l.map brow)), (1, .fn (.func 105) [] [.ip [vs s]]), (7, vi ((l.map brow).length : Int)), (8, vi k)]) (fun _ => []) (fun k => l.length - k)
    (fun k => k ≤ l.length ∧ idxN s (l.drop k) k = idxN s l 0) 0 ⟨Nat.zero_le _, rfl⟩ (.cons rfl (.cons rfl (.cons rfl (.cons rfl .nil)))) 0 rfl ?_
  rintro k ⟨hk, he⟩
  refine ACode.seq (ACode.region ?_)
  refine ASeq.q rfl rfl (QOp.cmp rfl rfl rfl rfl) ?_
  refine ASeq.nil ?_
  refine ACode.seq ?_
  refine ACode.cond _ rfl (fun hb => ?_) (fun hb => ?_)
  · have hlt : k < l.length := by have := of_decide_eq_true hb; rw [hll] at this; omega
    have hget := brows_get hlt
    have hsk := same105p s l[k]
    rw [idxN_drop s l k hlt] at he
    refine ACode.skip (ACode.seq (ACode.block (ACode.seq (ACode.region ?_))))
    refine ASeq.q rfl rfl (QOp.move rfl rfl) ?_
    refine ASeq.q rfl rfl (QOp.assign rfl rfl) ?_
    refine ASeq.nil ?_
    refine ACode.seq (ACode.region ?_)
    refine ASeq.q rfl rfl (QOp.move rfl rfl) ?_
    refine ASeq.q rfl rfl (QOp.move rfl rfl) ?_
    refine ASeq.q rfl rfl (QOp.move rfl rfl) ?_
    refine ASeq.q rfl rfl (QOp.indexI rfl rfl rfl (tok _ rfl) rfl (tok _ rfl) (by omega) (by assumption)) ?_
    refine ASeq.q rfl rfl (QOp.loadI rfl rfl (tok _ rfl) rfl) ?_
    refine ASeq.op rfl rfl (AOp.callFnP 0 rfl (by kernel_rfl) rfl rfl rfl rfl hsk ?_ (by rintro _ _ ⟨⟩))
    rintro _ _ ⟨⟩
    refine ASeq.nil ?_
    refine AExit.then_normal ?_
    refine ACode.cond _ rfl (fun hb => ?_) (fun hb => ?_)
    · rw [if_pos hb] at he
      refine ACode.seq (ACode.region ?_)
      refine ASeq.q rfl rfl (QOp.move rfl rfl) ?_
      refine ASeq.q rfl rfl (QOp.assign rfl rfl) ?_
      refine ASeq.nil ?_
      refine ACode.ret (AExit.in_ret (AExit.then_ret (AExit.then_ret (AExit.in_ret (AExit.then_ret ?_)))))
      refine bodyQ_ret 0 (.tmp rfl .nil) rfl ?_
      rw [← he]; exact .mk
    · rw [if_neg (by rw [hb]; decide)] at he
      refine ACode.skip (ACode.region ?_)
      refine ASeq.q rfl rfl (QOp.ar64 rfl rfl rfl rfl ⟨by omega, by omega⟩) ?_
      refine ASeq.q rfl rfl (QOp.move rfl rfl) ?_
      refine ASeq.nil ?_
      refine AExit.then_normal ?_
      exact ⟨k + 1, 0, ⟨hlt, he⟩, by omega, .cons rfl (.cons rfl (.cons rfl (.cons rfl .nil))), rfl⟩
  · have hge : k = l.length := by have := of_decide_eq_false hb; rw [hll] at this; omega
    subst hge
    rw [List.drop_length] at he
    refine ACode.exit (ACode.seq (ACode.region ?_))
    refine ASeq.q rfl rfl (QOp.assign rfl rfl) ?_
    refine ASeq.nil ?_
    refine ACode.ret ?_
    refine bodyQ_ret 0 (.tmp rfl .nil) rfl ?_
    rw [← he]; exact .mk
theorem idxN_any (s : ByteArray) : ∀ (l : List Nm) (k : Nat), decide (idxN s l k ≥ 0) = l.any (sameT s)
  | [], k => by simp [idxN]
  | n :: l, k => by
    simp only [idxN, List.any_cons]
    split
    · rename_i h; rw [h]; simp
    · rename_i h; rw [idxN_any s l (k + 1)]; simp [h]
theorem has64 (s : ByteArray) (m : Nat) (tk : Option Nat) (l : List Nm) (hl : l.length ≤ 1048576) : ACalls Try.prog 64 [.il 2 tk (l.map brow), .fn (.func 65) [] [.mp m 0]] [.mu m [vs s]] (RV (.v (.bool (l.any (sameT s)))) [.mu m [vs s]]) := by
  have hi := index83 65 (by kernel_rfl) same65 s m tk l hl
  refine ACalls.of_code (c := _) Try.func64 rfl Try.ntmps64 (Nat.le_of_ble_eq_true rfl) ?_
  refine ACode.seq (ACode.region ?_)
  refine ASeq.q rfl rfl (QOp.assign rfl rfl) ?_
  refine ASeq.nil ?_
  refine ACode.seq (ACode.region ?_)
  refine ASeq.q rfl rfl (QOp.move rfl rfl) ?_
  refine ASeq.q rfl rfl (QOp.move rfl rfl) ?_
  refine ASeq.op rfl rfl (AOp.callP 1 rfl (by kernel_rfl) rfl rfl rfl (hi) ?_ (by rintro _ _ ⟨⟩))
  rintro _ _ ⟨⟩
  refine ASeq.q rfl rfl (QOp.cmp rfl rfl rfl rfl) ?_
  refine ASeq.q rfl rfl (QOp.assign rfl rfl) ?_
  refine ASeq.nil ?_
  refine ACode.ret ?_
  refine bodyQ_ret 1 (.tmp rfl .nil) rfl ?_
  rw [← idxN_any s l 0]; exact .mk
end Go.Proofs.Ytaadamobapnfbaa
set_option linter.unusedVariables false
set_option linter.unusedSimpArgs false
namespace Go.Proofs.Ytaadamobapnfbaa
open Go Go.Abs
/-- the ways on from a statement; none from the exit -/
def outs (nx : List (List Int)) (x : Int) : List Int := if x < 0 then [] else nx.getD x.toNat []
end Go.Proofs.Ytaadamobapnfbaa
set_option linter.unusedVariables false
set_option linter.unusedSimpArgs false
set_option maxRecDepth 100000
namespace Go.Proofs.Ytaadamobapnfbaa
open Go Go.Abs
def indexI (x : Int) : List Int → Int → Int
  | [], _ => -1
  | a :: l, k => if (x == a) = true then k else indexI x l (k + 1)
end Go.Proofs.Ytaadamobapnfbaa
set_option linter.unusedVariables false
namespace Go.Proofs.Ytaadamobapnfbaa
open Go Go.RowKit Go.Shelf
attribute [local go_sem] Oper.semAt_some
theorem back_stops {β : Type} (val : β → Value) (F : Fence) (n : Nat) (h7 : F.fn 116) (hro : F.round = none) (hn : 1 ≤ n) (Bs b off len cap : Nat) (g : Nat → β) (hreach : len ≤ 1048576) (w : World) (hb : b < w.heap.size) (hBn : Bs < w.heap.size)
    (hBs : w.cell? ⟨Bs, 0, none⟩ = some (.slice (some ⟨b, off, none⟩) len cap)) (hc : ∀ j, j < len → w.cell? ⟨b, off + j, none⟩ = some (val (g j))) :
    SeqStopsK F n Try.prog 116 #[.pointer (some ⟨Bs, 0, none⟩)] (fun x : Int × β => #[Value.int .i64 x.1, val x.2]) (Below w.heap.size) (fun ys => ys = upto (fun k => ((len : Int) - 1 - k, g (len - 1 - k))) len)
      (fun pre => ∃ k, k ≤ len ∧ pre = upto (fun k => ((len : Int) - 1 - k, g (len - 1 - k))) k) len w := fun l J Jx W hW _ _ hY h0 => by
  refine (back116 val F n h7 hro hn l Bs w.heap.size b off len cap g hreach hb J Jx hY W ((hW.cell (p := ⟨Bs, 0, none⟩) hBn).trans hBs) hBn (fun j hj => (hW.cell (p := ⟨b, off + j, none⟩) hb).trans (hc j hj)) h0).mono ?_
  rintro e W' ⟨he, ⟨ys, h1, hj⟩ | ⟨pre, h1, hj⟩⟩
  · exact ⟨he, .inl ⟨ys, h1, hj⟩⟩
  · exact ⟨he, .inr ⟨pre, h1, hj⟩⟩
instance : Inhabited Nm := ⟨⟨.empty, 0, 0⟩⟩
def findR (s : ByteArray) : List (List Nm) → Int
  | [] => -1
  | l :: r => if 0 ≤ idxN s l 0 then (l.getD (idxN s l 0).toNat default).slot else findR s r
theorem cell_new_l (W : World) (v : Value) (t : TypeId) : (W.alloc (.cells #[v] t)).cell? ⟨W.heap.size, 0, none⟩ = some v := by
  have h : (W.alloc (.cells #[v] t)).heap[W.heap.size]? = some (.cells #[v] t) := Go.heap_alloc_new W _
  unfold World.cell?
  simp only [h]
  rfl
theorem frozen_new_l (W : World) (v : Value) (t : TypeId) : (W.alloc (.cells #[v] t)).frozen? ⟨W.heap.size, 0, none⟩ = false := by
  have h : (W.alloc (.cells #[v] t)).heap[W.heap.size]? = some (.cells #[v] t) := Go.heap_alloc_new W _
  unfold World.frozen?
  simp only [h]
  rfl
theorem cell_alloc_l {W : World} {a : Addr} {v : Value} (o : Obj) (h : W.cell? a = some v) : (W.alloc o).cell? a = some v := cell_kept h (World.grownBy_alloc W o none) (fun r e => by cases e)
theorem frozen_alloc_l {W : World} {a : Addr} {v : Value} (o : Obj) (h : W.cell? a = some v) (hf : W.frozen? a = false) : (W.alloc o).frozen? a = false := (frozen_kept h (World.grownBy_alloc W o none) (fun r e => by cases e)).trans hf
/-- What is known for good stays while no block of cells turns. -/
theorem own_grownBy {G : Abs.Gh} {W W' : World} {row : Option Nat} (h : Abs.Own G [] W) (hg : W.grownBy W' row) (hr : ∀ r, row = some r → ∃ o : Obj, W.heap[r]? = some o ∧ o.isCells = false) : Abs.Own G [] W' := by
  refine ⟨fun b hb => ?_, fun it hi => by simp at hi, List.Pairwise.nil, fun b hb => h.size b (Nat.le_trans hg.size hb), h.names, fun m b hb => Nat.lt_of_lt_of_le (h.locs m b hb) hg.size, fun t p hp => Nat.lt_of_lt_of_le (h.toks t p hp) hg.size⟩
  obtain ⟨cs, e, h1, h2⟩ := h.per b hb
  refine ⟨cs, e, ?_, h2⟩
  rw [hg.block b (Array.getElem?_eq_some_iff.1 h1).1 (fun e' => by
    obtain ⟨o, q1, q2⟩ := hr b e'.symm
    rw [h1] at q1; cases q1; cases q2)]
  exact h1
/-- what a round keeps: the name's box, and all that was told for good -/
def Told84 (G : Abs.Gh) (bn : Nat) (s : ByteArray) (W : World) : Prop := ∃ G1, Abs.GExt G G1 ∧ Abs.Own G1 [] W ∧ Abs.Rep G1 (.ip [vs s]) (.pointer (some ⟨bn, 0, none⟩))
theorem call83 {G : Abs.Gh} {bn : Nat} {s : ByteArray} {W : World} (hT : Told84 G bn s W) (v : Value) (l : List Nm) (hv : Abs.Rep G (.il 2 none (l.map brow)) v) (hl : l.length ≤ 1048576) :
    Calls Try.prog 83 #[v, .func (.func 105) #[] #[.pointer (some ⟨bn, 0, none⟩)]] W fun e W' => e = .returned (.int .i64 (idxN s l 0)) ∧ Told84 G bn s W' ∧ Below W.heap.size W W' := by
  obtain ⟨G1, hg, hO, hp⟩ := hT
  have hreps : Abs.Reps G1 [.il 2 none (l.map brow), .fn (.func 105) [] [.ip [vs s]]] #[v, .func (.func 105) #[] #[.pointer (some ⟨bn, 0, none⟩)]] := by
    refine ⟨rfl, fun i x hx => ?_⟩
    match i, hx with
    | 0, hx => simp only [List.getElem?_cons_zero, Option.some.injEq] at hx; exact ⟨v, rfl, hx ▸ hv.ext hg⟩
    | 1, hx =>
      simp only [List.getElem?_cons_succ, List.getElem?_cons_zero, Option.some.injEq] at hx
      refine ⟨_, rfl, hx ▸ .fn rfl (fun i h1 _ => by simp at h1) rfl (fun i h1 _ => ?_)⟩
      have : i = 0 := by simp at h1; exact h1
      subst this
      exact hp
    | i + 2, hx => simp at hx
  refine (index83p s none l hl G1 W _ hO hreps).mono ?_
  intro e W' he
  cases e with
  | returned c =>
    obtain ⟨G', R', r, h1, h2, h3, h4⟩ := he
    cases h4
    have := h3.v_inv
    subst this
    exact ⟨rfl, ⟨G', hg.trans h1.gext, h2, hp.ext h1.gext⟩, h1.os, h1.tape, h1.output, h1.size, fun b hb => (h1.same b hb (fun ⟨it, hi, _⟩ => by simp at hi)).1⟩
  | panicked ch => obtain ⟨G', R', x, c, h0, h1, h2, h3, h4⟩ := he; cases h4
  | outgrown => exact he.elim
theorem below_keeps {W W' : World} (h : Below W.heap.size W W') : KeepsOthers W W' :=
  ⟨h.size, fun k o hk _ => (h.block k (Array.getElem?_eq_some_iff.1 hk).1).trans hk⟩
theorem brows_cell : ∀ (l : List Nm) (i : Nat) (h : i < l.length), (l.map brow).flatten[i * 2 + 1]? = some (vi l[i].slot)
  | [], i, h => by simp at h
  | n :: l, 0, h => rfl
  | n :: l, i + 1, h => by
    have := brows_cell l i (by simpa using h)
    rw [show (i + 1) * 2 + 1 = (i * 2 + 1) + 1 + 1 by omega]
    exact this
theorem slot_cell {G : Abs.Gh} {W : World} (hO : Abs.Own G [] W) {v : Value} {l : List Nm} (hv : Abs.Rep G (.il 2 none (l.map brow)) v) {i : Nat} (hi : i < l.length) :
    ∃ b off cap, v = .slice (some ⟨b, off, none⟩) l.length cap ∧ W.cell? ⟨b, off + i * 2 + 1, none⟩ = some (.int .i64 l[i].slot) := by
  rcases hv.il_inv with ⟨h0, _⟩ | ⟨b, off, cap, hc, hr, hp, hle, hz, ht, hmax⟩
  · have : l = [] := by simpa using h0
    subst this; simp at hi
  · have h1 := hp _ _ (brows_cell l i hi)
    obtain ⟨cs, e, h2, h3, h4⟩ := hO.per b (fun h => by rw [h] at h1; simp at h1)
    obtain ⟨c, h5, h6, h7⟩ := h4 _ _ h1
    have h6 := h6.v_inv
    subst h6
    refine ⟨b, off, cap, by rw [hc, List.length_map], ?_⟩
    simp only [World.cell?, h2, Option.isSome_none, Bool.false_eq_true, if_false]
    rw [Nat.add_assoc]; exact h5
/-- a scope's value, with what it holds -/
abbrev Sc (G : Abs.Gh) : Type := { p : Value × List Nm // Abs.Rep G (.il 2 none (p.2.map brow)) p.1 ∧ p.2.length ≤ 1048576 }
theorem cell_lt {W : World} {a : Addr} {v : Value} (h : W.cell? a = some v) : a.block < W.heap.size := by
  obtain ⟨o, ho, _⟩ := cells_of_cell h
  exact (Array.getElem?_eq_some_iff.1 ho).1
theorem idx_found (s : ByteArray) : ∀ (l : List Nm) (k : Nat), 0 ≤ idxN s l k → ∃ j, j < l.length ∧ idxN s l k = ((k + j : Nat) : Int)
  | [], k, h => by simp [idxN] at h
  | n :: l, k, h => by
    by_cases hn : sameT s n = true
    · exact ⟨0, by simp, by simp only [idxN, if_pos hn]; rfl⟩
    · simp only [idxN, if_neg hn] at h ⊢
      obtain ⟨j, h1, h2⟩ := idx_found s l (k + 1) h
      exact ⟨j + 1, by simpa using h1, by rw [h2]; congr 1; omega⟩
theorem upto_scopes {G : Abs.Gh} (g : Nat → Sc G) (zs : List (List Nm)) (vals : Nat → Value) (hg : ∀ j (h : j < zs.length), (g j).1 = (vals j, zs[j])) (k : Nat) (hk : k ≤ zs.length) :
    (upto (fun k => ((zs.length : Int) - 1 - k, g (zs.length - 1 - k))) k).map (fun y : Int × Sc G => y.2.1.2) = zs.reverse.take k := by
  apply List.ext_getElem
  · simp [upto]; omega
  · intro i h1 h2
    have hi : i < k := by simp [upto] at h1; exact h1
    simp only [upto, List.getElem_map, List.getElem_range, List.getElem_take, List.getElem_reverse]
    rw [hg _ (by omega)]
theorem findR_none (s : ByteArray) : ∀ (l : List (List Nm)), (∀ x ∈ l, idxN s x 0 < 0) → findR s l = -1
  | [], _ => rfl
  | x :: l, h => by
    have := h x List.mem_cons_self
    unfold findR
    rw [if_neg (by omega)]
    exact findR_none s l fun y hy => h y (List.mem_cons_of_mem _ hy)
theorem findR_some (s : ByteArray) (x : List Nm) (r : List (List Nm)) (hx : 0 ≤ idxN s x 0) : ∀ (l : List (List Nm)), (∀ x ∈ l, idxN s x 0 < 0) → findR s (l ++ x :: r) = (x.getD (idxN s x 0).toNat default).slot
  | [], _ => by show findR s (x :: r) = _; unfold findR; rw [if_pos hx]
  | y :: l, h => by
    have := h y List.mem_cons_self
    show findR s (y :: (l ++ x :: r)) = _
    unfold findR
    rw [if_neg (by omega)]
    exact findR_some s x r hx l fun y hy => h y (List.mem_cons_of_mem _ hy)
set_option maxRecDepth 100000 in
set_option maxHeartbeats 4000000 in
theorem find84_w (G : Abs.Gh) (w : World) (hO : Abs.Own G [] w) (bC bZ cap : Nat) (s : ByteArray) (zs : List (List Nm)) (vals : Nat → Value) (hC : w.cell? ⟨bC, 9, none⟩ = some (.slice (some ⟨bZ, 0, none⟩) zs.length cap)) (hbZ : bZ < w.heap.size)
    (hZ : ∀ j, j < zs.length → w.cell? ⟨bZ, 0 + j, none⟩ = some (vals j)) (hrep : ∀ j (h : j < zs.length), Abs.Rep G (.il 2 none (zs[j].map brow)) (vals j)) (hlen : ∀ l ∈ zs, l.length ≤ 1048576) (hz : zs.length ≤ 1048576) :
    Calls Try.prog 84 #[.pointer (some ⟨bC, 0, none⟩), .string s] w fun e W' => e = .returned (.int .i64 (findR s zs.reverse)) ∧ Below w.heap.size w W' := by
  have hC2 : ∀ A B : Obj, ((w.alloc A).alloc B).cell? ⟨bC, 9, none⟩ = some (.slice (some ⟨bZ, 0, none⟩) zs.length cap) := fun A B => cell_alloc_l _ (cell_alloc_l _ hC)
  have hnil : Abs.Rep G (.il 2 none ((([] : List Nm)).map brow)) (.slice none 0 0) := .ilnil
  obtain ⟨g, hg⟩ : ∃ g : Nat → Sc G, ∀ j (h : j < zs.length), (g j).1 = (vals j, zs[j]) :=
    ⟨fun j => if h : j < zs.length then ⟨(vals j, zs[j]), hrep j h, hlen _ (List.getElem_mem h)⟩ else ⟨(.slice none 0 0, []), hnil, by simp⟩, fun j h => by dsimp only; rw [dif_pos h]⟩
  refine (callsIn_wide (n := 3)).1 ?_
  refine callsIn_of_wp_marks Try.func84 rfl trivial ?_ rfl
  simp only [Try.ntmps84, List.size_toArray, List.length_cons, List.length_nil, Nat.reduceAdd, Nat.reduceSub, Array.replicate_succ, Array.replicate_zero, List.push_toArray, List.append_toArray, List.nil_append, List.cons_append]
  gi_wp2_with (refine ⟨trivial, ?_⟩; gi_at_call 104; refine (back104 _ _ trivial rfl _ _ _ _).mono ?_; rintro e w' ⟨rfl, rfl⟩)
  have hB0 : Below w.heap.size w (((w.alloc (.cells #[.string s] 9)).alloc (.cells #[.int .i64 0] 3)).alloc (.cells #[.slice (some ⟨bZ, 0, none⟩) zs.length cap] 96)) := (((Below.refl _ w).alloc (Nat.le_refl _) _).alloc (by simp) _).alloc (by simp; omega) _
  have c2 := cell_new_l ((w.alloc (.cells #[.string s] 9)).alloc (.cells #[.int .i64 0] 3)) (.slice (some ⟨bZ, 0, none⟩) zs.length cap) 96
  have c1 := cell_alloc_l (.cells #[.slice (some ⟨bZ, 0, none⟩) zs.length cap] 96) (cell_new_l (w.alloc (.cells #[.string s] 9)) (.int .i64 0) 3)
  have f1 := frozen_alloc_l (.cells #[.slice (some ⟨bZ, 0, none⟩) zs.length cap] 96) (cell_new_l (w.alloc (.cells #[.string s] 9)) (.int .i64 0) 3) (frozen_new_l _ _ _)
  have hT0 : Told84 G w.heap.size s (((w.alloc (.cells #[.string s] 9)).alloc (.cells #[.int .i64 0] 3)).alloc (.cells #[.slice (some ⟨bZ, 0, none⟩) zs.length cap] 96)) := by
    obtain ⟨G1, t, h1, h2, h3, h4, h5⟩ := hO.newPer (Abs.OneMore.alloc w #[.string s] 9) [vs s] (by simp) (fun j x hx => by
      cases j with
      | zero => exact ⟨.string s, rfl, by cases hx; exact .v, rfl⟩
      | succ j => simp at hx)
    refine ⟨G1, h1.gext, own_grownBy (own_grownBy (h2.sub (List.nil_sublist _)) (World.grownBy_alloc _ _ none) (fun r e => by cases e)) (World.grownBy_alloc _ _ none) (fun r e => by cases e), .ip fun j x hx => ?_⟩
    rw [h5, Nat.zero_add]; exact hx
  simp only [World.size_alloc] at c1 c2 f1
  refine wpIn_rangeFunc_ownF rfl (by omega) (gf := 116) (lb := #[.pointer (some ⟨w.heap.size + 1 + 1, 0, none⟩)]) rfl trivial (enters_of Try.func116 (by kernel_rfl) rfl)
    (back_stops (fun x : Sc G => x.1.1) Fence.wide (3 - 1) trivial rfl (by omega) (w.heap.size + 1 + 1) bZ 0 zs.length cap g hz _ (by simp; omega) (by simp) c2 (fun j hj => by rw [hg j hj]; exact (hB0.cell (p := ⟨bZ, 0 + j, none⟩) hbZ).trans (hZ j hj)))
    belowK_t (belowK_b (by simp)) (Below.refl _ _) (fun _ => rfl)
    (fun pre W => ((∀ y ∈ pre, idxN s y.2.1.2 0 < 0) ∧ W.cell? ⟨w.heap.size + 1, 0, none⟩ = some (.int .i64 0) ∧ W.frozen? ⟨w.heap.size + 1, 0, none⟩ = false ∧ Told84 G w.heap.size s W ∧ w.heap.size + 3 ≤ W.heap.size) ∧ Below w.heap.size w W)
    (fun c pre W => (c = .ret ∧ ∃ pre' x, pre = pre' ++ [x] ∧ (∀ y ∈ pre', idxN s y.2.1.2 0 < 0) ∧ 0 ≤ idxN s x.2.1.2 0 ∧ W.cell? ⟨w.heap.size + 1, 0, none⟩ = some (.int .i64 (x.2.1.2.getD (idxN s x.2.1.2 0).toNat default).slot)) ∧ Below w.heap.size w W)
    (OwnFrom.and (Own.from (fun s A B row hs hg hr => ⟨hs.1, cell_kept hs.2.1 hg hr, (frozen_kept hs.2.1 hg hr).trans hs.2.2.1, by obtain ⟨G1, q1, q2, q3⟩ := hs.2.2.2.1; exact ⟨G1, q1, own_grownBy q2 hg hr, q3⟩, Nat.le_trans hs.2.2.2.2 hg.size⟩) _) (ownFrom_below (Nat.le_refl _) (by simp; omega)))
    (fun c => OwnFrom.and (Own.from (fun s A B row hs hg hr => ⟨hs.1, by obtain ⟨p', x, q1, q2, q3, q4⟩ := hs.2; exact ⟨p', x, q1, q2, q3, cell_kept q4 hg hr⟩⟩) _) (ownFrom_below (Nat.le_refl _) (by simp; omega)))
    ⟨⟨by simp, c1, f1, hT0, by simp⟩, hB0⟩
    (fun x => { tmps := #[.pointer (some ⟨bC, 0, none⟩), .string s, undef, .pointer (some ⟨w.heap.size, 0, none⟩), .pointer (some ⟨w.heap.size + 1, 0, none⟩), undef, x.2.1.1, undef, .pointer (some ⟨bC, 0, none⟩), .pointer (some ⟨bC, 0, none⟩), .pointer (some ⟨bC, 9, none⟩), .slice (some ⟨bZ, 0, none⟩) zs.length cap,
      .func (.func 116) #[] #[.pointer (some ⟨w.heap.size + 1 + 1, 0, none⟩)], .int .i64 x.1, x.2.1.1, undef, undef, undef, undef, undef, undef, undef, undef, undef, undef], defers := [] }) ?assign ?body ?done ?stop
  case assign =>
    intro l x W K hK
    gi_wp2
    exact hK
  case body =>
    rintro l pre ⟨xi, ⟨⟨v, l0⟩, hx1, hx2⟩⟩ W ⟨⟨hno, hcr, hfr, hT, hsz⟩, hB⟩ _
    dsimp only at hx1 hx2 ⊢
    have hcall := call83 hT v l0 hx1 hx2
    by_cases h0 : 0 ≤ idxN s l0 0
    · obtain ⟨k, hk, hik⟩ := idx_found s l0 0 h0
      rw [Nat.zero_add] at hik
      rw [hik] at hcall
      have hT' := hT
      obtain ⟨G1, hg1, hO1, hp1⟩ := hT'
      obtain ⟨b, off, cp, rfl, hcell⟩ := slot_cell hO1 (hx1.ext hg1) hk
      have hcb := cell_lt hcell
      have hcl := cell_lt hcr
      gi_wp2_with (refine ⟨trivial, ?_⟩; gi_at_call 83; refine (CallsIn.inRound l (callsIn_wide.2 hcall)).mono ?_; rintro e W2 ⟨rfl, hT2, hB2⟩; have hcell2 := (hB2.cell (p := ⟨b, off + k * 2 + 1, none⟩) hcb).trans hcell; have hcr2 := (hB2.cell (p := ⟨w.heap.size + 1, 0, none⟩) hcl).trans hcr; have hfr2 := (hB2.frozen (p := ⟨w.heap.size + 1, 0, none⟩) hcl).trans hfr)
      exact ⟨(below_keeps hB2).trans (KeepsOthers.setCell _ _ _), ⟨rfl, pre, _, rfl, hno, h0, by
        rw [World.cell?_setCell_same' _ _ _ (by rw [hcr2]; rfl)]
        simp only [hik]
        simp [hk]⟩, (hB.trans (hB2.mono hB.size)).setCell (p := ⟨w.heap.size + 1, 0, none⟩) (by simp) _⟩
    · have h1 : idxN s l0 0 < 0 := by omega
      have hcl := cell_lt hcr
      gi_wp2_with (refine ⟨trivial, ?_⟩; gi_at_call 83; refine (CallsIn.inRound l (callsIn_wide.2 hcall)).mono ?_; rintro e W2 ⟨rfl, hT2, hB2⟩)
      have hcr2 := (hB2.cell (p := ⟨w.heap.size + 1, 0, none⟩) hcl).trans hcr
      have hfr2 := (hB2.frozen (p := ⟨w.heap.size + 1, 0, none⟩) hcl).trans hfr
      exact ⟨below_keeps hB2, hB2.mono (by simp; omega), ⟨fun y hy => (List.mem_append.1 hy).elim (hno y) (fun e => by rw [List.mem_singleton] at e; subst e; exact h1), hcr2, hfr2, hT2, Nat.le_trans hsz hB2.size⟩, hB.trans (hB2.mono hB.size)⟩
  case done =>
    rintro D ys W hD rfl ⟨⟨hno, hcr, hfr, hT, hsz⟩, hB⟩ hK
    gi_wp2
    have hK' := (KeepsOthers.setCell W ⟨w.heap.size + 1, 0, none⟩ (.int .i64 (-1))).same D _ hK rfl
    refine ⟨by simp, .inl ⟨_, _, rfl, run_takeDeferred hK', ?_⟩⟩
    have hc5 := cell_kept (World.cell?_setCell_same' W ⟨w.heap.size + 1, 0, none⟩ (.int .i64 (-1)) (by rw [hcr]; rfl)) (grownBy_putObj' _ D (.deferred none)) (fun r e => by cases e; exact ⟨_, hK', rfl⟩)
    have hnone : findR s zs.reverse = -1 := findR_none s _ fun x hx => by
      have hm := upto_scopes g zs vals hg zs.length (Nat.le_refl _)
      rw [List.take_of_length_le (by simp)] at hm
      rw [← hm] at hx
      obtain ⟨y, hy, rfl⟩ := List.mem_map.1 hx
      exact hno y hy
    refine ⟨.int .i64 (-1), ?_, by rw [hnone], (hB.setCell (p := ⟨w.heap.size + 1, 0, none⟩) (by simp) _).trans (belowK_b (w := w) (Nat.le_refl _) _ D _ _ (by simp at hD; omega) hK' rfl rfl)⟩
    simp [results, Try.f84, go_sem, hc5]
  case stop =>
    rintro D c pre W hD ⟨k, hk, hpre⟩ ⟨⟨rfl, p', x, hpx, hno, h0, hcr⟩, hB⟩ hK
    gi_wp2
    refine ⟨by simp, .inl ⟨_, _, rfl, run_takeDeferred hK, ?_⟩⟩
    have hc5 := cell_kept hcr (grownBy_putObj' _ D (.deferred none)) (fun r e => by cases e; exact ⟨_, hK, rfl⟩)
    have hsome : findR s zs.reverse = (x.2.1.2.getD (idxN s x.2.1.2 0).toNat default).slot := by
      have hm := upto_scopes g zs vals hg k hk
      rw [← hpre, hpx, List.map_append] at hm
      have e : zs.reverse = p'.map (fun y : Int × Sc G => y.2.1.2) ++ x.2.1.2 :: zs.reverse.drop k := by
        conv => lhs; rw [← List.take_append_drop k zs.reverse, ← hm]
        simp
      rw [e]
      exact findR_some s _ _ h0 _ fun z hz => by
        obtain ⟨y, hy, rfl⟩ := List.mem_map.1 hz
        exact hno y hy
    refine ⟨_, ?_, by rw [hsome], hB.trans (belowK_b (w := w) (Nat.le_refl _) W D _ _ (by simp at hD; omega) hK rfl rfl)⟩
    simp [results, Try.f84, go_sem, hc5]
end Go.Proofs.Ytaadamobapnfbaa
set_option linter.unusedVariables false
set_option linter.unusedSimpArgs false
namespace Go.Proofs.Ytaadamobapnfbaa
open Go Go.Abs
theorem own_below {G : Gh} {R : List Abs.Item} {W W' : World} (h : Abs.Own G R W) (hb : Go.RowKit.Below W.heap.size W W') : Ext G R W G R W' ∧ Abs.Own G R W' := by
  have hold : ∀ b, b < W.heap.size → W'.heap[b]? = W.heap[b]? := hb.block
  have hsz := hb.size
  have hat : ∀ (b : Nat) (o : Obj), W.heap[b]? = some o → W'.heap[b]? = some o := fun b o hb => (hold b (Array.getElem?_eq_some_iff.1 hb).1).trans hb
  refine ⟨⟨hb.os, hb.tape, hb.output, .refl G, hsz, fun b hb _ => ⟨hold b hb, rfl⟩, fun _ _ => rfl, fun b hb => .inl hb, Nat.le_refl _, fun _ _ => rfl, fun _ _ => rfl⟩, ?_, ?_, h.apart, ?_, h.names, ?_, ?_⟩
  · intro b hb
    obtain ⟨cs, e, h1, h2⟩ := h.per b hb
    exact ⟨cs, e, hat b _ h1, h2⟩
  · intro it hi
    have hok := h.items it hi
    cases it with
    | mu m cells =>
      rcases hok with hok | ⟨b, cs, e, h1, h2, h3⟩
      · exact .inl hok
      · exact .inr ⟨b, cs, e, h1, hat b _ h2, h3⟩
    | tk t =>
      refine ⟨hok.1, fun b n hb => ?_⟩
      obtain ⟨h1, cs, e, h2, h3⟩ := hok.2 b n hb
      exact ⟨h1, cs, e, hat b _ h2, h3⟩
    | ob m φ =>
      obtain ⟨b, o, h1, h2, h3⟩ := hok
      exact ⟨b, o, h1, hat b _ h2, h3⟩
  · intro b hb; exact h.size b (Nat.le_trans hsz hb)
  · intro m b hb; exact Nat.lt_of_lt_of_le (h.locs m b hb) hsz
  · intro t p hp; exact Nat.lt_of_lt_of_le (h.toks t p hp) hsz
def zcell (p : Nat × List Nm) : AV := .il 2 (some p.1) (p.2.map brow)
theorem cfind84 (s : ByteArray) (mC mZ : Nat) (cells : List AV) (zs : List (Nat × List Nm)) (h9 : cells[9]? = some (.sl 1 mZ 0 zs.length)) (hpos : 0 < zs.length) (hz : zs.length ≤ 1048576) (hlen : ∀ p ∈ zs, p.2.length ≤ 1048576) :
    ACalls Try.prog 84 [.mp mC 0, vs s] [.mu mC cells, .mu mZ (zs.map zcell)] (RV (vi (findR s (zs.map Prod.snd).reverse)) [.mu mC cells, .mu mZ (zs.map zcell)]) := by
  intro G W cargs hO hR
  obtain ⟨c0, hc0, hr0⟩ := hR.2 0 _ rfl
  obtain ⟨c1, hc1, hr1⟩ := hR.2 1 _ rfl
  have hsz := hR.1
  obtain ⟨bC, rfl, hlC⟩ := hr0.mp_inv
  have := hr1.v_inv
  subst this
  have hcargs : cargs = #[.pointer (some ⟨bC, 0, none⟩), .string s] := by
    apply Array.ext_getElem?
    intro i
    match i with
    | 0 => exact hc0
    | 1 => exact hc1
    | i + 2 => rw [Array.getElem?_eq_none (by simp at hsz; omega), Array.getElem?_eq_none (by simp)]
  subst hcargs
  rcases hO.items _ (show Abs.Item.mu mC cells ∈ _ by simp) with ⟨h3, h4, _⟩ | ⟨b', cs, e, q1, q2, q3, q4, q5, q6⟩
  · rw [hlC] at h4; cases h4
  rw [hlC] at q1; injection q1 with q1; subst q1
  obtain ⟨v9, p1, p2, p3⟩ := q6 9 _ h9
  rcases p2.sl_inv with ⟨h2, _⟩ | ⟨bZ, cap, rfl, hl, hcap, hz', hmax⟩
  · omega
  rcases hO.items _ (show Abs.Item.mu mZ (zs.map zcell) ∈ _ by simp) with ⟨h3, h4, _⟩ | ⟨b', csZ, eZ, u1, u2, u3, u4, u5, u6⟩
  · rw [hl] at h4; cases h4
  rw [hl] at u1; injection u1 with u1; subst u1
  have hC : W.cell? ⟨bC, 9, none⟩ = some (.slice (some ⟨bZ, 0, none⟩) (zs.map Prod.snd).length cap) := by
    simp only [World.cell?, q2, Option.isSome_none, Bool.false_eq_true, if_false, List.length_map]
    exact p1
  have hbZ := hO.locs mZ bZ hl
  have hv : ∀ j, ∃ v, j < zs.length → (W.cell? ⟨bZ, 0 + j, none⟩ = some v ∧ ∀ (h : j < (zs.map Prod.snd).length), Rep G (.il 2 none ((zs.map Prod.snd)[j].map brow)) v) := by
    intro j
    by_cases hj : j < zs.length
    · obtain ⟨v, w1, w2, w3⟩ := u6 j (zcell zs[j]) (by rw [List.getElem?_map, List.getElem?_eq_getElem hj]; rfl)
      refine ⟨v, fun _ => ⟨?_, fun h => ?_⟩⟩
      · simp only [World.cell?, u2, Option.isSome_none, Bool.false_eq_true, if_false, Nat.zero_add]
        exact w1
      · rw [List.getElem_map]
        exact AV.Le.tok 2 _ _ G v w2
    · exact ⟨undef, fun h => absurd h hj⟩
  obtain ⟨vals, hvals⟩ := Classical.axiomOfChoice hv
  refine (find84_w G W (hO.sub (List.nil_sublist _)) bC bZ cap s (zs.map Prod.snd) vals hC hbZ (fun j hj => (hvals j (by simpa using hj)).1) (fun j hj => (hvals j (by simpa using hj)).2 hj)
    (fun l hl => by obtain ⟨p, hp, rfl⟩ := List.mem_map.1 hl; exact hlen p hp) (by simpa using hz)).mono ?_
  rintro en W' ⟨rfl, hB⟩
  obtain ⟨hE, hO'⟩ := own_below hO hB
  exact ⟨G, _, _, hE, hO', .v, .mk⟩
/-! names looked for, on data -/
theorem idxN_find (s : ByteArray) : ∀ (l : List Nm) (k : Nat), (∃ j, ∃ h : j < l.length, idxN s l k = ((k + j : Nat) : Int) ∧ l.find? (sameT s) = some l[j]) ∨ (idxN s l k = -1 ∧ l.find? (sameT s) = none)
  | [], k => .inr ⟨rfl, rfl⟩
  | n :: l, k => by
    by_cases hn : sameT s n = true
    · exact .inl ⟨0, by simp, by simp only [idxN, if_pos hn]; rfl, by simp [hn]⟩
    · rcases idxN_find s l (k + 1) with ⟨j, h1, h2, h3⟩ | ⟨h2, h3⟩
      · exact .inl ⟨j + 1, by simpa using h1, by simp only [idxN, if_neg hn, h2]; congr 1; omega, by simp [List.find?_cons, hn, h3]⟩
      · exact .inr ⟨by simp only [idxN, if_neg hn, h2], by simp [List.find?_cons, hn, h3]⟩
/-- the texts of one scope differ -/
def Uniq (l : List Nm) : Prop := l.Pairwise fun a b => (a.text.data.toList == b.text.data.toList) = false
theorem findL_none (s : ByteArray) : ∀ (l : List Nm) (r : Int), (∀ n ∈ l, sameT s n = false) → findL s l r = r
  | [], r, _ => rfl
  | n :: l, r, h => by
    have := h n List.mem_cons_self
    unfold sameT at this
    simp only [findL, this]
    exact findL_none s l r fun x hx => h x (List.mem_cons_of_mem _ hx)
theorem findL_scope (s : ByteArray) : ∀ (l : List Nm) (r : Int), Uniq l → findL s l r = match l.find? (sameT s) with | some n => n.slot | none => r
  | [], r, _ => rfl
  | n :: l, r, h => by
    obtain ⟨h1, h2⟩ := List.pairwise_cons.1 h
    by_cases hn : sameT s n = true
    · have hn' := hn
      unfold sameT at hn'
      simp only [findL, hn', if_true, List.find?_cons, hn]
      refine findL_none s l _ fun x hx => ?_
      have e := h1 x hx
      unfold sameT
      rw [beq_iff_eq] at hn'
      rw [← hn']
      rw [Bool.eq_false_iff] at e ⊢
      intro h'; apply e
      rw [beq_iff_eq] at h' ⊢
      exact h'.symm
    · have hn' : (n.text.data.toList == s.data.toList) = false := by unfold sameT at hn; simpa using hn
      have hn2 : sameT s n = false := by simpa using hn
      simp only [findL, hn', Bool.false_eq_true, if_false, List.find?_cons, hn2]
      exact findL_scope s l r h2
theorem findL_append (s : ByteArray) : ∀ (l m : List Nm) (r : Int), findL s (l ++ m) r = findL s m (findL s l r)
  | [], m, r => rfl
  | n :: l, m, r => by simp only [List.cons_append, findL]; exact findL_append s l m _
theorem findR_eq (s : ByteArray) : ∀ (r : List (List Nm)), (∀ l ∈ r, Uniq l) → findL s r.reverse.flatten (-1) = findR s r
  | [], _ => rfl
  | l :: r, h => by
    have ih := findR_eq s r fun x hx => h x (List.mem_cons_of_mem _ hx)
    rw [List.reverse_cons, List.flatten_append, findL_append, ih]
    simp only [List.flatten_cons, List.flatten_nil, List.append_nil]
    rw [findL_scope s l _ (h l List.mem_cons_self)]
    rw [show findR s (l :: r) = if 0 ≤ idxN s l 0 then (l.getD (idxN s l 0).toNat default).slot else findR s r from rfl]
    rcases idxN_find s l 0 with ⟨j, h1, h2, h3⟩ | ⟨h2, h3⟩
    · rw [h3, if_pos (by rw [h2]; omega), h2]
      simp [h1]
    · rw [h3, if_neg (by rw [h2]; decide)]
end Go.Proofs.Ytaadamobapnfbaa
set_option linter.unusedVariables false
set_option linter.unusedSimpArgs false
set_option maxRecDepth 100000
namespace Go.Proofs.Ytaadamobapnfbaa
open Go Go.Abs
structure Mk where
  mC : Nat
  mT : Nat
  mS : Nat
  mP : Nat
  mF : Nat
  mL : Nat
/-- the scopes: where they lie, the rights to append, the outer ones, the innermost -/
structure Zt where
  mZ : Nat
  τ : Nat
  τz : Nat
  zs : List (Nat × List Nm)
  top : List Nm
def Zt.all (z : Zt) : List (Nat × List Nm) := z.zs ++ [(z.τz, z.top)]
def ckCells (c : CS) (k : Mk) (z : Zt) : List AV :=
  [.il 9 none (c.t.exprs.map Ex.cells), .il 9 none (c.t.stmts.map St.cells), .il 6 none (c.t.funcs.map Fu.cells), .sl 1 k.mT 0 c.type.length, .sl 1 k.mS 0 c.slot.length, .sl 1 k.mP 0 c.put.length, .sl 1 k.mF 0 c.func.length, .sl 1 k.mL 0 c.slots.length,
    vi c.f, .sl 1 z.mZ 0 z.all.length, vi c.loops]
def ckItems (c : CS) (k : Mk) (z : Zt) : List Abs.Item :=
  [.mu k.mC (ckCells c k z), .mu z.mZ (z.all.map zcell), .mu k.mT (c.type.map vi), .mu k.mS (c.slot.map vi), .mu k.mP (c.put.map vi), .mu k.mF (c.func.map vi), .mu k.mL (c.slotCells z.τ), .tk z.τ, .tk z.τz]
structure Ckz (c : CS) (z : Zt) : Prop where
  names : c.names = (z.all.map Prod.snd).flatten
  block : c.block = z.zs.length
  tops : ∀ n ∈ z.top, n.block = z.zs.length
  outs : ∀ n ∈ (z.zs.map Prod.snd).flatten, n.block < z.zs.length
  uniq : ∀ l ∈ z.all.map Prod.snd, Uniq l
  deep : z.zs.length ≤ 1048000
theorem Zt.all_len (z : Zt) : z.all.length = z.zs.length + 1 := by simp [Zt.all]
theorem Ckz.len {c : CS} {z : Zt} (h : Ckz c z) (ho : c.ok) : ∀ p ∈ z.all, p.2.length ≤ 1048576 := fun p hp => by
  have h1 : p.2.length ≤ c.names.length := by
    rw [h.names]
    exact (List.sublist_flatten_of_mem (List.mem_map.2 ⟨p, hp, rfl⟩)).length_le
  have := ho.names
  have := ho.n64
  omega
theorem ckfind {c : CS} {z : Zt} (h : Ckz c z) (ho : c.ok) (k : Mk) (s : ByteArray) :
    ACalls Try.prog 84 [.mp k.mC 0, vs s] [.mu k.mC (ckCells c k z), .mu z.mZ (z.all.map zcell)] (RV (vi (c.find s)) [.mu k.mC (ckCells c k z), .mu z.mZ (z.all.map zcell)]) := by
  have hl := z.all_len
  have hd := h.deep
  have := cfind84 s k.mC z.mZ (ckCells c k z) z.all rfl (by omega) (by omega) (h.len ho)
  rw [← findR_eq s _ (fun l hl => h.uniq l (by simpa using hl)), List.reverse_reverse, ← h.names] at this
  exact this
/-- children lie ahead; what a unary's sign is -/
def TreeX (t : Tree) : Prop := TreeWf t ∧ ∀ (i : Nat) (x : Ex), t.exprs[i]? = some x → x.kind = 8 → x.op.data.toList = [45] ∨ x.op.data.toList = [33]
inductive RCi (k : Mk) (z : Zt) (r : CS × Int) : AOut → List Abs.Item → Prop
  | ok (h : r.1.code = 0) : RCi k z r (.ret (vi r.2)) (ckItems r.1 k z)
  | bad (h : r.1.code ≠ 0) (R : List Abs.Item) : RCi k z r (.pan (wrongV r.1.at_ r.1.code)) R
theorem need_yes (c : CS) (a k : Int) : c.need true a k = c := by unfold CS.need; rw [if_neg (by simp)]
theorem need_no (c : CS) (h : c.code = 0) (a k : Int) : c.need false a k = { c with code := k, at_ := a } := by unfold CS.need; rw [if_pos ⟨h, rfl⟩]
theorem RCi.no {k : Mk} {z : Zt} {r : CS × Int} {c : CS} {ok : Bool} {a n v : Int} (hc : c.code = 0) (e : r = (c.need ok a n, v)) (hok : ok = false) (hn : n ≠ 0) (R : List Abs.Item) : RCi k z r (.pan (wrongV a n)) R := by
  subst e; subst hok
  have e2 := need_no c hc a n
  have := RCi.bad (k := k) (z := z) (r := (c.need false a n, v)) (by rw [e2]; exact hn) R
  rw [e2] at this ⊢
  exact this
theorem RCi.yes {k : Mk} {z : Zt} {r : CS × Int} {c : CS} {ok : Bool} {a n v : Int} (hc : c.code = 0) (e : r = (c.need ok a n, v)) (hok : ok = true) : RCi k z r (.ret (vi v)) (ckItems c k z) := by
  subst e; subst hok
  have := RCi.ok (k := k) (z := z) (r := (c.need true a n, v)) (by rw [need_yes]; exact hc)
  rw [need_yes] at this ⊢
  exact this
theorem cslot_ok (c : CS) (k : Mk) (z : Zt) (hz : Ckz c z) (ho : c.ok) (h0 : c.code = 0) (s : ByteArray) (array : Bool) (fr to : Int) :
    ACalls Try.prog 67 [.mp k.mC 0, vs s, .v (.bool array), .agg [vi fr, vi to]] (ckItems c k z) (RCi k z (c.slotOf s array fr)) := by
  have hf := ckfind hz ho k s
  have hfind := ho.find_lt s
  have hcur := slotCells_cur ho z.τ
  have hf0 := ho.f0
  have hf1 := ho.f1
  have hn := ho.names
  have h64 := ho.n64
  refine ACalls.of_code (c := _) Try.func67 rfl Try.ntmps67 (Nat.le_of_ble_eq_true rfl) ?_
  refine ACode.seq (ACode.region ?_)
  refine ASeq.op rfl rfl (AOp.boxP rfl rfl rfl (fun _ => rfl) (fun _ => ?_))
  refine ASeq.q rfl rfl (QOp.assign rfl rfl) ?_
  refine ASeq.nil ?_
  rename_i m7
  refine ACode.seq (ACode.region ?_)
  refine ASeq.q rfl rfl (QOp.move rfl rfl) ?_
  refine ASeq.q rfl rfl (QOp.move rfl rfl) ?_
  refine ASeq.op rfl rfl (AOp.callP 2 rfl (by kernel_rfl) rfl rfl rfl (hf) ?_ (by rintro _ _ ⟨⟩))
  rintro _ _ ⟨⟩
  refine ASeq.q rfl rfl (QOp.assign rfl rfl) ?_
  refine ASeq.nil ?_
  refine ACode.seq ?_
  refine ACode.drawn [[], [0], [0, 1], [0, 1, 2], [0, 1, 2, 3], [0, 1, 2, 3, 4], [0, 1, 2, 3, 4, 5], [0, 1, 2, 3, 4, 5, 6], [0, 1, 2], [0, 1, 2, 8], [0, 1, 2, 8, 9], [0, 1, 2, 8, 9, 10], [0, 1, 2, 3, 4, 5, 6, 7, 8, 9, 10, 11], [0, 1, 2, 3, 4, 5, 6, 7, 8, 9, 10, 11, 12], [0, 1, 2], [0, 1, 2, 3, 4, 5, 6, 7, 8, 9, 10, 11, 12, 13, 14], [0, 1, 2, 3, 4, 5, 6, 7, 8, 9, 10, 11, 12, 13, 14, 15], [0, 1, 2, 3, 4, 5, 6, 7, 8, 9, 10, 11, 12, 13, 14, 15, 16], [0, 1, 2], [0, 1, 2, 3, 4, 5, 6, 7, 8, 9, 10, 11, 12, 13, 14, 15, 16, 17, 18], [0, 1, 2, 3, 4, 5, 6, 7, 8, 9, 10, 11, 12, 13, 14, 15, 16, 17, 18, 19], [], [0, 1, 2, 3, 4, 5, 6, 7, 8, 9, 10, 11, 12, 13, 14, 15, 16, 17, 18, 19, 20, 21]] (by kernel_rfl) mixed ?_
  refine DAny.qu 0 rfl rfl (by kernel_rfl) rfl (fun _ => .does _ _ rfl (.none rfl) (QOp.move rfl rfl)) ?_
  refine DAny.qu 1 rfl rfl (by kernel_rfl) rfl (fun _ => .does _ _ rfl (.none rfl) (QOp.cmp rfl rfl rfl rfl)) ?_
  refine DAny.qu 2 rfl rfl (by kernel_rfl) rfl (fun _ => .does _ _ rfl (.none rfl) (QOp.move rfl rfl)) ?_
  refine DAny.ld 21 rfl rfl (by kernel_rfl) rfl (.does _ _ rfl (.none rfl) (QOp.loadM 9 rfl rfl rfl (tok _ rfl) rfl)) ?_
  -- STOP at 3 (listed 0,1,2,21)
  refine DAny.split 15 (decide (c.find s ≥ 0)) rfl (fun hb => ?_) (fun hb => ?_)
  · have hge : 0 ≤ c.find s := by simpa using hb
    have hget := cur_get (c := c) hge (by omega)
    have e : c.slotOf s array fr = (c.need ((c.cur.getD (c.find s).toNat 0 == 3) == array) fr 6, c.find s) := by unfold CS.slotOf CS.slotOk; rw [hb]; rfl
    refine DAny.qu 3 rfl rfl (by kernel_rfl) rfl (fun _ => .does _ _ rfl (by exact .yes _ _ _ rfl rfl rfl) (QOp.move rfl rfl)) ?_
    refine DAny.qu 4 rfl rfl (by kernel_rfl) rfl (fun _ => .does _ _ rfl (by exact .yes _ _ _ rfl rfl rfl) (QOp.nilCheckM rfl rfl)) ?_
    refine DAny.qu 5 rfl rfl (by kernel_rfl) rfl (fun _ => .does _ _ rfl (by exact .yes _ _ _ rfl rfl rfl) (QOp.fieldM rfl rfl (tok _ rfl) rfl rfl (by decide) rfl)) ?_
    refine DAny.qu 6 rfl rfl (by kernel_rfl) rfl (fun _ => .does _ _ rfl (by exact .yes _ _ _ rfl rfl rfl) (QOp.fieldM rfl rfl (tok _ rfl) rfl rfl (by decide) rfl)) ?_
    refine DAny.ld 7 rfl rfl (by kernel_rfl) rfl (.does _ _ rfl (by exact .yes _ _ _ rfl rfl rfl) (QOp.loadM 0 rfl rfl rfl (tok _ rfl) rfl)) ?_
    refine DAny.qu 8 rfl rfl (by kernel_rfl) rfl (fun _ => .does _ _ rfl (by exact .yes _ _ _ rfl rfl rfl) (QOp.move rfl rfl)) ?_
    refine DAny.qu 9 rfl rfl (by kernel_rfl) rfl (fun _ => .does _ _ rfl (by exact .yes _ _ _ rfl rfl rfl) (QOp.nilCheckM rfl rfl)) ?_
    refine DAny.qu 10 rfl rfl (by kernel_rfl) rfl (fun _ => .does _ _ rfl (by exact .yes _ _ _ rfl rfl rfl) (QOp.fieldM rfl rfl (tok _ rfl) rfl rfl (by decide) rfl)) ?_
    refine DAny.ld 11 rfl rfl (by kernel_rfl) rfl (.does _ _ rfl (by exact .yes _ _ _ rfl rfl rfl) (QOp.loadM 0 rfl rfl rfl (tok _ rfl) rfl)) ?_
    refine DAny.qu 12 rfl rfl (by kernel_rfl) rfl (fun _ => .does _ _ rfl (by exact .yes _ _ _ rfl rfl rfl) (QOp.indexM rfl rfl rfl (tok _ rfl) rfl (tok _ rfl) (by omega) (by omega) rfl)) ?_
    refine DAny.ld 13 rfl rfl (by kernel_rfl) rfl (.does _ _ rfl (by exact .yes _ _ _ rfl rfl rfl) (QOp.loadAt 6 rfl rfl rfl (tok _ rfl) rfl (by assumption))) ?_
    refine DAny.qu 14 rfl rfl (by kernel_rfl) rfl (fun _ => .does _ _ rfl (by exact .yes _ _ _ rfl rfl rfl) (QOp.move rfl rfl)) ?_
    refine DAny.qu 15 rfl rfl (by kernel_rfl) rfl (fun _ => .does _ _ rfl (by exact .yes _ _ _ rfl rfl rfl) (QOp.indexI rfl rfl rfl (tok _ rfl) rfl (tok _ rfl) (by omega) (by assumption))) ?_
    refine DAny.qu 16 rfl rfl (by kernel_rfl) rfl (fun _ => .does _ _ rfl (by exact .yes _ _ _ rfl rfl rfl) (QOp.loadI rfl rfl (tok _ rfl) rfl)) ?_
    refine DAny.qu 17 rfl rfl (by kernel_rfl) rfl (fun _ => .does _ _ rfl (by exact .yes _ _ _ rfl rfl rfl) (QOp.cmp rfl rfl rfl rfl)) ?_
    refine DAny.qu 18 rfl rfl (by kernel_rfl) rfl (fun _ => .does _ _ rfl (by exact .yes _ _ _ rfl rfl rfl) (QOp.move rfl rfl)) ?_
    refine DAny.qu 19 rfl rfl (by kernel_rfl) rfl (fun _ => .does _ _ rfl (by exact .yes _ _ _ rfl rfl rfl) (QOp.cmpBool rfl rfl rfl (tok _ rfl) rfl rfl)) ?_
    refine DAny.qu 20 rfl rfl (by kernel_rfl) rfl (fun _ => .does _ _ rfl (.none rfl) (QOp.pickT rfl rfl rfl)) ?_
    refine DAny.ef 22 rfl (by kernel_rfl) (.none rfl) rfl rfl (AOp.callP 0 rfl (by kernel_rfl) rfl rfl rfl (cneed_ok _ fr to 6) ?_ ?_)
    rotate_left
    · (rintro _ _ (⟨⟩ | ⟨hbad⟩); simp only [AExit.then, AExit.inBlock]; exact bodyQ_pan 0 rfl (.no h0 e hbad (by decide) _))
    rintro _ _ ⟨hok⟩
    refine ⟨(by ((exact AllQ.nil))), ?_⟩
    refine DAny.done (by kernel_rfl) ?_
    refine ACode.seq (ACode.region ?_)
    refine ASeq.q rfl rfl (QOp.move rfl rfl) ?_
    refine ASeq.q rfl rfl (QOp.assign rfl rfl) ?_
    refine ASeq.nil ?_
    refine ACode.ret ?_
    refine bodyQ_ret 9 (.tmp rfl .nil) rfl ?_
    exact .yes h0 e hok
  · have e : c.slotOf s array fr = (c.need false fr 6, c.find s) := by unfold CS.slotOf CS.slotOk; rw [hb]; rfl
    refine DAny.qu 3 rfl rfl (by kernel_rfl) rfl (fun _ => .passed _ rfl (.no _ _ _ rfl rfl rfl rfl)) ?_
    refine DAny.qu 4 rfl rfl (by kernel_rfl) rfl (fun _ => .passed _ rfl (.no _ _ _ rfl rfl rfl rfl)) ?_
    refine DAny.qu 5 rfl rfl (by kernel_rfl) rfl (fun _ => .passed _ rfl (.no _ _ _ rfl rfl rfl rfl)) ?_
    refine DAny.qu 6 rfl rfl (by kernel_rfl) rfl (fun _ => .passed _ rfl (.no _ _ _ rfl rfl rfl rfl)) ?_
    refine DAny.qu 7 rfl rfl (by kernel_rfl) rfl (fun _ => .passed _ rfl (.no _ _ _ rfl rfl rfl rfl)) ?_
    refine DAny.qu 8 rfl rfl (by kernel_rfl) rfl (fun _ => .passed _ rfl (.no _ _ _ rfl rfl rfl rfl)) ?_
    refine DAny.qu 9 rfl rfl (by kernel_rfl) rfl (fun _ => .passed _ rfl (.no _ _ _ rfl rfl rfl rfl)) ?_
    refine DAny.qu 10 rfl rfl (by kernel_rfl) rfl (fun _ => .passed _ rfl (.no _ _ _ rfl rfl rfl rfl)) ?_
    refine DAny.qu 11 rfl rfl (by kernel_rfl) rfl (fun _ => .passed _ rfl (.no _ _ _ rfl rfl rfl rfl)) ?_
    refine DAny.qu 12 rfl rfl (by kernel_rfl) rfl (fun _ => .passed _ rfl (.no _ _ _ rfl rfl rfl rfl)) ?_
    refine DAny.qu 13 rfl rfl (by kernel_rfl) rfl (fun _ => .passed _ rfl (.no _ _ _ rfl rfl rfl rfl)) ?_
    refine DAny.qu 14 rfl rfl (by kernel_rfl) rfl (fun _ => .passed _ rfl (.no _ _ _ rfl rfl rfl rfl)) ?_
    refine DAny.qu 15 rfl rfl (by kernel_rfl) rfl (fun _ => .passed _ rfl (.no _ _ _ rfl rfl rfl rfl)) ?_
    refine DAny.qu 16 rfl rfl (by kernel_rfl) rfl (fun _ => .passed _ rfl (.no _ _ _ rfl rfl rfl rfl)) ?_
    refine DAny.qu 17 rfl rfl (by kernel_rfl) rfl (fun _ => .passed _ rfl (.no _ _ _ rfl rfl rfl rfl)) ?_
    refine DAny.qu 18 rfl rfl (by kernel_rfl) rfl (fun _ => .passed _ rfl (.no _ _ _ rfl rfl rfl rfl)) ?_
    refine DAny.qu 19 rfl rfl (by kernel_rfl) rfl (fun _ => .passed _ rfl (.no _ _ _ rfl rfl rfl rfl)) ?_
    refine DAny.qu 20 rfl rfl (by kernel_rfl) rfl (fun _ => .does _ _ rfl (.none rfl) (QOp.pickF rfl rfl rfl)) ?_
    refine DAny.ef 22 rfl (by kernel_rfl) (.none rfl) rfl rfl (AOp.callP 0 rfl (by kernel_rfl) rfl rfl rfl (cneed_ok _ fr to 6) ?_ ?_)
    rotate_left
    · (rintro _ _ (⟨⟩ | ⟨hbad⟩); simp only [AExit.then, AExit.inBlock]; exact bodyQ_pan 0 rfl (.no h0 e hbad (by decide) _))
    rintro _ _ ⟨hok⟩
    refine ⟨(by ((exact AllQ.nil))), ?_⟩
    refine DAny.done (by kernel_rfl) ?_
    cases hok
end Go.Proofs.Ytaadamobapnfbaa
set_option linter.unusedVariables false
set_option linter.unusedSimpArgs false
set_option maxRecDepth 100000
namespace Go.Proofs.Ytaadamobapnfbaa
open Go Go.Abs
theorem Ckz.kept {c d : CS} {z : Zt} (h : Ckz c z) (hk : Kept c d) : Ckz d z :=
  ⟨by rw [hk.names]; exact h.names, by rw [hk.block]; exact h.block, h.tops, h.outs, h.uniq, h.deep⟩
theorem RCi.on {k : Mk} {z : Zt} {r r' : CS × Int} (hs : Stk r.1 r'.1) (h : r.1.code ≠ 0) (R : List Abs.Item) : RCi k z r' (.pan (wrongV r.1.at_ r.1.code)) R := by
  obtain ⟨h1, h2⟩ := hs h
  have := RCi.bad (k := k) (z := z) (r := r') (by rw [h1]; exact h) R
  rw [h1, h2] at this
  exact this
def CEx (n : Nat) : Prop := ∀ (c : CS) (k : Mk) (z : Zt) (i : Int), Ckz c z → c.ok → c.code = 0 → TreeX c.t → 0 ≤ i → i < c.t.exprs.length → i < n → ACalls Try.prog 69 [.mp k.mC 0, vi i] (ckItems c k z) (RCi k z (expr6 n c i))
theorem cvalue_ok (n : Nat) (hE : CEx n) (c : CS) (k : Mk) (z : Zt) (i : Int) (hz : Ckz c z) (ho : c.ok) (h0 : c.code = 0) (hw : TreeX c.t) (hi0 : 0 ≤ i) (hi1 : i < c.t.exprs.length) (hin : i < n) :
    ACalls Try.prog 66 [.mp k.mC 0, vi i] (ckItems c k z) (RCi k z (valOf (expr6 n c i) i)) := by
  have he := hE c k z i hz ho h0 hw hi0 hi1 hin
  have hk := Kept.expr6 n c i
  generalize expr6 n c i = r at he hk ⊢
  have hget := ex_get (c := r.1) (i := i) hi0 (by rw [hk.t]; exact hi1)
  have hlen : (r.1.t.exprs.map Ex.cells).length = c.t.exprs.length := by rw [List.length_map, hk.t]
  have hst : Stk r.1 (valOf r i).1 := .need _ _ _ _
  refine ACalls.of_code (c := _) Try.func66 rfl Try.ntmps66 (Nat.le_of_ble_eq_true rfl) ?_
  repeat (first | (refine ACode.seq ?_) | (refine ACode.region ?_) | (refine ACode.ret ?_) | (refine ACode.skip ?_) | (refine ACode.exit ?_) | (refine ACode.block ?_) | (refine AExit.then_normal ?_) | (refine AExit.then_ret ?_) | (refine AExit.then_exit ?_) | (refine AExit.in_normal ?_) | (refine AExit.in_ret ?_) | (refine AExit.in_same ?_) | (refine AExit.in_other rfl ?_) | (refine ASeq.nil ?_))
  refine ASeq.q rfl rfl (QOp.assign rfl rfl) ?_
  refine ASeq.nil ?_
  repeat (first | (refine ACode.seq ?_) | (refine ACode.region ?_) | (refine ACode.ret ?_) | (refine ACode.skip ?_) | (refine ACode.exit ?_) | (refine ACode.block ?_) | (refine AExit.then_normal ?_) | (refine AExit.then_ret ?_) | (refine AExit.then_exit ?_) | (refine AExit.in_normal ?_) | (refine AExit.in_ret ?_) | (refine AExit.in_same ?_) | (refine AExit.in_other rfl ?_) | (refine ASeq.nil ?_))
  refine ASeq.q rfl rfl (QOp.move rfl rfl) ?_
  refine ASeq.q rfl rfl (QOp.move rfl rfl) ?_
  refine ASeq.op rfl rfl (AOp.callP 9 rfl (by kernel_rfl) rfl rfl rfl (he) ?_ ?_)
  rotate_left
  · (rintro _ _ (⟨⟩ | ⟨hbad, R⟩); simp only [AExit.then, AExit.inBlock]; exact bodyQ_pan 0 rfl (.on hst hbad _))
  rintro _ _ ⟨hc⟩
  refine ASeq.q rfl rfl (QOp.assign rfl rfl) ?_
  refine ASeq.nil ?_
  repeat (first | (refine ACode.seq ?_) | (refine ACode.region ?_) | (refine ACode.ret ?_) | (refine ACode.skip ?_) | (refine ACode.exit ?_) | (refine ACode.block ?_) | (refine AExit.then_normal ?_) | (refine AExit.then_ret ?_) | (refine AExit.then_exit ?_) | (refine AExit.in_normal ?_) | (refine AExit.in_ret ?_) | (refine AExit.in_same ?_) | (refine AExit.in_other rfl ?_) | (refine ASeq.nil ?_))
  refine ASeq.q rfl rfl (QOp.move rfl rfl) ?_
  refine ASeq.q rfl rfl (QOp.cmp rfl rfl rfl rfl) ?_
  refine ASeq.q rfl rfl (QOp.move rfl rfl) ?_
  first | (refine ASeq.q rfl rfl (QOp.nilCheckM rfl rfl) ?_) | (refine ASeq.q rfl rfl (QOp.nilCheckI rfl rfl) ?_)
  first | (refine ASeq.q rfl rfl (QOp.fieldM rfl rfl (tok _ rfl) rfl rfl (by decide) rfl) ?_) | (refine ASeq.q rfl rfl (QOp.fieldI rfl rfl (tok _ rfl) rfl rfl (by decide) rfl) ?_)
  first | (refine ASeq.q rfl rfl (QOp.fieldM rfl rfl (tok _ rfl) rfl rfl (by decide) rfl) ?_) | (refine ASeq.q rfl rfl (QOp.fieldI rfl rfl (tok _ rfl) rfl rfl (by decide) rfl) ?_)
  first | (refine ASeq.q rfl rfl (QOp.loadI rfl rfl (tok _ rfl) rfl) ?_) | (refine ASeq.q rfl rfl (QOp.loadM 0 rfl rfl rfl (tok _ rfl) rfl) ?_) | (refine ASeq.q rfl rfl (QOp.loadM 1 rfl rfl rfl (tok _ rfl) rfl) ?_) | (refine ASeq.q rfl rfl (QOp.loadM 2 rfl rfl rfl (tok _ rfl) rfl) ?_) | (refine ASeq.q rfl rfl (QOp.loadM 3 rfl rfl rfl (tok _ rfl) rfl) ?_) | (refine ASeq.q rfl rfl (QOp.loadM 4 rfl rfl rfl (tok _ rfl) rfl) ?_) | (refine ASeq.q rfl rfl (QOp.loadM 5 rfl rfl rfl (tok _ rfl) rfl) ?_) | (refine ASeq.q rfl rfl (QOp.loadM 6 rfl rfl rfl (tok _ rfl) rfl) ?_) | (refine ASeq.q rfl rfl (QOp.loadM 7 rfl rfl rfl (tok _ rfl) rfl) ?_) | (refine ASeq.q rfl rfl (QOp.loadM 8 rfl rfl rfl (tok _ rfl) rfl) ?_) | (refine ASeq.q rfl rfl (QOp.loadM 9 rfl rfl rfl (tok _ rfl) rfl) ?_) | (refine ASeq.q rfl rfl (QOp.loadM 10 rfl rfl rfl (tok _ rfl) rfl) ?_) | (refine ASeq.q rfl rfl (QOp.loadM 11 rfl rfl rfl (tok _ rfl) rfl) ?_) | (refine ASeq.q rfl rfl (QOp.loadM 12 rfl rfl rfl (tok _ rfl) rfl) ?_) | (refine ASeq.q rfl rfl (QOp.loadM 13 rfl rfl rfl (tok _ rfl) rfl) ?_) | (refine ASeq.q rfl rfl (QOp.loadM 14 rfl rfl rfl (tok _ rfl) rfl) ?_) | (refine ASeq.q rfl rfl (QOp.loadM 15 rfl rfl rfl (tok _ rfl) rfl) ?_) | (refine ASeq.q rfl rfl (QOp.loadAt 0 rfl rfl rfl (tok _ rfl) rfl (by assumption)) ?_) | (refine ASeq.q rfl rfl (QOp.loadAt 1 rfl rfl rfl (tok _ rfl) rfl (by assumption)) ?_) | (refine ASeq.q rfl rfl (QOp.loadAt 2 rfl rfl rfl (tok _ rfl) rfl (by assumption)) ?_) | (refine ASeq.q rfl rfl (QOp.loadAt 3 rfl rfl rfl (tok _ rfl) rfl (by assumption)) ?_) | (refine ASeq.q rfl rfl (QOp.loadAt 4 rfl rfl rfl (tok _ rfl) rfl (by assumption)) ?_) | (refine ASeq.q rfl rfl (QOp.loadAt 5 rfl rfl rfl (tok _ rfl) rfl (by assumption)) ?_) | (refine ASeq.q rfl rfl (QOp.loadAt 6 rfl rfl rfl (tok _ rfl) rfl (by assumption)) ?_) | (refine ASeq.q rfl rfl (QOp.loadAt 7 rfl rfl rfl (tok _ rfl) rfl (by assumption)) ?_)
  refine ASeq.q rfl rfl (QOp.move rfl rfl) ?_
  first | (refine ASeq.q rfl rfl (QOp.indexI rfl rfl rfl (tok _ rfl) rfl (tok _ rfl) (by first | (decide) | (omega)) (by first | (rfl) | (assumption))) ?_) | (refine ASeq.q rfl rfl (QOp.indexM rfl rfl rfl (tok _ rfl) rfl (tok _ rfl) (by first | (decide) | (omega)) (by first | (decide) | (omega)) rfl) ?_) | (refine ASeq.q rfl rfl (QOp.indexArr rfl rfl rfl (tok _ rfl) rfl (tok _ rfl) (by decide) (by decide) rfl) ?_)
  first | (refine ASeq.q rfl rfl (QOp.fieldM rfl rfl (tok _ rfl) rfl rfl (by decide) rfl) ?_) | (refine ASeq.q rfl rfl (QOp.fieldI rfl rfl (tok _ rfl) rfl rfl (by decide) rfl) ?_)
  first | (refine ASeq.q rfl rfl (QOp.loadI rfl rfl (tok _ rfl) rfl) ?_) | (refine ASeq.q rfl rfl (QOp.loadM 0 rfl rfl rfl (tok _ rfl) rfl) ?_) | (refine ASeq.q rfl rfl (QOp.loadM 1 rfl rfl rfl (tok _ rfl) rfl) ?_) | (refine ASeq.q rfl rfl (QOp.loadM 2 rfl rfl rfl (tok _ rfl) rfl) ?_) | (refine ASeq.q rfl rfl (QOp.loadM 3 rfl rfl rfl (tok _ rfl) rfl) ?_) | (refine ASeq.q rfl rfl (QOp.loadM 4 rfl rfl rfl (tok _ rfl) rfl) ?_) | (refine ASeq.q rfl rfl (QOp.loadM 5 rfl rfl rfl (tok _ rfl) rfl) ?_) | (refine ASeq.q rfl rfl (QOp.loadM 6 rfl rfl rfl (tok _ rfl) rfl) ?_) | (refine ASeq.q rfl rfl (QOp.loadM 7 rfl rfl rfl (tok _ rfl) rfl) ?_) | (refine ASeq.q rfl rfl (QOp.loadM 8 rfl rfl rfl (tok _ rfl) rfl) ?_) | (refine ASeq.q rfl rfl (QOp.loadM 9 rfl rfl rfl (tok _ rfl) rfl) ?_) | (refine ASeq.q rfl rfl (QOp.loadM 10 rfl rfl rfl (tok _ rfl) rfl) ?_) | (refine ASeq.q rfl rfl (QOp.loadM 11 rfl rfl rfl (tok _ rfl) rfl) ?_) | (refine ASeq.q rfl rfl (QOp.loadM 12 rfl rfl rfl (tok _ rfl) rfl) ?_) | (refine ASeq.q rfl rfl (QOp.loadM 13 rfl rfl rfl (tok _ rfl) rfl) ?_) | (refine ASeq.q rfl rfl (QOp.loadM 14 rfl rfl rfl (tok _ rfl) rfl) ?_) | (refine ASeq.q rfl rfl (QOp.loadM 15 rfl rfl rfl (tok _ rfl) rfl) ?_) | (refine ASeq.q rfl rfl (QOp.loadAt 0 rfl rfl rfl (tok _ rfl) rfl (by assumption)) ?_) | (refine ASeq.q rfl rfl (QOp.loadAt 1 rfl rfl rfl (tok _ rfl) rfl (by assumption)) ?_) | (refine ASeq.q rfl rfl (QOp.loadAt 2 rfl rfl rfl (tok _ rfl) rfl (by assumption)) ?_) | (refine ASeq.q rfl rfl (QOp.loadAt 3 rfl rfl rfl (tok _ rfl) rfl (by assumption)) ?_) | (refine ASeq.q rfl rfl (QOp.loadAt 4 rfl rfl rfl (tok _ rfl) rfl (by assumption)) ?_) | (refine ASeq.q rfl rfl (QOp.loadAt 5 rfl rfl rfl (tok _ rfl) rfl (by assumption)) ?_) | (refine ASeq.q rfl rfl (QOp.loadAt 6 rfl rfl rfl (tok _ rfl) rfl (by assumption)) ?_) | (refine ASeq.q rfl rfl (QOp.loadAt 7 rfl rfl rfl (tok _ rfl) rfl (by assumption)) ?_)
  refine ASeq.op rfl rfl (AOp.callP 0 rfl (by kernel_rfl) rfl rfl rfl (cneed_ok _ (r.1.ex i).fr (r.1.ex i).to 8) ?_ ?_)
  rotate_left
  · (rintro _ _ (⟨⟩ | ⟨hbad⟩); simp only [AExit.then, AExit.inBlock]; exact bodyQ_pan 0 rfl (.no hc rfl hbad (by decide) _))
  rintro _ _ ⟨hok⟩
  refine ASeq.nil ?_
  repeat (first | (refine ACode.seq ?_) | (refine ACode.region ?_) | (refine ACode.ret ?_) | (refine ACode.skip ?_) | (refine ACode.exit ?_) | (refine ACode.block ?_) | (refine AExit.then_normal ?_) | (refine AExit.then_ret ?_) | (refine AExit.then_exit ?_) | (refine AExit.in_normal ?_) | (refine AExit.in_ret ?_) | (refine AExit.in_same ?_) | (refine AExit.in_other rfl ?_) | (refine ASeq.nil ?_))
  refine ASeq.q rfl rfl (QOp.move rfl rfl) ?_
  refine ASeq.q rfl rfl (QOp.assign rfl rfl) ?_
  refine ASeq.nil ?_
  repeat (first | (refine ACode.seq ?_) | (refine ACode.region ?_) | (refine ACode.ret ?_) | (refine ACode.skip ?_) | (refine ACode.exit ?_) | (refine ACode.block ?_) | (refine AExit.then_normal ?_) | (refine AExit.then_ret ?_) | (refine AExit.then_exit ?_) | (refine AExit.in_normal ?_) | (refine AExit.in_ret ?_) | (refine AExit.in_same ?_) | (refine AExit.in_other rfl ?_) | (refine ASeq.nil ?_))
  refine bodyQ_ret 9 (.tmp rfl .nil) rfl ?_
  exact .yes hc rfl hok
theorem ckItems_setType (c : CS) (k : Mk) (z : Zt) (i n : Int) : ckItems (c.setType i n) k z =
    [.mu k.mC (ckCells c k z), .mu z.mZ (z.all.map zcell), .mu k.mT ((c.type.set i.toNat n).map vi), .mu k.mS (c.slot.map vi), .mu k.mP (c.put.map vi), .mu k.mF (c.func.map vi), .mu k.mL (c.slotCells z.τ), .tk z.τ, .tk z.τz] := by
  have : ckCells (c.setType i n) k z = ckCells c k z := by simp [ckCells, CS.setType]
  unfold ckItems
  rw [this]; rfl
theorem ckItems_setSlot (c : CS) (k : Mk) (z : Zt) (i n : Int) : ckItems (c.setSlot i n) k z =
    [.mu k.mC (ckCells c k z), .mu z.mZ (z.all.map zcell), .mu k.mT (c.type.map vi), .mu k.mS ((c.slot.set i.toNat n).map vi), .mu k.mP (c.put.map vi), .mu k.mF (c.func.map vi), .mu k.mL (c.slotCells z.τ), .tk z.τ, .tk z.τz] := by
  have : ckCells (c.setSlot i n) k z = ckCells c k z := by simp [ckCells, CS.setSlot]
  unfold ckItems
  rw [this]; rfl
def CTy (n : Nat) : Prop := ∀ (c : CS) (k : Mk) (z : Zt) (i : Int), Ckz c z → c.ok → c.code = 0 → TreeX c.t → 0 ≤ i → i < c.t.exprs.length → i ≤ n → ACalls Try.prog 85 [.mp k.mC 0, vi i, .agg (c.ex i).cells] (ckItems c k z) (RCi k z (kindCase (expr6 n) c i (c.ex i)))
theorem cexpr_ok (n : Nat) (hT : CTy n) : CEx (n + 1) := by
  intro c k z i hz ho h0 hw hi0 hi1 hin
  have ht := hT c k z i hz ho h0 hw hi0 hi1 (by omega)
  have hr : expr6 (n + 1) c i = typed (kindCase (expr6 n) c i (c.ex i)) i := by
    show (if c.code ≠ 0 then (c, 1) else typed (kindCase (expr6 n) c i (c.ex i)) i) = _
    rw [if_neg (by rw [h0]; decide)]
  rw [hr]
  have hk := Kept.kindCase (Kept.expr6 n) c i (c.ex i)
  generalize kindCase (expr6 n) c i (c.ex i) = r at ht hk ⊢
  have hget := ex_get (c := c) (i := i) hi0 hi1
  have hlen : (c.t.exprs.map Ex.cells).length = c.t.exprs.length := List.length_map ..
  have hst : Stk r.1 (typed r i).1 := (Stk.refl r.1).typed i
  have hlt : r.1.type.length = c.t.exprs.length := by rw [hk.lt]; exact ho.lt
  refine ACalls.of_code (c := _) Try.func69 rfl Try.ntmps69 (Nat.le_of_ble_eq_true rfl) ?_
  repeat (first | (refine ACode.seq ?_) | (refine ACode.region ?_) | (refine ACode.ret ?_) | (refine ACode.skip ?_) | (refine ACode.exit ?_) | (refine ACode.block ?_) | (refine AExit.then_normal ?_) | (refine AExit.then_ret ?_) | (refine AExit.then_exit ?_) | (refine AExit.in_normal ?_) | (refine AExit.in_ret ?_) | (refine AExit.in_same ?_) | (refine AExit.in_other rfl ?_) | (refine ASeq.nil ?_))
  refine ASeq.q rfl rfl (QOp.assign rfl rfl) ?_
  refine ASeq.nil ?_
  repeat (first | (refine ACode.seq ?_) | (refine ACode.region ?_) | (refine ACode.ret ?_) | (refine ACode.skip ?_) | (refine ACode.exit ?_) | (refine ACode.block ?_) | (refine AExit.then_normal ?_) | (refine AExit.then_ret ?_) | (refine AExit.then_exit ?_) | (refine AExit.in_normal ?_) | (refine AExit.in_ret ?_) | (refine AExit.in_same ?_) | (refine AExit.in_other rfl ?_) | (refine ASeq.nil ?_))
  refine ASeq.q rfl rfl (QOp.move rfl rfl) ?_
  first | (refine ASeq.q rfl rfl (QOp.nilCheckM rfl rfl) ?_) | (refine ASeq.q rfl rfl (QOp.nilCheckI rfl rfl) ?_)
  first | (refine ASeq.q rfl rfl (QOp.fieldM rfl rfl (tok _ rfl) rfl rfl (by decide) rfl) ?_) | (refine ASeq.q rfl rfl (QOp.fieldI rfl rfl (tok _ rfl) rfl rfl (by decide) rfl) ?_)
  first | (refine ASeq.q rfl rfl (QOp.fieldM rfl rfl (tok _ rfl) rfl rfl (by decide) rfl) ?_) | (refine ASeq.q rfl rfl (QOp.fieldI rfl rfl (tok _ rfl) rfl rfl (by decide) rfl) ?_)
  first | (refine ASeq.q rfl rfl (QOp.loadI rfl rfl (tok _ rfl) rfl) ?_) | (refine ASeq.q rfl rfl (QOp.loadM 0 rfl rfl rfl (tok _ rfl) rfl) ?_) | (refine ASeq.q rfl rfl (QOp.loadM 1 rfl rfl rfl (tok _ rfl) rfl) ?_) | (refine ASeq.q rfl rfl (QOp.loadM 2 rfl rfl rfl (tok _ rfl) rfl) ?_) | (refine ASeq.q rfl rfl (QOp.loadM 3 rfl rfl rfl (tok _ rfl) rfl) ?_) | (refine ASeq.q rfl rfl (QOp.loadM 4 rfl rfl rfl (tok _ rfl) rfl) ?_) | (refine ASeq.q rfl rfl (QOp.loadM 5 rfl rfl rfl (tok _ rfl) rfl) ?_) | (refine ASeq.q rfl rfl (QOp.loadM 6 rfl rfl rfl (tok _ rfl) rfl) ?_) | (refine ASeq.q rfl rfl (QOp.loadM 7 rfl rfl rfl (tok _ rfl) rfl) ?_) | (refine ASeq.q rfl rfl (QOp.loadM 8 rfl rfl rfl (tok _ rfl) rfl) ?_) | (refine ASeq.q rfl rfl (QOp.loadM 9 rfl rfl rfl (tok _ rfl) rfl) ?_) | (refine ASeq.q rfl rfl (QOp.loadM 10 rfl rfl rfl (tok _ rfl) rfl) ?_) | (refine ASeq.q rfl rfl (QOp.loadM 11 rfl rfl rfl (tok _ rfl) rfl) ?_) | (refine ASeq.q rfl rfl (QOp.loadM 12 rfl rfl rfl (tok _ rfl) rfl) ?_) | (refine ASeq.q rfl rfl (QOp.loadM 13 rfl rfl rfl (tok _ rfl) rfl) ?_) | (refine ASeq.q rfl rfl (QOp.loadM 14 rfl rfl rfl (tok _ rfl) rfl) ?_) | (refine ASeq.q rfl rfl (QOp.loadM 15 rfl rfl rfl (tok _ rfl) rfl) ?_) | (refine ASeq.q rfl rfl (QOp.loadAt 0 rfl rfl rfl (tok _ rfl) rfl (by assumption)) ?_) | (refine ASeq.q rfl rfl (QOp.loadAt 1 rfl rfl rfl (tok _ rfl) rfl (by assumption)) ?_) | (refine ASeq.q rfl rfl (QOp.loadAt 2 rfl rfl rfl (tok _ rfl) rfl (by assumption)) ?_) | (refine ASeq.q rfl rfl (QOp.loadAt 3 rfl rfl rfl (tok _ rfl) rfl (by assumption)) ?_) | (refine ASeq.q rfl rfl (QOp.loadAt 4 rfl rfl rfl (tok _ rfl) rfl (by assumption)) ?_) | (refine ASeq.q rfl rfl (QOp.loadAt 5 rfl rfl rfl (tok _ rfl) rfl (by assumption)) ?_) | (refine ASeq.q rfl rfl (QOp.loadAt 6 rfl rfl rfl (tok _ rfl) rfl (by assumption)) ?_) | (refine ASeq.q rfl rfl (QOp.loadAt 7 rfl rfl rfl (tok _ rfl) rfl (by assumption)) ?_)
  refine ASeq.q rfl rfl (QOp.move rfl rfl) ?_
  first | (refine ASeq.q rfl rfl (QOp.indexI rfl rfl rfl (tok _ rfl) rfl (tok _ rfl) (by first | (decide) | (omega)) (by first | (rfl) | (assumption))) ?_) | (refine ASeq.q rfl rfl (QOp.indexM rfl rfl rfl (tok _ rfl) rfl (tok _ rfl) (by first | (decide) | (omega)) (by first | (decide) | (omega)) rfl) ?_) | (refine ASeq.q rfl rfl (QOp.indexArr rfl rfl rfl (tok _ rfl) rfl (tok _ rfl) (by decide) (by decide) rfl) ?_)
  first | (refine ASeq.q rfl rfl (QOp.loadI rfl rfl (tok _ rfl) rfl) ?_) | (refine ASeq.q rfl rfl (QOp.loadM 0 rfl rfl rfl (tok _ rfl) rfl) ?_) | (refine ASeq.q rfl rfl (QOp.loadM 1 rfl rfl rfl (tok _ rfl) rfl) ?_) | (refine ASeq.q rfl rfl (QOp.loadM 2 rfl rfl rfl (tok _ rfl) rfl) ?_) | (refine ASeq.q rfl rfl (QOp.loadM 3 rfl rfl rfl (tok _ rfl) rfl) ?_) | (refine ASeq.q rfl rfl (QOp.loadM 4 rfl rfl rfl (tok _ rfl) rfl) ?_) | (refine ASeq.q rfl rfl (QOp.loadM 5 rfl rfl rfl (tok _ rfl) rfl) ?_) | (refine ASeq.q rfl rfl (QOp.loadM 6 rfl rfl rfl (tok _ rfl) rfl) ?_) | (refine ASeq.q rfl rfl (QOp.loadM 7 rfl rfl rfl (tok _ rfl) rfl) ?_) | (refine ASeq.q rfl rfl (QOp.loadM 8 rfl rfl rfl (tok _ rfl) rfl) ?_) | (refine ASeq.q rfl rfl (QOp.loadM 9 rfl rfl rfl (tok _ rfl) rfl) ?_) | (refine ASeq.q rfl rfl (QOp.loadM 10 rfl rfl rfl (tok _ rfl) rfl) ?_) | (refine ASeq.q rfl rfl (QOp.loadM 11 rfl rfl rfl (tok _ rfl) rfl) ?_) | (refine ASeq.q rfl rfl (QOp.loadM 12 rfl rfl rfl (tok _ rfl) rfl) ?_) | (refine ASeq.q rfl rfl (QOp.loadM 13 rfl rfl rfl (tok _ rfl) rfl) ?_) | (refine ASeq.q rfl rfl (QOp.loadM 14 rfl rfl rfl (tok _ rfl) rfl) ?_) | (refine ASeq.q rfl rfl (QOp.loadM 15 rfl rfl rfl (tok _ rfl) rfl) ?_) | (refine ASeq.q rfl rfl (QOp.loadAt 0 rfl rfl rfl (tok _ rfl) rfl (by assumption)) ?_) | (refine ASeq.q rfl rfl (QOp.loadAt 1 rfl rfl rfl (tok _ rfl) rfl (by assumption)) ?_) | (refine ASeq.q rfl rfl (QOp.loadAt 2 rfl rfl rfl (tok _ rfl) rfl (by assumption)) ?_) | (refine ASeq.q rfl rfl (QOp.loadAt 3 rfl rfl rfl (tok _ rfl) rfl (by assumption)) ?_) | (refine ASeq.q rfl rfl (QOp.loadAt 4 rfl rfl rfl (tok _ rfl) rfl (by assumption)) ?_) | (refine ASeq.q rfl rfl (QOp.loadAt 5 rfl rfl rfl (tok _ rfl) rfl (by assumption)) ?_) | (refine ASeq.q rfl rfl (QOp.loadAt 6 rfl rfl rfl (tok _ rfl) rfl (by assumption)) ?_) | (refine ASeq.q rfl rfl (QOp.loadAt 7 rfl rfl rfl (tok _ rfl) rfl (by assumption)) ?_)
  refine ASeq.op rfl rfl (AOp.allocP rfl (tok _ rfl) rfl rfl (fun _ => rfl) (fun _ => ?_))
  first | (refine ASeq.op0 rfl rfl (AOp.storeP 0 rfl rfl rfl rfl (tok _ rfl) rfl rfl rfl rfl ?_)) | (refine ASeq.op0 rfl rfl (AOp.storeP 1 rfl rfl rfl rfl (tok _ rfl) rfl rfl rfl rfl ?_)) | (refine ASeq.op0 rfl rfl (AOp.storeP 2 rfl rfl rfl rfl (tok _ rfl) rfl rfl rfl rfl ?_)) | (refine ASeq.op0 rfl rfl (AOp.storeP 3 rfl rfl rfl rfl (tok _ rfl) rfl rfl rfl rfl ?_)) | (refine ASeq.op0 rfl rfl (AOp.storeP 4 rfl rfl rfl rfl (tok _ rfl) rfl rfl rfl rfl ?_)) | (refine ASeq.op0 rfl rfl (AOp.storeP 5 rfl rfl rfl rfl (tok _ rfl) rfl rfl rfl rfl ?_)) | (refine ASeq.op0 rfl rfl (AOp.storeP 6 rfl rfl rfl rfl (tok _ rfl) rfl rfl rfl rfl ?_)) | (refine ASeq.op0 rfl rfl (AOp.storeP 7 rfl rfl rfl rfl (tok _ rfl) rfl rfl rfl rfl ?_)) | (refine ASeq.op0 rfl rfl (AOp.storeP 8 rfl rfl rfl rfl (tok _ rfl) rfl rfl rfl rfl ?_)) | (refine ASeq.op0 rfl rfl (AOp.storeP 9 rfl rfl rfl rfl (tok _ rfl) rfl rfl rfl rfl ?_)) | (refine ASeq.op0 rfl rfl (AOp.storeP 10 rfl rfl rfl rfl (tok _ rfl) rfl rfl rfl rfl ?_)) | (refine ASeq.op0 rfl rfl (AOp.storeP 11 rfl rfl rfl rfl (tok _ rfl) rfl rfl rfl rfl ?_)) | (refine ASeq.op0 rfl rfl (AOp.storeP 12 rfl rfl rfl rfl (tok _ rfl) rfl rfl rfl rfl ?_)) | (refine ASeq.op0 rfl rfl (AOp.storeP 13 rfl rfl rfl rfl (tok _ rfl) rfl rfl rfl rfl ?_)) | (refine ASeq.op0 rfl rfl (AOp.storeP 14 rfl rfl rfl rfl (tok _ rfl) rfl rfl rfl rfl ?_)) | (refine ASeq.op0 rfl rfl (AOp.storeP 15 rfl rfl rfl rfl (tok _ rfl) rfl rfl rfl rfl ?_))
  refine ASeq.nil ?_
  rename_i m5
  repeat (first | (refine ACode.seq ?_) | (refine ACode.region ?_) | (refine ACode.ret ?_) | (refine ACode.skip ?_) | (refine ACode.exit ?_) | (refine ACode.block ?_) | (refine AExit.then_normal ?_) | (refine AExit.then_ret ?_) | (refine AExit.then_exit ?_) | (refine AExit.in_normal ?_) | (refine AExit.in_ret ?_) | (refine AExit.in_same ?_) | (refine AExit.in_other rfl ?_) | (refine ASeq.nil ?_))
  refine ASeq.q rfl rfl (QOp.move rfl rfl) ?_
  refine ASeq.q rfl rfl (QOp.move rfl rfl) ?_
  first | (refine ASeq.q rfl rfl (QOp.loadI rfl rfl (tok _ rfl) rfl) ?_) | (refine ASeq.q rfl rfl (QOp.loadM 0 rfl rfl rfl (tok _ rfl) rfl) ?_) | (refine ASeq.q rfl rfl (QOp.loadM 1 rfl rfl rfl (tok _ rfl) rfl) ?_) | (refine ASeq.q rfl rfl (QOp.loadM 2 rfl rfl rfl (tok _ rfl) rfl) ?_) | (refine ASeq.q rfl rfl (QOp.loadM 3 rfl rfl rfl (tok _ rfl) rfl) ?_) | (refine ASeq.q rfl rfl (QOp.loadM 4 rfl rfl rfl (tok _ rfl) rfl) ?_) | (refine ASeq.q rfl rfl (QOp.loadM 5 rfl rfl rfl (tok _ rfl) rfl) ?_) | (refine ASeq.q rfl rfl (QOp.loadM 6 rfl rfl rfl (tok _ rfl) rfl) ?_) | (refine ASeq.q rfl rfl (QOp.loadM 7 rfl rfl rfl (tok _ rfl) rfl) ?_) | (refine ASeq.q rfl rfl (QOp.loadM 8 rfl rfl rfl (tok _ rfl) rfl) ?_) | (refine ASeq.q rfl rfl (QOp.loadM 9 rfl rfl rfl (tok _ rfl) rfl) ?_) | (refine ASeq.q rfl rfl (QOp.loadM 10 rfl rfl rfl (tok _ rfl) rfl) ?_) | (refine ASeq.q rfl rfl (QOp.loadM 11 rfl rfl rfl (tok _ rfl) rfl) ?_) | (refine ASeq.q rfl rfl (QOp.loadM 12 rfl rfl rfl (tok _ rfl) rfl) ?_) | (refine ASeq.q rfl rfl (QOp.loadM 13 rfl rfl rfl (tok _ rfl) rfl) ?_) | (refine ASeq.q rfl rfl (QOp.loadM 14 rfl rfl rfl (tok _ rfl) rfl) ?_) | (refine ASeq.q rfl rfl (QOp.loadM 15 rfl rfl rfl (tok _ rfl) rfl) ?_) | (refine ASeq.q rfl rfl (QOp.loadAt 0 rfl rfl rfl (tok _ rfl) rfl (by assumption)) ?_) | (refine ASeq.q rfl rfl (QOp.loadAt 1 rfl rfl rfl (tok _ rfl) rfl (by assumption)) ?_) | (refine ASeq.q rfl rfl (QOp.loadAt 2 rfl rfl rfl (tok _ rfl) rfl (by assumption)) ?_) | (refine ASeq.q rfl rfl (QOp.loadAt 3 rfl rfl rfl (tok _ rfl) rfl (by assumption)) ?_) | (refine ASeq.q rfl rfl (QOp.loadAt 4 rfl rfl rfl (tok _ rfl) rfl (by assumption)) ?_) | (refine ASeq.q rfl rfl (QOp.loadAt 5 rfl rfl rfl (tok _ rfl) rfl (by assumption)) ?_) | (refine ASeq.q rfl rfl (QOp.loadAt 6 rfl rfl rfl (tok _ rfl) rfl (by assumption)) ?_) | (refine ASeq.q rfl rfl (QOp.loadAt 7 rfl rfl rfl (tok _ rfl) rfl (by assumption)) ?_)
  refine ASeq.op rfl rfl (AOp.callP 9 rfl (by kernel_rfl) rfl rfl rfl (ht) ?_ ?_)
  rotate_left
  · (rintro _ _ (⟨⟩ | ⟨hbad, R⟩); simp only [AExit.then, AExit.inBlock]; exact bodyQ_pan 0 rfl (.on hst hbad _))
  rintro _ _ ⟨hc⟩
  refine ASeq.q rfl rfl (QOp.assign rfl rfl) ?_
  refine ASeq.nil ?_
  repeat (first | (refine ACode.seq ?_) | (refine ACode.region ?_) | (refine ACode.ret ?_) | (refine ACode.skip ?_) | (refine ACode.exit ?_) | (refine ACode.block ?_) | (refine AExit.then_normal ?_) | (refine AExit.then_ret ?_) | (refine AExit.then_exit ?_) | (refine AExit.in_normal ?_) | (refine AExit.in_ret ?_) | (refine AExit.in_same ?_) | (refine AExit.in_other rfl ?_) | (refine ASeq.nil ?_))
  refine ASeq.q rfl rfl (QOp.move rfl rfl) ?_
  first | (refine ASeq.q rfl rfl (QOp.nilCheckM rfl rfl) ?_) | (refine ASeq.q rfl rfl (QOp.nilCheckI rfl rfl) ?_)
  first | (refine ASeq.q rfl rfl (QOp.fieldM rfl rfl (tok _ rfl) rfl rfl (by decide) rfl) ?_) | (refine ASeq.q rfl rfl (QOp.fieldI rfl rfl (tok _ rfl) rfl rfl (by decide) rfl) ?_)
  first | (refine ASeq.q rfl rfl (QOp.fieldM rfl rfl (tok _ rfl) rfl rfl (by decide) rfl) ?_) | (refine ASeq.q rfl rfl (QOp.fieldI rfl rfl (tok _ rfl) rfl rfl (by decide) rfl) ?_)
  first | (refine ASeq.q rfl rfl (QOp.loadI rfl rfl (tok _ rfl) rfl) ?_) | (refine ASeq.q rfl rfl (QOp.loadM 0 rfl rfl rfl (tok _ rfl) rfl) ?_) | (refine ASeq.q rfl rfl (QOp.loadM 1 rfl rfl rfl (tok _ rfl) rfl) ?_) | (refine ASeq.q rfl rfl (QOp.loadM 2 rfl rfl rfl (tok _ rfl) rfl) ?_) | (refine ASeq.q rfl rfl (QOp.loadM 3 rfl rfl rfl (tok _ rfl) rfl) ?_) | (refine ASeq.q rfl rfl (QOp.loadM 4 rfl rfl rfl (tok _ rfl) rfl) ?_) | (refine ASeq.q rfl rfl (QOp.loadM 5 rfl rfl rfl (tok _ rfl) rfl) ?_) | (refine ASeq.q rfl rfl (QOp.loadM 6 rfl rfl rfl (tok _ rfl) rfl) ?_) | (refine ASeq.q rfl rfl (QOp.loadM 7 rfl rfl rfl (tok _ rfl) rfl) ?_) | (refine ASeq.q rfl rfl (QOp.loadM 8 rfl rfl rfl (tok _ rfl) rfl) ?_) | (refine ASeq.q rfl rfl (QOp.loadM 9 rfl rfl rfl (tok _ rfl) rfl) ?_) | (refine ASeq.q rfl rfl (QOp.loadM 10 rfl rfl rfl (tok _ rfl) rfl) ?_) | (refine ASeq.q rfl rfl (QOp.loadM 11 rfl rfl rfl (tok _ rfl) rfl) ?_) | (refine ASeq.q rfl rfl (QOp.loadM 12 rfl rfl rfl (tok _ rfl) rfl) ?_) | (refine ASeq.q rfl rfl (QOp.loadM 13 rfl rfl rfl (tok _ rfl) rfl) ?_) | (refine ASeq.q rfl rfl (QOp.loadM 14 rfl rfl rfl (tok _ rfl) rfl) ?_) | (refine ASeq.q rfl rfl (QOp.loadM 15 rfl rfl rfl (tok _ rfl) rfl) ?_) | (refine ASeq.q rfl rfl (QOp.loadAt 0 rfl rfl rfl (tok _ rfl) rfl (by assumption)) ?_) | (refine ASeq.q rfl rfl (QOp.loadAt 1 rfl rfl rfl (tok _ rfl) rfl (by assumption)) ?_) | (refine ASeq.q rfl rfl (QOp.loadAt 2 rfl rfl rfl (tok _ rfl) rfl (by assumption)) ?_) | (refine ASeq.q rfl rfl (QOp.loadAt 3 rfl rfl rfl (tok _ rfl) rfl (by assumption)) ?_) | (refine ASeq.q rfl rfl (QOp.loadAt 4 rfl rfl rfl (tok _ rfl) rfl (by assumption)) ?_) | (refine ASeq.q rfl rfl (QOp.loadAt 5 rfl rfl rfl (tok _ rfl) rfl (by assumption)) ?_) | (refine ASeq.q rfl rfl (QOp.loadAt 6 rfl rfl rfl (tok _ rfl) rfl (by assumption)) ?_) | (refine ASeq.q rfl rfl (QOp.loadAt 7 rfl rfl rfl (tok _ rfl) rfl (by assumption)) ?_)
  refine ASeq.q rfl rfl (QOp.move rfl rfl) ?_
  refine ASeq.q rfl rfl (QOp.move rfl rfl) ?_
  first | (refine ASeq.q rfl rfl (QOp.indexI rfl rfl rfl (tok _ rfl) rfl (tok _ rfl) (by first | (decide) | (omega)) (by first | (rfl) | (assumption))) ?_) | (refine ASeq.q rfl rfl (QOp.indexM rfl rfl rfl (tok _ rfl) rfl (tok _ rfl) (by first | (decide) | (omega)) (by first | (decide) | (omega)) rfl) ?_) | (refine ASeq.q rfl rfl (QOp.indexArr rfl rfl rfl (tok _ rfl) rfl (tok _ rfl) (by decide) (by decide) rfl) ?_)
  refine ASeq.op0 rfl rfl (storeInt 2 (j := i.toNat) (l := r.1.type) rfl rfl rfl rfl (tok _ rfl) rfl (by show 0 + _ * 1 = _; omega) (by omega) rfl ?_)
  refine ASeq.nil ?_
  repeat (first | (refine ACode.seq ?_) | (refine ACode.region ?_) | (refine ACode.ret ?_) | (refine ACode.skip ?_) | (refine ACode.exit ?_) | (refine ACode.block ?_) | (refine AExit.then_normal ?_) | (refine AExit.then_ret ?_) | (refine AExit.then_exit ?_) | (refine AExit.in_normal ?_) | (refine AExit.in_ret ?_) | (refine AExit.in_same ?_) | (refine AExit.in_other rfl ?_) | (refine ASeq.nil ?_))
  refine ASeq.q rfl rfl (QOp.move rfl rfl) ?_
  refine ASeq.q rfl rfl (QOp.assign rfl rfl) ?_
  refine ASeq.nil ?_
  repeat (first | (refine ACode.seq ?_) | (refine ACode.region ?_) | (refine ACode.ret ?_) | (refine ACode.skip ?_) | (refine ACode.exit ?_) | (refine ACode.block ?_) | (refine AExit.then_normal ?_) | (refine AExit.then_ret ?_) | (refine AExit.then_exit ?_) | (refine AExit.in_normal ?_) | (refine AExit.in_ret ?_) | (refine AExit.in_same ?_) | (refine AExit.in_other rfl ?_) | (refine ASeq.nil ?_))
  refine bodyQ_ret 9 (.tmp rfl .nil) rfl ?_
  have e : typed r i = (r.1.setType i r.2, r.2) := by unfold typed; rw [if_pos hc]
  rw [e]
  have := RCi.ok (k := k) (z := z) (r := (r.1.setType i r.2, r.2)) hc
  rw [ckItems_setType] at this
  exact this
end Go.Proofs.Ytaadamobapnfbaa
set_option linter.unusedVariables false
set_option linter.unusedSimpArgs false
set_option maxRecDepth 100000
namespace Go.Proofs.Ytaadamobapnfbaa
open Go Go.Abs
theorem cpair_ok (n : Nat) (hE : CEx n) (c : CS) (k : Mk) (z : Zt) (i : Int) (hz : Ckz c z) (ho : c.ok) (h0 : c.code = 0) (hw : TreeX c.t) (hi0 : 0 ≤ i) (hi1 : i < c.t.exprs.length) (hin : i ≤ n) (hk9 : (c.ex i).kind = 9) :
    ACalls Try.prog 107 [.mp k.mC 0, .agg (c.ex i).cells] (ckItems c k z) (RCi k z (kindCase (expr6 n) c i (c.ex i))) := by
  obtain ⟨w1, w2, _, _⟩ := ex_wf hw.1 hi0 hi1
  obtain ⟨wa0, wa1⟩ := w1 (.inr (.inr hk9))
  obtain ⟨wb0, wb1, wop⟩ := w2 hk9
  have hK : kindCase (expr6 n) c i (c.ex i) = ((valOf (expr6 n (valOf (expr6 n c (c.ex i).a) (c.ex i).a).1 (c.ex i).b) (c.ex i).b).1.need (pairOk (c.ex i).op (valOf (expr6 n c (c.ex i).a) (c.ex i).a).2 (valOf (expr6 n (valOf (expr6 n c (c.ex i).a) (c.ex i).a).1 (c.ex i).b) (c.ex i).b).2) (c.ex i).fr 8,
      if isInt (c.ex i).op = true then 1 else 2) := by unfold kindCase; simp [hk9]
  rw [hK]
  generalize c.ex i = e at *
  have hv1 := cvalue_ok n hE c k z e.a hz ho h0 hw wa0 (by omega) (by omega)
  have hk1 : Kept c (valOf (expr6 n c e.a) e.a).1 := (Kept.expr6 n c e.a).valOf _
  generalize valOf (expr6 n c e.a) e.a = c1 at *
  have hv2 : c1.1.code = 0 → ACalls Try.prog 66 [.mp k.mC 0, vi e.b] (ckItems c1.1 k z) (RCi k z (valOf (expr6 n c1.1 e.b) e.b)) := fun h => cvalue_ok n hE c1.1 k z e.b (hz.kept hk1) (hk1.ok ho) h (by rw [hk1.t]; exact hw) wb0 (by rw [hk1.t]; omega) (by omega)
  have s12 : Stk c1.1 (valOf (expr6 n c1.1 e.b) e.b).1 := (Stk.expr6 n c1.1 e.b).valOf _
  generalize valOf (expr6 n c1.1 e.b) e.b = c2 at *
  have s2 : Stk c2.1 (c2.1.need (pairOk e.op c1.2 c2.2) e.fr 8) := .need _ _ _ _
  generalize hr : ((c2.1.need (pairOk e.op c1.2 c2.2) e.fr 8, if isInt e.op = true then 1 else 2) : CS × Int) = r
  have s2' : Stk c2.1 r.1 := by rw [← hr]; exact s2
  have s1' : Stk c1.1 r.1 := s12.trans s2'
  have hfin : ∀ {b : Bool} {v : Int}, pairOk e.op c1.2 c2.2 = b → (if isInt e.op = true then (1 : Int) else 2) = v → r = (c2.1.need b e.fr 8, v) := fun h1 h2 => by rw [← hr, h1, h2]
  refine ACalls.of_code (c := _) Try.func107 rfl Try.ntmps107 (Nat.le_of_ble_eq_true rfl) ?_
  refine ACode.seq (ACode.region ?_)
  refine ASeq.op rfl rfl (AOp.boxP rfl rfl rfl (fun _ => rfl) (fun _ => ?_))
  refine ASeq.q rfl rfl (QOp.assign rfl rfl) ?_
  refine ASeq.nil ?_
  rename_i m3
  refine ACode.seq ?_
  refine ACode.drawn [[], [], [1], [0, 1, 2], [], [], [5], [0, 1, 2, 3, 4, 5, 6], [0, 1, 2, 3, 4, 5, 6, 7], [0, 1, 2, 3, 4, 5, 6, 7, 8]] (by kernel_rfl) mixed ?_
  refine DAny.qu 0 rfl rfl (by kernel_rfl) rfl (fun _ => .does _ _ rfl (.none rfl) (QOp.move rfl rfl)) ?_
  refine DAny.qu 1 rfl rfl (by kernel_rfl) rfl (fun _ => .does _ _ rfl (.none rfl) (QOp.fieldM rfl rfl (tok _ rfl) rfl rfl (by decide) rfl)) ?_
  refine DAny.ld 2 rfl rfl (by kernel_rfl) rfl (.does _ _ rfl (.none rfl) (QOp.loadM 9 rfl rfl rfl (tok _ rfl) rfl)) ?_
  refine DAny.qu 4 rfl rfl (by kernel_rfl) rfl (fun _ => .does _ _ rfl (.none rfl) (QOp.move rfl rfl)) ?_
  refine DAny.qu 5 rfl rfl (by kernel_rfl) rfl (fun _ => .does _ _ rfl (.none rfl) (QOp.fieldM rfl rfl (tok _ rfl) rfl rfl (by decide) rfl)) ?_
  refine DAny.ld 6 rfl rfl (by kernel_rfl) rfl (.does _ _ rfl (.none rfl) (QOp.loadM 9 rfl rfl rfl (tok _ rfl) rfl)) ?_
  refine DAny.ef 3 rfl (by kernel_rfl) (.none rfl) rfl rfl (AOp.callP 9 rfl (by kernel_rfl) rfl rfl rfl (hv1) ?_ ?_)
  rotate_left
  · (rintro _ _ (⟨⟩ | ⟨hbad, R⟩); simp only [AExit.then, AExit.inBlock]; exact bodyQ_pan 0 rfl (.on s1' hbad _))
  rintro _ _ ⟨hc1⟩
  refine ⟨(by ((refine AllQ.cons (.does _ _ rfl (by exact .none rfl) (QOp.loadM 9 rfl rfl rfl (tok _ rfl) rfl)) ?_); (exact AllQ.nil))), ?_⟩
  refine DAny.ef 7 rfl (by kernel_rfl) (.none rfl) rfl rfl (AOp.callP 9 rfl (by kernel_rfl) rfl rfl rfl (hv2 hc1) ?_ ?_)
  rotate_left
  · (rintro _ _ (⟨⟩ | ⟨hbad, R⟩); simp only [AExit.then, AExit.inBlock]; exact bodyQ_pan 0 rfl (.on s2' hbad _))
  rintro _ _ ⟨hc2⟩
  refine ⟨(by ((exact AllQ.nil))), ?_⟩
  refine DAny.ef 8 rfl (by kernel_rfl) (.none rfl) rfl rfl (.q (QOp.assign rfl rfl) ⟨(by ((exact AllQ.nil))), ?_⟩)
  refine DAny.ef 9 rfl (by kernel_rfl) (.none rfl) rfl rfl (.q (QOp.assign rfl rfl) ⟨(by ((exact AllQ.nil))), ?_⟩)
  refine DAny.done (by kernel_rfl) ?_
  refine ACode.seq (ACode.region ?_)
  refine ASeq.q rfl rfl (QOp.move rfl rfl) ?_
  refine ASeq.q rfl rfl (QOp.move rfl rfl) ?_
  refine ASeq.q rfl rfl (QOp.cmp rfl rfl rfl rfl) ?_
  refine ASeq.q rfl rfl (QOp.fieldM rfl rfl (tok _ rfl) rfl rfl (by decide) rfl) ?_
  refine ASeq.q rfl rfl (QOp.loadM 9 rfl rfl rfl (tok _ rfl) rfl) ?_
  refine ASeq.op rfl rfl (AOp.callP 0 rfl (by kernel_rfl) rfl rfl rfl (cneed_ok _ e.fr e.to 8) ?_ ?_)
  rotate_left
  · (rintro _ _ (⟨⟩ | ⟨hbad⟩); simp only [AExit.then, AExit.inBlock]; exact bodyQ_pan 0 rfl (.no hc2 (hfin (b := false) (by unfold pairOk; rw [hbad]; rfl) rfl) rfl (by decide) _))
  rintro _ _ ⟨hab⟩
  refine ASeq.nil ?_
  have hp : pairOk e.op c1.2 c2.2 = ((isEven e.op || (isLogic e.op && (c1.2 == 2))) || ((!isLogic e.op && !isEven e.op) && (c1.2 == 1))) := by unfold pairOk; rw [hab, Bool.true_and]
  refine ACode.seq (ACode.seq (ACode.region ?_))
  refine ASeq.q rfl rfl (QOp.fieldM rfl rfl (tok _ rfl) rfl rfl (by decide) rfl) ?_
  refine ASeq.q rfl rfl (QOp.loadM 9 rfl rfl rfl (tok _ rfl) rfl) ?_
  refine ASeq.nil ?_
  refine ACode.block (ACode.seq (ACode.seq (ACode.region ?_)))
  refine ASeq.q rfl rfl (QOp.cmpStr rfl rfl rfl rfl) ?_
  refine ASeq.q rfl rfl (QOp.assign rfl rfl) ?_
  refine ASeq.nil ?_
  refine AExit.then_normal ?_
  refine ACode.cond _ rfl (fun he1 => ?_) (fun he1 => ?_)
  · have hev : isEven e.op = true := by unfold isEven; rw [show (e.op.data.toList == [61, 61]) = true from he1]; rfl
    refine ACode.skip (AExit.then_normal ?_)
    refine ACode.cond _ rfl (fun _ => ?_) (fun hb' => by rw [he1] at hb'; cases hb')
    have hint : (if isInt e.op = true then (1 : Int) else 2) = 2 := by unfold isInt; rw [hev]; rfl
    refine ACode.seq (ACode.region ?_)
    refine ASeq.q rfl rfl (QOp.assign rfl rfl) ?_
    refine ASeq.nil ?_
    refine ACode.ret (AExit.in_ret (AExit.then_ret ?_))
    refine bodyQ_ret 9 (.tmp rfl .nil) rfl ?_
    exact .yes hc2 (hfin (b := true) (by rw [hp, hev]; rfl) hint) rfl
  refine ACode.region ?_
  refine ASeq.q rfl rfl (QOp.cmpStr rfl rfl rfl rfl) ?_
  refine ASeq.q rfl rfl (QOp.assign rfl rfl) ?_
  refine ASeq.nil ?_
  refine AExit.then_normal ?_
  refine ACode.cond _ rfl (fun he2 => ?_) (fun he2 => ?_)
  · have hev : isEven e.op = true := by unfold isEven; rw [show (e.op.data.toList == [33, 61]) = true from he2, Bool.or_true]
    have hint : (if isInt e.op = true then (1 : Int) else 2) = 2 := by unfold isInt; rw [hev]; rfl
    refine ACode.seq (ACode.region ?_)
    refine ASeq.q rfl rfl (QOp.assign rfl rfl) ?_
    refine ASeq.nil ?_
    refine ACode.ret (AExit.in_ret (AExit.then_ret ?_))
    refine bodyQ_ret 9 (.tmp rfl .nil) rfl ?_
    exact .yes hc2 (hfin (b := true) (by rw [hp, hev]; rfl) hint) rfl
  have hev : isEven e.op = false := by unfold isEven; rw [show (e.op.data.toList == [61, 61]) = false from he1, show (e.op.data.toList == [33, 61]) = false from he2]; rfl
  refine ACode.seq (ACode.seq (ACode.region ?_))
  refine ASeq.q rfl rfl (QOp.cmpStr rfl rfl rfl rfl) ?_
  refine ASeq.q rfl rfl (QOp.assign rfl rfl) ?_
  refine ASeq.nil ?_
  refine AExit.then_normal ?_
  refine ACode.cond _ rfl (fun hl1 => ?_) (fun hl1 => ?_)
  · have hlo : isLogic e.op = true := by unfold isLogic; rw [show (e.op.data.toList == [38, 38]) = true from hl1]; rfl
    refine ACode.skip (AExit.then_normal ?_)
    refine ACode.cond _ rfl (fun _ => ?_) (fun hb' => by rw [hl1] at hb'; cases hb')
    have hint : (if isInt e.op = true then (1 : Int) else 2) = 2 := by unfold isInt; rw [hev, hlo]; rfl
    refine ACode.seq (ACode.region ?_)
    refine ASeq.q rfl rfl (QOp.move rfl rfl) ?_
    refine ASeq.q rfl rfl (QOp.cmp rfl rfl rfl rfl) ?_
    refine ASeq.q rfl rfl (QOp.fieldM rfl rfl (tok _ rfl) rfl rfl (by decide) rfl) ?_
    refine ASeq.q rfl rfl (QOp.loadM 9 rfl rfl rfl (tok _ rfl) rfl) ?_
    refine ASeq.op rfl rfl (AOp.callP 0 rfl (by kernel_rfl) rfl rfl rfl (cneed_ok _ e.fr e.to 8) ?_ ?_)
    rotate_left
    · (rintro _ _ (⟨⟩ | ⟨hbad⟩); simp only [AExit.then, AExit.inBlock]; exact bodyQ_pan 0 rfl (.no hc2 (hfin (b := false) (by rw [hp, hev, hlo, hbad]; rfl) rfl) rfl (by decide) _))
    rintro _ _ ⟨ha2⟩
    refine ASeq.nil ?_
    refine ACode.seq (ACode.region ?_)
    refine ASeq.q rfl rfl (QOp.assign rfl rfl) ?_
    refine ASeq.nil ?_
    refine ACode.ret (AExit.in_ret (AExit.then_ret ?_))
    refine bodyQ_ret 9 (.tmp rfl .nil) rfl ?_
    exact .yes hc2 (hfin (b := true) (by rw [hp, hev, hlo, ha2]; rfl) hint) rfl
  refine ACode.region ?_
  refine ASeq.q rfl rfl (QOp.cmpStr rfl rfl rfl rfl) ?_
  refine ASeq.q rfl rfl (QOp.assign rfl rfl) ?_
  refine ASeq.nil ?_
  refine AExit.then_normal ?_
  refine ACode.cond _ rfl (fun hl2 => ?_) (fun hl2 => ?_)
  · have hlo : isLogic e.op = true := by unfold isLogic; rw [show (e.op.data.toList == [124, 124]) = true from hl2, Bool.or_true]
    have hint : (if isInt e.op = true then (1 : Int) else 2) = 2 := by unfold isInt; rw [hev, hlo]; rfl
    refine ACode.seq (ACode.region ?_)
    refine ASeq.q rfl rfl (QOp.move rfl rfl) ?_
    refine ASeq.q rfl rfl (QOp.cmp rfl rfl rfl rfl) ?_
    refine ASeq.q rfl rfl (QOp.fieldM rfl rfl (tok _ rfl) rfl rfl (by decide) rfl) ?_
    refine ASeq.q rfl rfl (QOp.loadM 9 rfl rfl rfl (tok _ rfl) rfl) ?_
    refine ASeq.op rfl rfl (AOp.callP 0 rfl (by kernel_rfl) rfl rfl rfl (cneed_ok _ e.fr e.to 8) ?_ ?_)
    rotate_left
    · (rintro _ _ (⟨⟩ | ⟨hbad⟩); simp only [AExit.then, AExit.inBlock]; exact bodyQ_pan 0 rfl (.no hc2 (hfin (b := false) (by rw [hp, hev, hlo, hbad]; rfl) rfl) rfl (by decide) _))
    rintro _ _ ⟨ha2⟩
    refine ASeq.nil ?_
    refine ACode.seq (ACode.region ?_)
    refine ASeq.q rfl rfl (QOp.assign rfl rfl) ?_
    refine ASeq.nil ?_
    refine ACode.ret (AExit.in_ret (AExit.then_ret ?_))
    refine bodyQ_ret 9 (.tmp rfl .nil) rfl ?_
    exact .yes hc2 (hfin (b := true) (by rw [hp, hev, hlo, ha2]; rfl) hint) rfl
  have hlo : isLogic e.op = false := by unfold isLogic; rw [show (e.op.data.toList == [38, 38]) = false from hl1, show (e.op.data.toList == [124, 124]) = false from hl2]; rfl
  have hint : isInt e.op = ((byteAt e.op 0 != 60) && (byteAt e.op 0 != 62)) := by unfold isInt; rw [hev, hlo]; rfl
  refine ACode.skip (ACode.seq (ACode.region ?_))
  refine ASeq.q rfl rfl (QOp.move rfl rfl) ?_
  refine ASeq.q rfl rfl (QOp.cmp rfl rfl rfl rfl) ?_
  refine ASeq.q rfl rfl (QOp.fieldM rfl rfl (tok _ rfl) rfl rfl (by decide) rfl) ?_
  refine ASeq.q rfl rfl (QOp.loadM 9 rfl rfl rfl (tok _ rfl) rfl) ?_
  refine ASeq.op rfl rfl (AOp.callP 0 rfl (by kernel_rfl) rfl rfl rfl (cneed_ok _ e.fr e.to 8) ?_ ?_)
  rotate_left
  · (rintro _ _ (⟨⟩ | ⟨hbad⟩); simp only [AExit.then, AExit.inBlock]; exact bodyQ_pan 0 rfl (.no hc2 (hfin (b := false) (by rw [hp, hev, hlo, hbad]; rfl) rfl) rfl (by decide) _))
  rintro _ _ ⟨ha1⟩
  refine ASeq.nil ?_
  have hpt : pairOk e.op c1.2 c2.2 = true := by rw [hp, hev, hlo, ha1]; rfl
  refine ACode.seq (ACode.seq (ACode.region ?_))
  have hbyte := getD_get (s := e.op) (i := 0) wop
  refine ASeq.q rfl rfl (QOp.fieldM rfl rfl (tok _ rfl) rfl rfl (by decide) rfl) ?_
  refine ASeq.q rfl rfl (QOp.loadM 9 rfl rfl rfl (tok _ rfl) rfl) ?_
  refine ASeq.q rfl rfl (QOp.indexS rfl rfl rfl (tok _ rfl) rfl (by decide) hbyte) ?_
  refine ASeq.q rfl rfl (QOp.cmp rfl rfl rfl rfl) ?_
  refine ASeq.q rfl rfl (QOp.move rfl rfl) ?_
  refine ASeq.split 43 (byteAt e.op 0 == 60) rfl (fun hb => ?_) (fun hb => ?_)
  · refine ASeq.gno _ _ rfl rfl rfl rfl rfl ?_
    refine ASeq.gno _ _ rfl rfl rfl rfl rfl ?_
    refine ASeq.gno _ _ rfl rfl rfl rfl rfl ?_
    refine ASeq.gno _ _ rfl rfl rfl rfl rfl ?_
    refine ASeq.q rfl rfl (QOp.pickT rfl rfl rfl) ?_
    refine ASeq.nil ?_
    refine AExit.then_normal ?_
    refine ACode.cond _ rfl (fun _ => ?_) (fun hb' => by cases hb')
    refine ACode.seq (ACode.region ?_)
    refine ASeq.q rfl rfl (QOp.assign rfl rfl) ?_
    refine ASeq.nil ?_
    refine ACode.ret (AExit.then_ret ?_)
    refine bodyQ_ret 9 (.tmp rfl .nil) rfl ?_
    exact .yes hc2 (hfin (b := true) hpt (by rw [hint]; unfold bne; rw [hb]; rfl)) rfl
  · refine ASeq.gq _ _ rfl rfl rfl rfl (QOp.fieldM rfl rfl (tok _ rfl) rfl rfl (by decide) rfl) ?_
    refine ASeq.gq _ _ rfl rfl rfl rfl (QOp.loadM 9 rfl rfl rfl (tok _ rfl) rfl) ?_
    refine ASeq.gq _ _ rfl rfl rfl rfl (QOp.indexS rfl rfl rfl (tok _ rfl) rfl (by decide) hbyte) ?_
    refine ASeq.gq _ _ rfl rfl rfl rfl (QOp.cmp rfl rfl rfl rfl) ?_
    refine ASeq.q rfl rfl (QOp.pickF rfl rfl rfl) ?_
    refine ASeq.nil ?_
    refine AExit.then_normal ?_
    refine ACode.cond _ rfl (fun hb2 => ?_) (fun hb2 => ?_)
    · refine ACode.seq (ACode.region ?_)
      refine ASeq.q rfl rfl (QOp.assign rfl rfl) ?_
      refine ASeq.nil ?_
      refine ACode.ret (AExit.then_ret ?_)
      refine bodyQ_ret 9 (.tmp rfl .nil) rfl ?_
      exact .yes hc2 (hfin (b := true) hpt (by rw [hint]; unfold bne; rw [hb, show (byteAt e.op 0 == 62) = true from hb2]; rfl)) rfl
    · refine ACode.skip (ACode.seq (ACode.region ?_))
      refine ASeq.q rfl rfl (QOp.assign rfl rfl) ?_
      refine ASeq.nil ?_
      refine ACode.ret ?_
      refine bodyQ_ret 9 (.tmp rfl .nil) rfl ?_
      exact .yes hc2 (hfin (b := true) hpt (by rw [hint]; unfold bne; rw [hb, show (byteAt e.op 0 == 62) = false from hb2]; rfl)) rfl
end Go.Proofs.Ytaadamobapnfbaa
set_option linter.unusedVariables false
set_option linter.unusedSimpArgs false
set_option maxRecDepth 100000
namespace Go.Proofs.Ytaadamobapnfbaa
open Go Go.Abs
def sameF (s : ByteArray) (g : Fu) : Bool := g.name.data.toList == s.data.toList
theorem same117 (e : Ex) (n : Fu) (m : Nat) : ACalls Try.prog 117 [.agg n.cells, .mp m 0] [.mu m e.cells] (RV (.v (.bool (sameF e.name n))) [.mu m e.cells]) := by
  refine ACalls.of_code (c := _) Try.func117 rfl Try.ntmps117 (Nat.le_of_ble_eq_true rfl) ?_
  repeat (first | (refine ACode.seq ?_) | (refine ACode.region ?_) | (refine ACode.ret ?_) | (refine ACode.skip ?_) | (refine ACode.exit ?_) | (refine ACode.block ?_) | (refine AExit.then_normal ?_) | (refine AExit.then_ret ?_) | (refine AExit.then_exit ?_) | (refine AExit.in_normal ?_) | (refine AExit.in_ret ?_) | (refine AExit.in_same ?_) | (refine AExit.in_other rfl ?_) | (refine ASeq.nil ?_))
  refine ASeq.op rfl rfl (AOp.boxP rfl rfl rfl (fun _ => rfl) (fun _ => ?_))
  refine ASeq.q rfl rfl (QOp.assign rfl rfl) ?_
  refine ASeq.nil ?_
  rename_i m2
  repeat (first | (refine ACode.seq ?_) | (refine ACode.region ?_) | (refine ACode.ret ?_) | (refine ACode.skip ?_) | (refine ACode.exit ?_) | (refine ACode.block ?_) | (refine AExit.then_normal ?_) | (refine AExit.then_ret ?_) | (refine AExit.then_exit ?_) | (refine AExit.in_normal ?_) | (refine AExit.in_ret ?_) | (refine AExit.in_same ?_) | (refine AExit.in_other rfl ?_) | (refine ASeq.nil ?_))
  first | (refine ASeq.q rfl rfl (QOp.fieldM rfl rfl (tok _ rfl) rfl rfl (by decide) rfl) ?_) | (refine ASeq.q rfl rfl (QOp.fieldI rfl rfl (tok _ rfl) rfl rfl (by decide) rfl) ?_)
  first | (refine ASeq.q rfl rfl (QOp.loadI rfl rfl (tok _ rfl) rfl) ?_) | (refine ASeq.q rfl rfl (QOp.loadM 0 rfl rfl rfl (tok _ rfl) rfl) ?_) | (refine ASeq.q rfl rfl (QOp.loadM 1 rfl rfl rfl (tok _ rfl) rfl) ?_) | (refine ASeq.q rfl rfl (QOp.loadM 2 rfl rfl rfl (tok _ rfl) rfl) ?_) | (refine ASeq.q rfl rfl (QOp.loadM 3 rfl rfl rfl (tok _ rfl) rfl) ?_) | (refine ASeq.q rfl rfl (QOp.loadM 4 rfl rfl rfl (tok _ rfl) rfl) ?_) | (refine ASeq.q rfl rfl (QOp.loadM 5 rfl rfl rfl (tok _ rfl) rfl) ?_) | (refine ASeq.q rfl rfl (QOp.loadM 6 rfl rfl rfl (tok _ rfl) rfl) ?_) | (refine ASeq.q rfl rfl (QOp.loadM 7 rfl rfl rfl (tok _ rfl) rfl) ?_) | (refine ASeq.q rfl rfl (QOp.loadM 8 rfl rfl rfl (tok _ rfl) rfl) ?_) | (refine ASeq.q rfl rfl (QOp.loadM 9 rfl rfl rfl (tok _ rfl) rfl) ?_) | (refine ASeq.q rfl rfl (QOp.loadM 10 rfl rfl rfl (tok _ rfl) rfl) ?_) | (refine ASeq.q rfl rfl (QOp.loadM 11 rfl rfl rfl (tok _ rfl) rfl) ?_) | (refine ASeq.q rfl rfl (QOp.loadM 12 rfl rfl rfl (tok _ rfl) rfl) ?_) | (refine ASeq.q rfl rfl (QOp.loadM 13 rfl rfl rfl (tok _ rfl) rfl) ?_) | (refine ASeq.q rfl rfl (QOp.loadM 14 rfl rfl rfl (tok _ rfl) rfl) ?_) | (refine ASeq.q rfl rfl (QOp.loadM 15 rfl rfl rfl (tok _ rfl) rfl) ?_) | (refine ASeq.q rfl rfl (QOp.loadAt 0 rfl rfl rfl (tok _ rfl) rfl (by assumption)) ?_) | (refine ASeq.q rfl rfl (QOp.loadAt 1 rfl rfl rfl (tok _ rfl) rfl (by assumption)) ?_) | (refine ASeq.q rfl rfl (QOp.loadAt 2 rfl rfl rfl (tok _ rfl) rfl (by assumption)) ?_) | (refine ASeq.q rfl rfl (QOp.loadAt 3 rfl rfl rfl (tok _ rfl) rfl (by assumption)) ?_) | (refine ASeq.q rfl rfl (QOp.loadAt 4 rfl rfl rfl (tok _ rfl) rfl (by assumption)) ?_) | (refine ASeq.q rfl rfl (QOp.loadAt 5 rfl rfl rfl (tok _ rfl) rfl (by assumption)) ?_) | (refine ASeq.q rfl rfl (QOp.loadAt 6 rfl rfl rfl (tok _ rfl) rfl (by assumption)) ?_) | (refine ASeq.q rfl rfl (QOp.loadAt 7 rfl rfl rfl (tok _ rfl) rfl (by assumption)) ?_)
  first | (refine ASeq.q rfl rfl (QOp.fieldM rfl rfl (tok _ rfl) rfl rfl (by decide) rfl) ?_) | (refine ASeq.q rfl rfl (QOp.fieldI rfl rfl (tok _ rfl) rfl rfl (by decide) rfl) ?_)
  first | (refine ASeq.q rfl rfl (QOp.loadI rfl rfl (tok _ rfl) rfl) ?_) | (refine ASeq.q rfl rfl (QOp.loadM 0 rfl rfl rfl (tok _ rfl) rfl) ?_) | (refine ASeq.q rfl rfl (QOp.loadM 1 rfl rfl rfl (tok _ rfl) rfl) ?_) | (refine ASeq.q rfl rfl (QOp.loadM 2 rfl rfl rfl (tok _ rfl) rfl) ?_) | (refine ASeq.q rfl rfl (QOp.loadM 3 rfl rfl rfl (tok _ rfl) rfl) ?_) | (refine ASeq.q rfl rfl (QOp.loadM 4 rfl rfl rfl (tok _ rfl) rfl) ?_) | (refine ASeq.q rfl rfl (QOp.loadM 5 rfl rfl rfl (tok _ rfl) rfl) ?_) | (refine ASeq.q rfl rfl (QOp.loadM 6 rfl rfl rfl (tok _ rfl) rfl) ?_) | (refine ASeq.q rfl rfl (QOp.loadM 7 rfl rfl rfl (tok _ rfl) rfl) ?_) | (refine ASeq.q rfl rfl (QOp.loadM 8 rfl rfl rfl (tok _ rfl) rfl) ?_) | (refine ASeq.q rfl rfl (QOp.loadM 9 rfl rfl rfl (tok _ rfl) rfl) ?_) | (refine ASeq.q rfl rfl (QOp.loadM 10 rfl rfl rfl (tok _ rfl) rfl) ?_) | (refine ASeq.q rfl rfl (QOp.loadM 11 rfl rfl rfl (tok _ rfl) rfl) ?_) | (refine ASeq.q rfl rfl (QOp.loadM 12 rfl rfl rfl (tok _ rfl) rfl) ?_) | (refine ASeq.q rfl rfl (QOp.loadM 13 rfl rfl rfl (tok _ rfl) rfl) ?_) | (refine ASeq.q rfl rfl (QOp.loadM 14 rfl rfl rfl (tok _ rfl) rfl) ?_) | (refine ASeq.q rfl rfl (QOp.loadM 15 rfl rfl rfl (tok _ rfl) rfl) ?_) | (refine ASeq.q rfl rfl (QOp.loadAt 0 rfl rfl rfl (tok _ rfl) rfl (by assumption)) ?_) | (refine ASeq.q rfl rfl (QOp.loadAt 1 rfl rfl rfl (tok _ rfl) rfl (by assumption)) ?_) | (refine ASeq.q rfl rfl (QOp.loadAt 2 rfl rfl rfl (tok _ rfl) rfl (by assumption)) ?_) | (refine ASeq.q rfl rfl (QOp.loadAt 3 rfl rfl rfl (tok _ rfl) rfl (by assumption)) ?_) | (refine ASeq.q rfl rfl (QOp.loadAt 4 rfl rfl rfl (tok _ rfl) rfl (by assumption)) ?_) | (refine ASeq.q rfl rfl (QOp.loadAt 5 rfl rfl rfl (tok _ rfl) rfl (by assumption)) ?_) | (refine ASeq.q rfl rfl (QOp.loadAt 6 rfl rfl rfl (tok _ rfl) rfl (by assumption)) ?_) | (refine ASeq.q rfl rfl (QOp.loadAt 7 rfl rfl rfl (tok _ rfl) rfl (by assumption)) ?_)
  refine ASeq.q rfl rfl (QOp.cmpStr rfl rfl rfl rfl) ?_
  refine ASeq.q rfl rfl (QOp.assign rfl rfl) ?_
  refine ASeq.nil ?_
  repeat (first | (refine ACode.seq ?_) | (refine ACode.region ?_) | (refine ACode.ret ?_) | (refine ACode.skip ?_) | (refine ACode.exit ?_) | (refine ACode.block ?_) | (refine AExit.then_normal ?_) | (refine AExit.then_ret ?_) | (refine AExit.then_exit ?_) | (refine AExit.in_normal ?_) | (refine AExit.in_ret ?_) | (refine AExit.in_same ?_) | (refine AExit.in_other rfl ?_) | (refine ASeq.nil ?_))
  refine bodyQ_ret 1 (.tmp rfl .nil) rfl ?_
  exact .mk
theorem same63 (g : Fu) (n : Fu) (m : Nat) : ACalls Try.prog 63 [.agg n.cells, .mp m 0] [.mu m g.cells] (RV (.v (.bool (sameF g.name n))) [.mu m g.cells]) := by
  refine ACalls.of_code (c := _) Try.func63 rfl Try.ntmps63 (Nat.le_of_ble_eq_true rfl) ?_
  repeat (first | (refine ACode.seq ?_) | (refine ACode.region ?_) | (refine ACode.ret ?_) | (refine ACode.skip ?_) | (refine ACode.exit ?_) | (refine ACode.block ?_) | (refine AExit.then_normal ?_) | (refine AExit.then_ret ?_) | (refine AExit.then_exit ?_) | (refine AExit.in_normal ?_) | (refine AExit.in_ret ?_) | (refine AExit.in_same ?_) | (refine AExit.in_other rfl ?_) | (refine ASeq.nil ?_))
  refine ASeq.op rfl rfl (AOp.boxP rfl rfl rfl (fun _ => rfl) (fun _ => ?_))
  refine ASeq.q rfl rfl (QOp.assign rfl rfl) ?_
  refine ASeq.nil ?_
  rename_i m2
  repeat (first | (refine ACode.seq ?_) | (refine ACode.region ?_) | (refine ACode.ret ?_) | (refine ACode.skip ?_) | (refine ACode.exit ?_) | (refine ACode.block ?_) | (refine AExit.then_normal ?_) | (refine AExit.then_ret ?_) | (refine AExit.then_exit ?_) | (refine AExit.in_normal ?_) | (refine AExit.in_ret ?_) | (refine AExit.in_same ?_) | (refine AExit.in_other rfl ?_) | (refine ASeq.nil ?_))
  first | (refine ASeq.q rfl rfl (QOp.fieldM rfl rfl (tok _ rfl) rfl rfl (by decide) rfl) ?_) | (refine ASeq.q rfl rfl (QOp.fieldI rfl rfl (tok _ rfl) rfl rfl (by decide) rfl) ?_)
  first | (refine ASeq.q rfl rfl (QOp.loadI rfl rfl (tok _ rfl) rfl) ?_) | (refine ASeq.q rfl rfl (QOp.loadM 0 rfl rfl rfl (tok _ rfl) rfl) ?_) | (refine ASeq.q rfl rfl (QOp.loadM 1 rfl rfl rfl (tok _ rfl) rfl) ?_) | (refine ASeq.q rfl rfl (QOp.loadM 2 rfl rfl rfl (tok _ rfl) rfl) ?_) | (refine ASeq.q rfl rfl (QOp.loadM 3 rfl rfl rfl (tok _ rfl) rfl) ?_) | (refine ASeq.q rfl rfl (QOp.loadM 4 rfl rfl rfl (tok _ rfl) rfl) ?_) | (refine ASeq.q rfl rfl (QOp.loadM 5 rfl rfl rfl (tok _ rfl) rfl) ?_) | (refine ASeq.q rfl rfl (QOp.loadM 6 rfl rfl rfl (tok _ rfl) rfl) ?_) | (refine ASeq.q rfl rfl (QOp.loadM 7 rfl rfl rfl (tok _ rfl) rfl) ?_) | (refine ASeq.q rfl rfl (QOp.loadM 8 rfl rfl rfl (tok _ rfl) rfl) ?_) | (refine ASeq.q rfl rfl (QOp.loadM 9 rfl rfl rfl (tok _ rfl) rfl) ?_) | (refine ASeq.q rfl rfl (QOp.loadM 10 rfl rfl rfl (tok _ rfl) rfl) ?_) | (refine ASeq.q rfl rfl (QOp.loadM 11 rfl rfl rfl (tok _ rfl) rfl) ?_) | (refine ASeq.q rfl rfl (QOp.loadM 12 rfl rfl rfl (tok _ rfl) rfl) ?_) | (refine ASeq.q rfl rfl (QOp.loadM 13 rfl rfl rfl (tok _ rfl) rfl) ?_) | (refine ASeq.q rfl rfl (QOp.loadM 14 rfl rfl rfl (tok _ rfl) rfl) ?_) | (refine ASeq.q rfl rfl (QOp.loadM 15 rfl rfl rfl (tok _ rfl) rfl) ?_) | (refine ASeq.q rfl rfl (QOp.loadAt 0 rfl rfl rfl (tok _ rfl) rfl (by assumption)) ?_) | (refine ASeq.q rfl rfl (QOp.loadAt 1 rfl rfl rfl (tok _ rfl) rfl (by assumption)) ?_) | (refine ASeq.q rfl rfl (QOp.loadAt 2 rfl rfl rfl (tok _ rfl) rfl (by assumption)) ?_) | (refine ASeq.q rfl rfl (QOp.loadAt 3 rfl rfl rfl (tok _ rfl) rfl (by assumption)) ?_) | (refine ASeq.q rfl rfl (QOp.loadAt 4 rfl rfl rfl (tok _ rfl) rfl (by assumption)) ?_) | (refine ASeq.q rfl rfl (QOp.loadAt 5 rfl rfl rfl (tok _ rfl) rfl (by assumption)) ?_) | (refine ASeq.q rfl rfl (QOp.loadAt 6 rfl rfl rfl (tok _ rfl) rfl (by assumption)) ?_) | (refine ASeq.q rfl rfl (QOp.loadAt 7 rfl rfl rfl (tok _ rfl) rfl (by assumption)) ?_)
  first | (refine ASeq.q rfl rfl (QOp.fieldM rfl rfl (tok _ rfl) rfl rfl (by decide) rfl) ?_) | (refine ASeq.q rfl rfl (QOp.fieldI rfl rfl (tok _ rfl) rfl rfl (by decide) rfl) ?_)
  first | (refine ASeq.q rfl rfl (QOp.loadI rfl rfl (tok _ rfl) rfl) ?_) | (refine ASeq.q rfl rfl (QOp.loadM 0 rfl rfl rfl (tok _ rfl) rfl) ?_) | (refine ASeq.q rfl rfl (QOp.loadM 1 rfl rfl rfl (tok _ rfl) rfl) ?_) | (refine ASeq.q rfl rfl (QOp.loadM 2 rfl rfl rfl (tok _ rfl) rfl) ?_) | (refine ASeq.q rfl rfl (QOp.loadM 3 rfl rfl rfl (tok _ rfl) rfl) ?_) | (refine ASeq.q rfl rfl (QOp.loadM 4 rfl rfl rfl (tok _ rfl) rfl) ?_) | (refine ASeq.q rfl rfl (QOp.loadM 5 rfl rfl rfl (tok _ rfl) rfl) ?_) | (refine ASeq.q rfl rfl (QOp.loadM 6 rfl rfl rfl (tok _ rfl) rfl) ?_) | (refine ASeq.q rfl rfl (QOp.loadM 7 rfl rfl rfl (tok _ rfl) rfl) ?_) | (refine ASeq.q rfl rfl (QOp.loadM 8 rfl rfl rfl (tok _ rfl) rfl) ?_) | (refine ASeq.q rfl rfl (QOp.loadM 9 rfl rfl rfl (tok _ rfl) rfl) ?_) | (refine ASeq.q rfl rfl (QOp.loadM 10 rfl rfl rfl (tok _ rfl) rfl) ?_) | (refine ASeq.q rfl rfl (QOp.loadM 11 rfl rfl rfl (tok _ rfl) rfl) ?_) | (refine ASeq.q rfl rfl (QOp.loadM 12 rfl rfl rfl (tok _ rfl) rfl) ?_) | (refine ASeq.q rfl rfl (QOp.loadM 13 rfl rfl rfl (tok _ rfl) rfl) ?_) | (refine ASeq.q rfl rfl (QOp.loadM 14 rfl rfl rfl (tok _ rfl) rfl) ?_) | (refine ASeq.q rfl rfl (QOp.loadM 15 rfl rfl rfl (tok _ rfl) rfl) ?_) | (refine ASeq.q rfl rfl (QOp.loadAt 0 rfl rfl rfl (tok _ rfl) rfl (by assumption)) ?_) | (refine ASeq.q rfl rfl (QOp.loadAt 1 rfl rfl rfl (tok _ rfl) rfl (by assumption)) ?_) | (refine ASeq.q rfl rfl (QOp.loadAt 2 rfl rfl rfl (tok _ rfl) rfl (by assumption)) ?_) | (refine ASeq.q rfl rfl (QOp.loadAt 3 rfl rfl rfl (tok _ rfl) rfl (by assumption)) ?_) | (refine ASeq.q rfl rfl (QOp.loadAt 4 rfl rfl rfl (tok _ rfl) rfl (by assumption)) ?_) | (refine ASeq.q rfl rfl (QOp.loadAt 5 rfl rfl rfl (tok _ rfl) rfl (by assumption)) ?_) | (refine ASeq.q rfl rfl (QOp.loadAt 6 rfl rfl rfl (tok _ rfl) rfl (by assumption)) ?_) | (refine ASeq.q rfl rfl (QOp.loadAt 7 rfl rfl rfl (tok _ rfl) rfl (by assumption)) ?_)
  refine ASeq.q rfl rfl (QOp.cmpStr rfl rfl rfl rfl) ?_
  refine ASeq.q rfl rfl (QOp.assign rfl rfl) ?_
  refine ASeq.nil ?_
  repeat (first | (refine ACode.seq ?_) | (refine ACode.region ?_) | (refine ACode.ret ?_) | (refine ACode.skip ?_) | (refine ACode.exit ?_) | (refine ACode.block ?_) | (refine AExit.then_normal ?_) | (refine AExit.then_ret ?_) | (refine AExit.then_exit ?_) | (refine AExit.in_normal ?_) | (refine AExit.in_ret ?_) | (refine AExit.in_same ?_) | (refine AExit.in_other rfl ?_) | (refine ASeq.nil ?_))
  refine bodyQ_ret 1 (.tmp rfl .nil) rfl ?_
  exact .mk
/-- the first one's place; -1: none -/
def idxF (s : ByteArray) : List Fu → Nat → Int
  | [], _ => -1
  | n :: l, k => if sameF s n = true then (k : Int) else idxF s l (k + 1)
theorem idxF_drop (s : ByteArray) (l : List Fu) (k : Nat) (h : k < l.length) : idxF s (l.drop k) k = if sameF s l[k] = true then (k : Int) else idxF s (l.drop (k + 1)) (k + 1) := by
  rw [List.drop_eq_getElem_cons h]; rfl
theorem fus_get {l : List Fu} {k : Nat} (h : k < l.length) : (l.map Fu.cells)[k]? = some l[k].cells := by
  rw [List.getElem?_map, List.getElem?_eq_getElem h]; rfl
theorem index82 (g : FuncId) (hg : callOk Try.prog g = true) (s : ByteArray) (m : Nat) (cells : List AV) (hs : ∀ (n : Fu), ACalls Try.prog g [.agg n.cells, .mp m 0] [.mu m cells] (RV (.v (.bool (sameF s n))) [.mu m cells]))
    (tk : Option Nat) (l : List Fu) (hl : l.length ≤ 1048576) : ACalls Try.prog 82 [.il 6 tk (l.map Fu.cells), .fn (.func g) [] [.mp m 0]] [.mu m cells] (RV (vi (idxF s l 0)) [.mu m cells]) := by
  have hll : (l.map Fu.cells).length = l.length := List.length_map ..
  refine ACalls.of_code (c := _) Try.func82 rfl Try.ntmps82 (Nat.le_of_ble_eq_true rfl) ?_
  repeat (first | (refine ACode.seq ?_) | (refine ACode.region ?_) | (refine ACode.ret ?_) | (refine ACode.skip ?_) | (refine ACode.exit ?_) | (refine ACode.block ?_) | (refine AExit.then_normal ?_) | (refine AExit.then_ret ?_) | (refine AExit.then_exit ?_) | (refine AExit.in_normal ?_) | (refine AExit.in_ret ?_) | (refine AExit.in_same ?_) | (refine AExit.in_other rfl ?_) | (refine ASeq.nil ?_))
  refine ASeq.q rfl rfl (QOp.assign rfl rfl) ?_
  refine ASeq.nil ?_
  repeat (first | (refine ACode.seq ?_) | (refine ACode.region ?_) | (refine ACode.ret ?_) | (refine ACode.skip ?_) | (refine ACode.exit ?_) | (refine ACode.block ?_) | (refine AExit.then_normal ?_) | (refine AExit.then_ret ?_) | (refine AExit.then_exit ?_) | (refine AExit.in_normal ?_) | (refine AExit.in_ret ?_) | (refine AExit.in_same ?_) | (refine AExit.in_other rfl ?_) | (refine ASeq.nil ?_))
  refine ASeq.q rfl rfl (QOp.move rfl rfl) ?_
  first | (refine ASeq.q rfl rfl (QOp.lenI rfl rfl (tok _ rfl) rfl) ?_) | (refine ASeq.q rfl rfl (QOp.lenM rfl rfl (tok _ rfl) rfl) ?_) | (refine ASeq.q rfl rfl (QOp.lenS rfl rfl (tok _ rfl) rfl) ?_) | (refine ASeq.q rfl rfl (QOp.lenN rfl rfl (tok _ rfl) rfl) ?_)
  refine ASeq.q rfl rfl (QOp.move rfl rfl) ?_
  refine ASeq.nil ?_
  repeat (first | (refine ACode.seq ?_) | (refine ACode.region ?_) | (refine ACode.ret ?_) | (refine ACode.skip ?_) | (refine ACode.exit ?_) | (refine ACode.block ?_) | (refine AExit.then_normal ?_) | (refine AExit.then_ret ?_) | (refine AExit.then_exit ?_) | (refine AExit.in_normal ?_) | (refine AExit.in_ret ?_) | (refine AExit.in_same ?_) | (refine AExit.in_other rfl ?_) | (refine ASeq.nil ?_))
  refine ACode.loopP (fun (k : Nat) => [(0, .il 6 tk (l.map Fu.cells)), (1, .fn (.func g) [] [.mp m 0]), (7, vi ((l.map Fu.cells).length : Int)), (8, vi k)]) (fun _ => [.mu m cells]) (fun k => l.length - k)
    (fun k => k ≤ l.length ∧ idxF s (l.drop k) k = idxF s l 0) 0 ⟨Nat.zero_le _, rfl⟩ (.cons rfl (.cons rfl (.cons rfl (.cons rfl .nil)))) 1 rfl ?_
  rintro k ⟨hk, he⟩
  repeat (first | (refine ACode.seq ?_) | (refine ACode.region ?_) | (refine ACode.ret ?_) | (refine ACode.skip ?_) | (refine ACode.exit ?_) | (refine ACode.block ?_) | (refine AExit.then_normal ?_) | (refine AExit.then_ret ?_) | (refine AExit.then_exit ?_) | (refine AExit.in_normal ?_) | (refine AExit.in_ret ?_) | (refine AExit.in_same ?_) | (refine AExit.in_other rfl ?_) | (refine ASeq.nil ?_))
  refine ASeq.q rfl rfl (QOp.cmp rfl rfl rfl rfl) ?_
  refine ASeq.nil ?_
  refine ACode.seq ?_
  refine ACode.cond _ rfl (fun hb => ?_) (fun hb => ?_)
  · have hlt : k < l.length := by have := of_decide_eq_true hb; rw [hll] at this; omega
    have hget := fus_get hlt
    have hsk := hs l[k]
    rw [idxF_drop s l k hlt] at he
    repeat (first | (refine ACode.seq ?_) | (refine ACode.region ?_) | (refine ACode.ret ?_) | (refine ACode.skip ?_) | (refine ACode.exit ?_) | (refine ACode.block ?_) | (refine AExit.then_normal ?_) | (refine AExit.then_ret ?_) | (refine AExit.then_exit ?_) | (refine AExit.in_normal ?_) | (refine AExit.in_ret ?_) | (refine AExit.in_same ?_) | (refine AExit.in_other rfl ?_) | (refine ASeq.nil ?_))
    refine ASeq.q rfl rfl (QOp.move rfl rfl) ?_
    refine ASeq.q rfl rfl (QOp.assign rfl rfl) ?_
    refine ASeq.nil ?_
    repeat (first | (refine ACode.seq ?_) | (refine ACode.region ?_) | (refine ACode.ret ?_) | (refine ACode.skip ?_) | (refine ACode.exit ?_) | (refine ACode.block ?_) | (refine AExit.then_normal ?_) | (refine AExit.then_ret ?_) | (refine AExit.then_exit ?_) | (refine AExit.in_normal ?_) | (refine AExit.in_ret ?_) | (refine AExit.in_same ?_) | (refine AExit.in_other rfl ?_) | (refine ASeq.nil ?_))
    refine ASeq.q rfl rfl (QOp.move rfl rfl) ?_
    refine ASeq.q rfl rfl (QOp.move rfl rfl) ?_
    refine ASeq.q rfl rfl (QOp.move rfl rfl) ?_
    first | (refine ASeq.q rfl rfl (QOp.indexI rfl rfl rfl (tok _ rfl) rfl (tok _ rfl) (by first | (decide) | (omega)) (by first | (rfl) | (assumption))) ?_) | (refine ASeq.q rfl rfl (QOp.indexM rfl rfl rfl (tok _ rfl) rfl (tok _ rfl) (by first | (decide) | (omega)) (by first | (decide) | (omega)) rfl) ?_) | (refine ASeq.q rfl rfl (QOp.indexArr rfl rfl rfl (tok _ rfl) rfl (tok _ rfl) (by decide) (by decide) rfl) ?_)
    first | (refine ASeq.q rfl rfl (QOp.loadI rfl rfl (tok _ rfl) rfl) ?_) | (refine ASeq.q rfl rfl (QOp.loadM 0 rfl rfl rfl (tok _ rfl) rfl) ?_) | (refine ASeq.q rfl rfl (QOp.loadM 1 rfl rfl rfl (tok _ rfl) rfl) ?_) | (refine ASeq.q rfl rfl (QOp.loadM 2 rfl rfl rfl (tok _ rfl) rfl) ?_) | (refine ASeq.q rfl rfl (QOp.loadM 3 rfl rfl rfl (tok _ rfl) rfl) ?_) | (refine ASeq.q rfl rfl (QOp.loadM 4 rfl rfl rfl (tok _ rfl) rfl) ?_) | (refine ASeq.q rfl rfl (QOp.loadM 5 rfl rfl rfl (tok _ rfl) rfl) ?_) | (refine ASeq.q rfl rfl (QOp.loadM 6 rfl rfl rfl (tok _ rfl) rfl) ?_) | (refine ASeq.q rfl rfl (QOp.loadM 7 rfl rfl rfl (tok _ rfl) rfl) ?_) | (refine ASeq.q rfl rfl (QOp.loadM 8 rfl rfl rfl (tok _ rfl) rfl) ?_) | (refine ASeq.q rfl rfl (QOp.loadM 9 rfl rfl rfl (tok _ rfl) rfl) ?_) | (refine ASeq.q rfl rfl (QOp.loadM 10 rfl rfl rfl (tok _ rfl) rfl) ?_) | (refine ASeq.q rfl rfl (QOp.loadM 11 rfl rfl rfl (tok _ rfl) rfl) ?_) | (refine ASeq.q rfl rfl (QOp.loadM 12 rfl rfl rfl (tok _ rfl) rfl) ?_) | (refine ASeq.q rfl rfl (QOp.loadM 13 rfl rfl rfl (tok _ rfl) rfl) ?_) | (refine ASeq.q rfl rfl (QOp.loadM 14 rfl rfl rfl (tok _ rfl) rfl) ?_) | (refine ASeq.q rfl rfl (QOp.loadM 15 rfl rfl rfl (tok _ rfl) rfl) ?_) | (refine ASeq.q rfl rfl (QOp.loadAt 0 rfl rfl rfl (tok _ rfl) rfl (by assumption)) ?_) | (refine ASeq.q rfl rfl (QOp.loadAt 1 rfl rfl rfl (tok _ rfl) rfl (by assumption)) ?_) | (refine ASeq.q rfl rfl (QOp.loadAt 2 rfl rfl rfl (tok _ rfl) rfl (by assumption)) ?_) | (refine ASeq.q rfl rfl (QOp.loadAt 3 rfl rfl rfl (tok _ rfl) rfl (by assumption)) ?_) | (refine ASeq.q rfl rfl (QOp.loadAt 4 rfl rfl rfl (tok _ rfl) rfl (by assumption)) ?_) | (refine ASeq.q rfl rfl (QOp.loadAt 5 rfl rfl rfl (tok _ rfl) rfl (by assumption)) ?_) | (refine ASeq.q rfl rfl (QOp.loadAt 6 rfl rfl rfl (tok _ rfl) rfl (by assumption)) ?_) | (refine ASeq.q rfl rfl (QOp.loadAt 7 rfl rfl rfl (tok _ rfl) rfl (by assumption)) ?_)
    refine ASeq.op rfl rfl (AOp.callFnP 1 rfl hg rfl rfl rfl rfl hsk ?_ (by rintro _ _ ⟨⟩))
    rintro _ _ ⟨⟩
    refine ASeq.nil ?_
    repeat (first | (refine ACode.seq ?_) | (refine ACode.region ?_) | (refine ACode.ret ?_) | (refine ACode.skip ?_) | (refine ACode.exit ?_) | (refine ACode.block ?_) | (refine AExit.then_normal ?_) | (refine AExit.then_ret ?_) | (refine AExit.then_exit ?_) | (refine AExit.in_normal ?_) | (refine AExit.in_ret ?_) | (refine AExit.in_same ?_) | (refine AExit.in_other rfl ?_) | (refine ASeq.nil ?_))
    refine ACode.cond _ rfl (fun hb => ?_) (fun hb => ?_)
    · rw [if_pos hb] at he
      repeat (first | (refine ACode.seq ?_) | (refine ACode.region ?_) | (refine ACode.ret ?_) | (refine ACode.skip ?_) | (refine ACode.exit ?_) | (refine ACode.block ?_) | (refine AExit.then_normal ?_) | (refine AExit.then_ret ?_) | (refine AExit.then_exit ?_) | (refine AExit.in_normal ?_) | (refine AExit.in_ret ?_) | (refine AExit.in_same ?_) | (refine AExit.in_other rfl ?_) | (refine ASeq.nil ?_))
      refine ASeq.q rfl rfl (QOp.move rfl rfl) ?_
      refine ASeq.q rfl rfl (QOp.assign rfl rfl) ?_
      refine ASeq.nil ?_
      repeat (first | (refine ACode.seq ?_) | (refine ACode.region ?_) | (refine ACode.ret ?_) | (refine ACode.skip ?_) | (refine ACode.exit ?_) | (refine ACode.block ?_) | (refine AExit.then_normal ?_) | (refine AExit.then_ret ?_) | (refine AExit.then_exit ?_) | (refine AExit.in_normal ?_) | (refine AExit.in_ret ?_) | (refine AExit.in_same ?_) | (refine AExit.in_other rfl ?_) | (refine ASeq.nil ?_))
      refine bodyQ_ret 1 (.tmp rfl .nil) rfl ?_
      rw [← he]; exact .mk
    · rw [if_neg (by rw [hb]; decide)] at he
      repeat (first | (refine ACode.seq ?_) | (refine ACode.region ?_) | (refine ACode.ret ?_) | (refine ACode.skip ?_) | (refine ACode.exit ?_) | (refine ACode.block ?_) | (refine AExit.then_normal ?_) | (refine AExit.then_ret ?_) | (refine AExit.then_exit ?_) | (refine AExit.in_normal ?_) | (refine AExit.in_ret ?_) | (refine AExit.in_same ?_) | (refine AExit.in_other rfl ?_) | (refine ASeq.nil ?_))
      refine ASeq.q rfl rfl (QOp.ar64 rfl rfl rfl rfl ⟨by first | (omega) | (simp only [List.length_append, List.length_map, List.length_cons, List.length_nil]; omega), by first | (omega) | (simp only [List.length_append, List.length_map, List.length_cons, List.length_nil]; omega)⟩) ?_
      refine ASeq.q rfl rfl (QOp.move rfl rfl) ?_
      refine ASeq.nil ?_
      repeat (first | (refine ACode.seq ?_) | (refine ACode.region ?_) | (refine ACode.ret ?_) | (refine ACode.skip ?_) | (refine ACode.exit ?_) | (refine ACode.block ?_) | (refine AExit.then_normal ?_) | (refine AExit.then_ret ?_) | (refine AExit.then_exit ?_) | (refine AExit.in_normal ?_) | (refine AExit.in_ret ?_) | (refine AExit.in_same ?_) | (refine AExit.in_other rfl ?_) | (refine ASeq.nil ?_))
      exact ⟨k + 1, 1, ⟨hlt, he⟩, by omega, .cons rfl (.cons rfl (.cons rfl (.cons rfl .nil))), rfl⟩
  · have hge : k = l.length := by have := of_decide_eq_false hb; rw [hll] at this; omega
    subst hge
    rw [List.drop_length] at he
    repeat (first | (refine ACode.seq ?_) | (refine ACode.region ?_) | (refine ACode.ret ?_) | (refine ACode.skip ?_) | (refine ACode.exit ?_) | (refine ACode.block ?_) | (refine AExit.then_normal ?_) | (refine AExit.then_ret ?_) | (refine AExit.then_exit ?_) | (refine AExit.in_normal ?_) | (refine AExit.in_ret ?_) | (refine AExit.in_same ?_) | (refine AExit.in_other rfl ?_) | (refine ASeq.nil ?_))
    refine ASeq.q rfl rfl (QOp.assign rfl rfl) ?_
    refine ASeq.nil ?_
    repeat (first | (refine ACode.seq ?_) | (refine ACode.region ?_) | (refine ACode.ret ?_) | (refine ACode.skip ?_) | (refine ACode.exit ?_) | (refine ACode.block ?_) | (refine AExit.then_normal ?_) | (refine AExit.then_ret ?_) | (refine AExit.then_exit ?_) | (refine AExit.in_normal ?_) | (refine AExit.in_ret ?_) | (refine AExit.in_same ?_) | (refine AExit.in_other rfl ?_) | (refine ASeq.nil ?_))
    refine bodyQ_ret 1 (.tmp rfl .nil) rfl ?_
    rw [← he]; exact .mk
theorem idxF_any (s : ByteArray) : ∀ (l : List Fu) (k : Nat), decide (idxF s l k ≥ 0) = l.any (sameF s)
  | [], k => by simp [idxF]
  | n :: l, k => by
    simp only [idxF, List.any_cons]
    split
    · rename_i h; rw [h]; simp
    · rename_i h; rw [idxF_any s l (k + 1)]; simp [h]
theorem has62 (g : Fu) (m : Nat) (tk : Option Nat) (l : List Fu) (hl : l.length ≤ 1048576) : ACalls Try.prog 62 [.il 6 tk (l.map Fu.cells), .fn (.func 63) [] [.mp m 0]] [.mu m g.cells] (RV (.v (.bool (l.any (sameF g.name)))) [.mu m g.cells]) := by
  have hi := index82 63 (by kernel_rfl) g.name m g.cells (fun n => same63 g n m) tk l hl
  refine ACalls.of_code (c := _) Try.func62 rfl Try.ntmps62 (Nat.le_of_ble_eq_true rfl) ?_
  repeat (first | (refine ACode.seq ?_) | (refine ACode.region ?_) | (refine ACode.ret ?_) | (refine ACode.skip ?_) | (refine ACode.exit ?_) | (refine ACode.block ?_) | (refine AExit.then_normal ?_) | (refine AExit.then_ret ?_) | (refine AExit.then_exit ?_) | (refine AExit.in_normal ?_) | (refine AExit.in_ret ?_) | (refine AExit.in_same ?_) | (refine AExit.in_other rfl ?_) | (refine ASeq.nil ?_))
  refine ASeq.q rfl rfl (QOp.assign rfl rfl) ?_
  refine ASeq.nil ?_
  repeat (first | (refine ACode.seq ?_) | (refine ACode.region ?_) | (refine ACode.ret ?_) | (refine ACode.skip ?_) | (refine ACode.exit ?_) | (refine ACode.block ?_) | (refine AExit.then_normal ?_) | (refine AExit.then_ret ?_) | (refine AExit.then_exit ?_) | (refine AExit.in_normal ?_) | (refine AExit.in_ret ?_) | (refine AExit.in_same ?_) | (refine AExit.in_other rfl ?_) | (refine ASeq.nil ?_))
  refine ASeq.q rfl rfl (QOp.move rfl rfl) ?_
  refine ASeq.q rfl rfl (QOp.move rfl rfl) ?_
  refine ASeq.op rfl rfl (AOp.callP 1 rfl (by kernel_rfl) rfl rfl rfl (hi) ?_ (by rintro _ _ ⟨⟩))
  rintro _ _ ⟨⟩
  refine ASeq.q rfl rfl (QOp.cmp rfl rfl rfl rfl) ?_
  refine ASeq.q rfl rfl (QOp.assign rfl rfl) ?_
  refine ASeq.nil ?_
  repeat (first | (refine ACode.seq ?_) | (refine ACode.region ?_) | (refine ACode.ret ?_) | (refine ACode.skip ?_) | (refine ACode.exit ?_) | (refine ACode.block ?_) | (refine AExit.then_normal ?_) | (refine AExit.then_ret ?_) | (refine AExit.then_exit ?_) | (refine AExit.in_normal ?_) | (refine AExit.in_ret ?_) | (refine AExit.in_same ?_) | (refine AExit.in_other rfl ?_) | (refine ASeq.nil ?_))
  refine bodyQ_ret 1 (.tmp rfl .nil) rfl ?_
  rw [← idxF_any g.name l 0]; exact .mk
theorem findF_kept (s : ByteArray) : ∀ (l : List Fu) (k : Nat) (r : Int), 0 ≤ r → findF s l k r = r
  | [], k, r, _ => rfl
  | g :: l, k, r, h => by
    simp only [findF]
    rw [show decide (r < 0) = false by simpa using h, Bool.and_false, if_neg (by decide)]
    exact findF_kept s l (k + 1) r h
theorem findF_idx (s : ByteArray) : ∀ (l : List Fu) (k : Nat), findF s l k (-1) = idxF s l k
  | [], k => rfl
  | g :: l, k => by
    by_cases h : sameF s g = true
    · have h' : (g.name.data.toList == s.data.toList) = true := h
      simp only [findF, idxF, h, h', if_true]
      exact findF_kept s l (k + 1) k (by omega)
    · have h' : (g.name.data.toList == s.data.toList) = false := by unfold sameF at h; simpa using h
      simp only [findF, idxF, h, h', Bool.false_and, Bool.false_eq_true, if_false]
      exact findF_idx s l (k + 1)
end Go.Proofs.Ytaadamobapnfbaa
set_option linter.unusedVariables false
set_option linter.unusedSimpArgs false
set_option maxRecDepth 100000
namespace Go.Proofs.Ytaadamobapnfbaa
open Go Go.Abs
theorem argsOf_drop (g : CS → Int → CS × Int) (l : List Int) (c : CS) (b : Bool) (q : Nat) (h : q < l.length) : argsOf g (l.drop q) c b = argsOf g (l.drop (q + 1)) (valOf (g c l[q]) l[q]).1 (b && ((valOf (g c l[q]) l[q]).2 == 1)) := by
  rw [List.drop_eq_getElem_cons h]; rfl
theorem idxF_found (s : ByteArray) : ∀ (l : List Fu) (k : Nat), 0 ≤ idxF s l k → ∃ j, j < l.length ∧ idxF s l k = ((k + j : Nat) : Int)
  | [], k, h => by simp [idxF] at h
  | n :: l, k, h => by
    by_cases hn : sameF s n = true
    · exact ⟨0, by simp, by simp only [idxF, if_pos hn]; rfl⟩
    · simp only [idxF, if_neg hn] at h ⊢
      obtain ⟨j, h1, h2⟩ := idxF_found s l (k + 1) h
      exact ⟨j + 1, by simpa using h1, by rw [h2]; congr 1; omega⟩
theorem ccall_ok (n : Nat) (hE : CEx n) (c : CS) (k : Mk) (z : Zt) (i : Int) (hz : Ckz c z) (ho : c.ok) (h0 : c.code = 0) (hw : TreeX c.t) (hi0 : 0 ≤ i) (hi1 : i < c.t.exprs.length) (hin : i ≤ n) (hk6 : (c.ex i).kind = 6) :
    ACalls Try.prog 106 [.mp k.mC 0, vi i, .agg (c.ex i).cells] (ckItems c k z) (RCi k z (kindCase (expr6 n) c i (c.ex i))) := by
  obtain ⟨_, _, w3, w4⟩ := ex_wf hw.1 hi0 hi1
  have w3 := w3 hk6
  have hbig := ho.big
  generalize hr : kindCase (expr6 n) c i (c.ex i) = r
  have hr2 := hr.symm
  unfold kindCase at hr2
  simp only [hk6, show ¬ ((6 : Int) = 1 ∨ (6 : Int) = 7) by decide, show ¬ (6 : Int) = 4 by decide, show ¬ (6 : Int) = 5 by decide, if_false, if_true] at hr2
  generalize c.ex i = e at *
  have hsF : Stk (argsOf (expr6 n) e.list c true).1 r.1 := by
    rw [hr2]
    split
    · exact (Stk.need _ _ _ _).trans (.need _ _ _ _)
    · exact .need _ _ _ _
  have hil := ints_len e.list
  refine ACalls.of_code (c := _) Try.func106 rfl Try.ntmps106 (Nat.le_of_ble_eq_true rfl) ?_
  refine ACode.seq (ACode.region ?_)
  refine ASeq.op rfl rfl (AOp.boxP rfl rfl rfl (fun _ => rfl) (fun _ => ?_))
  refine ASeq.q rfl rfl (QOp.assign rfl rfl) ?_
  refine ASeq.nil ?_
  rename_i m5
  refine ACode.seq (ACode.region ?_)
  refine ASeq.q rfl rfl (QOp.assign rfl rfl) ?_
  refine ASeq.nil ?_
  refine ACode.seq (ACode.seq (ACode.region ?_))
  refine ASeq.q rfl rfl (QOp.fieldM rfl rfl (tok _ rfl) rfl rfl (by decide) rfl) ?_
  refine ASeq.q rfl rfl (QOp.loadM 9 rfl rfl rfl (tok _ rfl) rfl) ?_
  refine ASeq.q rfl rfl (QOp.lenI rfl rfl (tok _ rfl) rfl) ?_
  refine ASeq.q rfl rfl (QOp.move rfl rfl) ?_
  refine ASeq.nil ?_
  refine ACode.block ?_
  refine ACode.loopP (fun (x : Nat × CS × Bool) => [(0, .mp k.mC 0), (1, vi i), (5, .mp m5 0), (7, .v (.bool x.2.2)), (12, .il 1 none (ints e.list)), (13, vi ((ints e.list).length : Int)), (14, vi x.1)])
    (fun x => ckItems x.2.1 k z ++ [.mu m5 e.cells]) (fun x => e.list.length - x.1)
    (fun x => x.1 ≤ e.list.length ∧ x.2.1.code = 0 ∧ Kept c x.2.1 ∧ argsOf (expr6 n) (e.list.drop x.1) x.2.1 x.2.2 = argsOf (expr6 n) e.list c true) (0, c, true) ⟨Nat.zero_le _, h0, .refl c, rfl⟩
    (.cons rfl (.cons rfl (.cons rfl (.cons rfl (.cons rfl (.cons rfl (.cons rfl .nil))))))) 10 rfl ?_
  rintro ⟨q, d, b⟩ ⟨hq, hd, hkd, hX⟩
  dsimp only at hq hd hkd hX ⊢
  refine ACode.seq (ACode.region ?_)
  refine ASeq.q rfl rfl (QOp.cmp rfl rfl rfl rfl) ?_
  refine ASeq.nil ?_
  refine ACode.seq ?_
  refine ACode.cond _ rfl (fun hb => ?_) (fun hb => ?_)
  · have hlt : q < e.list.length := by have := of_decide_eq_true hb; rw [hil] at this; omega
    have hget := ints_get hlt
    have ha := w3 _ (List.getElem_mem hlt)
    have hv := cvalue_ok n hE d k z e.list[q] (hz.kept hkd) (hkd.ok ho) hd (by rw [hkd.t]; exact hw) ha.1 (by rw [hkd.t]; omega) (by omega)
    have hkv : Kept d (valOf (expr6 n d e.list[q]) e.list[q]).1 := (Kept.expr6 n d _).valOf _
    rw [argsOf_drop _ _ _ _ _ hlt] at hX
    generalize valOf (expr6 n d e.list[q]) e.list[q] = v at *
    have hsv : Stk v.1 r.1 := by
      have := Stk.args (Stk.expr6 n) (e.list.drop (q + 1)) v.1 (b && (v.2 == 1))
      rw [hX] at this
      exact this.trans hsF
    refine ACode.skip (ACode.seq (ACode.block (ACode.seq (ACode.region ?_))))
    refine ASeq.q rfl rfl (QOp.indexI rfl rfl rfl (tok _ rfl) rfl (tok _ rfl) (by omega) (by assumption)) ?_
    refine ASeq.q rfl rfl (QOp.loadI rfl rfl (tok _ rfl) rfl) ?_
    refine ASeq.q rfl rfl (QOp.assign rfl rfl) ?_
    refine ASeq.nil ?_
    refine ACode.region ?_
    refine ASeq.q rfl rfl (QOp.move rfl rfl) ?_
    refine ASeq.q rfl rfl (QOp.move rfl rfl) ?_
    refine ASeq.op rfl rfl (AOp.callP 9 rfl (by kernel_rfl) rfl rfl rfl (hv) ?_ ?_)
    rotate_left
    · (rintro _ _ (⟨⟩ | ⟨hbad, R⟩); simp only [AExit.then, AExit.inBlock]; exact bodyQ_pan 0 rfl (.on hsv hbad _))
    rintro _ _ ⟨hc⟩
    refine ASeq.q rfl rfl (QOp.cmp rfl rfl rfl rfl) ?_
    refine ASeq.q rfl rfl (QOp.move rfl rfl) ?_
    refine ASeq.split 22 (v.2 == 1) rfl (fun hb2 => ?_) (fun hb2 => ?_)
    · refine ASeq.gq _ _ rfl rfl rfl rfl (QOp.move rfl rfl) ?_
      refine ASeq.q rfl rfl (QOp.pickT rfl rfl rfl) ?_
      refine ASeq.q rfl rfl (QOp.assign rfl rfl) ?_
      refine ASeq.nil ?_
      refine ACode.region ?_
      refine ASeq.q rfl rfl (QOp.ar64 rfl rfl rfl rfl ⟨by omega, by omega⟩) ?_
      refine ASeq.q rfl rfl (QOp.move rfl rfl) ?_
      refine ASeq.nil ?_
      refine AExit.then_normal ?_
      exact ⟨(q + 1, v.1, b), 10, ⟨hlt, hc, hkd.trans hkv, by dsimp only; rw [← hX, hb2, Bool.and_true]⟩, by dsimp only; omega, .cons rfl (.cons rfl (.cons rfl (.cons rfl (.cons rfl (.cons rfl (.cons rfl .nil)))))), rfl⟩
    · refine ASeq.gno _ _ rfl rfl rfl rfl rfl ?_
      refine ASeq.q rfl rfl (QOp.pickF rfl rfl rfl) ?_
      refine ASeq.q rfl rfl (QOp.assign rfl rfl) ?_
      refine ASeq.nil ?_
      refine ACode.region ?_
      refine ASeq.q rfl rfl (QOp.ar64 rfl rfl rfl rfl ⟨by omega, by omega⟩) ?_
      refine ASeq.q rfl rfl (QOp.move rfl rfl) ?_
      refine ASeq.nil ?_
      refine AExit.then_normal ?_
      exact ⟨(q + 1, v.1, false), 10, ⟨hlt, hc, hkd.trans hkv, by dsimp only; rw [← hX, hb2, Bool.and_false]⟩, by dsimp only; omega, .cons rfl (.cons rfl (.cons rfl (.cons rfl (.cons rfl (.cons rfl (.cons rfl .nil)))))), rfl⟩
  · have hge : q = e.list.length := by have := of_decide_eq_false hb; rw [hil] at this; omega
    subst hge
    rw [List.drop_length] at hX
    have hX : (d, b) = argsOf (expr6 n) e.list c true := hX
    rw [← hX] at hr2
    dsimp only at hr2
    rw [findF_idx] at hr2
    have hdt := hkd.t
    have h82 := index82 117 (by kernel_rfl) e.name m5 e.cells (fun x => same117 e x m5) none d.t.funcs (by rw [hdt]; omega)
    have hidx : ACalls Try.prog 82 [.il 6 none (d.t.funcs.map Fu.cells), .fn (.func 117) [] [.mp m5 0]] (ckItems d k z ++ [.mu m5 e.cells]) (RV (vi (idxF e.name c.t.funcs 0)) (ckItems d k z ++ [.mu m5 e.cells])) := by
      rw [hdt] at h82 ⊢
      refine (ACalls.perm List.perm_append_comm (h82.frame (F := ckItems d k z))).less ?_
      rintro _ _ ⟨R1, rfl, ⟨⟩⟩
      exact ⟨_, _, List.perm_append_comm, List.Sublist.refl _, .mk⟩
    have hfl : (d.t.funcs.map Fu.cells).length = c.t.funcs.length := by rw [List.length_map, hdt]
    refine ACode.exit (ACode.seq (ACode.region ?_))
    refine ASeq.q rfl rfl (QOp.move rfl rfl) ?_
    refine ASeq.q rfl rfl (QOp.nilCheckM rfl rfl) ?_
    refine ASeq.q rfl rfl (QOp.fieldM rfl rfl (tok _ rfl) rfl rfl (by decide) rfl) ?_
    refine ASeq.q rfl rfl (QOp.fieldM rfl rfl (tok _ rfl) rfl rfl (by decide) rfl) ?_
    refine ASeq.q rfl rfl (QOp.loadM 0 rfl rfl rfl (tok _ rfl) rfl) ?_
    refine ASeq.q rfl rfl (QOp.makeFunc rfl rfl rfl ⟨_, rfl⟩) ?_
    refine ASeq.op rfl rfl (AOp.callP 10 rfl (by kernel_rfl) rfl rfl rfl (hidx) ?_ (by rintro _ _ ⟨⟩))
    rintro _ _ ⟨⟩
    refine ASeq.q rfl rfl (QOp.assign rfl rfl) ?_
    refine ASeq.nil ?_
    generalize hf : idxF e.name c.t.funcs 0 = f at *
    refine ACode.seq (ACode.region ?_)
    refine ASeq.q rfl rfl (QOp.move rfl rfl) ?_
    refine ASeq.q rfl rfl (QOp.cmp rfl rfl rfl rfl) ?_
    refine ASeq.q rfl rfl (QOp.fieldM rfl rfl (tok _ rfl) rfl rfl (by decide) rfl) ?_
    refine ASeq.q rfl rfl (QOp.loadM 9 rfl rfl rfl (tok _ rfl) rfl) ?_
    refine ASeq.op rfl rfl (AOp.callP 0 rfl (by kernel_rfl) rfl rfl rfl (cneed_ok _ e.fr e.to 6) ?_ ?_)
    rotate_left
    · (rintro _ _ (⟨⟩ | ⟨hbad⟩); simp only [AExit.then, AExit.inBlock]; exact bodyQ_pan 0 rfl (.no (ok := false) hd (by rw [hr2, hbad, if_neg (by rw [need_no _ hd]; show ¬ (6 : Int) = 0; decide)]) rfl (by decide) _))
    rintro _ _ ⟨hok⟩
    refine ASeq.nil ?_
    rw [hok, need_yes, if_pos hd] at hr2
    obtain ⟨j, hj, hfj⟩ := idxF_found e.name c.t.funcs 0 (by rw [hf]; exact of_decide_eq_true hok)
    rw [hf, Nat.zero_add] at hfj
    subst hfj
    have hjd : j < d.t.funcs.length := by rw [hdt]; exact hj
    have hget := fu_get hjd
    have hfu : c.fu (j : Int) = d.t.funcs[j] := by
      unfold CS.fu
      rw [Int.toNat_natCast, List.getD_eq_getElem?_getD, ← hdt, List.getElem?_eq_getElem hjd]; rfl
    have hd' : d.fu (j : Int) = d.t.funcs[j] := by
      unfold CS.fu
      rw [Int.toNat_natCast, List.getD_eq_getElem?_getD, List.getElem?_eq_getElem hjd]; rfl
    have hls : d.slot.length = c.t.exprs.length := by rw [hkd.ls]; exact ho.ls
    have hel : (ints e.list).length = e.list.length := ints_len e.list
    generalize d.t.funcs[j] = g at *
    have hps := strs_len g.params
    have hno : ∀ {R : List Abs.Item}, (b && ((e.list.length : Int) == g.params.length)) = false → RCi k z r (.pan (wrongV e.fr 8)) R := fun {R} h => by
      rw [hr2, hfu, h, need_no _ hd]
      exact RCi.bad (r := (({ d with code := 8, at_ := e.fr } : CS).setSlot i (j : Int), g.type)) (by show (8 : Int) ≠ 0; decide) R
    have hyes : (b && ((e.list.length : Int) == g.params.length)) = true → RCi k z r (.ret (vi g.type)) [.mu k.mC (ckCells d k z), .mu z.mZ (z.all.map zcell), .mu k.mT (d.type.map vi), .mu k.mS ((d.slot.set i.toNat j).map vi), .mu k.mP (d.put.map vi), .mu k.mF (d.func.map vi), .mu k.mL (d.slotCells z.τ), .tk z.τ, .tk z.τz] := fun h => by
      rw [hr2, hfu, h, need_yes]
      have := RCi.ok (k := k) (z := z) (r := (d.setSlot i (j : Int), g.type)) hd
      rw [ckItems_setSlot] at this
      exact this
    refine ACode.seq (ACode.region ?_)
    refine ASeq.q rfl rfl (QOp.move rfl rfl) ?_
    refine ASeq.q rfl rfl (QOp.nilCheckM rfl rfl) ?_
    refine ASeq.q rfl rfl (QOp.fieldM rfl rfl (tok _ rfl) rfl rfl (by decide) rfl) ?_
    refine ASeq.q rfl rfl (QOp.fieldM rfl rfl (tok _ rfl) rfl rfl (by decide) rfl) ?_
    refine ASeq.q rfl rfl (QOp.loadM 0 rfl rfl rfl (tok _ rfl) rfl) ?_
    refine ASeq.q rfl rfl (QOp.move rfl rfl) ?_
    refine ASeq.q rfl rfl (QOp.move rfl rfl) ?_
    refine ASeq.q rfl rfl (QOp.indexM rfl rfl rfl (tok _ rfl) rfl (tok _ rfl) (by omega) (by omega) rfl) ?_
    refine ASeq.op0 rfl rfl (storeInt 3 (j := i.toNat) (l := d.slot) rfl rfl rfl rfl (tok _ rfl) rfl (by show 0 + _ * 1 = _; omega) (by omega) rfl ?_)
    refine ASeq.nil ?_
    refine ACode.seq ?_
    refine ACode.drawn [[], [0], [0, 1], [0, 1, 2], [0, 1, 2, 3], [0, 1], [0, 1, 5], [0, 1, 5, 6], [0, 1, 5, 6, 7], [0, 1, 5, 6, 7, 8], [0, 1], [0, 1, 5, 6, 7, 8, 9, 10], [0, 1, 5, 6, 7, 8, 9, 10, 11], [0, 1, 5, 6, 7, 8, 9, 10, 11, 12], [0, 1, 5, 6, 7, 8, 9, 10, 11, 12, 13], [0, 1, 2, 3, 4, 5, 6, 7, 8, 9, 10, 11, 12, 13, 14], [0, 1, 2, 3, 4, 5, 6, 7, 8, 9, 10, 11, 12, 13, 14, 15], [], [17], [0, 1, 2, 3, 4, 5, 6, 7, 8, 9, 10, 11, 12, 13, 14, 15, 16, 17, 18]] (by kernel_rfl) mixed ?_
    refine DAny.qu 0 rfl rfl (by kernel_rfl) rfl (fun _ => .does _ _ rfl (.none rfl) (QOp.move rfl rfl)) ?_
    refine DAny.qu 1 rfl rfl (by kernel_rfl) rfl (fun _ => .does _ _ rfl (.none rfl) (QOp.move rfl rfl)) ?_
    refine DAny.qu 17 rfl rfl (by kernel_rfl) rfl (fun _ => .does _ _ rfl (.none rfl) (QOp.fieldM rfl rfl (tok _ rfl) rfl rfl (by decide) rfl)) ?_
    refine DAny.ld 18 rfl rfl (by kernel_rfl) rfl (.does _ _ rfl (.none rfl) (QOp.loadM 9 rfl rfl rfl (tok _ rfl) rfl)) ?_
    -- STOP at 2 (listed 0,1,17,18)
    refine DAny.split 47 b rfl (fun hb3 => ?_) (fun hb3 => ?_)
    · refine DAny.qu 2 rfl rfl (by kernel_rfl) rfl (fun _ => .does _ _ rfl (by exact .yes _ _ _ rfl rfl rfl) (QOp.fieldM rfl rfl (tok _ rfl) rfl rfl (by decide) rfl)) ?_
      refine DAny.ld 3 rfl rfl (by kernel_rfl) rfl (.does _ _ rfl (by exact .yes _ _ _ rfl rfl rfl) (QOp.loadM 9 rfl rfl rfl (tok _ rfl) rfl)) ?_
      refine DAny.qu 4 rfl rfl (by kernel_rfl) rfl (fun _ => .does _ _ rfl (by exact .yes _ _ _ rfl rfl rfl) (QOp.lenI rfl rfl (tok _ rfl) rfl)) ?_
      refine DAny.qu 5 rfl rfl (by kernel_rfl) rfl (fun _ => .does _ _ rfl (by exact .yes _ _ _ rfl rfl rfl) (QOp.move rfl rfl)) ?_
      refine DAny.qu 6 rfl rfl (by kernel_rfl) rfl (fun _ => .does _ _ rfl (by exact .yes _ _ _ rfl rfl rfl) (QOp.nilCheckM rfl rfl)) ?_
      refine DAny.qu 7 rfl rfl (by kernel_rfl) rfl (fun _ => .does _ _ rfl (by exact .yes _ _ _ rfl rfl rfl) (QOp.fieldM rfl rfl (tok _ rfl) rfl rfl (by decide) rfl)) ?_
      refine DAny.qu 8 rfl rfl (by kernel_rfl) rfl (fun _ => .does _ _ rfl (by exact .yes _ _ _ rfl rfl rfl) (QOp.fieldM rfl rfl (tok _ rfl) rfl rfl (by decide) rfl)) ?_
      refine DAny.ld 9 rfl rfl (by kernel_rfl) rfl (.does _ _ rfl (by exact .yes _ _ _ rfl rfl rfl) (QOp.loadM 0 rfl rfl rfl (tok _ rfl) rfl)) ?_
      refine DAny.qu 10 rfl rfl (by kernel_rfl) rfl (fun _ => .does _ _ rfl (by exact .yes _ _ _ rfl rfl rfl) (QOp.move rfl rfl)) ?_
      refine DAny.qu 11 rfl rfl (by kernel_rfl) rfl (fun _ => .does _ _ rfl (by exact .yes _ _ _ rfl rfl rfl) (QOp.indexI rfl rfl rfl (tok _ rfl) rfl (tok _ rfl) (by omega) (by assumption))) ?_
      refine DAny.qu 12 rfl rfl (by kernel_rfl) rfl (fun _ => .does _ _ rfl (by exact .yes _ _ _ rfl rfl rfl) (QOp.fieldI rfl rfl (tok _ rfl) rfl rfl (by decide) rfl)) ?_
      refine DAny.qu 13 rfl rfl (by kernel_rfl) rfl (fun _ => .does _ _ rfl (by exact .yes _ _ _ rfl rfl rfl) (QOp.loadI rfl rfl (tok _ rfl) rfl)) ?_
      refine DAny.qu 14 rfl rfl (by kernel_rfl) rfl (fun _ => .does _ _ rfl (by exact .yes _ _ _ rfl rfl rfl) (QOp.lenI rfl rfl (tok _ rfl) rfl)) ?_
      refine DAny.qu 15 rfl rfl (by kernel_rfl) rfl (fun _ => .does _ _ rfl (by exact .yes _ _ _ rfl rfl rfl) (QOp.cmp rfl rfl rfl rfl)) ?_
      refine DAny.qu 16 rfl rfl (by kernel_rfl) rfl (fun _ => .does _ _ rfl (.none rfl) (QOp.pickT rfl rfl rfl)) ?_
      refine DAny.ef 19 rfl (by kernel_rfl) (.none rfl) rfl rfl (AOp.callP 0 rfl (by kernel_rfl) rfl rfl rfl (cneed_ok _ e.fr e.to 8) ?_ ?_)
      rotate_left
      · (rintro _ _ (⟨⟩ | ⟨hbad⟩); simp only [AExit.then, AExit.inBlock]; exact bodyQ_pan 0 rfl (hno (by rw [hb3, ← hel, ← hps, Bool.true_and]; exact hbad)))
      rintro _ _ ⟨hok2⟩
      refine ⟨(by ((exact AllQ.nil))), ?_⟩
      refine DAny.done (by kernel_rfl) ?_
      refine ACode.seq (ACode.region ?_)
      refine ASeq.q rfl rfl (QOp.move rfl rfl) ?_
      refine ASeq.q rfl rfl (QOp.nilCheckM rfl rfl) ?_
      refine ASeq.q rfl rfl (QOp.fieldM rfl rfl (tok _ rfl) rfl rfl (by decide) rfl) ?_
      refine ASeq.q rfl rfl (QOp.fieldM rfl rfl (tok _ rfl) rfl rfl (by decide) rfl) ?_
      refine ASeq.q rfl rfl (QOp.loadM 0 rfl rfl rfl (tok _ rfl) rfl) ?_
      refine ASeq.q rfl rfl (QOp.move rfl rfl) ?_
      refine ASeq.q rfl rfl (QOp.indexI rfl rfl rfl (tok _ rfl) rfl (tok _ rfl) (by omega) (by assumption)) ?_
      refine ASeq.q rfl rfl (QOp.fieldI rfl rfl (tok _ rfl) rfl rfl (by decide) rfl) ?_
      refine ASeq.q rfl rfl (QOp.loadI rfl rfl (tok _ rfl) rfl) ?_
      refine ASeq.q rfl rfl (QOp.assign rfl rfl) ?_
      refine ASeq.nil ?_
      refine ACode.ret ?_
      refine bodyQ_ret 9 (.tmp rfl .nil) rfl ?_
      exact hyes (by rw [hb3, ← hel, ← hps, Bool.true_and]; exact hok2)
    · refine DAny.qu 2 rfl rfl (by kernel_rfl) rfl (fun _ => .passed _ rfl (.no _ _ _ rfl rfl rfl rfl)) ?_
      refine DAny.qu 3 rfl rfl (by kernel_rfl) rfl (fun _ => .passed _ rfl (.no _ _ _ rfl rfl rfl rfl)) ?_
      refine DAny.qu 4 rfl rfl (by kernel_rfl) rfl (fun _ => .passed _ rfl (.no _ _ _ rfl rfl rfl rfl)) ?_
      refine DAny.qu 5 rfl rfl (by kernel_rfl) rfl (fun _ => .passed _ rfl (.no _ _ _ rfl rfl rfl rfl)) ?_
      refine DAny.qu 6 rfl rfl (by kernel_rfl) rfl (fun _ => .passed _ rfl (.no _ _ _ rfl rfl rfl rfl)) ?_
      refine DAny.qu 7 rfl rfl (by kernel_rfl) rfl (fun _ => .passed _ rfl (.no _ _ _ rfl rfl rfl rfl)) ?_
      refine DAny.qu 8 rfl rfl (by kernel_rfl) rfl (fun _ => .passed _ rfl (.no _ _ _ rfl rfl rfl rfl)) ?_
      refine DAny.qu 9 rfl rfl (by kernel_rfl) rfl (fun _ => .passed _ rfl (.no _ _ _ rfl rfl rfl rfl)) ?_
      refine DAny.qu 10 rfl rfl (by kernel_rfl) rfl (fun _ => .passed _ rfl (.no _ _ _ rfl rfl rfl rfl)) ?_
      refine DAny.qu 11 rfl rfl (by kernel_rfl) rfl (fun _ => .passed _ rfl (.no _ _ _ rfl rfl rfl rfl)) ?_
      refine DAny.qu 12 rfl rfl (by kernel_rfl) rfl (fun _ => .passed _ rfl (.no _ _ _ rfl rfl rfl rfl)) ?_
      refine DAny.qu 13 rfl rfl (by kernel_rfl) rfl (fun _ => .passed _ rfl (.no _ _ _ rfl rfl rfl rfl)) ?_
      refine DAny.qu 14 rfl rfl (by kernel_rfl) rfl (fun _ => .passed _ rfl (.no _ _ _ rfl rfl rfl rfl)) ?_
      refine DAny.qu 15 rfl rfl (by kernel_rfl) rfl (fun _ => .passed _ rfl (.no _ _ _ rfl rfl rfl rfl)) ?_
      refine DAny.qu 16 rfl rfl (by kernel_rfl) rfl (fun _ => .does _ _ rfl (.none rfl) (QOp.pickF rfl rfl rfl)) ?_
      refine DAny.ef 19 rfl (by kernel_rfl) (.none rfl) rfl rfl (AOp.callP 0 rfl (by kernel_rfl) rfl rfl rfl (cneed_ok false e.fr e.to 8) ?_ ?_)
      rotate_left
      · (rintro _ _ (⟨⟩ | ⟨hbad⟩); simp only [AExit.then, AExit.inBlock]; exact bodyQ_pan 0 rfl (hno (by rw [hb3]; rfl)))
      rintro _ _ ⟨hok2⟩
      refine ⟨(by ((exact AllQ.nil))), ?_⟩
      refine DAny.done (by kernel_rfl) ?_
      cases hok2
end Go.Proofs.Ytaadamobapnfbaa
set_option linter.unusedVariables false
set_option linter.unusedSimpArgs false
set_option maxRecDepth 100000
namespace Go.Proofs.Ytaadamobapnfbaa
open Go Go.Abs
inductive RCs (k : Mk) (z : Zt) (c : CS) (r : CS × Int) : AOut → List Abs.Item → Prop
  | ok (h : r.1.code = 0) : RCs k z c r (.ret (vi r.2)) (ckItems c k z)
  | bad (h : r.1.code ≠ 0) (R : List Abs.Item) : RCs k z c r (.pan (wrongV r.1.at_ r.1.code)) R
theorem need_stays {c : CS} {ok : Bool} {a n : Int} (hn : n ≠ 0) (h : (c.need ok a n).code = 0) : c.need ok a n = c := by
  cases ok with
  | true => exact need_yes c a n
  | false =>
    unfold CS.need at h ⊢
    split
    · rename_i h'; rw [if_pos h'] at h; exact absurd h hn
    · rfl
theorem cslot_same (c : CS) (k : Mk) (z : Zt) (hz : Ckz c z) (ho : c.ok) (h0 : c.code = 0) (s : ByteArray) (array : Bool) (fr to : Int) :
    ACalls Try.prog 67 [.mp k.mC 0, vs s, .v (.bool array), .agg [vi fr, vi to]] (ckItems c k z) (RCs k z c (c.slotOf s array fr)) := by
  refine (cslot_ok c k z hz ho h0 s array fr to).mono ?_
  rintro _ _ (⟨h⟩ | ⟨h, R⟩)
  · have e : (c.slotOf s array fr).1 = c := need_stays (by decide) h
    have := RCs.ok (k := k) (z := z) (c := c) h
    rw [e]
    exact this
  · exact .bad h _
theorem tok178 : TOK Try.prog 178 ⟨1, 8, [.map none], .mp 9 3⟩ := ⟨by kernel_rfl, by kernel_rfl⟩
theorem und9 : Try.prog.underlying 9 = some .string := by kernel_rfl
theorem und3i : Try.prog.underlying 3 = some (.int .i64) := by kernel_rfl
theorem zero3 (w : World) : (zeroValue 3).run Try.prog w = .ok (.int .i64 0) w := by kernel_rfl
set_option maxHeartbeats 8000000 in
theorem ctype_ok (n : Nat) (hE : CEx n) : CTy n := by
  intro c k z i hz ho h0 hw hi0 hi1 hin
  have hcall := ccall_ok n hE c k z i hz ho h0 hw hi0 hi1 hin
  have hpair := cpair_ok n hE c k z i hz ho h0 hw hi0 hi1 hin
  have hwf := ex_wf hw.1 hi0 hi1
  have hop : (c.ex i).kind = 8 → (c.ex i).op.data.toList = [45] ∨ (c.ex i).op.data.toList = [33] := hw.2 i.toNat (c.ex i) (by
    have hl : i.toNat < c.t.exprs.length := by omega
    simp only [CS.ex, List.getD_eq_getElem?_getD, List.getElem?_eq_getElem hl, Option.getD_some])
  generalize hr : kindCase (expr6 n) c i (c.ex i) = r at *
  have hr2 := hr.symm
  unfold kindCase at hr2
  generalize c.ex i = e at *
  refine ACalls.of_code (c := _) Try.func85 rfl Try.ntmps85 (Nat.le_of_ble_eq_true rfl) ?_
  refine ACode.seq (ACode.region ?_)
  refine ASeq.op rfl rfl (AOp.boxP rfl rfl rfl (fun _ => rfl) (fun _ => ?_))
  refine ASeq.q rfl rfl (QOp.assign rfl rfl) ?_
  refine ASeq.nil ?_
  rename_i m5
  refine ACode.seq (ACode.seq (ACode.region ?_))
  refine ASeq.q rfl rfl (QOp.fieldM rfl rfl (tok _ rfl) rfl rfl (by decide) rfl) ?_
  refine ASeq.q rfl rfl (QOp.loadM 9 rfl rfl rfl (tok _ rfl) rfl) ?_
  refine ASeq.nil ?_
  refine ACode.block (ACode.seq (ACode.seq (ACode.region ?_)))
  refine ASeq.q rfl rfl (QOp.cmp rfl rfl rfl rfl) ?_
  refine ASeq.q rfl rfl (QOp.assign rfl rfl) ?_
  refine ASeq.nil ?_
  refine AExit.then_normal ?_
  refine ACode.cond _ rfl (fun hb => ?_) (fun hb => ?_)
  · have hk1 : e.kind = 1 := eq_of_beq hb
    rw [if_pos (.inl hk1)] at hr2
    refine ACode.skip (AExit.then_normal ?_)
    refine ACode.cond _ rfl (fun _ => ?_) (fun hb' => by rw [hb] at hb'; cases hb')
    refine ACode.seq (ACode.region ?_)
    refine ASeq.q rfl rfl (QOp.assign rfl rfl) ?_
    refine ASeq.nil ?_
    refine ACode.ret (AExit.in_ret (AExit.then_ret ?_))
    refine bodyQ_ret 9 (.tmp rfl .nil) rfl ?_
    rw [hr2]; exact .ok (r := (c, 1)) h0
  have hk1 : ¬ e.kind = 1 := ne_of_beq_false hb
  refine ACode.region ?_
  refine ASeq.q rfl rfl (QOp.cmp rfl rfl rfl rfl) ?_
  refine ASeq.q rfl rfl (QOp.assign rfl rfl) ?_
  refine ASeq.nil ?_
  refine AExit.then_normal ?_
  refine ACode.cond _ rfl (fun hb => ?_) (fun hb => ?_)
  · have hk7 : e.kind = 7 := eq_of_beq hb
    rw [if_pos (.inr hk7)] at hr2
    refine ACode.seq (ACode.region ?_)
    refine ASeq.q rfl rfl (QOp.assign rfl rfl) ?_
    refine ASeq.nil ?_
    refine ACode.ret (AExit.in_ret (AExit.then_ret ?_))
    refine bodyQ_ret 9 (.tmp rfl .nil) rfl ?_
    rw [hr2]; exact .ok (r := (c, 1)) h0
  have hk7 : ¬ e.kind = 7 := ne_of_beq_false hb
  rw [if_neg (by rintro (h | h); exact hk1 h; exact hk7 h)] at hr2
  refine ACode.seq (ACode.region ?_)
  refine ASeq.q rfl rfl (QOp.cmp rfl rfl rfl rfl) ?_
  refine ASeq.q rfl rfl (QOp.assign rfl rfl) ?_
  refine ASeq.nil ?_
  refine AExit.then_normal ?_
  refine ACode.cond _ rfl (fun hb => ?_) (fun hb => ?_)
  · have hk4 : e.kind = 4 := eq_of_beq hb
    rw [if_pos hk4] at hr2
    have hs := cslot_same c k z hz ho h0 e.name false e.fr e.to
    have hw1 : (c.slotOf e.name false e.fr).1.code = 0 → (c.slotOf e.name false e.fr).1 = c := need_stays (by decide)
    have hw2 : (c.slotOf e.name false e.fr).1.code = 0 → 0 ≤ (c.slotOf e.name false e.fr).2 ∧ (c.slotOf e.name false e.fr).2 < c.cur.length := fun h => by
      have h2 := ((need_code c _ _ 6 (by decide)).1 h).2
      have h3 := ho.find_lt e.name
      have h4 : 0 ≤ c.find e.name := by
        unfold CS.slotOk at h2
        rw [Bool.and_eq_true] at h2
        exact of_decide_eq_true h2.1
      show 0 ≤ c.find e.name ∧ c.find e.name < _
      omega
    generalize c.slotOf e.name false e.fr = w at *
    have hst : Stk w.1 r.1 := by
      rw [hr2]; split
      · exact fun _ => ⟨rfl, rfl⟩
      · exact fun _ => ⟨rfl, rfl⟩
    have hlt : 0 + i.toNat * 1 < (c.slot.map vi).length := by
      have h2 := ho.ls
      rw [List.length_map, h2]; omega
    have hback : ((c.slot.map vi).set (0 + i.toNat * 1) (vi w.2))[0 + i.toNat * 1]? = some (vi w.2) := List.getElem?_set_self hlt
    have hcur := slotCells_cur ho z.τ
    have hf0 := ho.f0
    have hf1 := ho.f1
    have hll := ho.ls
    have hcl := ints_len c.cur
    refine ACode.seq ?_
    refine ACode.drawn [[], [0], [0, 1], [0, 1, 2], [0, 1, 2, 3], [], [], [], [7], [], [9], [6, 7, 8, 9, 10], [0, 1, 2, 3, 4, 5, 6, 7, 8, 9, 10, 11], [0, 1, 2, 3, 4, 5, 6, 7, 8, 9, 10, 11, 12]] (by kernel_rfl) mixed ?_
    refine DAny.qu 0 rfl rfl (by kernel_rfl) rfl (fun _ => .does _ _ rfl (.none rfl) (QOp.move rfl rfl)) ?_
    refine DAny.qu 1 rfl rfl (by kernel_rfl) rfl (fun _ => .does _ _ rfl (.none rfl) (QOp.nilCheckM rfl rfl)) ?_
    refine DAny.qu 2 rfl rfl (by kernel_rfl) rfl (fun _ => .does _ _ rfl (.none rfl) (QOp.fieldM rfl rfl (tok _ rfl) rfl rfl (by decide) rfl)) ?_
    refine DAny.qu 3 rfl rfl (by kernel_rfl) rfl (fun _ => .does _ _ rfl (.none rfl) (QOp.fieldM rfl rfl (tok _ rfl) rfl rfl (by decide) rfl)) ?_
    refine DAny.ld 4 rfl rfl (by kernel_rfl) rfl (.does _ _ rfl (.none rfl) (QOp.loadM 0 rfl rfl rfl (tok _ rfl) rfl)) ?_
    refine DAny.qu 5 rfl rfl (by kernel_rfl) rfl (fun _ => .does _ _ rfl (.none rfl) (QOp.move rfl rfl)) ?_
    refine DAny.qu 6 rfl rfl (by kernel_rfl) rfl (fun _ => .does _ _ rfl (.none rfl) (QOp.move rfl rfl)) ?_
    refine DAny.qu 7 rfl rfl (by kernel_rfl) rfl (fun _ => .does _ _ rfl (.none rfl) (QOp.fieldM rfl rfl (tok _ rfl) rfl rfl (by decide) rfl)) ?_
    refine DAny.ld 8 rfl rfl (by kernel_rfl) rfl (.does _ _ rfl (.none rfl) (QOp.loadM 9 rfl rfl rfl (tok _ rfl) rfl)) ?_
    refine DAny.qu 9 rfl rfl (by kernel_rfl) rfl (fun _ => .does _ _ rfl (.none rfl) (QOp.fieldM rfl rfl (tok _ rfl) rfl rfl (by decide) rfl)) ?_
    refine DAny.ld 10 rfl rfl (by kernel_rfl) rfl (.does _ _ rfl (.none rfl) (QOp.loadM 9 rfl rfl rfl (tok _ rfl) rfl)) ?_
    refine DAny.ef 11 rfl (by kernel_rfl) (.none rfl) rfl rfl (AOp.callP 9 rfl (by kernel_rfl) rfl rfl rfl (hs) ?_ ?_)
    rotate_left
    · (rintro _ _ (⟨⟩ | ⟨hbad, R⟩); simp only [AExit.then, AExit.inBlock]; exact bodyQ_pan 0 rfl (.on hst hbad _))
    rintro _ _ ⟨hc⟩
    refine ⟨(by ((refine AllQ.cons (.does _ _ rfl (by exact .none rfl) (QOp.loadM 0 rfl rfl rfl (tok _ rfl) rfl)) ?_); (exact AllQ.nil))), ?_⟩
    refine DAny.qu 12 rfl rfl (by kernel_rfl) rfl (fun _ => .does _ _ rfl (.none rfl) (QOp.indexM rfl rfl rfl (tok _ rfl) rfl (tok _ rfl) (by omega) (by omega) rfl)) ?_
    refine DAny.ef0 13 rfl (by kernel_rfl) (.none rfl) rfl rfl (AOp.storeAt 3 rfl rfl rfl rfl (tok _ rfl) rfl rfl (by assumption) rfl ⟨(by ((exact AllQ.nil))), ?_⟩)
    refine DAny.done (by kernel_rfl) ?_
    have hw3 := hw2 hc
    have hget := cur_get (c := c) hw3.1 hw3.2
    rw [if_pos hc, hw1 hc] at hr2
    refine ACode.seq ?_
    refine ACode.drawn [[], [0], [0, 1], [0, 1, 2], [0, 1, 2, 3], [], [5], [5, 6], [5, 6, 7], [0, 1, 2, 3, 4, 5, 6, 7, 8], [0, 1, 2, 3, 4, 5, 6, 7, 8, 9], [], [11], [11, 12], [11, 12, 13], [11, 12, 13, 14], [], [11, 12, 13, 14, 15, 16], [11, 12, 13, 14, 15, 16, 17], [0, 1, 2, 3, 4, 5, 6, 7, 8, 9, 10, 11, 12, 13, 14, 15, 16, 17, 18], [0, 1, 2, 3, 4, 5, 6, 7, 8, 9, 10, 11, 12, 13, 14, 15, 16, 17, 18, 19], [0, 1, 2, 3, 4, 5, 6, 7, 8, 9, 10, 11, 12, 13, 14, 15, 16, 17, 18, 19, 20]] (by kernel_rfl) mixed ?_
    refine DAny.qu 0 rfl rfl (by kernel_rfl) rfl (fun _ => .does _ _ rfl (.none rfl) (QOp.move rfl rfl)) ?_
    refine DAny.qu 1 rfl rfl (by kernel_rfl) rfl (fun _ => .does _ _ rfl (.none rfl) (QOp.nilCheckM rfl rfl)) ?_
    refine DAny.qu 2 rfl rfl (by kernel_rfl) rfl (fun _ => .does _ _ rfl (.none rfl) (QOp.fieldM rfl rfl (tok _ rfl) rfl rfl (by decide) rfl)) ?_
    refine DAny.qu 3 rfl rfl (by kernel_rfl) rfl (fun _ => .does _ _ rfl (.none rfl) (QOp.fieldM rfl rfl (tok _ rfl) rfl rfl (by decide) rfl)) ?_
    refine DAny.ld 4 rfl rfl (by kernel_rfl) rfl (.does _ _ rfl (.none rfl) (QOp.loadM 0 rfl rfl rfl (tok _ rfl) rfl)) ?_
    refine DAny.qu 5 rfl rfl (by kernel_rfl) rfl (fun _ => .does _ _ rfl (.none rfl) (QOp.move rfl rfl)) ?_
    refine DAny.qu 6 rfl rfl (by kernel_rfl) rfl (fun _ => .does _ _ rfl (.none rfl) (QOp.nilCheckM rfl rfl)) ?_
    refine DAny.qu 7 rfl rfl (by kernel_rfl) rfl (fun _ => .does _ _ rfl (.none rfl) (QOp.fieldM rfl rfl (tok _ rfl) rfl rfl (by decide) rfl)) ?_
    refine DAny.ld 8 rfl rfl (by kernel_rfl) rfl (.does _ _ rfl (.none rfl) (QOp.loadM 0 rfl rfl rfl (tok _ rfl) rfl)) ?_
    refine DAny.qu 9 rfl rfl (by kernel_rfl) rfl (fun _ => .does _ _ rfl (.none rfl) (QOp.indexM rfl rfl rfl (tok _ rfl) rfl (tok _ rfl) (by omega) (by omega) rfl)) ?_
    refine DAny.ld 10 rfl rfl (by kernel_rfl) rfl (.does _ _ rfl (.none rfl) (QOp.loadAt 6 rfl rfl rfl (tok _ rfl) rfl (by assumption))) ?_
    refine DAny.qu 11 rfl rfl (by kernel_rfl) rfl (fun _ => .does _ _ rfl (.none rfl) (QOp.move rfl rfl)) ?_
    refine DAny.qu 12 rfl rfl (by kernel_rfl) rfl (fun _ => .does _ _ rfl (.none rfl) (QOp.nilCheckM rfl rfl)) ?_
    refine DAny.qu 13 rfl rfl (by kernel_rfl) rfl (fun _ => .does _ _ rfl (.none rfl) (QOp.fieldM rfl rfl (tok _ rfl) rfl rfl (by decide) rfl)) ?_
    refine DAny.qu 14 rfl rfl (by kernel_rfl) rfl (fun _ => .does _ _ rfl (.none rfl) (QOp.fieldM rfl rfl (tok _ rfl) rfl rfl (by decide) rfl)) ?_
    refine DAny.ld 15 rfl rfl (by kernel_rfl) rfl (.does _ _ rfl (.none rfl) (QOp.loadM 0 rfl rfl rfl (tok _ rfl) rfl)) ?_
    refine DAny.qu 16 rfl rfl (by kernel_rfl) rfl (fun _ => .does _ _ rfl (.none rfl) (QOp.move rfl rfl)) ?_
    refine DAny.qu 17 rfl rfl (by kernel_rfl) rfl (fun _ => .does _ _ rfl (.none rfl) (QOp.indexM rfl rfl rfl (tok _ rfl) rfl (tok _ rfl) (by omega) (by omega) rfl)) ?_
    refine DAny.ld 18 rfl rfl (by kernel_rfl) rfl (.does _ _ rfl (.none rfl) (QOp.loadAt 3 rfl rfl rfl (tok _ rfl) rfl (by assumption))) ?_
    refine DAny.qu 19 rfl rfl (by kernel_rfl) rfl (fun _ => .does _ _ rfl (.none rfl) (QOp.indexI rfl rfl rfl (tok _ rfl) rfl (tok _ rfl) (by omega) (by assumption))) ?_
    refine DAny.qu 20 rfl rfl (by kernel_rfl) rfl (fun _ => .does _ _ rfl (.none rfl) (QOp.loadI rfl rfl (tok _ rfl) rfl)) ?_
    refine DAny.ef 21 rfl (by kernel_rfl) (.none rfl) rfl rfl (.q (QOp.assign rfl rfl) ⟨(by ((exact AllQ.nil))), ?_⟩)
    refine DAny.done (by kernel_rfl) ?_
    refine ACode.ret (AExit.in_ret (AExit.then_ret ?_))
    refine bodyQ_ret 9 (.tmp rfl .nil) rfl ?_
    rw [hr2]
    have := RCi.ok (k := k) (z := z) (r := (c.setSlot i w.2, c.cur.getD w.2.toNat 0)) h0
    rw [ckItems_setSlot, List.map_set] at this
    have hz1 : i.toNat = 0 + i.toNat * 1 := by omega
    rw [show (c.slot.map vi).set i.toNat (vi w.2) = (c.slot.map vi).set (0 + i.toNat * 1) (vi w.2) by rw [← hz1]] at this
    exact this
  have hk4 : ¬ e.kind = 4 := ne_of_beq_false hb
  rw [if_neg hk4] at hr2
  refine ACode.seq (ACode.region ?_)
  refine ASeq.q rfl rfl (QOp.cmp rfl rfl rfl rfl) ?_
  refine ASeq.q rfl rfl (QOp.assign rfl rfl) ?_
  refine ASeq.nil ?_
  refine AExit.then_normal ?_
  refine ACode.cond _ rfl (fun hb => ?_) (fun hb => ?_)
  · have hk5 : e.kind = 5 := eq_of_beq hb
    rw [if_pos hk5] at hr2
    obtain ⟨wa0, wa1⟩ := hwf.1 (.inl hk5)
    have hv := cvalue_ok n hE c k z e.a hz ho h0 hw wa0 (by omega) (by omega)
    have hkv : Kept c (valOf (expr6 n c e.a) e.a).1 := (Kept.expr6 n c e.a).valOf _
    generalize valOf (expr6 n c e.a) e.a = v at *
    have hzv := hz.kept hkv
    have hov := hkv.ok ho
    have hs : v.1.code = 0 → ACalls Try.prog 67 [.mp k.mC 0, vs e.name, .v (.bool true), .agg [vi e.fr, vi e.to]] (ckItems v.1 k z) (RCs k z v.1 (v.1.slotOf e.name true e.fr)) := fun h => cslot_same v.1 k z hzv hov h e.name true e.fr e.to
    have hw1 : (v.1.slotOf e.name true e.fr).1.code = 0 → (v.1.slotOf e.name true e.fr).1 = v.1 := need_stays (by decide)
    have s1 : Stk v.1 (v.1.slotOf e.name true e.fr).1 := .slotOf _ _ _ _
    generalize v.1.slotOf e.name true e.fr = w at *
    have hsw : Stk w.1 r.1 := by
      rw [hr2]
      exact fun h => Stk.need w.1 (v.2 == 1) e.fr 8 h
    have hsv : Stk v.1 r.1 := s1.trans hsw
    have hll := hov.ls
    have htv := hkv.t
    have hl2 : v.1.slot.length = c.t.exprs.length := by rw [hll, htv]
    have hlt : 0 + i.toNat * 1 < (v.1.slot.map vi).length := by
      rw [List.length_map, hll, htv]; omega
    refine ACode.seq (ACode.region ?_)
    refine ASeq.q rfl rfl (QOp.move rfl rfl) ?_
    refine ASeq.q rfl rfl (QOp.fieldM rfl rfl (tok _ rfl) rfl rfl (by decide) rfl) ?_
    refine ASeq.q rfl rfl (QOp.loadM 9 rfl rfl rfl (tok _ rfl) rfl) ?_
    refine ASeq.op rfl rfl (AOp.callP 9 rfl (by kernel_rfl) rfl rfl rfl (hv) ?_ ?_)
    rotate_left
    · (rintro _ _ (⟨⟩ | ⟨hbad, R⟩); simp only [AExit.then, AExit.inBlock]; exact bodyQ_pan 0 rfl (.on hsv hbad _))
    rintro _ _ ⟨hc⟩
    refine ASeq.q rfl rfl (QOp.assign rfl rfl) ?_
    refine ASeq.nil ?_
    refine ACode.seq ?_
    refine ACode.drawn [[], [0], [0, 1], [0, 1, 2], [0, 1, 2, 3], [], [], [], [7], [], [9], [6, 7, 8, 9, 10], [0, 1, 2, 3, 4, 5, 6, 7, 8, 9, 10, 11], [0, 1, 2, 3, 4, 5, 6, 7, 8, 9, 10, 11, 12]] (by kernel_rfl) mixed ?_
    refine DAny.qu 0 rfl rfl (by kernel_rfl) rfl (fun _ => .does _ _ rfl (.none rfl) (QOp.move rfl rfl)) ?_
    refine DAny.qu 1 rfl rfl (by kernel_rfl) rfl (fun _ => .does _ _ rfl (.none rfl) (QOp.nilCheckM rfl rfl)) ?_
    refine DAny.qu 2 rfl rfl (by kernel_rfl) rfl (fun _ => .does _ _ rfl (.none rfl) (QOp.fieldM rfl rfl (tok _ rfl) rfl rfl (by decide) rfl)) ?_
    refine DAny.qu 3 rfl rfl (by kernel_rfl) rfl (fun _ => .does _ _ rfl (.none rfl) (QOp.fieldM rfl rfl (tok _ rfl) rfl rfl (by decide) rfl)) ?_
    refine DAny.ld 4 rfl rfl (by kernel_rfl) rfl (.does _ _ rfl (.none rfl) (QOp.loadM 0 rfl rfl rfl (tok _ rfl) rfl)) ?_
    refine DAny.qu 5 rfl rfl (by kernel_rfl) rfl (fun _ => .does _ _ rfl (.none rfl) (QOp.move rfl rfl)) ?_
    refine DAny.qu 6 rfl rfl (by kernel_rfl) rfl (fun _ => .does _ _ rfl (.none rfl) (QOp.move rfl rfl)) ?_
    refine DAny.qu 7 rfl rfl (by kernel_rfl) rfl (fun _ => .does _ _ rfl (.none rfl) (QOp.fieldM rfl rfl (tok _ rfl) rfl rfl (by decide) rfl)) ?_
    refine DAny.ld 8 rfl rfl (by kernel_rfl) rfl (.does _ _ rfl (.none rfl) (QOp.loadM 9 rfl rfl rfl (tok _ rfl) rfl)) ?_
    refine DAny.qu 9 rfl rfl (by kernel_rfl) rfl (fun _ => .does _ _ rfl (.none rfl) (QOp.fieldM rfl rfl (tok _ rfl) rfl rfl (by decide) rfl)) ?_
    refine DAny.ld 10 rfl rfl (by kernel_rfl) rfl (.does _ _ rfl (.none rfl) (QOp.loadM 9 rfl rfl rfl (tok _ rfl) rfl)) ?_
    refine DAny.ef 11 rfl (by kernel_rfl) (.none rfl) rfl rfl (AOp.callP 9 rfl (by kernel_rfl) rfl rfl rfl (hs hc) ?_ ?_)
    rotate_left
    · (rintro _ _ (⟨⟩ | ⟨hbad, R⟩); simp only [AExit.then, AExit.inBlock]; exact bodyQ_pan 0 rfl (.on hsw hbad _))
    rintro _ _ ⟨hc2⟩
    refine ⟨(by ((refine AllQ.cons (.does _ _ rfl (by exact .none rfl) (QOp.loadM 0 rfl rfl rfl (tok _ rfl) rfl)) ?_); (exact AllQ.nil))), ?_⟩
    refine DAny.qu 12 rfl rfl (by kernel_rfl) rfl (fun _ => .does _ _ rfl (.none rfl) (QOp.indexM rfl rfl rfl (tok _ rfl) rfl (tok _ rfl) (by omega) (by omega) rfl)) ?_
    refine DAny.ef0 13 rfl (by kernel_rfl) (.none rfl) rfl rfl (AOp.storeAt 3 rfl rfl rfl rfl (tok _ rfl) rfl rfl (by assumption) rfl ⟨(by ((exact AllQ.nil))), ?_⟩)
    refine DAny.done (by kernel_rfl) ?_
    rw [hw1 hc2] at hr2
    refine ACode.seq (ACode.region ?_)
    refine ASeq.q rfl rfl (QOp.move rfl rfl) ?_
    refine ASeq.q rfl rfl (QOp.cmp rfl rfl rfl rfl) ?_
    refine ASeq.q rfl rfl (QOp.fieldM rfl rfl (tok _ rfl) rfl rfl (by decide) rfl) ?_
    refine ASeq.q rfl rfl (QOp.loadM 9 rfl rfl rfl (tok _ rfl) rfl) ?_
    refine ASeq.op rfl rfl (AOp.callP 0 rfl (by kernel_rfl) rfl rfl rfl (cneed_ok _ e.fr e.to 8) ?_ ?_)
    rotate_left
    · (rintro _ _ (⟨⟩ | ⟨hbad⟩); simp only [AExit.then, AExit.inBlock]; exact bodyQ_pan 0 rfl (by rw [hr2, hbad, need_no _ hc]; exact RCi.bad (r := (({ v.1 with code := 8, at_ := e.fr } : CS).setSlot i w.2, 1)) (by show (8 : Int) ≠ 0; decide) _))
    rintro _ _ ⟨hok⟩
    refine ASeq.nil ?_
    rw [hok, need_yes] at hr2
    refine ACode.seq (ACode.region ?_)
    refine ASeq.q rfl rfl (QOp.assign rfl rfl) ?_
    refine ASeq.nil ?_
    refine ACode.ret (AExit.in_ret (AExit.then_ret ?_))
    refine bodyQ_ret 9 (.tmp rfl .nil) rfl ?_
    rw [hr2]
    have := RCi.ok (k := k) (z := z) (r := (v.1.setSlot i w.2, 1)) hc
    rw [ckItems_setSlot, List.map_set] at this
    have hz1 : i.toNat = 0 + i.toNat * 1 := by omega
    rw [show (v.1.slot.map vi).set i.toNat (vi w.2) = (v.1.slot.map vi).set (0 + i.toNat * 1) (vi w.2) by rw [← hz1]] at this
    exact this
  have hk5 : ¬ e.kind = 5 := ne_of_beq_false hb
  rw [if_neg hk5] at hr2
  refine ACode.seq (ACode.region ?_)
  refine ASeq.q rfl rfl (QOp.cmp rfl rfl rfl rfl) ?_
  refine ASeq.q rfl rfl (QOp.assign rfl rfl) ?_
  refine ASeq.nil ?_
  refine AExit.then_normal ?_
  refine ACode.cond _ rfl (fun hb => ?_) (fun hb => ?_)
  · have hk6 : e.kind = 6 := eq_of_beq hb
    have hcall := hcall hk6
    refine ACode.seq (ACode.region ?_)
    refine ASeq.q rfl rfl (QOp.move rfl rfl) ?_
    refine ASeq.q rfl rfl (QOp.move rfl rfl) ?_
    refine ASeq.q rfl rfl (QOp.loadM 9 rfl rfl rfl (tok _ rfl) rfl) ?_
    refine ASeq.op rfl rfl (AOp.callP 9 rfl (by kernel_rfl) rfl rfl rfl (hcall) ?_ ?_)
    rotate_left
    · (rintro _ _ (⟨⟩ | ⟨hbad, R⟩); simp only [AExit.then, AExit.inBlock]; exact bodyQ_pan 0 rfl (.bad hbad _))
    rintro _ _ ⟨hc⟩
    refine ASeq.q rfl rfl (QOp.assign rfl rfl) ?_
    refine ASeq.nil ?_
    refine ACode.ret (AExit.in_ret (AExit.then_ret ?_))
    refine bodyQ_ret 9 (.tmp rfl .nil) rfl ?_
    exact .ok hc
  have hk6 : ¬ e.kind = 6 := ne_of_beq_false hb
  rw [if_neg hk6] at hr2
  refine ACode.seq (ACode.region ?_)
  refine ASeq.q rfl rfl (QOp.cmp rfl rfl rfl rfl) ?_
  refine ASeq.q rfl rfl (QOp.assign rfl rfl) ?_
  refine ASeq.nil ?_
  refine AExit.then_normal ?_
  refine ACode.cond _ rfl (fun hb => ?_) (fun hb => ?_)
  · have hk8 : e.kind = 8 := eq_of_beq hb
    rw [if_pos hk8] at hr2
    have hop := hop hk8
    obtain ⟨wa0, wa1⟩ := hwf.1 (.inr (.inl hk8))
    have hv := cvalue_ok n hE c k z e.a hz ho h0 hw wa0 (by omega) (by omega)
    generalize valOf (expr6 n c e.a) e.a = v at *
    have hsv : Stk v.1 r.1 := by
      rw [hr2]
      exact Stk.need v.1 _ e.fr 8
    have hs : e.op.size ≤ maxLen := by
      have h1 : e.op.size = e.op.data.toList.length := by rw [Array.length_toList]; rfl
      rw [h1]
      rcases hop with h | h
      · rw [h]; decide
      · rw [h]; decide
    refine ACode.seq (ACode.region ?_)
    refine ASeq.q rfl rfl (QOp.move rfl rfl) ?_
    refine ASeq.q rfl rfl (QOp.fieldM rfl rfl (tok _ rfl) rfl rfl (by decide) rfl) ?_
    refine ASeq.q rfl rfl (QOp.loadM 9 rfl rfl rfl (tok _ rfl) rfl) ?_
    refine ASeq.op rfl rfl (AOp.callP 9 rfl (by kernel_rfl) rfl rfl rfl (hv) ?_ ?_)
    rotate_left
    · (rintro _ _ (⟨⟩ | ⟨hbad, R⟩); simp only [AExit.then, AExit.inBlock]; exact bodyQ_pan 0 rfl (.on hsv hbad _))
    rintro _ _ ⟨hc⟩
    refine ASeq.q rfl rfl (QOp.assign rfl rfl) ?_
    refine ASeq.nil ?_
    rcases hop with hop | hop
    · have hun : unaryOk e.op v.2 = (v.2 == 1) := by unfold unaryOk; rw [hop]; rw [show (([45] : List UInt8) == [45]) = true from rfl, show (([45] : List UInt8) == [33]) = false from rfl, Bool.true_and, Bool.false_and, Bool.or_false]
      rw [hun] at hr2
      refine ACode.seq (ACode.region ?_)
      refine ASeq.q rfl rfl (QOp.move rfl rfl) ?_
      refine ASeq.op rfl rfl (AOp.makeMap (k := 9) (e := 3) rfl (fun _ => rfl) (fun mm => ?_))
      refine ASeq.op0 rfl rfl (AOp.insertSI [_, _, _, _, _, _, _, _, _, _] [] rfl rfl rfl rfl rfl tok178 rfl und9 und3i (by decide) (by decide) (by decide) ?_)
      refine ASeq.op0 rfl rfl (AOp.insertSI [_, _, _, _, _, _, _, _, _, _] [] rfl rfl rfl rfl rfl tok178 rfl und9 und3i (by decide) (by decide) (by decide) ?_)
      refine ASeq.q rfl rfl (QOp.move rfl rfl) ?_
      refine ASeq.q rfl rfl (QOp.fieldM rfl rfl (tok _ rfl) rfl rfl (by decide) rfl) ?_
      refine ASeq.q rfl rfl (QOp.loadM 9 rfl rfl rfl (tok _ rfl) rfl) ?_
      refine ASeq.q rfl rfl (QOp.lookupSI 10 (j := 1) rfl rfl rfl rfl tok178 rfl und9 und3i zero3 hs (by rw [hop]; rfl)) ?_
      refine ASeq.q rfl rfl (QOp.cmp rfl rfl rfl rfl) ?_
      refine ASeq.q rfl rfl (QOp.fieldM rfl rfl (tok _ rfl) rfl rfl (by decide) rfl) ?_
      refine ASeq.q rfl rfl (QOp.loadM 9 rfl rfl rfl (tok _ rfl) rfl) ?_
      refine ASeq.op rfl rfl (AOp.callP 0 rfl (by kernel_rfl) rfl rfl rfl (cneed_ok _ e.fr e.to 8) ?_ ?_)
      rotate_left
      · (rintro _ _ (⟨⟩ | ⟨hbad⟩); simp only [AExit.then, AExit.inBlock]; exact bodyQ_pan 0 rfl (.no hc hr2 hbad (by decide) _))
      rintro _ _ ⟨hok⟩
      refine ASeq.nil ?_
      refine ACode.seq (ACode.region ?_)
      refine ASeq.q rfl rfl (QOp.move rfl rfl) ?_
      refine ASeq.q rfl rfl (QOp.assign rfl rfl) ?_
      refine ASeq.nil ?_
      refine ACode.ret (AExit.in_ret (AExit.then_ret ?_))
      refine bodyQ_ret 9 (.tmp rfl .nil) rfl ?_
      exact .yes hc hr2 hok
    · have hun : unaryOk e.op v.2 = (v.2 == 2) := by unfold unaryOk; rw [hop]; rw [show (([33] : List UInt8) == [45]) = false from rfl, show (([33] : List UInt8) == [33]) = true from rfl, Bool.true_and, Bool.false_and, Bool.false_or]
      rw [hun] at hr2
      refine ACode.seq (ACode.region ?_)
      refine ASeq.q rfl rfl (QOp.move rfl rfl) ?_
      refine ASeq.op rfl rfl (AOp.makeMap (k := 9) (e := 3) rfl (fun _ => rfl) (fun mm => ?_))
      refine ASeq.op0 rfl rfl (AOp.insertSI [_, _, _, _, _, _, _, _, _, _] [] rfl rfl rfl rfl rfl tok178 rfl und9 und3i (by decide) (by decide) (by decide) ?_)
      refine ASeq.op0 rfl rfl (AOp.insertSI [_, _, _, _, _, _, _, _, _, _] [] rfl rfl rfl rfl rfl tok178 rfl und9 und3i (by decide) (by decide) (by decide) ?_)
      refine ASeq.q rfl rfl (QOp.move rfl rfl) ?_
      refine ASeq.q rfl rfl (QOp.fieldM rfl rfl (tok _ rfl) rfl rfl (by decide) rfl) ?_
      refine ASeq.q rfl rfl (QOp.loadM 9 rfl rfl rfl (tok _ rfl) rfl) ?_
      refine ASeq.q rfl rfl (QOp.lookupSI 10 (j := 2) rfl rfl rfl rfl tok178 rfl und9 und3i zero3 hs (by rw [hop]; rfl)) ?_
      refine ASeq.q rfl rfl (QOp.cmp rfl rfl rfl rfl) ?_
      refine ASeq.q rfl rfl (QOp.fieldM rfl rfl (tok _ rfl) rfl rfl (by decide) rfl) ?_
      refine ASeq.q rfl rfl (QOp.loadM 9 rfl rfl rfl (tok _ rfl) rfl) ?_
      refine ASeq.op rfl rfl (AOp.callP 0 rfl (by kernel_rfl) rfl rfl rfl (cneed_ok _ e.fr e.to 8) ?_ ?_)
      rotate_left
      · (rintro _ _ (⟨⟩ | ⟨hbad⟩); simp only [AExit.then, AExit.inBlock]; exact bodyQ_pan 0 rfl (.no hc hr2 hbad (by decide) _))
      rintro _ _ ⟨hok⟩
      refine ASeq.nil ?_
      refine ACode.seq (ACode.region ?_)
      refine ASeq.q rfl rfl (QOp.move rfl rfl) ?_
      refine ASeq.q rfl rfl (QOp.assign rfl rfl) ?_
      refine ASeq.nil ?_
      refine ACode.ret (AExit.in_ret (AExit.then_ret ?_))
      refine bodyQ_ret 9 (.tmp rfl .nil) rfl ?_
      exact .yes hc hr2 hok
  have hk8 : ¬ e.kind = 8 := ne_of_beq_false hb
  rw [if_neg hk8] at hr2
  refine ACode.seq (ACode.region ?_)
  refine ASeq.q rfl rfl (QOp.cmp rfl rfl rfl rfl) ?_
  refine ASeq.q rfl rfl (QOp.assign rfl rfl) ?_
  refine ASeq.nil ?_
  refine AExit.then_normal ?_
  refine ACode.cond _ rfl (fun hb => ?_) (fun hb => ?_)
  · have hk9 : e.kind = 9 := eq_of_beq hb
    have hpair := hpair hk9
    refine ACode.seq (ACode.region ?_)
    refine ASeq.q rfl rfl (QOp.move rfl rfl) ?_
    refine ASeq.q rfl rfl (QOp.loadM 9 rfl rfl rfl (tok _ rfl) rfl) ?_
    refine ASeq.op rfl rfl (AOp.callP 9 rfl (by kernel_rfl) rfl rfl rfl (hpair) ?_ ?_)
    rotate_left
    · (rintro _ _ (⟨⟩ | ⟨hbad, R⟩); simp only [AExit.then, AExit.inBlock]; exact bodyQ_pan 0 rfl (.bad hbad _))
    rintro _ _ ⟨hc⟩
    refine ASeq.q rfl rfl (QOp.assign rfl rfl) ?_
    refine ASeq.nil ?_
    refine ACode.ret (AExit.in_ret (AExit.then_ret ?_))
    refine bodyQ_ret 9 (.tmp rfl .nil) rfl ?_
    exact .ok hc
  have hk9 : ¬ e.kind = 9 := ne_of_beq_false hb
  rw [if_neg hk9] at hr2
  refine ACode.skip (ACode.seq (ACode.region ?_))
  refine ASeq.q rfl rfl (QOp.assign rfl rfl) ?_
  refine ASeq.nil ?_
  refine ACode.ret ?_
  refine bodyQ_ret 9 (.tmp rfl .nil) rfl ?_
  rw [hr2]; exact .ok (r := (c, 2)) h0
end Go.Proofs.Ytaadamobapnfbaa
set_option linter.unusedVariables false
set_option linter.unusedSimpArgs false
set_option maxRecDepth 100000
namespace Go.Proofs.Ytaadamobapnfbaa
open Go Go.Abs
theorem cexprs : ∀ n, CEx n
  | 0 => fun c k z i hz ho h0 hw hi0 hi1 hin => absurd hin (by omega)
  | n + 1 => cexpr_ok n (ctype_ok n (cexprs n))
theorem Ckz.twice {c : CS} {z : Zt} (h : Ckz c z) (s : ByteArray) : c.twice s = z.top.any (sameT s) := by
  have hb := h.block
  have hn : c.names = (z.zs.map Prod.snd).flatten ++ z.top := by rw [h.names]; simp [Zt.all]
  unfold CS.twice
  rw [hn, List.any_append]
  have h1 : (z.zs.map Prod.snd).flatten.any (fun n => (n.text.data.toList == s.data.toList) && (n.block == c.block)) = false := by
    rw [List.any_eq_false]
    intro n hn
    have := h.outs n hn
    have hne : (n.block == c.block) = false := by rw [hb]; exact beq_eq_false_iff_ne.2 (by omega)
    rw [hne, Bool.and_false]; decide
  rw [h1, Bool.false_or]
  have : ∀ (l : List Nm), (∀ n ∈ l, n.block = z.zs.length) → l.any (fun n => (n.text.data.toList == s.data.toList) && (n.block == c.block)) = l.any (sameT s) := by
    intro l
    induction l with
    | nil => intro _; rfl
    | cons a l ih =>
      intro hl
      rw [List.any_cons, List.any_cons, ih (fun n hn => hl n (by simp [hn]))]
      have : (a.block == c.block) = true := by rw [hb, hl a (by simp)]; exact beq_self_eq_true _
      rw [this, Bool.and_true]; rfl
  exact this _ h.tops
/-- a name more, in the innermost block -/
def Zt.more (z : Zt) (τ τz : Nat) (n : Nm) : Zt := { z with τ := τ, τz := τz, top := z.top ++ [n] }
theorem decl_two {c : CS} (h0 : c.code = 0) (s : ByteArray) (k a : Int) (h : c.twice s = true) : c.decl s k a = ({ c with code := 7, at_ := a }, -1) := by
  have e : (c.need (!c.twice s) a 7).need (decide ((c.cur.length : Int) < 64)) a 5 = { c with code := 7, at_ := a } := by
    rw [h, Bool.not_true, need_no c h0]
    unfold CS.need
    rw [if_neg (fun h => absurd h.1 (by show ¬ (7 : Int) = 0; decide))]
  unfold CS.decl
  rw [e, if_pos (by show (7 : Int) ≠ 0; decide)]
theorem decl_many {c : CS} (h0 : c.code = 0) (s : ByteArray) (k a : Int) (h : c.twice s = false) (h6 : ¬ (c.cur.length : Int) < 64) : c.decl s k a = ({ c with code := 5, at_ := a }, -1) := by
  have e : (c.need (!c.twice s) a 7).need (decide ((c.cur.length : Int) < 64)) a 5 = { c with code := 5, at_ := a } := by
    rw [h, Bool.not_false, need_yes, decide_eq_false h6, need_no c h0]
  unfold CS.decl
  rw [e, if_pos (by show (5 : Int) ≠ 0; decide)]
theorem decl_good {c : CS} (h0 : c.code = 0) (s : ByteArray) (k a : Int) (h : c.twice s = false) (h6 : (c.cur.length : Int) < 64) :
    c.decl s k a = ({ c with slots := c.slots.set c.f.toNat (c.cur ++ [k]), names := c.names ++ [⟨s, c.block, c.cur.length⟩] }, (c.cur.length : Int)) := by
  have e : (c.need (!c.twice s) a 7).need (decide ((c.cur.length : Int) < 64)) a 5 = c := by
    rw [h, Bool.not_false, need_yes, decide_eq_true h6, need_yes]
  unfold CS.decl
  rw [e, if_neg (fun h => h h0)]
theorem decl_cases {c : CS} (h0 : c.code = 0) (s : ByteArray) (k a : Int) (h : (c.decl s k a).1.code = 0) : c.twice s = false ∧ (c.cur.length : Int) < 64 := by
  cases ht : c.twice s with
  | true => rw [decl_two h0 s k a ht] at h; exact absurd h (by show ¬ (7 : Int) = 0; decide)
  | false =>
    refine ⟨rfl, ?_⟩
    by_cases h6 : (c.cur.length : Int) < 64
    · exact h6
    · rw [decl_many h0 s k a ht h6] at h; exact absurd h (by show ¬ (5 : Int) = 0; decide)
inductive RD (k : Mk) (z : Zt) (c : CS) (s : ByteArray) (r : CS × Int) : AOut → List Abs.Item → Prop
  | ok (h : r.1.code = 0) (τ τz : Nat) : RD k z c s r (.ret (vi r.2)) (ckItems r.1 k (z.more τ τz ⟨s, c.block, r.2⟩))
  | bad (h : r.1.code ≠ 0) (R : List Abs.Item) : RD k z c s r (.pan (wrongV r.1.at_ r.1.code)) R
theorem RD.of {k : Mk} {z : Zt} {c : CS} {s : ByteArray} {r : CS × Int} {R : List Abs.Item} (h : r.1.code = 0) (τ τz : Nat) (e : R = ckItems r.1 k (z.more τ τz ⟨s, c.block, r.2⟩)) : RD k z c s r (.ret (vi r.2)) R := by subst e; exact .ok h τ τz
theorem Ckz.more {c : CS} {z : Zt} (h : Ckz c z) (h0 : c.code = 0) (s : ByteArray) (kind a : Int) (τ τz : Nat) (hc : (c.decl s kind a).1.code = 0) : Ckz (c.decl s kind a).1 (z.more τ τz ⟨s, c.block, (c.decl s kind a).2⟩) := by
  obtain ⟨ht, h6⟩ := decl_cases h0 s kind a hc
  rw [decl_good h0 s kind a ht h6]
  rw [h.twice] at ht
  refine ⟨?_, h.block, ?_, h.outs, ?_, h.deep⟩
  · show c.names ++ _ = _
    rw [h.names]; simp [Zt.all, Zt.more]
  · intro n hn
    rcases List.mem_append.1 hn with hn | hn
    · exact h.tops n hn
    · rw [List.mem_singleton] at hn; subst hn; exact h.block
  · intro l hl
    have hl : l ∈ z.zs.map Prod.snd ∨ l = z.top ++ [⟨s, c.block, c.cur.length⟩] := by simpa [Zt.all, Zt.more] using hl
    rcases hl with hl | rfl
    · exact h.uniq l (by simp only [Zt.all, List.map_append]; exact List.mem_append_left _ hl)
    · refine List.pairwise_append.2 ⟨h.uniq z.top (by simp [Zt.all]), List.pairwise_singleton _ _, ?_⟩
      intro x hx y hy
      rw [List.mem_singleton] at hy; subst hy
      have := List.any_eq_false.1 ht x hx
      simpa [sameT] using this
theorem ztop {z : Zt} : (z.all.map zcell)[0 + ((z.all.length : Int) - 1).toNat * 1]? = some (.il 2 (some z.τz) (z.top.map brow)) := by
  have h1 : 0 + ((z.all.length : Int) - 1).toNat * 1 = z.zs.length := by have := z.all_len; omega
  rw [h1, List.getElem?_map]
  simp [Zt.all, zcell]
theorem ztop_set {z : Zt} (τ τz : Nat) (n : Nm) : (z.all.map zcell).set (0 + ((z.all.length : Int) - 1).toNat * 1) (.il 2 (some τz) (z.top.map brow ++ [brow n])) = (z.more τ τz n).all.map zcell := by
  have h1 : 0 + ((z.all.length : Int) - 1).toNat * 1 = z.zs.length := by have := z.all_len; omega
  rw [h1]
  simp [Zt.all, Zt.more, zcell]
theorem brow_rows (l : List Nm) (x : Nm) : ∀ r ∈ l.map brow ++ [brow x], r.length = 2 := rows_ok 2 _ _ (fun y hy => by obtain ⟨z, _, rfl⟩ := List.mem_map.1 hy; rfl) rfl
set_option maxHeartbeats 8000000 in
theorem cdeclare_ok (c : CS) (k : Mk) (z : Zt) (hz : Ckz c z) (ho : c.ok) (h0 : c.code = 0) (s : ByteArray) (kind fr to : Int) :
    ACalls Try.prog 41 [.mp k.mC 0, vs s, vi kind, .agg [vi fr, vi to]] (ckItems c k z) (RD k z c s (c.decl s kind fr)) := by
  have hcur := slotCells_cur ho z.τ
  have htop := ztop (z := z)
  have hzl := z.all_len
  have hzm : (z.all.map zcell).length = z.all.length := List.length_map ..
  have hdeep := hz.deep
  have htl : z.top.length ≤ 1048576 := hz.len ho (z.τz, z.top) (by simp [Zt.all])
  have hf0 := ho.f0
  have hf1 := ho.f1
  have hfl : 0 + c.f.toNat * 1 < (c.slotCells z.τ).length := by rw [slotCells_len]; omega
  have hzlt : 0 + ((z.all.length : Int) - 1).toNat * 1 < (z.all.map zcell).length := by omega
  have hil := ints_len c.cur
  have h64 := ho.n64
  have htw := hz.twice s
  have hbl : (z.top.map brow).length = z.top.length := List.length_map ..
  refine ACalls.of_code (c := _) Try.func41 rfl Try.ntmps41 (Nat.le_of_ble_eq_true rfl) ?_
  refine ACode.seq (ACode.region ?_)
  refine ASeq.op rfl rfl (AOp.boxP rfl rfl rfl (fun _ => rfl) (fun _ => ?_))
  refine ASeq.op rfl rfl (AOp.boxP rfl rfl rfl (fun _ => rfl) (fun _ => ?_))
  refine ASeq.q rfl rfl (QOp.assign rfl rfl) ?_
  refine ASeq.nil ?_
  rename_i m5 m7
  have hhas : ACalls Try.prog 64 [.il 2 (some z.τz) (z.top.map brow), .fn (.func 65) [] [.mp m5 0]] (ckItems c k z ++ [.mu m5 [vs s]]) (RV (.v (.bool (z.top.any (sameT s)))) (ckItems c k z ++ [.mu m5 [vs s]])) := by
    refine (ACalls.perm List.perm_append_comm ((has64 s m5 (some z.τz) z.top htl).frame (F := ckItems c k z))).less ?_
    rintro _ _ ⟨R1, rfl, ⟨⟩⟩
    exact ⟨_, _, List.perm_append_comm, List.Sublist.refl _, .mk⟩
  refine ACode.seq (ACode.region ?_)
  refine ASeq.q rfl rfl (QOp.move rfl rfl) ?_
  refine ASeq.q rfl rfl (QOp.nilCheckM rfl rfl) ?_
  refine ASeq.q rfl rfl (QOp.fieldM rfl rfl (tok _ rfl) rfl rfl (by decide) rfl) ?_
  refine ASeq.q rfl rfl (QOp.loadM 0 rfl rfl rfl (tok _ rfl) rfl) ?_
  refine ASeq.q rfl rfl (QOp.lenM rfl rfl (tok _ rfl) rfl) ?_
  refine ASeq.q rfl rfl (QOp.ar64 rfl rfl rfl rfl ⟨by omega, by omega⟩) ?_
  refine ASeq.q rfl rfl (QOp.assign rfl rfl) ?_
  refine ASeq.nil ?_
  refine ACode.seq ?_
  refine ACode.drawn [[], [0], [0, 1], [0, 1, 2], [], [0, 1, 2, 3, 4], [0, 1, 2, 3, 4, 5], [], [0, 1, 2, 3, 4, 5, 6, 7], [0, 1, 2, 3, 4, 5, 6, 7, 8], [], [0, 1, 2, 3, 4, 5, 6, 7, 8, 9, 10]] (by kernel_rfl) mixed ?_
  refine DAny.qu 0 rfl rfl (by kernel_rfl) rfl (fun _ => .does _ _ rfl (.none rfl) (QOp.move rfl rfl)) ?_
  refine DAny.qu 1 rfl rfl (by kernel_rfl) rfl (fun _ => .does _ _ rfl (.none rfl) (QOp.nilCheckM rfl rfl)) ?_
  refine DAny.qu 2 rfl rfl (by kernel_rfl) rfl (fun _ => .does _ _ rfl (.none rfl) (QOp.fieldM rfl rfl (tok _ rfl) rfl rfl (by decide) rfl)) ?_
  refine DAny.ld 3 rfl rfl (by kernel_rfl) rfl (.does _ _ rfl (.none rfl) (QOp.loadM 0 rfl rfl rfl (tok _ rfl) rfl)) ?_
  refine DAny.qu 4 rfl rfl (by kernel_rfl) rfl (fun _ => .does _ _ rfl (.none rfl) (QOp.move rfl rfl)) ?_
  refine DAny.qu 5 rfl rfl (by kernel_rfl) rfl (fun _ => .does _ _ rfl (.none rfl) (QOp.indexM rfl rfl rfl (tok _ rfl) rfl (tok _ rfl) (by omega) (by omega) rfl)) ?_
  refine DAny.ld 6 rfl rfl (by kernel_rfl) rfl (.does _ _ rfl (.none rfl) (QOp.loadAt 1 rfl rfl rfl (tok _ rfl) rfl (by assumption))) ?_
  refine DAny.qu 7 rfl rfl (by kernel_rfl) rfl (fun _ => .does _ _ rfl (.none rfl) (QOp.makeFunc rfl rfl rfl ⟨_, rfl⟩)) ?_
  refine DAny.ld 10 rfl rfl (by kernel_rfl) rfl (.does _ _ rfl (.none rfl) (QOp.loadM 10 rfl rfl rfl (tok _ rfl) rfl)) ?_
  refine DAny.ef 8 rfl (by kernel_rfl) (.none rfl) rfl rfl (AOp.callP 10 rfl (by kernel_rfl) rfl rfl rfl (hhas) ?_ (by rintro _ _ ⟨⟩))
  rintro _ _ ⟨⟩
  refine ⟨(by ((refine AllQ.cons (.does _ _ rfl (by exact .none rfl) (QOp.loadM 10 rfl rfl rfl (tok _ rfl) rfl)) ?_); (exact AllQ.nil))), ?_⟩
  refine DAny.qu 9 rfl rfl (by kernel_rfl) rfl (fun _ => .does _ _ rfl (.none rfl) (QOp.not rfl rfl)) ?_
  refine DAny.ef 11 rfl (by kernel_rfl) (.none rfl) rfl rfl (AOp.callP 0 rfl (by kernel_rfl) rfl rfl rfl (cneed_ok _ fr to 7) ?_ ?_)
  rotate_left
  · (rintro _ _ (⟨⟩ | ⟨hbad⟩); simp only [AExit.then, AExit.inBlock]; exact bodyQ_pan 0 rfl (by rw [decl_two h0 s kind fr (by rw [htw]; simpa using hbad)]; exact RD.bad (r := (({ c with code := 7, at_ := fr } : CS), -1)) (by show (7 : Int) ≠ 0; decide) _))
  rintro _ _ ⟨hok⟩
  refine ⟨(by ((exact AllQ.nil))), ?_⟩
  refine DAny.done (by kernel_rfl) ?_
  have ht : c.twice s = false := by rw [htw]; simpa using hok
  refine ACode.seq ?_
  refine ACode.drawn [[], [0], [0, 1], [0, 1, 2], [0, 1, 2, 3], [], [5], [5, 6], [5, 6, 7], [0, 1, 2, 3, 4, 5, 6, 7, 8], [0, 1, 2, 3, 4, 5, 6, 7, 8, 9], [0, 1, 2, 3, 4, 5, 6, 7, 8, 9, 10], [0, 1, 2, 3, 4, 5, 6, 7, 8, 9, 10, 11]] (by kernel_rfl) mixed ?_
  refine DAny.qu 0 rfl rfl (by kernel_rfl) rfl (fun _ => .does _ _ rfl (.none rfl) (QOp.move rfl rfl)) ?_
  refine DAny.qu 1 rfl rfl (by kernel_rfl) rfl (fun _ => .does _ _ rfl (.none rfl) (QOp.nilCheckM rfl rfl)) ?_
  refine DAny.qu 2 rfl rfl (by kernel_rfl) rfl (fun _ => .does _ _ rfl (.none rfl) (QOp.fieldM rfl rfl (tok _ rfl) rfl rfl (by decide) rfl)) ?_
  refine DAny.qu 3 rfl rfl (by kernel_rfl) rfl (fun _ => .does _ _ rfl (.none rfl) (QOp.fieldM rfl rfl (tok _ rfl) rfl rfl (by decide) rfl)) ?_
  refine DAny.ld 4 rfl rfl (by kernel_rfl) rfl (.does _ _ rfl (.none rfl) (QOp.loadM 0 rfl rfl rfl (tok _ rfl) rfl)) ?_
  refine DAny.qu 5 rfl rfl (by kernel_rfl) rfl (fun _ => .does _ _ rfl (.none rfl) (QOp.move rfl rfl)) ?_
  refine DAny.qu 6 rfl rfl (by kernel_rfl) rfl (fun _ => .does _ _ rfl (.none rfl) (QOp.nilCheckM rfl rfl)) ?_
  refine DAny.qu 7 rfl rfl (by kernel_rfl) rfl (fun _ => .does _ _ rfl (.none rfl) (QOp.fieldM rfl rfl (tok _ rfl) rfl rfl (by decide) rfl)) ?_
  refine DAny.ld 8 rfl rfl (by kernel_rfl) rfl (.does _ _ rfl (.none rfl) (QOp.loadM 0 rfl rfl rfl (tok _ rfl) rfl)) ?_
  refine DAny.qu 9 rfl rfl (by kernel_rfl) rfl (fun _ => .does _ _ rfl (.none rfl) (QOp.indexM rfl rfl rfl (tok _ rfl) rfl (tok _ rfl) (by omega) (by omega) rfl)) ?_
  refine DAny.ld 10 rfl rfl (by kernel_rfl) rfl (.does _ _ rfl (.none rfl) (QOp.loadAt 6 rfl rfl rfl (tok _ rfl) rfl (by assumption))) ?_
  refine DAny.qu 11 rfl rfl (by kernel_rfl) rfl (fun _ => .does _ _ rfl (.none rfl) (QOp.lenI rfl rfl (tok _ rfl) rfl)) ?_
  refine DAny.ef 12 rfl (by kernel_rfl) (.none rfl) rfl rfl (.q (QOp.assign rfl rfl) ⟨(by ((exact AllQ.nil))), ?_⟩)
  refine DAny.done (by kernel_rfl) ?_
  refine ACode.seq (ACode.region ?_)
  refine ASeq.q rfl rfl (QOp.move rfl rfl) ?_
  refine ASeq.q rfl rfl (QOp.cmp rfl rfl rfl rfl) ?_
  refine ASeq.q rfl rfl (QOp.loadM 10 rfl rfl rfl (tok _ rfl) rfl) ?_
  refine ASeq.op rfl rfl (AOp.callP 0 rfl (by kernel_rfl) rfl rfl rfl (cneed_ok _ fr to 5) ?_ ?_)
  rotate_left
  · (rintro _ _ (⟨⟩ | ⟨hbad⟩); simp only [AExit.then, AExit.inBlock]; exact bodyQ_pan 0 rfl (by rw [decl_many h0 s kind fr ht (by rw [← hil]; exact of_decide_eq_false hbad)]; exact RD.bad (r := (({ c with code := 5, at_ := fr } : CS), -1)) (by show (5 : Int) ≠ 0; decide) _))
  rintro _ _ ⟨hok2⟩
  refine ASeq.nil ?_
  have h6 : (c.cur.length : Int) < 64 := by rw [← hil]; exact of_decide_eq_true hok2
  refine ACode.seq ?_
  refine ACode.drawn [[], [0], [0, 1], [0, 1, 2], [0, 1, 2, 3], [], [5], [5, 6], [5, 6, 7], [], [9], [9, 10], [9, 10, 11], [9, 10, 11, 12], [], [14], [14, 15], [14, 15, 16], [9, 10, 11, 12, 13, 14, 15, 16, 17], [9, 10, 11, 12, 13, 14, 15, 16, 17, 18], [], [20], [9, 10, 11, 12, 13, 14, 15, 16, 17, 18, 19, 20, 21], [0, 1, 2, 3, 4, 5, 6, 7, 8, 9, 10, 11, 12, 13, 14, 15, 16, 17, 18, 19, 20, 21, 22], [0, 1, 2, 3, 4, 5, 6, 7, 8, 9, 10, 11, 12, 13, 14, 15, 16, 17, 18, 19, 20, 21, 22, 23]] (by kernel_rfl) mixed ?_
  refine DAny.qu 0 rfl rfl (by kernel_rfl) rfl (fun _ => .does _ _ rfl (.none rfl) (QOp.move rfl rfl)) ?_
  refine DAny.qu 1 rfl rfl (by kernel_rfl) rfl (fun _ => .does _ _ rfl (.none rfl) (QOp.nilCheckM rfl rfl)) ?_
  refine DAny.qu 2 rfl rfl (by kernel_rfl) rfl (fun _ => .does _ _ rfl (.none rfl) (QOp.fieldM rfl rfl (tok _ rfl) rfl rfl (by decide) rfl)) ?_
  refine DAny.qu 3 rfl rfl (by kernel_rfl) rfl (fun _ => .does _ _ rfl (.none rfl) (QOp.fieldM rfl rfl (tok _ rfl) rfl rfl (by decide) rfl)) ?_
  refine DAny.ld 4 rfl rfl (by kernel_rfl) rfl (.does _ _ rfl (.none rfl) (QOp.loadM 0 rfl rfl rfl (tok _ rfl) rfl)) ?_
  refine DAny.qu 5 rfl rfl (by kernel_rfl) rfl (fun _ => .does _ _ rfl (.none rfl) (QOp.move rfl rfl)) ?_
  refine DAny.qu 6 rfl rfl (by kernel_rfl) rfl (fun _ => .does _ _ rfl (.none rfl) (QOp.nilCheckM rfl rfl)) ?_
  refine DAny.qu 7 rfl rfl (by kernel_rfl) rfl (fun _ => .does _ _ rfl (.none rfl) (QOp.fieldM rfl rfl (tok _ rfl) rfl rfl (by decide) rfl)) ?_
  refine DAny.ld 8 rfl rfl (by kernel_rfl) rfl (.does _ _ rfl (.none rfl) (QOp.loadM 0 rfl rfl rfl (tok _ rfl) rfl)) ?_
  refine DAny.qu 9 rfl rfl (by kernel_rfl) rfl (fun _ => .does _ _ rfl (.none rfl) (QOp.move rfl rfl)) ?_
  refine DAny.qu 10 rfl rfl (by kernel_rfl) rfl (fun _ => .does _ _ rfl (.none rfl) (QOp.nilCheckM rfl rfl)) ?_
  refine DAny.qu 11 rfl rfl (by kernel_rfl) rfl (fun _ => .does _ _ rfl (.none rfl) (QOp.fieldM rfl rfl (tok _ rfl) rfl rfl (by decide) rfl)) ?_
  refine DAny.qu 12 rfl rfl (by kernel_rfl) rfl (fun _ => .does _ _ rfl (.none rfl) (QOp.fieldM rfl rfl (tok _ rfl) rfl rfl (by decide) rfl)) ?_
  refine DAny.ld 13 rfl rfl (by kernel_rfl) rfl (.does _ _ rfl (.none rfl) (QOp.loadM 0 rfl rfl rfl (tok _ rfl) rfl)) ?_
  refine DAny.qu 14 rfl rfl (by kernel_rfl) rfl (fun _ => .does _ _ rfl (.none rfl) (QOp.move rfl rfl)) ?_
  refine DAny.qu 15 rfl rfl (by kernel_rfl) rfl (fun _ => .does _ _ rfl (.none rfl) (QOp.nilCheckM rfl rfl)) ?_
  refine DAny.qu 16 rfl rfl (by kernel_rfl) rfl (fun _ => .does _ _ rfl (.none rfl) (QOp.fieldM rfl rfl (tok _ rfl) rfl rfl (by decide) rfl)) ?_
  refine DAny.ld 17 rfl rfl (by kernel_rfl) rfl (.does _ _ rfl (.none rfl) (QOp.loadM 0 rfl rfl rfl (tok _ rfl) rfl)) ?_
  refine DAny.qu 18 rfl rfl (by kernel_rfl) rfl (fun _ => .does _ _ rfl (.none rfl) (QOp.indexM rfl rfl rfl (tok _ rfl) rfl (tok _ rfl) (by omega) (by omega) rfl)) ?_
  refine DAny.ld 19 rfl rfl (by kernel_rfl) rfl (.does _ _ rfl (.none rfl) (QOp.loadAt 6 rfl rfl rfl (tok _ rfl) rfl (by assumption))) ?_
  refine DAny.qu 20 rfl rfl (by kernel_rfl) rfl (fun _ => .does _ _ rfl (.none rfl) (QOp.move rfl rfl)) ?_
  refine DAny.ef 21 rfl (by kernel_rfl) (.none rfl) rfl rfl (AOp.buildSliceR rfl (tok _ rfl) rfl (tok _ rfl) (by decide) rfl (by decide) rfl rfl rfl rfl ⟨(by ((refine AllQ.cons (.does _ _ rfl (by exact .none rfl) (QOp.loadAt 6 rfl rfl rfl (tok _ rfl) rfl (by assumption))) ?_); (refine AllQ.cons (.does _ _ rfl (by exact .none rfl) (QOp.loadM 0 rfl rfl rfl (tok _ rfl) rfl)) ?_); (refine AllQ.cons (.does _ _ rfl (by exact .none rfl) (QOp.loadM 0 rfl rfl rfl (tok _ rfl) rfl)) ?_); (refine AllQ.cons (.does _ _ rfl (by exact .none rfl) (QOp.loadM 0 rfl rfl rfl (tok _ rfl) rfl)) ?_); (refine AllQ.cons (.does _ _ rfl (by exact .none rfl) (QOp.loadM 0 rfl rfl rfl (tok _ rfl) rfl)) ?_); (exact AllQ.nil))), ?_⟩)
  refine DAny.ef 22 rfl (by kernel_rfl) (.none rfl) rfl rfl (AOp.appendP 7 (e := 3) (tde := TT 3) rfl rfl rfl rfl (tok _ rfl) rfl (tok _ rfl) (tok _ rfl) rfl (by decide) rfl rfl (fun _ => rfl) (ints_rows c.cur kind) (by simp only [ints_len, List.length_cons, List.length_nil]; omega) rfl (fun _ => ⟨(by ((refine AllQ.cons (.does _ _ rfl (by exact .none rfl) (QOp.loadM 0 rfl rfl rfl (tok _ rfl) rfl)) ?_); (refine AllQ.cons (.does _ _ rfl (by exact .none rfl) (QOp.loadM 0 rfl rfl rfl (tok _ rfl) rfl)) ?_); (exact AllQ.nil))), ?_⟩))
  refine DAny.qu 23 rfl rfl (by kernel_rfl) rfl (fun _ => .does _ _ rfl (.none rfl) (QOp.indexM rfl rfl rfl (tok _ rfl) rfl (tok _ rfl) (by omega) (by omega) rfl)) ?_
  refine DAny.ef0 24 rfl (by kernel_rfl) (.none rfl) rfl rfl (AOp.storeAt 6 rfl rfl rfl rfl (tok _ rfl) rfl rfl (by assumption) rfl ⟨(by ((exact AllQ.nil))), ?_⟩)
  refine DAny.done (by kernel_rfl) ?_
  rename_i τ'
  refine ACode.seq ?_
  refine ACode.drawn [[], [0], [0, 1], [0, 1, 2], [], [], [5], [5, 6], [5, 6, 7], [], [5, 6, 7, 8, 9], [5, 6, 7, 8, 9, 10], [], [], [12, 13], [12, 13, 14], [5, 6, 7, 8, 9, 10, 11, 12, 13, 14, 15], [0, 1, 2, 3, 4, 5, 6, 7, 8, 9, 10, 11, 12, 13, 14, 15, 16], [0, 1, 2, 3, 4, 5, 6, 7, 8, 9, 10, 11, 12, 13, 14, 15, 16, 17]] (by kernel_rfl) mixed ?_
  refine DAny.qu 0 rfl rfl (by kernel_rfl) rfl (fun _ => .does _ _ rfl (.none rfl) (QOp.move rfl rfl)) ?_
  refine DAny.qu 1 rfl rfl (by kernel_rfl) rfl (fun _ => .does _ _ rfl (.none rfl) (QOp.nilCheckM rfl rfl)) ?_
  refine DAny.qu 2 rfl rfl (by kernel_rfl) rfl (fun _ => .does _ _ rfl (.none rfl) (QOp.fieldM rfl rfl (tok _ rfl) rfl rfl (by decide) rfl)) ?_
  refine DAny.ld 3 rfl rfl (by kernel_rfl) rfl (.does _ _ rfl (.none rfl) (QOp.loadM 0 rfl rfl rfl (tok _ rfl) rfl)) ?_
  refine DAny.qu 4 rfl rfl (by kernel_rfl) rfl (fun _ => .does _ _ rfl (.none rfl) (QOp.move rfl rfl)) ?_
  refine DAny.qu 5 rfl rfl (by kernel_rfl) rfl (fun _ => .does _ _ rfl (.none rfl) (QOp.move rfl rfl)) ?_
  refine DAny.qu 6 rfl rfl (by kernel_rfl) rfl (fun _ => .does _ _ rfl (.none rfl) (QOp.nilCheckM rfl rfl)) ?_
  refine DAny.qu 7 rfl rfl (by kernel_rfl) rfl (fun _ => .does _ _ rfl (.none rfl) (QOp.fieldM rfl rfl (tok _ rfl) rfl rfl (by decide) rfl)) ?_
  refine DAny.ld 8 rfl rfl (by kernel_rfl) rfl (.does _ _ rfl (.none rfl) (QOp.loadM 0 rfl rfl rfl (tok _ rfl) rfl)) ?_
  refine DAny.qu 9 rfl rfl (by kernel_rfl) rfl (fun _ => .does _ _ rfl (.none rfl) (QOp.move rfl rfl)) ?_
  refine DAny.qu 10 rfl rfl (by kernel_rfl) rfl (fun _ => .does _ _ rfl (.none rfl) (QOp.indexM rfl rfl rfl (tok _ rfl) rfl (tok _ rfl) (by omega) (by omega) rfl)) ?_
  refine DAny.ld 11 rfl rfl (by kernel_rfl) rfl (.does _ _ rfl (.none rfl) (QOp.loadAt 1 rfl rfl rfl (tok _ rfl) rfl (by assumption))) ?_
  refine DAny.ld 12 rfl rfl (by kernel_rfl) rfl (.does _ _ rfl (.none rfl) (QOp.loadM 9 rfl rfl rfl (tok _ rfl) rfl)) ?_
  refine DAny.qu 13 rfl rfl (by kernel_rfl) rfl (fun _ => .does _ _ rfl (.none rfl) (QOp.move rfl rfl)) ?_
  refine DAny.qu 14 rfl rfl (by kernel_rfl) rfl (fun _ => .does _ _ rfl (.none rfl) (QOp.build rfl (tok _ rfl) rfl rfl rfl rfl rfl)) ?_
  refine DAny.ef 15 rfl (by kernel_rfl) (.none rfl) rfl rfl (AOp.buildSliceR rfl (tok _ rfl) rfl (tok _ rfl) (by decide) rfl (by decide) rfl rfl rfl rfl ⟨(by ((refine AllQ.cons (.does _ _ rfl (by exact .none rfl) (QOp.loadAt 1 rfl rfl rfl (tok _ rfl) rfl (by assumption))) ?_); (refine AllQ.cons (.does _ _ rfl (by exact .none rfl) (QOp.loadM 0 rfl rfl rfl (tok _ rfl) rfl)) ?_); (refine AllQ.cons (.does _ _ rfl (by exact .none rfl) (QOp.loadM 0 rfl rfl rfl (tok _ rfl) rfl)) ?_); (exact AllQ.nil))), ?_⟩)
  refine DAny.ef 16 rfl (by kernel_rfl) (.none rfl) rfl rfl (AOp.appendP 8 (e := 133) (tde := TT 133) rfl rfl rfl rfl (tok _ rfl) rfl (tok _ rfl) (tok _ rfl) rfl (by decide) rfl rfl (fun _ => rfl) (brow_rows z.top ⟨s, c.block, (ints c.cur).length⟩) (by simp only [hbl, List.length_cons, List.length_nil]; omega) rfl (fun _ => ⟨(by ((refine AllQ.cons (.does _ _ rfl (by exact .none rfl) (QOp.loadM 0 rfl rfl rfl (tok _ rfl) rfl)) ?_); (exact AllQ.nil))), ?_⟩))
  refine DAny.qu 17 rfl rfl (by kernel_rfl) rfl (fun _ => .does _ _ rfl (.none rfl) (QOp.indexM rfl rfl rfl (tok _ rfl) rfl (tok _ rfl) (by omega) (by omega) rfl)) ?_
  refine DAny.ef0 18 rfl (by kernel_rfl) (.none rfl) rfl rfl (AOp.storeAt 1 rfl rfl rfl rfl (tok _ rfl) rfl rfl (by assumption) rfl ⟨(by ((exact AllQ.nil))), ?_⟩)
  refine DAny.done (by kernel_rfl) ?_
  rename_i τz'
  refine ACode.seq (ACode.region ?_)
  refine ASeq.q rfl rfl (QOp.move rfl rfl) ?_
  refine ASeq.q rfl rfl (QOp.assign rfl rfl) ?_
  refine ASeq.nil ?_
  refine ACode.ret ?_
  refine bodyQ_ret 9 (.tmp rfl .nil) rfl ?_
  rw [decl_good h0 s kind fr ht h6, hil]
  refine RD.of h0 τ' τz' ?_
  have e1 := slotCells_set ho z.τ τ' (c.cur ++ [kind])
  rw [← ints_snoc] at e1
  have e2 := ztop_set (z := z) τ' τz' ⟨s, c.block, c.cur.length⟩
  have e3 : (c.slots.set c.f.toNat (c.cur ++ [kind])).length = c.slots.length := List.length_set
  have e4 : (z.more τ' τz' ⟨s, c.block, c.cur.length⟩).all.length = z.all.length := by simp [Zt.all, Zt.more]
  simp only [ckItems, ckCells, e3, e4]
  rw [← e2]
  exact congrArg (fun x => [Abs.Item.mu k.mC _, Abs.Item.mu z.mZ _, Abs.Item.mu k.mT _, Abs.Item.mu k.mS _, Abs.Item.mu k.mP _, Abs.Item.mu k.mF _, Abs.Item.mu k.mL x, Abs.Item.tk τ', Abs.Item.tk τz']) e1
end Go.Proofs.Ytaadamobapnfbaa
set_option linter.unusedVariables false
set_option linter.unusedSimpArgs false
set_option maxRecDepth 100000
namespace Go.Proofs.Ytaadamobapnfbaa
open Go Go.Abs
theorem tdecl (c : CS) (s : ByteArray) (k a : Int) : (c.decl s k a).1.t = c.t := by
  unfold CS.decl
  split
  · exact (Kept.need _ _ _ _).t.trans (Kept.need _ _ _ _).t
  · rfl
theorem tstmts {g : CS → Int → CS} (hg : ∀ c i, (g c i).t = c.t) (b : Int) : ∀ (l : List Int) (c : CS), (stmtsOf g b l c).t = c.t
  | [], c => rfl
  | i :: l, c => (tstmts hg b l _).trans (hg c i)
theorem tblock {g : CS → Int → CS} (hg : ∀ c i, (g c i).t = c.t) (c : CS) (l : List Int) : (blockOf g c l).t = c.t := tstmts hg _ l _
theorem tcase {g : CS → Int → CS} (hg : ∀ c i, (g c i).t = c.t) (c : CS) (s : St) : (stmtCase g c s).1.t = c.t := by
  have hv : (vals c s.a).1.t = c.t := (Kept.vals c s.a).t
  unfold stmtCase
  split
  · split
    · exact hv
    · exact (tdecl _ _ _ _).trans hv
  split
  · split
    · exact (Kept.need _ _ _ _).t
    · exact (tdecl _ _ _ _).trans (Kept.need _ _ _ _).t
  split
  · split
    · exact hv
    · split
      · exact ((Kept.slotOf _ _ _ _).trans (.need _ _ _ _)).t.trans hv
      · exact (Kept.slotOf _ _ _ _).t.trans hv
  split
  · split
    · exact (Kept.vals _ _).t.trans hv
    · exact ((Kept.slotOf _ _ _ _).trans (.need _ _ _ _)).t.trans ((Kept.vals _ _).t.trans hv)
  split
  · exact (tblock hg _ _).trans ((tblock hg _ _).trans ((Kept.need _ _ _ _).t.trans hv))
  split
  · exact (tblock hg _ _).trans ((Kept.need ({ (vals c s.a).1 with loops := c.loops + 1 } : CS) _ _ _).t.trans hv)
  split
  · exact (Kept.need _ _ _ _).t
  split
  · split
    · exact (Kept.need _ _ _ _).t.trans hv
    · exact (Kept.need _ _ _ _).t
  split
  · exact hv
  split
  · exact (Kept.expr6 _ _ _).t
  · rfl
theorem tputted {r : CS × Int} (i : Int) : (putted r i).t = r.1.t := by
  unfold Ytaadamobapnfbaa.putted
  split <;> rfl
theorem tstm : ∀ (n : Nat) (c : CS) (i : Int), (stm6 n c i).t = c.t
  | 0, c, i => rfl
  | n + 1, c, i => by
    unfold Ytaadamobapnfbaa.stm6
    split
    · rfl
    · exact (tputted i).trans (tcase (tstm n) _ _)
theorem stm_t {c d : CS} (h : d.t = c.t) (i : Int) : d.stm i = c.stm i := by unfold CS.stm; rw [h]
theorem caseT (n : Nat) (c : CS) (s : St) : (stmtCase (stm6 n) c s).1.t = c.t := tcase (tstm n) c s
/-- statements that put nothing bear -1 -/
def PutOk (c : CS) : Prop := ∀ (j : Nat) (s : St), c.t.stmts[j]? = some s → (s.kind < 1 ∨ 4 < s.kind) → j < c.put.length → c.put[j]? = some (-1)
theorem PutOk.same {c d : CS} (h : PutOk c) (ht : d.t = c.t) (hp : d.put = c.put) : PutOk d := by
  intro j s hj hk hl
  rw [hp] at hl ⊢
  rw [ht] at hj
  exact h j s hj hk hl
theorem PutOk.kept {c d : CS} (h : PutOk c) (hk : Kept c d) : PutOk d := h.same hk.t hk.put
theorem PutOk.decl {c : CS} (h : PutOk c) (s : ByteArray) (k a : Int) : PutOk (c.decl s k a).1 := by
  unfold CS.decl
  split
  · exact (h.kept (Kept.need _ _ _ _)).kept (Kept.need _ _ _ _)
  · exact h.same rfl rfl
theorem PutOk.stmts {g : CS → Int → CS} (hg : ∀ c i, PutOk c → PutOk (g c i)) (b : Int) : ∀ (l : List Int) (c : CS), PutOk c → PutOk (stmtsOf g b l c)
  | [], c, h => h
  | i :: l, c, h => PutOk.stmts hg b l _ ((hg c i h).same rfl rfl)
theorem PutOk.blockOf {g : CS → Int → CS} (hg : ∀ c i, PutOk c → PutOk (g c i)) (c : CS) (l : List Int) (h : PutOk c) : PutOk (blockOf g c l) :=
  (PutOk.stmts hg (c.block + 1) l { c with block := c.block + 1 } (h.same rfl rfl)).same rfl rfl
theorem PutOk.case {g : CS → Int → CS} (hg : ∀ c i, PutOk c → PutOk (g c i)) (c : CS) (s : St) (h : PutOk c) : PutOk (stmtCase g c s).1 := by
  have hv := h.kept (Kept.vals c s.a)
  unfold stmtCase
  split
  · split
    · exact hv
    · exact hv.decl _ _ _
  split
  · split
    · exact h.kept (Kept.need _ _ _ _)
    · exact (h.kept (Kept.need _ _ _ _)).decl _ _ _
  split
  · split
    · exact hv
    · split
      · exact hv.kept ((Kept.slotOf _ _ _ _).trans (.need _ _ _ _))
      · exact hv.kept (Kept.slotOf _ _ _ _)
  split
  · split
    · exact hv.kept (Kept.vals _ _)
    · exact (hv.kept (Kept.vals _ _)).kept ((Kept.slotOf _ _ _ _).trans (.need _ _ _ _))
  split
  · exact .blockOf hg _ _ (.blockOf hg _ _ (hv.kept (Kept.need _ _ _ _)))
  split
  · have h1 : PutOk ({ (vals c s.a).1 with loops := c.loops + 1 } : CS) := hv.same rfl rfl
    exact (PutOk.blockOf hg _ s.thn (h1.kept (Kept.need _ _ _ _))).same rfl rfl
  split
  · exact h.kept (Kept.need _ _ _ _)
  split
  · split
    · exact hv.kept (Kept.need _ _ _ _)
    · exact h.kept (Kept.need _ _ _ _)
  split
  · exact hv
  split
  · exact h.kept (Kept.expr6 _ _ _)
  · exact h
/-- kinds 5 and on put nothing -/
theorem case_none {g : CS → Int → CS} (c : CS) (s : St) (h : s.kind < 1 ∨ 4 < s.kind) : (stmtCase g c s).2 = -1 := by
  have h1 : ¬ s.kind = 1 := by omega
  have h2 : ¬ s.kind = 2 := by omega
  have h3 : ¬ s.kind = 3 := by omega
  have h4 : ¬ s.kind = 4 := by omega
  unfold stmtCase
  rw [if_neg h1, if_neg h2, if_neg h3, if_neg h4]
  repeat' split
  all_goals rfl
theorem stm_at {c : CS} {i : Int} {s : St} {j : Nat} (h : c.t.stmts[j]? = some s) (hj : i.toNat = j) : c.stm i = s := by
  subst hj
  simp only [CS.stm, List.getD_eq_getElem?_getD, h, Option.getD_some]
theorem PutOk.putted {c : CS} {r : CS × Int} {i : Int} (h : PutOk r.1) (hn : ((r.1.stm i).kind < 1 ∨ 4 < (r.1.stm i).kind) → r.2 = -1) : PutOk (putted r i) := by
  unfold Ytaadamobapnfbaa.putted
  split
  · intro j s hj hk hl
    have hl : j < (r.1.put.set i.toNat r.2).length := hl
    show (r.1.put.set i.toNat r.2)[j]? = _
    rw [List.length_set] at hl
    rw [List.getElem?_set]
    by_cases he : i.toNat = j
    · rw [if_pos he, if_pos (by omega)]
      have := stm_at (c := r.1) hj he
      rw [hn (by rw [this]; exact hk)]
    · rw [if_neg he]; exact h j s hj hk hl
  · exact h
theorem PutOk.stm6 : ∀ (n : Nat) (c : CS) (i : Int), PutOk c → PutOk (stm6 n c i)
  | 0, c, i, h => h
  | n + 1, c, i, h => by
    unfold Ytaadamobapnfbaa.stm6
    split
    · exact h
    · have hd : PutOk (c.setFunc i c.f) := h.same rfl rfl
      have h1 := PutOk.case (PutOk.stm6 n) (c.setFunc i c.f) (c.stm i) hd
      refine h1.putted (c := c) fun hk => ?_
      refine case_none _ _ ?_
      have ht := (caseT n (c.setFunc i c.f) (c.stm i))
      have : (stmtCase (Ytaadamobapnfbaa.stm6 n) (c.setFunc i c.f) (c.stm i)).1.stm i = c.stm i := stm_t ht i
      rw [this] at hk
      exact hk
theorem setPut_none {c : CS} (h : PutOk c) {i : Int} (h1 : i.toNat < c.t.stmts.length) (hk : (c.stm i).kind < 1 ∨ 4 < (c.stm i).kind) : c.setPut i (-1) = c := by
  unfold CS.setPut
  by_cases hl : i.toNat < c.put.length
  · have hs : c.t.stmts[i.toNat]? = some (c.stm i) := by
      simp only [CS.stm, List.getD_eq_getElem?_getD, List.getElem?_eq_getElem h1, Option.getD_some]
    have := h i.toNat _ hs hk hl
    have e : c.put.set i.toNat (-1) = c.put := by
      apply List.ext_getElem?
      intro j
      rw [List.getElem?_set]
      by_cases hj : i.toNat = j
      · rw [if_pos hj, if_pos (by omega), ← hj, this]
      · rw [if_neg hj]
    rw [e]
  · rw [List.set_eq_of_length_le (by omega)]
end Go.Proofs.Ytaadamobapnfbaa
set_option linter.unusedVariables false
set_option linter.unusedSimpArgs false
set_option maxRecDepth 100000
namespace Go.Proofs.Ytaadamobapnfbaa
open Go Go.Abs
inductive RSt (k : Mk) (z : Zt) (r : CS) : AOut → List Abs.Item → Prop
  | ok (h : r.code = 0) (z' : Zt) (hz : z'.zs = z.zs) (hc : Ckz r z') : RSt k z r (.ret (.tup [])) (ckItems r k z')
  | bad (h : r.code ≠ 0) (R : List Abs.Item) : RSt k z r (.pan (wrongV r.at_ r.code)) R
theorem RSt.of {k : Mk} {z : Zt} {r : CS} {R : List Abs.Item} (h : r.code = 0) (z' : Zt) (hz : z'.zs = z.zs) (hc : Ckz r z') (e : R = ckItems r k z') : RSt k z r (.ret (.tup [])) R := by subst e; exact .ok h z' hz hc
/-- what has gone wrong goes through -/
theorem RSt.on {k : Mk} {z : Zt} {c r : CS} (h : Stk c r) (hc : c.code ≠ 0) (R : List Abs.Item) : RSt k z r (.pan (wrongV c.at_ c.code)) R := by
  obtain ⟨h1, h2⟩ := h hc
  rw [← h1, ← h2]
  exact .bad (by rw [h1]; exact hc) R
def CCk (n : Nat) : Prop := ∀ (c : CS) (k : Mk) (z : Zt) (i : Int), Ckz c z → c.ok → c.code = 0 → PutOk c → TreeX c.t → StsWf c.t → 0 ≤ i → i < c.t.stmts.length → i < n → z.zs.length + n ≤ 1048000 → 0 ≤ c.loops → c.loops + n ≤ smax →
  ACalls Try.prog 42 [.mp k.mC 0, vi i, .agg (c.stm i).cells] (ckItems c k z) (RSt k z (stm6 n c i))
/-- a block is entered -/
def Zt.into (z : Zt) (mZ τz : Nat) : Zt := { z with mZ := mZ, τz := τz, zs := z.zs ++ [(z.τz, z.top)], top := [] }
theorem Ckz.into {c : CS} {z : Zt} (h : Ckz c z) (mZ τz : Nat) (hd : z.zs.length + 1 ≤ 1048000) : Ckz { c with block := c.block + 1 } (z.into mZ τz) := by
  refine ⟨?_, ?_, ?_, ?_, ?_, ?_⟩
  · show c.names = _; rw [h.names]; simp [Zt.all, Zt.into]
  · show c.block + 1 = _; rw [h.block]; simp [Zt.into]
  · intro n hn; simp [Zt.into] at hn
  · intro n hn
    have hn : n ∈ (z.zs.map Prod.snd).flatten ∨ n ∈ z.top := by
      simp only [Zt.into, List.map_append, List.flatten_append, List.mem_append, List.map_cons, List.map_nil, List.flatten_cons, List.flatten_nil, List.append_nil] at hn
      exact hn
    show n.block < ((z.zs ++ [(z.τz, z.top)]).length : Int)
    rw [List.length_append, List.length_singleton]
    rcases hn with hn | hn
    · have := h.outs n hn; omega
    · have := h.tops n hn; omega
  · intro l hl
    have hl : l ∈ z.all.map Prod.snd ∨ l = [] := by
      simp only [Zt.all, Zt.into, List.map_append, List.mem_append, List.map_cons, List.map_nil, List.mem_singleton] at hl ⊢
      exact hl
    rcases hl with hl | rfl
    · exact h.uniq l hl
    · exact List.Pairwise.nil
  · show (z.zs ++ [(z.τz, z.top)]).length ≤ 1048000; rw [List.length_append, List.length_singleton]; exact hd
theorem zinto_cells (z : Zt) (mZ τz : Nat) : (z.into mZ τz).all.map zcell = z.all.map zcell ++ [.il 2 (some τz) []] := by simp [Zt.all, Zt.into, zcell]
theorem zle (z : Zt) (mZ τz : Nat) : LeL (z.all.map zcell ++ ([[AV.v (.slice none 0 0)]] : List (List AV)).flatten) ((z.into mZ τz).all.map zcell) := by
  rw [zinto_cells]
  refine LeL.of _ _ (by simp) fun j x y hx hy => ?_
  by_cases h : j < (z.all.map zcell).length
  · rw [List.getElem?_append_left h] at hx hy
    rw [hx] at hy; injection hy with hy; subst hy; exact .refl _
  · rw [List.getElem?_append_right (by omega)] at hx hy
    cases hj : j - (z.all.map zcell).length with
    | zero =>
      rw [hj] at hx hy
      simp at hx hy
      subst hx; subst hy
      exact .nilT 2 _
    | succ q => rw [hj] at hx; simp at hx
set_option maxHeartbeats 8000000 in
theorem cblock_ok {n : Nat} (hS : CCk n) (c : CS) (k : Mk) (z : Zt) (l : List Int) (hz : Ckz c z) (ho : c.ok) (h0 : c.code = 0) (hp : PutOk c) (hw : TreeX c.t) (hw2 : StsWf c.t) (hl : ∀ i ∈ l, 0 ≤ i ∧ i < n ∧ i < c.t.stmts.length) (hll : l.length ≤ 1048576)
    (hd : z.zs.length + 1 + n ≤ 1048000) (hl0 : 0 ≤ c.loops) (hl1 : c.loops + n ≤ smax) :
    ACalls Try.prog 68 [.mp k.mC 0, .il 1 none (ints l)] (ckItems c k z) (RSt k z (blockOf (stm6 n) c l)) := by
  have hK := KeptS.stm6 n
  have hil := ints_len l
  have hzl := z.all_len
  have hzm : (z.all.map zcell).length = z.all.length := List.length_map ..
  generalize hr : blockOf (stm6 n) c l = r
  refine ACalls.of_code (c := _) Try.func68 rfl Try.ntmps68 (Nat.le_of_ble_eq_true rfl) ?_
  refine ACode.seq (ACode.region ?_)
  refine ASeq.q rfl rfl (QOp.move rfl rfl) ?_
  refine ASeq.q rfl rfl (QOp.move rfl rfl) ?_
  refine ASeq.q rfl rfl (QOp.nilCheckM rfl rfl) ?_
  refine ASeq.q rfl rfl (QOp.fieldM rfl rfl (tok _ rfl) rfl rfl (by decide) rfl) ?_
  refine ASeq.q rfl rfl (QOp.loadM 0 rfl rfl rfl (tok _ rfl) rfl) ?_
  refine ASeq.op rfl rfl (AOp.buildSliceR rfl (tok _ rfl) rfl (tok _ rfl) (by decide) rfl (by decide) rfl rfl rfl rfl ?_)
  refine ASeq.op rfl rfl (AOp.appendMP 1 (e := 131) (tde := TT 131) rfl rfl rfl rfl (tok _ rfl) rfl (tok _ rfl) (tok _ rfl) rfl (by decide) rfl rfl (fun _ => rfl) (by rw [hzm]; exact (Nat.mul_one _).symm) (row1 _) (by simp only [List.length_cons, List.length_nil]; omega) rfl (fun _ => ?_))
  rename_i mZ
  refine ASeq.q rfl rfl (QOp.nilCheckM rfl rfl) ?_
  refine ASeq.q rfl rfl (QOp.fieldM rfl rfl (tok _ rfl) rfl rfl (by decide) rfl) ?_
  refine ASeq.op0 rfl rfl (AOp.storeP 0 rfl rfl rfl rfl (tok _ rfl) rfl rfl rfl rfl ?_)
  refine ASeq.nil ?_
  refine ACode.newTok (fun τn => ?_)
  refine ACode.cells (cells' := (z.into mZ τn).all.map zcell) [_] [_, _, _, _, _, _, _, _] rfl (zle z mZ τn) ?_
  refine ACode.cells (cells' := ckCells { c with block := c.block + 1 } k (z.into mZ τn)) [] [_, _, _, _, _, _, _, _, _] rfl ?_ ?_
  · have e : (z.into mZ τn).all.length = z.all.length + 1 := by simp [Zt.all, Zt.into]
    simp only [ckCells, e]
    exact LeL.refl _
  refine ACode.items (R' := ckItems { c with block := c.block + 1 } k (z.into mZ τn) ++ [.tk z.τz]) _ (List.Perm.append_left [_, _, _, _, _, _, _, _] (List.Perm.swap _ _ [])) (List.Sublist.refl _) ?_
  refine ACode.seq ?_
  refine ACode.seq (ACode.region ?_)
  refine ASeq.q rfl rfl (QOp.move rfl rfl) ?_
  refine ASeq.q rfl rfl (QOp.lenI rfl rfl (tok _ rfl) rfl) ?_
  refine ASeq.q rfl rfl (QOp.move rfl rfl) ?_
  refine ASeq.nil ?_
  refine ACode.block ?_
  refine ACode.loopP (fun (x : Nat × CS × Zt) => [(0, .mp k.mC 0), (15, .il 1 none (ints l)), (16, vi ((ints l).length : Int)), (17, vi x.1)])
    (fun x => ckItems x.2.1 k x.2.2 ++ [.tk z.τz]) (fun x => l.length - x.1)
    (fun x => x.1 ≤ l.length ∧ x.2.1.code = 0 ∧ PutOk x.2.1 ∧ Ckz x.2.1 x.2.2 ∧ x.2.2.zs = z.zs ++ [(z.τz, z.top)] ∧ KeptS { c with block := c.block + 1 } x.2.1 ∧ stmtsOf (stm6 n) (c.block + 1) (l.drop x.1) x.2.1 = stmtsOf (stm6 n) (c.block + 1) l { c with block := c.block + 1 })
    (0, { c with block := c.block + 1 }, z.into mZ τn) ⟨Nat.zero_le _, h0, hp.same rfl rfl, hz.into mZ τn (by omega), rfl, .refl _, rfl⟩ (.cons rfl (.cons rfl (.cons rfl (.cons rfl .nil)))) 10 rfl ?_
  rintro ⟨q, d, y⟩ ⟨hq, hdc, hdp, hdz, hys, hkd, hX⟩
  dsimp only at hq hdc hdp hdz hys hkd hX ⊢
  have okd := hkd.ok { ho with }
  have htd : d.t = c.t := hkd.t
  have hdb : d.block = c.block + 1 := hkd.block
  have hld : d.loops = c.loops := hkd.loops
  have hyl : y.zs.length = z.zs.length + 1 := by rw [hys, List.length_append, List.length_singleton]
  refine ACode.seq (ACode.region ?_)
  refine ASeq.q rfl rfl (QOp.cmp rfl rfl rfl rfl) ?_
  refine ASeq.nil ?_
  refine ACode.seq ?_
  refine ACode.cond _ rfl (fun hb => ?_) (fun hb => ?_)
  · have hlt : q < l.length := by have := of_decide_eq_true hb; rw [hil] at this; omega
    have hget := ints_get hlt
    have hm := hl _ (List.getElem_mem hlt)
    have hrow : (d.t.stmts.map St.cells)[l[q].toNat]? = some (d.stm l[q]).cells := st_get hm.1 (by rw [htd]; exact hm.2.2)
    have hm0 := hm.1
    have hs := hS d k y l[q] hdz okd hdc hdp (by rw [htd]; exact hw) (by rw [htd]; exact hw2) hm.1 (by rw [htd]; exact hm.2.2) hm.2.1 (by omega) (by omega) (by omega)
    have hks := hK d l[q] okd
    have hpe := PutOk.stm6 n d l[q] hdp
    rw [stmts_drop _ _ _ _ _ hlt] at hX
    generalize stm6 n d l[q] = e at hs hks hpe hX
    have hst : Stk e r := by
      have h1 := Stk.stmts (Stk.stm6 n) (c.block + 1) (l.drop (q + 1)) { e with block := c.block + 1 }
      rw [hX] at h1
      rw [← hr]
      exact fun h => h1 h
    refine ACode.skip (ACode.seq (ACode.block (ACode.seq (ACode.region ?_))))
    refine ASeq.q rfl rfl (QOp.indexI rfl rfl rfl (tok _ rfl) rfl (tok _ rfl) (by omega) (by assumption)) ?_
    refine ASeq.q rfl rfl (QOp.loadI rfl rfl (tok _ rfl) rfl) ?_
    refine ASeq.q rfl rfl (QOp.assign rfl rfl) ?_
    refine ASeq.nil ?_
    refine ACode.region ?_
    refine ASeq.q rfl rfl (QOp.move rfl rfl) ?_
    refine ASeq.q rfl rfl (QOp.move rfl rfl) ?_
    refine ASeq.q rfl rfl (QOp.move rfl rfl) ?_
    refine ASeq.q rfl rfl (QOp.nilCheckM rfl rfl) ?_
    refine ASeq.q rfl rfl (QOp.fieldM rfl rfl (tok _ rfl) rfl rfl (by decide) rfl) ?_
    refine ASeq.q rfl rfl (QOp.fieldM rfl rfl (tok _ rfl) rfl rfl (by decide) rfl) ?_
    refine ASeq.q rfl rfl (QOp.loadM 0 rfl rfl rfl (tok _ rfl) rfl) ?_
    refine ASeq.q rfl rfl (QOp.move rfl rfl) ?_
    refine ASeq.q rfl rfl (QOp.indexI rfl rfl rfl (tok _ rfl) rfl (tok _ rfl) (by omega) (by assumption)) ?_
    refine ASeq.q rfl rfl (QOp.loadI rfl rfl (tok _ rfl) rfl) ?_
    refine ASeq.op rfl rfl (AOp.callP 9 rfl (by kernel_rfl) rfl rfl rfl (hs) ?_ ?_)
    rotate_left
    · (rintro _ _ (⟨_⟩ | ⟨hbad, R⟩); simp only [AExit.then, AExit.inBlock]; exact bodyQ_pan 0 rfl (.on hst hbad _))
    rintro _ _ ⟨hc, y2, hy2, hcy⟩
    refine ASeq.nil ?_
    refine ACode.region ?_
    refine ASeq.q rfl rfl (QOp.ar64 rfl rfl rfl rfl ⟨by omega, by omega⟩) ?_
    refine ASeq.q rfl rfl (QOp.move rfl rfl) ?_
    refine ASeq.nil ?_
    refine AExit.then_normal ?_
    have heb : { e with block := c.block + 1 } = e := by rw [← hdb, ← hks.block]
    rw [heb] at hX
    exact ⟨(q + 1, e, y2), 10, ⟨hlt, hc, hpe, hcy, hy2.trans hys, hkd.trans hks, hX⟩, by dsimp only; omega, .cons rfl (.cons rfl (.cons rfl (.cons rfl .nil))), rfl⟩
  · have hge : q = l.length := by have := of_decide_eq_false hb; rw [hil] at this; omega
    rw [hge, List.drop_length] at hX
    simp only [stmtsOf] at hX
    have hre : r = { d with names := c.names, block := c.block } := by rw [← hr]; unfold blockOf; rw [← hX]
    have hyl2 := y.all_len
    refine ACode.exit (AExit.then_exit (AExit.then_exit (AExit.in_same (AExit.then_normal ?_))))
    refine ACode.shrink (z.all.length) [_] [_, _, _, _, _, _, _, _] rfl ?_
    refine ACode.drawn [[], [], [1], [1, 2], [1, 2, 3], [], [5], [5, 6], [5, 6, 7], [5, 6, 7, 8], [5, 6, 7, 8, 9], [1, 2, 3, 4, 5, 6, 7, 8, 9, 10], [0, 1, 2, 3, 4, 5, 6, 7, 8, 9, 10, 11], [0, 1, 2, 3, 4, 5, 6, 7, 8, 9, 10, 11, 12], [0, 1, 2, 3, 4, 5, 6, 7, 8, 9, 10, 11, 12, 13]] (by kernel_rfl) mixed ?_
    refine DAny.qu 0 rfl rfl (by kernel_rfl) rfl (fun _ => .does _ _ rfl (.none rfl) (QOp.move rfl rfl)) ?_
    refine DAny.qu 1 rfl rfl (by kernel_rfl) rfl (fun _ => .does _ _ rfl (.none rfl) (QOp.move rfl rfl)) ?_
    refine DAny.qu 2 rfl rfl (by kernel_rfl) rfl (fun _ => .does _ _ rfl (.none rfl) (QOp.nilCheckM rfl rfl)) ?_
    refine DAny.qu 3 rfl rfl (by kernel_rfl) rfl (fun _ => .does _ _ rfl (.none rfl) (QOp.fieldM rfl rfl (tok _ rfl) rfl rfl (by decide) rfl)) ?_
    refine DAny.ld 4 rfl rfl (by kernel_rfl) rfl (.does _ _ rfl (.none rfl) (QOp.loadM 0 rfl rfl rfl (tok _ rfl) rfl)) ?_
    refine DAny.qu 5 rfl rfl (by kernel_rfl) rfl (fun _ => .does _ _ rfl (.none rfl) (QOp.move rfl rfl)) ?_
    refine DAny.qu 6 rfl rfl (by kernel_rfl) rfl (fun _ => .does _ _ rfl (.none rfl) (QOp.nilCheckM rfl rfl)) ?_
    refine DAny.qu 7 rfl rfl (by kernel_rfl) rfl (fun _ => .does _ _ rfl (.none rfl) (QOp.fieldM rfl rfl (tok _ rfl) rfl rfl (by decide) rfl)) ?_
    refine DAny.ld 8 rfl rfl (by kernel_rfl) rfl (.does _ _ rfl (.none rfl) (QOp.loadM 0 rfl rfl rfl (tok _ rfl) rfl)) ?_
    refine DAny.qu 9 rfl rfl (by kernel_rfl) rfl (fun _ => .does _ _ rfl (.none rfl) (QOp.lenM rfl rfl (tok _ rfl) rfl)) ?_
    refine DAny.qu 10 rfl rfl (by kernel_rfl) rfl (fun _ => .does _ _ rfl (.none rfl) (QOp.ar64 rfl rfl rfl rfl ⟨by omega, by omega⟩)) ?_
    refine DAny.qu 11 rfl rfl (by kernel_rfl) rfl (fun _ => .does _ _ rfl (.none rfl) (QOp.cutM rfl rfl rfl (tok _ rfl) rfl (tok _ rfl) (by omega) (by omega))) ?_
    refine DAny.qu 12 rfl rfl (by kernel_rfl) rfl (fun _ => .does _ _ rfl (.none rfl) (QOp.nilCheckM rfl rfl)) ?_
    refine DAny.qu 13 rfl rfl (by kernel_rfl) rfl (fun _ => .does _ _ rfl (.none rfl) (QOp.fieldM rfl rfl (tok _ rfl) rfl rfl (by decide) rfl)) ?_
    refine DAny.ef0 14 rfl (by kernel_rfl) (.none rfl) rfl rfl (AOp.storeP 0 rfl rfl rfl rfl (tok _ rfl) rfl rfl rfl rfl ⟨(by ((exact AllQ.nil))), ?_⟩)
    refine DAny.done (by kernel_rfl) ?_
    refine ⟨[], ckItems r k { z with mZ := y.mZ, τ := y.τ } ++ [.tk y.τz], ckItems r k { z with mZ := y.mZ, τ := y.τ }, .nil, ?_, List.sublist_append_left _ _, ?_⟩
    · refine (List.Perm.append_left [_, _, _, _, _, _, _, _] (List.Perm.swap _ _ [])).trans (List.Perm.of_eq ?_)
      have e1 : ((y.all.length : Int) - 1).toNat = ({ z with mZ := y.mZ, τ := y.τ } : Zt).all.length := by
        rw [Zt.all_len { z with mZ := y.mZ, τ := y.τ }]; show ((y.all.length : Int) - 1).toNat = z.zs.length + 1; omega
      have e2 : (y.all.map zcell).take z.all.length = ({ z with mZ := y.mZ, τ := y.τ } : Zt).all.map zcell := by
        have h1 : y.all = z.all ++ [(y.τz, y.top)] := by unfold Zt.all; rw [hys]
        rw [h1, List.map_append, List.take_left' hzm]; rfl
      have e4 : ckItems r k { z with mZ := y.mZ, τ := y.τ } = [.mu k.mC [.il 9 none (d.t.exprs.map Ex.cells), .il 9 none (d.t.stmts.map St.cells), .il 6 none (d.t.funcs.map Fu.cells), .sl 1 k.mT 0 d.type.length, .sl 1 k.mS 0 d.slot.length, .sl 1 k.mP 0 d.put.length, .sl 1 k.mF 0 d.func.length, .sl 1 k.mL 0 d.slots.length,
          vi d.f, .sl 1 y.mZ 0 ((y.all.length : Int) - 1).toNat, vi d.loops], .mu y.mZ ((y.all.map zcell).take z.all.length), .mu k.mT (d.type.map vi), .mu k.mS (d.slot.map vi), .mu k.mP (d.put.map vi), .mu k.mF (d.func.map vi), .mu k.mL (d.slotCells y.τ), .tk y.τ, .tk z.τz] := by
        rw [e1, e2, hre]; rfl
      rw [e4]
      rfl
    · refine RSt.of (by rw [hre]; exact hdc) { z with mZ := y.mZ, τ := y.τ } rfl ?_ rfl
      rw [hre]
      exact ⟨hz.names, hz.block, hz.tops, hz.outs, hz.uniq, hz.deep⟩
end Go.Proofs.Ytaadamobapnfbaa
