/- Own texts, put together by a program: T9 Ta Tb Td Tc Te Tf Tg. -/
import Derived.Test.YtaadamobapnfbaaKp4
set_option linter.unusedVariables false
set_option linter.unusedSimpArgs false
set_option maxRecDepth 100000
namespace Go.Proofs.Ytaadamobapnfbaa
open Go Go.Abs
theorem argsOf_drop (g : CS → Int → CS × Int) (l : List Int) (c : CS) (b : Bool) (q : Nat) (h : q < l.length) : argsOf g (l.drop q) c b = argsOf g (l.drop (q + 1)) (valOf (g c l[q]) l[q]).1 (b && ((valOf (g c l[q]) l[q]).2 == 1)) := by
  rw [List.drop_eq_getElem_cons h]; rfl
theorem idxF_found (s : ByteArray) : ∀ (l : List Fu) (k : Nat), 0 ≤ idxF s l k → ∃ j, j < l.length ∧ idxF s l k = ((k + j : Nat) : Int)
  | [], k, h => by simp [idxF] at h
  | n :: l, k, h => by
    by_cases hn : sameF s n = true
    · exact ⟨0, by simp, by simp only [idxF, if_pos hn]; rfl⟩
    · simp only [idxF, if_neg hn] at h ⊢
      obtain ⟨j, h1, h2⟩ := idxF_found s l (k + 1) h
      exact ⟨j + 1, by simpa using h1, by rw [h2]; congr 1; omega⟩
theorem ccall_ok (n : Nat) (hE : CEx n) (c : CS) (k : Mk) (z : Zt) (i : Int) (hz : Ckz c z) (ho : c.ok) (h0 : c.code = 0) (hw : TreeX c.t) (hi0 : 0 ≤ i) (hi1 : i < c.t.exprs.length) (hin : i ≤ n) (hk6 : (c.ex i).kind = 6) :
    ACalls Try.prog 106 [.mp k.mC 0, vi i, .agg (c.ex i).cells] (ckItems c k z) (RCi k z (kindCase (expr6 n) c i (c.ex i))) := by
  obtain ⟨_, _, w3, w4⟩ := ex_wf hw.1 hi0 hi1
  have w3 := w3 hk6
  have hbig := ho.big
  generalize hr : kindCase (expr6 n) c i (c.ex i) = r
  have hr2 := hr.symm
  unfold kindCase at hr2
  simp only [hk6, show ¬ ((6 : Int) = 1 ∨ (6 : Int) = 7) by decide, show ¬ (6 : Int) = 4 by decide, show ¬ (6 : Int) = 5 by decide, if_false, if_true] at hr2
  generalize c.ex i = e at *
  have hsF : Stk (argsOf (expr6 n) e.list c true).1 r.1 := by
    rw [hr2]
    split
    · exact (Stk.need _ _ _ _).trans (.need _ _ _ _)
    · exact .need _ _ _ _
  have hil := ints_len e.list
  refine ACalls.of_code (c := _) Try.func106 rfl Try.ntmps106 (Nat.le_of_ble_eq_true rfl) ?_
  repeat (first | (refine ACode.seq ?_) | (refine ACode.region ?_) | (refine ACode.ret ?_) | (refine ACode.skip ?_) | (refine ACode.exit ?_) | (refine ACode.block ?_) | (refine AExit.then_normal ?_) | (refine AExit.then_ret ?_) | (refine AExit.then_exit ?_) | (refine AExit.in_normal ?_) | (refine AExit.in_ret ?_) | (refine AExit.in_same ?_) | (refine AExit.in_other rfl ?_) | (refine ASeq.nil ?_))
  refine ASeq.op rfl rfl (AOp.boxP rfl rfl rfl (fun _ => rfl) (fun _ => ?_))
  refine ASeq.q rfl rfl (QOp.assign rfl rfl) ?_
  refine ASeq.nil ?_
  rename_i m5
  repeat (first | (refine ACode.seq ?_) | (refine ACode.region ?_) | (refine ACode.ret ?_) | (refine ACode.skip ?_) | (refine ACode.exit ?_) | (refine ACode.block ?_) | (refine AExit.then_normal ?_) | (refine AExit.then_ret ?_) | (refine AExit.then_exit ?_) | (refine AExit.in_normal ?_) | (refine AExit.in_ret ?_) | (refine AExit.in_same ?_) | (refine AExit.in_other rfl ?_) | (refine ASeq.nil ?_))
  refine ASeq.q rfl rfl (QOp.assign rfl rfl) ?_
  refine ASeq.nil ?_
  repeat (first | (refine ACode.seq ?_) | (refine ACode.region ?_) | (refine ACode.ret ?_) | (refine ACode.skip ?_) | (refine ACode.exit ?_) | (refine ACode.block ?_) | (refine AExit.then_normal ?_) | (refine AExit.then_ret ?_) | (refine AExit.then_exit ?_) | (refine AExit.in_normal ?_) | (refine AExit.in_ret ?_) | (refine AExit.in_same ?_) | (refine AExit.in_other rfl ?_) | (refine ASeq.nil ?_))
  first | (refine ASeq.q rfl rfl (QOp.fieldM rfl rfl (tok _ rfl) rfl rfl (by decide) rfl) ?_) | (refine ASeq.q rfl rfl (QOp.fieldI rfl rfl (tok _ rfl) rfl rfl (by decide) rfl) ?_)
  first | (refine ASeq.q rfl rfl (QOp.loadI rfl rfl (tok _ rfl) rfl) ?_) | (refine ASeq.q rfl rfl (QOp.loadM 0 rfl rfl rfl (tok _ rfl) rfl) ?_) | (refine ASeq.q rfl rfl (QOp.loadM 1 rfl rfl rfl (tok _ rfl) rfl) ?_) | (refine ASeq.q rfl rfl (QOp.loadM 2 rfl rfl rfl (tok _ rfl) rfl) ?_) | (refine ASeq.q rfl rfl (QOp.loadM 3 rfl rfl rfl (tok _ rfl) rfl) ?_) | (refine ASeq.q rfl rfl (QOp.loadM 4 rfl rfl rfl (tok _ rfl) rfl) ?_) | (refine ASeq.q rfl rfl (QOp.loadM 5 rfl rfl rfl (tok _ rfl) rfl) ?_) | (refine ASeq.q rfl rfl (QOp.loadM 6 rfl rfl rfl (tok _ rfl) rfl) ?_) | (refine ASeq.q rfl rfl (QOp.loadM 7 rfl rfl rfl (tok _ rfl) rfl) ?_) | (refine ASeq.q rfl rfl (QOp.loadM 8 rfl rfl rfl (tok _ rfl) rfl) ?_) | (refine ASeq.q rfl rfl (QOp.loadM 9 rfl rfl rfl (tok _ rfl) rfl) ?_) | (refine ASeq.q rfl rfl (QOp.loadM 10 rfl rfl rfl (tok _ rfl) rfl) ?_) | (refine ASeq.q rfl rfl (QOp.loadM 11 rfl rfl rfl (tok _ rfl) rfl) ?_) | (refine ASeq.q rfl rfl (QOp.loadM 12 rfl rfl rfl (tok _ rfl) rfl) ?_) | (refine ASeq.q rfl rfl (QOp.loadM 13 rfl rfl rfl (tok _ rfl) rfl) ?_) | (refine ASeq.q rfl rfl (QOp.loadM 14 rfl rfl rfl (tok _ rfl) rfl) ?_) | (refine ASeq.q rfl rfl (QOp.loadM 15 rfl rfl rfl (tok _ rfl) rfl) ?_) | (refine ASeq.q rfl rfl (QOp.loadAt 0 rfl rfl rfl (tok _ rfl) rfl (by assumption)) ?_) | (refine ASeq.q rfl rfl (QOp.loadAt 1 rfl rfl rfl (tok _ rfl) rfl (by assumption)) ?_) | (refine ASeq.q rfl rfl (QOp.loadAt 2 rfl rfl rfl (tok _ rfl) rfl (by assumption)) ?_) | (refine ASeq.q rfl rfl (QOp.loadAt 3 rfl rfl rfl (tok _ rfl) rfl (by assumption)) ?_) | (refine ASeq.q rfl rfl (QOp.loadAt 4 rfl rfl rfl (tok _ rfl) rfl (by assumption)) ?_) | (refine ASeq.q rfl rfl (QOp.loadAt 5 rfl rfl rfl (tok _ rfl) rfl (by assumption)) ?_) | (refine ASeq.q rfl rfl (QOp.loadAt 6 rfl rfl rfl (tok _ rfl) rfl (by assumption)) ?_) | (refine ASeq.q rfl rfl (QOp.loadAt 7 rfl rfl rfl (tok _ rfl) rfl (by assumption)) ?_)
  first | (refine ASeq.q rfl rfl (QOp.lenI rfl rfl (tok _ rfl) rfl) ?_) | (refine ASeq.q rfl rfl (QOp.lenM rfl rfl (tok _ rfl) rfl) ?_) | (refine ASeq.q rfl rfl (QOp.lenS rfl rfl (tok _ rfl) rfl) ?_) | (refine ASeq.q rfl rfl (QOp.lenN rfl rfl (tok _ rfl) rfl) ?_)
  refine ASeq.q rfl rfl (QOp.move rfl rfl) ?_
  refine ASeq.nil ?_
  repeat (first | (refine ACode.seq ?_) | (refine ACode.region ?_) | (refine ACode.ret ?_) | (refine ACode.skip ?_) | (refine ACode.exit ?_) | (refine ACode.block ?_) | (refine AExit.then_normal ?_) | (refine AExit.then_ret ?_) | (refine AExit.then_exit ?_) | (refine AExit.in_normal ?_) | (refine AExit.in_ret ?_) | (refine AExit.in_same ?_) | (refine AExit.in_other rfl ?_) | (refine ASeq.nil ?_))
  refine ACode.loopP (fun (x : Nat × CS × Bool) => [(0, .mp k.mC 0), (1, vi i), (5, .mp m5 0), (7, .v (.bool x.2.2)), (12, .il 1 none (ints e.list)), (13, vi ((ints e.list).length : Int)), (14, vi x.1)])
    (fun x => ckItems x.2.1 k z ++ [.mu m5 e.cells]) (fun x => e.list.length - x.1)
    (fun x => x.1 ≤ e.list.length ∧ x.2.1.code = 0 ∧ Kept c x.2.1 ∧ argsOf (expr6 n) (e.list.drop x.1) x.2.1 x.2.2 = argsOf (expr6 n) e.list c true) (0, c, true) ⟨Nat.zero_le _, h0, .refl c, rfl⟩
    (.cons rfl (.cons rfl (.cons rfl (.cons rfl (.cons rfl (.cons rfl (.cons rfl .nil))))))) 10 rfl ?_
  rintro ⟨q, d, b⟩ ⟨hq, hd, hkd, hX⟩
  dsimp only at hq hd hkd hX ⊢
  repeat (first | (refine ACode.seq ?_) | (refine ACode.region ?_) | (refine ACode.ret ?_) | (refine ACode.skip ?_) | (refine ACode.exit ?_) | (refine ACode.block ?_) | (refine AExit.then_normal ?_) | (refine AExit.then_ret ?_) | (refine AExit.then_exit ?_) | (refine AExit.in_normal ?_) | (refine AExit.in_ret ?_) | (refine AExit.in_same ?_) | (refine AExit.in_other rfl ?_) | (refine ASeq.nil ?_))
  refine ASeq.q rfl rfl (QOp.cmp rfl rfl rfl rfl) ?_
  refine ASeq.nil ?_
  refine ACode.seq ?_
  refine ACode.cond _ rfl (fun hb => ?_) (fun hb => ?_)
  · have hlt : q < e.list.length := by have := of_decide_eq_true hb; rw [hil] at this; omega
    have hget := ints_get hlt
    have ha := w3 _ (List.getElem_mem hlt)
    have hv := cvalue_ok n hE d k z e.list[q] (hz.kept hkd) (hkd.ok ho) hd (by rw [hkd.t]; exact hw) ha.1 (by rw [hkd.t]; omega) (by omega)
    have hkv : Kept d (valOf (expr6 n d e.list[q]) e.list[q]).1 := (Kept.expr6 n d _).valOf _
    rw [argsOf_drop _ _ _ _ _ hlt] at hX
    generalize valOf (expr6 n d e.list[q]) e.list[q] = v at *
    have hsv : Stk v.1 r.1 := by
      have := Stk.args (Stk.expr6 n) (e.list.drop (q + 1)) v.1 (b && (v.2 == 1))
      rw [hX] at this
      exact this.trans hsF
    repeat (first | (refine ACode.seq ?_) | (refine ACode.region ?_) | (refine ACode.ret ?_) | (refine ACode.skip ?_) | (refine ACode.exit ?_) | (refine ACode.block ?_) | (refine AExit.then_normal ?_) | (refine AExit.then_ret ?_) | (refine AExit.then_exit ?_) | (refine AExit.in_normal ?_) | (refine AExit.in_ret ?_) | (refine AExit.in_same ?_) | (refine AExit.in_other rfl ?_) | (refine ASeq.nil ?_))
    first | (refine ASeq.q rfl rfl (QOp.indexI rfl rfl rfl (tok _ rfl) rfl (tok _ rfl) (by first | (decide) | (omega)) (by first | (rfl) | (assumption))) ?_) | (refine ASeq.q rfl rfl (QOp.indexM rfl rfl rfl (tok _ rfl) rfl (tok _ rfl) (by first | (decide) | (omega)) (by first | (decide) | (omega)) rfl) ?_) | (refine ASeq.q rfl rfl (QOp.indexArr rfl rfl rfl (tok _ rfl) rfl (tok _ rfl) (by decide) (by decide) rfl) ?_)
    first | (refine ASeq.q rfl rfl (QOp.loadI rfl rfl (tok _ rfl) rfl) ?_) | (refine ASeq.q rfl rfl (QOp.loadM 0 rfl rfl rfl (tok _ rfl) rfl) ?_) | (refine ASeq.q rfl rfl (QOp.loadM 1 rfl rfl rfl (tok _ rfl) rfl) ?_) | (refine ASeq.q rfl rfl (QOp.loadM 2 rfl rfl rfl (tok _ rfl) rfl) ?_) | (refine ASeq.q rfl rfl (QOp.loadM 3 rfl rfl rfl (tok _ rfl) rfl) ?_) | (refine ASeq.q rfl rfl (QOp.loadM 4 rfl rfl rfl (tok _ rfl) rfl) ?_) | (refine ASeq.q rfl rfl (QOp.loadM 5 rfl rfl rfl (tok _ rfl) rfl) ?_) | (refine ASeq.q rfl rfl (QOp.loadM 6 rfl rfl rfl (tok _ rfl) rfl) ?_) | (refine ASeq.q rfl rfl (QOp.loadM 7 rfl rfl rfl (tok _ rfl) rfl) ?_) | (refine ASeq.q rfl rfl (QOp.loadM 8 rfl rfl rfl (tok _ rfl) rfl) ?_) | (refine ASeq.q rfl rfl (QOp.loadM 9 rfl rfl rfl (tok _ rfl) rfl) ?_) | (refine ASeq.q rfl rfl (QOp.loadM 10 rfl rfl rfl (tok _ rfl) rfl) ?_) | (refine ASeq.q rfl rfl (QOp.loadM 11 rfl rfl rfl (tok _ rfl) rfl) ?_) | (refine ASeq.q rfl rfl (QOp.loadM 12 rfl rfl rfl (tok _ rfl) rfl) ?_) | (refine ASeq.q rfl rfl (QOp.loadM 13 rfl rfl rfl (tok _ rfl) rfl) ?_) | (refine ASeq.q rfl rfl (QOp.loadM 14 rfl rfl rfl (tok _ rfl) rfl) ?_) | (refine ASeq.q rfl rfl (QOp.loadM 15 rfl rfl rfl (tok _ rfl) rfl) ?_) | (refine ASeq.q rfl rfl (QOp.loadAt 0 rfl rfl rfl (tok _ rfl) rfl (by assumption)) ?_) | (refine ASeq.q rfl rfl (QOp.loadAt 1 rfl rfl rfl (tok _ rfl) rfl (by assumption)) ?_) | (refine ASeq.q rfl rfl (QOp.loadAt 2 rfl rfl rfl (tok _ rfl) rfl (by assumption)) ?_) | (refine ASeq.q rfl rfl (QOp.loadAt 3 rfl rfl rfl (tok _ rfl) rfl (by assumption)) ?_) | (refine ASeq.q rfl rfl (QOp.loadAt 4 rfl rfl rfl (tok _ rfl) rfl (by assumption)) ?_) | (refine ASeq.q rfl rfl (QOp.loadAt 5 rfl rfl rfl (tok _ rfl) rfl (by assumption)) ?_) | (refine ASeq.q rfl rfl (QOp.loadAt 6 rfl rfl rfl (tok _ rfl) rfl (by assumption)) ?_) | (refine ASeq.q rfl rfl (QOp.loadAt 7 rfl rfl rfl (tok _ rfl) rfl (by assumption)) ?_)
    refine ASeq.q rfl rfl (QOp.assign rfl rfl) ?_
    refine ASeq.nil ?_
    repeat (first | (refine ACode.seq ?_) | (refine ACode.region ?_) | (refine ACode.ret ?_) | (refine ACode.skip ?_) | (refine ACode.exit ?_) | (refine ACode.block ?_) | (refine AExit.then_normal ?_) | (refine AExit.then_ret ?_) | (refine AExit.then_exit ?_) | (refine AExit.in_normal ?_) | (refine AExit.in_ret ?_) | (refine AExit.in_same ?_) | (refine AExit.in_other rfl ?_) | (refine ASeq.nil ?_))
    refine ASeq.q rfl rfl (QOp.move rfl rfl) ?_
    refine ASeq.q rfl rfl (QOp.move rfl rfl) ?_
    refine ASeq.op rfl rfl (AOp.callP 9 rfl (by kernel_rfl) rfl rfl rfl (hv) ?_ ?_)
    rotate_left
    · (rintro _ _ (⟨⟩ | ⟨hbad, R⟩); simp only [AExit.then, AExit.inBlock]; exact bodyQ_pan 0 rfl (.on hsv hbad _))
    rintro _ _ ⟨hc⟩
    refine ASeq.q rfl rfl (QOp.cmp rfl rfl rfl rfl) ?_
    refine ASeq.q rfl rfl (QOp.move rfl rfl) ?_
    refine ASeq.split 22 (v.2 == 1) rfl (fun hb2 => ?_) (fun hb2 => ?_)
    · first | (refine ASeq.gq _ _ rfl rfl rfl rfl (QOp.move rfl rfl) ?_) | (refine ASeq.gno _ _ rfl rfl rfl rfl rfl ?_)
      first | (refine ASeq.q rfl rfl (QOp.pickT rfl rfl rfl) ?_) | (refine ASeq.q rfl rfl (QOp.pickF rfl rfl rfl) ?_)
      refine ASeq.q rfl rfl (QOp.assign rfl rfl) ?_
      refine ASeq.nil ?_
      repeat (first | (refine ACode.seq ?_) | (refine ACode.region ?_) | (refine ACode.ret ?_) | (refine ACode.skip ?_) | (refine ACode.exit ?_) | (refine ACode.block ?_) | (refine AExit.then_normal ?_) | (refine AExit.then_ret ?_) | (refine AExit.then_exit ?_) | (refine AExit.in_normal ?_) | (refine AExit.in_ret ?_) | (refine AExit.in_same ?_) | (refine AExit.in_other rfl ?_) | (refine ASeq.nil ?_))
      refine ASeq.q rfl rfl (QOp.ar64 rfl rfl rfl rfl ⟨by first | (omega) | (simp only [List.length_append, List.length_map, List.length_cons, List.length_nil]; omega), by first | (omega) | (simp only [List.length_append, List.length_map, List.length_cons, List.length_nil]; omega)⟩) ?_
      refine ASeq.q rfl rfl (QOp.move rfl rfl) ?_
      refine ASeq.nil ?_
      repeat (first | (refine ACode.seq ?_) | (refine ACode.region ?_) | (refine ACode.ret ?_) | (refine ACode.skip ?_) | (refine ACode.exit ?_) | (refine ACode.block ?_) | (refine AExit.then_normal ?_) | (refine AExit.then_ret ?_) | (refine AExit.then_exit ?_) | (refine AExit.in_normal ?_) | (refine AExit.in_ret ?_) | (refine AExit.in_same ?_) | (refine AExit.in_other rfl ?_) | (refine ASeq.nil ?_))
      exact ⟨(q + 1, v.1, b), 10, ⟨hlt, hc, hkd.trans hkv, by dsimp only; rw [← hX, hb2, Bool.and_true]⟩, by dsimp only; omega, .cons rfl (.cons rfl (.cons rfl (.cons rfl (.cons rfl (.cons rfl (.cons rfl .nil)))))), rfl⟩
    · first | (refine ASeq.gq _ _ rfl rfl rfl rfl (QOp.move rfl rfl) ?_) | (refine ASeq.gno _ _ rfl rfl rfl rfl rfl ?_)
      first | (refine ASeq.q rfl rfl (QOp.pickT rfl rfl rfl) ?_) | (refine ASeq.q rfl rfl (QOp.pickF rfl rfl rfl) ?_)
      refine ASeq.q rfl rfl (QOp.assign rfl rfl) ?_
      refine ASeq.nil ?_
      repeat (first | (refine ACode.seq ?_) | (refine ACode.region ?_) | (refine ACode.ret ?_) | (refine ACode.skip ?_) | (refine ACode.exit ?_) | (refine ACode.block ?_) | (refine AExit.then_normal ?_) | (refine AExit.then_ret ?_) | (refine AExit.then_exit ?_) | (refine AExit.in_normal ?_) | (refine AExit.in_ret ?_) | (refine AExit.in_same ?_) | (refine AExit.in_other rfl ?_) | (refine ASeq.nil ?_))
      refine ASeq.q rfl rfl (QOp.ar64 rfl rfl rfl rfl ⟨by first | (omega) | (simp only [List.length_append, List.length_map, List.length_cons, List.length_nil]; omega), by first | (omega) | (simp only [List.length_append, List.length_map, List.length_cons, List.length_nil]; omega)⟩) ?_
      refine ASeq.q rfl rfl (QOp.move rfl rfl) ?_
      refine ASeq.nil ?_
      repeat (first | (refine ACode.seq ?_) | (refine ACode.region ?_) | (refine ACode.ret ?_) | (refine ACode.skip ?_) | (refine ACode.exit ?_) | (refine ACode.block ?_) | (refine AExit.then_normal ?_) | (refine AExit.then_ret ?_) | (refine AExit.then_exit ?_) | (refine AExit.in_normal ?_) | (refine AExit.in_ret ?_) | (refine AExit.in_same ?_) | (refine AExit.in_other rfl ?_) | (refine ASeq.nil ?_))
      exact ⟨(q + 1, v.1, false), 10, ⟨hlt, hc, hkd.trans hkv, by dsimp only; rw [← hX, hb2, Bool.and_false]⟩, by dsimp only; omega, .cons rfl (.cons rfl (.cons rfl (.cons rfl (.cons rfl (.cons rfl (.cons rfl .nil)))))), rfl⟩
  · have hge : q = e.list.length := by have := of_decide_eq_false hb; rw [hil] at this; omega
    subst hge
    rw [List.drop_length] at hX
    have hX : (d, b) = argsOf (expr6 n) e.list c true := hX
    rw [← hX] at hr2
    dsimp only at hr2
    rw [findF_idx] at hr2
    have hdt := hkd.t
    have h82 := index82 117 (by kernel_rfl) e.name m5 e.cells (fun x => same117 e x m5) none d.t.funcs (by rw [hdt]; omega)
    have hidx : ACalls Try.prog 82 [.il 6 none (d.t.funcs.map Fu.cells), .fn (.func 117) [] [.mp m5 0]] (ckItems d k z ++ [.mu m5 e.cells]) (RV (vi (idxF e.name c.t.funcs 0)) (ckItems d k z ++ [.mu m5 e.cells])) := by
      rw [hdt] at h82 ⊢
      refine (ACalls.perm List.perm_append_comm (h82.frame (F := ckItems d k z))).less ?_
      rintro _ _ ⟨R1, rfl, ⟨⟩⟩
      exact ⟨_, _, List.perm_append_comm, List.Sublist.refl _, .mk⟩
    have hfl : (d.t.funcs.map Fu.cells).length = c.t.funcs.length := by rw [List.length_map, hdt]
    repeat (first | (refine ACode.seq ?_) | (refine ACode.region ?_) | (refine ACode.ret ?_) | (refine ACode.skip ?_) | (refine ACode.exit ?_) | (refine ACode.block ?_) | (refine AExit.then_normal ?_) | (refine AExit.then_ret ?_) | (refine AExit.then_exit ?_) | (refine AExit.in_normal ?_) | (refine AExit.in_ret ?_) | (refine AExit.in_same ?_) | (refine AExit.in_other rfl ?_) | (refine ASeq.nil ?_))
    refine ASeq.q rfl rfl (QOp.move rfl rfl) ?_
    first | (refine ASeq.q rfl rfl (QOp.nilCheckM rfl rfl) ?_) | (refine ASeq.q rfl rfl (QOp.nilCheckI rfl rfl) ?_)
    first | (refine ASeq.q rfl rfl (QOp.fieldM rfl rfl (tok _ rfl) rfl rfl (by decide) rfl) ?_) | (refine ASeq.q rfl rfl (QOp.fieldI rfl rfl (tok _ rfl) rfl rfl (by decide) rfl) ?_)
    first | (refine ASeq.q rfl rfl (QOp.fieldM rfl rfl (tok _ rfl) rfl rfl (by decide) rfl) ?_) | (refine ASeq.q rfl rfl (QOp.fieldI rfl rfl (tok _ rfl) rfl rfl (by decide) rfl) ?_)
    first | (refine ASeq.q rfl rfl (QOp.loadI rfl rfl (tok _ rfl) rfl) ?_) | (refine ASeq.q rfl rfl (QOp.loadM 0 rfl rfl rfl (tok _ rfl) rfl) ?_) | (refine ASeq.q rfl rfl (QOp.loadM 1 rfl rfl rfl (tok _ rfl) rfl) ?_) | (refine ASeq.q rfl rfl (QOp.loadM 2 rfl rfl rfl (tok _ rfl) rfl) ?_) | (refine ASeq.q rfl rfl (QOp.loadM 3 rfl rfl rfl (tok _ rfl) rfl) ?_) | (refine ASeq.q rfl rfl (QOp.loadM 4 rfl rfl rfl (tok _ rfl) rfl) ?_) | (refine ASeq.q rfl rfl (QOp.loadM 5 rfl rfl rfl (tok _ rfl) rfl) ?_) | (refine ASeq.q rfl rfl (QOp.loadM 6 rfl rfl rfl (tok _ rfl) rfl) ?_) | (refine ASeq.q rfl rfl (QOp.loadM 7 rfl rfl rfl (tok _ rfl) rfl) ?_) | (refine ASeq.q rfl rfl (QOp.loadM 8 rfl rfl rfl (tok _ rfl) rfl) ?_) | (refine ASeq.q rfl rfl (QOp.loadM 9 rfl rfl rfl (tok _ rfl) rfl) ?_) | (refine ASeq.q rfl rfl (QOp.loadM 10 rfl rfl rfl (tok _ rfl) rfl) ?_) | (refine ASeq.q rfl rfl (QOp.loadM 11 rfl rfl rfl (tok _ rfl) rfl) ?_) | (refine ASeq.q rfl rfl (QOp.loadM 12 rfl rfl rfl (tok _ rfl) rfl) ?_) | (refine ASeq.q rfl rfl (QOp.loadM 13 rfl rfl rfl (tok _ rfl) rfl) ?_) | (refine ASeq.q rfl rfl (QOp.loadM 14 rfl rfl rfl (tok _ rfl) rfl) ?_) | (refine ASeq.q rfl rfl (QOp.loadM 15 rfl rfl rfl (tok _ rfl) rfl) ?_) | (refine ASeq.q rfl rfl (QOp.loadAt 0 rfl rfl rfl (tok _ rfl) rfl (by assumption)) ?_) | (refine ASeq.q rfl rfl (QOp.loadAt 1 rfl rfl rfl (tok _ rfl) rfl (by assumption)) ?_) | (refine ASeq.q rfl rfl (QOp.loadAt 2 rfl rfl rfl (tok _ rfl) rfl (by assumption)) ?_) | (refine ASeq.q rfl rfl (QOp.loadAt 3 rfl rfl rfl (tok _ rfl) rfl (by assumption)) ?_) | (refine ASeq.q rfl rfl (QOp.loadAt 4 rfl rfl rfl (tok _ rfl) rfl (by assumption)) ?_) | (refine ASeq.q rfl rfl (QOp.loadAt 5 rfl rfl rfl (tok _ rfl) rfl (by assumption)) ?_) | (refine ASeq.q rfl rfl (QOp.loadAt 6 rfl rfl rfl (tok _ rfl) rfl (by assumption)) ?_) | (refine ASeq.q rfl rfl (QOp.loadAt 7 rfl rfl rfl (tok _ rfl) rfl (by assumption)) ?_)
    refine ASeq.q rfl rfl (QOp.makeFunc rfl rfl rfl ⟨_, rfl⟩) ?_
    refine ASeq.op rfl rfl (AOp.callP 10 rfl (by kernel_rfl) rfl rfl rfl (hidx) ?_ (by rintro _ _ ⟨⟩))
    rintro _ _ ⟨⟩
    refine ASeq.q rfl rfl (QOp.assign rfl rfl) ?_
    refine ASeq.nil ?_
    generalize hf : idxF e.name c.t.funcs 0 = f at *
    repeat (first | (refine ACode.seq ?_) | (refine ACode.region ?_) | (refine ACode.ret ?_) | (refine ACode.skip ?_) | (refine ACode.exit ?_) | (refine ACode.block ?_) | (refine AExit.then_normal ?_) | (refine AExit.then_ret ?_) | (refine AExit.then_exit ?_) | (refine AExit.in_normal ?_) | (refine AExit.in_ret ?_) | (refine AExit.in_same ?_) | (refine AExit.in_other rfl ?_) | (refine ASeq.nil ?_))
    refine ASeq.q rfl rfl (QOp.move rfl rfl) ?_
    refine ASeq.q rfl rfl (QOp.cmp rfl rfl rfl rfl) ?_
    first | (refine ASeq.q rfl rfl (QOp.fieldM rfl rfl (tok _ rfl) rfl rfl (by decide) rfl) ?_) | (refine ASeq.q rfl rfl (QOp.fieldI rfl rfl (tok _ rfl) rfl rfl (by decide) rfl) ?_)
    first | (refine ASeq.q rfl rfl (QOp.loadI rfl rfl (tok _ rfl) rfl) ?_) | (refine ASeq.q rfl rfl (QOp.loadM 0 rfl rfl rfl (tok _ rfl) rfl) ?_) | (refine ASeq.q rfl rfl (QOp.loadM 1 rfl rfl rfl (tok _ rfl) rfl) ?_) | (refine ASeq.q rfl rfl (QOp.loadM 2 rfl rfl rfl (tok _ rfl) rfl) ?_) | (refine ASeq.q rfl rfl (QOp.loadM 3 rfl rfl rfl (tok _ rfl) rfl) ?_) | (refine ASeq.q rfl rfl (QOp.loadM 4 rfl rfl rfl (tok _ rfl) rfl) ?_) | (refine ASeq.q rfl rfl (QOp.loadM 5 rfl rfl rfl (tok _ rfl) rfl) ?_) | (refine ASeq.q rfl rfl (QOp.loadM 6 rfl rfl rfl (tok _ rfl) rfl) ?_) | (refine ASeq.q rfl rfl (QOp.loadM 7 rfl rfl rfl (tok _ rfl) rfl) ?_) | (refine ASeq.q rfl rfl (QOp.loadM 8 rfl rfl rfl (tok _ rfl) rfl) ?_) | (refine ASeq.q rfl rfl (QOp.loadM 9 rfl rfl rfl (tok _ rfl) rfl) ?_) | (refine ASeq.q rfl rfl (QOp.loadM 10 rfl rfl rfl (tok _ rfl) rfl) ?_) | (refine ASeq.q rfl rfl (QOp.loadM 11 rfl rfl rfl (tok _ rfl) rfl) ?_) | (refine ASeq.q rfl rfl (QOp.loadM 12 rfl rfl rfl (tok _ rfl) rfl) ?_) | (refine ASeq.q rfl rfl (QOp.loadM 13 rfl rfl rfl (tok _ rfl) rfl) ?_) | (refine ASeq.q rfl rfl (QOp.loadM 14 rfl rfl rfl (tok _ rfl) rfl) ?_) | (refine ASeq.q rfl rfl (QOp.loadM 15 rfl rfl rfl (tok _ rfl) rfl) ?_) | (refine ASeq.q rfl rfl (QOp.loadAt 0 rfl rfl rfl (tok _ rfl) rfl (by assumption)) ?_) | (refine ASeq.q rfl rfl (QOp.loadAt 1 rfl rfl rfl (tok _ rfl) rfl (by assumption)) ?_) | (refine ASeq.q rfl rfl (QOp.loadAt 2 rfl rfl rfl (tok _ rfl) rfl (by assumption)) ?_) | (refine ASeq.q rfl rfl (QOp.loadAt 3 rfl rfl rfl (tok _ rfl) rfl (by assumption)) ?_) | (refine ASeq.q rfl rfl (QOp.loadAt 4 rfl rfl rfl (tok _ rfl) rfl (by assumption)) ?_) | (refine ASeq.q rfl rfl (QOp.loadAt 5 rfl rfl rfl (tok _ rfl) rfl (by assumption)) ?_) | (refine ASeq.q rfl rfl (QOp.loadAt 6 rfl rfl rfl (tok _ rfl) rfl (by assumption)) ?_) | (refine ASeq.q rfl rfl (QOp.loadAt 7 rfl rfl rfl (tok _ rfl) rfl (by assumption)) ?_)
    refine ASeq.op rfl rfl (AOp.callP 0 rfl (by kernel_rfl) rfl rfl rfl (cneed_ok _ e.fr e.to 6) ?_ ?_)
    rotate_left
    · (rintro _ _ (⟨⟩ | ⟨hbad⟩); simp only [AExit.then, AExit.inBlock]; exact bodyQ_pan 0 rfl (.no (ok := false) hd (by rw [hr2, hbad, if_neg (by rw [need_no _ hd]; show ¬ (6 : Int) = 0; decide)]) rfl (by decide) _))
    rintro _ _ ⟨hok⟩
    refine ASeq.nil ?_
    rw [hok, need_yes, if_pos hd] at hr2
    obtain ⟨j, hj, hfj⟩ := idxF_found e.name c.t.funcs 0 (by rw [hf]; exact of_decide_eq_true hok)
    rw [hf, Nat.zero_add] at hfj
    subst hfj
    have hjd : j < d.t.funcs.length := by rw [hdt]; exact hj
    have hget := fu_get hjd
    have hfu : c.fu (j : Int) = d.t.funcs[j] := by
      unfold CS.fu
      rw [Int.toNat_natCast, List.getD_eq_getElem?_getD, ← hdt, List.getElem?_eq_getElem hjd]; rfl
    have hd' : d.fu (j : Int) = d.t.funcs[j] := by
      unfold CS.fu
      rw [Int.toNat_natCast, List.getD_eq_getElem?_getD, List.getElem?_eq_getElem hjd]; rfl
    have hls : d.slot.length = c.t.exprs.length := by rw [hkd.ls]; exact ho.ls
    have hel : (ints e.list).length = e.list.length := ints_len e.list
    generalize d.t.funcs[j] = g at *
    have hps := strs_len g.params
    have hno : ∀ {R : List Abs.Item}, (b && ((e.list.length : Int) == g.params.length)) = false → RCi k z r (.pan (wrongV e.fr 8)) R := fun {R} h => by
      rw [hr2, hfu, h, need_no _ hd]
      exact RCi.bad (r := (({ d with code := 8, at_ := e.fr } : CS).setSlot i (j : Int), g.type)) (by show (8 : Int) ≠ 0; decide) R
    have hyes : (b && ((e.list.length : Int) == g.params.length)) = true → RCi k z r (.ret (vi g.type)) [.mu k.mC (ckCells d k z), .mu z.mZ (z.all.map zcell), .mu k.mT (d.type.map vi), .mu k.mS ((d.slot.set i.toNat j).map vi), .mu k.mP (d.put.map vi), .mu k.mF (d.func.map vi), .mu k.mL (d.slotCells z.τ), .tk z.τ, .tk z.τz] := fun h => by
      rw [hr2, hfu, h, need_yes]
      have := RCi.ok (k := k) (z := z) (r := (d.setSlot i (j : Int), g.type)) hd
      rw [ckItems_setSlot] at this
      exact this
    repeat (first | (refine ACode.seq ?_) | (refine ACode.region ?_) | (refine ACode.ret ?_) | (refine ACode.skip ?_) | (refine ACode.exit ?_) | (refine ACode.block ?_) | (refine AExit.then_normal ?_) | (refine AExit.then_ret ?_) | (refine AExit.then_exit ?_) | (refine AExit.in_normal ?_) | (refine AExit.in_ret ?_) | (refine AExit.in_same ?_) | (refine AExit.in_other rfl ?_) | (refine ASeq.nil ?_))
    refine ASeq.q rfl rfl (QOp.move rfl rfl) ?_
    first | (refine ASeq.q rfl rfl (QOp.nilCheckM rfl rfl) ?_) | (refine ASeq.q rfl rfl (QOp.nilCheckI rfl rfl) ?_)
    first | (refine ASeq.q rfl rfl (QOp.fieldM rfl rfl (tok _ rfl) rfl rfl (by decide) rfl) ?_) | (refine ASeq.q rfl rfl (QOp.fieldI rfl rfl (tok _ rfl) rfl rfl (by decide) rfl) ?_)
    first | (refine ASeq.q rfl rfl (QOp.fieldM rfl rfl (tok _ rfl) rfl rfl (by decide) rfl) ?_) | (refine ASeq.q rfl rfl (QOp.fieldI rfl rfl (tok _ rfl) rfl rfl (by decide) rfl) ?_)
    first | (refine ASeq.q rfl rfl (QOp.loadI rfl rfl (tok _ rfl) rfl) ?_) | (refine ASeq.q rfl rfl (QOp.loadM 0 rfl rfl rfl (tok _ rfl) rfl) ?_) | (refine ASeq.q rfl rfl (QOp.loadM 1 rfl rfl rfl (tok _ rfl) rfl) ?_) | (refine ASeq.q rfl rfl (QOp.loadM 2 rfl rfl rfl (tok _ rfl) rfl) ?_) | (refine ASeq.q rfl rfl (QOp.loadM 3 rfl rfl rfl (tok _ rfl) rfl) ?_) | (refine ASeq.q rfl rfl (QOp.loadM 4 rfl rfl rfl (tok _ rfl) rfl) ?_) | (refine ASeq.q rfl rfl (QOp.loadM 5 rfl rfl rfl (tok _ rfl) rfl) ?_) | (refine ASeq.q rfl rfl (QOp.loadM 6 rfl rfl rfl (tok _ rfl) rfl) ?_) | (refine ASeq.q rfl rfl (QOp.loadM 7 rfl rfl rfl (tok _ rfl) rfl) ?_) | (refine ASeq.q rfl rfl (QOp.loadM 8 rfl rfl rfl (tok _ rfl) rfl) ?_) | (refine ASeq.q rfl rfl (QOp.loadM 9 rfl rfl rfl (tok _ rfl) rfl) ?_) | (refine ASeq.q rfl rfl (QOp.loadM 10 rfl rfl rfl (tok _ rfl) rfl) ?_) | (refine ASeq.q rfl rfl (QOp.loadM 11 rfl rfl rfl (tok _ rfl) rfl) ?_) | (refine ASeq.q rfl rfl (QOp.loadM 12 rfl rfl rfl (tok _ rfl) rfl) ?_) | (refine ASeq.q rfl rfl (QOp.loadM 13 rfl rfl rfl (tok _ rfl) rfl) ?_) | (refine ASeq.q rfl rfl (QOp.loadM 14 rfl rfl rfl (tok _ rfl) rfl) ?_) | (refine ASeq.q rfl rfl (QOp.loadM 15 rfl rfl rfl (tok _ rfl) rfl) ?_) | (refine ASeq.q rfl rfl (QOp.loadAt 0 rfl rfl rfl (tok _ rfl) rfl (by assumption)) ?_) | (refine ASeq.q rfl rfl (QOp.loadAt 1 rfl rfl rfl (tok _ rfl) rfl (by assumption)) ?_) | (refine ASeq.q rfl rfl (QOp.loadAt 2 rfl rfl rfl (tok _ rfl) rfl (by assumption)) ?_) | (refine ASeq.q rfl rfl (QOp.loadAt 3 rfl rfl rfl (tok _ rfl) rfl (by assumption)) ?_) | (refine ASeq.q rfl rfl (QOp.loadAt 4 rfl rfl rfl (tok _ rfl) rfl (by assumption)) ?_) | (refine ASeq.q rfl rfl (QOp.loadAt 5 rfl rfl rfl (tok _ rfl) rfl (by assumption)) ?_) | (refine ASeq.q rfl rfl (QOp.loadAt 6 rfl rfl rfl (tok _ rfl) rfl (by assumption)) ?_) | (refine ASeq.q rfl rfl (QOp.loadAt 7 rfl rfl rfl (tok _ rfl) rfl (by assumption)) ?_)
    refine ASeq.q rfl rfl (QOp.move rfl rfl) ?_
    refine ASeq.q rfl rfl (QOp.move rfl rfl) ?_
    first | (refine ASeq.q rfl rfl (QOp.indexI rfl rfl rfl (tok _ rfl) rfl (tok _ rfl) (by first | (decide) | (omega)) (by first | (rfl) | (assumption))) ?_) | (refine ASeq.q rfl rfl (QOp.indexM rfl rfl rfl (tok _ rfl) rfl (tok _ rfl) (by first | (decide) | (omega)) (by first | (decide) | (omega)) rfl) ?_) | (refine ASeq.q rfl rfl (QOp.indexArr rfl rfl rfl (tok _ rfl) rfl (tok _ rfl) (by decide) (by decide) rfl) ?_)
    refine ASeq.op0 rfl rfl (storeInt 3 (j := i.toNat) (l := d.slot) rfl rfl rfl rfl (tok _ rfl) rfl (by show 0 + _ * 1 = _; omega) (by omega) rfl ?_)
    refine ASeq.nil ?_
    repeat (first | (refine ACode.seq ?_) | (refine ACode.region ?_) | (refine ACode.ret ?_) | (refine ACode.skip ?_) | (refine ACode.exit ?_) | (refine ACode.block ?_) | (refine AExit.then_normal ?_) | (refine AExit.then_ret ?_) | (refine AExit.then_exit ?_) | (refine AExit.in_normal ?_) | (refine AExit.in_ret ?_) | (refine AExit.in_same ?_) | (refine AExit.in_other rfl ?_) | (refine ASeq.nil ?_))
    refine ACode.drawn [[], [0], [0, 1], [0, 1, 2], [0, 1, 2, 3], [0, 1], [0, 1, 5], [0, 1, 5, 6], [0, 1, 5, 6, 7], [0, 1, 5, 6, 7, 8], [0, 1], [0, 1, 5, 6, 7, 8, 9, 10], [0, 1, 5, 6, 7, 8, 9, 10, 11], [0, 1, 5, 6, 7, 8, 9, 10, 11, 12], [0, 1, 5, 6, 7, 8, 9, 10, 11, 12, 13], [0, 1, 2, 3, 4, 5, 6, 7, 8, 9, 10, 11, 12, 13, 14], [0, 1, 2, 3, 4, 5, 6, 7, 8, 9, 10, 11, 12, 13, 14, 15], [], [17], [0, 1, 2, 3, 4, 5, 6, 7, 8, 9, 10, 11, 12, 13, 14, 15, 16, 17, 18]] (by kernel_rfl) mixed ?_
    refine DAny.qu 0 rfl rfl (by kernel_rfl) rfl (fun _ => .does _ _ rfl (.none rfl) (QOp.move rfl rfl)) ?_
    refine DAny.qu 1 rfl rfl (by kernel_rfl) rfl (fun _ => .does _ _ rfl (.none rfl) (QOp.move rfl rfl)) ?_
    first | (refine DAny.qu 17 rfl rfl (by kernel_rfl) rfl (fun _ => .does _ _ rfl (.none rfl) (QOp.fieldM rfl rfl (tok _ rfl) rfl rfl (by decide) rfl)) ?_) | (refine DAny.qu 17 rfl rfl (by kernel_rfl) rfl (fun _ => .does _ _ rfl (.none rfl) (QOp.fieldI rfl rfl (tok _ rfl) rfl rfl (by decide) rfl)) ?_)
    first | (refine DAny.qu 18 rfl rfl (by kernel_rfl) rfl (fun _ => .does _ _ rfl (.none rfl) (QOp.loadI rfl rfl (tok _ rfl) rfl)) ?_) | (refine DAny.ld 18 rfl rfl (by kernel_rfl) rfl (.does _ _ rfl (.none rfl) (QOp.loadM 0 rfl rfl rfl (tok _ rfl) rfl)) ?_) | (refine DAny.ld 18 rfl rfl (by kernel_rfl) rfl (.does _ _ rfl (.none rfl) (QOp.loadM 1 rfl rfl rfl (tok _ rfl) rfl)) ?_) | (refine DAny.ld 18 rfl rfl (by kernel_rfl) rfl (.does _ _ rfl (.none rfl) (QOp.loadM 2 rfl rfl rfl (tok _ rfl) rfl)) ?_) | (refine DAny.ld 18 rfl rfl (by kernel_rfl) rfl (.does _ _ rfl (.none rfl) (QOp.loadM 3 rfl rfl rfl (tok _ rfl) rfl)) ?_) | (refine DAny.ld 18 rfl rfl (by kernel_rfl) rfl (.does _ _ rfl (.none rfl) (QOp.loadM 4 rfl rfl rfl (tok _ rfl) rfl)) ?_) | (refine DAny.ld 18 rfl rfl (by kernel_rfl) rfl (.does _ _ rfl (.none rfl) (QOp.loadM 5 rfl rfl rfl (tok _ rfl) rfl)) ?_) | (refine DAny.ld 18 rfl rfl (by kernel_rfl) rfl (.does _ _ rfl (.none rfl) (QOp.loadM 6 rfl rfl rfl (tok _ rfl) rfl)) ?_) | (refine DAny.ld 18 rfl rfl (by kernel_rfl) rfl (.does _ _ rfl (.none rfl) (QOp.loadM 7 rfl rfl rfl (tok _ rfl) rfl)) ?_) | (refine DAny.ld 18 rfl rfl (by kernel_rfl) rfl (.does _ _ rfl (.none rfl) (QOp.loadM 8 rfl rfl rfl (tok _ rfl) rfl)) ?_) | (refine DAny.ld 18 rfl rfl (by kernel_rfl) rfl (.does _ _ rfl (.none rfl) (QOp.loadM 9 rfl rfl rfl (tok _ rfl) rfl)) ?_) | (refine DAny.ld 18 rfl rfl (by kernel_rfl) rfl (.does _ _ rfl (.none rfl) (QOp.loadM 10 rfl rfl rfl (tok _ rfl) rfl)) ?_) | (refine DAny.ld 18 rfl rfl (by kernel_rfl) rfl (.does _ _ rfl (.none rfl) (QOp.loadM 11 rfl rfl rfl (tok _ rfl) rfl)) ?_) | (refine DAny.ld 18 rfl rfl (by kernel_rfl) rfl (.does _ _ rfl (.none rfl) (QOp.loadM 12 rfl rfl rfl (tok _ rfl) rfl)) ?_) | (refine DAny.ld 18 rfl rfl (by kernel_rfl) rfl (.does _ _ rfl (.none rfl) (QOp.loadM 13 rfl rfl rfl (tok _ rfl) rfl)) ?_) | (refine DAny.ld 18 rfl rfl (by kernel_rfl) rfl (.does _ _ rfl (.none rfl) (QOp.loadM 14 rfl rfl rfl (tok _ rfl) rfl)) ?_) | (refine DAny.ld 18 rfl rfl (by kernel_rfl) rfl (.does _ _ rfl (.none rfl) (QOp.loadM 15 rfl rfl rfl (tok _ rfl) rfl)) ?_) | (refine DAny.ld 18 rfl rfl (by kernel_rfl) rfl (.does _ _ rfl (.none rfl) (QOp.loadAt 0 rfl rfl rfl (tok _ rfl) rfl (by assumption))) ?_) | (refine DAny.ld 18 rfl rfl (by kernel_rfl) rfl (.does _ _ rfl (.none rfl) (QOp.loadAt 1 rfl rfl rfl (tok _ rfl) rfl (by assumption))) ?_) | (refine DAny.ld 18 rfl rfl (by kernel_rfl) rfl (.does _ _ rfl (.none rfl) (QOp.loadAt 2 rfl rfl rfl (tok _ rfl) rfl (by assumption))) ?_) | (refine DAny.ld 18 rfl rfl (by kernel_rfl) rfl (.does _ _ rfl (.none rfl) (QOp.loadAt 3 rfl rfl rfl (tok _ rfl) rfl (by assumption))) ?_) | (refine DAny.ld 18 rfl rfl (by kernel_rfl) rfl (.does _ _ rfl (.none rfl) (QOp.loadAt 4 rfl rfl rfl (tok _ rfl) rfl (by assumption))) ?_) | (refine DAny.ld 18 rfl rfl (by kernel_rfl) rfl (.does _ _ rfl (.none rfl) (QOp.loadAt 5 rfl rfl rfl (tok _ rfl) rfl (by assumption))) ?_) | (refine DAny.ld 18 rfl rfl (by kernel_rfl) rfl (.does _ _ rfl (.none rfl) (QOp.loadAt 6 rfl rfl rfl (tok _ rfl) rfl (by assumption))) ?_) | (refine DAny.ld 18 rfl rfl (by kernel_rfl) rfl (.does _ _ rfl (.none rfl) (QOp.loadAt 7 rfl rfl rfl (tok _ rfl) rfl (by assumption))) ?_)
    -- STOP at 2 (listed 0,1,17,18)
    refine DAny.split 47 b rfl (fun hb3 => ?_) (fun hb3 => ?_)
    · first | (refine DAny.qu 2 rfl rfl (by kernel_rfl) rfl (fun _ => .does _ _ rfl (by first | (exact .none rfl) | (exact .yes _ _ _ rfl rfl rfl)) (QOp.fieldM rfl rfl (tok _ rfl) rfl rfl (by decide) rfl)) ?_) | (refine DAny.qu 2 rfl rfl (by kernel_rfl) rfl (fun _ => .does _ _ rfl (by first | (exact .none rfl) | (exact .yes _ _ _ rfl rfl rfl)) (QOp.fieldI rfl rfl (tok _ rfl) rfl rfl (by decide) rfl)) ?_) | (refine DAny.qu 2 rfl rfl (by kernel_rfl) rfl (fun _ => .passed _ rfl (.no _ _ _ rfl rfl rfl rfl)) ?_)
      first | (refine DAny.qu 3 rfl rfl (by kernel_rfl) rfl (fun _ => .does _ _ rfl (by first | (exact .none rfl) | (exact .yes _ _ _ rfl rfl rfl)) (QOp.loadI rfl rfl (tok _ rfl) rfl)) ?_) | (refine DAny.ld 3 rfl rfl (by kernel_rfl) rfl (.does _ _ rfl (by first | (exact .none rfl) | (exact .yes _ _ _ rfl rfl rfl)) (QOp.loadM 0 rfl rfl rfl (tok _ rfl) rfl)) ?_) | (refine DAny.ld 3 rfl rfl (by kernel_rfl) rfl (.does _ _ rfl (by first | (exact .none rfl) | (exact .yes _ _ _ rfl rfl rfl)) (QOp.loadM 1 rfl rfl rfl (tok _ rfl) rfl)) ?_) | (refine DAny.ld 3 rfl rfl (by kernel_rfl) rfl (.does _ _ rfl (by first | (exact .none rfl) | (exact .yes _ _ _ rfl rfl rfl)) (QOp.loadM 2 rfl rfl rfl (tok _ rfl) rfl)) ?_) | (refine DAny.ld 3 rfl rfl (by kernel_rfl) rfl (.does _ _ rfl (by first | (exact .none rfl) | (exact .yes _ _ _ rfl rfl rfl)) (QOp.loadM 3 rfl rfl rfl (tok _ rfl) rfl)) ?_) | (refine DAny.ld 3 rfl rfl (by kernel_rfl) rfl (.does _ _ rfl (by first | (exact .none rfl) | (exact .yes _ _ _ rfl rfl rfl)) (QOp.loadM 4 rfl rfl rfl (tok _ rfl) rfl)) ?_) | (refine DAny.ld 3 rfl rfl (by kernel_rfl) rfl (.does _ _ rfl (by first | (exact .none rfl) | (exact .yes _ _ _ rfl rfl rfl)) (QOp.loadM 5 rfl rfl rfl (tok _ rfl) rfl)) ?_) | (refine DAny.ld 3 rfl rfl (by kernel_rfl) rfl (.does _ _ rfl (by first | (exact .none rfl) | (exact .yes _ _ _ rfl rfl rfl)) (QOp.loadM 6 rfl rfl rfl (tok _ rfl) rfl)) ?_) | (refine DAny.ld 3 rfl rfl (by kernel_rfl) rfl (.does _ _ rfl (by first | (exact .none rfl) | (exact .yes _ _ _ rfl rfl rfl)) (QOp.loadM 7 rfl rfl rfl (tok _ rfl) rfl)) ?_) | (refine DAny.ld 3 rfl rfl (by kernel_rfl) rfl (.does _ _ rfl (by first | (exact .none rfl) | (exact .yes _ _ _ rfl rfl rfl)) (QOp.loadM 8 rfl rfl rfl (tok _ rfl) rfl)) ?_) | (refine DAny.ld 3 rfl rfl (by kernel_rfl) rfl (.does _ _ rfl (by first | (exact .none rfl) | (exact .yes _ _ _ rfl rfl rfl)) (QOp.loadM 9 rfl rfl rfl (tok _ rfl) rfl)) ?_) | (refine DAny.ld 3 rfl rfl (by kernel_rfl) rfl (.does _ _ rfl (by first | (exact .none rfl) | (exact .yes _ _ _ rfl rfl rfl)) (QOp.loadM 10 rfl rfl rfl (tok _ rfl) rfl)) ?_) | (refine DAny.ld 3 rfl rfl (by kernel_rfl) rfl (.does _ _ rfl (by first | (exact .none rfl) | (exact .yes _ _ _ rfl rfl rfl)) (QOp.loadM 11 rfl rfl rfl (tok _ rfl) rfl)) ?_) | (refine DAny.ld 3 rfl rfl (by kernel_rfl) rfl (.does _ _ rfl (by first | (exact .none rfl) | (exact .yes _ _ _ rfl rfl rfl)) (QOp.loadM 12 rfl rfl rfl (tok _ rfl) rfl)) ?_) | (refine DAny.ld 3 rfl rfl (by kernel_rfl) rfl (.does _ _ rfl (by first | (exact .none rfl) | (exact .yes _ _ _ rfl rfl rfl)) (QOp.loadM 13 rfl rfl rfl (tok _ rfl) rfl)) ?_) | (refine DAny.ld 3 rfl rfl (by kernel_rfl) rfl (.does _ _ rfl (by first | (exact .none rfl) | (exact .yes _ _ _ rfl rfl rfl)) (QOp.loadM 14 rfl rfl rfl (tok _ rfl) rfl)) ?_) | (refine DAny.ld 3 rfl rfl (by kernel_rfl) rfl (.does _ _ rfl (by first | (exact .none rfl) | (exact .yes _ _ _ rfl rfl rfl)) (QOp.loadM 15 rfl rfl rfl (tok _ rfl) rfl)) ?_) | (refine DAny.ld 3 rfl rfl (by kernel_rfl) rfl (.does _ _ rfl (by first | (exact .none rfl) | (exact .yes _ _ _ rfl rfl rfl)) (QOp.loadAt 0 rfl rfl rfl (tok _ rfl) rfl (by assumption))) ?_) | (refine DAny.ld 3 rfl rfl (by kernel_rfl) rfl (.does _ _ rfl (by first | (exact .none rfl) | (exact .yes _ _ _ rfl rfl rfl)) (QOp.loadAt 1 rfl rfl rfl (tok _ rfl) rfl (by assumption))) ?_) | (refine DAny.ld 3 rfl rfl (by kernel_rfl) rfl (.does _ _ rfl (by first | (exact .none rfl) | (exact .yes _ _ _ rfl rfl rfl)) (QOp.loadAt 2 rfl rfl rfl (tok _ rfl) rfl (by assumption))) ?_) | (refine DAny.ld 3 rfl rfl (by kernel_rfl) rfl (.does _ _ rfl (by first | (exact .none rfl) | (exact .yes _ _ _ rfl rfl rfl)) (QOp.loadAt 3 rfl rfl rfl (tok _ rfl) rfl (by assumption))) ?_) | (refine DAny.ld 3 rfl rfl (by kernel_rfl) rfl (.does _ _ rfl (by first | (exact .none rfl) | (exact .yes _ _ _ rfl rfl rfl)) (QOp.loadAt 4 rfl rfl rfl (tok _ rfl) rfl (by assumption))) ?_) | (refine DAny.ld 3 rfl rfl (by kernel_rfl) rfl (.does _ _ rfl (by first | (exact .none rfl) | (exact .yes _ _ _ rfl rfl rfl)) (QOp.loadAt 5 rfl rfl rfl (tok _ rfl) rfl (by assumption))) ?_) | (refine DAny.ld 3 rfl rfl (by kernel_rfl) rfl (.does _ _ rfl (by first | (exact .none rfl) | (exact .yes _ _ _ rfl rfl rfl)) (QOp.loadAt 6 rfl rfl rfl (tok _ rfl) rfl (by assumption))) ?_) | (refine DAny.ld 3 rfl rfl (by kernel_rfl) rfl (.does _ _ rfl (by first | (exact .none rfl) | (exact .yes _ _ _ rfl rfl rfl)) (QOp.loadAt 7 rfl rfl rfl (tok _ rfl) rfl (by assumption))) ?_) | (refine DAny.qu 3 rfl rfl (by kernel_rfl) rfl (fun _ => .passed _ rfl (.no _ _ _ rfl rfl rfl rfl)) ?_)
      first | (refine DAny.qu 4 rfl rfl (by kernel_rfl) rfl (fun _ => .does _ _ rfl (by first | (exact .none rfl) | (exact .yes _ _ _ rfl rfl rfl)) (QOp.lenI rfl rfl (tok _ rfl) rfl)) ?_) | (refine DAny.qu 4 rfl rfl (by kernel_rfl) rfl (fun _ => .does _ _ rfl (by first | (exact .none rfl) | (exact .yes _ _ _ rfl rfl rfl)) (QOp.lenM rfl rfl (tok _ rfl) rfl)) ?_) | (refine DAny.qu 4 rfl rfl (by kernel_rfl) rfl (fun _ => .does _ _ rfl (by first | (exact .none rfl) | (exact .yes _ _ _ rfl rfl rfl)) (QOp.lenS rfl rfl (tok _ rfl) rfl)) ?_) | (refine DAny.qu 4 rfl rfl (by kernel_rfl) rfl (fun _ => .does _ _ rfl (by first | (exact .none rfl) | (exact .yes _ _ _ rfl rfl rfl)) (QOp.lenN rfl rfl (tok _ rfl) rfl)) ?_) | (refine DAny.qu 4 rfl rfl (by kernel_rfl) rfl (fun _ => .passed _ rfl (.no _ _ _ rfl rfl rfl rfl)) ?_)
      first | (refine DAny.qu 5 rfl rfl (by kernel_rfl) rfl (fun _ => .does _ _ rfl (by first | (exact .none rfl) | (exact .yes _ _ _ rfl rfl rfl)) (QOp.move rfl rfl)) ?_) | (refine DAny.qu 5 rfl rfl (by kernel_rfl) rfl (fun _ => .passed _ rfl (.no _ _ _ rfl rfl rfl rfl)) ?_)
      first | (refine DAny.qu 6 rfl rfl (by kernel_rfl) rfl (fun _ => .does _ _ rfl (by first | (exact .none rfl) | (exact .yes _ _ _ rfl rfl rfl)) (QOp.nilCheckM rfl rfl)) ?_) | (refine DAny.qu 6 rfl rfl (by kernel_rfl) rfl (fun _ => .does _ _ rfl (by first | (exact .none rfl) | (exact .yes _ _ _ rfl rfl rfl)) (QOp.nilCheckI rfl rfl)) ?_) | (refine DAny.qu 6 rfl rfl (by kernel_rfl) rfl (fun _ => .passed _ rfl (.no _ _ _ rfl rfl rfl rfl)) ?_)
      first | (refine DAny.qu 7 rfl rfl (by kernel_rfl) rfl (fun _ => .does _ _ rfl (by first | (exact .none rfl) | (exact .yes _ _ _ rfl rfl rfl)) (QOp.fieldM rfl rfl (tok _ rfl) rfl rfl (by decide) rfl)) ?_) | (refine DAny.qu 7 rfl rfl (by kernel_rfl) rfl (fun _ => .does _ _ rfl (by first | (exact .none rfl) | (exact .yes _ _ _ rfl rfl rfl)) (QOp.fieldI rfl rfl (tok _ rfl) rfl rfl (by decide) rfl)) ?_) | (refine DAny.qu 7 rfl rfl (by kernel_rfl) rfl (fun _ => .passed _ rfl (.no _ _ _ rfl rfl rfl rfl)) ?_)
      first | (refine DAny.qu 8 rfl rfl (by kernel_rfl) rfl (fun _ => .does _ _ rfl (by first | (exact .none rfl) | (exact .yes _ _ _ rfl rfl rfl)) (QOp.fieldM rfl rfl (tok _ rfl) rfl rfl (by decide) rfl)) ?_) | (refine DAny.qu 8 rfl rfl (by kernel_rfl) rfl (fun _ => .does _ _ rfl (by first | (exact .none rfl) | (exact .yes _ _ _ rfl rfl rfl)) (QOp.fieldI rfl rfl (tok _ rfl) rfl rfl (by decide) rfl)) ?_) | (refine DAny.qu 8 rfl rfl (by kernel_rfl) rfl (fun _ => .passed _ rfl (.no _ _ _ rfl rfl rfl rfl)) ?_)
      first | (refine DAny.qu 9 rfl rfl (by kernel_rfl) rfl (fun _ => .does _ _ rfl (by first | (exact .none rfl) | (exact .yes _ _ _ rfl rfl rfl)) (QOp.loadI rfl rfl (tok _ rfl) rfl)) ?_) | (refine DAny.ld 9 rfl rfl (by kernel_rfl) rfl (.does _ _ rfl (by first | (exact .none rfl) | (exact .yes _ _ _ rfl rfl rfl)) (QOp.loadM 0 rfl rfl rfl (tok _ rfl) rfl)) ?_) | (refine DAny.ld 9 rfl rfl (by kernel_rfl) rfl (.does _ _ rfl (by first | (exact .none rfl) | (exact .yes _ _ _ rfl rfl rfl)) (QOp.loadM 1 rfl rfl rfl (tok _ rfl) rfl)) ?_) | (refine DAny.ld 9 rfl rfl (by kernel_rfl) rfl (.does _ _ rfl (by first | (exact .none rfl) | (exact .yes _ _ _ rfl rfl rfl)) (QOp.loadM 2 rfl rfl rfl (tok _ rfl) rfl)) ?_) | (refine DAny.ld 9 rfl rfl (by kernel_rfl) rfl (.does _ _ rfl (by first | (exact .none rfl) | (exact .yes _ _ _ rfl rfl rfl)) (QOp.loadM 3 rfl rfl rfl (tok _ rfl) rfl)) ?_) | (refine DAny.ld 9 rfl rfl (by kernel_rfl) rfl (.does _ _ rfl (by first | (exact .none rfl) | (exact .yes _ _ _ rfl rfl rfl)) (QOp.loadM 4 rfl rfl rfl (tok _ rfl) rfl)) ?_) | (refine DAny.ld 9 rfl rfl (by kernel_rfl) rfl (.does _ _ rfl (by first | (exact .none rfl) | (exact .yes _ _ _ rfl rfl rfl)) (QOp.loadM 5 rfl rfl rfl (tok _ rfl) rfl)) ?_) | (refine DAny.ld 9 rfl rfl (by kernel_rfl) rfl (.does _ _ rfl (by first | (exact .none rfl) | (exact .yes _ _ _ rfl rfl rfl)) (QOp.loadM 6 rfl rfl rfl (tok _ rfl) rfl)) ?_) | (refine DAny.ld 9 rfl rfl (by kernel_rfl) rfl (.does _ _ rfl (by first | (exact .none rfl) | (exact .yes _ _ _ rfl rfl rfl)) (QOp.loadM 7 rfl rfl rfl (tok _ rfl) rfl)) ?_) | (refine DAny.ld 9 rfl rfl (by kernel_rfl) rfl (.does _ _ rfl (by first | (exact .none rfl) | (exact .yes _ _ _ rfl rfl rfl)) (QOp.loadM 8 rfl rfl rfl (tok _ rfl) rfl)) ?_) | (refine DAny.ld 9 rfl rfl (by kernel_rfl) rfl (.does _ _ rfl (by first | (exact .none rfl) | (exact .yes _ _ _ rfl rfl rfl)) (QOp.loadM 9 rfl rfl rfl (tok _ rfl) rfl)) ?_) | (refine DAny.ld 9 rfl rfl (by kernel_rfl) rfl (.does _ _ rfl (by first | (exact .none rfl) | (exact .yes _ _ _ rfl rfl rfl)) (QOp.loadM 10 rfl rfl rfl (tok _ rfl) rfl)) ?_) | (refine DAny.ld 9 rfl rfl (by kernel_rfl) rfl (.does _ _ rfl (by first | (exact .none rfl) | (exact .yes _ _ _ rfl rfl rfl)) (QOp.loadM 11 rfl rfl rfl (tok _ rfl) rfl)) ?_) | (refine DAny.ld 9 rfl rfl (by kernel_rfl) rfl (.does _ _ rfl (by first | (exact .none rfl) | (exact .yes _ _ _ rfl rfl rfl)) (QOp.loadM 12 rfl rfl rfl (tok _ rfl) rfl)) ?_) | (refine DAny.ld 9 rfl rfl (by kernel_rfl) rfl (.does _ _ rfl (by first | (exact .none rfl) | (exact .yes _ _ _ rfl rfl rfl)) (QOp.loadM 13 rfl rfl rfl (tok _ rfl) rfl)) ?_) | (refine DAny.ld 9 rfl rfl (by kernel_rfl) rfl (.does _ _ rfl (by first | (exact .none rfl) | (exact .yes _ _ _ rfl rfl rfl)) (QOp.loadM 14 rfl rfl rfl (tok _ rfl) rfl)) ?_) | (refine DAny.ld 9 rfl rfl (by kernel_rfl) rfl (.does _ _ rfl (by first | (exact .none rfl) | (exact .yes _ _ _ rfl rfl rfl)) (QOp.loadM 15 rfl rfl rfl (tok _ rfl) rfl)) ?_) | (refine DAny.ld 9 rfl rfl (by kernel_rfl) rfl (.does _ _ rfl (by first | (exact .none rfl) | (exact .yes _ _ _ rfl rfl rfl)) (QOp.loadAt 0 rfl rfl rfl (tok _ rfl) rfl (by assumption))) ?_) | (refine DAny.ld 9 rfl rfl (by kernel_rfl) rfl (.does _ _ rfl (by first | (exact .none rfl) | (exact .yes _ _ _ rfl rfl rfl)) (QOp.loadAt 1 rfl rfl rfl (tok _ rfl) rfl (by assumption))) ?_) | (refine DAny.ld 9 rfl rfl (by kernel_rfl) rfl (.does _ _ rfl (by first | (exact .none rfl) | (exact .yes _ _ _ rfl rfl rfl)) (QOp.loadAt 2 rfl rfl rfl (tok _ rfl) rfl (by assumption))) ?_) | (refine DAny.ld 9 rfl rfl (by kernel_rfl) rfl (.does _ _ rfl (by first | (exact .none rfl) | (exact .yes _ _ _ rfl rfl rfl)) (QOp.loadAt 3 rfl rfl rfl (tok _ rfl) rfl (by assumption))) ?_) | (refine DAny.ld 9 rfl rfl (by kernel_rfl) rfl (.does _ _ rfl (by first | (exact .none rfl) | (exact .yes _ _ _ rfl rfl rfl)) (QOp.loadAt 4 rfl rfl rfl (tok _ rfl) rfl (by assumption))) ?_) | (refine DAny.ld 9 rfl rfl (by kernel_rfl) rfl (.does _ _ rfl (by first | (exact .none rfl) | (exact .yes _ _ _ rfl rfl rfl)) (QOp.loadAt 5 rfl rfl rfl (tok _ rfl) rfl (by assumption))) ?_) | (refine DAny.ld 9 rfl rfl (by kernel_rfl) rfl (.does _ _ rfl (by first | (exact .none rfl) | (exact .yes _ _ _ rfl rfl rfl)) (QOp.loadAt 6 rfl rfl rfl (tok _ rfl) rfl (by assumption))) ?_) | (refine DAny.ld 9 rfl rfl (by kernel_rfl) rfl (.does _ _ rfl (by first | (exact .none rfl) | (exact .yes _ _ _ rfl rfl rfl)) (QOp.loadAt 7 rfl rfl rfl (tok _ rfl) rfl (by assumption))) ?_) | (refine DAny.qu 9 rfl rfl (by kernel_rfl) rfl (fun _ => .passed _ rfl (.no _ _ _ rfl rfl rfl rfl)) ?_)
      first | (refine DAny.qu 10 rfl rfl (by kernel_rfl) rfl (fun _ => .does _ _ rfl (by first | (exact .none rfl) | (exact .yes _ _ _ rfl rfl rfl)) (QOp.move rfl rfl)) ?_) | (refine DAny.qu 10 rfl rfl (by kernel_rfl) rfl (fun _ => .passed _ rfl (.no _ _ _ rfl rfl rfl rfl)) ?_)
      first | (refine DAny.qu 11 rfl rfl (by kernel_rfl) rfl (fun _ => .does _ _ rfl (by first | (exact .none rfl) | (exact .yes _ _ _ rfl rfl rfl)) (QOp.indexI rfl rfl rfl (tok _ rfl) rfl (tok _ rfl) (by first | (decide) | (omega)) (by first | (rfl) | (assumption)))) ?_) | (refine DAny.qu 11 rfl rfl (by kernel_rfl) rfl (fun _ => .does _ _ rfl (by first | (exact .none rfl) | (exact .yes _ _ _ rfl rfl rfl)) (QOp.indexM rfl rfl rfl (tok _ rfl) rfl (tok _ rfl) (by first | (decide) | (omega)) (by first | (decide) | (omega)) rfl)) ?_) | (refine DAny.qu 11 rfl rfl (by kernel_rfl) rfl (fun _ => .does _ _ rfl (by first | (exact .none rfl) | (exact .yes _ _ _ rfl rfl rfl)) (QOp.indexArr rfl rfl rfl (tok _ rfl) rfl (tok _ rfl) (by decide) (by decide) rfl)) ?_) | (refine DAny.qu 11 rfl rfl (by kernel_rfl) rfl (fun _ => .passed _ rfl (.no _ _ _ rfl rfl rfl rfl)) ?_)
      first | (refine DAny.qu 12 rfl rfl (by kernel_rfl) rfl (fun _ => .does _ _ rfl (by first | (exact .none rfl) | (exact .yes _ _ _ rfl rfl rfl)) (QOp.fieldM rfl rfl (tok _ rfl) rfl rfl (by decide) rfl)) ?_) | (refine DAny.qu 12 rfl rfl (by kernel_rfl) rfl (fun _ => .does _ _ rfl (by first | (exact .none rfl) | (exact .yes _ _ _ rfl rfl rfl)) (QOp.fieldI rfl rfl (tok _ rfl) rfl rfl (by decide) rfl)) ?_) | (refine DAny.qu 12 rfl rfl (by kernel_rfl) rfl (fun _ => .passed _ rfl (.no _ _ _ rfl rfl rfl rfl)) ?_)
      first | (refine DAny.qu 13 rfl rfl (by kernel_rfl) rfl (fun _ => .does _ _ rfl (by first | (exact .none rfl) | (exact .yes _ _ _ rfl rfl rfl)) (QOp.loadI rfl rfl (tok _ rfl) rfl)) ?_) | (refine DAny.ld 13 rfl rfl (by kernel_rfl) rfl (.does _ _ rfl (by first | (exact .none rfl) | (exact .yes _ _ _ rfl rfl rfl)) (QOp.loadM 0 rfl rfl rfl (tok _ rfl) rfl)) ?_) | (refine DAny.ld 13 rfl rfl (by kernel_rfl) rfl (.does _ _ rfl (by first | (exact .none rfl) | (exact .yes _ _ _ rfl rfl rfl)) (QOp.loadM 1 rfl rfl rfl (tok _ rfl) rfl)) ?_) | (refine DAny.ld 13 rfl rfl (by kernel_rfl) rfl (.does _ _ rfl (by first | (exact .none rfl) | (exact .yes _ _ _ rfl rfl rfl)) (QOp.loadM 2 rfl rfl rfl (tok _ rfl) rfl)) ?_) | (refine DAny.ld 13 rfl rfl (by kernel_rfl) rfl (.does _ _ rfl (by first | (exact .none rfl) | (exact .yes _ _ _ rfl rfl rfl)) (QOp.loadM 3 rfl rfl rfl (tok _ rfl) rfl)) ?_) | (refine DAny.ld 13 rfl rfl (by kernel_rfl) rfl (.does _ _ rfl (by first | (exact .none rfl) | (exact .yes _ _ _ rfl rfl rfl)) (QOp.loadM 4 rfl rfl rfl (tok _ rfl) rfl)) ?_) | (refine DAny.ld 13 rfl rfl (by kernel_rfl) rfl (.does _ _ rfl (by first | (exact .none rfl) | (exact .yes _ _ _ rfl rfl rfl)) (QOp.loadM 5 rfl rfl rfl (tok _ rfl) rfl)) ?_) | (refine DAny.ld 13 rfl rfl (by kernel_rfl) rfl (.does _ _ rfl (by first | (exact .none rfl) | (exact .yes _ _ _ rfl rfl rfl)) (QOp.loadM 6 rfl rfl rfl (tok _ rfl) rfl)) ?_) | (refine DAny.ld 13 rfl rfl (by kernel_rfl) rfl (.does _ _ rfl (by first | (exact .none rfl) | (exact .yes _ _ _ rfl rfl rfl)) (QOp.loadM 7 rfl rfl rfl (tok _ rfl) rfl)) ?_) | (refine DAny.ld 13 rfl rfl (by kernel_rfl) rfl (.does _ _ rfl (by first | (exact .none rfl) | (exact .yes _ _ _ rfl rfl rfl)) (QOp.loadM 8 rfl rfl rfl (tok _ rfl) rfl)) ?_) | (refine DAny.ld 13 rfl rfl (by kernel_rfl) rfl (.does _ _ rfl (by first | (exact .none rfl) | (exact .yes _ _ _ rfl rfl rfl)) (QOp.loadM 9 rfl rfl rfl (tok _ rfl) rfl)) ?_) | (refine DAny.ld 13 rfl rfl (by kernel_rfl) rfl (.does _ _ rfl (by first | (exact .none rfl) | (exact .yes _ _ _ rfl rfl rfl)) (QOp.loadM 10 rfl rfl rfl (tok _ rfl) rfl)) ?_) | (refine DAny.ld 13 rfl rfl (by kernel_rfl) rfl (.does _ _ rfl (by first | (exact .none rfl) | (exact .yes _ _ _ rfl rfl rfl)) (QOp.loadM 11 rfl rfl rfl (tok _ rfl) rfl)) ?_) | (refine DAny.ld 13 rfl rfl (by kernel_rfl) rfl (.does _ _ rfl (by first | (exact .none rfl) | (exact .yes _ _ _ rfl rfl rfl)) (QOp.loadM 12 rfl rfl rfl (tok _ rfl) rfl)) ?_) | (refine DAny.ld 13 rfl rfl (by kernel_rfl) rfl (.does _ _ rfl (by first | (exact .none rfl) | (exact .yes _ _ _ rfl rfl rfl)) (QOp.loadM 13 rfl rfl rfl (tok _ rfl) rfl)) ?_) | (refine DAny.ld 13 rfl rfl (by kernel_rfl) rfl (.does _ _ rfl (by first | (exact .none rfl) | (exact .yes _ _ _ rfl rfl rfl)) (QOp.loadM 14 rfl rfl rfl (tok _ rfl) rfl)) ?_) | (refine DAny.ld 13 rfl rfl (by kernel_rfl) rfl (.does _ _ rfl (by first | (exact .none rfl) | (exact .yes _ _ _ rfl rfl rfl)) (QOp.loadM 15 rfl rfl rfl (tok _ rfl) rfl)) ?_) | (refine DAny.ld 13 rfl rfl (by kernel_rfl) rfl (.does _ _ rfl (by first | (exact .none rfl) | (exact .yes _ _ _ rfl rfl rfl)) (QOp.loadAt 0 rfl rfl rfl (tok _ rfl) rfl (by assumption))) ?_) | (refine DAny.ld 13 rfl rfl (by kernel_rfl) rfl (.does _ _ rfl (by first | (exact .none rfl) | (exact .yes _ _ _ rfl rfl rfl)) (QOp.loadAt 1 rfl rfl rfl (tok _ rfl) rfl (by assumption))) ?_) | (refine DAny.ld 13 rfl rfl (by kernel_rfl) rfl (.does _ _ rfl (by first | (exact .none rfl) | (exact .yes _ _ _ rfl rfl rfl)) (QOp.loadAt 2 rfl rfl rfl (tok _ rfl) rfl (by assumption))) ?_) | (refine DAny.ld 13 rfl rfl (by kernel_rfl) rfl (.does _ _ rfl (by first | (exact .none rfl) | (exact .yes _ _ _ rfl rfl rfl)) (QOp.loadAt 3 rfl rfl rfl (tok _ rfl) rfl (by assumption))) ?_) | (refine DAny.ld 13 rfl rfl (by kernel_rfl) rfl (.does _ _ rfl (by first | (exact .none rfl) | (exact .yes _ _ _ rfl rfl rfl)) (QOp.loadAt 4 rfl rfl rfl (tok _ rfl) rfl (by assumption))) ?_) | (refine DAny.ld 13 rfl rfl (by kernel_rfl) rfl (.does _ _ rfl (by first | (exact .none rfl) | (exact .yes _ _ _ rfl rfl rfl)) (QOp.loadAt 5 rfl rfl rfl (tok _ rfl) rfl (by assumption))) ?_) | (refine DAny.ld 13 rfl rfl (by kernel_rfl) rfl (.does _ _ rfl (by first | (exact .none rfl) | (exact .yes _ _ _ rfl rfl rfl)) (QOp.loadAt 6 rfl rfl rfl (tok _ rfl) rfl (by assumption))) ?_) | (refine DAny.ld 13 rfl rfl (by kernel_rfl) rfl (.does _ _ rfl (by first | (exact .none rfl) | (exact .yes _ _ _ rfl rfl rfl)) (QOp.loadAt 7 rfl rfl rfl (tok _ rfl) rfl (by assumption))) ?_) | (refine DAny.qu 13 rfl rfl (by kernel_rfl) rfl (fun _ => .passed _ rfl (.no _ _ _ rfl rfl rfl rfl)) ?_)
      first | (refine DAny.qu 14 rfl rfl (by kernel_rfl) rfl (fun _ => .does _ _ rfl (by first | (exact .none rfl) | (exact .yes _ _ _ rfl rfl rfl)) (QOp.lenI rfl rfl (tok _ rfl) rfl)) ?_) | (refine DAny.qu 14 rfl rfl (by kernel_rfl) rfl (fun _ => .does _ _ rfl (by first | (exact .none rfl) | (exact .yes _ _ _ rfl rfl rfl)) (QOp.lenM rfl rfl (tok _ rfl) rfl)) ?_) | (refine DAny.qu 14 rfl rfl (by kernel_rfl) rfl (fun _ => .does _ _ rfl (by first | (exact .none rfl) | (exact .yes _ _ _ rfl rfl rfl)) (QOp.lenS rfl rfl (tok _ rfl) rfl)) ?_) | (refine DAny.qu 14 rfl rfl (by kernel_rfl) rfl (fun _ => .does _ _ rfl (by first | (exact .none rfl) | (exact .yes _ _ _ rfl rfl rfl)) (QOp.lenN rfl rfl (tok _ rfl) rfl)) ?_) | (refine DAny.qu 14 rfl rfl (by kernel_rfl) rfl (fun _ => .passed _ rfl (.no _ _ _ rfl rfl rfl rfl)) ?_)
      first | (refine DAny.qu 15 rfl rfl (by kernel_rfl) rfl (fun _ => .does _ _ rfl (by first | (exact .none rfl) | (exact .yes _ _ _ rfl rfl rfl)) (QOp.cmp rfl rfl rfl rfl)) ?_) | (refine DAny.qu 15 rfl rfl (by kernel_rfl) rfl (fun _ => .passed _ rfl (.no _ _ _ rfl rfl rfl rfl)) ?_)
      first | (refine DAny.qu 16 rfl rfl (by kernel_rfl) rfl (fun _ => .does _ _ rfl (.none rfl) (QOp.pickT rfl rfl rfl)) ?_) | (refine DAny.qu 16 rfl rfl (by kernel_rfl) rfl (fun _ => .does _ _ rfl (.none rfl) (QOp.pickF rfl rfl rfl)) ?_)
      refine DAny.ef 19 rfl (by kernel_rfl) (.none rfl) rfl rfl (AOp.callP 0 rfl (by kernel_rfl) rfl rfl rfl (cneed_ok _ e.fr e.to 8) ?_ ?_)
      rotate_left
      · (rintro _ _ (⟨⟩ | ⟨hbad⟩); simp only [AExit.then, AExit.inBlock]; exact bodyQ_pan 0 rfl (hno (by rw [hb3, ← hel, ← hps, Bool.true_and]; exact hbad)))
      rintro _ _ ⟨hok2⟩
      refine ⟨(by repeat (first | (exact AllQ.nil) | (refine AllQ.cons (.does _ _ rfl (by first | (exact .none rfl) | (exact .yes _ _ _ rfl rfl rfl)) (QOp.loadM 0 rfl rfl rfl (tok _ rfl) rfl)) ?_) | (refine AllQ.cons (.does _ _ rfl (by first | (exact .none rfl) | (exact .yes _ _ _ rfl rfl rfl)) (QOp.loadM 1 rfl rfl rfl (tok _ rfl) rfl)) ?_) | (refine AllQ.cons (.does _ _ rfl (by first | (exact .none rfl) | (exact .yes _ _ _ rfl rfl rfl)) (QOp.loadM 2 rfl rfl rfl (tok _ rfl) rfl)) ?_) | (refine AllQ.cons (.does _ _ rfl (by first | (exact .none rfl) | (exact .yes _ _ _ rfl rfl rfl)) (QOp.loadM 3 rfl rfl rfl (tok _ rfl) rfl)) ?_) | (refine AllQ.cons (.does _ _ rfl (by first | (exact .none rfl) | (exact .yes _ _ _ rfl rfl rfl)) (QOp.loadM 4 rfl rfl rfl (tok _ rfl) rfl)) ?_) | (refine AllQ.cons (.does _ _ rfl (by first | (exact .none rfl) | (exact .yes _ _ _ rfl rfl rfl)) (QOp.loadM 5 rfl rfl rfl (tok _ rfl) rfl)) ?_) | (refine AllQ.cons (.does _ _ rfl (by first | (exact .none rfl) | (exact .yes _ _ _ rfl rfl rfl)) (QOp.loadM 6 rfl rfl rfl (tok _ rfl) rfl)) ?_) | (refine AllQ.cons (.does _ _ rfl (by first | (exact .none rfl) | (exact .yes _ _ _ rfl rfl rfl)) (QOp.loadM 7 rfl rfl rfl (tok _ rfl) rfl)) ?_) | (refine AllQ.cons (.does _ _ rfl (by first | (exact .none rfl) | (exact .yes _ _ _ rfl rfl rfl)) (QOp.loadM 8 rfl rfl rfl (tok _ rfl) rfl)) ?_) | (refine AllQ.cons (.does _ _ rfl (by first | (exact .none rfl) | (exact .yes _ _ _ rfl rfl rfl)) (QOp.loadM 9 rfl rfl rfl (tok _ rfl) rfl)) ?_) | (refine AllQ.cons (.does _ _ rfl (by first | (exact .none rfl) | (exact .yes _ _ _ rfl rfl rfl)) (QOp.loadM 10 rfl rfl rfl (tok _ rfl) rfl)) ?_) | (refine AllQ.cons (.does _ _ rfl (by first | (exact .none rfl) | (exact .yes _ _ _ rfl rfl rfl)) (QOp.loadM 11 rfl rfl rfl (tok _ rfl) rfl)) ?_) | (refine AllQ.cons (.does _ _ rfl (by first | (exact .none rfl) | (exact .yes _ _ _ rfl rfl rfl)) (QOp.loadM 12 rfl rfl rfl (tok _ rfl) rfl)) ?_) | (refine AllQ.cons (.does _ _ rfl (by first | (exact .none rfl) | (exact .yes _ _ _ rfl rfl rfl)) (QOp.loadM 13 rfl rfl rfl (tok _ rfl) rfl)) ?_) | (refine AllQ.cons (.does _ _ rfl (by first | (exact .none rfl) | (exact .yes _ _ _ rfl rfl rfl)) (QOp.loadM 14 rfl rfl rfl (tok _ rfl) rfl)) ?_) | (refine AllQ.cons (.does _ _ rfl (by first | (exact .none rfl) | (exact .yes _ _ _ rfl rfl rfl)) (QOp.loadM 15 rfl rfl rfl (tok _ rfl) rfl)) ?_) | (refine AllQ.cons (.does _ _ rfl (by first | (exact .none rfl) | (exact .yes _ _ _ rfl rfl rfl)) (QOp.loadAt 0 rfl rfl rfl (tok _ rfl) rfl (by assumption))) ?_) | (refine AllQ.cons (.does _ _ rfl (by first | (exact .none rfl) | (exact .yes _ _ _ rfl rfl rfl)) (QOp.loadAt 1 rfl rfl rfl (tok _ rfl) rfl (by assumption))) ?_) | (refine AllQ.cons (.does _ _ rfl (by first | (exact .none rfl) | (exact .yes _ _ _ rfl rfl rfl)) (QOp.loadAt 2 rfl rfl rfl (tok _ rfl) rfl (by assumption))) ?_) | (refine AllQ.cons (.does _ _ rfl (by first | (exact .none rfl) | (exact .yes _ _ _ rfl rfl rfl)) (QOp.loadAt 3 rfl rfl rfl (tok _ rfl) rfl (by assumption))) ?_) | (refine AllQ.cons (.does _ _ rfl (by first | (exact .none rfl) | (exact .yes _ _ _ rfl rfl rfl)) (QOp.loadAt 4 rfl rfl rfl (tok _ rfl) rfl (by assumption))) ?_) | (refine AllQ.cons (.does _ _ rfl (by first | (exact .none rfl) | (exact .yes _ _ _ rfl rfl rfl)) (QOp.loadAt 5 rfl rfl rfl (tok _ rfl) rfl (by assumption))) ?_) | (refine AllQ.cons (.does _ _ rfl (by first | (exact .none rfl) | (exact .yes _ _ _ rfl rfl rfl)) (QOp.loadAt 6 rfl rfl rfl (tok _ rfl) rfl (by assumption))) ?_) | (refine AllQ.cons (.does _ _ rfl (by first | (exact .none rfl) | (exact .yes _ _ _ rfl rfl rfl)) (QOp.loadAt 7 rfl rfl rfl (tok _ rfl) rfl (by assumption))) ?_))), ?_⟩
      refine DAny.done (by kernel_rfl) ?_
      repeat (first | (refine ACode.seq ?_) | (refine ACode.region ?_) | (refine ACode.ret ?_) | (refine ACode.skip ?_) | (refine ACode.exit ?_) | (refine ACode.block ?_) | (refine AExit.then_normal ?_) | (refine AExit.then_ret ?_) | (refine AExit.then_exit ?_) | (refine AExit.in_normal ?_) | (refine AExit.in_ret ?_) | (refine AExit.in_same ?_) | (refine AExit.in_other rfl ?_) | (refine ASeq.nil ?_))
      refine ASeq.q rfl rfl (QOp.move rfl rfl) ?_
      first | (refine ASeq.q rfl rfl (QOp.nilCheckM rfl rfl) ?_) | (refine ASeq.q rfl rfl (QOp.nilCheckI rfl rfl) ?_)
      first | (refine ASeq.q rfl rfl (QOp.fieldM rfl rfl (tok _ rfl) rfl rfl (by decide) rfl) ?_) | (refine ASeq.q rfl rfl (QOp.fieldI rfl rfl (tok _ rfl) rfl rfl (by decide) rfl) ?_)
      first | (refine ASeq.q rfl rfl (QOp.fieldM rfl rfl (tok _ rfl) rfl rfl (by decide) rfl) ?_) | (refine ASeq.q rfl rfl (QOp.fieldI rfl rfl (tok _ rfl) rfl rfl (by decide) rfl) ?_)
      first | (refine ASeq.q rfl rfl (QOp.loadI rfl rfl (tok _ rfl) rfl) ?_) | (refine ASeq.q rfl rfl (QOp.loadM 0 rfl rfl rfl (tok _ rfl) rfl) ?_) | (refine ASeq.q rfl rfl (QOp.loadM 1 rfl rfl rfl (tok _ rfl) rfl) ?_) | (refine ASeq.q rfl rfl (QOp.loadM 2 rfl rfl rfl (tok _ rfl) rfl) ?_) | (refine ASeq.q rfl rfl (QOp.loadM 3 rfl rfl rfl (tok _ rfl) rfl) ?_) | (refine ASeq.q rfl rfl (QOp.loadM 4 rfl rfl rfl (tok _ rfl) rfl) ?_) | (refine ASeq.q rfl rfl (QOp.loadM 5 rfl rfl rfl (tok _ rfl) rfl) ?_) | (refine ASeq.q rfl rfl (QOp.loadM 6 rfl rfl rfl (tok _ rfl) rfl) ?_) | (refine ASeq.q rfl rfl (QOp.loadM 7 rfl rfl rfl (tok _ rfl) rfl) ?_) | (refine ASeq.q rfl rfl (QOp.loadM 8 rfl rfl rfl (tok _ rfl) rfl) ?_) | (refine ASeq.q rfl rfl (QOp.loadM 9 rfl rfl rfl (tok _ rfl) rfl) ?_) | (refine ASeq.q rfl rfl (QOp.loadM 10 rfl rfl rfl (tok _ rfl) rfl) ?_) | (refine ASeq.q rfl rfl (QOp.loadM 11 rfl rfl rfl (tok _ rfl) rfl) ?_) | (refine ASeq.q rfl rfl (QOp.loadM 12 rfl rfl rfl (tok _ rfl) rfl) ?_) | (refine ASeq.q rfl rfl (QOp.loadM 13 rfl rfl rfl (tok _ rfl) rfl) ?_) | (refine ASeq.q rfl rfl (QOp.loadM 14 rfl rfl rfl (tok _ rfl) rfl) ?_) | (refine ASeq.q rfl rfl (QOp.loadM 15 rfl rfl rfl (tok _ rfl) rfl) ?_) | (refine ASeq.q rfl rfl (QOp.loadAt 0 rfl rfl rfl (tok _ rfl) rfl (by assumption)) ?_) | (refine ASeq.q rfl rfl (QOp.loadAt 1 rfl rfl rfl (tok _ rfl) rfl (by assumption)) ?_) | (refine ASeq.q rfl rfl (QOp.loadAt 2 rfl rfl rfl (tok _ rfl) rfl (by assumption)) ?_) | (refine ASeq.q rfl rfl (QOp.loadAt 3 rfl rfl rfl (tok _ rfl) rfl (by assumption)) ?_) | (refine ASeq.q rfl rfl (QOp.loadAt 4 rfl rfl rfl (tok _ rfl) rfl (by assumption)) ?_) | (refine ASeq.q rfl rfl (QOp.loadAt 5 rfl rfl rfl (tok _ rfl) rfl (by assumption)) ?_) | (refine ASeq.q rfl rfl (QOp.loadAt 6 rfl rfl rfl (tok _ rfl) rfl (by assumption)) ?_) | (refine ASeq.q rfl rfl (QOp.loadAt 7 rfl rfl rfl (tok _ rfl) rfl (by assumption)) ?_)
      refine ASeq.q rfl rfl (QOp.move rfl rfl) ?_
      first | (refine ASeq.q rfl rfl (QOp.indexI rfl rfl rfl (tok _ rfl) rfl (tok _ rfl) (by first | (decide) | (omega)) (by first | (rfl) | (assumption))) ?_) | (refine ASeq.q rfl rfl (QOp.indexM rfl rfl rfl (tok _ rfl) rfl (tok _ rfl) (by first | (decide) | (omega)) (by first | (decide) | (omega)) rfl) ?_) | (refine ASeq.q rfl rfl (QOp.indexArr rfl rfl rfl (tok _ rfl) rfl (tok _ rfl) (by decide) (by decide) rfl) ?_)
      first | (refine ASeq.q rfl rfl (QOp.fieldM rfl rfl (tok _ rfl) rfl rfl (by decide) rfl) ?_) | (refine ASeq.q rfl rfl (QOp.fieldI rfl rfl (tok _ rfl) rfl rfl (by decide) rfl) ?_)
      first | (refine ASeq.q rfl rfl (QOp.loadI rfl rfl (tok _ rfl) rfl) ?_) | (refine ASeq.q rfl rfl (QOp.loadM 0 rfl rfl rfl (tok _ rfl) rfl) ?_) | (refine ASeq.q rfl rfl (QOp.loadM 1 rfl rfl rfl (tok _ rfl) rfl) ?_) | (refine ASeq.q rfl rfl (QOp.loadM 2 rfl rfl rfl (tok _ rfl) rfl) ?_) | (refine ASeq.q rfl rfl (QOp.loadM 3 rfl rfl rfl (tok _ rfl) rfl) ?_) | (refine ASeq.q rfl rfl (QOp.loadM 4 rfl rfl rfl (tok _ rfl) rfl) ?_) | (refine ASeq.q rfl rfl (QOp.loadM 5 rfl rfl rfl (tok _ rfl) rfl) ?_) | (refine ASeq.q rfl rfl (QOp.loadM 6 rfl rfl rfl (tok _ rfl) rfl) ?_) | (refine ASeq.q rfl rfl (QOp.loadM 7 rfl rfl rfl (tok _ rfl) rfl) ?_) | (refine ASeq.q rfl rfl (QOp.loadM 8 rfl rfl rfl (tok _ rfl) rfl) ?_) | (refine ASeq.q rfl rfl (QOp.loadM 9 rfl rfl rfl (tok _ rfl) rfl) ?_) | (refine ASeq.q rfl rfl (QOp.loadM 10 rfl rfl rfl (tok _ rfl) rfl) ?_) | (refine ASeq.q rfl rfl (QOp.loadM 11 rfl rfl rfl (tok _ rfl) rfl) ?_) | (refine ASeq.q rfl rfl (QOp.loadM 12 rfl rfl rfl (tok _ rfl) rfl) ?_) | (refine ASeq.q rfl rfl (QOp.loadM 13 rfl rfl rfl (tok _ rfl) rfl) ?_) | (refine ASeq.q rfl rfl (QOp.loadM 14 rfl rfl rfl (tok _ rfl) rfl) ?_) | (refine ASeq.q rfl rfl (QOp.loadM 15 rfl rfl rfl (tok _ rfl) rfl) ?_) | (refine ASeq.q rfl rfl (QOp.loadAt 0 rfl rfl rfl (tok _ rfl) rfl (by assumption)) ?_) | (refine ASeq.q rfl rfl (QOp.loadAt 1 rfl rfl rfl (tok _ rfl) rfl (by assumption)) ?_) | (refine ASeq.q rfl rfl (QOp.loadAt 2 rfl rfl rfl (tok _ rfl) rfl (by assumption)) ?_) | (refine ASeq.q rfl rfl (QOp.loadAt 3 rfl rfl rfl (tok _ rfl) rfl (by assumption)) ?_) | (refine ASeq.q rfl rfl (QOp.loadAt 4 rfl rfl rfl (tok _ rfl) rfl (by assumption)) ?_) | (refine ASeq.q rfl rfl (QOp.loadAt 5 rfl rfl rfl (tok _ rfl) rfl (by assumption)) ?_) | (refine ASeq.q rfl rfl (QOp.loadAt 6 rfl rfl rfl (tok _ rfl) rfl (by assumption)) ?_) | (refine ASeq.q rfl rfl (QOp.loadAt 7 rfl rfl rfl (tok _ rfl) rfl (by assumption)) ?_)
      refine ASeq.q rfl rfl (QOp.assign rfl rfl) ?_
      refine ASeq.nil ?_
      repeat (first | (refine ACode.seq ?_) | (refine ACode.region ?_) | (refine ACode.ret ?_) | (refine ACode.skip ?_) | (refine ACode.exit ?_) | (refine ACode.block ?_) | (refine AExit.then_normal ?_) | (refine AExit.then_ret ?_) | (refine AExit.then_exit ?_) | (refine AExit.in_normal ?_) | (refine AExit.in_ret ?_) | (refine AExit.in_same ?_) | (refine AExit.in_other rfl ?_) | (refine ASeq.nil ?_))
      refine bodyQ_ret 9 (.tmp rfl .nil) rfl ?_
      exact hyes (by rw [hb3, ← hel, ← hps, Bool.true_and]; exact hok2)
    · first | (refine DAny.qu 2 rfl rfl (by kernel_rfl) rfl (fun _ => .does _ _ rfl (by first | (exact .none rfl) | (exact .yes _ _ _ rfl rfl rfl)) (QOp.fieldM rfl rfl (tok _ rfl) rfl rfl (by decide) rfl)) ?_) | (refine DAny.qu 2 rfl rfl (by kernel_rfl) rfl (fun _ => .does _ _ rfl (by first | (exact .none rfl) | (exact .yes _ _ _ rfl rfl rfl)) (QOp.fieldI rfl rfl (tok _ rfl) rfl rfl (by decide) rfl)) ?_) | (refine DAny.qu 2 rfl rfl (by kernel_rfl) rfl (fun _ => .passed _ rfl (.no _ _ _ rfl rfl rfl rfl)) ?_)
      first | (refine DAny.qu 3 rfl rfl (by kernel_rfl) rfl (fun _ => .does _ _ rfl (by first | (exact .none rfl) | (exact .yes _ _ _ rfl rfl rfl)) (QOp.loadI rfl rfl (tok _ rfl) rfl)) ?_) | (refine DAny.ld 3 rfl rfl (by kernel_rfl) rfl (.does _ _ rfl (by first | (exact .none rfl) | (exact .yes _ _ _ rfl rfl rfl)) (QOp.loadM 0 rfl rfl rfl (tok _ rfl) rfl)) ?_) | (refine DAny.ld 3 rfl rfl (by kernel_rfl) rfl (.does _ _ rfl (by first | (exact .none rfl) | (exact .yes _ _ _ rfl rfl rfl)) (QOp.loadM 1 rfl rfl rfl (tok _ rfl) rfl)) ?_) | (refine DAny.ld 3 rfl rfl (by kernel_rfl) rfl (.does _ _ rfl (by first | (exact .none rfl) | (exact .yes _ _ _ rfl rfl rfl)) (QOp.loadM 2 rfl rfl rfl (tok _ rfl) rfl)) ?_) | (refine DAny.ld 3 rfl rfl (by kernel_rfl) rfl (.does _ _ rfl (by first | (exact .none rfl) | (exact .yes _ _ _ rfl rfl rfl)) (QOp.loadM 3 rfl rfl rfl (tok _ rfl) rfl)) ?_) | (refine DAny.ld 3 rfl rfl (by kernel_rfl) rfl (.does _ _ rfl (by first | (exact .none rfl) | (exact .yes _ _ _ rfl rfl rfl)) (QOp.loadM 4 rfl rfl rfl (tok _ rfl) rfl)) ?_) | (refine DAny.ld 3 rfl rfl (by kernel_rfl) rfl (.does _ _ rfl (by first | (exact .none rfl) | (exact .yes _ _ _ rfl rfl rfl)) (QOp.loadM 5 rfl rfl rfl (tok _ rfl) rfl)) ?_) | (refine DAny.ld 3 rfl rfl (by kernel_rfl) rfl (.does _ _ rfl (by first | (exact .none rfl) | (exact .yes _ _ _ rfl rfl rfl)) (QOp.loadM 6 rfl rfl rfl (tok _ rfl) rfl)) ?_) | (refine DAny.ld 3 rfl rfl (by kernel_rfl) rfl (.does _ _ rfl (by first | (exact .none rfl) | (exact .yes _ _ _ rfl rfl rfl)) (QOp.loadM 7 rfl rfl rfl (tok _ rfl) rfl)) ?_) | (refine DAny.ld 3 rfl rfl (by kernel_rfl) rfl (.does _ _ rfl (by first | (exact .none rfl) | (exact .yes _ _ _ rfl rfl rfl)) (QOp.loadM 8 rfl rfl rfl (tok _ rfl) rfl)) ?_) | (refine DAny.ld 3 rfl rfl (by kernel_rfl) rfl (.does _ _ rfl (by first | (exact .none rfl) | (exact .yes _ _ _ rfl rfl rfl)) (QOp.loadM 9 rfl rfl rfl (tok _ rfl) rfl)) ?_) | (refine DAny.ld 3 rfl rfl (by kernel_rfl) rfl (.does _ _ rfl (by first | (exact .none rfl) | (exact .yes _ _ _ rfl rfl rfl)) (QOp.loadM 10 rfl rfl rfl (tok _ rfl) rfl)) ?_) | (refine DAny.ld 3 rfl rfl (by kernel_rfl) rfl (.does _ _ rfl (by first | (exact .none rfl) | (exact .yes _ _ _ rfl rfl rfl)) (QOp.loadM 11 rfl rfl rfl (tok _ rfl) rfl)) ?_) | (refine DAny.ld 3 rfl rfl (by kernel_rfl) rfl (.does _ _ rfl (by first | (exact .none rfl) | (exact .yes _ _ _ rfl rfl rfl)) (QOp.loadM 12 rfl rfl rfl (tok _ rfl) rfl)) ?_) | (refine DAny.ld 3 rfl rfl (by kernel_rfl) rfl (.does _ _ rfl (by first | (exact .none rfl) | (exact .yes _ _ _ rfl rfl rfl)) (QOp.loadM 13 rfl rfl rfl (tok _ rfl) rfl)) ?_) | (refine DAny.ld 3 rfl rfl (by kernel_rfl) rfl (.does _ _ rfl (by first | (exact .none rfl) | (exact .yes _ _ _ rfl rfl rfl)) (QOp.loadM 14 rfl rfl rfl (tok _ rfl) rfl)) ?_) | (refine DAny.ld 3 rfl rfl (by kernel_rfl) rfl (.does _ _ rfl (by first | (exact .none rfl) | (exact .yes _ _ _ rfl rfl rfl)) (QOp.loadM 15 rfl rfl rfl (tok _ rfl) rfl)) ?_) | (refine DAny.ld 3 rfl rfl (by kernel_rfl) rfl (.does _ _ rfl (by first | (exact .none rfl) | (exact .yes _ _ _ rfl rfl rfl)) (QOp.loadAt 0 rfl rfl rfl (tok _ rfl) rfl (by assumption))) ?_) | (refine DAny.ld 3 rfl rfl (by kernel_rfl) rfl (.does _ _ rfl (by first | (exact .none rfl) | (exact .yes _ _ _ rfl rfl rfl)) (QOp.loadAt 1 rfl rfl rfl (tok _ rfl) rfl (by assumption))) ?_) | (refine DAny.ld 3 rfl rfl (by kernel_rfl) rfl (.does _ _ rfl (by first | (exact .none rfl) | (exact .yes _ _ _ rfl rfl rfl)) (QOp.loadAt 2 rfl rfl rfl (tok _ rfl) rfl (by assumption))) ?_) | (refine DAny.ld 3 rfl rfl (by kernel_rfl) rfl (.does _ _ rfl (by first | (exact .none rfl) | (exact .yes _ _ _ rfl rfl rfl)) (QOp.loadAt 3 rfl rfl rfl (tok _ rfl) rfl (by assumption))) ?_) | (refine DAny.ld 3 rfl rfl (by kernel_rfl) rfl (.does _ _ rfl (by first | (exact .none rfl) | (exact .yes _ _ _ rfl rfl rfl)) (QOp.loadAt 4 rfl rfl rfl (tok _ rfl) rfl (by assumption))) ?_) | (refine DAny.ld 3 rfl rfl (by kernel_rfl) rfl (.does _ _ rfl (by first | (exact .none rfl) | (exact .yes _ _ _ rfl rfl rfl)) (QOp.loadAt 5 rfl rfl rfl (tok _ rfl) rfl (by assumption))) ?_) | (refine DAny.ld 3 rfl rfl (by kernel_rfl) rfl (.does _ _ rfl (by first | (exact .none rfl) | (exact .yes _ _ _ rfl rfl rfl)) (QOp.loadAt 6 rfl rfl rfl (tok _ rfl) rfl (by assumption))) ?_) | (refine DAny.ld 3 rfl rfl (by kernel_rfl) rfl (.does _ _ rfl (by first | (exact .none rfl) | (exact .yes _ _ _ rfl rfl rfl)) (QOp.loadAt 7 rfl rfl rfl (tok _ rfl) rfl (by assumption))) ?_) | (refine DAny.qu 3 rfl rfl (by kernel_rfl) rfl (fun _ => .passed _ rfl (.no _ _ _ rfl rfl rfl rfl)) ?_)
      first | (refine DAny.qu 4 rfl rfl (by kernel_rfl) rfl (fun _ => .does _ _ rfl (by first | (exact .none rfl) | (exact .yes _ _ _ rfl rfl rfl)) (QOp.lenI rfl rfl (tok _ rfl) rfl)) ?_) | (refine DAny.qu 4 rfl rfl (by kernel_rfl) rfl (fun _ => .does _ _ rfl (by first | (exact .none rfl) | (exact .yes _ _ _ rfl rfl rfl)) (QOp.lenM rfl rfl (tok _ rfl) rfl)) ?_) | (refine DAny.qu 4 rfl rfl (by kernel_rfl) rfl (fun _ => .does _ _ rfl (by first | (exact .none rfl) | (exact .yes _ _ _ rfl rfl rfl)) (QOp.lenS rfl rfl (tok _ rfl) rfl)) ?_) | (refine DAny.qu 4 rfl rfl (by kernel_rfl) rfl (fun _ => .does _ _ rfl (by first | (exact .none rfl) | (exact .yes _ _ _ rfl rfl rfl)) (QOp.lenN rfl rfl (tok _ rfl) rfl)) ?_) | (refine DAny.qu 4 rfl rfl (by kernel_rfl) rfl (fun _ => .passed _ rfl (.no _ _ _ rfl rfl rfl rfl)) ?_)
      first | (refine DAny.qu 5 rfl rfl (by kernel_rfl) rfl (fun _ => .does _ _ rfl (by first | (exact .none rfl) | (exact .yes _ _ _ rfl rfl rfl)) (QOp.move rfl rfl)) ?_) | (refine DAny.qu 5 rfl rfl (by kernel_rfl) rfl (fun _ => .passed _ rfl (.no _ _ _ rfl rfl rfl rfl)) ?_)
      first | (refine DAny.qu 6 rfl rfl (by kernel_rfl) rfl (fun _ => .does _ _ rfl (by first | (exact .none rfl) | (exact .yes _ _ _ rfl rfl rfl)) (QOp.nilCheckM rfl rfl)) ?_) | (refine DAny.qu 6 rfl rfl (by kernel_rfl) rfl (fun _ => .does _ _ rfl (by first | (exact .none rfl) | (exact .yes _ _ _ rfl rfl rfl)) (QOp.nilCheckI rfl rfl)) ?_) | (refine DAny.qu 6 rfl rfl (by kernel_rfl) rfl (fun _ => .passed _ rfl (.no _ _ _ rfl rfl rfl rfl)) ?_)
      first | (refine DAny.qu 7 rfl rfl (by kernel_rfl) rfl (fun _ => .does _ _ rfl (by first | (exact .none rfl) | (exact .yes _ _ _ rfl rfl rfl)) (QOp.fieldM rfl rfl (tok _ rfl) rfl rfl (by decide) rfl)) ?_) | (refine DAny.qu 7 rfl rfl (by kernel_rfl) rfl (fun _ => .does _ _ rfl (by first | (exact .none rfl) | (exact .yes _ _ _ rfl rfl rfl)) (QOp.fieldI rfl rfl (tok _ rfl) rfl rfl (by decide) rfl)) ?_) | (refine DAny.qu 7 rfl rfl (by kernel_rfl) rfl (fun _ => .passed _ rfl (.no _ _ _ rfl rfl rfl rfl)) ?_)
      first | (refine DAny.qu 8 rfl rfl (by kernel_rfl) rfl (fun _ => .does _ _ rfl (by first | (exact .none rfl) | (exact .yes _ _ _ rfl rfl rfl)) (QOp.fieldM rfl rfl (tok _ rfl) rfl rfl (by decide) rfl)) ?_) | (refine DAny.qu 8 rfl rfl (by kernel_rfl) rfl (fun _ => .does _ _ rfl (by first | (exact .none rfl) | (exact .yes _ _ _ rfl rfl rfl)) (QOp.fieldI rfl rfl (tok _ rfl) rfl rfl (by decide) rfl)) ?_) | (refine DAny.qu 8 rfl rfl (by kernel_rfl) rfl (fun _ => .passed _ rfl (.no _ _ _ rfl rfl rfl rfl)) ?_)
      first | (refine DAny.qu 9 rfl rfl (by kernel_rfl) rfl (fun _ => .does _ _ rfl (by first | (exact .none rfl) | (exact .yes _ _ _ rfl rfl rfl)) (QOp.loadI rfl rfl (tok _ rfl) rfl)) ?_) | (refine DAny.ld 9 rfl rfl (by kernel_rfl) rfl (.does _ _ rfl (by first | (exact .none rfl) | (exact .yes _ _ _ rfl rfl rfl)) (QOp.loadM 0 rfl rfl rfl (tok _ rfl) rfl)) ?_) | (refine DAny.ld 9 rfl rfl (by kernel_rfl) rfl (.does _ _ rfl (by first | (exact .none rfl) | (exact .yes _ _ _ rfl rfl rfl)) (QOp.loadM 1 rfl rfl rfl (tok _ rfl) rfl)) ?_) | (refine DAny.ld 9 rfl rfl (by kernel_rfl) rfl (.does _ _ rfl (by first | (exact .none rfl) | (exact .yes _ _ _ rfl rfl rfl)) (QOp.loadM 2 rfl rfl rfl (tok _ rfl) rfl)) ?_) | (refine DAny.ld 9 rfl rfl (by kernel_rfl) rfl (.does _ _ rfl (by first | (exact .none rfl) | (exact .yes _ _ _ rfl rfl rfl)) (QOp.loadM 3 rfl rfl rfl (tok _ rfl) rfl)) ?_) | (refine DAny.ld 9 rfl rfl (by kernel_rfl) rfl (.does _ _ rfl (by first | (exact .none rfl) | (exact .yes _ _ _ rfl rfl rfl)) (QOp.loadM 4 rfl rfl rfl (tok _ rfl) rfl)) ?_) | (refine DAny.ld 9 rfl rfl (by kernel_rfl) rfl (.does _ _ rfl (by first | (exact .none rfl) | (exact .yes _ _ _ rfl rfl rfl)) (QOp.loadM 5 rfl rfl rfl (tok _ rfl) rfl)) ?_) | (refine DAny.ld 9 rfl rfl (by kernel_rfl) rfl (.does _ _ rfl (by first | (exact .none rfl) | (exact .yes _ _ _ rfl rfl rfl)) (QOp.loadM 6 rfl rfl rfl (tok _ rfl) rfl)) ?_) | (refine DAny.ld 9 rfl rfl (by kernel_rfl) rfl (.does _ _ rfl (by first | (exact .none rfl) | (exact .yes _ _ _ rfl rfl rfl)) (QOp.loadM 7 rfl rfl rfl (tok _ rfl) rfl)) ?_) | (refine DAny.ld 9 rfl rfl (by kernel_rfl) rfl (.does _ _ rfl (by first | (exact .none rfl) | (exact .yes _ _ _ rfl rfl rfl)) (QOp.loadM 8 rfl rfl rfl (tok _ rfl) rfl)) ?_) | (refine DAny.ld 9 rfl rfl (by kernel_rfl) rfl (.does _ _ rfl (by first | (exact .none rfl) | (exact .yes _ _ _ rfl rfl rfl)) (QOp.loadM 9 rfl rfl rfl (tok _ rfl) rfl)) ?_) | (refine DAny.ld 9 rfl rfl (by kernel_rfl) rfl (.does _ _ rfl (by first | (exact .none rfl) | (exact .yes _ _ _ rfl rfl rfl)) (QOp.loadM 10 rfl rfl rfl (tok _ rfl) rfl)) ?_) | (refine DAny.ld 9 rfl rfl (by kernel_rfl) rfl (.does _ _ rfl (by first | (exact .none rfl) | (exact .yes _ _ _ rfl rfl rfl)) (QOp.loadM 11 rfl rfl rfl (tok _ rfl) rfl)) ?_) | (refine DAny.ld 9 rfl rfl (by kernel_rfl) rfl (.does _ _ rfl (by first | (exact .none rfl) | (exact .yes _ _ _ rfl rfl rfl)) (QOp.loadM 12 rfl rfl rfl (tok _ rfl) rfl)) ?_) | (refine DAny.ld 9 rfl rfl (by kernel_rfl) rfl (.does _ _ rfl (by first | (exact .none rfl) | (exact .yes _ _ _ rfl rfl rfl)) (QOp.loadM 13 rfl rfl rfl (tok _ rfl) rfl)) ?_) | (refine DAny.ld 9 rfl rfl (by kernel_rfl) rfl (.does _ _ rfl (by first | (exact .none rfl) | (exact .yes _ _ _ rfl rfl rfl)) (QOp.loadM 14 rfl rfl rfl (tok _ rfl) rfl)) ?_) | (refine DAny.ld 9 rfl rfl (by kernel_rfl) rfl (.does _ _ rfl (by first | (exact .none rfl) | (exact .yes _ _ _ rfl rfl rfl)) (QOp.loadM 15 rfl rfl rfl (tok _ rfl) rfl)) ?_) | (refine DAny.ld 9 rfl rfl (by kernel_rfl) rfl (.does _ _ rfl (by first | (exact .none rfl) | (exact .yes _ _ _ rfl rfl rfl)) (QOp.loadAt 0 rfl rfl rfl (tok _ rfl) rfl (by assumption))) ?_) | (refine DAny.ld 9 rfl rfl (by kernel_rfl) rfl (.does _ _ rfl (by first | (exact .none rfl) | (exact .yes _ _ _ rfl rfl rfl)) (QOp.loadAt 1 rfl rfl rfl (tok _ rfl) rfl (by assumption))) ?_) | (refine DAny.ld 9 rfl rfl (by kernel_rfl) rfl (.does _ _ rfl (by first | (exact .none rfl) | (exact .yes _ _ _ rfl rfl rfl)) (QOp.loadAt 2 rfl rfl rfl (tok _ rfl) rfl (by assumption))) ?_) | (refine DAny.ld 9 rfl rfl (by kernel_rfl) rfl (.does _ _ rfl (by first | (exact .none rfl) | (exact .yes _ _ _ rfl rfl rfl)) (QOp.loadAt 3 rfl rfl rfl (tok _ rfl) rfl (by assumption))) ?_) | (refine DAny.ld 9 rfl rfl (by kernel_rfl) rfl (.does _ _ rfl (by first | (exact .none rfl) | (exact .yes _ _ _ rfl rfl rfl)) (QOp.loadAt 4 rfl rfl rfl (tok _ rfl) rfl (by assumption))) ?_) | (refine DAny.ld 9 rfl rfl (by kernel_rfl) rfl (.does _ _ rfl (by first | (exact .none rfl) | (exact .yes _ _ _ rfl rfl rfl)) (QOp.loadAt 5 rfl rfl rfl (tok _ rfl) rfl (by assumption))) ?_) | (refine DAny.ld 9 rfl rfl (by kernel_rfl) rfl (.does _ _ rfl (by first | (exact .none rfl) | (exact .yes _ _ _ rfl rfl rfl)) (QOp.loadAt 6 rfl rfl rfl (tok _ rfl) rfl (by assumption))) ?_) | (refine DAny.ld 9 rfl rfl (by kernel_rfl) rfl (.does _ _ rfl (by first | (exact .none rfl) | (exact .yes _ _ _ rfl rfl rfl)) (QOp.loadAt 7 rfl rfl rfl (tok _ rfl) rfl (by assumption))) ?_) | (refine DAny.qu 9 rfl rfl (by kernel_rfl) rfl (fun _ => .passed _ rfl (.no _ _ _ rfl rfl rfl rfl)) ?_)
      first | (refine DAny.qu 10 rfl rfl (by kernel_rfl) rfl (fun _ => .does _ _ rfl (by first | (exact .none rfl) | (exact .yes _ _ _ rfl rfl rfl)) (QOp.move rfl rfl)) ?_) | (refine DAny.qu 10 rfl rfl (by kernel_rfl) rfl (fun _ => .passed _ rfl (.no _ _ _ rfl rfl rfl rfl)) ?_)
      first | (refine DAny.qu 11 rfl rfl (by kernel_rfl) rfl (fun _ => .does _ _ rfl (by first | (exact .none rfl) | (exact .yes _ _ _ rfl rfl rfl)) (QOp.indexI rfl rfl rfl (tok _ rfl) rfl (tok _ rfl) (by first | (decide) | (omega)) (by first | (rfl) | (assumption)))) ?_) | (refine DAny.qu 11 rfl rfl (by kernel_rfl) rfl (fun _ => .does _ _ rfl (by first | (exact .none rfl) | (exact .yes _ _ _ rfl rfl rfl)) (QOp.indexM rfl rfl rfl (tok _ rfl) rfl (tok _ rfl) (by first | (decide) | (omega)) (by first | (decide) | (omega)) rfl)) ?_) | (refine DAny.qu 11 rfl rfl (by kernel_rfl) rfl (fun _ => .does _ _ rfl (by first | (exact .none rfl) | (exact .yes _ _ _ rfl rfl rfl)) (QOp.indexArr rfl rfl rfl (tok _ rfl) rfl (tok _ rfl) (by decide) (by decide) rfl)) ?_) | (refine DAny.qu 11 rfl rfl (by kernel_rfl) rfl (fun _ => .passed _ rfl (.no _ _ _ rfl rfl rfl rfl)) ?_)
      first | (refine DAny.qu 12 rfl rfl (by kernel_rfl) rfl (fun _ => .does _ _ rfl (by first | (exact .none rfl) | (exact .yes _ _ _ rfl rfl rfl)) (QOp.fieldM rfl rfl (tok _ rfl) rfl rfl (by decide) rfl)) ?_) | (refine DAny.qu 12 rfl rfl (by kernel_rfl) rfl (fun _ => .does _ _ rfl (by first | (exact .none rfl) | (exact .yes _ _ _ rfl rfl rfl)) (QOp.fieldI rfl rfl (tok _ rfl) rfl rfl (by decide) rfl)) ?_) | (refine DAny.qu 12 rfl rfl (by kernel_rfl) rfl (fun _ => .passed _ rfl (.no _ _ _ rfl rfl rfl rfl)) ?_)
      first | (refine DAny.qu 13 rfl rfl (by kernel_rfl) rfl (fun _ => .does _ _ rfl (by first | (exact .none rfl) | (exact .yes _ _ _ rfl rfl rfl)) (QOp.loadI rfl rfl (tok _ rfl) rfl)) ?_) | (refine DAny.ld 13 rfl rfl (by kernel_rfl) rfl (.does _ _ rfl (by first | (exact .none rfl) | (exact .yes _ _ _ rfl rfl rfl)) (QOp.loadM 0 rfl rfl rfl (tok _ rfl) rfl)) ?_) | (refine DAny.ld 13 rfl rfl (by kernel_rfl) rfl (.does _ _ rfl (by first | (exact .none rfl) | (exact .yes _ _ _ rfl rfl rfl)) (QOp.loadM 1 rfl rfl rfl (tok _ rfl) rfl)) ?_) | (refine DAny.ld 13 rfl rfl (by kernel_rfl) rfl (.does _ _ rfl (by first | (exact .none rfl) | (exact .yes _ _ _ rfl rfl rfl)) (QOp.loadM 2 rfl rfl rfl (tok _ rfl) rfl)) ?_) | (refine DAny.ld 13 rfl rfl (by kernel_rfl) rfl (.does _ _ rfl (by first | (exact .none rfl) | (exact .yes _ _ _ rfl rfl rfl)) (QOp.loadM 3 rfl rfl rfl (tok _ rfl) rfl)) ?_) | (refine DAny.ld 13 rfl rfl (by kernel_rfl) rfl (.does _ _ rfl (by first | (exact .none rfl) | (exact .yes _ _ _ rfl rfl rfl)) (QOp.loadM 4 rfl rfl rfl (tok _ rfl) rfl)) ?_) | (refine DAny.ld 13 rfl rfl (by kernel_rfl) rfl (.does _ _ rfl (by first | (exact .none rfl) | (exact .yes _ _ _ rfl rfl rfl)) (QOp.loadM 5 rfl rfl rfl (tok _ rfl) rfl)) ?_) | (refine DAny.ld 13 rfl rfl (by kernel_rfl) rfl (.does _ _ rfl (by first | (exact .none rfl) | (exact .yes _ _ _ rfl rfl rfl)) (QOp.loadM 6 rfl rfl rfl (tok _ rfl) rfl)) ?_) | (refine DAny.ld 13 rfl rfl (by kernel_rfl) rfl (.does _ _ rfl (by first | (exact .none rfl) | (exact .yes _ _ _ rfl rfl rfl)) (QOp.loadM 7 rfl rfl rfl (tok _ rfl) rfl)) ?_) | (refine DAny.ld 13 rfl rfl (by kernel_rfl) rfl (.does _ _ rfl (by first | (exact .none rfl) | (exact .yes _ _ _ rfl rfl rfl)) (QOp.loadM 8 rfl rfl rfl (tok _ rfl) rfl)) ?_) | (refine DAny.ld 13 rfl rfl (by kernel_rfl) rfl (.does _ _ rfl (by first | (exact .none rfl) | (exact .yes _ _ _ rfl rfl rfl)) (QOp.loadM 9 rfl rfl rfl (tok _ rfl) rfl)) ?_) | (refine DAny.ld 13 rfl rfl (by kernel_rfl) rfl (.does _ _ rfl (by first | (exact .none rfl) | (exact .yes _ _ _ rfl rfl rfl)) (QOp.loadM 10 rfl rfl rfl (tok _ rfl) rfl)) ?_) | (refine DAny.ld 13 rfl rfl (by kernel_rfl) rfl (.does _ _ rfl (by first | (exact .none rfl) | (exact .yes _ _ _ rfl rfl rfl)) (QOp.loadM 11 rfl rfl rfl (tok _ rfl) rfl)) ?_) | (refine DAny.ld 13 rfl rfl (by kernel_rfl) rfl (.does _ _ rfl (by first | (exact .none rfl) | (exact .yes _ _ _ rfl rfl rfl)) (QOp.loadM 12 rfl rfl rfl (tok _ rfl) rfl)) ?_) | (refine DAny.ld 13 rfl rfl (by kernel_rfl) rfl (.does _ _ rfl (by first | (exact .none rfl) | (exact .yes _ _ _ rfl rfl rfl)) (QOp.loadM 13 rfl rfl rfl (tok _ rfl) rfl)) ?_) | (refine DAny.ld 13 rfl rfl (by kernel_rfl) rfl (.does _ _ rfl (by first | (exact .none rfl) | (exact .yes _ _ _ rfl rfl rfl)) (QOp.loadM 14 rfl rfl rfl (tok _ rfl) rfl)) ?_) | (refine DAny.ld 13 rfl rfl (by kernel_rfl) rfl (.does _ _ rfl (by first | (exact .none rfl) | (exact .yes _ _ _ rfl rfl rfl)) (QOp.loadM 15 rfl rfl rfl (tok _ rfl) rfl)) ?_) | (refine DAny.ld 13 rfl rfl (by kernel_rfl) rfl (.does _ _ rfl (by first | (exact .none rfl) | (exact .yes _ _ _ rfl rfl rfl)) (QOp.loadAt 0 rfl rfl rfl (tok _ rfl) rfl (by assumption))) ?_) | (refine DAny.ld 13 rfl rfl (by kernel_rfl) rfl (.does _ _ rfl (by first | (exact .none rfl) | (exact .yes _ _ _ rfl rfl rfl)) (QOp.loadAt 1 rfl rfl rfl (tok _ rfl) rfl (by assumption))) ?_) | (refine DAny.ld 13 rfl rfl (by kernel_rfl) rfl (.does _ _ rfl (by first | (exact .none rfl) | (exact .yes _ _ _ rfl rfl rfl)) (QOp.loadAt 2 rfl rfl rfl (tok _ rfl) rfl (by assumption))) ?_) | (refine DAny.ld 13 rfl rfl (by kernel_rfl) rfl (.does _ _ rfl (by first | (exact .none rfl) | (exact .yes _ _ _ rfl rfl rfl)) (QOp.loadAt 3 rfl rfl rfl (tok _ rfl) rfl (by assumption))) ?_) | (refine DAny.ld 13 rfl rfl (by kernel_rfl) rfl (.does _ _ rfl (by first | (exact .none rfl) | (exact .yes _ _ _ rfl rfl rfl)) (QOp.loadAt 4 rfl rfl rfl (tok _ rfl) rfl (by assumption))) ?_) | (refine DAny.ld 13 rfl rfl (by kernel_rfl) rfl (.does _ _ rfl (by first | (exact .none rfl) | (exact .yes _ _ _ rfl rfl rfl)) (QOp.loadAt 5 rfl rfl rfl (tok _ rfl) rfl (by assumption))) ?_) | (refine DAny.ld 13 rfl rfl (by kernel_rfl) rfl (.does _ _ rfl (by first | (exact .none rfl) | (exact .yes _ _ _ rfl rfl rfl)) (QOp.loadAt 6 rfl rfl rfl (tok _ rfl) rfl (by assumption))) ?_) | (refine DAny.ld 13 rfl rfl (by kernel_rfl) rfl (.does _ _ rfl (by first | (exact .none rfl) | (exact .yes _ _ _ rfl rfl rfl)) (QOp.loadAt 7 rfl rfl rfl (tok _ rfl) rfl (by assumption))) ?_) | (refine DAny.qu 13 rfl rfl (by kernel_rfl) rfl (fun _ => .passed _ rfl (.no _ _ _ rfl rfl rfl rfl)) ?_)
      first | (refine DAny.qu 14 rfl rfl (by kernel_rfl) rfl (fun _ => .does _ _ rfl (by first | (exact .none rfl) | (exact .yes _ _ _ rfl rfl rfl)) (QOp.lenI rfl rfl (tok _ rfl) rfl)) ?_) | (refine DAny.qu 14 rfl rfl (by kernel_rfl) rfl (fun _ => .does _ _ rfl (by first | (exact .none rfl) | (exact .yes _ _ _ rfl rfl rfl)) (QOp.lenM rfl rfl (tok _ rfl) rfl)) ?_) | (refine DAny.qu 14 rfl rfl (by kernel_rfl) rfl (fun _ => .does _ _ rfl (by first | (exact .none rfl) | (exact .yes _ _ _ rfl rfl rfl)) (QOp.lenS rfl rfl (tok _ rfl) rfl)) ?_) | (refine DAny.qu 14 rfl rfl (by kernel_rfl) rfl (fun _ => .does _ _ rfl (by first | (exact .none rfl) | (exact .yes _ _ _ rfl rfl rfl)) (QOp.lenN rfl rfl (tok _ rfl) rfl)) ?_) | (refine DAny.qu 14 rfl rfl (by kernel_rfl) rfl (fun _ => .passed _ rfl (.no _ _ _ rfl rfl rfl rfl)) ?_)
      first | (refine DAny.qu 15 rfl rfl (by kernel_rfl) rfl (fun _ => .does _ _ rfl (by first | (exact .none rfl) | (exact .yes _ _ _ rfl rfl rfl)) (QOp.cmp rfl rfl rfl rfl)) ?_) | (refine DAny.qu 15 rfl rfl (by kernel_rfl) rfl (fun _ => .passed _ rfl (.no _ _ _ rfl rfl rfl rfl)) ?_)
      first | (refine DAny.qu 16 rfl rfl (by kernel_rfl) rfl (fun _ => .does _ _ rfl (.none rfl) (QOp.pickT rfl rfl rfl)) ?_) | (refine DAny.qu 16 rfl rfl (by kernel_rfl) rfl (fun _ => .does _ _ rfl (.none rfl) (QOp.pickF rfl rfl rfl)) ?_)
      refine DAny.ef 19 rfl (by kernel_rfl) (.none rfl) rfl rfl (AOp.callP 0 rfl (by kernel_rfl) rfl rfl rfl (cneed_ok false e.fr e.to 8) ?_ ?_)
      rotate_left
      · (rintro _ _ (⟨⟩ | ⟨hbad⟩); simp only [AExit.then, AExit.inBlock]; exact bodyQ_pan 0 rfl (hno (by rw [hb3]; rfl)))
      rintro _ _ ⟨hok2⟩
      refine ⟨(by repeat (first | (exact AllQ.nil) | (refine AllQ.cons (.does _ _ rfl (by first | (exact .none rfl) | (exact .yes _ _ _ rfl rfl rfl)) (QOp.loadM 0 rfl rfl rfl (tok _ rfl) rfl)) ?_) | (refine AllQ.cons (.does _ _ rfl (by first | (exact .none rfl) | (exact .yes _ _ _ rfl rfl rfl)) (QOp.loadM 1 rfl rfl rfl (tok _ rfl) rfl)) ?_) | (refine AllQ.cons (.does _ _ rfl (by first | (exact .none rfl) | (exact .yes _ _ _ rfl rfl rfl)) (QOp.loadM 2 rfl rfl rfl (tok _ rfl) rfl)) ?_) | (refine AllQ.cons (.does _ _ rfl (by first | (exact .none rfl) | (exact .yes _ _ _ rfl rfl rfl)) (QOp.loadM 3 rfl rfl rfl (tok _ rfl) rfl)) ?_) | (refine AllQ.cons (.does _ _ rfl (by first | (exact .none rfl) | (exact .yes _ _ _ rfl rfl rfl)) (QOp.loadM 4 rfl rfl rfl (tok _ rfl) rfl)) ?_) | (refine AllQ.cons (.does _ _ rfl (by first | (exact .none rfl) | (exact .yes _ _ _ rfl rfl rfl)) (QOp.loadM 5 rfl rfl rfl (tok _ rfl) rfl)) ?_) | (refine AllQ.cons (.does _ _ rfl (by first | (exact .none rfl) | (exact .yes _ _ _ rfl rfl rfl)) (QOp.loadM 6 rfl rfl rfl (tok _ rfl) rfl)) ?_) | (refine AllQ.cons (.does _ _ rfl (by first | (exact .none rfl) | (exact .yes _ _ _ rfl rfl rfl)) (QOp.loadM 7 rfl rfl rfl (tok _ rfl) rfl)) ?_) | (refine AllQ.cons (.does _ _ rfl (by first | (exact .none rfl) | (exact .yes _ _ _ rfl rfl rfl)) (QOp.loadM 8 rfl rfl rfl (tok _ rfl) rfl)) ?_) | (refine AllQ.cons (.does _ _ rfl (by first | (exact .none rfl) | (exact .yes _ _ _ rfl rfl rfl)) (QOp.loadM 9 rfl rfl rfl (tok _ rfl) rfl)) ?_) | (refine AllQ.cons (.does _ _ rfl (by first | (exact .none rfl) | (exact .yes _ _ _ rfl rfl rfl)) (QOp.loadM 10 rfl rfl rfl (tok _ rfl) rfl)) ?_) | (refine AllQ.cons (.does _ _ rfl (by first | (exact .none rfl) | (exact .yes _ _ _ rfl rfl rfl)) (QOp.loadM 11 rfl rfl rfl (tok _ rfl) rfl)) ?_) | (refine AllQ.cons (.does _ _ rfl (by first | (exact .none rfl) | (exact .yes _ _ _ rfl rfl rfl)) (QOp.loadM 12 rfl rfl rfl (tok _ rfl) rfl)) ?_) | (refine AllQ.cons (.does _ _ rfl (by first | (exact .none rfl) | (exact .yes _ _ _ rfl rfl rfl)) (QOp.loadM 13 rfl rfl rfl (tok _ rfl) rfl)) ?_) | (refine AllQ.cons (.does _ _ rfl (by first | (exact .none rfl) | (exact .yes _ _ _ rfl rfl rfl)) (QOp.loadM 14 rfl rfl rfl (tok _ rfl) rfl)) ?_) | (refine AllQ.cons (.does _ _ rfl (by first | (exact .none rfl) | (exact .yes _ _ _ rfl rfl rfl)) (QOp.loadM 15 rfl rfl rfl (tok _ rfl) rfl)) ?_) | (refine AllQ.cons (.does _ _ rfl (by first | (exact .none rfl) | (exact .yes _ _ _ rfl rfl rfl)) (QOp.loadAt 0 rfl rfl rfl (tok _ rfl) rfl (by assumption))) ?_) | (refine AllQ.cons (.does _ _ rfl (by first | (exact .none rfl) | (exact .yes _ _ _ rfl rfl rfl)) (QOp.loadAt 1 rfl rfl rfl (tok _ rfl) rfl (by assumption))) ?_) | (refine AllQ.cons (.does _ _ rfl (by first | (exact .none rfl) | (exact .yes _ _ _ rfl rfl rfl)) (QOp.loadAt 2 rfl rfl rfl (tok _ rfl) rfl (by assumption))) ?_) | (refine AllQ.cons (.does _ _ rfl (by first | (exact .none rfl) | (exact .yes _ _ _ rfl rfl rfl)) (QOp.loadAt 3 rfl rfl rfl (tok _ rfl) rfl (by assumption))) ?_) | (refine AllQ.cons (.does _ _ rfl (by first | (exact .none rfl) | (exact .yes _ _ _ rfl rfl rfl)) (QOp.loadAt 4 rfl rfl rfl (tok _ rfl) rfl (by assumption))) ?_) | (refine AllQ.cons (.does _ _ rfl (by first | (exact .none rfl) | (exact .yes _ _ _ rfl rfl rfl)) (QOp.loadAt 5 rfl rfl rfl (tok _ rfl) rfl (by assumption))) ?_) | (refine AllQ.cons (.does _ _ rfl (by first | (exact .none rfl) | (exact .yes _ _ _ rfl rfl rfl)) (QOp.loadAt 6 rfl rfl rfl (tok _ rfl) rfl (by assumption))) ?_) | (refine AllQ.cons (.does _ _ rfl (by first | (exact .none rfl) | (exact .yes _ _ _ rfl rfl rfl)) (QOp.loadAt 7 rfl rfl rfl (tok _ rfl) rfl (by assumption))) ?_))), ?_⟩
      refine DAny.done (by kernel_rfl) ?_
      cases hok2
end Go.Proofs.Ytaadamobapnfbaa
set_option linter.unusedVariables false
set_option linter.unusedSimpArgs false
set_option maxRecDepth 100000
namespace Go.Proofs.Ytaadamobapnfbaa
open Go Go.Abs
inductive RCs (k : Mk) (z : Zt) (c : CS) (r : CS × Int) : AOut → List Abs.Item → Prop
  | ok (h : r.1.code = 0) : RCs k z c r (.ret (vi r.2)) (ckItems c k z)
  | bad (h : r.1.code ≠ 0) (R : List Abs.Item) : RCs k z c r (.pan (wrongV r.1.at_ r.1.code)) R
theorem need_stays {c : CS} {ok : Bool} {a n : Int} (hn : n ≠ 0) (h : (c.need ok a n).code = 0) : c.need ok a n = c := by
  cases ok with
  | true => exact need_yes c a n
  | false =>
    unfold CS.need at h ⊢
    split
    · rename_i h'; rw [if_pos h'] at h; exact absurd h hn
    · rfl
theorem cslot_same (c : CS) (k : Mk) (z : Zt) (hz : Ckz c z) (ho : c.ok) (h0 : c.code = 0) (s : ByteArray) (array : Bool) (fr to : Int) :
    ACalls Try.prog 67 [.mp k.mC 0, vs s, .v (.bool array), .agg [vi fr, vi to]] (ckItems c k z) (RCs k z c (c.slotOf s array fr)) := by
  refine (cslot_ok c k z hz ho h0 s array fr to).mono ?_
  rintro _ _ (⟨h⟩ | ⟨h, R⟩)
  · have e : (c.slotOf s array fr).1 = c := need_stays (by decide) h
    have := RCs.ok (k := k) (z := z) (c := c) h
    rw [e]
    exact this
  · exact .bad h _
theorem tok178 : TOK Try.prog 178 ⟨1, 8, [.map none], .mp 9 3⟩ := ⟨by kernel_rfl, by kernel_rfl⟩
theorem und9 : Try.prog.underlying 9 = some .string := by kernel_rfl
theorem und3i : Try.prog.underlying 3 = some (.int .i64) := by kernel_rfl
theorem zero3 (w : World) : (zeroValue 3).run Try.prog w = .ok (.int .i64 0) w := by kernel_rfl
set_option maxHeartbeats 8000000 in
theorem ctype_ok (n : Nat) (hE : CEx n) : CTy n := by
  intro c k z i hz ho h0 hw hi0 hi1 hin
  have hcall := ccall_ok n hE c k z i hz ho h0 hw hi0 hi1 hin
  have hpair := cpair_ok n hE c k z i hz ho h0 hw hi0 hi1 hin
  have hwf := ex_wf hw.1 hi0 hi1
  have hop : (c.ex i).kind = 8 → (c.ex i).op.data.toList = [45] ∨ (c.ex i).op.data.toList = [33] := hw.2 i.toNat (c.ex i) (by
    have hl : i.toNat < c.t.exprs.length := by omega
    simp only [CS.ex, List.getD_eq_getElem?_getD, List.getElem?_eq_getElem hl, Option.getD_some])
  generalize hr : kindCase (expr6 n) c i (c.ex i) = r at *
  have hr2 := hr.symm
  unfold kindCase at hr2
  generalize c.ex i = e at *
  refine ACalls.of_code (c := _) Try.func85 rfl Try.ntmps85 (Nat.le_of_ble_eq_true rfl) ?_
  refine ACode.seq (ACode.region ?_)
  refine ASeq.op rfl rfl (AOp.boxP rfl rfl rfl (fun _ => rfl) (fun _ => ?_))
  refine ASeq.q rfl rfl (QOp.assign rfl rfl) ?_
  refine ASeq.nil ?_
  rename_i m5
  refine ACode.seq (ACode.seq (ACode.region ?_))
  refine ASeq.q rfl rfl (QOp.fieldM rfl rfl (tok _ rfl) rfl rfl (by decide) rfl) ?_
  refine ASeq.q rfl rfl (QOp.loadM 9 rfl rfl rfl (tok _ rfl) rfl) ?_
  refine ASeq.nil ?_
  refine ACode.block (ACode.seq (ACode.seq (ACode.region ?_)))
  refine ASeq.q rfl rfl (QOp.cmp rfl rfl rfl rfl) ?_
  refine ASeq.q rfl rfl (QOp.assign rfl rfl) ?_
  refine ASeq.nil ?_
  refine AExit.then_normal ?_
  refine ACode.cond _ rfl (fun hb => ?_) (fun hb => ?_)
  · have hk1 : e.kind = 1 := eq_of_beq hb
    rw [if_pos (.inl hk1)] at hr2
    refine ACode.skip (AExit.then_normal ?_)
    refine ACode.cond _ rfl (fun _ => ?_) (fun hb' => by rw [hb] at hb'; cases hb')
    refine ACode.seq (ACode.region ?_)
    refine ASeq.q rfl rfl (QOp.assign rfl rfl) ?_
    refine ASeq.nil ?_
    refine ACode.ret (AExit.in_ret (AExit.then_ret ?_))
    refine bodyQ_ret 9 (.tmp rfl .nil) rfl ?_
    rw [hr2]; exact .ok (r := (c, 1)) h0
  have hk1 : ¬ e.kind = 1 := ne_of_beq_false hb
  refine ACode.region ?_
  refine ASeq.q rfl rfl (QOp.cmp rfl rfl rfl rfl) ?_
  refine ASeq.q rfl rfl (QOp.assign rfl rfl) ?_
  refine ASeq.nil ?_
  refine AExit.then_normal ?_
  refine ACode.cond _ rfl (fun hb => ?_) (fun hb => ?_)
  · have hk7 : e.kind = 7 := eq_of_beq hb
    rw [if_pos (.inr hk7)] at hr2
    refine ACode.seq (ACode.region ?_)
    refine ASeq.q rfl rfl (QOp.assign rfl rfl) ?_
    refine ASeq.nil ?_
    refine ACode.ret (AExit.in_ret (AExit.then_ret ?_))
    refine bodyQ_ret 9 (.tmp rfl .nil) rfl ?_
    rw [hr2]; exact .ok (r := (c, 1)) h0
  have hk7 : ¬ e.kind = 7 := ne_of_beq_false hb
  rw [if_neg (by rintro (h | h); exact hk1 h; exact hk7 h)] at hr2
  refine ACode.seq (ACode.region ?_)
  refine ASeq.q rfl rfl (QOp.cmp rfl rfl rfl rfl) ?_
  refine ASeq.q rfl rfl (QOp.assign rfl rfl) ?_
  refine ASeq.nil ?_
  refine AExit.then_normal ?_
  refine ACode.cond _ rfl (fun hb => ?_) (fun hb => ?_)
  · have hk4 : e.kind = 4 := eq_of_beq hb
    rw [if_pos hk4] at hr2
    have hs := cslot_same c k z hz ho h0 e.name false e.fr e.to
    have hw1 : (c.slotOf e.name false e.fr).1.code = 0 → (c.slotOf e.name false e.fr).1 = c := need_stays (by decide)
    have hw2 : (c.slotOf e.name false e.fr).1.code = 0 → 0 ≤ (c.slotOf e.name false e.fr).2 ∧ (c.slotOf e.name false e.fr).2 < c.cur.length := fun h => by
      have h2 := ((need_code c _ _ 6 (by decide)).1 h).2
      have h3 := ho.find_lt e.name
      have h4 : 0 ≤ c.find e.name := by
        unfold CS.slotOk at h2
        rw [Bool.and_eq_true] at h2
        exact of_decide_eq_true h2.1
      show 0 ≤ c.find e.name ∧ c.find e.name < _
      omega
    generalize c.slotOf e.name false e.fr = w at *
    have hst : Stk w.1 r.1 := by
      rw [hr2]; split
      · exact fun _ => ⟨rfl, rfl⟩
      · exact fun _ => ⟨rfl, rfl⟩
    have hlt : 0 + i.toNat * 1 < (c.slot.map vi).length := by
      have h2 := ho.ls
      rw [List.length_map, h2]; omega
    have hback : ((c.slot.map vi).set (0 + i.toNat * 1) (vi w.2))[0 + i.toNat * 1]? = some (vi w.2) := List.getElem?_set_self hlt
    have hcur := slotCells_cur ho z.τ
    have hf0 := ho.f0
    have hf1 := ho.f1
    have hll := ho.ls
    have hcl := ints_len c.cur
    refine ACode.seq ?_
    refine ACode.drawn [[], [0], [0, 1], [0, 1, 2], [0, 1, 2, 3], [], [], [], [7], [], [9], [6, 7, 8, 9, 10], [0, 1, 2, 3, 4, 5, 6, 7, 8, 9, 10, 11], [0, 1, 2, 3, 4, 5, 6, 7, 8, 9, 10, 11, 12]] (by kernel_rfl) mixed ?_
    refine DAny.qu 0 rfl rfl (by kernel_rfl) rfl (fun _ => .does _ _ rfl (.none rfl) (QOp.move rfl rfl)) ?_
    refine DAny.qu 1 rfl rfl (by kernel_rfl) rfl (fun _ => .does _ _ rfl (.none rfl) (QOp.nilCheckM rfl rfl)) ?_
    refine DAny.qu 2 rfl rfl (by kernel_rfl) rfl (fun _ => .does _ _ rfl (.none rfl) (QOp.fieldM rfl rfl (tok _ rfl) rfl rfl (by decide) rfl)) ?_
    refine DAny.qu 3 rfl rfl (by kernel_rfl) rfl (fun _ => .does _ _ rfl (.none rfl) (QOp.fieldM rfl rfl (tok _ rfl) rfl rfl (by decide) rfl)) ?_
    refine DAny.ld 4 rfl rfl (by kernel_rfl) rfl (.does _ _ rfl (.none rfl) (QOp.loadM 0 rfl rfl rfl (tok _ rfl) rfl)) ?_
    refine DAny.qu 5 rfl rfl (by kernel_rfl) rfl (fun _ => .does _ _ rfl (.none rfl) (QOp.move rfl rfl)) ?_
    refine DAny.qu 6 rfl rfl (by kernel_rfl) rfl (fun _ => .does _ _ rfl (.none rfl) (QOp.move rfl rfl)) ?_
    refine DAny.qu 7 rfl rfl (by kernel_rfl) rfl (fun _ => .does _ _ rfl (.none rfl) (QOp.fieldM rfl rfl (tok _ rfl) rfl rfl (by decide) rfl)) ?_
    refine DAny.ld 8 rfl rfl (by kernel_rfl) rfl (.does _ _ rfl (.none rfl) (QOp.loadM 9 rfl rfl rfl (tok _ rfl) rfl)) ?_
    refine DAny.qu 9 rfl rfl (by kernel_rfl) rfl (fun _ => .does _ _ rfl (.none rfl) (QOp.fieldM rfl rfl (tok _ rfl) rfl rfl (by decide) rfl)) ?_
    refine DAny.ld 10 rfl rfl (by kernel_rfl) rfl (.does _ _ rfl (.none rfl) (QOp.loadM 9 rfl rfl rfl (tok _ rfl) rfl)) ?_
    refine DAny.ef 11 rfl (by kernel_rfl) (.none rfl) rfl rfl (AOp.callP 9 rfl (by kernel_rfl) rfl rfl rfl (hs) ?_ ?_)
    rotate_left
    · (rintro _ _ (⟨⟩ | ⟨hbad, R⟩); simp only [AExit.then, AExit.inBlock]; exact bodyQ_pan 0 rfl (.on hst hbad _))
    rintro _ _ ⟨hc⟩
    refine ⟨(by ((refine AllQ.cons (.does _ _ rfl (by exact .none rfl) (QOp.loadM 0 rfl rfl rfl (tok _ rfl) rfl)) ?_); (exact AllQ.nil))), ?_⟩
    refine DAny.qu 12 rfl rfl (by kernel_rfl) rfl (fun _ => .does _ _ rfl (.none rfl) (QOp.indexM rfl rfl rfl (tok _ rfl) rfl (tok _ rfl) (by omega) (by omega) rfl)) ?_
    refine DAny.ef0 13 rfl (by kernel_rfl) (.none rfl) rfl rfl (AOp.storeAt 3 rfl rfl rfl rfl (tok _ rfl) rfl rfl (by assumption) rfl ⟨(by ((exact AllQ.nil))), ?_⟩)
    refine DAny.done (by kernel_rfl) ?_
    have hw3 := hw2 hc
    have hget := cur_get (c := c) hw3.1 hw3.2
    rw [if_pos hc, hw1 hc] at hr2
    refine ACode.seq ?_
    refine ACode.drawn [[], [0], [0, 1], [0, 1, 2], [0, 1, 2, 3], [], [5], [5, 6], [5, 6, 7], [0, 1, 2, 3, 4, 5, 6, 7, 8], [0, 1, 2, 3, 4, 5, 6, 7, 8, 9], [], [11], [11, 12], [11, 12, 13], [11, 12, 13, 14], [], [11, 12, 13, 14, 15, 16], [11, 12, 13, 14, 15, 16, 17], [0, 1, 2, 3, 4, 5, 6, 7, 8, 9, 10, 11, 12, 13, 14, 15, 16, 17, 18], [0, 1, 2, 3, 4, 5, 6, 7, 8, 9, 10, 11, 12, 13, 14, 15, 16, 17, 18, 19], [0, 1, 2, 3, 4, 5, 6, 7, 8, 9, 10, 11, 12, 13, 14, 15, 16, 17, 18, 19, 20]] (by kernel_rfl) mixed ?_
    refine DAny.qu 0 rfl rfl (by kernel_rfl) rfl (fun _ => .does _ _ rfl (.none rfl) (QOp.move rfl rfl)) ?_
    refine DAny.qu 1 rfl rfl (by kernel_rfl) rfl (fun _ => .does _ _ rfl (.none rfl) (QOp.nilCheckM rfl rfl)) ?_
    refine DAny.qu 2 rfl rfl (by kernel_rfl) rfl (fun _ => .does _ _ rfl (.none rfl) (QOp.fieldM rfl rfl (tok _ rfl) rfl rfl (by decide) rfl)) ?_
    refine DAny.qu 3 rfl rfl (by kernel_rfl) rfl (fun _ => .does _ _ rfl (.none rfl) (QOp.fieldM rfl rfl (tok _ rfl) rfl rfl (by decide) rfl)) ?_
    refine DAny.ld 4 rfl rfl (by kernel_rfl) rfl (.does _ _ rfl (.none rfl) (QOp.loadM 0 rfl rfl rfl (tok _ rfl) rfl)) ?_
    refine DAny.qu 5 rfl rfl (by kernel_rfl) rfl (fun _ => .does _ _ rfl (.none rfl) (QOp.move rfl rfl)) ?_
    refine DAny.qu 6 rfl rfl (by kernel_rfl) rfl (fun _ => .does _ _ rfl (.none rfl) (QOp.nilCheckM rfl rfl)) ?_
    refine DAny.qu 7 rfl rfl (by kernel_rfl) rfl (fun _ => .does _ _ rfl (.none rfl) (QOp.fieldM rfl rfl (tok _ rfl) rfl rfl (by decide) rfl)) ?_
    refine DAny.ld 8 rfl rfl (by kernel_rfl) rfl (.does _ _ rfl (.none rfl) (QOp.loadM 0 rfl rfl rfl (tok _ rfl) rfl)) ?_
    refine DAny.qu 9 rfl rfl (by kernel_rfl) rfl (fun _ => .does _ _ rfl (.none rfl) (QOp.indexM rfl rfl rfl (tok _ rfl) rfl (tok _ rfl) (by omega) (by omega) rfl)) ?_
    refine DAny.ld 10 rfl rfl (by kernel_rfl) rfl (.does _ _ rfl (.none rfl) (QOp.loadAt 6 rfl rfl rfl (tok _ rfl) rfl (by assumption))) ?_
    refine DAny.qu 11 rfl rfl (by kernel_rfl) rfl (fun _ => .does _ _ rfl (.none rfl) (QOp.move rfl rfl)) ?_
    refine DAny.qu 12 rfl rfl (by kernel_rfl) rfl (fun _ => .does _ _ rfl (.none rfl) (QOp.nilCheckM rfl rfl)) ?_
    refine DAny.qu 13 rfl rfl (by kernel_rfl) rfl (fun _ => .does _ _ rfl (.none rfl) (QOp.fieldM rfl rfl (tok _ rfl) rfl rfl (by decide) rfl)) ?_
    refine DAny.qu 14 rfl rfl (by kernel_rfl) rfl (fun _ => .does _ _ rfl (.none rfl) (QOp.fieldM rfl rfl (tok _ rfl) rfl rfl (by decide) rfl)) ?_
    refine DAny.ld 15 rfl rfl (by kernel_rfl) rfl (.does _ _ rfl (.none rfl) (QOp.loadM 0 rfl rfl rfl (tok _ rfl) rfl)) ?_
    refine DAny.qu 16 rfl rfl (by kernel_rfl) rfl (fun _ => .does _ _ rfl (.none rfl) (QOp.move rfl rfl)) ?_
    refine DAny.qu 17 rfl rfl (by kernel_rfl) rfl (fun _ => .does _ _ rfl (.none rfl) (QOp.indexM rfl rfl rfl (tok _ rfl) rfl (tok _ rfl) (by omega) (by omega) rfl)) ?_
    refine DAny.ld 18 rfl rfl (by kernel_rfl) rfl (.does _ _ rfl (.none rfl) (QOp.loadAt 3 rfl rfl rfl (tok _ rfl) rfl (by assumption))) ?_
    refine DAny.qu 19 rfl rfl (by kernel_rfl) rfl (fun _ => .does _ _ rfl (.none rfl) (QOp.indexI rfl rfl rfl (tok _ rfl) rfl (tok _ rfl) (by omega) (by assumption))) ?_
    refine DAny.qu 20 rfl rfl (by kernel_rfl) rfl (fun _ => .does _ _ rfl (.none rfl) (QOp.loadI rfl rfl (tok _ rfl) rfl)) ?_
    refine DAny.ef 21 rfl (by kernel_rfl) (.none rfl) rfl rfl (.q (QOp.assign rfl rfl) ⟨(by ((exact AllQ.nil))), ?_⟩)
    refine DAny.done (by kernel_rfl) ?_
    refine ACode.ret (AExit.in_ret (AExit.then_ret ?_))
    refine bodyQ_ret 9 (.tmp rfl .nil) rfl ?_
    rw [hr2]
    have := RCi.ok (k := k) (z := z) (r := (c.setSlot i w.2, c.cur.getD w.2.toNat 0)) h0
    rw [ckItems_setSlot, List.map_set] at this
    have hz1 : i.toNat = 0 + i.toNat * 1 := by omega
    rw [show (c.slot.map vi).set i.toNat (vi w.2) = (c.slot.map vi).set (0 + i.toNat * 1) (vi w.2) by rw [← hz1]] at this
    exact this
  have hk4 : ¬ e.kind = 4 := ne_of_beq_false hb
  rw [if_neg hk4] at hr2
  refine ACode.seq (ACode.region ?_)
  refine ASeq.q rfl rfl (QOp.cmp rfl rfl rfl rfl) ?_
  refine ASeq.q rfl rfl (QOp.assign rfl rfl) ?_
  refine ASeq.nil ?_
  refine AExit.then_normal ?_
  refine ACode.cond _ rfl (fun hb => ?_) (fun hb => ?_)
  · have hk5 : e.kind = 5 := eq_of_beq hb
    rw [if_pos hk5] at hr2
    obtain ⟨wa0, wa1⟩ := hwf.1 (.inl hk5)
    have hv := cvalue_ok n hE c k z e.a hz ho h0 hw wa0 (by omega) (by omega)
    have hkv : Kept c (valOf (expr6 n c e.a) e.a).1 := (Kept.expr6 n c e.a).valOf _
    generalize valOf (expr6 n c e.a) e.a = v at *
    have hzv := hz.kept hkv
    have hov := hkv.ok ho
    have hs : v.1.code = 0 → ACalls Try.prog 67 [.mp k.mC 0, vs e.name, .v (.bool true), .agg [vi e.fr, vi e.to]] (ckItems v.1 k z) (RCs k z v.1 (v.1.slotOf e.name true e.fr)) := fun h => cslot_same v.1 k z hzv hov h e.name true e.fr e.to
    have hw1 : (v.1.slotOf e.name true e.fr).1.code = 0 → (v.1.slotOf e.name true e.fr).1 = v.1 := need_stays (by decide)
    have s1 : Stk v.1 (v.1.slotOf e.name true e.fr).1 := .slotOf _ _ _ _
    generalize v.1.slotOf e.name true e.fr = w at *
    have hsw : Stk w.1 r.1 := by
      rw [hr2]
      exact fun h => Stk.need w.1 (v.2 == 1) e.fr 8 h
    have hsv : Stk v.1 r.1 := s1.trans hsw
    have hll := hov.ls
    have htv := hkv.t
    have hl2 : v.1.slot.length = c.t.exprs.length := by rw [hll, htv]
    have hlt : 0 + i.toNat * 1 < (v.1.slot.map vi).length := by
      rw [List.length_map, hll, htv]; omega
    refine ACode.seq (ACode.region ?_)
    refine ASeq.q rfl rfl (QOp.move rfl rfl) ?_
    refine ASeq.q rfl rfl (QOp.fieldM rfl rfl (tok _ rfl) rfl rfl (by decide) rfl) ?_
    refine ASeq.q rfl rfl (QOp.loadM 9 rfl rfl rfl (tok _ rfl) rfl) ?_
    refine ASeq.op rfl rfl (AOp.callP 9 rfl (by kernel_rfl) rfl rfl rfl (hv) ?_ ?_)
    rotate_left
    · (rintro _ _ (⟨⟩ | ⟨hbad, R⟩); simp only [AExit.then, AExit.inBlock]; exact bodyQ_pan 0 rfl (.on hsv hbad _))
    rintro _ _ ⟨hc⟩
    refine ASeq.q rfl rfl (QOp.assign rfl rfl) ?_
    refine ASeq.nil ?_
    refine ACode.seq ?_
    refine ACode.drawn [[], [0], [0, 1], [0, 1, 2], [0, 1, 2, 3], [], [], [], [7], [], [9], [6, 7, 8, 9, 10], [0, 1, 2, 3, 4, 5, 6, 7, 8, 9, 10, 11], [0, 1, 2, 3, 4, 5, 6, 7, 8, 9, 10, 11, 12]] (by kernel_rfl) mixed ?_
    refine DAny.qu 0 rfl rfl (by kernel_rfl) rfl (fun _ => .does _ _ rfl (.none rfl) (QOp.move rfl rfl)) ?_
    refine DAny.qu 1 rfl rfl (by kernel_rfl) rfl (fun _ => .does _ _ rfl (.none rfl) (QOp.nilCheckM rfl rfl)) ?_
    refine DAny.qu 2 rfl rfl (by kernel_rfl) rfl (fun _ => .does _ _ rfl (.none rfl) (QOp.fieldM rfl rfl (tok _ rfl) rfl rfl (by decide) rfl)) ?_
    refine DAny.qu 3 rfl rfl (by kernel_rfl) rfl (fun _ => .does _ _ rfl (.none rfl) (QOp.fieldM rfl rfl (tok _ rfl) rfl rfl (by decide) rfl)) ?_
    refine DAny.ld 4 rfl rfl (by kernel_rfl) rfl (.does _ _ rfl (.none rfl) (QOp.loadM 0 rfl rfl rfl (tok _ rfl) rfl)) ?_
    refine DAny.qu 5 rfl rfl (by kernel_rfl) rfl (fun _ => .does _ _ rfl (.none rfl) (QOp.move rfl rfl)) ?_
    refine DAny.qu 6 rfl rfl (by kernel_rfl) rfl (fun _ => .does _ _ rfl (.none rfl) (QOp.move rfl rfl)) ?_
    refine DAny.qu 7 rfl rfl (by kernel_rfl) rfl (fun _ => .does _ _ rfl (.none rfl) (QOp.fieldM rfl rfl (tok _ rfl) rfl rfl (by decide) rfl)) ?_
    refine DAny.ld 8 rfl rfl (by kernel_rfl) rfl (.does _ _ rfl (.none rfl) (QOp.loadM 9 rfl rfl rfl (tok _ rfl) rfl)) ?_
    refine DAny.qu 9 rfl rfl (by kernel_rfl) rfl (fun _ => .does _ _ rfl (.none rfl) (QOp.fieldM rfl rfl (tok _ rfl) rfl rfl (by decide) rfl)) ?_
    refine DAny.ld 10 rfl rfl (by kernel_rfl) rfl (.does _ _ rfl (.none rfl) (QOp.loadM 9 rfl rfl rfl (tok _ rfl) rfl)) ?_
    refine DAny.ef 11 rfl (by kernel_rfl) (.none rfl) rfl rfl (AOp.callP 9 rfl (by kernel_rfl) rfl rfl rfl (hs hc) ?_ ?_)
    rotate_left
    · (rintro _ _ (⟨⟩ | ⟨hbad, R⟩); simp only [AExit.then, AExit.inBlock]; exact bodyQ_pan 0 rfl (.on hsw hbad _))
    rintro _ _ ⟨hc2⟩
    refine ⟨(by ((refine AllQ.cons (.does _ _ rfl (by exact .none rfl) (QOp.loadM 0 rfl rfl rfl (tok _ rfl) rfl)) ?_); (exact AllQ.nil))), ?_⟩
    refine DAny.qu 12 rfl rfl (by kernel_rfl) rfl (fun _ => .does _ _ rfl (.none rfl) (QOp.indexM rfl rfl rfl (tok _ rfl) rfl (tok _ rfl) (by omega) (by omega) rfl)) ?_
    refine DAny.ef0 13 rfl (by kernel_rfl) (.none rfl) rfl rfl (AOp.storeAt 3 rfl rfl rfl rfl (tok _ rfl) rfl rfl (by assumption) rfl ⟨(by ((exact AllQ.nil))), ?_⟩)
    refine DAny.done (by kernel_rfl) ?_
    rw [hw1 hc2] at hr2
    refine ACode.seq (ACode.region ?_)
    refine ASeq.q rfl rfl (QOp.move rfl rfl) ?_
    refine ASeq.q rfl rfl (QOp.cmp rfl rfl rfl rfl) ?_
    refine ASeq.q rfl rfl (QOp.fieldM rfl rfl (tok _ rfl) rfl rfl (by decide) rfl) ?_
    refine ASeq.q rfl rfl (QOp.loadM 9 rfl rfl rfl (tok _ rfl) rfl) ?_
    refine ASeq.op rfl rfl (AOp.callP 0 rfl (by kernel_rfl) rfl rfl rfl (cneed_ok _ e.fr e.to 8) ?_ ?_)
    rotate_left
    · (rintro _ _ (⟨⟩ | ⟨hbad⟩); simp only [AExit.then, AExit.inBlock]; exact bodyQ_pan 0 rfl (by rw [hr2, hbad, need_no _ hc]; exact RCi.bad (r := (({ v.1 with code := 8, at_ := e.fr } : CS).setSlot i w.2, 1)) (by show (8 : Int) ≠ 0; decide) _))
    rintro _ _ ⟨hok⟩
    refine ASeq.nil ?_
    rw [hok, need_yes] at hr2
    refine ACode.seq (ACode.region ?_)
    refine ASeq.q rfl rfl (QOp.assign rfl rfl) ?_
    refine ASeq.nil ?_
    refine ACode.ret (AExit.in_ret (AExit.then_ret ?_))
    refine bodyQ_ret 9 (.tmp rfl .nil) rfl ?_
    rw [hr2]
    have := RCi.ok (k := k) (z := z) (r := (v.1.setSlot i w.2, 1)) hc
    rw [ckItems_setSlot, List.map_set] at this
    have hz1 : i.toNat = 0 + i.toNat * 1 := by omega
    rw [show (v.1.slot.map vi).set i.toNat (vi w.2) = (v.1.slot.map vi).set (0 + i.toNat * 1) (vi w.2) by rw [← hz1]] at this
    exact this
  have hk5 : ¬ e.kind = 5 := ne_of_beq_false hb
  rw [if_neg hk5] at hr2
  refine ACode.seq (ACode.region ?_)
  refine ASeq.q rfl rfl (QOp.cmp rfl rfl rfl rfl) ?_
  refine ASeq.q rfl rfl (QOp.assign rfl rfl) ?_
  refine ASeq.nil ?_
  refine AExit.then_normal ?_
  refine ACode.cond _ rfl (fun hb => ?_) (fun hb => ?_)
  · have hk6 : e.kind = 6 := eq_of_beq hb
    have hcall := hcall hk6
    refine ACode.seq (ACode.region ?_)
    refine ASeq.q rfl rfl (QOp.move rfl rfl) ?_
    refine ASeq.q rfl rfl (QOp.move rfl rfl) ?_
    refine ASeq.q rfl rfl (QOp.loadM 9 rfl rfl rfl (tok _ rfl) rfl) ?_
    refine ASeq.op rfl rfl (AOp.callP 9 rfl (by kernel_rfl) rfl rfl rfl (hcall) ?_ ?_)
    rotate_left
    · (rintro _ _ (⟨⟩ | ⟨hbad, R⟩); simp only [AExit.then, AExit.inBlock]; exact bodyQ_pan 0 rfl (.bad hbad _))
    rintro _ _ ⟨hc⟩
    refine ASeq.q rfl rfl (QOp.assign rfl rfl) ?_
    refine ASeq.nil ?_
    refine ACode.ret (AExit.in_ret (AExit.then_ret ?_))
    refine bodyQ_ret 9 (.tmp rfl .nil) rfl ?_
    exact .ok hc
  have hk6 : ¬ e.kind = 6 := ne_of_beq_false hb
  rw [if_neg hk6] at hr2
  refine ACode.seq (ACode.region ?_)
  refine ASeq.q rfl rfl (QOp.cmp rfl rfl rfl rfl) ?_
  refine ASeq.q rfl rfl (QOp.assign rfl rfl) ?_
  refine ASeq.nil ?_
  refine AExit.then_normal ?_
  refine ACode.cond _ rfl (fun hb => ?_) (fun hb => ?_)
  · have hk8 : e.kind = 8 := eq_of_beq hb
    rw [if_pos hk8] at hr2
    have hop := hop hk8
    obtain ⟨wa0, wa1⟩ := hwf.1 (.inr (.inl hk8))
    have hv := cvalue_ok n hE c k z e.a hz ho h0 hw wa0 (by omega) (by omega)
    generalize valOf (expr6 n c e.a) e.a = v at *
    have hsv : Stk v.1 r.1 := by
      rw [hr2]
      exact Stk.need v.1 _ e.fr 8
    have hs : e.op.size ≤ maxLen := by
      have h1 : e.op.size = e.op.data.toList.length := by rw [Array.length_toList]; rfl
      rw [h1]
      rcases hop with h | h
      · rw [h]; decide
      · rw [h]; decide
    refine ACode.seq (ACode.region ?_)
    refine ASeq.q rfl rfl (QOp.move rfl rfl) ?_
    refine ASeq.q rfl rfl (QOp.fieldM rfl rfl (tok _ rfl) rfl rfl (by decide) rfl) ?_
    refine ASeq.q rfl rfl (QOp.loadM 9 rfl rfl rfl (tok _ rfl) rfl) ?_
    refine ASeq.op rfl rfl (AOp.callP 9 rfl (by kernel_rfl) rfl rfl rfl (hv) ?_ ?_)
    rotate_left
    · (rintro _ _ (⟨⟩ | ⟨hbad, R⟩); simp only [AExit.then, AExit.inBlock]; exact bodyQ_pan 0 rfl (.on hsv hbad _))
    rintro _ _ ⟨hc⟩
    refine ASeq.q rfl rfl (QOp.assign rfl rfl) ?_
    refine ASeq.nil ?_
    rcases hop with hop | hop
    · have hun : unaryOk e.op v.2 = (v.2 == 1) := by unfold unaryOk; rw [hop]; rw [show (([45] : List UInt8) == [45]) = true from rfl, show (([45] : List UInt8) == [33]) = false from rfl, Bool.true_and, Bool.false_and, Bool.or_false]
      rw [hun] at hr2
      refine ACode.seq (ACode.region ?_)
      refine ASeq.q rfl rfl (QOp.move rfl rfl) ?_
      refine ASeq.op rfl rfl (AOp.makeMap (k := 9) (e := 3) rfl (fun _ => rfl) (fun mm => ?_))
      refine ASeq.op0 rfl rfl (AOp.insertSI [_, _, _, _, _, _, _, _, _, _] [] rfl rfl rfl rfl rfl tok178 rfl und9 und3i (by decide) (by decide) (by decide) ?_)
      refine ASeq.op0 rfl rfl (AOp.insertSI [_, _, _, _, _, _, _, _, _, _] [] rfl rfl rfl rfl rfl tok178 rfl und9 und3i (by decide) (by decide) (by decide) ?_)
      refine ASeq.q rfl rfl (QOp.move rfl rfl) ?_
      refine ASeq.q rfl rfl (QOp.fieldM rfl rfl (tok _ rfl) rfl rfl (by decide) rfl) ?_
      refine ASeq.q rfl rfl (QOp.loadM 9 rfl rfl rfl (tok _ rfl) rfl) ?_
      refine ASeq.q rfl rfl (QOp.lookupSI 10 (j := 1) rfl rfl rfl rfl tok178 rfl und9 und3i zero3 hs (by rw [hop]; rfl)) ?_
      refine ASeq.q rfl rfl (QOp.cmp rfl rfl rfl rfl) ?_
      refine ASeq.q rfl rfl (QOp.fieldM rfl rfl (tok _ rfl) rfl rfl (by decide) rfl) ?_
      refine ASeq.q rfl rfl (QOp.loadM 9 rfl rfl rfl (tok _ rfl) rfl) ?_
      refine ASeq.op rfl rfl (AOp.callP 0 rfl (by kernel_rfl) rfl rfl rfl (cneed_ok _ e.fr e.to 8) ?_ ?_)
      rotate_left
      · (rintro _ _ (⟨⟩ | ⟨hbad⟩); simp only [AExit.then, AExit.inBlock]; exact bodyQ_pan 0 rfl (.no hc hr2 hbad (by decide) _))
      rintro _ _ ⟨hok⟩
      refine ASeq.nil ?_
      refine ACode.seq (ACode.region ?_)
      refine ASeq.q rfl rfl (QOp.move rfl rfl) ?_
      refine ASeq.q rfl rfl (QOp.assign rfl rfl) ?_
      refine ASeq.nil ?_
      refine ACode.ret (AExit.in_ret (AExit.then_ret ?_))
      refine bodyQ_ret 9 (.tmp rfl .nil) rfl ?_
      exact .yes hc hr2 hok
    · have hun : unaryOk e.op v.2 = (v.2 == 2) := by unfold unaryOk; rw [hop]; rw [show (([33] : List UInt8) == [45]) = false from rfl, show (([33] : List UInt8) == [33]) = true from rfl, Bool.true_and, Bool.false_and, Bool.false_or]
      rw [hun] at hr2
      refine ACode.seq (ACode.region ?_)
      refine ASeq.q rfl rfl (QOp.move rfl rfl) ?_
      refine ASeq.op rfl rfl (AOp.makeMap (k := 9) (e := 3) rfl (fun _ => rfl) (fun mm => ?_))
      refine ASeq.op0 rfl rfl (AOp.insertSI [_, _, _, _, _, _, _, _, _, _] [] rfl rfl rfl rfl rfl tok178 rfl und9 und3i (by decide) (by decide) (by decide) ?_)
      refine ASeq.op0 rfl rfl (AOp.insertSI [_, _, _, _, _, _, _, _, _, _] [] rfl rfl rfl rfl rfl tok178 rfl und9 und3i (by decide) (by decide) (by decide) ?_)
      refine ASeq.q rfl rfl (QOp.move rfl rfl) ?_
      refine ASeq.q rfl rfl (QOp.fieldM rfl rfl (tok _ rfl) rfl rfl (by decide) rfl) ?_
      refine ASeq.q rfl rfl (QOp.loadM 9 rfl rfl rfl (tok _ rfl) rfl) ?_
      refine ASeq.q rfl rfl (QOp.lookupSI 10 (j := 2) rfl rfl rfl rfl tok178 rfl und9 und3i zero3 hs (by rw [hop]; rfl)) ?_
      refine ASeq.q rfl rfl (QOp.cmp rfl rfl rfl rfl) ?_
      refine ASeq.q rfl rfl (QOp.fieldM rfl rfl (tok _ rfl) rfl rfl (by decide) rfl) ?_
      refine ASeq.q rfl rfl (QOp.loadM 9 rfl rfl rfl (tok _ rfl) rfl) ?_
      refine ASeq.op rfl rfl (AOp.callP 0 rfl (by kernel_rfl) rfl rfl rfl (cneed_ok _ e.fr e.to 8) ?_ ?_)
      rotate_left
      · (rintro _ _ (⟨⟩ | ⟨hbad⟩); simp only [AExit.then, AExit.inBlock]; exact bodyQ_pan 0 rfl (.no hc hr2 hbad (by decide) _))
      rintro _ _ ⟨hok⟩
      refine ASeq.nil ?_
      refine ACode.seq (ACode.region ?_)
      refine ASeq.q rfl rfl (QOp.move rfl rfl) ?_
      refine ASeq.q rfl rfl (QOp.assign rfl rfl) ?_
      refine ASeq.nil ?_
      refine ACode.ret (AExit.in_ret (AExit.then_ret ?_))
      refine bodyQ_ret 9 (.tmp rfl .nil) rfl ?_
      exact .yes hc hr2 hok
  have hk8 : ¬ e.kind = 8 := ne_of_beq_false hb
  rw [if_neg hk8] at hr2
  refine ACode.seq (ACode.region ?_)
  refine ASeq.q rfl rfl (QOp.cmp rfl rfl rfl rfl) ?_
  refine ASeq.q rfl rfl (QOp.assign rfl rfl) ?_
  refine ASeq.nil ?_
  refine AExit.then_normal ?_
  refine ACode.cond _ rfl (fun hb => ?_) (fun hb => ?_)
  · have hk9 : e.kind = 9 := eq_of_beq hb
    have hpair := hpair hk9
    refine ACode.seq (ACode.region ?_)
    refine ASeq.q rfl rfl (QOp.move rfl rfl) ?_
    refine ASeq.q rfl rfl (QOp.loadM 9 rfl rfl rfl (tok _ rfl) rfl) ?_
    refine ASeq.op rfl rfl (AOp.callP 9 rfl (by kernel_rfl) rfl rfl rfl (hpair) ?_ ?_)
    rotate_left
    · (rintro _ _ (⟨⟩ | ⟨hbad, R⟩); simp only [AExit.then, AExit.inBlock]; exact bodyQ_pan 0 rfl (.bad hbad _))
    rintro _ _ ⟨hc⟩
    refine ASeq.q rfl rfl (QOp.assign rfl rfl) ?_
    refine ASeq.nil ?_
    refine ACode.ret (AExit.in_ret (AExit.then_ret ?_))
    refine bodyQ_ret 9 (.tmp rfl .nil) rfl ?_
    exact .ok hc
  have hk9 : ¬ e.kind = 9 := ne_of_beq_false hb
  rw [if_neg hk9] at hr2
  refine ACode.skip (ACode.seq (ACode.region ?_))
  refine ASeq.q rfl rfl (QOp.assign rfl rfl) ?_
  refine ASeq.nil ?_
  refine ACode.ret ?_
  refine bodyQ_ret 9 (.tmp rfl .nil) rfl ?_
  rw [hr2]; exact .ok (r := (c, 2)) h0
end Go.Proofs.Ytaadamobapnfbaa
set_option linter.unusedVariables false
set_option linter.unusedSimpArgs false
set_option maxRecDepth 100000
namespace Go.Proofs.Ytaadamobapnfbaa
open Go Go.Abs
theorem cexprs : ∀ n, CEx n
  | 0 => fun c k z i hz ho h0 hw hi0 hi1 hin => absurd hin (by omega)
  | n + 1 => cexpr_ok n (ctype_ok n (cexprs n))
theorem Ckz.twice {c : CS} {z : Zt} (h : Ckz c z) (s : ByteArray) : c.twice s = z.top.any (sameT s) := by
  have hb := h.block
  have hn : c.names = (z.zs.map Prod.snd).flatten ++ z.top := by rw [h.names]; simp [Zt.all]
  unfold CS.twice
  rw [hn, List.any_append]
  have h1 : (z.zs.map Prod.snd).flatten.any (fun n => (n.text.data.toList == s.data.toList) && (n.block == c.block)) = false := by
    rw [List.any_eq_false]
    intro n hn
    have := h.outs n hn
    have hne : (n.block == c.block) = false := by rw [hb]; exact beq_eq_false_iff_ne.2 (by omega)
    rw [hne, Bool.and_false]; decide
  rw [h1, Bool.false_or]
  have : ∀ (l : List Nm), (∀ n ∈ l, n.block = z.zs.length) → l.any (fun n => (n.text.data.toList == s.data.toList) && (n.block == c.block)) = l.any (sameT s) := by
    intro l
    induction l with
    | nil => intro _; rfl
    | cons a l ih =>
      intro hl
      rw [List.any_cons, List.any_cons, ih (fun n hn => hl n (by simp [hn]))]
      have : (a.block == c.block) = true := by rw [hb, hl a (by simp)]; exact beq_self_eq_true _
      rw [this, Bool.and_true]; rfl
  exact this _ h.tops
/-- a name more, in the innermost block -/
def Zt.more (z : Zt) (τ τz : Nat) (n : Nm) : Zt := { z with τ := τ, τz := τz, top := z.top ++ [n] }
theorem decl_two {c : CS} (h0 : c.code = 0) (s : ByteArray) (k a : Int) (h : c.twice s = true) : c.decl s k a = ({ c with code := 7, at_ := a }, -1) := by
  have e : (c.need (!c.twice s) a 7).need (decide ((c.cur.length : Int) < 64)) a 5 = { c with code := 7, at_ := a } := by
    rw [h, Bool.not_true, need_no c h0]
    unfold CS.need
    rw [if_neg (fun h => absurd h.1 (by show ¬ (7 : Int) = 0; decide))]
  unfold CS.decl
  rw [e, if_pos (by show (7 : Int) ≠ 0; decide)]
theorem decl_many {c : CS} (h0 : c.code = 0) (s : ByteArray) (k a : Int) (h : c.twice s = false) (h6 : ¬ (c.cur.length : Int) < 64) : c.decl s k a = ({ c with code := 5, at_ := a }, -1) := by
  have e : (c.need (!c.twice s) a 7).need (decide ((c.cur.length : Int) < 64)) a 5 = { c with code := 5, at_ := a } := by
    rw [h, Bool.not_false, need_yes, decide_eq_false h6, need_no c h0]
  unfold CS.decl
  rw [e, if_pos (by show (5 : Int) ≠ 0; decide)]
theorem decl_good {c : CS} (h0 : c.code = 0) (s : ByteArray) (k a : Int) (h : c.twice s = false) (h6 : (c.cur.length : Int) < 64) :
    c.decl s k a = ({ c with slots := c.slots.set c.f.toNat (c.cur ++ [k]), names := c.names ++ [⟨s, c.block, c.cur.length⟩] }, (c.cur.length : Int)) := by
  have e : (c.need (!c.twice s) a 7).need (decide ((c.cur.length : Int) < 64)) a 5 = c := by
    rw [h, Bool.not_false, need_yes, decide_eq_true h6, need_yes]
  unfold CS.decl
  rw [e, if_neg (fun h => h h0)]
theorem decl_cases {c : CS} (h0 : c.code = 0) (s : ByteArray) (k a : Int) (h : (c.decl s k a).1.code = 0) : c.twice s = false ∧ (c.cur.length : Int) < 64 := by
  cases ht : c.twice s with
  | true => rw [decl_two h0 s k a ht] at h; exact absurd h (by show ¬ (7 : Int) = 0; decide)
  | false =>
    refine ⟨rfl, ?_⟩
    by_cases h6 : (c.cur.length : Int) < 64
    · exact h6
    · rw [decl_many h0 s k a ht h6] at h; exact absurd h (by show ¬ (5 : Int) = 0; decide)
inductive RD (k : Mk) (z : Zt) (c : CS) (s : ByteArray) (r : CS × Int) : AOut → List Abs.Item → Prop
  | ok (h : r.1.code = 0) (τ τz : Nat) : RD k z c s r (.ret (vi r.2)) (ckItems r.1 k (z.more τ τz ⟨s, c.block, r.2⟩))
  | bad (h : r.1.code ≠ 0) (R : List Abs.Item) : RD k z c s r (.pan (wrongV r.1.at_ r.1.code)) R
theorem RD.of {k : Mk} {z : Zt} {c : CS} {s : ByteArray} {r : CS × Int} {R : List Abs.Item} (h : r.1.code = 0) (τ τz : Nat) (e : R = ckItems r.1 k (z.more τ τz ⟨s, c.block, r.2⟩)) : RD k z c s r (.ret (vi r.2)) R := by subst e; exact .ok h τ τz
theorem Ckz.more {c : CS} {z : Zt} (h : Ckz c z) (h0 : c.code = 0) (s : ByteArray) (kind a : Int) (τ τz : Nat) (hc : (c.decl s kind a).1.code = 0) : Ckz (c.decl s kind a).1 (z.more τ τz ⟨s, c.block, (c.decl s kind a).2⟩) := by
  obtain ⟨ht, h6⟩ := decl_cases h0 s kind a hc
  rw [decl_good h0 s kind a ht h6]
  rw [h.twice] at ht
  refine ⟨?_, h.block, ?_, h.outs, ?_, h.deep⟩
  · show c.names ++ _ = _
    rw [h.names]; simp [Zt.all, Zt.more]
  · intro n hn
    rcases List.mem_append.1 hn with hn | hn
    · exact h.tops n hn
    · rw [List.mem_singleton] at hn; subst hn; exact h.block
  · intro l hl
    have hl : l ∈ z.zs.map Prod.snd ∨ l = z.top ++ [⟨s, c.block, c.cur.length⟩] := by simpa [Zt.all, Zt.more] using hl
    rcases hl with hl | rfl
    · exact h.uniq l (by simp only [Zt.all, List.map_append]; exact List.mem_append_left _ hl)
    · refine List.pairwise_append.2 ⟨h.uniq z.top (by simp [Zt.all]), List.pairwise_singleton _ _, ?_⟩
      intro x hx y hy
      rw [List.mem_singleton] at hy; subst hy
      have := List.any_eq_false.1 ht x hx
      simpa [sameT] using this
theorem ztop {z : Zt} : (z.all.map zcell)[0 + ((z.all.length : Int) - 1).toNat * 1]? = some (.il 2 (some z.τz) (z.top.map brow)) := by
  have h1 : 0 + ((z.all.length : Int) - 1).toNat * 1 = z.zs.length := by have := z.all_len; omega
  rw [h1, List.getElem?_map]
  simp [Zt.all, zcell]
theorem ztop_set {z : Zt} (τ τz : Nat) (n : Nm) : (z.all.map zcell).set (0 + ((z.all.length : Int) - 1).toNat * 1) (.il 2 (some τz) (z.top.map brow ++ [brow n])) = (z.more τ τz n).all.map zcell := by
  have h1 : 0 + ((z.all.length : Int) - 1).toNat * 1 = z.zs.length := by have := z.all_len; omega
  rw [h1]
  simp [Zt.all, Zt.more, zcell]
theorem brow_rows (l : List Nm) (x : Nm) : ∀ r ∈ l.map brow ++ [brow x], r.length = 2 := rows_ok 2 _ _ (fun y hy => by obtain ⟨z, _, rfl⟩ := List.mem_map.1 hy; rfl) rfl
set_option maxHeartbeats 8000000 in
theorem cdeclare_ok (c : CS) (k : Mk) (z : Zt) (hz : Ckz c z) (ho : c.ok) (h0 : c.code = 0) (s : ByteArray) (kind fr to : Int) :
    ACalls Try.prog 41 [.mp k.mC 0, vs s, vi kind, .agg [vi fr, vi to]] (ckItems c k z) (RD k z c s (c.decl s kind fr)) := by
  have hcur := slotCells_cur ho z.τ
  have htop := ztop (z := z)
  have hzl := z.all_len
  have hzm : (z.all.map zcell).length = z.all.length := List.length_map ..
  have hdeep := hz.deep
  have htl : z.top.length ≤ 1048576 := hz.len ho (z.τz, z.top) (by simp [Zt.all])
  have hf0 := ho.f0
  have hf1 := ho.f1
  have hfl : 0 + c.f.toNat * 1 < (c.slotCells z.τ).length := by rw [slotCells_len]; omega
  have hzlt : 0 + ((z.all.length : Int) - 1).toNat * 1 < (z.all.map zcell).length := by omega
  have hil := ints_len c.cur
  have h64 := ho.n64
  have htw := hz.twice s
  have hbl : (z.top.map brow).length = z.top.length := List.length_map ..
  refine ACalls.of_code (c := _) Try.func41 rfl Try.ntmps41 (Nat.le_of_ble_eq_true rfl) ?_
  refine ACode.seq (ACode.region ?_)
  refine ASeq.op rfl rfl (AOp.boxP rfl rfl rfl (fun _ => rfl) (fun _ => ?_))
  refine ASeq.op rfl rfl (AOp.boxP rfl rfl rfl (fun _ => rfl) (fun _ => ?_))
  refine ASeq.q rfl rfl (QOp.assign rfl rfl) ?_
  refine ASeq.nil ?_
  rename_i m5 m7
  have hhas : ACalls Try.prog 64 [.il 2 (some z.τz) (z.top.map brow), .fn (.func 65) [] [.mp m5 0]] (ckItems c k z ++ [.mu m5 [vs s]]) (RV (.v (.bool (z.top.any (sameT s)))) (ckItems c k z ++ [.mu m5 [vs s]])) := by
    refine (ACalls.perm List.perm_append_comm ((has64 s m5 (some z.τz) z.top htl).frame (F := ckItems c k z))).less ?_
    rintro _ _ ⟨R1, rfl, ⟨⟩⟩
    exact ⟨_, _, List.perm_append_comm, List.Sublist.refl _, .mk⟩
  refine ACode.seq (ACode.region ?_)
  refine ASeq.q rfl rfl (QOp.move rfl rfl) ?_
  refine ASeq.q rfl rfl (QOp.nilCheckM rfl rfl) ?_
  refine ASeq.q rfl rfl (QOp.fieldM rfl rfl (tok _ rfl) rfl rfl (by decide) rfl) ?_
  refine ASeq.q rfl rfl (QOp.loadM 0 rfl rfl rfl (tok _ rfl) rfl) ?_
  refine ASeq.q rfl rfl (QOp.lenM rfl rfl (tok _ rfl) rfl) ?_
  refine ASeq.q rfl rfl (QOp.ar64 rfl rfl rfl rfl ⟨by omega, by omega⟩) ?_
  refine ASeq.q rfl rfl (QOp.assign rfl rfl) ?_
  refine ASeq.nil ?_
  refine ACode.seq ?_
  refine ACode.drawn [[], [0], [0, 1], [0, 1, 2], [], [0, 1, 2, 3, 4], [0, 1, 2, 3, 4, 5], [], [0, 1, 2, 3, 4, 5, 6, 7], [0, 1, 2, 3, 4, 5, 6, 7, 8], [], [0, 1, 2, 3, 4, 5, 6, 7, 8, 9, 10]] (by kernel_rfl) mixed ?_
  refine DAny.qu 0 rfl rfl (by kernel_rfl) rfl (fun _ => .does _ _ rfl (.none rfl) (QOp.move rfl rfl)) ?_
  refine DAny.qu 1 rfl rfl (by kernel_rfl) rfl (fun _ => .does _ _ rfl (.none rfl) (QOp.nilCheckM rfl rfl)) ?_
  refine DAny.qu 2 rfl rfl (by kernel_rfl) rfl (fun _ => .does _ _ rfl (.none rfl) (QOp.fieldM rfl rfl (tok _ rfl) rfl rfl (by decide) rfl)) ?_
  refine DAny.ld 3 rfl rfl (by kernel_rfl) rfl (.does _ _ rfl (.none rfl) (QOp.loadM 0 rfl rfl rfl (tok _ rfl) rfl)) ?_
  refine DAny.qu 4 rfl rfl (by kernel_rfl) rfl (fun _ => .does _ _ rfl (.none rfl) (QOp.move rfl rfl)) ?_
  refine DAny.qu 5 rfl rfl (by kernel_rfl) rfl (fun _ => .does _ _ rfl (.none rfl) (QOp.indexM rfl rfl rfl (tok _ rfl) rfl (tok _ rfl) (by omega) (by omega) rfl)) ?_
  refine DAny.ld 6 rfl rfl (by kernel_rfl) rfl (.does _ _ rfl (.none rfl) (QOp.loadAt 1 rfl rfl rfl (tok _ rfl) rfl (by assumption))) ?_
  refine DAny.qu 7 rfl rfl (by kernel_rfl) rfl (fun _ => .does _ _ rfl (.none rfl) (QOp.makeFunc rfl rfl rfl ⟨_, rfl⟩)) ?_
  refine DAny.ld 10 rfl rfl (by kernel_rfl) rfl (.does _ _ rfl (.none rfl) (QOp.loadM 10 rfl rfl rfl (tok _ rfl) rfl)) ?_
  refine DAny.ef 8 rfl (by kernel_rfl) (.none rfl) rfl rfl (AOp.callP 10 rfl (by kernel_rfl) rfl rfl rfl (hhas) ?_ (by rintro _ _ ⟨⟩))
  rintro _ _ ⟨⟩
  refine ⟨(by ((refine AllQ.cons (.does _ _ rfl (by exact .none rfl) (QOp.loadM 10 rfl rfl rfl (tok _ rfl) rfl)) ?_); (exact AllQ.nil))), ?_⟩
  refine DAny.qu 9 rfl rfl (by kernel_rfl) rfl (fun _ => .does _ _ rfl (.none rfl) (QOp.not rfl rfl)) ?_
  refine DAny.ef 11 rfl (by kernel_rfl) (.none rfl) rfl rfl (AOp.callP 0 rfl (by kernel_rfl) rfl rfl rfl (cneed_ok _ fr to 7) ?_ ?_)
  rotate_left
  · (rintro _ _ (⟨⟩ | ⟨hbad⟩); simp only [AExit.then, AExit.inBlock]; exact bodyQ_pan 0 rfl (by rw [decl_two h0 s kind fr (by rw [htw]; simpa using hbad)]; exact RD.bad (r := (({ c with code := 7, at_ := fr } : CS), -1)) (by show (7 : Int) ≠ 0; decide) _))
  rintro _ _ ⟨hok⟩
  refine ⟨(by ((exact AllQ.nil))), ?_⟩
  refine DAny.done (by kernel_rfl) ?_
  have ht : c.twice s = false := by rw [htw]; simpa using hok
  refine ACode.seq ?_
  refine ACode.drawn [[], [0], [0, 1], [0, 1, 2], [0, 1, 2, 3], [], [5], [5, 6], [5, 6, 7], [0, 1, 2, 3, 4, 5, 6, 7, 8], [0, 1, 2, 3, 4, 5, 6, 7, 8, 9], [0, 1, 2, 3, 4, 5, 6, 7, 8, 9, 10], [0, 1, 2, 3, 4, 5, 6, 7, 8, 9, 10, 11]] (by kernel_rfl) mixed ?_
  refine DAny.qu 0 rfl rfl (by kernel_rfl) rfl (fun _ => .does _ _ rfl (.none rfl) (QOp.move rfl rfl)) ?_
  refine DAny.qu 1 rfl rfl (by kernel_rfl) rfl (fun _ => .does _ _ rfl (.none rfl) (QOp.nilCheckM rfl rfl)) ?_
  refine DAny.qu 2 rfl rfl (by kernel_rfl) rfl (fun _ => .does _ _ rfl (.none rfl) (QOp.fieldM rfl rfl (tok _ rfl) rfl rfl (by decide) rfl)) ?_
  refine DAny.qu 3 rfl rfl (by kernel_rfl) rfl (fun _ => .does _ _ rfl (.none rfl) (QOp.fieldM rfl rfl (tok _ rfl) rfl rfl (by decide) rfl)) ?_
  refine DAny.ld 4 rfl rfl (by kernel_rfl) rfl (.does _ _ rfl (.none rfl) (QOp.loadM 0 rfl rfl rfl (tok _ rfl) rfl)) ?_
  refine DAny.qu 5 rfl rfl (by kernel_rfl) rfl (fun _ => .does _ _ rfl (.none rfl) (QOp.move rfl rfl)) ?_
  refine DAny.qu 6 rfl rfl (by kernel_rfl) rfl (fun _ => .does _ _ rfl (.none rfl) (QOp.nilCheckM rfl rfl)) ?_
  refine DAny.qu 7 rfl rfl (by kernel_rfl) rfl (fun _ => .does _ _ rfl (.none rfl) (QOp.fieldM rfl rfl (tok _ rfl) rfl rfl (by decide) rfl)) ?_
  refine DAny.ld 8 rfl rfl (by kernel_rfl) rfl (.does _ _ rfl (.none rfl) (QOp.loadM 0 rfl rfl rfl (tok _ rfl) rfl)) ?_
  refine DAny.qu 9 rfl rfl (by kernel_rfl) rfl (fun _ => .does _ _ rfl (.none rfl) (QOp.indexM rfl rfl rfl (tok _ rfl) rfl (tok _ rfl) (by omega) (by omega) rfl)) ?_
  refine DAny.ld 10 rfl rfl (by kernel_rfl) rfl (.does _ _ rfl (.none rfl) (QOp.loadAt 6 rfl rfl rfl (tok _ rfl) rfl (by assumption))) ?_
  refine DAny.qu 11 rfl rfl (by kernel_rfl) rfl (fun _ => .does _ _ rfl (.none rfl) (QOp.lenI rfl rfl (tok _ rfl) rfl)) ?_
  refine DAny.ef 12 rfl (by kernel_rfl) (.none rfl) rfl rfl (.q (QOp.assign rfl rfl) ⟨(by ((exact AllQ.nil))), ?_⟩)
  refine DAny.done (by kernel_rfl) ?_
  refine ACode.seq (ACode.region ?_)
  refine ASeq.q rfl rfl (QOp.move rfl rfl) ?_
  refine ASeq.q rfl rfl (QOp.cmp rfl rfl rfl rfl) ?_
  refine ASeq.q rfl rfl (QOp.loadM 10 rfl rfl rfl (tok _ rfl) rfl) ?_
  refine ASeq.op rfl rfl (AOp.callP 0 rfl (by kernel_rfl) rfl rfl rfl (cneed_ok _ fr to 5) ?_ ?_)
  rotate_left
  · (rintro _ _ (⟨⟩ | ⟨hbad⟩); simp only [AExit.then, AExit.inBlock]; exact bodyQ_pan 0 rfl (by rw [decl_many h0 s kind fr ht (by rw [← hil]; exact of_decide_eq_false hbad)]; exact RD.bad (r := (({ c with code := 5, at_ := fr } : CS), -1)) (by show (5 : Int) ≠ 0; decide) _))
  rintro _ _ ⟨hok2⟩
  refine ASeq.nil ?_
  have h6 : (c.cur.length : Int) < 64 := by rw [← hil]; exact of_decide_eq_true hok2
  refine ACode.seq ?_
  refine ACode.drawn [[], [0], [0, 1], [0, 1, 2], [0, 1, 2, 3], [], [5], [5, 6], [5, 6, 7], [], [9], [9, 10], [9, 10, 11], [9, 10, 11, 12], [], [14], [14, 15], [14, 15, 16], [9, 10, 11, 12, 13, 14, 15, 16, 17], [9, 10, 11, 12, 13, 14, 15, 16, 17, 18], [], [20], [9, 10, 11, 12, 13, 14, 15, 16, 17, 18, 19, 20, 21], [0, 1, 2, 3, 4, 5, 6, 7, 8, 9, 10, 11, 12, 13, 14, 15, 16, 17, 18, 19, 20, 21, 22], [0, 1, 2, 3, 4, 5, 6, 7, 8, 9, 10, 11, 12, 13, 14, 15, 16, 17, 18, 19, 20, 21, 22, 23]] (by kernel_rfl) mixed ?_
  refine DAny.qu 0 rfl rfl (by kernel_rfl) rfl (fun _ => .does _ _ rfl (.none rfl) (QOp.move rfl rfl)) ?_
  refine DAny.qu 1 rfl rfl (by kernel_rfl) rfl (fun _ => .does _ _ rfl (.none rfl) (QOp.nilCheckM rfl rfl)) ?_
  refine DAny.qu 2 rfl rfl (by kernel_rfl) rfl (fun _ => .does _ _ rfl (.none rfl) (QOp.fieldM rfl rfl (tok _ rfl) rfl rfl (by decide) rfl)) ?_
  refine DAny.qu 3 rfl rfl (by kernel_rfl) rfl (fun _ => .does _ _ rfl (.none rfl) (QOp.fieldM rfl rfl (tok _ rfl) rfl rfl (by decide) rfl)) ?_
  refine DAny.ld 4 rfl rfl (by kernel_rfl) rfl (.does _ _ rfl (.none rfl) (QOp.loadM 0 rfl rfl rfl (tok _ rfl) rfl)) ?_
  refine DAny.qu 5 rfl rfl (by kernel_rfl) rfl (fun _ => .does _ _ rfl (.none rfl) (QOp.move rfl rfl)) ?_
  refine DAny.qu 6 rfl rfl (by kernel_rfl) rfl (fun _ => .does _ _ rfl (.none rfl) (QOp.nilCheckM rfl rfl)) ?_
  refine DAny.qu 7 rfl rfl (by kernel_rfl) rfl (fun _ => .does _ _ rfl (.none rfl) (QOp.fieldM rfl rfl (tok _ rfl) rfl rfl (by decide) rfl)) ?_
  refine DAny.ld 8 rfl rfl (by kernel_rfl) rfl (.does _ _ rfl (.none rfl) (QOp.loadM 0 rfl rfl rfl (tok _ rfl) rfl)) ?_
  refine DAny.qu 9 rfl rfl (by kernel_rfl) rfl (fun _ => .does _ _ rfl (.none rfl) (QOp.move rfl rfl)) ?_
  refine DAny.qu 10 rfl rfl (by kernel_rfl) rfl (fun _ => .does _ _ rfl (.none rfl) (QOp.nilCheckM rfl rfl)) ?_
  refine DAny.qu 11 rfl rfl (by kernel_rfl) rfl (fun _ => .does _ _ rfl (.none rfl) (QOp.fieldM rfl rfl (tok _ rfl) rfl rfl (by decide) rfl)) ?_
  refine DAny.qu 12 rfl rfl (by kernel_rfl) rfl (fun _ => .does _ _ rfl (.none rfl) (QOp.fieldM rfl rfl (tok _ rfl) rfl rfl (by decide) rfl)) ?_
  refine DAny.ld 13 rfl rfl (by kernel_rfl) rfl (.does _ _ rfl (.none rfl) (QOp.loadM 0 rfl rfl rfl (tok _ rfl) rfl)) ?_
  refine DAny.qu 14 rfl rfl (by kernel_rfl) rfl (fun _ => .does _ _ rfl (.none rfl) (QOp.move rfl rfl)) ?_
  refine DAny.qu 15 rfl rfl (by kernel_rfl) rfl (fun _ => .does _ _ rfl (.none rfl) (QOp.nilCheckM rfl rfl)) ?_
  refine DAny.qu 16 rfl rfl (by kernel_rfl) rfl (fun _ => .does _ _ rfl (.none rfl) (QOp.fieldM rfl rfl (tok _ rfl) rfl rfl (by decide) rfl)) ?_
  refine DAny.ld 17 rfl rfl (by kernel_rfl) rfl (.does _ _ rfl (.none rfl) (QOp.loadM 0 rfl rfl rfl (tok _ rfl) rfl)) ?_
  refine DAny.qu 18 rfl rfl (by kernel_rfl) rfl (fun _ => .does _ _ rfl (.none rfl) (QOp.indexM rfl rfl rfl (tok _ rfl) rfl (tok _ rfl) (by omega) (by omega) rfl)) ?_
  refine DAny.ld 19 rfl rfl (by kernel_rfl) rfl (.does _ _ rfl (.none rfl) (QOp.loadAt 6 rfl rfl rfl (tok _ rfl) rfl (by assumption))) ?_
  refine DAny.qu 20 rfl rfl (by kernel_rfl) rfl (fun _ => .does _ _ rfl (.none rfl) (QOp.move rfl rfl)) ?_
  refine DAny.ef 21 rfl (by kernel_rfl) (.none rfl) rfl rfl (AOp.buildSliceR rfl (tok _ rfl) rfl (tok _ rfl) (by decide) rfl (by decide) rfl rfl rfl rfl ⟨(by ((refine AllQ.cons (.does _ _ rfl (by exact .none rfl) (QOp.loadAt 6 rfl rfl rfl (tok _ rfl) rfl (by assumption))) ?_); (refine AllQ.cons (.does _ _ rfl (by exact .none rfl) (QOp.loadM 0 rfl rfl rfl (tok _ rfl) rfl)) ?_); (refine AllQ.cons (.does _ _ rfl (by exact .none rfl) (QOp.loadM 0 rfl rfl rfl (tok _ rfl) rfl)) ?_); (refine AllQ.cons (.does _ _ rfl (by exact .none rfl) (QOp.loadM 0 rfl rfl rfl (tok _ rfl) rfl)) ?_); (refine AllQ.cons (.does _ _ rfl (by exact .none rfl) (QOp.loadM 0 rfl rfl rfl (tok _ rfl) rfl)) ?_); (exact AllQ.nil))), ?_⟩)
  refine DAny.ef 22 rfl (by kernel_rfl) (.none rfl) rfl rfl (AOp.appendP 7 (e := 3) (tde := TT 3) rfl rfl rfl rfl (tok _ rfl) rfl (tok _ rfl) (tok _ rfl) rfl (by decide) rfl rfl (fun _ => rfl) (ints_rows c.cur kind) (by simp only [ints_len, List.length_cons, List.length_nil]; omega) rfl (fun _ => ⟨(by ((refine AllQ.cons (.does _ _ rfl (by exact .none rfl) (QOp.loadM 0 rfl rfl rfl (tok _ rfl) rfl)) ?_); (refine AllQ.cons (.does _ _ rfl (by exact .none rfl) (QOp.loadM 0 rfl rfl rfl (tok _ rfl) rfl)) ?_); (exact AllQ.nil))), ?_⟩))
  refine DAny.qu 23 rfl rfl (by kernel_rfl) rfl (fun _ => .does _ _ rfl (.none rfl) (QOp.indexM rfl rfl rfl (tok _ rfl) rfl (tok _ rfl) (by omega) (by omega) rfl)) ?_
  refine DAny.ef0 24 rfl (by kernel_rfl) (.none rfl) rfl rfl (AOp.storeAt 6 rfl rfl rfl rfl (tok _ rfl) rfl rfl (by assumption) rfl ⟨(by ((exact AllQ.nil))), ?_⟩)
  refine DAny.done (by kernel_rfl) ?_
  rename_i τ'
  refine ACode.seq ?_
  refine ACode.drawn [[], [0], [0, 1], [0, 1, 2], [], [], [5], [5, 6], [5, 6, 7], [], [5, 6, 7, 8, 9], [5, 6, 7, 8, 9, 10], [], [], [12, 13], [12, 13, 14], [5, 6, 7, 8, 9, 10, 11, 12, 13, 14, 15], [0, 1, 2, 3, 4, 5, 6, 7, 8, 9, 10, 11, 12, 13, 14, 15, 16], [0, 1, 2, 3, 4, 5, 6, 7, 8, 9, 10, 11, 12, 13, 14, 15, 16, 17]] (by kernel_rfl) mixed ?_
  refine DAny.qu 0 rfl rfl (by kernel_rfl) rfl (fun _ => .does _ _ rfl (.none rfl) (QOp.move rfl rfl)) ?_
  refine DAny.qu 1 rfl rfl (by kernel_rfl) rfl (fun _ => .does _ _ rfl (.none rfl) (QOp.nilCheckM rfl rfl)) ?_
  refine DAny.qu 2 rfl rfl (by kernel_rfl) rfl (fun _ => .does _ _ rfl (.none rfl) (QOp.fieldM rfl rfl (tok _ rfl) rfl rfl (by decide) rfl)) ?_
  refine DAny.ld 3 rfl rfl (by kernel_rfl) rfl (.does _ _ rfl (.none rfl) (QOp.loadM 0 rfl rfl rfl (tok _ rfl) rfl)) ?_
  refine DAny.qu 4 rfl rfl (by kernel_rfl) rfl (fun _ => .does _ _ rfl (.none rfl) (QOp.move rfl rfl)) ?_
  refine DAny.qu 5 rfl rfl (by kernel_rfl) rfl (fun _ => .does _ _ rfl (.none rfl) (QOp.move rfl rfl)) ?_
  refine DAny.qu 6 rfl rfl (by kernel_rfl) rfl (fun _ => .does _ _ rfl (.none rfl) (QOp.nilCheckM rfl rfl)) ?_
  refine DAny.qu 7 rfl rfl (by kernel_rfl) rfl (fun _ => .does _ _ rfl (.none rfl) (QOp.fieldM rfl rfl (tok _ rfl) rfl rfl (by decide) rfl)) ?_
  refine DAny.ld 8 rfl rfl (by kernel_rfl) rfl (.does _ _ rfl (.none rfl) (QOp.loadM 0 rfl rfl rfl (tok _ rfl) rfl)) ?_
  refine DAny.qu 9 rfl rfl (by kernel_rfl) rfl (fun _ => .does _ _ rfl (.none rfl) (QOp.move rfl rfl)) ?_
  refine DAny.qu 10 rfl rfl (by kernel_rfl) rfl (fun _ => .does _ _ rfl (.none rfl) (QOp.indexM rfl rfl rfl (tok _ rfl) rfl (tok _ rfl) (by omega) (by omega) rfl)) ?_
  refine DAny.ld 11 rfl rfl (by kernel_rfl) rfl (.does _ _ rfl (.none rfl) (QOp.loadAt 1 rfl rfl rfl (tok _ rfl) rfl (by assumption))) ?_
  refine DAny.ld 12 rfl rfl (by kernel_rfl) rfl (.does _ _ rfl (.none rfl) (QOp.loadM 9 rfl rfl rfl (tok _ rfl) rfl)) ?_
  refine DAny.qu 13 rfl rfl (by kernel_rfl) rfl (fun _ => .does _ _ rfl (.none rfl) (QOp.move rfl rfl)) ?_
  refine DAny.qu 14 rfl rfl (by kernel_rfl) rfl (fun _ => .does _ _ rfl (.none rfl) (QOp.build rfl (tok _ rfl) rfl rfl rfl rfl rfl)) ?_
  refine DAny.ef 15 rfl (by kernel_rfl) (.none rfl) rfl rfl (AOp.buildSliceR rfl (tok _ rfl) rfl (tok _ rfl) (by decide) rfl (by decide) rfl rfl rfl rfl ⟨(by ((refine AllQ.cons (.does _ _ rfl (by exact .none rfl) (QOp.loadAt 1 rfl rfl rfl (tok _ rfl) rfl (by assumption))) ?_); (refine AllQ.cons (.does _ _ rfl (by exact .none rfl) (QOp.loadM 0 rfl rfl rfl (tok _ rfl) rfl)) ?_); (refine AllQ.cons (.does _ _ rfl (by exact .none rfl) (QOp.loadM 0 rfl rfl rfl (tok _ rfl) rfl)) ?_); (exact AllQ.nil))), ?_⟩)
  refine DAny.ef 16 rfl (by kernel_rfl) (.none rfl) rfl rfl (AOp.appendP 8 (e := 133) (tde := TT 133) rfl rfl rfl rfl (tok _ rfl) rfl (tok _ rfl) (tok _ rfl) rfl (by decide) rfl rfl (fun _ => rfl) (brow_rows z.top ⟨s, c.block, (ints c.cur).length⟩) (by simp only [hbl, List.length_cons, List.length_nil]; omega) rfl (fun _ => ⟨(by ((refine AllQ.cons (.does _ _ rfl (by exact .none rfl) (QOp.loadM 0 rfl rfl rfl (tok _ rfl) rfl)) ?_); (exact AllQ.nil))), ?_⟩))
  refine DAny.qu 17 rfl rfl (by kernel_rfl) rfl (fun _ => .does _ _ rfl (.none rfl) (QOp.indexM rfl rfl rfl (tok _ rfl) rfl (tok _ rfl) (by omega) (by omega) rfl)) ?_
  refine DAny.ef0 18 rfl (by kernel_rfl) (.none rfl) rfl rfl (AOp.storeAt 1 rfl rfl rfl rfl (tok _ rfl) rfl rfl (by assumption) rfl ⟨(by ((exact AllQ.nil))), ?_⟩)
  refine DAny.done (by kernel_rfl) ?_
  rename_i τz'
  refine ACode.seq (ACode.region ?_)
  refine ASeq.q rfl rfl (QOp.move rfl rfl) ?_
  refine ASeq.q rfl rfl (QOp.assign rfl rfl) ?_
  refine ASeq.nil ?_
  refine ACode.ret ?_
  refine bodyQ_ret 9 (.tmp rfl .nil) rfl ?_
  rw [decl_good h0 s kind fr ht h6, hil]
  refine RD.of h0 τ' τz' ?_
  have e1 := slotCells_set ho z.τ τ' (c.cur ++ [kind])
  rw [← ints_snoc] at e1
  have e2 := ztop_set (z := z) τ' τz' ⟨s, c.block, c.cur.length⟩
  have e3 : (c.slots.set c.f.toNat (c.cur ++ [kind])).length = c.slots.length := List.length_set
  have e4 : (z.more τ' τz' ⟨s, c.block, c.cur.length⟩).all.length = z.all.length := by simp [Zt.all, Zt.more]
  simp only [ckItems, ckCells, e3, e4]
  rw [← e2]
  exact congrArg (fun x => [Abs.Item.mu k.mC _, Abs.Item.mu z.mZ _, Abs.Item.mu k.mT _, Abs.Item.mu k.mS _, Abs.Item.mu k.mP _, Abs.Item.mu k.mF _, Abs.Item.mu k.mL x, Abs.Item.tk τ', Abs.Item.tk τz']) e1
end Go.Proofs.Ytaadamobapnfbaa
set_option linter.unusedVariables false
set_option linter.unusedSimpArgs false
set_option maxRecDepth 100000
namespace Go.Proofs.Ytaadamobapnfbaa
open Go Go.Abs
theorem tdecl (c : CS) (s : ByteArray) (k a : Int) : (c.decl s k a).1.t = c.t := by
  unfold CS.decl
  split
  · exact (Kept.need _ _ _ _).t.trans (Kept.need _ _ _ _).t
  · rfl
theorem tstmts {g : CS → Int → CS} (hg : ∀ c i, (g c i).t = c.t) (b : Int) : ∀ (l : List Int) (c : CS), (stmtsOf g b l c).t = c.t
  | [], c => rfl
  | i :: l, c => (tstmts hg b l _).trans (hg c i)
theorem tblock {g : CS → Int → CS} (hg : ∀ c i, (g c i).t = c.t) (c : CS) (l : List Int) : (blockOf g c l).t = c.t := tstmts hg _ l _
theorem tcase {g : CS → Int → CS} (hg : ∀ c i, (g c i).t = c.t) (c : CS) (s : St) : (stmtCase g c s).1.t = c.t := by
  have hv : (vals c s.a).1.t = c.t := (Kept.vals c s.a).t
  unfold stmtCase
  split
  · split
    · exact hv
    · exact (tdecl _ _ _ _).trans hv
  split
  · split
    · exact (Kept.need _ _ _ _).t
    · exact (tdecl _ _ _ _).trans (Kept.need _ _ _ _).t
  split
  · split
    · exact hv
    · split
      · exact ((Kept.slotOf _ _ _ _).trans (.need _ _ _ _)).t.trans hv
      · exact (Kept.slotOf _ _ _ _).t.trans hv
  split
  · split
    · exact (Kept.vals _ _).t.trans hv
    · exact ((Kept.slotOf _ _ _ _).trans (.need _ _ _ _)).t.trans ((Kept.vals _ _).t.trans hv)
  split
  · exact (tblock hg _ _).trans ((tblock hg _ _).trans ((Kept.need _ _ _ _).t.trans hv))
  split
  · exact (tblock hg _ _).trans ((Kept.need ({ (vals c s.a).1 with loops := c.loops + 1 } : CS) _ _ _).t.trans hv)
  split
  · exact (Kept.need _ _ _ _).t
  split
  · split
    · exact (Kept.need _ _ _ _).t.trans hv
    · exact (Kept.need _ _ _ _).t
  split
  · exact hv
  split
  · exact (Kept.expr6 _ _ _).t
  · rfl
theorem tputted {r : CS × Int} (i : Int) : (putted r i).t = r.1.t := by
  unfold Ytaadamobapnfbaa.putted
  split <;> rfl
theorem tstm : ∀ (n : Nat) (c : CS) (i : Int), (stm6 n c i).t = c.t
  | 0, c, i => rfl
  | n + 1, c, i => by
    unfold Ytaadamobapnfbaa.stm6
    split
    · rfl
    · exact (tputted i).trans (tcase (tstm n) _ _)
theorem stm_t {c d : CS} (h : d.t = c.t) (i : Int) : d.stm i = c.stm i := by unfold CS.stm; rw [h]
theorem caseT (n : Nat) (c : CS) (s : St) : (stmtCase (stm6 n) c s).1.t = c.t := tcase (tstm n) c s
/-- statements that put nothing bear -1 -/
def PutOk (c : CS) : Prop := ∀ (j : Nat) (s : St), c.t.stmts[j]? = some s → (s.kind < 1 ∨ 4 < s.kind) → j < c.put.length → c.put[j]? = some (-1)
theorem PutOk.same {c d : CS} (h : PutOk c) (ht : d.t = c.t) (hp : d.put = c.put) : PutOk d := by
  intro j s hj hk hl
  rw [hp] at hl ⊢
  rw [ht] at hj
  exact h j s hj hk hl
theorem PutOk.kept {c d : CS} (h : PutOk c) (hk : Kept c d) : PutOk d := h.same hk.t hk.put
theorem PutOk.decl {c : CS} (h : PutOk c) (s : ByteArray) (k a : Int) : PutOk (c.decl s k a).1 := by
  unfold CS.decl
  split
  · exact (h.kept (Kept.need _ _ _ _)).kept (Kept.need _ _ _ _)
  · exact h.same rfl rfl
theorem PutOk.stmts {g : CS → Int → CS} (hg : ∀ c i, PutOk c → PutOk (g c i)) (b : Int) : ∀ (l : List Int) (c : CS), PutOk c → PutOk (stmtsOf g b l c)
  | [], c, h => h
  | i :: l, c, h => PutOk.stmts hg b l _ ((hg c i h).same rfl rfl)
theorem PutOk.blockOf {g : CS → Int → CS} (hg : ∀ c i, PutOk c → PutOk (g c i)) (c : CS) (l : List Int) (h : PutOk c) : PutOk (blockOf g c l) :=
  (PutOk.stmts hg (c.block + 1) l { c with block := c.block + 1 } (h.same rfl rfl)).same rfl rfl
theorem PutOk.case {g : CS → Int → CS} (hg : ∀ c i, PutOk c → PutOk (g c i)) (c : CS) (s : St) (h : PutOk c) : PutOk (stmtCase g c s).1 := by
  have hv := h.kept (Kept.vals c s.a)
  unfold stmtCase
  split
  · split
    · exact hv
    · exact hv.decl _ _ _
  split
  · split
    · exact h.kept (Kept.need _ _ _ _)
    · exact (h.kept (Kept.need _ _ _ _)).decl _ _ _
  split
  · split
    · exact hv
    · split
      · exact hv.kept ((Kept.slotOf _ _ _ _).trans (.need _ _ _ _))
      · exact hv.kept (Kept.slotOf _ _ _ _)
  split
  · split
    · exact hv.kept (Kept.vals _ _)
    · exact (hv.kept (Kept.vals _ _)).kept ((Kept.slotOf _ _ _ _).trans (.need _ _ _ _))
  split
  · exact .blockOf hg _ _ (.blockOf hg _ _ (hv.kept (Kept.need _ _ _ _)))
  split
  · have h1 : PutOk ({ (vals c s.a).1 with loops := c.loops + 1 } : CS) := hv.same rfl rfl
    exact (PutOk.blockOf hg _ s.thn (h1.kept (Kept.need _ _ _ _))).same rfl rfl
  split
  · exact h.kept (Kept.need _ _ _ _)
  split
  · split
    · exact hv.kept (Kept.need _ _ _ _)
    · exact h.kept (Kept.need _ _ _ _)
  split
  · exact hv
  split
  · exact h.kept (Kept.expr6 _ _ _)
  · exact h
/-- kinds 5 and on put nothing -/
theorem case_none {g : CS → Int → CS} (c : CS) (s : St) (h : s.kind < 1 ∨ 4 < s.kind) : (stmtCase g c s).2 = -1 := by
  have h1 : ¬ s.kind = 1 := by omega
  have h2 : ¬ s.kind = 2 := by omega
  have h3 : ¬ s.kind = 3 := by omega
  have h4 : ¬ s.kind = 4 := by omega
  unfold stmtCase
  rw [if_neg h1, if_neg h2, if_neg h3, if_neg h4]
  repeat' split
  all_goals rfl
theorem stm_at {c : CS} {i : Int} {s : St} {j : Nat} (h : c.t.stmts[j]? = some s) (hj : i.toNat = j) : c.stm i = s := by
  subst hj
  simp only [CS.stm, List.getD_eq_getElem?_getD, h, Option.getD_some]
theorem PutOk.putted {c : CS} {r : CS × Int} {i : Int} (h : PutOk r.1) (hn : ((r.1.stm i).kind < 1 ∨ 4 < (r.1.stm i).kind) → r.2 = -1) : PutOk (putted r i) := by
  unfold Ytaadamobapnfbaa.putted
  split
  · intro j s hj hk hl
    have hl : j < (r.1.put.set i.toNat r.2).length := hl
    show (r.1.put.set i.toNat r.2)[j]? = _
    rw [List.length_set] at hl
    rw [List.getElem?_set]
    by_cases he : i.toNat = j
    · rw [if_pos he, if_pos (by omega)]
      have := stm_at (c := r.1) hj he
      rw [hn (by rw [this]; exact hk)]
    · rw [if_neg he]; exact h j s hj hk hl
  · exact h
theorem PutOk.stm6 : ∀ (n : Nat) (c : CS) (i : Int), PutOk c → PutOk (stm6 n c i)
  | 0, c, i, h => h
  | n + 1, c, i, h => by
    unfold Ytaadamobapnfbaa.stm6
    split
    · exact h
    · have hd : PutOk (c.setFunc i c.f) := h.same rfl rfl
      have h1 := PutOk.case (PutOk.stm6 n) (c.setFunc i c.f) (c.stm i) hd
      refine h1.putted (c := c) fun hk => ?_
      refine case_none _ _ ?_
      have ht := (caseT n (c.setFunc i c.f) (c.stm i))
      have : (stmtCase (Ytaadamobapnfbaa.stm6 n) (c.setFunc i c.f) (c.stm i)).1.stm i = c.stm i := stm_t ht i
      rw [this] at hk
      exact hk
theorem setPut_none {c : CS} (h : PutOk c) {i : Int} (h1 : i.toNat < c.t.stmts.length) (hk : (c.stm i).kind < 1 ∨ 4 < (c.stm i).kind) : c.setPut i (-1) = c := by
  unfold CS.setPut
  by_cases hl : i.toNat < c.put.length
  · have hs : c.t.stmts[i.toNat]? = some (c.stm i) := by
      simp only [CS.stm, List.getD_eq_getElem?_getD, List.getElem?_eq_getElem h1, Option.getD_some]
    have := h i.toNat _ hs hk hl
    have e : c.put.set i.toNat (-1) = c.put := by
      apply List.ext_getElem?
      intro j
      rw [List.getElem?_set]
      by_cases hj : i.toNat = j
      · rw [if_pos hj, if_pos (by omega), ← hj, this]
      · rw [if_neg hj]
    rw [e]
  · rw [List.set_eq_of_length_le (by omega)]
end Go.Proofs.Ytaadamobapnfbaa
set_option linter.unusedVariables false
set_option linter.unusedSimpArgs false
set_option maxRecDepth 100000
namespace Go.Proofs.Ytaadamobapnfbaa
open Go Go.Abs
inductive RSt (k : Mk) (z : Zt) (r : CS) : AOut → List Abs.Item → Prop
  | ok (h : r.code = 0) (z' : Zt) (hz : z'.zs = z.zs) (hc : Ckz r z') : RSt k z r (.ret (.tup [])) (ckItems r k z')
  | bad (h : r.code ≠ 0) (R : List Abs.Item) : RSt k z r (.pan (wrongV r.at_ r.code)) R
theorem RSt.of {k : Mk} {z : Zt} {r : CS} {R : List Abs.Item} (h : r.code = 0) (z' : Zt) (hz : z'.zs = z.zs) (hc : Ckz r z') (e : R = ckItems r k z') : RSt k z r (.ret (.tup [])) R := by subst e; exact .ok h z' hz hc
/-- what has gone wrong goes through -/
theorem RSt.on {k : Mk} {z : Zt} {c r : CS} (h : Stk c r) (hc : c.code ≠ 0) (R : List Abs.Item) : RSt k z r (.pan (wrongV c.at_ c.code)) R := by
  obtain ⟨h1, h2⟩ := h hc
  rw [← h1, ← h2]
  exact .bad (by rw [h1]; exact hc) R
def CCk (n : Nat) : Prop := ∀ (c : CS) (k : Mk) (z : Zt) (i : Int), Ckz c z → c.ok → c.code = 0 → PutOk c → TreeX c.t → StsWf c.t → 0 ≤ i → i < c.t.stmts.length → i < n → z.zs.length + n ≤ 1048000 → 0 ≤ c.loops → c.loops + n ≤ smax →
  ACalls Try.prog 42 [.mp k.mC 0, vi i, .agg (c.stm i).cells] (ckItems c k z) (RSt k z (stm6 n c i))
/-- a block is entered -/
def Zt.into (z : Zt) (mZ τz : Nat) : Zt := { z with mZ := mZ, τz := τz, zs := z.zs ++ [(z.τz, z.top)], top := [] }
theorem Ckz.into {c : CS} {z : Zt} (h : Ckz c z) (mZ τz : Nat) (hd : z.zs.length + 1 ≤ 1048000) : Ckz { c with block := c.block + 1 } (z.into mZ τz) := by
  refine ⟨?_, ?_, ?_, ?_, ?_, ?_⟩
  · show c.names = _; rw [h.names]; simp [Zt.all, Zt.into]
  · show c.block + 1 = _; rw [h.block]; simp [Zt.into]
  · intro n hn; simp [Zt.into] at hn
  · intro n hn
    have hn : n ∈ (z.zs.map Prod.snd).flatten ∨ n ∈ z.top := by
      simp only [Zt.into, List.map_append, List.flatten_append, List.mem_append, List.map_cons, List.map_nil, List.flatten_cons, List.flatten_nil, List.append_nil] at hn
      exact hn
    show n.block < ((z.zs ++ [(z.τz, z.top)]).length : Int)
    rw [List.length_append, List.length_singleton]
    rcases hn with hn | hn
    · have := h.outs n hn; omega
    · have := h.tops n hn; omega
  · intro l hl
    have hl : l ∈ z.all.map Prod.snd ∨ l = [] := by
      simp only [Zt.all, Zt.into, List.map_append, List.mem_append, List.map_cons, List.map_nil, List.mem_singleton] at hl ⊢
      exact hl
    rcases hl with hl | rfl
    · exact h.uniq l hl
    · exact List.Pairwise.nil
  · show (z.zs ++ [(z.τz, z.top)]).length ≤ 1048000; rw [List.length_append, List.length_singleton]; exact hd
theorem zinto_cells (z : Zt) (mZ τz : Nat) : (z.into mZ τz).all.map zcell = z.all.map zcell ++ [.il 2 (some τz) []] := by simp [Zt.all, Zt.into, zcell]
theorem zle (z : Zt) (mZ τz : Nat) : LeL (z.all.map zcell ++ ([[AV.v (.slice none 0 0)]] : List (List AV)).flatten) ((z.into mZ τz).all.map zcell) := by
  rw [zinto_cells]
  refine LeL.of _ _ (by simp) fun j x y hx hy => ?_
  by_cases h : j < (z.all.map zcell).length
  · rw [List.getElem?_append_left h] at hx hy
    rw [hx] at hy; injection hy with hy; subst hy; exact .refl _
  · rw [List.getElem?_append_right (by omega)] at hx hy
    cases hj : j - (z.all.map zcell).length with
    | zero =>
      rw [hj] at hx hy
      simp at hx hy
      subst hx; subst hy
      exact .nilT 2 _
    | succ q => rw [hj] at hx; simp at hx
set_option maxHeartbeats 8000000 in
theorem cblock_ok {n : Nat} (hS : CCk n) (c : CS) (k : Mk) (z : Zt) (l : List Int) (hz : Ckz c z) (ho : c.ok) (h0 : c.code = 0) (hp : PutOk c) (hw : TreeX c.t) (hw2 : StsWf c.t) (hl : ∀ i ∈ l, 0 ≤ i ∧ i < n ∧ i < c.t.stmts.length) (hll : l.length ≤ 1048576)
    (hd : z.zs.length + 1 + n ≤ 1048000) (hl0 : 0 ≤ c.loops) (hl1 : c.loops + n ≤ smax) :
    ACalls Try.prog 68 [.mp k.mC 0, .il 1 none (ints l)] (ckItems c k z) (RSt k z (blockOf (stm6 n) c l)) := by
  have hK := KeptS.stm6 n
  have hil := ints_len l
  have hzl := z.all_len
  have hzm : (z.all.map zcell).length = z.all.length := List.length_map ..
  generalize hr : blockOf (stm6 n) c l = r
  refine ACalls.of_code (c := _) Try.func68 rfl Try.ntmps68 (Nat.le_of_ble_eq_true rfl) ?_
  refine ACode.seq (ACode.region ?_)
  refine ASeq.q rfl rfl (QOp.move rfl rfl) ?_
  refine ASeq.q rfl rfl (QOp.move rfl rfl) ?_
  refine ASeq.q rfl rfl (QOp.nilCheckM rfl rfl) ?_
  refine ASeq.q rfl rfl (QOp.fieldM rfl rfl (tok _ rfl) rfl rfl (by decide) rfl) ?_
  refine ASeq.q rfl rfl (QOp.loadM 0 rfl rfl rfl (tok _ rfl) rfl) ?_
  refine ASeq.op rfl rfl (AOp.buildSliceR rfl (tok _ rfl) rfl (tok _ rfl) (by decide) rfl (by decide) rfl rfl rfl rfl ?_)
  refine ASeq.op rfl rfl (AOp.appendMP 1 (e := 131) (tde := TT 131) rfl rfl rfl rfl (tok _ rfl) rfl (tok _ rfl) (tok _ rfl) rfl (by decide) rfl rfl (fun _ => rfl) (by rw [hzm]; exact (Nat.mul_one _).symm) (row1 _) (by simp only [List.length_cons, List.length_nil]; omega) rfl (fun _ => ?_))
  rename_i mZ
  refine ASeq.q rfl rfl (QOp.nilCheckM rfl rfl) ?_
  refine ASeq.q rfl rfl (QOp.fieldM rfl rfl (tok _ rfl) rfl rfl (by decide) rfl) ?_
  refine ASeq.op0 rfl rfl (AOp.storeP 0 rfl rfl rfl rfl (tok _ rfl) rfl rfl rfl rfl ?_)
  refine ASeq.nil ?_
  refine ACode.newTok (fun τn => ?_)
  refine ACode.cells (cells' := (z.into mZ τn).all.map zcell) [_] [_, _, _, _, _, _, _, _] rfl (zle z mZ τn) ?_
  refine ACode.cells (cells' := ckCells { c with block := c.block + 1 } k (z.into mZ τn)) [] [_, _, _, _, _, _, _, _, _] rfl ?_ ?_
  · have e : (z.into mZ τn).all.length = z.all.length + 1 := by simp [Zt.all, Zt.into]
    simp only [ckCells, e]
    exact LeL.refl _
  refine ACode.items (R' := ckItems { c with block := c.block + 1 } k (z.into mZ τn) ++ [.tk z.τz]) _ (List.Perm.append_left [_, _, _, _, _, _, _, _] (List.Perm.swap _ _ [])) (List.Sublist.refl _) ?_
  refine ACode.seq ?_
  refine ACode.seq (ACode.region ?_)
  refine ASeq.q rfl rfl (QOp.move rfl rfl) ?_
  refine ASeq.q rfl rfl (QOp.lenI rfl rfl (tok _ rfl) rfl) ?_
  refine ASeq.q rfl rfl (QOp.move rfl rfl) ?_
  refine ASeq.nil ?_
  refine ACode.block ?_
  refine ACode.loopP (fun (x : Nat × CS × Zt) => [(0, .mp k.mC 0), (15, .il 1 none (ints l)), (16, vi ((ints l).length : Int)), (17, vi x.1)])
    (fun x => ckItems x.2.1 k x.2.2 ++ [.tk z.τz]) (fun x => l.length - x.1)
    (fun x => x.1 ≤ l.length ∧ x.2.1.code = 0 ∧ PutOk x.2.1 ∧ Ckz x.2.1 x.2.2 ∧ x.2.2.zs = z.zs ++ [(z.τz, z.top)] ∧ KeptS { c with block := c.block + 1 } x.2.1 ∧ stmtsOf (stm6 n) (c.block + 1) (l.drop x.1) x.2.1 = stmtsOf (stm6 n) (c.block + 1) l { c with block := c.block + 1 })
    (0, { c with block := c.block + 1 }, z.into mZ τn) ⟨Nat.zero_le _, h0, hp.same rfl rfl, hz.into mZ τn (by omega), rfl, .refl _, rfl⟩ (.cons rfl (.cons rfl (.cons rfl (.cons rfl .nil)))) 10 rfl ?_
  rintro ⟨q, d, y⟩ ⟨hq, hdc, hdp, hdz, hys, hkd, hX⟩
  dsimp only at hq hdc hdp hdz hys hkd hX ⊢
  have okd := hkd.ok { ho with }
  have htd : d.t = c.t := hkd.t
  have hdb : d.block = c.block + 1 := hkd.block
  have hld : d.loops = c.loops := hkd.loops
  have hyl : y.zs.length = z.zs.length + 1 := by rw [hys, List.length_append, List.length_singleton]
  refine ACode.seq (ACode.region ?_)
  refine ASeq.q rfl rfl (QOp.cmp rfl rfl rfl rfl) ?_
  refine ASeq.nil ?_
  refine ACode.seq ?_
  refine ACode.cond _ rfl (fun hb => ?_) (fun hb => ?_)
  · have hlt : q < l.length := by have := of_decide_eq_true hb; rw [hil] at this; omega
    have hget := ints_get hlt
    have hm := hl _ (List.getElem_mem hlt)
    have hrow : (d.t.stmts.map St.cells)[l[q].toNat]? = some (d.stm l[q]).cells := st_get hm.1 (by rw [htd]; exact hm.2.2)
    have hm0 := hm.1
    have hs := hS d k y l[q] hdz okd hdc hdp (by rw [htd]; exact hw) (by rw [htd]; exact hw2) hm.1 (by rw [htd]; exact hm.2.2) hm.2.1 (by omega) (by omega) (by omega)
    have hks := hK d l[q] okd
    have hpe := PutOk.stm6 n d l[q] hdp
    rw [stmts_drop _ _ _ _ _ hlt] at hX
    generalize stm6 n d l[q] = e at hs hks hpe hX
    have hst : Stk e r := by
      have h1 := Stk.stmts (Stk.stm6 n) (c.block + 1) (l.drop (q + 1)) { e with block := c.block + 1 }
      rw [hX] at h1
      rw [← hr]
      exact fun h => h1 h
    refine ACode.skip (ACode.seq (ACode.block (ACode.seq (ACode.region ?_))))
    refine ASeq.q rfl rfl (QOp.indexI rfl rfl rfl (tok _ rfl) rfl (tok _ rfl) (by omega) (by assumption)) ?_
    refine ASeq.q rfl rfl (QOp.loadI rfl rfl (tok _ rfl) rfl) ?_
    refine ASeq.q rfl rfl (QOp.assign rfl rfl) ?_
    refine ASeq.nil ?_
    refine ACode.region ?_
    refine ASeq.q rfl rfl (QOp.move rfl rfl) ?_
    refine ASeq.q rfl rfl (QOp.move rfl rfl) ?_
    refine ASeq.q rfl rfl (QOp.move rfl rfl) ?_
    refine ASeq.q rfl rfl (QOp.nilCheckM rfl rfl) ?_
    refine ASeq.q rfl rfl (QOp.fieldM rfl rfl (tok _ rfl) rfl rfl (by decide) rfl) ?_
    refine ASeq.q rfl rfl (QOp.fieldM rfl rfl (tok _ rfl) rfl rfl (by decide) rfl) ?_
    refine ASeq.q rfl rfl (QOp.loadM 0 rfl rfl rfl (tok _ rfl) rfl) ?_
    refine ASeq.q rfl rfl (QOp.move rfl rfl) ?_
    refine ASeq.q rfl rfl (QOp.indexI rfl rfl rfl (tok _ rfl) rfl (tok _ rfl) (by omega) (by assumption)) ?_
    refine ASeq.q rfl rfl (QOp.loadI rfl rfl (tok _ rfl) rfl) ?_
    refine ASeq.op rfl rfl (AOp.callP 9 rfl (by kernel_rfl) rfl rfl rfl (hs) ?_ ?_)
    rotate_left
    · (rintro _ _ (⟨_⟩ | ⟨hbad, R⟩); simp only [AExit.then, AExit.inBlock]; exact bodyQ_pan 0 rfl (.on hst hbad _))
    rintro _ _ ⟨hc, y2, hy2, hcy⟩
    refine ASeq.nil ?_
    refine ACode.region ?_
    refine ASeq.q rfl rfl (QOp.ar64 rfl rfl rfl rfl ⟨by omega, by omega⟩) ?_
    refine ASeq.q rfl rfl (QOp.move rfl rfl) ?_
    refine ASeq.nil ?_
    refine AExit.then_normal ?_
    have heb : { e with block := c.block + 1 } = e := by rw [← hdb, ← hks.block]
    rw [heb] at hX
    exact ⟨(q + 1, e, y2), 10, ⟨hlt, hc, hpe, hcy, hy2.trans hys, hkd.trans hks, hX⟩, by dsimp only; omega, .cons rfl (.cons rfl (.cons rfl (.cons rfl .nil))), rfl⟩
  · have hge : q = l.length := by have := of_decide_eq_false hb; rw [hil] at this; omega
    rw [hge, List.drop_length] at hX
    simp only [stmtsOf] at hX
    have hre : r = { d with names := c.names, block := c.block } := by rw [← hr]; unfold blockOf; rw [← hX]
    have hyl2 := y.all_len
    refine ACode.exit (AExit.then_exit (AExit.then_exit (AExit.in_same (AExit.then_normal ?_))))
    refine ACode.shrink (z.all.length) [_] [_, _, _, _, _, _, _, _] rfl ?_
    refine ACode.drawn [[], [], [1], [1, 2], [1, 2, 3], [], [5], [5, 6], [5, 6, 7], [5, 6, 7, 8], [5, 6, 7, 8, 9], [1, 2, 3, 4, 5, 6, 7, 8, 9, 10], [0, 1, 2, 3, 4, 5, 6, 7, 8, 9, 10, 11], [0, 1, 2, 3, 4, 5, 6, 7, 8, 9, 10, 11, 12], [0, 1, 2, 3, 4, 5, 6, 7, 8, 9, 10, 11, 12, 13]] (by kernel_rfl) mixed ?_
    refine DAny.qu 0 rfl rfl (by kernel_rfl) rfl (fun _ => .does _ _ rfl (.none rfl) (QOp.move rfl rfl)) ?_
    refine DAny.qu 1 rfl rfl (by kernel_rfl) rfl (fun _ => .does _ _ rfl (.none rfl) (QOp.move rfl rfl)) ?_
    refine DAny.qu 2 rfl rfl (by kernel_rfl) rfl (fun _ => .does _ _ rfl (.none rfl) (QOp.nilCheckM rfl rfl)) ?_
    refine DAny.qu 3 rfl rfl (by kernel_rfl) rfl (fun _ => .does _ _ rfl (.none rfl) (QOp.fieldM rfl rfl (tok _ rfl) rfl rfl (by decide) rfl)) ?_
    refine DAny.ld 4 rfl rfl (by kernel_rfl) rfl (.does _ _ rfl (.none rfl) (QOp.loadM 0 rfl rfl rfl (tok _ rfl) rfl)) ?_
    refine DAny.qu 5 rfl rfl (by kernel_rfl) rfl (fun _ => .does _ _ rfl (.none rfl) (QOp.move rfl rfl)) ?_
    refine DAny.qu 6 rfl rfl (by kernel_rfl) rfl (fun _ => .does _ _ rfl (.none rfl) (QOp.nilCheckM rfl rfl)) ?_
    refine DAny.qu 7 rfl rfl (by kernel_rfl) rfl (fun _ => .does _ _ rfl (.none rfl) (QOp.fieldM rfl rfl (tok _ rfl) rfl rfl (by decide) rfl)) ?_
    refine DAny.ld 8 rfl rfl (by kernel_rfl) rfl (.does _ _ rfl (.none rfl) (QOp.loadM 0 rfl rfl rfl (tok _ rfl) rfl)) ?_
    refine DAny.qu 9 rfl rfl (by kernel_rfl) rfl (fun _ => .does _ _ rfl (.none rfl) (QOp.lenM rfl rfl (tok _ rfl) rfl)) ?_
    refine DAny.qu 10 rfl rfl (by kernel_rfl) rfl (fun _ => .does _ _ rfl (.none rfl) (QOp.ar64 rfl rfl rfl rfl ⟨by omega, by omega⟩)) ?_
    refine DAny.qu 11 rfl rfl (by kernel_rfl) rfl (fun _ => .does _ _ rfl (.none rfl) (QOp.cutM rfl rfl rfl (tok _ rfl) rfl (tok _ rfl) (by omega) (by omega))) ?_
    refine DAny.qu 12 rfl rfl (by kernel_rfl) rfl (fun _ => .does _ _ rfl (.none rfl) (QOp.nilCheckM rfl rfl)) ?_
    refine DAny.qu 13 rfl rfl (by kernel_rfl) rfl (fun _ => .does _ _ rfl (.none rfl) (QOp.fieldM rfl rfl (tok _ rfl) rfl rfl (by decide) rfl)) ?_
    refine DAny.ef0 14 rfl (by kernel_rfl) (.none rfl) rfl rfl (AOp.storeP 0 rfl rfl rfl rfl (tok _ rfl) rfl rfl rfl rfl ⟨(by ((exact AllQ.nil))), ?_⟩)
    refine DAny.done (by kernel_rfl) ?_
    refine ⟨[], ckItems r k { z with mZ := y.mZ, τ := y.τ } ++ [.tk y.τz], ckItems r k { z with mZ := y.mZ, τ := y.τ }, .nil, ?_, List.sublist_append_left _ _, ?_⟩
    · refine (List.Perm.append_left [_, _, _, _, _, _, _, _] (List.Perm.swap _ _ [])).trans (List.Perm.of_eq ?_)
      have e1 : ((y.all.length : Int) - 1).toNat = ({ z with mZ := y.mZ, τ := y.τ } : Zt).all.length := by
        rw [Zt.all_len { z with mZ := y.mZ, τ := y.τ }]; show ((y.all.length : Int) - 1).toNat = z.zs.length + 1; omega
      have e2 : (y.all.map zcell).take z.all.length = ({ z with mZ := y.mZ, τ := y.τ } : Zt).all.map zcell := by
        have h1 : y.all = z.all ++ [(y.τz, y.top)] := by unfold Zt.all; rw [hys]
        rw [h1, List.map_append, List.take_left' hzm]; rfl
      have e4 : ckItems r k { z with mZ := y.mZ, τ := y.τ } = [.mu k.mC [.il 9 none (d.t.exprs.map Ex.cells), .il 9 none (d.t.stmts.map St.cells), .il 6 none (d.t.funcs.map Fu.cells), .sl 1 k.mT 0 d.type.length, .sl 1 k.mS 0 d.slot.length, .sl 1 k.mP 0 d.put.length, .sl 1 k.mF 0 d.func.length, .sl 1 k.mL 0 d.slots.length,
          vi d.f, .sl 1 y.mZ 0 ((y.all.length : Int) - 1).toNat, vi d.loops], .mu y.mZ ((y.all.map zcell).take z.all.length), .mu k.mT (d.type.map vi), .mu k.mS (d.slot.map vi), .mu k.mP (d.put.map vi), .mu k.mF (d.func.map vi), .mu k.mL (d.slotCells y.τ), .tk y.τ, .tk z.τz] := by
        rw [e1, e2, hre]; rfl
      rw [e4]
      rfl
    · refine RSt.of (by rw [hre]; exact hdc) { z with mZ := y.mZ, τ := y.τ } rfl ?_ rfl
      rw [hre]
      exact ⟨hz.names, hz.block, hz.tops, hz.outs, hz.uniq, hz.deep⟩
end Go.Proofs.Ytaadamobapnfbaa
set_option linter.unusedVariables false
set_option linter.unusedSimpArgs false
set_option maxRecDepth 100000
namespace Go.Proofs.Ytaadamobapnfbaa
open Go Go.Abs
theorem ckItems_setFunc (c : CS) (k : Mk) (z : Zt) (i n : Int) : ckItems (c.setFunc i n) k z =
    [.mu k.mC (ckCells c k z), .mu z.mZ (z.all.map zcell), .mu k.mT (c.type.map vi), .mu k.mS (c.slot.map vi), .mu k.mP (c.put.map vi), .mu k.mF ((c.func.map vi).set (0 + i.toNat * 1) (vi n)), .mu k.mL (c.slotCells z.τ), .tk z.τ, .tk z.τz] := by
  have e1 : ckCells (c.setFunc i n) k z = ckCells c k z := by simp [ckCells, CS.setFunc]
  have e2 : (c.setFunc i n).func.map vi = (c.func.map vi).set (0 + i.toNat * 1) (vi n) := by
    show (c.func.set i.toNat n).map vi = _
    rw [List.map_set, Nat.zero_add, Nat.mul_one]
  unfold ckItems
  rw [e1, e2]; rfl
theorem ckItems_setPut (c : CS) (k : Mk) (z : Zt) (i n : Int) : ckItems (c.setPut i n) k z =
    [.mu k.mC (ckCells c k z), .mu z.mZ (z.all.map zcell), .mu k.mT (c.type.map vi), .mu k.mS (c.slot.map vi), .mu k.mP ((c.put.map vi).set (0 + i.toNat * 1) (vi n)), .mu k.mF (c.func.map vi), .mu k.mL (c.slotCells z.τ), .tk z.τ, .tk z.τz] := by
  have e1 : ckCells (c.setPut i n) k z = ckCells c k z := by simp [ckCells, CS.setPut]
  have e2 : (c.setPut i n).put.map vi = (c.put.map vi).set (0 + i.toNat * 1) (vi n) := by
    show (c.put.set i.toNat n).map vi = _
    rw [List.map_set, Nat.zero_add, Nat.mul_one]
  unfold ckItems
  rw [e1, e2]; rfl
theorem Ckz.same {c d : CS} {z : Zt} (h : Ckz c z) (h1 : d.names = c.names) (h2 : d.block = c.block) : Ckz d z := ⟨by rw [h1]; exact h.names, by rw [h2]; exact h.block, h.tops, h.outs, h.uniq, h.deep⟩
theorem RSt.nok {k : Mk} {z : Zt} {c r : CS} (hc : c.code = 0) {ok : Bool} (hok : ok = false) {a n : Int} (hn : n ≠ 0) (hst : Stk (c.need ok a n) r) (R : List Abs.Item) : RSt k z r (.pan (wrongV a n)) R := by
  subst hok
  have e := need_no c hc a n
  have := RSt.on (k := k) (z := z) hst (by rw [e]; exact hn) R
  rw [e] at this
  exact this
theorem cvals_ok (c : CS) (k : Mk) (z : Zt) (i : Int) (hz : Ckz c z) (ho : c.ok) (h0 : c.code = 0) (hw : TreeX c.t) (hi0 : 0 ≤ i) (hi1 : i < c.t.exprs.length) : ACalls Try.prog 66 [.mp k.mC 0, vi i] (ckItems c k z) (RCi k z (vals c i)) :=
  cvalue_ok _ (cexprs _) c k z i hz ho h0 hw hi0 hi1 hi1
theorem Stk.put (c : CS) (v i : Int) : Stk c (Ytaadamobapnfbaa.putted (c, v) i) := Stk.putted (r := (c, v)) (Stk.refl _) i
theorem putted_at {c : CS} {v i : Int} (h : c.code = 0) : putted (c, v) i = c.setPut i v := by unfold putted; rw [if_pos h]
theorem putted_ok {r : CS × Int} {i : Int} (h : r.1.code = 0) : putted r i = r.1.setPut i r.2 := by unfold putted; rw [if_pos h]
inductive RDs (k : Mk) (z : Zt) (c : CS) (s : ByteArray) (r : CS × Int) : AOut → List Abs.Item → Prop
  | ok (h : r.1.code = 0) (τ τz : Nat) (sl : List (List Int)) (ns : List Nm) (e : r.1 = { c with slots := sl, names := ns }) : RDs k z c s r (.ret (vi r.2)) (ckItems { c with slots := sl, names := ns } k (z.more τ τz ⟨s, c.block, r.2⟩))
  | bad (h : r.1.code ≠ 0) (R : List Abs.Item) : RDs k z c s r (.pan (wrongV r.1.at_ r.1.code)) R
theorem cdeclare_same (c : CS) (k : Mk) (z : Zt) (hz : Ckz c z) (ho : c.ok) (h0 : c.code = 0) (s : ByteArray) (kind fr to : Int) :
    ACalls Try.prog 41 [.mp k.mC 0, vs s, vi kind, .agg [vi fr, vi to]] (ckItems c k z) (RDs k z c s (c.decl s kind fr)) := by
  refine (cdeclare_ok c k z hz ho h0 s kind fr to).mono ?_
  rintro _ _ (⟨h, τ, τz⟩ | ⟨h, R⟩)
  · obtain ⟨ht, h6⟩ := decl_cases h0 s kind fr h
    have e : (c.decl s kind fr).1 = { c with slots := c.slots.set c.f.toNat (c.cur ++ [kind]), names := c.names ++ [⟨s, c.block, c.cur.length⟩] } := by rw [decl_good h0 s kind fr ht h6]
    have := RDs.ok (k := k) (z := z) (c := c) (s := s) h τ τz _ _ e
    rw [← e] at this
    exact this
  · exact .bad h _
set_option maxHeartbeats 16000000 in
theorem cstmt_ok (n : Nat) (hS : CCk n) : CCk (n + 1) := by
  intro c k z i hz ho h0 hp hw hw2 hi0 hi1 hin hd hl0 hl1
  have hK := KeptS.stm6 n
  have hP := PutOk.stm6 n
  have hwf := st_wf hw2 hi0 hi1
  have hgo : stm6 (n + 1) c i = putted (stmtCase (stm6 n) (c.setFunc i c.f) (c.stm i)) i := by rw [stm6, if_neg (fun h => h h0)]
  have hlF : 0 + i.toNat * 1 < (c.func.map vi).length := by have := ho.lf; rw [List.length_map]; omega
  have hlF2 : i.toNat < c.func.length := by have := ho.lf; omega
  have hf0 := ho.f0
  rw [hgo]
  generalize hfin : putted (stmtCase (stm6 n) (c.setFunc i c.f) (c.stm i)) i = fin
  refine ACalls.of_code (c := _) Try.func42 rfl Try.ntmps42 (Nat.le_of_ble_eq_true rfl) ?_
  refine ACode.seq (ACode.region ?_)
  refine ASeq.op rfl rfl (AOp.boxP rfl rfl rfl (fun _ => rfl) (fun _ => ?_))
  refine ASeq.nil ?_
  rename_i m5
  refine ACode.seq ?_
  refine ACode.drawn [[], [0], [0, 1], [0, 1, 2], [0, 1, 2, 3], [], [], [6], [6, 7], [6, 7, 8], [0, 1, 2, 3, 4, 5, 6, 7, 8, 9], [0, 1, 2, 3, 4, 5, 6, 7, 8, 9, 10]] (by kernel_rfl) mixed ?_
  refine DAny.qu 0 rfl rfl (by kernel_rfl) rfl (fun _ => .does _ _ rfl (.none rfl) (QOp.move rfl rfl)) ?_
  refine DAny.qu 1 rfl rfl (by kernel_rfl) rfl (fun _ => .does _ _ rfl (.none rfl) (QOp.nilCheckM rfl rfl)) ?_
  refine DAny.qu 2 rfl rfl (by kernel_rfl) rfl (fun _ => .does _ _ rfl (.none rfl) (QOp.fieldM rfl rfl (tok _ rfl) rfl rfl (by decide) rfl)) ?_
  refine DAny.qu 3 rfl rfl (by kernel_rfl) rfl (fun _ => .does _ _ rfl (.none rfl) (QOp.fieldM rfl rfl (tok _ rfl) rfl rfl (by decide) rfl)) ?_
  refine DAny.ld 4 rfl rfl (by kernel_rfl) rfl (.does _ _ rfl (.none rfl) (QOp.loadM 0 rfl rfl rfl (tok _ rfl) rfl)) ?_
  refine DAny.qu 5 rfl rfl (by kernel_rfl) rfl (fun _ => .does _ _ rfl (.none rfl) (QOp.move rfl rfl)) ?_
  refine DAny.qu 6 rfl rfl (by kernel_rfl) rfl (fun _ => .does _ _ rfl (.none rfl) (QOp.move rfl rfl)) ?_
  refine DAny.qu 7 rfl rfl (by kernel_rfl) rfl (fun _ => .does _ _ rfl (.none rfl) (QOp.nilCheckM rfl rfl)) ?_
  refine DAny.qu 8 rfl rfl (by kernel_rfl) rfl (fun _ => .does _ _ rfl (.none rfl) (QOp.fieldM rfl rfl (tok _ rfl) rfl rfl (by decide) rfl)) ?_
  refine DAny.ld 9 rfl rfl (by kernel_rfl) rfl (.does _ _ rfl (.none rfl) (QOp.loadM 0 rfl rfl rfl (tok _ rfl) rfl)) ?_
  refine DAny.qu 10 rfl rfl (by kernel_rfl) rfl (fun _ => .does _ _ rfl (.none rfl) (QOp.indexM rfl rfl rfl (tok _ rfl) rfl (tok _ rfl) (by omega) (by omega) rfl)) ?_
  refine DAny.ef0 11 rfl (by kernel_rfl) (.none rfl) rfl rfl (AOp.storeAt 5 rfl rfl rfl rfl (tok _ rfl) rfl rfl (by assumption) rfl ⟨(by ((exact AllQ.nil))), ?_⟩)
  refine DAny.done (by kernel_rfl) ?_
  refine ACode.items (R' := ckItems (c.setFunc i c.f) k z ++ [.mu m5 (c.stm i).cells]) _ (List.Perm.of_eq ?_) (List.Sublist.refl _) ?_
  · rw [ckItems_setFunc]; rfl
  have hz : Ckz (c.setFunc i c.f) z := hz.same rfl rfl
  have ho : (c.setFunc i c.f).ok := (KeptS.setFunc c i c.f).ok ho
  have hp : PutOk (c.setFunc i c.f) := hp.same rfl rfl
  have h0 : (c.setFunc i c.f).code = 0 := h0
  have hl0 : 0 ≤ (c.setFunc i c.f).loops := hl0
  have hl1 : (c.setFunc i c.f).loops + (n + 1 : Nat) ≤ smax := hl1
  have hw : TreeX (c.setFunc i c.f).t := hw
  have hw2 : StsWf (c.setFunc i c.f).t := hw2
  have hi1 : i < (c.setFunc i c.f).t.stmts.length := hi1
  have hsd : (c.setFunc i c.f).stm i = c.stm i := rfl
  have hwf : StWf (c.setFunc i c.f).t.exprs.length i.toNat (c.stm i) := hwf
  clear hlF hlF2 hf0 hgo
  generalize c.setFunc i c.f = d at *
  generalize c.stm i = s at *
  have hf0 := ho.f0
  have hf1 := ho.f1
  have hlp := ho.lp
  have hbig := ho.big
  have hmax : smax = 1099511627776 := rfl
  have hval := fun (a : Int) (h0' : 0 ≤ a) (h1' : a < d.t.exprs.length) => cvals_ok d k z a hz ho h0 hw h0' h1'
  have hkv := fun (a : Int) => Kept.vals d a
  generalize hr2 : stmtCase (stm6 n) d s = r at hfin
  unfold stmtCase at hr2
  refine ACode.seq (ACode.region ?_)
  refine ASeq.q rfl rfl (QOp.fieldM rfl rfl (tok _ rfl) rfl rfl (by decide) rfl) ?_
  refine ASeq.q rfl rfl (QOp.loadM 9 rfl rfl rfl (tok _ rfl) rfl) ?_
  refine ASeq.nil ?_
  refine ACode.block (ACode.seq (ACode.region ?_))
  refine ASeq.q rfl rfl (QOp.cmp rfl rfl rfl rfl) ?_
  refine ASeq.q rfl rfl (QOp.assign rfl rfl) ?_
  refine ASeq.nil ?_
  refine AExit.then_normal ?_
  refine ACode.cond _ rfl (fun hb => ?_) (fun hb => ?_)
  · have hk1 : s.kind = 1 := eq_of_beq hb
    rw [if_pos hk1] at hr2
    have hv := hval s.a (hwf.1 (.inl hk1)) (hwf.2.1 (by omega))
    have hkv := hkv s.a
    generalize vals d s.a = v at *
    have hsv : Stk v.1 fin := by
      rw [← hfin]
      refine Stk.putted ?_ i
      rw [← hr2]
      split
      · exact .refl _
      · exact .decl _ _ _ _
    have okv := hkv.ok ho
    have hzv := hz.kept hkv
    have hdec := fun hc => cdeclare_same v.1 k z hzv okv hc s.name v.2 s.fr s.to
    have hkd := KeptS.decl okv s.name v.2 s.fr
    have hmore := fun hc τ τz h => hzv.more (c := v.1) hc s.name v.2 s.fr τ τz h
    have hr3 : v.1.code = 0 → r = v.1.decl s.name v.2 s.fr := fun h => by rw [← hr2, if_neg (fun h' => h' h)]
    generalize v.1.decl s.name v.2 s.fr = w at *
    have hlv : v.1.put.length = d.t.stmts.length := by rw [hkv.put]; exact hlp
    have hlw : w.1.put.length = d.t.stmts.length := by rw [hkd.lp]; exact hlv
    have hlt : 0 + i.toNat * 1 < (v.1.put.map vi).length := by rw [List.length_map]; omega
    refine ACode.seq (ACode.region ?_)
    refine ASeq.q rfl rfl (QOp.move rfl rfl) ?_
    refine ASeq.q rfl rfl (QOp.fieldM rfl rfl (tok _ rfl) rfl rfl (by decide) rfl) ?_
    refine ASeq.q rfl rfl (QOp.loadM 9 rfl rfl rfl (tok _ rfl) rfl) ?_
    refine ASeq.op rfl rfl (AOp.callP 9 rfl (by kernel_rfl) rfl rfl rfl (hv) ?_ ?_)
    rotate_left
    · (rintro _ _ (⟨⟩ | ⟨hbad, R⟩); simp only [AExit.then, AExit.inBlock]; exact bodyQ_pan 0 rfl (.on hsv hbad _))
    rintro _ _ ⟨hc⟩
    refine ASeq.q rfl rfl (QOp.assign rfl rfl) ?_
    refine ASeq.nil ?_
    have hr3 := hr3 hc
    have hsw : Stk w.1 fin := by
      rw [← hfin, hr3]
      first | exact (Stk.refl _).putted i | exact Stk.put _ _ _
    refine AExit.then_normal ?_
    refine ACode.drawn [[], [0], [0, 1], [0, 1, 2], [0, 1, 2, 3], [], [], [], [7], [], [], [10], [6, 7, 8, 9, 10, 11], [0, 1, 2, 3, 4, 5, 6, 7, 8, 9, 10, 11, 12], [0, 1, 2, 3, 4, 5, 6, 7, 8, 9, 10, 11, 12, 13]] (by kernel_rfl) mixed ?_
    refine DAny.qu 0 rfl rfl (by kernel_rfl) rfl (fun _ => .does _ _ rfl (.none rfl) (QOp.move rfl rfl)) ?_
    refine DAny.qu 1 rfl rfl (by kernel_rfl) rfl (fun _ => .does _ _ rfl (.none rfl) (QOp.nilCheckM rfl rfl)) ?_
    refine DAny.qu 2 rfl rfl (by kernel_rfl) rfl (fun _ => .does _ _ rfl (.none rfl) (QOp.fieldM rfl rfl (tok _ rfl) rfl rfl (by decide) rfl)) ?_
    refine DAny.qu 3 rfl rfl (by kernel_rfl) rfl (fun _ => .does _ _ rfl (.none rfl) (QOp.fieldM rfl rfl (tok _ rfl) rfl rfl (by decide) rfl)) ?_
    refine DAny.ld 4 rfl rfl (by kernel_rfl) rfl (.does _ _ rfl (.none rfl) (QOp.loadM 0 rfl rfl rfl (tok _ rfl) rfl)) ?_
    refine DAny.qu 5 rfl rfl (by kernel_rfl) rfl (fun _ => .does _ _ rfl (.none rfl) (QOp.move rfl rfl)) ?_
    refine DAny.qu 6 rfl rfl (by kernel_rfl) rfl (fun _ => .does _ _ rfl (.none rfl) (QOp.move rfl rfl)) ?_
    refine DAny.qu 7 rfl rfl (by kernel_rfl) rfl (fun _ => .does _ _ rfl (.none rfl) (QOp.fieldM rfl rfl (tok _ rfl) rfl rfl (by decide) rfl)) ?_
    refine DAny.ld 8 rfl rfl (by kernel_rfl) rfl (.does _ _ rfl (.none rfl) (QOp.loadM 9 rfl rfl rfl (tok _ rfl) rfl)) ?_
    refine DAny.qu 9 rfl rfl (by kernel_rfl) rfl (fun _ => .does _ _ rfl (.none rfl) (QOp.move rfl rfl)) ?_
    refine DAny.qu 10 rfl rfl (by kernel_rfl) rfl (fun _ => .does _ _ rfl (.none rfl) (QOp.fieldM rfl rfl (tok _ rfl) rfl rfl (by decide) rfl)) ?_
    refine DAny.ld 11 rfl rfl (by kernel_rfl) rfl (.does _ _ rfl (.none rfl) (QOp.loadM 9 rfl rfl rfl (tok _ rfl) rfl)) ?_
    refine DAny.ef 12 rfl (by kernel_rfl) (.none rfl) rfl rfl (AOp.callP 9 rfl (by kernel_rfl) rfl rfl rfl (hdec hc) ?_ ?_)
    rotate_left
    · (rintro _ _ (⟨⟩ | ⟨hbad, R⟩); simp only [AExit.then, AExit.inBlock]; exact bodyQ_pan 0 rfl (.on hsw hbad _))
    rintro _ _ ⟨hc2, τ', τz', sl, ns, hw3⟩
    refine ⟨(by ((refine AllQ.cons (.does _ _ rfl (by exact .none rfl) (QOp.loadM 0 rfl rfl rfl (tok _ rfl) rfl)) ?_); (exact AllQ.nil))), ?_⟩
    refine DAny.qu 13 rfl rfl (by kernel_rfl) rfl (fun _ => .does _ _ rfl (.none rfl) (QOp.indexM rfl rfl rfl (tok _ rfl) rfl (tok _ rfl) (by omega) (by omega) rfl)) ?_
    refine DAny.ef0 14 rfl (by kernel_rfl) (.none rfl) rfl rfl (AOp.storeAt 4 rfl rfl rfl rfl (tok _ rfl) rfl rfl (by assumption) rfl ⟨(by ((exact AllQ.nil))), ?_⟩)
    refine DAny.done (by kernel_rfl) ?_
    refine AExit.in_normal ?_
    refine bodyQ_end 9 .nil rfl ?_
    have hf : fin = w.1.setPut i w.2 := by rw [← hfin, hr3, putted_ok hc2]
    refine RSt.of (by rw [hf]; exact hc2) (z.more τ' τz' ⟨s.name, v.1.block, w.2⟩) rfl (by rw [hf]; exact (hmore hc τ' τz' hc2).same rfl rfl) ?_
    rw [hf, ckItems_setPut, hw3]; rfl
  have hk1 : ¬ s.kind = 1 := ne_of_beq_false hb
  rw [if_neg hk1] at hr2
  refine ACode.seq (ACode.region ?_)
  refine ASeq.q rfl rfl (QOp.cmp rfl rfl rfl rfl) ?_
  refine ASeq.q rfl rfl (QOp.assign rfl rfl) ?_
  refine ASeq.nil ?_
  refine AExit.then_normal ?_
  refine ACode.cond _ rfl (fun hb => ?_) (fun hb => ?_)
  · have hk2 : s.kind = 2 := eq_of_beq hb
    rw [if_pos hk2] at hr2
    have hst : Stk (d.need (decide (s.num ≥ 1) && decide (s.num ≤ 64)) s.fr 15) fin := by
      rw [← hfin]; refine Stk.putted ?_ i; rw [← hr2]
      split
      · exact .refl _
      · exact .decl _ _ _ _
    have hdec := cdeclare_same d k z hz ho h0 s.name 3 s.fr s.to
    have hkd := KeptS.decl ho s.name 3 s.fr
    have hmore := fun τ τz h => hz.more (c := d) h0 s.name 3 s.fr τ τz h
    have hr3 : (decide (s.num ≥ 1) && decide (s.num ≤ 64)) = true → r = d.decl s.name 3 s.fr := fun h => by rw [← hr2, h, need_yes, if_neg (fun h' => h' h0)]
    clear hr2
    generalize d.decl s.name 3 s.fr = w at *
    have hlt : 0 + i.toNat * 1 < (d.put.map vi).length := by rw [List.length_map]; omega
    refine ACode.seq (ACode.region ?_)
    refine ASeq.q rfl rfl (QOp.fieldM rfl rfl (tok _ rfl) rfl rfl (by decide) rfl) ?_
    refine ASeq.q rfl rfl (QOp.loadM 9 rfl rfl rfl (tok _ rfl) rfl) ?_
    refine ASeq.q rfl rfl (QOp.cmp rfl rfl rfl rfl) ?_
    refine ASeq.q rfl rfl (QOp.move rfl rfl) ?_
    refine ASeq.split 49 (decide (s.num ≥ 1)) rfl (fun hb1 => ?_) (fun hb1 => ?_)
    · rw [hb1, Bool.true_and] at hst hr3
      refine ASeq.gq _ _ rfl rfl rfl rfl (QOp.fieldM rfl rfl (tok _ rfl) rfl rfl (by decide) rfl) ?_
      refine ASeq.gq _ _ rfl rfl rfl rfl (QOp.loadM 9 rfl rfl rfl (tok _ rfl) rfl) ?_
      refine ASeq.gq _ _ rfl rfl rfl rfl (QOp.cmp rfl rfl rfl rfl) ?_
      refine ASeq.q rfl rfl (QOp.pickT rfl rfl rfl) ?_
      refine ASeq.q rfl rfl (QOp.fieldM rfl rfl (tok _ rfl) rfl rfl (by decide) rfl) ?_
      refine ASeq.q rfl rfl (QOp.loadM 9 rfl rfl rfl (tok _ rfl) rfl) ?_
      refine ASeq.op rfl rfl (AOp.callP 0 rfl (by kernel_rfl) rfl rfl rfl (cneed_ok _ s.fr s.to 15) ?_ ?_)
      rotate_left
      · (rintro _ _ (⟨⟩ | ⟨hbad⟩); simp only [AExit.then, AExit.inBlock]; exact bodyQ_pan 0 rfl (.nok h0 hbad (by decide) hst _))
      rintro _ _ ⟨hok⟩
      refine ASeq.nil ?_
      have hr3 := hr3 hok
      have hsw : Stk w.1 fin := by rw [← hfin, hr3]; first | exact (Stk.refl _).putted i | exact Stk.put _ _ _
      refine AExit.then_normal ?_
      refine ACode.drawn [[], [0], [0, 1], [0, 1, 2], [0, 1, 2, 3], [], [], [], [7], [], [9], [6, 7, 8, 9, 10], [0, 1, 2, 3, 4, 5, 6, 7, 8, 9, 10, 11], [0, 1, 2, 3, 4, 5, 6, 7, 8, 9, 10, 11, 12]] (by kernel_rfl) mixed ?_
      refine DAny.qu 0 rfl rfl (by kernel_rfl) rfl (fun _ => .does _ _ rfl (.none rfl) (QOp.move rfl rfl)) ?_
      refine DAny.qu 1 rfl rfl (by kernel_rfl) rfl (fun _ => .does _ _ rfl (.none rfl) (QOp.nilCheckM rfl rfl)) ?_
      refine DAny.qu 2 rfl rfl (by kernel_rfl) rfl (fun _ => .does _ _ rfl (.none rfl) (QOp.fieldM rfl rfl (tok _ rfl) rfl rfl (by decide) rfl)) ?_
      refine DAny.qu 3 rfl rfl (by kernel_rfl) rfl (fun _ => .does _ _ rfl (.none rfl) (QOp.fieldM rfl rfl (tok _ rfl) rfl rfl (by decide) rfl)) ?_
      refine DAny.ld 4 rfl rfl (by kernel_rfl) rfl (.does _ _ rfl (.none rfl) (QOp.loadM 0 rfl rfl rfl (tok _ rfl) rfl)) ?_
      refine DAny.qu 5 rfl rfl (by kernel_rfl) rfl (fun _ => .does _ _ rfl (.none rfl) (QOp.move rfl rfl)) ?_
      refine DAny.qu 6 rfl rfl (by kernel_rfl) rfl (fun _ => .does _ _ rfl (.none rfl) (QOp.move rfl rfl)) ?_
      refine DAny.qu 7 rfl rfl (by kernel_rfl) rfl (fun _ => .does _ _ rfl (.none rfl) (QOp.fieldM rfl rfl (tok _ rfl) rfl rfl (by decide) rfl)) ?_
      refine DAny.ld 8 rfl rfl (by kernel_rfl) rfl (.does _ _ rfl (.none rfl) (QOp.loadM 9 rfl rfl rfl (tok _ rfl) rfl)) ?_
      refine DAny.qu 9 rfl rfl (by kernel_rfl) rfl (fun _ => .does _ _ rfl (.none rfl) (QOp.fieldM rfl rfl (tok _ rfl) rfl rfl (by decide) rfl)) ?_
      refine DAny.ld 10 rfl rfl (by kernel_rfl) rfl (.does _ _ rfl (.none rfl) (QOp.loadM 9 rfl rfl rfl (tok _ rfl) rfl)) ?_
      refine DAny.ef 11 rfl (by kernel_rfl) (.none rfl) rfl rfl (AOp.callP 9 rfl (by kernel_rfl) rfl rfl rfl (hdec) ?_ ?_)
      rotate_left
      · (rintro _ _ (⟨⟩ | ⟨hbad, R⟩); simp only [AExit.then, AExit.inBlock]; exact bodyQ_pan 0 rfl (.on hsw hbad _))
      rintro _ _ ⟨hc2, τ', τz', sl, ns, hw3⟩
      refine ⟨(by ((refine AllQ.cons (.does _ _ rfl (by exact .none rfl) (QOp.loadM 0 rfl rfl rfl (tok _ rfl) rfl)) ?_); (exact AllQ.nil))), ?_⟩
      refine DAny.qu 12 rfl rfl (by kernel_rfl) rfl (fun _ => .does _ _ rfl (.none rfl) (QOp.indexM rfl rfl rfl (tok _ rfl) rfl (tok _ rfl) (by omega) (by omega) rfl)) ?_
      refine DAny.ef0 13 rfl (by kernel_rfl) (.none rfl) rfl rfl (AOp.storeAt 4 rfl rfl rfl rfl (tok _ rfl) rfl rfl (by assumption) rfl ⟨(by ((exact AllQ.nil))), ?_⟩)
      refine DAny.done (by kernel_rfl) ?_
      refine AExit.in_normal ?_
      refine bodyQ_end 9 .nil rfl ?_
      have hf : fin = w.1.setPut i w.2 := by rw [← hfin, hr3, putted_ok hc2]
      refine RSt.of (by rw [hf]; exact hc2) (z.more τ' τz' ⟨s.name, d.block, w.2⟩) rfl (by rw [hf]; exact (hmore τ' τz' hc2).same rfl rfl) ?_
      rw [hf, ckItems_setPut, hw3]; rfl
    · rw [hb1, Bool.false_and] at hst
      refine ASeq.gno _ _ rfl rfl rfl rfl rfl ?_
      refine ASeq.gno _ _ rfl rfl rfl rfl rfl ?_
      refine ASeq.gno _ _ rfl rfl rfl rfl rfl ?_
      refine ASeq.q rfl rfl (QOp.pickF rfl rfl rfl) ?_
      refine ASeq.q rfl rfl (QOp.fieldM rfl rfl (tok _ rfl) rfl rfl (by decide) rfl) ?_
      refine ASeq.q rfl rfl (QOp.loadM 9 rfl rfl rfl (tok _ rfl) rfl) ?_
      refine ASeq.op rfl rfl (AOp.callP 0 rfl (by kernel_rfl) rfl rfl rfl (cneed_ok false s.fr s.to 15) ?_ ?_)
      rotate_left
      · (rintro _ _ (⟨⟩ | ⟨hbad⟩); simp only [AExit.then, AExit.inBlock]; exact bodyQ_pan 0 rfl (.nok h0 hbad (by decide) hst _))
      rintro _ _ ⟨hok⟩
      refine ASeq.nil ?_
      cases hok
  have hk2 : ¬ s.kind = 2 := ne_of_beq_false hb
  rw [if_neg hk2] at hr2
  refine ACode.seq (ACode.region ?_)
  refine ASeq.q rfl rfl (QOp.cmp rfl rfl rfl rfl) ?_
  refine ASeq.q rfl rfl (QOp.assign rfl rfl) ?_
  refine ASeq.nil ?_
  refine AExit.then_normal ?_
  refine ACode.cond _ rfl (fun hb => ?_) (fun hb => ?_)
  · have hk3 : s.kind = 3 := eq_of_beq hb
    rw [if_pos hk3] at hr2
    have hv := hval s.a (hwf.1 (.inr (.inl hk3))) (hwf.2.1 (by omega))
    have hkv := hkv s.a
    generalize vals d s.a = v at *
    have okv := hkv.ok ho
    have hzv := hz.kept hkv
    have hpv := hp.kept hkv
    have htv : v.1.t = d.t := hkv.t
    have hlv : v.1.put.length = d.t.stmts.length := by rw [hkv.put]; exact hlp
    have hs : v.1.code = 0 → ACalls Try.prog 67 [.mp k.mC 0, vs s.name, .v (.bool false), .agg [vi s.fr, vi s.to]] (ckItems v.1 k z) (RCs k z v.1 (v.1.slotOf s.name false s.fr)) := fun h => cslot_same v.1 k z hzv okv h s.name false s.fr s.to
    have hw1 : (v.1.slotOf s.name false s.fr).1.code = 0 → (v.1.slotOf s.name false s.fr).1 = v.1 := need_stays (by decide)
    have hw2 : (v.1.slotOf s.name false s.fr).1.code = 0 → 0 ≤ (v.1.slotOf s.name false s.fr).2 ∧ (v.1.slotOf s.name false s.fr).2 < v.1.cur.length := fun h => by
      have h2 := ((need_code v.1 _ _ 6 (by decide)).1 h).2
      have h3 := okv.find_lt s.name
      have h4 : 0 ≤ v.1.find s.name := by
        unfold CS.slotOk at h2
        rw [Bool.and_eq_true] at h2
        exact of_decide_eq_true h2.1
      show 0 ≤ v.1.find s.name ∧ v.1.find s.name < _
      omega
    have hsv : Stk v.1 fin := by
      rw [← hfin]; refine Stk.putted ?_ i; rw [← hr2]
      split
      · exact .refl _
      · split
        · exact (Stk.slotOf _ _ _ _).trans (.need _ _ _ _)
        · exact .slotOf _ _ _ _
    have hr3 : v.1.code = 0 → r = if (v.1.slotOf s.name false s.fr).1.code = 0 then ((v.1.slotOf s.name false s.fr).1.need (v.2 == v.1.cur.getD (v.1.slotOf s.name false s.fr).2.toNat 0) s.fr 8, (v.1.slotOf s.name false s.fr).2) else v.1.slotOf s.name false s.fr := fun h => by rw [← hr2, if_neg (fun h' => h' h)]
    clear hr2
    generalize v.1.slotOf s.name false s.fr = w at *
    have hsw : v.1.code = 0 → Stk w.1 fin := fun h => by
      rw [← hfin, hr3 h]; refine Stk.putted ?_ i
      split
      · exact .need _ _ _ _
      · exact .refl _
    have hlt : 0 + i.toNat * 1 < (v.1.put.map vi).length := by rw [List.length_map]; omega
    have hback : ((v.1.put.map vi).set (0 + i.toNat * 1) (vi w.2))[0 + i.toNat * 1]? = some (vi w.2) := List.getElem?_set_self hlt
    have hcur := slotCells_cur okv z.τ
    have hvf0 := okv.f0
    have hvf1 := okv.f1
    have hcl := ints_len v.1.cur
    refine ACode.seq (ACode.region ?_)
    refine ASeq.q rfl rfl (QOp.move rfl rfl) ?_
    refine ASeq.q rfl rfl (QOp.fieldM rfl rfl (tok _ rfl) rfl rfl (by decide) rfl) ?_
    refine ASeq.q rfl rfl (QOp.loadM 9 rfl rfl rfl (tok _ rfl) rfl) ?_
    refine ASeq.op rfl rfl (AOp.callP 9 rfl (by kernel_rfl) rfl rfl rfl (hv) ?_ ?_)
    rotate_left
    · (rintro _ _ (⟨⟩ | ⟨hbad, R⟩); simp only [AExit.then, AExit.inBlock]; exact bodyQ_pan 0 rfl (.on hsv hbad _))
    rintro _ _ ⟨hc⟩
    refine ASeq.q rfl rfl (QOp.assign rfl rfl) ?_
    refine ASeq.nil ?_
    have hr3 := hr3 hc
    have hsw := hsw hc
    refine ACode.seq ?_
    refine ACode.drawn [[], [0], [0, 1], [0, 1, 2], [0, 1, 2, 3], [], [], [], [7], [], [9], [6, 7, 8, 9, 10], [0, 1, 2, 3, 4, 5, 6, 7, 8, 9, 10, 11], [0, 1, 2, 3, 4, 5, 6, 7, 8, 9, 10, 11, 12]] (by kernel_rfl) mixed ?_
    refine DAny.qu 0 rfl rfl (by kernel_rfl) rfl (fun _ => .does _ _ rfl (.none rfl) (QOp.move rfl rfl)) ?_
    refine DAny.qu 1 rfl rfl (by kernel_rfl) rfl (fun _ => .does _ _ rfl (.none rfl) (QOp.nilCheckM rfl rfl)) ?_
    refine DAny.qu 2 rfl rfl (by kernel_rfl) rfl (fun _ => .does _ _ rfl (.none rfl) (QOp.fieldM rfl rfl (tok _ rfl) rfl rfl (by decide) rfl)) ?_
    refine DAny.qu 3 rfl rfl (by kernel_rfl) rfl (fun _ => .does _ _ rfl (.none rfl) (QOp.fieldM rfl rfl (tok _ rfl) rfl rfl (by decide) rfl)) ?_
    refine DAny.ld 4 rfl rfl (by kernel_rfl) rfl (.does _ _ rfl (.none rfl) (QOp.loadM 0 rfl rfl rfl (tok _ rfl) rfl)) ?_
    refine DAny.qu 5 rfl rfl (by kernel_rfl) rfl (fun _ => .does _ _ rfl (.none rfl) (QOp.move rfl rfl)) ?_
    refine DAny.qu 6 rfl rfl (by kernel_rfl) rfl (fun _ => .does _ _ rfl (.none rfl) (QOp.move rfl rfl)) ?_
    refine DAny.qu 7 rfl rfl (by kernel_rfl) rfl (fun _ => .does _ _ rfl (.none rfl) (QOp.fieldM rfl rfl (tok _ rfl) rfl rfl (by decide) rfl)) ?_
    refine DAny.ld 8 rfl rfl (by kernel_rfl) rfl (.does _ _ rfl (.none rfl) (QOp.loadM 9 rfl rfl rfl (tok _ rfl) rfl)) ?_
    refine DAny.qu 9 rfl rfl (by kernel_rfl) rfl (fun _ => .does _ _ rfl (.none rfl) (QOp.fieldM rfl rfl (tok _ rfl) rfl rfl (by decide) rfl)) ?_
    refine DAny.ld 10 rfl rfl (by kernel_rfl) rfl (.does _ _ rfl (.none rfl) (QOp.loadM 9 rfl rfl rfl (tok _ rfl) rfl)) ?_
    refine DAny.ef 11 rfl (by kernel_rfl) (.none rfl) rfl rfl (AOp.callP 9 rfl (by kernel_rfl) rfl rfl rfl (hs hc) ?_ ?_)
    rotate_left
    · (rintro _ _ (⟨⟩ | ⟨hbad, R⟩); simp only [AExit.then, AExit.inBlock]; exact bodyQ_pan 0 rfl (.on hsw hbad _))
    rintro _ _ ⟨hc2⟩
    refine ⟨(by ((refine AllQ.cons (.does _ _ rfl (by exact .none rfl) (QOp.loadM 0 rfl rfl rfl (tok _ rfl) rfl)) ?_); (exact AllQ.nil))), ?_⟩
    refine DAny.qu 12 rfl rfl (by kernel_rfl) rfl (fun _ => .does _ _ rfl (.none rfl) (QOp.indexM rfl rfl rfl (tok _ rfl) rfl (tok _ rfl) (by omega) (by omega) rfl)) ?_
    refine DAny.ef0 13 rfl (by kernel_rfl) (.none rfl) rfl rfl (AOp.storeAt 4 rfl rfl rfl rfl (tok _ rfl) rfl rfl (by assumption) rfl ⟨(by ((exact AllQ.nil))), ?_⟩)
    refine DAny.done (by kernel_rfl) ?_
    have hw3 := hw2 hc2
    have hget := cur_get (c := v.1) hw3.1 hw3.2
    rw [if_pos hc2, hw1 hc2] at hr3
    have hst : Stk (v.1.need (v.2 == v.1.cur.getD w.2.toNat 0) s.fr 8) fin := by rw [← hfin, hr3]; first | exact (Stk.refl _).putted i | exact Stk.put _ _ _
    refine AExit.then_normal ?_
    refine ACode.drawn [[], [], [1], [1, 2], [1, 2, 3], [1, 2, 3, 4], [], [6], [6, 7], [6, 7, 8], [1, 2, 3, 4, 5, 6, 7, 8, 9], [1, 2, 3, 4, 5, 6, 7, 8, 9, 10], [], [12], [12, 13], [12, 13, 14], [12, 13, 14, 15], [], [12, 13, 14, 15, 16, 17], [12, 13, 14, 15, 16, 17, 18], [1, 2, 3, 4, 5, 6, 7, 8, 9, 10, 11, 12, 13, 14, 15, 16, 17, 18, 19], [1, 2, 3, 4, 5, 6, 7, 8, 9, 10, 11, 12, 13, 14, 15, 16, 17, 18, 19, 20], [0, 1, 2, 3, 4, 5, 6, 7, 8, 9, 10, 11, 12, 13, 14, 15, 16, 17, 18, 19, 20, 21], [], [23], [0, 1, 2, 3, 4, 5, 6, 7, 8, 9, 10, 11, 12, 13, 14, 15, 16, 17, 18, 19, 20, 21, 22, 23, 24]] (by kernel_rfl) mixed ?_
    refine DAny.qu 0 rfl rfl (by kernel_rfl) rfl (fun _ => .does _ _ rfl (.none rfl) (QOp.move rfl rfl)) ?_
    refine DAny.qu 1 rfl rfl (by kernel_rfl) rfl (fun _ => .does _ _ rfl (.none rfl) (QOp.move rfl rfl)) ?_
    refine DAny.qu 2 rfl rfl (by kernel_rfl) rfl (fun _ => .does _ _ rfl (.none rfl) (QOp.nilCheckM rfl rfl)) ?_
    refine DAny.qu 3 rfl rfl (by kernel_rfl) rfl (fun _ => .does _ _ rfl (.none rfl) (QOp.fieldM rfl rfl (tok _ rfl) rfl rfl (by decide) rfl)) ?_
    refine DAny.qu 4 rfl rfl (by kernel_rfl) rfl (fun _ => .does _ _ rfl (.none rfl) (QOp.fieldM rfl rfl (tok _ rfl) rfl rfl (by decide) rfl)) ?_
    refine DAny.ld 5 rfl rfl (by kernel_rfl) rfl (.does _ _ rfl (.none rfl) (QOp.loadM 0 rfl rfl rfl (tok _ rfl) rfl)) ?_
    refine DAny.qu 6 rfl rfl (by kernel_rfl) rfl (fun _ => .does _ _ rfl (.none rfl) (QOp.move rfl rfl)) ?_
    refine DAny.qu 7 rfl rfl (by kernel_rfl) rfl (fun _ => .does _ _ rfl (.none rfl) (QOp.nilCheckM rfl rfl)) ?_
    refine DAny.qu 8 rfl rfl (by kernel_rfl) rfl (fun _ => .does _ _ rfl (.none rfl) (QOp.fieldM rfl rfl (tok _ rfl) rfl rfl (by decide) rfl)) ?_
    refine DAny.ld 9 rfl rfl (by kernel_rfl) rfl (.does _ _ rfl (.none rfl) (QOp.loadM 0 rfl rfl rfl (tok _ rfl) rfl)) ?_
    refine DAny.qu 10 rfl rfl (by kernel_rfl) rfl (fun _ => .does _ _ rfl (.none rfl) (QOp.indexM rfl rfl rfl (tok _ rfl) rfl (tok _ rfl) (by omega) (by omega) rfl)) ?_
    refine DAny.ld 11 rfl rfl (by kernel_rfl) rfl (.does _ _ rfl (.none rfl) (QOp.loadAt 6 rfl rfl rfl (tok _ rfl) rfl (by assumption))) ?_
    refine DAny.qu 12 rfl rfl (by kernel_rfl) rfl (fun _ => .does _ _ rfl (.none rfl) (QOp.move rfl rfl)) ?_
    refine DAny.qu 13 rfl rfl (by kernel_rfl) rfl (fun _ => .does _ _ rfl (.none rfl) (QOp.nilCheckM rfl rfl)) ?_
    refine DAny.qu 14 rfl rfl (by kernel_rfl) rfl (fun _ => .does _ _ rfl (.none rfl) (QOp.fieldM rfl rfl (tok _ rfl) rfl rfl (by decide) rfl)) ?_
    refine DAny.qu 15 rfl rfl (by kernel_rfl) rfl (fun _ => .does _ _ rfl (.none rfl) (QOp.fieldM rfl rfl (tok _ rfl) rfl rfl (by decide) rfl)) ?_
    refine DAny.ld 16 rfl rfl (by kernel_rfl) rfl (.does _ _ rfl (.none rfl) (QOp.loadM 0 rfl rfl rfl (tok _ rfl) rfl)) ?_
    refine DAny.qu 17 rfl rfl (by kernel_rfl) rfl (fun _ => .does _ _ rfl (.none rfl) (QOp.move rfl rfl)) ?_
    refine DAny.qu 18 rfl rfl (by kernel_rfl) rfl (fun _ => .does _ _ rfl (.none rfl) (QOp.indexM rfl rfl rfl (tok _ rfl) rfl (tok _ rfl) (by omega) (by omega) rfl)) ?_
    refine DAny.ld 19 rfl rfl (by kernel_rfl) rfl (.does _ _ rfl (.none rfl) (QOp.loadAt 4 rfl rfl rfl (tok _ rfl) rfl (by assumption))) ?_
    refine DAny.qu 20 rfl rfl (by kernel_rfl) rfl (fun _ => .does _ _ rfl (.none rfl) (QOp.indexI rfl rfl rfl (tok _ rfl) rfl (tok _ rfl) (by omega) (by assumption))) ?_
    refine DAny.qu 21 rfl rfl (by kernel_rfl) rfl (fun _ => .does _ _ rfl (.none rfl) (QOp.loadI rfl rfl (tok _ rfl) rfl)) ?_
    refine DAny.qu 22 rfl rfl (by kernel_rfl) rfl (fun _ => .does _ _ rfl (.none rfl) (QOp.cmp rfl rfl rfl rfl)) ?_
    refine DAny.qu 23 rfl rfl (by kernel_rfl) rfl (fun _ => .does _ _ rfl (.none rfl) (QOp.fieldM rfl rfl (tok _ rfl) rfl rfl (by decide) rfl)) ?_
    refine DAny.ld 24 rfl rfl (by kernel_rfl) rfl (.does _ _ rfl (.none rfl) (QOp.loadM 9 rfl rfl rfl (tok _ rfl) rfl)) ?_
    refine DAny.ef 25 rfl (by kernel_rfl) (.none rfl) rfl rfl (AOp.callP 0 rfl (by kernel_rfl) rfl rfl rfl (cneed_ok _ s.fr s.to 8) ?_ ?_)
    rotate_left
    · (rintro _ _ (⟨⟩ | ⟨hbad⟩); simp only [AExit.then, AExit.inBlock]; exact bodyQ_pan 0 rfl (.nok hc hbad (by decide) hst _))
    rintro _ _ ⟨hok⟩
    refine ⟨(by ((exact AllQ.nil))), ?_⟩
    refine DAny.done (by kernel_rfl) ?_
    refine AExit.in_normal ?_
    refine bodyQ_end 9 .nil rfl ?_
    have hf : fin = v.1.setPut i w.2 := by rw [← hfin, hr3, hok, need_yes, putted_at hc]
    refine RSt.of (by rw [hf]; exact hc) z rfl (by rw [hf]; exact hzv.same rfl rfl) ?_
    rw [hf, ckItems_setPut]; rfl
  have hk3 : ¬ s.kind = 3 := ne_of_beq_false hb
  rw [if_neg hk3] at hr2
  refine ACode.seq (ACode.region ?_)
  refine ASeq.q rfl rfl (QOp.cmp rfl rfl rfl rfl) ?_
  refine ASeq.q rfl rfl (QOp.assign rfl rfl) ?_
  refine ASeq.nil ?_
  refine AExit.then_normal ?_
  refine ACode.cond _ rfl (fun hb => ?_) (fun hb => ?_)
  · have hk4 : s.kind = 4 := eq_of_beq hb
    rw [if_pos hk4] at hr2
    have hbb := hwf.2.2.1 hk4
    have hv := hval s.a (hwf.1 (.inr (.inr (.inl hk4)))) (hwf.2.1 (by omega))
    have hkv := hkv s.a
    generalize vals d s.a = v at *
    have okv := hkv.ok ho
    have hzv := hz.kept hkv
    have hpv := hp.kept hkv
    have htv : v.1.t = d.t := hkv.t
    have hlv : v.1.put.length = d.t.stmts.length := by rw [hkv.put]; exact hlp
    have hv2 := fun hc => cvals_ok v.1 k z s.b hzv okv hc (by rw [htv]; exact hw) hbb.1 (by rw [htv]; exact hbb.2)
    have hkw := Kept.vals v.1 s.b
    have hvw : Stk v.1 (vals v.1 s.b).1 := .vals _ _
    generalize vals v.1 s.b = w at *
    have okw := hkw.ok okv
    have hzw := hzv.kept hkw
    have hlw : w.1.put.length = d.t.stmts.length := by rw [hkw.put]; exact hlv
    have hs : w.1.code = 0 → ACalls Try.prog 67 [.mp k.mC 0, vs s.name, .v (.bool true), .agg [vi s.fr, vi s.to]] (ckItems w.1 k z) (RCs k z w.1 (w.1.slotOf s.name true s.fr)) := fun h => cslot_same w.1 k z hzw okw h s.name true s.fr s.to
    have hw1 : (w.1.slotOf s.name true s.fr).1.code = 0 → (w.1.slotOf s.name true s.fr).1 = w.1 := need_stays (by decide)
    have hwu : Stk w.1 (w.1.slotOf s.name true s.fr).1 := .slotOf _ _ _ _
    generalize w.1.slotOf s.name true s.fr = u at *
    have hsw : Stk w.1 fin := by
      rw [← hfin]; refine Stk.putted ?_ i; rw [← hr2]
      split
      · exact .refl _
      · exact hwu.trans (.need _ _ _ _)
    have hsv := hvw.trans hsw
    have hr3 : w.1.code = 0 → r = (u.1.need ((v.2 == 1) && (w.2 == 1)) s.fr 8, u.2) := fun h => by rw [← hr2, if_neg (fun h' => h' h)]
    have hsu : w.1.code = 0 → Stk u.1 fin := fun h => by
      rw [← hfin, hr3 h]; refine Stk.putted ?_ i
      exact .need _ _ _ _
    clear hr2
    have hlt : 0 + i.toNat * 1 < (w.1.put.map vi).length := by rw [List.length_map]; omega
    refine ACode.seq ?_
    refine ACode.drawn [[], [], [1], [0, 1, 2], [], [], [5], [0, 1, 2, 3, 4, 5, 6], [0, 1, 2, 3, 4, 5, 6, 7], [0, 1, 2, 3, 4, 5, 6, 7, 8]] (by kernel_rfl) mixed ?_
    refine DAny.qu 0 rfl rfl (by kernel_rfl) rfl (fun _ => .does _ _ rfl (.none rfl) (QOp.move rfl rfl)) ?_
    refine DAny.qu 1 rfl rfl (by kernel_rfl) rfl (fun _ => .does _ _ rfl (.none rfl) (QOp.fieldM rfl rfl (tok _ rfl) rfl rfl (by decide) rfl)) ?_
    refine DAny.ld 2 rfl rfl (by kernel_rfl) rfl (.does _ _ rfl (.none rfl) (QOp.loadM 9 rfl rfl rfl (tok _ rfl) rfl)) ?_
    refine DAny.qu 4 rfl rfl (by kernel_rfl) rfl (fun _ => .does _ _ rfl (.none rfl) (QOp.move rfl rfl)) ?_
    refine DAny.qu 5 rfl rfl (by kernel_rfl) rfl (fun _ => .does _ _ rfl (.none rfl) (QOp.fieldM rfl rfl (tok _ rfl) rfl rfl (by decide) rfl)) ?_
    refine DAny.ld 6 rfl rfl (by kernel_rfl) rfl (.does _ _ rfl (.none rfl) (QOp.loadM 9 rfl rfl rfl (tok _ rfl) rfl)) ?_
    refine DAny.ef 3 rfl (by kernel_rfl) (.none rfl) rfl rfl (AOp.callP 9 rfl (by kernel_rfl) rfl rfl rfl (hv) ?_ ?_)
    rotate_left
    · (rintro _ _ (⟨⟩ | ⟨hbad, R⟩); simp only [AExit.then, AExit.inBlock]; exact bodyQ_pan 0 rfl (.on hsv hbad _))
    rintro _ _ ⟨hc⟩
    refine ⟨(by ((refine AllQ.cons (.does _ _ rfl (by exact .none rfl) (QOp.loadM 9 rfl rfl rfl (tok _ rfl) rfl)) ?_); (exact AllQ.nil))), ?_⟩
    refine DAny.ef 7 rfl (by kernel_rfl) (.none rfl) rfl rfl (AOp.callP 9 rfl (by kernel_rfl) rfl rfl rfl (hv2 hc) ?_ ?_)
    rotate_left
    · (rintro _ _ (⟨⟩ | ⟨hbad, R⟩); simp only [AExit.then, AExit.inBlock]; exact bodyQ_pan 0 rfl (.on hsw hbad _))
    rintro _ _ ⟨hc2⟩
    refine ⟨(by ((exact AllQ.nil))), ?_⟩
    refine DAny.ef 8 rfl (by kernel_rfl) (.none rfl) rfl rfl (.q (QOp.assign rfl rfl) ⟨(by ((exact AllQ.nil))), ?_⟩)
    refine DAny.ef 9 rfl (by kernel_rfl) (.none rfl) rfl rfl (.q (QOp.assign rfl rfl) ⟨(by ((exact AllQ.nil))), ?_⟩)
    refine DAny.done (by kernel_rfl) ?_
    have hr3 := hr3 hc2
    refine ACode.seq ?_
    refine ACode.drawn [[], [0], [0, 1], [0, 1, 2], [0, 1, 2, 3], [], [], [], [7], [], [9], [6, 7, 8, 9, 10], [0, 1, 2, 3, 4, 5, 6, 7, 8, 9, 10, 11], [0, 1, 2, 3, 4, 5, 6, 7, 8, 9, 10, 11, 12]] (by kernel_rfl) mixed ?_
    refine DAny.qu 0 rfl rfl (by kernel_rfl) rfl (fun _ => .does _ _ rfl (.none rfl) (QOp.move rfl rfl)) ?_
    refine DAny.qu 1 rfl rfl (by kernel_rfl) rfl (fun _ => .does _ _ rfl (.none rfl) (QOp.nilCheckM rfl rfl)) ?_
    refine DAny.qu 2 rfl rfl (by kernel_rfl) rfl (fun _ => .does _ _ rfl (.none rfl) (QOp.fieldM rfl rfl (tok _ rfl) rfl rfl (by decide) rfl)) ?_
    refine DAny.qu 3 rfl rfl (by kernel_rfl) rfl (fun _ => .does _ _ rfl (.none rfl) (QOp.fieldM rfl rfl (tok _ rfl) rfl rfl (by decide) rfl)) ?_
    refine DAny.ld 4 rfl rfl (by kernel_rfl) rfl (.does _ _ rfl (.none rfl) (QOp.loadM 0 rfl rfl rfl (tok _ rfl) rfl)) ?_
    refine DAny.qu 5 rfl rfl (by kernel_rfl) rfl (fun _ => .does _ _ rfl (.none rfl) (QOp.move rfl rfl)) ?_
    refine DAny.qu 6 rfl rfl (by kernel_rfl) rfl (fun _ => .does _ _ rfl (.none rfl) (QOp.move rfl rfl)) ?_
    refine DAny.qu 7 rfl rfl (by kernel_rfl) rfl (fun _ => .does _ _ rfl (.none rfl) (QOp.fieldM rfl rfl (tok _ rfl) rfl rfl (by decide) rfl)) ?_
    refine DAny.ld 8 rfl rfl (by kernel_rfl) rfl (.does _ _ rfl (.none rfl) (QOp.loadM 9 rfl rfl rfl (tok _ rfl) rfl)) ?_
    refine DAny.qu 9 rfl rfl (by kernel_rfl) rfl (fun _ => .does _ _ rfl (.none rfl) (QOp.fieldM rfl rfl (tok _ rfl) rfl rfl (by decide) rfl)) ?_
    refine DAny.ld 10 rfl rfl (by kernel_rfl) rfl (.does _ _ rfl (.none rfl) (QOp.loadM 9 rfl rfl rfl (tok _ rfl) rfl)) ?_
    refine DAny.ef 11 rfl (by kernel_rfl) (.none rfl) rfl rfl (AOp.callP 9 rfl (by kernel_rfl) rfl rfl rfl (hs hc2) ?_ ?_)
    rotate_left
    · (rintro _ _ (⟨⟩ | ⟨hbad, R⟩); simp only [AExit.then, AExit.inBlock]; exact bodyQ_pan 0 rfl (.on (hsu hc2) hbad _))
    rintro _ _ ⟨hc3⟩
    refine ⟨(by ((refine AllQ.cons (.does _ _ rfl (by exact .none rfl) (QOp.loadM 0 rfl rfl rfl (tok _ rfl) rfl)) ?_); (exact AllQ.nil))), ?_⟩
    refine DAny.qu 12 rfl rfl (by kernel_rfl) rfl (fun _ => .does _ _ rfl (.none rfl) (QOp.indexM rfl rfl rfl (tok _ rfl) rfl (tok _ rfl) (by omega) (by omega) rfl)) ?_
    refine DAny.ef0 13 rfl (by kernel_rfl) (.none rfl) rfl rfl (AOp.storeAt 4 rfl rfl rfl rfl (tok _ rfl) rfl rfl (by assumption) rfl ⟨(by ((exact AllQ.nil))), ?_⟩)
    refine DAny.done (by kernel_rfl) ?_
    rw [hw1 hc3] at hr3
    have hst : Stk (w.1.need ((v.2 == 1) && (w.2 == 1)) s.fr 8) fin := by rw [← hfin, hr3]; first | exact (Stk.refl _).putted i | exact Stk.put _ _ _
    refine ACode.region ?_
    refine ASeq.q rfl rfl (QOp.move rfl rfl) ?_
    refine ASeq.q rfl rfl (QOp.cmp rfl rfl rfl rfl) ?_
    refine ASeq.q rfl rfl (QOp.move rfl rfl) ?_
    refine ASeq.split 140 (v.2 == 1) rfl (fun hb1 => ?_) (fun hb1 => ?_)
    · rw [hb1, Bool.true_and] at hst hr3
      refine ASeq.gq _ _ rfl rfl rfl rfl (QOp.move rfl rfl) ?_
      refine ASeq.gq _ _ rfl rfl rfl rfl (QOp.cmp rfl rfl rfl rfl) ?_
      refine ASeq.q rfl rfl (QOp.pickT rfl rfl rfl) ?_
      refine ASeq.q rfl rfl (QOp.fieldM rfl rfl (tok _ rfl) rfl rfl (by decide) rfl) ?_
      refine ASeq.q rfl rfl (QOp.loadM 9 rfl rfl rfl (tok _ rfl) rfl) ?_
      refine ASeq.op rfl rfl (AOp.callP 0 rfl (by kernel_rfl) rfl rfl rfl (cneed_ok _ s.fr s.to 8) ?_ ?_)
      rotate_left
      · (rintro _ _ (⟨⟩ | ⟨hbad⟩); simp only [AExit.then, AExit.inBlock]; exact bodyQ_pan 0 rfl (.nok hc2 hbad (by decide) hst _))
      rintro _ _ ⟨hok⟩
      refine ASeq.nil ?_
      refine AExit.in_normal ?_
      refine bodyQ_end 9 .nil rfl ?_
      have hf : fin = w.1.setPut i u.2 := by rw [← hfin, hr3, hok, need_yes, putted_at hc2]
      refine RSt.of (by rw [hf]; exact hc2) z rfl (by rw [hf]; exact hzw.same rfl rfl) ?_
      rw [hf, ckItems_setPut]; rfl
    · rw [hb1, Bool.false_and] at hst
      refine ASeq.gno _ _ rfl rfl rfl rfl rfl ?_
      refine ASeq.gno _ _ rfl rfl rfl rfl rfl ?_
      refine ASeq.q rfl rfl (QOp.pickF rfl rfl rfl) ?_
      refine ASeq.q rfl rfl (QOp.fieldM rfl rfl (tok _ rfl) rfl rfl (by decide) rfl) ?_
      refine ASeq.q rfl rfl (QOp.loadM 9 rfl rfl rfl (tok _ rfl) rfl) ?_
      refine ASeq.op rfl rfl (AOp.callP 0 rfl (by kernel_rfl) rfl rfl rfl (cneed_ok false s.fr s.to 8) ?_ ?_)
      rotate_left
      · (rintro _ _ (⟨⟩ | ⟨hbad⟩); simp only [AExit.then, AExit.inBlock]; exact bodyQ_pan 0 rfl (.nok hc2 hbad (by decide) hst _))
      rintro _ _ ⟨hok⟩
      refine ASeq.nil ?_
      cases hok
  have hk4 : ¬ s.kind = 4 := ne_of_beq_false hb
  rw [if_neg hk4] at hr2
  refine ACode.seq (ACode.region ?_)
  refine ASeq.q rfl rfl (QOp.cmp rfl rfl rfl rfl) ?_
  refine ASeq.q rfl rfl (QOp.assign rfl rfl) ?_
  refine ASeq.nil ?_
  refine AExit.then_normal ?_
  refine ACode.cond _ rfl (fun hb => ?_) (fun hb => ?_)
  · have hk5 : s.kind = 5 := eq_of_beq hb
    rw [if_pos hk5] at hr2
    have hv := hval s.a (hwf.1 (.inr (.inr (.inr (.inl hk5))))) (hwf.2.1 (by omega))
    have hkv := hkv s.a
    generalize vals d s.a = v at *
    have okv := hkv.ok ho
    have hzv := hz.kept hkv
    have hpv := hp.kept hkv
    have htv : v.1.t = d.t := hkv.t
    have hlv : v.1.put.length = d.t.stmts.length := by rw [hkv.put]; exact hlp
    have hvl : v.1.loops = d.loops := hkv.loops
    have hst : Stk (v.1.need (v.2 == 2) s.fr 8) fin := by
      rw [← hfin]; refine Stk.putted ?_ i; rw [← hr2]
      exact (Stk.blockOf (Stk.stm6 n) _ _).trans (.blockOf (Stk.stm6 n) _ _)
    have hsv : Stk v.1 fin := (Stk.need _ _ _ _).trans hst
    refine ACode.seq ?_
    refine ACode.drawn [[], [], [1], [0, 1, 2], [0, 1, 2, 3], [], [5], [0, 1, 2, 3, 4, 5, 6]] (by kernel_rfl) mixed ?_
    refine DAny.qu 0 rfl rfl (by kernel_rfl) rfl (fun _ => .does _ _ rfl (.none rfl) (QOp.move rfl rfl)) ?_
    refine DAny.qu 1 rfl rfl (by kernel_rfl) rfl (fun _ => .does _ _ rfl (.none rfl) (QOp.fieldM rfl rfl (tok _ rfl) rfl rfl (by decide) rfl)) ?_
    refine DAny.ld 2 rfl rfl (by kernel_rfl) rfl (.does _ _ rfl (.none rfl) (QOp.loadM 9 rfl rfl rfl (tok _ rfl) rfl)) ?_
    refine DAny.qu 5 rfl rfl (by kernel_rfl) rfl (fun _ => .does _ _ rfl (.none rfl) (QOp.fieldM rfl rfl (tok _ rfl) rfl rfl (by decide) rfl)) ?_
    refine DAny.ld 6 rfl rfl (by kernel_rfl) rfl (.does _ _ rfl (.none rfl) (QOp.loadM 9 rfl rfl rfl (tok _ rfl) rfl)) ?_
    refine DAny.ef 3 rfl (by kernel_rfl) (.none rfl) rfl rfl (AOp.callP 9 rfl (by kernel_rfl) rfl rfl rfl (hv) ?_ ?_)
    rotate_left
    · (rintro _ _ (⟨⟩ | ⟨hbad, R⟩); simp only [AExit.then, AExit.inBlock]; exact bodyQ_pan 0 rfl (.on hsv hbad _))
    rintro _ _ ⟨hc⟩
    refine ⟨(by ((refine AllQ.cons (.does _ _ rfl (by exact .none rfl) (QOp.loadM 9 rfl rfl rfl (tok _ rfl) rfl)) ?_); (exact AllQ.nil))), ?_⟩
    refine DAny.qu 4 rfl rfl (by kernel_rfl) rfl (fun _ => .does _ _ rfl (.none rfl) (QOp.cmp rfl rfl rfl rfl)) ?_
    refine DAny.ef 7 rfl (by kernel_rfl) (.none rfl) rfl rfl (AOp.callP 0 rfl (by kernel_rfl) rfl rfl rfl (cneed_ok _ s.fr s.to 8) ?_ ?_)
    rotate_left
    · (rintro _ _ (⟨⟩ | ⟨hbad⟩); simp only [AExit.then, AExit.inBlock]; exact bodyQ_pan 0 rfl (.nok hc hbad (by decide) hst _))
    rintro _ _ ⟨hok⟩
    refine ⟨(by ((exact AllQ.nil))), ?_⟩
    refine DAny.done (by kernel_rfl) ?_
    rw [hok, need_yes] at hr2
    have hblk := cblock_ok hS v.1 k z s.thn hzv okv hc hpv (by rw [htv]; exact hw) (by rw [htv]; exact hw2) (fun j hj => by have := hwf.2.2.2.1 j hj; rw [htv]; omega) hwf.2.2.2.2.2.1 (by omega) (by omega) (by omega)
    have hky := KeptS.blockOf hK v.1 s.thn okv
    have hpy := PutOk.blockOf hP v.1 s.thn hpv
    generalize blockOf (stm6 n) v.1 s.thn = y at *
    have oky := hky.ok okv
    have hty : y.t = d.t := hky.t.trans htv
    have hyl : y.loops = d.loops := hky.loops.trans hvl
    have hsy : Stk y fin := by
      rw [← hfin]; refine Stk.putted ?_ i; rw [← hr2]
      exact .blockOf (Stk.stm6 n) _ _
    refine ACode.seq (ACode.region ?_)
    refine ASeq.q rfl rfl (QOp.move rfl rfl) ?_
    refine ASeq.q rfl rfl (QOp.fieldM rfl rfl (tok _ rfl) rfl rfl (by decide) rfl) ?_
    refine ASeq.q rfl rfl (QOp.loadM 9 rfl rfl rfl (tok _ rfl) rfl) ?_
    refine ASeq.op rfl rfl (AOp.callP 9 rfl (by kernel_rfl) rfl rfl rfl (hblk) ?_ ?_)
    rotate_left
    · (rintro _ _ (⟨⟩ | ⟨hbad, R⟩); simp only [AExit.then, AExit.inBlock]; exact bodyQ_pan 0 rfl (.on hsy hbad _))
    rintro _ _ ⟨hc2, z2, hz2, hcz2⟩
    refine ASeq.nil ?_
    have hzl2 : z2.zs.length = z.zs.length := by rw [hz2]
    have hblk2 := cblock_ok hS y k z2 s.els hcz2 oky hc2 hpy (by rw [hty]; exact hw) (by rw [hty]; exact hw2) (fun j hj => by have := hwf.2.2.2.2.1 j hj; rw [hty]; omega) hwf.2.2.2.2.2.2 (by omega) (by omega) (by omega)
    have hku := KeptS.blockOf hK y s.els oky
    have hpu := PutOk.blockOf hP y s.els hpy
    generalize blockOf (stm6 n) y s.els = u at *
    have htu : u.t = d.t := hku.t.trans hty
    have hsu : Stk u fin := by
      rw [← hfin]; refine Stk.putted ?_ i; rw [← hr2]
      exact .refl _
    refine ACode.region ?_
    refine ASeq.q rfl rfl (QOp.move rfl rfl) ?_
    refine ASeq.q rfl rfl (QOp.fieldM rfl rfl (tok _ rfl) rfl rfl (by decide) rfl) ?_
    refine ASeq.q rfl rfl (QOp.loadM 9 rfl rfl rfl (tok _ rfl) rfl) ?_
    refine ASeq.op rfl rfl (AOp.callP 9 rfl (by kernel_rfl) rfl rfl rfl (hblk2) ?_ ?_)
    rotate_left
    · (rintro _ _ (⟨⟩ | ⟨hbad, R⟩); simp only [AExit.then, AExit.inBlock]; exact bodyQ_pan 0 rfl (.on hsu hbad _))
    rintro _ _ ⟨hc3, z3, hz3, hcz3⟩
    refine ASeq.nil ?_
    refine AExit.in_normal ?_
    refine bodyQ_end 9 .nil rfl ?_
    have hf : fin = u := by rw [← hfin, ← hr2, putted_at hc3]; exact setPut_none hpu (by rw [htu]; omega) (by rw [stm_t htu, hsd]; omega)
    exact RSt.of (by rw [hf]; exact hc3) z3 (hz3.trans hz2) (by rw [hf]; exact hcz3) (by rw [hf]; rfl)
  have hk5 : ¬ s.kind = 5 := ne_of_beq_false hb
  rw [if_neg hk5] at hr2
  refine ACode.seq (ACode.region ?_)
  refine ASeq.q rfl rfl (QOp.cmp rfl rfl rfl rfl) ?_
  refine ASeq.q rfl rfl (QOp.assign rfl rfl) ?_
  refine ASeq.nil ?_
  refine AExit.then_normal ?_
  refine ACode.cond _ rfl (fun hb => ?_) (fun hb => ?_)
  · have hk6 : s.kind = 6 := eq_of_beq hb
    rw [if_pos hk6] at hr2
    have hv := hval s.a (hwf.1 (.inr (.inr (.inr (.inr (.inl hk6)))))) (hwf.2.1 (by omega))
    have hkv := hkv s.a
    generalize vals d s.a = v at *
    have okv := hkv.ok ho
    have hzv := hz.kept hkv
    have hpv := hp.kept hkv
    have htv : v.1.t = d.t := hkv.t
    have hlv : v.1.put.length = d.t.stmts.length := by rw [hkv.put]; exact hlp
    have hvl : v.1.loops = d.loops := hkv.loops
    have okx : ({ v.1 with loops := v.1.loops + 1 } : CS).ok := { okv with }
    have hpx : PutOk ({ v.1 with loops := v.1.loops + 1 } : CS) := hpv.same rfl rfl
    have hzx : Ckz ({ v.1 with loops := v.1.loops + 1 } : CS) z := hzv.same rfl rfl
    rw [← hvl] at hr2
    have hst : Stk (({ v.1 with loops := v.1.loops + 1 } : CS).need (v.2 == 2) s.fr 8) fin := by
      rw [← hfin]; refine Stk.putted ?_ i; rw [← hr2]
      exact fun h => Stk.blockOf (Stk.stm6 n) _ _ h
    have hsv : Stk v.1 fin := (fun h => ((Stk.need ({ v.1 with loops := v.1.loops + 1 } : CS) (v.2 == 2) s.fr 8).trans hst) h)
    refine ACode.seq ?_
    refine ACode.drawn [[], [], [1], [0, 1, 2], [0, 1, 2, 3], [], [5], [0, 1, 2, 3, 4, 5, 6]] (by kernel_rfl) mixed ?_
    refine DAny.qu 0 rfl rfl (by kernel_rfl) rfl (fun _ => .does _ _ rfl (.none rfl) (QOp.move rfl rfl)) ?_
    refine DAny.qu 1 rfl rfl (by kernel_rfl) rfl (fun _ => .does _ _ rfl (.none rfl) (QOp.fieldM rfl rfl (tok _ rfl) rfl rfl (by decide) rfl)) ?_
    refine DAny.ld 2 rfl rfl (by kernel_rfl) rfl (.does _ _ rfl (.none rfl) (QOp.loadM 9 rfl rfl rfl (tok _ rfl) rfl)) ?_
    refine DAny.qu 5 rfl rfl (by kernel_rfl) rfl (fun _ => .does _ _ rfl (.none rfl) (QOp.fieldM rfl rfl (tok _ rfl) rfl rfl (by decide) rfl)) ?_
    refine DAny.ld 6 rfl rfl (by kernel_rfl) rfl (.does _ _ rfl (.none rfl) (QOp.loadM 9 rfl rfl rfl (tok _ rfl) rfl)) ?_
    refine DAny.ef 3 rfl (by kernel_rfl) (.none rfl) rfl rfl (AOp.callP 9 rfl (by kernel_rfl) rfl rfl rfl (hv) ?_ ?_)
    rotate_left
    · (rintro _ _ (⟨⟩ | ⟨hbad, R⟩); simp only [AExit.then, AExit.inBlock]; exact bodyQ_pan 0 rfl (.on hsv hbad _))
    rintro _ _ ⟨hc⟩
    refine ⟨(by ((refine AllQ.cons (.does _ _ rfl (by exact .none rfl) (QOp.loadM 9 rfl rfl rfl (tok _ rfl) rfl)) ?_); (exact AllQ.nil))), ?_⟩
    refine DAny.qu 4 rfl rfl (by kernel_rfl) rfl (fun _ => .does _ _ rfl (.none rfl) (QOp.cmp rfl rfl rfl rfl)) ?_
    refine DAny.ef 7 rfl (by kernel_rfl) (.none rfl) rfl rfl (AOp.callP 0 rfl (by kernel_rfl) rfl rfl rfl (cneed_ok _ s.fr s.to 8) ?_ ?_)
    rotate_left
    · (rintro _ _ (⟨⟩ | ⟨hbad⟩); simp only [AExit.then, AExit.inBlock]; exact bodyQ_pan 0 rfl (.nok (c := { v.1 with loops := v.1.loops + 1 }) hc hbad (by decide) hst _))
    rintro _ _ ⟨hok⟩
    refine ⟨(by ((exact AllQ.nil))), ?_⟩
    refine DAny.done (by kernel_rfl) ?_
    rw [hok, need_yes] at hr2
    have hlx0 : 0 ≤ ({ v.1 with loops := v.1.loops + 1 } : CS).loops := by show 0 ≤ v.1.loops + 1; omega
    have hlx1 : ({ v.1 with loops := v.1.loops + 1 } : CS).loops + (n : Int) ≤ smax := by show v.1.loops + 1 + (n : Int) ≤ smax; omega
    have hblk := cblock_ok hS { v.1 with loops := v.1.loops + 1 } k z s.thn hzx okx hc hpx (by show TreeX v.1.t; rw [htv]; exact hw) (by show StsWf v.1.t; rw [htv]; exact hw2) (fun j hj => by have := hwf.2.2.2.1 j hj; show _ ∧ _ ∧ j < (v.1.t.stmts.length : Int); rw [htv]; omega) hwf.2.2.2.2.2.1 (by omega) hlx0 hlx1
    have hky := KeptS.blockOf hK { v.1 with loops := v.1.loops + 1 } s.thn okx
    have hpy := PutOk.blockOf hP { v.1 with loops := v.1.loops + 1 } s.thn hpx
    generalize blockOf (stm6 n) { v.1 with loops := v.1.loops + 1 } s.thn = y at *
    have hty : y.t = d.t := hky.t.trans htv
    have hyl : y.loops = v.1.loops + 1 := hky.loops
    have hsy : Stk y fin := by
      rw [← hfin]; refine Stk.putted ?_ i; rw [← hr2]
      exact fun _ => ⟨rfl, rfl⟩
    refine ACode.seq (ACode.region ?_)
    refine ASeq.q rfl rfl (QOp.move rfl rfl) ?_
    refine ASeq.q rfl rfl (QOp.nilCheckM rfl rfl) ?_
    refine ASeq.q rfl rfl (QOp.fieldM rfl rfl (tok _ rfl) rfl rfl (by decide) rfl) ?_
    refine ASeq.q rfl rfl (QOp.loadM 0 rfl rfl rfl (tok _ rfl) rfl) ?_
    refine ASeq.q rfl rfl (QOp.ar64 rfl rfl rfl rfl ⟨by omega, by omega⟩) ?_
    refine ASeq.q rfl rfl (QOp.nilCheckM rfl rfl) ?_
    refine ASeq.q rfl rfl (QOp.fieldM rfl rfl (tok _ rfl) rfl rfl (by decide) rfl) ?_
    refine ASeq.op0 rfl rfl (AOp.storeP 0 rfl rfl rfl rfl (tok _ rfl) rfl rfl rfl rfl ?_)
    refine ASeq.nil ?_
    refine ACode.seq (ACode.region ?_)
    refine ASeq.q rfl rfl (QOp.move rfl rfl) ?_
    refine ASeq.q rfl rfl (QOp.fieldM rfl rfl (tok _ rfl) rfl rfl (by decide) rfl) ?_
    refine ASeq.q rfl rfl (QOp.loadM 9 rfl rfl rfl (tok _ rfl) rfl) ?_
    refine ASeq.op rfl rfl (AOp.callP 9 rfl (by kernel_rfl) rfl rfl rfl (hblk) ?_ ?_)
    rotate_left
    · (rintro _ _ (⟨⟩ | ⟨hbad, R⟩); simp only [AExit.then, AExit.inBlock]; exact bodyQ_pan 0 rfl (.on hsy hbad _))
    rintro _ _ ⟨hc2, z2, hz2, hcz2⟩
    refine ASeq.nil ?_
    refine ACode.region ?_
    refine ASeq.q rfl rfl (QOp.move rfl rfl) ?_
    refine ASeq.q rfl rfl (QOp.nilCheckM rfl rfl) ?_
    refine ASeq.q rfl rfl (QOp.fieldM rfl rfl (tok _ rfl) rfl rfl (by decide) rfl) ?_
    refine ASeq.q rfl rfl (QOp.loadM 0 rfl rfl rfl (tok _ rfl) rfl) ?_
    refine ASeq.q rfl rfl (QOp.ar64 rfl rfl rfl rfl ⟨by omega, by omega⟩) ?_
    refine ASeq.q rfl rfl (QOp.nilCheckM rfl rfl) ?_
    refine ASeq.q rfl rfl (QOp.fieldM rfl rfl (tok _ rfl) rfl rfl (by decide) rfl) ?_
    refine ASeq.op0 rfl rfl (AOp.storeP 0 rfl rfl rfl rfl (tok _ rfl) rfl rfl rfl rfl ?_)
    refine ASeq.nil ?_
    refine AExit.in_normal ?_
    refine bodyQ_end 9 .nil rfl ?_
    have hpl : PutOk ({ y with loops := v.1.loops } : CS) := hpy.same rfl rfl
    have hf : fin = { y with loops := v.1.loops } := by rw [← hfin, ← hr2, putted_at (by exact hc2)]; exact setPut_none hpl (by show i.toNat < y.t.stmts.length; rw [hty]; omega) (by rw [stm_t (c := d) (d := { y with loops := v.1.loops }) hty, hsd]; omega)
    refine RSt.of (by rw [hf]; exact hc2) z2 hz2 (by rw [hf]; exact hcz2.same rfl rfl) ?_
    rw [hf, show v.1.loops = y.loops - 1 by omega]; rfl
  have hk6 : ¬ s.kind = 6 := ne_of_beq_false hb
  rw [if_neg hk6] at hr2
  refine ACode.seq (ACode.seq (ACode.region ?_))
  refine ASeq.q rfl rfl (QOp.cmp rfl rfl rfl rfl) ?_
  refine ASeq.q rfl rfl (QOp.assign rfl rfl) ?_
  refine ASeq.nil ?_
  refine AExit.then_normal ?_
  refine ACode.cond _ rfl (fun hb => ?_) (fun hb => ?_)
  · have hk7 : s.kind = 7 := eq_of_beq hb
    rw [if_pos (.inl hk7)] at hr2
    have hst : Stk (d.need (decide (d.loops > 0)) s.fr 9) fin := by rw [← hfin, ← hr2]; first | exact (Stk.refl _).putted i | exact Stk.put _ _ _
    refine ACode.skip (AExit.then_normal ?_)
    refine ACode.cond _ rfl (fun _ => ?_) (fun hb' => by rw [hb] at hb'; cases hb')
    refine ACode.drawn [[], [0], [0, 1], [0, 1, 2], [0, 1, 2, 3], [], [5], [0, 1, 2, 3, 4, 5, 6]] (by kernel_rfl) mixed ?_
    refine DAny.qu 0 rfl rfl (by kernel_rfl) rfl (fun _ => .does _ _ rfl (.none rfl) (QOp.move rfl rfl)) ?_
    refine DAny.qu 1 rfl rfl (by kernel_rfl) rfl (fun _ => .does _ _ rfl (.none rfl) (QOp.nilCheckM rfl rfl)) ?_
    refine DAny.qu 2 rfl rfl (by kernel_rfl) rfl (fun _ => .does _ _ rfl (.none rfl) (QOp.fieldM rfl rfl (tok _ rfl) rfl rfl (by decide) rfl)) ?_
    refine DAny.ld 3 rfl rfl (by kernel_rfl) rfl (.does _ _ rfl (.none rfl) (QOp.loadM 0 rfl rfl rfl (tok _ rfl) rfl)) ?_
    refine DAny.qu 4 rfl rfl (by kernel_rfl) rfl (fun _ => .does _ _ rfl (.none rfl) (QOp.cmp rfl rfl rfl rfl)) ?_
    refine DAny.qu 5 rfl rfl (by kernel_rfl) rfl (fun _ => .does _ _ rfl (.none rfl) (QOp.fieldM rfl rfl (tok _ rfl) rfl rfl (by decide) rfl)) ?_
    refine DAny.ld 6 rfl rfl (by kernel_rfl) rfl (.does _ _ rfl (.none rfl) (QOp.loadM 9 rfl rfl rfl (tok _ rfl) rfl)) ?_
    refine DAny.ef 7 rfl (by kernel_rfl) (.none rfl) rfl rfl (AOp.callP 0 rfl (by kernel_rfl) rfl rfl rfl (cneed_ok _ s.fr s.to 9) ?_ ?_)
    rotate_left
    · (rintro _ _ (⟨⟩ | ⟨hbad⟩); simp only [AExit.then, AExit.inBlock]; exact bodyQ_pan 0 rfl (.nok h0 hbad (by decide) hst _))
    rintro _ _ ⟨hok⟩
    refine ⟨(by ((exact AllQ.nil))), ?_⟩
    refine DAny.done (by kernel_rfl) ?_
    rw [hok, need_yes] at hr2
    refine AExit.in_normal ?_
    refine bodyQ_end 9 .nil rfl ?_
    have hf : fin = d := by rw [← hfin, ← hr2, putted_at h0]; exact setPut_none hp (by omega) (by rw [hsd]; omega)
    exact RSt.of (by rw [hf]; exact h0) z rfl (by rw [hf]; exact hz) (by rw [hf]; rfl)
  have hk7 : ¬ s.kind = 7 := ne_of_beq_false hb
  refine ACode.region ?_
  refine ASeq.q rfl rfl (QOp.cmp rfl rfl rfl rfl) ?_
  refine ASeq.q rfl rfl (QOp.assign rfl rfl) ?_
  refine ASeq.nil ?_
  refine AExit.then_normal ?_
  refine ACode.cond _ rfl (fun hb => ?_) (fun hb => ?_)
  · have hk8 : s.kind = 8 := eq_of_beq hb
    rw [if_pos (.inr hk8)] at hr2
    have hst : Stk (d.need (decide (d.loops > 0)) s.fr 9) fin := by rw [← hfin, ← hr2]; first | exact (Stk.refl _).putted i | exact Stk.put _ _ _
    refine ACode.drawn [[], [0], [0, 1], [0, 1, 2], [0, 1, 2, 3], [], [5], [0, 1, 2, 3, 4, 5, 6]] (by kernel_rfl) mixed ?_
    refine DAny.qu 0 rfl rfl (by kernel_rfl) rfl (fun _ => .does _ _ rfl (.none rfl) (QOp.move rfl rfl)) ?_
    refine DAny.qu 1 rfl rfl (by kernel_rfl) rfl (fun _ => .does _ _ rfl (.none rfl) (QOp.nilCheckM rfl rfl)) ?_
    refine DAny.qu 2 rfl rfl (by kernel_rfl) rfl (fun _ => .does _ _ rfl (.none rfl) (QOp.fieldM rfl rfl (tok _ rfl) rfl rfl (by decide) rfl)) ?_
    refine DAny.ld 3 rfl rfl (by kernel_rfl) rfl (.does _ _ rfl (.none rfl) (QOp.loadM 0 rfl rfl rfl (tok _ rfl) rfl)) ?_
    refine DAny.qu 4 rfl rfl (by kernel_rfl) rfl (fun _ => .does _ _ rfl (.none rfl) (QOp.cmp rfl rfl rfl rfl)) ?_
    refine DAny.qu 5 rfl rfl (by kernel_rfl) rfl (fun _ => .does _ _ rfl (.none rfl) (QOp.fieldM rfl rfl (tok _ rfl) rfl rfl (by decide) rfl)) ?_
    refine DAny.ld 6 rfl rfl (by kernel_rfl) rfl (.does _ _ rfl (.none rfl) (QOp.loadM 9 rfl rfl rfl (tok _ rfl) rfl)) ?_
    refine DAny.ef 7 rfl (by kernel_rfl) (.none rfl) rfl rfl (AOp.callP 0 rfl (by kernel_rfl) rfl rfl rfl (cneed_ok _ s.fr s.to 9) ?_ ?_)
    rotate_left
    · (rintro _ _ (⟨⟩ | ⟨hbad⟩); simp only [AExit.then, AExit.inBlock]; exact bodyQ_pan 0 rfl (.nok h0 hbad (by decide) hst _))
    rintro _ _ ⟨hok⟩
    refine ⟨(by ((exact AllQ.nil))), ?_⟩
    refine DAny.done (by kernel_rfl) ?_
    rw [hok, need_yes] at hr2
    refine AExit.in_normal ?_
    refine bodyQ_end 9 .nil rfl ?_
    have hf : fin = d := by rw [← hfin, ← hr2, putted_at h0]; exact setPut_none hp (by omega) (by rw [hsd]; omega)
    exact RSt.of (by rw [hf]; exact h0) z rfl (by rw [hf]; exact hz) (by rw [hf]; rfl)
  have hk8 : ¬ s.kind = 8 := ne_of_beq_false hb
  rw [if_neg (fun h => h.elim hk7 hk8)] at hr2
  have hlS := ho.lS
  have hrowf : (d.t.funcs.map Fu.cells)[d.f.toNat]? = some (d.fu d.f).cells := by
    have : d.f.toNat < d.t.funcs.length := by omega
    rw [fu_get this]
    simp only [CS.fu, List.getD_eq_getElem?_getD, List.getElem?_eq_getElem this, Option.getD_some]
  have hfl : (d.t.funcs.map Fu.cells).length = d.t.funcs.length := List.length_map ..
  refine ACode.seq (ACode.region ?_)
  refine ASeq.q rfl rfl (QOp.cmp rfl rfl rfl rfl) ?_
  refine ASeq.q rfl rfl (QOp.assign rfl rfl) ?_
  refine ASeq.nil ?_
  refine AExit.then_normal ?_
  refine ACode.cond _ rfl (fun hb => ?_) (fun hb => ?_)
  · have hk9 : s.kind = 9 := eq_of_beq hb
    rw [if_pos hk9] at hr2
    refine ACode.seq (ACode.region ?_)
    refine ASeq.q rfl rfl (QOp.assign rfl rfl) ?_
    refine ASeq.nil ?_
    refine ACode.seq (ACode.seq (ACode.region ?_))
    refine ASeq.q rfl rfl (QOp.fieldM rfl rfl (tok _ rfl) rfl rfl (by decide) rfl) ?_
    refine ASeq.q rfl rfl (QOp.loadM 9 rfl rfl rfl (tok _ rfl) rfl) ?_
    refine ASeq.q rfl rfl (QOp.cmp rfl rfl rfl rfl) ?_
    refine ASeq.nil ?_
    refine AExit.then_normal ?_
    refine ACode.cond _ rfl (fun hb => ?_) (fun hb => ?_)
    · have ha : s.a ≥ 0 := of_decide_eq_true hb
      rw [if_pos ha] at hr2
      have hv := hval s.a ha (hwf.2.1 (by omega))
      have hkv := hkv s.a
      generalize vals d s.a = v at *
      have okv := hkv.ok ho
      have hzv := hz.kept hkv
      have hpv := hp.kept hkv
      have htv : v.1.t = d.t := hkv.t
      have hfv : v.1.f = d.f := hkv.f
      have hrowv : (v.1.t.funcs.map Fu.cells)[v.1.f.toNat]? = some (d.fu d.f).cells := by rw [htv, hfv]; exact hrowf
      have hvf0 := okv.f0
      have hvf1 := okv.f1
      have hvS := okv.lS
      have hvl : (v.1.t.funcs.map Fu.cells).length = v.1.t.funcs.length := List.length_map ..
      generalize d.fu d.f = g at *
      have hst : Stk (v.1.need (v.2 == g.type) s.fr 8) fin := by rw [← hfin, ← hr2]; first | exact (Stk.refl _).putted i | exact Stk.put _ _ _
      have hsv : Stk v.1 fin := (Stk.need _ _ _ _).trans hst
      refine ACode.region ?_
      refine ASeq.q rfl rfl (QOp.move rfl rfl) ?_
      refine ASeq.q rfl rfl (QOp.fieldM rfl rfl (tok _ rfl) rfl rfl (by decide) rfl) ?_
      refine ASeq.q rfl rfl (QOp.loadM 9 rfl rfl rfl (tok _ rfl) rfl) ?_
      refine ASeq.op rfl rfl (AOp.callP 9 rfl (by kernel_rfl) rfl rfl rfl (hv) ?_ ?_)
      rotate_left
      · (rintro _ _ (⟨⟩ | ⟨hbad, R⟩); simp only [AExit.then, AExit.inBlock]; exact bodyQ_pan 0 rfl (.on hsv hbad _))
      rintro _ _ ⟨hc⟩
      refine ASeq.q rfl rfl (QOp.assign rfl rfl) ?_
      refine ASeq.nil ?_
      refine AExit.then_normal ?_
      refine ACode.drawn [[], [], [1], [1, 2], [1, 2, 3], [1, 2, 3, 4], [], [6], [6, 7], [6, 7, 8], [1, 2, 3, 4, 5, 6, 7, 8, 9], [1, 2, 3, 4, 5, 6, 7, 8, 9, 10], [1, 2, 3, 4, 5, 6, 7, 8, 9, 10, 11], [0, 1, 2, 3, 4, 5, 6, 7, 8, 9, 10, 11, 12], [], [14], [0, 1, 2, 3, 4, 5, 6, 7, 8, 9, 10, 11, 12, 13, 14, 15]] (by kernel_rfl) mixed ?_
      refine DAny.qu 0 rfl rfl (by kernel_rfl) rfl (fun _ => .does _ _ rfl (.none rfl) (QOp.move rfl rfl)) ?_
      refine DAny.qu 1 rfl rfl (by kernel_rfl) rfl (fun _ => .does _ _ rfl (.none rfl) (QOp.move rfl rfl)) ?_
      refine DAny.qu 2 rfl rfl (by kernel_rfl) rfl (fun _ => .does _ _ rfl (.none rfl) (QOp.nilCheckM rfl rfl)) ?_
      refine DAny.qu 3 rfl rfl (by kernel_rfl) rfl (fun _ => .does _ _ rfl (.none rfl) (QOp.fieldM rfl rfl (tok _ rfl) rfl rfl (by decide) rfl)) ?_
      refine DAny.qu 4 rfl rfl (by kernel_rfl) rfl (fun _ => .does _ _ rfl (.none rfl) (QOp.fieldM rfl rfl (tok _ rfl) rfl rfl (by decide) rfl)) ?_
      refine DAny.ld 5 rfl rfl (by kernel_rfl) rfl (.does _ _ rfl (.none rfl) (QOp.loadM 0 rfl rfl rfl (tok _ rfl) rfl)) ?_
      refine DAny.qu 6 rfl rfl (by kernel_rfl) rfl (fun _ => .does _ _ rfl (.none rfl) (QOp.move rfl rfl)) ?_
      refine DAny.qu 7 rfl rfl (by kernel_rfl) rfl (fun _ => .does _ _ rfl (.none rfl) (QOp.nilCheckM rfl rfl)) ?_
      refine DAny.qu 8 rfl rfl (by kernel_rfl) rfl (fun _ => .does _ _ rfl (.none rfl) (QOp.fieldM rfl rfl (tok _ rfl) rfl rfl (by decide) rfl)) ?_
      refine DAny.ld 9 rfl rfl (by kernel_rfl) rfl (.does _ _ rfl (.none rfl) (QOp.loadM 0 rfl rfl rfl (tok _ rfl) rfl)) ?_
      refine DAny.qu 10 rfl rfl (by kernel_rfl) rfl (fun _ => .does _ _ rfl (.none rfl) (QOp.indexI rfl rfl rfl (tok _ rfl) rfl (tok _ rfl) (by omega) (by assumption))) ?_
      refine DAny.qu 11 rfl rfl (by kernel_rfl) rfl (fun _ => .does _ _ rfl (.none rfl) (QOp.fieldI rfl rfl (tok _ rfl) rfl rfl (by decide) rfl)) ?_
      refine DAny.qu 12 rfl rfl (by kernel_rfl) rfl (fun _ => .does _ _ rfl (.none rfl) (QOp.loadI rfl rfl (tok _ rfl) rfl)) ?_
      refine DAny.qu 13 rfl rfl (by kernel_rfl) rfl (fun _ => .does _ _ rfl (.none rfl) (QOp.cmp rfl rfl rfl rfl)) ?_
      refine DAny.qu 14 rfl rfl (by kernel_rfl) rfl (fun _ => .does _ _ rfl (.none rfl) (QOp.fieldM rfl rfl (tok _ rfl) rfl rfl (by decide) rfl)) ?_
      refine DAny.ld 15 rfl rfl (by kernel_rfl) rfl (.does _ _ rfl (.none rfl) (QOp.loadM 9 rfl rfl rfl (tok _ rfl) rfl)) ?_
      refine DAny.ef 16 rfl (by kernel_rfl) (.none rfl) rfl rfl (AOp.callP 0 rfl (by kernel_rfl) rfl rfl rfl (cneed_ok _ s.fr s.to 8) ?_ ?_)
      rotate_left
      · (rintro _ _ (⟨⟩ | ⟨hbad⟩); simp only [AExit.then, AExit.inBlock]; exact bodyQ_pan 0 rfl (.nok hc hbad (by decide) hst _))
      rintro _ _ ⟨hok⟩
      refine ⟨(by ((exact AllQ.nil))), ?_⟩
      refine DAny.done (by kernel_rfl) ?_
      rw [hok, need_yes] at hr2
      refine AExit.in_normal ?_
      refine bodyQ_end 9 .nil rfl ?_
      have hf : fin = v.1 := by rw [← hfin, ← hr2, putted_at hc]; exact setPut_none hpv (by rw [htv]; omega) (by rw [stm_t htv]; rw [hsd]; omega)
      exact RSt.of (by rw [hf]; exact hc) z rfl (by rw [hf]; exact hzv) (by rw [hf]; rfl)
    · have ha : ¬ s.a ≥ 0 := of_decide_eq_false hb
      rw [if_neg ha] at hr2
      generalize d.fu d.f = g at *
      have hst : Stk (d.need (4 == g.type) s.fr 8) fin := by rw [← hfin, ← hr2]; first | exact (Stk.refl _).putted i | exact Stk.put _ _ _
      refine ACode.skip (AExit.then_normal ?_)
      refine ACode.drawn [[], [], [1], [1, 2], [1, 2, 3], [1, 2, 3, 4], [], [6], [6, 7], [6, 7, 8], [1, 2, 3, 4, 5, 6, 7, 8, 9], [1, 2, 3, 4, 5, 6, 7, 8, 9, 10], [1, 2, 3, 4, 5, 6, 7, 8, 9, 10, 11], [0, 1, 2, 3, 4, 5, 6, 7, 8, 9, 10, 11, 12], [], [14], [0, 1, 2, 3, 4, 5, 6, 7, 8, 9, 10, 11, 12, 13, 14, 15]] (by kernel_rfl) mixed ?_
      refine DAny.qu 0 rfl rfl (by kernel_rfl) rfl (fun _ => .does _ _ rfl (.none rfl) (QOp.move rfl rfl)) ?_
      refine DAny.qu 1 rfl rfl (by kernel_rfl) rfl (fun _ => .does _ _ rfl (.none rfl) (QOp.move rfl rfl)) ?_
      refine DAny.qu 2 rfl rfl (by kernel_rfl) rfl (fun _ => .does _ _ rfl (.none rfl) (QOp.nilCheckM rfl rfl)) ?_
      refine DAny.qu 3 rfl rfl (by kernel_rfl) rfl (fun _ => .does _ _ rfl (.none rfl) (QOp.fieldM rfl rfl (tok _ rfl) rfl rfl (by decide) rfl)) ?_
      refine DAny.qu 4 rfl rfl (by kernel_rfl) rfl (fun _ => .does _ _ rfl (.none rfl) (QOp.fieldM rfl rfl (tok _ rfl) rfl rfl (by decide) rfl)) ?_
      refine DAny.ld 5 rfl rfl (by kernel_rfl) rfl (.does _ _ rfl (.none rfl) (QOp.loadM 0 rfl rfl rfl (tok _ rfl) rfl)) ?_
      refine DAny.qu 6 rfl rfl (by kernel_rfl) rfl (fun _ => .does _ _ rfl (.none rfl) (QOp.move rfl rfl)) ?_
      refine DAny.qu 7 rfl rfl (by kernel_rfl) rfl (fun _ => .does _ _ rfl (.none rfl) (QOp.nilCheckM rfl rfl)) ?_
      refine DAny.qu 8 rfl rfl (by kernel_rfl) rfl (fun _ => .does _ _ rfl (.none rfl) (QOp.fieldM rfl rfl (tok _ rfl) rfl rfl (by decide) rfl)) ?_
      refine DAny.ld 9 rfl rfl (by kernel_rfl) rfl (.does _ _ rfl (.none rfl) (QOp.loadM 0 rfl rfl rfl (tok _ rfl) rfl)) ?_
      refine DAny.qu 10 rfl rfl (by kernel_rfl) rfl (fun _ => .does _ _ rfl (.none rfl) (QOp.indexI rfl rfl rfl (tok _ rfl) rfl (tok _ rfl) (by omega) (by assumption))) ?_
      refine DAny.qu 11 rfl rfl (by kernel_rfl) rfl (fun _ => .does _ _ rfl (.none rfl) (QOp.fieldI rfl rfl (tok _ rfl) rfl rfl (by decide) rfl)) ?_
      refine DAny.qu 12 rfl rfl (by kernel_rfl) rfl (fun _ => .does _ _ rfl (.none rfl) (QOp.loadI rfl rfl (tok _ rfl) rfl)) ?_
      refine DAny.qu 13 rfl rfl (by kernel_rfl) rfl (fun _ => .does _ _ rfl (.none rfl) (QOp.cmp rfl rfl rfl rfl)) ?_
      refine DAny.qu 14 rfl rfl (by kernel_rfl) rfl (fun _ => .does _ _ rfl (.none rfl) (QOp.fieldM rfl rfl (tok _ rfl) rfl rfl (by decide) rfl)) ?_
      refine DAny.ld 15 rfl rfl (by kernel_rfl) rfl (.does _ _ rfl (.none rfl) (QOp.loadM 9 rfl rfl rfl (tok _ rfl) rfl)) ?_
      refine DAny.ef 16 rfl (by kernel_rfl) (.none rfl) rfl rfl (AOp.callP 0 rfl (by kernel_rfl) rfl rfl rfl (cneed_ok _ s.fr s.to 8) ?_ ?_)
      rotate_left
      · (rintro _ _ (⟨⟩ | ⟨hbad⟩); simp only [AExit.then, AExit.inBlock]; exact bodyQ_pan 0 rfl (.nok h0 hbad (by decide) hst _))
      rintro _ _ ⟨hok⟩
      refine ⟨(by ((exact AllQ.nil))), ?_⟩
      refine DAny.done (by kernel_rfl) ?_
      rw [hok, need_yes] at hr2
      refine AExit.in_normal ?_
      refine bodyQ_end 9 .nil rfl ?_
      have hf : fin = d := by rw [← hfin, ← hr2, putted_at h0]; exact setPut_none hp (by omega) (by rw [hsd]; omega)
      exact RSt.of (by rw [hf]; exact h0) z rfl (by rw [hf]; exact hz) (by rw [hf]; rfl)
  have hk9 : ¬ s.kind = 9 := ne_of_beq_false hb
  rw [if_neg hk9] at hr2
  refine ACode.seq (ACode.region ?_)
  refine ASeq.q rfl rfl (QOp.cmp rfl rfl rfl rfl) ?_
  refine ASeq.q rfl rfl (QOp.assign rfl rfl) ?_
  refine ASeq.nil ?_
  refine AExit.then_normal ?_
  refine ACode.cond _ rfl (fun hb => ?_) (fun hb => ?_)
  · have hk10 : s.kind = 10 := eq_of_beq hb
    rw [if_pos hk10] at hr2
    have hv := hval s.a (hwf.1 (.inr (.inr (.inr (.inr (.inr (.inl hk10))))))) (hwf.2.1 (by omega))
    have hkv := hkv s.a
    generalize vals d s.a = v at *
    have okv := hkv.ok ho
    have hzv := hz.kept hkv
    have hpv := hp.kept hkv
    have htv : v.1.t = d.t := hkv.t
    have hlv : v.1.put.length = d.t.stmts.length := by rw [hkv.put]; exact hlp
    have hsv : Stk v.1 fin := by rw [← hfin, ← hr2]; first | exact (Stk.refl _).putted i | exact Stk.put _ _ _
    refine ACode.region ?_
    refine ASeq.q rfl rfl (QOp.move rfl rfl) ?_
    refine ASeq.q rfl rfl (QOp.fieldM rfl rfl (tok _ rfl) rfl rfl (by decide) rfl) ?_
    refine ASeq.q rfl rfl (QOp.loadM 9 rfl rfl rfl (tok _ rfl) rfl) ?_
    refine ASeq.op rfl rfl (AOp.callP 9 rfl (by kernel_rfl) rfl rfl rfl (hv) ?_ ?_)
    rotate_left
    · (rintro _ _ (⟨⟩ | ⟨hbad, R⟩); simp only [AExit.then, AExit.inBlock]; exact bodyQ_pan 0 rfl (.on hsv hbad _))
    rintro _ _ ⟨hc⟩
    refine ASeq.nil ?_
    refine AExit.in_normal ?_
    refine bodyQ_end 9 .nil rfl ?_
    have hf : fin = v.1 := by rw [← hfin, ← hr2, putted_at hc]; exact setPut_none hpv (by rw [htv]; omega) (by rw [stm_t htv]; rw [hsd]; omega)
    exact RSt.of (by rw [hf]; exact hc) z rfl (by rw [hf]; exact hzv) (by rw [hf]; rfl)
  have hk10 : ¬ s.kind = 10 := ne_of_beq_false hb
  rw [if_neg hk10] at hr2
  refine ACode.seq (ACode.region ?_)
  refine ASeq.q rfl rfl (QOp.cmp rfl rfl rfl rfl) ?_
  refine ASeq.q rfl rfl (QOp.assign rfl rfl) ?_
  refine ASeq.nil ?_
  refine AExit.then_normal ?_
  refine ACode.cond _ rfl (fun hb => ?_) (fun hb => ?_)
  · have hk11 : s.kind = 11 := eq_of_beq hb
    rw [if_pos hk11] at hr2
    have hal := hwf.2.1 (by omega)
    have hv := cexprs d.t.exprs.length d k z s.a hz ho h0 hw (hwf.1 (.inr (.inr (.inr (.inr (.inr (.inr (hk11)))))))) hal hal
    have hkv := Kept.expr6 d.t.exprs.length d s.a
    generalize expr6 d.t.exprs.length d s.a = v at *
    have hzv := hz.kept hkv
    have hpv := hp.kept hkv
    have htv : v.1.t = d.t := hkv.t
    have hsv : Stk v.1 fin := by rw [← hfin, ← hr2]; first | exact (Stk.refl _).putted i | exact Stk.put _ _ _
    refine ACode.region ?_
    refine ASeq.q rfl rfl (QOp.move rfl rfl) ?_
    refine ASeq.q rfl rfl (QOp.fieldM rfl rfl (tok _ rfl) rfl rfl (by decide) rfl) ?_
    refine ASeq.q rfl rfl (QOp.loadM 9 rfl rfl rfl (tok _ rfl) rfl) ?_
    refine ASeq.op rfl rfl (AOp.callP 9 rfl (by kernel_rfl) rfl rfl rfl (hv) ?_ ?_)
    rotate_left
    · (rintro _ _ (⟨⟩ | ⟨hbad, R⟩); simp only [AExit.then, AExit.inBlock]; exact bodyQ_pan 0 rfl (.on hsv hbad _))
    rintro _ _ ⟨hc⟩
    refine ASeq.nil ?_
    refine AExit.in_normal ?_
    refine bodyQ_end 9 .nil rfl ?_
    have hf : fin = v.1 := by rw [← hfin, ← hr2, putted_at hc]; exact setPut_none hpv (by rw [htv]; omega) (by rw [stm_t htv]; rw [hsd]; omega)
    exact RSt.of (by rw [hf]; exact hc) z rfl (by rw [hf]; exact hzv) (by rw [hf]; rfl)
  have hk11 : ¬ s.kind = 11 := ne_of_beq_false hb
  rw [if_neg hk11] at hr2
  refine ACode.skip (AExit.in_normal ?_)
  refine bodyQ_end 9 .nil rfl ?_
  have hf : fin = d := by rw [← hfin, ← hr2, putted_at h0]; exact setPut_none hp (by omega) (by rw [hsd]; omega)
  exact RSt.of (by rw [hf]; exact h0) z rfl (by rw [hf]; exact hz) (by rw [hf]; rfl)
end Go.Proofs.Ytaadamobapnfbaa
set_option linter.unusedVariables false
set_option linter.unusedSimpArgs false
set_option maxRecDepth 100000
namespace Go.Proofs.Ytaadamobapnfbaa
open Go Go.Abs
theorem dupOf_bad (g : Fu) : ∀ (l : List Fu) (c : CS), c.code ≠ 0 → dupOf g l c = c
  | [], c, _ => rfl
  | f :: l, c, h => by
    have e : c.need (!(f.name.data.toList == g.name.data.toList)) g.fr 7 = c := by unfold CS.need; rw [if_neg (fun h' => h h'.1)]
    show dupOf g l (c.need (!(f.name.data.toList == g.name.data.toList)) g.fr 7) = c
    rw [e]; exact dupOf_bad g l c h
theorem dupOf_any (g : Fu) : ∀ (l : List Fu) (c : CS), c.code = 0 → dupOf g l c = c.need (!(l.any (sameF g.name))) g.fr 7
  | [], c, _ => (need_yes c _ _).symm
  | f :: l, c, h => by
    show dupOf g l (c.need (!(sameF g.name f)) g.fr 7) = _
    rw [List.any_cons]
    cases hs : sameF g.name f with
    | true =>
      rw [Bool.not_true, Bool.true_or, Bool.not_true, need_no c h]
      exact dupOf_bad g l _ (by show (7 : Int) ≠ 0; decide)
    | false => rw [Bool.not_false, need_yes, Bool.false_or]; exact dupOf_any g l c h
theorem Stk.dupOf (g : Fu) (l : List Fu) (c : CS) : Stk c (dupOf g l c) := fun h => by rw [dupOf_bad g l c h]; exact ⟨rfl, rfl⟩
theorem Stk.dups : ∀ (l pre : List Fu) (c : CS), Stk c (dups pre l c)
  | [], pre, c => .refl c
  | g :: l, pre, c => (Stk.dupOf g pre c).trans (Stk.dups l _ _)
theorem Stk.face (c : CS) : Stk c (faceOf c) := (Stk.need _ _ _ _).trans (.need _ _ _ _)
inductive RFc (c r : CS) (I : List Abs.Item) : AOut → List Abs.Item → Prop
  | ok (h : r.code = 0) (e : r = c) : RFc c r I (.ret (.tup [])) I
  | bad (h : r.code ≠ 0) (R : List Abs.Item) : RFc c r I (.pan (wrongV r.at_ r.code)) R
theorem RFc.on {c r d : CS} {I : List Abs.Item} (h : Stk d r) (hc : d.code ≠ 0) (R : List Abs.Item) : RFc c r I (.pan (wrongV d.at_ d.code)) R := by
  obtain ⟨h1, h2⟩ := h hc
  rw [← h1, ← h2]
  exact .bad (by rw [h1]; exact hc) R
theorem RFc.nok {c r d : CS} {I : List Abs.Item} (hc : d.code = 0) {ok : Bool} (hok : ok = false) {a n : Int} (hn : n ≠ 0) (hst : Stk (d.need ok a n) r) (R : List Abs.Item) : RFc c r I (.pan (wrongV a n)) R := by
  subst hok
  have e := need_no d hc a n
  have := RFc.on (c := c) (I := I) hst (by rw [e]; exact hn) R
  rw [e] at this
  exact this
def ckCellsS (c : CS) (k : Mk) (x : AV) : List AV :=
  [.il 9 none (c.t.exprs.map Ex.cells), .il 9 none (c.t.stmts.map St.cells), .il 6 none (c.t.funcs.map Fu.cells), .sl 1 k.mT 0 c.type.length, .sl 1 k.mS 0 c.slot.length, .sl 1 k.mP 0 c.put.length, .sl 1 k.mF 0 c.func.length, .sl 1 k.mL 0 c.slots.length,
    vi c.f, x, vi c.loops]
set_option maxHeartbeats 8000000 in
theorem cfaces_ok (c : CS) (k : Mk) (x : AV) (h0 : c.code = 0) (hpos : 0 < c.t.funcs.length) (hbig : c.t.funcs.length ≤ 1048576) :
    ACalls Try.prog 40 [.mp k.mC 0] [.mu k.mC (ckCellsS c k x)] (RFc c (faceOf (dups [] c.t.funcs c)) [.mu k.mC (ckCellsS c k x)]) := by
  have hFl : (c.t.funcs.map Fu.cells).length = c.t.funcs.length := List.length_map ..
  generalize hfin : faceOf (dups [] c.t.funcs c) = fin
  refine ACalls.of_code (c := _) Try.func40 rfl Try.ntmps40 (Nat.le_of_ble_eq_true rfl) ?_
  refine ACode.seq (ACode.seq (ACode.region ?_))
  refine ASeq.q rfl rfl (QOp.move rfl rfl) ?_
  refine ASeq.q rfl rfl (QOp.nilCheckM rfl rfl) ?_
  refine ASeq.q rfl rfl (QOp.fieldM rfl rfl (tok _ rfl) rfl rfl (by decide) rfl) ?_
  refine ASeq.q rfl rfl (QOp.fieldM rfl rfl (tok _ rfl) rfl rfl (by decide) rfl) ?_
  refine ASeq.q rfl rfl (QOp.loadM 0 rfl rfl rfl (tok _ rfl) rfl) ?_
  refine ASeq.q rfl rfl (QOp.lenI rfl rfl (tok _ rfl) rfl) ?_
  refine ASeq.q rfl rfl (QOp.move rfl rfl) ?_
  refine ASeq.nil ?_
  refine ACode.block ?_
  refine ACode.loopP (fun (i : Nat) => [(0, .mp k.mC 0), (9, .il 6 none (c.t.funcs.map Fu.cells)), (10, vi ((c.t.funcs.map Fu.cells).length : Int)), (11, vi i)]) (fun _ => [.mu k.mC (ckCellsS c k x)]) (fun i => c.t.funcs.length - i)
    (fun i => i ≤ c.t.funcs.length ∧ dups (c.t.funcs.take i) (c.t.funcs.drop i) c = dups [] c.t.funcs c) 0 ⟨Nat.zero_le _, rfl⟩ (.cons rfl (.cons rfl (.cons rfl (.cons rfl .nil)))) 1 rfl ?_
  rintro i ⟨hi, hX⟩
  refine ACode.seq (ACode.region ?_)
  refine ASeq.q rfl rfl (QOp.cmp rfl rfl rfl rfl) ?_
  refine ASeq.nil ?_
  refine ACode.seq ?_
  refine ACode.cond _ rfl (fun hb => ?_) (fun hb => ?_)
  · have hlt : i < c.t.funcs.length := by have := of_decide_eq_true hb; rw [hFl] at this; omega
    have hget := fu_at hlt
    rw [dups_drop _ _ _ hlt] at hX
    have hd := dupOf_any c.t.funcs[i] (c.t.funcs.take i) c h0
    rw [hd] at hX
    have hst : Stk (c.need (!((c.t.funcs.take i).any (sameF c.t.funcs[i].name))) c.t.funcs[i].fr 7) fin := by
      rw [← hfin, ← hX]
      exact (Stk.dups _ _ _).trans (.face _)
    generalize c.t.funcs[i] = g at *
    refine ACode.skip (ACode.seq (ACode.block (ACode.seq (ACode.region ?_))))
    refine ASeq.q rfl rfl (QOp.move rfl rfl) ?_
    refine ASeq.q rfl rfl (QOp.indexI rfl rfl rfl (tok _ rfl) rfl (tok _ rfl) (by omega) (by assumption)) ?_
    refine ASeq.q rfl rfl (QOp.loadI rfl rfl (tok _ rfl) rfl) ?_
    refine ASeq.op rfl rfl (AOp.allocP rfl (tok _ rfl) rfl rfl (fun _ => rfl) (fun _ => ?_))
    refine ASeq.q rfl rfl (QOp.assign rfl rfl) ?_
    refine ASeq.op0 rfl rfl (AOp.storeP 1 rfl rfl rfl rfl (tok _ rfl) rfl rfl rfl rfl ?_)
    refine ASeq.nil ?_
    rename_i m3
    have hhas : ACalls Try.prog 62 [.il 6 none ((c.t.funcs.take i).map Fu.cells), .fn (.func 63) [] [.mp m3 0]] ([.mu k.mC (ckCellsS c k x)] ++ [.mu m3 g.cells]) (RV (.v (.bool ((c.t.funcs.take i).any (sameF g.name)))) ([.mu k.mC (ckCellsS c k x)] ++ [.mu m3 g.cells])) := by
      refine (ACalls.perm List.perm_append_comm ((has62 g m3 none (c.t.funcs.take i) (by rw [List.length_take]; omega)).frame (F := [.mu k.mC (ckCellsS c k x)]))).less ?_
      rintro _ _ ⟨R1, rfl, ⟨⟩⟩
      exact ⟨_, _, List.perm_append_comm, List.Sublist.refl _, .mk⟩
    refine AExit.then_normal ?_
    refine ACode.drawn [[], [0], [0, 1], [0, 1, 2], [0, 1, 2, 3], [], [0, 1, 2, 3, 4, 5], [], [0, 1, 2, 3, 4, 5, 6, 7], [0, 1, 2, 3, 4, 5, 6, 7, 8], [], [10], [0, 1, 2, 3, 4, 5, 6, 7, 8, 9, 10, 11]] (by kernel_rfl) mixed ?_
    refine DAny.qu 0 rfl rfl (by kernel_rfl) rfl (fun _ => .does _ _ rfl (.none rfl) (QOp.move rfl rfl)) ?_
    refine DAny.qu 1 rfl rfl (by kernel_rfl) rfl (fun _ => .does _ _ rfl (.none rfl) (QOp.nilCheckM rfl rfl)) ?_
    refine DAny.qu 2 rfl rfl (by kernel_rfl) rfl (fun _ => .does _ _ rfl (.none rfl) (QOp.fieldM rfl rfl (tok _ rfl) rfl rfl (by decide) rfl)) ?_
    refine DAny.qu 3 rfl rfl (by kernel_rfl) rfl (fun _ => .does _ _ rfl (.none rfl) (QOp.fieldM rfl rfl (tok _ rfl) rfl rfl (by decide) rfl)) ?_
    refine DAny.ld 4 rfl rfl (by kernel_rfl) rfl (.does _ _ rfl (.none rfl) (QOp.loadM 0 rfl rfl rfl (tok _ rfl) rfl)) ?_
    refine DAny.qu 5 rfl rfl (by kernel_rfl) rfl (fun _ => .does _ _ rfl (.none rfl) (QOp.move rfl rfl)) ?_
    refine DAny.qu 7 rfl rfl (by kernel_rfl) rfl (fun _ => .does _ _ rfl (.none rfl) (QOp.makeFunc rfl rfl rfl ⟨_, rfl⟩)) ?_
    refine DAny.qu 10 rfl rfl (by kernel_rfl) rfl (fun _ => .does _ _ rfl (.none rfl) (QOp.fieldM rfl rfl (tok _ rfl) rfl rfl (by decide) rfl)) ?_
    refine DAny.ld 11 rfl rfl (by kernel_rfl) rfl (.does _ _ rfl (.none rfl) (QOp.loadM 1 rfl rfl rfl (tok _ rfl) rfl)) ?_
    -- STOP at 6 (listed 0,1,2,3,4,5,7,10,11)
    refine DAny.qu 6 rfl rfl (by kernel_rfl) rfl (fun _ => .does _ _ rfl (.none rfl) (QOp.cutI (tde := TT 41) (tk' := none) (rows' := (c.t.funcs.take i).map Fu.cells) rfl rfl (tok _ rfl) rfl (tok _ rfl) rfl rfl (by decide) (by omega) (by omega) (by rw [Int.toNat_natCast]; show ((c.t.funcs.map Fu.cells).take i).drop 0 = _; rw [List.drop_zero, List.map_take]) (.inl rfl))) ?_
    refine DAny.ef 8 rfl (by kernel_rfl) (.none rfl) rfl rfl (AOp.callP 2 rfl (by kernel_rfl) rfl rfl rfl (hhas) ?_ (by rintro _ _ ⟨⟩))
    rintro _ _ ⟨⟩
    refine ⟨(by ((refine AllQ.cons (.does _ _ rfl (by exact .none rfl) (QOp.loadM 1 rfl rfl rfl (tok _ rfl) rfl)) ?_); (exact AllQ.nil))), ?_⟩
    refine DAny.qu 9 rfl rfl (by kernel_rfl) rfl (fun _ => .does _ _ rfl (.none rfl) (QOp.not rfl rfl)) ?_
    refine DAny.ef 12 rfl (by kernel_rfl) (.none rfl) rfl rfl (AOp.callP 0 rfl (by kernel_rfl) rfl rfl rfl (cneed_ok _ g.fr g.to 7) ?_ ?_)
    rotate_left
    · (rintro _ _ (⟨⟩ | ⟨hbad⟩); simp only [AExit.then, AExit.inBlock]; exact bodyQ_pan 0 rfl (.nok h0 hbad (by decide) hst _))
    rintro _ _ ⟨hok⟩
    refine ⟨(by ((exact AllQ.nil))), ?_⟩
    refine DAny.done (by kernel_rfl) ?_
    rw [hok, need_yes] at hX
    refine ACode.region ?_
    refine ASeq.q rfl rfl (QOp.ar64 rfl rfl rfl rfl ⟨by omega, by omega⟩) ?_
    refine ASeq.q rfl rfl (QOp.move rfl rfl) ?_
    refine ASeq.nil ?_
    refine AExit.then_normal ?_
    exact ⟨i + 1, 1, ⟨hlt, hX⟩, by omega, .cons rfl (.cons rfl (.cons rfl (.cons rfl .nil))), rfl⟩
  have hge : i = c.t.funcs.length := by have := of_decide_eq_false hb; rw [hFl] at this; omega
  rw [hge, List.drop_length] at hX
  simp only [dups] at hX
  rw [← hX] at hfin
  have hrow : (c.t.funcs.map Fu.cells)[(0 : Int).toNat]? = some (c.fu 0).cells := by
    rw [show (0 : Int).toNat = 0 from rfl, fu_at hpos]
    simp only [CS.fu, show (0 : Int).toNat = 0 from rfl, List.getD_eq_getElem?_getD, List.getElem?_eq_getElem hpos, Option.getD_some]
  unfold faceOf at hfin
  generalize c.fu 0 = g at *
  have hst1 : Stk (c.need (g.name.data.toList == [109, 97, 105, 110]) 0 17) fin := by rw [← hfin]; exact .need _ _ _ _
  have hpl := strs_len g.params
  refine ACode.exit (ACode.seq (ACode.region ?_))
  refine ASeq.q rfl rfl (QOp.move rfl rfl) ?_
  refine ASeq.q rfl rfl (QOp.nilCheckM rfl rfl) ?_
  refine ASeq.q rfl rfl (QOp.fieldM rfl rfl (tok _ rfl) rfl rfl (by decide) rfl) ?_
  refine ASeq.q rfl rfl (QOp.fieldM rfl rfl (tok _ rfl) rfl rfl (by decide) rfl) ?_
  refine ASeq.q rfl rfl (QOp.loadM 0 rfl rfl rfl (tok _ rfl) rfl) ?_
  refine ASeq.q rfl rfl (QOp.indexI rfl rfl rfl (tok _ rfl) rfl (tok _ rfl) (by decide) (by assumption)) ?_
  refine ASeq.q rfl rfl (QOp.loadI rfl rfl (tok _ rfl) rfl) ?_
  refine ASeq.op rfl rfl (AOp.allocP rfl (tok _ rfl) rfl rfl (fun _ => rfl) (fun _ => ?_))
  refine ASeq.op0 rfl rfl (AOp.storeP 1 rfl rfl rfl rfl (tok _ rfl) rfl rfl rfl rfl ?_)
  refine ASeq.nil ?_
  rename_i m4
  refine ACode.seq (ACode.region ?_)
  refine ASeq.q rfl rfl (QOp.fieldM rfl rfl (tok _ rfl) rfl rfl (by decide) rfl) ?_
  refine ASeq.q rfl rfl (QOp.loadM 1 rfl rfl rfl (tok _ rfl) rfl) ?_
  refine ASeq.q rfl rfl (QOp.cmpStr rfl rfl rfl rfl) ?_
  refine ASeq.q rfl rfl (QOp.build rfl (tok _ rfl) rfl rfl rfl rfl rfl) ?_
  refine ASeq.op rfl rfl (AOp.callP 0 rfl (by kernel_rfl) rfl rfl rfl (cneed_ok _ 0 0 17) ?_ ?_)
  rotate_left
  · (rintro _ _ (⟨⟩ | ⟨hbad⟩); simp only [AExit.then, AExit.inBlock]; exact bodyQ_pan 0 rfl (.nok h0 hbad (by decide) hst1 _))
  rintro _ _ ⟨hok⟩
  refine ASeq.nil ?_
  rw [hok, need_yes] at hfin
  have hst2 : Stk (c.need (((g.params.length : Int) == 0) && (g.type == 4)) g.fr 8) fin := by rw [← hfin]; exact .refl _
  refine ACode.region ?_
  refine ASeq.q rfl rfl (QOp.fieldM rfl rfl (tok _ rfl) rfl rfl (by decide) rfl) ?_
  refine ASeq.q rfl rfl (QOp.loadM 1 rfl rfl rfl (tok _ rfl) rfl) ?_
  refine ASeq.q rfl rfl (QOp.lenI rfl rfl (tok _ rfl) rfl) ?_
  refine ASeq.q rfl rfl (QOp.cmp rfl rfl rfl rfl) ?_
  refine ASeq.q rfl rfl (QOp.move rfl rfl) ?_
  rw [hpl]
  refine ASeq.split 46 ((g.params.length : Int) == 0) rfl (fun hb1 => ?_) (fun hb1 => ?_)
  · rw [hb1, Bool.true_and] at hst2 hfin
    refine ASeq.gq _ _ rfl rfl rfl rfl (QOp.fieldM rfl rfl (tok _ rfl) rfl rfl (by decide) rfl) ?_
    refine ASeq.gq _ _ rfl rfl rfl rfl (QOp.loadM 1 rfl rfl rfl (tok _ rfl) rfl) ?_
    refine ASeq.gq _ _ rfl rfl rfl rfl (QOp.cmp rfl rfl rfl rfl) ?_
    refine ASeq.q rfl rfl (QOp.pickT rfl rfl rfl) ?_
    refine ASeq.q rfl rfl (QOp.fieldM rfl rfl (tok _ rfl) rfl rfl (by decide) rfl) ?_
    refine ASeq.q rfl rfl (QOp.loadM 1 rfl rfl rfl (tok _ rfl) rfl) ?_
    refine ASeq.op rfl rfl (AOp.callP 0 rfl (by kernel_rfl) rfl rfl rfl (cneed_ok _ g.fr g.to 8) ?_ ?_)
    rotate_left
    · (rintro _ _ (⟨⟩ | ⟨hbad⟩); simp only [AExit.then, AExit.inBlock]; exact bodyQ_pan 0 rfl (.nok h0 hbad (by decide) hst2 _))
    rintro _ _ ⟨hok2⟩
    refine ASeq.nil ?_
    refine bodyQ_end 1 .nil rfl ?_
    have hf : fin = c := by rw [← hfin, hok2, need_yes]
    exact .ok (by rw [hf]; exact h0) hf
  · rw [hb1, Bool.false_and] at hst2
    refine ASeq.gno _ _ rfl rfl rfl rfl rfl ?_
    refine ASeq.gno _ _ rfl rfl rfl rfl rfl ?_
    refine ASeq.gno _ _ rfl rfl rfl rfl rfl ?_
    refine ASeq.q rfl rfl (QOp.pickF rfl rfl rfl) ?_
    refine ASeq.q rfl rfl (QOp.fieldM rfl rfl (tok _ rfl) rfl rfl (by decide) rfl) ?_
    refine ASeq.q rfl rfl (QOp.loadM 1 rfl rfl rfl (tok _ rfl) rfl) ?_
    refine ASeq.op rfl rfl (AOp.callP 0 rfl (by kernel_rfl) rfl rfl rfl (cneed_ok false g.fr g.to 8) ?_ ?_)
    rotate_left
    · (rintro _ _ (⟨⟩ | ⟨hbad⟩); simp only [AExit.then, AExit.inBlock]; exact bodyQ_pan 0 rfl (.nok h0 hbad (by decide) hst2 _))
    rintro _ _ ⟨hok2⟩
    refine ASeq.nil ?_
    cases hok2
end Go.Proofs.Ytaadamobapnfbaa
set_option linter.unusedVariables false
set_option linter.unusedSimpArgs false
set_option maxRecDepth 100000
namespace Go.Proofs.Ytaadamobapnfbaa
open Go Go.Abs
theorem zero100 (w : World) : (zeroValue 100).run Try.prog w = .ok (.agg #[.int .i64 0, .int .i64 0]) w := by kernel_rfl
theorem ifc100 : ∀ n, (TT 100).ds ≠ .ifc n := by intro n h; cases h
theorem catch_none (mI mA mE : Nat) (R : List Abs.Item) (K : List Abs.Item → Prop) (hK : ∀ it, K (R ++ [it])) : ADefer Try.prog 39 [.mp mI 0, .mp mA 0, .mp mE 0] none R K := by
  refine ADefer.intro Try.func39 rfl Try.ntmps39 (Nat.le_of_ble_eq_true rfl) rfl rfl rfl rfl ?_
  refine ASeq.q rfl rfl (QOp.assertNo rfl rfl (tok _ rfl) ifc100 zero100) ?_
  refine ASeq.q rfl rfl (QOp.move rfl rfl) ?_
  refine ASeq.q rfl rfl (QOp.extract rfl rfl rfl) ?_
  refine ASeq.q rfl rfl (QOp.extract rfl rfl rfl) ?_
  refine ASeq.op rfl rfl (AOp.alloc rfl (tok _ rfl) rfl (fun m => ?_))
  refine ASeq.op0 rfl rfl (AOp.store 0 (R1 := R) (R2 := []) rfl rfl rfl (tok _ rfl) rfl rfl rfl rfl ?_)
  refine ASeq.q rfl rfl (QOp.assign rfl rfl) ?_
  refine ASeq.nil ?_
  refine ACode.seq (ACode.region ?_)
  refine ASeq.q rfl rfl (QOp.move rfl rfl) ?_
  refine ASeq.nil ?_
  refine AExit.then_normal ?_
  refine ACode.cond _ rfl (fun hb => by cases hb) (fun hb => ?_)
  refine ACode.skip ?_
  exact hK _
theorem catch_some (mI mA mE : Nat) (cI : List AV) (hI : cI.length = 5) (a0 e0 : AV) (a e : Int) (K : List Abs.Item → Prop)
    (hK : ∀ it, K [.mu mI [nilv, nilv, nilv, nilv, nilv], .mu mA [vi a], .mu mE [vi e], it]) : ADefer Try.prog 39 [.mp mI 0, .mp mA 0, .mp mE 0] (some (wrongV a e)) [.mu mI cI, .mu mA [a0], .mu mE [e0]] K := by
  match cI, hI with
  | [x1, x2, x3, x4, x5], _ =>
  refine ADefer.intro Try.func39 rfl Try.ntmps39 (Nat.le_of_ble_eq_true rfl) rfl rfl rfl rfl ?_
  refine ASeq.q rfl rfl (QOp.assertYes rfl rfl (tok _ rfl) ifc100) ?_
  refine ASeq.q rfl rfl (QOp.move rfl rfl) ?_
  refine ASeq.q rfl rfl (QOp.extract rfl rfl rfl) ?_
  refine ASeq.q rfl rfl (QOp.extract rfl rfl rfl) ?_
  refine ASeq.op rfl rfl (AOp.allocP rfl (tok _ rfl) rfl rfl (fun _ => rfl) (fun _ => ?_))
  refine ASeq.op0 rfl rfl (AOp.storeP 3 rfl rfl rfl rfl (tok _ rfl) rfl rfl rfl rfl ?_)
  refine ASeq.q rfl rfl (QOp.assign rfl rfl) ?_
  refine ASeq.nil ?_
  refine ACode.seq (ACode.region ?_)
  refine ASeq.q rfl rfl (QOp.move rfl rfl) ?_
  refine ASeq.nil ?_
  refine AExit.then_normal ?_
  refine ACode.cond _ rfl (fun hb => ?_) (fun hb => by cases hb)
  refine ACode.drawn [[], [], [1], [], [3], [0], [0, 1, 2, 5], [0, 1, 2, 3, 4, 5, 6]] (by kernel_rfl) mixed ?_
  refine DAny.qu 0 rfl rfl (by kernel_rfl) rfl (fun _ => .does _ _ rfl (.none rfl) (QOp.build rfl (tok _ rfl) rfl rfl rfl rfl rfl)) ?_
  refine DAny.qu 1 rfl rfl (by kernel_rfl) rfl (fun _ => .does _ _ rfl (.none rfl) (QOp.fieldM rfl rfl (tok _ rfl) rfl rfl (by decide) rfl)) ?_
  refine DAny.ld 2 rfl rfl (by kernel_rfl) rfl (.does _ _ rfl (.none rfl) (QOp.loadM 3 rfl rfl rfl (tok _ rfl) rfl)) ?_
  refine DAny.qu 3 rfl rfl (by kernel_rfl) rfl (fun _ => .does _ _ rfl (.none rfl) (QOp.fieldM rfl rfl (tok _ rfl) rfl rfl (by decide) rfl)) ?_
  refine DAny.ld 4 rfl rfl (by kernel_rfl) rfl (.does _ _ rfl (.none rfl) (QOp.loadM 3 rfl rfl rfl (tok _ rfl) rfl)) ?_
  refine DAny.ef0 5 rfl (by kernel_rfl) (.none rfl) rfl rfl (AOp.storeP 0 rfl rfl rfl rfl (tok _ rfl) rfl rfl rfl rfl ⟨(by ((refine AllQ.cons (.does _ _ rfl (by exact .none rfl) (QOp.loadM 3 rfl rfl rfl (tok _ rfl) rfl)) ?_); (refine AllQ.cons (.does _ _ rfl (by exact .none rfl) (QOp.loadM 3 rfl rfl rfl (tok _ rfl) rfl)) ?_); (exact AllQ.nil))), ?_⟩)
  refine DAny.ef0 6 rfl (by kernel_rfl) (.none rfl) rfl rfl (AOp.storeP 1 rfl rfl rfl rfl (tok _ rfl) rfl rfl rfl rfl ⟨(by ((refine AllQ.cons (.does _ _ rfl (by exact .none rfl) (QOp.loadM 3 rfl rfl rfl (tok _ rfl) rfl)) ?_); (exact AllQ.nil))), ?_⟩)
  refine DAny.ef0 7 rfl (by kernel_rfl) (.none rfl) rfl rfl (AOp.storeP 2 rfl rfl rfl rfl (tok _ rfl) rfl rfl rfl rfl ⟨(by ((exact AllQ.nil))), ?_⟩)
  refine DAny.done (by kernel_rfl) ?_
  exact hK _
end Go.Proofs.Ytaadamobapnfbaa
