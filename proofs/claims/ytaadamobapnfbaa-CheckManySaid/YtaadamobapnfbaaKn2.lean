/- Own texts, put together by a program: D1 E0 E1 E2 E3 F0 F1 G0 G1 G2 G3 G4 G5 G6 G7 G9 H0 H1 J0 J1 J2 J3 J4 K0 K1 K4 K5 K8. -/
import Derived.Test.YtaadamobapnfbaaKn1
set_option linter.unusedVariables false
set_option linter.unusedSimpArgs false
set_option maxRecDepth 100000
namespace Go.Proofs.Ytaadamobapnfbaa
open Go Go.Abs
theorem le_k2 {k : Nat} {a b : Int} (h : a + 13 ≤ (k + 1 : Nat)) (h' : b + 20 ≤ a) : b + 13 ≤ k := by omega
set_option maxHeartbeats 4000000 in
theorem block_walk (n : Nat) (ih : ∀ k < n + 1, Walks2 k) (p : PS) (d : Int) (h : p.ok) (hd : 0 ≤ d) (hdm : d + p.mm ≤ dmax) (hm : p.mm + 14 ≤ (n + 1 : Nat)) (te ts tf : Nat) :
    ACalls Try.prog 59 [.agg (p.cells te ts tf), vi d] [.tk te, .tk ts, .tk tf] (RPV (block (n + 1) p d).1 (.il 1 none (ints (block (n + 1) p d).2))) := by
  have hnn := PS.mm_nn h
  have hmax : dmax = 1099511627776 := rfl
  refine ACalls.of_code (c := _) Try.func59 rfl Try.ntmps59 (Nat.le_of_ble_eq_true rfl) ?_
  refine ACode.seq (ACode.region ?_)
  refine ASeq.op rfl rfl (AOp.boxP rfl rfl rfl (fun _ => rfl) (fun _ => ?_))
  refine ASeq.op rfl rfl (AOp.allocP rfl (tok _ rfl) rfl rfl (fun _ => rfl) (fun _ => ?_))
  refine ASeq.q rfl rfl (QOp.assign rfl rfl) ?_
  refine ASeq.nil ?_
  refine ACode.seq (ACode.seq (ACode.region ?_))
  refine ASeq.q rfl rfl (QOp.loadM 3 rfl rfl rfl (tok _ rfl) rfl) ?_
  refine ASeq.op rfl rfl (AOp.callP 0 rfl (by kernel_rfl) rfl rfl rfl (is_ok p h w_lc _ _ _) ?_ (by rintro _ _ ⟨⟩))
  rintro _ _ ⟨⟩
  refine ASeq.nil ?_
  refine AExit.then_normal ?_
  refine ACode.cond _ rfl (fun hb => ?_) (fun hb => ?_)
  · have s0 := Step.deep p d
    have o0 := s0.ok (by decide) (by decide) h
    refine ACode.region ?_
    refine ASeq.q rfl rfl (QOp.loadM 3 rfl rfl rfl (tok _ rfl) rfl) ?_
    refine ASeq.q rfl rfl (QOp.move rfl rfl) ?_
    refine ASeq.op rfl rfl (AOp.callP 3 rfl (by kernel_rfl) rfl rfl rfl (deep_ok p h d _ _ _) ?_ (by rintro _ _ ⟨⟩))
    rintro _ _ ⟨te, ts, tf⟩
    refine ASeq.op0 rfl rfl (AOp.storeP 3 rfl rfl rfl rfl (tok _ rfl) rfl rfl rfl rfl ?_)
    refine ASeq.nil ?_
    have hif : (if p.is w_lc = true then p.deep d else p) = p.deep d := if_pos hb
    have o1 := ok_want (p := p.deep d) o0 w_lc
    have m1 : ((p.deep d).want w_lc).mm ≤ p.mm := Int.le_trans (mm_wantle (p := p.deep d) o0 w_lc) (s0.le h)
    have n1 := PS.mm_nn o1
    have a1 := o1.at0
    have hlive : ((p.deep d).want w_lc).code = 0 → ((p.deep d).want w_lc).mm + 20 ≤ p.mm := fun hz => Int.le_trans ((Step.want (p.deep d) w_lc).go o0 ((Step.want (p.deep d) w_lc).live hz) (.inl (by decide))) (s0.le h)
    refine ACode.seq (ACode.region ?_)
    refine ASeq.q rfl rfl (QOp.loadM 3 rfl rfl rfl (tok _ rfl) rfl) ?_
    refine ASeq.op rfl rfl (AOp.callP 3 rfl (by kernel_rfl) rfl rfl rfl (want_ok (p.deep d) o0 w_lc _ _ _) ?_ (by rintro _ _ ⟨⟩))
    rintro _ _ ⟨te, ts, tf⟩
    refine ASeq.op0 rfl rfl (AOp.storeP 3 rfl rfl rfl rfl (tok _ rfl) rfl rfl rfl rfl ?_)
    refine ASeq.nil ?_
    refine ACode.seq (ACode.region ?_)
    refine ASeq.q rfl rfl (QOp.assign rfl rfl) ?_
    refine ASeq.nil ?_
    refine ACode.seq (ACode.block ?_)
    refine ACode.newTok (fun tl => ?_)
    refine ACode.slot 6 rfl (AV.Le.nilT 1 (some tl)) ?_
    refine ACode.loopP (fun (x : Nat × PS × List Int × Nat × Nat × Nat × Nat) => [(1, vi d), (2, .mp _ 0), (4, .mp _ 0), (6, .il 1 (some x.2.2.2.2.2.2) (ints x.2.2.1))])
      (fun (x : Nat × PS × List Int × Nat × Nat × Nat × Nat) => [.tk x.2.2.2.1, .tk x.2.2.2.2.1, .tk x.2.2.2.2.2.1, .mu _ (x.2.1.cells x.2.2.2.1 x.2.2.2.2.1 x.2.2.2.2.2.1), .mu _ _, .tk x.2.2.2.2.2.2]) (fun x => x.1)
      (fun x => x.1 ≤ n ∧ x.2.1.ok ∧ (x.2.1.code = 0 → d + x.2.1.mm + 20 ≤ dmax) ∧ x.2.1.mm + 13 ≤ x.1 ∧ blockLoop x.1 x.2.1 x.2.2.1 d = blockLoop n ((p.deep d).want w_lc) [] d ∧ (x.2.1.code = 0 → (x.2.2.1.length : Int) ≤ x.2.1.at_) ∧ (x.2.2.1.length : Int) ≤ x.2.1.at_ + 1)
      (n, (p.deep d).want w_lc, [], te, ts, tf, tl)
      ⟨Nat.le_refl _, o1, fun hz => by have := hlive hz; dsimp only; omega, by dsimp only; omega, rfl, fun _ => by simpa using a1, by simp only [List.length_nil]; omega⟩ (.cons rfl (.cons rfl (.cons rfl (.cons rfl .nil)))) 6 rfl ?_
    rintro ⟨k, q, l, te, ts, tf, tl⟩ ⟨hk, hq, hqd, hqm, hres, hlc, hll⟩
    dsimp only at hk hq hqd hqm hres hlc hll
    have hqn := PS.mm_nn hq
    obtain ⟨k, rfl⟩ : ∃ k', k = k' + 1 := ⟨k - 1, by omega⟩
    have ihk := ih k (by omega)
    have q0 := hq.at0
    have q1 := hq.at1
    have q2 := hq.small
    refine ACode.seq (ACode.seq (ACode.region ?_))
    refine ASeq.q rfl rfl (QOp.fieldM rfl rfl (tok _ rfl) rfl rfl (by decide) rfl) ?_
    refine ASeq.q rfl rfl (QOp.loadM 3 rfl rfl rfl (tok _ rfl) rfl) ?_
    refine ASeq.q rfl rfl (QOp.cmp rfl rfl rfl rfl) ?_
    refine ASeq.q rfl rfl (QOp.move rfl rfl) ?_
    refine ASeq.split 19 (q.code == 0) rfl (fun hb => ?_) (fun hb => ?_)
    · have hc : q.code = 0 := by simpa using hb
      have hlc := hlc hc
      have hqd := hqd hc
      refine ASeq.gq _ _ rfl rfl rfl rfl (QOp.loadM 3 rfl rfl rfl (tok _ rfl) rfl) ?_
      refine ASeq.gop _ _ rfl rfl rfl rfl (AOp.callP 0 rfl (by kernel_rfl) rfl rfl rfl (is_ok q hq w_rc _ _ _) ?_ (by rintro _ _ ⟨⟩))
      rintro _ _ ⟨⟩
      refine ASeq.gq _ _ rfl rfl rfl rfl (QOp.not rfl rfl) ?_
      refine ASeq.q rfl rfl (QOp.pickT rfl rfl rfl) ?_
      refine ASeq.nil ?_
      refine AExit.then_normal ?_
      refine ACode.cond _ rfl (fun hb => ?_) (fun hb => ?_)
      · have hr : q.is w_rc = false := by simpa using hb
        have hgo : blockLoop (k + 1) q l d = blockLoop k (stmt k q d).1 (l ++ [(stmt k q d).2]) d := by
          simp only [blockLoop]; rw [if_pos ⟨hc, hr⟩]
        rw [hgo] at hres
        have tb := (steps2 k).stmt q d
        have ob := tb.ok (by decide) (by decide) hq
        have mb := tb.go hq hc (.inl (by decide))
        have hat : (stmt k q d).1.code = 0 → ((l ++ [(stmt k q d).2]).length : Int) ≤ (stmt k q d).1.at_ := fun hz => by
          have e2 := tb.ex0 hz
          have e3 := tb.exs
          obtain ⟨ys, e3⟩ := e3
          rw [e3, List.length_append] at e2
          simp only [List.length_append, List.length_cons, List.length_nil]
          omega
        have hat2 : ((l ++ [(stmt k q d).2]).length : Int) ≤ (stmt k q d).1.at_ + 1 := by
          have e2 := tb.at_
          simp only [List.length_append, List.length_cons, List.length_nil]
          omega
        refine ACode.skip (ACode.block (ACode.seq (ACode.region ?_)))
        refine ASeq.q rfl rfl (QOp.loadM 3 rfl rfl rfl (tok _ rfl) rfl) ?_
        refine ASeq.q rfl rfl (QOp.move rfl rfl) ?_
        refine ASeq.op rfl rfl (AOp.callP 3 rfl (by kernel_rfl) rfl rfl rfl (ihk.stmt q d hq hd (by omega) (by omega) _ _ _) ?_ (by rintro _ _ ⟨⟩))
        rintro _ _ ⟨te, ts, tf⟩
        refine ASeq.q rfl rfl (QOp.move rfl rfl) ?_
        refine ASeq.q rfl rfl (QOp.extract rfl rfl rfl) ?_
        refine ASeq.q rfl rfl (QOp.extract rfl rfl rfl) ?_
        refine ASeq.op rfl rfl (AOp.allocP rfl (tok _ rfl) rfl rfl (fun _ => rfl) (fun _ => ?_))
        refine ASeq.op0 rfl rfl (AOp.storeP 6 rfl rfl rfl rfl (tok _ rfl) rfl rfl rfl rfl ?_)
        refine ASeq.q rfl rfl (QOp.assign rfl rfl) ?_
        refine ASeq.nil ?_
        refine ACode.seq (ACode.region ?_)
        refine ASeq.q rfl rfl (QOp.loadM 6 rfl rfl rfl (tok _ rfl) rfl) ?_
        refine ASeq.op0 rfl rfl (AOp.storeP 3 rfl rfl rfl rfl (tok _ rfl) rfl rfl rfl rfl ?_)
        refine ASeq.nil ?_
        refine ACode.region ?_
        refine ASeq.q rfl rfl (QOp.move rfl rfl) ?_
        refine ASeq.q rfl rfl (QOp.move rfl rfl) ?_
        refine ASeq.op rfl rfl (AOp.buildSliceR rfl (tok _ rfl) rfl (tok _ rfl) (by decide) rfl (by decide) rfl rfl rfl rfl ?_)
        refine ASeq.op rfl rfl (AOp.appendP 5 (e := 3) (tde := TT 3) rfl rfl rfl rfl (tok _ rfl) rfl (tok _ rfl) (tok _ rfl) rfl (by decide) rfl rfl (fun _ => rfl) (ints_rows l _) (by simp only [ints_len, List.length_cons, List.length_nil]; omega) rfl (fun _ => ?_))
        rw [ints_snoc]
        refine ASeq.q rfl rfl (QOp.assign rfl rfl) ?_
        refine ASeq.nil ?_
        refine AExit.in_normal (AExit.then_normal ?_)
        exact ⟨(k, _, _, _, _, _, _), 6, ⟨by dsimp only; omega, ob, fun _ => le_dm' hqd mb, le_k2 hqm mb, hres, hat, hat2⟩, Nat.lt_succ_self _, .cons rfl (.cons rfl (.cons rfl (.cons rfl .nil))), rfl⟩
      · have hr : q.is w_rc = true := by simpa using hb
        have hend : blockLoop (k + 1) q l d = (q, l) := by simp only [blockLoop]; rw [if_neg (by simp [hr])]
        rw [hend] at hres
        refine ACode.exit (ACode.seq (ACode.region ?_))
        refine ASeq.slot 6 rfl (AV.Le.tok 1 _ (ints l)) ?_
        refine ASeq.q rfl rfl (QOp.loadM 3 rfl rfl rfl (tok _ rfl) rfl) ?_
        refine ASeq.op rfl rfl (AOp.callP 3 rfl (by kernel_rfl) rfl rfl rfl (want_ok q hq w_rc _ _ _) ?_ (by rintro _ _ ⟨⟩))
        rintro _ _ ⟨te, ts, tf⟩
        refine ASeq.q rfl rfl (QOp.move rfl rfl) ?_
        refine ASeq.op0 rfl rfl (AOp.storeP 4 rfl rfl rfl rfl (tok _ rfl) rfl rfl rfl rfl ?_)
        refine ASeq.q rfl rfl (QOp.assign rfl rfl) ?_
        refine ASeq.nil ?_
        refine ACode.ret ?_
        refine bodyQ_ret 3 (.cell 4 rfl rfl (tok _ rfl) rfl (.tmp rfl .nil)) rfl ?_
        rw [show block (n + 1) p d = (q.want w_rc, l) by simp only [block]; rw [hif, ← hres]]
        exact .mk _ _ _
    · have hc : q.code ≠ 0 := by simpa using hb
      refine ASeq.gno _ _ rfl rfl rfl rfl rfl ?_
      refine ASeq.gno _ _ rfl rfl rfl rfl rfl ?_
      refine ASeq.gno _ _ rfl rfl rfl rfl rfl ?_
      refine ASeq.q rfl rfl (QOp.pickF rfl rfl rfl) ?_
      refine ASeq.nil ?_
      refine AExit.then_normal ?_
      refine ACode.cond _ rfl (fun hb => by cases hb) (fun hb => ?_)
      have hend : blockLoop (k + 1) q l d = (q, l) := by simp only [blockLoop]; rw [if_neg (by simp [hc])]
      rw [hend] at hres
      refine ACode.exit (ACode.seq (ACode.region ?_))
      refine ASeq.slot 6 rfl (AV.Le.tok 1 _ (ints l)) ?_
      refine ASeq.q rfl rfl (QOp.loadM 3 rfl rfl rfl (tok _ rfl) rfl) ?_
      refine ASeq.op rfl rfl (AOp.callP 3 rfl (by kernel_rfl) rfl rfl rfl (want_ok q hq w_rc _ _ _) ?_ (by rintro _ _ ⟨⟩))
      rintro _ _ ⟨te, ts, tf⟩
      refine ASeq.q rfl rfl (QOp.move rfl rfl) ?_
      refine ASeq.op0 rfl rfl (AOp.storeP 4 rfl rfl rfl rfl (tok _ rfl) rfl rfl rfl rfl ?_)
      refine ASeq.q rfl rfl (QOp.assign rfl rfl) ?_
      refine ASeq.nil ?_
      refine ACode.ret ?_
      refine bodyQ_ret 3 (.cell 4 rfl rfl (tok _ rfl) rfl (.tmp rfl .nil)) rfl ?_
      rw [show block (n + 1) p d = (q.want w_rc, l) by simp only [block]; rw [hif, ← hres]]
      exact .mk _ _ _
  · have hif : (if p.is w_lc = true then p.deep d else p) = p := if_neg (by rw [hb]; decide)
    have o1 := ok_want (p := p) h w_lc
    have m1 : ((p).want w_lc).mm ≤ p.mm := Int.le_trans (mm_wantle (p := p) h w_lc) (Int.le_refl _)
    have n1 := PS.mm_nn o1
    have a1 := o1.at0
    have hlive : ((p).want w_lc).code = 0 → ((p).want w_lc).mm + 20 ≤ p.mm := fun hz => Int.le_trans ((Step.want (p) w_lc).go h ((Step.want (p) w_lc).live hz) (.inl (by decide))) (Int.le_refl _)
    refine ACode.skip (ACode.seq (ACode.region ?_))
    refine ASeq.q rfl rfl (QOp.loadM 3 rfl rfl rfl (tok _ rfl) rfl) ?_
    refine ASeq.op rfl rfl (AOp.callP 3 rfl (by kernel_rfl) rfl rfl rfl (want_ok (p) h w_lc _ _ _) ?_ (by rintro _ _ ⟨⟩))
    rintro _ _ ⟨te, ts, tf⟩
    refine ASeq.op0 rfl rfl (AOp.storeP 3 rfl rfl rfl rfl (tok _ rfl) rfl rfl rfl rfl ?_)
    refine ASeq.nil ?_
    refine ACode.seq (ACode.region ?_)
    refine ASeq.q rfl rfl (QOp.assign rfl rfl) ?_
    refine ASeq.nil ?_
    refine ACode.seq (ACode.block ?_)
    refine ACode.newTok (fun tl => ?_)
    refine ACode.slot 6 rfl (AV.Le.nilT 1 (some tl)) ?_
    refine ACode.loopP (fun (x : Nat × PS × List Int × Nat × Nat × Nat × Nat) => [(1, vi d), (2, .mp _ 0), (4, .mp _ 0), (6, .il 1 (some x.2.2.2.2.2.2) (ints x.2.2.1))])
      (fun (x : Nat × PS × List Int × Nat × Nat × Nat × Nat) => [.tk x.2.2.2.1, .tk x.2.2.2.2.1, .tk x.2.2.2.2.2.1, .mu _ (x.2.1.cells x.2.2.2.1 x.2.2.2.2.1 x.2.2.2.2.2.1), .mu _ _, .tk x.2.2.2.2.2.2]) (fun x => x.1)
      (fun x => x.1 ≤ n ∧ x.2.1.ok ∧ (x.2.1.code = 0 → d + x.2.1.mm + 20 ≤ dmax) ∧ x.2.1.mm + 13 ≤ x.1 ∧ blockLoop x.1 x.2.1 x.2.2.1 d = blockLoop n ((p).want w_lc) [] d ∧ (x.2.1.code = 0 → (x.2.2.1.length : Int) ≤ x.2.1.at_) ∧ (x.2.2.1.length : Int) ≤ x.2.1.at_ + 1)
      (n, (p).want w_lc, [], te, ts, tf, tl)
      ⟨Nat.le_refl _, o1, fun hz => by have := hlive hz; dsimp only; omega, by dsimp only; omega, rfl, fun _ => by simpa using a1, by simp only [List.length_nil]; omega⟩ (.cons rfl (.cons rfl (.cons rfl (.cons rfl .nil)))) 6 rfl ?_
    rintro ⟨k, q, l, te, ts, tf, tl⟩ ⟨hk, hq, hqd, hqm, hres, hlc, hll⟩
    dsimp only at hk hq hqd hqm hres hlc hll
    have hqn := PS.mm_nn hq
    obtain ⟨k, rfl⟩ : ∃ k', k = k' + 1 := ⟨k - 1, by omega⟩
    have ihk := ih k (by omega)
    have q0 := hq.at0
    have q1 := hq.at1
    have q2 := hq.small
    refine ACode.seq (ACode.seq (ACode.region ?_))
    refine ASeq.q rfl rfl (QOp.fieldM rfl rfl (tok _ rfl) rfl rfl (by decide) rfl) ?_
    refine ASeq.q rfl rfl (QOp.loadM 3 rfl rfl rfl (tok _ rfl) rfl) ?_
    refine ASeq.q rfl rfl (QOp.cmp rfl rfl rfl rfl) ?_
    refine ASeq.q rfl rfl (QOp.move rfl rfl) ?_
    refine ASeq.split 19 (q.code == 0) rfl (fun hb => ?_) (fun hb => ?_)
    · have hc : q.code = 0 := by simpa using hb
      have hlc := hlc hc
      have hqd := hqd hc
      refine ASeq.gq _ _ rfl rfl rfl rfl (QOp.loadM 3 rfl rfl rfl (tok _ rfl) rfl) ?_
      refine ASeq.gop _ _ rfl rfl rfl rfl (AOp.callP 0 rfl (by kernel_rfl) rfl rfl rfl (is_ok q hq w_rc _ _ _) ?_ (by rintro _ _ ⟨⟩))
      rintro _ _ ⟨⟩
      refine ASeq.gq _ _ rfl rfl rfl rfl (QOp.not rfl rfl) ?_
      refine ASeq.q rfl rfl (QOp.pickT rfl rfl rfl) ?_
      refine ASeq.nil ?_
      refine AExit.then_normal ?_
      refine ACode.cond _ rfl (fun hb => ?_) (fun hb => ?_)
      · have hr : q.is w_rc = false := by simpa using hb
        have hgo : blockLoop (k + 1) q l d = blockLoop k (stmt k q d).1 (l ++ [(stmt k q d).2]) d := by
          simp only [blockLoop]; rw [if_pos ⟨hc, hr⟩]
        rw [hgo] at hres
        have tb := (steps2 k).stmt q d
        have ob := tb.ok (by decide) (by decide) hq
        have mb := tb.go hq hc (.inl (by decide))
        have hat : (stmt k q d).1.code = 0 → ((l ++ [(stmt k q d).2]).length : Int) ≤ (stmt k q d).1.at_ := fun hz => by
          have e2 := tb.ex0 hz
          have e3 := tb.exs
          obtain ⟨ys, e3⟩ := e3
          rw [e3, List.length_append] at e2
          simp only [List.length_append, List.length_cons, List.length_nil]
          omega
        have hat2 : ((l ++ [(stmt k q d).2]).length : Int) ≤ (stmt k q d).1.at_ + 1 := by
          have e2 := tb.at_
          simp only [List.length_append, List.length_cons, List.length_nil]
          omega
        refine ACode.skip (ACode.block (ACode.seq (ACode.region ?_)))
        refine ASeq.q rfl rfl (QOp.loadM 3 rfl rfl rfl (tok _ rfl) rfl) ?_
        refine ASeq.q rfl rfl (QOp.move rfl rfl) ?_
        refine ASeq.op rfl rfl (AOp.callP 3 rfl (by kernel_rfl) rfl rfl rfl (ihk.stmt q d hq hd (by omega) (by omega) _ _ _) ?_ (by rintro _ _ ⟨⟩))
        rintro _ _ ⟨te, ts, tf⟩
        refine ASeq.q rfl rfl (QOp.move rfl rfl) ?_
        refine ASeq.q rfl rfl (QOp.extract rfl rfl rfl) ?_
        refine ASeq.q rfl rfl (QOp.extract rfl rfl rfl) ?_
        refine ASeq.op rfl rfl (AOp.allocP rfl (tok _ rfl) rfl rfl (fun _ => rfl) (fun _ => ?_))
        refine ASeq.op0 rfl rfl (AOp.storeP 6 rfl rfl rfl rfl (tok _ rfl) rfl rfl rfl rfl ?_)
        refine ASeq.q rfl rfl (QOp.assign rfl rfl) ?_
        refine ASeq.nil ?_
        refine ACode.seq (ACode.region ?_)
        refine ASeq.q rfl rfl (QOp.loadM 6 rfl rfl rfl (tok _ rfl) rfl) ?_
        refine ASeq.op0 rfl rfl (AOp.storeP 3 rfl rfl rfl rfl (tok _ rfl) rfl rfl rfl rfl ?_)
        refine ASeq.nil ?_
        refine ACode.region ?_
        refine ASeq.q rfl rfl (QOp.move rfl rfl) ?_
        refine ASeq.q rfl rfl (QOp.move rfl rfl) ?_
        refine ASeq.op rfl rfl (AOp.buildSliceR rfl (tok _ rfl) rfl (tok _ rfl) (by decide) rfl (by decide) rfl rfl rfl rfl ?_)
        refine ASeq.op rfl rfl (AOp.appendP 5 (e := 3) (tde := TT 3) rfl rfl rfl rfl (tok _ rfl) rfl (tok _ rfl) (tok _ rfl) rfl (by decide) rfl rfl (fun _ => rfl) (ints_rows l _) (by simp only [ints_len, List.length_cons, List.length_nil]; omega) rfl (fun _ => ?_))
        rw [ints_snoc]
        refine ASeq.q rfl rfl (QOp.assign rfl rfl) ?_
        refine ASeq.nil ?_
        refine AExit.in_normal (AExit.then_normal ?_)
        exact ⟨(k, _, _, _, _, _, _), 6, ⟨by dsimp only; omega, ob, fun _ => le_dm' hqd mb, le_k2 hqm mb, hres, hat, hat2⟩, Nat.lt_succ_self _, .cons rfl (.cons rfl (.cons rfl (.cons rfl .nil))), rfl⟩
      · have hr : q.is w_rc = true := by simpa using hb
        have hend : blockLoop (k + 1) q l d = (q, l) := by simp only [blockLoop]; rw [if_neg (by simp [hr])]
        rw [hend] at hres
        refine ACode.exit (ACode.seq (ACode.region ?_))
        refine ASeq.slot 6 rfl (AV.Le.tok 1 _ (ints l)) ?_
        refine ASeq.q rfl rfl (QOp.loadM 3 rfl rfl rfl (tok _ rfl) rfl) ?_
        refine ASeq.op rfl rfl (AOp.callP 3 rfl (by kernel_rfl) rfl rfl rfl (want_ok q hq w_rc _ _ _) ?_ (by rintro _ _ ⟨⟩))
        rintro _ _ ⟨te, ts, tf⟩
        refine ASeq.q rfl rfl (QOp.move rfl rfl) ?_
        refine ASeq.op0 rfl rfl (AOp.storeP 4 rfl rfl rfl rfl (tok _ rfl) rfl rfl rfl rfl ?_)
        refine ASeq.q rfl rfl (QOp.assign rfl rfl) ?_
        refine ASeq.nil ?_
        refine ACode.ret ?_
        refine bodyQ_ret 3 (.cell 4 rfl rfl (tok _ rfl) rfl (.tmp rfl .nil)) rfl ?_
        rw [show block (n + 1) p d = (q.want w_rc, l) by simp only [block]; rw [hif, ← hres]]
        exact .mk _ _ _
    · have hc : q.code ≠ 0 := by simpa using hb
      refine ASeq.gno _ _ rfl rfl rfl rfl rfl ?_
      refine ASeq.gno _ _ rfl rfl rfl rfl rfl ?_
      refine ASeq.gno _ _ rfl rfl rfl rfl rfl ?_
      refine ASeq.q rfl rfl (QOp.pickF rfl rfl rfl) ?_
      refine ASeq.nil ?_
      refine AExit.then_normal ?_
      refine ACode.cond _ rfl (fun hb => by cases hb) (fun hb => ?_)
      have hend : blockLoop (k + 1) q l d = (q, l) := by simp only [blockLoop]; rw [if_neg (by simp [hc])]
      rw [hend] at hres
      refine ACode.exit (ACode.seq (ACode.region ?_))
      refine ASeq.slot 6 rfl (AV.Le.tok 1 _ (ints l)) ?_
      refine ASeq.q rfl rfl (QOp.loadM 3 rfl rfl rfl (tok _ rfl) rfl) ?_
      refine ASeq.op rfl rfl (AOp.callP 3 rfl (by kernel_rfl) rfl rfl rfl (want_ok q hq w_rc _ _ _) ?_ (by rintro _ _ ⟨⟩))
      rintro _ _ ⟨te, ts, tf⟩
      refine ASeq.q rfl rfl (QOp.move rfl rfl) ?_
      refine ASeq.op0 rfl rfl (AOp.storeP 4 rfl rfl rfl rfl (tok _ rfl) rfl rfl rfl rfl ?_)
      refine ASeq.q rfl rfl (QOp.assign rfl rfl) ?_
      refine ASeq.nil ?_
      refine ACode.ret ?_
      refine bodyQ_ret 3 (.cell 4 rfl rfl (tok _ rfl) rfl (.tmp rfl .nil)) rfl ?_
      rw [show block (n + 1) p d = (q.want w_rc, l) by simp only [block]; rw [hif, ← hres]]
      exact .mk _ _ _
set_option maxHeartbeats 4000000 in
theorem branch_walk (n : Nat) (ih : ∀ k < n + 1, Walks2 k) (p : PS) (fr d : Int) (h : p.ok) (hd : 0 ≤ d) (hdm : d + p.mm + 20 ≤ dmax) (hm : p.mm + 15 ≤ (n + 1 : Nat)) (te ts tf : Nat) :
    ACalls Try.prog 97 [.agg (p.cells te ts tf), vi fr, vi d] [.tk te, .tk ts, .tk tf] (RPV (branch (n + 1) p fr d).1 (vi (branch (n + 1) p fr d).2)) := by
  have ih0 := ih n (by omega)
  have ie := walks n
  have hnn := PS.mm_nn h
  have hmax : dmax = 1099511627776 := rfl
  have s1 := (steps n).exprP p d
  have o1 := s1.ok (by decide) (by decide) h
  have m1 := s1.le h
  have n1 := PS.mm_nn o1
  have s2 := (steps2 n).block (exprP n p d).1 (d + 1)
  have o2 := s2.ok (by decide) (by decide) o1
  have m2 := s2.le o1
  have s12 := s1.then s2 (by decide) (by decide)
  refine ACalls.of_code (c := _) Try.func97 rfl Try.ntmps97 (Nat.le_of_ble_eq_true rfl) ?_
  refine ACode.seq (ACode.region ?_)
  refine ASeq.op rfl rfl (AOp.boxP rfl rfl rfl (fun _ => rfl) (fun _ => ?_))
  refine ASeq.op rfl rfl (AOp.allocP rfl (tok _ rfl) rfl rfl (fun _ => rfl) (fun _ => ?_))
  refine ASeq.q rfl rfl (QOp.assign rfl rfl) ?_
  refine ASeq.nil ?_
  refine ACode.seq (ACode.region ?_)
  refine ASeq.q rfl rfl (QOp.loadM 3 rfl rfl rfl (tok _ rfl) rfl) ?_
  refine ASeq.q rfl rfl (QOp.move rfl rfl) ?_
  refine ASeq.op rfl rfl (AOp.callP 3 rfl (by kernel_rfl) rfl rfl rfl (ie.exprP p d h hd (by omega) (by omega) _ _ _) ?_ (by rintro _ _ ⟨⟩))
  rintro _ _ ⟨te, ts, tf⟩
  refine ASeq.q rfl rfl (QOp.move rfl rfl) ?_
  refine ASeq.q rfl rfl (QOp.extract rfl rfl rfl) ?_
  refine ASeq.q rfl rfl (QOp.extract rfl rfl rfl) ?_
  refine ASeq.op rfl rfl (AOp.allocP rfl (tok _ rfl) rfl rfl (fun _ => rfl) (fun _ => ?_))
  refine ASeq.op0 rfl rfl (AOp.storeP 5 rfl rfl rfl rfl (tok _ rfl) rfl rfl rfl rfl ?_)
  refine ASeq.q rfl rfl (QOp.assign rfl rfl) ?_
  refine ASeq.nil ?_
  refine ACode.seq (ACode.region ?_)
  refine ASeq.q rfl rfl (QOp.loadM 5 rfl rfl rfl (tok _ rfl) rfl) ?_
  refine ASeq.q rfl rfl (QOp.move rfl rfl) ?_
  refine ASeq.q rfl rfl (QOp.ar64 rfl rfl rfl rfl ⟨by omega, by omega⟩) ?_
  refine ASeq.op rfl rfl (AOp.callP 3 rfl (by kernel_rfl) rfl rfl rfl (ih0.block _ (d + 1) o1 (by omega) (by omega) (by omega) _ _ _) ?_ (by rintro _ _ ⟨⟩))
  rintro _ _ ⟨te, ts, tf⟩
  refine ASeq.q rfl rfl (QOp.move rfl rfl) ?_
  refine ASeq.q rfl rfl (QOp.extract rfl rfl rfl) ?_
  refine ASeq.q rfl rfl (QOp.extract rfl rfl rfl) ?_
  refine ASeq.op rfl rfl (AOp.allocP rfl (tok _ rfl) rfl rfl (fun _ => rfl) (fun _ => ?_))
  refine ASeq.op0 rfl rfl (AOp.storeP 6 rfl rfl rfl rfl (tok _ rfl) rfl rfl rfl rfl ?_)
  refine ASeq.q rfl rfl (QOp.assign rfl rfl) ?_
  refine ASeq.nil ?_
  refine ACode.seq (ACode.region ?_)
  refine ASeq.q rfl rfl (QOp.move rfl rfl) ?_
  refine ASeq.q rfl rfl (QOp.move rfl rfl) ?_
  refine ASeq.q rfl rfl (QOp.build rfl (tok _ rfl) rfl rfl rfl rfl rfl) ?_
  refine ASeq.op rfl rfl (AOp.allocP rfl (tok _ rfl) rfl rfl (fun _ => rfl) (fun _ => ?_))
  refine ASeq.op0 rfl rfl (AOp.storeP 7 rfl rfl rfl rfl (tok _ rfl) rfl rfl rfl rfl ?_)
  refine ASeq.nil ?_
  refine ACode.seq (ACode.seq (ACode.region ?_))
  refine ASeq.q rfl rfl (QOp.loadM 6 rfl rfl rfl (tok _ rfl) rfl) ?_
  refine ASeq.op rfl rfl (AOp.callP 0 rfl (by kernel_rfl) rfl rfl rfl (is_ok _ o2 w_else _ _ _) ?_ (by rintro _ _ ⟨⟩))
  rintro _ _ ⟨⟩
  refine ASeq.nil ?_
  refine AExit.then_normal ?_
  refine ACode.cond _ rfl (fun hel => ?_) (fun hel => ?_)
  · have o3 := ok_want o2 w_else
    have m3 := mm_want o2 (PS.is_kind hel).1 w_else
    have s3 := s12.then (Step.want _ w_else) (by decide) (by decide)
    refine ACode.seq (ACode.region ?_)
    refine ASeq.q rfl rfl (QOp.loadM 6 rfl rfl rfl (tok _ rfl) rfl) ?_
    refine ASeq.op rfl rfl (AOp.callP 3 rfl (by kernel_rfl) rfl rfl rfl (want_ok _ o2 w_else _ _ _) ?_ (by rintro _ _ ⟨⟩))
    rintro _ _ ⟨te, ts, tf⟩
    refine ASeq.op0 rfl rfl (AOp.storeP 6 rfl rfl rfl rfl (tok _ rfl) rfl rfl rfl rfl ?_)
    refine ASeq.nil ?_
    refine ACode.seq (ACode.region ?_)
    refine ASeq.q rfl rfl (QOp.loadM 6 rfl rfl rfl (tok _ rfl) rfl) ?_
    refine ASeq.op rfl rfl (AOp.callP 0 rfl (by kernel_rfl) rfl rfl rfl (is_ok _ o3 w_if _ _ _) ?_ (by rintro _ _ ⟨⟩))
    rintro _ _ ⟨⟩
    refine ASeq.nil ?_
    refine AExit.then_normal ?_
    refine ACode.cond _ rfl (fun hif => ?_) (fun hif => ?_)
    · have s4 := Step.deep ((block n (exprP n p d).1 (d + 1)).1.want w_else) (d + 1)
      have o4 := s4.ok (by decide) (by decide) o3
      have m4 := s4.le o3
      have o5 := ok_want o4 w_if
      have m5 := mm_wantle o4 w_if
      have s6 := (steps2 n).branch ((((block n (exprP n p d).1 (d + 1)).1.want w_else).deep (d + 1)).want w_if) (((block n (exprP n p d).1 (d + 1)).1.want w_else).deep (d + 1)).here (d + 1)
      have o6 := s6.ok (by decide) (by decide) o5
      have pos := (((s3.then s4 (by decide) (by decide)).then (Step.want _ w_if) (by decide) (by decide)).then s6 (by decide) (by decide)).pos h (.inl (by decide))
      refine ACode.seq (ACode.region ?_)
      refine ASeq.q rfl rfl (QOp.loadM 6 rfl rfl rfl (tok _ rfl) rfl) ?_
      refine ASeq.q rfl rfl (QOp.move rfl rfl) ?_
      refine ASeq.q rfl rfl (QOp.ar64 rfl rfl rfl rfl ⟨by omega, by omega⟩) ?_
      refine ASeq.op rfl rfl (AOp.callP 3 rfl (by kernel_rfl) rfl rfl rfl (deep_ok _ o3 (d + 1) _ _ _) ?_ (by rintro _ _ ⟨⟩))
      rintro _ _ ⟨te, ts, tf⟩
      refine ASeq.op0 rfl rfl (AOp.storeP 6 rfl rfl rfl rfl (tok _ rfl) rfl rfl rfl rfl ?_)
      refine ASeq.nil ?_
      refine ACode.seq (ACode.region ?_)
      refine ASeq.q rfl rfl (QOp.loadM 6 rfl rfl rfl (tok _ rfl) rfl) ?_
      refine ASeq.op rfl rfl (AOp.callP 0 rfl (by kernel_rfl) rfl rfl rfl (here_ok _ o4 _ _ _) ?_ (by rintro _ _ ⟨⟩))
      rintro _ _ ⟨⟩
      refine ASeq.q rfl rfl (QOp.assign rfl rfl) ?_
      refine ASeq.nil ?_
      refine ACode.seq (ACode.region ?_)
      refine ASeq.q rfl rfl (QOp.loadM 6 rfl rfl rfl (tok _ rfl) rfl) ?_
      refine ASeq.op rfl rfl (AOp.callP 3 rfl (by kernel_rfl) rfl rfl rfl (want_ok _ o4 w_if _ _ _) ?_ (by rintro _ _ ⟨⟩))
      rintro _ _ ⟨te, ts, tf⟩
      refine ASeq.q rfl rfl (QOp.move rfl rfl) ?_
      refine ASeq.q rfl rfl (QOp.move rfl rfl) ?_
      refine ASeq.q rfl rfl (QOp.ar64 rfl rfl rfl rfl ⟨by omega, by omega⟩) ?_
      refine ASeq.op rfl rfl (AOp.callP 3 rfl (by kernel_rfl) rfl rfl rfl (ih0.branch _ _ (d + 1) o5 (by omega) (by omega) (by omega) _ _ _) ?_ (by rintro _ _ ⟨⟩))
      rintro _ _ ⟨te, ts, tf⟩
      refine ASeq.q rfl rfl (QOp.move rfl rfl) ?_
      refine ASeq.q rfl rfl (QOp.extract rfl rfl rfl) ?_
      refine ASeq.q rfl rfl (QOp.extract rfl rfl rfl) ?_
      refine ASeq.op rfl rfl (AOp.allocP rfl (tok _ rfl) rfl rfl (fun _ => rfl) (fun _ => ?_))
      refine ASeq.op0 rfl rfl (AOp.storeP 8 rfl rfl rfl rfl (tok _ rfl) rfl rfl rfl rfl ?_)
      refine ASeq.q rfl rfl (QOp.assign rfl rfl) ?_
      refine ASeq.nil ?_
      refine ACode.seq (ACode.region ?_)
      refine ASeq.q rfl rfl (QOp.loadM 8 rfl rfl rfl (tok _ rfl) rfl) ?_
      refine ASeq.op0 rfl rfl (AOp.storeP 6 rfl rfl rfl rfl (tok _ rfl) rfl rfl rfl rfl ?_)
      refine ASeq.nil ?_
      refine ACode.region ?_
      refine ASeq.q rfl rfl (QOp.move rfl rfl) ?_
      refine ASeq.op rfl rfl (AOp.buildSliceR rfl (tok _ rfl) rfl (tok _ rfl) (by decide) rfl (by decide) rfl rfl rfl rfl ?_)
      refine ASeq.q rfl rfl (QOp.fieldM rfl rfl (tok _ rfl) rfl rfl (by decide) rfl) ?_
      refine ASeq.op0 rfl rfl (AOp.storeP 7 rfl rfl rfl rfl (tok _ rfl) rfl rfl rfl rfl ?_)
      refine ASeq.nil ?_
      refine ACode.seq (ACode.region ?_)
      refine ASeq.q rfl rfl (QOp.loadM 6 rfl rfl rfl (tok _ rfl) rfl) ?_
      refine ASeq.q rfl rfl (QOp.move rfl rfl) ?_
      refine ASeq.q rfl rfl (QOp.loadM 7 rfl rfl rfl (tok _ rfl) rfl) ?_
      refine ASeq.op rfl rfl (AOp.callP 3 rfl (by kernel_rfl) rfl rfl rfl (add_le _ o6 fr { kind := 5, a := (exprP n p d).2, thn := (block n (exprP n p d).1 (d + 1)).2, els := [(branch n ((((block n (exprP n p d).1 (d + 1)).1.want w_else).deep (d + 1)).want w_if) (((block n (exprP n p d).1 (d + 1)).1.want w_else).deep (d + 1)).here (d + 1)).2] } pos (.refl _) (.refl _) _ _ _) ?_ (by rintro _ _ ⟨⟩))
      rintro _ _ ⟨te, ts, tf⟩
      refine ASeq.q rfl rfl (QOp.extract rfl rfl rfl) ?_
      refine ASeq.q rfl rfl (QOp.extract rfl rfl rfl) ?_
      refine ASeq.op0 rfl rfl (AOp.storeP 4 rfl rfl rfl rfl (tok _ rfl) rfl rfl rfl rfl ?_)
      refine ASeq.q rfl rfl (QOp.assign rfl rfl) ?_
      refine ASeq.nil ?_
      refine ACode.ret ?_
      refine bodyQ_ret 3 (.cell 4 rfl rfl (tok _ rfl) rfl (.tmp rfl .nil)) rfl ?_
      simp only [branch, if_pos hel, if_pos hif]
      exact .mk _ _ _
    · have hif : ¬ ((block n (exprP n p d).1 (d + 1)).1.want w_else).is w_if = true := by rw [hif]; decide
      have s4 := (steps2 n).block ((block n (exprP n p d).1 (d + 1)).1.want w_else) (d + 1)
      have o4 := s4.ok (by decide) (by decide) o3
      have pos := (s3.then s4 (by decide) (by decide)).pos h (.inl (by decide))
      refine ACode.seq (ACode.region ?_)
      refine ASeq.q rfl rfl (QOp.loadM 6 rfl rfl rfl (tok _ rfl) rfl) ?_
      refine ASeq.q rfl rfl (QOp.move rfl rfl) ?_
      refine ASeq.q rfl rfl (QOp.ar64 rfl rfl rfl rfl ⟨by omega, by omega⟩) ?_
      refine ASeq.op rfl rfl (AOp.callP 3 rfl (by kernel_rfl) rfl rfl rfl (ih0.block _ (d + 1) o3 (by omega) (by omega) (by omega) _ _ _) ?_ (by rintro _ _ ⟨⟩))
      rintro _ _ ⟨te, ts, tf⟩
      refine ASeq.q rfl rfl (QOp.move rfl rfl) ?_
      refine ASeq.q rfl rfl (QOp.extract rfl rfl rfl) ?_
      refine ASeq.q rfl rfl (QOp.extract rfl rfl rfl) ?_
      refine ASeq.op rfl rfl (AOp.allocP rfl (tok _ rfl) rfl rfl (fun _ => rfl) (fun _ => ?_))
      refine ASeq.op0 rfl rfl (AOp.storeP 8 rfl rfl rfl rfl (tok _ rfl) rfl rfl rfl rfl ?_)
      refine ASeq.q rfl rfl (QOp.assign rfl rfl) ?_
      refine ASeq.nil ?_
      refine ACode.seq (ACode.region ?_)
      refine ASeq.q rfl rfl (QOp.loadM 8 rfl rfl rfl (tok _ rfl) rfl) ?_
      refine ASeq.op0 rfl rfl (AOp.storeP 6 rfl rfl rfl rfl (tok _ rfl) rfl rfl rfl rfl ?_)
      refine ASeq.nil ?_
      refine ACode.region ?_
      refine ASeq.q rfl rfl (QOp.move rfl rfl) ?_
      refine ASeq.q rfl rfl (QOp.fieldM rfl rfl (tok _ rfl) rfl rfl (by decide) rfl) ?_
      refine ASeq.op0 rfl rfl (AOp.storeP 7 rfl rfl rfl rfl (tok _ rfl) rfl rfl rfl rfl ?_)
      refine ASeq.nil ?_
      refine ACode.seq (ACode.region ?_)
      refine ASeq.q rfl rfl (QOp.loadM 6 rfl rfl rfl (tok _ rfl) rfl) ?_
      refine ASeq.q rfl rfl (QOp.move rfl rfl) ?_
      refine ASeq.q rfl rfl (QOp.loadM 7 rfl rfl rfl (tok _ rfl) rfl) ?_
      refine ASeq.op rfl rfl (AOp.callP 3 rfl (by kernel_rfl) rfl rfl rfl (add_le _ o4 fr { kind := 5, a := (exprP n p d).2, thn := (block n (exprP n p d).1 (d + 1)).2, els := (block n ((block n (exprP n p d).1 (d + 1)).1.want w_else) (d + 1)).2 } pos (.refl _) (.refl _) _ _ _) ?_ (by rintro _ _ ⟨⟩))
      rintro _ _ ⟨te, ts, tf⟩
      refine ASeq.q rfl rfl (QOp.extract rfl rfl rfl) ?_
      refine ASeq.q rfl rfl (QOp.extract rfl rfl rfl) ?_
      refine ASeq.op0 rfl rfl (AOp.storeP 4 rfl rfl rfl rfl (tok _ rfl) rfl rfl rfl rfl ?_)
      refine ASeq.q rfl rfl (QOp.assign rfl rfl) ?_
      refine ASeq.nil ?_
      refine ACode.ret ?_
      refine bodyQ_ret 3 (.cell 4 rfl rfl (tok _ rfl) rfl (.tmp rfl .nil)) rfl ?_
      simp only [branch, if_pos hel, if_neg hif]
      exact .mk _ _ _
  · have hel : ¬ (block n (exprP n p d).1 (d + 1)).1.is w_else = true := by rw [hel]; decide
    have pos := s12.pos h (.inl (by decide))
    refine ACode.skip (ACode.seq (ACode.region ?_))
    refine ASeq.q rfl rfl (QOp.loadM 6 rfl rfl rfl (tok _ rfl) rfl) ?_
    refine ASeq.q rfl rfl (QOp.move rfl rfl) ?_
    refine ASeq.q rfl rfl (QOp.loadM 7 rfl rfl rfl (tok _ rfl) rfl) ?_
    refine ASeq.op rfl rfl (AOp.callP 3 rfl (by kernel_rfl) rfl rfl rfl (add_le _ o2 fr { kind := 5, a := (exprP n p d).2, thn := (block n (exprP n p d).1 (d + 1)).2 } pos (.refl _) nil_le _ _ _) ?_ (by rintro _ _ ⟨⟩))
    rintro _ _ ⟨te, ts, tf⟩
    refine ASeq.q rfl rfl (QOp.extract rfl rfl rfl) ?_
    refine ASeq.q rfl rfl (QOp.extract rfl rfl rfl) ?_
    refine ASeq.op0 rfl rfl (AOp.storeP 4 rfl rfl rfl rfl (tok _ rfl) rfl rfl rfl rfl ?_)
    refine ASeq.q rfl rfl (QOp.assign rfl rfl) ?_
    refine ASeq.nil ?_
    refine ACode.ret ?_
    refine bodyQ_ret 3 (.cell 4 rfl rfl (tok _ rfl) rfl (.tmp rfl .nil)) rfl ?_
    simp only [branch, if_neg hel]
    exact .mk _ _ _
theorem walks2 : ∀ n, Walks2 n := by
  intro n
  induction n using Nat.strongRecOn with
  | ind n ih =>
    cases n with
    | zero =>
      refine ⟨fun p d h hd hdm hm => ?_, fun p d h hd hdm hm => ?_, fun p fr d h hd hdm hm => ?_⟩ <;> (have := PS.mm_nn h; omega)
    | succ n =>
      exact ⟨fun p d h hd hdm hm te ts tf => block_walk n ih p d h hd hdm hm te ts tf, fun p d h hd hdm hm te ts tf => stmt_walk n ih p d h hd hdm hm te ts tf,
        fun p fr d h hd hdm hm te ts tf => branch_walk n ih p fr d h hd hdm hm te ts tf⟩
end Go.Proofs.Ytaadamobapnfbaa
set_option linter.unusedVariables false
namespace Go.Proofs.Ytaadamobapnfbaa
open Go Go.Abs
def isLetter (c : Int) : Bool := (decide (c ≥ 97) && decide (c ≤ 122) || decide (c ≥ 65) && decide (c ≤ 90)) || c == 95
def isDigit (c : Int) : Bool := decide (c ≥ 48) && decide (c ≤ 57)
def isBlank (c : Int) : Bool := ((c == 32 || c == 9) || c == 10) || c == 13
def hasS (l : List ByteArray) (s : ByteArray) : Bool := l.any fun x => x.data.toList == s.data.toList
def wordL : List ByteArray := [⟨#[98, 114, 101, 97, 107]⟩, ⟨#[99, 111, 110, 116, 105, 110, 117, 101]⟩, ⟨#[101, 108, 115, 101]⟩, ⟨#[102, 97, 108, 115, 101]⟩, ⟨#[102, 117, 110, 99]⟩, ⟨#[105, 102]⟩, ⟨#[105, 110, 116]⟩, ⟨#[112, 114, 105, 110, 116]⟩, ⟨#[114, 101, 97, 100]⟩, ⟨#[114, 101, 116, 117, 114, 110]⟩, ⟨#[116, 114, 117, 101]⟩, ⟨#[118, 97, 114]⟩, ⟨#[119, 104, 105, 108, 101]⟩]
def twoL : List ByteArray := [⟨#[61, 61]⟩, ⟨#[33, 61]⟩, ⟨#[60, 61]⟩, ⟨#[62, 61]⟩, ⟨#[38, 38]⟩, ⟨#[124, 124]⟩]
def oneL : List ByteArray := [⟨#[43]⟩, ⟨#[45]⟩, ⟨#[42]⟩, ⟨#[47]⟩, ⟨#[37]⟩, ⟨#[60]⟩, ⟨#[62]⟩, ⟨#[33]⟩, ⟨#[61]⟩, ⟨#[40]⟩, ⟨#[41]⟩, ⟨#[123]⟩, ⟨#[125]⟩, ⟨#[91]⟩, ⟨#[93]⟩, ⟨#[44]⟩, ⟨#[59]⟩]
/-- how many bytes are blanks; in a comment, or not -/
def skipL : Bool → List UInt8 → Nat
  | _, [] => 0
  | true, b :: l => if (b.toNat : Int) = 10 then 1 + skipL false l else 1 + skipL true l
  | false, b :: l => if isBlank b.toNat = true then 1 + skipL false l else if (b.toNat : Int) = 35 then 1 + skipL true l else 0
def runL (f : Int → Bool) : List UInt8 → Nat
  | [] => 0
  | b :: l => if f b.toNat = true then 1 + runL f l else 0
theorem skipL_le : ∀ (l : List UInt8) (c : Bool), skipL c l ≤ l.length
  | [], c => by cases c <;> simp [skipL]
  | b :: l, true => by
    have := skipL_le l false; have := skipL_le l true
    simp only [skipL, List.length_cons]; split <;> omega
  | b :: l, false => by
    have := skipL_le l false; have := skipL_le l true
    simp only [skipL, List.length_cons]; split
    · omega
    · split <;> omega
theorem runL_le (f : Int → Bool) : ∀ l : List UInt8, runL f l ≤ l.length
  | [] => by simp [runL]
  | b :: l => by
    have := runL_le f l
    simp only [runL, List.length_cons]; split <;> omega
def byteAt (s : ByteArray) (i : Nat) : Int := ((s.data.toList.getD i 0).toNat : Int)
def letOrDig (c : Int) : Bool := isLetter c || isDigit c
def behind (s : ByteArray) (at_ : Nat) : Nat := at_ + skipL false (s.data.toList.drop at_)
def nextAt (s : ByteArray) (i : Nat) : Tok × Int :=
  if i = s.size then (⟨0, i, i⟩, 0)
  else if isLetter (byteAt s i) = true then
    if hasS wordL (s.extract i (i + runL letOrDig (s.data.toList.drop i))) = true then (⟨3, i, (i + runL letOrDig (s.data.toList.drop i) : Nat)⟩, 0)
    else (⟨1, i, (i + runL letOrDig (s.data.toList.drop i) : Nat)⟩, 0)
  else if isDigit (byteAt s i) = true then
    if 18 < runL isDigit (s.data.toList.drop i) ∨ (1 < runL isDigit (s.data.toList.drop i) ∧ byteAt s i = 48) ∨
      (i + runL isDigit (s.data.toList.drop i) < s.size ∧ isLetter (byteAt s (i + runL isDigit (s.data.toList.drop i))) = true) then (⟨0, i, i⟩, 2)
    else (⟨2, i, (i + runL isDigit (s.data.toList.drop i) : Nat)⟩, 0)
  else if i + 2 ≤ s.size ∧ hasS twoL (s.extract i (i + 2)) = true then (⟨4, i, (i + 2 : Nat)⟩, 0)
  else if hasS oneL (s.extract i (i + 1)) = true then (⟨4, i, (i + 1 : Nat)⟩, 0)
  else (⟨0, i, i⟩, 2)
def nextTok (s : ByteArray) (at_ : Nat) : Tok × Int := nextAt s (behind s at_)
def allToks : Nat → ByteArray → Nat → List Tok → List Tok × Int × Int
  | 0, _, _, _ => ([], 0, 99)
  | n + 1, s, at_, out =>
    if (nextTok s at_).2 ≠ 0 then ([], (nextTok s at_).1.fr, (nextTok s at_).2)
    else if (nextTok s at_).1.kind = 0 then (out ++ [(nextTok s at_).1], 0, 0)
    else allToks n s (nextTok s at_).1.to.toNat (out ++ [(nextTok s at_).1])
def tokens (s : ByteArray) : List Tok × Int × Int := if 20000 < s.size then ([], 0, 1) else allToks (s.size + 1) s 0 []

theorem behind_le {s : ByteArray} {i : Nat} (h : i ≤ s.size) : i ≤ behind s i ∧ behind s i ≤ s.size := by
  have h1 := skipL_le (s.data.toList.drop i) false
  have h2 : s.data.toList.length = s.size := by simp
  rw [List.length_drop] at h1
  unfold behind
  omega
theorem drop_getD {s : ByteArray} {i : Nat} (h : i < s.size) : s.data.toList.drop i = s.data.toList.getD i 0 :: s.data.toList.drop (i + 1) := by
  have h2 : i < s.data.toList.length := by simpa using h
  rw [List.drop_eq_getElem_cons h2, List.getD_eq_getElem?_getD, List.getElem?_eq_getElem h2]; rfl
theorem getD_get {s : ByteArray} {i : Nat} (h : i < s.size) : s.data.toList[i]? = some (s.data.toList.getD i 0) := by
  have h2 : i < s.data.toList.length := by simpa using h
  rw [List.getD_eq_getElem?_getD, List.getElem?_eq_getElem h2]; rfl
theorem runL_pos {f : Int → Bool} {s : ByteArray} {i : Nat} (h : i < s.size) (hf : f (byteAt s i) = true) : 0 < runL f (s.data.toList.drop i) := by
  rw [drop_getD h]; simp only [runL]; rw [if_pos (show f ((s.data.toList.getD i 0).toNat : Int) = true from hf)]; omega
theorem runL_end (f : Int → Bool) (s : ByteArray) {i : Nat} (h : i ≤ s.size) : i + runL f (s.data.toList.drop i) ≤ s.size := by
  have h1 := runL_le f (s.data.toList.drop i)
  have h2 : s.data.toList.length = s.size := by simp
  rw [List.length_drop] at h1; omega
theorem runL_all (f : Int → Bool) : ∀ l : List UInt8, ∀ b ∈ l.take (runL f l), f b.toNat = true
  | [], b, hb => by simp at hb
  | x :: l, b, hb => by
    simp only [runL] at hb
    split at hb
    · rename_i hx
      rw [Nat.add_comm, List.take_succ_cons, List.mem_cons] at hb
      rcases hb with rfl | hb
      · exact hx
      · exact runL_all f l b hb
    · simp at hb
/-- What the next token is, where it is one. -/
structure TokOk (s : ByteArray) (at_ : Nat) (t : Tok) : Prop where
  fr : (at_ : Int) ≤ t.fr
  to : t.fr ≤ t.to
  end_ : t.to ≤ s.size
  kind : t.kind ≠ 0 → t.fr < t.to
  num : t.kind = 2 → digs (s.extract t.fr.toNat t.to.toNat).data.toList ∧ (s.extract t.fr.toNat t.to.toNat).size ≤ 18
theorem nextTok_ok {s : ByteArray} {at_ : Nat} (h : at_ ≤ s.size) (hc : (nextTok s at_).2 = 0) : TokOk s at_ (nextTok s at_).1 := by
  obtain ⟨h1, h2⟩ := behind_le h
  unfold nextTok at hc ⊢
  generalize behind s at_ = i at h1 h2 hc ⊢
  unfold nextAt at hc ⊢
  split
  · exact ⟨by dsimp only; omega, by dsimp only; omega, by dsimp only; omega, fun h => absurd rfl h, fun h => by simp at h⟩
  rename_i h0
  rw [if_neg h0] at hc
  have hi : i < s.size := by omega
  split
  · rename_i hl
    have hp : 0 < runL letOrDig (s.data.toList.drop i) := runL_pos hi (by unfold letOrDig; rw [hl]; rfl)
    have he := runL_end letOrDig s h2
    split
    · exact ⟨by dsimp only; omega, by dsimp only; omega, by dsimp only; omega, fun _ => by dsimp only; omega, fun h => by simp at h⟩
    · exact ⟨by dsimp only; omega, by dsimp only; omega, by dsimp only; omega, fun _ => by dsimp only; omega, fun h => by simp at h⟩
  rename_i hl
  rw [if_neg hl] at hc
  split
  · rename_i hd
    rw [if_pos hd] at hc
    have hp : 0 < runL isDigit (s.data.toList.drop i) := runL_pos hi hd
    have he := runL_end isDigit s h2
    split
    · rename_i hx; rw [if_pos hx] at hc; simp at hc
    · rename_i hx
      refine ⟨by dsimp only; omega, by dsimp only; omega, by dsimp only; omega, fun _ => by dsimp only; omega, fun _ => ⟨fun b hb => ?_, ?_⟩⟩
      · simp only [Int.toNat_natCast] at hb
        have hb : b ∈ (s.data.toList.drop i).take (runL isDigit (s.data.toList.drop i)) := by
          simpa [ByteArray.data_extract, List.extract_eq_take_drop, Nat.add_sub_cancel_left] using hb
        have := runL_all isDigit _ b hb
        simp only [isDigit, Bool.and_eq_true, decide_eq_true_eq] at this
        omega
      · simp only [Int.toNat_natCast, ByteArray.size_extract]; omega
  rename_i hd
  rw [if_neg hd] at hc
  split
  · rename_i hx
    exact ⟨by dsimp only; omega, by dsimp only; omega, by dsimp only; omega, fun _ => by dsimp only; omega, fun h => by simp at h⟩
  rename_i hx
  rw [if_neg hx] at hc
  split
  · exact ⟨by dsimp only; omega, by dsimp only; omega, by dsimp only; omega, fun _ => by dsimp only; omega, fun h => by simp at h⟩
  · rename_i hy; rw [if_neg hy] at hc; simp at hc
end Go.Proofs.Ytaadamobapnfbaa
set_option linter.unusedVariables false
set_option linter.unusedSimpArgs false
set_option maxRecDepth 100000
namespace Go.Proofs.Ytaadamobapnfbaa
open Go Go.Abs
def vb (c : Int) : AV := .v (.int .u8 c)
theorem digit_ok (c : Int) : ACalls Try.prog 75 [vb c] [] (RV (.v (.bool (isDigit c))) []) := by
  refine ACalls.of_code (c := _) Try.func75 rfl Try.ntmps75 (Nat.le_of_ble_eq_true rfl) ?_
  refine ACode.seq (ACode.region ?_)
  refine ASeq.q rfl rfl (QOp.assign rfl rfl) ?_
  refine ASeq.nil ?_
  refine ACode.seq (ACode.region ?_)
  refine ASeq.q rfl rfl (QOp.move rfl rfl) ?_
  refine ASeq.q rfl rfl (QOp.cmp rfl rfl rfl rfl) ?_
  refine ASeq.q rfl rfl (QOp.move rfl rfl) ?_
  refine ASeq.split 5 (decide (c ≥ 48)) rfl (fun hb => ?_) (fun hb => ?_)
  · refine ASeq.gq _ _ rfl rfl rfl rfl (QOp.move rfl rfl) ?_
    refine ASeq.gq _ _ rfl rfl rfl rfl (QOp.cmp rfl rfl rfl rfl) ?_
    refine ASeq.q rfl rfl (QOp.pickT rfl rfl rfl) ?_
    refine ASeq.q rfl rfl (QOp.assign rfl rfl) ?_
    refine ASeq.nil ?_
    refine ACode.ret ?_
    refine bodyQ_ret 0 (.tmp rfl .nil) rfl ?_
    rw [show isDigit c = decide (c ≤ 57) by unfold isDigit; rw [hb]; rfl]; exact .mk
  · refine ASeq.gno _ _ rfl rfl rfl rfl rfl ?_
    refine ASeq.gno _ _ rfl rfl rfl rfl rfl ?_
    refine ASeq.q rfl rfl (QOp.pickF rfl rfl rfl) ?_
    refine ASeq.q rfl rfl (QOp.assign rfl rfl) ?_
    refine ASeq.nil ?_
    refine ACode.ret ?_
    refine bodyQ_ret 0 (.tmp rfl .nil) rfl ?_
    rw [show isDigit c = false by unfold isDigit; rw [hb]; rfl]; exact .mk
theorem letter_ok (c : Int) : ACalls Try.prog 74 [vb c] [] (RV (.v (.bool (isLetter c))) []) := by
  refine ACalls.of_code (c := _) Try.func74 rfl Try.ntmps74 (Nat.le_of_ble_eq_true rfl) ?_
  refine ACode.seq (ACode.region ?_)
  refine ASeq.q rfl rfl (QOp.assign rfl rfl) ?_
  refine ASeq.nil ?_
  refine ACode.seq (ACode.region ?_)
  refine ASeq.cut 6 [(0, vb c), (8, .v (.bool (decide (c ≥ 97) && decide (c ≤ 122))))] (fun rest => ?_) ?_
  · refine ASeq.q rfl rfl (QOp.move rfl rfl) ?_
    refine ASeq.q rfl rfl (QOp.cmp rfl rfl rfl rfl) ?_
    refine ASeq.q rfl rfl (QOp.move rfl rfl) ?_
    refine ASeq.split 5 (decide (c ≥ 97)) rfl (fun hb => ?_) (fun hb => ?_)
    · refine ASeq.gq _ _ rfl rfl rfl rfl (QOp.move rfl rfl) ?_
      refine ASeq.gq _ _ rfl rfl rfl rfl (QOp.cmp rfl rfl rfl rfl) ?_
      refine ASeq.q rfl rfl (QOp.pickT rfl rfl rfl) ?_
      exact rest.at_ (.cons rfl (.consB rfl (by rw [hb]; rfl) .nil))
    · refine ASeq.gno _ _ rfl rfl rfl rfl rfl ?_
      refine ASeq.gno _ _ rfl rfl rfl rfl rfl ?_
      refine ASeq.q rfl rfl (QOp.pickF rfl rfl rfl) ?_
      exact rest.at_ (.cons rfl (.consB rfl (by rw [hb]; rfl) .nil))
  refine ASeq.cut 8 [(0, vb c), (16, .v (.bool (decide (c ≥ 97) && decide (c ≤ 122) || decide (c ≥ 65) && decide (c ≤ 90))))] (fun rest => ?_) ?_
  · refine ASeq.q rfl rfl (QOp.move rfl rfl) ?_
    refine ASeq.split 9 (decide (c ≥ 97) && decide (c ≤ 122)) rfl (fun hb => ?_) (fun hb => ?_)
    · refine ASeq.gno _ _ rfl rfl rfl rfl rfl ?_
      refine ASeq.gno _ _ rfl rfl rfl rfl rfl ?_
      refine ASeq.gno _ _ rfl rfl rfl rfl rfl ?_
      refine ASeq.gno _ _ rfl rfl rfl rfl rfl ?_
      refine ASeq.gno _ _ rfl rfl rfl rfl rfl ?_
      refine ASeq.gno _ _ rfl rfl rfl rfl rfl ?_
      refine ASeq.q rfl rfl (QOp.pickT rfl rfl rfl) ?_
      exact rest.at_ (.cons rfl (.consB rfl (by rw [hb]; rfl) .nil))
    · refine ASeq.gq _ _ rfl rfl rfl rfl (QOp.move rfl rfl) ?_
      refine ASeq.gq _ _ rfl rfl rfl rfl (QOp.cmp rfl rfl rfl rfl) ?_
      refine ASeq.gq _ _ rfl rfl rfl rfl (QOp.move rfl rfl) ?_
      refine ASeq.split 12 (decide (c ≥ 65)) rfl (fun hb2 => ?_) (fun hb2 => ?_)
      · refine ASeq.gq _ _ rfl rfl rfl rfl (QOp.move rfl rfl) ?_
        refine ASeq.gq _ _ rfl rfl rfl rfl (QOp.cmp rfl rfl rfl rfl) ?_
        refine ASeq.gq _ _ rfl rfl rfl rfl (QOp.pickT rfl rfl rfl) ?_
        refine ASeq.q rfl rfl (QOp.pickF rfl rfl rfl) ?_
        exact rest.at_ (.cons rfl (.consB rfl (by rw [hb, hb2]; rfl) .nil))
      · refine ASeq.gno _ _ rfl rfl rfl rfl rfl ?_
        refine ASeq.gno _ _ rfl rfl rfl rfl rfl ?_
        refine ASeq.gq _ _ rfl rfl rfl rfl (QOp.pickF rfl rfl rfl) ?_
        refine ASeq.q rfl rfl (QOp.pickF rfl rfl rfl) ?_
        exact rest.at_ (.cons rfl (.consB rfl (by rw [hb, hb2]; rfl) .nil))
  refine ASeq.q rfl rfl (QOp.move rfl rfl) ?_
  refine ASeq.split 17 (decide (c ≥ 97) && decide (c ≤ 122) || decide (c ≥ 65) && decide (c ≤ 90)) rfl (fun hb => ?_) (fun hb => ?_)
  · refine ASeq.gno _ _ rfl rfl rfl rfl rfl ?_
    refine ASeq.gno _ _ rfl rfl rfl rfl rfl ?_
    refine ASeq.q rfl rfl (QOp.pickT rfl rfl rfl) ?_
    refine ASeq.q rfl rfl (QOp.assign rfl rfl) ?_
    refine ASeq.nil ?_
    refine ACode.ret ?_
    refine bodyQ_ret 0 (.tmp rfl .nil) rfl ?_
    rw [show isLetter c = true by unfold isLetter; rw [hb]; rfl]; exact .mk
  · refine ASeq.gq _ _ rfl rfl rfl rfl (QOp.move rfl rfl) ?_
    refine ASeq.gq _ _ rfl rfl rfl rfl (QOp.cmp rfl rfl rfl rfl) ?_
    refine ASeq.q rfl rfl (QOp.pickF rfl rfl rfl) ?_
    refine ASeq.q rfl rfl (QOp.assign rfl rfl) ?_
    refine ASeq.nil ?_
    refine ACode.ret ?_
    refine bodyQ_ret 0 (.tmp rfl .nil) rfl ?_
    rw [show isLetter c = (c == 95) by unfold isLetter; rw [hb]; rfl]; exact .mk
theorem has_drop (l : List ByteArray) (s : ByteArray) (i : Nat) (h : i < l.length) : hasS (l.drop i) s = ((l[i].data.toList == s.data.toList) || hasS (l.drop (i + 1)) s) := by
  rw [List.drop_eq_getElem_cons h]; simp only [hasS, List.any_cons]
theorem strs_len (l : List ByteArray) : (strs l).length = l.length := by simp [strs]
theorem has_ok (l : List ByteArray) (s : ByteArray) (hl : l.length ≤ 1000) : ACalls Try.prog 76 [.il 1 none (strs l), vs s] [] (RV (.v (.bool (hasS l s))) []) := by
  have hsl := strs_len l
  refine ACalls.of_code (c := _) Try.func76 rfl Try.ntmps76 (Nat.le_of_ble_eq_true rfl) ?_
  refine ACode.seq (ACode.region ?_)
  refine ASeq.q rfl rfl (QOp.assign rfl rfl) ?_
  refine ASeq.nil ?_
  refine ACode.seq (ACode.seq (ACode.region ?_))
  refine ASeq.q rfl rfl (QOp.move rfl rfl) ?_
  refine ASeq.q rfl rfl (QOp.lenI rfl rfl (tok _ rfl) rfl) ?_
  refine ASeq.q rfl rfl (QOp.move rfl rfl) ?_
  refine ASeq.nil ?_
  refine ACode.block ?_
  refine ACode.loopP (fun i : Nat => [(0, .il 1 none (strs l)), (1, vs s), (7, vi ((strs l).length : Int)), (8, vi i)]) (fun _ => []) (fun i => l.length - i)
    (fun i => i ≤ l.length ∧ hasS (l.drop i) s = hasS l s) 0 ⟨Nat.zero_le _, rfl⟩ (.cons rfl (.cons rfl (.cons rfl (.cons rfl .nil)))) 0 rfl ?_
  rintro i ⟨hi, he⟩
  refine ACode.seq (ACode.region ?_)
  refine ASeq.q rfl rfl (QOp.cmp rfl rfl rfl rfl) ?_
  refine ASeq.nil ?_
  refine ACode.seq ?_
  refine ACode.cond _ rfl (fun hb => ?_) (fun hb => ?_)
  · have hlt : i < l.length := by simpa [hsl] using hb
    have hget := strs_get hlt
    rw [has_drop l s i hlt] at he
    refine ACode.skip (ACode.seq (ACode.block (ACode.seq (ACode.region ?_))))
    refine ASeq.q rfl rfl (QOp.move rfl rfl) ?_
    refine ASeq.q rfl rfl (QOp.assign rfl rfl) ?_
    refine ASeq.nil ?_
    refine ACode.seq (ACode.region ?_)
    refine ASeq.q rfl rfl (QOp.move rfl rfl) ?_
    refine ASeq.q rfl rfl (QOp.move rfl rfl) ?_
    refine ASeq.q rfl rfl (QOp.indexI rfl rfl rfl (tok _ rfl) rfl (tok _ rfl) (by omega) (by assumption)) ?_
    refine ASeq.q rfl rfl (QOp.loadI rfl rfl (tok _ rfl) rfl) ?_
    refine ASeq.q rfl rfl (QOp.move rfl rfl) ?_
    refine ASeq.q rfl rfl (QOp.cmpStr rfl rfl rfl rfl) ?_
    refine ASeq.nil ?_
    refine AExit.then_normal ?_
    refine ACode.cond _ rfl (fun hb => ?_) (fun hb => ?_)
    · refine ACode.seq (ACode.region ?_)
      refine ASeq.q rfl rfl (QOp.assign rfl rfl) ?_
      refine ASeq.nil ?_
      refine ACode.ret (AExit.in_ret (AExit.then_ret (AExit.then_ret (AExit.in_ret (AExit.then_ret ?_)))))
      refine bodyQ_ret 0 (.tmp rfl .nil) rfl ?_
      rw [← he, hb]; exact .mk
    · refine ACode.skip (ACode.region ?_)
      refine ASeq.q rfl rfl (QOp.ar64 rfl rfl rfl rfl ⟨by omega, by omega⟩) ?_
      refine ASeq.q rfl rfl (QOp.move rfl rfl) ?_
      refine ASeq.nil ?_
      refine AExit.then_normal ?_
      refine ⟨i + 1, 0, ⟨hlt, ?_⟩, by omega, .cons rfl (.cons rfl (.cons rfl (.cons rfl .nil))), rfl⟩
      rw [← he, hb]; rfl
  · have hge : i = l.length := by
      have : ¬ i < l.length := by simpa [hsl] using hb
      omega
    refine ACode.exit (ACode.seq (ACode.region ?_))
    refine ASeq.q rfl rfl (QOp.assign rfl rfl) ?_
    refine ASeq.nil ?_
    refine ACode.ret ?_
    refine bodyQ_ret 0 (.tmp rfl .nil) rfl ?_
    rw [← he, hge, List.drop_length]; exact .mk
theorem words_ok : ACalls Try.prog 77 [] [] (RV (.il 1 none (strs wordL)) []) := by
  refine ACalls.of_code (c := _) Try.func77 rfl Try.ntmps77 (Nat.le_of_ble_eq_true rfl) ?_
  refine ACode.seq (ACode.region ?_)
  refine ASeq.q rfl rfl (QOp.assign rfl rfl) ?_
  refine ASeq.nil ?_
  refine ACode.seq (ACode.region ?_)
  refine ASeq.op rfl rfl (AOp.buildSliceR rfl (tok _ rfl) rfl (tok _ rfl) (by decide) rfl (by decide) rfl rfl rfl rfl ?_)
  refine ASeq.q rfl rfl (QOp.assign rfl rfl) ?_
  refine ASeq.nil ?_
  refine ACode.ret ?_
  exact bodyQ_ret 0 (.tmp rfl .nil) rfl .mk
set_option maxHeartbeats 1000000 in
theorem skip_ok (s : ByteArray) (at_ : Nat) (h : at_ ≤ s.size) (hs : s.size ≤ 1000000) : ACalls Try.prog 73 [vs s, vi at_] [] (RV (vi (behind s at_ : Nat)) []) := by
  refine ACalls.of_code (c := _) Try.func73 rfl Try.ntmps73 (Nat.le_of_ble_eq_true rfl) ?_
  refine ACode.seq (ACode.region ?_)
  refine ASeq.q rfl rfl (QOp.assign rfl rfl) ?_
  refine ASeq.nil ?_
  refine ACode.seq (ACode.block ?_)
  refine ACode.loopP (fun i : Nat => [(0, vs s), (1, vi i)]) (fun _ => []) (fun i => s.size - i)
    (fun i => i ≤ s.size ∧ behind s i = behind s at_) at_ ⟨h, rfl⟩ (.cons rfl (.cons rfl .nil)) 0 rfl ?_
  rintro i ⟨hi, he⟩
  refine ACode.seq (ACode.seq (ACode.region ?_))
  refine ASeq.q rfl rfl (QOp.move rfl rfl) ?_
  refine ASeq.q rfl rfl (QOp.move rfl rfl) ?_
  refine ASeq.q rfl rfl (QOp.lenS rfl rfl (tok _ rfl) rfl) ?_
  refine ASeq.q rfl rfl (QOp.cmp rfl rfl rfl rfl) ?_
  refine ASeq.nil ?_
  refine AExit.then_normal ?_
  refine ACode.cond _ rfl (fun hb => ?_) (fun hb => ?_)
  · have hlt : i < s.size := by simpa using hb
    have hd := drop_getD hlt
    refine ACode.skip (ACode.block (ACode.seq (ACode.seq (ACode.region ?_))))
    refine ASeq.cut 10 [(0, vs s), (1, vi i), (18, .v (.bool (byteAt s i == 32 || byteAt s i == 9)))] (fun rest => ?_) ?_
    · refine ASeq.q rfl rfl (QOp.move rfl rfl) ?_
      refine ASeq.q rfl rfl (QOp.move rfl rfl) ?_
      refine ASeq.q rfl rfl (QOp.indexS rfl rfl rfl (tok _ rfl) rfl (by omega) (by rw [Int.toNat_natCast]; exact getD_get hlt)) ?_
      refine ASeq.q rfl rfl (QOp.cmp rfl rfl rfl rfl) ?_
      refine ASeq.q rfl rfl (QOp.move rfl rfl) ?_
      refine ASeq.split 13 (byteAt s i == 32) rfl (fun hb => ?_) (fun hb => ?_)
      · refine ASeq.gno _ _ rfl rfl rfl rfl rfl ?_
        refine ASeq.gno _ _ rfl rfl rfl rfl rfl ?_
        refine ASeq.gno _ _ rfl rfl rfl rfl rfl ?_
        refine ASeq.gno _ _ rfl rfl rfl rfl rfl ?_
        refine ASeq.q rfl rfl (QOp.pickT rfl rfl rfl) ?_
        exact rest.at_ (.cons rfl (.cons rfl (.consB rfl (by rw [hb]; rfl) .nil)))
      · refine ASeq.gq _ _ rfl rfl rfl rfl (QOp.move rfl rfl) ?_
        refine ASeq.gq _ _ rfl rfl rfl rfl (QOp.move rfl rfl) ?_
        refine ASeq.gq _ _ rfl rfl rfl rfl (QOp.indexS rfl rfl rfl (tok _ rfl) rfl (by omega) (by rw [Int.toNat_natCast]; exact getD_get hlt)) ?_
        refine ASeq.gq _ _ rfl rfl rfl rfl (QOp.cmp rfl rfl rfl rfl) ?_
        refine ASeq.q rfl rfl (QOp.pickF rfl rfl rfl) ?_
        exact rest.at_ (.cons rfl (.cons rfl (.consB rfl (by rw [hb]; rfl) .nil)))
    refine ASeq.cut 6 [(0, vs s), (1, vi i), (24, .v (.bool ((byteAt s i == 32 || byteAt s i == 9) || byteAt s i == 10)))] (fun rest => ?_) ?_
    · refine ASeq.q rfl rfl (QOp.move rfl rfl) ?_
      refine ASeq.split 19 (byteAt s i == 32 || byteAt s i == 9) rfl (fun hb => ?_) (fun hb => ?_)
      · refine ASeq.gno _ _ rfl rfl rfl rfl rfl ?_
        refine ASeq.gno _ _ rfl rfl rfl rfl rfl ?_
        refine ASeq.gno _ _ rfl rfl rfl rfl rfl ?_
        refine ASeq.gno _ _ rfl rfl rfl rfl rfl ?_
        refine ASeq.q rfl rfl (QOp.pickT rfl rfl rfl) ?_
        exact rest.at_ (.cons rfl (.cons rfl (.consB rfl (by rw [hb]; rfl) .nil)))
      · refine ASeq.gq _ _ rfl rfl rfl rfl (QOp.move rfl rfl) ?_
        refine ASeq.gq _ _ rfl rfl rfl rfl (QOp.move rfl rfl) ?_
        refine ASeq.gq _ _ rfl rfl rfl rfl (QOp.indexS rfl rfl rfl (tok _ rfl) rfl (by omega) (by rw [Int.toNat_natCast]; exact getD_get hlt)) ?_
        refine ASeq.gq _ _ rfl rfl rfl rfl (QOp.cmp rfl rfl rfl rfl) ?_
        refine ASeq.q rfl rfl (QOp.pickF rfl rfl rfl) ?_
        exact rest.at_ (.cons rfl (.cons rfl (.consB rfl (by rw [hb]; rfl) .nil)))
    refine ASeq.cut 6 [(0, vs s), (1, vi i), (30, .v (.bool (isBlank (byteAt s i))))] (fun rest => ?_) ?_
    · refine ASeq.q rfl rfl (QOp.move rfl rfl) ?_
      refine ASeq.split 25 ((byteAt s i == 32 || byteAt s i == 9) || byteAt s i == 10) rfl (fun hb => ?_) (fun hb => ?_)
      · refine ASeq.gno _ _ rfl rfl rfl rfl rfl ?_
        refine ASeq.gno _ _ rfl rfl rfl rfl rfl ?_
        refine ASeq.gno _ _ rfl rfl rfl rfl rfl ?_
        refine ASeq.gno _ _ rfl rfl rfl rfl rfl ?_
        refine ASeq.q rfl rfl (QOp.pickT rfl rfl rfl) ?_
        exact rest.at_ (.cons rfl (.cons rfl (.consB (b := true) rfl (by unfold isBlank; rw [hb]; rfl) .nil)))
      · refine ASeq.gq _ _ rfl rfl rfl rfl (QOp.move rfl rfl) ?_
        refine ASeq.gq _ _ rfl rfl rfl rfl (QOp.move rfl rfl) ?_
        refine ASeq.gq _ _ rfl rfl rfl rfl (QOp.indexS rfl rfl rfl (tok _ rfl) rfl (by omega) (by rw [Int.toNat_natCast]; exact getD_get hlt)) ?_
        refine ASeq.gq _ _ rfl rfl rfl rfl (QOp.cmp rfl rfl rfl rfl) ?_
        refine ASeq.q rfl rfl (QOp.pickF rfl rfl rfl) ?_
        exact rest.at_ (.cons rfl (.cons rfl (.consB (b := byteAt s i == 13) rfl (by unfold isBlank; rw [hb]; rfl) .nil)))
    refine ASeq.nil ?_
    refine AExit.then_normal ?_
    refine ACode.cond _ rfl (fun hb => ?_) (fun hb => ?_)
    · refine ACode.seq (ACode.region ?_)
      refine ASeq.q rfl rfl (QOp.move rfl rfl) ?_
      refine ASeq.q rfl rfl (QOp.ar64 rfl rfl rfl rfl ⟨by omega, by omega⟩) ?_
      refine ASeq.q rfl rfl (QOp.assign rfl rfl) ?_
      refine ASeq.nil ?_
      refine ACode.exit (AExit.then_exit (AExit.in_same (AExit.then_normal ?_)))
      refine ⟨i + 1, 0, ⟨hlt, ?_⟩, by omega, .cons rfl (.cons rfl .nil), rfl⟩
      rw [← he]; unfold behind
      rw [hd]; simp only [skipL]; rw [if_pos (show isBlank ((s.data.toList.getD i 0).toNat : Int) = true from hb)]; omega
    have hbl : ¬ isBlank ((s.data.toList.getD i 0).toNat : Int) = true := by rw [show isBlank ((s.data.toList.getD i 0).toNat : Int) = false from hb]; decide
    refine ACode.skip (ACode.seq (ACode.seq (ACode.region ?_)))
    refine ASeq.q rfl rfl (QOp.move rfl rfl) ?_
    refine ASeq.q rfl rfl (QOp.move rfl rfl) ?_
    refine ASeq.q rfl rfl (QOp.indexS rfl rfl rfl (tok _ rfl) rfl (by omega) (by rw [Int.toNat_natCast]; exact getD_get hlt)) ?_
    refine ASeq.q rfl rfl (QOp.cmp rfl rfl rfl rfl) ?_
    refine ASeq.nil ?_
    refine AExit.then_normal ?_
    refine ACode.cond _ rfl (fun hb => ?_) (fun hb => ?_)
    · have hne : ¬ ((s.data.toList.getD i 0).toNat : Int) = 35 := by simpa using hb
      refine ACode.seq (ACode.region ?_)
      refine ASeq.q rfl rfl (QOp.move rfl rfl) ?_
      refine ASeq.q rfl rfl (QOp.assign rfl rfl) ?_
      refine ASeq.nil ?_
      refine ACode.ret (AExit.then_ret (AExit.in_ret (AExit.then_ret (AExit.in_ret (AExit.then_ret ?_)))))
      refine bodyQ_ret 0 (.tmp rfl .nil) rfl ?_
      rw [← he, show behind s i = i by unfold behind; rw [hd]; simp only [skipL]; rw [if_neg hbl, if_neg hne]; rfl]
      exact .mk
    · have heq : ((s.data.toList.getD i 0).toNat : Int) = 35 := by simpa using hb
      have hne : ¬ ((s.data.toList.getD i 0).toNat : Int) = 10 := by omega
      have he2 : i + skipL true (s.data.toList.drop i) = behind s at_ := by
        rw [← he]; unfold behind; rw [hd]; simp only [skipL]; rw [if_neg hbl, if_pos heq, if_neg hne]
      refine ACode.skip (ACode.block ?_)
      refine ACode.loopP (fun k : Nat => [(0, vs s), (1, vi k)]) (fun _ => []) (fun k => s.size - k)
        (fun k => i ≤ k ∧ k ≤ s.size ∧ (k = i ∨ i < k) ∧ k + skipL true (s.data.toList.drop k) = behind s at_) i ⟨Nat.le_refl _, hi, .inl rfl, he2⟩ (.cons rfl (.cons rfl .nil)) 0 rfl ?_
      rintro k ⟨hik, hk, hki, hke⟩
      refine ACode.seq (ACode.seq (ACode.region ?_))
      refine ASeq.q rfl rfl (QOp.move rfl rfl) ?_
      refine ASeq.q rfl rfl (QOp.move rfl rfl) ?_
      refine ASeq.q rfl rfl (QOp.lenS rfl rfl (tok _ rfl) rfl) ?_
      refine ASeq.q rfl rfl (QOp.cmp rfl rfl rfl rfl) ?_
      refine ASeq.q rfl rfl (QOp.move rfl rfl) ?_
      refine ASeq.split 42 (decide ((k : Int) < (s.size : Int))) rfl (fun hb => ?_) (fun hb => ?_)
      · have hlk : k < s.size := by simpa using hb
        have hdk := drop_getD hlk
        refine ASeq.gq _ _ rfl rfl rfl rfl (QOp.move rfl rfl) ?_
        refine ASeq.gq _ _ rfl rfl rfl rfl (QOp.move rfl rfl) ?_
        refine ASeq.gq _ _ rfl rfl rfl rfl (QOp.indexS rfl rfl rfl (tok _ rfl) rfl (by omega) (by rw [Int.toNat_natCast]; exact getD_get hlk)) ?_
        refine ASeq.gq _ _ rfl rfl rfl rfl (QOp.cmp rfl rfl rfl rfl) ?_
        refine ASeq.q rfl rfl (QOp.pickT rfl rfl rfl) ?_
        refine ASeq.nil ?_
        refine AExit.then_normal ?_
        refine ACode.cond _ rfl (fun hb => ?_) (fun hb => ?_)
        · have hnn : ¬ ((s.data.toList.getD k 0).toNat : Int) = 10 := by simpa using hb
          refine ACode.skip (ACode.block (ACode.region ?_))
          refine ASeq.q rfl rfl (QOp.move rfl rfl) ?_
          refine ASeq.q rfl rfl (QOp.ar64 rfl rfl rfl rfl ⟨by omega, by omega⟩) ?_
          refine ASeq.q rfl rfl (QOp.assign rfl rfl) ?_
          refine ASeq.nil ?_
          refine AExit.in_normal (AExit.then_normal ?_)
          refine ⟨k + 1, 0, ⟨by omega, hlk, .inr (by omega), ?_⟩, by omega, .cons rfl (.cons rfl .nil), rfl⟩
          rw [← hke, hdk]; simp only [skipL]; rw [if_neg hnn]; omega
        · have hnn : ((s.data.toList.getD k 0).toNat : Int) = 10 := by simpa using hb
          refine ACode.exit (AExit.then_exit (AExit.then_exit (AExit.in_same (AExit.in_normal (AExit.then_normal ?_)))))
          have hik : i < k := by
            rcases hki with rfl | h
            · omega
            · exact h
          refine ⟨k, 0, ⟨hk, ?_⟩, by omega, .cons rfl (.cons rfl .nil), rfl⟩
          rw [← hke]; unfold behind
          rw [hdk]; simp only [skipL]; rw [if_pos hnn, if_pos (by rw [hnn]; rfl)]
      · have hge : k = s.size := by
          have : ¬ k < s.size := by simpa using hb
          omega
        refine ASeq.gno _ _ rfl rfl rfl rfl rfl ?_
        refine ASeq.gno _ _ rfl rfl rfl rfl rfl ?_
        refine ASeq.gno _ _ rfl rfl rfl rfl rfl ?_
        refine ASeq.gno _ _ rfl rfl rfl rfl rfl ?_
        refine ASeq.q rfl rfl (QOp.pickF rfl rfl rfl) ?_
        refine ASeq.nil ?_
        refine AExit.then_normal ?_
        refine ACode.cond _ rfl (fun hb => by cases hb) (fun hb => ?_)
        refine ACode.exit (AExit.then_exit (AExit.then_exit (AExit.in_same (AExit.in_normal (AExit.then_normal ?_)))))
        refine ⟨k, 0, ⟨hk, ?_⟩, by omega, .cons rfl (.cons rfl .nil), rfl⟩
        have hnil : s.data.toList.drop k = [] := List.drop_eq_nil_of_le (by simp; omega)
        rw [← hke]; unfold behind; rw [hnil]; rfl
  · have hge : i = s.size := by
      have : ¬ i < s.size := by simpa using hb
      omega
    refine ACode.exit (ACode.seq (ACode.region ?_))
    refine ASeq.q rfl rfl (QOp.move rfl rfl) ?_
    refine ASeq.q rfl rfl (QOp.assign rfl rfl) ?_
    refine ASeq.nil ?_
    refine ACode.ret ?_
    refine bodyQ_ret 0 (.tmp rfl .nil) rfl ?_
    have hnil : s.data.toList.drop i = [] := List.drop_eq_nil_of_le (by simp; omega)
    rw [← he, show behind s i = i by unfold behind; rw [hnil]; rfl]
    exact .mk
end Go.Proofs.Ytaadamobapnfbaa
set_option linter.unusedVariables false
set_option linter.unusedSimpArgs false
set_option maxRecDepth 100000
namespace Go.Proofs.Ytaadamobapnfbaa
open Go Go.Abs
set_option maxHeartbeats 4000000 in
theorem next_ok (s : ByteArray) (at_ : Nat) (h : at_ ≤ s.size) (hs : s.size ≤ 1000000) : ACalls Try.prog 53 [vs s, vi at_] [] (RV (.tup [.agg (nextTok s at_).1.cells, vi (nextTok s at_).2]) []) := by
  obtain ⟨hb1, hb2⟩ := behind_le h
  have hn : nextTok s at_ = nextAt s (behind s at_) := rfl
  refine ACalls.of_code (c := _) Try.func53 rfl Try.ntmps53 (Nat.le_of_ble_eq_true rfl) ?_
  refine ACode.seq (ACode.region ?_)
  refine ASeq.op rfl rfl (AOp.allocP rfl (tok _ rfl) rfl rfl (fun _ => rfl) (fun _ => ?_))
  refine ASeq.q rfl rfl (QOp.assign rfl rfl) ?_
  refine ASeq.nil ?_
  rename_i m4
  refine ACode.seq (ACode.region ?_)
  refine ASeq.q rfl rfl (QOp.move rfl rfl) ?_
  refine ASeq.q rfl rfl (QOp.move rfl rfl) ?_
  refine ASeq.op rfl rfl (AOp.callP 0 rfl (by kernel_rfl) rfl rfl rfl (skip_ok s at_ h hs) ?_ (by rintro _ _ ⟨⟩))
  rintro _ _ ⟨⟩
  refine ASeq.q rfl rfl (QOp.assign rfl rfl) ?_
  refine ASeq.nil ?_
  refine ACode.seq (ACode.seq (ACode.region ?_))
  generalize behind s at_ = i at hb1 hb2 hn
  refine ASeq.q rfl rfl (QOp.move rfl rfl) ?_
  refine ASeq.q rfl rfl (QOp.move rfl rfl) ?_
  refine ASeq.q rfl rfl (QOp.lenS rfl rfl (tok _ rfl) rfl) ?_
  refine ASeq.q rfl rfl (QOp.cmp rfl rfl rfl rfl) ?_
  refine ASeq.nil ?_
  refine AExit.then_normal ?_
  refine ACode.cond _ rfl (fun hb => ?_) (fun hb => ?_)
  · have hz : i = s.size := by have := eq_of_beq hb; omega
    refine ACode.seq (ACode.region ?_)
    refine ASeq.q rfl rfl (QOp.move rfl rfl) ?_
    refine ASeq.q rfl rfl (QOp.move rfl rfl) ?_
    refine ASeq.q rfl rfl (QOp.build rfl (tok _ rfl) rfl rfl rfl rfl rfl) ?_
    refine ASeq.q rfl rfl (QOp.build rfl (tok _ rfl) rfl rfl rfl rfl rfl) ?_
    refine ASeq.op0 rfl rfl (AOp.storeP 0 rfl rfl rfl rfl (tok _ rfl) rfl rfl rfl rfl ?_)
    refine ASeq.q rfl rfl (QOp.assign rfl rfl) ?_
    refine ASeq.nil ?_
    refine ACode.ret (AExit.then_ret ?_)
    refine bodyQ_ret 0 (.cell 0 rfl rfl (tok _ rfl) rfl (.tmp rfl .nil)) rfl ?_
    rw [show nextTok s at_ = (⟨0, i, i⟩, 0) by rw [hn]; unfold nextAt; rw [if_pos hz]]
    exact .mk
  have hz : ¬ i = s.size := by have := ne_of_beq_false hb; omega
  have hlt : i < s.size := by omega
  refine ACode.skip (ACode.seq (ACode.region ?_))
  refine ASeq.q rfl rfl (QOp.move rfl rfl) ?_
  refine ASeq.q rfl rfl (QOp.assign rfl rfl) ?_
  refine ASeq.nil ?_
  refine ACode.seq (ACode.seq (ACode.region ?_))
  refine ASeq.q rfl rfl (QOp.move rfl rfl) ?_
  refine ASeq.q rfl rfl (QOp.move rfl rfl) ?_
  refine ASeq.q rfl rfl (QOp.indexS rfl rfl rfl (tok _ rfl) rfl (by omega) (by rw [Int.toNat_natCast]; exact getD_get hlt)) ?_
  refine ASeq.op rfl rfl (AOp.callP 0 rfl (by kernel_rfl) rfl rfl rfl (letter_ok (byteAt s i)) ?_ (by rintro _ _ ⟨⟩))
  rintro _ _ ⟨⟩
  refine ASeq.nil ?_
  refine AExit.then_normal ?_
  refine ACode.cond _ rfl (fun hl => ?_) (fun hl => ?_)
  · have hend := runL_end letOrDig s hb2
    refine ACode.seq (ACode.block ?_)
    refine ACode.loopP (fun k : Nat => [(0, vs s), (1, vi i), (4, .mp m4 0), (6, vi k)]) (fun _ => [.mu _ _]) (fun k => s.size - k)
      (fun k => i ≤ k ∧ k ≤ s.size ∧ k + runL letOrDig (s.data.toList.drop k) = i + runL letOrDig (s.data.toList.drop i)) i ⟨Nat.le_refl _, hb2, rfl⟩ (.cons rfl (.cons rfl (.cons rfl (.cons rfl .nil)))) 1 rfl ?_
    rintro k ⟨hik, hk, hke⟩
    refine ACode.seq (ACode.seq (ACode.region ?_))
    refine ASeq.cut 16 [(0, vs s), (1, vi i), (4, .mp m4 0), (6, vi k), (40, .v (.bool (decide ((k : Int) < (s.size : Int)) && letOrDig (byteAt s k))))] (fun rest => ?_) ?_
    · refine ASeq.q rfl rfl (QOp.move rfl rfl) ?_
      refine ASeq.q rfl rfl (QOp.move rfl rfl) ?_
      refine ASeq.q rfl rfl (QOp.lenS rfl rfl (tok _ rfl) rfl) ?_
      refine ASeq.q rfl rfl (QOp.cmp rfl rfl rfl rfl) ?_
      refine ASeq.q rfl rfl (QOp.move rfl rfl) ?_
      refine ASeq.split 29 (decide ((k : Int) < (s.size : Int))) rfl (fun hb => ?_) (fun hb => ?_)
      · have hlk : k < s.size := by simpa using hb
        refine ASeq.gq _ _ rfl rfl rfl rfl (QOp.move rfl rfl) ?_
        refine ASeq.gq _ _ rfl rfl rfl rfl (QOp.move rfl rfl) ?_
        refine ASeq.gq _ _ rfl rfl rfl rfl (QOp.indexS rfl rfl rfl (tok _ rfl) rfl (by omega) (by rw [Int.toNat_natCast]; exact getD_get hlk)) ?_
        refine ASeq.gop _ _ rfl rfl rfl rfl (AOp.callP 0 rfl (by kernel_rfl) rfl rfl rfl (letter_ok (byteAt s k)) ?_ (by rintro _ _ ⟨⟩))
        rintro _ _ ⟨⟩
        refine ASeq.gq _ _ rfl rfl rfl rfl (QOp.move rfl rfl) ?_
        refine ASeq.split 34 (isLetter (byteAt s k)) rfl (fun hc => ?_) (fun hc => ?_)
        · refine ASeq.gno _ _ rfl rfl rfl rfl rfl ?_
          refine ASeq.gno _ _ rfl rfl rfl rfl rfl ?_
          refine ASeq.gno _ _ rfl rfl rfl rfl rfl ?_
          refine ASeq.gno _ _ rfl rfl rfl rfl rfl ?_
          refine ASeq.gq _ _ rfl rfl rfl rfl (QOp.pickT rfl rfl rfl) ?_
          refine ASeq.q rfl rfl (QOp.pickT rfl rfl rfl) ?_
          exact rest.at_ (.cons rfl (.cons rfl (.cons rfl (.cons rfl (.consB (b := true) rfl (by rw [hb]; unfold letOrDig; rw [hc]; rfl) .nil)))))
        · refine ASeq.gq _ _ rfl rfl rfl rfl (QOp.move rfl rfl) ?_
          refine ASeq.gq _ _ rfl rfl rfl rfl (QOp.move rfl rfl) ?_
          refine ASeq.gq _ _ rfl rfl rfl rfl (QOp.indexS rfl rfl rfl (tok _ rfl) rfl (by omega) (by rw [Int.toNat_natCast]; exact getD_get hlk)) ?_
          refine ASeq.gop _ _ rfl rfl rfl rfl (AOp.callP 0 rfl (by kernel_rfl) rfl rfl rfl (digit_ok (byteAt s k)) ?_ (by rintro _ _ ⟨⟩))
          rintro _ _ ⟨⟩
          refine ASeq.gq _ _ rfl rfl rfl rfl (QOp.pickF rfl rfl rfl) ?_
          refine ASeq.q rfl rfl (QOp.pickT rfl rfl rfl) ?_
          exact rest.at_ (.cons rfl (.cons rfl (.cons rfl (.cons rfl (.consB (b := isDigit (byteAt s k)) rfl (by rw [hb]; unfold letOrDig; rw [hc]; rfl) .nil)))))
      · refine ASeq.gno _ _ rfl rfl rfl rfl rfl ?_
        refine ASeq.gno _ _ rfl rfl rfl rfl rfl ?_
        refine ASeq.gno _ _ rfl rfl rfl rfl rfl ?_
        refine ASeq.gno _ _ rfl rfl rfl rfl rfl ?_
        refine ASeq.gno _ _ rfl rfl rfl rfl rfl ?_
        refine ASeq.gno _ _ rfl rfl rfl rfl rfl ?_
        refine ASeq.gno _ _ rfl rfl rfl rfl rfl ?_
        refine ASeq.gno _ _ rfl rfl rfl rfl rfl ?_
        refine ASeq.gno _ _ rfl rfl rfl rfl rfl ?_
        refine ASeq.gno _ _ rfl rfl rfl rfl rfl ?_
        refine ASeq.q rfl rfl (QOp.pickF rfl rfl rfl) ?_
        exact rest.at_ (.cons rfl (.cons rfl (.cons rfl (.cons rfl (.consB (b := false) rfl (by rw [hb]; rfl) .nil)))))
    refine ASeq.nil ?_
    refine AExit.then_normal ?_
    refine ACode.cond _ rfl (fun hb => ?_) (fun hb => ?_)
    · simp only [Bool.and_eq_true, decide_eq_true_eq] at hb
      have hlk : k < s.size := by omega
      refine ACode.skip (ACode.block (ACode.region ?_))
      refine ASeq.q rfl rfl (QOp.move rfl rfl) ?_
      refine ASeq.q rfl rfl (QOp.ar64 rfl rfl rfl rfl ⟨by omega, by omega⟩) ?_
      refine ASeq.q rfl rfl (QOp.assign rfl rfl) ?_
      refine ASeq.nil ?_
      refine AExit.in_normal (AExit.then_normal ?_)
      refine ⟨k + 1, 1, ⟨by omega, hlk, ?_⟩, by omega, .cons rfl (.cons rfl (.cons rfl (.cons rfl .nil))), rfl⟩
      rw [← hke, drop_getD hlk]; simp only [runL]; rw [if_pos (show letOrDig ((s.data.toList.getD k 0).toNat : Int) = true from hb.2)]; omega
    · have hke2 : k = i + runL letOrDig (s.data.toList.drop i) := by
        rw [← hke]
        by_cases hlk : k < s.size
        · have : ¬ letOrDig (byteAt s k) = true := fun h' => by rw [h'] at hb; simp at hb; omega
          rw [drop_getD hlk]; simp only [runL]; rw [if_neg (show ¬ letOrDig ((s.data.toList.getD k 0).toNat : Int) = true from this)]; rfl
        · rw [List.drop_eq_nil_of_le (by simp; omega)]; rfl
      have hex : k ≤ s.size := hk
      refine ACode.exit (ACode.seq (ACode.seq ?_))
      refine ACode.drawn [[], [], [], [], [1, 2, 3], [0, 1, 2, 3, 4]] (by kernel_rfl) mixed ?_
      refine DAny.qu 1 rfl rfl (by kernel_rfl) rfl (fun _ => .does _ _ rfl (.none rfl) (QOp.move rfl rfl)) ?_
      refine DAny.qu 2 rfl rfl (by kernel_rfl) rfl (fun _ => .does _ _ rfl (.none rfl) (QOp.move rfl rfl)) ?_
      refine DAny.qu 3 rfl rfl (by kernel_rfl) rfl (fun _ => .does _ _ rfl (.none rfl) (QOp.move rfl rfl)) ?_
      refine DAny.qu 4 rfl rfl (by kernel_rfl) rfl (fun _ => .does _ _ rfl (.none rfl) (QOp.cutS rfl rfl (tok _ rfl) rfl rfl rfl (by omega) (by omega) (by omega))) ?_
      refine DAny.ef 0 rfl (by kernel_rfl) (.none rfl) rfl rfl (AOp.callP 0 rfl (by kernel_rfl) rfl rfl rfl (words_ok) ?_ (by rintro _ _ ⟨⟩))
      rintro _ _ ⟨⟩
      refine ⟨(by ((exact AllQ.nil))), ?_⟩
      refine DAny.ef 5 rfl (by kernel_rfl) (.none rfl) rfl rfl (AOp.callP 0 rfl (by kernel_rfl) rfl rfl rfl (has_ok wordL (s.extract i k) (by decide)) ?_ (by rintro _ _ ⟨⟩))
      rintro _ _ ⟨⟩
      refine ⟨(by ((exact AllQ.nil))), ?_⟩
      refine DAny.done (by kernel_rfl) ?_
      refine AExit.then_normal ?_
      refine ACode.cond _ rfl (fun hw => ?_) (fun hw => ?_)
      · refine ACode.seq (ACode.region ?_)
        refine ASeq.q rfl rfl (QOp.move rfl rfl) ?_
        refine ASeq.q rfl rfl (QOp.move rfl rfl) ?_
        refine ASeq.q rfl rfl (QOp.build rfl (tok _ rfl) rfl rfl rfl rfl rfl) ?_
        refine ASeq.q rfl rfl (QOp.build rfl (tok _ rfl) rfl rfl rfl rfl rfl) ?_
        refine ASeq.op0 rfl rfl (AOp.storeP 0 rfl rfl rfl rfl (tok _ rfl) rfl rfl rfl rfl ?_)
        refine ASeq.q rfl rfl (QOp.assign rfl rfl) ?_
        refine ASeq.nil ?_
        refine ACode.ret (AExit.then_ret (AExit.then_ret ?_))
        refine bodyQ_ret 0 (.cell 0 rfl rfl (tok _ rfl) rfl (.tmp rfl .nil)) rfl ?_
        rw [show nextTok s at_ = (⟨3, i, (k : Nat)⟩, 0) by rw [hn]; unfold nextAt; rw [if_neg hz, if_pos hl, ← hke2, if_pos hw]]
        exact .mk
      · refine ACode.skip (ACode.seq (ACode.region ?_))
        refine ASeq.q rfl rfl (QOp.move rfl rfl) ?_
        refine ASeq.q rfl rfl (QOp.move rfl rfl) ?_
        refine ASeq.q rfl rfl (QOp.build rfl (tok _ rfl) rfl rfl rfl rfl rfl) ?_
        refine ASeq.q rfl rfl (QOp.build rfl (tok _ rfl) rfl rfl rfl rfl rfl) ?_
        refine ASeq.op0 rfl rfl (AOp.storeP 0 rfl rfl rfl rfl (tok _ rfl) rfl rfl rfl rfl ?_)
        refine ASeq.q rfl rfl (QOp.assign rfl rfl) ?_
        refine ASeq.nil ?_
        refine ACode.ret (AExit.then_ret ?_)
        refine bodyQ_ret 0 (.cell 0 rfl rfl (tok _ rfl) rfl (.tmp rfl .nil)) rfl ?_
        rw [show nextTok s at_ = (⟨1, i, (k : Nat)⟩, 0) by rw [hn]; unfold nextAt; rw [if_neg hz, if_pos hl, ← hke2, if_neg (by rw [hw]; decide)]]
        exact .mk
  have hl : ¬ isLetter (byteAt s i) = true := by rw [hl]; decide
  refine ACode.skip (ACode.seq (ACode.seq (ACode.region ?_)))
  refine ASeq.q rfl rfl (QOp.move rfl rfl) ?_
  refine ASeq.q rfl rfl (QOp.move rfl rfl) ?_
  refine ASeq.q rfl rfl (QOp.indexS rfl rfl rfl (tok _ rfl) rfl (by omega) (by rw [Int.toNat_natCast]; exact getD_get hlt)) ?_
  refine ASeq.op rfl rfl (AOp.callP 0 rfl (by kernel_rfl) rfl rfl rfl (digit_ok (byteAt s i)) ?_ (by rintro _ _ ⟨⟩))
  rintro _ _ ⟨⟩
  refine ASeq.nil ?_
  refine AExit.then_normal ?_
  refine ACode.cond _ rfl (fun hd => ?_) (fun hd => ?_)
  · have hend := runL_end isDigit s hb2
    refine ACode.seq (ACode.block ?_)
    refine ACode.loopP (fun k : Nat => [(0, vs s), (1, vi i), (4, .mp m4 0), (6, vi k)]) (fun _ => [.mu _ _]) (fun k => s.size - k)
      (fun k => i ≤ k ∧ k ≤ s.size ∧ k + runL isDigit (s.data.toList.drop k) = i + runL isDigit (s.data.toList.drop i)) i ⟨Nat.le_refl _, hb2, rfl⟩ (.cons rfl (.cons rfl (.cons rfl (.cons rfl .nil)))) 1 rfl ?_
    rintro k ⟨hik, hk, hke⟩
    refine ACode.seq (ACode.seq (ACode.region ?_))
    refine ASeq.cut 10 [(0, vs s), (1, vi i), (4, .mp m4 0), (6, vi k), (70, .v (.bool (decide ((k : Int) < (s.size : Int)) && isDigit (byteAt s k))))] (fun rest => ?_) ?_
    · refine ASeq.q rfl rfl (QOp.move rfl rfl) ?_
      refine ASeq.q rfl rfl (QOp.move rfl rfl) ?_
      refine ASeq.q rfl rfl (QOp.lenS rfl rfl (tok _ rfl) rfl) ?_
      refine ASeq.q rfl rfl (QOp.cmp rfl rfl rfl rfl) ?_
      refine ASeq.q rfl rfl (QOp.move rfl rfl) ?_
      refine ASeq.split 65 (decide ((k : Int) < (s.size : Int))) rfl (fun hb => ?_) (fun hb => ?_)
      · have hlk : k < s.size := by simpa using hb
        refine ASeq.gq _ _ rfl rfl rfl rfl (QOp.move rfl rfl) ?_
        refine ASeq.gq _ _ rfl rfl rfl rfl (QOp.move rfl rfl) ?_
        refine ASeq.gq _ _ rfl rfl rfl rfl (QOp.indexS rfl rfl rfl (tok _ rfl) rfl (by omega) (by rw [Int.toNat_natCast]; exact getD_get hlk)) ?_
        refine ASeq.gop _ _ rfl rfl rfl rfl (AOp.callP 0 rfl (by kernel_rfl) rfl rfl rfl (digit_ok (byteAt s k)) ?_ (by rintro _ _ ⟨⟩))
        rintro _ _ ⟨⟩
        refine ASeq.q rfl rfl (QOp.pickT rfl rfl rfl) ?_
        exact rest.at_ (.cons rfl (.cons rfl (.cons rfl (.cons rfl (.consB (b := isDigit (byteAt s k)) rfl (by rw [hb]; rfl) .nil)))))
      · refine ASeq.gno _ _ rfl rfl rfl rfl rfl ?_
        refine ASeq.gno _ _ rfl rfl rfl rfl rfl ?_
        refine ASeq.gno _ _ rfl rfl rfl rfl rfl ?_
        refine ASeq.gno _ _ rfl rfl rfl rfl rfl ?_
        refine ASeq.q rfl rfl (QOp.pickF rfl rfl rfl) ?_
        exact rest.at_ (.cons rfl (.cons rfl (.cons rfl (.cons rfl (.consB (b := false) rfl (by rw [hb]; rfl) .nil)))))
    refine ASeq.nil ?_
    refine AExit.then_normal ?_
    refine ACode.cond _ rfl (fun hb => ?_) (fun hb => ?_)
    · simp only [Bool.and_eq_true, decide_eq_true_eq] at hb
      have hlk : k < s.size := by omega
      refine ACode.skip (ACode.block (ACode.region ?_))
      refine ASeq.q rfl rfl (QOp.move rfl rfl) ?_
      refine ASeq.q rfl rfl (QOp.ar64 rfl rfl rfl rfl ⟨by omega, by omega⟩) ?_
      refine ASeq.q rfl rfl (QOp.assign rfl rfl) ?_
      refine ASeq.nil ?_
      refine AExit.in_normal (AExit.then_normal ?_)
      refine ⟨k + 1, 1, ⟨by omega, hlk, ?_⟩, by omega, .cons rfl (.cons rfl (.cons rfl (.cons rfl .nil))), rfl⟩
      rw [← hke, drop_getD hlk]; simp only [runL]; rw [if_pos (show isDigit ((s.data.toList.getD k 0).toNat : Int) = true from hb.2)]; omega
    · have hke2 : runL isDigit (s.data.toList.drop i) = k - i := by
        have : k = i + runL isDigit (s.data.toList.drop i) := by
          rw [← hke]
          by_cases hlk : k < s.size
          · have : ¬ isDigit (byteAt s k) = true := fun h' => by rw [h'] at hb; simp at hb; omega
            rw [drop_getD hlk]; simp only [runL]; rw [if_neg (show ¬ isDigit ((s.data.toList.getD k 0).toNat : Int) = true from this)]; rfl
          · rw [List.drop_eq_nil_of_le (by simp; omega)]; rfl
        omega
      have hki : i + (k - i) = k := by omega
      refine ACode.exit (ACode.seq (ACode.seq (ACode.region ?_)))
      refine ASeq.cut 16 [(0, vs s), (1, vi i), (4, .mp m4 0), (6, vi k), (88, .v (.bool (decide ((k : Int) - (i : Int) > 18) || decide ((k : Int) - (i : Int) > 1) && byteAt s i == 48)))] (fun rest => ?_) ?_
      · refine ASeq.q rfl rfl (QOp.move rfl rfl) ?_
        refine ASeq.q rfl rfl (QOp.move rfl rfl) ?_
        refine ASeq.q rfl rfl (QOp.ar64 rfl rfl rfl rfl ⟨by omega, by omega⟩) ?_
        refine ASeq.q rfl rfl (QOp.cmp rfl rfl rfl rfl) ?_
        refine ASeq.q rfl rfl (QOp.move rfl rfl) ?_
        refine ASeq.split 77 (decide ((k : Int) - (i : Int) > 18)) rfl (fun hb => ?_) (fun hb => ?_)
        · refine ASeq.gno _ _ rfl rfl rfl rfl rfl ?_
          refine ASeq.gno _ _ rfl rfl rfl rfl rfl ?_
          refine ASeq.gno _ _ rfl rfl rfl rfl rfl ?_
          refine ASeq.gno _ _ rfl rfl rfl rfl rfl ?_
          refine ASeq.gno _ _ rfl rfl rfl rfl rfl ?_
          refine ASeq.gno _ _ rfl rfl rfl rfl rfl ?_
          refine ASeq.gno _ _ rfl rfl rfl rfl rfl ?_
          refine ASeq.gno _ _ rfl rfl rfl rfl rfl ?_
          refine ASeq.gno _ _ rfl rfl rfl rfl rfl ?_
          refine ASeq.gno _ _ rfl rfl rfl rfl rfl ?_
          refine ASeq.q rfl rfl (QOp.pickT rfl rfl rfl) ?_
          exact rest.at_ (.cons rfl (.cons rfl (.cons rfl (.cons rfl (.consB (b := true) rfl (by rw [hb]; rfl) .nil)))))
        · refine ASeq.gq _ _ rfl rfl rfl rfl (QOp.move rfl rfl) ?_
          refine ASeq.gq _ _ rfl rfl rfl rfl (QOp.move rfl rfl) ?_
          refine ASeq.gq _ _ rfl rfl rfl rfl (QOp.ar64 rfl rfl rfl rfl ⟨by omega, by omega⟩) ?_
          refine ASeq.gq _ _ rfl rfl rfl rfl (QOp.cmp rfl rfl rfl rfl) ?_
          refine ASeq.gq _ _ rfl rfl rfl rfl (QOp.move rfl rfl) ?_
          refine ASeq.split 82 (decide ((k : Int) - (i : Int) > 1)) rfl (fun hc => ?_) (fun hc => ?_)
          · refine ASeq.gq _ _ rfl rfl rfl rfl (QOp.move rfl rfl) ?_
            refine ASeq.gq _ _ rfl rfl rfl rfl (QOp.move rfl rfl) ?_
            refine ASeq.gq _ _ rfl rfl rfl rfl (QOp.indexS rfl rfl rfl (tok _ rfl) rfl (by omega) (by rw [Int.toNat_natCast]; exact getD_get hlt)) ?_
            refine ASeq.gq _ _ rfl rfl rfl rfl (QOp.cmp rfl rfl rfl rfl) ?_
            refine ASeq.gq _ _ rfl rfl rfl rfl (QOp.pickT rfl rfl rfl) ?_
            refine ASeq.q rfl rfl (QOp.pickF rfl rfl rfl) ?_
            exact rest.at_ (.cons rfl (.cons rfl (.cons rfl (.cons rfl (.consB (b := byteAt s i == 48) rfl (by rw [hb, hc]; rfl) .nil)))))
          · refine ASeq.gno _ _ rfl rfl rfl rfl rfl ?_
            refine ASeq.gno _ _ rfl rfl rfl rfl rfl ?_
            refine ASeq.gno _ _ rfl rfl rfl rfl rfl ?_
            refine ASeq.gno _ _ rfl rfl rfl rfl rfl ?_
            refine ASeq.gq _ _ rfl rfl rfl rfl (QOp.pickF rfl rfl rfl) ?_
            refine ASeq.q rfl rfl (QOp.pickF rfl rfl rfl) ?_
            exact rest.at_ (.cons rfl (.cons rfl (.cons rfl (.cons rfl (.consB (b := false) rfl (by rw [hb, hc]; rfl) .nil)))))
      refine ASeq.cut 12 [(0, vs s), (1, vi i), (4, .mp m4 0), (6, vi k), (100, .v (.bool ((decide ((k : Int) - (i : Int) > 18) || decide ((k : Int) - (i : Int) > 1) && byteAt s i == 48) || (decide ((k : Int) < (s.size : Int)) && isLetter (byteAt s k)))))] (fun rest => ?_) ?_
      · refine ASeq.q rfl rfl (QOp.move rfl rfl) ?_
        refine ASeq.split 89 (decide ((k : Int) - (i : Int) > 18) || decide ((k : Int) - (i : Int) > 1) && byteAt s i == 48) rfl (fun hb => ?_) (fun hb => ?_)
        · refine ASeq.gno _ _ rfl rfl rfl rfl rfl ?_
          refine ASeq.gno _ _ rfl rfl rfl rfl rfl ?_
          refine ASeq.gno _ _ rfl rfl rfl rfl rfl ?_
          refine ASeq.gno _ _ rfl rfl rfl rfl rfl ?_
          refine ASeq.gno _ _ rfl rfl rfl rfl rfl ?_
          refine ASeq.gno _ _ rfl rfl rfl rfl rfl ?_
          refine ASeq.gno _ _ rfl rfl rfl rfl rfl ?_
          refine ASeq.gno _ _ rfl rfl rfl rfl rfl ?_
          refine ASeq.gno _ _ rfl rfl rfl rfl rfl ?_
          refine ASeq.gno _ _ rfl rfl rfl rfl rfl ?_
          refine ASeq.q rfl rfl (QOp.pickT rfl rfl rfl) ?_
          exact rest.at_ (.cons rfl (.cons rfl (.cons rfl (.cons rfl (.consB (b := true) rfl (by rw [hb]; rfl) .nil)))))
        · refine ASeq.gq _ _ rfl rfl rfl rfl (QOp.move rfl rfl) ?_
          refine ASeq.gq _ _ rfl rfl rfl rfl (QOp.move rfl rfl) ?_
          refine ASeq.gq _ _ rfl rfl rfl rfl (QOp.lenS rfl rfl (tok _ rfl) rfl) ?_
          refine ASeq.gq _ _ rfl rfl rfl rfl (QOp.cmp rfl rfl rfl rfl) ?_
          refine ASeq.gq _ _ rfl rfl rfl rfl (QOp.move rfl rfl) ?_
          refine ASeq.split 94 (decide ((k : Int) < (s.size : Int))) rfl (fun hc => ?_) (fun hc => ?_)
          · have hlk : k < s.size := by simpa using hc
            refine ASeq.gq _ _ rfl rfl rfl rfl (QOp.move rfl rfl) ?_
            refine ASeq.gq _ _ rfl rfl rfl rfl (QOp.move rfl rfl) ?_
            refine ASeq.gq _ _ rfl rfl rfl rfl (QOp.indexS rfl rfl rfl (tok _ rfl) rfl (by omega) (by rw [Int.toNat_natCast]; exact getD_get hlk)) ?_
            refine ASeq.gop _ _ rfl rfl rfl rfl (AOp.callP 0 rfl (by kernel_rfl) rfl rfl rfl (letter_ok (byteAt s k)) ?_ (by rintro _ _ ⟨⟩))
            rintro _ _ ⟨⟩
            refine ASeq.gq _ _ rfl rfl rfl rfl (QOp.pickT rfl rfl rfl) ?_
            refine ASeq.q rfl rfl (QOp.pickF rfl rfl rfl) ?_
            exact rest.at_ (.cons rfl (.cons rfl (.cons rfl (.cons rfl (.consB (b := isLetter (byteAt s k)) rfl (by rw [hb, hc]; rfl) .nil)))))
          · refine ASeq.gno _ _ rfl rfl rfl rfl rfl ?_
            refine ASeq.gno _ _ rfl rfl rfl rfl rfl ?_
            refine ASeq.gno _ _ rfl rfl rfl rfl rfl ?_
            refine ASeq.gno _ _ rfl rfl rfl rfl rfl ?_
            refine ASeq.gq _ _ rfl rfl rfl rfl (QOp.pickF rfl rfl rfl) ?_
            refine ASeq.q rfl rfl (QOp.pickF rfl rfl rfl) ?_
            exact rest.at_ (.cons rfl (.cons rfl (.cons rfl (.cons rfl (.consB (b := false) rfl (by rw [hb, hc]; rfl) .nil)))))
      refine ASeq.nil ?_
      refine AExit.then_normal ?_
      have key : ((decide ((k : Int) - (i : Int) > 18) || decide ((k : Int) - (i : Int) > 1) && byteAt s i == 48) || (decide ((k : Int) < (s.size : Int)) && isLetter (byteAt s k))) = true ↔
          (18 < k - i ∨ (1 < k - i ∧ byteAt s i = 48) ∨ (k < s.size ∧ isLetter (byteAt s k) = true)) := by
        simp only [Bool.or_eq_true, Bool.and_eq_true, decide_eq_true_eq, beq_iff_eq]
        have e1 : (k : Int) - (i : Int) > 18 ↔ 18 < k - i := by omega
        have e2 : (k : Int) - (i : Int) > 1 ↔ 1 < k - i := by omega
        have e3 : (k : Int) < (s.size : Int) ↔ k < s.size := by omega
        rw [e1, e2, e3, or_assoc]
      refine ACode.cond _ rfl (fun hb => ?_) (fun hb => ?_)
      · have hx := key.1 hb
        refine ACode.seq (ACode.region ?_)
        refine ASeq.q rfl rfl (QOp.move rfl rfl) ?_
        refine ASeq.q rfl rfl (QOp.move rfl rfl) ?_
        refine ASeq.q rfl rfl (QOp.build rfl (tok _ rfl) rfl rfl rfl rfl rfl) ?_
        refine ASeq.q rfl rfl (QOp.build rfl (tok _ rfl) rfl rfl rfl rfl rfl) ?_
        refine ASeq.op0 rfl rfl (AOp.storeP 0 rfl rfl rfl rfl (tok _ rfl) rfl rfl rfl rfl ?_)
        refine ASeq.q rfl rfl (QOp.assign rfl rfl) ?_
        refine ASeq.nil ?_
        refine ACode.ret (AExit.then_ret (AExit.then_ret ?_))
        refine bodyQ_ret 0 (.cell 0 rfl rfl (tok _ rfl) rfl (.tmp rfl .nil)) rfl ?_
        rw [show nextTok s at_ = (⟨0, i, i⟩, 2) by rw [hn]; unfold nextAt; rw [if_neg hz, if_neg hl, if_pos hd, hke2, hki, if_pos hx]]
        exact .mk
      · have hx := mt key.2 (by rw [hb]; decide)
        refine ACode.skip (ACode.seq (ACode.region ?_))
        refine ASeq.q rfl rfl (QOp.move rfl rfl) ?_
        refine ASeq.q rfl rfl (QOp.move rfl rfl) ?_
        refine ASeq.q rfl rfl (QOp.build rfl (tok _ rfl) rfl rfl rfl rfl rfl) ?_
        refine ASeq.q rfl rfl (QOp.build rfl (tok _ rfl) rfl rfl rfl rfl rfl) ?_
        refine ASeq.op0 rfl rfl (AOp.storeP 0 rfl rfl rfl rfl (tok _ rfl) rfl rfl rfl rfl ?_)
        refine ASeq.q rfl rfl (QOp.assign rfl rfl) ?_
        refine ASeq.nil ?_
        refine ACode.ret (AExit.then_ret ?_)
        refine bodyQ_ret 0 (.cell 0 rfl rfl (tok _ rfl) rfl (.tmp rfl .nil)) rfl ?_
        rw [show nextTok s at_ = (⟨2, i, (k : Nat)⟩, 0) by rw [hn]; unfold nextAt; rw [if_neg hz, if_neg hl, if_pos hd, hke2, hki, if_neg hx]]
        exact .mk
  have hd : ¬ isDigit (byteAt s i) = true := by rw [hd]; decide
  refine ACode.skip (ACode.seq (ACode.region ?_))
  refine ASeq.op rfl rfl (AOp.buildSliceR rfl (tok _ rfl) rfl (tok _ rfl) (by decide) rfl (by decide) rfl rfl rfl rfl ?_)
  refine ASeq.q rfl rfl (QOp.assign rfl rfl) ?_
  refine ASeq.nil ?_
  refine ACode.seq (ACode.region ?_)
  refine ASeq.op rfl rfl (AOp.buildSliceR rfl (tok _ rfl) rfl (tok _ rfl) (by decide) rfl (by decide) rfl rfl rfl rfl ?_)
  refine ASeq.q rfl rfl (QOp.assign rfl rfl) ?_
  refine ASeq.nil ?_
  refine ACode.seq (ACode.seq (ACode.region ?_))
  refine ASeq.cut 14 [(0, vs s), (1, vi i), (4, .mp m4 0), (6, vi i), (8, .il 1 none (strs oneL)), (124, .v (.bool (decide ((i : Int) + 2 ≤ (s.size : Int)) && hasS twoL (s.extract i (i + 2)))))] (fun rest => ?_) ?_
  · refine ASeq.q rfl rfl (QOp.move rfl rfl) ?_
    refine ASeq.q rfl rfl (QOp.ar64 rfl rfl rfl rfl ⟨by omega, by omega⟩) ?_
    refine ASeq.q rfl rfl (QOp.move rfl rfl) ?_
    refine ASeq.q rfl rfl (QOp.lenS rfl rfl (tok _ rfl) rfl) ?_
    refine ASeq.q rfl rfl (QOp.cmp rfl rfl rfl rfl) ?_
    refine ASeq.q rfl rfl (QOp.move rfl rfl) ?_
    refine ASeq.split 116 (decide ((i : Int) + 2 ≤ (s.size : Int))) rfl (fun hb => ?_) (fun hb => ?_)
    · have hb' : (i : Int) + 2 ≤ s.size := by simpa using hb
      refine ASeq.gq _ _ rfl rfl rfl rfl (QOp.move rfl rfl) ?_
      refine ASeq.gq _ _ rfl rfl rfl rfl (QOp.move rfl rfl) ?_
      refine ASeq.gq _ _ rfl rfl rfl rfl (QOp.move rfl rfl) ?_
      refine ASeq.gq _ _ rfl rfl rfl rfl (QOp.move rfl rfl) ?_
      refine ASeq.gq _ _ rfl rfl rfl rfl (QOp.ar64 rfl rfl rfl rfl ⟨by omega, by omega⟩) ?_
      refine ASeq.gq _ _ rfl rfl rfl rfl (QOp.cutS rfl rfl (tok _ rfl) rfl rfl rfl (by omega) (by omega) (by omega)) ?_
      refine ASeq.gop _ _ rfl rfl rfl rfl (AOp.callP 0 rfl (by kernel_rfl) rfl rfl rfl (has_ok twoL (s.extract i (i + 2)) (by decide)) ?_ (by rintro _ _ ⟨⟩))
      rintro _ _ ⟨⟩
      refine ASeq.q rfl rfl (QOp.pickT rfl rfl rfl) ?_
      exact rest.at_ (.cons rfl (.cons rfl (.cons rfl (.cons rfl (.cons rfl (.consB (b := hasS twoL (s.extract i (i + 2))) rfl (by rw [hb]; rfl) .nil))))))
    · refine ASeq.gno _ _ rfl rfl rfl rfl rfl ?_
      refine ASeq.gno _ _ rfl rfl rfl rfl rfl ?_
      refine ASeq.gno _ _ rfl rfl rfl rfl rfl ?_
      refine ASeq.gno _ _ rfl rfl rfl rfl rfl ?_
      refine ASeq.gno _ _ rfl rfl rfl rfl rfl ?_
      refine ASeq.gno _ _ rfl rfl rfl rfl rfl ?_
      refine ASeq.gno _ _ rfl rfl rfl rfl rfl ?_
      refine ASeq.q rfl rfl (QOp.pickF rfl rfl rfl) ?_
      exact rest.at_ (.cons rfl (.cons rfl (.cons rfl (.cons rfl (.cons rfl (.consB (b := false) rfl (by rw [hb]; rfl) .nil))))))
  refine ASeq.nil ?_
  refine AExit.then_normal ?_
  have key : (decide ((i : Int) + 2 ≤ (s.size : Int)) && hasS twoL (s.extract i (i + 2))) = true ↔ (i + 2 ≤ s.size ∧ hasS twoL (s.extract i (i + 2)) = true) := by
    simp only [Bool.and_eq_true, decide_eq_true_eq]
    have e1 : (i : Int) + 2 ≤ (s.size : Int) ↔ i + 2 ≤ s.size := by omega
    rw [e1]
  refine ACode.cond _ rfl (fun hb => ?_) (fun hb => ?_)
  · have hx := key.1 hb
    refine ACode.region ?_
    refine ASeq.q rfl rfl (QOp.move rfl rfl) ?_
    refine ASeq.q rfl rfl (QOp.ar64 rfl rfl rfl rfl ⟨by omega, by omega⟩) ?_
    refine ASeq.q rfl rfl (QOp.assign rfl rfl) ?_
    refine ASeq.nil ?_
    refine ACode.seq (ACode.seq (ACode.region ?_))
    refine ASeq.q rfl rfl (QOp.move rfl rfl) ?_
    refine ASeq.q rfl rfl (QOp.move rfl rfl) ?_
    refine ASeq.q rfl rfl (QOp.cmp rfl rfl rfl rfl) ?_
    refine ASeq.nil ?_
    refine AExit.then_normal ?_
    refine ACode.cond _ rfl (fun hb => absurd (eq_of_beq hb) (by omega)) (fun hb => ?_)
    refine ACode.skip (ACode.seq (ACode.region ?_))
    refine ASeq.q rfl rfl (QOp.move rfl rfl) ?_
    refine ASeq.q rfl rfl (QOp.move rfl rfl) ?_
    refine ASeq.q rfl rfl (QOp.build rfl (tok _ rfl) rfl rfl rfl rfl rfl) ?_
    refine ASeq.q rfl rfl (QOp.build rfl (tok _ rfl) rfl rfl rfl rfl rfl) ?_
    refine ASeq.op0 rfl rfl (AOp.storeP 0 rfl rfl rfl rfl (tok _ rfl) rfl rfl rfl rfl ?_)
    refine ASeq.q rfl rfl (QOp.assign rfl rfl) ?_
    refine ASeq.nil ?_
    refine ACode.ret ?_
    refine bodyQ_ret 0 (.cell 0 rfl rfl (tok _ rfl) rfl (.tmp rfl .nil)) rfl ?_
    rw [show nextTok s at_ = (⟨4, i, (i + 2 : Nat)⟩, 0) by rw [hn]; unfold nextAt; rw [if_neg hz, if_neg hl, if_neg hd, if_pos hx]]
    exact .mk
  have hx := mt key.2 (by rw [hb]; decide)
  refine ACode.seq (ACode.region ?_)
  refine ASeq.q rfl rfl (QOp.move rfl rfl) ?_
  refine ASeq.q rfl rfl (QOp.move rfl rfl) ?_
  refine ASeq.q rfl rfl (QOp.move rfl rfl) ?_
  refine ASeq.q rfl rfl (QOp.move rfl rfl) ?_
  refine ASeq.q rfl rfl (QOp.ar64 rfl rfl rfl rfl ⟨by omega, by omega⟩) ?_
  refine ASeq.q rfl rfl (QOp.cutS rfl rfl (tok _ rfl) rfl rfl rfl (by omega) (by omega) (by omega)) ?_
  refine ASeq.op rfl rfl (AOp.callP 0 rfl (by kernel_rfl) rfl rfl rfl (has_ok oneL (s.extract i (i + 1)) (by decide)) ?_ (by rintro _ _ ⟨⟩))
  rintro _ _ ⟨⟩
  refine ASeq.nil ?_
  refine AExit.then_normal ?_
  refine ACode.cond _ rfl (fun hy => ?_) (fun hy => ?_)
  · refine ACode.region ?_
    refine ASeq.q rfl rfl (QOp.move rfl rfl) ?_
    refine ASeq.q rfl rfl (QOp.ar64 rfl rfl rfl rfl ⟨by omega, by omega⟩) ?_
    refine ASeq.q rfl rfl (QOp.assign rfl rfl) ?_
    refine ASeq.nil ?_
    refine ACode.seq (ACode.seq (ACode.region ?_))
    refine ASeq.q rfl rfl (QOp.move rfl rfl) ?_
    refine ASeq.q rfl rfl (QOp.move rfl rfl) ?_
    refine ASeq.q rfl rfl (QOp.cmp rfl rfl rfl rfl) ?_
    refine ASeq.nil ?_
    refine AExit.then_normal ?_
    refine ACode.cond _ rfl (fun hb => absurd (eq_of_beq hb) (by omega)) (fun hb => ?_)
    refine ACode.skip (ACode.seq (ACode.region ?_))
    refine ASeq.q rfl rfl (QOp.move rfl rfl) ?_
    refine ASeq.q rfl rfl (QOp.move rfl rfl) ?_
    refine ASeq.q rfl rfl (QOp.build rfl (tok _ rfl) rfl rfl rfl rfl rfl) ?_
    refine ASeq.q rfl rfl (QOp.build rfl (tok _ rfl) rfl rfl rfl rfl rfl) ?_
    refine ASeq.op0 rfl rfl (AOp.storeP 0 rfl rfl rfl rfl (tok _ rfl) rfl rfl rfl rfl ?_)
    refine ASeq.q rfl rfl (QOp.assign rfl rfl) ?_
    refine ASeq.nil ?_
    refine ACode.ret ?_
    refine bodyQ_ret 0 (.cell 0 rfl rfl (tok _ rfl) rfl (.tmp rfl .nil)) rfl ?_
    rw [show nextTok s at_ = (⟨4, i, (i + 1 : Nat)⟩, 0) by rw [hn]; unfold nextAt; rw [if_neg hz, if_neg hl, if_neg hd, if_neg hx, if_pos hy]]
    exact .mk
  · refine ACode.skip (ACode.seq (ACode.seq (ACode.region ?_)))
    refine ASeq.q rfl rfl (QOp.move rfl rfl) ?_
    refine ASeq.q rfl rfl (QOp.move rfl rfl) ?_
    refine ASeq.q rfl rfl (QOp.cmp rfl rfl rfl rfl) ?_
    refine ASeq.nil ?_
    refine AExit.then_normal ?_
    refine ACode.cond _ rfl (fun hb => ?_) (fun hb => absurd hb (by simp))
    refine ACode.seq (ACode.region ?_)
    refine ASeq.q rfl rfl (QOp.move rfl rfl) ?_
    refine ASeq.q rfl rfl (QOp.move rfl rfl) ?_
    refine ASeq.q rfl rfl (QOp.build rfl (tok _ rfl) rfl rfl rfl rfl rfl) ?_
    refine ASeq.q rfl rfl (QOp.build rfl (tok _ rfl) rfl rfl rfl rfl rfl) ?_
    refine ASeq.op0 rfl rfl (AOp.storeP 0 rfl rfl rfl rfl (tok _ rfl) rfl rfl rfl rfl ?_)
    refine ASeq.q rfl rfl (QOp.assign rfl rfl) ?_
    refine ASeq.nil ?_
    refine ACode.ret (AExit.then_ret ?_)
    refine bodyQ_ret 0 (.cell 0 rfl rfl (tok _ rfl) rfl (.tmp rfl .nil)) rfl ?_
    rw [show nextTok s at_ = (⟨0, i, i⟩, 2) by rw [hn]; unfold nextAt; rw [if_neg hz, if_neg hl, if_neg hd, if_neg hx, if_neg (by rw [hy]; decide)]]
    exact .mk
end Go.Proofs.Ytaadamobapnfbaa
set_option linter.unusedVariables false
set_option linter.unusedSimpArgs false
set_option maxRecDepth 100000
namespace Go.Proofs.Ytaadamobapnfbaa
open Go Go.Abs
inductive Chain (s : ByteArray) : Nat → List Tok → Prop
  | last {at_ : Nat} {t : Tok} (h : TokOk s at_ t) (hk : t.kind = 0) : Chain s at_ [t]
  | cons {at_ : Nat} {t : Tok} {l : List Tok} (h : TokOk s at_ t) (hk : t.kind ≠ 0) (h' : Chain s t.to.toNat l) : Chain s at_ (t :: l)
theorem Chain.len {s : ByteArray} {at_ : Nat} {l : List Tok} (h : Chain s at_ l) : at_ + l.length ≤ s.size + 1 := by
  induction h with
  | last h hk => have := h.fr; have := h.to; have := h.end_; simp only [List.length_cons, List.length_nil]; omega
  | cons h hk h' ih => have := h.fr; have := h.kind hk; have := h.end_; simp only [List.length_cons]; omega
theorem Chain.mem {s : ByteArray} {at_ : Nat} {l : List Tok} (h : Chain s at_ l) : ∀ t ∈ l, 0 ≤ t.fr ∧ t.fr ≤ t.to ∧ t.to ≤ s.size ∧ (t.kind = 2 → digs (s.extract t.fr.toNat t.to.toNat).data.toList ∧ (s.extract t.fr.toNat t.to.toNat).size ≤ 18) := by
  induction h with
  | last h hk => intro t ht; rw [List.mem_singleton] at ht; subst ht; exact ⟨by have := h.fr; omega, h.to, h.end_, h.num⟩
  | cons h hk h' ih =>
    intro t ht
    rcases List.mem_cons.1 ht with rfl | ht
    · exact ⟨by have := h.fr; omega, h.to, h.end_, h.num⟩
    · exact ih t ht
theorem Chain.lastKind {s : ByteArray} {at_ : Nat} {l : List Tok} (h : Chain s at_ l) : ∀ i : Nat, i + 1 = l.length → (l.getD i default).kind = 0 := by
  induction h with
  | last h hk => intro i hi; have : i = 0 := by simpa using hi
                 subst this; exact hk
  | cons h hk h' ih =>
    intro i hi
    cases i with
    | zero => have := h'.len; cases h' <;> simp at hi
    | succ i => rw [List.getD_cons_succ]; exact ih i (by simpa using hi)
theorem Chain.pos {s : ByteArray} {at_ : Nat} {l : List Tok} (h : Chain s at_ l) : 0 < l.length := by cases h <;> simp
theorem allToks_chain (s : ByteArray) : ∀ (n at_ : Nat) (out : List Tok), at_ ≤ s.size → (allToks n s at_ out).2.2 = 0 → ∃ l, (allToks n s at_ out).1 = out ++ l ∧ Chain s at_ l := by
  intro n
  induction n with
  | zero => intro at_ out h hc; simp [allToks] at hc
  | succ n ih =>
    intro at_ out h hc
    unfold allToks at hc ⊢
    split
    · rename_i h1; rw [if_pos h1] at hc; exact absurd hc h1
    rename_i h1
    rw [if_neg h1] at hc
    have h1 : (nextTok s at_).2 = 0 := Decidable.byContradiction h1
    have ht := nextTok_ok h h1
    split
    · rename_i hk; exact ⟨_, rfl, .last ht hk⟩
    · rename_i hk
      rw [if_neg hk] at hc
      have hto := ht.end_
      obtain ⟨l, e, hl⟩ := ih (nextTok s at_).1.to.toNat (out ++ [(nextTok s at_).1]) (by omega) hc
      exact ⟨(nextTok s at_).1 :: l, by rw [e]; simp, .cons ht hk hl⟩
theorem tokens_chain {s : ByteArray} (hc : (tokens s).2.2 = 0) : Chain s 0 (tokens s).1 := by
  unfold tokens at hc ⊢
  split
  · rename_i h; rw [if_pos h] at hc; simp at hc
  · rename_i h
    rw [if_neg h] at hc
    obtain ⟨l, e, hl⟩ := allToks_chain s _ 0 [] (Nat.zero_le _) hc
    rw [e]; exact hl
theorem PS.start_ok {s : ByteArray} (h : s.size ≤ 1000000) (hc : (tokens s).2.2 = 0) : PS.ok { text := s, toks := (tokens s).1 } := by
  have hch := tokens_chain hc
  have h1 := hch.len
  have h2 := hch.pos
  exact ⟨Int.le_refl _, by simp; omega, fun t ht => ⟨(hch.mem t ht).1, (hch.mem t ht).2.1, (hch.mem t ht).2.2.1⟩, by simp; omega, by simp, by simp, by simp, hch.lastKind, fun t ht => (hch.mem t ht).2.2.2⟩
theorem toks_rows (l : List Tok) (t : Tok) : ∀ r ∈ l.map Tok.cells ++ [t.cells], r.length = 3 := rows_ok 3 _ _ (fun y hy => by obtain ⟨z, _, rfl⟩ := List.mem_map.1 hy; rfl) rfl
theorem all_ok (s : ByteArray) (hs : s.size ≤ 1000000) : ACalls Try.prog 36 [vs s] [] (RV (.tup [.il 3 none ((tokens s).1.map Tok.cells), vi (tokens s).2.1, vi (tokens s).2.2]) []) := by
  refine ACalls.of_code (c := _) Try.func36 rfl Try.ntmps36 (Nat.le_of_ble_eq_true rfl) ?_
  refine ACode.seq (ACode.region ?_)
  refine ASeq.q rfl rfl (QOp.assign rfl rfl) ?_
  refine ASeq.q rfl rfl (QOp.assign rfl rfl) ?_
  refine ASeq.q rfl rfl (QOp.assign rfl rfl) ?_
  refine ASeq.nil ?_
  refine ACode.seq (ACode.seq (ACode.region ?_))
  refine ASeq.q rfl rfl (QOp.move rfl rfl) ?_
  refine ASeq.q rfl rfl (QOp.lenS rfl rfl (tok _ rfl) rfl) ?_
  refine ASeq.q rfl rfl (QOp.cmp rfl rfl rfl rfl) ?_
  refine ASeq.nil ?_
  refine AExit.then_normal ?_
  refine ACode.cond _ rfl (fun hb => ?_) (fun hb => ?_)
  · have hz : 20000 < s.size := by have := of_decide_eq_true hb; omega
    refine ACode.seq (ACode.region ?_)
    refine ASeq.q rfl rfl (QOp.assign rfl rfl) ?_
    refine ASeq.q rfl rfl (QOp.assign rfl rfl) ?_
    refine ASeq.q rfl rfl (QOp.assign rfl rfl) ?_
    refine ASeq.slot 2 rfl (AV.Le.nilT 3 none) ?_
    refine ASeq.nil ?_
    refine ACode.ret (AExit.then_ret ?_)
    refine bodyQ_ret 0 (.tmp rfl (.tmp rfl (.tmp rfl .nil))) rfl ?_
    rw [show tokens s = ([], 0, 1) by unfold tokens; rw [if_pos hz]]
    exact .mk
  have hz : ¬ 20000 < s.size := by have := of_decide_eq_false hb; omega
  have htk : tokens s = allToks (s.size + 1) s 0 [] := by unfold tokens; rw [if_neg hz]
  rw [htk]
  clear htk
  generalize hres : allToks (s.size + 1) s 0 [] = res
  refine ACode.skip (ACode.seq (ACode.region ?_))
  refine ASeq.q rfl rfl (QOp.assign rfl rfl) ?_
  refine ASeq.nil ?_
  refine ACode.seq (ACode.region ?_)
  refine ASeq.q rfl rfl (QOp.assign rfl rfl) ?_
  refine ASeq.nil ?_
  refine ACode.block ?_
  refine ACode.newTok (fun tl => ?_)
  refine ACode.slot 5 rfl (AV.Le.nilT 3 (some tl)) ?_
  refine ACode.loopP (fun (x : Nat × Nat × List Tok × Nat) => [(0, vs s), (5, .il 3 (some x.2.2.2) (x.2.2.1.map Tok.cells)), (6, vi x.2.1)]) (fun x => [.tk x.2.2.2]) (fun x => x.1)
    (fun x => x.2.1 ≤ s.size ∧ s.size < x.1 + x.2.1 ∧ x.2.2.1.length ≤ x.2.1 ∧ allToks x.1 s x.2.1 x.2.2.1 = res) (s.size + 1, 0, [], tl)
    ⟨Nat.zero_le _, by dsimp only; omega, Nat.le_refl _, hres⟩ (.cons rfl (.cons rfl (.cons rfl .nil))) 1 rfl ?_
  rintro ⟨n, i, out, tl⟩ ⟨hi, hn, hl, he⟩
  dsimp only at hi hn hl he
  obtain ⟨n, rfl⟩ : ∃ k, n = k + 1 := ⟨n - 1, by omega⟩
  unfold allToks at he
  refine ACode.block (ACode.seq (ACode.region ?_))
  refine ASeq.q rfl rfl (QOp.move rfl rfl) ?_
  refine ASeq.q rfl rfl (QOp.move rfl rfl) ?_
  refine ASeq.op rfl rfl (AOp.callP 0 rfl (by kernel_rfl) rfl rfl rfl (next_ok s i hi hs) ?_ (by rintro _ _ ⟨⟩))
  rintro _ _ ⟨⟩
  refine ASeq.q rfl rfl (QOp.move rfl rfl) ?_
  refine ASeq.q rfl rfl (QOp.extract rfl rfl rfl) ?_
  refine ASeq.q rfl rfl (QOp.extract rfl rfl rfl) ?_
  refine ASeq.op rfl rfl (AOp.allocP rfl (tok _ rfl) rfl rfl (fun _ => rfl) (fun _ => ?_))
  refine ASeq.op0 rfl rfl (AOp.storeP 1 rfl rfl rfl rfl (tok _ rfl) rfl rfl rfl rfl ?_)
  refine ASeq.q rfl rfl (QOp.assign rfl rfl) ?_
  refine ASeq.nil ?_
  refine ACode.seq (ACode.seq (ACode.region ?_))
  refine ASeq.q rfl rfl (QOp.move rfl rfl) ?_
  refine ASeq.q rfl rfl (QOp.cmp rfl rfl rfl rfl) ?_
  refine ASeq.nil ?_
  refine AExit.then_normal ?_
  refine ACode.cond _ rfl (fun hb => ?_) (fun hb => ?_)
  · have hc : (nextTok s i).2 ≠ 0 := by simpa using hb
    rw [if_pos hc] at he
    rw [← he]
    refine ACode.seq ?_
    refine ACode.drawn [[], [0], [0, 1], [], [], [0, 1, 2, 4], [0, 1, 2, 3, 4, 5]] (by kernel_rfl) mixed ?_
    refine DAny.qu 0 rfl rfl (by kernel_rfl) rfl (fun _ => .does _ _ rfl (.none rfl) (QOp.fieldM rfl rfl (tok _ rfl) rfl rfl (by decide) rfl)) ?_
    refine DAny.qu 1 rfl rfl (by kernel_rfl) rfl (fun _ => .does _ _ rfl (.none rfl) (QOp.fieldM rfl rfl (tok _ rfl) rfl rfl (by decide) rfl)) ?_
    refine DAny.ld 2 rfl rfl (by kernel_rfl) rfl (.does _ _ rfl (.none rfl) (QOp.loadM 1 rfl rfl rfl (tok _ rfl) rfl)) ?_
    refine DAny.qu 3 rfl rfl (by kernel_rfl) rfl (fun _ => .does _ _ rfl (.none rfl) (QOp.move rfl rfl)) ?_
    refine DAny.ef 4 rfl (by kernel_rfl) (.none rfl) rfl rfl (.q (QOp.assign rfl rfl) ⟨(by ((refine AllQ.cons (.does _ _ rfl (.none rfl) (QOp.loadM 1 rfl rfl rfl (tok _ rfl) rfl)) ?_); (exact AllQ.nil))), ?_⟩)
    refine DAny.ef 5 rfl (by kernel_rfl) (.none rfl) rfl rfl (.q (QOp.assign rfl rfl) ⟨(by ((exact AllQ.nil))), ?_⟩)
    refine DAny.ef 6 rfl (by kernel_rfl) (.none rfl) rfl rfl (.q (QOp.assign rfl rfl) ⟨(by ((exact AllQ.nil))), ?_⟩)
    refine DAny.done (by kernel_rfl) ?_
    refine ACode.slot 2 rfl (AV.Le.nilT 3 none) ?_
    refine ACode.ret (AExit.then_ret (AExit.in_ret (AExit.then_ret (AExit.in_ret ?_))))
    exact bodyQ_ret 0 (.tmp rfl (.tmp rfl (.tmp rfl .nil))) rfl .mk
  have hc : (nextTok s i).2 = 0 := by simpa using hb
  rw [if_neg (fun h => h hc)] at he
  have ht := nextTok_ok hi hc
  refine ACode.skip (ACode.seq (ACode.region ?_))
  refine ASeq.q rfl rfl (QOp.move rfl rfl) ?_
  refine ASeq.q rfl rfl (QOp.loadM 1 rfl rfl rfl (tok _ rfl) rfl) ?_
  refine ASeq.op rfl rfl (AOp.buildSliceR rfl (tok _ rfl) rfl (tok _ rfl) (by decide) rfl (by decide) rfl rfl rfl rfl ?_)
  refine ASeq.op rfl rfl (AOp.appendP 0 (e := 93) (tde := TT 93) rfl rfl rfl rfl (tok _ rfl) rfl (tok _ rfl) (tok _ rfl) rfl (by decide) rfl rfl (fun _ => rfl) (toks_rows out _) (by simp only [List.length_map, List.length_cons, List.length_nil]; omega) rfl (fun _ => ?_))
  refine ASeq.q rfl rfl (QOp.assign rfl rfl) ?_
  refine ASeq.nil ?_
  refine ACode.seq (ACode.seq (ACode.region ?_))
  refine ASeq.q rfl rfl (QOp.fieldM rfl rfl (tok _ rfl) rfl rfl (by decide) rfl) ?_
  refine ASeq.q rfl rfl (QOp.loadM 1 rfl rfl rfl (tok _ rfl) rfl) ?_
  refine ASeq.q rfl rfl (QOp.cmp rfl rfl rfl rfl) ?_
  refine ASeq.nil ?_
  refine AExit.then_normal ?_
  refine ACode.cond _ rfl (fun hb => ?_) (fun hb => ?_)
  · have hk : (nextTok s i).1.kind = 0 := by simpa using hb
    rw [if_pos hk] at he
    rw [← he]
    refine ACode.seq (ACode.region ?_)
    refine ASeq.slot 5 rfl (AV.Le.tok 3 _ _) ?_
    refine ASeq.q rfl rfl (QOp.move rfl rfl) ?_
    refine ASeq.q rfl rfl (QOp.assign rfl rfl) ?_
    refine ASeq.q rfl rfl (QOp.assign rfl rfl) ?_
    refine ASeq.q rfl rfl (QOp.assign rfl rfl) ?_
    refine ASeq.nil ?_
    refine ACode.ret (AExit.then_ret (AExit.in_ret (AExit.then_ret (AExit.in_ret ?_))))
    refine bodyQ_ret 0 (.tmp rfl (.tmp rfl (.tmp rfl .nil))) rfl ?_
    rw [List.map_append]
    exact .mk
  · have hk : ¬ (nextTok s i).1.kind = 0 := by simpa using hb
    rw [if_neg hk] at he
    have h1 := ht.fr
    have h2 := ht.kind hk
    have h3 := ht.end_
    refine ACode.skip (ACode.region ?_)
    refine ASeq.q rfl rfl (QOp.fieldM rfl rfl (tok _ rfl) rfl rfl (by decide) rfl) ?_
    refine ASeq.q rfl rfl (QOp.fieldM rfl rfl (tok _ rfl) rfl rfl (by decide) rfl) ?_
    refine ASeq.q rfl rfl (QOp.loadM 1 rfl rfl rfl (tok _ rfl) rfl) ?_
    refine ASeq.q rfl rfl (QOp.assign rfl rfl) ?_
    refine ASeq.nil ?_
    refine AExit.in_normal (AExit.then_normal ?_)
    refine ⟨(n, (nextTok s i).1.to.toNat, out ++ [(nextTok s i).1], _), 1, ⟨by dsimp only; omega, by dsimp only; omega, by simp only [List.length_append, List.length_cons, List.length_nil]; omega, he⟩, Nat.lt_succ_self _, .cons rfl (.consE rfl ?_ (.consE rfl ?_ .nil)), rfl⟩
    · simp only [List.map_append, List.map_cons, List.map_nil]; rfl
    · rw [Int.toNat_of_nonneg (by omega)]
end Go.Proofs.Ytaadamobapnfbaa
set_option linter.unusedVariables false
set_option linter.unusedSimpArgs false
set_option maxRecDepth 100000
namespace Go.Proofs.Ytaadamobapnfbaa
open Go Go.Abs
theorem Step.params : ∀ (n : Nat) (p : PS) (l : List ByteArray), Step 0 0 p (params n p l).1
  | 0, p, l => .fail p 98 (by decide) _ _
  | n + 1, p, l => by
    unfold Ytaadamobapnfbaa.params
    split
    · have h0 : Step 0 0 p (if l = [] then p else p.want w_comma) := by
        split
        · exact .refl p
        · exact (Step.want p _).weak (by decide) (by decide)
      exact ((h0.then (Step.kindOf _ 1 (by decide)) (by decide) (by decide)).then (Step.params n _ _) (by decide) (by decide)).weak (by decide) (by decide)
    · exact .refl p
theorem Step.full (p : PS) : Step 0 0 p p.full := by
  unfold PS.full
  split
  · exact .fail p 5 (by decide) 0 0
  · exact .refl p
/-- the state behind a function's body -/
def funcEnd (n : Nat) (p : PS) : PS × List Int :=
  block n (if ((params n (((p.full.want w_func).kindOf 1).1.want w_lp) []).1.want w_rp).is w_int = true then ((params n (((p.full.want w_func).kindOf 1).1.want w_lp) []).1.want w_rp).want w_int
    else (params n (((p.full.want w_func).kindOf 1).1.want w_lp) []).1.want w_rp) 1
def funcOf (n : Nat) (p : PS) : Fu :=
  { name := ((p.full.want w_func).kindOf 1).2, fr := p.here, to := (funcEnd n p).1.lastTo, params := (params n (((p.full.want w_func).kindOf 1).1.want w_lp) []).2,
    type := if ((params n (((p.full.want w_func).kindOf 1).1.want w_lp) []).1.want w_rp).is w_int = true then 1 else 4, body := (funcEnd n p).2 }
theorem function_eq (n : Nat) (p : PS) : function n p = if (funcEnd n p).1.code ≠ 0 then (funcEnd n p).1 else { (funcEnd n p).1 with funcs := (funcEnd n p).1.funcs ++ [funcOf n p] } := rfl
theorem Step.funcEnd (n : Nat) (p : PS) : Step 4 4 p (funcEnd n p).1 := by
  unfold Ytaadamobapnfbaa.funcEnd
  have h1 := ((((((Step.full p).then (Step.want _ w_func) (by decide) (by decide)).then (Step.kindOf _ 1 (by decide)) (by decide) (by decide)).then (Step.want _ w_lp) (by decide) (by decide)).then (Step.params n _ []) (by decide) (by decide)).then (Step.want _ w_rp) (by decide) (by decide))
  split
  · exact ((h1.then (Step.want _ w_int) (by decide) (by decide)).then ((steps2 n).block _ 1) (by decide) (by decide)).weak (by decide) (by decide)
  · exact (h1.then ((steps2 n).block _ 1) (by decide) (by decide)).weak (by decide) (by decide)
theorem function_ok {n : Nat} {p : PS} (h : p.ok) : (function n p).ok ∧ (function n p).toks = p.toks ∧ (function n p).text = p.text ∧ ((function n p).code = 0 → p.code = 0 ∧ p.at_ < (function n p).at_) := by
  have s := Step.funcEnd n p
  have o := s.ok (by decide) (by decide) h
  rw [function_eq]
  split
  · rename_i hc; exact ⟨o, s.toks, s.text, fun h => absurd h hc⟩
  · rename_i hc
    have hc : (funcEnd n p).1.code = 0 := Decidable.byContradiction hc
    have hlt : p.at_ < (funcEnd n p).1.at_ := by
      have e1 := s.ex0 hc
      obtain ⟨a, ea⟩ := s.exs
      rw [ea, List.length_append] at e1
      omega
    refine ⟨⟨o.at0, o.at1, o.spans, o.small, o.ex, o.st, ?_, o.last, o.nums⟩, s.toks, s.text, fun _ => ⟨s.live hc, hlt⟩⟩
    simp only [List.length_append, List.length_cons, List.length_nil, s.funcs]
    have := h.fu
    omega
theorem strs_rows (l : List ByteArray) (x : ByteArray) : ∀ r ∈ strs l ++ [[vs x]], r.length = 1 := rows_ok 1 _ _ (fun y hy => by obtain ⟨z, _, rfl⟩ := List.mem_map.1 hy; rfl) rfl
theorem strs_snoc (l : List ByteArray) (x : ByteArray) : strs l ++ [[vs x]] = strs (l ++ [x]) := by simp [strs]
theorem le_m3 {p a b : Int} (h : a ≤ p) (h' : b + 20 ≤ a) : b ≤ p := by omega
theorem le_k3 {k : Nat} {a b : Int} (h : a + 1 ≤ (k + 1 : Nat)) (h' : b + 20 ≤ a) : b + 1 ≤ k := by omega
theorem RP.of {p : PS} {r : AV} {R : List Abs.Item} {te ts tf : Nat} (h1 : r = .agg (p.cells te ts tf)) (h2 : R = [.tk te, .tk ts, .tk tf]) : RP p (.ret r) R := by
  subst h1; subst h2; exact .mk te ts tf
set_option maxHeartbeats 4000000 in
theorem function_walk (n : Nat) (p : PS) (h : p.ok) (hm : p.mm + 14 ≤ n) (te ts tf : Nat) : ACalls Try.prog 37 [.agg (p.cells te ts tf)] [.tk te, .tk ts, .tk tf] (RP (function n p)) := by
  have hnn := PS.mm_nn h
  have hmax : dmax = 1099511627776 := rfl
  have p0 := h.at0
  have p2 := h.small
  have hmx : p.mm ≤ 20971520 := by
    unfold PS.mm; split <;> omega
  have sf := Step.full p
  have of := sf.ok (by decide) (by decide) h
  have mf := sf.le h
  have o1 := ok_want of w_func
  have m1 := mm_wantle of w_func
  have s2 := Step.kindOf (p.full.want w_func) 1 (by decide)
  have o2 := s2.ok (by decide) (by decide) o1
  have m2 := s2.le o1
  have o3 := ok_want o2 w_lp
  have m3 := mm_wantle o2 w_lp
  have n3 := PS.mm_nn o3
  have a3 := o3.at0
  refine ACalls.of_code (c := _) Try.func37 rfl Try.ntmps37 (Nat.le_of_ble_eq_true rfl) ?_
  refine ACode.seq (ACode.region ?_)
  refine ASeq.op rfl rfl (AOp.boxP rfl rfl rfl (fun _ => rfl) (fun _ => ?_))
  refine ASeq.op rfl rfl (AOp.allocP rfl (tok _ rfl) rfl rfl (fun _ => rfl) (fun _ => ?_))
  refine ASeq.nil ?_
  rename_i m1' m2'
  refine ACode.seq (ACode.region ?_)
  refine ASeq.q rfl rfl (QOp.loadM 3 rfl rfl rfl (tok _ rfl) rfl) ?_
  refine ASeq.op rfl rfl (AOp.callP 0 rfl (by kernel_rfl) rfl rfl rfl (here_ok p h _ _ _) ?_ (by rintro _ _ ⟨⟩))
  rintro _ _ ⟨⟩
  refine ASeq.q rfl rfl (QOp.assign rfl rfl) ?_
  refine ASeq.nil ?_
  refine ACode.meetA (fun _ : Nat × Nat × Nat => [(1, .mp m1' 0), (2, .mp m2' 0), (3, vi p.here)]) (fun x => [.tk x.1, .tk x.2.1, .tk x.2.2, .mu m1' (p.full.cells x.1 x.2.1 x.2.2), .mu m2' (List.map AV.v (TT 91).zero)]) (fun rest => ?_) ?_
  · refine ACode.seq (ACode.region ?_)
    refine ASeq.q rfl rfl (QOp.loadM 3 rfl rfl rfl (tok _ rfl) rfl) ?_
    refine ASeq.op rfl rfl (AOp.callP 0 rfl (by kernel_rfl) rfl rfl rfl (is_ok p h w_func _ _ _) ?_ (by rintro _ _ ⟨⟩))
    rintro _ _ ⟨⟩
    refine ASeq.q rfl rfl (QOp.move rfl rfl) ?_
    refine ASeq.split 15 (p.is w_func) rfl (fun hb => ?_) (fun hb => ?_)
    · refine ASeq.gq _ _ rfl rfl rfl rfl (QOp.fieldM rfl rfl (tok _ rfl) rfl rfl (by decide) rfl) ?_
      refine ASeq.gq _ _ rfl rfl rfl rfl (QOp.fieldM rfl rfl (tok _ rfl) rfl rfl (by decide) rfl) ?_
      refine ASeq.gq _ _ rfl rfl rfl rfl (QOp.loadM 3 rfl rfl rfl (tok _ rfl) rfl) ?_
      refine ASeq.gq _ _ rfl rfl rfl rfl (QOp.lenI rfl rfl (tok _ rfl) rfl) ?_
      refine ASeq.gq _ _ rfl rfl rfl rfl (QOp.cmp rfl rfl rfl rfl) ?_
      refine ASeq.q rfl rfl (QOp.pickT rfl rfl rfl) ?_
      refine ASeq.nil ?_
      refine AExit.then_normal ?_
      refine ACode.cond _ rfl (fun hc => ?_) (fun hc => ?_)
      · have hfull : p.full = p.fail 5 := by
          unfold PS.full; rw [if_pos ⟨hb, by simpa using hc⟩]
        refine ACode.region ?_
        refine ASeq.q rfl rfl (QOp.loadM 3 rfl rfl rfl (tok _ rfl) rfl) ?_
        refine ASeq.op rfl rfl (AOp.callP 3 rfl (by kernel_rfl) rfl rfl rfl (fail_ok p h 5 _ _ _) ?_ (by rintro _ _ ⟨⟩))
        rintro _ _ ⟨te, ts, tf⟩
        refine ASeq.op0 rfl rfl (AOp.storeP 3 rfl rfl rfl rfl (tok _ rfl) rfl rfl rfl rfl ?_)
        refine ASeq.nil ?_
        exact (rest (te, ts, tf)).atP 5 (.cons rfl (.cons rfl (.cons rfl .nil))) (by rw [hfull]; rfl)
      · have hfull : p.full = p := by
          unfold PS.full; rw [if_neg (fun h => absurd h.2 (by simpa using hc))]
        refine ACode.skip ?_
        exact (rest (te, ts, tf)).atP 5 (.cons rfl (.cons rfl (.cons rfl .nil))) (by rw [hfull]; rfl)
    · have hfull : p.full = p := by
        unfold PS.full; rw [if_neg (fun h => absurd h.1 (by rw [hb]; decide))]
      refine ASeq.gno _ _ rfl rfl rfl rfl rfl ?_
      refine ASeq.gno _ _ rfl rfl rfl rfl rfl ?_
      refine ASeq.gno _ _ rfl rfl rfl rfl rfl ?_
      refine ASeq.gno _ _ rfl rfl rfl rfl rfl ?_
      refine ASeq.gno _ _ rfl rfl rfl rfl rfl ?_
      refine ASeq.q rfl rfl (QOp.pickF rfl rfl rfl) ?_
      refine ASeq.nil ?_
      refine AExit.then_normal ?_
      refine ACode.cond _ rfl (fun hc => by cases hc) (fun hc => ?_)
      refine ACode.skip ?_
      exact (rest (te, ts, tf)).atP 5 (.cons rfl (.cons rfl (.cons rfl .nil))) (by rw [hfull]; rfl)
  rintro ⟨te, ts, tf⟩
  refine ACode.seq (ACode.region ?_)
  refine ASeq.q rfl rfl (QOp.loadM 3 rfl rfl rfl (tok _ rfl) rfl) ?_
  refine ASeq.op rfl rfl (AOp.callP 3 rfl (by kernel_rfl) rfl rfl rfl (want_ok _ of w_func _ _ _) ?_ (by rintro _ _ ⟨⟩))
  rintro _ _ ⟨te, ts, tf⟩
  refine ASeq.op rfl rfl (AOp.callP 3 rfl (by kernel_rfl) rfl rfl rfl (kind_ok _ o1 1 _ _ _) ?_ (by rintro _ _ ⟨⟩))
  rintro _ _ ⟨te, ts, tf⟩
  refine ASeq.q rfl rfl (QOp.move rfl rfl) ?_
  refine ASeq.q rfl rfl (QOp.extract rfl rfl rfl) ?_
  refine ASeq.q rfl rfl (QOp.extract rfl rfl rfl) ?_
  refine ASeq.op rfl rfl (AOp.allocP rfl (tok _ rfl) rfl rfl (fun _ => rfl) (fun _ => ?_))
  refine ASeq.op0 rfl rfl (AOp.storeP 5 rfl rfl rfl rfl (tok _ rfl) rfl rfl rfl rfl ?_)
  refine ASeq.q rfl rfl (QOp.assign rfl rfl) ?_
  refine ASeq.nil ?_
  refine ACode.seq (ACode.region ?_)
  refine ASeq.q rfl rfl (QOp.loadM 5 rfl rfl rfl (tok _ rfl) rfl) ?_
  refine ASeq.op rfl rfl (AOp.callP 3 rfl (by kernel_rfl) rfl rfl rfl (want_ok _ o2 w_lp _ _ _) ?_ (by rintro _ _ ⟨⟩))
  rintro _ _ ⟨te, ts, tf⟩
  refine ASeq.op0 rfl rfl (AOp.storeP 3 rfl rfl rfl rfl (tok _ rfl) rfl rfl rfl rfl ?_)
  refine ASeq.nil ?_
  refine ACode.seq (ACode.region ?_)
  refine ASeq.q rfl rfl (QOp.move rfl rfl) ?_
  refine ASeq.q rfl rfl (QOp.build rfl (tok _ rfl) rfl rfl rfl rfl rfl) ?_
  refine ASeq.op rfl rfl (AOp.allocP rfl (tok _ rfl) rfl rfl (fun _ => rfl) (fun _ => ?_))
  refine ASeq.op0 rfl rfl (AOp.storeP 6 rfl rfl rfl rfl (tok _ rfl) rfl rfl rfl rfl ?_)
  refine ASeq.nil ?_
  refine ACode.seq (ACode.block ?_)
  refine ACode.newTok (fun tl => ?_)
  refine ACode.cells (cells' := [vs ((p.full.want w_func).kindOf 1).2, vi 0, vi 0, .il 1 (some tl) (strs []), vi 4, .v (.slice none 0 0)]) [_, _, _, _, _, _] [_] rfl (.cons (.refl _) (.cons (.refl _) (.cons (.refl _) (.cons (AV.Le.nilT 1 _) (.cons (.refl _) (.cons (.refl _) .nil)))))) ?_
  generalize hres : params n (((p.full.want w_func).kindOf 1).1.want w_lp) [] = res
  refine ACode.loopP (fun (x : Nat × PS × List ByteArray × Nat × Nat × Nat × Nat) => [(1, .mp m1' 0), (2, .mp m2' 0), (3, vi p.here), (6, .mp _ 0)])
    (fun (x : Nat × PS × List ByteArray × Nat × Nat × Nat × Nat) => [.tk x.2.2.2.1, .tk x.2.2.2.2.1, .tk x.2.2.2.2.2.1, .mu m1' (x.2.1.cells x.2.2.2.1 x.2.2.2.2.1 x.2.2.2.2.2.1), .mu m2' (List.map AV.v (TT 91).zero), .mu _ _,
      .mu _ [vs ((p.full.want w_func).kindOf 1).2, vi 0, vi 0, .il 1 (some x.2.2.2.2.2.2) (strs x.2.2.1), vi 4, .v (.slice none 0 0)], .tk x.2.2.2.2.2.2]) (fun x => x.1)
    (fun x => x.2.1.ok ∧ x.2.1.mm ≤ p.mm ∧ x.2.1.mm + 1 ≤ x.1 ∧ params x.1 x.2.1 x.2.2.1 = res ∧ (x.2.1.code = 0 → (x.2.2.1.length : Int) ≤ x.2.1.at_) ∧ (x.2.2.1.length : Int) ≤ x.2.1.at_ + 1)
    (n, ((p.full.want w_func).kindOf 1).1.want w_lp, [], te, ts, tf, tl)
    ⟨o3, by dsimp only; omega, by dsimp only; omega, hres, fun _ => by simpa using a3, by simp only [List.length_nil]; omega⟩ (.cons rfl (.cons rfl (.cons rfl (.cons rfl .nil)))) 8 rfl ?_
  rintro ⟨k, q, l, te, ts, tf, tl⟩ ⟨hq, hqp, hqm, hres', hlc, hll⟩
  dsimp only at hq hqp hqm hres' hlc hll
  have hqn := PS.mm_nn hq
  obtain ⟨k, rfl⟩ : ∃ k', k = k' + 1 := ⟨k - 1, by omega⟩
  have q0 := hq.at0
  have q1 := hq.at1
  have q2 := hq.small
  refine ACode.seq (ACode.seq (ACode.region ?_))
  refine ASeq.q rfl rfl (QOp.fieldM rfl rfl (tok _ rfl) rfl rfl (by decide) rfl) ?_
  refine ASeq.q rfl rfl (QOp.loadM 3 rfl rfl rfl (tok _ rfl) rfl) ?_
  refine ASeq.q rfl rfl (QOp.cmp rfl rfl rfl rfl) ?_
  refine ASeq.q rfl rfl (QOp.move rfl rfl) ?_
  refine ASeq.split 37 (q.code == 0) rfl (fun hb => ?_) (fun hb => ?_)
  · have hc : q.code = 0 := by simpa using hb
    have hlc := hlc hc
    refine ASeq.gq _ _ rfl rfl rfl rfl (QOp.loadM 3 rfl rfl rfl (tok _ rfl) rfl) ?_
    refine ASeq.gop _ _ rfl rfl rfl rfl (AOp.callP 0 rfl (by kernel_rfl) rfl rfl rfl (is_ok q hq w_rp _ _ _) ?_ (by rintro _ _ ⟨⟩))
    rintro _ _ ⟨⟩
    refine ASeq.gq _ _ rfl rfl rfl rfl (QOp.not rfl rfl) ?_
    refine ASeq.q rfl rfl (QOp.pickT rfl rfl rfl) ?_
    refine ASeq.nil ?_
    refine AExit.then_normal ?_
    refine ACode.cond _ rfl (fun hb => ?_) (fun hb => ?_)
    · have hr : q.is w_rp = false := by simpa using hb
      have hgo : params (k + 1) q l = params k ((if l = [] then q else q.want w_comma).kindOf 1).1 (l ++ [((if l = [] then q else q.want w_comma).kindOf 1).2]) := by
        simp only [params]; rw [if_pos ⟨hc, hr⟩]
      rw [hgo] at hres'
      refine ACode.skip (ACode.block (ACode.seq (ACode.seq (ACode.region ?_))))
      refine ASeq.q rfl rfl (QOp.fieldM rfl rfl (tok _ rfl) rfl rfl (by decide) rfl) ?_
      refine ASeq.q rfl rfl (QOp.loadM 6 rfl rfl rfl (tok _ rfl) rfl) ?_
      refine ASeq.q rfl rfl (QOp.lenI rfl rfl (tok _ rfl) rfl) ?_
      refine ASeq.q rfl rfl (QOp.cmp rfl rfl rfl rfl) ?_
      refine ASeq.nil ?_
      refine AExit.then_normal ?_
      refine ACode.cond _ rfl (fun hb => ?_) (fun hb => ?_)
      · have hl : l ≠ [] := by rintro rfl; simp [strs] at hb
        rw [if_neg hl] at hres'
        refine ACode.region ?_
        refine ASeq.q rfl rfl (QOp.loadM 3 rfl rfl rfl (tok _ rfl) rfl) ?_
        refine ASeq.op rfl rfl (AOp.callP 3 rfl (by kernel_rfl) rfl rfl rfl (want_ok q hq w_comma _ _ _) ?_ (by rintro _ _ ⟨⟩))
        rintro _ _ ⟨te, ts, tf⟩
        refine ASeq.op0 rfl rfl (AOp.storeP 3 rfl rfl rfl rfl (tok _ rfl) rfl rfl rfl rfl ?_)
        refine ASeq.nil ?_
        refine ACode.seq (ACode.region ?_)
        have oa : (q.want w_comma).ok := ok_want hq _
        have ta := Step.kindOf (q.want w_comma) 1 (by decide)
        have ob := ta.ok (by decide) (by decide) oa
        have tb : Step 1 1 q ((q.want w_comma).kindOf 1).1 := ((((Step.want q w_comma).weak (e' := 0) (s' := 0) (by decide) (by decide))).then ta (by decide) (by decide)).weak (by decide) (by decide)
        have mb := tb.go hq hc (.inl (by decide))
        have hat : ((q.want w_comma).kindOf 1).1.code = 0 → ((l ++ [((q.want w_comma).kindOf 1).2]).length : Int) ≤ ((q.want w_comma).kindOf 1).1.at_ := fun hz => by
          have e2 := tb.st0 hz
          obtain ⟨ys, e3⟩ := tb.sts
          rw [e3, List.length_append] at e2
          simp only [List.length_append, List.length_cons, List.length_nil]
          omega
        have hat2 : ((l ++ [((q.want w_comma).kindOf 1).2]).length : Int) ≤ ((q.want w_comma).kindOf 1).1.at_ + 1 := by
          have e2 := tb.at_
          simp only [List.length_append, List.length_cons, List.length_nil]
          omega
        refine ASeq.q rfl rfl (QOp.loadM 3 rfl rfl rfl (tok _ rfl) rfl) ?_
        refine ASeq.op rfl rfl (AOp.callP 3 rfl (by kernel_rfl) rfl rfl rfl (kind_ok (q.want w_comma) oa 1 _ _ _) ?_ (by rintro _ _ ⟨⟩))
        rintro _ _ ⟨te, ts, tf⟩
        refine ASeq.q rfl rfl (QOp.move rfl rfl) ?_
        refine ASeq.q rfl rfl (QOp.extract rfl rfl rfl) ?_
        refine ASeq.q rfl rfl (QOp.extract rfl rfl rfl) ?_
        refine ASeq.op rfl rfl (AOp.allocP rfl (tok _ rfl) rfl rfl (fun _ => rfl) (fun _ => ?_))
        refine ASeq.op0 rfl rfl (AOp.storeP 8 rfl rfl rfl rfl (tok _ rfl) rfl rfl rfl rfl ?_)
        refine ASeq.q rfl rfl (QOp.assign rfl rfl) ?_
        refine ASeq.nil ?_
        refine ACode.seq (ACode.region ?_)
        refine ASeq.q rfl rfl (QOp.loadM 8 rfl rfl rfl (tok _ rfl) rfl) ?_
        refine ASeq.op0 rfl rfl (AOp.storeP 3 rfl rfl rfl rfl (tok _ rfl) rfl rfl rfl rfl ?_)
        refine ASeq.nil ?_
        refine ACode.region ?_
        refine ASeq.q rfl rfl (QOp.fieldM rfl rfl (tok _ rfl) rfl rfl (by decide) rfl) ?_
        refine ASeq.q rfl rfl (QOp.loadM 6 rfl rfl rfl (tok _ rfl) rfl) ?_
        refine ASeq.q rfl rfl (QOp.move rfl rfl) ?_
        refine ASeq.op rfl rfl (AOp.buildSliceR rfl (tok _ rfl) rfl (tok _ rfl) (by decide) rfl (by decide) rfl rfl rfl rfl ?_)
        refine ASeq.op rfl rfl (AOp.appendP 7 (e := 9) (tde := TT 9) rfl rfl rfl rfl (tok _ rfl) rfl (tok _ rfl) (tok _ rfl) rfl (by decide) rfl rfl (fun _ => rfl) (strs_rows l _) (by simp only [strs_len, List.length_cons, List.length_nil]; omega) rfl (fun _ => ?_))
        rw [strs_snoc]
        refine ASeq.q rfl rfl (QOp.fieldM rfl rfl (tok _ rfl) rfl rfl (by decide) rfl) ?_
        refine ASeq.op0 rfl rfl (AOp.storeP 6 rfl rfl rfl rfl (tok _ rfl) rfl rfl rfl rfl ?_)
        refine ASeq.nil ?_
        refine AExit.in_normal (AExit.then_normal ?_)
        exact ⟨(k, _, _, _, _, _, _), 8, ⟨ob, le_m3 hqp mb, le_k3 hqm mb, hres', hat, hat2⟩, Nat.lt_succ_self _, .cons rfl (.cons rfl (.cons rfl (.cons rfl .nil))), rfl⟩
      · have hl : l = [] := by
          cases l with
          | nil => rfl
          | cons x l => simp [strs] at hb
        rw [if_pos hl] at hres'
        refine ACode.skip (ACode.seq (ACode.region ?_))
        have oa : (q).ok := hq
        have ta := Step.kindOf (q) 1 (by decide)
        have ob := ta.ok (by decide) (by decide) oa
        have tb : Step 1 1 q ((q).kindOf 1).1 := ((Step.refl q).then ta (by decide) (by decide)).weak (by decide) (by decide)
        have mb := tb.go hq hc (.inl (by decide))
        have hat : ((q).kindOf 1).1.code = 0 → ((l ++ [((q).kindOf 1).2]).length : Int) ≤ ((q).kindOf 1).1.at_ := fun hz => by
          have e2 := tb.st0 hz
          obtain ⟨ys, e3⟩ := tb.sts
          rw [e3, List.length_append] at e2
          simp only [List.length_append, List.length_cons, List.length_nil]
          omega
        have hat2 : ((l ++ [((q).kindOf 1).2]).length : Int) ≤ ((q).kindOf 1).1.at_ + 1 := by
          have e2 := tb.at_
          simp only [List.length_append, List.length_cons, List.length_nil]
          omega
        refine ASeq.q rfl rfl (QOp.loadM 3 rfl rfl rfl (tok _ rfl) rfl) ?_
        refine ASeq.op rfl rfl (AOp.callP 3 rfl (by kernel_rfl) rfl rfl rfl (kind_ok (q) oa 1 _ _ _) ?_ (by rintro _ _ ⟨⟩))
        rintro _ _ ⟨te, ts, tf⟩
        refine ASeq.q rfl rfl (QOp.move rfl rfl) ?_
        refine ASeq.q rfl rfl (QOp.extract rfl rfl rfl) ?_
        refine ASeq.q rfl rfl (QOp.extract rfl rfl rfl) ?_
        refine ASeq.op rfl rfl (AOp.allocP rfl (tok _ rfl) rfl rfl (fun _ => rfl) (fun _ => ?_))
        refine ASeq.op0 rfl rfl (AOp.storeP 8 rfl rfl rfl rfl (tok _ rfl) rfl rfl rfl rfl ?_)
        refine ASeq.q rfl rfl (QOp.assign rfl rfl) ?_
        refine ASeq.nil ?_
        refine ACode.seq (ACode.region ?_)
        refine ASeq.q rfl rfl (QOp.loadM 8 rfl rfl rfl (tok _ rfl) rfl) ?_
        refine ASeq.op0 rfl rfl (AOp.storeP 3 rfl rfl rfl rfl (tok _ rfl) rfl rfl rfl rfl ?_)
        refine ASeq.nil ?_
        refine ACode.region ?_
        refine ASeq.q rfl rfl (QOp.fieldM rfl rfl (tok _ rfl) rfl rfl (by decide) rfl) ?_
        refine ASeq.q rfl rfl (QOp.loadM 6 rfl rfl rfl (tok _ rfl) rfl) ?_
        refine ASeq.q rfl rfl (QOp.move rfl rfl) ?_
        refine ASeq.op rfl rfl (AOp.buildSliceR rfl (tok _ rfl) rfl (tok _ rfl) (by decide) rfl (by decide) rfl rfl rfl rfl ?_)
        refine ASeq.op rfl rfl (AOp.appendP 7 (e := 9) (tde := TT 9) rfl rfl rfl rfl (tok _ rfl) rfl (tok _ rfl) (tok _ rfl) rfl (by decide) rfl rfl (fun _ => rfl) (strs_rows l _) (by simp only [strs_len, List.length_cons, List.length_nil]; omega) rfl (fun _ => ?_))
        rw [strs_snoc]
        refine ASeq.q rfl rfl (QOp.fieldM rfl rfl (tok _ rfl) rfl rfl (by decide) rfl) ?_
        refine ASeq.op0 rfl rfl (AOp.storeP 6 rfl rfl rfl rfl (tok _ rfl) rfl rfl rfl rfl ?_)
        refine ASeq.nil ?_
        refine AExit.in_normal (AExit.then_normal ?_)
        exact ⟨(k, _, _, _, _, _, _), 8, ⟨ob, le_m3 hqp mb, le_k3 hqm mb, hres', hat, hat2⟩, Nat.lt_succ_self _, .cons rfl (.cons rfl (.cons rfl (.cons rfl .nil))), rfl⟩
    · have hr : q.is w_rp = true := by simpa using hb
      have hend : params (k + 1) q l = (q, l) := by simp only [params]; rw [if_neg (by simp [hr])]
      rw [hend] at hres'
      have hpar : params n (((p.full.want w_func).kindOf 1).1.want w_lp) [] = (q, l) := hres.trans hres'.symm
      have o1 := ok_want hq w_rp
      have m1 := mm_wantle hq w_rp
      refine ACode.exit (ACode.seq (ACode.region ?_))
      refine ASeq.cells (cells' := [vs ((p.full.want w_func).kindOf 1).2, vi 0, vi 0, .il 1 none (strs l), vi 4, .v (.slice none 0 0)]) [_, _, _, _, _, _] [_] rfl (.cons (.refl _) (.cons (.refl _) (.cons (.refl _) (.cons (AV.Le.tok 1 _ _) (.cons (.refl _) (.cons (.refl _) .nil)))))) ?_
      refine ASeq.q rfl rfl (QOp.loadM 3 rfl rfl rfl (tok _ rfl) rfl) ?_
      refine ASeq.op rfl rfl (AOp.callP 3 rfl (by kernel_rfl) rfl rfl rfl (want_ok q hq w_rp _ _ _) ?_ (by rintro _ _ ⟨⟩))
      rintro _ _ ⟨te, ts, tf⟩
      refine ASeq.op0 rfl rfl (AOp.storeP 3 rfl rfl rfl rfl (tok _ rfl) rfl rfl rfl rfl ?_)
      refine ASeq.nil ?_
      refine ACode.seq (ACode.seq (ACode.region ?_))
      refine ASeq.q rfl rfl (QOp.loadM 3 rfl rfl rfl (tok _ rfl) rfl) ?_
      refine ASeq.op rfl rfl (AOp.callP 0 rfl (by kernel_rfl) rfl rfl rfl (is_ok _ o1 w_int _ _ _) ?_ (by rintro _ _ ⟨⟩))
      rintro _ _ ⟨⟩
      refine ASeq.nil ?_
      refine AExit.then_normal ?_
      refine ACode.cond _ rfl (fun hint => ?_) (fun hint => ?_)
      · have m3 := mm_wantle o1 w_int
        refine ACode.seq (ACode.region ?_)
        refine ASeq.q rfl rfl (QOp.loadM 3 rfl rfl rfl (tok _ rfl) rfl) ?_
        refine ASeq.op rfl rfl (AOp.callP 3 rfl (by kernel_rfl) rfl rfl rfl (want_ok _ o1 w_int _ _ _) ?_ (by rintro _ _ ⟨⟩))
        rintro _ _ ⟨te, ts, tf⟩
        refine ASeq.op0 rfl rfl (AOp.storeP 3 rfl rfl rfl rfl (tok _ rfl) rfl rfl rfl rfl ?_)
        refine ASeq.nil ?_
        refine ACode.region ?_
        refine ASeq.q rfl rfl (QOp.fieldM rfl rfl (tok _ rfl) rfl rfl (by decide) rfl) ?_
        refine ASeq.op0 rfl rfl (AOp.storeP 6 rfl rfl rfl rfl (tok _ rfl) rfl rfl rfl rfl ?_)
        refine ASeq.nil ?_
        have m2 := m3
        have hfe : funcEnd n p = block n (((q.want w_rp).want w_int)) 1 := by unfold Ytaadamobapnfbaa.funcEnd; rw [hpar, if_pos hint]
        have o2 : (((q.want w_rp).want w_int)).ok := ok_want o1 w_int
        refine ACode.seq (ACode.region ?_)
        refine ASeq.q rfl rfl (QOp.loadM 3 rfl rfl rfl (tok _ rfl) rfl) ?_
        refine ASeq.op rfl rfl (AOp.callP 3 rfl (by kernel_rfl) rfl rfl rfl ((walks2 n).block (((q.want w_rp).want w_int)) 1 o2 (by decide) (by omega) (by omega) _ _ _) ?_ (by rintro _ _ ⟨⟩))
        rintro _ _ ⟨te, ts, tf⟩
        refine ASeq.q rfl rfl (QOp.move rfl rfl) ?_
        refine ASeq.q rfl rfl (QOp.extract rfl rfl rfl) ?_
        refine ASeq.q rfl rfl (QOp.extract rfl rfl rfl) ?_
        refine ASeq.op rfl rfl (AOp.allocP rfl (tok _ rfl) rfl rfl (fun _ => rfl) (fun _ => ?_))
        refine ASeq.op0 rfl rfl (AOp.storeP 8 rfl rfl rfl rfl (tok _ rfl) rfl rfl rfl rfl ?_)
        refine ASeq.q rfl rfl (QOp.assign rfl rfl) ?_
        refine ASeq.nil ?_
        refine ACode.seq (ACode.seq (ACode.region ?_))
        rw [← hfe]
        have sE := Step.funcEnd n p
        have oE := sE.ok (by decide) (by decide) h
        refine ASeq.q rfl rfl (QOp.fieldM rfl rfl (tok _ rfl) rfl rfl (by decide) rfl) ?_
        refine ASeq.q rfl rfl (QOp.loadM 8 rfl rfl rfl (tok _ rfl) rfl) ?_
        refine ASeq.q rfl rfl (QOp.cmp rfl rfl rfl rfl) ?_
        refine ASeq.nil ?_
        refine AExit.then_normal ?_
        refine ACode.cond _ rfl (fun hb => ?_) (fun hb => ?_)
        · have hcE : (funcEnd n p).1.code ≠ 0 := by simpa using hb
          refine ACode.seq (ACode.region ?_)
          refine ASeq.q rfl rfl (QOp.loadM 8 rfl rfl rfl (tok _ rfl) rfl) ?_
          refine ASeq.op0 rfl rfl (AOp.storeP 4 rfl rfl rfl rfl (tok _ rfl) rfl rfl rfl rfl ?_)
          refine ASeq.nil ?_
          refine ACode.ret (AExit.then_ret ?_)
          refine bodyQ_ret 3 (.cell 4 rfl rfl (tok _ rfl) rfl .nil) rfl ?_
          rw [function_eq, if_pos hcE]
          exact .mk _ _ _
        · have hcE : (funcEnd n p).1.code = 0 := by simpa using hb
          have pos := sE.pos h (.inl (by decide))
          have pos : 1 ≤ (funcEnd n p).1.at_ := pos.resolve_right (fun h => h hcE)
          have hrow := oE.lastAt pos
          have e1 := oE.at1
          have e2 := oE.small
          have e3 := oE.fu
          refine ACode.skip (ACode.seq (ACode.region ?_))
          refine ASeq.q rfl rfl (QOp.move rfl rfl) ?_
          refine ASeq.q rfl rfl (QOp.fieldM rfl rfl (tok _ rfl) rfl rfl (by decide) rfl) ?_
          refine ASeq.op0 rfl rfl (AOp.storeP 6 rfl rfl rfl rfl (tok _ rfl) rfl rfl rfl rfl ?_)
          refine ASeq.nil ?_
          refine ACode.seq (ACode.region ?_)
          refine ASeq.q rfl rfl (QOp.move rfl rfl) ?_
          refine ASeq.q rfl rfl (QOp.fieldM rfl rfl (tok _ rfl) rfl rfl (by decide) rfl) ?_
          refine ASeq.q rfl rfl (QOp.loadM 8 rfl rfl rfl (tok _ rfl) rfl) ?_
          refine ASeq.q rfl rfl (QOp.fieldM rfl rfl (tok _ rfl) rfl rfl (by decide) rfl) ?_
          refine ASeq.q rfl rfl (QOp.loadM 8 rfl rfl rfl (tok _ rfl) rfl) ?_
          refine ASeq.q rfl rfl (QOp.ar64 rfl rfl rfl rfl ⟨by omega, by omega⟩) ?_
          refine ASeq.q rfl rfl (QOp.indexI rfl rfl rfl (tok _ rfl) rfl (tok _ rfl) (by omega) (by assumption)) ?_
          refine ASeq.q rfl rfl (QOp.fieldI rfl rfl (tok _ rfl) rfl rfl (by decide) rfl) ?_
          refine ASeq.q rfl rfl (QOp.fieldI rfl rfl (tok _ rfl) rfl rfl (by decide) rfl) ?_
          refine ASeq.q rfl rfl (QOp.loadI rfl rfl (tok _ rfl) rfl) ?_
          refine ASeq.q rfl rfl (QOp.build rfl (tok _ rfl) rfl rfl rfl rfl rfl) ?_
          refine ASeq.q rfl rfl (QOp.fieldM rfl rfl (tok _ rfl) rfl rfl (by decide) rfl) ?_
          refine ASeq.op0 rfl rfl (AOp.storeP 6 rfl rfl rfl rfl (tok _ rfl) rfl rfl rfl rfl ?_)
          refine ASeq.nil ?_
          refine ACode.seq (ACode.region ?_)
          refine ASeq.q rfl rfl (QOp.fieldM rfl rfl (tok _ rfl) rfl rfl (by decide) rfl) ?_
          refine ASeq.q rfl rfl (QOp.fieldM rfl rfl (tok _ rfl) rfl rfl (by decide) rfl) ?_
          refine ASeq.q rfl rfl (QOp.loadM 8 rfl rfl rfl (tok _ rfl) rfl) ?_
          refine ASeq.q rfl rfl (QOp.loadM 6 rfl rfl rfl (tok _ rfl) rfl) ?_
          refine ASeq.op rfl rfl (AOp.buildSliceR rfl (tok _ rfl) rfl (tok _ rfl) (by decide) rfl (by decide) rfl rfl rfl rfl ?_)
          refine ASeq.op rfl rfl (AOp.appendP 2 (e := 41) (tde := TT 41) rfl rfl rfl rfl (tok _ rfl) rfl (tok _ rfl) (tok _ rfl) rfl (by decide) rfl rfl (fun _ => rfl) (rows_ok 6 _ _ (fun y hy => by obtain ⟨z, _, rfl⟩ := List.mem_map.1 hy; rfl) rfl) (by simp only [List.length_map, List.length_cons, List.length_nil]; omega) rfl (fun _ => ?_))
          refine ASeq.q rfl rfl (QOp.fieldM rfl rfl (tok _ rfl) rfl rfl (by decide) rfl) ?_
          refine ASeq.q rfl rfl (QOp.fieldM rfl rfl (tok _ rfl) rfl rfl (by decide) rfl) ?_
          refine ASeq.op0 rfl rfl (AOp.storeP 8 rfl rfl rfl rfl (tok _ rfl) rfl rfl rfl rfl ?_)
          refine ASeq.nil ?_
          refine ACode.seq (ACode.region ?_)
          refine ASeq.q rfl rfl (QOp.loadM 8 rfl rfl rfl (tok _ rfl) rfl) ?_
          refine ASeq.op0 rfl rfl (AOp.storeP 4 rfl rfl rfl rfl (tok _ rfl) rfl rfl rfl rfl ?_)
          refine ASeq.nil ?_
          refine ACode.ret ?_
          refine bodyQ_ret 3 (.cell 4 rfl rfl (tok _ rfl) rfl .nil) rfl ?_
          rw [function_eq, if_neg (fun h => h hcE)]
          have hfo : funcOf n p = { name := ((p.full.want w_func).kindOf 1).2, fr := p.here, to := (funcEnd n p).1.lastTo, params := l, type := 1, body := (funcEnd n p).2 } := by
            unfold Ytaadamobapnfbaa.funcOf; rw [hpar, if_pos hint]
          rw [hfo]
          refine RP.of ?_ rfl
          simp only [PS.cells, List.map_append, List.map_cons, List.map_nil]
          rfl
      · have hint : ¬ (q.want w_rp).is w_int = true := by rw [hint]; decide
        have m2 := m1
        have hfe : funcEnd n p = block n ((q.want w_rp)) 1 := by unfold Ytaadamobapnfbaa.funcEnd; rw [hpar, if_neg hint]
        have o2 : ((q.want w_rp)).ok := o1
        refine ACode.skip (ACode.seq (ACode.region ?_))
        refine ASeq.q rfl rfl (QOp.loadM 3 rfl rfl rfl (tok _ rfl) rfl) ?_
        refine ASeq.op rfl rfl (AOp.callP 3 rfl (by kernel_rfl) rfl rfl rfl ((walks2 n).block ((q.want w_rp)) 1 o2 (by decide) (by omega) (by omega) _ _ _) ?_ (by rintro _ _ ⟨⟩))
        rintro _ _ ⟨te, ts, tf⟩
        refine ASeq.q rfl rfl (QOp.move rfl rfl) ?_
        refine ASeq.q rfl rfl (QOp.extract rfl rfl rfl) ?_
        refine ASeq.q rfl rfl (QOp.extract rfl rfl rfl) ?_
        refine ASeq.op rfl rfl (AOp.allocP rfl (tok _ rfl) rfl rfl (fun _ => rfl) (fun _ => ?_))
        refine ASeq.op0 rfl rfl (AOp.storeP 8 rfl rfl rfl rfl (tok _ rfl) rfl rfl rfl rfl ?_)
        refine ASeq.q rfl rfl (QOp.assign rfl rfl) ?_
        refine ASeq.nil ?_
        refine ACode.seq (ACode.seq (ACode.region ?_))
        rw [← hfe]
        have sE := Step.funcEnd n p
        have oE := sE.ok (by decide) (by decide) h
        refine ASeq.q rfl rfl (QOp.fieldM rfl rfl (tok _ rfl) rfl rfl (by decide) rfl) ?_
        refine ASeq.q rfl rfl (QOp.loadM 8 rfl rfl rfl (tok _ rfl) rfl) ?_
        refine ASeq.q rfl rfl (QOp.cmp rfl rfl rfl rfl) ?_
        refine ASeq.nil ?_
        refine AExit.then_normal ?_
        refine ACode.cond _ rfl (fun hb => ?_) (fun hb => ?_)
        · have hcE : (funcEnd n p).1.code ≠ 0 := by simpa using hb
          refine ACode.seq (ACode.region ?_)
          refine ASeq.q rfl rfl (QOp.loadM 8 rfl rfl rfl (tok _ rfl) rfl) ?_
          refine ASeq.op0 rfl rfl (AOp.storeP 4 rfl rfl rfl rfl (tok _ rfl) rfl rfl rfl rfl ?_)
          refine ASeq.nil ?_
          refine ACode.ret (AExit.then_ret ?_)
          refine bodyQ_ret 3 (.cell 4 rfl rfl (tok _ rfl) rfl .nil) rfl ?_
          rw [function_eq, if_pos hcE]
          exact .mk _ _ _
        · have hcE : (funcEnd n p).1.code = 0 := by simpa using hb
          have pos := sE.pos h (.inl (by decide))
          have pos : 1 ≤ (funcEnd n p).1.at_ := pos.resolve_right (fun h => h hcE)
          have hrow := oE.lastAt pos
          have e1 := oE.at1
          have e2 := oE.small
          have e3 := oE.fu
          refine ACode.skip (ACode.seq (ACode.region ?_))
          refine ASeq.q rfl rfl (QOp.move rfl rfl) ?_
          refine ASeq.q rfl rfl (QOp.fieldM rfl rfl (tok _ rfl) rfl rfl (by decide) rfl) ?_
          refine ASeq.op0 rfl rfl (AOp.storeP 6 rfl rfl rfl rfl (tok _ rfl) rfl rfl rfl rfl ?_)
          refine ASeq.nil ?_
          refine ACode.seq (ACode.region ?_)
          refine ASeq.q rfl rfl (QOp.move rfl rfl) ?_
          refine ASeq.q rfl rfl (QOp.fieldM rfl rfl (tok _ rfl) rfl rfl (by decide) rfl) ?_
          refine ASeq.q rfl rfl (QOp.loadM 8 rfl rfl rfl (tok _ rfl) rfl) ?_
          refine ASeq.q rfl rfl (QOp.fieldM rfl rfl (tok _ rfl) rfl rfl (by decide) rfl) ?_
          refine ASeq.q rfl rfl (QOp.loadM 8 rfl rfl rfl (tok _ rfl) rfl) ?_
          refine ASeq.q rfl rfl (QOp.ar64 rfl rfl rfl rfl ⟨by omega, by omega⟩) ?_
          refine ASeq.q rfl rfl (QOp.indexI rfl rfl rfl (tok _ rfl) rfl (tok _ rfl) (by omega) (by assumption)) ?_
          refine ASeq.q rfl rfl (QOp.fieldI rfl rfl (tok _ rfl) rfl rfl (by decide) rfl) ?_
          refine ASeq.q rfl rfl (QOp.fieldI rfl rfl (tok _ rfl) rfl rfl (by decide) rfl) ?_
          refine ASeq.q rfl rfl (QOp.loadI rfl rfl (tok _ rfl) rfl) ?_
          refine ASeq.q rfl rfl (QOp.build rfl (tok _ rfl) rfl rfl rfl rfl rfl) ?_
          refine ASeq.q rfl rfl (QOp.fieldM rfl rfl (tok _ rfl) rfl rfl (by decide) rfl) ?_
          refine ASeq.op0 rfl rfl (AOp.storeP 6 rfl rfl rfl rfl (tok _ rfl) rfl rfl rfl rfl ?_)
          refine ASeq.nil ?_
          refine ACode.seq (ACode.region ?_)
          refine ASeq.q rfl rfl (QOp.fieldM rfl rfl (tok _ rfl) rfl rfl (by decide) rfl) ?_
          refine ASeq.q rfl rfl (QOp.fieldM rfl rfl (tok _ rfl) rfl rfl (by decide) rfl) ?_
          refine ASeq.q rfl rfl (QOp.loadM 8 rfl rfl rfl (tok _ rfl) rfl) ?_
          refine ASeq.q rfl rfl (QOp.loadM 6 rfl rfl rfl (tok _ rfl) rfl) ?_
          refine ASeq.op rfl rfl (AOp.buildSliceR rfl (tok _ rfl) rfl (tok _ rfl) (by decide) rfl (by decide) rfl rfl rfl rfl ?_)
          refine ASeq.op rfl rfl (AOp.appendP 2 (e := 41) (tde := TT 41) rfl rfl rfl rfl (tok _ rfl) rfl (tok _ rfl) (tok _ rfl) rfl (by decide) rfl rfl (fun _ => rfl) (rows_ok 6 _ _ (fun y hy => by obtain ⟨z, _, rfl⟩ := List.mem_map.1 hy; rfl) rfl) (by simp only [List.length_map, List.length_cons, List.length_nil]; omega) rfl (fun _ => ?_))
          refine ASeq.q rfl rfl (QOp.fieldM rfl rfl (tok _ rfl) rfl rfl (by decide) rfl) ?_
          refine ASeq.q rfl rfl (QOp.fieldM rfl rfl (tok _ rfl) rfl rfl (by decide) rfl) ?_
          refine ASeq.op0 rfl rfl (AOp.storeP 8 rfl rfl rfl rfl (tok _ rfl) rfl rfl rfl rfl ?_)
          refine ASeq.nil ?_
          refine ACode.seq (ACode.region ?_)
          refine ASeq.q rfl rfl (QOp.loadM 8 rfl rfl rfl (tok _ rfl) rfl) ?_
          refine ASeq.op0 rfl rfl (AOp.storeP 4 rfl rfl rfl rfl (tok _ rfl) rfl rfl rfl rfl ?_)
          refine ASeq.nil ?_
          refine ACode.ret ?_
          refine bodyQ_ret 3 (.cell 4 rfl rfl (tok _ rfl) rfl .nil) rfl ?_
          rw [function_eq, if_neg (fun h => h hcE)]
          have hfo : funcOf n p = { name := ((p.full.want w_func).kindOf 1).2, fr := p.here, to := (funcEnd n p).1.lastTo, params := l, type := 4, body := (funcEnd n p).2 } := by
            unfold Ytaadamobapnfbaa.funcOf; rw [hpar, if_neg hint]
          rw [hfo]
          refine RP.of ?_ rfl
          simp only [PS.cells, List.map_append, List.map_cons, List.map_nil]
          rfl
  · have hc : q.code ≠ 0 := by simpa using hb
    refine ASeq.gno _ _ rfl rfl rfl rfl rfl ?_
    refine ASeq.gno _ _ rfl rfl rfl rfl rfl ?_
    refine ASeq.gno _ _ rfl rfl rfl rfl rfl ?_
    refine ASeq.q rfl rfl (QOp.pickF rfl rfl rfl) ?_
    refine ASeq.nil ?_
    refine AExit.then_normal ?_
    refine ACode.cond _ rfl (fun hb => by cases hb) (fun hb => ?_)
    have hend : params (k + 1) q l = (q, l) := by simp only [params]; rw [if_neg (by simp [hc])]
    rw [hend] at hres'
    have hpar : params n (((p.full.want w_func).kindOf 1).1.want w_lp) [] = (q, l) := hres.trans hres'.symm
    have o1 := ok_want hq w_rp
    have m1 := mm_wantle hq w_rp
    refine ACode.exit (ACode.seq (ACode.region ?_))
    refine ASeq.cells (cells' := [vs ((p.full.want w_func).kindOf 1).2, vi 0, vi 0, .il 1 none (strs l), vi 4, .v (.slice none 0 0)]) [_, _, _, _, _, _] [_] rfl (.cons (.refl _) (.cons (.refl _) (.cons (.refl _) (.cons (AV.Le.tok 1 _ _) (.cons (.refl _) (.cons (.refl _) .nil)))))) ?_
    refine ASeq.q rfl rfl (QOp.loadM 3 rfl rfl rfl (tok _ rfl) rfl) ?_
    refine ASeq.op rfl rfl (AOp.callP 3 rfl (by kernel_rfl) rfl rfl rfl (want_ok q hq w_rp _ _ _) ?_ (by rintro _ _ ⟨⟩))
    rintro _ _ ⟨te, ts, tf⟩
    refine ASeq.op0 rfl rfl (AOp.storeP 3 rfl rfl rfl rfl (tok _ rfl) rfl rfl rfl rfl ?_)
    refine ASeq.nil ?_
    refine ACode.seq (ACode.seq (ACode.region ?_))
    refine ASeq.q rfl rfl (QOp.loadM 3 rfl rfl rfl (tok _ rfl) rfl) ?_
    refine ASeq.op rfl rfl (AOp.callP 0 rfl (by kernel_rfl) rfl rfl rfl (is_ok _ o1 w_int _ _ _) ?_ (by rintro _ _ ⟨⟩))
    rintro _ _ ⟨⟩
    refine ASeq.nil ?_
    refine AExit.then_normal ?_
    refine ACode.cond _ rfl (fun hint => ?_) (fun hint => ?_)
    · have m3 := mm_wantle o1 w_int
      refine ACode.seq (ACode.region ?_)
      refine ASeq.q rfl rfl (QOp.loadM 3 rfl rfl rfl (tok _ rfl) rfl) ?_
      refine ASeq.op rfl rfl (AOp.callP 3 rfl (by kernel_rfl) rfl rfl rfl (want_ok _ o1 w_int _ _ _) ?_ (by rintro _ _ ⟨⟩))
      rintro _ _ ⟨te, ts, tf⟩
      refine ASeq.op0 rfl rfl (AOp.storeP 3 rfl rfl rfl rfl (tok _ rfl) rfl rfl rfl rfl ?_)
      refine ASeq.nil ?_
      refine ACode.region ?_
      refine ASeq.q rfl rfl (QOp.fieldM rfl rfl (tok _ rfl) rfl rfl (by decide) rfl) ?_
      refine ASeq.op0 rfl rfl (AOp.storeP 6 rfl rfl rfl rfl (tok _ rfl) rfl rfl rfl rfl ?_)
      refine ASeq.nil ?_
      have m2 := m3
      have hfe : funcEnd n p = block n (((q.want w_rp).want w_int)) 1 := by unfold Ytaadamobapnfbaa.funcEnd; rw [hpar, if_pos hint]
      have o2 : (((q.want w_rp).want w_int)).ok := ok_want o1 w_int
      refine ACode.seq (ACode.region ?_)
      refine ASeq.q rfl rfl (QOp.loadM 3 rfl rfl rfl (tok _ rfl) rfl) ?_
      refine ASeq.op rfl rfl (AOp.callP 3 rfl (by kernel_rfl) rfl rfl rfl ((walks2 n).block (((q.want w_rp).want w_int)) 1 o2 (by decide) (by omega) (by omega) _ _ _) ?_ (by rintro _ _ ⟨⟩))
      rintro _ _ ⟨te, ts, tf⟩
      refine ASeq.q rfl rfl (QOp.move rfl rfl) ?_
      refine ASeq.q rfl rfl (QOp.extract rfl rfl rfl) ?_
      refine ASeq.q rfl rfl (QOp.extract rfl rfl rfl) ?_
      refine ASeq.op rfl rfl (AOp.allocP rfl (tok _ rfl) rfl rfl (fun _ => rfl) (fun _ => ?_))
      refine ASeq.op0 rfl rfl (AOp.storeP 8 rfl rfl rfl rfl (tok _ rfl) rfl rfl rfl rfl ?_)
      refine ASeq.q rfl rfl (QOp.assign rfl rfl) ?_
      refine ASeq.nil ?_
      refine ACode.seq (ACode.seq (ACode.region ?_))
      rw [← hfe]
      have sE := Step.funcEnd n p
      have oE := sE.ok (by decide) (by decide) h
      refine ASeq.q rfl rfl (QOp.fieldM rfl rfl (tok _ rfl) rfl rfl (by decide) rfl) ?_
      refine ASeq.q rfl rfl (QOp.loadM 8 rfl rfl rfl (tok _ rfl) rfl) ?_
      refine ASeq.q rfl rfl (QOp.cmp rfl rfl rfl rfl) ?_
      refine ASeq.nil ?_
      refine AExit.then_normal ?_
      refine ACode.cond _ rfl (fun hb => ?_) (fun hb => ?_)
      · have hcE : (funcEnd n p).1.code ≠ 0 := by simpa using hb
        refine ACode.seq (ACode.region ?_)
        refine ASeq.q rfl rfl (QOp.loadM 8 rfl rfl rfl (tok _ rfl) rfl) ?_
        refine ASeq.op0 rfl rfl (AOp.storeP 4 rfl rfl rfl rfl (tok _ rfl) rfl rfl rfl rfl ?_)
        refine ASeq.nil ?_
        refine ACode.ret (AExit.then_ret ?_)
        refine bodyQ_ret 3 (.cell 4 rfl rfl (tok _ rfl) rfl .nil) rfl ?_
        rw [function_eq, if_pos hcE]
        exact .mk _ _ _
      · have hcE : (funcEnd n p).1.code = 0 := by simpa using hb
        have pos := sE.pos h (.inl (by decide))
        have pos : 1 ≤ (funcEnd n p).1.at_ := pos.resolve_right (fun h => h hcE)
        have hrow := oE.lastAt pos
        have e1 := oE.at1
        have e2 := oE.small
        have e3 := oE.fu
        refine ACode.skip (ACode.seq (ACode.region ?_))
        refine ASeq.q rfl rfl (QOp.move rfl rfl) ?_
        refine ASeq.q rfl rfl (QOp.fieldM rfl rfl (tok _ rfl) rfl rfl (by decide) rfl) ?_
        refine ASeq.op0 rfl rfl (AOp.storeP 6 rfl rfl rfl rfl (tok _ rfl) rfl rfl rfl rfl ?_)
        refine ASeq.nil ?_
        refine ACode.seq (ACode.region ?_)
        refine ASeq.q rfl rfl (QOp.move rfl rfl) ?_
        refine ASeq.q rfl rfl (QOp.fieldM rfl rfl (tok _ rfl) rfl rfl (by decide) rfl) ?_
        refine ASeq.q rfl rfl (QOp.loadM 8 rfl rfl rfl (tok _ rfl) rfl) ?_
        refine ASeq.q rfl rfl (QOp.fieldM rfl rfl (tok _ rfl) rfl rfl (by decide) rfl) ?_
        refine ASeq.q rfl rfl (QOp.loadM 8 rfl rfl rfl (tok _ rfl) rfl) ?_
        refine ASeq.q rfl rfl (QOp.ar64 rfl rfl rfl rfl ⟨by omega, by omega⟩) ?_
        refine ASeq.q rfl rfl (QOp.indexI rfl rfl rfl (tok _ rfl) rfl (tok _ rfl) (by omega) (by assumption)) ?_
        refine ASeq.q rfl rfl (QOp.fieldI rfl rfl (tok _ rfl) rfl rfl (by decide) rfl) ?_
        refine ASeq.q rfl rfl (QOp.fieldI rfl rfl (tok _ rfl) rfl rfl (by decide) rfl) ?_
        refine ASeq.q rfl rfl (QOp.loadI rfl rfl (tok _ rfl) rfl) ?_
        refine ASeq.q rfl rfl (QOp.build rfl (tok _ rfl) rfl rfl rfl rfl rfl) ?_
        refine ASeq.q rfl rfl (QOp.fieldM rfl rfl (tok _ rfl) rfl rfl (by decide) rfl) ?_
        refine ASeq.op0 rfl rfl (AOp.storeP 6 rfl rfl rfl rfl (tok _ rfl) rfl rfl rfl rfl ?_)
        refine ASeq.nil ?_
        refine ACode.seq (ACode.region ?_)
        refine ASeq.q rfl rfl (QOp.fieldM rfl rfl (tok _ rfl) rfl rfl (by decide) rfl) ?_
        refine ASeq.q rfl rfl (QOp.fieldM rfl rfl (tok _ rfl) rfl rfl (by decide) rfl) ?_
        refine ASeq.q rfl rfl (QOp.loadM 8 rfl rfl rfl (tok _ rfl) rfl) ?_
        refine ASeq.q rfl rfl (QOp.loadM 6 rfl rfl rfl (tok _ rfl) rfl) ?_
        refine ASeq.op rfl rfl (AOp.buildSliceR rfl (tok _ rfl) rfl (tok _ rfl) (by decide) rfl (by decide) rfl rfl rfl rfl ?_)
        refine ASeq.op rfl rfl (AOp.appendP 2 (e := 41) (tde := TT 41) rfl rfl rfl rfl (tok _ rfl) rfl (tok _ rfl) (tok _ rfl) rfl (by decide) rfl rfl (fun _ => rfl) (rows_ok 6 _ _ (fun y hy => by obtain ⟨z, _, rfl⟩ := List.mem_map.1 hy; rfl) rfl) (by simp only [List.length_map, List.length_cons, List.length_nil]; omega) rfl (fun _ => ?_))
        refine ASeq.q rfl rfl (QOp.fieldM rfl rfl (tok _ rfl) rfl rfl (by decide) rfl) ?_
        refine ASeq.q rfl rfl (QOp.fieldM rfl rfl (tok _ rfl) rfl rfl (by decide) rfl) ?_
        refine ASeq.op0 rfl rfl (AOp.storeP 8 rfl rfl rfl rfl (tok _ rfl) rfl rfl rfl rfl ?_)
        refine ASeq.nil ?_
        refine ACode.seq (ACode.region ?_)
        refine ASeq.q rfl rfl (QOp.loadM 8 rfl rfl rfl (tok _ rfl) rfl) ?_
        refine ASeq.op0 rfl rfl (AOp.storeP 4 rfl rfl rfl rfl (tok _ rfl) rfl rfl rfl rfl ?_)
        refine ASeq.nil ?_
        refine ACode.ret ?_
        refine bodyQ_ret 3 (.cell 4 rfl rfl (tok _ rfl) rfl .nil) rfl ?_
        rw [function_eq, if_neg (fun h => h hcE)]
        have hfo : funcOf n p = { name := ((p.full.want w_func).kindOf 1).2, fr := p.here, to := (funcEnd n p).1.lastTo, params := l, type := 1, body := (funcEnd n p).2 } := by
          unfold Ytaadamobapnfbaa.funcOf; rw [hpar, if_pos hint]
        rw [hfo]
        refine RP.of ?_ rfl
        simp only [PS.cells, List.map_append, List.map_cons, List.map_nil]
        rfl
    · have hint : ¬ (q.want w_rp).is w_int = true := by rw [hint]; decide
      have m2 := m1
      have hfe : funcEnd n p = block n ((q.want w_rp)) 1 := by unfold Ytaadamobapnfbaa.funcEnd; rw [hpar, if_neg hint]
      have o2 : ((q.want w_rp)).ok := o1
      refine ACode.skip (ACode.seq (ACode.region ?_))
      refine ASeq.q rfl rfl (QOp.loadM 3 rfl rfl rfl (tok _ rfl) rfl) ?_
      refine ASeq.op rfl rfl (AOp.callP 3 rfl (by kernel_rfl) rfl rfl rfl ((walks2 n).block ((q.want w_rp)) 1 o2 (by decide) (by omega) (by omega) _ _ _) ?_ (by rintro _ _ ⟨⟩))
      rintro _ _ ⟨te, ts, tf⟩
      refine ASeq.q rfl rfl (QOp.move rfl rfl) ?_
      refine ASeq.q rfl rfl (QOp.extract rfl rfl rfl) ?_
      refine ASeq.q rfl rfl (QOp.extract rfl rfl rfl) ?_
      refine ASeq.op rfl rfl (AOp.allocP rfl (tok _ rfl) rfl rfl (fun _ => rfl) (fun _ => ?_))
      refine ASeq.op0 rfl rfl (AOp.storeP 8 rfl rfl rfl rfl (tok _ rfl) rfl rfl rfl rfl ?_)
      refine ASeq.q rfl rfl (QOp.assign rfl rfl) ?_
      refine ASeq.nil ?_
      refine ACode.seq (ACode.seq (ACode.region ?_))
      rw [← hfe]
      have sE := Step.funcEnd n p
      have oE := sE.ok (by decide) (by decide) h
      refine ASeq.q rfl rfl (QOp.fieldM rfl rfl (tok _ rfl) rfl rfl (by decide) rfl) ?_
      refine ASeq.q rfl rfl (QOp.loadM 8 rfl rfl rfl (tok _ rfl) rfl) ?_
      refine ASeq.q rfl rfl (QOp.cmp rfl rfl rfl rfl) ?_
      refine ASeq.nil ?_
      refine AExit.then_normal ?_
      refine ACode.cond _ rfl (fun hb => ?_) (fun hb => ?_)
      · have hcE : (funcEnd n p).1.code ≠ 0 := by simpa using hb
        refine ACode.seq (ACode.region ?_)
        refine ASeq.q rfl rfl (QOp.loadM 8 rfl rfl rfl (tok _ rfl) rfl) ?_
        refine ASeq.op0 rfl rfl (AOp.storeP 4 rfl rfl rfl rfl (tok _ rfl) rfl rfl rfl rfl ?_)
        refine ASeq.nil ?_
        refine ACode.ret (AExit.then_ret ?_)
        refine bodyQ_ret 3 (.cell 4 rfl rfl (tok _ rfl) rfl .nil) rfl ?_
        rw [function_eq, if_pos hcE]
        exact .mk _ _ _
      · have hcE : (funcEnd n p).1.code = 0 := by simpa using hb
        have pos := sE.pos h (.inl (by decide))
        have pos : 1 ≤ (funcEnd n p).1.at_ := pos.resolve_right (fun h => h hcE)
        have hrow := oE.lastAt pos
        have e1 := oE.at1
        have e2 := oE.small
        have e3 := oE.fu
        refine ACode.skip (ACode.seq (ACode.region ?_))
        refine ASeq.q rfl rfl (QOp.move rfl rfl) ?_
        refine ASeq.q rfl rfl (QOp.fieldM rfl rfl (tok _ rfl) rfl rfl (by decide) rfl) ?_
        refine ASeq.op0 rfl rfl (AOp.storeP 6 rfl rfl rfl rfl (tok _ rfl) rfl rfl rfl rfl ?_)
        refine ASeq.nil ?_
        refine ACode.seq (ACode.region ?_)
        refine ASeq.q rfl rfl (QOp.move rfl rfl) ?_
        refine ASeq.q rfl rfl (QOp.fieldM rfl rfl (tok _ rfl) rfl rfl (by decide) rfl) ?_
        refine ASeq.q rfl rfl (QOp.loadM 8 rfl rfl rfl (tok _ rfl) rfl) ?_
        refine ASeq.q rfl rfl (QOp.fieldM rfl rfl (tok _ rfl) rfl rfl (by decide) rfl) ?_
        refine ASeq.q rfl rfl (QOp.loadM 8 rfl rfl rfl (tok _ rfl) rfl) ?_
        refine ASeq.q rfl rfl (QOp.ar64 rfl rfl rfl rfl ⟨by omega, by omega⟩) ?_
        refine ASeq.q rfl rfl (QOp.indexI rfl rfl rfl (tok _ rfl) rfl (tok _ rfl) (by omega) (by assumption)) ?_
        refine ASeq.q rfl rfl (QOp.fieldI rfl rfl (tok _ rfl) rfl rfl (by decide) rfl) ?_
        refine ASeq.q rfl rfl (QOp.fieldI rfl rfl (tok _ rfl) rfl rfl (by decide) rfl) ?_
        refine ASeq.q rfl rfl (QOp.loadI rfl rfl (tok _ rfl) rfl) ?_
        refine ASeq.q rfl rfl (QOp.build rfl (tok _ rfl) rfl rfl rfl rfl rfl) ?_
        refine ASeq.q rfl rfl (QOp.fieldM rfl rfl (tok _ rfl) rfl rfl (by decide) rfl) ?_
        refine ASeq.op0 rfl rfl (AOp.storeP 6 rfl rfl rfl rfl (tok _ rfl) rfl rfl rfl rfl ?_)
        refine ASeq.nil ?_
        refine ACode.seq (ACode.region ?_)
        refine ASeq.q rfl rfl (QOp.fieldM rfl rfl (tok _ rfl) rfl rfl (by decide) rfl) ?_
        refine ASeq.q rfl rfl (QOp.fieldM rfl rfl (tok _ rfl) rfl rfl (by decide) rfl) ?_
        refine ASeq.q rfl rfl (QOp.loadM 8 rfl rfl rfl (tok _ rfl) rfl) ?_
        refine ASeq.q rfl rfl (QOp.loadM 6 rfl rfl rfl (tok _ rfl) rfl) ?_
        refine ASeq.op rfl rfl (AOp.buildSliceR rfl (tok _ rfl) rfl (tok _ rfl) (by decide) rfl (by decide) rfl rfl rfl rfl ?_)
        refine ASeq.op rfl rfl (AOp.appendP 2 (e := 41) (tde := TT 41) rfl rfl rfl rfl (tok _ rfl) rfl (tok _ rfl) (tok _ rfl) rfl (by decide) rfl rfl (fun _ => rfl) (rows_ok 6 _ _ (fun y hy => by obtain ⟨z, _, rfl⟩ := List.mem_map.1 hy; rfl) rfl) (by simp only [List.length_map, List.length_cons, List.length_nil]; omega) rfl (fun _ => ?_))
        refine ASeq.q rfl rfl (QOp.fieldM rfl rfl (tok _ rfl) rfl rfl (by decide) rfl) ?_
        refine ASeq.q rfl rfl (QOp.fieldM rfl rfl (tok _ rfl) rfl rfl (by decide) rfl) ?_
        refine ASeq.op0 rfl rfl (AOp.storeP 8 rfl rfl rfl rfl (tok _ rfl) rfl rfl rfl rfl ?_)
        refine ASeq.nil ?_
        refine ACode.seq (ACode.region ?_)
        refine ASeq.q rfl rfl (QOp.loadM 8 rfl rfl rfl (tok _ rfl) rfl) ?_
        refine ASeq.op0 rfl rfl (AOp.storeP 4 rfl rfl rfl rfl (tok _ rfl) rfl rfl rfl rfl ?_)
        refine ASeq.nil ?_
        refine ACode.ret ?_
        refine bodyQ_ret 3 (.cell 4 rfl rfl (tok _ rfl) rfl .nil) rfl ?_
        rw [function_eq, if_neg (fun h => h hcE)]
        have hfo : funcOf n p = { name := ((p.full.want w_func).kindOf 1).2, fr := p.here, to := (funcEnd n p).1.lastTo, params := l, type := 4, body := (funcEnd n p).2 } := by
          unfold Ytaadamobapnfbaa.funcOf; rw [hpar, if_neg hint]
        rw [hfo]
        refine RP.of ?_ rfl
        simp only [PS.cells, List.map_append, List.map_cons, List.map_nil]
        rfl
end Go.Proofs.Ytaadamobapnfbaa
set_option linter.unusedVariables false
set_option linter.unusedSimpArgs false
set_option maxRecDepth 100000
namespace Go.Proofs.Ytaadamobapnfbaa
open Go Go.Abs
structure Tree where
  exprs : List Ex := []
  stmts : List St := []
  funcs : List Fu := []
  deriving Inhabited
def Tree.cells (t : Tree) : List AV := [.il 9 none (t.exprs.map Ex.cells), .il 9 none (t.stmts.map St.cells), .il 6 none (t.funcs.map Fu.cells)]
def startP (s : ByteArray) : PS := { text := s, toks := (tokens s).1 }
def fuelP (s : ByteArray) : Nat := 20 * (tokens s).1.length + 14
def parsed (s : ByteArray) : PS := parseLoop (fuelP s) ((tokens s).1.length + 2) (startP s)
def parse (s : ByteArray) : Tree × Int × Int :=
  if (tokens s).2.2 ≠ 0 then ({}, (tokens s).2.1, (tokens s).2.2)
  else if (parsed s).code ≠ 0 then ({}, (parsed s).where_, (parsed s).code)
  else ({ exprs := (parsed s).exprs, stmts := (parsed s).stmts, funcs := (parsed s).funcs }, 0, 0)
theorem nilTree_le : AV.Le (.agg [.v (.slice none 0 0), .v (.slice none 0 0), .v (.slice none 0 0)]) (.agg (Tree.cells {})) :=
  LeL.agg (.cons (.nilT 9 none) (.cons (.nilT 9 none) (.cons (.nilT 6 none) .nil)))
set_option maxHeartbeats 1000000 in
theorem parse_ok (s : ByteArray) (hs : s.size ≤ 1000000) : ACalls Try.prog 23 [vs s] [] (RV (.tup [.agg (parse s).1.cells, vi (parse s).2.1, vi (parse s).2.2]) []) := by
  refine ACalls.retellR ?_
  refine ACalls.of_code (c := _) Try.func23 rfl Try.ntmps23 (Nat.le_of_ble_eq_true rfl) ?_
  refine ACode.newTok (fun te => ?_)
  refine ACode.newTok (fun ts => ?_)
  refine ACode.newTok (fun tf => ?_)
  refine ACode.seq (ACode.region ?_)
  refine ASeq.op rfl rfl (AOp.allocP rfl (tok _ rfl) rfl rfl (fun _ => rfl) (fun _ => ?_))
  refine ASeq.q rfl rfl (QOp.assign rfl rfl) ?_
  refine ASeq.q rfl rfl (QOp.assign rfl rfl) ?_
  refine ASeq.nil ?_
  rename_i m2
  refine ACode.seq (ACode.region ?_)
  refine ASeq.q rfl rfl (QOp.move rfl rfl) ?_
  refine ASeq.op rfl rfl (AOp.callP 0 rfl (by kernel_rfl) rfl rfl rfl (all_ok s hs) ?_ (by rintro _ _ ⟨⟩))
  rintro _ _ ⟨⟩
  refine ASeq.q rfl rfl (QOp.move rfl rfl) ?_
  refine ASeq.q rfl rfl (QOp.extract rfl rfl rfl) ?_
  refine ASeq.q rfl rfl (QOp.extract rfl rfl rfl) ?_
  refine ASeq.q rfl rfl (QOp.extract rfl rfl rfl) ?_
  refine ASeq.q rfl rfl (QOp.assign rfl rfl) ?_
  refine ASeq.q rfl rfl (QOp.assign rfl rfl) ?_
  refine ASeq.q rfl rfl (QOp.assign rfl rfl) ?_
  refine ASeq.nil ?_
  refine ACode.seq (ACode.seq (ACode.region ?_))
  refine ASeq.q rfl rfl (QOp.move rfl rfl) ?_
  refine ASeq.q rfl rfl (QOp.cmp rfl rfl rfl rfl) ?_
  refine ASeq.nil ?_
  refine AExit.then_normal ?_
  refine ACode.cond _ rfl (fun hb => ?_) (fun hb => ?_)
  · have hc : (tokens s).2.2 ≠ 0 := by simpa using hb
    refine ACode.seq (ACode.region ?_)
    refine ASeq.q rfl rfl (QOp.build rfl (tok _ rfl) rfl rfl rfl rfl rfl) ?_
    refine ASeq.q rfl rfl (QOp.move rfl rfl) ?_
    refine ASeq.q rfl rfl (QOp.move rfl rfl) ?_
    refine ASeq.op0 rfl rfl (AOp.storeP 3 rfl rfl rfl rfl (tok _ rfl) rfl rfl rfl rfl ?_)
    refine ASeq.q rfl rfl (QOp.assign rfl rfl) ?_
    refine ASeq.q rfl rfl (QOp.assign rfl rfl) ?_
    refine ASeq.nil ?_
    refine ACode.ret (AExit.then_ret ?_)
    refine bodyQ_ret 0 (.cell 3 rfl rfl (tok _ rfl) rfl (.tmp rfl (.tmp rfl .nil))) rfl ?_
    rw [show parse s = ({}, (tokens s).2.1, (tokens s).2.2) by unfold parse; rw [if_pos hc]]
    exact ⟨_, LeL.tup (.cons nilTree_le (.cons (.refl _) (.cons (.refl _) .nil))), .mk⟩
  have hc : (tokens s).2.2 = 0 := by simpa using hb
  have hp0 : (startP s).ok := PS.start_ok hs hc
  refine ACode.skip (ACode.seq (ACode.region ?_))
  refine ASeq.q rfl rfl (QOp.move rfl rfl) ?_
  refine ASeq.q rfl rfl (QOp.move rfl rfl) ?_
  refine ASeq.q rfl rfl (QOp.build rfl (tok _ rfl) rfl rfl rfl rfl rfl) ?_
  refine ASeq.op rfl rfl (AOp.allocP rfl (tok _ rfl) rfl rfl (fun _ => rfl) (fun _ => ?_))
  refine ASeq.op0 rfl rfl (AOp.storeP 4 rfl rfl rfl rfl (tok _ rfl) rfl rfl rfl rfl ?_)
  refine ASeq.nil ?_
  rename_i m8
  refine ACode.seq (ACode.block ?_)
  refine ACode.cells (cells' := (startP s).cells te ts tf) [_, _, _, _] [] rfl (.cons (.refl _) (.cons (.refl _) (.cons (.refl _) (.cons (.nilT 9 _) (.cons (.nilT 9 _) (.cons (.nilT 6 _) (.cons (.refl _) (.cons (.refl _) .nil)))))))) ?_
  refine ACode.loopP (fun (x : Nat × PS × Nat × Nat × Nat) => [(2, .mp m2 0), (8, .mp m8 0)])
    (fun (x : Nat × PS × Nat × Nat × Nat) => [.tk x.2.2.1, .tk x.2.2.2.1, .tk x.2.2.2.2, .mu m2 (List.map AV.v (TT 27).zero), .mu m8 (x.2.1.cells x.2.2.1 x.2.2.2.1 x.2.2.2.2)]) (fun x => x.1)
    (fun x => x.2.1.ok ∧ x.2.1.toks = (tokens s).1 ∧ 1 ≤ x.1 ∧ (x.2.1.code = 0 → (x.2.1.toks.length : Int) - x.2.1.at_ + 1 ≤ x.1) ∧ parseLoop (fuelP s) x.1 x.2.1 = parsed s)
    ((tokens s).1.length + 2, startP s, te, ts, tf) ⟨hp0, rfl, by dsimp only; omega, fun _ => by simp only [startP]; omega, rfl⟩ (.cons rfl (.cons rfl .nil)) 5 rfl ?_
  rintro ⟨k, q, te, ts, tf⟩ ⟨hq, hqt, hk1, hk, hres⟩
  dsimp only at hq hqt hk1 hk hres
  obtain ⟨k, rfl⟩ : ∃ k', k = k' + 1 := ⟨k - 1, by omega⟩
  have hrow := hq.tokAt
  have q0 := hq.at0
  have q1 := hq.at1
  have hfl : (List.map Fu.cells q.funcs).length = q.funcs.length := List.length_map ..
  refine ACode.seq (ACode.seq (ACode.region ?_))
  refine ASeq.cut 20 [(2, .mp m2 0), (8, .mp m8 0), (42, .v (.bool (q.code == 0 && (((q.funcs.map Fu.cells).length : Int) == 0 || q.tok.kind != 0))))] (fun rest => ?_) ?_
  · refine ASeq.q rfl rfl (QOp.fieldM rfl rfl (tok _ rfl) rfl rfl (by decide) rfl) ?_
    refine ASeq.q rfl rfl (QOp.loadM 4 rfl rfl rfl (tok _ rfl) rfl) ?_
    refine ASeq.q rfl rfl (QOp.cmp rfl rfl rfl rfl) ?_
    refine ASeq.q rfl rfl (QOp.move rfl rfl) ?_
    refine ASeq.split 26 (q.code == 0) rfl (fun hb => ?_) (fun hb => ?_)
    · refine ASeq.gq _ _ rfl rfl rfl rfl (QOp.fieldM rfl rfl (tok _ rfl) rfl rfl (by decide) rfl) ?_
      refine ASeq.gq _ _ rfl rfl rfl rfl (QOp.fieldM rfl rfl (tok _ rfl) rfl rfl (by decide) rfl) ?_
      refine ASeq.gq _ _ rfl rfl rfl rfl (QOp.loadM 4 rfl rfl rfl (tok _ rfl) rfl) ?_
      refine ASeq.gq _ _ rfl rfl rfl rfl (QOp.lenI rfl rfl (tok _ rfl) rfl) ?_
      refine ASeq.gq _ _ rfl rfl rfl rfl (QOp.cmp rfl rfl rfl rfl) ?_
      refine ASeq.gq _ _ rfl rfl rfl rfl (QOp.move rfl rfl) ?_
      refine ASeq.split 32 (((q.funcs.map Fu.cells).length : Int) == 0) rfl (fun hd => ?_) (fun hd => ?_)
      · refine ASeq.gno _ _ rfl rfl rfl rfl rfl ?_
        refine ASeq.gno _ _ rfl rfl rfl rfl rfl ?_
        refine ASeq.gno _ _ rfl rfl rfl rfl rfl ?_
        refine ASeq.gno _ _ rfl rfl rfl rfl rfl ?_
        refine ASeq.gno _ _ rfl rfl rfl rfl rfl ?_
        refine ASeq.gno _ _ rfl rfl rfl rfl rfl ?_
        refine ASeq.gno _ _ rfl rfl rfl rfl rfl ?_
        refine ASeq.gno _ _ rfl rfl rfl rfl rfl ?_
        refine ASeq.gq _ _ rfl rfl rfl rfl (QOp.pickT rfl rfl rfl) ?_
        refine ASeq.q rfl rfl (QOp.pickT rfl rfl rfl) ?_
        exact rest.at_ (.cons rfl (.cons rfl (.consB (b := true) rfl (by rw [hb, hd]; rfl) .nil)))
      · refine ASeq.gq _ _ rfl rfl rfl rfl (QOp.fieldM rfl rfl (tok _ rfl) rfl rfl (by decide) rfl) ?_
        refine ASeq.gq _ _ rfl rfl rfl rfl (QOp.loadM 4 rfl rfl rfl (tok _ rfl) rfl) ?_
        refine ASeq.gq _ _ rfl rfl rfl rfl (QOp.fieldM rfl rfl (tok _ rfl) rfl rfl (by decide) rfl) ?_
        refine ASeq.gq _ _ rfl rfl rfl rfl (QOp.loadM 4 rfl rfl rfl (tok _ rfl) rfl) ?_
        refine ASeq.gq _ _ rfl rfl rfl rfl (QOp.indexI rfl rfl rfl (tok _ rfl) rfl (tok _ rfl) (by omega) (by assumption)) ?_
        refine ASeq.gq _ _ rfl rfl rfl rfl (QOp.fieldI rfl rfl (tok _ rfl) rfl rfl (by decide) rfl) ?_
        refine ASeq.gq _ _ rfl rfl rfl rfl (QOp.loadI rfl rfl (tok _ rfl) rfl) ?_
        refine ASeq.gq _ _ rfl rfl rfl rfl (QOp.cmp rfl rfl rfl rfl) ?_
        refine ASeq.gq _ _ rfl rfl rfl rfl (QOp.pickF rfl rfl rfl) ?_
        refine ASeq.q rfl rfl (QOp.pickT rfl rfl rfl) ?_
        exact rest.at_ (.cons rfl (.cons rfl (.consB (b := q.tok.kind != 0) rfl (by rw [hb, hd]; rfl) .nil)))
    · refine ASeq.gno _ _ rfl rfl rfl rfl rfl ?_
      refine ASeq.gno _ _ rfl rfl rfl rfl rfl ?_
      refine ASeq.gno _ _ rfl rfl rfl rfl rfl ?_
      refine ASeq.gno _ _ rfl rfl rfl rfl rfl ?_
      refine ASeq.gno _ _ rfl rfl rfl rfl rfl ?_
      refine ASeq.gno _ _ rfl rfl rfl rfl rfl ?_
      refine ASeq.gno _ _ rfl rfl rfl rfl rfl ?_
      refine ASeq.gno _ _ rfl rfl rfl rfl rfl ?_
      refine ASeq.gno _ _ rfl rfl rfl rfl rfl ?_
      refine ASeq.gno _ _ rfl rfl rfl rfl rfl ?_
      refine ASeq.gno _ _ rfl rfl rfl rfl rfl ?_
      refine ASeq.gno _ _ rfl rfl rfl rfl rfl ?_
      refine ASeq.gno _ _ rfl rfl rfl rfl rfl ?_
      refine ASeq.gno _ _ rfl rfl rfl rfl rfl ?_
      refine ASeq.gno _ _ rfl rfl rfl rfl rfl ?_
      refine ASeq.q rfl rfl (QOp.pickF rfl rfl rfl) ?_
      exact rest.at_ (.cons rfl (.cons rfl (.consB (b := false) rfl (by rw [hb]; rfl) .nil)))
  refine ASeq.nil ?_
  refine AExit.then_normal ?_
  have key : (q.code == 0 && (((q.funcs.map Fu.cells).length : Int) == 0 || q.tok.kind != 0)) = true ↔ (q.code = 0 ∧ (q.funcs = [] ∨ q.tok.kind ≠ 0)) := by
    rw [hfl]
    simp only [Bool.and_eq_true, Bool.or_eq_true, beq_iff_eq, bne_iff_ne, ne_eq]
    have : ((q.funcs.length : Int) = 0) ↔ q.funcs = [] := by
      rw [← List.length_eq_zero_iff]; omega
    rw [this]
  refine ACode.cond _ rfl (fun hb => ?_) (fun hb => ?_)
  · have hx := key.1 hb
    have hf := function_ok (n := fuelP s) hq
    have hmm : q.mm + 14 ≤ (fuelP s : Nat) := by
      have : q.mm ≤ 20 * (q.toks.length : Int) := by unfold PS.mm; split <;> omega
      unfold fuelP
      rw [← hqt]; omega
    rw [show parseLoop (fuelP s) (k + 1) q = parseLoop (fuelP s) k (function (fuelP s) q) by simp only [parseLoop]; rw [if_pos hx]] at hres
    have hk := hk hx.1
    refine ACode.skip (ACode.block (ACode.region ?_))
    refine ASeq.q rfl rfl (QOp.loadM 4 rfl rfl rfl (tok _ rfl) rfl) ?_
    refine ASeq.op rfl rfl (AOp.callP 3 rfl (by kernel_rfl) rfl rfl rfl (function_walk (fuelP s) q hq hmm _ _ _) ?_ (by rintro _ _ ⟨⟩))
    rintro _ _ ⟨te, ts, tf⟩
    refine ASeq.op0 rfl rfl (AOp.storeP 4 rfl rfl rfl rfl (tok _ rfl) rfl rfl rfl rfl ?_)
    refine ASeq.nil ?_
    refine AExit.in_normal (AExit.then_normal ?_)
    exact ⟨(k, function (fuelP s) q, _, _, _), 5, ⟨hf.1, hf.2.1.trans hqt, by dsimp only; omega, fun hz => by have := (hf.2.2.2 hz).2; dsimp only; rw [hf.2.1]; omega, hres⟩, Nat.lt_succ_self _, .cons rfl (.cons rfl .nil), rfl⟩
  · have hx := mt key.2 (by rw [hb]; decide)
    rw [show parseLoop (fuelP s) (k + 1) q = q by simp only [parseLoop]; rw [if_neg hx]] at hres
    refine ACode.exit (ACode.seq (ACode.seq (ACode.region ?_)))
    refine ASeq.q rfl rfl (QOp.fieldM rfl rfl (tok _ rfl) rfl rfl (by decide) rfl) ?_
    refine ASeq.q rfl rfl (QOp.loadM 4 rfl rfl rfl (tok _ rfl) rfl) ?_
    refine ASeq.q rfl rfl (QOp.cmp rfl rfl rfl rfl) ?_
    refine ASeq.nil ?_
    refine AExit.then_normal ?_
    refine ACode.cond _ rfl (fun hb => ?_) (fun hb => ?_)
    · have hqc : q.code ≠ 0 := by simpa using hb
      refine ACode.seq ?_
      refine ACode.drawn [[], [], [1], [], [3], [0], [0, 1, 2, 5], [0, 1, 2, 3, 4, 5, 6]] (by kernel_rfl) mixed ?_
      refine DAny.qu 0 rfl rfl (by kernel_rfl) rfl (fun _ => .does _ _ rfl (.none rfl) (QOp.build rfl (tok _ rfl) rfl rfl rfl rfl rfl)) ?_
      refine DAny.qu 1 rfl rfl (by kernel_rfl) rfl (fun _ => .does _ _ rfl (.none rfl) (QOp.fieldM rfl rfl (tok _ rfl) rfl rfl (by decide) rfl)) ?_
      refine DAny.ld 2 rfl rfl (by kernel_rfl) rfl (.does _ _ rfl (.none rfl) (QOp.loadM 4 rfl rfl rfl (tok _ rfl) rfl)) ?_
      refine DAny.qu 3 rfl rfl (by kernel_rfl) rfl (fun _ => .does _ _ rfl (.none rfl) (QOp.fieldM rfl rfl (tok _ rfl) rfl rfl (by decide) rfl)) ?_
      refine DAny.ld 4 rfl rfl (by kernel_rfl) rfl (.does _ _ rfl (.none rfl) (QOp.loadM 4 rfl rfl rfl (tok _ rfl) rfl)) ?_
      refine DAny.ef0 5 rfl (by kernel_rfl) (.none rfl) rfl rfl (AOp.storeP 3 rfl rfl rfl rfl (tok _ rfl) rfl rfl rfl rfl ⟨(by ((refine AllQ.cons (.does _ _ rfl (.none rfl) (QOp.loadM 4 rfl rfl rfl (tok _ rfl) rfl)) ?_); (refine AllQ.cons (.does _ _ rfl (.none rfl) (QOp.loadM 4 rfl rfl rfl (tok _ rfl) rfl)) ?_); (exact AllQ.nil))), ?_⟩)
      refine DAny.ef 6 rfl (by kernel_rfl) (.none rfl) rfl rfl (.q (QOp.assign rfl rfl) ⟨(by ((refine AllQ.cons (.does _ _ rfl (.none rfl) (QOp.loadM 4 rfl rfl rfl (tok _ rfl) rfl)) ?_); (exact AllQ.nil))), ?_⟩)
      refine DAny.ef 7 rfl (by kernel_rfl) (.none rfl) rfl rfl (.q (QOp.assign rfl rfl) ⟨(by ((exact AllQ.nil))), ?_⟩)
      refine DAny.done (by kernel_rfl) ?_
      refine ACode.ret (AExit.then_ret ?_)
      refine bodyQ_ret 0 (.cell 3 rfl rfl (tok _ rfl) rfl (.tmp rfl (.tmp rfl .nil))) rfl ?_
      rw [show parse s = ({}, q.where_, q.code) by unfold parse; rw [if_neg (fun h => h hc), ← hres, if_pos hqc]]
      exact ⟨_, LeL.tup (.cons nilTree_le (.cons (.refl _) (.cons (.refl _) .nil))), .mk⟩
    · have hqc : ¬ q.code ≠ 0 := by simpa using hb
      refine ACode.skip (ACode.seq (ACode.region ?_))
      refine ASeq.q rfl rfl (QOp.fieldM rfl rfl (tok _ rfl) rfl rfl (by decide) rfl) ?_
      refine ASeq.q rfl rfl (QOp.loadM 4 rfl rfl rfl (tok _ rfl) rfl) ?_
      refine ASeq.op0 rfl rfl (AOp.storeP 3 rfl rfl rfl rfl (tok _ rfl) rfl rfl rfl rfl ?_)
      refine ASeq.q rfl rfl (QOp.assign rfl rfl) ?_
      refine ASeq.q rfl rfl (QOp.assign rfl rfl) ?_
      refine ASeq.nil ?_
      refine ACode.ret ?_
      refine bodyQ_ret 0 (.cell 3 rfl rfl (tok _ rfl) rfl (.tmp rfl (.tmp rfl .nil))) rfl ?_
      rw [show parse s = ({ exprs := q.exprs, stmts := q.stmts, funcs := q.funcs }, 0, 0) by unfold parse; rw [if_neg (fun h => h hc), ← hres, if_neg hqc]]
      exact ⟨_, LeL.tup (.cons (LeL.agg (.cons (.tok 9 _ _) (.cons (.tok 9 _ _) (.cons (.tok 6 _ _) .nil)))) (.cons (.refl _) (.cons (.refl _) .nil))), .mk⟩
end Go.Proofs.Ytaadamobapnfbaa
set_option linter.unusedVariables false
set_option linter.unusedSimpArgs false
namespace Go.Proofs.Ytaadamobapnfbaa
open Go Go.Abs
structure Nm where
  text : ByteArray
  block : Int
  slot : Int
def Nm.cells (n : Nm) : List AV := [vs n.text, vi n.block, vi n.slot]
structure CS where
  t : Tree
  type : List Int
  slot : List Int
  put : List Int
  func : List Int
  slots : List (List Int)
  f : Int := 0
  names : List Nm := []
  block : Int := 0
  loops : Int := 0
  code : Int := 0
  at_ : Int := 0
structure Ms where
  mT : Nat
  mS : Nat
  mP : Nat
  mF : Nat
  mL : Nat
def CS.cur (c : CS) : List Int := c.slots.getD c.f.toNat []
def CS.cells (c : CS) (m : Ms) : List AV :=
  [.il 9 none (c.t.exprs.map Ex.cells), .il 9 none (c.t.stmts.map St.cells), .il 6 none (c.t.funcs.map Fu.cells), .sl 1 m.mT 0 c.type.length, .sl 1 m.mS 0 c.slot.length, .sl 1 m.mP 0 c.put.length, .sl 1 m.mF 0 c.func.length, .sl 1 m.mL 0 c.slots.length,
    vi c.f, .il 3 none (c.names.map Nm.cells), vi c.block, vi c.loops, vi c.code, vi c.at_]
def slotCell (τ : Nat) (f : Int) (i : Nat) (l : List Int) : AV := if (i : Int) = f then .il 1 (some τ) (ints l) else if (i : Int) < f then .il 1 none (ints l) else .v (.slice none 0 0)
def CS.slotCells (c : CS) (τ : Nat) : List AV := c.slots.mapIdx (slotCell τ c.f)
def CS.items (c : CS) (m : Ms) (τ : Nat) : List Abs.Item := [.mu m.mT (c.type.map vi), .mu m.mS (c.slot.map vi), .mu m.mP (c.put.map vi), .mu m.mF (c.func.map vi), .mu m.mL (c.slotCells τ), .tk τ]
def CS.need (c : CS) (ok : Bool) (at_ code : Int) : CS := if c.code = 0 ∧ ok = false then { c with code := code, at_ := at_ } else c
def findL (s : ByteArray) : List Nm → Int → Int
  | [], r => r
  | n :: l, r => findL s l (if (n.text.data.toList == s.data.toList) = true then n.slot else r)
def CS.find (c : CS) (s : ByteArray) : Int := findL s c.names (-1)
def CS.twice (c : CS) (s : ByteArray) : Bool := c.names.any fun n => (n.text.data.toList == s.data.toList) && (n.block == c.block)
def CS.decl (c : CS) (s : ByteArray) (kind at_ : Int) : CS × Int :=
  if ((c.need (!c.twice s) at_ 7).need (decide ((c.cur.length : Int) < 64)) at_ 5).code ≠ 0 then ((c.need (!c.twice s) at_ 7).need (decide ((c.cur.length : Int) < 64)) at_ 5, -1)
  else ({ c with slots := c.slots.set c.f.toNat (c.cur ++ [kind]), names := c.names ++ [⟨s, c.block, c.cur.length⟩] }, c.cur.length)
def CS.slotOk (c : CS) (n : Int) (array : Bool) : Bool := decide (n ≥ 0) && ((c.cur.getD n.toNat 0 == 3) == array)
def CS.slotOf (c : CS) (s : ByteArray) (array : Bool) (at_ : Int) : CS × Int := (c.need (c.slotOk (c.find s) array) at_ 6, c.find s)
def CS.ex (c : CS) (i : Int) : Ex := c.t.exprs.getD i.toNat default
def CS.stm (c : CS) (i : Int) : St := c.t.stmts.getD i.toNat default
def CS.fu (c : CS) (i : Int) : Fu := c.t.funcs.getD i.toNat default
def CS.setSlot (c : CS) (i n : Int) : CS := { c with slot := c.slot.set i.toNat n }
def CS.setType (c : CS) (i n : Int) : CS := { c with type := c.type.set i.toNat n }
def CS.setPut (c : CS) (i n : Int) : CS := { c with put := c.put.set i.toNat n }
def CS.setFunc (c : CS) (i n : Int) : CS := { c with func := c.func.set i.toNat n }
/-- the type of one that must be a value -/
def valOf (r : CS × Int) (i : Int) : CS × Int := (r.1.need (r.2 != 4) (r.1.ex i).fr 8, r.2)
def findF (s : ByteArray) : List Fu → Nat → Int → Int
  | [], _, r => r
  | g :: l, k, r => findF s l (k + 1) (if ((g.name.data.toList == s.data.toList) && decide (r < 0)) = true then (k : Int) else r)
def isEven (op : ByteArray) : Bool := (op.data.toList == [61, 61]) || (op.data.toList == [33, 61])
def isLogic (op : ByteArray) : Bool := (op.data.toList == [38, 38]) || (op.data.toList == [124, 124])
def pairOk (op : ByteArray) (a b : Int) : Bool := (a == b) && ((isEven op || (isLogic op && (a == 2))) || ((!isLogic op && !isEven op) && (a == 1)))
def unaryOk (op : ByteArray) (a : Int) : Bool := ((op.data.toList == [45]) && (a == 1)) || ((op.data.toList == [33]) && (a == 2))
def isInt (op : ByteArray) : Bool := ((!isEven op && !isLogic op) && (byteAt op 0 != 60)) && (byteAt op 0 != 62)
def argsOf (g : CS → Int → CS × Int) : List Int → CS → Bool → CS × Bool
  | [], c, b => (c, b)
  | a :: l, c, b => argsOf g l (valOf (g c a) a).1 (b && ((valOf (g c a) a).2 == 1))
def kindCase (g : CS → Int → CS × Int) (c : CS) (i : Int) (e : Ex) : CS × Int :=
  if e.kind = 1 ∨ e.kind = 7 then (c, 1)
  else if e.kind = 4 then
    if (c.slotOf e.name false e.fr).1.code = 0 then ((c.slotOf e.name false e.fr).1.setSlot i (c.slotOf e.name false e.fr).2, c.cur.getD (c.slotOf e.name false e.fr).2.toNat 0)
    else ((c.slotOf e.name false e.fr).1, 2)
  else if e.kind = 5 then
    ((((valOf (g c e.a) e.a).1.slotOf e.name true e.fr).1.need ((valOf (g c e.a) e.a).2 == 1) e.fr 8).setSlot i ((valOf (g c e.a) e.a).1.slotOf e.name true e.fr).2, 1)
  else if e.kind = 6 then
    if ((argsOf g e.list c true).1.need (decide (findF e.name c.t.funcs 0 (-1) ≥ 0)) e.fr 6).code = 0 then
      ((((argsOf g e.list c true).1.need (decide (findF e.name c.t.funcs 0 (-1) ≥ 0)) e.fr 6).need ((argsOf g e.list c true).2 && ((e.list.length : Int) == (c.fu (findF e.name c.t.funcs 0 (-1))).params.length)) e.fr 8).setSlot i (findF e.name c.t.funcs 0 (-1)),
        (c.fu (findF e.name c.t.funcs 0 (-1))).type)
    else ((argsOf g e.list c true).1.need (decide (findF e.name c.t.funcs 0 (-1) ≥ 0)) e.fr 6, 2)
  else if e.kind = 8 then
    ((valOf (g c e.a) e.a).1.need (unaryOk e.op (valOf (g c e.a) e.a).2) e.fr 8, (valOf (g c e.a) e.a).2)
  else if e.kind = 9 then
    ((valOf (g (valOf (g c e.a) e.a).1 e.b) e.b).1.need (pairOk e.op (valOf (g c e.a) e.a).2 (valOf (g (valOf (g c e.a) e.a).1 e.b) e.b).2) e.fr 8, if isInt e.op = true then 1 else 2)
  else (c, 2)
def typed (r : CS × Int) (i : Int) : CS × Int := if r.1.code = 0 then (r.1.setType i r.2, r.2) else r
def expr6 : Nat → CS → Int → CS × Int
  | 0, c, _ => (c, 1)
  | n + 1, c, i => if c.code ≠ 0 then (c, 1) else typed (kindCase (expr6 n) c i (c.ex i)) i
def stmtsOf (g : CS → Int → CS) (b : Int) : List Int → CS → CS
  | [], c => c
  | i :: l, c => stmtsOf g b l { g c i with block := b }
def blockOf (g : CS → Int → CS) (c : CS) (l : List Int) : CS := { stmtsOf g (c.block + 1) l { c with block := c.block + 1 } with names := c.names, block := c.block }
end Go.Proofs.Ytaadamobapnfbaa
set_option linter.unusedVariables false
set_option linter.unusedSimpArgs false
set_option maxRecDepth 100000
namespace Go.Proofs.Ytaadamobapnfbaa
open Go Go.Abs
structure CS.ok (c : CS) : Prop where
  f0 : 0 ≤ c.f
  f1 : c.f < c.slots.length
  n64 : c.cur.length ≤ 64
  names : c.names.length ≤ c.cur.length
  nslot : ∀ n ∈ c.names, 0 ≤ n.slot ∧ n.slot < c.cur.length
  lt : c.type.length = c.t.exprs.length
  ls : c.slot.length = c.t.exprs.length
  lp : c.put.length = c.t.stmts.length
  lf : c.func.length = c.t.stmts.length
  lS : c.slots.length = c.t.funcs.length
  big : c.t.exprs.length ≤ 1048576 ∧ c.t.stmts.length ≤ 1048576 ∧ c.t.funcs.length ≤ 1048576
theorem slotCells_cur {c : CS} (h : c.ok) (τ : Nat) : (c.slotCells τ)[0 + c.f.toNat * 1]? = some (.il 1 (some τ) (ints c.cur)) := by
  have h0 := h.f0
  have h1 := h.f1
  have hl : c.f.toNat < c.slots.length := by omega
  simp only [Nat.zero_add, Nat.mul_one, CS.slotCells, List.getElem?_mapIdx, List.getElem?_eq_getElem hl, Option.map_some, slotCell, CS.cur, List.getD_eq_getElem?_getD, Option.getD_some]
  rw [if_pos (by omega)]
theorem findL_range (s : ByteArray) (k : Nat) : ∀ (l : List Nm) (r : Int), (∀ n ∈ l, 0 ≤ n.slot ∧ n.slot < k) → (r < 0 ∨ r < k) → findL s l r < 0 ∨ findL s l r < k
  | [], r, _, hr => hr
  | n :: l, r, h, hr => by
    simp only [findL]
    refine findL_range s k l _ (fun x hx => h x (by simp [hx])) ?_
    split
    · exact .inr (h n (by simp)).2
    · exact hr
theorem CS.ok.find_lt {c : CS} (h : c.ok) (s : ByteArray) : c.find s < 0 ∨ c.find s < c.cur.length := findL_range s _ _ _ h.nslot (.inl (by decide))
theorem cur_get {c : CS} {n : Int} (h0 : 0 ≤ n) (h1 : n < c.cur.length) : (ints c.cur)[n.toNat]? = some [vi (c.cur.getD n.toNat 0)] := by
  have hl : n.toNat < c.cur.length := by omega
  rw [ints_get hl, List.getD_eq_getElem?_getD, List.getElem?_eq_getElem hl]; rfl
end Go.Proofs.Ytaadamobapnfbaa
set_option linter.unusedVariables false
set_option linter.unusedSimpArgs false
set_option maxRecDepth 100000
namespace Go.Proofs.Ytaadamobapnfbaa
open Go Go.Abs
theorem need_code (c : CS) (ok : Bool) (a k : Int) (hk : k ≠ 0) : (c.need ok a k).code = 0 ↔ c.code = 0 ∧ ok = true := by
  unfold CS.need
  split
  · rename_i h; simp [hk, h.2]
  · rename_i h
    constructor
    · intro hc; refine ⟨hc, ?_⟩; cases ok with
      | true => rfl
      | false => exact absurd ⟨hc, rfl⟩ h
    · exact fun h => h.1
theorem slotCells_set {c : CS} (h : c.ok) (τ τ' : Nat) (l : List Int) : (c.slotCells τ).set (0 + c.f.toNat * 1) (.il 1 (some τ') (ints l)) = (c.slots.set c.f.toNat l).mapIdx (slotCell τ' c.f) := by
  have h0 := h.f0
  have h1 := h.f1
  apply List.ext_getElem?
  intro i
  simp only [CS.slotCells, Nat.zero_add, Nat.mul_one, List.getElem?_mapIdx, List.getElem?_set, List.length_mapIdx]
  by_cases hi : c.f.toNat = i
  · subst hi
    rw [if_pos rfl, if_pos rfl, if_pos (by omega), if_pos (by omega), Option.map_some]
    simp only [slotCell]
    rw [if_pos (by omega)]
  · rw [if_neg hi, if_neg hi]
    cases c.slots[i]? with
    | none => rfl
    | some x =>
      have hne : ¬ (i : Int) = c.f := by omega
      simp only [Option.map_some, slotCell, if_neg hne]
theorem slotCells_len (c : CS) (τ : Nat) : (c.slotCells τ).length = c.slots.length := by simp [CS.slotCells]
end Go.Proofs.Ytaadamobapnfbaa
set_option linter.unusedVariables false
set_option linter.unusedSimpArgs false
set_option maxRecDepth 100000
namespace Go.Proofs.Ytaadamobapnfbaa
open Go Go.Abs
/-- children lie ahead; a pair has a sign -/
def ExWf (i : Nat) (x : Ex) : Prop :=
  (x.kind = 5 ∨ x.kind = 8 ∨ x.kind = 9 → 0 ≤ x.a ∧ x.a < i) ∧ (x.kind = 9 → 0 ≤ x.b ∧ x.b < i ∧ 0 < x.op.size) ∧ (x.kind = 6 → ∀ a ∈ x.list, 0 ≤ a ∧ a < i) ∧ x.list.length ≤ 1048576
def TreeWf (t : Tree) : Prop := ∀ (i : Nat) (x : Ex), t.exprs[i]? = some x → ExWf i x
theorem ex_get {c : CS} {i : Int} (h0 : 0 ≤ i) (h1 : i < c.t.exprs.length) : (c.t.exprs.map Ex.cells)[i.toNat]? = some (c.ex i).cells := by
  have hl : i.toNat < c.t.exprs.length := by omega
  simp only [List.getElem?_map, CS.ex, List.getD_eq_getElem?_getD, List.getElem?_eq_getElem hl, Option.map_some, Option.getD_some]
theorem ex_wf {c : CS} (hw : TreeWf c.t) {i : Int} (h0 : 0 ≤ i) (h1 : i < c.t.exprs.length) : ExWf i.toNat (c.ex i) := by
  have hl : i.toNat < c.t.exprs.length := by omega
  refine hw _ _ ?_
  simp only [CS.ex, List.getD_eq_getElem?_getD, List.getElem?_eq_getElem hl, Option.getD_some]
/-- what an expression leaves as it was -/
structure Kept (c d : CS) : Prop where
  t : d.t = c.t
  slots : d.slots = c.slots
  f : d.f = c.f
  names : d.names = c.names
  block : d.block = c.block
  loops : d.loops = c.loops
  put : d.put = c.put
  func : d.func = c.func
  lt : d.type.length = c.type.length
  ls : d.slot.length = c.slot.length
theorem Kept.refl (c : CS) : Kept c c := ⟨rfl, rfl, rfl, rfl, rfl, rfl, rfl, rfl, rfl, rfl⟩
theorem Kept.trans {a b c : CS} (h : Kept a b) (h' : Kept b c) : Kept a c :=
  ⟨h'.t.trans h.t, h'.slots.trans h.slots, h'.f.trans h.f, h'.names.trans h.names, h'.block.trans h.block, h'.loops.trans h.loops, h'.put.trans h.put, h'.func.trans h.func, h'.lt.trans h.lt, h'.ls.trans h.ls⟩
theorem Kept.cur {a b : CS} (h : Kept a b) : b.cur = a.cur := by unfold CS.cur; rw [h.slots, h.f]
theorem Kept.ex {a b : CS} (h : Kept a b) (i : Int) : b.ex i = a.ex i := by unfold CS.ex; rw [h.t]
theorem Kept.ok {a b : CS} (h : Kept a b) (ha : a.ok) : b.ok :=
  ⟨by rw [h.f]; exact ha.f0, by rw [h.f, h.slots]; exact ha.f1, by rw [h.cur]; exact ha.n64, by rw [h.cur, h.names]; exact ha.names, by rw [h.cur, h.names]; exact ha.nslot, by rw [h.t, h.lt]; exact ha.lt, by rw [h.t, h.ls]; exact ha.ls,
    by rw [h.t, h.put]; exact ha.lp, by rw [h.t, h.func]; exact ha.lf, by rw [h.t, h.slots]; exact ha.lS, by rw [h.t]; exact ha.big⟩
theorem Kept.need (c : CS) (ok : Bool) (a k : Int) : Kept c (c.need ok a k) := by
  unfold CS.need
  split
  · exact ⟨rfl, rfl, rfl, rfl, rfl, rfl, rfl, rfl, rfl, rfl⟩
  · exact .refl c
theorem Kept.setSlot (c : CS) (i n : Int) : Kept c (c.setSlot i n) := ⟨rfl, rfl, rfl, rfl, rfl, rfl, rfl, rfl, rfl, by simp [CS.setSlot]⟩
theorem Kept.setType (c : CS) (i n : Int) : Kept c (c.setType i n) := ⟨rfl, rfl, rfl, rfl, rfl, rfl, rfl, rfl, by simp [CS.setType], rfl⟩
theorem Kept.valOf {c : CS} {r : CS × Int} (h : Kept c r.1) (i : Int) : Kept c (valOf r i).1 := h.trans (.need _ _ _ _)
theorem Kept.slotOf (c : CS) (s : ByteArray) (b : Bool) (a : Int) : Kept c (c.slotOf s b a).1 := .need _ _ _ _
theorem Kept.args {g : CS → Int → CS × Int} (hg : ∀ c i, Kept c (g c i).1) : ∀ (l : List Int) (c : CS) (b : Bool), Kept c (argsOf g l c b).1
  | [], c, b => .refl c
  | a :: l, c, b => ((Kept.valOf (hg c a) a).trans (Kept.args hg l _ _))
theorem Kept.kindCase {g : CS → Int → CS × Int} (ih : ∀ c i, Kept c (g c i).1) (c : CS) (i : Int) (e : Ex) : Kept c (kindCase g c i e).1 := by
  unfold Ytaadamobapnfbaa.kindCase
  split
  · exact .refl c
  split
  · split
    · exact (Kept.slotOf _ _ _ _).trans (.setSlot _ _ _)
    · exact Kept.slotOf _ _ _ _
  split
  · exact (((ih _ _).valOf _).trans (.slotOf _ _ _ _)).trans ((Kept.need _ _ _ _).trans (.setSlot _ _ _))
  split
  · split
    · exact ((Kept.args ih _ _ _).trans (.need _ _ _ _)).trans ((Kept.need _ _ _ _).trans (.setSlot _ _ _))
    · exact (Kept.args ih _ _ _).trans (.need _ _ _ _)
  split
  · exact ((ih _ _).valOf _).trans (.need _ _ _ _)
  split
  · exact (((ih _ _).valOf _).trans ((ih _ _).valOf _)).trans (.need _ _ _ _)
  · exact .refl c
theorem Kept.typed {c : CS} {r : CS × Int} (h : Kept c r.1) (i : Int) : Kept c (typed r i).1 := by
  unfold Ytaadamobapnfbaa.typed
  split
  · exact h.trans (.setType _ _ _)
  · exact h
theorem Kept.expr6 : ∀ (n : Nat) (c : CS) (i : Int), Kept c (expr6 n c i).1
  | 0, c, i => .refl c
  | n + 1, c, i => by
    unfold Ytaadamobapnfbaa.expr6
    split
    · exact .refl c
    · exact (Kept.kindCase (Kept.expr6 n) c i _).typed i
end Go.Proofs.Ytaadamobapnfbaa
set_option linter.unusedVariables false
set_option linter.unusedSimpArgs false
set_option maxRecDepth 100000
namespace Go.Proofs.Ytaadamobapnfbaa
open Go Go.Abs
theorem RV.of {v r : AV} {R R' : List Abs.Item} (h1 : r = v) (h2 : R' = R) : RV v R (.ret r) R' := by subst h1; subst h2; exact .mk
theorem storeInt {P : Program} {N : Nat} {D : List Deferred} {env : Env} {R R' : List Abs.Item} {o : Oper} {K Kp : AV → List Abs.Item → Prop} (p : Nat) {t : TypeId} {td : TD} {x y : Operand} {m k j : Nat} {n : Int} {l : List Int} (ho : o.op = .store t x y)
    (hx : ev N env x = some (.mp m k)) (hi : R[p]? = some (.mu m (l.map vi))) (hy : ev N env y = some (vi n)) (hT : TOK P t td) (hsz : td.size = 1) (hkj : k = j) (hlt : j < l.length) (hR : setO p (.mu m ((l.set j n).map vi)) R = some R') (hk : K .any R') : AOp P N D o env R K Kp := by
  subst hkj
  refine AOp.storeAt p ho hx hi hy hT rfl hsz (by simpa using hlt) ?_ hk
  rw [← List.map_set]; exact hR
end Go.Proofs.Ytaadamobapnfbaa
set_option linter.unusedVariables false
set_option linter.unusedSimpArgs false
set_option maxRecDepth 100000
namespace Go.Proofs.Ytaadamobapnfbaa
open Go Go.Abs
theorem fu_get {l : List Fu} {i : Nat} (h : i < l.length) : (l.map Fu.cells)[i]? = some l[i].cells := by
  simp only [List.getElem?_map, List.getElem?_eq_getElem h, Option.map_some]
end Go.Proofs.Ytaadamobapnfbaa
set_option linter.unusedVariables false
set_option linter.unusedSimpArgs false
set_option maxRecDepth 100000
namespace Go.Proofs.Ytaadamobapnfbaa
open Go Go.Abs
def vals (c : CS) (i : Int) : CS × Int := valOf (expr6 c.t.exprs.length c i) i
def stmtCase (g : CS → Int → CS) (c : CS) (s : St) : CS × Int :=
  if s.kind = 1 then
    if (vals c s.a).1.code ≠ 0 then ((vals c s.a).1, -1) else (vals c s.a).1.decl s.name (vals c s.a).2 s.fr
  else if s.kind = 2 then
    if (c.need (decide (s.num ≥ 1) && decide (s.num ≤ 64)) s.fr 15).code ≠ 0 then (c.need (decide (s.num ≥ 1) && decide (s.num ≤ 64)) s.fr 15, -1)
    else (c.need (decide (s.num ≥ 1) && decide (s.num ≤ 64)) s.fr 15).decl s.name 3 s.fr
  else if s.kind = 3 then
    if (vals c s.a).1.code ≠ 0 then ((vals c s.a).1, -1)
    else if ((vals c s.a).1.slotOf s.name false s.fr).1.code = 0 then
      (((vals c s.a).1.slotOf s.name false s.fr).1.need ((vals c s.a).2 == (vals c s.a).1.cur.getD ((vals c s.a).1.slotOf s.name false s.fr).2.toNat 0) s.fr 8, ((vals c s.a).1.slotOf s.name false s.fr).2)
    else (vals c s.a).1.slotOf s.name false s.fr
  else if s.kind = 4 then
    if (vals (vals c s.a).1 s.b).1.code ≠ 0 then ((vals (vals c s.a).1 s.b).1, -1)
    else (((vals (vals c s.a).1 s.b).1.slotOf s.name true s.fr).1.need (((vals c s.a).2 == 1) && ((vals (vals c s.a).1 s.b).2 == 1)) s.fr 8, ((vals (vals c s.a).1 s.b).1.slotOf s.name true s.fr).2)
  else if s.kind = 5 then (blockOf g (blockOf g ((vals c s.a).1.need ((vals c s.a).2 == 2) s.fr 8) s.thn) s.els, -1)
  else if s.kind = 6 then
    ({ blockOf g ({ (vals c s.a).1 with loops := c.loops + 1 }.need ((vals c s.a).2 == 2) s.fr 8) s.thn with loops := c.loops }, -1)
  else if s.kind = 7 ∨ s.kind = 8 then (c.need (decide (c.loops > 0)) s.fr 9, -1)
  else if s.kind = 9 then
    if s.a ≥ 0 then ((vals c s.a).1.need ((vals c s.a).2 == (c.fu c.f).type) s.fr 8, -1) else (c.need (4 == (c.fu c.f).type) s.fr 8, -1)
  else if s.kind = 10 then ((vals c s.a).1, -1)
  else if s.kind = 11 then ((expr6 c.t.exprs.length c s.a).1, -1)
  else (c, -1)
def putted (r : CS × Int) (i : Int) : CS := if r.1.code = 0 then r.1.setPut i r.2 else r.1
def stm6 : Nat → CS → Int → CS
  | 0, c, _ => c
  | n + 1, c, i => if c.code ≠ 0 then c else putted (stmtCase (stm6 n) (c.setFunc i c.f) (c.stm i)) i
/-- what a statement leaves as it was -/
structure KeptS (c d : CS) : Prop where
  t : d.t = c.t
  f : d.f = c.f
  block : d.block = c.block
  loops : d.loops = c.loops
  lt : d.type.length = c.type.length
  ls : d.slot.length = c.slot.length
  lp : d.put.length = c.put.length
  lf : d.func.length = c.func.length
  lS : d.slots.length = c.slots.length
  cur : c.cur.length ≤ d.cur.length
  ok : c.ok → d.ok
  other : ∀ j, j ≠ c.f.toNat → d.slots[j]? = c.slots[j]?
theorem KeptS.refl (c : CS) : KeptS c c := ⟨rfl, rfl, rfl, rfl, rfl, rfl, rfl, rfl, rfl, Nat.le_refl _, fun h => h, fun _ _ => rfl⟩
theorem KeptS.trans {a b c : CS} (h : KeptS a b) (h' : KeptS b c) : KeptS a c :=
  ⟨h'.t.trans h.t, h'.f.trans h.f, h'.block.trans h.block, h'.loops.trans h.loops, h'.lt.trans h.lt, h'.ls.trans h.ls, h'.lp.trans h.lp, h'.lf.trans h.lf, h'.lS.trans h.lS, Nat.le_trans h.cur h'.cur, fun k => h'.ok (h.ok k), fun j hj => (h'.other j (by rw [h.f]; exact hj)).trans (h.other j hj)⟩
theorem Kept.toS {a b : CS} (h : Kept a b) : KeptS a b :=
  ⟨h.t, h.f, h.block, h.loops, h.lt, h.ls, by rw [h.put], by rw [h.func], by rw [h.slots], by rw [h.cur]; exact Nat.le_refl _, h.ok, fun _ _ => by rw [h.slots]⟩
theorem Kept.vals (c : CS) (i : Int) : Kept c (vals c i).1 := (Kept.expr6 _ _ _).valOf _
theorem cur_set {c : CS} (h0 : 0 ≤ c.f) (h1 : c.f < c.slots.length) (l : List Int) : (c.slots.set c.f.toNat l).getD c.f.toNat [] = l := by
  have : c.f.toNat < c.slots.length := by omega
  simp [List.getD_eq_getElem?_getD, this]
theorem KeptS.decl {c : CS} (h : c.ok) (s : ByteArray) (k a : Int) : KeptS c (c.decl s k a).1 := by
  unfold CS.decl
  split
  · exact ((Kept.need _ _ _ _).trans (.need _ _ _ _)).toS
  · rename_i hc
    have hc : ((c.need (!c.twice s) a 7).need (decide ((c.cur.length : Int) < 64)) a 5).code = 0 := Decidable.byContradiction hc
    have hl := of_decide_eq_true ((need_code _ _ _ _ (by decide)).1 hc).2
    have hcs := cur_set h.f0 h.f1 (c.cur ++ [k])
    have hcur : ({ c with slots := c.slots.set c.f.toNat (c.cur ++ [k]), names := c.names ++ [⟨s, c.block, c.cur.length⟩] } : CS).cur = c.cur ++ [k] := hcs
    refine ⟨rfl, rfl, rfl, rfl, rfl, rfl, rfl, rfl, by simp, by rw [hcur]; simp, fun _ => ⟨h.f0, by simpa using h.f1, by rw [hcur]; simp; omega, ?_, ?_, h.lt, h.ls, h.lp, h.lf, by simpa using h.lS, h.big⟩, fun j hj => by simp only [List.getElem?_set]; rw [if_neg (fun h => hj h.symm)]⟩
    · rw [hcur]; have := h.names; simpa using this
    · rw [hcur]
      intro n hn
      simp only [List.length_append, List.length_cons, List.length_nil]
      rcases List.mem_append.1 hn with hn | hn
      · have := h.nslot n hn; omega
      · rw [List.mem_singleton] at hn; subst hn; dsimp only; omega
theorem KeptS.stmts {g : CS → Int → CS} (hg : ∀ c i, c.ok → KeptS c (g c i)) (b : Int) : ∀ (l : List Int) (c : CS), c.ok → c.block = b → KeptS c (stmtsOf g b l c)
  | [], c, _, _ => .refl c
  | i :: l, c, h, hb => by
    have h1 := hg c i h
    have h2 : KeptS c { g c i with block := b } := { h1 with block := hb.symm, ok := fun k => { h1.ok k with } }
    exact h2.trans (KeptS.stmts hg b l _ (h2.ok h) rfl)
theorem KeptS.blockOf {g : CS → Int → CS} (hg : ∀ c i, c.ok → KeptS c (g c i)) (c : CS) (l : List Int) (h : c.ok) : KeptS c (blockOf g c l) := by
  have h1 := KeptS.stmts hg (c.block + 1) l { c with block := c.block + 1 } { h with } rfl
  unfold Ytaadamobapnfbaa.blockOf
  refine { t := h1.t, f := h1.f, block := rfl, loops := h1.loops, lt := h1.lt, ls := h1.ls, lp := h1.lp, lf := h1.lf, lS := h1.lS, cur := h1.cur, ok := fun _ => ?_, other := h1.other }
  have ho := h1.ok { h with }
  have hc := h1.cur
  refine { ho with names := Nat.le_trans h.names hc, nslot := fun n hn => ?_ }
  have := h.nslot n hn
  exact ⟨this.1, Int.lt_of_lt_of_le this.2 (by exact_mod_cast hc)⟩
def smax : Int := 1099511627776
def StWf (E : Nat) (i : Nat) (s : St) : Prop :=
  (s.kind = 1 ∨ s.kind = 3 ∨ s.kind = 4 ∨ s.kind = 5 ∨ s.kind = 6 ∨ s.kind = 10 ∨ s.kind = 11 → 0 ≤ s.a) ∧ (1 ≤ s.kind ∧ s.kind ≤ 11 ∧ s.kind ≠ 2 ∧ s.kind ≠ 7 ∧ s.kind ≠ 8 → s.a < E) ∧ (s.kind = 4 → 0 ≤ s.b ∧ s.b < E) ∧ (∀ k ∈ s.thn, 0 ≤ k ∧ k < i) ∧ (∀ k ∈ s.els, 0 ≤ k ∧ k < i) ∧
    s.thn.length ≤ 1048576 ∧ s.els.length ≤ 1048576
def StsWf (t : Tree) : Prop := ∀ (i : Nat) (s : St), t.stmts[i]? = some s → StWf t.exprs.length i s
theorem stmts_drop (g : CS → Int → CS) (b : Int) (l : List Int) (i : Nat) (c : CS) (h : i < l.length) : stmtsOf g b (l.drop i) c = stmtsOf g b (l.drop (i + 1)) { g c l[i] with block := b } := by
  rw [List.drop_eq_getElem_cons h]; rfl
end Go.Proofs.Ytaadamobapnfbaa
set_option linter.unusedVariables false
set_option linter.unusedSimpArgs false
set_option maxRecDepth 100000
namespace Go.Proofs.Ytaadamobapnfbaa
open Go Go.Abs
theorem st_get {c : CS} {i : Int} (h0 : 0 ≤ i) (h1 : i < c.t.stmts.length) : (c.t.stmts.map St.cells)[i.toNat]? = some (c.stm i).cells := by
  have hl : i.toNat < c.t.stmts.length := by omega
  simp only [List.getElem?_map, CS.stm, List.getD_eq_getElem?_getD, List.getElem?_eq_getElem hl, Option.map_some, Option.getD_some]
theorem st_wf {c : CS} (hw : StsWf c.t) {i : Int} (h0 : 0 ≤ i) (h1 : i < c.t.stmts.length) : StWf c.t.exprs.length i.toNat (c.stm i) := by
  have hl : i.toNat < c.t.stmts.length := by omega
  refine hw _ _ ?_
  simp only [CS.stm, List.getD_eq_getElem?_getD, List.getElem?_eq_getElem hl, Option.getD_some]
theorem KeptS.setFunc (c : CS) (i n : Int) : KeptS c (c.setFunc i n) := ⟨rfl, rfl, rfl, rfl, rfl, rfl, rfl, by simp [CS.setFunc], rfl, Nat.le_refl _, fun h => { h with lf := by simpa [CS.setFunc] using h.lf }, fun _ _ => rfl⟩
theorem KeptS.setPut (c : CS) (i n : Int) : KeptS c (c.setPut i n) := ⟨rfl, rfl, rfl, rfl, rfl, rfl, by simp [CS.setPut], rfl, rfl, Nat.le_refl _, fun h => { h with lp := by simpa [CS.setPut] using h.lp }, fun _ _ => rfl⟩
theorem KeptS.case {g : CS → Int → CS} (hg : ∀ c i, c.ok → KeptS c (g c i)) (c : CS) (s : St) (h : c.ok) : KeptS c (stmtCase g c s).1 := by
  have hv := Kept.vals c s.a
  unfold stmtCase
  split
  · split
    · exact hv.toS
    · exact hv.toS.trans (.decl (hv.ok h) _ _ _)
  split
  · split
    · exact (Kept.need _ _ _ _).toS
    · exact (Kept.need _ _ _ _).toS.trans (.decl ((Kept.need _ _ _ _).ok h) _ _ _)
  split
  · split
    · exact hv.toS
    · split
      · exact (hv.trans ((Kept.slotOf _ _ _ _).trans (.need _ _ _ _))).toS
      · exact (hv.trans (Kept.slotOf _ _ _ _)).toS
  split
  · split
    · exact (hv.trans (Kept.vals _ _)).toS
    · exact ((hv.trans (Kept.vals _ _)).trans ((Kept.slotOf _ _ _ _).trans (.need _ _ _ _))).toS
  split
  · have h1 := (hv.trans (Kept.need _ ((vals c s.a).2 == 2) s.fr 8)).toS
    have h2 := h1.trans (KeptS.blockOf hg _ s.thn (h1.ok h))
    exact h2.trans (KeptS.blockOf hg _ s.els (h2.ok h))
  split
  · have ok1 : ({ (vals c s.a).1 with loops := c.loops + 1 } : CS).ok := { hv.ok h with }
    have h1 := (Kept.need { (vals c s.a).1 with loops := c.loops + 1 } ((vals c s.a).2 == 2) s.fr 8).toS
    have h2 := h1.trans (KeptS.blockOf hg _ s.thn (h1.ok ok1))
    exact ⟨h2.t.trans hv.t, h2.f.trans hv.f, h2.block.trans hv.block, rfl, h2.lt.trans hv.lt, h2.ls.trans hv.ls, h2.lp.trans (by rw [hv.put]), h2.lf.trans (by rw [hv.func]), h2.lS.trans (by rw [hv.slots]), Nat.le_trans (Nat.le_of_eq (by rw [← hv.cur]; rfl)) h2.cur, fun _ => { h2.ok ok1 with }, fun j hj => (h2.other j (by show j ≠ (vals c s.a).1.f.toNat; rw [hv.f]; exact hj)).trans (by show (vals c s.a).1.slots[j]? = _; rw [hv.slots])⟩
  split
  · exact (Kept.need _ _ _ _).toS
  split
  · split
    · exact (hv.trans (Kept.need _ _ _ _)).toS
    · exact (Kept.need _ _ _ _).toS
  split
  · exact hv.toS
  split
  · exact (Kept.expr6 _ _ _).toS
  · exact .refl c
theorem KeptS.putted {c : CS} {r : CS × Int} (h : KeptS c r.1) (i : Int) : KeptS c (putted r i) := by
  unfold Ytaadamobapnfbaa.putted
  split
  · exact h.trans (.setPut _ _ _)
  · exact h
theorem KeptS.stm6 : ∀ (n : Nat) (c : CS) (i : Int), c.ok → KeptS c (stm6 n c i)
  | 0, c, i, _ => .refl c
  | n + 1, c, i, h => by
    unfold Ytaadamobapnfbaa.stm6
    split
    · exact .refl c
    · have h1 := KeptS.setFunc c i c.f
      exact (h1.trans (KeptS.case (KeptS.stm6 n) _ _ (h1.ok h))).putted i
end Go.Proofs.Ytaadamobapnfbaa
set_option linter.unusedVariables false
set_option linter.unusedSimpArgs false
set_option maxRecDepth 100000
namespace Go.Proofs.Ytaadamobapnfbaa
open Go Go.Abs
/-! Check on data. -/
def c0 (t : Tree) : CS := { t := t, type := List.replicate t.exprs.length 0, slot := List.replicate t.exprs.length (-1), put := List.replicate t.stmts.length (-1), func := List.replicate t.stmts.length 0, slots := List.replicate t.funcs.length [] }
def dupOf (g : Fu) : List Fu → CS → CS
  | [], c => c
  | f :: l, c => dupOf g l (c.need (!(f.name.data.toList == g.name.data.toList)) g.fr 7)
def dups (pre : List Fu) : List Fu → CS → CS
  | [], c => c
  | g :: l, c => dups (pre ++ [g]) l (dupOf g pre c)
def faceOf (c : CS) : CS :=
  (c.need ((c.fu 0).name.data.toList == [109, 97, 105, 110]) 0 17).need (((c.fu 0).params.length : Int) == 0 && (c.fu 0).type == 4) (c.fu 0).fr 8
def parsOf (fr : Int) : List ByteArray → CS → CS
  | [], c => c
  | p :: l, c => parsOf fr l (if c.code = 0 then (c.decl p 1 fr).1 else c)
def bodyOf : List Int → CS → CS
  | [], c => c
  | k :: l, c => bodyOf l (stm6 c.t.stmts.length c k)
def funs : Nat → List Fu → CS → CS
  | _, [], c => c
  | i, g :: l, c => funs (i + 1) l (bodyOf g.body (parsOf g.fr g.params { c with f := i, names := [], block := 0 }))
def checked (t : Tree) : CS := funs 0 t.funcs (faceOf (dups [] t.funcs (c0 t)))
end Go.Proofs.Ytaadamobapnfbaa
set_option linter.unusedVariables false
set_option linter.unusedSimpArgs false
set_option maxRecDepth 100000
namespace Go.Proofs.Ytaadamobapnfbaa
open Go Go.Abs
def nilv : AV := .v (.slice none 0 0)
structure TreeOk (t : Tree) : Prop where
  ex : TreeWf t
  st : StsWf t
  fu : ∀ g ∈ t.funcs, g.params.length ≤ 1048576 ∧ g.body.length ≤ 1048576 ∧ ∀ k ∈ g.body, 0 ≤ k ∧ k < t.stmts.length
  some : 0 < t.funcs.length
  big : t.exprs.length ≤ 1048576 ∧ t.stmts.length ≤ 1048576 ∧ t.funcs.length ≤ 1048576
/-- a state ahead of the i-th function -/
structure Pre (t : Tree) (i : Nat) (c : CS) : Prop where
  tt : c.t = t
  f0 : 0 ≤ c.f
  f1 : (c.f = 0 ∧ i = 0) ∨ c.f + 1 = i
  lt : c.type.length = t.exprs.length
  ls : c.slot.length = t.exprs.length
  lp : c.put.length = t.stmts.length
  lf : c.func.length = t.stmts.length
  lS : c.slots.length = t.funcs.length
  loops : c.loops = 0
  rest : ∀ j, i ≤ j → j < t.funcs.length → c.slots[j]? = some []
def CS.enter (c : CS) (i : Nat) : CS := { c with f := i, names := [], block := 0 }
theorem Pre.cur {t : Tree} {i : Nat} {c : CS} (h : Pre t i c) (hi : i < t.funcs.length) : (c.enter i).cur = [] := by
  have := h.rest i (Nat.le_refl _) hi
  simp only [CS.cur, CS.enter, Int.toNat_natCast, List.getD_eq_getElem?_getD, this, Option.getD_some]
theorem Pre.enter {t : Tree} {i : Nat} {c : CS} (h : Pre t i c) (hi : i < t.funcs.length) (hb : t.exprs.length ≤ 1048576 ∧ t.stmts.length ≤ 1048576 ∧ t.funcs.length ≤ 1048576) : (c.enter i).ok := by
  have hc := h.cur hi
  refine ⟨by show (0:Int) ≤ (i:Int); omega, ?_, by rw [hc]; simp, by rw [hc]; simp [CS.enter], fun n hn => by simp [CS.enter] at hn, ?_, ?_, ?_, ?_, ?_, ?_⟩
  · show ((i:Nat):Int) < (c.slots.length : Int); rw [h.lS]; omega
  · show c.type.length = c.t.exprs.length; rw [h.lt, h.tt]
  · show c.slot.length = c.t.exprs.length; rw [h.ls, h.tt]
  · show c.put.length = c.t.stmts.length; rw [h.lp, h.tt]
  · show c.func.length = c.t.stmts.length; rw [h.lf, h.tt]
  · show c.slots.length = c.t.funcs.length; rw [h.lS, h.tt]
  · show c.t.exprs.length ≤ 1048576 ∧ c.t.stmts.length ≤ 1048576 ∧ c.t.funcs.length ≤ 1048576; rw [h.tt]; exact hb
theorem KeptS.pars (fr : Int) : ∀ (l : List ByteArray) (c : CS), c.ok → KeptS c (parsOf fr l c)
  | [], c, _ => .refl c
  | p :: l, c, h => by
    have h1 : KeptS c (if c.code = 0 then (c.decl p 1 fr).1 else c) := by
      split
      · exact .decl h _ _ _
      · exact .refl c
    exact h1.trans (KeptS.pars fr l _ (h1.ok h))
theorem KeptS.body : ∀ (l : List Int) (c : CS), c.ok → KeptS c (bodyOf l c)
  | [], c, _ => .refl c
  | k :: l, c, h => by
    have h1 := KeptS.stm6 c.t.stmts.length c k h
    exact h1.trans (KeptS.body l _ (h1.ok h))
theorem Pre.next {t : Tree} {i : Nat} {c d : CS} (h : Pre t i c) (hi : i < t.funcs.length) (hk : KeptS (c.enter i) d) : Pre t (i + 1) d := by
  refine ⟨hk.t.trans h.tt, by rw [hk.f]; show (0:Int) ≤ (i:Int); omega, .inr (by rw [hk.f]; show (i:Int) + 1 = ((i+1:Nat):Int); omega), hk.lt.trans h.lt, hk.ls.trans h.ls, hk.lp.trans h.lp, hk.lf.trans h.lf, hk.lS.trans h.lS, hk.loops.trans h.loops, fun j hj hl => ?_⟩
  have hne : j ≠ (c.enter i).f.toNat := by show j ≠ ((i:Nat):Int).toNat; omega
  rw [hk.other j hne]
  exact h.rest j (by omega) hl
theorem Kept.dupOf (g : Fu) : ∀ (l : List Fu) (c : CS), Kept c (dupOf g l c) ∧ (dupOf g l c).type = c.type ∧ (dupOf g l c).slot = c.slot
  | [], c => ⟨.refl c, rfl, rfl⟩
  | f :: l, c => by
    have h := Kept.dupOf g l (c.need (!(f.name.data.toList == g.name.data.toList)) g.fr 7)
    have h2 : (c.need (!(f.name.data.toList == g.name.data.toList)) g.fr 7).type = c.type ∧ (c.need (!(f.name.data.toList == g.name.data.toList)) g.fr 7).slot = c.slot := by
      unfold CS.need; split <;> exact ⟨rfl, rfl⟩
    exact ⟨(Kept.need _ _ _ _).trans h.1, h.2.1.trans h2.1, h.2.2.trans h2.2⟩
theorem Kept.dups : ∀ (l pre : List Fu) (c : CS), Kept c (dups pre l c) ∧ (dups pre l c).type = c.type ∧ (dups pre l c).slot = c.slot
  | [], pre, c => ⟨.refl c, rfl, rfl⟩
  | g :: l, pre, c => by
    have h1 := Kept.dupOf g pre c
    have h := Kept.dups l (pre ++ [g]) (Ytaadamobapnfbaa.dupOf g pre c)
    exact ⟨h1.1.trans h.1, h.2.1.trans h1.2.1, h.2.2.trans h1.2.2⟩
theorem Kept.face (c : CS) : Kept c (faceOf c) := (Kept.need _ _ _ _).trans (.need _ _ _ _)
theorem pre0 (t : Tree) : Pre t 0 (faceOf (dups [] t.funcs (c0 t))) := by
  have h := (Kept.dups t.funcs [] (c0 t)).1.trans (Kept.face _)
  refine ⟨h.t, by rw [h.f]; exact Int.le_refl 0, .inl ⟨h.f, rfl⟩, by rw [h.lt]; simp [c0], by rw [h.ls]; simp [c0], by rw [h.put]; simp [c0], by rw [h.func]; simp [c0], by rw [h.slots]; simp [c0], h.loops, fun j _ hj => ?_⟩
  rw [h.slots]; simp [c0, hj]
theorem slots_get {c : CS} {τ : Nat} {j : Nat} : (c.slotCells τ)[j]? = (c.slots[j]?).map (slotCell τ c.f j) := by
  simp only [CS.slotCells, List.getElem?_mapIdx]
theorem LeL.of : ∀ (l m : List AV), l.length = m.length → (∀ (j : Nat) (x y : AV), l[j]? = some x → m[j]? = some y → AV.Le x y) → LeL l m
  | [], [], _, _ => .nil
  | x :: l, y :: m, h, hg => .cons (hg 0 x y rfl rfl) (LeL.of l m (by simpa using h) fun j a b ha hb => hg (j + 1) a b (by simpa using ha) (by simpa using hb))
  | [], _ :: _, h, _ => by simp at h
  | _ :: _, [], h, _ => by simp at h
theorem enter_le {t : Tree} {i : Nat} {c : CS} (h : Pre t i c) (hi : i < t.funcs.length) (τ : Nat) : LeL (c.slotCells τ) ((c.enter i).slotCells τ) := by
  refine LeL.of _ _ (by simp [CS.slotCells, CS.enter]) fun j x y hx hy => ?_
  rw [slots_get] at hx hy
  obtain ⟨s, hs, rfl⟩ := Option.map_eq_some_iff.1 hx
  obtain ⟨s', hs', rfl⟩ := Option.map_eq_some_iff.1 hy
  have e : s' = s := Option.some.inj (hs'.symm.trans hs)
  subst e
  have h0 := h.f0
  have h1 := h.f1
  have hlt : j < t.funcs.length := by rw [← h.lS]; exact (List.getElem?_eq_some_iff.1 hs).1
  have hr : i ≤ j → s' = [] := fun hij => Option.some.inj (hs.symm.trans (h.rest j hij hlt))
  show AV.Le (slotCell τ c.f j s') (slotCell τ (i : Int) j s')
  unfold slotCell
  by_cases a1 : (j : Int) = c.f
  · rw [if_pos a1]
    by_cases b1 : (j : Int) = (i : Int)
    · rw [if_pos b1]; exact .refl _
    · rw [if_neg b1]
      by_cases b2 : (j : Int) < (i : Int)
      · rw [if_pos b2]; exact .tok 1 _ _
      · omega
  · rw [if_neg a1]
    by_cases a2 : (j : Int) < c.f
    · rw [if_pos a2, if_neg (by omega), if_pos (by omega)]; exact .refl _
    · rw [if_neg a2]
      by_cases b1 : (j : Int) = (i : Int)
      · rw [if_pos b1, hr (by omega)]; exact .nilT 1 _
      · rw [if_neg b1]
        by_cases b2 : (j : Int) < (i : Int)
        · omega
        · rw [if_neg b2]; exact .refl _
theorem nils_le (τ : Nat) (n : Nat) : LeL (List.replicate n nilv) (CS.slotCells { t := default, type := [], slot := [], put := [], func := [], slots := List.replicate n [] } τ) := by
  refine LeL.of _ _ (by simp [CS.slotCells]) fun j x y hx hy => ?_
  rw [slots_get] at hy
  obtain ⟨s', hs', rfl⟩ := Option.map_eq_some_iff.1 hy
  have e1 : x = nilv := by have := List.mem_of_getElem? hx; exact (List.mem_replicate.1 this).2
  have e2 : s' = [] := by have := List.mem_of_getElem? hs'; exact (List.mem_replicate.1 this).2
  subst e1; subst e2
  unfold slotCell nilv
  split
  · exact .nilT 1 _
  · split
    · exact .nilT 1 _
    · exact .refl _
theorem dups_drop (l : List Fu) (i : Nat) (c : CS) (h : i < l.length) : dups (l.take i) (l.drop i) c = dups (l.take (i + 1)) (l.drop (i + 1)) (dupOf l[i] (l.take i) c) := by
  rw [List.drop_eq_getElem_cons h, List.take_add_one, List.getElem?_eq_getElem h]; rfl
theorem funs_drop (l : List Fu) (i : Nat) (c : CS) (h : i < l.length) : funs i (l.drop i) c = funs (i + 1) (l.drop (i + 1)) (bodyOf l[i].body (parsOf l[i].fr l[i].params (c.enter i))) := by
  rw [List.drop_eq_getElem_cons h]; rfl
theorem pars_drop (fr : Int) (l : List ByteArray) (i : Nat) (c : CS) (h : i < l.length) : parsOf fr (l.drop i) c = parsOf fr (l.drop (i + 1)) (if c.code = 0 then (c.decl l[i] 1 fr).1 else c) := by
  rw [List.drop_eq_getElem_cons h]; rfl
theorem body_drop (l : List Int) (i : Nat) (c : CS) (h : i < l.length) : bodyOf (l.drop i) c = bodyOf (l.drop (i + 1)) (stm6 c.t.stmts.length c l[i]) := by
  rw [List.drop_eq_getElem_cons h]; rfl
inductive RK (t : Tree) : AOut → List Abs.Item → Prop
  | bad (h : (checked t).code ≠ 0) : RK t (.ret (.tup [.agg [nilv, nilv, nilv, nilv, nilv], vi (checked t).at_, vi (checked t).code])) []
  | good (h : (checked t).code = 0) (m : Ms) (τ : Nat) : RK t (.ret (.tup [.agg [.sl 1 m.mT 0 (checked t).type.length, .sl 1 m.mS 0 (checked t).slot.length, .sl 1 m.mP 0 (checked t).put.length, .sl 1 m.mF 0 (checked t).func.length, .sl 1 m.mL 0 (checked t).slots.length], vi 0, vi 0])) ((checked t).items m τ)
theorem fu_at {t : Tree} {i : Nat} (h : i < t.funcs.length) : (t.funcs.map Fu.cells)[i]? = some t.funcs[i].cells := by
  simp only [List.getElem?_map, List.getElem?_eq_getElem h, Option.map_some]
end Go.Proofs.Ytaadamobapnfbaa
set_option linter.unusedVariables false
set_option linter.unusedSimpArgs false
set_option maxRecDepth 100000
namespace Go.Proofs.Ytaadamobapnfbaa
open Go Go.Abs
theorem row1 (x : AV) : ∀ r ∈ [[x]], r.length = 1 := fun r h => by rw [List.mem_singleton] at h; subst h; rfl
end Go.Proofs.Ytaadamobapnfbaa
set_option linter.unusedVariables false
set_option linter.unusedSimpArgs false
namespace Go.Proofs.Ytaadamobapnfbaa
open Go Go.Abs
inductive Rt where
  | e (r : Int)
  | s (r : Int)
def Ex.kids (x : Ex) : List Int := if x.kind = 9 then [x.a, x.b] else if x.kind = 5 ∨ x.kind = 8 then [x.a] else if x.kind = 6 then x.list else []
def St.xs (s : St) : List Int := if s.kind = 4 then [s.a, s.b] else if s.kind = 9 then (if s.a < 0 then [] else [s.a]) else if s.kind = 2 ∨ s.kind = 7 ∨ s.kind = 8 then [] else [s.a]
def St.kids (s : St) : List Rt := s.xs.map .e ++ (s.thn ++ s.els).map .s
/-- roots cover expressions and statements -/
inductive Cov (es : List Ex) (ss : List St) : List Rt → Nat → Nat → Nat → Nat → Prop
  | nil (a b : Nat) : Cov es ss [] a b a b
  | e {r a b c d : Nat} {x : Ex} {l : List Rt} (hx : es[r]? = some x) (hk : Cov es ss (x.kids.map .e) a b r b) (hl : Cov es ss l (r + 1) b c d) : Cov es ss (.e (r : Int) :: l) a b c d
  | s {r a b c d e1 : Nat} {x : St} {l : List Rt} (hx : ss[r]? = some x) (hk : Cov es ss x.kids a b e1 r) (hl : Cov es ss l e1 (r + 1) c d) : Cov es ss (.s (r : Int) :: l) a b c d
theorem Cov.append {es : List Ex} {ss : List St} {l l' : List Rt} {a b c d e f : Nat} (h : Cov es ss l a b c d) (h' : Cov es ss l' c d e f) : Cov es ss (l ++ l') a b e f := by
  induction h with
  | nil a b => exact h'
  | e hx hk hl ih1 ih2 => exact .e hx hk (ih2 h')
  | s hx hk hl ih1 ih2 => exact .s hx hk (ih2 h')
theorem get_append {α : Type} {l l' : List α} {i : Nat} {x : α} (h : l[i]? = some x) : (l ++ l')[i]? = some x := by
  rw [List.getElem?_append_left (List.getElem?_eq_some_iff.1 h).1]; exact h
theorem Cov.more {es es' : List Ex} {ss ss' : List St} {l : List Rt} {a b c d : Nat} (h : Cov es ss l a b c d) : Cov (es ++ es') (ss ++ ss') l a b c d := by
  induction h with
  | nil a b => exact .nil a b
  | e hx hk hl ih1 ih2 => exact .e (get_append hx) ih1 ih2
  | s hx hk hl ih1 ih2 => exact .s (get_append hx) ih1 ih2
theorem Cov.le {es : List Ex} {ss : List St} {l : List Rt} {a b c d : Nat} (h : Cov es ss l a b c d) : a ≤ c ∧ b ≤ d := by
  induction h with
  | nil a b => exact ⟨Nat.le_refl _, Nat.le_refl _⟩
  | e hx hk hl ih1 ih2 => omega
  | s hx hk hl ih1 ih2 => omega
/-- from which tokens a node's span comes -/
def Span (toks : List Tok) (a b fr to : Int) : Prop := ∃ i j : Int, a ≤ i ∧ i < j ∧ j ≤ b ∧ fr = (toks.getD i.toNat default).fr ∧ to = (toks.getD (j - 1).toNat default).to
theorem Span.wide {toks : List Tok} {a b a' b' fr to : Int} (h : Span toks a b fr to) (h1 : a' ≤ a) (h2 : b ≤ b') : Span toks a' b' fr to := by
  obtain ⟨i, j, h3, h4, h5, h6, h7⟩ := h
  exact ⟨i, j, by omega, h4, by omega, h6, h7⟩
structure ExOk (x : Ex) : Prop where
  k1 : 1 ≤ x.kind ∧ x.kind ≤ 9
  op9 : x.kind = 9 → 0 < x.op.size
  op8 : x.kind = 8 → x.op.data.toList = [45] ∨ x.op.data.toList = [33]
  ls : x.kind = 6 ∨ x.list = []
structure StOk (x : St) : Prop where
  k1 : 1 ≤ x.kind ∧ x.kind ≤ 11
  nm : x.kind ≤ 4 ↔ 0 < x.name.size
  th : x.kind ≠ 5 → x.kind ≠ 6 → x.thn = []
  el : x.kind ≠ 5 → x.els = []
structure Grow (k : Int) (p q : PS) (l : List Rt) : Prop where
  text : q.text = p.text
  toks : q.toks = p.toks
  funcs : q.funcs = p.funcs
  adv : p.at_ + k ≤ q.at_
  exs : ∃ xs, q.exprs = p.exprs ++ xs
  sts : ∃ ys, q.stmts = p.stmts ++ ys
  cov : Cov q.exprs q.stmts l p.exprs.length p.stmts.length q.exprs.length q.stmts.length
  exok : ∀ (i : Nat) (x : Ex), p.exprs.length ≤ i → q.exprs[i]? = some x → ExOk x ∧ Span p.toks p.at_ q.at_ x.fr x.to
  stok : ∀ (i : Nat) (x : St), p.stmts.length ≤ i → q.stmts[i]? = some x → StOk x ∧ Span p.toks p.at_ q.at_ x.fr x.to
def GR (k : Int) (p q : PS) (l : List Rt) : Prop := q.code = 0 → p.code = 0 ∧ Grow k p q l
theorem GR.then {k k' : Int} {p q r : PS} {l l' : List Rt} (h : GR k p q l) (h' : GR k' q r l') (hk : 0 ≤ k) (hk' : 0 ≤ k') : GR (k + k') p r (l ++ l') := by
  intro hc
  obtain ⟨hq, g'⟩ := h' hc
  obtain ⟨hp, g⟩ := h hq
  have a1 := g.adv
  have a2 := g'.adv
  obtain ⟨xs, ex⟩ := g.exs
  obtain ⟨xs', ex'⟩ := g'.exs
  obtain ⟨ys, sx⟩ := g.sts
  obtain ⟨ys', sx'⟩ := g'.sts
  refine ⟨hp, g'.text.trans g.text, g'.toks.trans g.toks, g'.funcs.trans g.funcs, by omega, ⟨xs ++ xs', by rw [ex', ex, List.append_assoc]⟩, ⟨ys ++ ys', by rw [sx', sx, List.append_assoc]⟩, ?_, fun i x hi hx => ?_, fun i x hi hx => ?_⟩
  · refine Cov.append (c := q.exprs.length) (d := q.stmts.length) ?_ g'.cov
    rw [ex', sx']
    exact g.cov.more
  · by_cases hlt : i < q.exprs.length
    · rw [ex', List.getElem?_append_left hlt] at hx
      have := g.exok i x hi hx
      exact ⟨this.1, this.2.wide (Int.le_refl _) (by omega)⟩
    · have := g'.exok i x (by omega) hx
      rw [g.toks] at this
      exact ⟨this.1, this.2.wide (by omega) (Int.le_refl _)⟩
  · by_cases hlt : i < q.stmts.length
    · rw [sx', List.getElem?_append_left hlt] at hx
      have := g.stok i x hi hx
      exact ⟨this.1, this.2.wide (Int.le_refl _) (by omega)⟩
    · have := g'.stok i x (by omega) hx
      rw [g.toks] at this
      exact ⟨this.1, this.2.wide (by omega) (Int.le_refl _)⟩
theorem GR.weak {k k' : Int} {p q : PS} {l : List Rt} (h : GR k p q l) (hk : k' ≤ k) : GR k' p q l := fun hc => by
  obtain ⟨h1, h2⟩ := h hc
  exact ⟨h1, { h2 with adv := by have := h2.adv; omega }⟩
theorem GR.list {k : Int} {p q : PS} {l l' : List Rt} (h : GR k p q l) (e : l = l') : GR k p q l' := e ▸ h
theorem GR.dead {k : Int} {p q : PS} {l : List Rt} (h : q.code ≠ 0) : GR k p q l := fun hc => absurd hc h
theorem GR.refl (p : PS) : GR 0 p p [] := fun hc =>
  ⟨hc, rfl, rfl, rfl, by omega, ⟨[], by simp⟩, ⟨[], by simp⟩, .nil _ _, fun i x hi hx => (by rw [List.getElem?_eq_none hi] at hx; cases hx), fun i x hi hx => (by rw [List.getElem?_eq_none hi] at hx; cases hx)⟩
theorem GR.fail (p : PS) (c : Int) (hc : c ≠ 0) (k : Int) (l : List Rt) : GR k p (p.fail c) l := .dead (by
  unfold PS.fail; split
  · exact hc
  · rename_i h; exact h)
theorem GR.skip (p : PS) : GR 1 p p.skip [] := fun hc =>
  ⟨hc, rfl, rfl, rfl, by simp [PS.skip], ⟨[], by simp [PS.skip]⟩, ⟨[], by simp [PS.skip]⟩, .nil _ _, fun i x hi hx => (by rw [show p.skip.exprs = p.exprs from rfl, List.getElem?_eq_none hi] at hx; cases hx), fun i x hi hx => (by rw [show p.skip.stmts = p.stmts from rfl, List.getElem?_eq_none hi] at hx; cases hx)⟩
theorem GR.want (p : PS) (s : ByteArray) : GR 1 p (p.want s) [] := by
  unfold PS.want
  split
  · exact .skip p
  · exact .fail p 3 (by decide) _ _
theorem GR.kindOf (p : PS) (k : Int) : GR 1 p (p.kindOf k).1 [] := by
  unfold PS.kindOf
  split
  · exact .fail p 3 (by decide) _ _
  · exact .skip p
theorem GR.deep (p : PS) (d : Int) : GR 0 p (p.deep d) [] := by
  unfold PS.deep
  split
  · exact .fail p 4 (by decide) _ _
  · exact .refl p
theorem GR.many (p : PS) : GR 0 p p.many [] := by
  unfold PS.many
  split
  · exact .fail p 5 (by decide) _ _
  · exact .refl p
theorem GR.put {k : Int} {p0 p : PS} {x : Ex} {fr : Int} {l : List Rt} (h : GR k p0 p l) (hk : 1 ≤ k) (hl : l = x.kids.map .e) (hfr : fr = p0.here) (hx : p.code = 0 → ExOk x) : GR k p0 (p.put fr x).1 [.e (p.put fr x).2] := by
  intro hc
  by_cases hp : p.code ≠ 0
  · unfold PS.put at hc; rw [if_pos hp] at hc; exact absurd hc hp
  have hp' : p.code = 0 := Decidable.byContradiction hp
  obtain ⟨h0, g⟩ := h hp'
  have ha := g.adv
  obtain ⟨xs, ex⟩ := g.exs
  have hxx := hx hp'
  unfold PS.put
  rw [if_neg hp]
  refine ⟨h0, g.text, g.toks, g.funcs, g.adv, ⟨xs ++ [{ x with fr := fr, to := p.lastTo }], by dsimp only; rw [ex, List.append_assoc]⟩, g.sts, ?_, fun i y hi hy => ?_, fun i y hi hy => g.stok i y hi hy⟩
  · dsimp only
    have hcov := g.cov.more (es' := [{ x with fr := fr, to := p.lastTo }]) (ss' := [])
    rw [List.append_nil] at hcov
    rw [hl] at hcov
    have hs : p.stmts.length = p0.stmts.length := by
      obtain ⟨ys, sx⟩ := g.sts
      have : ∀ (es : List Ex) (ss : List St) (l : List Int) (a b c d : Nat), Cov es ss (l.map .e) a b c d → b = d := by
        intro es ss l a b c d hcv
        generalize hm : l.map Rt.e = m at hcv
        induction hcv generalizing l with
        | nil => rfl
        | e hx hk hl ih1 ih2 =>
          cases l with
          | nil => simp at hm
          | cons y l => simp at hm; exact ih2 l hm.2
        | s hx hk hl ih1 ih2 =>
          cases l with
          | nil => simp at hm
          | cons y l => simp at hm
      exact (this _ _ _ _ _ _ _ hcov).symm
    rw [List.length_append, List.length_singleton]
    rw [hs] at hcov ⊢
    exact .e (x := { x with fr := fr, to := p.lastTo }) (by simp) hcov (.nil _ _)
  · dsimp only at hy ⊢
    by_cases hlt : i < p.exprs.length
    · rw [List.getElem?_append_left hlt] at hy
      exact g.exok i y hi hy
    · rw [List.getElem?_append_right (by omega)] at hy
      have hy' := List.mem_of_getElem? hy
      rw [List.mem_singleton] at hy'
      subst hy'
      refine ⟨⟨hxx.k1, hxx.op9, hxx.op8, hxx.ls⟩, p0.at_, p.at_, Int.le_refl _, by omega, Int.le_refl _, ?_, ?_⟩
      · dsimp only; rw [hfr]; rfl
      · dsimp only; unfold PS.lastTo; rw [g.toks]
theorem GR.addC {k : Int} {p0 p : PS} {x : St} {fr : Int} {l : List Rt} (h : GR k p0 p l) (hk : 1 ≤ k) (hl : p.code = 0 → l = x.kids) (hfr : fr = p0.here) (hx : p.code = 0 → StOk x) : GR k p0 (p.add fr x).1 [.s (p.add fr x).2] := by
  intro hc
  by_cases hp : p.many.code ≠ 0
  · unfold PS.add at hc; simp only at hc; rw [if_pos hp] at hc; exact absurd hc hp
  have hp' : p.many.code = 0 := Decidable.byContradiction hp
  have hpm := GR.many p hp'
  have hmp : p.many = p := by
    unfold PS.many at hp' ⊢
    split
    · rename_i hcc
      rw [if_pos hcc] at hp'
      unfold PS.fail at hp'
      rw [if_pos hcc.1] at hp'
      exact absurd (show (5 : Int) = 0 from hp') (by decide)
    · rfl
  obtain ⟨h0, g⟩ := h hpm.1
  have ha := g.adv
  obtain ⟨xs, ex⟩ := g.sts
  have hxx := hx hpm.1
  unfold PS.add
  simp only
  rw [if_neg hp, hmp]
  refine ⟨h0, g.text, g.toks, g.funcs, g.adv, g.exs, ⟨xs ++ [{ x with fr := fr, to := p.lastTo }], by dsimp only; rw [ex, List.append_assoc]⟩, ?_, fun i y hi hy => g.exok i y hi hy, fun i y hi hy => ?_⟩
  · dsimp only
    have hcov := g.cov.more (es' := []) (ss' := [{ x with fr := fr, to := p.lastTo }])
    rw [List.append_nil] at hcov
    rw [hl hpm.1] at hcov
    rw [List.length_append, List.length_singleton]
    exact .s (x := { x with fr := fr, to := p.lastTo }) (by simp) hcov (.nil _ _)
  · dsimp only at hy ⊢
    by_cases hlt : i < p.stmts.length
    · rw [List.getElem?_append_left hlt] at hy
      exact g.stok i y hi hy
    · rw [List.getElem?_append_right (by omega)] at hy
      have hy' := List.mem_of_getElem? hy
      rw [List.mem_singleton] at hy'
      subst hy'
      refine ⟨⟨hxx.k1, hxx.nm, hxx.th, hxx.el⟩, p0.at_, p.at_, Int.le_refl _, by omega, Int.le_refl _, ?_, ?_⟩
      · dsimp only; rw [hfr]; rfl
      · dsimp only; unfold PS.lastTo; rw [g.toks]
theorem GR.add {k : Int} {p0 p : PS} {x : St} {fr : Int} {l : List Rt} (h : GR k p0 p l) (hk : 1 ≤ k) (hl : l = x.kids) (hfr : fr = p0.here) (hx : p.code = 0 → StOk x) : GR k p0 (p.add fr x).1 [.s (p.add fr x).2] :=
  GR.addC h hk (fun _ => hl) hfr hx
theorem Cov.nn {es : List Ex} {ss : List St} {l : List Rt} {a b c d : Nat} (h : Cov es ss l a b c d) : ∀ r, Rt.e r ∈ l → 0 ≤ r := by
  induction h with
  | nil a b => intro r hr; simp at hr
  | e hx hk hl ih1 ih2 =>
    intro r hr
    rcases List.mem_cons.1 hr with h | h
    · cases h; omega
    · exact ih2 r h
  | s hx hk hl ih1 ih2 =>
    intro r hr
    rcases List.mem_cons.1 hr with h | h
    · cases h
    · exact ih2 r h
theorem GR.nn {k : Int} {p q : PS} {l : List Rt} (h : GR k p q l) (hc : q.code = 0) {r : Int} (hr : Rt.e r ∈ l) : 0 ≤ r := (h hc).2.cov.nn r hr
end Go.Proofs.Ytaadamobapnfbaa
set_option linter.unusedVariables false
set_option linter.unusedSimpArgs false
namespace Go.Proofs.Ytaadamobapnfbaa
open Go Go.Abs
theorem size_pos {s : ByteArray} (h : ¬ s.data.toList = []) : 0 < s.size := by
  rcases Nat.eq_zero_or_pos s.size with h0 | h0
  · exact absurd (List.eq_nil_of_length_eq_zero (by simpa using h0)) h
  · exact h0
theorem PS.is_word {p : PS} {s : ByteArray} (h : p.is s = true) : p.word.data.toList = s.data.toList := by
  simp only [PS.is, Bool.and_eq_true, beq_iff_eq] at h
  exact h.2
theorem ExOk.plain {x : Ex} (h : 1 ≤ x.kind ∧ x.kind ≤ 7) (hl : x.kind = 6 ∨ x.list = []) : ExOk x := ⟨by omega, fun h' => by omega, fun h' => by omega, hl⟩
structure Grows (n : Nat) : Prop where
  row : ∀ p l d, GR 1 p (row n p l d).1 [.e (row n p l d).2]
  rowLoop : ∀ p0 k p a l d fr, GR k p0 p [.e a] → 1 ≤ k → fr = p0.here → GR k p0 (rowLoop n p a l d fr).1 [.e (rowLoop n p a l d fr).2]
  exprP : ∀ p d, GR 1 p (exprP n p d).1 [.e (exprP n p d).2]
  unary : ∀ p d, GR 1 p (unary n p d).1 [.e (unary n p d).2]
  primary : ∀ p d, GR 1 p (primary n p d).1 [.e (primary n p d).2]
  callP : ∀ p0 k p fr name d, GR k p0 p [] → 1 ≤ k → fr = p0.here → GR k p0 (callP n p fr name d).1 [.e (callP n p fr name d).2]
  callLoop : ∀ p0 k p l d, GR k p0 p (l.map .e) → 0 ≤ k → GR k p0 (callLoop n p l d).1 ((callLoop n p l d).2.map .e)
theorem grows : ∀ n, Grows n
  | 0 => ⟨fun p _ _ => .fail p 98 (by decide) _ _, fun _ _ p _ _ _ _ _ _ _ => .dead (by unfold Ytaadamobapnfbaa.rowLoop PS.fail; split; exact (by decide : (98:Int) ≠ 0); assumption), fun p _ => .fail p 98 (by decide) _ _, fun p _ => .fail p 98 (by decide) _ _,
      fun p _ => .fail p 98 (by decide) _ _, fun _ _ p _ _ _ _ _ _ => .dead (by unfold Ytaadamobapnfbaa.callP PS.fail; split; exact (by decide : (98:Int) ≠ 0); assumption), fun _ _ p _ _ _ _ => .dead (by unfold Ytaadamobapnfbaa.callLoop PS.fail; split; exact (by decide : (98:Int) ≠ 0); assumption)⟩
  | n + 1 => by
    have ih := grows n
    refine ⟨fun p l d => ?_, fun p0 k p a l d fr h hk hfr => ?_, fun p d => ?_, fun p d => ?_, fun p d => ?_, fun p0 k p fr name d h hk hfr => ?_, fun p0 k p l d h hk => ?_⟩
    · unfold Ytaadamobapnfbaa.row
      split
      · exact ih.unary p d
      · exact ih.rowLoop p 1 _ _ _ _ _ (ih.row p _ d) (by decide) rfl
    · unfold Ytaadamobapnfbaa.rowLoop
      split
      · exact h
      · rename_i hs
        have h1 := (h.then (GR.skip p) (by omega) (by decide)).then (ih.row p.skip (l + 1) d) (by omega) (by decide)
        have h2 := GR.put (x := { kind := 9, op := p.sign l, a := a, b := (Ytaadamobapnfbaa.row n p.skip (l + 1) d).2 }) (fr := fr) h1 (by omega) rfl hfr (fun _ => ⟨(by decide : (1 : Int) ≤ 9 ∧ (9 : Int) ≤ 9), fun _ => size_pos hs, fun h => absurd (show (9 : Int) = 8 from h) (by decide), .inr rfl⟩)
        split
        · exact h2.weak (by omega)
        · exact ih.rowLoop p0 k _ _ _ _ _ (h2.weak (by omega)) hk hfr
    · unfold Ytaadamobapnfbaa.exprP
      split
      · rename_i h; exact .dead h
      · exact (GR.deep p d).then (ih.row _ 0 d) (by decide) (by decide)
    · unfold Ytaadamobapnfbaa.unary
      split
      · rename_i h
        split
        · rename_i h; exact .dead h
        · have h1 := ((GR.skip p).then (GR.deep p.skip (d + 1)) (by decide) (by decide)).then (ih.unary _ (d + 1)) (by decide) (by decide)
          refine (GR.put (x := { kind := 8, op := p.word, a := _ }) (fr := p.here) h1 (by decide) rfl rfl (fun _ => ⟨(by decide : (1 : Int) ≤ 8 ∧ (8 : Int) ≤ 9), fun h => absurd (show (8 : Int) = 9 from h) (by decide), fun _ => ?_, .inr rfl⟩)).weak (by decide)
          exact h.imp PS.is_word PS.is_word
      · exact ih.primary p d
    · unfold Ytaadamobapnfbaa.primary
      split
      · rename_i h; exact .dead h
      split
      · exact GR.put (GR.kindOf p 2) (by decide) rfl rfl (fun _ => .plain (show (1 : Int) ≤ 1 ∧ (1 : Int) ≤ 7 by decide) (.inr rfl))
      split
      · exact GR.put (GR.want p _) (by decide) rfl rfl (fun _ => .plain (show (1 : Int) ≤ 2 ∧ (2 : Int) ≤ 7 by decide) (.inr rfl))
      split
      · exact GR.put (GR.want p _) (by decide) rfl rfl (fun _ => .plain (show (1 : Int) ≤ 3 ∧ (3 : Int) ≤ 7 by decide) (.inr rfl))
      split
      · exact GR.put (GR.want p _) (by decide) rfl rfl (fun _ => .plain (show (1 : Int) ≤ 7 ∧ (7 : Int) ≤ 7 by decide) (.inr rfl))
      split
      · exact ((((GR.want p _).then (ih.exprP _ _) (by decide) (by decide)).then (GR.want _ _) (by decide) (by decide)).weak (by decide)).list rfl
      have hk := GR.kindOf p 1
      split
      · have h1 := (((hk.then (GR.want _ w_lb) (by decide) (by decide)).then (ih.exprP _ (d + 1)) (by decide) (by decide)).then (GR.want _ w_rb) (by decide) (by decide))
        exact (GR.put h1 (by decide) rfl rfl (fun _ => .plain (show (1 : Int) ≤ 5 ∧ (5 : Int) ≤ 7 by decide) (.inr rfl))).weak (by decide)
      split
      · exact ih.callP p 1 _ _ _ _ hk (by decide) rfl
      · exact GR.put hk (by decide) rfl rfl (fun _ => .plain (show (1 : Int) ≤ 4 ∧ (4 : Int) ≤ 7 by decide) (.inr rfl))
    · unfold Ytaadamobapnfbaa.callP
      have h1 := h.then (GR.want p w_lp) (by omega) (by decide)
      have h2 := (ih.callLoop p0 (k + 1) _ [] d h1 (by omega)).then (GR.want _ w_rp) (by omega) (by decide)
      exact (GR.put h2 (by omega) (List.append_nil _) hfr (fun _ => .plain (show (1 : Int) ≤ 6 ∧ (6 : Int) ≤ 7 by decide) (.inl rfl))).weak (by omega)
    · unfold Ytaadamobapnfbaa.callLoop
      split
      · have h0 : GR 0 p (if l = [] then p else p.want w_comma) [] := by
          split
          · exact .refl p
          · exact (GR.want p _).weak (by decide)
        have h1 := (h.then h0 hk (by decide)).then (ih.exprP _ (d + 1)) (by omega) (by decide)
        exact ih.callLoop p0 k _ _ d ((h1.weak (by omega)).list (by simp)) hk
      · exact h
end Go.Proofs.Ytaadamobapnfbaa
set_option linter.unusedVariables false
set_option linter.unusedSimpArgs false
namespace Go.Proofs.Ytaadamobapnfbaa
open Go Go.Abs
/-- names are not empty -/
def named (l : List Tok) : Prop := ∀ t ∈ l, t.kind ≠ 0 → t.fr < t.to
structure Long (p : PS) : Prop where
  ok : p.ok
  nm : named p.toks
theorem Long.step {e s : Int} {p q : PS} (h : Long p) (hs : Step e s p q) (he : 0 ≤ e) (hss : 0 ≤ s) : Long q := ⟨hs.ok he hss h.ok, by rw [hs.toks]; exact h.nm⟩
theorem kindOf_name {p : PS} (h : Long p) (k : Int) (hk : k ≠ 0) (hc : (p.kindOf k).1.code = 0) : 0 < (p.kindOf k).2.size := by
  unfold PS.kindOf at hc ⊢
  split
  · rename_i h'
    rw [if_pos h'] at hc
    exact absurd hc (by unfold PS.fail; split; exact (by decide : (3:Int) ≠ 0); assumption)
  · rename_i h'
    have h2 : p.tok.kind = k := Decidable.byContradiction fun h'' => h' (.inr h'')
    have h3 := h.nm _ h.ok.mem (by rw [h2]; exact hk)
    have h4 := h.ok.span
    show 0 < (p.text.extract p.tok.fr.toNat p.tok.to.toNat).size
    rw [ByteArray.size_extract]; omega
theorem kids5 (a : Int) (l m : List Int) (s : St) (hk : s.kind = 5 ∨ s.kind = 6) (ha : s.a = a) (h1 : s.thn = l) (h2 : s.els = m) : [Rt.e a] ++ l.map .s ++ m.map .s = s.kids := by
  subst ha; subst h1; subst h2
  have hx : s.xs = [s.a] := by
    unfold St.xs
    rw [if_neg (by omega), if_neg (by omega), if_neg (by omega)]
  unfold St.kids; rw [hx, List.map_append]; simp
theorem StOk.jump {s : St} (hk : 5 ≤ s.kind ∧ s.kind ≤ 11) (hn : s.name.size = 0) (ht : s.kind ≠ 5 → s.kind ≠ 6 → s.thn = []) (he : s.kind ≠ 5 → s.els = []) : StOk s := ⟨by omega, by omega, ht, he⟩
theorem StOk.name {s : St} (hk : 1 ≤ s.kind ∧ s.kind ≤ 4) (hn : 0 < s.name.size) (ht : s.thn = []) (he : s.els = []) : StOk s := ⟨by omega, by omega, fun _ _ => ht, fun _ => he⟩
theorem GR.code {k : Int} {p q : PS} {l : List Rt} (h : GR k p q l) (hc : q.code = 0) : p.code = 0 := (h hc).1
structure Grows2 (n : Nat) : Prop where
  block : ∀ p d, Long p → GR 1 p (block n p d).1 ((block n p d).2.map .s)
  blockLoop : ∀ p0 k p l d, Long p → GR k p0 p (l.map .s) → 0 ≤ k → GR k p0 (blockLoop n p l d).1 ((blockLoop n p l d).2.map .s)
  stmt : ∀ p d, Long p → GR 1 p (stmt n p d).1 [.s (stmt n p d).2]
  branch : ∀ p0 k p fr d, Long p → GR k p0 p [] → 1 ≤ k → fr = p0.here → GR k p0 (branch n p fr d).1 [.s (branch n p fr d).2]
theorem failed (p : PS) (c : Int) (hc : c ≠ 0) : (p.fail c).code ≠ 0 := by
  unfold PS.fail; split
  · exact hc
  · assumption
theorem grows2 : ∀ n, Grows2 n
  | 0 => ⟨fun p _ _ => .fail p 98 (by decide) _ _, fun _ _ p _ _ _ _ _ => .dead (failed p 98 (by decide)), fun p _ _ => .fail p 98 (by decide) _ _, fun _ _ p _ _ _ _ _ _ => .dead (failed p 98 (by decide))⟩
  | n + 1 => by
    have ih := grows2 n
    have ie := grows n
    have is_ := steps n
    have is2 := steps2 n
    refine ⟨fun p d hp => ?_, fun p0 k p l d hp h hk => ?_, fun p d hp => ?_, fun p0 k p fr d hp h hk hfr => ?_⟩
    · unfold Ytaadamobapnfbaa.block
      have g0 : GR 0 p (if p.is w_lc = true then p.deep d else p) [] := by
        split
        · exact .deep p d
        · exact .refl p
      have s0 : Step 0 0 p (if p.is w_lc = true then p.deep d else p) := by
        split
        · exact .deep p d
        · exact .refl p
      have g1 := g0.then (GR.want _ w_lc) (by decide) (by decide)
      have s1 := s0.then (Step.want _ w_lc) (by decide) (by decide)
      exact (((ih.blockLoop p 1 _ [] d (hp.step s1 (by decide) (by decide)) g1 (by decide)).then (GR.want _ w_rc) (by decide) (by decide)).weak (by decide)).list (List.append_nil _)
    · unfold Ytaadamobapnfbaa.blockLoop
      split
      · have g1 := h.then (ih.stmt p d hp) hk (by decide)
        exact ih.blockLoop p0 k _ _ d (hp.step (is2.stmt p d) (by decide) (by decide)) ((g1.weak (by omega)).list (by simp)) hk
      · exact h
    · unfold Ytaadamobapnfbaa.stmt
      split
      · exact ih.branch p 1 _ _ d (hp.step (Step.want p _) (by decide) (by decide)) (GR.want p _) (by decide) rfl
      split
      · have s1 := (Step.want p w_while).then (is_.exprP _ d) (by decide) (by decide)
        have g1 := ((GR.want p w_while).then (ie.exprP _ d) (by decide) (by decide)).then (ih.block _ (d + 1) (hp.step s1 (by decide) (by decide))) (by decide) (by decide)
        refine (GR.add (x := { kind := 6, a := _, thn := _ }) g1 (by decide) (Eq.trans ?_ (kids5 _ _ _ _ (.inr rfl) rfl rfl rfl)) rfl (fun _ => .jump (show (5 : Int) ≤ 6 ∧ (6 : Int) ≤ 11 by decide) rfl (fun _ h => absurd rfl h) (fun _ => rfl))).weak (by decide)
        simp
      split
      · have gk := (GR.want p w_var).then (GR.kindOf _ 1) (by decide) (by decide)
        have hn := kindOf_name (hp.step (Step.want p w_var) (by decide) (by decide)) 1 (by decide)
        split
        · have g1 := (((gk.then (GR.want _ w_lb) (by decide) (by decide)).then (GR.kindOf _ 2) (by decide) (by decide)).then (GR.want _ w_rb) (by decide) (by decide))
          have g0 := (((GR.want ((p.want w_var).kindOf 1).1 w_lb).then (GR.kindOf _ 2) (by decide) (by decide)).then (GR.want _ w_rb) (by decide) (by decide)).then (GR.want _ w_semi) (by decide) (by decide)
          have g2 := g1.then (GR.want _ w_semi) (by decide) (by decide)
          exact (GR.add g2 (by decide) rfl rfl (fun hc => .name (show (1 : Int) ≤ 2 ∧ (2 : Int) ≤ 4 by decide) (hn (g0.code hc)) rfl rfl)).weak (by decide)
        · have g0 := ((GR.want ((p.want w_var).kindOf 1).1 w_eq).then (ie.exprP _ d) (by decide) (by decide)).then (GR.want _ w_semi) (by decide) (by decide)
          have g2 := gk.then g0 (by decide) (by decide)
          exact (GR.add g2 (by decide) rfl rfl (fun hc => .name (show (1 : Int) ≤ 1 ∧ (1 : Int) ≤ 4 by decide) (hn (g0.code hc)) rfl rfl)).weak (by decide)
      split
      · exact (GR.add ((GR.want p _).then (GR.want _ _) (by decide) (by decide)) (by decide) rfl rfl (fun _ => .jump (show (5 : Int) ≤ 7 ∧ (7 : Int) ≤ 11 by decide) rfl (fun _ _ => rfl) (fun _ => rfl))).weak (by decide)
      split
      · exact (GR.add ((GR.want p _).then (GR.want _ _) (by decide) (by decide)) (by decide) rfl rfl (fun _ => .jump (show (5 : Int) ≤ 8 ∧ (8 : Int) ≤ 11 by decide) rfl (fun _ _ => rfl) (fun _ => rfl))).weak (by decide)
      split
      · split
        · exact (GR.add ((GR.want p _).then (GR.want _ _) (by decide) (by decide)) (by decide) rfl rfl (fun _ => .jump (show (5 : Int) ≤ 9 ∧ (9 : Int) ≤ 11 by decide) rfl (fun _ _ => rfl) (fun _ => rfl))).weak (by decide)
        · have g1 := ((GR.want p w_return).then (ie.exprP _ d) (by decide) (by decide)).then (GR.want _ w_semi) (by decide) (by decide)
          refine (GR.addC g1 (by decide) (fun hc => ?_) rfl (fun _ => .jump (show (5 : Int) ≤ 9 ∧ (9 : Int) ≤ 11 by decide) rfl (fun _ _ => rfl) (fun _ => rfl))).weak (by decide)
          have hnn := g1.nn hc (r := (exprP n (p.want w_return) d).2) (by simp)
          unfold St.kids St.xs
          simp only []
          rw [if_neg (by decide), if_pos trivial, if_neg (by omega)]
          rfl
      split
      · exact (GR.add (((GR.want p _).then (ie.exprP _ _) (by decide) (by decide)).then (GR.want _ _) (by decide) (by decide)) (by decide) rfl rfl (fun _ => .jump (show (5 : Int) ≤ 10 ∧ (10 : Int) ≤ 11 by decide) rfl (fun _ _ => rfl) (fun _ => rfl))).weak (by decide)
      have hk := GR.kindOf p 1
      have hn := kindOf_name hp 1 (by decide)
      split
      · exact (GR.add ((ie.callP p 1 _ _ _ d hk (by decide) rfl).then (GR.want _ _) (by decide) (by decide)) (by decide) rfl rfl (fun _ => .jump (show (5 : Int) ≤ 11 ∧ (11 : Int) ≤ 11 by decide) rfl (fun _ _ => rfl) (fun _ => rfl))).weak (by decide)
      split
      · have g0 := ((((GR.want (p.kindOf 1).1 w_lb).then (ie.exprP _ (d + 1)) (by decide) (by decide)).then (GR.want _ w_rb) (by decide) (by decide)).then (GR.want _ w_eq) (by decide) (by decide)).then (ie.exprP _ d) (by decide) (by decide)
        have g1 := g0.then (GR.want _ w_semi) (by decide) (by decide)
        exact (GR.add (hk.then g1 (by decide) (by decide)) (by decide) rfl rfl (fun hc => .name (show (1 : Int) ≤ 4 ∧ (4 : Int) ≤ 4 by decide) (hn (g1.code hc)) rfl rfl)).weak (by decide)
      · have g0 := ((GR.want (p.kindOf 1).1 w_eq).then (ie.exprP _ d) (by decide) (by decide)).then (GR.want _ w_semi) (by decide) (by decide)
        exact (GR.add (hk.then g0 (by decide) (by decide)) (by decide) rfl rfl (fun hc => .name (show (1 : Int) ≤ 3 ∧ (3 : Int) ≤ 4 by decide) (hn (g0.code hc)) rfl rfl)).weak (by decide)
    · unfold Ytaadamobapnfbaa.branch
      simp (config := { zeta := true }) only []
      have s0 := is_.exprP p d
      have s1 := s0.then (is2.block _ (d + 1)) (by decide) (by decide)
      have g1 := (h.then (ie.exprP p d) (by omega) (by decide)).then (ih.block _ (d + 1) (hp.step s0 (by decide) (by decide))) (by omega) (by decide)
      split
      · have g2 := g1.then (GR.want _ w_else) (by omega) (by decide)
        have s2 := s1.then (Step.want _ w_else) (by decide) (by decide)
        split
        · have s3 := s2.then (Step.deep _ (d + 1)) (by decide) (by decide)
          have s4 := s3.then (Step.want _ w_if) (by decide) (by decide)
          have g3 := g2.then (GR.deep _ (d + 1)) (by omega) (by decide)
          have g4 := g3.then (ih.branch _ 1 _ _ (d + 1) (hp.step s4 (by decide) (by decide)) (GR.want _ w_if) (by decide) rfl) (by omega) (by decide)
          refine (GR.add g4 (by omega) (Eq.trans ?_ (kids5 _ _ _ _ (.inl rfl) rfl rfl rfl)) hfr (fun _ => .jump (show (5 : Int) ≤ 5 ∧ (5 : Int) ≤ 11 by decide) rfl (fun h => absurd rfl h) (fun h => absurd rfl h))).weak (by omega)
          simp
        · have g4 := g2.then (ih.block _ (d + 1) (hp.step s2 (by decide) (by decide))) (by omega) (by decide)
          refine (GR.add g4 (by omega) (Eq.trans ?_ (kids5 _ _ _ _ (.inl rfl) rfl rfl rfl)) hfr (fun _ => .jump (show (5 : Int) ≤ 5 ∧ (5 : Int) ≤ 11 by decide) rfl (fun h => absurd rfl h) (fun h => absurd rfl h))).weak (by omega)
          simp
      · refine (GR.add g1 (by omega) (Eq.trans ?_ (kids5 _ _ _ _ (.inl rfl) rfl rfl rfl)) hfr (fun _ => .jump (show (5 : Int) ≤ 5 ∧ (5 : Int) ≤ 11 by decide) rfl (fun h => absurd rfl h) (fun h => absurd rfl h))).weak (by omega)
        simp
end Go.Proofs.Ytaadamobapnfbaa
set_option linter.unusedVariables false
set_option linter.unusedSimpArgs false
namespace Go.Proofs.Ytaadamobapnfbaa
open Go Go.Abs
theorem GR.full (p : PS) : GR 0 p p.full [] := by
  unfold PS.full
  split
  · exact .fail p 5 (by decide) _ _
  · exact .refl p
theorem GR.params : ∀ (n : Nat) (p : PS) (l : List ByteArray), GR 0 p (params n p l).1 []
  | 0, p, l => .fail p 98 (by decide) _ _
  | n + 1, p, l => by
    unfold Ytaadamobapnfbaa.params
    split
    · have h0 : GR 0 p (if l = [] then p else p.want w_comma) [] := by
        split
        · exact .refl p
        · exact (GR.want p _).weak (by decide)
      exact ((h0.then (GR.kindOf _ 1) (by decide) (by decide)).then (GR.params n _ _) (by decide) (by decide)).weak (by decide)
    · exact .refl p
theorem params_len : ∀ (n : Nat) (p : PS) (l : List ByteArray), (params n p l).1.code = 0 → ((params n p l).2.length : Int) + p.at_ ≤ l.length + (params n p l).1.at_
  | 0, p, l, hc => absurd hc (failed p 98 (by decide))
  | n + 1, p, l, hc => by
    unfold Ytaadamobapnfbaa.params at hc ⊢
    split
    · rename_i h
      rw [if_pos h] at hc
      have h0 : GR 0 p (if l = [] then p else p.want w_comma) [] := by
        split
        · exact .refl p
        · exact (GR.want p _).weak (by decide)
      have h1 := (h0.then (GR.kindOf _ 1) (by decide) (by decide))
      have h2 := (GR.params n _ _ hc).1
      have h3 := (h1 h2).2.adv
      have := params_len n _ _ hc
      rw [List.length_append, List.length_singleton] at this
      omega
    · show (l.length : Int) + p.at_ ≤ l.length + p.at_; omega
def funcHead (n : Nat) (p : PS) : PS × List ByteArray := params n (((p.full.want w_func).kindOf 1).1.want w_lp) []
theorem funcEnd_grow (n : Nat) (p : PS) (hp : Long p) : GR 4 p (funcEnd n p).1 ((funcEnd n p).2.map .s) ∧ ((funcEnd n p).1.code = 0 → (funcHead n p).1.code = 0 ∧ ((p.full.want w_func).kindOf 1).1.code = 0) := by
  unfold Ytaadamobapnfbaa.funcEnd funcHead
  have s0 := ((((Step.full p).then (Step.want _ w_func) (by decide) (by decide)).then (Step.kindOf _ 1 (by decide)) (by decide) (by decide)).then (Step.want _ w_lp) (by decide) (by decide))
  have s1 := (s0.then (Step.params n _ []) (by decide) (by decide)).then (Step.want _ w_rp) (by decide) (by decide)
  have g00 := ((GR.full p).then (GR.want _ w_func) (by decide) (by decide)).then (GR.kindOf _ 1) (by decide) (by decide)
  have g0 := g00.then (GR.want _ w_lp) (by decide) (by decide)
  have g1 := (g0.then (GR.params n _ []) (by decide) (by decide)).then (GR.want _ w_rp) (by decide) (by decide)
  have gp := GR.params n (((p.full.want w_func).kindOf 1).1.want w_lp) []
  have key : ∀ q2, GR 0 (((params n (((p.full.want w_func).kindOf 1).1.want w_lp) []).1.want w_rp)) q2 [] → Step 0 0 (((params n (((p.full.want w_func).kindOf 1).1.want w_lp) []).1.want w_rp)) q2 →
      GR 4 p (Ytaadamobapnfbaa.block n q2 1).1 ((Ytaadamobapnfbaa.block n q2 1).2.map .s) ∧ ((Ytaadamobapnfbaa.block n q2 1).1.code = 0 → (params n (((p.full.want w_func).kindOf 1).1.want w_lp) []).1.code = 0 ∧ ((p.full.want w_func).kindOf 1).1.code = 0) := by
    intro q2 gq sq
    have s2 := s1.then sq (by decide) (by decide)
    have gb := (grows2 n).block q2 1 (hp.step s2 (by decide) (by decide))
    refine ⟨(((g1.then gq (by decide) (by decide)).then gb (by decide) (by decide)).weak (by decide)).list (by simp), fun hc => ?_⟩
    have c1 := gq.code (gb.code hc)
    have c2 := (GR.want _ w_rp).code c1
    exact ⟨c2, (GR.want _ w_lp).code (gp.code c2)⟩
  split
  · exact key _ ((GR.want _ w_int).weak (by decide)) ((Step.want _ w_int).weak (by decide) (by decide))
  · exact key _ (.refl _) (.refl _)
structure FOne (toks : List Tok) (es : List Ex) (ss : List St) (g : Fu) (a b : Nat) (x : Int) (c d : Nat) (y : Int) : Prop where
  cov : Cov es ss (g.body.map .s) a b c d
  ex : ∀ (i : Nat) (z : Ex), a ≤ i → i < c → es[i]? = some z → ExOk z ∧ Span toks x y z.fr z.to
  st : ∀ (i : Nat) (z : St), b ≤ i → i < d → ss[i]? = some z → StOk z ∧ Span toks x y z.fr z.to
  lt : x < y
  fr : g.fr = (toks.getD x.toNat default).fr
  to : g.to = (toks.getD (y - 1).toNat default).to
  type : g.type = 1 ∨ g.type = 4
  name : 0 < g.name.size
  params : (g.params.length : Int) ≤ y - x
inductive FCov (toks : List Tok) (es : List Ex) (ss : List St) : List Fu → Nat → Nat → Int → Nat → Nat → Int → Prop
  | nil (a b : Nat) (x : Int) : FCov toks es ss [] a b x a b x
  | snoc {l : List Fu} {g : Fu} {a b c d e f : Nat} {x y z : Int} (h : FCov toks es ss l a b x c d y) (h' : FOne toks es ss g c d y e f z) : FCov toks es ss (l ++ [g]) a b x e f z
theorem FCov.le {toks : List Tok} {es : List Ex} {ss : List St} {l : List Fu} {a b c d : Nat} {x y : Int} (h : FCov toks es ss l a b x c d y) : a ≤ c ∧ b ≤ d ∧ x ≤ y := by
  induction h with
  | nil => simp
  | snoc h h' ih => have := h'.cov.le; have := h'.lt; omega
theorem FOne.more {toks : List Tok} {es es' : List Ex} {ss ss' : List St} {g : Fu} {a b c d : Nat} {x y : Int} (h : FOne toks es ss g a b x c d y) (hc : c ≤ es.length) (hd : d ≤ ss.length) : FOne toks (es ++ es') (ss ++ ss') g a b x c d y :=
  { h with cov := h.cov.more, ex := fun i z h1 h2 hz => h.ex i z h1 h2 (by rw [List.getElem?_append_left (by omega)] at hz; exact hz), st := fun i z h1 h2 hz => h.st i z h1 h2 (by rw [List.getElem?_append_left (by omega)] at hz; exact hz) }
theorem FCov.more {toks : List Tok} {es es' : List Ex} {ss ss' : List St} {l : List Fu} {a b c d : Nat} {x y : Int} (h : FCov toks es ss l a b x c d y) : c ≤ es.length → d ≤ ss.length → FCov toks (es ++ es') (ss ++ ss') l a b x c d y := by
  induction h with
  | nil => exact fun _ _ => .nil _ _ _
  | snoc h h' ih =>
    intro hc hd
    have := h'.cov.le
    exact .snoc (ih (by omega) (by omega)) (h'.more hc hd)
theorem function_forest (n : Nat) (p : PS) (hp : Long p) (hf : FCov p.toks p.exprs p.stmts p.funcs 0 0 0 p.exprs.length p.stmts.length p.at_) (hc : (function n p).code = 0) :
    Long (function n p) ∧ (function n p).toks = p.toks ∧ (function n p).text = p.text ∧ (function n p).funcs ≠ [] ∧ FCov (function n p).toks (function n p).exprs (function n p).stmts (function n p).funcs 0 0 0 (function n p).exprs.length (function n p).stmts.length (function n p).at_ := by
  have ho := function_ok (n := n) hp.ok
  rw [function_eq] at hc ho ⊢
  split at hc
  · rename_i h; exact absurd hc h
  rename_i hq
  rw [if_neg hq] at ho ⊢
  have hq : (funcEnd n p).1.code = 0 := Decidable.byContradiction hq
  obtain ⟨hg, hcs⟩ := funcEnd_grow n p hp
  obtain ⟨c1, c2⟩ := hcs hq
  obtain ⟨hc0, g⟩ := hg hq
  obtain ⟨xs, ex⟩ := g.exs
  obtain ⟨ys, sx⟩ := g.sts
  have hadv := g.adv
  have htk : (funcEnd n p).1.toks = p.toks := g.toks
  refine ⟨⟨ho.1, by show named (funcEnd n p).1.toks; rw [htk]; exact hp.nm⟩, ho.2.1, ho.2.2.1, by simp, ?_⟩
  dsimp only
  rw [g.funcs, htk]
  refine .snoc (c := p.exprs.length) (d := p.stmts.length) (y := p.at_) ?_ ?_
  · rw [ex, sx]; exact hf.more (Nat.le_refl _) (Nat.le_refl _)
  · refine ⟨g.cov, fun i z h1 h2 hz => g.exok i z h1 hz, fun i z h1 h2 hz => g.stok i z h1 hz, by omega, rfl, ?_, ?_, ?_, ?_⟩
    · show (funcEnd n p).1.lastTo = _; unfold PS.lastTo; rw [htk]
    · unfold funcOf; dsimp only; split
      · exact .inl rfl
      · exact .inr rfl
    · exact kindOf_name (hp.step ((Step.full p).then (Step.want _ w_func) (by decide) (by decide)) (by decide) (by decide)) 1 (by decide) c2
    · have h1 := params_len n _ _ c1
      have g0 := (((GR.full p).then (GR.want _ w_func) (by decide) (by decide)).then (GR.kindOf _ 1) (by decide) (by decide)).then (GR.want _ w_lp) (by decide) (by decide)
      have h2 := (g0 ((GR.params n _ []).code c1)).2.adv
      have h3 : (funcHead n p).1.at_ ≤ (funcEnd n p).1.at_ := by
        unfold Ytaadamobapnfbaa.funcEnd funcHead
        split
        · exact ((((Step.want _ w_rp).then (Step.want _ w_int) (by decide) (by decide)).then ((steps2 n).block _ 1) (by decide) (by decide))).at_
        · exact ((Step.want _ w_rp).then ((steps2 n).block _ 1) (by decide) (by decide)).at_
      show ((funcHead n p).2.length : Int) ≤ _
      simp only [List.length_nil] at h1
      change ((funcHead n p).2.length : Int) + _ ≤ _ + (funcHead n p).1.at_ at h1
      omega
theorem parseLoop_forest (k : Nat) : ∀ (n : Nat) (p : PS), Long p → FCov p.toks p.exprs p.stmts p.funcs 0 0 0 p.exprs.length p.stmts.length p.at_ → (parseLoop k n p).code = 0 →
    Long (parseLoop k n p) ∧ (parseLoop k n p).toks = p.toks ∧ (parseLoop k n p).text = p.text ∧ (parseLoop k n p).funcs ≠ [] ∧ FCov (parseLoop k n p).toks (parseLoop k n p).exprs (parseLoop k n p).stmts (parseLoop k n p).funcs 0 0 0 (parseLoop k n p).exprs.length (parseLoop k n p).stmts.length (parseLoop k n p).at_
  | 0, p, hp, hf, hc => absurd hc (failed p 98 (by decide))
  | n + 1, p, hp, hf, hc => by
    unfold Ytaadamobapnfbaa.parseLoop at hc ⊢
    split
    · rename_i h
      rw [if_pos h] at hc
      by_cases hz : (function k p).code = 0
      · obtain ⟨h1, h2, h3, h4, h5⟩ := function_forest k p hp hf hz
        obtain ⟨q1, q2, q3, q4, q5⟩ := parseLoop_forest k n _ h1 h5 hc
        exact ⟨q1, q2.trans h2, q3.trans h3, q4, q5⟩
      · have : parseLoop k n (function k p) = if n = 0 then (function k p).fail 98 else function k p := by
          cases n with
          | zero => simp [Ytaadamobapnfbaa.parseLoop]
          | succ n => simp [Ytaadamobapnfbaa.parseLoop, hz]
        rw [this] at hc
        split at hc
        · exact absurd hc (failed _ 98 (by decide))
        · exact absurd hc hz
    · rename_i h
      rw [if_neg h] at hc
      refine ⟨hp, rfl, rfl, ?_, hf⟩
      intro hn
      exact h ⟨hc, .inl hn⟩
end Go.Proofs.Ytaadamobapnfbaa
set_option linter.unusedVariables false
set_option linter.unusedSimpArgs false
namespace Go.Proofs.Ytaadamobapnfbaa
open Go Go.Abs
theorem Chain.named {s : ByteArray} {at_ : Nat} {l : List Tok} (h : Chain s at_ l) : Ytaadamobapnfbaa.named l := by
  induction h with
  | last h hk => intro t ht hn; rw [List.mem_singleton] at ht; subst ht; exact absurd hk hn
  | cons h hk h' ih =>
    intro t ht hn
    rcases List.mem_cons.1 ht with rfl | ht
    · exact h.kind hk
    · exact ih t ht hn
structure IsTree (s : ByteArray) (t : Tree) (toks : List Tok) (at_ : Int) : Prop where
  chain : Chain s 0 toks
  cov : FCov toks t.exprs t.stmts t.funcs 0 0 0 t.exprs.length t.stmts.length at_
  lt : at_ < toks.length
  some : t.funcs ≠ []
  big : t.exprs.length ≤ 20001 ∧ t.stmts.length ≤ 20001 ∧ t.funcs.length ≤ 20001
  small : at_ ≤ 20001
theorem parse_tree {s : ByteArray} (hs : s.size ≤ 1000000) (hc : (parse s).2.2 = 0) : ∃ toks at_, IsTree s (parse s).1 toks at_ := by
  unfold parse at hc ⊢
  split at hc
  · rename_i h; exact absurd hc h
  rename_i h1
  rw [if_neg h1]
  split at hc
  · rename_i h; exact absurd hc h
  rename_i h2
  rw [if_neg h2]
  have h1 : (tokens s).2.2 = 0 := Decidable.byContradiction h1
  have h2 : (parsed s).code = 0 := Decidable.byContradiction h2
  have hch := tokens_chain h1
  have hl : Long (startP s) := ⟨PS.start_ok hs h1, hch.named⟩
  obtain ⟨q1, q2, q3, q4, q5⟩ := parseLoop_forest (fuelP s) _ (startP s) hl (.nil 0 0 0) h2
  have o := q1.ok
  have e1 := o.ex
  have e2 := o.st
  have e3 := o.fu
  have e4 := o.at1
  have e5 := o.small
  change ((parsed s).exprs.length : Int) ≤ (parsed s).at_ at e1
  change ((parsed s).stmts.length : Int) ≤ (parsed s).at_ at e2
  change ((parsed s).funcs.length : Int) ≤ (parsed s).at_ at e3
  change (parsed s).at_ < ((parsed s).toks.length : Int) at e4
  change (parsed s).toks.length ≤ 1048576 at e5
  have e6 : (parsed s).toks = (tokens s).1 := q2
  have e7 := hch.len
  have e8 : s.size ≤ 20000 := by
    unfold tokens at h1
    by_cases h : 20000 < s.size
    · rw [if_pos h] at h1; exact absurd h1 (by decide)
    · omega
  rw [e6] at e4
  refine ⟨(tokens s).1, (parsed s).at_, hch, ?_, ?_, q4, ?_, ?_⟩
  · dsimp only; rw [← e6]; exact q5
  · exact e4
  · dsimp only; omega
  · omega
theorem Cov.roots {es : List Ex} {ss : List St} {l : List Rt} {a b c d : Nat} (h : Cov es ss l a b c d) : (∀ r, Rt.e r ∈ l → (a : Int) ≤ r ∧ r < c) ∧ (∀ r, Rt.s r ∈ l → (b : Int) ≤ r ∧ r < d) ∧ l.length + a + b ≤ c + d := by
  induction h with
  | nil => simp
  | @e r a b c d x l hx hk hl ih1 ih2 =>
    have l1 := hk.le
    have l2 := hl.le
    refine ⟨fun r' hr => ?_, fun r' hr => ?_, ?_⟩
    · rcases List.mem_cons.1 hr with h | h
      · cases h; omega
      · have := ih2.1 r' h; omega
    · rcases List.mem_cons.1 hr with h | h
      · cases h
      · exact ih2.2.1 r' h
    · have := ih2.2.2; rw [List.length_cons]; omega
  | @s r a b c d e1 x l hx hk hl ih1 ih2 =>
    have l1 := hk.le
    have l2 := hl.le
    refine ⟨fun r' hr => ?_, fun r' hr => ?_, ?_⟩
    · rcases List.mem_cons.1 hr with h | h
      · cases h
      · have := ih2.1 r' h; omega
    · rcases List.mem_cons.1 hr with h | h
      · cases h; omega
      · have := ih2.2.1 r' h; omega
    · have := ih2.2.2; rw [List.length_cons]; omega
theorem Cov.exAt {es : List Ex} {ss : List St} {l : List Rt} {a b c d : Nat} (h : Cov es ss l a b c d) : ∀ (i : Nat) (x : Ex), a ≤ i → i < c → es[i]? = some x → ∃ a' b', Cov es ss (x.kids.map .e) a' b' i b' := by
  induction h with
  | nil => intro i x h1 h2; omega
  | @e r a b c d y l hx hk hl ih1 ih2 =>
    intro i x h1 h2 h3
    by_cases hlt : i < r
    · exact ih1 i x h1 hlt h3
    by_cases he : i = r
    · subst he
      rw [hx] at h3; cases h3
      exact ⟨a, b, hk⟩
    · exact ih2 i x (by omega) h2 h3
  | @s r a b c d e1 y l hx hk hl ih1 ih2 =>
    intro i x h1 h2 h3
    by_cases hlt : i < e1
    · exact ih1 i x h1 hlt h3
    · exact ih2 i x (by omega) h2 h3
theorem Cov.stAt {es : List Ex} {ss : List St} {l : List Rt} {a b c d : Nat} (h : Cov es ss l a b c d) : ∀ (i : Nat) (x : St), b ≤ i → i < d → ss[i]? = some x → ∃ a' b' c', Cov es ss x.kids a' b' c' i ∧ a ≤ a' ∧ b ≤ b' ∧ c' ≤ c := by
  induction h with
  | nil => intro i x h1 h2; omega
  | @e r a b c d y l hx hk hl ih1 ih2 =>
    intro i x h1 h2 h3
    have l1 := hk.le
    obtain ⟨a', b', c', q1, q2, q3, q4⟩ := ih2 i x h1 h2 h3
    exact ⟨a', b', c', q1, by omega, q3, q4⟩
  | @s r a b c d e1 y l hx hk hl ih1 ih2 =>
    intro i x h1 h2 h3
    have l1 := hk.le
    have l2 := hl.le
    by_cases hlt : i < r
    · obtain ⟨a', b', c', q1, q2, q3, q4⟩ := ih1 i x h1 hlt h3
      exact ⟨a', b', c', q1, q2, q3, by omega⟩
    by_cases he : i = r
    · subst he
      rw [hx] at h3; cases h3
      exact ⟨a, b, e1, hk, Nat.le_refl _, Nat.le_refl _, l2.1⟩
    · obtain ⟨a', b', c', q1, q2, q3, q4⟩ := ih2 i x (by omega) h2 h3
      exact ⟨a', b', c', q1, by omega, by omega, q4⟩
/-- the function to which an expression, a statement belongs -/
theorem FCov.one_e {toks : List Tok} {es : List Ex} {ss : List St} {l : List Fu} {a b c d : Nat} {x y : Int} (h : FCov toks es ss l a b x c d y) : ∀ i, a ≤ i → i < c →
    ∃ (k : Nat) (g : Fu) (a' b' c' d' : Nat) (x' y' : Int), l[k]? = some g ∧ FOne toks es ss g a' b' x' c' d' y' ∧ a ≤ a' ∧ b ≤ b' ∧ x ≤ x' ∧ c' ≤ c ∧ d' ≤ d ∧ y' ≤ y ∧ a' ≤ i ∧ i < c' := by
  induction h with
  | nil => intro i h1 h2; omega
  | @snoc l g a b c d e f x y z h h' ih =>
    intro i h1 h2
    have l1 := h.le
    have l2 := h'.cov.le
    have l3 := h'.lt
    by_cases hlt : i < c
    · obtain ⟨k, g', a', b', c', d', x', y', q1, q2, q3, q4, q5, q6, q7, q8, q9, q10⟩ := ih i h1 hlt
      exact ⟨k, g', a', b', c', d', x', y', get_append q1, q2, q3, q4, q5, by omega, by omega, by omega, q9, q10⟩
    · exact ⟨l.length, g, c, d, e, f, y, z, by simp, h', by omega, by omega, by omega, by omega, by omega, by omega, by omega, h2⟩
theorem FCov.one_s {toks : List Tok} {es : List Ex} {ss : List St} {l : List Fu} {a b c d : Nat} {x y : Int} (h : FCov toks es ss l a b x c d y) : ∀ i, b ≤ i → i < d →
    ∃ (k : Nat) (g : Fu) (a' b' c' d' : Nat) (x' y' : Int), l[k]? = some g ∧ FOne toks es ss g a' b' x' c' d' y' ∧ a ≤ a' ∧ b ≤ b' ∧ x ≤ x' ∧ c' ≤ c ∧ d' ≤ d ∧ y' ≤ y ∧ b' ≤ i ∧ i < d' := by
  induction h with
  | nil => intro i h1 h2; omega
  | @snoc l g a b c d e f x y z h h' ih =>
    intro i h1 h2
    have l1 := h.le
    have l2 := h'.cov.le
    have l3 := h'.lt
    by_cases hlt : i < d
    · obtain ⟨k, g', a', b', c', d', x', y', q1, q2, q3, q4, q5, q6, q7, q8, q9, q10⟩ := ih i h1 hlt
      exact ⟨k, g', a', b', c', d', x', y', get_append q1, q2, q3, q4, q5, by omega, by omega, by omega, q9, q10⟩
    · exact ⟨l.length, g, c, d, e, f, y, z, by simp, h', by omega, by omega, by omega, by omega, by omega, by omega, by omega, h2⟩
theorem FCov.one_f {toks : List Tok} {es : List Ex} {ss : List St} {l : List Fu} {a b c d : Nat} {x y : Int} (h : FCov toks es ss l a b x c d y) : ∀ k g, l[k]? = some g →
    ∃ (a' b' c' d' : Nat) (x' y' : Int), FOne toks es ss g a' b' x' c' d' y' ∧ a ≤ a' ∧ b ≤ b' ∧ x ≤ x' ∧ c' ≤ c ∧ d' ≤ d ∧ y' ≤ y ∧ FCov toks es ss (l.take k) a b x a' b' x' := by
  induction h with
  | nil => intro k g hk; simp at hk
  | @snoc l g a b c d e f x y z h h' ih =>
    intro k g' hk
    have l1 := h.le
    have l2 := h'.cov.le
    have l3 := h'.lt
    by_cases hlt : k < l.length
    · rw [List.getElem?_append_left hlt] at hk
      obtain ⟨a', b', c', d', x', y', q2, q3, q4, q5, q6, q7, q8, q9⟩ := ih k g' hk
      exact ⟨a', b', c', d', x', y', q2, q3, q4, q5, by omega, by omega, by omega, by rw [List.take_append_of_le_length (by omega)]; exact q9⟩
    · have hk0 : k = l.length := by
        have := (List.getElem?_eq_some_iff.1 hk).1
        simp at this; omega
      subst hk0
      simp at hk
      subst hk
      exact ⟨c, d, e, f, y, z, h', by omega, by omega, by omega, by omega, by omega, by omega, by rw [List.take_left]; exact h⟩
theorem IsTree.ok {s : ByteArray} {t : Tree} {toks : List Tok} {at_ : Int} (h : IsTree s t toks at_) : TreeOk t := by
  have hbig := h.big
  refine ⟨fun i x hx => ?_, fun i x hx => ?_, fun g hg => ?_, ?_, by omega⟩
  · have hlt := (List.getElem?_eq_some_iff.1 hx).1
    obtain ⟨k, g, a', b', c', d', x', y', q1, q2, q3, q4, q5, q6, q7, q8, q9, q10⟩ := h.cov.one_e i (Nat.zero_le _) hlt
    obtain ⟨u, v, hcv⟩ := q2.cov.exAt i x q9 q10 hx
    have hr := hcv.roots
    have hok := (q2.ex i x q9 q10 hx).1
    have mem : ∀ r ∈ x.kids, 0 ≤ r ∧ r < (i : Int) := fun r hr' => by
      have := hr.1 r (List.mem_map.2 ⟨r, hr', rfl⟩); omega
    refine ⟨fun hk => ?_, fun hk => ?_, fun hk => ?_, ?_⟩
    · refine mem x.a ?_
      unfold Ex.kids
      rcases hk with hk | hk | hk <;> rw [hk] <;> simp
    · have hb := mem x.b (by unfold Ex.kids; rw [hk]; simp)
      exact ⟨hb.1, hb.2, hok.op9 hk⟩
    · intro a ha
      exact mem a (by unfold Ex.kids; rw [if_neg (by omega), if_neg (by omega), if_pos hk]; exact ha)
    · rcases hok.ls with h6 | h6
      · have := hr.2.2
        rw [List.length_map, show x.kids = x.list by unfold Ex.kids; rw [if_neg (by omega), if_neg (by omega), if_pos h6]] at this
        omega
      · rw [h6]; simp
  · have hlt := (List.getElem?_eq_some_iff.1 hx).1
    obtain ⟨k, g, a', b', c', d', x', y', q1, q2, q3, q4, q5, q6, q7, q8, q9, q10⟩ := h.cov.one_s i (Nat.zero_le _) hlt
    obtain ⟨u, v, w, hcv, u1, u2, u3⟩ := q2.cov.stAt i x q9 q10 hx
    have hr := hcv.roots
    have hok := (q2.st i x q9 q10 hx).1
    have hk1 := hok.k1
    have mem : ∀ r ∈ x.xs, 0 ≤ r ∧ r < (t.exprs.length : Int) := fun r hr' => by
      have := hr.1 r (by unfold St.kids; exact List.mem_append_left _ (List.mem_map.2 ⟨r, hr', rfl⟩)); omega
    have mem2 : ∀ r ∈ x.thn ++ x.els, 0 ≤ r ∧ r < (i : Int) := fun r hr' => by
      have := hr.2.1 r (by unfold St.kids; exact List.mem_append_right _ (List.mem_map.2 ⟨r, hr', rfl⟩)); omega
    have hlen := hr.2.2
    have hk4 : x.thn.length + x.els.length ≤ x.kids.length := by unfold St.kids; simp
    refine ⟨fun hk => ?_, fun hk => ?_, fun hk => ?_, fun r hr' => mem2 r (List.mem_append_left _ hr'), fun r hr' => mem2 r (List.mem_append_right _ hr'), by omega, by omega⟩
    · refine (mem x.a ?_).1
      unfold St.xs
      by_cases h4 : x.kind = 4
      · rw [if_pos h4]; simp
      · rw [if_neg h4, if_neg (by omega), if_neg (by omega)]; simp
    · by_cases h9 : x.kind = 9 ∧ x.a < 0
      · omega
      · refine (mem x.a ?_).2
        unfold St.xs
        by_cases h4 : x.kind = 4
        · rw [if_pos h4]; simp
        · rw [if_neg h4]
          by_cases h99 : x.kind = 9
          · rw [if_pos h99, if_neg (by omega)]; simp
          · rw [if_neg h99, if_neg (by omega)]; simp
    · have := mem x.b (by unfold St.xs; rw [if_pos hk]; simp)
      exact this
  · obtain ⟨k, hk, hg'⟩ := List.getElem_of_mem hg
    obtain ⟨a', b', c', d', x', y', q2, q3, q4, q5, q6, q7, q8, q9⟩ := h.cov.one_f k g (by rw [List.getElem?_eq_getElem hk, hg'])
    have hr := q2.cov.roots
    have hs := h.small
    refine ⟨by have := q2.params; omega, by have := hr.2.2; rw [List.length_map] at this; have := hbig; omega, fun r hr' => ?_⟩
    have := hr.2.1 r (List.mem_map.2 ⟨r, hr', rfl⟩); omega
  · have := h.some
    cases hf : t.funcs with
    | nil => exact absurd hf this
    | cons => simp
end Go.Proofs.Ytaadamobapnfbaa
set_option linter.unusedVariables false
set_option linter.unusedSimpArgs false
namespace Go.Proofs.Ytaadamobapnfbaa
open Go Go.Abs
structure Ctx where
  i : Int
  L : List Int
  k : Nat
  inn : Int
  loop : Int
  behind : Int
  lb : Int
def firstOf : List Int → Int → Int
  | [], b => b
  | a :: _, _ => a
def Tree.stm (t : Tree) (i : Int) : St := t.stmts.getD i.toNat default
def Ctx.at_ (L : List Int) (k : Nat) (inn loop B lb : Int) : Ctx := ⟨L.getD k 0, L, k, inn, loop, firstOf (L.drop (k + 1)) B, lb⟩
def Ctx.sub (t : Tree) (c : Ctx) (L : List Int) (k : Nat) : Ctx :=
  if (t.stm c.i).kind = 6 then .at_ L k c.i c.i c.i c.behind else .at_ L k c.i c.loop c.behind c.lb
def Ctx.thn (t : Tree) (c : Ctx) (k : Nat) : Ctx := c.sub t (t.stm c.i).thn k
def Ctx.els (t : Tree) (c : Ctx) (k : Nat) : Ctx := c.sub t (t.stm c.i).els k
inductive Occ (t : Tree) (c : Ctx) : Ctx → Prop
  | self : Occ t c c
  | thn {d : Ctx} (h : Occ t c d) (k : Nat) (hk : k < (t.stm d.i).thn.length) : Occ t c (d.thn t k)
  | els {d : Ctx} (h : Occ t c d) (k : Nat) (hk : k < (t.stm d.i).els.length) : Occ t c (d.els t k)
theorem Occ.trans {t : Tree} {c d e : Ctx} (h : Occ t c d) (h' : Occ t d e) : Occ t c e := by
  induction h' with
  | self => exact h
  | thn h' k hk ih => exact .thn ih k hk
  | els h' k hk ih => exact .els ih k hk
theorem Occ.cases {t : Tree} {c d : Ctx} (h : Occ t c d) : d = c ∨ (∃ k, k < (t.stm c.i).thn.length ∧ Occ t (c.thn t k) d) ∨ (∃ k, k < (t.stm c.i).els.length ∧ Occ t (c.els t k) d) := by
  induction h with
  | self => exact .inl rfl
  | thn h k hk ih =>
    rcases ih with rfl | ⟨j, hj, ho⟩ | ⟨j, hj, ho⟩
    · exact .inr (.inl ⟨k, hk, .self⟩)
    · exact .inr (.inl ⟨j, hj, .thn ho k hk⟩)
    · exact .inr (.inr ⟨j, hj, .thn ho k hk⟩)
  | els h k hk ih =>
    rcases ih with rfl | ⟨j, hj, ho⟩ | ⟨j, hj, ho⟩
    · exact .inr (.inr ⟨k, hk, .self⟩)
    · exact .inr (.inl ⟨j, hj, .els ho k hk⟩)
    · exact .inr (.inr ⟨j, hj, .els ho k hk⟩)
def topC (g : Fu) (k : Nat) : Ctx := .at_ g.body k (-1) (-1) (-1) (-1)
def way (t : Tree) (c : Ctx) : List Int :=
  if (t.stm c.i).kind = 5 then [firstOf (t.stm c.i).thn c.behind, firstOf (t.stm c.i).els c.behind]
  else if (t.stm c.i).kind = 6 then [firstOf (t.stm c.i).thn c.i, c.behind]
  else if (t.stm c.i).kind = 7 then [c.lb] else if (t.stm c.i).kind = 8 then [c.loop] else if (t.stm c.i).kind = 9 then [-1] else [c.behind]
/-- statements alone -/
inductive SCov (t : Tree) : List Int → Nat → Nat → Prop
  | nil (a : Nat) : SCov t [] a a
  | cons {r a c : Nat} {l : List Int} (hr : r < t.stmts.length) (hk : SCov t ((t.stm r).thn ++ (t.stm r).els) a r) (hl : SCov t l (r + 1) c) : SCov t ((r : Int) :: l) a c
theorem SCov.le {t : Tree} {l : List Int} {a c : Nat} (h : SCov t l a c) : a ≤ c := by
  induction h with
  | nil => exact Nat.le_refl _
  | cons hr hk hl ih1 ih2 => omega
theorem SCov.split {t : Tree} : ∀ {l m : List Int} {a c : Nat}, SCov t (l ++ m) a c → ∃ b, SCov t l a b ∧ SCov t m b c
  | [], m, a, c, h => ⟨a, .nil a, h⟩
  | x :: l, m, a, c, h => by
    cases h with
    | cons hr hk hl =>
      obtain ⟨b, h1, h2⟩ := SCov.split hl
      exact ⟨b, .cons hr hk h1, h2⟩
def stmtRoots : List Rt → List Int
  | [] => []
  | .e _ :: l => stmtRoots l
  | .s r :: l => r :: stmtRoots l
theorem stmtRoots_append : ∀ l m : List Rt, stmtRoots (l ++ m) = stmtRoots l ++ stmtRoots m
  | [], m => rfl
  | .e _ :: l, m => stmtRoots_append l m
  | .s r :: l, m => by simp only [List.cons_append, stmtRoots, stmtRoots_append l m]
theorem stmtRoots_e : ∀ l : List Int, stmtRoots (l.map .e) = []
  | [] => rfl
  | _ :: l => stmtRoots_e l
theorem stmtRoots_s : ∀ l : List Int, stmtRoots (l.map .s) = l
  | [] => rfl
  | x :: l => by simp only [List.map_cons, stmtRoots, stmtRoots_s l]
theorem Cov.scov {t : Tree} {l : List Rt} {a b c d : Nat} (h : Cov t.exprs t.stmts l a b c d) : SCov t (stmtRoots l) b d := by
  induction h with
  | nil a b => exact .nil b
  | e hx hk hl ih1 ih2 =>
    exact ih2
  | @s r a b c d e1 x l hx hk hl ih1 ih2 =>
    have hs : t.stm (r : Int) = x := by
      simp only [Tree.stm, Int.toNat_natCast, List.getD_eq_getElem?_getD, hx, Option.getD_some]
    refine .cons (List.getElem?_eq_some_iff.1 hx).1 ?_ ih2
    rw [hs]
    unfold St.kids at ih1
    rw [stmtRoots_append, stmtRoots_e, stmtRoots_s] at ih1
    exact ih1
theorem SCov.mem {t : Tree} {l : List Int} {a c : Nat} (h : SCov t l a c) : ∀ k (hk : k < l.length), ∃ r b : Nat, l[k] = (r : Int) ∧ l.getD k 0 = (r : Int) ∧ a ≤ b ∧ b ≤ r ∧ r < c ∧ r < t.stmts.length ∧ SCov t ((t.stm r).thn ++ (t.stm r).els) b r ∧ SCov t (l.take k) a b ∧ SCov t (l.drop (k + 1)) (r + 1) c := by
  induction h with
  | nil => intro k hk; simp at hk
  | @cons r a c l hr hk hl ih1 ih2 =>
    intro k hk'
    have l1 := hk.le
    have l2 := hl.le
    cases k with
    | zero => exact ⟨r, a, rfl, rfl, Nat.le_refl _, l1, l2, hr, hk, .nil _, hl⟩
    | succ k =>
      obtain ⟨r', b, q1, q1', q2, q3, q4, q5, q6, q7, q8⟩ := ih2 k (by simpa using hk')
      exact ⟨r', b, q1, q1', by omega, q3, q4, q5, q6, .cons hr hk q7, q8⟩
theorem SCov.len {t : Tree} {l : List Int} {a c : Nat} (h : SCov t l a c) : l.length + a ≤ c := by
  induction h with
  | nil => simp
  | cons hr hk hl ih1 ih2 => have := hk.le; rw [List.length_cons]; omega
/-- a statement's own range -/
structure Own1 (t : Tree) (c : Ctx) (lo : Nat) : Prop where
  i0 : 0 ≤ c.i
  i1 : c.i < t.stmts.length
  kids : SCov t ((t.stm c.i).thn ++ (t.stm c.i).els) lo c.i.toNat
theorem SCov.own {t : Tree} {l : List Int} {a c : Nat} (h : SCov t l a c) {k : Nat} (hk : k < l.length) (inn loop B lb : Int) : ∃ lo, Own1 t (.at_ l k inn loop B lb) lo ∧ a ≤ lo ∧ (Ctx.at_ l k inn loop B lb).i < c ∧ SCov t (l.take k) a lo := by
  obtain ⟨r, b, q1, q1', q2, q3, q4, q5, q6, q7, q8⟩ := h.mem k hk
  have e : (Ctx.at_ l k inn loop B lb).i = (r : Int) := q1'
  refine ⟨b, ⟨by rw [e]; omega, by rw [e]; omega, ?_⟩, q2, by rw [e]; omega, q7⟩
  rw [e]; exact q6
theorem Own1.thn {t : Tree} {c : Ctx} {lo : Nat} (h : Own1 t c lo) {k : Nat} (hk : k < (t.stm c.i).thn.length) : ∃ lo', Own1 t (c.thn t k) lo' ∧ lo ≤ lo' ∧ (c.thn t k).i < c.i := by
  obtain ⟨b, h1, h2⟩ := h.kids.split
  have := h.i0
  have hl := h2.le
  unfold Ctx.thn Ctx.sub
  split
  · obtain ⟨lo', q1, q2, q3, _⟩ := h1.own hk c.i c.i c.i c.behind
    exact ⟨lo', q1, q2, by omega⟩
  · obtain ⟨lo', q1, q2, q3, _⟩ := h1.own hk c.i c.loop c.behind c.lb
    exact ⟨lo', q1, q2, by omega⟩
theorem Own1.els {t : Tree} {c : Ctx} {lo : Nat} (h : Own1 t c lo) {k : Nat} (hk : k < (t.stm c.i).els.length) : ∃ lo', Own1 t (c.els t k) lo' ∧ lo ≤ lo' ∧ (c.els t k).i < c.i := by
  obtain ⟨b, h1, h2⟩ := h.kids.split
  have := h.i0
  have hl := h1.le
  unfold Ctx.els Ctx.sub
  split
  · obtain ⟨lo', q1, q2, q3, _⟩ := h2.own hk c.i c.i c.i c.behind
    exact ⟨lo', q1, by omega, by omega⟩
  · obtain ⟨lo', q1, q2, q3, _⟩ := h2.own hk c.i c.loop c.behind c.lb
    exact ⟨lo', q1, by omega, by omega⟩
theorem Own1.occ {t : Tree} {c d : Ctx} {lo : Nat} (h : Own1 t c lo) (ho : Occ t c d) : ∃ lo', Own1 t d lo' ∧ lo ≤ lo' ∧ lo' ≤ d.i ∧ d.i ≤ c.i := by
  induction ho with
  | self => exact ⟨lo, h, Nat.le_refl _, by have := h.kids.le; have := h.i0; omega, Int.le_refl _⟩
  | thn ho k hk ih =>
    obtain ⟨lo', q1, q2, q3, q4⟩ := ih
    obtain ⟨lo2, p1, p2, p3⟩ := q1.thn hk
    exact ⟨lo2, p1, by omega, by have := p1.kids.le; have := p1.i0; omega, by omega⟩
  | els ho k hk ih =>
    obtain ⟨lo', q1, q2, q3, q4⟩ := ih
    obtain ⟨lo2, p1, p2, p3⟩ := q1.els hk
    exact ⟨lo2, p1, by omega, by have := p1.kids.le; have := p1.i0; omega, by omega⟩
end Go.Proofs.Ytaadamobapnfbaa
set_option linter.unusedVariables false
set_option linter.unusedSimpArgs false
namespace Go.Proofs.Ytaadamobapnfbaa
open Go Go.Abs
theorem SCov.find {t : Tree} {l : List Int} {a c : Nat} (h : SCov t l a c) : ∀ i : Nat, a ≤ i → i < c → ∃ k r lo : Nat, k < l.length ∧ l.getD k 0 = (r : Int) ∧ lo ≤ i ∧ i ≤ r ∧ r < c ∧ SCov t ((t.stm r).thn ++ (t.stm r).els) lo r := by
  induction h with
  | nil => intro i h1 h2; omega
  | @cons r a c l hr hk hl ih1 ih2 =>
    intro i h1 h2
    have l2 := hl.le
    by_cases hi : i ≤ r
    · exact ⟨0, r, a, by simp, rfl, h1, hi, by omega, hk⟩
    · obtain ⟨k, r', lo, q1, q2, q3, q4, q5, q6⟩ := ih2 i (by omega) h2
      exact ⟨k + 1, r', lo, by simpa using q1, by simpa using q2, q3, q4, q5, q6⟩
theorem SCov.occ {t : Tree} : ∀ (n : Nat) {l : List Int} {a c : Nat}, SCov t l a c → c ≤ n → ∀ i : Nat, a ≤ i → i < c → ∃ k, k < l.length ∧ ∀ inn loop B lb, ∃ d, Occ t (.at_ l k inn loop B lb) d ∧ d.i = i := by
  intro n
  induction n with
  | zero => intro l a c h hc i h1 h2; omega
  | succ n ih =>
    intro l a c h hc i h1 h2
    obtain ⟨k, r, lo, q1, q2, q3, q4, q5, q6⟩ := h.find i h1 h2
    refine ⟨k, q1, fun inn loop B lb => ?_⟩
    have ei : (Ctx.at_ l k inn loop B lb).i = (r : Int) := q2
    by_cases he : i = r
    · exact ⟨_, .self, by rw [ei, he]⟩
    obtain ⟨b, s1, s2⟩ := q6.split
    have l1 := s1.le
    have l2 := s2.le
    by_cases hb : i < b
    · obtain ⟨k', p1, p2⟩ := ih s1 (by omega) i q3 hb
      rw [← ei] at p1 p2
      by_cases h6 : (t.stm (Ctx.at_ l k inn loop B lb).i).kind = 6
      · obtain ⟨d, o1, o2⟩ := p2 (Ctx.at_ l k inn loop B lb).i (Ctx.at_ l k inn loop B lb).i (Ctx.at_ l k inn loop B lb).i (Ctx.at_ l k inn loop B lb).behind
        refine ⟨d, Occ.trans (.thn .self k' p1) ?_, o2⟩
        unfold Ctx.thn Ctx.sub; rw [if_pos h6]; exact o1
      · obtain ⟨d, o1, o2⟩ := p2 (Ctx.at_ l k inn loop B lb).i (Ctx.at_ l k inn loop B lb).loop (Ctx.at_ l k inn loop B lb).behind (Ctx.at_ l k inn loop B lb).lb
        refine ⟨d, Occ.trans (.thn .self k' p1) ?_, o2⟩
        unfold Ctx.thn Ctx.sub; rw [if_neg h6]; exact o1
    · obtain ⟨k', p1, p2⟩ := ih s2 (by omega) i (by omega) (by omega)
      rw [← ei] at p1 p2
      by_cases h6 : (t.stm (Ctx.at_ l k inn loop B lb).i).kind = 6
      · obtain ⟨d, o1, o2⟩ := p2 (Ctx.at_ l k inn loop B lb).i (Ctx.at_ l k inn loop B lb).i (Ctx.at_ l k inn loop B lb).i (Ctx.at_ l k inn loop B lb).behind
        refine ⟨d, Occ.trans (.els .self k' p1) ?_, o2⟩
        unfold Ctx.els Ctx.sub; rw [if_pos h6]; exact o1
      · obtain ⟨d, o1, o2⟩ := p2 (Ctx.at_ l k inn loop B lb).i (Ctx.at_ l k inn loop B lb).loop (Ctx.at_ l k inn loop B lb).behind (Ctx.at_ l k inn loop B lb).lb
        refine ⟨d, Occ.trans (.els .self k' p1) ?_, o2⟩
        unfold Ctx.els Ctx.sub; rw [if_neg h6]; exact o1
/-- functions' ranges -/
structure FR (t : Tree) (R : Nat → Nat) : Prop where
  body : ∀ (k : Nat) (g : Fu), t.funcs[k]? = some g → SCov t g.body (R k) (R (k + 1))
  zero : R 0 = 0
  all : R t.funcs.length = t.stmts.length
  mono : ∀ i j, i ≤ j → R i ≤ R j
theorem FCov.ranges {t : Tree} {toks : List Tok} {l : List Fu} {a b c d : Nat} {x y : Int} (h : FCov toks t.exprs t.stmts l a b x c d y) :
    ∃ R : Nat → Nat, (∀ (k : Nat) (g : Fu), l[k]? = some g → SCov t g.body (R k) (R (k + 1))) ∧ R 0 = b ∧ R l.length = d ∧ (∀ i j, i ≤ j → R i ≤ R j) ∧ ∀ i, R i ≤ d := by
  induction h with
  | nil a b x => exact ⟨fun _ => b, fun k g hk => by simp at hk, rfl, rfl, fun _ _ _ => Nat.le_refl _, fun _ => Nat.le_refl _⟩
  | @snoc l g a b c d e f x y z h h' ih =>
    obtain ⟨R, q1, q2, q3, q4, q5⟩ := ih
    have hcov := h'.cov.scov
    rw [stmtRoots_s] at hcov
    have hle := hcov.le
    refine ⟨fun i => if i ≤ l.length then R i else f, fun k g' hk => ?_, by simp [q2], by dsimp only; rw [List.length_append, List.length_singleton, if_neg (by omega)], fun i j hij => ?_, fun i => ?_⟩
    · by_cases hlt : k < l.length
      · rw [List.getElem?_append_left hlt] at hk
        have := q1 k g' hk
        simp only [show k ≤ l.length by omega, show k + 1 ≤ l.length by omega, if_true]
        exact this
      · have hk0 : k = l.length := by
          have := (List.getElem?_eq_some_iff.1 hk).1
          simp at this; omega
        subst hk0
        simp at hk
        subst hk
        simp only [Nat.le_refl, if_true, show ¬ l.length + 1 ≤ l.length by omega, if_false, q3]
        exact hcov
    · dsimp only
      split
      · split
        · exact q4 _ _ hij
        · have := q5 i; omega
      · rw [if_neg (by omega)]; exact Nat.le_refl _
    · dsimp only
      split
      · have := q5 i; omega
      · exact Nat.le_refl _
theorem IsTree.fr {s : ByteArray} {t : Tree} {toks : List Tok} {at_ : Int} (h : IsTree s t toks at_) : ∃ R, FR t R := by
  obtain ⟨R, q1, q2, q3, q4, q5⟩ := h.cov.ranges
  exact ⟨R, q1, q2, q3, q4⟩
/-- a statement stands in the k-th function -/
def InF (t : Tree) (k : Nat) (d : Ctx) : Prop := ∃ (g : Fu) (j : Nat), t.funcs[k]? = some g ∧ j < g.body.length ∧ Occ t (topC g j) d
theorem FR.own {t : Tree} {R : Nat → Nat} (h : FR t R) {k : Nat} {d : Ctx} (hd : InF t k d) : ∃ lo, Own1 t d lo ∧ (R k : Int) ≤ d.i ∧ d.i < R (k + 1) ∧ d.i < t.stmts.length := by
  obtain ⟨g, j, hg, hj, ho⟩ := hd
  obtain ⟨lo, q1, q2, q3, _⟩ := (h.body k g hg).own hj (-1) (-1) (-1) (-1)
  obtain ⟨lo', p1, p2, p3, p4⟩ := q1.occ ho
  have hq3 : (topC g j).i < (R (k + 1) : Int) := q3
  exact ⟨lo', p1, by omega, Int.lt_of_le_of_lt p4 hq3, p1.i1⟩
theorem FR.ex {t : Tree} {R : Nat → Nat} (h : FR t R) {i : Nat} (hi : i < t.stmts.length) : ∃ k d, k < t.funcs.length ∧ InF t k d ∧ d.i = i := by
  have : ∀ n, n ≤ t.funcs.length → i < R n → ∃ k, k < n ∧ R k ≤ i ∧ i < R (k + 1) := by
    intro n
    induction n with
    | zero => intro _ h0; rw [h.zero] at h0; omega
    | succ n ih =>
      intro hn h0
      by_cases hlt : i < R n
      · obtain ⟨k, h1, h2⟩ := ih (by omega) hlt
        exact ⟨k, by omega, h2⟩
      · exact ⟨n, by omega, by omega, h0⟩
  obtain ⟨k, hk, h1, h2⟩ := this t.funcs.length (Nat.le_refl _) (by rw [h.all]; exact hi)
  obtain ⟨j, hj, hd⟩ := (h.body k t.funcs[k] (List.getElem?_eq_getElem hk)).occ _ (Nat.le_refl _) i h1 h2
  obtain ⟨d, o1, o2⟩ := hd (-1) (-1) (-1) (-1)
  exact ⟨k, d, hk, ⟨t.funcs[k], j, List.getElem?_eq_getElem hk, hj, o1⟩, o2⟩
end Go.Proofs.Ytaadamobapnfbaa
set_option linter.unusedVariables false
set_option linter.unusedSimpArgs false
set_option maxRecDepth 100000
namespace Go.Proofs.Ytaadamobapnfbaa
open Go Go.Abs
structure FlowOk (t : Tree) (nx : List (List Int)) : Prop where
  len : nx.length = t.stmts.length
  ways : ∀ k d, InF t k d → nx[d.i.toNat]? = some (way t d)
end Go.Proofs.Ytaadamobapnfbaa
set_option linter.unusedVariables false
set_option linter.unusedSimpArgs false
set_option maxRecDepth 100000
namespace Go.Proofs.Ytaadamobapnfbaa
open Go Go.Abs
theorem SCov.top {t : Tree} {l : List Int} {a c : Nat} (h : SCov t l a c) : c ≤ a ∨ c ≤ t.stmts.length := by
  induction h with
  | nil => exact .inl (Nat.le_refl _)
  | cons hr hk hl ih1 ih2 => omega
end Go.Proofs.Ytaadamobapnfbaa
set_option linter.unusedVariables false
set_option linter.unusedSimpArgs false
set_option maxRecDepth 100000
namespace Go.Proofs.Ytaadamobapnfbaa
open Go Go.Abs
theorem FR.same {t : Tree} {a b : List (List Int)} (ha : FlowOk t a) (hb : b.length = t.stmts.length) (h : ∀ j, j < t.stmts.length → ∃ k d, InF t k d ∧ d.i = j ∧ b[j]? = some (way t d)) : a = b := by
  apply List.ext_getElem?
  intro i
  by_cases hi : i < t.stmts.length
  · obtain ⟨k, d, q1, q2, q3⟩ := h i hi
    have := ha.ways k d q1
    rw [q2, Int.toNat_natCast] at this
    rw [this, q3]
  · rw [List.getElem?_eq_none (by have := ha.len; omega), List.getElem?_eq_none (by omega)]
end Go.Proofs.Ytaadamobapnfbaa
