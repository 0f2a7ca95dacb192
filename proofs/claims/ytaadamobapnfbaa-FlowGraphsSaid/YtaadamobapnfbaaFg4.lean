/- Own texts, put together by a program: M0 M1 K5 K6 K7 K8 M2 N0. -/
import Derived.Test.YtaadamobapnfbaaRows
import Derived.WalkKit
import Derived.ProofKit
import Derived.OpenShut
import Derived.ShutString
import Derived.ChangeOld
import Derived.Below
import Derived.SizedLaws
import Derived.Test.YtaadamobapnfbaaFg3
/- The law of flow: Right, awake. -/
set_option linter.unusedVariables false
set_option linter.unusedSimpArgs false
set_option maxRecDepth 1000000
namespace Go.Proofs.Ytaadamobapnfbaa
open Go Go.Abs
def rightOf (s : ByteArray) : Tree × Bool :=
  if s.size > 800 then ({}, false) else if (parse s).2.2 ≠ 0 then ({}, false) else ((parse s).1, (checked (parse s).1).code == 0)
set_option maxHeartbeats 1000000 in
theorem right_walk (s : ByteArray) : ACalls Try.prog 15 [vs s] [] (RV (.tup [.agg (rightOf s).1.cells, .v (.bool (rightOf s).2)]) []) := by
  refine ACalls.retellR ?_
  refine ACalls.of_code (c := _) Try.func15 rfl Try.ntmps15 (Nat.le_of_ble_eq_true rfl) ?_
  repeat (first | (refine ACode.seq ?_) | (refine ACode.region ?_) | (refine ACode.ret ?_) | (refine ACode.skip ?_) | (refine ACode.exit ?_) | (refine ACode.block ?_) | (refine AExit.then_normal ?_) | (refine AExit.then_ret ?_) | (refine AExit.then_exit ?_) | (refine AExit.in_normal ?_) | (refine AExit.in_ret ?_) | (refine AExit.in_same ?_) | (refine AExit.in_other rfl ?_) | (refine ASeq.nil ?_))
  refine ASeq.op rfl rfl (AOp.allocP rfl (tok _ rfl) rfl rfl (fun _ => rfl) (fun _ => ?_))
  refine ASeq.q rfl rfl (QOp.assign rfl rfl) ?_
  refine ASeq.nil ?_
  rename_i m2
  repeat (first | (refine ACode.seq ?_) | (refine ACode.region ?_) | (refine ACode.ret ?_) | (refine ACode.skip ?_) | (refine ACode.exit ?_) | (refine ACode.block ?_) | (refine AExit.then_normal ?_) | (refine AExit.then_ret ?_) | (refine AExit.then_exit ?_) | (refine AExit.in_normal ?_) | (refine AExit.in_ret ?_) | (refine AExit.in_same ?_) | (refine AExit.in_other rfl ?_) | (refine ASeq.nil ?_))
  refine ASeq.q rfl rfl (QOp.move rfl rfl) ?_
  first | (refine ASeq.q rfl rfl (QOp.lenI rfl rfl (tok _ rfl) rfl) ?_) | (refine ASeq.q rfl rfl (QOp.lenM rfl rfl (tok _ rfl) rfl) ?_) | (refine ASeq.q rfl rfl (QOp.lenS rfl rfl (tok _ rfl) rfl) ?_) | (refine ASeq.q rfl rfl (QOp.lenN rfl rfl (tok _ rfl) rfl) ?_)
  refine ASeq.q rfl rfl (QOp.cmp rfl rfl rfl rfl) ?_
  refine ASeq.nil ?_
  repeat (first | (refine ACode.seq ?_) | (refine ACode.region ?_) | (refine ACode.ret ?_) | (refine ACode.skip ?_) | (refine ACode.exit ?_) | (refine ACode.block ?_) | (refine AExit.then_normal ?_) | (refine AExit.then_ret ?_) | (refine AExit.then_exit ?_) | (refine AExit.in_normal ?_) | (refine AExit.in_ret ?_) | (refine AExit.in_same ?_) | (refine AExit.in_other rfl ?_) | (refine ASeq.nil ?_))
  refine ACode.cond _ rfl (fun hb => ?_) (fun hb => ?_)
  · have hbig : s.size > 800 := by have := of_decide_eq_true hb; omega
    have hr : rightOf s = ({}, false) := by unfold rightOf; rw [if_pos hbig]
    repeat (first | (refine ACode.seq ?_) | (refine ACode.region ?_) | (refine ACode.ret ?_) | (refine ACode.skip ?_) | (refine ACode.exit ?_) | (refine ACode.block ?_) | (refine AExit.then_normal ?_) | (refine AExit.then_ret ?_) | (refine AExit.then_exit ?_) | (refine AExit.in_normal ?_) | (refine AExit.in_ret ?_) | (refine AExit.in_same ?_) | (refine AExit.in_other rfl ?_) | (refine ASeq.nil ?_))
    refine ASeq.q rfl rfl (QOp.build rfl (tok _ rfl) rfl rfl rfl rfl rfl) ?_
    first | (refine ASeq.op0 rfl rfl (AOp.storeP 0 rfl rfl rfl rfl (tok _ rfl) rfl rfl rfl rfl ?_)) | (refine ASeq.op0 rfl rfl (AOp.storeP 1 rfl rfl rfl rfl (tok _ rfl) rfl rfl rfl rfl ?_)) | (refine ASeq.op0 rfl rfl (AOp.storeP 2 rfl rfl rfl rfl (tok _ rfl) rfl rfl rfl rfl ?_)) | (refine ASeq.op0 rfl rfl (AOp.storeP 3 rfl rfl rfl rfl (tok _ rfl) rfl rfl rfl rfl ?_)) | (refine ASeq.op0 rfl rfl (AOp.storeP 4 rfl rfl rfl rfl (tok _ rfl) rfl rfl rfl rfl ?_)) | (refine ASeq.op0 rfl rfl (AOp.storeP 5 rfl rfl rfl rfl (tok _ rfl) rfl rfl rfl rfl ?_)) | (refine ASeq.op0 rfl rfl (AOp.storeP 6 rfl rfl rfl rfl (tok _ rfl) rfl rfl rfl rfl ?_)) | (refine ASeq.op0 rfl rfl (AOp.storeP 7 rfl rfl rfl rfl (tok _ rfl) rfl rfl rfl rfl ?_)) | (refine ASeq.op0 rfl rfl (AOp.storeP 8 rfl rfl rfl rfl (tok _ rfl) rfl rfl rfl rfl ?_)) | (refine ASeq.op0 rfl rfl (AOp.storeP 9 rfl rfl rfl rfl (tok _ rfl) rfl rfl rfl rfl ?_)) | (refine ASeq.op0 rfl rfl (AOp.storeP 10 rfl rfl rfl rfl (tok _ rfl) rfl rfl rfl rfl ?_)) | (refine ASeq.op0 rfl rfl (AOp.storeP 11 rfl rfl rfl rfl (tok _ rfl) rfl rfl rfl rfl ?_)) | (refine ASeq.op0 rfl rfl (AOp.storeP 12 rfl rfl rfl rfl (tok _ rfl) rfl rfl rfl rfl ?_)) | (refine ASeq.op0 rfl rfl (AOp.storeP 13 rfl rfl rfl rfl (tok _ rfl) rfl rfl rfl rfl ?_)) | (refine ASeq.op0 rfl rfl (AOp.storeP 14 rfl rfl rfl rfl (tok _ rfl) rfl rfl rfl rfl ?_)) | (refine ASeq.op0 rfl rfl (AOp.storeP 15 rfl rfl rfl rfl (tok _ rfl) rfl rfl rfl rfl ?_))
    refine ASeq.q rfl rfl (QOp.assign rfl rfl) ?_
    refine ASeq.nil ?_
    repeat (first | (refine ACode.seq ?_) | (refine ACode.region ?_) | (refine ACode.ret ?_) | (refine ACode.skip ?_) | (refine ACode.exit ?_) | (refine ACode.block ?_) | (refine AExit.then_normal ?_) | (refine AExit.then_ret ?_) | (refine AExit.then_exit ?_) | (refine AExit.in_normal ?_) | (refine AExit.in_ret ?_) | (refine AExit.in_same ?_) | (refine AExit.in_other rfl ?_) | (refine ASeq.nil ?_))
    refine bodyQ_ret 0 (.cell 0 rfl rfl (tok _ rfl) rfl (.tmp rfl .nil)) rfl ?_
    rw [hr]
    exact ⟨_, LeL.tup (.cons nilTree_le (.cons (.refl _) .nil)), .mk⟩
  have hsm : ¬ s.size > 800 := by have := of_decide_eq_false hb; omega
  have hs : s.size ≤ 1000000 := by omega
  repeat (first | (refine ACode.seq ?_) | (refine ACode.region ?_) | (refine ACode.ret ?_) | (refine ACode.skip ?_) | (refine ACode.exit ?_) | (refine ACode.block ?_) | (refine AExit.then_normal ?_) | (refine AExit.then_ret ?_) | (refine AExit.then_exit ?_) | (refine AExit.in_normal ?_) | (refine AExit.in_ret ?_) | (refine AExit.in_same ?_) | (refine AExit.in_other rfl ?_) | (refine ASeq.nil ?_))
  refine ASeq.q rfl rfl (QOp.move rfl rfl) ?_
  refine ASeq.op rfl rfl (AOp.callP 0 rfl (by kernel_rfl) rfl rfl rfl (parse_ok s hs) ?_ (by rintro _ _ ⟨⟩))
  rintro _ _ ⟨⟩
  refine ASeq.q rfl rfl (QOp.move rfl rfl) ?_
  refine ASeq.q rfl rfl (QOp.extract rfl rfl rfl) ?_
  refine ASeq.q rfl rfl (QOp.extract rfl rfl rfl) ?_
  refine ASeq.q rfl rfl (QOp.extract rfl rfl rfl) ?_
  refine ASeq.op rfl rfl (AOp.allocP rfl (tok _ rfl) rfl rfl (fun _ => rfl) (fun _ => ?_))
  first | (refine ASeq.op0 rfl rfl (AOp.storeP 0 rfl rfl rfl rfl (tok _ rfl) rfl rfl rfl rfl ?_)) | (refine ASeq.op0 rfl rfl (AOp.storeP 1 rfl rfl rfl rfl (tok _ rfl) rfl rfl rfl rfl ?_)) | (refine ASeq.op0 rfl rfl (AOp.storeP 2 rfl rfl rfl rfl (tok _ rfl) rfl rfl rfl rfl ?_)) | (refine ASeq.op0 rfl rfl (AOp.storeP 3 rfl rfl rfl rfl (tok _ rfl) rfl rfl rfl rfl ?_)) | (refine ASeq.op0 rfl rfl (AOp.storeP 4 rfl rfl rfl rfl (tok _ rfl) rfl rfl rfl rfl ?_)) | (refine ASeq.op0 rfl rfl (AOp.storeP 5 rfl rfl rfl rfl (tok _ rfl) rfl rfl rfl rfl ?_)) | (refine ASeq.op0 rfl rfl (AOp.storeP 6 rfl rfl rfl rfl (tok _ rfl) rfl rfl rfl rfl ?_)) | (refine ASeq.op0 rfl rfl (AOp.storeP 7 rfl rfl rfl rfl (tok _ rfl) rfl rfl rfl rfl ?_)) | (refine ASeq.op0 rfl rfl (AOp.storeP 8 rfl rfl rfl rfl (tok _ rfl) rfl rfl rfl rfl ?_)) | (refine ASeq.op0 rfl rfl (AOp.storeP 9 rfl rfl rfl rfl (tok _ rfl) rfl rfl rfl rfl ?_)) | (refine ASeq.op0 rfl rfl (AOp.storeP 10 rfl rfl rfl rfl (tok _ rfl) rfl rfl rfl rfl ?_)) | (refine ASeq.op0 rfl rfl (AOp.storeP 11 rfl rfl rfl rfl (tok _ rfl) rfl rfl rfl rfl ?_)) | (refine ASeq.op0 rfl rfl (AOp.storeP 12 rfl rfl rfl rfl (tok _ rfl) rfl rfl rfl rfl ?_)) | (refine ASeq.op0 rfl rfl (AOp.storeP 13 rfl rfl rfl rfl (tok _ rfl) rfl rfl rfl rfl ?_)) | (refine ASeq.op0 rfl rfl (AOp.storeP 14 rfl rfl rfl rfl (tok _ rfl) rfl rfl rfl rfl ?_)) | (refine ASeq.op0 rfl rfl (AOp.storeP 15 rfl rfl rfl rfl (tok _ rfl) rfl rfl rfl rfl ?_))
  refine ASeq.q rfl rfl (QOp.assign rfl rfl) ?_
  refine ASeq.q rfl rfl (QOp.assign rfl rfl) ?_
  refine ASeq.nil ?_
  rename_i m4
  repeat (first | (refine ACode.seq ?_) | (refine ACode.region ?_) | (refine ACode.ret ?_) | (refine ACode.skip ?_) | (refine ACode.exit ?_) | (refine ACode.block ?_) | (refine AExit.then_normal ?_) | (refine AExit.then_ret ?_) | (refine AExit.then_exit ?_) | (refine AExit.in_normal ?_) | (refine AExit.in_ret ?_) | (refine AExit.in_same ?_) | (refine AExit.in_other rfl ?_) | (refine ASeq.nil ?_))
  refine ASeq.q rfl rfl (QOp.move rfl rfl) ?_
  refine ASeq.q rfl rfl (QOp.cmp rfl rfl rfl rfl) ?_
  refine ASeq.nil ?_
  repeat (first | (refine ACode.seq ?_) | (refine ACode.region ?_) | (refine ACode.ret ?_) | (refine ACode.skip ?_) | (refine ACode.exit ?_) | (refine ACode.block ?_) | (refine AExit.then_normal ?_) | (refine AExit.then_ret ?_) | (refine AExit.then_exit ?_) | (refine AExit.in_normal ?_) | (refine AExit.in_ret ?_) | (refine AExit.in_same ?_) | (refine AExit.in_other rfl ?_) | (refine ASeq.nil ?_))
  refine ACode.cond _ rfl (fun hb => ?_) (fun hb => ?_)
  · have hne : (parse s).2.2 ≠ 0 := by simpa using hb
    have hr : rightOf s = ({}, false) := by unfold rightOf; rw [if_neg hsm, if_pos hne]
    repeat (first | (refine ACode.seq ?_) | (refine ACode.region ?_) | (refine ACode.ret ?_) | (refine ACode.skip ?_) | (refine ACode.exit ?_) | (refine ACode.block ?_) | (refine AExit.then_normal ?_) | (refine AExit.then_ret ?_) | (refine AExit.then_exit ?_) | (refine AExit.in_normal ?_) | (refine AExit.in_ret ?_) | (refine AExit.in_same ?_) | (refine AExit.in_other rfl ?_) | (refine ASeq.nil ?_))
    refine ASeq.q rfl rfl (QOp.build rfl (tok _ rfl) rfl rfl rfl rfl rfl) ?_
    first | (refine ASeq.op0 rfl rfl (AOp.storeP 0 rfl rfl rfl rfl (tok _ rfl) rfl rfl rfl rfl ?_)) | (refine ASeq.op0 rfl rfl (AOp.storeP 1 rfl rfl rfl rfl (tok _ rfl) rfl rfl rfl rfl ?_)) | (refine ASeq.op0 rfl rfl (AOp.storeP 2 rfl rfl rfl rfl (tok _ rfl) rfl rfl rfl rfl ?_)) | (refine ASeq.op0 rfl rfl (AOp.storeP 3 rfl rfl rfl rfl (tok _ rfl) rfl rfl rfl rfl ?_)) | (refine ASeq.op0 rfl rfl (AOp.storeP 4 rfl rfl rfl rfl (tok _ rfl) rfl rfl rfl rfl ?_)) | (refine ASeq.op0 rfl rfl (AOp.storeP 5 rfl rfl rfl rfl (tok _ rfl) rfl rfl rfl rfl ?_)) | (refine ASeq.op0 rfl rfl (AOp.storeP 6 rfl rfl rfl rfl (tok _ rfl) rfl rfl rfl rfl ?_)) | (refine ASeq.op0 rfl rfl (AOp.storeP 7 rfl rfl rfl rfl (tok _ rfl) rfl rfl rfl rfl ?_)) | (refine ASeq.op0 rfl rfl (AOp.storeP 8 rfl rfl rfl rfl (tok _ rfl) rfl rfl rfl rfl ?_)) | (refine ASeq.op0 rfl rfl (AOp.storeP 9 rfl rfl rfl rfl (tok _ rfl) rfl rfl rfl rfl ?_)) | (refine ASeq.op0 rfl rfl (AOp.storeP 10 rfl rfl rfl rfl (tok _ rfl) rfl rfl rfl rfl ?_)) | (refine ASeq.op0 rfl rfl (AOp.storeP 11 rfl rfl rfl rfl (tok _ rfl) rfl rfl rfl rfl ?_)) | (refine ASeq.op0 rfl rfl (AOp.storeP 12 rfl rfl rfl rfl (tok _ rfl) rfl rfl rfl rfl ?_)) | (refine ASeq.op0 rfl rfl (AOp.storeP 13 rfl rfl rfl rfl (tok _ rfl) rfl rfl rfl rfl ?_)) | (refine ASeq.op0 rfl rfl (AOp.storeP 14 rfl rfl rfl rfl (tok _ rfl) rfl rfl rfl rfl ?_)) | (refine ASeq.op0 rfl rfl (AOp.storeP 15 rfl rfl rfl rfl (tok _ rfl) rfl rfl rfl rfl ?_))
    refine ASeq.q rfl rfl (QOp.assign rfl rfl) ?_
    refine ASeq.nil ?_
    repeat (first | (refine ACode.seq ?_) | (refine ACode.region ?_) | (refine ACode.ret ?_) | (refine ACode.skip ?_) | (refine ACode.exit ?_) | (refine ACode.block ?_) | (refine AExit.then_normal ?_) | (refine AExit.then_ret ?_) | (refine AExit.then_exit ?_) | (refine AExit.in_normal ?_) | (refine AExit.in_ret ?_) | (refine AExit.in_same ?_) | (refine AExit.in_other rfl ?_) | (refine ASeq.nil ?_))
    refine bodyQ_ret 0 (.cell 0 rfl rfl (tok _ rfl) rfl (.tmp rfl .nil)) rfl ?_
    rw [hr]
    exact ⟨_, LeL.tup (.cons nilTree_le (.cons (.refl _) .nil)), .mk⟩
  have hz : (parse s).2.2 = 0 := by simpa using hb
  have hr : rightOf s = ((parse s).1, (checked (parse s).1).code == 0) := by unfold rightOf; rw [if_neg hsm, if_neg (fun h => h hz)]
  obtain ⟨toks, at_, htree⟩ := parse_tree hs hz
  have hck := check6_ok (parse s).1 htree.ok
  rw [hr]
  generalize (parse s).1 = t at *
  repeat (first | (refine ACode.seq ?_) | (refine ACode.region ?_) | (refine ACode.ret ?_) | (refine ACode.skip ?_) | (refine ACode.exit ?_) | (refine ACode.block ?_) | (refine AExit.then_normal ?_) | (refine AExit.then_ret ?_) | (refine AExit.then_exit ?_) | (refine AExit.in_normal ?_) | (refine AExit.in_ret ?_) | (refine AExit.in_same ?_) | (refine AExit.in_other rfl ?_) | (refine ASeq.nil ?_))
  first | (refine ASeq.q rfl rfl (QOp.loadI rfl rfl (tok _ rfl) rfl) ?_) | (refine ASeq.q rfl rfl (QOp.loadM 0 rfl rfl rfl (tok _ rfl) rfl) ?_) | (refine ASeq.q rfl rfl (QOp.loadM 1 rfl rfl rfl (tok _ rfl) rfl) ?_) | (refine ASeq.q rfl rfl (QOp.loadM 2 rfl rfl rfl (tok _ rfl) rfl) ?_) | (refine ASeq.q rfl rfl (QOp.loadM 3 rfl rfl rfl (tok _ rfl) rfl) ?_) | (refine ASeq.q rfl rfl (QOp.loadM 4 rfl rfl rfl (tok _ rfl) rfl) ?_) | (refine ASeq.q rfl rfl (QOp.loadM 5 rfl rfl rfl (tok _ rfl) rfl) ?_) | (refine ASeq.q rfl rfl (QOp.loadM 6 rfl rfl rfl (tok _ rfl) rfl) ?_) | (refine ASeq.q rfl rfl (QOp.loadM 7 rfl rfl rfl (tok _ rfl) rfl) ?_) | (refine ASeq.q rfl rfl (QOp.loadM 8 rfl rfl rfl (tok _ rfl) rfl) ?_) | (refine ASeq.q rfl rfl (QOp.loadM 9 rfl rfl rfl (tok _ rfl) rfl) ?_) | (refine ASeq.q rfl rfl (QOp.loadM 10 rfl rfl rfl (tok _ rfl) rfl) ?_) | (refine ASeq.q rfl rfl (QOp.loadM 11 rfl rfl rfl (tok _ rfl) rfl) ?_) | (refine ASeq.q rfl rfl (QOp.loadM 12 rfl rfl rfl (tok _ rfl) rfl) ?_) | (refine ASeq.q rfl rfl (QOp.loadM 13 rfl rfl rfl (tok _ rfl) rfl) ?_) | (refine ASeq.q rfl rfl (QOp.loadM 14 rfl rfl rfl (tok _ rfl) rfl) ?_) | (refine ASeq.q rfl rfl (QOp.loadM 15 rfl rfl rfl (tok _ rfl) rfl) ?_) | (refine ASeq.q rfl rfl (QOp.loadAt 0 rfl rfl rfl (tok _ rfl) rfl (by assumption)) ?_) | (refine ASeq.q rfl rfl (QOp.loadAt 1 rfl rfl rfl (tok _ rfl) rfl (by assumption)) ?_) | (refine ASeq.q rfl rfl (QOp.loadAt 2 rfl rfl rfl (tok _ rfl) rfl (by assumption)) ?_) | (refine ASeq.q rfl rfl (QOp.loadAt 3 rfl rfl rfl (tok _ rfl) rfl (by assumption)) ?_) | (refine ASeq.q rfl rfl (QOp.loadAt 4 rfl rfl rfl (tok _ rfl) rfl (by assumption)) ?_) | (refine ASeq.q rfl rfl (QOp.loadAt 5 rfl rfl rfl (tok _ rfl) rfl (by assumption)) ?_)
  refine ASeq.op rfl rfl (AOp.callP 0 rfl (by kernel_rfl) rfl rfl rfl hck ?_ (by rintro _ _ ⟨⟩))
  rintro _ _ (⟨hbad⟩ | ⟨hgood, m, τ⟩)
  · refine ASeq.q rfl rfl (QOp.move rfl rfl) ?_
    refine ASeq.q rfl rfl (QOp.extract rfl rfl rfl) ?_
    refine ASeq.q rfl rfl (QOp.extract rfl rfl rfl) ?_
    refine ASeq.q rfl rfl (QOp.extract rfl rfl rfl) ?_
    refine ASeq.op rfl rfl (AOp.allocP rfl (tok _ rfl) rfl rfl (fun _ => rfl) (fun _ => ?_))
    first | (refine ASeq.op0 rfl rfl (AOp.storeP 0 rfl rfl rfl rfl (tok _ rfl) rfl rfl rfl rfl ?_)) | (refine ASeq.op0 rfl rfl (AOp.storeP 1 rfl rfl rfl rfl (tok _ rfl) rfl rfl rfl rfl ?_)) | (refine ASeq.op0 rfl rfl (AOp.storeP 2 rfl rfl rfl rfl (tok _ rfl) rfl rfl rfl rfl ?_)) | (refine ASeq.op0 rfl rfl (AOp.storeP 3 rfl rfl rfl rfl (tok _ rfl) rfl rfl rfl rfl ?_)) | (refine ASeq.op0 rfl rfl (AOp.storeP 4 rfl rfl rfl rfl (tok _ rfl) rfl rfl rfl rfl ?_)) | (refine ASeq.op0 rfl rfl (AOp.storeP 5 rfl rfl rfl rfl (tok _ rfl) rfl rfl rfl rfl ?_)) | (refine ASeq.op0 rfl rfl (AOp.storeP 6 rfl rfl rfl rfl (tok _ rfl) rfl rfl rfl rfl ?_)) | (refine ASeq.op0 rfl rfl (AOp.storeP 7 rfl rfl rfl rfl (tok _ rfl) rfl rfl rfl rfl ?_)) | (refine ASeq.op0 rfl rfl (AOp.storeP 8 rfl rfl rfl rfl (tok _ rfl) rfl rfl rfl rfl ?_)) | (refine ASeq.op0 rfl rfl (AOp.storeP 9 rfl rfl rfl rfl (tok _ rfl) rfl rfl rfl rfl ?_)) | (refine ASeq.op0 rfl rfl (AOp.storeP 10 rfl rfl rfl rfl (tok _ rfl) rfl rfl rfl rfl ?_)) | (refine ASeq.op0 rfl rfl (AOp.storeP 11 rfl rfl rfl rfl (tok _ rfl) rfl rfl rfl rfl ?_)) | (refine ASeq.op0 rfl rfl (AOp.storeP 12 rfl rfl rfl rfl (tok _ rfl) rfl rfl rfl rfl ?_)) | (refine ASeq.op0 rfl rfl (AOp.storeP 13 rfl rfl rfl rfl (tok _ rfl) rfl rfl rfl rfl ?_)) | (refine ASeq.op0 rfl rfl (AOp.storeP 14 rfl rfl rfl rfl (tok _ rfl) rfl rfl rfl rfl ?_)) | (refine ASeq.op0 rfl rfl (AOp.storeP 15 rfl rfl rfl rfl (tok _ rfl) rfl rfl rfl rfl ?_))
    refine ASeq.q rfl rfl (QOp.assign rfl rfl) ?_
    refine ASeq.q rfl rfl (QOp.assign rfl rfl) ?_
    refine ASeq.nil ?_
    repeat (first | (refine ACode.seq ?_) | (refine ACode.region ?_) | (refine ACode.ret ?_) | (refine ACode.skip ?_) | (refine ACode.exit ?_) | (refine ACode.block ?_) | (refine AExit.then_normal ?_) | (refine AExit.then_ret ?_) | (refine AExit.then_exit ?_) | (refine AExit.in_normal ?_) | (refine AExit.in_ret ?_) | (refine AExit.in_same ?_) | (refine AExit.in_other rfl ?_) | (refine ASeq.nil ?_))
    first | (refine ASeq.q rfl rfl (QOp.loadI rfl rfl (tok _ rfl) rfl) ?_) | (refine ASeq.q rfl rfl (QOp.loadM 0 rfl rfl rfl (tok _ rfl) rfl) ?_) | (refine ASeq.q rfl rfl (QOp.loadM 1 rfl rfl rfl (tok _ rfl) rfl) ?_) | (refine ASeq.q rfl rfl (QOp.loadM 2 rfl rfl rfl (tok _ rfl) rfl) ?_) | (refine ASeq.q rfl rfl (QOp.loadM 3 rfl rfl rfl (tok _ rfl) rfl) ?_) | (refine ASeq.q rfl rfl (QOp.loadM 4 rfl rfl rfl (tok _ rfl) rfl) ?_) | (refine ASeq.q rfl rfl (QOp.loadM 5 rfl rfl rfl (tok _ rfl) rfl) ?_) | (refine ASeq.q rfl rfl (QOp.loadM 6 rfl rfl rfl (tok _ rfl) rfl) ?_) | (refine ASeq.q rfl rfl (QOp.loadM 7 rfl rfl rfl (tok _ rfl) rfl) ?_) | (refine ASeq.q rfl rfl (QOp.loadM 8 rfl rfl rfl (tok _ rfl) rfl) ?_) | (refine ASeq.q rfl rfl (QOp.loadM 9 rfl rfl rfl (tok _ rfl) rfl) ?_) | (refine ASeq.q rfl rfl (QOp.loadM 10 rfl rfl rfl (tok _ rfl) rfl) ?_) | (refine ASeq.q rfl rfl (QOp.loadM 11 rfl rfl rfl (tok _ rfl) rfl) ?_) | (refine ASeq.q rfl rfl (QOp.loadM 12 rfl rfl rfl (tok _ rfl) rfl) ?_) | (refine ASeq.q rfl rfl (QOp.loadM 13 rfl rfl rfl (tok _ rfl) rfl) ?_) | (refine ASeq.q rfl rfl (QOp.loadM 14 rfl rfl rfl (tok _ rfl) rfl) ?_) | (refine ASeq.q rfl rfl (QOp.loadM 15 rfl rfl rfl (tok _ rfl) rfl) ?_) | (refine ASeq.q rfl rfl (QOp.loadAt 0 rfl rfl rfl (tok _ rfl) rfl (by assumption)) ?_) | (refine ASeq.q rfl rfl (QOp.loadAt 1 rfl rfl rfl (tok _ rfl) rfl (by assumption)) ?_) | (refine ASeq.q rfl rfl (QOp.loadAt 2 rfl rfl rfl (tok _ rfl) rfl (by assumption)) ?_) | (refine ASeq.q rfl rfl (QOp.loadAt 3 rfl rfl rfl (tok _ rfl) rfl (by assumption)) ?_) | (refine ASeq.q rfl rfl (QOp.loadAt 4 rfl rfl rfl (tok _ rfl) rfl (by assumption)) ?_) | (refine ASeq.q rfl rfl (QOp.loadAt 5 rfl rfl rfl (tok _ rfl) rfl (by assumption)) ?_)
    refine ASeq.q rfl rfl (QOp.move rfl rfl) ?_
    refine ASeq.q rfl rfl (QOp.cmp rfl rfl rfl rfl) ?_
    first | (refine ASeq.op0 rfl rfl (AOp.storeP 0 rfl rfl rfl rfl (tok _ rfl) rfl rfl rfl rfl ?_)) | (refine ASeq.op0 rfl rfl (AOp.storeP 1 rfl rfl rfl rfl (tok _ rfl) rfl rfl rfl rfl ?_)) | (refine ASeq.op0 rfl rfl (AOp.storeP 2 rfl rfl rfl rfl (tok _ rfl) rfl rfl rfl rfl ?_)) | (refine ASeq.op0 rfl rfl (AOp.storeP 3 rfl rfl rfl rfl (tok _ rfl) rfl rfl rfl rfl ?_)) | (refine ASeq.op0 rfl rfl (AOp.storeP 4 rfl rfl rfl rfl (tok _ rfl) rfl rfl rfl rfl ?_)) | (refine ASeq.op0 rfl rfl (AOp.storeP 5 rfl rfl rfl rfl (tok _ rfl) rfl rfl rfl rfl ?_)) | (refine ASeq.op0 rfl rfl (AOp.storeP 6 rfl rfl rfl rfl (tok _ rfl) rfl rfl rfl rfl ?_)) | (refine ASeq.op0 rfl rfl (AOp.storeP 7 rfl rfl rfl rfl (tok _ rfl) rfl rfl rfl rfl ?_)) | (refine ASeq.op0 rfl rfl (AOp.storeP 8 rfl rfl rfl rfl (tok _ rfl) rfl rfl rfl rfl ?_)) | (refine ASeq.op0 rfl rfl (AOp.storeP 9 rfl rfl rfl rfl (tok _ rfl) rfl rfl rfl rfl ?_)) | (refine ASeq.op0 rfl rfl (AOp.storeP 10 rfl rfl rfl rfl (tok _ rfl) rfl rfl rfl rfl ?_)) | (refine ASeq.op0 rfl rfl (AOp.storeP 11 rfl rfl rfl rfl (tok _ rfl) rfl rfl rfl rfl ?_)) | (refine ASeq.op0 rfl rfl (AOp.storeP 12 rfl rfl rfl rfl (tok _ rfl) rfl rfl rfl rfl ?_)) | (refine ASeq.op0 rfl rfl (AOp.storeP 13 rfl rfl rfl rfl (tok _ rfl) rfl rfl rfl rfl ?_)) | (refine ASeq.op0 rfl rfl (AOp.storeP 14 rfl rfl rfl rfl (tok _ rfl) rfl rfl rfl rfl ?_)) | (refine ASeq.op0 rfl rfl (AOp.storeP 15 rfl rfl rfl rfl (tok _ rfl) rfl rfl rfl rfl ?_))
    refine ASeq.q rfl rfl (QOp.assign rfl rfl) ?_
    refine ASeq.nil ?_
    repeat (first | (refine ACode.seq ?_) | (refine ACode.region ?_) | (refine ACode.ret ?_) | (refine ACode.skip ?_) | (refine ACode.exit ?_) | (refine ACode.block ?_) | (refine AExit.then_normal ?_) | (refine AExit.then_ret ?_) | (refine AExit.then_exit ?_) | (refine AExit.in_normal ?_) | (refine AExit.in_ret ?_) | (refine AExit.in_same ?_) | (refine AExit.in_other rfl ?_) | (refine ASeq.nil ?_))
    refine bodyQ_ret 0 (.cell 0 rfl rfl (tok _ rfl) rfl (.tmp rfl .nil)) rfl ?_
    exact ⟨_, .refl _, .mk⟩
  · rw [hgood]
    refine ASeq.q rfl rfl (QOp.move rfl rfl) ?_
    refine ASeq.q rfl rfl (QOp.extract rfl rfl rfl) ?_
    refine ASeq.q rfl rfl (QOp.extract rfl rfl rfl) ?_
    refine ASeq.q rfl rfl (QOp.extract rfl rfl rfl) ?_
    refine ASeq.op rfl rfl (AOp.allocP rfl (tok _ rfl) rfl rfl (fun _ => rfl) (fun _ => ?_))
    first | (refine ASeq.op0 rfl rfl (AOp.storeP 0 rfl rfl rfl rfl (tok _ rfl) rfl rfl rfl rfl ?_)) | (refine ASeq.op0 rfl rfl (AOp.storeP 1 rfl rfl rfl rfl (tok _ rfl) rfl rfl rfl rfl ?_)) | (refine ASeq.op0 rfl rfl (AOp.storeP 2 rfl rfl rfl rfl (tok _ rfl) rfl rfl rfl rfl ?_)) | (refine ASeq.op0 rfl rfl (AOp.storeP 3 rfl rfl rfl rfl (tok _ rfl) rfl rfl rfl rfl ?_)) | (refine ASeq.op0 rfl rfl (AOp.storeP 4 rfl rfl rfl rfl (tok _ rfl) rfl rfl rfl rfl ?_)) | (refine ASeq.op0 rfl rfl (AOp.storeP 5 rfl rfl rfl rfl (tok _ rfl) rfl rfl rfl rfl ?_)) | (refine ASeq.op0 rfl rfl (AOp.storeP 6 rfl rfl rfl rfl (tok _ rfl) rfl rfl rfl rfl ?_)) | (refine ASeq.op0 rfl rfl (AOp.storeP 7 rfl rfl rfl rfl (tok _ rfl) rfl rfl rfl rfl ?_)) | (refine ASeq.op0 rfl rfl (AOp.storeP 8 rfl rfl rfl rfl (tok _ rfl) rfl rfl rfl rfl ?_)) | (refine ASeq.op0 rfl rfl (AOp.storeP 9 rfl rfl rfl rfl (tok _ rfl) rfl rfl rfl rfl ?_)) | (refine ASeq.op0 rfl rfl (AOp.storeP 10 rfl rfl rfl rfl (tok _ rfl) rfl rfl rfl rfl ?_)) | (refine ASeq.op0 rfl rfl (AOp.storeP 11 rfl rfl rfl rfl (tok _ rfl) rfl rfl rfl rfl ?_)) | (refine ASeq.op0 rfl rfl (AOp.storeP 12 rfl rfl rfl rfl (tok _ rfl) rfl rfl rfl rfl ?_)) | (refine ASeq.op0 rfl rfl (AOp.storeP 13 rfl rfl rfl rfl (tok _ rfl) rfl rfl rfl rfl ?_)) | (refine ASeq.op0 rfl rfl (AOp.storeP 14 rfl rfl rfl rfl (tok _ rfl) rfl rfl rfl rfl ?_)) | (refine ASeq.op0 rfl rfl (AOp.storeP 15 rfl rfl rfl rfl (tok _ rfl) rfl rfl rfl rfl ?_))
    refine ASeq.q rfl rfl (QOp.assign rfl rfl) ?_
    refine ASeq.q rfl rfl (QOp.assign rfl rfl) ?_
    refine ASeq.nil ?_
    repeat (first | (refine ACode.seq ?_) | (refine ACode.region ?_) | (refine ACode.ret ?_) | (refine ACode.skip ?_) | (refine ACode.exit ?_) | (refine ACode.block ?_) | (refine AExit.then_normal ?_) | (refine AExit.then_ret ?_) | (refine AExit.then_exit ?_) | (refine AExit.in_normal ?_) | (refine AExit.in_ret ?_) | (refine AExit.in_same ?_) | (refine AExit.in_other rfl ?_) | (refine ASeq.nil ?_))
    first | (refine ASeq.q rfl rfl (QOp.loadI rfl rfl (tok _ rfl) rfl) ?_) | (refine ASeq.q rfl rfl (QOp.loadM 0 rfl rfl rfl (tok _ rfl) rfl) ?_) | (refine ASeq.q rfl rfl (QOp.loadM 1 rfl rfl rfl (tok _ rfl) rfl) ?_) | (refine ASeq.q rfl rfl (QOp.loadM 2 rfl rfl rfl (tok _ rfl) rfl) ?_) | (refine ASeq.q rfl rfl (QOp.loadM 3 rfl rfl rfl (tok _ rfl) rfl) ?_) | (refine ASeq.q rfl rfl (QOp.loadM 4 rfl rfl rfl (tok _ rfl) rfl) ?_) | (refine ASeq.q rfl rfl (QOp.loadM 5 rfl rfl rfl (tok _ rfl) rfl) ?_) | (refine ASeq.q rfl rfl (QOp.loadM 6 rfl rfl rfl (tok _ rfl) rfl) ?_) | (refine ASeq.q rfl rfl (QOp.loadM 7 rfl rfl rfl (tok _ rfl) rfl) ?_) | (refine ASeq.q rfl rfl (QOp.loadM 8 rfl rfl rfl (tok _ rfl) rfl) ?_) | (refine ASeq.q rfl rfl (QOp.loadM 9 rfl rfl rfl (tok _ rfl) rfl) ?_) | (refine ASeq.q rfl rfl (QOp.loadM 10 rfl rfl rfl (tok _ rfl) rfl) ?_) | (refine ASeq.q rfl rfl (QOp.loadM 11 rfl rfl rfl (tok _ rfl) rfl) ?_) | (refine ASeq.q rfl rfl (QOp.loadM 12 rfl rfl rfl (tok _ rfl) rfl) ?_) | (refine ASeq.q rfl rfl (QOp.loadM 13 rfl rfl rfl (tok _ rfl) rfl) ?_) | (refine ASeq.q rfl rfl (QOp.loadM 14 rfl rfl rfl (tok _ rfl) rfl) ?_) | (refine ASeq.q rfl rfl (QOp.loadM 15 rfl rfl rfl (tok _ rfl) rfl) ?_) | (refine ASeq.q rfl rfl (QOp.loadAt 0 rfl rfl rfl (tok _ rfl) rfl (by assumption)) ?_) | (refine ASeq.q rfl rfl (QOp.loadAt 1 rfl rfl rfl (tok _ rfl) rfl (by assumption)) ?_) | (refine ASeq.q rfl rfl (QOp.loadAt 2 rfl rfl rfl (tok _ rfl) rfl (by assumption)) ?_) | (refine ASeq.q rfl rfl (QOp.loadAt 3 rfl rfl rfl (tok _ rfl) rfl (by assumption)) ?_) | (refine ASeq.q rfl rfl (QOp.loadAt 4 rfl rfl rfl (tok _ rfl) rfl (by assumption)) ?_) | (refine ASeq.q rfl rfl (QOp.loadAt 5 rfl rfl rfl (tok _ rfl) rfl (by assumption)) ?_)
    refine ASeq.q rfl rfl (QOp.move rfl rfl) ?_
    refine ASeq.q rfl rfl (QOp.cmp rfl rfl rfl rfl) ?_
    first | (refine ASeq.op0 rfl rfl (AOp.storeP 0 rfl rfl rfl rfl (tok _ rfl) rfl rfl rfl rfl ?_)) | (refine ASeq.op0 rfl rfl (AOp.storeP 1 rfl rfl rfl rfl (tok _ rfl) rfl rfl rfl rfl ?_)) | (refine ASeq.op0 rfl rfl (AOp.storeP 2 rfl rfl rfl rfl (tok _ rfl) rfl rfl rfl rfl ?_)) | (refine ASeq.op0 rfl rfl (AOp.storeP 3 rfl rfl rfl rfl (tok _ rfl) rfl rfl rfl rfl ?_)) | (refine ASeq.op0 rfl rfl (AOp.storeP 4 rfl rfl rfl rfl (tok _ rfl) rfl rfl rfl rfl ?_)) | (refine ASeq.op0 rfl rfl (AOp.storeP 5 rfl rfl rfl rfl (tok _ rfl) rfl rfl rfl rfl ?_)) | (refine ASeq.op0 rfl rfl (AOp.storeP 6 rfl rfl rfl rfl (tok _ rfl) rfl rfl rfl rfl ?_)) | (refine ASeq.op0 rfl rfl (AOp.storeP 7 rfl rfl rfl rfl (tok _ rfl) rfl rfl rfl rfl ?_)) | (refine ASeq.op0 rfl rfl (AOp.storeP 8 rfl rfl rfl rfl (tok _ rfl) rfl rfl rfl rfl ?_)) | (refine ASeq.op0 rfl rfl (AOp.storeP 9 rfl rfl rfl rfl (tok _ rfl) rfl rfl rfl rfl ?_)) | (refine ASeq.op0 rfl rfl (AOp.storeP 10 rfl rfl rfl rfl (tok _ rfl) rfl rfl rfl rfl ?_)) | (refine ASeq.op0 rfl rfl (AOp.storeP 11 rfl rfl rfl rfl (tok _ rfl) rfl rfl rfl rfl ?_)) | (refine ASeq.op0 rfl rfl (AOp.storeP 12 rfl rfl rfl rfl (tok _ rfl) rfl rfl rfl rfl ?_)) | (refine ASeq.op0 rfl rfl (AOp.storeP 13 rfl rfl rfl rfl (tok _ rfl) rfl rfl rfl rfl ?_)) | (refine ASeq.op0 rfl rfl (AOp.storeP 14 rfl rfl rfl rfl (tok _ rfl) rfl rfl rfl rfl ?_)) | (refine ASeq.op0 rfl rfl (AOp.storeP 15 rfl rfl rfl rfl (tok _ rfl) rfl rfl rfl rfl ?_))
    refine ASeq.q rfl rfl (QOp.assign rfl rfl) ?_
    refine ASeq.nil ?_
    repeat (first | (refine ACode.seq ?_) | (refine ACode.region ?_) | (refine ACode.ret ?_) | (refine ACode.skip ?_) | (refine ACode.exit ?_) | (refine ACode.block ?_) | (refine AExit.then_normal ?_) | (refine AExit.then_ret ?_) | (refine AExit.then_exit ?_) | (refine AExit.in_normal ?_) | (refine AExit.in_ret ?_) | (refine AExit.in_same ?_) | (refine AExit.in_other rfl ?_) | (refine ASeq.nil ?_))
    refine bodyQ_ret 0 (.cell 6 rfl rfl (tok _ rfl) rfl (.tmp rfl .nil)) rfl ?_
    exact ⟨_, .refl _, .mk⟩
def s7 : ByteArray := ⟨#[102, 117, 110, 99, 32, 109, 97, 105, 110, 40, 41, 32, 123, 32, 118, 97, 114, 32, 120, 32, 61, 32, 48, 59, 32, 119, 104, 105, 108, 101, 32, 120, 32, 60, 32, 49, 32, 123, 32, 120, 32, 61, 32, 49, 59, 32, 125, 32, 120, 32, 61, 32, 50, 59, 32, 125]⟩
/-- what is known of a right text -/
structure RightT (s : ByteArray) (t : Tree) (R : Nat → Nat) : Prop where
  tree : ∃ toks at_, IsTree s t toks at_
  fr : FR t R
  code : (checked t).code = 0
theorem rightT {s : ByteArray} (h : (rightOf s).2 = true) : ∃ R, RightT s (rightOf s).1 R := by
  unfold rightOf at h ⊢
  split at h
  · cases h
  rename_i h1
  rw [if_neg h1]
  split at h
  · cases h
  rename_i h2
  rw [if_neg h2]
  have hz : (parse s).2.2 = 0 := Decidable.byContradiction h2
  obtain ⟨toks, at_, htree⟩ := parse_tree (by omega) hz
  obtain ⟨R, hR⟩ := htree.fr
  exact ⟨R, ⟨toks, at_, htree⟩, hR, by simpa using h⟩
theorem RightT.ok {s : ByteArray} {t : Tree} {R : Nat → Nat} (h : RightT s t R) : TreeOk t ∧ (∀ (i : Nat) (x : St), t.stmts[i]? = some x → StOk x) ∧ JumpsOk t ∧ ∀ k d, InF t k d → (checked t).func[d.i.toNat]? = some (k : Int) := by
  obtain ⟨toks, at_, ht⟩ := h.tree
  obtain ⟨h1, h2⟩ := right_flow t R ht.ok h.fr ht.sts h.code
  exact ⟨ht.ok, ht.sts, h1, h2⟩
theorem RightT.of {s : ByteArray} {t : Tree} {R : Nat → Nat} (h : RightT s t R) : ACalls Try.prog 16 [.agg t.cells] [] (RG t) := by
  obtain ⟨h1, h2, h3, h4⟩ := h.ok
  exact flow_of t R h1 h2 h.fr h3
theorem s7_right : (rightOf s7).2 = true := by decide +kernel
def t7 : Tree := (rightOf s7).1
def d72 : Ctx := .at_ [0, 2, 3] 1 (-1) (-1) (-1) (-1)
def d71 : Ctx := d72.thn t7 0
theorem t7_fu : (t7.funcs.map (·.body)) = [[0, 2, 3]] := by decide +kernel
theorem t7_len : t7.stmts.length = 4 := by decide +kernel
theorem t7_way2 : way t7 d72 = [1, 3] := by decide +kernel
theorem t7_way1 : way t7 d71 = [2] := by decide +kernel
theorem t7_i1 : d71.i = 1 := by decide +kernel
theorem t7_thn : 0 < (t7.stm d72.i).thn.length := by decide +kernel
theorem t7_flow {nx : List (List Int)} (h : FlowOk t7 nx) : nx.length = 4 ∧ nx[2]? = some [1, 3] ∧ nx[1]? = some [2] := by
  have hf := t7_fu
  obtain ⟨g, hg, hb⟩ : ∃ g, t7.funcs[0]? = some g ∧ g.body = [0, 2, 3] := by
    cases hl : t7.funcs with
    | nil => rw [hl] at hf; cases hf
    | cons g l =>
      rw [hl] at hf
      simp only [List.map_cons, List.cons.injEq] at hf
      exact ⟨g, rfl, hf.1⟩
  have h2 : InF t7 0 d72 := ⟨g, 1, hg, by rw [hb]; decide, by unfold topC; rw [hb]; exact .self⟩
  have h1 : InF t7 0 d71 := by
    obtain ⟨g', j, q1, q2, q3⟩ := h2
    exact ⟨g', j, q1, q2, .thn q3 0 t7_thn⟩
  have e2 := h.ways 0 d72 h2
  have e1 := h.ways 0 d71 h1
  rw [t7_way2] at e2
  rw [t7_way1, t7_i1] at e1
  exact ⟨h.len.trans t7_len, e2, e1⟩
end Go.Proofs.Ytaadamobapnfbaa
/- The law of flow: awake. -/
set_option linter.unusedVariables false
set_option linter.unusedSimpArgs false
set_option maxRecDepth 1000000
namespace Go.Proofs.Ytaadamobapnfbaa
open Go Go.Abs
set_option maxHeartbeats 1000000 in
theorem awake7_walk : ACalls Try.prog 14 [] [] (RV (.v (.bool true)) []) := by
  obtain ⟨R, hT⟩ := rightT s7_right
  have hof := hT.of
  have hrw := right_walk s7
  rw [s7_right] at hrw
  change ACalls Try.prog 16 [.agg t7.cells] [] (RG t7) at hof
  change ACalls Try.prog 15 [vs s7] [] (RV (.tup [.agg t7.cells, .v (.bool true)]) []) at hrw
  refine ACalls.of_code (c := _) Try.func14 rfl Try.ntmps14 (Nat.le_of_ble_eq_true rfl) ?_
  repeat (first | (refine ACode.seq ?_) | (refine ACode.region ?_) | (refine ACode.ret ?_) | (refine ACode.skip ?_) | (refine ACode.exit ?_) | (refine ACode.block ?_) | (refine AExit.then_normal ?_) | (refine AExit.then_ret ?_) | (refine AExit.then_exit ?_) | (refine AExit.in_normal ?_) | (refine AExit.in_ret ?_) | (refine AExit.in_same ?_) | (refine AExit.in_other rfl ?_) | (refine ASeq.nil ?_))
  refine ASeq.q rfl rfl (QOp.assign rfl rfl) ?_
  refine ASeq.nil ?_
  repeat (first | (refine ACode.seq ?_) | (refine ACode.region ?_) | (refine ACode.ret ?_) | (refine ACode.skip ?_) | (refine ACode.exit ?_) | (refine ACode.block ?_) | (refine AExit.then_normal ?_) | (refine AExit.then_ret ?_) | (refine AExit.then_exit ?_) | (refine AExit.in_normal ?_) | (refine AExit.in_ret ?_) | (refine AExit.in_same ?_) | (refine AExit.in_other rfl ?_) | (refine ASeq.nil ?_))
  refine ASeq.op rfl rfl (AOp.callP 0 rfl (by kernel_rfl) rfl rfl rfl (hrw) ?_ (by rintro _ _ ⟨⟩))
  rintro _ _ ⟨⟩
  refine ASeq.q rfl rfl (QOp.move rfl rfl) ?_
  refine ASeq.q rfl rfl (QOp.extract rfl rfl rfl) ?_
  refine ASeq.q rfl rfl (QOp.extract rfl rfl rfl) ?_
  refine ASeq.op rfl rfl (AOp.allocP rfl (tok _ rfl) rfl rfl (fun _ => rfl) (fun _ => ?_))
  first | (refine ASeq.op0 rfl rfl (AOp.storeP 0 rfl rfl rfl rfl (tok _ rfl) rfl rfl rfl rfl ?_)) | (refine ASeq.op0 rfl rfl (AOp.storeP 1 rfl rfl rfl rfl (tok _ rfl) rfl rfl rfl rfl ?_)) | (refine ASeq.op0 rfl rfl (AOp.storeP 2 rfl rfl rfl rfl (tok _ rfl) rfl rfl rfl rfl ?_)) | (refine ASeq.op0 rfl rfl (AOp.storeP 3 rfl rfl rfl rfl (tok _ rfl) rfl rfl rfl rfl ?_)) | (refine ASeq.op0 rfl rfl (AOp.storeP 4 rfl rfl rfl rfl (tok _ rfl) rfl rfl rfl rfl ?_)) | (refine ASeq.op0 rfl rfl (AOp.storeP 5 rfl rfl rfl rfl (tok _ rfl) rfl rfl rfl rfl ?_)) | (refine ASeq.op0 rfl rfl (AOp.storeP 6 rfl rfl rfl rfl (tok _ rfl) rfl rfl rfl rfl ?_)) | (refine ASeq.op0 rfl rfl (AOp.storeP 7 rfl rfl rfl rfl (tok _ rfl) rfl rfl rfl rfl ?_)) | (refine ASeq.op0 rfl rfl (AOp.storeP 8 rfl rfl rfl rfl (tok _ rfl) rfl rfl rfl rfl ?_)) | (refine ASeq.op0 rfl rfl (AOp.storeP 9 rfl rfl rfl rfl (tok _ rfl) rfl rfl rfl rfl ?_)) | (refine ASeq.op0 rfl rfl (AOp.storeP 10 rfl rfl rfl rfl (tok _ rfl) rfl rfl rfl rfl ?_)) | (refine ASeq.op0 rfl rfl (AOp.storeP 11 rfl rfl rfl rfl (tok _ rfl) rfl rfl rfl rfl ?_)) | (refine ASeq.op0 rfl rfl (AOp.storeP 12 rfl rfl rfl rfl (tok _ rfl) rfl rfl rfl rfl ?_)) | (refine ASeq.op0 rfl rfl (AOp.storeP 13 rfl rfl rfl rfl (tok _ rfl) rfl rfl rfl rfl ?_)) | (refine ASeq.op0 rfl rfl (AOp.storeP 14 rfl rfl rfl rfl (tok _ rfl) rfl rfl rfl rfl ?_)) | (refine ASeq.op0 rfl rfl (AOp.storeP 15 rfl rfl rfl rfl (tok _ rfl) rfl rfl rfl rfl ?_))
  refine ASeq.q rfl rfl (QOp.assign rfl rfl) ?_
  refine ASeq.nil ?_
  repeat (first | (refine ACode.seq ?_) | (refine ACode.region ?_) | (refine ACode.ret ?_) | (refine ACode.skip ?_) | (refine ACode.exit ?_) | (refine ACode.block ?_) | (refine AExit.then_normal ?_) | (refine AExit.then_ret ?_) | (refine AExit.then_exit ?_) | (refine AExit.in_normal ?_) | (refine AExit.in_ret ?_) | (refine AExit.in_same ?_) | (refine AExit.in_other rfl ?_) | (refine ASeq.nil ?_))
  first | (refine ASeq.q rfl rfl (QOp.loadI rfl rfl (tok _ rfl) rfl) ?_) | (refine ASeq.q rfl rfl (QOp.loadM 0 rfl rfl rfl (tok _ rfl) rfl) ?_) | (refine ASeq.q rfl rfl (QOp.loadM 1 rfl rfl rfl (tok _ rfl) rfl) ?_) | (refine ASeq.q rfl rfl (QOp.loadM 2 rfl rfl rfl (tok _ rfl) rfl) ?_) | (refine ASeq.q rfl rfl (QOp.loadM 3 rfl rfl rfl (tok _ rfl) rfl) ?_) | (refine ASeq.q rfl rfl (QOp.loadM 4 rfl rfl rfl (tok _ rfl) rfl) ?_) | (refine ASeq.q rfl rfl (QOp.loadM 5 rfl rfl rfl (tok _ rfl) rfl) ?_) | (refine ASeq.q rfl rfl (QOp.loadM 6 rfl rfl rfl (tok _ rfl) rfl) ?_) | (refine ASeq.q rfl rfl (QOp.loadM 7 rfl rfl rfl (tok _ rfl) rfl) ?_) | (refine ASeq.q rfl rfl (QOp.loadM 8 rfl rfl rfl (tok _ rfl) rfl) ?_) | (refine ASeq.q rfl rfl (QOp.loadM 9 rfl rfl rfl (tok _ rfl) rfl) ?_) | (refine ASeq.q rfl rfl (QOp.loadM 10 rfl rfl rfl (tok _ rfl) rfl) ?_) | (refine ASeq.q rfl rfl (QOp.loadM 11 rfl rfl rfl (tok _ rfl) rfl) ?_) | (refine ASeq.q rfl rfl (QOp.loadM 12 rfl rfl rfl (tok _ rfl) rfl) ?_) | (refine ASeq.q rfl rfl (QOp.loadM 13 rfl rfl rfl (tok _ rfl) rfl) ?_) | (refine ASeq.q rfl rfl (QOp.loadM 14 rfl rfl rfl (tok _ rfl) rfl) ?_) | (refine ASeq.q rfl rfl (QOp.loadM 15 rfl rfl rfl (tok _ rfl) rfl) ?_) | (refine ASeq.q rfl rfl (QOp.loadAt 0 rfl rfl rfl (tok _ rfl) rfl (by assumption)) ?_) | (refine ASeq.q rfl rfl (QOp.loadAt 1 rfl rfl rfl (tok _ rfl) rfl (by assumption)) ?_) | (refine ASeq.q rfl rfl (QOp.loadAt 2 rfl rfl rfl (tok _ rfl) rfl (by assumption)) ?_) | (refine ASeq.q rfl rfl (QOp.loadAt 3 rfl rfl rfl (tok _ rfl) rfl (by assumption)) ?_) | (refine ASeq.q rfl rfl (QOp.loadAt 4 rfl rfl rfl (tok _ rfl) rfl (by assumption)) ?_) | (refine ASeq.q rfl rfl (QOp.loadAt 5 rfl rfl rfl (tok _ rfl) rfl (by assumption)) ?_)
  refine ASeq.op rfl rfl (AOp.callP 0 rfl (by kernel_rfl) rfl rfl rfl hof ?_ (by rintro _ _ ⟨⟩))
  rintro _ _ ⟨mN, nx, hnx⟩
  obtain ⟨h1, h2, h3⟩ := t7_flow hnx
  obtain ⟨n0, n3, rfl⟩ : ∃ n0 n3, nx = [n0, [2], [1, 3], n3] := by
    match nx, h1 with
    | [a, b, c, d], _ =>
      simp only [List.getElem?_cons_succ, List.getElem?_cons_zero, Option.some.injEq] at h2 h3
      subst h2; subst h3; exact ⟨a, d, rfl⟩
  rw [t7_len]
  refine ASeq.op rfl rfl (AOp.allocP rfl (tok _ rfl) rfl rfl (fun _ => rfl) (fun _ => ?_))
  first | (refine ASeq.op0 rfl rfl (AOp.storeP 0 rfl rfl rfl rfl (tok _ rfl) rfl rfl rfl rfl ?_)) | (refine ASeq.op0 rfl rfl (AOp.storeP 1 rfl rfl rfl rfl (tok _ rfl) rfl rfl rfl rfl ?_)) | (refine ASeq.op0 rfl rfl (AOp.storeP 2 rfl rfl rfl rfl (tok _ rfl) rfl rfl rfl rfl ?_)) | (refine ASeq.op0 rfl rfl (AOp.storeP 3 rfl rfl rfl rfl (tok _ rfl) rfl rfl rfl rfl ?_)) | (refine ASeq.op0 rfl rfl (AOp.storeP 4 rfl rfl rfl rfl (tok _ rfl) rfl rfl rfl rfl ?_)) | (refine ASeq.op0 rfl rfl (AOp.storeP 5 rfl rfl rfl rfl (tok _ rfl) rfl rfl rfl rfl ?_)) | (refine ASeq.op0 rfl rfl (AOp.storeP 6 rfl rfl rfl rfl (tok _ rfl) rfl rfl rfl rfl ?_)) | (refine ASeq.op0 rfl rfl (AOp.storeP 7 rfl rfl rfl rfl (tok _ rfl) rfl rfl rfl rfl ?_)) | (refine ASeq.op0 rfl rfl (AOp.storeP 8 rfl rfl rfl rfl (tok _ rfl) rfl rfl rfl rfl ?_)) | (refine ASeq.op0 rfl rfl (AOp.storeP 9 rfl rfl rfl rfl (tok _ rfl) rfl rfl rfl rfl ?_)) | (refine ASeq.op0 rfl rfl (AOp.storeP 10 rfl rfl rfl rfl (tok _ rfl) rfl rfl rfl rfl ?_)) | (refine ASeq.op0 rfl rfl (AOp.storeP 11 rfl rfl rfl rfl (tok _ rfl) rfl rfl rfl rfl ?_)) | (refine ASeq.op0 rfl rfl (AOp.storeP 12 rfl rfl rfl rfl (tok _ rfl) rfl rfl rfl rfl ?_)) | (refine ASeq.op0 rfl rfl (AOp.storeP 13 rfl rfl rfl rfl (tok _ rfl) rfl rfl rfl rfl ?_)) | (refine ASeq.op0 rfl rfl (AOp.storeP 14 rfl rfl rfl rfl (tok _ rfl) rfl rfl rfl rfl ?_)) | (refine ASeq.op0 rfl rfl (AOp.storeP 15 rfl rfl rfl rfl (tok _ rfl) rfl rfl rfl rfl ?_))
  refine ASeq.nil ?_
  repeat (first | (refine ACode.seq ?_) | (refine ACode.region ?_) | (refine ACode.ret ?_) | (refine ACode.skip ?_) | (refine ACode.exit ?_) | (refine ACode.block ?_) | (refine AExit.then_normal ?_) | (refine AExit.then_ret ?_) | (refine AExit.then_exit ?_) | (refine AExit.in_normal ?_) | (refine AExit.in_ret ?_) | (refine AExit.in_same ?_) | (refine AExit.in_other rfl ?_) | (refine ASeq.nil ?_))
  refine ASeq.q rfl rfl (QOp.move rfl rfl) ?_
  refine ASeq.q rfl rfl (QOp.move rfl rfl) ?_
  first | (refine ASeq.gq _ _ rfl rfl rfl rfl (QOp.fieldM rfl rfl (tok _ rfl) rfl rfl (by decide) rfl) ?_) | (refine ASeq.gq _ _ rfl rfl rfl rfl (QOp.fieldI rfl rfl (tok _ rfl) rfl rfl (by decide) rfl) ?_) | (refine ASeq.gno _ _ rfl rfl rfl rfl rfl ?_)
  first | (refine ASeq.gq _ _ rfl rfl rfl rfl (QOp.loadI rfl rfl (tok _ rfl) rfl) ?_) | (refine ASeq.gq _ _ rfl rfl rfl rfl (QOp.loadM 0 rfl rfl rfl (tok _ rfl) rfl) ?_) | (refine ASeq.gq _ _ rfl rfl rfl rfl (QOp.loadM 1 rfl rfl rfl (tok _ rfl) rfl) ?_) | (refine ASeq.gq _ _ rfl rfl rfl rfl (QOp.loadM 2 rfl rfl rfl (tok _ rfl) rfl) ?_) | (refine ASeq.gq _ _ rfl rfl rfl rfl (QOp.loadM 3 rfl rfl rfl (tok _ rfl) rfl) ?_) | (refine ASeq.gq _ _ rfl rfl rfl rfl (QOp.loadM 4 rfl rfl rfl (tok _ rfl) rfl) ?_) | (refine ASeq.gq _ _ rfl rfl rfl rfl (QOp.loadM 5 rfl rfl rfl (tok _ rfl) rfl) ?_) | (refine ASeq.gq _ _ rfl rfl rfl rfl (QOp.loadM 6 rfl rfl rfl (tok _ rfl) rfl) ?_) | (refine ASeq.gq _ _ rfl rfl rfl rfl (QOp.loadM 7 rfl rfl rfl (tok _ rfl) rfl) ?_) | (refine ASeq.gq _ _ rfl rfl rfl rfl (QOp.loadM 8 rfl rfl rfl (tok _ rfl) rfl) ?_) | (refine ASeq.gq _ _ rfl rfl rfl rfl (QOp.loadM 9 rfl rfl rfl (tok _ rfl) rfl) ?_) | (refine ASeq.gq _ _ rfl rfl rfl rfl (QOp.loadM 10 rfl rfl rfl (tok _ rfl) rfl) ?_) | (refine ASeq.gq _ _ rfl rfl rfl rfl (QOp.loadM 11 rfl rfl rfl (tok _ rfl) rfl) ?_) | (refine ASeq.gq _ _ rfl rfl rfl rfl (QOp.loadM 12 rfl rfl rfl (tok _ rfl) rfl) ?_) | (refine ASeq.gq _ _ rfl rfl rfl rfl (QOp.loadM 13 rfl rfl rfl (tok _ rfl) rfl) ?_) | (refine ASeq.gq _ _ rfl rfl rfl rfl (QOp.loadM 14 rfl rfl rfl (tok _ rfl) rfl) ?_) | (refine ASeq.gq _ _ rfl rfl rfl rfl (QOp.loadM 15 rfl rfl rfl (tok _ rfl) rfl) ?_) | (refine ASeq.gq _ _ rfl rfl rfl rfl (QOp.loadAt 0 rfl rfl rfl (tok _ rfl) rfl (by assumption)) ?_) | (refine ASeq.gq _ _ rfl rfl rfl rfl (QOp.loadAt 1 rfl rfl rfl (tok _ rfl) rfl (by assumption)) ?_) | (refine ASeq.gq _ _ rfl rfl rfl rfl (QOp.loadAt 2 rfl rfl rfl (tok _ rfl) rfl (by assumption)) ?_) | (refine ASeq.gq _ _ rfl rfl rfl rfl (QOp.loadAt 3 rfl rfl rfl (tok _ rfl) rfl (by assumption)) ?_) | (refine ASeq.gq _ _ rfl rfl rfl rfl (QOp.loadAt 4 rfl rfl rfl (tok _ rfl) rfl (by assumption)) ?_) | (refine ASeq.gq _ _ rfl rfl rfl rfl (QOp.loadAt 5 rfl rfl rfl (tok _ rfl) rfl (by assumption)) ?_) | (refine ASeq.gno _ _ rfl rfl rfl rfl rfl ?_)
  first | (refine ASeq.gq _ _ rfl rfl rfl rfl (QOp.lenI rfl rfl (tok _ rfl) rfl) ?_) | (refine ASeq.gq _ _ rfl rfl rfl rfl (QOp.lenM rfl rfl (tok _ rfl) rfl) ?_) | (refine ASeq.gq _ _ rfl rfl rfl rfl (QOp.lenS rfl rfl (tok _ rfl) rfl) ?_) | (refine ASeq.gq _ _ rfl rfl rfl rfl (QOp.lenN rfl rfl (tok _ rfl) rfl) ?_) | (refine ASeq.gno _ _ rfl rfl rfl rfl rfl ?_)
  first | (refine ASeq.gq _ _ rfl rfl rfl rfl (QOp.cmp rfl rfl rfl rfl) ?_) | (refine ASeq.gno _ _ rfl rfl rfl rfl rfl ?_)
  first | (refine ASeq.q rfl rfl (QOp.pickT rfl rfl rfl) ?_) | (refine ASeq.q rfl rfl (QOp.pickF rfl rfl rfl) ?_)
  refine ASeq.q rfl rfl (QOp.move rfl rfl) ?_
  first | (refine ASeq.gq _ _ rfl rfl rfl rfl (QOp.fieldM rfl rfl (tok _ rfl) rfl rfl (by decide) rfl) ?_) | (refine ASeq.gq _ _ rfl rfl rfl rfl (QOp.fieldI rfl rfl (tok _ rfl) rfl rfl (by decide) rfl) ?_) | (refine ASeq.gno _ _ rfl rfl rfl rfl rfl ?_)
  first | (refine ASeq.gq _ _ rfl rfl rfl rfl (QOp.loadI rfl rfl (tok _ rfl) rfl) ?_) | (refine ASeq.gq _ _ rfl rfl rfl rfl (QOp.loadM 0 rfl rfl rfl (tok _ rfl) rfl) ?_) | (refine ASeq.gq _ _ rfl rfl rfl rfl (QOp.loadM 1 rfl rfl rfl (tok _ rfl) rfl) ?_) | (refine ASeq.gq _ _ rfl rfl rfl rfl (QOp.loadM 2 rfl rfl rfl (tok _ rfl) rfl) ?_) | (refine ASeq.gq _ _ rfl rfl rfl rfl (QOp.loadM 3 rfl rfl rfl (tok _ rfl) rfl) ?_) | (refine ASeq.gq _ _ rfl rfl rfl rfl (QOp.loadM 4 rfl rfl rfl (tok _ rfl) rfl) ?_) | (refine ASeq.gq _ _ rfl rfl rfl rfl (QOp.loadM 5 rfl rfl rfl (tok _ rfl) rfl) ?_) | (refine ASeq.gq _ _ rfl rfl rfl rfl (QOp.loadM 6 rfl rfl rfl (tok _ rfl) rfl) ?_) | (refine ASeq.gq _ _ rfl rfl rfl rfl (QOp.loadM 7 rfl rfl rfl (tok _ rfl) rfl) ?_) | (refine ASeq.gq _ _ rfl rfl rfl rfl (QOp.loadM 8 rfl rfl rfl (tok _ rfl) rfl) ?_) | (refine ASeq.gq _ _ rfl rfl rfl rfl (QOp.loadM 9 rfl rfl rfl (tok _ rfl) rfl) ?_) | (refine ASeq.gq _ _ rfl rfl rfl rfl (QOp.loadM 10 rfl rfl rfl (tok _ rfl) rfl) ?_) | (refine ASeq.gq _ _ rfl rfl rfl rfl (QOp.loadM 11 rfl rfl rfl (tok _ rfl) rfl) ?_) | (refine ASeq.gq _ _ rfl rfl rfl rfl (QOp.loadM 12 rfl rfl rfl (tok _ rfl) rfl) ?_) | (refine ASeq.gq _ _ rfl rfl rfl rfl (QOp.loadM 13 rfl rfl rfl (tok _ rfl) rfl) ?_) | (refine ASeq.gq _ _ rfl rfl rfl rfl (QOp.loadM 14 rfl rfl rfl (tok _ rfl) rfl) ?_) | (refine ASeq.gq _ _ rfl rfl rfl rfl (QOp.loadM 15 rfl rfl rfl (tok _ rfl) rfl) ?_) | (refine ASeq.gq _ _ rfl rfl rfl rfl (QOp.loadAt 0 rfl rfl rfl (tok _ rfl) rfl (by assumption)) ?_) | (refine ASeq.gq _ _ rfl rfl rfl rfl (QOp.loadAt 1 rfl rfl rfl (tok _ rfl) rfl (by assumption)) ?_) | (refine ASeq.gq _ _ rfl rfl rfl rfl (QOp.loadAt 2 rfl rfl rfl (tok _ rfl) rfl (by assumption)) ?_) | (refine ASeq.gq _ _ rfl rfl rfl rfl (QOp.loadAt 3 rfl rfl rfl (tok _ rfl) rfl (by assumption)) ?_) | (refine ASeq.gq _ _ rfl rfl rfl rfl (QOp.loadAt 4 rfl rfl rfl (tok _ rfl) rfl (by assumption)) ?_) | (refine ASeq.gq _ _ rfl rfl rfl rfl (QOp.loadAt 5 rfl rfl rfl (tok _ rfl) rfl (by assumption)) ?_) | (refine ASeq.gno _ _ rfl rfl rfl rfl rfl ?_)
  first | (refine ASeq.gq _ _ rfl rfl rfl rfl (QOp.indexI rfl rfl rfl (tok _ rfl) rfl (tok _ rfl) (by first | (decide) | (omega)) (by first | (rfl) | (assumption))) ?_) | (refine ASeq.gq _ _ rfl rfl rfl rfl (QOp.indexM rfl rfl rfl (tok _ rfl) rfl (tok _ rfl) (by first | (decide) | (omega)) (by first | (decide) | (omega)) rfl) ?_) | (refine ASeq.gno _ _ rfl rfl rfl rfl rfl ?_)
  first | (refine ASeq.gq _ _ rfl rfl rfl rfl (QOp.loadI rfl rfl (tok _ rfl) rfl) ?_) | (refine ASeq.gq _ _ rfl rfl rfl rfl (QOp.loadM 0 rfl rfl rfl (tok _ rfl) rfl) ?_) | (refine ASeq.gq _ _ rfl rfl rfl rfl (QOp.loadM 1 rfl rfl rfl (tok _ rfl) rfl) ?_) | (refine ASeq.gq _ _ rfl rfl rfl rfl (QOp.loadM 2 rfl rfl rfl (tok _ rfl) rfl) ?_) | (refine ASeq.gq _ _ rfl rfl rfl rfl (QOp.loadM 3 rfl rfl rfl (tok _ rfl) rfl) ?_) | (refine ASeq.gq _ _ rfl rfl rfl rfl (QOp.loadM 4 rfl rfl rfl (tok _ rfl) rfl) ?_) | (refine ASeq.gq _ _ rfl rfl rfl rfl (QOp.loadM 5 rfl rfl rfl (tok _ rfl) rfl) ?_) | (refine ASeq.gq _ _ rfl rfl rfl rfl (QOp.loadM 6 rfl rfl rfl (tok _ rfl) rfl) ?_) | (refine ASeq.gq _ _ rfl rfl rfl rfl (QOp.loadM 7 rfl rfl rfl (tok _ rfl) rfl) ?_) | (refine ASeq.gq _ _ rfl rfl rfl rfl (QOp.loadM 8 rfl rfl rfl (tok _ rfl) rfl) ?_) | (refine ASeq.gq _ _ rfl rfl rfl rfl (QOp.loadM 9 rfl rfl rfl (tok _ rfl) rfl) ?_) | (refine ASeq.gq _ _ rfl rfl rfl rfl (QOp.loadM 10 rfl rfl rfl (tok _ rfl) rfl) ?_) | (refine ASeq.gq _ _ rfl rfl rfl rfl (QOp.loadM 11 rfl rfl rfl (tok _ rfl) rfl) ?_) | (refine ASeq.gq _ _ rfl rfl rfl rfl (QOp.loadM 12 rfl rfl rfl (tok _ rfl) rfl) ?_) | (refine ASeq.gq _ _ rfl rfl rfl rfl (QOp.loadM 13 rfl rfl rfl (tok _ rfl) rfl) ?_) | (refine ASeq.gq _ _ rfl rfl rfl rfl (QOp.loadM 14 rfl rfl rfl (tok _ rfl) rfl) ?_) | (refine ASeq.gq _ _ rfl rfl rfl rfl (QOp.loadM 15 rfl rfl rfl (tok _ rfl) rfl) ?_) | (refine ASeq.gq _ _ rfl rfl rfl rfl (QOp.loadAt 0 rfl rfl rfl (tok _ rfl) rfl (by assumption)) ?_) | (refine ASeq.gq _ _ rfl rfl rfl rfl (QOp.loadAt 1 rfl rfl rfl (tok _ rfl) rfl (by assumption)) ?_) | (refine ASeq.gq _ _ rfl rfl rfl rfl (QOp.loadAt 2 rfl rfl rfl (tok _ rfl) rfl (by assumption)) ?_) | (refine ASeq.gq _ _ rfl rfl rfl rfl (QOp.loadAt 3 rfl rfl rfl (tok _ rfl) rfl (by assumption)) ?_) | (refine ASeq.gq _ _ rfl rfl rfl rfl (QOp.loadAt 4 rfl rfl rfl (tok _ rfl) rfl (by assumption)) ?_) | (refine ASeq.gq _ _ rfl rfl rfl rfl (QOp.loadAt 5 rfl rfl rfl (tok _ rfl) rfl (by assumption)) ?_) | (refine ASeq.gno _ _ rfl rfl rfl rfl rfl ?_)
  first | (refine ASeq.gq _ _ rfl rfl rfl rfl (QOp.lenI rfl rfl (tok _ rfl) rfl) ?_) | (refine ASeq.gq _ _ rfl rfl rfl rfl (QOp.lenM rfl rfl (tok _ rfl) rfl) ?_) | (refine ASeq.gq _ _ rfl rfl rfl rfl (QOp.lenS rfl rfl (tok _ rfl) rfl) ?_) | (refine ASeq.gq _ _ rfl rfl rfl rfl (QOp.lenN rfl rfl (tok _ rfl) rfl) ?_) | (refine ASeq.gno _ _ rfl rfl rfl rfl rfl ?_)
  first | (refine ASeq.gq _ _ rfl rfl rfl rfl (QOp.cmp rfl rfl rfl rfl) ?_) | (refine ASeq.gno _ _ rfl rfl rfl rfl rfl ?_)
  first | (refine ASeq.q rfl rfl (QOp.pickT rfl rfl rfl) ?_) | (refine ASeq.q rfl rfl (QOp.pickF rfl rfl rfl) ?_)
  refine ASeq.q rfl rfl (QOp.move rfl rfl) ?_
  first | (refine ASeq.gq _ _ rfl rfl rfl rfl (QOp.fieldM rfl rfl (tok _ rfl) rfl rfl (by decide) rfl) ?_) | (refine ASeq.gq _ _ rfl rfl rfl rfl (QOp.fieldI rfl rfl (tok _ rfl) rfl rfl (by decide) rfl) ?_) | (refine ASeq.gno _ _ rfl rfl rfl rfl rfl ?_)
  first | (refine ASeq.gq _ _ rfl rfl rfl rfl (QOp.loadI rfl rfl (tok _ rfl) rfl) ?_) | (refine ASeq.gq _ _ rfl rfl rfl rfl (QOp.loadM 0 rfl rfl rfl (tok _ rfl) rfl) ?_) | (refine ASeq.gq _ _ rfl rfl rfl rfl (QOp.loadM 1 rfl rfl rfl (tok _ rfl) rfl) ?_) | (refine ASeq.gq _ _ rfl rfl rfl rfl (QOp.loadM 2 rfl rfl rfl (tok _ rfl) rfl) ?_) | (refine ASeq.gq _ _ rfl rfl rfl rfl (QOp.loadM 3 rfl rfl rfl (tok _ rfl) rfl) ?_) | (refine ASeq.gq _ _ rfl rfl rfl rfl (QOp.loadM 4 rfl rfl rfl (tok _ rfl) rfl) ?_) | (refine ASeq.gq _ _ rfl rfl rfl rfl (QOp.loadM 5 rfl rfl rfl (tok _ rfl) rfl) ?_) | (refine ASeq.gq _ _ rfl rfl rfl rfl (QOp.loadM 6 rfl rfl rfl (tok _ rfl) rfl) ?_) | (refine ASeq.gq _ _ rfl rfl rfl rfl (QOp.loadM 7 rfl rfl rfl (tok _ rfl) rfl) ?_) | (refine ASeq.gq _ _ rfl rfl rfl rfl (QOp.loadM 8 rfl rfl rfl (tok _ rfl) rfl) ?_) | (refine ASeq.gq _ _ rfl rfl rfl rfl (QOp.loadM 9 rfl rfl rfl (tok _ rfl) rfl) ?_) | (refine ASeq.gq _ _ rfl rfl rfl rfl (QOp.loadM 10 rfl rfl rfl (tok _ rfl) rfl) ?_) | (refine ASeq.gq _ _ rfl rfl rfl rfl (QOp.loadM 11 rfl rfl rfl (tok _ rfl) rfl) ?_) | (refine ASeq.gq _ _ rfl rfl rfl rfl (QOp.loadM 12 rfl rfl rfl (tok _ rfl) rfl) ?_) | (refine ASeq.gq _ _ rfl rfl rfl rfl (QOp.loadM 13 rfl rfl rfl (tok _ rfl) rfl) ?_) | (refine ASeq.gq _ _ rfl rfl rfl rfl (QOp.loadM 14 rfl rfl rfl (tok _ rfl) rfl) ?_) | (refine ASeq.gq _ _ rfl rfl rfl rfl (QOp.loadM 15 rfl rfl rfl (tok _ rfl) rfl) ?_) | (refine ASeq.gq _ _ rfl rfl rfl rfl (QOp.loadAt 0 rfl rfl rfl (tok _ rfl) rfl (by assumption)) ?_) | (refine ASeq.gq _ _ rfl rfl rfl rfl (QOp.loadAt 1 rfl rfl rfl (tok _ rfl) rfl (by assumption)) ?_) | (refine ASeq.gq _ _ rfl rfl rfl rfl (QOp.loadAt 2 rfl rfl rfl (tok _ rfl) rfl (by assumption)) ?_) | (refine ASeq.gq _ _ rfl rfl rfl rfl (QOp.loadAt 3 rfl rfl rfl (tok _ rfl) rfl (by assumption)) ?_) | (refine ASeq.gq _ _ rfl rfl rfl rfl (QOp.loadAt 4 rfl rfl rfl (tok _ rfl) rfl (by assumption)) ?_) | (refine ASeq.gq _ _ rfl rfl rfl rfl (QOp.loadAt 5 rfl rfl rfl (tok _ rfl) rfl (by assumption)) ?_) | (refine ASeq.gno _ _ rfl rfl rfl rfl rfl ?_)
  first | (refine ASeq.gq _ _ rfl rfl rfl rfl (QOp.indexI rfl rfl rfl (tok _ rfl) rfl (tok _ rfl) (by first | (decide) | (omega)) (by first | (rfl) | (assumption))) ?_) | (refine ASeq.gq _ _ rfl rfl rfl rfl (QOp.indexM rfl rfl rfl (tok _ rfl) rfl (tok _ rfl) (by first | (decide) | (omega)) (by first | (decide) | (omega)) rfl) ?_) | (refine ASeq.gno _ _ rfl rfl rfl rfl rfl ?_)
  first | (refine ASeq.gq _ _ rfl rfl rfl rfl (QOp.loadI rfl rfl (tok _ rfl) rfl) ?_) | (refine ASeq.gq _ _ rfl rfl rfl rfl (QOp.loadM 0 rfl rfl rfl (tok _ rfl) rfl) ?_) | (refine ASeq.gq _ _ rfl rfl rfl rfl (QOp.loadM 1 rfl rfl rfl (tok _ rfl) rfl) ?_) | (refine ASeq.gq _ _ rfl rfl rfl rfl (QOp.loadM 2 rfl rfl rfl (tok _ rfl) rfl) ?_) | (refine ASeq.gq _ _ rfl rfl rfl rfl (QOp.loadM 3 rfl rfl rfl (tok _ rfl) rfl) ?_) | (refine ASeq.gq _ _ rfl rfl rfl rfl (QOp.loadM 4 rfl rfl rfl (tok _ rfl) rfl) ?_) | (refine ASeq.gq _ _ rfl rfl rfl rfl (QOp.loadM 5 rfl rfl rfl (tok _ rfl) rfl) ?_) | (refine ASeq.gq _ _ rfl rfl rfl rfl (QOp.loadM 6 rfl rfl rfl (tok _ rfl) rfl) ?_) | (refine ASeq.gq _ _ rfl rfl rfl rfl (QOp.loadM 7 rfl rfl rfl (tok _ rfl) rfl) ?_) | (refine ASeq.gq _ _ rfl rfl rfl rfl (QOp.loadM 8 rfl rfl rfl (tok _ rfl) rfl) ?_) | (refine ASeq.gq _ _ rfl rfl rfl rfl (QOp.loadM 9 rfl rfl rfl (tok _ rfl) rfl) ?_) | (refine ASeq.gq _ _ rfl rfl rfl rfl (QOp.loadM 10 rfl rfl rfl (tok _ rfl) rfl) ?_) | (refine ASeq.gq _ _ rfl rfl rfl rfl (QOp.loadM 11 rfl rfl rfl (tok _ rfl) rfl) ?_) | (refine ASeq.gq _ _ rfl rfl rfl rfl (QOp.loadM 12 rfl rfl rfl (tok _ rfl) rfl) ?_) | (refine ASeq.gq _ _ rfl rfl rfl rfl (QOp.loadM 13 rfl rfl rfl (tok _ rfl) rfl) ?_) | (refine ASeq.gq _ _ rfl rfl rfl rfl (QOp.loadM 14 rfl rfl rfl (tok _ rfl) rfl) ?_) | (refine ASeq.gq _ _ rfl rfl rfl rfl (QOp.loadM 15 rfl rfl rfl (tok _ rfl) rfl) ?_) | (refine ASeq.gq _ _ rfl rfl rfl rfl (QOp.loadAt 0 rfl rfl rfl (tok _ rfl) rfl (by assumption)) ?_) | (refine ASeq.gq _ _ rfl rfl rfl rfl (QOp.loadAt 1 rfl rfl rfl (tok _ rfl) rfl (by assumption)) ?_) | (refine ASeq.gq _ _ rfl rfl rfl rfl (QOp.loadAt 2 rfl rfl rfl (tok _ rfl) rfl (by assumption)) ?_) | (refine ASeq.gq _ _ rfl rfl rfl rfl (QOp.loadAt 3 rfl rfl rfl (tok _ rfl) rfl (by assumption)) ?_) | (refine ASeq.gq _ _ rfl rfl rfl rfl (QOp.loadAt 4 rfl rfl rfl (tok _ rfl) rfl (by assumption)) ?_) | (refine ASeq.gq _ _ rfl rfl rfl rfl (QOp.loadAt 5 rfl rfl rfl (tok _ rfl) rfl (by assumption)) ?_) | (refine ASeq.gno _ _ rfl rfl rfl rfl rfl ?_)
  first | (refine ASeq.gq _ _ rfl rfl rfl rfl (QOp.indexI rfl rfl rfl (tok _ rfl) rfl (tok _ rfl) (by first | (decide) | (omega)) (by first | (rfl) | (assumption))) ?_) | (refine ASeq.gq _ _ rfl rfl rfl rfl (QOp.indexM rfl rfl rfl (tok _ rfl) rfl (tok _ rfl) (by first | (decide) | (omega)) (by first | (decide) | (omega)) rfl) ?_) | (refine ASeq.gno _ _ rfl rfl rfl rfl rfl ?_)
  first | (refine ASeq.gq _ _ rfl rfl rfl rfl (QOp.loadI rfl rfl (tok _ rfl) rfl) ?_) | (refine ASeq.gq _ _ rfl rfl rfl rfl (QOp.loadM 0 rfl rfl rfl (tok _ rfl) rfl) ?_) | (refine ASeq.gq _ _ rfl rfl rfl rfl (QOp.loadM 1 rfl rfl rfl (tok _ rfl) rfl) ?_) | (refine ASeq.gq _ _ rfl rfl rfl rfl (QOp.loadM 2 rfl rfl rfl (tok _ rfl) rfl) ?_) | (refine ASeq.gq _ _ rfl rfl rfl rfl (QOp.loadM 3 rfl rfl rfl (tok _ rfl) rfl) ?_) | (refine ASeq.gq _ _ rfl rfl rfl rfl (QOp.loadM 4 rfl rfl rfl (tok _ rfl) rfl) ?_) | (refine ASeq.gq _ _ rfl rfl rfl rfl (QOp.loadM 5 rfl rfl rfl (tok _ rfl) rfl) ?_) | (refine ASeq.gq _ _ rfl rfl rfl rfl (QOp.loadM 6 rfl rfl rfl (tok _ rfl) rfl) ?_) | (refine ASeq.gq _ _ rfl rfl rfl rfl (QOp.loadM 7 rfl rfl rfl (tok _ rfl) rfl) ?_) | (refine ASeq.gq _ _ rfl rfl rfl rfl (QOp.loadM 8 rfl rfl rfl (tok _ rfl) rfl) ?_) | (refine ASeq.gq _ _ rfl rfl rfl rfl (QOp.loadM 9 rfl rfl rfl (tok _ rfl) rfl) ?_) | (refine ASeq.gq _ _ rfl rfl rfl rfl (QOp.loadM 10 rfl rfl rfl (tok _ rfl) rfl) ?_) | (refine ASeq.gq _ _ rfl rfl rfl rfl (QOp.loadM 11 rfl rfl rfl (tok _ rfl) rfl) ?_) | (refine ASeq.gq _ _ rfl rfl rfl rfl (QOp.loadM 12 rfl rfl rfl (tok _ rfl) rfl) ?_) | (refine ASeq.gq _ _ rfl rfl rfl rfl (QOp.loadM 13 rfl rfl rfl (tok _ rfl) rfl) ?_) | (refine ASeq.gq _ _ rfl rfl rfl rfl (QOp.loadM 14 rfl rfl rfl (tok _ rfl) rfl) ?_) | (refine ASeq.gq _ _ rfl rfl rfl rfl (QOp.loadM 15 rfl rfl rfl (tok _ rfl) rfl) ?_) | (refine ASeq.gq _ _ rfl rfl rfl rfl (QOp.loadAt 0 rfl rfl rfl (tok _ rfl) rfl (by assumption)) ?_) | (refine ASeq.gq _ _ rfl rfl rfl rfl (QOp.loadAt 1 rfl rfl rfl (tok _ rfl) rfl (by assumption)) ?_) | (refine ASeq.gq _ _ rfl rfl rfl rfl (QOp.loadAt 2 rfl rfl rfl (tok _ rfl) rfl (by assumption)) ?_) | (refine ASeq.gq _ _ rfl rfl rfl rfl (QOp.loadAt 3 rfl rfl rfl (tok _ rfl) rfl (by assumption)) ?_) | (refine ASeq.gq _ _ rfl rfl rfl rfl (QOp.loadAt 4 rfl rfl rfl (tok _ rfl) rfl (by assumption)) ?_) | (refine ASeq.gq _ _ rfl rfl rfl rfl (QOp.loadAt 5 rfl rfl rfl (tok _ rfl) rfl (by assumption)) ?_) | (refine ASeq.gno _ _ rfl rfl rfl rfl rfl ?_)
  first | (refine ASeq.gq _ _ rfl rfl rfl rfl (QOp.cmp rfl rfl rfl rfl) ?_) | (refine ASeq.gno _ _ rfl rfl rfl rfl rfl ?_)
  first | (refine ASeq.q rfl rfl (QOp.pickT rfl rfl rfl) ?_) | (refine ASeq.q rfl rfl (QOp.pickF rfl rfl rfl) ?_)
  refine ASeq.q rfl rfl (QOp.move rfl rfl) ?_
  first | (refine ASeq.gq _ _ rfl rfl rfl rfl (QOp.fieldM rfl rfl (tok _ rfl) rfl rfl (by decide) rfl) ?_) | (refine ASeq.gq _ _ rfl rfl rfl rfl (QOp.fieldI rfl rfl (tok _ rfl) rfl rfl (by decide) rfl) ?_) | (refine ASeq.gno _ _ rfl rfl rfl rfl rfl ?_)
  first | (refine ASeq.gq _ _ rfl rfl rfl rfl (QOp.loadI rfl rfl (tok _ rfl) rfl) ?_) | (refine ASeq.gq _ _ rfl rfl rfl rfl (QOp.loadM 0 rfl rfl rfl (tok _ rfl) rfl) ?_) | (refine ASeq.gq _ _ rfl rfl rfl rfl (QOp.loadM 1 rfl rfl rfl (tok _ rfl) rfl) ?_) | (refine ASeq.gq _ _ rfl rfl rfl rfl (QOp.loadM 2 rfl rfl rfl (tok _ rfl) rfl) ?_) | (refine ASeq.gq _ _ rfl rfl rfl rfl (QOp.loadM 3 rfl rfl rfl (tok _ rfl) rfl) ?_) | (refine ASeq.gq _ _ rfl rfl rfl rfl (QOp.loadM 4 rfl rfl rfl (tok _ rfl) rfl) ?_) | (refine ASeq.gq _ _ rfl rfl rfl rfl (QOp.loadM 5 rfl rfl rfl (tok _ rfl) rfl) ?_) | (refine ASeq.gq _ _ rfl rfl rfl rfl (QOp.loadM 6 rfl rfl rfl (tok _ rfl) rfl) ?_) | (refine ASeq.gq _ _ rfl rfl rfl rfl (QOp.loadM 7 rfl rfl rfl (tok _ rfl) rfl) ?_) | (refine ASeq.gq _ _ rfl rfl rfl rfl (QOp.loadM 8 rfl rfl rfl (tok _ rfl) rfl) ?_) | (refine ASeq.gq _ _ rfl rfl rfl rfl (QOp.loadM 9 rfl rfl rfl (tok _ rfl) rfl) ?_) | (refine ASeq.gq _ _ rfl rfl rfl rfl (QOp.loadM 10 rfl rfl rfl (tok _ rfl) rfl) ?_) | (refine ASeq.gq _ _ rfl rfl rfl rfl (QOp.loadM 11 rfl rfl rfl (tok _ rfl) rfl) ?_) | (refine ASeq.gq _ _ rfl rfl rfl rfl (QOp.loadM 12 rfl rfl rfl (tok _ rfl) rfl) ?_) | (refine ASeq.gq _ _ rfl rfl rfl rfl (QOp.loadM 13 rfl rfl rfl (tok _ rfl) rfl) ?_) | (refine ASeq.gq _ _ rfl rfl rfl rfl (QOp.loadM 14 rfl rfl rfl (tok _ rfl) rfl) ?_) | (refine ASeq.gq _ _ rfl rfl rfl rfl (QOp.loadM 15 rfl rfl rfl (tok _ rfl) rfl) ?_) | (refine ASeq.gq _ _ rfl rfl rfl rfl (QOp.loadAt 0 rfl rfl rfl (tok _ rfl) rfl (by assumption)) ?_) | (refine ASeq.gq _ _ rfl rfl rfl rfl (QOp.loadAt 1 rfl rfl rfl (tok _ rfl) rfl (by assumption)) ?_) | (refine ASeq.gq _ _ rfl rfl rfl rfl (QOp.loadAt 2 rfl rfl rfl (tok _ rfl) rfl (by assumption)) ?_) | (refine ASeq.gq _ _ rfl rfl rfl rfl (QOp.loadAt 3 rfl rfl rfl (tok _ rfl) rfl (by assumption)) ?_) | (refine ASeq.gq _ _ rfl rfl rfl rfl (QOp.loadAt 4 rfl rfl rfl (tok _ rfl) rfl (by assumption)) ?_) | (refine ASeq.gq _ _ rfl rfl rfl rfl (QOp.loadAt 5 rfl rfl rfl (tok _ rfl) rfl (by assumption)) ?_) | (refine ASeq.gno _ _ rfl rfl rfl rfl rfl ?_)
  first | (refine ASeq.gq _ _ rfl rfl rfl rfl (QOp.indexI rfl rfl rfl (tok _ rfl) rfl (tok _ rfl) (by first | (decide) | (omega)) (by first | (rfl) | (assumption))) ?_) | (refine ASeq.gq _ _ rfl rfl rfl rfl (QOp.indexM rfl rfl rfl (tok _ rfl) rfl (tok _ rfl) (by first | (decide) | (omega)) (by first | (decide) | (omega)) rfl) ?_) | (refine ASeq.gno _ _ rfl rfl rfl rfl rfl ?_)
  first | (refine ASeq.gq _ _ rfl rfl rfl rfl (QOp.loadI rfl rfl (tok _ rfl) rfl) ?_) | (refine ASeq.gq _ _ rfl rfl rfl rfl (QOp.loadM 0 rfl rfl rfl (tok _ rfl) rfl) ?_) | (refine ASeq.gq _ _ rfl rfl rfl rfl (QOp.loadM 1 rfl rfl rfl (tok _ rfl) rfl) ?_) | (refine ASeq.gq _ _ rfl rfl rfl rfl (QOp.loadM 2 rfl rfl rfl (tok _ rfl) rfl) ?_) | (refine ASeq.gq _ _ rfl rfl rfl rfl (QOp.loadM 3 rfl rfl rfl (tok _ rfl) rfl) ?_) | (refine ASeq.gq _ _ rfl rfl rfl rfl (QOp.loadM 4 rfl rfl rfl (tok _ rfl) rfl) ?_) | (refine ASeq.gq _ _ rfl rfl rfl rfl (QOp.loadM 5 rfl rfl rfl (tok _ rfl) rfl) ?_) | (refine ASeq.gq _ _ rfl rfl rfl rfl (QOp.loadM 6 rfl rfl rfl (tok _ rfl) rfl) ?_) | (refine ASeq.gq _ _ rfl rfl rfl rfl (QOp.loadM 7 rfl rfl rfl (tok _ rfl) rfl) ?_) | (refine ASeq.gq _ _ rfl rfl rfl rfl (QOp.loadM 8 rfl rfl rfl (tok _ rfl) rfl) ?_) | (refine ASeq.gq _ _ rfl rfl rfl rfl (QOp.loadM 9 rfl rfl rfl (tok _ rfl) rfl) ?_) | (refine ASeq.gq _ _ rfl rfl rfl rfl (QOp.loadM 10 rfl rfl rfl (tok _ rfl) rfl) ?_) | (refine ASeq.gq _ _ rfl rfl rfl rfl (QOp.loadM 11 rfl rfl rfl (tok _ rfl) rfl) ?_) | (refine ASeq.gq _ _ rfl rfl rfl rfl (QOp.loadM 12 rfl rfl rfl (tok _ rfl) rfl) ?_) | (refine ASeq.gq _ _ rfl rfl rfl rfl (QOp.loadM 13 rfl rfl rfl (tok _ rfl) rfl) ?_) | (refine ASeq.gq _ _ rfl rfl rfl rfl (QOp.loadM 14 rfl rfl rfl (tok _ rfl) rfl) ?_) | (refine ASeq.gq _ _ rfl rfl rfl rfl (QOp.loadM 15 rfl rfl rfl (tok _ rfl) rfl) ?_) | (refine ASeq.gq _ _ rfl rfl rfl rfl (QOp.loadAt 0 rfl rfl rfl (tok _ rfl) rfl (by assumption)) ?_) | (refine ASeq.gq _ _ rfl rfl rfl rfl (QOp.loadAt 1 rfl rfl rfl (tok _ rfl) rfl (by assumption)) ?_) | (refine ASeq.gq _ _ rfl rfl rfl rfl (QOp.loadAt 2 rfl rfl rfl (tok _ rfl) rfl (by assumption)) ?_) | (refine ASeq.gq _ _ rfl rfl rfl rfl (QOp.loadAt 3 rfl rfl rfl (tok _ rfl) rfl (by assumption)) ?_) | (refine ASeq.gq _ _ rfl rfl rfl rfl (QOp.loadAt 4 rfl rfl rfl (tok _ rfl) rfl (by assumption)) ?_) | (refine ASeq.gq _ _ rfl rfl rfl rfl (QOp.loadAt 5 rfl rfl rfl (tok _ rfl) rfl (by assumption)) ?_) | (refine ASeq.gno _ _ rfl rfl rfl rfl rfl ?_)
  first | (refine ASeq.gq _ _ rfl rfl rfl rfl (QOp.indexI rfl rfl rfl (tok _ rfl) rfl (tok _ rfl) (by first | (decide) | (omega)) (by first | (rfl) | (assumption))) ?_) | (refine ASeq.gq _ _ rfl rfl rfl rfl (QOp.indexM rfl rfl rfl (tok _ rfl) rfl (tok _ rfl) (by first | (decide) | (omega)) (by first | (decide) | (omega)) rfl) ?_) | (refine ASeq.gno _ _ rfl rfl rfl rfl rfl ?_)
  first | (refine ASeq.gq _ _ rfl rfl rfl rfl (QOp.loadI rfl rfl (tok _ rfl) rfl) ?_) | (refine ASeq.gq _ _ rfl rfl rfl rfl (QOp.loadM 0 rfl rfl rfl (tok _ rfl) rfl) ?_) | (refine ASeq.gq _ _ rfl rfl rfl rfl (QOp.loadM 1 rfl rfl rfl (tok _ rfl) rfl) ?_) | (refine ASeq.gq _ _ rfl rfl rfl rfl (QOp.loadM 2 rfl rfl rfl (tok _ rfl) rfl) ?_) | (refine ASeq.gq _ _ rfl rfl rfl rfl (QOp.loadM 3 rfl rfl rfl (tok _ rfl) rfl) ?_) | (refine ASeq.gq _ _ rfl rfl rfl rfl (QOp.loadM 4 rfl rfl rfl (tok _ rfl) rfl) ?_) | (refine ASeq.gq _ _ rfl rfl rfl rfl (QOp.loadM 5 rfl rfl rfl (tok _ rfl) rfl) ?_) | (refine ASeq.gq _ _ rfl rfl rfl rfl (QOp.loadM 6 rfl rfl rfl (tok _ rfl) rfl) ?_) | (refine ASeq.gq _ _ rfl rfl rfl rfl (QOp.loadM 7 rfl rfl rfl (tok _ rfl) rfl) ?_) | (refine ASeq.gq _ _ rfl rfl rfl rfl (QOp.loadM 8 rfl rfl rfl (tok _ rfl) rfl) ?_) | (refine ASeq.gq _ _ rfl rfl rfl rfl (QOp.loadM 9 rfl rfl rfl (tok _ rfl) rfl) ?_) | (refine ASeq.gq _ _ rfl rfl rfl rfl (QOp.loadM 10 rfl rfl rfl (tok _ rfl) rfl) ?_) | (refine ASeq.gq _ _ rfl rfl rfl rfl (QOp.loadM 11 rfl rfl rfl (tok _ rfl) rfl) ?_) | (refine ASeq.gq _ _ rfl rfl rfl rfl (QOp.loadM 12 rfl rfl rfl (tok _ rfl) rfl) ?_) | (refine ASeq.gq _ _ rfl rfl rfl rfl (QOp.loadM 13 rfl rfl rfl (tok _ rfl) rfl) ?_) | (refine ASeq.gq _ _ rfl rfl rfl rfl (QOp.loadM 14 rfl rfl rfl (tok _ rfl) rfl) ?_) | (refine ASeq.gq _ _ rfl rfl rfl rfl (QOp.loadM 15 rfl rfl rfl (tok _ rfl) rfl) ?_) | (refine ASeq.gq _ _ rfl rfl rfl rfl (QOp.loadAt 0 rfl rfl rfl (tok _ rfl) rfl (by assumption)) ?_) | (refine ASeq.gq _ _ rfl rfl rfl rfl (QOp.loadAt 1 rfl rfl rfl (tok _ rfl) rfl (by assumption)) ?_) | (refine ASeq.gq _ _ rfl rfl rfl rfl (QOp.loadAt 2 rfl rfl rfl (tok _ rfl) rfl (by assumption)) ?_) | (refine ASeq.gq _ _ rfl rfl rfl rfl (QOp.loadAt 3 rfl rfl rfl (tok _ rfl) rfl (by assumption)) ?_) | (refine ASeq.gq _ _ rfl rfl rfl rfl (QOp.loadAt 4 rfl rfl rfl (tok _ rfl) rfl (by assumption)) ?_) | (refine ASeq.gq _ _ rfl rfl rfl rfl (QOp.loadAt 5 rfl rfl rfl (tok _ rfl) rfl (by assumption)) ?_) | (refine ASeq.gno _ _ rfl rfl rfl rfl rfl ?_)
  first | (refine ASeq.gq _ _ rfl rfl rfl rfl (QOp.cmp rfl rfl rfl rfl) ?_) | (refine ASeq.gno _ _ rfl rfl rfl rfl rfl ?_)
  first | (refine ASeq.q rfl rfl (QOp.pickT rfl rfl rfl) ?_) | (refine ASeq.q rfl rfl (QOp.pickF rfl rfl rfl) ?_)
  refine ASeq.q rfl rfl (QOp.move rfl rfl) ?_
  first | (refine ASeq.gq _ _ rfl rfl rfl rfl (QOp.fieldM rfl rfl (tok _ rfl) rfl rfl (by decide) rfl) ?_) | (refine ASeq.gq _ _ rfl rfl rfl rfl (QOp.fieldI rfl rfl (tok _ rfl) rfl rfl (by decide) rfl) ?_) | (refine ASeq.gno _ _ rfl rfl rfl rfl rfl ?_)
  first | (refine ASeq.gq _ _ rfl rfl rfl rfl (QOp.loadI rfl rfl (tok _ rfl) rfl) ?_) | (refine ASeq.gq _ _ rfl rfl rfl rfl (QOp.loadM 0 rfl rfl rfl (tok _ rfl) rfl) ?_) | (refine ASeq.gq _ _ rfl rfl rfl rfl (QOp.loadM 1 rfl rfl rfl (tok _ rfl) rfl) ?_) | (refine ASeq.gq _ _ rfl rfl rfl rfl (QOp.loadM 2 rfl rfl rfl (tok _ rfl) rfl) ?_) | (refine ASeq.gq _ _ rfl rfl rfl rfl (QOp.loadM 3 rfl rfl rfl (tok _ rfl) rfl) ?_) | (refine ASeq.gq _ _ rfl rfl rfl rfl (QOp.loadM 4 rfl rfl rfl (tok _ rfl) rfl) ?_) | (refine ASeq.gq _ _ rfl rfl rfl rfl (QOp.loadM 5 rfl rfl rfl (tok _ rfl) rfl) ?_) | (refine ASeq.gq _ _ rfl rfl rfl rfl (QOp.loadM 6 rfl rfl rfl (tok _ rfl) rfl) ?_) | (refine ASeq.gq _ _ rfl rfl rfl rfl (QOp.loadM 7 rfl rfl rfl (tok _ rfl) rfl) ?_) | (refine ASeq.gq _ _ rfl rfl rfl rfl (QOp.loadM 8 rfl rfl rfl (tok _ rfl) rfl) ?_) | (refine ASeq.gq _ _ rfl rfl rfl rfl (QOp.loadM 9 rfl rfl rfl (tok _ rfl) rfl) ?_) | (refine ASeq.gq _ _ rfl rfl rfl rfl (QOp.loadM 10 rfl rfl rfl (tok _ rfl) rfl) ?_) | (refine ASeq.gq _ _ rfl rfl rfl rfl (QOp.loadM 11 rfl rfl rfl (tok _ rfl) rfl) ?_) | (refine ASeq.gq _ _ rfl rfl rfl rfl (QOp.loadM 12 rfl rfl rfl (tok _ rfl) rfl) ?_) | (refine ASeq.gq _ _ rfl rfl rfl rfl (QOp.loadM 13 rfl rfl rfl (tok _ rfl) rfl) ?_) | (refine ASeq.gq _ _ rfl rfl rfl rfl (QOp.loadM 14 rfl rfl rfl (tok _ rfl) rfl) ?_) | (refine ASeq.gq _ _ rfl rfl rfl rfl (QOp.loadM 15 rfl rfl rfl (tok _ rfl) rfl) ?_) | (refine ASeq.gq _ _ rfl rfl rfl rfl (QOp.loadAt 0 rfl rfl rfl (tok _ rfl) rfl (by assumption)) ?_) | (refine ASeq.gq _ _ rfl rfl rfl rfl (QOp.loadAt 1 rfl rfl rfl (tok _ rfl) rfl (by assumption)) ?_) | (refine ASeq.gq _ _ rfl rfl rfl rfl (QOp.loadAt 2 rfl rfl rfl (tok _ rfl) rfl (by assumption)) ?_) | (refine ASeq.gq _ _ rfl rfl rfl rfl (QOp.loadAt 3 rfl rfl rfl (tok _ rfl) rfl (by assumption)) ?_) | (refine ASeq.gq _ _ rfl rfl rfl rfl (QOp.loadAt 4 rfl rfl rfl (tok _ rfl) rfl (by assumption)) ?_) | (refine ASeq.gq _ _ rfl rfl rfl rfl (QOp.loadAt 5 rfl rfl rfl (tok _ rfl) rfl (by assumption)) ?_) | (refine ASeq.gno _ _ rfl rfl rfl rfl rfl ?_)
  first | (refine ASeq.gq _ _ rfl rfl rfl rfl (QOp.indexI rfl rfl rfl (tok _ rfl) rfl (tok _ rfl) (by first | (decide) | (omega)) (by first | (rfl) | (assumption))) ?_) | (refine ASeq.gq _ _ rfl rfl rfl rfl (QOp.indexM rfl rfl rfl (tok _ rfl) rfl (tok _ rfl) (by first | (decide) | (omega)) (by first | (decide) | (omega)) rfl) ?_) | (refine ASeq.gno _ _ rfl rfl rfl rfl rfl ?_)
  first | (refine ASeq.gq _ _ rfl rfl rfl rfl (QOp.loadI rfl rfl (tok _ rfl) rfl) ?_) | (refine ASeq.gq _ _ rfl rfl rfl rfl (QOp.loadM 0 rfl rfl rfl (tok _ rfl) rfl) ?_) | (refine ASeq.gq _ _ rfl rfl rfl rfl (QOp.loadM 1 rfl rfl rfl (tok _ rfl) rfl) ?_) | (refine ASeq.gq _ _ rfl rfl rfl rfl (QOp.loadM 2 rfl rfl rfl (tok _ rfl) rfl) ?_) | (refine ASeq.gq _ _ rfl rfl rfl rfl (QOp.loadM 3 rfl rfl rfl (tok _ rfl) rfl) ?_) | (refine ASeq.gq _ _ rfl rfl rfl rfl (QOp.loadM 4 rfl rfl rfl (tok _ rfl) rfl) ?_) | (refine ASeq.gq _ _ rfl rfl rfl rfl (QOp.loadM 5 rfl rfl rfl (tok _ rfl) rfl) ?_) | (refine ASeq.gq _ _ rfl rfl rfl rfl (QOp.loadM 6 rfl rfl rfl (tok _ rfl) rfl) ?_) | (refine ASeq.gq _ _ rfl rfl rfl rfl (QOp.loadM 7 rfl rfl rfl (tok _ rfl) rfl) ?_) | (refine ASeq.gq _ _ rfl rfl rfl rfl (QOp.loadM 8 rfl rfl rfl (tok _ rfl) rfl) ?_) | (refine ASeq.gq _ _ rfl rfl rfl rfl (QOp.loadM 9 rfl rfl rfl (tok _ rfl) rfl) ?_) | (refine ASeq.gq _ _ rfl rfl rfl rfl (QOp.loadM 10 rfl rfl rfl (tok _ rfl) rfl) ?_) | (refine ASeq.gq _ _ rfl rfl rfl rfl (QOp.loadM 11 rfl rfl rfl (tok _ rfl) rfl) ?_) | (refine ASeq.gq _ _ rfl rfl rfl rfl (QOp.loadM 12 rfl rfl rfl (tok _ rfl) rfl) ?_) | (refine ASeq.gq _ _ rfl rfl rfl rfl (QOp.loadM 13 rfl rfl rfl (tok _ rfl) rfl) ?_) | (refine ASeq.gq _ _ rfl rfl rfl rfl (QOp.loadM 14 rfl rfl rfl (tok _ rfl) rfl) ?_) | (refine ASeq.gq _ _ rfl rfl rfl rfl (QOp.loadM 15 rfl rfl rfl (tok _ rfl) rfl) ?_) | (refine ASeq.gq _ _ rfl rfl rfl rfl (QOp.loadAt 0 rfl rfl rfl (tok _ rfl) rfl (by assumption)) ?_) | (refine ASeq.gq _ _ rfl rfl rfl rfl (QOp.loadAt 1 rfl rfl rfl (tok _ rfl) rfl (by assumption)) ?_) | (refine ASeq.gq _ _ rfl rfl rfl rfl (QOp.loadAt 2 rfl rfl rfl (tok _ rfl) rfl (by assumption)) ?_) | (refine ASeq.gq _ _ rfl rfl rfl rfl (QOp.loadAt 3 rfl rfl rfl (tok _ rfl) rfl (by assumption)) ?_) | (refine ASeq.gq _ _ rfl rfl rfl rfl (QOp.loadAt 4 rfl rfl rfl (tok _ rfl) rfl (by assumption)) ?_) | (refine ASeq.gq _ _ rfl rfl rfl rfl (QOp.loadAt 5 rfl rfl rfl (tok _ rfl) rfl (by assumption)) ?_) | (refine ASeq.gno _ _ rfl rfl rfl rfl rfl ?_)
  first | (refine ASeq.gq _ _ rfl rfl rfl rfl (QOp.lenI rfl rfl (tok _ rfl) rfl) ?_) | (refine ASeq.gq _ _ rfl rfl rfl rfl (QOp.lenM rfl rfl (tok _ rfl) rfl) ?_) | (refine ASeq.gq _ _ rfl rfl rfl rfl (QOp.lenS rfl rfl (tok _ rfl) rfl) ?_) | (refine ASeq.gq _ _ rfl rfl rfl rfl (QOp.lenN rfl rfl (tok _ rfl) rfl) ?_) | (refine ASeq.gno _ _ rfl rfl rfl rfl rfl ?_)
  first | (refine ASeq.gq _ _ rfl rfl rfl rfl (QOp.cmp rfl rfl rfl rfl) ?_) | (refine ASeq.gno _ _ rfl rfl rfl rfl rfl ?_)
  first | (refine ASeq.q rfl rfl (QOp.pickT rfl rfl rfl) ?_) | (refine ASeq.q rfl rfl (QOp.pickF rfl rfl rfl) ?_)
  refine ASeq.q rfl rfl (QOp.move rfl rfl) ?_
  first | (refine ASeq.gq _ _ rfl rfl rfl rfl (QOp.fieldM rfl rfl (tok _ rfl) rfl rfl (by decide) rfl) ?_) | (refine ASeq.gq _ _ rfl rfl rfl rfl (QOp.fieldI rfl rfl (tok _ rfl) rfl rfl (by decide) rfl) ?_) | (refine ASeq.gno _ _ rfl rfl rfl rfl rfl ?_)
  first | (refine ASeq.gq _ _ rfl rfl rfl rfl (QOp.loadI rfl rfl (tok _ rfl) rfl) ?_) | (refine ASeq.gq _ _ rfl rfl rfl rfl (QOp.loadM 0 rfl rfl rfl (tok _ rfl) rfl) ?_) | (refine ASeq.gq _ _ rfl rfl rfl rfl (QOp.loadM 1 rfl rfl rfl (tok _ rfl) rfl) ?_) | (refine ASeq.gq _ _ rfl rfl rfl rfl (QOp.loadM 2 rfl rfl rfl (tok _ rfl) rfl) ?_) | (refine ASeq.gq _ _ rfl rfl rfl rfl (QOp.loadM 3 rfl rfl rfl (tok _ rfl) rfl) ?_) | (refine ASeq.gq _ _ rfl rfl rfl rfl (QOp.loadM 4 rfl rfl rfl (tok _ rfl) rfl) ?_) | (refine ASeq.gq _ _ rfl rfl rfl rfl (QOp.loadM 5 rfl rfl rfl (tok _ rfl) rfl) ?_) | (refine ASeq.gq _ _ rfl rfl rfl rfl (QOp.loadM 6 rfl rfl rfl (tok _ rfl) rfl) ?_) | (refine ASeq.gq _ _ rfl rfl rfl rfl (QOp.loadM 7 rfl rfl rfl (tok _ rfl) rfl) ?_) | (refine ASeq.gq _ _ rfl rfl rfl rfl (QOp.loadM 8 rfl rfl rfl (tok _ rfl) rfl) ?_) | (refine ASeq.gq _ _ rfl rfl rfl rfl (QOp.loadM 9 rfl rfl rfl (tok _ rfl) rfl) ?_) | (refine ASeq.gq _ _ rfl rfl rfl rfl (QOp.loadM 10 rfl rfl rfl (tok _ rfl) rfl) ?_) | (refine ASeq.gq _ _ rfl rfl rfl rfl (QOp.loadM 11 rfl rfl rfl (tok _ rfl) rfl) ?_) | (refine ASeq.gq _ _ rfl rfl rfl rfl (QOp.loadM 12 rfl rfl rfl (tok _ rfl) rfl) ?_) | (refine ASeq.gq _ _ rfl rfl rfl rfl (QOp.loadM 13 rfl rfl rfl (tok _ rfl) rfl) ?_) | (refine ASeq.gq _ _ rfl rfl rfl rfl (QOp.loadM 14 rfl rfl rfl (tok _ rfl) rfl) ?_) | (refine ASeq.gq _ _ rfl rfl rfl rfl (QOp.loadM 15 rfl rfl rfl (tok _ rfl) rfl) ?_) | (refine ASeq.gq _ _ rfl rfl rfl rfl (QOp.loadAt 0 rfl rfl rfl (tok _ rfl) rfl (by assumption)) ?_) | (refine ASeq.gq _ _ rfl rfl rfl rfl (QOp.loadAt 1 rfl rfl rfl (tok _ rfl) rfl (by assumption)) ?_) | (refine ASeq.gq _ _ rfl rfl rfl rfl (QOp.loadAt 2 rfl rfl rfl (tok _ rfl) rfl (by assumption)) ?_) | (refine ASeq.gq _ _ rfl rfl rfl rfl (QOp.loadAt 3 rfl rfl rfl (tok _ rfl) rfl (by assumption)) ?_) | (refine ASeq.gq _ _ rfl rfl rfl rfl (QOp.loadAt 4 rfl rfl rfl (tok _ rfl) rfl (by assumption)) ?_) | (refine ASeq.gq _ _ rfl rfl rfl rfl (QOp.loadAt 5 rfl rfl rfl (tok _ rfl) rfl (by assumption)) ?_) | (refine ASeq.gno _ _ rfl rfl rfl rfl rfl ?_)
  first | (refine ASeq.gq _ _ rfl rfl rfl rfl (QOp.indexI rfl rfl rfl (tok _ rfl) rfl (tok _ rfl) (by first | (decide) | (omega)) (by first | (rfl) | (assumption))) ?_) | (refine ASeq.gq _ _ rfl rfl rfl rfl (QOp.indexM rfl rfl rfl (tok _ rfl) rfl (tok _ rfl) (by first | (decide) | (omega)) (by first | (decide) | (omega)) rfl) ?_) | (refine ASeq.gno _ _ rfl rfl rfl rfl rfl ?_)
  first | (refine ASeq.gq _ _ rfl rfl rfl rfl (QOp.loadI rfl rfl (tok _ rfl) rfl) ?_) | (refine ASeq.gq _ _ rfl rfl rfl rfl (QOp.loadM 0 rfl rfl rfl (tok _ rfl) rfl) ?_) | (refine ASeq.gq _ _ rfl rfl rfl rfl (QOp.loadM 1 rfl rfl rfl (tok _ rfl) rfl) ?_) | (refine ASeq.gq _ _ rfl rfl rfl rfl (QOp.loadM 2 rfl rfl rfl (tok _ rfl) rfl) ?_) | (refine ASeq.gq _ _ rfl rfl rfl rfl (QOp.loadM 3 rfl rfl rfl (tok _ rfl) rfl) ?_) | (refine ASeq.gq _ _ rfl rfl rfl rfl (QOp.loadM 4 rfl rfl rfl (tok _ rfl) rfl) ?_) | (refine ASeq.gq _ _ rfl rfl rfl rfl (QOp.loadM 5 rfl rfl rfl (tok _ rfl) rfl) ?_) | (refine ASeq.gq _ _ rfl rfl rfl rfl (QOp.loadM 6 rfl rfl rfl (tok _ rfl) rfl) ?_) | (refine ASeq.gq _ _ rfl rfl rfl rfl (QOp.loadM 7 rfl rfl rfl (tok _ rfl) rfl) ?_) | (refine ASeq.gq _ _ rfl rfl rfl rfl (QOp.loadM 8 rfl rfl rfl (tok _ rfl) rfl) ?_) | (refine ASeq.gq _ _ rfl rfl rfl rfl (QOp.loadM 9 rfl rfl rfl (tok _ rfl) rfl) ?_) | (refine ASeq.gq _ _ rfl rfl rfl rfl (QOp.loadM 10 rfl rfl rfl (tok _ rfl) rfl) ?_) | (refine ASeq.gq _ _ rfl rfl rfl rfl (QOp.loadM 11 rfl rfl rfl (tok _ rfl) rfl) ?_) | (refine ASeq.gq _ _ rfl rfl rfl rfl (QOp.loadM 12 rfl rfl rfl (tok _ rfl) rfl) ?_) | (refine ASeq.gq _ _ rfl rfl rfl rfl (QOp.loadM 13 rfl rfl rfl (tok _ rfl) rfl) ?_) | (refine ASeq.gq _ _ rfl rfl rfl rfl (QOp.loadM 14 rfl rfl rfl (tok _ rfl) rfl) ?_) | (refine ASeq.gq _ _ rfl rfl rfl rfl (QOp.loadM 15 rfl rfl rfl (tok _ rfl) rfl) ?_) | (refine ASeq.gq _ _ rfl rfl rfl rfl (QOp.loadAt 0 rfl rfl rfl (tok _ rfl) rfl (by assumption)) ?_) | (refine ASeq.gq _ _ rfl rfl rfl rfl (QOp.loadAt 1 rfl rfl rfl (tok _ rfl) rfl (by assumption)) ?_) | (refine ASeq.gq _ _ rfl rfl rfl rfl (QOp.loadAt 2 rfl rfl rfl (tok _ rfl) rfl (by assumption)) ?_) | (refine ASeq.gq _ _ rfl rfl rfl rfl (QOp.loadAt 3 rfl rfl rfl (tok _ rfl) rfl (by assumption)) ?_) | (refine ASeq.gq _ _ rfl rfl rfl rfl (QOp.loadAt 4 rfl rfl rfl (tok _ rfl) rfl (by assumption)) ?_) | (refine ASeq.gq _ _ rfl rfl rfl rfl (QOp.loadAt 5 rfl rfl rfl (tok _ rfl) rfl (by assumption)) ?_) | (refine ASeq.gno _ _ rfl rfl rfl rfl rfl ?_)
  first | (refine ASeq.gq _ _ rfl rfl rfl rfl (QOp.indexI rfl rfl rfl (tok _ rfl) rfl (tok _ rfl) (by first | (decide) | (omega)) (by first | (rfl) | (assumption))) ?_) | (refine ASeq.gq _ _ rfl rfl rfl rfl (QOp.indexM rfl rfl rfl (tok _ rfl) rfl (tok _ rfl) (by first | (decide) | (omega)) (by first | (decide) | (omega)) rfl) ?_) | (refine ASeq.gno _ _ rfl rfl rfl rfl rfl ?_)
  first | (refine ASeq.gq _ _ rfl rfl rfl rfl (QOp.loadI rfl rfl (tok _ rfl) rfl) ?_) | (refine ASeq.gq _ _ rfl rfl rfl rfl (QOp.loadM 0 rfl rfl rfl (tok _ rfl) rfl) ?_) | (refine ASeq.gq _ _ rfl rfl rfl rfl (QOp.loadM 1 rfl rfl rfl (tok _ rfl) rfl) ?_) | (refine ASeq.gq _ _ rfl rfl rfl rfl (QOp.loadM 2 rfl rfl rfl (tok _ rfl) rfl) ?_) | (refine ASeq.gq _ _ rfl rfl rfl rfl (QOp.loadM 3 rfl rfl rfl (tok _ rfl) rfl) ?_) | (refine ASeq.gq _ _ rfl rfl rfl rfl (QOp.loadM 4 rfl rfl rfl (tok _ rfl) rfl) ?_) | (refine ASeq.gq _ _ rfl rfl rfl rfl (QOp.loadM 5 rfl rfl rfl (tok _ rfl) rfl) ?_) | (refine ASeq.gq _ _ rfl rfl rfl rfl (QOp.loadM 6 rfl rfl rfl (tok _ rfl) rfl) ?_) | (refine ASeq.gq _ _ rfl rfl rfl rfl (QOp.loadM 7 rfl rfl rfl (tok _ rfl) rfl) ?_) | (refine ASeq.gq _ _ rfl rfl rfl rfl (QOp.loadM 8 rfl rfl rfl (tok _ rfl) rfl) ?_) | (refine ASeq.gq _ _ rfl rfl rfl rfl (QOp.loadM 9 rfl rfl rfl (tok _ rfl) rfl) ?_) | (refine ASeq.gq _ _ rfl rfl rfl rfl (QOp.loadM 10 rfl rfl rfl (tok _ rfl) rfl) ?_) | (refine ASeq.gq _ _ rfl rfl rfl rfl (QOp.loadM 11 rfl rfl rfl (tok _ rfl) rfl) ?_) | (refine ASeq.gq _ _ rfl rfl rfl rfl (QOp.loadM 12 rfl rfl rfl (tok _ rfl) rfl) ?_) | (refine ASeq.gq _ _ rfl rfl rfl rfl (QOp.loadM 13 rfl rfl rfl (tok _ rfl) rfl) ?_) | (refine ASeq.gq _ _ rfl rfl rfl rfl (QOp.loadM 14 rfl rfl rfl (tok _ rfl) rfl) ?_) | (refine ASeq.gq _ _ rfl rfl rfl rfl (QOp.loadM 15 rfl rfl rfl (tok _ rfl) rfl) ?_) | (refine ASeq.gq _ _ rfl rfl rfl rfl (QOp.loadAt 0 rfl rfl rfl (tok _ rfl) rfl (by assumption)) ?_) | (refine ASeq.gq _ _ rfl rfl rfl rfl (QOp.loadAt 1 rfl rfl rfl (tok _ rfl) rfl (by assumption)) ?_) | (refine ASeq.gq _ _ rfl rfl rfl rfl (QOp.loadAt 2 rfl rfl rfl (tok _ rfl) rfl (by assumption)) ?_) | (refine ASeq.gq _ _ rfl rfl rfl rfl (QOp.loadAt 3 rfl rfl rfl (tok _ rfl) rfl (by assumption)) ?_) | (refine ASeq.gq _ _ rfl rfl rfl rfl (QOp.loadAt 4 rfl rfl rfl (tok _ rfl) rfl (by assumption)) ?_) | (refine ASeq.gq _ _ rfl rfl rfl rfl (QOp.loadAt 5 rfl rfl rfl (tok _ rfl) rfl (by assumption)) ?_) | (refine ASeq.gno _ _ rfl rfl rfl rfl rfl ?_)
  first | (refine ASeq.gq _ _ rfl rfl rfl rfl (QOp.cmp rfl rfl rfl rfl) ?_) | (refine ASeq.gno _ _ rfl rfl rfl rfl rfl ?_)
  first | (refine ASeq.q rfl rfl (QOp.pickT rfl rfl rfl) ?_) | (refine ASeq.q rfl rfl (QOp.pickF rfl rfl rfl) ?_)
  refine ASeq.q rfl rfl (QOp.assign rfl rfl) ?_
  refine ASeq.nil ?_
  repeat (first | (refine ACode.seq ?_) | (refine ACode.region ?_) | (refine ACode.ret ?_) | (refine ACode.skip ?_) | (refine ACode.exit ?_) | (refine ACode.block ?_) | (refine AExit.then_normal ?_) | (refine AExit.then_ret ?_) | (refine AExit.then_exit ?_) | (refine AExit.in_normal ?_) | (refine AExit.in_ret ?_) | (refine AExit.in_same ?_) | (refine AExit.in_other rfl ?_) | (refine ASeq.nil ?_))
  refine bodyQ_ret 0 (.tmp rfl .nil) rfl ?_
  exact .mk
end Go.Proofs.Ytaadamobapnfbaa
/- ref07: lay, Places. -/
set_option linter.unusedVariables false
set_option linter.unusedSimpArgs false
set_option maxRecDepth 100000
namespace Go.Proofs.Ytaadamobapnfbaa
open Go Go.Abs
structure Pl where
  L : List Int
  k : Int
  inn : Int
  loop : Int
def Pl.cells (p : Pl) : List AV := [.il 1 none (ints p.L), vi p.k, vi p.inn, vi p.loop]
def plOf (c : Ctx) : Pl := ⟨c.L, c.k, c.inn, c.loop⟩
def pcells (P : List Pl) : List AV := (P.map Pl.cells).flatten
theorem pl_rows (P : List Pl) : ∀ r ∈ P.map Pl.cells, r.length = (TT 109).size := fun r h => by obtain ⟨x, _, rfl⟩ := List.mem_map.1 h; rfl
theorem storePl {Pr : Program} {N : Nat} {D : List Deferred} {env : Env} {R R' : List Abs.Item} {o : Oper} {K Kp : AV → List Abs.Item → Prop} (p : Nat) {t : TypeId} {td : TD} {x y : Operand} {m k i : Nat} {w : Pl} {v : AV} {l : List Pl} (ho : o.op = .store t x y)
    (hx : ev N env x = some (.mp m k)) (hi : R[p]? = some (.mu m (pcells l))) (hy : ev N env y = some v) (hw : v = .agg w.cells) (hT : TOK Pr t td) (hsz : td.size = (TT 109).size) (hk' : k = 0 + i * td.size) (hlt : i < l.length) (hR : setO p (.mu m (pcells (l.set i w))) R = some R') (hk : K .any R') : AOp Pr N D o env R K Kp := by
  subst hw
  refine AOp.storeRow p ho hx hi hy hT (vs := w.cells) rfl (by rw [hsz]; exact pl_rows l) (by rw [hsz]; rfl) hk' (by rw [List.length_map]; exact hlt) ?_ hk
  rw [← List.map_set]; exact hR
inductive RL (t : Tree) (mP : Nat) (Q : List Pl → Prop) : AOut → List Abs.Item → Prop
  | mk (P : List Pl) (h : Q P) : RL t mP Q (.ret (.sl 4 mP 0 t.stmts.length)) [.mu mP (pcells P)]
structure Laid (t : Tree) (P P' : List Pl) (occ : Ctx → Prop) (lo hi : Int) : Prop where
  len : P'.length = P.length
  all : ∀ d, occ d → P'[d.i.toNat]? = some (plOf d)
  rest : ∀ j : Nat, ((j : Int) < lo ∨ hi ≤ j) → P'[j]? = P[j]?
def CLay (n : Nat) : Prop := ∀ (t : Tree) (P : List Pl) (mP : Nat) (L : List Int) (inn loop B lb : Int) (lo hi : Nat), TreeOk t → SCov t L lo hi → hi ≤ n → P.length = t.stmts.length →
  ACalls Try.prog 45 [.agg t.cells, .sl 4 mP 0 t.stmts.length, .il 1 none (ints L), vi inn, vi loop] [.mu mP (pcells P)]
    (RL t mP (fun P' => Laid t P P' (fun d => ∃ k, k < L.length ∧ Occ t (.at_ L k inn loop B lb) d) lo hi))
theorem SCov.top {t : Tree} {l : List Int} {a c : Nat} (h : SCov t l a c) : c ≤ a ∨ c ≤ t.stmts.length := by
  induction h with
  | nil => exact .inl (Nat.le_refl _)
  | cons hr hk hl ih1 ih2 => omega
set_option maxHeartbeats 4000000 in
theorem lay_walk (n : Nat) (hS : ∀ m, m < n → CLay m) : CLay n := by
  intro t P0 mP L inn loop B lb lo hi ht hL hn hPl
  have hil := ints_len L
  have hSl : (t.stmts.map St.cells).length = t.stmts.length := List.length_map ..
  have hlen := hL.len
  have hbig := ht.big
  have htop := hL.top
  refine ACalls.of_code (c := _) Try.func45 rfl Try.ntmps45 (Nat.le_of_ble_eq_true rfl) ?_
  refine ACode.seq (ACode.region ?_)
  refine ASeq.op rfl rfl (AOp.boxP rfl rfl rfl (fun _ => rfl) (fun _ => ?_))
  refine ASeq.q rfl rfl (QOp.assign rfl rfl) ?_
  refine ASeq.nil ?_
  rename_i m5
  refine ACode.seq (ACode.seq (ACode.region ?_))
  refine ASeq.q rfl rfl (QOp.move rfl rfl) ?_
  refine ASeq.q rfl rfl (QOp.lenI rfl rfl (tok _ rfl) rfl) ?_
  refine ASeq.q rfl rfl (QOp.move rfl rfl) ?_
  refine ASeq.nil ?_
  refine ACode.block ?_
  refine ACode.loopP (fun (x : Nat × List Pl) => [(1, .sl 4 mP 0 t.stmts.length), (2, .il 1 none (ints L)), (3, vi inn), (4, vi loop), (5, .mp m5 0), (15, vi ((ints L).length : Int)), (16, vi x.1)])
    (fun x => [.mu mP (pcells x.2), .mu m5 t.cells]) (fun x => L.length - x.1)
    (fun x => x.1 ≤ L.length ∧ x.2.length = P0.length ∧ (∀ k d, k < x.1 → Occ t (.at_ L k inn loop B lb) d → x.2[d.i.toNat]? = some (plOf d)) ∧ ∀ j : Nat, ((j : Int) < lo ∨ (hi : Int) ≤ j) → x.2[j]? = P0[j]?)
    (0, P0) ⟨Nat.zero_le _, rfl, fun k d hk => by omega, fun _ _ => rfl⟩ (.cons rfl (.cons rfl (.cons rfl (.cons rfl (.cons rfl (.cons rfl (.cons rfl .nil))))))) 2 rfl ?_
  rintro ⟨k, P1⟩ ⟨hk, hl, hw, hrest⟩
  dsimp only at hk hl hw hrest
  refine ACode.seq (ACode.region ?_)
  refine ASeq.q rfl rfl (QOp.cmp rfl rfl rfl rfl) ?_
  refine ASeq.nil ?_
  refine ACode.seq ?_
  refine ACode.cond _ rfl (fun hb => ?_) (fun hb => ?_)
  · have hlt : k < L.length := by have := of_decide_eq_true hb; rw [hil] at this; omega
    have hget := ints_get hlt
    obtain ⟨lo', o1, o2, o3, o4⟩ := hL.own hlt inn loop B lb
    have ei : (Ctx.at_ L k inn loop B lb).i = L[k] := by show L.getD k 0 = _; rw [List.getD_eq_getElem?_getD, List.getElem?_eq_getElem hlt]; rfl
    have i0 := o1.i0
    have i1 := o1.i1
    have hown := o1
    have hS := hS (n - 1) (by omega)
    have hki : L[k].toNat < P1.length := by rw [← ei]; omega
    generalize hc : Ctx.at_ L k inn loop B lb = c at *
    have hrow := tst_get i0 i1
    rw [ei] at hrow
    obtain ⟨md, k1, k2⟩ := hown.kids.split
    have k1l := k1.le
    have k2l := k2.le
    refine ACode.skip (ACode.seq (ACode.block (ACode.seq (ACode.region ?_))))
    refine ASeq.q rfl rfl (QOp.move rfl rfl) ?_
    refine ASeq.q rfl rfl (QOp.assign rfl rfl) ?_
    refine ASeq.nil ?_
    refine ACode.seq ?_
    refine ACode.drawn [[], [0], [], [], [2, 3], [2, 3, 4], [0, 1, 2, 3, 4, 5], [0, 1, 2, 3, 4, 5, 6], [], [0, 1, 2, 3, 4, 5, 6, 7, 8]] (by kernel_rfl) mixed ?_
    refine DAny.qu 0 rfl rfl (by kernel_rfl) rfl (fun _ => .does _ _ rfl (.none rfl) (QOp.fieldM rfl rfl (tok _ rfl) rfl rfl (by decide) rfl)) ?_
    refine DAny.ld 1 rfl rfl (by kernel_rfl) rfl (.does _ _ rfl (.none rfl) (QOp.loadM 1 rfl rfl rfl (tok _ rfl) rfl)) ?_
    refine DAny.qu 2 rfl rfl (by kernel_rfl) rfl (fun _ => .does _ _ rfl (.none rfl) (QOp.move rfl rfl)) ?_
    refine DAny.qu 3 rfl rfl (by kernel_rfl) rfl (fun _ => .does _ _ rfl (.none rfl) (QOp.move rfl rfl)) ?_
    refine DAny.qu 4 rfl rfl (by kernel_rfl) rfl (fun _ => .does _ _ rfl (.none rfl) (QOp.indexI rfl rfl rfl (tok _ rfl) rfl (tok _ rfl) (by omega) (by assumption))) ?_
    refine DAny.qu 5 rfl rfl (by kernel_rfl) rfl (fun _ => .does _ _ rfl (.none rfl) (QOp.loadI rfl rfl (tok _ rfl) rfl)) ?_
    refine DAny.qu 6 rfl rfl (by kernel_rfl) rfl (fun _ => .does _ _ rfl (.none rfl) (QOp.indexI rfl rfl rfl (tok _ rfl) rfl (tok _ rfl) (by omega) (by assumption))) ?_
    refine DAny.qu 7 rfl rfl (by kernel_rfl) rfl (fun _ => .does _ _ rfl (.none rfl) (QOp.loadI rfl rfl (tok _ rfl) rfl)) ?_
    refine DAny.ef 8 rfl (by kernel_rfl) (.none rfl) rfl rfl (AOp.allocP rfl (tok _ rfl) rfl rfl (fun _ => rfl) (fun _ => ⟨(by ((refine AllQ.cons (.does _ _ rfl (.none rfl) (QOp.loadM 1 rfl rfl rfl (tok _ rfl) rfl)) ?_); (exact AllQ.nil))), ?_⟩))
    refine DAny.ef0 9 rfl (by kernel_rfl) (.none rfl) rfl rfl (AOp.storeP 2 rfl rfl rfl rfl (tok _ rfl) rfl rfl rfl rfl ⟨(by ((exact AllQ.nil))), ?_⟩)
    refine DAny.done (by kernel_rfl) ?_
    rename_i m12
    refine ACode.seq (ACode.region ?_)
    refine ASeq.q rfl rfl (QOp.move rfl rfl) ?_
    refine ASeq.q rfl rfl (QOp.move rfl rfl) ?_
    refine ASeq.q rfl rfl (QOp.move rfl rfl) ?_
    refine ASeq.q rfl rfl (QOp.indexI rfl rfl rfl (tok _ rfl) rfl (tok _ rfl) (by omega) (by assumption)) ?_
    refine ASeq.q rfl rfl (QOp.loadI rfl rfl (tok _ rfl) rfl) ?_
    refine ASeq.q rfl rfl (QOp.move rfl rfl) ?_
    refine ASeq.q rfl rfl (QOp.move rfl rfl) ?_
    refine ASeq.q rfl rfl (QOp.move rfl rfl) ?_
    refine ASeq.q rfl rfl (QOp.move rfl rfl) ?_
    refine ASeq.q rfl rfl (QOp.build rfl (tok _ rfl) rfl rfl rfl rfl rfl) ?_
    refine ASeq.q rfl rfl (QOp.indexM rfl rfl rfl (tok _ rfl) rfl (tok _ rfl) (by omega) (by omega) rfl) ?_
    refine ASeq.op0 rfl rfl (storePl 0 (i := L[k].toNat) (w := plOf c) rfl rfl rfl rfl (by rw [← hc]; rfl) (tok _ rfl) rfl rfl hki rfl ?_)
    refine ASeq.nil ?_
    refine ACode.seq (ACode.region ?_)
    refine ASeq.q rfl rfl (QOp.move rfl rfl) ?_
    refine ASeq.q rfl rfl (QOp.assign rfl rfl) ?_
    refine ASeq.nil ?_
    refine AExit.then_normal ?_
    have hcl : c.loop = loop := by rw [← hc]; rfl
    obtain ⟨B', lb', hsub⟩ : ∃ B' lb', ∀ (M : List Int) (j : Nat), c.sub t M j = .at_ M j L[k] (if (t.stm L[k]).kind = 6 then L[k] else loop) B' lb' := by
      unfold Ctx.sub
      rw [ei, hcl]
      by_cases h6 : (t.stm L[k]).kind = 6
      · exact ⟨L[k], c.behind, fun M j => by rw [if_pos h6, if_pos h6]⟩
      · exact ⟨c.behind, c.lb, fun M j => by rw [if_neg h6, if_neg h6]⟩
    have hc1 : c.thn t = fun j => .at_ (t.stm L[k]).thn j L[k] (if (t.stm L[k]).kind = 6 then L[k] else loop) B' lb' := by funext j; unfold Ctx.thn; rw [hsub, ei]
    have hc2 : c.els t = fun j => .at_ (t.stm L[k]).els j L[k] (if (t.stm L[k]).kind = 6 then L[k] else loop) B' lb' := by funext j; unfold Ctx.els; rw [hsub, ei]
    rw [ei] at k1 k2 k2l i0 i1
    have hl1 : (P1.set L[k].toNat (plOf c)).length = t.stmts.length := by rw [List.length_set, hl]; exact hPl
    have s1 := hS t (P1.set L[k].toNat (plOf c)) mP (t.stm L[k]).thn L[k] (if (t.stm L[k]).kind = 6 then L[k] else loop) B' lb' lo' md ht k1 (by omega) hl1
    refine ACode.meet [(1, .sl 4 mP 0 t.stmts.length), (2, .il 1 none (ints L)), (3, vi inn), (4, vi loop), (5, .mp m5 0), (15, vi ((ints L).length : Int)), (16, vi k), (11, vi k), (12, .mp m12 0), (13, vi (if (t.stm L[k]).kind = 6 then L[k] else loop))]
      [.mu mP (pcells (P1.set L[k].toNat (plOf c))), .mu m5 t.cells, .mu m12 (t.stm L[k]).cells] (fun rest => ?_) ?_
    · refine ACode.seq (ACode.region ?_)
      refine ASeq.q rfl rfl (QOp.fieldM rfl rfl (tok _ rfl) rfl rfl (by decide) rfl) ?_
      refine ASeq.q rfl rfl (QOp.loadM 2 rfl rfl rfl (tok _ rfl) rfl) ?_
      refine ASeq.q rfl rfl (QOp.cmp rfl rfl rfl rfl) ?_
      refine ASeq.nil ?_
      refine AExit.then_normal ?_
      refine ACode.cond _ rfl (fun hb => ?_) (fun hb => ?_)
      · have hk6 : (t.stm L[k]).kind = 6 := by simpa using hb
        refine ACode.region ?_
        refine ASeq.q rfl rfl (QOp.move rfl rfl) ?_
        refine ASeq.q rfl rfl (QOp.move rfl rfl) ?_
        refine ASeq.q rfl rfl (QOp.indexI rfl rfl rfl (tok _ rfl) rfl (tok _ rfl) (by omega) (by assumption)) ?_
        refine ASeq.q rfl rfl (QOp.loadI rfl rfl (tok _ rfl) rfl) ?_
        refine ASeq.q rfl rfl (QOp.assign rfl rfl) ?_
        refine ASeq.nil ?_
        refine AExit.then_normal ?_
        exact rest.atP 3 (.cons rfl (.cons rfl (.cons rfl (.cons rfl (.cons rfl (.cons rfl (.cons rfl (.cons rfl (.cons rfl (.consE rfl (by rw [if_pos hk6]) .nil)))))))))) rfl
      · have hk6 : (t.stm L[k]).kind ≠ 6 := by simpa using hb
        refine ACode.skip ?_
        refine AExit.then_normal ?_
        exact rest.atP 3 (.cons rfl (.cons rfl (.cons rfl (.cons rfl (.cons rfl (.cons rfl (.cons rfl (.cons rfl (.cons rfl (.consE rfl (by rw [if_neg hk6]) .nil)))))))))) rfl
    refine ACode.seq ?_
    refine ACode.drawn [[], [], [], [2], [], [], [4, 5], [4, 5, 6], [], [0, 1, 2, 3, 4, 5, 6, 7, 8], [0, 1, 2, 3, 4, 5, 6, 7, 8, 9]] (by kernel_rfl) mixed ?_
    refine DAny.ld 0 rfl rfl (by kernel_rfl) rfl (.does _ _ rfl (.none rfl) (QOp.loadM 1 rfl rfl rfl (tok _ rfl) rfl)) ?_
    refine DAny.qu 1 rfl rfl (by kernel_rfl) rfl (fun _ => .does _ _ rfl (.none rfl) (QOp.move rfl rfl)) ?_
    refine DAny.qu 2 rfl rfl (by kernel_rfl) rfl (fun _ => .does _ _ rfl (.none rfl) (QOp.fieldM rfl rfl (tok _ rfl) rfl rfl (by decide) rfl)) ?_
    refine DAny.ld 3 rfl rfl (by kernel_rfl) rfl (.does _ _ rfl (.none rfl) (QOp.loadM 2 rfl rfl rfl (tok _ rfl) rfl)) ?_
    refine DAny.qu 4 rfl rfl (by kernel_rfl) rfl (fun _ => .does _ _ rfl (.none rfl) (QOp.move rfl rfl)) ?_
    refine DAny.qu 5 rfl rfl (by kernel_rfl) rfl (fun _ => .does _ _ rfl (.none rfl) (QOp.move rfl rfl)) ?_
    refine DAny.qu 6 rfl rfl (by kernel_rfl) rfl (fun _ => .does _ _ rfl (.none rfl) (QOp.indexI rfl rfl rfl (tok _ rfl) rfl (tok _ rfl) (by omega) (by assumption))) ?_
    refine DAny.qu 7 rfl rfl (by kernel_rfl) rfl (fun _ => .does _ _ rfl (.none rfl) (QOp.loadI rfl rfl (tok _ rfl) rfl)) ?_
    refine DAny.qu 8 rfl rfl (by kernel_rfl) rfl (fun _ => .does _ _ rfl (.none rfl) (QOp.move rfl rfl)) ?_
    refine DAny.ef 9 rfl (by kernel_rfl) (.none rfl) rfl rfl (AOp.callP 1 rfl (by kernel_rfl) rfl rfl rfl (s1) ?_ (by rintro _ _ ⟨⟩))
    rintro _ _ ⟨P, hP⟩
    refine ⟨(by ((exact AllQ.nil))), ?_⟩
    refine DAny.ef 10 rfl (by kernel_rfl) (.none rfl) rfl rfl (.q (QOp.assign rfl rfl) ⟨(by ((exact AllQ.nil))), ?_⟩)
    refine DAny.done (by kernel_rfl) ?_
    have h1 := hP
    have s2 := hS t P mP (t.stm L[k]).els L[k] (if (t.stm L[k]).kind = 6 then L[k] else loop) B' lb' md L[k].toNat ht k2 (by omega) (hP.len.trans hl1)
    refine AExit.then_normal ?_
    refine ACode.drawn [[], [], [], [2], [], [], [4, 5], [4, 5, 6], [], [0, 1, 2, 3, 4, 5, 6, 7, 8], [0, 1, 2, 3, 4, 5, 6, 7, 8, 9]] (by kernel_rfl) mixed ?_
    refine DAny.ld 0 rfl rfl (by kernel_rfl) rfl (.does _ _ rfl (.none rfl) (QOp.loadM 1 rfl rfl rfl (tok _ rfl) rfl)) ?_
    refine DAny.qu 1 rfl rfl (by kernel_rfl) rfl (fun _ => .does _ _ rfl (.none rfl) (QOp.move rfl rfl)) ?_
    refine DAny.qu 2 rfl rfl (by kernel_rfl) rfl (fun _ => .does _ _ rfl (.none rfl) (QOp.fieldM rfl rfl (tok _ rfl) rfl rfl (by decide) rfl)) ?_
    refine DAny.ld 3 rfl rfl (by kernel_rfl) rfl (.does _ _ rfl (.none rfl) (QOp.loadM 2 rfl rfl rfl (tok _ rfl) rfl)) ?_
    refine DAny.qu 4 rfl rfl (by kernel_rfl) rfl (fun _ => .does _ _ rfl (.none rfl) (QOp.move rfl rfl)) ?_
    refine DAny.qu 5 rfl rfl (by kernel_rfl) rfl (fun _ => .does _ _ rfl (.none rfl) (QOp.move rfl rfl)) ?_
    refine DAny.qu 6 rfl rfl (by kernel_rfl) rfl (fun _ => .does _ _ rfl (.none rfl) (QOp.indexI rfl rfl rfl (tok _ rfl) rfl (tok _ rfl) (by omega) (by assumption))) ?_
    refine DAny.qu 7 rfl rfl (by kernel_rfl) rfl (fun _ => .does _ _ rfl (.none rfl) (QOp.loadI rfl rfl (tok _ rfl) rfl)) ?_
    refine DAny.qu 8 rfl rfl (by kernel_rfl) rfl (fun _ => .does _ _ rfl (.none rfl) (QOp.move rfl rfl)) ?_
    refine DAny.ef 9 rfl (by kernel_rfl) (.none rfl) rfl rfl (AOp.callP 1 rfl (by kernel_rfl) rfl rfl rfl (s2) ?_ (by rintro _ _ ⟨⟩))
    rintro _ _ ⟨P, hP⟩
    refine ⟨(by ((exact AllQ.nil))), ?_⟩
    refine DAny.ef 10 rfl (by kernel_rfl) (.none rfl) rfl rfl (.q (QOp.assign rfl rfl) ⟨(by ((exact AllQ.nil))), ?_⟩)
    refine DAny.done (by kernel_rfl) ?_
    have h2 := hP
    refine ACode.region ?_
    refine ASeq.q rfl rfl (QOp.ar64 rfl rfl rfl rfl ⟨by omega, by omega⟩) ?_
    refine ASeq.q rfl rfl (QOp.move rfl rfl) ?_
    refine ASeq.nil ?_
    refine AExit.then_normal ?_
    refine ⟨(k + 1, P), 2, ⟨hlt, ?_, fun j d hj' ho => ?_, fun j hj' => ?_⟩, by show L.length - (k + 1) < L.length - k; omega, .cons rfl (.cons rfl (.cons rfl (.cons rfl (.cons rfl (.cons rfl (.cons rfl .nil)))))), rfl⟩
    · exact h2.len.trans (h1.len.trans ((List.length_set ..).trans hl))
    · by_cases hjk : j = k
      · subst hjk
        rw [hc] at ho
        rcases ho.cases with rfl | ⟨q, hq, ho⟩ | ⟨q, hq, ho⟩
        · dsimp only
          rw [ei, h2.rest _ (.inr (by omega)), h1.rest _ (.inr (by omega)), List.getElem?_set_self hki]
        · rw [hc1] at ho
          rw [ei] at hq
          dsimp only
          rw [h2.rest _ ?_]
          · exact h1.all d ⟨q, hq, ho⟩
          · left
            obtain ⟨lo1, p1, p2, p3, p4⟩ := k1.own hq L[j] (if (t.stm L[j]).kind = 6 then L[j] else loop) B' lb'
            obtain ⟨lo2, q1, q2, q3, q4⟩ := p1.occ ho
            have := q1.i0
            omega
        · rw [hc2] at ho
          rw [ei] at hq
          exact h2.all d ⟨q, hq, ho⟩
      · have hjlt : j < k := by omega
        have hdlt : d.i < lo' := by
          obtain ⟨lo2, p1, p2, p3, p4⟩ := o4.own (k := j) (by rw [List.length_take]; omega) inn loop B lb
          obtain ⟨lo3, u1, u2, u3, u4⟩ := hL.own (k := j) (by omega) inn loop B lb
          obtain ⟨lo4, w1, w2, w3, w4⟩ := u1.occ ho
          have g1 : (Ctx.at_ L j inn loop B lb).i = (Ctx.at_ (L.take k) j inn loop B lb).i := by
            show L.getD j 0 = (L.take k).getD j 0
            rw [List.getD_eq_getElem?_getD, List.getD_eq_getElem?_getD, List.getElem?_take, if_pos hjlt]
          omega
        have hd0 : 0 ≤ d.i := by
          obtain ⟨lo3, u1, u2, u3, u4⟩ := hL.own (k := j) (by omega) inn loop B lb
          obtain ⟨lo4, w1, w2, w3, w4⟩ := u1.occ ho
          exact w1.i0
        dsimp only
        rw [h2.rest _ (by omega), h1.rest _ (by omega), List.getElem?_set_ne (by omega)]
        exact hw j d hjlt ho
    · dsimp only
      rw [h2.rest _ (by omega), h1.rest _ (by omega), List.getElem?_set_ne (by omega)]
      exact hrest j hj'
  · have hge : k = L.length := by have := of_decide_eq_false hb; rw [hil] at this; omega
    refine ACode.exit (ACode.seq (ACode.region ?_))
    refine ASeq.q rfl rfl (QOp.move rfl rfl) ?_
    refine ASeq.q rfl rfl (QOp.assign rfl rfl) ?_
    refine ASeq.nil ?_
    refine ACode.ret ?_
    refine bodyQ_ret 1 (.tmp rfl .nil) rfl ?_
    exact RL.mk P1 ⟨hl, fun d ⟨k', hk', ho⟩ => hw k' d (by omega) ho, hrest⟩
theorem lays (n : Nat) : CLay n := by
  induction n using Nat.strongRecOn with
  | _ n ih => exact lay_walk n ih
end Go.Proofs.Ytaadamobapnfbaa
/- ref07: Places, Behind, Next, All. -/
set_option linter.unusedVariables false
set_option linter.unusedSimpArgs false
set_option maxRecDepth 100000
namespace Go.Proofs.Ytaadamobapnfbaa
open Go Go.Abs
structure LaidOk (t : Tree) (P : List Pl) : Prop where
  len : P.length = t.stmts.length
  all : ∀ k d, InF t k d → P[d.i.toNat]? = some (plOf d)
inductive RPl (t : Tree) : AOut → List Abs.Item → Prop
  | mk (mP : Nat) (P : List Pl) (h : LaidOk t P) : RPl t (.ret (.sl 4 mP 0 t.stmts.length)) [.mu mP (pcells P)]
theorem nils_pl (n : Nat) : LeL (List.replicate n ((TT 109).zero.map AV.v)).flatten (pcells (List.replicate n ⟨[], 0, 0, 0⟩)) := by
  induction n with
  | zero => exact .nil
  | succ n ih => exact .cons (.nilT 1 none) (.cons (.refl _) (.cons (.refl _) (.cons (.refl _) ih)))
theorem places_walk (t : Tree) (R : Nat → Nat) (ht : TreeOk t) (hR : FR t R) : ACalls Try.prog 29 [.agg t.cells] [] (RPl t) := by
  have hSl : (t.stmts.map St.cells).length = t.stmts.length := List.length_map ..
  have hFl : (t.funcs.map Fu.cells).length = t.funcs.length := List.length_map ..
  have hbig := ht.big
  refine ACalls.of_code (c := _) Try.func29 rfl Try.ntmps29 (Nat.le_of_ble_eq_true rfl) ?_
  repeat (first | (refine ACode.seq ?_) | (refine ACode.region ?_) | (refine ACode.ret ?_) | (refine ACode.skip ?_) | (refine ACode.exit ?_) | (refine ACode.block ?_) | (refine AExit.then_normal ?_) | (refine AExit.then_ret ?_) | (refine AExit.then_exit ?_) | (refine AExit.in_normal ?_) | (refine AExit.in_ret ?_) | (refine AExit.in_same ?_) | (refine AExit.in_other rfl ?_) | (refine ASeq.nil ?_))
  refine ASeq.op rfl rfl (AOp.boxP rfl rfl rfl (fun _ => rfl) (fun _ => ?_))
  refine ASeq.q rfl rfl (QOp.assign rfl rfl) ?_
  refine ASeq.nil ?_
  rename_i m1
  repeat (first | (refine ACode.seq ?_) | (refine ACode.region ?_) | (refine ACode.ret ?_) | (refine ACode.skip ?_) | (refine ACode.exit ?_) | (refine ACode.block ?_) | (refine AExit.then_normal ?_) | (refine AExit.then_ret ?_) | (refine AExit.then_exit ?_) | (refine AExit.in_normal ?_) | (refine AExit.in_ret ?_) | (refine AExit.in_same ?_) | (refine AExit.in_other rfl ?_) | (refine ASeq.nil ?_))
  first | (refine ASeq.q rfl rfl (QOp.fieldM rfl rfl (tok _ rfl) rfl rfl (by decide) rfl) ?_) | (refine ASeq.q rfl rfl (QOp.fieldI rfl rfl (tok _ rfl) rfl rfl (by decide) rfl) ?_)
  first | (refine ASeq.q rfl rfl (QOp.loadI rfl rfl (tok _ rfl) rfl) ?_) | (refine ASeq.q rfl rfl (QOp.loadM 0 rfl rfl rfl (tok _ rfl) rfl) ?_) | (refine ASeq.q rfl rfl (QOp.loadM 1 rfl rfl rfl (tok _ rfl) rfl) ?_) | (refine ASeq.q rfl rfl (QOp.loadM 2 rfl rfl rfl (tok _ rfl) rfl) ?_) | (refine ASeq.q rfl rfl (QOp.loadM 3 rfl rfl rfl (tok _ rfl) rfl) ?_) | (refine ASeq.q rfl rfl (QOp.loadM 4 rfl rfl rfl (tok _ rfl) rfl) ?_) | (refine ASeq.q rfl rfl (QOp.loadM 5 rfl rfl rfl (tok _ rfl) rfl) ?_) | (refine ASeq.q rfl rfl (QOp.loadM 6 rfl rfl rfl (tok _ rfl) rfl) ?_) | (refine ASeq.q rfl rfl (QOp.loadM 7 rfl rfl rfl (tok _ rfl) rfl) ?_) | (refine ASeq.q rfl rfl (QOp.loadM 8 rfl rfl rfl (tok _ rfl) rfl) ?_) | (refine ASeq.q rfl rfl (QOp.loadM 9 rfl rfl rfl (tok _ rfl) rfl) ?_) | (refine ASeq.q rfl rfl (QOp.loadM 10 rfl rfl rfl (tok _ rfl) rfl) ?_) | (refine ASeq.q rfl rfl (QOp.loadM 11 rfl rfl rfl (tok _ rfl) rfl) ?_) | (refine ASeq.q rfl rfl (QOp.loadM 12 rfl rfl rfl (tok _ rfl) rfl) ?_) | (refine ASeq.q rfl rfl (QOp.loadM 13 rfl rfl rfl (tok _ rfl) rfl) ?_) | (refine ASeq.q rfl rfl (QOp.loadM 14 rfl rfl rfl (tok _ rfl) rfl) ?_) | (refine ASeq.q rfl rfl (QOp.loadM 15 rfl rfl rfl (tok _ rfl) rfl) ?_) | (refine ASeq.q rfl rfl (QOp.loadAt 0 rfl rfl rfl (tok _ rfl) rfl (by assumption)) ?_) | (refine ASeq.q rfl rfl (QOp.loadAt 1 rfl rfl rfl (tok _ rfl) rfl (by assumption)) ?_) | (refine ASeq.q rfl rfl (QOp.loadAt 2 rfl rfl rfl (tok _ rfl) rfl (by assumption)) ?_) | (refine ASeq.q rfl rfl (QOp.loadAt 3 rfl rfl rfl (tok _ rfl) rfl (by assumption)) ?_) | (refine ASeq.q rfl rfl (QOp.loadAt 4 rfl rfl rfl (tok _ rfl) rfl (by assumption)) ?_) | (refine ASeq.q rfl rfl (QOp.loadAt 5 rfl rfl rfl (tok _ rfl) rfl (by assumption)) ?_)
  first | (refine ASeq.q rfl rfl (QOp.lenI rfl rfl (tok _ rfl) rfl) ?_) | (refine ASeq.q rfl rfl (QOp.lenM rfl rfl (tok _ rfl) rfl) ?_) | (refine ASeq.q rfl rfl (QOp.lenS rfl rfl (tok _ rfl) rfl) ?_) | (refine ASeq.q rfl rfl (QOp.lenN rfl rfl (tok _ rfl) rfl) ?_)
  refine ASeq.op rfl rfl (AOp.makeP (n := (t.stmts.map St.cells).length) rfl rfl rfl (tok _ rfl) rfl (tok _ rfl) (by decide) rfl rfl (fun _ => rfl) (by omega) rfl (fun mP => ?_))
  refine ASeq.q rfl rfl (QOp.assign rfl rfl) ?_
  refine ASeq.nil ?_
  refine AExit.then_normal ?_
  refine ACode.items _ (List.Perm.swap _ _ _) (List.Sublist.refl _) ?_
  refine ACode.cells (cells' := pcells (List.replicate t.stmts.length ⟨[], 0, 0, 0⟩)) [] [_] rfl (by rw [hSl]; exact nils_pl _) ?_
  repeat (first | (refine ACode.seq ?_) | (refine ACode.region ?_) | (refine ACode.ret ?_) | (refine ACode.skip ?_) | (refine ACode.exit ?_) | (refine ACode.block ?_) | (refine AExit.then_normal ?_) | (refine AExit.then_ret ?_) | (refine AExit.then_exit ?_) | (refine AExit.in_normal ?_) | (refine AExit.in_ret ?_) | (refine AExit.in_same ?_) | (refine AExit.in_other rfl ?_) | (refine ASeq.nil ?_))
  first | (refine ASeq.q rfl rfl (QOp.fieldM rfl rfl (tok _ rfl) rfl rfl (by decide) rfl) ?_) | (refine ASeq.q rfl rfl (QOp.fieldI rfl rfl (tok _ rfl) rfl rfl (by decide) rfl) ?_)
  first | (refine ASeq.q rfl rfl (QOp.loadI rfl rfl (tok _ rfl) rfl) ?_) | (refine ASeq.q rfl rfl (QOp.loadM 0 rfl rfl rfl (tok _ rfl) rfl) ?_) | (refine ASeq.q rfl rfl (QOp.loadM 1 rfl rfl rfl (tok _ rfl) rfl) ?_) | (refine ASeq.q rfl rfl (QOp.loadM 2 rfl rfl rfl (tok _ rfl) rfl) ?_) | (refine ASeq.q rfl rfl (QOp.loadM 3 rfl rfl rfl (tok _ rfl) rfl) ?_) | (refine ASeq.q rfl rfl (QOp.loadM 4 rfl rfl rfl (tok _ rfl) rfl) ?_) | (refine ASeq.q rfl rfl (QOp.loadM 5 rfl rfl rfl (tok _ rfl) rfl) ?_) | (refine ASeq.q rfl rfl (QOp.loadM 6 rfl rfl rfl (tok _ rfl) rfl) ?_) | (refine ASeq.q rfl rfl (QOp.loadM 7 rfl rfl rfl (tok _ rfl) rfl) ?_) | (refine ASeq.q rfl rfl (QOp.loadM 8 rfl rfl rfl (tok _ rfl) rfl) ?_) | (refine ASeq.q rfl rfl (QOp.loadM 9 rfl rfl rfl (tok _ rfl) rfl) ?_) | (refine ASeq.q rfl rfl (QOp.loadM 10 rfl rfl rfl (tok _ rfl) rfl) ?_) | (refine ASeq.q rfl rfl (QOp.loadM 11 rfl rfl rfl (tok _ rfl) rfl) ?_) | (refine ASeq.q rfl rfl (QOp.loadM 12 rfl rfl rfl (tok _ rfl) rfl) ?_) | (refine ASeq.q rfl rfl (QOp.loadM 13 rfl rfl rfl (tok _ rfl) rfl) ?_) | (refine ASeq.q rfl rfl (QOp.loadM 14 rfl rfl rfl (tok _ rfl) rfl) ?_) | (refine ASeq.q rfl rfl (QOp.loadM 15 rfl rfl rfl (tok _ rfl) rfl) ?_) | (refine ASeq.q rfl rfl (QOp.loadAt 0 rfl rfl rfl (tok _ rfl) rfl (by assumption)) ?_) | (refine ASeq.q rfl rfl (QOp.loadAt 1 rfl rfl rfl (tok _ rfl) rfl (by assumption)) ?_) | (refine ASeq.q rfl rfl (QOp.loadAt 2 rfl rfl rfl (tok _ rfl) rfl (by assumption)) ?_) | (refine ASeq.q rfl rfl (QOp.loadAt 3 rfl rfl rfl (tok _ rfl) rfl (by assumption)) ?_) | (refine ASeq.q rfl rfl (QOp.loadAt 4 rfl rfl rfl (tok _ rfl) rfl (by assumption)) ?_) | (refine ASeq.q rfl rfl (QOp.loadAt 5 rfl rfl rfl (tok _ rfl) rfl (by assumption)) ?_)
  first | (refine ASeq.q rfl rfl (QOp.lenI rfl rfl (tok _ rfl) rfl) ?_) | (refine ASeq.q rfl rfl (QOp.lenM rfl rfl (tok _ rfl) rfl) ?_) | (refine ASeq.q rfl rfl (QOp.lenS rfl rfl (tok _ rfl) rfl) ?_) | (refine ASeq.q rfl rfl (QOp.lenN rfl rfl (tok _ rfl) rfl) ?_)
  refine ASeq.q rfl rfl (QOp.move rfl rfl) ?_
  refine ASeq.nil ?_
  repeat (first | (refine ACode.seq ?_) | (refine ACode.region ?_) | (refine ACode.ret ?_) | (refine ACode.skip ?_) | (refine ACode.exit ?_) | (refine ACode.block ?_) | (refine AExit.then_normal ?_) | (refine AExit.then_ret ?_) | (refine AExit.then_exit ?_) | (refine AExit.in_normal ?_) | (refine AExit.in_ret ?_) | (refine AExit.in_same ?_) | (refine AExit.in_other rfl ?_) | (refine ASeq.nil ?_))
  refine ACode.loopP (fun (x : Nat × List Pl) => [(1, .mp m1 0), (3, .sl 4 mP 0 t.stmts.length), (11, vi ((t.funcs.map Fu.cells).length : Int)), (12, vi x.1)])
    (fun x => [.mu mP (pcells x.2), .mu m1 t.cells]) (fun x => t.funcs.length - x.1)
    (fun x => x.1 ≤ t.funcs.length ∧ x.2.length = t.stmts.length ∧ ∀ k d, k < x.1 → InF t k d → x.2[d.i.toNat]? = some (plOf d))
    (0, List.replicate t.stmts.length ⟨[], 0, 0, 0⟩) ⟨Nat.zero_le _, by simp, fun k d hk => by omega⟩ (.cons rfl (.cons (by rw [← hSl]; rfl) (.cons rfl (.cons rfl .nil)))) 2 rfl ?_
  rintro ⟨i, P0⟩ ⟨hi, hl, hall⟩
  dsimp only at hi hl hall
  repeat (first | (refine ACode.seq ?_) | (refine ACode.region ?_) | (refine ACode.ret ?_) | (refine ACode.skip ?_) | (refine ACode.exit ?_) | (refine ACode.block ?_) | (refine AExit.then_normal ?_) | (refine AExit.then_ret ?_) | (refine AExit.then_exit ?_) | (refine AExit.in_normal ?_) | (refine AExit.in_ret ?_) | (refine AExit.in_same ?_) | (refine AExit.in_other rfl ?_) | (refine ASeq.nil ?_))
  refine ASeq.q rfl rfl (QOp.cmp rfl rfl rfl rfl) ?_
  refine ASeq.nil ?_
  refine ACode.seq ?_
  refine ACode.cond _ rfl (fun hb => ?_) (fun hb => ?_)
  · have hlt : i < t.funcs.length := by have := of_decide_eq_true hb; rw [hFl] at this; omega
    have hgi := fu_at hlt
    have hgk : t.funcs[i]? = some t.funcs[i] := List.getElem?_eq_getElem hlt
    have hbody := hR.body i _ hgk
    have hs := lays (R (i + 1)) t P0 mP t.funcs[i].body (-1) (-1) (-1) (-1) (R i) (R (i + 1)) ht hbody (Nat.le_refl _) hl
    repeat (first | (refine ACode.seq ?_) | (refine ACode.region ?_) | (refine ACode.ret ?_) | (refine ACode.skip ?_) | (refine ACode.exit ?_) | (refine ACode.block ?_) | (refine AExit.then_normal ?_) | (refine AExit.then_ret ?_) | (refine AExit.then_exit ?_) | (refine AExit.in_normal ?_) | (refine AExit.in_ret ?_) | (refine AExit.in_same ?_) | (refine AExit.in_other rfl ?_) | (refine ASeq.nil ?_))
    refine ASeq.q rfl rfl (QOp.move rfl rfl) ?_
    refine ASeq.q rfl rfl (QOp.assign rfl rfl) ?_
    refine ASeq.nil ?_
    repeat (first | (refine ACode.seq ?_) | (refine ACode.region ?_) | (refine ACode.ret ?_) | (refine ACode.skip ?_) | (refine ACode.exit ?_) | (refine ACode.block ?_) | (refine AExit.then_normal ?_) | (refine AExit.then_ret ?_) | (refine AExit.then_exit ?_) | (refine AExit.in_normal ?_) | (refine AExit.in_ret ?_) | (refine AExit.in_same ?_) | (refine AExit.in_other rfl ?_) | (refine ASeq.nil ?_))
    refine ACode.drawn [[], [], [], [2], [], [2, 3, 4], [2, 3, 4, 5], [2, 3, 4, 5, 6], [0, 1, 2, 3, 4, 5, 6, 7], [0, 1, 2, 3, 4, 5, 6, 7, 8]] (by kernel_rfl) mixed ?_
    first | (refine DAny.qu 0 rfl rfl (by kernel_rfl) rfl (fun _ => .does _ _ rfl (.none rfl) (QOp.loadI rfl rfl (tok _ rfl) rfl)) ?_) | (refine DAny.ld 0 rfl rfl (by kernel_rfl) rfl (.does _ _ rfl (.none rfl) (QOp.loadM 0 rfl rfl rfl (tok _ rfl) rfl)) ?_) | (refine DAny.ld 0 rfl rfl (by kernel_rfl) rfl (.does _ _ rfl (.none rfl) (QOp.loadM 1 rfl rfl rfl (tok _ rfl) rfl)) ?_) | (refine DAny.ld 0 rfl rfl (by kernel_rfl) rfl (.does _ _ rfl (.none rfl) (QOp.loadM 2 rfl rfl rfl (tok _ rfl) rfl)) ?_) | (refine DAny.ld 0 rfl rfl (by kernel_rfl) rfl (.does _ _ rfl (.none rfl) (QOp.loadM 3 rfl rfl rfl (tok _ rfl) rfl)) ?_) | (refine DAny.ld 0 rfl rfl (by kernel_rfl) rfl (.does _ _ rfl (.none rfl) (QOp.loadM 4 rfl rfl rfl (tok _ rfl) rfl)) ?_) | (refine DAny.ld 0 rfl rfl (by kernel_rfl) rfl (.does _ _ rfl (.none rfl) (QOp.loadM 5 rfl rfl rfl (tok _ rfl) rfl)) ?_) | (refine DAny.ld 0 rfl rfl (by kernel_rfl) rfl (.does _ _ rfl (.none rfl) (QOp.loadM 6 rfl rfl rfl (tok _ rfl) rfl)) ?_) | (refine DAny.ld 0 rfl rfl (by kernel_rfl) rfl (.does _ _ rfl (.none rfl) (QOp.loadM 7 rfl rfl rfl (tok _ rfl) rfl)) ?_) | (refine DAny.ld 0 rfl rfl (by kernel_rfl) rfl (.does _ _ rfl (.none rfl) (QOp.loadM 8 rfl rfl rfl (tok _ rfl) rfl)) ?_) | (refine DAny.ld 0 rfl rfl (by kernel_rfl) rfl (.does _ _ rfl (.none rfl) (QOp.loadM 9 rfl rfl rfl (tok _ rfl) rfl)) ?_) | (refine DAny.ld 0 rfl rfl (by kernel_rfl) rfl (.does _ _ rfl (.none rfl) (QOp.loadM 10 rfl rfl rfl (tok _ rfl) rfl)) ?_) | (refine DAny.ld 0 rfl rfl (by kernel_rfl) rfl (.does _ _ rfl (.none rfl) (QOp.loadM 11 rfl rfl rfl (tok _ rfl) rfl)) ?_) | (refine DAny.ld 0 rfl rfl (by kernel_rfl) rfl (.does _ _ rfl (.none rfl) (QOp.loadM 12 rfl rfl rfl (tok _ rfl) rfl)) ?_) | (refine DAny.ld 0 rfl rfl (by kernel_rfl) rfl (.does _ _ rfl (.none rfl) (QOp.loadM 13 rfl rfl rfl (tok _ rfl) rfl)) ?_) | (refine DAny.ld 0 rfl rfl (by kernel_rfl) rfl (.does _ _ rfl (.none rfl) (QOp.loadM 14 rfl rfl rfl (tok _ rfl) rfl)) ?_) | (refine DAny.ld 0 rfl rfl (by kernel_rfl) rfl (.does _ _ rfl (.none rfl) (QOp.loadM 15 rfl rfl rfl (tok _ rfl) rfl)) ?_) | (refine DAny.ld 0 rfl rfl (by kernel_rfl) rfl (.does _ _ rfl (.none rfl) (QOp.loadAt 0 rfl rfl rfl (tok _ rfl) rfl (by assumption))) ?_) | (refine DAny.ld 0 rfl rfl (by kernel_rfl) rfl (.does _ _ rfl (.none rfl) (QOp.loadAt 1 rfl rfl rfl (tok _ rfl) rfl (by assumption))) ?_) | (refine DAny.ld 0 rfl rfl (by kernel_rfl) rfl (.does _ _ rfl (.none rfl) (QOp.loadAt 2 rfl rfl rfl (tok _ rfl) rfl (by assumption))) ?_) | (refine DAny.ld 0 rfl rfl (by kernel_rfl) rfl (.does _ _ rfl (.none rfl) (QOp.loadAt 3 rfl rfl rfl (tok _ rfl) rfl (by assumption))) ?_) | (refine DAny.ld 0 rfl rfl (by kernel_rfl) rfl (.does _ _ rfl (.none rfl) (QOp.loadAt 4 rfl rfl rfl (tok _ rfl) rfl (by assumption))) ?_) | (refine DAny.ld 0 rfl rfl (by kernel_rfl) rfl (.does _ _ rfl (.none rfl) (QOp.loadAt 5 rfl rfl rfl (tok _ rfl) rfl (by assumption))) ?_)
    refine DAny.qu 1 rfl rfl (by kernel_rfl) rfl (fun _ => .does _ _ rfl (.none rfl) (QOp.move rfl rfl)) ?_
    first | (refine DAny.qu 2 rfl rfl (by kernel_rfl) rfl (fun _ => .does _ _ rfl (.none rfl) (QOp.fieldM rfl rfl (tok _ rfl) rfl rfl (by decide) rfl)) ?_) | (refine DAny.qu 2 rfl rfl (by kernel_rfl) rfl (fun _ => .does _ _ rfl (.none rfl) (QOp.fieldI rfl rfl (tok _ rfl) rfl rfl (by decide) rfl)) ?_)
    first | (refine DAny.qu 3 rfl rfl (by kernel_rfl) rfl (fun _ => .does _ _ rfl (.none rfl) (QOp.loadI rfl rfl (tok _ rfl) rfl)) ?_) | (refine DAny.ld 3 rfl rfl (by kernel_rfl) rfl (.does _ _ rfl (.none rfl) (QOp.loadM 0 rfl rfl rfl (tok _ rfl) rfl)) ?_) | (refine DAny.ld 3 rfl rfl (by kernel_rfl) rfl (.does _ _ rfl (.none rfl) (QOp.loadM 1 rfl rfl rfl (tok _ rfl) rfl)) ?_) | (refine DAny.ld 3 rfl rfl (by kernel_rfl) rfl (.does _ _ rfl (.none rfl) (QOp.loadM 2 rfl rfl rfl (tok _ rfl) rfl)) ?_) | (refine DAny.ld 3 rfl rfl (by kernel_rfl) rfl (.does _ _ rfl (.none rfl) (QOp.loadM 3 rfl rfl rfl (tok _ rfl) rfl)) ?_) | (refine DAny.ld 3 rfl rfl (by kernel_rfl) rfl (.does _ _ rfl (.none rfl) (QOp.loadM 4 rfl rfl rfl (tok _ rfl) rfl)) ?_) | (refine DAny.ld 3 rfl rfl (by kernel_rfl) rfl (.does _ _ rfl (.none rfl) (QOp.loadM 5 rfl rfl rfl (tok _ rfl) rfl)) ?_) | (refine DAny.ld 3 rfl rfl (by kernel_rfl) rfl (.does _ _ rfl (.none rfl) (QOp.loadM 6 rfl rfl rfl (tok _ rfl) rfl)) ?_) | (refine DAny.ld 3 rfl rfl (by kernel_rfl) rfl (.does _ _ rfl (.none rfl) (QOp.loadM 7 rfl rfl rfl (tok _ rfl) rfl)) ?_) | (refine DAny.ld 3 rfl rfl (by kernel_rfl) rfl (.does _ _ rfl (.none rfl) (QOp.loadM 8 rfl rfl rfl (tok _ rfl) rfl)) ?_) | (refine DAny.ld 3 rfl rfl (by kernel_rfl) rfl (.does _ _ rfl (.none rfl) (QOp.loadM 9 rfl rfl rfl (tok _ rfl) rfl)) ?_) | (refine DAny.ld 3 rfl rfl (by kernel_rfl) rfl (.does _ _ rfl (.none rfl) (QOp.loadM 10 rfl rfl rfl (tok _ rfl) rfl)) ?_) | (refine DAny.ld 3 rfl rfl (by kernel_rfl) rfl (.does _ _ rfl (.none rfl) (QOp.loadM 11 rfl rfl rfl (tok _ rfl) rfl)) ?_) | (refine DAny.ld 3 rfl rfl (by kernel_rfl) rfl (.does _ _ rfl (.none rfl) (QOp.loadM 12 rfl rfl rfl (tok _ rfl) rfl)) ?_) | (refine DAny.ld 3 rfl rfl (by kernel_rfl) rfl (.does _ _ rfl (.none rfl) (QOp.loadM 13 rfl rfl rfl (tok _ rfl) rfl)) ?_) | (refine DAny.ld 3 rfl rfl (by kernel_rfl) rfl (.does _ _ rfl (.none rfl) (QOp.loadM 14 rfl rfl rfl (tok _ rfl) rfl)) ?_) | (refine DAny.ld 3 rfl rfl (by kernel_rfl) rfl (.does _ _ rfl (.none rfl) (QOp.loadM 15 rfl rfl rfl (tok _ rfl) rfl)) ?_) | (refine DAny.ld 3 rfl rfl (by kernel_rfl) rfl (.does _ _ rfl (.none rfl) (QOp.loadAt 0 rfl rfl rfl (tok _ rfl) rfl (by assumption))) ?_) | (refine DAny.ld 3 rfl rfl (by kernel_rfl) rfl (.does _ _ rfl (.none rfl) (QOp.loadAt 1 rfl rfl rfl (tok _ rfl) rfl (by assumption))) ?_) | (refine DAny.ld 3 rfl rfl (by kernel_rfl) rfl (.does _ _ rfl (.none rfl) (QOp.loadAt 2 rfl rfl rfl (tok _ rfl) rfl (by assumption))) ?_) | (refine DAny.ld 3 rfl rfl (by kernel_rfl) rfl (.does _ _ rfl (.none rfl) (QOp.loadAt 3 rfl rfl rfl (tok _ rfl) rfl (by assumption))) ?_) | (refine DAny.ld 3 rfl rfl (by kernel_rfl) rfl (.does _ _ rfl (.none rfl) (QOp.loadAt 4 rfl rfl rfl (tok _ rfl) rfl (by assumption))) ?_) | (refine DAny.ld 3 rfl rfl (by kernel_rfl) rfl (.does _ _ rfl (.none rfl) (QOp.loadAt 5 rfl rfl rfl (tok _ rfl) rfl (by assumption))) ?_)
    refine DAny.qu 4 rfl rfl (by kernel_rfl) rfl (fun _ => .does _ _ rfl (.none rfl) (QOp.move rfl rfl)) ?_
    first | (refine DAny.qu 5 rfl rfl (by kernel_rfl) rfl (fun _ => .does _ _ rfl (.none rfl) (QOp.indexI rfl rfl rfl (tok _ rfl) rfl (tok _ rfl) (by first | (decide) | (omega)) (by first | (rfl) | (assumption)))) ?_) | (refine DAny.qu 5 rfl rfl (by kernel_rfl) rfl (fun _ => .does _ _ rfl (.none rfl) (QOp.indexM rfl rfl rfl (tok _ rfl) rfl (tok _ rfl) (by first | (decide) | (omega)) (by first | (decide) | (omega)) rfl)) ?_)
    first | (refine DAny.qu 6 rfl rfl (by kernel_rfl) rfl (fun _ => .does _ _ rfl (.none rfl) (QOp.fieldM rfl rfl (tok _ rfl) rfl rfl (by decide) rfl)) ?_) | (refine DAny.qu 6 rfl rfl (by kernel_rfl) rfl (fun _ => .does _ _ rfl (.none rfl) (QOp.fieldI rfl rfl (tok _ rfl) rfl rfl (by decide) rfl)) ?_)
    first | (refine DAny.qu 7 rfl rfl (by kernel_rfl) rfl (fun _ => .does _ _ rfl (.none rfl) (QOp.loadI rfl rfl (tok _ rfl) rfl)) ?_) | (refine DAny.ld 7 rfl rfl (by kernel_rfl) rfl (.does _ _ rfl (.none rfl) (QOp.loadM 0 rfl rfl rfl (tok _ rfl) rfl)) ?_) | (refine DAny.ld 7 rfl rfl (by kernel_rfl) rfl (.does _ _ rfl (.none rfl) (QOp.loadM 1 rfl rfl rfl (tok _ rfl) rfl)) ?_) | (refine DAny.ld 7 rfl rfl (by kernel_rfl) rfl (.does _ _ rfl (.none rfl) (QOp.loadM 2 rfl rfl rfl (tok _ rfl) rfl)) ?_) | (refine DAny.ld 7 rfl rfl (by kernel_rfl) rfl (.does _ _ rfl (.none rfl) (QOp.loadM 3 rfl rfl rfl (tok _ rfl) rfl)) ?_) | (refine DAny.ld 7 rfl rfl (by kernel_rfl) rfl (.does _ _ rfl (.none rfl) (QOp.loadM 4 rfl rfl rfl (tok _ rfl) rfl)) ?_) | (refine DAny.ld 7 rfl rfl (by kernel_rfl) rfl (.does _ _ rfl (.none rfl) (QOp.loadM 5 rfl rfl rfl (tok _ rfl) rfl)) ?_) | (refine DAny.ld 7 rfl rfl (by kernel_rfl) rfl (.does _ _ rfl (.none rfl) (QOp.loadM 6 rfl rfl rfl (tok _ rfl) rfl)) ?_) | (refine DAny.ld 7 rfl rfl (by kernel_rfl) rfl (.does _ _ rfl (.none rfl) (QOp.loadM 7 rfl rfl rfl (tok _ rfl) rfl)) ?_) | (refine DAny.ld 7 rfl rfl (by kernel_rfl) rfl (.does _ _ rfl (.none rfl) (QOp.loadM 8 rfl rfl rfl (tok _ rfl) rfl)) ?_) | (refine DAny.ld 7 rfl rfl (by kernel_rfl) rfl (.does _ _ rfl (.none rfl) (QOp.loadM 9 rfl rfl rfl (tok _ rfl) rfl)) ?_) | (refine DAny.ld 7 rfl rfl (by kernel_rfl) rfl (.does _ _ rfl (.none rfl) (QOp.loadM 10 rfl rfl rfl (tok _ rfl) rfl)) ?_) | (refine DAny.ld 7 rfl rfl (by kernel_rfl) rfl (.does _ _ rfl (.none rfl) (QOp.loadM 11 rfl rfl rfl (tok _ rfl) rfl)) ?_) | (refine DAny.ld 7 rfl rfl (by kernel_rfl) rfl (.does _ _ rfl (.none rfl) (QOp.loadM 12 rfl rfl rfl (tok _ rfl) rfl)) ?_) | (refine DAny.ld 7 rfl rfl (by kernel_rfl) rfl (.does _ _ rfl (.none rfl) (QOp.loadM 13 rfl rfl rfl (tok _ rfl) rfl)) ?_) | (refine DAny.ld 7 rfl rfl (by kernel_rfl) rfl (.does _ _ rfl (.none rfl) (QOp.loadM 14 rfl rfl rfl (tok _ rfl) rfl)) ?_) | (refine DAny.ld 7 rfl rfl (by kernel_rfl) rfl (.does _ _ rfl (.none rfl) (QOp.loadM 15 rfl rfl rfl (tok _ rfl) rfl)) ?_) | (refine DAny.ld 7 rfl rfl (by kernel_rfl) rfl (.does _ _ rfl (.none rfl) (QOp.loadAt 0 rfl rfl rfl (tok _ rfl) rfl (by assumption))) ?_) | (refine DAny.ld 7 rfl rfl (by kernel_rfl) rfl (.does _ _ rfl (.none rfl) (QOp.loadAt 1 rfl rfl rfl (tok _ rfl) rfl (by assumption))) ?_) | (refine DAny.ld 7 rfl rfl (by kernel_rfl) rfl (.does _ _ rfl (.none rfl) (QOp.loadAt 2 rfl rfl rfl (tok _ rfl) rfl (by assumption))) ?_) | (refine DAny.ld 7 rfl rfl (by kernel_rfl) rfl (.does _ _ rfl (.none rfl) (QOp.loadAt 3 rfl rfl rfl (tok _ rfl) rfl (by assumption))) ?_) | (refine DAny.ld 7 rfl rfl (by kernel_rfl) rfl (.does _ _ rfl (.none rfl) (QOp.loadAt 4 rfl rfl rfl (tok _ rfl) rfl (by assumption))) ?_) | (refine DAny.ld 7 rfl rfl (by kernel_rfl) rfl (.does _ _ rfl (.none rfl) (QOp.loadAt 5 rfl rfl rfl (tok _ rfl) rfl (by assumption))) ?_)
    refine DAny.ef 8 rfl (by kernel_rfl) (.none rfl) rfl rfl (AOp.callP 1 rfl (by kernel_rfl) rfl rfl rfl (hs) ?_ (by rintro _ _ ⟨⟩))
    rintro _ _ ⟨P, hP⟩
    refine ⟨(by repeat (first | (exact AllQ.nil) | (refine AllQ.cons (.does _ _ rfl (.none rfl) (QOp.loadM 0 rfl rfl rfl (tok _ rfl) rfl)) ?_) | (refine AllQ.cons (.does _ _ rfl (.none rfl) (QOp.loadM 1 rfl rfl rfl (tok _ rfl) rfl)) ?_) | (refine AllQ.cons (.does _ _ rfl (.none rfl) (QOp.loadM 2 rfl rfl rfl (tok _ rfl) rfl)) ?_) | (refine AllQ.cons (.does _ _ rfl (.none rfl) (QOp.loadM 3 rfl rfl rfl (tok _ rfl) rfl)) ?_) | (refine AllQ.cons (.does _ _ rfl (.none rfl) (QOp.loadM 4 rfl rfl rfl (tok _ rfl) rfl)) ?_) | (refine AllQ.cons (.does _ _ rfl (.none rfl) (QOp.loadM 5 rfl rfl rfl (tok _ rfl) rfl)) ?_) | (refine AllQ.cons (.does _ _ rfl (.none rfl) (QOp.loadM 6 rfl rfl rfl (tok _ rfl) rfl)) ?_) | (refine AllQ.cons (.does _ _ rfl (.none rfl) (QOp.loadM 7 rfl rfl rfl (tok _ rfl) rfl)) ?_) | (refine AllQ.cons (.does _ _ rfl (.none rfl) (QOp.loadM 8 rfl rfl rfl (tok _ rfl) rfl)) ?_) | (refine AllQ.cons (.does _ _ rfl (.none rfl) (QOp.loadM 9 rfl rfl rfl (tok _ rfl) rfl)) ?_) | (refine AllQ.cons (.does _ _ rfl (.none rfl) (QOp.loadM 10 rfl rfl rfl (tok _ rfl) rfl)) ?_) | (refine AllQ.cons (.does _ _ rfl (.none rfl) (QOp.loadM 11 rfl rfl rfl (tok _ rfl) rfl)) ?_) | (refine AllQ.cons (.does _ _ rfl (.none rfl) (QOp.loadM 12 rfl rfl rfl (tok _ rfl) rfl)) ?_) | (refine AllQ.cons (.does _ _ rfl (.none rfl) (QOp.loadM 13 rfl rfl rfl (tok _ rfl) rfl)) ?_) | (refine AllQ.cons (.does _ _ rfl (.none rfl) (QOp.loadM 14 rfl rfl rfl (tok _ rfl) rfl)) ?_) | (refine AllQ.cons (.does _ _ rfl (.none rfl) (QOp.loadM 15 rfl rfl rfl (tok _ rfl) rfl)) ?_) | (refine AllQ.cons (.does _ _ rfl (.none rfl) (QOp.loadAt 0 rfl rfl rfl (tok _ rfl) rfl (by assumption))) ?_) | (refine AllQ.cons (.does _ _ rfl (.none rfl) (QOp.loadAt 1 rfl rfl rfl (tok _ rfl) rfl (by assumption))) ?_) | (refine AllQ.cons (.does _ _ rfl (.none rfl) (QOp.loadAt 2 rfl rfl rfl (tok _ rfl) rfl (by assumption))) ?_) | (refine AllQ.cons (.does _ _ rfl (.none rfl) (QOp.loadAt 3 rfl rfl rfl (tok _ rfl) rfl (by assumption))) ?_) | (refine AllQ.cons (.does _ _ rfl (.none rfl) (QOp.loadAt 4 rfl rfl rfl (tok _ rfl) rfl (by assumption))) ?_) | (refine AllQ.cons (.does _ _ rfl (.none rfl) (QOp.loadAt 5 rfl rfl rfl (tok _ rfl) rfl (by assumption))) ?_))), ?_⟩
    refine DAny.ef 9 rfl (by kernel_rfl) (.none rfl) rfl rfl (.q (QOp.assign rfl rfl) ⟨(by repeat (first | (exact AllQ.nil) | (refine AllQ.cons (.does _ _ rfl (.none rfl) (QOp.loadM 0 rfl rfl rfl (tok _ rfl) rfl)) ?_) | (refine AllQ.cons (.does _ _ rfl (.none rfl) (QOp.loadM 1 rfl rfl rfl (tok _ rfl) rfl)) ?_) | (refine AllQ.cons (.does _ _ rfl (.none rfl) (QOp.loadM 2 rfl rfl rfl (tok _ rfl) rfl)) ?_) | (refine AllQ.cons (.does _ _ rfl (.none rfl) (QOp.loadM 3 rfl rfl rfl (tok _ rfl) rfl)) ?_) | (refine AllQ.cons (.does _ _ rfl (.none rfl) (QOp.loadM 4 rfl rfl rfl (tok _ rfl) rfl)) ?_) | (refine AllQ.cons (.does _ _ rfl (.none rfl) (QOp.loadM 5 rfl rfl rfl (tok _ rfl) rfl)) ?_) | (refine AllQ.cons (.does _ _ rfl (.none rfl) (QOp.loadM 6 rfl rfl rfl (tok _ rfl) rfl)) ?_) | (refine AllQ.cons (.does _ _ rfl (.none rfl) (QOp.loadM 7 rfl rfl rfl (tok _ rfl) rfl)) ?_) | (refine AllQ.cons (.does _ _ rfl (.none rfl) (QOp.loadM 8 rfl rfl rfl (tok _ rfl) rfl)) ?_) | (refine AllQ.cons (.does _ _ rfl (.none rfl) (QOp.loadM 9 rfl rfl rfl (tok _ rfl) rfl)) ?_) | (refine AllQ.cons (.does _ _ rfl (.none rfl) (QOp.loadM 10 rfl rfl rfl (tok _ rfl) rfl)) ?_) | (refine AllQ.cons (.does _ _ rfl (.none rfl) (QOp.loadM 11 rfl rfl rfl (tok _ rfl) rfl)) ?_) | (refine AllQ.cons (.does _ _ rfl (.none rfl) (QOp.loadM 12 rfl rfl rfl (tok _ rfl) rfl)) ?_) | (refine AllQ.cons (.does _ _ rfl (.none rfl) (QOp.loadM 13 rfl rfl rfl (tok _ rfl) rfl)) ?_) | (refine AllQ.cons (.does _ _ rfl (.none rfl) (QOp.loadM 14 rfl rfl rfl (tok _ rfl) rfl)) ?_) | (refine AllQ.cons (.does _ _ rfl (.none rfl) (QOp.loadM 15 rfl rfl rfl (tok _ rfl) rfl)) ?_) | (refine AllQ.cons (.does _ _ rfl (.none rfl) (QOp.loadAt 0 rfl rfl rfl (tok _ rfl) rfl (by assumption))) ?_) | (refine AllQ.cons (.does _ _ rfl (.none rfl) (QOp.loadAt 1 rfl rfl rfl (tok _ rfl) rfl (by assumption))) ?_) | (refine AllQ.cons (.does _ _ rfl (.none rfl) (QOp.loadAt 2 rfl rfl rfl (tok _ rfl) rfl (by assumption))) ?_) | (refine AllQ.cons (.does _ _ rfl (.none rfl) (QOp.loadAt 3 rfl rfl rfl (tok _ rfl) rfl (by assumption))) ?_) | (refine AllQ.cons (.does _ _ rfl (.none rfl) (QOp.loadAt 4 rfl rfl rfl (tok _ rfl) rfl (by assumption))) ?_) | (refine AllQ.cons (.does _ _ rfl (.none rfl) (QOp.loadAt 5 rfl rfl rfl (tok _ rfl) rfl (by assumption))) ?_))), ?_⟩)
    refine DAny.done (by kernel_rfl) ?_
    repeat (first | (refine ACode.seq ?_) | (refine ACode.region ?_) | (refine ACode.ret ?_) | (refine ACode.skip ?_) | (refine ACode.exit ?_) | (refine ACode.block ?_) | (refine AExit.then_normal ?_) | (refine AExit.then_ret ?_) | (refine AExit.then_exit ?_) | (refine AExit.in_normal ?_) | (refine AExit.in_ret ?_) | (refine AExit.in_same ?_) | (refine AExit.in_other rfl ?_) | (refine ASeq.nil ?_))
    refine ASeq.q rfl rfl (QOp.ar64 rfl rfl rfl rfl ⟨by first | (omega) | (simp only [List.length_append, List.length_map, List.length_cons, List.length_nil]; omega), by first | (omega) | (simp only [List.length_append, List.length_map, List.length_cons, List.length_nil]; omega)⟩) ?_
    refine ASeq.q rfl rfl (QOp.move rfl rfl) ?_
    refine ASeq.nil ?_
    repeat (first | (refine ACode.seq ?_) | (refine ACode.region ?_) | (refine ACode.ret ?_) | (refine ACode.skip ?_) | (refine ACode.exit ?_) | (refine ACode.block ?_) | (refine AExit.then_normal ?_) | (refine AExit.then_ret ?_) | (refine AExit.then_exit ?_) | (refine AExit.in_normal ?_) | (refine AExit.in_ret ?_) | (refine AExit.in_same ?_) | (refine AExit.in_other rfl ?_) | (refine ASeq.nil ?_))
    refine ⟨(i + 1, P), 2, ⟨hlt, hP.len.trans hl, fun k d hk hin => ?_⟩, by dsimp only; omega, .cons rfl (.cons rfl (.cons rfl (.cons rfl .nil))), rfl⟩
    by_cases hki : k = i
    · subst hki
      obtain ⟨g, j, h1, h2, h3⟩ := hin
      rw [hgk] at h1
      cases h1
      exact hP.all d ⟨j, h2, h3⟩
    · have hlt' : k < i := by omega
      obtain ⟨lo, o1, o2, o3, o4⟩ := hR.own hin
      have := hR.mono (k + 1) i (by omega)
      have := o1.i0
      dsimp only
      rw [hP.rest _ (.inl (by omega))]
      exact hall k d hlt' hin
  · have hge : i = t.funcs.length := by have := of_decide_eq_false hb; rw [hFl] at this; omega
    repeat (first | (refine ACode.seq ?_) | (refine ACode.region ?_) | (refine ACode.ret ?_) | (refine ACode.skip ?_) | (refine ACode.exit ?_) | (refine ACode.block ?_) | (refine AExit.then_normal ?_) | (refine AExit.then_ret ?_) | (refine AExit.then_exit ?_) | (refine AExit.in_normal ?_) | (refine AExit.in_ret ?_) | (refine AExit.in_same ?_) | (refine AExit.in_other rfl ?_) | (refine ASeq.nil ?_))
    refine ASeq.q rfl rfl (QOp.move rfl rfl) ?_
    refine ASeq.q rfl rfl (QOp.assign rfl rfl) ?_
    refine ASeq.nil ?_
    repeat (first | (refine ACode.seq ?_) | (refine ACode.region ?_) | (refine ACode.ret ?_) | (refine ACode.skip ?_) | (refine ACode.exit ?_) | (refine ACode.block ?_) | (refine AExit.then_normal ?_) | (refine AExit.then_ret ?_) | (refine AExit.then_exit ?_) | (refine AExit.in_normal ?_) | (refine AExit.in_ret ?_) | (refine AExit.in_same ?_) | (refine AExit.in_other rfl ?_) | (refine ASeq.nil ?_))
    refine bodyQ_ret 1 (.tmp rfl .nil) rfl ?_
    exact .mk mP P0 ⟨hl, fun k d hin => by
      obtain ⟨g, j, h1, h2, h3⟩ := hin
      exact hall k d (by rw [hge]; exact (List.getElem?_eq_some_iff.1 h1).1) ⟨g, j, h1, h2, h3⟩⟩
/-- what stands around a statement -/
structure CtxOk (t : Tree) (d : Ctx) : Prop where
  k0 : d.k < d.L.length
  Li : d.L.getD d.k 0 = d.i
  big : d.L.length ≤ 1048576
  inn : d.inn < 0 ∨ ∃ k e, InF t k e ∧ e.i = d.inn
  loop : d.loop < 0 ∨ ∃ k e, InF t k e ∧ e.i = d.loop ∧ e.behind = d.lb
theorem pl_get {P : List Pl} {i : Nat} {p : Pl} (h : P[i]? = some p) : (P.map Pl.cells)[i]? = some p.cells := by rw [List.getElem?_map, h]; rfl
/-- a statement's place, with all that stands around it -/
inductive Beh (t : Tree) (k : Nat) : Ctx → Prop
  | top {g : Fu} {j : Nat} (hg : t.funcs[k]? = some g) (hj : j < g.body.length) (hb : g.body.length ≤ 1048576) : Beh t k (topC g j)
  | thn {d : Ctx} {j : Nat} (h : Beh t k d) (hin : InF t k d) (hi : 0 ≤ d.i) (hj : j < (t.stm d.i).thn.length) (hb : (t.stm d.i).thn.length ≤ 1048576) : Beh t k (d.thn t j)
  | els {d : Ctx} {j : Nat} (h : Beh t k d) (hin : InF t k d) (hi : 0 ≤ d.i) (hj : j < (t.stm d.i).els.length) (hb : (t.stm d.i).els.length ≤ 1048576) : Beh t k (d.els t j)
theorem InF.beh {t : Tree} {R : Nat → Nat} (ht : TreeOk t) (hR : FR t R) {k : Nat} {d : Ctx} (h : InF t k d) : Beh t k d := by
  obtain ⟨g, j, hg, hj, ho⟩ := h
  have hm := List.mem_of_getElem? hg
  have key : ∀ e, Occ t (topC g j) e → Beh t k e := by
    intro e he
    have hst : ∀ e, Occ t (topC g j) e → 0 ≤ e.i ∧ (t.stm e.i).thn.length ≤ 1048576 ∧ (t.stm e.i).els.length ≤ 1048576 := fun e he => by
      obtain ⟨lo, o1, _, _, o4⟩ := hR.own (k := k) ⟨g, j, hg, hj, he⟩
      have i0 := o1.i0
      have := ht.st e.i.toNat (t.stm e.i) (by simp only [Tree.stm, List.getD_eq_getElem?_getD]; rw [List.getElem?_eq_getElem (by omega)]; rfl)
      exact ⟨i0, this.2.2.2.2.2.1, this.2.2.2.2.2.2⟩
    induction he with
    | self => exact .top hg hj (ht.fu g hm).2.1
    | thn h k' hk ih => exact .thn ih ⟨g, j, hg, hj, h⟩ (hst _ h).1 hk (hst _ h).2.1
    | els h k' hk ih => exact .els ih ⟨g, j, hg, hj, h⟩ (hst _ h).1 hk (hst _ h).2.2
  exact key d ho
theorem Beh.ok {t : Tree} {k : Nat} {d : Ctx} (h : Beh t k d) : CtxOk t d := by
  have sub : ∀ (d : Ctx) (M : List Int) (j : Nat), CtxOk t d → InF t k d → j < M.length → M.length ≤ 1048576 → CtxOk t (d.sub t M j) := by
    intro d M j h hin hj hb
    unfold Ctx.sub
    split
    · exact ⟨hj, rfl, hb, .inr ⟨k, d, hin, rfl⟩, .inr ⟨k, d, hin, rfl, rfl⟩⟩
    · exact ⟨hj, rfl, hb, .inr ⟨k, d, hin, rfl⟩, h.loop⟩
  induction h with
  | top hg hj hb => exact ⟨hj, rfl, hb, .inl (by decide : (-1 : Int) < 0), .inl (by decide : (-1 : Int) < 0)⟩
  | thn h hin hi hj hb ih => exact sub _ _ _ ih hin hj hb
  | els h hin hi hj hb ih => exact sub _ _ _ ih hin hj hb
end Go.Proofs.Ytaadamobapnfbaa
/- ref07: Behind, Next, All. -/
set_option linter.unusedVariables false
set_option linter.unusedSimpArgs false
set_option maxRecDepth 100000
namespace Go.Proofs.Ytaadamobapnfbaa
open Go Go.Abs
theorem Beh.inF {t : Tree} {k : Nat} {d : Ctx} (h : Beh t k d) : InF t k d := by
  induction h with
  | top hg hj hb => exact ⟨_, _, hg, hj, .self⟩
  | thn h hin hi hj hb ih => obtain ⟨g, j, h1, h2, h3⟩ := hin; exact ⟨g, j, h1, h2, .thn h3 _ hj⟩
  | els h hin hi hj hb ih => obtain ⟨g, j, h1, h2, h3⟩ := hin; exact ⟨g, j, h1, h2, .els h3 _ hj⟩
def CBeh (t : Tree) (P : List Pl) (mP : Nat) (d : Ctx) : Prop :=
  ACalls Try.prog 46 [.agg t.cells, .sl 4 mP 0 t.stmts.length, vi d.i] [.mu mP (pcells P)] (RV (vi d.behind) [.mu mP (pcells P)])
theorem behind_step (t : Tree) (R : Nat → Nat) (ht : TreeOk t) (hR : FR t R) (P : List Pl) (mP : Nat) (hP : LaidOk t P) (k : Nat) (d : Ctx) (hB : Beh t k d) (hnx : d.k + 1 < d.L.length → d.behind = d.L.getD (d.k + 1) 0)
    (hlast : ¬ d.k + 1 < d.L.length → (d.inn < 0 ∧ d.behind = -1) ∨ (0 ≤ d.inn ∧ d.inn < t.stmts.length ∧ (t.stm d.inn).kind = 6 ∧ d.behind = d.inn) ∨ (0 ≤ d.inn ∧ d.inn < t.stmts.length ∧ (t.stm d.inn).kind ≠ 6 ∧ ∃ e, e.i = d.inn ∧ e.behind = d.behind ∧ CBeh t P mP e)) : CBeh t P mP d := by
  have hin := hB.inF
  have hok := hB.ok
  obtain ⟨lo, o1, o2, o3, o4⟩ := hR.own hin
  have i0 := o1.i0
  have hrow := hP.all k d hin
  have hPl := hP.len
  have hbig := ht.big
  have hk0 := hok.k0
  have hlb := hok.big
  have hil := ints_len d.L
  have hpl : (P.map Pl.cells)[d.i.toNat]? = some [.il 1 none (ints d.L), vi (d.k : Nat), vi d.inn, vi d.loop] := pl_get hrow
  unfold CBeh
  refine ACalls.of_code (c := _) Try.func46 rfl Try.ntmps46 (Nat.le_of_ble_eq_true rfl) ?_
  repeat (first | (refine ACode.seq ?_) | (refine ACode.region ?_) | (refine ACode.ret ?_) | (refine ACode.skip ?_) | (refine ACode.exit ?_) | (refine ACode.block ?_) | (refine AExit.then_normal ?_) | (refine AExit.then_ret ?_) | (refine AExit.then_exit ?_) | (refine AExit.in_normal ?_) | (refine AExit.in_ret ?_) | (refine AExit.in_same ?_) | (refine AExit.in_other rfl ?_) | (refine ASeq.nil ?_))
  refine ASeq.op rfl rfl (AOp.boxP rfl rfl rfl (fun _ => rfl) (fun _ => ?_))
  refine ASeq.q rfl rfl (QOp.assign rfl rfl) ?_
  refine ASeq.nil ?_
  rename_i m3
  repeat (first | (refine ACode.seq ?_) | (refine ACode.region ?_) | (refine ACode.ret ?_) | (refine ACode.skip ?_) | (refine ACode.exit ?_) | (refine ACode.block ?_) | (refine AExit.then_normal ?_) | (refine AExit.then_ret ?_) | (refine AExit.then_exit ?_) | (refine AExit.in_normal ?_) | (refine AExit.in_ret ?_) | (refine AExit.in_same ?_) | (refine AExit.in_other rfl ?_) | (refine ASeq.nil ?_))
  refine ASeq.q rfl rfl (QOp.move rfl rfl) ?_
  refine ASeq.q rfl rfl (QOp.move rfl rfl) ?_
  first | (refine ASeq.q rfl rfl (QOp.indexI rfl rfl rfl (tok _ rfl) rfl (tok _ rfl) (by first | (decide) | (omega)) (by first | (rfl) | (assumption))) ?_) | (refine ASeq.q rfl rfl (QOp.indexM rfl rfl rfl (tok _ rfl) rfl (tok _ rfl) (by first | (decide) | (omega)) (by first | (decide) | (omega)) rfl) ?_)
  refine ASeq.q rfl rfl (QOp.loadRow 0 (i := d.i.toNat) (row := [.il 1 none (ints d.L), vi (d.k : Nat), vi d.inn, vi d.loop]) rfl rfl rfl (tok _ rfl) rfl (pl_rows P) rfl hpl) ?_
  refine ASeq.op rfl rfl (AOp.allocP rfl (tok _ rfl) rfl rfl (fun _ => rfl) (fun _ => ?_))
  first | (refine ASeq.op0 rfl rfl (AOp.storeP 0 rfl rfl rfl rfl (tok _ rfl) rfl rfl rfl rfl ?_)) | (refine ASeq.op0 rfl rfl (AOp.storeP 1 rfl rfl rfl rfl (tok _ rfl) rfl rfl rfl rfl ?_)) | (refine ASeq.op0 rfl rfl (AOp.storeP 2 rfl rfl rfl rfl (tok _ rfl) rfl rfl rfl rfl ?_)) | (refine ASeq.op0 rfl rfl (AOp.storeP 3 rfl rfl rfl rfl (tok _ rfl) rfl rfl rfl rfl ?_)) | (refine ASeq.op0 rfl rfl (AOp.storeP 4 rfl rfl rfl rfl (tok _ rfl) rfl rfl rfl rfl ?_)) | (refine ASeq.op0 rfl rfl (AOp.storeP 5 rfl rfl rfl rfl (tok _ rfl) rfl rfl rfl rfl ?_)) | (refine ASeq.op0 rfl rfl (AOp.storeP 6 rfl rfl rfl rfl (tok _ rfl) rfl rfl rfl rfl ?_)) | (refine ASeq.op0 rfl rfl (AOp.storeP 7 rfl rfl rfl rfl (tok _ rfl) rfl rfl rfl rfl ?_)) | (refine ASeq.op0 rfl rfl (AOp.storeP 8 rfl rfl rfl rfl (tok _ rfl) rfl rfl rfl rfl ?_)) | (refine ASeq.op0 rfl rfl (AOp.storeP 9 rfl rfl rfl rfl (tok _ rfl) rfl rfl rfl rfl ?_)) | (refine ASeq.op0 rfl rfl (AOp.storeP 10 rfl rfl rfl rfl (tok _ rfl) rfl rfl rfl rfl ?_)) | (refine ASeq.op0 rfl rfl (AOp.storeP 11 rfl rfl rfl rfl (tok _ rfl) rfl rfl rfl rfl ?_)) | (refine ASeq.op0 rfl rfl (AOp.storeP 12 rfl rfl rfl rfl (tok _ rfl) rfl rfl rfl rfl ?_)) | (refine ASeq.op0 rfl rfl (AOp.storeP 13 rfl rfl rfl rfl (tok _ rfl) rfl rfl rfl rfl ?_)) | (refine ASeq.op0 rfl rfl (AOp.storeP 14 rfl rfl rfl rfl (tok _ rfl) rfl rfl rfl rfl ?_)) | (refine ASeq.op0 rfl rfl (AOp.storeP 15 rfl rfl rfl rfl (tok _ rfl) rfl rfl rfl rfl ?_))
  refine ASeq.nil ?_
  repeat (first | (refine ACode.seq ?_) | (refine ACode.region ?_) | (refine ACode.ret ?_) | (refine ACode.skip ?_) | (refine ACode.exit ?_) | (refine ACode.block ?_) | (refine AExit.then_normal ?_) | (refine AExit.then_ret ?_) | (refine AExit.then_exit ?_) | (refine AExit.in_normal ?_) | (refine AExit.in_ret ?_) | (refine AExit.in_same ?_) | (refine AExit.in_other rfl ?_) | (refine ASeq.nil ?_))
  first | (refine ASeq.q rfl rfl (QOp.fieldM rfl rfl (tok _ rfl) rfl rfl (by decide) rfl) ?_) | (refine ASeq.q rfl rfl (QOp.fieldI rfl rfl (tok _ rfl) rfl rfl (by decide) rfl) ?_)
  first | (refine ASeq.q rfl rfl (QOp.loadI rfl rfl (tok _ rfl) rfl) ?_) | (refine ASeq.q rfl rfl (QOp.loadM 0 rfl rfl rfl (tok _ rfl) rfl) ?_) | (refine ASeq.q rfl rfl (QOp.loadM 1 rfl rfl rfl (tok _ rfl) rfl) ?_) | (refine ASeq.q rfl rfl (QOp.loadM 2 rfl rfl rfl (tok _ rfl) rfl) ?_) | (refine ASeq.q rfl rfl (QOp.loadM 3 rfl rfl rfl (tok _ rfl) rfl) ?_) | (refine ASeq.q rfl rfl (QOp.loadM 4 rfl rfl rfl (tok _ rfl) rfl) ?_) | (refine ASeq.q rfl rfl (QOp.loadM 5 rfl rfl rfl (tok _ rfl) rfl) ?_) | (refine ASeq.q rfl rfl (QOp.loadM 6 rfl rfl rfl (tok _ rfl) rfl) ?_) | (refine ASeq.q rfl rfl (QOp.loadM 7 rfl rfl rfl (tok _ rfl) rfl) ?_) | (refine ASeq.q rfl rfl (QOp.loadM 8 rfl rfl rfl (tok _ rfl) rfl) ?_) | (refine ASeq.q rfl rfl (QOp.loadM 9 rfl rfl rfl (tok _ rfl) rfl) ?_) | (refine ASeq.q rfl rfl (QOp.loadM 10 rfl rfl rfl (tok _ rfl) rfl) ?_) | (refine ASeq.q rfl rfl (QOp.loadM 11 rfl rfl rfl (tok _ rfl) rfl) ?_) | (refine ASeq.q rfl rfl (QOp.loadM 12 rfl rfl rfl (tok _ rfl) rfl) ?_) | (refine ASeq.q rfl rfl (QOp.loadM 13 rfl rfl rfl (tok _ rfl) rfl) ?_) | (refine ASeq.q rfl rfl (QOp.loadM 14 rfl rfl rfl (tok _ rfl) rfl) ?_) | (refine ASeq.q rfl rfl (QOp.loadM 15 rfl rfl rfl (tok _ rfl) rfl) ?_) | (refine ASeq.q rfl rfl (QOp.loadAt 0 rfl rfl rfl (tok _ rfl) rfl (by assumption)) ?_) | (refine ASeq.q rfl rfl (QOp.loadAt 1 rfl rfl rfl (tok _ rfl) rfl (by assumption)) ?_) | (refine ASeq.q rfl rfl (QOp.loadAt 2 rfl rfl rfl (tok _ rfl) rfl (by assumption)) ?_) | (refine ASeq.q rfl rfl (QOp.loadAt 3 rfl rfl rfl (tok _ rfl) rfl (by assumption)) ?_) | (refine ASeq.q rfl rfl (QOp.loadAt 4 rfl rfl rfl (tok _ rfl) rfl (by assumption)) ?_) | (refine ASeq.q rfl rfl (QOp.loadAt 5 rfl rfl rfl (tok _ rfl) rfl (by assumption)) ?_)
  refine ASeq.q rfl rfl (QOp.ar64 rfl rfl rfl rfl ⟨by first | (omega) | (simp only [List.length_append, List.length_map, List.length_cons, List.length_nil]; omega), by first | (omega) | (simp only [List.length_append, List.length_map, List.length_cons, List.length_nil]; omega)⟩) ?_
  first | (refine ASeq.q rfl rfl (QOp.fieldM rfl rfl (tok _ rfl) rfl rfl (by decide) rfl) ?_) | (refine ASeq.q rfl rfl (QOp.fieldI rfl rfl (tok _ rfl) rfl rfl (by decide) rfl) ?_)
  first | (refine ASeq.q rfl rfl (QOp.loadI rfl rfl (tok _ rfl) rfl) ?_) | (refine ASeq.q rfl rfl (QOp.loadM 0 rfl rfl rfl (tok _ rfl) rfl) ?_) | (refine ASeq.q rfl rfl (QOp.loadM 1 rfl rfl rfl (tok _ rfl) rfl) ?_) | (refine ASeq.q rfl rfl (QOp.loadM 2 rfl rfl rfl (tok _ rfl) rfl) ?_) | (refine ASeq.q rfl rfl (QOp.loadM 3 rfl rfl rfl (tok _ rfl) rfl) ?_) | (refine ASeq.q rfl rfl (QOp.loadM 4 rfl rfl rfl (tok _ rfl) rfl) ?_) | (refine ASeq.q rfl rfl (QOp.loadM 5 rfl rfl rfl (tok _ rfl) rfl) ?_) | (refine ASeq.q rfl rfl (QOp.loadM 6 rfl rfl rfl (tok _ rfl) rfl) ?_) | (refine ASeq.q rfl rfl (QOp.loadM 7 rfl rfl rfl (tok _ rfl) rfl) ?_) | (refine ASeq.q rfl rfl (QOp.loadM 8 rfl rfl rfl (tok _ rfl) rfl) ?_) | (refine ASeq.q rfl rfl (QOp.loadM 9 rfl rfl rfl (tok _ rfl) rfl) ?_) | (refine ASeq.q rfl rfl (QOp.loadM 10 rfl rfl rfl (tok _ rfl) rfl) ?_) | (refine ASeq.q rfl rfl (QOp.loadM 11 rfl rfl rfl (tok _ rfl) rfl) ?_) | (refine ASeq.q rfl rfl (QOp.loadM 12 rfl rfl rfl (tok _ rfl) rfl) ?_) | (refine ASeq.q rfl rfl (QOp.loadM 13 rfl rfl rfl (tok _ rfl) rfl) ?_) | (refine ASeq.q rfl rfl (QOp.loadM 14 rfl rfl rfl (tok _ rfl) rfl) ?_) | (refine ASeq.q rfl rfl (QOp.loadM 15 rfl rfl rfl (tok _ rfl) rfl) ?_) | (refine ASeq.q rfl rfl (QOp.loadAt 0 rfl rfl rfl (tok _ rfl) rfl (by assumption)) ?_) | (refine ASeq.q rfl rfl (QOp.loadAt 1 rfl rfl rfl (tok _ rfl) rfl (by assumption)) ?_) | (refine ASeq.q rfl rfl (QOp.loadAt 2 rfl rfl rfl (tok _ rfl) rfl (by assumption)) ?_) | (refine ASeq.q rfl rfl (QOp.loadAt 3 rfl rfl rfl (tok _ rfl) rfl (by assumption)) ?_) | (refine ASeq.q rfl rfl (QOp.loadAt 4 rfl rfl rfl (tok _ rfl) rfl (by assumption)) ?_) | (refine ASeq.q rfl rfl (QOp.loadAt 5 rfl rfl rfl (tok _ rfl) rfl (by assumption)) ?_)
  first | (refine ASeq.q rfl rfl (QOp.lenI rfl rfl (tok _ rfl) rfl) ?_) | (refine ASeq.q rfl rfl (QOp.lenM rfl rfl (tok _ rfl) rfl) ?_) | (refine ASeq.q rfl rfl (QOp.lenS rfl rfl (tok _ rfl) rfl) ?_) | (refine ASeq.q rfl rfl (QOp.lenN rfl rfl (tok _ rfl) rfl) ?_)
  refine ASeq.q rfl rfl (QOp.cmp rfl rfl rfl rfl) ?_
  refine ASeq.nil ?_
  repeat (first | (refine ACode.seq ?_) | (refine ACode.region ?_) | (refine ACode.ret ?_) | (refine ACode.skip ?_) | (refine ACode.exit ?_) | (refine ACode.block ?_) | (refine AExit.then_normal ?_) | (refine AExit.then_ret ?_) | (refine AExit.then_exit ?_) | (refine AExit.in_normal ?_) | (refine AExit.in_ret ?_) | (refine AExit.in_same ?_) | (refine AExit.in_other rfl ?_) | (refine ASeq.nil ?_))
  refine ACode.cond _ rfl (fun hb => ?_) (fun hb => ?_)
  · have hlt : d.k + 1 < d.L.length := by have := of_decide_eq_true hb; rw [hil] at this; omega
    have hget := ints_get hlt
    have hval : d.behind = d.L[d.k + 1] := by rw [hnx hlt, List.getD_eq_getElem?_getD, List.getElem?_eq_getElem hlt]; rfl
    repeat (first | (refine ACode.seq ?_) | (refine ACode.region ?_) | (refine ACode.ret ?_) | (refine ACode.skip ?_) | (refine ACode.exit ?_) | (refine ACode.block ?_) | (refine AExit.then_normal ?_) | (refine AExit.then_ret ?_) | (refine AExit.then_exit ?_) | (refine AExit.in_normal ?_) | (refine AExit.in_ret ?_) | (refine AExit.in_same ?_) | (refine AExit.in_other rfl ?_) | (refine ASeq.nil ?_))
    first | (refine ASeq.q rfl rfl (QOp.fieldM rfl rfl (tok _ rfl) rfl rfl (by decide) rfl) ?_) | (refine ASeq.q rfl rfl (QOp.fieldI rfl rfl (tok _ rfl) rfl rfl (by decide) rfl) ?_)
    first | (refine ASeq.q rfl rfl (QOp.loadI rfl rfl (tok _ rfl) rfl) ?_) | (refine ASeq.q rfl rfl (QOp.loadM 0 rfl rfl rfl (tok _ rfl) rfl) ?_) | (refine ASeq.q rfl rfl (QOp.loadM 1 rfl rfl rfl (tok _ rfl) rfl) ?_) | (refine ASeq.q rfl rfl (QOp.loadM 2 rfl rfl rfl (tok _ rfl) rfl) ?_) | (refine ASeq.q rfl rfl (QOp.loadM 3 rfl rfl rfl (tok _ rfl) rfl) ?_) | (refine ASeq.q rfl rfl (QOp.loadM 4 rfl rfl rfl (tok _ rfl) rfl) ?_) | (refine ASeq.q rfl rfl (QOp.loadM 5 rfl rfl rfl (tok _ rfl) rfl) ?_) | (refine ASeq.q rfl rfl (QOp.loadM 6 rfl rfl rfl (tok _ rfl) rfl) ?_) | (refine ASeq.q rfl rfl (QOp.loadM 7 rfl rfl rfl (tok _ rfl) rfl) ?_) | (refine ASeq.q rfl rfl (QOp.loadM 8 rfl rfl rfl (tok _ rfl) rfl) ?_) | (refine ASeq.q rfl rfl (QOp.loadM 9 rfl rfl rfl (tok _ rfl) rfl) ?_) | (refine ASeq.q rfl rfl (QOp.loadM 10 rfl rfl rfl (tok _ rfl) rfl) ?_) | (refine ASeq.q rfl rfl (QOp.loadM 11 rfl rfl rfl (tok _ rfl) rfl) ?_) | (refine ASeq.q rfl rfl (QOp.loadM 12 rfl rfl rfl (tok _ rfl) rfl) ?_) | (refine ASeq.q rfl rfl (QOp.loadM 13 rfl rfl rfl (tok _ rfl) rfl) ?_) | (refine ASeq.q rfl rfl (QOp.loadM 14 rfl rfl rfl (tok _ rfl) rfl) ?_) | (refine ASeq.q rfl rfl (QOp.loadM 15 rfl rfl rfl (tok _ rfl) rfl) ?_) | (refine ASeq.q rfl rfl (QOp.loadAt 0 rfl rfl rfl (tok _ rfl) rfl (by assumption)) ?_) | (refine ASeq.q rfl rfl (QOp.loadAt 1 rfl rfl rfl (tok _ rfl) rfl (by assumption)) ?_) | (refine ASeq.q rfl rfl (QOp.loadAt 2 rfl rfl rfl (tok _ rfl) rfl (by assumption)) ?_) | (refine ASeq.q rfl rfl (QOp.loadAt 3 rfl rfl rfl (tok _ rfl) rfl (by assumption)) ?_) | (refine ASeq.q rfl rfl (QOp.loadAt 4 rfl rfl rfl (tok _ rfl) rfl (by assumption)) ?_) | (refine ASeq.q rfl rfl (QOp.loadAt 5 rfl rfl rfl (tok _ rfl) rfl (by assumption)) ?_)
    first | (refine ASeq.q rfl rfl (QOp.fieldM rfl rfl (tok _ rfl) rfl rfl (by decide) rfl) ?_) | (refine ASeq.q rfl rfl (QOp.fieldI rfl rfl (tok _ rfl) rfl rfl (by decide) rfl) ?_)
    first | (refine ASeq.q rfl rfl (QOp.loadI rfl rfl (tok _ rfl) rfl) ?_) | (refine ASeq.q rfl rfl (QOp.loadM 0 rfl rfl rfl (tok _ rfl) rfl) ?_) | (refine ASeq.q rfl rfl (QOp.loadM 1 rfl rfl rfl (tok _ rfl) rfl) ?_) | (refine ASeq.q rfl rfl (QOp.loadM 2 rfl rfl rfl (tok _ rfl) rfl) ?_) | (refine ASeq.q rfl rfl (QOp.loadM 3 rfl rfl rfl (tok _ rfl) rfl) ?_) | (refine ASeq.q rfl rfl (QOp.loadM 4 rfl rfl rfl (tok _ rfl) rfl) ?_) | (refine ASeq.q rfl rfl (QOp.loadM 5 rfl rfl rfl (tok _ rfl) rfl) ?_) | (refine ASeq.q rfl rfl (QOp.loadM 6 rfl rfl rfl (tok _ rfl) rfl) ?_) | (refine ASeq.q rfl rfl (QOp.loadM 7 rfl rfl rfl (tok _ rfl) rfl) ?_) | (refine ASeq.q rfl rfl (QOp.loadM 8 rfl rfl rfl (tok _ rfl) rfl) ?_) | (refine ASeq.q rfl rfl (QOp.loadM 9 rfl rfl rfl (tok _ rfl) rfl) ?_) | (refine ASeq.q rfl rfl (QOp.loadM 10 rfl rfl rfl (tok _ rfl) rfl) ?_) | (refine ASeq.q rfl rfl (QOp.loadM 11 rfl rfl rfl (tok _ rfl) rfl) ?_) | (refine ASeq.q rfl rfl (QOp.loadM 12 rfl rfl rfl (tok _ rfl) rfl) ?_) | (refine ASeq.q rfl rfl (QOp.loadM 13 rfl rfl rfl (tok _ rfl) rfl) ?_) | (refine ASeq.q rfl rfl (QOp.loadM 14 rfl rfl rfl (tok _ rfl) rfl) ?_) | (refine ASeq.q rfl rfl (QOp.loadM 15 rfl rfl rfl (tok _ rfl) rfl) ?_) | (refine ASeq.q rfl rfl (QOp.loadAt 0 rfl rfl rfl (tok _ rfl) rfl (by assumption)) ?_) | (refine ASeq.q rfl rfl (QOp.loadAt 1 rfl rfl rfl (tok _ rfl) rfl (by assumption)) ?_) | (refine ASeq.q rfl rfl (QOp.loadAt 2 rfl rfl rfl (tok _ rfl) rfl (by assumption)) ?_) | (refine ASeq.q rfl rfl (QOp.loadAt 3 rfl rfl rfl (tok _ rfl) rfl (by assumption)) ?_) | (refine ASeq.q rfl rfl (QOp.loadAt 4 rfl rfl rfl (tok _ rfl) rfl (by assumption)) ?_) | (refine ASeq.q rfl rfl (QOp.loadAt 5 rfl rfl rfl (tok _ rfl) rfl (by assumption)) ?_)
    refine ASeq.q rfl rfl (QOp.ar64 rfl rfl rfl rfl ⟨by first | (omega) | (simp only [List.length_append, List.length_map, List.length_cons, List.length_nil]; omega), by first | (omega) | (simp only [List.length_append, List.length_map, List.length_cons, List.length_nil]; omega)⟩) ?_
    first | (refine ASeq.q rfl rfl (QOp.indexI rfl rfl rfl (tok _ rfl) rfl (tok _ rfl) (by first | (decide) | (omega)) (by first | (rfl) | (assumption))) ?_) | (refine ASeq.q rfl rfl (QOp.indexM rfl rfl rfl (tok _ rfl) rfl (tok _ rfl) (by first | (decide) | (omega)) (by first | (decide) | (omega)) rfl) ?_)
    first | (refine ASeq.q rfl rfl (QOp.loadI rfl rfl (tok _ rfl) rfl) ?_) | (refine ASeq.q rfl rfl (QOp.loadM 0 rfl rfl rfl (tok _ rfl) rfl) ?_) | (refine ASeq.q rfl rfl (QOp.loadM 1 rfl rfl rfl (tok _ rfl) rfl) ?_) | (refine ASeq.q rfl rfl (QOp.loadM 2 rfl rfl rfl (tok _ rfl) rfl) ?_) | (refine ASeq.q rfl rfl (QOp.loadM 3 rfl rfl rfl (tok _ rfl) rfl) ?_) | (refine ASeq.q rfl rfl (QOp.loadM 4 rfl rfl rfl (tok _ rfl) rfl) ?_) | (refine ASeq.q rfl rfl (QOp.loadM 5 rfl rfl rfl (tok _ rfl) rfl) ?_) | (refine ASeq.q rfl rfl (QOp.loadM 6 rfl rfl rfl (tok _ rfl) rfl) ?_) | (refine ASeq.q rfl rfl (QOp.loadM 7 rfl rfl rfl (tok _ rfl) rfl) ?_) | (refine ASeq.q rfl rfl (QOp.loadM 8 rfl rfl rfl (tok _ rfl) rfl) ?_) | (refine ASeq.q rfl rfl (QOp.loadM 9 rfl rfl rfl (tok _ rfl) rfl) ?_) | (refine ASeq.q rfl rfl (QOp.loadM 10 rfl rfl rfl (tok _ rfl) rfl) ?_) | (refine ASeq.q rfl rfl (QOp.loadM 11 rfl rfl rfl (tok _ rfl) rfl) ?_) | (refine ASeq.q rfl rfl (QOp.loadM 12 rfl rfl rfl (tok _ rfl) rfl) ?_) | (refine ASeq.q rfl rfl (QOp.loadM 13 rfl rfl rfl (tok _ rfl) rfl) ?_) | (refine ASeq.q rfl rfl (QOp.loadM 14 rfl rfl rfl (tok _ rfl) rfl) ?_) | (refine ASeq.q rfl rfl (QOp.loadM 15 rfl rfl rfl (tok _ rfl) rfl) ?_) | (refine ASeq.q rfl rfl (QOp.loadAt 0 rfl rfl rfl (tok _ rfl) rfl (by assumption)) ?_) | (refine ASeq.q rfl rfl (QOp.loadAt 1 rfl rfl rfl (tok _ rfl) rfl (by assumption)) ?_) | (refine ASeq.q rfl rfl (QOp.loadAt 2 rfl rfl rfl (tok _ rfl) rfl (by assumption)) ?_) | (refine ASeq.q rfl rfl (QOp.loadAt 3 rfl rfl rfl (tok _ rfl) rfl (by assumption)) ?_) | (refine ASeq.q rfl rfl (QOp.loadAt 4 rfl rfl rfl (tok _ rfl) rfl (by assumption)) ?_) | (refine ASeq.q rfl rfl (QOp.loadAt 5 rfl rfl rfl (tok _ rfl) rfl (by assumption)) ?_)
    refine ASeq.q rfl rfl (QOp.assign rfl rfl) ?_
    refine ASeq.nil ?_
    repeat (first | (refine ACode.seq ?_) | (refine ACode.region ?_) | (refine ACode.ret ?_) | (refine ACode.skip ?_) | (refine ACode.exit ?_) | (refine ACode.block ?_) | (refine AExit.then_normal ?_) | (refine AExit.then_ret ?_) | (refine AExit.then_exit ?_) | (refine AExit.in_normal ?_) | (refine AExit.in_ret ?_) | (refine AExit.in_same ?_) | (refine AExit.in_other rfl ?_) | (refine ASeq.nil ?_))
    refine bodyQ_ret 1 (.tmp rfl .nil) rfl ?_
    rw [hval]; exact .mk
  have hnl : ¬ d.k + 1 < d.L.length := by have := of_decide_eq_false hb; rw [hil] at this; omega
  have hl := hlast hnl
  repeat (first | (refine ACode.seq ?_) | (refine ACode.region ?_) | (refine ACode.ret ?_) | (refine ACode.skip ?_) | (refine ACode.exit ?_) | (refine ACode.block ?_) | (refine AExit.then_normal ?_) | (refine AExit.then_ret ?_) | (refine AExit.then_exit ?_) | (refine AExit.in_normal ?_) | (refine AExit.in_ret ?_) | (refine AExit.in_same ?_) | (refine AExit.in_other rfl ?_) | (refine ASeq.nil ?_))
  first | (refine ASeq.q rfl rfl (QOp.fieldM rfl rfl (tok _ rfl) rfl rfl (by decide) rfl) ?_) | (refine ASeq.q rfl rfl (QOp.fieldI rfl rfl (tok _ rfl) rfl rfl (by decide) rfl) ?_)
  first | (refine ASeq.q rfl rfl (QOp.loadI rfl rfl (tok _ rfl) rfl) ?_) | (refine ASeq.q rfl rfl (QOp.loadM 0 rfl rfl rfl (tok _ rfl) rfl) ?_) | (refine ASeq.q rfl rfl (QOp.loadM 1 rfl rfl rfl (tok _ rfl) rfl) ?_) | (refine ASeq.q rfl rfl (QOp.loadM 2 rfl rfl rfl (tok _ rfl) rfl) ?_) | (refine ASeq.q rfl rfl (QOp.loadM 3 rfl rfl rfl (tok _ rfl) rfl) ?_) | (refine ASeq.q rfl rfl (QOp.loadM 4 rfl rfl rfl (tok _ rfl) rfl) ?_) | (refine ASeq.q rfl rfl (QOp.loadM 5 rfl rfl rfl (tok _ rfl) rfl) ?_) | (refine ASeq.q rfl rfl (QOp.loadM 6 rfl rfl rfl (tok _ rfl) rfl) ?_) | (refine ASeq.q rfl rfl (QOp.loadM 7 rfl rfl rfl (tok _ rfl) rfl) ?_) | (refine ASeq.q rfl rfl (QOp.loadM 8 rfl rfl rfl (tok _ rfl) rfl) ?_) | (refine ASeq.q rfl rfl (QOp.loadM 9 rfl rfl rfl (tok _ rfl) rfl) ?_) | (refine ASeq.q rfl rfl (QOp.loadM 10 rfl rfl rfl (tok _ rfl) rfl) ?_) | (refine ASeq.q rfl rfl (QOp.loadM 11 rfl rfl rfl (tok _ rfl) rfl) ?_) | (refine ASeq.q rfl rfl (QOp.loadM 12 rfl rfl rfl (tok _ rfl) rfl) ?_) | (refine ASeq.q rfl rfl (QOp.loadM 13 rfl rfl rfl (tok _ rfl) rfl) ?_) | (refine ASeq.q rfl rfl (QOp.loadM 14 rfl rfl rfl (tok _ rfl) rfl) ?_) | (refine ASeq.q rfl rfl (QOp.loadM 15 rfl rfl rfl (tok _ rfl) rfl) ?_) | (refine ASeq.q rfl rfl (QOp.loadAt 0 rfl rfl rfl (tok _ rfl) rfl (by assumption)) ?_) | (refine ASeq.q rfl rfl (QOp.loadAt 1 rfl rfl rfl (tok _ rfl) rfl (by assumption)) ?_) | (refine ASeq.q rfl rfl (QOp.loadAt 2 rfl rfl rfl (tok _ rfl) rfl (by assumption)) ?_) | (refine ASeq.q rfl rfl (QOp.loadAt 3 rfl rfl rfl (tok _ rfl) rfl (by assumption)) ?_) | (refine ASeq.q rfl rfl (QOp.loadAt 4 rfl rfl rfl (tok _ rfl) rfl (by assumption)) ?_) | (refine ASeq.q rfl rfl (QOp.loadAt 5 rfl rfl rfl (tok _ rfl) rfl (by assumption)) ?_)
  refine ASeq.q rfl rfl (QOp.cmp rfl rfl rfl rfl) ?_
  refine ASeq.nil ?_
  repeat (first | (refine ACode.seq ?_) | (refine ACode.region ?_) | (refine ACode.ret ?_) | (refine ACode.skip ?_) | (refine ACode.exit ?_) | (refine ACode.block ?_) | (refine AExit.then_normal ?_) | (refine AExit.then_ret ?_) | (refine AExit.then_exit ?_) | (refine AExit.in_normal ?_) | (refine AExit.in_ret ?_) | (refine AExit.in_same ?_) | (refine AExit.in_other rfl ?_) | (refine ASeq.nil ?_))
  refine ACode.cond _ rfl (fun hb => ?_) (fun hb => ?_)
  · have hneg : d.inn < 0 := of_decide_eq_true hb
    have hval : d.behind = -1 := by
      rcases hl with h | h | h
      · exact h.2
      · omega
      · omega
    repeat (first | (refine ACode.seq ?_) | (refine ACode.region ?_) | (refine ACode.ret ?_) | (refine ACode.skip ?_) | (refine ACode.exit ?_) | (refine ACode.block ?_) | (refine AExit.then_normal ?_) | (refine AExit.then_ret ?_) | (refine AExit.then_exit ?_) | (refine AExit.in_normal ?_) | (refine AExit.in_ret ?_) | (refine AExit.in_same ?_) | (refine AExit.in_other rfl ?_) | (refine ASeq.nil ?_))
    refine ASeq.q rfl rfl (QOp.assign rfl rfl) ?_
    refine ASeq.nil ?_
    repeat (first | (refine ACode.seq ?_) | (refine ACode.region ?_) | (refine ACode.ret ?_) | (refine ACode.skip ?_) | (refine ACode.exit ?_) | (refine ACode.block ?_) | (refine AExit.then_normal ?_) | (refine AExit.then_ret ?_) | (refine AExit.then_exit ?_) | (refine AExit.in_normal ?_) | (refine AExit.in_ret ?_) | (refine AExit.in_same ?_) | (refine AExit.in_other rfl ?_) | (refine ASeq.nil ?_))
    refine bodyQ_ret 1 (.tmp rfl .nil) rfl ?_
    rw [hval]; exact .mk
  have hge : ¬ d.inn < 0 := of_decide_eq_false hb
  have hl : 0 ≤ d.inn ∧ d.inn < t.stmts.length ∧ (((t.stm d.inn).kind = 6 ∧ d.behind = d.inn) ∨ ((t.stm d.inn).kind ≠ 6 ∧ ∃ e, e.i = d.inn ∧ e.behind = d.behind ∧ CBeh t P mP e)) := by
    rcases hl with h | h | h
    · omega
    · exact ⟨h.1, h.2.1, .inl h.2.2⟩
    · exact ⟨h.1, h.2.1, .inr h.2.2⟩
  obtain ⟨n0, n1, hl⟩ := hl
  have hrow2 := tst_get n0 n1
  repeat (first | (refine ACode.seq ?_) | (refine ACode.region ?_) | (refine ACode.ret ?_) | (refine ACode.skip ?_) | (refine ACode.exit ?_) | (refine ACode.block ?_) | (refine AExit.then_normal ?_) | (refine AExit.then_ret ?_) | (refine AExit.then_exit ?_) | (refine AExit.in_normal ?_) | (refine AExit.in_ret ?_) | (refine AExit.in_same ?_) | (refine AExit.in_other rfl ?_) | (refine ASeq.nil ?_))
  first | (refine ASeq.q rfl rfl (QOp.fieldM rfl rfl (tok _ rfl) rfl rfl (by decide) rfl) ?_) | (refine ASeq.q rfl rfl (QOp.fieldI rfl rfl (tok _ rfl) rfl rfl (by decide) rfl) ?_)
  first | (refine ASeq.q rfl rfl (QOp.loadI rfl rfl (tok _ rfl) rfl) ?_) | (refine ASeq.q rfl rfl (QOp.loadM 0 rfl rfl rfl (tok _ rfl) rfl) ?_) | (refine ASeq.q rfl rfl (QOp.loadM 1 rfl rfl rfl (tok _ rfl) rfl) ?_) | (refine ASeq.q rfl rfl (QOp.loadM 2 rfl rfl rfl (tok _ rfl) rfl) ?_) | (refine ASeq.q rfl rfl (QOp.loadM 3 rfl rfl rfl (tok _ rfl) rfl) ?_) | (refine ASeq.q rfl rfl (QOp.loadM 4 rfl rfl rfl (tok _ rfl) rfl) ?_) | (refine ASeq.q rfl rfl (QOp.loadM 5 rfl rfl rfl (tok _ rfl) rfl) ?_) | (refine ASeq.q rfl rfl (QOp.loadM 6 rfl rfl rfl (tok _ rfl) rfl) ?_) | (refine ASeq.q rfl rfl (QOp.loadM 7 rfl rfl rfl (tok _ rfl) rfl) ?_) | (refine ASeq.q rfl rfl (QOp.loadM 8 rfl rfl rfl (tok _ rfl) rfl) ?_) | (refine ASeq.q rfl rfl (QOp.loadM 9 rfl rfl rfl (tok _ rfl) rfl) ?_) | (refine ASeq.q rfl rfl (QOp.loadM 10 rfl rfl rfl (tok _ rfl) rfl) ?_) | (refine ASeq.q rfl rfl (QOp.loadM 11 rfl rfl rfl (tok _ rfl) rfl) ?_) | (refine ASeq.q rfl rfl (QOp.loadM 12 rfl rfl rfl (tok _ rfl) rfl) ?_) | (refine ASeq.q rfl rfl (QOp.loadM 13 rfl rfl rfl (tok _ rfl) rfl) ?_) | (refine ASeq.q rfl rfl (QOp.loadM 14 rfl rfl rfl (tok _ rfl) rfl) ?_) | (refine ASeq.q rfl rfl (QOp.loadM 15 rfl rfl rfl (tok _ rfl) rfl) ?_) | (refine ASeq.q rfl rfl (QOp.loadAt 0 rfl rfl rfl (tok _ rfl) rfl (by assumption)) ?_) | (refine ASeq.q rfl rfl (QOp.loadAt 1 rfl rfl rfl (tok _ rfl) rfl (by assumption)) ?_) | (refine ASeq.q rfl rfl (QOp.loadAt 2 rfl rfl rfl (tok _ rfl) rfl (by assumption)) ?_) | (refine ASeq.q rfl rfl (QOp.loadAt 3 rfl rfl rfl (tok _ rfl) rfl (by assumption)) ?_) | (refine ASeq.q rfl rfl (QOp.loadAt 4 rfl rfl rfl (tok _ rfl) rfl (by assumption)) ?_) | (refine ASeq.q rfl rfl (QOp.loadAt 5 rfl rfl rfl (tok _ rfl) rfl (by assumption)) ?_)
  first | (refine ASeq.q rfl rfl (QOp.fieldM rfl rfl (tok _ rfl) rfl rfl (by decide) rfl) ?_) | (refine ASeq.q rfl rfl (QOp.fieldI rfl rfl (tok _ rfl) rfl rfl (by decide) rfl) ?_)
  first | (refine ASeq.q rfl rfl (QOp.loadI rfl rfl (tok _ rfl) rfl) ?_) | (refine ASeq.q rfl rfl (QOp.loadM 0 rfl rfl rfl (tok _ rfl) rfl) ?_) | (refine ASeq.q rfl rfl (QOp.loadM 1 rfl rfl rfl (tok _ rfl) rfl) ?_) | (refine ASeq.q rfl rfl (QOp.loadM 2 rfl rfl rfl (tok _ rfl) rfl) ?_) | (refine ASeq.q rfl rfl (QOp.loadM 3 rfl rfl rfl (tok _ rfl) rfl) ?_) | (refine ASeq.q rfl rfl (QOp.loadM 4 rfl rfl rfl (tok _ rfl) rfl) ?_) | (refine ASeq.q rfl rfl (QOp.loadM 5 rfl rfl rfl (tok _ rfl) rfl) ?_) | (refine ASeq.q rfl rfl (QOp.loadM 6 rfl rfl rfl (tok _ rfl) rfl) ?_) | (refine ASeq.q rfl rfl (QOp.loadM 7 rfl rfl rfl (tok _ rfl) rfl) ?_) | (refine ASeq.q rfl rfl (QOp.loadM 8 rfl rfl rfl (tok _ rfl) rfl) ?_) | (refine ASeq.q rfl rfl (QOp.loadM 9 rfl rfl rfl (tok _ rfl) rfl) ?_) | (refine ASeq.q rfl rfl (QOp.loadM 10 rfl rfl rfl (tok _ rfl) rfl) ?_) | (refine ASeq.q rfl rfl (QOp.loadM 11 rfl rfl rfl (tok _ rfl) rfl) ?_) | (refine ASeq.q rfl rfl (QOp.loadM 12 rfl rfl rfl (tok _ rfl) rfl) ?_) | (refine ASeq.q rfl rfl (QOp.loadM 13 rfl rfl rfl (tok _ rfl) rfl) ?_) | (refine ASeq.q rfl rfl (QOp.loadM 14 rfl rfl rfl (tok _ rfl) rfl) ?_) | (refine ASeq.q rfl rfl (QOp.loadM 15 rfl rfl rfl (tok _ rfl) rfl) ?_) | (refine ASeq.q rfl rfl (QOp.loadAt 0 rfl rfl rfl (tok _ rfl) rfl (by assumption)) ?_) | (refine ASeq.q rfl rfl (QOp.loadAt 1 rfl rfl rfl (tok _ rfl) rfl (by assumption)) ?_) | (refine ASeq.q rfl rfl (QOp.loadAt 2 rfl rfl rfl (tok _ rfl) rfl (by assumption)) ?_) | (refine ASeq.q rfl rfl (QOp.loadAt 3 rfl rfl rfl (tok _ rfl) rfl (by assumption)) ?_) | (refine ASeq.q rfl rfl (QOp.loadAt 4 rfl rfl rfl (tok _ rfl) rfl (by assumption)) ?_) | (refine ASeq.q rfl rfl (QOp.loadAt 5 rfl rfl rfl (tok _ rfl) rfl (by assumption)) ?_)
  first | (refine ASeq.q rfl rfl (QOp.indexI rfl rfl rfl (tok _ rfl) rfl (tok _ rfl) (by first | (decide) | (omega)) (by first | (rfl) | (assumption))) ?_) | (refine ASeq.q rfl rfl (QOp.indexM rfl rfl rfl (tok _ rfl) rfl (tok _ rfl) (by first | (decide) | (omega)) (by first | (decide) | (omega)) rfl) ?_)
  first | (refine ASeq.q rfl rfl (QOp.fieldM rfl rfl (tok _ rfl) rfl rfl (by decide) rfl) ?_) | (refine ASeq.q rfl rfl (QOp.fieldI rfl rfl (tok _ rfl) rfl rfl (by decide) rfl) ?_)
  first | (refine ASeq.q rfl rfl (QOp.loadI rfl rfl (tok _ rfl) rfl) ?_) | (refine ASeq.q rfl rfl (QOp.loadM 0 rfl rfl rfl (tok _ rfl) rfl) ?_) | (refine ASeq.q rfl rfl (QOp.loadM 1 rfl rfl rfl (tok _ rfl) rfl) ?_) | (refine ASeq.q rfl rfl (QOp.loadM 2 rfl rfl rfl (tok _ rfl) rfl) ?_) | (refine ASeq.q rfl rfl (QOp.loadM 3 rfl rfl rfl (tok _ rfl) rfl) ?_) | (refine ASeq.q rfl rfl (QOp.loadM 4 rfl rfl rfl (tok _ rfl) rfl) ?_) | (refine ASeq.q rfl rfl (QOp.loadM 5 rfl rfl rfl (tok _ rfl) rfl) ?_) | (refine ASeq.q rfl rfl (QOp.loadM 6 rfl rfl rfl (tok _ rfl) rfl) ?_) | (refine ASeq.q rfl rfl (QOp.loadM 7 rfl rfl rfl (tok _ rfl) rfl) ?_) | (refine ASeq.q rfl rfl (QOp.loadM 8 rfl rfl rfl (tok _ rfl) rfl) ?_) | (refine ASeq.q rfl rfl (QOp.loadM 9 rfl rfl rfl (tok _ rfl) rfl) ?_) | (refine ASeq.q rfl rfl (QOp.loadM 10 rfl rfl rfl (tok _ rfl) rfl) ?_) | (refine ASeq.q rfl rfl (QOp.loadM 11 rfl rfl rfl (tok _ rfl) rfl) ?_) | (refine ASeq.q rfl rfl (QOp.loadM 12 rfl rfl rfl (tok _ rfl) rfl) ?_) | (refine ASeq.q rfl rfl (QOp.loadM 13 rfl rfl rfl (tok _ rfl) rfl) ?_) | (refine ASeq.q rfl rfl (QOp.loadM 14 rfl rfl rfl (tok _ rfl) rfl) ?_) | (refine ASeq.q rfl rfl (QOp.loadM 15 rfl rfl rfl (tok _ rfl) rfl) ?_) | (refine ASeq.q rfl rfl (QOp.loadAt 0 rfl rfl rfl (tok _ rfl) rfl (by assumption)) ?_) | (refine ASeq.q rfl rfl (QOp.loadAt 1 rfl rfl rfl (tok _ rfl) rfl (by assumption)) ?_) | (refine ASeq.q rfl rfl (QOp.loadAt 2 rfl rfl rfl (tok _ rfl) rfl (by assumption)) ?_) | (refine ASeq.q rfl rfl (QOp.loadAt 3 rfl rfl rfl (tok _ rfl) rfl (by assumption)) ?_) | (refine ASeq.q rfl rfl (QOp.loadAt 4 rfl rfl rfl (tok _ rfl) rfl (by assumption)) ?_) | (refine ASeq.q rfl rfl (QOp.loadAt 5 rfl rfl rfl (tok _ rfl) rfl (by assumption)) ?_)
  refine ASeq.q rfl rfl (QOp.cmp rfl rfl rfl rfl) ?_
  refine ASeq.nil ?_
  repeat (first | (refine ACode.seq ?_) | (refine ACode.region ?_) | (refine ACode.ret ?_) | (refine ACode.skip ?_) | (refine ACode.exit ?_) | (refine ACode.block ?_) | (refine AExit.then_normal ?_) | (refine AExit.then_ret ?_) | (refine AExit.then_exit ?_) | (refine AExit.in_normal ?_) | (refine AExit.in_ret ?_) | (refine AExit.in_same ?_) | (refine AExit.in_other rfl ?_) | (refine ASeq.nil ?_))
  refine ACode.cond _ rfl (fun hb => ?_) (fun hb => ?_)
  · have hk6 : (t.stm d.inn).kind = 6 := by simpa using hb
    have hval : d.behind = d.inn := by
      rcases hl with h | h
      · exact h.2
      · exact absurd hk6 h.1
    repeat (first | (refine ACode.seq ?_) | (refine ACode.region ?_) | (refine ACode.ret ?_) | (refine ACode.skip ?_) | (refine ACode.exit ?_) | (refine ACode.block ?_) | (refine AExit.then_normal ?_) | (refine AExit.then_ret ?_) | (refine AExit.then_exit ?_) | (refine AExit.in_normal ?_) | (refine AExit.in_ret ?_) | (refine AExit.in_same ?_) | (refine AExit.in_other rfl ?_) | (refine ASeq.nil ?_))
    first | (refine ASeq.q rfl rfl (QOp.fieldM rfl rfl (tok _ rfl) rfl rfl (by decide) rfl) ?_) | (refine ASeq.q rfl rfl (QOp.fieldI rfl rfl (tok _ rfl) rfl rfl (by decide) rfl) ?_)
    first | (refine ASeq.q rfl rfl (QOp.loadI rfl rfl (tok _ rfl) rfl) ?_) | (refine ASeq.q rfl rfl (QOp.loadM 0 rfl rfl rfl (tok _ rfl) rfl) ?_) | (refine ASeq.q rfl rfl (QOp.loadM 1 rfl rfl rfl (tok _ rfl) rfl) ?_) | (refine ASeq.q rfl rfl (QOp.loadM 2 rfl rfl rfl (tok _ rfl) rfl) ?_) | (refine ASeq.q rfl rfl (QOp.loadM 3 rfl rfl rfl (tok _ rfl) rfl) ?_) | (refine ASeq.q rfl rfl (QOp.loadM 4 rfl rfl rfl (tok _ rfl) rfl) ?_) | (refine ASeq.q rfl rfl (QOp.loadM 5 rfl rfl rfl (tok _ rfl) rfl) ?_) | (refine ASeq.q rfl rfl (QOp.loadM 6 rfl rfl rfl (tok _ rfl) rfl) ?_) | (refine ASeq.q rfl rfl (QOp.loadM 7 rfl rfl rfl (tok _ rfl) rfl) ?_) | (refine ASeq.q rfl rfl (QOp.loadM 8 rfl rfl rfl (tok _ rfl) rfl) ?_) | (refine ASeq.q rfl rfl (QOp.loadM 9 rfl rfl rfl (tok _ rfl) rfl) ?_) | (refine ASeq.q rfl rfl (QOp.loadM 10 rfl rfl rfl (tok _ rfl) rfl) ?_) | (refine ASeq.q rfl rfl (QOp.loadM 11 rfl rfl rfl (tok _ rfl) rfl) ?_) | (refine ASeq.q rfl rfl (QOp.loadM 12 rfl rfl rfl (tok _ rfl) rfl) ?_) | (refine ASeq.q rfl rfl (QOp.loadM 13 rfl rfl rfl (tok _ rfl) rfl) ?_) | (refine ASeq.q rfl rfl (QOp.loadM 14 rfl rfl rfl (tok _ rfl) rfl) ?_) | (refine ASeq.q rfl rfl (QOp.loadM 15 rfl rfl rfl (tok _ rfl) rfl) ?_) | (refine ASeq.q rfl rfl (QOp.loadAt 0 rfl rfl rfl (tok _ rfl) rfl (by assumption)) ?_) | (refine ASeq.q rfl rfl (QOp.loadAt 1 rfl rfl rfl (tok _ rfl) rfl (by assumption)) ?_) | (refine ASeq.q rfl rfl (QOp.loadAt 2 rfl rfl rfl (tok _ rfl) rfl (by assumption)) ?_) | (refine ASeq.q rfl rfl (QOp.loadAt 3 rfl rfl rfl (tok _ rfl) rfl (by assumption)) ?_) | (refine ASeq.q rfl rfl (QOp.loadAt 4 rfl rfl rfl (tok _ rfl) rfl (by assumption)) ?_) | (refine ASeq.q rfl rfl (QOp.loadAt 5 rfl rfl rfl (tok _ rfl) rfl (by assumption)) ?_)
    refine ASeq.q rfl rfl (QOp.assign rfl rfl) ?_
    refine ASeq.nil ?_
    repeat (first | (refine ACode.seq ?_) | (refine ACode.region ?_) | (refine ACode.ret ?_) | (refine ACode.skip ?_) | (refine ACode.exit ?_) | (refine ACode.block ?_) | (refine AExit.then_normal ?_) | (refine AExit.then_ret ?_) | (refine AExit.then_exit ?_) | (refine AExit.in_normal ?_) | (refine AExit.in_ret ?_) | (refine AExit.in_same ?_) | (refine AExit.in_other rfl ?_) | (refine ASeq.nil ?_))
    refine bodyQ_ret 1 (.tmp rfl .nil) rfl ?_
    rw [hval]; exact .mk
  · have hk6 : (t.stm d.inn).kind ≠ 6 := by simpa using hb
    obtain ⟨e, e1, e2, e3⟩ : ∃ e, e.i = d.inn ∧ e.behind = d.behind ∧ CBeh t P mP e := by
      rcases hl with h | h
      · exact absurd h.1 hk6
      · exact h.2
    unfold CBeh at e3
    rw [e1, e2] at e3
    repeat (first | (refine ACode.seq ?_) | (refine ACode.region ?_) | (refine ACode.ret ?_) | (refine ACode.skip ?_) | (refine ACode.exit ?_) | (refine ACode.block ?_) | (refine AExit.then_normal ?_) | (refine AExit.then_ret ?_) | (refine AExit.then_exit ?_) | (refine AExit.in_normal ?_) | (refine AExit.in_ret ?_) | (refine AExit.in_same ?_) | (refine AExit.in_other rfl ?_) | (refine ASeq.nil ?_))
    first | (refine ASeq.q rfl rfl (QOp.loadI rfl rfl (tok _ rfl) rfl) ?_) | (refine ASeq.q rfl rfl (QOp.loadM 0 rfl rfl rfl (tok _ rfl) rfl) ?_) | (refine ASeq.q rfl rfl (QOp.loadM 1 rfl rfl rfl (tok _ rfl) rfl) ?_) | (refine ASeq.q rfl rfl (QOp.loadM 2 rfl rfl rfl (tok _ rfl) rfl) ?_) | (refine ASeq.q rfl rfl (QOp.loadM 3 rfl rfl rfl (tok _ rfl) rfl) ?_) | (refine ASeq.q rfl rfl (QOp.loadM 4 rfl rfl rfl (tok _ rfl) rfl) ?_) | (refine ASeq.q rfl rfl (QOp.loadM 5 rfl rfl rfl (tok _ rfl) rfl) ?_) | (refine ASeq.q rfl rfl (QOp.loadM 6 rfl rfl rfl (tok _ rfl) rfl) ?_) | (refine ASeq.q rfl rfl (QOp.loadM 7 rfl rfl rfl (tok _ rfl) rfl) ?_) | (refine ASeq.q rfl rfl (QOp.loadM 8 rfl rfl rfl (tok _ rfl) rfl) ?_) | (refine ASeq.q rfl rfl (QOp.loadM 9 rfl rfl rfl (tok _ rfl) rfl) ?_) | (refine ASeq.q rfl rfl (QOp.loadM 10 rfl rfl rfl (tok _ rfl) rfl) ?_) | (refine ASeq.q rfl rfl (QOp.loadM 11 rfl rfl rfl (tok _ rfl) rfl) ?_) | (refine ASeq.q rfl rfl (QOp.loadM 12 rfl rfl rfl (tok _ rfl) rfl) ?_) | (refine ASeq.q rfl rfl (QOp.loadM 13 rfl rfl rfl (tok _ rfl) rfl) ?_) | (refine ASeq.q rfl rfl (QOp.loadM 14 rfl rfl rfl (tok _ rfl) rfl) ?_) | (refine ASeq.q rfl rfl (QOp.loadM 15 rfl rfl rfl (tok _ rfl) rfl) ?_) | (refine ASeq.q rfl rfl (QOp.loadAt 0 rfl rfl rfl (tok _ rfl) rfl (by assumption)) ?_) | (refine ASeq.q rfl rfl (QOp.loadAt 1 rfl rfl rfl (tok _ rfl) rfl (by assumption)) ?_) | (refine ASeq.q rfl rfl (QOp.loadAt 2 rfl rfl rfl (tok _ rfl) rfl (by assumption)) ?_) | (refine ASeq.q rfl rfl (QOp.loadAt 3 rfl rfl rfl (tok _ rfl) rfl (by assumption)) ?_) | (refine ASeq.q rfl rfl (QOp.loadAt 4 rfl rfl rfl (tok _ rfl) rfl (by assumption)) ?_) | (refine ASeq.q rfl rfl (QOp.loadAt 5 rfl rfl rfl (tok _ rfl) rfl (by assumption)) ?_)
    refine ASeq.q rfl rfl (QOp.move rfl rfl) ?_
    first | (refine ASeq.q rfl rfl (QOp.fieldM rfl rfl (tok _ rfl) rfl rfl (by decide) rfl) ?_) | (refine ASeq.q rfl rfl (QOp.fieldI rfl rfl (tok _ rfl) rfl rfl (by decide) rfl) ?_)
    first | (refine ASeq.q rfl rfl (QOp.loadI rfl rfl (tok _ rfl) rfl) ?_) | (refine ASeq.q rfl rfl (QOp.loadM 0 rfl rfl rfl (tok _ rfl) rfl) ?_) | (refine ASeq.q rfl rfl (QOp.loadM 1 rfl rfl rfl (tok _ rfl) rfl) ?_) | (refine ASeq.q rfl rfl (QOp.loadM 2 rfl rfl rfl (tok _ rfl) rfl) ?_) | (refine ASeq.q rfl rfl (QOp.loadM 3 rfl rfl rfl (tok _ rfl) rfl) ?_) | (refine ASeq.q rfl rfl (QOp.loadM 4 rfl rfl rfl (tok _ rfl) rfl) ?_) | (refine ASeq.q rfl rfl (QOp.loadM 5 rfl rfl rfl (tok _ rfl) rfl) ?_) | (refine ASeq.q rfl rfl (QOp.loadM 6 rfl rfl rfl (tok _ rfl) rfl) ?_) | (refine ASeq.q rfl rfl (QOp.loadM 7 rfl rfl rfl (tok _ rfl) rfl) ?_) | (refine ASeq.q rfl rfl (QOp.loadM 8 rfl rfl rfl (tok _ rfl) rfl) ?_) | (refine ASeq.q rfl rfl (QOp.loadM 9 rfl rfl rfl (tok _ rfl) rfl) ?_) | (refine ASeq.q rfl rfl (QOp.loadM 10 rfl rfl rfl (tok _ rfl) rfl) ?_) | (refine ASeq.q rfl rfl (QOp.loadM 11 rfl rfl rfl (tok _ rfl) rfl) ?_) | (refine ASeq.q rfl rfl (QOp.loadM 12 rfl rfl rfl (tok _ rfl) rfl) ?_) | (refine ASeq.q rfl rfl (QOp.loadM 13 rfl rfl rfl (tok _ rfl) rfl) ?_) | (refine ASeq.q rfl rfl (QOp.loadM 14 rfl rfl rfl (tok _ rfl) rfl) ?_) | (refine ASeq.q rfl rfl (QOp.loadM 15 rfl rfl rfl (tok _ rfl) rfl) ?_) | (refine ASeq.q rfl rfl (QOp.loadAt 0 rfl rfl rfl (tok _ rfl) rfl (by assumption)) ?_) | (refine ASeq.q rfl rfl (QOp.loadAt 1 rfl rfl rfl (tok _ rfl) rfl (by assumption)) ?_) | (refine ASeq.q rfl rfl (QOp.loadAt 2 rfl rfl rfl (tok _ rfl) rfl (by assumption)) ?_) | (refine ASeq.q rfl rfl (QOp.loadAt 3 rfl rfl rfl (tok _ rfl) rfl (by assumption)) ?_) | (refine ASeq.q rfl rfl (QOp.loadAt 4 rfl rfl rfl (tok _ rfl) rfl (by assumption)) ?_) | (refine ASeq.q rfl rfl (QOp.loadAt 5 rfl rfl rfl (tok _ rfl) rfl (by assumption)) ?_)
    refine ASeq.op rfl rfl (AOp.callP 1 rfl (by kernel_rfl) rfl rfl rfl (e3) ?_ (by rintro _ _ ⟨⟩))
    rintro _ _ ⟨⟩
    refine ASeq.q rfl rfl (QOp.assign rfl rfl) ?_
    refine ASeq.nil ?_
    repeat (first | (refine ACode.seq ?_) | (refine ACode.region ?_) | (refine ACode.ret ?_) | (refine ACode.skip ?_) | (refine ACode.exit ?_) | (refine ACode.block ?_) | (refine AExit.then_normal ?_) | (refine AExit.then_ret ?_) | (refine AExit.then_exit ?_) | (refine AExit.in_normal ?_) | (refine AExit.in_ret ?_) | (refine AExit.in_same ?_) | (refine AExit.in_other rfl ?_) | (refine ASeq.nil ?_))
    refine bodyQ_ret 1 (.tmp rfl .nil) rfl ?_
    exact .mk
theorem firstOf_drop (L : List Int) (k : Nat) (B : Int) : (k + 1 < L.length → firstOf (L.drop (k + 1)) B = L.getD (k + 1) 0) ∧ (¬ k + 1 < L.length → firstOf (L.drop (k + 1)) B = B) := by
  constructor
  · intro h
    rw [List.drop_eq_getElem_cons h, List.getD_eq_getElem?_getD, List.getElem?_eq_getElem h]; rfl
  · intro h
    rw [List.drop_eq_nil_of_le (by omega)]; rfl
theorem behinds (t : Tree) (R : Nat → Nat) (ht : TreeOk t) (hR : FR t R) (P : List Pl) (mP : Nat) (hP : LaidOk t P) (k : Nat) (d : Ctx) (hB : Beh t k d) : CBeh t P mP d := by
  have sub : ∀ (d : Ctx) (M : List Int) (j : Nat), InF t k d → 0 ≤ d.i → Beh t k (d.sub t M j) → CBeh t P mP d → CBeh t P mP (d.sub t M j) := by
    intro d M j hin hi hb ih
    obtain ⟨lo, o1, o2, o3, o4⟩ := hR.own hin
    refine behind_step t R ht hR P mP hP k _ hb ?_ ?_
    · unfold Ctx.sub
      split
      · exact (firstOf_drop M j _).1
      · exact (firstOf_drop M j _).1
    · unfold Ctx.sub
      split
      · rename_i h6
        intro hn
        exact .inr (.inl ⟨hi, o4, h6, (firstOf_drop M j _).2 hn⟩)
      · rename_i h6
        intro hn
        exact .inr (.inr ⟨hi, o4, h6, d, rfl, ((firstOf_drop M j _).2 hn).symm, ih⟩)
  induction hB with
  | top hg hj hb =>
    refine behind_step t R ht hR P mP hP k _ (.top hg hj hb) (firstOf_drop _ _ _).1 (fun hn => .inl ⟨(by decide : (-1 : Int) < 0), (firstOf_drop _ _ _).2 hn⟩)
  | thn h hin hi hj hb ih => exact sub _ _ _ hin hi (.thn h hin hi hj hb) ih
  | els h hin hi hj hb ih => exact sub _ _ _ hin hi (.els h hin hi hj hb) ih
end Go.Proofs.Ytaadamobapnfbaa
/- ref07: Next, All. -/
set_option linter.unusedVariables false
set_option linter.unusedSimpArgs false
set_option maxRecDepth 100000
namespace Go.Proofs.Ytaadamobapnfbaa
open Go Go.Abs
theorem first_get {L : List Int} (h : 0 < L.length) (B : Int) : (ints L)[0]? = some [vi (firstOf L B)] := by
  cases L with
  | nil => simp at h
  | cons x l => rfl
theorem first_nil {L : List Int} (h : ¬ 0 < L.length) (B : Int) : firstOf L B = B := by
  cases L with
  | nil => rfl
  | cons x l => simp at h
theorem next_walk (t : Tree) (R : Nat → Nat) (ht : TreeOk t) (hR : FR t R) (hJ : JumpsOk t) (P : List Pl) (mP : Nat) (hP : LaidOk t P) (k : Nat) (d : Ctx) (hin : InF t k d) :
    ACalls Try.prog 30 [.agg t.cells, .sl 4 mP 0 t.stmts.length, vi d.i] [.mu mP (pcells P)] (RV (.il 1 none (ints (way t d))) [.mu mP (pcells P)]) := by
  have hB := hin.beh ht hR
  have hok := hB.ok
  obtain ⟨lo, o1, o2, o3, o4⟩ := hR.own hin
  have i0 := o1.i0
  have hrow := tst_get i0 o4
  have hPl := hP.len
  have hbig := ht.big
  have hpl : (P.map Pl.cells)[d.i.toNat]? = some [.il 1 none (ints d.L), vi (d.k : Nat), vi d.inn, vi d.loop] := pl_get (hP.all k d hin)
  have hpk : (pcells P)[0 + d.i.toNat * 4 + 3]? = some (vi d.loop) := by rw [Nat.zero_add]; exact flatten_get (pl_rows P) hpl rfl
  have hbw := behinds t R ht hR P mP hP k d hB
  unfold CBeh at hbw
  generalize hs : t.stm d.i = s at hrow
  have hit := ints_len s.thn
  have hie := ints_len s.els
  refine ACalls.of_code (c := _) Try.func30 rfl Try.ntmps30 (Nat.le_of_ble_eq_true rfl) ?_
  refine ACode.seq (ACode.region ?_)
  refine ASeq.op rfl rfl (AOp.boxP rfl rfl rfl (fun _ => rfl) (fun _ => ?_))
  refine ASeq.q rfl rfl (QOp.assign rfl rfl) ?_
  refine ASeq.nil ?_
  rename_i m3
  refine ACode.seq (ACode.region ?_)
  refine ASeq.q rfl rfl (QOp.fieldM rfl rfl (tok _ rfl) rfl rfl (by decide) rfl) ?_
  refine ASeq.q rfl rfl (QOp.loadM 1 rfl rfl rfl (tok _ rfl) rfl) ?_
  refine ASeq.q rfl rfl (QOp.move rfl rfl) ?_
  refine ASeq.q rfl rfl (QOp.indexI rfl rfl rfl (tok _ rfl) rfl (tok _ rfl) (by omega) (by assumption)) ?_
  refine ASeq.q rfl rfl (QOp.loadI rfl rfl (tok _ rfl) rfl) ?_
  refine ASeq.op rfl rfl (AOp.allocP rfl (tok _ rfl) rfl rfl (fun _ => rfl) (fun _ => ?_))
  refine ASeq.op0 rfl rfl (AOp.storeP 2 rfl rfl rfl rfl (tok _ rfl) rfl rfl rfl rfl ?_)
  refine ASeq.nil ?_
  rename_i m7
  refine ACode.seq (ACode.region ?_)
  refine ASeq.q rfl rfl (QOp.loadM 1 rfl rfl rfl (tok _ rfl) rfl) ?_
  refine ASeq.q rfl rfl (QOp.move rfl rfl) ?_
  refine ASeq.q rfl rfl (QOp.move rfl rfl) ?_
  refine ASeq.op rfl rfl (AOp.callP 1 rfl (by kernel_rfl) rfl rfl rfl (hbw) ?_ (by rintro _ _ ⟨⟩))
  rintro _ _ ⟨⟩
  refine ASeq.q rfl rfl (QOp.assign rfl rfl) ?_
  refine ASeq.nil ?_
  refine ACode.seq (ACode.seq (ACode.region ?_))
  refine ASeq.q rfl rfl (QOp.fieldM rfl rfl (tok _ rfl) rfl rfl (by decide) rfl) ?_
  refine ASeq.q rfl rfl (QOp.loadM 2 rfl rfl rfl (tok _ rfl) rfl) ?_
  refine ASeq.nil ?_
  refine ACode.block (ACode.seq (ACode.region ?_))
  refine ASeq.q rfl rfl (QOp.cmp rfl rfl rfl rfl) ?_
  refine ASeq.q rfl rfl (QOp.assign rfl rfl) ?_
  refine ASeq.nil ?_
  refine AExit.then_normal ?_
  refine ACode.cond _ rfl (fun hb => ?_) (fun hb => ?_)
  · have hk5 : s.kind = 5 := by simpa using hb
    have hw : way t d = [firstOf s.thn d.behind, firstOf s.els d.behind] := by unfold way; rw [hs, if_pos hk5]
    rw [hw]
    refine ACode.seq (ACode.region ?_)
    refine ASeq.q rfl rfl (QOp.move rfl rfl) ?_
    refine ASeq.q rfl rfl (QOp.move rfl rfl) ?_
    refine ASeq.q rfl rfl (QOp.assign rfl rfl) ?_
    refine ASeq.q rfl rfl (QOp.assign rfl rfl) ?_
    refine ASeq.nil ?_
    refine AExit.then_normal ?_
    refine ACode.meet [(7, .mp m7 0), (10, vi d.behind), (9, vi (firstOf s.thn d.behind))] [.mu mP (pcells P), .mu m3 t.cells, .mu m7 s.cells] (fun rest => ?_) ?_
    · refine ACode.seq (ACode.region ?_)
      refine ASeq.q rfl rfl (QOp.fieldM rfl rfl (tok _ rfl) rfl rfl (by decide) rfl) ?_
      refine ASeq.q rfl rfl (QOp.loadM 2 rfl rfl rfl (tok _ rfl) rfl) ?_
      refine ASeq.q rfl rfl (QOp.lenI rfl rfl (tok _ rfl) rfl) ?_
      refine ASeq.q rfl rfl (QOp.cmp rfl rfl rfl rfl) ?_
      refine ASeq.nil ?_
      refine AExit.then_normal ?_
      refine ACode.cond _ rfl (fun hb => ?_) (fun hb => ?_)
      · have hlt : 0 < s.thn.length := by have := of_decide_eq_true hb; rw [hit] at this; omega
        have hget := first_get hlt d.behind
        refine ACode.region ?_
        refine ASeq.q rfl rfl (QOp.fieldM rfl rfl (tok _ rfl) rfl rfl (by decide) rfl) ?_
        refine ASeq.q rfl rfl (QOp.loadM 2 rfl rfl rfl (tok _ rfl) rfl) ?_
        refine ASeq.q rfl rfl (QOp.indexI rfl rfl rfl (tok _ rfl) rfl (tok _ rfl) (by decide) (by assumption)) ?_
        refine ASeq.q rfl rfl (QOp.loadI rfl rfl (tok _ rfl) rfl) ?_
        refine ASeq.q rfl rfl (QOp.assign rfl rfl) ?_
        refine ASeq.nil ?_
        refine AExit.then_normal ?_
        exact rest.atP 3 (.cons rfl (.cons rfl (.cons rfl .nil))) rfl
      · have hlt : ¬ 0 < s.thn.length := by have := of_decide_eq_false hb; rw [hit] at this; omega
        refine ACode.skip ?_
        refine AExit.then_normal ?_
        exact rest.atP 3 (.cons rfl (.cons rfl (.consE rfl (by rw [first_nil hlt]) .nil))) rfl
    refine ACode.meet [(9, vi (firstOf s.thn d.behind)), (10, vi (firstOf s.els d.behind))] [.mu mP (pcells P), .mu m3 t.cells, .mu m7 s.cells] (fun rest => ?_) ?_
    · refine ACode.seq (ACode.region ?_)
      refine ASeq.q rfl rfl (QOp.fieldM rfl rfl (tok _ rfl) rfl rfl (by decide) rfl) ?_
      refine ASeq.q rfl rfl (QOp.loadM 2 rfl rfl rfl (tok _ rfl) rfl) ?_
      refine ASeq.q rfl rfl (QOp.lenI rfl rfl (tok _ rfl) rfl) ?_
      refine ASeq.q rfl rfl (QOp.cmp rfl rfl rfl rfl) ?_
      refine ASeq.nil ?_
      refine AExit.then_normal ?_
      refine ACode.cond _ rfl (fun hb => ?_) (fun hb => ?_)
      · have hlt : 0 < s.els.length := by have := of_decide_eq_true hb; rw [hie] at this; omega
        have hget := first_get hlt d.behind
        refine ACode.region ?_
        refine ASeq.q rfl rfl (QOp.fieldM rfl rfl (tok _ rfl) rfl rfl (by decide) rfl) ?_
        refine ASeq.q rfl rfl (QOp.loadM 2 rfl rfl rfl (tok _ rfl) rfl) ?_
        refine ASeq.q rfl rfl (QOp.indexI rfl rfl rfl (tok _ rfl) rfl (tok _ rfl) (by decide) (by assumption)) ?_
        refine ASeq.q rfl rfl (QOp.loadI rfl rfl (tok _ rfl) rfl) ?_
        refine ASeq.q rfl rfl (QOp.assign rfl rfl) ?_
        refine ASeq.nil ?_
        refine AExit.then_normal ?_
        exact rest.atP 3 (.cons rfl (.cons rfl .nil)) rfl
      · have hlt : ¬ 0 < s.els.length := by have := of_decide_eq_false hb; rw [hie] at this; omega
        refine ACode.skip ?_
        refine AExit.then_normal ?_
        exact rest.atP 3 (.cons rfl (.consE rfl (by rw [first_nil hlt]) .nil)) rfl
    refine ACode.seq (ACode.region ?_)
    refine ASeq.q rfl rfl (QOp.move rfl rfl) ?_
    refine ASeq.q rfl rfl (QOp.move rfl rfl) ?_
    refine ASeq.op rfl rfl (AOp.buildSliceR rfl (tok _ rfl) rfl (tok _ rfl) (by decide) rfl (by decide) rfl rfl rfl rfl ?_)
    refine ASeq.q rfl rfl (QOp.assign rfl rfl) ?_
    refine ASeq.nil ?_
    refine ACode.ret (AExit.in_ret (AExit.then_ret ?_))
    refine bodyQ_ret 1 (.tmp rfl .nil) rfl ?_
    exact .mk
  have hne5 : s.kind ≠ 5 := by simpa using hb
  refine ACode.seq (ACode.region ?_)
  refine ASeq.q rfl rfl (QOp.cmp rfl rfl rfl rfl) ?_
  refine ASeq.q rfl rfl (QOp.assign rfl rfl) ?_
  refine ASeq.nil ?_
  refine AExit.then_normal ?_
  refine ACode.cond _ rfl (fun hb => ?_) (fun hb => ?_)
  · have hk6 : s.kind = 6 := by simpa using hb
    have hw : way t d = [firstOf s.thn d.i, d.behind] := by unfold way; rw [hs, if_neg hne5, if_pos hk6]
    rw [hw]
    refine ACode.seq (ACode.seq (ACode.region ?_))
    refine ASeq.q rfl rfl (QOp.fieldM rfl rfl (tok _ rfl) rfl rfl (by decide) rfl) ?_
    refine ASeq.q rfl rfl (QOp.loadM 2 rfl rfl rfl (tok _ rfl) rfl) ?_
    refine ASeq.q rfl rfl (QOp.lenI rfl rfl (tok _ rfl) rfl) ?_
    refine ASeq.q rfl rfl (QOp.cmp rfl rfl rfl rfl) ?_
    refine ASeq.nil ?_
    refine AExit.then_normal ?_
    refine ACode.cond _ rfl (fun hb => ?_) (fun hb => ?_)
    · have hlt : 0 < s.thn.length := by have := of_decide_eq_true hb; rw [hit] at this; omega
      have hget := first_get hlt d.i
      refine ACode.seq (ACode.region ?_)
      refine ASeq.q rfl rfl (QOp.fieldM rfl rfl (tok _ rfl) rfl rfl (by decide) rfl) ?_
      refine ASeq.q rfl rfl (QOp.loadM 2 rfl rfl rfl (tok _ rfl) rfl) ?_
      refine ASeq.q rfl rfl (QOp.indexI rfl rfl rfl (tok _ rfl) rfl (tok _ rfl) (by decide) (by assumption)) ?_
      refine ASeq.q rfl rfl (QOp.loadI rfl rfl (tok _ rfl) rfl) ?_
      refine ASeq.q rfl rfl (QOp.move rfl rfl) ?_
      refine ASeq.op rfl rfl (AOp.buildSliceR rfl (tok _ rfl) rfl (tok _ rfl) (by decide) rfl (by decide) rfl rfl rfl rfl ?_)
      refine ASeq.q rfl rfl (QOp.assign rfl rfl) ?_
      refine ASeq.nil ?_
      refine ACode.ret (AExit.then_ret (AExit.in_ret (AExit.then_ret ?_)))
      refine bodyQ_ret 1 (.tmp rfl .nil) rfl ?_
      exact .mk
    · have hlt : ¬ 0 < s.thn.length := by have := of_decide_eq_false hb; rw [hit] at this; omega
      rw [first_nil hlt]
      refine ACode.skip (ACode.seq (ACode.region ?_))
      refine ASeq.q rfl rfl (QOp.move rfl rfl) ?_
      refine ASeq.q rfl rfl (QOp.move rfl rfl) ?_
      refine ASeq.op rfl rfl (AOp.buildSliceR rfl (tok _ rfl) rfl (tok _ rfl) (by decide) rfl (by decide) rfl rfl rfl rfl ?_)
      refine ASeq.q rfl rfl (QOp.assign rfl rfl) ?_
      refine ASeq.nil ?_
      refine ACode.ret (AExit.in_ret (AExit.then_ret ?_))
      refine bodyQ_ret 1 (.tmp rfl .nil) rfl ?_
      exact .mk
  have hne6 : s.kind ≠ 6 := by simpa using hb
  have hjc := hJ k d hin
  rw [hs] at hjc
  refine ACode.seq (ACode.region ?_)
  refine ASeq.q rfl rfl (QOp.cmp rfl rfl rfl rfl) ?_
  refine ASeq.q rfl rfl (QOp.assign rfl rfl) ?_
  refine ASeq.nil ?_
  refine AExit.then_normal ?_
  refine ACode.cond _ rfl (fun hb => ?_) (fun hb => ?_)
  · have hk7 : s.kind = 7 := by simpa using hb
    have hw : way t d = [d.lb] := by unfold way; rw [hs, if_neg hne5, if_neg hne6, if_pos hk7]
    rw [hw]
    have hl0 := hjc (.inl hk7)
    obtain ⟨k2, e, h1, h2, h3⟩ : ∃ k e, InF t k e ∧ e.i = d.loop ∧ e.behind = d.lb := by
      rcases hok.loop with h | h
      · omega
      · exact h
    have hbe := behinds t R ht hR P mP hP k2 e (h1.beh ht hR)
    unfold CBeh at hbe
    rw [h2, h3] at hbe
    refine ACode.seq ?_
    refine ACode.drawn [[], [], [], [], [2, 3], [2, 3, 4], [2, 3, 4, 5], [0, 1, 2, 3, 4, 5, 6], [0, 1, 2, 3, 4, 5, 6, 7], [0, 1, 2, 3, 4, 5, 6, 7, 8]] (by kernel_rfl) mixed ?_
    refine DAny.ld 0 rfl rfl (by kernel_rfl) rfl (.does _ _ rfl (.none rfl) (QOp.loadM 1 rfl rfl rfl (tok _ rfl) rfl)) ?_
    refine DAny.qu 1 rfl rfl (by kernel_rfl) rfl (fun _ => .does _ _ rfl (.none rfl) (QOp.move rfl rfl)) ?_
    refine DAny.qu 2 rfl rfl (by kernel_rfl) rfl (fun _ => .does _ _ rfl (.none rfl) (QOp.move rfl rfl)) ?_
    refine DAny.qu 3 rfl rfl (by kernel_rfl) rfl (fun _ => .does _ _ rfl (.none rfl) (QOp.move rfl rfl)) ?_
    refine DAny.qu 4 rfl rfl (by kernel_rfl) rfl (fun _ => .does _ _ rfl (.none rfl) (QOp.indexM rfl rfl rfl (tok _ rfl) rfl (tok _ rfl) (by omega) (by omega) rfl)) ?_
    refine DAny.qu 5 rfl rfl (by kernel_rfl) rfl (fun _ => .does _ _ rfl (.none rfl) (QOp.fieldM rfl rfl (tok _ rfl) rfl rfl (by decide) rfl)) ?_
    refine DAny.ld 6 rfl rfl (by kernel_rfl) rfl (.does _ _ rfl (.none rfl) (QOp.loadAt 0 rfl rfl rfl (tok _ rfl) rfl (by assumption))) ?_
    refine DAny.ef 7 rfl (by kernel_rfl) (.none rfl) rfl rfl (AOp.callP 1 rfl (by kernel_rfl) rfl rfl rfl (hbe) ?_ (by rintro _ _ ⟨⟩))
    rintro _ _ ⟨⟩
    refine ⟨(by ((exact AllQ.nil))), ?_⟩
    refine DAny.ef 8 rfl (by kernel_rfl) (.none rfl) rfl rfl (AOp.buildSliceR rfl (tok _ rfl) rfl (tok _ rfl) (by decide) rfl (by decide) rfl rfl rfl rfl ⟨(by ((exact AllQ.nil))), ?_⟩)
    refine DAny.ef 9 rfl (by kernel_rfl) (.none rfl) rfl rfl (.q (QOp.assign rfl rfl) ⟨(by ((exact AllQ.nil))), ?_⟩)
    refine DAny.done (by kernel_rfl) ?_
    refine ACode.ret (AExit.in_ret (AExit.then_ret ?_))
    refine bodyQ_ret 1 (.tmp rfl .nil) rfl ?_
    exact .mk
  have hne7 : s.kind ≠ 7 := by simpa using hb
  refine ACode.seq (ACode.region ?_)
  refine ASeq.q rfl rfl (QOp.cmp rfl rfl rfl rfl) ?_
  refine ASeq.q rfl rfl (QOp.assign rfl rfl) ?_
  refine ASeq.nil ?_
  refine AExit.then_normal ?_
  refine ACode.cond _ rfl (fun hb => ?_) (fun hb => ?_)
  · have hk8 : s.kind = 8 := by simpa using hb
    have hw : way t d = [d.loop] := by unfold way; rw [hs, if_neg hne5, if_neg hne6, if_neg hne7, if_pos hk8]
    rw [hw]
    refine ACode.seq (ACode.region ?_)
    refine ASeq.q rfl rfl (QOp.move rfl rfl) ?_
    refine ASeq.q rfl rfl (QOp.move rfl rfl) ?_
    refine ASeq.q rfl rfl (QOp.indexM rfl rfl rfl (tok _ rfl) rfl (tok _ rfl) (by omega) (by omega) rfl) ?_
    refine ASeq.q rfl rfl (QOp.fieldM rfl rfl (tok _ rfl) rfl rfl (by decide) rfl) ?_
    refine ASeq.q rfl rfl (QOp.loadAt 0 rfl rfl rfl (tok _ rfl) rfl (by assumption)) ?_
    refine ASeq.op rfl rfl (AOp.buildSliceR rfl (tok _ rfl) rfl (tok _ rfl) (by decide) rfl (by decide) rfl rfl rfl rfl ?_)
    refine ASeq.q rfl rfl (QOp.assign rfl rfl) ?_
    refine ASeq.nil ?_
    refine ACode.ret (AExit.in_ret (AExit.then_ret ?_))
    refine bodyQ_ret 1 (.tmp rfl .nil) rfl ?_
    exact .mk
  have hne8 : s.kind ≠ 8 := by simpa using hb
  refine ACode.seq (ACode.region ?_)
  refine ASeq.q rfl rfl (QOp.cmp rfl rfl rfl rfl) ?_
  refine ASeq.q rfl rfl (QOp.assign rfl rfl) ?_
  refine ASeq.nil ?_
  refine AExit.then_normal ?_
  refine ACode.cond _ rfl (fun hb => ?_) (fun hb => ?_)
  · have hk9 : s.kind = 9 := by simpa using hb
    have hw : way t d = [-1] := by unfold way; rw [hs, if_neg hne5, if_neg hne6, if_neg hne7, if_neg hne8, if_pos hk9]
    rw [hw]
    refine ACode.seq (ACode.region ?_)
    refine ASeq.op rfl rfl (AOp.buildSliceR rfl (tok _ rfl) rfl (tok _ rfl) (by decide) rfl (by decide) rfl rfl rfl rfl ?_)
    refine ASeq.q rfl rfl (QOp.assign rfl rfl) ?_
    refine ASeq.nil ?_
    refine ACode.ret (AExit.in_ret (AExit.then_ret ?_))
    refine bodyQ_ret 1 (.tmp rfl .nil) rfl ?_
    exact .mk
  · have hne9 : s.kind ≠ 9 := by simpa using hb
    have hw : way t d = [d.behind] := by unfold way; rw [hs, if_neg hne5, if_neg hne6, if_neg hne7, if_neg hne8, if_neg hne9]
    rw [hw]
    refine ACode.skip (ACode.seq (ACode.region ?_))
    refine ASeq.q rfl rfl (QOp.move rfl rfl) ?_
    refine ASeq.op rfl rfl (AOp.buildSliceR rfl (tok _ rfl) rfl (tok _ rfl) (by decide) rfl (by decide) rfl rfl rfl rfl ?_)
    refine ASeq.q rfl rfl (QOp.assign rfl rfl) ?_
    refine ASeq.nil ?_
    refine ACode.ret ?_
    refine bodyQ_ret 1 (.tmp rfl .nil) rfl ?_
    exact .mk
def nxrows (ws : List (List Int)) : List (List AV) := ws.map fun w => [nxc w]
inductive RA (t : Tree) : AOut → List Abs.Item → Prop
  | mk (ws : List (List Int)) (hl : ws.length = t.stmts.length) (h : ∀ j, j < t.stmts.length → ∃ k d, InF t k d ∧ d.i = j ∧ ws[j]? = some (way t d)) : RA t (.ret (.il 1 none (nxrows ws))) []
theorem nxrows_len (ws : List (List Int)) : (nxrows ws).length = ws.length := by simp [nxrows]
theorem nxrows_snoc (ws : List (List Int)) (w : List Int) : nxrows ws ++ [[nxc w]] = nxrows (ws ++ [w]) := by simp [nxrows]
theorem nxrows_rows (ws : List (List Int)) (w : List Int) : ∀ r ∈ nxrows ws ++ [[nxc w]], r.length = 1 := rows_ok 1 _ _ (fun y hy => by obtain ⟨z, _, rfl⟩ := List.mem_map.1 hy; rfl) rfl
theorem all_walk (t : Tree) (R : Nat → Nat) (ht : TreeOk t) (hR : FR t R) (hJ : JumpsOk t) : ACalls Try.prog 17 [.agg t.cells] [] (RA t) := by
  refine ACalls.retellR ?_
  have hSl : (t.stmts.map St.cells).length = t.stmts.length := List.length_map ..
  have hbig := ht.big
  have hpl := places_walk t R ht hR
  refine ACalls.of_code (c := _) Try.func17 rfl Try.ntmps17 (Nat.le_of_ble_eq_true rfl) ?_
  refine ACode.newTok (fun τ => ?_)
  refine ACode.seq (ACode.region ?_)
  refine ASeq.op rfl rfl (AOp.boxP rfl rfl rfl (fun _ => rfl) (fun _ => ?_))
  refine ASeq.q rfl rfl (QOp.assign rfl rfl) ?_
  refine ASeq.nil ?_
  rename_i m1
  refine ACode.seq (ACode.region ?_)
  refine ASeq.q rfl rfl (QOp.loadM 1 rfl rfl rfl (tok _ rfl) rfl) ?_
  refine ASeq.op rfl rfl (AOp.callP 0 rfl (by kernel_rfl) rfl rfl rfl hpl ?_ (by rintro _ _ ⟨⟩))
  rintro _ _ ⟨mP, P, hP⟩
  refine ASeq.q rfl rfl (QOp.assign rfl rfl) ?_
  refine ASeq.nil ?_
  refine ACode.seq (ACode.region ?_)
  refine ASeq.q rfl rfl (QOp.assign rfl rfl) ?_
  refine ASeq.nil ?_
  refine ACode.seq (ACode.seq (ACode.region ?_))
  refine ASeq.slot 4 rfl (.nilT 1 (some τ)) ?_
  refine ASeq.q rfl rfl (QOp.fieldM rfl rfl (tok _ rfl) rfl rfl (by decide) rfl) ?_
  refine ASeq.q rfl rfl (QOp.loadM 2 rfl rfl rfl (tok _ rfl) rfl) ?_
  refine ASeq.q rfl rfl (QOp.lenI rfl rfl (tok _ rfl) rfl) ?_
  refine ASeq.q rfl rfl (QOp.move rfl rfl) ?_
  refine ASeq.nil ?_
  refine ACode.block ?_
  refine ACode.loopP (fun (x : Nat × List (List Int) × Nat) => [(1, .mp m1 0), (3, .sl 4 mP 0 t.stmts.length), (4, .il 1 (some x.2.2) (nxrows x.2.1)), (10, vi ((t.stmts.map St.cells).length : Int)), (11, vi x.1)])
    (fun x => [.mu mP (pcells P), .tk x.2.2, .mu m1 t.cells]) (fun x => t.stmts.length - x.1)
    (fun x => x.1 ≤ t.stmts.length ∧ x.2.1.length = x.1 ∧ ∀ j, j < x.1 → ∃ k d, InF t k d ∧ d.i = j ∧ x.2.1[j]? = some (way t d))
    (0, [], τ) ⟨Nat.zero_le _, rfl, fun j hj => by omega⟩ (.cons rfl (.cons rfl (.cons rfl (.cons rfl (.cons rfl .nil))))) 3 rfl ?_
  rintro ⟨i, ws, τ⟩ ⟨hi, hl, hw⟩
  dsimp only at hi hl hw
  have hnl := nxrows_len ws
  refine ACode.seq (ACode.region ?_)
  refine ASeq.q rfl rfl (QOp.cmp rfl rfl rfl rfl) ?_
  refine ASeq.nil ?_
  refine ACode.seq ?_
  refine ACode.cond _ rfl (fun hb => ?_) (fun hb => ?_)
  · have hlt : i < t.stmts.length := by have := of_decide_eq_true hb; rw [hSl] at this; omega
    obtain ⟨k, d, hk, hin, hdi⟩ := hR.ex hlt
    have hn := next_walk t R ht hR hJ P mP hP k d hin
    rw [hdi] at hn
    refine ACode.skip (ACode.seq (ACode.block (ACode.seq (ACode.region ?_))))
    refine ASeq.q rfl rfl (QOp.move rfl rfl) ?_
    refine ASeq.q rfl rfl (QOp.assign rfl rfl) ?_
    refine ASeq.nil ?_
    refine ACode.region ?_
    refine ASeq.q rfl rfl (QOp.move rfl rfl) ?_
    refine ASeq.q rfl rfl (QOp.loadM 2 rfl rfl rfl (tok _ rfl) rfl) ?_
    refine ASeq.q rfl rfl (QOp.move rfl rfl) ?_
    refine ASeq.q rfl rfl (QOp.move rfl rfl) ?_
    refine ASeq.op rfl rfl (AOp.callP 1 rfl (by kernel_rfl) rfl rfl rfl hn ?_ (by rintro _ _ ⟨⟩))
    rintro _ _ ⟨⟩
    refine ASeq.op rfl rfl (AOp.buildSliceR rfl (tok _ rfl) rfl (tok _ rfl) (by decide) rfl (by decide) rfl rfl rfl rfl ?_)
    refine ASeq.op rfl rfl (AOp.appendP 1 (e := 30) (tde := TT 30) rfl rfl rfl rfl (tok _ rfl) rfl (tok _ rfl) (tok _ rfl) rfl (by decide) rfl rfl (fun _ => rfl) (nxrows_rows ws (way t d)) (by simp only [nxrows_len, List.length_cons, List.length_nil]; omega) rfl (fun _ => ?_))
    refine ASeq.q rfl rfl (QOp.assign rfl rfl) ?_
    refine ASeq.nil ?_
    refine ACode.region ?_
    refine ASeq.q rfl rfl (QOp.ar64 rfl rfl rfl rfl ⟨by omega, by omega⟩) ?_
    refine ASeq.q rfl rfl (QOp.move rfl rfl) ?_
    refine ASeq.nil ?_
    refine AExit.then_normal ?_
    refine ⟨(i + 1, ws ++ [way t d], _), 3, ⟨hlt, by simp only [List.length_append, hl]; rfl, fun j hj => ?_⟩, by dsimp only; omega, .cons rfl (.cons rfl (.consE rfl (by show AV.il 1 _ (nxrows ws ++ [[nxc (way t d)]]) = _; rw [nxrows_snoc]) (.cons rfl (.cons rfl .nil)))), rfl⟩
    by_cases hji : j = i
    · subst hji
      exact ⟨k, d, hin, hdi, by dsimp only; rw [List.getElem?_append_right (by omega), hl]; simp⟩
    · obtain ⟨k', d', q1, q2, q3⟩ := hw j (by dsimp only at hj; omega)
      exact ⟨k', d', q1, q2, get_append q3⟩
  · have hge : i = t.stmts.length := by have := of_decide_eq_false hb; rw [hSl] at this; omega
    refine ACode.exit (ACode.seq (ACode.region ?_))
    refine ASeq.q rfl rfl (QOp.move rfl rfl) ?_
    refine ASeq.q rfl rfl (QOp.assign rfl rfl) ?_
    refine ASeq.nil ?_
    refine ACode.ret ?_
    refine bodyQ_ret 0 (.tmp rfl .nil) rfl ?_
    exact ⟨_, .tok 1 _ _, .mk ws (hl.trans hge) (fun j hj => hw j (by omega))⟩
theorem FR.same {t : Tree} {a b : List (List Int)} (ha : FlowOk t a) (hb : b.length = t.stmts.length) (h : ∀ j, j < t.stmts.length → ∃ k d, InF t k d ∧ d.i = j ∧ b[j]? = some (way t d)) : a = b := by
  apply List.ext_getElem?
  intro i
  by_cases hi : i < t.stmts.length
  · obtain ⟨k, d, q1, q2, q3⟩ := h i hi
    have := ha.ways k d q1
    rw [q2, Int.toNat_natCast] at this
    rw [this, q3]
  · rw [List.getElem?_eq_none (by have := ha.len; omega), List.getElem?_eq_none (by omega)]
end Go.Proofs.Ytaadamobapnfbaa
/- FlowGraphs: the walk. -/
set_option linter.unusedVariables false
set_option linter.unusedSimpArgs false
set_option maxRecDepth 1000000
namespace Go.Proofs.Ytaadamobapnfbaa
open Go Go.Abs
theorem RightT.all {s : ByteArray} {t : Tree} {R : Nat → Nat} (h : RightT s t R) : ACalls Try.prog 17 [.agg t.cells] [] (RA t) := by
  obtain ⟨h1, h2, h3, h4⟩ := h.ok
  exact all_walk t R h1 h.fr h3
theorem sameI_refl (l : List Int) : sameI l l = true := (sameI_eq l l).2 rfl
theorem nxrows_get {ws : List (List Int)} {i : Nat} (h : i < ws.length) : (nxrows ws)[i]? = some [nxc ws[i]] := by
  simp only [nxrows, List.getElem?_map, List.getElem?_eq_getElem h, Option.map_some]
theorem nx_get {nx : List (List Int)} {i : Nat} (h : i < nx.length) : (nx.map nxc)[0 + i * 1]? = some (nxc nx[i]) := by
  rw [Nat.zero_add, Nat.mul_one, List.getElem?_map, List.getElem?_eq_getElem h]; rfl
theorem way_len (t : Tree) (d : Ctx) : (way t d).length ≤ 2 := by
  unfold way; repeat' split
  all_goals simp
theorem FlowOk.small {t : Tree} {R : Nat → Nat} (hR : FR t R) {nx : List (List Int)} (h : FlowOk t nx) {i : Nat} (hi : i < nx.length) : nx[i].length ≤ 2 := by
  obtain ⟨k, d, hk, hin, hd⟩ := hR.ex (i := i) (by rw [← h.len]; exact hi)
  have := h.ways k d hin
  rw [hd, Int.toNat_natCast, List.getElem?_eq_getElem hi] at this
  rw [Option.some.inj this]; exact way_len t d
theorem firsts_len (t : Tree) : (firsts t).length = t.funcs.length := by simp [firsts]
theorem firsts_get {t : Tree} {i : Nat} (h : i < t.funcs.length) : (ints (firsts t))[i]? = some [vi (firstOf t.funcs[i].body (-1))] := by
  have : i < (firsts t).length := by rw [firsts_len]; exact h
  rw [ints_get this]; simp [firsts]
set_option maxHeartbeats 1000000 in
theorem flowGraphs_walk (s : ByteArray) : ACalls Try.prog 3 [vs s] [] (RV (.v (.bool true)) []) := by
  have haw := awake7_walk
  have hri := right_walk s
  refine ACalls.of_code (c := _) Try.func3 rfl Try.ntmps3 (Nat.le_of_ble_eq_true rfl) ?_
  repeat (first | (refine ACode.seq ?_) | (refine ACode.region ?_) | (refine ACode.ret ?_) | (refine ACode.skip ?_) | (refine ACode.exit ?_) | (refine ACode.block ?_) | (refine AExit.then_normal ?_) | (refine AExit.then_ret ?_) | (refine AExit.then_exit ?_) | (refine AExit.in_normal ?_) | (refine AExit.in_ret ?_) | (refine AExit.in_same ?_) | (refine AExit.in_other rfl ?_) | (refine ASeq.nil ?_))
  refine ASeq.q rfl rfl (QOp.assign rfl rfl) ?_
  refine ASeq.nil ?_
  repeat (first | (refine ACode.seq ?_) | (refine ACode.region ?_) | (refine ACode.ret ?_) | (refine ACode.skip ?_) | (refine ACode.exit ?_) | (refine ACode.block ?_) | (refine AExit.then_normal ?_) | (refine AExit.then_ret ?_) | (refine AExit.then_exit ?_) | (refine AExit.in_normal ?_) | (refine AExit.in_ret ?_) | (refine AExit.in_same ?_) | (refine AExit.in_other rfl ?_) | (refine ASeq.nil ?_))
  refine ASeq.op rfl rfl (AOp.callP 0 rfl (by kernel_rfl) rfl rfl rfl (haw) ?_ (by rintro _ _ ⟨⟩))
  rintro _ _ ⟨⟩
  refine ASeq.q rfl rfl (QOp.not rfl rfl) ?_
  refine ASeq.nil ?_
  repeat (first | (refine ACode.seq ?_) | (refine ACode.region ?_) | (refine ACode.ret ?_) | (refine ACode.skip ?_) | (refine ACode.exit ?_) | (refine ACode.block ?_) | (refine AExit.then_normal ?_) | (refine AExit.then_ret ?_) | (refine AExit.then_exit ?_) | (refine AExit.in_normal ?_) | (refine AExit.in_ret ?_) | (refine AExit.in_same ?_) | (refine AExit.in_other rfl ?_) | (refine ASeq.nil ?_))
  refine ACode.cond _ rfl (fun hb => by cases hb) (fun _ => ?_)
  repeat (first | (refine ACode.seq ?_) | (refine ACode.region ?_) | (refine ACode.ret ?_) | (refine ACode.skip ?_) | (refine ACode.exit ?_) | (refine ACode.block ?_) | (refine AExit.then_normal ?_) | (refine AExit.then_ret ?_) | (refine AExit.then_exit ?_) | (refine AExit.in_normal ?_) | (refine AExit.in_ret ?_) | (refine AExit.in_same ?_) | (refine AExit.in_other rfl ?_) | (refine ASeq.nil ?_))
  refine ASeq.q rfl rfl (QOp.move rfl rfl) ?_
  refine ASeq.op rfl rfl (AOp.callP 0 rfl (by kernel_rfl) rfl rfl rfl (hri) ?_ (by rintro _ _ ⟨⟩))
  rintro _ _ ⟨⟩
  refine ASeq.q rfl rfl (QOp.move rfl rfl) ?_
  refine ASeq.q rfl rfl (QOp.extract rfl rfl rfl) ?_
  refine ASeq.q rfl rfl (QOp.extract rfl rfl rfl) ?_
  refine ASeq.op rfl rfl (AOp.allocP rfl (tok _ rfl) rfl rfl (fun _ => rfl) (fun _ => ?_))
  first | (refine ASeq.op0 rfl rfl (AOp.storeP 0 rfl rfl rfl rfl (tok _ rfl) rfl rfl rfl rfl ?_)) | (refine ASeq.op0 rfl rfl (AOp.storeP 1 rfl rfl rfl rfl (tok _ rfl) rfl rfl rfl rfl ?_)) | (refine ASeq.op0 rfl rfl (AOp.storeP 2 rfl rfl rfl rfl (tok _ rfl) rfl rfl rfl rfl ?_)) | (refine ASeq.op0 rfl rfl (AOp.storeP 3 rfl rfl rfl rfl (tok _ rfl) rfl rfl rfl rfl ?_)) | (refine ASeq.op0 rfl rfl (AOp.storeP 4 rfl rfl rfl rfl (tok _ rfl) rfl rfl rfl rfl ?_)) | (refine ASeq.op0 rfl rfl (AOp.storeP 5 rfl rfl rfl rfl (tok _ rfl) rfl rfl rfl rfl ?_)) | (refine ASeq.op0 rfl rfl (AOp.storeP 6 rfl rfl rfl rfl (tok _ rfl) rfl rfl rfl rfl ?_)) | (refine ASeq.op0 rfl rfl (AOp.storeP 7 rfl rfl rfl rfl (tok _ rfl) rfl rfl rfl rfl ?_)) | (refine ASeq.op0 rfl rfl (AOp.storeP 8 rfl rfl rfl rfl (tok _ rfl) rfl rfl rfl rfl ?_)) | (refine ASeq.op0 rfl rfl (AOp.storeP 9 rfl rfl rfl rfl (tok _ rfl) rfl rfl rfl rfl ?_)) | (refine ASeq.op0 rfl rfl (AOp.storeP 10 rfl rfl rfl rfl (tok _ rfl) rfl rfl rfl rfl ?_)) | (refine ASeq.op0 rfl rfl (AOp.storeP 11 rfl rfl rfl rfl (tok _ rfl) rfl rfl rfl rfl ?_)) | (refine ASeq.op0 rfl rfl (AOp.storeP 12 rfl rfl rfl rfl (tok _ rfl) rfl rfl rfl rfl ?_)) | (refine ASeq.op0 rfl rfl (AOp.storeP 13 rfl rfl rfl rfl (tok _ rfl) rfl rfl rfl rfl ?_)) | (refine ASeq.op0 rfl rfl (AOp.storeP 14 rfl rfl rfl rfl (tok _ rfl) rfl rfl rfl rfl ?_)) | (refine ASeq.op0 rfl rfl (AOp.storeP 15 rfl rfl rfl rfl (tok _ rfl) rfl rfl rfl rfl ?_))
  refine ASeq.q rfl rfl (QOp.assign rfl rfl) ?_
  refine ASeq.nil ?_
  rename_i m3
  repeat (first | (refine ACode.seq ?_) | (refine ACode.region ?_) | (refine ACode.ret ?_) | (refine ACode.skip ?_) | (refine ACode.exit ?_) | (refine ACode.block ?_) | (refine AExit.then_normal ?_) | (refine AExit.then_ret ?_) | (refine AExit.then_exit ?_) | (refine AExit.in_normal ?_) | (refine AExit.in_ret ?_) | (refine AExit.in_same ?_) | (refine AExit.in_other rfl ?_) | (refine ASeq.nil ?_))
  refine ASeq.q rfl rfl (QOp.move rfl rfl) ?_
  refine ASeq.q rfl rfl (QOp.not rfl rfl) ?_
  refine ASeq.nil ?_
  repeat (first | (refine ACode.seq ?_) | (refine ACode.region ?_) | (refine ACode.ret ?_) | (refine ACode.skip ?_) | (refine ACode.exit ?_) | (refine ACode.block ?_) | (refine AExit.then_normal ?_) | (refine AExit.then_ret ?_) | (refine AExit.then_exit ?_) | (refine AExit.in_normal ?_) | (refine AExit.in_ret ?_) | (refine AExit.in_same ?_) | (refine AExit.in_other rfl ?_) | (refine ASeq.nil ?_))
  refine ACode.cond _ rfl (fun hb => ?_) (fun hb => ?_)
  · repeat (first | (refine ACode.seq ?_) | (refine ACode.region ?_) | (refine ACode.ret ?_) | (refine ACode.skip ?_) | (refine ACode.exit ?_) | (refine ACode.block ?_) | (refine AExit.then_normal ?_) | (refine AExit.then_ret ?_) | (refine AExit.then_exit ?_) | (refine AExit.in_normal ?_) | (refine AExit.in_ret ?_) | (refine AExit.in_same ?_) | (refine AExit.in_other rfl ?_) | (refine ASeq.nil ?_))
    refine ASeq.q rfl rfl (QOp.assign rfl rfl) ?_
    refine ASeq.nil ?_
    repeat (first | (refine ACode.seq ?_) | (refine ACode.region ?_) | (refine ACode.ret ?_) | (refine ACode.skip ?_) | (refine ACode.exit ?_) | (refine ACode.block ?_) | (refine AExit.then_normal ?_) | (refine AExit.then_ret ?_) | (refine AExit.then_exit ?_) | (refine AExit.in_normal ?_) | (refine AExit.in_ret ?_) | (refine AExit.in_same ?_) | (refine AExit.in_other rfl ?_) | (refine ASeq.nil ?_))
    refine bodyQ_ret 0 (.tmp rfl .nil) rfl ?_
    exact .mk
  have hright : (rightOf s).2 = true := by simpa using hb
  obtain ⟨R, hT⟩ := rightT hright
  have hof := hT.of
  have hal := hT.all
  have hR := hT.fr
  obtain ⟨ht, hst, hJ, hfu⟩ := hT.ok
  generalize (rightOf s).1 = t at *
  have hbig := ht.big
  have hFl : (t.funcs.map Fu.cells).length = t.funcs.length := List.length_map ..
  have hfl : (ints (firsts t)).length = t.funcs.length := by rw [ints_len, firsts_len]
  repeat (first | (refine ACode.seq ?_) | (refine ACode.region ?_) | (refine ACode.ret ?_) | (refine ACode.skip ?_) | (refine ACode.exit ?_) | (refine ACode.block ?_) | (refine AExit.then_normal ?_) | (refine AExit.then_ret ?_) | (refine AExit.then_exit ?_) | (refine AExit.in_normal ?_) | (refine AExit.in_ret ?_) | (refine AExit.in_same ?_) | (refine AExit.in_other rfl ?_) | (refine ASeq.nil ?_))
  first | (refine ASeq.q rfl rfl (QOp.loadI rfl rfl (tok _ rfl) rfl) ?_) | (refine ASeq.q rfl rfl (QOp.loadM 0 rfl rfl rfl (tok _ rfl) rfl) ?_) | (refine ASeq.q rfl rfl (QOp.loadM 1 rfl rfl rfl (tok _ rfl) rfl) ?_) | (refine ASeq.q rfl rfl (QOp.loadM 2 rfl rfl rfl (tok _ rfl) rfl) ?_) | (refine ASeq.q rfl rfl (QOp.loadM 3 rfl rfl rfl (tok _ rfl) rfl) ?_) | (refine ASeq.q rfl rfl (QOp.loadM 4 rfl rfl rfl (tok _ rfl) rfl) ?_) | (refine ASeq.q rfl rfl (QOp.loadM 5 rfl rfl rfl (tok _ rfl) rfl) ?_) | (refine ASeq.q rfl rfl (QOp.loadM 6 rfl rfl rfl (tok _ rfl) rfl) ?_) | (refine ASeq.q rfl rfl (QOp.loadM 7 rfl rfl rfl (tok _ rfl) rfl) ?_) | (refine ASeq.q rfl rfl (QOp.loadM 8 rfl rfl rfl (tok _ rfl) rfl) ?_) | (refine ASeq.q rfl rfl (QOp.loadM 9 rfl rfl rfl (tok _ rfl) rfl) ?_) | (refine ASeq.q rfl rfl (QOp.loadM 10 rfl rfl rfl (tok _ rfl) rfl) ?_) | (refine ASeq.q rfl rfl (QOp.loadM 11 rfl rfl rfl (tok _ rfl) rfl) ?_) | (refine ASeq.q rfl rfl (QOp.loadM 12 rfl rfl rfl (tok _ rfl) rfl) ?_) | (refine ASeq.q rfl rfl (QOp.loadM 13 rfl rfl rfl (tok _ rfl) rfl) ?_) | (refine ASeq.q rfl rfl (QOp.loadM 14 rfl rfl rfl (tok _ rfl) rfl) ?_) | (refine ASeq.q rfl rfl (QOp.loadM 15 rfl rfl rfl (tok _ rfl) rfl) ?_) | (refine ASeq.q rfl rfl (QOp.loadAt 0 rfl rfl rfl (tok _ rfl) rfl (by assumption)) ?_) | (refine ASeq.q rfl rfl (QOp.loadAt 1 rfl rfl rfl (tok _ rfl) rfl (by assumption)) ?_) | (refine ASeq.q rfl rfl (QOp.loadAt 2 rfl rfl rfl (tok _ rfl) rfl (by assumption)) ?_) | (refine ASeq.q rfl rfl (QOp.loadAt 3 rfl rfl rfl (tok _ rfl) rfl (by assumption)) ?_) | (refine ASeq.q rfl rfl (QOp.loadAt 4 rfl rfl rfl (tok _ rfl) rfl (by assumption)) ?_) | (refine ASeq.q rfl rfl (QOp.loadAt 5 rfl rfl rfl (tok _ rfl) rfl (by assumption)) ?_)
  refine ASeq.op rfl rfl (AOp.callP 0 rfl (by kernel_rfl) rfl rfl rfl hof ?_ (by rintro _ _ ⟨⟩))
  rintro _ _ ⟨mN, nx, hnx⟩
  refine ASeq.op rfl rfl (AOp.allocP rfl (tok _ rfl) rfl rfl (fun _ => rfl) (fun _ => ?_))
  first | (refine ASeq.op0 rfl rfl (AOp.storeP 0 rfl rfl rfl rfl (tok _ rfl) rfl rfl rfl rfl ?_)) | (refine ASeq.op0 rfl rfl (AOp.storeP 1 rfl rfl rfl rfl (tok _ rfl) rfl rfl rfl rfl ?_)) | (refine ASeq.op0 rfl rfl (AOp.storeP 2 rfl rfl rfl rfl (tok _ rfl) rfl rfl rfl rfl ?_)) | (refine ASeq.op0 rfl rfl (AOp.storeP 3 rfl rfl rfl rfl (tok _ rfl) rfl rfl rfl rfl ?_)) | (refine ASeq.op0 rfl rfl (AOp.storeP 4 rfl rfl rfl rfl (tok _ rfl) rfl rfl rfl rfl ?_)) | (refine ASeq.op0 rfl rfl (AOp.storeP 5 rfl rfl rfl rfl (tok _ rfl) rfl rfl rfl rfl ?_)) | (refine ASeq.op0 rfl rfl (AOp.storeP 6 rfl rfl rfl rfl (tok _ rfl) rfl rfl rfl rfl ?_)) | (refine ASeq.op0 rfl rfl (AOp.storeP 7 rfl rfl rfl rfl (tok _ rfl) rfl rfl rfl rfl ?_)) | (refine ASeq.op0 rfl rfl (AOp.storeP 8 rfl rfl rfl rfl (tok _ rfl) rfl rfl rfl rfl ?_)) | (refine ASeq.op0 rfl rfl (AOp.storeP 9 rfl rfl rfl rfl (tok _ rfl) rfl rfl rfl rfl ?_)) | (refine ASeq.op0 rfl rfl (AOp.storeP 10 rfl rfl rfl rfl (tok _ rfl) rfl rfl rfl rfl ?_)) | (refine ASeq.op0 rfl rfl (AOp.storeP 11 rfl rfl rfl rfl (tok _ rfl) rfl rfl rfl rfl ?_)) | (refine ASeq.op0 rfl rfl (AOp.storeP 12 rfl rfl rfl rfl (tok _ rfl) rfl rfl rfl rfl ?_)) | (refine ASeq.op0 rfl rfl (AOp.storeP 13 rfl rfl rfl rfl (tok _ rfl) rfl rfl rfl rfl ?_)) | (refine ASeq.op0 rfl rfl (AOp.storeP 14 rfl rfl rfl rfl (tok _ rfl) rfl rfl rfl rfl ?_)) | (refine ASeq.op0 rfl rfl (AOp.storeP 15 rfl rfl rfl rfl (tok _ rfl) rfl rfl rfl rfl ?_))
  refine ASeq.nil ?_
  rename_i m5
  repeat (first | (refine ACode.seq ?_) | (refine ACode.region ?_) | (refine ACode.ret ?_) | (refine ACode.skip ?_) | (refine ACode.exit ?_) | (refine ACode.block ?_) | (refine AExit.then_normal ?_) | (refine AExit.then_ret ?_) | (refine AExit.then_exit ?_) | (refine AExit.in_normal ?_) | (refine AExit.in_ret ?_) | (refine AExit.in_same ?_) | (refine AExit.in_other rfl ?_) | (refine ASeq.nil ?_))
  first | (refine ASeq.q rfl rfl (QOp.loadI rfl rfl (tok _ rfl) rfl) ?_) | (refine ASeq.q rfl rfl (QOp.loadM 0 rfl rfl rfl (tok _ rfl) rfl) ?_) | (refine ASeq.q rfl rfl (QOp.loadM 1 rfl rfl rfl (tok _ rfl) rfl) ?_) | (refine ASeq.q rfl rfl (QOp.loadM 2 rfl rfl rfl (tok _ rfl) rfl) ?_) | (refine ASeq.q rfl rfl (QOp.loadM 3 rfl rfl rfl (tok _ rfl) rfl) ?_) | (refine ASeq.q rfl rfl (QOp.loadM 4 rfl rfl rfl (tok _ rfl) rfl) ?_) | (refine ASeq.q rfl rfl (QOp.loadM 5 rfl rfl rfl (tok _ rfl) rfl) ?_) | (refine ASeq.q rfl rfl (QOp.loadM 6 rfl rfl rfl (tok _ rfl) rfl) ?_) | (refine ASeq.q rfl rfl (QOp.loadM 7 rfl rfl rfl (tok _ rfl) rfl) ?_) | (refine ASeq.q rfl rfl (QOp.loadM 8 rfl rfl rfl (tok _ rfl) rfl) ?_) | (refine ASeq.q rfl rfl (QOp.loadM 9 rfl rfl rfl (tok _ rfl) rfl) ?_) | (refine ASeq.q rfl rfl (QOp.loadM 10 rfl rfl rfl (tok _ rfl) rfl) ?_) | (refine ASeq.q rfl rfl (QOp.loadM 11 rfl rfl rfl (tok _ rfl) rfl) ?_) | (refine ASeq.q rfl rfl (QOp.loadM 12 rfl rfl rfl (tok _ rfl) rfl) ?_) | (refine ASeq.q rfl rfl (QOp.loadM 13 rfl rfl rfl (tok _ rfl) rfl) ?_) | (refine ASeq.q rfl rfl (QOp.loadM 14 rfl rfl rfl (tok _ rfl) rfl) ?_) | (refine ASeq.q rfl rfl (QOp.loadM 15 rfl rfl rfl (tok _ rfl) rfl) ?_) | (refine ASeq.q rfl rfl (QOp.loadAt 0 rfl rfl rfl (tok _ rfl) rfl (by assumption)) ?_) | (refine ASeq.q rfl rfl (QOp.loadAt 1 rfl rfl rfl (tok _ rfl) rfl (by assumption)) ?_) | (refine ASeq.q rfl rfl (QOp.loadAt 2 rfl rfl rfl (tok _ rfl) rfl (by assumption)) ?_) | (refine ASeq.q rfl rfl (QOp.loadAt 3 rfl rfl rfl (tok _ rfl) rfl (by assumption)) ?_) | (refine ASeq.q rfl rfl (QOp.loadAt 4 rfl rfl rfl (tok _ rfl) rfl (by assumption)) ?_) | (refine ASeq.q rfl rfl (QOp.loadAt 5 rfl rfl rfl (tok _ rfl) rfl (by assumption)) ?_)
  refine ASeq.op rfl rfl (AOp.callP 0 rfl (by kernel_rfl) rfl rfl rfl hal ?_ (by rintro _ _ ⟨⟩))
  rintro _ _ ⟨ws, hwl, hws⟩
  have hsame := FR.same hnx hwl hws
  subst hsame
  have hnl := nxrows_len nx
  have hlen := hnx.len
  refine ASeq.q rfl rfl (QOp.assign rfl rfl) ?_
  refine ASeq.nil ?_
  repeat (first | (refine ACode.seq ?_) | (refine ACode.region ?_) | (refine ACode.ret ?_) | (refine ACode.skip ?_) | (refine ACode.exit ?_) | (refine ACode.block ?_) | (refine AExit.then_normal ?_) | (refine AExit.then_ret ?_) | (refine AExit.then_exit ?_) | (refine AExit.in_normal ?_) | (refine AExit.in_ret ?_) | (refine AExit.in_same ?_) | (refine AExit.in_other rfl ?_) | (refine ASeq.nil ?_))
  have e1 : ((t.stmts.length : Int) != ((nxrows nx).length : Int)) = false := by rw [hnl, hlen]; simp
  have e2 : (((ints (firsts t)).length : Int) != ((t.funcs.map Fu.cells).length : Int)) = false := by rw [hfl, hFl]; simp
  first | (refine ASeq.q rfl rfl (QOp.fieldM rfl rfl (tok _ rfl) rfl rfl (by decide) rfl) ?_) | (refine ASeq.q rfl rfl (QOp.fieldI rfl rfl (tok _ rfl) rfl rfl (by decide) rfl) ?_)
  first | (refine ASeq.q rfl rfl (QOp.loadI rfl rfl (tok _ rfl) rfl) ?_) | (refine ASeq.q rfl rfl (QOp.loadM 0 rfl rfl rfl (tok _ rfl) rfl) ?_) | (refine ASeq.q rfl rfl (QOp.loadM 1 rfl rfl rfl (tok _ rfl) rfl) ?_) | (refine ASeq.q rfl rfl (QOp.loadM 2 rfl rfl rfl (tok _ rfl) rfl) ?_) | (refine ASeq.q rfl rfl (QOp.loadM 3 rfl rfl rfl (tok _ rfl) rfl) ?_) | (refine ASeq.q rfl rfl (QOp.loadM 4 rfl rfl rfl (tok _ rfl) rfl) ?_) | (refine ASeq.q rfl rfl (QOp.loadM 5 rfl rfl rfl (tok _ rfl) rfl) ?_) | (refine ASeq.q rfl rfl (QOp.loadM 6 rfl rfl rfl (tok _ rfl) rfl) ?_) | (refine ASeq.q rfl rfl (QOp.loadM 7 rfl rfl rfl (tok _ rfl) rfl) ?_) | (refine ASeq.q rfl rfl (QOp.loadM 8 rfl rfl rfl (tok _ rfl) rfl) ?_) | (refine ASeq.q rfl rfl (QOp.loadM 9 rfl rfl rfl (tok _ rfl) rfl) ?_) | (refine ASeq.q rfl rfl (QOp.loadM 10 rfl rfl rfl (tok _ rfl) rfl) ?_) | (refine ASeq.q rfl rfl (QOp.loadM 11 rfl rfl rfl (tok _ rfl) rfl) ?_) | (refine ASeq.q rfl rfl (QOp.loadM 12 rfl rfl rfl (tok _ rfl) rfl) ?_) | (refine ASeq.q rfl rfl (QOp.loadM 13 rfl rfl rfl (tok _ rfl) rfl) ?_) | (refine ASeq.q rfl rfl (QOp.loadM 14 rfl rfl rfl (tok _ rfl) rfl) ?_) | (refine ASeq.q rfl rfl (QOp.loadM 15 rfl rfl rfl (tok _ rfl) rfl) ?_) | (refine ASeq.q rfl rfl (QOp.loadAt 0 rfl rfl rfl (tok _ rfl) rfl (by assumption)) ?_) | (refine ASeq.q rfl rfl (QOp.loadAt 1 rfl rfl rfl (tok _ rfl) rfl (by assumption)) ?_) | (refine ASeq.q rfl rfl (QOp.loadAt 2 rfl rfl rfl (tok _ rfl) rfl (by assumption)) ?_) | (refine ASeq.q rfl rfl (QOp.loadAt 3 rfl rfl rfl (tok _ rfl) rfl (by assumption)) ?_) | (refine ASeq.q rfl rfl (QOp.loadAt 4 rfl rfl rfl (tok _ rfl) rfl (by assumption)) ?_) | (refine ASeq.q rfl rfl (QOp.loadAt 5 rfl rfl rfl (tok _ rfl) rfl (by assumption)) ?_)
  first | (refine ASeq.q rfl rfl (QOp.lenI rfl rfl (tok _ rfl) rfl) ?_) | (refine ASeq.q rfl rfl (QOp.lenM rfl rfl (tok _ rfl) rfl) ?_) | (refine ASeq.q rfl rfl (QOp.lenS rfl rfl (tok _ rfl) rfl) ?_) | (refine ASeq.q rfl rfl (QOp.lenN rfl rfl (tok _ rfl) rfl) ?_)
  refine ASeq.q rfl rfl (QOp.move rfl rfl) ?_
  first | (refine ASeq.q rfl rfl (QOp.lenI rfl rfl (tok _ rfl) rfl) ?_) | (refine ASeq.q rfl rfl (QOp.lenM rfl rfl (tok _ rfl) rfl) ?_) | (refine ASeq.q rfl rfl (QOp.lenS rfl rfl (tok _ rfl) rfl) ?_) | (refine ASeq.q rfl rfl (QOp.lenN rfl rfl (tok _ rfl) rfl) ?_)
  refine ASeq.q rfl rfl (QOp.cmp rfl rfl rfl rfl) ?_
  refine ASeq.slot 29 rfl (v' := .v (.bool false)) (by show AV.Le (.v (.bool ((t.stmts.length : Int) != ((nxrows nx).length : Int)))) _; rw [e1]; exact .refl _) ?_
  refine ASeq.q rfl rfl (QOp.move rfl rfl) ?_
  first | (refine ASeq.gq _ _ rfl rfl rfl rfl (QOp.fieldM rfl rfl (tok _ rfl) rfl rfl (by decide) rfl) ?_) | (refine ASeq.gq _ _ rfl rfl rfl rfl (QOp.fieldI rfl rfl (tok _ rfl) rfl rfl (by decide) rfl) ?_) | (refine ASeq.gno _ _ rfl rfl rfl rfl rfl ?_)
  first | (refine ASeq.gq _ _ rfl rfl rfl rfl (QOp.loadI rfl rfl (tok _ rfl) rfl) ?_) | (refine ASeq.gq _ _ rfl rfl rfl rfl (QOp.loadM 0 rfl rfl rfl (tok _ rfl) rfl) ?_) | (refine ASeq.gq _ _ rfl rfl rfl rfl (QOp.loadM 1 rfl rfl rfl (tok _ rfl) rfl) ?_) | (refine ASeq.gq _ _ rfl rfl rfl rfl (QOp.loadM 2 rfl rfl rfl (tok _ rfl) rfl) ?_) | (refine ASeq.gq _ _ rfl rfl rfl rfl (QOp.loadM 3 rfl rfl rfl (tok _ rfl) rfl) ?_) | (refine ASeq.gq _ _ rfl rfl rfl rfl (QOp.loadM 4 rfl rfl rfl (tok _ rfl) rfl) ?_) | (refine ASeq.gq _ _ rfl rfl rfl rfl (QOp.loadM 5 rfl rfl rfl (tok _ rfl) rfl) ?_) | (refine ASeq.gq _ _ rfl rfl rfl rfl (QOp.loadM 6 rfl rfl rfl (tok _ rfl) rfl) ?_) | (refine ASeq.gq _ _ rfl rfl rfl rfl (QOp.loadM 7 rfl rfl rfl (tok _ rfl) rfl) ?_) | (refine ASeq.gq _ _ rfl rfl rfl rfl (QOp.loadM 8 rfl rfl rfl (tok _ rfl) rfl) ?_) | (refine ASeq.gq _ _ rfl rfl rfl rfl (QOp.loadM 9 rfl rfl rfl (tok _ rfl) rfl) ?_) | (refine ASeq.gq _ _ rfl rfl rfl rfl (QOp.loadM 10 rfl rfl rfl (tok _ rfl) rfl) ?_) | (refine ASeq.gq _ _ rfl rfl rfl rfl (QOp.loadM 11 rfl rfl rfl (tok _ rfl) rfl) ?_) | (refine ASeq.gq _ _ rfl rfl rfl rfl (QOp.loadM 12 rfl rfl rfl (tok _ rfl) rfl) ?_) | (refine ASeq.gq _ _ rfl rfl rfl rfl (QOp.loadM 13 rfl rfl rfl (tok _ rfl) rfl) ?_) | (refine ASeq.gq _ _ rfl rfl rfl rfl (QOp.loadM 14 rfl rfl rfl (tok _ rfl) rfl) ?_) | (refine ASeq.gq _ _ rfl rfl rfl rfl (QOp.loadM 15 rfl rfl rfl (tok _ rfl) rfl) ?_) | (refine ASeq.gq _ _ rfl rfl rfl rfl (QOp.loadAt 0 rfl rfl rfl (tok _ rfl) rfl (by assumption)) ?_) | (refine ASeq.gq _ _ rfl rfl rfl rfl (QOp.loadAt 1 rfl rfl rfl (tok _ rfl) rfl (by assumption)) ?_) | (refine ASeq.gq _ _ rfl rfl rfl rfl (QOp.loadAt 2 rfl rfl rfl (tok _ rfl) rfl (by assumption)) ?_) | (refine ASeq.gq _ _ rfl rfl rfl rfl (QOp.loadAt 3 rfl rfl rfl (tok _ rfl) rfl (by assumption)) ?_) | (refine ASeq.gq _ _ rfl rfl rfl rfl (QOp.loadAt 4 rfl rfl rfl (tok _ rfl) rfl (by assumption)) ?_) | (refine ASeq.gq _ _ rfl rfl rfl rfl (QOp.loadAt 5 rfl rfl rfl (tok _ rfl) rfl (by assumption)) ?_) | (refine ASeq.gno _ _ rfl rfl rfl rfl rfl ?_)
  first | (refine ASeq.gq _ _ rfl rfl rfl rfl (QOp.lenI rfl rfl (tok _ rfl) rfl) ?_) | (refine ASeq.gq _ _ rfl rfl rfl rfl (QOp.lenM rfl rfl (tok _ rfl) rfl) ?_) | (refine ASeq.gq _ _ rfl rfl rfl rfl (QOp.lenS rfl rfl (tok _ rfl) rfl) ?_) | (refine ASeq.gq _ _ rfl rfl rfl rfl (QOp.lenN rfl rfl (tok _ rfl) rfl) ?_) | (refine ASeq.gno _ _ rfl rfl rfl rfl rfl ?_)
  first | (refine ASeq.gq _ _ rfl rfl rfl rfl (QOp.fieldM rfl rfl (tok _ rfl) rfl rfl (by decide) rfl) ?_) | (refine ASeq.gq _ _ rfl rfl rfl rfl (QOp.fieldI rfl rfl (tok _ rfl) rfl rfl (by decide) rfl) ?_) | (refine ASeq.gno _ _ rfl rfl rfl rfl rfl ?_)
  first | (refine ASeq.gq _ _ rfl rfl rfl rfl (QOp.loadI rfl rfl (tok _ rfl) rfl) ?_) | (refine ASeq.gq _ _ rfl rfl rfl rfl (QOp.loadM 0 rfl rfl rfl (tok _ rfl) rfl) ?_) | (refine ASeq.gq _ _ rfl rfl rfl rfl (QOp.loadM 1 rfl rfl rfl (tok _ rfl) rfl) ?_) | (refine ASeq.gq _ _ rfl rfl rfl rfl (QOp.loadM 2 rfl rfl rfl (tok _ rfl) rfl) ?_) | (refine ASeq.gq _ _ rfl rfl rfl rfl (QOp.loadM 3 rfl rfl rfl (tok _ rfl) rfl) ?_) | (refine ASeq.gq _ _ rfl rfl rfl rfl (QOp.loadM 4 rfl rfl rfl (tok _ rfl) rfl) ?_) | (refine ASeq.gq _ _ rfl rfl rfl rfl (QOp.loadM 5 rfl rfl rfl (tok _ rfl) rfl) ?_) | (refine ASeq.gq _ _ rfl rfl rfl rfl (QOp.loadM 6 rfl rfl rfl (tok _ rfl) rfl) ?_) | (refine ASeq.gq _ _ rfl rfl rfl rfl (QOp.loadM 7 rfl rfl rfl (tok _ rfl) rfl) ?_) | (refine ASeq.gq _ _ rfl rfl rfl rfl (QOp.loadM 8 rfl rfl rfl (tok _ rfl) rfl) ?_) | (refine ASeq.gq _ _ rfl rfl rfl rfl (QOp.loadM 9 rfl rfl rfl (tok _ rfl) rfl) ?_) | (refine ASeq.gq _ _ rfl rfl rfl rfl (QOp.loadM 10 rfl rfl rfl (tok _ rfl) rfl) ?_) | (refine ASeq.gq _ _ rfl rfl rfl rfl (QOp.loadM 11 rfl rfl rfl (tok _ rfl) rfl) ?_) | (refine ASeq.gq _ _ rfl rfl rfl rfl (QOp.loadM 12 rfl rfl rfl (tok _ rfl) rfl) ?_) | (refine ASeq.gq _ _ rfl rfl rfl rfl (QOp.loadM 13 rfl rfl rfl (tok _ rfl) rfl) ?_) | (refine ASeq.gq _ _ rfl rfl rfl rfl (QOp.loadM 14 rfl rfl rfl (tok _ rfl) rfl) ?_) | (refine ASeq.gq _ _ rfl rfl rfl rfl (QOp.loadM 15 rfl rfl rfl (tok _ rfl) rfl) ?_) | (refine ASeq.gq _ _ rfl rfl rfl rfl (QOp.loadAt 0 rfl rfl rfl (tok _ rfl) rfl (by assumption)) ?_) | (refine ASeq.gq _ _ rfl rfl rfl rfl (QOp.loadAt 1 rfl rfl rfl (tok _ rfl) rfl (by assumption)) ?_) | (refine ASeq.gq _ _ rfl rfl rfl rfl (QOp.loadAt 2 rfl rfl rfl (tok _ rfl) rfl (by assumption)) ?_) | (refine ASeq.gq _ _ rfl rfl rfl rfl (QOp.loadAt 3 rfl rfl rfl (tok _ rfl) rfl (by assumption)) ?_) | (refine ASeq.gq _ _ rfl rfl rfl rfl (QOp.loadAt 4 rfl rfl rfl (tok _ rfl) rfl (by assumption)) ?_) | (refine ASeq.gq _ _ rfl rfl rfl rfl (QOp.loadAt 5 rfl rfl rfl (tok _ rfl) rfl (by assumption)) ?_) | (refine ASeq.gno _ _ rfl rfl rfl rfl rfl ?_)
  first | (refine ASeq.gq _ _ rfl rfl rfl rfl (QOp.lenI rfl rfl (tok _ rfl) rfl) ?_) | (refine ASeq.gq _ _ rfl rfl rfl rfl (QOp.lenM rfl rfl (tok _ rfl) rfl) ?_) | (refine ASeq.gq _ _ rfl rfl rfl rfl (QOp.lenS rfl rfl (tok _ rfl) rfl) ?_) | (refine ASeq.gq _ _ rfl rfl rfl rfl (QOp.lenN rfl rfl (tok _ rfl) rfl) ?_) | (refine ASeq.gno _ _ rfl rfl rfl rfl rfl ?_)
  first | (refine ASeq.gq _ _ rfl rfl rfl rfl (QOp.cmp rfl rfl rfl rfl) ?_) | (refine ASeq.gno _ _ rfl rfl rfl rfl rfl ?_)
  refine ASeq.slot 37 rfl (v' := .v (.bool false)) (by show AV.Le (.v (.bool (((ints (firsts t)).length : Int) != ((t.funcs.map Fu.cells).length : Int)))) _; rw [e2]; exact .refl _) ?_
  first | (refine ASeq.q rfl rfl (QOp.pickT rfl rfl rfl) ?_) | (refine ASeq.q rfl rfl (QOp.pickF rfl rfl rfl) ?_)
  refine ASeq.nil ?_
  repeat (first | (refine ACode.seq ?_) | (refine ACode.region ?_) | (refine ACode.ret ?_) | (refine ACode.skip ?_) | (refine ACode.exit ?_) | (refine ACode.block ?_) | (refine AExit.then_normal ?_) | (refine AExit.then_ret ?_) | (refine AExit.then_exit ?_) | (refine AExit.in_normal ?_) | (refine AExit.in_ret ?_) | (refine AExit.in_same ?_) | (refine AExit.in_other rfl ?_) | (refine ASeq.nil ?_))
  refine ACode.cond _ rfl (fun hb => by cases hb) (fun _ => ?_)
  repeat (first | (refine ACode.seq ?_) | (refine ACode.region ?_) | (refine ACode.ret ?_) | (refine ACode.skip ?_) | (refine ACode.exit ?_) | (refine ACode.block ?_) | (refine AExit.then_normal ?_) | (refine AExit.then_ret ?_) | (refine AExit.then_exit ?_) | (refine AExit.in_normal ?_) | (refine AExit.in_ret ?_) | (refine AExit.in_same ?_) | (refine AExit.in_other rfl ?_) | (refine ASeq.nil ?_))
  refine ASeq.q rfl rfl (QOp.move rfl rfl) ?_
  first | (refine ASeq.q rfl rfl (QOp.lenI rfl rfl (tok _ rfl) rfl) ?_) | (refine ASeq.q rfl rfl (QOp.lenM rfl rfl (tok _ rfl) rfl) ?_) | (refine ASeq.q rfl rfl (QOp.lenS rfl rfl (tok _ rfl) rfl) ?_) | (refine ASeq.q rfl rfl (QOp.lenN rfl rfl (tok _ rfl) rfl) ?_)
  refine ASeq.q rfl rfl (QOp.move rfl rfl) ?_
  refine ASeq.nil ?_
  repeat (first | (refine ACode.seq ?_) | (refine ACode.region ?_) | (refine ACode.ret ?_) | (refine ACode.skip ?_) | (refine ACode.exit ?_) | (refine ACode.block ?_) | (refine AExit.then_normal ?_) | (refine AExit.then_ret ?_) | (refine AExit.then_exit ?_) | (refine AExit.in_normal ?_) | (refine AExit.in_ret ?_) | (refine AExit.in_same ?_) | (refine AExit.in_other rfl ?_) | (refine ASeq.nil ?_))
  refine ACode.loopP (fun (i : Nat) => [(3, .mp m3 0), (5, .mp m5 0), (6, .il 1 none (nxrows nx)), (40, vi ((nxrows nx).length : Int)), (41, vi i)])
    (fun _ => [.mu mN (nx.map nxc), .mu m3 t.cells, .mu m5 [.il 1 none (ints (firsts t)), .sl 1 mN 0 t.stmts.length]]) (fun i => nx.length - i) (fun i => i ≤ nx.length) 0 (Nat.zero_le _)
    (.cons rfl (.cons rfl (.cons rfl (.cons rfl (.cons rfl .nil))))) 3 rfl ?_
  intro i hi
  repeat (first | (refine ACode.seq ?_) | (refine ACode.region ?_) | (refine ACode.ret ?_) | (refine ACode.skip ?_) | (refine ACode.exit ?_) | (refine ACode.block ?_) | (refine AExit.then_normal ?_) | (refine AExit.then_ret ?_) | (refine AExit.then_exit ?_) | (refine AExit.in_normal ?_) | (refine AExit.in_ret ?_) | (refine AExit.in_same ?_) | (refine AExit.in_other rfl ?_) | (refine ASeq.nil ?_))
  refine ASeq.q rfl rfl (QOp.cmp rfl rfl rfl rfl) ?_
  refine ASeq.nil ?_
  refine ACode.seq ?_
  refine ACode.cond _ rfl (fun hb => ?_) (fun hb => ?_)
  · have hlt : i < nx.length := by have := of_decide_eq_true hb; rw [hnl] at this; omega
    have g1 := nxrows_get hlt
    have g2 := nx_get hlt
    have hio := ints_ok nx[i] nx[i] none none (by have := hnx.small hR hlt; omega)
    rw [sameI_refl] at hio
    repeat (first | (refine ACode.seq ?_) | (refine ACode.region ?_) | (refine ACode.ret ?_) | (refine ACode.skip ?_) | (refine ACode.exit ?_) | (refine ACode.block ?_) | (refine AExit.then_normal ?_) | (refine AExit.then_ret ?_) | (refine AExit.then_exit ?_) | (refine AExit.in_normal ?_) | (refine AExit.in_ret ?_) | (refine AExit.in_same ?_) | (refine AExit.in_other rfl ?_) | (refine ASeq.nil ?_))
    refine ASeq.q rfl rfl (QOp.move rfl rfl) ?_
    refine ASeq.q rfl rfl (QOp.assign rfl rfl) ?_
    refine ASeq.nil ?_
    repeat (first | (refine ACode.seq ?_) | (refine ACode.region ?_) | (refine ACode.ret ?_) | (refine ACode.skip ?_) | (refine ACode.exit ?_) | (refine ACode.block ?_) | (refine AExit.then_normal ?_) | (refine AExit.then_ret ?_) | (refine AExit.then_exit ?_) | (refine AExit.in_normal ?_) | (refine AExit.in_ret ?_) | (refine AExit.in_same ?_) | (refine AExit.in_other rfl ?_) | (refine ASeq.nil ?_))
    refine ACode.drawn [[], [0], [], [0, 1, 2], [0, 1, 2, 3], [], [], [5, 6], [5, 6, 7], [0, 1, 2, 3, 4, 5, 6, 7, 8], [0, 1, 2, 3, 4, 5, 6, 7, 8, 9]] (by kernel_rfl) mixed ?_
    first | (refine DAny.qu 0 rfl rfl (by kernel_rfl) rfl (fun _ => .does _ _ rfl (.none rfl) (QOp.fieldM rfl rfl (tok _ rfl) rfl rfl (by decide) rfl)) ?_) | (refine DAny.qu 0 rfl rfl (by kernel_rfl) rfl (fun _ => .does _ _ rfl (.none rfl) (QOp.fieldI rfl rfl (tok _ rfl) rfl rfl (by decide) rfl)) ?_)
    first | (refine DAny.qu 1 rfl rfl (by kernel_rfl) rfl (fun _ => .does _ _ rfl (.none rfl) (QOp.loadI rfl rfl (tok _ rfl) rfl)) ?_) | (refine DAny.ld 1 rfl rfl (by kernel_rfl) rfl (.does _ _ rfl (.none rfl) (QOp.loadM 0 rfl rfl rfl (tok _ rfl) rfl)) ?_) | (refine DAny.ld 1 rfl rfl (by kernel_rfl) rfl (.does _ _ rfl (.none rfl) (QOp.loadM 1 rfl rfl rfl (tok _ rfl) rfl)) ?_) | (refine DAny.ld 1 rfl rfl (by kernel_rfl) rfl (.does _ _ rfl (.none rfl) (QOp.loadM 2 rfl rfl rfl (tok _ rfl) rfl)) ?_) | (refine DAny.ld 1 rfl rfl (by kernel_rfl) rfl (.does _ _ rfl (.none rfl) (QOp.loadM 3 rfl rfl rfl (tok _ rfl) rfl)) ?_) | (refine DAny.ld 1 rfl rfl (by kernel_rfl) rfl (.does _ _ rfl (.none rfl) (QOp.loadM 4 rfl rfl rfl (tok _ rfl) rfl)) ?_) | (refine DAny.ld 1 rfl rfl (by kernel_rfl) rfl (.does _ _ rfl (.none rfl) (QOp.loadM 5 rfl rfl rfl (tok _ rfl) rfl)) ?_) | (refine DAny.ld 1 rfl rfl (by kernel_rfl) rfl (.does _ _ rfl (.none rfl) (QOp.loadM 6 rfl rfl rfl (tok _ rfl) rfl)) ?_) | (refine DAny.ld 1 rfl rfl (by kernel_rfl) rfl (.does _ _ rfl (.none rfl) (QOp.loadM 7 rfl rfl rfl (tok _ rfl) rfl)) ?_) | (refine DAny.ld 1 rfl rfl (by kernel_rfl) rfl (.does _ _ rfl (.none rfl) (QOp.loadM 8 rfl rfl rfl (tok _ rfl) rfl)) ?_) | (refine DAny.ld 1 rfl rfl (by kernel_rfl) rfl (.does _ _ rfl (.none rfl) (QOp.loadM 9 rfl rfl rfl (tok _ rfl) rfl)) ?_) | (refine DAny.ld 1 rfl rfl (by kernel_rfl) rfl (.does _ _ rfl (.none rfl) (QOp.loadM 10 rfl rfl rfl (tok _ rfl) rfl)) ?_) | (refine DAny.ld 1 rfl rfl (by kernel_rfl) rfl (.does _ _ rfl (.none rfl) (QOp.loadM 11 rfl rfl rfl (tok _ rfl) rfl)) ?_) | (refine DAny.ld 1 rfl rfl (by kernel_rfl) rfl (.does _ _ rfl (.none rfl) (QOp.loadM 12 rfl rfl rfl (tok _ rfl) rfl)) ?_) | (refine DAny.ld 1 rfl rfl (by kernel_rfl) rfl (.does _ _ rfl (.none rfl) (QOp.loadM 13 rfl rfl rfl (tok _ rfl) rfl)) ?_) | (refine DAny.ld 1 rfl rfl (by kernel_rfl) rfl (.does _ _ rfl (.none rfl) (QOp.loadM 14 rfl rfl rfl (tok _ rfl) rfl)) ?_) | (refine DAny.ld 1 rfl rfl (by kernel_rfl) rfl (.does _ _ rfl (.none rfl) (QOp.loadM 15 rfl rfl rfl (tok _ rfl) rfl)) ?_) | (refine DAny.ld 1 rfl rfl (by kernel_rfl) rfl (.does _ _ rfl (.none rfl) (QOp.loadAt 0 rfl rfl rfl (tok _ rfl) rfl (by assumption))) ?_) | (refine DAny.ld 1 rfl rfl (by kernel_rfl) rfl (.does _ _ rfl (.none rfl) (QOp.loadAt 1 rfl rfl rfl (tok _ rfl) rfl (by assumption))) ?_) | (refine DAny.ld 1 rfl rfl (by kernel_rfl) rfl (.does _ _ rfl (.none rfl) (QOp.loadAt 2 rfl rfl rfl (tok _ rfl) rfl (by assumption))) ?_) | (refine DAny.ld 1 rfl rfl (by kernel_rfl) rfl (.does _ _ rfl (.none rfl) (QOp.loadAt 3 rfl rfl rfl (tok _ rfl) rfl (by assumption))) ?_) | (refine DAny.ld 1 rfl rfl (by kernel_rfl) rfl (.does _ _ rfl (.none rfl) (QOp.loadAt 4 rfl rfl rfl (tok _ rfl) rfl (by assumption))) ?_) | (refine DAny.ld 1 rfl rfl (by kernel_rfl) rfl (.does _ _ rfl (.none rfl) (QOp.loadAt 5 rfl rfl rfl (tok _ rfl) rfl (by assumption))) ?_)
    refine DAny.qu 2 rfl rfl (by kernel_rfl) rfl (fun _ => .does _ _ rfl (.none rfl) (QOp.move rfl rfl)) ?_
    first | (refine DAny.qu 3 rfl rfl (by kernel_rfl) rfl (fun _ => .does _ _ rfl (.none rfl) (QOp.indexI rfl rfl rfl (tok _ rfl) rfl (tok _ rfl) (by first | (decide) | (omega)) (by first | (rfl) | (assumption)))) ?_) | (refine DAny.qu 3 rfl rfl (by kernel_rfl) rfl (fun _ => .does _ _ rfl (.none rfl) (QOp.indexM rfl rfl rfl (tok _ rfl) rfl (tok _ rfl) (by first | (decide) | (omega)) (by first | (decide) | (omega)) rfl)) ?_)
    first | (refine DAny.qu 4 rfl rfl (by kernel_rfl) rfl (fun _ => .does _ _ rfl (.none rfl) (QOp.loadI rfl rfl (tok _ rfl) rfl)) ?_) | (refine DAny.ld 4 rfl rfl (by kernel_rfl) rfl (.does _ _ rfl (.none rfl) (QOp.loadM 0 rfl rfl rfl (tok _ rfl) rfl)) ?_) | (refine DAny.ld 4 rfl rfl (by kernel_rfl) rfl (.does _ _ rfl (.none rfl) (QOp.loadM 1 rfl rfl rfl (tok _ rfl) rfl)) ?_) | (refine DAny.ld 4 rfl rfl (by kernel_rfl) rfl (.does _ _ rfl (.none rfl) (QOp.loadM 2 rfl rfl rfl (tok _ rfl) rfl)) ?_) | (refine DAny.ld 4 rfl rfl (by kernel_rfl) rfl (.does _ _ rfl (.none rfl) (QOp.loadM 3 rfl rfl rfl (tok _ rfl) rfl)) ?_) | (refine DAny.ld 4 rfl rfl (by kernel_rfl) rfl (.does _ _ rfl (.none rfl) (QOp.loadM 4 rfl rfl rfl (tok _ rfl) rfl)) ?_) | (refine DAny.ld 4 rfl rfl (by kernel_rfl) rfl (.does _ _ rfl (.none rfl) (QOp.loadM 5 rfl rfl rfl (tok _ rfl) rfl)) ?_) | (refine DAny.ld 4 rfl rfl (by kernel_rfl) rfl (.does _ _ rfl (.none rfl) (QOp.loadM 6 rfl rfl rfl (tok _ rfl) rfl)) ?_) | (refine DAny.ld 4 rfl rfl (by kernel_rfl) rfl (.does _ _ rfl (.none rfl) (QOp.loadM 7 rfl rfl rfl (tok _ rfl) rfl)) ?_) | (refine DAny.ld 4 rfl rfl (by kernel_rfl) rfl (.does _ _ rfl (.none rfl) (QOp.loadM 8 rfl rfl rfl (tok _ rfl) rfl)) ?_) | (refine DAny.ld 4 rfl rfl (by kernel_rfl) rfl (.does _ _ rfl (.none rfl) (QOp.loadM 9 rfl rfl rfl (tok _ rfl) rfl)) ?_) | (refine DAny.ld 4 rfl rfl (by kernel_rfl) rfl (.does _ _ rfl (.none rfl) (QOp.loadM 10 rfl rfl rfl (tok _ rfl) rfl)) ?_) | (refine DAny.ld 4 rfl rfl (by kernel_rfl) rfl (.does _ _ rfl (.none rfl) (QOp.loadM 11 rfl rfl rfl (tok _ rfl) rfl)) ?_) | (refine DAny.ld 4 rfl rfl (by kernel_rfl) rfl (.does _ _ rfl (.none rfl) (QOp.loadM 12 rfl rfl rfl (tok _ rfl) rfl)) ?_) | (refine DAny.ld 4 rfl rfl (by kernel_rfl) rfl (.does _ _ rfl (.none rfl) (QOp.loadM 13 rfl rfl rfl (tok _ rfl) rfl)) ?_) | (refine DAny.ld 4 rfl rfl (by kernel_rfl) rfl (.does _ _ rfl (.none rfl) (QOp.loadM 14 rfl rfl rfl (tok _ rfl) rfl)) ?_) | (refine DAny.ld 4 rfl rfl (by kernel_rfl) rfl (.does _ _ rfl (.none rfl) (QOp.loadM 15 rfl rfl rfl (tok _ rfl) rfl)) ?_) | (refine DAny.ld 4 rfl rfl (by kernel_rfl) rfl (.does _ _ rfl (.none rfl) (QOp.loadAt 0 rfl rfl rfl (tok _ rfl) rfl (by assumption))) ?_) | (refine DAny.ld 4 rfl rfl (by kernel_rfl) rfl (.does _ _ rfl (.none rfl) (QOp.loadAt 1 rfl rfl rfl (tok _ rfl) rfl (by assumption))) ?_) | (refine DAny.ld 4 rfl rfl (by kernel_rfl) rfl (.does _ _ rfl (.none rfl) (QOp.loadAt 2 rfl rfl rfl (tok _ rfl) rfl (by assumption))) ?_) | (refine DAny.ld 4 rfl rfl (by kernel_rfl) rfl (.does _ _ rfl (.none rfl) (QOp.loadAt 3 rfl rfl rfl (tok _ rfl) rfl (by assumption))) ?_) | (refine DAny.ld 4 rfl rfl (by kernel_rfl) rfl (.does _ _ rfl (.none rfl) (QOp.loadAt 4 rfl rfl rfl (tok _ rfl) rfl (by assumption))) ?_) | (refine DAny.ld 4 rfl rfl (by kernel_rfl) rfl (.does _ _ rfl (.none rfl) (QOp.loadAt 5 rfl rfl rfl (tok _ rfl) rfl (by assumption))) ?_)
    refine DAny.qu 5 rfl rfl (by kernel_rfl) rfl (fun _ => .does _ _ rfl (.none rfl) (QOp.move rfl rfl)) ?_
    refine DAny.qu 6 rfl rfl (by kernel_rfl) rfl (fun _ => .does _ _ rfl (.none rfl) (QOp.move rfl rfl)) ?_
    first | (refine DAny.qu 7 rfl rfl (by kernel_rfl) rfl (fun _ => .does _ _ rfl (.none rfl) (QOp.indexI rfl rfl rfl (tok _ rfl) rfl (tok _ rfl) (by first | (decide) | (omega)) (by first | (rfl) | (assumption)))) ?_) | (refine DAny.qu 7 rfl rfl (by kernel_rfl) rfl (fun _ => .does _ _ rfl (.none rfl) (QOp.indexM rfl rfl rfl (tok _ rfl) rfl (tok _ rfl) (by first | (decide) | (omega)) (by first | (decide) | (omega)) rfl)) ?_)
    first | (refine DAny.qu 8 rfl rfl (by kernel_rfl) rfl (fun _ => .does _ _ rfl (.none rfl) (QOp.loadI rfl rfl (tok _ rfl) rfl)) ?_) | (refine DAny.ld 8 rfl rfl (by kernel_rfl) rfl (.does _ _ rfl (.none rfl) (QOp.loadM 0 rfl rfl rfl (tok _ rfl) rfl)) ?_) | (refine DAny.ld 8 rfl rfl (by kernel_rfl) rfl (.does _ _ rfl (.none rfl) (QOp.loadM 1 rfl rfl rfl (tok _ rfl) rfl)) ?_) | (refine DAny.ld 8 rfl rfl (by kernel_rfl) rfl (.does _ _ rfl (.none rfl) (QOp.loadM 2 rfl rfl rfl (tok _ rfl) rfl)) ?_) | (refine DAny.ld 8 rfl rfl (by kernel_rfl) rfl (.does _ _ rfl (.none rfl) (QOp.loadM 3 rfl rfl rfl (tok _ rfl) rfl)) ?_) | (refine DAny.ld 8 rfl rfl (by kernel_rfl) rfl (.does _ _ rfl (.none rfl) (QOp.loadM 4 rfl rfl rfl (tok _ rfl) rfl)) ?_) | (refine DAny.ld 8 rfl rfl (by kernel_rfl) rfl (.does _ _ rfl (.none rfl) (QOp.loadM 5 rfl rfl rfl (tok _ rfl) rfl)) ?_) | (refine DAny.ld 8 rfl rfl (by kernel_rfl) rfl (.does _ _ rfl (.none rfl) (QOp.loadM 6 rfl rfl rfl (tok _ rfl) rfl)) ?_) | (refine DAny.ld 8 rfl rfl (by kernel_rfl) rfl (.does _ _ rfl (.none rfl) (QOp.loadM 7 rfl rfl rfl (tok _ rfl) rfl)) ?_) | (refine DAny.ld 8 rfl rfl (by kernel_rfl) rfl (.does _ _ rfl (.none rfl) (QOp.loadM 8 rfl rfl rfl (tok _ rfl) rfl)) ?_) | (refine DAny.ld 8 rfl rfl (by kernel_rfl) rfl (.does _ _ rfl (.none rfl) (QOp.loadM 9 rfl rfl rfl (tok _ rfl) rfl)) ?_) | (refine DAny.ld 8 rfl rfl (by kernel_rfl) rfl (.does _ _ rfl (.none rfl) (QOp.loadM 10 rfl rfl rfl (tok _ rfl) rfl)) ?_) | (refine DAny.ld 8 rfl rfl (by kernel_rfl) rfl (.does _ _ rfl (.none rfl) (QOp.loadM 11 rfl rfl rfl (tok _ rfl) rfl)) ?_) | (refine DAny.ld 8 rfl rfl (by kernel_rfl) rfl (.does _ _ rfl (.none rfl) (QOp.loadM 12 rfl rfl rfl (tok _ rfl) rfl)) ?_) | (refine DAny.ld 8 rfl rfl (by kernel_rfl) rfl (.does _ _ rfl (.none rfl) (QOp.loadM 13 rfl rfl rfl (tok _ rfl) rfl)) ?_) | (refine DAny.ld 8 rfl rfl (by kernel_rfl) rfl (.does _ _ rfl (.none rfl) (QOp.loadM 14 rfl rfl rfl (tok _ rfl) rfl)) ?_) | (refine DAny.ld 8 rfl rfl (by kernel_rfl) rfl (.does _ _ rfl (.none rfl) (QOp.loadM 15 rfl rfl rfl (tok _ rfl) rfl)) ?_) | (refine DAny.ld 8 rfl rfl (by kernel_rfl) rfl (.does _ _ rfl (.none rfl) (QOp.loadAt 0 rfl rfl rfl (tok _ rfl) rfl (by assumption))) ?_) | (refine DAny.ld 8 rfl rfl (by kernel_rfl) rfl (.does _ _ rfl (.none rfl) (QOp.loadAt 1 rfl rfl rfl (tok _ rfl) rfl (by assumption))) ?_) | (refine DAny.ld 8 rfl rfl (by kernel_rfl) rfl (.does _ _ rfl (.none rfl) (QOp.loadAt 2 rfl rfl rfl (tok _ rfl) rfl (by assumption))) ?_) | (refine DAny.ld 8 rfl rfl (by kernel_rfl) rfl (.does _ _ rfl (.none rfl) (QOp.loadAt 3 rfl rfl rfl (tok _ rfl) rfl (by assumption))) ?_) | (refine DAny.ld 8 rfl rfl (by kernel_rfl) rfl (.does _ _ rfl (.none rfl) (QOp.loadAt 4 rfl rfl rfl (tok _ rfl) rfl (by assumption))) ?_) | (refine DAny.ld 8 rfl rfl (by kernel_rfl) rfl (.does _ _ rfl (.none rfl) (QOp.loadAt 5 rfl rfl rfl (tok _ rfl) rfl (by assumption))) ?_)
    refine DAny.ef 9 rfl (by kernel_rfl) (.none rfl) rfl rfl (AOp.callP 0 rfl (by kernel_rfl) rfl rfl rfl (hio) ?_ (by rintro _ _ ⟨⟩))
    rintro _ _ ⟨⟩
    refine ⟨(by repeat (first | (exact AllQ.nil) | (refine AllQ.cons (.does _ _ rfl (.none rfl) (QOp.loadM 0 rfl rfl rfl (tok _ rfl) rfl)) ?_) | (refine AllQ.cons (.does _ _ rfl (.none rfl) (QOp.loadM 1 rfl rfl rfl (tok _ rfl) rfl)) ?_) | (refine AllQ.cons (.does _ _ rfl (.none rfl) (QOp.loadM 2 rfl rfl rfl (tok _ rfl) rfl)) ?_) | (refine AllQ.cons (.does _ _ rfl (.none rfl) (QOp.loadM 3 rfl rfl rfl (tok _ rfl) rfl)) ?_) | (refine AllQ.cons (.does _ _ rfl (.none rfl) (QOp.loadM 4 rfl rfl rfl (tok _ rfl) rfl)) ?_) | (refine AllQ.cons (.does _ _ rfl (.none rfl) (QOp.loadM 5 rfl rfl rfl (tok _ rfl) rfl)) ?_) | (refine AllQ.cons (.does _ _ rfl (.none rfl) (QOp.loadM 6 rfl rfl rfl (tok _ rfl) rfl)) ?_) | (refine AllQ.cons (.does _ _ rfl (.none rfl) (QOp.loadM 7 rfl rfl rfl (tok _ rfl) rfl)) ?_) | (refine AllQ.cons (.does _ _ rfl (.none rfl) (QOp.loadM 8 rfl rfl rfl (tok _ rfl) rfl)) ?_) | (refine AllQ.cons (.does _ _ rfl (.none rfl) (QOp.loadM 9 rfl rfl rfl (tok _ rfl) rfl)) ?_) | (refine AllQ.cons (.does _ _ rfl (.none rfl) (QOp.loadM 10 rfl rfl rfl (tok _ rfl) rfl)) ?_) | (refine AllQ.cons (.does _ _ rfl (.none rfl) (QOp.loadM 11 rfl rfl rfl (tok _ rfl) rfl)) ?_) | (refine AllQ.cons (.does _ _ rfl (.none rfl) (QOp.loadM 12 rfl rfl rfl (tok _ rfl) rfl)) ?_) | (refine AllQ.cons (.does _ _ rfl (.none rfl) (QOp.loadM 13 rfl rfl rfl (tok _ rfl) rfl)) ?_) | (refine AllQ.cons (.does _ _ rfl (.none rfl) (QOp.loadM 14 rfl rfl rfl (tok _ rfl) rfl)) ?_) | (refine AllQ.cons (.does _ _ rfl (.none rfl) (QOp.loadM 15 rfl rfl rfl (tok _ rfl) rfl)) ?_) | (refine AllQ.cons (.does _ _ rfl (.none rfl) (QOp.loadAt 0 rfl rfl rfl (tok _ rfl) rfl (by assumption))) ?_) | (refine AllQ.cons (.does _ _ rfl (.none rfl) (QOp.loadAt 1 rfl rfl rfl (tok _ rfl) rfl (by assumption))) ?_) | (refine AllQ.cons (.does _ _ rfl (.none rfl) (QOp.loadAt 2 rfl rfl rfl (tok _ rfl) rfl (by assumption))) ?_) | (refine AllQ.cons (.does _ _ rfl (.none rfl) (QOp.loadAt 3 rfl rfl rfl (tok _ rfl) rfl (by assumption))) ?_) | (refine AllQ.cons (.does _ _ rfl (.none rfl) (QOp.loadAt 4 rfl rfl rfl (tok _ rfl) rfl (by assumption))) ?_) | (refine AllQ.cons (.does _ _ rfl (.none rfl) (QOp.loadAt 5 rfl rfl rfl (tok _ rfl) rfl (by assumption))) ?_))), ?_⟩
    refine DAny.qu 10 rfl rfl (by kernel_rfl) rfl (fun _ => .does _ _ rfl (.none rfl) (QOp.not rfl rfl)) ?_
    refine DAny.done (by kernel_rfl) ?_
    repeat (first | (refine ACode.seq ?_) | (refine ACode.region ?_) | (refine ACode.ret ?_) | (refine ACode.skip ?_) | (refine ACode.exit ?_) | (refine ACode.block ?_) | (refine AExit.then_normal ?_) | (refine AExit.then_ret ?_) | (refine AExit.then_exit ?_) | (refine AExit.in_normal ?_) | (refine AExit.in_ret ?_) | (refine AExit.in_same ?_) | (refine AExit.in_other rfl ?_) | (refine ASeq.nil ?_))
    refine ACode.cond _ rfl (fun hb => by cases hb) (fun _ => ?_)
    repeat (first | (refine ACode.seq ?_) | (refine ACode.region ?_) | (refine ACode.ret ?_) | (refine ACode.skip ?_) | (refine ACode.exit ?_) | (refine ACode.block ?_) | (refine AExit.then_normal ?_) | (refine AExit.then_ret ?_) | (refine AExit.then_exit ?_) | (refine AExit.in_normal ?_) | (refine AExit.in_ret ?_) | (refine AExit.in_same ?_) | (refine AExit.in_other rfl ?_) | (refine ASeq.nil ?_))
    refine ASeq.q rfl rfl (QOp.ar64 rfl rfl rfl rfl ⟨by first | (omega) | (simp only [List.length_append, List.length_map, List.length_cons, List.length_nil]; omega), by first | (omega) | (simp only [List.length_append, List.length_map, List.length_cons, List.length_nil]; omega)⟩) ?_
    refine ASeq.q rfl rfl (QOp.move rfl rfl) ?_
    refine ASeq.nil ?_
    repeat (first | (refine ACode.seq ?_) | (refine ACode.region ?_) | (refine ACode.ret ?_) | (refine ACode.skip ?_) | (refine ACode.exit ?_) | (refine ACode.block ?_) | (refine AExit.then_normal ?_) | (refine AExit.then_ret ?_) | (refine AExit.then_exit ?_) | (refine AExit.in_normal ?_) | (refine AExit.in_ret ?_) | (refine AExit.in_same ?_) | (refine AExit.in_other rfl ?_) | (refine ASeq.nil ?_))
    exact ⟨i + 1, 3, hlt, by omega, .cons rfl (.cons rfl (.cons rfl (.cons rfl (.cons rfl .nil)))), rfl⟩
  repeat (first | (refine ACode.seq ?_) | (refine ACode.region ?_) | (refine ACode.ret ?_) | (refine ACode.skip ?_) | (refine ACode.exit ?_) | (refine ACode.block ?_) | (refine AExit.then_normal ?_) | (refine AExit.then_ret ?_) | (refine AExit.then_exit ?_) | (refine AExit.in_normal ?_) | (refine AExit.in_ret ?_) | (refine AExit.in_same ?_) | (refine AExit.in_other rfl ?_) | (refine ASeq.nil ?_))
  first | (refine ASeq.q rfl rfl (QOp.fieldM rfl rfl (tok _ rfl) rfl rfl (by decide) rfl) ?_) | (refine ASeq.q rfl rfl (QOp.fieldI rfl rfl (tok _ rfl) rfl rfl (by decide) rfl) ?_)
  first | (refine ASeq.q rfl rfl (QOp.loadI rfl rfl (tok _ rfl) rfl) ?_) | (refine ASeq.q rfl rfl (QOp.loadM 0 rfl rfl rfl (tok _ rfl) rfl) ?_) | (refine ASeq.q rfl rfl (QOp.loadM 1 rfl rfl rfl (tok _ rfl) rfl) ?_) | (refine ASeq.q rfl rfl (QOp.loadM 2 rfl rfl rfl (tok _ rfl) rfl) ?_) | (refine ASeq.q rfl rfl (QOp.loadM 3 rfl rfl rfl (tok _ rfl) rfl) ?_) | (refine ASeq.q rfl rfl (QOp.loadM 4 rfl rfl rfl (tok _ rfl) rfl) ?_) | (refine ASeq.q rfl rfl (QOp.loadM 5 rfl rfl rfl (tok _ rfl) rfl) ?_) | (refine ASeq.q rfl rfl (QOp.loadM 6 rfl rfl rfl (tok _ rfl) rfl) ?_) | (refine ASeq.q rfl rfl (QOp.loadM 7 rfl rfl rfl (tok _ rfl) rfl) ?_) | (refine ASeq.q rfl rfl (QOp.loadM 8 rfl rfl rfl (tok _ rfl) rfl) ?_) | (refine ASeq.q rfl rfl (QOp.loadM 9 rfl rfl rfl (tok _ rfl) rfl) ?_) | (refine ASeq.q rfl rfl (QOp.loadM 10 rfl rfl rfl (tok _ rfl) rfl) ?_) | (refine ASeq.q rfl rfl (QOp.loadM 11 rfl rfl rfl (tok _ rfl) rfl) ?_) | (refine ASeq.q rfl rfl (QOp.loadM 12 rfl rfl rfl (tok _ rfl) rfl) ?_) | (refine ASeq.q rfl rfl (QOp.loadM 13 rfl rfl rfl (tok _ rfl) rfl) ?_) | (refine ASeq.q rfl rfl (QOp.loadM 14 rfl rfl rfl (tok _ rfl) rfl) ?_) | (refine ASeq.q rfl rfl (QOp.loadM 15 rfl rfl rfl (tok _ rfl) rfl) ?_) | (refine ASeq.q rfl rfl (QOp.loadAt 0 rfl rfl rfl (tok _ rfl) rfl (by assumption)) ?_) | (refine ASeq.q rfl rfl (QOp.loadAt 1 rfl rfl rfl (tok _ rfl) rfl (by assumption)) ?_) | (refine ASeq.q rfl rfl (QOp.loadAt 2 rfl rfl rfl (tok _ rfl) rfl (by assumption)) ?_) | (refine ASeq.q rfl rfl (QOp.loadAt 3 rfl rfl rfl (tok _ rfl) rfl (by assumption)) ?_) | (refine ASeq.q rfl rfl (QOp.loadAt 4 rfl rfl rfl (tok _ rfl) rfl (by assumption)) ?_) | (refine ASeq.q rfl rfl (QOp.loadAt 5 rfl rfl rfl (tok _ rfl) rfl (by assumption)) ?_)
  first | (refine ASeq.q rfl rfl (QOp.lenI rfl rfl (tok _ rfl) rfl) ?_) | (refine ASeq.q rfl rfl (QOp.lenM rfl rfl (tok _ rfl) rfl) ?_) | (refine ASeq.q rfl rfl (QOp.lenS rfl rfl (tok _ rfl) rfl) ?_) | (refine ASeq.q rfl rfl (QOp.lenN rfl rfl (tok _ rfl) rfl) ?_)
  refine ASeq.q rfl rfl (QOp.move rfl rfl) ?_
  refine ASeq.nil ?_
  repeat (first | (refine ACode.seq ?_) | (refine ACode.region ?_) | (refine ACode.ret ?_) | (refine ACode.skip ?_) | (refine ACode.exit ?_) | (refine ACode.block ?_) | (refine AExit.then_normal ?_) | (refine AExit.then_ret ?_) | (refine AExit.then_exit ?_) | (refine AExit.in_normal ?_) | (refine AExit.in_ret ?_) | (refine AExit.in_same ?_) | (refine AExit.in_other rfl ?_) | (refine ASeq.nil ?_))
  refine ACode.loopP (fun (i : Nat) => [(3, .mp m3 0), (5, .mp m5 0), (57, .il 6 none (t.funcs.map Fu.cells)), (58, vi ((t.funcs.map Fu.cells).length : Int)), (59, vi i)])
    (fun _ => [.mu mN (nx.map nxc), .mu m3 t.cells, .mu m5 [.il 1 none (ints (firsts t)), .sl 1 mN 0 t.stmts.length]]) (fun i => t.funcs.length - i) (fun i => i ≤ t.funcs.length) 0 (Nat.zero_le _)
    (.cons rfl (.cons rfl (.cons rfl (.cons rfl (.cons rfl .nil))))) 3 rfl ?_
  intro i hi
  repeat (first | (refine ACode.seq ?_) | (refine ACode.region ?_) | (refine ACode.ret ?_) | (refine ACode.skip ?_) | (refine ACode.exit ?_) | (refine ACode.block ?_) | (refine AExit.then_normal ?_) | (refine AExit.then_ret ?_) | (refine AExit.then_exit ?_) | (refine AExit.in_normal ?_) | (refine AExit.in_ret ?_) | (refine AExit.in_same ?_) | (refine AExit.in_other rfl ?_) | (refine ASeq.nil ?_))
  refine ASeq.q rfl rfl (QOp.cmp rfl rfl rfl rfl) ?_
  refine ASeq.nil ?_
  refine ACode.seq ?_
  refine ACode.cond _ rfl (fun hb => ?_) (fun hb => ?_)
  · have hlt : i < t.funcs.length := by have := of_decide_eq_true hb; rw [hFl] at this; omega
    have hgi := fu_at hlt
    have hgf := firsts_get hlt
    have hbl := ints_len t.funcs[i].body
    repeat (first | (refine ACode.seq ?_) | (refine ACode.region ?_) | (refine ACode.ret ?_) | (refine ACode.skip ?_) | (refine ACode.exit ?_) | (refine ACode.block ?_) | (refine AExit.then_normal ?_) | (refine AExit.then_ret ?_) | (refine AExit.then_exit ?_) | (refine AExit.in_normal ?_) | (refine AExit.in_ret ?_) | (refine AExit.in_same ?_) | (refine AExit.in_other rfl ?_) | (refine ASeq.nil ?_))
    refine ASeq.q rfl rfl (QOp.move rfl rfl) ?_
    first | (refine ASeq.q rfl rfl (QOp.indexI rfl rfl rfl (tok _ rfl) rfl (tok _ rfl) (by first | (decide) | (omega)) (by first | (rfl) | (assumption))) ?_) | (refine ASeq.q rfl rfl (QOp.indexM rfl rfl rfl (tok _ rfl) rfl (tok _ rfl) (by first | (decide) | (omega)) (by first | (decide) | (omega)) rfl) ?_)
    first | (refine ASeq.q rfl rfl (QOp.loadI rfl rfl (tok _ rfl) rfl) ?_) | (refine ASeq.q rfl rfl (QOp.loadM 0 rfl rfl rfl (tok _ rfl) rfl) ?_) | (refine ASeq.q rfl rfl (QOp.loadM 1 rfl rfl rfl (tok _ rfl) rfl) ?_) | (refine ASeq.q rfl rfl (QOp.loadM 2 rfl rfl rfl (tok _ rfl) rfl) ?_) | (refine ASeq.q rfl rfl (QOp.loadM 3 rfl rfl rfl (tok _ rfl) rfl) ?_) | (refine ASeq.q rfl rfl (QOp.loadM 4 rfl rfl rfl (tok _ rfl) rfl) ?_) | (refine ASeq.q rfl rfl (QOp.loadM 5 rfl rfl rfl (tok _ rfl) rfl) ?_) | (refine ASeq.q rfl rfl (QOp.loadM 6 rfl rfl rfl (tok _ rfl) rfl) ?_) | (refine ASeq.q rfl rfl (QOp.loadM 7 rfl rfl rfl (tok _ rfl) rfl) ?_) | (refine ASeq.q rfl rfl (QOp.loadM 8 rfl rfl rfl (tok _ rfl) rfl) ?_) | (refine ASeq.q rfl rfl (QOp.loadM 9 rfl rfl rfl (tok _ rfl) rfl) ?_) | (refine ASeq.q rfl rfl (QOp.loadM 10 rfl rfl rfl (tok _ rfl) rfl) ?_) | (refine ASeq.q rfl rfl (QOp.loadM 11 rfl rfl rfl (tok _ rfl) rfl) ?_) | (refine ASeq.q rfl rfl (QOp.loadM 12 rfl rfl rfl (tok _ rfl) rfl) ?_) | (refine ASeq.q rfl rfl (QOp.loadM 13 rfl rfl rfl (tok _ rfl) rfl) ?_) | (refine ASeq.q rfl rfl (QOp.loadM 14 rfl rfl rfl (tok _ rfl) rfl) ?_) | (refine ASeq.q rfl rfl (QOp.loadM 15 rfl rfl rfl (tok _ rfl) rfl) ?_) | (refine ASeq.q rfl rfl (QOp.loadAt 0 rfl rfl rfl (tok _ rfl) rfl (by assumption)) ?_) | (refine ASeq.q rfl rfl (QOp.loadAt 1 rfl rfl rfl (tok _ rfl) rfl (by assumption)) ?_) | (refine ASeq.q rfl rfl (QOp.loadAt 2 rfl rfl rfl (tok _ rfl) rfl (by assumption)) ?_) | (refine ASeq.q rfl rfl (QOp.loadAt 3 rfl rfl rfl (tok _ rfl) rfl (by assumption)) ?_) | (refine ASeq.q rfl rfl (QOp.loadAt 4 rfl rfl rfl (tok _ rfl) rfl (by assumption)) ?_) | (refine ASeq.q rfl rfl (QOp.loadAt 5 rfl rfl rfl (tok _ rfl) rfl (by assumption)) ?_)
    refine ASeq.op rfl rfl (AOp.allocP rfl (tok _ rfl) rfl rfl (fun _ => rfl) (fun _ => ?_))
    refine ASeq.q rfl rfl (QOp.assign rfl rfl) ?_
    first | (refine ASeq.op0 rfl rfl (AOp.storeP 0 rfl rfl rfl rfl (tok _ rfl) rfl rfl rfl rfl ?_)) | (refine ASeq.op0 rfl rfl (AOp.storeP 1 rfl rfl rfl rfl (tok _ rfl) rfl rfl rfl rfl ?_)) | (refine ASeq.op0 rfl rfl (AOp.storeP 2 rfl rfl rfl rfl (tok _ rfl) rfl rfl rfl rfl ?_)) | (refine ASeq.op0 rfl rfl (AOp.storeP 3 rfl rfl rfl rfl (tok _ rfl) rfl rfl rfl rfl ?_)) | (refine ASeq.op0 rfl rfl (AOp.storeP 4 rfl rfl rfl rfl (tok _ rfl) rfl rfl rfl rfl ?_)) | (refine ASeq.op0 rfl rfl (AOp.storeP 5 rfl rfl rfl rfl (tok _ rfl) rfl rfl rfl rfl ?_)) | (refine ASeq.op0 rfl rfl (AOp.storeP 6 rfl rfl rfl rfl (tok _ rfl) rfl rfl rfl rfl ?_)) | (refine ASeq.op0 rfl rfl (AOp.storeP 7 rfl rfl rfl rfl (tok _ rfl) rfl rfl rfl rfl ?_)) | (refine ASeq.op0 rfl rfl (AOp.storeP 8 rfl rfl rfl rfl (tok _ rfl) rfl rfl rfl rfl ?_)) | (refine ASeq.op0 rfl rfl (AOp.storeP 9 rfl rfl rfl rfl (tok _ rfl) rfl rfl rfl rfl ?_)) | (refine ASeq.op0 rfl rfl (AOp.storeP 10 rfl rfl rfl rfl (tok _ rfl) rfl rfl rfl rfl ?_)) | (refine ASeq.op0 rfl rfl (AOp.storeP 11 rfl rfl rfl rfl (tok _ rfl) rfl rfl rfl rfl ?_)) | (refine ASeq.op0 rfl rfl (AOp.storeP 12 rfl rfl rfl rfl (tok _ rfl) rfl rfl rfl rfl ?_)) | (refine ASeq.op0 rfl rfl (AOp.storeP 13 rfl rfl rfl rfl (tok _ rfl) rfl rfl rfl rfl ?_)) | (refine ASeq.op0 rfl rfl (AOp.storeP 14 rfl rfl rfl rfl (tok _ rfl) rfl rfl rfl rfl ?_)) | (refine ASeq.op0 rfl rfl (AOp.storeP 15 rfl rfl rfl rfl (tok _ rfl) rfl rfl rfl rfl ?_))
    refine ASeq.nil ?_
    repeat (first | (refine ACode.seq ?_) | (refine ACode.region ?_) | (refine ACode.ret ?_) | (refine ACode.skip ?_) | (refine ACode.exit ?_) | (refine ACode.block ?_) | (refine AExit.then_normal ?_) | (refine AExit.then_ret ?_) | (refine AExit.then_exit ?_) | (refine AExit.in_normal ?_) | (refine AExit.in_ret ?_) | (refine AExit.in_same ?_) | (refine AExit.in_other rfl ?_) | (refine ASeq.nil ?_))
    refine ASeq.q rfl rfl (QOp.assign rfl rfl) ?_
    refine ASeq.nil ?_
    refine AExit.then_normal ?_
    refine ACode.meet [(3, .mp m3 0), (5, .mp m5 0), (57, .il 6 none (t.funcs.map Fu.cells)), (58, vi ((t.funcs.map Fu.cells).length : Int)), (59, vi i), (8, vi i), (10, vi (firstOf t.funcs[i].body (-1)))]
      [.mu mN (nx.map nxc), .mu m3 t.cells, .mu m5 [.il 1 none (ints (firsts t)), .sl 1 mN 0 t.stmts.length]] (fun rest => ?_) ?_
    · repeat (first | (refine ACode.seq ?_) | (refine ACode.region ?_) | (refine ACode.ret ?_) | (refine ACode.skip ?_) | (refine ACode.exit ?_) | (refine ACode.block ?_) | (refine AExit.then_normal ?_) | (refine AExit.then_ret ?_) | (refine AExit.then_exit ?_) | (refine AExit.in_normal ?_) | (refine AExit.in_ret ?_) | (refine AExit.in_same ?_) | (refine AExit.in_other rfl ?_) | (refine ASeq.nil ?_))
      first | (refine ASeq.q rfl rfl (QOp.fieldM rfl rfl (tok _ rfl) rfl rfl (by decide) rfl) ?_) | (refine ASeq.q rfl rfl (QOp.fieldI rfl rfl (tok _ rfl) rfl rfl (by decide) rfl) ?_)
      first | (refine ASeq.q rfl rfl (QOp.loadI rfl rfl (tok _ rfl) rfl) ?_) | (refine ASeq.q rfl rfl (QOp.loadM 0 rfl rfl rfl (tok _ rfl) rfl) ?_) | (refine ASeq.q rfl rfl (QOp.loadM 1 rfl rfl rfl (tok _ rfl) rfl) ?_) | (refine ASeq.q rfl rfl (QOp.loadM 2 rfl rfl rfl (tok _ rfl) rfl) ?_) | (refine ASeq.q rfl rfl (QOp.loadM 3 rfl rfl rfl (tok _ rfl) rfl) ?_) | (refine ASeq.q rfl rfl (QOp.loadM 4 rfl rfl rfl (tok _ rfl) rfl) ?_) | (refine ASeq.q rfl rfl (QOp.loadM 5 rfl rfl rfl (tok _ rfl) rfl) ?_) | (refine ASeq.q rfl rfl (QOp.loadM 6 rfl rfl rfl (tok _ rfl) rfl) ?_) | (refine ASeq.q rfl rfl (QOp.loadM 7 rfl rfl rfl (tok _ rfl) rfl) ?_) | (refine ASeq.q rfl rfl (QOp.loadM 8 rfl rfl rfl (tok _ rfl) rfl) ?_) | (refine ASeq.q rfl rfl (QOp.loadM 9 rfl rfl rfl (tok _ rfl) rfl) ?_) | (refine ASeq.q rfl rfl (QOp.loadM 10 rfl rfl rfl (tok _ rfl) rfl) ?_) | (refine ASeq.q rfl rfl (QOp.loadM 11 rfl rfl rfl (tok _ rfl) rfl) ?_) | (refine ASeq.q rfl rfl (QOp.loadM 12 rfl rfl rfl (tok _ rfl) rfl) ?_) | (refine ASeq.q rfl rfl (QOp.loadM 13 rfl rfl rfl (tok _ rfl) rfl) ?_) | (refine ASeq.q rfl rfl (QOp.loadM 14 rfl rfl rfl (tok _ rfl) rfl) ?_) | (refine ASeq.q rfl rfl (QOp.loadM 15 rfl rfl rfl (tok _ rfl) rfl) ?_) | (refine ASeq.q rfl rfl (QOp.loadAt 0 rfl rfl rfl (tok _ rfl) rfl (by assumption)) ?_) | (refine ASeq.q rfl rfl (QOp.loadAt 1 rfl rfl rfl (tok _ rfl) rfl (by assumption)) ?_) | (refine ASeq.q rfl rfl (QOp.loadAt 2 rfl rfl rfl (tok _ rfl) rfl (by assumption)) ?_) | (refine ASeq.q rfl rfl (QOp.loadAt 3 rfl rfl rfl (tok _ rfl) rfl (by assumption)) ?_) | (refine ASeq.q rfl rfl (QOp.loadAt 4 rfl rfl rfl (tok _ rfl) rfl (by assumption)) ?_) | (refine ASeq.q rfl rfl (QOp.loadAt 5 rfl rfl rfl (tok _ rfl) rfl (by assumption)) ?_)
      first | (refine ASeq.q rfl rfl (QOp.lenI rfl rfl (tok _ rfl) rfl) ?_) | (refine ASeq.q rfl rfl (QOp.lenM rfl rfl (tok _ rfl) rfl) ?_) | (refine ASeq.q rfl rfl (QOp.lenS rfl rfl (tok _ rfl) rfl) ?_) | (refine ASeq.q rfl rfl (QOp.lenN rfl rfl (tok _ rfl) rfl) ?_)
      refine ASeq.q rfl rfl (QOp.cmp rfl rfl rfl rfl) ?_
      refine ASeq.nil ?_
      refine AExit.then_normal ?_
      refine ACode.cond _ rfl (fun hb => ?_) (fun hb => ?_)
      · have hlb : 0 < t.funcs[i].body.length := by have := of_decide_eq_true hb; rw [hbl] at this; omega
        have hget := first_get hlb (-1)
        repeat (first | (refine ACode.seq ?_) | (refine ACode.region ?_) | (refine ACode.ret ?_) | (refine ACode.skip ?_) | (refine ACode.exit ?_) | (refine ACode.block ?_) | (refine AExit.then_normal ?_) | (refine AExit.then_ret ?_) | (refine AExit.then_exit ?_) | (refine AExit.in_normal ?_) | (refine AExit.in_ret ?_) | (refine AExit.in_same ?_) | (refine AExit.in_other rfl ?_) | (refine ASeq.nil ?_))
        first | (refine ASeq.q rfl rfl (QOp.fieldM rfl rfl (tok _ rfl) rfl rfl (by decide) rfl) ?_) | (refine ASeq.q rfl rfl (QOp.fieldI rfl rfl (tok _ rfl) rfl rfl (by decide) rfl) ?_)
        first | (refine ASeq.q rfl rfl (QOp.loadI rfl rfl (tok _ rfl) rfl) ?_) | (refine ASeq.q rfl rfl (QOp.loadM 0 rfl rfl rfl (tok _ rfl) rfl) ?_) | (refine ASeq.q rfl rfl (QOp.loadM 1 rfl rfl rfl (tok _ rfl) rfl) ?_) | (refine ASeq.q rfl rfl (QOp.loadM 2 rfl rfl rfl (tok _ rfl) rfl) ?_) | (refine ASeq.q rfl rfl (QOp.loadM 3 rfl rfl rfl (tok _ rfl) rfl) ?_) | (refine ASeq.q rfl rfl (QOp.loadM 4 rfl rfl rfl (tok _ rfl) rfl) ?_) | (refine ASeq.q rfl rfl (QOp.loadM 5 rfl rfl rfl (tok _ rfl) rfl) ?_) | (refine ASeq.q rfl rfl (QOp.loadM 6 rfl rfl rfl (tok _ rfl) rfl) ?_) | (refine ASeq.q rfl rfl (QOp.loadM 7 rfl rfl rfl (tok _ rfl) rfl) ?_) | (refine ASeq.q rfl rfl (QOp.loadM 8 rfl rfl rfl (tok _ rfl) rfl) ?_) | (refine ASeq.q rfl rfl (QOp.loadM 9 rfl rfl rfl (tok _ rfl) rfl) ?_) | (refine ASeq.q rfl rfl (QOp.loadM 10 rfl rfl rfl (tok _ rfl) rfl) ?_) | (refine ASeq.q rfl rfl (QOp.loadM 11 rfl rfl rfl (tok _ rfl) rfl) ?_) | (refine ASeq.q rfl rfl (QOp.loadM 12 rfl rfl rfl (tok _ rfl) rfl) ?_) | (refine ASeq.q rfl rfl (QOp.loadM 13 rfl rfl rfl (tok _ rfl) rfl) ?_) | (refine ASeq.q rfl rfl (QOp.loadM 14 rfl rfl rfl (tok _ rfl) rfl) ?_) | (refine ASeq.q rfl rfl (QOp.loadM 15 rfl rfl rfl (tok _ rfl) rfl) ?_) | (refine ASeq.q rfl rfl (QOp.loadAt 0 rfl rfl rfl (tok _ rfl) rfl (by assumption)) ?_) | (refine ASeq.q rfl rfl (QOp.loadAt 1 rfl rfl rfl (tok _ rfl) rfl (by assumption)) ?_) | (refine ASeq.q rfl rfl (QOp.loadAt 2 rfl rfl rfl (tok _ rfl) rfl (by assumption)) ?_) | (refine ASeq.q rfl rfl (QOp.loadAt 3 rfl rfl rfl (tok _ rfl) rfl (by assumption)) ?_) | (refine ASeq.q rfl rfl (QOp.loadAt 4 rfl rfl rfl (tok _ rfl) rfl (by assumption)) ?_) | (refine ASeq.q rfl rfl (QOp.loadAt 5 rfl rfl rfl (tok _ rfl) rfl (by assumption)) ?_)
        first | (refine ASeq.q rfl rfl (QOp.indexI rfl rfl rfl (tok _ rfl) rfl (tok _ rfl) (by first | (decide) | (omega)) (by first | (rfl) | (assumption))) ?_) | (refine ASeq.q rfl rfl (QOp.indexM rfl rfl rfl (tok _ rfl) rfl (tok _ rfl) (by first | (decide) | (omega)) (by first | (decide) | (omega)) rfl) ?_)
        first | (refine ASeq.q rfl rfl (QOp.loadI rfl rfl (tok _ rfl) rfl) ?_) | (refine ASeq.q rfl rfl (QOp.loadM 0 rfl rfl rfl (tok _ rfl) rfl) ?_) | (refine ASeq.q rfl rfl (QOp.loadM 1 rfl rfl rfl (tok _ rfl) rfl) ?_) | (refine ASeq.q rfl rfl (QOp.loadM 2 rfl rfl rfl (tok _ rfl) rfl) ?_) | (refine ASeq.q rfl rfl (QOp.loadM 3 rfl rfl rfl (tok _ rfl) rfl) ?_) | (refine ASeq.q rfl rfl (QOp.loadM 4 rfl rfl rfl (tok _ rfl) rfl) ?_) | (refine ASeq.q rfl rfl (QOp.loadM 5 rfl rfl rfl (tok _ rfl) rfl) ?_) | (refine ASeq.q rfl rfl (QOp.loadM 6 rfl rfl rfl (tok _ rfl) rfl) ?_) | (refine ASeq.q rfl rfl (QOp.loadM 7 rfl rfl rfl (tok _ rfl) rfl) ?_) | (refine ASeq.q rfl rfl (QOp.loadM 8 rfl rfl rfl (tok _ rfl) rfl) ?_) | (refine ASeq.q rfl rfl (QOp.loadM 9 rfl rfl rfl (tok _ rfl) rfl) ?_) | (refine ASeq.q rfl rfl (QOp.loadM 10 rfl rfl rfl (tok _ rfl) rfl) ?_) | (refine ASeq.q rfl rfl (QOp.loadM 11 rfl rfl rfl (tok _ rfl) rfl) ?_) | (refine ASeq.q rfl rfl (QOp.loadM 12 rfl rfl rfl (tok _ rfl) rfl) ?_) | (refine ASeq.q rfl rfl (QOp.loadM 13 rfl rfl rfl (tok _ rfl) rfl) ?_) | (refine ASeq.q rfl rfl (QOp.loadM 14 rfl rfl rfl (tok _ rfl) rfl) ?_) | (refine ASeq.q rfl rfl (QOp.loadM 15 rfl rfl rfl (tok _ rfl) rfl) ?_) | (refine ASeq.q rfl rfl (QOp.loadAt 0 rfl rfl rfl (tok _ rfl) rfl (by assumption)) ?_) | (refine ASeq.q rfl rfl (QOp.loadAt 1 rfl rfl rfl (tok _ rfl) rfl (by assumption)) ?_) | (refine ASeq.q rfl rfl (QOp.loadAt 2 rfl rfl rfl (tok _ rfl) rfl (by assumption)) ?_) | (refine ASeq.q rfl rfl (QOp.loadAt 3 rfl rfl rfl (tok _ rfl) rfl (by assumption)) ?_) | (refine ASeq.q rfl rfl (QOp.loadAt 4 rfl rfl rfl (tok _ rfl) rfl (by assumption)) ?_) | (refine ASeq.q rfl rfl (QOp.loadAt 5 rfl rfl rfl (tok _ rfl) rfl (by assumption)) ?_)
        refine ASeq.q rfl rfl (QOp.assign rfl rfl) ?_
        refine ASeq.nil ?_
        refine AExit.then_normal ?_
        exact rest.atP 3 (.cons rfl (.cons rfl (.cons rfl (.cons rfl (.cons rfl (.cons rfl (.cons rfl .nil))))))) rfl
      · have hlb : ¬ 0 < t.funcs[i].body.length := by have := of_decide_eq_false hb; rw [hbl] at this; omega
        refine ACode.skip ?_
        refine AExit.then_normal ?_
        exact rest.atP 3 (.cons rfl (.cons rfl (.cons rfl (.cons rfl (.cons rfl (.cons rfl (.consE rfl (by rw [first_nil hlb]; rfl) .nil))))))) rfl
    repeat (first | (refine ACode.seq ?_) | (refine ACode.region ?_) | (refine ACode.ret ?_) | (refine ACode.skip ?_) | (refine ACode.exit ?_) | (refine ACode.block ?_) | (refine AExit.then_normal ?_) | (refine AExit.then_ret ?_) | (refine AExit.then_exit ?_) | (refine AExit.in_normal ?_) | (refine AExit.in_ret ?_) | (refine AExit.in_same ?_) | (refine AExit.in_other rfl ?_) | (refine ASeq.nil ?_))
    first | (refine ASeq.q rfl rfl (QOp.fieldM rfl rfl (tok _ rfl) rfl rfl (by decide) rfl) ?_) | (refine ASeq.q rfl rfl (QOp.fieldI rfl rfl (tok _ rfl) rfl rfl (by decide) rfl) ?_)
    first | (refine ASeq.q rfl rfl (QOp.loadI rfl rfl (tok _ rfl) rfl) ?_) | (refine ASeq.q rfl rfl (QOp.loadM 0 rfl rfl rfl (tok _ rfl) rfl) ?_) | (refine ASeq.q rfl rfl (QOp.loadM 1 rfl rfl rfl (tok _ rfl) rfl) ?_) | (refine ASeq.q rfl rfl (QOp.loadM 2 rfl rfl rfl (tok _ rfl) rfl) ?_) | (refine ASeq.q rfl rfl (QOp.loadM 3 rfl rfl rfl (tok _ rfl) rfl) ?_) | (refine ASeq.q rfl rfl (QOp.loadM 4 rfl rfl rfl (tok _ rfl) rfl) ?_) | (refine ASeq.q rfl rfl (QOp.loadM 5 rfl rfl rfl (tok _ rfl) rfl) ?_) | (refine ASeq.q rfl rfl (QOp.loadM 6 rfl rfl rfl (tok _ rfl) rfl) ?_) | (refine ASeq.q rfl rfl (QOp.loadM 7 rfl rfl rfl (tok _ rfl) rfl) ?_) | (refine ASeq.q rfl rfl (QOp.loadM 8 rfl rfl rfl (tok _ rfl) rfl) ?_) | (refine ASeq.q rfl rfl (QOp.loadM 9 rfl rfl rfl (tok _ rfl) rfl) ?_) | (refine ASeq.q rfl rfl (QOp.loadM 10 rfl rfl rfl (tok _ rfl) rfl) ?_) | (refine ASeq.q rfl rfl (QOp.loadM 11 rfl rfl rfl (tok _ rfl) rfl) ?_) | (refine ASeq.q rfl rfl (QOp.loadM 12 rfl rfl rfl (tok _ rfl) rfl) ?_) | (refine ASeq.q rfl rfl (QOp.loadM 13 rfl rfl rfl (tok _ rfl) rfl) ?_) | (refine ASeq.q rfl rfl (QOp.loadM 14 rfl rfl rfl (tok _ rfl) rfl) ?_) | (refine ASeq.q rfl rfl (QOp.loadM 15 rfl rfl rfl (tok _ rfl) rfl) ?_) | (refine ASeq.q rfl rfl (QOp.loadAt 0 rfl rfl rfl (tok _ rfl) rfl (by assumption)) ?_) | (refine ASeq.q rfl rfl (QOp.loadAt 1 rfl rfl rfl (tok _ rfl) rfl (by assumption)) ?_) | (refine ASeq.q rfl rfl (QOp.loadAt 2 rfl rfl rfl (tok _ rfl) rfl (by assumption)) ?_) | (refine ASeq.q rfl rfl (QOp.loadAt 3 rfl rfl rfl (tok _ rfl) rfl (by assumption)) ?_) | (refine ASeq.q rfl rfl (QOp.loadAt 4 rfl rfl rfl (tok _ rfl) rfl (by assumption)) ?_) | (refine ASeq.q rfl rfl (QOp.loadAt 5 rfl rfl rfl (tok _ rfl) rfl (by assumption)) ?_)
    refine ASeq.q rfl rfl (QOp.move rfl rfl) ?_
    first | (refine ASeq.q rfl rfl (QOp.indexI rfl rfl rfl (tok _ rfl) rfl (tok _ rfl) (by first | (decide) | (omega)) (by first | (rfl) | (assumption))) ?_) | (refine ASeq.q rfl rfl (QOp.indexM rfl rfl rfl (tok _ rfl) rfl (tok _ rfl) (by first | (decide) | (omega)) (by first | (decide) | (omega)) rfl) ?_)
    first | (refine ASeq.q rfl rfl (QOp.loadI rfl rfl (tok _ rfl) rfl) ?_) | (refine ASeq.q rfl rfl (QOp.loadM 0 rfl rfl rfl (tok _ rfl) rfl) ?_) | (refine ASeq.q rfl rfl (QOp.loadM 1 rfl rfl rfl (tok _ rfl) rfl) ?_) | (refine ASeq.q rfl rfl (QOp.loadM 2 rfl rfl rfl (tok _ rfl) rfl) ?_) | (refine ASeq.q rfl rfl (QOp.loadM 3 rfl rfl rfl (tok _ rfl) rfl) ?_) | (refine ASeq.q rfl rfl (QOp.loadM 4 rfl rfl rfl (tok _ rfl) rfl) ?_) | (refine ASeq.q rfl rfl (QOp.loadM 5 rfl rfl rfl (tok _ rfl) rfl) ?_) | (refine ASeq.q rfl rfl (QOp.loadM 6 rfl rfl rfl (tok _ rfl) rfl) ?_) | (refine ASeq.q rfl rfl (QOp.loadM 7 rfl rfl rfl (tok _ rfl) rfl) ?_) | (refine ASeq.q rfl rfl (QOp.loadM 8 rfl rfl rfl (tok _ rfl) rfl) ?_) | (refine ASeq.q rfl rfl (QOp.loadM 9 rfl rfl rfl (tok _ rfl) rfl) ?_) | (refine ASeq.q rfl rfl (QOp.loadM 10 rfl rfl rfl (tok _ rfl) rfl) ?_) | (refine ASeq.q rfl rfl (QOp.loadM 11 rfl rfl rfl (tok _ rfl) rfl) ?_) | (refine ASeq.q rfl rfl (QOp.loadM 12 rfl rfl rfl (tok _ rfl) rfl) ?_) | (refine ASeq.q rfl rfl (QOp.loadM 13 rfl rfl rfl (tok _ rfl) rfl) ?_) | (refine ASeq.q rfl rfl (QOp.loadM 14 rfl rfl rfl (tok _ rfl) rfl) ?_) | (refine ASeq.q rfl rfl (QOp.loadM 15 rfl rfl rfl (tok _ rfl) rfl) ?_) | (refine ASeq.q rfl rfl (QOp.loadAt 0 rfl rfl rfl (tok _ rfl) rfl (by assumption)) ?_) | (refine ASeq.q rfl rfl (QOp.loadAt 1 rfl rfl rfl (tok _ rfl) rfl (by assumption)) ?_) | (refine ASeq.q rfl rfl (QOp.loadAt 2 rfl rfl rfl (tok _ rfl) rfl (by assumption)) ?_) | (refine ASeq.q rfl rfl (QOp.loadAt 3 rfl rfl rfl (tok _ rfl) rfl (by assumption)) ?_) | (refine ASeq.q rfl rfl (QOp.loadAt 4 rfl rfl rfl (tok _ rfl) rfl (by assumption)) ?_) | (refine ASeq.q rfl rfl (QOp.loadAt 5 rfl rfl rfl (tok _ rfl) rfl (by assumption)) ?_)
    refine ASeq.q rfl rfl (QOp.move rfl rfl) ?_
    refine ASeq.q rfl rfl (QOp.cmp rfl rfl rfl rfl) ?_
    refine ASeq.nil ?_
    repeat (first | (refine ACode.seq ?_) | (refine ACode.region ?_) | (refine ACode.ret ?_) | (refine ACode.skip ?_) | (refine ACode.exit ?_) | (refine ACode.block ?_) | (refine AExit.then_normal ?_) | (refine AExit.then_ret ?_) | (refine AExit.then_exit ?_) | (refine AExit.in_normal ?_) | (refine AExit.in_ret ?_) | (refine AExit.in_same ?_) | (refine AExit.in_other rfl ?_) | (refine ASeq.nil ?_))
    refine ACode.cond _ rfl (fun hb => by simp at hb) (fun _ => ?_)
    repeat (first | (refine ACode.seq ?_) | (refine ACode.region ?_) | (refine ACode.ret ?_) | (refine ACode.skip ?_) | (refine ACode.exit ?_) | (refine ACode.block ?_) | (refine AExit.then_normal ?_) | (refine AExit.then_ret ?_) | (refine AExit.then_exit ?_) | (refine AExit.in_normal ?_) | (refine AExit.in_ret ?_) | (refine AExit.in_same ?_) | (refine AExit.in_other rfl ?_) | (refine ASeq.nil ?_))
    refine ASeq.q rfl rfl (QOp.ar64 rfl rfl rfl rfl ⟨by first | (omega) | (simp only [List.length_append, List.length_map, List.length_cons, List.length_nil]; omega), by first | (omega) | (simp only [List.length_append, List.length_map, List.length_cons, List.length_nil]; omega)⟩) ?_
    refine ASeq.q rfl rfl (QOp.move rfl rfl) ?_
    refine ASeq.nil ?_
    repeat (first | (refine ACode.seq ?_) | (refine ACode.region ?_) | (refine ACode.ret ?_) | (refine ACode.skip ?_) | (refine ACode.exit ?_) | (refine ACode.block ?_) | (refine AExit.then_normal ?_) | (refine AExit.then_ret ?_) | (refine AExit.then_exit ?_) | (refine AExit.in_normal ?_) | (refine AExit.in_ret ?_) | (refine AExit.in_same ?_) | (refine AExit.in_other rfl ?_) | (refine ASeq.nil ?_))
    exact ⟨i + 1, 3, hlt, by omega, .cons rfl (.cons rfl (.cons rfl (.cons rfl (.cons rfl .nil)))), rfl⟩
  · repeat (first | (refine ACode.seq ?_) | (refine ACode.region ?_) | (refine ACode.ret ?_) | (refine ACode.skip ?_) | (refine ACode.exit ?_) | (refine ACode.block ?_) | (refine AExit.then_normal ?_) | (refine AExit.then_ret ?_) | (refine AExit.then_exit ?_) | (refine AExit.in_normal ?_) | (refine AExit.in_ret ?_) | (refine AExit.in_same ?_) | (refine AExit.in_other rfl ?_) | (refine ASeq.nil ?_))
    refine ASeq.q rfl rfl (QOp.assign rfl rfl) ?_
    refine ASeq.nil ?_
    repeat (first | (refine ACode.seq ?_) | (refine ACode.region ?_) | (refine ACode.ret ?_) | (refine ACode.skip ?_) | (refine ACode.exit ?_) | (refine ACode.block ?_) | (refine AExit.then_normal ?_) | (refine AExit.then_ret ?_) | (refine AExit.then_exit ?_) | (refine AExit.in_normal ?_) | (refine AExit.in_ret ?_) | (refine AExit.in_same ?_) | (refine AExit.in_other rfl ?_) | (refine ASeq.nil ?_))
    refine bodyQ_ret 0 (.tmp rfl .nil) rfl ?_
    exact .mk
end Go.Proofs.Ytaadamobapnfbaa
/- From the abstract layer's walk of a law to what its row asks for. -/
set_option linter.unusedVariables false
namespace Go.Proofs.Ytaadamobapnfbaa
open Go Go.Abs Go.RowKit
def gh0 : Gh := { per := fun _ => [], size := fun _ => 0, loc := fun _ => none, tok := fun _ => none, next := 0 }
theorem own0 (W : World) : Own gh0 [] W :=
  ⟨fun b h => absurd rfl h, fun it h => by simp at h, .nil, fun b _ => ⟨rfl, rfl⟩, fun m _ => ⟨rfl, rfl⟩, fun m b h => (by cases h), fun t p h => (by cases h)⟩
theorem law_below {f : FuncId} {args : List AV} {cargs : Array Value} (hc : ACalls Try.prog f args [] (RV (.v (.bool true)) [])) (hr : Reps gh0 args cargs) (W : World) :
    Calls Try.prog f cargs W fun e W' => e = .returned (.bool true) ∧ Below W.heap.size W W' := by
  refine (hc gh0 W cargs (own0 W) hr).mono fun e w he => ?_
  cases e with
  | returned c =>
    obtain ⟨G', R', r, hE, hO, hrep, hq⟩ := he
    cases hq
    refine ⟨by rw [hrep.v_inv], hE.os, hE.tape, hE.output, hE.size, fun k hk => (hE.same k hk ?_).1⟩
    rintro ⟨it, hi, _⟩
    simp at hi
  | panicked ch =>
    obtain ⟨G', R', x, c, h0, hE, hO, hrep, hq⟩ := he
    cases hq
  | outgrown => exact he.elim
theorem reps_string (s : ByteArray) : Reps gh0 [vs s] #[.string s] :=
  ⟨rfl, fun i x hx => by
    match i, hx with
    | 0, hx =>
      simp only [List.getElem?_cons_zero, Option.some.injEq] at hx
      exact ⟨.string s, rfl, hx ▸ .v⟩
    | i + 1, hx => simp at hx⟩
theorem owned0 : ownKnob Try.prog.godebug = none := by kernel_rfl
end Go.Proofs.Ytaadamobapnfbaa
