/- Own texts, put together by a program: Te Tf Tg. -/
import Derived.Test.YtaadamobapnfbaaKn4
set_option linter.unusedVariables false
set_option linter.unusedSimpArgs false
set_option maxRecDepth 100000
namespace Go.Proofs.Ytaadamobapnfbaa
open Go Go.Abs
theorem ckItems_setFunc (c : CS) (k : Mk) (z : Zt) (i n : Int) : ckItems (c.setFunc i n) k z =
    [.mu k.mC (ckCells c k z), .mu z.mZ (z.all.map zcell), .mu k.mT (c.type.map vi), .mu k.mS (c.slot.map vi), .mu k.mP (c.put.map vi), .mu k.mF ((c.func.map vi).set (0 + i.toNat * 1) (vi n)), .mu k.mL (c.slotCells z.τ), .tk z.τ, .tk z.τz] := by
  have e1 : ckCells (c.setFunc i n) k z = ckCells c k z := by simp [ckCells, CS.setFunc]
  have e2 : (c.setFunc i n).func.map vi = (c.func.map vi).set (0 + i.toNat * 1) (vi n) := by
    show (c.func.set i.toNat n).map vi = _
    rw [List.map_set, Nat.zero_add, Nat.mul_one]
  unfold ckItems
  rw [e1, e2]; rfl
theorem ckItems_setPut (c : CS) (k : Mk) (z : Zt) (i n : Int) : ckItems (c.setPut i n) k z =
    [.mu k.mC (ckCells c k z), .mu z.mZ (z.all.map zcell), .mu k.mT (c.type.map vi), .mu k.mS (c.slot.map vi), .mu k.mP ((c.put.map vi).set (0 + i.toNat * 1) (vi n)), .mu k.mF (c.func.map vi), .mu k.mL (c.slotCells z.τ), .tk z.τ, .tk z.τz] := by
  have e1 : ckCells (c.setPut i n) k z = ckCells c k z := by simp [ckCells, CS.setPut]
  have e2 : (c.setPut i n).put.map vi = (c.put.map vi).set (0 + i.toNat * 1) (vi n) := by
    show (c.put.set i.toNat n).map vi = _
    rw [List.map_set, Nat.zero_add, Nat.mul_one]
  unfold ckItems
  rw [e1, e2]; rfl
theorem Ckz.same {c d : CS} {z : Zt} (h : Ckz c z) (h1 : d.names = c.names) (h2 : d.block = c.block) : Ckz d z := ⟨by rw [h1]; exact h.names, by rw [h2]; exact h.block, h.tops, h.outs, h.uniq, h.deep⟩
theorem RSt.nok {k : Mk} {z : Zt} {c r : CS} (hc : c.code = 0) {ok : Bool} (hok : ok = false) {a n : Int} (hn : n ≠ 0) (hst : Stk (c.need ok a n) r) (R : List Abs.Item) : RSt k z r (.pan (wrongV a n)) R := by
  subst hok
  have e := need_no c hc a n
  have := RSt.on (k := k) (z := z) hst (by rw [e]; exact hn) R
  rw [e] at this
  exact this
theorem cvals_ok (c : CS) (k : Mk) (z : Zt) (i : Int) (hz : Ckz c z) (ho : c.ok) (h0 : c.code = 0) (hw : TreeX c.t) (hi0 : 0 ≤ i) (hi1 : i < c.t.exprs.length) : ACalls Try.prog 66 [.mp k.mC 0, vi i] (ckItems c k z) (RCi k z (vals c i)) :=
  cvalue_ok _ (cexprs _) c k z i hz ho h0 hw hi0 hi1 hi1
theorem Stk.put (c : CS) (v i : Int) : Stk c (Ytaadamobapnfbaa.putted (c, v) i) := Stk.putted (r := (c, v)) (Stk.refl _) i
theorem putted_at {c : CS} {v i : Int} (h : c.code = 0) : putted (c, v) i = c.setPut i v := by unfold putted; rw [if_pos h]
theorem putted_ok {r : CS × Int} {i : Int} (h : r.1.code = 0) : putted r i = r.1.setPut i r.2 := by unfold putted; rw [if_pos h]
inductive RDs (k : Mk) (z : Zt) (c : CS) (s : ByteArray) (r : CS × Int) : AOut → List Abs.Item → Prop
  | ok (h : r.1.code = 0) (τ τz : Nat) (sl : List (List Int)) (ns : List Nm) (e : r.1 = { c with slots := sl, names := ns }) : RDs k z c s r (.ret (vi r.2)) (ckItems { c with slots := sl, names := ns } k (z.more τ τz ⟨s, c.block, r.2⟩))
  | bad (h : r.1.code ≠ 0) (R : List Abs.Item) : RDs k z c s r (.pan (wrongV r.1.at_ r.1.code)) R
theorem cdeclare_same (c : CS) (k : Mk) (z : Zt) (hz : Ckz c z) (ho : c.ok) (h0 : c.code = 0) (s : ByteArray) (kind fr to : Int) :
    ACalls Try.prog 41 [.mp k.mC 0, vs s, vi kind, .agg [vi fr, vi to]] (ckItems c k z) (RDs k z c s (c.decl s kind fr)) := by
  refine (cdeclare_ok c k z hz ho h0 s kind fr to).mono ?_
  rintro _ _ (⟨h, τ, τz⟩ | ⟨h, R⟩)
  · obtain ⟨ht, h6⟩ := decl_cases h0 s kind fr h
    have e : (c.decl s kind fr).1 = { c with slots := c.slots.set c.f.toNat (c.cur ++ [kind]), names := c.names ++ [⟨s, c.block, c.cur.length⟩] } := by rw [decl_good h0 s kind fr ht h6]
    have := RDs.ok (k := k) (z := z) (c := c) (s := s) h τ τz _ _ e
    rw [← e] at this
    exact this
  · exact .bad h _
set_option maxHeartbeats 16000000 in
theorem cstmt_ok (n : Nat) (hS : CCk n) : CCk (n + 1) := by
  intro c k z i hz ho h0 hp hw hw2 hi0 hi1 hin hd hl0 hl1
  have hK := KeptS.stm6 n
  have hP := PutOk.stm6 n
  have hwf := st_wf hw2 hi0 hi1
  have hgo : stm6 (n + 1) c i = putted (stmtCase (stm6 n) (c.setFunc i c.f) (c.stm i)) i := by rw [stm6, if_neg (fun h => h h0)]
  have hlF : 0 + i.toNat * 1 < (c.func.map vi).length := by have := ho.lf; rw [List.length_map]; omega
  have hlF2 : i.toNat < c.func.length := by have := ho.lf; omega
  have hf0 := ho.f0
  rw [hgo]
  generalize hfin : putted (stmtCase (stm6 n) (c.setFunc i c.f) (c.stm i)) i = fin
  refine ACalls.of_code (c := _) Try.func42 rfl Try.ntmps42 (Nat.le_of_ble_eq_true rfl) ?_
  refine ACode.seq (ACode.region ?_)
  refine ASeq.op rfl rfl (AOp.boxP rfl rfl rfl (fun _ => rfl) (fun _ => ?_))
  refine ASeq.nil ?_
  rename_i m5
  refine ACode.seq ?_
  refine ACode.drawn [[], [0], [0, 1], [0, 1, 2], [0, 1, 2, 3], [], [], [6], [6, 7], [6, 7, 8], [0, 1, 2, 3, 4, 5, 6, 7, 8, 9], [0, 1, 2, 3, 4, 5, 6, 7, 8, 9, 10]] (by kernel_rfl) mixed ?_
  refine DAny.qu 0 rfl rfl (by kernel_rfl) rfl (fun _ => .does _ _ rfl (.none rfl) (QOp.move rfl rfl)) ?_
  refine DAny.qu 1 rfl rfl (by kernel_rfl) rfl (fun _ => .does _ _ rfl (.none rfl) (QOp.nilCheckM rfl rfl)) ?_
  refine DAny.qu 2 rfl rfl (by kernel_rfl) rfl (fun _ => .does _ _ rfl (.none rfl) (QOp.fieldM rfl rfl (tok _ rfl) rfl rfl (by decide) rfl)) ?_
  refine DAny.qu 3 rfl rfl (by kernel_rfl) rfl (fun _ => .does _ _ rfl (.none rfl) (QOp.fieldM rfl rfl (tok _ rfl) rfl rfl (by decide) rfl)) ?_
  refine DAny.ld 4 rfl rfl (by kernel_rfl) rfl (.does _ _ rfl (.none rfl) (QOp.loadM 0 rfl rfl rfl (tok _ rfl) rfl)) ?_
  refine DAny.qu 5 rfl rfl (by kernel_rfl) rfl (fun _ => .does _ _ rfl (.none rfl) (QOp.move rfl rfl)) ?_
  refine DAny.qu 6 rfl rfl (by kernel_rfl) rfl (fun _ => .does _ _ rfl (.none rfl) (QOp.move rfl rfl)) ?_
  refine DAny.qu 7 rfl rfl (by kernel_rfl) rfl (fun _ => .does _ _ rfl (.none rfl) (QOp.nilCheckM rfl rfl)) ?_
  refine DAny.qu 8 rfl rfl (by kernel_rfl) rfl (fun _ => .does _ _ rfl (.none rfl) (QOp.fieldM rfl rfl (tok _ rfl) rfl rfl (by decide) rfl)) ?_
  refine DAny.ld 9 rfl rfl (by kernel_rfl) rfl (.does _ _ rfl (.none rfl) (QOp.loadM 0 rfl rfl rfl (tok _ rfl) rfl)) ?_
  refine DAny.qu 10 rfl rfl (by kernel_rfl) rfl (fun _ => .does _ _ rfl (.none rfl) (QOp.indexM rfl rfl rfl (tok _ rfl) rfl (tok _ rfl) (by omega) (by omega) rfl)) ?_
  refine DAny.ef0 11 rfl (by kernel_rfl) (.none rfl) rfl rfl (AOp.storeAt 5 rfl rfl rfl rfl (tok _ rfl) rfl rfl (by assumption) rfl ⟨(by ((exact AllQ.nil))), ?_⟩)
  refine DAny.done (by kernel_rfl) ?_
  refine ACode.items (R' := ckItems (c.setFunc i c.f) k z ++ [.mu m5 (c.stm i).cells]) _ (List.Perm.of_eq ?_) (List.Sublist.refl _) ?_
  · rw [ckItems_setFunc]; rfl
  have hz : Ckz (c.setFunc i c.f) z := hz.same rfl rfl
  have ho : (c.setFunc i c.f).ok := (KeptS.setFunc c i c.f).ok ho
  have hp : PutOk (c.setFunc i c.f) := hp.same rfl rfl
  have h0 : (c.setFunc i c.f).code = 0 := h0
  have hl0 : 0 ≤ (c.setFunc i c.f).loops := hl0
  have hl1 : (c.setFunc i c.f).loops + (n + 1 : Nat) ≤ smax := hl1
  have hw : TreeX (c.setFunc i c.f).t := hw
  have hw2 : StsWf (c.setFunc i c.f).t := hw2
  have hi1 : i < (c.setFunc i c.f).t.stmts.length := hi1
  have hsd : (c.setFunc i c.f).stm i = c.stm i := rfl
  have hwf : StWf (c.setFunc i c.f).t.exprs.length i.toNat (c.stm i) := hwf
  clear hlF hlF2 hf0 hgo
  generalize c.setFunc i c.f = d at *
  generalize c.stm i = s at *
  have hf0 := ho.f0
  have hf1 := ho.f1
  have hlp := ho.lp
  have hbig := ho.big
  have hmax : smax = 1099511627776 := rfl
  have hval := fun (a : Int) (h0' : 0 ≤ a) (h1' : a < d.t.exprs.length) => cvals_ok d k z a hz ho h0 hw h0' h1'
  have hkv := fun (a : Int) => Kept.vals d a
  generalize hr2 : stmtCase (stm6 n) d s = r at hfin
  unfold stmtCase at hr2
  refine ACode.seq (ACode.region ?_)
  refine ASeq.q rfl rfl (QOp.fieldM rfl rfl (tok _ rfl) rfl rfl (by decide) rfl) ?_
  refine ASeq.q rfl rfl (QOp.loadM 9 rfl rfl rfl (tok _ rfl) rfl) ?_
  refine ASeq.nil ?_
  refine ACode.block (ACode.seq (ACode.region ?_))
  refine ASeq.q rfl rfl (QOp.cmp rfl rfl rfl rfl) ?_
  refine ASeq.q rfl rfl (QOp.assign rfl rfl) ?_
  refine ASeq.nil ?_
  refine AExit.then_normal ?_
  refine ACode.cond _ rfl (fun hb => ?_) (fun hb => ?_)
  · have hk1 : s.kind = 1 := eq_of_beq hb
    rw [if_pos hk1] at hr2
    have hv := hval s.a (hwf.1 (.inl hk1)) (hwf.2.1 (by omega))
    have hkv := hkv s.a
    generalize vals d s.a = v at *
    have hsv : Stk v.1 fin := by
      rw [← hfin]
      refine Stk.putted ?_ i
      rw [← hr2]
      split
      · exact .refl _
      · exact .decl _ _ _ _
    have okv := hkv.ok ho
    have hzv := hz.kept hkv
    have hdec := fun hc => cdeclare_same v.1 k z hzv okv hc s.name v.2 s.fr s.to
    have hkd := KeptS.decl okv s.name v.2 s.fr
    have hmore := fun hc τ τz h => hzv.more (c := v.1) hc s.name v.2 s.fr τ τz h
    have hr3 : v.1.code = 0 → r = v.1.decl s.name v.2 s.fr := fun h => by rw [← hr2, if_neg (fun h' => h' h)]
    generalize v.1.decl s.name v.2 s.fr = w at *
    have hlv : v.1.put.length = d.t.stmts.length := by rw [hkv.put]; exact hlp
    have hlw : w.1.put.length = d.t.stmts.length := by rw [hkd.lp]; exact hlv
    have hlt : 0 + i.toNat * 1 < (v.1.put.map vi).length := by rw [List.length_map]; omega
    refine ACode.seq (ACode.region ?_)
    refine ASeq.q rfl rfl (QOp.move rfl rfl) ?_
    refine ASeq.q rfl rfl (QOp.fieldM rfl rfl (tok _ rfl) rfl rfl (by decide) rfl) ?_
    refine ASeq.q rfl rfl (QOp.loadM 9 rfl rfl rfl (tok _ rfl) rfl) ?_
    refine ASeq.op rfl rfl (AOp.callP 9 rfl (by kernel_rfl) rfl rfl rfl (hv) ?_ ?_)
    rotate_left
    · (rintro _ _ (⟨⟩ | ⟨hbad, R⟩); simp only [AExit.then, AExit.inBlock]; exact bodyQ_pan 0 rfl (.on hsv hbad _))
    rintro _ _ ⟨hc⟩
    refine ASeq.q rfl rfl (QOp.assign rfl rfl) ?_
    refine ASeq.nil ?_
    have hr3 := hr3 hc
    have hsw : Stk w.1 fin := by
      rw [← hfin, hr3]
      first | exact (Stk.refl _).putted i | exact Stk.put _ _ _
    refine AExit.then_normal ?_
    refine ACode.drawn [[], [0], [0, 1], [0, 1, 2], [0, 1, 2, 3], [], [], [], [7], [], [], [10], [6, 7, 8, 9, 10, 11], [0, 1, 2, 3, 4, 5, 6, 7, 8, 9, 10, 11, 12], [0, 1, 2, 3, 4, 5, 6, 7, 8, 9, 10, 11, 12, 13]] (by kernel_rfl) mixed ?_
    refine DAny.qu 0 rfl rfl (by kernel_rfl) rfl (fun _ => .does _ _ rfl (.none rfl) (QOp.move rfl rfl)) ?_
    refine DAny.qu 1 rfl rfl (by kernel_rfl) rfl (fun _ => .does _ _ rfl (.none rfl) (QOp.nilCheckM rfl rfl)) ?_
    refine DAny.qu 2 rfl rfl (by kernel_rfl) rfl (fun _ => .does _ _ rfl (.none rfl) (QOp.fieldM rfl rfl (tok _ rfl) rfl rfl (by decide) rfl)) ?_
    refine DAny.qu 3 rfl rfl (by kernel_rfl) rfl (fun _ => .does _ _ rfl (.none rfl) (QOp.fieldM rfl rfl (tok _ rfl) rfl rfl (by decide) rfl)) ?_
    refine DAny.ld 4 rfl rfl (by kernel_rfl) rfl (.does _ _ rfl (.none rfl) (QOp.loadM 0 rfl rfl rfl (tok _ rfl) rfl)) ?_
    refine DAny.qu 5 rfl rfl (by kernel_rfl) rfl (fun _ => .does _ _ rfl (.none rfl) (QOp.move rfl rfl)) ?_
    refine DAny.qu 6 rfl rfl (by kernel_rfl) rfl (fun _ => .does _ _ rfl (.none rfl) (QOp.move rfl rfl)) ?_
    refine DAny.qu 7 rfl rfl (by kernel_rfl) rfl (fun _ => .does _ _ rfl (.none rfl) (QOp.fieldM rfl rfl (tok _ rfl) rfl rfl (by decide) rfl)) ?_
    refine DAny.ld 8 rfl rfl (by kernel_rfl) rfl (.does _ _ rfl (.none rfl) (QOp.loadM 9 rfl rfl rfl (tok _ rfl) rfl)) ?_
    refine DAny.qu 9 rfl rfl (by kernel_rfl) rfl (fun _ => .does _ _ rfl (.none rfl) (QOp.move rfl rfl)) ?_
    refine DAny.qu 10 rfl rfl (by kernel_rfl) rfl (fun _ => .does _ _ rfl (.none rfl) (QOp.fieldM rfl rfl (tok _ rfl) rfl rfl (by decide) rfl)) ?_
    refine DAny.ld 11 rfl rfl (by kernel_rfl) rfl (.does _ _ rfl (.none rfl) (QOp.loadM 9 rfl rfl rfl (tok _ rfl) rfl)) ?_
    refine DAny.ef 12 rfl (by kernel_rfl) (.none rfl) rfl rfl (AOp.callP 9 rfl (by kernel_rfl) rfl rfl rfl (hdec hc) ?_ ?_)
    rotate_left
    · (rintro _ _ (⟨⟩ | ⟨hbad, R⟩); simp only [AExit.then, AExit.inBlock]; exact bodyQ_pan 0 rfl (.on hsw hbad _))
    rintro _ _ ⟨hc2, τ', τz', sl, ns, hw3⟩
    refine ⟨(by ((refine AllQ.cons (.does _ _ rfl (by exact .none rfl) (QOp.loadM 0 rfl rfl rfl (tok _ rfl) rfl)) ?_); (exact AllQ.nil))), ?_⟩
    refine DAny.qu 13 rfl rfl (by kernel_rfl) rfl (fun _ => .does _ _ rfl (.none rfl) (QOp.indexM rfl rfl rfl (tok _ rfl) rfl (tok _ rfl) (by omega) (by omega) rfl)) ?_
    refine DAny.ef0 14 rfl (by kernel_rfl) (.none rfl) rfl rfl (AOp.storeAt 4 rfl rfl rfl rfl (tok _ rfl) rfl rfl (by assumption) rfl ⟨(by ((exact AllQ.nil))), ?_⟩)
    refine DAny.done (by kernel_rfl) ?_
    refine AExit.in_normal ?_
    refine bodyQ_end 9 .nil rfl ?_
    have hf : fin = w.1.setPut i w.2 := by rw [← hfin, hr3, putted_ok hc2]
    refine RSt.of (by rw [hf]; exact hc2) (z.more τ' τz' ⟨s.name, v.1.block, w.2⟩) rfl (by rw [hf]; exact (hmore hc τ' τz' hc2).same rfl rfl) ?_
    rw [hf, ckItems_setPut, hw3]; rfl
  have hk1 : ¬ s.kind = 1 := ne_of_beq_false hb
  rw [if_neg hk1] at hr2
  refine ACode.seq (ACode.region ?_)
  refine ASeq.q rfl rfl (QOp.cmp rfl rfl rfl rfl) ?_
  refine ASeq.q rfl rfl (QOp.assign rfl rfl) ?_
  refine ASeq.nil ?_
  refine AExit.then_normal ?_
  refine ACode.cond _ rfl (fun hb => ?_) (fun hb => ?_)
  · have hk2 : s.kind = 2 := eq_of_beq hb
    rw [if_pos hk2] at hr2
    have hst : Stk (d.need (decide (s.num ≥ 1) && decide (s.num ≤ 64)) s.fr 15) fin := by
      rw [← hfin]; refine Stk.putted ?_ i; rw [← hr2]
      split
      · exact .refl _
      · exact .decl _ _ _ _
    have hdec := cdeclare_same d k z hz ho h0 s.name 3 s.fr s.to
    have hkd := KeptS.decl ho s.name 3 s.fr
    have hmore := fun τ τz h => hz.more (c := d) h0 s.name 3 s.fr τ τz h
    have hr3 : (decide (s.num ≥ 1) && decide (s.num ≤ 64)) = true → r = d.decl s.name 3 s.fr := fun h => by rw [← hr2, h, need_yes, if_neg (fun h' => h' h0)]
    clear hr2
    generalize d.decl s.name 3 s.fr = w at *
    have hlt : 0 + i.toNat * 1 < (d.put.map vi).length := by rw [List.length_map]; omega
    refine ACode.seq (ACode.region ?_)
    refine ASeq.q rfl rfl (QOp.fieldM rfl rfl (tok _ rfl) rfl rfl (by decide) rfl) ?_
    refine ASeq.q rfl rfl (QOp.loadM 9 rfl rfl rfl (tok _ rfl) rfl) ?_
    refine ASeq.q rfl rfl (QOp.cmp rfl rfl rfl rfl) ?_
    refine ASeq.q rfl rfl (QOp.move rfl rfl) ?_
    refine ASeq.split 49 (decide (s.num ≥ 1)) rfl (fun hb1 => ?_) (fun hb1 => ?_)
    · rw [hb1, Bool.true_and] at hst hr3
      refine ASeq.gq _ _ rfl rfl rfl rfl (QOp.fieldM rfl rfl (tok _ rfl) rfl rfl (by decide) rfl) ?_
      refine ASeq.gq _ _ rfl rfl rfl rfl (QOp.loadM 9 rfl rfl rfl (tok _ rfl) rfl) ?_
      refine ASeq.gq _ _ rfl rfl rfl rfl (QOp.cmp rfl rfl rfl rfl) ?_
      refine ASeq.q rfl rfl (QOp.pickT rfl rfl rfl) ?_
      refine ASeq.q rfl rfl (QOp.fieldM rfl rfl (tok _ rfl) rfl rfl (by decide) rfl) ?_
      refine ASeq.q rfl rfl (QOp.loadM 9 rfl rfl rfl (tok _ rfl) rfl) ?_
      refine ASeq.op rfl rfl (AOp.callP 0 rfl (by kernel_rfl) rfl rfl rfl (cneed_ok _ s.fr s.to 15) ?_ ?_)
      rotate_left
      · (rintro _ _ (⟨⟩ | ⟨hbad⟩); simp only [AExit.then, AExit.inBlock]; exact bodyQ_pan 0 rfl (.nok h0 hbad (by decide) hst _))
      rintro _ _ ⟨hok⟩
      refine ASeq.nil ?_
      have hr3 := hr3 hok
      have hsw : Stk w.1 fin := by rw [← hfin, hr3]; first | exact (Stk.refl _).putted i | exact Stk.put _ _ _
      refine AExit.then_normal ?_
      refine ACode.drawn [[], [0], [0, 1], [0, 1, 2], [0, 1, 2, 3], [], [], [], [7], [], [9], [6, 7, 8, 9, 10], [0, 1, 2, 3, 4, 5, 6, 7, 8, 9, 10, 11], [0, 1, 2, 3, 4, 5, 6, 7, 8, 9, 10, 11, 12]] (by kernel_rfl) mixed ?_
      refine DAny.qu 0 rfl rfl (by kernel_rfl) rfl (fun _ => .does _ _ rfl (.none rfl) (QOp.move rfl rfl)) ?_
      refine DAny.qu 1 rfl rfl (by kernel_rfl) rfl (fun _ => .does _ _ rfl (.none rfl) (QOp.nilCheckM rfl rfl)) ?_
      refine DAny.qu 2 rfl rfl (by kernel_rfl) rfl (fun _ => .does _ _ rfl (.none rfl) (QOp.fieldM rfl rfl (tok _ rfl) rfl rfl (by decide) rfl)) ?_
      refine DAny.qu 3 rfl rfl (by kernel_rfl) rfl (fun _ => .does _ _ rfl (.none rfl) (QOp.fieldM rfl rfl (tok _ rfl) rfl rfl (by decide) rfl)) ?_
      refine DAny.ld 4 rfl rfl (by kernel_rfl) rfl (.does _ _ rfl (.none rfl) (QOp.loadM 0 rfl rfl rfl (tok _ rfl) rfl)) ?_
      refine DAny.qu 5 rfl rfl (by kernel_rfl) rfl (fun _ => .does _ _ rfl (.none rfl) (QOp.move rfl rfl)) ?_
      refine DAny.qu 6 rfl rfl (by kernel_rfl) rfl (fun _ => .does _ _ rfl (.none rfl) (QOp.move rfl rfl)) ?_
      refine DAny.qu 7 rfl rfl (by kernel_rfl) rfl (fun _ => .does _ _ rfl (.none rfl) (QOp.fieldM rfl rfl (tok _ rfl) rfl rfl (by decide) rfl)) ?_
      refine DAny.ld 8 rfl rfl (by kernel_rfl) rfl (.does _ _ rfl (.none rfl) (QOp.loadM 9 rfl rfl rfl (tok _ rfl) rfl)) ?_
      refine DAny.qu 9 rfl rfl (by kernel_rfl) rfl (fun _ => .does _ _ rfl (.none rfl) (QOp.fieldM rfl rfl (tok _ rfl) rfl rfl (by decide) rfl)) ?_
      refine DAny.ld 10 rfl rfl (by kernel_rfl) rfl (.does _ _ rfl (.none rfl) (QOp.loadM 9 rfl rfl rfl (tok _ rfl) rfl)) ?_
      refine DAny.ef 11 rfl (by kernel_rfl) (.none rfl) rfl rfl (AOp.callP 9 rfl (by kernel_rfl) rfl rfl rfl (hdec) ?_ ?_)
      rotate_left
      · (rintro _ _ (⟨⟩ | ⟨hbad, R⟩); simp only [AExit.then, AExit.inBlock]; exact bodyQ_pan 0 rfl (.on hsw hbad _))
      rintro _ _ ⟨hc2, τ', τz', sl, ns, hw3⟩
      refine ⟨(by ((refine AllQ.cons (.does _ _ rfl (by exact .none rfl) (QOp.loadM 0 rfl rfl rfl (tok _ rfl) rfl)) ?_); (exact AllQ.nil))), ?_⟩
      refine DAny.qu 12 rfl rfl (by kernel_rfl) rfl (fun _ => .does _ _ rfl (.none rfl) (QOp.indexM rfl rfl rfl (tok _ rfl) rfl (tok _ rfl) (by omega) (by omega) rfl)) ?_
      refine DAny.ef0 13 rfl (by kernel_rfl) (.none rfl) rfl rfl (AOp.storeAt 4 rfl rfl rfl rfl (tok _ rfl) rfl rfl (by assumption) rfl ⟨(by ((exact AllQ.nil))), ?_⟩)
      refine DAny.done (by kernel_rfl) ?_
      refine AExit.in_normal ?_
      refine bodyQ_end 9 .nil rfl ?_
      have hf : fin = w.1.setPut i w.2 := by rw [← hfin, hr3, putted_ok hc2]
      refine RSt.of (by rw [hf]; exact hc2) (z.more τ' τz' ⟨s.name, d.block, w.2⟩) rfl (by rw [hf]; exact (hmore τ' τz' hc2).same rfl rfl) ?_
      rw [hf, ckItems_setPut, hw3]; rfl
    · rw [hb1, Bool.false_and] at hst
      refine ASeq.gno _ _ rfl rfl rfl rfl rfl ?_
      refine ASeq.gno _ _ rfl rfl rfl rfl rfl ?_
      refine ASeq.gno _ _ rfl rfl rfl rfl rfl ?_
      refine ASeq.q rfl rfl (QOp.pickF rfl rfl rfl) ?_
      refine ASeq.q rfl rfl (QOp.fieldM rfl rfl (tok _ rfl) rfl rfl (by decide) rfl) ?_
      refine ASeq.q rfl rfl (QOp.loadM 9 rfl rfl rfl (tok _ rfl) rfl) ?_
      refine ASeq.op rfl rfl (AOp.callP 0 rfl (by kernel_rfl) rfl rfl rfl (cneed_ok false s.fr s.to 15) ?_ ?_)
      rotate_left
      · (rintro _ _ (⟨⟩ | ⟨hbad⟩); simp only [AExit.then, AExit.inBlock]; exact bodyQ_pan 0 rfl (.nok h0 hbad (by decide) hst _))
      rintro _ _ ⟨hok⟩
      refine ASeq.nil ?_
      cases hok
  have hk2 : ¬ s.kind = 2 := ne_of_beq_false hb
  rw [if_neg hk2] at hr2
  refine ACode.seq (ACode.region ?_)
  refine ASeq.q rfl rfl (QOp.cmp rfl rfl rfl rfl) ?_
  refine ASeq.q rfl rfl (QOp.assign rfl rfl) ?_
  refine ASeq.nil ?_
  refine AExit.then_normal ?_
  refine ACode.cond _ rfl (fun hb => ?_) (fun hb => ?_)
  · have hk3 : s.kind = 3 := eq_of_beq hb
    rw [if_pos hk3] at hr2
    have hv := hval s.a (hwf.1 (.inr (.inl hk3))) (hwf.2.1 (by omega))
    have hkv := hkv s.a
    generalize vals d s.a = v at *
    have okv := hkv.ok ho
    have hzv := hz.kept hkv
    have hpv := hp.kept hkv
    have htv : v.1.t = d.t := hkv.t
    have hlv : v.1.put.length = d.t.stmts.length := by rw [hkv.put]; exact hlp
    have hs : v.1.code = 0 → ACalls Try.prog 67 [.mp k.mC 0, vs s.name, .v (.bool false), .agg [vi s.fr, vi s.to]] (ckItems v.1 k z) (RCs k z v.1 (v.1.slotOf s.name false s.fr)) := fun h => cslot_same v.1 k z hzv okv h s.name false s.fr s.to
    have hw1 : (v.1.slotOf s.name false s.fr).1.code = 0 → (v.1.slotOf s.name false s.fr).1 = v.1 := need_stays (by decide)
    have hw2 : (v.1.slotOf s.name false s.fr).1.code = 0 → 0 ≤ (v.1.slotOf s.name false s.fr).2 ∧ (v.1.slotOf s.name false s.fr).2 < v.1.cur.length := fun h => by
      have h2 := ((need_code v.1 _ _ 6 (by decide)).1 h).2
      have h3 := okv.find_lt s.name
      have h4 : 0 ≤ v.1.find s.name := by
        unfold CS.slotOk at h2
        rw [Bool.and_eq_true] at h2
        exact of_decide_eq_true h2.1
      show 0 ≤ v.1.find s.name ∧ v.1.find s.name < _
      omega
    have hsv : Stk v.1 fin := by
      rw [← hfin]; refine Stk.putted ?_ i; rw [← hr2]
      split
      · exact .refl _
      · split
        · exact (Stk.slotOf _ _ _ _).trans (.need _ _ _ _)
        · exact .slotOf _ _ _ _
    have hr3 : v.1.code = 0 → r = if (v.1.slotOf s.name false s.fr).1.code = 0 then ((v.1.slotOf s.name false s.fr).1.need (v.2 == v.1.cur.getD (v.1.slotOf s.name false s.fr).2.toNat 0) s.fr 8, (v.1.slotOf s.name false s.fr).2) else v.1.slotOf s.name false s.fr := fun h => by rw [← hr2, if_neg (fun h' => h' h)]
    clear hr2
    generalize v.1.slotOf s.name false s.fr = w at *
    have hsw : v.1.code = 0 → Stk w.1 fin := fun h => by
      rw [← hfin, hr3 h]; refine Stk.putted ?_ i
      split
      · exact .need _ _ _ _
      · exact .refl _
    have hlt : 0 + i.toNat * 1 < (v.1.put.map vi).length := by rw [List.length_map]; omega
    have hback : ((v.1.put.map vi).set (0 + i.toNat * 1) (vi w.2))[0 + i.toNat * 1]? = some (vi w.2) := List.getElem?_set_self hlt
    have hcur := slotCells_cur okv z.τ
    have hvf0 := okv.f0
    have hvf1 := okv.f1
    have hcl := ints_len v.1.cur
    refine ACode.seq (ACode.region ?_)
    refine ASeq.q rfl rfl (QOp.move rfl rfl) ?_
    refine ASeq.q rfl rfl (QOp.fieldM rfl rfl (tok _ rfl) rfl rfl (by decide) rfl) ?_
    refine ASeq.q rfl rfl (QOp.loadM 9 rfl rfl rfl (tok _ rfl) rfl) ?_
    refine ASeq.op rfl rfl (AOp.callP 9 rfl (by kernel_rfl) rfl rfl rfl (hv) ?_ ?_)
    rotate_left
    · (rintro _ _ (⟨⟩ | ⟨hbad, R⟩); simp only [AExit.then, AExit.inBlock]; exact bodyQ_pan 0 rfl (.on hsv hbad _))
    rintro _ _ ⟨hc⟩
    refine ASeq.q rfl rfl (QOp.assign rfl rfl) ?_
    refine ASeq.nil ?_
    have hr3 := hr3 hc
    have hsw := hsw hc
    refine ACode.seq ?_
    refine ACode.drawn [[], [0], [0, 1], [0, 1, 2], [0, 1, 2, 3], [], [], [], [7], [], [9], [6, 7, 8, 9, 10], [0, 1, 2, 3, 4, 5, 6, 7, 8, 9, 10, 11], [0, 1, 2, 3, 4, 5, 6, 7, 8, 9, 10, 11, 12]] (by kernel_rfl) mixed ?_
    refine DAny.qu 0 rfl rfl (by kernel_rfl) rfl (fun _ => .does _ _ rfl (.none rfl) (QOp.move rfl rfl)) ?_
    refine DAny.qu 1 rfl rfl (by kernel_rfl) rfl (fun _ => .does _ _ rfl (.none rfl) (QOp.nilCheckM rfl rfl)) ?_
    refine DAny.qu 2 rfl rfl (by kernel_rfl) rfl (fun _ => .does _ _ rfl (.none rfl) (QOp.fieldM rfl rfl (tok _ rfl) rfl rfl (by decide) rfl)) ?_
    refine DAny.qu 3 rfl rfl (by kernel_rfl) rfl (fun _ => .does _ _ rfl (.none rfl) (QOp.fieldM rfl rfl (tok _ rfl) rfl rfl (by decide) rfl)) ?_
    refine DAny.ld 4 rfl rfl (by kernel_rfl) rfl (.does _ _ rfl (.none rfl) (QOp.loadM 0 rfl rfl rfl (tok _ rfl) rfl)) ?_
    refine DAny.qu 5 rfl rfl (by kernel_rfl) rfl (fun _ => .does _ _ rfl (.none rfl) (QOp.move rfl rfl)) ?_
    refine DAny.qu 6 rfl rfl (by kernel_rfl) rfl (fun _ => .does _ _ rfl (.none rfl) (QOp.move rfl rfl)) ?_
    refine DAny.qu 7 rfl rfl (by kernel_rfl) rfl (fun _ => .does _ _ rfl (.none rfl) (QOp.fieldM rfl rfl (tok _ rfl) rfl rfl (by decide) rfl)) ?_
    refine DAny.ld 8 rfl rfl (by kernel_rfl) rfl (.does _ _ rfl (.none rfl) (QOp.loadM 9 rfl rfl rfl (tok _ rfl) rfl)) ?_
    refine DAny.qu 9 rfl rfl (by kernel_rfl) rfl (fun _ => .does _ _ rfl (.none rfl) (QOp.fieldM rfl rfl (tok _ rfl) rfl rfl (by decide) rfl)) ?_
    refine DAny.ld 10 rfl rfl (by kernel_rfl) rfl (.does _ _ rfl (.none rfl) (QOp.loadM 9 rfl rfl rfl (tok _ rfl) rfl)) ?_
    refine DAny.ef 11 rfl (by kernel_rfl) (.none rfl) rfl rfl (AOp.callP 9 rfl (by kernel_rfl) rfl rfl rfl (hs hc) ?_ ?_)
    rotate_left
    · (rintro _ _ (⟨⟩ | ⟨hbad, R⟩); simp only [AExit.then, AExit.inBlock]; exact bodyQ_pan 0 rfl (.on hsw hbad _))
    rintro _ _ ⟨hc2⟩
    refine ⟨(by ((refine AllQ.cons (.does _ _ rfl (by exact .none rfl) (QOp.loadM 0 rfl rfl rfl (tok _ rfl) rfl)) ?_); (exact AllQ.nil))), ?_⟩
    refine DAny.qu 12 rfl rfl (by kernel_rfl) rfl (fun _ => .does _ _ rfl (.none rfl) (QOp.indexM rfl rfl rfl (tok _ rfl) rfl (tok _ rfl) (by omega) (by omega) rfl)) ?_
    refine DAny.ef0 13 rfl (by kernel_rfl) (.none rfl) rfl rfl (AOp.storeAt 4 rfl rfl rfl rfl (tok _ rfl) rfl rfl (by assumption) rfl ⟨(by ((exact AllQ.nil))), ?_⟩)
    refine DAny.done (by kernel_rfl) ?_
    have hw3 := hw2 hc2
    have hget := cur_get (c := v.1) hw3.1 hw3.2
    rw [if_pos hc2, hw1 hc2] at hr3
    have hst : Stk (v.1.need (v.2 == v.1.cur.getD w.2.toNat 0) s.fr 8) fin := by rw [← hfin, hr3]; first | exact (Stk.refl _).putted i | exact Stk.put _ _ _
    refine AExit.then_normal ?_
    refine ACode.drawn [[], [], [1], [1, 2], [1, 2, 3], [1, 2, 3, 4], [], [6], [6, 7], [6, 7, 8], [1, 2, 3, 4, 5, 6, 7, 8, 9], [1, 2, 3, 4, 5, 6, 7, 8, 9, 10], [], [12], [12, 13], [12, 13, 14], [12, 13, 14, 15], [], [12, 13, 14, 15, 16, 17], [12, 13, 14, 15, 16, 17, 18], [1, 2, 3, 4, 5, 6, 7, 8, 9, 10, 11, 12, 13, 14, 15, 16, 17, 18, 19], [1, 2, 3, 4, 5, 6, 7, 8, 9, 10, 11, 12, 13, 14, 15, 16, 17, 18, 19, 20], [0, 1, 2, 3, 4, 5, 6, 7, 8, 9, 10, 11, 12, 13, 14, 15, 16, 17, 18, 19, 20, 21], [], [23], [0, 1, 2, 3, 4, 5, 6, 7, 8, 9, 10, 11, 12, 13, 14, 15, 16, 17, 18, 19, 20, 21, 22, 23, 24]] (by kernel_rfl) mixed ?_
    refine DAny.qu 0 rfl rfl (by kernel_rfl) rfl (fun _ => .does _ _ rfl (.none rfl) (QOp.move rfl rfl)) ?_
    refine DAny.qu 1 rfl rfl (by kernel_rfl) rfl (fun _ => .does _ _ rfl (.none rfl) (QOp.move rfl rfl)) ?_
    refine DAny.qu 2 rfl rfl (by kernel_rfl) rfl (fun _ => .does _ _ rfl (.none rfl) (QOp.nilCheckM rfl rfl)) ?_
    refine DAny.qu 3 rfl rfl (by kernel_rfl) rfl (fun _ => .does _ _ rfl (.none rfl) (QOp.fieldM rfl rfl (tok _ rfl) rfl rfl (by decide) rfl)) ?_
    refine DAny.qu 4 rfl rfl (by kernel_rfl) rfl (fun _ => .does _ _ rfl (.none rfl) (QOp.fieldM rfl rfl (tok _ rfl) rfl rfl (by decide) rfl)) ?_
    refine DAny.ld 5 rfl rfl (by kernel_rfl) rfl (.does _ _ rfl (.none rfl) (QOp.loadM 0 rfl rfl rfl (tok _ rfl) rfl)) ?_
    refine DAny.qu 6 rfl rfl (by kernel_rfl) rfl (fun _ => .does _ _ rfl (.none rfl) (QOp.move rfl rfl)) ?_
    refine DAny.qu 7 rfl rfl (by kernel_rfl) rfl (fun _ => .does _ _ rfl (.none rfl) (QOp.nilCheckM rfl rfl)) ?_
    refine DAny.qu 8 rfl rfl (by kernel_rfl) rfl (fun _ => .does _ _ rfl (.none rfl) (QOp.fieldM rfl rfl (tok _ rfl) rfl rfl (by decide) rfl)) ?_
    refine DAny.ld 9 rfl rfl (by kernel_rfl) rfl (.does _ _ rfl (.none rfl) (QOp.loadM 0 rfl rfl rfl (tok _ rfl) rfl)) ?_
    refine DAny.qu 10 rfl rfl (by kernel_rfl) rfl (fun _ => .does _ _ rfl (.none rfl) (QOp.indexM rfl rfl rfl (tok _ rfl) rfl (tok _ rfl) (by omega) (by omega) rfl)) ?_
    refine DAny.ld 11 rfl rfl (by kernel_rfl) rfl (.does _ _ rfl (.none rfl) (QOp.loadAt 6 rfl rfl rfl (tok _ rfl) rfl (by assumption))) ?_
    refine DAny.qu 12 rfl rfl (by kernel_rfl) rfl (fun _ => .does _ _ rfl (.none rfl) (QOp.move rfl rfl)) ?_
    refine DAny.qu 13 rfl rfl (by kernel_rfl) rfl (fun _ => .does _ _ rfl (.none rfl) (QOp.nilCheckM rfl rfl)) ?_
    refine DAny.qu 14 rfl rfl (by kernel_rfl) rfl (fun _ => .does _ _ rfl (.none rfl) (QOp.fieldM rfl rfl (tok _ rfl) rfl rfl (by decide) rfl)) ?_
    refine DAny.qu 15 rfl rfl (by kernel_rfl) rfl (fun _ => .does _ _ rfl (.none rfl) (QOp.fieldM rfl rfl (tok _ rfl) rfl rfl (by decide) rfl)) ?_
    refine DAny.ld 16 rfl rfl (by kernel_rfl) rfl (.does _ _ rfl (.none rfl) (QOp.loadM 0 rfl rfl rfl (tok _ rfl) rfl)) ?_
    refine DAny.qu 17 rfl rfl (by kernel_rfl) rfl (fun _ => .does _ _ rfl (.none rfl) (QOp.move rfl rfl)) ?_
    refine DAny.qu 18 rfl rfl (by kernel_rfl) rfl (fun _ => .does _ _ rfl (.none rfl) (QOp.indexM rfl rfl rfl (tok _ rfl) rfl (tok _ rfl) (by omega) (by omega) rfl)) ?_
    refine DAny.ld 19 rfl rfl (by kernel_rfl) rfl (.does _ _ rfl (.none rfl) (QOp.loadAt 4 rfl rfl rfl (tok _ rfl) rfl (by assumption))) ?_
    refine DAny.qu 20 rfl rfl (by kernel_rfl) rfl (fun _ => .does _ _ rfl (.none rfl) (QOp.indexI rfl rfl rfl (tok _ rfl) rfl (tok _ rfl) (by omega) (by assumption))) ?_
    refine DAny.qu 21 rfl rfl (by kernel_rfl) rfl (fun _ => .does _ _ rfl (.none rfl) (QOp.loadI rfl rfl (tok _ rfl) rfl)) ?_
    refine DAny.qu 22 rfl rfl (by kernel_rfl) rfl (fun _ => .does _ _ rfl (.none rfl) (QOp.cmp rfl rfl rfl rfl)) ?_
    refine DAny.qu 23 rfl rfl (by kernel_rfl) rfl (fun _ => .does _ _ rfl (.none rfl) (QOp.fieldM rfl rfl (tok _ rfl) rfl rfl (by decide) rfl)) ?_
    refine DAny.ld 24 rfl rfl (by kernel_rfl) rfl (.does _ _ rfl (.none rfl) (QOp.loadM 9 rfl rfl rfl (tok _ rfl) rfl)) ?_
    refine DAny.ef 25 rfl (by kernel_rfl) (.none rfl) rfl rfl (AOp.callP 0 rfl (by kernel_rfl) rfl rfl rfl (cneed_ok _ s.fr s.to 8) ?_ ?_)
    rotate_left
    · (rintro _ _ (⟨⟩ | ⟨hbad⟩); simp only [AExit.then, AExit.inBlock]; exact bodyQ_pan 0 rfl (.nok hc hbad (by decide) hst _))
    rintro _ _ ⟨hok⟩
    refine ⟨(by ((exact AllQ.nil))), ?_⟩
    refine DAny.done (by kernel_rfl) ?_
    refine AExit.in_normal ?_
    refine bodyQ_end 9 .nil rfl ?_
    have hf : fin = v.1.setPut i w.2 := by rw [← hfin, hr3, hok, need_yes, putted_at hc]
    refine RSt.of (by rw [hf]; exact hc) z rfl (by rw [hf]; exact hzv.same rfl rfl) ?_
    rw [hf, ckItems_setPut]; rfl
  have hk3 : ¬ s.kind = 3 := ne_of_beq_false hb
  rw [if_neg hk3] at hr2
  refine ACode.seq (ACode.region ?_)
  refine ASeq.q rfl rfl (QOp.cmp rfl rfl rfl rfl) ?_
  refine ASeq.q rfl rfl (QOp.assign rfl rfl) ?_
  refine ASeq.nil ?_
  refine AExit.then_normal ?_
  refine ACode.cond _ rfl (fun hb => ?_) (fun hb => ?_)
  · have hk4 : s.kind = 4 := eq_of_beq hb
    rw [if_pos hk4] at hr2
    have hbb := hwf.2.2.1 hk4
    have hv := hval s.a (hwf.1 (.inr (.inr (.inl hk4)))) (hwf.2.1 (by omega))
    have hkv := hkv s.a
    generalize vals d s.a = v at *
    have okv := hkv.ok ho
    have hzv := hz.kept hkv
    have hpv := hp.kept hkv
    have htv : v.1.t = d.t := hkv.t
    have hlv : v.1.put.length = d.t.stmts.length := by rw [hkv.put]; exact hlp
    have hv2 := fun hc => cvals_ok v.1 k z s.b hzv okv hc (by rw [htv]; exact hw) hbb.1 (by rw [htv]; exact hbb.2)
    have hkw := Kept.vals v.1 s.b
    have hvw : Stk v.1 (vals v.1 s.b).1 := .vals _ _
    generalize vals v.1 s.b = w at *
    have okw := hkw.ok okv
    have hzw := hzv.kept hkw
    have hlw : w.1.put.length = d.t.stmts.length := by rw [hkw.put]; exact hlv
    have hs : w.1.code = 0 → ACalls Try.prog 67 [.mp k.mC 0, vs s.name, .v (.bool true), .agg [vi s.fr, vi s.to]] (ckItems w.1 k z) (RCs k z w.1 (w.1.slotOf s.name true s.fr)) := fun h => cslot_same w.1 k z hzw okw h s.name true s.fr s.to
    have hw1 : (w.1.slotOf s.name true s.fr).1.code = 0 → (w.1.slotOf s.name true s.fr).1 = w.1 := need_stays (by decide)
    have hwu : Stk w.1 (w.1.slotOf s.name true s.fr).1 := .slotOf _ _ _ _
    generalize w.1.slotOf s.name true s.fr = u at *
    have hsw : Stk w.1 fin := by
      rw [← hfin]; refine Stk.putted ?_ i; rw [← hr2]
      split
      · exact .refl _
      · exact hwu.trans (.need _ _ _ _)
    have hsv := hvw.trans hsw
    have hr3 : w.1.code = 0 → r = (u.1.need ((v.2 == 1) && (w.2 == 1)) s.fr 8, u.2) := fun h => by rw [← hr2, if_neg (fun h' => h' h)]
    have hsu : w.1.code = 0 → Stk u.1 fin := fun h => by
      rw [← hfin, hr3 h]; refine Stk.putted ?_ i
      exact .need _ _ _ _
    clear hr2
    have hlt : 0 + i.toNat * 1 < (w.1.put.map vi).length := by rw [List.length_map]; omega
    refine ACode.seq ?_
    refine ACode.drawn [[], [], [1], [0, 1, 2], [], [], [5], [0, 1, 2, 3, 4, 5, 6], [0, 1, 2, 3, 4, 5, 6, 7], [0, 1, 2, 3, 4, 5, 6, 7, 8]] (by kernel_rfl) mixed ?_
    refine DAny.qu 0 rfl rfl (by kernel_rfl) rfl (fun _ => .does _ _ rfl (.none rfl) (QOp.move rfl rfl)) ?_
    refine DAny.qu 1 rfl rfl (by kernel_rfl) rfl (fun _ => .does _ _ rfl (.none rfl) (QOp.fieldM rfl rfl (tok _ rfl) rfl rfl (by decide) rfl)) ?_
    refine DAny.ld 2 rfl rfl (by kernel_rfl) rfl (.does _ _ rfl (.none rfl) (QOp.loadM 9 rfl rfl rfl (tok _ rfl) rfl)) ?_
    refine DAny.qu 4 rfl rfl (by kernel_rfl) rfl (fun _ => .does _ _ rfl (.none rfl) (QOp.move rfl rfl)) ?_
    refine DAny.qu 5 rfl rfl (by kernel_rfl) rfl (fun _ => .does _ _ rfl (.none rfl) (QOp.fieldM rfl rfl (tok _ rfl) rfl rfl (by decide) rfl)) ?_
    refine DAny.ld 6 rfl rfl (by kernel_rfl) rfl (.does _ _ rfl (.none rfl) (QOp.loadM 9 rfl rfl rfl (tok _ rfl) rfl)) ?_
    refine DAny.ef 3 rfl (by kernel_rfl) (.none rfl) rfl rfl (AOp.callP 9 rfl (by kernel_rfl) rfl rfl rfl (hv) ?_ ?_)
    rotate_left
    · (rintro _ _ (⟨⟩ | ⟨hbad, R⟩); simp only [AExit.then, AExit.inBlock]; exact bodyQ_pan 0 rfl (.on hsv hbad _))
    rintro _ _ ⟨hc⟩
    refine ⟨(by ((refine AllQ.cons (.does _ _ rfl (by exact .none rfl) (QOp.loadM 9 rfl rfl rfl (tok _ rfl) rfl)) ?_); (exact AllQ.nil))), ?_⟩
    refine DAny.ef 7 rfl (by kernel_rfl) (.none rfl) rfl rfl (AOp.callP 9 rfl (by kernel_rfl) rfl rfl rfl (hv2 hc) ?_ ?_)
    rotate_left
    · (rintro _ _ (⟨⟩ | ⟨hbad, R⟩); simp only [AExit.then, AExit.inBlock]; exact bodyQ_pan 0 rfl (.on hsw hbad _))
    rintro _ _ ⟨hc2⟩
    refine ⟨(by ((exact AllQ.nil))), ?_⟩
    refine DAny.ef 8 rfl (by kernel_rfl) (.none rfl) rfl rfl (.q (QOp.assign rfl rfl) ⟨(by ((exact AllQ.nil))), ?_⟩)
    refine DAny.ef 9 rfl (by kernel_rfl) (.none rfl) rfl rfl (.q (QOp.assign rfl rfl) ⟨(by ((exact AllQ.nil))), ?_⟩)
    refine DAny.done (by kernel_rfl) ?_
    have hr3 := hr3 hc2
    refine ACode.seq ?_
    refine ACode.drawn [[], [0], [0, 1], [0, 1, 2], [0, 1, 2, 3], [], [], [], [7], [], [9], [6, 7, 8, 9, 10], [0, 1, 2, 3, 4, 5, 6, 7, 8, 9, 10, 11], [0, 1, 2, 3, 4, 5, 6, 7, 8, 9, 10, 11, 12]] (by kernel_rfl) mixed ?_
    refine DAny.qu 0 rfl rfl (by kernel_rfl) rfl (fun _ => .does _ _ rfl (.none rfl) (QOp.move rfl rfl)) ?_
    refine DAny.qu 1 rfl rfl (by kernel_rfl) rfl (fun _ => .does _ _ rfl (.none rfl) (QOp.nilCheckM rfl rfl)) ?_
    refine DAny.qu 2 rfl rfl (by kernel_rfl) rfl (fun _ => .does _ _ rfl (.none rfl) (QOp.fieldM rfl rfl (tok _ rfl) rfl rfl (by decide) rfl)) ?_
    refine DAny.qu 3 rfl rfl (by kernel_rfl) rfl (fun _ => .does _ _ rfl (.none rfl) (QOp.fieldM rfl rfl (tok _ rfl) rfl rfl (by decide) rfl)) ?_
    refine DAny.ld 4 rfl rfl (by kernel_rfl) rfl (.does _ _ rfl (.none rfl) (QOp.loadM 0 rfl rfl rfl (tok _ rfl) rfl)) ?_
    refine DAny.qu 5 rfl rfl (by kernel_rfl) rfl (fun _ => .does _ _ rfl (.none rfl) (QOp.move rfl rfl)) ?_
    refine DAny.qu 6 rfl rfl (by kernel_rfl) rfl (fun _ => .does _ _ rfl (.none rfl) (QOp.move rfl rfl)) ?_
    refine DAny.qu 7 rfl rfl (by kernel_rfl) rfl (fun _ => .does _ _ rfl (.none rfl) (QOp.fieldM rfl rfl (tok _ rfl) rfl rfl (by decide) rfl)) ?_
    refine DAny.ld 8 rfl rfl (by kernel_rfl) rfl (.does _ _ rfl (.none rfl) (QOp.loadM 9 rfl rfl rfl (tok _ rfl) rfl)) ?_
    refine DAny.qu 9 rfl rfl (by kernel_rfl) rfl (fun _ => .does _ _ rfl (.none rfl) (QOp.fieldM rfl rfl (tok _ rfl) rfl rfl (by decide) rfl)) ?_
    refine DAny.ld 10 rfl rfl (by kernel_rfl) rfl (.does _ _ rfl (.none rfl) (QOp.loadM 9 rfl rfl rfl (tok _ rfl) rfl)) ?_
    refine DAny.ef 11 rfl (by kernel_rfl) (.none rfl) rfl rfl (AOp.callP 9 rfl (by kernel_rfl) rfl rfl rfl (hs hc2) ?_ ?_)
    rotate_left
    · (rintro _ _ (⟨⟩ | ⟨hbad, R⟩); simp only [AExit.then, AExit.inBlock]; exact bodyQ_pan 0 rfl (.on (hsu hc2) hbad _))
    rintro _ _ ⟨hc3⟩
    refine ⟨(by ((refine AllQ.cons (.does _ _ rfl (by exact .none rfl) (QOp.loadM 0 rfl rfl rfl (tok _ rfl) rfl)) ?_); (exact AllQ.nil))), ?_⟩
    refine DAny.qu 12 rfl rfl (by kernel_rfl) rfl (fun _ => .does _ _ rfl (.none rfl) (QOp.indexM rfl rfl rfl (tok _ rfl) rfl (tok _ rfl) (by omega) (by omega) rfl)) ?_
    refine DAny.ef0 13 rfl (by kernel_rfl) (.none rfl) rfl rfl (AOp.storeAt 4 rfl rfl rfl rfl (tok _ rfl) rfl rfl (by assumption) rfl ⟨(by ((exact AllQ.nil))), ?_⟩)
    refine DAny.done (by kernel_rfl) ?_
    rw [hw1 hc3] at hr3
    have hst : Stk (w.1.need ((v.2 == 1) && (w.2 == 1)) s.fr 8) fin := by rw [← hfin, hr3]; first | exact (Stk.refl _).putted i | exact Stk.put _ _ _
    refine ACode.region ?_
    refine ASeq.q rfl rfl (QOp.move rfl rfl) ?_
    refine ASeq.q rfl rfl (QOp.cmp rfl rfl rfl rfl) ?_
    refine ASeq.q rfl rfl (QOp.move rfl rfl) ?_
    refine ASeq.split 140 (v.2 == 1) rfl (fun hb1 => ?_) (fun hb1 => ?_)
    · rw [hb1, Bool.true_and] at hst hr3
      refine ASeq.gq _ _ rfl rfl rfl rfl (QOp.move rfl rfl) ?_
      refine ASeq.gq _ _ rfl rfl rfl rfl (QOp.cmp rfl rfl rfl rfl) ?_
      refine ASeq.q rfl rfl (QOp.pickT rfl rfl rfl) ?_
      refine ASeq.q rfl rfl (QOp.fieldM rfl rfl (tok _ rfl) rfl rfl (by decide) rfl) ?_
      refine ASeq.q rfl rfl (QOp.loadM 9 rfl rfl rfl (tok _ rfl) rfl) ?_
      refine ASeq.op rfl rfl (AOp.callP 0 rfl (by kernel_rfl) rfl rfl rfl (cneed_ok _ s.fr s.to 8) ?_ ?_)
      rotate_left
      · (rintro _ _ (⟨⟩ | ⟨hbad⟩); simp only [AExit.then, AExit.inBlock]; exact bodyQ_pan 0 rfl (.nok hc2 hbad (by decide) hst _))
      rintro _ _ ⟨hok⟩
      refine ASeq.nil ?_
      refine AExit.in_normal ?_
      refine bodyQ_end 9 .nil rfl ?_
      have hf : fin = w.1.setPut i u.2 := by rw [← hfin, hr3, hok, need_yes, putted_at hc2]
      refine RSt.of (by rw [hf]; exact hc2) z rfl (by rw [hf]; exact hzw.same rfl rfl) ?_
      rw [hf, ckItems_setPut]; rfl
    · rw [hb1, Bool.false_and] at hst
      refine ASeq.gno _ _ rfl rfl rfl rfl rfl ?_
      refine ASeq.gno _ _ rfl rfl rfl rfl rfl ?_
      refine ASeq.q rfl rfl (QOp.pickF rfl rfl rfl) ?_
      refine ASeq.q rfl rfl (QOp.fieldM rfl rfl (tok _ rfl) rfl rfl (by decide) rfl) ?_
      refine ASeq.q rfl rfl (QOp.loadM 9 rfl rfl rfl (tok _ rfl) rfl) ?_
      refine ASeq.op rfl rfl (AOp.callP 0 rfl (by kernel_rfl) rfl rfl rfl (cneed_ok false s.fr s.to 8) ?_ ?_)
      rotate_left
      · (rintro _ _ (⟨⟩ | ⟨hbad⟩); simp only [AExit.then, AExit.inBlock]; exact bodyQ_pan 0 rfl (.nok hc2 hbad (by decide) hst _))
      rintro _ _ ⟨hok⟩
      refine ASeq.nil ?_
      cases hok
  have hk4 : ¬ s.kind = 4 := ne_of_beq_false hb
  rw [if_neg hk4] at hr2
  refine ACode.seq (ACode.region ?_)
  refine ASeq.q rfl rfl (QOp.cmp rfl rfl rfl rfl) ?_
  refine ASeq.q rfl rfl (QOp.assign rfl rfl) ?_
  refine ASeq.nil ?_
  refine AExit.then_normal ?_
  refine ACode.cond _ rfl (fun hb => ?_) (fun hb => ?_)
  · have hk5 : s.kind = 5 := eq_of_beq hb
    rw [if_pos hk5] at hr2
    have hv := hval s.a (hwf.1 (.inr (.inr (.inr (.inl hk5))))) (hwf.2.1 (by omega))
    have hkv := hkv s.a
    generalize vals d s.a = v at *
    have okv := hkv.ok ho
    have hzv := hz.kept hkv
    have hpv := hp.kept hkv
    have htv : v.1.t = d.t := hkv.t
    have hlv : v.1.put.length = d.t.stmts.length := by rw [hkv.put]; exact hlp
    have hvl : v.1.loops = d.loops := hkv.loops
    have hst : Stk (v.1.need (v.2 == 2) s.fr 8) fin := by
      rw [← hfin]; refine Stk.putted ?_ i; rw [← hr2]
      exact (Stk.blockOf (Stk.stm6 n) _ _).trans (.blockOf (Stk.stm6 n) _ _)
    have hsv : Stk v.1 fin := (Stk.need _ _ _ _).trans hst
    refine ACode.seq ?_
    refine ACode.drawn [[], [], [1], [0, 1, 2], [0, 1, 2, 3], [], [5], [0, 1, 2, 3, 4, 5, 6]] (by kernel_rfl) mixed ?_
    refine DAny.qu 0 rfl rfl (by kernel_rfl) rfl (fun _ => .does _ _ rfl (.none rfl) (QOp.move rfl rfl)) ?_
    refine DAny.qu 1 rfl rfl (by kernel_rfl) rfl (fun _ => .does _ _ rfl (.none rfl) (QOp.fieldM rfl rfl (tok _ rfl) rfl rfl (by decide) rfl)) ?_
    refine DAny.ld 2 rfl rfl (by kernel_rfl) rfl (.does _ _ rfl (.none rfl) (QOp.loadM 9 rfl rfl rfl (tok _ rfl) rfl)) ?_
    refine DAny.qu 5 rfl rfl (by kernel_rfl) rfl (fun _ => .does _ _ rfl (.none rfl) (QOp.fieldM rfl rfl (tok _ rfl) rfl rfl (by decide) rfl)) ?_
    refine DAny.ld 6 rfl rfl (by kernel_rfl) rfl (.does _ _ rfl (.none rfl) (QOp.loadM 9 rfl rfl rfl (tok _ rfl) rfl)) ?_
    refine DAny.ef 3 rfl (by kernel_rfl) (.none rfl) rfl rfl (AOp.callP 9 rfl (by kernel_rfl) rfl rfl rfl (hv) ?_ ?_)
    rotate_left
    · (rintro _ _ (⟨⟩ | ⟨hbad, R⟩); simp only [AExit.then, AExit.inBlock]; exact bodyQ_pan 0 rfl (.on hsv hbad _))
    rintro _ _ ⟨hc⟩
    refine ⟨(by ((refine AllQ.cons (.does _ _ rfl (by exact .none rfl) (QOp.loadM 9 rfl rfl rfl (tok _ rfl) rfl)) ?_); (exact AllQ.nil))), ?_⟩
    refine DAny.qu 4 rfl rfl (by kernel_rfl) rfl (fun _ => .does _ _ rfl (.none rfl) (QOp.cmp rfl rfl rfl rfl)) ?_
    refine DAny.ef 7 rfl (by kernel_rfl) (.none rfl) rfl rfl (AOp.callP 0 rfl (by kernel_rfl) rfl rfl rfl (cneed_ok _ s.fr s.to 8) ?_ ?_)
    rotate_left
    · (rintro _ _ (⟨⟩ | ⟨hbad⟩); simp only [AExit.then, AExit.inBlock]; exact bodyQ_pan 0 rfl (.nok hc hbad (by decide) hst _))
    rintro _ _ ⟨hok⟩
    refine ⟨(by ((exact AllQ.nil))), ?_⟩
    refine DAny.done (by kernel_rfl) ?_
    rw [hok, need_yes] at hr2
    have hblk := cblock_ok hS v.1 k z s.thn hzv okv hc hpv (by rw [htv]; exact hw) (by rw [htv]; exact hw2) (fun j hj => by have := hwf.2.2.2.1 j hj; rw [htv]; omega) hwf.2.2.2.2.2.1 (by omega) (by omega) (by omega)
    have hky := KeptS.blockOf hK v.1 s.thn okv
    have hpy := PutOk.blockOf hP v.1 s.thn hpv
    generalize blockOf (stm6 n) v.1 s.thn = y at *
    have oky := hky.ok okv
    have hty : y.t = d.t := hky.t.trans htv
    have hyl : y.loops = d.loops := hky.loops.trans hvl
    have hsy : Stk y fin := by
      rw [← hfin]; refine Stk.putted ?_ i; rw [← hr2]
      exact .blockOf (Stk.stm6 n) _ _
    refine ACode.seq (ACode.region ?_)
    refine ASeq.q rfl rfl (QOp.move rfl rfl) ?_
    refine ASeq.q rfl rfl (QOp.fieldM rfl rfl (tok _ rfl) rfl rfl (by decide) rfl) ?_
    refine ASeq.q rfl rfl (QOp.loadM 9 rfl rfl rfl (tok _ rfl) rfl) ?_
    refine ASeq.op rfl rfl (AOp.callP 9 rfl (by kernel_rfl) rfl rfl rfl (hblk) ?_ ?_)
    rotate_left
    · (rintro _ _ (⟨⟩ | ⟨hbad, R⟩); simp only [AExit.then, AExit.inBlock]; exact bodyQ_pan 0 rfl (.on hsy hbad _))
    rintro _ _ ⟨hc2, z2, hz2, hcz2⟩
    refine ASeq.nil ?_
    have hzl2 : z2.zs.length = z.zs.length := by rw [hz2]
    have hblk2 := cblock_ok hS y k z2 s.els hcz2 oky hc2 hpy (by rw [hty]; exact hw) (by rw [hty]; exact hw2) (fun j hj => by have := hwf.2.2.2.2.1 j hj; rw [hty]; omega) hwf.2.2.2.2.2.2 (by omega) (by omega) (by omega)
    have hku := KeptS.blockOf hK y s.els oky
    have hpu := PutOk.blockOf hP y s.els hpy
    generalize blockOf (stm6 n) y s.els = u at *
    have htu : u.t = d.t := hku.t.trans hty
    have hsu : Stk u fin := by
      rw [← hfin]; refine Stk.putted ?_ i; rw [← hr2]
      exact .refl _
    refine ACode.region ?_
    refine ASeq.q rfl rfl (QOp.move rfl rfl) ?_
    refine ASeq.q rfl rfl (QOp.fieldM rfl rfl (tok _ rfl) rfl rfl (by decide) rfl) ?_
    refine ASeq.q rfl rfl (QOp.loadM 9 rfl rfl rfl (tok _ rfl) rfl) ?_
    refine ASeq.op rfl rfl (AOp.callP 9 rfl (by kernel_rfl) rfl rfl rfl (hblk2) ?_ ?_)
    rotate_left
    · (rintro _ _ (⟨⟩ | ⟨hbad, R⟩); simp only [AExit.then, AExit.inBlock]; exact bodyQ_pan 0 rfl (.on hsu hbad _))
    rintro _ _ ⟨hc3, z3, hz3, hcz3⟩
    refine ASeq.nil ?_
    refine AExit.in_normal ?_
    refine bodyQ_end 9 .nil rfl ?_
    have hf : fin = u := by rw [← hfin, ← hr2, putted_at hc3]; exact setPut_none hpu (by rw [htu]; omega) (by rw [stm_t htu, hsd]; omega)
    exact RSt.of (by rw [hf]; exact hc3) z3 (hz3.trans hz2) (by rw [hf]; exact hcz3) (by rw [hf]; rfl)
  have hk5 : ¬ s.kind = 5 := ne_of_beq_false hb
  rw [if_neg hk5] at hr2
  refine ACode.seq (ACode.region ?_)
  refine ASeq.q rfl rfl (QOp.cmp rfl rfl rfl rfl) ?_
  refine ASeq.q rfl rfl (QOp.assign rfl rfl) ?_
  refine ASeq.nil ?_
  refine AExit.then_normal ?_
  refine ACode.cond _ rfl (fun hb => ?_) (fun hb => ?_)
  · have hk6 : s.kind = 6 := eq_of_beq hb
    rw [if_pos hk6] at hr2
    have hv := hval s.a (hwf.1 (.inr (.inr (.inr (.inr (.inl hk6)))))) (hwf.2.1 (by omega))
    have hkv := hkv s.a
    generalize vals d s.a = v at *
    have okv := hkv.ok ho
    have hzv := hz.kept hkv
    have hpv := hp.kept hkv
    have htv : v.1.t = d.t := hkv.t
    have hlv : v.1.put.length = d.t.stmts.length := by rw [hkv.put]; exact hlp
    have hvl : v.1.loops = d.loops := hkv.loops
    have okx : ({ v.1 with loops := v.1.loops + 1 } : CS).ok := { okv with }
    have hpx : PutOk ({ v.1 with loops := v.1.loops + 1 } : CS) := hpv.same rfl rfl
    have hzx : Ckz ({ v.1 with loops := v.1.loops + 1 } : CS) z := hzv.same rfl rfl
    rw [← hvl] at hr2
    have hst : Stk (({ v.1 with loops := v.1.loops + 1 } : CS).need (v.2 == 2) s.fr 8) fin := by
      rw [← hfin]; refine Stk.putted ?_ i; rw [← hr2]
      exact fun h => Stk.blockOf (Stk.stm6 n) _ _ h
    have hsv : Stk v.1 fin := (fun h => ((Stk.need ({ v.1 with loops := v.1.loops + 1 } : CS) (v.2 == 2) s.fr 8).trans hst) h)
    refine ACode.seq ?_
    refine ACode.drawn [[], [], [1], [0, 1, 2], [0, 1, 2, 3], [], [5], [0, 1, 2, 3, 4, 5, 6]] (by kernel_rfl) mixed ?_
    refine DAny.qu 0 rfl rfl (by kernel_rfl) rfl (fun _ => .does _ _ rfl (.none rfl) (QOp.move rfl rfl)) ?_
    refine DAny.qu 1 rfl rfl (by kernel_rfl) rfl (fun _ => .does _ _ rfl (.none rfl) (QOp.fieldM rfl rfl (tok _ rfl) rfl rfl (by decide) rfl)) ?_
    refine DAny.ld 2 rfl rfl (by kernel_rfl) rfl (.does _ _ rfl (.none rfl) (QOp.loadM 9 rfl rfl rfl (tok _ rfl) rfl)) ?_
    refine DAny.qu 5 rfl rfl (by kernel_rfl) rfl (fun _ => .does _ _ rfl (.none rfl) (QOp.fieldM rfl rfl (tok _ rfl) rfl rfl (by decide) rfl)) ?_
    refine DAny.ld 6 rfl rfl (by kernel_rfl) rfl (.does _ _ rfl (.none rfl) (QOp.loadM 9 rfl rfl rfl (tok _ rfl) rfl)) ?_
    refine DAny.ef 3 rfl (by kernel_rfl) (.none rfl) rfl rfl (AOp.callP 9 rfl (by kernel_rfl) rfl rfl rfl (hv) ?_ ?_)
    rotate_left
    · (rintro _ _ (⟨⟩ | ⟨hbad, R⟩); simp only [AExit.then, AExit.inBlock]; exact bodyQ_pan 0 rfl (.on hsv hbad _))
    rintro _ _ ⟨hc⟩
    refine ⟨(by ((refine AllQ.cons (.does _ _ rfl (by exact .none rfl) (QOp.loadM 9 rfl rfl rfl (tok _ rfl) rfl)) ?_); (exact AllQ.nil))), ?_⟩
    refine DAny.qu 4 rfl rfl (by kernel_rfl) rfl (fun _ => .does _ _ rfl (.none rfl) (QOp.cmp rfl rfl rfl rfl)) ?_
    refine DAny.ef 7 rfl (by kernel_rfl) (.none rfl) rfl rfl (AOp.callP 0 rfl (by kernel_rfl) rfl rfl rfl (cneed_ok _ s.fr s.to 8) ?_ ?_)
    rotate_left
    · (rintro _ _ (⟨⟩ | ⟨hbad⟩); simp only [AExit.then, AExit.inBlock]; exact bodyQ_pan 0 rfl (.nok (c := { v.1 with loops := v.1.loops + 1 }) hc hbad (by decide) hst _))
    rintro _ _ ⟨hok⟩
    refine ⟨(by ((exact AllQ.nil))), ?_⟩
    refine DAny.done (by kernel_rfl) ?_
    rw [hok, need_yes] at hr2
    have hlx0 : 0 ≤ ({ v.1 with loops := v.1.loops + 1 } : CS).loops := by show 0 ≤ v.1.loops + 1; omega
    have hlx1 : ({ v.1 with loops := v.1.loops + 1 } : CS).loops + (n : Int) ≤ smax := by show v.1.loops + 1 + (n : Int) ≤ smax; omega
    have hblk := cblock_ok hS { v.1 with loops := v.1.loops + 1 } k z s.thn hzx okx hc hpx (by show TreeX v.1.t; rw [htv]; exact hw) (by show StsWf v.1.t; rw [htv]; exact hw2) (fun j hj => by have := hwf.2.2.2.1 j hj; show _ ∧ _ ∧ j < (v.1.t.stmts.length : Int); rw [htv]; omega) hwf.2.2.2.2.2.1 (by omega) hlx0 hlx1
    have hky := KeptS.blockOf hK { v.1 with loops := v.1.loops + 1 } s.thn okx
    have hpy := PutOk.blockOf hP { v.1 with loops := v.1.loops + 1 } s.thn hpx
    generalize blockOf (stm6 n) { v.1 with loops := v.1.loops + 1 } s.thn = y at *
    have hty : y.t = d.t := hky.t.trans htv
    have hyl : y.loops = v.1.loops + 1 := hky.loops
    have hsy : Stk y fin := by
      rw [← hfin]; refine Stk.putted ?_ i; rw [← hr2]
      exact fun _ => ⟨rfl, rfl⟩
    refine ACode.seq (ACode.region ?_)
    refine ASeq.q rfl rfl (QOp.move rfl rfl) ?_
    refine ASeq.q rfl rfl (QOp.nilCheckM rfl rfl) ?_
    refine ASeq.q rfl rfl (QOp.fieldM rfl rfl (tok _ rfl) rfl rfl (by decide) rfl) ?_
    refine ASeq.q rfl rfl (QOp.loadM 0 rfl rfl rfl (tok _ rfl) rfl) ?_
    refine ASeq.q rfl rfl (QOp.ar64 rfl rfl rfl rfl ⟨by omega, by omega⟩) ?_
    refine ASeq.q rfl rfl (QOp.nilCheckM rfl rfl) ?_
    refine ASeq.q rfl rfl (QOp.fieldM rfl rfl (tok _ rfl) rfl rfl (by decide) rfl) ?_
    refine ASeq.op0 rfl rfl (AOp.storeP 0 rfl rfl rfl rfl (tok _ rfl) rfl rfl rfl rfl ?_)
    refine ASeq.nil ?_
    refine ACode.seq (ACode.region ?_)
    refine ASeq.q rfl rfl (QOp.move rfl rfl) ?_
    refine ASeq.q rfl rfl (QOp.fieldM rfl rfl (tok _ rfl) rfl rfl (by decide) rfl) ?_
    refine ASeq.q rfl rfl (QOp.loadM 9 rfl rfl rfl (tok _ rfl) rfl) ?_
    refine ASeq.op rfl rfl (AOp.callP 9 rfl (by kernel_rfl) rfl rfl rfl (hblk) ?_ ?_)
    rotate_left
    · (rintro _ _ (⟨⟩ | ⟨hbad, R⟩); simp only [AExit.then, AExit.inBlock]; exact bodyQ_pan 0 rfl (.on hsy hbad _))
    rintro _ _ ⟨hc2, z2, hz2, hcz2⟩
    refine ASeq.nil ?_
    refine ACode.region ?_
    refine ASeq.q rfl rfl (QOp.move rfl rfl) ?_
    refine ASeq.q rfl rfl (QOp.nilCheckM rfl rfl) ?_
    refine ASeq.q rfl rfl (QOp.fieldM rfl rfl (tok _ rfl) rfl rfl (by decide) rfl) ?_
    refine ASeq.q rfl rfl (QOp.loadM 0 rfl rfl rfl (tok _ rfl) rfl) ?_
    refine ASeq.q rfl rfl (QOp.ar64 rfl rfl rfl rfl ⟨by omega, by omega⟩) ?_
    refine ASeq.q rfl rfl (QOp.nilCheckM rfl rfl) ?_
    refine ASeq.q rfl rfl (QOp.fieldM rfl rfl (tok _ rfl) rfl rfl (by decide) rfl) ?_
    refine ASeq.op0 rfl rfl (AOp.storeP 0 rfl rfl rfl rfl (tok _ rfl) rfl rfl rfl rfl ?_)
    refine ASeq.nil ?_
    refine AExit.in_normal ?_
    refine bodyQ_end 9 .nil rfl ?_
    have hpl : PutOk ({ y with loops := v.1.loops } : CS) := hpy.same rfl rfl
    have hf : fin = { y with loops := v.1.loops } := by rw [← hfin, ← hr2, putted_at (by exact hc2)]; exact setPut_none hpl (by show i.toNat < y.t.stmts.length; rw [hty]; omega) (by rw [stm_t (c := d) (d := { y with loops := v.1.loops }) hty, hsd]; omega)
    refine RSt.of (by rw [hf]; exact hc2) z2 hz2 (by rw [hf]; exact hcz2.same rfl rfl) ?_
    rw [hf, show v.1.loops = y.loops - 1 by omega]; rfl
  have hk6 : ¬ s.kind = 6 := ne_of_beq_false hb
  rw [if_neg hk6] at hr2
  refine ACode.seq (ACode.seq (ACode.region ?_))
  refine ASeq.q rfl rfl (QOp.cmp rfl rfl rfl rfl) ?_
  refine ASeq.q rfl rfl (QOp.assign rfl rfl) ?_
  refine ASeq.nil ?_
  refine AExit.then_normal ?_
  refine ACode.cond _ rfl (fun hb => ?_) (fun hb => ?_)
  · have hk7 : s.kind = 7 := eq_of_beq hb
    rw [if_pos (.inl hk7)] at hr2
    have hst : Stk (d.need (decide (d.loops > 0)) s.fr 9) fin := by rw [← hfin, ← hr2]; first | exact (Stk.refl _).putted i | exact Stk.put _ _ _
    refine ACode.skip (AExit.then_normal ?_)
    refine ACode.cond _ rfl (fun _ => ?_) (fun hb' => by rw [hb] at hb'; cases hb')
    refine ACode.drawn [[], [0], [0, 1], [0, 1, 2], [0, 1, 2, 3], [], [5], [0, 1, 2, 3, 4, 5, 6]] (by kernel_rfl) mixed ?_
    refine DAny.qu 0 rfl rfl (by kernel_rfl) rfl (fun _ => .does _ _ rfl (.none rfl) (QOp.move rfl rfl)) ?_
    refine DAny.qu 1 rfl rfl (by kernel_rfl) rfl (fun _ => .does _ _ rfl (.none rfl) (QOp.nilCheckM rfl rfl)) ?_
    refine DAny.qu 2 rfl rfl (by kernel_rfl) rfl (fun _ => .does _ _ rfl (.none rfl) (QOp.fieldM rfl rfl (tok _ rfl) rfl rfl (by decide) rfl)) ?_
    refine DAny.ld 3 rfl rfl (by kernel_rfl) rfl (.does _ _ rfl (.none rfl) (QOp.loadM 0 rfl rfl rfl (tok _ rfl) rfl)) ?_
    refine DAny.qu 4 rfl rfl (by kernel_rfl) rfl (fun _ => .does _ _ rfl (.none rfl) (QOp.cmp rfl rfl rfl rfl)) ?_
    refine DAny.qu 5 rfl rfl (by kernel_rfl) rfl (fun _ => .does _ _ rfl (.none rfl) (QOp.fieldM rfl rfl (tok _ rfl) rfl rfl (by decide) rfl)) ?_
    refine DAny.ld 6 rfl rfl (by kernel_rfl) rfl (.does _ _ rfl (.none rfl) (QOp.loadM 9 rfl rfl rfl (tok _ rfl) rfl)) ?_
    refine DAny.ef 7 rfl (by kernel_rfl) (.none rfl) rfl rfl (AOp.callP 0 rfl (by kernel_rfl) rfl rfl rfl (cneed_ok _ s.fr s.to 9) ?_ ?_)
    rotate_left
    · (rintro _ _ (⟨⟩ | ⟨hbad⟩); simp only [AExit.then, AExit.inBlock]; exact bodyQ_pan 0 rfl (.nok h0 hbad (by decide) hst _))
    rintro _ _ ⟨hok⟩
    refine ⟨(by ((exact AllQ.nil))), ?_⟩
    refine DAny.done (by kernel_rfl) ?_
    rw [hok, need_yes] at hr2
    refine AExit.in_normal ?_
    refine bodyQ_end 9 .nil rfl ?_
    have hf : fin = d := by rw [← hfin, ← hr2, putted_at h0]; exact setPut_none hp (by omega) (by rw [hsd]; omega)
    exact RSt.of (by rw [hf]; exact h0) z rfl (by rw [hf]; exact hz) (by rw [hf]; rfl)
  have hk7 : ¬ s.kind = 7 := ne_of_beq_false hb
  refine ACode.region ?_
  refine ASeq.q rfl rfl (QOp.cmp rfl rfl rfl rfl) ?_
  refine ASeq.q rfl rfl (QOp.assign rfl rfl) ?_
  refine ASeq.nil ?_
  refine AExit.then_normal ?_
  refine ACode.cond _ rfl (fun hb => ?_) (fun hb => ?_)
  · have hk8 : s.kind = 8 := eq_of_beq hb
    rw [if_pos (.inr hk8)] at hr2
    have hst : Stk (d.need (decide (d.loops > 0)) s.fr 9) fin := by rw [← hfin, ← hr2]; first | exact (Stk.refl _).putted i | exact Stk.put _ _ _
    refine ACode.drawn [[], [0], [0, 1], [0, 1, 2], [0, 1, 2, 3], [], [5], [0, 1, 2, 3, 4, 5, 6]] (by kernel_rfl) mixed ?_
    refine DAny.qu 0 rfl rfl (by kernel_rfl) rfl (fun _ => .does _ _ rfl (.none rfl) (QOp.move rfl rfl)) ?_
    refine DAny.qu 1 rfl rfl (by kernel_rfl) rfl (fun _ => .does _ _ rfl (.none rfl) (QOp.nilCheckM rfl rfl)) ?_
    refine DAny.qu 2 rfl rfl (by kernel_rfl) rfl (fun _ => .does _ _ rfl (.none rfl) (QOp.fieldM rfl rfl (tok _ rfl) rfl rfl (by decide) rfl)) ?_
    refine DAny.ld 3 rfl rfl (by kernel_rfl) rfl (.does _ _ rfl (.none rfl) (QOp.loadM 0 rfl rfl rfl (tok _ rfl) rfl)) ?_
    refine DAny.qu 4 rfl rfl (by kernel_rfl) rfl (fun _ => .does _ _ rfl (.none rfl) (QOp.cmp rfl rfl rfl rfl)) ?_
    refine DAny.qu 5 rfl rfl (by kernel_rfl) rfl (fun _ => .does _ _ rfl (.none rfl) (QOp.fieldM rfl rfl (tok _ rfl) rfl rfl (by decide) rfl)) ?_
    refine DAny.ld 6 rfl rfl (by kernel_rfl) rfl (.does _ _ rfl (.none rfl) (QOp.loadM 9 rfl rfl rfl (tok _ rfl) rfl)) ?_
    refine DAny.ef 7 rfl (by kernel_rfl) (.none rfl) rfl rfl (AOp.callP 0 rfl (by kernel_rfl) rfl rfl rfl (cneed_ok _ s.fr s.to 9) ?_ ?_)
    rotate_left
    · (rintro _ _ (⟨⟩ | ⟨hbad⟩); simp only [AExit.then, AExit.inBlock]; exact bodyQ_pan 0 rfl (.nok h0 hbad (by decide) hst _))
    rintro _ _ ⟨hok⟩
    refine ⟨(by ((exact AllQ.nil))), ?_⟩
    refine DAny.done (by kernel_rfl) ?_
    rw [hok, need_yes] at hr2
    refine AExit.in_normal ?_
    refine bodyQ_end 9 .nil rfl ?_
    have hf : fin = d := by rw [← hfin, ← hr2, putted_at h0]; exact setPut_none hp (by omega) (by rw [hsd]; omega)
    exact RSt.of (by rw [hf]; exact h0) z rfl (by rw [hf]; exact hz) (by rw [hf]; rfl)
  have hk8 : ¬ s.kind = 8 := ne_of_beq_false hb
  rw [if_neg (fun h => h.elim hk7 hk8)] at hr2
  have hlS := ho.lS
  have hrowf : (d.t.funcs.map Fu.cells)[d.f.toNat]? = some (d.fu d.f).cells := by
    have : d.f.toNat < d.t.funcs.length := by omega
    rw [fu_get this]
    simp only [CS.fu, List.getD_eq_getElem?_getD, List.getElem?_eq_getElem this, Option.getD_some]
  have hfl : (d.t.funcs.map Fu.cells).length = d.t.funcs.length := List.length_map ..
  refine ACode.seq (ACode.region ?_)
  refine ASeq.q rfl rfl (QOp.cmp rfl rfl rfl rfl) ?_
  refine ASeq.q rfl rfl (QOp.assign rfl rfl) ?_
  refine ASeq.nil ?_
  refine AExit.then_normal ?_
  refine ACode.cond _ rfl (fun hb => ?_) (fun hb => ?_)
  · have hk9 : s.kind = 9 := eq_of_beq hb
    rw [if_pos hk9] at hr2
    refine ACode.seq (ACode.region ?_)
    refine ASeq.q rfl rfl (QOp.assign rfl rfl) ?_
    refine ASeq.nil ?_
    refine ACode.seq (ACode.seq (ACode.region ?_))
    refine ASeq.q rfl rfl (QOp.fieldM rfl rfl (tok _ rfl) rfl rfl (by decide) rfl) ?_
    refine ASeq.q rfl rfl (QOp.loadM 9 rfl rfl rfl (tok _ rfl) rfl) ?_
    refine ASeq.q rfl rfl (QOp.cmp rfl rfl rfl rfl) ?_
    refine ASeq.nil ?_
    refine AExit.then_normal ?_
    refine ACode.cond _ rfl (fun hb => ?_) (fun hb => ?_)
    · have ha : s.a ≥ 0 := of_decide_eq_true hb
      rw [if_pos ha] at hr2
      have hv := hval s.a ha (hwf.2.1 (by omega))
      have hkv := hkv s.a
      generalize vals d s.a = v at *
      have okv := hkv.ok ho
      have hzv := hz.kept hkv
      have hpv := hp.kept hkv
      have htv : v.1.t = d.t := hkv.t
      have hfv : v.1.f = d.f := hkv.f
      have hrowv : (v.1.t.funcs.map Fu.cells)[v.1.f.toNat]? = some (d.fu d.f).cells := by rw [htv, hfv]; exact hrowf
      have hvf0 := okv.f0
      have hvf1 := okv.f1
      have hvS := okv.lS
      have hvl : (v.1.t.funcs.map Fu.cells).length = v.1.t.funcs.length := List.length_map ..
      generalize d.fu d.f = g at *
      have hst : Stk (v.1.need (v.2 == g.type) s.fr 8) fin := by rw [← hfin, ← hr2]; first | exact (Stk.refl _).putted i | exact Stk.put _ _ _
      have hsv : Stk v.1 fin := (Stk.need _ _ _ _).trans hst
      refine ACode.region ?_
      refine ASeq.q rfl rfl (QOp.move rfl rfl) ?_
      refine ASeq.q rfl rfl (QOp.fieldM rfl rfl (tok _ rfl) rfl rfl (by decide) rfl) ?_
      refine ASeq.q rfl rfl (QOp.loadM 9 rfl rfl rfl (tok _ rfl) rfl) ?_
      refine ASeq.op rfl rfl (AOp.callP 9 rfl (by kernel_rfl) rfl rfl rfl (hv) ?_ ?_)
      rotate_left
      · (rintro _ _ (⟨⟩ | ⟨hbad, R⟩); simp only [AExit.then, AExit.inBlock]; exact bodyQ_pan 0 rfl (.on hsv hbad _))
      rintro _ _ ⟨hc⟩
      refine ASeq.q rfl rfl (QOp.assign rfl rfl) ?_
      refine ASeq.nil ?_
      refine AExit.then_normal ?_
      refine ACode.drawn [[], [], [1], [1, 2], [1, 2, 3], [1, 2, 3, 4], [], [6], [6, 7], [6, 7, 8], [1, 2, 3, 4, 5, 6, 7, 8, 9], [1, 2, 3, 4, 5, 6, 7, 8, 9, 10], [1, 2, 3, 4, 5, 6, 7, 8, 9, 10, 11], [0, 1, 2, 3, 4, 5, 6, 7, 8, 9, 10, 11, 12], [], [14], [0, 1, 2, 3, 4, 5, 6, 7, 8, 9, 10, 11, 12, 13, 14, 15]] (by kernel_rfl) mixed ?_
      refine DAny.qu 0 rfl rfl (by kernel_rfl) rfl (fun _ => .does _ _ rfl (.none rfl) (QOp.move rfl rfl)) ?_
      refine DAny.qu 1 rfl rfl (by kernel_rfl) rfl (fun _ => .does _ _ rfl (.none rfl) (QOp.move rfl rfl)) ?_
      refine DAny.qu 2 rfl rfl (by kernel_rfl) rfl (fun _ => .does _ _ rfl (.none rfl) (QOp.nilCheckM rfl rfl)) ?_
      refine DAny.qu 3 rfl rfl (by kernel_rfl) rfl (fun _ => .does _ _ rfl (.none rfl) (QOp.fieldM rfl rfl (tok _ rfl) rfl rfl (by decide) rfl)) ?_
      refine DAny.qu 4 rfl rfl (by kernel_rfl) rfl (fun _ => .does _ _ rfl (.none rfl) (QOp.fieldM rfl rfl (tok _ rfl) rfl rfl (by decide) rfl)) ?_
      refine DAny.ld 5 rfl rfl (by kernel_rfl) rfl (.does _ _ rfl (.none rfl) (QOp.loadM 0 rfl rfl rfl (tok _ rfl) rfl)) ?_
      refine DAny.qu 6 rfl rfl (by kernel_rfl) rfl (fun _ => .does _ _ rfl (.none rfl) (QOp.move rfl rfl)) ?_
      refine DAny.qu 7 rfl rfl (by kernel_rfl) rfl (fun _ => .does _ _ rfl (.none rfl) (QOp.nilCheckM rfl rfl)) ?_
      refine DAny.qu 8 rfl rfl (by kernel_rfl) rfl (fun _ => .does _ _ rfl (.none rfl) (QOp.fieldM rfl rfl (tok _ rfl) rfl rfl (by decide) rfl)) ?_
      refine DAny.ld 9 rfl rfl (by kernel_rfl) rfl (.does _ _ rfl (.none rfl) (QOp.loadM 0 rfl rfl rfl (tok _ rfl) rfl)) ?_
      refine DAny.qu 10 rfl rfl (by kernel_rfl) rfl (fun _ => .does _ _ rfl (.none rfl) (QOp.indexI rfl rfl rfl (tok _ rfl) rfl (tok _ rfl) (by omega) (by assumption))) ?_
      refine DAny.qu 11 rfl rfl (by kernel_rfl) rfl (fun _ => .does _ _ rfl (.none rfl) (QOp.fieldI rfl rfl (tok _ rfl) rfl rfl (by decide) rfl)) ?_
      refine DAny.qu 12 rfl rfl (by kernel_rfl) rfl (fun _ => .does _ _ rfl (.none rfl) (QOp.loadI rfl rfl (tok _ rfl) rfl)) ?_
      refine DAny.qu 13 rfl rfl (by kernel_rfl) rfl (fun _ => .does _ _ rfl (.none rfl) (QOp.cmp rfl rfl rfl rfl)) ?_
      refine DAny.qu 14 rfl rfl (by kernel_rfl) rfl (fun _ => .does _ _ rfl (.none rfl) (QOp.fieldM rfl rfl (tok _ rfl) rfl rfl (by decide) rfl)) ?_
      refine DAny.ld 15 rfl rfl (by kernel_rfl) rfl (.does _ _ rfl (.none rfl) (QOp.loadM 9 rfl rfl rfl (tok _ rfl) rfl)) ?_
      refine DAny.ef 16 rfl (by kernel_rfl) (.none rfl) rfl rfl (AOp.callP 0 rfl (by kernel_rfl) rfl rfl rfl (cneed_ok _ s.fr s.to 8) ?_ ?_)
      rotate_left
      · (rintro _ _ (⟨⟩ | ⟨hbad⟩); simp only [AExit.then, AExit.inBlock]; exact bodyQ_pan 0 rfl (.nok hc hbad (by decide) hst _))
      rintro _ _ ⟨hok⟩
      refine ⟨(by ((exact AllQ.nil))), ?_⟩
      refine DAny.done (by kernel_rfl) ?_
      rw [hok, need_yes] at hr2
      refine AExit.in_normal ?_
      refine bodyQ_end 9 .nil rfl ?_
      have hf : fin = v.1 := by rw [← hfin, ← hr2, putted_at hc]; exact setPut_none hpv (by rw [htv]; omega) (by rw [stm_t htv]; rw [hsd]; omega)
      exact RSt.of (by rw [hf]; exact hc) z rfl (by rw [hf]; exact hzv) (by rw [hf]; rfl)
    · have ha : ¬ s.a ≥ 0 := of_decide_eq_false hb
      rw [if_neg ha] at hr2
      generalize d.fu d.f = g at *
      have hst : Stk (d.need (4 == g.type) s.fr 8) fin := by rw [← hfin, ← hr2]; first | exact (Stk.refl _).putted i | exact Stk.put _ _ _
      refine ACode.skip (AExit.then_normal ?_)
      refine ACode.drawn [[], [], [1], [1, 2], [1, 2, 3], [1, 2, 3, 4], [], [6], [6, 7], [6, 7, 8], [1, 2, 3, 4, 5, 6, 7, 8, 9], [1, 2, 3, 4, 5, 6, 7, 8, 9, 10], [1, 2, 3, 4, 5, 6, 7, 8, 9, 10, 11], [0, 1, 2, 3, 4, 5, 6, 7, 8, 9, 10, 11, 12], [], [14], [0, 1, 2, 3, 4, 5, 6, 7, 8, 9, 10, 11, 12, 13, 14, 15]] (by kernel_rfl) mixed ?_
      refine DAny.qu 0 rfl rfl (by kernel_rfl) rfl (fun _ => .does _ _ rfl (.none rfl) (QOp.move rfl rfl)) ?_
      refine DAny.qu 1 rfl rfl (by kernel_rfl) rfl (fun _ => .does _ _ rfl (.none rfl) (QOp.move rfl rfl)) ?_
      refine DAny.qu 2 rfl rfl (by kernel_rfl) rfl (fun _ => .does _ _ rfl (.none rfl) (QOp.nilCheckM rfl rfl)) ?_
      refine DAny.qu 3 rfl rfl (by kernel_rfl) rfl (fun _ => .does _ _ rfl (.none rfl) (QOp.fieldM rfl rfl (tok _ rfl) rfl rfl (by decide) rfl)) ?_
      refine DAny.qu 4 rfl rfl (by kernel_rfl) rfl (fun _ => .does _ _ rfl (.none rfl) (QOp.fieldM rfl rfl (tok _ rfl) rfl rfl (by decide) rfl)) ?_
      refine DAny.ld 5 rfl rfl (by kernel_rfl) rfl (.does _ _ rfl (.none rfl) (QOp.loadM 0 rfl rfl rfl (tok _ rfl) rfl)) ?_
      refine DAny.qu 6 rfl rfl (by kernel_rfl) rfl (fun _ => .does _ _ rfl (.none rfl) (QOp.move rfl rfl)) ?_
      refine DAny.qu 7 rfl rfl (by kernel_rfl) rfl (fun _ => .does _ _ rfl (.none rfl) (QOp.nilCheckM rfl rfl)) ?_
      refine DAny.qu 8 rfl rfl (by kernel_rfl) rfl (fun _ => .does _ _ rfl (.none rfl) (QOp.fieldM rfl rfl (tok _ rfl) rfl rfl (by decide) rfl)) ?_
      refine DAny.ld 9 rfl rfl (by kernel_rfl) rfl (.does _ _ rfl (.none rfl) (QOp.loadM 0 rfl rfl rfl (tok _ rfl) rfl)) ?_
      refine DAny.qu 10 rfl rfl (by kernel_rfl) rfl (fun _ => .does _ _ rfl (.none rfl) (QOp.indexI rfl rfl rfl (tok _ rfl) rfl (tok _ rfl) (by omega) (by assumption))) ?_
      refine DAny.qu 11 rfl rfl (by kernel_rfl) rfl (fun _ => .does _ _ rfl (.none rfl) (QOp.fieldI rfl rfl (tok _ rfl) rfl rfl (by decide) rfl)) ?_
      refine DAny.qu 12 rfl rfl (by kernel_rfl) rfl (fun _ => .does _ _ rfl (.none rfl) (QOp.loadI rfl rfl (tok _ rfl) rfl)) ?_
      refine DAny.qu 13 rfl rfl (by kernel_rfl) rfl (fun _ => .does _ _ rfl (.none rfl) (QOp.cmp rfl rfl rfl rfl)) ?_
      refine DAny.qu 14 rfl rfl (by kernel_rfl) rfl (fun _ => .does _ _ rfl (.none rfl) (QOp.fieldM rfl rfl (tok _ rfl) rfl rfl (by decide) rfl)) ?_
      refine DAny.ld 15 rfl rfl (by kernel_rfl) rfl (.does _ _ rfl (.none rfl) (QOp.loadM 9 rfl rfl rfl (tok _ rfl) rfl)) ?_
      refine DAny.ef 16 rfl (by kernel_rfl) (.none rfl) rfl rfl (AOp.callP 0 rfl (by kernel_rfl) rfl rfl rfl (cneed_ok _ s.fr s.to 8) ?_ ?_)
      rotate_left
      · (rintro _ _ (⟨⟩ | ⟨hbad⟩); simp only [AExit.then, AExit.inBlock]; exact bodyQ_pan 0 rfl (.nok h0 hbad (by decide) hst _))
      rintro _ _ ⟨hok⟩
      refine ⟨(by ((exact AllQ.nil))), ?_⟩
      refine DAny.done (by kernel_rfl) ?_
      rw [hok, need_yes] at hr2
      refine AExit.in_normal ?_
      refine bodyQ_end 9 .nil rfl ?_
      have hf : fin = d := by rw [← hfin, ← hr2, putted_at h0]; exact setPut_none hp (by omega) (by rw [hsd]; omega)
      exact RSt.of (by rw [hf]; exact h0) z rfl (by rw [hf]; exact hz) (by rw [hf]; rfl)
  have hk9 : ¬ s.kind = 9 := ne_of_beq_false hb
  rw [if_neg hk9] at hr2
  refine ACode.seq (ACode.region ?_)
  refine ASeq.q rfl rfl (QOp.cmp rfl rfl rfl rfl) ?_
  refine ASeq.q rfl rfl (QOp.assign rfl rfl) ?_
  refine ASeq.nil ?_
  refine AExit.then_normal ?_
  refine ACode.cond _ rfl (fun hb => ?_) (fun hb => ?_)
  · have hk10 : s.kind = 10 := eq_of_beq hb
    rw [if_pos hk10] at hr2
    have hv := hval s.a (hwf.1 (.inr (.inr (.inr (.inr (.inr (.inl hk10))))))) (hwf.2.1 (by omega))
    have hkv := hkv s.a
    generalize vals d s.a = v at *
    have okv := hkv.ok ho
    have hzv := hz.kept hkv
    have hpv := hp.kept hkv
    have htv : v.1.t = d.t := hkv.t
    have hlv : v.1.put.length = d.t.stmts.length := by rw [hkv.put]; exact hlp
    have hsv : Stk v.1 fin := by rw [← hfin, ← hr2]; first | exact (Stk.refl _).putted i | exact Stk.put _ _ _
    refine ACode.region ?_
    refine ASeq.q rfl rfl (QOp.move rfl rfl) ?_
    refine ASeq.q rfl rfl (QOp.fieldM rfl rfl (tok _ rfl) rfl rfl (by decide) rfl) ?_
    refine ASeq.q rfl rfl (QOp.loadM 9 rfl rfl rfl (tok _ rfl) rfl) ?_
    refine ASeq.op rfl rfl (AOp.callP 9 rfl (by kernel_rfl) rfl rfl rfl (hv) ?_ ?_)
    rotate_left
    · (rintro _ _ (⟨⟩ | ⟨hbad, R⟩); simp only [AExit.then, AExit.inBlock]; exact bodyQ_pan 0 rfl (.on hsv hbad _))
    rintro _ _ ⟨hc⟩
    refine ASeq.nil ?_
    refine AExit.in_normal ?_
    refine bodyQ_end 9 .nil rfl ?_
    have hf : fin = v.1 := by rw [← hfin, ← hr2, putted_at hc]; exact setPut_none hpv (by rw [htv]; omega) (by rw [stm_t htv]; rw [hsd]; omega)
    exact RSt.of (by rw [hf]; exact hc) z rfl (by rw [hf]; exact hzv) (by rw [hf]; rfl)
  have hk10 : ¬ s.kind = 10 := ne_of_beq_false hb
  rw [if_neg hk10] at hr2
  refine ACode.seq (ACode.region ?_)
  refine ASeq.q rfl rfl (QOp.cmp rfl rfl rfl rfl) ?_
  refine ASeq.q rfl rfl (QOp.assign rfl rfl) ?_
  refine ASeq.nil ?_
  refine AExit.then_normal ?_
  refine ACode.cond _ rfl (fun hb => ?_) (fun hb => ?_)
  · have hk11 : s.kind = 11 := eq_of_beq hb
    rw [if_pos hk11] at hr2
    have hal := hwf.2.1 (by omega)
    have hv := cexprs d.t.exprs.length d k z s.a hz ho h0 hw (hwf.1 (.inr (.inr (.inr (.inr (.inr (.inr (hk11)))))))) hal hal
    have hkv := Kept.expr6 d.t.exprs.length d s.a
    generalize expr6 d.t.exprs.length d s.a = v at *
    have hzv := hz.kept hkv
    have hpv := hp.kept hkv
    have htv : v.1.t = d.t := hkv.t
    have hsv : Stk v.1 fin := by rw [← hfin, ← hr2]; first | exact (Stk.refl _).putted i | exact Stk.put _ _ _
    refine ACode.region ?_
    refine ASeq.q rfl rfl (QOp.move rfl rfl) ?_
    refine ASeq.q rfl rfl (QOp.fieldM rfl rfl (tok _ rfl) rfl rfl (by decide) rfl) ?_
    refine ASeq.q rfl rfl (QOp.loadM 9 rfl rfl rfl (tok _ rfl) rfl) ?_
    refine ASeq.op rfl rfl (AOp.callP 9 rfl (by kernel_rfl) rfl rfl rfl (hv) ?_ ?_)
    rotate_left
    · (rintro _ _ (⟨⟩ | ⟨hbad, R⟩); simp only [AExit.then, AExit.inBlock]; exact bodyQ_pan 0 rfl (.on hsv hbad _))
    rintro _ _ ⟨hc⟩
    refine ASeq.nil ?_
    refine AExit.in_normal ?_
    refine bodyQ_end 9 .nil rfl ?_
    have hf : fin = v.1 := by rw [← hfin, ← hr2, putted_at hc]; exact setPut_none hpv (by rw [htv]; omega) (by rw [stm_t htv]; rw [hsd]; omega)
    exact RSt.of (by rw [hf]; exact hc) z rfl (by rw [hf]; exact hzv) (by rw [hf]; rfl)
  have hk11 : ¬ s.kind = 11 := ne_of_beq_false hb
  rw [if_neg hk11] at hr2
  refine ACode.skip (AExit.in_normal ?_)
  refine bodyQ_end 9 .nil rfl ?_
  have hf : fin = d := by rw [← hfin, ← hr2, putted_at h0]; exact setPut_none hp (by omega) (by rw [hsd]; omega)
  exact RSt.of (by rw [hf]; exact h0) z rfl (by rw [hf]; exact hz) (by rw [hf]; rfl)
end Go.Proofs.Ytaadamobapnfbaa
set_option linter.unusedVariables false
set_option linter.unusedSimpArgs false
set_option maxRecDepth 100000
namespace Go.Proofs.Ytaadamobapnfbaa
open Go Go.Abs
theorem dupOf_bad (g : Fu) : ∀ (l : List Fu) (c : CS), c.code ≠ 0 → dupOf g l c = c
  | [], c, _ => rfl
  | f :: l, c, h => by
    have e : c.need (!(f.name.data.toList == g.name.data.toList)) g.fr 7 = c := by unfold CS.need; rw [if_neg (fun h' => h h'.1)]
    show dupOf g l (c.need (!(f.name.data.toList == g.name.data.toList)) g.fr 7) = c
    rw [e]; exact dupOf_bad g l c h
theorem dupOf_any (g : Fu) : ∀ (l : List Fu) (c : CS), c.code = 0 → dupOf g l c = c.need (!(l.any (sameF g.name))) g.fr 7
  | [], c, _ => (need_yes c _ _).symm
  | f :: l, c, h => by
    show dupOf g l (c.need (!(sameF g.name f)) g.fr 7) = _
    rw [List.any_cons]
    cases hs : sameF g.name f with
    | true =>
      rw [Bool.not_true, Bool.true_or, Bool.not_true, need_no c h]
      exact dupOf_bad g l _ (by show (7 : Int) ≠ 0; decide)
    | false => rw [Bool.not_false, need_yes, Bool.false_or]; exact dupOf_any g l c h
theorem Stk.dupOf (g : Fu) (l : List Fu) (c : CS) : Stk c (dupOf g l c) := fun h => by rw [dupOf_bad g l c h]; exact ⟨rfl, rfl⟩
theorem Stk.dups : ∀ (l pre : List Fu) (c : CS), Stk c (dups pre l c)
  | [], pre, c => .refl c
  | g :: l, pre, c => (Stk.dupOf g pre c).trans (Stk.dups l _ _)
theorem Stk.face (c : CS) : Stk c (faceOf c) := (Stk.need _ _ _ _).trans (.need _ _ _ _)
inductive RFc (c r : CS) (I : List Abs.Item) : AOut → List Abs.Item → Prop
  | ok (h : r.code = 0) (e : r = c) : RFc c r I (.ret (.tup [])) I
  | bad (h : r.code ≠ 0) (R : List Abs.Item) : RFc c r I (.pan (wrongV r.at_ r.code)) R
theorem RFc.on {c r d : CS} {I : List Abs.Item} (h : Stk d r) (hc : d.code ≠ 0) (R : List Abs.Item) : RFc c r I (.pan (wrongV d.at_ d.code)) R := by
  obtain ⟨h1, h2⟩ := h hc
  rw [← h1, ← h2]
  exact .bad (by rw [h1]; exact hc) R
theorem RFc.nok {c r d : CS} {I : List Abs.Item} (hc : d.code = 0) {ok : Bool} (hok : ok = false) {a n : Int} (hn : n ≠ 0) (hst : Stk (d.need ok a n) r) (R : List Abs.Item) : RFc c r I (.pan (wrongV a n)) R := by
  subst hok
  have e := need_no d hc a n
  have := RFc.on (c := c) (I := I) hst (by rw [e]; exact hn) R
  rw [e] at this
  exact this
def ckCellsS (c : CS) (k : Mk) (x : AV) : List AV :=
  [.il 9 none (c.t.exprs.map Ex.cells), .il 9 none (c.t.stmts.map St.cells), .il 6 none (c.t.funcs.map Fu.cells), .sl 1 k.mT 0 c.type.length, .sl 1 k.mS 0 c.slot.length, .sl 1 k.mP 0 c.put.length, .sl 1 k.mF 0 c.func.length, .sl 1 k.mL 0 c.slots.length,
    vi c.f, x, vi c.loops]
set_option maxHeartbeats 8000000 in
theorem cfaces_ok (c : CS) (k : Mk) (x : AV) (h0 : c.code = 0) (hpos : 0 < c.t.funcs.length) (hbig : c.t.funcs.length ≤ 1048576) :
    ACalls Try.prog 40 [.mp k.mC 0] [.mu k.mC (ckCellsS c k x)] (RFc c (faceOf (dups [] c.t.funcs c)) [.mu k.mC (ckCellsS c k x)]) := by
  have hFl : (c.t.funcs.map Fu.cells).length = c.t.funcs.length := List.length_map ..
  generalize hfin : faceOf (dups [] c.t.funcs c) = fin
  refine ACalls.of_code (c := _) Try.func40 rfl Try.ntmps40 (Nat.le_of_ble_eq_true rfl) ?_
  refine ACode.seq (ACode.seq (ACode.region ?_))
  refine ASeq.q rfl rfl (QOp.move rfl rfl) ?_
  refine ASeq.q rfl rfl (QOp.nilCheckM rfl rfl) ?_
  refine ASeq.q rfl rfl (QOp.fieldM rfl rfl (tok _ rfl) rfl rfl (by decide) rfl) ?_
  refine ASeq.q rfl rfl (QOp.fieldM rfl rfl (tok _ rfl) rfl rfl (by decide) rfl) ?_
  refine ASeq.q rfl rfl (QOp.loadM 0 rfl rfl rfl (tok _ rfl) rfl) ?_
  refine ASeq.q rfl rfl (QOp.lenI rfl rfl (tok _ rfl) rfl) ?_
  refine ASeq.q rfl rfl (QOp.move rfl rfl) ?_
  refine ASeq.nil ?_
  refine ACode.block ?_
  refine ACode.loopP (fun (i : Nat) => [(0, .mp k.mC 0), (9, .il 6 none (c.t.funcs.map Fu.cells)), (10, vi ((c.t.funcs.map Fu.cells).length : Int)), (11, vi i)]) (fun _ => [.mu k.mC (ckCellsS c k x)]) (fun i => c.t.funcs.length - i)
    (fun i => i ≤ c.t.funcs.length ∧ dups (c.t.funcs.take i) (c.t.funcs.drop i) c = dups [] c.t.funcs c) 0 ⟨Nat.zero_le _, rfl⟩ (.cons rfl (.cons rfl (.cons rfl (.cons rfl .nil)))) 1 rfl ?_
  rintro i ⟨hi, hX⟩
  refine ACode.seq (ACode.region ?_)
  refine ASeq.q rfl rfl (QOp.cmp rfl rfl rfl rfl) ?_
  refine ASeq.nil ?_
  refine ACode.seq ?_
  refine ACode.cond _ rfl (fun hb => ?_) (fun hb => ?_)
  · have hlt : i < c.t.funcs.length := by have := of_decide_eq_true hb; rw [hFl] at this; omega
    have hget := fu_at hlt
    rw [dups_drop _ _ _ hlt] at hX
    have hd := dupOf_any c.t.funcs[i] (c.t.funcs.take i) c h0
    rw [hd] at hX
    have hst : Stk (c.need (!((c.t.funcs.take i).any (sameF c.t.funcs[i].name))) c.t.funcs[i].fr 7) fin := by
      rw [← hfin, ← hX]
      exact (Stk.dups _ _ _).trans (.face _)
    generalize c.t.funcs[i] = g at *
    refine ACode.skip (ACode.seq (ACode.block (ACode.seq (ACode.region ?_))))
    refine ASeq.q rfl rfl (QOp.move rfl rfl) ?_
    refine ASeq.q rfl rfl (QOp.indexI rfl rfl rfl (tok _ rfl) rfl (tok _ rfl) (by omega) (by assumption)) ?_
    refine ASeq.q rfl rfl (QOp.loadI rfl rfl (tok _ rfl) rfl) ?_
    refine ASeq.op rfl rfl (AOp.allocP rfl (tok _ rfl) rfl rfl (fun _ => rfl) (fun _ => ?_))
    refine ASeq.q rfl rfl (QOp.assign rfl rfl) ?_
    refine ASeq.op0 rfl rfl (AOp.storeP 1 rfl rfl rfl rfl (tok _ rfl) rfl rfl rfl rfl ?_)
    refine ASeq.nil ?_
    rename_i m3
    have hhas : ACalls Try.prog 62 [.il 6 none ((c.t.funcs.take i).map Fu.cells), .fn (.func 63) [] [.mp m3 0]] ([.mu k.mC (ckCellsS c k x)] ++ [.mu m3 g.cells]) (RV (.v (.bool ((c.t.funcs.take i).any (sameF g.name)))) ([.mu k.mC (ckCellsS c k x)] ++ [.mu m3 g.cells])) := by
      refine (ACalls.perm List.perm_append_comm ((has62 g m3 none (c.t.funcs.take i) (by rw [List.length_take]; omega)).frame (F := [.mu k.mC (ckCellsS c k x)]))).less ?_
      rintro _ _ ⟨R1, rfl, ⟨⟩⟩
      exact ⟨_, _, List.perm_append_comm, List.Sublist.refl _, .mk⟩
    refine AExit.then_normal ?_
    refine ACode.drawn [[], [0], [0, 1], [0, 1, 2], [0, 1, 2, 3], [], [0, 1, 2, 3, 4, 5], [], [0, 1, 2, 3, 4, 5, 6, 7], [0, 1, 2, 3, 4, 5, 6, 7, 8], [], [10], [0, 1, 2, 3, 4, 5, 6, 7, 8, 9, 10, 11]] (by kernel_rfl) mixed ?_
    refine DAny.qu 0 rfl rfl (by kernel_rfl) rfl (fun _ => .does _ _ rfl (.none rfl) (QOp.move rfl rfl)) ?_
    refine DAny.qu 1 rfl rfl (by kernel_rfl) rfl (fun _ => .does _ _ rfl (.none rfl) (QOp.nilCheckM rfl rfl)) ?_
    refine DAny.qu 2 rfl rfl (by kernel_rfl) rfl (fun _ => .does _ _ rfl (.none rfl) (QOp.fieldM rfl rfl (tok _ rfl) rfl rfl (by decide) rfl)) ?_
    refine DAny.qu 3 rfl rfl (by kernel_rfl) rfl (fun _ => .does _ _ rfl (.none rfl) (QOp.fieldM rfl rfl (tok _ rfl) rfl rfl (by decide) rfl)) ?_
    refine DAny.ld 4 rfl rfl (by kernel_rfl) rfl (.does _ _ rfl (.none rfl) (QOp.loadM 0 rfl rfl rfl (tok _ rfl) rfl)) ?_
    refine DAny.qu 5 rfl rfl (by kernel_rfl) rfl (fun _ => .does _ _ rfl (.none rfl) (QOp.move rfl rfl)) ?_
    refine DAny.qu 7 rfl rfl (by kernel_rfl) rfl (fun _ => .does _ _ rfl (.none rfl) (QOp.makeFunc rfl rfl rfl ⟨_, rfl⟩)) ?_
    refine DAny.qu 10 rfl rfl (by kernel_rfl) rfl (fun _ => .does _ _ rfl (.none rfl) (QOp.fieldM rfl rfl (tok _ rfl) rfl rfl (by decide) rfl)) ?_
    refine DAny.ld 11 rfl rfl (by kernel_rfl) rfl (.does _ _ rfl (.none rfl) (QOp.loadM 1 rfl rfl rfl (tok _ rfl) rfl)) ?_
    -- STOP at 6 (listed 0,1,2,3,4,5,7,10,11)
    refine DAny.qu 6 rfl rfl (by kernel_rfl) rfl (fun _ => .does _ _ rfl (.none rfl) (QOp.cutI (tde := TT 41) (tk' := none) (rows' := (c.t.funcs.take i).map Fu.cells) rfl rfl (tok _ rfl) rfl (tok _ rfl) rfl rfl (by decide) (by omega) (by omega) (by rw [Int.toNat_natCast]; show ((c.t.funcs.map Fu.cells).take i).drop 0 = _; rw [List.drop_zero, List.map_take]) (.inl rfl))) ?_
    refine DAny.ef 8 rfl (by kernel_rfl) (.none rfl) rfl rfl (AOp.callP 2 rfl (by kernel_rfl) rfl rfl rfl (hhas) ?_ (by rintro _ _ ⟨⟩))
    rintro _ _ ⟨⟩
    refine ⟨(by ((refine AllQ.cons (.does _ _ rfl (by exact .none rfl) (QOp.loadM 1 rfl rfl rfl (tok _ rfl) rfl)) ?_); (exact AllQ.nil))), ?_⟩
    refine DAny.qu 9 rfl rfl (by kernel_rfl) rfl (fun _ => .does _ _ rfl (.none rfl) (QOp.not rfl rfl)) ?_
    refine DAny.ef 12 rfl (by kernel_rfl) (.none rfl) rfl rfl (AOp.callP 0 rfl (by kernel_rfl) rfl rfl rfl (cneed_ok _ g.fr g.to 7) ?_ ?_)
    rotate_left
    · (rintro _ _ (⟨⟩ | ⟨hbad⟩); simp only [AExit.then, AExit.inBlock]; exact bodyQ_pan 0 rfl (.nok h0 hbad (by decide) hst _))
    rintro _ _ ⟨hok⟩
    refine ⟨(by ((exact AllQ.nil))), ?_⟩
    refine DAny.done (by kernel_rfl) ?_
    rw [hok, need_yes] at hX
    refine ACode.region ?_
    refine ASeq.q rfl rfl (QOp.ar64 rfl rfl rfl rfl ⟨by omega, by omega⟩) ?_
    refine ASeq.q rfl rfl (QOp.move rfl rfl) ?_
    refine ASeq.nil ?_
    refine AExit.then_normal ?_
    exact ⟨i + 1, 1, ⟨hlt, hX⟩, by omega, .cons rfl (.cons rfl (.cons rfl (.cons rfl .nil))), rfl⟩
  have hge : i = c.t.funcs.length := by have := of_decide_eq_false hb; rw [hFl] at this; omega
  rw [hge, List.drop_length] at hX
  simp only [dups] at hX
  rw [← hX] at hfin
  have hrow : (c.t.funcs.map Fu.cells)[(0 : Int).toNat]? = some (c.fu 0).cells := by
    rw [show (0 : Int).toNat = 0 from rfl, fu_at hpos]
    simp only [CS.fu, show (0 : Int).toNat = 0 from rfl, List.getD_eq_getElem?_getD, List.getElem?_eq_getElem hpos, Option.getD_some]
  unfold faceOf at hfin
  generalize c.fu 0 = g at *
  have hst1 : Stk (c.need (g.name.data.toList == [109, 97, 105, 110]) 0 17) fin := by rw [← hfin]; exact .need _ _ _ _
  have hpl := strs_len g.params
  refine ACode.exit (ACode.seq (ACode.region ?_))
  refine ASeq.q rfl rfl (QOp.move rfl rfl) ?_
  refine ASeq.q rfl rfl (QOp.nilCheckM rfl rfl) ?_
  refine ASeq.q rfl rfl (QOp.fieldM rfl rfl (tok _ rfl) rfl rfl (by decide) rfl) ?_
  refine ASeq.q rfl rfl (QOp.fieldM rfl rfl (tok _ rfl) rfl rfl (by decide) rfl) ?_
  refine ASeq.q rfl rfl (QOp.loadM 0 rfl rfl rfl (tok _ rfl) rfl) ?_
  refine ASeq.q rfl rfl (QOp.indexI rfl rfl rfl (tok _ rfl) rfl (tok _ rfl) (by decide) (by assumption)) ?_
  refine ASeq.q rfl rfl (QOp.loadI rfl rfl (tok _ rfl) rfl) ?_
  refine ASeq.op rfl rfl (AOp.allocP rfl (tok _ rfl) rfl rfl (fun _ => rfl) (fun _ => ?_))
  refine ASeq.op0 rfl rfl (AOp.storeP 1 rfl rfl rfl rfl (tok _ rfl) rfl rfl rfl rfl ?_)
  refine ASeq.nil ?_
  rename_i m4
  refine ACode.seq (ACode.region ?_)
  refine ASeq.q rfl rfl (QOp.fieldM rfl rfl (tok _ rfl) rfl rfl (by decide) rfl) ?_
  refine ASeq.q rfl rfl (QOp.loadM 1 rfl rfl rfl (tok _ rfl) rfl) ?_
  refine ASeq.q rfl rfl (QOp.cmpStr rfl rfl rfl rfl) ?_
  refine ASeq.q rfl rfl (QOp.build rfl (tok _ rfl) rfl rfl rfl rfl rfl) ?_
  refine ASeq.op rfl rfl (AOp.callP 0 rfl (by kernel_rfl) rfl rfl rfl (cneed_ok _ 0 0 17) ?_ ?_)
  rotate_left
  · (rintro _ _ (⟨⟩ | ⟨hbad⟩); simp only [AExit.then, AExit.inBlock]; exact bodyQ_pan 0 rfl (.nok h0 hbad (by decide) hst1 _))
  rintro _ _ ⟨hok⟩
  refine ASeq.nil ?_
  rw [hok, need_yes] at hfin
  have hst2 : Stk (c.need (((g.params.length : Int) == 0) && (g.type == 4)) g.fr 8) fin := by rw [← hfin]; exact .refl _
  refine ACode.region ?_
  refine ASeq.q rfl rfl (QOp.fieldM rfl rfl (tok _ rfl) rfl rfl (by decide) rfl) ?_
  refine ASeq.q rfl rfl (QOp.loadM 1 rfl rfl rfl (tok _ rfl) rfl) ?_
  refine ASeq.q rfl rfl (QOp.lenI rfl rfl (tok _ rfl) rfl) ?_
  refine ASeq.q rfl rfl (QOp.cmp rfl rfl rfl rfl) ?_
  refine ASeq.q rfl rfl (QOp.move rfl rfl) ?_
  rw [hpl]
  refine ASeq.split 46 ((g.params.length : Int) == 0) rfl (fun hb1 => ?_) (fun hb1 => ?_)
  · rw [hb1, Bool.true_and] at hst2 hfin
    refine ASeq.gq _ _ rfl rfl rfl rfl (QOp.fieldM rfl rfl (tok _ rfl) rfl rfl (by decide) rfl) ?_
    refine ASeq.gq _ _ rfl rfl rfl rfl (QOp.loadM 1 rfl rfl rfl (tok _ rfl) rfl) ?_
    refine ASeq.gq _ _ rfl rfl rfl rfl (QOp.cmp rfl rfl rfl rfl) ?_
    refine ASeq.q rfl rfl (QOp.pickT rfl rfl rfl) ?_
    refine ASeq.q rfl rfl (QOp.fieldM rfl rfl (tok _ rfl) rfl rfl (by decide) rfl) ?_
    refine ASeq.q rfl rfl (QOp.loadM 1 rfl rfl rfl (tok _ rfl) rfl) ?_
    refine ASeq.op rfl rfl (AOp.callP 0 rfl (by kernel_rfl) rfl rfl rfl (cneed_ok _ g.fr g.to 8) ?_ ?_)
    rotate_left
    · (rintro _ _ (⟨⟩ | ⟨hbad⟩); simp only [AExit.then, AExit.inBlock]; exact bodyQ_pan 0 rfl (.nok h0 hbad (by decide) hst2 _))
    rintro _ _ ⟨hok2⟩
    refine ASeq.nil ?_
    refine bodyQ_end 1 .nil rfl ?_
    have hf : fin = c := by rw [← hfin, hok2, need_yes]
    exact .ok (by rw [hf]; exact h0) hf
  · rw [hb1, Bool.false_and] at hst2
    refine ASeq.gno _ _ rfl rfl rfl rfl rfl ?_
    refine ASeq.gno _ _ rfl rfl rfl rfl rfl ?_
    refine ASeq.gno _ _ rfl rfl rfl rfl rfl ?_
    refine ASeq.q rfl rfl (QOp.pickF rfl rfl rfl) ?_
    refine ASeq.q rfl rfl (QOp.fieldM rfl rfl (tok _ rfl) rfl rfl (by decide) rfl) ?_
    refine ASeq.q rfl rfl (QOp.loadM 1 rfl rfl rfl (tok _ rfl) rfl) ?_
    refine ASeq.op rfl rfl (AOp.callP 0 rfl (by kernel_rfl) rfl rfl rfl (cneed_ok false g.fr g.to 8) ?_ ?_)
    rotate_left
    · (rintro _ _ (⟨⟩ | ⟨hbad⟩); simp only [AExit.then, AExit.inBlock]; exact bodyQ_pan 0 rfl (.nok h0 hbad (by decide) hst2 _))
    rintro _ _ ⟨hok2⟩
    refine ASeq.nil ?_
    cases hok2
end Go.Proofs.Ytaadamobapnfbaa
set_option linter.unusedVariables false
set_option linter.unusedSimpArgs false
set_option maxRecDepth 100000
namespace Go.Proofs.Ytaadamobapnfbaa
open Go Go.Abs
theorem zero100 (w : World) : (zeroValue 100).run Try.prog w = .ok (.agg #[.int .i64 0, .int .i64 0]) w := by kernel_rfl
theorem ifc100 : ∀ n, (TT 100).ds ≠ .ifc n := by intro n h; cases h
theorem catch_none (mI mA mE : Nat) (R : List Abs.Item) (K : List Abs.Item → Prop) (hK : ∀ it, K (R ++ [it])) : ADefer Try.prog 39 [.mp mI 0, .mp mA 0, .mp mE 0] none R K := by
  refine ADefer.intro Try.func39 rfl Try.ntmps39 (Nat.le_of_ble_eq_true rfl) rfl rfl rfl rfl ?_
  refine ASeq.q rfl rfl (QOp.assertNo rfl rfl (tok _ rfl) ifc100 zero100) ?_
  refine ASeq.q rfl rfl (QOp.move rfl rfl) ?_
  refine ASeq.q rfl rfl (QOp.extract rfl rfl rfl) ?_
  refine ASeq.q rfl rfl (QOp.extract rfl rfl rfl) ?_
  refine ASeq.op rfl rfl (AOp.alloc rfl (tok _ rfl) rfl (fun m => ?_))
  refine ASeq.op0 rfl rfl (AOp.store 0 (R1 := R) (R2 := []) rfl rfl rfl (tok _ rfl) rfl rfl rfl rfl ?_)
  refine ASeq.q rfl rfl (QOp.assign rfl rfl) ?_
  refine ASeq.nil ?_
  refine ACode.seq (ACode.region ?_)
  refine ASeq.q rfl rfl (QOp.move rfl rfl) ?_
  refine ASeq.nil ?_
  refine AExit.then_normal ?_
  refine ACode.cond _ rfl (fun hb => by cases hb) (fun hb => ?_)
  refine ACode.skip ?_
  exact hK _
theorem catch_some (mI mA mE : Nat) (cI : List AV) (hI : cI.length = 5) (a0 e0 : AV) (a e : Int) (K : List Abs.Item → Prop)
    (hK : ∀ it, K [.mu mI [nilv, nilv, nilv, nilv, nilv], .mu mA [vi a], .mu mE [vi e], it]) : ADefer Try.prog 39 [.mp mI 0, .mp mA 0, .mp mE 0] (some (wrongV a e)) [.mu mI cI, .mu mA [a0], .mu mE [e0]] K := by
  match cI, hI with
  | [x1, x2, x3, x4, x5], _ =>
  refine ADefer.intro Try.func39 rfl Try.ntmps39 (Nat.le_of_ble_eq_true rfl) rfl rfl rfl rfl ?_
  refine ASeq.q rfl rfl (QOp.assertYes rfl rfl (tok _ rfl) ifc100) ?_
  refine ASeq.q rfl rfl (QOp.move rfl rfl) ?_
  refine ASeq.q rfl rfl (QOp.extract rfl rfl rfl) ?_
  refine ASeq.q rfl rfl (QOp.extract rfl rfl rfl) ?_
  refine ASeq.op rfl rfl (AOp.allocP rfl (tok _ rfl) rfl rfl (fun _ => rfl) (fun _ => ?_))
  refine ASeq.op0 rfl rfl (AOp.storeP 3 rfl rfl rfl rfl (tok _ rfl) rfl rfl rfl rfl ?_)
  refine ASeq.q rfl rfl (QOp.assign rfl rfl) ?_
  refine ASeq.nil ?_
  refine ACode.seq (ACode.region ?_)
  refine ASeq.q rfl rfl (QOp.move rfl rfl) ?_
  refine ASeq.nil ?_
  refine AExit.then_normal ?_
  refine ACode.cond _ rfl (fun hb => ?_) (fun hb => by cases hb)
  refine ACode.drawn [[], [], [1], [], [3], [0], [0, 1, 2, 5], [0, 1, 2, 3, 4, 5, 6]] (by kernel_rfl) mixed ?_
  refine DAny.qu 0 rfl rfl (by kernel_rfl) rfl (fun _ => .does _ _ rfl (.none rfl) (QOp.build rfl (tok _ rfl) rfl rfl rfl rfl rfl)) ?_
  refine DAny.qu 1 rfl rfl (by kernel_rfl) rfl (fun _ => .does _ _ rfl (.none rfl) (QOp.fieldM rfl rfl (tok _ rfl) rfl rfl (by decide) rfl)) ?_
  refine DAny.ld 2 rfl rfl (by kernel_rfl) rfl (.does _ _ rfl (.none rfl) (QOp.loadM 3 rfl rfl rfl (tok _ rfl) rfl)) ?_
  refine DAny.qu 3 rfl rfl (by kernel_rfl) rfl (fun _ => .does _ _ rfl (.none rfl) (QOp.fieldM rfl rfl (tok _ rfl) rfl rfl (by decide) rfl)) ?_
  refine DAny.ld 4 rfl rfl (by kernel_rfl) rfl (.does _ _ rfl (.none rfl) (QOp.loadM 3 rfl rfl rfl (tok _ rfl) rfl)) ?_
  refine DAny.ef0 5 rfl (by kernel_rfl) (.none rfl) rfl rfl (AOp.storeP 0 rfl rfl rfl rfl (tok _ rfl) rfl rfl rfl rfl ⟨(by ((refine AllQ.cons (.does _ _ rfl (by exact .none rfl) (QOp.loadM 3 rfl rfl rfl (tok _ rfl) rfl)) ?_); (refine AllQ.cons (.does _ _ rfl (by exact .none rfl) (QOp.loadM 3 rfl rfl rfl (tok _ rfl) rfl)) ?_); (exact AllQ.nil))), ?_⟩)
  refine DAny.ef0 6 rfl (by kernel_rfl) (.none rfl) rfl rfl (AOp.storeP 1 rfl rfl rfl rfl (tok _ rfl) rfl rfl rfl rfl ⟨(by ((refine AllQ.cons (.does _ _ rfl (by exact .none rfl) (QOp.loadM 3 rfl rfl rfl (tok _ rfl) rfl)) ?_); (exact AllQ.nil))), ?_⟩)
  refine DAny.ef0 7 rfl (by kernel_rfl) (.none rfl) rfl rfl (AOp.storeP 2 rfl rfl rfl rfl (tok _ rfl) rfl rfl rfl rfl ⟨(by ((exact AllQ.nil))), ?_⟩)
  refine DAny.done (by kernel_rfl) ?_
  exact hK _
end Go.Proofs.Ytaadamobapnfbaa
