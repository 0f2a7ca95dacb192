/- Own texts, put together by a program: G5 G6 G7 G8 G9 H0 H1 J0 J1 J2 J3 J4. -/
import Derived.Test.YtaadamobapnfbaaFg2
/- ref06: Expr. -/
set_option linter.unusedVariables false
set_option linter.unusedSimpArgs false
set_option maxRecDepth 100000
namespace Go.Proofs.Ytaadamobapnfbaa
open Go Go.Abs
theorem takeO_some {α : Type} : ∀ (n : Nat) (l : List α), n ≤ l.length → takeO n l = some (l.take n)
  | 0, l, _ => rfl
  | n + 1, x :: l, h => by simp [takeO, takeO_some n l (by simpa using h)]
  | _ + 1, [], h => by simp at h
theorem need_type (c : CS) (ok : Bool) (a k : Int) : (c.need ok a k).type = c.type := by unfold CS.need; split <;> rfl
theorem need_slot (c : CS) (ok : Bool) (a k : Int) : (c.need ok a k).slot = c.slot := by unfold CS.need; split <;> rfl
theorem need_put (c : CS) (ok : Bool) (a k : Int) : (c.need ok a k).put = c.put := by unfold CS.need; split <;> rfl
theorem need_func (c : CS) (ok : Bool) (a k : Int) : (c.need ok a k).func = c.func := by unfold CS.need; split <;> rfl
theorem need_slots (c : CS) (ok : Bool) (a k : Int) : (c.need ok a k).slots = c.slots := by unfold CS.need; split <;> rfl
theorem need_f (c : CS) (ok : Bool) (a k : Int) : (c.need ok a k).f = c.f := by unfold CS.need; split <;> rfl
theorem need_t (c : CS) (ok : Bool) (a k : Int) : (c.need ok a k).t = c.t := by unfold CS.need; split <;> rfl
theorem cells_setSlot (c : CS) (i n : Int) (m : Ms) : (c.setSlot i n).cells m = c.cells m := by simp [CS.cells, CS.setSlot]
theorem fu_get {l : List Fu} {i : Nat} (h : i < l.length) : (l.map Fu.cells)[i]? = some l[i].cells := by
  simp only [List.getElem?_map, List.getElem?_eq_getElem h, Option.map_some]
theorem findF_range (s : ByteArray) : ∀ (l : List Fu) (k : Nat) (r : Int), r < k + l.length → findF s l k r < k + l.length
  | [], k, r, h => by simp only [findF]; exact h
  | g :: l, k, r, h => by
    simp only [findF]
    have := findF_range s l (k + 1) (if ((g.name.data.toList == s.data.toList) && decide (r < 0)) = true then (k : Int) else r) (by
      simp only [List.length_cons] at h
      split <;> omega)
    simp only [List.length_cons]
    omega
set_option maxHeartbeats 4000000 in
theorem expr_walk6 (n : Nat) (hE : CExpr n) : CExpr (n + 1) := by
  intro c m i τ h hw h0 h1 hn
  have hrow := ex_get h0 h1
  have hwf := ex_wf hw h0 h1
  have hf0 := h.f0
  have hf1 := h.f1
  have hcur := slotCells_cur h τ
  have hls := h.ls
  have hlt := h.lt
  have hlS := h.lS
  have hbig := h.big
  refine ACalls.of_code (c := _) Try.func50 rfl Try.ntmps50 (Nat.le_of_ble_eq_true rfl) ?_
  refine ACode.seq (ACode.region ?_)
  refine ASeq.op rfl rfl (AOp.boxP rfl rfl rfl (fun _ => rfl) (fun _ => ?_))
  refine ASeq.op rfl rfl (AOp.allocP rfl (tok _ rfl) rfl rfl (fun _ => rfl) (fun _ => ?_))
  refine ASeq.q rfl rfl (QOp.assign rfl rfl) ?_
  refine ASeq.nil ?_
  rename_i m2 m4
  refine ACode.seq (ACode.seq (ACode.region ?_))
  refine ASeq.q rfl rfl (QOp.fieldM rfl rfl (tok _ rfl) rfl rfl (by decide) rfl) ?_
  refine ASeq.q rfl rfl (QOp.loadM 6 rfl rfl rfl (tok _ rfl) rfl) ?_
  refine ASeq.q rfl rfl (QOp.cmp rfl rfl rfl rfl) ?_
  refine ASeq.nil ?_
  refine AExit.then_normal ?_
  refine ACode.cond _ rfl (fun hb => ?_) (fun hb => ?_)
  · have hc : c.code ≠ 0 := by simpa using hb
    refine ACode.seq (ACode.region ?_)
    refine ASeq.q rfl rfl (QOp.loadM 6 rfl rfl rfl (tok _ rfl) rfl) ?_
    refine ASeq.op0 rfl rfl (AOp.storeP 7 rfl rfl rfl rfl (tok _ rfl) rfl rfl rfl rfl ?_)
    refine ASeq.q rfl rfl (QOp.assign rfl rfl) ?_
    refine ASeq.nil ?_
    refine ACode.ret (AExit.then_ret ?_)
    refine bodyQ_ret 6 (.cell 7 rfl rfl (tok _ rfl) rfl (.tmp rfl .nil)) rfl ?_
    rw [show expr6 (n + 1) c i = (c, 1) by unfold expr6; rw [if_pos hc]]
    exact .mk
  have hc : c.code = 0 := by simpa using hb
  have hgo : expr6 (n + 1) c i = typed (kindCase (expr6 n) c i (c.ex i)) i := by
    rw [expr6, if_neg (fun h => h hc)]
  refine ACode.skip (ACode.seq (ACode.region ?_))
  refine ASeq.q rfl rfl (QOp.fieldM rfl rfl (tok _ rfl) rfl rfl (by decide) rfl) ?_
  refine ASeq.q rfl rfl (QOp.fieldM rfl rfl (tok _ rfl) rfl rfl (by decide) rfl) ?_
  refine ASeq.q rfl rfl (QOp.loadM 6 rfl rfl rfl (tok _ rfl) rfl) ?_
  refine ASeq.q rfl rfl (QOp.move rfl rfl) ?_
  refine ASeq.q rfl rfl (QOp.indexI rfl rfl rfl (tok _ rfl) rfl (tok _ rfl) (by omega) (by assumption)) ?_
  refine ASeq.q rfl rfl (QOp.loadI rfl rfl (tok _ rfl) rfl) ?_
  refine ASeq.op rfl rfl (AOp.allocP rfl (tok _ rfl) rfl rfl (fun _ => rfl) (fun _ => ?_))
  refine ASeq.op0 rfl rfl (AOp.storeP 8 rfl rfl rfl rfl (tok _ rfl) rfl rfl rfl rfl ?_)
  refine ASeq.nil ?_
  rename_i m6
  refine ACode.seq (ACode.region ?_)
  refine ASeq.q rfl rfl (QOp.assign rfl rfl) ?_
  refine ASeq.nil ?_
  refine ACode.seq (ACode.region ?_)
  refine ASeq.q rfl rfl (QOp.fieldM rfl rfl (tok _ rfl) rfl rfl (by decide) rfl) ?_
  refine ASeq.q rfl rfl (QOp.fieldM rfl rfl (tok _ rfl) rfl rfl (by decide) rfl) ?_
  refine ASeq.q rfl rfl (QOp.loadM 8 rfl rfl rfl (tok _ rfl) rfl) ?_
  refine ASeq.q rfl rfl (QOp.assign rfl rfl) ?_
  refine ASeq.nil ?_
  generalize hr : kindCase (expr6 n) c i (c.ex i) = r at hgo
  refine ACode.meet [(1, vi i), (2, .mp m2 0), (4, .mp m4 0), (7, vi r.2)] (r.1.items m τ ++ [.mu m2 (r.1.cells m), .mu m4 (List.map AV.v (TT 79).zero)]) (fun rest => ?_) ?_
  · refine ACode.seq (ACode.region ?_)
    refine ASeq.q rfl rfl (QOp.fieldM rfl rfl (tok _ rfl) rfl rfl (by decide) rfl) ?_
    refine ASeq.q rfl rfl (QOp.loadM 8 rfl rfl rfl (tok _ rfl) rfl) ?_
    refine ASeq.nil ?_
    refine ACode.block (ACode.seq (ACode.seq (ACode.region ?_)))
    refine ASeq.q rfl rfl (QOp.cmp rfl rfl rfl rfl) ?_
    refine ASeq.q rfl rfl (QOp.assign rfl rfl) ?_
    refine ASeq.nil ?_
    refine AExit.then_normal ?_
    generalize he : c.ex i = e at hrow hwf hr
    have hn1 : ∀ b : Bool, (e.kind == 1) = b → (b = true ↔ e.kind = 1) := fun b hb => by rw [← hb]; exact beq_iff_eq
    refine ACode.cond _ rfl (fun hb => ?_) (fun hb => ?_)
    · have hk : e.kind = 1 := eq_of_beq hb
      refine ACode.skip ?_
      refine ACode.cond _ rfl (fun hb2 => ?_) (fun hb2 => by rw [hb] at hb2; cases hb2)
      refine ACode.region ?_
      refine ASeq.q rfl rfl (QOp.assign rfl rfl) ?_
      refine ASeq.nil ?_
      have hr2 : r = (c, 1) := by rw [← hr]; unfold kindCase; rw [if_pos (.inl hk)]
      subst hr2
      exact rest.atP 8 (.cons rfl (.cons rfl (.cons rfl (.cons rfl .nil)))) rfl
    have hk1 : ¬ e.kind = 1 := ne_of_beq_false hb
    refine ACode.region ?_
    refine ASeq.q rfl rfl (QOp.cmp rfl rfl rfl rfl) ?_
    refine ASeq.q rfl rfl (QOp.assign rfl rfl) ?_
    refine ASeq.nil ?_
    refine ACode.cond _ rfl (fun hb => ?_) (fun hb => ?_)
    · have hk : e.kind = 7 := eq_of_beq hb
      refine ACode.region ?_
      refine ASeq.q rfl rfl (QOp.assign rfl rfl) ?_
      refine ASeq.nil ?_
      have hr2 : r = (c, 1) := by rw [← hr]; unfold kindCase; rw [if_pos (.inr hk)]
      subst hr2
      exact rest.atP 8 (.cons rfl (.cons rfl (.cons rfl (.cons rfl .nil)))) rfl
    have hk7 : ¬ e.kind = 7 := ne_of_beq_false hb
    have hk17 : ¬ (e.kind = 1 ∨ e.kind = 7) := fun h => h.elim hk1 hk7
    refine ACode.seq (ACode.region ?_)
    refine ASeq.q rfl rfl (QOp.cmp rfl rfl rfl rfl) ?_
    refine ASeq.q rfl rfl (QOp.assign rfl rfl) ?_
    refine ASeq.nil ?_
    refine AExit.then_normal ?_
    refine ACode.cond _ rfl (fun hb => ?_) (fun hb => ?_)
    · have hk4 : e.kind = 4 := eq_of_beq hb
      have hfind := h.find_lt e.name
      refine ACode.seq (ACode.region ?_)
      refine ASeq.q rfl rfl (QOp.loadM 6 rfl rfl rfl (tok _ rfl) rfl) ?_
      refine ASeq.q rfl rfl (QOp.fieldM rfl rfl (tok _ rfl) rfl rfl (by decide) rfl) ?_
      refine ASeq.q rfl rfl (QOp.loadM 8 rfl rfl rfl (tok _ rfl) rfl) ?_
      refine ASeq.q rfl rfl (QOp.move rfl rfl) ?_
      refine ASeq.op rfl rfl (AOp.callP 6 rfl (by kernel_rfl) rfl rfl rfl (slot_ok c m h e.name false e.fr τ) ?_ (by rintro _ _ ⟨⟩))
      rintro _ _ ⟨⟩
      refine ASeq.q rfl rfl (QOp.move rfl rfl) ?_
      refine ASeq.q rfl rfl (QOp.extract rfl rfl rfl) ?_
      refine ASeq.q rfl rfl (QOp.extract rfl rfl rfl) ?_
      refine ASeq.op rfl rfl (AOp.allocP rfl (tok _ rfl) rfl rfl (fun _ => rfl) (fun _ => ?_))
      refine ASeq.op0 rfl rfl (AOp.storeP 9 rfl rfl rfl rfl (tok _ rfl) rfl rfl rfl rfl ?_)
      refine ASeq.q rfl rfl (QOp.assign rfl rfl) ?_
      refine ASeq.nil ?_
      refine ACode.seq (ACode.region ?_)
      refine ASeq.q rfl rfl (QOp.loadM 9 rfl rfl rfl (tok _ rfl) rfl) ?_
      refine ASeq.op0 rfl rfl (AOp.storeP 6 rfl rfl rfl rfl (tok _ rfl) rfl rfl rfl rfl ?_)
      refine ASeq.nil ?_
      refine ACode.seq (ACode.region ?_)
      refine ASeq.q rfl rfl (QOp.fieldM rfl rfl (tok _ rfl) rfl rfl (by decide) rfl) ?_
      refine ASeq.q rfl rfl (QOp.loadM 6 rfl rfl rfl (tok _ rfl) rfl) ?_
      refine ASeq.q rfl rfl (QOp.cmp rfl rfl rfl rfl) ?_
      refine ASeq.nil ?_
      refine AExit.then_normal ?_
      refine ACode.cond _ rfl (fun hb => ?_) (fun hb => ?_)
      · have hcode : (c.slotOf e.name false e.fr).1.code = 0 := eq_of_beq hb
        have hok := ((need_code c (c.slotOk (c.find e.name) false) e.fr 6 (by decide)).1 hcode).2
        have hsame : (c.slotOf e.name false e.fr).1 = c := by unfold CS.slotOf; rw [hok, need_same]
        have hN0 : 0 ≤ (c.slotOf e.name false e.fr).2 := by
          unfold CS.slotOk at hok
          rw [Bool.and_eq_true] at hok
          exact of_decide_eq_true hok.1
        have hN1 : (c.slotOf e.name false e.fr).2 < c.cur.length := by
          rcases hfind with h' | h'
          · exact absurd hN0 (by show ¬ 0 ≤ c.find e.name; omega)
          · exact h'
        have hget := cur_get (c := c) hN0 hN1
        have hr2 : r = (c.setSlot i (c.slotOf e.name false e.fr).2, c.cur.getD (c.slotOf e.name false e.fr).2.toNat 0) := by
          rw [← hr]; unfold kindCase; rw [if_neg hk17, if_pos hk4, if_pos hcode, hsame]
        rw [hsame]
        refine ACode.seq (ACode.region ?_)
        refine ASeq.q rfl rfl (QOp.fieldM rfl rfl (tok _ rfl) rfl rfl (by decide) rfl) ?_
        refine ASeq.q rfl rfl (QOp.fieldM rfl rfl (tok _ rfl) rfl rfl (by decide) rfl) ?_
        refine ASeq.q rfl rfl (QOp.loadM 6 rfl rfl rfl (tok _ rfl) rfl) ?_
        refine ASeq.q rfl rfl (QOp.fieldM rfl rfl (tok _ rfl) rfl rfl (by decide) rfl) ?_
        refine ASeq.q rfl rfl (QOp.loadM 6 rfl rfl rfl (tok _ rfl) rfl) ?_
        refine ASeq.q rfl rfl (QOp.indexM rfl rfl rfl (tok _ rfl) rfl (tok _ rfl) (by omega) (by omega) rfl) ?_
        refine ASeq.q rfl rfl (QOp.loadAt 4 rfl rfl rfl (tok _ rfl) rfl (by assumption)) ?_
        refine ASeq.q rfl rfl (QOp.move rfl rfl) ?_
        refine ASeq.q rfl rfl (QOp.indexI rfl rfl rfl (tok _ rfl) rfl (tok _ rfl) (by omega) (by assumption)) ?_
        refine ASeq.q rfl rfl (QOp.loadI rfl rfl (tok _ rfl) rfl) ?_
        refine ASeq.q rfl rfl (QOp.assign rfl rfl) ?_
        refine ASeq.nil ?_
        refine ACode.region ?_
        refine ASeq.q rfl rfl (QOp.fieldM rfl rfl (tok _ rfl) rfl rfl (by decide) rfl) ?_
        refine ASeq.q rfl rfl (QOp.fieldM rfl rfl (tok _ rfl) rfl rfl (by decide) rfl) ?_
        refine ASeq.q rfl rfl (QOp.loadM 6 rfl rfl rfl (tok _ rfl) rfl) ?_
        refine ASeq.q rfl rfl (QOp.move rfl rfl) ?_
        refine ASeq.q rfl rfl (QOp.move rfl rfl) ?_
        refine ASeq.q rfl rfl (QOp.indexM rfl rfl rfl (tok _ rfl) rfl (tok _ rfl) (by omega) (by omega) rfl) ?_
        refine ASeq.op0 rfl rfl (storeInt 1 (j := i.toNat) (l := c.slot) rfl rfl rfl rfl (tok _ rfl) rfl (by show 0 + _ * 1 = _; omega) (by omega) rfl ?_)
        refine ASeq.nil ?_
        subst hr2
        refine rest.atP 8 ?_ ?_
        · exact .cons rfl (.cons rfl (.cons rfl (.cons rfl .nil)))
        · simp only [cells_setSlot]
          simp only [CS.items, CS.cells, CS.slotCells, CS.setSlot, CS.slotOf, need_type, need_slot, need_put, need_func, need_slots, need_f]
          rfl
      · have hcode : ¬ (c.slotOf e.name false e.fr).1.code = 0 := ne_of_beq_false hb
        have hr2 : r = ((c.slotOf e.name false e.fr).1, 2) := by
          rw [← hr]; unfold kindCase; rw [if_neg hk17, if_pos hk4, if_neg hcode]
        refine ACode.skip ?_
        subst hr2
        refine rest.atP 8 ?_ ?_
        · exact .cons rfl (.cons rfl (.cons rfl (.cons rfl .nil)))
        · simp only [cells_setSlot]
          simp only [CS.items, CS.cells, CS.slotCells, CS.setSlot, CS.slotOf, need_type, need_slot, need_put, need_func, need_slots, need_f]
          rfl
    have hk4 : ¬ e.kind = 4 := ne_of_beq_false hb
    refine ACode.seq (ACode.region ?_)
    refine ASeq.q rfl rfl (QOp.cmp rfl rfl rfl rfl) ?_
    refine ASeq.q rfl rfl (QOp.assign rfl rfl) ?_
    refine ASeq.nil ?_
    refine AExit.then_normal ?_
    refine ACode.cond _ rfl (fun hb => ?_) (fun hb => ?_)
    · have hk5 : e.kind = 5 := eq_of_beq hb
      have ha := hwf.1 (.inl hk5)
      have hkv : Kept c (valOf (expr6 n c e.a) e.a).1 := (Kept.expr6 n c e.a).valOf e.a
      have hr2 := hr.symm
      unfold kindCase at hr2
      rw [if_neg hk17, if_neg hk4, if_pos hk5] at hr2
      refine ACode.seq (ACode.region ?_)
      refine ASeq.q rfl rfl (QOp.loadM 6 rfl rfl rfl (tok _ rfl) rfl) ?_
      refine ASeq.q rfl rfl (QOp.fieldM rfl rfl (tok _ rfl) rfl rfl (by decide) rfl) ?_
      refine ASeq.q rfl rfl (QOp.loadM 8 rfl rfl rfl (tok _ rfl) rfl) ?_
      refine ASeq.op rfl rfl (AOp.callP 6 rfl (by kernel_rfl) rfl rfl rfl (value_walk hE c m e.a τ h hw ha.1 (by omega) (by omega)) ?_ (by rintro _ _ ⟨⟩))
      rintro _ _ ⟨⟩
      refine ASeq.q rfl rfl (QOp.move rfl rfl) ?_
      refine ASeq.q rfl rfl (QOp.extract rfl rfl rfl) ?_
      refine ASeq.q rfl rfl (QOp.extract rfl rfl rfl) ?_
      refine ASeq.op rfl rfl (AOp.allocP rfl (tok _ rfl) rfl rfl (fun _ => rfl) (fun _ => ?_))
      refine ASeq.op0 rfl rfl (AOp.storeP 9 rfl rfl rfl rfl (tok _ rfl) rfl rfl rfl rfl ?_)
      refine ASeq.q rfl rfl (QOp.assign rfl rfl) ?_
      refine ASeq.nil ?_
      generalize valOf (expr6 n c e.a) e.a = v at hkv hr2
      have okv := hkv.ok h
      refine ACode.seq (ACode.region ?_)
      refine ASeq.q rfl rfl (QOp.loadM 9 rfl rfl rfl (tok _ rfl) rfl) ?_
      refine ASeq.q rfl rfl (QOp.fieldM rfl rfl (tok _ rfl) rfl rfl (by decide) rfl) ?_
      refine ASeq.q rfl rfl (QOp.loadM 8 rfl rfl rfl (tok _ rfl) rfl) ?_
      refine ASeq.q rfl rfl (QOp.move rfl rfl) ?_
      refine ASeq.op rfl rfl (AOp.callP 6 rfl (by kernel_rfl) rfl rfl rfl (slot_ok v.1 m okv e.name true e.fr τ) ?_ (by rintro _ _ ⟨⟩))
      rintro _ _ ⟨⟩
      refine ASeq.q rfl rfl (QOp.move rfl rfl) ?_
      refine ASeq.q rfl rfl (QOp.extract rfl rfl rfl) ?_
      refine ASeq.q rfl rfl (QOp.extract rfl rfl rfl) ?_
      refine ASeq.op rfl rfl (AOp.allocP rfl (tok _ rfl) rfl rfl (fun _ => rfl) (fun _ => ?_))
      refine ASeq.op0 rfl rfl (AOp.storeP 10 rfl rfl rfl rfl (tok _ rfl) rfl rfl rfl rfl ?_)
      refine ASeq.q rfl rfl (QOp.assign rfl rfl) ?_
      refine ASeq.nil ?_
      refine ACode.seq (ACode.region ?_)
      refine ASeq.q rfl rfl (QOp.loadM 10 rfl rfl rfl (tok _ rfl) rfl) ?_
      refine ASeq.q rfl rfl (QOp.move rfl rfl) ?_
      refine ASeq.q rfl rfl (QOp.cmp rfl rfl rfl rfl) ?_
      refine ASeq.q rfl rfl (QOp.move rfl rfl) ?_
      refine ASeq.op rfl rfl (AOp.callP 0 rfl (by kernel_rfl) rfl rfl rfl (need_ok _ m _ e.fr 8) ?_ (by rintro _ _ ⟨⟩))
      rintro _ _ ⟨⟩
      refine ASeq.op0 rfl rfl (AOp.storeP 6 rfl rfl rfl rfl (tok _ rfl) rfl rfl rfl rfl ?_)
      refine ASeq.nil ?_
      refine ACode.seq (ACode.region ?_)
      refine ASeq.q rfl rfl (QOp.assign rfl rfl) ?_
      refine ASeq.nil ?_
      have hxs : ((v.1.slotOf e.name true e.fr).1.need (v.2 == 1) e.fr 8).slot.length = v.1.slot.length := by rw [need_slot]; exact congrArg List.length (need_slot _ _ _ _)
      have hvs := hkv.ls
      refine ACode.region ?_
      refine ASeq.q rfl rfl (QOp.fieldM rfl rfl (tok _ rfl) rfl rfl (by decide) rfl) ?_
      refine ASeq.q rfl rfl (QOp.fieldM rfl rfl (tok _ rfl) rfl rfl (by decide) rfl) ?_
      refine ASeq.q rfl rfl (QOp.loadM 6 rfl rfl rfl (tok _ rfl) rfl) ?_
      refine ASeq.q rfl rfl (QOp.move rfl rfl) ?_
      refine ASeq.q rfl rfl (QOp.move rfl rfl) ?_
      refine ASeq.q rfl rfl (QOp.indexM rfl rfl rfl (tok _ rfl) rfl (tok _ rfl) (by omega) (by omega) rfl) ?_
      refine ASeq.op0 rfl rfl (storeInt 1 (j := i.toNat) (l := v.1.slot) rfl rfl rfl rfl (tok _ rfl) rfl (by show 0 + _ * 1 = _; omega) (by omega) rfl ?_)
      refine ASeq.nil ?_
      subst hr2
      refine rest.atP 8 ?_ ?_
      · exact .cons rfl (.cons rfl (.cons rfl (.cons rfl .nil)))
      · simp only [cells_setSlot]
        simp only [CS.items, CS.cells, CS.slotCells, CS.setSlot, CS.slotOf, need_type, need_slot, need_put, need_func, need_slots, need_f]
        rfl
    have hk5 : ¬ e.kind = 5 := ne_of_beq_false hb
    refine ACode.seq (ACode.region ?_)
    refine ASeq.q rfl rfl (QOp.cmp rfl rfl rfl rfl) ?_
    refine ASeq.q rfl rfl (QOp.assign rfl rfl) ?_
    refine ASeq.nil ?_
    refine AExit.then_normal ?_
    refine ACode.cond _ rfl (fun hb => ?_) (fun hb => ?_)
    · have hk6 : e.kind = 6 := eq_of_beq hb
      have hlist := hwf.2.2.1 hk6
      have hll := hwf.2.2.2
      have hr2 := hr.symm
      unfold kindCase at hr2
      rw [if_neg hk17, if_neg hk4, if_neg hk5, if_pos hk6] at hr2
      have hil := ints_len e.list
      have hkl : Kept c (argsOf (expr6 n) e.list c true).1 := Kept.args (Kept.expr6 n) _ _ _
      generalize hla : argsOf (expr6 n) e.list c true = la at hr2 hkl
      refine ACode.seq (ACode.region ?_)
      refine ASeq.q rfl rfl (QOp.assign rfl rfl) ?_
      refine ASeq.nil ?_
      refine ACode.seq (ACode.seq (ACode.region ?_))
      refine ASeq.q rfl rfl (QOp.fieldM rfl rfl (tok _ rfl) rfl rfl (by decide) rfl) ?_
      refine ASeq.q rfl rfl (QOp.loadM 8 rfl rfl rfl (tok _ rfl) rfl) ?_
      refine ASeq.q rfl rfl (QOp.lenI rfl rfl (tok _ rfl) rfl) ?_
      refine ASeq.q rfl rfl (QOp.move rfl rfl) ?_
      refine ASeq.nil ?_
      refine ACode.block ?_
      refine ACode.loopP (fun (x : Nat × CS × Bool) => [(1, vi i), (2, .mp m2 0), (4, .mp m4 0), (6, .mp m6 0), (7, vi 2), (8, vi e.fr), (15, .v (.bool x.2.2)), (109, vi ((ints e.list).length : Int)), (110, vi x.1)])
        (fun x => x.2.1.items m τ ++ [.mu m2 (x.2.1.cells m), .mu m4 (List.map AV.v (TT 79).zero), .mu m6 e.cells]) (fun x => e.list.length - x.1)
        (fun x => x.1 ≤ e.list.length ∧ Kept c x.2.1 ∧ argsOf (expr6 n) (e.list.drop x.1) x.2.1 x.2.2 = la) (0, c, true) ⟨Nat.zero_le _, .refl c, hla⟩
        (.cons rfl (.cons rfl (.cons rfl (.cons rfl (.cons rfl (.cons rfl (.cons rfl (.cons rfl (.cons rfl .nil))))))))) 9 rfl ?_
      rintro ⟨k, c1, b⟩ ⟨hk, hkc, hla1⟩
      dsimp only at hk hkc hla1
      refine ACode.seq (ACode.region ?_)
      refine ASeq.q rfl rfl (QOp.cmp rfl rfl rfl rfl) ?_
      refine ASeq.nil ?_
      refine ACode.seq ?_
      refine ACode.cond _ rfl (fun hb => ?_) (fun hb => ?_)
      · have hlt : k < e.list.length := by have := of_decide_eq_true hb; rw [hil] at this; omega
        have hget := ints_get hlt
        have ha := hlist _ (List.getElem_mem hlt)
        have ok1 := hkc.ok h
        have ht1 := hkc.t
        have hw1 : TreeWf c1.t := by rw [ht1]; exact hw
        have hb1 : e.list[k] < c1.t.exprs.length := by rw [ht1]; omega
        have hval := value_walk hE c1 m e.list[k] τ ok1 hw1 ha.1 hb1 (by omega)
        have hkv : Kept c (valOf (expr6 n c1 e.list[k]) e.list[k]).1 := hkc.trans ((Kept.expr6 n _ _).valOf _)
        rw [List.drop_eq_getElem_cons hlt] at hla1
        simp only [argsOf] at hla1
        generalize valOf (expr6 n c1 e.list[k]) e.list[k] = v at hval hkv hla1
        refine ACode.skip (ACode.seq (ACode.block (ACode.seq (ACode.region ?_))))
        refine ASeq.q rfl rfl (QOp.move rfl rfl) ?_
        refine ASeq.q rfl rfl (QOp.assign rfl rfl) ?_
        refine ASeq.nil ?_
        refine ACode.seq ?_
        refine ACode.drawn [[], [], [1], [], [1, 2, 3], [1, 2, 3, 4], [0, 1, 2, 3, 4, 5], [0, 1, 2, 3, 4, 5, 6], [0, 1, 2, 3, 4, 5, 6, 7], [0, 1, 2, 3, 4, 5, 6, 7], [], [0, 1, 2, 3, 4, 5, 6, 7, 8, 10], [0, 1, 2, 3, 4, 5, 6, 7, 8, 9, 10, 11]] (by kernel_rfl) mixed ?_
        refine DAny.ld 0 rfl rfl (by kernel_rfl) rfl (.does _ _ rfl (.none rfl) (QOp.loadM 6 rfl rfl rfl (tok _ rfl) rfl)) ?_
        refine DAny.qu 1 rfl rfl (by kernel_rfl) rfl (fun _ => .does _ _ rfl (.none rfl) (QOp.fieldM rfl rfl (tok _ rfl) rfl rfl (by decide) rfl)) ?_
        refine DAny.ld 2 rfl rfl (by kernel_rfl) rfl (.does _ _ rfl (.none rfl) (QOp.loadM 8 rfl rfl rfl (tok _ rfl) rfl)) ?_
        refine DAny.qu 3 rfl rfl (by kernel_rfl) rfl (fun _ => .does _ _ rfl (.none rfl) (QOp.move rfl rfl)) ?_
        refine DAny.qu 4 rfl rfl (by kernel_rfl) rfl (fun _ => .does _ _ rfl (.none rfl) (QOp.indexI rfl rfl rfl (tok _ rfl) rfl (tok _ rfl) (by omega) (by assumption))) ?_
        refine DAny.qu 5 rfl rfl (by kernel_rfl) rfl (fun _ => .does _ _ rfl (.none rfl) (QOp.loadI rfl rfl (tok _ rfl) rfl)) ?_
        -- STOP at effects [6, 10] (listed 0,1,2,3,4,5)
        refine DAny.two 6 10 rfl rfl (by kernel_rfl) (.none rfl) (.none rfl) rfl rfl rfl rfl (AOp.callP 6 rfl (by kernel_rfl) rfl rfl rfl hval ?_ (by rintro _ _ ⟨⟩)) (AOp.allocP rfl (tok _ rfl) rfl rfl (fun _ => rfl) (fun _ => ⟨(by ((refine AllQ.cons (.does _ _ rfl (.none rfl) (QOp.loadM 8 rfl rfl rfl (tok _ rfl) rfl)) ?_); (refine AllQ.cons (.does _ _ rfl (.none rfl) (QOp.loadM 6 rfl rfl rfl (tok _ rfl) rfl)) ?_); (exact AllQ.nil))), ?_⟩))
        · rintro _ _ ⟨⟩
          refine ⟨(by ((exact AllQ.nil))), ?_⟩
          refine DAny.qu 7 rfl rfl (by kernel_rfl) rfl (fun _ => .does _ _ rfl (.none rfl) (QOp.move rfl rfl)) ?_
          refine DAny.qu 8 rfl rfl (by kernel_rfl) rfl (fun _ => .does _ _ rfl (.none rfl) (QOp.extract rfl rfl rfl)) ?_
          refine DAny.qu 9 rfl rfl (by kernel_rfl) rfl (fun _ => .does _ _ rfl (.none rfl) (QOp.extract rfl rfl rfl)) ?_
          refine DAny.ef 10 rfl (by kernel_rfl) (.none rfl) rfl rfl (AOp.allocP rfl (tok _ rfl) rfl rfl (fun _ => rfl) (fun _ => ⟨(by ((exact AllQ.nil))), ?_⟩))
          refine DAny.ef0 11 rfl (by kernel_rfl) (.none rfl) rfl rfl (AOp.storeP 9 rfl rfl rfl rfl (tok _ rfl) rfl rfl rfl rfl ⟨(by ((exact AllQ.nil))), ?_⟩)
          refine DAny.ef 12 rfl (by kernel_rfl) (.none rfl) rfl rfl (.q (QOp.assign rfl rfl) ⟨(by ((exact AllQ.nil))), ?_⟩)
          refine DAny.done (by kernel_rfl) ?_
          refine ACode.seq (ACode.region ?_)
          refine ASeq.q rfl rfl (QOp.loadM 9 rfl rfl rfl (tok _ rfl) rfl) ?_
          refine ASeq.op0 rfl rfl (AOp.storeP 6 rfl rfl rfl rfl (tok _ rfl) rfl rfl rfl rfl ?_)
          refine ASeq.nil ?_
          refine ACode.region ?_
          refine ASeq.q rfl rfl (QOp.move rfl rfl) ?_
          refine ASeq.q rfl rfl (QOp.move rfl rfl) ?_
          refine ASeq.split 125 b rfl (fun hb2 => ?_) (fun hb2 => ?_)
          · rw [hb2, Bool.true_and] at hla1
            refine ASeq.gq _ _ rfl rfl rfl rfl (QOp.move rfl rfl) ?_
            refine ASeq.gq _ _ rfl rfl rfl rfl (QOp.cmp rfl rfl rfl rfl) ?_
            refine ASeq.q rfl rfl (QOp.pickT rfl rfl rfl) ?_
            refine ASeq.q rfl rfl (QOp.assign rfl rfl) ?_
            refine ASeq.nil ?_
            refine ACode.region ?_
            refine ASeq.q rfl rfl (QOp.ar64 rfl rfl rfl rfl ⟨by omega, by omega⟩) ?_
            refine ASeq.q rfl rfl (QOp.move rfl rfl) ?_
            refine ASeq.nil ?_
            refine AExit.then_normal ?_
            exact ⟨(k + 1, v.1, v.2 == 1), 9, ⟨hlt, hkv, hla1⟩, by dsimp only; omega, .cons rfl (.cons rfl (.cons rfl (.cons rfl (.cons rfl (.cons rfl (.cons rfl (.cons rfl (.cons rfl .nil)))))))), rfl⟩
          · rw [hb2, Bool.false_and] at hla1
            refine ASeq.gno _ _ rfl rfl rfl rfl rfl ?_
            refine ASeq.gno _ _ rfl rfl rfl rfl rfl ?_
            refine ASeq.q rfl rfl (QOp.pickF rfl rfl rfl) ?_
            refine ASeq.q rfl rfl (QOp.assign rfl rfl) ?_
            refine ASeq.nil ?_
            refine ACode.region ?_
            refine ASeq.q rfl rfl (QOp.ar64 rfl rfl rfl rfl ⟨by omega, by omega⟩) ?_
            refine ASeq.q rfl rfl (QOp.move rfl rfl) ?_
            refine ASeq.nil ?_
            refine AExit.then_normal ?_
            exact ⟨(k + 1, v.1, false), 9, ⟨hlt, hkv, hla1⟩, by dsimp only; omega, .cons rfl (.cons rfl (.cons rfl (.cons rfl (.cons rfl (.cons rfl (.cons rfl (.cons rfl (.cons rfl .nil)))))))), rfl⟩
        · refine DAny.ef 6 rfl (by kernel_rfl) (.none rfl) rfl rfl (AOp.callP 6 rfl (by kernel_rfl) rfl rfl rfl (hval) ?_ (by rintro _ _ ⟨⟩))
          rintro _ _ ⟨⟩
          refine ⟨(by ((exact AllQ.nil))), ?_⟩
          refine DAny.qu 7 rfl rfl (by kernel_rfl) rfl (fun _ => .does _ _ rfl (.none rfl) (QOp.move rfl rfl)) ?_
          refine DAny.qu 8 rfl rfl (by kernel_rfl) rfl (fun _ => .does _ _ rfl (.none rfl) (QOp.extract rfl rfl rfl)) ?_
          refine DAny.qu 9 rfl rfl (by kernel_rfl) rfl (fun _ => .does _ _ rfl (.none rfl) (QOp.extract rfl rfl rfl)) ?_
          refine DAny.ef0 11 rfl (by kernel_rfl) (.none rfl) rfl rfl (AOp.storeP 9 rfl rfl rfl rfl (tok _ rfl) rfl rfl rfl rfl ⟨(by ((exact AllQ.nil))), ?_⟩)
          refine DAny.ef 12 rfl (by kernel_rfl) (.none rfl) rfl rfl (.q (QOp.assign rfl rfl) ⟨(by ((exact AllQ.nil))), ?_⟩)
          refine DAny.done (by kernel_rfl) ?_
          refine ACode.seq (ACode.region ?_)
          refine ASeq.q rfl rfl (QOp.loadM 9 rfl rfl rfl (tok _ rfl) rfl) ?_
          refine ASeq.op0 rfl rfl (AOp.storeP 6 rfl rfl rfl rfl (tok _ rfl) rfl rfl rfl rfl ?_)
          refine ASeq.nil ?_
          refine ACode.region ?_
          refine ASeq.q rfl rfl (QOp.move rfl rfl) ?_
          refine ASeq.q rfl rfl (QOp.move rfl rfl) ?_
          refine ASeq.split 125 b rfl (fun hb2 => ?_) (fun hb2 => ?_)
          · rw [hb2, Bool.true_and] at hla1
            refine ASeq.gq _ _ rfl rfl rfl rfl (QOp.move rfl rfl) ?_
            refine ASeq.gq _ _ rfl rfl rfl rfl (QOp.cmp rfl rfl rfl rfl) ?_
            refine ASeq.q rfl rfl (QOp.pickT rfl rfl rfl) ?_
            refine ASeq.q rfl rfl (QOp.assign rfl rfl) ?_
            refine ASeq.nil ?_
            refine ACode.region ?_
            refine ASeq.q rfl rfl (QOp.ar64 rfl rfl rfl rfl ⟨by omega, by omega⟩) ?_
            refine ASeq.q rfl rfl (QOp.move rfl rfl) ?_
            refine ASeq.nil ?_
            refine AExit.then_normal ?_
            exact ⟨(k + 1, v.1, v.2 == 1), 9, ⟨hlt, hkv, hla1⟩, by dsimp only; omega, .cons rfl (.cons rfl (.cons rfl (.cons rfl (.cons rfl (.cons rfl (.cons rfl (.cons rfl (.cons rfl .nil)))))))), rfl⟩
          · rw [hb2, Bool.false_and] at hla1
            refine ASeq.gno _ _ rfl rfl rfl rfl rfl ?_
            refine ASeq.gno _ _ rfl rfl rfl rfl rfl ?_
            refine ASeq.q rfl rfl (QOp.pickF rfl rfl rfl) ?_
            refine ASeq.q rfl rfl (QOp.assign rfl rfl) ?_
            refine ASeq.nil ?_
            refine ACode.region ?_
            refine ASeq.q rfl rfl (QOp.ar64 rfl rfl rfl rfl ⟨by omega, by omega⟩) ?_
            refine ASeq.q rfl rfl (QOp.move rfl rfl) ?_
            refine ASeq.nil ?_
            refine AExit.then_normal ?_
            exact ⟨(k + 1, v.1, false), 9, ⟨hlt, hkv, hla1⟩, by dsimp only; omega, .cons rfl (.cons rfl (.cons rfl (.cons rfl (.cons rfl (.cons rfl (.cons rfl (.cons rfl (.cons rfl .nil)))))))), rfl⟩
      have hge : k = e.list.length := by have := of_decide_eq_false hb; rw [hil] at this; omega
      rw [hge, List.drop_length] at hla1
      simp only [argsOf] at hla1
      subst hla1
      have ok1 := hkc.ok h
      have ht1 := hkc.t
      have hbig1 : c1.t.funcs.length ≤ 1048576 := by rw [ht1]; exact hbig.2.2
      have hfl : (c1.t.funcs.map Fu.cells).length = c1.t.funcs.length := List.length_map ..
      have hfr := findF_range e.name c.t.funcs 0 (-1) (by omega)
      generalize hff : findF e.name c.t.funcs 0 (-1) = ff at hr2 hfr
      rw [← ht1] at hff hfr
      have hfub : (c1.fu ff) = c.fu ff := by unfold CS.fu; rw [ht1]
      refine ACode.exit (ACode.seq (ACode.region ?_))
      refine ASeq.q rfl rfl (QOp.assign rfl rfl) ?_
      refine ASeq.nil ?_
      refine ACode.seq (ACode.seq (ACode.region ?_))
      refine ASeq.q rfl rfl (QOp.fieldM rfl rfl (tok _ rfl) rfl rfl (by decide) rfl) ?_
      refine ASeq.q rfl rfl (QOp.fieldM rfl rfl (tok _ rfl) rfl rfl (by decide) rfl) ?_
      refine ASeq.q rfl rfl (QOp.loadM 6 rfl rfl rfl (tok _ rfl) rfl) ?_
      refine ASeq.q rfl rfl (QOp.lenI rfl rfl (tok _ rfl) rfl) ?_
      refine ASeq.q rfl rfl (QOp.move rfl rfl) ?_
      refine ASeq.nil ?_
      refine ACode.block ?_
      refine ACode.loopP (fun (x : Nat × Int) => [(1, vi i), (2, .mp m2 0), (4, .mp m4 0), (6, .mp m6 0), (7, vi 2), (8, vi e.fr), (15, .v (.bool b)), (19, vi x.2), (133, vi ((c1.t.funcs.map Fu.cells).length : Int)), (134, vi x.1)])
        (fun x => c1.items m τ ++ [.mu m2 (c1.cells m), .mu m4 (List.map AV.v (TT 79).zero), .mu m6 e.cells]) (fun x => c1.t.funcs.length - x.1)
        (fun x => x.1 ≤ c1.t.funcs.length ∧ findF e.name (c1.t.funcs.drop x.1) x.1 x.2 = ff) (0, -1) ⟨Nat.zero_le _, hff⟩
        (.cons rfl (.cons rfl (.cons rfl (.cons rfl (.cons rfl (.cons rfl (.cons rfl (.cons rfl (.cons rfl (.cons rfl .nil)))))))))) 9 rfl ?_
      rintro ⟨k2, f2⟩ ⟨hk2, hff2⟩
      dsimp only at hk2 hff2
      refine ACode.seq (ACode.region ?_)
      refine ASeq.q rfl rfl (QOp.cmp rfl rfl rfl rfl) ?_
      refine ASeq.nil ?_
      refine ACode.seq ?_
      refine ACode.cond _ rfl (fun hb => ?_) (fun hb => ?_)
      · have hlt : k2 < c1.t.funcs.length := by have := of_decide_eq_true hb; rw [hfl] at this; omega
        have hget := fu_get hlt
        rw [List.drop_eq_getElem_cons hlt] at hff2
        simp only [findF] at hff2
        refine ACode.skip (ACode.seq (ACode.block (ACode.seq (ACode.region ?_))))
        refine ASeq.q rfl rfl (QOp.move rfl rfl) ?_
        refine ASeq.q rfl rfl (QOp.assign rfl rfl) ?_
        refine ASeq.nil ?_
        refine ACode.seq ?_
        refine ACode.drawn [[], [0], [0, 1], [], [0, 1, 2, 3], [0, 1, 2, 3, 4], [0, 1, 2, 3, 4, 5], [], [7], [0, 1, 2, 3, 4, 5, 6, 7, 8], [0, 1, 2, 3, 4, 5, 6, 7, 8, 9], [0, 1, 2, 3, 4, 5, 6, 7, 8, 9, 10], [0, 1, 2, 3, 4, 5, 6, 7, 8, 9, 10, 11], [0, 1, 2, 3, 4, 5, 6, 7, 8, 9, 10, 11, 12]] (by kernel_rfl) mixed ?_
        refine DAny.qu 0 rfl rfl (by kernel_rfl) rfl (fun _ => .does _ _ rfl (.none rfl) (QOp.fieldM rfl rfl (tok _ rfl) rfl rfl (by decide) rfl)) ?_
        refine DAny.qu 1 rfl rfl (by kernel_rfl) rfl (fun _ => .does _ _ rfl (.none rfl) (QOp.fieldM rfl rfl (tok _ rfl) rfl rfl (by decide) rfl)) ?_
        refine DAny.ld 2 rfl rfl (by kernel_rfl) rfl (.does _ _ rfl (.none rfl) (QOp.loadM 6 rfl rfl rfl (tok _ rfl) rfl)) ?_
        refine DAny.qu 3 rfl rfl (by kernel_rfl) rfl (fun _ => .does _ _ rfl (.none rfl) (QOp.move rfl rfl)) ?_
        refine DAny.qu 4 rfl rfl (by kernel_rfl) rfl (fun _ => .does _ _ rfl (.none rfl) (QOp.indexI rfl rfl rfl (tok _ rfl) rfl (tok _ rfl) (by omega) (by assumption))) ?_
        refine DAny.qu 5 rfl rfl (by kernel_rfl) rfl (fun _ => .does _ _ rfl (.none rfl) (QOp.fieldI rfl rfl (tok _ rfl) rfl rfl (by decide) rfl)) ?_
        refine DAny.qu 6 rfl rfl (by kernel_rfl) rfl (fun _ => .does _ _ rfl (.none rfl) (QOp.loadI rfl rfl (tok _ rfl) rfl)) ?_
        refine DAny.qu 7 rfl rfl (by kernel_rfl) rfl (fun _ => .does _ _ rfl (.none rfl) (QOp.fieldM rfl rfl (tok _ rfl) rfl rfl (by decide) rfl)) ?_
        refine DAny.ld 8 rfl rfl (by kernel_rfl) rfl (.does _ _ rfl (.none rfl) (QOp.loadM 8 rfl rfl rfl (tok _ rfl) rfl)) ?_
        refine DAny.qu 9 rfl rfl (by kernel_rfl) rfl (fun _ => .does _ _ rfl (.none rfl) (QOp.cmpStr rfl rfl rfl rfl)) ?_
        refine DAny.qu 10 rfl rfl (by kernel_rfl) rfl (fun _ => .does _ _ rfl (.none rfl) (QOp.move rfl rfl)) ?_
        -- STOP at 11 (listed 0,1,2,3,4,5,6,7,8,9,10)
        refine DAny.split 147 (c1.t.funcs[k2].name.data.toList == e.name.data.toList) rfl (fun hb2 => ?_) (fun hb2 => ?_)
        · refine DAny.qu 11 rfl rfl (by kernel_rfl) rfl (fun _ => .does _ _ rfl (by exact .yes _ _ _ rfl rfl rfl) (QOp.move rfl rfl)) ?_
          refine DAny.qu 12 rfl rfl (by kernel_rfl) rfl (fun _ => .does _ _ rfl (by exact .yes _ _ _ rfl rfl rfl) (QOp.cmp rfl rfl rfl rfl)) ?_
          refine DAny.qu 13 rfl rfl (by kernel_rfl) rfl (fun _ => .does _ _ rfl (.none rfl) (QOp.pickT rfl rfl rfl)) ?_
          refine DAny.done (by kernel_rfl) ?_
          rw [hb2, Bool.true_and] at hff2
          refine AExit.then_normal ?_
          refine ACode.cond _ rfl (fun hb3 => ?_) (fun hb3 => ?_)
          · rw [if_pos hb3] at hff2
            refine ACode.region ?_
            refine ASeq.q rfl rfl (QOp.move rfl rfl) ?_
            refine ASeq.q rfl rfl (QOp.assign rfl rfl) ?_
            refine ASeq.nil ?_
            refine ACode.region ?_
            refine ASeq.q rfl rfl (QOp.ar64 rfl rfl rfl rfl ⟨by omega, by omega⟩) ?_
            refine ASeq.q rfl rfl (QOp.move rfl rfl) ?_
            refine ASeq.nil ?_
            refine AExit.then_normal ?_
            exact ⟨(k2 + 1, _), 9, ⟨hlt, hff2⟩, by dsimp only; omega, .cons rfl (.cons rfl (.cons rfl (.cons rfl (.cons rfl (.cons rfl (.cons rfl (.cons rfl (.cons rfl (.cons rfl .nil))))))))), rfl⟩
          · rw [if_neg (by rw [hb3]; decide)] at hff2
            refine ACode.skip (ACode.region ?_)
            refine ASeq.q rfl rfl (QOp.ar64 rfl rfl rfl rfl ⟨by omega, by omega⟩) ?_
            refine ASeq.q rfl rfl (QOp.move rfl rfl) ?_
            refine ASeq.nil ?_
            refine AExit.then_normal ?_
            exact ⟨(k2 + 1, _), 9, ⟨hlt, hff2⟩, by dsimp only; omega, .cons rfl (.cons rfl (.cons rfl (.cons rfl (.cons rfl (.cons rfl (.cons rfl (.cons rfl (.cons rfl (.cons rfl .nil))))))))), rfl⟩
        · refine DAny.qu 11 rfl rfl (by kernel_rfl) rfl (fun _ => .passed _ rfl (.no _ _ _ rfl rfl rfl rfl)) ?_
          refine DAny.qu 12 rfl rfl (by kernel_rfl) rfl (fun _ => .passed _ rfl (.no _ _ _ rfl rfl rfl rfl)) ?_
          refine DAny.qu 13 rfl rfl (by kernel_rfl) rfl (fun _ => .does _ _ rfl (.none rfl) (QOp.pickF rfl rfl rfl)) ?_
          refine DAny.done (by kernel_rfl) ?_
          rw [hb2, Bool.false_and, if_neg (by decide)] at hff2
          refine AExit.then_normal ?_
          refine ACode.cond _ rfl (fun hb3 => by cases hb3) (fun hb3 => ?_)
          refine ACode.skip (ACode.region ?_)
          refine ASeq.q rfl rfl (QOp.ar64 rfl rfl rfl rfl ⟨by omega, by omega⟩) ?_
          refine ASeq.q rfl rfl (QOp.move rfl rfl) ?_
          refine ASeq.nil ?_
          refine AExit.then_normal ?_
          exact ⟨(k2 + 1, _), 9, ⟨hlt, hff2⟩, by dsimp only; omega, .cons rfl (.cons rfl (.cons rfl (.cons rfl (.cons rfl (.cons rfl (.cons rfl (.cons rfl (.cons rfl (.cons rfl .nil))))))))), rfl⟩
      have hge2 : k2 = c1.t.funcs.length := by have := of_decide_eq_false hb; rw [hfl] at this; omega
      rw [hge2, List.drop_length] at hff2
      simp only [findF] at hff2
      subst hff2
      refine ACode.exit (ACode.seq (ACode.region ?_))
      refine ASeq.q rfl rfl (QOp.loadM 6 rfl rfl rfl (tok _ rfl) rfl) ?_
      refine ASeq.q rfl rfl (QOp.move rfl rfl) ?_
      refine ASeq.q rfl rfl (QOp.cmp rfl rfl rfl rfl) ?_
      refine ASeq.q rfl rfl (QOp.move rfl rfl) ?_
      refine ASeq.op rfl rfl (AOp.callP 0 rfl (by kernel_rfl) rfl rfl rfl (need_ok c1 m (decide (f2 ≥ 0)) e.fr 6) ?_ (by rintro _ _ ⟨⟩))
      rintro _ _ ⟨⟩
      refine ASeq.op0 rfl rfl (AOp.storeP 6 rfl rfl rfl rfl (tok _ rfl) rfl rfl rfl rfl ?_)
      refine ASeq.nil ?_
      refine ACode.seq (ACode.region ?_)
      refine ASeq.q rfl rfl (QOp.fieldM rfl rfl (tok _ rfl) rfl rfl (by decide) rfl) ?_
      refine ASeq.q rfl rfl (QOp.loadM 6 rfl rfl rfl (tok _ rfl) rfl) ?_
      refine ASeq.q rfl rfl (QOp.cmp rfl rfl rfl rfl) ?_
      refine ASeq.nil ?_
      refine AExit.then_normal ?_
      refine ACode.cond _ rfl (fun hb => ?_) (fun hb => ?_)
      · have hcode : (c1.need (decide (f2 ≥ 0)) e.fr 6).code = 0 := eq_of_beq hb
        have hdec := ((need_code c1 (decide (f2 ≥ 0)) e.fr 6 (by decide)).1 hcode).2
        have hf2 : 0 ≤ f2 := of_decide_eq_true hdec
        have hf2l : f2 < c1.t.funcs.length := by omega
        have hsame : c1.need (decide (f2 ≥ 0)) e.fr 6 = c1 := by rw [hdec, need_same]
        have hrowf : (c1.t.funcs.map Fu.cells)[f2.toNat]? = some (c1.fu f2).cells := by
          have : f2.toNat < c1.t.funcs.length := by omega
          rw [fu_get this]
          simp only [CS.fu, List.getD_eq_getElem?_getD, List.getElem?_eq_getElem this, Option.getD_some]
        have hsl1 := hkc.ls
        rw [if_pos hcode, hsame, ← hfub] at hr2
        rw [← hil, ← strs_len] at hr2
        rw [hsame]
        have hpl : (strs (c1.fu f2).params).length = (c1.fu f2).params.length := strs_len _
        have hxs : ∀ ok, (c1.need ok e.fr 8).slot.length = c1.slot.length := fun ok => by rw [need_slot]
        have hx1 := hxs (((ints e.list).length : Int) == ((strs (c1.fu f2).params).length : Int))
        have hx2 := hxs false
        refine ACode.seq ?_
        refine ACode.drawn [[], [], [1], [1, 2], [1, 2, 3], [1, 2, 3, 4], [1, 2], [1, 2, 6], [1, 2, 6, 7], [1, 2], [1, 2, 6, 7, 8, 9], [1, 2, 6, 7, 8, 9, 10], [1, 2, 6, 7, 8, 9, 10, 11], [1, 2, 6, 7, 8, 9, 10, 11, 12], [1, 2, 3, 4, 5, 6, 7, 8, 9, 10, 11, 12, 13], [1, 2, 3, 4, 5, 6, 7, 8, 9, 10, 11, 12, 13, 14], [], [0, 1, 2, 3, 4, 5, 6, 7, 8, 9, 10, 11, 12, 13, 14, 15, 16], [0, 1, 2, 3, 4, 5, 6, 7, 8, 9, 10, 11, 12, 13, 14, 15, 16, 17]] (by kernel_rfl) mixed ?_
        refine DAny.ld 0 rfl rfl (by kernel_rfl) rfl (.does _ _ rfl (.none rfl) (QOp.loadM 6 rfl rfl rfl (tok _ rfl) rfl)) ?_
        refine DAny.qu 1 rfl rfl (by kernel_rfl) rfl (fun _ => .does _ _ rfl (.none rfl) (QOp.move rfl rfl)) ?_
        refine DAny.qu 2 rfl rfl (by kernel_rfl) rfl (fun _ => .does _ _ rfl (.none rfl) (QOp.move rfl rfl)) ?_
        refine DAny.qu 16 rfl rfl (by kernel_rfl) rfl (fun _ => .does _ _ rfl (.none rfl) (QOp.move rfl rfl)) ?_
        -- STOP at 3 (listed 0,1,2,16)
        refine DAny.split 163 b rfl (fun hb2 => ?_) (fun hb2 => ?_)
        · rw [hb2, Bool.true_and] at hr2
          refine DAny.qu 3 rfl rfl (by kernel_rfl) rfl (fun _ => .does _ _ rfl (by exact .yes _ _ _ rfl rfl rfl) (QOp.fieldM rfl rfl (tok _ rfl) rfl rfl (by decide) rfl)) ?_
          refine DAny.ld 4 rfl rfl (by kernel_rfl) rfl (.does _ _ rfl (by exact .yes _ _ _ rfl rfl rfl) (QOp.loadM 8 rfl rfl rfl (tok _ rfl) rfl)) ?_
          refine DAny.qu 5 rfl rfl (by kernel_rfl) rfl (fun _ => .does _ _ rfl (by exact .yes _ _ _ rfl rfl rfl) (QOp.lenI rfl rfl (tok _ rfl) rfl)) ?_
          refine DAny.qu 6 rfl rfl (by kernel_rfl) rfl (fun _ => .does _ _ rfl (by exact .yes _ _ _ rfl rfl rfl) (QOp.fieldM rfl rfl (tok _ rfl) rfl rfl (by decide) rfl)) ?_
          refine DAny.qu 7 rfl rfl (by kernel_rfl) rfl (fun _ => .does _ _ rfl (by exact .yes _ _ _ rfl rfl rfl) (QOp.fieldM rfl rfl (tok _ rfl) rfl rfl (by decide) rfl)) ?_
          refine DAny.ld 8 rfl rfl (by kernel_rfl) rfl (.does _ _ rfl (by exact .yes _ _ _ rfl rfl rfl) (QOp.loadM 6 rfl rfl rfl (tok _ rfl) rfl)) ?_
          refine DAny.qu 9 rfl rfl (by kernel_rfl) rfl (fun _ => .does _ _ rfl (by exact .yes _ _ _ rfl rfl rfl) (QOp.move rfl rfl)) ?_
          refine DAny.qu 10 rfl rfl (by kernel_rfl) rfl (fun _ => .does _ _ rfl (by exact .yes _ _ _ rfl rfl rfl) (QOp.indexI rfl rfl rfl (tok _ rfl) rfl (tok _ rfl) (by omega) (by assumption))) ?_
          refine DAny.qu 11 rfl rfl (by kernel_rfl) rfl (fun _ => .does _ _ rfl (by exact .yes _ _ _ rfl rfl rfl) (QOp.fieldI rfl rfl (tok _ rfl) rfl rfl (by decide) rfl)) ?_
          refine DAny.qu 12 rfl rfl (by kernel_rfl) rfl (fun _ => .does _ _ rfl (by exact .yes _ _ _ rfl rfl rfl) (QOp.loadI rfl rfl (tok _ rfl) rfl)) ?_
          refine DAny.qu 13 rfl rfl (by kernel_rfl) rfl (fun _ => .does _ _ rfl (by exact .yes _ _ _ rfl rfl rfl) (QOp.lenI rfl rfl (tok _ rfl) rfl)) ?_
          refine DAny.qu 14 rfl rfl (by kernel_rfl) rfl (fun _ => .does _ _ rfl (by exact .yes _ _ _ rfl rfl rfl) (QOp.cmp rfl rfl rfl rfl)) ?_
          refine DAny.qu 15 rfl rfl (by kernel_rfl) rfl (fun _ => .does _ _ rfl (.none rfl) (QOp.pickT rfl rfl rfl)) ?_
          refine DAny.ef 17 rfl (by kernel_rfl) (.none rfl) rfl rfl (AOp.callP 0 rfl (by kernel_rfl) rfl rfl rfl (need_ok c1 m _ e.fr 8) ?_ (by rintro _ _ ⟨⟩))
          rintro _ _ ⟨⟩
          refine ⟨(by ((exact AllQ.nil))), ?_⟩
          refine DAny.ef0 18 rfl (by kernel_rfl) (.none rfl) rfl rfl (AOp.storeP 6 rfl rfl rfl rfl (tok _ rfl) rfl rfl rfl rfl ⟨(by ((exact AllQ.nil))), ?_⟩)
          refine DAny.done (by kernel_rfl) ?_
          refine ACode.seq (ACode.region ?_)
          refine ASeq.q rfl rfl (QOp.fieldM rfl rfl (tok _ rfl) rfl rfl (by decide) rfl) ?_
          refine ASeq.q rfl rfl (QOp.fieldM rfl rfl (tok _ rfl) rfl rfl (by decide) rfl) ?_
          refine ASeq.q rfl rfl (QOp.loadM 6 rfl rfl rfl (tok _ rfl) rfl) ?_
          refine ASeq.q rfl rfl (QOp.move rfl rfl) ?_
          refine ASeq.q rfl rfl (QOp.indexI rfl rfl rfl (tok _ rfl) rfl (tok _ rfl) (by omega) (by rw [need_t]; exact hrowf)) ?_
          refine ASeq.q rfl rfl (QOp.fieldI rfl rfl (tok _ rfl) rfl rfl (by decide) rfl) ?_
          refine ASeq.q rfl rfl (QOp.loadI rfl rfl (tok _ rfl) rfl) ?_
          refine ASeq.q rfl rfl (QOp.assign rfl rfl) ?_
          refine ASeq.nil ?_
          refine ACode.region ?_
          refine ASeq.q rfl rfl (QOp.fieldM rfl rfl (tok _ rfl) rfl rfl (by decide) rfl) ?_
          refine ASeq.q rfl rfl (QOp.fieldM rfl rfl (tok _ rfl) rfl rfl (by decide) rfl) ?_
          refine ASeq.q rfl rfl (QOp.loadM 6 rfl rfl rfl (tok _ rfl) rfl) ?_
          refine ASeq.q rfl rfl (QOp.move rfl rfl) ?_
          refine ASeq.q rfl rfl (QOp.move rfl rfl) ?_
          refine ASeq.q rfl rfl (QOp.indexM rfl rfl rfl (tok _ rfl) rfl (tok _ rfl) (by omega) (by omega) rfl) ?_
          refine ASeq.op0 rfl rfl (storeInt 1 (j := i.toNat) (l := c1.slot) rfl rfl rfl rfl (tok _ rfl) rfl (by show 0 + _ * 1 = _; omega) (by omega) rfl ?_)
          refine ASeq.nil ?_
          subst hr2
          refine rest.atP 8 ?_ ?_
          · exact .cons rfl (.cons rfl (.cons rfl (.cons rfl .nil)))
          · simp only [cells_setSlot]
            simp only [CS.items, CS.cells, CS.slotCells, CS.setSlot, CS.slotOf, need_type, need_slot, need_put, need_func, need_slots, need_f]
            rfl
        · rw [hb2, Bool.false_and] at hr2
          refine DAny.qu 3 rfl rfl (by kernel_rfl) rfl (fun _ => .passed _ rfl (.no _ _ _ rfl rfl rfl rfl)) ?_
          refine DAny.qu 4 rfl rfl (by kernel_rfl) rfl (fun _ => .passed _ rfl (.no _ _ _ rfl rfl rfl rfl)) ?_
          refine DAny.qu 5 rfl rfl (by kernel_rfl) rfl (fun _ => .passed _ rfl (.no _ _ _ rfl rfl rfl rfl)) ?_
          refine DAny.qu 6 rfl rfl (by kernel_rfl) rfl (fun _ => .passed _ rfl (.no _ _ _ rfl rfl rfl rfl)) ?_
          refine DAny.qu 7 rfl rfl (by kernel_rfl) rfl (fun _ => .passed _ rfl (.no _ _ _ rfl rfl rfl rfl)) ?_
          refine DAny.qu 8 rfl rfl (by kernel_rfl) rfl (fun _ => .passed _ rfl (.no _ _ _ rfl rfl rfl rfl)) ?_
          refine DAny.qu 9 rfl rfl (by kernel_rfl) rfl (fun _ => .passed _ rfl (.no _ _ _ rfl rfl rfl rfl)) ?_
          refine DAny.qu 10 rfl rfl (by kernel_rfl) rfl (fun _ => .passed _ rfl (.no _ _ _ rfl rfl rfl rfl)) ?_
          refine DAny.qu 11 rfl rfl (by kernel_rfl) rfl (fun _ => .passed _ rfl (.no _ _ _ rfl rfl rfl rfl)) ?_
          refine DAny.qu 12 rfl rfl (by kernel_rfl) rfl (fun _ => .passed _ rfl (.no _ _ _ rfl rfl rfl rfl)) ?_
          refine DAny.qu 13 rfl rfl (by kernel_rfl) rfl (fun _ => .passed _ rfl (.no _ _ _ rfl rfl rfl rfl)) ?_
          refine DAny.qu 14 rfl rfl (by kernel_rfl) rfl (fun _ => .passed _ rfl (.no _ _ _ rfl rfl rfl rfl)) ?_
          refine DAny.qu 15 rfl rfl (by kernel_rfl) rfl (fun _ => .does _ _ rfl (.none rfl) (QOp.pickF rfl rfl rfl)) ?_
          refine DAny.ef 17 rfl (by kernel_rfl) (.none rfl) rfl rfl (AOp.callP 0 rfl (by kernel_rfl) rfl rfl rfl (need_ok c1 m _ e.fr 8) ?_ (by rintro _ _ ⟨⟩))
          rintro _ _ ⟨⟩
          refine ⟨(by ((exact AllQ.nil))), ?_⟩
          refine DAny.ef0 18 rfl (by kernel_rfl) (.none rfl) rfl rfl (AOp.storeP 6 rfl rfl rfl rfl (tok _ rfl) rfl rfl rfl rfl ⟨(by ((exact AllQ.nil))), ?_⟩)
          refine DAny.done (by kernel_rfl) ?_
          refine ACode.seq (ACode.region ?_)
          refine ASeq.q rfl rfl (QOp.fieldM rfl rfl (tok _ rfl) rfl rfl (by decide) rfl) ?_
          refine ASeq.q rfl rfl (QOp.fieldM rfl rfl (tok _ rfl) rfl rfl (by decide) rfl) ?_
          refine ASeq.q rfl rfl (QOp.loadM 6 rfl rfl rfl (tok _ rfl) rfl) ?_
          refine ASeq.q rfl rfl (QOp.move rfl rfl) ?_
          refine ASeq.q rfl rfl (QOp.indexI rfl rfl rfl (tok _ rfl) rfl (tok _ rfl) (by omega) (by rw [need_t]; exact hrowf)) ?_
          refine ASeq.q rfl rfl (QOp.fieldI rfl rfl (tok _ rfl) rfl rfl (by decide) rfl) ?_
          refine ASeq.q rfl rfl (QOp.loadI rfl rfl (tok _ rfl) rfl) ?_
          refine ASeq.q rfl rfl (QOp.assign rfl rfl) ?_
          refine ASeq.nil ?_
          refine ACode.region ?_
          refine ASeq.q rfl rfl (QOp.fieldM rfl rfl (tok _ rfl) rfl rfl (by decide) rfl) ?_
          refine ASeq.q rfl rfl (QOp.fieldM rfl rfl (tok _ rfl) rfl rfl (by decide) rfl) ?_
          refine ASeq.q rfl rfl (QOp.loadM 6 rfl rfl rfl (tok _ rfl) rfl) ?_
          refine ASeq.q rfl rfl (QOp.move rfl rfl) ?_
          refine ASeq.q rfl rfl (QOp.move rfl rfl) ?_
          refine ASeq.q rfl rfl (QOp.indexM rfl rfl rfl (tok _ rfl) rfl (tok _ rfl) (by omega) (by omega) rfl) ?_
          refine ASeq.op0 rfl rfl (storeInt 1 (j := i.toNat) (l := c1.slot) rfl rfl rfl rfl (tok _ rfl) rfl (by show 0 + _ * 1 = _; omega) (by omega) rfl ?_)
          refine ASeq.nil ?_
          subst hr2
          refine rest.atP 8 ?_ ?_
          · exact .cons rfl (.cons rfl (.cons rfl (.cons rfl .nil)))
          · simp only [cells_setSlot]
            simp only [CS.items, CS.cells, CS.slotCells, CS.setSlot, CS.slotOf, need_type, need_slot, need_put, need_func, need_slots, need_f]
            rfl
      · have hcode : ¬ (c1.need (decide (f2 ≥ 0)) e.fr 6).code = 0 := ne_of_beq_false hb
        rw [if_neg hcode] at hr2
        refine ACode.skip ?_
        subst hr2
        refine rest.atP 8 ?_ ?_
        · exact .cons rfl (.cons rfl (.cons rfl (.cons rfl .nil)))
        · simp only [cells_setSlot]
          simp only [CS.items, CS.cells, CS.slotCells, CS.setSlot, CS.slotOf, need_type, need_slot, need_put, need_func, need_slots, need_f]
          rfl
    have hk6 : ¬ e.kind = 6 := ne_of_beq_false hb
    refine ACode.seq (ACode.region ?_)
    refine ASeq.q rfl rfl (QOp.cmp rfl rfl rfl rfl) ?_
    refine ASeq.q rfl rfl (QOp.assign rfl rfl) ?_
    refine ASeq.nil ?_
    refine AExit.then_normal ?_
    refine ACode.cond _ rfl (fun hb => ?_) (fun hb => ?_)
    · have hk8 : e.kind = 8 := eq_of_beq hb
      have ha := hwf.1 (.inr (.inl hk8))
      have hr2 := hr.symm
      unfold kindCase at hr2
      rw [if_neg hk17, if_neg hk4, if_neg hk5, if_neg hk6, if_pos hk8] at hr2
      refine ACode.seq (ACode.region ?_)
      refine ASeq.q rfl rfl (QOp.loadM 6 rfl rfl rfl (tok _ rfl) rfl) ?_
      refine ASeq.q rfl rfl (QOp.fieldM rfl rfl (tok _ rfl) rfl rfl (by decide) rfl) ?_
      refine ASeq.q rfl rfl (QOp.loadM 8 rfl rfl rfl (tok _ rfl) rfl) ?_
      refine ASeq.op rfl rfl (AOp.callP 6 rfl (by kernel_rfl) rfl rfl rfl (value_walk hE c m e.a τ h hw ha.1 (by omega) (by omega)) ?_ (by rintro _ _ ⟨⟩))
      rintro _ _ ⟨⟩
      refine ASeq.q rfl rfl (QOp.move rfl rfl) ?_
      refine ASeq.q rfl rfl (QOp.extract rfl rfl rfl) ?_
      refine ASeq.q rfl rfl (QOp.extract rfl rfl rfl) ?_
      refine ASeq.op rfl rfl (AOp.allocP rfl (tok _ rfl) rfl rfl (fun _ => rfl) (fun _ => ?_))
      refine ASeq.op0 rfl rfl (AOp.storeP 9 rfl rfl rfl rfl (tok _ rfl) rfl rfl rfl rfl ?_)
      refine ASeq.q rfl rfl (QOp.assign rfl rfl) ?_
      refine ASeq.nil ?_
      generalize valOf (expr6 n c e.a) e.a = v at hr2
      refine ACode.seq (ACode.region ?_)
      refine ASeq.cut 8 [(1, vi i), (2, .mp m2 0), (4, .mp m4 0), (6, .mp m6 0), (8, vi e.fr), (22, vi v.2), (201, .agg (v.1.cells m)), (208, .v (.bool ((e.op.data.toList == [45]) && (v.2 == 1))))] (fun meet => ?_) ?_
      · refine ASeq.q rfl rfl (QOp.loadM 9 rfl rfl rfl (tok _ rfl) rfl) ?_
        refine ASeq.q rfl rfl (QOp.fieldM rfl rfl (tok _ rfl) rfl rfl (by decide) rfl) ?_
        refine ASeq.q rfl rfl (QOp.loadM 8 rfl rfl rfl (tok _ rfl) rfl) ?_
        refine ASeq.q rfl rfl (QOp.cmpStr rfl rfl rfl rfl) ?_
        refine ASeq.q rfl rfl (QOp.move rfl rfl) ?_
        refine ASeq.split 205 (e.op.data.toList == [45]) rfl (fun hb => ?_) (fun hb => ?_)
        · refine ASeq.gq _ _ rfl rfl rfl rfl (QOp.move rfl rfl) ?_
          refine ASeq.gq _ _ rfl rfl rfl rfl (QOp.cmp rfl rfl rfl rfl) ?_
          refine ASeq.q rfl rfl (QOp.pickT rfl rfl rfl) ?_
          exact meet.at_ (.cons rfl (.cons rfl (.cons rfl (.cons rfl (.cons rfl (.cons rfl (.cons rfl (.consB (b := v.2 == 1) rfl (by rw [hb]; rfl) .nil))))))))
        · refine ASeq.gno _ _ rfl rfl rfl rfl rfl ?_
          refine ASeq.gno _ _ rfl rfl rfl rfl rfl ?_
          refine ASeq.q rfl rfl (QOp.pickF rfl rfl rfl) ?_
          exact meet.at_ (.cons rfl (.cons rfl (.cons rfl (.cons rfl (.cons rfl (.cons rfl (.cons rfl (.consB (b := false) rfl (by rw [hb]; rfl) .nil))))))))
      refine ASeq.cut 9 [(1, vi i), (2, .mp m2 0), (4, .mp m4 0), (6, .mp m6 0), (8, vi e.fr), (22, vi v.2), (201, .agg (v.1.cells m)), (217, .v (.bool (unaryOk e.op v.2)))] (fun meet => ?_) ?_
      · refine ASeq.q rfl rfl (QOp.move rfl rfl) ?_
        refine ASeq.split 209 ((e.op.data.toList == [45]) && (v.2 == 1)) rfl (fun hb => ?_) (fun hb => ?_)
        · refine ASeq.gno _ _ rfl rfl rfl rfl rfl ?_
          refine ASeq.gno _ _ rfl rfl rfl rfl rfl ?_
          refine ASeq.gno _ _ rfl rfl rfl rfl rfl ?_
          refine ASeq.gno _ _ rfl rfl rfl rfl rfl ?_
          refine ASeq.gno _ _ rfl rfl rfl rfl rfl ?_
          refine ASeq.gno _ _ rfl rfl rfl rfl rfl ?_
          refine ASeq.gno _ _ rfl rfl rfl rfl rfl ?_
          refine ASeq.q rfl rfl (QOp.pickT rfl rfl rfl) ?_
          exact meet.at_ (.cons rfl (.cons rfl (.cons rfl (.cons rfl (.cons rfl (.cons rfl (.cons rfl (.consB (b := true) rfl (by unfold unaryOk; rw [hb]; rfl) .nil))))))))
        · refine ASeq.gq _ _ rfl rfl rfl rfl (QOp.fieldM rfl rfl (tok _ rfl) rfl rfl (by decide) rfl) ?_
          refine ASeq.gq _ _ rfl rfl rfl rfl (QOp.loadM 8 rfl rfl rfl (tok _ rfl) rfl) ?_
          refine ASeq.gq _ _ rfl rfl rfl rfl (QOp.cmpStr rfl rfl rfl rfl) ?_
          refine ASeq.gq _ _ rfl rfl rfl rfl (QOp.move rfl rfl) ?_
          refine ASeq.split 213 (e.op.data.toList == [33]) rfl (fun hb2 => ?_) (fun hb2 => ?_)
          · refine ASeq.gq _ _ rfl rfl rfl rfl (QOp.move rfl rfl) ?_
            refine ASeq.gq _ _ rfl rfl rfl rfl (QOp.cmp rfl rfl rfl rfl) ?_
            refine ASeq.gq _ _ rfl rfl rfl rfl (QOp.pickT rfl rfl rfl) ?_
            refine ASeq.q rfl rfl (QOp.pickF rfl rfl rfl) ?_
            exact meet.at_ (.cons rfl (.cons rfl (.cons rfl (.cons rfl (.cons rfl (.cons rfl (.cons rfl (.consB (b := v.2 == 2) rfl (by unfold unaryOk; rw [hb, hb2]; rfl) .nil))))))))
          · refine ASeq.gno _ _ rfl rfl rfl rfl rfl ?_
            refine ASeq.gno _ _ rfl rfl rfl rfl rfl ?_
            refine ASeq.gq _ _ rfl rfl rfl rfl (QOp.pickF rfl rfl rfl) ?_
            refine ASeq.q rfl rfl (QOp.pickF rfl rfl rfl) ?_
            exact meet.at_ (.cons rfl (.cons rfl (.cons rfl (.cons rfl (.cons rfl (.cons rfl (.cons rfl (.consB (b := false) rfl (by unfold unaryOk; rw [hb, hb2]; rfl) .nil))))))))
      refine ASeq.q rfl rfl (QOp.move rfl rfl) ?_
      refine ASeq.op rfl rfl (AOp.callP 0 rfl (by kernel_rfl) rfl rfl rfl (need_ok v.1 m (unaryOk e.op v.2) e.fr 8) ?_ (by rintro _ _ ⟨⟩))
      rintro _ _ ⟨⟩
      refine ASeq.op0 rfl rfl (AOp.storeP 6 rfl rfl rfl rfl (tok _ rfl) rfl rfl rfl rfl ?_)
      refine ASeq.nil ?_
      refine ACode.region ?_
      refine ASeq.q rfl rfl (QOp.move rfl rfl) ?_
      refine ASeq.q rfl rfl (QOp.assign rfl rfl) ?_
      refine ASeq.nil ?_
      subst hr2
      refine rest.atP 8 ?_ ?_
      · exact .cons rfl (.cons rfl (.cons rfl (.cons rfl .nil)))
      · simp only [cells_setSlot]
        simp only [CS.items, CS.cells, CS.slotCells, CS.setSlot, CS.slotOf, need_type, need_slot, need_put, need_func, need_slots, need_f]
        rfl
    have hk8 : ¬ e.kind = 8 := ne_of_beq_false hb
    refine ACode.seq (ACode.region ?_)
    refine ASeq.q rfl rfl (QOp.cmp rfl rfl rfl rfl) ?_
    refine ASeq.q rfl rfl (QOp.assign rfl rfl) ?_
    refine ASeq.nil ?_
    refine AExit.then_normal ?_
    refine ACode.cond _ rfl (fun hb => ?_) (fun hb => ?_)
    · have hk9 : e.kind = 9 := eq_of_beq hb
      have ha := hwf.1 (.inr (.inr hk9))
      have hbb := hwf.2.1 hk9
      have hkv : Kept c (valOf (expr6 n c e.a) e.a).1 := (Kept.expr6 n c e.a).valOf e.a
      have hr2 := hr.symm
      unfold kindCase at hr2
      rw [if_neg hk17, if_neg hk4, if_neg hk5, if_neg hk6, if_neg hk8, if_pos hk9] at hr2
      refine ACode.seq (ACode.region ?_)
      refine ASeq.q rfl rfl (QOp.loadM 6 rfl rfl rfl (tok _ rfl) rfl) ?_
      refine ASeq.q rfl rfl (QOp.fieldM rfl rfl (tok _ rfl) rfl rfl (by decide) rfl) ?_
      refine ASeq.q rfl rfl (QOp.loadM 8 rfl rfl rfl (tok _ rfl) rfl) ?_
      refine ASeq.op rfl rfl (AOp.callP 6 rfl (by kernel_rfl) rfl rfl rfl (value_walk hE c m e.a τ h hw ha.1 (by omega) (by omega)) ?_ (by rintro _ _ ⟨⟩))
      rintro _ _ ⟨⟩
      refine ASeq.q rfl rfl (QOp.move rfl rfl) ?_
      refine ASeq.q rfl rfl (QOp.extract rfl rfl rfl) ?_
      refine ASeq.q rfl rfl (QOp.extract rfl rfl rfl) ?_
      refine ASeq.op rfl rfl (AOp.allocP rfl (tok _ rfl) rfl rfl (fun _ => rfl) (fun _ => ?_))
      refine ASeq.op0 rfl rfl (AOp.storeP 9 rfl rfl rfl rfl (tok _ rfl) rfl rfl rfl rfl ?_)
      refine ASeq.q rfl rfl (QOp.assign rfl rfl) ?_
      refine ASeq.nil ?_
      generalize valOf (expr6 n c e.a) e.a = v at hkv hr2
      have okv := hkv.ok h
      have htv := hkv.t
      have hwv : TreeWf v.1.t := by rw [htv]; exact hw
      have hbv : e.b < v.1.t.exprs.length := by rw [htv]; omega
      refine ACode.seq (ACode.region ?_)
      refine ASeq.q rfl rfl (QOp.loadM 9 rfl rfl rfl (tok _ rfl) rfl) ?_
      refine ASeq.q rfl rfl (QOp.fieldM rfl rfl (tok _ rfl) rfl rfl (by decide) rfl) ?_
      refine ASeq.q rfl rfl (QOp.loadM 8 rfl rfl rfl (tok _ rfl) rfl) ?_
      refine ASeq.op rfl rfl (AOp.callP 6 rfl (by kernel_rfl) rfl rfl rfl (value_walk hE v.1 m e.b τ okv hwv hbb.1 hbv (by omega)) ?_ (by rintro _ _ ⟨⟩))
      rintro _ _ ⟨⟩
      refine ASeq.q rfl rfl (QOp.move rfl rfl) ?_
      refine ASeq.q rfl rfl (QOp.extract rfl rfl rfl) ?_
      refine ASeq.q rfl rfl (QOp.extract rfl rfl rfl) ?_
      refine ASeq.op rfl rfl (AOp.allocP rfl (tok _ rfl) rfl rfl (fun _ => rfl) (fun _ => ?_))
      refine ASeq.op0 rfl rfl (AOp.storeP 10 rfl rfl rfl rfl (tok _ rfl) rfl rfl rfl rfl ?_)
      refine ASeq.q rfl rfl (QOp.assign rfl rfl) ?_
      refine ASeq.nil ?_
      generalize valOf (expr6 n v.1 e.b) e.b = w at hr2
      rename_i m25
      refine ACode.seq (ACode.region ?_)
      refine ASeq.cut 9 [(1, vi i), (2, .mp m2 0), (4, .mp m4 0), (6, .mp m6 0), (7, vi 2), (8, vi e.fr), (24, vi v.2), (25, .mp m25 0), (26, vi w.2), (27, .v (.bool (isLogic e.op)))] (fun meet => ?_) ?_
      · refine ASeq.q rfl rfl (QOp.fieldM rfl rfl (tok _ rfl) rfl rfl (by decide) rfl) ?_
        refine ASeq.q rfl rfl (QOp.loadM 8 rfl rfl rfl (tok _ rfl) rfl) ?_
        refine ASeq.q rfl rfl (QOp.cmpStr rfl rfl rfl rfl) ?_
        refine ASeq.q rfl rfl (QOp.move rfl rfl) ?_
        refine ASeq.split 240 (e.op.data.toList == [38, 38]) rfl (fun hb => ?_) (fun hb => ?_)
        · refine ASeq.gno _ _ rfl rfl rfl rfl rfl ?_
          refine ASeq.gno _ _ rfl rfl rfl rfl rfl ?_
          refine ASeq.gno _ _ rfl rfl rfl rfl rfl ?_
          refine ASeq.q rfl rfl (QOp.pickT rfl rfl rfl) ?_
          refine ASeq.q rfl rfl (QOp.assign rfl rfl) ?_
          exact meet.at_ (.cons rfl (.cons rfl (.cons rfl (.cons rfl (.cons rfl (.cons rfl (.cons rfl (.cons rfl (.cons rfl (.consB (b := true) rfl (by unfold isLogic; rw [hb]; rfl) .nil))))))))))
        · refine ASeq.gq _ _ rfl rfl rfl rfl (QOp.fieldM rfl rfl (tok _ rfl) rfl rfl (by decide) rfl) ?_
          refine ASeq.gq _ _ rfl rfl rfl rfl (QOp.loadM 8 rfl rfl rfl (tok _ rfl) rfl) ?_
          refine ASeq.gq _ _ rfl rfl rfl rfl (QOp.cmpStr rfl rfl rfl rfl) ?_
          refine ASeq.q rfl rfl (QOp.pickF rfl rfl rfl) ?_
          refine ASeq.q rfl rfl (QOp.assign rfl rfl) ?_
          exact meet.at_ (.cons rfl (.cons rfl (.cons rfl (.cons rfl (.cons rfl (.cons rfl (.cons rfl (.cons rfl (.cons rfl (.consB (b := e.op.data.toList == [124, 124]) rfl (by unfold isLogic; rw [hb]; rfl) .nil))))))))))
      refine ASeq.nil ?_
      refine ACode.seq (ACode.region ?_)
      refine ASeq.cut 9 [(1, vi i), (2, .mp m2 0), (4, .mp m4 0), (6, .mp m6 0), (7, vi 2), (8, vi e.fr), (24, vi v.2), (25, .mp m25 0), (26, vi w.2), (27, .v (.bool (isLogic e.op))), (28, .v (.bool (isEven e.op)))] (fun meet => ?_) ?_
      · refine ASeq.q rfl rfl (QOp.fieldM rfl rfl (tok _ rfl) rfl rfl (by decide) rfl) ?_
        refine ASeq.q rfl rfl (QOp.loadM 8 rfl rfl rfl (tok _ rfl) rfl) ?_
        refine ASeq.q rfl rfl (QOp.cmpStr rfl rfl rfl rfl) ?_
        refine ASeq.q rfl rfl (QOp.move rfl rfl) ?_
        refine ASeq.split 248 (e.op.data.toList == [61, 61]) rfl (fun hb => ?_) (fun hb => ?_)
        · refine ASeq.gno _ _ rfl rfl rfl rfl rfl ?_
          refine ASeq.gno _ _ rfl rfl rfl rfl rfl ?_
          refine ASeq.gno _ _ rfl rfl rfl rfl rfl ?_
          refine ASeq.q rfl rfl (QOp.pickT rfl rfl rfl) ?_
          refine ASeq.q rfl rfl (QOp.assign rfl rfl) ?_
          exact meet.at_ (.cons rfl (.cons rfl (.cons rfl (.cons rfl (.cons rfl (.cons rfl (.cons rfl (.cons rfl (.cons rfl (.cons rfl (.consB (b := true) rfl (by unfold isEven; rw [hb]; rfl) .nil)))))))))))
        · refine ASeq.gq _ _ rfl rfl rfl rfl (QOp.fieldM rfl rfl (tok _ rfl) rfl rfl (by decide) rfl) ?_
          refine ASeq.gq _ _ rfl rfl rfl rfl (QOp.loadM 8 rfl rfl rfl (tok _ rfl) rfl) ?_
          refine ASeq.gq _ _ rfl rfl rfl rfl (QOp.cmpStr rfl rfl rfl rfl) ?_
          refine ASeq.q rfl rfl (QOp.pickF rfl rfl rfl) ?_
          refine ASeq.q rfl rfl (QOp.assign rfl rfl) ?_
          exact meet.at_ (.cons rfl (.cons rfl (.cons rfl (.cons rfl (.cons rfl (.cons rfl (.cons rfl (.cons rfl (.cons rfl (.cons rfl (.consB (b := e.op.data.toList == [33, 61]) rfl (by unfold isEven; rw [hb]; rfl) .nil)))))))))))
      refine ASeq.nil ?_
      refine ACode.seq (ACode.region ?_)
      refine ASeq.cut 26 [(1, vi i), (2, .mp m2 0), (4, .mp m4 0), (6, .mp m6 0), (7, vi 2), (8, vi e.fr), (24, vi v.2), (25, .mp m25 0), (26, vi w.2), (27, .v (.bool (isLogic e.op))), (28, .v (.bool (isEven e.op))), (253, .agg (w.1.cells m)), (278, .v (.bool (pairOk e.op v.2 w.2)))] (fun meet => ?_) ?_
      · refine ASeq.q rfl rfl (QOp.loadM 10 rfl rfl rfl (tok _ rfl) rfl) ?_
        refine ASeq.q rfl rfl (QOp.move rfl rfl) ?_
        refine ASeq.q rfl rfl (QOp.move rfl rfl) ?_
        refine ASeq.q rfl rfl (QOp.cmp rfl rfl rfl rfl) ?_
        refine ASeq.q rfl rfl (QOp.move rfl rfl) ?_
        refine ASeq.split 257 (v.2 == w.2) rfl (fun hb => ?_) (fun hb => ?_)
        · refine ASeq.split 28 (isEven e.op) rfl (fun he2 => ?_) (fun he2 => ?_)
          · refine ASeq.gq _ _ rfl rfl rfl rfl (QOp.move rfl rfl) ?_
            refine ASeq.gq _ _ rfl rfl rfl rfl (QOp.move rfl rfl) ?_
            refine ASeq.gno _ _ rfl rfl rfl rfl rfl ?_
            refine ASeq.gno _ _ rfl rfl rfl rfl rfl ?_
            refine ASeq.gno _ _ rfl rfl rfl rfl rfl ?_
            refine ASeq.gno _ _ rfl rfl rfl rfl rfl ?_
            refine ASeq.gno _ _ rfl rfl rfl rfl rfl ?_
            refine ASeq.gq _ _ rfl rfl rfl rfl (QOp.pickT rfl rfl rfl) ?_
            refine ASeq.gq _ _ rfl rfl rfl rfl (QOp.move rfl rfl) ?_
            refine ASeq.gno _ _ rfl rfl rfl rfl rfl ?_
            refine ASeq.gno _ _ rfl rfl rfl rfl rfl ?_
            refine ASeq.gno _ _ rfl rfl rfl rfl rfl ?_
            refine ASeq.gno _ _ rfl rfl rfl rfl rfl ?_
            refine ASeq.gno _ _ rfl rfl rfl rfl rfl ?_
            refine ASeq.gno _ _ rfl rfl rfl rfl rfl ?_
            refine ASeq.gno _ _ rfl rfl rfl rfl rfl ?_
            refine ASeq.gno _ _ rfl rfl rfl rfl rfl ?_
            refine ASeq.gno _ _ rfl rfl rfl rfl rfl ?_
            refine ASeq.gno _ _ rfl rfl rfl rfl rfl ?_
            refine ASeq.gq _ _ rfl rfl rfl rfl (QOp.pickT rfl rfl rfl) ?_
            refine ASeq.q rfl rfl (QOp.pickT rfl rfl rfl) ?_
            exact meet.at_ (.cons rfl (.cons rfl (.cons rfl (.cons rfl (.cons rfl (.cons rfl (.cons rfl (.cons rfl (.cons rfl (.cons rfl (.consB rfl (by rw [he2]) (.cons rfl (.consB (b := true) rfl (by unfold pairOk; rw [hb, he2]; rfl) .nil)))))))))))))
          · refine ASeq.split 27 (isLogic e.op) rfl (fun hl => ?_) (fun hl => ?_)
            · refine ASeq.gq _ _ rfl rfl rfl rfl (QOp.move rfl rfl) ?_
              refine ASeq.gq _ _ rfl rfl rfl rfl (QOp.move rfl rfl) ?_
              refine ASeq.gq _ _ rfl rfl rfl rfl (QOp.move rfl rfl) ?_
              refine ASeq.gq _ _ rfl rfl rfl rfl (QOp.move rfl rfl) ?_
              refine ASeq.gq _ _ rfl rfl rfl rfl (QOp.move rfl rfl) ?_
              refine ASeq.gq _ _ rfl rfl rfl rfl (QOp.cmp rfl rfl rfl rfl) ?_
              refine ASeq.gq _ _ rfl rfl rfl rfl (QOp.pickT rfl rfl rfl) ?_
              refine ASeq.gq _ _ rfl rfl rfl rfl (QOp.pickF rfl rfl rfl) ?_
              refine ASeq.gq _ _ rfl rfl rfl rfl (QOp.move rfl rfl) ?_
              refine ASeq.split 266 (v.2 == 2) rfl (fun h2 => ?_) (fun h2 => ?_)
              · refine ASeq.gno _ _ rfl rfl rfl rfl rfl ?_
                refine ASeq.gno _ _ rfl rfl rfl rfl rfl ?_
                refine ASeq.gno _ _ rfl rfl rfl rfl rfl ?_
                refine ASeq.gno _ _ rfl rfl rfl rfl rfl ?_
                refine ASeq.gno _ _ rfl rfl rfl rfl rfl ?_
                refine ASeq.gno _ _ rfl rfl rfl rfl rfl ?_
                refine ASeq.gno _ _ rfl rfl rfl rfl rfl ?_
                refine ASeq.gno _ _ rfl rfl rfl rfl rfl ?_
                refine ASeq.gno _ _ rfl rfl rfl rfl rfl ?_
                refine ASeq.gno _ _ rfl rfl rfl rfl rfl ?_
                refine ASeq.gq _ _ rfl rfl rfl rfl (QOp.pickT rfl rfl rfl) ?_
                refine ASeq.q rfl rfl (QOp.pickT rfl rfl rfl) ?_
                exact meet.at_ (.cons rfl (.cons rfl (.cons rfl (.cons rfl (.cons rfl (.cons rfl (.cons rfl (.cons rfl (.cons rfl (.consB rfl (by rw [hl]) (.consB rfl (by rw [he2]) (.cons rfl (.consB (b := true) rfl (by unfold pairOk; rw [hb, he2, hl, h2]; rfl) .nil)))))))))))))
              · refine ASeq.gq _ _ rfl rfl rfl rfl (QOp.move rfl rfl) ?_
                refine ASeq.gq _ _ rfl rfl rfl rfl (QOp.not rfl rfl) ?_
                refine ASeq.gq _ _ rfl rfl rfl rfl (QOp.move rfl rfl) ?_
                refine ASeq.gno _ _ rfl rfl rfl rfl rfl ?_
                refine ASeq.gno _ _ rfl rfl rfl rfl rfl ?_
                refine ASeq.gq _ _ rfl rfl rfl rfl (QOp.pickF rfl rfl rfl) ?_
                refine ASeq.gq _ _ rfl rfl rfl rfl (QOp.move rfl rfl) ?_
                refine ASeq.gno _ _ rfl rfl rfl rfl rfl ?_
                refine ASeq.gno _ _ rfl rfl rfl rfl rfl ?_
                refine ASeq.gq _ _ rfl rfl rfl rfl (QOp.pickF rfl rfl rfl) ?_
                refine ASeq.gq _ _ rfl rfl rfl rfl (QOp.pickF rfl rfl rfl) ?_
                refine ASeq.q rfl rfl (QOp.pickT rfl rfl rfl) ?_
                exact meet.at_ (.cons rfl (.cons rfl (.cons rfl (.cons rfl (.cons rfl (.cons rfl (.cons rfl (.cons rfl (.cons rfl (.consB rfl (by rw [hl]) (.consB rfl (by rw [he2]) (.cons rfl (.consB (b := false) rfl (by unfold pairOk; rw [hb, he2, hl, h2]; rfl) .nil)))))))))))))
            · refine ASeq.gq _ _ rfl rfl rfl rfl (QOp.move rfl rfl) ?_
              refine ASeq.gq _ _ rfl rfl rfl rfl (QOp.move rfl rfl) ?_
              refine ASeq.gq _ _ rfl rfl rfl rfl (QOp.move rfl rfl) ?_
              refine ASeq.gq _ _ rfl rfl rfl rfl (QOp.move rfl rfl) ?_
              refine ASeq.gno _ _ rfl rfl rfl rfl rfl ?_
              refine ASeq.gno _ _ rfl rfl rfl rfl rfl ?_
              refine ASeq.gq _ _ rfl rfl rfl rfl (QOp.pickF rfl rfl rfl) ?_
              refine ASeq.gq _ _ rfl rfl rfl rfl (QOp.pickF rfl rfl rfl) ?_
              refine ASeq.gq _ _ rfl rfl rfl rfl (QOp.move rfl rfl) ?_
              refine ASeq.gq _ _ rfl rfl rfl rfl (QOp.move rfl rfl) ?_
              refine ASeq.gq _ _ rfl rfl rfl rfl (QOp.not rfl rfl) ?_
              refine ASeq.gq _ _ rfl rfl rfl rfl (QOp.move rfl rfl) ?_
              refine ASeq.gq _ _ rfl rfl rfl rfl (QOp.move rfl rfl) ?_
              refine ASeq.gq _ _ rfl rfl rfl rfl (QOp.not rfl rfl) ?_
              refine ASeq.gq _ _ rfl rfl rfl rfl (QOp.pickT rfl rfl rfl) ?_
              refine ASeq.gq _ _ rfl rfl rfl rfl (QOp.move rfl rfl) ?_
              refine ASeq.gq _ _ rfl rfl rfl rfl (QOp.move rfl rfl) ?_
              refine ASeq.gq _ _ rfl rfl rfl rfl (QOp.cmp rfl rfl rfl rfl) ?_
              refine ASeq.gq _ _ rfl rfl rfl rfl (QOp.pickT rfl rfl rfl) ?_
              refine ASeq.gq _ _ rfl rfl rfl rfl (QOp.pickF rfl rfl rfl) ?_
              refine ASeq.q rfl rfl (QOp.pickT rfl rfl rfl) ?_
              exact meet.at_ (.cons rfl (.cons rfl (.cons rfl (.cons rfl (.cons rfl (.cons rfl (.cons rfl (.cons rfl (.cons rfl (.consB rfl (by rw [hl]) (.consB rfl (by rw [he2]) (.cons rfl (.consB (b := v.2 == 1) rfl (by unfold pairOk; rw [hb, he2, hl]; rfl) .nil)))))))))))))
        · refine ASeq.gno _ _ rfl rfl rfl rfl rfl ?_
          refine ASeq.gno _ _ rfl rfl rfl rfl rfl ?_
          refine ASeq.gno _ _ rfl rfl rfl rfl rfl ?_
          refine ASeq.gno _ _ rfl rfl rfl rfl rfl ?_
          refine ASeq.gno _ _ rfl rfl rfl rfl rfl ?_
          refine ASeq.gno _ _ rfl rfl rfl rfl rfl ?_
          refine ASeq.gno _ _ rfl rfl rfl rfl rfl ?_
          refine ASeq.gno _ _ rfl rfl rfl rfl rfl ?_
          refine ASeq.gno _ _ rfl rfl rfl rfl rfl ?_
          refine ASeq.gno _ _ rfl rfl rfl rfl rfl ?_
          refine ASeq.gno _ _ rfl rfl rfl rfl rfl ?_
          refine ASeq.gno _ _ rfl rfl rfl rfl rfl ?_
          refine ASeq.gno _ _ rfl rfl rfl rfl rfl ?_
          refine ASeq.gno _ _ rfl rfl rfl rfl rfl ?_
          refine ASeq.gno _ _ rfl rfl rfl rfl rfl ?_
          refine ASeq.gno _ _ rfl rfl rfl rfl rfl ?_
          refine ASeq.gno _ _ rfl rfl rfl rfl rfl ?_
          refine ASeq.gno _ _ rfl rfl rfl rfl rfl ?_
          refine ASeq.gno _ _ rfl rfl rfl rfl rfl ?_
          refine ASeq.gno _ _ rfl rfl rfl rfl rfl ?_
          refine ASeq.q rfl rfl (QOp.pickF rfl rfl rfl) ?_
          exact meet.at_ (.cons rfl (.cons rfl (.cons rfl (.cons rfl (.cons rfl (.cons rfl (.cons rfl (.cons rfl (.cons rfl (.cons rfl (.cons rfl (.cons rfl (.consB (b := false) rfl (by unfold pairOk; rw [hb]; rfl) .nil)))))))))))))
      refine ASeq.q rfl rfl (QOp.move rfl rfl) ?_
      refine ASeq.op rfl rfl (AOp.callP 0 rfl (by kernel_rfl) rfl rfl rfl (need_ok w.1 m (pairOk e.op v.2 w.2) e.fr 8) ?_ (by rintro _ _ ⟨⟩))
      rintro _ _ ⟨⟩
      refine ASeq.op0 rfl rfl (AOp.storeP 6 rfl rfl rfl rfl (tok _ rfl) rfl rfl rfl rfl ?_)
      refine ASeq.nil ?_
      refine ACode.seq (ACode.region ?_)
      have hbyte := getD_get (s := e.op) (i := 0) hbb.2.2
      refine ASeq.cut 12 [(1, vi i), (2, .mp m2 0), (4, .mp m4 0), (6, .mp m6 0), (7, vi 2), (8, vi e.fr), (24, vi v.2), (25, .mp m25 0), (26, vi w.2), (27, .v (.bool (isLogic e.op))), (28, .v (.bool (isEven e.op))), (292, .v (.bool ((!isEven e.op && !isLogic e.op) && (byteAt e.op 0 != 60))))] (fun meet => ?_) ?_
      · refine ASeq.q rfl rfl (QOp.move rfl rfl) ?_
        refine ASeq.q rfl rfl (QOp.not rfl rfl) ?_
        refine ASeq.q rfl rfl (QOp.move rfl rfl) ?_
        refine ASeq.split 283 (!isEven e.op) rfl (fun hb => ?_) (fun hb => ?_)
        · refine ASeq.gq _ _ rfl rfl rfl rfl (QOp.move rfl rfl) ?_
          refine ASeq.gq _ _ rfl rfl rfl rfl (QOp.not rfl rfl) ?_
          refine ASeq.q rfl rfl (QOp.pickT rfl rfl rfl) ?_
          refine ASeq.q rfl rfl (QOp.move rfl rfl) ?_
          refine ASeq.split 287 (!isLogic e.op) rfl (fun hc2 => ?_) (fun hc2 => ?_)
          · refine ASeq.gq _ _ rfl rfl rfl rfl (QOp.fieldM rfl rfl (tok _ rfl) rfl rfl (by decide) rfl) ?_
            refine ASeq.gq _ _ rfl rfl rfl rfl (QOp.loadM 8 rfl rfl rfl (tok _ rfl) rfl) ?_
            refine ASeq.gq _ _ rfl rfl rfl rfl (QOp.indexS rfl rfl rfl (tok _ rfl) rfl (by decide) hbyte) ?_
            refine ASeq.gq _ _ rfl rfl rfl rfl (QOp.cmp rfl rfl rfl rfl) ?_
            refine ASeq.q rfl rfl (QOp.pickT rfl rfl rfl) ?_
            exact meet.at_ (.cons rfl (.cons rfl (.cons rfl (.cons rfl (.cons rfl (.cons rfl (.cons rfl (.cons rfl (.cons rfl (.cons rfl (.cons rfl (.consB (b := byteAt e.op 0 != 60) rfl (by rw [hb, hc2]; rfl) .nil))))))))))))
          · refine ASeq.gno _ _ rfl rfl rfl rfl rfl ?_
            refine ASeq.gno _ _ rfl rfl rfl rfl rfl ?_
            refine ASeq.gno _ _ rfl rfl rfl rfl rfl ?_
            refine ASeq.gno _ _ rfl rfl rfl rfl rfl ?_
            refine ASeq.q rfl rfl (QOp.pickF rfl rfl rfl) ?_
            exact meet.at_ (.cons rfl (.cons rfl (.cons rfl (.cons rfl (.cons rfl (.cons rfl (.cons rfl (.cons rfl (.cons rfl (.cons rfl (.cons rfl (.consB (b := false) rfl (by rw [hb, hc2]; rfl) .nil))))))))))))
        · refine ASeq.gno _ _ rfl rfl rfl rfl rfl ?_
          refine ASeq.gno _ _ rfl rfl rfl rfl rfl ?_
          refine ASeq.q rfl rfl (QOp.pickF rfl rfl rfl) ?_
          refine ASeq.q rfl rfl (QOp.move rfl rfl) ?_
          refine ASeq.gno _ _ rfl rfl rfl rfl rfl ?_
          refine ASeq.gno _ _ rfl rfl rfl rfl rfl ?_
          refine ASeq.gno _ _ rfl rfl rfl rfl rfl ?_
          refine ASeq.gno _ _ rfl rfl rfl rfl rfl ?_
          refine ASeq.q rfl rfl (QOp.pickF rfl rfl rfl) ?_
          exact meet.at_ (.cons rfl (.cons rfl (.cons rfl (.cons rfl (.cons rfl (.cons rfl (.cons rfl (.cons rfl (.cons rfl (.cons rfl (.cons rfl (.consB (b := false) rfl (by rw [hb]; rfl) .nil))))))))))))
      refine ASeq.cut 6 [(1, vi i), (2, .mp m2 0), (4, .mp m4 0), (6, .mp m6 0), (7, vi 2), (8, vi e.fr), (24, vi v.2), (25, .mp m25 0), (26, vi w.2), (298, .v (.bool (isInt e.op)))] (fun meet => ?_) ?_
      · refine ASeq.q rfl rfl (QOp.move rfl rfl) ?_
        refine ASeq.split 293 ((!isEven e.op && !isLogic e.op) && (byteAt e.op 0 != 60)) rfl (fun hb => ?_) (fun hb => ?_)
        · refine ASeq.gq _ _ rfl rfl rfl rfl (QOp.fieldM rfl rfl (tok _ rfl) rfl rfl (by decide) rfl) ?_
          refine ASeq.gq _ _ rfl rfl rfl rfl (QOp.loadM 8 rfl rfl rfl (tok _ rfl) rfl) ?_
          refine ASeq.gq _ _ rfl rfl rfl rfl (QOp.indexS rfl rfl rfl (tok _ rfl) rfl (by decide) hbyte) ?_
          refine ASeq.gq _ _ rfl rfl rfl rfl (QOp.cmp rfl rfl rfl rfl) ?_
          refine ASeq.q rfl rfl (QOp.pickT rfl rfl rfl) ?_
          exact meet.at_ (.cons rfl (.cons rfl (.cons rfl (.cons rfl (.cons rfl (.cons rfl (.cons rfl (.cons rfl (.cons rfl (.consB (b := byteAt e.op 0 != 62) rfl (by unfold isInt; rw [hb]; rfl) .nil))))))))))
        · refine ASeq.gno _ _ rfl rfl rfl rfl rfl ?_
          refine ASeq.gno _ _ rfl rfl rfl rfl rfl ?_
          refine ASeq.gno _ _ rfl rfl rfl rfl rfl ?_
          refine ASeq.gno _ _ rfl rfl rfl rfl rfl ?_
          refine ASeq.q rfl rfl (QOp.pickF rfl rfl rfl) ?_
          exact meet.at_ (.cons rfl (.cons rfl (.cons rfl (.cons rfl (.cons rfl (.cons rfl (.cons rfl (.cons rfl (.cons rfl (.consB (b := false) rfl (by unfold isInt; rw [hb]; rfl) .nil))))))))))
      refine ASeq.nil ?_
      refine AExit.then_normal ?_
      refine ACode.cond _ rfl (fun hb => ?_) (fun hb => ?_)
      · rw [if_pos hb] at hr2
        refine ACode.region ?_
        refine ASeq.q rfl rfl (QOp.assign rfl rfl) ?_
        refine ASeq.nil ?_
        subst hr2
        refine rest.atP 8 ?_ ?_
        · exact .cons rfl (.cons rfl (.cons rfl (.cons rfl .nil)))
        · simp only [cells_setSlot]
          simp only [CS.items, CS.cells, CS.slotCells, CS.setSlot, CS.slotOf, need_type, need_slot, need_put, need_func, need_slots, need_f]
          rfl
      · rw [if_neg (by rw [hb]; decide)] at hr2
        refine ACode.skip ?_
        subst hr2
        refine rest.atP 8 ?_ ?_
        · exact .cons rfl (.cons rfl (.cons rfl (.cons rfl .nil)))
        · simp only [cells_setSlot]
          simp only [CS.items, CS.cells, CS.slotCells, CS.setSlot, CS.slotOf, need_type, need_slot, need_put, need_func, need_slots, need_f]
          rfl
    have hk9 : ¬ e.kind = 9 := ne_of_beq_false hb
    have hr2 : r = (c, 2) := by
      rw [← hr]; unfold kindCase; rw [if_neg hk17, if_neg hk4, if_neg hk5, if_neg hk6, if_neg hk8, if_neg hk9]
    refine ACode.skip ?_
    subst hr2
    exact rest.atP 8 (.cons rfl (.cons rfl (.cons rfl (.cons rfl .nil)))) rfl
  · have hkr : Kept c r.1 := by rw [← hr]; exact .kindCase (Kept.expr6 n) c i _
    have hlt' : r.1.type.length = c.t.exprs.length := by rw [hkr.lt]; exact hlt
    refine ACode.seq (ACode.seq (ACode.region ?_))
    refine ASeq.q rfl rfl (QOp.fieldM rfl rfl (tok _ rfl) rfl rfl (by decide) rfl) ?_
    refine ASeq.q rfl rfl (QOp.loadM 6 rfl rfl rfl (tok _ rfl) rfl) ?_
    refine ASeq.q rfl rfl (QOp.cmp rfl rfl rfl rfl) ?_
    refine ASeq.nil ?_
    refine AExit.then_normal ?_
    refine ACode.cond _ rfl (fun hb => ?_) (fun hb => ?_)
    · have hc : r.1.code = 0 := by simpa using hb
      refine ACode.region ?_
      refine ASeq.q rfl rfl (QOp.fieldM rfl rfl (tok _ rfl) rfl rfl (by decide) rfl) ?_
      refine ASeq.q rfl rfl (QOp.fieldM rfl rfl (tok _ rfl) rfl rfl (by decide) rfl) ?_
      refine ASeq.q rfl rfl (QOp.loadM 6 rfl rfl rfl (tok _ rfl) rfl) ?_
      refine ASeq.q rfl rfl (QOp.move rfl rfl) ?_
      refine ASeq.q rfl rfl (QOp.move rfl rfl) ?_
      refine ASeq.q rfl rfl (QOp.indexM rfl rfl rfl (tok _ rfl) rfl (tok _ rfl) (by omega) (by omega) rfl) ?_
      refine ASeq.op0 rfl rfl (storeInt 0 (j := i.toNat) (l := r.1.type) rfl rfl rfl rfl (tok _ rfl) rfl (by show 0 + _ * 1 = _; omega) (by omega) rfl ?_)
      refine ASeq.nil ?_
      refine ACode.seq (ACode.region ?_)
      refine ASeq.q rfl rfl (QOp.loadM 6 rfl rfl rfl (tok _ rfl) rfl) ?_
      refine ASeq.q rfl rfl (QOp.move rfl rfl) ?_
      refine ASeq.op0 rfl rfl (AOp.storeP 7 rfl rfl rfl rfl (tok _ rfl) rfl rfl rfl rfl ?_)
      refine ASeq.q rfl rfl (QOp.assign rfl rfl) ?_
      refine ASeq.nil ?_
      refine ACode.ret ?_
      refine bodyQ_ret 6 (.cell 7 rfl rfl (tok _ rfl) rfl (.tmp rfl .nil)) rfl ?_
      rw [hgo, show typed r i = (r.1.setType i r.2, r.2) by unfold typed; rw [if_pos hc]]
      refine RV.of ?_ rfl
      have : (r.1.setType i r.2).type.length = r.1.type.length := by simp [CS.setType]
      show _ = AV.tup [.agg ((r.1.setType i r.2).cells m), vi r.2]
      simp only [CS.cells, this]
      rfl
    · have hc : ¬ r.1.code = 0 := by simpa using hb
      refine ACode.skip (ACode.seq (ACode.region ?_))
      refine ASeq.q rfl rfl (QOp.loadM 6 rfl rfl rfl (tok _ rfl) rfl) ?_
      refine ASeq.q rfl rfl (QOp.move rfl rfl) ?_
      refine ASeq.op0 rfl rfl (AOp.storeP 7 rfl rfl rfl rfl (tok _ rfl) rfl rfl rfl rfl ?_)
      refine ASeq.q rfl rfl (QOp.assign rfl rfl) ?_
      refine ASeq.nil ?_
      refine ACode.ret ?_
      refine bodyQ_ret 6 (.cell 7 rfl rfl (tok _ rfl) rfl (.tmp rfl .nil)) rfl ?_
      rw [hgo, show typed r i = r by unfold typed; rw [if_neg hc]]
      exact .mk
end Go.Proofs.Ytaadamobapnfbaa
/- ref06: statements on data; block. -/
set_option linter.unusedVariables false
set_option linter.unusedSimpArgs false
set_option maxRecDepth 100000
namespace Go.Proofs.Ytaadamobapnfbaa
open Go Go.Abs
theorem exprs6 : ∀ n, CExpr n
  | 0 => fun c m i τ h hw h0 h1 hn => absurd hn (by omega)
  | n + 1 => expr_walk6 n (exprs6 n)
def vals (c : CS) (i : Int) : CS × Int := valOf (expr6 c.t.exprs.length c i) i
def stmtCase (g : CS → Int → CS) (c : CS) (s : St) : CS × Int :=
  if s.kind = 1 then
    if (vals c s.a).1.code ≠ 0 then ((vals c s.a).1, -1) else (vals c s.a).1.decl s.name (vals c s.a).2 s.fr
  else if s.kind = 2 then
    if (c.need (decide (s.num ≥ 1) && decide (s.num ≤ 64)) s.fr 15).code ≠ 0 then (c.need (decide (s.num ≥ 1) && decide (s.num ≤ 64)) s.fr 15, -1)
    else (c.need (decide (s.num ≥ 1) && decide (s.num ≤ 64)) s.fr 15).decl s.name 3 s.fr
  else if s.kind = 3 then
    if (vals c s.a).1.code ≠ 0 then ((vals c s.a).1, -1)
    else if ((vals c s.a).1.slotOf s.name false s.fr).1.code = 0 then
      (((vals c s.a).1.slotOf s.name false s.fr).1.need ((vals c s.a).2 == (vals c s.a).1.cur.getD ((vals c s.a).1.slotOf s.name false s.fr).2.toNat 0) s.fr 8, ((vals c s.a).1.slotOf s.name false s.fr).2)
    else (vals c s.a).1.slotOf s.name false s.fr
  else if s.kind = 4 then
    if (vals (vals c s.a).1 s.b).1.code ≠ 0 then ((vals (vals c s.a).1 s.b).1, -1)
    else (((vals (vals c s.a).1 s.b).1.slotOf s.name true s.fr).1.need (((vals c s.a).2 == 1) && ((vals (vals c s.a).1 s.b).2 == 1)) s.fr 8, ((vals (vals c s.a).1 s.b).1.slotOf s.name true s.fr).2)
  else if s.kind = 5 then (blockOf g (blockOf g ((vals c s.a).1.need ((vals c s.a).2 == 2) s.fr 8) s.thn) s.els, -1)
  else if s.kind = 6 then
    ({ blockOf g ({ (vals c s.a).1 with loops := c.loops + 1 }.need ((vals c s.a).2 == 2) s.fr 8) s.thn with loops := c.loops }, -1)
  else if s.kind = 7 ∨ s.kind = 8 then (c.need (decide (c.loops > 0)) s.fr 9, -1)
  else if s.kind = 9 then
    if s.a ≥ 0 then ((vals c s.a).1.need ((vals c s.a).2 == (c.fu c.f).type) s.fr 8, -1) else (c.need (4 == (c.fu c.f).type) s.fr 8, -1)
  else if s.kind = 10 then ((vals c s.a).1, -1)
  else if s.kind = 11 then ((expr6 c.t.exprs.length c s.a).1, -1)
  else (c, -1)
def putted (r : CS × Int) (i : Int) : CS := if r.1.code = 0 then r.1.setPut i r.2 else r.1
def stm6 : Nat → CS → Int → CS
  | 0, c, _ => c
  | n + 1, c, i => if c.code ≠ 0 then c else putted (stmtCase (stm6 n) (c.setFunc i c.f) (c.stm i)) i
/-- what a statement leaves as it was -/
structure KeptS (c d : CS) : Prop where
  t : d.t = c.t
  f : d.f = c.f
  block : d.block = c.block
  loops : d.loops = c.loops
  lt : d.type.length = c.type.length
  ls : d.slot.length = c.slot.length
  lp : d.put.length = c.put.length
  lf : d.func.length = c.func.length
  lS : d.slots.length = c.slots.length
  cur : c.cur.length ≤ d.cur.length
  ok : c.ok → d.ok
  other : ∀ j, j ≠ c.f.toNat → d.slots[j]? = c.slots[j]?
theorem KeptS.refl (c : CS) : KeptS c c := ⟨rfl, rfl, rfl, rfl, rfl, rfl, rfl, rfl, rfl, Nat.le_refl _, fun h => h, fun _ _ => rfl⟩
theorem KeptS.trans {a b c : CS} (h : KeptS a b) (h' : KeptS b c) : KeptS a c :=
  ⟨h'.t.trans h.t, h'.f.trans h.f, h'.block.trans h.block, h'.loops.trans h.loops, h'.lt.trans h.lt, h'.ls.trans h.ls, h'.lp.trans h.lp, h'.lf.trans h.lf, h'.lS.trans h.lS, Nat.le_trans h.cur h'.cur, fun k => h'.ok (h.ok k), fun j hj => (h'.other j (by rw [h.f]; exact hj)).trans (h.other j hj)⟩
theorem Kept.toS {a b : CS} (h : Kept a b) : KeptS a b :=
  ⟨h.t, h.f, h.block, h.loops, h.lt, h.ls, by rw [h.put], by rw [h.func], by rw [h.slots], by rw [h.cur]; exact Nat.le_refl _, h.ok, fun _ _ => by rw [h.slots]⟩
theorem Kept.vals (c : CS) (i : Int) : Kept c (vals c i).1 := (Kept.expr6 _ _ _).valOf _
theorem cur_set {c : CS} (h0 : 0 ≤ c.f) (h1 : c.f < c.slots.length) (l : List Int) : (c.slots.set c.f.toNat l).getD c.f.toNat [] = l := by
  have : c.f.toNat < c.slots.length := by omega
  simp [List.getD_eq_getElem?_getD, this]
theorem KeptS.decl {c : CS} (h : c.ok) (s : ByteArray) (k a : Int) : KeptS c (c.decl s k a).1 := by
  unfold CS.decl
  split
  · exact ((Kept.need _ _ _ _).trans (.need _ _ _ _)).toS
  · rename_i hc
    have hc : ((c.need (!c.twice s) a 7).need (decide ((c.cur.length : Int) < 64)) a 5).code = 0 := Decidable.byContradiction hc
    have hl := of_decide_eq_true ((need_code _ _ _ _ (by decide)).1 hc).2
    have hcs := cur_set h.f0 h.f1 (c.cur ++ [k])
    have hcur : ({ c with slots := c.slots.set c.f.toNat (c.cur ++ [k]), names := c.names ++ [⟨s, c.block, c.cur.length⟩] } : CS).cur = c.cur ++ [k] := hcs
    refine ⟨rfl, rfl, rfl, rfl, rfl, rfl, rfl, rfl, by simp, by rw [hcur]; simp, fun _ => ⟨h.f0, by simpa using h.f1, by rw [hcur]; simp; omega, ?_, ?_, h.lt, h.ls, h.lp, h.lf, by simpa using h.lS, h.big⟩, fun j hj => by simp only [List.getElem?_set]; rw [if_neg (fun h => hj h.symm)]⟩
    · rw [hcur]; have := h.names; simpa using this
    · rw [hcur]
      intro n hn
      simp only [List.length_append, List.length_cons, List.length_nil]
      rcases List.mem_append.1 hn with hn | hn
      · have := h.nslot n hn; omega
      · rw [List.mem_singleton] at hn; subst hn; dsimp only; omega
theorem KeptS.stmts {g : CS → Int → CS} (hg : ∀ c i, c.ok → KeptS c (g c i)) (b : Int) : ∀ (l : List Int) (c : CS), c.ok → c.block = b → KeptS c (stmtsOf g b l c)
  | [], c, _, _ => .refl c
  | i :: l, c, h, hb => by
    have h1 := hg c i h
    have h2 : KeptS c { g c i with block := b } := { h1 with block := hb.symm, ok := fun k => { h1.ok k with } }
    exact h2.trans (KeptS.stmts hg b l _ (h2.ok h) rfl)
theorem KeptS.blockOf {g : CS → Int → CS} (hg : ∀ c i, c.ok → KeptS c (g c i)) (c : CS) (l : List Int) (h : c.ok) : KeptS c (blockOf g c l) := by
  have h1 := KeptS.stmts hg (c.block + 1) l { c with block := c.block + 1 } { h with } rfl
  unfold Ytaadamobapnfbaa.blockOf
  refine { t := h1.t, f := h1.f, block := rfl, loops := h1.loops, lt := h1.lt, ls := h1.ls, lp := h1.lp, lf := h1.lf, lS := h1.lS, cur := h1.cur, ok := fun _ => ?_, other := h1.other }
  have ho := h1.ok { h with }
  have hc := h1.cur
  refine { ho with names := Nat.le_trans h.names hc, nslot := fun n hn => ?_ }
  have := h.nslot n hn
  exact ⟨this.1, Int.lt_of_lt_of_le this.2 (by exact_mod_cast hc)⟩
def smax : Int := 1099511627776
def StWf (E : Nat) (i : Nat) (s : St) : Prop :=
  (s.kind = 1 ∨ s.kind = 3 ∨ s.kind = 4 ∨ s.kind = 5 ∨ s.kind = 6 ∨ s.kind = 10 ∨ s.kind = 11 → 0 ≤ s.a) ∧ (1 ≤ s.kind ∧ s.kind ≤ 11 ∧ s.kind ≠ 2 ∧ s.kind ≠ 7 ∧ s.kind ≠ 8 → s.a < E) ∧ (s.kind = 4 → 0 ≤ s.b ∧ s.b < E) ∧ (∀ k ∈ s.thn, 0 ≤ k ∧ k < i) ∧ (∀ k ∈ s.els, 0 ≤ k ∧ k < i) ∧
    s.thn.length ≤ 1048576 ∧ s.els.length ≤ 1048576
def StsWf (t : Tree) : Prop := ∀ (i : Nat) (s : St), t.stmts[i]? = some s → StWf t.exprs.length i s
def CStmt (n : Nat) : Prop := ∀ (c : CS) (m : Ms) (i : Int) (τ : Nat), c.ok → TreeWf c.t → StsWf c.t → 0 ≤ i → i < c.t.stmts.length → i < n → 0 ≤ c.block → c.block + n ≤ smax → 0 ≤ c.loops → c.loops + n ≤ smax →
  ACalls Try.prog 33 [.agg (c.cells m), vi i] (c.items m τ) (RS m (stm6 n c i))
theorem RS.of {m : Ms} {c : CS} {r : AV} {R : List Abs.Item} (τ : Nat) (h1 : r = .agg (c.cells m)) (h2 : R = c.items m τ) : RS m c (.ret r) R := by subst h1; subst h2; exact .mk τ
theorem stmts_drop (g : CS → Int → CS) (b : Int) (l : List Int) (i : Nat) (c : CS) (h : i < l.length) : stmtsOf g b (l.drop i) c = stmtsOf g b (l.drop (i + 1)) { g c l[i] with block := b } := by
  rw [List.drop_eq_getElem_cons h]; rfl
theorem block_walk6 {n : Nat} (hS : CStmt n) (hK : ∀ c i, c.ok → KeptS c (stm6 n c i)) (c : CS) (m : Ms) (l : List Int) (τ : Nat) (h : c.ok) (hw : TreeWf c.t) (hw2 : StsWf c.t) (hl : ∀ k ∈ l, 0 ≤ k ∧ k < n ∧ k < c.t.stmts.length) (hll : l.length ≤ 1048576)
    (hb0 : 0 ≤ c.block) (hb1 : c.block + 1 + n ≤ smax) (hl0 : 0 ≤ c.loops) (hl1 : c.loops + n ≤ smax) :
    ACalls Try.prog 49 [.agg (c.cells m), .il 1 none (ints l)] (c.items m τ) (RS m (blockOf (stm6 n) c l)) := by
  have hil := ints_len l
  have hmax : smax = 1099511627776 := rfl
  refine ACalls.of_code (c := _) Try.func49 rfl Try.ntmps49 (Nat.le_of_ble_eq_true rfl) ?_
  refine ACode.seq (ACode.region ?_)
  refine ASeq.op rfl rfl (AOp.boxP rfl rfl rfl (fun _ => rfl) (fun _ => ?_))
  refine ASeq.op rfl rfl (AOp.allocP rfl (tok _ rfl) rfl rfl (fun _ => rfl) (fun _ => ?_))
  refine ASeq.nil ?_
  rename_i m2 m4
  refine ACode.seq (ACode.region ?_)
  refine ASeq.q rfl rfl (QOp.fieldM rfl rfl (tok _ rfl) rfl rfl (by decide) rfl) ?_
  refine ASeq.q rfl rfl (QOp.loadM 6 rfl rfl rfl (tok _ rfl) rfl) ?_
  refine ASeq.q rfl rfl (QOp.assign rfl rfl) ?_
  refine ASeq.nil ?_
  refine ACode.seq (ACode.region ?_)
  refine ASeq.q rfl rfl (QOp.fieldM rfl rfl (tok _ rfl) rfl rfl (by decide) rfl) ?_
  refine ASeq.q rfl rfl (QOp.loadM 6 rfl rfl rfl (tok _ rfl) rfl) ?_
  refine ASeq.q rfl rfl (QOp.ar64 rfl rfl rfl rfl ⟨by omega, by omega⟩) ?_
  refine ASeq.q rfl rfl (QOp.fieldM rfl rfl (tok _ rfl) rfl rfl (by decide) rfl) ?_
  refine ASeq.op0 rfl rfl (AOp.storeP 6 rfl rfl rfl rfl (tok _ rfl) rfl rfl rfl rfl ?_)
  refine ASeq.nil ?_
  refine ACode.seq (ACode.region ?_)
  refine ASeq.q rfl rfl (QOp.fieldM rfl rfl (tok _ rfl) rfl rfl (by decide) rfl) ?_
  refine ASeq.q rfl rfl (QOp.loadM 6 rfl rfl rfl (tok _ rfl) rfl) ?_
  refine ASeq.q rfl rfl (QOp.assign rfl rfl) ?_
  refine ASeq.nil ?_
  refine ACode.seq (ACode.seq (ACode.region ?_))
  refine ASeq.q rfl rfl (QOp.move rfl rfl) ?_
  refine ASeq.q rfl rfl (QOp.lenI rfl rfl (tok _ rfl) rfl) ?_
  refine ASeq.q rfl rfl (QOp.move rfl rfl) ?_
  refine ASeq.nil ?_
  refine ACode.block ?_
  refine ACode.loopP (fun (x : Nat × CS × Nat) => [(1, .il 1 none (ints l)), (2, .mp m2 0), (4, .mp m4 0), (5, .il 3 none (c.names.map Nm.cells)), (6, vi (c.block + 1)), (17, vi ((ints l).length : Int)), (18, vi x.1)])
    (fun x => x.2.1.items m x.2.2 ++ [.mu m2 (x.2.1.cells m), .mu m4 (List.map AV.v (TT 79).zero)]) (fun x => l.length - x.1)
    (fun x => x.1 ≤ l.length ∧ KeptS { c with block := c.block + 1 } x.2.1 ∧ x.2.1.block = c.block + 1 ∧ stmtsOf (stm6 n) (c.block + 1) (l.drop x.1) x.2.1 = stmtsOf (stm6 n) (c.block + 1) l { c with block := c.block + 1 })
    (0, { c with block := c.block + 1 }, τ) ⟨Nat.zero_le _, .refl _, rfl, rfl⟩ (.cons rfl (.cons rfl (.cons rfl (.cons rfl (.cons rfl (.cons rfl (.cons rfl .nil))))))) 8 rfl ?_
  rintro ⟨k, d, τ⟩ ⟨hk, hkd, hdb, hres⟩
  dsimp only at hk hkd hdb hres
  have okd := hkd.ok { h with }
  have htd : d.t = c.t := hkd.t
  have hld : d.loops = c.loops := hkd.loops
  refine ACode.seq (ACode.region ?_)
  refine ASeq.q rfl rfl (QOp.cmp rfl rfl rfl rfl) ?_
  refine ASeq.nil ?_
  refine ACode.seq ?_
  refine ACode.cond _ rfl (fun hb => ?_) (fun hb => ?_)
  · have hlt : k < l.length := by have := of_decide_eq_true hb; rw [hil] at this; omega
    have hget := ints_get hlt
    have hm := hl _ (List.getElem_mem hlt)
    have hs := hS d m l[k] τ okd (by rw [htd]; exact hw) (by rw [htd]; exact hw2) hm.1 (by rw [htd]; exact hm.2.2) hm.2.1 (by omega) (by omega) (by omega) (by omega)
    have hks := hK d l[k] okd
    rw [stmts_drop _ _ _ _ _ hlt] at hres
    generalize stm6 n d l[k] = d2 at hs hks hres
    refine ACode.skip (ACode.seq (ACode.block (ACode.seq (ACode.region ?_))))
    refine ASeq.q rfl rfl (QOp.move rfl rfl) ?_
    refine ASeq.q rfl rfl (QOp.assign rfl rfl) ?_
    refine ASeq.nil ?_
    refine ACode.seq ?_
    refine ACode.drawn [[], [], [], [1, 2], [1, 2, 3], [0, 1, 2, 3, 4], [0, 1, 2, 3, 4, 5]] (by kernel_rfl) mixed ?_
    refine DAny.ld 0 rfl rfl (by kernel_rfl) rfl (.does _ _ rfl (.none rfl) (QOp.loadM 6 rfl rfl rfl (tok _ rfl) rfl)) ?_
    refine DAny.qu 1 rfl rfl (by kernel_rfl) rfl (fun _ => .does _ _ rfl (.none rfl) (QOp.move rfl rfl)) ?_
    refine DAny.qu 2 rfl rfl (by kernel_rfl) rfl (fun _ => .does _ _ rfl (.none rfl) (QOp.move rfl rfl)) ?_
    refine DAny.qu 3 rfl rfl (by kernel_rfl) rfl (fun _ => .does _ _ rfl (.none rfl) (QOp.indexI rfl rfl rfl (tok _ rfl) rfl (tok _ rfl) (by omega) (by assumption))) ?_
    refine DAny.qu 4 rfl rfl (by kernel_rfl) rfl (fun _ => .does _ _ rfl (.none rfl) (QOp.loadI rfl rfl (tok _ rfl) rfl)) ?_
    refine DAny.ef 5 rfl (by kernel_rfl) (.none rfl) rfl rfl (AOp.callP 6 rfl (by kernel_rfl) rfl rfl rfl (hs) ?_ (by rintro _ _ ⟨⟩))
    rintro _ _ ⟨τ⟩
    refine ⟨(by ((exact AllQ.nil))), ?_⟩
    refine DAny.ef0 6 rfl (by kernel_rfl) (.none rfl) rfl rfl (AOp.storeP 6 rfl rfl rfl rfl (tok _ rfl) rfl rfl rfl rfl ⟨(by ((exact AllQ.nil))), ?_⟩)
    refine DAny.done (by kernel_rfl) ?_
    refine ACode.region ?_
    refine ASeq.q rfl rfl (QOp.move rfl rfl) ?_
    refine ASeq.q rfl rfl (QOp.fieldM rfl rfl (tok _ rfl) rfl rfl (by decide) rfl) ?_
    refine ASeq.op0 rfl rfl (AOp.storeP 6 rfl rfl rfl rfl (tok _ rfl) rfl rfl rfl rfl ?_)
    refine ASeq.nil ?_
    refine ACode.region ?_
    refine ASeq.q rfl rfl (QOp.ar64 rfl rfl rfl rfl ⟨by omega, by omega⟩) ?_
    refine ASeq.q rfl rfl (QOp.move rfl rfl) ?_
    refine ASeq.nil ?_
    refine AExit.then_normal ?_
    have hk2 : KeptS d { d2 with block := c.block + 1 } := { hks with block := hdb.symm, ok := fun k => { hks.ok k with } }
    exact ⟨(k + 1, { d2 with block := c.block + 1 }, _), 8, ⟨hlt, hkd.trans hk2, rfl, hres⟩, by dsimp only; omega, .cons rfl (.cons rfl (.cons rfl (.cons rfl (.cons rfl (.cons rfl (.cons rfl .nil)))))), rfl⟩
  · have hge : k = l.length := by have := of_decide_eq_false hb; rw [hil] at this; omega
    rw [hge, List.drop_length] at hres
    simp only [stmtsOf] at hres
    refine ACode.exit (ACode.seq (ACode.region ?_))
    refine ASeq.q rfl rfl (QOp.move rfl rfl) ?_
    refine ASeq.q rfl rfl (QOp.fieldM rfl rfl (tok _ rfl) rfl rfl (by decide) rfl) ?_
    refine ASeq.op0 rfl rfl (AOp.storeP 6 rfl rfl rfl rfl (tok _ rfl) rfl rfl rfl rfl ?_)
    refine ASeq.nil ?_
    refine ACode.seq (ACode.region ?_)
    refine ASeq.q rfl rfl (QOp.move rfl rfl) ?_
    refine ASeq.q rfl rfl (QOp.ar64 rfl rfl rfl rfl ⟨by omega, by omega⟩) ?_
    refine ASeq.q rfl rfl (QOp.fieldM rfl rfl (tok _ rfl) rfl rfl (by decide) rfl) ?_
    refine ASeq.op0 rfl rfl (AOp.storeP 6 rfl rfl rfl rfl (tok _ rfl) rfl rfl rfl rfl ?_)
    refine ASeq.nil ?_
    refine ACode.seq (ACode.region ?_)
    refine ASeq.q rfl rfl (QOp.loadM 6 rfl rfl rfl (tok _ rfl) rfl) ?_
    refine ASeq.op0 rfl rfl (AOp.storeP 7 rfl rfl rfl rfl (tok _ rfl) rfl rfl rfl rfl ?_)
    refine ASeq.nil ?_
    refine ACode.ret ?_
    refine bodyQ_ret 6 (.cell 7 rfl rfl (tok _ rfl) rfl .nil) rfl ?_
    have hbo : blockOf (stm6 n) c l = { d with names := c.names, block := c.block } := by unfold blockOf; rw [← hres]
    rw [hbo]
    refine RS.of τ ?_ rfl
    show _ = AV.agg (CS.cells { d with names := c.names, block := c.block } m)
    simp only [CS.cells]
    rw [show c.block + 1 - 1 = c.block by omega]
    rfl
end Go.Proofs.Ytaadamobapnfbaa
/- ref06: Stmt. -/
set_option linter.unusedVariables false
set_option linter.unusedSimpArgs false
set_option maxRecDepth 100000
namespace Go.Proofs.Ytaadamobapnfbaa
open Go Go.Abs
theorem vals_walk (c : CS) (m : Ms) (i : Int) (τ : Nat) (h : c.ok) (hw : TreeWf c.t) (h0 : 0 ≤ i) (h1 : i < c.t.exprs.length) :
    ACalls Try.prog 47 [.agg (c.cells m), vi i] (c.items m τ) (RV (.tup [.agg ((vals c i).1.cells m), vi (vals c i).2]) ((vals c i).1.items m τ)) := value_walk (exprs6 _) c m i τ h hw h0 h1 h1
theorem cells_setFunc (c : CS) (i n : Int) (m : Ms) : (c.setFunc i n).cells m = c.cells m := by simp [CS.cells, CS.setFunc]
theorem st_get {c : CS} {i : Int} (h0 : 0 ≤ i) (h1 : i < c.t.stmts.length) : (c.t.stmts.map St.cells)[i.toNat]? = some (c.stm i).cells := by
  have hl : i.toNat < c.t.stmts.length := by omega
  simp only [List.getElem?_map, CS.stm, List.getD_eq_getElem?_getD, List.getElem?_eq_getElem hl, Option.map_some, Option.getD_some]
theorem st_wf {c : CS} (hw : StsWf c.t) {i : Int} (h0 : 0 ≤ i) (h1 : i < c.t.stmts.length) : StWf c.t.exprs.length i.toNat (c.stm i) := by
  have hl : i.toNat < c.t.stmts.length := by omega
  refine hw _ _ ?_
  simp only [CS.stm, List.getD_eq_getElem?_getD, List.getElem?_eq_getElem hl, Option.getD_some]
theorem KeptS.setFunc (c : CS) (i n : Int) : KeptS c (c.setFunc i n) := ⟨rfl, rfl, rfl, rfl, rfl, rfl, rfl, by simp [CS.setFunc], rfl, Nat.le_refl _, fun h => { h with lf := by simpa [CS.setFunc] using h.lf }, fun _ _ => rfl⟩
theorem KeptS.setPut (c : CS) (i n : Int) : KeptS c (c.setPut i n) := ⟨rfl, rfl, rfl, rfl, rfl, rfl, by simp [CS.setPut], rfl, rfl, Nat.le_refl _, fun h => { h with lp := by simpa [CS.setPut] using h.lp }, fun _ _ => rfl⟩
theorem KeptS.case {g : CS → Int → CS} (hg : ∀ c i, c.ok → KeptS c (g c i)) (c : CS) (s : St) (h : c.ok) : KeptS c (stmtCase g c s).1 := by
  have hv := Kept.vals c s.a
  unfold stmtCase
  split
  · split
    · exact hv.toS
    · exact hv.toS.trans (.decl (hv.ok h) _ _ _)
  split
  · split
    · exact (Kept.need _ _ _ _).toS
    · exact (Kept.need _ _ _ _).toS.trans (.decl ((Kept.need _ _ _ _).ok h) _ _ _)
  split
  · split
    · exact hv.toS
    · split
      · exact (hv.trans ((Kept.slotOf _ _ _ _).trans (.need _ _ _ _))).toS
      · exact (hv.trans (Kept.slotOf _ _ _ _)).toS
  split
  · split
    · exact (hv.trans (Kept.vals _ _)).toS
    · exact ((hv.trans (Kept.vals _ _)).trans ((Kept.slotOf _ _ _ _).trans (.need _ _ _ _))).toS
  split
  · have h1 := (hv.trans (Kept.need _ ((vals c s.a).2 == 2) s.fr 8)).toS
    have h2 := h1.trans (KeptS.blockOf hg _ s.thn (h1.ok h))
    exact h2.trans (KeptS.blockOf hg _ s.els (h2.ok h))
  split
  · have ok1 : ({ (vals c s.a).1 with loops := c.loops + 1 } : CS).ok := { hv.ok h with }
    have h1 := (Kept.need { (vals c s.a).1 with loops := c.loops + 1 } ((vals c s.a).2 == 2) s.fr 8).toS
    have h2 := h1.trans (KeptS.blockOf hg _ s.thn (h1.ok ok1))
    exact ⟨h2.t.trans hv.t, h2.f.trans hv.f, h2.block.trans hv.block, rfl, h2.lt.trans hv.lt, h2.ls.trans hv.ls, h2.lp.trans (by rw [hv.put]), h2.lf.trans (by rw [hv.func]), h2.lS.trans (by rw [hv.slots]), Nat.le_trans (Nat.le_of_eq (by rw [← hv.cur]; rfl)) h2.cur, fun _ => { h2.ok ok1 with }, fun j hj => (h2.other j (by show j ≠ (vals c s.a).1.f.toNat; rw [hv.f]; exact hj)).trans (by show (vals c s.a).1.slots[j]? = _; rw [hv.slots])⟩
  split
  · exact (Kept.need _ _ _ _).toS
  split
  · split
    · exact (hv.trans (Kept.need _ _ _ _)).toS
    · exact (Kept.need _ _ _ _).toS
  split
  · exact hv.toS
  split
  · exact (Kept.expr6 _ _ _).toS
  · exact .refl c
theorem KeptS.putted {c : CS} {r : CS × Int} (h : KeptS c r.1) (i : Int) : KeptS c (putted r i) := by
  unfold Ytaadamobapnfbaa.putted
  split
  · exact h.trans (.setPut _ _ _)
  · exact h
theorem KeptS.stm6 : ∀ (n : Nat) (c : CS) (i : Int), c.ok → KeptS c (stm6 n c i)
  | 0, c, i, _ => .refl c
  | n + 1, c, i, h => by
    unfold Ytaadamobapnfbaa.stm6
    split
    · exact .refl c
    · have h1 := KeptS.setFunc c i c.f
      exact (h1.trans (KeptS.case (KeptS.stm6 n) _ _ (h1.ok h))).putted i
end Go.Proofs.Ytaadamobapnfbaa
/- ref06: Stmt, walked. -/
set_option linter.unusedVariables false
set_option linter.unusedSimpArgs false
set_option maxRecDepth 100000
namespace Go.Proofs.Ytaadamobapnfbaa
open Go Go.Abs
set_option maxHeartbeats 8000000 in
theorem stmt_walk6 (n : Nat) (hS : CStmt n) : CStmt (n + 1) := by
  intro c m i τ h hw hw2 h0 h1 hn hb0 hb1 hl0 hl1
  have hK := KeptS.stm6 n
  have hrow := st_get h0 h1
  have hwf := st_wf hw2 h0 h1
  have hf0 := h.f0
  have hf1 := h.f1
  have hlf := h.lf
  have hlp := h.lp
  have hbig := h.big
  have okd : (c.setFunc i c.f).ok := (KeptS.setFunc c i c.f).ok h
  have hmax : smax = 1099511627776 := rfl
  rw [← cells_setFunc c i c.f m]
  refine ACalls.of_code (c := _) Try.func33 rfl Try.ntmps33 (Nat.le_of_ble_eq_true rfl) ?_
  refine ACode.seq (ACode.region ?_)
  refine ASeq.op rfl rfl (AOp.boxP rfl rfl rfl (fun _ => rfl) (fun _ => ?_))
  refine ASeq.op rfl rfl (AOp.allocP rfl (tok _ rfl) rfl rfl (fun _ => rfl) (fun _ => ?_))
  refine ASeq.nil ?_
  rename_i m2 m4
  refine ACode.seq (ACode.seq (ACode.region ?_))
  refine ASeq.q rfl rfl (QOp.fieldM rfl rfl (tok _ rfl) rfl rfl (by decide) rfl) ?_
  refine ASeq.q rfl rfl (QOp.loadM 6 rfl rfl rfl (tok _ rfl) rfl) ?_
  refine ASeq.q rfl rfl (QOp.cmp rfl rfl rfl rfl) ?_
  refine ASeq.nil ?_
  refine AExit.then_normal ?_
  refine ACode.cond _ rfl (fun hb => ?_) (fun hb => ?_)
  · have hc : c.code ≠ 0 := by simpa [CS.setFunc] using hb
    refine ACode.seq (ACode.region ?_)
    refine ASeq.q rfl rfl (QOp.loadM 6 rfl rfl rfl (tok _ rfl) rfl) ?_
    refine ASeq.op0 rfl rfl (AOp.storeP 7 rfl rfl rfl rfl (tok _ rfl) rfl rfl rfl rfl ?_)
    refine ASeq.nil ?_
    refine ACode.ret (AExit.then_ret ?_)
    refine bodyQ_ret 6 (.cell 7 rfl rfl (tok _ rfl) rfl .nil) rfl ?_
    rw [show stm6 (n + 1) c i = c by unfold stm6; rw [if_pos hc]]
    exact RS.of τ (by rw [← cells_setFunc c i c.f m]; rfl) rfl
  have hc : c.code = 0 := by simpa [CS.setFunc] using hb
  have hgo : stm6 (n + 1) c i = putted (stmtCase (stm6 n) (c.setFunc i c.f) (c.stm i)) i := by rw [stm6, if_neg (fun h => h hc)]
  have hdl : (c.setFunc i c.f).func.length = c.func.length := by simp [CS.setFunc]
  generalize c.stm i = s at hrow hwf hgo
  refine ACode.skip (ACode.seq (ACode.region ?_))
  refine ASeq.q rfl rfl (QOp.fieldM rfl rfl (tok _ rfl) rfl rfl (by decide) rfl) ?_
  refine ASeq.q rfl rfl (QOp.fieldM rfl rfl (tok _ rfl) rfl rfl (by decide) rfl) ?_
  refine ASeq.q rfl rfl (QOp.loadM 6 rfl rfl rfl (tok _ rfl) rfl) ?_
  refine ASeq.q rfl rfl (QOp.move rfl rfl) ?_
  refine ASeq.q rfl rfl (QOp.indexI rfl rfl rfl (tok _ rfl) rfl (tok _ rfl) (by omega) (by assumption)) ?_
  refine ASeq.q rfl rfl (QOp.loadI rfl rfl (tok _ rfl) rfl) ?_
  refine ASeq.op rfl rfl (AOp.allocP rfl (tok _ rfl) rfl rfl (fun _ => rfl) (fun _ => ?_))
  refine ASeq.op0 rfl rfl (AOp.storeP 8 rfl rfl rfl rfl (tok _ rfl) rfl rfl rfl rfl ?_)
  refine ASeq.nil ?_
  rename_i m5
  refine ACode.seq (ACode.region ?_)
  refine ASeq.q rfl rfl (QOp.fieldM rfl rfl (tok _ rfl) rfl rfl (by decide) rfl) ?_
  refine ASeq.q rfl rfl (QOp.fieldM rfl rfl (tok _ rfl) rfl rfl (by decide) rfl) ?_
  refine ASeq.q rfl rfl (QOp.loadM 8 rfl rfl rfl (tok _ rfl) rfl) ?_
  refine ASeq.q rfl rfl (QOp.assign rfl rfl) ?_
  refine ASeq.nil ?_
  refine ACode.seq (ACode.region ?_)
  refine ASeq.q rfl rfl (QOp.fieldM rfl rfl (tok _ rfl) rfl rfl (by decide) rfl) ?_
  refine ASeq.q rfl rfl (QOp.fieldM rfl rfl (tok _ rfl) rfl rfl (by decide) rfl) ?_
  refine ASeq.q rfl rfl (QOp.loadM 6 rfl rfl rfl (tok _ rfl) rfl) ?_
  refine ASeq.q rfl rfl (QOp.move rfl rfl) ?_
  refine ASeq.q rfl rfl (QOp.fieldM rfl rfl (tok _ rfl) rfl rfl (by decide) rfl) ?_
  refine ASeq.q rfl rfl (QOp.loadM 6 rfl rfl rfl (tok _ rfl) rfl) ?_
  refine ASeq.q rfl rfl (QOp.indexM rfl rfl rfl (tok _ rfl) rfl (tok _ rfl) (by omega) (by omega) rfl) ?_
  refine ASeq.op0 rfl rfl (storeInt 3 (j := i.toNat) (l := c.func) rfl rfl rfl rfl (tok _ rfl) rfl (by show 0 + _ * 1 = _; omega) (by omega) rfl ?_)
  refine ASeq.nil ?_
  refine ACode.seq (ACode.region ?_)
  refine ASeq.q rfl rfl (QOp.assign rfl rfl) ?_
  refine ASeq.nil ?_
  generalize hr : stmtCase (stm6 n) (c.setFunc i c.f) s = r at hgo
  have hkr : KeptS (c.setFunc i c.f) r.1 := by rw [← hr]; exact .case hK _ _ okd
  refine ACode.meetA (fun _ : Nat => [(1, vi i), (2, .mp m2 0), (4, .mp m4 0), (7, vi r.2)]) (fun τ => r.1.items m τ ++ [.mu m2 (r.1.cells m), .mu m4 (List.map AV.v (TT 79).zero)]) (fun rest => ?_) ?_
  · have hval := fun (i' : Int) (h0' : 0 ≤ i') (h1' : i' < c.t.exprs.length) => vals_walk (c.setFunc i c.f) m i' τ okd hw h0' h1'
    have hkv := fun (i' : Int) => Kept.vals (c.setFunc i c.f) i'
    have hr2 := hr.symm
    unfold stmtCase at hr2
    refine ACode.seq (ACode.region ?_)
    refine ASeq.q rfl rfl (QOp.fieldM rfl rfl (tok _ rfl) rfl rfl (by decide) rfl) ?_
    refine ASeq.q rfl rfl (QOp.loadM 8 rfl rfl rfl (tok _ rfl) rfl) ?_
    refine ASeq.nil ?_
    refine ACode.block (ACode.seq (ACode.region ?_))
    refine ASeq.q rfl rfl (QOp.cmp rfl rfl rfl rfl) ?_
    refine ASeq.q rfl rfl (QOp.assign rfl rfl) ?_
    refine ASeq.nil ?_
    refine AExit.then_normal ?_
    refine ACode.cond _ rfl (fun hb => ?_) (fun hb => ?_)
    · have hk1 : s.kind = 1 := eq_of_beq hb
      rw [if_pos hk1] at hr2
      have hv := hval s.a (hwf.1 (.inl hk1)) (hwf.2.1 (by omega))
      have hkv := hkv s.a
      generalize vals (c.setFunc i c.f) s.a = v at hv hkv hr2
      have okv := hkv.ok okd
      refine ACode.seq (ACode.region ?_)
      refine ASeq.q rfl rfl (QOp.loadM 6 rfl rfl rfl (tok _ rfl) rfl) ?_
      refine ASeq.q rfl rfl (QOp.fieldM rfl rfl (tok _ rfl) rfl rfl (by decide) rfl) ?_
      refine ASeq.q rfl rfl (QOp.loadM 8 rfl rfl rfl (tok _ rfl) rfl) ?_
      refine ASeq.op rfl rfl (AOp.callP 6 rfl (by kernel_rfl) rfl rfl rfl (hv) ?_ (by rintro _ _ ⟨⟩))
      rintro _ _ ⟨⟩
      refine ASeq.q rfl rfl (QOp.move rfl rfl) ?_
      refine ASeq.q rfl rfl (QOp.extract rfl rfl rfl) ?_
      refine ASeq.q rfl rfl (QOp.extract rfl rfl rfl) ?_
      refine ASeq.op rfl rfl (AOp.allocP rfl (tok _ rfl) rfl rfl (fun _ => rfl) (fun _ => ?_))
      refine ASeq.op0 rfl rfl (AOp.storeP 9 rfl rfl rfl rfl (tok _ rfl) rfl rfl rfl rfl ?_)
      refine ASeq.q rfl rfl (QOp.assign rfl rfl) ?_
      refine ASeq.nil ?_
      refine ACode.seq (ACode.seq (ACode.region ?_))
      refine ASeq.q rfl rfl (QOp.fieldM rfl rfl (tok _ rfl) rfl rfl (by decide) rfl) ?_
      refine ASeq.q rfl rfl (QOp.loadM 9 rfl rfl rfl (tok _ rfl) rfl) ?_
      refine ASeq.q rfl rfl (QOp.cmp rfl rfl rfl rfl) ?_
      refine ASeq.nil ?_
      refine AExit.then_normal ?_
      refine ACode.cond _ rfl (fun hb => ?_) (fun hb => ?_)
      · have hcv : (v.1).code ≠ 0 := by simpa using hb
        rw [if_pos hcv] at hr2
        refine ACode.seq (ACode.region ?_)
        refine ASeq.q rfl rfl (QOp.loadM 9 rfl rfl rfl (tok _ rfl) rfl) ?_
        refine ASeq.op0 rfl rfl (AOp.storeP 7 rfl rfl rfl rfl (tok _ rfl) rfl rfl rfl rfl ?_)
        refine ASeq.nil ?_
        refine ACode.ret (AExit.then_ret (AExit.in_ret (AExit.then_ret ?_)))
        refine bodyQ_ret 6 (.cell 7 rfl rfl (tok _ rfl) rfl .nil) rfl ?_
        rw [hgo, hr2, show putted (v.1, -1) i = v.1 by unfold putted; rw [if_neg hcv]]
        exact RS.of τ rfl (by rfl)
      have hcv : ¬ v.1.code ≠ 0 := by simpa using hb
      rw [if_neg hcv] at hr2
      refine ACode.skip (ACode.region ?_)
      refine ASeq.q rfl rfl (QOp.loadM 9 rfl rfl rfl (tok _ rfl) rfl) ?_
      refine ASeq.q rfl rfl (QOp.fieldM rfl rfl (tok _ rfl) rfl rfl (by decide) rfl) ?_
      refine ASeq.q rfl rfl (QOp.loadM 8 rfl rfl rfl (tok _ rfl) rfl) ?_
      refine ASeq.q rfl rfl (QOp.move rfl rfl) ?_
      refine ASeq.q rfl rfl (QOp.move rfl rfl) ?_
      refine ASeq.op rfl rfl (AOp.callP 6 rfl (by kernel_rfl) rfl rfl rfl (declare_ok v.1 m okv s.name v.2 s.fr τ) ?_ (by rintro _ _ ⟨⟩))
      rintro _ _ ⟨τ⟩
      refine ASeq.q rfl rfl (QOp.move rfl rfl) ?_
      refine ASeq.q rfl rfl (QOp.extract rfl rfl rfl) ?_
      refine ASeq.q rfl rfl (QOp.extract rfl rfl rfl) ?_
      refine ASeq.op0 rfl rfl (AOp.storeP 6 rfl rfl rfl rfl (tok _ rfl) rfl rfl rfl rfl ?_)
      refine ASeq.q rfl rfl (QOp.assign rfl rfl) ?_
      refine ASeq.nil ?_
      subst hr2
      refine (rest τ).atP 8 ?_ ?_
      · exact .cons rfl (.cons rfl (.cons rfl (.cons rfl .nil)))
      · rfl
    have hk1 : ¬ s.kind = 1 := ne_of_beq_false hb
    rw [if_neg hk1] at hr2
    refine ACode.seq (ACode.region ?_)
    refine ASeq.q rfl rfl (QOp.cmp rfl rfl rfl rfl) ?_
    refine ASeq.q rfl rfl (QOp.assign rfl rfl) ?_
    refine ASeq.nil ?_
    refine AExit.then_normal ?_
    refine ACode.cond _ rfl (fun hb => ?_) (fun hb => ?_)
    · have hk2 : s.kind = 2 := eq_of_beq hb
      rw [if_pos hk2] at hr2
      have okx := (Kept.need (c.setFunc i c.f) (decide (s.num ≥ 1) && decide (s.num ≤ 64)) s.fr 15).ok okd
      have hdec := declare_ok ((c.setFunc i c.f).need (decide (s.num ≥ 1) && decide (s.num ≤ 64)) s.fr 15) m okx s.name 3 s.fr τ
      rw [items_need] at hdec
      refine ACode.seq (ACode.region ?_)
      refine ASeq.cut 9 [(1, vi i), (2, .mp m2 0), (4, .mp m4 0), (5, .mp m5 0), (6, vi s.fr), (67, .agg ((c.setFunc i c.f).cells m)), (75, .v (.bool (decide (s.num ≥ 1) && decide (s.num ≤ 64))))] (fun meet => ?_) ?_
      · refine ASeq.q rfl rfl (QOp.loadM 6 rfl rfl rfl (tok _ rfl) rfl) ?_
        refine ASeq.q rfl rfl (QOp.fieldM rfl rfl (tok _ rfl) rfl rfl (by decide) rfl) ?_
        refine ASeq.q rfl rfl (QOp.loadM 8 rfl rfl rfl (tok _ rfl) rfl) ?_
        refine ASeq.q rfl rfl (QOp.cmp rfl rfl rfl rfl) ?_
        refine ASeq.q rfl rfl (QOp.move rfl rfl) ?_
        refine ASeq.split 71 (decide (s.num ≥ 1)) rfl (fun hb => ?_) (fun hb => ?_)
        · refine ASeq.gq _ _ rfl rfl rfl rfl (QOp.fieldM rfl rfl (tok _ rfl) rfl rfl (by decide) rfl) ?_
          refine ASeq.gq _ _ rfl rfl rfl rfl (QOp.loadM 8 rfl rfl rfl (tok _ rfl) rfl) ?_
          refine ASeq.gq _ _ rfl rfl rfl rfl (QOp.cmp rfl rfl rfl rfl) ?_
          refine ASeq.q rfl rfl (QOp.pickT rfl rfl rfl) ?_
          exact meet.at_ (.cons rfl (.cons rfl (.cons rfl (.cons rfl (.cons rfl (.cons rfl (.consB (b := decide (s.num ≤ 64)) rfl (by rw [hb]; rfl) .nil)))))))
        · refine ASeq.gno _ _ rfl rfl rfl rfl rfl ?_
          refine ASeq.gno _ _ rfl rfl rfl rfl rfl ?_
          refine ASeq.gno _ _ rfl rfl rfl rfl rfl ?_
          refine ASeq.q rfl rfl (QOp.pickF rfl rfl rfl) ?_
          exact meet.at_ (.cons rfl (.cons rfl (.cons rfl (.cons rfl (.cons rfl (.cons rfl (.consB (b := false) rfl (by rw [hb]; rfl) .nil)))))))
      refine ASeq.q rfl rfl (QOp.move rfl rfl) ?_
      refine ASeq.op rfl rfl (AOp.callP 0 rfl (by kernel_rfl) rfl rfl rfl (need_ok (c.setFunc i c.f) m (decide (s.num ≥ 1) && decide (s.num ≤ 64)) s.fr 15) ?_ (by rintro _ _ ⟨⟩))
      rintro _ _ ⟨⟩
      refine ASeq.op0 rfl rfl (AOp.storeP 6 rfl rfl rfl rfl (tok _ rfl) rfl rfl rfl rfl ?_)
      refine ASeq.nil ?_
      refine ACode.seq (ACode.seq (ACode.region ?_))
      refine ASeq.q rfl rfl (QOp.fieldM rfl rfl (tok _ rfl) rfl rfl (by decide) rfl) ?_
      refine ASeq.q rfl rfl (QOp.loadM 6 rfl rfl rfl (tok _ rfl) rfl) ?_
      refine ASeq.q rfl rfl (QOp.cmp rfl rfl rfl rfl) ?_
      refine ASeq.nil ?_
      refine AExit.then_normal ?_
      refine ACode.cond _ rfl (fun hb => ?_) (fun hb => ?_)
      · have hcv : ((c.setFunc i c.f).need (decide (s.num ≥ 1) && decide (s.num ≤ 64)) s.fr 15).code ≠ 0 := by simpa using hb
        rw [if_pos hcv] at hr2
        refine ACode.seq (ACode.region ?_)
        refine ASeq.q rfl rfl (QOp.loadM 6 rfl rfl rfl (tok _ rfl) rfl) ?_
        refine ASeq.op0 rfl rfl (AOp.storeP 7 rfl rfl rfl rfl (tok _ rfl) rfl rfl rfl rfl ?_)
        refine ASeq.nil ?_
        refine ACode.ret (AExit.then_ret (AExit.in_ret (AExit.then_ret ?_)))
        refine bodyQ_ret 6 (.cell 7 rfl rfl (tok _ rfl) rfl .nil) rfl ?_
        rw [hgo, hr2, show putted ((c.setFunc i c.f).need (decide (s.num ≥ 1) && decide (s.num ≤ 64)) s.fr 15, -1) i = (c.setFunc i c.f).need (decide (s.num ≥ 1) && decide (s.num ≤ 64)) s.fr 15 by unfold putted; rw [if_neg hcv]]
        exact RS.of τ rfl (by rw [items_need]; rfl)
      have hcv : ¬ ((c.setFunc i c.f).need (decide (s.num ≥ 1) && decide (s.num ≤ 64)) s.fr 15).code ≠ 0 := by simpa using hb
      rw [if_neg hcv] at hr2
      refine ACode.skip (ACode.region ?_)
      refine ASeq.q rfl rfl (QOp.loadM 6 rfl rfl rfl (tok _ rfl) rfl) ?_
      refine ASeq.q rfl rfl (QOp.fieldM rfl rfl (tok _ rfl) rfl rfl (by decide) rfl) ?_
      refine ASeq.q rfl rfl (QOp.loadM 8 rfl rfl rfl (tok _ rfl) rfl) ?_
      refine ASeq.q rfl rfl (QOp.move rfl rfl) ?_
      refine ASeq.op rfl rfl (AOp.callP 6 rfl (by kernel_rfl) rfl rfl rfl (hdec) ?_ (by rintro _ _ ⟨⟩))
      rintro _ _ ⟨τ⟩
      refine ASeq.q rfl rfl (QOp.move rfl rfl) ?_
      refine ASeq.q rfl rfl (QOp.extract rfl rfl rfl) ?_
      refine ASeq.q rfl rfl (QOp.extract rfl rfl rfl) ?_
      refine ASeq.op0 rfl rfl (AOp.storeP 6 rfl rfl rfl rfl (tok _ rfl) rfl rfl rfl rfl ?_)
      refine ASeq.q rfl rfl (QOp.assign rfl rfl) ?_
      refine ASeq.nil ?_
      subst hr2
      refine (rest τ).atP 8 ?_ ?_
      · exact .cons rfl (.cons rfl (.cons rfl (.cons rfl .nil)))
      · rfl
    have hk2 : ¬ s.kind = 2 := ne_of_beq_false hb
    rw [if_neg hk2] at hr2
    refine ACode.seq (ACode.region ?_)
    refine ASeq.q rfl rfl (QOp.cmp rfl rfl rfl rfl) ?_
    refine ASeq.q rfl rfl (QOp.assign rfl rfl) ?_
    refine ASeq.nil ?_
    refine AExit.then_normal ?_
    refine ACode.cond _ rfl (fun hb => ?_) (fun hb => ?_)
    · have hk3 : s.kind = 3 := eq_of_beq hb
      rw [if_pos hk3] at hr2
      have hv := hval s.a (hwf.1 (.inr (.inl hk3))) (hwf.2.1 (by omega))
      have hkv := hkv s.a
      generalize vals (c.setFunc i c.f) s.a = v at hv hkv hr2
      have okv := hkv.ok okd
      have hfind := okv.find_lt s.name
      have hcurv := slotCells_cur okv τ
      have hvf0 := okv.f0
      have hvf1 := okv.f1
      refine ACode.seq (ACode.region ?_)
      refine ASeq.q rfl rfl (QOp.loadM 6 rfl rfl rfl (tok _ rfl) rfl) ?_
      refine ASeq.q rfl rfl (QOp.fieldM rfl rfl (tok _ rfl) rfl rfl (by decide) rfl) ?_
      refine ASeq.q rfl rfl (QOp.loadM 8 rfl rfl rfl (tok _ rfl) rfl) ?_
      refine ASeq.op rfl rfl (AOp.callP 6 rfl (by kernel_rfl) rfl rfl rfl (hv) ?_ (by rintro _ _ ⟨⟩))
      rintro _ _ ⟨⟩
      refine ASeq.q rfl rfl (QOp.move rfl rfl) ?_
      refine ASeq.q rfl rfl (QOp.extract rfl rfl rfl) ?_
      refine ASeq.q rfl rfl (QOp.extract rfl rfl rfl) ?_
      refine ASeq.op rfl rfl (AOp.allocP rfl (tok _ rfl) rfl rfl (fun _ => rfl) (fun _ => ?_))
      refine ASeq.op0 rfl rfl (AOp.storeP 9 rfl rfl rfl rfl (tok _ rfl) rfl rfl rfl rfl ?_)
      refine ASeq.q rfl rfl (QOp.assign rfl rfl) ?_
      refine ASeq.nil ?_
      refine ACode.seq (ACode.seq (ACode.region ?_))
      refine ASeq.q rfl rfl (QOp.fieldM rfl rfl (tok _ rfl) rfl rfl (by decide) rfl) ?_
      refine ASeq.q rfl rfl (QOp.loadM 9 rfl rfl rfl (tok _ rfl) rfl) ?_
      refine ASeq.q rfl rfl (QOp.cmp rfl rfl rfl rfl) ?_
      refine ASeq.nil ?_
      refine AExit.then_normal ?_
      refine ACode.cond _ rfl (fun hb => ?_) (fun hb => ?_)
      · have hcv : (v.1).code ≠ 0 := by simpa using hb
        rw [if_pos hcv] at hr2
        refine ACode.seq (ACode.region ?_)
        refine ASeq.q rfl rfl (QOp.loadM 9 rfl rfl rfl (tok _ rfl) rfl) ?_
        refine ASeq.op0 rfl rfl (AOp.storeP 7 rfl rfl rfl rfl (tok _ rfl) rfl rfl rfl rfl ?_)
        refine ASeq.nil ?_
        refine ACode.ret (AExit.then_ret (AExit.in_ret (AExit.then_ret ?_)))
        refine bodyQ_ret 6 (.cell 7 rfl rfl (tok _ rfl) rfl .nil) rfl ?_
        rw [hgo, hr2, show putted (v.1, -1) i = v.1 by unfold putted; rw [if_neg hcv]]
        exact RS.of τ rfl (by rfl)
      have hcv : ¬ v.1.code ≠ 0 := by simpa using hb
      rw [if_neg hcv] at hr2
      refine ACode.skip (ACode.seq (ACode.region ?_))
      refine ASeq.q rfl rfl (QOp.loadM 9 rfl rfl rfl (tok _ rfl) rfl) ?_
      refine ASeq.q rfl rfl (QOp.fieldM rfl rfl (tok _ rfl) rfl rfl (by decide) rfl) ?_
      refine ASeq.q rfl rfl (QOp.loadM 8 rfl rfl rfl (tok _ rfl) rfl) ?_
      refine ASeq.q rfl rfl (QOp.move rfl rfl) ?_
      refine ASeq.op rfl rfl (AOp.callP 6 rfl (by kernel_rfl) rfl rfl rfl (slot_ok v.1 m okv s.name false s.fr τ) ?_ (by rintro _ _ ⟨⟩))
      rintro _ _ ⟨⟩
      refine ASeq.q rfl rfl (QOp.move rfl rfl) ?_
      refine ASeq.q rfl rfl (QOp.extract rfl rfl rfl) ?_
      refine ASeq.q rfl rfl (QOp.extract rfl rfl rfl) ?_
      refine ASeq.op0 rfl rfl (AOp.storeP 6 rfl rfl rfl rfl (tok _ rfl) rfl rfl rfl rfl ?_)
      refine ASeq.q rfl rfl (QOp.assign rfl rfl) ?_
      refine ASeq.nil ?_
      refine ACode.seq (ACode.region ?_)
      refine ASeq.q rfl rfl (QOp.fieldM rfl rfl (tok _ rfl) rfl rfl (by decide) rfl) ?_
      refine ASeq.q rfl rfl (QOp.loadM 6 rfl rfl rfl (tok _ rfl) rfl) ?_
      refine ASeq.q rfl rfl (QOp.cmp rfl rfl rfl rfl) ?_
      refine ASeq.nil ?_
      refine AExit.then_normal ?_
      refine ACode.cond _ rfl (fun hb => ?_) (fun hb => ?_)
      · have hcode : (v.1.slotOf s.name false s.fr).1.code = 0 := eq_of_beq hb
        have hok := ((need_code v.1 (v.1.slotOk (v.1.find s.name) false) s.fr 6 (by decide)).1 hcode).2
        have hsame : (v.1.slotOf s.name false s.fr).1 = v.1 := by unfold CS.slotOf; rw [hok, need_same]
        have hN0 : 0 ≤ (v.1.slotOf s.name false s.fr).2 := by
          unfold CS.slotOk at hok
          rw [Bool.and_eq_true] at hok
          exact of_decide_eq_true hok.1
        have hN1 : (v.1.slotOf s.name false s.fr).2 < v.1.cur.length := by
          rcases hfind with h' | h'
          · exact absurd hN0 (by show ¬ 0 ≤ v.1.find s.name; omega)
          · exact h'
        have hget := cur_get (c := v.1) hN0 hN1
        rw [if_pos hcode, hsame] at hr2
        rw [hsame]
        refine ACode.drawn [[], [], [], [2], [2, 3], [], [5], [2, 3, 4, 5, 6], [2, 3, 4, 5, 6, 7], [], [2, 3, 4, 5, 6, 7, 8, 9], [2, 3, 4, 5, 6, 7, 8, 9, 10], [1, 2, 3, 4, 5, 6, 7, 8, 9, 10, 11], [], [0, 1, 2, 3, 4, 5, 6, 7, 8, 9, 10, 11, 12, 13], [0, 1, 2, 3, 4, 5, 6, 7, 8, 9, 10, 11, 12, 13, 14]] (by kernel_rfl) mixed ?_
        refine DAny.ld 0 rfl rfl (by kernel_rfl) rfl (.does _ _ rfl (.none rfl) (QOp.loadM 6 rfl rfl rfl (tok _ rfl) rfl)) ?_
        refine DAny.qu 1 rfl rfl (by kernel_rfl) rfl (fun _ => .does _ _ rfl (.none rfl) (QOp.move rfl rfl)) ?_
        refine DAny.qu 2 rfl rfl (by kernel_rfl) rfl (fun _ => .does _ _ rfl (.none rfl) (QOp.fieldM rfl rfl (tok _ rfl) rfl rfl (by decide) rfl)) ?_
        refine DAny.qu 3 rfl rfl (by kernel_rfl) rfl (fun _ => .does _ _ rfl (.none rfl) (QOp.fieldM rfl rfl (tok _ rfl) rfl rfl (by decide) rfl)) ?_
        refine DAny.ld 4 rfl rfl (by kernel_rfl) rfl (.does _ _ rfl (.none rfl) (QOp.loadM 6 rfl rfl rfl (tok _ rfl) rfl)) ?_
        refine DAny.qu 5 rfl rfl (by kernel_rfl) rfl (fun _ => .does _ _ rfl (.none rfl) (QOp.fieldM rfl rfl (tok _ rfl) rfl rfl (by decide) rfl)) ?_
        refine DAny.ld 6 rfl rfl (by kernel_rfl) rfl (.does _ _ rfl (.none rfl) (QOp.loadM 6 rfl rfl rfl (tok _ rfl) rfl)) ?_
        refine DAny.qu 7 rfl rfl (by kernel_rfl) rfl (fun _ => .does _ _ rfl (.none rfl) (QOp.indexM rfl rfl rfl (tok _ rfl) rfl (tok _ rfl) (by omega) (by omega) rfl)) ?_
        refine DAny.ld 8 rfl rfl (by kernel_rfl) rfl (.does _ _ rfl (.none rfl) (QOp.loadAt 4 rfl rfl rfl (tok _ rfl) rfl (by assumption))) ?_
        refine DAny.qu 9 rfl rfl (by kernel_rfl) rfl (fun _ => .does _ _ rfl (.none rfl) (QOp.move rfl rfl)) ?_
        refine DAny.qu 10 rfl rfl (by kernel_rfl) rfl (fun _ => .does _ _ rfl (.none rfl) (QOp.indexI rfl rfl rfl (tok _ rfl) rfl (tok _ rfl) (by omega) (by assumption))) ?_
        refine DAny.qu 11 rfl rfl (by kernel_rfl) rfl (fun _ => .does _ _ rfl (.none rfl) (QOp.loadI rfl rfl (tok _ rfl) rfl)) ?_
        refine DAny.qu 12 rfl rfl (by kernel_rfl) rfl (fun _ => .does _ _ rfl (.none rfl) (QOp.cmp rfl rfl rfl rfl)) ?_
        refine DAny.qu 13 rfl rfl (by kernel_rfl) rfl (fun _ => .does _ _ rfl (.none rfl) (QOp.move rfl rfl)) ?_
        refine DAny.ef 14 rfl (by kernel_rfl) (.none rfl) rfl rfl (AOp.callP 0 rfl (by kernel_rfl) rfl rfl rfl (need_ok v.1 m _ s.fr 8) ?_ (by rintro _ _ ⟨⟩))
        rintro _ _ ⟨⟩
        refine ⟨(by ((exact AllQ.nil))), ?_⟩
        refine DAny.ef0 15 rfl (by kernel_rfl) (.none rfl) rfl rfl (AOp.storeP 6 rfl rfl rfl rfl (tok _ rfl) rfl rfl rfl rfl ⟨(by ((exact AllQ.nil))), ?_⟩)
        refine DAny.done (by kernel_rfl) ?_
        subst hr2
        refine (rest τ).atP 8 ?_ ?_
        · exact .cons rfl (.cons rfl (.cons rfl (.cons rfl .nil)))
        · rw [items_need]; rfl
      · have hcode : ¬ (v.1.slotOf s.name false s.fr).1.code = 0 := ne_of_beq_false hb
        rw [if_neg hcode] at hr2
        refine ACode.skip ?_
        subst hr2
        refine (rest τ).atP 8 ?_ ?_
        · exact .cons rfl (.cons rfl (.cons rfl (.cons rfl .nil)))
        · rw [items_slot]; rfl
    have hk3 : ¬ s.kind = 3 := ne_of_beq_false hb
    rw [if_neg hk3] at hr2
    refine ACode.seq (ACode.region ?_)
    refine ASeq.q rfl rfl (QOp.cmp rfl rfl rfl rfl) ?_
    refine ASeq.q rfl rfl (QOp.assign rfl rfl) ?_
    refine ASeq.nil ?_
    refine AExit.then_normal ?_
    refine ACode.cond _ rfl (fun hb => ?_) (fun hb => ?_)
    · have hk4 : s.kind = 4 := eq_of_beq hb
      rw [if_pos hk4] at hr2
      have hv := hval s.a (hwf.1 (.inr (.inr (.inl hk4)))) (hwf.2.1 (by omega))
      have hkv := hkv s.a
      have hbb := hwf.2.2.1 hk4
      generalize vals (c.setFunc i c.f) s.a = v at hv hkv hr2
      have okv := hkv.ok okd
      have htv : v.1.t = c.t := hkv.t
      have hv2 := vals_walk v.1 m s.b τ okv (by rw [htv]; exact hw) hbb.1 (by rw [htv]; exact hbb.2)
      have hkw := Kept.vals v.1 s.b
      generalize vals v.1 s.b = w at hv2 hkw hr2
      have okw := hkw.ok okv
      refine ACode.seq (ACode.region ?_)
      refine ASeq.q rfl rfl (QOp.loadM 6 rfl rfl rfl (tok _ rfl) rfl) ?_
      refine ASeq.q rfl rfl (QOp.fieldM rfl rfl (tok _ rfl) rfl rfl (by decide) rfl) ?_
      refine ASeq.q rfl rfl (QOp.loadM 8 rfl rfl rfl (tok _ rfl) rfl) ?_
      refine ASeq.op rfl rfl (AOp.callP 6 rfl (by kernel_rfl) rfl rfl rfl (hv) ?_ (by rintro _ _ ⟨⟩))
      rintro _ _ ⟨⟩
      refine ASeq.q rfl rfl (QOp.move rfl rfl) ?_
      refine ASeq.q rfl rfl (QOp.extract rfl rfl rfl) ?_
      refine ASeq.q rfl rfl (QOp.extract rfl rfl rfl) ?_
      refine ASeq.op rfl rfl (AOp.allocP rfl (tok _ rfl) rfl rfl (fun _ => rfl) (fun _ => ?_))
      refine ASeq.op0 rfl rfl (AOp.storeP 9 rfl rfl rfl rfl (tok _ rfl) rfl rfl rfl rfl ?_)
      refine ASeq.q rfl rfl (QOp.assign rfl rfl) ?_
      refine ASeq.nil ?_
      refine ACode.seq (ACode.region ?_)
      refine ASeq.q rfl rfl (QOp.loadM 9 rfl rfl rfl (tok _ rfl) rfl) ?_
      refine ASeq.q rfl rfl (QOp.fieldM rfl rfl (tok _ rfl) rfl rfl (by decide) rfl) ?_
      refine ASeq.q rfl rfl (QOp.loadM 8 rfl rfl rfl (tok _ rfl) rfl) ?_
      refine ASeq.op rfl rfl (AOp.callP 6 rfl (by kernel_rfl) rfl rfl rfl (hv2) ?_ (by rintro _ _ ⟨⟩))
      rintro _ _ ⟨⟩
      refine ASeq.q rfl rfl (QOp.move rfl rfl) ?_
      refine ASeq.q rfl rfl (QOp.extract rfl rfl rfl) ?_
      refine ASeq.q rfl rfl (QOp.extract rfl rfl rfl) ?_
      refine ASeq.op rfl rfl (AOp.allocP rfl (tok _ rfl) rfl rfl (fun _ => rfl) (fun _ => ?_))
      refine ASeq.op0 rfl rfl (AOp.storeP 10 rfl rfl rfl rfl (tok _ rfl) rfl rfl rfl rfl ?_)
      refine ASeq.q rfl rfl (QOp.assign rfl rfl) ?_
      refine ASeq.nil ?_
      refine ACode.seq (ACode.seq (ACode.region ?_))
      refine ASeq.q rfl rfl (QOp.fieldM rfl rfl (tok _ rfl) rfl rfl (by decide) rfl) ?_
      refine ASeq.q rfl rfl (QOp.loadM 10 rfl rfl rfl (tok _ rfl) rfl) ?_
      refine ASeq.q rfl rfl (QOp.cmp rfl rfl rfl rfl) ?_
      refine ASeq.nil ?_
      refine AExit.then_normal ?_
      refine ACode.cond _ rfl (fun hb => ?_) (fun hb => ?_)
      · have hcv : (w.1).code ≠ 0 := by simpa using hb
        rw [if_pos hcv] at hr2
        refine ACode.seq (ACode.region ?_)
        refine ASeq.q rfl rfl (QOp.loadM 10 rfl rfl rfl (tok _ rfl) rfl) ?_
        refine ASeq.op0 rfl rfl (AOp.storeP 7 rfl rfl rfl rfl (tok _ rfl) rfl rfl rfl rfl ?_)
        refine ASeq.nil ?_
        refine ACode.ret (AExit.then_ret (AExit.in_ret (AExit.then_ret ?_)))
        refine bodyQ_ret 6 (.cell 7 rfl rfl (tok _ rfl) rfl .nil) rfl ?_
        rw [hgo, hr2, show putted (w.1, -1) i = w.1 by unfold putted; rw [if_neg hcv]]
        exact RS.of τ rfl (by rfl)
      have hcv : ¬ w.1.code ≠ 0 := by simpa using hb
      rw [if_neg hcv] at hr2
      refine ACode.skip (ACode.seq (ACode.region ?_))
      refine ASeq.q rfl rfl (QOp.loadM 10 rfl rfl rfl (tok _ rfl) rfl) ?_
      refine ASeq.q rfl rfl (QOp.fieldM rfl rfl (tok _ rfl) rfl rfl (by decide) rfl) ?_
      refine ASeq.q rfl rfl (QOp.loadM 8 rfl rfl rfl (tok _ rfl) rfl) ?_
      refine ASeq.q rfl rfl (QOp.move rfl rfl) ?_
      refine ASeq.op rfl rfl (AOp.callP 6 rfl (by kernel_rfl) rfl rfl rfl (slot_ok w.1 m okw s.name true s.fr τ) ?_ (by rintro _ _ ⟨⟩))
      rintro _ _ ⟨⟩
      refine ASeq.q rfl rfl (QOp.move rfl rfl) ?_
      refine ASeq.q rfl rfl (QOp.extract rfl rfl rfl) ?_
      refine ASeq.q rfl rfl (QOp.extract rfl rfl rfl) ?_
      refine ASeq.op0 rfl rfl (AOp.storeP 6 rfl rfl rfl rfl (tok _ rfl) rfl rfl rfl rfl ?_)
      refine ASeq.q rfl rfl (QOp.assign rfl rfl) ?_
      refine ASeq.nil ?_
      refine ACode.region ?_
      refine ASeq.q rfl rfl (QOp.loadM 6 rfl rfl rfl (tok _ rfl) rfl) ?_
      refine ASeq.q rfl rfl (QOp.move rfl rfl) ?_
      refine ASeq.q rfl rfl (QOp.cmp rfl rfl rfl rfl) ?_
      refine ASeq.q rfl rfl (QOp.move rfl rfl) ?_
      refine ASeq.split 160 (v.2 == 1) rfl (fun hb => ?_) (fun hb => ?_)
      · rw [hb, Bool.true_and] at hr2
        refine ASeq.gq _ _ rfl rfl rfl rfl (QOp.move rfl rfl) ?_
        refine ASeq.gq _ _ rfl rfl rfl rfl (QOp.cmp rfl rfl rfl rfl) ?_
        refine ASeq.q rfl rfl (QOp.pickT rfl rfl rfl) ?_
        refine ASeq.q rfl rfl (QOp.move rfl rfl) ?_
        refine ASeq.op rfl rfl (AOp.callP 0 rfl (by kernel_rfl) rfl rfl rfl (need_ok _ m _ s.fr 8) ?_ (by rintro _ _ ⟨⟩))
        rintro _ _ ⟨⟩
        refine ASeq.op0 rfl rfl (AOp.storeP 6 rfl rfl rfl rfl (tok _ rfl) rfl rfl rfl rfl ?_)
        refine ASeq.nil ?_
        subst hr2
        refine (rest τ).atP 8 ?_ ?_
        · exact .cons rfl (.cons rfl (.cons rfl (.cons rfl .nil)))
        · rw [items_need, items_slot]; rfl
      · rw [hb, Bool.false_and] at hr2
        refine ASeq.gno _ _ rfl rfl rfl rfl rfl ?_
        refine ASeq.gno _ _ rfl rfl rfl rfl rfl ?_
        refine ASeq.q rfl rfl (QOp.pickF rfl rfl rfl) ?_
        refine ASeq.q rfl rfl (QOp.move rfl rfl) ?_
        refine ASeq.op rfl rfl (AOp.callP 0 rfl (by kernel_rfl) rfl rfl rfl (need_ok _ m _ s.fr 8) ?_ (by rintro _ _ ⟨⟩))
        rintro _ _ ⟨⟩
        refine ASeq.op0 rfl rfl (AOp.storeP 6 rfl rfl rfl rfl (tok _ rfl) rfl rfl rfl rfl ?_)
        refine ASeq.nil ?_
        subst hr2
        refine (rest τ).atP 8 ?_ ?_
        · exact .cons rfl (.cons rfl (.cons rfl (.cons rfl .nil)))
        · rw [items_need, items_slot]; rfl
    have hk4 : ¬ s.kind = 4 := ne_of_beq_false hb
    rw [if_neg hk4] at hr2
    refine ACode.seq (ACode.region ?_)
    refine ASeq.q rfl rfl (QOp.cmp rfl rfl rfl rfl) ?_
    refine ASeq.q rfl rfl (QOp.assign rfl rfl) ?_
    refine ASeq.nil ?_
    refine AExit.then_normal ?_
    refine ACode.cond _ rfl (fun hb => ?_) (fun hb => ?_)
    · have hk5 : s.kind = 5 := eq_of_beq hb
      rw [if_pos hk5] at hr2
      have hv := hval s.a (hwf.1 (.inr (.inr (.inr (.inl hk5))))) (hwf.2.1 (by omega))
      have hkv := hkv s.a
      generalize vals (c.setFunc i c.f) s.a = v at hv hkv hr2
      have okv := hkv.ok okd
      have hkx := hkv.trans (Kept.need v.1 (v.2 == 2) s.fr 8)
      have okx := hkx.ok okd
      have htx : (v.1.need (v.2 == 2) s.fr 8).t = c.t := hkx.t
      have hbx : (v.1.need (v.2 == 2) s.fr 8).block = c.block := hkx.block
      have hlx : (v.1.need (v.2 == 2) s.fr 8).loops = c.loops := hkx.loops
      have hblk := block_walk6 hS hK (v.1.need (v.2 == 2) s.fr 8) m s.thn τ okx (by rw [htx]; exact hw) (by rw [htx]; exact hw2)
        (fun k hk => by have := hwf.2.2.2.1 k hk; rw [htx]; omega) hwf.2.2.2.2.2.1 (by rw [hbx]; exact hb0) (by rw [hbx]; omega) (by rw [hlx]; exact hl0) (by rw [hlx]; omega)
      rw [items_need] at hblk
      have hk1' := KeptS.blockOf hK (v.1.need (v.2 == 2) s.fr 8) s.thn okx
      generalize blockOf (stm6 n) (v.1.need (v.2 == 2) s.fr 8) s.thn = y at hblk hk1' hr2
      have oky := hk1'.ok okx
      have hty : y.t = c.t := hk1'.t.trans htx
      have hby : y.block = c.block := hk1'.block.trans hbx
      have hly : y.loops = c.loops := hk1'.loops.trans hlx
      have hblk2 := fun τ' => block_walk6 hS hK y m s.els τ' oky (by rw [hty]; exact hw) (by rw [hty]; exact hw2)
        (fun k hk => by have := hwf.2.2.2.2.1 k hk; rw [hty]; omega) hwf.2.2.2.2.2.2 (by rw [hby]; exact hb0) (by rw [hby]; omega) (by rw [hly]; exact hl0) (by rw [hly]; omega)
      refine ACode.seq (ACode.region ?_)
      refine ASeq.q rfl rfl (QOp.loadM 6 rfl rfl rfl (tok _ rfl) rfl) ?_
      refine ASeq.q rfl rfl (QOp.fieldM rfl rfl (tok _ rfl) rfl rfl (by decide) rfl) ?_
      refine ASeq.q rfl rfl (QOp.loadM 8 rfl rfl rfl (tok _ rfl) rfl) ?_
      refine ASeq.op rfl rfl (AOp.callP 6 rfl (by kernel_rfl) rfl rfl rfl (hv) ?_ (by rintro _ _ ⟨⟩))
      rintro _ _ ⟨⟩
      refine ASeq.q rfl rfl (QOp.move rfl rfl) ?_
      refine ASeq.q rfl rfl (QOp.extract rfl rfl rfl) ?_
      refine ASeq.q rfl rfl (QOp.extract rfl rfl rfl) ?_
      refine ASeq.op rfl rfl (AOp.allocP rfl (tok _ rfl) rfl rfl (fun _ => rfl) (fun _ => ?_))
      refine ASeq.op0 rfl rfl (AOp.storeP 9 rfl rfl rfl rfl (tok _ rfl) rfl rfl rfl rfl ?_)
      refine ASeq.q rfl rfl (QOp.assign rfl rfl) ?_
      refine ASeq.nil ?_
      refine ACode.seq ?_
      refine ACode.drawn [[], [], [1], [], [0, 1, 2, 3], [], [5], [0, 1, 2, 3, 4, 5, 6], [0, 1, 2, 3, 4, 5, 6, 7]] (by kernel_rfl) mixed ?_
      refine DAny.ld 0 rfl rfl (by kernel_rfl) rfl (.does _ _ rfl (.none rfl) (QOp.loadM 9 rfl rfl rfl (tok _ rfl) rfl)) ?_
      refine DAny.qu 1 rfl rfl (by kernel_rfl) rfl (fun _ => .does _ _ rfl (.none rfl) (QOp.move rfl rfl)) ?_
      refine DAny.qu 2 rfl rfl (by kernel_rfl) rfl (fun _ => .does _ _ rfl (.none rfl) (QOp.cmp rfl rfl rfl rfl)) ?_
      refine DAny.qu 3 rfl rfl (by kernel_rfl) rfl (fun _ => .does _ _ rfl (.none rfl) (QOp.move rfl rfl)) ?_
      refine DAny.qu 5 rfl rfl (by kernel_rfl) rfl (fun _ => .does _ _ rfl (.none rfl) (QOp.fieldM rfl rfl (tok _ rfl) rfl rfl (by decide) rfl)) ?_
      refine DAny.ld 6 rfl rfl (by kernel_rfl) rfl (.does _ _ rfl (.none rfl) (QOp.loadM 8 rfl rfl rfl (tok _ rfl) rfl)) ?_
      refine DAny.ef 4 rfl (by kernel_rfl) (.none rfl) rfl rfl (AOp.callP 0 rfl (by kernel_rfl) rfl rfl rfl (need_ok v.1 m (v.2 == 2) s.fr 8) ?_ (by rintro _ _ ⟨⟩))
      rintro _ _ ⟨⟩
      refine ⟨(by ((refine AllQ.cons (.does _ _ rfl (.none rfl) (QOp.loadM 8 rfl rfl rfl (tok _ rfl) rfl)) ?_); (exact AllQ.nil))), ?_⟩
      refine DAny.ef 7 rfl (by kernel_rfl) (.none rfl) rfl rfl (AOp.callP 6 rfl (by kernel_rfl) rfl rfl rfl (hblk) ?_ (by rintro _ _ ⟨⟩))
      rintro _ _ ⟨τ⟩
      refine ⟨(by ((exact AllQ.nil))), ?_⟩
      refine DAny.ef0 8 rfl (by kernel_rfl) (.none rfl) rfl rfl (AOp.storeP 6 rfl rfl rfl rfl (tok _ rfl) rfl rfl rfl rfl ⟨(by ((exact AllQ.nil))), ?_⟩)
      refine DAny.done (by kernel_rfl) ?_
      refine ACode.region ?_
      refine ASeq.q rfl rfl (QOp.loadM 6 rfl rfl rfl (tok _ rfl) rfl) ?_
      refine ASeq.q rfl rfl (QOp.fieldM rfl rfl (tok _ rfl) rfl rfl (by decide) rfl) ?_
      refine ASeq.q rfl rfl (QOp.loadM 8 rfl rfl rfl (tok _ rfl) rfl) ?_
      refine ASeq.op rfl rfl (AOp.callP 6 rfl (by kernel_rfl) rfl rfl rfl (hblk2 _) ?_ (by rintro _ _ ⟨⟩))
      rintro _ _ ⟨τ⟩
      refine ASeq.op0 rfl rfl (AOp.storeP 6 rfl rfl rfl rfl (tok _ rfl) rfl rfl rfl rfl ?_)
      refine ASeq.nil ?_
      subst hr2
      refine (rest τ).atP 8 ?_ ?_
      · exact .cons rfl (.cons rfl (.cons rfl (.cons rfl .nil)))
      · rfl
    have hk5 : ¬ s.kind = 5 := ne_of_beq_false hb
    rw [if_neg hk5] at hr2
    refine ACode.seq (ACode.region ?_)
    refine ASeq.q rfl rfl (QOp.cmp rfl rfl rfl rfl) ?_
    refine ASeq.q rfl rfl (QOp.assign rfl rfl) ?_
    refine ASeq.nil ?_
    refine AExit.then_normal ?_
    refine ACode.cond _ rfl (fun hb => ?_) (fun hb => ?_)
    · have hk6 : s.kind = 6 := eq_of_beq hb
      rw [if_pos hk6] at hr2
      have hv := hval s.a (hwf.1 (.inr (.inr (.inr (.inr (.inl hk6)))))) (hwf.2.1 (by omega))
      have hkv := hkv s.a
      generalize vals (c.setFunc i c.f) s.a = v at hv hkv hr2
      have okv := hkv.ok okd
      have hvl : v.1.loops = (c.setFunc i c.f).loops := hkv.loops
      rw [← hvl] at hr2
      have okl : ({ v.1 with loops := v.1.loops + 1 } : CS).ok := { okv with }
      have hkx := Kept.need { v.1 with loops := v.1.loops + 1 } (v.2 == 2) s.fr 8
      have okx := hkx.ok okl
      have hnd := need_ok { v.1 with loops := v.1.loops + 1 } m (v.2 == 2) s.fr 8
      have hit := items_need { v.1 with loops := v.1.loops + 1 } (v.2 == 2) s.fr 8 m τ
      generalize hx : CS.need { v.1 with loops := v.1.loops + 1 } (v.2 == 2) s.fr 8 = x at hkx okx hnd hit hr2
      have htx : x.t = c.t := hkx.t.trans hkv.t
      have hbx : x.block = c.block := hkx.block.trans hkv.block
      have hlx : x.loops = c.loops + 1 := by rw [hkx.loops]; show v.1.loops + 1 = c.loops + 1; rw [hvl]; rfl
      have hblk := block_walk6 hS hK x m s.thn τ okx (by rw [htx]; exact hw) (by rw [htx]; exact hw2)
        (fun k hk => by have := hwf.2.2.2.1 k hk; rw [htx]; omega) hwf.2.2.2.2.2.1 (by rw [hbx]; exact hb0) (by rw [hbx]; omega) (by rw [hlx]; omega) (by rw [hlx]; omega)
      rw [hit] at hblk
      have hk1' := KeptS.blockOf hK x s.thn okx
      generalize blockOf (stm6 n) x s.thn = y at hblk hk1' hr2
      have hly : y.loops = c.loops + 1 := hk1'.loops.trans hlx
      have hvc : v.1.loops = c.loops := hvl
      rw [hvc] at hr2
      have hlv : v.1.loops + 1 ≤ smax := by rw [hvc]; omega
      have hlv0 : 0 ≤ v.1.loops := by rw [hvc]; exact hl0
      refine ACode.seq (ACode.region ?_)
      refine ASeq.q rfl rfl (QOp.loadM 6 rfl rfl rfl (tok _ rfl) rfl) ?_
      refine ASeq.q rfl rfl (QOp.fieldM rfl rfl (tok _ rfl) rfl rfl (by decide) rfl) ?_
      refine ASeq.q rfl rfl (QOp.loadM 8 rfl rfl rfl (tok _ rfl) rfl) ?_
      refine ASeq.op rfl rfl (AOp.callP 6 rfl (by kernel_rfl) rfl rfl rfl (hv) ?_ (by rintro _ _ ⟨⟩))
      rintro _ _ ⟨⟩
      refine ASeq.q rfl rfl (QOp.move rfl rfl) ?_
      refine ASeq.q rfl rfl (QOp.extract rfl rfl rfl) ?_
      refine ASeq.q rfl rfl (QOp.extract rfl rfl rfl) ?_
      refine ASeq.op rfl rfl (AOp.allocP rfl (tok _ rfl) rfl rfl (fun _ => rfl) (fun _ => ?_))
      refine ASeq.op0 rfl rfl (AOp.storeP 9 rfl rfl rfl rfl (tok _ rfl) rfl rfl rfl rfl ?_)
      refine ASeq.q rfl rfl (QOp.assign rfl rfl) ?_
      refine ASeq.nil ?_
      refine ACode.seq (ACode.region ?_)
      refine ASeq.q rfl rfl (QOp.fieldM rfl rfl (tok _ rfl) rfl rfl (by decide) rfl) ?_
      refine ASeq.q rfl rfl (QOp.loadM 9 rfl rfl rfl (tok _ rfl) rfl) ?_
      refine ASeq.q rfl rfl (QOp.ar64 rfl rfl rfl rfl ⟨by omega, by omega⟩) ?_
      refine ASeq.q rfl rfl (QOp.fieldM rfl rfl (tok _ rfl) rfl rfl (by decide) rfl) ?_
      refine ASeq.op0 rfl rfl (AOp.storeP 9 rfl rfl rfl rfl (tok _ rfl) rfl rfl rfl rfl ?_)
      refine ASeq.nil ?_
      refine ACode.seq ?_
      refine ACode.drawn [[], [], [1], [], [0, 1, 2, 3], [], [5], [0, 1, 2, 3, 4, 5, 6], [0, 1, 2, 3, 4, 5, 6, 7]] (by kernel_rfl) mixed ?_
      refine DAny.ld 0 rfl rfl (by kernel_rfl) rfl (.does _ _ rfl (.none rfl) (QOp.loadM 9 rfl rfl rfl (tok _ rfl) rfl)) ?_
      refine DAny.qu 1 rfl rfl (by kernel_rfl) rfl (fun _ => .does _ _ rfl (.none rfl) (QOp.move rfl rfl)) ?_
      refine DAny.qu 2 rfl rfl (by kernel_rfl) rfl (fun _ => .does _ _ rfl (.none rfl) (QOp.cmp rfl rfl rfl rfl)) ?_
      refine DAny.qu 3 rfl rfl (by kernel_rfl) rfl (fun _ => .does _ _ rfl (.none rfl) (QOp.move rfl rfl)) ?_
      refine DAny.qu 5 rfl rfl (by kernel_rfl) rfl (fun _ => .does _ _ rfl (.none rfl) (QOp.fieldM rfl rfl (tok _ rfl) rfl rfl (by decide) rfl)) ?_
      refine DAny.ld 6 rfl rfl (by kernel_rfl) rfl (.does _ _ rfl (.none rfl) (QOp.loadM 8 rfl rfl rfl (tok _ rfl) rfl)) ?_
      refine DAny.ef 4 rfl (by kernel_rfl) (.none rfl) rfl rfl (AOp.callP 0 rfl (by kernel_rfl) rfl rfl rfl (hnd) ?_ (by rintro _ _ ⟨⟩))
      rintro _ _ ⟨⟩
      refine ⟨(by ((refine AllQ.cons (.does _ _ rfl (.none rfl) (QOp.loadM 8 rfl rfl rfl (tok _ rfl) rfl)) ?_); (exact AllQ.nil))), ?_⟩
      refine DAny.ef 7 rfl (by kernel_rfl) (.none rfl) rfl rfl (AOp.callP 6 rfl (by kernel_rfl) rfl rfl rfl (hblk) ?_ (by rintro _ _ ⟨⟩))
      rintro _ _ ⟨τ⟩
      refine ⟨(by ((exact AllQ.nil))), ?_⟩
      refine DAny.ef0 8 rfl (by kernel_rfl) (.none rfl) rfl rfl (AOp.storeP 6 rfl rfl rfl rfl (tok _ rfl) rfl rfl rfl rfl ⟨(by ((exact AllQ.nil))), ?_⟩)
      refine DAny.done (by kernel_rfl) ?_
      refine ACode.region ?_
      refine ASeq.q rfl rfl (QOp.fieldM rfl rfl (tok _ rfl) rfl rfl (by decide) rfl) ?_
      refine ASeq.q rfl rfl (QOp.loadM 6 rfl rfl rfl (tok _ rfl) rfl) ?_
      refine ASeq.q rfl rfl (QOp.ar64 rfl rfl rfl rfl ⟨by omega, by omega⟩) ?_
      refine ASeq.q rfl rfl (QOp.fieldM rfl rfl (tok _ rfl) rfl rfl (by decide) rfl) ?_
      refine ASeq.op0 rfl rfl (AOp.storeP 6 rfl rfl rfl rfl (tok _ rfl) rfl rfl rfl rfl ?_)
      refine ASeq.nil ?_
      subst hr2
      refine (rest τ).atP 8 ?_ ?_
      · exact .cons rfl (.cons rfl (.cons rfl (.cons rfl .nil)))
      · rw [show c.loops = y.loops - 1 by omega]; rfl
    have hk6 : ¬ s.kind = 6 := ne_of_beq_false hb
    rw [if_neg hk6] at hr2
    refine ACode.seq (ACode.seq (ACode.region ?_))
    refine ASeq.q rfl rfl (QOp.cmp rfl rfl rfl rfl) ?_
    refine ASeq.q rfl rfl (QOp.assign rfl rfl) ?_
    refine ASeq.nil ?_
    refine AExit.then_normal ?_
    refine ACode.cond _ rfl (fun hb => ?_) (fun hb => ?_)
    · have hk7 : s.kind = 7 := eq_of_beq hb
      rw [if_pos (.inl hk7)] at hr2
      refine ACode.skip ?_
      refine ACode.cond _ rfl (fun hb2 => ?_) (fun hb2 => by rw [hb] at hb2; cases hb2)
      refine ACode.region ?_
      refine ASeq.q rfl rfl (QOp.loadM 6 rfl rfl rfl (tok _ rfl) rfl) ?_
      refine ASeq.q rfl rfl (QOp.fieldM rfl rfl (tok _ rfl) rfl rfl (by decide) rfl) ?_
      refine ASeq.q rfl rfl (QOp.loadM 6 rfl rfl rfl (tok _ rfl) rfl) ?_
      refine ASeq.q rfl rfl (QOp.cmp rfl rfl rfl rfl) ?_
      refine ASeq.q rfl rfl (QOp.move rfl rfl) ?_
      refine ASeq.op rfl rfl (AOp.callP 0 rfl (by kernel_rfl) rfl rfl rfl (need_ok (c.setFunc i c.f) m (decide ((c.setFunc i c.f).loops > 0)) s.fr 9) ?_ (by rintro _ _ ⟨⟩))
      rintro _ _ ⟨⟩
      refine ASeq.op0 rfl rfl (AOp.storeP 6 rfl rfl rfl rfl (tok _ rfl) rfl rfl rfl rfl ?_)
      refine ASeq.nil ?_
      subst hr2
      refine (rest τ).atP 8 ?_ ?_
      · exact .cons rfl (.cons rfl (.cons rfl (.cons rfl .nil)))
      · rw [items_need]; rfl
    have hk7 : ¬ s.kind = 7 := ne_of_beq_false hb
    refine ACode.region ?_
    refine ASeq.q rfl rfl (QOp.cmp rfl rfl rfl rfl) ?_
    refine ASeq.q rfl rfl (QOp.assign rfl rfl) ?_
    refine ASeq.nil ?_
    refine ACode.cond _ rfl (fun hb => ?_) (fun hb => ?_)
    · have hk8 : s.kind = 8 := eq_of_beq hb
      rw [if_pos (.inr hk8)] at hr2
      refine ACode.region ?_
      refine ASeq.q rfl rfl (QOp.loadM 6 rfl rfl rfl (tok _ rfl) rfl) ?_
      refine ASeq.q rfl rfl (QOp.fieldM rfl rfl (tok _ rfl) rfl rfl (by decide) rfl) ?_
      refine ASeq.q rfl rfl (QOp.loadM 6 rfl rfl rfl (tok _ rfl) rfl) ?_
      refine ASeq.q rfl rfl (QOp.cmp rfl rfl rfl rfl) ?_
      refine ASeq.q rfl rfl (QOp.move rfl rfl) ?_
      refine ASeq.op rfl rfl (AOp.callP 0 rfl (by kernel_rfl) rfl rfl rfl (need_ok (c.setFunc i c.f) m (decide ((c.setFunc i c.f).loops > 0)) s.fr 9) ?_ (by rintro _ _ ⟨⟩))
      rintro _ _ ⟨⟩
      refine ASeq.op0 rfl rfl (AOp.storeP 6 rfl rfl rfl rfl (tok _ rfl) rfl rfl rfl rfl ?_)
      refine ASeq.nil ?_
      subst hr2
      refine (rest τ).atP 8 ?_ ?_
      · exact .cons rfl (.cons rfl (.cons rfl (.cons rfl .nil)))
      · rw [items_need]; rfl
    have hk8 : ¬ s.kind = 8 := ne_of_beq_false hb
    rw [if_neg (fun h => h.elim hk7 hk8)] at hr2
    have hlS := h.lS
    have hrowf : (c.t.funcs.map Fu.cells)[c.f.toNat]? = some ((c.setFunc i c.f).fu (c.setFunc i c.f).f).cells := by
      have : c.f.toNat < c.t.funcs.length := by omega
      rw [fu_get this]
      simp only [CS.fu, CS.setFunc, List.getD_eq_getElem?_getD, List.getElem?_eq_getElem this, Option.getD_some]
    refine ACode.seq (ACode.region ?_)
    refine ASeq.q rfl rfl (QOp.cmp rfl rfl rfl rfl) ?_
    refine ASeq.q rfl rfl (QOp.assign rfl rfl) ?_
    refine ASeq.nil ?_
    refine AExit.then_normal ?_
    refine ACode.cond _ rfl (fun hb => ?_) (fun hb => ?_)
    · have hk9 : s.kind = 9 := eq_of_beq hb
      rw [if_pos hk9] at hr2
      refine ACode.seq (ACode.region ?_)
      refine ASeq.q rfl rfl (QOp.assign rfl rfl) ?_
      refine ASeq.nil ?_
      refine ACode.seq (ACode.seq (ACode.region ?_))
      refine ASeq.q rfl rfl (QOp.fieldM rfl rfl (tok _ rfl) rfl rfl (by decide) rfl) ?_
      refine ASeq.q rfl rfl (QOp.loadM 8 rfl rfl rfl (tok _ rfl) rfl) ?_
      refine ASeq.q rfl rfl (QOp.cmp rfl rfl rfl rfl) ?_
      refine ASeq.nil ?_
      refine AExit.then_normal ?_
      refine ACode.cond _ rfl (fun hb => ?_) (fun hb => ?_)
      · have ha : s.a ≥ 0 := of_decide_eq_true hb
        rw [if_pos ha] at hr2
        have hv := hval s.a ha (hwf.2.1 (by omega))
        have hkv := hkv s.a
        generalize vals (c.setFunc i c.f) s.a = v at hv hkv hr2
        have htv : v.1.t = c.t := hkv.t
        have hfv : v.1.f = c.f := hkv.f
        have hrowv : (v.1.t.funcs.map Fu.cells)[v.1.f.toNat]? = some ((c.setFunc i c.f).fu (c.setFunc i c.f).f).cells := by rw [htv, hfv]; exact hrowf
        have hvf0 : 0 ≤ v.1.f := by rw [hfv]; exact hf0
        refine ACode.region ?_
        refine ASeq.q rfl rfl (QOp.loadM 6 rfl rfl rfl (tok _ rfl) rfl) ?_
        refine ASeq.q rfl rfl (QOp.fieldM rfl rfl (tok _ rfl) rfl rfl (by decide) rfl) ?_
        refine ASeq.q rfl rfl (QOp.loadM 8 rfl rfl rfl (tok _ rfl) rfl) ?_
        refine ASeq.op rfl rfl (AOp.callP 6 rfl (by kernel_rfl) rfl rfl rfl (hv) ?_ (by rintro _ _ ⟨⟩))
        rintro _ _ ⟨⟩
        refine ASeq.q rfl rfl (QOp.move rfl rfl) ?_
        refine ASeq.q rfl rfl (QOp.extract rfl rfl rfl) ?_
        refine ASeq.q rfl rfl (QOp.extract rfl rfl rfl) ?_
        refine ASeq.op0 rfl rfl (AOp.storeP 6 rfl rfl rfl rfl (tok _ rfl) rfl rfl rfl rfl ?_)
        refine ASeq.q rfl rfl (QOp.assign rfl rfl) ?_
        refine ASeq.nil ?_
        refine AExit.then_normal ?_
        refine ACode.drawn [[], [], [], [2], [2, 3], [], [5], [2, 3, 4, 5, 6], [2, 3, 4, 5, 6, 7], [2, 3, 4, 5, 6, 7, 8], [1, 2, 3, 4, 5, 6, 7, 8, 9], [], [0, 1, 2, 3, 4, 5, 6, 7, 8, 9, 10, 11], [0, 1, 2, 3, 4, 5, 6, 7, 8, 9, 10, 11, 12]] (by kernel_rfl) mixed ?_
        refine DAny.ld 0 rfl rfl (by kernel_rfl) rfl (.does _ _ rfl (.none rfl) (QOp.loadM 6 rfl rfl rfl (tok _ rfl) rfl)) ?_
        refine DAny.qu 1 rfl rfl (by kernel_rfl) rfl (fun _ => .does _ _ rfl (.none rfl) (QOp.move rfl rfl)) ?_
        refine DAny.qu 2 rfl rfl (by kernel_rfl) rfl (fun _ => .does _ _ rfl (.none rfl) (QOp.fieldM rfl rfl (tok _ rfl) rfl rfl (by decide) rfl)) ?_
        refine DAny.qu 3 rfl rfl (by kernel_rfl) rfl (fun _ => .does _ _ rfl (.none rfl) (QOp.fieldM rfl rfl (tok _ rfl) rfl rfl (by decide) rfl)) ?_
        refine DAny.ld 4 rfl rfl (by kernel_rfl) rfl (.does _ _ rfl (.none rfl) (QOp.loadM 6 rfl rfl rfl (tok _ rfl) rfl)) ?_
        refine DAny.qu 5 rfl rfl (by kernel_rfl) rfl (fun _ => .does _ _ rfl (.none rfl) (QOp.fieldM rfl rfl (tok _ rfl) rfl rfl (by decide) rfl)) ?_
        refine DAny.ld 6 rfl rfl (by kernel_rfl) rfl (.does _ _ rfl (.none rfl) (QOp.loadM 6 rfl rfl rfl (tok _ rfl) rfl)) ?_
        refine DAny.qu 7 rfl rfl (by kernel_rfl) rfl (fun _ => .does _ _ rfl (.none rfl) (QOp.indexI rfl rfl rfl (tok _ rfl) rfl (tok _ rfl) (by omega) (by assumption))) ?_
        refine DAny.qu 8 rfl rfl (by kernel_rfl) rfl (fun _ => .does _ _ rfl (.none rfl) (QOp.fieldI rfl rfl (tok _ rfl) rfl rfl (by decide) rfl)) ?_
        refine DAny.qu 9 rfl rfl (by kernel_rfl) rfl (fun _ => .does _ _ rfl (.none rfl) (QOp.loadI rfl rfl (tok _ rfl) rfl)) ?_
        refine DAny.qu 10 rfl rfl (by kernel_rfl) rfl (fun _ => .does _ _ rfl (.none rfl) (QOp.cmp rfl rfl rfl rfl)) ?_
        refine DAny.qu 11 rfl rfl (by kernel_rfl) rfl (fun _ => .does _ _ rfl (.none rfl) (QOp.move rfl rfl)) ?_
        refine DAny.ef 12 rfl (by kernel_rfl) (.none rfl) rfl rfl (AOp.callP 0 rfl (by kernel_rfl) rfl rfl rfl (need_ok v.1 m _ s.fr 8) ?_ (by rintro _ _ ⟨⟩))
        rintro _ _ ⟨⟩
        refine ⟨(by ((exact AllQ.nil))), ?_⟩
        refine DAny.ef0 13 rfl (by kernel_rfl) (.none rfl) rfl rfl (AOp.storeP 6 rfl rfl rfl rfl (tok _ rfl) rfl rfl rfl rfl ⟨(by ((exact AllQ.nil))), ?_⟩)
        refine DAny.done (by kernel_rfl) ?_
        subst hr2
        refine (rest τ).atP 8 ?_ ?_
        · exact .cons rfl (.cons rfl (.cons rfl (.cons rfl .nil)))
        · rw [items_need]; rfl
      · have ha : ¬ s.a ≥ 0 := of_decide_eq_false hb
        rw [if_neg ha] at hr2
        have hdf0 : 0 ≤ (c.setFunc i c.f).f := hf0
        have hrowd : ((c.setFunc i c.f).t.funcs.map Fu.cells)[(c.setFunc i c.f).f.toNat]? = some ((c.setFunc i c.f).fu (c.setFunc i c.f).f).cells := hrowf
        refine ACode.skip (AExit.then_normal ?_)
        refine ACode.drawn [[], [], [], [2], [2, 3], [], [5], [2, 3, 4, 5, 6], [2, 3, 4, 5, 6, 7], [2, 3, 4, 5, 6, 7, 8], [1, 2, 3, 4, 5, 6, 7, 8, 9], [], [0, 1, 2, 3, 4, 5, 6, 7, 8, 9, 10, 11], [0, 1, 2, 3, 4, 5, 6, 7, 8, 9, 10, 11, 12]] (by kernel_rfl) mixed ?_
        refine DAny.ld 0 rfl rfl (by kernel_rfl) rfl (.does _ _ rfl (.none rfl) (QOp.loadM 6 rfl rfl rfl (tok _ rfl) rfl)) ?_
        refine DAny.qu 1 rfl rfl (by kernel_rfl) rfl (fun _ => .does _ _ rfl (.none rfl) (QOp.move rfl rfl)) ?_
        refine DAny.qu 2 rfl rfl (by kernel_rfl) rfl (fun _ => .does _ _ rfl (.none rfl) (QOp.fieldM rfl rfl (tok _ rfl) rfl rfl (by decide) rfl)) ?_
        refine DAny.qu 3 rfl rfl (by kernel_rfl) rfl (fun _ => .does _ _ rfl (.none rfl) (QOp.fieldM rfl rfl (tok _ rfl) rfl rfl (by decide) rfl)) ?_
        refine DAny.ld 4 rfl rfl (by kernel_rfl) rfl (.does _ _ rfl (.none rfl) (QOp.loadM 6 rfl rfl rfl (tok _ rfl) rfl)) ?_
        refine DAny.qu 5 rfl rfl (by kernel_rfl) rfl (fun _ => .does _ _ rfl (.none rfl) (QOp.fieldM rfl rfl (tok _ rfl) rfl rfl (by decide) rfl)) ?_
        refine DAny.ld 6 rfl rfl (by kernel_rfl) rfl (.does _ _ rfl (.none rfl) (QOp.loadM 6 rfl rfl rfl (tok _ rfl) rfl)) ?_
        refine DAny.qu 7 rfl rfl (by kernel_rfl) rfl (fun _ => .does _ _ rfl (.none rfl) (QOp.indexI rfl rfl rfl (tok _ rfl) rfl (tok _ rfl) (by omega) (by assumption))) ?_
        refine DAny.qu 8 rfl rfl (by kernel_rfl) rfl (fun _ => .does _ _ rfl (.none rfl) (QOp.fieldI rfl rfl (tok _ rfl) rfl rfl (by decide) rfl)) ?_
        refine DAny.qu 9 rfl rfl (by kernel_rfl) rfl (fun _ => .does _ _ rfl (.none rfl) (QOp.loadI rfl rfl (tok _ rfl) rfl)) ?_
        refine DAny.qu 10 rfl rfl (by kernel_rfl) rfl (fun _ => .does _ _ rfl (.none rfl) (QOp.cmp rfl rfl rfl rfl)) ?_
        refine DAny.qu 11 rfl rfl (by kernel_rfl) rfl (fun _ => .does _ _ rfl (.none rfl) (QOp.move rfl rfl)) ?_
        refine DAny.ef 12 rfl (by kernel_rfl) (.none rfl) rfl rfl (AOp.callP 0 rfl (by kernel_rfl) rfl rfl rfl (need_ok (c.setFunc i c.f) m _ s.fr 8) ?_ (by rintro _ _ ⟨⟩))
        rintro _ _ ⟨⟩
        refine ⟨(by ((exact AllQ.nil))), ?_⟩
        refine DAny.ef0 13 rfl (by kernel_rfl) (.none rfl) rfl rfl (AOp.storeP 6 rfl rfl rfl rfl (tok _ rfl) rfl rfl rfl rfl ⟨(by ((exact AllQ.nil))), ?_⟩)
        refine DAny.done (by kernel_rfl) ?_
        subst hr2
        refine (rest τ).atP 8 ?_ ?_
        · exact .cons rfl (.cons rfl (.cons rfl (.cons rfl .nil)))
        · rw [items_need]; rfl
    have hk9 : ¬ s.kind = 9 := ne_of_beq_false hb
    rw [if_neg hk9] at hr2
    refine ACode.seq (ACode.region ?_)
    refine ASeq.q rfl rfl (QOp.cmp rfl rfl rfl rfl) ?_
    refine ASeq.q rfl rfl (QOp.assign rfl rfl) ?_
    refine ASeq.nil ?_
    refine AExit.then_normal ?_
    refine ACode.cond _ rfl (fun hb => ?_) (fun hb => ?_)
    · have hk10 : s.kind = 10 := eq_of_beq hb
      rw [if_pos hk10] at hr2
      have hv := hval s.a (hwf.1 (.inr (.inr (.inr (.inr (.inr (.inl hk10))))))) (hwf.2.1 (by omega))
      refine ACode.region ?_
      refine ASeq.q rfl rfl (QOp.loadM 6 rfl rfl rfl (tok _ rfl) rfl) ?_
      refine ASeq.q rfl rfl (QOp.fieldM rfl rfl (tok _ rfl) rfl rfl (by decide) rfl) ?_
      refine ASeq.q rfl rfl (QOp.loadM 8 rfl rfl rfl (tok _ rfl) rfl) ?_
      refine ASeq.op rfl rfl (AOp.callP 6 rfl (by kernel_rfl) rfl rfl rfl (hv) ?_ (by rintro _ _ ⟨⟩))
      rintro _ _ ⟨⟩
      refine ASeq.q rfl rfl (QOp.move rfl rfl) ?_
      refine ASeq.q rfl rfl (QOp.extract rfl rfl rfl) ?_
      refine ASeq.q rfl rfl (QOp.extract rfl rfl rfl) ?_
      refine ASeq.op0 rfl rfl (AOp.storeP 6 rfl rfl rfl rfl (tok _ rfl) rfl rfl rfl rfl ?_)
      refine ASeq.nil ?_
      subst hr2
      refine (rest τ).atP 8 ?_ ?_
      · exact .cons rfl (.cons rfl (.cons rfl (.cons rfl .nil)))
      · rfl
    have hk10 : ¬ s.kind = 10 := ne_of_beq_false hb
    rw [if_neg hk10] at hr2
    refine ACode.seq (ACode.region ?_)
    refine ASeq.q rfl rfl (QOp.cmp rfl rfl rfl rfl) ?_
    refine ASeq.q rfl rfl (QOp.assign rfl rfl) ?_
    refine ASeq.nil ?_
    refine AExit.then_normal ?_
    refine ACode.cond _ rfl (fun hb => ?_) (fun hb => ?_)
    · have hk11 : s.kind = 11 := eq_of_beq hb
      rw [if_pos hk11] at hr2
      have hal := hwf.2.1 (by omega)
      have hv := exprs6 (c.setFunc i c.f).t.exprs.length (c.setFunc i c.f) m s.a τ okd hw (hwf.1 (.inr (.inr (.inr (.inr (.inr (.inr hk11))))))) hal hal
      refine ACode.region ?_
      refine ASeq.q rfl rfl (QOp.loadM 6 rfl rfl rfl (tok _ rfl) rfl) ?_
      refine ASeq.q rfl rfl (QOp.fieldM rfl rfl (tok _ rfl) rfl rfl (by decide) rfl) ?_
      refine ASeq.q rfl rfl (QOp.loadM 8 rfl rfl rfl (tok _ rfl) rfl) ?_
      refine ASeq.op rfl rfl (AOp.callP 6 rfl (by kernel_rfl) rfl rfl rfl (hv) ?_ (by rintro _ _ ⟨⟩))
      rintro _ _ ⟨⟩
      refine ASeq.q rfl rfl (QOp.move rfl rfl) ?_
      refine ASeq.q rfl rfl (QOp.extract rfl rfl rfl) ?_
      refine ASeq.q rfl rfl (QOp.extract rfl rfl rfl) ?_
      refine ASeq.op0 rfl rfl (AOp.storeP 6 rfl rfl rfl rfl (tok _ rfl) rfl rfl rfl rfl ?_)
      refine ASeq.nil ?_
      subst hr2
      refine (rest τ).atP 8 ?_ ?_
      · exact .cons rfl (.cons rfl (.cons rfl (.cons rfl .nil)))
      · rfl
    have hk11 : ¬ s.kind = 11 := ne_of_beq_false hb
    rw [if_neg hk11] at hr2
    refine ACode.skip ?_
    subst hr2
    refine (rest τ).atP 8 ?_ ?_
    · exact .cons rfl (.cons rfl (.cons rfl (.cons rfl .nil)))
    · rfl
  · intro τ
    have hpl : r.1.put.length = c.t.stmts.length := by rw [hkr.lp]; exact hlp
    refine ACode.seq (ACode.seq (ACode.region ?_))
    refine ASeq.q rfl rfl (QOp.fieldM rfl rfl (tok _ rfl) rfl rfl (by decide) rfl) ?_
    refine ASeq.q rfl rfl (QOp.loadM 6 rfl rfl rfl (tok _ rfl) rfl) ?_
    refine ASeq.q rfl rfl (QOp.cmp rfl rfl rfl rfl) ?_
    refine ASeq.nil ?_
    refine AExit.then_normal ?_
    refine ACode.cond _ rfl (fun hb => ?_) (fun hb => ?_)
    · have hcr : r.1.code = 0 := by simpa using hb
      refine ACode.region ?_
      refine ASeq.q rfl rfl (QOp.fieldM rfl rfl (tok _ rfl) rfl rfl (by decide) rfl) ?_
      refine ASeq.q rfl rfl (QOp.fieldM rfl rfl (tok _ rfl) rfl rfl (by decide) rfl) ?_
      refine ASeq.q rfl rfl (QOp.loadM 6 rfl rfl rfl (tok _ rfl) rfl) ?_
      refine ASeq.q rfl rfl (QOp.move rfl rfl) ?_
      refine ASeq.q rfl rfl (QOp.move rfl rfl) ?_
      refine ASeq.q rfl rfl (QOp.indexM rfl rfl rfl (tok _ rfl) rfl (tok _ rfl) (by omega) (by omega) rfl) ?_
      refine ASeq.op0 rfl rfl (storeInt 2 (j := i.toNat) (l := r.1.put) rfl rfl rfl rfl (tok _ rfl) rfl (by show 0 + _ * 1 = _; omega) (by omega) rfl ?_)
      refine ASeq.nil ?_
      refine ACode.seq (ACode.region ?_)
      refine ASeq.q rfl rfl (QOp.loadM 6 rfl rfl rfl (tok _ rfl) rfl) ?_
      refine ASeq.op0 rfl rfl (AOp.storeP 7 rfl rfl rfl rfl (tok _ rfl) rfl rfl rfl rfl ?_)
      refine ASeq.nil ?_
      refine ACode.ret ?_
      refine bodyQ_ret 6 (.cell 7 rfl rfl (tok _ rfl) rfl .nil) rfl ?_
      rw [hgo, show putted r i = r.1.setPut i r.2 by unfold putted; rw [if_pos hcr]]
      refine RS.of τ ?_ rfl
      have hsl : (r.1.setPut i r.2).put.length = r.1.put.length := by simp [CS.setPut]
      show _ = AV.agg ((r.1.setPut i r.2).cells m)
      simp only [CS.cells, hsl]
      rfl
    · have hcr : ¬ r.1.code = 0 := by simpa using hb
      refine ACode.skip (ACode.seq (ACode.region ?_))
      refine ASeq.q rfl rfl (QOp.loadM 6 rfl rfl rfl (tok _ rfl) rfl) ?_
      refine ASeq.op0 rfl rfl (AOp.storeP 7 rfl rfl rfl rfl (tok _ rfl) rfl rfl rfl rfl ?_)
      refine ASeq.nil ?_
      refine ACode.ret ?_
      refine bodyQ_ret 6 (.cell 7 rfl rfl (tok _ rfl) rfl .nil) rfl ?_
      rw [hgo, show putted r i = r.1 by unfold putted; rw [if_neg hcr]]
      exact RS.of τ rfl rfl
end Go.Proofs.Ytaadamobapnfbaa
/- ref06: Ints; Check on data. -/
set_option linter.unusedVariables false
set_option linter.unusedSimpArgs false
set_option maxRecDepth 100000
namespace Go.Proofs.Ytaadamobapnfbaa
open Go Go.Abs
theorem stms6 : ∀ n, CStmt n
  | 0 => fun c m i τ h hw hw2 h0 h1 hn => absurd hn (by omega)
  | n + 1 => stmt_walk6 n (stms6 n)
/-- the same numbers? -/
def sameI : List Int → List Int → Bool
  | [], [] => true
  | a :: l, b :: m => if (a != b) = true then false else sameI l m
  | _, _ => false
theorem sameI_eq : ∀ (l m : List Int), sameI l m = true ↔ l = m
  | [], [] => by simp [sameI]
  | [], _ :: _ => by simp [sameI]
  | _ :: _, [] => by simp [sameI]
  | a :: l, b :: m => by
    simp only [sameI]
    split
    · rename_i h; simp at h; simp [h]
    · rename_i h; simp at h; simp [h, sameI_eq l m]
theorem sameI_drop (l m : List Int) (i : Nat) (hl : i < l.length) (hm : i < m.length) : sameI (l.drop i) (m.drop i) = if (l[i] != m[i]) = true then false else sameI (l.drop (i + 1)) (m.drop (i + 1)) := by
  rw [List.drop_eq_getElem_cons hl, List.drop_eq_getElem_cons hm]; rfl
theorem sameI_len (l m : List Int) (h : l.length ≠ m.length) : sameI l m = false := by
  cases hs : sameI l m with
  | false => rfl
  | true => exact absurd (congrArg List.length ((sameI_eq l m).1 hs)) h
theorem ints_ok (l m : List Int) (tl tm : Option Nat) (hl : l.length ≤ 1048576) : ACalls Try.prog 18 [.il 1 tl (ints l), .il 1 tm (ints m)] [] (RV (.v (.bool (sameI l m))) []) := by
  have e1 := ints_len l
  have e2 := ints_len m
  refine ACalls.of_code (c := _) Try.func18 rfl Try.ntmps18 (Nat.le_of_ble_eq_true rfl) ?_
  refine ACode.seq (ACode.region ?_)
  refine ASeq.q rfl rfl (QOp.assign rfl rfl) ?_
  refine ASeq.nil ?_
  refine ACode.seq (ACode.seq (ACode.region ?_))
  refine ASeq.q rfl rfl (QOp.move rfl rfl) ?_
  refine ASeq.q rfl rfl (QOp.lenI rfl rfl (tok _ rfl) rfl) ?_
  refine ASeq.q rfl rfl (QOp.move rfl rfl) ?_
  refine ASeq.q rfl rfl (QOp.lenI rfl rfl (tok _ rfl) rfl) ?_
  refine ASeq.q rfl rfl (QOp.cmp rfl rfl rfl rfl) ?_
  refine ASeq.nil ?_
  refine AExit.then_normal ?_
  refine ACode.cond _ rfl (fun hb => ?_) (fun hb => ?_)
  · have hne : l.length ≠ m.length := by
      have := bne_iff_ne.1 hb
      rw [e1, e2] at this; omega
    refine ACode.seq (ACode.region ?_)
    refine ASeq.q rfl rfl (QOp.assign rfl rfl) ?_
    refine ASeq.nil ?_
    refine ACode.ret (AExit.then_ret ?_)
    refine bodyQ_ret 0 (.tmp rfl .nil) rfl ?_
    rw [sameI_len l m hne]; exact .mk
  have heq : l.length = m.length := by
    have := bne_eq_false_iff_eq.1 hb
    rw [e1, e2] at this; omega
  refine ACode.skip (ACode.seq (ACode.seq (ACode.region ?_)))
  refine ASeq.q rfl rfl (QOp.move rfl rfl) ?_
  refine ASeq.q rfl rfl (QOp.lenI rfl rfl (tok _ rfl) rfl) ?_
  refine ASeq.q rfl rfl (QOp.move rfl rfl) ?_
  refine ASeq.nil ?_
  refine ACode.block ?_
  refine ACode.loopP (fun i : Nat => [(0, .il 1 tl (ints l)), (1, .il 1 tm (ints m)), (12, vi ((ints l).length : Int)), (13, vi i)]) (fun _ => []) (fun i => l.length - i)
    (fun i => i ≤ l.length ∧ sameI (l.drop i) (m.drop i) = sameI l m) 0 ⟨Nat.zero_le _, rfl⟩ (.cons rfl (.cons rfl (.cons rfl (.cons rfl .nil)))) 0 rfl ?_
  rintro i ⟨hi, he⟩
  refine ACode.seq (ACode.region ?_)
  refine ASeq.q rfl rfl (QOp.cmp rfl rfl rfl rfl) ?_
  refine ASeq.nil ?_
  refine ACode.seq ?_
  refine ACode.cond _ rfl (fun hb => ?_) (fun hb => ?_)
  · have hlt : i < l.length := by have := of_decide_eq_true hb; rw [e1] at this; omega
    have hlm : i < m.length := by omega
    have g1 := ints_get hlt
    have g2 := ints_get hlm
    rw [sameI_drop l m i hlt hlm] at he
    refine ACode.skip (ACode.seq (ACode.block (ACode.seq (ACode.region ?_))))
    refine ASeq.q rfl rfl (QOp.move rfl rfl) ?_
    refine ASeq.q rfl rfl (QOp.assign rfl rfl) ?_
    refine ASeq.nil ?_
    refine ACode.seq ?_
    refine ACode.drawn [[], [], [0, 1], [0, 1, 2], [], [], [4, 5], [4, 5, 6], [0, 1, 2, 3, 4, 5, 6, 7]] (by kernel_rfl) mixed ?_
    refine DAny.qu 0 rfl rfl (by kernel_rfl) rfl (fun _ => .does _ _ rfl (.none rfl) (QOp.move rfl rfl)) ?_
    refine DAny.qu 1 rfl rfl (by kernel_rfl) rfl (fun _ => .does _ _ rfl (.none rfl) (QOp.move rfl rfl)) ?_
    refine DAny.qu 2 rfl rfl (by kernel_rfl) rfl (fun _ => .does _ _ rfl (.none rfl) (QOp.indexI rfl rfl rfl (tok _ rfl) rfl (tok _ rfl) (by omega) (by assumption))) ?_
    refine DAny.qu 3 rfl rfl (by kernel_rfl) rfl (fun _ => .does _ _ rfl (.none rfl) (QOp.loadI rfl rfl (tok _ rfl) rfl)) ?_
    refine DAny.qu 4 rfl rfl (by kernel_rfl) rfl (fun _ => .does _ _ rfl (.none rfl) (QOp.move rfl rfl)) ?_
    refine DAny.qu 5 rfl rfl (by kernel_rfl) rfl (fun _ => .does _ _ rfl (.none rfl) (QOp.move rfl rfl)) ?_
    refine DAny.qu 6 rfl rfl (by kernel_rfl) rfl (fun _ => .does _ _ rfl (.none rfl) (QOp.indexI rfl rfl rfl (tok _ rfl) rfl (tok _ rfl) (by omega) (by assumption))) ?_
    refine DAny.qu 7 rfl rfl (by kernel_rfl) rfl (fun _ => .does _ _ rfl (.none rfl) (QOp.loadI rfl rfl (tok _ rfl) rfl)) ?_
    refine DAny.qu 8 rfl rfl (by kernel_rfl) rfl (fun _ => .does _ _ rfl (.none rfl) (QOp.cmp rfl rfl rfl rfl)) ?_
    refine DAny.done (by kernel_rfl) ?_
    refine AExit.then_normal ?_
    refine ACode.cond _ rfl (fun hb => ?_) (fun hb => ?_)
    · rw [if_pos hb] at he
      refine ACode.seq (ACode.region ?_)
      refine ASeq.q rfl rfl (QOp.assign rfl rfl) ?_
      refine ASeq.nil ?_
      refine ACode.ret (AExit.in_ret (AExit.then_ret (AExit.then_ret (AExit.in_ret (AExit.then_ret ?_)))))
      refine bodyQ_ret 0 (.tmp rfl .nil) rfl ?_
      rw [← he]; exact .mk
    · rw [if_neg (by rw [hb]; decide)] at he
      refine ACode.skip (ACode.region ?_)
      refine ASeq.q rfl rfl (QOp.ar64 rfl rfl rfl rfl ⟨by omega, by omega⟩) ?_
      refine ASeq.q rfl rfl (QOp.move rfl rfl) ?_
      refine ASeq.nil ?_
      refine AExit.then_normal ?_
      exact ⟨i + 1, 0, ⟨hlt, he⟩, by omega, .cons rfl (.cons rfl (.cons rfl (.cons rfl .nil))), rfl⟩
  · have hge : i = l.length := by have := of_decide_eq_false hb; rw [e1] at this; omega
    have h2 : m.drop i = [] := List.drop_eq_nil_of_le (by omega)
    refine ACode.exit (ACode.seq (ACode.region ?_))
    refine ASeq.q rfl rfl (QOp.assign rfl rfl) ?_
    refine ASeq.nil ?_
    refine ACode.ret ?_
    refine bodyQ_ret 0 (.tmp rfl .nil) rfl ?_
    rw [← he, h2, hge, List.drop_length]; exact .mk
/-! Check on data. -/
def c0 (t : Tree) : CS := { t := t, type := List.replicate t.exprs.length 0, slot := List.replicate t.exprs.length (-1), put := List.replicate t.stmts.length (-1), func := List.replicate t.stmts.length 0, slots := List.replicate t.funcs.length [] }
def dupOf (g : Fu) : List Fu → CS → CS
  | [], c => c
  | f :: l, c => dupOf g l (c.need (!(f.name.data.toList == g.name.data.toList)) g.fr 7)
def dups (pre : List Fu) : List Fu → CS → CS
  | [], c => c
  | g :: l, c => dups (pre ++ [g]) l (dupOf g pre c)
def faceOf (c : CS) : CS :=
  (c.need ((c.fu 0).name.data.toList == [109, 97, 105, 110]) 0 17).need (((c.fu 0).params.length : Int) == 0 && (c.fu 0).type == 4) (c.fu 0).fr 8
def parsOf (fr : Int) : List ByteArray → CS → CS
  | [], c => c
  | p :: l, c => parsOf fr l (if c.code = 0 then (c.decl p 1 fr).1 else c)
def bodyOf : List Int → CS → CS
  | [], c => c
  | k :: l, c => bodyOf l (stm6 c.t.stmts.length c k)
def funs : Nat → List Fu → CS → CS
  | _, [], c => c
  | i, g :: l, c => funs (i + 1) l (bodyOf g.body (parsOf g.fr g.params { c with f := i, names := [], block := 0 }))
def checked (t : Tree) : CS := funs 0 t.funcs (faceOf (dups [] t.funcs (c0 t)))
end Go.Proofs.Ytaadamobapnfbaa
/- ref06: Check, what the steps keep. -/
set_option linter.unusedVariables false
set_option linter.unusedSimpArgs false
set_option maxRecDepth 100000
namespace Go.Proofs.Ytaadamobapnfbaa
open Go Go.Abs
def nilv : AV := .v (.slice none 0 0)
structure TreeOk (t : Tree) : Prop where
  ex : TreeWf t
  st : StsWf t
  fu : ∀ g ∈ t.funcs, g.params.length ≤ 1048576 ∧ g.body.length ≤ 1048576 ∧ ∀ k ∈ g.body, 0 ≤ k ∧ k < t.stmts.length
  some : 0 < t.funcs.length
  big : t.exprs.length ≤ 1048576 ∧ t.stmts.length ≤ 1048576 ∧ t.funcs.length ≤ 1048576
/-- a state ahead of the i-th function -/
structure Pre (t : Tree) (i : Nat) (c : CS) : Prop where
  tt : c.t = t
  f0 : 0 ≤ c.f
  f1 : (c.f = 0 ∧ i = 0) ∨ c.f + 1 = i
  lt : c.type.length = t.exprs.length
  ls : c.slot.length = t.exprs.length
  lp : c.put.length = t.stmts.length
  lf : c.func.length = t.stmts.length
  lS : c.slots.length = t.funcs.length
  loops : c.loops = 0
  rest : ∀ j, i ≤ j → j < t.funcs.length → c.slots[j]? = some []
def CS.enter (c : CS) (i : Nat) : CS := { c with f := i, names := [], block := 0 }
theorem Pre.cur {t : Tree} {i : Nat} {c : CS} (h : Pre t i c) (hi : i < t.funcs.length) : (c.enter i).cur = [] := by
  have := h.rest i (Nat.le_refl _) hi
  simp only [CS.cur, CS.enter, Int.toNat_natCast, List.getD_eq_getElem?_getD, this, Option.getD_some]
theorem Pre.enter {t : Tree} {i : Nat} {c : CS} (h : Pre t i c) (hi : i < t.funcs.length) (hb : t.exprs.length ≤ 1048576 ∧ t.stmts.length ≤ 1048576 ∧ t.funcs.length ≤ 1048576) : (c.enter i).ok := by
  have hc := h.cur hi
  refine ⟨by show (0:Int) ≤ (i:Int); omega, ?_, by rw [hc]; simp, by rw [hc]; simp [CS.enter], fun n hn => by simp [CS.enter] at hn, ?_, ?_, ?_, ?_, ?_, ?_⟩
  · show ((i:Nat):Int) < (c.slots.length : Int); rw [h.lS]; omega
  · show c.type.length = c.t.exprs.length; rw [h.lt, h.tt]
  · show c.slot.length = c.t.exprs.length; rw [h.ls, h.tt]
  · show c.put.length = c.t.stmts.length; rw [h.lp, h.tt]
  · show c.func.length = c.t.stmts.length; rw [h.lf, h.tt]
  · show c.slots.length = c.t.funcs.length; rw [h.lS, h.tt]
  · show c.t.exprs.length ≤ 1048576 ∧ c.t.stmts.length ≤ 1048576 ∧ c.t.funcs.length ≤ 1048576; rw [h.tt]; exact hb
theorem KeptS.pars (fr : Int) : ∀ (l : List ByteArray) (c : CS), c.ok → KeptS c (parsOf fr l c)
  | [], c, _ => .refl c
  | p :: l, c, h => by
    have h1 : KeptS c (if c.code = 0 then (c.decl p 1 fr).1 else c) := by
      split
      · exact .decl h _ _ _
      · exact .refl c
    exact h1.trans (KeptS.pars fr l _ (h1.ok h))
theorem KeptS.body : ∀ (l : List Int) (c : CS), c.ok → KeptS c (bodyOf l c)
  | [], c, _ => .refl c
  | k :: l, c, h => by
    have h1 := KeptS.stm6 c.t.stmts.length c k h
    exact h1.trans (KeptS.body l _ (h1.ok h))
theorem Pre.next {t : Tree} {i : Nat} {c d : CS} (h : Pre t i c) (hi : i < t.funcs.length) (hk : KeptS (c.enter i) d) : Pre t (i + 1) d := by
  refine ⟨hk.t.trans h.tt, by rw [hk.f]; show (0:Int) ≤ (i:Int); omega, .inr (by rw [hk.f]; show (i:Int) + 1 = ((i+1:Nat):Int); omega), hk.lt.trans h.lt, hk.ls.trans h.ls, hk.lp.trans h.lp, hk.lf.trans h.lf, hk.lS.trans h.lS, hk.loops.trans h.loops, fun j hj hl => ?_⟩
  have hne : j ≠ (c.enter i).f.toNat := by show j ≠ ((i:Nat):Int).toNat; omega
  rw [hk.other j hne]
  exact h.rest j (by omega) hl
theorem dupOf_slots (g : Fu) (s : List (List Int)) : ∀ (l : List Fu) (c : CS), dupOf g l { c with slots := s } = { dupOf g l c with slots := s }
  | [], c => rfl
  | f :: l, c => by
    simp only [dupOf]
    rw [← dupOf_slots g s l]
    congr 1
    unfold CS.need
    split <;> rfl
theorem Kept.dupOf (g : Fu) : ∀ (l : List Fu) (c : CS), Kept c (dupOf g l c) ∧ (dupOf g l c).type = c.type ∧ (dupOf g l c).slot = c.slot
  | [], c => ⟨.refl c, rfl, rfl⟩
  | f :: l, c => by
    have h := Kept.dupOf g l (c.need (!(f.name.data.toList == g.name.data.toList)) g.fr 7)
    have h2 : (c.need (!(f.name.data.toList == g.name.data.toList)) g.fr 7).type = c.type ∧ (c.need (!(f.name.data.toList == g.name.data.toList)) g.fr 7).slot = c.slot := by
      unfold CS.need; split <;> exact ⟨rfl, rfl⟩
    exact ⟨(Kept.need _ _ _ _).trans h.1, h.2.1.trans h2.1, h.2.2.trans h2.2⟩
theorem Kept.dups : ∀ (l pre : List Fu) (c : CS), Kept c (dups pre l c) ∧ (dups pre l c).type = c.type ∧ (dups pre l c).slot = c.slot
  | [], pre, c => ⟨.refl c, rfl, rfl⟩
  | g :: l, pre, c => by
    have h1 := Kept.dupOf g pre c
    have h := Kept.dups l (pre ++ [g]) (Ytaadamobapnfbaa.dupOf g pre c)
    exact ⟨h1.1.trans h.1, h.2.1.trans h1.2.1, h.2.2.trans h1.2.2⟩
theorem Kept.face (c : CS) : Kept c (faceOf c) := (Kept.need _ _ _ _).trans (.need _ _ _ _)
theorem pre0 (t : Tree) : Pre t 0 (faceOf (dups [] t.funcs (c0 t))) := by
  have h := (Kept.dups t.funcs [] (c0 t)).1.trans (Kept.face _)
  refine ⟨h.t, by rw [h.f]; exact Int.le_refl 0, .inl ⟨h.f, rfl⟩, by rw [h.lt]; simp [c0], by rw [h.ls]; simp [c0], by rw [h.put]; simp [c0], by rw [h.func]; simp [c0], by rw [h.slots]; simp [c0], h.loops, fun j _ hj => ?_⟩
  rw [h.slots]; simp [c0, hj]
theorem slots_get {c : CS} {τ : Nat} {j : Nat} : (c.slotCells τ)[j]? = (c.slots[j]?).map (slotCell τ c.f j) := by
  simp only [CS.slotCells, List.getElem?_mapIdx]
theorem LeL.of : ∀ (l m : List AV), l.length = m.length → (∀ (j : Nat) (x y : AV), l[j]? = some x → m[j]? = some y → AV.Le x y) → LeL l m
  | [], [], _, _ => .nil
  | x :: l, y :: m, h, hg => .cons (hg 0 x y rfl rfl) (LeL.of l m (by simpa using h) fun j a b ha hb => hg (j + 1) a b (by simpa using ha) (by simpa using hb))
  | [], _ :: _, h, _ => by simp at h
  | _ :: _, [], h, _ => by simp at h
theorem enter_le {t : Tree} {i : Nat} {c : CS} (h : Pre t i c) (hi : i < t.funcs.length) (τ : Nat) : LeL (c.slotCells τ) ((c.enter i).slotCells τ) := by
  refine LeL.of _ _ (by simp [CS.slotCells, CS.enter]) fun j x y hx hy => ?_
  rw [slots_get] at hx hy
  obtain ⟨s, hs, rfl⟩ := Option.map_eq_some_iff.1 hx
  obtain ⟨s', hs', rfl⟩ := Option.map_eq_some_iff.1 hy
  have e : s' = s := Option.some.inj (hs'.symm.trans hs)
  subst e
  have h0 := h.f0
  have h1 := h.f1
  have hlt : j < t.funcs.length := by rw [← h.lS]; exact (List.getElem?_eq_some_iff.1 hs).1
  have hr : i ≤ j → s' = [] := fun hij => Option.some.inj (hs.symm.trans (h.rest j hij hlt))
  show AV.Le (slotCell τ c.f j s') (slotCell τ (i : Int) j s')
  unfold slotCell
  by_cases a1 : (j : Int) = c.f
  · rw [if_pos a1]
    by_cases b1 : (j : Int) = (i : Int)
    · rw [if_pos b1]; exact .refl _
    · rw [if_neg b1]
      by_cases b2 : (j : Int) < (i : Int)
      · rw [if_pos b2]; exact .tok 1 _ _
      · omega
  · rw [if_neg a1]
    by_cases a2 : (j : Int) < c.f
    · rw [if_pos a2, if_neg (by omega), if_pos (by omega)]; exact .refl _
    · rw [if_neg a2]
      by_cases b1 : (j : Int) = (i : Int)
      · rw [if_pos b1, hr (by omega)]; exact .nilT 1 _
      · rw [if_neg b1]
        by_cases b2 : (j : Int) < (i : Int)
        · omega
        · rw [if_neg b2]; exact .refl _
theorem nils_le (τ : Nat) (n : Nat) : LeL (List.replicate n nilv) (CS.slotCells { t := default, type := [], slot := [], put := [], func := [], slots := List.replicate n [] } τ) := by
  refine LeL.of _ _ (by simp [CS.slotCells]) fun j x y hx hy => ?_
  rw [slots_get] at hy
  obtain ⟨s', hs', rfl⟩ := Option.map_eq_some_iff.1 hy
  have e1 : x = nilv := by have := List.mem_of_getElem? hx; exact (List.mem_replicate.1 this).2
  have e2 : s' = [] := by have := List.mem_of_getElem? hs'; exact (List.mem_replicate.1 this).2
  subst e1; subst e2
  unfold slotCell nilv
  split
  · exact .nilT 1 _
  · split
    · exact .nilT 1 _
    · exact .refl _
theorem dupOf_drop (g : Fu) (l : List Fu) (j : Nat) (c : CS) (h : j < l.length) : dupOf g (l.drop j) c = dupOf g (l.drop (j + 1)) (c.need (!(l[j].name.data.toList == g.name.data.toList)) g.fr 7) := by
  rw [List.drop_eq_getElem_cons h]; rfl
theorem dups_drop (l : List Fu) (i : Nat) (c : CS) (h : i < l.length) : dups (l.take i) (l.drop i) c = dups (l.take (i + 1)) (l.drop (i + 1)) (dupOf l[i] (l.take i) c) := by
  rw [List.drop_eq_getElem_cons h, List.take_add_one, List.getElem?_eq_getElem h]; rfl
theorem funs_drop (l : List Fu) (i : Nat) (c : CS) (h : i < l.length) : funs i (l.drop i) c = funs (i + 1) (l.drop (i + 1)) (bodyOf l[i].body (parsOf l[i].fr l[i].params (c.enter i))) := by
  rw [List.drop_eq_getElem_cons h]; rfl
theorem pars_drop (fr : Int) (l : List ByteArray) (i : Nat) (c : CS) (h : i < l.length) : parsOf fr (l.drop i) c = parsOf fr (l.drop (i + 1)) (if c.code = 0 then (c.decl l[i] 1 fr).1 else c) := by
  rw [List.drop_eq_getElem_cons h]; rfl
theorem body_drop (l : List Int) (i : Nat) (c : CS) (h : i < l.length) : bodyOf (l.drop i) c = bodyOf (l.drop (i + 1)) (stm6 c.t.stmts.length c l[i]) := by
  rw [List.drop_eq_getElem_cons h]; rfl
inductive RK (t : Tree) : AOut → List Abs.Item → Prop
  | bad (h : (checked t).code ≠ 0) : RK t (.ret (.tup [.agg [nilv, nilv, nilv, nilv, nilv], vi (checked t).at_, vi (checked t).code])) []
  | good (h : (checked t).code = 0) (m : Ms) (τ : Nat) : RK t (.ret (.tup [.agg [.sl 1 m.mT 0 (checked t).type.length, .sl 1 m.mS 0 (checked t).slot.length, .sl 1 m.mP 0 (checked t).put.length, .sl 1 m.mF 0 (checked t).func.length, .sl 1 m.mL 0 (checked t).slots.length], vi 0, vi 0])) ((checked t).items m τ)
theorem fu_at {t : Tree} {i : Nat} (h : i < t.funcs.length) : (t.funcs.map Fu.cells)[i]? = some t.funcs[i].cells := by
  simp only [List.getElem?_map, List.getElem?_eq_getElem h, Option.map_some]
end Go.Proofs.Ytaadamobapnfbaa
/- ref06: Check. -/
set_option linter.unusedVariables false
set_option linter.unusedSimpArgs false
set_option maxRecDepth 100000
namespace Go.Proofs.Ytaadamobapnfbaa
open Go Go.Abs
def CS.init (t : Tree) (lT lS lP lF : List Int) (k : Nat) : CS := { t := t, type := lT, slot := lS, put := lP, func := lF, slots := List.replicate k [] }
theorem row1 (x : AV) : ∀ r ∈ [[x]], r.length = 1 := fun r h => by rw [List.mem_singleton] at h; subst h; rfl
theorem vi_len (l : List Int) : (l.map vi).length = l.length * 1 := by simp
theorem rep_succ {α : Type} (n : Nat) (x : α) : List.replicate n x ++ [x] = List.replicate (n + 1) x := List.replicate_succ'.symm
theorem need_with (d : CS) (s : List (List Int)) (ok : Bool) (a k : Int) : ({ d with slots := s } : CS).need ok a k = { d.need ok a k with slots := s } := by
  unfold CS.need; split <;> rfl
set_option maxHeartbeats 4000000 in
theorem check6_ok (t : Tree) (h : TreeOk t) : ACalls Try.prog 19 [.agg t.cells] [] (RK t) := by
  have hEl : (t.exprs.map Ex.cells).length = t.exprs.length := List.length_map ..
  have hSl : (t.stmts.map St.cells).length = t.stmts.length := List.length_map ..
  have hFl : (t.funcs.map Fu.cells).length = t.funcs.length := List.length_map ..
  have hbig := h.big
  have hf0 := fu_at h.some
  refine ACalls.of_code (c := _) Try.func19 rfl Try.ntmps19 (Nat.le_of_ble_eq_true rfl) ?_
  refine ACode.newVirt (fun mT => ?_)
  refine ACode.newVirt (fun mS => ?_)
  refine ACode.newVirt (fun mP => ?_)
  refine ACode.newVirt (fun mF => ?_)
  refine ACode.newVirt (fun mL => ?_)
  refine ACode.newTok (fun τ => ?_)
  refine ACode.seq (ACode.region ?_)
  refine ASeq.op rfl rfl (AOp.boxP rfl rfl rfl (fun _ => rfl) (fun _ => ?_))
  refine ASeq.op rfl rfl (AOp.allocP rfl (tok _ rfl) rfl rfl (fun _ => rfl) (fun _ => ?_))
  refine ASeq.q rfl rfl (QOp.assign rfl rfl) ?_
  refine ASeq.q rfl rfl (QOp.assign rfl rfl) ?_
  refine ASeq.nil ?_
  rename_i m1 m2
  refine ACode.seq (ACode.region ?_)
  refine ASeq.q rfl rfl (QOp.loadM 6 rfl rfl rfl (tok _ rfl) rfl) ?_
  refine ASeq.q rfl rfl (QOp.build rfl (tok _ rfl) rfl rfl rfl rfl rfl) ?_
  refine ASeq.op rfl rfl (AOp.allocP rfl (tok _ rfl) rfl rfl (fun _ => rfl) (fun _ => ?_))
  refine ASeq.op0 rfl rfl (AOp.storeP 8 rfl rfl rfl rfl (tok _ rfl) rfl rfl rfl rfl ?_)
  refine ASeq.nil ?_
  rename_i m5
  refine ACode.seq (ACode.seq (ACode.region ?_))
  refine ASeq.cells (cells' := (CS.init t [] [] [] [] 0).cells ⟨mT, mS, mP, mF, mL⟩) [_, _, _, _, _, _, _, _] [] rfl
    (.cons (.refl _) (.cons (.refl _) (.cons (.refl _) (.cons (.nilM _ _ _) (.cons (.nilM _ _ _) (.cons (.nilM _ _ _) (.cons (.nilM _ _ _) (.cons (.nilM _ _ _) (.cons (.refl _) (.cons (.nilT 3 _) (.cons (.refl _) (.cons (.refl _) (.cons (.refl _) (.cons (.refl _) .nil)))))))))))))) ?_
  refine ASeq.q rfl rfl (QOp.fieldM rfl rfl (tok _ rfl) rfl rfl (by decide) rfl) ?_
  refine ASeq.q rfl rfl (QOp.loadM 6 rfl rfl rfl (tok _ rfl) rfl) ?_
  refine ASeq.q rfl rfl (QOp.lenI rfl rfl (tok _ rfl) rfl) ?_
  refine ASeq.q rfl rfl (QOp.move rfl rfl) ?_
  refine ASeq.nil ?_
  refine ACode.block ?_
  refine ACode.loopP (fun (x : Nat × Nat × Nat × List Int × List Int) => [(1, .mp m1 0), (2, .mp m2 0), (5, .mp m5 0), (15, vi ((t.exprs.map Ex.cells).length : Int)), (16, vi x.1)])
    (fun x => [.mu x.2.1 (x.2.2.2.1.map vi), .mu x.2.2.1 (x.2.2.2.2.map vi), .mu mP [], .mu mF [], .mu mL [], .tk τ, .mu m1 t.cells, .mu m2 (List.map AV.v (TT 44).zero), .mu m5 ((CS.init t x.2.2.2.1 x.2.2.2.2 [] [] 0).cells ⟨x.2.1, x.2.2.1, mP, mF, mL⟩)]) (fun x => t.exprs.length - x.1)
    (fun x => x.1 ≤ t.exprs.length ∧ x.2.2.2.1 = List.replicate x.1 0 ∧ x.2.2.2.2 = List.replicate x.1 (-1)) (0, mT, mS, [], []) ⟨Nat.zero_le _, rfl, rfl⟩ (.cons rfl (.cons rfl (.cons rfl (.cons rfl (.cons rfl .nil))))) 9 rfl ?_
  rintro ⟨i, mT, mS, lT, lS⟩ ⟨hi, eT, eS⟩
  dsimp only at hi eT eS
  have hlT : lT.length = i := by rw [eT, List.length_replicate]
  have hlS : lS.length = i := by rw [eS, List.length_replicate]
  refine ACode.seq (ACode.region ?_)
  refine ASeq.q rfl rfl (QOp.cmp rfl rfl rfl rfl) ?_
  refine ASeq.nil ?_
  refine ACode.seq ?_
  refine ACode.cond _ rfl (fun hb => ?_) (fun hb => ?_)
  · have hlt : i < t.exprs.length := by have := of_decide_eq_true hb; rw [hEl] at this; omega
    refine ACode.skip (ACode.seq (ACode.block (ACode.seq (ACode.region ?_))))
    refine ASeq.q rfl rfl (QOp.fieldM rfl rfl (tok _ rfl) rfl rfl (by decide) rfl) ?_
    refine ASeq.q rfl rfl (QOp.fieldM rfl rfl (tok _ rfl) rfl rfl (by decide) rfl) ?_
    refine ASeq.q rfl rfl (QOp.loadM 8 rfl rfl rfl (tok _ rfl) rfl) ?_
    refine ASeq.op rfl rfl (AOp.buildSliceR rfl (tok _ rfl) rfl (tok _ rfl) (by decide) rfl (by decide) rfl rfl rfl rfl ?_)
    refine ASeq.op rfl rfl (AOp.appendMP 0 (e := 3) (tde := TT 3) rfl rfl rfl rfl (tok _ rfl) rfl (tok _ rfl) (tok _ rfl) rfl (by decide) rfl rfl (fun _ => rfl) (vi_len lT) (row1 _) (by simp only [CS.init, List.length_cons, List.length_nil]; omega) rfl (fun _ => ?_))
    refine ASeq.q rfl rfl (QOp.fieldM rfl rfl (tok _ rfl) rfl rfl (by decide) rfl) ?_
    refine ASeq.q rfl rfl (QOp.fieldM rfl rfl (tok _ rfl) rfl rfl (by decide) rfl) ?_
    refine ASeq.op0 rfl rfl (AOp.storeP 8 rfl rfl rfl rfl (tok _ rfl) rfl rfl rfl rfl ?_)
    refine ASeq.nil ?_
    refine ACode.region ?_
    refine ASeq.q rfl rfl (QOp.fieldM rfl rfl (tok _ rfl) rfl rfl (by decide) rfl) ?_
    refine ASeq.q rfl rfl (QOp.fieldM rfl rfl (tok _ rfl) rfl rfl (by decide) rfl) ?_
    refine ASeq.q rfl rfl (QOp.loadM 8 rfl rfl rfl (tok _ rfl) rfl) ?_
    refine ASeq.op rfl rfl (AOp.buildSliceR rfl (tok _ rfl) rfl (tok _ rfl) (by decide) rfl (by decide) rfl rfl rfl rfl ?_)
    refine ASeq.op rfl rfl (AOp.appendMP 1 (e := 3) (tde := TT 3) rfl rfl rfl rfl (tok _ rfl) rfl (tok _ rfl) (tok _ rfl) rfl (by decide) rfl rfl (fun _ => rfl) (vi_len lS) (row1 _) (by simp only [CS.init, List.length_cons, List.length_nil]; omega) rfl (fun _ => ?_))
    refine ASeq.q rfl rfl (QOp.fieldM rfl rfl (tok _ rfl) rfl rfl (by decide) rfl) ?_
    refine ASeq.q rfl rfl (QOp.fieldM rfl rfl (tok _ rfl) rfl rfl (by decide) rfl) ?_
    refine ASeq.op0 rfl rfl (AOp.storeP 8 rfl rfl rfl rfl (tok _ rfl) rfl rfl rfl rfl ?_)
    refine ASeq.nil ?_
    refine ACode.region ?_
    refine ASeq.q rfl rfl (QOp.ar64 rfl rfl rfl rfl ⟨by omega, by omega⟩) ?_
    refine ASeq.q rfl rfl (QOp.move rfl rfl) ?_
    refine ASeq.nil ?_
    refine AExit.then_normal ?_
    exact ⟨(i + 1, _, _, lT ++ [0], lS ++ [-1]), 9, ⟨hlt, by dsimp only; rw [eT, rep_succ], by dsimp only; rw [eS, rep_succ]⟩, by dsimp only; omega, .cons rfl (.cons rfl (.cons rfl (.cons rfl (.cons rfl .nil)))), by simp only [List.map_append, CS.init, CS.cells, List.length_append]; rfl⟩
  have hge : i = t.exprs.length := by have := of_decide_eq_false hb; rw [hEl] at this; omega
  refine ACode.exit (ACode.seq (ACode.seq (ACode.region ?_)))
  refine ASeq.q rfl rfl (QOp.fieldM rfl rfl (tok _ rfl) rfl rfl (by decide) rfl) ?_
  refine ASeq.q rfl rfl (QOp.loadM 6 rfl rfl rfl (tok _ rfl) rfl) ?_
  refine ASeq.q rfl rfl (QOp.lenI rfl rfl (tok _ rfl) rfl) ?_
  refine ASeq.q rfl rfl (QOp.move rfl rfl) ?_
  refine ASeq.nil ?_
  refine ACode.block ?_
  refine ACode.loopP (fun (x : Nat × Nat × Nat × List Int × List Int) => [(1, .mp m1 0), (2, .mp m2 0), (5, .mp m5 0), (35, vi ((t.stmts.map St.cells).length : Int)), (36, vi x.1)])
    (fun x => [.mu mT (lT.map vi), .mu mS (lS.map vi), .mu x.2.1 (x.2.2.2.1.map vi), .mu x.2.2.1 (x.2.2.2.2.map vi), .mu mL [], .tk τ, .mu m1 t.cells, .mu m2 (List.map AV.v (TT 44).zero), .mu m5 ((CS.init t lT lS x.2.2.2.1 x.2.2.2.2 0).cells ⟨mT, mS, x.2.1, x.2.2.1, mL⟩)]) (fun x => t.stmts.length - x.1)
    (fun x => x.1 ≤ t.stmts.length ∧ x.2.2.2.1 = List.replicate x.1 (-1) ∧ x.2.2.2.2 = List.replicate x.1 0) (0, mP, mF, [], []) ⟨Nat.zero_le _, rfl, rfl⟩ (.cons rfl (.cons rfl (.cons rfl (.cons rfl (.cons rfl .nil))))) 9 rfl ?_
  rintro ⟨j, mP, mF, lP, lF⟩ ⟨hj, eP, eF⟩
  dsimp only at hj eP eF
  have hlP : lP.length = j := by rw [eP, List.length_replicate]
  have hlF : lF.length = j := by rw [eF, List.length_replicate]
  refine ACode.seq (ACode.region ?_)
  refine ASeq.q rfl rfl (QOp.cmp rfl rfl rfl rfl) ?_
  refine ASeq.nil ?_
  refine ACode.seq ?_
  refine ACode.cond _ rfl (fun hb => ?_) (fun hb => ?_)
  · have hlt : j < t.stmts.length := by have := of_decide_eq_true hb; rw [hSl] at this; omega
    refine ACode.skip (ACode.seq (ACode.block (ACode.seq (ACode.region ?_))))
    refine ASeq.q rfl rfl (QOp.fieldM rfl rfl (tok _ rfl) rfl rfl (by decide) rfl) ?_
    refine ASeq.q rfl rfl (QOp.fieldM rfl rfl (tok _ rfl) rfl rfl (by decide) rfl) ?_
    refine ASeq.q rfl rfl (QOp.loadM 8 rfl rfl rfl (tok _ rfl) rfl) ?_
    refine ASeq.op rfl rfl (AOp.buildSliceR rfl (tok _ rfl) rfl (tok _ rfl) (by decide) rfl (by decide) rfl rfl rfl rfl ?_)
    refine ASeq.op rfl rfl (AOp.appendMP 2 (e := 3) (tde := TT 3) rfl rfl rfl rfl (tok _ rfl) rfl (tok _ rfl) (tok _ rfl) rfl (by decide) rfl rfl (fun _ => rfl) (vi_len lP) (row1 _) (by simp only [CS.init, List.length_cons, List.length_nil]; omega) rfl (fun _ => ?_))
    refine ASeq.q rfl rfl (QOp.fieldM rfl rfl (tok _ rfl) rfl rfl (by decide) rfl) ?_
    refine ASeq.q rfl rfl (QOp.fieldM rfl rfl (tok _ rfl) rfl rfl (by decide) rfl) ?_
    refine ASeq.op0 rfl rfl (AOp.storeP 8 rfl rfl rfl rfl (tok _ rfl) rfl rfl rfl rfl ?_)
    refine ASeq.nil ?_
    refine ACode.region ?_
    refine ASeq.q rfl rfl (QOp.fieldM rfl rfl (tok _ rfl) rfl rfl (by decide) rfl) ?_
    refine ASeq.q rfl rfl (QOp.fieldM rfl rfl (tok _ rfl) rfl rfl (by decide) rfl) ?_
    refine ASeq.q rfl rfl (QOp.loadM 8 rfl rfl rfl (tok _ rfl) rfl) ?_
    refine ASeq.op rfl rfl (AOp.buildSliceR rfl (tok _ rfl) rfl (tok _ rfl) (by decide) rfl (by decide) rfl rfl rfl rfl ?_)
    refine ASeq.op rfl rfl (AOp.appendMP 3 (e := 3) (tde := TT 3) rfl rfl rfl rfl (tok _ rfl) rfl (tok _ rfl) (tok _ rfl) rfl (by decide) rfl rfl (fun _ => rfl) (vi_len lF) (row1 _) (by simp only [CS.init, List.length_cons, List.length_nil]; omega) rfl (fun _ => ?_))
    refine ASeq.q rfl rfl (QOp.fieldM rfl rfl (tok _ rfl) rfl rfl (by decide) rfl) ?_
    refine ASeq.q rfl rfl (QOp.fieldM rfl rfl (tok _ rfl) rfl rfl (by decide) rfl) ?_
    refine ASeq.op0 rfl rfl (AOp.storeP 8 rfl rfl rfl rfl (tok _ rfl) rfl rfl rfl rfl ?_)
    refine ASeq.nil ?_
    refine ACode.region ?_
    refine ASeq.q rfl rfl (QOp.ar64 rfl rfl rfl rfl ⟨by omega, by omega⟩) ?_
    refine ASeq.q rfl rfl (QOp.move rfl rfl) ?_
    refine ASeq.nil ?_
    refine AExit.then_normal ?_
    exact ⟨(j + 1, _, _, lP ++ [-1], lF ++ [0]), 9, ⟨hlt, by dsimp only; rw [eP, rep_succ], by dsimp only; rw [eF, rep_succ]⟩, by dsimp only; omega, .cons rfl (.cons rfl (.cons rfl (.cons rfl (.cons rfl .nil)))), by simp only [List.map_append, CS.init, CS.cells, List.length_append]; rfl⟩
  have hgj : j = t.stmts.length := by have := of_decide_eq_false hb; rw [hSl] at this; omega
  subst hge
  subst hgj
  have hfull : ∀ k, CS.init t lT lS lP lF k = { c0 t with slots := List.replicate k [] } := fun k => by
    unfold CS.init c0; rw [eT, eS, eP, eF]
  refine ACode.exit (ACode.seq (ACode.seq (ACode.region ?_)))
  refine ASeq.q rfl rfl (QOp.fieldM rfl rfl (tok _ rfl) rfl rfl (by decide) rfl) ?_
  refine ASeq.q rfl rfl (QOp.loadM 6 rfl rfl rfl (tok _ rfl) rfl) ?_
  refine ASeq.q rfl rfl (QOp.lenI rfl rfl (tok _ rfl) rfl) ?_
  refine ASeq.q rfl rfl (QOp.move rfl rfl) ?_
  refine ASeq.nil ?_
  refine ACode.block ?_
  refine ACode.loopP (fun (x : Nat × Nat × CS) => [(1, .mp m1 0), (2, .mp m2 0), (5, .mp m5 0), (55, vi ((t.funcs.map Fu.cells).length : Int)), (56, vi x.1)])
    (fun x => [.mu mT (lT.map vi), .mu mS (lS.map vi), .mu mP (lP.map vi), .mu mF (lF.map vi), .mu x.2.1 (List.replicate x.1 nilv), .tk τ, .mu m1 t.cells, .mu m2 (List.map AV.v (TT 44).zero), .mu m5 (CS.cells { x.2.2 with slots := List.replicate x.1 [] } ⟨mT, mS, mP, mF, x.2.1⟩)]) (fun x => t.funcs.length - x.1)
    (fun x => x.1 ≤ t.funcs.length ∧ Kept (c0 t) x.2.2 ∧ x.2.2.type = lT ∧ x.2.2.slot = lS ∧ dups (t.funcs.take x.1) (t.funcs.drop x.1) x.2.2 = dups [] t.funcs (c0 t)) (0, mL, c0 t) ⟨Nat.zero_le _, .refl _, eT.symm, eS.symm, by simp⟩ (.cons rfl (.cons rfl (.cons rfl (.cons rfl (.cons rfl .nil))))) 9 (by rw [hfull]; rfl) ?_
  rintro ⟨i, mL, d⟩ ⟨hi, hkd, edT, edS, hres⟩
  dsimp only at hi hkd edT edS hres
  have hdt : d.t = t := hkd.t
  refine ACode.seq (ACode.region ?_)
  refine ASeq.q rfl rfl (QOp.cmp rfl rfl rfl rfl) ?_
  refine ASeq.nil ?_
  refine ACode.seq ?_
  refine ACode.cond _ rfl (fun hb => ?_) (fun hb => ?_)
  · have hlt : i < t.funcs.length := by have := of_decide_eq_true hb; rw [hFl] at this; omega
    have hgi := fu_at hlt
    rw [dups_drop _ _ _ hlt] at hres
    refine ACode.skip (ACode.seq (ACode.block (ACode.seq (ACode.region ?_))))
    refine ASeq.q rfl rfl (QOp.move rfl rfl) ?_
    refine ASeq.q rfl rfl (QOp.assign rfl rfl) ?_
    refine ASeq.nil ?_
    refine ACode.seq (ACode.region ?_)
    refine ASeq.q rfl rfl (QOp.fieldM rfl rfl (tok _ rfl) rfl rfl (by decide) rfl) ?_
    refine ASeq.q rfl rfl (QOp.fieldM rfl rfl (tok _ rfl) rfl rfl (by decide) rfl) ?_
    refine ASeq.q rfl rfl (QOp.loadM 8 rfl rfl rfl (tok _ rfl) rfl) ?_
    refine ASeq.op rfl rfl (AOp.buildSliceR rfl (tok _ rfl) rfl (tok _ rfl) (by decide) rfl (by decide) rfl rfl rfl rfl ?_)
    refine ASeq.op rfl rfl (AOp.appendMP 4 (e := 30) (tde := TT 30) rfl rfl rfl rfl (tok _ rfl) rfl (tok _ rfl) (tok _ rfl) rfl (by decide) rfl rfl (fun _ => rfl) (by simp only [List.length_replicate]; exact (Nat.mul_one _).symm) (row1 _) (by simp only [List.length_cons, List.length_nil, List.length_replicate]; omega) rfl (fun _ => ?_))
    rename_i mL2
    refine ASeq.q rfl rfl (QOp.fieldM rfl rfl (tok _ rfl) rfl rfl (by decide) rfl) ?_
    refine ASeq.q rfl rfl (QOp.fieldM rfl rfl (tok _ rfl) rfl rfl (by decide) rfl) ?_
    refine ASeq.op0 rfl rfl (AOp.storeP 8 rfl rfl rfl rfl (tok _ rfl) rfl rfl rfl rfl ?_)
    refine ASeq.nil ?_
    refine ACode.seq (ACode.region ?_)
    refine ASeq.q rfl rfl (QOp.assign rfl rfl) ?_
    refine ASeq.nil ?_
    refine ACode.block ?_
    refine ACode.loopP (fun (x : Nat × CS) => [(1, .mp m1 0), (2, .mp m2 0), (5, .mp m5 0), (55, vi ((t.funcs.map Fu.cells).length : Int)), (56, vi i), (6, vi i), (7, vi x.1)])
      (fun x => [.mu mT (lT.map vi), .mu mS (lS.map vi), .mu mP (lP.map vi), .mu mF (lF.map vi), .mu mL2 (List.replicate (i + 1) nilv), .tk τ, .mu m1 t.cells, .mu m2 (List.map AV.v (TT 44).zero), .mu m5 (CS.cells { x.2 with slots := List.replicate (i + 1) [] } ⟨mT, mS, mP, mF, mL2⟩)]) (fun x => i - x.1)
      (fun x => x.1 ≤ i ∧ Kept d x.2 ∧ x.2.type = lT ∧ x.2.slot = lS ∧ dupOf t.funcs[i] ((t.funcs.take i).drop x.1) x.2 = dupOf t.funcs[i] (t.funcs.take i) d) (0, d) ⟨Nat.zero_le _, .refl _, edT, edS, rfl⟩ (.cons rfl (.cons rfl (.cons rfl (.cons rfl (.cons rfl (.cons rfl (.cons rfl .nil))))))) 9
      (by simp only [← rep_succ, CS.cells, List.length_append]; rfl) ?_
    rintro ⟨j, e⟩ ⟨hj, hke, eeT, eeS, hres2⟩
    dsimp only at hj hke eeT eeS hres2
    have het : e.t = t := hke.t.trans hdt
    refine ACode.seq (ACode.seq (ACode.region ?_))
    refine ASeq.q rfl rfl (QOp.move rfl rfl) ?_
    refine ASeq.q rfl rfl (QOp.move rfl rfl) ?_
    refine ASeq.q rfl rfl (QOp.cmp rfl rfl rfl rfl) ?_
    refine ASeq.nil ?_
    refine AExit.then_normal ?_
    refine ACode.cond _ rfl (fun hb => ?_) (fun hb => ?_)
    · have hjl : j < i := by have := of_decide_eq_true hb; omega
      have hgj := fu_at (t := t) (i := j) (by omega)
      have htj : (t.funcs.take i)[j]'(by rw [List.length_take]; omega) = t.funcs[j] := List.getElem_take ..
      rw [dupOf_drop _ _ _ _ (by rw [List.length_take]; omega), htj] at hres2
      refine ACode.skip (ACode.seq (ACode.block ?_))
      refine ACode.drawn [[], [], [1], [], [1, 2, 3], [1, 2, 3, 4], [1, 2, 3, 4, 5], [], [7], [], [7, 8, 9], [7, 8, 9, 10], [7, 8, 9, 10, 11], [1, 2, 3, 4, 5, 6, 7, 8, 9, 10, 11, 12], [], [14], [], [14, 15, 16], [14, 15, 16, 17], [14, 15, 16, 17, 18], [14, 15, 16, 17, 18, 19], [0, 1, 2, 3, 4, 5, 6, 7, 8, 9, 10, 11, 12, 13, 14, 15, 16, 17, 18, 19, 20], [0, 1, 2, 3, 4, 5, 6, 7, 8, 9, 10, 11, 12, 13, 14, 15, 16, 17, 18, 19, 20, 21]] (by kernel_rfl) mixed ?_
      refine DAny.ld 0 rfl rfl (by kernel_rfl) rfl (.does _ _ rfl (.none rfl) (QOp.loadM 8 rfl rfl rfl (tok _ rfl) rfl)) ?_
      refine DAny.qu 1 rfl rfl (by kernel_rfl) rfl (fun _ => .does _ _ rfl (.none rfl) (QOp.fieldM rfl rfl (tok _ rfl) rfl rfl (by decide) rfl)) ?_
      refine DAny.ld 2 rfl rfl (by kernel_rfl) rfl (.does _ _ rfl (.none rfl) (QOp.loadM 6 rfl rfl rfl (tok _ rfl) rfl)) ?_
      refine DAny.qu 3 rfl rfl (by kernel_rfl) rfl (fun _ => .does _ _ rfl (.none rfl) (QOp.move rfl rfl)) ?_
      refine DAny.qu 4 rfl rfl (by kernel_rfl) rfl (fun _ => .does _ _ rfl (.none rfl) (QOp.indexI rfl rfl rfl (tok _ rfl) rfl (tok _ rfl) (by omega) (by assumption))) ?_
      refine DAny.qu 5 rfl rfl (by kernel_rfl) rfl (fun _ => .does _ _ rfl (.none rfl) (QOp.fieldI rfl rfl (tok _ rfl) rfl rfl (by decide) rfl)) ?_
      refine DAny.qu 6 rfl rfl (by kernel_rfl) rfl (fun _ => .does _ _ rfl (.none rfl) (QOp.loadI rfl rfl (tok _ rfl) rfl)) ?_
      refine DAny.qu 7 rfl rfl (by kernel_rfl) rfl (fun _ => .does _ _ rfl (.none rfl) (QOp.fieldM rfl rfl (tok _ rfl) rfl rfl (by decide) rfl)) ?_
      refine DAny.ld 8 rfl rfl (by kernel_rfl) rfl (.does _ _ rfl (.none rfl) (QOp.loadM 6 rfl rfl rfl (tok _ rfl) rfl)) ?_
      refine DAny.qu 9 rfl rfl (by kernel_rfl) rfl (fun _ => .does _ _ rfl (.none rfl) (QOp.move rfl rfl)) ?_
      refine DAny.qu 10 rfl rfl (by kernel_rfl) rfl (fun _ => .does _ _ rfl (.none rfl) (QOp.indexI rfl rfl rfl (tok _ rfl) rfl (tok _ rfl) (by omega) (by assumption))) ?_
      refine DAny.qu 11 rfl rfl (by kernel_rfl) rfl (fun _ => .does _ _ rfl (.none rfl) (QOp.fieldI rfl rfl (tok _ rfl) rfl rfl (by decide) rfl)) ?_
      refine DAny.qu 12 rfl rfl (by kernel_rfl) rfl (fun _ => .does _ _ rfl (.none rfl) (QOp.loadI rfl rfl (tok _ rfl) rfl)) ?_
      refine DAny.qu 13 rfl rfl (by kernel_rfl) rfl (fun _ => .does _ _ rfl (.none rfl) (QOp.cmpStr rfl rfl rfl rfl)) ?_
      refine DAny.qu 14 rfl rfl (by kernel_rfl) rfl (fun _ => .does _ _ rfl (.none rfl) (QOp.fieldM rfl rfl (tok _ rfl) rfl rfl (by decide) rfl)) ?_
      refine DAny.ld 15 rfl rfl (by kernel_rfl) rfl (.does _ _ rfl (.none rfl) (QOp.loadM 6 rfl rfl rfl (tok _ rfl) rfl)) ?_
      refine DAny.qu 16 rfl rfl (by kernel_rfl) rfl (fun _ => .does _ _ rfl (.none rfl) (QOp.move rfl rfl)) ?_
      refine DAny.qu 17 rfl rfl (by kernel_rfl) rfl (fun _ => .does _ _ rfl (.none rfl) (QOp.indexI rfl rfl rfl (tok _ rfl) rfl (tok _ rfl) (by omega) (by assumption))) ?_
      refine DAny.qu 18 rfl rfl (by kernel_rfl) rfl (fun _ => .does _ _ rfl (.none rfl) (QOp.fieldI rfl rfl (tok _ rfl) rfl rfl (by decide) rfl)) ?_
      refine DAny.qu 19 rfl rfl (by kernel_rfl) rfl (fun _ => .does _ _ rfl (.none rfl) (QOp.fieldI rfl rfl (tok _ rfl) rfl rfl (by decide) rfl)) ?_
      refine DAny.qu 20 rfl rfl (by kernel_rfl) rfl (fun _ => .does _ _ rfl (.none rfl) (QOp.loadI rfl rfl (tok _ rfl) rfl)) ?_
      refine DAny.ef 21 rfl (by kernel_rfl) (.none rfl) rfl rfl (AOp.callP 0 rfl (by kernel_rfl) rfl rfl rfl (need_ok _ _ _ _ 7) ?_ (by rintro _ _ ⟨⟩))
      rintro _ _ ⟨⟩
      refine ⟨(by ((exact AllQ.nil))), ?_⟩
      refine DAny.ef0 22 rfl (by kernel_rfl) (.none rfl) rfl rfl (AOp.storeP 8 rfl rfl rfl rfl (tok _ rfl) rfl rfl rfl rfl ⟨(by ((exact AllQ.nil))), ?_⟩)
      refine DAny.done (by kernel_rfl) ?_
      refine ACode.region ?_
      refine ASeq.q rfl rfl (QOp.move rfl rfl) ?_
      refine ASeq.q rfl rfl (QOp.ar64 rfl rfl rfl rfl ⟨by omega, by omega⟩) ?_
      refine ASeq.q rfl rfl (QOp.assign rfl rfl) ?_
      refine ASeq.nil ?_
      refine AExit.then_normal ?_
      have hkn := Kept.need e (!(t.funcs[j].name.data.toList == t.funcs[i].name.data.toList)) t.funcs[i].fr 7
      exact ⟨(j + 1, e.need (!(t.funcs[j].name.data.toList == t.funcs[i].name.data.toList)) t.funcs[i].fr 7), 9, ⟨hjl, hke.trans hkn, by dsimp only; rw [← eeT]; unfold CS.need; split <;> rfl, by dsimp only; rw [← eeS]; unfold CS.need; split <;> rfl, hres2⟩, by dsimp only; omega,
        .cons rfl (.cons rfl (.cons rfl (.cons rfl (.cons rfl (.cons rfl (.cons rfl .nil)))))), by dsimp only; rw [← need_with]; rfl⟩
    · have hge : j = i := by have := of_decide_eq_false hb; omega
      have htl : (t.funcs.take i).drop j = [] := List.drop_eq_nil_of_le (by rw [List.length_take]; omega)
      rw [htl] at hres2
      simp only [dupOf] at hres2
      rw [← hres2] at hres
      refine ACode.exit (ACode.region ?_)
      refine ASeq.q rfl rfl (QOp.ar64 rfl rfl rfl rfl ⟨by omega, by omega⟩) ?_
      refine ASeq.q rfl rfl (QOp.move rfl rfl) ?_
      refine ASeq.nil ?_
      refine AExit.then_normal ?_
      exact ⟨(i + 1, mL2, e), 9, ⟨hlt, hkd.trans hke, eeT, eeS, hres⟩, by dsimp only; omega, .cons rfl (.cons rfl (.cons rfl (.cons rfl (.cons rfl .nil)))), rfl⟩
  have hge : i = t.funcs.length := by have := of_decide_eq_false hb; rw [hFl] at this; omega
  subst hge
  rw [List.take_length, List.drop_length] at hres
  simp only [dups] at hres
  have hds : d.slots = List.replicate t.funcs.length [] := hkd.slots
  have hdw : ({ d with slots := List.replicate t.funcs.length [] } : CS) = d := by rw [← hds]
  rw [hdw]
  have hf0 := h.some
  have hfd : d.fu 0 = t.funcs[0] := by
    unfold CS.fu
    simp only [hkd.t, c0, List.getD_eq_getElem?_getD, Int.toNat_zero, List.getElem?_eq_getElem h.some, Option.getD_some]
  have hsp : (c0 t).slotCells τ = CS.slotCells { t := default, type := [], slot := [], put := [], func := [], slots := List.replicate t.funcs.length [] } τ := rfl
  have hsd : d.slotCells τ = (c0 t).slotCells τ := by unfold CS.slotCells; rw [hkd.slots, hkd.f]
  have hnl := nils_le τ t.funcs.length
  rw [← hsp, ← hsd] at hnl
  have hitems : [Abs.Item.mu mT (lT.map vi), .mu mS (lS.map vi), .mu mP (lP.map vi), .mu mF (lF.map vi), .mu mL (d.slotCells τ), .tk τ] = d.items ⟨mT, mS, mP, mF, mL⟩ τ := by
    unfold CS.items
    rw [edT, edS, hkd.put, hkd.func, eP, eF]; rfl
  refine ACode.cells [_, _, _, _] [_, _, _, _] rfl hnl ?_
  show ACode Try.prog _ _ _ _ ([Abs.Item.mu mT (lT.map vi), .mu mS (lS.map vi), .mu mP (lP.map vi), .mu mF (lF.map vi), .mu mL (d.slotCells τ), .tk τ] ++ [.mu m1 t.cells, .mu m2 (List.map AV.v (TT 44).zero), .mu m5 (d.cells ⟨mT, mS, mP, mF, mL⟩)]) _
  rw [hitems]
  generalize (⟨mT, mS, mP, mF, mL⟩ : Ms) = m
  have hdt : d.t = t := hkd.t
  refine ACode.exit (ACode.seq ?_)
  refine ACode.drawn [[], [], [1], [1, 2], [1, 2, 3], [1, 2, 3, 4], [1, 2, 3, 4, 5], [0, 1, 2, 3, 4, 5, 6], [0, 1, 2, 3, 4, 5, 6, 7]] (by kernel_rfl) mixed ?_
  refine DAny.ld 0 rfl rfl (by kernel_rfl) rfl (.does _ _ rfl (.none rfl) (QOp.loadM 8 rfl rfl rfl (tok _ rfl) rfl)) ?_
  refine DAny.qu 1 rfl rfl (by kernel_rfl) rfl (fun _ => .does _ _ rfl (.none rfl) (QOp.fieldM rfl rfl (tok _ rfl) rfl rfl (by decide) rfl)) ?_
  refine DAny.ld 2 rfl rfl (by kernel_rfl) rfl (.does _ _ rfl (.none rfl) (QOp.loadM 6 rfl rfl rfl (tok _ rfl) rfl)) ?_
  refine DAny.qu 3 rfl rfl (by kernel_rfl) rfl (fun _ => .does _ _ rfl (.none rfl) (QOp.indexI rfl rfl rfl (tok _ rfl) rfl (tok _ rfl) (by decide) (by assumption))) ?_
  refine DAny.qu 4 rfl rfl (by kernel_rfl) rfl (fun _ => .does _ _ rfl (.none rfl) (QOp.fieldI rfl rfl (tok _ rfl) rfl rfl (by decide) rfl)) ?_
  refine DAny.qu 5 rfl rfl (by kernel_rfl) rfl (fun _ => .does _ _ rfl (.none rfl) (QOp.loadI rfl rfl (tok _ rfl) rfl)) ?_
  refine DAny.qu 6 rfl rfl (by kernel_rfl) rfl (fun _ => .does _ _ rfl (.none rfl) (QOp.cmpStr rfl rfl rfl rfl)) ?_
  refine DAny.ef 7 rfl (by kernel_rfl) (.none rfl) rfl rfl (AOp.callP 0 rfl (by kernel_rfl) rfl rfl rfl (need_ok _ _ _ _ 17) ?_ (by rintro _ _ ⟨⟩))
  rintro _ _ ⟨⟩
  refine ⟨(by ((exact AllQ.nil))), ?_⟩
  refine DAny.ef0 8 rfl (by kernel_rfl) (.none rfl) rfl rfl (AOp.storeP 8 rfl rfl rfl rfl (tok _ rfl) rfl rfl rfl rfl ⟨(by ((exact AllQ.nil))), ?_⟩)
  refine DAny.done (by kernel_rfl) ?_
  have hfc : faceOf d = (d.need (t.funcs[0].name.data.toList == [109, 97, 105, 110]) 0 17).need (((strs t.funcs[0].params).length : Int) == 0 && t.funcs[0].type == 4) t.funcs[0].fr 8 := by
    unfold faceOf; rw [hfd, strs_len]
  refine ACode.meet [(1, .mp m1 0), (2, .mp m2 0), (5, .mp m5 0)] (d.items m τ ++ [.mu m1 t.cells, .mu m2 (List.map AV.v (TT 44).zero), .mu m5 ((faceOf d).cells m)]) (fun rest => ?_) ?_
  · refine ACode.drawn [[], [], [1], [1, 2], [1, 2, 3], [1, 2, 3, 4], [1, 2, 3, 4, 5], [1, 2, 3, 4, 5, 6], [1, 2, 3, 4, 5, 6, 7], [1, 2, 3, 4, 5, 6, 7, 8], [1, 2, 3, 4, 5, 6, 7, 8, 9], [1, 2, 3, 4, 5, 6, 7, 8, 9, 10], [1, 2, 3, 4, 5, 6, 7, 8, 9, 10, 11], [1, 2, 3, 4, 5, 6, 7, 8, 9, 10, 11, 12], [1, 2, 3, 4, 5, 6, 7, 8, 9, 10, 11, 12, 13], [1, 2, 3, 4, 5, 6, 7, 8, 9, 10, 11, 12, 13, 14], [], [16], [16, 17], [16, 17, 18], [16, 17, 18, 19], [16, 17, 18, 19, 20], [0, 1, 2, 3, 4, 5, 6, 7, 8, 9, 10, 11, 12, 13, 14, 15, 16, 17, 18, 19, 20, 21], [0, 1, 2, 3, 4, 5, 6, 7, 8, 9, 10, 11, 12, 13, 14, 15, 16, 17, 18, 19, 20, 21, 22]] (by kernel_rfl) mixed ?_
    refine DAny.ld 0 rfl rfl (by kernel_rfl) rfl (.does _ _ rfl (.none rfl) (QOp.loadM 8 rfl rfl rfl (tok _ rfl) rfl)) ?_
    refine DAny.qu 1 rfl rfl (by kernel_rfl) rfl (fun _ => .does _ _ rfl (.none rfl) (QOp.fieldM rfl rfl (tok _ rfl) rfl rfl (by decide) rfl)) ?_
    refine DAny.ld 2 rfl rfl (by kernel_rfl) rfl (.does _ _ rfl (.none rfl) (QOp.loadM 6 rfl rfl rfl (tok _ rfl) rfl)) ?_
    refine DAny.qu 3 rfl rfl (by kernel_rfl) rfl (fun _ => .does _ _ rfl (.none rfl) (QOp.indexI rfl rfl rfl (tok _ rfl) rfl (tok _ rfl) (by decide) (by assumption))) ?_
    refine DAny.qu 4 rfl rfl (by kernel_rfl) rfl (fun _ => .does _ _ rfl (.none rfl) (QOp.fieldI rfl rfl (tok _ rfl) rfl rfl (by decide) rfl)) ?_
    refine DAny.qu 5 rfl rfl (by kernel_rfl) rfl (fun _ => .does _ _ rfl (.none rfl) (QOp.loadI rfl rfl (tok _ rfl) rfl)) ?_
    refine DAny.qu 6 rfl rfl (by kernel_rfl) rfl (fun _ => .does _ _ rfl (.none rfl) (QOp.lenI rfl rfl (tok _ rfl) rfl)) ?_
    refine DAny.qu 7 rfl rfl (by kernel_rfl) rfl (fun _ => .does _ _ rfl (.none rfl) (QOp.cmp rfl rfl rfl rfl)) ?_
    refine DAny.qu 8 rfl rfl (by kernel_rfl) rfl (fun _ => .does _ _ rfl (.none rfl) (QOp.move rfl rfl)) ?_
    refine DAny.qu 16 rfl rfl (by kernel_rfl) rfl (fun _ => .does _ _ rfl (.none rfl) (QOp.fieldM rfl rfl (tok _ rfl) rfl rfl (by decide) rfl)) ?_
    refine DAny.ld 17 rfl rfl (by kernel_rfl) rfl (.does _ _ rfl (.none rfl) (QOp.loadM 6 rfl rfl rfl (tok _ rfl) rfl)) ?_
    refine DAny.qu 18 rfl rfl (by kernel_rfl) rfl (fun _ => .does _ _ rfl (.none rfl) (QOp.indexI rfl rfl rfl (tok _ rfl) rfl (tok _ rfl) (by decide) (by assumption))) ?_
    refine DAny.qu 19 rfl rfl (by kernel_rfl) rfl (fun _ => .does _ _ rfl (.none rfl) (QOp.fieldI rfl rfl (tok _ rfl) rfl rfl (by decide) rfl)) ?_
    refine DAny.qu 20 rfl rfl (by kernel_rfl) rfl (fun _ => .does _ _ rfl (.none rfl) (QOp.fieldI rfl rfl (tok _ rfl) rfl rfl (by decide) rfl)) ?_
    refine DAny.qu 21 rfl rfl (by kernel_rfl) rfl (fun _ => .does _ _ rfl (.none rfl) (QOp.loadI rfl rfl (tok _ rfl) rfl)) ?_
    -- STOP at 9 (listed 0,1,2,3,4,5,6,7,8,16,17,18,19,20,21)
    refine DAny.split 110 (((strs t.funcs[0].params).length : Int) == 0) rfl (fun hp => ?_) (fun hp => ?_)
    · rw [hp, Bool.true_and] at hfc
      refine DAny.qu 9 rfl rfl (by kernel_rfl) rfl (fun _ => .does _ _ rfl (by exact .yes _ _ _ rfl rfl rfl) (QOp.fieldM rfl rfl (tok _ rfl) rfl rfl (by decide) rfl)) ?_
      refine DAny.ld 10 rfl rfl (by kernel_rfl) rfl (.does _ _ rfl (by exact .yes _ _ _ rfl rfl rfl) (QOp.loadM 6 rfl rfl rfl (tok _ rfl) rfl)) ?_
      refine DAny.qu 11 rfl rfl (by kernel_rfl) rfl (fun _ => .does _ _ rfl (by exact .yes _ _ _ rfl rfl rfl) (QOp.indexI rfl rfl rfl (tok _ rfl) rfl (tok _ rfl) (by decide) (by assumption))) ?_
      refine DAny.qu 12 rfl rfl (by kernel_rfl) rfl (fun _ => .does _ _ rfl (by exact .yes _ _ _ rfl rfl rfl) (QOp.fieldI rfl rfl (tok _ rfl) rfl rfl (by decide) rfl)) ?_
      refine DAny.qu 13 rfl rfl (by kernel_rfl) rfl (fun _ => .does _ _ rfl (by exact .yes _ _ _ rfl rfl rfl) (QOp.loadI rfl rfl (tok _ rfl) rfl)) ?_
      refine DAny.qu 14 rfl rfl (by kernel_rfl) rfl (fun _ => .does _ _ rfl (by exact .yes _ _ _ rfl rfl rfl) (QOp.cmp rfl rfl rfl rfl)) ?_
      refine DAny.qu 15 rfl rfl (by kernel_rfl) rfl (fun _ => .does _ _ rfl (.none rfl) (QOp.pickT rfl rfl rfl)) ?_
      refine DAny.ef 22 rfl (by kernel_rfl) (.none rfl) rfl rfl (AOp.callP 0 rfl (by kernel_rfl) rfl rfl rfl (need_ok _ _ _ _ 8) ?_ (by rintro _ _ ⟨⟩))
      rintro _ _ ⟨⟩
      refine ⟨(by ((exact AllQ.nil))), ?_⟩
      refine DAny.ef0 23 rfl (by kernel_rfl) (.none rfl) rfl rfl (AOp.storeP 8 rfl rfl rfl rfl (tok _ rfl) rfl rfl rfl rfl ⟨(by ((exact AllQ.nil))), ?_⟩)
      refine DAny.done (by kernel_rfl) ?_
      refine AExit.then_normal ?_
      exact rest.atP 9 (.cons rfl (.cons rfl (.cons rfl .nil))) (by rw [hfc]; rfl)
    · rw [hp, Bool.false_and] at hfc
      refine DAny.qu 9 rfl rfl (by kernel_rfl) rfl (fun _ => .passed _ rfl (.no _ _ _ rfl rfl rfl rfl)) ?_
      refine DAny.qu 10 rfl rfl (by kernel_rfl) rfl (fun _ => .passed _ rfl (.no _ _ _ rfl rfl rfl rfl)) ?_
      refine DAny.qu 11 rfl rfl (by kernel_rfl) rfl (fun _ => .passed _ rfl (.no _ _ _ rfl rfl rfl rfl)) ?_
      refine DAny.qu 12 rfl rfl (by kernel_rfl) rfl (fun _ => .passed _ rfl (.no _ _ _ rfl rfl rfl rfl)) ?_
      refine DAny.qu 13 rfl rfl (by kernel_rfl) rfl (fun _ => .passed _ rfl (.no _ _ _ rfl rfl rfl rfl)) ?_
      refine DAny.qu 14 rfl rfl (by kernel_rfl) rfl (fun _ => .passed _ rfl (.no _ _ _ rfl rfl rfl rfl)) ?_
      refine DAny.qu 15 rfl rfl (by kernel_rfl) rfl (fun _ => .does _ _ rfl (.none rfl) (QOp.pickF rfl rfl rfl)) ?_
      refine DAny.ef 22 rfl (by kernel_rfl) (.none rfl) rfl rfl (AOp.callP 0 rfl (by kernel_rfl) rfl rfl rfl (need_ok _ _ _ _ 8) ?_ (by rintro _ _ ⟨⟩))
      rintro _ _ ⟨⟩
      refine ⟨(by ((exact AllQ.nil))), ?_⟩
      refine DAny.ef0 23 rfl (by kernel_rfl) (.none rfl) rfl rfl (AOp.storeP 8 rfl rfl rfl rfl (tok _ rfl) rfl rfl rfl rfl ⟨(by ((exact AllQ.nil))), ?_⟩)
      refine DAny.done (by kernel_rfl) ?_
      refine AExit.then_normal ?_
      exact rest.atP 9 (.cons rfl (.cons rfl (.cons rfl .nil))) (by rw [hfc]; rfl)
  have hpre := pre0 t
  rw [← hres] at hpre
  have hid : d.items m τ = (faceOf d).items m τ := by unfold faceOf; rw [items_need, items_need]
  have hck : checked t = funs 0 t.funcs (faceOf d) := by unfold checked; rw [hres]
  rw [hid]
  generalize faceOf d = e0 at hpre hck
  refine ACode.seq (ACode.seq (ACode.region ?_))
  refine ASeq.q rfl rfl (QOp.fieldM rfl rfl (tok _ rfl) rfl rfl (by decide) rfl) ?_
  refine ASeq.q rfl rfl (QOp.loadM 6 rfl rfl rfl (tok _ rfl) rfl) ?_
  refine ASeq.q rfl rfl (QOp.lenI rfl rfl (tok _ rfl) rfl) ?_
  refine ASeq.q rfl rfl (QOp.move rfl rfl) ?_
  refine ASeq.nil ?_
  refine ACode.block ?_
  refine ACode.loopP (fun (x : Nat × CS × Nat) => [(1, .mp m1 0), (2, .mp m2 0), (5, .mp m5 0), (127, vi ((t.funcs.map Fu.cells).length : Int)), (128, vi x.1)])
    (fun x => x.2.1.items m x.2.2 ++ [.mu m1 t.cells, .mu m2 (List.map AV.v (TT 44).zero), .mu m5 (x.2.1.cells m)]) (fun x => t.funcs.length - x.1)
    (fun x => x.1 ≤ t.funcs.length ∧ Pre t x.1 x.2.1 ∧ funs x.1 (t.funcs.drop x.1) x.2.1 = checked t) (0, e0, τ) ⟨Nat.zero_le _, hpre, hck.symm⟩ (.cons rfl (.cons rfl (.cons rfl (.cons rfl (.cons rfl .nil))))) 9 rfl ?_
  clear hck hpre hid hfc hres hnl hsd hsp hfd hdw hds hkd hitems hfull hlF hlP eP eF hlT hlS eT eS
  rintro ⟨i, c, τ⟩ ⟨hi, hpre, hres⟩
  dsimp only at hi hpre hres
  refine ACode.seq (ACode.region ?_)
  refine ASeq.q rfl rfl (QOp.cmp rfl rfl rfl rfl) ?_
  refine ASeq.nil ?_
  refine ACode.seq ?_
  refine ACode.cond _ rfl (fun hb => ?_) (fun hb => ?_)
  · have hlt : i < t.funcs.length := by have := of_decide_eq_true hb; rw [hFl] at this; omega
    have hgi := fu_at hlt
    have hok := hpre.enter hlt hbig
    have hle := enter_le hpre hlt τ
    rw [funs_drop _ _ _ hlt] at hres
    have hfu := h.fu _ (List.getElem_mem hlt)
    refine ACode.skip (ACode.seq (ACode.block (ACode.seq (ACode.region ?_))))
    refine ASeq.q rfl rfl (QOp.move rfl rfl) ?_
    refine ASeq.q rfl rfl (QOp.assign rfl rfl) ?_
    refine ASeq.nil ?_
    refine ACode.seq (ACode.region ?_)
    refine ASeq.q rfl rfl (QOp.move rfl rfl) ?_
    refine ASeq.q rfl rfl (QOp.fieldM rfl rfl (tok _ rfl) rfl rfl (by decide) rfl) ?_
    refine ASeq.op0 rfl rfl (AOp.storeP 8 rfl rfl rfl rfl (tok _ rfl) rfl rfl rfl rfl ?_)
    refine ASeq.nil ?_
    refine ACode.seq (ACode.region ?_)
    refine ASeq.q rfl rfl (QOp.fieldM rfl rfl (tok _ rfl) rfl rfl (by decide) rfl) ?_
    refine ASeq.op0 rfl rfl (AOp.storeP 8 rfl rfl rfl rfl (tok _ rfl) rfl rfl rfl rfl ?_)
    refine ASeq.nil ?_
    refine ACode.seq (ACode.region ?_)
    refine ASeq.q rfl rfl (QOp.fieldM rfl rfl (tok _ rfl) rfl rfl (by decide) rfl) ?_
    refine ASeq.op0 rfl rfl (AOp.storeP 8 rfl rfl rfl rfl (tok _ rfl) rfl rfl rfl rfl ?_)
    refine ASeq.nil ?_
    refine ACode.seq (ACode.seq (ACode.region ?_))
    refine ASeq.cells (cells' := (c.enter i).slotCells τ) [_, _, _, _] [_, _, _, _] rfl hle ?_
    refine ASeq.cells (cells' := (c.enter i).cells m) [_, _, _, _, _, _, _, _] [] rfl
      (.cons (.refl _) (.cons (.refl _) (.cons (.refl _) (.cons (.refl _) (.cons (.refl _) (.cons (.refl _) (.cons (.refl _) (.cons (.refl _) (.cons (.refl _) (.cons (.nilT 3 _) (.cons (.refl _) (.cons (.refl _) (.cons (.refl _) (.cons (.refl _) .nil)))))))))))))) ?_
    refine ASeq.q rfl rfl (QOp.fieldM rfl rfl (tok _ rfl) rfl rfl (by decide) rfl) ?_
    refine ASeq.q rfl rfl (QOp.loadM 6 rfl rfl rfl (tok _ rfl) rfl) ?_
    refine ASeq.q rfl rfl (QOp.move rfl rfl) ?_
    refine ASeq.q rfl rfl (QOp.indexI rfl rfl rfl (tok _ rfl) rfl (tok _ rfl) (by omega) (by assumption)) ?_
    refine ASeq.q rfl rfl (QOp.fieldI rfl rfl (tok _ rfl) rfl rfl (by decide) rfl) ?_
    refine ASeq.q rfl rfl (QOp.loadI rfl rfl (tok _ rfl) rfl) ?_
    refine ASeq.q rfl rfl (QOp.lenI rfl rfl (tok _ rfl) rfl) ?_
    refine ASeq.q rfl rfl (QOp.move rfl rfl) ?_
    refine ASeq.nil ?_
    refine ACode.block ?_
    refine ACode.loopP (fun (x : Nat × CS × Nat) => [(1, .mp m1 0), (2, .mp m2 0), (5, .mp m5 0), (127, vi ((t.funcs.map Fu.cells).length : Int)), (128, vi i), (8, vi i), (141, vi ((strs t.funcs[i].params).length : Int)), (142, vi x.1)])
      (fun x => x.2.1.items m x.2.2 ++ [.mu m1 t.cells, .mu m2 (List.map AV.v (TT 44).zero), .mu m5 (x.2.1.cells m)]) (fun x => t.funcs[i].params.length - x.1)
      (fun x => x.1 ≤ t.funcs[i].params.length ∧ KeptS (c.enter i) x.2.1 ∧ parsOf t.funcs[i].fr (t.funcs[i].params.drop x.1) x.2.1 = parsOf t.funcs[i].fr t.funcs[i].params (c.enter i)) (0, c.enter i, τ) ⟨Nat.zero_le _, .refl _, rfl⟩
      (.cons rfl (.cons rfl (.cons rfl (.cons rfl (.cons rfl (.cons rfl (.cons rfl (.cons rfl .nil)))))))) 9 rfl ?_
    rintro ⟨k, d, τ⟩ ⟨hk, hkd, hres2⟩
    dsimp only at hk hkd hres2
    have hpl := strs_len t.funcs[i].params
    refine ACode.seq (ACode.region ?_)
    refine ASeq.q rfl rfl (QOp.cmp rfl rfl rfl rfl) ?_
    refine ASeq.nil ?_
    refine ACode.seq ?_
    refine ACode.cond _ rfl (fun hb => ?_) (fun hb => ?_)
    · have hlk : k < t.funcs[i].params.length := by have := of_decide_eq_true hb; rw [hpl] at this; omega
      have hgk := strs_get hlk
      have hok2 := hkd.ok hok
      rw [pars_drop _ _ _ _ hlk] at hres2
      refine ACode.skip (ACode.seq (ACode.block (ACode.seq (ACode.region ?_))))
      refine ASeq.q rfl rfl (QOp.move rfl rfl) ?_
      refine ASeq.q rfl rfl (QOp.assign rfl rfl) ?_
      refine ASeq.nil ?_
      refine ACode.seq (ACode.region ?_)
      refine ASeq.q rfl rfl (QOp.fieldM rfl rfl (tok _ rfl) rfl rfl (by decide) rfl) ?_
      refine ASeq.q rfl rfl (QOp.loadM 8 rfl rfl rfl (tok _ rfl) rfl) ?_
      refine ASeq.q rfl rfl (QOp.cmp rfl rfl rfl rfl) ?_
      refine ASeq.nil ?_
      refine AExit.then_normal ?_
      refine ACode.cond _ rfl (fun hb => ?_) (fun hb => ?_)
      · have hc0 : d.code = 0 := by simpa using hb
        rw [if_pos hc0] at hres2
        refine ACode.drawn [[], [], [1], [], [1, 2, 3], [1, 2, 3, 4], [1, 2, 3, 4, 5], [], [1, 2, 3, 4, 5, 6, 7], [1, 2, 3, 4, 5, 6, 7, 8], [], [10], [], [10, 11, 12], [10, 11, 12, 13], [10, 11, 12, 13, 14], [10, 11, 12, 13, 14, 15], [0, 1, 2, 3, 4, 5, 6, 7, 8, 9, 10, 11, 12, 13, 14, 15, 16], [0, 1, 2, 3, 4, 5, 6, 7, 8, 9, 10, 11, 12, 13, 14, 15, 16, 17], [0, 1, 2, 3, 4, 5, 6, 7, 8, 9, 10, 11, 12, 13, 14, 15, 16, 17, 18], [0, 1, 2, 3, 4, 5, 6, 7, 8, 9, 10, 11, 12, 13, 14, 15, 16, 17, 18], [0, 1, 2, 3, 4, 5, 6, 7, 8, 9, 10, 11, 12, 13, 14, 15, 16, 17, 18, 19]] (by kernel_rfl) mixed ?_
        refine DAny.ld 0 rfl rfl (by kernel_rfl) rfl (.does _ _ rfl (.none rfl) (QOp.loadM 8 rfl rfl rfl (tok _ rfl) rfl)) ?_
        refine DAny.qu 1 rfl rfl (by kernel_rfl) rfl (fun _ => .does _ _ rfl (.none rfl) (QOp.fieldM rfl rfl (tok _ rfl) rfl rfl (by decide) rfl)) ?_
        refine DAny.ld 2 rfl rfl (by kernel_rfl) rfl (.does _ _ rfl (.none rfl) (QOp.loadM 6 rfl rfl rfl (tok _ rfl) rfl)) ?_
        refine DAny.qu 3 rfl rfl (by kernel_rfl) rfl (fun _ => .does _ _ rfl (.none rfl) (QOp.move rfl rfl)) ?_
        refine DAny.qu 4 rfl rfl (by kernel_rfl) rfl (fun _ => .does _ _ rfl (.none rfl) (QOp.indexI rfl rfl rfl (tok _ rfl) rfl (tok _ rfl) (by omega) (by assumption))) ?_
        refine DAny.qu 5 rfl rfl (by kernel_rfl) rfl (fun _ => .does _ _ rfl (.none rfl) (QOp.fieldI rfl rfl (tok _ rfl) rfl rfl (by decide) rfl)) ?_
        refine DAny.qu 6 rfl rfl (by kernel_rfl) rfl (fun _ => .does _ _ rfl (.none rfl) (QOp.loadI rfl rfl (tok _ rfl) rfl)) ?_
        refine DAny.qu 7 rfl rfl (by kernel_rfl) rfl (fun _ => .does _ _ rfl (.none rfl) (QOp.move rfl rfl)) ?_
        refine DAny.qu 8 rfl rfl (by kernel_rfl) rfl (fun _ => .does _ _ rfl (.none rfl) (QOp.indexI rfl rfl rfl (tok _ rfl) rfl (tok _ rfl) (by omega) (by assumption))) ?_
        refine DAny.qu 9 rfl rfl (by kernel_rfl) rfl (fun _ => .does _ _ rfl (.none rfl) (QOp.loadI rfl rfl (tok _ rfl) rfl)) ?_
        refine DAny.qu 10 rfl rfl (by kernel_rfl) rfl (fun _ => .does _ _ rfl (.none rfl) (QOp.fieldM rfl rfl (tok _ rfl) rfl rfl (by decide) rfl)) ?_
        refine DAny.ld 11 rfl rfl (by kernel_rfl) rfl (.does _ _ rfl (.none rfl) (QOp.loadM 6 rfl rfl rfl (tok _ rfl) rfl)) ?_
        refine DAny.qu 12 rfl rfl (by kernel_rfl) rfl (fun _ => .does _ _ rfl (.none rfl) (QOp.move rfl rfl)) ?_
        refine DAny.qu 13 rfl rfl (by kernel_rfl) rfl (fun _ => .does _ _ rfl (.none rfl) (QOp.indexI rfl rfl rfl (tok _ rfl) rfl (tok _ rfl) (by omega) (by assumption))) ?_
        refine DAny.qu 14 rfl rfl (by kernel_rfl) rfl (fun _ => .does _ _ rfl (.none rfl) (QOp.fieldI rfl rfl (tok _ rfl) rfl rfl (by decide) rfl)) ?_
        refine DAny.qu 15 rfl rfl (by kernel_rfl) rfl (fun _ => .does _ _ rfl (.none rfl) (QOp.fieldI rfl rfl (tok _ rfl) rfl rfl (by decide) rfl)) ?_
        refine DAny.qu 16 rfl rfl (by kernel_rfl) rfl (fun _ => .does _ _ rfl (.none rfl) (QOp.loadI rfl rfl (tok _ rfl) rfl)) ?_
        refine DAny.ef 17 rfl (by kernel_rfl) (.none rfl) rfl rfl (AOp.callP 6 rfl (by kernel_rfl) rfl rfl rfl (declare_ok d m hok2 _ 1 _ τ) ?_ (by rintro _ _ ⟨⟩))
        rintro _ _ ⟨τ⟩
        refine ⟨(by ((exact AllQ.nil))), ?_⟩
        refine DAny.qu 18 rfl rfl (by kernel_rfl) rfl (fun _ => .does _ _ rfl (.none rfl) (QOp.move rfl rfl)) ?_
        refine DAny.qu 19 rfl rfl (by kernel_rfl) rfl (fun _ => .does _ _ rfl (.none rfl) (QOp.extract rfl rfl rfl)) ?_
        refine DAny.qu 20 rfl rfl (by kernel_rfl) rfl (fun _ => .does _ _ rfl (.none rfl) (QOp.extract rfl rfl rfl)) ?_
        refine DAny.ef0 21 rfl (by kernel_rfl) (.none rfl) rfl rfl (AOp.storeP 8 rfl rfl rfl rfl (tok _ rfl) rfl rfl rfl rfl ⟨(by ((exact AllQ.nil))), ?_⟩)
        refine DAny.done (by kernel_rfl) ?_
        have hkk := KeptS.decl hok2 t.funcs[i].params[k] 1 t.funcs[i].fr
        refine ACode.region ?_
        refine ASeq.q rfl rfl (QOp.ar64 rfl rfl rfl rfl ⟨by omega, by omega⟩) ?_
        refine ASeq.q rfl rfl (QOp.move rfl rfl) ?_
        refine ASeq.nil ?_
        refine AExit.then_normal ?_
        exact ⟨(k + 1, (d.decl t.funcs[i].params[k] 1 t.funcs[i].fr).1, _), 9, ⟨hlk, hkd.trans hkk, hres2⟩, by dsimp only; omega, .cons rfl (.cons rfl (.cons rfl (.cons rfl (.cons rfl (.cons rfl (.cons rfl (.cons rfl .nil))))))), rfl⟩
      · have hc0 : ¬ d.code = 0 := by simpa using hb
        rw [if_neg hc0] at hres2
        refine ACode.skip (ACode.region ?_)
        refine ASeq.q rfl rfl (QOp.ar64 rfl rfl rfl rfl ⟨by omega, by omega⟩) ?_
        refine ASeq.q rfl rfl (QOp.move rfl rfl) ?_
        refine ASeq.nil ?_
        refine AExit.then_normal ?_
        exact ⟨(k + 1, d, τ), 9, ⟨hlk, hkd, hres2⟩, by dsimp only; omega, .cons rfl (.cons rfl (.cons rfl (.cons rfl (.cons rfl (.cons rfl (.cons rfl (.cons rfl .nil))))))), rfl⟩
    have hge : k = t.funcs[i].params.length := by have := of_decide_eq_false hb; rw [hpl] at this; omega
    rw [hge, List.drop_length] at hres2
    simp only [parsOf] at hres2
    rw [← hres2] at hres
    clear hres2
    refine ACode.exit (ACode.seq (ACode.region ?_))
    refine ASeq.q rfl rfl (QOp.fieldM rfl rfl (tok _ rfl) rfl rfl (by decide) rfl) ?_
    refine ASeq.q rfl rfl (QOp.loadM 6 rfl rfl rfl (tok _ rfl) rfl) ?_
    refine ASeq.q rfl rfl (QOp.move rfl rfl) ?_
    refine ASeq.q rfl rfl (QOp.indexI rfl rfl rfl (tok _ rfl) rfl (tok _ rfl) (by omega) (by assumption)) ?_
    refine ASeq.q rfl rfl (QOp.fieldI rfl rfl (tok _ rfl) rfl rfl (by decide) rfl) ?_
    refine ASeq.q rfl rfl (QOp.loadI rfl rfl (tok _ rfl) rfl) ?_
    refine ASeq.q rfl rfl (QOp.lenI rfl rfl (tok _ rfl) rfl) ?_
    refine ASeq.q rfl rfl (QOp.move rfl rfl) ?_
    refine ASeq.nil ?_
    refine ACode.block ?_
    refine ACode.loopP (fun (x : Nat × CS × Nat) => [(1, .mp m1 0), (2, .mp m2 0), (5, .mp m5 0), (127, vi ((t.funcs.map Fu.cells).length : Int)), (128, vi i), (8, vi i), (176, vi ((ints t.funcs[i].body).length : Int)), (177, vi x.1)])
      (fun x => x.2.1.items m x.2.2 ++ [.mu m1 t.cells, .mu m2 (List.map AV.v (TT 44).zero), .mu m5 (x.2.1.cells m)]) (fun x => t.funcs[i].body.length - x.1)
      (fun x => x.1 ≤ t.funcs[i].body.length ∧ KeptS (c.enter i) x.2.1 ∧ bodyOf (t.funcs[i].body.drop x.1) x.2.1 = bodyOf t.funcs[i].body d) (0, d, τ) ⟨Nat.zero_le _, hkd, rfl⟩
      (.cons rfl (.cons rfl (.cons rfl (.cons rfl (.cons rfl (.cons rfl (.cons rfl (.cons rfl .nil)))))))) 9 rfl ?_
    clear hge hb
    rintro ⟨k, e, τ⟩ ⟨hk, hke, hres2⟩
    dsimp only at hk hke hres2
    have hbl := ints_len t.funcs[i].body
    have het : e.t = t := hke.t.trans hpre.tt
    have heb : e.block = 0 := hke.block
    have hel : e.loops = 0 := hke.loops.trans hpre.loops
    have hmax : smax = 1099511627776 := rfl
    refine ACode.seq (ACode.region ?_)
    refine ASeq.q rfl rfl (QOp.cmp rfl rfl rfl rfl) ?_
    refine ASeq.nil ?_
    refine ACode.seq ?_
    refine ACode.cond _ rfl (fun hb => ?_) (fun hb => ?_)
    · have hlk : k < t.funcs[i].body.length := by have := of_decide_eq_true hb; rw [hbl] at this; omega
      have hgk := ints_get hlk
      have hok2 := hke.ok hok
      have hm := hfu.2.2 _ (List.getElem_mem hlk)
      rw [body_drop _ _ _ hlk, het] at hres2
      have hs := stms6 t.stmts.length e m t.funcs[i].body[k] τ hok2 (by rw [het]; exact h.ex) (by rw [het]; exact h.st) hm.1 (by rw [het]; exact hm.2) hm.2 (by omega) (by omega) (by omega) (by omega)
      have hks := KeptS.stm6 t.stmts.length e t.funcs[i].body[k] hok2
      generalize stm6 t.stmts.length e t.funcs[i].body[k] = e2 at hres2 hs hks
      refine ACode.skip (ACode.seq (ACode.block (ACode.seq (ACode.region ?_))))
      refine ASeq.q rfl rfl (QOp.move rfl rfl) ?_
      refine ASeq.q rfl rfl (QOp.assign rfl rfl) ?_
      refine ASeq.nil ?_
      refine AExit.then_normal ?_
      refine ACode.drawn [[], [], [1], [], [1, 2, 3], [1, 2, 3, 4], [1, 2, 3, 4, 5], [], [1, 2, 3, 4, 5, 6, 7], [1, 2, 3, 4, 5, 6, 7, 8], [0, 1, 2, 3, 4, 5, 6, 7, 8, 9], [0, 1, 2, 3, 4, 5, 6, 7, 8, 9, 10]] (by kernel_rfl) mixed ?_
      refine DAny.ld 0 rfl rfl (by kernel_rfl) rfl (.does _ _ rfl (.none rfl) (QOp.loadM 8 rfl rfl rfl (tok _ rfl) rfl)) ?_
      refine DAny.qu 1 rfl rfl (by kernel_rfl) rfl (fun _ => .does _ _ rfl (.none rfl) (QOp.fieldM rfl rfl (tok _ rfl) rfl rfl (by decide) rfl)) ?_
      refine DAny.ld 2 rfl rfl (by kernel_rfl) rfl (.does _ _ rfl (.none rfl) (QOp.loadM 6 rfl rfl rfl (tok _ rfl) rfl)) ?_
      refine DAny.qu 3 rfl rfl (by kernel_rfl) rfl (fun _ => .does _ _ rfl (.none rfl) (QOp.move rfl rfl)) ?_
      refine DAny.qu 4 rfl rfl (by kernel_rfl) rfl (fun _ => .does _ _ rfl (.none rfl) (QOp.indexI rfl rfl rfl (tok _ rfl) rfl (tok _ rfl) (by omega) (by assumption))) ?_
      refine DAny.qu 5 rfl rfl (by kernel_rfl) rfl (fun _ => .does _ _ rfl (.none rfl) (QOp.fieldI rfl rfl (tok _ rfl) rfl rfl (by decide) rfl)) ?_
      refine DAny.qu 6 rfl rfl (by kernel_rfl) rfl (fun _ => .does _ _ rfl (.none rfl) (QOp.loadI rfl rfl (tok _ rfl) rfl)) ?_
      refine DAny.qu 7 rfl rfl (by kernel_rfl) rfl (fun _ => .does _ _ rfl (.none rfl) (QOp.move rfl rfl)) ?_
      refine DAny.qu 8 rfl rfl (by kernel_rfl) rfl (fun _ => .does _ _ rfl (.none rfl) (QOp.indexI rfl rfl rfl (tok _ rfl) rfl (tok _ rfl) (by omega) (by assumption))) ?_
      refine DAny.qu 9 rfl rfl (by kernel_rfl) rfl (fun _ => .does _ _ rfl (.none rfl) (QOp.loadI rfl rfl (tok _ rfl) rfl)) ?_
      refine DAny.ef 10 rfl (by kernel_rfl) (.none rfl) rfl rfl (AOp.callP 6 rfl (by kernel_rfl) rfl rfl rfl (hs) ?_ (by rintro _ _ ⟨⟩))
      rintro _ _ ⟨τ⟩
      refine ⟨(by ((exact AllQ.nil))), ?_⟩
      refine DAny.ef0 11 rfl (by kernel_rfl) (.none rfl) rfl rfl (AOp.storeP 8 rfl rfl rfl rfl (tok _ rfl) rfl rfl rfl rfl ⟨(by ((exact AllQ.nil))), ?_⟩)
      refine DAny.done (by kernel_rfl) ?_
      refine ACode.region ?_
      refine ASeq.q rfl rfl (QOp.ar64 rfl rfl rfl rfl ⟨by omega, by omega⟩) ?_
      refine ASeq.q rfl rfl (QOp.move rfl rfl) ?_
      refine ASeq.nil ?_
      refine AExit.then_normal ?_
      exact ⟨(k + 1, e2, _), 9, ⟨hlk, hke.trans hks, hres2⟩, by dsimp only; omega, .cons rfl (.cons rfl (.cons rfl (.cons rfl (.cons rfl (.cons rfl (.cons rfl (.cons rfl .nil))))))), rfl⟩
    have hge : k = t.funcs[i].body.length := by have := of_decide_eq_false hb; rw [hbl] at this; omega
    rw [hge, List.drop_length] at hres2
    simp only [bodyOf] at hres2
    rw [← hres2] at hres
    refine ACode.exit (ACode.region ?_)
    refine ASeq.q rfl rfl (QOp.ar64 rfl rfl rfl rfl ⟨by omega, by omega⟩) ?_
    refine ASeq.q rfl rfl (QOp.move rfl rfl) ?_
    refine ASeq.nil ?_
    refine AExit.then_normal ?_
    exact ⟨(i + 1, e, τ), 9, ⟨hlt, hpre.next hlt hke, hres⟩, by dsimp only; omega, .cons rfl (.cons rfl (.cons rfl (.cons rfl (.cons rfl .nil)))), rfl⟩
  have hge : i = t.funcs.length := by have := of_decide_eq_false hb; rw [hFl] at this; omega
  rw [hge, List.drop_length] at hres
  simp only [funs] at hres
  refine ACode.exit (ACode.seq (ACode.seq (ACode.region ?_)))
  refine ASeq.q rfl rfl (QOp.fieldM rfl rfl (tok _ rfl) rfl rfl (by decide) rfl) ?_
  refine ASeq.q rfl rfl (QOp.loadM 8 rfl rfl rfl (tok _ rfl) rfl) ?_
  refine ASeq.q rfl rfl (QOp.cmp rfl rfl rfl rfl) ?_
  refine ASeq.nil ?_
  refine AExit.then_normal ?_
  refine ACode.cond _ rfl (fun hb => ?_) (fun hb => ?_)
  · have hc0 : c.code ≠ 0 := by simpa using hb
    refine ACode.seq ?_
    refine ACode.drawn [[], [], [1], [], [3], [0], [0, 1, 2, 5], [0, 1, 2, 3, 4, 5, 6]] (by kernel_rfl) mixed ?_
    refine DAny.qu 0 rfl rfl (by kernel_rfl) rfl (fun _ => .does _ _ rfl (.none rfl) (QOp.build rfl (tok _ rfl) rfl rfl rfl rfl rfl)) ?_
    refine DAny.qu 1 rfl rfl (by kernel_rfl) rfl (fun _ => .does _ _ rfl (.none rfl) (QOp.fieldM rfl rfl (tok _ rfl) rfl rfl (by decide) rfl)) ?_
    refine DAny.ld 2 rfl rfl (by kernel_rfl) rfl (.does _ _ rfl (.none rfl) (QOp.loadM 8 rfl rfl rfl (tok _ rfl) rfl)) ?_
    refine DAny.qu 3 rfl rfl (by kernel_rfl) rfl (fun _ => .does _ _ rfl (.none rfl) (QOp.fieldM rfl rfl (tok _ rfl) rfl rfl (by decide) rfl)) ?_
    refine DAny.ld 4 rfl rfl (by kernel_rfl) rfl (.does _ _ rfl (.none rfl) (QOp.loadM 8 rfl rfl rfl (tok _ rfl) rfl)) ?_
    refine DAny.ef0 5 rfl (by kernel_rfl) (.none rfl) rfl rfl (AOp.storeP 7 rfl rfl rfl rfl (tok _ rfl) rfl rfl rfl rfl ⟨(by ((refine AllQ.cons (.does _ _ rfl (.none rfl) (QOp.loadM 8 rfl rfl rfl (tok _ rfl) rfl)) ?_); (refine AllQ.cons (.does _ _ rfl (.none rfl) (QOp.loadM 8 rfl rfl rfl (tok _ rfl) rfl)) ?_); (exact AllQ.nil))), ?_⟩)
    refine DAny.ef 6 rfl (by kernel_rfl) (.none rfl) rfl rfl (.q (QOp.assign rfl rfl) ⟨(by ((refine AllQ.cons (.does _ _ rfl (.none rfl) (QOp.loadM 8 rfl rfl rfl (tok _ rfl) rfl)) ?_); (exact AllQ.nil))), ?_⟩)
    refine DAny.ef 7 rfl (by kernel_rfl) (.none rfl) rfl rfl (.q (QOp.assign rfl rfl) ⟨(by ((exact AllQ.nil))), ?_⟩)
    refine DAny.done (by kernel_rfl) ?_
    refine ACode.ret (AExit.then_ret ?_)
    refine bodyQ_ret 0 (.cell 7 rfl rfl (tok _ rfl) rfl (.tmp rfl (.tmp rfl .nil))) rfl ?_
    rw [hres] at hc0
    have := RK.bad hc0
    rw [← hres] at this
    exact this
  · have hc0 : c.code = 0 := by simpa using hb
    refine ACode.skip (ACode.seq (ACode.region ?_))
    refine ASeq.q rfl rfl (QOp.fieldM rfl rfl (tok _ rfl) rfl rfl (by decide) rfl) ?_
    refine ASeq.q rfl rfl (QOp.loadM 8 rfl rfl rfl (tok _ rfl) rfl) ?_
    refine ASeq.op0 rfl rfl (AOp.storeP 7 rfl rfl rfl rfl (tok _ rfl) rfl rfl rfl rfl ?_)
    refine ASeq.q rfl rfl (QOp.assign rfl rfl) ?_
    refine ASeq.q rfl rfl (QOp.assign rfl rfl) ?_
    refine ASeq.nil ?_
    refine ACode.ret ?_
    refine bodyQ_ret 6 (.cell 7 rfl rfl (tok _ rfl) rfl (.tmp rfl (.tmp rfl .nil))) rfl ?_
    rw [hres] at hc0
    have := RK.good hc0 m τ
    rw [← hres] at this
    exact this
end Go.Proofs.Ytaadamobapnfbaa
/- What the parser's functions leave: a forest. -/
set_option linter.unusedVariables false
set_option linter.unusedSimpArgs false
namespace Go.Proofs.Ytaadamobapnfbaa
open Go Go.Abs
inductive Rt where
  | e (r : Int)
  | s (r : Int)
def Ex.kids (x : Ex) : List Int := if x.kind = 9 then [x.a, x.b] else if x.kind = 5 ∨ x.kind = 8 then [x.a] else if x.kind = 6 then x.list else []
def St.xs (s : St) : List Int := if s.kind = 4 then [s.a, s.b] else if s.kind = 9 then (if s.a < 0 then [] else [s.a]) else if s.kind = 2 ∨ s.kind = 7 ∨ s.kind = 8 then [] else [s.a]
def St.kids (s : St) : List Rt := s.xs.map .e ++ (s.thn ++ s.els).map .s
/-- roots cover expressions and statements -/
inductive Cov (es : List Ex) (ss : List St) : List Rt → Nat → Nat → Nat → Nat → Prop
  | nil (a b : Nat) : Cov es ss [] a b a b
  | e {r a b c d : Nat} {x : Ex} {l : List Rt} (hx : es[r]? = some x) (hk : Cov es ss (x.kids.map .e) a b r b) (hl : Cov es ss l (r + 1) b c d) : Cov es ss (.e (r : Int) :: l) a b c d
  | s {r a b c d e1 : Nat} {x : St} {l : List Rt} (hx : ss[r]? = some x) (hk : Cov es ss x.kids a b e1 r) (hl : Cov es ss l e1 (r + 1) c d) : Cov es ss (.s (r : Int) :: l) a b c d
theorem Cov.append {es : List Ex} {ss : List St} {l l' : List Rt} {a b c d e f : Nat} (h : Cov es ss l a b c d) (h' : Cov es ss l' c d e f) : Cov es ss (l ++ l') a b e f := by
  induction h with
  | nil a b => exact h'
  | e hx hk hl ih1 ih2 => exact .e hx hk (ih2 h')
  | s hx hk hl ih1 ih2 => exact .s hx hk (ih2 h')
theorem get_append {α : Type} {l l' : List α} {i : Nat} {x : α} (h : l[i]? = some x) : (l ++ l')[i]? = some x := by
  rw [List.getElem?_append_left (List.getElem?_eq_some_iff.1 h).1]; exact h
theorem Cov.more {es es' : List Ex} {ss ss' : List St} {l : List Rt} {a b c d : Nat} (h : Cov es ss l a b c d) : Cov (es ++ es') (ss ++ ss') l a b c d := by
  induction h with
  | nil a b => exact .nil a b
  | e hx hk hl ih1 ih2 => exact .e (get_append hx) ih1 ih2
  | s hx hk hl ih1 ih2 => exact .s (get_append hx) ih1 ih2
theorem Cov.le {es : List Ex} {ss : List St} {l : List Rt} {a b c d : Nat} (h : Cov es ss l a b c d) : a ≤ c ∧ b ≤ d := by
  induction h with
  | nil a b => exact ⟨Nat.le_refl _, Nat.le_refl _⟩
  | e hx hk hl ih1 ih2 => omega
  | s hx hk hl ih1 ih2 => omega
/-- from which tokens a node's span comes -/
def Span (toks : List Tok) (a b fr to : Int) : Prop := ∃ i j : Int, a ≤ i ∧ i < j ∧ j ≤ b ∧ fr = (toks.getD i.toNat default).fr ∧ to = (toks.getD (j - 1).toNat default).to
theorem Span.wide {toks : List Tok} {a b a' b' fr to : Int} (h : Span toks a b fr to) (h1 : a' ≤ a) (h2 : b ≤ b') : Span toks a' b' fr to := by
  obtain ⟨i, j, h3, h4, h5, h6, h7⟩ := h
  exact ⟨i, j, by omega, h4, by omega, h6, h7⟩
structure ExOk (x : Ex) : Prop where
  k1 : 1 ≤ x.kind ∧ x.kind ≤ 9
  op9 : x.kind = 9 → 0 < x.op.size
  op8 : x.kind = 8 → x.op.data.toList = [45] ∨ x.op.data.toList = [33]
  ls : x.kind = 6 ∨ x.list = []
structure StOk (x : St) : Prop where
  k1 : 1 ≤ x.kind ∧ x.kind ≤ 11
  nm : x.kind ≤ 4 ↔ 0 < x.name.size
  th : x.kind ≠ 5 → x.kind ≠ 6 → x.thn = []
  el : x.kind ≠ 5 → x.els = []
structure Grow (k : Int) (p q : PS) (l : List Rt) : Prop where
  text : q.text = p.text
  toks : q.toks = p.toks
  funcs : q.funcs = p.funcs
  adv : p.at_ + k ≤ q.at_
  exs : ∃ xs, q.exprs = p.exprs ++ xs
  sts : ∃ ys, q.stmts = p.stmts ++ ys
  cov : Cov q.exprs q.stmts l p.exprs.length p.stmts.length q.exprs.length q.stmts.length
  exok : ∀ (i : Nat) (x : Ex), p.exprs.length ≤ i → q.exprs[i]? = some x → ExOk x ∧ Span p.toks p.at_ q.at_ x.fr x.to
  stok : ∀ (i : Nat) (x : St), p.stmts.length ≤ i → q.stmts[i]? = some x → StOk x ∧ Span p.toks p.at_ q.at_ x.fr x.to
def GR (k : Int) (p q : PS) (l : List Rt) : Prop := q.code = 0 → p.code = 0 ∧ Grow k p q l
theorem GR.then {k k' : Int} {p q r : PS} {l l' : List Rt} (h : GR k p q l) (h' : GR k' q r l') (hk : 0 ≤ k) (hk' : 0 ≤ k') : GR (k + k') p r (l ++ l') := by
  intro hc
  obtain ⟨hq, g'⟩ := h' hc
  obtain ⟨hp, g⟩ := h hq
  have a1 := g.adv
  have a2 := g'.adv
  obtain ⟨xs, ex⟩ := g.exs
  obtain ⟨xs', ex'⟩ := g'.exs
  obtain ⟨ys, sx⟩ := g.sts
  obtain ⟨ys', sx'⟩ := g'.sts
  refine ⟨hp, g'.text.trans g.text, g'.toks.trans g.toks, g'.funcs.trans g.funcs, by omega, ⟨xs ++ xs', by rw [ex', ex, List.append_assoc]⟩, ⟨ys ++ ys', by rw [sx', sx, List.append_assoc]⟩, ?_, fun i x hi hx => ?_, fun i x hi hx => ?_⟩
  · refine Cov.append (c := q.exprs.length) (d := q.stmts.length) ?_ g'.cov
    rw [ex', sx']
    exact g.cov.more
  · by_cases hlt : i < q.exprs.length
    · rw [ex', List.getElem?_append_left hlt] at hx
      have := g.exok i x hi hx
      exact ⟨this.1, this.2.wide (Int.le_refl _) (by omega)⟩
    · have := g'.exok i x (by omega) hx
      rw [g.toks] at this
      exact ⟨this.1, this.2.wide (by omega) (Int.le_refl _)⟩
  · by_cases hlt : i < q.stmts.length
    · rw [sx', List.getElem?_append_left hlt] at hx
      have := g.stok i x hi hx
      exact ⟨this.1, this.2.wide (Int.le_refl _) (by omega)⟩
    · have := g'.stok i x (by omega) hx
      rw [g.toks] at this
      exact ⟨this.1, this.2.wide (by omega) (Int.le_refl _)⟩
theorem GR.weak {k k' : Int} {p q : PS} {l : List Rt} (h : GR k p q l) (hk : k' ≤ k) : GR k' p q l := fun hc => by
  obtain ⟨h1, h2⟩ := h hc
  exact ⟨h1, { h2 with adv := by have := h2.adv; omega }⟩
theorem GR.list {k : Int} {p q : PS} {l l' : List Rt} (h : GR k p q l) (e : l = l') : GR k p q l' := e ▸ h
theorem GR.dead {k : Int} {p q : PS} {l : List Rt} (h : q.code ≠ 0) : GR k p q l := fun hc => absurd hc h
theorem GR.refl (p : PS) : GR 0 p p [] := fun hc =>
  ⟨hc, rfl, rfl, rfl, by omega, ⟨[], by simp⟩, ⟨[], by simp⟩, .nil _ _, fun i x hi hx => (by rw [List.getElem?_eq_none hi] at hx; cases hx), fun i x hi hx => (by rw [List.getElem?_eq_none hi] at hx; cases hx)⟩
theorem GR.fail (p : PS) (c : Int) (hc : c ≠ 0) (k : Int) (l : List Rt) : GR k p (p.fail c) l := .dead (by
  unfold PS.fail; split
  · exact hc
  · rename_i h; exact h)
theorem GR.skip (p : PS) : GR 1 p p.skip [] := fun hc =>
  ⟨hc, rfl, rfl, rfl, by simp [PS.skip], ⟨[], by simp [PS.skip]⟩, ⟨[], by simp [PS.skip]⟩, .nil _ _, fun i x hi hx => (by rw [show p.skip.exprs = p.exprs from rfl, List.getElem?_eq_none hi] at hx; cases hx), fun i x hi hx => (by rw [show p.skip.stmts = p.stmts from rfl, List.getElem?_eq_none hi] at hx; cases hx)⟩
theorem GR.want (p : PS) (s : ByteArray) : GR 1 p (p.want s) [] := by
  unfold PS.want
  split
  · exact .skip p
  · exact .fail p 3 (by decide) _ _
theorem GR.kindOf (p : PS) (k : Int) : GR 1 p (p.kindOf k).1 [] := by
  unfold PS.kindOf
  split
  · exact .fail p 3 (by decide) _ _
  · exact .skip p
theorem GR.deep (p : PS) (d : Int) : GR 0 p (p.deep d) [] := by
  unfold PS.deep
  split
  · exact .fail p 4 (by decide) _ _
  · exact .refl p
theorem GR.many (p : PS) : GR 0 p p.many [] := by
  unfold PS.many
  split
  · exact .fail p 5 (by decide) _ _
  · exact .refl p
theorem GR.put {k : Int} {p0 p : PS} {x : Ex} {fr : Int} {l : List Rt} (h : GR k p0 p l) (hk : 1 ≤ k) (hl : l = x.kids.map .e) (hfr : fr = p0.here) (hx : p.code = 0 → ExOk x) : GR k p0 (p.put fr x).1 [.e (p.put fr x).2] := by
  intro hc
  by_cases hp : p.code ≠ 0
  · unfold PS.put at hc; rw [if_pos hp] at hc; exact absurd hc hp
  have hp' : p.code = 0 := Decidable.byContradiction hp
  obtain ⟨h0, g⟩ := h hp'
  have ha := g.adv
  obtain ⟨xs, ex⟩ := g.exs
  have hxx := hx hp'
  unfold PS.put
  rw [if_neg hp]
  refine ⟨h0, g.text, g.toks, g.funcs, g.adv, ⟨xs ++ [{ x with fr := fr, to := p.lastTo }], by dsimp only; rw [ex, List.append_assoc]⟩, g.sts, ?_, fun i y hi hy => ?_, fun i y hi hy => g.stok i y hi hy⟩
  · dsimp only
    have hcov := g.cov.more (es' := [{ x with fr := fr, to := p.lastTo }]) (ss' := [])
    rw [List.append_nil] at hcov
    rw [hl] at hcov
    have hs : p.stmts.length = p0.stmts.length := by
      obtain ⟨ys, sx⟩ := g.sts
      have : ∀ (es : List Ex) (ss : List St) (l : List Int) (a b c d : Nat), Cov es ss (l.map .e) a b c d → b = d := by
        intro es ss l a b c d hcv
        generalize hm : l.map Rt.e = m at hcv
        induction hcv generalizing l with
        | nil => rfl
        | e hx hk hl ih1 ih2 =>
          cases l with
          | nil => simp at hm
          | cons y l => simp at hm; exact ih2 l hm.2
        | s hx hk hl ih1 ih2 =>
          cases l with
          | nil => simp at hm
          | cons y l => simp at hm
      exact (this _ _ _ _ _ _ _ hcov).symm
    rw [List.length_append, List.length_singleton]
    rw [hs] at hcov ⊢
    exact .e (x := { x with fr := fr, to := p.lastTo }) (by simp) hcov (.nil _ _)
  · dsimp only at hy ⊢
    by_cases hlt : i < p.exprs.length
    · rw [List.getElem?_append_left hlt] at hy
      exact g.exok i y hi hy
    · rw [List.getElem?_append_right (by omega)] at hy
      have hy' := List.mem_of_getElem? hy
      rw [List.mem_singleton] at hy'
      subst hy'
      refine ⟨⟨hxx.k1, hxx.op9, hxx.op8, hxx.ls⟩, p0.at_, p.at_, Int.le_refl _, by omega, Int.le_refl _, ?_, ?_⟩
      · dsimp only; rw [hfr]; rfl
      · dsimp only; unfold PS.lastTo; rw [g.toks]
theorem GR.addC {k : Int} {p0 p : PS} {x : St} {fr : Int} {l : List Rt} (h : GR k p0 p l) (hk : 1 ≤ k) (hl : p.code = 0 → l = x.kids) (hfr : fr = p0.here) (hx : p.code = 0 → StOk x) : GR k p0 (p.add fr x).1 [.s (p.add fr x).2] := by
  intro hc
  by_cases hp : p.many.code ≠ 0
  · unfold PS.add at hc; simp only at hc; rw [if_pos hp] at hc; exact absurd hc hp
  have hp' : p.many.code = 0 := Decidable.byContradiction hp
  have hpm := GR.many p hp'
  have hmp : p.many = p := by
    unfold PS.many at hp' ⊢
    split
    · rename_i hcc
      rw [if_pos hcc] at hp'
      unfold PS.fail at hp'
      rw [if_pos hcc.1] at hp'
      exact absurd (show (5 : Int) = 0 from hp') (by decide)
    · rfl
  obtain ⟨h0, g⟩ := h hpm.1
  have ha := g.adv
  obtain ⟨xs, ex⟩ := g.sts
  have hxx := hx hpm.1
  unfold PS.add
  simp only
  rw [if_neg hp, hmp]
  refine ⟨h0, g.text, g.toks, g.funcs, g.adv, g.exs, ⟨xs ++ [{ x with fr := fr, to := p.lastTo }], by dsimp only; rw [ex, List.append_assoc]⟩, ?_, fun i y hi hy => g.exok i y hi hy, fun i y hi hy => ?_⟩
  · dsimp only
    have hcov := g.cov.more (es' := []) (ss' := [{ x with fr := fr, to := p.lastTo }])
    rw [List.append_nil] at hcov
    rw [hl hpm.1] at hcov
    rw [List.length_append, List.length_singleton]
    exact .s (x := { x with fr := fr, to := p.lastTo }) (by simp) hcov (.nil _ _)
  · dsimp only at hy ⊢
    by_cases hlt : i < p.stmts.length
    · rw [List.getElem?_append_left hlt] at hy
      exact g.stok i y hi hy
    · rw [List.getElem?_append_right (by omega)] at hy
      have hy' := List.mem_of_getElem? hy
      rw [List.mem_singleton] at hy'
      subst hy'
      refine ⟨⟨hxx.k1, hxx.nm, hxx.th, hxx.el⟩, p0.at_, p.at_, Int.le_refl _, by omega, Int.le_refl _, ?_, ?_⟩
      · dsimp only; rw [hfr]; rfl
      · dsimp only; unfold PS.lastTo; rw [g.toks]
theorem GR.add {k : Int} {p0 p : PS} {x : St} {fr : Int} {l : List Rt} (h : GR k p0 p l) (hk : 1 ≤ k) (hl : l = x.kids) (hfr : fr = p0.here) (hx : p.code = 0 → StOk x) : GR k p0 (p.add fr x).1 [.s (p.add fr x).2] :=
  GR.addC h hk (fun _ => hl) hfr hx
theorem Cov.nn {es : List Ex} {ss : List St} {l : List Rt} {a b c d : Nat} (h : Cov es ss l a b c d) : ∀ r, Rt.e r ∈ l → 0 ≤ r := by
  induction h with
  | nil a b => intro r hr; simp at hr
  | e hx hk hl ih1 ih2 =>
    intro r hr
    rcases List.mem_cons.1 hr with h | h
    · cases h; omega
    · exact ih2 r h
  | s hx hk hl ih1 ih2 =>
    intro r hr
    rcases List.mem_cons.1 hr with h | h
    · cases h
    · exact ih2 r h
theorem GR.nn {k : Int} {p q : PS} {l : List Rt} (h : GR k p q l) (hc : q.code = 0) {r : Int} (hr : Rt.e r ∈ l) : 0 ≤ r := (h hc).2.cov.nn r hr
end Go.Proofs.Ytaadamobapnfbaa
/- What the parser's functions leave: expressions. -/
set_option linter.unusedVariables false
set_option linter.unusedSimpArgs false
namespace Go.Proofs.Ytaadamobapnfbaa
open Go Go.Abs
theorem size_pos {s : ByteArray} (h : ¬ s.data.toList = []) : 0 < s.size := by
  rcases Nat.eq_zero_or_pos s.size with h0 | h0
  · exact absurd (List.eq_nil_of_length_eq_zero (by simpa using h0)) h
  · exact h0
theorem PS.is_word {p : PS} {s : ByteArray} (h : p.is s = true) : p.word.data.toList = s.data.toList := by
  simp only [PS.is, Bool.and_eq_true, beq_iff_eq] at h
  exact h.2
theorem ExOk.plain {x : Ex} (h : 1 ≤ x.kind ∧ x.kind ≤ 7) (hl : x.kind = 6 ∨ x.list = []) : ExOk x := ⟨by omega, fun h' => by omega, fun h' => by omega, hl⟩
structure Grows (n : Nat) : Prop where
  row : ∀ p l d, GR 1 p (row n p l d).1 [.e (row n p l d).2]
  rowLoop : ∀ p0 k p a l d fr, GR k p0 p [.e a] → 1 ≤ k → fr = p0.here → GR k p0 (rowLoop n p a l d fr).1 [.e (rowLoop n p a l d fr).2]
  exprP : ∀ p d, GR 1 p (exprP n p d).1 [.e (exprP n p d).2]
  unary : ∀ p d, GR 1 p (unary n p d).1 [.e (unary n p d).2]
  primary : ∀ p d, GR 1 p (primary n p d).1 [.e (primary n p d).2]
  callP : ∀ p0 k p fr name d, GR k p0 p [] → 1 ≤ k → fr = p0.here → GR k p0 (callP n p fr name d).1 [.e (callP n p fr name d).2]
  callLoop : ∀ p0 k p l d, GR k p0 p (l.map .e) → 0 ≤ k → GR k p0 (callLoop n p l d).1 ((callLoop n p l d).2.map .e)
theorem grows : ∀ n, Grows n
  | 0 => ⟨fun p _ _ => .fail p 98 (by decide) _ _, fun _ _ p _ _ _ _ _ _ _ => .dead (by unfold Ytaadamobapnfbaa.rowLoop PS.fail; split; exact (by decide : (98:Int) ≠ 0); assumption), fun p _ => .fail p 98 (by decide) _ _, fun p _ => .fail p 98 (by decide) _ _,
      fun p _ => .fail p 98 (by decide) _ _, fun _ _ p _ _ _ _ _ _ => .dead (by unfold Ytaadamobapnfbaa.callP PS.fail; split; exact (by decide : (98:Int) ≠ 0); assumption), fun _ _ p _ _ _ _ => .dead (by unfold Ytaadamobapnfbaa.callLoop PS.fail; split; exact (by decide : (98:Int) ≠ 0); assumption)⟩
  | n + 1 => by
    have ih := grows n
    refine ⟨fun p l d => ?_, fun p0 k p a l d fr h hk hfr => ?_, fun p d => ?_, fun p d => ?_, fun p d => ?_, fun p0 k p fr name d h hk hfr => ?_, fun p0 k p l d h hk => ?_⟩
    · unfold Ytaadamobapnfbaa.row
      split
      · exact ih.unary p d
      · exact ih.rowLoop p 1 _ _ _ _ _ (ih.row p _ d) (by decide) rfl
    · unfold Ytaadamobapnfbaa.rowLoop
      split
      · exact h
      · rename_i hs
        have h1 := (h.then (GR.skip p) (by omega) (by decide)).then (ih.row p.skip (l + 1) d) (by omega) (by decide)
        have h2 := GR.put (x := { kind := 9, op := p.sign l, a := a, b := (Ytaadamobapnfbaa.row n p.skip (l + 1) d).2 }) (fr := fr) h1 (by omega) rfl hfr (fun _ => ⟨(by decide : (1 : Int) ≤ 9 ∧ (9 : Int) ≤ 9), fun _ => size_pos hs, fun h => absurd (show (9 : Int) = 8 from h) (by decide), .inr rfl⟩)
        split
        · exact h2.weak (by omega)
        · exact ih.rowLoop p0 k _ _ _ _ _ (h2.weak (by omega)) hk hfr
    · unfold Ytaadamobapnfbaa.exprP
      split
      · rename_i h; exact .dead h
      · exact (GR.deep p d).then (ih.row _ 0 d) (by decide) (by decide)
    · unfold Ytaadamobapnfbaa.unary
      split
      · rename_i h
        split
        · rename_i h; exact .dead h
        · have h1 := ((GR.skip p).then (GR.deep p.skip (d + 1)) (by decide) (by decide)).then (ih.unary _ (d + 1)) (by decide) (by decide)
          refine (GR.put (x := { kind := 8, op := p.word, a := _ }) (fr := p.here) h1 (by decide) rfl rfl (fun _ => ⟨(by decide : (1 : Int) ≤ 8 ∧ (8 : Int) ≤ 9), fun h => absurd (show (8 : Int) = 9 from h) (by decide), fun _ => ?_, .inr rfl⟩)).weak (by decide)
          exact h.imp PS.is_word PS.is_word
      · exact ih.primary p d
    · unfold Ytaadamobapnfbaa.primary
      split
      · rename_i h; exact .dead h
      split
      · exact GR.put (GR.kindOf p 2) (by decide) rfl rfl (fun _ => .plain (show (1 : Int) ≤ 1 ∧ (1 : Int) ≤ 7 by decide) (.inr rfl))
      split
      · exact GR.put (GR.want p _) (by decide) rfl rfl (fun _ => .plain (show (1 : Int) ≤ 2 ∧ (2 : Int) ≤ 7 by decide) (.inr rfl))
      split
      · exact GR.put (GR.want p _) (by decide) rfl rfl (fun _ => .plain (show (1 : Int) ≤ 3 ∧ (3 : Int) ≤ 7 by decide) (.inr rfl))
      split
      · exact GR.put (GR.want p _) (by decide) rfl rfl (fun _ => .plain (show (1 : Int) ≤ 7 ∧ (7 : Int) ≤ 7 by decide) (.inr rfl))
      split
      · exact ((((GR.want p _).then (ih.exprP _ _) (by decide) (by decide)).then (GR.want _ _) (by decide) (by decide)).weak (by decide)).list rfl
      have hk := GR.kindOf p 1
      split
      · have h1 := (((hk.then (GR.want _ w_lb) (by decide) (by decide)).then (ih.exprP _ (d + 1)) (by decide) (by decide)).then (GR.want _ w_rb) (by decide) (by decide))
        exact (GR.put h1 (by decide) rfl rfl (fun _ => .plain (show (1 : Int) ≤ 5 ∧ (5 : Int) ≤ 7 by decide) (.inr rfl))).weak (by decide)
      split
      · exact ih.callP p 1 _ _ _ _ hk (by decide) rfl
      · exact GR.put hk (by decide) rfl rfl (fun _ => .plain (show (1 : Int) ≤ 4 ∧ (4 : Int) ≤ 7 by decide) (.inr rfl))
    · unfold Ytaadamobapnfbaa.callP
      have h1 := h.then (GR.want p w_lp) (by omega) (by decide)
      have h2 := (ih.callLoop p0 (k + 1) _ [] d h1 (by omega)).then (GR.want _ w_rp) (by omega) (by decide)
      exact (GR.put h2 (by omega) (List.append_nil _) hfr (fun _ => .plain (show (1 : Int) ≤ 6 ∧ (6 : Int) ≤ 7 by decide) (.inl rfl))).weak (by omega)
    · unfold Ytaadamobapnfbaa.callLoop
      split
      · have h0 : GR 0 p (if l = [] then p else p.want w_comma) [] := by
          split
          · exact .refl p
          · exact (GR.want p _).weak (by decide)
        have h1 := (h.then h0 hk (by decide)).then (ih.exprP _ (d + 1)) (by omega) (by decide)
        exact ih.callLoop p0 k _ _ d ((h1.weak (by omega)).list (by simp)) hk
      · exact h
end Go.Proofs.Ytaadamobapnfbaa
/- What the parser's functions leave: statements. -/
set_option linter.unusedVariables false
set_option linter.unusedSimpArgs false
namespace Go.Proofs.Ytaadamobapnfbaa
open Go Go.Abs
/-- names are not empty -/
def named (l : List Tok) : Prop := ∀ t ∈ l, t.kind ≠ 0 → t.fr < t.to
structure Long (p : PS) : Prop where
  ok : p.ok
  nm : named p.toks
theorem Long.step {e s : Int} {p q : PS} (h : Long p) (hs : Step e s p q) (he : 0 ≤ e) (hss : 0 ≤ s) : Long q := ⟨hs.ok he hss h.ok, by rw [hs.toks]; exact h.nm⟩
theorem kindOf_name {p : PS} (h : Long p) (k : Int) (hk : k ≠ 0) (hc : (p.kindOf k).1.code = 0) : 0 < (p.kindOf k).2.size := by
  unfold PS.kindOf at hc ⊢
  split
  · rename_i h'
    rw [if_pos h'] at hc
    exact absurd hc (by unfold PS.fail; split; exact (by decide : (3:Int) ≠ 0); assumption)
  · rename_i h'
    have h2 : p.tok.kind = k := Decidable.byContradiction fun h'' => h' (.inr h'')
    have h3 := h.nm _ h.ok.mem (by rw [h2]; exact hk)
    have h4 := h.ok.span
    show 0 < (p.text.extract p.tok.fr.toNat p.tok.to.toNat).size
    rw [ByteArray.size_extract]; omega
theorem kids5 (a : Int) (l m : List Int) (s : St) (hk : s.kind = 5 ∨ s.kind = 6) (ha : s.a = a) (h1 : s.thn = l) (h2 : s.els = m) : [Rt.e a] ++ l.map .s ++ m.map .s = s.kids := by
  subst ha; subst h1; subst h2
  have hx : s.xs = [s.a] := by
    unfold St.xs
    rw [if_neg (by omega), if_neg (by omega), if_neg (by omega)]
  unfold St.kids; rw [hx, List.map_append]; simp
theorem StOk.jump {s : St} (hk : 5 ≤ s.kind ∧ s.kind ≤ 11) (hn : s.name.size = 0) (ht : s.kind ≠ 5 → s.kind ≠ 6 → s.thn = []) (he : s.kind ≠ 5 → s.els = []) : StOk s := ⟨by omega, by omega, ht, he⟩
theorem StOk.name {s : St} (hk : 1 ≤ s.kind ∧ s.kind ≤ 4) (hn : 0 < s.name.size) (ht : s.thn = []) (he : s.els = []) : StOk s := ⟨by omega, by omega, fun _ _ => ht, fun _ => he⟩
theorem GR.code {k : Int} {p q : PS} {l : List Rt} (h : GR k p q l) (hc : q.code = 0) : p.code = 0 := (h hc).1
structure Grows2 (n : Nat) : Prop where
  block : ∀ p d, Long p → GR 1 p (block n p d).1 ((block n p d).2.map .s)
  blockLoop : ∀ p0 k p l d, Long p → GR k p0 p (l.map .s) → 0 ≤ k → GR k p0 (blockLoop n p l d).1 ((blockLoop n p l d).2.map .s)
  stmt : ∀ p d, Long p → GR 1 p (stmt n p d).1 [.s (stmt n p d).2]
  branch : ∀ p0 k p fr d, Long p → GR k p0 p [] → 1 ≤ k → fr = p0.here → GR k p0 (branch n p fr d).1 [.s (branch n p fr d).2]
theorem failed (p : PS) (c : Int) (hc : c ≠ 0) : (p.fail c).code ≠ 0 := by
  unfold PS.fail; split
  · exact hc
  · assumption
theorem grows2 : ∀ n, Grows2 n
  | 0 => ⟨fun p _ _ => .fail p 98 (by decide) _ _, fun _ _ p _ _ _ _ _ => .dead (failed p 98 (by decide)), fun p _ _ => .fail p 98 (by decide) _ _, fun _ _ p _ _ _ _ _ _ => .dead (failed p 98 (by decide))⟩
  | n + 1 => by
    have ih := grows2 n
    have ie := grows n
    have is_ := steps n
    have is2 := steps2 n
    refine ⟨fun p d hp => ?_, fun p0 k p l d hp h hk => ?_, fun p d hp => ?_, fun p0 k p fr d hp h hk hfr => ?_⟩
    · unfold Ytaadamobapnfbaa.block
      have g0 : GR 0 p (if p.is w_lc = true then p.deep d else p) [] := by
        split
        · exact .deep p d
        · exact .refl p
      have s0 : Step 0 0 p (if p.is w_lc = true then p.deep d else p) := by
        split
        · exact .deep p d
        · exact .refl p
      have g1 := g0.then (GR.want _ w_lc) (by decide) (by decide)
      have s1 := s0.then (Step.want _ w_lc) (by decide) (by decide)
      exact (((ih.blockLoop p 1 _ [] d (hp.step s1 (by decide) (by decide)) g1 (by decide)).then (GR.want _ w_rc) (by decide) (by decide)).weak (by decide)).list (List.append_nil _)
    · unfold Ytaadamobapnfbaa.blockLoop
      split
      · have g1 := h.then (ih.stmt p d hp) hk (by decide)
        exact ih.blockLoop p0 k _ _ d (hp.step (is2.stmt p d) (by decide) (by decide)) ((g1.weak (by omega)).list (by simp)) hk
      · exact h
    · unfold Ytaadamobapnfbaa.stmt
      split
      · exact ih.branch p 1 _ _ d (hp.step (Step.want p _) (by decide) (by decide)) (GR.want p _) (by decide) rfl
      split
      · have s1 := (Step.want p w_while).then (is_.exprP _ d) (by decide) (by decide)
        have g1 := ((GR.want p w_while).then (ie.exprP _ d) (by decide) (by decide)).then (ih.block _ (d + 1) (hp.step s1 (by decide) (by decide))) (by decide) (by decide)
        refine (GR.add (x := { kind := 6, a := _, thn := _ }) g1 (by decide) (Eq.trans ?_ (kids5 _ _ _ _ (.inr rfl) rfl rfl rfl)) rfl (fun _ => .jump (show (5 : Int) ≤ 6 ∧ (6 : Int) ≤ 11 by decide) rfl (fun _ h => absurd rfl h) (fun _ => rfl))).weak (by decide)
        simp
      split
      · have gk := (GR.want p w_var).then (GR.kindOf _ 1) (by decide) (by decide)
        have hn := kindOf_name (hp.step (Step.want p w_var) (by decide) (by decide)) 1 (by decide)
        split
        · have g1 := (((gk.then (GR.want _ w_lb) (by decide) (by decide)).then (GR.kindOf _ 2) (by decide) (by decide)).then (GR.want _ w_rb) (by decide) (by decide))
          have g0 := (((GR.want ((p.want w_var).kindOf 1).1 w_lb).then (GR.kindOf _ 2) (by decide) (by decide)).then (GR.want _ w_rb) (by decide) (by decide)).then (GR.want _ w_semi) (by decide) (by decide)
          have g2 := g1.then (GR.want _ w_semi) (by decide) (by decide)
          exact (GR.add g2 (by decide) rfl rfl (fun hc => .name (show (1 : Int) ≤ 2 ∧ (2 : Int) ≤ 4 by decide) (hn (g0.code hc)) rfl rfl)).weak (by decide)
        · have g0 := ((GR.want ((p.want w_var).kindOf 1).1 w_eq).then (ie.exprP _ d) (by decide) (by decide)).then (GR.want _ w_semi) (by decide) (by decide)
          have g2 := gk.then g0 (by decide) (by decide)
          exact (GR.add g2 (by decide) rfl rfl (fun hc => .name (show (1 : Int) ≤ 1 ∧ (1 : Int) ≤ 4 by decide) (hn (g0.code hc)) rfl rfl)).weak (by decide)
      split
      · exact (GR.add ((GR.want p _).then (GR.want _ _) (by decide) (by decide)) (by decide) rfl rfl (fun _ => .jump (show (5 : Int) ≤ 7 ∧ (7 : Int) ≤ 11 by decide) rfl (fun _ _ => rfl) (fun _ => rfl))).weak (by decide)
      split
      · exact (GR.add ((GR.want p _).then (GR.want _ _) (by decide) (by decide)) (by decide) rfl rfl (fun _ => .jump (show (5 : Int) ≤ 8 ∧ (8 : Int) ≤ 11 by decide) rfl (fun _ _ => rfl) (fun _ => rfl))).weak (by decide)
      split
      · split
        · exact (GR.add ((GR.want p _).then (GR.want _ _) (by decide) (by decide)) (by decide) rfl rfl (fun _ => .jump (show (5 : Int) ≤ 9 ∧ (9 : Int) ≤ 11 by decide) rfl (fun _ _ => rfl) (fun _ => rfl))).weak (by decide)
        · have g1 := ((GR.want p w_return).then (ie.exprP _ d) (by decide) (by decide)).then (GR.want _ w_semi) (by decide) (by decide)
          refine (GR.addC g1 (by decide) (fun hc => ?_) rfl (fun _ => .jump (show (5 : Int) ≤ 9 ∧ (9 : Int) ≤ 11 by decide) rfl (fun _ _ => rfl) (fun _ => rfl))).weak (by decide)
          have hnn := g1.nn hc (r := (exprP n (p.want w_return) d).2) (by simp)
          unfold St.kids St.xs
          simp only []
          rw [if_neg (by decide), if_pos trivial, if_neg (by omega)]
          rfl
      split
      · exact (GR.add (((GR.want p _).then (ie.exprP _ _) (by decide) (by decide)).then (GR.want _ _) (by decide) (by decide)) (by decide) rfl rfl (fun _ => .jump (show (5 : Int) ≤ 10 ∧ (10 : Int) ≤ 11 by decide) rfl (fun _ _ => rfl) (fun _ => rfl))).weak (by decide)
      have hk := GR.kindOf p 1
      have hn := kindOf_name hp 1 (by decide)
      split
      · exact (GR.add ((ie.callP p 1 _ _ _ d hk (by decide) rfl).then (GR.want _ _) (by decide) (by decide)) (by decide) rfl rfl (fun _ => .jump (show (5 : Int) ≤ 11 ∧ (11 : Int) ≤ 11 by decide) rfl (fun _ _ => rfl) (fun _ => rfl))).weak (by decide)
      split
      · have g0 := ((((GR.want (p.kindOf 1).1 w_lb).then (ie.exprP _ (d + 1)) (by decide) (by decide)).then (GR.want _ w_rb) (by decide) (by decide)).then (GR.want _ w_eq) (by decide) (by decide)).then (ie.exprP _ d) (by decide) (by decide)
        have g1 := g0.then (GR.want _ w_semi) (by decide) (by decide)
        exact (GR.add (hk.then g1 (by decide) (by decide)) (by decide) rfl rfl (fun hc => .name (show (1 : Int) ≤ 4 ∧ (4 : Int) ≤ 4 by decide) (hn (g1.code hc)) rfl rfl)).weak (by decide)
      · have g0 := ((GR.want (p.kindOf 1).1 w_eq).then (ie.exprP _ d) (by decide) (by decide)).then (GR.want _ w_semi) (by decide) (by decide)
        exact (GR.add (hk.then g0 (by decide) (by decide)) (by decide) rfl rfl (fun hc => .name (show (1 : Int) ≤ 3 ∧ (3 : Int) ≤ 4 by decide) (hn (g0.code hc)) rfl rfl)).weak (by decide)
    · unfold Ytaadamobapnfbaa.branch
      simp (config := { zeta := true }) only []
      have s0 := is_.exprP p d
      have s1 := s0.then (is2.block _ (d + 1)) (by decide) (by decide)
      have g1 := (h.then (ie.exprP p d) (by omega) (by decide)).then (ih.block _ (d + 1) (hp.step s0 (by decide) (by decide))) (by omega) (by decide)
      split
      · have g2 := g1.then (GR.want _ w_else) (by omega) (by decide)
        have s2 := s1.then (Step.want _ w_else) (by decide) (by decide)
        split
        · have s3 := s2.then (Step.deep _ (d + 1)) (by decide) (by decide)
          have s4 := s3.then (Step.want _ w_if) (by decide) (by decide)
          have g3 := g2.then (GR.deep _ (d + 1)) (by omega) (by decide)
          have g4 := g3.then (ih.branch _ 1 _ _ (d + 1) (hp.step s4 (by decide) (by decide)) (GR.want _ w_if) (by decide) rfl) (by omega) (by decide)
          refine (GR.add g4 (by omega) (Eq.trans ?_ (kids5 _ _ _ _ (.inl rfl) rfl rfl rfl)) hfr (fun _ => .jump (show (5 : Int) ≤ 5 ∧ (5 : Int) ≤ 11 by decide) rfl (fun h => absurd rfl h) (fun h => absurd rfl h))).weak (by omega)
          simp
        · have g4 := g2.then (ih.block _ (d + 1) (hp.step s2 (by decide) (by decide))) (by omega) (by decide)
          refine (GR.add g4 (by omega) (Eq.trans ?_ (kids5 _ _ _ _ (.inl rfl) rfl rfl rfl)) hfr (fun _ => .jump (show (5 : Int) ≤ 5 ∧ (5 : Int) ≤ 11 by decide) rfl (fun h => absurd rfl h) (fun h => absurd rfl h))).weak (by omega)
          simp
      · refine (GR.add g1 (by omega) (Eq.trans ?_ (kids5 _ _ _ _ (.inl rfl) rfl rfl rfl)) hfr (fun _ => .jump (show (5 : Int) ≤ 5 ∧ (5 : Int) ≤ 11 by decide) rfl (fun h => absurd rfl h) (fun h => absurd rfl h))).weak (by omega)
        simp
end Go.Proofs.Ytaadamobapnfbaa
/- What the parser leaves: functions; the tree of a text. -/
set_option linter.unusedVariables false
set_option linter.unusedSimpArgs false
namespace Go.Proofs.Ytaadamobapnfbaa
open Go Go.Abs
theorem GR.full (p : PS) : GR 0 p p.full [] := by
  unfold PS.full
  split
  · exact .fail p 5 (by decide) _ _
  · exact .refl p
theorem GR.params : ∀ (n : Nat) (p : PS) (l : List ByteArray), GR 0 p (params n p l).1 []
  | 0, p, l => .fail p 98 (by decide) _ _
  | n + 1, p, l => by
    unfold Ytaadamobapnfbaa.params
    split
    · have h0 : GR 0 p (if l = [] then p else p.want w_comma) [] := by
        split
        · exact .refl p
        · exact (GR.want p _).weak (by decide)
      exact ((h0.then (GR.kindOf _ 1) (by decide) (by decide)).then (GR.params n _ _) (by decide) (by decide)).weak (by decide)
    · exact .refl p
theorem params_len : ∀ (n : Nat) (p : PS) (l : List ByteArray), (params n p l).1.code = 0 → ((params n p l).2.length : Int) + p.at_ ≤ l.length + (params n p l).1.at_
  | 0, p, l, hc => absurd hc (failed p 98 (by decide))
  | n + 1, p, l, hc => by
    unfold Ytaadamobapnfbaa.params at hc ⊢
    split
    · rename_i h
      rw [if_pos h] at hc
      have h0 : GR 0 p (if l = [] then p else p.want w_comma) [] := by
        split
        · exact .refl p
        · exact (GR.want p _).weak (by decide)
      have h1 := (h0.then (GR.kindOf _ 1) (by decide) (by decide))
      have h2 := (GR.params n _ _ hc).1
      have h3 := (h1 h2).2.adv
      have := params_len n _ _ hc
      rw [List.length_append, List.length_singleton] at this
      omega
    · show (l.length : Int) + p.at_ ≤ l.length + p.at_; omega
def funcHead (n : Nat) (p : PS) : PS × List ByteArray := params n (((p.full.want w_func).kindOf 1).1.want w_lp) []
theorem funcEnd_grow (n : Nat) (p : PS) (hp : Long p) : GR 4 p (funcEnd n p).1 ((funcEnd n p).2.map .s) ∧ ((funcEnd n p).1.code = 0 → (funcHead n p).1.code = 0 ∧ ((p.full.want w_func).kindOf 1).1.code = 0) := by
  unfold Ytaadamobapnfbaa.funcEnd funcHead
  have s0 := ((((Step.full p).then (Step.want _ w_func) (by decide) (by decide)).then (Step.kindOf _ 1 (by decide)) (by decide) (by decide)).then (Step.want _ w_lp) (by decide) (by decide))
  have s1 := (s0.then (Step.params n _ []) (by decide) (by decide)).then (Step.want _ w_rp) (by decide) (by decide)
  have g00 := ((GR.full p).then (GR.want _ w_func) (by decide) (by decide)).then (GR.kindOf _ 1) (by decide) (by decide)
  have g0 := g00.then (GR.want _ w_lp) (by decide) (by decide)
  have g1 := (g0.then (GR.params n _ []) (by decide) (by decide)).then (GR.want _ w_rp) (by decide) (by decide)
  have gp := GR.params n (((p.full.want w_func).kindOf 1).1.want w_lp) []
  have key : ∀ q2, GR 0 (((params n (((p.full.want w_func).kindOf 1).1.want w_lp) []).1.want w_rp)) q2 [] → Step 0 0 (((params n (((p.full.want w_func).kindOf 1).1.want w_lp) []).1.want w_rp)) q2 →
      GR 4 p (Ytaadamobapnfbaa.block n q2 1).1 ((Ytaadamobapnfbaa.block n q2 1).2.map .s) ∧ ((Ytaadamobapnfbaa.block n q2 1).1.code = 0 → (params n (((p.full.want w_func).kindOf 1).1.want w_lp) []).1.code = 0 ∧ ((p.full.want w_func).kindOf 1).1.code = 0) := by
    intro q2 gq sq
    have s2 := s1.then sq (by decide) (by decide)
    have gb := (grows2 n).block q2 1 (hp.step s2 (by decide) (by decide))
    refine ⟨(((g1.then gq (by decide) (by decide)).then gb (by decide) (by decide)).weak (by decide)).list (by simp), fun hc => ?_⟩
    have c1 := gq.code (gb.code hc)
    have c2 := (GR.want _ w_rp).code c1
    exact ⟨c2, (GR.want _ w_lp).code (gp.code c2)⟩
  split
  · exact key _ ((GR.want _ w_int).weak (by decide)) ((Step.want _ w_int).weak (by decide) (by decide))
  · exact key _ (.refl _) (.refl _)
structure FOne (toks : List Tok) (es : List Ex) (ss : List St) (g : Fu) (a b : Nat) (x : Int) (c d : Nat) (y : Int) : Prop where
  cov : Cov es ss (g.body.map .s) a b c d
  ex : ∀ (i : Nat) (z : Ex), a ≤ i → i < c → es[i]? = some z → ExOk z ∧ Span toks x y z.fr z.to
  st : ∀ (i : Nat) (z : St), b ≤ i → i < d → ss[i]? = some z → StOk z ∧ Span toks x y z.fr z.to
  lt : x < y
  fr : g.fr = (toks.getD x.toNat default).fr
  to : g.to = (toks.getD (y - 1).toNat default).to
  type : g.type = 1 ∨ g.type = 4
  name : 0 < g.name.size
  params : (g.params.length : Int) ≤ y - x
inductive FCov (toks : List Tok) (es : List Ex) (ss : List St) : List Fu → Nat → Nat → Int → Nat → Nat → Int → Prop
  | nil (a b : Nat) (x : Int) : FCov toks es ss [] a b x a b x
  | snoc {l : List Fu} {g : Fu} {a b c d e f : Nat} {x y z : Int} (h : FCov toks es ss l a b x c d y) (h' : FOne toks es ss g c d y e f z) : FCov toks es ss (l ++ [g]) a b x e f z
theorem FCov.le {toks : List Tok} {es : List Ex} {ss : List St} {l : List Fu} {a b c d : Nat} {x y : Int} (h : FCov toks es ss l a b x c d y) : a ≤ c ∧ b ≤ d ∧ x ≤ y := by
  induction h with
  | nil => simp
  | snoc h h' ih => have := h'.cov.le; have := h'.lt; omega
theorem FOne.more {toks : List Tok} {es es' : List Ex} {ss ss' : List St} {g : Fu} {a b c d : Nat} {x y : Int} (h : FOne toks es ss g a b x c d y) (hc : c ≤ es.length) (hd : d ≤ ss.length) : FOne toks (es ++ es') (ss ++ ss') g a b x c d y :=
  { h with cov := h.cov.more, ex := fun i z h1 h2 hz => h.ex i z h1 h2 (by rw [List.getElem?_append_left (by omega)] at hz; exact hz), st := fun i z h1 h2 hz => h.st i z h1 h2 (by rw [List.getElem?_append_left (by omega)] at hz; exact hz) }
theorem FCov.more {toks : List Tok} {es es' : List Ex} {ss ss' : List St} {l : List Fu} {a b c d : Nat} {x y : Int} (h : FCov toks es ss l a b x c d y) : c ≤ es.length → d ≤ ss.length → FCov toks (es ++ es') (ss ++ ss') l a b x c d y := by
  induction h with
  | nil => exact fun _ _ => .nil _ _ _
  | snoc h h' ih =>
    intro hc hd
    have := h'.cov.le
    exact .snoc (ih (by omega) (by omega)) (h'.more hc hd)
theorem function_forest (n : Nat) (p : PS) (hp : Long p) (hf : FCov p.toks p.exprs p.stmts p.funcs 0 0 0 p.exprs.length p.stmts.length p.at_) (hc : (function n p).code = 0) :
    Long (function n p) ∧ (function n p).toks = p.toks ∧ (function n p).text = p.text ∧ (function n p).funcs ≠ [] ∧ FCov (function n p).toks (function n p).exprs (function n p).stmts (function n p).funcs 0 0 0 (function n p).exprs.length (function n p).stmts.length (function n p).at_ := by
  have ho := function_ok (n := n) hp.ok
  rw [function_eq] at hc ho ⊢
  split at hc
  · rename_i h; exact absurd hc h
  rename_i hq
  rw [if_neg hq] at ho ⊢
  have hq : (funcEnd n p).1.code = 0 := Decidable.byContradiction hq
  obtain ⟨hg, hcs⟩ := funcEnd_grow n p hp
  obtain ⟨c1, c2⟩ := hcs hq
  obtain ⟨hc0, g⟩ := hg hq
  obtain ⟨xs, ex⟩ := g.exs
  obtain ⟨ys, sx⟩ := g.sts
  have hadv := g.adv
  have htk : (funcEnd n p).1.toks = p.toks := g.toks
  refine ⟨⟨ho.1, by show named (funcEnd n p).1.toks; rw [htk]; exact hp.nm⟩, ho.2.1, ho.2.2.1, by simp, ?_⟩
  dsimp only
  rw [g.funcs, htk]
  refine .snoc (c := p.exprs.length) (d := p.stmts.length) (y := p.at_) ?_ ?_
  · rw [ex, sx]; exact hf.more (Nat.le_refl _) (Nat.le_refl _)
  · refine ⟨g.cov, fun i z h1 h2 hz => g.exok i z h1 hz, fun i z h1 h2 hz => g.stok i z h1 hz, by omega, rfl, ?_, ?_, ?_, ?_⟩
    · show (funcEnd n p).1.lastTo = _; unfold PS.lastTo; rw [htk]
    · unfold funcOf; dsimp only; split
      · exact .inl rfl
      · exact .inr rfl
    · exact kindOf_name (hp.step ((Step.full p).then (Step.want _ w_func) (by decide) (by decide)) (by decide) (by decide)) 1 (by decide) c2
    · have h1 := params_len n _ _ c1
      have g0 := (((GR.full p).then (GR.want _ w_func) (by decide) (by decide)).then (GR.kindOf _ 1) (by decide) (by decide)).then (GR.want _ w_lp) (by decide) (by decide)
      have h2 := (g0 ((GR.params n _ []).code c1)).2.adv
      have h3 : (funcHead n p).1.at_ ≤ (funcEnd n p).1.at_ := by
        unfold Ytaadamobapnfbaa.funcEnd funcHead
        split
        · exact ((((Step.want _ w_rp).then (Step.want _ w_int) (by decide) (by decide)).then ((steps2 n).block _ 1) (by decide) (by decide))).at_
        · exact ((Step.want _ w_rp).then ((steps2 n).block _ 1) (by decide) (by decide)).at_
      show ((funcHead n p).2.length : Int) ≤ _
      simp only [List.length_nil] at h1
      change ((funcHead n p).2.length : Int) + _ ≤ _ + (funcHead n p).1.at_ at h1
      omega
theorem parseLoop_forest (k : Nat) : ∀ (n : Nat) (p : PS), Long p → FCov p.toks p.exprs p.stmts p.funcs 0 0 0 p.exprs.length p.stmts.length p.at_ → (parseLoop k n p).code = 0 →
    Long (parseLoop k n p) ∧ (parseLoop k n p).toks = p.toks ∧ (parseLoop k n p).text = p.text ∧ (parseLoop k n p).funcs ≠ [] ∧ FCov (parseLoop k n p).toks (parseLoop k n p).exprs (parseLoop k n p).stmts (parseLoop k n p).funcs 0 0 0 (parseLoop k n p).exprs.length (parseLoop k n p).stmts.length (parseLoop k n p).at_
  | 0, p, hp, hf, hc => absurd hc (failed p 98 (by decide))
  | n + 1, p, hp, hf, hc => by
    unfold Ytaadamobapnfbaa.parseLoop at hc ⊢
    split
    · rename_i h
      rw [if_pos h] at hc
      by_cases hz : (function k p).code = 0
      · obtain ⟨h1, h2, h3, h4, h5⟩ := function_forest k p hp hf hz
        obtain ⟨q1, q2, q3, q4, q5⟩ := parseLoop_forest k n _ h1 h5 hc
        exact ⟨q1, q2.trans h2, q3.trans h3, q4, q5⟩
      · have : parseLoop k n (function k p) = if n = 0 then (function k p).fail 98 else function k p := by
          cases n with
          | zero => simp [Ytaadamobapnfbaa.parseLoop]
          | succ n => simp [Ytaadamobapnfbaa.parseLoop, hz]
        rw [this] at hc
        split at hc
        · exact absurd hc (failed _ 98 (by decide))
        · exact absurd hc hz
    · rename_i h
      rw [if_neg h] at hc
      refine ⟨hp, rfl, rfl, ?_, hf⟩
      intro hn
      exact h ⟨hc, .inl hn⟩
end Go.Proofs.Ytaadamobapnfbaa
/- The tree of a text is well-formed. -/
set_option linter.unusedVariables false
set_option linter.unusedSimpArgs false
namespace Go.Proofs.Ytaadamobapnfbaa
open Go Go.Abs
theorem Chain.named {s : ByteArray} {at_ : Nat} {l : List Tok} (h : Chain s at_ l) : Ytaadamobapnfbaa.named l := by
  induction h with
  | last h hk => intro t ht hn; rw [List.mem_singleton] at ht; subst ht; exact absurd hk hn
  | cons h hk h' ih =>
    intro t ht hn
    rcases List.mem_cons.1 ht with rfl | ht
    · exact h.kind hk
    · exact ih t ht hn
structure IsTree (s : ByteArray) (t : Tree) (toks : List Tok) (at_ : Int) : Prop where
  chain : Chain s 0 toks
  cov : FCov toks t.exprs t.stmts t.funcs 0 0 0 t.exprs.length t.stmts.length at_
  lt : at_ < toks.length
  some : t.funcs ≠ []
  big : t.exprs.length ≤ 20001 ∧ t.stmts.length ≤ 20001 ∧ t.funcs.length ≤ 20001
  small : at_ ≤ 20001
theorem parse_tree {s : ByteArray} (hs : s.size ≤ 1000000) (hc : (parse s).2.2 = 0) : ∃ toks at_, IsTree s (parse s).1 toks at_ := by
  unfold parse at hc ⊢
  split at hc
  · rename_i h; exact absurd hc h
  rename_i h1
  rw [if_neg h1]
  split at hc
  · rename_i h; exact absurd hc h
  rename_i h2
  rw [if_neg h2]
  have h1 : (tokens s).2.2 = 0 := Decidable.byContradiction h1
  have h2 : (parsed s).code = 0 := Decidable.byContradiction h2
  have hch := tokens_chain h1
  have hl : Long (startP s) := ⟨PS.start_ok hs h1, hch.named⟩
  obtain ⟨q1, q2, q3, q4, q5⟩ := parseLoop_forest (fuelP s) _ (startP s) hl (.nil 0 0 0) h2
  have o := q1.ok
  have e1 := o.ex
  have e2 := o.st
  have e3 := o.fu
  have e4 := o.at1
  have e5 := o.small
  change ((parsed s).exprs.length : Int) ≤ (parsed s).at_ at e1
  change ((parsed s).stmts.length : Int) ≤ (parsed s).at_ at e2
  change ((parsed s).funcs.length : Int) ≤ (parsed s).at_ at e3
  change (parsed s).at_ < ((parsed s).toks.length : Int) at e4
  change (parsed s).toks.length ≤ 1048576 at e5
  have e6 : (parsed s).toks = (tokens s).1 := q2
  have e7 := hch.len
  have e8 : s.size ≤ 20000 := by
    unfold tokens at h1
    by_cases h : 20000 < s.size
    · rw [if_pos h] at h1; exact absurd h1 (by decide)
    · omega
  rw [e6] at e4
  refine ⟨(tokens s).1, (parsed s).at_, hch, ?_, ?_, q4, ?_, ?_⟩
  · dsimp only; rw [← e6]; exact q5
  · exact e4
  · dsimp only; omega
  · omega
theorem Cov.roots {es : List Ex} {ss : List St} {l : List Rt} {a b c d : Nat} (h : Cov es ss l a b c d) : (∀ r, Rt.e r ∈ l → (a : Int) ≤ r ∧ r < c) ∧ (∀ r, Rt.s r ∈ l → (b : Int) ≤ r ∧ r < d) ∧ l.length + a + b ≤ c + d := by
  induction h with
  | nil => simp
  | @e r a b c d x l hx hk hl ih1 ih2 =>
    have l1 := hk.le
    have l2 := hl.le
    refine ⟨fun r' hr => ?_, fun r' hr => ?_, ?_⟩
    · rcases List.mem_cons.1 hr with h | h
      · cases h; omega
      · have := ih2.1 r' h; omega
    · rcases List.mem_cons.1 hr with h | h
      · cases h
      · exact ih2.2.1 r' h
    · have := ih2.2.2; rw [List.length_cons]; omega
  | @s r a b c d e1 x l hx hk hl ih1 ih2 =>
    have l1 := hk.le
    have l2 := hl.le
    refine ⟨fun r' hr => ?_, fun r' hr => ?_, ?_⟩
    · rcases List.mem_cons.1 hr with h | h
      · cases h
      · have := ih2.1 r' h; omega
    · rcases List.mem_cons.1 hr with h | h
      · cases h; omega
      · have := ih2.2.1 r' h; omega
    · have := ih2.2.2; rw [List.length_cons]; omega
theorem Cov.exAt {es : List Ex} {ss : List St} {l : List Rt} {a b c d : Nat} (h : Cov es ss l a b c d) : ∀ (i : Nat) (x : Ex), a ≤ i → i < c → es[i]? = some x → ∃ a' b', Cov es ss (x.kids.map .e) a' b' i b' := by
  induction h with
  | nil => intro i x h1 h2; omega
  | @e r a b c d y l hx hk hl ih1 ih2 =>
    intro i x h1 h2 h3
    by_cases hlt : i < r
    · exact ih1 i x h1 hlt h3
    by_cases he : i = r
    · subst he
      rw [hx] at h3; cases h3
      exact ⟨a, b, hk⟩
    · exact ih2 i x (by omega) h2 h3
  | @s r a b c d e1 y l hx hk hl ih1 ih2 =>
    intro i x h1 h2 h3
    by_cases hlt : i < e1
    · exact ih1 i x h1 hlt h3
    · exact ih2 i x (by omega) h2 h3
theorem Cov.stAt {es : List Ex} {ss : List St} {l : List Rt} {a b c d : Nat} (h : Cov es ss l a b c d) : ∀ (i : Nat) (x : St), b ≤ i → i < d → ss[i]? = some x → ∃ a' b' c', Cov es ss x.kids a' b' c' i ∧ a ≤ a' ∧ b ≤ b' ∧ c' ≤ c := by
  induction h with
  | nil => intro i x h1 h2; omega
  | @e r a b c d y l hx hk hl ih1 ih2 =>
    intro i x h1 h2 h3
    have l1 := hk.le
    obtain ⟨a', b', c', q1, q2, q3, q4⟩ := ih2 i x h1 h2 h3
    exact ⟨a', b', c', q1, by omega, q3, q4⟩
  | @s r a b c d e1 y l hx hk hl ih1 ih2 =>
    intro i x h1 h2 h3
    have l1 := hk.le
    have l2 := hl.le
    by_cases hlt : i < r
    · obtain ⟨a', b', c', q1, q2, q3, q4⟩ := ih1 i x h1 hlt h3
      exact ⟨a', b', c', q1, q2, q3, by omega⟩
    by_cases he : i = r
    · subst he
      rw [hx] at h3; cases h3
      exact ⟨a, b, e1, hk, Nat.le_refl _, Nat.le_refl _, l2.1⟩
    · obtain ⟨a', b', c', q1, q2, q3, q4⟩ := ih2 i x (by omega) h2 h3
      exact ⟨a', b', c', q1, by omega, by omega, q4⟩
/-- the function to which an expression, a statement belongs -/
theorem FCov.one_e {toks : List Tok} {es : List Ex} {ss : List St} {l : List Fu} {a b c d : Nat} {x y : Int} (h : FCov toks es ss l a b x c d y) : ∀ i, a ≤ i → i < c →
    ∃ (k : Nat) (g : Fu) (a' b' c' d' : Nat) (x' y' : Int), l[k]? = some g ∧ FOne toks es ss g a' b' x' c' d' y' ∧ a ≤ a' ∧ b ≤ b' ∧ x ≤ x' ∧ c' ≤ c ∧ d' ≤ d ∧ y' ≤ y ∧ a' ≤ i ∧ i < c' := by
  induction h with
  | nil => intro i h1 h2; omega
  | @snoc l g a b c d e f x y z h h' ih =>
    intro i h1 h2
    have l1 := h.le
    have l2 := h'.cov.le
    have l3 := h'.lt
    by_cases hlt : i < c
    · obtain ⟨k, g', a', b', c', d', x', y', q1, q2, q3, q4, q5, q6, q7, q8, q9, q10⟩ := ih i h1 hlt
      exact ⟨k, g', a', b', c', d', x', y', get_append q1, q2, q3, q4, q5, by omega, by omega, by omega, q9, q10⟩
    · exact ⟨l.length, g, c, d, e, f, y, z, by simp, h', by omega, by omega, by omega, by omega, by omega, by omega, by omega, h2⟩
theorem FCov.one_s {toks : List Tok} {es : List Ex} {ss : List St} {l : List Fu} {a b c d : Nat} {x y : Int} (h : FCov toks es ss l a b x c d y) : ∀ i, b ≤ i → i < d →
    ∃ (k : Nat) (g : Fu) (a' b' c' d' : Nat) (x' y' : Int), l[k]? = some g ∧ FOne toks es ss g a' b' x' c' d' y' ∧ a ≤ a' ∧ b ≤ b' ∧ x ≤ x' ∧ c' ≤ c ∧ d' ≤ d ∧ y' ≤ y ∧ b' ≤ i ∧ i < d' := by
  induction h with
  | nil => intro i h1 h2; omega
  | @snoc l g a b c d e f x y z h h' ih =>
    intro i h1 h2
    have l1 := h.le
    have l2 := h'.cov.le
    have l3 := h'.lt
    by_cases hlt : i < d
    · obtain ⟨k, g', a', b', c', d', x', y', q1, q2, q3, q4, q5, q6, q7, q8, q9, q10⟩ := ih i h1 hlt
      exact ⟨k, g', a', b', c', d', x', y', get_append q1, q2, q3, q4, q5, by omega, by omega, by omega, q9, q10⟩
    · exact ⟨l.length, g, c, d, e, f, y, z, by simp, h', by omega, by omega, by omega, by omega, by omega, by omega, by omega, h2⟩
theorem FCov.one_f {toks : List Tok} {es : List Ex} {ss : List St} {l : List Fu} {a b c d : Nat} {x y : Int} (h : FCov toks es ss l a b x c d y) : ∀ k g, l[k]? = some g →
    ∃ (a' b' c' d' : Nat) (x' y' : Int), FOne toks es ss g a' b' x' c' d' y' ∧ a ≤ a' ∧ b ≤ b' ∧ x ≤ x' ∧ c' ≤ c ∧ d' ≤ d ∧ y' ≤ y ∧ FCov toks es ss (l.take k) a b x a' b' x' := by
  induction h with
  | nil => intro k g hk; simp at hk
  | @snoc l g a b c d e f x y z h h' ih =>
    intro k g' hk
    have l1 := h.le
    have l2 := h'.cov.le
    have l3 := h'.lt
    by_cases hlt : k < l.length
    · rw [List.getElem?_append_left hlt] at hk
      obtain ⟨a', b', c', d', x', y', q2, q3, q4, q5, q6, q7, q8, q9⟩ := ih k g' hk
      exact ⟨a', b', c', d', x', y', q2, q3, q4, q5, by omega, by omega, by omega, by rw [List.take_append_of_le_length (by omega)]; exact q9⟩
    · have hk0 : k = l.length := by
        have := (List.getElem?_eq_some_iff.1 hk).1
        simp at this; omega
      subst hk0
      simp at hk
      subst hk
      exact ⟨c, d, e, f, y, z, h', by omega, by omega, by omega, by omega, by omega, by omega, by rw [List.take_left]; exact h⟩
theorem IsTree.ok {s : ByteArray} {t : Tree} {toks : List Tok} {at_ : Int} (h : IsTree s t toks at_) : TreeOk t := by
  have hbig := h.big
  refine ⟨fun i x hx => ?_, fun i x hx => ?_, fun g hg => ?_, ?_, by omega⟩
  · have hlt := (List.getElem?_eq_some_iff.1 hx).1
    obtain ⟨k, g, a', b', c', d', x', y', q1, q2, q3, q4, q5, q6, q7, q8, q9, q10⟩ := h.cov.one_e i (Nat.zero_le _) hlt
    obtain ⟨u, v, hcv⟩ := q2.cov.exAt i x q9 q10 hx
    have hr := hcv.roots
    have hok := (q2.ex i x q9 q10 hx).1
    have mem : ∀ r ∈ x.kids, 0 ≤ r ∧ r < (i : Int) := fun r hr' => by
      have := hr.1 r (List.mem_map.2 ⟨r, hr', rfl⟩); omega
    refine ⟨fun hk => ?_, fun hk => ?_, fun hk => ?_, ?_⟩
    · refine mem x.a ?_
      unfold Ex.kids
      rcases hk with hk | hk | hk <;> rw [hk] <;> simp
    · have hb := mem x.b (by unfold Ex.kids; rw [hk]; simp)
      exact ⟨hb.1, hb.2, hok.op9 hk⟩
    · intro a ha
      exact mem a (by unfold Ex.kids; rw [if_neg (by omega), if_neg (by omega), if_pos hk]; exact ha)
    · rcases hok.ls with h6 | h6
      · have := hr.2.2
        rw [List.length_map, show x.kids = x.list by unfold Ex.kids; rw [if_neg (by omega), if_neg (by omega), if_pos h6]] at this
        omega
      · rw [h6]; simp
  · have hlt := (List.getElem?_eq_some_iff.1 hx).1
    obtain ⟨k, g, a', b', c', d', x', y', q1, q2, q3, q4, q5, q6, q7, q8, q9, q10⟩ := h.cov.one_s i (Nat.zero_le _) hlt
    obtain ⟨u, v, w, hcv, u1, u2, u3⟩ := q2.cov.stAt i x q9 q10 hx
    have hr := hcv.roots
    have hok := (q2.st i x q9 q10 hx).1
    have hk1 := hok.k1
    have mem : ∀ r ∈ x.xs, 0 ≤ r ∧ r < (t.exprs.length : Int) := fun r hr' => by
      have := hr.1 r (by unfold St.kids; exact List.mem_append_left _ (List.mem_map.2 ⟨r, hr', rfl⟩)); omega
    have mem2 : ∀ r ∈ x.thn ++ x.els, 0 ≤ r ∧ r < (i : Int) := fun r hr' => by
      have := hr.2.1 r (by unfold St.kids; exact List.mem_append_right _ (List.mem_map.2 ⟨r, hr', rfl⟩)); omega
    have hlen := hr.2.2
    have hk4 : x.thn.length + x.els.length ≤ x.kids.length := by unfold St.kids; simp
    refine ⟨fun hk => ?_, fun hk => ?_, fun hk => ?_, fun r hr' => mem2 r (List.mem_append_left _ hr'), fun r hr' => mem2 r (List.mem_append_right _ hr'), by omega, by omega⟩
    · refine (mem x.a ?_).1
      unfold St.xs
      by_cases h4 : x.kind = 4
      · rw [if_pos h4]; simp
      · rw [if_neg h4, if_neg (by omega), if_neg (by omega)]; simp
    · by_cases h9 : x.kind = 9 ∧ x.a < 0
      · omega
      · refine (mem x.a ?_).2
        unfold St.xs
        by_cases h4 : x.kind = 4
        · rw [if_pos h4]; simp
        · rw [if_neg h4]
          by_cases h99 : x.kind = 9
          · rw [if_pos h99, if_neg (by omega)]; simp
          · rw [if_neg h99, if_neg (by omega)]; simp
    · have := mem x.b (by unfold St.xs; rw [if_pos hk]; simp)
      exact this
  · obtain ⟨k, hk, hg'⟩ := List.getElem_of_mem hg
    obtain ⟨a', b', c', d', x', y', q2, q3, q4, q5, q6, q7, q8, q9⟩ := h.cov.one_f k g (by rw [List.getElem?_eq_getElem hk, hg'])
    have hr := q2.cov.roots
    have hs := h.small
    refine ⟨by have := q2.params; omega, by have := hr.2.2; rw [List.length_map] at this; have := hbig; omega, fun r hr' => ?_⟩
    have := hr.2.1 r (List.mem_map.2 ⟨r, hr', rfl⟩); omega
  · have := h.some
    cases hf : t.funcs with
    | nil => exact absurd hf this
    | cons => simp
end Go.Proofs.Ytaadamobapnfbaa
