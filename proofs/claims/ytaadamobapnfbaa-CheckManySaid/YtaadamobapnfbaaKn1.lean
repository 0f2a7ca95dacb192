/- Own texts, put together by a program: Aj Ak B0 C0 C1 C2 C3 C4 C5 C6 C7 C8 C9 D0. -/
import Derived.Recover
import Derived.Test.YtaadamobapnfbaaProg
import Derived.Test.YtaadamobapnfbaaKn0
set_option linter.unusedVariables false
namespace Go.Abs
section
variable {P : Program} {N : Nat} {D : List Deferred} {o : Oper} {ops : Array Oper} {env : Env} {R R' : List Item} {l : List Oper} {K Kp : AV → List Item → Prop}
theorem AEnds.trans {G G1 : Gh} {R R1 : List Item} {W W1 : World} {Q : AOut → List Item → Prop} (h : Ext G R W G1 R1 W1) {e : Ending} {w : World} (he : AEnds G1 R1 W1 Q e w) : AEnds G R W Q e w := by
  cases e with
  | returned c => obtain ⟨G', R', r, h1, h2⟩ := he; exact ⟨G', R', r, h.trans h1, h2⟩
  | panicked ch => obtain ⟨G', R', x, c, h0, h1, h2⟩ := he; exact ⟨G', R', x, c, h0, h.trans h1, h2⟩
  | outgrown => exact he
theorem Leaves.mono {fn : Func} {tmps : Array Value} {A B : Ending → World → Prop} (h : ∀ e w, A e w → B e w) : ∀ (ds : List Deferred) (u : FrameMode) (w : World), Leaves P fn tmps A ds u w → Leaves P fn tmps B ds u w := by
  intro ds
  induction ds with
  | nil =>
    intro u w hl
    cases u with
    | run => exact hl
    | returning => obtain ⟨v, h1, h2⟩ := hl; exact ⟨v, h1, h _ _ h2⟩
    | panicking ch => exact h _ _ hl
  | cons d ds ih =>
    intro u w hl
    obtain ⟨h1, fv, cap, f, args, h2, h3, h4⟩ := hl
    refine ⟨h1, fv, cap, f, args, h2, h3, h4.mono ?_⟩
    intro e u' w' he
    cases e with
    | returned v => exact ih _ _ he
    | panicked ch => exact ih _ _ he
    | outgrown => exact h _ _ he
theorem bodyPostD_trans {fn : Func} {G G1 : Gh} {R R1 : List Item} {W W1 : World} {Q : AOut → List Item → Prop} (h : Ext G R W G1 R1 W1) {e : Exit} {a : Act} {w : World} (he : bodyPostD P fn (AEnds G1 R1 W1 Q) e a w) : bodyPostD P fn (AEnds G R W Q) e a w := by
  have hm : ∀ e w, AEnds G1 R1 W1 Q e w → AEnds G R W Q e w := fun e w he => he.trans h
  cases e with
  | normal => exact Leaves.mono hm _ _ _ he
  | ret => exact Leaves.mono hm _ _ _ he
  | panic ch => exact Leaves.mono hm _ _ _ he
  | outgrown => exact hm Ending.outgrown w he
  | exit id => exact he
  | goto l => exact he
/-- What a deferred function leaves. -/
def DPost (G : Gh) (R : List Item) (W : World) (u : FrameMode) (K : List Item → Prop) : Ending → FrameMode → World → Prop := fun e u' w' =>
  (∃ v, e = .returned v) ∧ u' = u ∧ ∃ G' R', Ext G R W G' R' w' ∧ Own G' R' w' ∧ K R'
def ADefer (P : Program) (g : FuncId) (cap : List AV) (x : Option AV) (R : List Item) (K : List Item → Prop) : Prop :=
  ∀ G W (ccap : Array Value), Own G R W → Reps G cap ccap → match x with
    | none => CallsD P g ccap .returning W (DPost G R W .returning K)
    | some y => ∀ c, Rep G y c → CallsD P g ccap (.panicking [{ v := c, recovered := false }]) W (DPost G R W (.panicking [{ v := c, recovered := true }]) K)
def dK (P : Program) (N : Nat) (rs : List ResultVar) (env : Env) (Q : AOut → List Item → Prop) : List Item → Prop := fun R' => ∃ l R1 R2, ResL P N env R' rs l ∧ R'.Perm R1 ∧ R2.Sublist R1 ∧ Q (.ret (resOf l)) R2
def dQ (P : Program) (N : Nat) (rs : List ResultVar) (g : FuncId) (cap : List AV) (Q : AOut → List Item → Prop) : AExit → Env → List Item → Prop
  | .normal, env, R | .ret, env, R => ADefer P g cap none R (dK P N rs env Q)
  | .panic x, env, R => ADefer P g cap (some x) R (dK P N rs env Q)
  | .exit _, _, _ => False
theorem run_invoke {g : FuncId} {ccap : Array Value} (hok : callOk P g = true) (W : World) : (invoke (.fn (.func g) ccap) #[]).run P W = .ok (.enter g ccap) W := by
  have : (invoke (.fn (.func g) ccap) #[]) = callFunc g ccap := by simp [invoke]
  rw [this]; exact run_callFunc hok ccap W
theorem bodyPostD_of {fn : Func} {g : FuncId} {cap : List AV} {ccap : Array Value} {Q : AOut → List Item → Prop} {G0 G : Gh} {R : List Item} {W : World} (hok : callOk P g = true) (hcap : Reps G cap ccap) {e : Exit} {a : Act} {w : World}
    (hc : conc N [{ target := .fn (.func g) ccap, args := #[] }] G R W (dQ P N fn.results.toList g cap Q) e a w) : bodyPostD P fn (AEnds G R W Q) e a w := by
  have fin : ∀ (G' : Gh) (env' : Env) (R' : List Item) (u : FrameMode), Ext G R W G' R' w → Sim N [{ target := .fn (.func g) ccap, args := #[] }] G' env' R' a w → u ≠ .run → settle u = .returning →
      ∀ u0, u0 ≠ .run → CallsD P g ccap u0 w (DPost G' R' w u (dK P N fn.results.toList env' Q)) → Leaves P fn a.tmps (AEnds G R W Q) a.defers u0 w := by
    intro G' env' R' u hE hs hu hset u0 hu0 hcall
    rw [hs.defers]
    refine leaves_cons (f := g) (args := ccap) hu0 (run_invoke hok w) (hcall.mono ?_)
    rintro e u' w' ⟨⟨v, rfl⟩, rfl, G2, R2, hE2, hO2, l, R1, R3, hres, hp, hsub, hQ⟩
    show Leaves P fn a.tmps (AEnds G R W Q) [] (settle u') w'
    rw [hset]
    obtain ⟨v, h1, h2⟩ := results_run (hs.more hE2.gext hO2) hres
    exact ⟨v, h1, G2, R3, resOf l, (hE.trans hE2).sub fun it hi => hp.mem_iff.2 (hsub.subset hi), (hO2.perm hp).sub hsub, h2, hQ⟩
  cases e with
  | normal =>
    obtain ⟨G', env', R', hE, hs, hq⟩ := hc
    exact fin G' env' R' .returning hE hs (by simp) rfl .returning (by simp) (hq G' w ccap hs.own (hcap.ext hE.gext))
  | ret =>
    obtain ⟨G', env', R', hE, hs, hq⟩ := hc
    exact fin G' env' R' .returning hE hs (by simp) rfl .returning (by simp) (hq G' w ccap hs.own (hcap.ext hE.gext))
  | panic ch =>
    obtain ⟨G', env', R', x, c, rfl, hx, hE, hs, hq⟩ := hc
    exact fin G' env' R' (.panicking [{ v := c, recovered := true }]) hE hs (by simp) rfl _ (by simp) (hq G' w ccap hs.own (hcap.ext hE.gext) c hx)
  | exit id => obtain ⟨_, _, _, _, _, hq⟩ := hc; exact hq.elim
  | goto l => exact hc.elim
  | outgrown => exact hc.elim
/-- Code of a function that defers, from a place ahead of the deferring on. -/
def ZCode (P : Program) (N : Nat) (fn : Func) (c : Code) (env : Env) (R : List Item) (Q : AOut → List Item → Prop) : Prop :=
  ∀ G W a, Sim N [] G env R a W → c.wp P (bodyPostD P fn (AEnds G R W Q)) a W
theorem ZCode.seq {fn : Func} {x y : Code} {Q : AOut → List Item → Prop} (h : ACode P N [] x env R (fun e env' R' => e = .normal ∧ ZCode P N fn y env' R' Q)) : ZCode P N fn (.seq x y) env R Q := by
  intro G W a hs
  refine wp_seq (Go.wp_mono (h G W a hs) fun e a' w' hq => ?_)
  cases e with
  | normal =>
    obtain ⟨G', env', R', hE, hs', _, hc⟩ := hq
    exact Go.wp_mono (hc G' w' a' hs') fun e a w hq => bodyPostD_trans hE hq
  | exit id => obtain ⟨_, _, _, _, _, hq, _⟩ := hq; cases hq
  | ret => obtain ⟨_, _, _, _, _, hq, _⟩ := hq; cases hq
  | panic ch => obtain ⟨_, _, _, _, _, _, _, _, _, hq, _⟩ := hq; cases hq
  | goto l => exact hq.elim
  | outgrown => exact hq.elim
theorem ZCode.defers {fn : Func} {id : Nat} {o1 o2 : Oper} {y : Code} {t : Tmp} {g : FuncId} {ys : Array Operand} {ts : Array TypeId} {cap : List AV} {Q : AOut → List Item → Prop} (ho1 : o1.op = .makeFunc (.func g) #[] ys) (hd1 : o1.dst = some t) (hg1 : o1.guard = none)
    (ho2 : o2.op = .defer { callee := .value (.tmp t), args := #[], argTypes := ts }) (hd2 : o2.dst = none) (hg2 : o2.guard = none) (hN : t < N) (hcap : evList N env ys.toList = some cap) (hok : callOk P g = true)
    (h : ∀ d, ACode P N [d] y (env.put (some t) (.fn (.func g) [] cap)) R (dQ P N fn.results.toList g cap Q)) : ZCode P N fn (.seq (.region id #[o1, o2] false) y) env R Q := by
  intro G W a hs
  refine wp_seq ?_
  refine wp_region_lit (l := [o1, o2]) ?_
  refine wpList_plain hg1 fun K1 hK1 => ?_
  refine (AOp.q (K := fun v R' => v = .fn (.func g) [] cap ∧ R' = R) (Kp := fun _ _ => False) (QOp.makeFunc (l1 := []) (l2 := cap) ho1 rfl hcap ⟨_, rfl⟩) ⟨rfl, rfl⟩) G W a hs K1 _ ?_ (fun _ _ _ _ _ _ _ _ hf => hf.elim)
  rintro G' R' c v W' hE hO hv ⟨rfl, rfl⟩
  have hs1 : Sim N [] G' (env.put (some t) (.fn (.func g) [] cap)) R' (a.put (some t) c) W' := hs.put hE.gext hO hv (some t)
  rw [hd1]
  refine hK1 _ _ ?_
  refine wpList_plain hg2 fun K2 hK2 => ?_
  obtain ⟨c1, c2, heq, hr1, hr2⟩ := hv.fn_inv
  have hc1 : c1 = #[] := by apply Array.eq_empty_of_size_eq_zero; simpa using hr1.1.symm
  subst hc1; subst heq
  have hev : (a.put (some t) (.func (.func g) #[] c2)).eval (.tmp t) = .func (.func g) #[] c2 := by
    have hlt : t < a.tmps.size := hs.size ▸ hN
    simp [Act.eval, Act.put, hlt]
  unfold Oper.wp
  have hrun : (execOp (a.put (some t) (.func (.func g) #[] c2)).eval o2).run P W' = .ok (.defer { target := .fn (.func g) c2, args := #[] }) W' := by
    simp [execOp, ho2, resolve, hev, Deferred.ofValue]
  rw [hrun]
  show K2 _ _
  refine hK2 _ _ ?_
  refine wpList_nil ?_
  have hs2 : Sim N [{ target := .fn (.func g) c2, args := #[] }] G' (env.put (some t) (.fn (.func g) [] cap)) R' ({ (a.put (some t) (.func (.func g) #[] c2)) with defers := { target := .fn (.func g) c2, args := #[] } :: (a.put (some t) (.func (.func g) #[] c2)).defers }.put o2.dst undef) W' := by
    rw [hd2]
    exact ⟨hs1.own, hs1.env, hs1.size, by show _ :: (a.put (some t) (.func (.func g) #[] c2)).defers = _; rw [hs1.defers]⟩
  exact Go.wp_mono (h _ G' W' _ hs2) fun e a w hq => bodyPostD_trans hE (bodyPostD_of (G0 := G') hok hr2 hq)
theorem ACalls.of_codeD {f : FuncId} {fn : Func} {c : Code} {args : List AV} {Q : AOut → List Item → Prop} (hf : P.funcs[f]? = some fn) (hb : fn.body = some c) (hn : fn.ntmps = N) (hal : args.length ≤ N) (h : ZCode P N fn c (initEnv args) R Q) : ACalls P f args R Q := by
  intro G W cargs hO hreps
  have hsz : cargs.size = args.length := hreps.1.symm
  have hsim : Sim N [] G (initEnv args) R { tmps := cargs ++ Array.replicate (fn.ntmps - cargs.size) undef, defers := [] } W := by
    refine ⟨hO, fun d v hd hv => ?_, by simp; omega, rfl⟩
    obtain ⟨c, h1, h2⟩ := hreps.2 d v hv
    have hlt : d < cargs.size := (Array.getElem?_eq_some_iff.1 h1).1
    have : (cargs ++ Array.replicate (fn.ntmps - cargs.size) undef).getD d undef = c := by
      simp only [Array.getD_eq_getD_getElem?, Array.getElem?_append_left hlt, h1, Option.getD_some]
    rw [this]
    exact h2
  exact calls_of_wp_defers hf hb (h G W _ hsim)
/-! The deferred function itself. -/
theorem wpOpsS_of {Q : Exit → Act → List Frame → World → Prop} {cs : List Frame} (hno : ¬ LetsOut (fun e a w => Q e a cs w)) : ∀ (l : List Nat) (a : Act) (w : World), wpOps P ops (fun e a w => Q e a cs w) l a w → wpOpsS P ops Q l a cs w
  | [], a, w, h => h
  | i :: l, a, w, h => by
    simp only [wpOps, wpOpsS] at h ⊢
    split
    · rename_i heq; rw [heq] at h; exact wpOpsS_of hno l a w h
    · rename_i o' heq
      rw [heq] at h
      dsimp only at h
      split
      · rename_i hw
        rw [if_pos hw] at h
        rcases h with h | ⟨_, h⟩
        · unfold Oper.wp at h
          split
          · rename_i hr; rw [hr] at h; exact h.elim
          · rename_i r hnr
            have hmono : ∀ (r : Result Next), o'.upon P a (wpOps P ops (fun e a w => Q e a cs w) l) (fun e a w => Q e a cs w) r → o'.upon P a (fun a' w' => wpOpsS P ops Q l a' cs w') (fun e a w => Q e a cs w) r := by
              intro r h
              unfold Oper.upon at h ⊢
              split at h
              · exact wpOpsS_of hno l _ _ h
              · exact wpOpsS_of hno l _ _ h
              · exact wpOpsS_of hno l _ _ h
              · refine h.mono ?_
                intro e w'' he
                cases e with
                | returned v => exact wpOpsS_of hno l _ _ he
                | panicked ch => exact he
                | outgrown => exact he
              · exact h.mono fun v w'' hv => wpOpsS_of hno l _ _ hv
              · exact h
              · exact h
            exact hmono _ h
        · exact absurd h hno
      · rename_i hw
        rw [if_neg hw] at h
        exact wpOpsS_of hno l _ _ h
def dEnd (K : List Item → Prop) : AExit → Env → List Item → Prop
  | .normal, _, R | .ret, _, R => K R
  | _, _, _ => False
def recd : Option AV → AV
  | none => .v .nilIface
  | some y => y
theorem ADefer.intro {g : FuncId} {fn : Func} {id : Nat} {o0 : Oper} {l : List Oper} {rest : Code} {cap : List AV} {x : Option AV} {R : List Item} {K : List Item → Prop} {t : Tmp} (hf : P.funcs[g]? = some fn) (hb : fn.body = some (.seq (.region id (o0 :: l).toArray false) rest)) (hn : fn.ntmps = N) (hal : cap.length ≤ N)
    (ho : o0.op = .call { callee := .builtin .recover, args := #[], argTypes := #[] }) (hd : o0.dst = some t) (hg : o0.guard = none) (hres : fn.results = #[])
    (h : ASeq P N [] (o0 :: l).toArray l ((initEnv cap).put (some t) (recd x)) R (AExit.then (fun env' R' => ACode P N [] rest env' R' (dEnd K)) (dEnd K))) : ADefer P g cap x R K := by
  intro G W ccap hO hreps
  have hsz : ccap.size = cap.length := hreps.1.symm
  have hsim : Sim N [] G (initEnv cap) R { tmps := ccap ++ Array.replicate (fn.ntmps - ccap.size) undef, defers := [] } W := by
    refine ⟨hO, fun d v hd hv => ?_, by simp; omega, rfl⟩
    obtain ⟨c, h1, h2⟩ := hreps.2 d v hv
    have hlt : d < ccap.size := (Array.getElem?_eq_some_iff.1 h1).1
    have : (ccap ++ Array.replicate (fn.ntmps - ccap.size) undef).getD d undef = c := by
      simp only [Array.getD_eq_getD_getElem?, Array.getElem?_append_left hlt, h1, Option.getD_some]
    rw [this]
    exact h2
  have hrange : List.range (o0 :: l).toArray.size = 0 :: List.range' 1 l.length := by
    rw [List.range_eq_range']; simp [List.range'_succ]
  have key : ∀ (c₀ : Frame) (cs : List Frame) (u0 u1 : FrameMode) (c : Value), c₀.mode = u0 → Rep G (recd x) c →
      ((recoverD (c₀ :: cs) = none ∧ c = .nilIface ∧ u1 = u0) ∨ recoverD (c₀ :: cs) = some (c, { c₀ with mode := u1 } :: cs)) →
      (Code.seq (.region id (o0 :: l).toArray false) rest).wpS P (bodyPostS P fn c₀ cs (DPost G R W u1 K)) { tmps := ccap ++ Array.replicate (fn.ntmps - ccap.size) undef, defers := [] } (c₀ :: cs) W := by
    intro c₀ cs u0 u1 c hu hrc hrec
    refine wpS_seq (wpS_region ?_)
    rw [hrange]
    have hrun : ∀ a : Act, (execOp a.eval o0).run P W = .ok .recover W := fun a => by simp [execOp, ho, resolve, invoke, builtin]
    have h0 : (o0 :: l).toArray[0]? = some o0 := by simp
    have hw : ∀ tm : Array Value, Region.wanted o0 (yielded (o0 :: l).toArray tm) = true := fun tm => by simp [Region.wanted, hg]
    have fin : ∀ (a' : Act) (w' : World) (G' : Gh) (env' : Env) (R' : List Item), Ext G R W G' R' w' → Sim N [] G' env' R' a' w' → K R' →
        a'.defers = [] ∧ ∃ u', ({ c₀ with mode := u1 } :: cs : List Frame) = { c₀ with mode := u' } :: cs ∧ ∃ v, (results fn a'.tmps).run P w' = .ok v w' ∧ DPost G R W u1 K (.returned v) u' w' := by
      intro a' w' G' env' R' hE hs hk
      refine ⟨hs.defers, u1, rfl, .tuple #[], ?_, ⟨_, rfl⟩, rfl, G', R', hE, hs.own, hk⟩
      simp [results, hres]
    have ends : ∀ (e : Exit) (a' : Act) (w' : World), conc N [] G R W (dEnd K) e a' w' → bodyPostS P fn c₀ cs (DPost G R W u1 K) e a' ({ c₀ with mode := u1 } :: cs) w' := by
      intro e a' w' hc
      cases e with
      | normal => obtain ⟨G', env', R', hE, hs, hk⟩ := hc; exact fin a' w' G' env' R' hE hs hk
      | ret => obtain ⟨G', env', R', hE, hs, hk⟩ := hc; exact fin a' w' G' env' R' hE hs hk
      | exit id => obtain ⟨_, _, _, _, _, hk⟩ := hc; exact hk.elim
      | panic ch => obtain ⟨_, _, _, _, _, _, _, _, _, hk⟩ := hc; exact hk.elim
      | goto l => exact hc.elim
      | outgrown => exact hc.elim
    have tail : wpOpsS P (o0 :: l).toArray (Exit.thenS (rest.wpS P (bodyPostS P fn c₀ cs (DPost G R W u1 K))) (bodyPostS P fn c₀ cs (DPost G R W u1 K))) (List.range' 1 l.length) (({ tmps := ccap ++ Array.replicate (fn.ntmps - ccap.size) undef, defers := [] } : Act).put o0.dst c) ({ c₀ with mode := u1 } :: cs) W := by
      refine wpOpsS_of ?_ _ _ _ ?_
      · rintro ⟨a, w, u', ⟨v, hv⟩, _⟩
        cases hv
      rw [wpOps_eq_wpList l 1 (fun j => by rw [Nat.add_comm]; simp)]
      have hs1 := hsim.put (GExt.refl G) hO hrc o0.dst
      rw [hd] at hs1
      rw [hd]
      refine h G W _ hs1 _ ?_
      intro e a' w' hc
      cases e with
      | normal =>
        obtain ⟨G', env', R', hE, hs, hcode⟩ := hc
        exact wpS_of_wp (Go.wp_mono (hcode G' w' a' hs) fun e a w hq => ends e a w (hq.trans hE))
      | ret => exact ends .ret a' w' hc
      | exit id => exact ends (.exit id) a' w' hc
      | panic ch => exact ends (.panic ch) a' w' hc
      | goto l => exact hc.elim
      | outgrown => exact hc.elim
    simp only [wpOpsS, h0, hw, if_true, hrun]
    rcases hrec with ⟨h1, h2, h3⟩ | h1
    · rw [h1, ← h2]
      have : ({ c₀ with mode := u1 } : Frame) = c₀ := by rw [h3, ← hu]
      rw [this] at tail
      exact tail
    · rw [h1]; exact tail
  cases x with
  | none =>
    exact callsD_of_wpS hf hb fun c₀ cs hu => key c₀ cs .returning .returning .nilIface hu .v (.inl ⟨by simp [recoverD, hu], rfl, rfl⟩)
  | some y =>
    intro c hc
    exact callsD_of_wpS hf hb fun c₀ cs hu => key c₀ cs _ _ c hu hc (.inr (by simp [recoverD, hu]))
/-- Less is handed on to a deferred function. -/
theorem ADefer.sub {g : FuncId} {cap : List AV} {x : Option AV} {R R2 : List Item} {K : List Item → Prop} (R1 : List Item) (hp : R.Perm R1) (hsub : R2.Sublist R1) (h : ADefer P g cap x R2 K) : ADefer P g cap x R K := by
  intro G W ccap hO hreps
  have hE : Ext G R W G R2 W := (Ext.refl G R W).sub fun it hi => hp.mem_iff.2 (hsub.subset hi)
  have := h G W ccap ((hO.perm hp).sub hsub) hreps
  cases x with
  | none =>
    refine CallsD.mono this ?_
    rintro e u' w' ⟨h1, h2, G', R', h3, h4⟩
    exact ⟨h1, h2, G', R', hE.trans h3, h4⟩
  | some y =>
    intro c hc
    refine CallsD.mono (this c hc) ?_
    rintro e u' w' ⟨h1, h2, G', R', h3, h4⟩
    exact ⟨h1, h2, G', R', hE.trans h3, h4⟩
/-- What a value of any type holds, asked with a second answer. -/
theorem QOp.assertYes {x : Operand} {tx t : TypeId} {td : TD} {v : AV} (ho : o.op = .typeAssert x tx t true) (hx : ev N env x = some (.ifc t v)) (hT : TOK P t td) (hd : ∀ n, td.ds ≠ .ifc n) : QOp P N D o env R (.tup [v, .v (.bool true)]) :=
  (fun G W a hs => by
    obtain ⟨d, h1, h2⟩ := hT.und
    obtain ⟨c, heq, hr⟩ := (ev_rep hs hx).ifc_inv
    have hni : ∀ ms, d ≠ .interface ms := fun ms h => hd ms.size (by rw [← h2, h]; rfl)
    refine ⟨.tuple #[c, .bool true], ?_, Reps.tup ⟨rfl, fun i y hy => ?_⟩⟩
    · cases d <;> first | (simp [execOp, ho, Instr.typeAssert, run_underlying h1, heq]; done) | exact absurd rfl (hni _)
    · match i, hy with
      | 0, hy => injection hy with hy; subst hy; exact ⟨c, rfl, hr⟩
      | 1, hy => injection hy with hy; subst hy; exact ⟨_, rfl, .v⟩)
theorem QOp.assertNo {x : Operand} {tx t : TypeId} {td : TD} {z : Value} (ho : o.op = .typeAssert x tx t true) (hx : ev N env x = some (.v .nilIface)) (hT : TOK P t td) (hd : ∀ n, td.ds ≠ .ifc n) (hz : ∀ w, (zeroValue t).run P w = .ok z w) : QOp P N D o env R (.tup [ofV z, .v (.bool false)]) :=
  (fun G W a hs => by
    obtain ⟨d, h1, h2⟩ := hT.und
    have heq := (ev_rep hs hx).v_inv
    have hni : ∀ ms, d ≠ .interface ms := fun ms h => hd ms.size (by rw [← h2, h]; rfl)
    refine ⟨.tuple #[z, .bool false], ?_, Reps.tup ⟨rfl, fun i y hy => ?_⟩⟩
    · cases d <;> first | (simp [execOp, ho, Instr.typeAssert, run_underlying h1, heq, hz]; done) | exact absurd rfl (hni _)
    · match i, hy with
      | 0, hy => injection hy with hy; subst hy; exact ⟨z, rfl, ofV_rep G z⟩
      | 1, hy => injection hy with hy; subst hy; exact ⟨_, rfl, .v⟩)
end
end Go.Abs
set_option linter.unusedVariables false
namespace Go.Abs
section
variable {P : Program} {N : Nat} {D : List Deferred} {o : Oper} {ops : Array Oper} {cl : List (List Nat)} {Q : AExit → Env → List Item → Prop} {env : Env} {R R' : List Item} {l : List Oper} {K Kp : AV → List Item → Prop}
/-- Boxed for good: what lies there never changes. -/
theorem AOp.boxI {t : TypeId} {x : Operand} {v : AV} {l : List AV} (ho : o.op = .box t x) (hx : ev N env x = some v) (hl : cellsO v = some l) (hk : K (.ip l) R) : AOp P N D o env R K Kp :=
  .acts (v := .any) (R' := []) fun G W a hs => by
    have hr := ev_rep hs hx
    have hc := cellsO_rep hr hl
    obtain ⟨G', m, hE, hO, hp, hsz, hper⟩ := hs.own.newPer (OneMore.alloc W (a.eval x).cells t) l (by rw [cellsO_length hr hl]; exact Nat.le_refl _) (fun j y hy => by
      obtain ⟨c, h1, h2⟩ := hc.2 j y hy
      exact ⟨c, by simpa using h1, h2⟩)
    refine ⟨.pointer (some ⟨W.heap.size, 0, none⟩), W.alloc (.cells (a.eval x).cells t), G', R, .ip l, ?_, hE.sub (fun it hi => by simp [hi]), hO.sub (List.sublist_append_left _ _), .ip fun j y hy => ?_, hk⟩
    · simp [execOp, ho, Instr.box, newVar, newRow]
    · rw [hper, Nat.zero_add]; exact hy
/-- One goal for each effect that may come up now. -/
def Effs (P : Program) (N : Nat) (D : List Deferred) (ops : Array Oper) (cl : List (List Nat)) (Q : AExit → Env → List Item → Prop) (fuel : Nat) (listed : Array Bool) (env : Env) (R : List Item) : List Nat → Prop
  | [] => True
  | j :: js => AOpI P N D ops j env R (fun u R' => DAny P N D ops cl Q fuel (listed.setIfInBounds j true) [] (env.put (dstOf ops j) u) R') (fun x R' => Q (.panic x) (fun _ => none) R') ∧ Effs P N D ops cl Q fuel listed env R js
theorem Effs.mem {fuel : Nat} {listed : Array Bool} : ∀ {js : List Nat}, Effs P N D ops cl Q fuel listed env R js → ∀ j ∈ js, AOpI P N D ops j env R (fun u R' => DAny P N D ops cl Q fuel (listed.setIfInBounds j true) [] (env.put (dstOf ops j) u) R') (fun x R' => Q (.panic x) (fun _ => none) R')
  | _ :: _, h, j, hj => by
    rcases List.mem_cons.1 hj with rfl | hj
    · exact h.1
    · exact h.2.mem j hj
theorem pendOf_nil (j : Nat) : pendOf ops cl j [] = [] := by unfold pendOf; split <;> rfl
theorem DAny.effs (rs : List Nat) {fuel : Nat} {listed : Array Bool} (hr : Region.ready .any ops listed = rs) (hne : rs ≠ []) (h : Effs P N D ops cl Q fuel listed env R rs) : DAny P N D ops cl Q (fuel + 1) listed [] env R := by
  refine DAny.effects rs hr hne fun j hj => (h.mem j hj).mono (fun u R' hd => ?_) (fun _ _ h => h)
  rw [pendOf_nil]
  exact ⟨trivial, hd⟩
theorem Effs.cons (j : Nat) {t : Tmp} {fuel : Nat} {listed : Array Bool} {js : List Nat} (hj : ops[j]? = some o) (hw : Wants N ops o env true) (hd : o.dst = some t)
    (H : AOp P N D o env R (fun u R' => DAny P N D ops cl Q fuel (listed.setIfInBounds j true) [] (env.put (some t) u) R') (fun x R' => Q (.panic x) (fun _ => none) R')) (hjs : Effs P N D ops cl Q fuel listed env R js) : Effs P N D ops cl Q fuel listed env R (j :: js) := by
  have hdj : dstOf ops j = some t := by simp [dstOf, hj, hd]
  exact ⟨.does o hj hw (by rw [hdj]; exact H), hjs⟩
theorem Effs.nil {fuel : Nat} {listed : Array Bool} : Effs P N D ops cl Q fuel listed env R [] := trivial
/-- a post that asks no more where more is known -/
def Closes (Q : AExit → Env → List Item → Prop) : Prop := ∀ e env env' R R', (∀ n v, env' n = some v → env n = some v) → R.Perm R' → Q e env' R' → Q e env R
theorem Sim.perm {G : Gh} {a : Act} {W : World} {env' : Env} (hs : Sim N D G env R a W) (hle : ∀ n v, env' n = some v → env n = some v) (hp : R.Perm R') : Sim N D G env' R' a W :=
  ⟨hs.own.perm hp, fun d v hd hv => hs.env d v hd (hle d v hv), hs.size, hs.defers⟩
theorem Ext.perm {G G' : Gh} {W W' : World} {R1 : List Item} (hp : R.Perm R') (h : Ext G R' W G' R1 W') : Ext G R W G' R1 W' := h.more fun it hi => hp.mem_iff.2 hi
theorem AOp.perm {env' : Env} (hle : ∀ n v, env' n = some v → env n = some v) (hp : R.Perm R') (h : AOp P N D o env' R' K Kp) : AOp P N D o env R K Kp := by
  intro G W a hs next post h1 h2
  exact h G W a (hs.perm hle hp) next post (fun G' R1 c v W' e1 e2 e3 e4 => h1 G' R1 c v W' (e1.perm hp) e2 e3 e4) (fun G' R1 c v W' e1 e2 e3 e4 => h2 G' R1 c v W' (e1.perm hp) e2 e3 e4)
theorem put_le {env' : Env} (hle : ∀ n v, env' n = some v → env n = some v) (d : Option Tmp) (u : AV) : ∀ n v, env'.put d u n = some v → env.put d u n = some v := by
  intro n v hv
  cases d with
  | none => exact hle n v hv
  | some d =>
    simp only [Env.put] at hv ⊢
    split
    · rename_i h; rw [if_pos h] at hv; exact hv
    · rename_i h; rw [if_neg h] at hv; exact hle n v hv
theorem AAny.weaken (hQ : Closes Q) : ∀ (fuel : Nat) (listed : Array Bool) (env env' : Env) (R R' : List Item), (∀ n v, env' n = some v → env n = some v) → R.Perm R' → AAny P N D ops cl Q fuel listed [] env' R' → AAny P N D ops cl Q fuel listed [] env R
  | 0, listed, env, env', R, R', hle, hp, h => ⟨h.1, hQ _ _ _ _ _ hle hp h.2⟩
  | fuel + 1, listed, env, env', R, R', hle, hp, h => by
    refine ⟨fun h0 => hQ _ _ _ _ _ hle hp (h.1 h0), fun j hj => ?_⟩
    have h1 := h.2 j hj
    cases h1 with
    | does o ho hw hop =>
      refine .does o ho (hw.more hle) ?_
      refine AOp.perm hle hp (hop.mono ?_ (fun _ _ h => h))
      rintro v R1 ⟨k1, k2⟩
      rw [pendOf_nil] at k2 ⊢
      exact ⟨(fun _ hpn => absurd hpn List.not_mem_nil), AAny.weaken hQ fuel _ _ _ R1 R1 (put_le hle _ _) (List.Perm.refl _) k2⟩
    | passed o ho hw hk =>
      refine .passed o ho (hw.more hle) ?_
      obtain ⟨k1, k2⟩ := hk
      rw [pendOf_nil] at k2 ⊢
      exact ⟨(fun _ hpn => absurd hpn List.not_mem_nil), AAny.weaken hQ fuel _ _ _ R R' (put_le hle _ _) hp k2⟩
theorem DAny.meet {α : Type} (fuel' : Nat) (listed' : Array Bool) (live : α → List (Nat × AV)) (R1 : α → List Item) {fuel : Nat} {listed : Array Bool} {pd : List (Nat × AV)}
    (h : (∀ a, DAny P N D ops cl Q fuel' listed' [] (envOf (live a)) (R1 a)) → DAny P N D ops cl Q fuel listed pd env R) (h2 : ∀ a, DAny P N D ops cl Q fuel' listed' [] (envOf (live a)) (R1 a)) : DAny P N D ops cl Q fuel listed pd env R := h h2
theorem DAny.at_ (hQ : Closes Q) {live : List (Nat × AV)} {R1 : List Item} {fuel : Nat} {listed listed' : Array Bool} (H : DAny P N D ops cl Q fuel listed' [] (envOf live) R1) (hl : listed = listed') (hv : LiveIn env live) (hp : R.Perm R1) : DAny P N D ops cl Q fuel listed [] env R := by
  subst hl
  intro hok hcl hpl hpd
  exact AAny.weaken hQ _ _ _ _ _ _ hv.le hp (H hok hcl (fun p hp => by cases hp) (fun p hp => by cases hp))
theorem ZCode.closes {fn : Func} {y : Code} {Q0 : AOut → List Item → Prop} : Closes (fun e env R => e = .normal ∧ ZCode P N fn y env R Q0) := by
  rintro e env env' R R' hle hp ⟨h1, h2⟩
  refine ⟨h1, fun G W a hs => ?_⟩
  exact Go.wp_mono (h2 G W a (hs.perm hle hp)) fun e a w hq => bodyPostD_trans ((Ext.refl G R W).sub fun it hi => hp.mem_iff.2 hi) hq
end
end Go.Abs
set_option linter.unusedVariables false
namespace Go.Proofs.Ytaadamobapnfbaa
open Go Go.Abs
def tbl : List (Nat × TD) := [
  (2, ⟨1, 8, [.int .i64 (0)], (.int .i64)⟩),
  (3, ⟨1, 8, [.int .i64 (0)], (.int .i64)⟩),
  (4, ⟨1, 1, [.bool false], .bl⟩),
  (5, ⟨1, 1, [.int .u8 (0)], (.int .u8)⟩),
  (9, ⟨1, 16, [.string ⟨#[]⟩], .str⟩),
  (23, ⟨1, 24, [.slice none 0 0], (.sli 61)⟩),
  (24, ⟨1, 24, [.slice none 0 0], (.sli 53)⟩),
  (25, ⟨1, 24, [.slice none 0 0], (.sli 41)⟩),
  (26, ⟨3, 72, [.slice none 0 0, .slice none 0 0, .slice none 0 0], (.st [(0, 1), (1, 1), (2, 1)])⟩),
  (27, ⟨3, 72, [.slice none 0 0, .slice none 0 0, .slice none 0 0], (.st [(0, 1), (1, 1), (2, 1)])⟩),
  (30, ⟨1, 24, [.slice none 0 0], (.sli 3)⟩),
  (31, ⟨1, 24, [.slice none 0 0], (.sli 30)⟩),
  (32, ⟨2, 48, [.slice none 0 0, .slice none 0 0], (.st [(0, 1), (1, 1)])⟩),
  (33, ⟨2, 48, [.slice none 0 0, .slice none 0 0], (.st [(0, 1), (1, 1)])⟩),
  (37, ⟨2, 16, [.int .i64 (0), .int .i64 (0)], (.st [(0, 1), (1, 1)])⟩),
  (38, ⟨2, 16, [.int .i64 (0), .int .i64 (0)], (.st [(0, 1), (1, 1)])⟩),
  (39, ⟨1, 24, [.slice none 0 0], (.sli 9)⟩),
  (40, ⟨6, 88, [.string ⟨#[]⟩, .int .i64 (0), .int .i64 (0), .slice none 0 0, .int .i64 (0), .slice none 0 0], (.st [(0, 1), (1, 2), (3, 1), (4, 1), (5, 1)])⟩),
  (41, ⟨6, 88, [.string ⟨#[]⟩, .int .i64 (0), .int .i64 (0), .slice none 0 0, .int .i64 (0), .slice none 0 0], (.st [(0, 1), (1, 2), (3, 1), (4, 1), (5, 1)])⟩),
  (43, ⟨5, 120, [.slice none 0 0, .slice none 0 0, .slice none 0 0, .slice none 0 0, .slice none 0 0], (.st [(0, 1), (1, 1), (2, 1), (3, 1), (4, 1)])⟩),
  (44, ⟨5, 120, [.slice none 0 0, .slice none 0 0, .slice none 0 0, .slice none 0 0, .slice none 0 0], (.st [(0, 1), (1, 1), (2, 1), (3, 1), (4, 1)])⟩),
  (48, ⟨1, 2, [.int .u16 (0)], (.int .u16)⟩),
  (49, ⟨3, 6, [.int .u16 (0), .int .u16 (0), .int .u16 (0)], (.ar 3 48)⟩),
  (52, ⟨9, 112, [.int .i64 (0), .int .i64 (0), .int .i64 (0), .string ⟨#[]⟩, .int .i64 (0), .int .i64 (0), .int .i64 (0), .slice none 0 0, .slice none 0 0], (.st [(0, 1), (1, 2), (3, 1), (4, 1), (5, 1), (6, 1), (7, 1), (8, 1)])⟩),
  (53, ⟨9, 112, [.int .i64 (0), .int .i64 (0), .int .i64 (0), .string ⟨#[]⟩, .int .i64 (0), .int .i64 (0), .int .i64 (0), .slice none 0 0, .slice none 0 0], (.st [(0, 1), (1, 2), (3, 1), (4, 1), (5, 1), (6, 1), (7, 1), (8, 1)])⟩),
  (56, ⟨5, 120, [.slice none 0 0, .slice none 0 0, .slice none 0 0, .slice none 0 0, .slice none 0 0], (.st [(0, 1), (1, 1), (2, 1), (3, 1), (4, 1)])⟩),
  (57, ⟨1, 8, [.int .i64 (0)], (.int .i64)⟩),
  (60, ⟨9, 104, [.int .i64 (0), .int .i64 (0), .int .i64 (0), .int .i64 (0), .string ⟨#[]⟩, .string ⟨#[]⟩, .int .i64 (0), .int .i64 (0), .slice none 0 0], (.st [(0, 1), (1, 2), (3, 1), (4, 1), (5, 1), (6, 1), (7, 1), (8, 1)])⟩),
  (61, ⟨9, 104, [.int .i64 (0), .int .i64 (0), .int .i64 (0), .int .i64 (0), .string ⟨#[]⟩, .string ⟨#[]⟩, .int .i64 (0), .int .i64 (0), .slice none 0 0], (.st [(0, 1), (1, 2), (3, 1), (4, 1), (5, 1), (6, 1), (7, 1), (8, 1)])⟩),
  (62, ⟨1, 24, [.slice none 0 0], (.sli 5)⟩),
  (64, ⟨1, 24, [.slice none 0 0], (.sli 4)⟩),
  (69, ⟨1, 24, [.slice none 0 0], (.sli 141)⟩),
  (70, ⟨6, 144, [.slice none 0 0, .slice none 0 0, .slice none 0 0, .slice none 0 0, .slice none 0 0, .slice none 0 0], (.st [(0, 3), (3, 2), (5, 1)])⟩),
  (71, ⟨6, 144, [.slice none 0 0, .slice none 0 0, .slice none 0 0, .slice none 0 0, .slice none 0 0, .slice none 0 0], (.st [(0, 3), (3, 2), (5, 1)])⟩),
  (74, ⟨1, 24, [.slice none 0 0], (.sli 109)⟩),
  (77, ⟨1, 24, [.slice none 0 0], (.sli 111)⟩),
  (78, ⟨14, 256, [.slice none 0 0, .slice none 0 0, .slice none 0 0, .slice none 0 0, .slice none 0 0, .slice none 0 0, .slice none 0 0, .slice none 0 0, .int .i64 (0), .slice none 0 0, .int .i64 (0), .int .i64 (0), .int .i64 (0), .int .i64 (0)], (.st [(0, 3), (3, 5), (8, 1), (9, 1), (10, 1), (11, 1), (12, 1), (13, 1)])⟩),
  (79, ⟨14, 256, [.slice none 0 0, .slice none 0 0, .slice none 0 0, .slice none 0 0, .slice none 0 0, .slice none 0 0, .slice none 0 0, .slice none 0 0, .int .i64 (0), .slice none 0 0, .int .i64 (0), .int .i64 (0), .int .i64 (0), .int .i64 (0)], (.st [(0, 3), (3, 5), (8, 1), (9, 1), (10, 1), (11, 1), (12, 1), (13, 1)])⟩),
  (85, ⟨1, 8, [.map none], (.mp 3 4)⟩),
  (87, ⟨1, 24, [.slice none 0 0], (.sli 93)⟩),
  (90, ⟨8, 136, [.string ⟨#[]⟩, .slice none 0 0, .int .i64 (0), .slice none 0 0, .slice none 0 0, .slice none 0 0, .int .i64 (0), .int .i64 (0)], (.st [(0, 1), (1, 1), (2, 1), (3, 3), (6, 1), (7, 1)])⟩),
  (91, ⟨8, 136, [.string ⟨#[]⟩, .slice none 0 0, .int .i64 (0), .slice none 0 0, .slice none 0 0, .slice none 0 0, .int .i64 (0), .int .i64 (0)], (.st [(0, 1), (1, 1), (2, 1), (3, 3), (6, 1), (7, 1)])⟩),
  (92, ⟨3, 24, [.int .i64 (0), .int .i64 (0), .int .i64 (0)], (.st [(0, 1), (1, 2)])⟩),
  (93, ⟨3, 24, [.int .i64 (0), .int .i64 (0), .int .i64 (0)], (.st [(0, 1), (1, 2)])⟩),
  (96, ⟨1, 24, [.slice none 0 0], (.sli 131)⟩),
  (97, ⟨11, 232, [.slice none 0 0, .slice none 0 0, .slice none 0 0, .slice none 0 0, .slice none 0 0, .slice none 0 0, .slice none 0 0, .slice none 0 0, .int .i64 (0), .slice none 0 0, .int .i64 (0)], (.st [(0, 3), (3, 5), (8, 1), (9, 1), (10, 1)])⟩),
  (98, ⟨11, 232, [.slice none 0 0, .slice none 0 0, .slice none 0 0, .slice none 0 0, .slice none 0 0, .slice none 0 0, .slice none 0 0, .slice none 0 0, .int .i64 (0), .slice none 0 0, .int .i64 (0)], (.st [(0, 3), (3, 5), (8, 1), (9, 1), (10, 1)])⟩),
  (99, ⟨2, 16, [.int .i64 (0), .int .i64 (0)], (.st [(0, 1), (1, 1)])⟩),
  (100, ⟨2, 16, [.int .i64 (0), .int .i64 (0)], (.st [(0, 1), (1, 1)])⟩),
  (108, ⟨4, 48, [.slice none 0 0, .int .i64 (0), .int .i64 (0), .int .i64 (0)], (.st [(0, 1), (1, 1), (2, 1), (3, 1)])⟩),
  (109, ⟨4, 48, [.slice none 0 0, .int .i64 (0), .int .i64 (0), .int .i64 (0)], (.st [(0, 1), (1, 1), (2, 1), (3, 1)])⟩),
  (110, ⟨3, 32, [.string ⟨#[]⟩, .int .i64 (0), .int .i64 (0)], (.st [(0, 1), (1, 1), (2, 1)])⟩),
  (111, ⟨3, 32, [.string ⟨#[]⟩, .int .i64 (0), .int .i64 (0)], (.st [(0, 1), (1, 1), (2, 1)])⟩),
  (131, ⟨1, 24, [.slice none 0 0], (.sli 133)⟩),
  (132, ⟨2, 24, [.string ⟨#[]⟩, .int .i64 (0)], (.st [(0, 1), (1, 1)])⟩),
  (133, ⟨2, 24, [.string ⟨#[]⟩, .int .i64 (0)], (.st [(0, 1), (1, 1)])⟩),
  (140, ⟨2, 16, [.int .i64 (0), .int .i64 (0)], (.st [(0, 1), (1, 1)])⟩),
  (141, ⟨2, 16, [.int .i64 (0), .int .i64 (0)], (.st [(0, 1), (1, 1)])⟩),
  (68, ⟨1, 8, [.pointer none], (.ptr 71)⟩),
  (95, ⟨1, 8, [.pointer none], (.ptr 98)⟩),
  (20, ⟨1, 16, [.nilIface], (.ifc 0)⟩)]
def lookT : Nat → List (Nat × TD) → TD
  | _, [] => ⟨0, 0, [], .sc⟩
  | t, (k, d) :: l => match Nat.beq k t with
    | true => d
    | false => lookT t l
def TT (t : Nat) : TD := lookT t tbl
theorem tok2 : TOK Try.prog 2 (TT 2) := ⟨by kernel_rfl, by kernel_rfl⟩
theorem tok3 : TOK Try.prog 3 (TT 3) := ⟨by kernel_rfl, by kernel_rfl⟩
theorem tok4 : TOK Try.prog 4 (TT 4) := ⟨by kernel_rfl, by kernel_rfl⟩
theorem tok5 : TOK Try.prog 5 (TT 5) := ⟨by kernel_rfl, by kernel_rfl⟩
theorem tok9 : TOK Try.prog 9 (TT 9) := ⟨by kernel_rfl, by kernel_rfl⟩
theorem tok23 : TOK Try.prog 23 (TT 23) := ⟨by kernel_rfl, by kernel_rfl⟩
theorem tok24 : TOK Try.prog 24 (TT 24) := ⟨by kernel_rfl, by kernel_rfl⟩
theorem tok25 : TOK Try.prog 25 (TT 25) := ⟨by kernel_rfl, by kernel_rfl⟩
theorem tok26 : TOK Try.prog 26 (TT 26) := ⟨by kernel_rfl, by kernel_rfl⟩
theorem tok27 : TOK Try.prog 27 (TT 27) := ⟨by kernel_rfl, by kernel_rfl⟩
theorem tok30 : TOK Try.prog 30 (TT 30) := ⟨by kernel_rfl, by kernel_rfl⟩
theorem tok31 : TOK Try.prog 31 (TT 31) := ⟨by kernel_rfl, by kernel_rfl⟩
theorem tok32 : TOK Try.prog 32 (TT 32) := ⟨by kernel_rfl, by kernel_rfl⟩
theorem tok33 : TOK Try.prog 33 (TT 33) := ⟨by kernel_rfl, by kernel_rfl⟩
theorem tok37 : TOK Try.prog 37 (TT 37) := ⟨by kernel_rfl, by kernel_rfl⟩
theorem tok38 : TOK Try.prog 38 (TT 38) := ⟨by kernel_rfl, by kernel_rfl⟩
theorem tok39 : TOK Try.prog 39 (TT 39) := ⟨by kernel_rfl, by kernel_rfl⟩
theorem tok40 : TOK Try.prog 40 (TT 40) := ⟨by kernel_rfl, by kernel_rfl⟩
theorem tok41 : TOK Try.prog 41 (TT 41) := ⟨by kernel_rfl, by kernel_rfl⟩
theorem tok43 : TOK Try.prog 43 (TT 43) := ⟨by kernel_rfl, by kernel_rfl⟩
theorem tok44 : TOK Try.prog 44 (TT 44) := ⟨by kernel_rfl, by kernel_rfl⟩
theorem tok48 : TOK Try.prog 48 (TT 48) := ⟨by kernel_rfl, by kernel_rfl⟩
theorem tok49 : TOK Try.prog 49 (TT 49) := ⟨by kernel_rfl, by kernel_rfl⟩
theorem tok52 : TOK Try.prog 52 (TT 52) := ⟨by kernel_rfl, by kernel_rfl⟩
theorem tok53 : TOK Try.prog 53 (TT 53) := ⟨by kernel_rfl, by kernel_rfl⟩
theorem tok56 : TOK Try.prog 56 (TT 56) := ⟨by kernel_rfl, by kernel_rfl⟩
theorem tok57 : TOK Try.prog 57 (TT 57) := ⟨by kernel_rfl, by kernel_rfl⟩
theorem tok60 : TOK Try.prog 60 (TT 60) := ⟨by kernel_rfl, by kernel_rfl⟩
theorem tok61 : TOK Try.prog 61 (TT 61) := ⟨by kernel_rfl, by kernel_rfl⟩
theorem tok62 : TOK Try.prog 62 (TT 62) := ⟨by kernel_rfl, by kernel_rfl⟩
theorem tok64 : TOK Try.prog 64 (TT 64) := ⟨by kernel_rfl, by kernel_rfl⟩
theorem tok69 : TOK Try.prog 69 (TT 69) := ⟨by kernel_rfl, by kernel_rfl⟩
theorem tok70 : TOK Try.prog 70 (TT 70) := ⟨by kernel_rfl, by kernel_rfl⟩
theorem tok71 : TOK Try.prog 71 (TT 71) := ⟨by kernel_rfl, by kernel_rfl⟩
theorem tok74 : TOK Try.prog 74 (TT 74) := ⟨by kernel_rfl, by kernel_rfl⟩
theorem tok77 : TOK Try.prog 77 (TT 77) := ⟨by kernel_rfl, by kernel_rfl⟩
theorem tok78 : TOK Try.prog 78 (TT 78) := ⟨by kernel_rfl, by kernel_rfl⟩
theorem tok79 : TOK Try.prog 79 (TT 79) := ⟨by kernel_rfl, by kernel_rfl⟩
theorem tok85 : TOK Try.prog 85 (TT 85) := ⟨by kernel_rfl, by kernel_rfl⟩
theorem tok87 : TOK Try.prog 87 (TT 87) := ⟨by kernel_rfl, by kernel_rfl⟩
theorem tok90 : TOK Try.prog 90 (TT 90) := ⟨by kernel_rfl, by kernel_rfl⟩
theorem tok91 : TOK Try.prog 91 (TT 91) := ⟨by kernel_rfl, by kernel_rfl⟩
theorem tok92 : TOK Try.prog 92 (TT 92) := ⟨by kernel_rfl, by kernel_rfl⟩
theorem tok93 : TOK Try.prog 93 (TT 93) := ⟨by kernel_rfl, by kernel_rfl⟩
theorem tok96 : TOK Try.prog 96 (TT 96) := ⟨by kernel_rfl, by kernel_rfl⟩
theorem tok97 : TOK Try.prog 97 (TT 97) := ⟨by kernel_rfl, by kernel_rfl⟩
theorem tok98 : TOK Try.prog 98 (TT 98) := ⟨by kernel_rfl, by kernel_rfl⟩
theorem tok99 : TOK Try.prog 99 (TT 99) := ⟨by kernel_rfl, by kernel_rfl⟩
theorem tok100 : TOK Try.prog 100 (TT 100) := ⟨by kernel_rfl, by kernel_rfl⟩
theorem tok108 : TOK Try.prog 108 (TT 108) := ⟨by kernel_rfl, by kernel_rfl⟩
theorem tok109 : TOK Try.prog 109 (TT 109) := ⟨by kernel_rfl, by kernel_rfl⟩
theorem tok110 : TOK Try.prog 110 (TT 110) := ⟨by kernel_rfl, by kernel_rfl⟩
theorem tok111 : TOK Try.prog 111 (TT 111) := ⟨by kernel_rfl, by kernel_rfl⟩
theorem tok131 : TOK Try.prog 131 (TT 131) := ⟨by kernel_rfl, by kernel_rfl⟩
theorem tok132 : TOK Try.prog 132 (TT 132) := ⟨by kernel_rfl, by kernel_rfl⟩
theorem tok133 : TOK Try.prog 133 (TT 133) := ⟨by kernel_rfl, by kernel_rfl⟩
theorem tok140 : TOK Try.prog 140 (TT 140) := ⟨by kernel_rfl, by kernel_rfl⟩
theorem tok141 : TOK Try.prog 141 (TT 141) := ⟨by kernel_rfl, by kernel_rfl⟩
theorem tok68 : TOK Try.prog 68 (TT 68) := ⟨by kernel_rfl, by kernel_rfl⟩
theorem tok95 : TOK Try.prog 95 (TT 95) := ⟨by kernel_rfl, by kernel_rfl⟩
theorem tok20 : TOK Try.prog 20 (TT 20) := ⟨by kernel_rfl, by kernel_rfl⟩
theorem tok_all : ∀ p ∈ tbl, TOK Try.prog p.1 (TT p.1) := by
  simp only [tbl, List.forall_mem_cons]
  exact ⟨tok2, tok3, tok4, tok5, tok9, tok23, tok24, tok25, tok26, tok27, tok30, tok31, tok32, tok33, tok37, tok38, tok39, tok40, tok41, tok43, tok44, tok48, tok49, tok52, tok53, tok56, tok57, tok60, tok61, tok62, tok64, tok69, tok70, tok71, tok74, tok77, tok78, tok79, tok85, tok87, tok90, tok91, tok92, tok93, tok96, tok97, tok98, tok99, tok100, tok108, tok109, tok110, tok111, tok131, tok132, tok133, tok140, tok141, tok68, tok95, tok20, by simp⟩
def inT : Nat → List (Nat × TD) → Bool
  | _, [] => false
  | t, (k, d) :: l => match Nat.beq k t with
    | true => true
    | false => inT t l
theorem inT_mem : ∀ (t : Nat) (l : List (Nat × TD)), inT t l = true → ∃ d, (t, d) ∈ l
  | _, [], h => by simp [inT] at h
  | t, (k, d) :: l, h => by
    simp only [inT] at h
    split at h
    · rename_i hk; have := Nat.eq_of_beq_eq_true hk; subst this; exact ⟨d, by simp⟩
    · obtain ⟨d', hd⟩ := inT_mem t l h; exact ⟨d', by simp [hd]⟩
/-- Each type of the table is the program's. -/
theorem tok (t : Nat) (h : inT t tbl = true) : TOK Try.prog t (TT t) := by
  obtain ⟨d, hd⟩ := inT_mem t tbl h
  exact tok_all (t, d) hd
theorem mixed : Try.prog.follows .mixedOrders = true := by kernel_rfl
end Go.Proofs.Ytaadamobapnfbaa
set_option linter.unusedVariables false
namespace Go.Proofs.Ytaadamobapnfbaa
open Go Go.Abs
def vi (n : Int) : AV := .v (.int .i64 n)
def vs (s : ByteArray) : AV := .v (.string s)
def ints (l : List Int) : List (List AV) := l.map fun n => [vi n]
def strs (l : List ByteArray) : List (List AV) := l.map fun s => [vs s]
structure Tok where
  kind : Int
  fr : Int
  to : Int
  deriving Inhabited
def Tok.cells (t : Tok) : List AV := [vi t.kind, vi t.fr, vi t.to]
structure Ex where
  kind : Int
  fr : Int := 0
  to : Int := 0
  num : Int := 0
  name : ByteArray := ⟨#[]⟩
  op : ByteArray := ⟨#[]⟩
  a : Int := 0
  b : Int := 0
  list : List Int := []
  deriving Inhabited
def Ex.cells (x : Ex) : List AV := [vi x.kind, vi x.fr, vi x.to, vi x.num, vs x.name, vs x.op, vi x.a, vi x.b, .il 1 none (ints x.list)]
structure St where
  kind : Int
  fr : Int := 0
  to : Int := 0
  name : ByteArray := ⟨#[]⟩
  num : Int := 0
  a : Int := 0
  b : Int := 0
  thn : List Int := []
  els : List Int := []
  deriving Inhabited
def St.cells (x : St) : List AV := [vi x.kind, vi x.fr, vi x.to, vs x.name, vi x.num, vi x.a, vi x.b, .il 1 none (ints x.thn), .il 1 none (ints x.els)]
structure Fu where
  name : ByteArray
  fr : Int := 0
  to : Int := 0
  params : List ByteArray := []
  type : Int
  body : List Int := []
  deriving Inhabited
def Fu.cells (x : Fu) : List AV := [vs x.name, vi x.fr, vi x.to, .il 1 none (strs x.params), vi x.type, .il 1 none (ints x.body)]
/-- The parser's state. -/
structure PS where
  text : ByteArray
  toks : List Tok
  at_ : Int := 0
  exprs : List Ex := []
  stmts : List St := []
  funcs : List Fu := []
  code : Int := 0
  where_ : Int := 0
  deriving Inhabited
def PS.cells (p : PS) (te ts tf : Nat) : List AV :=
  [vs p.text, .il 3 none (p.toks.map Tok.cells), vi p.at_, .il 9 (some te) (p.exprs.map Ex.cells), .il 9 (some ts) (p.stmts.map St.cells), .il 6 (some tf) (p.funcs.map Fu.cells), vi p.code, vi p.where_]

/-! What calls hand back. -/
inductive RP (p : PS) : AOut → List Abs.Item → Prop
  | mk (te ts tf : Nat) : RP p (.ret (.agg (p.cells te ts tf))) [.tk te, .tk ts, .tk tf]
inductive RPV (p : PS) (v : AV) : AOut → List Abs.Item → Prop
  | mk (te ts tf : Nat) : RPV p v (.ret (.tup [.agg (p.cells te ts tf), v])) [.tk te, .tk ts, .tk tf]
inductive RV (v : AV) (R : List Abs.Item) : AOut → List Abs.Item → Prop
  | mk : RV v R (.ret v) R

theorem RPV.of {p : PS} {v r : AV} {R : List Abs.Item} {te ts tf : Nat} (h1 : r = .tup [.agg (p.cells te ts tf), v]) (h2 : R = [.tk te, .tk ts, .tk tf]) : RPV p v (.ret r) R := by
  subst h1; subst h2; exact .mk te ts tf
/-! The parser on data. -/
def PS.tok (p : PS) : Tok := p.toks.getD p.at_.toNat default
def PS.here (p : PS) : Int := p.tok.fr
def PS.word (p : PS) : ByteArray := p.text.extract p.tok.fr.toNat p.tok.to.toNat
def PS.fail (p : PS) (code : Int) : PS := if p.code = 0 then { p with code := code, where_ := p.here } else p
def PS.is (p : PS) (s : ByteArray) : Bool := p.code == 0 && p.tok.kind != 0 && p.word.data.toList == s.data.toList
def PS.want (p : PS) (s : ByteArray) : PS := if p.is s then { p with at_ := p.at_ + 1 } else p.fail 3
def PS.kindOf (p : PS) (k : Int) : PS × ByteArray := if p.code ≠ 0 ∨ p.tok.kind ≠ k then (p.fail 3, ⟨#[]⟩) else ({ p with at_ := p.at_ + 1 }, p.word)
def PS.deep (p : PS) (d : Int) : PS := if d > 64 then p.fail 4 else p
def numL : List UInt8 → Int → Int
  | [], n => n
  | b :: l, n => numL l (n * 10 + ((b.toNat : Int) - 48))
def number (s : ByteArray) : Int := numL s.data.toList 0
def PS.lastTo (p : PS) : Int := (p.toks.getD (p.at_ - 1).toNat default).to
def PS.put (p : PS) (fr : Int) (x : Ex) : PS × Int := if p.code ≠ 0 then (p, 0) else ({ p with exprs := p.exprs ++ [{ x with fr := fr, to := p.lastTo }] }, p.exprs.length)
def PS.many (p : PS) : PS := if p.code = 0 ∧ (1000 : Int) ≤ p.stmts.length then p.fail 5 else p
def PS.add (p : PS) (fr : Int) (s : St) : PS × Int :=
  let q := p.many
  if q.code ≠ 0 then (q, 0) else ({ q with stmts := q.stmts ++ [{ s with fr := fr, to := q.lastTo }] }, q.stmts.length)
def signs (level : Int) : List ByteArray :=
  if level = 0 then [⟨#[124, 124]⟩] else if level = 1 then [⟨#[38, 38]⟩]
  else if level = 2 then [⟨#[61, 61]⟩, ⟨#[33, 61]⟩, ⟨#[60]⟩, ⟨#[60, 61]⟩, ⟨#[62]⟩, ⟨#[62, 61]⟩] else if level = 3 then [⟨#[43]⟩, ⟨#[45]⟩] else [⟨#[42]⟩, ⟨#[47]⟩, ⟨#[37]⟩]
def signIn (p : PS) : List ByteArray → ByteArray
  | [] => ⟨#[]⟩
  | s :: l => if p.is s then s else signIn p l
def PS.sign (p : PS) (level : Int) : ByteArray := signIn p (signs level)

def digs (l : List UInt8) : Prop := ∀ b ∈ l, 48 ≤ b.toNat ∧ b.toNat ≤ 57
/-- the facts that the walks need -/
structure PS.ok (p : PS) : Prop where
  at0 : 0 ≤ p.at_
  at1 : p.at_ < p.toks.length
  spans : ∀ t ∈ p.toks, 0 ≤ t.fr ∧ t.fr ≤ t.to ∧ t.to ≤ p.text.size
  small : p.toks.length ≤ 1048576
  ex : (p.exprs.length : Int) ≤ p.at_
  st : (p.stmts.length : Int) ≤ p.at_
  fu : (p.funcs.length : Int) ≤ p.at_
  last : ∀ i : Nat, i + 1 = p.toks.length → (p.toks.getD i default).kind = 0
  nums : ∀ t ∈ p.toks, t.kind = 2 → digs (p.text.extract t.fr.toNat t.to.toNat).data.toList ∧ (p.text.extract t.fr.toNat t.to.toNat).size ≤ 18
theorem PS.ok.mem {p : PS} (h : p.ok) : p.tok ∈ p.toks := by
  have h1 : p.at_.toNat < p.toks.length := by have := h.at0; have := h.at1; omega
  simp only [PS.tok, List.getD_eq_getElem?_getD, List.getElem?_eq_getElem h1, Option.getD_some, List.getElem_mem]
theorem PS.ok.next {p : PS} (h : p.ok) (hk : p.tok.kind ≠ 0) : p.at_ + 1 < p.toks.length := by
  have h0 := h.at0
  have h1 := h.at1
  have := h.last p.at_.toNat
  by_cases he : p.at_.toNat + 1 = p.toks.length
  · exact absurd (this he) hk
  · omega
theorem PS.ok.tokAt {p : PS} (h : p.ok) : (p.toks.map Tok.cells)[p.at_.toNat]? = some p.tok.cells := by
  have h1 : p.at_.toNat < p.toks.length := by have := h.at0; have := h.at1; omega
  rw [List.getElem?_map, List.getElem?_eq_getElem h1]
  simp only [PS.tok, List.getD_eq_getElem?_getD, List.getElem?_eq_getElem h1, Option.map_some, Option.getD_some]
theorem PS.ok.span {p : PS} (h : p.ok) : 0 ≤ p.tok.fr ∧ p.tok.fr ≤ p.tok.to ∧ p.tok.to ≤ p.text.size := by
  have h1 : p.at_.toNat < p.toks.length := by have := h.at0; have := h.at1; omega
  refine h.spans _ ?_
  simp only [PS.tok, List.getD_eq_getElem?_getD, List.getElem?_eq_getElem h1, Option.getD_some, List.getElem_mem]
theorem PS.ok.lastAt {p : PS} (h : p.ok) (h1 : 1 ≤ p.at_) : (p.toks.map Tok.cells)[(p.at_ - 1).toNat]? = some (Tok.cells (p.toks.getD (p.at_ - 1).toNat default)) := by
  have h1 : (p.at_ - 1).toNat < p.toks.length := by have := h.at0; have := h.at1; omega
  rw [List.getElem?_map, List.getElem?_eq_getElem h1]
  simp only [List.getD_eq_getElem?_getD, List.getElem?_eq_getElem h1, Option.map_some, Option.getD_some]
end Go.Proofs.Ytaadamobapnfbaa
set_option linter.unusedVariables false
set_option maxRecDepth 100000
namespace Go.Proofs.Ytaadamobapnfbaa
open Go Go.Abs
theorem here_ok (p : PS) (h : p.ok) (te ts tf : Nat) : ACalls Try.prog 54 [.agg (p.cells te ts tf)] [] (RV (vi p.here) []) := by
  have hrow := h.tokAt
  have h0 := h.at0
  refine ACalls.of_code (c := _) Try.func54 rfl Try.ntmps54 (Nat.le_of_ble_eq_true rfl) ?_
  refine ACode.seq (ACode.region ?_)
  refine ASeq.op rfl rfl (AOp.boxP rfl rfl rfl (fun _ => rfl) (fun _ => ?_))
  refine ASeq.q rfl rfl (QOp.assign rfl rfl) ?_
  refine ASeq.nil ?_
  refine ACode.seq (ACode.region ?_)
  refine ASeq.q rfl rfl (QOp.fieldM rfl rfl (tok _ rfl) rfl rfl (by decide) rfl) ?_
  refine ASeq.q rfl rfl (QOp.loadM 0 rfl rfl rfl (tok _ rfl) rfl) ?_
  refine ASeq.q rfl rfl (QOp.fieldM rfl rfl (tok _ rfl) rfl rfl (by decide) rfl) ?_
  refine ASeq.q rfl rfl (QOp.loadM 0 rfl rfl rfl (tok _ rfl) rfl) ?_
  refine ASeq.q rfl rfl (QOp.indexI rfl rfl rfl (tok _ rfl) rfl (tok _ rfl) (by omega) (by assumption)) ?_
  refine ASeq.q rfl rfl (QOp.fieldI rfl rfl (tok _ rfl) rfl rfl (by decide) rfl) ?_
  refine ASeq.q rfl rfl (QOp.fieldI rfl rfl (tok _ rfl) rfl rfl (by decide) rfl) ?_
  refine ASeq.q rfl rfl (QOp.loadI rfl rfl (tok _ rfl) rfl) ?_
  refine ASeq.q rfl rfl (QOp.assign rfl rfl) ?_
  refine ASeq.nil ?_
  refine ACode.ret ?_
  exact bodyQ_ret 0 (.tmp rfl .nil) rfl .mk
theorem word_ok (p : PS) (h : p.ok) (te ts tf : Nat) : ACalls Try.prog 78 [.agg (p.cells te ts tf)] [] (RV (vs p.word) []) := by
  have hrow := h.tokAt
  have h0 := h.at0
  have hs := h.span
  refine ACalls.of_code (c := _) Try.func78 rfl Try.ntmps78 (Nat.le_of_ble_eq_true rfl) ?_
  refine ACode.seq (ACode.region ?_)
  refine ASeq.op rfl rfl (AOp.boxP rfl rfl rfl (fun _ => rfl) (fun _ => ?_))
  refine ASeq.q rfl rfl (QOp.assign rfl rfl) ?_
  refine ASeq.nil ?_
  refine ACode.seq (ACode.region ?_)
  refine ASeq.q rfl rfl (QOp.fieldM rfl rfl (tok _ rfl) rfl rfl (by decide) rfl) ?_
  refine ASeq.q rfl rfl (QOp.loadM 0 rfl rfl rfl (tok _ rfl) rfl) ?_
  refine ASeq.q rfl rfl (QOp.fieldM rfl rfl (tok _ rfl) rfl rfl (by decide) rfl) ?_
  refine ASeq.q rfl rfl (QOp.loadM 0 rfl rfl rfl (tok _ rfl) rfl) ?_
  refine ASeq.q rfl rfl (QOp.indexI rfl rfl rfl (tok _ rfl) rfl (tok _ rfl) (by omega) (by assumption)) ?_
  refine ASeq.q rfl rfl (QOp.fieldI rfl rfl (tok _ rfl) rfl rfl (by decide) rfl) ?_
  refine ASeq.q rfl rfl (QOp.loadI rfl rfl (tok _ rfl) rfl) ?_
  refine ASeq.op rfl rfl (AOp.allocP rfl (tok _ rfl) rfl rfl (fun _ => rfl) (fun _ => ?_))
  refine ASeq.op0 rfl rfl (AOp.storeP 1 rfl rfl rfl rfl (tok _ rfl) rfl rfl rfl rfl ?_)
  refine ASeq.nil ?_
  refine ACode.seq (ACode.region ?_)
  refine ASeq.q rfl rfl (QOp.fieldM rfl rfl (tok _ rfl) rfl rfl (by decide) rfl) ?_
  refine ASeq.q rfl rfl (QOp.loadM 0 rfl rfl rfl (tok _ rfl) rfl) ?_
  refine ASeq.q rfl rfl (QOp.fieldM rfl rfl (tok _ rfl) rfl rfl (by decide) rfl) ?_
  refine ASeq.q rfl rfl (QOp.loadM 1 rfl rfl rfl (tok _ rfl) rfl) ?_
  refine ASeq.q rfl rfl (QOp.fieldM rfl rfl (tok _ rfl) rfl rfl (by decide) rfl) ?_
  refine ASeq.q rfl rfl (QOp.loadM 1 rfl rfl rfl (tok _ rfl) rfl) ?_
  refine ASeq.q rfl rfl (QOp.cutS rfl rfl (tok _ rfl) rfl rfl rfl hs.1 hs.2.1 hs.2.2) ?_
  refine ASeq.q rfl rfl (QOp.assign rfl rfl) ?_
  refine ASeq.nil ?_
  refine ACode.ret ?_
  exact bodyQ_ret 0 (.tmp rfl .nil) rfl .mk
theorem fail_ok (p : PS) (h : p.ok) (code : Int) (te ts tf : Nat) : ACalls Try.prog 56 [.agg (p.cells te ts tf), vi code] [.tk te, .tk ts, .tk tf] (RP (p.fail code)) := by
  refine ACalls.of_code (c := _) Try.func56 rfl Try.ntmps56 (Nat.le_of_ble_eq_true rfl) ?_
  refine ACode.seq (ACode.region ?_)
  refine ASeq.op rfl rfl (AOp.boxP rfl rfl rfl (fun _ => rfl) (fun _ => ?_))
  refine ASeq.op rfl rfl (AOp.allocP rfl (tok _ rfl) rfl rfl (fun _ => rfl) (fun _ => ?_))
  refine ASeq.nil ?_
  refine ACode.seq (ACode.seq (ACode.region ?_))
  refine ASeq.q rfl rfl (QOp.fieldM rfl rfl (tok _ rfl) rfl rfl (by decide) rfl) ?_
  refine ASeq.q rfl rfl (QOp.loadM 3 rfl rfl rfl (tok _ rfl) rfl) ?_
  refine ASeq.q rfl rfl (QOp.cmp rfl rfl rfl rfl) ?_
  refine ASeq.nil ?_
  refine AExit.then_normal ?_
  refine ACode.cond _ rfl (fun hb => ?_) (fun hb => ?_)
  · have hc : p.code = 0 := by simpa using hb
    refine ACode.seq (ACode.region ?_)
    refine ASeq.q rfl rfl (QOp.move rfl rfl) ?_
    refine ASeq.q rfl rfl (QOp.fieldM rfl rfl (tok _ rfl) rfl rfl (by decide) rfl) ?_
    refine ASeq.op0 rfl rfl (AOp.storeP 3 rfl rfl rfl rfl (tok _ rfl) rfl rfl rfl rfl ?_)
    refine ASeq.nil ?_
    refine ACode.region ?_
    refine ASeq.q rfl rfl (QOp.loadM 3 rfl rfl rfl (tok _ rfl) rfl) ?_
    refine ASeq.op rfl rfl (AOp.callP 0 rfl (by kernel_rfl) rfl rfl rfl (here_ok { p with code := code } ⟨h.at0, h.at1, h.spans, h.small, h.ex, h.st, h.fu, h.last, h.nums⟩ te ts tf) ?_ (by rintro _ _ ⟨⟩))
    rintro _ _ ⟨⟩
    refine ASeq.q rfl rfl (QOp.fieldM rfl rfl (tok _ rfl) rfl rfl (by decide) rfl) ?_
    refine ASeq.op0 rfl rfl (AOp.storeP 3 rfl rfl rfl rfl (tok _ rfl) rfl rfl rfl rfl ?_)
    refine ASeq.nil ?_
    refine ACode.seq (ACode.region ?_)
    refine ASeq.q rfl rfl (QOp.loadM 3 rfl rfl rfl (tok _ rfl) rfl) ?_
    refine ASeq.op0 rfl rfl (AOp.storeP 4 rfl rfl rfl rfl (tok _ rfl) rfl rfl rfl rfl ?_)
    refine ASeq.nil ?_
    refine ACode.ret ?_
    refine bodyQ_ret 3 (.cell 4 rfl rfl (tok _ rfl) rfl .nil) rfl ?_
    rw [show p.fail code = { p with code := code, where_ := p.here } by simp [PS.fail, hc]]
    exact .mk te ts tf
  · have hc : p.code ≠ 0 := by simpa using hb
    refine ACode.skip (ACode.seq (ACode.region ?_))
    refine ASeq.q rfl rfl (QOp.loadM 3 rfl rfl rfl (tok _ rfl) rfl) ?_
    refine ASeq.op0 rfl rfl (AOp.storeP 4 rfl rfl rfl rfl (tok _ rfl) rfl rfl rfl rfl ?_)
    refine ASeq.nil ?_
    refine ACode.ret ?_
    refine bodyQ_ret 3 (.cell 4 rfl rfl (tok _ rfl) rfl .nil) rfl ?_
    rw [show p.fail code = p by simp [PS.fail, hc]]
    exact .mk te ts tf
theorem deep_ok (p : PS) (h : p.ok) (d : Int) (te ts tf : Nat) : ACalls Try.prog 79 [.agg (p.cells te ts tf), vi d] [.tk te, .tk ts, .tk tf] (RP (p.deep d)) := by
  refine ACalls.of_code (c := _) Try.func79 rfl Try.ntmps79 (Nat.le_of_ble_eq_true rfl) ?_
  refine ACode.seq (ACode.region ?_)
  refine ASeq.op rfl rfl (AOp.boxP rfl rfl rfl (fun _ => rfl) (fun _ => ?_))
  refine ASeq.op rfl rfl (AOp.allocP rfl (tok _ rfl) rfl rfl (fun _ => rfl) (fun _ => ?_))
  refine ASeq.nil ?_
  refine ACode.seq (ACode.seq (ACode.region ?_))
  refine ASeq.q rfl rfl (QOp.move rfl rfl) ?_
  refine ASeq.q rfl rfl (QOp.cmp rfl rfl rfl rfl) ?_
  refine ASeq.nil ?_
  refine AExit.then_normal ?_
  refine ACode.cond _ rfl (fun hb => ?_) (fun hb => ?_)
  · have hc : d > 64 := by simpa using hb
    refine ACode.seq (ACode.region ?_)
    refine ASeq.q rfl rfl (QOp.loadM 3 rfl rfl rfl (tok _ rfl) rfl) ?_
    refine ASeq.op rfl rfl (AOp.callP 3 rfl (by kernel_rfl) rfl rfl rfl (fail_ok p h 4 te ts tf) ?_ (by rintro _ _ ⟨⟩))
    rintro _ _ ⟨te', ts', tf'⟩
    refine ASeq.op0 rfl rfl (AOp.storeP 4 rfl rfl rfl rfl (tok _ rfl) rfl rfl rfl rfl ?_)
    refine ASeq.nil ?_
    refine ACode.ret (AExit.then_ret ?_)
    refine bodyQ_ret 3 (.cell 4 rfl rfl (tok _ rfl) rfl .nil) rfl ?_
    rw [show p.deep d = p.fail 4 by simp [PS.deep, hc]]
    exact .mk _ _ _
  · have hc : ¬ d > 64 := by simpa using hb
    refine ACode.skip (ACode.seq (ACode.region ?_))
    refine ASeq.q rfl rfl (QOp.loadM 3 rfl rfl rfl (tok _ rfl) rfl) ?_
    refine ASeq.op0 rfl rfl (AOp.storeP 4 rfl rfl rfl rfl (tok _ rfl) rfl rfl rfl rfl ?_)
    refine ASeq.nil ?_
    refine ACode.ret ?_
    refine bodyQ_ret 3 (.cell 4 rfl rfl (tok _ rfl) rfl .nil) rfl ?_
    rw [show p.deep d = p by simp [PS.deep, hc]]
    exact .mk te ts tf
theorem is_ok (p : PS) (h : p.ok) (s : ByteArray) (te ts tf : Nat) : ACalls Try.prog 55 [.agg (p.cells te ts tf), vs s] [] (RV (.v (.bool (p.is s))) []) := by
  have hrow := h.tokAt
  have h0 := h.at0
  refine ACalls.of_code (c := _) Try.func55 rfl Try.ntmps55 (Nat.le_of_ble_eq_true rfl) ?_
  refine ACode.seq (ACode.region ?_)
  refine ASeq.op rfl rfl (AOp.boxP rfl rfl rfl (fun _ => rfl) (fun _ => ?_))
  refine ASeq.q rfl rfl (QOp.assign rfl rfl) ?_
  refine ASeq.nil ?_
  refine ACode.seq (ACode.region ?_)
  refine ASeq.q rfl rfl (QOp.fieldM rfl rfl (tok _ rfl) rfl rfl (by decide) rfl) ?_
  refine ASeq.q rfl rfl (QOp.loadM 0 rfl rfl rfl (tok _ rfl) rfl) ?_
  refine ASeq.q rfl rfl (QOp.cmp rfl rfl rfl rfl) ?_
  refine ASeq.q rfl rfl (QOp.move rfl rfl) ?_
  refine ASeq.split 8 (p.code == 0) rfl (fun hb => ?_) (fun hb => ?_)
  · refine ASeq.gq _ _ rfl rfl rfl rfl (QOp.fieldM rfl rfl (tok _ rfl) rfl rfl (by decide) rfl) ?_
    refine ASeq.gq _ _ rfl rfl rfl rfl (QOp.loadM 0 rfl rfl rfl (tok _ rfl) rfl) ?_
    refine ASeq.gq _ _ rfl rfl rfl rfl (QOp.fieldM rfl rfl (tok _ rfl) rfl rfl (by decide) rfl) ?_
    refine ASeq.gq _ _ rfl rfl rfl rfl (QOp.loadM 0 rfl rfl rfl (tok _ rfl) rfl) ?_
    refine ASeq.gq _ _ rfl rfl rfl rfl (QOp.indexI rfl rfl rfl (tok _ rfl) rfl (tok _ rfl) h0 hrow) ?_
    refine ASeq.gq _ _ rfl rfl rfl rfl (QOp.fieldI rfl rfl (tok _ rfl) rfl rfl (by decide) rfl) ?_
    refine ASeq.gq _ _ rfl rfl rfl rfl (QOp.loadI rfl rfl (tok _ rfl) rfl) ?_
    refine ASeq.gq _ _ rfl rfl rfl rfl (QOp.cmp rfl rfl rfl rfl) ?_
    refine ASeq.q rfl rfl (QOp.pickT rfl rfl rfl) ?_
    refine ASeq.q rfl rfl (QOp.move rfl rfl) ?_
    refine ASeq.split 18 (p.tok.kind != 0) rfl (fun hb2 => ?_) (fun hb2 => ?_)
    · refine ASeq.gq _ _ rfl rfl rfl rfl (QOp.loadM 0 rfl rfl rfl (tok _ rfl) rfl) ?_
      refine ASeq.gop _ _ rfl rfl rfl rfl (AOp.callP 0 rfl (by kernel_rfl) rfl rfl rfl (word_ok p h te ts tf) ?_ (by rintro _ _ ⟨⟩))
      rintro _ _ ⟨⟩
      refine ASeq.gq _ _ rfl rfl rfl rfl (QOp.move rfl rfl) ?_
      refine ASeq.gq _ _ rfl rfl rfl rfl (QOp.cmpStr rfl rfl rfl rfl) ?_
      refine ASeq.q rfl rfl (QOp.pickT rfl rfl rfl) ?_
      refine ASeq.q rfl rfl (QOp.assign rfl rfl) ?_
      refine ASeq.nil ?_
      refine ACode.ret ?_
      refine bodyQ_ret 0 (.tmp rfl .nil) rfl ?_
      rw [show p.is s = (p.word.data.toList == s.data.toList) by simp only [PS.is, hb, hb2, Bool.true_and]]
      exact .mk
    · refine ASeq.gno _ _ rfl rfl rfl rfl rfl ?_
      refine ASeq.gno _ _ rfl rfl rfl rfl rfl ?_
      refine ASeq.gno _ _ rfl rfl rfl rfl rfl ?_
      refine ASeq.gno _ _ rfl rfl rfl rfl rfl ?_
      refine ASeq.q rfl rfl (QOp.pickF rfl rfl rfl) ?_
      refine ASeq.q rfl rfl (QOp.assign rfl rfl) ?_
      refine ASeq.nil ?_
      refine ACode.ret ?_
      refine bodyQ_ret 0 (.tmp rfl .nil) rfl ?_
      rw [show p.is s = false by simp only [PS.is, hb, hb2, Bool.true_and, Bool.false_and]]
      exact .mk
  · refine ASeq.gno _ _ rfl rfl rfl rfl rfl ?_
    refine ASeq.gno _ _ rfl rfl rfl rfl rfl ?_
    refine ASeq.gno _ _ rfl rfl rfl rfl rfl ?_
    refine ASeq.gno _ _ rfl rfl rfl rfl rfl ?_
    refine ASeq.gno _ _ rfl rfl rfl rfl rfl ?_
    refine ASeq.gno _ _ rfl rfl rfl rfl rfl ?_
    refine ASeq.gno _ _ rfl rfl rfl rfl rfl ?_
    refine ASeq.gno _ _ rfl rfl rfl rfl rfl ?_
    refine ASeq.q rfl rfl (QOp.pickF rfl rfl rfl) ?_
    refine ASeq.q rfl rfl (QOp.move rfl rfl) ?_
    refine ASeq.gno _ _ rfl rfl rfl rfl rfl ?_
    refine ASeq.gno _ _ rfl rfl rfl rfl rfl ?_
    refine ASeq.gno _ _ rfl rfl rfl rfl rfl ?_
    refine ASeq.gno _ _ rfl rfl rfl rfl rfl ?_
    refine ASeq.q rfl rfl (QOp.pickF rfl rfl rfl) ?_
    refine ASeq.q rfl rfl (QOp.assign rfl rfl) ?_
    refine ASeq.nil ?_
    refine ACode.ret ?_
    refine bodyQ_ret 0 (.tmp rfl .nil) rfl ?_
    rw [show p.is s = false by simp only [PS.is, hb, Bool.false_and]]
    exact .mk
theorem want_ok (p : PS) (h : p.ok) (s : ByteArray) (te ts tf : Nat) : ACalls Try.prog 58 [.agg (p.cells te ts tf), vs s] [.tk te, .tk ts, .tk tf] (RP (p.want s)) := by
  have h0 := h.at0
  have h1 := h.at1
  have h2 := h.small
  refine ACalls.of_code (c := _) Try.func58 rfl Try.ntmps58 (Nat.le_of_ble_eq_true rfl) ?_
  refine ACode.seq (ACode.region ?_)
  refine ASeq.op rfl rfl (AOp.boxP rfl rfl rfl (fun _ => rfl) (fun _ => ?_))
  refine ASeq.op rfl rfl (AOp.allocP rfl (tok _ rfl) rfl rfl (fun _ => rfl) (fun _ => ?_))
  refine ASeq.nil ?_
  refine ACode.seq (ACode.seq (ACode.region ?_))
  refine ASeq.q rfl rfl (QOp.loadM 3 rfl rfl rfl (tok _ rfl) rfl) ?_
  refine ASeq.q rfl rfl (QOp.move rfl rfl) ?_
  refine ASeq.op rfl rfl (AOp.callP 0 rfl (by kernel_rfl) rfl rfl rfl (is_ok p h s te ts tf) ?_ (by rintro _ _ ⟨⟩))
  rintro _ _ ⟨⟩
  refine ASeq.q rfl rfl (QOp.not rfl rfl) ?_
  refine ASeq.nil ?_
  refine AExit.then_normal ?_
  refine ACode.cond _ rfl (fun hb => ?_) (fun hb => ?_)
  · have hc : p.is s = false := by simpa using hb
    refine ACode.seq (ACode.region ?_)
    refine ASeq.q rfl rfl (QOp.loadM 3 rfl rfl rfl (tok _ rfl) rfl) ?_
    refine ASeq.op rfl rfl (AOp.callP 3 rfl (by kernel_rfl) rfl rfl rfl (fail_ok p h 3 te ts tf) ?_ (by rintro _ _ ⟨⟩))
    rintro _ _ ⟨te', ts', tf'⟩
    refine ASeq.op0 rfl rfl (AOp.storeP 4 rfl rfl rfl rfl (tok _ rfl) rfl rfl rfl rfl ?_)
    refine ASeq.nil ?_
    refine ACode.ret (AExit.then_ret ?_)
    refine bodyQ_ret 3 (.cell 4 rfl rfl (tok _ rfl) rfl .nil) rfl ?_
    rw [show p.want s = p.fail 3 by simp [PS.want, hc]]
    exact .mk _ _ _
  · have hc : p.is s = true := by simpa using hb
    refine ACode.skip (ACode.seq (ACode.region ?_))
    refine ASeq.q rfl rfl (QOp.fieldM rfl rfl (tok _ rfl) rfl rfl (by decide) rfl) ?_
    refine ASeq.q rfl rfl (QOp.loadM 3 rfl rfl rfl (tok _ rfl) rfl) ?_
    refine ASeq.q rfl rfl (QOp.ar64 rfl rfl rfl rfl ⟨by omega, by omega⟩) ?_
    refine ASeq.q rfl rfl (QOp.fieldM rfl rfl (tok _ rfl) rfl rfl (by decide) rfl) ?_
    refine ASeq.op0 rfl rfl (AOp.storeP 3 rfl rfl rfl rfl (tok _ rfl) rfl rfl rfl rfl ?_)
    refine ASeq.nil ?_
    refine ACode.seq (ACode.region ?_)
    refine ASeq.q rfl rfl (QOp.loadM 3 rfl rfl rfl (tok _ rfl) rfl) ?_
    refine ASeq.op0 rfl rfl (AOp.storeP 4 rfl rfl rfl rfl (tok _ rfl) rfl rfl rfl rfl ?_)
    refine ASeq.nil ?_
    refine ACode.ret ?_
    refine bodyQ_ret 3 (.cell 4 rfl rfl (tok _ rfl) rfl .nil) rfl ?_
    rw [show p.want s = { p with at_ := p.at_ + 1 } by simp [PS.want, hc]]
    exact .mk te ts tf
theorem kind_ok (p : PS) (h : p.ok) (k : Int) (te ts tf : Nat) : ACalls Try.prog 57 [.agg (p.cells te ts tf), vi k] [.tk te, .tk ts, .tk tf] (RPV (p.kindOf k).1 (vs (p.kindOf k).2)) := by
  have hrow := h.tokAt
  have h0 := h.at0
  have h1 := h.at1
  have h2 := h.small
  refine ACalls.of_code (c := _) Try.func57 rfl Try.ntmps57 (Nat.le_of_ble_eq_true rfl) ?_
  refine ACode.seq (ACode.region ?_)
  refine ASeq.op rfl rfl (AOp.boxP rfl rfl rfl (fun _ => rfl) (fun _ => ?_))
  refine ASeq.op rfl rfl (AOp.allocP rfl (tok _ rfl) rfl rfl (fun _ => rfl) (fun _ => ?_))
  refine ASeq.q rfl rfl (QOp.assign rfl rfl) ?_
  refine ASeq.nil ?_
  refine ACode.seq (ACode.seq (ACode.region ?_))
  refine ASeq.q rfl rfl (QOp.fieldM rfl rfl (tok _ rfl) rfl rfl (by decide) rfl) ?_
  refine ASeq.q rfl rfl (QOp.loadM 3 rfl rfl rfl (tok _ rfl) rfl) ?_
  refine ASeq.q rfl rfl (QOp.cmp rfl rfl rfl rfl) ?_
  refine ASeq.q rfl rfl (QOp.move rfl rfl) ?_
  refine ASeq.split 10 (p.code != 0) rfl (fun hb => ?_) (fun hb => ?_)
  · have hc : p.code ≠ 0 := by simpa using hb
    refine ASeq.gno _ _ rfl rfl rfl rfl rfl ?_
    refine ASeq.gno _ _ rfl rfl rfl rfl rfl ?_
    refine ASeq.gno _ _ rfl rfl rfl rfl rfl ?_
    refine ASeq.gno _ _ rfl rfl rfl rfl rfl ?_
    refine ASeq.gno _ _ rfl rfl rfl rfl rfl ?_
    refine ASeq.gno _ _ rfl rfl rfl rfl rfl ?_
    refine ASeq.gno _ _ rfl rfl rfl rfl rfl ?_
    refine ASeq.gno _ _ rfl rfl rfl rfl rfl ?_
    refine ASeq.gno _ _ rfl rfl rfl rfl rfl ?_
    refine ASeq.q rfl rfl (QOp.pickT rfl rfl rfl) ?_
    refine ASeq.nil ?_
    refine AExit.then_normal ?_
    refine ACode.cond _ rfl (fun hb => ?_) (fun hb => by cases hb)
    refine ACode.seq (ACode.region ?_)
    refine ASeq.q rfl rfl (QOp.loadM 3 rfl rfl rfl (tok _ rfl) rfl) ?_
    refine ASeq.op rfl rfl (AOp.callP 3 rfl (by kernel_rfl) rfl rfl rfl (fail_ok p h 3 te ts tf) ?_ (by rintro _ _ ⟨⟩))
    rintro _ _ ⟨te', ts', tf'⟩
    refine ASeq.op0 rfl rfl (AOp.storeP 4 rfl rfl rfl rfl (tok _ rfl) rfl rfl rfl rfl ?_)
    refine ASeq.q rfl rfl (QOp.assign rfl rfl) ?_
    refine ASeq.nil ?_
    refine ACode.ret (AExit.then_ret ?_)
    refine bodyQ_ret 3 (.cell 4 rfl rfl (tok _ rfl) rfl (.tmp rfl .nil)) rfl ?_
    rw [show p.kindOf k = (p.fail 3, ⟨#[]⟩) by simp [PS.kindOf, hc]]
    exact .mk _ _ _
  · have hc : p.code = 0 := by simpa using hb
    refine ASeq.gq _ _ rfl rfl rfl rfl (QOp.fieldM rfl rfl (tok _ rfl) rfl rfl (by decide) rfl) ?_
    refine ASeq.gq _ _ rfl rfl rfl rfl (QOp.loadM 3 rfl rfl rfl (tok _ rfl) rfl) ?_
    refine ASeq.gq _ _ rfl rfl rfl rfl (QOp.fieldM rfl rfl (tok _ rfl) rfl rfl (by decide) rfl) ?_
    refine ASeq.gq _ _ rfl rfl rfl rfl (QOp.loadM 3 rfl rfl rfl (tok _ rfl) rfl) ?_
    refine ASeq.gq _ _ rfl rfl rfl rfl (QOp.indexI rfl rfl rfl (tok _ rfl) rfl (tok _ rfl) (by omega) (by assumption)) ?_
    refine ASeq.gq _ _ rfl rfl rfl rfl (QOp.fieldI rfl rfl (tok _ rfl) rfl rfl (by decide) rfl) ?_
    refine ASeq.gq _ _ rfl rfl rfl rfl (QOp.loadI rfl rfl (tok _ rfl) rfl) ?_
    refine ASeq.gq _ _ rfl rfl rfl rfl (QOp.move rfl rfl) ?_
    refine ASeq.gq _ _ rfl rfl rfl rfl (QOp.cmp rfl rfl rfl rfl) ?_
    refine ASeq.q rfl rfl (QOp.pickF rfl rfl rfl) ?_
    refine ASeq.nil ?_
    refine AExit.then_normal ?_
    refine ACode.cond _ rfl (fun hb => ?_) (fun hb => ?_)
    · have hk : p.tok.kind ≠ k := by simpa using hb
      refine ACode.seq (ACode.region ?_)
      refine ASeq.q rfl rfl (QOp.loadM 3 rfl rfl rfl (tok _ rfl) rfl) ?_
      refine ASeq.op rfl rfl (AOp.callP 3 rfl (by kernel_rfl) rfl rfl rfl (fail_ok p h 3 te ts tf) ?_ (by rintro _ _ ⟨⟩))
      rintro _ _ ⟨te', ts', tf'⟩
      refine ASeq.op0 rfl rfl (AOp.storeP 4 rfl rfl rfl rfl (tok _ rfl) rfl rfl rfl rfl ?_)
      refine ASeq.q rfl rfl (QOp.assign rfl rfl) ?_
      refine ASeq.nil ?_
      refine ACode.ret (AExit.then_ret ?_)
      refine bodyQ_ret 3 (.cell 4 rfl rfl (tok _ rfl) rfl (.tmp rfl .nil)) rfl ?_
      rw [show p.kindOf k = (p.fail 3, ⟨#[]⟩) by simp [PS.kindOf, hk]]
      exact .mk _ _ _
    · have hk : p.tok.kind = k := by simpa using hb
      refine ACode.skip (ACode.seq (ACode.region ?_))
      refine ASeq.q rfl rfl (QOp.loadM 3 rfl rfl rfl (tok _ rfl) rfl) ?_
      refine ASeq.op rfl rfl (AOp.callP 0 rfl (by kernel_rfl) rfl rfl rfl (word_ok p h te ts tf) ?_ (by rintro _ _ ⟨⟩))
      rintro _ _ ⟨⟩
      refine ASeq.q rfl rfl (QOp.assign rfl rfl) ?_
      refine ASeq.nil ?_
      refine ACode.seq (ACode.region ?_)
      refine ASeq.q rfl rfl (QOp.fieldM rfl rfl (tok _ rfl) rfl rfl (by decide) rfl) ?_
      refine ASeq.q rfl rfl (QOp.loadM 3 rfl rfl rfl (tok _ rfl) rfl) ?_
      refine ASeq.q rfl rfl (QOp.ar64 rfl rfl rfl rfl ⟨by omega, by omega⟩) ?_
      refine ASeq.q rfl rfl (QOp.fieldM rfl rfl (tok _ rfl) rfl rfl (by decide) rfl) ?_
      refine ASeq.op0 rfl rfl (AOp.storeP 3 rfl rfl rfl rfl (tok _ rfl) rfl rfl rfl rfl ?_)
      refine ASeq.nil ?_
      refine ACode.seq (ACode.region ?_)
      refine ASeq.q rfl rfl (QOp.loadM 3 rfl rfl rfl (tok _ rfl) rfl) ?_
      refine ASeq.q rfl rfl (QOp.move rfl rfl) ?_
      refine ASeq.op0 rfl rfl (AOp.storeP 4 rfl rfl rfl rfl (tok _ rfl) rfl rfl rfl rfl ?_)
      refine ASeq.q rfl rfl (QOp.assign rfl rfl) ?_
      refine ASeq.nil ?_
      refine ACode.ret ?_
      refine bodyQ_ret 3 (.cell 4 rfl rfl (tok _ rfl) rfl (.tmp rfl .nil)) rfl ?_
      rw [show p.kindOf k = ({ p with at_ := p.at_ + 1 }, p.word) by simp [PS.kindOf, hk, hc]]
      exact .mk te ts tf
theorem rows_ok (n : Nat) (l : List (List AV)) (r : List AV) (h : ∀ x ∈ l, x.length = n) (hr : r.length = n) : ∀ x ∈ l ++ [r], x.length = n := by
  intro x hx
  rcases List.mem_append.1 hx with h1 | h1
  · exact h x h1
  · rw [List.mem_singleton] at h1; subst h1; exact hr
theorem put_ok (p : PS) (h : p.ok) (fr : Int) (x : Ex) (hp : 1 ≤ p.at_ ∨ p.code ≠ 0) (te ts tf : Nat) : ACalls Try.prog 115 [.agg (p.cells te ts tf), vi fr, .agg x.cells] [.tk te, .tk ts, .tk tf] (RPV (p.put fr x).1 (vi (p.put fr x).2)) := by
  have h0 := h.at0
  have h1 := h.at1
  have h2 := h.small
  have h3 := h.ex
  refine ACalls.of_code (c := _) Try.func115 rfl Try.ntmps115 (Nat.le_of_ble_eq_true rfl) ?_
  refine ACode.seq (ACode.region ?_)
  refine ASeq.op rfl rfl (AOp.boxP rfl rfl rfl (fun _ => rfl) (fun _ => ?_))
  refine ASeq.op rfl rfl (AOp.boxP rfl rfl rfl (fun _ => rfl) (fun _ => ?_))
  refine ASeq.op rfl rfl (AOp.allocP rfl (tok _ rfl) rfl rfl (fun _ => rfl) (fun _ => ?_))
  refine ASeq.q rfl rfl (QOp.assign rfl rfl) ?_
  refine ASeq.nil ?_
  refine ACode.seq (ACode.seq (ACode.region ?_))
  refine ASeq.q rfl rfl (QOp.fieldM rfl rfl (tok _ rfl) rfl rfl (by decide) rfl) ?_
  refine ASeq.q rfl rfl (QOp.loadM 3 rfl rfl rfl (tok _ rfl) rfl) ?_
  refine ASeq.q rfl rfl (QOp.cmp rfl rfl rfl rfl) ?_
  refine ASeq.nil ?_
  refine AExit.then_normal ?_
  refine ACode.cond _ rfl (fun hb => ?_) (fun hb => ?_)
  · have hc : p.code ≠ 0 := by simpa using hb
    refine ACode.seq (ACode.region ?_)
    refine ASeq.q rfl rfl (QOp.loadM 3 rfl rfl rfl (tok _ rfl) rfl) ?_
    refine ASeq.op0 rfl rfl (AOp.storeP 5 rfl rfl rfl rfl (tok _ rfl) rfl rfl rfl rfl ?_)
    refine ASeq.q rfl rfl (QOp.assign rfl rfl) ?_
    refine ASeq.nil ?_
    refine ACode.ret (AExit.then_ret ?_)
    refine bodyQ_ret 3 (.cell 5 rfl rfl (tok _ rfl) rfl (.tmp rfl .nil)) rfl ?_
    rw [show p.put fr x = (p, 0) by simp [PS.put, hc]]
    exact .mk te ts tf
  · have hc : p.code = 0 := by simpa using hb
    have h4 : 1 ≤ p.at_ := hp.resolve_right (by simp [hc])
    have hrow := h.lastAt h4
    refine ACode.skip (ACode.seq (ACode.region ?_))
    refine ASeq.q rfl rfl (QOp.move rfl rfl) ?_
    refine ASeq.q rfl rfl (QOp.fieldM rfl rfl (tok _ rfl) rfl rfl (by decide) rfl) ?_
    refine ASeq.q rfl rfl (QOp.loadM 3 rfl rfl rfl (tok _ rfl) rfl) ?_
    refine ASeq.q rfl rfl (QOp.fieldM rfl rfl (tok _ rfl) rfl rfl (by decide) rfl) ?_
    refine ASeq.q rfl rfl (QOp.loadM 3 rfl rfl rfl (tok _ rfl) rfl) ?_
    refine ASeq.q rfl rfl (QOp.ar64 rfl rfl rfl rfl ⟨by omega, by omega⟩) ?_
    refine ASeq.q rfl rfl (QOp.indexI rfl rfl rfl (tok _ rfl) rfl (tok _ rfl) (by omega) (by assumption)) ?_
    refine ASeq.q rfl rfl (QOp.fieldI rfl rfl (tok _ rfl) rfl rfl (by decide) rfl) ?_
    refine ASeq.q rfl rfl (QOp.fieldI rfl rfl (tok _ rfl) rfl rfl (by decide) rfl) ?_
    refine ASeq.q rfl rfl (QOp.loadI rfl rfl (tok _ rfl) rfl) ?_
    refine ASeq.q rfl rfl (QOp.build rfl (tok _ rfl) rfl rfl rfl rfl rfl) ?_
    refine ASeq.q rfl rfl (QOp.fieldM rfl rfl (tok _ rfl) rfl rfl (by decide) rfl) ?_
    refine ASeq.op0 rfl rfl (AOp.storeP 4 rfl rfl rfl rfl (tok _ rfl) rfl rfl rfl rfl ?_)
    refine ASeq.nil ?_
    refine ACode.seq (ACode.region ?_)
    refine ASeq.q rfl rfl (QOp.fieldM rfl rfl (tok _ rfl) rfl rfl (by decide) rfl) ?_
    refine ASeq.q rfl rfl (QOp.fieldM rfl rfl (tok _ rfl) rfl rfl (by decide) rfl) ?_
    refine ASeq.q rfl rfl (QOp.loadM 3 rfl rfl rfl (tok _ rfl) rfl) ?_
    refine ASeq.q rfl rfl (QOp.loadM 4 rfl rfl rfl (tok _ rfl) rfl) ?_
    refine ASeq.op rfl rfl (AOp.buildSliceR rfl (tok _ rfl) rfl (tok _ rfl) (by decide) rfl (by decide) rfl rfl rfl rfl ?_)
    refine ASeq.op rfl rfl (AOp.appendP 0 (e := 61) (tde := TT 61) rfl rfl rfl rfl (tok _ rfl) rfl (tok _ rfl) (tok _ rfl) rfl (by decide) rfl rfl (fun _ => rfl) (rows_ok 9 _ _ (fun y hy => by obtain ⟨z, _, rfl⟩ := List.mem_map.1 hy; rfl) rfl) (by simp only [List.length_map, List.length_cons, List.length_nil]; omega) rfl (fun _ => ?_))
    refine ASeq.q rfl rfl (QOp.fieldM rfl rfl (tok _ rfl) rfl rfl (by decide) rfl) ?_
    refine ASeq.q rfl rfl (QOp.fieldM rfl rfl (tok _ rfl) rfl rfl (by decide) rfl) ?_
    refine ASeq.op0 rfl rfl (AOp.storeP 3 rfl rfl rfl rfl (tok _ rfl) rfl rfl rfl rfl ?_)
    refine ASeq.nil ?_
    refine ACode.seq ?_
    refine ACode.drawn [[], [], [1], [1, 2], [1, 2, 3], [1, 2, 3, 4], [0], [0, 1, 2, 3, 4, 5, 6]] (by kernel_rfl) mixed ?_
    refine DAny.ld 0 rfl rfl (by kernel_rfl) rfl (.does _ _ rfl (.none rfl) (QOp.loadM 3 rfl rfl rfl (tok _ rfl) rfl)) ?_
    refine DAny.qu 1 rfl rfl (by kernel_rfl) rfl (fun _ => .does _ _ rfl (.none rfl) (QOp.fieldM rfl rfl (tok _ rfl) rfl rfl (by decide) rfl)) ?_
    refine DAny.qu 2 rfl rfl (by kernel_rfl) rfl (fun _ => .does _ _ rfl (.none rfl) (QOp.fieldM rfl rfl (tok _ rfl) rfl rfl (by decide) rfl)) ?_
    refine DAny.ld 3 rfl rfl (by kernel_rfl) rfl (.does _ _ rfl (.none rfl) (QOp.loadM 3 rfl rfl rfl (tok _ rfl) rfl)) ?_
    refine DAny.qu 4 rfl rfl (by kernel_rfl) rfl (fun _ => .does _ _ rfl (.none rfl) (QOp.lenI rfl rfl (tok _ rfl) rfl)) ?_
    -- STOP at 5 (listed 0,1,2,3,4)
    refine DAny.qu 5 rfl rfl (by kernel_rfl) rfl (fun _ => .does _ _ rfl (.none rfl) (QOp.ar64e rfl rfl rfl rfl (m := (p.exprs.length : Int)) (by simp only [List.length_append, List.length_map, List.length_cons, List.length_nil]; omega) ⟨by omega, by omega⟩)) ?_
    refine DAny.ef0 6 rfl (by kernel_rfl) (.none rfl) rfl rfl (AOp.storeP 5 rfl rfl rfl rfl (tok _ rfl) rfl rfl rfl rfl ⟨(by ((refine AllQ.cons (.does _ _ rfl (.none rfl) (QOp.loadM 3 rfl rfl rfl (tok _ rfl) rfl)) ?_); (exact AllQ.nil))), ?_⟩)
    refine DAny.ef 7 rfl (by kernel_rfl) (.none rfl) rfl rfl (.q (QOp.assign rfl rfl) ⟨(by ((exact AllQ.nil))), ?_⟩)
    refine DAny.done (by kernel_rfl) ?_
    refine ACode.ret ?_
    refine bodyQ_ret 3 (.cell 5 rfl rfl (tok _ rfl) rfl (.tmp rfl .nil)) rfl ?_
    rw [show p.put fr x = ({ p with exprs := p.exprs ++ [{ x with fr := fr, to := p.lastTo }] }, (p.exprs.length : Int)) by simp [PS.put, hc]]
    refine RPV.of ?_ rfl
    simp only [PS.cells, List.map_append, List.map_cons, List.map_nil]
    rfl
theorem add_ok (p : PS) (h : p.ok) (fr : Int) (x : St) (hp : 1 ≤ p.at_ ∨ p.code ≠ 0) (te ts tf : Nat) : ACalls Try.prog 99 [.agg (p.cells te ts tf), vi fr, .agg x.cells] [.tk te, .tk ts, .tk tf] (RPV (p.add fr x).1 (vi (p.add fr x).2)) := by
  have h0 := h.at0
  have h1 := h.at1
  have h2 := h.small
  have h3 := h.st
  -- the later part, at whatever state comes behind the first test
  have main : ∀ (q : PS), q.ok → p.many = q → (1 ≤ q.at_ ∨ q.code ≠ 0) → True := fun _ _ _ _ => trivial
  refine ACalls.of_code (c := _) Try.func99 rfl Try.ntmps99 (Nat.le_of_ble_eq_true rfl) ?_
  refine ACode.seq (ACode.region ?_)
  refine ASeq.op rfl rfl (AOp.boxP rfl rfl rfl (fun _ => rfl) (fun _ => ?_))
  refine ASeq.op rfl rfl (AOp.boxP rfl rfl rfl (fun _ => rfl) (fun _ => ?_))
  refine ASeq.op rfl rfl (AOp.allocP rfl (tok _ rfl) rfl rfl (fun _ => rfl) (fun _ => ?_))
  refine ASeq.q rfl rfl (QOp.assign rfl rfl) ?_
  refine ASeq.nil ?_
  refine ACode.seq (ACode.seq (ACode.region ?_))
  refine ASeq.q rfl rfl (QOp.fieldM rfl rfl (tok _ rfl) rfl rfl (by decide) rfl) ?_
  refine ASeq.q rfl rfl (QOp.loadM 3 rfl rfl rfl (tok _ rfl) rfl) ?_
  refine ASeq.q rfl rfl (QOp.cmp rfl rfl rfl rfl) ?_
  refine ASeq.q rfl rfl (QOp.move rfl rfl) ?_
  refine ASeq.split 11 (p.code == 0) rfl (fun hb => ?_) (fun hb => ?_)
  · have hc : p.code = 0 := by simpa using hb
    have h4 : 1 ≤ p.at_ := hp.resolve_right (by simp [hc])
    refine ASeq.gq _ _ rfl rfl rfl rfl (QOp.fieldM rfl rfl (tok _ rfl) rfl rfl (by decide) rfl) ?_
    refine ASeq.gq _ _ rfl rfl rfl rfl (QOp.fieldM rfl rfl (tok _ rfl) rfl rfl (by decide) rfl) ?_
    refine ASeq.gq _ _ rfl rfl rfl rfl (QOp.loadM 3 rfl rfl rfl (tok _ rfl) rfl) ?_
    refine ASeq.gq _ _ rfl rfl rfl rfl (QOp.lenI rfl rfl (tok _ rfl) rfl) ?_
    refine ASeq.gq _ _ rfl rfl rfl rfl (QOp.cmp rfl rfl rfl rfl) ?_
    refine ASeq.q rfl rfl (QOp.pickT rfl rfl rfl) ?_
    refine ASeq.nil ?_
    refine AExit.then_normal ?_
    refine ACode.cond _ rfl (fun hb => ?_) (fun hb => ?_)
    · have hl : (1000 : Int) ≤ p.stmts.length := by simpa using hb
      have hm : p.many = p.fail 5 := by simp only [PS.many]; rw [if_pos ⟨hc, hl⟩]
      have hf : (p.fail 5).code = 5 := by simp [PS.fail, hc]
      have hff : (p.fail 5).code ≠ 0 := by rw [hf]; decide
      refine ACode.region ?_
      refine ASeq.q rfl rfl (QOp.loadM 3 rfl rfl rfl (tok _ rfl) rfl) ?_
      refine ASeq.op rfl rfl (AOp.callP 3 rfl (by kernel_rfl) rfl rfl rfl (fail_ok p h 5 te ts tf) ?_ (by rintro _ _ ⟨⟩))
      rintro _ _ ⟨te', ts', tf'⟩
      refine ASeq.op0 rfl rfl (AOp.storeP 3 rfl rfl rfl rfl (tok _ rfl) rfl rfl rfl rfl ?_)
      refine ASeq.nil ?_
      refine ACode.seq (ACode.seq (ACode.region ?_))
      refine ASeq.q rfl rfl (QOp.fieldM rfl rfl (tok _ rfl) rfl rfl (by decide) rfl) ?_
      refine ASeq.q rfl rfl (QOp.loadM 3 rfl rfl rfl (tok _ rfl) rfl) ?_
      refine ASeq.q rfl rfl (QOp.cmp rfl rfl rfl rfl) ?_
      refine ASeq.nil ?_
      refine AExit.then_normal ?_
      refine ACode.cond _ rfl (fun hb => ?_) (fun hb => absurd (by simpa using hb) hff)
      refine ACode.seq (ACode.region ?_)
      refine ASeq.q rfl rfl (QOp.loadM 3 rfl rfl rfl (tok _ rfl) rfl) ?_
      refine ASeq.op0 rfl rfl (AOp.storeP 5 rfl rfl rfl rfl (tok _ rfl) rfl rfl rfl rfl ?_)
      refine ASeq.q rfl rfl (QOp.assign rfl rfl) ?_
      refine ASeq.nil ?_
      refine ACode.ret (AExit.then_ret ?_)
      refine bodyQ_ret 3 (.cell 5 rfl rfl (tok _ rfl) rfl (.tmp rfl .nil)) rfl ?_
      rw [show p.add fr x = (p.fail 5, 0) by simp only [PS.add, hm]; rw [if_pos hff]]
      exact .mk _ _ _
    · have hl : ¬ (1000 : Int) ≤ p.stmts.length := by simpa using hb
      have hm : p.many = p := by simp only [PS.many]; rw [if_neg (fun h => hl h.2)]
      have hrow := h.lastAt h4
      refine ACode.skip (ACode.seq (ACode.seq (ACode.region ?_)))
      refine ASeq.q rfl rfl (QOp.fieldM rfl rfl (tok _ rfl) rfl rfl (by decide) rfl) ?_
      refine ASeq.q rfl rfl (QOp.loadM 3 rfl rfl rfl (tok _ rfl) rfl) ?_
      refine ASeq.q rfl rfl (QOp.cmp rfl rfl rfl rfl) ?_
      refine ASeq.nil ?_
      refine AExit.then_normal ?_
      refine ACode.cond _ rfl (fun hb => absurd hc (by simpa using hb)) (fun hb => ?_)
      refine ACode.skip (ACode.seq (ACode.region ?_))
      refine ASeq.q rfl rfl (QOp.move rfl rfl) ?_
      refine ASeq.q rfl rfl (QOp.fieldM rfl rfl (tok _ rfl) rfl rfl (by decide) rfl) ?_
      refine ASeq.q rfl rfl (QOp.loadM 3 rfl rfl rfl (tok _ rfl) rfl) ?_
      refine ASeq.q rfl rfl (QOp.fieldM rfl rfl (tok _ rfl) rfl rfl (by decide) rfl) ?_
      refine ASeq.q rfl rfl (QOp.loadM 3 rfl rfl rfl (tok _ rfl) rfl) ?_
      refine ASeq.q rfl rfl (QOp.ar64 rfl rfl rfl rfl ⟨by omega, by omega⟩) ?_
      refine ASeq.q rfl rfl (QOp.indexI rfl rfl rfl (tok _ rfl) rfl (tok _ rfl) (by omega) (by assumption)) ?_
      refine ASeq.q rfl rfl (QOp.fieldI rfl rfl (tok _ rfl) rfl rfl (by decide) rfl) ?_
      refine ASeq.q rfl rfl (QOp.fieldI rfl rfl (tok _ rfl) rfl rfl (by decide) rfl) ?_
      refine ASeq.q rfl rfl (QOp.loadI rfl rfl (tok _ rfl) rfl) ?_
      refine ASeq.q rfl rfl (QOp.build rfl (tok _ rfl) rfl rfl rfl rfl rfl) ?_
      refine ASeq.q rfl rfl (QOp.fieldM rfl rfl (tok _ rfl) rfl rfl (by decide) rfl) ?_
      refine ASeq.op0 rfl rfl (AOp.storeP 4 rfl rfl rfl rfl (tok _ rfl) rfl rfl rfl rfl ?_)
      refine ASeq.nil ?_
      refine ACode.seq (ACode.region ?_)
      refine ASeq.q rfl rfl (QOp.fieldM rfl rfl (tok _ rfl) rfl rfl (by decide) rfl) ?_
      refine ASeq.q rfl rfl (QOp.fieldM rfl rfl (tok _ rfl) rfl rfl (by decide) rfl) ?_
      refine ASeq.q rfl rfl (QOp.loadM 3 rfl rfl rfl (tok _ rfl) rfl) ?_
      refine ASeq.q rfl rfl (QOp.loadM 4 rfl rfl rfl (tok _ rfl) rfl) ?_
      refine ASeq.op rfl rfl (AOp.buildSliceR rfl (tok _ rfl) rfl (tok _ rfl) (by decide) rfl (by decide) rfl rfl rfl rfl ?_)
      refine ASeq.op rfl rfl (AOp.appendP 1 (e := 53) (tde := TT 53) rfl rfl rfl rfl (tok _ rfl) rfl (tok _ rfl) (tok _ rfl) rfl (by decide) rfl rfl (fun _ => rfl) (rows_ok 9 _ _ (fun y hy => by obtain ⟨z, _, rfl⟩ := List.mem_map.1 hy; rfl) rfl) (by simp only [List.length_map, List.length_cons, List.length_nil]; omega) rfl (fun _ => ?_))
      refine ASeq.q rfl rfl (QOp.fieldM rfl rfl (tok _ rfl) rfl rfl (by decide) rfl) ?_
      refine ASeq.q rfl rfl (QOp.fieldM rfl rfl (tok _ rfl) rfl rfl (by decide) rfl) ?_
      refine ASeq.op0 rfl rfl (AOp.storeP 3 rfl rfl rfl rfl (tok _ rfl) rfl rfl rfl rfl ?_)
      refine ASeq.nil ?_
      refine ACode.seq ?_
      refine ACode.drawn [[], [], [1], [1, 2], [1, 2, 3], [1, 2, 3, 4], [0], [0, 1, 2, 3, 4, 5, 6]] (by kernel_rfl) mixed ?_
      refine DAny.ld 0 rfl rfl (by kernel_rfl) rfl (.does _ _ rfl (.none rfl) (QOp.loadM 3 rfl rfl rfl (tok _ rfl) rfl)) ?_
      refine DAny.qu 1 rfl rfl (by kernel_rfl) rfl (fun _ => .does _ _ rfl (.none rfl) (QOp.fieldM rfl rfl (tok _ rfl) rfl rfl (by decide) rfl)) ?_
      refine DAny.qu 2 rfl rfl (by kernel_rfl) rfl (fun _ => .does _ _ rfl (.none rfl) (QOp.fieldM rfl rfl (tok _ rfl) rfl rfl (by decide) rfl)) ?_
      refine DAny.ld 3 rfl rfl (by kernel_rfl) rfl (.does _ _ rfl (.none rfl) (QOp.loadM 3 rfl rfl rfl (tok _ rfl) rfl)) ?_
      refine DAny.qu 4 rfl rfl (by kernel_rfl) rfl (fun _ => .does _ _ rfl (.none rfl) (QOp.lenI rfl rfl (tok _ rfl) rfl)) ?_
      -- STOP at 5 (listed 0,1,2,3,4)
      refine DAny.qu 5 rfl rfl (by kernel_rfl) rfl (fun _ => .does _ _ rfl (.none rfl) (QOp.ar64e rfl rfl rfl rfl (m := (p.stmts.length : Int)) (by simp only [List.length_append, List.length_map, List.length_cons, List.length_nil]; omega) ⟨by omega, by omega⟩)) ?_
      refine DAny.ef0 6 rfl (by kernel_rfl) (.none rfl) rfl rfl (AOp.storeP 5 rfl rfl rfl rfl (tok _ rfl) rfl rfl rfl rfl ⟨(by ((refine AllQ.cons (.does _ _ rfl (.none rfl) (QOp.loadM 3 rfl rfl rfl (tok _ rfl) rfl)) ?_); (exact AllQ.nil))), ?_⟩)
      refine DAny.ef 7 rfl (by kernel_rfl) (.none rfl) rfl rfl (.q (QOp.assign rfl rfl) ⟨(by ((exact AllQ.nil))), ?_⟩)
      refine DAny.done (by kernel_rfl) ?_
      refine ACode.ret ?_
      refine bodyQ_ret 3 (.cell 5 rfl rfl (tok _ rfl) rfl (.tmp rfl .nil)) rfl ?_
      rw [show p.add fr x = ({ p with stmts := p.stmts ++ [{ x with fr := fr, to := p.lastTo }] }, (p.stmts.length : Int)) by simp only [PS.add, hm]; rw [if_neg (by simp [hc])]]
      refine RPV.of ?_ rfl
      simp only [PS.cells, List.map_append, List.map_cons, List.map_nil]
      rfl
  · have hc : p.code ≠ 0 := by simpa using hb
    have hm : p.many = p := by simp only [PS.many]; rw [if_neg (fun h => hc h.1)]
    refine ASeq.gno _ _ rfl rfl rfl rfl rfl ?_
    refine ASeq.gno _ _ rfl rfl rfl rfl rfl ?_
    refine ASeq.gno _ _ rfl rfl rfl rfl rfl ?_
    refine ASeq.gno _ _ rfl rfl rfl rfl rfl ?_
    refine ASeq.gno _ _ rfl rfl rfl rfl rfl ?_
    refine ASeq.q rfl rfl (QOp.pickF rfl rfl rfl) ?_
    refine ASeq.nil ?_
    refine AExit.then_normal ?_
    refine ACode.cond _ rfl (fun hb => by cases hb) (fun hb => ?_)
    refine ACode.skip (ACode.seq (ACode.seq (ACode.region ?_)))
    refine ASeq.q rfl rfl (QOp.fieldM rfl rfl (tok _ rfl) rfl rfl (by decide) rfl) ?_
    refine ASeq.q rfl rfl (QOp.loadM 3 rfl rfl rfl (tok _ rfl) rfl) ?_
    refine ASeq.q rfl rfl (QOp.cmp rfl rfl rfl rfl) ?_
    refine ASeq.nil ?_
    refine AExit.then_normal ?_
    refine ACode.cond _ rfl (fun hb => ?_) (fun hb => absurd (by simpa using hb) hc)
    refine ACode.seq (ACode.region ?_)
    refine ASeq.q rfl rfl (QOp.loadM 3 rfl rfl rfl (tok _ rfl) rfl) ?_
    refine ASeq.op0 rfl rfl (AOp.storeP 5 rfl rfl rfl rfl (tok _ rfl) rfl rfl rfl rfl ?_)
    refine ASeq.q rfl rfl (QOp.assign rfl rfl) ?_
    refine ASeq.nil ?_
    refine ACode.ret (AExit.then_ret ?_)
    refine bodyQ_ret 3 (.cell 5 rfl rfl (tok _ rfl) rfl (.tmp rfl .nil)) rfl ?_
    rw [show p.add fr x = (p, 0) by simp only [PS.add, hm]; rw [if_pos hc]]
    exact .mk te ts tf
theorem put_le (p : PS) (h : p.ok) (fr : Int) (x : Ex) (hp : 1 ≤ p.at_ ∨ p.code ≠ 0) {l : AV} (hl : AV.Le l (.il 1 none (ints x.list))) (te ts tf : Nat) :
    ACalls Try.prog 115 [.agg (p.cells te ts tf), vi fr, .agg [vi x.kind, vi x.fr, vi x.to, vi x.num, vs x.name, vs x.op, vi x.a, vi x.b, l]] [.tk te, .tk ts, .tk tf] (RPV (p.put fr x).1 (vi (p.put fr x).2)) :=
  (put_ok p h fr x hp te ts tf).retell (.cons (.refl _) (.cons (.refl _) (.cons (LeL.agg (.cons (.refl _) (.cons (.refl _) (.cons (.refl _) (.cons (.refl _) (.cons (.refl _) (.cons (.refl _) (.cons (.refl _) (.cons (.refl _) (.cons hl .nil)))))))))) .nil)))
theorem add_le (p : PS) (h : p.ok) (fr : Int) (x : St) (hp : 1 ≤ p.at_ ∨ p.code ≠ 0) {l m : AV} (hl : AV.Le l (.il 1 none (ints x.thn))) (hm : AV.Le m (.il 1 none (ints x.els))) (te ts tf : Nat) :
    ACalls Try.prog 99 [.agg (p.cells te ts tf), vi fr, .agg [vi x.kind, vi x.fr, vi x.to, vs x.name, vi x.num, vi x.a, vi x.b, l, m]] [.tk te, .tk ts, .tk tf] (RPV (p.add fr x).1 (vi (p.add fr x).2)) :=
  (add_ok p h fr x hp te ts tf).retell (.cons (.refl _) (.cons (.refl _) (.cons (LeL.agg (.cons (.refl _) (.cons (.refl _) (.cons (.refl _) (.cons (.refl _) (.cons (.refl _) (.cons (.refl _) (.cons (.refl _) (.cons hl (.cons hm .nil)))))))))) .nil)))
theorem nil_le : AV.Le (.v (.slice none 0 0)) (.il 1 none (ints [])) := AV.Le.nilT 1 none
end Go.Proofs.Ytaadamobapnfbaa
set_option linter.unusedVariables false
set_option maxRecDepth 100000
namespace Go.Proofs.Ytaadamobapnfbaa
open Go Go.Abs
theorem numL_snoc (b : UInt8) : ∀ (l : List UInt8) (n : Int), numL (l ++ [b]) n = numL l n * 10 + ((b.toNat : Int) - 48)
  | [], n => rfl
  | x :: l, n => numL_snoc b l _
theorem numL_bd : ∀ (l : List UInt8) (n : Int) (B : Int), digs l → 0 ≤ n → n < B → 0 ≤ numL l n ∧ numL l n < B * 10 ^ l.length
  | [], n, B, _, h0, h1 => by simp [numL]; exact ⟨h0, h1⟩
  | b :: l, n, B, hd, h0, h1 => by
    have hb := hd b (by simp)
    have ih := numL_bd l (n * 10 + ((b.toNat : Int) - 48)) (B * 10) (fun x hx => hd x (by simp [hx])) (by omega) (by omega)
    refine ⟨ih.1, ?_⟩
    have e : B * 10 ^ (b :: l).length = B * 10 * 10 ^ l.length := by rw [List.length_cons, Int.pow_succ', Int.mul_assoc]
    rw [e]; exact ih.2
theorem numL_18 {l : List UInt8} (hd : digs l) (h : l.length ≤ 18) : 0 ≤ numL l 0 ∧ numL l 0 < 1000000000000000000 := by
  have h1 := numL_bd l 0 1 hd (by omega) (by omega)
  refine ⟨h1.1, Int.lt_of_lt_of_le h1.2 ?_⟩
  rw [Int.one_mul]
  have : (10 : Int) ^ l.length ≤ 10 ^ 18 := by
    have := Nat.pow_le_pow_right (n := 10) (by decide) h
    exact_mod_cast this
  exact this
theorem numL_17 {l : List UInt8} (hd : digs l) (h : l.length ≤ 17) : 0 ≤ numL l 0 ∧ numL l 0 < 100000000000000000 := by
  have h1 := numL_bd l 0 1 hd (by omega) (by omega)
  refine ⟨h1.1, Int.lt_of_lt_of_le h1.2 ?_⟩
  rw [Int.one_mul]
  have : (10 : Int) ^ l.length ≤ 10 ^ 17 := by
    have := Nat.pow_le_pow_right (n := 10) (by decide) h
    exact_mod_cast this
  exact this
theorem number_ok (s : ByteArray) (hd : digs s.data.toList) (hs : s.size ≤ 18) : ACalls Try.prog 100 [vs s] [] (RV (vi (number s)) []) := by
  have hsz : s.data.toList.length = s.size := by simp
  refine ACalls.of_code (c := _) Try.func100 rfl Try.ntmps100 (Nat.le_of_ble_eq_true rfl) ?_
  refine ACode.seq (ACode.region ?_)
  refine ASeq.q rfl rfl (QOp.assign rfl rfl) ?_
  refine ASeq.nil ?_
  refine ACode.seq (ACode.region ?_)
  refine ASeq.q rfl rfl (QOp.assign rfl rfl) ?_
  refine ASeq.nil ?_
  refine ACode.seq (ACode.seq (ACode.region ?_))
  refine ASeq.q rfl rfl (QOp.assign rfl rfl) ?_
  refine ASeq.nil ?_
  refine ACode.block ?_
  refine ACode.loopE (fun i : Nat => [(0, vs s), (3, vi (numL (s.data.toList.take i) 0)), (4, vi i)]) (fun _ => []) (fun i => s.size - i) (fun i => i ≤ s.size) 0 (by omega) (.cons rfl (.cons rfl (.cons rfl .nil))) rfl ?_
  intro i hi
  have hdt : digs (s.data.toList.take i) := fun b hb => hd b (List.mem_of_mem_take hb)
  have hb := numL_18 hdt (by simp; omega)
  refine ACode.seq (ACode.seq (ACode.region ?_))
  refine ASeq.q rfl rfl (QOp.move rfl rfl) ?_
  refine ASeq.q rfl rfl (QOp.move rfl rfl) ?_
  refine ASeq.q rfl rfl (QOp.lenS rfl rfl (tok _ rfl) rfl) ?_
  refine ASeq.q rfl rfl (QOp.cmp rfl rfl rfl rfl) ?_
  refine ASeq.nil ?_
  refine AExit.then_normal ?_
  refine ACode.cond _ rfl (fun hb => ?_) (fun hb => ?_)
  · have hlt : i < s.size := by simpa using hb
    have hget : s.data.toList[i]? = some (s.data.toList[i]'(by omega)) := List.getElem?_eq_getElem _
    have hdi := hd (s.data.toList[i]'(by omega)) (List.getElem_mem _)
    have hb7 := numL_17 hdt (by simp; omega)
    refine ACode.skip (ACode.seq (ACode.block (ACode.region ?_)))
    refine ASeq.q rfl rfl (QOp.move rfl rfl) ?_
    refine ASeq.q rfl rfl (QOp.ar64 rfl rfl rfl rfl ⟨by omega, by omega⟩) ?_
    refine ASeq.q rfl rfl (QOp.move rfl rfl) ?_
    refine ASeq.q rfl rfl (QOp.move rfl rfl) ?_
    refine ASeq.q rfl rfl (QOp.indexS rfl rfl rfl (tok _ rfl) rfl (by omega) (by rw [Int.toNat_natCast]; exact hget)) ?_
    refine ASeq.q rfl rfl (QOp.ar rfl rfl rfl rfl (IntWalk.u8_in _ (by omega))) ?_
    refine ASeq.q rfl rfl (QOp.conv rfl rfl (tok _ rfl) rfl (tok _ rfl) (IntWalk.i64_in _ (by omega))) ?_
    refine ASeq.q rfl rfl (QOp.ar64 rfl rfl rfl rfl ⟨by omega, by omega⟩) ?_
    refine ASeq.q rfl rfl (QOp.assign rfl rfl) ?_
    refine ASeq.nil ?_
    refine ACode.region ?_
    refine ASeq.q rfl rfl (QOp.move rfl rfl) ?_
    refine ASeq.q rfl rfl (QOp.ar64 rfl rfl rfl rfl ⟨by omega, by omega⟩) ?_
    refine ASeq.q rfl rfl (QOp.assign rfl rfl) ?_
    refine ASeq.nil ?_
    refine AExit.then_normal ?_
    refine ⟨i + 1, by omega, by omega, .cons rfl (.cons ?_ (.cons ?_ .nil)), rfl⟩
    · rw [List.take_succ_eq_append_getElem (by omega), numL_snoc]; rfl
    · rw [Int.natCast_add]; rfl
  · have hge : i = s.size := by have : s.size ≤ i := by simpa using hb
                                omega
    refine ACode.exit (ACode.seq (ACode.region ?_))
    refine ASeq.q rfl rfl (QOp.move rfl rfl) ?_
    refine ASeq.q rfl rfl (QOp.assign rfl rfl) ?_
    refine ASeq.nil ?_
    refine ACode.ret ?_
    refine bodyQ_ret 0 (.tmp rfl .nil) rfl ?_
    rw [show number s = numL (s.data.toList.take i) 0 by rw [List.take_of_length_le (by omega)]; rfl]
    exact .mk
theorem signs_ok (level : Int) : ACalls Try.prog 122 [vi level] [] (RV (.il 1 none (strs (signs level))) []) := by
  refine ACalls.of_code (c := _) Try.func122 rfl Try.ntmps122 (Nat.le_of_ble_eq_true rfl) ?_
  refine ACode.seq (ACode.region ?_)
  refine ASeq.q rfl rfl (QOp.assign rfl rfl) ?_
  refine ASeq.nil ?_
  refine ACode.seq (ACode.seq (ACode.region ?_))
  refine ASeq.q rfl rfl (QOp.move rfl rfl) ?_
  refine ASeq.nil ?_
  refine ACode.block (ACode.seq (ACode.region ?_))
  refine ASeq.q rfl rfl (QOp.cmp rfl rfl rfl rfl) ?_
  refine ASeq.q rfl rfl (QOp.assign rfl rfl) ?_
  refine ASeq.nil ?_
  refine AExit.then_normal ?_
  refine ACode.cond _ rfl (fun hb => ?_) (fun hb => ?_)
  · have h0 : level = 0 := by simpa using hb
    refine ACode.seq (ACode.region ?_)
    refine ASeq.op rfl rfl (AOp.buildSliceR rfl (tok _ rfl) rfl (tok _ rfl) (by decide) rfl (by decide) rfl rfl rfl rfl ?_)
    refine ASeq.q rfl rfl (QOp.assign rfl rfl) ?_
    refine ASeq.nil ?_
    refine ACode.ret (AExit.in_ret (AExit.then_ret ?_))
    refine bodyQ_ret 0 (.tmp rfl .nil) rfl ?_
    rw [show signs level = [⟨#[124, 124]⟩] by simp [signs, h0]]
    exact .mk
  have h0 : level ≠ 0 := by simpa using hb
  refine ACode.seq (ACode.region ?_)
  refine ASeq.q rfl rfl (QOp.cmp rfl rfl rfl rfl) ?_
  refine ASeq.q rfl rfl (QOp.assign rfl rfl) ?_
  refine ASeq.nil ?_
  refine AExit.then_normal ?_
  refine ACode.cond _ rfl (fun hb => ?_) (fun hb => ?_)
  · have h1 : level = 1 := by simpa using hb
    refine ACode.seq (ACode.region ?_)
    refine ASeq.op rfl rfl (AOp.buildSliceR rfl (tok _ rfl) rfl (tok _ rfl) (by decide) rfl (by decide) rfl rfl rfl rfl ?_)
    refine ASeq.q rfl rfl (QOp.assign rfl rfl) ?_
    refine ASeq.nil ?_
    refine ACode.ret (AExit.in_ret (AExit.then_ret ?_))
    refine bodyQ_ret 0 (.tmp rfl .nil) rfl ?_
    rw [show signs level = [⟨#[38, 38]⟩] by simp [signs, h1]]
    exact .mk
  have h1 : level ≠ 1 := by simpa using hb
  refine ACode.seq (ACode.region ?_)
  refine ASeq.q rfl rfl (QOp.cmp rfl rfl rfl rfl) ?_
  refine ASeq.q rfl rfl (QOp.assign rfl rfl) ?_
  refine ASeq.nil ?_
  refine AExit.then_normal ?_
  refine ACode.cond _ rfl (fun hb => ?_) (fun hb => ?_)
  · have h2 : level = 2 := by simpa using hb
    refine ACode.seq (ACode.region ?_)
    refine ASeq.op rfl rfl (AOp.buildSliceR rfl (tok _ rfl) rfl (tok _ rfl) (by decide) rfl (by decide) rfl rfl rfl rfl ?_)
    refine ASeq.q rfl rfl (QOp.assign rfl rfl) ?_
    refine ASeq.nil ?_
    refine ACode.ret (AExit.in_ret (AExit.then_ret ?_))
    refine bodyQ_ret 0 (.tmp rfl .nil) rfl ?_
    rw [show signs level = [⟨#[61, 61]⟩, ⟨#[33, 61]⟩, ⟨#[60]⟩, ⟨#[60, 61]⟩, ⟨#[62]⟩, ⟨#[62, 61]⟩] by simp [signs, h2]]
    exact .mk
  have h2 : level ≠ 2 := by simpa using hb
  refine ACode.seq (ACode.region ?_)
  refine ASeq.q rfl rfl (QOp.cmp rfl rfl rfl rfl) ?_
  refine ASeq.q rfl rfl (QOp.assign rfl rfl) ?_
  refine ASeq.nil ?_
  refine AExit.then_normal ?_
  refine ACode.cond _ rfl (fun hb => ?_) (fun hb => ?_)
  · have h3 : level = 3 := by simpa using hb
    refine ACode.seq (ACode.region ?_)
    refine ASeq.op rfl rfl (AOp.buildSliceR rfl (tok _ rfl) rfl (tok _ rfl) (by decide) rfl (by decide) rfl rfl rfl rfl ?_)
    refine ASeq.q rfl rfl (QOp.assign rfl rfl) ?_
    refine ASeq.nil ?_
    refine ACode.ret (AExit.in_ret (AExit.then_ret ?_))
    refine bodyQ_ret 0 (.tmp rfl .nil) rfl ?_
    rw [show signs level = [⟨#[43]⟩, ⟨#[45]⟩] by simp [signs, h3]]
    exact .mk
  have h3 : level ≠ 3 := by simpa using hb
  refine ACode.skip (ACode.seq (ACode.region ?_))
  refine ASeq.op rfl rfl (AOp.buildSliceR rfl (tok _ rfl) rfl (tok _ rfl) (by decide) rfl (by decide) rfl rfl rfl rfl ?_)
  refine ASeq.q rfl rfl (QOp.assign rfl rfl) ?_
  refine ASeq.nil ?_
  refine ACode.ret ?_
  refine bodyQ_ret 0 (.tmp rfl .nil) rfl ?_
  rw [show signs level = [⟨#[42]⟩, ⟨#[47]⟩, ⟨#[37]⟩] by simp [signs, h0, h1, h2, h3]]
  exact .mk
end Go.Proofs.Ytaadamobapnfbaa
set_option linter.unusedVariables false
namespace Go.Proofs.Ytaadamobapnfbaa
open Go Go.Abs
abbrev w_true : ByteArray := ⟨#[116, 114, 117, 101]⟩
abbrev w_false : ByteArray := ⟨#[102, 97, 108, 115, 101]⟩
abbrev w_read : ByteArray := ⟨#[114, 101, 97, 100]⟩
abbrev w_lp : ByteArray := ⟨#[40]⟩
abbrev w_rp : ByteArray := ⟨#[41]⟩
abbrev w_lb : ByteArray := ⟨#[91]⟩
abbrev w_rb : ByteArray := ⟨#[93]⟩
abbrev w_lc : ByteArray := ⟨#[123]⟩
abbrev w_rc : ByteArray := ⟨#[125]⟩
abbrev w_comma : ByteArray := ⟨#[44]⟩
abbrev w_minus : ByteArray := ⟨#[45]⟩
abbrev w_bang : ByteArray := ⟨#[33]⟩
abbrev w_if : ByteArray := ⟨#[105, 102]⟩
abbrev w_else : ByteArray := ⟨#[101, 108, 115, 101]⟩
abbrev w_while : ByteArray := ⟨#[119, 104, 105, 108, 101]⟩
abbrev w_var : ByteArray := ⟨#[118, 97, 114]⟩
abbrev w_eq : ByteArray := ⟨#[61]⟩
abbrev w_break : ByteArray := ⟨#[98, 114, 101, 97, 107]⟩
abbrev w_continue : ByteArray := ⟨#[99, 111, 110, 116, 105, 110, 117, 101]⟩
abbrev w_return : ByteArray := ⟨#[114, 101, 116, 117, 114, 110]⟩
abbrev w_print : ByteArray := ⟨#[112, 114, 105, 110, 116]⟩
abbrev w_semi : ByteArray := ⟨#[59]⟩
abbrev w_func : ByteArray := ⟨#[102, 117, 110, 99]⟩
abbrev w_int : ByteArray := ⟨#[105, 110, 116]⟩
def PS.skip (p : PS) : PS := { p with at_ := p.at_ + 1 }
mutual
def row : Nat → PS → Int → Int → PS × Int
  | 0, p, _, _ => (p.fail 98, 0)
  | n + 1, p, level, d =>
    if level = 5 then unary n p d
    else rowLoop n (row n p (level + 1) d).1 (row n p (level + 1) d).2 level d p.here
def rowLoop : Nat → PS → Int → Int → Int → Int → PS × Int
  | 0, p, _, _, _, _ => (p.fail 98, 0)
  | n + 1, p, a, level, d, fr =>
    if (p.sign level).data.toList = [] then (p, a)
    else
      if level = 2 then (row n p.skip (level + 1) d).1.put fr { kind := 9, op := p.sign level, a := a, b := (row n p.skip (level + 1) d).2 }
      else rowLoop n ((row n p.skip (level + 1) d).1.put fr { kind := 9, op := p.sign level, a := a, b := (row n p.skip (level + 1) d).2 }).1
        ((row n p.skip (level + 1) d).1.put fr { kind := 9, op := p.sign level, a := a, b := (row n p.skip (level + 1) d).2 }).2 level d fr
def exprP : Nat → PS → Int → PS × Int
  | 0, p, _ => (p.fail 98, 0)
  | n + 1, p, d => if (p.deep d).code ≠ 0 then (p.deep d, 0) else row n (p.deep d) 0 d
def unary : Nat → PS → Int → PS × Int
  | 0, p, _ => (p.fail 98, 0)
  | n + 1, p, d =>
    if p.is w_minus = true ∨ p.is w_bang = true then
      if (p.skip.deep (d + 1)).code ≠ 0 then (p.skip.deep (d + 1), 0)
      else (unary n (p.skip.deep (d + 1)) (d + 1)).1.put p.here { kind := 8, op := p.word, a := (unary n (p.skip.deep (d + 1)) (d + 1)).2 }
    else primary n p d
def primary : Nat → PS → Int → PS × Int
  | 0, p, _ => (p.fail 98, 0)
  | n + 1, p, d =>
    if p.code ≠ 0 then (p, 0)
    else if p.tok.kind = 2 then (p.kindOf 2).1.put p.here { kind := 1, num := number (p.kindOf 2).2 }
    else if p.is w_true = true then (p.want w_true).put p.here { kind := 2 }
    else if p.is w_false = true then (p.want w_false).put p.here { kind := 3 }
    else if p.is w_read = true then (p.want w_read).put p.here { kind := 7 }
    else if p.is w_lp = true then ((exprP n (p.want w_lp) (d + 1)).1.want w_rp, (exprP n (p.want w_lp) (d + 1)).2)
    else if (p.kindOf 1).1.is w_lb = true then
      ((exprP n ((p.kindOf 1).1.want w_lb) (d + 1)).1.want w_rb).put p.here { kind := 5, name := (p.kindOf 1).2, a := (exprP n ((p.kindOf 1).1.want w_lb) (d + 1)).2 }
    else if (p.kindOf 1).1.is w_lp = true then callP n (p.kindOf 1).1 p.here (p.kindOf 1).2 d
    else (p.kindOf 1).1.put p.here { kind := 4, name := (p.kindOf 1).2 }
def callP : Nat → PS → Int → ByteArray → Int → PS × Int
  | 0, p, _, _, _ => (p.fail 98, 0)
  | n + 1, p, fr, name, d =>
    ((callLoop n (p.want w_lp) [] d).1.want w_rp).put fr { kind := 6, name := name, list := (callLoop n (p.want w_lp) [] d).2 }
def callLoop : Nat → PS → List Int → Int → PS × List Int
  | 0, p, l, _ => (p.fail 98, l)
  | n + 1, p, l, d =>
    if p.code = 0 ∧ p.is w_rp = false then
      callLoop n (exprP n (if l = [] then p else p.want w_comma) (d + 1)).1 (l ++ [(exprP n (if l = [] then p else p.want w_comma) (d + 1)).2]) d
    else (p, l)
end
mutual
def block : Nat → PS → Int → PS × List Int
  | 0, p, _ => (p.fail 98, [])
  | n + 1, p, d =>
    ((blockLoop n ((if p.is w_lc = true then p.deep d else p).want w_lc) [] d).1.want w_rc, (blockLoop n ((if p.is w_lc = true then p.deep d else p).want w_lc) [] d).2)
def blockLoop : Nat → PS → List Int → Int → PS × List Int
  | 0, p, l, _ => (p.fail 98, l)
  | n + 1, p, l, d =>
    if p.code = 0 ∧ p.is w_rc = false then blockLoop n (stmt n p d).1 (l ++ [(stmt n p d).2]) d
    else (p, l)
def stmt : Nat → PS → Int → PS × Int
  | 0, p, _ => (p.fail 98, 0)
  | n + 1, p, d =>
    if p.is w_if = true then branch n (p.want w_if) p.here d
    else if p.is w_while = true then
      (block n (exprP n (p.want w_while) d).1 (d + 1)).1.add p.here { kind := 6, a := (exprP n (p.want w_while) d).2, thn := (block n (exprP n (p.want w_while) d).1 (d + 1)).2 }
    else if p.is w_var = true then
      if ((p.want w_var).kindOf 1).1.is w_lb = true then
        (((((p.want w_var).kindOf 1).1.want w_lb).kindOf 2).1.want w_rb |>.want w_semi).add p.here { kind := 2, name := ((p.want w_var).kindOf 1).2, num := number ((((p.want w_var).kindOf 1).1.want w_lb).kindOf 2).2 }
      else
        ((exprP n (((p.want w_var).kindOf 1).1.want w_eq) d).1.want w_semi).add p.here { kind := 1, name := ((p.want w_var).kindOf 1).2, a := (exprP n (((p.want w_var).kindOf 1).1.want w_eq) d).2 }
    else if p.is w_break = true then ((p.want w_break).want w_semi).add p.here { kind := 7 }
    else if p.is w_continue = true then ((p.want w_continue).want w_semi).add p.here { kind := 8 }
    else if p.is w_return = true then
      if (p.want w_return).is w_semi = true then ((p.want w_return).want w_semi).add p.here { kind := 9, a := -1 }
      else ((exprP n (p.want w_return) d).1.want w_semi).add p.here { kind := 9, a := (exprP n (p.want w_return) d).2 }
    else if p.is w_print = true then ((exprP n (p.want w_print) d).1.want w_semi).add p.here { kind := 10, a := (exprP n (p.want w_print) d).2 }
    else if (p.kindOf 1).1.is w_lp = true then
      ((callP n (p.kindOf 1).1 p.here (p.kindOf 1).2 d).1.want w_semi).add p.here { kind := 11, a := (callP n (p.kindOf 1).1 p.here (p.kindOf 1).2 d).2 }
    else if (p.kindOf 1).1.is w_lb = true then
      ((exprP n (((exprP n ((p.kindOf 1).1.want w_lb) (d + 1)).1.want w_rb).want w_eq) d).1.want w_semi).add p.here
        { kind := 4, name := (p.kindOf 1).2, a := (exprP n ((p.kindOf 1).1.want w_lb) (d + 1)).2, b := (exprP n (((exprP n ((p.kindOf 1).1.want w_lb) (d + 1)).1.want w_rb).want w_eq) d).2 }
    else
      ((exprP n ((p.kindOf 1).1.want w_eq) d).1.want w_semi).add p.here { kind := 3, name := (p.kindOf 1).2, a := (exprP n ((p.kindOf 1).1.want w_eq) d).2 }
def branch : Nat → PS → Int → Int → PS × Int
  | 0, p, _, _ => (p.fail 98, 0)
  | n + 1, p, fr, d =>
    let r := block n (exprP n p d).1 (d + 1)
    let s : St := { kind := 5, a := (exprP n p d).2, thn := r.2 }
    if r.1.is w_else = true then
      let r2 := r.1.want w_else
      if r2.is w_if = true then
        let r3 := r2.deep (d + 1)
        let t := branch n (r3.want w_if) r3.here (d + 1)
        t.1.add fr { s with els := [t.2] }
      else
        let t := block n r2 (d + 1)
        t.1.add fr { s with els := t.2 }
    else r.1.add fr s
end
/-- parameters -/
def params : Nat → PS → List ByteArray → PS × List ByteArray
  | 0, p, l => (p.fail 98, l)
  | n + 1, p, l =>
    if p.code = 0 ∧ p.is w_rp = false then
      params n ((if l = [] then p else p.want w_comma).kindOf 1).1 (l ++ [((if l = [] then p else p.want w_comma).kindOf 1).2])
    else (p, l)
def PS.full (p : PS) : PS := if p.is w_func = true ∧ (32 : Int) ≤ p.funcs.length then p.fail 5 else p
def function (n : Nat) (p : PS) : PS :=
  let q := (p.full.want w_func).kindOf 1
  let l := params n (q.1.want w_lp) []
  let q1 := l.1.want w_rp
  let q2 := if q1.is w_int = true then q1.want w_int else q1
  let r := block n q2 1
  if r.1.code ≠ 0 then r.1
  else { r.1 with funcs := r.1.funcs ++ [{ name := q.2, fr := p.here, to := r.1.lastTo, params := l.2, type := if q1.is w_int = true then 1 else 4, body := r.2 }] }
def parseLoop (k : Nat) : Nat → PS → PS
  | 0, p => p.fail 98
  | n + 1, p => if p.code = 0 ∧ (p.funcs = [] ∨ p.tok.kind ≠ 0) then parseLoop k n (function k p) else p

/-! How far. -/
structure Step (e s : Int) (p q : PS) : Prop where
  text : q.text = p.text
  toks : q.toks = p.toks
  funcs : q.funcs = p.funcs
  at_ : p.at_ ≤ q.at_
  stuck : p.code ≠ 0 → q = p
  at1 : p.ok → q.at_ < q.toks.length
  ex0 : q.code = 0 → q.exprs.length + e ≤ p.exprs.length + (q.at_ - p.at_)
  ex1 : q.code ≠ 0 → q.exprs.length ≤ p.exprs.length + (q.at_ - p.at_)
  st0 : q.code = 0 → q.stmts.length + s ≤ p.stmts.length + (q.at_ - p.at_)
  st1 : q.code ≠ 0 → q.stmts.length ≤ p.stmts.length + (q.at_ - p.at_)
  exs : ∃ xs, q.exprs = p.exprs ++ xs
  sts : ∃ ys, q.stmts = p.stmts ++ ys
theorem Step.ok {e s : Int} {p q : PS} (h : Step e s p q) (he : 0 ≤ e) (hs : 0 ≤ s) (hp : p.ok) : q.ok := by
  have h0 := hp.at0
  have h3 := hp.ex
  have h4 := hp.st
  have h5 := hp.fu
  have ha := h.at_
  refine ⟨by omega, h.at1 hp, by rw [h.toks, h.text]; exact hp.spans, by rw [h.toks]; exact hp.small, ?_, ?_, by rw [h.funcs]; omega, by rw [h.toks]; exact hp.last, by rw [h.toks, h.text]; exact hp.nums⟩
  · by_cases hc : q.code = 0
    · have := h.ex0 hc; omega
    · have := h.ex1 hc; omega
  · by_cases hc : q.code = 0
    · have := h.st0 hc; omega
    · have := h.st1 hc; omega
theorem Step.live {e s : Int} {p q : PS} (h : Step e s p q) (hc : q.code = 0) : p.code = 0 := by
  by_cases hp : p.code = 0
  · exact hp
  · rw [h.stuck hp] at hc; exact hc
theorem Step.refl (p : PS) : Step 0 0 p p := ⟨rfl, rfl, rfl, Int.le_refl _, fun _ => rfl, fun h => h.at1, fun _ => by omega, fun _ => by omega, fun _ => by omega, fun _ => by omega, ⟨[], by simp⟩, ⟨[], by simp⟩⟩
theorem Step.weak {e s e' s' : Int} {p q : PS} (h : Step e s p q) (he : e' ≤ e) (hs : s' ≤ s) : Step e' s' p q :=
  { h with ex0 := fun hc => by have := h.ex0 hc; omega, st0 := fun hc => by have := h.st0 hc; omega }
theorem Step.then {e1 s1 e2 s2 : Int} {p q r : PS} (h : Step e1 s1 p q) (h' : Step e2 s2 q r) (he : 0 ≤ e1) (hs : 0 ≤ s1) : Step (e1 + e2) (s1 + s2) p r := by
  have ha := h.at_
  have ha' := h'.at_
  refine ⟨h'.text.trans h.text, h'.toks.trans h.toks, h'.funcs.trans h.funcs, by omega, fun hc => ?_, fun hp => h'.at1 (h.ok he hs hp), fun hc => ?_, fun hc => ?_, fun hc => ?_, fun hc => ?_, ?_, ?_⟩
  · have e := h.stuck hc
    rw [h'.stuck (by rw [e]; exact hc), e]
  · have h1 := h'.ex0 hc
    have h2 := h.ex0 (h'.live hc)
    omega
  · have h1 := h'.ex1 hc
    by_cases hq : q.code = 0
    · have := h.ex0 hq; omega
    · have := h.ex1 hq; omega
  · have h1 := h'.st0 hc
    have h2 := h.st0 (h'.live hc)
    omega
  · have h1 := h'.st1 hc
    by_cases hq : q.code = 0
    · have := h.st0 hq; omega
    · have := h.st1 hq; omega
  · obtain ⟨a, ea⟩ := h.exs; obtain ⟨b, eb⟩ := h'.exs; exact ⟨a ++ b, by rw [eb, ea, List.append_assoc]⟩
  · obtain ⟨a, ea⟩ := h.sts; obtain ⟨b, eb⟩ := h'.sts; exact ⟨a ++ b, by rw [eb, ea, List.append_assoc]⟩
theorem Step.fail (p : PS) (c : Int) (hc : c ≠ 0) (e s : Int) : Step e s p (p.fail c) := by
  by_cases h : p.code = 0
  · have h1 : p.fail c = { p with code := c, where_ := p.here } := by simp [PS.fail, h]
    rw [h1]
    exact ⟨rfl, rfl, rfl, Int.le_refl _, fun h' => absurd h h', fun h => h.at1, fun h => absurd h hc, fun _ => by simp, fun h => absurd h hc, fun _ => by simp, ⟨[], by simp⟩, ⟨[], by simp⟩⟩
  · have h1 : p.fail c = p := by simp [PS.fail, h]
    rw [h1]
    exact ⟨rfl, rfl, rfl, Int.le_refl _, fun _ => rfl, fun h => h.at1, fun h' => absurd h' h, fun _ => by omega, fun h' => absurd h' h, fun _ => by omega, ⟨[], by simp⟩, ⟨[], by simp⟩⟩
theorem Step.skip (p : PS) (h : p.code = 0) (hk : p.tok.kind ≠ 0) : Step 1 1 p p.skip :=
  ⟨rfl, rfl, rfl, by show p.at_ ≤ p.at_ + 1; omega, fun h' => absurd h h', fun hp => hp.next hk, fun _ => by simp only [PS.skip]; omega, fun _ => by simp only [PS.skip]; omega, fun _ => by simp only [PS.skip]; omega, fun _ => by simp only [PS.skip]; omega, ⟨[], by simp [PS.skip]⟩, ⟨[], by simp [PS.skip]⟩⟩
theorem PS.is_kind {p : PS} {s : ByteArray} (h : p.is s = true) : p.code = 0 ∧ p.tok.kind ≠ 0 := by
  simp only [PS.is, Bool.and_eq_true, beq_iff_eq, bne_iff_ne] at h
  exact ⟨h.1.1, h.1.2⟩
theorem Step.want (p : PS) (s : ByteArray) : Step 1 1 p (p.want s) := by
  unfold PS.want
  split
  · rename_i h; exact .skip p (PS.is_kind h).1 (PS.is_kind h).2
  · exact .fail p 3 (by decide) 1 1
theorem Step.kindOf (p : PS) (k : Int) (hk : k ≠ 0) : Step 1 1 p (p.kindOf k).1 := by
  unfold PS.kindOf
  split
  · exact .fail p 3 (by decide) 1 1
  · rename_i h
    have h1 : p.code = 0 := Decidable.byContradiction fun h' => h (.inl h')
    have h2 : p.tok.kind = k := Decidable.byContradiction fun h' => h (.inr h')
    exact .skip p h1 (by rw [h2]; exact hk)
theorem Step.deep (p : PS) (d : Int) : Step 0 0 p (p.deep d) := by
  unfold PS.deep
  split
  · exact .fail p 4 (by decide) 0 0
  · exact .refl p
theorem Step.put (p : PS) (fr : Int) (x : Ex) : Step (-1) 0 p (p.put fr x).1 := by
  unfold PS.put
  split
  · exact (Step.refl p).weak (by decide) (by decide)
  · rename_i h
    have h : p.code = 0 := Decidable.byContradiction h
    exact ⟨rfl, rfl, rfl, Int.le_refl _, fun h' => absurd h h', fun hp => hp.at1, fun _ => by simp only [List.length_append, List.length_cons, List.length_nil]; omega, fun h' => absurd h h', fun _ => by simp, fun h' => absurd h h', ⟨_, rfl⟩, ⟨[], by simp⟩⟩
theorem Step.many (p : PS) : Step 0 0 p p.many := by
  unfold PS.many
  split
  · exact .fail p 5 (by decide) 0 0
  · exact .refl p
theorem Step.add (p : PS) (fr : Int) (x : St) : Step 0 (-1) p (p.add fr x).1 := by
  unfold PS.add
  simp only
  split
  · exact (Step.many p).weak (by decide) (by decide)
  · rename_i h
    have h : p.many.code = 0 := Decidable.byContradiction h
    have := (Step.many p).then (e2 := 0) (s2 := -1) (r := { p.many with stmts := p.many.stmts ++ [{ x with fr := fr, to := p.many.lastTo }] })
      ⟨rfl, rfl, rfl, Int.le_refl _, fun h' => absurd h h', fun hp => hp.at1, fun _ => by simp, fun h' => absurd h h', fun _ => by simp only [List.length_append, List.length_cons, List.length_nil]; omega, fun h' => absurd h h', ⟨[], by simp⟩, ⟨_, rfl⟩⟩ (by decide) (by decide)
    exact this
theorem signIn_is (p : PS) : ∀ (l : List ByteArray), (∀ s ∈ l, s.data.toList ≠ []) → (signIn p l).data.toList ≠ [] → p.is (signIn p l) = true
  | [], _, h => absurd (by simp [signIn]) h
  | s :: l, hl, h => by
    simp only [signIn] at h ⊢
    split
    · rename_i hs; exact hs
    · rename_i hs
      rw [if_neg hs] at h
      exact signIn_is p l (fun x hx => hl x (by simp [hx])) h
theorem signs_ne (level : Int) : ∀ s ∈ signs level, s.data.toList ≠ [] := by
  unfold signs
  repeat' split
  all_goals simp
theorem sign_is {p : PS} {level : Int} (h : ¬ (p.sign level).data.toList = []) : p.is (p.sign level) = true := signIn_is p _ (signs_ne level) h
end Go.Proofs.Ytaadamobapnfbaa
set_option linter.unusedVariables false
namespace Go.Proofs.Ytaadamobapnfbaa
open Go Go.Abs
/-- what is left, for fuel -/
def PS.mm (p : PS) : Int := if p.code = 0 then 20 * (p.toks.length - p.at_) else 0
theorem PS.mm_live {p : PS} (hp : p.ok) (hc : p.code = 0) : 20 ≤ p.mm := by
  have := hp.at1
  simp only [PS.mm, if_pos hc]; omega
theorem PS.mm_dead {p : PS} (hc : p.code ≠ 0) : p.mm = 0 := by simp only [PS.mm, if_neg hc]
theorem PS.mm_nn {p : PS} (hp : p.ok) : 0 ≤ p.mm := by
  have := hp.at1
  unfold PS.mm; split <;> omega
theorem Step.le {e s : Int} {p q : PS} (h : Step e s p q) (hp : p.ok) : q.mm ≤ p.mm := by
  by_cases hq : q.code = 0
  · have := h.live hq
    have := h.at_
    simp only [PS.mm, if_pos hq, if_pos (h.live hq), h.toks]; omega
  · rw [PS.mm_dead hq]; exact PS.mm_nn hp
theorem Step.go {e s : Int} {p q : PS} (h : Step e s p q) (hp : p.ok) (hc : p.code = 0) (he : 1 ≤ e ∨ 1 ≤ s) : q.mm + 20 ≤ p.mm := by
  by_cases hq : q.code = 0
  · have h0 := h.at_
    have : p.at_ < q.at_ := by
      obtain ⟨a, ea⟩ := h.exs
      obtain ⟨b, eb⟩ := h.sts
      have e1 := h.ex0 hq
      have e2 := h.st0 hq
      rw [ea, List.length_append] at e1
      rw [eb, List.length_append] at e2
      omega
    simp only [PS.mm, if_pos hq, if_pos (h.live hq), h.toks]; omega
  · rw [PS.mm_dead hq]; have := PS.mm_live hp hc; omega
theorem Step.pos {e s : Int} {p q : PS} (h : Step e s p q) (hp : p.ok) (he : 1 ≤ e ∨ 1 ≤ s) : 1 ≤ q.at_ ∨ q.code ≠ 0 := by
  by_cases hq : q.code = 0
  · have h0 := h.at_
    have h00 := hp.at0
    left
    obtain ⟨a, ea⟩ := h.exs
    obtain ⟨b, eb⟩ := h.sts
    have e1 := h.ex0 hq
    have e2 := h.st0 hq
    rw [ea, List.length_append] at e1
    rw [eb, List.length_append] at e2
    omega
  · exact .inr hq
theorem PS.is_dead {p : PS} (hc : p.code ≠ 0) (s : ByteArray) : p.is s = false := by
  simp only [PS.is, beq_eq_false_iff_ne.2 hc, Bool.false_and]

structure Steps (n : Nat) : Prop where
  row : ∀ p l d, Step 0 1 p (row n p l d).1
  rowLoop : ∀ p a l d fr, Step 0 0 p (rowLoop n p a l d fr).1
  exprP : ∀ p d, Step 0 1 p (exprP n p d).1
  unary : ∀ p d, Step 0 1 p (unary n p d).1
  primary : ∀ p d, Step 0 1 p (primary n p d).1
  callP : ∀ p fr name d, Step 1 2 p (callP n p fr name d).1
  callLoop : ∀ p l d, Step 0 0 p (callLoop n p l d).1
/-- as far as code ≠ 0: it's stuck, and all is as wide as one likes -/
theorem Step.dead {p : PS} (hc : p.code ≠ 0) (e s : Int) : Step e s p p :=
  ⟨rfl, rfl, rfl, Int.le_refl _, fun _ => rfl, fun h => h.at1, fun h => absurd h hc, fun _ => by omega, fun h => absurd h hc, fun _ => by omega, ⟨[], by simp⟩, ⟨[], by simp⟩⟩
theorem Step.of_dead {e s : Int} {p q : PS} (h : Step e s p q) (hc : q.code ≠ 0) (e' s' : Int) : Step e' s' p q :=
  { h with ex0 := fun h => absurd h hc, st0 := fun h => absurd h hc }
theorem steps : ∀ n, Steps n
  | 0 => ⟨fun p _ _ => .fail p 98 (by decide) _ _, fun p _ _ _ _ => .fail p 98 (by decide) _ _, fun p _ => .fail p 98 (by decide) _ _, fun p _ => .fail p 98 (by decide) _ _,
      fun p _ => .fail p 98 (by decide) _ _, fun p _ _ _ => .fail p 98 (by decide) _ _, fun p _ _ => .fail p 98 (by decide) _ _⟩
  | n + 1 => by
    have ih := steps n
    refine ⟨fun p l d => ?_, fun p a l d fr => ?_, fun p d => ?_, fun p d => ?_, fun p d => ?_, fun p fr name d => ?_, fun p l d => ?_⟩
    · unfold Ytaadamobapnfbaa.row
      split
      · exact ih.unary p d
      · exact ((ih.row p _ d).then (ih.rowLoop _ _ _ _ _) (by decide) (by decide)).weak (by decide) (by decide)
    · unfold Ytaadamobapnfbaa.rowLoop
      split
      · exact .refl p
      · rename_i hs
        have hi := PS.is_kind (sign_is hs)
        have h1 := ((Step.skip p hi.1 hi.2).then (ih.row p.skip (l + 1) d) (by decide) (by decide)).then (Step.put _ fr { kind := 9, op := p.sign l, a := a, b := (Ytaadamobapnfbaa.row n p.skip (l + 1) d).2 }) (by decide) (by decide)
        split
        · exact h1.weak (by decide) (by decide)
        · exact (h1.then (ih.rowLoop _ _ _ _ _) (by decide) (by decide)).weak (by decide) (by decide)
    · unfold Ytaadamobapnfbaa.exprP
      split
      · rename_i h; exact (Step.deep p d).of_dead h _ _
      · exact ((Step.deep p d).then (ih.row _ 0 d) (by decide) (by decide)).weak (by decide) (by decide)
    · unfold Ytaadamobapnfbaa.unary
      split
      · rename_i h
        have hi : p.code = 0 ∧ p.tok.kind ≠ 0 := by rcases h with h | h <;> exact PS.is_kind h
        have h1 := (Step.skip p hi.1 hi.2).then (Step.deep p.skip (d + 1)) (by decide) (by decide)
        split
        · rename_i h; exact h1.of_dead h _ _
        · exact ((h1.then (ih.unary _ (d + 1)) (by decide) (by decide)).then (Step.put _ _ _) (by decide) (by decide)).weak (by decide) (by decide)
      · exact ih.primary p d
    · unfold Ytaadamobapnfbaa.primary
      split
      · rename_i h; exact .dead h _ _
      split
      · exact ((Step.kindOf p 2 (by decide)).then (Step.put _ _ _) (by decide) (by decide)).weak (by decide) (by decide)
      split
      · exact ((Step.want p _).then (Step.put _ _ _) (by decide) (by decide)).weak (by decide) (by decide)
      split
      · exact ((Step.want p _).then (Step.put _ _ _) (by decide) (by decide)).weak (by decide) (by decide)
      split
      · exact ((Step.want p _).then (Step.put _ _ _) (by decide) (by decide)).weak (by decide) (by decide)
      split
      · exact (((Step.want p _).then (ih.exprP _ _) (by decide) (by decide)).then (Step.want _ _) (by decide) (by decide)).weak (by decide) (by decide)
      have hk := Step.kindOf p 1 (by decide)
      split
      · exact ((((hk.then (Step.want _ _) (by decide) (by decide)).then (ih.exprP _ _) (by decide) (by decide)).then (Step.want _ _) (by decide) (by decide)).then (Step.put _ _ _) (by decide) (by decide)).weak (by decide) (by decide)
      split
      · exact (hk.then (ih.callP _ _ _ _) (by decide) (by decide)).weak (by decide) (by decide)
      · exact (hk.then (Step.put _ _ _) (by decide) (by decide)).weak (by decide) (by decide)
    · unfold Ytaadamobapnfbaa.callP
      exact ((((Step.want p _).then (ih.callLoop _ _ _) (by decide) (by decide)).then (Step.want _ _) (by decide) (by decide)).then (Step.put _ _ _) (by decide) (by decide)).weak (by decide) (by decide)
    · unfold Ytaadamobapnfbaa.callLoop
      split
      · have h0 : Step 0 0 p (if l = [] then p else p.want w_comma) := by
          split
          · exact .refl p
          · exact (Step.want p _).weak (by decide) (by decide)
        exact ((h0.then (ih.exprP _ _) (by decide) (by decide)).then (ih.callLoop _ _ _) (by decide) (by decide)).weak (by decide) (by decide)
      · exact .refl p
structure Steps2 (n : Nat) : Prop where
  block : ∀ p d, Step 2 2 p (block n p d).1
  blockLoop : ∀ p l d, Step 0 0 p (blockLoop n p l d).1
  stmt : ∀ p d, Step 1 0 p (stmt n p d).1
  branch : ∀ p fr d, Step 2 2 p (branch n p fr d).1
theorem steps2 : ∀ n, Steps2 n
  | 0 => ⟨fun p _ => .fail p 98 (by decide) _ _, fun p _ _ => .fail p 98 (by decide) _ _, fun p _ => .fail p 98 (by decide) _ _, fun p _ _ => .fail p 98 (by decide) _ _⟩
  | n + 1 => by
    have ih := steps2 n
    have ie := steps n
    refine ⟨fun p d => ?_, fun p l d => ?_, fun p d => ?_, fun p fr d => ?_⟩
    · unfold Ytaadamobapnfbaa.block
      have h0 : Step 0 0 p (if p.is w_lc = true then p.deep d else p) := by
        split
        · exact .deep p d
        · exact .refl p
      exact (((h0.then (Step.want _ _) (by decide) (by decide)).then (ih.blockLoop _ _ _) (by decide) (by decide)).then (Step.want _ _) (by decide) (by decide)).weak (by decide) (by decide)
    · unfold Ytaadamobapnfbaa.blockLoop
      split
      · exact ((ih.stmt _ _).then (ih.blockLoop _ _ _) (by decide) (by decide)).weak (by decide) (by decide)
      · exact .refl p
    · unfold Ytaadamobapnfbaa.stmt
      split
      · exact ((Step.want p _).then (ih.branch _ _ _) (by decide) (by decide)).weak (by decide) (by decide)
      split
      · exact ((((Step.want p _).then (ie.exprP _ _) (by decide) (by decide)).then (ih.block _ _) (by decide) (by decide)).then (Step.add _ _ _) (by decide) (by decide)).weak (by decide) (by decide)
      split
      · have hk := (Step.want p w_var).then (Step.kindOf _ 1 (by decide)) (by decide) (by decide)
        split
        · exact (((((hk.then (Step.want _ _) (by decide) (by decide)).then (Step.kindOf _ 2 (by decide)) (by decide) (by decide)).then (Step.want _ _) (by decide) (by decide)).then (Step.want _ _) (by decide) (by decide)).then (Step.add _ _ _) (by decide) (by decide)).weak (by decide) (by decide)
        · exact ((((hk.then (Step.want _ _) (by decide) (by decide)).then (ie.exprP _ _) (by decide) (by decide)).then (Step.want _ _) (by decide) (by decide)).then (Step.add _ _ _) (by decide) (by decide)).weak (by decide) (by decide)
      split
      · exact (((Step.want p _).then (Step.want _ _) (by decide) (by decide)).then (Step.add _ _ _) (by decide) (by decide)).weak (by decide) (by decide)
      split
      · exact (((Step.want p _).then (Step.want _ _) (by decide) (by decide)).then (Step.add _ _ _) (by decide) (by decide)).weak (by decide) (by decide)
      split
      · split
        · exact (((Step.want p _).then (Step.want _ _) (by decide) (by decide)).then (Step.add _ _ _) (by decide) (by decide)).weak (by decide) (by decide)
        · exact ((((Step.want p _).then (ie.exprP _ _) (by decide) (by decide)).then (Step.want _ _) (by decide) (by decide)).then (Step.add _ _ _) (by decide) (by decide)).weak (by decide) (by decide)
      split
      · exact ((((Step.want p _).then (ie.exprP _ _) (by decide) (by decide)).then (Step.want _ _) (by decide) (by decide)).then (Step.add _ _ _) (by decide) (by decide)).weak (by decide) (by decide)
      have hk := Step.kindOf p 1 (by decide)
      split
      · exact (((hk.then (ie.callP _ _ _ _) (by decide) (by decide)).then (Step.want _ _) (by decide) (by decide)).then (Step.add _ _ _) (by decide) (by decide)).weak (by decide) (by decide)
      split
      · exact ((((((((hk.then (Step.want _ _) (by decide) (by decide)).then (ie.exprP _ _) (by decide) (by decide)).then (Step.want _ _) (by decide) (by decide)).then (Step.want _ _) (by decide) (by decide)).then (ie.exprP _ _) (by decide) (by decide)).then (Step.want _ _) (by decide) (by decide)).then (Step.add _ _ _) (by decide) (by decide))).weak (by decide) (by decide)
      · exact ((((hk.then (Step.want _ _) (by decide) (by decide)).then (ie.exprP _ _) (by decide) (by decide)).then (Step.want _ _) (by decide) (by decide)).then (Step.add _ _ _) (by decide) (by decide)).weak (by decide) (by decide)
    · unfold Ytaadamobapnfbaa.branch
      simp (config := { zeta := true }) only []
      have h1 := (ie.exprP p d).then (ih.block _ (d + 1)) (by decide) (by decide)
      split
      · have h2 := h1.then (Step.want _ w_else) (by decide) (by decide)
        split
        · exact ((((h2.then (Step.deep _ _) (by decide) (by decide)).then (Step.want _ _) (by decide) (by decide)).then (ih.branch _ _ _) (by decide) (by decide)).then (Step.add _ _ _) (by decide) (by decide)).weak (by decide) (by decide)
        · exact ((h2.then (ih.block _ _) (by decide) (by decide)).then (Step.add _ _ _) (by decide) (by decide)).weak (by decide) (by decide)
      · exact (h1.then (Step.add _ _ _) (by decide) (by decide)).weak (by decide) (by decide)
end Go.Proofs.Ytaadamobapnfbaa
set_option linter.unusedVariables false
set_option maxRecDepth 100000
namespace Go.Proofs.Ytaadamobapnfbaa
open Go Go.Abs
theorem strs_get {l : List ByteArray} {i : Nat} (h : i < l.length) : (strs l)[i]? = some [vs l[i]] := by
  simp only [strs, List.getElem?_map, List.getElem?_eq_getElem h, Option.map_some]
theorem ints_get {l : List Int} {i : Nat} (h : i < l.length) : (ints l)[i]? = some [vi l[i]] := by
  simp only [ints, List.getElem?_map, List.getElem?_eq_getElem h, Option.map_some]
theorem signIn_drop (p : PS) (l : List ByteArray) (i : Nat) (h : i < l.length) : signIn p (l.drop i) = if p.is l[i] = true then l[i] else signIn p (l.drop (i + 1)) := by
  rw [List.drop_eq_getElem_cons h]; rfl
theorem signs_len (level : Int) : (signs level).length ≤ 6 := by
  unfold signs
  repeat' split
  all_goals decide
theorem sign_ok (p : PS) (h : p.ok) (level : Int) (te ts tf : Nat) : ACalls Try.prog 120 [.agg (p.cells te ts tf), vi level] [] (RV (vs (p.sign level)) []) := by
  have hl := signs_len level
  refine ACalls.of_code (c := _) Try.func120 rfl Try.ntmps120 (Nat.le_of_ble_eq_true rfl) ?_
  refine ACode.seq (ACode.region ?_)
  refine ASeq.op rfl rfl (AOp.boxP rfl rfl rfl (fun _ => rfl) (fun _ => ?_))
  refine ASeq.q rfl rfl (QOp.assign rfl rfl) ?_
  refine ASeq.nil ?_
  refine ACode.seq (ACode.region ?_)
  refine ASeq.q rfl rfl (QOp.move rfl rfl) ?_
  refine ASeq.op rfl rfl (AOp.callP 0 rfl (by kernel_rfl) rfl rfl rfl (signs_ok level) ?_ (by rintro _ _ ⟨⟩))
  rintro _ _ ⟨⟩
  refine ASeq.q rfl rfl (QOp.assign rfl rfl) ?_
  refine ASeq.nil ?_
  refine ACode.seq (ACode.seq (ACode.region ?_))
  refine ASeq.q rfl rfl (QOp.move rfl rfl) ?_
  refine ASeq.q rfl rfl (QOp.lenI rfl rfl (tok _ rfl) rfl) ?_
  refine ASeq.q rfl rfl (QOp.move rfl rfl) ?_
  refine ASeq.nil ?_
  refine ACode.block ?_
  refine ACode.loopP (fun i : Nat => [(2, .mp _ 0), (5, .il 1 none (strs (signs level))), (10, vi ((strs (signs level)).length : Int)), (11, vi i)]) (fun _ => [.mu _ (p.cells te ts tf)]) (fun i => (signs level).length - i)
    (fun i => i ≤ (signs level).length ∧ signIn p ((signs level).drop i) = p.sign level) 0 ⟨Nat.zero_le _, rfl⟩ (.cons rfl (.cons rfl (.cons rfl (.cons rfl .nil)))) 1 rfl ?_
  rintro i ⟨hi, he⟩
  refine ACode.seq (ACode.region ?_)
  refine ASeq.q rfl rfl (QOp.cmp rfl rfl rfl rfl) ?_
  refine ASeq.nil ?_
  refine ACode.seq ?_
  refine ACode.cond _ rfl (fun hb => ?_) (fun hb => ?_)
  · have hlt : i < (signs level).length := by simpa [strs] using hb
    have hget := strs_get hlt
    rw [signIn_drop p _ i hlt] at he
    refine ACode.skip (ACode.seq (ACode.block (ACode.seq (ACode.region ?_))))
    refine ASeq.q rfl rfl (QOp.move rfl rfl) ?_
    refine ASeq.q rfl rfl (QOp.assign rfl rfl) ?_
    refine ASeq.nil ?_
    refine ACode.seq ?_
    refine ACode.drawn [[], [], [], [1, 2], [1, 2, 3], [0, 1, 2, 3, 4]] (by kernel_rfl) mixed ?_
    refine DAny.ld 0 rfl rfl (by kernel_rfl) rfl (.does _ _ rfl (.none rfl) (QOp.loadM 0 rfl rfl rfl (tok _ rfl) rfl)) ?_
    refine DAny.qu 1 rfl rfl (by kernel_rfl) rfl (fun _ => .does _ _ rfl (.none rfl) (QOp.move rfl rfl)) ?_
    refine DAny.qu 2 rfl rfl (by kernel_rfl) rfl (fun _ => .does _ _ rfl (.none rfl) (QOp.move rfl rfl)) ?_
    refine DAny.qu 3 rfl rfl (by kernel_rfl) rfl (fun _ => .does _ _ rfl (.none rfl) (QOp.indexI rfl rfl rfl (tok _ rfl) rfl (tok _ rfl) (by omega) (by assumption))) ?_
    refine DAny.qu 4 rfl rfl (by kernel_rfl) rfl (fun _ => .does _ _ rfl (.none rfl) (QOp.loadI rfl rfl (tok _ rfl) rfl)) ?_
    refine DAny.ef 5 rfl (by kernel_rfl) (.none rfl) rfl rfl (AOp.callP 0 rfl (by kernel_rfl) rfl rfl rfl (is_ok p h (signs level)[i] _ _ _) ?_ (by rintro _ _ ⟨⟩))
    rintro _ _ ⟨⟩
    refine ⟨(by ((exact AllQ.nil))), ?_⟩
    refine DAny.done (by kernel_rfl) ?_
    refine AExit.then_normal ?_
    refine ACode.cond _ rfl (fun hb => ?_) (fun hb => ?_)
    · refine ACode.seq (ACode.region ?_)
      refine ASeq.q rfl rfl (QOp.move rfl rfl) ?_
      refine ASeq.q rfl rfl (QOp.move rfl rfl) ?_
      refine ASeq.q rfl rfl (QOp.indexI rfl rfl rfl (tok _ rfl) rfl (tok _ rfl) (by omega) (by assumption)) ?_
      refine ASeq.q rfl rfl (QOp.loadI rfl rfl (tok _ rfl) rfl) ?_
      refine ASeq.q rfl rfl (QOp.assign rfl rfl) ?_
      refine ASeq.nil ?_
      refine ACode.ret (AExit.in_ret (AExit.then_ret (AExit.then_ret (AExit.in_ret (AExit.then_ret ?_)))))
      refine bodyQ_ret 0 (.tmp rfl .nil) rfl ?_
      rw [← he, if_pos hb]; exact .mk
    · refine ACode.skip (ACode.region ?_)
      refine ASeq.q rfl rfl (QOp.ar64 rfl rfl rfl rfl ⟨by omega, by omega⟩) ?_
      refine ASeq.q rfl rfl (QOp.move rfl rfl) ?_
      refine ASeq.nil ?_
      refine AExit.then_normal ?_
      refine ⟨i + 1, 1, ⟨hlt, ?_⟩, by omega, .cons rfl (.cons rfl (.cons rfl (.cons rfl .nil))), rfl⟩
      rw [← he, if_neg (by rw [hb]; decide)]
  · have hge : i = (signs level).length := by
      have : ¬ i < (signs level).length := by simpa [strs] using hb
      omega
    refine ACode.exit (ACode.seq (ACode.region ?_))
    refine ASeq.q rfl rfl (QOp.assign rfl rfl) ?_
    refine ASeq.nil ?_
    refine ACode.ret ?_
    refine bodyQ_ret 0 (.tmp rfl .nil) rfl ?_
    rw [← he, hge, List.drop_length]; exact .mk
end Go.Proofs.Ytaadamobapnfbaa
set_option linter.unusedVariables false
set_option linter.unusedSimpArgs false
set_option maxRecDepth 100000
namespace Go.Proofs.Ytaadamobapnfbaa
open Go Go.Abs
def dmax : Int := 1099511627776
structure Walks (n : Nat) : Prop where
  row : ∀ (p : PS) (l d : Int), p.ok → 0 ≤ l → l ≤ 5 → 0 ≤ d → d + p.mm ≤ dmax → p.mm + 8 - l ≤ n → ∀ te ts tf : Nat, ACalls Try.prog 114 [.agg (p.cells te ts tf), vi l, vi d] [.tk te, .tk ts, .tk tf] (RPV (row n p l d).1 (vi (row n p l d).2))
  exprP : ∀ (p : PS) (d : Int), p.ok → 0 ≤ d → d + p.mm ≤ dmax → p.mm + 9 ≤ n → ∀ te ts tf : Nat, ACalls Try.prog 98 [.agg (p.cells te ts tf), vi d] [.tk te, .tk ts, .tk tf] (RPV (exprP n p d).1 (vi (exprP n p d).2))
  unary : ∀ (p : PS) (d : Int), p.ok → 0 ≤ d → d + p.mm ≤ dmax → p.mm + 2 ≤ n → ∀ te ts tf : Nat, ACalls Try.prog 119 [.agg (p.cells te ts tf), vi d] [.tk te, .tk ts, .tk tf] (RPV (unary n p d).1 (vi (unary n p d).2))
  primary : ∀ (p : PS) (d : Int), p.ok → 0 ≤ d → d + p.mm ≤ dmax → p.mm + 1 ≤ n → ∀ te ts tf : Nat, ACalls Try.prog 121 [.agg (p.cells te ts tf), vi d] [.tk te, .tk ts, .tk tf] (RPV (primary n p d).1 (vi (primary n p d).2))
  callP : ∀ (p : PS) (fr : Int) (name : ByteArray) (d : Int), p.ok → 0 ≤ d → d + p.mm ≤ dmax → p.mm + 11 ≤ n → ∀ te ts tf : Nat, ACalls Try.prog 101 [.agg (p.cells te ts tf), vi fr, vs name, vi d] [.tk te, .tk ts, .tk tf] (RPV (callP n p fr name d).1 (vi (callP n p fr name d).2))
theorem le_dm {d a b : Int} (h : d + a ≤ dmax) (h' : b + 20 ≤ a) : d + b ≤ dmax := by omega
theorem le_k {k : Nat} {a b : Int} (h : a + 1 ≤ (k + 1 : Nat)) (h' : b + 20 ≤ a) : b + 1 ≤ k := by omega
theorem row_walk (n : Nat) (ih : ∀ k < n + 1, Walks k) (p : PS) (l d : Int) (te ts tf : Nat) (h : p.ok) (hl0 : 0 ≤ l) (hl5 : l ≤ 5) (hd : 0 ≤ d) (hdm : d + p.mm ≤ dmax) (hm : p.mm + 8 - l ≤ (n + 1 : Nat)) :
    ACalls Try.prog 114 [.agg (p.cells te ts tf), vi l, vi d] [.tk te, .tk ts, .tk tf] (RPV (row (n + 1) p l d).1 (vi (row (n + 1) p l d).2)) := by
  have hnn := PS.mm_nn h
  have ih0 := ih n (by omega)
  refine ACalls.of_code (c := _) Try.func114 rfl Try.ntmps114 (Nat.le_of_ble_eq_true rfl) ?_
  refine ACode.seq (ACode.region ?_)
  refine ASeq.op rfl rfl (AOp.boxP rfl rfl rfl (fun _ => rfl) (fun _ => ?_))
  refine ASeq.op rfl rfl (AOp.allocP rfl (tok _ rfl) rfl rfl (fun _ => rfl) (fun _ => ?_))
  refine ASeq.q rfl rfl (QOp.assign rfl rfl) ?_
  refine ASeq.nil ?_
  refine ACode.seq (ACode.seq (ACode.region ?_))
  refine ASeq.q rfl rfl (QOp.move rfl rfl) ?_
  refine ASeq.q rfl rfl (QOp.cmp rfl rfl rfl rfl) ?_
  refine ASeq.nil ?_
  refine AExit.then_normal ?_
  refine ACode.cond _ rfl (fun hb => ?_) (fun hb => ?_)
  · have hl : l = 5 := by simpa using hb
    refine ACode.seq (ACode.region ?_)
    refine ASeq.q rfl rfl (QOp.loadM 3 rfl rfl rfl (tok _ rfl) rfl) ?_
    refine ASeq.q rfl rfl (QOp.move rfl rfl) ?_
    refine ASeq.op rfl rfl (AOp.callP 3 rfl (by kernel_rfl) rfl rfl rfl (ih0.unary p d h hd hdm (by omega) _ _ _) ?_ (by rintro _ _ ⟨⟩))
    rintro _ _ ⟨te, ts, tf⟩
    refine ASeq.q rfl rfl (QOp.extract rfl rfl rfl) ?_
    refine ASeq.q rfl rfl (QOp.extract rfl rfl rfl) ?_
    refine ASeq.op0 rfl rfl (AOp.storeP 4 rfl rfl rfl rfl (tok _ rfl) rfl rfl rfl rfl ?_)
    refine ASeq.q rfl rfl (QOp.assign rfl rfl) ?_
    refine ASeq.nil ?_
    refine ACode.ret (AExit.then_ret ?_)
    refine bodyQ_ret 3 (.cell 4 rfl rfl (tok _ rfl) rfl (.tmp rfl .nil)) rfl ?_
    rw [show row (n + 1) p l d = unary n p d by simp only [row, if_pos hl]]
    exact .mk _ _ _
  · have hl : ¬ l = 5 := by simpa using hb
    have hrow : row (n + 1) p l d = rowLoop n (row n p (l + 1) d).1 (row n p (l + 1) d).2 l d p.here := by simp only [row, if_neg hl]
    have s1 := (steps n).row p (l + 1) d
    have h1 := s1.ok (by decide) (by decide) h
    have hm1 := s1.le h
    refine ACode.skip (ACode.seq (ACode.region ?_))
    refine ASeq.q rfl rfl (QOp.loadM 3 rfl rfl rfl (tok _ rfl) rfl) ?_
    refine ASeq.op rfl rfl (AOp.callP 0 rfl (by kernel_rfl) rfl rfl rfl (here_ok p h _ _ _) ?_ (by rintro _ _ ⟨⟩))
    rintro _ _ ⟨⟩
    refine ASeq.q rfl rfl (QOp.assign rfl rfl) ?_
    refine ASeq.nil ?_
    refine ACode.seq (ACode.region ?_)
    refine ASeq.q rfl rfl (QOp.loadM 3 rfl rfl rfl (tok _ rfl) rfl) ?_
    refine ASeq.q rfl rfl (QOp.move rfl rfl) ?_
    refine ASeq.q rfl rfl (QOp.ar64 rfl rfl rfl rfl ⟨by omega, by omega⟩) ?_
    refine ASeq.q rfl rfl (QOp.move rfl rfl) ?_
    refine ASeq.op rfl rfl (AOp.callP 3 rfl (by kernel_rfl) rfl rfl rfl (ih0.row p (l + 1) d h (by omega) (by omega) hd hdm (by omega) _ _ _) ?_ (by rintro _ _ ⟨⟩))
    rintro _ _ ⟨te, ts, tf⟩
    refine ASeq.q rfl rfl (QOp.move rfl rfl) ?_
    refine ASeq.q rfl rfl (QOp.extract rfl rfl rfl) ?_
    refine ASeq.q rfl rfl (QOp.extract rfl rfl rfl) ?_
    refine ASeq.op0 rfl rfl (AOp.storeP 3 rfl rfl rfl rfl (tok _ rfl) rfl rfl rfl rfl ?_)
    refine ASeq.q rfl rfl (QOp.assign rfl rfl) ?_
    refine ASeq.nil ?_
    refine ACode.seq (ACode.block ?_)
    refine ACode.loopP (fun (x : Nat × PS × Int × Nat × Nat × Nat) => [(1, vi l), (2, vi d), (3, .mp _ 0), (6, .mp _ 0), (8, vi p.here), (9, vi x.2.2.1)])
      (fun (x : Nat × PS × Int × Nat × Nat × Nat) => [.tk x.2.2.2.1, .tk x.2.2.2.2.1, .tk x.2.2.2.2.2, .mu _ (x.2.1.cells x.2.2.2.1 x.2.2.2.2.1 x.2.2.2.2.2), .mu _ _]) (fun x => x.1)
      (fun x => x.1 ≤ n ∧ x.2.1.ok ∧ d + x.2.1.mm ≤ dmax ∧ x.2.1.mm + 1 ≤ x.1 ∧ rowLoop x.1 x.2.1 x.2.2.1 l d p.here = row (n + 1) p l d) (n, (row n p (l + 1) d).1, (row n p (l + 1) d).2, te, ts, tf)
      ⟨Nat.le_refl _, h1, by dsimp only; omega, by dsimp only; omega, hrow.symm⟩ (.cons rfl (.cons rfl (.cons rfl (.cons rfl (.cons rfl (.cons rfl .nil)))))) 5 rfl ?_
    rintro ⟨k, q, a, te, ts, tf⟩ ⟨hk, hq, hqd, hqm, hres⟩
    dsimp only at hk hq hqd hqm hres
    have hqn := PS.mm_nn hq
    obtain ⟨k, rfl⟩ : ∃ k', k = k' + 1 := ⟨k - 1, by omega⟩
    have ihk := ih k (by omega)
    refine ACode.seq (ACode.seq (ACode.region ?_))
    refine ASeq.q rfl rfl (QOp.loadM 3 rfl rfl rfl (tok _ rfl) rfl) ?_
    refine ASeq.q rfl rfl (QOp.move rfl rfl) ?_
    refine ASeq.op rfl rfl (AOp.callP 0 rfl (by kernel_rfl) rfl rfl rfl (sign_ok q hq l _ _ _) ?_ (by rintro _ _ ⟨⟩))
    rintro _ _ ⟨⟩
    refine ASeq.q rfl rfl (QOp.cmpStr rfl rfl rfl rfl) ?_
    refine ASeq.nil ?_
    refine AExit.then_normal ?_
    refine ACode.cond _ rfl (fun hb => ?_) (fun hb => ?_)
    · have hs : ¬ (q.sign l).data.toList = [] := by simpa using hb
      have hi := PS.is_kind (sign_is hs)
      have h0 := hq.at0
      have h1 := hq.at1
      have h2 := hq.small
      simp only [rowLoop, if_neg hs] at hres
      have t1 := Step.skip q hi.1 hi.2
      have ok1 := t1.ok (by decide) (by decide) hq
      have m1 := t1.go hq hi.1 (.inl (by decide))
      have t2 := (steps k).row q.skip (l + 1) d
      have ok2 := t2.ok (by decide) (by decide) ok1
      have m2 := t2.le ok1
      have t12 := t1.then t2 (by decide) (by decide)
      have pos := t12.pos hq (.inl (by decide))
      have t3 := t12.then (Step.put _ p.here { kind := 9, op := q.sign l, a := a, b := (row k q.skip (l + 1) d).2 }) (by decide) (by decide)
      have ok3 := t3.ok (by decide) (by decide) hq
      have m3 := t3.go hq hi.1 (.inr (by decide))
      refine ACode.skip (ACode.block (ACode.seq (ACode.region ?_)))
      refine ASeq.q rfl rfl (QOp.loadM 3 rfl rfl rfl (tok _ rfl) rfl) ?_
      refine ASeq.q rfl rfl (QOp.move rfl rfl) ?_
      refine ASeq.op rfl rfl (AOp.callP 0 rfl (by kernel_rfl) rfl rfl rfl (sign_ok q hq l _ _ _) ?_ (by rintro _ _ ⟨⟩))
      rintro _ _ ⟨⟩
      refine ASeq.q rfl rfl (QOp.assign rfl rfl) ?_
      refine ASeq.nil ?_
      refine ACode.seq (ACode.region ?_)
      refine ASeq.q rfl rfl (QOp.fieldM rfl rfl (tok _ rfl) rfl rfl (by decide) rfl) ?_
      refine ASeq.q rfl rfl (QOp.loadM 3 rfl rfl rfl (tok _ rfl) rfl) ?_
      refine ASeq.q rfl rfl (QOp.ar64 rfl rfl rfl rfl ⟨by simp only [List.length_append, List.length_map, List.length_cons, List.length_nil]; omega, by simp only [List.length_append, List.length_map, List.length_cons, List.length_nil]; omega⟩) ?_
      refine ASeq.q rfl rfl (QOp.fieldM rfl rfl (tok _ rfl) rfl rfl (by decide) rfl) ?_
      refine ASeq.op0 rfl rfl (AOp.storeP 3 rfl rfl rfl rfl (tok _ rfl) rfl rfl rfl rfl ?_)
      refine ASeq.nil ?_
      refine ACode.seq (ACode.region ?_)
      refine ASeq.q rfl rfl (QOp.loadM 3 rfl rfl rfl (tok _ rfl) rfl) ?_
      refine ASeq.q rfl rfl (QOp.move rfl rfl) ?_
      refine ASeq.q rfl rfl (QOp.ar64 rfl rfl rfl rfl ⟨by omega, by omega⟩) ?_
      refine ASeq.q rfl rfl (QOp.move rfl rfl) ?_
      refine ASeq.op rfl rfl (AOp.callP 3 rfl (by kernel_rfl) rfl rfl rfl (ihk.row q.skip (l + 1) d ok1 (by omega) (by omega) hd (by omega) (by omega) _ _ _) ?_ (by rintro _ _ ⟨⟩))
      rintro _ _ ⟨te, ts, tf⟩
      refine ASeq.q rfl rfl (QOp.move rfl rfl) ?_
      refine ASeq.q rfl rfl (QOp.extract rfl rfl rfl) ?_
      refine ASeq.q rfl rfl (QOp.extract rfl rfl rfl) ?_
      refine ASeq.op rfl rfl (AOp.allocP rfl (tok _ rfl) rfl rfl (fun _ => rfl) (fun _ => ?_))
      refine ASeq.op0 rfl rfl (AOp.storeP 5 rfl rfl rfl rfl (tok _ rfl) rfl rfl rfl rfl ?_)
      refine ASeq.q rfl rfl (QOp.assign rfl rfl) ?_
      refine ASeq.nil ?_
      refine ACode.seq (ACode.region ?_)
      refine ASeq.q rfl rfl (QOp.loadM 5 rfl rfl rfl (tok _ rfl) rfl) ?_
      refine ASeq.q rfl rfl (QOp.move rfl rfl) ?_
      refine ASeq.q rfl rfl (QOp.move rfl rfl) ?_
      refine ASeq.q rfl rfl (QOp.move rfl rfl) ?_
      refine ASeq.q rfl rfl (QOp.move rfl rfl) ?_
      refine ASeq.q rfl rfl (QOp.build rfl (tok _ rfl) rfl rfl rfl rfl rfl) ?_
      refine ASeq.op rfl rfl (AOp.callP 3 rfl (by kernel_rfl) rfl rfl rfl (put_le _ ok2 p.here { kind := 9, op := q.sign l, a := a, b := (row k q.skip (l + 1) d).2 } pos nil_le _ _ _) ?_ (by rintro _ _ ⟨⟩))
      rintro _ _ ⟨te, ts, tf⟩
      refine ASeq.q rfl rfl (QOp.move rfl rfl) ?_
      refine ASeq.q rfl rfl (QOp.extract rfl rfl rfl) ?_
      refine ASeq.q rfl rfl (QOp.extract rfl rfl rfl) ?_
      refine ASeq.op rfl rfl (AOp.allocP rfl (tok _ rfl) rfl rfl (fun _ => rfl) (fun _ => ?_))
      refine ASeq.op0 rfl rfl (AOp.storeP 6 rfl rfl rfl rfl (tok _ rfl) rfl rfl rfl rfl ?_)
      refine ASeq.q rfl rfl (QOp.assign rfl rfl) ?_
      refine ASeq.nil ?_
      refine ACode.seq (ACode.region ?_)
      refine ASeq.q rfl rfl (QOp.loadM 6 rfl rfl rfl (tok _ rfl) rfl) ?_
      refine ASeq.q rfl rfl (QOp.move rfl rfl) ?_
      refine ASeq.op0 rfl rfl (AOp.storeP 3 rfl rfl rfl rfl (tok _ rfl) rfl rfl rfl rfl ?_)
      refine ASeq.q rfl rfl (QOp.assign rfl rfl) ?_
      refine ASeq.nil ?_
      refine ACode.seq (ACode.region ?_)
      refine ASeq.q rfl rfl (QOp.move rfl rfl) ?_
      refine ASeq.q rfl rfl (QOp.cmp rfl rfl rfl rfl) ?_
      refine ASeq.nil ?_
      refine AExit.then_normal ?_
      refine ACode.cond _ rfl (fun hb => ?_) (fun hb => ?_)
      · have hl2 : l = 2 := by simpa using hb
        rw [if_pos hl2] at hres
        refine ACode.seq (ACode.region ?_)
        refine ASeq.q rfl rfl (QOp.loadM 3 rfl rfl rfl (tok _ rfl) rfl) ?_
        refine ASeq.q rfl rfl (QOp.move rfl rfl) ?_
        refine ASeq.op0 rfl rfl (AOp.storeP 4 rfl rfl rfl rfl (tok _ rfl) rfl rfl rfl rfl ?_)
        refine ASeq.q rfl rfl (QOp.assign rfl rfl) ?_
        refine ASeq.nil ?_
        refine ACode.ret (AExit.in_ret (AExit.then_ret (AExit.in_ret (AExit.then_ret ?_))))
        refine bodyQ_ret 3 (.cell 4 rfl rfl (tok _ rfl) rfl (.tmp rfl .nil)) rfl ?_
        rw [← hres]
        exact .mk _ _ _
      · have hl2 : ¬ l = 2 := by simpa using hb
        rw [if_neg hl2] at hres
        refine ACode.skip (AExit.in_normal (AExit.then_normal ?_))
        exact ⟨(k, _, _, _, _, _), 5, ⟨by dsimp only; omega, ok3, le_dm hqd m3, le_k hqm m3, hres⟩, Nat.lt_succ_self _, .cons rfl (.cons rfl (.cons rfl (.cons rfl (.cons rfl (.cons rfl .nil))))), rfl⟩
    · have hs : (q.sign l).data.toList = [] := by simpa using hb
      simp only [rowLoop, if_pos hs] at hres
      refine ACode.exit (ACode.seq (ACode.region ?_))
      refine ASeq.q rfl rfl (QOp.loadM 3 rfl rfl rfl (tok _ rfl) rfl) ?_
      refine ASeq.q rfl rfl (QOp.move rfl rfl) ?_
      refine ASeq.op0 rfl rfl (AOp.storeP 4 rfl rfl rfl rfl (tok _ rfl) rfl rfl rfl rfl ?_)
      refine ASeq.q rfl rfl (QOp.assign rfl rfl) ?_
      refine ASeq.nil ?_
      refine ACode.ret ?_
      refine bodyQ_ret 3 (.cell 4 rfl rfl (tok _ rfl) rfl (.tmp rfl .nil)) rfl ?_
      rw [← hres]
      exact .mk _ _ _
end Go.Proofs.Ytaadamobapnfbaa
set_option linter.unusedVariables false
set_option linter.unusedSimpArgs false
set_option maxRecDepth 100000
namespace Go.Proofs.Ytaadamobapnfbaa
open Go Go.Abs
theorem expr_walk (n : Nat) (ih : ∀ k < n + 1, Walks k) (p : PS) (d : Int) (h : p.ok) (hd : 0 ≤ d) (hdm : d + p.mm ≤ dmax) (hm : p.mm + 9 ≤ (n + 1 : Nat)) (te ts tf : Nat) :
    ACalls Try.prog 98 [.agg (p.cells te ts tf), vi d] [.tk te, .tk ts, .tk tf] (RPV (exprP (n + 1) p d).1 (vi (exprP (n + 1) p d).2)) := by
  have ih0 := ih n (by omega)
  have s1 := Step.deep p d
  have h1 := s1.ok (by decide) (by decide) h
  have m1 := s1.le h
  refine ACalls.of_code (c := _) Try.func98 rfl Try.ntmps98 (Nat.le_of_ble_eq_true rfl) ?_
  refine ACode.seq (ACode.region ?_)
  refine ASeq.op rfl rfl (AOp.boxP rfl rfl rfl (fun _ => rfl) (fun _ => ?_))
  refine ASeq.op rfl rfl (AOp.allocP rfl (tok _ rfl) rfl rfl (fun _ => rfl) (fun _ => ?_))
  refine ASeq.q rfl rfl (QOp.assign rfl rfl) ?_
  refine ASeq.nil ?_
  refine ACode.seq (ACode.region ?_)
  refine ASeq.q rfl rfl (QOp.loadM 3 rfl rfl rfl (tok _ rfl) rfl) ?_
  refine ASeq.q rfl rfl (QOp.move rfl rfl) ?_
  refine ASeq.op rfl rfl (AOp.callP 3 rfl (by kernel_rfl) rfl rfl rfl (deep_ok p h d _ _ _) ?_ (by rintro _ _ ⟨⟩))
  rintro _ _ ⟨te, ts, tf⟩
  refine ASeq.op0 rfl rfl (AOp.storeP 3 rfl rfl rfl rfl (tok _ rfl) rfl rfl rfl rfl ?_)
  refine ASeq.nil ?_
  refine ACode.seq (ACode.seq (ACode.region ?_))
  refine ASeq.q rfl rfl (QOp.fieldM rfl rfl (tok _ rfl) rfl rfl (by decide) rfl) ?_
  refine ASeq.q rfl rfl (QOp.loadM 3 rfl rfl rfl (tok _ rfl) rfl) ?_
  refine ASeq.q rfl rfl (QOp.cmp rfl rfl rfl rfl) ?_
  refine ASeq.nil ?_
  refine AExit.then_normal ?_
  refine ACode.cond _ rfl (fun hb => ?_) (fun hb => ?_)
  · have hc : (p.deep d).code ≠ 0 := by simpa using hb
    refine ACode.seq (ACode.region ?_)
    refine ASeq.q rfl rfl (QOp.loadM 3 rfl rfl rfl (tok _ rfl) rfl) ?_
    refine ASeq.op0 rfl rfl (AOp.storeP 4 rfl rfl rfl rfl (tok _ rfl) rfl rfl rfl rfl ?_)
    refine ASeq.q rfl rfl (QOp.assign rfl rfl) ?_
    refine ASeq.nil ?_
    refine ACode.ret (AExit.then_ret ?_)
    refine bodyQ_ret 3 (.cell 4 rfl rfl (tok _ rfl) rfl (.tmp rfl .nil)) rfl ?_
    rw [show exprP (n + 1) p d = (p.deep d, 0) by simp only [exprP]; rw [if_pos hc]]
    exact .mk _ _ _
  · have hc : ¬ (p.deep d).code ≠ 0 := by simpa using hb
    refine ACode.skip (ACode.seq (ACode.region ?_))
    refine ASeq.q rfl rfl (QOp.loadM 3 rfl rfl rfl (tok _ rfl) rfl) ?_
    refine ASeq.q rfl rfl (QOp.move rfl rfl) ?_
    refine ASeq.op rfl rfl (AOp.callP 3 rfl (by kernel_rfl) rfl rfl rfl (ih0.row (p.deep d) 0 d h1 (by decide) (by decide) hd (by omega) (by omega) _ _ _) ?_ (by rintro _ _ ⟨⟩))
    rintro _ _ ⟨te, ts, tf⟩
    refine ASeq.q rfl rfl (QOp.extract rfl rfl rfl) ?_
    refine ASeq.q rfl rfl (QOp.extract rfl rfl rfl) ?_
    refine ASeq.op0 rfl rfl (AOp.storeP 4 rfl rfl rfl rfl (tok _ rfl) rfl rfl rfl rfl ?_)
    refine ASeq.q rfl rfl (QOp.assign rfl rfl) ?_
    refine ASeq.nil ?_
    refine ACode.ret ?_
    refine bodyQ_ret 3 (.cell 4 rfl rfl (tok _ rfl) rfl (.tmp rfl .nil)) rfl ?_
    rw [show exprP (n + 1) p d = row n (p.deep d) 0 d by simp only [exprP]; rw [if_neg hc]]
    exact .mk _ _ _
theorem unary_walk (n : Nat) (ih : ∀ k < n + 1, Walks k) (p : PS) (d : Int) (h : p.ok) (hd : 0 ≤ d) (hdm : d + p.mm ≤ dmax) (hm : p.mm + 2 ≤ (n + 1 : Nat)) (te ts tf : Nat) :
    ACalls Try.prog 119 [.agg (p.cells te ts tf), vi d] [.tk te, .tk ts, .tk tf] (RPV (unary (n + 1) p d).1 (vi (unary (n + 1) p d).2)) := by
  have ih0 := ih n (by omega)
  have hnn := PS.mm_nn h
  have hmax : dmax = 1099511627776 := rfl
  have h0 := h.at0
  have h1 := h.at1
  have h2 := h.small
  refine ACalls.of_code (c := _) Try.func119 rfl Try.ntmps119 (Nat.le_of_ble_eq_true rfl) ?_
  refine ACode.seq (ACode.region ?_)
  refine ASeq.op rfl rfl (AOp.boxP rfl rfl rfl (fun _ => rfl) (fun _ => ?_))
  refine ASeq.op rfl rfl (AOp.allocP rfl (tok _ rfl) rfl rfl (fun _ => rfl) (fun _ => ?_))
  refine ASeq.q rfl rfl (QOp.assign rfl rfl) ?_
  refine ASeq.nil ?_
  refine ACode.seq (ACode.region ?_)
  refine ASeq.q rfl rfl (QOp.loadM 3 rfl rfl rfl (tok _ rfl) rfl) ?_
  refine ASeq.op rfl rfl (AOp.callP 0 rfl (by kernel_rfl) rfl rfl rfl (here_ok p h _ _ _) ?_ (by rintro _ _ ⟨⟩))
  rintro _ _ ⟨⟩
  refine ASeq.q rfl rfl (QOp.assign rfl rfl) ?_
  refine ASeq.nil ?_
  refine ACode.seq (ACode.seq (ACode.region ?_))
  -- none of the two
  have none : ¬ (p.is w_minus = true ∨ p.is w_bang = true) → RPV (primary n p d).1 (vi (primary n p d).2) = RPV (unary (n + 1) p d).1 (vi (unary (n + 1) p d).2) := fun hn => by
    rw [show unary (n + 1) p d = primary n p d by simp only [unary, if_neg hn]]
  refine ASeq.q rfl rfl (QOp.fieldM rfl rfl (tok _ rfl) rfl rfl (by decide) rfl) ?_
  refine ASeq.q rfl rfl (QOp.loadM 3 rfl rfl rfl (tok _ rfl) rfl) ?_
  refine ASeq.q rfl rfl (QOp.cmp rfl rfl rfl rfl) ?_
  refine ASeq.q rfl rfl (QOp.move rfl rfl) ?_
  refine ASeq.split 15 (p.code != 0) rfl (fun hb => ?_) (fun hb => ?_)
  · have hc : p.code ≠ 0 := by simpa using hb
    refine ASeq.gno _ _ rfl rfl rfl rfl rfl ?_
    refine ASeq.gno _ _ rfl rfl rfl rfl rfl ?_
    refine ASeq.gno _ _ rfl rfl rfl rfl rfl ?_
    refine ASeq.gno _ _ rfl rfl rfl rfl rfl ?_
    refine ASeq.gno _ _ rfl rfl rfl rfl rfl ?_
    refine ASeq.gno _ _ rfl rfl rfl rfl rfl ?_
    refine ASeq.gno _ _ rfl rfl rfl rfl rfl ?_
    refine ASeq.gno _ _ rfl rfl rfl rfl rfl ?_
    refine ASeq.q rfl rfl (QOp.pickT rfl rfl rfl) ?_
    refine ASeq.nil ?_
    refine AExit.then_normal ?_
    refine ACode.cond _ rfl (fun hb => ?_) (fun hb => by cases hb)
    refine ACode.seq (ACode.region ?_)
    refine ASeq.q rfl rfl (QOp.loadM 3 rfl rfl rfl (tok _ rfl) rfl) ?_
    refine ASeq.q rfl rfl (QOp.move rfl rfl) ?_
    refine ASeq.op rfl rfl (AOp.callP 3 rfl (by kernel_rfl) rfl rfl rfl (ih0.primary p d h hd hdm (by omega) _ _ _) ?_ (by rintro _ _ ⟨⟩))
    rintro _ _ ⟨te, ts, tf⟩
    refine ASeq.q rfl rfl (QOp.extract rfl rfl rfl) ?_
    refine ASeq.q rfl rfl (QOp.extract rfl rfl rfl) ?_
    refine ASeq.op0 rfl rfl (AOp.storeP 4 rfl rfl rfl rfl (tok _ rfl) rfl rfl rfl rfl ?_)
    refine ASeq.q rfl rfl (QOp.assign rfl rfl) ?_
    refine ASeq.nil ?_
    refine ACode.ret (AExit.then_ret ?_)
    refine bodyQ_ret 3 (.cell 4 rfl rfl (tok _ rfl) rfl (.tmp rfl .nil)) rfl ?_
    rw [← none (by simp [PS.is_dead hc])]
    exact .mk _ _ _
  · have hc : p.code = 0 := by simpa using hb
    refine ASeq.gq _ _ rfl rfl rfl rfl (QOp.loadM 3 rfl rfl rfl (tok _ rfl) rfl) ?_
    refine ASeq.gop _ _ rfl rfl rfl rfl (AOp.callP 0 rfl (by kernel_rfl) rfl rfl rfl (is_ok p h w_minus _ _ _) ?_ (by rintro _ _ ⟨⟩))
    rintro _ _ ⟨⟩
    refine ASeq.gq _ _ rfl rfl rfl rfl (QOp.not rfl rfl) ?_
    refine ASeq.gq _ _ rfl rfl rfl rfl (QOp.move rfl rfl) ?_
    refine ASeq.split 19 (!(p.is w_minus)) rfl (fun hb1 => ?_) (fun hb1 => ?_)
    · have hb1 : p.is w_minus = false := by simpa using hb1
      refine ASeq.gq _ _ rfl rfl rfl rfl (QOp.loadM 3 rfl rfl rfl (tok _ rfl) rfl) ?_
      refine ASeq.gop _ _ rfl rfl rfl rfl (AOp.callP 0 rfl (by kernel_rfl) rfl rfl rfl (is_ok p h w_bang _ _ _) ?_ (by rintro _ _ ⟨⟩))
      rintro _ _ ⟨⟩
      refine ASeq.gq _ _ rfl rfl rfl rfl (QOp.not rfl rfl) ?_
      refine ASeq.gq _ _ rfl rfl rfl rfl (QOp.pickT rfl rfl rfl) ?_
      refine ASeq.q rfl rfl (QOp.pickF rfl rfl rfl) ?_
      refine ASeq.nil ?_
      refine AExit.then_normal ?_
      refine ACode.cond _ rfl (fun hb => ?_) (fun hb => ?_)
      · have hb : p.is w_bang = false := by simpa using hb
        refine ACode.seq (ACode.region ?_)
        refine ASeq.q rfl rfl (QOp.loadM 3 rfl rfl rfl (tok _ rfl) rfl) ?_
        refine ASeq.q rfl rfl (QOp.move rfl rfl) ?_
        refine ASeq.op rfl rfl (AOp.callP 3 rfl (by kernel_rfl) rfl rfl rfl (ih0.primary p d h hd hdm (by omega) _ _ _) ?_ (by rintro _ _ ⟨⟩))
        rintro _ _ ⟨te, ts, tf⟩
        refine ASeq.q rfl rfl (QOp.extract rfl rfl rfl) ?_
        refine ASeq.q rfl rfl (QOp.extract rfl rfl rfl) ?_
        refine ASeq.op0 rfl rfl (AOp.storeP 4 rfl rfl rfl rfl (tok _ rfl) rfl rfl rfl rfl ?_)
        refine ASeq.q rfl rfl (QOp.assign rfl rfl) ?_
        refine ASeq.nil ?_
        refine ACode.ret (AExit.then_ret ?_)
        refine bodyQ_ret 3 (.cell 4 rfl rfl (tok _ rfl) rfl (.tmp rfl .nil)) rfl ?_
        rw [← none (by simp [hb, hb1])]
        exact .mk _ _ _
      · have hb : p.is w_bang = true := by simpa using hb
        have hu : p.is w_minus = true ∨ p.is w_bang = true := .inr hb
        have hi : p.code = 0 ∧ p.tok.kind ≠ 0 := by rcases hu with h | h <;> exact PS.is_kind h
        have t1 := Step.skip p hi.1 hi.2
        have ok1 := t1.ok (by decide) (by decide) h
        have m1 := t1.go h hi.1 (.inl (by decide))
        have t2 := Step.deep p.skip (d + 1)
        have ok2 := t2.ok (by decide) (by decide) ok1
        have m2 := t2.le ok1
        refine ACode.skip (ACode.seq (ACode.region ?_))
        refine ASeq.q rfl rfl (QOp.loadM 3 rfl rfl rfl (tok _ rfl) rfl) ?_
        refine ASeq.op rfl rfl (AOp.callP 0 rfl (by kernel_rfl) rfl rfl rfl (word_ok p h _ _ _) ?_ (by rintro _ _ ⟨⟩))
        rintro _ _ ⟨⟩
        refine ASeq.q rfl rfl (QOp.assign rfl rfl) ?_
        refine ASeq.nil ?_
        refine ACode.seq (ACode.region ?_)
        refine ASeq.q rfl rfl (QOp.fieldM rfl rfl (tok _ rfl) rfl rfl (by decide) rfl) ?_
        refine ASeq.q rfl rfl (QOp.loadM 3 rfl rfl rfl (tok _ rfl) rfl) ?_
        refine ASeq.q rfl rfl (QOp.ar64 rfl rfl rfl rfl ⟨by omega, by omega⟩) ?_
        refine ASeq.q rfl rfl (QOp.fieldM rfl rfl (tok _ rfl) rfl rfl (by decide) rfl) ?_
        refine ASeq.op0 rfl rfl (AOp.storeP 3 rfl rfl rfl rfl (tok _ rfl) rfl rfl rfl rfl ?_)
        refine ASeq.nil ?_
        refine ACode.seq (ACode.region ?_)
        refine ASeq.q rfl rfl (QOp.loadM 3 rfl rfl rfl (tok _ rfl) rfl) ?_
        refine ASeq.q rfl rfl (QOp.move rfl rfl) ?_
        refine ASeq.q rfl rfl (QOp.ar64 rfl rfl rfl rfl ⟨by omega, by omega⟩) ?_
        refine ASeq.op rfl rfl (AOp.callP 3 rfl (by kernel_rfl) rfl rfl rfl (deep_ok p.skip ok1 (d + 1) _ _ _) ?_ (by rintro _ _ ⟨⟩))
        rintro _ _ ⟨te, ts, tf⟩
        refine ASeq.op0 rfl rfl (AOp.storeP 3 rfl rfl rfl rfl (tok _ rfl) rfl rfl rfl rfl ?_)
        refine ASeq.nil ?_
        refine ACode.seq (ACode.seq (ACode.region ?_))
        refine ASeq.q rfl rfl (QOp.fieldM rfl rfl (tok _ rfl) rfl rfl (by decide) rfl) ?_
        refine ASeq.q rfl rfl (QOp.loadM 3 rfl rfl rfl (tok _ rfl) rfl) ?_
        refine ASeq.q rfl rfl (QOp.cmp rfl rfl rfl rfl) ?_
        refine ASeq.nil ?_
        refine AExit.then_normal ?_
        refine ACode.cond _ rfl (fun hb => ?_) (fun hb => ?_)
        · have hc : (p.skip.deep (d + 1)).code ≠ 0 := by simpa using hb
          refine ACode.seq (ACode.region ?_)
          refine ASeq.q rfl rfl (QOp.loadM 3 rfl rfl rfl (tok _ rfl) rfl) ?_
          refine ASeq.op0 rfl rfl (AOp.storeP 4 rfl rfl rfl rfl (tok _ rfl) rfl rfl rfl rfl ?_)
          refine ASeq.q rfl rfl (QOp.assign rfl rfl) ?_
          refine ASeq.nil ?_
          refine ACode.ret (AExit.then_ret ?_)
          refine bodyQ_ret 3 (.cell 4 rfl rfl (tok _ rfl) rfl (.tmp rfl .nil)) rfl ?_
          rw [show unary (n + 1) p d = (p.skip.deep (d + 1), 0) by simp only [unary]; rw [if_pos hu, if_pos hc]]
          exact .mk _ _ _
        · have hc : ¬ (p.skip.deep (d + 1)).code ≠ 0 := by simpa using hb
          have t3 := (steps n).unary (p.skip.deep (d + 1)) (d + 1)
          have ok3 := t3.ok (by decide) (by decide) ok2
          have pos := ((t1.then t2 (by decide) (by decide)).then t3 (by decide) (by decide)).pos h (.inl (by decide))
          refine ACode.skip (ACode.seq (ACode.region ?_))
          refine ASeq.q rfl rfl (QOp.loadM 3 rfl rfl rfl (tok _ rfl) rfl) ?_
          refine ASeq.q rfl rfl (QOp.move rfl rfl) ?_
          refine ASeq.q rfl rfl (QOp.ar64 rfl rfl rfl rfl ⟨by omega, by omega⟩) ?_
          refine ASeq.op rfl rfl (AOp.callP 3 rfl (by kernel_rfl) rfl rfl rfl (ih0.unary (p.skip.deep (d + 1)) (d + 1) ok2 (by omega) (by omega) (by omega) _ _ _) ?_ (by rintro _ _ ⟨⟩))
          rintro _ _ ⟨te, ts, tf⟩
          refine ASeq.q rfl rfl (QOp.move rfl rfl) ?_
          refine ASeq.q rfl rfl (QOp.extract rfl rfl rfl) ?_
          refine ASeq.q rfl rfl (QOp.extract rfl rfl rfl) ?_
          refine ASeq.op rfl rfl (AOp.allocP rfl (tok _ rfl) rfl rfl (fun _ => rfl) (fun _ => ?_))
          refine ASeq.op0 rfl rfl (AOp.storeP 5 rfl rfl rfl rfl (tok _ rfl) rfl rfl rfl rfl ?_)
          refine ASeq.q rfl rfl (QOp.assign rfl rfl) ?_
          refine ASeq.nil ?_
          refine ACode.seq (ACode.region ?_)
          refine ASeq.q rfl rfl (QOp.loadM 5 rfl rfl rfl (tok _ rfl) rfl) ?_
          refine ASeq.q rfl rfl (QOp.move rfl rfl) ?_
          refine ASeq.q rfl rfl (QOp.move rfl rfl) ?_
          refine ASeq.q rfl rfl (QOp.move rfl rfl) ?_
          refine ASeq.q rfl rfl (QOp.build rfl (tok _ rfl) rfl rfl rfl rfl rfl) ?_
          refine ASeq.op rfl rfl (AOp.callP 3 rfl (by kernel_rfl) rfl rfl rfl (put_le _ ok3 p.here { kind := 8, op := p.word, a := (unary n (p.skip.deep (d + 1)) (d + 1)).2 } pos nil_le _ _ _) ?_ (by rintro _ _ ⟨⟩))
          rintro _ _ ⟨te, ts, tf⟩
          refine ASeq.q rfl rfl (QOp.extract rfl rfl rfl) ?_
          refine ASeq.q rfl rfl (QOp.extract rfl rfl rfl) ?_
          refine ASeq.op0 rfl rfl (AOp.storeP 4 rfl rfl rfl rfl (tok _ rfl) rfl rfl rfl rfl ?_)
          refine ASeq.q rfl rfl (QOp.assign rfl rfl) ?_
          refine ASeq.nil ?_
          refine ACode.ret ?_
          refine bodyQ_ret 3 (.cell 4 rfl rfl (tok _ rfl) rfl (.tmp rfl .nil)) rfl ?_
          rw [show unary (n + 1) p d = (unary n (p.skip.deep (d + 1)) (d + 1)).1.put p.here { kind := 8, op := p.word, a := (unary n (p.skip.deep (d + 1)) (d + 1)).2 } by simp only [unary]; rw [if_pos hu, if_neg hc]]
          exact .mk _ _ _
    · have hb1 : p.is w_minus = true := by simpa using hb1
      refine ASeq.gno _ _ rfl rfl rfl rfl rfl ?_
      refine ASeq.gno _ _ rfl rfl rfl rfl rfl ?_
      refine ASeq.gno _ _ rfl rfl rfl rfl rfl ?_
      refine ASeq.gq _ _ rfl rfl rfl rfl (QOp.pickF rfl rfl rfl) ?_
      refine ASeq.q rfl rfl (QOp.pickF rfl rfl rfl) ?_
      refine ASeq.nil ?_
      refine AExit.then_normal ?_
      refine ACode.cond _ rfl (fun hb => by cases hb) (fun hb => ?_)
      have hu : p.is w_minus = true ∨ p.is w_bang = true := .inl hb1
      have hi : p.code = 0 ∧ p.tok.kind ≠ 0 := by rcases hu with h | h <;> exact PS.is_kind h
      have t1 := Step.skip p hi.1 hi.2
      have ok1 := t1.ok (by decide) (by decide) h
      have m1 := t1.go h hi.1 (.inl (by decide))
      have t2 := Step.deep p.skip (d + 1)
      have ok2 := t2.ok (by decide) (by decide) ok1
      have m2 := t2.le ok1
      refine ACode.skip (ACode.seq (ACode.region ?_))
      refine ASeq.q rfl rfl (QOp.loadM 3 rfl rfl rfl (tok _ rfl) rfl) ?_
      refine ASeq.op rfl rfl (AOp.callP 0 rfl (by kernel_rfl) rfl rfl rfl (word_ok p h _ _ _) ?_ (by rintro _ _ ⟨⟩))
      rintro _ _ ⟨⟩
      refine ASeq.q rfl rfl (QOp.assign rfl rfl) ?_
      refine ASeq.nil ?_
      refine ACode.seq (ACode.region ?_)
      refine ASeq.q rfl rfl (QOp.fieldM rfl rfl (tok _ rfl) rfl rfl (by decide) rfl) ?_
      refine ASeq.q rfl rfl (QOp.loadM 3 rfl rfl rfl (tok _ rfl) rfl) ?_
      refine ASeq.q rfl rfl (QOp.ar64 rfl rfl rfl rfl ⟨by omega, by omega⟩) ?_
      refine ASeq.q rfl rfl (QOp.fieldM rfl rfl (tok _ rfl) rfl rfl (by decide) rfl) ?_
      refine ASeq.op0 rfl rfl (AOp.storeP 3 rfl rfl rfl rfl (tok _ rfl) rfl rfl rfl rfl ?_)
      refine ASeq.nil ?_
      refine ACode.seq (ACode.region ?_)
      refine ASeq.q rfl rfl (QOp.loadM 3 rfl rfl rfl (tok _ rfl) rfl) ?_
      refine ASeq.q rfl rfl (QOp.move rfl rfl) ?_
      refine ASeq.q rfl rfl (QOp.ar64 rfl rfl rfl rfl ⟨by omega, by omega⟩) ?_
      refine ASeq.op rfl rfl (AOp.callP 3 rfl (by kernel_rfl) rfl rfl rfl (deep_ok p.skip ok1 (d + 1) _ _ _) ?_ (by rintro _ _ ⟨⟩))
      rintro _ _ ⟨te, ts, tf⟩
      refine ASeq.op0 rfl rfl (AOp.storeP 3 rfl rfl rfl rfl (tok _ rfl) rfl rfl rfl rfl ?_)
      refine ASeq.nil ?_
      refine ACode.seq (ACode.seq (ACode.region ?_))
      refine ASeq.q rfl rfl (QOp.fieldM rfl rfl (tok _ rfl) rfl rfl (by decide) rfl) ?_
      refine ASeq.q rfl rfl (QOp.loadM 3 rfl rfl rfl (tok _ rfl) rfl) ?_
      refine ASeq.q rfl rfl (QOp.cmp rfl rfl rfl rfl) ?_
      refine ASeq.nil ?_
      refine AExit.then_normal ?_
      refine ACode.cond _ rfl (fun hb => ?_) (fun hb => ?_)
      · have hc : (p.skip.deep (d + 1)).code ≠ 0 := by simpa using hb
        refine ACode.seq (ACode.region ?_)
        refine ASeq.q rfl rfl (QOp.loadM 3 rfl rfl rfl (tok _ rfl) rfl) ?_
        refine ASeq.op0 rfl rfl (AOp.storeP 4 rfl rfl rfl rfl (tok _ rfl) rfl rfl rfl rfl ?_)
        refine ASeq.q rfl rfl (QOp.assign rfl rfl) ?_
        refine ASeq.nil ?_
        refine ACode.ret (AExit.then_ret ?_)
        refine bodyQ_ret 3 (.cell 4 rfl rfl (tok _ rfl) rfl (.tmp rfl .nil)) rfl ?_
        rw [show unary (n + 1) p d = (p.skip.deep (d + 1), 0) by simp only [unary]; rw [if_pos hu, if_pos hc]]
        exact .mk _ _ _
      · have hc : ¬ (p.skip.deep (d + 1)).code ≠ 0 := by simpa using hb
        have t3 := (steps n).unary (p.skip.deep (d + 1)) (d + 1)
        have ok3 := t3.ok (by decide) (by decide) ok2
        have pos := ((t1.then t2 (by decide) (by decide)).then t3 (by decide) (by decide)).pos h (.inl (by decide))
        refine ACode.skip (ACode.seq (ACode.region ?_))
        refine ASeq.q rfl rfl (QOp.loadM 3 rfl rfl rfl (tok _ rfl) rfl) ?_
        refine ASeq.q rfl rfl (QOp.move rfl rfl) ?_
        refine ASeq.q rfl rfl (QOp.ar64 rfl rfl rfl rfl ⟨by omega, by omega⟩) ?_
        refine ASeq.op rfl rfl (AOp.callP 3 rfl (by kernel_rfl) rfl rfl rfl (ih0.unary (p.skip.deep (d + 1)) (d + 1) ok2 (by omega) (by omega) (by omega) _ _ _) ?_ (by rintro _ _ ⟨⟩))
        rintro _ _ ⟨te, ts, tf⟩
        refine ASeq.q rfl rfl (QOp.move rfl rfl) ?_
        refine ASeq.q rfl rfl (QOp.extract rfl rfl rfl) ?_
        refine ASeq.q rfl rfl (QOp.extract rfl rfl rfl) ?_
        refine ASeq.op rfl rfl (AOp.allocP rfl (tok _ rfl) rfl rfl (fun _ => rfl) (fun _ => ?_))
        refine ASeq.op0 rfl rfl (AOp.storeP 5 rfl rfl rfl rfl (tok _ rfl) rfl rfl rfl rfl ?_)
        refine ASeq.q rfl rfl (QOp.assign rfl rfl) ?_
        refine ASeq.nil ?_
        refine ACode.seq (ACode.region ?_)
        refine ASeq.q rfl rfl (QOp.loadM 5 rfl rfl rfl (tok _ rfl) rfl) ?_
        refine ASeq.q rfl rfl (QOp.move rfl rfl) ?_
        refine ASeq.q rfl rfl (QOp.move rfl rfl) ?_
        refine ASeq.q rfl rfl (QOp.move rfl rfl) ?_
        refine ASeq.q rfl rfl (QOp.build rfl (tok _ rfl) rfl rfl rfl rfl rfl) ?_
        refine ASeq.op rfl rfl (AOp.callP 3 rfl (by kernel_rfl) rfl rfl rfl (put_le _ ok3 p.here { kind := 8, op := p.word, a := (unary n (p.skip.deep (d + 1)) (d + 1)).2 } pos nil_le _ _ _) ?_ (by rintro _ _ ⟨⟩))
        rintro _ _ ⟨te, ts, tf⟩
        refine ASeq.q rfl rfl (QOp.extract rfl rfl rfl) ?_
        refine ASeq.q rfl rfl (QOp.extract rfl rfl rfl) ?_
        refine ASeq.op0 rfl rfl (AOp.storeP 4 rfl rfl rfl rfl (tok _ rfl) rfl rfl rfl rfl ?_)
        refine ASeq.q rfl rfl (QOp.assign rfl rfl) ?_
        refine ASeq.nil ?_
        refine ACode.ret ?_
        refine bodyQ_ret 3 (.cell 4 rfl rfl (tok _ rfl) rfl (.tmp rfl .nil)) rfl ?_
        rw [show unary (n + 1) p d = (unary n (p.skip.deep (d + 1)) (d + 1)).1.put p.here { kind := 8, op := p.word, a := (unary n (p.skip.deep (d + 1)) (d + 1)).2 } by simp only [unary]; rw [if_pos hu, if_neg hc]]
        exact .mk _ _ _
end Go.Proofs.Ytaadamobapnfbaa
set_option linter.unusedVariables false
set_option linter.unusedSimpArgs false
set_option maxRecDepth 100000
namespace Go.Proofs.Ytaadamobapnfbaa
open Go Go.Abs
theorem kindOf_num {p : PS} (h : p.ok) (hc : p.code = 0) (hk : p.tok.kind = 2) : digs (p.kindOf 2).2.data.toList ∧ (p.kindOf 2).2.size ≤ 18 := by
  rw [show p.kindOf 2 = ({ p with at_ := p.at_ + 1 }, p.word) by simp [PS.kindOf, hk, hc]]
  exact h.nums _ h.mem hk
theorem mm_want {p : PS} (h : p.ok) (hc : p.code = 0) (s : ByteArray) : (p.want s).mm + 20 ≤ p.mm := (Step.want p s).go h hc (.inl (by decide))
theorem ok_want {p : PS} (h : p.ok) (s : ByteArray) : (p.want s).ok := (Step.want p s).ok (by decide) (by decide) h
theorem mm_wantle {p : PS} (h : p.ok) (s : ByteArray) : (p.want s).mm ≤ p.mm := (Step.want p s).le h
theorem primary_walk (n : Nat) (ih : ∀ k < n + 1, Walks k) (p : PS) (d : Int) (h : p.ok) (hd : 0 ≤ d) (hdm : d + p.mm ≤ dmax) (hm : p.mm + 1 ≤ (n + 1 : Nat)) (te ts tf : Nat) :
    ACalls Try.prog 121 [.agg (p.cells te ts tf), vi d] [.tk te, .tk ts, .tk tf] (RPV (primary (n + 1) p d).1 (vi (primary (n + 1) p d).2)) := by
  have ih0 := ih n (by omega)
  have hnn := PS.mm_nn h
  have hmax : dmax = 1099511627776 := rfl
  have h0 := h.at0
  have h1 := h.at1
  have h2 := h.small
  have hrow := h.tokAt
  refine ACalls.of_code (c := _) Try.func121 rfl Try.ntmps121 (Nat.le_of_ble_eq_true rfl) ?_
  refine ACode.seq (ACode.region ?_)
  refine ASeq.op rfl rfl (AOp.boxP rfl rfl rfl (fun _ => rfl) (fun _ => ?_))
  refine ASeq.op rfl rfl (AOp.allocP rfl (tok _ rfl) rfl rfl (fun _ => rfl) (fun _ => ?_))
  refine ASeq.q rfl rfl (QOp.assign rfl rfl) ?_
  refine ASeq.nil ?_
  refine ACode.seq (ACode.seq (ACode.region ?_))
  refine ASeq.q rfl rfl (QOp.fieldM rfl rfl (tok _ rfl) rfl rfl (by decide) rfl) ?_
  refine ASeq.q rfl rfl (QOp.loadM 3 rfl rfl rfl (tok _ rfl) rfl) ?_
  refine ASeq.q rfl rfl (QOp.cmp rfl rfl rfl rfl) ?_
  refine ASeq.nil ?_
  refine AExit.then_normal ?_
  refine ACode.cond _ rfl (fun hb => ?_) (fun hb => ?_)
  · have hc : p.code ≠ 0 := by simpa using hb
    refine ACode.seq (ACode.region ?_)
    refine ASeq.q rfl rfl (QOp.loadM 3 rfl rfl rfl (tok _ rfl) rfl) ?_
    refine ASeq.op0 rfl rfl (AOp.storeP 4 rfl rfl rfl rfl (tok _ rfl) rfl rfl rfl rfl ?_)
    refine ASeq.q rfl rfl (QOp.assign rfl rfl) ?_
    refine ASeq.nil ?_
    refine ACode.ret (AExit.then_ret ?_)
    refine bodyQ_ret 3 (.cell 4 rfl rfl (tok _ rfl) rfl (.tmp rfl .nil)) rfl ?_
    rw [show primary (n + 1) p d = (p, 0) by simp [primary, hc]]
    exact .mk _ _ _
  have hc : p.code = 0 := by simpa using hb
  refine ACode.skip (ACode.seq (ACode.region ?_))
  refine ASeq.q rfl rfl (QOp.loadM 3 rfl rfl rfl (tok _ rfl) rfl) ?_
  refine ASeq.op rfl rfl (AOp.callP 0 rfl (by kernel_rfl) rfl rfl rfl (here_ok p h _ _ _) ?_ (by rintro _ _ ⟨⟩))
  rintro _ _ ⟨⟩
  refine ASeq.q rfl rfl (QOp.assign rfl rfl) ?_
  refine ASeq.nil ?_
  refine ACode.seq (ACode.seq (ACode.region ?_))
  refine ASeq.q rfl rfl (QOp.fieldM rfl rfl (tok _ rfl) rfl rfl (by decide) rfl) ?_
  refine ASeq.q rfl rfl (QOp.loadM 3 rfl rfl rfl (tok _ rfl) rfl) ?_
  refine ASeq.q rfl rfl (QOp.fieldM rfl rfl (tok _ rfl) rfl rfl (by decide) rfl) ?_
  refine ASeq.q rfl rfl (QOp.loadM 3 rfl rfl rfl (tok _ rfl) rfl) ?_
  refine ASeq.q rfl rfl (QOp.indexI rfl rfl rfl (tok _ rfl) rfl (tok _ rfl) (by omega) (by assumption)) ?_
  refine ASeq.q rfl rfl (QOp.fieldI rfl rfl (tok _ rfl) rfl rfl (by decide) rfl) ?_
  refine ASeq.q rfl rfl (QOp.loadI rfl rfl (tok _ rfl) rfl) ?_
  refine ASeq.q rfl rfl (QOp.cmp rfl rfl rfl rfl) ?_
  refine ASeq.nil ?_
  refine AExit.then_normal ?_
  have kst (k : Int) (hk : k ≠ 0) := Step.kindOf p k hk
  refine ACode.cond _ rfl (fun hb => ?_) (fun hb => ?_)
  · have hk : p.tok.kind = 2 := by simpa using hb
    have hn := kindOf_num h hc hk
    have ok1 := (kst 2 (by decide)).ok (by decide) (by decide) h
    refine ACode.seq (ACode.region ?_)
    refine ASeq.q rfl rfl (QOp.loadM 3 rfl rfl rfl (tok _ rfl) rfl) ?_
    refine ASeq.op rfl rfl (AOp.callP 3 rfl (by kernel_rfl) rfl rfl rfl (kind_ok p h 2 _ _ _) ?_ (by rintro _ _ ⟨⟩))
    rintro _ _ ⟨te, ts, tf⟩
    refine ASeq.q rfl rfl (QOp.move rfl rfl) ?_
    refine ASeq.q rfl rfl (QOp.extract rfl rfl rfl) ?_
    refine ASeq.q rfl rfl (QOp.extract rfl rfl rfl) ?_
    refine ASeq.op rfl rfl (AOp.allocP rfl (tok _ rfl) rfl rfl (fun _ => rfl) (fun _ => ?_))
    refine ASeq.op0 rfl rfl (AOp.storeP 5 rfl rfl rfl rfl (tok _ rfl) rfl rfl rfl rfl ?_)
    refine ASeq.q rfl rfl (QOp.assign rfl rfl) ?_
    refine ASeq.nil ?_
    refine ACode.seq ?_
    refine ACode.drawn [[], [], [], [2], [2, 3], [0, 1, 2, 3, 4], [0, 1, 2, 3, 4, 5], [0, 1, 2, 3, 4, 5], [0, 1, 2, 3, 4, 5, 6, 7], [0, 1, 2, 3, 4, 5, 6, 7, 8]] (by kernel_rfl) mixed ?_
    refine DAny.ld 0 rfl rfl (by kernel_rfl) rfl (.does _ _ rfl (.none rfl) (QOp.loadM 5 rfl rfl rfl (tok _ rfl) rfl)) ?_
    refine DAny.qu 1 rfl rfl (by kernel_rfl) rfl (fun _ => .does _ _ rfl (.none rfl) (QOp.move rfl rfl)) ?_
    refine DAny.qu 2 rfl rfl (by kernel_rfl) rfl (fun _ => .does _ _ rfl (.none rfl) (QOp.move rfl rfl)) ?_
    refine DAny.ef 3 rfl (by kernel_rfl) (.none rfl) rfl rfl (AOp.callP 0 rfl (by kernel_rfl) rfl rfl rfl (number_ok _ hn.1 hn.2) ?_ (by rintro _ _ ⟨⟩))
    rintro _ _ ⟨⟩
    refine ⟨(by ((refine AllQ.cons (.does _ _ rfl (.none rfl) (QOp.loadM 5 rfl rfl rfl (tok _ rfl) rfl)) ?_); (exact AllQ.nil))), ?_⟩
    refine DAny.qu 4 rfl rfl (by kernel_rfl) rfl (fun _ => .does _ _ rfl (.none rfl) (QOp.build rfl (tok _ rfl) rfl rfl rfl rfl rfl)) ?_
    refine DAny.ef 5 rfl (by kernel_rfl) (.none rfl) rfl rfl (AOp.callP 3 rfl (by kernel_rfl) rfl rfl rfl (put_le _ ok1 p.here { kind := 1, num := number (p.kindOf 2).2 } ((kst 2 (by decide)).pos h (.inl (by decide))) nil_le _ _ _) ?_ (by rintro _ _ ⟨⟩))
    rintro _ _ ⟨te, ts, tf⟩
    refine ⟨(by ((exact AllQ.nil))), ?_⟩
    refine DAny.qu 6 rfl rfl (by kernel_rfl) rfl (fun _ => .does _ _ rfl (.none rfl) (QOp.extract rfl rfl rfl)) ?_
    refine DAny.qu 7 rfl rfl (by kernel_rfl) rfl (fun _ => .does _ _ rfl (.none rfl) (QOp.extract rfl rfl rfl)) ?_
    refine DAny.ef0 8 rfl (by kernel_rfl) (.none rfl) rfl rfl (AOp.storeP 4 rfl rfl rfl rfl (tok _ rfl) rfl rfl rfl rfl ⟨(by ((exact AllQ.nil))), ?_⟩)
    refine DAny.ef 9 rfl (by kernel_rfl) (.none rfl) rfl rfl (.q (QOp.assign rfl rfl) ⟨(by ((exact AllQ.nil))), ?_⟩)
    refine DAny.done (by kernel_rfl) ?_
    refine ACode.ret (AExit.then_ret ?_)
    refine bodyQ_ret 3 (.cell 4 rfl rfl (tok _ rfl) rfl (.tmp rfl .nil)) rfl ?_
    rw [show primary (n + 1) p d = (p.kindOf 2).1.put p.here { kind := 1, num := number (p.kindOf 2).2 } by simp [primary, hc, hk]]
    exact .mk _ _ _
  have hk : p.tok.kind ≠ 2 := by simpa using hb
  refine ACode.skip (ACode.seq (ACode.seq (ACode.region ?_)))
  refine ASeq.q rfl rfl (QOp.loadM 3 rfl rfl rfl (tok _ rfl) rfl) ?_
  refine ASeq.op rfl rfl (AOp.callP 0 rfl (by kernel_rfl) rfl rfl rfl (is_ok p h w_true _ _ _) ?_ (by rintro _ _ ⟨⟩))
  rintro _ _ ⟨⟩
  refine ASeq.nil ?_
  refine AExit.then_normal ?_
  refine ACode.cond _ rfl (fun ht => ?_) (fun ht => ?_)
  · refine ACode.seq (ACode.region ?_)
    refine ASeq.q rfl rfl (QOp.loadM 3 rfl rfl rfl (tok _ rfl) rfl) ?_
    refine ASeq.op rfl rfl (AOp.callP 3 rfl (by kernel_rfl) rfl rfl rfl (want_ok p h w_true _ _ _) ?_ (by rintro _ _ ⟨⟩))
    rintro _ _ ⟨te, ts, tf⟩
    refine ASeq.q rfl rfl (QOp.move rfl rfl) ?_
    refine ASeq.q rfl rfl (QOp.build rfl (tok _ rfl) rfl rfl rfl rfl rfl) ?_
    refine ASeq.op rfl rfl (AOp.callP 3 rfl (by kernel_rfl) rfl rfl rfl (put_le _ (ok_want h w_true) p.here { kind := 2 } ((Step.want p w_true).pos h (.inl (by decide))) nil_le _ _ _) ?_ (by rintro _ _ ⟨⟩))
    rintro _ _ ⟨te, ts, tf⟩
    refine ASeq.q rfl rfl (QOp.extract rfl rfl rfl) ?_
    refine ASeq.q rfl rfl (QOp.extract rfl rfl rfl) ?_
    refine ASeq.op0 rfl rfl (AOp.storeP 4 rfl rfl rfl rfl (tok _ rfl) rfl rfl rfl rfl ?_)
    refine ASeq.q rfl rfl (QOp.assign rfl rfl) ?_
    refine ASeq.nil ?_
    refine ACode.ret (AExit.then_ret ?_)
    refine bodyQ_ret 3 (.cell 4 rfl rfl (tok _ rfl) rfl (.tmp rfl .nil)) rfl ?_
    rw [show primary (n + 1) p d = (p.want w_true).put p.here { kind := 2 } by simp [primary, hc, hk, ht]]
    exact .mk _ _ _
  refine ACode.skip (ACode.seq (ACode.seq (ACode.region ?_)))
  refine ASeq.q rfl rfl (QOp.loadM 3 rfl rfl rfl (tok _ rfl) rfl) ?_
  refine ASeq.op rfl rfl (AOp.callP 0 rfl (by kernel_rfl) rfl rfl rfl (is_ok p h w_false _ _ _) ?_ (by rintro _ _ ⟨⟩))
  rintro _ _ ⟨⟩
  refine ASeq.nil ?_
  refine AExit.then_normal ?_
  refine ACode.cond _ rfl (fun hf => ?_) (fun hf => ?_)
  · refine ACode.seq (ACode.region ?_)
    refine ASeq.q rfl rfl (QOp.loadM 3 rfl rfl rfl (tok _ rfl) rfl) ?_
    refine ASeq.op rfl rfl (AOp.callP 3 rfl (by kernel_rfl) rfl rfl rfl (want_ok p h w_false _ _ _) ?_ (by rintro _ _ ⟨⟩))
    rintro _ _ ⟨te, ts, tf⟩
    refine ASeq.q rfl rfl (QOp.move rfl rfl) ?_
    refine ASeq.q rfl rfl (QOp.build rfl (tok _ rfl) rfl rfl rfl rfl rfl) ?_
    refine ASeq.op rfl rfl (AOp.callP 3 rfl (by kernel_rfl) rfl rfl rfl (put_le _ (ok_want h w_false) p.here { kind := 3 } ((Step.want p w_false).pos h (.inl (by decide))) nil_le _ _ _) ?_ (by rintro _ _ ⟨⟩))
    rintro _ _ ⟨te, ts, tf⟩
    refine ASeq.q rfl rfl (QOp.extract rfl rfl rfl) ?_
    refine ASeq.q rfl rfl (QOp.extract rfl rfl rfl) ?_
    refine ASeq.op0 rfl rfl (AOp.storeP 4 rfl rfl rfl rfl (tok _ rfl) rfl rfl rfl rfl ?_)
    refine ASeq.q rfl rfl (QOp.assign rfl rfl) ?_
    refine ASeq.nil ?_
    refine ACode.ret (AExit.then_ret ?_)
    refine bodyQ_ret 3 (.cell 4 rfl rfl (tok _ rfl) rfl (.tmp rfl .nil)) rfl ?_
    rw [show primary (n + 1) p d = (p.want w_false).put p.here { kind := 3 } by simp [primary, hc, hk, ht, hf]]
    exact .mk _ _ _
  refine ACode.skip (ACode.seq (ACode.seq (ACode.region ?_)))
  refine ASeq.q rfl rfl (QOp.loadM 3 rfl rfl rfl (tok _ rfl) rfl) ?_
  refine ASeq.op rfl rfl (AOp.callP 0 rfl (by kernel_rfl) rfl rfl rfl (is_ok p h w_read _ _ _) ?_ (by rintro _ _ ⟨⟩))
  rintro _ _ ⟨⟩
  refine ASeq.nil ?_
  refine AExit.then_normal ?_
  refine ACode.cond _ rfl (fun hr => ?_) (fun hr => ?_)
  · refine ACode.seq (ACode.region ?_)
    refine ASeq.q rfl rfl (QOp.loadM 3 rfl rfl rfl (tok _ rfl) rfl) ?_
    refine ASeq.op rfl rfl (AOp.callP 3 rfl (by kernel_rfl) rfl rfl rfl (want_ok p h w_read _ _ _) ?_ (by rintro _ _ ⟨⟩))
    rintro _ _ ⟨te, ts, tf⟩
    refine ASeq.q rfl rfl (QOp.move rfl rfl) ?_
    refine ASeq.q rfl rfl (QOp.build rfl (tok _ rfl) rfl rfl rfl rfl rfl) ?_
    refine ASeq.op rfl rfl (AOp.callP 3 rfl (by kernel_rfl) rfl rfl rfl (put_le _ (ok_want h w_read) p.here { kind := 7 } ((Step.want p w_read).pos h (.inl (by decide))) nil_le _ _ _) ?_ (by rintro _ _ ⟨⟩))
    rintro _ _ ⟨te, ts, tf⟩
    refine ASeq.q rfl rfl (QOp.extract rfl rfl rfl) ?_
    refine ASeq.q rfl rfl (QOp.extract rfl rfl rfl) ?_
    refine ASeq.op0 rfl rfl (AOp.storeP 4 rfl rfl rfl rfl (tok _ rfl) rfl rfl rfl rfl ?_)
    refine ASeq.q rfl rfl (QOp.assign rfl rfl) ?_
    refine ASeq.nil ?_
    refine ACode.ret (AExit.then_ret ?_)
    refine bodyQ_ret 3 (.cell 4 rfl rfl (tok _ rfl) rfl (.tmp rfl .nil)) rfl ?_
    rw [show primary (n + 1) p d = (p.want w_read).put p.here { kind := 7 } by simp [primary, hc, hk, ht, hf, hr]]
    exact .mk _ _ _
  refine ACode.skip (ACode.seq (ACode.seq (ACode.region ?_)))
  refine ASeq.q rfl rfl (QOp.loadM 3 rfl rfl rfl (tok _ rfl) rfl) ?_
  refine ASeq.op rfl rfl (AOp.callP 0 rfl (by kernel_rfl) rfl rfl rfl (is_ok p h w_lp _ _ _) ?_ (by rintro _ _ ⟨⟩))
  rintro _ _ ⟨⟩
  refine ASeq.nil ?_
  refine AExit.then_normal ?_
  refine ACode.cond _ rfl (fun hl => ?_) (fun hl => ?_)
  · have o1 := ok_want h w_lp
    have m1 := mm_want h hc w_lp
    have o2 := ((steps n).exprP (p.want w_lp) (d + 1)).ok (by decide) (by decide) o1
    refine ACode.seq (ACode.region ?_)
    refine ASeq.q rfl rfl (QOp.loadM 3 rfl rfl rfl (tok _ rfl) rfl) ?_
    refine ASeq.op rfl rfl (AOp.callP 3 rfl (by kernel_rfl) rfl rfl rfl (want_ok p h w_lp _ _ _) ?_ (by rintro _ _ ⟨⟩))
    rintro _ _ ⟨te, ts, tf⟩
    refine ASeq.q rfl rfl (QOp.move rfl rfl) ?_
    refine ASeq.q rfl rfl (QOp.ar64 rfl rfl rfl rfl ⟨by omega, by omega⟩) ?_
    refine ASeq.op rfl rfl (AOp.callP 3 rfl (by kernel_rfl) rfl rfl rfl (ih0.exprP (p.want w_lp) (d + 1) o1 (by omega) (by omega) (by omega) _ _ _) ?_ (by rintro _ _ ⟨⟩))
    rintro _ _ ⟨te, ts, tf⟩
    refine ASeq.q rfl rfl (QOp.move rfl rfl) ?_
    refine ASeq.q rfl rfl (QOp.extract rfl rfl rfl) ?_
    refine ASeq.q rfl rfl (QOp.extract rfl rfl rfl) ?_
    refine ASeq.op rfl rfl (AOp.allocP rfl (tok _ rfl) rfl rfl (fun _ => rfl) (fun _ => ?_))
    refine ASeq.op0 rfl rfl (AOp.storeP 5 rfl rfl rfl rfl (tok _ rfl) rfl rfl rfl rfl ?_)
    refine ASeq.q rfl rfl (QOp.assign rfl rfl) ?_
    refine ASeq.nil ?_
    refine ACode.seq (ACode.region ?_)
    refine ASeq.q rfl rfl (QOp.loadM 5 rfl rfl rfl (tok _ rfl) rfl) ?_
    refine ASeq.op rfl rfl (AOp.callP 3 rfl (by kernel_rfl) rfl rfl rfl (want_ok _ o2 w_rp _ _ _) ?_ (by rintro _ _ ⟨⟩))
    rintro _ _ ⟨te, ts, tf⟩
    refine ASeq.q rfl rfl (QOp.move rfl rfl) ?_
    refine ASeq.op0 rfl rfl (AOp.storeP 4 rfl rfl rfl rfl (tok _ rfl) rfl rfl rfl rfl ?_)
    refine ASeq.q rfl rfl (QOp.assign rfl rfl) ?_
    refine ASeq.nil ?_
    refine ACode.ret (AExit.then_ret ?_)
    refine bodyQ_ret 3 (.cell 4 rfl rfl (tok _ rfl) rfl (.tmp rfl .nil)) rfl ?_
    rw [show primary (n + 1) p d = ((exprP n (p.want w_lp) (d + 1)).1.want w_rp, (exprP n (p.want w_lp) (d + 1)).2) by simp [primary, hc, hk, ht, hf, hr, hl]]
    exact .mk _ _ _
  have ks := kst 1 (by decide)
  have ok1 := ks.ok (by decide) (by decide) h
  have m1 := ks.go h hc (.inl (by decide))
  refine ACode.skip (ACode.seq (ACode.region ?_))
  refine ASeq.q rfl rfl (QOp.loadM 3 rfl rfl rfl (tok _ rfl) rfl) ?_
  refine ASeq.op rfl rfl (AOp.callP 3 rfl (by kernel_rfl) rfl rfl rfl (kind_ok p h 1 _ _ _) ?_ (by rintro _ _ ⟨⟩))
  rintro _ _ ⟨te, ts, tf⟩
  refine ASeq.q rfl rfl (QOp.move rfl rfl) ?_
  refine ASeq.q rfl rfl (QOp.extract rfl rfl rfl) ?_
  refine ASeq.q rfl rfl (QOp.extract rfl rfl rfl) ?_
  refine ASeq.op rfl rfl (AOp.allocP rfl (tok _ rfl) rfl rfl (fun _ => rfl) (fun _ => ?_))
  refine ASeq.op0 rfl rfl (AOp.storeP 5 rfl rfl rfl rfl (tok _ rfl) rfl rfl rfl rfl ?_)
  refine ASeq.q rfl rfl (QOp.assign rfl rfl) ?_
  refine ASeq.nil ?_
  refine ACode.seq (ACode.seq (ACode.region ?_))
  refine ASeq.q rfl rfl (QOp.loadM 5 rfl rfl rfl (tok _ rfl) rfl) ?_
  refine ASeq.op rfl rfl (AOp.callP 0 rfl (by kernel_rfl) rfl rfl rfl (is_ok _ ok1 w_lb _ _ _) ?_ (by rintro _ _ ⟨⟩))
  rintro _ _ ⟨⟩
  refine ASeq.nil ?_
  refine AExit.then_normal ?_
  refine ACode.cond _ rfl (fun hi => ?_) (fun hi => ?_)
  · have m2 := mm_wantle ok1 w_lb
    have o2 := ok_want ok1 w_lb
    have s3 := (steps n).exprP ((p.kindOf 1).1.want w_lb) (d + 1)
    have o3 := s3.ok (by decide) (by decide) o2
    have s4 := ((ks.then (Step.want (p.kindOf 1).1 w_lb) (by decide) (by decide)).then s3 (by decide) (by decide)).then (Step.want (exprP n ((p.kindOf 1).1.want w_lb) (d + 1)).1 w_rb) (by decide) (by decide)
    refine ACode.seq (ACode.region ?_)
    refine ASeq.q rfl rfl (QOp.loadM 5 rfl rfl rfl (tok _ rfl) rfl) ?_
    refine ASeq.op rfl rfl (AOp.callP 3 rfl (by kernel_rfl) rfl rfl rfl (want_ok _ ok1 w_lb _ _ _) ?_ (by rintro _ _ ⟨⟩))
    rintro _ _ ⟨te, ts, tf⟩
    refine ASeq.q rfl rfl (QOp.move rfl rfl) ?_
    refine ASeq.q rfl rfl (QOp.ar64 rfl rfl rfl rfl ⟨by omega, by omega⟩) ?_
    refine ASeq.op rfl rfl (AOp.callP 3 rfl (by kernel_rfl) rfl rfl rfl (ih0.exprP _ (d + 1) o2 (by omega) (by omega) (by omega) _ _ _) ?_ (by rintro _ _ ⟨⟩))
    rintro _ _ ⟨te, ts, tf⟩
    refine ASeq.q rfl rfl (QOp.move rfl rfl) ?_
    refine ASeq.q rfl rfl (QOp.extract rfl rfl rfl) ?_
    refine ASeq.q rfl rfl (QOp.extract rfl rfl rfl) ?_
    refine ASeq.op rfl rfl (AOp.allocP rfl (tok _ rfl) rfl rfl (fun _ => rfl) (fun _ => ?_))
    refine ASeq.op0 rfl rfl (AOp.storeP 6 rfl rfl rfl rfl (tok _ rfl) rfl rfl rfl rfl ?_)
    refine ASeq.q rfl rfl (QOp.assign rfl rfl) ?_
    refine ASeq.nil ?_
    refine ACode.seq (ACode.region ?_)
    refine ASeq.q rfl rfl (QOp.loadM 6 rfl rfl rfl (tok _ rfl) rfl) ?_
    refine ASeq.op rfl rfl (AOp.callP 3 rfl (by kernel_rfl) rfl rfl rfl (want_ok _ o3 w_rb _ _ _) ?_ (by rintro _ _ ⟨⟩))
    rintro _ _ ⟨te, ts, tf⟩
    refine ASeq.q rfl rfl (QOp.move rfl rfl) ?_
    refine ASeq.q rfl rfl (QOp.move rfl rfl) ?_
    refine ASeq.q rfl rfl (QOp.move rfl rfl) ?_
    refine ASeq.q rfl rfl (QOp.build rfl (tok _ rfl) rfl rfl rfl rfl rfl) ?_
    refine ASeq.op rfl rfl (AOp.callP 3 rfl (by kernel_rfl) rfl rfl rfl (put_le _ (ok_want o3 w_rb) p.here { kind := 5, name := (p.kindOf 1).2, a := (exprP n ((p.kindOf 1).1.want w_lb) (d + 1)).2 } (s4.pos h (.inl (by decide))) nil_le _ _ _) ?_ (by rintro _ _ ⟨⟩))
    rintro _ _ ⟨te, ts, tf⟩
    refine ASeq.q rfl rfl (QOp.extract rfl rfl rfl) ?_
    refine ASeq.q rfl rfl (QOp.extract rfl rfl rfl) ?_
    refine ASeq.op0 rfl rfl (AOp.storeP 4 rfl rfl rfl rfl (tok _ rfl) rfl rfl rfl rfl ?_)
    refine ASeq.q rfl rfl (QOp.assign rfl rfl) ?_
    refine ASeq.nil ?_
    refine ACode.ret (AExit.then_ret ?_)
    refine bodyQ_ret 3 (.cell 4 rfl rfl (tok _ rfl) rfl (.tmp rfl .nil)) rfl ?_
    rw [show primary (n + 1) p d = ((exprP n ((p.kindOf 1).1.want w_lb) (d + 1)).1.want w_rb).put p.here { kind := 5, name := (p.kindOf 1).2, a := (exprP n ((p.kindOf 1).1.want w_lb) (d + 1)).2 } by simp [primary, hc, hk, ht, hf, hr, hl, hi]]
    exact .mk _ _ _
  refine ACode.skip (ACode.seq (ACode.seq (ACode.region ?_)))
  refine ASeq.q rfl rfl (QOp.loadM 5 rfl rfl rfl (tok _ rfl) rfl) ?_
  refine ASeq.op rfl rfl (AOp.callP 0 rfl (by kernel_rfl) rfl rfl rfl (is_ok _ ok1 w_lp _ _ _) ?_ (by rintro _ _ ⟨⟩))
  rintro _ _ ⟨⟩
  refine ASeq.nil ?_
  refine AExit.then_normal ?_
  refine ACode.cond _ rfl (fun hj => ?_) (fun hj => ?_)
  · refine ACode.seq (ACode.region ?_)
    refine ASeq.q rfl rfl (QOp.loadM 5 rfl rfl rfl (tok _ rfl) rfl) ?_
    refine ASeq.q rfl rfl (QOp.move rfl rfl) ?_
    refine ASeq.q rfl rfl (QOp.move rfl rfl) ?_
    refine ASeq.q rfl rfl (QOp.move rfl rfl) ?_
    refine ASeq.op rfl rfl (AOp.callP 3 rfl (by kernel_rfl) rfl rfl rfl (ih0.callP _ p.here (p.kindOf 1).2 d ok1 hd (by omega) (by omega) _ _ _) ?_ (by rintro _ _ ⟨⟩))
    rintro _ _ ⟨te, ts, tf⟩
    refine ASeq.q rfl rfl (QOp.extract rfl rfl rfl) ?_
    refine ASeq.q rfl rfl (QOp.extract rfl rfl rfl) ?_
    refine ASeq.op0 rfl rfl (AOp.storeP 4 rfl rfl rfl rfl (tok _ rfl) rfl rfl rfl rfl ?_)
    refine ASeq.q rfl rfl (QOp.assign rfl rfl) ?_
    refine ASeq.nil ?_
    refine ACode.ret (AExit.then_ret ?_)
    refine bodyQ_ret 3 (.cell 4 rfl rfl (tok _ rfl) rfl (.tmp rfl .nil)) rfl ?_
    rw [show primary (n + 1) p d = callP n (p.kindOf 1).1 p.here (p.kindOf 1).2 d by simp [primary, hc, hk, ht, hf, hr, hl, hi, hj]]
    exact .mk _ _ _
  refine ACode.skip (ACode.seq (ACode.region ?_))
  refine ASeq.q rfl rfl (QOp.loadM 5 rfl rfl rfl (tok _ rfl) rfl) ?_
  refine ASeq.q rfl rfl (QOp.move rfl rfl) ?_
  refine ASeq.q rfl rfl (QOp.move rfl rfl) ?_
  refine ASeq.q rfl rfl (QOp.build rfl (tok _ rfl) rfl rfl rfl rfl rfl) ?_
  refine ASeq.op rfl rfl (AOp.callP 3 rfl (by kernel_rfl) rfl rfl rfl (put_le _ ok1 p.here { kind := 4, name := (p.kindOf 1).2 } (ks.pos h (.inl (by decide))) nil_le _ _ _) ?_ (by rintro _ _ ⟨⟩))
  rintro _ _ ⟨te, ts, tf⟩
  refine ASeq.q rfl rfl (QOp.extract rfl rfl rfl) ?_
  refine ASeq.q rfl rfl (QOp.extract rfl rfl rfl) ?_
  refine ASeq.op0 rfl rfl (AOp.storeP 4 rfl rfl rfl rfl (tok _ rfl) rfl rfl rfl rfl ?_)
  refine ASeq.q rfl rfl (QOp.assign rfl rfl) ?_
  refine ASeq.nil ?_
  refine ACode.ret ?_
  refine bodyQ_ret 3 (.cell 4 rfl rfl (tok _ rfl) rfl (.tmp rfl .nil)) rfl ?_
  rw [show primary (n + 1) p d = (p.kindOf 1).1.put p.here { kind := 4, name := (p.kindOf 1).2 } by simp [primary, hc, hk, ht, hf, hr, hl, hi, hj]]
  exact .mk _ _ _
end Go.Proofs.Ytaadamobapnfbaa
set_option linter.unusedVariables false
set_option linter.unusedSimpArgs false
set_option maxRecDepth 100000
namespace Go.Proofs.Ytaadamobapnfbaa
open Go Go.Abs
theorem ints_len (l : List Int) : (ints l).length = l.length := by simp [ints]
theorem ints_rows (l : List Int) (x : Int) : ∀ r ∈ ints l ++ [[vi x]], r.length = 1 := rows_ok 1 _ _ (fun y hy => by obtain ⟨z, _, rfl⟩ := List.mem_map.1 hy; rfl) rfl
theorem ints_snoc (l : List Int) (x : Int) : ints l ++ [[vi x]] = ints (l ++ [x]) := by simp [ints]
theorem le_dm' {d a b : Int} (h : d + a + 20 ≤ dmax) (h' : b + 20 ≤ a) : d + b + 20 ≤ dmax := by omega
theorem le_k' {k : Nat} {a b : Int} (h : a + 10 ≤ (k + 1 : Nat)) (h' : b + 20 ≤ a) : b + 10 ≤ k := by omega
theorem call_walk (n : Nat) (ih : ∀ k < n + 1, Walks k) (p : PS) (fr : Int) (name : ByteArray) (d : Int) (h : p.ok) (hd : 0 ≤ d) (hdm : d + p.mm ≤ dmax) (hm : p.mm + 11 ≤ (n + 1 : Nat)) (te ts tf : Nat) :
    ACalls Try.prog 101 [.agg (p.cells te ts tf), vi fr, vs name, vi d] [.tk te, .tk ts, .tk tf] (RPV (callP (n + 1) p fr name d).1 (vi (callP (n + 1) p fr name d).2)) := by
  have ih0 := ih n (by omega)
  have hnn := PS.mm_nn h
  have hmax : dmax = 1099511627776 := rfl
  have o1 := ok_want h w_lp
  have m1 := mm_wantle h w_lp
  have n1 := PS.mm_nn o1
  have a1 := o1.at0
  refine ACalls.of_code (c := _) Try.func101 rfl Try.ntmps101 (Nat.le_of_ble_eq_true rfl) ?_
  refine ACode.seq (ACode.region ?_)
  refine ASeq.op rfl rfl (AOp.boxP rfl rfl rfl (fun _ => rfl) (fun _ => ?_))
  refine ASeq.op rfl rfl (AOp.allocP rfl (tok _ rfl) rfl rfl (fun _ => rfl) (fun _ => ?_))
  refine ASeq.q rfl rfl (QOp.assign rfl rfl) ?_
  refine ASeq.nil ?_
  refine ACode.seq (ACode.region ?_)
  refine ASeq.q rfl rfl (QOp.loadM 3 rfl rfl rfl (tok _ rfl) rfl) ?_
  refine ASeq.op rfl rfl (AOp.callP 3 rfl (by kernel_rfl) rfl rfl rfl (want_ok p h w_lp _ _ _) ?_ (by rintro _ _ ⟨⟩))
  rintro _ _ ⟨te, ts, tf⟩
  refine ASeq.op0 rfl rfl (AOp.storeP 3 rfl rfl rfl rfl (tok _ rfl) rfl rfl rfl rfl ?_)
  refine ASeq.nil ?_
  refine ACode.seq (ACode.region ?_)
  refine ASeq.q rfl rfl (QOp.move rfl rfl) ?_
  refine ASeq.q rfl rfl (QOp.build rfl (tok _ rfl) rfl rfl rfl rfl rfl) ?_
  refine ASeq.op rfl rfl (AOp.allocP rfl (tok _ rfl) rfl rfl (fun _ => rfl) (fun _ => ?_))
  refine ASeq.op0 rfl rfl (AOp.storeP 5 rfl rfl rfl rfl (tok _ rfl) rfl rfl rfl rfl ?_)
  refine ASeq.nil ?_
  refine ACode.seq (ACode.block ?_)
  refine ACode.newTok (fun tl => ?_)
  refine ACode.cells (cells' := [vi 6, vi 0, vi 0, vi 0, vs name, vs ⟨#[]⟩, vi 0, vi 0, .il 1 (some tl) (ints [])]) [_, _, _, _, _] [_] rfl
    (.cons (.refl _) (.cons (.refl _) (.cons (.refl _) (.cons (.refl _) (.cons (.refl _) (.cons (.refl _) (.cons (.refl _) (.cons (.refl _) (.cons (AV.Le.nilT 1 _) .nil))))))))) ?_
  refine ACode.loopP (fun (x : Nat × PS × List Int × Nat × Nat × Nat × Nat) => [(1, vi fr), (2, vs name), (3, vi d), (4, .mp _ 0), (8, .mp _ 0), (10, .mp _ 0)])
    (fun (x : Nat × PS × List Int × Nat × Nat × Nat × Nat) => [.tk x.2.2.2.1, .tk x.2.2.2.2.1, .tk x.2.2.2.2.2.1, .mu _ (x.2.1.cells x.2.2.2.1 x.2.2.2.2.1 x.2.2.2.2.2.1), .mu _ _,
      .mu _ [vi 6, vi 0, vi 0, vi 0, vs name, vs ⟨#[]⟩, vi 0, vi 0, .il 1 (some x.2.2.2.2.2.2) (ints x.2.2.1)], .tk x.2.2.2.2.2.2]) (fun x => x.1)
    (fun x => x.1 ≤ n ∧ x.2.1.ok ∧ (x.2.1.code = 0 → d + x.2.1.mm + 20 ≤ dmax) ∧ x.2.1.mm + 10 ≤ x.1 ∧ callLoop x.1 x.2.1 x.2.2.1 d = callLoop n (p.want w_lp) [] d ∧ (x.2.1.code = 0 → (x.2.2.1.length : Int) ≤ x.2.1.at_) ∧ (x.2.2.1.length : Int) ≤ x.2.1.at_ + 1)
    (n, p.want w_lp, [], te, ts, tf, tl)
    ⟨Nat.le_refl _, o1, fun hz => by have := (Step.want p w_lp).go h ((Step.want p w_lp).live hz) (.inl (by decide)); dsimp only; omega, by dsimp only; omega, rfl, fun _ => by simpa using a1, by simp only [List.length_nil]; omega⟩ (.cons rfl (.cons rfl (.cons rfl (.cons rfl (.cons rfl (.cons rfl .nil)))))) 7 rfl ?_
  rintro ⟨k, q, l, te, ts, tf, tl⟩ ⟨hk, hq, hqd, hqm, hres, hlc, hll⟩
  dsimp only at hk hq hqd hqm hres hlc hll
  have hqn := PS.mm_nn hq
  obtain ⟨k, rfl⟩ : ∃ k', k = k' + 1 := ⟨k - 1, by omega⟩
  have ihk := ih k (by omega)
  have q0 := hq.at0
  have q1 := hq.at1
  have q2 := hq.small
  refine ACode.seq (ACode.seq (ACode.region ?_))
  refine ASeq.q rfl rfl (QOp.fieldM rfl rfl (tok _ rfl) rfl rfl (by decide) rfl) ?_
  refine ASeq.q rfl rfl (QOp.loadM 3 rfl rfl rfl (tok _ rfl) rfl) ?_
  refine ASeq.q rfl rfl (QOp.cmp rfl rfl rfl rfl) ?_
  refine ASeq.q rfl rfl (QOp.move rfl rfl) ?_
  refine ASeq.split 20 (q.code == 0) rfl (fun hb => ?_) (fun hb => ?_)
  · have hc : q.code = 0 := by simpa using hb
    have hlc := hlc hc
    have hqd := hqd hc
    refine ASeq.gq _ _ rfl rfl rfl rfl (QOp.loadM 3 rfl rfl rfl (tok _ rfl) rfl) ?_
    refine ASeq.gop _ _ rfl rfl rfl rfl (AOp.callP 0 rfl (by kernel_rfl) rfl rfl rfl (is_ok q hq w_rp _ _ _) ?_ (by rintro _ _ ⟨⟩))
    rintro _ _ ⟨⟩
    refine ASeq.gq _ _ rfl rfl rfl rfl (QOp.not rfl rfl) ?_
    refine ASeq.q rfl rfl (QOp.pickT rfl rfl rfl) ?_
    refine ASeq.nil ?_
    refine AExit.then_normal ?_
    refine ACode.cond _ rfl (fun hb => ?_) (fun hb => ?_)
    · have hr : q.is w_rp = false := by simpa using hb
      have hgo : callLoop (k + 1) q l d = callLoop k (exprP k (if l = [] then q else q.want w_comma) (d + 1)).1 (l ++ [(exprP k (if l = [] then q else q.want w_comma) (d + 1)).2]) d := by
        simp only [callLoop]; rw [if_pos ⟨hc, hr⟩]
      rw [hgo] at hres
      refine ACode.skip (ACode.block (ACode.seq (ACode.seq (ACode.region ?_))))
      refine ASeq.q rfl rfl (QOp.fieldM rfl rfl (tok _ rfl) rfl rfl (by decide) rfl) ?_
      refine ASeq.q rfl rfl (QOp.loadM 5 rfl rfl rfl (tok _ rfl) rfl) ?_
      refine ASeq.q rfl rfl (QOp.lenI rfl rfl (tok _ rfl) rfl) ?_
      refine ASeq.q rfl rfl (QOp.cmp rfl rfl rfl rfl) ?_
      refine ASeq.nil ?_
      refine AExit.then_normal ?_
      refine ACode.cond _ rfl (fun hb => ?_) (fun hb => ?_)
      · have hl : l ≠ [] := by rintro rfl; simp [ints] at hb
        rw [if_neg hl] at hres
        refine ACode.region ?_
        refine ASeq.q rfl rfl (QOp.loadM 3 rfl rfl rfl (tok _ rfl) rfl) ?_
        refine ASeq.op rfl rfl (AOp.callP 3 rfl (by kernel_rfl) rfl rfl rfl (want_ok q hq w_comma _ _ _) ?_ (by rintro _ _ ⟨⟩))
        rintro _ _ ⟨te, ts, tf⟩
        refine ASeq.op0 rfl rfl (AOp.storeP 3 rfl rfl rfl rfl (tok _ rfl) rfl rfl rfl rfl ?_)
        refine ASeq.nil ?_
        refine ACode.seq (ACode.region ?_)
        have oa : (q.want w_comma).ok := ok_want hq _
        have ma : (q.want w_comma).mm ≤ q.mm := mm_wantle hq _
        have sa : q.at_ ≤ (q.want w_comma).at_ := (Step.want q _).at_
        have t2 := (steps k).exprP (q.want w_comma) (d + 1)
        have ob := t2.ok (by decide) (by decide) oa
        have tb : Step 0 1 q (exprP k (q.want w_comma) (d + 1)).1 := ((Step.want q w_comma).then t2 (by decide) (by decide)).weak (by decide) (by decide)
        have mb := tb.go hq hc (.inr (by decide))
        have hat : (exprP k (q.want w_comma) (d + 1)).1.code = 0 → ((l ++ [(exprP k (q.want w_comma) (d + 1)).2]).length : Int) ≤ (exprP k (q.want w_comma) (d + 1)).1.at_ := fun hz => by
          have e2 := tb.st0 hz
          have e3 := tb.sts
          obtain ⟨ys, e3⟩ := e3
          rw [e3, List.length_append] at e2
          simp only [List.length_append, List.length_cons, List.length_nil]
          omega
        have hat2 : ((l ++ [(exprP k (q.want w_comma) (d + 1)).2]).length : Int) ≤ (exprP k (q.want w_comma) (d + 1)).1.at_ + 1 := by
          have e2 := tb.at_
          simp only [List.length_append, List.length_cons, List.length_nil]
          omega
        refine ASeq.q rfl rfl (QOp.loadM 3 rfl rfl rfl (tok _ rfl) rfl) ?_
        refine ASeq.q rfl rfl (QOp.move rfl rfl) ?_
        refine ASeq.q rfl rfl (QOp.ar64 rfl rfl rfl rfl ⟨by omega, by omega⟩) ?_
        refine ASeq.op rfl rfl (AOp.callP 3 rfl (by kernel_rfl) rfl rfl rfl (ihk.exprP (q.want w_comma) (d + 1) oa (by omega) (by omega) (by omega) _ _ _) ?_ (by rintro _ _ ⟨⟩))
        rintro _ _ ⟨te, ts, tf⟩
        refine ASeq.q rfl rfl (QOp.move rfl rfl) ?_
        refine ASeq.q rfl rfl (QOp.extract rfl rfl rfl) ?_
        refine ASeq.q rfl rfl (QOp.extract rfl rfl rfl) ?_
        refine ASeq.op rfl rfl (AOp.allocP rfl (tok _ rfl) rfl rfl (fun _ => rfl) (fun _ => ?_))
        refine ASeq.op0 rfl rfl (AOp.storeP 7 rfl rfl rfl rfl (tok _ rfl) rfl rfl rfl rfl ?_)
        refine ASeq.q rfl rfl (QOp.assign rfl rfl) ?_
        refine ASeq.nil ?_
        refine ACode.seq (ACode.region ?_)
        refine ASeq.q rfl rfl (QOp.loadM 7 rfl rfl rfl (tok _ rfl) rfl) ?_
        refine ASeq.op0 rfl rfl (AOp.storeP 3 rfl rfl rfl rfl (tok _ rfl) rfl rfl rfl rfl ?_)
        refine ASeq.nil ?_
        refine ACode.region ?_
        refine ASeq.q rfl rfl (QOp.fieldM rfl rfl (tok _ rfl) rfl rfl (by decide) rfl) ?_
        refine ASeq.q rfl rfl (QOp.loadM 5 rfl rfl rfl (tok _ rfl) rfl) ?_
        refine ASeq.q rfl rfl (QOp.move rfl rfl) ?_
        refine ASeq.op rfl rfl (AOp.buildSliceR rfl (tok _ rfl) rfl (tok _ rfl) (by decide) rfl (by decide) rfl rfl rfl rfl ?_)
        refine ASeq.op rfl rfl (AOp.appendP 6 (e := 3) (tde := TT 3) rfl rfl rfl rfl (tok _ rfl) rfl (tok _ rfl) (tok _ rfl) rfl (by decide) rfl rfl (fun _ => rfl) (ints_rows l _) (by simp only [ints_len, List.length_cons, List.length_nil]; omega) rfl (fun _ => ?_))
        rw [ints_snoc]
        refine ASeq.q rfl rfl (QOp.fieldM rfl rfl (tok _ rfl) rfl rfl (by decide) rfl) ?_
        refine ASeq.op0 rfl rfl (AOp.storeP 5 rfl rfl rfl rfl (tok _ rfl) rfl rfl rfl rfl ?_)
        refine ASeq.nil ?_
        refine AExit.in_normal (AExit.then_normal ?_)
        exact ⟨(k, _, _, _, _, _, _), 7, ⟨by dsimp only; omega, ob, fun _ => le_dm' hqd mb, le_k' hqm mb, hres, hat, hat2⟩, Nat.lt_succ_self _, .cons rfl (.cons rfl (.cons rfl (.cons rfl (.cons rfl (.cons rfl .nil))))), rfl⟩
      · have hl : l = [] := by
          cases l with
          | nil => rfl
          | cons x l => simp [ints] at hb
        rw [if_pos hl] at hres
        refine ACode.skip (ACode.seq (ACode.region ?_))
        have oa : (q).ok := hq
        have ma : (q).mm ≤ q.mm := Int.le_refl _
        have sa : q.at_ ≤ (q).at_ := Int.le_refl _
        have t2 := (steps k).exprP (q) (d + 1)
        have ob := t2.ok (by decide) (by decide) oa
        have tb : Step 0 1 q (exprP k (q) (d + 1)).1 := ((Step.refl q).then t2 (by decide) (by decide)).weak (by decide) (by decide)
        have mb := tb.go hq hc (.inr (by decide))
        have hat : (exprP k (q) (d + 1)).1.code = 0 → ((l ++ [(exprP k (q) (d + 1)).2]).length : Int) ≤ (exprP k (q) (d + 1)).1.at_ := fun hz => by
          have e2 := tb.st0 hz
          have e3 := tb.sts
          obtain ⟨ys, e3⟩ := e3
          rw [e3, List.length_append] at e2
          simp only [List.length_append, List.length_cons, List.length_nil]
          omega
        have hat2 : ((l ++ [(exprP k (q) (d + 1)).2]).length : Int) ≤ (exprP k (q) (d + 1)).1.at_ + 1 := by
          have e2 := tb.at_
          simp only [List.length_append, List.length_cons, List.length_nil]
          omega
        refine ASeq.q rfl rfl (QOp.loadM 3 rfl rfl rfl (tok _ rfl) rfl) ?_
        refine ASeq.q rfl rfl (QOp.move rfl rfl) ?_
        refine ASeq.q rfl rfl (QOp.ar64 rfl rfl rfl rfl ⟨by omega, by omega⟩) ?_
        refine ASeq.op rfl rfl (AOp.callP 3 rfl (by kernel_rfl) rfl rfl rfl (ihk.exprP (q) (d + 1) oa (by omega) (by omega) (by omega) _ _ _) ?_ (by rintro _ _ ⟨⟩))
        rintro _ _ ⟨te, ts, tf⟩
        refine ASeq.q rfl rfl (QOp.move rfl rfl) ?_
        refine ASeq.q rfl rfl (QOp.extract rfl rfl rfl) ?_
        refine ASeq.q rfl rfl (QOp.extract rfl rfl rfl) ?_
        refine ASeq.op rfl rfl (AOp.allocP rfl (tok _ rfl) rfl rfl (fun _ => rfl) (fun _ => ?_))
        refine ASeq.op0 rfl rfl (AOp.storeP 7 rfl rfl rfl rfl (tok _ rfl) rfl rfl rfl rfl ?_)
        refine ASeq.q rfl rfl (QOp.assign rfl rfl) ?_
        refine ASeq.nil ?_
        refine ACode.seq (ACode.region ?_)
        refine ASeq.q rfl rfl (QOp.loadM 7 rfl rfl rfl (tok _ rfl) rfl) ?_
        refine ASeq.op0 rfl rfl (AOp.storeP 3 rfl rfl rfl rfl (tok _ rfl) rfl rfl rfl rfl ?_)
        refine ASeq.nil ?_
        refine ACode.region ?_
        refine ASeq.q rfl rfl (QOp.fieldM rfl rfl (tok _ rfl) rfl rfl (by decide) rfl) ?_
        refine ASeq.q rfl rfl (QOp.loadM 5 rfl rfl rfl (tok _ rfl) rfl) ?_
        refine ASeq.q rfl rfl (QOp.move rfl rfl) ?_
        refine ASeq.op rfl rfl (AOp.buildSliceR rfl (tok _ rfl) rfl (tok _ rfl) (by decide) rfl (by decide) rfl rfl rfl rfl ?_)
        refine ASeq.op rfl rfl (AOp.appendP 6 (e := 3) (tde := TT 3) rfl rfl rfl rfl (tok _ rfl) rfl (tok _ rfl) (tok _ rfl) rfl (by decide) rfl rfl (fun _ => rfl) (ints_rows l _) (by simp only [ints_len, List.length_cons, List.length_nil]; omega) rfl (fun _ => ?_))
        rw [ints_snoc]
        refine ASeq.q rfl rfl (QOp.fieldM rfl rfl (tok _ rfl) rfl rfl (by decide) rfl) ?_
        refine ASeq.op0 rfl rfl (AOp.storeP 5 rfl rfl rfl rfl (tok _ rfl) rfl rfl rfl rfl ?_)
        refine ASeq.nil ?_
        refine AExit.in_normal (AExit.then_normal ?_)
        exact ⟨(k, _, _, _, _, _, _), 7, ⟨by dsimp only; omega, ob, fun _ => le_dm' hqd mb, le_k' hqm mb, hres, hat, hat2⟩, Nat.lt_succ_self _, .cons rfl (.cons rfl (.cons rfl (.cons rfl (.cons rfl (.cons rfl .nil))))), rfl⟩
    · have hr : q.is w_rp = true := by simpa using hb
      have hend : callLoop (k + 1) q l d = (q, l) := by simp only [callLoop]; rw [if_neg (by simp [hr])]
      rw [hend] at hres
      obtain ⟨e1, e2⟩ := Prod.mk.injEq _ _ _ _ ▸ hres
      refine ACode.exit (ACode.seq ?_)
      refine ACode.drawn [[], [0], [], [], [0, 1, 2, 3], [0, 1, 2, 3, 4], [0, 1, 2, 3, 4], [0, 1, 2, 3, 4, 5, 6], [0, 1, 2, 3, 4, 5, 6, 7]] (by kernel_rfl) mixed ?_
      refine DAny.ld 0 rfl rfl (by kernel_rfl) rfl (.does _ _ rfl (.none rfl) (QOp.loadM 3 rfl rfl rfl (tok _ rfl) rfl)) ?_
      refine DAny.qu 2 rfl rfl (by kernel_rfl) rfl (fun _ => .does _ _ rfl (.none rfl) (QOp.move rfl rfl)) ?_
      refine DAny.ld 3 rfl rfl (by kernel_rfl) rfl (.does _ _ rfl (.none rfl) (QOp.loadM 5 rfl rfl rfl (tok _ rfl) rfl)) ?_
      refine DAny.ef 1 rfl (by kernel_rfl) (.none rfl) rfl rfl (AOp.callP 3 rfl (by kernel_rfl) rfl rfl rfl (want_ok q hq w_rp _ _ _) ?_ (by rintro _ _ ⟨⟩))
      rintro _ _ ⟨te, ts, tf⟩
      refine ⟨(by ((refine AllQ.cons (.does _ _ rfl (.none rfl) (QOp.loadM 5 rfl rfl rfl (tok _ rfl) rfl)) ?_); (exact AllQ.nil))), ?_⟩
      refine DAny.ef 4 rfl (by kernel_rfl) (.none rfl) rfl rfl (AOp.callP 3 rfl (by kernel_rfl) rfl rfl rfl (put_le _ (ok_want hq w_rp) fr { kind := 6, name := name, list := l } ((Step.want q w_rp).pos hq (.inl (by decide))) (AV.Le.tok 1 _ (ints l)) _ _ _) ?_ (by rintro _ _ ⟨⟩))
      rintro _ _ ⟨te, ts, tf⟩
      refine ⟨(by ((exact AllQ.nil))), ?_⟩
      refine DAny.qu 5 rfl rfl (by kernel_rfl) rfl (fun _ => .does _ _ rfl (.none rfl) (QOp.extract rfl rfl rfl)) ?_
      refine DAny.qu 6 rfl rfl (by kernel_rfl) rfl (fun _ => .does _ _ rfl (.none rfl) (QOp.extract rfl rfl rfl)) ?_
      refine DAny.ef0 7 rfl (by kernel_rfl) (.none rfl) rfl rfl (AOp.storeP 4 rfl rfl rfl rfl (tok _ rfl) rfl rfl rfl rfl ⟨(by ((exact AllQ.nil))), ?_⟩)
      refine DAny.ef 8 rfl (by kernel_rfl) (.none rfl) rfl rfl (.q (QOp.assign rfl rfl) ⟨(by ((exact AllQ.nil))), ?_⟩)
      refine DAny.done (by kernel_rfl) ?_
      refine ACode.ret ?_
      refine bodyQ_ret 3 (.cell 4 rfl rfl (tok _ rfl) rfl (.tmp rfl .nil)) rfl ?_
      rw [show callP (n + 1) p fr name d = (q.want w_rp).put fr { kind := 6, name := name, list := l } by simp only [callP, ← hres]]
      exact .mk _ _ _
  · have hc : q.code ≠ 0 := by simpa using hb
    refine ASeq.gno _ _ rfl rfl rfl rfl rfl ?_
    refine ASeq.gno _ _ rfl rfl rfl rfl rfl ?_
    refine ASeq.gno _ _ rfl rfl rfl rfl rfl ?_
    refine ASeq.q rfl rfl (QOp.pickF rfl rfl rfl) ?_
    refine ASeq.nil ?_
    refine AExit.then_normal ?_
    refine ACode.cond _ rfl (fun hb => by cases hb) (fun hb => ?_)
    have hend : callLoop (k + 1) q l d = (q, l) := by simp only [callLoop]; rw [if_neg (by simp [hc])]
    rw [hend] at hres
    obtain ⟨e1, e2⟩ := Prod.mk.injEq _ _ _ _ ▸ hres
    refine ACode.exit (ACode.seq ?_)
    refine ACode.drawn [[], [0], [], [], [0, 1, 2, 3], [0, 1, 2, 3, 4], [0, 1, 2, 3, 4], [0, 1, 2, 3, 4, 5, 6], [0, 1, 2, 3, 4, 5, 6, 7]] (by kernel_rfl) mixed ?_
    refine DAny.ld 0 rfl rfl (by kernel_rfl) rfl (.does _ _ rfl (.none rfl) (QOp.loadM 3 rfl rfl rfl (tok _ rfl) rfl)) ?_
    refine DAny.qu 2 rfl rfl (by kernel_rfl) rfl (fun _ => .does _ _ rfl (.none rfl) (QOp.move rfl rfl)) ?_
    refine DAny.ld 3 rfl rfl (by kernel_rfl) rfl (.does _ _ rfl (.none rfl) (QOp.loadM 5 rfl rfl rfl (tok _ rfl) rfl)) ?_
    refine DAny.ef 1 rfl (by kernel_rfl) (.none rfl) rfl rfl (AOp.callP 3 rfl (by kernel_rfl) rfl rfl rfl (want_ok q hq w_rp _ _ _) ?_ (by rintro _ _ ⟨⟩))
    rintro _ _ ⟨te, ts, tf⟩
    refine ⟨(by ((refine AllQ.cons (.does _ _ rfl (.none rfl) (QOp.loadM 5 rfl rfl rfl (tok _ rfl) rfl)) ?_); (exact AllQ.nil))), ?_⟩
    refine DAny.ef 4 rfl (by kernel_rfl) (.none rfl) rfl rfl (AOp.callP 3 rfl (by kernel_rfl) rfl rfl rfl (put_le _ (ok_want hq w_rp) fr { kind := 6, name := name, list := l } ((Step.want q w_rp).pos hq (.inl (by decide))) (AV.Le.tok 1 _ (ints l)) _ _ _) ?_ (by rintro _ _ ⟨⟩))
    rintro _ _ ⟨te, ts, tf⟩
    refine ⟨(by ((exact AllQ.nil))), ?_⟩
    refine DAny.qu 5 rfl rfl (by kernel_rfl) rfl (fun _ => .does _ _ rfl (.none rfl) (QOp.extract rfl rfl rfl)) ?_
    refine DAny.qu 6 rfl rfl (by kernel_rfl) rfl (fun _ => .does _ _ rfl (.none rfl) (QOp.extract rfl rfl rfl)) ?_
    refine DAny.ef0 7 rfl (by kernel_rfl) (.none rfl) rfl rfl (AOp.storeP 4 rfl rfl rfl rfl (tok _ rfl) rfl rfl rfl rfl ⟨(by ((exact AllQ.nil))), ?_⟩)
    refine DAny.ef 8 rfl (by kernel_rfl) (.none rfl) rfl rfl (.q (QOp.assign rfl rfl) ⟨(by ((exact AllQ.nil))), ?_⟩)
    refine DAny.done (by kernel_rfl) ?_
    refine ACode.ret ?_
    refine bodyQ_ret 3 (.cell 4 rfl rfl (tok _ rfl) rfl (.tmp rfl .nil)) rfl ?_
    rw [show callP (n + 1) p fr name d = (q.want w_rp).put fr { kind := 6, name := name, list := l } by simp only [callP, ← hres]]
    exact .mk _ _ _
theorem walks : ∀ n, Walks n := by
  intro n
  induction n using Nat.strongRecOn with
  | ind n ih =>
    cases n with
    | zero =>
      refine ⟨fun p l d h hl0 hl5 hd hdm hm => ?_, fun p d h hd hdm hm => ?_, fun p d h hd hdm hm => ?_, fun p d h hd hdm hm => ?_, fun p fr name d h hd hdm hm => ?_⟩ <;> (have := PS.mm_nn h; omega)
    | succ n =>
      exact ⟨fun p l d h hl0 hl5 hd hdm hm te ts tf => row_walk n ih p l d te ts tf h hl0 hl5 hd hdm hm, fun p d h hd hdm hm te ts tf => expr_walk n ih p d h hd hdm hm te ts tf, fun p d h hd hdm hm te ts tf => unary_walk n ih p d h hd hdm hm te ts tf,
        fun p d h hd hdm hm te ts tf => primary_walk n ih p d h hd hdm hm te ts tf, fun p fr name d h hd hdm hm te ts tf => call_walk n ih p fr name d h hd hdm hm te ts tf⟩
end Go.Proofs.Ytaadamobapnfbaa
set_option linter.unusedVariables false
set_option linter.unusedSimpArgs false
set_option maxRecDepth 100000
namespace Go.Proofs.Ytaadamobapnfbaa
open Go Go.Abs
structure Walks2 (n : Nat) : Prop where
  block : ∀ (p : PS) (d : Int), p.ok → 0 ≤ d → d + p.mm ≤ dmax → p.mm + 14 ≤ n → ∀ te ts tf : Nat, ACalls Try.prog 59 [.agg (p.cells te ts tf), vi d] [.tk te, .tk ts, .tk tf] (RPV (block n p d).1 (.il 1 none (ints (block n p d).2)))
  stmt : ∀ (p : PS) (d : Int), p.ok → 0 ≤ d → d + p.mm + 20 ≤ dmax → p.mm + 12 ≤ n → ∀ te ts tf : Nat, ACalls Try.prog 80 [.agg (p.cells te ts tf), vi d] [.tk te, .tk ts, .tk tf] (RPV (stmt n p d).1 (vi (stmt n p d).2))
  branch : ∀ (p : PS) (fr d : Int), p.ok → 0 ≤ d → d + p.mm + 20 ≤ dmax → p.mm + 15 ≤ n → ∀ te ts tf : Nat, ACalls Try.prog 97 [.agg (p.cells te ts tf), vi fr, vi d] [.tk te, .tk ts, .tk tf] (RPV (branch n p fr d).1 (vi (branch n p fr d).2))
/-- the word of a number; or nothing, where something is wrong -/
theorem kindOf_num' {p : PS} (h : p.ok) : digs (p.kindOf 2).2.data.toList ∧ (p.kindOf 2).2.size ≤ 18 := by
  by_cases hc : p.code = 0 ∧ p.tok.kind = 2
  · exact kindOf_num h hc.1 hc.2
  · have : p.kindOf 2 = (p.fail 3, ⟨#[]⟩) := by
      unfold PS.kindOf
      rw [if_pos (by
        by_cases h1 : p.code = 0
        · exact .inr fun h2 => hc ⟨h1, h2⟩
        · exact .inl h1)]
    rw [this]
    exact ⟨fun b hb => by simp at hb, Nat.zero_le _⟩
set_option maxHeartbeats 4000000 in
theorem stmt_walk (n : Nat) (ih : ∀ k < n + 1, Walks2 k) (p : PS) (d : Int) (h : p.ok) (hd : 0 ≤ d) (hdm : d + p.mm + 20 ≤ dmax) (hm : p.mm + 12 ≤ (n + 1 : Nat)) (te ts tf : Nat) :
    ACalls Try.prog 80 [.agg (p.cells te ts tf), vi d] [.tk te, .tk ts, .tk tf] (RPV (stmt (n + 1) p d).1 (vi (stmt (n + 1) p d).2)) := by
  have ih0 := ih n (by omega)
  have ie := walks n
  have hnn := PS.mm_nn h
  have hmax : dmax = 1099511627776 := rfl
  refine ACalls.of_code (c := _) Try.func80 rfl Try.ntmps80 (Nat.le_of_ble_eq_true rfl) ?_
  refine ACode.seq (ACode.region ?_)
  refine ASeq.op rfl rfl (AOp.boxP rfl rfl rfl (fun _ => rfl) (fun _ => ?_))
  refine ASeq.op rfl rfl (AOp.allocP rfl (tok _ rfl) rfl rfl (fun _ => rfl) (fun _ => ?_))
  refine ASeq.q rfl rfl (QOp.assign rfl rfl) ?_
  refine ASeq.nil ?_
  refine ACode.seq (ACode.region ?_)
  refine ASeq.q rfl rfl (QOp.loadM 3 rfl rfl rfl (tok _ rfl) rfl) ?_
  refine ASeq.op rfl rfl (AOp.callP 0 rfl (by kernel_rfl) rfl rfl rfl (here_ok p h _ _ _) ?_ (by rintro _ _ ⟨⟩))
  rintro _ _ ⟨⟩
  refine ASeq.q rfl rfl (QOp.assign rfl rfl) ?_
  refine ASeq.nil ?_
  refine ACode.seq (ACode.region ?_)
  refine ASeq.q rfl rfl (QOp.build rfl (tok _ rfl) rfl rfl rfl rfl rfl) ?_
  refine ASeq.op rfl rfl (AOp.allocP rfl (tok _ rfl) rfl rfl (fun _ => rfl) (fun _ => ?_))
  refine ASeq.op0 rfl rfl (AOp.storeP 5 rfl rfl rfl rfl (tok _ rfl) rfl rfl rfl rfl ?_)
  refine ASeq.nil ?_
  refine ACode.seq (ACode.seq (ACode.region ?_))
  refine ASeq.q rfl rfl (QOp.loadM 3 rfl rfl rfl (tok _ rfl) rfl) ?_
  refine ASeq.op rfl rfl (AOp.callP 0 rfl (by kernel_rfl) rfl rfl rfl (is_ok p h w_if _ _ _) ?_ (by rintro _ _ ⟨⟩))
  rintro _ _ ⟨⟩
  refine ASeq.nil ?_
  refine AExit.then_normal ?_
  refine ACode.cond _ rfl (fun hif => ?_) (fun hif => ?_)
  · have o1 := ok_want h w_if
    have m1 := mm_want h (PS.is_kind hif).1 w_if
    refine ACode.seq (ACode.region ?_)
    refine ASeq.q rfl rfl (QOp.loadM 3 rfl rfl rfl (tok _ rfl) rfl) ?_
    refine ASeq.op rfl rfl (AOp.callP 3 rfl (by kernel_rfl) rfl rfl rfl (want_ok p h w_if _ _ _) ?_ (by rintro _ _ ⟨⟩))
    rintro _ _ ⟨te, ts, tf⟩
    refine ASeq.q rfl rfl (QOp.move rfl rfl) ?_
    refine ASeq.q rfl rfl (QOp.move rfl rfl) ?_
    refine ASeq.op rfl rfl (AOp.callP 3 rfl (by kernel_rfl) rfl rfl rfl (ih0.branch _ p.here d o1 hd (by omega) (by omega) _ _ _) ?_ (by rintro _ _ ⟨⟩))
    rintro _ _ ⟨te, ts, tf⟩
    refine ASeq.q rfl rfl (QOp.extract rfl rfl rfl) ?_
    refine ASeq.q rfl rfl (QOp.extract rfl rfl rfl) ?_
    refine ASeq.op0 rfl rfl (AOp.storeP 4 rfl rfl rfl rfl (tok _ rfl) rfl rfl rfl rfl ?_)
    refine ASeq.q rfl rfl (QOp.assign rfl rfl) ?_
    refine ASeq.nil ?_
    refine ACode.ret (AExit.then_ret ?_)
    refine bodyQ_ret 3 (.cell 4 rfl rfl (tok _ rfl) rfl (.tmp rfl .nil)) rfl ?_
    rw [show stmt (n + 1) p d = branch n (p.want w_if) p.here d by simp [stmt, hif]]
    exact .mk _ _ _
  refine ACode.skip (ACode.seq (ACode.seq (ACode.region ?_)))
  refine ASeq.q rfl rfl (QOp.loadM 3 rfl rfl rfl (tok _ rfl) rfl) ?_
  refine ASeq.op rfl rfl (AOp.callP 0 rfl (by kernel_rfl) rfl rfl rfl (is_ok p h w_while _ _ _) ?_ (by rintro _ _ ⟨⟩))
  rintro _ _ ⟨⟩
  refine ASeq.nil ?_
  refine AExit.then_normal ?_
  refine ACode.cond _ rfl (fun hwh => ?_) (fun hwh => ?_)
  · have o1 := ok_want h w_while
    have m1 := mm_want h (PS.is_kind hwh).1 w_while
    have s2 := (steps n).exprP (p.want w_while) d
    have o2 := s2.ok (by decide) (by decide) o1
    have m2 := s2.le o1
    have s3 := (steps2 n).block (exprP n (p.want w_while) d).1 (d + 1)
    have o3 := s3.ok (by decide) (by decide) o2
    have pos := (((Step.want p w_while).then s2 (by decide) (by decide)).then s3 (by decide) (by decide)).pos h (.inl (by decide))
    refine ACode.seq (ACode.region ?_)
    refine ASeq.q rfl rfl (QOp.loadM 3 rfl rfl rfl (tok _ rfl) rfl) ?_
    refine ASeq.op rfl rfl (AOp.callP 3 rfl (by kernel_rfl) rfl rfl rfl (want_ok p h w_while _ _ _) ?_ (by rintro _ _ ⟨⟩))
    rintro _ _ ⟨te, ts, tf⟩
    refine ASeq.q rfl rfl (QOp.move rfl rfl) ?_
    refine ASeq.op rfl rfl (AOp.callP 3 rfl (by kernel_rfl) rfl rfl rfl (ie.exprP _ d o1 hd (by omega) (by omega) _ _ _) ?_ (by rintro _ _ ⟨⟩))
    rintro _ _ ⟨te, ts, tf⟩
    refine ASeq.q rfl rfl (QOp.move rfl rfl) ?_
    refine ASeq.q rfl rfl (QOp.extract rfl rfl rfl) ?_
    refine ASeq.q rfl rfl (QOp.extract rfl rfl rfl) ?_
    refine ASeq.op rfl rfl (AOp.allocP rfl (tok _ rfl) rfl rfl (fun _ => rfl) (fun _ => ?_))
    refine ASeq.op0 rfl rfl (AOp.storeP 6 rfl rfl rfl rfl (tok _ rfl) rfl rfl rfl rfl ?_)
    refine ASeq.q rfl rfl (QOp.assign rfl rfl) ?_
    refine ASeq.nil ?_
    refine ACode.seq (ACode.region ?_)
    refine ASeq.q rfl rfl (QOp.loadM 6 rfl rfl rfl (tok _ rfl) rfl) ?_
    refine ASeq.q rfl rfl (QOp.move rfl rfl) ?_
    refine ASeq.q rfl rfl (QOp.ar64 rfl rfl rfl rfl ⟨by omega, by omega⟩) ?_
    refine ASeq.op rfl rfl (AOp.callP 3 rfl (by kernel_rfl) rfl rfl rfl (ih0.block _ (d + 1) o2 (by omega) (by omega) (by omega) _ _ _) ?_ (by rintro _ _ ⟨⟩))
    rintro _ _ ⟨te, ts, tf⟩
    refine ASeq.q rfl rfl (QOp.move rfl rfl) ?_
    refine ASeq.q rfl rfl (QOp.extract rfl rfl rfl) ?_
    refine ASeq.q rfl rfl (QOp.extract rfl rfl rfl) ?_
    refine ASeq.op rfl rfl (AOp.allocP rfl (tok _ rfl) rfl rfl (fun _ => rfl) (fun _ => ?_))
    refine ASeq.op0 rfl rfl (AOp.storeP 7 rfl rfl rfl rfl (tok _ rfl) rfl rfl rfl rfl ?_)
    refine ASeq.q rfl rfl (QOp.assign rfl rfl) ?_
    refine ASeq.nil ?_
    refine ACode.seq (ACode.region ?_)
    refine ASeq.q rfl rfl (QOp.loadM 7 rfl rfl rfl (tok _ rfl) rfl) ?_
    refine ASeq.q rfl rfl (QOp.move rfl rfl) ?_
    refine ASeq.q rfl rfl (QOp.move rfl rfl) ?_
    refine ASeq.q rfl rfl (QOp.move rfl rfl) ?_
    refine ASeq.q rfl rfl (QOp.build rfl (tok _ rfl) rfl rfl rfl rfl rfl) ?_
    refine ASeq.op rfl rfl (AOp.callP 3 rfl (by kernel_rfl) rfl rfl rfl (add_le _ o3 p.here { kind := 6, a := (exprP n (p.want w_while) d).2, thn := (block n (exprP n (p.want w_while) d).1 (d + 1)).2 } pos (.refl _) nil_le _ _ _) ?_ (by rintro _ _ ⟨⟩))
    rintro _ _ ⟨te, ts, tf⟩
    refine ASeq.q rfl rfl (QOp.extract rfl rfl rfl) ?_
    refine ASeq.q rfl rfl (QOp.extract rfl rfl rfl) ?_
    refine ASeq.op0 rfl rfl (AOp.storeP 4 rfl rfl rfl rfl (tok _ rfl) rfl rfl rfl rfl ?_)
    refine ASeq.q rfl rfl (QOp.assign rfl rfl) ?_
    refine ASeq.nil ?_
    refine ACode.ret (AExit.then_ret ?_)
    refine bodyQ_ret 3 (.cell 4 rfl rfl (tok _ rfl) rfl (.tmp rfl .nil)) rfl ?_
    rw [show stmt (n + 1) p d = (block n (exprP n (p.want w_while) d).1 (d + 1)).1.add p.here { kind := 6, a := (exprP n (p.want w_while) d).2, thn := (block n (exprP n (p.want w_while) d).1 (d + 1)).2 } by simp [stmt, hif, hwh]]
    exact .mk _ _ _
  refine ACode.skip (ACode.seq (ACode.block (ACode.seq (ACode.region ?_))))
  refine ASeq.q rfl rfl (QOp.loadM 3 rfl rfl rfl (tok _ rfl) rfl) ?_
  refine ASeq.op rfl rfl (AOp.callP 0 rfl (by kernel_rfl) rfl rfl rfl (is_ok p h w_var _ _ _) ?_ (by rintro _ _ ⟨⟩))
  rintro _ _ ⟨⟩
  refine ASeq.q rfl rfl (QOp.assign rfl rfl) ?_
  refine ASeq.nil ?_
  refine AExit.then_normal ?_
  refine ACode.cond _ rfl (fun hva => ?_) (fun hva => ?_)
  · have o1 := ok_want h w_var
    have m1 := mm_want h (PS.is_kind hva).1 w_var
    have s2 := Step.kindOf (p.want w_var) 1 (by decide)
    have o2 := s2.ok (by decide) (by decide) o1
    have m2 := s2.le o1
    refine ACode.seq (ACode.region ?_)
    refine ASeq.q rfl rfl (QOp.loadM 3 rfl rfl rfl (tok _ rfl) rfl) ?_
    refine ASeq.op rfl rfl (AOp.callP 3 rfl (by kernel_rfl) rfl rfl rfl (want_ok p h w_var _ _ _) ?_ (by rintro _ _ ⟨⟩))
    rintro _ _ ⟨te, ts, tf⟩
    refine ASeq.op rfl rfl (AOp.callP 3 rfl (by kernel_rfl) rfl rfl rfl (kind_ok _ o1 1 _ _ _) ?_ (by rintro _ _ ⟨⟩))
    rintro _ _ ⟨te, ts, tf⟩
    refine ASeq.q rfl rfl (QOp.move rfl rfl) ?_
    refine ASeq.q rfl rfl (QOp.extract rfl rfl rfl) ?_
    refine ASeq.q rfl rfl (QOp.extract rfl rfl rfl) ?_
    refine ASeq.op rfl rfl (AOp.allocP rfl (tok _ rfl) rfl rfl (fun _ => rfl) (fun _ => ?_))
    refine ASeq.op0 rfl rfl (AOp.storeP 6 rfl rfl rfl rfl (tok _ rfl) rfl rfl rfl rfl ?_)
    refine ASeq.q rfl rfl (QOp.assign rfl rfl) ?_
    refine ASeq.nil ?_
    refine ACode.seq (ACode.region ?_)
    refine ASeq.q rfl rfl (QOp.loadM 6 rfl rfl rfl (tok _ rfl) rfl) ?_
    refine ASeq.op rfl rfl (AOp.callP 0 rfl (by kernel_rfl) rfl rfl rfl (is_ok _ o2 w_lb _ _ _) ?_ (by rintro _ _ ⟨⟩))
    rintro _ _ ⟨⟩
    refine ASeq.nil ?_
    refine AExit.then_normal ?_
    refine ACode.cond _ rfl (fun har => ?_) (fun har => ?_)
    · have o3 := ok_want o2 w_lb
      have o4 := (Step.kindOf (((p.want w_var).kindOf 1).1.want w_lb) 2 (by decide)).ok (by decide) (by decide) o3
      have hn := kindOf_num' o3
      have o5 := ok_want o4 w_rb
      refine ACode.seq (ACode.region ?_)
      refine ASeq.q rfl rfl (QOp.loadM 6 rfl rfl rfl (tok _ rfl) rfl) ?_
      refine ASeq.op rfl rfl (AOp.callP 3 rfl (by kernel_rfl) rfl rfl rfl (want_ok _ o2 w_lb _ _ _) ?_ (by rintro _ _ ⟨⟩))
      rintro _ _ ⟨te, ts, tf⟩
      refine ASeq.op rfl rfl (AOp.callP 3 rfl (by kernel_rfl) rfl rfl rfl (kind_ok _ o3 2 _ _ _) ?_ (by rintro _ _ ⟨⟩))
      rintro _ _ ⟨te, ts, tf⟩
      refine ASeq.q rfl rfl (QOp.move rfl rfl) ?_
      refine ASeq.q rfl rfl (QOp.extract rfl rfl rfl) ?_
      refine ASeq.q rfl rfl (QOp.extract rfl rfl rfl) ?_
      refine ASeq.op rfl rfl (AOp.allocP rfl (tok _ rfl) rfl rfl (fun _ => rfl) (fun _ => ?_))
      refine ASeq.op0 rfl rfl (AOp.storeP 7 rfl rfl rfl rfl (tok _ rfl) rfl rfl rfl rfl ?_)
      refine ASeq.q rfl rfl (QOp.assign rfl rfl) ?_
      refine ASeq.nil ?_
      refine ACode.seq (ACode.region ?_)
      refine ASeq.q rfl rfl (QOp.loadM 7 rfl rfl rfl (tok _ rfl) rfl) ?_
      refine ASeq.op rfl rfl (AOp.callP 3 rfl (by kernel_rfl) rfl rfl rfl (want_ok _ o4 w_rb _ _ _) ?_ (by rintro _ _ ⟨⟩))
      rintro _ _ ⟨te, ts, tf⟩
      refine ASeq.op0 rfl rfl (AOp.storeP 3 rfl rfl rfl rfl (tok _ rfl) rfl rfl rfl rfl ?_)
      refine ASeq.nil ?_
      refine ACode.region ?_
      refine ASeq.q rfl rfl (QOp.move rfl rfl) ?_
      refine ASeq.q rfl rfl (QOp.move rfl rfl) ?_
      refine ASeq.op rfl rfl (AOp.callP 0 rfl (by kernel_rfl) rfl rfl rfl (number_ok _ hn.1 hn.2) ?_ (by rintro _ _ ⟨⟩))
      rintro _ _ ⟨⟩
      refine ASeq.q rfl rfl (QOp.build rfl (tok _ rfl) rfl rfl rfl rfl rfl) ?_
      refine ASeq.op0 rfl rfl (AOp.storeP 5 rfl rfl rfl rfl (tok _ rfl) rfl rfl rfl rfl ?_)
      refine ASeq.nil ?_
      refine ACode.seq ?_
      refine ACode.drawn [[], [0], [], [], [0, 1, 2, 3], [0, 1, 2, 3, 4], [0, 1, 2, 3, 4], [0, 1, 2, 3, 4, 5, 6], [0, 1, 2, 3, 4, 5, 6, 7]] (by kernel_rfl) mixed ?_
      refine DAny.ld 0 rfl rfl (by kernel_rfl) rfl (.does _ _ rfl (.none rfl) (QOp.loadM 3 rfl rfl rfl (tok _ rfl) rfl)) ?_
      refine DAny.qu 2 rfl rfl (by kernel_rfl) rfl (fun _ => .does _ _ rfl (.none rfl) (QOp.move rfl rfl)) ?_
      refine DAny.ld 3 rfl rfl (by kernel_rfl) rfl (.does _ _ rfl (.none rfl) (QOp.loadM 5 rfl rfl rfl (tok _ rfl) rfl)) ?_
      refine DAny.ef 1 rfl (by kernel_rfl) (.none rfl) rfl rfl (AOp.callP 3 rfl (by kernel_rfl) rfl rfl rfl (want_ok ((((((p.want w_var).kindOf 1).1.want w_lb).kindOf 2).1.want w_rb)) o5 w_semi _ _ _) ?_ (by rintro _ _ ⟨⟩))
      rintro _ _ ⟨te, ts, tf⟩
      refine ⟨(by ((refine AllQ.cons (.does _ _ rfl (.none rfl) (QOp.loadM 5 rfl rfl rfl (tok _ rfl) rfl)) ?_); (exact AllQ.nil))), ?_⟩
      refine DAny.ef 4 rfl (by kernel_rfl) (.none rfl) rfl rfl (AOp.callP 3 rfl (by kernel_rfl) rfl rfl rfl (add_le _ (ok_want o5 w_semi) p.here { kind := 2, name := ((p.want w_var).kindOf 1).2, num := number ((((p.want w_var).kindOf 1).1.want w_lb).kindOf 2).2 } ((Step.want _ w_semi).pos o5 (.inl (by decide))) nil_le nil_le _ _ _) ?_ (by rintro _ _ ⟨⟩))
      rintro _ _ ⟨te, ts, tf⟩
      refine ⟨(by ((exact AllQ.nil))), ?_⟩
      refine DAny.qu 5 rfl rfl (by kernel_rfl) rfl (fun _ => .does _ _ rfl (.none rfl) (QOp.extract rfl rfl rfl)) ?_
      refine DAny.qu 6 rfl rfl (by kernel_rfl) rfl (fun _ => .does _ _ rfl (.none rfl) (QOp.extract rfl rfl rfl)) ?_
      refine DAny.ef0 7 rfl (by kernel_rfl) (.none rfl) rfl rfl (AOp.storeP 4 rfl rfl rfl rfl (tok _ rfl) rfl rfl rfl rfl ⟨(by ((exact AllQ.nil))), ?_⟩)
      refine DAny.ef 8 rfl (by kernel_rfl) (.none rfl) rfl rfl (.q (QOp.assign rfl rfl) ⟨(by ((exact AllQ.nil))), ?_⟩)
      refine DAny.done (by kernel_rfl) ?_
      refine ACode.ret ?_
      refine bodyQ_ret 3 (.cell 4 rfl rfl (tok _ rfl) rfl (.tmp rfl .nil)) rfl ?_
      rw [show stmt (n + 1) p d = (((((((p.want w_var).kindOf 1).1.want w_lb).kindOf 2).1.want w_rb)).want w_semi).add p.here { kind := 2, name := ((p.want w_var).kindOf 1).2, num := number ((((p.want w_var).kindOf 1).1.want w_lb).kindOf 2).2 } by simp [stmt, hif, hwh, hva, har]]
      exact .mk _ _ _
    · have o3 := ok_want o2 w_eq
      have m3 := mm_wantle o2 w_eq
      have o4 := ((steps n).exprP (((p.want w_var).kindOf 1).1.want w_eq) d).ok (by decide) (by decide) o3
      refine ACode.seq (ACode.region ?_)
      refine ASeq.q rfl rfl (QOp.loadM 6 rfl rfl rfl (tok _ rfl) rfl) ?_
      refine ASeq.op rfl rfl (AOp.callP 3 rfl (by kernel_rfl) rfl rfl rfl (want_ok _ o2 w_eq _ _ _) ?_ (by rintro _ _ ⟨⟩))
      rintro _ _ ⟨te, ts, tf⟩
      refine ASeq.q rfl rfl (QOp.move rfl rfl) ?_
      refine ASeq.op rfl rfl (AOp.callP 3 rfl (by kernel_rfl) rfl rfl rfl (ie.exprP _ d o3 hd (by omega) (by omega) _ _ _) ?_ (by rintro _ _ ⟨⟩))
      rintro _ _ ⟨te, ts, tf⟩
      refine ASeq.q rfl rfl (QOp.move rfl rfl) ?_
      refine ASeq.q rfl rfl (QOp.extract rfl rfl rfl) ?_
      refine ASeq.q rfl rfl (QOp.extract rfl rfl rfl) ?_
      refine ASeq.op rfl rfl (AOp.allocP rfl (tok _ rfl) rfl rfl (fun _ => rfl) (fun _ => ?_))
      refine ASeq.op0 rfl rfl (AOp.storeP 7 rfl rfl rfl rfl (tok _ rfl) rfl rfl rfl rfl ?_)
      refine ASeq.q rfl rfl (QOp.assign rfl rfl) ?_
      refine ASeq.nil ?_
      refine ACode.seq (ACode.region ?_)
      refine ASeq.q rfl rfl (QOp.loadM 7 rfl rfl rfl (tok _ rfl) rfl) ?_
      refine ASeq.op0 rfl rfl (AOp.storeP 3 rfl rfl rfl rfl (tok _ rfl) rfl rfl rfl rfl ?_)
      refine ASeq.nil ?_
      refine ACode.region ?_
      refine ASeq.q rfl rfl (QOp.move rfl rfl) ?_
      refine ASeq.q rfl rfl (QOp.move rfl rfl) ?_
      refine ASeq.q rfl rfl (QOp.build rfl (tok _ rfl) rfl rfl rfl rfl rfl) ?_
      refine ASeq.op0 rfl rfl (AOp.storeP 5 rfl rfl rfl rfl (tok _ rfl) rfl rfl rfl rfl ?_)
      refine ASeq.nil ?_
      refine ACode.seq ?_
      refine ACode.drawn [[], [0], [], [], [0, 1, 2, 3], [0, 1, 2, 3, 4], [0, 1, 2, 3, 4], [0, 1, 2, 3, 4, 5, 6], [0, 1, 2, 3, 4, 5, 6, 7]] (by kernel_rfl) mixed ?_
      refine DAny.ld 0 rfl rfl (by kernel_rfl) rfl (.does _ _ rfl (.none rfl) (QOp.loadM 3 rfl rfl rfl (tok _ rfl) rfl)) ?_
      refine DAny.qu 2 rfl rfl (by kernel_rfl) rfl (fun _ => .does _ _ rfl (.none rfl) (QOp.move rfl rfl)) ?_
      refine DAny.ld 3 rfl rfl (by kernel_rfl) rfl (.does _ _ rfl (.none rfl) (QOp.loadM 5 rfl rfl rfl (tok _ rfl) rfl)) ?_
      refine DAny.ef 1 rfl (by kernel_rfl) (.none rfl) rfl rfl (AOp.callP 3 rfl (by kernel_rfl) rfl rfl rfl (want_ok ((exprP n (((p.want w_var).kindOf 1).1.want w_eq) d).1) o4 w_semi _ _ _) ?_ (by rintro _ _ ⟨⟩))
      rintro _ _ ⟨te, ts, tf⟩
      refine ⟨(by ((refine AllQ.cons (.does _ _ rfl (.none rfl) (QOp.loadM 5 rfl rfl rfl (tok _ rfl) rfl)) ?_); (exact AllQ.nil))), ?_⟩
      refine DAny.ef 4 rfl (by kernel_rfl) (.none rfl) rfl rfl (AOp.callP 3 rfl (by kernel_rfl) rfl rfl rfl (add_le _ (ok_want o4 w_semi) p.here { kind := 1, name := ((p.want w_var).kindOf 1).2, a := (exprP n (((p.want w_var).kindOf 1).1.want w_eq) d).2 } ((Step.want _ w_semi).pos o4 (.inl (by decide))) nil_le nil_le _ _ _) ?_ (by rintro _ _ ⟨⟩))
      rintro _ _ ⟨te, ts, tf⟩
      refine ⟨(by ((exact AllQ.nil))), ?_⟩
      refine DAny.qu 5 rfl rfl (by kernel_rfl) rfl (fun _ => .does _ _ rfl (.none rfl) (QOp.extract rfl rfl rfl)) ?_
      refine DAny.qu 6 rfl rfl (by kernel_rfl) rfl (fun _ => .does _ _ rfl (.none rfl) (QOp.extract rfl rfl rfl)) ?_
      refine DAny.ef0 7 rfl (by kernel_rfl) (.none rfl) rfl rfl (AOp.storeP 4 rfl rfl rfl rfl (tok _ rfl) rfl rfl rfl rfl ⟨(by ((exact AllQ.nil))), ?_⟩)
      refine DAny.ef 8 rfl (by kernel_rfl) (.none rfl) rfl rfl (.q (QOp.assign rfl rfl) ⟨(by ((exact AllQ.nil))), ?_⟩)
      refine DAny.done (by kernel_rfl) ?_
      refine ACode.ret ?_
      refine bodyQ_ret 3 (.cell 4 rfl rfl (tok _ rfl) rfl (.tmp rfl .nil)) rfl ?_
      rw [show stmt (n + 1) p d = (((exprP n (((p.want w_var).kindOf 1).1.want w_eq) d).1).want w_semi).add p.here { kind := 1, name := ((p.want w_var).kindOf 1).2, a := (exprP n (((p.want w_var).kindOf 1).1.want w_eq) d).2 } by simp [stmt, hif, hwh, hva, har]]
      exact .mk _ _ _
  refine ACode.seq (ACode.region ?_)
  refine ASeq.q rfl rfl (QOp.loadM 3 rfl rfl rfl (tok _ rfl) rfl) ?_
  refine ASeq.op rfl rfl (AOp.callP 0 rfl (by kernel_rfl) rfl rfl rfl (is_ok p h w_break _ _ _) ?_ (by rintro _ _ ⟨⟩))
  rintro _ _ ⟨⟩
  refine ASeq.q rfl rfl (QOp.assign rfl rfl) ?_
  refine ASeq.nil ?_
  refine AExit.then_normal ?_
  refine ACode.cond _ rfl (fun hbr => ?_) (fun hbr => ?_)
  · refine ACode.seq (ACode.region ?_)
    refine ASeq.q rfl rfl (QOp.loadM 3 rfl rfl rfl (tok _ rfl) rfl) ?_
    refine ASeq.op rfl rfl (AOp.callP 3 rfl (by kernel_rfl) rfl rfl rfl (want_ok p h w_break _ _ _) ?_ (by rintro _ _ ⟨⟩))
    rintro _ _ ⟨te, ts, tf⟩
    refine ASeq.op0 rfl rfl (AOp.storeP 3 rfl rfl rfl rfl (tok _ rfl) rfl rfl rfl rfl ?_)
    refine ASeq.nil ?_
    refine ACode.region ?_
    refine ASeq.q rfl rfl (QOp.fieldM rfl rfl (tok _ rfl) rfl rfl (by decide) rfl) ?_
    refine ASeq.op0 rfl rfl (AOp.storeP 5 rfl rfl rfl rfl (tok _ rfl) rfl rfl rfl rfl ?_)
    refine ASeq.nil ?_
    refine ACode.seq ?_
    refine ACode.drawn [[], [0], [], [], [0, 1, 2, 3], [0, 1, 2, 3, 4], [0, 1, 2, 3, 4], [0, 1, 2, 3, 4, 5, 6], [0, 1, 2, 3, 4, 5, 6, 7]] (by kernel_rfl) mixed ?_
    refine DAny.ld 0 rfl rfl (by kernel_rfl) rfl (.does _ _ rfl (.none rfl) (QOp.loadM 3 rfl rfl rfl (tok _ rfl) rfl)) ?_
    refine DAny.qu 2 rfl rfl (by kernel_rfl) rfl (fun _ => .does _ _ rfl (.none rfl) (QOp.move rfl rfl)) ?_
    refine DAny.ld 3 rfl rfl (by kernel_rfl) rfl (.does _ _ rfl (.none rfl) (QOp.loadM 5 rfl rfl rfl (tok _ rfl) rfl)) ?_
    refine DAny.ef 1 rfl (by kernel_rfl) (.none rfl) rfl rfl (AOp.callP 3 rfl (by kernel_rfl) rfl rfl rfl (want_ok (p.want w_break) (ok_want h w_break) w_semi _ _ _) ?_ (by rintro _ _ ⟨⟩))
    rintro _ _ ⟨te, ts, tf⟩
    refine ⟨(by ((refine AllQ.cons (.does _ _ rfl (.none rfl) (QOp.loadM 5 rfl rfl rfl (tok _ rfl) rfl)) ?_); (exact AllQ.nil))), ?_⟩
    refine DAny.ef 4 rfl (by kernel_rfl) (.none rfl) rfl rfl (AOp.callP 3 rfl (by kernel_rfl) rfl rfl rfl (add_le _ (ok_want (ok_want h w_break) w_semi) p.here { kind := 7 } ((Step.want _ w_semi).pos (ok_want h w_break) (.inl (by decide))) nil_le nil_le _ _ _) ?_ (by rintro _ _ ⟨⟩))
    rintro _ _ ⟨te, ts, tf⟩
    refine ⟨(by ((exact AllQ.nil))), ?_⟩
    refine DAny.qu 5 rfl rfl (by kernel_rfl) rfl (fun _ => .does _ _ rfl (.none rfl) (QOp.extract rfl rfl rfl)) ?_
    refine DAny.qu 6 rfl rfl (by kernel_rfl) rfl (fun _ => .does _ _ rfl (.none rfl) (QOp.extract rfl rfl rfl)) ?_
    refine DAny.ef0 7 rfl (by kernel_rfl) (.none rfl) rfl rfl (AOp.storeP 4 rfl rfl rfl rfl (tok _ rfl) rfl rfl rfl rfl ⟨(by ((exact AllQ.nil))), ?_⟩)
    refine DAny.ef 8 rfl (by kernel_rfl) (.none rfl) rfl rfl (.q (QOp.assign rfl rfl) ⟨(by ((exact AllQ.nil))), ?_⟩)
    refine DAny.done (by kernel_rfl) ?_
    refine ACode.ret ?_
    refine bodyQ_ret 3 (.cell 4 rfl rfl (tok _ rfl) rfl (.tmp rfl .nil)) rfl ?_
    rw [show stmt (n + 1) p d = ((p.want w_break).want w_semi).add p.here { kind := 7 } by simp [stmt, hif, hwh, hva, hbr]]
    exact .mk _ _ _
  refine ACode.seq (ACode.region ?_)
  refine ASeq.q rfl rfl (QOp.loadM 3 rfl rfl rfl (tok _ rfl) rfl) ?_
  refine ASeq.op rfl rfl (AOp.callP 0 rfl (by kernel_rfl) rfl rfl rfl (is_ok p h w_continue _ _ _) ?_ (by rintro _ _ ⟨⟩))
  rintro _ _ ⟨⟩
  refine ASeq.q rfl rfl (QOp.assign rfl rfl) ?_
  refine ASeq.nil ?_
  refine AExit.then_normal ?_
  refine ACode.cond _ rfl (fun hco => ?_) (fun hco => ?_)
  · refine ACode.seq (ACode.region ?_)
    refine ASeq.q rfl rfl (QOp.loadM 3 rfl rfl rfl (tok _ rfl) rfl) ?_
    refine ASeq.op rfl rfl (AOp.callP 3 rfl (by kernel_rfl) rfl rfl rfl (want_ok p h w_continue _ _ _) ?_ (by rintro _ _ ⟨⟩))
    rintro _ _ ⟨te, ts, tf⟩
    refine ASeq.op0 rfl rfl (AOp.storeP 3 rfl rfl rfl rfl (tok _ rfl) rfl rfl rfl rfl ?_)
    refine ASeq.nil ?_
    refine ACode.region ?_
    refine ASeq.q rfl rfl (QOp.fieldM rfl rfl (tok _ rfl) rfl rfl (by decide) rfl) ?_
    refine ASeq.op0 rfl rfl (AOp.storeP 5 rfl rfl rfl rfl (tok _ rfl) rfl rfl rfl rfl ?_)
    refine ASeq.nil ?_
    refine ACode.seq ?_
    refine ACode.drawn [[], [0], [], [], [0, 1, 2, 3], [0, 1, 2, 3, 4], [0, 1, 2, 3, 4], [0, 1, 2, 3, 4, 5, 6], [0, 1, 2, 3, 4, 5, 6, 7]] (by kernel_rfl) mixed ?_
    refine DAny.ld 0 rfl rfl (by kernel_rfl) rfl (.does _ _ rfl (.none rfl) (QOp.loadM 3 rfl rfl rfl (tok _ rfl) rfl)) ?_
    refine DAny.qu 2 rfl rfl (by kernel_rfl) rfl (fun _ => .does _ _ rfl (.none rfl) (QOp.move rfl rfl)) ?_
    refine DAny.ld 3 rfl rfl (by kernel_rfl) rfl (.does _ _ rfl (.none rfl) (QOp.loadM 5 rfl rfl rfl (tok _ rfl) rfl)) ?_
    refine DAny.ef 1 rfl (by kernel_rfl) (.none rfl) rfl rfl (AOp.callP 3 rfl (by kernel_rfl) rfl rfl rfl (want_ok (p.want w_continue) (ok_want h w_continue) w_semi _ _ _) ?_ (by rintro _ _ ⟨⟩))
    rintro _ _ ⟨te, ts, tf⟩
    refine ⟨(by ((refine AllQ.cons (.does _ _ rfl (.none rfl) (QOp.loadM 5 rfl rfl rfl (tok _ rfl) rfl)) ?_); (exact AllQ.nil))), ?_⟩
    refine DAny.ef 4 rfl (by kernel_rfl) (.none rfl) rfl rfl (AOp.callP 3 rfl (by kernel_rfl) rfl rfl rfl (add_le _ (ok_want (ok_want h w_continue) w_semi) p.here { kind := 8 } ((Step.want _ w_semi).pos (ok_want h w_continue) (.inl (by decide))) nil_le nil_le _ _ _) ?_ (by rintro _ _ ⟨⟩))
    rintro _ _ ⟨te, ts, tf⟩
    refine ⟨(by ((exact AllQ.nil))), ?_⟩
    refine DAny.qu 5 rfl rfl (by kernel_rfl) rfl (fun _ => .does _ _ rfl (.none rfl) (QOp.extract rfl rfl rfl)) ?_
    refine DAny.qu 6 rfl rfl (by kernel_rfl) rfl (fun _ => .does _ _ rfl (.none rfl) (QOp.extract rfl rfl rfl)) ?_
    refine DAny.ef0 7 rfl (by kernel_rfl) (.none rfl) rfl rfl (AOp.storeP 4 rfl rfl rfl rfl (tok _ rfl) rfl rfl rfl rfl ⟨(by ((exact AllQ.nil))), ?_⟩)
    refine DAny.ef 8 rfl (by kernel_rfl) (.none rfl) rfl rfl (.q (QOp.assign rfl rfl) ⟨(by ((exact AllQ.nil))), ?_⟩)
    refine DAny.done (by kernel_rfl) ?_
    refine ACode.ret ?_
    refine bodyQ_ret 3 (.cell 4 rfl rfl (tok _ rfl) rfl (.tmp rfl .nil)) rfl ?_
    rw [show stmt (n + 1) p d = ((p.want w_continue).want w_semi).add p.here { kind := 8 } by simp [stmt, hif, hwh, hva, hbr, hco]]
    exact .mk _ _ _
  refine ACode.seq (ACode.region ?_)
  refine ASeq.q rfl rfl (QOp.loadM 3 rfl rfl rfl (tok _ rfl) rfl) ?_
  refine ASeq.op rfl rfl (AOp.callP 0 rfl (by kernel_rfl) rfl rfl rfl (is_ok p h w_return _ _ _) ?_ (by rintro _ _ ⟨⟩))
  rintro _ _ ⟨⟩
  refine ASeq.q rfl rfl (QOp.assign rfl rfl) ?_
  refine ASeq.nil ?_
  refine AExit.then_normal ?_
  refine ACode.cond _ rfl (fun hre => ?_) (fun hre => ?_)
  · have o1 := ok_want h w_return
    have m1 := mm_want h (PS.is_kind hre).1 w_return
    refine ACode.seq (ACode.region ?_)
    refine ASeq.q rfl rfl (QOp.loadM 3 rfl rfl rfl (tok _ rfl) rfl) ?_
    refine ASeq.op rfl rfl (AOp.callP 3 rfl (by kernel_rfl) rfl rfl rfl (want_ok p h w_return _ _ _) ?_ (by rintro _ _ ⟨⟩))
    rintro _ _ ⟨te, ts, tf⟩
    refine ASeq.op0 rfl rfl (AOp.storeP 3 rfl rfl rfl rfl (tok _ rfl) rfl rfl rfl rfl ?_)
    refine ASeq.nil ?_
    refine ACode.seq (ACode.region ?_)
    refine ASeq.q rfl rfl (QOp.build rfl (tok _ rfl) rfl rfl rfl rfl rfl) ?_
    refine ASeq.op0 rfl rfl (AOp.storeP 5 rfl rfl rfl rfl (tok _ rfl) rfl rfl rfl rfl ?_)
    refine ASeq.nil ?_
    refine ACode.seq (ACode.region ?_)
    refine ASeq.q rfl rfl (QOp.loadM 3 rfl rfl rfl (tok _ rfl) rfl) ?_
    refine ASeq.op rfl rfl (AOp.callP 0 rfl (by kernel_rfl) rfl rfl rfl (is_ok _ o1 w_semi _ _ _) ?_ (by rintro _ _ ⟨⟩))
    rintro _ _ ⟨⟩
    refine ASeq.q rfl rfl (QOp.not rfl rfl) ?_
    refine ASeq.nil ?_
    refine AExit.then_normal ?_
    refine ACode.cond _ rfl (fun hse => ?_) (fun hse => ?_)
    · have hse : (p.want w_return).is w_semi = false := by simpa using hse
      have o2 := ((steps n).exprP (p.want w_return) d).ok (by decide) (by decide) o1
      refine ACode.seq (ACode.region ?_)
      refine ASeq.q rfl rfl (QOp.loadM 3 rfl rfl rfl (tok _ rfl) rfl) ?_
      refine ASeq.q rfl rfl (QOp.move rfl rfl) ?_
      refine ASeq.op rfl rfl (AOp.callP 3 rfl (by kernel_rfl) rfl rfl rfl (ie.exprP _ d o1 hd (by omega) (by omega) _ _ _) ?_ (by rintro _ _ ⟨⟩))
      rintro _ _ ⟨te, ts, tf⟩
      refine ASeq.q rfl rfl (QOp.move rfl rfl) ?_
      refine ASeq.q rfl rfl (QOp.extract rfl rfl rfl) ?_
      refine ASeq.q rfl rfl (QOp.extract rfl rfl rfl) ?_
      refine ASeq.op rfl rfl (AOp.allocP rfl (tok _ rfl) rfl rfl (fun _ => rfl) (fun _ => ?_))
      refine ASeq.op0 rfl rfl (AOp.storeP 6 rfl rfl rfl rfl (tok _ rfl) rfl rfl rfl rfl ?_)
      refine ASeq.q rfl rfl (QOp.assign rfl rfl) ?_
      refine ASeq.nil ?_
      refine ACode.seq (ACode.region ?_)
      refine ASeq.q rfl rfl (QOp.loadM 6 rfl rfl rfl (tok _ rfl) rfl) ?_
      refine ASeq.op0 rfl rfl (AOp.storeP 3 rfl rfl rfl rfl (tok _ rfl) rfl rfl rfl rfl ?_)
      refine ASeq.nil ?_
      refine ACode.region ?_
      refine ASeq.q rfl rfl (QOp.move rfl rfl) ?_
      refine ASeq.q rfl rfl (QOp.fieldM rfl rfl (tok _ rfl) rfl rfl (by decide) rfl) ?_
      refine ASeq.op0 rfl rfl (AOp.storeP 5 rfl rfl rfl rfl (tok _ rfl) rfl rfl rfl rfl ?_)
      refine ASeq.nil ?_
      refine ACode.seq ?_
      refine ACode.drawn [[], [0], [], [], [0, 1, 2, 3], [0, 1, 2, 3, 4], [0, 1, 2, 3, 4], [0, 1, 2, 3, 4, 5, 6], [0, 1, 2, 3, 4, 5, 6, 7]] (by kernel_rfl) mixed ?_
      refine DAny.ld 0 rfl rfl (by kernel_rfl) rfl (.does _ _ rfl (.none rfl) (QOp.loadM 3 rfl rfl rfl (tok _ rfl) rfl)) ?_
      refine DAny.qu 2 rfl rfl (by kernel_rfl) rfl (fun _ => .does _ _ rfl (.none rfl) (QOp.move rfl rfl)) ?_
      refine DAny.ld 3 rfl rfl (by kernel_rfl) rfl (.does _ _ rfl (.none rfl) (QOp.loadM 5 rfl rfl rfl (tok _ rfl) rfl)) ?_
      refine DAny.ef 1 rfl (by kernel_rfl) (.none rfl) rfl rfl (AOp.callP 3 rfl (by kernel_rfl) rfl rfl rfl (want_ok ((exprP n (p.want w_return) d).1) o2 w_semi _ _ _) ?_ (by rintro _ _ ⟨⟩))
      rintro _ _ ⟨te, ts, tf⟩
      refine ⟨(by ((refine AllQ.cons (.does _ _ rfl (.none rfl) (QOp.loadM 5 rfl rfl rfl (tok _ rfl) rfl)) ?_); (exact AllQ.nil))), ?_⟩
      refine DAny.ef 4 rfl (by kernel_rfl) (.none rfl) rfl rfl (AOp.callP 3 rfl (by kernel_rfl) rfl rfl rfl (add_le _ (ok_want o2 w_semi) p.here { kind := 9, a := (exprP n (p.want w_return) d).2 } ((Step.want _ w_semi).pos o2 (.inl (by decide))) nil_le nil_le _ _ _) ?_ (by rintro _ _ ⟨⟩))
      rintro _ _ ⟨te, ts, tf⟩
      refine ⟨(by ((exact AllQ.nil))), ?_⟩
      refine DAny.qu 5 rfl rfl (by kernel_rfl) rfl (fun _ => .does _ _ rfl (.none rfl) (QOp.extract rfl rfl rfl)) ?_
      refine DAny.qu 6 rfl rfl (by kernel_rfl) rfl (fun _ => .does _ _ rfl (.none rfl) (QOp.extract rfl rfl rfl)) ?_
      refine DAny.ef0 7 rfl (by kernel_rfl) (.none rfl) rfl rfl (AOp.storeP 4 rfl rfl rfl rfl (tok _ rfl) rfl rfl rfl rfl ⟨(by ((exact AllQ.nil))), ?_⟩)
      refine DAny.ef 8 rfl (by kernel_rfl) (.none rfl) rfl rfl (.q (QOp.assign rfl rfl) ⟨(by ((exact AllQ.nil))), ?_⟩)
      refine DAny.done (by kernel_rfl) ?_
      refine ACode.ret ?_
      refine bodyQ_ret 3 (.cell 4 rfl rfl (tok _ rfl) rfl (.tmp rfl .nil)) rfl ?_
      rw [show stmt (n + 1) p d = (((exprP n (p.want w_return) d).1).want w_semi).add p.here { kind := 9, a := (exprP n (p.want w_return) d).2 } by simp [stmt, hif, hwh, hva, hbr, hco, hre, hse]]
      exact .mk _ _ _
    · have hse : (p.want w_return).is w_semi = true := by simpa using hse
      refine ACode.skip (ACode.seq ?_)
      refine ACode.drawn [[], [0], [], [], [0, 1, 2, 3], [0, 1, 2, 3, 4], [0, 1, 2, 3, 4], [0, 1, 2, 3, 4, 5, 6], [0, 1, 2, 3, 4, 5, 6, 7]] (by kernel_rfl) mixed ?_
      refine DAny.ld 0 rfl rfl (by kernel_rfl) rfl (.does _ _ rfl (.none rfl) (QOp.loadM 3 rfl rfl rfl (tok _ rfl) rfl)) ?_
      refine DAny.qu 2 rfl rfl (by kernel_rfl) rfl (fun _ => .does _ _ rfl (.none rfl) (QOp.move rfl rfl)) ?_
      refine DAny.ld 3 rfl rfl (by kernel_rfl) rfl (.does _ _ rfl (.none rfl) (QOp.loadM 5 rfl rfl rfl (tok _ rfl) rfl)) ?_
      refine DAny.ef 1 rfl (by kernel_rfl) (.none rfl) rfl rfl (AOp.callP 3 rfl (by kernel_rfl) rfl rfl rfl (want_ok (p.want w_return) o1 w_semi _ _ _) ?_ (by rintro _ _ ⟨⟩))
      rintro _ _ ⟨te, ts, tf⟩
      refine ⟨(by ((refine AllQ.cons (.does _ _ rfl (.none rfl) (QOp.loadM 5 rfl rfl rfl (tok _ rfl) rfl)) ?_); (exact AllQ.nil))), ?_⟩
      refine DAny.ef 4 rfl (by kernel_rfl) (.none rfl) rfl rfl (AOp.callP 3 rfl (by kernel_rfl) rfl rfl rfl (add_le _ (ok_want o1 w_semi) p.here { kind := 9, a := -1 } ((Step.want _ w_semi).pos o1 (.inl (by decide))) nil_le nil_le _ _ _) ?_ (by rintro _ _ ⟨⟩))
      rintro _ _ ⟨te, ts, tf⟩
      refine ⟨(by ((exact AllQ.nil))), ?_⟩
      refine DAny.qu 5 rfl rfl (by kernel_rfl) rfl (fun _ => .does _ _ rfl (.none rfl) (QOp.extract rfl rfl rfl)) ?_
      refine DAny.qu 6 rfl rfl (by kernel_rfl) rfl (fun _ => .does _ _ rfl (.none rfl) (QOp.extract rfl rfl rfl)) ?_
      refine DAny.ef0 7 rfl (by kernel_rfl) (.none rfl) rfl rfl (AOp.storeP 4 rfl rfl rfl rfl (tok _ rfl) rfl rfl rfl rfl ⟨(by ((exact AllQ.nil))), ?_⟩)
      refine DAny.ef 8 rfl (by kernel_rfl) (.none rfl) rfl rfl (.q (QOp.assign rfl rfl) ⟨(by ((exact AllQ.nil))), ?_⟩)
      refine DAny.done (by kernel_rfl) ?_
      refine ACode.ret ?_
      refine bodyQ_ret 3 (.cell 4 rfl rfl (tok _ rfl) rfl (.tmp rfl .nil)) rfl ?_
      rw [show stmt (n + 1) p d = ((p.want w_return).want w_semi).add p.here { kind := 9, a := -1 } by simp [stmt, hif, hwh, hva, hbr, hco, hre, hse]]
      exact .mk _ _ _
  refine ACode.seq (ACode.region ?_)
  refine ASeq.q rfl rfl (QOp.loadM 3 rfl rfl rfl (tok _ rfl) rfl) ?_
  refine ASeq.op rfl rfl (AOp.callP 0 rfl (by kernel_rfl) rfl rfl rfl (is_ok p h w_print _ _ _) ?_ (by rintro _ _ ⟨⟩))
  rintro _ _ ⟨⟩
  refine ASeq.q rfl rfl (QOp.assign rfl rfl) ?_
  refine ASeq.nil ?_
  refine AExit.then_normal ?_
  refine ACode.cond _ rfl (fun hpr => ?_) (fun hpr => ?_)
  · have o1 := ok_want h w_print
    have m1 := mm_want h (PS.is_kind hpr).1 w_print
    have o2 := ((steps n).exprP (p.want w_print) d).ok (by decide) (by decide) o1
    refine ACode.seq (ACode.region ?_)
    refine ASeq.q rfl rfl (QOp.loadM 3 rfl rfl rfl (tok _ rfl) rfl) ?_
    refine ASeq.op rfl rfl (AOp.callP 3 rfl (by kernel_rfl) rfl rfl rfl (want_ok p h w_print _ _ _) ?_ (by rintro _ _ ⟨⟩))
    rintro _ _ ⟨te, ts, tf⟩
    refine ASeq.q rfl rfl (QOp.move rfl rfl) ?_
    refine ASeq.op rfl rfl (AOp.callP 3 rfl (by kernel_rfl) rfl rfl rfl (ie.exprP _ d o1 hd (by omega) (by omega) _ _ _) ?_ (by rintro _ _ ⟨⟩))
    rintro _ _ ⟨te, ts, tf⟩
    refine ASeq.q rfl rfl (QOp.move rfl rfl) ?_
    refine ASeq.q rfl rfl (QOp.extract rfl rfl rfl) ?_
    refine ASeq.q rfl rfl (QOp.extract rfl rfl rfl) ?_
    refine ASeq.op rfl rfl (AOp.allocP rfl (tok _ rfl) rfl rfl (fun _ => rfl) (fun _ => ?_))
    refine ASeq.op0 rfl rfl (AOp.storeP 6 rfl rfl rfl rfl (tok _ rfl) rfl rfl rfl rfl ?_)
    refine ASeq.q rfl rfl (QOp.assign rfl rfl) ?_
    refine ASeq.nil ?_
    refine ACode.seq (ACode.region ?_)
    refine ASeq.q rfl rfl (QOp.loadM 6 rfl rfl rfl (tok _ rfl) rfl) ?_
    refine ASeq.op0 rfl rfl (AOp.storeP 3 rfl rfl rfl rfl (tok _ rfl) rfl rfl rfl rfl ?_)
    refine ASeq.nil ?_
    refine ACode.region ?_
    refine ASeq.q rfl rfl (QOp.move rfl rfl) ?_
    refine ASeq.q rfl rfl (QOp.build rfl (tok _ rfl) rfl rfl rfl rfl rfl) ?_
    refine ASeq.op0 rfl rfl (AOp.storeP 5 rfl rfl rfl rfl (tok _ rfl) rfl rfl rfl rfl ?_)
    refine ASeq.nil ?_
    refine ACode.seq ?_
    refine ACode.drawn [[], [0], [], [], [0, 1, 2, 3], [0, 1, 2, 3, 4], [0, 1, 2, 3, 4], [0, 1, 2, 3, 4, 5, 6], [0, 1, 2, 3, 4, 5, 6, 7]] (by kernel_rfl) mixed ?_
    refine DAny.ld 0 rfl rfl (by kernel_rfl) rfl (.does _ _ rfl (.none rfl) (QOp.loadM 3 rfl rfl rfl (tok _ rfl) rfl)) ?_
    refine DAny.qu 2 rfl rfl (by kernel_rfl) rfl (fun _ => .does _ _ rfl (.none rfl) (QOp.move rfl rfl)) ?_
    refine DAny.ld 3 rfl rfl (by kernel_rfl) rfl (.does _ _ rfl (.none rfl) (QOp.loadM 5 rfl rfl rfl (tok _ rfl) rfl)) ?_
    refine DAny.ef 1 rfl (by kernel_rfl) (.none rfl) rfl rfl (AOp.callP 3 rfl (by kernel_rfl) rfl rfl rfl (want_ok ((exprP n (p.want w_print) d).1) o2 w_semi _ _ _) ?_ (by rintro _ _ ⟨⟩))
    rintro _ _ ⟨te, ts, tf⟩
    refine ⟨(by ((refine AllQ.cons (.does _ _ rfl (.none rfl) (QOp.loadM 5 rfl rfl rfl (tok _ rfl) rfl)) ?_); (exact AllQ.nil))), ?_⟩
    refine DAny.ef 4 rfl (by kernel_rfl) (.none rfl) rfl rfl (AOp.callP 3 rfl (by kernel_rfl) rfl rfl rfl (add_le _ (ok_want o2 w_semi) p.here { kind := 10, a := (exprP n (p.want w_print) d).2 } ((Step.want _ w_semi).pos o2 (.inl (by decide))) nil_le nil_le _ _ _) ?_ (by rintro _ _ ⟨⟩))
    rintro _ _ ⟨te, ts, tf⟩
    refine ⟨(by ((exact AllQ.nil))), ?_⟩
    refine DAny.qu 5 rfl rfl (by kernel_rfl) rfl (fun _ => .does _ _ rfl (.none rfl) (QOp.extract rfl rfl rfl)) ?_
    refine DAny.qu 6 rfl rfl (by kernel_rfl) rfl (fun _ => .does _ _ rfl (.none rfl) (QOp.extract rfl rfl rfl)) ?_
    refine DAny.ef0 7 rfl (by kernel_rfl) (.none rfl) rfl rfl (AOp.storeP 4 rfl rfl rfl rfl (tok _ rfl) rfl rfl rfl rfl ⟨(by ((exact AllQ.nil))), ?_⟩)
    refine DAny.ef 8 rfl (by kernel_rfl) (.none rfl) rfl rfl (.q (QOp.assign rfl rfl) ⟨(by ((exact AllQ.nil))), ?_⟩)
    refine DAny.done (by kernel_rfl) ?_
    refine ACode.ret ?_
    refine bodyQ_ret 3 (.cell 4 rfl rfl (tok _ rfl) rfl (.tmp rfl .nil)) rfl ?_
    rw [show stmt (n + 1) p d = (((exprP n (p.want w_print) d).1).want w_semi).add p.here { kind := 10, a := (exprP n (p.want w_print) d).2 } by simp [stmt, hif, hwh, hva, hbr, hco, hre, hpr]]
    exact .mk _ _ _
  have s1 := Step.kindOf p 1 (by decide)
  have o1 := s1.ok (by decide) (by decide) h
  have m1 := s1.le h
  refine ACode.seq (ACode.region ?_)
  refine ASeq.q rfl rfl (QOp.loadM 3 rfl rfl rfl (tok _ rfl) rfl) ?_
  refine ASeq.op rfl rfl (AOp.callP 3 rfl (by kernel_rfl) rfl rfl rfl (kind_ok p h 1 _ _ _) ?_ (by rintro _ _ ⟨⟩))
  rintro _ _ ⟨te, ts, tf⟩
  refine ASeq.q rfl rfl (QOp.move rfl rfl) ?_
  refine ASeq.q rfl rfl (QOp.extract rfl rfl rfl) ?_
  refine ASeq.q rfl rfl (QOp.extract rfl rfl rfl) ?_
  refine ASeq.op rfl rfl (AOp.allocP rfl (tok _ rfl) rfl rfl (fun _ => rfl) (fun _ => ?_))
  refine ASeq.op0 rfl rfl (AOp.storeP 6 rfl rfl rfl rfl (tok _ rfl) rfl rfl rfl rfl ?_)
  refine ASeq.q rfl rfl (QOp.assign rfl rfl) ?_
  refine ASeq.nil ?_
  refine ACode.seq (ACode.region ?_)
  refine ASeq.q rfl rfl (QOp.loadM 6 rfl rfl rfl (tok _ rfl) rfl) ?_
  refine ASeq.op0 rfl rfl (AOp.storeP 3 rfl rfl rfl rfl (tok _ rfl) rfl rfl rfl rfl ?_)
  refine ASeq.nil ?_
  refine ACode.seq (ACode.region ?_)
  refine ASeq.q rfl rfl (QOp.loadM 3 rfl rfl rfl (tok _ rfl) rfl) ?_
  refine ASeq.op rfl rfl (AOp.callP 0 rfl (by kernel_rfl) rfl rfl rfl (is_ok _ o1 w_lp _ _ _) ?_ (by rintro _ _ ⟨⟩))
  rintro _ _ ⟨⟩
  refine ASeq.nil ?_
  refine AExit.then_normal ?_
  refine ACode.cond _ rfl (fun hlp => ?_) (fun hlp => ?_)
  · have o2 := ((steps n).callP (p.kindOf 1).1 p.here (p.kindOf 1).2 d).ok (by decide) (by decide) o1
    refine ACode.seq (ACode.region ?_)
    refine ASeq.q rfl rfl (QOp.loadM 3 rfl rfl rfl (tok _ rfl) rfl) ?_
    refine ASeq.q rfl rfl (QOp.move rfl rfl) ?_
    refine ASeq.q rfl rfl (QOp.move rfl rfl) ?_
    refine ASeq.q rfl rfl (QOp.move rfl rfl) ?_
    refine ASeq.op rfl rfl (AOp.callP 3 rfl (by kernel_rfl) rfl rfl rfl (ie.callP _ p.here (p.kindOf 1).2 d o1 hd (by omega) (by omega) _ _ _) ?_ (by rintro _ _ ⟨⟩))
    rintro _ _ ⟨te, ts, tf⟩
    refine ASeq.q rfl rfl (QOp.move rfl rfl) ?_
    refine ASeq.q rfl rfl (QOp.extract rfl rfl rfl) ?_
    refine ASeq.q rfl rfl (QOp.extract rfl rfl rfl) ?_
    refine ASeq.op rfl rfl (AOp.allocP rfl (tok _ rfl) rfl rfl (fun _ => rfl) (fun _ => ?_))
    refine ASeq.op0 rfl rfl (AOp.storeP 7 rfl rfl rfl rfl (tok _ rfl) rfl rfl rfl rfl ?_)
    refine ASeq.q rfl rfl (QOp.assign rfl rfl) ?_
    refine ASeq.nil ?_
    refine ACode.seq (ACode.region ?_)
    refine ASeq.q rfl rfl (QOp.loadM 7 rfl rfl rfl (tok _ rfl) rfl) ?_
    refine ASeq.op0 rfl rfl (AOp.storeP 3 rfl rfl rfl rfl (tok _ rfl) rfl rfl rfl rfl ?_)
    refine ASeq.nil ?_
    refine ACode.region ?_
    refine ASeq.q rfl rfl (QOp.move rfl rfl) ?_
    refine ASeq.q rfl rfl (QOp.build rfl (tok _ rfl) rfl rfl rfl rfl rfl) ?_
    refine ASeq.op0 rfl rfl (AOp.storeP 5 rfl rfl rfl rfl (tok _ rfl) rfl rfl rfl rfl ?_)
    refine ASeq.nil ?_
    refine ACode.seq ?_
    refine ACode.drawn [[], [0], [], [], [0, 1, 2, 3], [0, 1, 2, 3, 4], [0, 1, 2, 3, 4], [0, 1, 2, 3, 4, 5, 6], [0, 1, 2, 3, 4, 5, 6, 7]] (by kernel_rfl) mixed ?_
    refine DAny.ld 0 rfl rfl (by kernel_rfl) rfl (.does _ _ rfl (.none rfl) (QOp.loadM 3 rfl rfl rfl (tok _ rfl) rfl)) ?_
    refine DAny.qu 2 rfl rfl (by kernel_rfl) rfl (fun _ => .does _ _ rfl (.none rfl) (QOp.move rfl rfl)) ?_
    refine DAny.ld 3 rfl rfl (by kernel_rfl) rfl (.does _ _ rfl (.none rfl) (QOp.loadM 5 rfl rfl rfl (tok _ rfl) rfl)) ?_
    refine DAny.ef 1 rfl (by kernel_rfl) (.none rfl) rfl rfl (AOp.callP 3 rfl (by kernel_rfl) rfl rfl rfl (want_ok ((callP n (p.kindOf 1).1 p.here (p.kindOf 1).2 d).1) o2 w_semi _ _ _) ?_ (by rintro _ _ ⟨⟩))
    rintro _ _ ⟨te, ts, tf⟩
    refine ⟨(by ((refine AllQ.cons (.does _ _ rfl (.none rfl) (QOp.loadM 5 rfl rfl rfl (tok _ rfl) rfl)) ?_); (exact AllQ.nil))), ?_⟩
    refine DAny.ef 4 rfl (by kernel_rfl) (.none rfl) rfl rfl (AOp.callP 3 rfl (by kernel_rfl) rfl rfl rfl (add_le _ (ok_want o2 w_semi) p.here { kind := 11, a := (callP n (p.kindOf 1).1 p.here (p.kindOf 1).2 d).2 } ((Step.want _ w_semi).pos o2 (.inl (by decide))) nil_le nil_le _ _ _) ?_ (by rintro _ _ ⟨⟩))
    rintro _ _ ⟨te, ts, tf⟩
    refine ⟨(by ((exact AllQ.nil))), ?_⟩
    refine DAny.qu 5 rfl rfl (by kernel_rfl) rfl (fun _ => .does _ _ rfl (.none rfl) (QOp.extract rfl rfl rfl)) ?_
    refine DAny.qu 6 rfl rfl (by kernel_rfl) rfl (fun _ => .does _ _ rfl (.none rfl) (QOp.extract rfl rfl rfl)) ?_
    refine DAny.ef0 7 rfl (by kernel_rfl) (.none rfl) rfl rfl (AOp.storeP 4 rfl rfl rfl rfl (tok _ rfl) rfl rfl rfl rfl ⟨(by ((exact AllQ.nil))), ?_⟩)
    refine DAny.ef 8 rfl (by kernel_rfl) (.none rfl) rfl rfl (.q (QOp.assign rfl rfl) ⟨(by ((exact AllQ.nil))), ?_⟩)
    refine DAny.done (by kernel_rfl) ?_
    refine ACode.ret ?_
    refine bodyQ_ret 3 (.cell 4 rfl rfl (tok _ rfl) rfl (.tmp rfl .nil)) rfl ?_
    rw [show stmt (n + 1) p d = (((callP n (p.kindOf 1).1 p.here (p.kindOf 1).2 d).1).want w_semi).add p.here { kind := 11, a := (callP n (p.kindOf 1).1 p.here (p.kindOf 1).2 d).2 } by simp [stmt, hif, hwh, hva, hbr, hco, hre, hpr, hlp]]
    exact .mk _ _ _
  refine ACode.seq (ACode.region ?_)
  refine ASeq.q rfl rfl (QOp.loadM 3 rfl rfl rfl (tok _ rfl) rfl) ?_
  refine ASeq.op rfl rfl (AOp.callP 0 rfl (by kernel_rfl) rfl rfl rfl (is_ok _ o1 w_lb _ _ _) ?_ (by rintro _ _ ⟨⟩))
  rintro _ _ ⟨⟩
  refine ASeq.nil ?_
  refine AExit.then_normal ?_
  refine ACode.cond _ rfl (fun hlb => ?_) (fun hlb => ?_)
  · have o2 := ok_want o1 w_lb
    have m2 := mm_wantle o1 w_lb
    have s3 := (steps n).exprP ((p.kindOf 1).1.want w_lb) (d + 1)
    have o3 := s3.ok (by decide) (by decide) o2
    have m3 := s3.le o2
    have o4 := ok_want o3 w_rb
    have m4 := mm_wantle o3 w_rb
    have o5 := ok_want o4 w_eq
    have m5 := mm_wantle o4 w_eq
    have o6 := ((steps n).exprP (((exprP n ((p.kindOf 1).1.want w_lb) (d + 1)).1.want w_rb).want w_eq) d).ok (by decide) (by decide) o5
    refine ACode.seq (ACode.region ?_)
    refine ASeq.q rfl rfl (QOp.loadM 3 rfl rfl rfl (tok _ rfl) rfl) ?_
    refine ASeq.op rfl rfl (AOp.callP 3 rfl (by kernel_rfl) rfl rfl rfl (want_ok _ o1 w_lb _ _ _) ?_ (by rintro _ _ ⟨⟩))
    rintro _ _ ⟨te, ts, tf⟩
    refine ASeq.q rfl rfl (QOp.move rfl rfl) ?_
    refine ASeq.q rfl rfl (QOp.ar64 rfl rfl rfl rfl ⟨by omega, by omega⟩) ?_
    refine ASeq.op rfl rfl (AOp.callP 3 rfl (by kernel_rfl) rfl rfl rfl (ie.exprP _ (d + 1) o2 (by omega) (by omega) (by omega) _ _ _) ?_ (by rintro _ _ ⟨⟩))
    rintro _ _ ⟨te, ts, tf⟩
    refine ASeq.q rfl rfl (QOp.move rfl rfl) ?_
    refine ASeq.q rfl rfl (QOp.extract rfl rfl rfl) ?_
    refine ASeq.q rfl rfl (QOp.extract rfl rfl rfl) ?_
    refine ASeq.op rfl rfl (AOp.allocP rfl (tok _ rfl) rfl rfl (fun _ => rfl) (fun _ => ?_))
    refine ASeq.op0 rfl rfl (AOp.storeP 7 rfl rfl rfl rfl (tok _ rfl) rfl rfl rfl rfl ?_)
    refine ASeq.q rfl rfl (QOp.assign rfl rfl) ?_
    refine ASeq.nil ?_
    refine ACode.seq (ACode.region ?_)
    refine ASeq.q rfl rfl (QOp.loadM 7 rfl rfl rfl (tok _ rfl) rfl) ?_
    refine ASeq.op rfl rfl (AOp.callP 3 rfl (by kernel_rfl) rfl rfl rfl (want_ok _ o3 w_rb _ _ _) ?_ (by rintro _ _ ⟨⟩))
    rintro _ _ ⟨te, ts, tf⟩
    refine ASeq.op rfl rfl (AOp.callP 3 rfl (by kernel_rfl) rfl rfl rfl (want_ok _ o4 w_eq _ _ _) ?_ (by rintro _ _ ⟨⟩))
    rintro _ _ ⟨te, ts, tf⟩
    refine ASeq.q rfl rfl (QOp.move rfl rfl) ?_
    refine ASeq.op rfl rfl (AOp.callP 3 rfl (by kernel_rfl) rfl rfl rfl (ie.exprP _ d o5 hd (by omega) (by omega) _ _ _) ?_ (by rintro _ _ ⟨⟩))
    rintro _ _ ⟨te, ts, tf⟩
    refine ASeq.q rfl rfl (QOp.move rfl rfl) ?_
    refine ASeq.q rfl rfl (QOp.extract rfl rfl rfl) ?_
    refine ASeq.q rfl rfl (QOp.extract rfl rfl rfl) ?_
    refine ASeq.op rfl rfl (AOp.allocP rfl (tok _ rfl) rfl rfl (fun _ => rfl) (fun _ => ?_))
    refine ASeq.op0 rfl rfl (AOp.storeP 8 rfl rfl rfl rfl (tok _ rfl) rfl rfl rfl rfl ?_)
    refine ASeq.q rfl rfl (QOp.assign rfl rfl) ?_
    refine ASeq.nil ?_
    refine ACode.seq (ACode.region ?_)
    refine ASeq.q rfl rfl (QOp.loadM 8 rfl rfl rfl (tok _ rfl) rfl) ?_
    refine ASeq.op0 rfl rfl (AOp.storeP 3 rfl rfl rfl rfl (tok _ rfl) rfl rfl rfl rfl ?_)
    refine ASeq.nil ?_
    refine ACode.region ?_
    refine ASeq.q rfl rfl (QOp.move rfl rfl) ?_
    refine ASeq.q rfl rfl (QOp.move rfl rfl) ?_
    refine ASeq.q rfl rfl (QOp.move rfl rfl) ?_
    refine ASeq.q rfl rfl (QOp.build rfl (tok _ rfl) rfl rfl rfl rfl rfl) ?_
    refine ASeq.op0 rfl rfl (AOp.storeP 5 rfl rfl rfl rfl (tok _ rfl) rfl rfl rfl rfl ?_)
    refine ASeq.nil ?_
    refine ACode.seq ?_
    refine ACode.drawn [[], [0], [], [], [0, 1, 2, 3], [0, 1, 2, 3, 4], [0, 1, 2, 3, 4], [0, 1, 2, 3, 4, 5, 6], [0, 1, 2, 3, 4, 5, 6, 7]] (by kernel_rfl) mixed ?_
    refine DAny.ld 0 rfl rfl (by kernel_rfl) rfl (.does _ _ rfl (.none rfl) (QOp.loadM 3 rfl rfl rfl (tok _ rfl) rfl)) ?_
    refine DAny.qu 2 rfl rfl (by kernel_rfl) rfl (fun _ => .does _ _ rfl (.none rfl) (QOp.move rfl rfl)) ?_
    refine DAny.ld 3 rfl rfl (by kernel_rfl) rfl (.does _ _ rfl (.none rfl) (QOp.loadM 5 rfl rfl rfl (tok _ rfl) rfl)) ?_
    refine DAny.ef 1 rfl (by kernel_rfl) (.none rfl) rfl rfl (AOp.callP 3 rfl (by kernel_rfl) rfl rfl rfl (want_ok ((exprP n (((exprP n ((p.kindOf 1).1.want w_lb) (d + 1)).1.want w_rb).want w_eq) d).1) o6 w_semi _ _ _) ?_ (by rintro _ _ ⟨⟩))
    rintro _ _ ⟨te, ts, tf⟩
    refine ⟨(by ((refine AllQ.cons (.does _ _ rfl (.none rfl) (QOp.loadM 5 rfl rfl rfl (tok _ rfl) rfl)) ?_); (exact AllQ.nil))), ?_⟩
    refine DAny.ef 4 rfl (by kernel_rfl) (.none rfl) rfl rfl (AOp.callP 3 rfl (by kernel_rfl) rfl rfl rfl (add_le _ (ok_want o6 w_semi) p.here { kind := 4, name := (p.kindOf 1).2, a := (exprP n ((p.kindOf 1).1.want w_lb) (d + 1)).2, b := (exprP n (((exprP n ((p.kindOf 1).1.want w_lb) (d + 1)).1.want w_rb).want w_eq) d).2 } ((Step.want _ w_semi).pos o6 (.inl (by decide))) nil_le nil_le _ _ _) ?_ (by rintro _ _ ⟨⟩))
    rintro _ _ ⟨te, ts, tf⟩
    refine ⟨(by ((exact AllQ.nil))), ?_⟩
    refine DAny.qu 5 rfl rfl (by kernel_rfl) rfl (fun _ => .does _ _ rfl (.none rfl) (QOp.extract rfl rfl rfl)) ?_
    refine DAny.qu 6 rfl rfl (by kernel_rfl) rfl (fun _ => .does _ _ rfl (.none rfl) (QOp.extract rfl rfl rfl)) ?_
    refine DAny.ef0 7 rfl (by kernel_rfl) (.none rfl) rfl rfl (AOp.storeP 4 rfl rfl rfl rfl (tok _ rfl) rfl rfl rfl rfl ⟨(by ((exact AllQ.nil))), ?_⟩)
    refine DAny.ef 8 rfl (by kernel_rfl) (.none rfl) rfl rfl (.q (QOp.assign rfl rfl) ⟨(by ((exact AllQ.nil))), ?_⟩)
    refine DAny.done (by kernel_rfl) ?_
    refine ACode.ret ?_
    refine bodyQ_ret 3 (.cell 4 rfl rfl (tok _ rfl) rfl (.tmp rfl .nil)) rfl ?_
    rw [show stmt (n + 1) p d = (((exprP n (((exprP n ((p.kindOf 1).1.want w_lb) (d + 1)).1.want w_rb).want w_eq) d).1).want w_semi).add p.here { kind := 4, name := (p.kindOf 1).2, a := (exprP n ((p.kindOf 1).1.want w_lb) (d + 1)).2, b := (exprP n (((exprP n ((p.kindOf 1).1.want w_lb) (d + 1)).1.want w_rb).want w_eq) d).2 } by simp [stmt, hif, hwh, hva, hbr, hco, hre, hpr, hlp, hlb]]
    exact .mk _ _ _
  have o2 := ok_want o1 w_eq
  have m2 := mm_wantle o1 w_eq
  have o3 := ((steps n).exprP ((p.kindOf 1).1.want w_eq) d).ok (by decide) (by decide) o2
  refine ACode.seq (ACode.region ?_)
  refine ASeq.q rfl rfl (QOp.loadM 3 rfl rfl rfl (tok _ rfl) rfl) ?_
  refine ASeq.op rfl rfl (AOp.callP 3 rfl (by kernel_rfl) rfl rfl rfl (want_ok _ o1 w_eq _ _ _) ?_ (by rintro _ _ ⟨⟩))
  rintro _ _ ⟨te, ts, tf⟩
  refine ASeq.q rfl rfl (QOp.move rfl rfl) ?_
  refine ASeq.op rfl rfl (AOp.callP 3 rfl (by kernel_rfl) rfl rfl rfl (ie.exprP _ d o2 hd (by omega) (by omega) _ _ _) ?_ (by rintro _ _ ⟨⟩))
  rintro _ _ ⟨te, ts, tf⟩
  refine ASeq.q rfl rfl (QOp.move rfl rfl) ?_
  refine ASeq.q rfl rfl (QOp.extract rfl rfl rfl) ?_
  refine ASeq.q rfl rfl (QOp.extract rfl rfl rfl) ?_
  refine ASeq.op rfl rfl (AOp.allocP rfl (tok _ rfl) rfl rfl (fun _ => rfl) (fun _ => ?_))
  refine ASeq.op0 rfl rfl (AOp.storeP 7 rfl rfl rfl rfl (tok _ rfl) rfl rfl rfl rfl ?_)
  refine ASeq.q rfl rfl (QOp.assign rfl rfl) ?_
  refine ASeq.nil ?_
  refine ACode.seq (ACode.region ?_)
  refine ASeq.q rfl rfl (QOp.loadM 7 rfl rfl rfl (tok _ rfl) rfl) ?_
  refine ASeq.op0 rfl rfl (AOp.storeP 3 rfl rfl rfl rfl (tok _ rfl) rfl rfl rfl rfl ?_)
  refine ASeq.nil ?_
  refine ACode.region ?_
  refine ASeq.q rfl rfl (QOp.move rfl rfl) ?_
  refine ASeq.q rfl rfl (QOp.move rfl rfl) ?_
  refine ASeq.q rfl rfl (QOp.build rfl (tok _ rfl) rfl rfl rfl rfl rfl) ?_
  refine ASeq.op0 rfl rfl (AOp.storeP 5 rfl rfl rfl rfl (tok _ rfl) rfl rfl rfl rfl ?_)
  refine ASeq.nil ?_
  refine ACode.seq ?_
  refine ACode.drawn [[], [0], [], [], [0, 1, 2, 3], [0, 1, 2, 3, 4], [0, 1, 2, 3, 4], [0, 1, 2, 3, 4, 5, 6], [0, 1, 2, 3, 4, 5, 6, 7]] (by kernel_rfl) mixed ?_
  refine DAny.ld 0 rfl rfl (by kernel_rfl) rfl (.does _ _ rfl (.none rfl) (QOp.loadM 3 rfl rfl rfl (tok _ rfl) rfl)) ?_
  refine DAny.qu 2 rfl rfl (by kernel_rfl) rfl (fun _ => .does _ _ rfl (.none rfl) (QOp.move rfl rfl)) ?_
  refine DAny.ld 3 rfl rfl (by kernel_rfl) rfl (.does _ _ rfl (.none rfl) (QOp.loadM 5 rfl rfl rfl (tok _ rfl) rfl)) ?_
  refine DAny.ef 1 rfl (by kernel_rfl) (.none rfl) rfl rfl (AOp.callP 3 rfl (by kernel_rfl) rfl rfl rfl (want_ok ((exprP n ((p.kindOf 1).1.want w_eq) d).1) o3 w_semi _ _ _) ?_ (by rintro _ _ ⟨⟩))
  rintro _ _ ⟨te, ts, tf⟩
  refine ⟨(by ((refine AllQ.cons (.does _ _ rfl (.none rfl) (QOp.loadM 5 rfl rfl rfl (tok _ rfl) rfl)) ?_); (exact AllQ.nil))), ?_⟩
  refine DAny.ef 4 rfl (by kernel_rfl) (.none rfl) rfl rfl (AOp.callP 3 rfl (by kernel_rfl) rfl rfl rfl (add_le _ (ok_want o3 w_semi) p.here { kind := 3, name := (p.kindOf 1).2, a := (exprP n ((p.kindOf 1).1.want w_eq) d).2 } ((Step.want _ w_semi).pos o3 (.inl (by decide))) nil_le nil_le _ _ _) ?_ (by rintro _ _ ⟨⟩))
  rintro _ _ ⟨te, ts, tf⟩
  refine ⟨(by ((exact AllQ.nil))), ?_⟩
  refine DAny.qu 5 rfl rfl (by kernel_rfl) rfl (fun _ => .does _ _ rfl (.none rfl) (QOp.extract rfl rfl rfl)) ?_
  refine DAny.qu 6 rfl rfl (by kernel_rfl) rfl (fun _ => .does _ _ rfl (.none rfl) (QOp.extract rfl rfl rfl)) ?_
  refine DAny.ef0 7 rfl (by kernel_rfl) (.none rfl) rfl rfl (AOp.storeP 4 rfl rfl rfl rfl (tok _ rfl) rfl rfl rfl rfl ⟨(by ((exact AllQ.nil))), ?_⟩)
  refine DAny.ef 8 rfl (by kernel_rfl) (.none rfl) rfl rfl (.q (QOp.assign rfl rfl) ⟨(by ((exact AllQ.nil))), ?_⟩)
  refine DAny.done (by kernel_rfl) ?_
  refine ACode.ret ?_
  refine bodyQ_ret 3 (.cell 4 rfl rfl (tok _ rfl) rfl (.tmp rfl .nil)) rfl ?_
  rw [show stmt (n + 1) p d = (((exprP n ((p.kindOf 1).1.want w_eq) d).1).want w_semi).add p.here { kind := 3, name := (p.kindOf 1).2, a := (exprP n ((p.kindOf 1).1.want w_eq) d).2 } by simp [stmt, hif, hwh, hva, hbr, hco, hre, hpr, hlp, hlb]]
  exact .mk _ _ _
end Go.Proofs.Ytaadamobapnfbaa
