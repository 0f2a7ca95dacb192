/- Own texts, put together by a program: Y0 Y1 Z3 V7 Z4 Z5. -/
import Derived.Test.YtaadamobapnfbaaKm6
set_option linter.unusedVariables false
set_option linter.unusedSimpArgs false
set_option maxRecDepth 100000
namespace Go.Proofs.Ytaadamobapnfbaa
open Go Go.Abs
def SeesL (s : ByteArray) (T : List Tok) : Nat → List (Int × ByteArray) → Prop
  | _, [] => True
  | i, (k, w) :: l => (T.getD i default).kind = k ∧ s.extract (T.getD i default).fr.toNat (T.getD i default).to.toNat = w ∧ SeesL s T (i + 1) l
structure Sees (p : PS) (l : List (Int × ByteArray)) : Prop where
  at0 : 0 ≤ p.at_
  code : p.code = 0
  sees : SeesL p.text p.toks p.at_.toNat l
theorem Sees.kind {p : PS} {k : Int} {w : ByteArray} {l : List (Int × ByteArray)} (h : Sees p ((k, w) :: l)) : p.tok.kind = k := h.sees.1
theorem Sees.word {p : PS} {k : Int} {w : ByteArray} {l : List (Int × ByteArray)} (h : Sees p ((k, w) :: l)) : p.word = w := h.sees.2.1
/-- k tokens on, with more nodes -/
def mv (p : PS) (k : Nat) (xs : List Ex) (ys : List St) : PS := { p with at_ := p.at_ + k, exprs := p.exprs ++ xs, stmts := p.stmts ++ ys }
theorem mv_mv (p : PS) (k k' : Nat) (xs xs' : List Ex) (ys ys' : List St) : mv (mv p k xs ys) k' xs' ys' = mv p (k + k') (xs ++ xs') (ys ++ ys') := by
  unfold mv
  simp only [PS.mk.injEq, List.append_assoc, true_and, and_true]
  omega
theorem SeesL.drop {s : ByteArray} {T : List Tok} : ∀ (k i : Nat) (l : List (Int × ByteArray)), SeesL s T i l → SeesL s T (i + k) (l.drop k)
  | 0, i, l, h => h
  | k + 1, i, [], h => by simp [SeesL]
  | k + 1, i, (a, b) :: l, h => by
    have := SeesL.drop k (i + 1) l h.2.2
    rw [show i + 1 + k = i + (k + 1) by omega] at this
    exact this
theorem Sees.mv {p : PS} {l : List (Int × ByteArray)} (h : Sees p l) (k : Nat) (xs : List Ex) (ys : List St) : Sees (mv p k xs ys) (l.drop k) := by
  have h0 := h.at0
  refine ⟨by show 0 ≤ p.at_ + k; omega, h.code, ?_⟩
  have := h.sees.drop k
  rw [show p.at_.toNat + k = (p.at_ + k).toNat by omega] at this
  exact this
theorem skip_mv (p : PS) : p.skip = mv p 1 [] [] := by unfold PS.skip mv; simp
theorem Sees.is {p : PS} {k : Int} {w : ByteArray} {l : List (Int × ByteArray)} (h : Sees p ((k, w) :: l)) (hk : k ≠ 0) (x : ByteArray) : p.is x = (w.data.toList == x.data.toList) := by
  unfold PS.is
  rw [h.kind, h.word, h.code]
  have : (k != 0) = true := bne_iff_ne.2 hk
  rw [this]; rfl
theorem Sees.isT {p : PS} {k : Int} {w : ByteArray} {l : List (Int × ByteArray)} (h : Sees p ((k, w) :: l)) (hk : k ≠ 0) : p.is w = true := by
  rw [h.is hk]; exact beq_self_eq_true _
theorem Sees.isF {p : PS} {k : Int} {w : ByteArray} {l : List (Int × ByteArray)} (h : Sees p ((k, w) :: l)) (hk : k ≠ 0) {x : ByteArray} (hx : w.data.toList ≠ x.data.toList) : p.is x = false := by
  rw [h.is hk]; exact beq_eq_false_iff_ne.2 hx
theorem Sees.want {p : PS} {k : Int} {w : ByteArray} {l : List (Int × ByteArray)} (h : Sees p ((k, w) :: l)) (hk : k ≠ 0) : p.want w = Ytaadamobapnfbaa.mv p 1 [] [] := by
  rw [← skip_mv]; unfold PS.want; rw [if_pos (h.isT hk)]; rfl
theorem Sees.kindOf {p : PS} {k : Int} {w : ByteArray} {l : List (Int × ByteArray)} (h : Sees p ((k, w) :: l)) : p.kindOf k = (Ytaadamobapnfbaa.mv p 1 [] [], w) := by
  rw [← skip_mv]
  unfold PS.kindOf
  rw [if_neg (fun hx => hx.elim (fun h' => h' h.code) (fun h' => h' h.kind)), h.word]; rfl
theorem Sees.put {p : PS} {l : List (Int × ByteArray)} (h : Sees p l) (fr : Int) (x : Ex) : p.put fr x = (Ytaadamobapnfbaa.mv p 0 [{ x with fr := fr, to := p.lastTo }] [], (p.exprs.length : Int)) := by
  unfold PS.put; rw [if_neg (fun hx => hx h.code)]; unfold Ytaadamobapnfbaa.mv; simp
theorem Sees.add {p : PS} {l : List (Int × ByteArray)} (h : Sees p l) (hs : p.stmts.length < 1000) (fr : Int) (x : St) : p.add fr x = (Ytaadamobapnfbaa.mv p 0 [] [{ x with fr := fr, to := p.lastTo }], (p.stmts.length : Int)) := by
  have hm : p.many = p := by
    unfold PS.many; rw [if_neg (fun hx => by have := hx.2; omega)]
  unfold PS.add
  simp only [hm]
  rw [if_neg (fun hx => hx h.code)]; unfold Ytaadamobapnfbaa.mv; simp
theorem Sees.deep {p : PS} {d : Int} (hd : d ≤ 64) : p.deep d = p := by unfold PS.deep; rw [if_neg (by omega)]
theorem Sees.sign {p : PS} {l : List (Int × ByteArray)} (h : Sees p ((4, w_semi) :: l)) (v : Int) : (p.sign v).data.toList = [] := by
  have key : ∀ ws : List ByteArray, (∀ w ∈ ws, w_semi.data.toList ≠ w.data.toList) → (signIn p ws).data.toList = [] := by
    intro ws
    induction ws with
    | nil => intro _; rfl
    | cons w ws ih =>
      intro hw
      simp only [signIn]
      rw [h.isF (by decide) (hw w (by simp))]
      exact ih (fun x hx => hw x (by simp [hx]))
  unfold PS.sign
  refine key _ ?_
  unfold signs
  repeat' split
  all_goals (intro w hw; simp at hw; rcases hw with rfl | rfl | rfl | rfl | rfl | rfl) <;> decide
/-- an expression of one token -/
theorem rows_one {p q : PS} {v d : Int} {l : List (Int × ByteArray)} (hq : Sees q ((4, w_semi) :: l)) (hd : d ≤ 64) (m : Nat) (hp : unary (m + 2) p d = (q, v)) : exprP (m + 9) p d = (q, v) := by
  have r5 : row (m + 3) p 5 d = (q, v) := by rw [row, if_pos rfl]; exact hp
  have stp : ∀ (k : Nat) (lv : Int), lv ≠ 5 → row (k + 1) p (lv + 1) d = (q, v) → row (k + 2) p lv d = (q, v) := by
    intro k lv hl h
    rw [row, if_neg hl, h, rowLoop, if_pos (hq.sign lv)]
  have r4 := stp (m + 2) 4 (by decide) r5
  have r3 := stp (m + 3) 3 (by decide) r4
  have r2 := stp (m + 4) 2 (by decide) r3
  have r1 := stp (m + 5) 1 (by decide) r2
  have r0 := stp (m + 6) 0 (by decide) r1
  rw [exprP, Sees.deep hd]
  by_cases hc : p.code ≠ 0
  · exfalso
    have : (exprP (m + 9) p d) = (p, 0) := by rw [exprP, Sees.deep hd, if_pos hc]
    have h1 := (steps (m + 8)).row p 0 d
    rw [r0] at h1
    have := h1.live hq.code
    exact hc this
  · rw [if_neg hc]; exact r0
def plainName (y : ByteArray) : Prop := y.data.toList ≠ w_true.data.toList ∧ y.data.toList ≠ w_false.data.toList ∧ y.data.toList ≠ w_read.data.toList ∧ y.data.toList ≠ w_lp.data.toList ∧ y.data.toList ≠ w_minus.data.toList ∧ y.data.toList ≠ w_bang.data.toList
theorem expr_name {p : PS} {y : ByteArray} {d : Int} {l : List (Int × ByteArray)} (h : Sees p ((1, y) :: (4, w_semi) :: l)) (hy : plainName y) (hd : d ≤ 64) {n : Nat} (hn : 9 ≤ n) :
    ∃ f t, exprP n p d = (mv p 1 [{ kind := 4, name := y, fr := f, to := t }] [], (p.exprs.length : Int)) := by
  obtain ⟨m, rfl⟩ : ∃ m, n = m + 9 := ⟨n - 9, by omega⟩
  refine ⟨p.here, (mv p 1 [] []).lastTo, rows_one (h.mv 1 _ _) hd m ?_⟩
  obtain ⟨h1, h2, h3, h4, h5, h6⟩ := hy
  have hb := h.mv 1 [] []
  rw [unary, if_neg (by
    rintro (hx | hx)
    · rw [h.isF (by decide) h5] at hx; cases hx
    · rw [h.isF (by decide) h6] at hx; cases hx)]
  rw [primary, if_neg (fun hx => hx h.code), if_neg (by rw [h.kind]; decide), h.isF (by decide) h1, h.isF (by decide) h2, h.isF (by decide) h3, h.isF (by decide) h4, if_neg (by decide), if_neg (by decide), if_neg (by decide), if_neg (by decide), h.kindOf]
  dsimp only
  rw [hb.isF (k := 4) (w := w_semi) (by decide) (by decide), if_neg (by decide), hb.isF (k := 4) (w := w_semi) (by decide) (by decide), if_neg (by decide), hb.put, mv_mv]
  simp [mv]
/-- 'var x = y;' -/
theorem stmt_var {p : PS} {x y : ByteArray} {d : Int} {e : Ex} {n : Nat} (hs : p.stmts.length < 1000) {k : Int} {m : List (Int × ByteArray)}
    (h : Sees p ((3, w_var) :: (1, x) :: (4, w_eq) :: (k, y) :: (4, w_semi) :: m))
    (he : ∀ q : PS, Sees q ((k, y) :: (4, w_semi) :: m) → ∃ f t, exprP n q d = (mv q 1 [{ e with fr := f, to := t }] [], (q.exprs.length : Int))) :
    ∃ f t f' t', stmt (n + 1) p d = (mv p 5 [{ e with fr := f, to := t }] [{ kind := 1, name := x, a := p.exprs.length, fr := f', to := t' }], (p.stmts.length : Int)) := by
  have h1 := h.mv 1 [] []
  have h2 := h1.mv 1 [] []
  have h3 := h2.mv 1 [] []
  obtain ⟨f, t, e1⟩ := he _ h3
  have h4 := h3.mv 1 [{ e with fr := f, to := t }] []
  have h5 := h4.mv 1 [] []
  rw [stmt, h.isF (by decide) (by decide), h.isF (by decide) (by decide), if_neg (by decide), if_neg (by decide), if_pos (h.isT (by decide)), h.want (by decide), h1.kindOf]
  dsimp only
  rw [h2.isF (k := 4) (w := w_eq) (by decide) (by decide), if_neg (by decide), h2.want (k := 4) (w := w_eq) (by decide), e1]
  dsimp only
  rw [h4.want (k := 4) (w := w_semi) (by decide), h5.add (by simpa [mv] using hs)]
  refine ⟨f, t, p.here, (mv (mv (mv (mv (mv p 1 [] []) 1 [] []) 1 [] []) 1 [{ e with fr := f, to := t }] []) 1 [] []).lastTo, ?_⟩
  simp [mv_mv, mv]; omega
theorem stmt_ret {p : PS} {y : ByteArray} {d : Int} {l : List (Int × ByteArray)} {n : Nat} (hs : p.stmts.length < 1000) (hn : 9 ≤ n) (hd : d ≤ 64)
    (h : Sees p ((3, w_return) :: (1, y) :: (4, w_semi) :: l)) (hy : plainName y) (hy2 : y.data.toList ≠ w_semi.data.toList) :
    ∃ f t f' t', stmt (n + 1) p d = (mv p 3 [{ kind := 4, name := y, fr := f, to := t }] [{ kind := 9, a := p.exprs.length, fr := f', to := t' }], (p.stmts.length : Int)) := by
  have h1 := h.mv 1 [] []
  obtain ⟨f, t, e1⟩ := expr_name h1 hy hd hn
  have h4 := h1.mv 1 [{ kind := 4, name := y, fr := f, to := t }] []
  have h5 := h4.mv 1 [] []
  rw [stmt, h.isF (by decide) (by decide), h.isF (by decide) (by decide), h.isF (by decide) (by decide), h.isF (by decide) (by decide), h.isF (by decide) (by decide), if_neg (by decide), if_neg (by decide), if_neg (by decide), if_neg (by decide), if_neg (by decide), if_pos (h.isT (by decide)), h.want (by decide), h1.isF (k := 1) (by decide) hy2, if_neg (by decide), e1]
  dsimp only
  rw [h4.want (k := 4) (w := w_semi) (by decide), h5.add (by simpa [mv] using hs)]
  refine ⟨f, t, p.here, (mv (mv (mv p 1 [] []) 1 [{ kind := 4, name := y, fr := f, to := t }] []) 1 [] []).lastTo, ?_⟩
  simp [mv_mv, mv]; omega
abbrev w_one : ByteArray := ⟨#[111, 110, 101, 95, 109, 111, 114, 101]⟩
abbrev w_q : ByteArray := ⟨#[113]⟩
abbrev w_r : ByteArray := ⟨#[114]⟩
def oneToks : List (Int × ByteArray) := [(3, w_func), (1, w_one), (4, w_lp), (1, w_q), (4, w_rp), (3, w_int), (4, w_lc), (3, w_var), (1, w_r), (4, w_eq), (1, w_q), (4, w_semi), (3, w_return), (1, w_r), (4, w_semi), (4, w_rc)]
theorem one_fn {p : PS} {l : List (Int × ByteArray)} (h : Sees p (oneToks ++ l)) (hs : p.stmts.length < 999) (hf : p.funcs.length < 32) {n : Nat} (hn : 15 ≤ n) :
    ∃ f1 t1 f2 t2 f3 t3 f4 t4 f5 t5, function n p = { mv p 16 [{ kind := 4, name := w_q, fr := f1, to := t1 }, { kind := 4, name := w_r, fr := f2, to := t2 }]
      [{ kind := 1, name := w_r, a := p.exprs.length, fr := f3, to := t3 }, { kind := 9, a := p.exprs.length + 1, fr := f4, to := t4 }] with
      funcs := p.funcs ++ [{ name := w_one, fr := f5, to := t5, params := [w_q], type := 1, body := [(p.stmts.length : Int), (p.stmts.length : Int) + 1] }] } := by
  obtain ⟨m, rfl⟩ : ∃ m, n = m + 15 := ⟨n - 15, by omega⟩
  unfold oneToks at h
  simp only [List.cons_append, List.nil_append] at h
  have h1 := h.mv 1 [] []
  have h2 := h1.mv 1 [] []
  have h3 := h2.mv 1 [] []
  have h4 := h3.mv 1 [] []
  have h5 := h4.mv 1 [] []
  have h6 := h5.mv 1 [] []
  have h7 := h.mv 7 [] []
  have q7 : mv (mv (mv (mv (mv (mv (mv p 1 [] []) 1 [] []) 1 [] []) 1 [] []) 1 [] []) 1 [] []) 1 [] [] = mv p 7 [] [] := by simp only [mv_mv]; rfl
  have x7 : (mv p 7 [] []).exprs.length = p.exprs.length := by simp [mv]
  have y7 : (mv p 7 [] []).stmts.length = p.stmts.length := by simp [mv]
  obtain ⟨f1, t1, f3, t3, e1⟩ := stmt_var (n := m + 12) (d := 1) (e := { kind := 4, name := w_q }) (k := 1) (by rw [y7]; omega) h7 (fun q hq => expr_name hq (by unfold plainName; decide) (by decide) (by omega))
  rw [x7, y7, mv_mv, List.nil_append, List.nil_append] at e1
  have h8 := h.mv (7 + 5) [{ kind := 4, name := w_q, fr := f1, to := t1 }] [{ kind := 1, name := w_r, a := p.exprs.length, fr := f3, to := t3 }]
  have x8 : ((mv p (7 + 5) [{ kind := 4, name := w_q, fr := f1, to := t1 }] [{ kind := 1, name := w_r, a := p.exprs.length, fr := f3, to := t3 }]).exprs.length : Int) = p.exprs.length + 1 := by simp [mv]
  have y8 : ((mv p (7 + 5) [{ kind := 4, name := w_q, fr := f1, to := t1 }] [{ kind := 1, name := w_r, a := p.exprs.length, fr := f3, to := t3 }]).stmts.length : Int) = p.stmts.length + 1 := by simp [mv]
  obtain ⟨f2, t2, f4, t4, e2⟩ := stmt_ret (n := m + 11) (d := 1) (by omega) (by omega) (by decide) h8 (by unfold plainName; decide) (by decide)
  rw [x8, y8, mv_mv, List.singleton_append, List.singleton_append] at e2
  have h9 := h.mv (7 + 5 + 3) [{ kind := 4, name := w_q, fr := f1, to := t1 }, { kind := 4, name := w_r, fr := f2, to := t2 }] [{ kind := 1, name := w_r, a := p.exprs.length, fr := f3, to := t3 }, { kind := 9, a := p.exprs.length + 1, fr := f4, to := t4 }]
  have hfu : p.full = p := by
    unfold PS.full; rw [if_neg (fun hx => by have := hx.2; omega)]
  have hpa : params (m + 15) ((((p.full.want w_func).kindOf 1).1.want w_lp)) [] = (mv (mv (mv (mv p 1 [] []) 1 [] []) 1 [] []) 1 [] [], [w_q]) := by
    rw [hfu, h.want (by decide), h1.kindOf]
    dsimp only
    rw [h2.want (k := 4) (by decide), params, if_pos ⟨h3.code, h3.isF (k := 1) (by decide) (by decide)⟩, if_pos rfl, h3.kindOf]
    dsimp only
    rw [params, if_neg (fun hx => by have := hx.2; rw [h4.isT (k := 4) (by decide)] at this; cases this)]
    rfl
  have hend : funcEnd (m + 15) p = (mv p 16 [{ kind := 4, name := w_q, fr := f1, to := t1 }, { kind := 4, name := w_r, fr := f2, to := t2 }] [{ kind := 1, name := w_r, a := p.exprs.length, fr := f3, to := t3 }, { kind := 9, a := p.exprs.length + 1, fr := f4, to := t4 }], [(p.stmts.length : Int), (p.stmts.length : Int) + 1]) := by
    unfold Ytaadamobapnfbaa.funcEnd
    rw [hpa]
    dsimp only
    rw [h4.want (k := 4) (by decide), if_pos (h5.isT (k := 3) (by decide)), h5.want (k := 3) (by decide), block, if_pos (h6.isT (k := 4) (by decide)), Sees.deep (by decide), h6.want (k := 4) (by decide), q7]
    rw [blockLoop, if_pos ⟨h7.code, h7.isF (k := 3) (by decide) (by decide)⟩, e1]
    dsimp only
    rw [blockLoop, if_pos ⟨h8.code, h8.isF (k := 3) (by decide) (by decide)⟩, e2]
    dsimp only
    rw [blockLoop, if_neg (fun hx => by have := hx.2; rw [h9.isT (k := 4) (by decide)] at this; cases this), h9.want (k := 4) (by decide), mv_mv]
    rfl
  have ho : funcOf (m + 15) p = { name := w_one, fr := p.here, to := (funcEnd (m + 15) p).1.lastTo, params := [w_q], type := 1, body := [(p.stmts.length : Int), (p.stmts.length : Int) + 1] } := by
    unfold funcOf
    rw [hpa]
    dsimp only
    rw [h4.want (k := 4) (by decide), if_pos (h5.isT (k := 3) (by decide)), hfu, h.want (by decide), h1.kindOf, hend]
  refine ⟨f1, t1, f2, t2, f3, t3, f4, t4, p.here, (funcEnd (m + 15) p).1.lastTo, ?_⟩
  rw [function_eq, ho, if_neg (by rw [hend]; exact fun hx => hx h.code), hend]
  rfl
end Go.Proofs.Ytaadamobapnfbaa
set_option linter.unusedVariables false
set_option linter.unusedSimpArgs false
set_option maxRecDepth 100000
namespace Go.Proofs.Ytaadamobapnfbaa
open Go Go.Abs
def oneText : ByteArray := ⟨#[10, 102, 117, 110, 99, 32, 111, 110, 101, 95, 109, 111, 114, 101, 40, 113, 41, 32, 105, 110, 116, 32, 123, 32, 118, 97, 114, 32, 114, 32, 61, 32, 113, 59, 32, 114, 101, 116, 117, 114, 110, 32, 114, 59, 32, 125]⟩
def Tok.tri (t : Tok) : Int × Int × Int := (t.kind, t.fr, t.to)
def Tok.untri (t : Int × Int × Int) : Tok := ⟨t.1, t.2.1, t.2.2⟩
theorem tok_list (l : List Tok) : l = (l.map Tok.tri).map Tok.untri := by
  rw [List.map_map]
  exact (List.map_id l).symm.trans (by congr 1)
set_option maxHeartbeats 1000000 in
theorem oneTri : ((tokens oneText).1.map Tok.tri, (tokens oneText).2.2) = ([(3, 1, 5), (1, 6, 14), (4, 14, 15), (1, 15, 16), (4, 16, 17), (3, 18, 21), (4, 22, 23), (3, 24, 27), (1, 28, 29), (4, 30, 31), (1, 32, 33), (4, 33, 34), (3, 35, 41), (1, 42, 43), (4, 43, 44), (4, 45, 46), (0, 46, 46)], 0) := by decide +kernel
def oneR : List Tok := [⟨3, 1, 5⟩, ⟨1, 6, 14⟩, ⟨4, 14, 15⟩, ⟨1, 15, 16⟩, ⟨4, 16, 17⟩, ⟨3, 18, 21⟩, ⟨4, 22, 23⟩, ⟨3, 24, 27⟩, ⟨1, 28, 29⟩, ⟨4, 30, 31⟩, ⟨1, 32, 33⟩, ⟨4, 33, 34⟩, ⟨3, 35, 41⟩, ⟨1, 42, 43⟩, ⟨4, 43, 44⟩, ⟨4, 45, 46⟩, ⟨0, 46, 46⟩]
theorem oneR_eq : (tokens oneText).1 = oneR := by
  have h := (Prod.mk.inj oneTri).1
  rw [tok_list (tokens oneText).1, h]
  rfl
theorem SeesL_shift {s r : ByteArray} {T0 R : List Tok} (hfr : ∀ t ∈ R, 0 ≤ t.fr ∧ 0 ≤ t.to) : ∀ (l : List (Int × ByteArray)) (i : Nat), i + l.length ≤ R.length → SeesL r R i l → SeesL (s ++ r) (T0 ++ R.map (shiftT s.size)) (T0.length + i) l
  | [], _, _, _ => trivial
  | (k, w) :: l, i, hi, ⟨h1, h2, h3⟩ => by
    rw [List.length_cons] at hi
    have hlt : i < R.length := by omega
    have e1 : (T0 ++ R.map (shiftT s.size)).getD (T0.length + i) default = shiftT s.size (R.getD i default) := by
      rw [List.getD_eq_getElem?_getD, List.getD_eq_getElem?_getD, List.getElem?_append_right (by omega), List.getElem?_map, show T0.length + i - T0.length = i by omega, List.getElem?_eq_getElem hlt]
      rfl
    have hm : R.getD i default ∈ R := by
      rw [List.getD_eq_getElem?_getD, List.getElem?_eq_getElem hlt]; exact List.getElem_mem hlt
    obtain ⟨f0, t0⟩ := hfr _ hm
    refine ⟨by rw [e1]; exact h1, ?_, ?_⟩
    · rw [e1, ← h2]
      apply bytes_ext
      have := extract_app_r s r (R.getD i default).fr.toNat (R.getD i default).to.toNat
      rw [show s.size + (R.getD i default).fr.toNat = (shiftT s.size (R.getD i default)).fr.toNat by show _ = ((R.getD i default).fr + (s.size : Int)).toNat; omega,
        show s.size + (R.getD i default).to.toNat = (shiftT s.size (R.getD i default)).to.toNat by show _ = ((R.getD i default).to + (s.size : Int)).toNat; omega] at this
      exact this
    · rw [show T0.length + i + 1 = T0.length + (i + 1) by omega]
      exact SeesL_shift hfr l (i + 1) (by omega) h3
theorem oneSees : SeesL oneText oneR 0 (oneToks ++ [(0, ⟨#[]⟩)]) := by
  refine ⟨rfl, ?_, rfl, ?_, rfl, ?_, rfl, ?_, rfl, ?_, rfl, ?_, rfl, ?_, rfl, ?_, rfl, ?_, rfl, ?_, rfl, ?_, rfl, ?_, rfl, ?_, rfl, ?_, rfl, ?_, rfl, ?_, rfl, ?_, trivial⟩
  all_goals exact bytes_ext (by rw [extract_toList]; decide)
theorem parseLoop_fn {k n : Nat} {p : PS} (h : p.code = 0 ∧ (p.funcs = [] ∨ p.tok.kind ≠ 0)) (hc : (parseLoop k (n + 1) p).code = 0) : (function k p).code = 0 := by
  rw [Ytaadamobapnfbaa.parseLoop, if_pos h] at hc
  cases n with
  | zero => exact absurd hc (failed _ 98 (by decide))
  | succ n =>
    by_cases hz : (function k p).code = 0
    · exact hz
    · rw [Ytaadamobapnfbaa.parseLoop, if_neg (fun hx => hz hx.1)] at hc; exact hc
set_option maxHeartbeats 1000000 in
theorem more_parse {s : ByteArray} (hs : s.size ≤ 800) (hc : (parse s).2.2 = 0) (hf : (parse s).1.funcs.length < 32) :
    ∃ f1 t1 f2 t2 f3 t3 f4 t4 f5 t5, parse (s ++ oneText) = ({
      exprs := (parse s).1.exprs ++ [{ kind := 4, name := w_q, fr := f1, to := t1 }, { kind := 4, name := w_r, fr := f2, to := t2 }],
      stmts := (parse s).1.stmts ++ [{ kind := 1, name := w_r, a := (parse s).1.exprs.length, fr := f3, to := t3 }, { kind := 9, a := (parse s).1.exprs.length + 1, fr := f4, to := t4 }],
      funcs := (parse s).1.funcs ++ [{ name := w_one, fr := f5, to := t5, params := [w_q], type := 1, body := [((parse s).1.stmts.length : Int), ((parse s).1.stmts.length : Int) + 1] }] }, 0, 0) := by
  have h1 : (tokens s).2.2 = 0 := by
    unfold parse at hc
    split at hc
    · rename_i h; exact absurd hc h
    · rename_i h; exact Decidable.byContradiction h
  have h2 : (parsed s).code = 0 := by
    unfold parse at hc
    rw [if_neg (fun hx => hx h1)] at hc
    split at hc
    · rename_i h; exact absurd hc h
    · rename_i h; exact Decidable.byContradiction h
  have ht : (parse s).1 = { exprs := (parsed s).exprs, stmts := (parsed s).stmts, funcs := (parsed s).funcs } := by
    unfold parse
    rw [if_neg (fun hx => hx h1), if_neg (fun hx => hx h2)]
  rw [ht] at hf ⊢
  dsimp only at hf ⊢
  have hosz : oneText.size = 46 := rfl
  obtain ⟨T0, e, hT, hek, hnz, hT'⟩ := tokens_app (s := s) (r := oneText) rfl (by omega) h1 (Prod.mk.inj oneTri).2
  rw [oneR_eq] at hT'
  have hk0 : ∀ i, i < T0.length → ((tokens s).1.getD i default).kind ≠ 0 := by
    intro i hi
    rw [hT, List.getD_eq_getElem?_getD, List.getElem?_append_left hi, List.getElem?_eq_getElem hi]
    exact hnz _ (List.getElem_mem hi)
  have hso := PS.start_ok (s := s) (by omega) h1
  have hlen : (tokens s).1.length = T0.length + 1 := by rw [hT]; simp
  have hpos : 0 < T0.length := by
    have hfn := parseLoop_fn (k := fuelP s) (n := (tokens s).1.length + 1) (p := startP s) ⟨rfl, .inl rfl⟩ h2
    obtain ⟨o1, o2, o3, o4⟩ := function_ok (n := fuelP s) (p := startP s) hso
    have a1 := o1.at1
    have a2 := (o4 hfn).2
    rw [o2] at a1
    have a3 : (startP s).at_ = 0 := rfl
    have a4 : (startP s).toks.length = T0.length + 1 := hlen
    omega
  have hS : SeesL (s ++ oneText) (T0 ++ oneR.map (shiftT s.size)) (T0.length + 0) (oneToks ++ [(0, ⟨#[]⟩)]) := SeesL_shift (by decide) _ 0 (by decide) oneSees
  have hL : LiftT s (s ++ oneText) (tokens s).1 (T0 ++ oneR.map (shiftT s.size)) T0.length := by
    refine ⟨hpos, fun i hi => ?_, fun i hi => ?_, ?_, ?_, ?_⟩
    · rw [hT, List.getD_eq_getElem?_getD, List.getD_eq_getElem?_getD, List.getElem?_append_left hi, List.getElem?_append_left hi]
    · have hm : (tokens s).1.getD i default ∈ (tokens s).1 := by
        rw [List.getD_eq_getElem?_getD, List.getElem?_eq_getElem (by omega)]; exact List.getElem_mem _
      have := hso.spans _ hm
      dsimp only at this
      exact bytes_ext (extract_app_l (by omega))
    · rw [hT, List.getD_eq_getElem?_getD, List.getElem?_append_right (Nat.le_refl _)]; simpa using hek
    · exact hS.1
    · rw [show T0.length = T0.length + 0 from rfl, hS.2.1]
  have hp : PT s (tokens s).1 T0.length (startP s) := ⟨Int.le_refl _, by show (0 : Int) ≤ _; omega, rfl, rfl⟩
  have hlen' : (tokens (s ++ oneText)).1.length = T0.length + 17 := by rw [hT']; simp [oneR]
  have hfl : fuelP s ≤ fuelP (s ++ oneText) := by unfold fuelP; omega
  obtain ⟨a, b, c, d⟩ := lf_parseLoop hL hk0 hfl ((tokens s).1.length + 2) (startP s) hp h2
  obtain ⟨j, hj, ej⟩ := d ((tokens (s ++ oneText)).1.length + 2) (by omega)
  change PT s (tokens s).1 T0.length (parsed s) at a
  change (parsed s).at_ = T0.length at b
  change (parsed s).funcs ≠ [] at c
  have hq : Sees (lf (s ++ oneText) (T0 ++ oneR.map (shiftT s.size)) (parsed s)) (oneToks ++ [(0, ⟨#[]⟩)]) := by
    refine ⟨a.at0, h2, ?_⟩
    show SeesL (s ++ oneText) (T0 ++ oneR.map (shiftT s.size)) (parsed s).at_.toNat _
    rw [b, Int.toNat_natCast]
    exact hS
  have hst : (parsed s).stmts.length < 999 := by
    have hgo := parse_tree (s := s) (by omega) hc
    have hch := tokens_chain h1
    have hl : Long (startP s) := ⟨hso, hch.named⟩
    have o := (parseLoop_forest (fuelP s) _ (startP s) hl (.nil 0 0 0) h2).1.ok
    have e2 := o.st
    change ((parsed s).stmts.length : Int) ≤ (parsed s).at_ at e2
    have e7 := hch.len
    omega
  obtain ⟨f1, t1, f2, t2, f3, t3, f4, t4, f5, t5, ef⟩ := one_fn hq hst hf (n := fuelP (s ++ oneText)) (by unfold fuelP; omega)
  refine ⟨f1, t1, f2, t2, f3, t3, f4, t4, f5, t5, ?_⟩
  have hend := hq.mv 16 [{ kind := 4, name := w_q, fr := f1, to := t1 }, { kind := 4, name := w_r, fr := f2, to := t2 }] [{ kind := 1, name := w_r, a := (parsed s).exprs.length, fr := f3, to := t3 }, { kind := 9, a := (parsed s).exprs.length + 1, fr := f4, to := t4 }]
  have hk : (lf (s ++ oneText) (T0 ++ oneR.map (shiftT s.size)) (parsed s)).tok.kind = 3 := hq.kind (k := 3)
  have hpd : parsed (s ++ oneText) = parseLoop (fuelP (s ++ oneText)) (j + 1) (lf (s ++ oneText) (T0 ++ oneR.map (shiftT s.size)) (parsed s)) := by
    unfold parsed
    rw [show startP (s ++ oneText) = lf (s ++ oneText) (T0 ++ oneR.map (shiftT s.size)) (startP s) by unfold startP lf; rw [hT']]
    exact ej
  have hfin : parsed (s ++ oneText) = function (fuelP (s ++ oneText)) (lf (s ++ oneText) (T0 ++ oneR.map (shiftT s.size)) (parsed s)) := by
    rw [hpd, Ytaadamobapnfbaa.parseLoop, if_pos ⟨hq.code, .inr (by rw [hk]; decide)⟩]
    obtain ⟨i, rfl⟩ : ∃ i, j = i + 1 := ⟨j - 1, by omega⟩
    rw [Ytaadamobapnfbaa.parseLoop, if_neg]
    rw [ef]
    rintro ⟨_, hx | hx⟩
    · simp at hx
    · exact hx (hend.kind (k := 0))
  have h1' : (tokens (s ++ oneText)).2.2 = 0 := by rw [hT']
  have h2' : (parsed (s ++ oneText)).code = 0 := by rw [hfin, ef]; exact h2
  unfold parse
  rw [if_neg (fun hx => hx h1'), if_neg (fun hx => hx h2'), hfin, ef]
  rfl
end Go.Proofs.Ytaadamobapnfbaa
set_option linter.unusedVariables false
set_option linter.unusedSimpArgs false
set_option maxRecDepth 100000
namespace Go.Proofs.Ytaadamobapnfbaa
open Go Go.Abs
theorem lc_dupOf {u : Tree} {a b : Nat} (g : Fu) : ∀ (l : List Fu) (c : CS), dupOf g l (lc u a b c) = lc u a b (dupOf g l c)
  | [], c => rfl
  | f :: l, c => by
    simp only [dupOf]
    rw [lc_need]; exact lc_dupOf g l _
theorem lc_dups {u : Tree} {a b : Nat} : ∀ (l pre : List Fu) (c : CS), dups pre l (lc u a b c) = lc u a b (dups pre l c)
  | [], pre, c => rfl
  | g :: l, pre, c => by
    simp only [dups]
    rw [lc_dupOf]; exact lc_dups l _ _
theorem dups_app (g : Fu) : ∀ (l pre : List Fu) (c : CS), dups pre (l ++ [g]) c = dupOf g (pre ++ l) (dups pre l c)
  | [], pre, c => by simp only [List.nil_append, dups, List.append_nil]
  | f :: l, pre, c => by
    simp only [List.cons_append, dups]
    rw [dups_app g l]; simp
theorem dupOf_none (g : Fu) : ∀ (l : List Fu) (c : CS), (∀ f ∈ l, f.name.data.toList ≠ g.name.data.toList) → dupOf g l c = c
  | [], c, _ => rfl
  | f :: l, c, h => by
    simp only [dupOf]
    have h1 : (f.name.data.toList == g.name.data.toList) = false := beq_eq_false_iff_ne.2 (h f (by simp))
    rw [h1, show (!false) = true from rfl, need_true]
    exact dupOf_none g l c (fun x hx => h x (by simp [hx]))
theorem set_right {α : Type} {l m : List α} {i : Nat} {x : α} (h : l.length ≤ i) : ∃ m', (l ++ m).set i x = l ++ m' ∧ m'.length = m.length := ⟨m.set (i - l.length) x, by rw [List.set_append_right _ _ h], by simp⟩
theorem more_checked {t u : Tree} {x1 x2 : Ex} {y1 y2 : St} {g : Fu} (ht : TreeOk t) (hu : u = { exprs := t.exprs ++ [x1, x2], stmts := t.stmts ++ [y1, y2], funcs := t.funcs ++ [g] })
    (k1 : x1.kind = 4) (n1 : x1.name = w_q) (k2 : x2.kind = 4) (n2 : x2.name = w_r) (k3 : y1.kind = 1) (n3 : y1.name = w_r) (a3 : y1.a = t.exprs.length) (k4 : y2.kind = 9) (a4 : y2.a = t.exprs.length + 1)
    (gn : g.name = w_one) (gp : g.params = [w_q]) (gt : g.type = 1) (gb : g.body = [(t.stmts.length : Int), (t.stmts.length : Int) + 1])
    (hne : ∀ f ∈ t.funcs, f.name.data.toList ≠ w_one.data.toList) (h0 : (checked t).code = 0) :
    (checked u).code = 0 ∧ (∃ m, (checked u).type = (checked t).type ++ m) ∧ (∃ m, (checked u).slot = (checked t).slot ++ m) ∧ (∃ m, (checked u).put = (checked t).put ++ m) ∧ (checked u).slots = (checked t).slots ++ [[1, 1]] := by
  have hx : Ext t u := ⟨⟨_, by rw [hu]⟩, ⟨_, by rw [hu]⟩, ⟨_, by rw [hu]⟩⟩
  have ue : u.exprs = t.exprs ++ [x1, x2] := by rw [hu]
  have us : u.stmts = t.stmts ++ [y1, y2] := by rw [hu]
  have uf : u.funcs = t.funcs ++ [g] := by rw [hu]
  have hc0 : c0 u = lc u 2 2 (c0 t) := by
    unfold c0 lc
    simp only [ue, us, uf, List.length_append, List.length_cons, List.length_nil]
    rw [List.replicate_append_replicate, List.replicate_append_replicate, List.replicate_append_replicate, List.replicate_append_replicate, show ([[]] : List (List Int)) = List.replicate 1 [] from rfl, List.replicate_append_replicate]
  have hd : dups [] u.funcs (c0 u) = lc u 2 2 (dups [] t.funcs (c0 t)) := by
    rw [uf, dups_app, List.nil_append, dupOf_none g _ _ (by rw [gn]; exact hne), hc0, lc_dups]
  have hkd := (Kept.dups t.funcs [] (c0 t)).1
  have hfa : faceOf (dups [] u.funcs (c0 u)) = lc u 2 2 (faceOf (dups [] t.funcs (c0 t))) := by
    rw [hd]
    unfold faceOf
    rw [lc_fu hx (show (dups [] t.funcs (c0 t)).t = t from hkd.t) (Int.le_refl 0) (by have := ht.some; omega), lc_need, lc_need]
  have hfs := xm_funs (a := 2) (b := 2) hx ht t.funcs 0 _ (pre0 t) ⟨[], rfl, rfl⟩ h0
  have hck : checked u = funs t.funcs.length [g] (lc u 2 2 (checked t)) := by
    unfold checked
    rw [hfa]
    rw [uf, funs_append, Nat.zero_add, hfs.1]
  obtain ⟨e1, hp⟩ := hfs
  rw [Nat.zero_add] at hp
  have hp : Pre t t.funcs.length (checked t) := hp
  have hS : (checked t).slots.length = t.funcs.length := hp.lS
  have hn : t.funcs.length < (lc u 2 2 (checked t)).slots.length := by
    show _ < ((checked t).slots ++ [[]]).length; simp [hS]
  have hsn : (lc u 2 2 (checked t)).slots[t.funcs.length]? = some [] := by
    show ((checked t).slots ++ [[]])[t.funcs.length]? = some []
    rw [← hS]; simp
  have hd0 : (lc u 2 2 (checked t)).code = 0 := h0
  have fin : checked u = fst (lc u 2 2 (checked t)) t.funcs.length (((lc u 2 2 (checked t)).type.set t.exprs.length 1).set (t.exprs.length + 1) 1) (((lc u 2 2 (checked t)).slot.set t.exprs.length 0).set (t.exprs.length + 1) 1)
      (((lc u 2 2 (checked t)).put.set t.stmts.length 1).set (t.stmts.length + 1) (-1)) (((lc u 2 2 (checked t)).func.set t.stmts.length t.funcs.length).set (t.stmts.length + 1) t.funcs.length) [1, 1] [⟨w_q, 0, 0⟩, ⟨w_r, 0, 1⟩] := by
    rw [hck]
    show bodyOf g.body (parsOf g.fr g.params ((lc u 2 2 (checked t)).enter t.funcs.length)) = _
    rw [fst_enter hsn, gp, gb]
    simp only [parsOf]
    rw [if_pos (show (fst (lc u 2 2 (checked t)) _ _ _ _ _ _ _).code = 0 from hd0), fst_decl hn hd0 (by decide) rfl]
    simp only [bodyOf]
    have g1 : (lc u 2 2 (checked t)).t.stmts.getD t.stmts.length default = y1 := by
      show u.stmts.getD t.stmts.length default = y1; rw [us]; simp [List.getD_eq_getElem?_getD]
    have g2 : (lc u 2 2 (checked t)).t.stmts.getD (t.stmts.length + 1) default = y2 := by
      show u.stmts.getD (t.stmts.length + 1) default = y2; rw [us]; simp [List.getD_eq_getElem?_getD, List.getElem?_append_right]
    have g3 : (lc u 2 2 (checked t)).t.exprs.getD t.exprs.length default = x1 := by
      show u.exprs.getD t.exprs.length default = x1; rw [ue]; simp [List.getD_eq_getElem?_getD]
    have g4 : (lc u 2 2 (checked t)).t.exprs.getD (t.exprs.length + 1) default = x2 := by
      show u.exprs.getD (t.exprs.length + 1) default = x2; rw [ue]; simp [List.getD_eq_getElem?_getD, List.getElem?_append_right]
    have l1 : (lc u 2 2 (checked t)).t.exprs.length = t.exprs.length + 1 + 1 := by show u.exprs.length = _; rw [ue]; simp
    have l2 : ∀ ty sl pu fn ss nm, (fst (lc u 2 2 (checked t)) t.funcs.length ty sl pu fn ss nm).t.stmts.length = t.stmts.length + 1 + 1 := by intros; show u.stmts.length = _; rw [us]; simp
    rw [l2, fst_var (j := t.exprs.length) hn hd0 g1 k3 a3 (fun fn => by rw [l1]; exact fst_name hn hd0 g3 k1 (v := 0) (by rw [n1]; rfl) (by decide) rfl _) (by decide) (by rw [n3]; rfl)]
    rw [n3, l2, show (t.stmts.length : Int) + 1 = ((t.stmts.length + 1 : Nat) : Int) by omega]
    have gf : ((lc u 2 2 (checked t)).t.funcs.getD t.funcs.length default).type = 1 := by
      show (u.funcs.getD t.funcs.length default).type = 1; rw [uf]; simp [List.getD_eq_getElem?_getD, gt]
    rw [fst_ret (j := t.exprs.length + 1) hn hd0 g2 k4 (by rw [a4]; omega) (fun fn => by rw [l1]; exact fst_name hn hd0 g4 k2 (v := 1) (by rw [n2]; rfl) (by decide) rfl _) gf]
    rfl
  have lt := hp.lt
  have ls := hp.ls
  have lp := hp.lp
  obtain ⟨m1, q1, _⟩ := set_right (l := (checked t).type) (m := List.replicate 2 0) (i := t.exprs.length) (x := 1) (by omega)
  obtain ⟨m2, q2, _⟩ := set_right (l := (checked t).type) (m := m1) (i := t.exprs.length + 1) (x := 1) (by omega)
  obtain ⟨m3, q3, _⟩ := set_right (l := (checked t).slot) (m := List.replicate 2 (-1)) (i := t.exprs.length) (x := 0) (by omega)
  obtain ⟨m4, q4, _⟩ := set_right (l := (checked t).slot) (m := m3) (i := t.exprs.length + 1) (x := 1) (by omega)
  obtain ⟨m5, q5, _⟩ := set_right (l := (checked t).put) (m := List.replicate 2 (-1)) (i := t.stmts.length) (x := 1) (by omega)
  obtain ⟨m6, q6, _⟩ := set_right (l := (checked t).put) (m := m5) (i := t.stmts.length + 1) (x := -1) (by omega)
  rw [fin]
  refine ⟨h0, ⟨m2, ?_⟩, ⟨m4, ?_⟩, ⟨m6, ?_⟩, ?_⟩
  · show (((checked t).type ++ List.replicate 2 0).set _ _).set _ _ = _; rw [q1, q2]
  · show (((checked t).slot ++ List.replicate 2 (-1)).set _ _).set _ _ = _; rw [q3, q4]
  · show (((checked t).put ++ List.replicate 2 (-1)).set _ _).set _ _ = _; rw [q5, q6]
  · show ((checked t).slots ++ [[]]).set t.funcs.length [1, 1] = _
    rw [← hS]; simp
end Go.Proofs.Ytaadamobapnfbaa
set_option linter.unusedVariables false
set_option linter.unusedSimpArgs false
set_option maxRecDepth 1000000
namespace Go.Proofs.Ytaadamobapnfbaa
open Go Go.Abs
theorem map_at {l : List Int} {i : Int} {k : Int} (h : l[i.toNat]? = some k) : (l.map vi)[0 + i.toNat * 1]? = some (vi k) := by
  rw [Nat.zero_add, Nat.mul_one, List.getElem?_map, h]; rfl
end Go.Proofs.Ytaadamobapnfbaa
set_option linter.unusedVariables false
set_option linter.unusedSimpArgs false
set_option maxRecDepth 1000000
namespace Go.Proofs.Ytaadamobapnfbaa
open Go Go.Abs
theorem ints_sl0 (l x : List Int) (hl : l.length ≤ 1048576) (a0 a1 a2 a3 a4 k0 b0 b1 b2 : Nat) (c1 d1 c2 d2 c3 c4 : List AV) : ACalls Try.prog 18 [.sl 1 a0 0 l.length, .sl 1 b0 0 l.length] [.mu a0 ((l ++ x).map vi), .mu a1 c1, .mu a2 c2, .mu a3 c3, .mu a4 c4, .tk k0, .mu b0 (l.map vi), .mu b1 d1, .mu b2 d2] (RV (.v (.bool true)) [.mu a0 ((l ++ x).map vi), .mu a1 c1, .mu a2 c2, .mu a3 c3, .mu a4 c4, .tk k0, .mu b0 (l.map vi), .mu b1 d1, .mu b2 d2]) := by
  refine ACalls.of_code (c := _) Try.func18 rfl Try.ntmps18 (Nat.le_of_ble_eq_true rfl) ?_
  refine ACode.seq (ACode.region ?_)
  refine ASeq.q rfl rfl (QOp.assign rfl rfl) ?_
  refine ASeq.nil ?_
  refine ACode.seq (ACode.seq (ACode.region ?_))
  refine ASeq.q rfl rfl (QOp.move rfl rfl) ?_
  refine ASeq.q rfl rfl (QOp.lenM rfl rfl (tok _ rfl) rfl) ?_
  refine ASeq.q rfl rfl (QOp.move rfl rfl) ?_
  refine ASeq.q rfl rfl (QOp.lenM rfl rfl (tok _ rfl) rfl) ?_
  refine ASeq.q rfl rfl (QOp.cmp rfl rfl rfl rfl) ?_
  refine ASeq.nil ?_
  refine AExit.then_normal ?_
  refine ACode.cond _ rfl (fun hb => by simp at hb) (fun hb => ?_)
  refine ACode.skip (ACode.seq (ACode.seq (ACode.region ?_)))
  refine ASeq.q rfl rfl (QOp.move rfl rfl) ?_
  refine ASeq.q rfl rfl (QOp.lenM rfl rfl (tok _ rfl) rfl) ?_
  refine ASeq.q rfl rfl (QOp.move rfl rfl) ?_
  refine ASeq.nil ?_
  refine ACode.block ?_
  refine ACode.loopP (fun i : Nat => [(0, .sl 1 a0 0 l.length), (1, .sl 1 b0 0 l.length), (12, vi (l.length : Int)), (13, vi i)]) (fun _ => [.mu a0 ((l ++ x).map vi), .mu a1 c1, .mu a2 c2, .mu a3 c3, .mu a4 c4, .tk k0, .mu b0 (l.map vi), .mu b1 d1, .mu b2 d2]) (fun i => l.length - i)
    (fun i => i ≤ l.length) 0 (Nat.zero_le _) (.cons rfl (.cons rfl (.cons rfl (.cons rfl .nil)))) 9 rfl ?_
  rintro i hi
  refine ACode.seq (ACode.region ?_)
  refine ASeq.q rfl rfl (QOp.cmp rfl rfl rfl rfl) ?_
  refine ASeq.nil ?_
  refine ACode.seq ?_
  refine ACode.cond _ rfl (fun hb => ?_) (fun hb => ?_)
  · have hlt : i < l.length := by have := of_decide_eq_true hb; omega
    have g1 : ((l ++ x).map vi)[0 + ((i : Nat) : Int).toNat * 1]? = some (vi l[i]) := map_at (by rw [Int.toNat_natCast, List.getElem?_append_left hlt, List.getElem?_eq_getElem hlt])
    have g2 : (l.map vi)[0 + ((i : Nat) : Int).toNat * 1]? = some (vi l[i]) := map_at (by rw [Int.toNat_natCast, List.getElem?_eq_getElem hlt])
    refine ACode.skip (ACode.seq (ACode.block (ACode.seq (ACode.region ?_))))
    refine ASeq.q rfl rfl (QOp.move rfl rfl) ?_
    refine ASeq.q rfl rfl (QOp.assign rfl rfl) ?_
    refine ASeq.nil ?_
    refine ACode.seq ?_
    refine ACode.drawn [[], [], [0, 1], [0, 1, 2], [], [], [4, 5], [4, 5, 6], [0, 1, 2, 3, 4, 5, 6, 7]] (by kernel_rfl) mixed ?_
    refine DAny.qu 0 rfl rfl (by kernel_rfl) rfl (fun _ => .does _ _ rfl (.none rfl) (QOp.move rfl rfl)) ?_
    refine DAny.qu 1 rfl rfl (by kernel_rfl) rfl (fun _ => .does _ _ rfl (.none rfl) (QOp.move rfl rfl)) ?_
    refine DAny.qu 2 rfl rfl (by kernel_rfl) rfl (fun _ => .does _ _ rfl (.none rfl) (QOp.indexM rfl rfl rfl (tok _ rfl) rfl (tok _ rfl) (by omega) (by omega) rfl)) ?_
    refine DAny.ld 3 rfl rfl (by kernel_rfl) rfl (.does _ _ rfl (.none rfl) (QOp.loadAt 0 rfl rfl rfl (tok _ rfl) rfl (by assumption))) ?_
    refine DAny.qu 4 rfl rfl (by kernel_rfl) rfl (fun _ => .does _ _ rfl (.none rfl) (QOp.move rfl rfl)) ?_
    refine DAny.qu 5 rfl rfl (by kernel_rfl) rfl (fun _ => .does _ _ rfl (.none rfl) (QOp.move rfl rfl)) ?_
    refine DAny.qu 6 rfl rfl (by kernel_rfl) rfl (fun _ => .does _ _ rfl (.none rfl) (QOp.indexM rfl rfl rfl (tok _ rfl) rfl (tok _ rfl) (by omega) (by omega) rfl)) ?_
    refine DAny.ld 7 rfl rfl (by kernel_rfl) rfl (.does _ _ rfl (.none rfl) (QOp.loadAt 6 rfl rfl rfl (tok _ rfl) rfl (by assumption))) ?_
    refine DAny.qu 8 rfl rfl (by kernel_rfl) rfl (fun _ => .does _ _ rfl (.none rfl) (QOp.cmp rfl rfl rfl rfl)) ?_
    refine DAny.done (by kernel_rfl) ?_
    refine AExit.then_normal ?_
    refine ACode.cond _ rfl (fun hb => by simp at hb) (fun hb => ?_)
    refine ACode.skip (ACode.region ?_)
    refine ASeq.q rfl rfl (QOp.ar64 rfl rfl rfl rfl ⟨by omega, by omega⟩) ?_
    refine ASeq.q rfl rfl (QOp.move rfl rfl) ?_
    refine ASeq.nil ?_
    refine AExit.then_normal ?_
    exact ⟨i + 1, 9, hlt, by omega, .cons rfl (.cons rfl (.cons rfl (.cons rfl .nil))), rfl⟩
  · refine ACode.exit (ACode.seq (ACode.region ?_))
    refine ASeq.q rfl rfl (QOp.assign rfl rfl) ?_
    refine ASeq.nil ?_
    refine ACode.ret ?_
    refine bodyQ_ret 9 (.tmp rfl .nil) rfl ?_
    exact .mk
theorem ints_sl1 (l x : List Int) (hl : l.length ≤ 1048576) (a0 a1 a2 a3 a4 k0 b0 b1 b2 : Nat) (c0 d0 c2 d2 c3 c4 : List AV) : ACalls Try.prog 18 [.sl 1 a1 0 l.length, .sl 1 b1 0 l.length] [.mu a0 c0, .mu a1 ((l ++ x).map vi), .mu a2 c2, .mu a3 c3, .mu a4 c4, .tk k0, .mu b0 d0, .mu b1 (l.map vi), .mu b2 d2] (RV (.v (.bool true)) [.mu a0 c0, .mu a1 ((l ++ x).map vi), .mu a2 c2, .mu a3 c3, .mu a4 c4, .tk k0, .mu b0 d0, .mu b1 (l.map vi), .mu b2 d2]) := by
  refine ACalls.of_code (c := _) Try.func18 rfl Try.ntmps18 (Nat.le_of_ble_eq_true rfl) ?_
  refine ACode.seq (ACode.region ?_)
  refine ASeq.q rfl rfl (QOp.assign rfl rfl) ?_
  refine ASeq.nil ?_
  refine ACode.seq (ACode.seq (ACode.region ?_))
  refine ASeq.q rfl rfl (QOp.move rfl rfl) ?_
  refine ASeq.q rfl rfl (QOp.lenM rfl rfl (tok _ rfl) rfl) ?_
  refine ASeq.q rfl rfl (QOp.move rfl rfl) ?_
  refine ASeq.q rfl rfl (QOp.lenM rfl rfl (tok _ rfl) rfl) ?_
  refine ASeq.q rfl rfl (QOp.cmp rfl rfl rfl rfl) ?_
  refine ASeq.nil ?_
  refine AExit.then_normal ?_
  refine ACode.cond _ rfl (fun hb => by simp at hb) (fun hb => ?_)
  refine ACode.skip (ACode.seq (ACode.seq (ACode.region ?_)))
  refine ASeq.q rfl rfl (QOp.move rfl rfl) ?_
  refine ASeq.q rfl rfl (QOp.lenM rfl rfl (tok _ rfl) rfl) ?_
  refine ASeq.q rfl rfl (QOp.move rfl rfl) ?_
  refine ASeq.nil ?_
  refine ACode.block ?_
  refine ACode.loopP (fun i : Nat => [(0, .sl 1 a1 0 l.length), (1, .sl 1 b1 0 l.length), (12, vi (l.length : Int)), (13, vi i)]) (fun _ => [.mu a0 c0, .mu a1 ((l ++ x).map vi), .mu a2 c2, .mu a3 c3, .mu a4 c4, .tk k0, .mu b0 d0, .mu b1 (l.map vi), .mu b2 d2]) (fun i => l.length - i)
    (fun i => i ≤ l.length) 0 (Nat.zero_le _) (.cons rfl (.cons rfl (.cons rfl (.cons rfl .nil)))) 9 rfl ?_
  rintro i hi
  refine ACode.seq (ACode.region ?_)
  refine ASeq.q rfl rfl (QOp.cmp rfl rfl rfl rfl) ?_
  refine ASeq.nil ?_
  refine ACode.seq ?_
  refine ACode.cond _ rfl (fun hb => ?_) (fun hb => ?_)
  · have hlt : i < l.length := by have := of_decide_eq_true hb; omega
    have g1 : ((l ++ x).map vi)[0 + ((i : Nat) : Int).toNat * 1]? = some (vi l[i]) := map_at (by rw [Int.toNat_natCast, List.getElem?_append_left hlt, List.getElem?_eq_getElem hlt])
    have g2 : (l.map vi)[0 + ((i : Nat) : Int).toNat * 1]? = some (vi l[i]) := map_at (by rw [Int.toNat_natCast, List.getElem?_eq_getElem hlt])
    refine ACode.skip (ACode.seq (ACode.block (ACode.seq (ACode.region ?_))))
    refine ASeq.q rfl rfl (QOp.move rfl rfl) ?_
    refine ASeq.q rfl rfl (QOp.assign rfl rfl) ?_
    refine ASeq.nil ?_
    refine ACode.seq ?_
    refine ACode.drawn [[], [], [0, 1], [0, 1, 2], [], [], [4, 5], [4, 5, 6], [0, 1, 2, 3, 4, 5, 6, 7]] (by kernel_rfl) mixed ?_
    refine DAny.qu 0 rfl rfl (by kernel_rfl) rfl (fun _ => .does _ _ rfl (.none rfl) (QOp.move rfl rfl)) ?_
    refine DAny.qu 1 rfl rfl (by kernel_rfl) rfl (fun _ => .does _ _ rfl (.none rfl) (QOp.move rfl rfl)) ?_
    refine DAny.qu 2 rfl rfl (by kernel_rfl) rfl (fun _ => .does _ _ rfl (.none rfl) (QOp.indexM rfl rfl rfl (tok _ rfl) rfl (tok _ rfl) (by omega) (by omega) rfl)) ?_
    refine DAny.ld 3 rfl rfl (by kernel_rfl) rfl (.does _ _ rfl (.none rfl) (QOp.loadAt 1 rfl rfl rfl (tok _ rfl) rfl (by assumption))) ?_
    refine DAny.qu 4 rfl rfl (by kernel_rfl) rfl (fun _ => .does _ _ rfl (.none rfl) (QOp.move rfl rfl)) ?_
    refine DAny.qu 5 rfl rfl (by kernel_rfl) rfl (fun _ => .does _ _ rfl (.none rfl) (QOp.move rfl rfl)) ?_
    refine DAny.qu 6 rfl rfl (by kernel_rfl) rfl (fun _ => .does _ _ rfl (.none rfl) (QOp.indexM rfl rfl rfl (tok _ rfl) rfl (tok _ rfl) (by omega) (by omega) rfl)) ?_
    refine DAny.ld 7 rfl rfl (by kernel_rfl) rfl (.does _ _ rfl (.none rfl) (QOp.loadAt 7 rfl rfl rfl (tok _ rfl) rfl (by assumption))) ?_
    refine DAny.qu 8 rfl rfl (by kernel_rfl) rfl (fun _ => .does _ _ rfl (.none rfl) (QOp.cmp rfl rfl rfl rfl)) ?_
    refine DAny.done (by kernel_rfl) ?_
    refine AExit.then_normal ?_
    refine ACode.cond _ rfl (fun hb => by simp at hb) (fun hb => ?_)
    refine ACode.skip (ACode.region ?_)
    refine ASeq.q rfl rfl (QOp.ar64 rfl rfl rfl rfl ⟨by omega, by omega⟩) ?_
    refine ASeq.q rfl rfl (QOp.move rfl rfl) ?_
    refine ASeq.nil ?_
    refine AExit.then_normal ?_
    exact ⟨i + 1, 9, hlt, by omega, .cons rfl (.cons rfl (.cons rfl (.cons rfl .nil))), rfl⟩
  · refine ACode.exit (ACode.seq (ACode.region ?_))
    refine ASeq.q rfl rfl (QOp.assign rfl rfl) ?_
    refine ASeq.nil ?_
    refine ACode.ret ?_
    refine bodyQ_ret 9 (.tmp rfl .nil) rfl ?_
    exact .mk
theorem ints_sl2 (l x : List Int) (hl : l.length ≤ 1048576) (a0 a1 a2 a3 a4 k0 b0 b1 b2 : Nat) (c0 d0 c1 d1 c3 c4 : List AV) : ACalls Try.prog 18 [.sl 1 a2 0 l.length, .sl 1 b2 0 l.length] [.mu a0 c0, .mu a1 c1, .mu a2 ((l ++ x).map vi), .mu a3 c3, .mu a4 c4, .tk k0, .mu b0 d0, .mu b1 d1, .mu b2 (l.map vi)] (RV (.v (.bool true)) [.mu a0 c0, .mu a1 c1, .mu a2 ((l ++ x).map vi), .mu a3 c3, .mu a4 c4, .tk k0, .mu b0 d0, .mu b1 d1, .mu b2 (l.map vi)]) := by
  refine ACalls.of_code (c := _) Try.func18 rfl Try.ntmps18 (Nat.le_of_ble_eq_true rfl) ?_
  refine ACode.seq (ACode.region ?_)
  refine ASeq.q rfl rfl (QOp.assign rfl rfl) ?_
  refine ASeq.nil ?_
  refine ACode.seq (ACode.seq (ACode.region ?_))
  refine ASeq.q rfl rfl (QOp.move rfl rfl) ?_
  refine ASeq.q rfl rfl (QOp.lenM rfl rfl (tok _ rfl) rfl) ?_
  refine ASeq.q rfl rfl (QOp.move rfl rfl) ?_
  refine ASeq.q rfl rfl (QOp.lenM rfl rfl (tok _ rfl) rfl) ?_
  refine ASeq.q rfl rfl (QOp.cmp rfl rfl rfl rfl) ?_
  refine ASeq.nil ?_
  refine AExit.then_normal ?_
  refine ACode.cond _ rfl (fun hb => by simp at hb) (fun hb => ?_)
  refine ACode.skip (ACode.seq (ACode.seq (ACode.region ?_)))
  refine ASeq.q rfl rfl (QOp.move rfl rfl) ?_
  refine ASeq.q rfl rfl (QOp.lenM rfl rfl (tok _ rfl) rfl) ?_
  refine ASeq.q rfl rfl (QOp.move rfl rfl) ?_
  refine ASeq.nil ?_
  refine ACode.block ?_
  refine ACode.loopP (fun i : Nat => [(0, .sl 1 a2 0 l.length), (1, .sl 1 b2 0 l.length), (12, vi (l.length : Int)), (13, vi i)]) (fun _ => [.mu a0 c0, .mu a1 c1, .mu a2 ((l ++ x).map vi), .mu a3 c3, .mu a4 c4, .tk k0, .mu b0 d0, .mu b1 d1, .mu b2 (l.map vi)]) (fun i => l.length - i)
    (fun i => i ≤ l.length) 0 (Nat.zero_le _) (.cons rfl (.cons rfl (.cons rfl (.cons rfl .nil)))) 9 rfl ?_
  rintro i hi
  refine ACode.seq (ACode.region ?_)
  refine ASeq.q rfl rfl (QOp.cmp rfl rfl rfl rfl) ?_
  refine ASeq.nil ?_
  refine ACode.seq ?_
  refine ACode.cond _ rfl (fun hb => ?_) (fun hb => ?_)
  · have hlt : i < l.length := by have := of_decide_eq_true hb; omega
    have g1 : ((l ++ x).map vi)[0 + ((i : Nat) : Int).toNat * 1]? = some (vi l[i]) := map_at (by rw [Int.toNat_natCast, List.getElem?_append_left hlt, List.getElem?_eq_getElem hlt])
    have g2 : (l.map vi)[0 + ((i : Nat) : Int).toNat * 1]? = some (vi l[i]) := map_at (by rw [Int.toNat_natCast, List.getElem?_eq_getElem hlt])
    refine ACode.skip (ACode.seq (ACode.block (ACode.seq (ACode.region ?_))))
    refine ASeq.q rfl rfl (QOp.move rfl rfl) ?_
    refine ASeq.q rfl rfl (QOp.assign rfl rfl) ?_
    refine ASeq.nil ?_
    refine ACode.seq ?_
    refine ACode.drawn [[], [], [0, 1], [0, 1, 2], [], [], [4, 5], [4, 5, 6], [0, 1, 2, 3, 4, 5, 6, 7]] (by kernel_rfl) mixed ?_
    refine DAny.qu 0 rfl rfl (by kernel_rfl) rfl (fun _ => .does _ _ rfl (.none rfl) (QOp.move rfl rfl)) ?_
    refine DAny.qu 1 rfl rfl (by kernel_rfl) rfl (fun _ => .does _ _ rfl (.none rfl) (QOp.move rfl rfl)) ?_
    refine DAny.qu 2 rfl rfl (by kernel_rfl) rfl (fun _ => .does _ _ rfl (.none rfl) (QOp.indexM rfl rfl rfl (tok _ rfl) rfl (tok _ rfl) (by omega) (by omega) rfl)) ?_
    refine DAny.ld 3 rfl rfl (by kernel_rfl) rfl (.does _ _ rfl (.none rfl) (QOp.loadAt 2 rfl rfl rfl (tok _ rfl) rfl (by assumption))) ?_
    refine DAny.qu 4 rfl rfl (by kernel_rfl) rfl (fun _ => .does _ _ rfl (.none rfl) (QOp.move rfl rfl)) ?_
    refine DAny.qu 5 rfl rfl (by kernel_rfl) rfl (fun _ => .does _ _ rfl (.none rfl) (QOp.move rfl rfl)) ?_
    refine DAny.qu 6 rfl rfl (by kernel_rfl) rfl (fun _ => .does _ _ rfl (.none rfl) (QOp.indexM rfl rfl rfl (tok _ rfl) rfl (tok _ rfl) (by omega) (by omega) rfl)) ?_
    refine DAny.ld 7 rfl rfl (by kernel_rfl) rfl (.does _ _ rfl (.none rfl) (QOp.loadAt 8 rfl rfl rfl (tok _ rfl) rfl (by assumption))) ?_
    refine DAny.qu 8 rfl rfl (by kernel_rfl) rfl (fun _ => .does _ _ rfl (.none rfl) (QOp.cmp rfl rfl rfl rfl)) ?_
    refine DAny.done (by kernel_rfl) ?_
    refine AExit.then_normal ?_
    refine ACode.cond _ rfl (fun hb => by simp at hb) (fun hb => ?_)
    refine ACode.skip (ACode.region ?_)
    refine ASeq.q rfl rfl (QOp.ar64 rfl rfl rfl rfl ⟨by omega, by omega⟩) ?_
    refine ASeq.q rfl rfl (QOp.move rfl rfl) ?_
    refine ASeq.nil ?_
    refine AExit.then_normal ?_
    exact ⟨i + 1, 9, hlt, by omega, .cons rfl (.cons rfl (.cons rfl (.cons rfl .nil))), rfl⟩
  · refine ACode.exit (ACode.seq (ACode.region ?_))
    refine ASeq.q rfl rfl (QOp.assign rfl rfl) ?_
    refine ASeq.nil ?_
    refine ACode.ret ?_
    refine bodyQ_ret 9 (.tmp rfl .nil) rfl ?_
    exact .mk
end Go.Proofs.Ytaadamobapnfbaa
set_option linter.unusedVariables false
set_option linter.unusedSimpArgs false
set_option maxRecDepth 1000000
namespace Go.Proofs.Ytaadamobapnfbaa
open Go Go.Abs
set_option maxHeartbeats 16000000 in
theorem checkMore_walk (s : ByteArray) : ACalls Try.prog 10 [vs s] [] (RV (.v (.bool true)) []) := by
  have haw := awake6_walk
  refine ACalls.of_code (c := _) Try.func10 rfl Try.ntmps10 (Nat.le_of_ble_eq_true rfl) ?_
  refine ACode.seq (ACode.region ?_)
  refine ASeq.q rfl rfl (QOp.assign rfl rfl) ?_
  refine ASeq.nil ?_
  refine ACode.seq (ACode.seq (ACode.region ?_))
  refine ASeq.op rfl rfl (AOp.callP 0 rfl (by kernel_rfl) rfl rfl rfl (haw) ?_ (by rintro _ _ ⟨⟩))
  rintro _ _ ⟨⟩
  refine ASeq.q rfl rfl (QOp.not rfl rfl) ?_
  refine ASeq.q rfl rfl (QOp.move rfl rfl) ?_
  refine ASeq.gq _ _ rfl rfl rfl rfl (QOp.move rfl rfl) ?_
  refine ASeq.gq _ _ rfl rfl rfl rfl (QOp.lenS rfl rfl (tok _ rfl) rfl) ?_
  refine ASeq.gq _ _ rfl rfl rfl rfl (QOp.cmp rfl rfl rfl rfl) ?_
  refine ASeq.q rfl rfl (QOp.pickF rfl rfl rfl) ?_
  refine ASeq.nil ?_
  refine AExit.then_normal ?_
  refine ACode.cond _ rfl (fun hb => ?_) (fun hb => ?_)
  · refine ACode.seq (ACode.region ?_)
    refine ASeq.op rfl rfl (AOp.callP 0 rfl (by kernel_rfl) rfl rfl rfl (haw) ?_ (by rintro _ _ ⟨⟩))
    rintro _ _ ⟨⟩
    refine ASeq.q rfl rfl (QOp.assign rfl rfl) ?_
    refine ASeq.nil ?_
    refine ACode.ret (AExit.then_ret ?_)
    refine bodyQ_ret 0 (.tmp rfl .nil) rfl ?_
    exact .mk
  have hsz8 : s.size ≤ 800 := by have := of_decide_eq_false hb; omega
  have hsz : s.size ≤ 1000000 := by omega
  have hosz : oneText.size = 46 := rfl
  have hsz2 : (s ++ oneText).size ≤ 1000000 := by rw [app_size]; omega
  have hcat : s.size + oneText.size ≤ 9223372036854775807 := by omega
  unfold oneText at hcat
  refine ACode.skip (ACode.seq (ACode.region ?_))
  refine ASeq.q rfl rfl (QOp.move rfl rfl) ?_
  refine ASeq.op rfl rfl (AOp.callP 0 rfl (by kernel_rfl) rfl rfl rfl (parse_ok s hsz) ?_ (by rintro _ _ ⟨⟩))
  rintro _ _ ⟨⟩
  refine ASeq.q rfl rfl (QOp.move rfl rfl) ?_
  refine ASeq.q rfl rfl (QOp.extract rfl rfl rfl) ?_
  refine ASeq.q rfl rfl (QOp.extract rfl rfl rfl) ?_
  refine ASeq.q rfl rfl (QOp.extract rfl rfl rfl) ?_
  refine ASeq.op rfl rfl (AOp.allocP rfl (tok _ rfl) rfl rfl (fun _ => rfl) (fun _ => ?_))
  refine ASeq.op0 rfl rfl (AOp.storeP 0 rfl rfl rfl rfl (tok _ rfl) rfl rfl rfl rfl ?_)
  refine ASeq.q rfl rfl (QOp.assign rfl rfl) ?_
  refine ASeq.q rfl rfl (QOp.assign rfl rfl) ?_
  refine ASeq.nil ?_
  rename_i m3
  refine ACode.seq (ACode.seq (ACode.region ?_))
  refine ASeq.q rfl rfl (QOp.move rfl rfl) ?_
  refine ASeq.q rfl rfl (QOp.cmp rfl rfl rfl rfl) ?_
  refine ASeq.split 32 ((parse s).2.2 != 0) rfl (fun hb2 => ?_) (fun hb2 => ?_)
  · refine ASeq.q rfl rfl (QOp.move rfl rfl) ?_
    refine ASeq.gno _ _ rfl rfl rfl rfl rfl ?_
    refine ASeq.gno _ _ rfl rfl rfl rfl rfl ?_
    refine ASeq.gno _ _ rfl rfl rfl rfl rfl ?_
    refine ASeq.gno _ _ rfl rfl rfl rfl rfl ?_
    refine ASeq.q rfl rfl (QOp.pickT rfl rfl rfl) ?_
    refine ASeq.nil ?_
    refine AExit.then_normal ?_
    refine ACode.cond _ rfl (fun hb3 => ?_) (fun hb3 => by cases hb3)
    refine ACode.seq (ACode.region ?_)
    refine ASeq.q rfl rfl (QOp.assign rfl rfl) ?_
    refine ASeq.nil ?_
    refine ACode.ret (AExit.then_ret ?_)
    refine bodyQ_ret 0 (.tmp rfl .nil) rfl ?_
    exact .mk
  have hz : (parse s).2.2 = 0 := by simpa using hb2
  obtain ⟨toks, at_, htree⟩ := parse_tree hsz hz
  have hmore := more_parse hsz8 hz
  have hpo := parse_ok (s ++ oneText) hsz2
  have hck := htree.check
  have hbig := htree.big
  have htok := htree.ok
  have hfine := htree.fine
  have htree2 := @parse_tree (s ++ oneText) hsz2
  generalize (parse s).1 = t at *
  have hFl : (t.funcs.map Fu.cells).length = t.funcs.length := List.length_map ..
  refine ASeq.q rfl rfl (QOp.move rfl rfl) ?_
  refine ASeq.gq _ _ rfl rfl rfl rfl (QOp.fieldM rfl rfl (tok _ rfl) rfl rfl (by decide) rfl) ?_
  refine ASeq.gq _ _ rfl rfl rfl rfl (QOp.loadM 0 rfl rfl rfl (tok _ rfl) rfl) ?_
  refine ASeq.gq _ _ rfl rfl rfl rfl (QOp.lenI rfl rfl (tok _ rfl) rfl) ?_
  refine ASeq.gq _ _ rfl rfl rfl rfl (QOp.cmp rfl rfl rfl rfl) ?_
  refine ASeq.q rfl rfl (QOp.pickF rfl rfl rfl) ?_
  refine ASeq.nil ?_
  refine AExit.then_normal ?_
  refine ACode.cond _ rfl (fun hb3 => ?_) (fun hb3 => ?_)
  · refine ACode.seq (ACode.region ?_)
    refine ASeq.q rfl rfl (QOp.assign rfl rfl) ?_
    refine ASeq.nil ?_
    refine ACode.ret (AExit.then_ret ?_)
    refine bodyQ_ret 0 (.tmp rfl .nil) rfl ?_
    exact .mk
  have h32 : t.funcs.length < 32 := by have := of_decide_eq_false hb3; rw [hFl] at this; omega
  refine ACode.skip (ACode.seq (ACode.seq (ACode.region ?_)))
  refine ASeq.q rfl rfl (QOp.fieldM rfl rfl (tok _ rfl) rfl rfl (by decide) rfl) ?_
  refine ASeq.q rfl rfl (QOp.loadM 0 rfl rfl rfl (tok _ rfl) rfl) ?_
  refine ASeq.q rfl rfl (QOp.lenI rfl rfl (tok _ rfl) rfl) ?_
  refine ASeq.q rfl rfl (QOp.move rfl rfl) ?_
  refine ASeq.nil ?_
  refine ACode.block ?_
  refine ACode.loopP (fun (i : Nat) => [(0, vs s), (3, .mp m3 0), (40, .il 6 none (t.funcs.map Fu.cells)), (41, vi ((t.funcs.map Fu.cells).length : Int)), (42, vi i)]) (fun _ => [.mu m3 t.cells]) (fun i => t.funcs.length - i)
    (fun i => i ≤ t.funcs.length ∧ ∀ k (hk : k < t.funcs.length), k < i → t.funcs[k].name.data.toList ≠ w_one.data.toList) 0 ⟨Nat.zero_le _, fun k _ h => by omega⟩ (.cons rfl (.cons rfl (.cons rfl (.cons rfl (.cons rfl .nil))))) 1 rfl ?_
  rintro i ⟨hi, hne⟩
  refine ACode.seq (ACode.region ?_)
  refine ASeq.q rfl rfl (QOp.cmp rfl rfl rfl rfl) ?_
  refine ASeq.nil ?_
  refine ACode.seq ?_
  refine ACode.cond _ rfl (fun hb4 => ?_) (fun hb4 => ?_)
  · have hlti : i < t.funcs.length := by have := of_decide_eq_true hb4; rw [hFl] at this; omega
    have hget := fu_at hlti
    have hstep : t.funcs[i].name.data.toList ≠ w_one.data.toList → ∀ k (hk : k < t.funcs.length), k < i + 1 → t.funcs[k].name.data.toList ≠ w_one.data.toList := fun h k hk hki => by
      by_cases he : k = i
      · subst he; exact h
      · exact hne k hk (by omega)
    generalize t.funcs[i] = g at *
    refine ACode.skip (ACode.seq (ACode.block (ACode.seq (ACode.region ?_))))
    refine ASeq.q rfl rfl (QOp.indexI rfl rfl rfl (tok _ rfl) rfl (tok _ rfl) (by omega) (by assumption)) ?_
    refine ASeq.q rfl rfl (QOp.loadI rfl rfl (tok _ rfl) rfl) ?_
    refine ASeq.op rfl rfl (AOp.allocP rfl (tok _ rfl) rfl rfl (fun _ => rfl) (fun _ => ?_))
    refine ASeq.op0 rfl rfl (AOp.storeP 1 rfl rfl rfl rfl (tok _ rfl) rfl rfl rfl rfl ?_)
    refine ASeq.nil ?_
    rename_i m7
    refine ACode.seq (ACode.region ?_)
    refine ASeq.q rfl rfl (QOp.fieldM rfl rfl (tok _ rfl) rfl rfl (by decide) rfl) ?_
    refine ASeq.q rfl rfl (QOp.loadM 1 rfl rfl rfl (tok _ rfl) rfl) ?_
    refine ASeq.q rfl rfl (QOp.cmpStr rfl rfl rfl rfl) ?_
    refine ASeq.nil ?_
    refine AExit.then_normal ?_
    refine ACode.cond _ rfl (fun hb5 => ?_) (fun hb5 => ?_)
    · refine ACode.seq (ACode.region ?_)
      refine ASeq.q rfl rfl (QOp.assign rfl rfl) ?_
      refine ASeq.nil ?_
      refine ACode.ret (AExit.in_ret (AExit.then_ret (AExit.then_ret (AExit.in_ret (AExit.then_ret ?_)))))
      refine bodyQ_ret 0 (.tmp rfl .nil) rfl ?_
      exact .mk
    refine ACode.skip (ACode.region ?_)
    refine ASeq.q rfl rfl (QOp.ar64 rfl rfl rfl rfl ⟨by omega, by omega⟩) ?_
    refine ASeq.q rfl rfl (QOp.move rfl rfl) ?_
    refine ASeq.nil ?_
    refine AExit.then_normal ?_
    exact ⟨i + 1, 1, ⟨hlti, hstep (ne_of_beq_false hb5)⟩, by omega, .cons rfl (.cons rfl (.cons rfl (.cons rfl (.cons rfl .nil)))), rfl⟩
  have hge : i = t.funcs.length := by have := of_decide_eq_false hb4; rw [hFl] at this; omega
  have hno : ∀ f ∈ t.funcs, f.name.data.toList ≠ w_one.data.toList := fun f hf => by
    obtain ⟨k, hk, rfl⟩ := List.getElem_of_mem hf
    exact hne k hk (by omega)
  clear hne hi hb4 hge
  obtain ⟨f1, t1, f2, t2, f3, t3, f4, t4, f5, t5, hp2⟩ := hmore h32
  rw [hp2] at hpo htree2
  obtain ⟨toks2, at2, htree2⟩ := htree2 rfl
  have hmc := fun h0 => more_checked htok rfl rfl rfl rfl rfl rfl rfl rfl rfl rfl rfl rfl rfl rfl hno h0 (t := t) (x1 := { kind := 4, name := w_q, fr := f1, to := t1 }) (x2 := { kind := 4, name := w_r, fr := f2, to := t2 }) (y1 := { kind := 1, name := w_r, a := t.exprs.length, fr := f3, to := t3 }) (y2 := { kind := 9, a := t.exprs.length + 1, fr := f4, to := t4 })
    (g := { name := w_one, fr := f5, to := t5, params := [w_q], type := 1, body := [(t.stmts.length : Int), (t.stmts.length : Int) + 1] })
  dsimp only at hpo htree2
  have hul : t.funcs.length + 1 = (Tree.funcs { exprs := t.exprs ++ [{ kind := 4, name := w_q, fr := f1, to := t1 }, { kind := 4, name := w_r, fr := f2, to := t2 }], stmts := t.stmts ++ [{ kind := 1, name := w_r, a := t.exprs.length, fr := f3, to := t3 }, { kind := 9, a := t.exprs.length + 1, fr := f4, to := t4 }], funcs := t.funcs ++ [{ name := w_one, fr := f5, to := t5, params := [w_q], type := 1, body := [(t.stmts.length : Int), (t.stmts.length : Int) + 1] }] }).length := by simp
  generalize (Tree.mk (t.exprs ++ [{ kind := 4, name := w_q, fr := f1, to := t1 }, { kind := 4, name := w_r, fr := f2, to := t2 }]) (t.stmts ++ [{ kind := 1, name := w_r, a := t.exprs.length, fr := f3, to := t3 }, { kind := 9, a := t.exprs.length + 1, fr := f4, to := t4 }]) (t.funcs ++ [{ name := w_one, fr := f5, to := t5, params := [w_q], type := 1, body := [(t.stmts.length : Int), (t.stmts.length : Int) + 1] }])) = u at hpo htree2 hmc hul
  have hck2 := htree2.check
  have hfine2 := htree2.fine
  clear hp2
  refine ACode.exit (ACode.seq (ACode.region ?_))
  refine ASeq.q rfl rfl (QOp.loadM 0 rfl rfl rfl (tok _ rfl) rfl) ?_
  refine ASeq.op rfl rfl (AOp.callP 0 rfl (by kernel_rfl) rfl rfl rfl hck ?_ (by rintro _ _ ⟨⟩))
  rintro _ _ (⟨hbad⟩ | ⟨hgood, m, τ⟩)
  · generalize (checked t).at_ = a at *
    have he : ((checked t).code != 0) = true := bne_iff_ne.2 hbad
    refine ASeq.q rfl rfl (QOp.move rfl rfl) ?_
    refine ASeq.q rfl rfl (QOp.extract rfl rfl rfl) ?_
    refine ASeq.q rfl rfl (QOp.extract rfl rfl rfl) ?_
    refine ASeq.q rfl rfl (QOp.extract rfl rfl rfl) ?_
    refine ASeq.op rfl rfl (AOp.allocP rfl (tok _ rfl) rfl rfl (fun _ => rfl) (fun _ => ?_))
    refine ASeq.op0 rfl rfl (AOp.storeP 1 rfl rfl rfl rfl (tok _ rfl) rfl rfl rfl rfl ?_)
    refine ASeq.q rfl rfl (QOp.assign rfl rfl) ?_
    refine ASeq.q rfl rfl (QOp.assign rfl rfl) ?_
    refine ASeq.nil ?_
    rename_i m8
    refine ACode.seq (ACode.region ?_)
    refine ASeq.q rfl rfl (QOp.move rfl rfl) ?_
    refine ASeq.q rfl rfl (QOp.cat rfl rfl rfl (by assumption)) ?_
    refine ASeq.op rfl rfl (AOp.callP 0 rfl (by kernel_rfl) rfl rfl rfl (hpo) ?_ (by rintro _ _ ⟨⟩))
    rintro _ _ ⟨⟩
    refine ASeq.q rfl rfl (QOp.move rfl rfl) ?_
    refine ASeq.q rfl rfl (QOp.extract rfl rfl rfl) ?_
    refine ASeq.q rfl rfl (QOp.extract rfl rfl rfl) ?_
    refine ASeq.q rfl rfl (QOp.extract rfl rfl rfl) ?_
    refine ASeq.op rfl rfl (AOp.allocP rfl (tok _ rfl) rfl rfl (fun _ => rfl) (fun _ => ?_))
    refine ASeq.op0 rfl rfl (AOp.storeP 2 rfl rfl rfl rfl (tok _ rfl) rfl rfl rfl rfl ?_)
    refine ASeq.q rfl rfl (QOp.assign rfl rfl) ?_
    refine ASeq.q rfl rfl (QOp.assign rfl rfl) ?_
    refine ASeq.nil ?_
    rename_i m11
    refine ACode.seq (ACode.seq (ACode.region ?_))
    refine ASeq.q rfl rfl (QOp.move rfl rfl) ?_
    refine ASeq.q rfl rfl (QOp.cmp rfl rfl rfl rfl) ?_
    refine ASeq.slot 64 rfl (v' := .v (.bool true)) (by rw [he]; exact .refl _) ?_
    refine ASeq.q rfl rfl (QOp.move rfl rfl) ?_
    refine ASeq.gno _ _ rfl rfl rfl rfl rfl ?_
    refine ASeq.gno _ _ rfl rfl rfl rfl rfl ?_
    refine ASeq.q rfl rfl (QOp.pickT rfl rfl rfl) ?_
    refine ASeq.nil ?_
    refine AExit.then_normal ?_
    refine ACode.cond _ rfl (fun hb5 => ?_) (fun hb5 => by cases hb5)
    refine ACode.seq (ACode.region ?_)
    refine ASeq.q rfl rfl (QOp.move rfl rfl) ?_
    refine ASeq.q rfl rfl (QOp.cmp rfl rfl rfl rfl) ?_
    refine ASeq.q rfl rfl (QOp.move rfl rfl) ?_
    refine ASeq.gno _ _ rfl rfl rfl rfl rfl ?_
    refine ASeq.gno _ _ rfl rfl rfl rfl rfl ?_
    refine ASeq.q rfl rfl (QOp.pickT rfl rfl rfl) ?_
    refine ASeq.q rfl rfl (QOp.move rfl rfl) ?_
    refine ASeq.gno _ _ rfl rfl rfl rfl rfl ?_
    refine ASeq.gno _ _ rfl rfl rfl rfl rfl ?_
    refine ASeq.q rfl rfl (QOp.pickT rfl rfl rfl) ?_
    refine ASeq.q rfl rfl (QOp.assign rfl rfl) ?_
    refine ASeq.nil ?_
    refine ACode.ret (AExit.then_ret ?_)
    refine bodyQ_ret 0 (.tmp rfl .nil) rfl ?_
    exact .mk
  obtain ⟨n1, ⟨z1, n2⟩, ⟨z2, n3⟩, ⟨z3, n4⟩, n5⟩ := hmc hgood
  have hf := hfine hgood
  have hf2 := hfine2 n1
  clear hfine hck hfine2 hmc
  generalize checked t = r at *
  have hlt := hf.lt
  have hls := hf.ls
  have hlp := hf.lp
  have hlS := hf.lS
  refine ASeq.q rfl rfl (QOp.move rfl rfl) ?_
  refine ASeq.q rfl rfl (QOp.extract rfl rfl rfl) ?_
  refine ASeq.q rfl rfl (QOp.extract rfl rfl rfl) ?_
  refine ASeq.q rfl rfl (QOp.extract rfl rfl rfl) ?_
  refine ASeq.op rfl rfl (AOp.allocP rfl (tok _ rfl) rfl rfl (fun _ => rfl) (fun _ => ?_))
  refine ASeq.op0 rfl rfl (AOp.storeP 7 rfl rfl rfl rfl (tok _ rfl) rfl rfl rfl rfl ?_)
  refine ASeq.q rfl rfl (QOp.assign rfl rfl) ?_
  refine ASeq.q rfl rfl (QOp.assign rfl rfl) ?_
  refine ASeq.nil ?_
  rename_i m8
  refine ACode.seq (ACode.region ?_)
  refine ASeq.q rfl rfl (QOp.move rfl rfl) ?_
  refine ASeq.q rfl rfl (QOp.cat rfl rfl rfl (by assumption)) ?_
  refine ASeq.op rfl rfl (AOp.callP 0 rfl (by kernel_rfl) rfl rfl rfl (hpo) ?_ (by rintro _ _ ⟨⟩))
  rintro _ _ ⟨⟩
  refine ASeq.q rfl rfl (QOp.move rfl rfl) ?_
  refine ASeq.q rfl rfl (QOp.extract rfl rfl rfl) ?_
  refine ASeq.q rfl rfl (QOp.extract rfl rfl rfl) ?_
  refine ASeq.q rfl rfl (QOp.extract rfl rfl rfl) ?_
  refine ASeq.op rfl rfl (AOp.allocP rfl (tok _ rfl) rfl rfl (fun _ => rfl) (fun _ => ?_))
  refine ASeq.op0 rfl rfl (AOp.storeP 8 rfl rfl rfl rfl (tok _ rfl) rfl rfl rfl rfl ?_)
  refine ASeq.q rfl rfl (QOp.assign rfl rfl) ?_
  refine ASeq.q rfl rfl (QOp.assign rfl rfl) ?_
  refine ASeq.nil ?_
  rename_i m11
  refine ACode.seq (ACode.seq (ACode.region ?_))
  refine ASeq.q rfl rfl (QOp.move rfl rfl) ?_
  refine ASeq.q rfl rfl (QOp.cmp rfl rfl rfl rfl) ?_
  refine ASeq.q rfl rfl (QOp.move rfl rfl) ?_
  refine ASeq.gq _ _ rfl rfl rfl rfl (QOp.move rfl rfl) ?_
  refine ASeq.gq _ _ rfl rfl rfl rfl (QOp.cmp rfl rfl rfl rfl) ?_
  refine ASeq.q rfl rfl (QOp.pickF rfl rfl rfl) ?_
  refine ASeq.nil ?_
  refine AExit.then_normal ?_
  refine ACode.cond _ rfl (fun hb5 => by cases hb5) (fun hb5 => ?_)
  refine ACode.skip (ACode.seq (ACode.region ?_))
  refine ASeq.q rfl rfl (QOp.loadM 8 rfl rfl rfl (tok _ rfl) rfl) ?_
  refine ASeq.op rfl rfl (AOp.callP 0 rfl (by kernel_rfl) rfl rfl rfl hck2 ?_ (by rintro _ _ ⟨⟩))
  rintro _ _ (⟨hbad⟩ | ⟨hgood2, m', τ'⟩)
  · exact absurd n1 hbad
  generalize checked u = y at *
  refine ASeq.q rfl rfl (QOp.move rfl rfl) ?_
  refine ASeq.q rfl rfl (QOp.extract rfl rfl rfl) ?_
  refine ASeq.q rfl rfl (QOp.extract rfl rfl rfl) ?_
  refine ASeq.q rfl rfl (QOp.extract rfl rfl rfl) ?_
  refine ASeq.op rfl rfl (AOp.allocP rfl (tok _ rfl) rfl rfl (fun _ => rfl) (fun _ => ?_))
  refine ASeq.op0 rfl rfl (AOp.storeP 15 rfl rfl rfl rfl (tok _ rfl) rfl rfl rfl rfl ?_)
  refine ASeq.q rfl rfl (QOp.assign rfl rfl) ?_
  refine ASeq.q rfl rfl (QOp.assign rfl rfl) ?_
  refine ASeq.nil ?_
  rename_i m14
  obtain ⟨tk, hslot⟩ := slots_cell hf2 τ' (f := r.slots.length) (by omega)
  have hL : y.slots.getD r.slots.length [] = [1, 1] := by rw [n5]; simp [List.getD_eq_getElem?_getD]
  rw [hL] at hslot
  have hyS : y.slots.length = r.slots.length + 1 := by rw [n5]; simp
  have q1 : ((y.slots.length : Int) != (r.slots.length : Int) + 1) = false := by rw [hyS]; simp
  have hyT : r.type.length ≤ y.type.length := by rw [n2]; simp
  have hySl : r.slot.length ≤ y.slot.length := by rw [n3]; simp
  have hyP : r.put.length ≤ y.put.length := by rw [n4]; simp
  have i0 := ints_sl0 r.type z1 (by omega) m'.mT m'.mS m'.mP m'.mF m'.mL τ' m.mT m.mS m.mP (y.slot.map vi) (r.slot.map vi) (y.put.map vi) (r.put.map vi) (y.func.map vi) (y.slotCells τ')
  have i1 := ints_sl1 r.slot z2 (by omega) m'.mT m'.mS m'.mP m'.mF m'.mL τ' m.mT m.mS m.mP (y.type.map vi) (r.type.map vi) (y.put.map vi) (r.put.map vi) (y.func.map vi) (y.slotCells τ')
  have i2 := ints_sl2 r.put z3 (by omega) m'.mT m'.mS m'.mP m'.mF m'.mL τ' m.mT m.mS m.mP (y.type.map vi) (r.type.map vi) (y.slot.map vi) (r.slot.map vi) (y.func.map vi) (y.slotCells τ')
  rw [← n2] at i0
  rw [← n3] at i1
  rw [← n4] at i2
  refine ACode.seq (ACode.seq (ACode.region ?_))
  refine ASeq.q rfl rfl (QOp.move rfl rfl) ?_
  refine ASeq.q rfl rfl (QOp.cmp rfl rfl rfl rfl) ?_
  refine ASeq.q rfl rfl (QOp.move rfl rfl) ?_
  refine ASeq.gq _ _ rfl rfl rfl rfl (QOp.fieldM rfl rfl (tok _ rfl) rfl rfl (by decide) rfl) ?_
  refine ASeq.gq _ _ rfl rfl rfl rfl (QOp.loadM 15 rfl rfl rfl (tok _ rfl) rfl) ?_
  refine ASeq.gq _ _ rfl rfl rfl rfl (QOp.lenM rfl rfl (tok _ rfl) rfl) ?_
  refine ASeq.gq _ _ rfl rfl rfl rfl (QOp.fieldM rfl rfl (tok _ rfl) rfl rfl (by decide) rfl) ?_
  refine ASeq.gq _ _ rfl rfl rfl rfl (QOp.loadM 13 rfl rfl rfl (tok _ rfl) rfl) ?_
  refine ASeq.gq _ _ rfl rfl rfl rfl (QOp.lenM rfl rfl (tok _ rfl) rfl) ?_
  refine ASeq.gq _ _ rfl rfl rfl rfl (QOp.ar64 rfl rfl rfl rfl ⟨by omega, by omega⟩) ?_
  refine ASeq.gq _ _ rfl rfl rfl rfl (QOp.cmp rfl rfl rfl rfl) ?_
  refine ASeq.slot 95 rfl (v' := .v (.bool false)) (by rw [q1]; exact .refl _) ?_
  refine ASeq.q rfl rfl (QOp.pickF rfl rfl rfl) ?_
  refine ASeq.q rfl rfl (QOp.move rfl rfl) ?_
  refine ASeq.gq _ _ rfl rfl rfl rfl (QOp.fieldM rfl rfl (tok _ rfl) rfl rfl (by decide) rfl) ?_
  refine ASeq.gq _ _ rfl rfl rfl rfl (QOp.loadM 15 rfl rfl rfl (tok _ rfl) rfl) ?_
  refine ASeq.gq _ _ rfl rfl rfl rfl (QOp.fieldM rfl rfl (tok _ rfl) rfl rfl (by decide) rfl) ?_
  refine ASeq.gq _ _ rfl rfl rfl rfl (QOp.loadM 13 rfl rfl rfl (tok _ rfl) rfl) ?_
  refine ASeq.gq _ _ rfl rfl rfl rfl (QOp.lenM rfl rfl (tok _ rfl) rfl) ?_
  refine ASeq.gq _ _ rfl rfl rfl rfl (QOp.indexM rfl rfl rfl (tok _ rfl) rfl (tok _ rfl) (by omega) (by omega) rfl) ?_
  refine ASeq.gq _ _ rfl rfl rfl rfl (QOp.loadAt 4 rfl rfl rfl (tok _ rfl) rfl (by assumption)) ?_
  refine ASeq.gq _ _ rfl rfl rfl rfl (QOp.lenI rfl rfl (tok _ rfl) rfl) ?_
  refine ASeq.gq _ _ rfl rfl rfl rfl (QOp.cmp rfl rfl rfl rfl) ?_
  refine ASeq.q rfl rfl (QOp.pickF rfl rfl rfl) ?_
  refine ASeq.nil ?_
  refine AExit.then_normal ?_
  refine ACode.cond _ rfl (fun hb6 => by cases hb6) (fun hb6 => ?_)
  refine ACode.skip (ACode.seq ?_)
  refine ACode.drawn [[], [0], [], [2], [2, 3], [0, 1, 2, 3, 4], [], [6], [0, 1, 2, 3, 4, 5, 6, 7], [0, 1, 2, 3, 4, 5, 6, 7, 8], [0, 1, 2, 3, 4, 5, 6, 7, 8, 9], [0, 1, 2, 3, 4, 5, 6, 7, 8, 9, 10], [0, 1, 2, 3, 4, 5, 6, 7, 8, 9], [0, 1, 2, 3, 4, 5, 6, 7, 8, 9, 12], [0, 1, 2, 3, 4, 5, 6, 7, 8, 9, 12, 13], [0, 1, 2, 3, 4, 5, 6, 7, 8, 9, 10, 11, 12, 13, 14], [0, 1, 2, 3, 4, 5, 6, 7, 8, 9], [0, 1, 2, 3, 4, 5, 6, 7, 8, 9, 16], [0, 1, 2, 3, 4, 5, 6, 7, 8, 9, 10, 11, 12, 13, 14, 15, 16, 17], [0, 1, 2, 3, 4, 5, 6, 7, 8, 9, 10, 11, 12, 13, 14, 15, 16, 17, 18], [0, 1, 2, 3, 4, 5, 6, 7, 8, 9, 10, 11, 12, 13, 14, 15, 16, 17, 18, 19], [0, 1, 2, 3, 4, 5, 6, 7, 8, 9, 10, 11, 12, 13, 14, 15, 16, 17, 18, 19, 20], [0, 1, 2, 3, 4, 5, 6, 7, 8, 9, 10, 11, 12, 13, 14, 15, 16, 17, 18, 19, 20, 21], [0, 1, 2, 3, 4, 5, 6, 7, 8, 9, 10, 11, 12, 13, 14, 15, 16, 17, 18, 19, 20], [0, 1, 2, 3, 4, 5, 6, 7, 8, 9, 10, 11, 12, 13, 14, 15, 16, 17, 18, 19, 20, 23], [0, 1, 2, 3, 4, 5, 6, 7, 8, 9, 10, 11, 12, 13, 14, 15, 16, 17, 18, 19, 20, 23, 24], [0, 1, 2, 3, 4, 5, 6, 7, 8, 9, 10, 11, 12, 13, 14, 15, 16, 17, 18, 19, 20, 21, 22, 23, 24, 25], [0, 1, 2, 3, 4, 5, 6, 7, 8, 9, 10, 11, 12, 13, 14, 15, 16, 17, 18, 19, 20], [0, 1, 2, 3, 4, 5, 6, 7, 8, 9, 10, 11, 12, 13, 14, 15, 16, 17, 18, 19, 20, 27], [0, 1, 2, 3, 4, 5, 6, 7, 8, 9, 10, 11, 12, 13, 14, 15, 16, 17, 18, 19, 20, 21, 22, 23, 24, 25, 26, 27, 28], [0, 1, 2, 3, 4, 5, 6, 7, 8, 9, 10, 11, 12, 13, 14, 15, 16, 17, 18, 19, 20, 21, 22, 23, 24, 25, 26, 27, 28, 29], [0, 1, 2, 3, 4, 5, 6, 7, 8, 9, 10, 11, 12, 13, 14, 15, 16, 17, 18, 19, 20, 21, 22, 23, 24, 25, 26, 27, 28, 29, 30]] (by kernel_rfl) mixed ?_
  refine DAny.qu 0 rfl rfl (by kernel_rfl) rfl (fun _ => .does _ _ rfl (.none rfl) (QOp.fieldM rfl rfl (tok _ rfl) rfl rfl (by decide) rfl)) ?_
  refine DAny.ld 1 rfl rfl (by kernel_rfl) rfl (.does _ _ rfl (.none rfl) (QOp.loadM 15 rfl rfl rfl (tok _ rfl) rfl)) ?_
  refine DAny.qu 2 rfl rfl (by kernel_rfl) rfl (fun _ => .does _ _ rfl (.none rfl) (QOp.fieldM rfl rfl (tok _ rfl) rfl rfl (by decide) rfl)) ?_
  refine DAny.ld 3 rfl rfl (by kernel_rfl) rfl (.does _ _ rfl (.none rfl) (QOp.loadM 13 rfl rfl rfl (tok _ rfl) rfl)) ?_
  refine DAny.qu 4 rfl rfl (by kernel_rfl) rfl (fun _ => .does _ _ rfl (.none rfl) (QOp.lenM rfl rfl (tok _ rfl) rfl)) ?_
  refine DAny.qu 5 rfl rfl (by kernel_rfl) rfl (fun _ => .does _ _ rfl (.none rfl) (QOp.cutM rfl rfl rfl (tok _ rfl) rfl (tok _ rfl) (by omega) (by omega))) ?_
  refine DAny.qu 6 rfl rfl (by kernel_rfl) rfl (fun _ => .does _ _ rfl (.none rfl) (QOp.fieldM rfl rfl (tok _ rfl) rfl rfl (by decide) rfl)) ?_
  refine DAny.ld 7 rfl rfl (by kernel_rfl) rfl (.does _ _ rfl (.none rfl) (QOp.loadM 13 rfl rfl rfl (tok _ rfl) rfl)) ?_
  refine DAny.ef 8 rfl (by kernel_rfl) (.none rfl) rfl rfl (AOp.callP 9 rfl (by kernel_rfl) rfl rfl rfl (i0) ?_ (by rintro _ _ ⟨⟩))
  rintro _ _ ⟨⟩
  refine ⟨(by ((exact AllQ.nil))), ?_⟩
  refine DAny.qu 9 rfl rfl (by kernel_rfl) rfl (fun _ => .does _ _ rfl (.none rfl) (QOp.move rfl rfl)) ?_
  refine DAny.qu 10 rfl rfl (by kernel_rfl) rfl (fun _ => .does _ _ rfl (by exact .yes _ _ _ rfl rfl rfl) (QOp.fieldM rfl rfl (tok _ rfl) rfl rfl (by decide) rfl)) ?_
  refine DAny.ld 11 rfl rfl (by kernel_rfl) rfl (.does _ _ rfl (by exact .yes _ _ _ rfl rfl rfl) (QOp.loadM 15 rfl rfl rfl (tok _ rfl) rfl)) ?_
  refine DAny.qu 12 rfl rfl (by kernel_rfl) rfl (fun _ => .does _ _ rfl (by exact .yes _ _ _ rfl rfl rfl) (QOp.fieldM rfl rfl (tok _ rfl) rfl rfl (by decide) rfl)) ?_
  refine DAny.ld 13 rfl rfl (by kernel_rfl) rfl (.does _ _ rfl (by exact .yes _ _ _ rfl rfl rfl) (QOp.loadM 13 rfl rfl rfl (tok _ rfl) rfl)) ?_
  refine DAny.qu 14 rfl rfl (by kernel_rfl) rfl (fun _ => .does _ _ rfl (by exact .yes _ _ _ rfl rfl rfl) (QOp.lenM rfl rfl (tok _ rfl) rfl)) ?_
  refine DAny.qu 15 rfl rfl (by kernel_rfl) rfl (fun _ => .does _ _ rfl (by exact .yes _ _ _ rfl rfl rfl) (QOp.cutM rfl rfl rfl (tok _ rfl) rfl (tok _ rfl) (by omega) (by omega))) ?_
  refine DAny.qu 16 rfl rfl (by kernel_rfl) rfl (fun _ => .does _ _ rfl (by exact .yes _ _ _ rfl rfl rfl) (QOp.fieldM rfl rfl (tok _ rfl) rfl rfl (by decide) rfl)) ?_
  refine DAny.ld 17 rfl rfl (by kernel_rfl) rfl (.does _ _ rfl (by exact .yes _ _ _ rfl rfl rfl) (QOp.loadM 13 rfl rfl rfl (tok _ rfl) rfl)) ?_
  refine DAny.ef 18 rfl (by kernel_rfl) (by exact .yes _ _ _ rfl rfl rfl) rfl rfl (AOp.callP 9 rfl (by kernel_rfl) rfl rfl rfl (i1) ?_ (by rintro _ _ ⟨⟩))
  rintro _ _ ⟨⟩
  refine ⟨(by ((exact AllQ.nil))), ?_⟩
  refine DAny.qu 19 rfl rfl (by kernel_rfl) rfl (fun _ => .does _ _ rfl (.none rfl) (QOp.pickT rfl rfl rfl)) ?_
  refine DAny.qu 20 rfl rfl (by kernel_rfl) rfl (fun _ => .does _ _ rfl (.none rfl) (QOp.move rfl rfl)) ?_
  refine DAny.qu 21 rfl rfl (by kernel_rfl) rfl (fun _ => .does _ _ rfl (by exact .yes _ _ _ rfl rfl rfl) (QOp.fieldM rfl rfl (tok _ rfl) rfl rfl (by decide) rfl)) ?_
  refine DAny.ld 22 rfl rfl (by kernel_rfl) rfl (.does _ _ rfl (by exact .yes _ _ _ rfl rfl rfl) (QOp.loadM 15 rfl rfl rfl (tok _ rfl) rfl)) ?_
  refine DAny.qu 23 rfl rfl (by kernel_rfl) rfl (fun _ => .does _ _ rfl (by exact .yes _ _ _ rfl rfl rfl) (QOp.fieldM rfl rfl (tok _ rfl) rfl rfl (by decide) rfl)) ?_
  refine DAny.ld 24 rfl rfl (by kernel_rfl) rfl (.does _ _ rfl (by exact .yes _ _ _ rfl rfl rfl) (QOp.loadM 13 rfl rfl rfl (tok _ rfl) rfl)) ?_
  refine DAny.qu 25 rfl rfl (by kernel_rfl) rfl (fun _ => .does _ _ rfl (by exact .yes _ _ _ rfl rfl rfl) (QOp.lenM rfl rfl (tok _ rfl) rfl)) ?_
  refine DAny.qu 26 rfl rfl (by kernel_rfl) rfl (fun _ => .does _ _ rfl (by exact .yes _ _ _ rfl rfl rfl) (QOp.cutM rfl rfl rfl (tok _ rfl) rfl (tok _ rfl) (by omega) (by omega))) ?_
  refine DAny.qu 27 rfl rfl (by kernel_rfl) rfl (fun _ => .does _ _ rfl (by exact .yes _ _ _ rfl rfl rfl) (QOp.fieldM rfl rfl (tok _ rfl) rfl rfl (by decide) rfl)) ?_
  refine DAny.ld 28 rfl rfl (by kernel_rfl) rfl (.does _ _ rfl (by exact .yes _ _ _ rfl rfl rfl) (QOp.loadM 13 rfl rfl rfl (tok _ rfl) rfl)) ?_
  refine DAny.ef 29 rfl (by kernel_rfl) (by exact .yes _ _ _ rfl rfl rfl) rfl rfl (AOp.callP 9 rfl (by kernel_rfl) rfl rfl rfl (i2) ?_ (by rintro _ _ ⟨⟩))
  rintro _ _ ⟨⟩
  refine ⟨(by ((exact AllQ.nil))), ?_⟩
  refine DAny.qu 30 rfl rfl (by kernel_rfl) rfl (fun _ => .does _ _ rfl (.none rfl) (QOp.pickT rfl rfl rfl)) ?_
  refine DAny.ef 31 rfl (by kernel_rfl) (.none rfl) rfl rfl (.q (QOp.assign rfl rfl) ⟨(by ((exact AllQ.nil))), ?_⟩)
  refine DAny.done (by kernel_rfl) ?_
  refine ACode.ret ?_
  refine bodyQ_ret 0 (.tmp rfl .nil) rfl ?_
  exact .mk
end Go.Proofs.Ytaadamobapnfbaa
