/- Own texts, put together by a program: U0 U1 U2 Th V0 V3 V4 V5 V6 V8 X0 X1 Y0 W0 W1 Z0 Z1 Z2 Z3 W2 Al W3 W4. -/
import Derived.Shelf.Bits.Mul64
import Derived.Test.YtaadamobapnfbaaProg
import Derived.Laws.BytesString
import Derived.Test.YtaadamobapnfbaaKn5
set_option linter.unusedVariables false
namespace Go.Proofs
open Go.Shelf
def Try.lays212_ren : Go.Shelf.Ren := ⟨fun | 212 => 81 | 263 => 102 | 264 => 103 | n => n, fun | 46 => 139 | 51 => 165 | 53 => 167 | 146 => 171 | 148 => 173 | n => n, fun | n => n⟩
theorem Try.lays212 : Go.Proofs.Lays.n212 Try.prog Try.lays212_ren := {
  mixed := by kernel_rfl
  f212 := Try.func81.trans (congrArg some (by kernel_rfl))
  f263 := Try.func102.trans (congrArg some (by kernel_rfl))
  f264 := Try.func103.trans (congrArg some (by kernel_rfl))
  t46 := by kernel_rfl
  a46 := fun w => by kernel_rfl
  z46 := fun w => by kernel_rfl
  v46 := fun w => by kernel_rfl
  t51 := by kernel_rfl
  a51 := fun w => by kernel_rfl
  z51 := fun w => by kernel_rfl
  v51 := fun w => by kernel_rfl
  t53 := by kernel_rfl
  a53 := fun w => by kernel_rfl
  z53 := fun w => by kernel_rfl
  v53 := fun w => by kernel_rfl
  t146 := by kernel_rfl
  a146 := fun w => by kernel_rfl
  z146 := fun w => by kernel_rfl
  v146 := fun w => by kernel_rfl
  t148 := by kernel_rfl
  a148 := fun w => by kernel_rfl
  z148 := fun w => by kernel_rfl
  v148 := fun w => by kernel_rfl }
end Go.Proofs
namespace Go.Proofs.Ytaadamobapnfbaa
open Go Go.Abs
theorem mul81 (n : Nat) (hn : n < 18446744073709551616) : ACalls Try.prog 81 [.v (.int .u64 1), .v (.int .u64 n)] [] (RV (.tup [.v (.int .u64 0), .v (.int .u64 n)]) []) := by
  intro G W cargs hO hR
  obtain ⟨c1, h1, r1⟩ := hR.2 0 _ rfl
  obtain ⟨c2, h2, r2⟩ := hR.2 1 _ rfl
  have e1 := r1.v_inv
  have e2 := r2.v_inv
  subst e1; subst e2
  have hc : cargs = #[.int .u64 1, .int .u64 n] := by
    have hs := hR.1
    apply Array.ext'
    apply List.ext_getElem?
    intro i
    match i with
    | 0 => simpa using h1
    | 1 => simpa using h2
    | i + 2 => simp at hs; simp; omega
  subst hc
  have := Any.bits_Mul Try.lays212 1 n (by decide) hn W
  rw [Nat.one_mul, Nat.div_eq_of_lt hn, Nat.mod_eq_of_lt hn] at this
  refine this.mono ?_
  rintro e w ⟨rfl, rfl⟩
  refine ⟨G, [], _, .refl G [] w, hO, ?_, .mk⟩
  refine Reps.tup ⟨rfl, fun i x hx => ?_⟩
  match i, hx with
  | 0, hx => injection hx with hx; subst hx; exact ⟨_, rfl, .v⟩
  | 1, hx => injection hx with hx; subst hx; exact ⟨_, rfl, .v⟩
end Go.Proofs.Ytaadamobapnfbaa
set_option linter.unusedVariables false
set_option linter.unusedSimpArgs false
set_option maxRecDepth 100000
namespace Go.Proofs.Ytaadamobapnfbaa
open Go Go.Abs
theorem tok139 : TOK Try.prog 139 ⟨1, 8, [.int .u64 0], .int .u64⟩ := ⟨by kernel_rfl, by kernel_rfl⟩
theorem splice_rep {α : Type} (a b : α) (k d n : Nat) (h : k + d ≤ n) : spliceO k (List.replicate d a) (List.replicate k a ++ List.replicate (n - k) b) = some (List.replicate (k + d) a ++ List.replicate (n - (k + d)) b) := by
  have e : List.replicate (n - k) b = List.replicate d b ++ List.replicate (n - (k + d)) b := by rw [List.replicate_append_replicate]; congr 1; omega
  have := splice_append (List.replicate k a) (List.replicate d a) (List.replicate d b) (List.replicate (n - (k + d)) b) (by simp)
  rw [List.length_replicate, List.append_assoc, ← e, List.replicate_append_replicate] at this
  exact this
theorem flat_rep {α : Type} (x : α) : ∀ n, (List.replicate n [x]).flatten = List.replicate n x
  | 0 => rfl
  | n + 1 => by rw [List.replicate_succ, List.flatten_cons, flat_rep x n]; rfl
inductive RRep (n : Nat) : AOut → List Abs.Item → Prop
  | mk (m : Nat) : RRep n (.ret (.sl 1 m 0 n)) [.mu m (List.replicate n (vi (-1)))]
theorem RRep.of {n m : Nat} {cells : List AV} (h : cells = List.replicate n (vi (-1))) : RRep n (.ret (.sl 1 m 0 n)) [.mu m cells] := by subst h; exact .mk m
theorem repeat60 (n : Nat) (hn : n ≤ 1048576) (tk : Option Nat) : ACalls Try.prog 60 [.il 1 tk [[vi (-1)]], vi n] [] (RRep n) := by
  have hw : IntKind.u64.wrap (n : Int) = n := by rw [IntKind.wrap_u64]; omega
  have hw2 : IntKind.i64.wrap (n : Int) = n := IntWalk.i64_in n ⟨by omega, by omega⟩
  refine ACalls.of_code (c := _) Try.func60 rfl Try.ntmps60 (Nat.le_of_ble_eq_true rfl) ?_
  refine ACode.seq (ACode.region ?_)
  refine ASeq.q rfl rfl (QOp.assign rfl rfl) ?_
  refine ASeq.nil ?_
  refine ACode.seq (ACode.seq (ACode.region ?_))
  refine ASeq.q rfl rfl (QOp.move rfl rfl) ?_
  refine ASeq.q rfl rfl (QOp.cmp rfl rfl rfl rfl) ?_
  refine ASeq.nil ?_
  refine AExit.then_normal ?_
  refine ACode.cond _ rfl (fun hb => by have := of_decide_eq_true hb; omega) (fun _ => ?_)
  refine ACode.skip (ACode.seq (ACode.region ?_))
  refine ASeq.q rfl rfl (QOp.move rfl rfl) ?_
  refine ASeq.q rfl rfl (QOp.lenI rfl rfl (tok _ rfl) rfl) ?_
  refine ASeq.q rfl rfl (QOp.conv (m := 1) rfl rfl tok139 rfl (tok _ rfl) (by decide)) ?_
  refine ASeq.q rfl rfl (QOp.move rfl rfl) ?_
  refine ASeq.q rfl rfl (QOp.conv rfl rfl tok139 rfl (tok _ rfl) hw) ?_
  refine ASeq.op rfl rfl (AOp.callP 0 rfl (by kernel_rfl) rfl rfl rfl (mul81 n (by omega)) ?_ (by rintro _ _ ⟨⟩))
  rintro _ _ ⟨⟩
  refine ASeq.q rfl rfl (QOp.move rfl rfl) ?_
  refine ASeq.q rfl rfl (QOp.extract rfl rfl rfl) ?_
  refine ASeq.q rfl rfl (QOp.extract rfl rfl rfl) ?_
  refine ASeq.q rfl rfl (QOp.assign rfl rfl) ?_
  refine ASeq.q rfl rfl (QOp.assign rfl rfl) ?_
  refine ASeq.nil ?_
  refine ACode.seq (ACode.seq (ACode.region ?_))
  refine ASeq.q rfl rfl (QOp.move rfl rfl) ?_
  refine ASeq.q rfl rfl (QOp.cmp rfl rfl rfl rfl) ?_
  refine ASeq.q rfl rfl (QOp.move rfl rfl) ?_
  refine ASeq.gq _ _ rfl rfl rfl rfl (QOp.move rfl rfl) ?_
  refine ASeq.gq _ _ rfl rfl rfl rfl (QOp.cmp rfl rfl rfl rfl) ?_
  refine ASeq.q rfl rfl (QOp.pickF rfl rfl rfl) ?_
  refine ASeq.nil ?_
  refine AExit.then_normal ?_
  refine ACode.cond _ rfl (fun hb => by have := of_decide_eq_true hb; omega) (fun _ => ?_)
  refine ACode.skip (ACode.seq (ACode.region ?_))
  refine ASeq.q rfl rfl (QOp.move rfl rfl) ?_
  refine ASeq.q rfl rfl (QOp.conv rfl rfl (tok _ rfl) rfl tok139 hw2) ?_
  refine ASeq.op rfl rfl (AOp.makeP (n := n) rfl rfl rfl (tok _ rfl) rfl (tok _ rfl) (by decide) rfl rfl (fun _ => rfl) (by omega) rfl (fun m => ?_))
  have hz : (List.replicate n ((TT 3).zero.map AV.v)).flatten = List.replicate n (vi 0) := flat_rep _ n
  rw [hz]
  refine ASeq.q rfl rfl (QOp.assign rfl rfl) ?_
  refine ASeq.nil ?_
  refine ACode.seq (ACode.region ?_)
  refine ASeq.q rfl rfl (QOp.move rfl rfl) ?_
  refine ASeq.q rfl rfl (QOp.move rfl rfl) ?_
  have hs0 : spliceO 0 (([[vi (-1)]] : List (List AV)).flatten.take (Nat.min 1 n)) (List.replicate n (vi 0)) = some (List.replicate (Nat.min 1 n) (vi (-1)) ++ List.replicate (n - Nat.min 1 n) (vi 0)) := by
    have := splice_rep (vi (-1)) (vi 0) 0 (Nat.min 1 n) n (by rw [Nat.zero_add]; exact Nat.min_le_right 1 n)
    rw [Nat.zero_add] at this
    have e : ([[vi (-1)]] : List (List AV)).flatten.take (Nat.min 1 n) = List.replicate (Nat.min 1 n) (vi (-1)) := by
      rcases n with _ | n
      · rfl
      · rw [show Nat.min 1 (n + 1) = 1 from Nat.min_eq_left (by omega)]; rfl
    rw [e]; simpa using this
  have hnl : (([[vi (-1)]] : List (List AV)).flatten.take (Nat.min 1 n)).length = Nat.min 1 n := by
    rw [List.length_take]; exact Nat.min_eq_left (Nat.min_le_left 1 n)
  refine ASeq.op rfl rfl (AOp.copy1 [] [] (sl := 1) (n := Nat.min 1 n) rfl rfl rfl rfl (tok _ rfl) rfl (tok _ rfl) rfl (fun G W c hO h => by
    obtain ⟨a, sc, e, hh⟩ := copy_il (n := Nat.min 1 n) hO h
    exact ⟨a, sc, e, fun hp => hh hp (by decide)⟩) rfl hnl hs0 ?_)
  refine ASeq.q rfl rfl (QOp.assign rfl rfl) ?_
  refine ASeq.nil ?_
  refine ACode.seq (ACode.block ?_)
  refine ACode.loopP (fun (k : Nat) => [(7, .sl 1 m 0 n), (8, vi k)]) (fun k => [.mu m (List.replicate k (vi (-1)) ++ List.replicate (n - k) (vi 0))]) (fun k => n - k) (fun k => k ≤ n ∧ (0 < n → 0 < k)) (Nat.min 1 n) ⟨Nat.min_le_right _ _, fun h => by rw [show Nat.min 1 n = 1 from Nat.min_eq_left (by omega)]; decide⟩
    (.cons rfl (.cons rfl .nil)) 1 rfl ?_
  rintro k ⟨hk, hk0⟩
  refine ACode.seq (ACode.seq (ACode.region ?_))
  refine ASeq.q rfl rfl (QOp.move rfl rfl) ?_
  refine ASeq.q rfl rfl (QOp.move rfl rfl) ?_
  refine ASeq.q rfl rfl (QOp.lenM rfl rfl (tok _ rfl) rfl) ?_
  refine ASeq.q rfl rfl (QOp.cmp rfl rfl rfl rfl) ?_
  refine ASeq.nil ?_
  refine ACode.cond _ rfl (fun hb => ?_) (fun hb => ?_)
  · have hlt : k < n := by have := of_decide_eq_true hb; omega
    have hkp := hk0 (by omega)
    obtain ⟨d, hd⟩ : ∃ d, d = Nat.min k (n - k) := ⟨_, rfl⟩
    have hmin1 : d ≤ k := by rw [hd]; exact Nat.min_le_left k (n - k)
    have hmin2 : d ≤ n - k := by rw [hd]; exact Nat.min_le_right k (n - k)
    have hminp : 0 < d := by rw [hd]; exact Nat.lt_min.2 ⟨hkp, by omega⟩
    have hs1 : spliceO (0 + ((k : Int)).toNat) (((List.replicate k (vi (-1)) ++ List.replicate (n - k) (vi 0)).drop 0).take d) (List.replicate k (vi (-1)) ++ List.replicate (n - k) (vi 0)) = some (List.replicate (k + d) (vi (-1)) ++ List.replicate (n - (k + d)) (vi 0)) := by
      have := splice_rep (vi (-1)) (vi 0) k d n (by omega)
      rw [List.drop_zero, List.take_append_of_le_length (by rw [List.length_replicate]; exact hmin1), List.take_replicate, Nat.min_eq_left hmin1, Int.toNat_natCast, Nat.zero_add]
      exact this
    have hnl : (((List.replicate k (vi (-1)) ++ List.replicate (n - k) (vi 0)).drop 0).take d).length = d := by
      rw [List.length_take, List.drop_zero, List.length_append, List.length_replicate]; exact Nat.min_eq_left (Nat.le_trans hmin1 (Nat.le_add_right _ _))
    refine ACode.skip (ACode.block ?_)
    refine ACode.drawn [[], [], [], [1, 2], [], [], [4, 5], [1, 2, 3, 4, 5, 6], [0, 1, 2, 3, 4, 5, 6, 7], [0, 1, 2, 3, 4, 5, 6, 7, 8]] (by kernel_rfl) mixed ?_
    refine DAny.qu 0 rfl rfl (by kernel_rfl) rfl (fun _ => .does _ _ rfl (.none rfl) (QOp.move rfl rfl)) ?_
    refine DAny.qu 1 rfl rfl (by kernel_rfl) rfl (fun _ => .does _ _ rfl (.none rfl) (QOp.move rfl rfl)) ?_
    refine DAny.qu 2 rfl rfl (by kernel_rfl) rfl (fun _ => .does _ _ rfl (.none rfl) (QOp.move rfl rfl)) ?_
    refine DAny.qu 3 rfl rfl (by kernel_rfl) rfl (fun _ => .does _ _ rfl (.none rfl) (QOp.cutLoM rfl rfl rfl (tok _ rfl) rfl (tok _ rfl) rfl (by omega) (by omega))) ?_
    refine DAny.qu 4 rfl rfl (by kernel_rfl) rfl (fun _ => .does _ _ rfl (.none rfl) (QOp.move rfl rfl)) ?_
    refine DAny.qu 5 rfl rfl (by kernel_rfl) rfl (fun _ => .does _ _ rfl (.none rfl) (QOp.move rfl rfl)) ?_
    refine DAny.qu 6 rfl rfl (by kernel_rfl) rfl (fun _ => .does _ _ rfl (.none rfl) (QOp.cutM rfl rfl rfl (tok _ rfl) rfl (tok _ rfl) (by omega) (by omega))) ?_
    -- STOP at effect 7 Go.Op.call { callee := Go.Callee.builtin Go.Builtin.copy, ar (listed 0,1,2,3,4,5,6)
    refine DAny.ef 7 rfl (by kernel_rfl) (.none rfl) rfl rfl (AOp.copy1 [] [] (sl := k) (n := d) rfl rfl rfl rfl (tok _ rfl) rfl (tok _ rfl) rfl (fun G W c hO h => by
      obtain ⟨a, sc, e, hh⟩ := copy_sl (n := d) hO (List.mem_singleton.2 rfl) h
      exact ⟨a, sc, e, fun hp => hh hp (by rw [Int.toNat_natCast]; exact hkp)⟩) (by rw [Int.toNat_natCast]; exact hd) hnl hs1 ⟨(by ((exact AllQ.nil))), ?_⟩)
    refine DAny.qu 8 rfl rfl (by kernel_rfl) rfl (fun _ => .does _ _ rfl (.none rfl) (QOp.ar64 rfl rfl rfl rfl ⟨by omega, by omega⟩)) ?_
    refine DAny.ef 9 rfl (by kernel_rfl) (.none rfl) rfl rfl (.q (QOp.assign rfl rfl) ⟨(by ((exact AllQ.nil))), ?_⟩)
    refine DAny.done (by kernel_rfl) ?_
    refine AExit.in_normal (AExit.then_normal ?_)
    refine ⟨k + d, 1, ⟨by omega, fun _ => by omega⟩, by show n - (k + d) < n - k; omega, ?_, rfl⟩
    exact .cons rfl (.consE rfl (by rw [Int.natCast_add]; rfl) .nil)
  · have hge : k = n := by have := of_decide_eq_false hb; omega
    subst hge
    refine ACode.exit (ACode.seq (ACode.region ?_))
    refine ASeq.q rfl rfl (QOp.move rfl rfl) ?_
    refine ASeq.q rfl rfl (QOp.assign rfl rfl) ?_
    refine ASeq.nil ?_
    refine ACode.ret ?_
    refine bodyQ_ret 1 (.tmp rfl .nil) rfl ?_
    exact RRep.of (by rw [Nat.sub_self]; simp)
end Go.Proofs.Ytaadamobapnfbaa
set_option linter.unusedVariables false
set_option linter.unusedSimpArgs false
set_option maxRecDepth 100000
namespace Go.Proofs.Ytaadamobapnfbaa
open Go Go.Abs
theorem none38 (n : Nat) (hn : n ≤ 1048576) : ACalls Try.prog 38 [vi n] [] (RRep n) := by
  refine ACalls.of_code (c := _) Try.func38 rfl Try.ntmps38 (Nat.le_of_ble_eq_true rfl) ?_
  repeat (first | (refine ACode.seq ?_) | (refine ACode.region ?_) | (refine ACode.ret ?_) | (refine ACode.skip ?_) | (refine ACode.exit ?_) | (refine ACode.block ?_) | (refine AExit.then_normal ?_) | (refine AExit.then_ret ?_) | (refine AExit.then_exit ?_) | (refine AExit.in_normal ?_) | (refine AExit.in_ret ?_) | (refine AExit.in_same ?_) | (refine AExit.in_other rfl ?_) | (refine ASeq.nil ?_))
  refine ASeq.q rfl rfl (QOp.assign rfl rfl) ?_
  refine ASeq.nil ?_
  repeat (first | (refine ACode.seq ?_) | (refine ACode.region ?_) | (refine ACode.ret ?_) | (refine ACode.skip ?_) | (refine ACode.exit ?_) | (refine ACode.block ?_) | (refine AExit.then_normal ?_) | (refine AExit.then_ret ?_) | (refine AExit.then_exit ?_) | (refine AExit.in_normal ?_) | (refine AExit.in_ret ?_) | (refine AExit.in_same ?_) | (refine AExit.in_other rfl ?_) | (refine ASeq.nil ?_))
  refine ASeq.op rfl rfl (AOp.buildSliceR rfl (tok _ rfl) rfl (tok _ rfl) (by decide) rfl (by decide) rfl rfl rfl rfl ?_)
  refine ASeq.q rfl rfl (QOp.move rfl rfl) ?_
  refine ASeq.op rfl rfl (AOp.callP 0 rfl (by kernel_rfl) rfl rfl rfl (repeat60 n hn none) ?_ (by rintro _ _ ⟨⟩))
  rintro _ _ ⟨m⟩
  refine ASeq.q rfl rfl (QOp.assign rfl rfl) ?_
  refine ASeq.nil ?_
  repeat (first | (refine ACode.seq ?_) | (refine ACode.region ?_) | (refine ACode.ret ?_) | (refine ACode.skip ?_) | (refine ACode.exit ?_) | (refine ACode.block ?_) | (refine AExit.then_normal ?_) | (refine AExit.then_ret ?_) | (refine AExit.then_exit ?_) | (refine AExit.in_normal ?_) | (refine AExit.in_ret ?_) | (refine AExit.in_same ?_) | (refine AExit.in_other rfl ?_) | (refine ASeq.nil ?_))
  refine bodyQ_ret 1 (.tmp rfl .nil) rfl ?_
  exact .mk m
end Go.Proofs.Ytaadamobapnfbaa
set_option linter.unusedVariables false
set_option linter.unusedSimpArgs false
set_option maxRecDepth 100000
namespace Go.Proofs.Ytaadamobapnfbaa
open Go Go.Abs
theorem cstmts : ∀ n, CCk n
  | 0 => fun c k z i hz ho h0 hp hw hw2 hi0 hi1 hin => absurd hin (by omega)
  | n + 1 => cstmt_ok n (cstmts n)
theorem Stk.pars (fr : Int) : ∀ (l : List ByteArray) (c : CS), Stk c (parsOf fr l c)
  | [], c => .refl c
  | p :: l, c => by
    have h1 : Stk c (if c.code = 0 then (c.decl p 1 fr).1 else c) := by
      split
      · exact .decl _ _ _ _
      · exact .refl _
    exact h1.trans (Stk.pars fr l _)
theorem Stk.body : ∀ (l : List Int) (c : CS), Stk c (bodyOf l c)
  | [], c => .refl c
  | k :: l, c => (Stk.stm6 _ _ _).trans (Stk.body l _)
theorem Stk.funs : ∀ (i : Nat) (l : List Fu) (c : CS), Stk c (funs i l c)
  | i, [], c => .refl c
  | i, g :: l, c => by
    have h1 : Stk c { c with f := i, names := [], block := 0 } := fun _ => ⟨rfl, rfl⟩
    exact ((h1.trans (Stk.pars _ _ _)).trans (Stk.body _ _)).trans (Stk.funs (i + 1) l _)
theorem check_bad {t : Tree} {mI mA mE : Nat} {env : Env} {R : List Abs.Item} {cI : List AV} {a0 e0 : AV} {d : CS} (hI : cI.length = 5) (h2 : ev 95 env (.tmp 2) = some (.mp mI 0)) (h3 : ev 95 env (.tmp 3) = some (.mp mA 0)) (h4 : ev 95 env (.tmp 4) = some (.mp mE 0))
    (hsub : [Abs.Item.mu mI cI, .mu mA [a0], .mu mE [e0]].Sublist R) (hst : Stk d (checked t)) (hc : d.code ≠ 0) :
    dQ Try.prog 95 [.cell 2 56, .cell 3 3, .cell 4 57] 39 [.mp mI 0, .mp mA 0, .mp mE 0] (RK t) (.panic (wrongV d.at_ d.code)) env R := by
  obtain ⟨e1, e2⟩ := hst hc
  refine ADefer.sub R (List.Perm.refl _) hsub (catch_some mI mA mE cI hI a0 e0 _ _ _ fun it => ?_)
  refine ⟨_, _, [], .cell 0 h2 rfl (tok _ rfl) rfl (.cell 1 h3 rfl (tok _ rfl) rfl (.cell 2 h4 rfl (tok _ rfl) rfl .nil)), List.Perm.refl _, List.nil_sublist _, ?_⟩
  have := RK.bad (t := t) (by rw [e1]; exact hc)
  rw [e1, e2] at this
  exact this
theorem ckz_enter (c : CS) (i mZ τ τz : Nat) : Ckz (c.enter i) { mZ := mZ, τ := τ, τz := τz, zs := [], top := [] } := by
  refine ⟨rfl, rfl, ?_, ?_, ?_, Nat.zero_le _⟩
  · intro n hn; simp at hn
  · intro n hn; simp at hn
  · intro l hl
    have : l = [] := by simpa [Zt.all] using hl
    subst this; exact List.Pairwise.nil
def ckHead (c : CS) (k : Mk) (τ mI mA mE : Nat) : List Abs.Item :=
  [.mu k.mC (ckCellsS c k .any), .mu k.mT (c.type.map vi), .mu k.mS (c.slot.map vi), .mu k.mP (c.put.map vi), .mu k.mF (c.func.map vi), .mu k.mL (c.slotCells τ), .tk τ, .mu mI [nilv, nilv, nilv, nilv, nilv], .mu mA [vi 0], .mu mE [vi 0]]
set_option maxHeartbeats 16000000 in
theorem check24_ok (t : Tree) (h : TreeOk t) (hx : TreeX t) (hsl : t.stmts.length ≤ 1000000) : ACalls Try.prog 24 [.agg t.cells] [] (RK t) := by
  have hEl : (t.exprs.map Ex.cells).length = t.exprs.length := List.length_map ..
  have hSl : (t.stmts.map St.cells).length = t.stmts.length := List.length_map ..
  have hFl : (t.funcs.map Fu.cells).length = t.funcs.length := List.length_map ..
  have hbig := h.big
  refine ACalls.of_codeD (c := _) Try.func24 rfl Try.ntmps24 (Nat.le_of_ble_eq_true rfl) ?_
  refine ZCode.seq ?_
  refine ACode.region ?_
  refine ASeq.op rfl rfl (AOp.boxI rfl rfl rfl ?_)
  refine ASeq.op rfl rfl (AOp.allocP rfl (tok _ rfl) rfl rfl (fun _ => rfl) (fun _ => ?_))
  refine ASeq.op rfl rfl (AOp.allocP rfl (tok _ rfl) rfl rfl (fun _ => rfl) (fun _ => ?_))
  refine ASeq.op rfl rfl (AOp.allocP rfl (tok _ rfl) rfl rfl (fun _ => rfl) (fun _ => ?_))
  refine ASeq.nil ?_
  refine ⟨rfl, ?_⟩
  rename_i mI mA mE
  refine ZCode.seq ?_
  refine ACode.drawn [[], [], [1], [1, 2], [1, 2, 3], [], [5], [5, 6], [5, 6, 7], [], [9], [9, 10], [5, 6, 7, 8, 9, 10, 11], [], [13], [13, 14], [13, 14, 15], [], [17], [17, 18], [17, 18, 19], [1, 2, 3, 4, 5, 6, 7, 8, 9, 10, 11, 12, 13, 14, 15, 16, 17, 18, 19, 20], [0, 1, 2, 3, 4, 5, 6, 7, 8, 9, 10, 11, 12, 13, 14, 15, 16, 17, 18, 19, 20, 21], [0, 1, 2, 3, 4, 5, 6, 7, 8, 9, 10, 11, 12, 13, 14, 15, 16, 17, 18, 19, 20, 21, 22], [0, 1, 2, 3, 4, 5, 6, 7, 8, 9, 10, 11, 12, 13, 14, 15, 16, 17, 18, 19, 20, 21, 22, 23]] (by kernel_rfl) mixed ?_
  refine DAny.qu 0 rfl rfl (by kernel_rfl) rfl (fun _ => .does _ _ rfl (.none rfl) (QOp.loadI rfl rfl (tok _ rfl) rfl)) ?_
  refine DAny.qu 1 rfl rfl (by kernel_rfl) rfl (fun _ => .does _ _ rfl (.none rfl) (QOp.fieldI rfl rfl (tok _ rfl) rfl rfl (by decide) rfl)) ?_
  refine DAny.qu 2 rfl rfl (by kernel_rfl) rfl (fun _ => .does _ _ rfl (.none rfl) (QOp.loadI rfl rfl (tok _ rfl) rfl)) ?_
  refine DAny.qu 3 rfl rfl (by kernel_rfl) rfl (fun _ => .does _ _ rfl (.none rfl) (QOp.lenI rfl rfl (tok _ rfl) rfl)) ?_
  refine DAny.qu 5 rfl rfl (by kernel_rfl) rfl (fun _ => .does _ _ rfl (.none rfl) (QOp.fieldI rfl rfl (tok _ rfl) rfl rfl (by decide) rfl)) ?_
  refine DAny.qu 6 rfl rfl (by kernel_rfl) rfl (fun _ => .does _ _ rfl (.none rfl) (QOp.loadI rfl rfl (tok _ rfl) rfl)) ?_
  refine DAny.qu 7 rfl rfl (by kernel_rfl) rfl (fun _ => .does _ _ rfl (.none rfl) (QOp.lenI rfl rfl (tok _ rfl) rfl)) ?_
  refine DAny.qu 9 rfl rfl (by kernel_rfl) rfl (fun _ => .does _ _ rfl (.none rfl) (QOp.fieldI rfl rfl (tok _ rfl) rfl rfl (by decide) rfl)) ?_
  refine DAny.qu 10 rfl rfl (by kernel_rfl) rfl (fun _ => .does _ _ rfl (.none rfl) (QOp.loadI rfl rfl (tok _ rfl) rfl)) ?_
  refine DAny.qu 11 rfl rfl (by kernel_rfl) rfl (fun _ => .does _ _ rfl (.none rfl) (QOp.lenI rfl rfl (tok _ rfl) rfl)) ?_
  refine DAny.qu 13 rfl rfl (by kernel_rfl) rfl (fun _ => .does _ _ rfl (.none rfl) (QOp.fieldI rfl rfl (tok _ rfl) rfl rfl (by decide) rfl)) ?_
  refine DAny.qu 14 rfl rfl (by kernel_rfl) rfl (fun _ => .does _ _ rfl (.none rfl) (QOp.loadI rfl rfl (tok _ rfl) rfl)) ?_
  refine DAny.qu 15 rfl rfl (by kernel_rfl) rfl (fun _ => .does _ _ rfl (.none rfl) (QOp.lenI rfl rfl (tok _ rfl) rfl)) ?_
  refine DAny.qu 17 rfl rfl (by kernel_rfl) rfl (fun _ => .does _ _ rfl (.none rfl) (QOp.fieldI rfl rfl (tok _ rfl) rfl rfl (by decide) rfl)) ?_
  refine DAny.qu 18 rfl rfl (by kernel_rfl) rfl (fun _ => .does _ _ rfl (.none rfl) (QOp.loadI rfl rfl (tok _ rfl) rfl)) ?_
  refine DAny.qu 19 rfl rfl (by kernel_rfl) rfl (fun _ => .does _ _ rfl (.none rfl) (QOp.lenI rfl rfl (tok _ rfl) rfl)) ?_
  -- STOP at effects [4, 8, 16, 20] (listed 0,1,2,3,5,6,7,9,10,11,13,14,15,17,18,19)
  refine DAny.meet (α := Nat × Nat × Nat × Nat × Nat) 4 #[true, true, true, true, true, true, true, true, true, true, true, true, true, true, true, true, true, true, true, true, true, false, false, false, false] (fun a => match a with | (mT, mS, mP, mF, mL) => [(1, .ip t.cells), (2, .mp mI 0), (3, .mp mA 0), (4, .mp mE 0), (12, .agg t.cells), (15, vi ((t.exprs.map Ex.cells).length : Int)), (19, vi ((t.exprs.map Ex.cells).length : Int)), (23, vi ((t.stmts.map St.cells).length : Int)), (27, vi ((t.stmts.map St.cells).length : Int)), (31, vi ((t.funcs.map Fu.cells).length : Int)), (16, .sl 1 mT 0 (t.exprs.map Ex.cells).length), (20, .sl 1 mS 0 (t.exprs.map Ex.cells).length), (24, .sl 1 mP 0 (t.stmts.map St.cells).length), (28, .sl 1 mF 0 (t.stmts.map St.cells).length), (32, .sl 1 mL 0 (t.funcs.map Fu.cells).length)]) (fun a => match a with | (mT, mS, mP, mF, mL) => [.mu mI [nilv, nilv, nilv, nilv, nilv], .mu mA [vi 0], .mu mE [vi 0], .mu mT (List.replicate (t.exprs.map Ex.cells).length (List.map AV.v (TT 3).zero)).flatten, .mu mS (List.replicate (t.exprs.map Ex.cells).length (vi (-1))), .mu mP (List.replicate (t.stmts.map St.cells).length (vi (-1))), .mu mF (List.replicate (t.stmts.map St.cells).length (List.map AV.v (TT 3).zero)).flatten, .mu mL (List.replicate (t.funcs.map Fu.cells).length (List.map AV.v (TT 30).zero)).flatten]) (fun hTSPFL => ?_) ?_
  rotate_left
  · rintro ⟨mT, mS, mP, mF, mL⟩
    refine DAny.qu 21 rfl rfl (by kernel_rfl) rfl (fun _ => .does _ _ rfl (.none rfl) (QOp.build rfl (tok _ rfl) rfl rfl rfl rfl rfl)) ?_
    refine DAny.qu 22 rfl rfl (by kernel_rfl) rfl (fun _ => .does _ _ rfl (.none rfl) (QOp.build rfl (tok _ rfl) rfl rfl rfl rfl rfl)) ?_
    refine DAny.ef 23 rfl (by kernel_rfl) (.none rfl) rfl rfl (AOp.boxP rfl rfl rfl (fun _ => rfl) (fun _ => ⟨(by ((exact AllQ.nil))), ?_⟩))
    refine DAny.ef 24 rfl (by kernel_rfl) (.none rfl) rfl rfl (.q (QOp.assign rfl rfl) ⟨(by ((exact AllQ.nil))), ?_⟩)
    refine DAny.done (by kernel_rfl) ?_
    refine ⟨rfl, ?_⟩
    rename_i mC
    refine ZCode.defers rfl rfl rfl rfl rfl rfl (by decide) rfl (by kernel_rfl) (fun d => ?_)
    refine ACode.newTok (fun τ => ?_)
    obtain ⟨k, rfl, rfl, rfl, rfl, rfl, rfl⟩ : ∃ k : Mk, k.mC = mC ∧ k.mT = mT ∧ k.mS = mS ∧ k.mP = mP ∧ k.mF = mF ∧ k.mL = mL := ⟨⟨mC, mT, mS, mP, mF, mL⟩, rfl, rfl, rfl, rfl, rfl, rfl⟩
    have hlT : (c0 t).type.length = (t.exprs.map Ex.cells).length := by rw [hEl]; simp [c0]
    have hlS : (c0 t).slot.length = (t.exprs.map Ex.cells).length := by rw [hEl]; simp [c0]
    have hlP : (c0 t).put.length = (t.stmts.map St.cells).length := by rw [hSl]; simp [c0]
    have hlF : (c0 t).func.length = (t.stmts.map St.cells).length := by rw [hSl]; simp [c0]
    have hlL : (c0 t).slots.length = (t.funcs.map Fu.cells).length := by rw [hFl]; simp [c0]
    refine ACode.cells (cells' := ckCellsS (c0 t) k .any) [_, _, _, _, _, _, _, _] [_] rfl ?_ ?_
    · simp only [ckCellsS, hlT, hlS, hlP, hlF, hlL]
      exact .cons (.refl _) (.cons (.refl _) (.cons (.refl _) (.cons (.refl _) (.cons (.refl _) (.cons (.refl _) (.cons (.refl _) (.cons (.refl _) (.cons (.refl _) (.cons (.any _) (.cons (.refl _) .nil))))))))))
    have e1 : (List.replicate (t.exprs.map Ex.cells).length (List.map AV.v (TT 3).zero)).flatten = (c0 t).type.map vi := by
      rw [hEl]; show (List.replicate t.exprs.length [vi 0]).flatten = _; rw [flat_rep]; simp [c0]
    have e2 : List.replicate (t.exprs.map Ex.cells).length (vi (-1)) = (c0 t).slot.map vi := by rw [hEl]; simp [c0]
    have e3 : List.replicate (t.stmts.map St.cells).length (vi (-1)) = (c0 t).put.map vi := by rw [hSl]; simp [c0]
    have e4 : (List.replicate (t.stmts.map St.cells).length (List.map AV.v (TT 3).zero)).flatten = (c0 t).func.map vi := by
      rw [hSl]; show (List.replicate t.stmts.length [vi 0]).flatten = _; rw [flat_rep]; simp [c0]
    refine ACode.cells (cells' := (c0 t).slotCells τ) [_, _, _, _, _, _, _] [_, _] rfl ?_ ?_
    · rw [hFl]
      show LeL (List.replicate t.funcs.length [nilv]).flatten _
      rw [flat_rep]
      exact nils_le τ _
    rw [e1, e2, e3, e4]
    refine ACode.items (R' := ckHead (c0 t) k τ mI mA mE) _ ((List.perm_append_comm (l₁ := [_, _, _]) (l₂ := [_, _, _, _, _, _, _])).trans (List.perm_middle (l₁ := [_, _, _, _, _]) (l₂ := [_, _, _, _]))) (List.Sublist.refl _) ?_
    clear hlT hlS hlP hlF hlL e1 e2 e3 e4
    have hst0 : Stk (faceOf (dups [] (c0 t).t.funcs (c0 t))) (checked t) := Stk.funs 0 t.funcs _
    have hpre := pre0 t
    have hck : checked t = funs 0 t.funcs (faceOf (dups [] (c0 t).t.funcs (c0 t))) := rfl
    refine ACode.seq (ACode.region ?_)
    refine ASeq.q rfl rfl (QOp.move rfl rfl) ?_
    refine ASeq.op rfl rfl (AOp.callP 1 rfl (by kernel_rfl) rfl rfl rfl (cfaces_ok (c0 t) k .any rfl h.some hbig.2.2) ?_ ?_)
    rotate_left
    · (rintro _ _ (⟨⟩ | ⟨hbad, R⟩); simp only [AExit.then, AExit.inBlock]; exact check_bad rfl rfl rfl rfl (List.sublist_append_of_sublist_right (List.sublist_append_right [_, _, _, _, _, _] _)) hst0 hbad)
    rintro _ _ ⟨hc, he⟩
    refine ASeq.nil ?_
    rw [he] at hck hst0
    rw [show faceOf (dups [] t.funcs (c0 t)) = c0 t from he] at hpre
    have hp0 : PutOk (c0 t) := by
      intro j s hj _ hl
      have hl : j < (List.replicate t.stmts.length (-1 : Int)).length := hl
      show (List.replicate t.stmts.length (-1 : Int))[j]? = _
      rw [List.getElem?_replicate, if_pos (by simpa using hl)]
    refine ACode.seq (ACode.seq (ACode.region ?_))
    refine ASeq.q rfl rfl (QOp.move rfl rfl) ?_
    refine ASeq.q rfl rfl (QOp.nilCheckM rfl rfl) ?_
    refine ASeq.q rfl rfl (QOp.fieldM rfl rfl (tok _ rfl) rfl rfl (by decide) rfl) ?_
    refine ASeq.q rfl rfl (QOp.fieldM rfl rfl (tok _ rfl) rfl rfl (by decide) rfl) ?_
    refine ASeq.q rfl rfl (QOp.loadM 0 rfl rfl rfl (tok _ rfl) rfl) ?_
    refine ASeq.q rfl rfl (QOp.lenI rfl rfl (tok _ rfl) rfl) ?_
    refine ASeq.q rfl rfl (QOp.move rfl rfl) ?_
    refine ASeq.nil ?_
    refine ACode.block ?_
    refine ACode.loopP (fun (x : Nat × CS × Nat) => [(2, .mp mI 0), (3, .mp mA 0), (4, .mp mE 0), (5, .mp k.mC 0), (43, .il 6 none (t.funcs.map Fu.cells)), (44, vi ((t.funcs.map Fu.cells).length : Int)), (45, vi x.1)])
      (fun x => ckHead x.2.1 k x.2.2 mI mA mE) (fun x => t.funcs.length - x.1)
      (fun x => x.1 ≤ t.funcs.length ∧ x.2.1.code = 0 ∧ Pre t x.1 x.2.1 ∧ PutOk x.2.1 ∧ funs x.1 (t.funcs.drop x.1) x.2.1 = checked t) (0, c0 t, τ) ⟨Nat.zero_le _, rfl, hpre, hp0, hck.symm⟩
      (.cons rfl (.cons rfl (.cons rfl (.cons rfl (.cons rfl (.cons rfl (.cons rfl .nil))))))) 10 rfl ?_
    clear hck hst0 hpre hp0 he hc
    rintro ⟨i, c, τ⟩ ⟨hi, hc0, hpre, hpc, hres⟩
    dsimp only at hi hc0 hpre hpc hres
    have hct := hpre.tt
    refine ACode.seq (ACode.region ?_)
    refine ASeq.q rfl rfl (QOp.cmp rfl rfl rfl rfl) ?_
    refine ASeq.nil ?_
    refine ACode.seq ?_
    refine ACode.cond _ rfl (fun hb => ?_) (fun hb => ?_)
    · have hlt : i < t.funcs.length := by have := of_decide_eq_true hb; rw [hFl] at this; omega
      have hgi := fu_at hlt
      have hok := hpre.enter hlt hbig
      have hle := enter_le hpre hlt τ
      rw [funs_drop _ _ _ hlt] at hres
      have hfu := h.fu _ (List.getElem_mem hlt)
      have hpe : PutOk (c.enter i) := hpc.same rfl rfl
      have hce : (c.enter i).code = 0 := hc0
      have hct2 : (c.enter i).t = t := hct
      generalize t.funcs[i] = g at *
      refine ACode.skip (ACode.seq (ACode.block (ACode.seq (ACode.region ?_))))
      refine ASeq.q rfl rfl (QOp.move rfl rfl) ?_
      refine ASeq.q rfl rfl (QOp.indexI rfl rfl rfl (tok _ rfl) rfl (tok _ rfl) (by omega) (by assumption)) ?_
      refine ASeq.q rfl rfl (QOp.loadI rfl rfl (tok _ rfl) rfl) ?_
      refine ASeq.op rfl rfl (AOp.allocP rfl (tok _ rfl) rfl rfl (fun _ => rfl) (fun _ => ?_))
      refine ASeq.q rfl rfl (QOp.assign rfl rfl) ?_
      refine ASeq.op0 rfl rfl (AOp.storeP 10 rfl rfl rfl rfl (tok _ rfl) rfl rfl rfl rfl ?_)
      refine ASeq.nil ?_
      rename_i m7
      refine ACode.seq (ACode.region ?_)
      refine ASeq.q rfl rfl (QOp.move rfl rfl) ?_
      refine ASeq.q rfl rfl (QOp.move rfl rfl) ?_
      refine ASeq.q rfl rfl (QOp.move rfl rfl) ?_
      refine ASeq.op rfl rfl (AOp.buildSliceM rfl (tok _ rfl) rfl (tok _ rfl) (by decide) rfl (by decide) rfl rfl rfl (fun mZ => ?_))
      refine ASeq.q rfl rfl (QOp.nilCheckM rfl rfl) ?_
      refine ASeq.q rfl rfl (QOp.fieldM rfl rfl (tok _ rfl) rfl rfl (by decide) rfl) ?_
      refine ASeq.op0 rfl rfl (AOp.storeP 0 rfl rfl rfl rfl (tok _ rfl) rfl rfl rfl rfl ?_)
      refine ASeq.q rfl rfl (QOp.nilCheckM rfl rfl) ?_
      refine ASeq.q rfl rfl (QOp.fieldM rfl rfl (tok _ rfl) rfl rfl (by decide) rfl) ?_
      refine ASeq.op0 rfl rfl (AOp.storeP 0 rfl rfl rfl rfl (tok _ rfl) rfl rfl rfl rfl ?_)
      refine ASeq.nil ?_
      refine ACode.newTok (fun τz => ?_)
      refine ACode.cells (cells' := (c.enter i).slotCells τ) [_, _, _, _, _] [_, _, _, _, _, _, _] rfl hle ?_
      refine ACode.cells (cells' := ({ mZ := mZ, τ := τ, τz := τz, zs := [], top := [] } : Zt).all.map zcell) [_, _, _, _, _, _, _, _, _, _, _] [_] rfl (.cons (.nilT 2 _) .nil) ?_
      refine ACode.cells (cells' := ckCells (c.enter i) k { mZ := mZ, τ := τ, τz := τz, zs := [], top := [] }) [] [_, _, _, _, _, _, _, _, _, _, _, _] rfl (LeL.refl _) ?_
      refine ACode.items (R' := ckItems (c.enter i) k { mZ := mZ, τ := τ, τz := τz, zs := [], top := [] } ++ [.mu mI [nilv, nilv, nilv, nilv, nilv], .mu mA [vi 0], .mu mE [vi 0], .mu m7 g.cells]) _ ((List.Perm.append_left [_] (List.perm_middle (l₁ := [_, _, _, _, _, _, _, _, _, _]) (l₂ := [_]))).trans (List.Perm.append_left [_, _, _, _, _, _, _, _] (List.perm_middle (l₁ := [_, _, _, _]) (l₂ := [])))) (List.Sublist.refl _) ?_
      have hz0 : Ckz (c.enter i) { mZ := mZ, τ := τ, τz := τz, zs := [], top := [] } := ckz_enter c i mZ τ τz
      clear hle
      refine ACode.seq (ACode.seq (ACode.region ?_))
      refine ASeq.q rfl rfl (QOp.fieldM rfl rfl (tok _ rfl) rfl rfl (by decide) rfl) ?_
      refine ASeq.q rfl rfl (QOp.loadM 12 rfl rfl rfl (tok _ rfl) rfl) ?_
      refine ASeq.q rfl rfl (QOp.lenI rfl rfl (tok _ rfl) rfl) ?_
      refine ASeq.q rfl rfl (QOp.move rfl rfl) ?_
      refine ASeq.nil ?_
      refine ACode.block ?_
      refine ACode.loopP (fun (x : Nat × CS × Zt) => [(2, .mp mI 0), (3, .mp mA 0), (4, .mp mE 0), (5, .mp k.mC 0), (43, .il 6 none (t.funcs.map Fu.cells)), (44, vi ((t.funcs.map Fu.cells).length : Int)), (45, vi i), (7, .mp m7 0), (59, .il 1 none (strs g.params)), (60, vi ((strs g.params).length : Int)), (61, vi x.1)])
        (fun x => ckItems x.2.1 k x.2.2 ++ [.mu mI [nilv, nilv, nilv, nilv, nilv], .mu mA [vi 0], .mu mE [vi 0], .mu m7 g.cells]) (fun x => g.params.length - x.1)
        (fun x => x.1 ≤ g.params.length ∧ x.2.1.code = 0 ∧ Ckz x.2.1 x.2.2 ∧ x.2.2.zs = [] ∧ KeptS (c.enter i) x.2.1 ∧ PutOk x.2.1 ∧ parsOf g.fr (g.params.drop x.1) x.2.1 = parsOf g.fr g.params (c.enter i))
        (0, c.enter i, { mZ := mZ, τ := τ, τz := τz, zs := [], top := [] }) ⟨Nat.zero_le _, hce, hz0, rfl, .refl _, hpe, rfl⟩ (.cons rfl (.cons rfl (.cons rfl (.cons rfl (.cons rfl (.cons rfl (.cons rfl (.cons rfl (.cons rfl (.cons rfl (.cons rfl (.nil)))))))))))) 13 rfl ?_
      clear hz0
      rintro ⟨q, d', z⟩ ⟨hq, hdc, hdz, hzs, hkd0, hdp, hres2⟩
      dsimp only at hq hdc hdz hzs hkd0 hdp hres2
      have hpl := strs_len g.params
      have okd := hkd0.ok hok
      refine ACode.seq (ACode.region ?_)
      refine ASeq.q rfl rfl (QOp.cmp rfl rfl rfl rfl) ?_
      refine ASeq.nil ?_
      refine ACode.seq ?_
      refine ACode.cond _ rfl (fun hb => ?_) (fun hb => ?_)
      · have hlq : q < g.params.length := by have := of_decide_eq_true hb; rw [hpl] at this; omega
        have hgq := strs_get hlq
        rw [pars_drop _ _ _ _ hlq, if_pos hdc] at hres2
        have hst : Stk (d'.decl g.params[q] 1 g.fr).1 (checked t) := by
          rw [← hres, ← hres2]
          exact ((Stk.pars _ _ _).trans (Stk.body _ _)).trans (Stk.funs _ _ _)
        have hdec := cdeclare_ok d' k z hdz okd hdc g.params[q] 1 g.fr g.to
        have hmore := fun τ τz (h : (d'.decl g.params[q] 1 g.fr).1.code = 0) => hdz.more hdc g.params[q] 1 g.fr τ τz h
        have hkd := KeptS.decl okd g.params[q] 1 g.fr
        have hpd := hdp.decl g.params[q] 1 g.fr
        generalize g.params[q] = p at *
        generalize d'.decl p 1 g.fr = w at *
        refine ACode.skip (ACode.seq (ACode.block (ACode.seq (ACode.region ?_))))
        refine ASeq.q rfl rfl (QOp.indexI rfl rfl rfl (tok _ rfl) rfl (tok _ rfl) (by omega) (by assumption)) ?_
        refine ASeq.q rfl rfl (QOp.loadI rfl rfl (tok _ rfl) rfl) ?_
        refine ASeq.q rfl rfl (QOp.assign rfl rfl) ?_
        refine ASeq.nil ?_
        refine ACode.region ?_
        refine ASeq.q rfl rfl (QOp.move rfl rfl) ?_
        refine ASeq.q rfl rfl (QOp.move rfl rfl) ?_
        refine ASeq.q rfl rfl (QOp.fieldM rfl rfl (tok _ rfl) rfl rfl (by decide) rfl) ?_
        refine ASeq.q rfl rfl (QOp.loadM 12 rfl rfl rfl (tok _ rfl) rfl) ?_
        refine ASeq.op rfl rfl (AOp.callP 9 rfl (by kernel_rfl) rfl rfl rfl (hdec) ?_ ?_)
        rotate_left
        · (rintro _ _ (⟨⟩ | ⟨hbad, R⟩); simp only [AExit.then, AExit.inBlock]; exact check_bad rfl rfl rfl rfl (List.sublist_append_of_sublist_right (List.sublist_append_left [_, _, _] [_])) hst hbad)
        rintro _ _ ⟨hc, τ', τz'⟩
        refine ASeq.nil ?_
        refine ACode.region ?_
        refine ASeq.q rfl rfl (QOp.ar64 rfl rfl rfl rfl ⟨by omega, by omega⟩) ?_
        refine ASeq.q rfl rfl (QOp.move rfl rfl) ?_
        refine ASeq.nil ?_
        refine AExit.then_normal ?_
        exact ⟨(q + 1, w.1, z.more τ' τz' ⟨p, d'.block, w.2⟩), 13, ⟨hlq, hc, hmore τ' τz' hc, hzs, hkd0.trans hkd, hpd, hres2⟩, by dsimp only; omega, .cons rfl (.cons rfl (.cons rfl (.cons rfl (.cons rfl (.cons rfl (.cons rfl (.cons rfl (.cons rfl (.cons rfl (.cons rfl (.nil))))))))))), rfl⟩
      have hge : q = g.params.length := by have := of_decide_eq_false hb; rw [hpl] at this; omega
      rw [hge, List.drop_length] at hres2
      simp only [parsOf] at hres2
      rw [← hres2] at hres
      clear hres2 hge hb
      refine ACode.exit (ACode.seq (ACode.region ?_))
      refine ASeq.q rfl rfl (QOp.fieldM rfl rfl (tok _ rfl) rfl rfl (by decide) rfl) ?_
      refine ASeq.q rfl rfl (QOp.loadM 12 rfl rfl rfl (tok _ rfl) rfl) ?_
      refine ASeq.q rfl rfl (QOp.lenI rfl rfl (tok _ rfl) rfl) ?_
      refine ASeq.q rfl rfl (QOp.move rfl rfl) ?_
      refine ASeq.nil ?_
      refine ACode.block ?_
      refine ACode.loopP (fun (x : Nat × CS × Zt) => [(2, .mp mI 0), (3, .mp mA 0), (4, .mp mE 0), (5, .mp k.mC 0), (43, .il 6 none (t.funcs.map Fu.cells)), (44, vi ((t.funcs.map Fu.cells).length : Int)), (45, vi i), (72, .il 1 none (ints g.body)), (73, vi ((ints g.body).length : Int)), (74, vi x.1)])
        (fun x => ckItems x.2.1 k x.2.2 ++ [.mu mI [nilv, nilv, nilv, nilv, nilv], .mu mA [vi 0], .mu mE [vi 0], .mu m7 g.cells]) (fun x => g.body.length - x.1)
        (fun x => x.1 ≤ g.body.length ∧ x.2.1.code = 0 ∧ Ckz x.2.1 x.2.2 ∧ x.2.2.zs = [] ∧ KeptS (c.enter i) x.2.1 ∧ PutOk x.2.1 ∧ bodyOf (g.body.drop x.1) x.2.1 = bodyOf g.body d')
        (0, d', z) ⟨Nat.zero_le _, hdc, hdz, hzs, hkd0, hdp, rfl⟩ (.cons rfl (.cons rfl (.cons rfl (.cons rfl (.cons rfl (.cons rfl (.cons rfl (.cons rfl (.cons rfl (.cons rfl (.nil))))))))))) 13 rfl ?_
      clear hdc hdz hzs hdp okd
      rintro ⟨q, e, z⟩ ⟨hq, hec, hez, hzs, hke, hep, hres2⟩
      dsimp only at hq hec hez hzs hke hep hres2
      have hbl := ints_len g.body
      have het : e.t = t := hke.t.trans hct
      have hel : e.loops = 0 := hke.loops.trans hpre.loops
      have hmax : smax = 1099511627776 := rfl
      have oke := hke.ok hok
      have hzl : z.zs.length = 0 := by rw [hzs]; rfl
      refine ACode.seq (ACode.region ?_)
      refine ASeq.q rfl rfl (QOp.cmp rfl rfl rfl rfl) ?_
      refine ASeq.nil ?_
      refine ACode.seq ?_
      refine ACode.cond _ rfl (fun hb => ?_) (fun hb => ?_)
      · have hlq : q < g.body.length := by have := of_decide_eq_true hb; rw [hbl] at this; omega
        have hgq := ints_get hlq
        have hm := hfu.2.2 _ (List.getElem_mem hlq)
        have hm0 := hm.1
        have hrow : (e.t.stmts.map St.cells)[g.body[q].toNat]? = some (e.stm g.body[q]).cells := st_get hm.1 (by rw [het]; exact hm.2)
        rw [body_drop _ _ _ hlq, het] at hres2
        have hs := cstmts t.stmts.length e k z g.body[q] hez oke hec hep (by rw [het]; exact hx) (by rw [het]; exact h.st) hm.1 (by rw [het]; exact hm.2) hm.2 (by omega) (by omega) (by omega)
        have hks := KeptS.stm6 t.stmts.length e g.body[q] oke
        have hpe2 := PutOk.stm6 t.stmts.length e g.body[q] hep
        have hml : (e.t.stmts.map St.cells).length = t.stmts.length := by rw [List.length_map, het]
        have hst : Stk (stm6 t.stmts.length e g.body[q]) (checked t) := by
          rw [← hres, ← hres2]
          exact (Stk.body _ _).trans (Stk.funs _ _ _)
        generalize stm6 t.stmts.length e g.body[q] = e2 at *
        generalize g.body[q] = p at *
        refine ACode.skip (ACode.seq (ACode.block (ACode.seq (ACode.region ?_))))
        refine ASeq.q rfl rfl (QOp.indexI rfl rfl rfl (tok _ rfl) rfl (tok _ rfl) (by omega) (by assumption)) ?_
        refine ASeq.q rfl rfl (QOp.loadI rfl rfl (tok _ rfl) rfl) ?_
        refine ASeq.q rfl rfl (QOp.assign rfl rfl) ?_
        refine ASeq.nil ?_
        refine ACode.region ?_
        refine ASeq.q rfl rfl (QOp.move rfl rfl) ?_
        refine ASeq.q rfl rfl (QOp.move rfl rfl) ?_
        refine ASeq.q rfl rfl (QOp.move rfl rfl) ?_
        refine ASeq.q rfl rfl (QOp.nilCheckM rfl rfl) ?_
        refine ASeq.q rfl rfl (QOp.fieldM rfl rfl (tok _ rfl) rfl rfl (by decide) rfl) ?_
        refine ASeq.q rfl rfl (QOp.fieldM rfl rfl (tok _ rfl) rfl rfl (by decide) rfl) ?_
        refine ASeq.q rfl rfl (QOp.loadM 0 rfl rfl rfl (tok _ rfl) rfl) ?_
        refine ASeq.q rfl rfl (QOp.move rfl rfl) ?_
        refine ASeq.q rfl rfl (QOp.indexI rfl rfl rfl (tok _ rfl) rfl (tok _ rfl) (by omega) (by assumption)) ?_
        refine ASeq.q rfl rfl (QOp.loadI rfl rfl (tok _ rfl) rfl) ?_
        refine ASeq.op rfl rfl (AOp.callP 9 rfl (by kernel_rfl) rfl rfl rfl (hs) ?_ ?_)
        rotate_left
        · (rintro _ _ (⟨⟩ | ⟨hbad, R⟩); simp only [AExit.then, AExit.inBlock]; exact check_bad rfl rfl rfl rfl (List.sublist_append_of_sublist_right (List.sublist_append_left [_, _, _] [_])) hst hbad)
        rintro _ _ ⟨hc, z2, hz2, hcz2⟩
        refine ASeq.nil ?_
        refine ACode.region ?_
        refine ASeq.q rfl rfl (QOp.ar64 rfl rfl rfl rfl ⟨by omega, by omega⟩) ?_
        refine ASeq.q rfl rfl (QOp.move rfl rfl) ?_
        refine ASeq.nil ?_
        refine AExit.then_normal ?_
        exact ⟨(q + 1, e2, z2), 13, ⟨hlq, hc, hcz2, hz2.trans hzs, hke.trans hks, hpe2, hres2⟩, by dsimp only; omega, .cons rfl (.cons rfl (.cons rfl (.cons rfl (.cons rfl (.cons rfl (.cons rfl (.cons rfl (.cons rfl (.cons rfl (.nil)))))))))), rfl⟩
      have hge : q = g.body.length := by have := of_decide_eq_false hb; rw [hbl] at this; omega
      rw [hge, List.drop_length] at hres2
      simp only [bodyOf] at hres2
      rw [← hres2] at hres
      refine ACode.exit (AExit.then_exit (AExit.then_exit (AExit.in_same (AExit.in_normal (AExit.then_normal ?_)))))
      refine ACode.cells (cells' := ckCellsS e k .any) [] [_, _, _, _, _, _, _, _, _, _, _, _] rfl (.cons (.refl _) (.cons (.refl _) (.cons (.refl _) (.cons (.refl _) (.cons (.refl _) (.cons (.refl _) (.cons (.refl _) (.cons (.refl _) (.cons (.refl _) (.cons (.any _) (.cons (.refl _) .nil))))))))))) ?_
      refine ACode.items (R' := ckHead e k z.τ mI mA mE) _ (List.Perm.refl _) (.cons_cons _ (.cons _ (.cons_cons _ (.cons_cons _ (.cons_cons _ (.cons_cons _ (.cons_cons _ (.cons_cons _ (.cons _ (.cons_cons _ (.cons_cons _ (.cons_cons _ (List.nil_sublist _))))))))))))) ?_
      refine ACode.region ?_
      refine ASeq.q rfl rfl (QOp.ar64 rfl rfl rfl rfl ⟨by omega, by omega⟩) ?_
      refine ASeq.q rfl rfl (QOp.move rfl rfl) ?_
      refine ASeq.nil ?_
      refine AExit.then_normal ?_
      exact ⟨(i + 1, e, z.τ), 10, ⟨hlt, hec, hpre.next hlt hke, hep, hres⟩, by dsimp only; omega, .cons rfl (.cons rfl (.cons rfl (.cons rfl (.cons rfl (.cons rfl (.cons rfl (.nil))))))), rfl⟩
    have hge : i = t.funcs.length := by have := of_decide_eq_false hb; rw [hFl] at this; omega
    rw [hge, List.drop_length] at hres
    simp only [funs] at hres
    refine ACode.exit (ACode.seq (ACode.region ?_))
    refine ASeq.q rfl rfl (QOp.move rfl rfl) ?_
    refine ASeq.q rfl rfl (QOp.nilCheckM rfl rfl) ?_
    refine ASeq.q rfl rfl (QOp.fieldM rfl rfl (tok _ rfl) rfl rfl (by decide) rfl) ?_
    refine ASeq.q rfl rfl (QOp.loadM 0 rfl rfl rfl (tok _ rfl) rfl) ?_
    refine ASeq.op0 rfl rfl (AOp.storeP 7 rfl rfl rfl rfl (tok _ rfl) rfl rfl rfl rfl ?_)
    refine ASeq.op0 rfl rfl (AOp.storeP 8 rfl rfl rfl rfl (tok _ rfl) rfl rfl rfl rfl ?_)
    refine ASeq.op0 rfl rfl (AOp.storeP 9 rfl rfl rfl rfl (tok _ rfl) rfl rfl rfl rfl ?_)
    refine ASeq.nil ?_
    refine ACode.ret ?_
    refine catch_none mI mA mE _ _ (fun it => ⟨_, _, c.items ⟨k.mT, k.mS, k.mP, k.mF, k.mL⟩ τ, .cell 7 rfl rfl (tok _ rfl) rfl (.cell 8 rfl rfl (tok _ rfl) rfl (.cell 9 rfl rfl (tok _ rfl) rfl .nil)), List.Perm.refl _, .cons _ (.cons_cons _ (.cons_cons _ (.cons_cons _ (.cons_cons _ (.cons_cons _ (.cons_cons _ (List.nil_sublist _))))))), ?_⟩)
    have := RK.good (t := t) (by rw [← hres]; exact hc0) ⟨k.mT, k.mS, k.mP, k.mF, k.mL⟩ τ
    rw [← hres] at this
    exact this
  refine DAny.meet (α := Nat × Nat × Nat × Nat × Nat) 5 #[true, true, true, true, true, true, true, true, true, true, true, true, true, true, true, true, true, true, true, true, false, false, false, false, false] (fun a => match a with | (mT, mS, mP, mF, mL) => [(1, .ip t.cells), (2, .mp mI 0), (3, .mp mA 0), (4, .mp mE 0), (12, .agg t.cells), (15, vi ((t.exprs.map Ex.cells).length : Int)), (19, vi ((t.exprs.map Ex.cells).length : Int)), (23, vi ((t.stmts.map St.cells).length : Int)), (27, vi ((t.stmts.map St.cells).length : Int)), (31, vi ((t.funcs.map Fu.cells).length : Int)), (16, .sl 1 mT 0 (t.exprs.map Ex.cells).length), (20, .sl 1 mS 0 (t.exprs.map Ex.cells).length), (24, .sl 1 mP 0 (t.stmts.map St.cells).length), (28, .sl 1 mF 0 (t.stmts.map St.cells).length)]) (fun a => match a with | (mT, mS, mP, mF, mL) => [.mu mI [nilv, nilv, nilv, nilv, nilv], .mu mA [vi 0], .mu mE [vi 0], .mu mT (List.replicate (t.exprs.map Ex.cells).length (List.map AV.v (TT 3).zero)).flatten, .mu mS (List.replicate (t.exprs.map Ex.cells).length (vi (-1))), .mu mP (List.replicate (t.stmts.map St.cells).length (vi (-1))), .mu mF (List.replicate (t.stmts.map St.cells).length (List.map AV.v (TT 3).zero)).flatten]) (fun hTSPF => ?_) ?_
  rotate_left
  · rintro ⟨mT, mS, mP, mF, _⟩
    refine DAny.effs [20] (by kernel_rfl) (by decide) ?_
    refine Effs.cons 20 rfl (.none rfl) rfl (AOp.makeP (n := (t.funcs.map Fu.cells).length) rfl rfl rfl (tok _ rfl) rfl (tok _ rfl) (by decide) rfl rfl (fun _ => rfl) (by omega) rfl (fun m => ?_)) ?_
    · exact DAny.at_ ZCode.closes (hTSPFL (mT, mS, mP, mF, m)) (by kernel_rfl) (.cons rfl (.cons rfl (.cons rfl (.cons rfl (.cons rfl (.cons rfl (.cons rfl (.cons rfl (.cons rfl (.cons rfl (.cons rfl (.cons rfl (.cons rfl (.cons rfl (.cons rfl (.nil)))))))))))))))) (List.Perm.refl _)
    exact Effs.nil
  refine DAny.meet (α := Nat × Nat × Nat × Nat × Nat) 5 #[true, true, true, true, true, true, true, true, true, true, true, true, true, true, true, true, false, true, true, true, true, false, false, false, false] (fun a => match a with | (mT, mS, mP, mF, mL) => [(1, .ip t.cells), (2, .mp mI 0), (3, .mp mA 0), (4, .mp mE 0), (12, .agg t.cells), (15, vi ((t.exprs.map Ex.cells).length : Int)), (19, vi ((t.exprs.map Ex.cells).length : Int)), (23, vi ((t.stmts.map St.cells).length : Int)), (27, vi ((t.stmts.map St.cells).length : Int)), (31, vi ((t.funcs.map Fu.cells).length : Int)), (16, .sl 1 mT 0 (t.exprs.map Ex.cells).length), (20, .sl 1 mS 0 (t.exprs.map Ex.cells).length), (24, .sl 1 mP 0 (t.stmts.map St.cells).length), (32, .sl 1 mL 0 (t.funcs.map Fu.cells).length)]) (fun a => match a with | (mT, mS, mP, mF, mL) => [.mu mI [nilv, nilv, nilv, nilv, nilv], .mu mA [vi 0], .mu mE [vi 0], .mu mT (List.replicate (t.exprs.map Ex.cells).length (List.map AV.v (TT 3).zero)).flatten, .mu mS (List.replicate (t.exprs.map Ex.cells).length (vi (-1))), .mu mP (List.replicate (t.stmts.map St.cells).length (vi (-1))), .mu mL (List.replicate (t.funcs.map Fu.cells).length (List.map AV.v (TT 30).zero)).flatten]) (fun hTSPL => ?_) ?_
  rotate_left
  · rintro ⟨mT, mS, mP, _, mL⟩
    refine DAny.effs [16] (by kernel_rfl) (by decide) ?_
    refine Effs.cons 16 rfl (.none rfl) rfl (AOp.makeP (n := (t.stmts.map St.cells).length) rfl rfl rfl (tok _ rfl) rfl (tok _ rfl) (by decide) rfl rfl (fun _ => rfl) (by omega) rfl (fun m => ?_)) ?_
    · exact DAny.at_ ZCode.closes (hTSPFL (mT, mS, mP, m, mL)) (by kernel_rfl) (.cons rfl (.cons rfl (.cons rfl (.cons rfl (.cons rfl (.cons rfl (.cons rfl (.cons rfl (.cons rfl (.cons rfl (.cons rfl (.cons rfl (.cons rfl (.cons rfl (.cons rfl (.nil)))))))))))))))) (List.Perm.append_left [_, _, _, _, _, _] (List.perm_append_comm (l₁ := [_]) (l₂ := [_])))
    exact Effs.nil
  refine DAny.meet (α := Nat × Nat × Nat × Nat × Nat) 5 #[true, true, true, true, true, true, true, true, true, true, true, true, false, true, true, true, true, true, true, true, true, false, false, false, false] (fun a => match a with | (mT, mS, mP, mF, mL) => [(1, .ip t.cells), (2, .mp mI 0), (3, .mp mA 0), (4, .mp mE 0), (12, .agg t.cells), (15, vi ((t.exprs.map Ex.cells).length : Int)), (19, vi ((t.exprs.map Ex.cells).length : Int)), (23, vi ((t.stmts.map St.cells).length : Int)), (27, vi ((t.stmts.map St.cells).length : Int)), (31, vi ((t.funcs.map Fu.cells).length : Int)), (16, .sl 1 mT 0 (t.exprs.map Ex.cells).length), (20, .sl 1 mS 0 (t.exprs.map Ex.cells).length), (28, .sl 1 mF 0 (t.stmts.map St.cells).length), (32, .sl 1 mL 0 (t.funcs.map Fu.cells).length)]) (fun a => match a with | (mT, mS, mP, mF, mL) => [.mu mI [nilv, nilv, nilv, nilv, nilv], .mu mA [vi 0], .mu mE [vi 0], .mu mT (List.replicate (t.exprs.map Ex.cells).length (List.map AV.v (TT 3).zero)).flatten, .mu mS (List.replicate (t.exprs.map Ex.cells).length (vi (-1))), .mu mF (List.replicate (t.stmts.map St.cells).length (List.map AV.v (TT 3).zero)).flatten, .mu mL (List.replicate (t.funcs.map Fu.cells).length (List.map AV.v (TT 30).zero)).flatten]) (fun hTSFL => ?_) ?_
  rotate_left
  · rintro ⟨mT, mS, _, mF, mL⟩
    refine DAny.effs [12] (by kernel_rfl) (by decide) ?_
    refine Effs.cons 12 rfl (.none rfl) rfl (AOp.callP 0 rfl (by kernel_rfl) rfl rfl rfl (none38 (t.stmts.map St.cells).length (by omega)) (by rintro _ _ ⟨m⟩; exact DAny.at_ ZCode.closes (hTSPFL (mT, mS, m, mF, mL)) (by kernel_rfl) (.cons rfl (.cons rfl (.cons rfl (.cons rfl (.cons rfl (.cons rfl (.cons rfl (.cons rfl (.cons rfl (.cons rfl (.cons rfl (.cons rfl (.cons rfl (.cons rfl (.cons rfl (.nil)))))))))))))))) (List.perm_middle (l₁ := [_, _, _, _, _]) (l₂ := [_, _])).symm) (by rintro _ _ ⟨⟩)) ?_
    exact Effs.nil
  refine DAny.meet (α := Nat × Nat × Nat × Nat × Nat) 5 #[true, true, true, true, false, true, true, true, true, true, true, true, true, true, true, true, true, true, true, true, true, false, false, false, false] (fun a => match a with | (mT, mS, mP, mF, mL) => [(1, .ip t.cells), (2, .mp mI 0), (3, .mp mA 0), (4, .mp mE 0), (12, .agg t.cells), (15, vi ((t.exprs.map Ex.cells).length : Int)), (19, vi ((t.exprs.map Ex.cells).length : Int)), (23, vi ((t.stmts.map St.cells).length : Int)), (27, vi ((t.stmts.map St.cells).length : Int)), (31, vi ((t.funcs.map Fu.cells).length : Int)), (20, .sl 1 mS 0 (t.exprs.map Ex.cells).length), (24, .sl 1 mP 0 (t.stmts.map St.cells).length), (28, .sl 1 mF 0 (t.stmts.map St.cells).length), (32, .sl 1 mL 0 (t.funcs.map Fu.cells).length)]) (fun a => match a with | (mT, mS, mP, mF, mL) => [.mu mI [nilv, nilv, nilv, nilv, nilv], .mu mA [vi 0], .mu mE [vi 0], .mu mS (List.replicate (t.exprs.map Ex.cells).length (vi (-1))), .mu mP (List.replicate (t.stmts.map St.cells).length (vi (-1))), .mu mF (List.replicate (t.stmts.map St.cells).length (List.map AV.v (TT 3).zero)).flatten, .mu mL (List.replicate (t.funcs.map Fu.cells).length (List.map AV.v (TT 30).zero)).flatten]) (fun hSPFL => ?_) ?_
  rotate_left
  · rintro ⟨_, mS, mP, mF, mL⟩
    refine DAny.effs [4] (by kernel_rfl) (by decide) ?_
    refine Effs.cons 4 rfl (.none rfl) rfl (AOp.makeP (n := (t.exprs.map Ex.cells).length) rfl rfl rfl (tok _ rfl) rfl (tok _ rfl) (by decide) rfl rfl (fun _ => rfl) (by omega) rfl (fun m => ?_)) ?_
    · exact DAny.at_ ZCode.closes (hTSPFL (m, mS, mP, mF, mL)) (by kernel_rfl) (.cons rfl (.cons rfl (.cons rfl (.cons rfl (.cons rfl (.cons rfl (.cons rfl (.cons rfl (.cons rfl (.cons rfl (.cons rfl (.cons rfl (.cons rfl (.cons rfl (.cons rfl (.nil)))))))))))))))) (List.Perm.append_left [_, _, _] (List.perm_append_comm (l₁ := [_, _, _, _]) (l₂ := [_])))
    exact Effs.nil
  refine DAny.meet (α := Nat × Nat × Nat × Nat × Nat) 6 #[true, true, true, true, true, true, true, true, true, true, true, true, true, true, true, true, false, true, true, true, false, false, false, false, false] (fun a => match a with | (mT, mS, mP, mF, mL) => [(1, .ip t.cells), (2, .mp mI 0), (3, .mp mA 0), (4, .mp mE 0), (12, .agg t.cells), (15, vi ((t.exprs.map Ex.cells).length : Int)), (19, vi ((t.exprs.map Ex.cells).length : Int)), (23, vi ((t.stmts.map St.cells).length : Int)), (27, vi ((t.stmts.map St.cells).length : Int)), (31, vi ((t.funcs.map Fu.cells).length : Int)), (16, .sl 1 mT 0 (t.exprs.map Ex.cells).length), (20, .sl 1 mS 0 (t.exprs.map Ex.cells).length), (24, .sl 1 mP 0 (t.stmts.map St.cells).length)]) (fun a => match a with | (mT, mS, mP, mF, mL) => [.mu mI [nilv, nilv, nilv, nilv, nilv], .mu mA [vi 0], .mu mE [vi 0], .mu mT (List.replicate (t.exprs.map Ex.cells).length (List.map AV.v (TT 3).zero)).flatten, .mu mS (List.replicate (t.exprs.map Ex.cells).length (vi (-1))), .mu mP (List.replicate (t.stmts.map St.cells).length (vi (-1)))]) (fun hTSP => ?_) ?_
  rotate_left
  · rintro ⟨mT, mS, mP, _, _⟩
    refine DAny.effs [16, 20] (by kernel_rfl) (by decide) ?_
    refine Effs.cons 16 rfl (.none rfl) rfl (AOp.makeP (n := (t.stmts.map St.cells).length) rfl rfl rfl (tok _ rfl) rfl (tok _ rfl) (by decide) rfl rfl (fun _ => rfl) (by omega) rfl (fun m => ?_)) ?_
    · exact DAny.at_ ZCode.closes (hTSPF (mT, mS, mP, m, 0)) (by kernel_rfl) (.cons rfl (.cons rfl (.cons rfl (.cons rfl (.cons rfl (.cons rfl (.cons rfl (.cons rfl (.cons rfl (.cons rfl (.cons rfl (.cons rfl (.cons rfl (.cons rfl (.nil))))))))))))))) (List.Perm.refl _)
    refine Effs.cons 20 rfl (.none rfl) rfl (AOp.makeP (n := (t.funcs.map Fu.cells).length) rfl rfl rfl (tok _ rfl) rfl (tok _ rfl) (by decide) rfl rfl (fun _ => rfl) (by omega) rfl (fun m => ?_)) ?_
    · exact DAny.at_ ZCode.closes (hTSPL (mT, mS, mP, 0, m)) (by kernel_rfl) (.cons rfl (.cons rfl (.cons rfl (.cons rfl (.cons rfl (.cons rfl (.cons rfl (.cons rfl (.cons rfl (.cons rfl (.cons rfl (.cons rfl (.cons rfl (.cons rfl (.nil))))))))))))))) (List.Perm.refl _)
    exact Effs.nil
  refine DAny.meet (α := Nat × Nat × Nat × Nat × Nat) 6 #[true, true, true, true, true, true, true, true, true, true, true, true, false, true, true, true, true, true, true, true, false, false, false, false, false] (fun a => match a with | (mT, mS, mP, mF, mL) => [(1, .ip t.cells), (2, .mp mI 0), (3, .mp mA 0), (4, .mp mE 0), (12, .agg t.cells), (15, vi ((t.exprs.map Ex.cells).length : Int)), (19, vi ((t.exprs.map Ex.cells).length : Int)), (23, vi ((t.stmts.map St.cells).length : Int)), (27, vi ((t.stmts.map St.cells).length : Int)), (31, vi ((t.funcs.map Fu.cells).length : Int)), (16, .sl 1 mT 0 (t.exprs.map Ex.cells).length), (20, .sl 1 mS 0 (t.exprs.map Ex.cells).length), (28, .sl 1 mF 0 (t.stmts.map St.cells).length)]) (fun a => match a with | (mT, mS, mP, mF, mL) => [.mu mI [nilv, nilv, nilv, nilv, nilv], .mu mA [vi 0], .mu mE [vi 0], .mu mT (List.replicate (t.exprs.map Ex.cells).length (List.map AV.v (TT 3).zero)).flatten, .mu mS (List.replicate (t.exprs.map Ex.cells).length (vi (-1))), .mu mF (List.replicate (t.stmts.map St.cells).length (List.map AV.v (TT 3).zero)).flatten]) (fun hTSF => ?_) ?_
  rotate_left
  · rintro ⟨mT, mS, _, mF, _⟩
    refine DAny.effs [12, 20] (by kernel_rfl) (by decide) ?_
    refine Effs.cons 12 rfl (.none rfl) rfl (AOp.callP 0 rfl (by kernel_rfl) rfl rfl rfl (none38 (t.stmts.map St.cells).length (by omega)) (by rintro _ _ ⟨m⟩; exact DAny.at_ ZCode.closes (hTSPF (mT, mS, m, mF, 0)) (by kernel_rfl) (.cons rfl (.cons rfl (.cons rfl (.cons rfl (.cons rfl (.cons rfl (.cons rfl (.cons rfl (.cons rfl (.cons rfl (.cons rfl (.cons rfl (.cons rfl (.cons rfl (.nil))))))))))))))) (List.perm_middle (l₁ := [_, _, _, _, _]) (l₂ := [_])).symm) (by rintro _ _ ⟨⟩)) ?_
    refine Effs.cons 20 rfl (.none rfl) rfl (AOp.makeP (n := (t.funcs.map Fu.cells).length) rfl rfl rfl (tok _ rfl) rfl (tok _ rfl) (by decide) rfl rfl (fun _ => rfl) (by omega) rfl (fun m => ?_)) ?_
    · exact DAny.at_ ZCode.closes (hTSFL (mT, mS, 0, mF, m)) (by kernel_rfl) (.cons rfl (.cons rfl (.cons rfl (.cons rfl (.cons rfl (.cons rfl (.cons rfl (.cons rfl (.cons rfl (.cons rfl (.cons rfl (.cons rfl (.cons rfl (.cons rfl (.nil))))))))))))))) (List.Perm.refl _)
    exact Effs.nil
  refine DAny.meet (α := Nat × Nat × Nat × Nat × Nat) 6 #[true, true, true, true, true, true, true, true, true, true, true, true, false, true, true, true, false, true, true, true, true, false, false, false, false] (fun a => match a with | (mT, mS, mP, mF, mL) => [(1, .ip t.cells), (2, .mp mI 0), (3, .mp mA 0), (4, .mp mE 0), (12, .agg t.cells), (15, vi ((t.exprs.map Ex.cells).length : Int)), (19, vi ((t.exprs.map Ex.cells).length : Int)), (23, vi ((t.stmts.map St.cells).length : Int)), (27, vi ((t.stmts.map St.cells).length : Int)), (31, vi ((t.funcs.map Fu.cells).length : Int)), (16, .sl 1 mT 0 (t.exprs.map Ex.cells).length), (20, .sl 1 mS 0 (t.exprs.map Ex.cells).length), (32, .sl 1 mL 0 (t.funcs.map Fu.cells).length)]) (fun a => match a with | (mT, mS, mP, mF, mL) => [.mu mI [nilv, nilv, nilv, nilv, nilv], .mu mA [vi 0], .mu mE [vi 0], .mu mT (List.replicate (t.exprs.map Ex.cells).length (List.map AV.v (TT 3).zero)).flatten, .mu mS (List.replicate (t.exprs.map Ex.cells).length (vi (-1))), .mu mL (List.replicate (t.funcs.map Fu.cells).length (List.map AV.v (TT 30).zero)).flatten]) (fun hTSL => ?_) ?_
  rotate_left
  · rintro ⟨mT, mS, _, _, mL⟩
    refine DAny.effs [12, 16] (by kernel_rfl) (by decide) ?_
    refine Effs.cons 12 rfl (.none rfl) rfl (AOp.callP 0 rfl (by kernel_rfl) rfl rfl rfl (none38 (t.stmts.map St.cells).length (by omega)) (by rintro _ _ ⟨m⟩; exact DAny.at_ ZCode.closes (hTSPL (mT, mS, m, 0, mL)) (by kernel_rfl) (.cons rfl (.cons rfl (.cons rfl (.cons rfl (.cons rfl (.cons rfl (.cons rfl (.cons rfl (.cons rfl (.cons rfl (.cons rfl (.cons rfl (.cons rfl (.cons rfl (.nil))))))))))))))) (List.perm_middle (l₁ := [_, _, _, _, _]) (l₂ := [_])).symm) (by rintro _ _ ⟨⟩)) ?_
    refine Effs.cons 16 rfl (.none rfl) rfl (AOp.makeP (n := (t.stmts.map St.cells).length) rfl rfl rfl (tok _ rfl) rfl (tok _ rfl) (by decide) rfl rfl (fun _ => rfl) (by omega) rfl (fun m => ?_)) ?_
    · exact DAny.at_ ZCode.closes (hTSFL (mT, mS, 0, m, mL)) (by kernel_rfl) (.cons rfl (.cons rfl (.cons rfl (.cons rfl (.cons rfl (.cons rfl (.cons rfl (.cons rfl (.cons rfl (.cons rfl (.cons rfl (.cons rfl (.cons rfl (.cons rfl (.nil))))))))))))))) (List.Perm.append_left [_, _, _, _, _] (List.perm_append_comm (l₁ := [_]) (l₂ := [_])))
    exact Effs.nil
  refine DAny.meet (α := Nat × Nat × Nat × Nat × Nat) 6 #[true, true, true, true, true, true, true, true, false, true, true, true, false, true, true, true, true, true, true, true, true, false, false, false, false] (fun a => match a with | (mT, mS, mP, mF, mL) => [(1, .ip t.cells), (2, .mp mI 0), (3, .mp mA 0), (4, .mp mE 0), (12, .agg t.cells), (15, vi ((t.exprs.map Ex.cells).length : Int)), (19, vi ((t.exprs.map Ex.cells).length : Int)), (23, vi ((t.stmts.map St.cells).length : Int)), (27, vi ((t.stmts.map St.cells).length : Int)), (31, vi ((t.funcs.map Fu.cells).length : Int)), (16, .sl 1 mT 0 (t.exprs.map Ex.cells).length), (28, .sl 1 mF 0 (t.stmts.map St.cells).length), (32, .sl 1 mL 0 (t.funcs.map Fu.cells).length)]) (fun a => match a with | (mT, mS, mP, mF, mL) => [.mu mI [nilv, nilv, nilv, nilv, nilv], .mu mA [vi 0], .mu mE [vi 0], .mu mT (List.replicate (t.exprs.map Ex.cells).length (List.map AV.v (TT 3).zero)).flatten, .mu mF (List.replicate (t.stmts.map St.cells).length (List.map AV.v (TT 3).zero)).flatten, .mu mL (List.replicate (t.funcs.map Fu.cells).length (List.map AV.v (TT 30).zero)).flatten]) (fun hTFL => ?_) ?_
  rotate_left
  · rintro ⟨mT, _, _, mF, mL⟩
    refine DAny.effs [8] (by kernel_rfl) (by decide) ?_
    refine Effs.cons 8 rfl (.none rfl) rfl (AOp.callP 0 rfl (by kernel_rfl) rfl rfl rfl (none38 (t.exprs.map Ex.cells).length (by omega)) (by rintro _ _ ⟨m⟩; exact DAny.at_ ZCode.closes (hTSFL (mT, m, 0, mF, mL)) (by kernel_rfl) (.cons rfl (.cons rfl (.cons rfl (.cons rfl (.cons rfl (.cons rfl (.cons rfl (.cons rfl (.cons rfl (.cons rfl (.cons rfl (.cons rfl (.cons rfl (.cons rfl (.nil))))))))))))))) (List.perm_middle (l₁ := [_, _, _, _]) (l₂ := [_, _])).symm) (by rintro _ _ ⟨⟩)) ?_
    exact Effs.nil
  refine DAny.meet (α := Nat × Nat × Nat × Nat × Nat) 6 #[true, true, true, true, false, true, true, true, true, true, true, true, true, true, true, true, true, true, true, true, false, false, false, false, false] (fun a => match a with | (mT, mS, mP, mF, mL) => [(1, .ip t.cells), (2, .mp mI 0), (3, .mp mA 0), (4, .mp mE 0), (12, .agg t.cells), (15, vi ((t.exprs.map Ex.cells).length : Int)), (19, vi ((t.exprs.map Ex.cells).length : Int)), (23, vi ((t.stmts.map St.cells).length : Int)), (27, vi ((t.stmts.map St.cells).length : Int)), (31, vi ((t.funcs.map Fu.cells).length : Int)), (20, .sl 1 mS 0 (t.exprs.map Ex.cells).length), (24, .sl 1 mP 0 (t.stmts.map St.cells).length), (28, .sl 1 mF 0 (t.stmts.map St.cells).length)]) (fun a => match a with | (mT, mS, mP, mF, mL) => [.mu mI [nilv, nilv, nilv, nilv, nilv], .mu mA [vi 0], .mu mE [vi 0], .mu mS (List.replicate (t.exprs.map Ex.cells).length (vi (-1))), .mu mP (List.replicate (t.stmts.map St.cells).length (vi (-1))), .mu mF (List.replicate (t.stmts.map St.cells).length (List.map AV.v (TT 3).zero)).flatten]) (fun hSPF => ?_) ?_
  rotate_left
  · rintro ⟨_, mS, mP, mF, _⟩
    refine DAny.effs [4, 20] (by kernel_rfl) (by decide) ?_
    refine Effs.cons 4 rfl (.none rfl) rfl (AOp.makeP (n := (t.exprs.map Ex.cells).length) rfl rfl rfl (tok _ rfl) rfl (tok _ rfl) (by decide) rfl rfl (fun _ => rfl) (by omega) rfl (fun m => ?_)) ?_
    · exact DAny.at_ ZCode.closes (hTSPF (m, mS, mP, mF, 0)) (by kernel_rfl) (.cons rfl (.cons rfl (.cons rfl (.cons rfl (.cons rfl (.cons rfl (.cons rfl (.cons rfl (.cons rfl (.cons rfl (.cons rfl (.cons rfl (.cons rfl (.cons rfl (.nil))))))))))))))) (List.Perm.append_left [_, _, _] (List.perm_append_comm (l₁ := [_, _, _]) (l₂ := [_])))
    refine Effs.cons 20 rfl (.none rfl) rfl (AOp.makeP (n := (t.funcs.map Fu.cells).length) rfl rfl rfl (tok _ rfl) rfl (tok _ rfl) (by decide) rfl rfl (fun _ => rfl) (by omega) rfl (fun m => ?_)) ?_
    · exact DAny.at_ ZCode.closes (hSPFL (0, mS, mP, mF, m)) (by kernel_rfl) (.cons rfl (.cons rfl (.cons rfl (.cons rfl (.cons rfl (.cons rfl (.cons rfl (.cons rfl (.cons rfl (.cons rfl (.cons rfl (.cons rfl (.cons rfl (.cons rfl (.nil))))))))))))))) (List.Perm.refl _)
    exact Effs.nil
  refine DAny.meet (α := Nat × Nat × Nat × Nat × Nat) 6 #[true, true, true, true, false, true, true, true, true, true, true, true, true, true, true, true, false, true, true, true, true, false, false, false, false] (fun a => match a with | (mT, mS, mP, mF, mL) => [(1, .ip t.cells), (2, .mp mI 0), (3, .mp mA 0), (4, .mp mE 0), (12, .agg t.cells), (15, vi ((t.exprs.map Ex.cells).length : Int)), (19, vi ((t.exprs.map Ex.cells).length : Int)), (23, vi ((t.stmts.map St.cells).length : Int)), (27, vi ((t.stmts.map St.cells).length : Int)), (31, vi ((t.funcs.map Fu.cells).length : Int)), (20, .sl 1 mS 0 (t.exprs.map Ex.cells).length), (24, .sl 1 mP 0 (t.stmts.map St.cells).length), (32, .sl 1 mL 0 (t.funcs.map Fu.cells).length)]) (fun a => match a with | (mT, mS, mP, mF, mL) => [.mu mI [nilv, nilv, nilv, nilv, nilv], .mu mA [vi 0], .mu mE [vi 0], .mu mS (List.replicate (t.exprs.map Ex.cells).length (vi (-1))), .mu mP (List.replicate (t.stmts.map St.cells).length (vi (-1))), .mu mL (List.replicate (t.funcs.map Fu.cells).length (List.map AV.v (TT 30).zero)).flatten]) (fun hSPL => ?_) ?_
  rotate_left
  · rintro ⟨_, mS, mP, _, mL⟩
    refine DAny.effs [4, 16] (by kernel_rfl) (by decide) ?_
    refine Effs.cons 4 rfl (.none rfl) rfl (AOp.makeP (n := (t.exprs.map Ex.cells).length) rfl rfl rfl (tok _ rfl) rfl (tok _ rfl) (by decide) rfl rfl (fun _ => rfl) (by omega) rfl (fun m => ?_)) ?_
    · exact DAny.at_ ZCode.closes (hTSPL (m, mS, mP, 0, mL)) (by kernel_rfl) (.cons rfl (.cons rfl (.cons rfl (.cons rfl (.cons rfl (.cons rfl (.cons rfl (.cons rfl (.cons rfl (.cons rfl (.cons rfl (.cons rfl (.cons rfl (.cons rfl (.nil))))))))))))))) (List.Perm.append_left [_, _, _] (List.perm_append_comm (l₁ := [_, _, _]) (l₂ := [_])))
    refine Effs.cons 16 rfl (.none rfl) rfl (AOp.makeP (n := (t.stmts.map St.cells).length) rfl rfl rfl (tok _ rfl) rfl (tok _ rfl) (by decide) rfl rfl (fun _ => rfl) (by omega) rfl (fun m => ?_)) ?_
    · exact DAny.at_ ZCode.closes (hSPFL (0, mS, mP, m, mL)) (by kernel_rfl) (.cons rfl (.cons rfl (.cons rfl (.cons rfl (.cons rfl (.cons rfl (.cons rfl (.cons rfl (.cons rfl (.cons rfl (.cons rfl (.cons rfl (.cons rfl (.cons rfl (.nil))))))))))))))) (List.Perm.append_left [_, _, _, _, _] (List.perm_append_comm (l₁ := [_]) (l₂ := [_])))
    exact Effs.nil
  refine DAny.meet (α := Nat × Nat × Nat × Nat × Nat) 6 #[true, true, true, true, false, true, true, true, true, true, true, true, false, true, true, true, true, true, true, true, true, false, false, false, false] (fun a => match a with | (mT, mS, mP, mF, mL) => [(1, .ip t.cells), (2, .mp mI 0), (3, .mp mA 0), (4, .mp mE 0), (12, .agg t.cells), (15, vi ((t.exprs.map Ex.cells).length : Int)), (19, vi ((t.exprs.map Ex.cells).length : Int)), (23, vi ((t.stmts.map St.cells).length : Int)), (27, vi ((t.stmts.map St.cells).length : Int)), (31, vi ((t.funcs.map Fu.cells).length : Int)), (20, .sl 1 mS 0 (t.exprs.map Ex.cells).length), (28, .sl 1 mF 0 (t.stmts.map St.cells).length), (32, .sl 1 mL 0 (t.funcs.map Fu.cells).length)]) (fun a => match a with | (mT, mS, mP, mF, mL) => [.mu mI [nilv, nilv, nilv, nilv, nilv], .mu mA [vi 0], .mu mE [vi 0], .mu mS (List.replicate (t.exprs.map Ex.cells).length (vi (-1))), .mu mF (List.replicate (t.stmts.map St.cells).length (List.map AV.v (TT 3).zero)).flatten, .mu mL (List.replicate (t.funcs.map Fu.cells).length (List.map AV.v (TT 30).zero)).flatten]) (fun hSFL => ?_) ?_
  rotate_left
  · rintro ⟨_, mS, _, mF, mL⟩
    refine DAny.effs [4, 12] (by kernel_rfl) (by decide) ?_
    refine Effs.cons 4 rfl (.none rfl) rfl (AOp.makeP (n := (t.exprs.map Ex.cells).length) rfl rfl rfl (tok _ rfl) rfl (tok _ rfl) (by decide) rfl rfl (fun _ => rfl) (by omega) rfl (fun m => ?_)) ?_
    · exact DAny.at_ ZCode.closes (hTSFL (m, mS, 0, mF, mL)) (by kernel_rfl) (.cons rfl (.cons rfl (.cons rfl (.cons rfl (.cons rfl (.cons rfl (.cons rfl (.cons rfl (.cons rfl (.cons rfl (.cons rfl (.cons rfl (.cons rfl (.cons rfl (.nil))))))))))))))) (List.Perm.append_left [_, _, _] (List.perm_append_comm (l₁ := [_, _, _]) (l₂ := [_])))
    refine Effs.cons 12 rfl (.none rfl) rfl (AOp.callP 0 rfl (by kernel_rfl) rfl rfl rfl (none38 (t.stmts.map St.cells).length (by omega)) (by rintro _ _ ⟨m⟩; exact DAny.at_ ZCode.closes (hSPFL (0, mS, m, mF, mL)) (by kernel_rfl) (.cons rfl (.cons rfl (.cons rfl (.cons rfl (.cons rfl (.cons rfl (.cons rfl (.cons rfl (.cons rfl (.cons rfl (.cons rfl (.cons rfl (.cons rfl (.cons rfl (.nil))))))))))))))) (List.perm_middle (l₁ := [_, _, _, _]) (l₂ := [_, _])).symm) (by rintro _ _ ⟨⟩)) ?_
    exact Effs.nil
  refine DAny.meet (α := Nat × Nat × Nat × Nat × Nat) 7 #[true, true, true, true, true, true, true, true, true, true, true, true, false, true, true, true, false, true, true, true, false, false, false, false, false] (fun a => match a with | (mT, mS, mP, mF, mL) => [(1, .ip t.cells), (2, .mp mI 0), (3, .mp mA 0), (4, .mp mE 0), (12, .agg t.cells), (15, vi ((t.exprs.map Ex.cells).length : Int)), (19, vi ((t.exprs.map Ex.cells).length : Int)), (23, vi ((t.stmts.map St.cells).length : Int)), (27, vi ((t.stmts.map St.cells).length : Int)), (31, vi ((t.funcs.map Fu.cells).length : Int)), (16, .sl 1 mT 0 (t.exprs.map Ex.cells).length), (20, .sl 1 mS 0 (t.exprs.map Ex.cells).length)]) (fun a => match a with | (mT, mS, mP, mF, mL) => [.mu mI [nilv, nilv, nilv, nilv, nilv], .mu mA [vi 0], .mu mE [vi 0], .mu mT (List.replicate (t.exprs.map Ex.cells).length (List.map AV.v (TT 3).zero)).flatten, .mu mS (List.replicate (t.exprs.map Ex.cells).length (vi (-1)))]) (fun hTS => ?_) ?_
  rotate_left
  · rintro ⟨mT, mS, _, _, _⟩
    refine DAny.effs [12, 16, 20] (by kernel_rfl) (by decide) ?_
    refine Effs.cons 12 rfl (.none rfl) rfl (AOp.callP 0 rfl (by kernel_rfl) rfl rfl rfl (none38 (t.stmts.map St.cells).length (by omega)) (by rintro _ _ ⟨m⟩; exact DAny.at_ ZCode.closes (hTSP (mT, mS, m, 0, 0)) (by kernel_rfl) (.cons rfl (.cons rfl (.cons rfl (.cons rfl (.cons rfl (.cons rfl (.cons rfl (.cons rfl (.cons rfl (.cons rfl (.cons rfl (.cons rfl (.cons rfl (.nil)))))))))))))) (List.perm_middle (l₁ := [_, _, _, _, _]) (l₂ := [])).symm) (by rintro _ _ ⟨⟩)) ?_
    refine Effs.cons 16 rfl (.none rfl) rfl (AOp.makeP (n := (t.stmts.map St.cells).length) rfl rfl rfl (tok _ rfl) rfl (tok _ rfl) (by decide) rfl rfl (fun _ => rfl) (by omega) rfl (fun m => ?_)) ?_
    · exact DAny.at_ ZCode.closes (hTSF (mT, mS, 0, m, 0)) (by kernel_rfl) (.cons rfl (.cons rfl (.cons rfl (.cons rfl (.cons rfl (.cons rfl (.cons rfl (.cons rfl (.cons rfl (.cons rfl (.cons rfl (.cons rfl (.cons rfl (.nil)))))))))))))) (List.Perm.refl _)
    refine Effs.cons 20 rfl (.none rfl) rfl (AOp.makeP (n := (t.funcs.map Fu.cells).length) rfl rfl rfl (tok _ rfl) rfl (tok _ rfl) (by decide) rfl rfl (fun _ => rfl) (by omega) rfl (fun m => ?_)) ?_
    · exact DAny.at_ ZCode.closes (hTSL (mT, mS, 0, 0, m)) (by kernel_rfl) (.cons rfl (.cons rfl (.cons rfl (.cons rfl (.cons rfl (.cons rfl (.cons rfl (.cons rfl (.cons rfl (.cons rfl (.cons rfl (.cons rfl (.cons rfl (.nil)))))))))))))) (List.Perm.refl _)
    exact Effs.nil
  refine DAny.meet (α := Nat × Nat × Nat × Nat × Nat) 7 #[true, true, true, true, true, true, true, true, false, true, true, true, false, true, true, true, true, true, true, true, false, false, false, false, false] (fun a => match a with | (mT, mS, mP, mF, mL) => [(1, .ip t.cells), (2, .mp mI 0), (3, .mp mA 0), (4, .mp mE 0), (12, .agg t.cells), (15, vi ((t.exprs.map Ex.cells).length : Int)), (19, vi ((t.exprs.map Ex.cells).length : Int)), (23, vi ((t.stmts.map St.cells).length : Int)), (27, vi ((t.stmts.map St.cells).length : Int)), (31, vi ((t.funcs.map Fu.cells).length : Int)), (16, .sl 1 mT 0 (t.exprs.map Ex.cells).length), (28, .sl 1 mF 0 (t.stmts.map St.cells).length)]) (fun a => match a with | (mT, mS, mP, mF, mL) => [.mu mI [nilv, nilv, nilv, nilv, nilv], .mu mA [vi 0], .mu mE [vi 0], .mu mT (List.replicate (t.exprs.map Ex.cells).length (List.map AV.v (TT 3).zero)).flatten, .mu mF (List.replicate (t.stmts.map St.cells).length (List.map AV.v (TT 3).zero)).flatten]) (fun hTF => ?_) ?_
  rotate_left
  · rintro ⟨mT, _, _, mF, _⟩
    refine DAny.effs [8, 20] (by kernel_rfl) (by decide) ?_
    refine Effs.cons 8 rfl (.none rfl) rfl (AOp.callP 0 rfl (by kernel_rfl) rfl rfl rfl (none38 (t.exprs.map Ex.cells).length (by omega)) (by rintro _ _ ⟨m⟩; exact DAny.at_ ZCode.closes (hTSF (mT, m, 0, mF, 0)) (by kernel_rfl) (.cons rfl (.cons rfl (.cons rfl (.cons rfl (.cons rfl (.cons rfl (.cons rfl (.cons rfl (.cons rfl (.cons rfl (.cons rfl (.cons rfl (.cons rfl (.nil)))))))))))))) (List.perm_middle (l₁ := [_, _, _, _]) (l₂ := [_])).symm) (by rintro _ _ ⟨⟩)) ?_
    refine Effs.cons 20 rfl (.none rfl) rfl (AOp.makeP (n := (t.funcs.map Fu.cells).length) rfl rfl rfl (tok _ rfl) rfl (tok _ rfl) (by decide) rfl rfl (fun _ => rfl) (by omega) rfl (fun m => ?_)) ?_
    · exact DAny.at_ ZCode.closes (hTFL (mT, 0, 0, mF, m)) (by kernel_rfl) (.cons rfl (.cons rfl (.cons rfl (.cons rfl (.cons rfl (.cons rfl (.cons rfl (.cons rfl (.cons rfl (.cons rfl (.cons rfl (.cons rfl (.cons rfl (.nil)))))))))))))) (List.Perm.refl _)
    exact Effs.nil
  refine DAny.meet (α := Nat × Nat × Nat × Nat × Nat) 7 #[true, true, true, true, true, true, true, true, false, true, true, true, false, true, true, true, false, true, true, true, true, false, false, false, false] (fun a => match a with | (mT, mS, mP, mF, mL) => [(1, .ip t.cells), (2, .mp mI 0), (3, .mp mA 0), (4, .mp mE 0), (12, .agg t.cells), (15, vi ((t.exprs.map Ex.cells).length : Int)), (19, vi ((t.exprs.map Ex.cells).length : Int)), (23, vi ((t.stmts.map St.cells).length : Int)), (27, vi ((t.stmts.map St.cells).length : Int)), (31, vi ((t.funcs.map Fu.cells).length : Int)), (16, .sl 1 mT 0 (t.exprs.map Ex.cells).length), (32, .sl 1 mL 0 (t.funcs.map Fu.cells).length)]) (fun a => match a with | (mT, mS, mP, mF, mL) => [.mu mI [nilv, nilv, nilv, nilv, nilv], .mu mA [vi 0], .mu mE [vi 0], .mu mT (List.replicate (t.exprs.map Ex.cells).length (List.map AV.v (TT 3).zero)).flatten, .mu mL (List.replicate (t.funcs.map Fu.cells).length (List.map AV.v (TT 30).zero)).flatten]) (fun hTL => ?_) ?_
  rotate_left
  · rintro ⟨mT, _, _, _, mL⟩
    refine DAny.effs [8, 16] (by kernel_rfl) (by decide) ?_
    refine Effs.cons 8 rfl (.none rfl) rfl (AOp.callP 0 rfl (by kernel_rfl) rfl rfl rfl (none38 (t.exprs.map Ex.cells).length (by omega)) (by rintro _ _ ⟨m⟩; exact DAny.at_ ZCode.closes (hTSL (mT, m, 0, 0, mL)) (by kernel_rfl) (.cons rfl (.cons rfl (.cons rfl (.cons rfl (.cons rfl (.cons rfl (.cons rfl (.cons rfl (.cons rfl (.cons rfl (.cons rfl (.cons rfl (.cons rfl (.nil)))))))))))))) (List.perm_middle (l₁ := [_, _, _, _]) (l₂ := [_])).symm) (by rintro _ _ ⟨⟩)) ?_
    refine Effs.cons 16 rfl (.none rfl) rfl (AOp.makeP (n := (t.stmts.map St.cells).length) rfl rfl rfl (tok _ rfl) rfl (tok _ rfl) (by decide) rfl rfl (fun _ => rfl) (by omega) rfl (fun m => ?_)) ?_
    · exact DAny.at_ ZCode.closes (hTFL (mT, 0, 0, m, mL)) (by kernel_rfl) (.cons rfl (.cons rfl (.cons rfl (.cons rfl (.cons rfl (.cons rfl (.cons rfl (.cons rfl (.cons rfl (.cons rfl (.cons rfl (.cons rfl (.cons rfl (.nil)))))))))))))) (List.Perm.append_left [_, _, _, _] (List.perm_append_comm (l₁ := [_]) (l₂ := [_])))
    exact Effs.nil
  refine DAny.meet (α := Nat × Nat × Nat × Nat × Nat) 7 #[true, true, true, true, false, true, true, true, true, true, true, true, true, true, true, true, false, true, true, true, false, false, false, false, false] (fun a => match a with | (mT, mS, mP, mF, mL) => [(1, .ip t.cells), (2, .mp mI 0), (3, .mp mA 0), (4, .mp mE 0), (12, .agg t.cells), (15, vi ((t.exprs.map Ex.cells).length : Int)), (19, vi ((t.exprs.map Ex.cells).length : Int)), (23, vi ((t.stmts.map St.cells).length : Int)), (27, vi ((t.stmts.map St.cells).length : Int)), (31, vi ((t.funcs.map Fu.cells).length : Int)), (20, .sl 1 mS 0 (t.exprs.map Ex.cells).length), (24, .sl 1 mP 0 (t.stmts.map St.cells).length)]) (fun a => match a with | (mT, mS, mP, mF, mL) => [.mu mI [nilv, nilv, nilv, nilv, nilv], .mu mA [vi 0], .mu mE [vi 0], .mu mS (List.replicate (t.exprs.map Ex.cells).length (vi (-1))), .mu mP (List.replicate (t.stmts.map St.cells).length (vi (-1)))]) (fun hSP => ?_) ?_
  rotate_left
  · rintro ⟨_, mS, mP, _, _⟩
    refine DAny.effs [4, 16, 20] (by kernel_rfl) (by decide) ?_
    refine Effs.cons 4 rfl (.none rfl) rfl (AOp.makeP (n := (t.exprs.map Ex.cells).length) rfl rfl rfl (tok _ rfl) rfl (tok _ rfl) (by decide) rfl rfl (fun _ => rfl) (by omega) rfl (fun m => ?_)) ?_
    · exact DAny.at_ ZCode.closes (hTSP (m, mS, mP, 0, 0)) (by kernel_rfl) (.cons rfl (.cons rfl (.cons rfl (.cons rfl (.cons rfl (.cons rfl (.cons rfl (.cons rfl (.cons rfl (.cons rfl (.cons rfl (.cons rfl (.cons rfl (.nil)))))))))))))) (List.Perm.append_left [_, _, _] (List.perm_append_comm (l₁ := [_, _]) (l₂ := [_])))
    refine Effs.cons 16 rfl (.none rfl) rfl (AOp.makeP (n := (t.stmts.map St.cells).length) rfl rfl rfl (tok _ rfl) rfl (tok _ rfl) (by decide) rfl rfl (fun _ => rfl) (by omega) rfl (fun m => ?_)) ?_
    · exact DAny.at_ ZCode.closes (hSPF (0, mS, mP, m, 0)) (by kernel_rfl) (.cons rfl (.cons rfl (.cons rfl (.cons rfl (.cons rfl (.cons rfl (.cons rfl (.cons rfl (.cons rfl (.cons rfl (.cons rfl (.cons rfl (.cons rfl (.nil)))))))))))))) (List.Perm.refl _)
    refine Effs.cons 20 rfl (.none rfl) rfl (AOp.makeP (n := (t.funcs.map Fu.cells).length) rfl rfl rfl (tok _ rfl) rfl (tok _ rfl) (by decide) rfl rfl (fun _ => rfl) (by omega) rfl (fun m => ?_)) ?_
    · exact DAny.at_ ZCode.closes (hSPL (0, mS, mP, 0, m)) (by kernel_rfl) (.cons rfl (.cons rfl (.cons rfl (.cons rfl (.cons rfl (.cons rfl (.cons rfl (.cons rfl (.cons rfl (.cons rfl (.cons rfl (.cons rfl (.cons rfl (.nil)))))))))))))) (List.Perm.refl _)
    exact Effs.nil
  refine DAny.meet (α := Nat × Nat × Nat × Nat × Nat) 7 #[true, true, true, true, false, true, true, true, true, true, true, true, false, true, true, true, true, true, true, true, false, false, false, false, false] (fun a => match a with | (mT, mS, mP, mF, mL) => [(1, .ip t.cells), (2, .mp mI 0), (3, .mp mA 0), (4, .mp mE 0), (12, .agg t.cells), (15, vi ((t.exprs.map Ex.cells).length : Int)), (19, vi ((t.exprs.map Ex.cells).length : Int)), (23, vi ((t.stmts.map St.cells).length : Int)), (27, vi ((t.stmts.map St.cells).length : Int)), (31, vi ((t.funcs.map Fu.cells).length : Int)), (20, .sl 1 mS 0 (t.exprs.map Ex.cells).length), (28, .sl 1 mF 0 (t.stmts.map St.cells).length)]) (fun a => match a with | (mT, mS, mP, mF, mL) => [.mu mI [nilv, nilv, nilv, nilv, nilv], .mu mA [vi 0], .mu mE [vi 0], .mu mS (List.replicate (t.exprs.map Ex.cells).length (vi (-1))), .mu mF (List.replicate (t.stmts.map St.cells).length (List.map AV.v (TT 3).zero)).flatten]) (fun hSF => ?_) ?_
  rotate_left
  · rintro ⟨_, mS, _, mF, _⟩
    refine DAny.effs [4, 12, 20] (by kernel_rfl) (by decide) ?_
    refine Effs.cons 4 rfl (.none rfl) rfl (AOp.makeP (n := (t.exprs.map Ex.cells).length) rfl rfl rfl (tok _ rfl) rfl (tok _ rfl) (by decide) rfl rfl (fun _ => rfl) (by omega) rfl (fun m => ?_)) ?_
    · exact DAny.at_ ZCode.closes (hTSF (m, mS, 0, mF, 0)) (by kernel_rfl) (.cons rfl (.cons rfl (.cons rfl (.cons rfl (.cons rfl (.cons rfl (.cons rfl (.cons rfl (.cons rfl (.cons rfl (.cons rfl (.cons rfl (.cons rfl (.nil)))))))))))))) (List.Perm.append_left [_, _, _] (List.perm_append_comm (l₁ := [_, _]) (l₂ := [_])))
    refine Effs.cons 12 rfl (.none rfl) rfl (AOp.callP 0 rfl (by kernel_rfl) rfl rfl rfl (none38 (t.stmts.map St.cells).length (by omega)) (by rintro _ _ ⟨m⟩; exact DAny.at_ ZCode.closes (hSPF (0, mS, m, mF, 0)) (by kernel_rfl) (.cons rfl (.cons rfl (.cons rfl (.cons rfl (.cons rfl (.cons rfl (.cons rfl (.cons rfl (.cons rfl (.cons rfl (.cons rfl (.cons rfl (.cons rfl (.nil)))))))))))))) (List.perm_middle (l₁ := [_, _, _, _]) (l₂ := [_])).symm) (by rintro _ _ ⟨⟩)) ?_
    refine Effs.cons 20 rfl (.none rfl) rfl (AOp.makeP (n := (t.funcs.map Fu.cells).length) rfl rfl rfl (tok _ rfl) rfl (tok _ rfl) (by decide) rfl rfl (fun _ => rfl) (by omega) rfl (fun m => ?_)) ?_
    · exact DAny.at_ ZCode.closes (hSFL (0, mS, 0, mF, m)) (by kernel_rfl) (.cons rfl (.cons rfl (.cons rfl (.cons rfl (.cons rfl (.cons rfl (.cons rfl (.cons rfl (.cons rfl (.cons rfl (.cons rfl (.cons rfl (.cons rfl (.nil)))))))))))))) (List.Perm.refl _)
    exact Effs.nil
  refine DAny.meet (α := Nat × Nat × Nat × Nat × Nat) 7 #[true, true, true, true, false, true, true, true, true, true, true, true, false, true, true, true, false, true, true, true, true, false, false, false, false] (fun a => match a with | (mT, mS, mP, mF, mL) => [(1, .ip t.cells), (2, .mp mI 0), (3, .mp mA 0), (4, .mp mE 0), (12, .agg t.cells), (15, vi ((t.exprs.map Ex.cells).length : Int)), (19, vi ((t.exprs.map Ex.cells).length : Int)), (23, vi ((t.stmts.map St.cells).length : Int)), (27, vi ((t.stmts.map St.cells).length : Int)), (31, vi ((t.funcs.map Fu.cells).length : Int)), (20, .sl 1 mS 0 (t.exprs.map Ex.cells).length), (32, .sl 1 mL 0 (t.funcs.map Fu.cells).length)]) (fun a => match a with | (mT, mS, mP, mF, mL) => [.mu mI [nilv, nilv, nilv, nilv, nilv], .mu mA [vi 0], .mu mE [vi 0], .mu mS (List.replicate (t.exprs.map Ex.cells).length (vi (-1))), .mu mL (List.replicate (t.funcs.map Fu.cells).length (List.map AV.v (TT 30).zero)).flatten]) (fun hSL => ?_) ?_
  rotate_left
  · rintro ⟨_, mS, _, _, mL⟩
    refine DAny.effs [4, 12, 16] (by kernel_rfl) (by decide) ?_
    refine Effs.cons 4 rfl (.none rfl) rfl (AOp.makeP (n := (t.exprs.map Ex.cells).length) rfl rfl rfl (tok _ rfl) rfl (tok _ rfl) (by decide) rfl rfl (fun _ => rfl) (by omega) rfl (fun m => ?_)) ?_
    · exact DAny.at_ ZCode.closes (hTSL (m, mS, 0, 0, mL)) (by kernel_rfl) (.cons rfl (.cons rfl (.cons rfl (.cons rfl (.cons rfl (.cons rfl (.cons rfl (.cons rfl (.cons rfl (.cons rfl (.cons rfl (.cons rfl (.cons rfl (.nil)))))))))))))) (List.Perm.append_left [_, _, _] (List.perm_append_comm (l₁ := [_, _]) (l₂ := [_])))
    refine Effs.cons 12 rfl (.none rfl) rfl (AOp.callP 0 rfl (by kernel_rfl) rfl rfl rfl (none38 (t.stmts.map St.cells).length (by omega)) (by rintro _ _ ⟨m⟩; exact DAny.at_ ZCode.closes (hSPL (0, mS, m, 0, mL)) (by kernel_rfl) (.cons rfl (.cons rfl (.cons rfl (.cons rfl (.cons rfl (.cons rfl (.cons rfl (.cons rfl (.cons rfl (.cons rfl (.cons rfl (.cons rfl (.cons rfl (.nil)))))))))))))) (List.perm_middle (l₁ := [_, _, _, _]) (l₂ := [_])).symm) (by rintro _ _ ⟨⟩)) ?_
    refine Effs.cons 16 rfl (.none rfl) rfl (AOp.makeP (n := (t.stmts.map St.cells).length) rfl rfl rfl (tok _ rfl) rfl (tok _ rfl) (by decide) rfl rfl (fun _ => rfl) (by omega) rfl (fun m => ?_)) ?_
    · exact DAny.at_ ZCode.closes (hSFL (0, mS, 0, m, mL)) (by kernel_rfl) (.cons rfl (.cons rfl (.cons rfl (.cons rfl (.cons rfl (.cons rfl (.cons rfl (.cons rfl (.cons rfl (.cons rfl (.cons rfl (.cons rfl (.cons rfl (.nil)))))))))))))) (List.Perm.append_left [_, _, _, _] (List.perm_append_comm (l₁ := [_]) (l₂ := [_])))
    exact Effs.nil
  refine DAny.meet (α := Nat × Nat × Nat × Nat × Nat) 7 #[true, true, true, true, false, true, true, true, false, true, true, true, false, true, true, true, true, true, true, true, true, false, false, false, false] (fun a => match a with | (mT, mS, mP, mF, mL) => [(1, .ip t.cells), (2, .mp mI 0), (3, .mp mA 0), (4, .mp mE 0), (12, .agg t.cells), (15, vi ((t.exprs.map Ex.cells).length : Int)), (19, vi ((t.exprs.map Ex.cells).length : Int)), (23, vi ((t.stmts.map St.cells).length : Int)), (27, vi ((t.stmts.map St.cells).length : Int)), (31, vi ((t.funcs.map Fu.cells).length : Int)), (28, .sl 1 mF 0 (t.stmts.map St.cells).length), (32, .sl 1 mL 0 (t.funcs.map Fu.cells).length)]) (fun a => match a with | (mT, mS, mP, mF, mL) => [.mu mI [nilv, nilv, nilv, nilv, nilv], .mu mA [vi 0], .mu mE [vi 0], .mu mF (List.replicate (t.stmts.map St.cells).length (List.map AV.v (TT 3).zero)).flatten, .mu mL (List.replicate (t.funcs.map Fu.cells).length (List.map AV.v (TT 30).zero)).flatten]) (fun hFL => ?_) ?_
  rotate_left
  · rintro ⟨_, _, _, mF, mL⟩
    refine DAny.effs [4, 8] (by kernel_rfl) (by decide) ?_
    refine Effs.cons 4 rfl (.none rfl) rfl (AOp.makeP (n := (t.exprs.map Ex.cells).length) rfl rfl rfl (tok _ rfl) rfl (tok _ rfl) (by decide) rfl rfl (fun _ => rfl) (by omega) rfl (fun m => ?_)) ?_
    · exact DAny.at_ ZCode.closes (hTFL (m, 0, 0, mF, mL)) (by kernel_rfl) (.cons rfl (.cons rfl (.cons rfl (.cons rfl (.cons rfl (.cons rfl (.cons rfl (.cons rfl (.cons rfl (.cons rfl (.cons rfl (.cons rfl (.cons rfl (.nil)))))))))))))) (List.Perm.append_left [_, _, _] (List.perm_append_comm (l₁ := [_, _]) (l₂ := [_])))
    refine Effs.cons 8 rfl (.none rfl) rfl (AOp.callP 0 rfl (by kernel_rfl) rfl rfl rfl (none38 (t.exprs.map Ex.cells).length (by omega)) (by rintro _ _ ⟨m⟩; exact DAny.at_ ZCode.closes (hSFL (0, m, 0, mF, mL)) (by kernel_rfl) (.cons rfl (.cons rfl (.cons rfl (.cons rfl (.cons rfl (.cons rfl (.cons rfl (.cons rfl (.cons rfl (.cons rfl (.cons rfl (.cons rfl (.cons rfl (.nil)))))))))))))) (List.perm_middle (l₁ := [_, _, _]) (l₂ := [_, _])).symm) (by rintro _ _ ⟨⟩)) ?_
    exact Effs.nil
  refine DAny.meet (α := Nat × Nat × Nat × Nat × Nat) 8 #[true, true, true, true, true, true, true, true, false, true, true, true, false, true, true, true, false, true, true, true, false, false, false, false, false] (fun a => match a with | (mT, mS, mP, mF, mL) => [(1, .ip t.cells), (2, .mp mI 0), (3, .mp mA 0), (4, .mp mE 0), (12, .agg t.cells), (15, vi ((t.exprs.map Ex.cells).length : Int)), (19, vi ((t.exprs.map Ex.cells).length : Int)), (23, vi ((t.stmts.map St.cells).length : Int)), (27, vi ((t.stmts.map St.cells).length : Int)), (31, vi ((t.funcs.map Fu.cells).length : Int)), (16, .sl 1 mT 0 (t.exprs.map Ex.cells).length)]) (fun a => match a with | (mT, mS, mP, mF, mL) => [.mu mI [nilv, nilv, nilv, nilv, nilv], .mu mA [vi 0], .mu mE [vi 0], .mu mT (List.replicate (t.exprs.map Ex.cells).length (List.map AV.v (TT 3).zero)).flatten]) (fun hT => ?_) ?_
  rotate_left
  · rintro ⟨mT, _, _, _, _⟩
    refine DAny.effs [8, 16, 20] (by kernel_rfl) (by decide) ?_
    refine Effs.cons 8 rfl (.none rfl) rfl (AOp.callP 0 rfl (by kernel_rfl) rfl rfl rfl (none38 (t.exprs.map Ex.cells).length (by omega)) (by rintro _ _ ⟨m⟩; exact DAny.at_ ZCode.closes (hTS (mT, m, 0, 0, 0)) (by kernel_rfl) (.cons rfl (.cons rfl (.cons rfl (.cons rfl (.cons rfl (.cons rfl (.cons rfl (.cons rfl (.cons rfl (.cons rfl (.cons rfl (.cons rfl (.nil))))))))))))) (List.perm_middle (l₁ := [_, _, _, _]) (l₂ := [])).symm) (by rintro _ _ ⟨⟩)) ?_
    refine Effs.cons 16 rfl (.none rfl) rfl (AOp.makeP (n := (t.stmts.map St.cells).length) rfl rfl rfl (tok _ rfl) rfl (tok _ rfl) (by decide) rfl rfl (fun _ => rfl) (by omega) rfl (fun m => ?_)) ?_
    · exact DAny.at_ ZCode.closes (hTF (mT, 0, 0, m, 0)) (by kernel_rfl) (.cons rfl (.cons rfl (.cons rfl (.cons rfl (.cons rfl (.cons rfl (.cons rfl (.cons rfl (.cons rfl (.cons rfl (.cons rfl (.cons rfl (.nil))))))))))))) (List.Perm.refl _)
    refine Effs.cons 20 rfl (.none rfl) rfl (AOp.makeP (n := (t.funcs.map Fu.cells).length) rfl rfl rfl (tok _ rfl) rfl (tok _ rfl) (by decide) rfl rfl (fun _ => rfl) (by omega) rfl (fun m => ?_)) ?_
    · exact DAny.at_ ZCode.closes (hTL (mT, 0, 0, 0, m)) (by kernel_rfl) (.cons rfl (.cons rfl (.cons rfl (.cons rfl (.cons rfl (.cons rfl (.cons rfl (.cons rfl (.cons rfl (.cons rfl (.cons rfl (.cons rfl (.nil))))))))))))) (List.Perm.refl _)
    exact Effs.nil
  refine DAny.meet (α := Nat × Nat × Nat × Nat × Nat) 8 #[true, true, true, true, false, true, true, true, true, true, true, true, false, true, true, true, false, true, true, true, false, false, false, false, false] (fun a => match a with | (mT, mS, mP, mF, mL) => [(1, .ip t.cells), (2, .mp mI 0), (3, .mp mA 0), (4, .mp mE 0), (12, .agg t.cells), (15, vi ((t.exprs.map Ex.cells).length : Int)), (19, vi ((t.exprs.map Ex.cells).length : Int)), (23, vi ((t.stmts.map St.cells).length : Int)), (27, vi ((t.stmts.map St.cells).length : Int)), (31, vi ((t.funcs.map Fu.cells).length : Int)), (20, .sl 1 mS 0 (t.exprs.map Ex.cells).length)]) (fun a => match a with | (mT, mS, mP, mF, mL) => [.mu mI [nilv, nilv, nilv, nilv, nilv], .mu mA [vi 0], .mu mE [vi 0], .mu mS (List.replicate (t.exprs.map Ex.cells).length (vi (-1)))]) (fun hS => ?_) ?_
  rotate_left
  · rintro ⟨_, mS, _, _, _⟩
    refine DAny.effs [4, 12, 16, 20] (by kernel_rfl) (by decide) ?_
    refine Effs.cons 4 rfl (.none rfl) rfl (AOp.makeP (n := (t.exprs.map Ex.cells).length) rfl rfl rfl (tok _ rfl) rfl (tok _ rfl) (by decide) rfl rfl (fun _ => rfl) (by omega) rfl (fun m => ?_)) ?_
    · exact DAny.at_ ZCode.closes (hTS (m, mS, 0, 0, 0)) (by kernel_rfl) (.cons rfl (.cons rfl (.cons rfl (.cons rfl (.cons rfl (.cons rfl (.cons rfl (.cons rfl (.cons rfl (.cons rfl (.cons rfl (.cons rfl (.nil))))))))))))) (List.Perm.append_left [_, _, _] (List.perm_append_comm (l₁ := [_]) (l₂ := [_])))
    refine Effs.cons 12 rfl (.none rfl) rfl (AOp.callP 0 rfl (by kernel_rfl) rfl rfl rfl (none38 (t.stmts.map St.cells).length (by omega)) (by rintro _ _ ⟨m⟩; exact DAny.at_ ZCode.closes (hSP (0, mS, m, 0, 0)) (by kernel_rfl) (.cons rfl (.cons rfl (.cons rfl (.cons rfl (.cons rfl (.cons rfl (.cons rfl (.cons rfl (.cons rfl (.cons rfl (.cons rfl (.cons rfl (.nil))))))))))))) (List.perm_middle (l₁ := [_, _, _, _]) (l₂ := [])).symm) (by rintro _ _ ⟨⟩)) ?_
    refine Effs.cons 16 rfl (.none rfl) rfl (AOp.makeP (n := (t.stmts.map St.cells).length) rfl rfl rfl (tok _ rfl) rfl (tok _ rfl) (by decide) rfl rfl (fun _ => rfl) (by omega) rfl (fun m => ?_)) ?_
    · exact DAny.at_ ZCode.closes (hSF (0, mS, 0, m, 0)) (by kernel_rfl) (.cons rfl (.cons rfl (.cons rfl (.cons rfl (.cons rfl (.cons rfl (.cons rfl (.cons rfl (.cons rfl (.cons rfl (.cons rfl (.cons rfl (.nil))))))))))))) (List.Perm.refl _)
    refine Effs.cons 20 rfl (.none rfl) rfl (AOp.makeP (n := (t.funcs.map Fu.cells).length) rfl rfl rfl (tok _ rfl) rfl (tok _ rfl) (by decide) rfl rfl (fun _ => rfl) (by omega) rfl (fun m => ?_)) ?_
    · exact DAny.at_ ZCode.closes (hSL (0, mS, 0, 0, m)) (by kernel_rfl) (.cons rfl (.cons rfl (.cons rfl (.cons rfl (.cons rfl (.cons rfl (.cons rfl (.cons rfl (.cons rfl (.cons rfl (.cons rfl (.cons rfl (.nil))))))))))))) (List.Perm.refl _)
    exact Effs.nil
  refine DAny.meet (α := Nat × Nat × Nat × Nat × Nat) 8 #[true, true, true, true, false, true, true, true, false, true, true, true, false, true, true, true, true, true, true, true, false, false, false, false, false] (fun a => match a with | (mT, mS, mP, mF, mL) => [(1, .ip t.cells), (2, .mp mI 0), (3, .mp mA 0), (4, .mp mE 0), (12, .agg t.cells), (15, vi ((t.exprs.map Ex.cells).length : Int)), (19, vi ((t.exprs.map Ex.cells).length : Int)), (23, vi ((t.stmts.map St.cells).length : Int)), (27, vi ((t.stmts.map St.cells).length : Int)), (31, vi ((t.funcs.map Fu.cells).length : Int)), (28, .sl 1 mF 0 (t.stmts.map St.cells).length)]) (fun a => match a with | (mT, mS, mP, mF, mL) => [.mu mI [nilv, nilv, nilv, nilv, nilv], .mu mA [vi 0], .mu mE [vi 0], .mu mF (List.replicate (t.stmts.map St.cells).length (List.map AV.v (TT 3).zero)).flatten]) (fun hF => ?_) ?_
  rotate_left
  · rintro ⟨_, _, _, mF, _⟩
    refine DAny.effs [4, 8, 20] (by kernel_rfl) (by decide) ?_
    refine Effs.cons 4 rfl (.none rfl) rfl (AOp.makeP (n := (t.exprs.map Ex.cells).length) rfl rfl rfl (tok _ rfl) rfl (tok _ rfl) (by decide) rfl rfl (fun _ => rfl) (by omega) rfl (fun m => ?_)) ?_
    · exact DAny.at_ ZCode.closes (hTF (m, 0, 0, mF, 0)) (by kernel_rfl) (.cons rfl (.cons rfl (.cons rfl (.cons rfl (.cons rfl (.cons rfl (.cons rfl (.cons rfl (.cons rfl (.cons rfl (.cons rfl (.cons rfl (.nil))))))))))))) (List.Perm.append_left [_, _, _] (List.perm_append_comm (l₁ := [_]) (l₂ := [_])))
    refine Effs.cons 8 rfl (.none rfl) rfl (AOp.callP 0 rfl (by kernel_rfl) rfl rfl rfl (none38 (t.exprs.map Ex.cells).length (by omega)) (by rintro _ _ ⟨m⟩; exact DAny.at_ ZCode.closes (hSF (0, m, 0, mF, 0)) (by kernel_rfl) (.cons rfl (.cons rfl (.cons rfl (.cons rfl (.cons rfl (.cons rfl (.cons rfl (.cons rfl (.cons rfl (.cons rfl (.cons rfl (.cons rfl (.nil))))))))))))) (List.perm_middle (l₁ := [_, _, _]) (l₂ := [_])).symm) (by rintro _ _ ⟨⟩)) ?_
    refine Effs.cons 20 rfl (.none rfl) rfl (AOp.makeP (n := (t.funcs.map Fu.cells).length) rfl rfl rfl (tok _ rfl) rfl (tok _ rfl) (by decide) rfl rfl (fun _ => rfl) (by omega) rfl (fun m => ?_)) ?_
    · exact DAny.at_ ZCode.closes (hFL (0, 0, 0, mF, m)) (by kernel_rfl) (.cons rfl (.cons rfl (.cons rfl (.cons rfl (.cons rfl (.cons rfl (.cons rfl (.cons rfl (.cons rfl (.cons rfl (.cons rfl (.cons rfl (.nil))))))))))))) (List.Perm.refl _)
    exact Effs.nil
  refine DAny.meet (α := Nat × Nat × Nat × Nat × Nat) 8 #[true, true, true, true, false, true, true, true, false, true, true, true, false, true, true, true, false, true, true, true, true, false, false, false, false] (fun a => match a with | (mT, mS, mP, mF, mL) => [(1, .ip t.cells), (2, .mp mI 0), (3, .mp mA 0), (4, .mp mE 0), (12, .agg t.cells), (15, vi ((t.exprs.map Ex.cells).length : Int)), (19, vi ((t.exprs.map Ex.cells).length : Int)), (23, vi ((t.stmts.map St.cells).length : Int)), (27, vi ((t.stmts.map St.cells).length : Int)), (31, vi ((t.funcs.map Fu.cells).length : Int)), (32, .sl 1 mL 0 (t.funcs.map Fu.cells).length)]) (fun a => match a with | (mT, mS, mP, mF, mL) => [.mu mI [nilv, nilv, nilv, nilv, nilv], .mu mA [vi 0], .mu mE [vi 0], .mu mL (List.replicate (t.funcs.map Fu.cells).length (List.map AV.v (TT 30).zero)).flatten]) (fun hL => ?_) ?_
  rotate_left
  · rintro ⟨_, _, _, _, mL⟩
    refine DAny.effs [4, 8, 16] (by kernel_rfl) (by decide) ?_
    refine Effs.cons 4 rfl (.none rfl) rfl (AOp.makeP (n := (t.exprs.map Ex.cells).length) rfl rfl rfl (tok _ rfl) rfl (tok _ rfl) (by decide) rfl rfl (fun _ => rfl) (by omega) rfl (fun m => ?_)) ?_
    · exact DAny.at_ ZCode.closes (hTL (m, 0, 0, 0, mL)) (by kernel_rfl) (.cons rfl (.cons rfl (.cons rfl (.cons rfl (.cons rfl (.cons rfl (.cons rfl (.cons rfl (.cons rfl (.cons rfl (.cons rfl (.cons rfl (.nil))))))))))))) (List.Perm.append_left [_, _, _] (List.perm_append_comm (l₁ := [_]) (l₂ := [_])))
    refine Effs.cons 8 rfl (.none rfl) rfl (AOp.callP 0 rfl (by kernel_rfl) rfl rfl rfl (none38 (t.exprs.map Ex.cells).length (by omega)) (by rintro _ _ ⟨m⟩; exact DAny.at_ ZCode.closes (hSL (0, m, 0, 0, mL)) (by kernel_rfl) (.cons rfl (.cons rfl (.cons rfl (.cons rfl (.cons rfl (.cons rfl (.cons rfl (.cons rfl (.cons rfl (.cons rfl (.cons rfl (.cons rfl (.nil))))))))))))) (List.perm_middle (l₁ := [_, _, _]) (l₂ := [_])).symm) (by rintro _ _ ⟨⟩)) ?_
    refine Effs.cons 16 rfl (.none rfl) rfl (AOp.makeP (n := (t.stmts.map St.cells).length) rfl rfl rfl (tok _ rfl) rfl (tok _ rfl) (by decide) rfl rfl (fun _ => rfl) (by omega) rfl (fun m => ?_)) ?_
    · exact DAny.at_ ZCode.closes (hFL (0, 0, 0, m, mL)) (by kernel_rfl) (.cons rfl (.cons rfl (.cons rfl (.cons rfl (.cons rfl (.cons rfl (.cons rfl (.cons rfl (.cons rfl (.cons rfl (.cons rfl (.cons rfl (.nil))))))))))))) (List.Perm.append_left [_, _, _] (List.perm_append_comm (l₁ := [_]) (l₂ := [_])))
    exact Effs.nil
  refine DAny.effs [4, 8, 16, 20] (by kernel_rfl) (by decide) ?_
  refine Effs.cons 4 rfl (.none rfl) rfl (AOp.makeP (n := (t.exprs.map Ex.cells).length) rfl rfl rfl (tok _ rfl) rfl (tok _ rfl) (by decide) rfl rfl (fun _ => rfl) (by omega) rfl (fun m => ?_)) ?_
  · exact DAny.at_ ZCode.closes (hT (m, 0, 0, 0, 0)) (by kernel_rfl) (.cons rfl (.cons rfl (.cons rfl (.cons rfl (.cons rfl (.cons rfl (.cons rfl (.cons rfl (.cons rfl (.cons rfl (.cons rfl (.nil)))))))))))) (List.Perm.refl _)
  refine Effs.cons 8 rfl (.none rfl) rfl (AOp.callP 0 rfl (by kernel_rfl) rfl rfl rfl (none38 (t.exprs.map Ex.cells).length (by omega)) (by rintro _ _ ⟨m⟩; exact DAny.at_ ZCode.closes (hS (0, m, 0, 0, 0)) (by kernel_rfl) (.cons rfl (.cons rfl (.cons rfl (.cons rfl (.cons rfl (.cons rfl (.cons rfl (.cons rfl (.cons rfl (.cons rfl (.cons rfl (.nil)))))))))))) (List.perm_middle (l₁ := [_, _, _]) (l₂ := [])).symm) (by rintro _ _ ⟨⟩)) ?_
  refine Effs.cons 16 rfl (.none rfl) rfl (AOp.makeP (n := (t.stmts.map St.cells).length) rfl rfl rfl (tok _ rfl) rfl (tok _ rfl) (by decide) rfl rfl (fun _ => rfl) (by omega) rfl (fun m => ?_)) ?_
  · exact DAny.at_ ZCode.closes (hF (0, 0, 0, m, 0)) (by kernel_rfl) (.cons rfl (.cons rfl (.cons rfl (.cons rfl (.cons rfl (.cons rfl (.cons rfl (.cons rfl (.cons rfl (.cons rfl (.cons rfl (.nil)))))))))))) (List.Perm.refl _)
  refine Effs.cons 20 rfl (.none rfl) rfl (AOp.makeP (n := (t.funcs.map Fu.cells).length) rfl rfl rfl (tok _ rfl) rfl (tok _ rfl) (by decide) rfl rfl (fun _ => rfl) (by omega) rfl (fun m => ?_)) ?_
  · exact DAny.at_ ZCode.closes (hL (0, 0, 0, 0, m)) (by kernel_rfl) (.cons rfl (.cons rfl (.cons rfl (.cons rfl (.cons rfl (.cons rfl (.cons rfl (.cons rfl (.cons rfl (.cons rfl (.cons rfl (.nil)))))))))))) (List.Perm.refl _)
  exact Effs.nil
end Go.Proofs.Ytaadamobapnfbaa
set_option linter.unusedVariables false
set_option linter.unusedSimpArgs false
set_option maxRecDepth 1000000
namespace Go.Proofs.Ytaadamobapnfbaa
open Go Go.Abs
theorem IsTree.exOk {s : ByteArray} {t : Tree} {toks : List Tok} {at_ : Int} (h : IsTree s t toks at_) : ∀ (i : Nat) (x : Ex), t.exprs[i]? = Option.some x → ExOk x := fun i x hx => by
  have hlt := (List.getElem?_eq_some_iff.1 hx).1
  obtain ⟨k, g, a', b', c', d', x', y', q1, q2, q3, q4, q5, q6, q7, q8, q9, q10⟩ := h.cov.one_e i (Nat.zero_le _) hlt
  exact (q2.ex i x q9 q10 hx).1
theorem IsTree.x {s : ByteArray} {t : Tree} {toks : List Tok} {at_ : Int} (h : IsTree s t toks at_) : TreeX t := ⟨h.ok.ex, fun i x hx => (h.exOk i x hx).op8⟩
theorem IsTree.check {s : ByteArray} {t : Tree} {toks : List Tok} {at_ : Int} (h : IsTree s t toks at_) : ACalls Try.prog 24 [.agg t.cells] [] (RK t) :=
  check24_ok t h.ok h.x (by have := h.big; omega)
def s6 : ByteArray := ⟨#[102, 117, 110, 99, 32, 109, 97, 105, 110, 40, 41, 32, 123, 32, 112, 114, 105, 110, 116, 32, 120, 59, 32, 125]⟩
theorem s6_code : (parse s6).2.2 = 0 := by decide +kernel
theorem s6_bad : (checked (parse s6).1).code = 6 ∧ (checked (parse s6).1).at_ = 20 := by decide +kernel
set_option maxHeartbeats 1000000 in
theorem awake6_walk : ACalls Try.prog 22 [] [] (RV (.v (.bool true)) []) := by
  have hp := parse_ok s6 (by decide)
  obtain ⟨toks, at_, htree⟩ := parse_tree (s := s6) (by decide) s6_code
  have hck := htree.check
  obtain ⟨b1, b2⟩ := s6_bad
  rw [s6_code] at hp
  change ACalls Try.prog 23 [vs s6] [] _ at hp
  generalize (parse s6).1 = t at *
  refine ACalls.of_code (c := _) Try.func22 rfl Try.ntmps22 (Nat.le_of_ble_eq_true rfl) ?_
  repeat (first | (refine ACode.seq ?_) | (refine ACode.region ?_) | (refine ACode.ret ?_) | (refine ACode.skip ?_) | (refine ACode.exit ?_) | (refine ACode.block ?_) | (refine AExit.then_normal ?_) | (refine AExit.then_ret ?_) | (refine AExit.then_exit ?_) | (refine AExit.in_normal ?_) | (refine AExit.in_ret ?_) | (refine AExit.in_same ?_) | (refine AExit.in_other rfl ?_) | (refine ASeq.nil ?_))
  refine ASeq.q rfl rfl (QOp.assign rfl rfl) ?_
  refine ASeq.nil ?_
  repeat (first | (refine ACode.seq ?_) | (refine ACode.region ?_) | (refine ACode.ret ?_) | (refine ACode.skip ?_) | (refine ACode.exit ?_) | (refine ACode.block ?_) | (refine AExit.then_normal ?_) | (refine AExit.then_ret ?_) | (refine AExit.then_exit ?_) | (refine AExit.in_normal ?_) | (refine AExit.in_ret ?_) | (refine AExit.in_same ?_) | (refine AExit.in_other rfl ?_) | (refine ASeq.nil ?_))
  refine ASeq.op rfl rfl (AOp.callP 0 rfl (by kernel_rfl) rfl rfl rfl (hp) ?_ (by rintro _ _ ⟨⟩))
  rintro _ _ ⟨⟩
  refine ASeq.q rfl rfl (QOp.move rfl rfl) ?_
  refine ASeq.q rfl rfl (QOp.extract rfl rfl rfl) ?_
  refine ASeq.q rfl rfl (QOp.extract rfl rfl rfl) ?_
  refine ASeq.q rfl rfl (QOp.extract rfl rfl rfl) ?_
  refine ASeq.op rfl rfl (AOp.allocP rfl (tok _ rfl) rfl rfl (fun _ => rfl) (fun _ => ?_))
  first | (refine ASeq.op0 rfl rfl (AOp.storeP 0 rfl rfl rfl rfl (tok _ rfl) rfl rfl rfl rfl ?_)) | (refine ASeq.op0 rfl rfl (AOp.storeP 1 rfl rfl rfl rfl (tok _ rfl) rfl rfl rfl rfl ?_)) | (refine ASeq.op0 rfl rfl (AOp.storeP 2 rfl rfl rfl rfl (tok _ rfl) rfl rfl rfl rfl ?_)) | (refine ASeq.op0 rfl rfl (AOp.storeP 3 rfl rfl rfl rfl (tok _ rfl) rfl rfl rfl rfl ?_)) | (refine ASeq.op0 rfl rfl (AOp.storeP 4 rfl rfl rfl rfl (tok _ rfl) rfl rfl rfl rfl ?_)) | (refine ASeq.op0 rfl rfl (AOp.storeP 5 rfl rfl rfl rfl (tok _ rfl) rfl rfl rfl rfl ?_)) | (refine ASeq.op0 rfl rfl (AOp.storeP 6 rfl rfl rfl rfl (tok _ rfl) rfl rfl rfl rfl ?_)) | (refine ASeq.op0 rfl rfl (AOp.storeP 7 rfl rfl rfl rfl (tok _ rfl) rfl rfl rfl rfl ?_)) | (refine ASeq.op0 rfl rfl (AOp.storeP 8 rfl rfl rfl rfl (tok _ rfl) rfl rfl rfl rfl ?_)) | (refine ASeq.op0 rfl rfl (AOp.storeP 9 rfl rfl rfl rfl (tok _ rfl) rfl rfl rfl rfl ?_)) | (refine ASeq.op0 rfl rfl (AOp.storeP 10 rfl rfl rfl rfl (tok _ rfl) rfl rfl rfl rfl ?_)) | (refine ASeq.op0 rfl rfl (AOp.storeP 11 rfl rfl rfl rfl (tok _ rfl) rfl rfl rfl rfl ?_)) | (refine ASeq.op0 rfl rfl (AOp.storeP 12 rfl rfl rfl rfl (tok _ rfl) rfl rfl rfl rfl ?_)) | (refine ASeq.op0 rfl rfl (AOp.storeP 13 rfl rfl rfl rfl (tok _ rfl) rfl rfl rfl rfl ?_)) | (refine ASeq.op0 rfl rfl (AOp.storeP 14 rfl rfl rfl rfl (tok _ rfl) rfl rfl rfl rfl ?_)) | (refine ASeq.op0 rfl rfl (AOp.storeP 15 rfl rfl rfl rfl (tok _ rfl) rfl rfl rfl rfl ?_))
  refine ASeq.q rfl rfl (QOp.assign rfl rfl) ?_
  refine ASeq.q rfl rfl (QOp.assign rfl rfl) ?_
  refine ASeq.nil ?_
  rename_i m1
  repeat (first | (refine ACode.seq ?_) | (refine ACode.region ?_) | (refine ACode.ret ?_) | (refine ACode.skip ?_) | (refine ACode.exit ?_) | (refine ACode.block ?_) | (refine AExit.then_normal ?_) | (refine AExit.then_ret ?_) | (refine AExit.then_exit ?_) | (refine AExit.in_normal ?_) | (refine AExit.in_ret ?_) | (refine AExit.in_same ?_) | (refine AExit.in_other rfl ?_) | (refine ASeq.nil ?_))
  first | (refine ASeq.q rfl rfl (QOp.loadI rfl rfl (tok _ rfl) rfl) ?_) | (refine ASeq.q rfl rfl (QOp.loadM 0 rfl rfl rfl (tok _ rfl) rfl) ?_) | (refine ASeq.q rfl rfl (QOp.loadM 1 rfl rfl rfl (tok _ rfl) rfl) ?_) | (refine ASeq.q rfl rfl (QOp.loadM 2 rfl rfl rfl (tok _ rfl) rfl) ?_) | (refine ASeq.q rfl rfl (QOp.loadM 3 rfl rfl rfl (tok _ rfl) rfl) ?_) | (refine ASeq.q rfl rfl (QOp.loadM 4 rfl rfl rfl (tok _ rfl) rfl) ?_) | (refine ASeq.q rfl rfl (QOp.loadM 5 rfl rfl rfl (tok _ rfl) rfl) ?_) | (refine ASeq.q rfl rfl (QOp.loadM 6 rfl rfl rfl (tok _ rfl) rfl) ?_) | (refine ASeq.q rfl rfl (QOp.loadM 7 rfl rfl rfl (tok _ rfl) rfl) ?_) | (refine ASeq.q rfl rfl (QOp.loadM 8 rfl rfl rfl (tok _ rfl) rfl) ?_) | (refine ASeq.q rfl rfl (QOp.loadM 9 rfl rfl rfl (tok _ rfl) rfl) ?_) | (refine ASeq.q rfl rfl (QOp.loadM 10 rfl rfl rfl (tok _ rfl) rfl) ?_) | (refine ASeq.q rfl rfl (QOp.loadM 11 rfl rfl rfl (tok _ rfl) rfl) ?_) | (refine ASeq.q rfl rfl (QOp.loadM 12 rfl rfl rfl (tok _ rfl) rfl) ?_) | (refine ASeq.q rfl rfl (QOp.loadM 13 rfl rfl rfl (tok _ rfl) rfl) ?_) | (refine ASeq.q rfl rfl (QOp.loadM 14 rfl rfl rfl (tok _ rfl) rfl) ?_) | (refine ASeq.q rfl rfl (QOp.loadM 15 rfl rfl rfl (tok _ rfl) rfl) ?_) | (refine ASeq.q rfl rfl (QOp.loadAt 0 rfl rfl rfl (tok _ rfl) rfl (by assumption)) ?_) | (refine ASeq.q rfl rfl (QOp.loadAt 1 rfl rfl rfl (tok _ rfl) rfl (by assumption)) ?_) | (refine ASeq.q rfl rfl (QOp.loadAt 2 rfl rfl rfl (tok _ rfl) rfl (by assumption)) ?_) | (refine ASeq.q rfl rfl (QOp.loadAt 3 rfl rfl rfl (tok _ rfl) rfl (by assumption)) ?_) | (refine ASeq.q rfl rfl (QOp.loadAt 4 rfl rfl rfl (tok _ rfl) rfl (by assumption)) ?_) | (refine ASeq.q rfl rfl (QOp.loadAt 5 rfl rfl rfl (tok _ rfl) rfl (by assumption)) ?_) | (refine ASeq.q rfl rfl (QOp.loadAt 6 rfl rfl rfl (tok _ rfl) rfl (by assumption)) ?_) | (refine ASeq.q rfl rfl (QOp.loadAt 7 rfl rfl rfl (tok _ rfl) rfl (by assumption)) ?_)
  refine ASeq.op rfl rfl (AOp.callP 0 rfl (by kernel_rfl) rfl rfl rfl hck ?_ (by rintro _ _ ⟨⟩))
  rintro _ _ (⟨hbad⟩ | ⟨hgood, m, τ⟩)
  · rw [b1, b2]
    refine ASeq.q rfl rfl (QOp.move rfl rfl) ?_
    refine ASeq.q rfl rfl (QOp.extract rfl rfl rfl) ?_
    refine ASeq.q rfl rfl (QOp.extract rfl rfl rfl) ?_
    refine ASeq.q rfl rfl (QOp.extract rfl rfl rfl) ?_
    refine ASeq.op rfl rfl (AOp.allocP rfl (tok _ rfl) rfl rfl (fun _ => rfl) (fun _ => ?_))
    first | (refine ASeq.op0 rfl rfl (AOp.storeP 0 rfl rfl rfl rfl (tok _ rfl) rfl rfl rfl rfl ?_)) | (refine ASeq.op0 rfl rfl (AOp.storeP 1 rfl rfl rfl rfl (tok _ rfl) rfl rfl rfl rfl ?_)) | (refine ASeq.op0 rfl rfl (AOp.storeP 2 rfl rfl rfl rfl (tok _ rfl) rfl rfl rfl rfl ?_)) | (refine ASeq.op0 rfl rfl (AOp.storeP 3 rfl rfl rfl rfl (tok _ rfl) rfl rfl rfl rfl ?_)) | (refine ASeq.op0 rfl rfl (AOp.storeP 4 rfl rfl rfl rfl (tok _ rfl) rfl rfl rfl rfl ?_)) | (refine ASeq.op0 rfl rfl (AOp.storeP 5 rfl rfl rfl rfl (tok _ rfl) rfl rfl rfl rfl ?_)) | (refine ASeq.op0 rfl rfl (AOp.storeP 6 rfl rfl rfl rfl (tok _ rfl) rfl rfl rfl rfl ?_)) | (refine ASeq.op0 rfl rfl (AOp.storeP 7 rfl rfl rfl rfl (tok _ rfl) rfl rfl rfl rfl ?_)) | (refine ASeq.op0 rfl rfl (AOp.storeP 8 rfl rfl rfl rfl (tok _ rfl) rfl rfl rfl rfl ?_)) | (refine ASeq.op0 rfl rfl (AOp.storeP 9 rfl rfl rfl rfl (tok _ rfl) rfl rfl rfl rfl ?_)) | (refine ASeq.op0 rfl rfl (AOp.storeP 10 rfl rfl rfl rfl (tok _ rfl) rfl rfl rfl rfl ?_)) | (refine ASeq.op0 rfl rfl (AOp.storeP 11 rfl rfl rfl rfl (tok _ rfl) rfl rfl rfl rfl ?_)) | (refine ASeq.op0 rfl rfl (AOp.storeP 12 rfl rfl rfl rfl (tok _ rfl) rfl rfl rfl rfl ?_)) | (refine ASeq.op0 rfl rfl (AOp.storeP 13 rfl rfl rfl rfl (tok _ rfl) rfl rfl rfl rfl ?_)) | (refine ASeq.op0 rfl rfl (AOp.storeP 14 rfl rfl rfl rfl (tok _ rfl) rfl rfl rfl rfl ?_)) | (refine ASeq.op0 rfl rfl (AOp.storeP 15 rfl rfl rfl rfl (tok _ rfl) rfl rfl rfl rfl ?_))
    refine ASeq.q rfl rfl (QOp.assign rfl rfl) ?_
    refine ASeq.q rfl rfl (QOp.assign rfl rfl) ?_
    refine ASeq.nil ?_
    repeat (first | (refine ACode.seq ?_) | (refine ACode.region ?_) | (refine ACode.ret ?_) | (refine ACode.skip ?_) | (refine ACode.exit ?_) | (refine ACode.block ?_) | (refine AExit.then_normal ?_) | (refine AExit.then_ret ?_) | (refine AExit.then_exit ?_) | (refine AExit.in_normal ?_) | (refine AExit.in_ret ?_) | (refine AExit.in_same ?_) | (refine AExit.in_other rfl ?_) | (refine ASeq.nil ?_))
    refine ASeq.q rfl rfl (QOp.move rfl rfl) ?_
    refine ASeq.q rfl rfl (QOp.cmp rfl rfl rfl rfl) ?_
    refine ASeq.q rfl rfl (QOp.move rfl rfl) ?_
    first | (refine ASeq.gq _ _ rfl rfl rfl rfl (QOp.move rfl rfl) ?_) | (refine ASeq.gno _ _ rfl rfl rfl rfl rfl ?_)
    first | (refine ASeq.gq _ _ rfl rfl rfl rfl (QOp.cmp rfl rfl rfl rfl) ?_) | (refine ASeq.gno _ _ rfl rfl rfl rfl rfl ?_)
    first | (refine ASeq.q rfl rfl (QOp.pickT rfl rfl rfl) ?_) | (refine ASeq.q rfl rfl (QOp.pickF rfl rfl rfl) ?_)
    refine ASeq.q rfl rfl (QOp.move rfl rfl) ?_
    first | (refine ASeq.gq _ _ rfl rfl rfl rfl (QOp.move rfl rfl) ?_) | (refine ASeq.gno _ _ rfl rfl rfl rfl rfl ?_)
    first | (refine ASeq.gq _ _ rfl rfl rfl rfl (QOp.cmp rfl rfl rfl rfl) ?_) | (refine ASeq.gno _ _ rfl rfl rfl rfl rfl ?_)
    first | (refine ASeq.q rfl rfl (QOp.pickT rfl rfl rfl) ?_) | (refine ASeq.q rfl rfl (QOp.pickF rfl rfl rfl) ?_)
    refine ASeq.q rfl rfl (QOp.assign rfl rfl) ?_
    refine ASeq.nil ?_
    repeat (first | (refine ACode.seq ?_) | (refine ACode.region ?_) | (refine ACode.ret ?_) | (refine ACode.skip ?_) | (refine ACode.exit ?_) | (refine ACode.block ?_) | (refine AExit.then_normal ?_) | (refine AExit.then_ret ?_) | (refine AExit.then_exit ?_) | (refine AExit.in_normal ?_) | (refine AExit.in_ret ?_) | (refine AExit.in_same ?_) | (refine AExit.in_other rfl ?_) | (refine ASeq.nil ?_))
    refine bodyQ_ret 0 (.tmp rfl .nil) rfl ?_
    exact .mk
  · rw [b1] at hgood; cases hgood
end Go.Proofs.Ytaadamobapnfbaa
set_option linter.unusedVariables false
set_option linter.unusedSimpArgs false
set_option maxRecDepth 100000
namespace Go.Proofs.Ytaadamobapnfbaa
open Go Go.Abs
/-- how an expression's type and slot agree -/
structure EOk (t : Tree) (tp sl cur : List Int) (j : Nat) (x : Ex) : Prop where
  ty : ∃ k, tp[j]? = some k ∧ (k = 1 ∨ k = 2 ∨ (k = 4 ∧ x.kind = 6))
  ix : x.kind = 5 → tp[x.a.toNat]? = some 1
  nm : x.kind = 4 → ∃ n : Int, sl[j]? = some n ∧ 0 ≤ n ∧ n < cur.length ∧ tp[j]? = some (cur.getD n.toNat 0)
  ar : x.kind = 5 → ∃ n : Int, sl[j]? = some n ∧ 0 ≤ n ∧ n < cur.length ∧ cur.getD n.toNat 0 = 3 ∧ tp[j]? = some 1
  cl : x.kind = 6 → ∃ n : Int, sl[j]? = some n ∧ 0 ≤ n ∧ n < t.funcs.length ∧ sameF x.name (t.funcs.getD n.toNat default) = true ∧ tp[j]? = some (t.funcs.getD n.toNat default).type
  no : x.kind ≠ 4 → x.kind ≠ 5 → x.kind ≠ 6 → sl[j]? = some (-1)
theorem getD_app {l m : List Int} {n : Nat} (h : n < l.length) : (l ++ m).getD n 0 = l.getD n 0 := by
  simp only [List.getD_eq_getElem?_getD, List.getElem?_append_left h]
theorem EOk.keep {t : Tree} {tp sl cur tp' sl' m : List Int} {j : Nat} {x : Ex} (h : EOk t tp sl cur j x) (hwf : x.kind = 5 → 0 ≤ x.a ∧ x.a < j) (hl : ∀ i ≤ j, tp'[i]? = tp[i]? ∧ sl'[i]? = sl[i]?) : EOk t tp' sl' (cur ++ m) j x := by
  have e1 := (hl j (Nat.le_refl _)).1
  have e2 := (hl j (Nat.le_refl _)).2
  refine ⟨by rw [e1]; exact h.ty, fun hk => ?_, fun hk => ?_, fun hk => ?_, fun hk => ?_, fun h1 h2 h3 => by rw [e2]; exact h.no h1 h2 h3⟩
  · have := hwf hk
    rw [(hl x.a.toNat (by omega)).1]; exact h.ix hk
  · obtain ⟨n, a1, a2, a3, a4⟩ := h.nm hk
    refine ⟨n, by rw [e2]; exact a1, a2, by rw [List.length_append]; omega, ?_⟩
    rw [e1, getD_app (by omega)]; exact a4
  · obtain ⟨n, a1, a2, a3, a4, a5⟩ := h.ar hk
    refine ⟨n, by rw [e2]; exact a1, a2, by rw [List.length_append]; omega, ?_, by rw [e1]; exact a5⟩
    rw [getD_app (by omega)]; exact a4
  · obtain ⟨n, a1, a2⟩ := h.cl hk
    exact ⟨n, by rw [e2]; exact a1, a2.1, a2.2.1, a2.2.2.1, by rw [e1]; exact a2.2.2.2⟩
/-- what of a tree is leant on -/
structure Tw (t : Tree) : Prop where
  wf : TreeWf t
  ex : ∀ (i : Nat) (x : Ex), t.exprs[i]? = some x → ExOk x
  fu : ∀ g ∈ t.funcs, g.type = 1 ∨ g.type = 2 ∨ g.type = 4
def CurOk (c : CS) : Prop := ∀ k ∈ c.cur, k = 1 ∨ k = 2 ∨ k = 3
structure ERes (c d : CS) (lo hi : Nat) : Prop where
  kept : Kept c d
  low : ∀ j < lo, d.type[j]? = c.type[j]? ∧ d.slot[j]? = c.slot[j]?
  high : ∀ j, hi ≤ j → d.type[j]? = c.type[j]? ∧ d.slot[j]? = c.slot[j]?
  inn : ∀ (j : Nat) (x : Ex), lo ≤ j → j < hi → c.t.exprs[j]? = some x → EOk c.t d.type d.slot c.cur j x
theorem ERes.refl (c : CS) (lo : Nat) : ERes c c lo lo := ⟨.refl c, fun _ _ => ⟨rfl, rfl⟩, fun _ _ => ⟨rfl, rfl⟩, fun j x h1 h2 => by omega⟩
theorem Tw.ix {t : Tree} (h : Tw t) {j : Nat} {x : Ex} (hx : t.exprs[j]? = some x) : x.kind = 5 → 0 ≤ x.a ∧ x.a < j := fun hk => (h.wf j x hx).1 (.inl hk)
theorem ERes.trans {c d e : CS} {lo mid hi : Nat} (hw : Tw c.t) (h1 : ERes c d lo mid) (h2 : ERes d e mid hi) (hm : lo ≤ mid) (hh : mid ≤ hi) : ERes c e lo hi := by
  have ht := h1.kept.t
  have hc := h1.kept.cur
  refine ⟨h1.kept.trans h2.kept, fun j hj => ?_, fun j hj => ?_, fun j x ha hb hx => ?_⟩
  · have a := h1.low j hj
    have b := h2.low j (by omega)
    exact ⟨b.1.trans a.1, b.2.trans a.2⟩
  · have a := h1.high j (by omega)
    have b := h2.high j hj
    exact ⟨b.1.trans a.1, b.2.trans a.2⟩
  · by_cases hj : j < mid
    · have := (h1.inn j x ha hj hx).keep (m := []) (hw.ix hx) (fun i hi => h2.low i (by omega))
      rwa [List.append_nil] at this
    · have := h2.inn j x (by omega) hb (by rw [ht]; exact hx)
      rw [ht, hc] at this; exact this
theorem set_low {l : List Int} {r : Nat} {k : Int} : ∀ j < r, (l.set r k)[j]? = l[j]? := fun j hj => List.getElem?_set_ne (by omega)
theorem set_high {l : List Int} {r : Nat} {k : Int} : ∀ j, r + 1 ≤ j → (l.set r k)[j]? = l[j]? := fun j hj => List.getElem?_set_ne (by omega)
theorem ERes.leafS {c d D : CS} {lo r : Nat} {x : Ex} (hw : Tw c.t) (h : ERes c d lo r) (hlo : lo ≤ r) (hx : c.t.exprs[r]? = some x) (n k : Int) (hD : D = (d.setSlot r n).setType r k) (hk : EOk c.t (d.type.set r k) (d.slot.set r n) c.cur r x) : ERes c D lo (r + 1) := by
  subst hD
  have e1 : ((d.setSlot r n).setType r k).type = d.type.set r k := by show d.type.set (r : Int).toNat k = _; rw [Int.toNat_natCast]
  have e2 : ((d.setSlot r n).setType r k).slot = d.slot.set r n := by show d.slot.set (r : Int).toNat n = _; rw [Int.toNat_natCast]
  refine ⟨(h.kept.trans (.setSlot _ _ _)).trans (.setType _ _ _), fun j hj => ?_, fun j hj => ?_, fun j y ha hb hy => ?_⟩
  · rw [e1, e2, set_low j (by omega), set_low j (by omega)]; exact h.low j hj
  · rw [e1, e2, set_high j hj, set_high j hj]; exact h.high j (by omega)
  · rw [e1, e2]
    by_cases hj : j < r
    · have := (h.inn j y ha hj hy).keep (m := []) (tp' := d.type.set r k) (sl' := d.slot.set r n) (hw.ix hy) (fun i hi => ⟨set_low i (by omega), set_low i (by omega)⟩)
      rwa [List.append_nil] at this
    · have : j = r := by omega
      subst this
      rw [hx] at hy; injection hy with hy; subst hy
      exact hk
theorem ERes.leaf {c d D : CS} {lo r : Nat} {x : Ex} (hw : Tw c.t) (h : ERes c d lo r) (hlo : lo ≤ r) (hx : c.t.exprs[r]? = some x) (k : Int) (hD : D = d.setType r k) (hs : d.slot[r]? = some (-1)) (hk : EOk c.t (d.type.set r k) d.slot c.cur r x) : ERes c D lo (r + 1) := by
  have e : d.slot.set r (-1) = d.slot := by
    apply List.ext_getElem?
    intro j
    by_cases hj : r = j
    · subst hj
      have : r < d.slot.length := (List.getElem?_eq_some_iff.1 hs).1
      rw [List.getElem?_set_self this, hs]
    · rw [List.getElem?_set_ne hj]
  refine h.leafS (x := x) hw hlo hx (-1) k ?_ (by rw [e]; exact hk)
  rw [hD]
  have : d.setSlot r (-1) = d := by unfold CS.setSlot; rw [Int.toNat_natCast, e]
  rw [this]
theorem Cov.nilE {es : List Ex} {ss : List St} {a b c d : Nat} (h : Cov es ss [] a b c d) : a = c ∧ b = d := by cases h; exact ⟨rfl, rfl⟩
theorem Cov.consE {es : List Ex} {ss : List St} {q : Int} {l : List Rt} {a b c d : Nat} (h : Cov es ss (.e q :: l) a b c d) : ∃ (r : Nat) (x : Ex), q = r ∧ es[r]? = some x ∧ Cov es ss (x.kids.map .e) a b r b ∧ Cov es ss l (r + 1) b c d := by
  generalize hm : Rt.e q :: l = m at h
  cases h with
  | nil => cases hm
  | e hx hk hl => injection hm with h1 h2; injection h1 with h1; subst h1; subst h2; exact ⟨_, _, rfl, hx, hk, hl⟩
  | s hx hk hl => injection hm with h1 h2; cases h1
theorem val_ok {r : CS × Int} {i : Int} (h : (valOf r i).1.code = 0) : r.1.code = 0 ∧ (valOf r i).1 = r.1 ∧ r.2 ≠ 4 := by
  have h1 := (need_code _ _ _ _ (by decide)).1 h
  exact ⟨h1.1, need_stays (by decide) h, by simpa using h1.2⟩
theorem idxF_same (s : ByteArray) : ∀ (l : List Fu) (k : Nat), 0 ≤ idxF s l k → ∃ j, ∃ h : j < l.length, idxF s l k = ((k + j : Nat) : Int) ∧ sameF s l[j] = true
  | [], k, h => by simp [idxF] at h
  | n :: l, k, h => by
    by_cases hn : sameF s n = true
    · exact ⟨0, by simp, by simp only [idxF, if_pos hn]; rfl, hn⟩
    · simp only [idxF, if_neg hn] at h ⊢
      obtain ⟨j, h1, h2, h3⟩ := idxF_same s l (k + 1) h
      exact ⟨j + 1, by simpa using h1, by rw [h2]; congr 1; omega, h3⟩
def XE (n : Nat) : Prop := ∀ (c : CS) (r : Nat) (x : Ex) (lo B : Nat), c.ok → Tw c.t → CurOk c → c.t.exprs[r]? = some x → Cov c.t.exprs c.t.stmts (x.kids.map .e) lo B r B → (∀ j, lo ≤ j → j ≤ r → c.slot[j]? = some (-1)) → r < n → (expr6 n c r).1.code = 0 →
  ERes c (expr6 n c r).1 lo (r + 1) ∧ (expr6 n c r).1.type[r]? = some (expr6 n c r).2
theorem eargs {n : Nat} (ih : XE n) : ∀ (l : List Int) (c : CS) (b : Bool) (lo hi B D : Nat), c.ok → Tw c.t → CurOk c → Cov c.t.exprs c.t.stmts (l.map .e) lo B hi D → (∀ j, lo ≤ j → j < hi → c.slot[j]? = some (-1)) → hi ≤ n → (argsOf (expr6 n) l c b).1.code = 0 →
    ERes c (argsOf (expr6 n) l c b).1 lo hi
  | [], c, b, lo, hi, B, D, hc, hw, hcu, hcov, hun, hn, h0 => by
    obtain ⟨rfl, _⟩ := hcov.nilE
    exact .refl c lo
  | q :: l, c, b, lo, hi, B, D, hc, hw, hcu, hcov, hun, hn, h0 => by
    obtain ⟨r, x, rfl, hx, hk, hl⟩ := Cov.consE hcov
    have hle := hl.le
    have hle2 := hk.le
    have h1 : (valOf (expr6 n c (r : Int)) (r : Int)).1.code = 0 := Lv.args (Lv.expr6 n) l _ _ h0
    obtain ⟨g1, g2, g3⟩ := val_ok h1
    obtain ⟨e1, e2⟩ := ih c r x lo B hc hw hcu hx hk (fun j h1 h2 => hun j h1 (by omega)) (by omega) g1
    show ERes c (argsOf (expr6 n) l (valOf (expr6 n c (r : Int)) (r : Int)).1 _).1 lo hi
    have h0 : (argsOf (expr6 n) l (valOf (expr6 n c (r : Int)) (r : Int)).1 (b && ((valOf (expr6 n c (r : Int)) (r : Int)).2 == 1))).1.code = 0 := h0
    rw [g2] at h0 ⊢
    have ht := e1.kept.t
    refine e1.trans hw (eargs ih l _ _ (r + 1) hi B D (e1.kept.ok hc) (by rw [ht]; exact hw) (by unfold CurOk; rw [e1.kept.cur]; exact hcu) (by rw [ht]; exact hl) (fun j h1 h2 => ?_) hn h0) (by omega) (by omega)
    rw [(e1.high j h1).2]; exact hun j (by omega) h2
theorem one_kid {n : Nat} (ih : XE n) {c : CS} {a : Int} {lo r B : Nat} (hc : c.ok) (hw : Tw c.t) (hcu : CurOk c) (hcov : Cov c.t.exprs c.t.stmts ([a].map .e) lo B r B) (hun : ∀ j, lo ≤ j → j ≤ r → c.slot[j]? = some (-1)) (hn : r ≤ n) (h0 : (valOf (expr6 n c a) a).1.code = 0) :
    ERes c (valOf (expr6 n c a) a).1 lo r ∧ lo ≤ r ∧ a.toNat < r ∧ (valOf (expr6 n c a) a).1.type[a.toNat]? = some (valOf (expr6 n c a) a).2 ∧ (valOf (expr6 n c a) a).2 ≠ 4 := by
  obtain ⟨q, x, rfl, hx, hk, hl⟩ := Cov.consE hcov
  obtain ⟨he, _⟩ := Cov.nilE hl
  have hle2 := hk.le
  obtain ⟨g1, g2, g3⟩ := val_ok h0
  obtain ⟨e1, e2⟩ := ih c q x lo B hc hw hcu hx hk (fun j h1 h2 => hun j h1 (by omega)) (by omega) g1
  rw [g2, Int.toNat_natCast, ← he]
  exact ⟨e1, by omega, by omega, e2, g3⟩
theorem getD_mem0 {l : List Int} {n : Nat} (h : n < l.length) : l.getD n 0 ∈ l := by
  rw [List.getD_eq_getElem?_getD, List.getElem?_eq_getElem h]; exact List.getElem_mem h
set_option maxHeartbeats 2000000 in
theorem xe_step (n : Nat) (ih : XE n) : XE (n + 1) := by
  intro c r x lo B hc hw hcu hx hcov hun hn h0
  have hrl : r < c.t.exprs.length := (List.getElem?_eq_some_iff.1 hx).1
  have hrt : r < c.type.length := by rw [hc.lt]; exact hrl
  have hrs : r < c.slot.length := by rw [hc.ls]; exact hrl
  have hle := hcov.le
  have hex : c.ex (r : Int) = x := by simp only [CS.ex, Int.toNat_natCast, List.getD_eq_getElem?_getD, hx, Option.getD_some]
  have hc0 := Lv.expr6 (n + 1) c r h0
  have hlo : lo ≤ r := hle.1
  unfold expr6 at h0 ⊢
  rw [if_neg (fun h => h hc0), hex] at h0 ⊢
  have h1 : (kindCase (expr6 n) c r x).1.code = 0 := Lv.typed (Lv.refl _) r h0
  have ety : typed (kindCase (expr6 n) c r x) r = ((kindCase (expr6 n) c r x).1.setType r (kindCase (expr6 n) c r x).2, (kindCase (expr6 n) c r x).2) := by unfold typed; rw [if_pos h1]
  rw [ety]
  have hset : ∀ (d : CS) (k : Int), d.type.length = c.type.length → (d.setType r k).type[r]? = some k := fun d k hd => by
    show (d.type.set (r : Int).toNat k)[r]? = _
    rw [Int.toNat_natCast, List.getElem?_set_self (by omega)]
  have hkk : (kindCase (expr6 n) c r x).1.type.length = c.type.length := (Kept.kindCase (Kept.expr6 n) c r x).lt
  refine ⟨?_, hset _ _ hkk⟩
  have hset2 : ∀ (l : List Int) (k : Int), l.length = c.type.length → (l.set r k)[r]? = some k := fun l k hd => List.getElem?_set_self (by omega)
  have hset3 : ∀ (l : List Int) (k : Int), l.length = c.slot.length → (l.set r k)[r]? = some k := fun l k hd => List.getElem?_set_self (by omega)
  have hs0 := hun r hlo (Nat.le_refl _)
  unfold kindCase at h1 ⊢
  by_cases hk1 : x.kind = 1 ∨ x.kind = 7
  · rw [if_pos hk1] at h1 ⊢
    have hk0 : x.kids = [] := by unfold Ex.kids; rw [if_neg (by omega), if_neg (by omega), if_neg (by omega)]
    rw [hk0] at hcov
    obtain ⟨rfl, _⟩ := Cov.nilE hcov
    refine ERes.leaf hw (.refl c _) (Nat.le_refl _) hx 1 rfl hs0 ⟨⟨1, hset2 _ _ rfl, .inl rfl⟩, fun h => ?_, fun h => ?_, fun h => ?_, fun h => ?_, fun _ _ _ => hs0⟩
    all_goals omega
  rw [if_neg hk1] at h1 ⊢
  by_cases hk4 : x.kind = 4
  · rw [if_pos hk4] at h1 ⊢
    have hk0 : x.kids = [] := by unfold Ex.kids; rw [if_neg (by omega), if_neg (by omega), if_neg (by omega)]
    rw [hk0] at hcov
    obtain ⟨rfl, _⟩ := Cov.nilE hcov
    have hw0 : (c.slotOf x.name false x.fr).1.code = 0 := by
      split at h1
      · assumption
      · exact h1
    rw [if_pos hw0]
    have hsame : (c.slotOf x.name false x.fr).1 = c := need_stays (by decide) hw0
    have h2 := ((need_code c _ _ 6 (by decide)).1 hw0).2
    have h3 := hc.find_lt x.name
    unfold CS.slotOk at h2
    rw [Bool.and_eq_true] at h2
    have h4 : 0 ≤ c.find x.name := of_decide_eq_true h2.1
    have h5 : ¬ c.cur.getD (c.find x.name).toNat 0 = 3 := by simpa using h2.2
    have h6 : (c.find x.name).toNat < c.cur.length := by omega
    have h7 := hcu _ (getD_mem0 h6)
    refine ERes.leafS hw (.refl c _) (Nat.le_refl _) hx (c.find x.name) (c.cur.getD (c.find x.name).toNat 0) (by rw [hsame]; rfl) ⟨⟨_, hset2 _ _ rfl, ?_⟩, fun h => ?_, fun _ => ⟨_, hset3 _ _ rfl, h4, by omega, hset2 _ _ rfl⟩, fun h => ?_, fun h => ?_, fun h => absurd hk4 h⟩
    all_goals omega
  rw [if_neg hk4] at h1 ⊢
  by_cases hk5 : x.kind = 5
  · rw [if_pos hk5] at h1 ⊢
    have hk0 : x.kids = [x.a] := by unfold Ex.kids; rw [if_neg (by omega), if_pos (by omega)]
    rw [hk0] at hcov
    have h2 := (need_code _ _ _ _ (by decide)).1 (show (((valOf (expr6 n c x.a) x.a).1.slotOf x.name true x.fr).1.need ((valOf (expr6 n c x.a) x.a).2 == 1) x.fr 8).code = 0 from h1)
    have h3 := Lv.slotOf _ _ _ _ h2.1
    obtain ⟨e1, e2, e3, e4, e5⟩ := one_kid ih hc hw hcu hcov hun (by omega) h3
    have hn1 : ((valOf (expr6 n c x.a) x.a).1.slotOf x.name true x.fr).1.need ((valOf (expr6 n c x.a) x.a).2 == 1) x.fr 8 = ((valOf (expr6 n c x.a) x.a).1.slotOf x.name true x.fr).1 := need_stays (by decide) h1
    have hn2 : ((valOf (expr6 n c x.a) x.a).1.slotOf x.name true x.fr).1 = (valOf (expr6 n c x.a) x.a).1 := need_stays (by decide) h2.1
    have hv1 : (valOf (expr6 n c x.a) x.a).2 = 1 := by simpa using h2.2
    have h4 := ((need_code _ _ _ 6 (by decide)).1 h2.1).2
    have okd := e1.kept.ok hc
    have h5 := okd.find_lt x.name
    have hcur := e1.kept.cur
    generalize valOf (expr6 n c x.a) x.a = v at *
    rw [hn1, hn2]
    unfold CS.slotOk at h4
    rw [Bool.and_eq_true] at h4
    have h6 : 0 ≤ v.1.find x.name := of_decide_eq_true h4.1
    have h7 : v.1.cur.getD (v.1.find x.name).toNat 0 = 3 := by simpa using h4.2
    rw [hcur] at h7 h5
    have l1 := e1.kept.lt
    have l2 := e1.kept.ls
    refine ERes.leafS hw e1 e2 hx (v.1.find x.name) 1 rfl ⟨⟨_, hset2 _ _ l1, .inl rfl⟩, fun _ => ?_, fun h => ?_, fun _ => ⟨_, hset3 _ _ l2, h6, by omega, h7, hset2 _ _ l1⟩, fun h => ?_, fun _ h => absurd hk5 h⟩
    · rw [set_low _ e3, e4, hv1]
    · omega
    · omega
  rw [if_neg hk5] at h1 ⊢
  by_cases hk6 : x.kind = 6
  · rw [if_pos hk6] at h1 ⊢
    have hk0 : x.kids = x.list := by unfold Ex.kids; rw [if_neg (by omega), if_neg (by omega), if_pos hk6]
    rw [hk0] at hcov
    have hw0 : ((argsOf (expr6 n) x.list c true).1.need (decide (findF x.name c.t.funcs 0 (-1) ≥ 0)) x.fr 6).code = 0 := by
      split at h1
      · assumption
      · exact h1
    rw [if_pos hw0] at h1 ⊢
    have h2 := (need_code _ _ _ _ (by decide)).1 hw0
    have e1 := eargs ih x.list c true lo r B B hc hw hcu hcov (fun j h1 h2 => hun j h1 (by omega)) (by omega) h2.1
    have hn0 : (argsOf (expr6 n) x.list c true).1.need (decide (findF x.name c.t.funcs 0 (-1) ≥ 0)) x.fr 6 = (argsOf (expr6 n) x.list c true).1 := need_stays (by decide) hw0
    rw [hn0] at h1 ⊢
    have hn1 : (argsOf (expr6 n) x.list c true).1.need ((argsOf (expr6 n) x.list c true).2 && ((x.list.length : Int) == (c.fu (findF x.name c.t.funcs 0 (-1))).params.length)) x.fr 8 = (argsOf (expr6 n) x.list c true).1 := need_stays (by decide) h1
    rw [hn1]
    have h3 : findF x.name c.t.funcs 0 (-1) ≥ 0 := of_decide_eq_true h2.2
    rw [findF_idx] at h3 ⊢
    obtain ⟨j, hj, hj2, hj3⟩ := idxF_same x.name c.t.funcs 0 h3
    rw [Nat.zero_add] at hj2
    have hfu : c.fu (idxF x.name c.t.funcs 0) = c.t.funcs[j] := by
      rw [hj2]; simp only [CS.fu, Int.toNat_natCast, List.getD_eq_getElem?_getD, List.getElem?_eq_getElem hj, Option.getD_some]
    have hgd : c.t.funcs.getD (idxF x.name c.t.funcs 0).toNat default = c.t.funcs[j] := hfu
    rw [hfu]
    have l1 := e1.kept.lt
    have l2 := e1.kept.ls
    have hty := hw.fu _ (List.getElem_mem hj)
    generalize (argsOf (expr6 n) x.list c true).1 = d at *
    refine ERes.leafS hw e1 hlo hx (idxF x.name c.t.funcs 0) c.t.funcs[j].type rfl ⟨⟨_, hset2 _ _ l1, ?_⟩, fun h => ?_, fun h => ?_, fun h => ?_, fun _ => ⟨_, hset3 _ _ l2, h3, by omega, by rw [hgd]; exact hj3, by rw [hgd]; exact hset2 _ _ l1⟩, fun _ _ h => absurd hk6 h⟩
    · rcases hty with h | h | h
      · exact .inl h
      · exact .inr (.inl h)
      · exact .inr (.inr ⟨h, hk6⟩)
    · omega
    · omega
    · omega
  rw [if_neg hk6] at h1 ⊢
  by_cases hk8 : x.kind = 8
  · rw [if_pos hk8] at h1 ⊢
    have hk0 : x.kids = [x.a] := by unfold Ex.kids; rw [if_neg (by omega), if_pos (by omega)]
    rw [hk0] at hcov
    have h2 := (need_code _ _ _ _ (by decide)).1 h1
    obtain ⟨e1, e2, e3, e4, e5⟩ := one_kid ih hc hw hcu hcov hun (by omega) h2.1
    have hn1 : (valOf (expr6 n c x.a) x.a).1.need (unaryOk x.op (valOf (expr6 n c x.a) x.a).2) x.fr 8 = (valOf (expr6 n c x.a) x.a).1 := need_stays (by decide) h1
    have hu := h2.2
    have l1 := e1.kept.lt
    generalize valOf (expr6 n c x.a) x.a = v at *
    rw [hn1]
    have hv : v.2 = 1 ∨ v.2 = 2 := by
      unfold unaryOk at hu
      rw [Bool.or_eq_true, Bool.and_eq_true, Bool.and_eq_true] at hu
      rcases hu with h | h
      · exact .inl (by simpa using h.2)
      · exact .inr (by simpa using h.2)
    have hs1 : v.1.slot[r]? = some (-1) := by rw [(e1.high r (Nat.le_refl _)).2]; exact hs0
    refine ERes.leaf hw e1 e2 hx v.2 rfl hs1 ⟨⟨_, hset2 _ _ l1, by omega⟩, fun h => ?_, fun h => ?_, fun h => ?_, fun h => ?_, fun _ _ _ => hs1⟩
    all_goals omega
  rw [if_neg hk8] at h1 ⊢
  by_cases hk9 : x.kind = 9
  · rw [if_pos hk9] at h1 ⊢
    have hk0 : x.kids = [x.a, x.b] := by unfold Ex.kids; rw [if_pos hk9]
    rw [hk0] at hcov
    obtain ⟨qa, ya, hqa, hxa, hka, hla⟩ := Cov.consE (show Cov c.t.exprs c.t.stmts (.e x.a :: [x.b].map .e) lo B r B from hcov)
    have hle1 := hka.le
    have hle2 := hla.le
    have h2 := (need_code _ _ _ _ (by decide)).1 h1
    have h3 := (val_ok h2.1)
    have h4 := Lv.expr6 n _ _ h3.1
    have hcova : Cov c.t.exprs c.t.stmts ([x.a].map .e) lo B (qa + 1) B := by rw [hqa]; exact .e hxa hka (.nil _ _)
    obtain ⟨e1, e2, e3, e4, e5⟩ := one_kid ih hc hw hcu hcova (fun j h1 h2 => hun j h1 (by omega)) (by omega) h4
    have ht1 := e1.kept.t
    have hcu1 := e1.kept.cur
    have ok1 := e1.kept.ok hc
    generalize valOf (expr6 n c x.a) x.a = v at *
    have h5 := h2.1
    obtain ⟨f1, f2, f3, f4, f5⟩ := one_kid ih (c := v.1) (a := x.b) (lo := qa + 1) (r := r) (B := B) ok1 (by rw [ht1]; exact hw) (by unfold CurOk; rw [hcu1]; exact hcu) (by rw [ht1]; exact hla) (fun j h1 h2 => by rw [(e1.high j (by omega)).2]; exact hun j (by omega) h2) (by omega) h5
    have hn1 : (valOf (expr6 n v.1 x.b) x.b).1.need (pairOk x.op v.2 (valOf (expr6 n v.1 x.b) x.b).2) x.fr 8 = (valOf (expr6 n v.1 x.b) x.b).1 := need_stays (by decide) h1
    generalize valOf (expr6 n v.1 x.b) x.b = u at *
    rw [hn1]
    have e6 := e1.trans hw f1 e2 f2
    have l1 := e6.kept.lt
    have hs1 : u.1.slot[r]? = some (-1) := by rw [(e6.high r (Nat.le_refl _)).2]; exact hs0
    refine ERes.leaf hw e6 hlo hx (if isInt x.op = true then 1 else 2) rfl hs1 ⟨⟨_, hset2 _ _ l1, ?_⟩, fun h => ?_, fun h => ?_, fun h => ?_, fun h => ?_, fun _ _ _ => hs1⟩
    · split
      · exact .inl rfl
      · exact .inr (.inl rfl)
    all_goals omega
  · rw [if_neg hk9] at h1 ⊢
    have hk0 : x.kids = [] := by unfold Ex.kids; rw [if_neg (by omega), if_neg (by omega), if_neg (by omega)]
    rw [hk0] at hcov
    obtain ⟨rfl, _⟩ := Cov.nilE hcov
    refine ERes.leaf hw (.refl c _) (Nat.le_refl _) hx 2 rfl hs0 ⟨⟨2, hset2 _ _ rfl, .inr (.inl rfl)⟩, fun h => ?_, fun h => ?_, fun h => ?_, fun h => ?_, fun _ _ _ => hs0⟩
    all_goals omega
theorem xe_all : ∀ n, XE n
  | 0 => fun c r x lo B h1 h2 h3 h4 h5 h6 h7 => absurd h7 (by omega)
  | n + 1 => xe_step n (xe_all n)
end Go.Proofs.Ytaadamobapnfbaa
set_option linter.unusedVariables false
set_option linter.unusedSimpArgs false
set_option maxRecDepth 100000
namespace Go.Proofs.Ytaadamobapnfbaa
open Go Go.Abs
structure SOk (tp pt fn : List Int) (E len : Nat) (f : Int) (j : Nat) (s : St) : Prop where
  fn : fn[j]? = some f
  pt : s.kind ≤ 4 → ∃ n : Int, pt[j]? = some n ∧ 0 ≤ n ∧ n < len
  cond : s.kind = 5 ∨ s.kind = 6 → tp[s.a.toNat]? = some 2 ∧ s.a.toNat < E
  put : s.kind = 4 → tp[s.a.toNat]? = some 1 ∧ tp[s.b.toNat]? = some 1 ∧ s.a.toNat < E ∧ s.b.toNat < E
def Kd (k : Int) : Prop := k = 1 ∨ k = 2 ∨ k = 3
structure SRes (c d : CS) (elo ehi slo shi : Nat) : Prop where
  k : KeptS c d
  cur : ∃ m, d.cur = c.cur ++ m ∧ ∀ x ∈ m, Kd x
  elow : ∀ j < elo, d.type[j]? = c.type[j]? ∧ d.slot[j]? = c.slot[j]?
  ehigh : ∀ j, ehi ≤ j → d.type[j]? = c.type[j]? ∧ d.slot[j]? = c.slot[j]?
  slow : ∀ j < slo, d.put[j]? = c.put[j]? ∧ d.func[j]? = c.func[j]?
  shigh : ∀ j, shi ≤ j → d.put[j]? = c.put[j]? ∧ d.func[j]? = c.func[j]?
  einn : ∀ (j : Nat) (x : Ex), elo ≤ j → j < ehi → c.t.exprs[j]? = some x → EOk c.t d.type d.slot d.cur j x
  sinn : ∀ (j : Nat) (s : St), slo ≤ j → j < shi → c.t.stmts[j]? = some s → SOk d.type d.put d.func ehi d.cur.length c.f j s
theorem SRes.refl (c : CS) (e s : Nat) : SRes c c e e s s := ⟨.refl c, ⟨[], by simp, fun x h => by simp at h⟩, fun _ _ => ⟨rfl, rfl⟩, fun _ _ => ⟨rfl, rfl⟩, fun _ _ => ⟨rfl, rfl⟩, fun _ _ => ⟨rfl, rfl⟩, fun j x h1 h2 => by omega, fun j x h1 h2 => by omega⟩
theorem SOk.keep {tp pt fn tp' pt' fn' : List Int} {E E' len len' : Nat} {f : Int} {j : Nat} {s : St} (h : SOk tp pt fn E len f j s) (h1 : ∀ i < E, tp'[i]? = tp[i]?) (h2 : pt'[j]? = pt[j]?) (h3 : fn'[j]? = fn[j]?) (hE : E ≤ E') (hl : len ≤ len') : SOk tp' pt' fn' E' len' f j s := by
  refine ⟨by rw [h3]; exact h.fn, fun hk => ?_, fun hk => ?_, fun hk => ?_⟩
  · obtain ⟨n, a, b, c⟩ := h.pt hk
    exact ⟨n, by rw [h2]; exact a, b, by omega⟩
  · obtain ⟨a, b⟩ := h.cond hk
    exact ⟨by rw [h1 _ b]; exact a, by omega⟩
  · obtain ⟨a, b, c, d⟩ := h.put hk
    exact ⟨by rw [h1 _ c]; exact a, by rw [h1 _ d]; exact b, by omega, by omega⟩
theorem SRes.trans {c d e : CS} {e1 e2 e3 s1 s2 s3 : Nat} (hw : Tw c.t) (h1 : SRes c d e1 e2 s1 s2) (h2 : SRes d e e2 e3 s2 s3) (a1 : e1 ≤ e2) (a2 : e2 ≤ e3) (b1 : s1 ≤ s2) (b2 : s2 ≤ s3) : SRes c e e1 e3 s1 s3 := by
  have ht := h1.k.t
  have hf := h1.k.f
  obtain ⟨m1, hm1, hk1⟩ := h1.cur
  obtain ⟨m2, hm2, hk2⟩ := h2.cur
  refine ⟨h1.k.trans h2.k, ⟨m1 ++ m2, by rw [hm2, hm1, List.append_assoc], fun x hx => ?_⟩, fun j hj => ?_, fun j hj => ?_, fun j hj => ?_, fun j hj => ?_, fun j x ha hb hx => ?_, fun j s ha hb hx => ?_⟩
  · rcases List.mem_append.1 hx with hx | hx
    · exact hk1 x hx
    · exact hk2 x hx
  · have a := h1.elow j hj
    have b := h2.elow j (by omega)
    exact ⟨b.1.trans a.1, b.2.trans a.2⟩
  · have a := h1.ehigh j (by omega)
    have b := h2.ehigh j hj
    exact ⟨b.1.trans a.1, b.2.trans a.2⟩
  · have a := h1.slow j hj
    have b := h2.slow j (by omega)
    exact ⟨b.1.trans a.1, b.2.trans a.2⟩
  · have a := h1.shigh j (by omega)
    have b := h2.shigh j hj
    exact ⟨b.1.trans a.1, b.2.trans a.2⟩
  · by_cases hj : j < e2
    · rw [hm2]
      exact (h1.einn j x ha hj hx).keep (hw.ix hx) (fun i hi => h2.elow i (by omega))
    · have := h2.einn j x (by omega) hb (by rw [ht]; exact hx)
      rw [ht] at this; exact this
  · by_cases hj : j < s2
    · exact (h1.sinn j s ha hj hx).keep (fun i hi => (h2.elow i hi).1) (h2.slow j hj).1 (h2.slow j hj).2 a2 h2.k.cur
    · have := h2.sinn j s (by omega) hb (by rw [ht]; exact hx)
      rw [hf] at this; exact this
theorem SRes.ofE {c d : CS} {lo hi : Nat} (h : ERes c d lo hi) (s : Nat) : SRes c d lo hi s s :=
  ⟨h.kept.toS, ⟨[], by rw [h.kept.cur, List.append_nil], fun x h => by simp at h⟩, h.low, h.high, fun j _ => by rw [h.kept.put, h.kept.func]; exact ⟨rfl, rfl⟩, fun j _ => by rw [h.kept.put, h.kept.func]; exact ⟨rfl, rfl⟩, fun j x h1 h2 h3 => by rw [h.kept.cur]; exact h.inn j x h1 h2 h3, fun j s h1 h2 => by omega⟩
theorem SRes.decl {c : CS} (ho : c.ok) (h0 : c.code = 0) (s : ByteArray) (k a : Int) (hk : Kd k) (hc : (c.decl s k a).1.code = 0) (e b : Nat) : SRes c (c.decl s k a).1 e e b b ∧ (c.decl s k a).1.cur = c.cur ++ [k] ∧ (c.decl s k a).2 = c.cur.length ∧ (c.decl s k a).1.type = c.type := by
  have hkk := KeptS.decl ho s k a
  obtain ⟨ht, h6⟩ := decl_cases h0 s k a hc
  have hcs := cur_set ho.f0 ho.f1 (c.cur ++ [k])
  rw [decl_good h0 s k a ht h6] at hkk ⊢
  have hcur : ({ c with slots := c.slots.set c.f.toNat (c.cur ++ [k]), names := c.names ++ [⟨s, c.block, c.cur.length⟩] } : CS).cur = c.cur ++ [k] := hcs
  exact ⟨⟨hkk, ⟨[k], hcur, fun x hx => by rw [List.mem_singleton] at hx; subst hx; exact hk⟩, fun _ _ => ⟨rfl, rfl⟩, fun _ _ => ⟨rfl, rfl⟩, fun _ _ => ⟨rfl, rfl⟩, fun _ _ => ⟨rfl, rfl⟩, fun j x h1 h2 => by omega, fun j x h1 h2 => by omega⟩, hcur, rfl, rfl⟩
theorem Cov.split {es : List Ex} {ss : List St} : ∀ {l l' : List Rt} {a b e f : Nat}, Cov es ss (l ++ l') a b e f → ∃ c d, Cov es ss l a b c d ∧ Cov es ss l' c d e f := by
  intro l
  induction l with
  | nil => intro l' a b e f h; exact ⟨a, b, .nil a b, h⟩
  | cons r l ih =>
    intro l' a b e f h
    generalize hm : (r :: l) ++ l' = m at h
    cases h with
    | nil => cases hm
    | e hx hk hl =>
      injection hm with h1 h2
      subst h1; subst h2
      obtain ⟨c, d, q1, q2⟩ := ih hl
      exact ⟨c, d, .e hx hk q1, q2⟩
    | s hx hk hl =>
      injection hm with h1 h2
      subst h1; subst h2
      obtain ⟨c, d, q1, q2⟩ := ih hl
      exact ⟨c, d, .s hx hk q1, q2⟩
theorem Cov.eB {es : List Ex} {ss : List St} : ∀ {l : List Int} {a b c d : Nat}, Cov es ss (l.map .e) a b c d → b = d := by
  intro l
  induction l with
  | nil => intro a b c d h; exact (Cov.nilE h).2
  | cons q l ih =>
    intro a b c d h
    obtain ⟨r, x, _, _, _, hl⟩ := Cov.consE h
    exact ih hl
theorem Cov.consS {es : List Ex} {ss : List St} {q : Int} {l : List Rt} {a b c d : Nat} (h : Cov es ss (.s q :: l) a b c d) : ∃ (r e1 : Nat) (x : St), q = r ∧ ss[r]? = some x ∧ Cov es ss x.kids a b e1 r ∧ Cov es ss l e1 (r + 1) c d := by
  generalize hm : Rt.s q :: l = m at h
  cases h with
  | nil => cases hm
  | e hx hk hl => injection hm with h1 h2; cases h1
  | s hx hk hl => injection hm with h1 h2; injection h1 with h1; subst h1; subst h2; exact ⟨_, _, _, rfl, hx, hk, hl⟩
theorem SRes.leaf {c d D : CS} {elo ehi slo r : Nat} {s : St} (hw : Tw c.t) (h : SRes (c.setFunc r c.f) d elo ehi slo r) (hsl : slo ≤ r) (hs : c.t.stmts[r]? = some s) (n : Int) (hD : D = d.setPut r n) (hrp : r < d.put.length) (hrf : r < c.func.length)
    (hpt : s.kind ≤ 4 → 0 ≤ n ∧ n < d.cur.length) (hcond : s.kind = 5 ∨ s.kind = 6 → d.type[s.a.toNat]? = some 2 ∧ s.a.toNat < ehi) (hput : s.kind = 4 → d.type[s.a.toNat]? = some 1 ∧ d.type[s.b.toNat]? = some 1 ∧ s.a.toNat < ehi ∧ s.b.toNat < ehi) : SRes c D elo ehi slo (r + 1) := by
  subst hD
  have e1 : (d.setPut r n).put = d.put.set r n := by show d.put.set (r : Int).toNat n = _; rw [Int.toNat_natCast]
  have e2 : (c.setFunc r c.f).func = c.func.set r c.f := by show c.func.set (r : Int).toNat c.f = _; rw [Int.toNat_natCast]
  refine ⟨((KeptS.setFunc c r c.f).trans h.k).trans (.setPut _ _ _), h.cur, h.elow, h.ehigh, fun j hj => ?_, fun j hj => ?_, h.einn, fun j s' ha hb hx => ?_⟩
  · rw [e1, set_low j (by omega)]
    have := h.slow j hj
    rw [e2, set_low j (by omega)] at this
    exact this
  · rw [e1, set_high j hj]
    have := h.shigh j (by omega)
    rw [e2, set_high j hj] at this
    exact this
  · by_cases hj : j < r
    · refine (h.sinn j s' ha hj hx).keep (fun _ _ => rfl) (by rw [e1, set_low j hj]) rfl (Nat.le_refl _) (Nat.le_refl _)
    · have : j = r := by omega
      subst this
      rw [hs] at hx; injection hx with hx; subst hx
      refine ⟨?_, fun hk => ⟨n, by rw [e1, List.getElem?_set_self hrp], hpt hk⟩, hcond, hput⟩
      have := (h.shigh j (Nat.le_refl _)).2
      rw [e2, List.getElem?_set_self hrf] at this
      exact this
theorem CurOk.more {c d : CS} {e1 e2 s1 s2 : Nat} (h : CurOk c) (hr : SRes c d e1 e2 s1 s2) : CurOk d := by
  obtain ⟨m, hm, hk⟩ := hr.cur
  intro x hx
  rw [hm] at hx
  rcases List.mem_append.1 hx with hx | hx
  · exact h x hx
  · exact hk x hx
def XS (n : Nat) : Prop := ∀ (c : CS) (r : Nat) (s : St) (elo ehi slo : Nat), c.ok → Tw c.t → CurOk c → (∀ (i : Nat) (x : St), c.t.stmts[i]? = some x → StOk x) → c.t.stmts[r]? = some s → Cov c.t.exprs c.t.stmts s.kids elo slo ehi r → (∀ j, elo ≤ j → j < ehi → c.slot[j]? = some (-1)) → ehi ≤ c.t.exprs.length → r < n →
  (stm6 n c r).code = 0 → SRes c (stm6 n c r) elo ehi slo (r + 1)
theorem slist {n : Nat} (ih : XS n) (b : Int) : ∀ (l : List Int) (c : CS) (elo ehi slo shi : Nat), c.ok → Tw c.t → CurOk c → (∀ (i : Nat) (x : St), c.t.stmts[i]? = some x → StOk x) → Cov c.t.exprs c.t.stmts (l.map .s) elo slo ehi shi → (∀ j, elo ≤ j → j < ehi → c.slot[j]? = some (-1)) → ehi ≤ c.t.exprs.length → shi ≤ n → c.block = b →
    (stmtsOf (stm6 n) b l c).code = 0 → SRes c (stmtsOf (stm6 n) b l c) elo ehi slo shi
  | [], c, elo, ehi, slo, shi, hc, hw, hcu, hst, hcov, hun, hE, hn, hb, h0 => by
    obtain ⟨rfl, rfl⟩ := Cov.nilE hcov
    exact .refl c _ _
  | q :: l, c, elo, ehi, slo, shi, hc, hw, hcu, hst, hcov, hun, hE, hn, hb, h0 => by
    obtain ⟨r, em, s, rfl, hs, hk, hl⟩ := Cov.consS hcov
    have hle := hl.le
    have hle2 := hk.le
    have h1 : (stm6 n c (r : Int)).code = 0 := Lv.stmts (Lv.stm6 n) b l { stm6 n c r with block := b } h0
    have e1 := ih c r s elo em slo hc hw hcu hst hs hk (fun j h1 h2 => hun j h1 (by omega)) (by omega) (by omega) h1
    have hbe : ({ stm6 n c r with block := b } : CS) = stm6 n c r := by rw [← hb, ← e1.k.block]
    show SRes c (stmtsOf (stm6 n) b l { stm6 n c r with block := b }) elo ehi slo shi
    have h0 : (stmtsOf (stm6 n) b l { stm6 n c r with block := b }).code = 0 := h0
    rw [hbe] at h0 ⊢
    have ht := e1.k.t
    exact e1.trans hw (slist ih b l _ em ehi (r + 1) shi (e1.k.ok hc) (by rw [ht]; exact hw) (hcu.more e1) (by rw [ht]; exact hst) (by rw [ht]; exact hl) (fun j h1 h2 => by rw [(e1.ehigh j h1).2]; exact hun j (by omega) h2) (by rw [ht]; exact hE) hn (e1.k.block.trans hb) h0) (by omega) (by omega) (by omega) (by omega)
theorem sblock {n : Nat} (ih : XS n) (l : List Int) (c : CS) (elo ehi slo shi : Nat) (hc : c.ok) (hw : Tw c.t) (hcu : CurOk c) (hst : ∀ (i : Nat) (x : St), c.t.stmts[i]? = some x → StOk x) (hcov : Cov c.t.exprs c.t.stmts (l.map .s) elo slo ehi shi) (hun : ∀ j, elo ≤ j → j < ehi → c.slot[j]? = some (-1)) (hE : ehi ≤ c.t.exprs.length) (hn : shi ≤ n)
    (h0 : (blockOf (stm6 n) c l).code = 0) : SRes c (blockOf (stm6 n) c l) elo ehi slo shi := by
  have h := slist ih (c.block + 1) l { c with block := c.block + 1 } elo ehi slo shi { hc with } hw hcu hst hcov hun hE hn rfl h0
  exact ⟨KeptS.blockOf (KeptS.stm6 n) c l hc, h.cur, h.elow, h.ehigh, h.slow, h.shigh, h.einn, h.sinn⟩
theorem kid_ty {c d : CS} {lo hi : Nat} (h : ERes c d lo hi) {a : Nat} {k : Int} {x : Ex} (hx : c.t.exprs[a]? = some x) (h1 : lo ≤ a) (h2 : a < hi) (hk : d.type[a]? = some k) (h4 : k ≠ 4) : k = 1 ∨ k = 2 := by
  obtain ⟨k', e, h'⟩ := (h.inn a x h1 h2 hx).ty
  rw [hk] at e; injection e with e; subst e
  rcases h' with h | h | h
  · exact .inl h
  · exact .inr h
  · exact absurd h.1 h4
/-- one expression ahead of a statement's blocks -/
theorem one_val {c : CS} {a : Int} {lo r B D : Nat} (hc : c.ok) (hw : Tw c.t) (hcu : CurOk c) (hcov : Cov c.t.exprs c.t.stmts ([a].map .e) lo B r D) (hun : ∀ j, lo ≤ j → j < r → c.slot[j]? = some (-1)) (hE : r ≤ c.t.exprs.length) (h0 : (vals c a).1.code = 0) :
    ERes c (vals c a).1 lo r ∧ lo ≤ r ∧ a.toNat < r ∧ (vals c a).1.type[a.toNat]? = some (vals c a).2 ∧ ((vals c a).2 = 1 ∨ (vals c a).2 = 2) := by
  obtain ⟨q, x, rfl, hx, hk, hl⟩ := Cov.consE hcov
  obtain ⟨he, _⟩ := Cov.nilE hl
  have hle2 := hk.le
  obtain ⟨g1, g2, g3⟩ := val_ok h0
  obtain ⟨e1, e2⟩ := xe_all c.t.exprs.length c q x lo B hc hw hcu hx hk (fun j h1 h2 => hun j h1 (by omega)) (by omega) g1
  unfold vals
  rw [g2, Int.toNat_natCast, ← he]
  exact ⟨e1, by omega, by omega, e2, kid_ty e1 hx hle2.1 (by omega) e2 g3⟩
end Go.Proofs.Ytaadamobapnfbaa
set_option linter.unusedVariables false
set_option linter.unusedSimpArgs false
set_option maxRecDepth 100000
namespace Go.Proofs.Ytaadamobapnfbaa
open Go Go.Abs
theorem Kd.of {k : Int} (h : k = 1 ∨ k = 2) : Kd k := by rcases h with h | h; exact .inl h; exact .inr (.inl h)
theorem slot_good {c : CS} (hc : c.ok) {s : ByteArray} {b : Bool} {a : Int} (h : (c.slotOf s b a).1.code = 0) : (c.slotOf s b a).1 = c ∧ 0 ≤ (c.slotOf s b a).2 ∧ (c.slotOf s b a).2 < c.cur.length := by
  have h2 := ((need_code c _ _ 6 (by decide)).1 h).2
  have h3 := hc.find_lt s
  unfold CS.slotOk at h2
  rw [Bool.and_eq_true] at h2
  have h4 : 0 ≤ c.find s := of_decide_eq_true h2.1
  exact ⟨need_stays (by decide) h, h4, by show c.find s < _; omega⟩
set_option maxHeartbeats 4000000 in
theorem xs_step (n : Nat) (ih : XS n) : XS (n + 1) := by
  intro c r s elo ehi slo hc hw hcu hst hs hcov hun hE hn h0
  have hrl : r < c.t.stmts.length := (List.getElem?_eq_some_iff.1 hs).1
  have hrf : r < c.func.length := by rw [hc.lf]; exact hrl
  have hle := hcov.le
  have hok := hst r s hs
  have hstm : c.stm (r : Int) = s := by simp only [CS.stm, Int.toNat_natCast, List.getD_eq_getElem?_getD, hs, Option.getD_some]
  have hc0 : c.code = 0 := Lv.stm6 (n + 1) c r h0
  unfold stm6 at h0 ⊢
  rw [if_neg (fun h => h hc0), hstm] at h0 ⊢
  have h1 : (stmtCase (stm6 n) (c.setFunc r c.f) s).1.code = 0 := Lv.putted (Lv.refl _) r h0
  rw [putted_ok h1]
  have hk0 : s.kids = s.xs.map .e ++ (s.thn ++ s.els).map .s := rfl
  rw [hk0] at hcov
  obtain ⟨em, sm, cv1, cv2⟩ := Cov.split hcov
  have hsm := Cov.eB cv1
  subst hsm
  have hle1 := cv1.le
  have hle2 := cv2.le
  have okd : (c.setFunc r c.f).ok := (KeptS.setFunc c r c.f).ok hc
  have hwd : Tw (c.setFunc r c.f).t := hw
  have hcud : CurOk (c.setFunc r c.f) := hcu
  have hstd : ∀ (i : Nat) (x : St), (c.setFunc r c.f).t.stmts[i]? = some x → StOk x := hst
  have cv1 : Cov (c.setFunc r c.f).t.exprs (c.setFunc r c.f).t.stmts (s.xs.map .e) elo slo em slo := cv1
  have cv2 : Cov (c.setFunc r c.f).t.exprs (c.setFunc r c.f).t.stmts ((s.thn ++ s.els).map .s) em slo ehi r := cv2
  have hund : ∀ j, elo ≤ j → j < ehi → (c.setFunc r c.f).slot[j]? = some (-1) := hun
  have hEd : ehi ≤ (c.setFunc r c.f).t.exprs.length := hE
  have hcd0 : (c.setFunc r c.f).code = 0 := hc0
  have hkp : ∀ D : CS × Int, KeptS (c.setFunc r c.f) D.1 → r < D.1.put.length := fun D h => by rw [h.lp]; show r < c.put.length; rw [hc.lp]; exact hrl
  generalize hd : c.setFunc r c.f = d at *
  have noblk : s.thn = [] → s.els = [] → em = ehi ∧ slo = r := fun h1 h2 => by
    rw [h1, h2] at cv2; exact Cov.nilE cv2
  have K := hok.k1
  unfold stmtCase at h1 ⊢
  by_cases k1 : s.kind = 1
  · rw [if_pos k1] at h1 ⊢
    obtain ⟨rfl, rfl⟩ := noblk (hok.th (by omega) (by omega)) (hok.el (by omega))
    have hx : s.xs = [s.a] := by unfold St.xs; rw [if_neg (by omega), if_neg (by omega), if_neg (by omega)]
    rw [hx] at cv1
    have hv0 : (vals d s.a).1.code = 0 := by
      split at h1
      · exact h1
      · rename_i h; exact Decidable.byContradiction h
    rw [if_neg (fun h => h hv0)] at h1 ⊢
    obtain ⟨e1, e2, e3, e4, e5⟩ := one_val okd hwd hcud cv1 hund hEd hv0
    have okv := e1.kept.ok okd
    generalize vals d s.a = v at *
    obtain ⟨f1, f2, f3, f4⟩ := SRes.decl okv hv0 s.name v.2 s.fr (Kd.of e5) h1 em slo
    have hr := (SRes.ofE e1 slo).trans hwd f1 e2 (Nat.le_refl _) (Nat.le_refl _) (Nat.le_refl _)
    have hlen : (v.1.decl s.name v.2 s.fr).1.cur.length = v.1.cur.length + 1 := by rw [f2]; simp
    refine SRes.leaf (n := (v.1.decl s.name v.2 s.fr).2) hw (by rw [hd]; exact hr) (Nat.le_refl _) hs rfl (hkp _ hr.k) hrf (fun _ => by rw [f3, hlen]; omega) (fun h => by omega) (fun h => by omega)
  rw [if_neg k1] at h1 ⊢
  by_cases k2 : s.kind = 2
  · rw [if_pos k2] at h1 ⊢
    obtain ⟨rfl, rfl⟩ := noblk (hok.th (by omega) (by omega)) (hok.el (by omega))
    have hx : s.xs = [] := by unfold St.xs; rw [if_neg (by omega), if_neg (by omega), if_pos (by omega)]
    rw [hx] at cv1
    obtain ⟨rfl, _⟩ := Cov.nilE cv1
    have hn0 : (d.need (decide (s.num ≥ 1) && decide (s.num ≤ 64)) s.fr 15).code = 0 := by
      split at h1
      · exact h1
      · rename_i h; exact Decidable.byContradiction h
    rw [if_neg (fun h => h hn0)] at h1 ⊢
    rw [need_stays (by decide) hn0] at h1 ⊢
    obtain ⟨f1, f2, f3, f4⟩ := SRes.decl okd hcd0 s.name 3 s.fr (.inr (.inr rfl)) h1 elo slo
    have hlen : (d.decl s.name 3 s.fr).1.cur.length = d.cur.length + 1 := by rw [f2]; simp
    refine SRes.leaf (n := (d.decl s.name 3 s.fr).2) hw (by rw [hd]; exact f1) (Nat.le_refl _) hs rfl (hkp _ f1.k) hrf (fun _ => by rw [f3, hlen]; omega) (fun h => by omega) (fun h => by omega)
  rw [if_neg k2] at h1 ⊢
  by_cases k3 : s.kind = 3
  · rw [if_pos k3] at h1 ⊢
    obtain ⟨rfl, rfl⟩ := noblk (hok.th (by omega) (by omega)) (hok.el (by omega))
    have hx : s.xs = [s.a] := by unfold St.xs; rw [if_neg (by omega), if_neg (by omega), if_neg (by omega)]
    rw [hx] at cv1
    have hv0 : (vals d s.a).1.code = 0 := by
      split at h1
      · exact h1
      · rename_i h; exact Decidable.byContradiction h
    rw [if_neg (fun h => h hv0)] at h1 ⊢
    obtain ⟨e1, e2, e3, e4, e5⟩ := one_val okd hwd hcud cv1 hund hEd hv0
    have okv := e1.kept.ok okd
    generalize vals d s.a = v at *
    have hs0 : (v.1.slotOf s.name false s.fr).1.code = 0 := by
      split at h1
      · assumption
      · exact h1
    rw [if_pos hs0] at h1 ⊢
    obtain ⟨g1, g2, g3⟩ := slot_good okv hs0
    have hn1 := need_stays (by decide) h1
    have hr := SRes.ofE e1 slo
    rw [g1] at hn1 ⊢
    have hD : (v.1.need (v.2 == v.1.cur.getD (v.1.slotOf s.name false s.fr).2.toNat 0) s.fr 8) = v.1 := hn1
    rw [hD]
    exact SRes.leaf (n := (v.1.slotOf s.name false s.fr).2) hw (by rw [hd]; exact hr) (Nat.le_refl _) hs rfl (hkp v hr.k) hrf (fun _ => ⟨g2, g3⟩) (fun h => by omega) (fun h => by omega)
  rw [if_neg k3] at h1 ⊢
  by_cases k4 : s.kind = 4
  · rw [if_pos k4] at h1 ⊢
    obtain ⟨rfl, rfl⟩ := noblk (hok.th (by omega) (by omega)) (hok.el (by omega))
    have hx : s.xs = [s.a, s.b] := by unfold St.xs; rw [if_pos k4]
    rw [hx] at cv1
    obtain ⟨qa, ya, hqa, hxa, hka, hla⟩ := Cov.consE (show Cov d.t.exprs d.t.stmts (.e s.a :: [s.b].map .e) elo slo em slo from cv1)
    have hl1 := hka.le
    have hl2 := hla.le
    have hcova : Cov d.t.exprs d.t.stmts ([s.a].map .e) elo slo (qa + 1) slo := by rw [hqa]; exact .e hxa hka (.nil _ _)
    have hw0 : (vals (vals d s.a).1 s.b).1.code = 0 := by
      split at h1
      · exact h1
      · rename_i h; exact Decidable.byContradiction h
    rw [if_neg (fun h => h hw0)] at h1 ⊢
    have hv0 := Lv.vals (vals d s.a).1 s.b hw0
    obtain ⟨e1, e2, e3, e4, e5⟩ := one_val okd hwd hcud hcova (fun j h1 h2 => hund j h1 (by omega)) (by omega) hv0
    have okv := e1.kept.ok okd
    have htv := e1.kept.t
    have hcv := e1.kept.cur
    generalize vals d s.a = v at *
    obtain ⟨f1, f2, f3, f4, f5⟩ := one_val (c := v.1) (a := s.b) (lo := qa + 1) (r := em) (B := slo) (D := slo) okv (by rw [htv]; exact hwd) (by unfold CurOk; rw [hcv]; exact hcud) (by rw [htv]; exact hla) (fun j h1 h2 => by rw [(e1.high j (by omega)).2]; exact hund j (by omega) h2) (by rw [htv]; exact hEd) hw0
    have okw := f1.kept.ok okv
    generalize vals v.1 s.b = w at *
    have h2 := (need_code _ _ _ _ (by decide)).1 h1
    obtain ⟨g1, g2, g3⟩ := slot_good okw h2.1
    have hn1 := need_stays (by decide) h1
    have hr := SRes.ofE (e1.trans hwd f1 e2 f2) slo
    rw [g1] at hn1
    rw [g1, hn1]
    have hab : v.2 = 1 ∧ w.2 = 1 := by
      have := h2.2
      rw [Bool.and_eq_true] at this
      exact ⟨by simpa using this.1, by simpa using this.2⟩
    refine SRes.leaf (n := (w.1.slotOf s.name true s.fr).2) hw (by rw [hd]; exact hr) (Nat.le_refl _) hs rfl (hkp w hr.k) hrf (fun _ => ⟨g2, g3⟩) (fun h => by omega) (fun _ => ⟨?_, by rw [f4, hab.2], by omega, f3⟩)
    rw [(f1.low s.a.toNat e3).1, e4, hab.1]
  rw [if_neg k4] at h1 ⊢
  by_cases k5 : s.kind = 5
  · rw [if_pos k5] at h1 ⊢
    have hx : s.xs = [s.a] := by unfold St.xs; rw [if_neg (by omega), if_neg (by omega), if_neg (by omega)]
    rw [hx] at cv1
    rw [List.map_append] at cv2
    obtain ⟨em2, sm2, cv3, cv4⟩ := Cov.split cv2
    have hl3 := cv3.le
    have hl4 := cv4.le
    have hy0 := Lv.blockOf (Lv.stm6 n) _ _ h1
    have hx0 := Lv.blockOf (Lv.stm6 n) _ _ hy0
    have h2 := (need_code _ _ _ _ (by decide)).1 hx0
    obtain ⟨e1, e2, e3, e4, e5⟩ := one_val okd hwd hcud cv1 (fun j h1 h2 => hund j h1 (by omega)) (by omega) h2.1
    have okv := e1.kept.ok okd
    have htv := e1.kept.t
    have hcv := e1.kept.cur
    have hv2 : (vals d s.a).2 = 2 := by simpa using h2.2
    rw [need_stays (by decide) hx0] at h1 hy0 ⊢
    generalize vals d s.a = v at *
    have curv : CurOk v.1 := by unfold CurOk; rw [hcv]; exact hcud
    have y1 := sblock ih s.thn v.1 em em2 slo sm2 okv (by rw [htv]; exact hwd) curv (by rw [htv]; exact hstd) (by rw [htv]; exact cv3) (fun j h1 h2 => by rw [(e1.high j h1).2]; exact hund j (by omega) (by omega)) (by rw [htv]; omega) (by omega) hy0
    have hty := y1.k.t
    have oky := y1.k.ok okv
    have cury := curv.more y1
    generalize blockOf (stm6 n) v.1 s.thn = y at *
    have u1 := sblock ih s.els y em2 ehi sm2 r oky (by rw [hty, htv]; exact hwd) cury (by rw [hty, htv]; exact hstd) (by rw [hty, htv]; exact cv4) (fun j h1 h2 => by rw [(y1.ehigh j h1).2, (e1.high j (by omega)).2]; exact hund j (by omega) h2) (by rw [hty, htv]; exact hEd) (by omega) h1
    generalize blockOf (stm6 n) y s.els = u at *
    have r1 := (SRes.ofE e1 slo).trans hwd y1 e2 hl3.1 (Nat.le_refl _) hl3.2
    have r2 := r1.trans hwd u1 (by omega) hl4.1 hl3.2 hl4.2
    refine SRes.leaf (n := -1) hw (by rw [hd]; exact r2) (by omega) hs rfl (hkp (u, -1) r2.k) hrf (fun h => by omega) (fun _ => ⟨?_, by omega⟩) (fun h => by omega)
    rw [(u1.elow _ (by omega)).1, (y1.elow _ e3).1, e4, hv2]
  rw [if_neg k5] at h1 ⊢
  by_cases k6 : s.kind = 6
  · rw [if_pos k6] at h1 ⊢
    have hx : s.xs = [s.a] := by unfold St.xs; rw [if_neg (by omega), if_neg (by omega), if_neg (by omega)]
    rw [hx] at cv1
    rw [hok.el (by omega), List.append_nil] at cv2
    have hy0 : (blockOf (stm6 n) (({ (vals d s.a).1 with loops := d.loops + 1 } : CS).need ((vals d s.a).2 == 2) s.fr 8) s.thn).code = 0 := h1
    have hx0 := Lv.blockOf (Lv.stm6 n) _ _ hy0
    have h2 := (need_code _ _ _ _ (by decide)).1 hx0
    obtain ⟨e1, e2, e3, e4, e5⟩ := one_val okd hwd hcud cv1 (fun j h1 h2 => hund j h1 (by omega)) (by omega) h2.1
    have okv := e1.kept.ok okd
    have htv := e1.kept.t
    have hcv := e1.kept.cur
    have hlv : (vals d s.a).1.loops = d.loops := e1.kept.loops
    have hv2 : (vals d s.a).2 = 2 := by simpa using h2.2
    rw [need_stays (by decide) hx0] at h1 hy0 ⊢
    generalize vals d s.a = v at *
    have curv : CurOk v.1 := by unfold CurOk; rw [hcv]; exact hcud
    have y1 := sblock ih s.thn ({ v.1 with loops := d.loops + 1 } : CS) em ehi slo r { okv with } (by show Tw v.1.t; rw [htv]; exact hwd) curv (by show ∀ (i : Nat) (x : St), v.1.t.stmts[i]? = some x → StOk x; rw [htv]; exact hstd) (by show Cov v.1.t.exprs v.1.t.stmts _ _ _ _ _; rw [htv]; exact cv2)
      (fun j h1 h2 => by show v.1.slot[j]? = _; rw [(e1.high j h1).2]; exact hund j (by omega) h2) (by show ehi ≤ v.1.t.exprs.length; rw [htv]; exact hEd) (by omega) hy0
    generalize blockOf (stm6 n) ({ v.1 with loops := d.loops + 1 } : CS) s.thn = y at *
    have ky : KeptS v.1 ({ y with loops := d.loops } : CS) :=
      ⟨y1.k.t, y1.k.f, y1.k.block, hlv.symm, y1.k.lt, y1.k.ls, y1.k.lp, y1.k.lf, y1.k.lS, y1.k.cur, fun h => { y1.k.ok { h with } with }, y1.k.other⟩
    have y2 : SRes v.1 ({ y with loops := d.loops } : CS) em ehi slo r := ⟨ky, y1.cur, y1.elow, y1.ehigh, y1.slow, y1.shigh, y1.einn, y1.sinn⟩
    have r1 := (SRes.ofE e1 slo).trans hwd y2 e2 hle2.1 (Nat.le_refl _) hle2.2
    refine SRes.leaf (n := -1) hw (by rw [hd]; exact r1) (by omega) hs rfl (hkp (({ y with loops := d.loops } : CS), -1) r1.k) hrf (fun h => by omega) (fun _ => ⟨?_, by omega⟩) (fun h => by omega)
    rw [(y2.elow _ e3).1, e4, hv2]
  rw [if_neg k6] at h1 ⊢
  obtain ⟨rfl, rfl⟩ := noblk (hok.th k5 k6) (hok.el k5)
  by_cases k7 : s.kind = 7 ∨ s.kind = 8
  · rw [if_pos k7] at h1 ⊢
    have hx : s.xs = [] := by unfold St.xs; rw [if_neg (by omega), if_neg (by omega), if_pos (by omega)]
    rw [hx] at cv1
    obtain ⟨rfl, _⟩ := Cov.nilE cv1
    rw [need_stays (by decide) h1]
    exact SRes.leaf (n := -1) hw (by rw [hd]; exact .refl d _ _) (Nat.le_refl _) hs rfl (hkp (d, -1) (.refl d)) hrf (fun h => by omega) (fun h => by omega) (fun h => by omega)
  rw [if_neg k7] at h1 ⊢
  by_cases k9 : s.kind = 9
  · rw [if_pos k9] at h1 ⊢
    by_cases ha : s.a ≥ 0
    · rw [if_pos ha] at h1 ⊢
      have hx : s.xs = [s.a] := by unfold St.xs; rw [if_neg (by omega), if_pos k9, if_neg (by omega)]
      rw [hx] at cv1
      have h2 := (need_code _ _ _ _ (by decide)).1 h1
      obtain ⟨e1, e2, e3, e4, e5⟩ := one_val okd hwd hcud cv1 hund hEd h2.1
      have hr := SRes.ofE e1 slo
      rw [need_stays (by decide) h1]
      generalize vals d s.a = v at *
      exact SRes.leaf (n := -1) hw (by rw [hd]; exact hr) (Nat.le_refl _) hs rfl (hkp v hr.k) hrf (fun h => by omega) (fun h => by omega) (fun h => by omega)
    · rw [if_neg ha] at h1 ⊢
      have hx : s.xs = [] := by unfold St.xs; rw [if_neg (by omega), if_pos k9, if_pos (by omega)]
      rw [hx] at cv1
      obtain ⟨rfl, _⟩ := Cov.nilE cv1
      rw [need_stays (by decide) h1]
      exact SRes.leaf (n := -1) hw (by rw [hd]; exact .refl d _ _) (Nat.le_refl _) hs rfl (hkp (d, -1) (.refl d)) hrf (fun h => by omega) (fun h => by omega) (fun h => by omega)
  rw [if_neg k9] at h1 ⊢
  have hx : s.xs = [s.a] := by unfold St.xs; rw [if_neg (by omega), if_neg (by omega), if_neg (by omega)]
  rw [hx] at cv1
  by_cases k10 : s.kind = 10
  · rw [if_pos k10] at h1 ⊢
    obtain ⟨e1, e2, e3, e4, e5⟩ := one_val okd hwd hcud cv1 hund hEd h1
    have hr := SRes.ofE e1 slo
    generalize vals d s.a = v at *
    exact SRes.leaf (n := -1) hw (by rw [hd]; exact hr) (Nat.le_refl _) hs rfl (hkp v hr.k) hrf (fun h => by omega) (fun h => by omega) (fun h => by omega)
  rw [if_neg k10] at h1 ⊢
  have k11 : s.kind = 11 := by omega
  rw [if_pos k11] at h1 ⊢
  obtain ⟨q, x, hq, hxx, hk, hl⟩ := Cov.consE (show Cov d.t.exprs d.t.stmts (.e s.a :: []) elo slo em slo from cv1)
  obtain ⟨he, _⟩ := Cov.nilE hl
  have hl5 := hk.le
  rw [hq] at h1 ⊢
  obtain ⟨e1, e2⟩ := xe_all d.t.exprs.length d q x elo slo okd hwd hcud hxx hk (fun j h1 h2 => hund j h1 (by omega)) (by omega) h1
  rw [he] at e1
  have hr := SRes.ofE e1 slo
  generalize expr6 d.t.exprs.length d (q : Int) = v at *
  exact SRes.leaf (n := -1) hw (by rw [hd]; exact hr) (Nat.le_refl _) hs rfl (hkp v hr.k) hrf (fun h => by omega) (fun h => by omega) (fun h => by omega)
theorem xs_all : ∀ n, XS n
  | 0 => fun c r s elo ehi slo h1 h2 h3 h4 h5 h6 h7 h8 h9 => absurd h9 (by omega)
  | n + 1 => xs_step n (xs_all n)
end Go.Proofs.Ytaadamobapnfbaa
set_option linter.unusedVariables false
set_option linter.unusedSimpArgs false
set_option maxRecDepth 100000
namespace Go.Proofs.Ytaadamobapnfbaa
open Go Go.Abs
theorem pars_res (fr : Int) (e s : Nat) : ∀ (l : List ByteArray) (c : CS), c.ok → Tw c.t → (parsOf fr l c).code = 0 → SRes c (parsOf fr l c) e e s s
  | [], c, hc, hw, h0 => .refl c e s
  | p :: l, c, hc, hw, h0 => by
    have h1 : (if c.code = 0 then (c.decl p 1 fr).1 else c).code = 0 := Lv.pars fr l _ h0
    by_cases hc0 : c.code = 0
    · rw [if_pos hc0] at h1
      obtain ⟨f1, f2, f3, f4⟩ := SRes.decl hc hc0 p 1 fr (.inl rfl) h1 e s
      show SRes c (parsOf fr l (if c.code = 0 then (c.decl p 1 fr).1 else c)) e e s s
      have h0 : (parsOf fr l (if c.code = 0 then (c.decl p 1 fr).1 else c)).code = 0 := h0
      rw [if_pos hc0] at h0 ⊢
      have ht := f1.k.t
      exact f1.trans hw (pars_res fr e s l _ (f1.k.ok hc) (by rw [ht]; exact hw) h0) (Nat.le_refl _) (Nat.le_refl _) (Nat.le_refl _) (Nat.le_refl _)
    · rw [if_neg hc0] at h1; exact absurd h1 hc0
theorem sbody : ∀ (l : List Int) (c : CS) (elo ehi slo shi : Nat), c.ok → Tw c.t → CurOk c → (∀ (i : Nat) (x : St), c.t.stmts[i]? = some x → StOk x) → Cov c.t.exprs c.t.stmts (l.map .s) elo slo ehi shi → (∀ j, elo ≤ j → j < ehi → c.slot[j]? = some (-1)) → ehi ≤ c.t.exprs.length → shi ≤ c.t.stmts.length →
    (bodyOf l c).code = 0 → SRes c (bodyOf l c) elo ehi slo shi
  | [], c, elo, ehi, slo, shi, hc, hw, hcu, hst, hcov, hun, hE, hn, h0 => by
    obtain ⟨rfl, rfl⟩ := Cov.nilE hcov
    exact .refl c _ _
  | q :: l, c, elo, ehi, slo, shi, hc, hw, hcu, hst, hcov, hun, hE, hn, h0 => by
    obtain ⟨r, em, s, rfl, hs, hk, hl⟩ := Cov.consS hcov
    have hle := hl.le
    have hle2 := hk.le
    have h1 : (stm6 c.t.stmts.length c (r : Int)).code = 0 := Lv.body l _ h0
    have e1 := xs_all c.t.stmts.length c r s elo em slo hc hw hcu hst hs hk (fun j h1 h2 => hun j h1 (by omega)) (by omega) (by omega) h1
    show SRes c (bodyOf l (stm6 c.t.stmts.length c (r : Int))) elo ehi slo shi
    have h0 : (bodyOf l (stm6 c.t.stmts.length c (r : Int))).code = 0 := h0
    have ht := e1.k.t
    exact e1.trans hw (sbody l _ em ehi (r + 1) shi (e1.k.ok hc) (by rw [ht]; exact hw) (hcu.more e1) (by rw [ht]; exact hst) (by rw [ht]; exact hl) (fun j h1 h2 => by rw [(e1.ehigh j h1).2]; exact hun j (by omega) h2) (by rw [ht]; exact hE) (by rw [ht]; exact hn) h0) (by omega) (by omega) (by omega) (by omega)
theorem funs_append : ∀ (l l' : List Fu) (i : Nat) (c : CS), funs i (l ++ l') c = funs (i + l.length) l' (funs i l c)
  | [], l', i, c => rfl
  | g :: l, l', i, c => by
    show funs (i + 1) (l ++ l') _ = funs (i + (l.length + 1)) l' (funs (i + 1) l _)
    rw [funs_append l l' (i + 1), show i + 1 + l.length = i + (l.length + 1) by omega]
/-- function f's text: expressions and statements of it -/
def EIn (toks : List Tok) (t : Tree) (Y : Int) (f j : Nat) : Prop := ∃ (g : Fu) (a b : Nat) (x : Int) (c d : Nat) (y : Int), t.funcs[f]? = some g ∧ FOne toks t.exprs t.stmts g a b x c d y ∧ a ≤ j ∧ j < c ∧ FCov toks t.exprs t.stmts (t.funcs.take f) 0 0 0 a b x ∧ y ≤ Y
def SIn (toks : List Tok) (t : Tree) (Y : Int) (f j : Nat) : Prop := ∃ (g : Fu) (a b : Nat) (x : Int) (c d : Nat) (y : Int), t.funcs[f]? = some g ∧ FOne toks t.exprs t.stmts g a b x c d y ∧ b ≤ j ∧ j < d ∧ FCov toks t.exprs t.stmts (t.funcs.take f) 0 0 0 a b x ∧ y ≤ Y
theorem EIn.more {toks : List Tok} {t : Tree} {Y Y' : Int} {f j : Nat} (h : EIn toks t Y f j) (hY : Y ≤ Y') : EIn toks t Y' f j := by
  obtain ⟨g, a, b, x, c, d, y, q1, q2, q3, q4, q5, q6⟩ := h
  exact ⟨g, a, b, x, c, d, y, q1, q2, q3, q4, q5, by omega⟩
theorem SIn.more {toks : List Tok} {t : Tree} {Y Y' : Int} {f j : Nat} (h : SIn toks t Y f j) (hY : Y ≤ Y') : SIn toks t Y' f j := by
  obtain ⟨g, a, b, x, c, d, y, q1, q2, q3, q4, q5, q6⟩ := h
  exact ⟨g, a, b, x, c, d, y, q1, q2, q3, q4, q5, by omega⟩
structure FDone (toks : List Tok) (t : Tree) (c : CS) (i E S : Nat) (Y : Int) : Prop where
  ex : ∀ (j : Nat) (x : Ex), j < E → t.exprs[j]? = some x → ∃ f, f < i ∧ EIn toks t Y f j ∧ EOk t c.type c.slot (c.slots.getD f []) j x
  st : ∀ (j : Nat) (s : St), j < S → t.stmts[j]? = some s → ∃ f, f < i ∧ SIn toks t Y f j ∧ SOk c.type c.put c.func E (c.slots.getD f []).length f j s
  un : ∀ j, E ≤ j → j < t.exprs.length → c.slot[j]? = some (-1)
theorem start_code (t : Tree) : (faceOf (dups [] t.funcs (c0 t))).slot = (c0 t).slot := by
  have h2 := (Kept.dups t.funcs [] (c0 t)).2.2
  have need_s : ∀ (c : CS) (ok : Bool) (a k : Int), (c.need ok a k).slot = c.slot := fun c ok a k => by unfold CS.need; split <;> rfl
  unfold faceOf
  rw [need_s, need_s, h2]
theorem fdone {toks : List Tok} {t : Tree} (hw : Tw t) (ht : TreeOk t) (hst : ∀ (i : Nat) (x : St), t.stmts[i]? = some x → StOk x) {l : List Fu} {a b E S : Nat} {z X : Int} (h : FCov toks t.exprs t.stmts l a b z E S X) : a = 0 → b = 0 → z = 0 → (∃ l', t.funcs = l ++ l') → E ≤ t.exprs.length → S ≤ t.stmts.length →
    (funs 0 l (faceOf (dups [] t.funcs (c0 t)))).code = 0 → Pre t l.length (funs 0 l (faceOf (dups [] t.funcs (c0 t)))) ∧ FDone toks t (funs 0 l (faceOf (dups [] t.funcs (c0 t)))) l.length E S X := by
  induction h with
  | nil a b x =>
    rintro rfl rfl rfl _ _ _ _
    refine ⟨pre0 t, ⟨fun j x h => by omega, fun j s h => by omega, fun j h1 h2 => ?_⟩⟩
    show (faceOf (dups [] t.funcs (c0 t))).slot[j]? = _
    rw [start_code]
    show (List.replicate t.exprs.length (-1 : Int))[j]? = _
    rw [List.getElem?_replicate, if_pos h2]
  | @snoc l g a b E S E' S' z X X' hcov hone ih =>
    rintro rfl rfl rfl ⟨l', hl'⟩ hE hS h0
    have hle := hone.cov.le
    rw [funs_append, Nat.zero_add] at h0 ⊢
    have h1 : (funs 0 l (faceOf (dups [] t.funcs (c0 t)))).code = 0 := Lv.funs [g] l.length _ h0
    obtain ⟨hpre, hd⟩ := ih rfl rfl rfl ⟨g :: l', by rw [hl', List.append_assoc]; rfl⟩ (by omega) (by omega) h1
    generalize funs 0 l (faceOf (dups [] t.funcs (c0 t))) = c at *
    have hlt : l.length < t.funcs.length := by rw [hl']; simp
    have hgl : t.funcs[l.length]? = some g := by rw [hl', List.append_assoc, List.getElem?_append_right (Nat.le_refl _), Nat.sub_self]; rfl
    have htk : t.funcs.take l.length = l := by rw [hl', List.append_assoc]; exact List.take_left
    have hok := hpre.enter hlt ht.big
    have hct : (c.enter l.length).t = t := hpre.tt
    show Pre t (l ++ [g]).length (bodyOf g.body (parsOf g.fr g.params (c.enter l.length))) ∧ FDone toks t (bodyOf g.body (parsOf g.fr g.params (c.enter l.length))) (l ++ [g]).length E' S' X'
    have h0 : (bodyOf g.body (parsOf g.fr g.params (c.enter l.length))).code = 0 := h0
    have hp0 := Lv.body _ _ h0
    have p1 := pars_res g.fr E S g.params (c.enter l.length) hok (by rw [hct]; exact hw) hp0
    have hcu : CurOk (c.enter l.length) := by intro k hk; rw [hpre.cur hlt] at hk; simp at hk
    have htp : (parsOf g.fr g.params (c.enter l.length)).t = t := p1.k.t.trans hct
    have b1 := sbody g.body (parsOf g.fr g.params (c.enter l.length)) E E' S S' (p1.k.ok hok) (by rw [htp]; exact hw) (hcu.more p1) (by rw [htp]; exact hst) (by rw [htp]; exact hone.cov) (fun j h1 h2 => by rw [(p1.ehigh j h1).2]; exact hd.un j h1 (by omega)) (by rw [htp]; exact hE) (by rw [htp]; exact hS) h0
    have r := p1.trans (by rw [hct]; exact hw) b1 (Nat.le_refl _) hle.1 (Nat.le_refl _) hle.2
    generalize bodyOf g.body (parsOf g.fr g.params (c.enter l.length)) = e at *
    have hlen : (l ++ [g]).length = l.length + 1 := by simp
    rw [hlen]
    refine ⟨hpre.next hlt r.k, ⟨fun j x hj hx => ?_, fun j s hj hs => ?_, fun j h1 h2 => ?_⟩⟩
    · have hsl : ∀ f, f < l.length → e.slots.getD f [] = c.slots.getD f [] := fun f hf => by
        have := r.k.other f (by show f ≠ ((l.length : Nat) : Int).toNat; omega)
        rw [List.getD_eq_getElem?_getD, List.getD_eq_getElem?_getD, this]; rfl
      by_cases hjE : j < E
      · obtain ⟨f, f1, f2, f3⟩ := hd.ex j x hjE hx
        refine ⟨f, by omega, f2.more (Int.le_of_lt hone.lt), ?_⟩
        rw [hsl f f1]
        have := f3.keep (m := []) (hw.ix hx) (fun i hi => r.elow i (by omega))
        rwa [List.append_nil] at this
      · refine ⟨l.length, by omega, ⟨g, _, _, _, _, _, _, hgl, hone, by omega, hj, by rw [htk]; exact hcov, Int.le_refl _⟩, ?_⟩
        have := r.einn j x (by omega) hj (by rw [hct]; exact hx)
        rw [hct] at this
        have hec : e.cur = e.slots.getD l.length [] := by
          unfold CS.cur; rw [r.k.f]; show e.slots.getD ((l.length : Nat) : Int).toNat [] = _; rw [Int.toNat_natCast]
        rw [hec] at this; exact this
    · have hsl : ∀ f, f < l.length → e.slots.getD f [] = c.slots.getD f [] := fun f hf => by
        have := r.k.other f (by show f ≠ ((l.length : Nat) : Int).toNat; omega)
        rw [List.getD_eq_getElem?_getD, List.getD_eq_getElem?_getD, this]; rfl
      by_cases hjS : j < S
      · obtain ⟨f, f1, f2, f3⟩ := hd.st j s hjS hs
        refine ⟨f, by omega, f2.more (Int.le_of_lt hone.lt), ?_⟩
        rw [hsl f f1]
        exact f3.keep (fun i hi => (r.elow i hi).1) (r.slow j hjS).1 (r.slow j hjS).2 hle.1 (Nat.le_refl _)
      · refine ⟨l.length, by omega, ⟨g, _, _, _, _, _, _, hgl, hone, by omega, hj, by rw [htk]; exact hcov, Int.le_refl _⟩, ?_⟩
        have := r.sinn j s (by omega) hj (by rw [hct]; exact hs)
        have hec : e.cur = e.slots.getD l.length [] := by
          unfold CS.cur; rw [r.k.f]; show e.slots.getD ((l.length : Nat) : Int).toNat [] = _; rw [Int.toNat_natCast]
        rw [hec] at this; exact this
    · rw [(r.ehigh j h1).2]; exact hd.un j (by omega) h2
theorem PutOk.pars (fr : Int) : ∀ (l : List ByteArray) (c : CS), PutOk c → PutOk (parsOf fr l c)
  | [], c, h => h
  | p :: l, c, h => by
    refine PutOk.pars fr l _ ?_
    split
    · exact h.decl _ _ _
    · exact h
theorem PutOk.body : ∀ (l : List Int) (c : CS), PutOk c → PutOk (bodyOf l c)
  | [], c, h => h
  | k :: l, c, h => PutOk.body l _ (PutOk.stm6 _ _ _ h)
theorem PutOk.funs : ∀ (l : List Fu) (i : Nat) (c : CS), PutOk c → PutOk (funs i l c)
  | [], i, c, h => h
  | g :: l, i, c, h => PutOk.funs l _ _ (PutOk.body _ _ (PutOk.pars _ _ _ (h.same rfl rfl)))
theorem putok0 (t : Tree) : PutOk (checked t) := by
  refine PutOk.funs _ _ _ ?_
  have h := (Kept.dups t.funcs [] (c0 t)).1.trans (Kept.face _)
  refine PutOk.kept ?_ h
  intro j s hj _ hl
  have hl : j < (List.replicate t.stmts.length (-1 : Int)).length := hl
  show (List.replicate t.stmts.length (-1 : Int))[j]? = _
  rw [List.getElem?_replicate, if_pos (by simpa using hl)]
/-- what is known of a right program -/
structure Fine (toks : List Tok) (t : Tree) (Y : Int) (r : CS) : Prop where
  fl : r.f + 1 = t.funcs.length
  lt : r.type.length = t.exprs.length
  ls : r.slot.length = t.exprs.length
  lp : r.put.length = t.stmts.length
  lf : r.func.length = t.stmts.length
  lS : r.slots.length = t.funcs.length
  ex : ∀ (j : Nat) (x : Ex), t.exprs[j]? = some x → ∃ f, f < t.funcs.length ∧ EIn toks t Y f j ∧ EOk t r.type r.slot (r.slots.getD f []) j x
  st : ∀ (j : Nat) (s : St), t.stmts[j]? = some s → ∃ f, f < t.funcs.length ∧ SIn toks t Y f j ∧ SOk r.type r.put r.func t.exprs.length (r.slots.getD f []).length f j s
  no : ∀ (j : Nat) (s : St), t.stmts[j]? = some s → 4 < s.kind → r.put[j]? = some (-1)
theorem IsTree.tw {s : ByteArray} {t : Tree} {toks : List Tok} {at_ : Int} (h : IsTree s t toks at_) : Tw t := by
  refine ⟨h.ok.ex, h.exOk, fun g hg => ?_⟩
  obtain ⟨k, hk, hg'⟩ := List.getElem_of_mem hg
  obtain ⟨a', b', c', d', x', y', q2, _⟩ := h.cov.one_f k g (by rw [List.getElem?_eq_getElem hk, hg'])
  rcases q2.type with h | h
  · exact .inl h
  · exact .inr (.inr h)
theorem IsTree.fine {s : ByteArray} {t : Tree} {toks : List Tok} {at_ : Int} (h : IsTree s t toks at_) (hc : (checked t).code = 0) : Fine toks t at_ (checked t) := by
  have hst : ∀ (i : Nat) (x : St), t.stmts[i]? = Option.some x → StOk x := fun i x hx => by
    have hlt := (List.getElem?_eq_some_iff.1 hx).1
    obtain ⟨k, g, a', b', c', d', x', y', q1, q2, q3, q4, q5, q6, q7, q8, q9, q10⟩ := h.cov.one_s i (Nat.zero_le _) hlt
    exact (q2.st i x q9 q10 hx).1
  obtain ⟨hp, hd⟩ := fdone h.tw h.ok hst h.cov rfl rfl rfl ⟨[], by simp⟩ (Nat.le_refl _) (Nat.le_refl _) hc
  have hsome := h.ok.some
  refine ⟨by rcases hp.f1 with ⟨_, h2⟩ | h2; omega; exact h2, hp.lt, hp.ls, hp.lp, hp.lf, hp.lS, fun j x hx => hd.ex j x (List.getElem?_eq_some_iff.1 hx).1 hx, fun j s hs => hd.st j s (List.getElem?_eq_some_iff.1 hs).1 hs, fun j s hs hk => ?_⟩
  refine putok0 t j s ?_ (.inr hk) ?_
  · rw [show (checked t).t = t from hp.tt]; exact hs
  · rw [show (checked t).put.length = t.stmts.length from hp.lp]; exact (List.getElem?_eq_some_iff.1 hs).1
end Go.Proofs.Ytaadamobapnfbaa
set_option linter.unusedVariables false
set_option linter.unusedSimpArgs false
set_option maxRecDepth 100000
namespace Go.Proofs.Ytaadamobapnfbaa
open Go Go.Abs
theorem Chain.ge {s : ByteArray} {a : Nat} {l : List Tok} (h : Chain s a l) : ∀ j, j < l.length → (a : Int) ≤ (l.getD j default).fr := by
  induction h with
  | last h hk =>
    intro j hj
    have : j = 0 := by simpa using hj
    subst this; exact h.fr
  | cons h hk h' ih =>
    intro j hj
    cases j with
    | zero => exact h.fr
    | succ j =>
      rw [List.getD_cons_succ]
      have h1 := ih j (by simpa using hj)
      have h2 := h.fr
      have h3 := h.to
      omega
theorem Chain.lt {s : ByteArray} {a : Nat} {l : List Tok} (h : Chain s a l) : ∀ i j, i < j → j < l.length → (l.getD i default).to ≤ (l.getD j default).fr ∧ (l.getD i default).fr < (l.getD i default).to := by
  induction h with
  | last h hk => intro i j hij hj; simp at hj; omega
  | cons h hk h' ih =>
    intro i j hij hj
    obtain ⟨j, rfl⟩ : ∃ q, j = q + 1 := ⟨j - 1, by omega⟩
    rw [List.length_cons] at hj
    have hj := Nat.lt_of_succ_lt_succ hj
    rw [List.getD_cons_succ]
    cases i with
    | zero =>
      rw [List.getD_cons_zero]
      have h1 := h'.ge j hj
      have h2 := h.fr
      have h3 := h.to
      exact ⟨by omega, h.kind hk⟩
    | succ i => rw [List.getD_cons_succ]; exact ih i j (by omega) hj
theorem Chain.frs {s : ByteArray} {a : Nat} {l : List Tok} (h : Chain s a l) {i j : Nat} (hij : i ≤ j) (hj : j < l.length) : (l.getD i default).fr ≤ (l.getD j default).fr := by
  by_cases he : i = j
  · rw [he]; exact Int.le_refl _
  · have := h.lt i j (by omega) hj; omega
theorem Chain.tos {s : ByteArray} {a : Nat} {l : List Tok} (h : Chain s a l) {i j : Nat} (hij : i ≤ j) (hj : j + 1 < l.length) : (l.getD i default).to ≤ (l.getD j default).to := by
  by_cases he : i = j
  · rw [he]; exact Int.le_refl _
  · have h1 := h.lt i j (by omega) (by omega)
    have h2 := h.lt j (j + 1) (by omega) hj
    omega
theorem Span.inside {s : ByteArray} {a : Nat} {toks : List Tok} (h : Chain s a toks) {x y fr to : Int} (hx : 0 ≤ x) (hy : y < toks.length) (hs : Span toks x y fr to) :
    (toks.getD x.toNat default).fr ≤ fr ∧ to ≤ (toks.getD (y - 1).toNat default).to ∧ fr < to := by
  obtain ⟨i, j, h1, h2, h3, rfl, rfl⟩ := hs
  refine ⟨h.frs (by omega) (by omega), h.tos (by omega) (by omega), ?_⟩
  have h4 := (h.lt i.toNat (i.toNat + 1) (by omega) (by omega)).2
  have h5 := h.tos (i := i.toNat) (j := (j - 1).toNat) (by omega) (by omega)
  omega
theorem IsTree.apart {s : ByteArray} {t : Tree} {toks : List Tok} {at_ : Int} (h : IsTree s t toks at_) {f k : Nat} (hf : f < k) (hk : k < t.funcs.length) : (t.funcs[f]'(by omega)).to ≤ t.funcs[k].fr := by
  obtain ⟨a', b', c', d', x', y', q1, q2, q3, q4, q5, q6, q7, q8⟩ := h.cov.one_f k t.funcs[k] (List.getElem?_eq_getElem hk)
  have hft : (t.funcs.take k)[f]? = Option.some (t.funcs[f]'(by omega)) := by rw [List.getElem?_take, if_pos hf, List.getElem?_eq_getElem]
  obtain ⟨a2, b2, c2, d2, x2, y2, p1, p2, p3, p4, p5, p6, p7, p8⟩ := q8.one_f f _ hft
  rw [p1.to, q1.fr]
  have h1 := p1.lt
  have h2 := q1.lt
  have h3 := h.lt
  exact (h.chain.lt (y2 - 1).toNat x'.toNat (by omega) (by omega)).1
theorem IsTree.exIn {s : ByteArray} {t : Tree} {toks : List Tok} {at_ : Int} (h : IsTree s t toks at_) {f j : Nat} (hi : EIn toks t at_ f j) {z : Ex} (hz : t.exprs[j]? = Option.some z) (hf : f < t.funcs.length) : t.funcs[f].fr ≤ z.fr ∧ z.to ≤ t.funcs[f].to ∧ z.fr < z.to := by
  obtain ⟨g, a, b, x, c, d, y, q1, q2, q3, q4, q5, q6⟩ := hi
  rw [List.getElem?_eq_getElem hf] at q1
  have hg := Option.some.inj q1
  have hsp := (q2.ex j z q3 q4 hz).2
  have hx := q5.le
  have h3 := h.lt
  rw [hg]
  have hin := Span.inside h.chain hx.2.2 (by omega) hsp
  rw [q2.fr, q2.to]
  exact hin
/-- an expression stands in one function's text alone -/
theorem IsTree.only {s : ByteArray} {t : Tree} {toks : List Tok} {at_ : Int} (h : IsTree s t toks at_) {f j : Nat} (hi : EIn toks t at_ f j) {z : Ex} (hz : t.exprs[j]? = Option.some z) (hf : f < t.funcs.length) {k : Nat} (hk : k < t.funcs.length) :
    (t.funcs[k].fr ≤ z.fr ∧ z.to ≤ t.funcs[k].to) ↔ k = f := by
  have h1 := h.exIn hi hz hf
  constructor
  · rintro ⟨a, b⟩
    by_cases hlt : k < f
    · have := h.apart hlt hf; omega
    · by_cases hgt : f < k
      · have := h.apart hgt hk; omega
      · omega
  · rintro rfl; exact ⟨h1.1, h1.2.1⟩
theorem slots_cell {t : Tree} {toks : List Tok} {Y : Int} {r : CS} (h : Fine toks t Y r) (τ : Nat) {f : Nat} (hf : f < t.funcs.length) : ∃ tk, (r.slotCells τ)[0 + ((f : Nat) : Int).toNat * 1]? = Option.some (.il 1 tk (ints (r.slots.getD f []))) := by
  have h1 := h.fl
  have h2 := h.lS
  have hl : f < r.slots.length := by omega
  rw [Nat.zero_add, Nat.mul_one, Int.toNat_natCast, slots_get, List.getElem?_eq_getElem hl, Option.map_some]
  have hg : r.slots.getD f [] = r.slots[f] := by rw [List.getD_eq_getElem?_getD, List.getElem?_eq_getElem hl]; rfl
  rw [hg]
  unfold slotCell
  by_cases he : (f : Int) = r.f
  · exact ⟨some τ, by rw [if_pos he]⟩
  · exact ⟨none, by rw [if_neg he, if_pos (by omega)]⟩
end Go.Proofs.Ytaadamobapnfbaa
set_option linter.unusedVariables false
set_option linter.unusedSimpArgs false
set_option maxRecDepth 100000
namespace Go.Proofs.Ytaadamobapnfbaa
open Go Go.Abs
theorem ite_iff {p q : Prop} [Decidable p] [Decidable q] {α : Type} {a b : α} (h : p ↔ q) : (if p then a else b) = if q then a else b := by
  by_cases hq : q
  · rw [if_pos (h.2 hq), if_pos hq]
  · rw [if_neg (fun hp => hq (h.1 hp)), if_neg hq]
theorem app_toList (s r : ByteArray) : (s ++ r).data.toList = s.data.toList ++ r.data.toList := by
  rw [ByteArray.data_append, Array.toList_append]
theorem size_toList (s : ByteArray) : s.data.toList.length = s.size := by simp
theorem app_size (s r : ByteArray) : (s ++ r).size = s.size + r.size := ByteArray.size_append
theorem drop_app_l {s r : ByteArray} {i : Nat} (h : i ≤ s.size) : (s ++ r).data.toList.drop i = s.data.toList.drop i ++ r.data.toList := by
  rw [app_toList, List.drop_append_of_le_length (by rw [size_toList]; exact h)]
theorem drop_app_r (s r : ByteArray) (i : Nat) : (s ++ r).data.toList.drop (s.size + i) = r.data.toList.drop i := by
  rw [app_toList, ← size_toList s, List.drop_append]
  simp
theorem byte_app_l {s r : ByteArray} {i : Nat} (h : i < s.size) : byteAt (s ++ r) i = byteAt s i := by
  unfold byteAt
  rw [app_toList, List.getD_eq_getElem?_getD, List.getElem?_append_left (by rw [size_toList]; exact h), List.getD_eq_getElem?_getD]
theorem byte_app_r (s r : ByteArray) (i : Nat) : byteAt (s ++ r) (s.size + i) = byteAt r i := by
  unfold byteAt
  rw [app_toList, List.getD_eq_getElem?_getD, List.getElem?_append_right (by rw [size_toList]; omega), List.getD_eq_getElem?_getD, size_toList, Nat.add_sub_cancel_left]
theorem extract_toList (s : ByteArray) (i j : Nat) : (s.extract i j).data.toList = (s.data.toList.take j).drop i := by
  rw [ByteArray.data_extract, Array.toList_extract, List.extract_eq_take_drop]
  rw [List.drop_take]
theorem extract_app_l {s r : ByteArray} {i j : Nat} (h : j ≤ s.size) : ((s ++ r).extract i j).data.toList = (s.extract i j).data.toList := by
  rw [extract_toList, extract_toList, app_toList, List.take_append_of_le_length (by rw [size_toList]; exact h)]
theorem extract_app_r (s r : ByteArray) (i j : Nat) : ((s ++ r).extract (s.size + i) (s.size + j)).data.toList = (r.extract i j).data.toList := by
  rw [extract_toList, extract_toList, List.drop_take, List.drop_take, drop_app_r, show s.size + j - (s.size + i) = j - i by omega]
theorem hasS_congr {l : List ByteArray} {a b : ByteArray} (h : a.data.toList = b.data.toList) : hasS l a = hasS l b := by unfold hasS; rw [h]
theorem bytes_ext {a b : ByteArray} (h : a.data.toList = b.data.toList) : a = b := by
  have : a.data = b.data := Array.toList_inj.1 h
  cases a; cases b; simpa using this
/-- a blank that ends a token, and a comment if it is a new line -/
def Blank (b : UInt8) : Prop := b = 10 ∨ b = 32
theorem runL_app {f : Int → Bool} {b : UInt8} (hb : f b.toNat = false) : ∀ (l m : List UInt8), runL f (l ++ b :: m) = runL f l
  | [], m => by simp only [List.nil_append, runL]; rw [if_neg (by rw [hb]; decide)]
  | x :: l, m => by
    simp only [List.cons_append, runL]
    rw [runL_app hb l m]
theorem skip_app {r : List UInt8} : ∀ (l : List UInt8) (c : Bool), skipL c l < l.length → skipL c (l ++ r) = skipL c l
  | [], c, h => by cases c <;> simp [skipL] at h
  | x :: l, true, h => by
    simp only [List.cons_append, skipL, List.length_cons] at h ⊢
    split at h
    · rename_i hx; rw [if_pos hx, if_pos hx, skip_app l false (by omega)]
    · rename_i hx; rw [if_neg hx, if_neg hx, skip_app l true (by omega)]
  | x :: l, false, h => by
    simp only [List.cons_append, skipL, List.length_cons] at h ⊢
    split at h
    · rename_i hx; rw [if_pos hx, if_pos hx, skip_app l false (by omega)]
    · rename_i hx
      rw [if_neg hx, if_neg hx]
      split at h
      · rename_i hy; rw [if_pos hy, if_pos hy, skip_app l true (by omega)]
      · rename_i hy; rw [if_neg hy, if_neg hy]
theorem nextAt_app {s r : ByteArray} {b : UInt8} {m : List UInt8} (hr : r.data.toList = b :: m) (hb : Blank b) {i : Nat} (hi : i < s.size) (h0 : (nextAt s i).2 = 0) : nextAt (s ++ r) i = nextAt s i := by
  have hsz := app_size s r
  have hd : (s ++ r).data.toList.drop i = s.data.toList.drop i ++ (b :: m) := by rw [drop_app_l (by omega), hr]
  have hrs : 0 < r.size := by rw [← size_toList, hr]; simp
  have hnl : letOrDig b.toNat = false := by rcases hb with rfl | rfl <;> decide
  have hnd : isDigit b.toNat = false := by rcases hb with rfl | rfl <;> decide
  have hnL : isLetter b.toNat = false := by rcases hb with rfl | rfl <;> decide
  have hbyte : byteAt (s ++ r) s.size = (b.toNat : Int) := by
    have := byte_app_r s r 0
    rw [Nat.add_zero] at this
    rw [this]; unfold byteAt; rw [hr]; rfl
  unfold nextAt at h0 ⊢
  rw [if_neg (by omega)] at h0 ⊢
  rw [if_neg (show ¬ i = s.size by omega)]
  rw [byte_app_l hi, hd, runL_app hnl, runL_app hnd]
  split
  · rename_i hl
    have he := runL_end letOrDig s (i := i) (by omega)
    rw [hasS_congr (extract_app_l he)]
  rename_i hl
  rw [if_neg hl] at h0
  split
  · rename_i hdg
    rw [if_pos hdg] at h0
    have he := runL_end isDigit s (i := i) (by omega)
    have hcond : (i + runL isDigit (s.data.toList.drop i) < (s ++ r).size ∧ isLetter (byteAt (s ++ r) (i + runL isDigit (s.data.toList.drop i))) = true) ↔ (i + runL isDigit (s.data.toList.drop i) < s.size ∧ isLetter (byteAt s (i + runL isDigit (s.data.toList.drop i))) = true) := by
      by_cases hx : i + runL isDigit (s.data.toList.drop i) < s.size
      · rw [byte_app_l hx]
        exact ⟨fun h => ⟨hx, h.2⟩, fun h => ⟨by omega, h.2⟩⟩
      · have hx2 : i + runL isDigit (s.data.toList.drop i) = s.size := by omega
        rw [hx2, hbyte, hnL]
        exact ⟨fun h => absurd h.2 (by decide), fun h => absurd h.1 (by omega)⟩
    exact ite_iff (or_congr Iff.rfl (or_congr Iff.rfl hcond))
  rename_i hdg
  rw [if_neg hdg] at h0
  have htwo : (i + 2 ≤ (s ++ r).size ∧ hasS twoL ((s ++ r).extract i (i + 2)) = true) ↔ (i + 2 ≤ s.size ∧ hasS twoL (s.extract i (i + 2)) = true) := by
    by_cases hx : i + 2 ≤ s.size
    · rw [hasS_congr (extract_app_l hx)]
      exact ⟨fun h => ⟨hx, h.2⟩, fun h => ⟨by omega, h.2⟩⟩
    · refine ⟨fun h => ?_, fun h => absurd h.1 hx⟩
      exfalso
      have h2 := h.2
      have hex : ((s ++ r).extract i (i + 2)).data.toList = [s.data.toList.getD i 0, b] := by
        rw [extract_toList, List.drop_take, hd, drop_getD hi, List.drop_eq_nil_of_le (by rw [size_toList]; omega)]
        rw [show i + 2 - i = 2 by omega]; rfl
      unfold hasS at h2
      rw [hex] at h2
      simp only [twoL, List.any_cons, List.any_nil, Bool.or_false, Bool.or_eq_true, beq_iff_eq] at h2
      rcases hb with rfl | rfl <;> (rcases h2 with h2 | h2 | h2 | h2 | h2 | h2 <;> (injection h2 with _ h2; injection h2 with h2; cases h2))
  split
  · rename_i h1; rw [if_pos (htwo.1 h1)]
  · rename_i h1
    rw [if_neg (fun h => h1 (htwo.2 h))]
    rw [hasS_congr (extract_app_l (r := r) (i := i) (j := i + 1) (by omega))]
theorem nextTok_app {s r : ByteArray} {b : UInt8} {m : List UInt8} (hr : r.data.toList = b :: m) (hb : Blank b) {a : Nat} (ha : a ≤ s.size) (h0 : (nextTok s a).2 = 0) (hk : (nextTok s a).1.kind ≠ 0) : nextTok (s ++ r) a = nextTok s a := by
  have h1 := behind_le ha
  have hlt : behind s a < s.size := by
    by_cases h : behind s a < s.size
    · exact h
    · exfalso
      apply hk
      unfold nextTok nextAt
      rw [if_pos (by omega)]
  have hbe : behind (s ++ r) a = behind s a := by
    unfold behind at hlt ⊢
    rw [drop_app_l ha, skip_app]
    rw [List.length_drop, size_toList]; omega
  unfold nextTok at h0 ⊢
  rw [hbe]
  exact nextAt_app hr hb hlt h0
def shiftT (k : Nat) (t : Tok) : Tok := ⟨t.kind, t.fr + k, t.to + k⟩
theorem nextAt_shift (s r : ByteArray) (i : Nat) : nextAt (s ++ r) (s.size + i) = (shiftT s.size (nextAt r i).1, (nextAt r i).2) := by
  have hsz := app_size s r
  unfold nextAt
  rw [drop_app_r, byte_app_r]
  by_cases he : i = r.size
  · rw [if_pos (by omega), if_pos he]
    simp only [shiftT, Prod.mk.injEq, Tok.mk.injEq, and_true, true_and]
    omega
  rw [if_neg (by omega), if_neg he]
  split
  · rw [Nat.add_assoc, hasS_congr (extract_app_r s r i (i + runL letOrDig (r.data.toList.drop i)))]
    split
    · simp only [shiftT, Prod.mk.injEq, Tok.mk.injEq, and_true, true_and]; omega
    · simp only [shiftT, Prod.mk.injEq, Tok.mk.injEq, and_true, true_and]; omega
  split
  · rw [Nat.add_assoc, byte_app_r]
    have hc : (s.size + (i + runL isDigit (r.data.toList.drop i)) < (s ++ r).size ∧ isLetter (byteAt r (i + runL isDigit (r.data.toList.drop i))) = true) ↔ (i + runL isDigit (r.data.toList.drop i) < r.size ∧ isLetter (byteAt r (i + runL isDigit (r.data.toList.drop i))) = true) := and_congr (by rw [hsz]; omega) Iff.rfl
    rw [ite_iff (or_congr Iff.rfl (or_congr Iff.rfl hc))]
    split
    · simp only [shiftT, Prod.mk.injEq, Tok.mk.injEq, and_true, true_and]; omega
    · simp only [shiftT, Prod.mk.injEq, Tok.mk.injEq, and_true, true_and]; omega
  rw [Nat.add_assoc, Nat.add_assoc, hasS_congr (extract_app_r s r i (i + 2)), hasS_congr (extract_app_r s r i (i + 1))]
  have hc : (s.size + (i + 2) ≤ (s ++ r).size ∧ hasS twoL (r.extract i (i + 2)) = true) ↔ (i + 2 ≤ r.size ∧ hasS twoL (r.extract i (i + 2)) = true) := and_congr (by rw [hsz]; omega) Iff.rfl
  rw [ite_iff hc]
  split
  · simp only [shiftT, Prod.mk.injEq, Tok.mk.injEq, and_true, true_and]; omega
  split
  · simp only [shiftT, Prod.mk.injEq, Tok.mk.injEq, and_true, true_and]; omega
  · simp only [shiftT, Prod.mk.injEq, Tok.mk.injEq, and_true, true_and]; omega
theorem nextTok_shift (s r : ByteArray) (i : Nat) : nextTok (s ++ r) (s.size + i) = (shiftT s.size (nextTok r i).1, (nextTok r i).2) := by
  unfold nextTok behind
  rw [drop_app_r, Nat.add_assoc, nextAt_shift]
/-- the tokens of the second text, in the whole -/
theorem allToks_shift (s r : ByteArray) : ∀ (n i : Nat) (out : List Tok) (l : List Tok), (allToks n r i []).2.2 = 0 → (allToks n r i []).1 = l → i ≤ r.size → ∀ n', n ≤ n' → allToks n' (s ++ r) (s.size + i) out = (out ++ l.map (shiftT s.size), 0, 0) := by
  intro n
  induction n with
  | zero => intro i out l hc; simp [allToks] at hc
  | succ n ih =>
    intro i out l hc hl hi n' hn
    obtain ⟨n', rfl⟩ : ∃ q, n' = q + 1 := ⟨n' - 1, by omega⟩
    have gen : ∀ (k j : Nat) (o : List Tok), (allToks k r j []).2.2 = 0 → allToks k r j o = (o ++ (allToks k r j []).1, 0, 0) := by
      intro k
      induction k with
      | zero => intro j o hc; simp [allToks] at hc
      | succ k ihk =>
        intro j o hc
        unfold allToks at hc ⊢
        split
        · rename_i h1; rw [if_pos h1] at hc; exact absurd hc h1
        rename_i h1
        rw [if_neg h1] at hc
        split
        · simp
        rename_i h2
        rw [if_neg h2] at hc
        have hc' : (allToks k r (nextTok r j).1.to.toNat []).2.2 = 0 := by
          have h3 : ∀ (k j : Nat) (o o' : List Tok), (allToks k r j o).2.2 = (allToks k r j o').2.2 := by
            intro k
            induction k with
            | zero => intro j o o'; rfl
            | succ k ih3 => intro j o o'; unfold allToks; split; rfl; split; rfl; exact ih3 _ _ _
          rw [h3 k _ [] ([] ++ [(nextTok r j).1])]; exact hc
        rw [ihk _ (o ++ [(nextTok r j).1]) hc', ihk _ ([] ++ [(nextTok r j).1]) hc']
        simp
    unfold allToks at hc hl ⊢
    rw [nextTok_shift]
    split at hc
    · rename_i h1; exact absurd hc h1
    rename_i h1
    rw [if_neg h1] at hl
    rw [if_neg h1]
    have hk : (shiftT s.size (nextTok r i).1).kind = (nextTok r i).1.kind := rfl
    dsimp only
    rw [hk]
    split at hc
    · rename_i h2
      rw [if_pos h2] at hl ⊢
      dsimp only at hl
      rw [← hl]; simp
    rename_i h2
    rw [if_neg h2] at hl ⊢
    have h1' : (nextTok r i).2 = 0 := Decidable.byContradiction h1
    have hok := nextTok_ok hi h1'
    have hto := hok.end_
    have h0 := hok.fr
    have h0' := hok.to
    have e : (shiftT s.size (nextTok r i).1).to.toNat = s.size + (nextTok r i).1.to.toNat := by
      show ((nextTok r i).1.to + (s.size : Int)).toNat = _
      omega
    have hc' : (allToks n r (nextTok r i).1.to.toNat []).2.2 = 0 := by
      have h3 : ∀ (k j : Nat) (o o' : List Tok), (allToks k r j o).2.2 = (allToks k r j o').2.2 := by
        intro k
        induction k with
        | zero => intro j o o'; rfl
        | succ k ih3 => intro j o o'; unfold allToks; split; rfl; split; rfl; exact ih3 _ _ _
      rw [h3 n _ [] ([] ++ [(nextTok r i).1])]; exact hc
    rw [gen n _ ([] ++ [(nextTok r i).1]) hc'] at hl
    rw [e, ih _ _ _ hc' rfl (by omega) n' (by omega)]
    dsimp only at hl
    rw [← hl]
    simp
/-- the tokens of the first text, ahead of the second's -/
theorem allToks_app {s r : ByteArray} {b : UInt8} {m : List UInt8} (hr : r.data.toList = b :: m) (hb : Blank b) : ∀ (n a : Nat) (out l : List Tok), a ≤ s.size → (allToks n s a out).2.2 = 0 → (allToks n s a out).1 = l →
    ∃ (T0 : List Tok) (e : Tok) (p : Nat) (n1 : Nat), l = out ++ T0 ++ [e] ∧ e.kind = 0 ∧ p ≤ s.size ∧ n1 < n ∧ behind s p = s.size ∧ (∀ t ∈ T0, t.kind ≠ 0) ∧ ∀ k, allToks (n + k) (s ++ r) a out = allToks (n1 + 1 + k) (s ++ r) p (out ++ T0) := by
  intro n
  induction n with
  | zero => intro a out l ha hc; simp [allToks] at hc
  | succ n ih =>
    intro a out l ha hc hl
    unfold allToks at hc hl
    split at hc
    · rename_i h1; exact absurd hc h1
    rename_i h1
    rw [if_neg h1] at hl
    have h1' : (nextTok s a).2 = 0 := Decidable.byContradiction h1
    split at hc
    · rename_i h2
      rw [if_pos h2] at hl
      refine ⟨[], (nextTok s a).1, a, n, by rw [← hl]; simp, h2, ha, by omega, ?_, fun t ht => by simp at ht, fun k => by simp⟩
      have hble := behind_le ha
      by_cases hlt : behind s a = s.size
      · exact hlt
      · exfalso
        have hlt : behind s a < s.size := by omega
        unfold nextTok nextAt at h2 h1'
        rw [if_neg (by omega)] at h2 h1'
        split at h2
        · split at h2 <;> cases h2
        rename_i q1
        rw [if_neg q1] at h1'
        split at h2
        · rename_i q2
          rw [if_pos q2] at h1'
          split at h2
          · rename_i q3; rw [if_pos q3] at h1'; cases h1'
          · cases h2
        rename_i q2
        rw [if_neg q2] at h1'
        split at h2
        · cases h2
        rename_i q3
        rw [if_neg q3] at h1'
        split at h2
        · cases h2
        · rename_i q4; rw [if_neg q4] at h1'; cases h1'
    · rename_i h2
      rw [if_neg h2] at hl
      have hok := nextTok_ok ha h1'
      have hto := hok.end_
      obtain ⟨T0, e, p, n1, q1, q2, q3, q4, q5, q6, q7⟩ := ih (nextTok s a).1.to.toNat (out ++ [(nextTok s a).1]) l (by omega) hc hl
      refine ⟨(nextTok s a).1 :: T0, e, p, n1, by rw [q1]; simp, q2, q3, by omega, q5, fun t ht => ?_, fun k => ?_⟩
      · rcases List.mem_cons.1 ht with rfl | ht
        · exact h2
        · exact q6 t ht
      · have := q7 k
        rw [show n + 1 + k = (n + k) + 1 by omega]
        rw [allToks, nextTok_app hr hb ha h1' h2, if_neg h1, if_neg h2, this]
        simp
end Go.Proofs.Ytaadamobapnfbaa
set_option linter.unusedVariables false
set_option linter.unusedSimpArgs false
set_option maxRecDepth 100000
namespace Go.Proofs.Ytaadamobapnfbaa
open Go Go.Abs
def lf (s' : ByteArray) (T' : List Tok) (p : PS) : PS := { p with text := s', toks := T' }
section
variable {s s' : ByteArray} {T T' : List Tok} {L : Nat}
end
end Go.Proofs.Ytaadamobapnfbaa
set_option linter.unusedVariables false
set_option linter.unusedSimpArgs false
set_option maxRecDepth 100000
namespace Go.Proofs.Ytaadamobapnfbaa
open Go Go.Abs
def SeesL (s : ByteArray) (T : List Tok) : Nat → List (Int × ByteArray) → Prop
  | _, [] => True
  | i, (k, w) :: l => (T.getD i default).kind = k ∧ s.extract (T.getD i default).fr.toNat (T.getD i default).to.toNat = w ∧ SeesL s T (i + 1) l
structure Sees (p : PS) (l : List (Int × ByteArray)) : Prop where
  at0 : 0 ≤ p.at_
  code : p.code = 0
  sees : SeesL p.text p.toks p.at_.toNat l
theorem Sees.kind {p : PS} {k : Int} {w : ByteArray} {l : List (Int × ByteArray)} (h : Sees p ((k, w) :: l)) : p.tok.kind = k := h.sees.1
theorem Sees.word {p : PS} {k : Int} {w : ByteArray} {l : List (Int × ByteArray)} (h : Sees p ((k, w) :: l)) : p.word = w := h.sees.2.1
/-- k tokens on, with more nodes -/
def mv (p : PS) (k : Nat) (xs : List Ex) (ys : List St) : PS := { p with at_ := p.at_ + k, exprs := p.exprs ++ xs, stmts := p.stmts ++ ys }
theorem mv_mv (p : PS) (k k' : Nat) (xs xs' : List Ex) (ys ys' : List St) : mv (mv p k xs ys) k' xs' ys' = mv p (k + k') (xs ++ xs') (ys ++ ys') := by
  unfold mv
  simp only [PS.mk.injEq, List.append_assoc, true_and, and_true]
  omega
theorem SeesL.drop {s : ByteArray} {T : List Tok} : ∀ (k i : Nat) (l : List (Int × ByteArray)), SeesL s T i l → SeesL s T (i + k) (l.drop k)
  | 0, i, l, h => h
  | k + 1, i, [], h => by simp [SeesL]
  | k + 1, i, (a, b) :: l, h => by
    have := SeesL.drop k (i + 1) l h.2.2
    rw [show i + 1 + k = i + (k + 1) by omega] at this
    exact this
theorem Sees.mv {p : PS} {l : List (Int × ByteArray)} (h : Sees p l) (k : Nat) (xs : List Ex) (ys : List St) : Sees (mv p k xs ys) (l.drop k) := by
  have h0 := h.at0
  refine ⟨by show 0 ≤ p.at_ + k; omega, h.code, ?_⟩
  have := h.sees.drop k
  rw [show p.at_.toNat + k = (p.at_ + k).toNat by omega] at this
  exact this
theorem skip_mv (p : PS) : p.skip = mv p 1 [] [] := by unfold PS.skip mv; simp
theorem Sees.is {p : PS} {k : Int} {w : ByteArray} {l : List (Int × ByteArray)} (h : Sees p ((k, w) :: l)) (hk : k ≠ 0) (x : ByteArray) : p.is x = (w.data.toList == x.data.toList) := by
  unfold PS.is
  rw [h.kind, h.word, h.code]
  have : (k != 0) = true := bne_iff_ne.2 hk
  rw [this]; rfl
theorem Sees.isT {p : PS} {k : Int} {w : ByteArray} {l : List (Int × ByteArray)} (h : Sees p ((k, w) :: l)) (hk : k ≠ 0) : p.is w = true := by
  rw [h.is hk]; exact beq_self_eq_true _
theorem Sees.isF {p : PS} {k : Int} {w : ByteArray} {l : List (Int × ByteArray)} (h : Sees p ((k, w) :: l)) (hk : k ≠ 0) {x : ByteArray} (hx : w.data.toList ≠ x.data.toList) : p.is x = false := by
  rw [h.is hk]; exact beq_eq_false_iff_ne.2 hx
theorem Sees.want {p : PS} {k : Int} {w : ByteArray} {l : List (Int × ByteArray)} (h : Sees p ((k, w) :: l)) (hk : k ≠ 0) : p.want w = Ytaadamobapnfbaa.mv p 1 [] [] := by
  rw [← skip_mv]; unfold PS.want; rw [if_pos (h.isT hk)]; rfl
theorem Sees.kindOf {p : PS} {k : Int} {w : ByteArray} {l : List (Int × ByteArray)} (h : Sees p ((k, w) :: l)) : p.kindOf k = (Ytaadamobapnfbaa.mv p 1 [] [], w) := by
  rw [← skip_mv]
  unfold PS.kindOf
  rw [if_neg (fun hx => hx.elim (fun h' => h' h.code) (fun h' => h' h.kind)), h.word]; rfl
theorem Sees.put {p : PS} {l : List (Int × ByteArray)} (h : Sees p l) (fr : Int) (x : Ex) : p.put fr x = (Ytaadamobapnfbaa.mv p 0 [{ x with fr := fr, to := p.lastTo }] [], (p.exprs.length : Int)) := by
  unfold PS.put; rw [if_neg (fun hx => hx h.code)]; unfold Ytaadamobapnfbaa.mv; simp
theorem Sees.add {p : PS} {l : List (Int × ByteArray)} (h : Sees p l) (hs : p.stmts.length < 1000) (fr : Int) (x : St) : p.add fr x = (Ytaadamobapnfbaa.mv p 0 [] [{ x with fr := fr, to := p.lastTo }], (p.stmts.length : Int)) := by
  have hm : p.many = p := by
    unfold PS.many; rw [if_neg (fun hx => by have := hx.2; omega)]
  unfold PS.add
  simp only [hm]
  rw [if_neg (fun hx => hx h.code)]; unfold Ytaadamobapnfbaa.mv; simp
theorem Sees.deep {p : PS} {d : Int} (hd : d ≤ 64) : p.deep d = p := by unfold PS.deep; rw [if_neg (by omega)]
theorem Sees.sign {p : PS} {l : List (Int × ByteArray)} (h : Sees p ((4, w_semi) :: l)) (v : Int) : (p.sign v).data.toList = [] := by
  have key : ∀ ws : List ByteArray, (∀ w ∈ ws, w_semi.data.toList ≠ w.data.toList) → (signIn p ws).data.toList = [] := by
    intro ws
    induction ws with
    | nil => intro _; rfl
    | cons w ws ih =>
      intro hw
      simp only [signIn]
      rw [h.isF (by decide) (hw w (by simp))]
      exact ih (fun x hx => hw x (by simp [hx]))
  unfold PS.sign
  refine key _ ?_
  unfold signs
  repeat' split
  all_goals (intro w hw; simp at hw; rcases hw with rfl | rfl | rfl | rfl | rfl | rfl) <;> decide
/-- an expression of one token -/
theorem rows_one {p q : PS} {v d : Int} {l : List (Int × ByteArray)} (hq : Sees q ((4, w_semi) :: l)) (hd : d ≤ 64) (m : Nat) (hp : unary (m + 2) p d = (q, v)) : exprP (m + 9) p d = (q, v) := by
  have r5 : row (m + 3) p 5 d = (q, v) := by rw [row, if_pos rfl]; exact hp
  have stp : ∀ (k : Nat) (lv : Int), lv ≠ 5 → row (k + 1) p (lv + 1) d = (q, v) → row (k + 2) p lv d = (q, v) := by
    intro k lv hl h
    rw [row, if_neg hl, h, rowLoop, if_pos (hq.sign lv)]
  have r4 := stp (m + 2) 4 (by decide) r5
  have r3 := stp (m + 3) 3 (by decide) r4
  have r2 := stp (m + 4) 2 (by decide) r3
  have r1 := stp (m + 5) 1 (by decide) r2
  have r0 := stp (m + 6) 0 (by decide) r1
  rw [exprP, Sees.deep hd]
  by_cases hc : p.code ≠ 0
  · exfalso
    have : (exprP (m + 9) p d) = (p, 0) := by rw [exprP, Sees.deep hd, if_pos hc]
    have h1 := (steps (m + 8)).row p 0 d
    rw [r0] at h1
    have := h1.live hq.code
    exact hc this
  · rw [if_neg hc]; exact r0
def plainName (y : ByteArray) : Prop := y.data.toList ≠ w_true.data.toList ∧ y.data.toList ≠ w_false.data.toList ∧ y.data.toList ≠ w_read.data.toList ∧ y.data.toList ≠ w_lp.data.toList ∧ y.data.toList ≠ w_minus.data.toList ∧ y.data.toList ≠ w_bang.data.toList
theorem expr_num {p : PS} {y : ByteArray} {d : Int} {l : List (Int × ByteArray)} (h : Sees p ((2, y) :: (4, w_semi) :: l)) (hy : plainName y) (hd : d ≤ 64) {n : Nat} (hn : 9 ≤ n) :
    ∃ f t, exprP n p d = (mv p 1 [{ kind := 1, num := number y, fr := f, to := t }] [], (p.exprs.length : Int)) := by
  obtain ⟨m, rfl⟩ : ∃ m, n = m + 9 := ⟨n - 9, by omega⟩
  refine ⟨p.here, (mv p 1 [] []).lastTo, rows_one (h.mv 1 _ _) hd m ?_⟩
  obtain ⟨h1, h2, h3, h4, h5, h6⟩ := hy
  have hb := h.mv 1 [] []
  rw [unary, if_neg (by
    rintro (hx | hx)
    · rw [h.isF (by decide) h5] at hx; cases hx
    · rw [h.isF (by decide) h6] at hx; cases hx)]
  rw [primary, if_neg (fun hx => hx h.code), if_pos h.kind, h.kindOf]
  dsimp only
  rw [hb.put, mv_mv]
  simp [mv]
/-- 'var x = y;' -/
theorem stmt_var {p : PS} {x y : ByteArray} {d : Int} {e : Ex} {n : Nat} (hs : p.stmts.length < 1000) {k : Int} {m : List (Int × ByteArray)}
    (h : Sees p ((3, w_var) :: (1, x) :: (4, w_eq) :: (k, y) :: (4, w_semi) :: m))
    (he : ∀ q : PS, Sees q ((k, y) :: (4, w_semi) :: m) → ∃ f t, exprP n q d = (mv q 1 [{ e with fr := f, to := t }] [], (q.exprs.length : Int))) :
    ∃ f t f' t', stmt (n + 1) p d = (mv p 5 [{ e with fr := f, to := t }] [{ kind := 1, name := x, a := p.exprs.length, fr := f', to := t' }], (p.stmts.length : Int)) := by
  have h1 := h.mv 1 [] []
  have h2 := h1.mv 1 [] []
  have h3 := h2.mv 1 [] []
  obtain ⟨f, t, e1⟩ := he _ h3
  have h4 := h3.mv 1 [{ e with fr := f, to := t }] []
  have h5 := h4.mv 1 [] []
  rw [stmt, h.isF (by decide) (by decide), h.isF (by decide) (by decide), if_neg (by decide), if_neg (by decide), if_pos (h.isT (by decide)), h.want (by decide), h1.kindOf]
  dsimp only
  rw [h2.isF (k := 4) (w := w_eq) (by decide) (by decide), if_neg (by decide), h2.want (k := 4) (w := w_eq) (by decide), e1]
  dsimp only
  rw [h4.want (k := 4) (w := w_semi) (by decide), h5.add (by simpa [mv] using hs)]
  refine ⟨f, t, p.here, (mv (mv (mv (mv (mv p 1 [] []) 1 [] []) 1 [] []) 1 [{ e with fr := f, to := t }] []) 1 [] []).lastTo, ?_⟩
  simp [mv_mv, mv]; omega
end Go.Proofs.Ytaadamobapnfbaa
set_option linter.unusedVariables false
set_option linter.unusedSimpArgs false
set_option maxRecDepth 100000
namespace Go.Proofs.Ytaadamobapnfbaa
open Go Go.Abs
/-- no sign of a comment -/
def noHash (s : ByteArray) : Prop := ∀ x ∈ s.data.toList, x ≠ 35
theorem skip_sp {r : List UInt8} : ∀ (l : List UInt8), (∀ x ∈ l, x ≠ 35) → skipL false l = l.length → skipL false (l ++ 32 :: r) = l.length + skipL false (32 :: r)
  | [], _, h => by simp
  | x :: l, hn, h => by
    simp only [List.cons_append, List.length_cons] at h ⊢
    rw [skipL] at h
    rw [skipL]
    split at h
    · rename_i hx; rw [if_pos hx]; have := skip_sp (r := r) l (fun y hy => hn y (by simp [hy])) (by omega); omega
    · rename_i hx
      split at h
      · rename_i hy
        exfalso
        refine hn x (by simp) ?_
        apply UInt8.toNat_inj.1
        have h35 : (35 : UInt8).toNat = 35 := rfl
        omega
      · omega
theorem tokens_sp {s r : ByteArray} {m : List UInt8} (hn : noHash s) (hr : r.data.toList = 32 :: m) (hsz : s.size + r.size ≤ 20000) (hs : (tokens s).2.2 = 0) (hr0 : (tokens r).2.2 = 0) :
    ∃ (T0 : List Tok) (e : Tok), (tokens s).1 = T0 ++ [e] ∧ e.kind = 0 ∧ (∀ t ∈ T0, t.kind ≠ 0) ∧ tokens (s ++ r) = (T0 ++ (tokens r).1.map (shiftT s.size), 0, 0) := by
  have hsz' := app_size s r
  unfold tokens at hs hr0 ⊢
  rw [if_neg (show ¬ 20000 < s.size by omega)] at hs ⊢
  rw [if_neg (show ¬ 20000 < r.size by omega)] at hr0 ⊢
  rw [if_neg (show ¬ 20000 < (s ++ r).size by omega)]
  obtain ⟨T0, e, p, n1, q1, q2, q3, q4, q5, q6, q7⟩ := allToks_app hr (.inr rfl) (s.size + 1) 0 [] _ (Nat.zero_le _) hs rfl
  refine ⟨T0, e, by rw [q1]; simp, q2, q6, ?_⟩
  have h1 := q7 r.size
  rw [hsz', show s.size + r.size + 1 = s.size + 1 + r.size by omega, h1]
  have hp : nextTok (s ++ r) p = nextTok (s ++ r) (s.size + 0) := by
    unfold nextTok
    have e1 : behind (s ++ r) p = s.size + skipL false (32 :: m) := by
      unfold behind at q5 ⊢
      rw [drop_app_l q3, hr, skip_sp _ (fun x hx => hn x (List.mem_of_mem_drop hx)) (by rw [List.length_drop, size_toList]; omega), List.length_drop, size_toList]
      omega
    have e2 : behind (s ++ r) (s.size + 0) = s.size + skipL false (32 :: m) := by
      unfold behind
      rw [drop_app_r, hr]; simp
    rw [e1, e2]
  have hstep : ∀ (k : Nat) (o : List Tok), allToks (k + 1) (s ++ r) p o = allToks (k + 1) (s ++ r) (s.size + 0) o := by
    intro k o
    unfold allToks
    rw [hp]
  rw [show n1 + 1 + r.size = (n1 + r.size) + 1 by omega, hstep]
  rw [allToks_shift s r (r.size + 1) 0 _ _ hr0 rfl (Nat.zero_le _) (n1 + r.size + 1) (by omega)]
  simp
def wordsOf (s : ByteArray) (T : List Tok) : List (Int × ByteArray) := T.map fun t => (t.kind, s.extract t.fr.toNat t.to.toNat)
theorem SeesL_words (s : ByteArray) (T : List Tok) : ∀ (n i : Nat), n + i = T.length → SeesL s T i ((wordsOf s T).drop i)
  | 0, i, h => by
    rw [List.drop_eq_nil_of_le (by unfold wordsOf; rw [List.length_map]; omega)]; trivial
  | n + 1, i, h => by
    have hi : i < (wordsOf s T).length := by unfold wordsOf; rw [List.length_map]; omega
    rw [List.drop_eq_getElem_cons hi]
    have hT : T.getD i default = T[i]'(by omega) := by rw [List.getD_eq_getElem?_getD, List.getElem?_eq_getElem (by omega)]; rfl
    refine ⟨?_, ?_, SeesL_words s T n (i + 1) (by omega)⟩
    · rw [hT]; simp [wordsOf]
    · rw [hT]; simp [wordsOf]
structure Lex (s : ByteArray) (W : List (Int × ByteArray)) : Prop where
  no : noHash s
  ok : (tokens s).2.2 = 0
  wd : wordsOf s (tokens s).1 = W ++ [(0, ⟨#[]⟩)]
theorem Lex.app {s r : ByteArray} {W V : List (Int × ByteArray)} {m : List UInt8} (h : Lex s W) (h' : Lex r V) (hr : r.data.toList = 32 :: m) (hsz : s.size + r.size ≤ 20000) : Lex (s ++ r) (W ++ V) := by
  obtain ⟨T0, e, q1, q2, q3, q4⟩ := tokens_sp h.no hr hsz h.ok h'.ok
  have hc := (tokens_chain h.ok).mem
  have hc' := (tokens_chain h'.ok).mem
  refine ⟨fun x hx => ?_, by rw [q4], ?_⟩
  · rw [app_toList] at hx
    rcases List.mem_append.1 hx with hx | hx
    · exact h.no x hx
    · exact h'.no x hx
  · rw [q4]
    have hW : wordsOf s T0 = W := by
      have := h.wd
      rw [q1] at this
      unfold wordsOf at this ⊢
      rw [List.map_append] at this
      exact (List.append_inj' this rfl).1
    have e1 : wordsOf (s ++ r) T0 = wordsOf s T0 := by
      unfold wordsOf
      refine List.map_congr_left fun t ht => ?_
      have hb := hc t (by rw [q1]; simp [ht])
      have := extract_app_l (s := s) (r := r) (i := t.fr.toNat) (j := t.to.toNat) (by omega)
      rw [bytes_ext this]
    have e2 : wordsOf (s ++ r) ((tokens r).1.map (shiftT s.size)) = wordsOf r (tokens r).1 := by
      unfold wordsOf
      rw [List.map_map]
      refine List.map_congr_left fun t ht => ?_
      have hb := hc' t ht
      have := extract_app_r s r t.fr.toNat t.to.toNat
      rw [show s.size + t.fr.toNat = (shiftT s.size t).fr.toNat by show _ = (t.fr + (s.size : Int)).toNat; omega,
        show s.size + t.to.toNat = (shiftT s.size t).to.toNat by show _ = (t.to + (s.size : Int)).toNat; omega] at this
      show ((shiftT s.size t).kind, _) = _
      rw [bytes_ext this]; rfl
    show wordsOf (s ++ r) (T0 ++ _) = _
    rw [show wordsOf (s ++ r) (T0 ++ (tokens r).1.map (shiftT s.size)) = wordsOf (s ++ r) T0 ++ wordsOf (s ++ r) ((tokens r).1.map (shiftT s.size)) by unfold wordsOf; rw [List.map_append], e1, e2, hW, h'.wd, List.append_assoc]
theorem Lex.sees {s : ByteArray} {W : List (Int × ByteArray)} (h : Lex s W) : Sees (startP s) (W ++ [(0, ⟨#[]⟩)]) := by
  refine ⟨Int.le_refl _, rfl, ?_⟩
  have := SeesL_words s (tokens s).1 (tokens s).1.length 0 (by omega)
  rw [List.drop_zero, h.wd] at this
  exact this
/-- the same, to be reckoned -/
def lexB (s : ByteArray) (W : List (Int × List UInt8)) : Bool :=
  s.data.toList.all (fun x => x != 35) && ((tokens s).2.2 == 0) && ((tokens s).1.map (fun t => (t.kind, (s.data.toList.take t.to.toNat).drop t.fr.toNat)) == W ++ [(0, [])])
theorem Lex.of {s : ByteArray} {W : List (Int × ByteArray)} (h : lexB s (W.map fun x => (x.1, x.2.data.toList)) = true) : Lex s W := by
  unfold lexB at h
  rw [Bool.and_eq_true, Bool.and_eq_true] at h
  obtain ⟨⟨h1, h2⟩, h3⟩ := h
  refine ⟨fun x hx => ?_, by simpa using h2, ?_⟩
  · have := List.all_eq_true.1 h1 x hx
    simpa using this
  · have h3 := eq_of_beq h3
    have hinj : Function.Injective (fun x : Int × ByteArray => (x.1, x.2.data.toList)) := by
      rintro ⟨a, b⟩ ⟨c, d⟩ hab
      have h1 := (Prod.mk.inj hab).1
      have h2 := (Prod.mk.inj hab).2
      dsimp only at h1 h2
      rw [h1, bytes_ext h2]
    refine List.map_inj_right (fun x y => @hinj x y) |>.1 ?_
    unfold wordsOf
    rw [List.map_map, List.map_append]
    refine Eq.trans ?_ (h3.trans ?_)
    · refine List.map_congr_left fun t ht => ?_
      show (t.kind, (s.extract t.fr.toNat t.to.toNat).data.toList) = _
      rw [extract_toList]
    · rfl
end Go.Proofs.Ytaadamobapnfbaa
set_option linter.unusedVariables false
set_option linter.unusedSimpArgs false
set_option maxRecDepth 100000
namespace Go.Proofs.Ytaadamobapnfbaa
open Go Go.Abs
theorem mv_zero (p : PS) : mv p 0 [] [] = p := by simp [mv]
theorem drop_app1 {α : Type} (l m : List α) : (l ++ m).drop l.length = m := List.drop_left ..
def restW (ns : List ByteArray) : List (Int × ByteArray) := ns.flatMap fun x => [(4, w_comma), (1, x)]
theorem params_rest {l : List (Int × ByteArray)} : ∀ (ns acc : List ByteArray) (n : Nat) (p : PS), acc ≠ [] → ns.length < n → Sees p (restW ns ++ (4, w_rp) :: l) → params n p acc = (mv p (2 * ns.length) [] [], acc ++ ns)
  | [], acc, n, p, ha, hn, h => by
    obtain ⟨n, rfl⟩ : ∃ k, n = k + 1 := ⟨n - 1, by omega⟩
    have h : Sees p ((4, w_rp) :: l) := h
    rw [params, if_neg (fun hx => by have := hx.2; rw [h.isT (by decide)] at this; cases this)]
    simp [mv_zero]
  | x :: ns, acc, n, p, ha, hn, h => by
    obtain ⟨n, rfl⟩ : ∃ k, n = k + 1 := ⟨n - 1, by omega⟩
    rw [List.length_cons] at hn
    have h : Sees p ((4, w_comma) :: (1, x) :: (restW ns ++ (4, w_rp) :: l)) := h
    have h1 := h.mv 1 [] []
    have h2 := h1.mv 1 [] []
    rw [params, if_pos ⟨h.code, h.isF (by decide) (by decide)⟩, if_neg ha, h.want (by decide), h1.kindOf (k := 1) (w := x)]
    dsimp only
    rw [params_rest ns (acc ++ [x]) n _ (by simp) (by omega) h2]
    simp only [mv_mv, List.append_nil, List.length_cons, List.append_assoc, List.singleton_append]
    rw [show 1 + 1 + 2 * ns.length = 2 * (ns.length + 1) by omega]
def parWords : List ByteArray → List (Int × ByteArray)
  | [] => []
  | x :: ns => (1, x) :: restW ns
theorem restW_len (ns : List ByteArray) : (restW ns).length = 2 * ns.length := by
  induction ns with
  | nil => rfl
  | cons x ns ih => show (restW ns).length + 1 + 1 = _; rw [ih, List.length_cons]; omega
theorem params_all {l : List (Int × ByteArray)} {ns : List ByteArray} {n : Nat} {p : PS} (hn : ns.length < n) (hx : ∀ x ∈ ns, x.data.toList ≠ w_rp.data.toList) (h : Sees p (parWords ns ++ (4, w_rp) :: l)) : params n p [] = (mv p (parWords ns).length [] [], ns) := by
  obtain ⟨n, rfl⟩ : ∃ k, n = k + 1 := ⟨n - 1, by omega⟩
  cases ns with
  | nil =>
    have h : Sees p ((4, w_rp) :: l) := h
    rw [params, if_neg (fun hx => by have := hx.2; rw [h.isT (by decide)] at this; cases this)]
    simp [parWords, mv_zero]
  | cons x ns =>
    rw [List.length_cons] at hn
    have h : Sees p ((1, x) :: (restW ns ++ (4, w_rp) :: l)) := h
    have h1 := h.mv 1 [] []
    rw [params, if_pos ⟨h.code, h.isF (by decide) (hx x (by simp))⟩, if_pos rfl, h.kindOf]
    dsimp only
    rw [params_rest ns ([] ++ [x]) n _ (by simp) (by omega) h1]
    simp only [mv_mv, List.append_nil, List.nil_append, List.singleton_append, parWords, List.length_cons, restW_len]
    rw [show 1 + 2 * ns.length = 2 * ns.length + 1 by omega]
abbrev w_1 : ByteArray := ⟨#[49]⟩
def varW (x : ByteArray) : List (Int × ByteArray) := [(3, w_var), (1, x), (4, w_eq), (2, w_1), (4, w_semi)]
/-- declarations, as they come out of the parser -/
inductive Vars : Nat → List ByteArray → List Ex → List St → Prop
  | nil (e : Nat) : Vars e [] [] []
  | cons {e : Nat} {x : ByteArray} {xs : List ByteArray} {y : Ex} {ys : List Ex} {s : St} {ss : List St} (h1 : y.kind = 1) (h2 : s.kind = 1) (h3 : s.name = x) (h4 : s.a = e) (h : Vars (e + 1) xs ys ss) : Vars e (x :: xs) (y :: ys) (s :: ss)
theorem Vars.len {e : Nat} {xs : List ByteArray} {ys : List Ex} {ss : List St} (h : Vars e xs ys ss) : ys.length = xs.length ∧ ss.length = xs.length := by
  induction h with
  | nil => exact ⟨rfl, rfl⟩
  | cons _ _ _ _ _ ih => simp only [List.length_cons]; omega
def idx : Nat → Nat → List Int
  | _, 0 => []
  | b, n + 1 => (b : Int) :: idx (b + 1) n
theorem block_vars {l : List (Int × ByteArray)} {d : Int} (hd : d ≤ 64) : ∀ (xs : List ByteArray) (acc : List Int) (n : Nat) (p : PS), xs.length + 11 ≤ n → p.stmts.length + xs.length ≤ 1000 → Sees p (xs.flatMap varW ++ (4, w_rc) :: l) →
    ∃ es ss, Vars p.exprs.length xs es ss ∧ blockLoop n p acc d = (mv p (5 * xs.length) es ss, acc ++ idx p.stmts.length xs.length)
  | [], acc, n, p, hn, hs, h => by
    obtain ⟨n, rfl⟩ : ∃ k, n = k + 1 := ⟨n - 1, by omega⟩
    have h : Sees p ((4, w_rc) :: l) := h
    refine ⟨[], [], .nil _, ?_⟩
    rw [blockLoop, if_neg (fun hx => by have := hx.2; rw [h.isT (by decide)] at this; cases this)]
    simp [mv_zero, idx]
  | x :: xs, acc, n, p, hn, hs, h => by
    rw [List.length_cons] at hn hs
    obtain ⟨n, rfl⟩ : ∃ k, n = k + 1 + 1 := ⟨n - 2, by omega⟩
    have h : Sees p ((3, w_var) :: (1, x) :: (4, w_eq) :: (2, w_1) :: (4, w_semi) :: (xs.flatMap varW ++ (4, w_rc) :: l)) := h
    obtain ⟨f, t, f', t', e1⟩ := stmt_var (n := n) (d := d) (e := { kind := 1, num := number w_1 }) (k := 2) (by omega) h (fun q hq => expr_num hq (by unfold plainName; decide) hd (by omega))
    have h5 := h.mv 5 [{ kind := 1, num := number w_1, fr := f, to := t }] [{ kind := 1, name := x, a := p.exprs.length, fr := f', to := t' }]
    have l1 : (mv p 5 [{ kind := 1, num := number w_1, fr := f, to := t }] [{ kind := 1, name := x, a := p.exprs.length, fr := f', to := t' }]).exprs.length = p.exprs.length + 1 := by simp [mv]
    have l2 : (mv p 5 [{ kind := 1, num := number w_1, fr := f, to := t }] [{ kind := 1, name := x, a := p.exprs.length, fr := f', to := t' }]).stmts.length = p.stmts.length + 1 := by simp [mv]
    obtain ⟨es, ss, hv, hb⟩ := block_vars hd xs (acc ++ [(p.stmts.length : Int)]) (n + 1) _ (by omega) (by rw [l2]; omega) h5
    rw [l1] at hv
    rw [l2] at hb
    refine ⟨_ :: es, _ :: ss, .cons (y := { kind := 1, num := number w_1, fr := f, to := t }) (s := { kind := 1, name := x, a := p.exprs.length, fr := f', to := t' }) rfl rfl rfl rfl hv, ?_⟩
    rw [blockLoop, if_pos ⟨h.code, h.isF (by decide) (by decide)⟩, e1]
    dsimp only
    rw [hb]
    simp only [mv_mv, List.length_cons, idx, List.append_assoc, List.singleton_append]
    rw [show 5 + 5 * xs.length = 5 * (xs.length + 1) by omega]
/-- a function without a result -/
def fnW (nm : ByteArray) (ns xs : List ByteArray) : List (Int × ByteArray) := [(3, w_func), (1, nm), (4, w_lp)] ++ (parWords ns ++ ((4, w_rp) :: (4, w_lc) :: (xs.flatMap varW ++ [(4, w_rc)])))
theorem varsW_len (xs : List ByteArray) : (xs.flatMap varW).length = 5 * xs.length := by
  induction xs with
  | nil => rfl
  | cons x xs ih => show (xs.flatMap varW).length + 1 + 1 + 1 + 1 + 1 = _; rw [ih, List.length_cons]; omega
theorem fn_vars {p : PS} {nm : ByteArray} {ns xs : List ByteArray} {l : List (Int × ByteArray)} (h : Sees p (fnW nm ns xs ++ l)) (hx : ∀ x ∈ ns, x.data.toList ≠ w_rp.data.toList) (hs : p.stmts.length + xs.length ≤ 1000) (hf : p.funcs.length < 32) {n : Nat} (hn : xs.length + ns.length + 13 ≤ n) :
    ∃ es ss f t, Vars p.exprs.length xs es ss ∧ function n p = { mv p (fnW nm ns xs).length es ss with funcs := p.funcs ++ [{ name := nm, fr := f, to := t, params := ns, type := 4, body := idx p.stmts.length xs.length }] } := by
  obtain ⟨n, rfl⟩ : ∃ k, n = k + 1 := ⟨n - 1, by omega⟩
  have h : Sees p ((3, w_func) :: (1, nm) :: (4, w_lp) :: (parWords ns ++ (4, w_rp) :: (4, w_lc) :: (xs.flatMap varW ++ (4, w_rc) :: l))) := by
    unfold fnW at h
    simpa only [List.append_assoc, List.cons_append, List.nil_append, List.singleton_append] using h
  have h1 := h.mv 1 [] []
  have h2 := h1.mv 1 [] []
  have h3 := h2.mv 1 [] []
  have h3' : Sees (mv (mv (mv p 1 [] []) 1 [] []) 1 [] []) (parWords ns ++ (4, w_rp) :: (4, w_lc) :: (xs.flatMap varW ++ (4, w_rc) :: l)) := h3
  have h4 := h3'.mv (parWords ns).length [] []
  rw [drop_app1] at h4
  have h5 := h4.mv 1 [] []
  have h6 := h5.mv 1 [] []
  have q6 : mv (mv (mv (mv (mv (mv p 1 [] []) 1 [] []) 1 [] []) (parWords ns).length [] []) 1 [] []) 1 [] [] = mv p ((parWords ns).length + 5) [] [] := by
    simp only [mv_mv, List.append_nil]
    rw [show 1 + 1 + 1 + (parWords ns).length + 1 + 1 = (parWords ns).length + 5 by omega]
  rw [q6] at h6
  have x6 : (mv p ((parWords ns).length + 5) [] []).exprs.length = p.exprs.length := by simp [mv]
  have y6 : (mv p ((parWords ns).length + 5) [] []).stmts.length = p.stmts.length := by simp [mv]
  have h6' : Sees (mv p ((parWords ns).length + 5) [] []) (xs.flatMap varW ++ (4, w_rc) :: l) := h6
  obtain ⟨es, ss, hv, hb⟩ := block_vars (d := 1) (by decide) xs [] n _ (by omega) (by rw [y6]; exact hs) h6'
  rw [x6] at hv
  rw [y6, mv_mv, List.nil_append, List.nil_append, List.nil_append] at hb
  have h7 := h6'.mv (5 * xs.length) es ss
  rw [show 5 * xs.length = (xs.flatMap varW).length from (varsW_len xs).symm, drop_app1, mv_mv, List.nil_append, List.nil_append, varsW_len] at h7
  have hfu : p.full = p := by
    unfold PS.full; rw [if_neg (fun hx => by have := hx.2; omega)]
  have hpa : params (n + 1) ((((p.full.want w_func).kindOf 1).1.want w_lp)) [] = (mv (mv (mv (mv p 1 [] []) 1 [] []) 1 [] []) (parWords ns).length [] [], ns) := by
    rw [hfu, h.want (by decide), h1.kindOf (k := 1) (w := nm)]
    dsimp only
    rw [h2.want (k := 4) (by decide)]
    exact params_all (by omega) hx h3'
  have hlen : (fnW nm ns xs).length = (parWords ns).length + 5 + 5 * xs.length + 1 := by
    unfold fnW
    simp only [List.length_append, List.length_cons, List.length_nil, varsW_len]; omega
  have hend : funcEnd (n + 1) p = (mv p (fnW nm ns xs).length es ss, idx p.stmts.length xs.length) := by
    unfold Ytaadamobapnfbaa.funcEnd
    rw [hpa]
    dsimp only
    rw [h4.want (k := 4) (by decide), h5.isF (k := 4) (by decide) (by decide), if_neg (by decide), block, if_pos (h5.isT (k := 4) (by decide)), Sees.deep (by decide), h5.want (k := 4) (by decide), q6, hb]
    dsimp only
    rw [h7.want (k := 4) (by decide), mv_mv, List.append_nil, List.append_nil, hlen]
  have ho : funcOf (n + 1) p = { name := nm, fr := p.here, to := (funcEnd (n + 1) p).1.lastTo, params := ns, type := 4, body := idx p.stmts.length xs.length } := by
    unfold funcOf
    rw [hpa]
    dsimp only
    rw [h4.want (k := 4) (by decide), h5.isF (k := 4) (by decide) (by decide), if_neg (by decide), hfu, h.want (by decide), h1.kindOf (k := 1) (w := nm), hend]
  refine ⟨es, ss, p.here, (funcEnd (n + 1) p).1.lastTo, hv, ?_⟩
  rw [function_eq, ho, if_neg (by rw [hend]; exact fun hx => hx h.code), hend]
  rfl
end Go.Proofs.Ytaadamobapnfbaa
set_option linter.unusedVariables false
set_option linter.unusedSimpArgs false
set_option maxRecDepth 100000
namespace Go.Proofs.Ytaadamobapnfbaa
open Go Go.Abs
structure Ext (t u : Tree) : Prop where
  ex : ∃ es, u.exprs = t.exprs ++ es
  st : ∃ ss, u.stmts = t.stmts ++ ss
  fu : ∃ g, u.funcs = t.funcs ++ [g]
section
variable {t u : Tree} {a b : Nat}
end
end Go.Proofs.Ytaadamobapnfbaa
set_option linter.unusedVariables false
set_option linter.unusedSimpArgs false
set_option maxRecDepth 100000
namespace Go.Proofs.Ytaadamobapnfbaa
open Go Go.Abs
section
variable {t u : Tree} {a b : Nat}
theorem Ext.le (h : Ext t u) : t.exprs.length ≤ u.exprs.length ∧ t.stmts.length ≤ u.stmts.length := by
  obtain ⟨es, e1⟩ := h.ex
  obtain ⟨ss, e2⟩ := h.st
  rw [e1, e2]; simp
end
end Go.Proofs.Ytaadamobapnfbaa
set_option linter.unusedVariables false
set_option linter.unusedSimpArgs false
set_option maxRecDepth 100000
namespace Go.Proofs.Ytaadamobapnfbaa
open Go Go.Abs
/-- in function n: its slots, its names -/
def fst (d : CS) (n : Nat) (ty sl pu fn : List Int) (ss : List Int) (nm : List Nm) : CS := { d with f := n, names := nm, block := 0, type := ty, slot := sl, put := pu, func := fn, slots := d.slots.set n ss }
section
variable {d : CS} {n : Nat} {ty sl pu fn ss : List Int} {nm : List Nm}
theorem fst_cur (hn : n < d.slots.length) : (fst d n ty sl pu fn ss nm).cur = ss := by
  unfold CS.cur fst
  simp [List.getD_eq_getElem?_getD, hn]
theorem fst_enter (hs : d.slots[n]? = some []) : d.enter n = fst d n d.type d.slot d.put d.func [] [] := by
  obtain ⟨h1, h2⟩ := List.getElem?_eq_some_iff.1 hs
  unfold CS.enter fst
  rw [show d.slots.set n [] = d.slots by rw [← h2]; exact List.set_getElem_self h1]
theorem need_true (c : CS) (p k : Int) : c.need true p k = c := by
  unfold CS.need; rw [if_neg (fun h => by cases h.2)]
theorem fst_decl (hn : n < d.slots.length) (h0 : d.code = 0) (hl : ss.length < 64) {s : ByteArray} (ht : (nm.any fun x => (x.text.data.toList == s.data.toList) && (x.block == 0)) = false) (k p : Int) :
    (fst d n ty sl pu fn ss nm).decl s k p = (fst d n ty sl pu fn (ss ++ [k]) (nm ++ [⟨s, 0, ss.length⟩]), (ss.length : Int)) := by
  unfold CS.decl
  rw [show (fst d n ty sl pu fn ss nm).twice s = false from ht, fst_cur hn, show decide ((ss.length : Int) < 64) = true from decide_eq_true (by omega), show (!false) = true from rfl, need_true, need_true, if_neg (fun hx => hx h0)]
  unfold fst
  simp
theorem fst_full (hn : n < d.slots.length) (h0 : d.code = 0) (hl : ss.length = 64) {s : ByteArray} (ht : (nm.any fun x => (x.text.data.toList == s.data.toList) && (x.block == 0)) = false) (k p : Int) :
    ((fst d n ty sl pu fn ss nm).decl s k p).1 = { fst d n ty sl pu fn ss nm with code := 5, at_ := p } := by
  have hc : (fst d n ty sl pu fn ss nm).code = 0 := h0
  have hne : (fst d n ty sl pu fn ss nm).need false p 5 = { fst d n ty sl pu fn ss nm with code := 5, at_ := p } := by
    unfold CS.need; rw [if_pos ⟨hc, rfl⟩]
  unfold CS.decl
  rw [show (fst d n ty sl pu fn ss nm).twice s = false from ht, fst_cur hn, show decide ((ss.length : Int) < 64) = false from decide_eq_false (by omega), show (!false) = true from rfl, need_true, hne, if_pos (show (5 : Int) ≠ 0 by decide)]
theorem fst_num (hn : n < d.slots.length) (h0 : d.code = 0) {i : Nat} {e : Ex} (he : d.t.exprs.getD i default = e) (hk : e.kind = 1) (m : Nat) :
    valOf (expr6 (m + 1) (fst d n ty sl pu fn ss nm) i) i = (fst d n (ty.set i 1) sl pu fn ss nm, 1) := by
  have hc : (fst d n ty sl pu fn ss nm).code = 0 := h0
  have hx : (fst d n ty sl pu fn ss nm).ex i = e := by show d.t.exprs.getD (i : Int).toNat default = e; rw [Int.toNat_natCast]; exact he
  rw [expr6, if_neg (fun hx => hx hc), hx]
  unfold kindCase
  rw [if_pos (.inl hk)]
  unfold typed
  rw [if_pos hc]
  unfold valOf
  dsimp only
  rw [show ((1 : Int) != 4) = true from rfl, need_true]
  rfl
/-- 'var s = e;' -/
theorem fst_var (hn : n < d.slots.length) (h0 : d.code = 0) {i : Nat} {s : St} (hs : d.t.stmts.getD i default = s) (hk : s.kind = 1) {ty' sl' : List Int} {j : Nat} (ha : s.a = j)
    (he : ∀ fn, valOf (expr6 d.t.exprs.length (fst d n ty sl pu fn ss nm) j) j = (fst d n ty' sl' pu fn ss nm, 1))
    (hl : ss.length < 64) (ht : (nm.any fun x => (x.text.data.toList == s.name.data.toList) && (x.block == 0)) = false) (m : Nat) :
    stm6 (m + 1) (fst d n ty sl pu fn ss nm) i = fst d n ty' sl' (pu.set i ss.length) (fn.set i n) (ss ++ [1]) (nm ++ [⟨s.name, 0, ss.length⟩]) := by
  have hc : (fst d n ty sl pu fn ss nm).code = 0 := h0
  have hx : (fst d n ty sl pu fn ss nm).stm i = s := by show d.t.stmts.getD (i : Int).toNat default = s; rw [Int.toNat_natCast]; exact hs
  rw [stm6, if_neg (fun hx => hx hc), hx]
  have hsf : (fst d n ty sl pu fn ss nm).setFunc i (fst d n ty sl pu fn ss nm).f = fst d n ty sl pu (fn.set i n) ss nm := by
    unfold CS.setFunc fst; simp
  rw [hsf]
  unfold stmtCase
  rw [if_pos hk]
  have hv : vals (fst d n ty sl pu (fn.set i n) ss nm) s.a = (fst d n ty' sl' pu (fn.set i n) ss nm, 1) := by
    unfold vals; rw [ha]; exact he _
  rw [hv]
  dsimp only
  rw [if_neg (show ¬ (fst d n ty' sl' pu (fn.set i n) ss nm).code ≠ 0 from fun hx => hx h0), fst_decl hn h0 hl ht]
  unfold putted
  rw [if_pos (show (fst d n ty' sl' pu (fn.set i n) (ss ++ [1]) (nm ++ [⟨s.name, 0, ss.length⟩])).code = 0 from h0)]
  unfold CS.setPut fst
  simp
theorem fst_varFull (hn : n < d.slots.length) (h0 : d.code = 0) {i : Nat} {s : St} (hs : d.t.stmts.getD i default = s) (hk : s.kind = 1) {ty' sl' : List Int} {j : Nat} (ha : s.a = j)
    (he : ∀ fn, valOf (expr6 d.t.exprs.length (fst d n ty sl pu fn ss nm) j) j = (fst d n ty' sl' pu fn ss nm, 1))
    (hl : ss.length = 64) (ht : (nm.any fun x => (x.text.data.toList == s.name.data.toList) && (x.block == 0)) = false) (m : Nat) :
    (stm6 (m + 1) (fst d n ty sl pu fn ss nm) i).code = 5 := by
  have hc : (fst d n ty sl pu fn ss nm).code = 0 := h0
  have hx : (fst d n ty sl pu fn ss nm).stm i = s := by show d.t.stmts.getD (i : Int).toNat default = s; rw [Int.toNat_natCast]; exact hs
  rw [stm6, if_neg (fun hx => hx hc), hx]
  have hsf : (fst d n ty sl pu fn ss nm).setFunc i (fst d n ty sl pu fn ss nm).f = fst d n ty sl pu (fn.set i n) ss nm := by
    unfold CS.setFunc fst; simp
  rw [hsf]
  unfold stmtCase
  rw [if_pos hk]
  have hv : vals (fst d n ty sl pu (fn.set i n) ss nm) s.a = (fst d n ty' sl' pu (fn.set i n) ss nm, 1) := by
    unfold vals; rw [ha]; exact he _
  rw [hv]
  dsimp only
  rw [if_neg (show ¬ (fst d n ty' sl' pu (fn.set i n) ss nm).code ≠ 0 from fun hx => hx h0)]
  have hf := fst_full (ty := ty') (sl := sl') (pu := pu) (fn := fn.set i n) (nm := nm) hn h0 hl ht 1 s.fr
  unfold putted
  rw [if_neg (by rw [hf]; exact (show ¬ (5 : Int) = 0 by decide)), hf]
end
end Go.Proofs.Ytaadamobapnfbaa
set_option linter.unusedVariables false
set_option linter.unusedSimpArgs false
set_option maxRecDepth 100000
namespace Go.Proofs.Ytaadamobapnfbaa
open Go Go.Abs
theorem dupOf_none (g : Fu) : ∀ (l : List Fu) (c : CS), (∀ f ∈ l, f.name.data.toList ≠ g.name.data.toList) → dupOf g l c = c
  | [], c, _ => rfl
  | f :: l, c, h => by
    simp only [dupOf]
    have h1 : (f.name.data.toList == g.name.data.toList) = false := beq_eq_false_iff_ne.2 (h f (by simp))
    rw [h1, show (!false) = true from rfl, need_true]
    exact dupOf_none g l c (fun x hx => h x (by simp [hx]))
end Go.Proofs.Ytaadamobapnfbaa
set_option linter.unusedVariables false
set_option linter.unusedSimpArgs false
set_option maxRecDepth 100000
namespace Go.Proofs.Ytaadamobapnfbaa
open Go Go.Abs
abbrev w_main : ByteArray := ⟨#[109, 97, 105, 110]⟩
abbrev w_f : ByteArray := ⟨#[102]⟩
theorem many_parse {s : ByteArray} {ns xs : List ByteArray} (h : Lex s (fnW w_main [] [] ++ fnW w_f ns xs)) (hx : ∀ x ∈ ns, x.data.toList ≠ w_rp.data.toList) (h1 : xs.length ≤ 1000) (h2 : ns.length ≤ 10) :
    ∃ es ss f1 t1 f2 t2, Vars 0 xs es ss ∧ parse s = ({ exprs := es, stmts := ss, funcs := [{ name := w_main, fr := f1, to := t1, params := [], type := 4, body := [] }, { name := w_f, fr := f2, to := t2, params := ns, type := 4, body := idx 0 xs.length }] }, 0, 0) := by
  have hlen : (tokens s).1.length = 6 + (fnW w_f ns xs).length + 1 := by
    have := congrArg List.length h.wd
    unfold wordsOf at this
    rw [List.length_map, List.length_append, List.length_append] at this
    exact this
  have hfw : 5 * xs.length ≤ (fnW w_f ns xs).length := by
    unfold fnW
    simp only [List.length_append, List.length_cons, List.length_nil, varsW_len]; omega
  have hS : Sees (startP s) (fnW w_main [] [] ++ (fnW w_f ns xs ++ [(0, ⟨#[]⟩)])) := by
    have := h.sees
    rwa [List.append_assoc] at this
  have hfu : xs.length + ns.length + 13 ≤ fuelP s := by unfold fuelP; omega
  obtain ⟨es0, ss0, f1, t1, v0, e0⟩ := fn_vars (n := fuelP s) hS (by simp) (by show 0 + 0 ≤ 1000; omega) (by show 0 < 32; omega) (by simp only [List.length_nil]; omega)
  cases v0
  have l0 : (startP s).exprs.length = 0 := rfl
  have l1 : (startP s).stmts.length = 0 := rfl
  have l2 : (startP s).funcs = [] := rfl
  have hq0 := hS.mv (fnW w_main [] []).length [] []
  rw [drop_app1] at hq0
  have hq : Sees (function (fuelP s) (startP s)) (fnW w_f ns xs ++ [(0, ⟨#[]⟩)]) := by
    rw [e0]; exact ⟨hq0.at0, hq0.code, hq0.sees⟩
  have hqe : (function (fuelP s) (startP s)).exprs = [] := by rw [e0]; rfl
  have hqs : (function (fuelP s) (startP s)).stmts = [] := by rw [e0]; rfl
  have hqf : (function (fuelP s) (startP s)).funcs = [{ name := w_main, fr := f1, to := t1, params := [], type := 4, body := [] }] := by rw [e0]; rfl
  have hqk : (function (fuelP s) (startP s)).tok.kind = 3 := hq.kind (k := 3)
  obtain ⟨es, ss, f2, t2, hv, e1⟩ := fn_vars (n := fuelP s) hq hx (by rw [hqs]; simpa using h1) (by rw [hqf]; simp) hfu
  rw [hqe] at hv
  have hr0 := hq.mv (fnW w_f ns xs).length es ss
  rw [drop_app1] at hr0
  have hrk : (function (fuelP s) (function (fuelP s) (startP s))).tok.kind = 0 := by rw [e1]; exact hr0.kind (k := 0)
  have hrf : (function (fuelP s) (function (fuelP s) (startP s))).funcs ≠ [] := by rw [e1]; simp
  have hp : parsed s = function (fuelP s) (function (fuelP s) (startP s)) := by
    unfold parsed
    rw [hlen]
    rw [Ytaadamobapnfbaa.parseLoop, if_pos ⟨rfl, .inl rfl⟩, Ytaadamobapnfbaa.parseLoop, if_pos ⟨hq.code, .inr (by rw [hqk]; decide)⟩]
    rw [show 6 + (fnW w_f ns xs).length + 1 = (6 + (fnW w_f ns xs).length) + 1 from rfl, Ytaadamobapnfbaa.parseLoop, if_neg]
    rintro ⟨_, hx | hx⟩
    · exact hrf hx
    · exact hx hrk
  have hc : (parsed s).code = 0 := by rw [hp, e1]; exact hr0.code
  refine ⟨es, ss, f1, t1, f2, t2, hv, ?_⟩
  unfold parse
  rw [if_neg (fun hx => hx h.ok), if_neg (fun hx => hx hc), hp, e1]
  simp only [hqe, hqs, hqf, mv, List.nil_append, List.length_nil, List.singleton_append]
theorem body_dead : ∀ (l : List Int) (c : CS), c.code ≠ 0 → bodyOf l c = c
  | [], c, _ => rfl
  | k :: l, c, h => by
    simp only [bodyOf]
    have : stm6 c.t.stmts.length c k = c := by
      cases c.t.stmts.length with
      | zero => rfl
      | succ n => rw [stm6, if_pos h]
    rw [this]; exact body_dead l c h
def tx (nm : List Nm) : List (List UInt8) := nm.map fun y => y.text.data.toList
def tb (xs : List ByteArray) : List (List UInt8) := xs.map fun y => y.data.toList
theorem fresh_of {nm : List Nm} {x : ByteArray} {xs : List (List UInt8)} (h : (tx nm ++ (x.data.toList :: xs)).Nodup) : (nm.any fun y => (y.text.data.toList == x.data.toList) && (y.block == 0)) = false := by
  rw [List.any_eq_false]
  intro y hy hc
  rw [Bool.and_eq_true] at hc
  have h1 := eq_of_beq hc.1
  rw [List.nodup_append] at h
  exact h.2.2 _ (List.mem_map.2 ⟨y, hy, rfl⟩) _ (by simp) h1
theorem pars_go {d : CS} (hn : 1 < d.slots.length) (h0 : d.code = 0) (fr : Int) : ∀ (ns : List ByteArray) (ty sl pu fn l : List Int) (nm : List Nm) (rest : List (List UInt8)), (tx nm ++ (tb ns ++ rest)).Nodup → l.length + ns.length ≤ 64 →
    ∃ nm', parsOf fr ns (fst d 1 ty sl pu fn l nm) = fst d 1 ty sl pu fn (l ++ List.replicate ns.length 1) nm' ∧ (tx nm' ++ rest).Nodup
  | [], ty, sl, pu, fn, l, nm, rest, hd, hl => ⟨nm, by simp [parsOf], by simpa [tb] using hd⟩
  | x :: ns, ty, sl, pu, fn, l, nm, rest, hd, hl => by
    rw [List.length_cons] at hl
    have hd : (tx nm ++ (x.data.toList :: (tb ns ++ rest))).Nodup := hd
    simp only [parsOf]
    rw [if_pos (show (fst d 1 ty sl pu fn l nm).code = 0 from h0), fst_decl hn h0 (by omega) (fresh_of hd)]
    obtain ⟨nm', e1, e2⟩ := pars_go hn h0 fr ns ty sl pu fn (l ++ [1]) (nm ++ [⟨x, 0, l.length⟩]) rest (by simpa [tx] using hd) (by simp; omega)
    refine ⟨nm', ?_, e2⟩
    rw [e1, List.append_assoc, List.length_cons, List.replicate_succ]; rfl
theorem body_vars {d : CS} (hn : 1 < d.slots.length) (h0 : d.code = 0) {e : Nat} {xs : List ByteArray} {ys : List Ex} {ss : List St} (hv : Vars e xs ys ss) : ∀ (ty sl pu fn l : List Int) (nm : List Nm),
    (∀ i, i < ys.length → d.t.exprs.getD (e + i) default = ys.getD i default) → (∀ i, i < ss.length → d.t.stmts.getD (e + i) default = ss.getD i default) → e + ys.length ≤ d.t.exprs.length → e + ss.length ≤ d.t.stmts.length → (tx nm ++ tb xs).Nodup → l.length ≤ 64 →
    (l.length + xs.length ≤ 64 → ∃ ty' sl' pu' fn' nm', bodyOf (idx e xs.length) (fst d 1 ty sl pu fn l nm) = fst d 1 ty' sl' pu' fn' (l ++ List.replicate xs.length 1) nm') ∧ (64 < l.length + xs.length → (bodyOf (idx e xs.length) (fst d 1 ty sl pu fn l nm)).code = 5) := by
  induction hv with
  | nil e =>
    intro ty sl pu fn l nm hE hS hle hls hd hl
    exact ⟨fun _ => ⟨ty, sl, pu, fn, nm, by simp [bodyOf, idx]⟩, fun h => by simp at h; omega⟩
  | @cons e x xs y ys s ss k1 k2 k3 k4 hv ih =>
    intro ty sl pu fn l nm hE hS hle hls hd hl
    simp only [List.length_cons] at hle hls hE hS
    have hy : d.t.exprs.getD e default = y := by simpa using hE 0 (by omega)
    have hs : d.t.stmts.getD e default = s := by simpa using hS 0 (by omega)
    obtain ⟨m1, hm1⟩ : ∃ m, d.t.exprs.length = m + 1 := ⟨d.t.exprs.length - 1, by omega⟩
    obtain ⟨m2, hm2⟩ : ∃ m, d.t.stmts.length = m + 1 := ⟨d.t.stmts.length - 1, by omega⟩
    have hd' : (tx nm ++ (x.data.toList :: tb xs)).Nodup := hd
    have hfr := fresh_of hd'
    have hstm : (fst d 1 ty sl pu fn l nm).t.stmts.length = m2 + 1 := hm2
    have hval : ∀ fn, valOf (expr6 d.t.exprs.length (fst d 1 ty sl pu fn l nm) e) e = (fst d 1 (ty.set e 1) sl pu fn l nm, 1) := fun fn => by rw [hm1]; exact fst_num hn h0 hy k1 m1
    simp only [List.length_cons, idx, bodyOf]
    rw [hstm]
    by_cases hl64 : l.length < 64
    · rw [fst_var (j := e) hn h0 hs k2 k4 hval hl64 (by rw [k3]; exact hfr) m2, k3]
      have := ih (ty.set e 1) sl (pu.set e l.length) (fn.set e 1) (l ++ [1]) (nm ++ [⟨x, 0, l.length⟩]) (fun i hi => by
          have := hE (i + 1) (by omega)
          rw [show e + (i + 1) = e + 1 + i by omega] at this
          simpa using this) (fun i hi => by
          have := hS (i + 1) (by omega)
          rw [show e + (i + 1) = e + 1 + i by omega] at this
          simpa using this) (by omega) (by omega) (by simpa [tx] using hd') (by simp; omega)
      rw [List.length_append, List.length_singleton] at this
      refine ⟨fun h => ?_, fun h => this.2 (by omega)⟩
      obtain ⟨ty', sl', pu', fn', nm', e1⟩ := this.1 (by omega)
      refine ⟨ty', sl', pu', fn', nm', ?_⟩
      have e1 := e1
      rw [List.append_assoc] at e1
      exact e1
    · have hl6 : l.length = 64 := by omega
      have h5 := fst_varFull (fn := fn) (j := e) hn h0 hs k2 k4 hval hl6 (by rw [k3]; exact hfr) m2
      refine ⟨fun h => by omega, fun _ => ?_⟩
      rw [body_dead _ _ (by rw [h5]; decide), h5]
theorem many_checked {t : Tree} {es : List Ex} {ss : List St} {ns xs : List ByteArray} {f1 t1 f2 t2 : Int} (hv : Vars 0 xs es ss)
    (ht : t = { exprs := es, stmts := ss, funcs := [{ name := w_main, fr := f1, to := t1, params := [], type := 4, body := [] }, { name := w_f, fr := f2, to := t2, params := ns, type := 4, body := idx 0 xs.length }] })
    (hd : (tb ns ++ tb xs).Nodup) (hl : ns.length ≤ 64) :
    (ns.length + xs.length ≤ 64 → (checked t).code = 0 ∧ (checked t).slots = [[], List.replicate (ns.length + xs.length) 1]) ∧ (64 < ns.length + xs.length → (checked t).code = 5) := by
  have te : t.exprs = es := by rw [ht]
  have ts : t.stmts = ss := by rw [ht]
  have tf : t.funcs = [{ name := w_main, fr := f1, to := t1, params := [], type := 4, body := [] }, { name := w_f, fr := f2, to := t2, params := ns, type := 4, body := idx 0 xs.length }] := by rw [ht]
  have hdup : dups [] t.funcs (c0 t) = c0 t := by
    rw [tf]
    simp only [dups, List.nil_append]
    exact dupOf_none _ _ _ (by
      intro f hf
      simp at hf
      subst hf
      exact (show w_main.data.toList ≠ w_f.data.toList by decide))
  have hface : faceOf (c0 t) = c0 t := by
    unfold faceOf
    have hfu : (c0 t).fu 0 = { name := w_main, fr := f1, to := t1, params := [], type := 4, body := [] } := by
      show t.funcs.getD 0 default = _; rw [tf]; rfl
    rw [hfu]
    rw [show ((w_main.data.toList == [109, 97, 105, 110]) : Bool) = true from rfl, need_true, show ((((([] : List ByteArray).length : Int) == 0) && ((4 : Int) == 4)) : Bool) = true from rfl, need_true]
  have hck : checked t = bodyOf (idx 0 xs.length) (parsOf f2 ns (((c0 t).enter 0).enter 1)) := by
    unfold checked
    rw [hdup, hface, tf]; rfl
  have hsl : ((c0 t).enter 0).slots = [[], []] := by
    show List.replicate t.funcs.length [] = _; rw [tf]; rfl
  have hn : 1 < ((c0 t).enter 0).slots.length := by rw [hsl]; decide
  have h0 : ((c0 t).enter 0).code = 0 := rfl
  have hlen := hv.len
  rw [fst_enter (d := (c0 t).enter 0) (n := 1) (by rw [hsl]; rfl)] at hck
  obtain ⟨nm', e1, hd'⟩ := pars_go hn h0 f2 ns ((c0 t).enter 0).type ((c0 t).enter 0).slot ((c0 t).enter 0).put ((c0 t).enter 0).func [] [] (tb xs) (by simpa [tx] using hd) (by simpa using hl)
  rw [e1, List.nil_append] at hck
  have hb := body_vars hn h0 hv ((c0 t).enter 0).type ((c0 t).enter 0).slot ((c0 t).enter 0).put ((c0 t).enter 0).func (List.replicate ns.length 1) nm' (fun i hi => by
    show t.exprs.getD (0 + i) default = _; rw [te, Nat.zero_add]) (fun i hi => by
    show t.stmts.getD (0 + i) default = _; rw [ts, Nat.zero_add]) (by show 0 + es.length ≤ t.exprs.length; rw [te]; omega) (by show 0 + ss.length ≤ t.stmts.length; rw [ts]; omega) hd' (by simpa using hl)
  rw [List.length_replicate] at hb
  rw [hck]
  refine ⟨fun h => ?_, fun h => hb.2 h⟩
  obtain ⟨ty', sl', pu', fn', nm'', e2⟩ := hb.1 h
  rw [e2]
  refine ⟨rfl, ?_⟩
  show ((c0 t).enter 0).slots.set 1 _ = _
  rw [hsl, List.replicate_append_replicate]; rfl
end Go.Proofs.Ytaadamobapnfbaa
set_option linter.unusedVariables false
set_option linter.unusedSimpArgs false
namespace Go.Abs
section
variable {P : Program} {N : Nat} {D : List Deferred} {o : Oper} {env : Env} {R : List Item} {K Kp : AV → List Item → Prop}
def bytesOf (ns : List Int) : ByteArray := ns.foldl (fun r n => r.push (UInt8.ofNat n.toNat)) ByteArray.empty
theorem flat1 (ns : List Int) : (ns.map fun n => [AV.v (.int .u8 n)]).flatten = ns.map fun n => AV.v (.int .u8 n) := by
  induction ns with
  | nil => rfl
  | cons n ns ih => simp only [List.map_cons, List.flatten_cons, ih]; rfl
theorem QOp.bstr {x : Operand} {s t e : TypeId} {tk : Option Nat} {rows : List (List AV)} (ns : List Int) (ho : o.op = .convert s t x) (hx : ev N env x = some (.il 1 tk rows)) (hrow : rows = ns.map fun n => [.v (.int .u8 n)]) (hS : P.underlying s = some (.slice e)) (hE : P.underlying e = some (.int .u8)) (hD : P.underlying t = some .string) :
    QOp P N D o env R (.v (.string (bytesOf ns))) :=
  (fun G W a hs => by
    subst hrow
    rcases (ev_rep hs hx).il_inv with ⟨hn, hc⟩ | ⟨b, o', cap, hc, hrs, hp, _⟩
    · have : ns = [] := by simpa using hn
      subst this
      exact ⟨.string ByteArray.empty, by simp [execOp, ho, hc, run_convert_bytes_string W s t e none 0 0 hS hE hD, Conv.bytesToString], .v⟩
    · rw [flat1] at hp
      have hcell := cells_of_per hs.own hp
      have hl : (loadCells ⟨b, o', none⟩ ns.length).run P W = .ok (ns.map (Value.int .u8)).toArray W := by
        have := run_loadCells_list (P := P) (w := W) ⟨b, o', none⟩ (ns.map (Value.int .u8)) (fun j v hv => by
          rw [List.getElem?_map] at hv
          cases hj : ns[j]? with
          | none => rw [hj] at hv; cases hv
          | some n =>
            rw [hj] at hv
            injection hv with hv
            obtain ⟨c, q1, q2, _⟩ := hcell j (.v (.int .u8 n)) (by rw [List.getElem?_map, hj]; rfl)
            rw [← hv, ← q2.v_inv]
            rw [add0]; exact q1)
        rw [List.length_map] at this
        exact this
      exact ⟨.string (bytesOf ns), by simp [execOp, ho, hc, run_convert_bytes_string W s t e _ _ _ hS hE hD, run_bytesToString W _ _ cap ns hl, bytesOf], .v⟩)
end
end Go.Abs
set_option linter.unusedVariables false
set_option linter.unusedSimpArgs false
set_option maxRecDepth 100000
namespace Go.Proofs.Ytaadamobapnfbaa
open Go Go.Abs
def parT : Nat → ByteArray
  | 0 => ⟨#[102, 117, 110, 99, 32, 109, 97, 105, 110, 40, 41, 32, 123, 32, 125, 10, 102, 117, 110, 99, 32, 102, 40]⟩
  | i + 1 => (if 0 < i then parT i ++ ⟨#[44, 32]⟩ else parT i) ++ (⟨#[112]⟩ ++ bytesOf [97 + (i : Int)])
def headT (p : Nat) : ByteArray := parT p ++ ⟨#[41, 32, 123]⟩
def pieceT (j : Nat) : ByteArray := (⟨#[32, 118, 97, 114, 32, 120]⟩ ++ bytesOf [97 + (j : Int).tdiv 26, 97 + (j : Int).tmod 26]) ++ ⟨#[32, 61, 32, 49, 59]⟩
def bodyT (p : Nat) : Nat → ByteArray
  | 0 => headT p
  | j + 1 => bodyT p j ++ pieceT j
def textT (p k : Nat) : ByteArray := bodyT p k ++ ⟨#[32, 125]⟩
def pnm (i : Nat) : ByteArray := ⟨#[112, UInt8.ofNat (97 + i)]⟩
def vnm (j : Nat) : ByteArray := ⟨#[120, UInt8.ofNat (97 + j / 26), UInt8.ofNat (97 + j % 26)]⟩
def pns (p : Nat) : List ByteArray := (List.range p).map pnm
def vns (k : Nat) : List ByteArray := (List.range k).map vnm
def headW (p : Nat) : List (Int × ByteArray) := fnW w_main [] [] ++ ([(3, w_func), (1, w_f), (4, w_lp)] ++ (parWords (pns p) ++ [(4, w_rp), (4, w_lc)]))
theorem head_all : ∀ p : Fin 10, (lexB (headT p) ((headW p).map fun x => (x.1, x.2.data.toList)) && decide ((headT p).size ≤ 100)) = true := by decide +kernel
theorem piece_all : ∀ j : Fin 70, (lexB (pieceT j) ((varW (vnm j)).map fun x => (x.1, x.2.data.toList)) && decide ((pieceT j).size = 13)) = true := by decide +kernel
theorem tail_lex : Lex ⟨#[32, 125]⟩ [(4, w_rc)] := Lex.of (by decide +kernel)
theorem names_all : (tb (pns 10) ++ tb (vns 70)).Nodup := by decide +kernel
theorem names_ok {p k : Nat} (hp : p ≤ 10) (hk : k ≤ 70) : (tb (pns p) ++ tb (vns k)).Nodup :=
  List.Nodup.sublist (List.Sublist.append (((List.range_sublist.2 hp).map _).map _) (((List.range_sublist.2 hk).map _).map _)) names_all
theorem head_lex {p : Nat} (hp : p < 10) : Lex (headT p) (headW p) ∧ (headT p).size ≤ 100 := by
  have := head_all ⟨p, hp⟩
  rw [Bool.and_eq_true] at this
  exact ⟨Lex.of this.1, of_decide_eq_true this.2⟩
theorem piece_lex {j : Nat} (hj : j < 70) : Lex (pieceT j) (varW (vnm j)) ∧ (pieceT j).size = 13 := by
  have := piece_all ⟨j, hj⟩
  rw [Bool.and_eq_true] at this
  exact ⟨Lex.of this.1, of_decide_eq_true this.2⟩
theorem piece_start (j : Nat) : ∃ m, (pieceT j).data.toList = 32 :: m := ⟨_, by unfold pieceT; rw [app_toList, app_toList]; rfl⟩
theorem body_lex {p : Nat} (hp : p < 10) : ∀ k, k ≤ 70 → Lex (bodyT p k) (headW p ++ (vns k).flatMap varW) ∧ (bodyT p k).size ≤ 100 + 13 * k
  | 0, _ => by
    obtain ⟨h1, h2⟩ := head_lex hp
    exact ⟨by simpa [vns, bodyT] using h1, by simpa [bodyT] using h2⟩
  | k + 1, hk => by
    obtain ⟨h1, h2⟩ := body_lex hp k (by omega)
    obtain ⟨q1, q2⟩ := piece_lex (show k < 70 by omega)
    obtain ⟨m, hm⟩ := piece_start k
    refine ⟨?_, ?_⟩
    · have := h1.app q1 hm (by omega)
      rw [show headW p ++ (vns (k + 1)).flatMap varW = headW p ++ (vns k).flatMap varW ++ varW (vnm k) by unfold vns; rw [List.range_succ, List.map_append, List.flatMap_append, List.append_assoc]; simp]
      exact this
    · show (bodyT p k ++ pieceT k).size ≤ _
      rw [app_size]; omega
theorem text_lex {p k : Nat} (hp : p < 10) (hk : k ≤ 70) : Lex (textT p k) (fnW w_main [] [] ++ fnW w_f (pns p) (vns k)) ∧ (textT p k).size ≤ 1100 := by
  obtain ⟨h1, h2⟩ := body_lex hp k hk
  have h3 := h1.app tail_lex (m := [125]) rfl (by show _ + 2 ≤ 20000; omega)
  refine ⟨?_, ?_⟩
  · rw [show fnW w_main [] [] ++ fnW w_f (pns p) (vns k) = headW p ++ (vns k).flatMap varW ++ [(4, w_rc)] by
      unfold headW; rw [show fnW w_f (pns p) (vns k) = [(3, w_func), (1, w_f), (4, w_lp)] ++ (parWords (pns p) ++ ((4, w_rp) :: (4, w_lc) :: ((vns k).flatMap varW ++ [(4, w_rc)]))) from rfl]; simp only [List.append_assoc, List.cons_append, List.nil_append]]
    exact h3
  · show (bodyT p k ++ ⟨#[32, 125]⟩).size ≤ _
    rw [app_size]
    show _ + 2 ≤ 1100; omega
theorem pnm_rp {p : Nat} : ∀ x ∈ pns p, x.data.toList ≠ w_rp.data.toList := by
  intro x hx
  obtain ⟨i, _, rfl⟩ := List.mem_map.1 hx
  intro h
  have := congrArg List.length h
  exact absurd this (by show ¬ (2 : Nat) = 1; decide)
/-- what the law's text gives -/
theorem many_text {p k : Nat} (hp : p < 10) (hk : k ≤ 70) : (parse (textT p k)).2.2 = 0 ∧ (p + k ≤ 64 → (checked (parse (textT p k)).1).code = 0 ∧ (checked (parse (textT p k)).1).slots = [[], List.replicate (p + k) 1]) ∧ (64 < p + k → (checked (parse (textT p k)).1).code = 5) := by
  have hl1 : (pns p).length = p := by simp [pns]
  have hl2 : (vns k).length = k := by simp [vns]
  obtain ⟨es, ss, f1, t1, f2, t2, hv, hpa⟩ := many_parse (text_lex hp hk).1 pnm_rp (by omega) (by omega)
  have hch := many_checked (ns := pns p) (t := (parse (textT p k)).1) hv (by rw [hpa]) (names_ok (by omega) hk) (by omega)
  rw [hl1, hl2] at hch
  exact ⟨by rw [hpa], hch⟩
end Go.Proofs.Ytaadamobapnfbaa
set_option linter.unusedVariables false
set_option linter.unusedSimpArgs false
set_option maxRecDepth 1000000
namespace Go.Abs
theorem QOp.quoE {P : Program} {N : Nat} {D : List Deferred} {o : Oper} {env : Env} {R : List Item} {x y : Operand} {t t' : TypeId} {k : IntKind} {a b n : Int} (ho : o.op = .binOp .quo t x y t') (hx : ev N env x = some (.v (.int k a))) (hy : ev N env y = some (.v (.int k b)))
    (hb : b ≠ 0) (hn : k.wrap (a.tdiv b) = n) : QOp P N D o env R (.v (.int k n)) := hn ▸ QOp.quo ho hx hy hb
end Go.Abs
namespace Go.Proofs.Ytaadamobapnfbaa
open Go Go.Abs
theorem bytesOf_size1 (x : Int) : (bytesOf [x]).size = 1 := rfl
theorem bytesOf_size2 (x y : Int) : (bytesOf [x, y]).size = 2 := rfl
theorem parT_size : ∀ i, (parT i).size ≤ 23 + 4 * i
  | 0 => by decide
  | i + 1 => by
    have h := parT_size i
    unfold parT
    rw [app_size, app_size, bytesOf_size1]
    by_cases hi : 0 < i
    · rw [if_pos hi, app_size]; show (parT i).size + 2 + (1 + 1) ≤ _; omega
    · rw [if_neg hi]; show (parT i).size + (1 + 1) ≤ _; omega
theorem u8_in {n : Int} (h : 0 ≤ n ∧ n < 256) : IntKind.u8.wrap n = n := IntWalk.u8_in n (by omega)
set_option maxHeartbeats 16000000 in
theorem checkMany_walk (a b : Int) (ha : 0 ≤ a ∧ a < 256) (hb : 0 ≤ b ∧ b < 256) : ACalls Try.prog 9 [.v (.int .u8 a), .v (.int .u8 b)] [] (RV (.v (.bool true)) []) := by
  have haw := awake6_walk
  have h10 : (10 : Int) ≠ 0 := by decide
  have h20 : (20 : Int) ≠ 0 := by decide
  have h26 : (26 : Int) ≠ 0 := by decide
  obtain ⟨p, hp⟩ : ∃ p : Nat, b.tmod 10 = p := ⟨(b.tmod 10).toNat, by have := Int.tmod_nonneg (10 : Int) hb.1; omega⟩
  obtain ⟨q, hq⟩ : ∃ q : Nat, a.tmod 20 = q := ⟨(a.tmod 20).toNat, by have := Int.tmod_nonneg (20 : Int) ha.1; omega⟩
  have hp10 : p < 10 := by have := Int.tmod_lt_of_pos b (show (0 : Int) < 10 by decide); omega
  have hq20 : q < 20 := by have := Int.tmod_lt_of_pos a (show (0 : Int) < 20 by decide); omega
  have w1 : IntKind.i64.wrap (b.tmod 10) = (p : Int) := by rw [hp]; exact IntWalk.i64_in _ (by omega)
  have w2 : IntKind.i64.wrap (a.tmod 20) = (q : Int) := by rw [hq]; exact IntWalk.i64_in _ (by omega)
  refine ACalls.of_code (c := _) Try.func9 rfl Try.ntmps9 (Nat.le_of_ble_eq_true rfl) ?_
  refine ACode.seq (ACode.region ?_)
  refine ASeq.q rfl rfl (QOp.assign rfl rfl) ?_
  refine ASeq.nil ?_
  refine ACode.seq (ACode.seq (ACode.region ?_))
  refine ASeq.op rfl rfl (AOp.callP 0 rfl (by kernel_rfl) rfl rfl rfl (haw) ?_ (by rintro _ _ ⟨⟩))
  rintro _ _ ⟨⟩
  refine ASeq.q rfl rfl (QOp.not rfl rfl) ?_
  refine ASeq.nil ?_
  refine AExit.then_normal ?_
  refine ACode.cond _ rfl (fun hc => by cases hc) (fun _ => ?_)
  refine ACode.skip (ACode.seq (ACode.region ?_))
  refine ASeq.q rfl rfl (QOp.move rfl rfl) ?_
  refine ASeq.q rfl rfl (QOp.rem rfl rfl rfl (by assumption)) ?_
  refine ASeq.q rfl rfl (QOp.conv rfl rfl (tok _ rfl) rfl (tok _ rfl) (by assumption)) ?_
  refine ASeq.q rfl rfl (QOp.move rfl rfl) ?_
  refine ASeq.q rfl rfl (QOp.rem rfl rfl rfl (by assumption)) ?_
  refine ASeq.q rfl rfl (QOp.conv rfl rfl (tok _ rfl) rfl (tok _ rfl) (by assumption)) ?_
  refine ASeq.q rfl rfl (QOp.ar64 rfl rfl rfl rfl ⟨by omega, by omega⟩) ?_
  refine ASeq.q rfl rfl (QOp.assign rfl rfl) ?_
  refine ASeq.q rfl rfl (QOp.assign rfl rfl) ?_
  refine ASeq.nil ?_
  refine ACode.seq (ACode.region ?_)
  refine ASeq.q rfl rfl (QOp.assign rfl rfl) ?_
  refine ASeq.nil ?_
  refine ACode.seq (ACode.seq (ACode.region ?_))
  refine ASeq.q rfl rfl (QOp.move rfl rfl) ?_
  refine ASeq.q rfl rfl (QOp.move rfl rfl) ?_
  refine ASeq.nil ?_
  clear w1 w2
  obtain ⟨k, hk⟩ : ∃ k : Nat, 50 + (q : Int) = k := ⟨50 + q, by omega⟩
  rw [hk]
  have hk70 : k < 70 := by omega
  refine ACode.block ?_
  refine ACode.loopP (fun (i : Nat) => [(5, vi p), (6, vi k), (7, vs (parT i)), (25, vi p), (26, vi i)]) (fun _ => []) (fun i => p - i)
    (fun i => i ≤ p) 0 (Nat.zero_le _) (.cons rfl (.cons rfl (.cons rfl (.cons rfl (.cons rfl .nil))))) 0 rfl ?_
  rintro i hi
  refine ACode.seq (ACode.region ?_)
  refine ASeq.q rfl rfl (QOp.cmp rfl rfl rfl rfl) ?_
  refine ASeq.nil ?_
  refine ACode.seq ?_
  refine ACode.cond _ rfl (fun hb4 => ?_) (fun hb4 => ?_)
  · have hlti : i < p := by have := of_decide_eq_true hb4; omega
    have hu : IntKind.u8.wrap (97 + (i : Int)) = 97 + (i : Int) := u8_in (by omega)
    have hsz := parT_size i
    have hz1 := bytesOf_size1 (97 + (i : Int))
    have c1 : (⟨#[112]⟩ : ByteArray).size + (bytesOf [97 + (i : Int)]).size ≤ 9223372036854775807 := by rw [hz1]; show 1 + 1 ≤ _; omega
    have c2 : (parT i).size + (⟨#[44, 32]⟩ : ByteArray).size ≤ 9223372036854775807 := by show (parT i).size + 2 ≤ _; omega
    have c3 : (parT i).size + ((⟨#[112]⟩ : ByteArray) ++ bytesOf [97 + (i : Int)]).size ≤ 9223372036854775807 := by rw [app_size, hz1]; show (parT i).size + (1 + 1) ≤ _; omega
    have c4 : (parT i ++ (⟨#[44, 32]⟩ : ByteArray)).size + ((⟨#[112]⟩ : ByteArray) ++ bytesOf [97 + (i : Int)]).size ≤ 9223372036854775807 := by rw [app_size, app_size, hz1]; show (parT i).size + 2 + (1 + 1) ≤ _; omega
    have n1 : 0 < i → (parT i ++ (⟨#[44, 32]⟩ : ByteArray)) ++ ((⟨#[112]⟩ : ByteArray) ++ bytesOf [97 + (i : Int)]) = parT (i + 1) := fun h => by rw [parT, if_pos h]
    have n2 : ¬ 0 < i → parT i ++ ((⟨#[112]⟩ : ByteArray) ++ bytesOf [97 + (i : Int)]) = parT (i + 1) := fun h => by rw [parT, if_neg h]
    refine ACode.skip (ACode.seq (ACode.block (ACode.seq (ACode.region ?_))))
    refine ASeq.q rfl rfl (QOp.move rfl rfl) ?_
    refine ASeq.q rfl rfl (QOp.assign rfl rfl) ?_
    refine ASeq.nil ?_
    refine ACode.seq (ACode.seq (ACode.region ?_))
    refine ASeq.q rfl rfl (QOp.move rfl rfl) ?_
    refine ASeq.q rfl rfl (QOp.cmp rfl rfl rfl rfl) ?_
    refine ASeq.nil ?_
    refine ACode.cond _ rfl (fun hb5 => ?_) (fun hb5 => ?_)
    · have h0 : 0 < i := by have := of_decide_eq_true hb5; omega
      refine ACode.region ?_
      refine ASeq.q rfl rfl (QOp.move rfl rfl) ?_
      refine ASeq.q rfl rfl (QOp.cat rfl rfl rfl (by assumption)) ?_
      refine ASeq.q rfl rfl (QOp.assign rfl rfl) ?_
      refine ASeq.nil ?_
      refine ACode.region ?_
      refine ASeq.q rfl rfl (QOp.move rfl rfl) ?_
      refine ASeq.q rfl rfl (QOp.move rfl rfl) ?_
      refine ASeq.q rfl rfl (QOp.ar64 rfl rfl rfl rfl ⟨by omega, by omega⟩) ?_
      refine ASeq.q rfl rfl (QOp.conv rfl rfl (tok _ rfl) rfl (tok _ rfl) (by assumption)) ?_
      refine ASeq.op rfl rfl (AOp.buildSliceR rfl (tok _ rfl) rfl (tok _ rfl) (by decide) rfl (by decide) rfl rfl rfl rfl ?_)
      refine ASeq.q rfl rfl (QOp.bstr (e := 5) [97 + (i : Int)] rfl rfl rfl (by kernel_rfl) (by kernel_rfl) (by kernel_rfl)) ?_
      refine ASeq.q rfl rfl (QOp.cat rfl rfl rfl (by assumption)) ?_
      refine ASeq.q rfl rfl (QOp.cat rfl rfl rfl (by assumption)) ?_
      refine ASeq.q rfl rfl (QOp.assign rfl rfl) ?_
      refine ASeq.nil ?_
      refine ACode.region ?_
      refine ASeq.q rfl rfl (QOp.ar64 rfl rfl rfl rfl ⟨by omega, by omega⟩) ?_
      refine ASeq.q rfl rfl (QOp.move rfl rfl) ?_
      refine ASeq.nil ?_
      refine AExit.then_normal ?_
      exact ⟨i + 1, 0, hlti, by omega, .cons rfl (.cons rfl (.consE rfl (congrArg vs (n1 h0)) (.cons rfl (.cons rfl .nil)))), rfl⟩
    · have h0 : ¬ 0 < i := by have := of_decide_eq_false hb5; omega
      refine ACode.skip (ACode.region ?_)
      refine ASeq.q rfl rfl (QOp.move rfl rfl) ?_
      refine ASeq.q rfl rfl (QOp.move rfl rfl) ?_
      refine ASeq.q rfl rfl (QOp.ar64 rfl rfl rfl rfl ⟨by omega, by omega⟩) ?_
      refine ASeq.q rfl rfl (QOp.conv rfl rfl (tok _ rfl) rfl (tok _ rfl) (by assumption)) ?_
      refine ASeq.op rfl rfl (AOp.buildSliceR rfl (tok _ rfl) rfl (tok _ rfl) (by decide) rfl (by decide) rfl rfl rfl rfl ?_)
      refine ASeq.q rfl rfl (QOp.bstr (e := 5) [97 + (i : Int)] rfl rfl rfl (by kernel_rfl) (by kernel_rfl) (by kernel_rfl)) ?_
      refine ASeq.q rfl rfl (QOp.cat rfl rfl rfl (by assumption)) ?_
      refine ASeq.q rfl rfl (QOp.cat rfl rfl rfl (by assumption)) ?_
      refine ASeq.q rfl rfl (QOp.assign rfl rfl) ?_
      refine ASeq.nil ?_
      refine ACode.region ?_
      refine ASeq.q rfl rfl (QOp.ar64 rfl rfl rfl rfl ⟨by omega, by omega⟩) ?_
      refine ASeq.q rfl rfl (QOp.move rfl rfl) ?_
      refine ASeq.nil ?_
      refine AExit.then_normal ?_
      exact ⟨i + 1, 0, hlti, by omega, .cons rfl (.cons rfl (.consE rfl (congrArg vs (n2 h0)) (.cons rfl (.cons rfl .nil)))), rfl⟩
  have hge : i = p := by have := of_decide_eq_false hb4; omega
  subst hge
  have hsz := parT_size i
  have c1 : (parT i).size + (⟨#[41, 32, 123]⟩ : ByteArray).size ≤ 9223372036854775807 := by show (parT i).size + 3 ≤ _; omega
  clear hb4 hi
  refine ACode.exit (ACode.seq (ACode.region ?_))
  refine ASeq.q rfl rfl (QOp.move rfl rfl) ?_
  refine ASeq.q rfl rfl (QOp.cat rfl rfl rfl (by assumption)) ?_
  refine ASeq.q rfl rfl (QOp.assign rfl rfl) ?_
  refine ASeq.nil ?_
  refine ACode.seq (ACode.seq (ACode.region ?_))
  refine ASeq.q rfl rfl (QOp.move rfl rfl) ?_
  refine ASeq.q rfl rfl (QOp.move rfl rfl) ?_
  refine ASeq.nil ?_
  refine ACode.block ?_
  refine ACode.loopP (fun (j : Nat) => [(5, vi i), (6, vi k), (7, vs (bodyT i j)), (44, vi k), (45, vi j)]) (fun _ => []) (fun j => k - j)
    (fun j => j ≤ k) 0 (Nat.zero_le _) (.cons rfl (.cons rfl (.cons rfl (.cons rfl (.cons rfl .nil))))) 0 rfl ?_
  rintro j hj
  refine ACode.seq (ACode.region ?_)
  refine ASeq.q rfl rfl (QOp.cmp rfl rfl rfl rfl) ?_
  refine ASeq.nil ?_
  refine ACode.seq ?_
  refine ACode.cond _ rfl (fun hb4 => ?_) (fun hb4 => ?_)
  · have hltj : j < k := by have := of_decide_eq_true hb4; omega
    have hsj := (body_lex hp10 j (by omega)).2
    have d1 : 0 ≤ (j : Int).tdiv 26 ∧ (j : Int).tdiv 26 ≤ 70 := by
      rw [Int.tdiv_eq_ediv_of_nonneg (by omega)]; omega
    have d2 : 0 ≤ (j : Int).tmod 26 ∧ (j : Int).tmod 26 < 26 := by
      rw [Int.tmod_eq_emod_of_nonneg (by omega)]; omega
    have hw : IntKind.i64.wrap ((j : Int).tdiv 26) = (j : Int).tdiv 26 := IntWalk.i64_in _ (by omega)
    have hu1 : IntKind.u8.wrap (97 + (j : Int).tdiv 26) = 97 + (j : Int).tdiv 26 := u8_in (by omega)
    have hu2 : IntKind.u8.wrap (97 + (j : Int).tmod 26) = 97 + (j : Int).tmod 26 := u8_in (by omega)
    have hz1 := bytesOf_size2 (97 + (j : Int).tdiv 26) (97 + (j : Int).tmod 26)
    have c1 : (⟨#[32, 118, 97, 114, 32, 120]⟩ : ByteArray).size + (bytesOf [97 + (j : Int).tdiv 26, 97 + (j : Int).tmod 26]).size ≤ 9223372036854775807 := by rw [hz1]; show 6 + 2 ≤ _; omega
    have c2 : ((⟨#[32, 118, 97, 114, 32, 120]⟩ : ByteArray) ++ bytesOf [97 + (j : Int).tdiv 26, 97 + (j : Int).tmod 26]).size + (⟨#[32, 61, 32, 49, 59]⟩ : ByteArray).size ≤ 9223372036854775807 := by rw [app_size, hz1]; show 6 + 2 + 5 ≤ _; omega
    have c3 : (bodyT i j).size + (((⟨#[32, 118, 97, 114, 32, 120]⟩ : ByteArray) ++ bytesOf [97 + (j : Int).tdiv 26, 97 + (j : Int).tmod 26]) ++ (⟨#[32, 61, 32, 49, 59]⟩ : ByteArray)).size ≤ 9223372036854775807 := by rw [app_size, app_size, hz1]; show (bodyT i j).size + (6 + 2 + 5) ≤ _; omega
    refine ACode.skip (ACode.seq (ACode.block (ACode.seq (ACode.region ?_))))
    refine ASeq.q rfl rfl (QOp.move rfl rfl) ?_
    refine ASeq.q rfl rfl (QOp.assign rfl rfl) ?_
    refine ASeq.nil ?_
    refine ACode.region ?_
    refine ASeq.q rfl rfl (QOp.move rfl rfl) ?_
    refine ASeq.q rfl rfl (QOp.move rfl rfl) ?_
    refine ASeq.q rfl rfl (QOp.quoE rfl rfl rfl (by assumption) (by assumption)) ?_
    refine ASeq.q rfl rfl (QOp.ar64 rfl rfl rfl rfl ⟨by omega, by omega⟩) ?_
    refine ASeq.q rfl rfl (QOp.conv rfl rfl (tok _ rfl) rfl (tok _ rfl) (by assumption)) ?_
    refine ASeq.q rfl rfl (QOp.move rfl rfl) ?_
    refine ASeq.q rfl rfl (QOp.rem rfl rfl rfl (by assumption)) ?_
    refine ASeq.q rfl rfl (QOp.ar64 rfl rfl rfl rfl ⟨by omega, by omega⟩) ?_
    refine ASeq.q rfl rfl (QOp.conv rfl rfl (tok _ rfl) rfl (tok _ rfl) (by assumption)) ?_
    refine ASeq.op rfl rfl (AOp.buildSliceR rfl (tok _ rfl) rfl (tok _ rfl) (by decide) rfl (by decide) rfl rfl rfl rfl ?_)
    refine ASeq.q rfl rfl (QOp.bstr (e := 5) [97 + (j : Int).tdiv 26, 97 + (j : Int).tmod 26] rfl rfl rfl (by kernel_rfl) (by kernel_rfl) (by kernel_rfl)) ?_
    refine ASeq.q rfl rfl (QOp.cat rfl rfl rfl (by assumption)) ?_
    refine ASeq.q rfl rfl (QOp.cat rfl rfl rfl (by assumption)) ?_
    refine ASeq.q rfl rfl (QOp.cat rfl rfl rfl (by assumption)) ?_
    refine ASeq.q rfl rfl (QOp.assign rfl rfl) ?_
    refine ASeq.nil ?_
    refine ACode.region ?_
    refine ASeq.q rfl rfl (QOp.ar64 rfl rfl rfl rfl ⟨by omega, by omega⟩) ?_
    refine ASeq.q rfl rfl (QOp.move rfl rfl) ?_
    refine ASeq.nil ?_
    refine AExit.then_normal ?_
    exact ⟨j + 1, 0, hltj, by omega, .cons rfl (.cons rfl (.cons rfl (.cons rfl (.cons rfl .nil)))), rfl⟩
  have hge : j = k := by have := of_decide_eq_false hb4; omega
  subst hge
  clear hb4 hj c1
  have hsj := (body_lex hp10 j (by omega)).2
  have c1 : (bodyT i j).size + (⟨#[32, 125]⟩ : ByteArray).size ≤ 9223372036854775807 := by show (bodyT i j).size + 2 ≤ _; omega
  obtain ⟨hz, hm1, hm2⟩ := many_text hp10 (show j ≤ 70 by omega)
  have hts := (text_lex hp10 (show j ≤ 70 by omega)).2
  have hpo := parse_ok (textT i j) (by omega)
  obtain ⟨toks, at_, htree⟩ := parse_tree (s := textT i j) (by omega) hz
  have hck := htree.check
  have hfine := htree.fine
  rw [hz] at hpo
  generalize (parse (textT i j)).1 = t at *
  refine ACode.exit (ACode.seq (ACode.region ?_))
  refine ASeq.q rfl rfl (QOp.move rfl rfl) ?_
  refine ASeq.q rfl rfl (QOp.cat rfl rfl rfl (by assumption)) ?_
  refine ASeq.op rfl rfl (AOp.callP 0 rfl (by kernel_rfl) rfl rfl rfl (hpo) ?_ (by rintro _ _ ⟨⟩))
  rintro _ _ ⟨⟩
  refine ASeq.q rfl rfl (QOp.move rfl rfl) ?_
  refine ASeq.q rfl rfl (QOp.extract rfl rfl rfl) ?_
  refine ASeq.q rfl rfl (QOp.extract rfl rfl rfl) ?_
  refine ASeq.q rfl rfl (QOp.extract rfl rfl rfl) ?_
  refine ASeq.op rfl rfl (AOp.allocP rfl (tok _ rfl) rfl rfl (fun _ => rfl) (fun _ => ?_))
  refine ASeq.op0 rfl rfl (AOp.storeP 0 rfl rfl rfl rfl (tok _ rfl) rfl rfl rfl rfl ?_)
  refine ASeq.q rfl rfl (QOp.assign rfl rfl) ?_
  refine ASeq.q rfl rfl (QOp.assign rfl rfl) ?_
  refine ASeq.nil ?_
  rename_i m10
  refine ACode.seq (ACode.region ?_)
  refine ASeq.q rfl rfl (QOp.loadM 0 rfl rfl rfl (tok _ rfl) rfl) ?_
  refine ASeq.op rfl rfl (AOp.callP 0 rfl (by kernel_rfl) rfl rfl rfl hck ?_ (by rintro _ _ ⟨⟩))
  rintro _ _ (⟨hbad⟩ | ⟨hgood, m, τ⟩)
  · have hgt : 64 < i + j := by
      by_cases h : 64 < i + j
      · exact h
      · exact absurd (hm1 (by omega)).1 hbad
    have h5 := hm2 hgt
    generalize (checked t).at_ = a' at *
    rw [h5]
    refine ASeq.q rfl rfl (QOp.move rfl rfl) ?_
    refine ASeq.q rfl rfl (QOp.extract rfl rfl rfl) ?_
    refine ASeq.q rfl rfl (QOp.extract rfl rfl rfl) ?_
    refine ASeq.q rfl rfl (QOp.extract rfl rfl rfl) ?_
    refine ASeq.op rfl rfl (AOp.allocP rfl (tok _ rfl) rfl rfl (fun _ => rfl) (fun _ => ?_))
    refine ASeq.op0 rfl rfl (AOp.storeP 1 rfl rfl rfl rfl (tok _ rfl) rfl rfl rfl rfl ?_)
    refine ASeq.q rfl rfl (QOp.assign rfl rfl) ?_
    refine ASeq.q rfl rfl (QOp.assign rfl rfl) ?_
    refine ASeq.nil ?_
    rename_i m13
    refine ACode.seq (ACode.seq (ACode.region ?_))
    refine ASeq.q rfl rfl (QOp.move rfl rfl) ?_
    refine ASeq.q rfl rfl (QOp.cmp rfl rfl rfl rfl) ?_
    refine ASeq.nil ?_
    refine AExit.then_normal ?_
    refine ACode.cond _ rfl (fun hb5 => by cases hb5) (fun hb5 => ?_)
    refine ACode.skip (ACode.seq (ACode.seq (ACode.region ?_)))
    refine ASeq.q rfl rfl (QOp.move rfl rfl) ?_
    refine ASeq.q rfl rfl (QOp.move rfl rfl) ?_
    refine ASeq.q rfl rfl (QOp.ar64 rfl rfl rfl rfl ⟨by omega, by omega⟩) ?_
    refine ASeq.q rfl rfl (QOp.cmp rfl rfl rfl rfl) ?_
    refine ASeq.nil ?_
    refine AExit.then_normal ?_
    refine ACode.cond _ rfl (fun hb5 => ?_) (fun hb5 => by have := of_decide_eq_false hb5; omega)
    refine ACode.seq (ACode.region ?_)
    refine ASeq.q rfl rfl (QOp.move rfl rfl) ?_
    refine ASeq.q rfl rfl (QOp.cmp rfl rfl rfl rfl) ?_
    refine ASeq.q rfl rfl (QOp.assign rfl rfl) ?_
    refine ASeq.nil ?_
    refine ACode.ret (AExit.then_ret ?_)
    refine bodyQ_ret 0 (.tmp rfl .nil) rfl ?_
    exact .mk
  have hle : i + j ≤ 64 := by
    by_cases h : i + j ≤ 64
    · exact h
    · have := hm2 (by omega); rw [hgood] at this; exact absurd this (by decide)
  have hsl := (hm1 hle).2
  have hf := hfine hgood
  generalize checked t = y at *
  have hS : y.slots.length = 2 := by rw [hsl]; rfl
  obtain ⟨tk, hslot⟩ := slots_cell hf τ (f := 1) (by rw [← hf.lS, hS]; decide)
  have hL : y.slots.getD 1 [] = List.replicate (i + j) 1 := by rw [hsl]; rfl
  rw [hL] at hslot
  have hslot : (y.slotCells τ)[0 + (1 : Int).toNat * 1]? = some (.il 1 tk (ints (List.replicate (i + j) 1))) := hslot
  have hlen : ((ints (List.replicate (i + j) 1)).length : Int) = (i : Int) + (j : Int) := by rw [ints_len, List.length_replicate]; omega
  have q1 : ((y.slots.length : Int) == 2) = true := by rw [hS]; rfl
  have q2 : (((ints (List.replicate (i + j) 1)).length : Int) == (i : Int) + (j : Int)) = true := by rw [hlen]; exact beq_self_eq_true _
  refine ASeq.q rfl rfl (QOp.move rfl rfl) ?_
  refine ASeq.q rfl rfl (QOp.extract rfl rfl rfl) ?_
  refine ASeq.q rfl rfl (QOp.extract rfl rfl rfl) ?_
  refine ASeq.q rfl rfl (QOp.extract rfl rfl rfl) ?_
  refine ASeq.op rfl rfl (AOp.allocP rfl (tok _ rfl) rfl rfl (fun _ => rfl) (fun _ => ?_))
  refine ASeq.op0 rfl rfl (AOp.storeP 7 rfl rfl rfl rfl (tok _ rfl) rfl rfl rfl rfl ?_)
  refine ASeq.q rfl rfl (QOp.assign rfl rfl) ?_
  refine ASeq.q rfl rfl (QOp.assign rfl rfl) ?_
  refine ASeq.nil ?_
  rename_i m13
  refine ACode.seq (ACode.seq (ACode.region ?_))
  refine ASeq.q rfl rfl (QOp.move rfl rfl) ?_
  refine ASeq.q rfl rfl (QOp.cmp rfl rfl rfl rfl) ?_
  refine ASeq.nil ?_
  refine AExit.then_normal ?_
  refine ACode.cond _ rfl (fun hb5 => by cases hb5) (fun hb5 => ?_)
  refine ACode.skip (ACode.seq (ACode.seq (ACode.region ?_)))
  refine ASeq.q rfl rfl (QOp.move rfl rfl) ?_
  refine ASeq.q rfl rfl (QOp.move rfl rfl) ?_
  refine ASeq.q rfl rfl (QOp.ar64 rfl rfl rfl rfl ⟨by omega, by omega⟩) ?_
  refine ASeq.q rfl rfl (QOp.cmp rfl rfl rfl rfl) ?_
  refine ASeq.nil ?_
  refine AExit.then_normal ?_
  refine ACode.cond _ rfl (fun hb5 => by have := of_decide_eq_true hb5; omega) (fun hb5 => ?_)
  refine ACode.skip (ACode.seq (ACode.region ?_))
  refine ASeq.q rfl rfl (QOp.move rfl rfl) ?_
  refine ASeq.q rfl rfl (QOp.cmp rfl rfl rfl rfl) ?_
  refine ASeq.q rfl rfl (QOp.move rfl rfl) ?_
  refine ASeq.gq _ _ rfl rfl rfl rfl (QOp.fieldM rfl rfl (tok _ rfl) rfl rfl (by decide) rfl) ?_
  refine ASeq.gq _ _ rfl rfl rfl rfl (QOp.loadM 7 rfl rfl rfl (tok _ rfl) rfl) ?_
  refine ASeq.gq _ _ rfl rfl rfl rfl (QOp.lenM rfl rfl (tok _ rfl) rfl) ?_
  refine ASeq.gq _ _ rfl rfl rfl rfl (QOp.cmp rfl rfl rfl rfl) ?_
  refine ASeq.slot 90 rfl (v' := .v (.bool true)) (by rw [q1]; exact .refl _) ?_
  refine ASeq.q rfl rfl (QOp.pickT rfl rfl rfl) ?_
  refine ASeq.q rfl rfl (QOp.move rfl rfl) ?_
  refine ASeq.gq _ _ rfl rfl rfl rfl (QOp.fieldM rfl rfl (tok _ rfl) rfl rfl (by decide) rfl) ?_
  refine ASeq.gq _ _ rfl rfl rfl rfl (QOp.loadM 7 rfl rfl rfl (tok _ rfl) rfl) ?_
  refine ASeq.gq _ _ rfl rfl rfl rfl (QOp.indexM rfl rfl rfl (tok _ rfl) rfl (tok _ rfl) (by decide) (by omega) rfl) ?_
  refine ASeq.gq _ _ rfl rfl rfl rfl (QOp.loadAt 4 rfl rfl rfl (tok _ rfl) rfl (by assumption)) ?_
  refine ASeq.gq _ _ rfl rfl rfl rfl (QOp.lenI rfl rfl (tok _ rfl) rfl) ?_
  refine ASeq.gq _ _ rfl rfl rfl rfl (QOp.move rfl rfl) ?_
  refine ASeq.gq _ _ rfl rfl rfl rfl (QOp.move rfl rfl) ?_
  refine ASeq.gq _ _ rfl rfl rfl rfl (QOp.ar64 rfl rfl rfl rfl ⟨by omega, by omega⟩) ?_
  refine ASeq.gq _ _ rfl rfl rfl rfl (QOp.cmp rfl rfl rfl rfl) ?_
  refine ASeq.slot 101 rfl (v' := .v (.bool true)) (by rw [q2]; exact .refl _) ?_
  refine ASeq.q rfl rfl (QOp.pickT rfl rfl rfl) ?_
  refine ASeq.q rfl rfl (QOp.assign rfl rfl) ?_
  refine ASeq.nil ?_
  refine ACode.ret ?_
  refine bodyQ_ret 0 (.tmp rfl .nil) rfl ?_
  exact .mk
end Go.Proofs.Ytaadamobapnfbaa
