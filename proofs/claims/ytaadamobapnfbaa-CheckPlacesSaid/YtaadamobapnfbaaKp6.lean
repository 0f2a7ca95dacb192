/- Own texts, put together by a program: U0 U1 U2 Th V0 V1 V2. -/
import Derived.Shelf.Bits.Mul64
import Derived.Test.YtaadamobapnfbaaProg
import Derived.Test.YtaadamobapnfbaaKp5
set_option linter.unusedVariables false
namespace Go.Proofs
open Go.Shelf
def Try.lays212_ren : Go.Shelf.Ren := ⟨fun | 212 => 81 | 263 => 102 | 264 => 103 | n => n, fun | 46 => 139 | 51 => 165 | 53 => 167 | 146 => 171 | 148 => 173 | n => n, fun | n => n⟩
theorem Try.lays212 : Go.Proofs.Lays.n212 Try.prog Try.lays212_ren := {
  mixed := by kernel_rfl
  f212 := Try.func81.trans (congrArg some (by kernel_rfl))
  f263 := Try.func102.trans (congrArg some (by kernel_rfl))
  f264 := Try.func103.trans (congrArg some (by kernel_rfl))
  t46 := by kernel_rfl
  a46 := fun w => by kernel_rfl
  z46 := fun w => by kernel_rfl
  v46 := fun w => by kernel_rfl
  t51 := by kernel_rfl
  a51 := fun w => by kernel_rfl
  z51 := fun w => by kernel_rfl
  v51 := fun w => by kernel_rfl
  t53 := by kernel_rfl
  a53 := fun w => by kernel_rfl
  z53 := fun w => by kernel_rfl
  v53 := fun w => by kernel_rfl
  t146 := by kernel_rfl
  a146 := fun w => by kernel_rfl
  z146 := fun w => by kernel_rfl
  v146 := fun w => by kernel_rfl
  t148 := by kernel_rfl
  a148 := fun w => by kernel_rfl
  z148 := fun w => by kernel_rfl
  v148 := fun w => by kernel_rfl }
end Go.Proofs
namespace Go.Proofs.Ytaadamobapnfbaa
open Go Go.Abs
theorem mul81 (n : Nat) (hn : n < 18446744073709551616) : ACalls Try.prog 81 [.v (.int .u64 1), .v (.int .u64 n)] [] (RV (.tup [.v (.int .u64 0), .v (.int .u64 n)]) []) := by
  intro G W cargs hO hR
  obtain ⟨c1, h1, r1⟩ := hR.2 0 _ rfl
  obtain ⟨c2, h2, r2⟩ := hR.2 1 _ rfl
  have e1 := r1.v_inv
  have e2 := r2.v_inv
  subst e1; subst e2
  have hc : cargs = #[.int .u64 1, .int .u64 n] := by
    have hs := hR.1
    apply Array.ext'
    apply List.ext_getElem?
    intro i
    match i with
    | 0 => simpa using h1
    | 1 => simpa using h2
    | i + 2 => simp at hs; simp; omega
  subst hc
  have := Any.bits_Mul Try.lays212 1 n (by decide) hn W
  rw [Nat.one_mul, Nat.div_eq_of_lt hn, Nat.mod_eq_of_lt hn] at this
  refine this.mono ?_
  rintro e w ⟨rfl, rfl⟩
  refine ⟨G, [], _, .refl G [] w, hO, ?_, .mk⟩
  refine Reps.tup ⟨rfl, fun i x hx => ?_⟩
  match i, hx with
  | 0, hx => injection hx with hx; subst hx; exact ⟨_, rfl, .v⟩
  | 1, hx => injection hx with hx; subst hx; exact ⟨_, rfl, .v⟩
end Go.Proofs.Ytaadamobapnfbaa
set_option linter.unusedVariables false
set_option linter.unusedSimpArgs false
set_option maxRecDepth 100000
namespace Go.Proofs.Ytaadamobapnfbaa
open Go Go.Abs
theorem tok139 : TOK Try.prog 139 ⟨1, 8, [.int .u64 0], .int .u64⟩ := ⟨by kernel_rfl, by kernel_rfl⟩
theorem splice_rep {α : Type} (a b : α) (k d n : Nat) (h : k + d ≤ n) : spliceO k (List.replicate d a) (List.replicate k a ++ List.replicate (n - k) b) = some (List.replicate (k + d) a ++ List.replicate (n - (k + d)) b) := by
  have e : List.replicate (n - k) b = List.replicate d b ++ List.replicate (n - (k + d)) b := by rw [List.replicate_append_replicate]; congr 1; omega
  have := splice_append (List.replicate k a) (List.replicate d a) (List.replicate d b) (List.replicate (n - (k + d)) b) (by simp)
  rw [List.length_replicate, List.append_assoc, ← e, List.replicate_append_replicate] at this
  exact this
theorem flat_rep {α : Type} (x : α) : ∀ n, (List.replicate n [x]).flatten = List.replicate n x
  | 0 => rfl
  | n + 1 => by rw [List.replicate_succ, List.flatten_cons, flat_rep x n]; rfl
inductive RRep (n : Nat) : AOut → List Abs.Item → Prop
  | mk (m : Nat) : RRep n (.ret (.sl 1 m 0 n)) [.mu m (List.replicate n (vi (-1)))]
theorem RRep.of {n m : Nat} {cells : List AV} (h : cells = List.replicate n (vi (-1))) : RRep n (.ret (.sl 1 m 0 n)) [.mu m cells] := by subst h; exact .mk m
theorem repeat60 (n : Nat) (hn : n ≤ 1048576) (tk : Option Nat) : ACalls Try.prog 60 [.il 1 tk [[vi (-1)]], vi n] [] (RRep n) := by
  have hw : IntKind.u64.wrap (n : Int) = n := by rw [IntKind.wrap_u64]; omega
  have hw2 : IntKind.i64.wrap (n : Int) = n := IntWalk.i64_in n ⟨by omega, by omega⟩
  refine ACalls.of_code (c := _) Try.func60 rfl Try.ntmps60 (Nat.le_of_ble_eq_true rfl) ?_
  refine ACode.seq (ACode.region ?_)
  refine ASeq.q rfl rfl (QOp.assign rfl rfl) ?_
  refine ASeq.nil ?_
  refine ACode.seq (ACode.seq (ACode.region ?_))
  refine ASeq.q rfl rfl (QOp.move rfl rfl) ?_
  refine ASeq.q rfl rfl (QOp.cmp rfl rfl rfl rfl) ?_
  refine ASeq.nil ?_
  refine AExit.then_normal ?_
  refine ACode.cond _ rfl (fun hb => by have := of_decide_eq_true hb; omega) (fun _ => ?_)
  refine ACode.skip (ACode.seq (ACode.region ?_))
  refine ASeq.q rfl rfl (QOp.move rfl rfl) ?_
  refine ASeq.q rfl rfl (QOp.lenI rfl rfl (tok _ rfl) rfl) ?_
  refine ASeq.q rfl rfl (QOp.conv (m := 1) rfl rfl tok139 rfl (tok _ rfl) (by decide)) ?_
  refine ASeq.q rfl rfl (QOp.move rfl rfl) ?_
  refine ASeq.q rfl rfl (QOp.conv rfl rfl tok139 rfl (tok _ rfl) hw) ?_
  refine ASeq.op rfl rfl (AOp.callP 0 rfl (by kernel_rfl) rfl rfl rfl (mul81 n (by omega)) ?_ (by rintro _ _ ⟨⟩))
  rintro _ _ ⟨⟩
  refine ASeq.q rfl rfl (QOp.move rfl rfl) ?_
  refine ASeq.q rfl rfl (QOp.extract rfl rfl rfl) ?_
  refine ASeq.q rfl rfl (QOp.extract rfl rfl rfl) ?_
  refine ASeq.q rfl rfl (QOp.assign rfl rfl) ?_
  refine ASeq.q rfl rfl (QOp.assign rfl rfl) ?_
  refine ASeq.nil ?_
  refine ACode.seq (ACode.seq (ACode.region ?_))
  refine ASeq.q rfl rfl (QOp.move rfl rfl) ?_
  refine ASeq.q rfl rfl (QOp.cmp rfl rfl rfl rfl) ?_
  refine ASeq.q rfl rfl (QOp.move rfl rfl) ?_
  refine ASeq.gq _ _ rfl rfl rfl rfl (QOp.move rfl rfl) ?_
  refine ASeq.gq _ _ rfl rfl rfl rfl (QOp.cmp rfl rfl rfl rfl) ?_
  refine ASeq.q rfl rfl (QOp.pickF rfl rfl rfl) ?_
  refine ASeq.nil ?_
  refine AExit.then_normal ?_
  refine ACode.cond _ rfl (fun hb => by have := of_decide_eq_true hb; omega) (fun _ => ?_)
  refine ACode.skip (ACode.seq (ACode.region ?_))
  refine ASeq.q rfl rfl (QOp.move rfl rfl) ?_
  refine ASeq.q rfl rfl (QOp.conv rfl rfl (tok _ rfl) rfl tok139 hw2) ?_
  refine ASeq.op rfl rfl (AOp.makeP (n := n) rfl rfl rfl (tok _ rfl) rfl (tok _ rfl) (by decide) rfl rfl (fun _ => rfl) (by omega) rfl (fun m => ?_))
  have hz : (List.replicate n ((TT 3).zero.map AV.v)).flatten = List.replicate n (vi 0) := flat_rep _ n
  rw [hz]
  refine ASeq.q rfl rfl (QOp.assign rfl rfl) ?_
  refine ASeq.nil ?_
  refine ACode.seq (ACode.region ?_)
  refine ASeq.q rfl rfl (QOp.move rfl rfl) ?_
  refine ASeq.q rfl rfl (QOp.move rfl rfl) ?_
  have hs0 : spliceO 0 (([[vi (-1)]] : List (List AV)).flatten.take (Nat.min 1 n)) (List.replicate n (vi 0)) = some (List.replicate (Nat.min 1 n) (vi (-1)) ++ List.replicate (n - Nat.min 1 n) (vi 0)) := by
    have := splice_rep (vi (-1)) (vi 0) 0 (Nat.min 1 n) n (by rw [Nat.zero_add]; exact Nat.min_le_right 1 n)
    rw [Nat.zero_add] at this
    have e : ([[vi (-1)]] : List (List AV)).flatten.take (Nat.min 1 n) = List.replicate (Nat.min 1 n) (vi (-1)) := by
      rcases n with _ | n
      · rfl
      · rw [show Nat.min 1 (n + 1) = 1 from Nat.min_eq_left (by omega)]; rfl
    rw [e]; simpa using this
  have hnl : (([[vi (-1)]] : List (List AV)).flatten.take (Nat.min 1 n)).length = Nat.min 1 n := by
    rw [List.length_take]; exact Nat.min_eq_left (Nat.min_le_left 1 n)
  refine ASeq.op rfl rfl (AOp.copy1 [] [] (sl := 1) (n := Nat.min 1 n) rfl rfl rfl rfl (tok _ rfl) rfl (tok _ rfl) rfl (fun G W c hO h => by
    obtain ⟨a, sc, e, hh⟩ := copy_il (n := Nat.min 1 n) hO h
    exact ⟨a, sc, e, fun hp => hh hp (by decide)⟩) rfl hnl hs0 ?_)
  refine ASeq.q rfl rfl (QOp.assign rfl rfl) ?_
  refine ASeq.nil ?_
  refine ACode.seq (ACode.block ?_)
  refine ACode.loopP (fun (k : Nat) => [(7, .sl 1 m 0 n), (8, vi k)]) (fun k => [.mu m (List.replicate k (vi (-1)) ++ List.replicate (n - k) (vi 0))]) (fun k => n - k) (fun k => k ≤ n ∧ (0 < n → 0 < k)) (Nat.min 1 n) ⟨Nat.min_le_right _ _, fun h => by rw [show Nat.min 1 n = 1 from Nat.min_eq_left (by omega)]; decide⟩
    (.cons rfl (.cons rfl .nil)) 1 rfl ?_
  rintro k ⟨hk, hk0⟩
  refine ACode.seq (ACode.seq (ACode.region ?_))
  refine ASeq.q rfl rfl (QOp.move rfl rfl) ?_
  refine ASeq.q rfl rfl (QOp.move rfl rfl) ?_
  refine ASeq.q rfl rfl (QOp.lenM rfl rfl (tok _ rfl) rfl) ?_
  refine ASeq.q rfl rfl (QOp.cmp rfl rfl rfl rfl) ?_
  refine ASeq.nil ?_
  refine ACode.cond _ rfl (fun hb => ?_) (fun hb => ?_)
  · have hlt : k < n := by have := of_decide_eq_true hb; omega
    have hkp := hk0 (by omega)
    obtain ⟨d, hd⟩ : ∃ d, d = Nat.min k (n - k) := ⟨_, rfl⟩
    have hmin1 : d ≤ k := by rw [hd]; exact Nat.min_le_left k (n - k)
    have hmin2 : d ≤ n - k := by rw [hd]; exact Nat.min_le_right k (n - k)
    have hminp : 0 < d := by rw [hd]; exact Nat.lt_min.2 ⟨hkp, by omega⟩
    have hs1 : spliceO (0 + ((k : Int)).toNat) (((List.replicate k (vi (-1)) ++ List.replicate (n - k) (vi 0)).drop 0).take d) (List.replicate k (vi (-1)) ++ List.replicate (n - k) (vi 0)) = some (List.replicate (k + d) (vi (-1)) ++ List.replicate (n - (k + d)) (vi 0)) := by
      have := splice_rep (vi (-1)) (vi 0) k d n (by omega)
      rw [List.drop_zero, List.take_append_of_le_length (by rw [List.length_replicate]; exact hmin1), List.take_replicate, Nat.min_eq_left hmin1, Int.toNat_natCast, Nat.zero_add]
      exact this
    have hnl : (((List.replicate k (vi (-1)) ++ List.replicate (n - k) (vi 0)).drop 0).take d).length = d := by
      rw [List.length_take, List.drop_zero, List.length_append, List.length_replicate]; exact Nat.min_eq_left (Nat.le_trans hmin1 (Nat.le_add_right _ _))
    refine ACode.skip (ACode.block ?_)
    refine ACode.drawn [[], [], [], [1, 2], [], [], [4, 5], [1, 2, 3, 4, 5, 6], [0, 1, 2, 3, 4, 5, 6, 7], [0, 1, 2, 3, 4, 5, 6, 7, 8]] (by kernel_rfl) mixed ?_
    refine DAny.qu 0 rfl rfl (by kernel_rfl) rfl (fun _ => .does _ _ rfl (.none rfl) (QOp.move rfl rfl)) ?_
    refine DAny.qu 1 rfl rfl (by kernel_rfl) rfl (fun _ => .does _ _ rfl (.none rfl) (QOp.move rfl rfl)) ?_
    refine DAny.qu 2 rfl rfl (by kernel_rfl) rfl (fun _ => .does _ _ rfl (.none rfl) (QOp.move rfl rfl)) ?_
    refine DAny.qu 3 rfl rfl (by kernel_rfl) rfl (fun _ => .does _ _ rfl (.none rfl) (QOp.cutLoM rfl rfl rfl (tok _ rfl) rfl (tok _ rfl) rfl (by omega) (by omega))) ?_
    refine DAny.qu 4 rfl rfl (by kernel_rfl) rfl (fun _ => .does _ _ rfl (.none rfl) (QOp.move rfl rfl)) ?_
    refine DAny.qu 5 rfl rfl (by kernel_rfl) rfl (fun _ => .does _ _ rfl (.none rfl) (QOp.move rfl rfl)) ?_
    refine DAny.qu 6 rfl rfl (by kernel_rfl) rfl (fun _ => .does _ _ rfl (.none rfl) (QOp.cutM rfl rfl rfl (tok _ rfl) rfl (tok _ rfl) (by omega) (by omega))) ?_
    -- STOP at effect 7 Go.Op.call { callee := Go.Callee.builtin Go.Builtin.copy, ar (listed 0,1,2,3,4,5,6)
    refine DAny.ef 7 rfl (by kernel_rfl) (.none rfl) rfl rfl (AOp.copy1 [] [] (sl := k) (n := d) rfl rfl rfl rfl (tok _ rfl) rfl (tok _ rfl) rfl (fun G W c hO h => by
      obtain ⟨a, sc, e, hh⟩ := copy_sl (n := d) hO (List.mem_singleton.2 rfl) h
      exact ⟨a, sc, e, fun hp => hh hp (by rw [Int.toNat_natCast]; exact hkp)⟩) (by rw [Int.toNat_natCast]; exact hd) hnl hs1 ⟨(by ((exact AllQ.nil))), ?_⟩)
    refine DAny.qu 8 rfl rfl (by kernel_rfl) rfl (fun _ => .does _ _ rfl (.none rfl) (QOp.ar64 rfl rfl rfl rfl ⟨by omega, by omega⟩)) ?_
    refine DAny.ef 9 rfl (by kernel_rfl) (.none rfl) rfl rfl (.q (QOp.assign rfl rfl) ⟨(by ((exact AllQ.nil))), ?_⟩)
    refine DAny.done (by kernel_rfl) ?_
    refine AExit.in_normal (AExit.then_normal ?_)
    refine ⟨k + d, 1, ⟨by omega, fun _ => by omega⟩, by show n - (k + d) < n - k; omega, ?_, rfl⟩
    exact .cons rfl (.consE rfl (by rw [Int.natCast_add]; rfl) .nil)
  · have hge : k = n := by have := of_decide_eq_false hb; omega
    subst hge
    refine ACode.exit (ACode.seq (ACode.region ?_))
    refine ASeq.q rfl rfl (QOp.move rfl rfl) ?_
    refine ASeq.q rfl rfl (QOp.assign rfl rfl) ?_
    refine ASeq.nil ?_
    refine ACode.ret ?_
    refine bodyQ_ret 1 (.tmp rfl .nil) rfl ?_
    exact RRep.of (by rw [Nat.sub_self]; simp)
end Go.Proofs.Ytaadamobapnfbaa
set_option linter.unusedVariables false
set_option linter.unusedSimpArgs false
set_option maxRecDepth 100000
namespace Go.Proofs.Ytaadamobapnfbaa
open Go Go.Abs
theorem none38 (n : Nat) (hn : n ≤ 1048576) : ACalls Try.prog 38 [vi n] [] (RRep n) := by
  refine ACalls.of_code (c := _) Try.func38 rfl Try.ntmps38 (Nat.le_of_ble_eq_true rfl) ?_
  repeat (first | (refine ACode.seq ?_) | (refine ACode.region ?_) | (refine ACode.ret ?_) | (refine ACode.skip ?_) | (refine ACode.exit ?_) | (refine ACode.block ?_) | (refine AExit.then_normal ?_) | (refine AExit.then_ret ?_) | (refine AExit.then_exit ?_) | (refine AExit.in_normal ?_) | (refine AExit.in_ret ?_) | (refine AExit.in_same ?_) | (refine AExit.in_other rfl ?_) | (refine ASeq.nil ?_))
  refine ASeq.q rfl rfl (QOp.assign rfl rfl) ?_
  refine ASeq.nil ?_
  repeat (first | (refine ACode.seq ?_) | (refine ACode.region ?_) | (refine ACode.ret ?_) | (refine ACode.skip ?_) | (refine ACode.exit ?_) | (refine ACode.block ?_) | (refine AExit.then_normal ?_) | (refine AExit.then_ret ?_) | (refine AExit.then_exit ?_) | (refine AExit.in_normal ?_) | (refine AExit.in_ret ?_) | (refine AExit.in_same ?_) | (refine AExit.in_other rfl ?_) | (refine ASeq.nil ?_))
  refine ASeq.op rfl rfl (AOp.buildSliceR rfl (tok _ rfl) rfl (tok _ rfl) (by decide) rfl (by decide) rfl rfl rfl rfl ?_)
  refine ASeq.q rfl rfl (QOp.move rfl rfl) ?_
  refine ASeq.op rfl rfl (AOp.callP 0 rfl (by kernel_rfl) rfl rfl rfl (repeat60 n hn none) ?_ (by rintro _ _ ⟨⟩))
  rintro _ _ ⟨m⟩
  refine ASeq.q rfl rfl (QOp.assign rfl rfl) ?_
  refine ASeq.nil ?_
  repeat (first | (refine ACode.seq ?_) | (refine ACode.region ?_) | (refine ACode.ret ?_) | (refine ACode.skip ?_) | (refine ACode.exit ?_) | (refine ACode.block ?_) | (refine AExit.then_normal ?_) | (refine AExit.then_ret ?_) | (refine AExit.then_exit ?_) | (refine AExit.in_normal ?_) | (refine AExit.in_ret ?_) | (refine AExit.in_same ?_) | (refine AExit.in_other rfl ?_) | (refine ASeq.nil ?_))
  refine bodyQ_ret 1 (.tmp rfl .nil) rfl ?_
  exact .mk m
end Go.Proofs.Ytaadamobapnfbaa
set_option linter.unusedVariables false
set_option linter.unusedSimpArgs false
set_option maxRecDepth 100000
namespace Go.Proofs.Ytaadamobapnfbaa
open Go Go.Abs
theorem cstmts : ∀ n, CCk n
  | 0 => fun c k z i hz ho h0 hp hw hw2 hi0 hi1 hin => absurd hin (by omega)
  | n + 1 => cstmt_ok n (cstmts n)
theorem Stk.pars (fr : Int) : ∀ (l : List ByteArray) (c : CS), Stk c (parsOf fr l c)
  | [], c => .refl c
  | p :: l, c => by
    have h1 : Stk c (if c.code = 0 then (c.decl p 1 fr).1 else c) := by
      split
      · exact .decl _ _ _ _
      · exact .refl _
    exact h1.trans (Stk.pars fr l _)
theorem Stk.body : ∀ (l : List Int) (c : CS), Stk c (bodyOf l c)
  | [], c => .refl c
  | k :: l, c => (Stk.stm6 _ _ _).trans (Stk.body l _)
theorem Stk.funs : ∀ (i : Nat) (l : List Fu) (c : CS), Stk c (funs i l c)
  | i, [], c => .refl c
  | i, g :: l, c => by
    have h1 : Stk c { c with f := i, names := [], block := 0 } := fun _ => ⟨rfl, rfl⟩
    exact ((h1.trans (Stk.pars _ _ _)).trans (Stk.body _ _)).trans (Stk.funs (i + 1) l _)
theorem check_bad {t : Tree} {mI mA mE : Nat} {env : Env} {R : List Abs.Item} {cI : List AV} {a0 e0 : AV} {d : CS} (hI : cI.length = 5) (h2 : ev 95 env (.tmp 2) = some (.mp mI 0)) (h3 : ev 95 env (.tmp 3) = some (.mp mA 0)) (h4 : ev 95 env (.tmp 4) = some (.mp mE 0))
    (hsub : [Abs.Item.mu mI cI, .mu mA [a0], .mu mE [e0]].Sublist R) (hst : Stk d (checked t)) (hc : d.code ≠ 0) :
    dQ Try.prog 95 [.cell 2 56, .cell 3 3, .cell 4 57] 39 [.mp mI 0, .mp mA 0, .mp mE 0] (RK t) (.panic (wrongV d.at_ d.code)) env R := by
  obtain ⟨e1, e2⟩ := hst hc
  refine ADefer.sub R (List.Perm.refl _) hsub (catch_some mI mA mE cI hI a0 e0 _ _ _ fun it => ?_)
  refine ⟨_, _, [], .cell 0 h2 rfl (tok _ rfl) rfl (.cell 1 h3 rfl (tok _ rfl) rfl (.cell 2 h4 rfl (tok _ rfl) rfl .nil)), List.Perm.refl _, List.nil_sublist _, ?_⟩
  have := RK.bad (t := t) (by rw [e1]; exact hc)
  rw [e1, e2] at this
  exact this
theorem ckz_enter (c : CS) (i mZ τ τz : Nat) : Ckz (c.enter i) { mZ := mZ, τ := τ, τz := τz, zs := [], top := [] } := by
  refine ⟨rfl, rfl, ?_, ?_, ?_, Nat.zero_le _⟩
  · intro n hn; simp at hn
  · intro n hn; simp at hn
  · intro l hl
    have : l = [] := by simpa [Zt.all] using hl
    subst this; exact List.Pairwise.nil
def ckHead (c : CS) (k : Mk) (τ mI mA mE : Nat) : List Abs.Item :=
  [.mu k.mC (ckCellsS c k .any), .mu k.mT (c.type.map vi), .mu k.mS (c.slot.map vi), .mu k.mP (c.put.map vi), .mu k.mF (c.func.map vi), .mu k.mL (c.slotCells τ), .tk τ, .mu mI [nilv, nilv, nilv, nilv, nilv], .mu mA [vi 0], .mu mE [vi 0]]
set_option maxHeartbeats 16000000 in
theorem check24_ok (t : Tree) (h : TreeOk t) (hx : TreeX t) (hsl : t.stmts.length ≤ 1000000) : ACalls Try.prog 24 [.agg t.cells] [] (RK t) := by
  have hEl : (t.exprs.map Ex.cells).length = t.exprs.length := List.length_map ..
  have hSl : (t.stmts.map St.cells).length = t.stmts.length := List.length_map ..
  have hFl : (t.funcs.map Fu.cells).length = t.funcs.length := List.length_map ..
  have hbig := h.big
  refine ACalls.of_codeD (c := _) Try.func24 rfl Try.ntmps24 (Nat.le_of_ble_eq_true rfl) ?_
  refine ZCode.seq ?_
  refine ACode.region ?_
  refine ASeq.op rfl rfl (AOp.boxI rfl rfl rfl ?_)
  refine ASeq.op rfl rfl (AOp.allocP rfl (tok _ rfl) rfl rfl (fun _ => rfl) (fun _ => ?_))
  refine ASeq.op rfl rfl (AOp.allocP rfl (tok _ rfl) rfl rfl (fun _ => rfl) (fun _ => ?_))
  refine ASeq.op rfl rfl (AOp.allocP rfl (tok _ rfl) rfl rfl (fun _ => rfl) (fun _ => ?_))
  refine ASeq.nil ?_
  refine ⟨rfl, ?_⟩
  rename_i mI mA mE
  refine ZCode.seq ?_
  refine ACode.drawn [[], [], [1], [1, 2], [1, 2, 3], [], [5], [5, 6], [5, 6, 7], [], [9], [9, 10], [5, 6, 7, 8, 9, 10, 11], [], [13], [13, 14], [13, 14, 15], [], [17], [17, 18], [17, 18, 19], [1, 2, 3, 4, 5, 6, 7, 8, 9, 10, 11, 12, 13, 14, 15, 16, 17, 18, 19, 20], [0, 1, 2, 3, 4, 5, 6, 7, 8, 9, 10, 11, 12, 13, 14, 15, 16, 17, 18, 19, 20, 21], [0, 1, 2, 3, 4, 5, 6, 7, 8, 9, 10, 11, 12, 13, 14, 15, 16, 17, 18, 19, 20, 21, 22], [0, 1, 2, 3, 4, 5, 6, 7, 8, 9, 10, 11, 12, 13, 14, 15, 16, 17, 18, 19, 20, 21, 22, 23]] (by kernel_rfl) mixed ?_
  refine DAny.qu 0 rfl rfl (by kernel_rfl) rfl (fun _ => .does _ _ rfl (.none rfl) (QOp.loadI rfl rfl (tok _ rfl) rfl)) ?_
  refine DAny.qu 1 rfl rfl (by kernel_rfl) rfl (fun _ => .does _ _ rfl (.none rfl) (QOp.fieldI rfl rfl (tok _ rfl) rfl rfl (by decide) rfl)) ?_
  refine DAny.qu 2 rfl rfl (by kernel_rfl) rfl (fun _ => .does _ _ rfl (.none rfl) (QOp.loadI rfl rfl (tok _ rfl) rfl)) ?_
  refine DAny.qu 3 rfl rfl (by kernel_rfl) rfl (fun _ => .does _ _ rfl (.none rfl) (QOp.lenI rfl rfl (tok _ rfl) rfl)) ?_
  refine DAny.qu 5 rfl rfl (by kernel_rfl) rfl (fun _ => .does _ _ rfl (.none rfl) (QOp.fieldI rfl rfl (tok _ rfl) rfl rfl (by decide) rfl)) ?_
  refine DAny.qu 6 rfl rfl (by kernel_rfl) rfl (fun _ => .does _ _ rfl (.none rfl) (QOp.loadI rfl rfl (tok _ rfl) rfl)) ?_
  refine DAny.qu 7 rfl rfl (by kernel_rfl) rfl (fun _ => .does _ _ rfl (.none rfl) (QOp.lenI rfl rfl (tok _ rfl) rfl)) ?_
  refine DAny.qu 9 rfl rfl (by kernel_rfl) rfl (fun _ => .does _ _ rfl (.none rfl) (QOp.fieldI rfl rfl (tok _ rfl) rfl rfl (by decide) rfl)) ?_
  refine DAny.qu 10 rfl rfl (by kernel_rfl) rfl (fun _ => .does _ _ rfl (.none rfl) (QOp.loadI rfl rfl (tok _ rfl) rfl)) ?_
  refine DAny.qu 11 rfl rfl (by kernel_rfl) rfl (fun _ => .does _ _ rfl (.none rfl) (QOp.lenI rfl rfl (tok _ rfl) rfl)) ?_
  refine DAny.qu 13 rfl rfl (by kernel_rfl) rfl (fun _ => .does _ _ rfl (.none rfl) (QOp.fieldI rfl rfl (tok _ rfl) rfl rfl (by decide) rfl)) ?_
  refine DAny.qu 14 rfl rfl (by kernel_rfl) rfl (fun _ => .does _ _ rfl (.none rfl) (QOp.loadI rfl rfl (tok _ rfl) rfl)) ?_
  refine DAny.qu 15 rfl rfl (by kernel_rfl) rfl (fun _ => .does _ _ rfl (.none rfl) (QOp.lenI rfl rfl (tok _ rfl) rfl)) ?_
  refine DAny.qu 17 rfl rfl (by kernel_rfl) rfl (fun _ => .does _ _ rfl (.none rfl) (QOp.fieldI rfl rfl (tok _ rfl) rfl rfl (by decide) rfl)) ?_
  refine DAny.qu 18 rfl rfl (by kernel_rfl) rfl (fun _ => .does _ _ rfl (.none rfl) (QOp.loadI rfl rfl (tok _ rfl) rfl)) ?_
  refine DAny.qu 19 rfl rfl (by kernel_rfl) rfl (fun _ => .does _ _ rfl (.none rfl) (QOp.lenI rfl rfl (tok _ rfl) rfl)) ?_
  -- STOP at effects [4, 8, 16, 20] (listed 0,1,2,3,5,6,7,9,10,11,13,14,15,17,18,19)
  refine DAny.meet (α := Nat × Nat × Nat × Nat × Nat) 4 #[true, true, true, true, true, true, true, true, true, true, true, true, true, true, true, true, true, true, true, true, true, false, false, false, false] (fun a => match a with | (mT, mS, mP, mF, mL) => [(1, .ip t.cells), (2, .mp mI 0), (3, .mp mA 0), (4, .mp mE 0), (12, .agg t.cells), (15, vi ((t.exprs.map Ex.cells).length : Int)), (19, vi ((t.exprs.map Ex.cells).length : Int)), (23, vi ((t.stmts.map St.cells).length : Int)), (27, vi ((t.stmts.map St.cells).length : Int)), (31, vi ((t.funcs.map Fu.cells).length : Int)), (16, .sl 1 mT 0 (t.exprs.map Ex.cells).length), (20, .sl 1 mS 0 (t.exprs.map Ex.cells).length), (24, .sl 1 mP 0 (t.stmts.map St.cells).length), (28, .sl 1 mF 0 (t.stmts.map St.cells).length), (32, .sl 1 mL 0 (t.funcs.map Fu.cells).length)]) (fun a => match a with | (mT, mS, mP, mF, mL) => [.mu mI [nilv, nilv, nilv, nilv, nilv], .mu mA [vi 0], .mu mE [vi 0], .mu mT (List.replicate (t.exprs.map Ex.cells).length (List.map AV.v (TT 3).zero)).flatten, .mu mS (List.replicate (t.exprs.map Ex.cells).length (vi (-1))), .mu mP (List.replicate (t.stmts.map St.cells).length (vi (-1))), .mu mF (List.replicate (t.stmts.map St.cells).length (List.map AV.v (TT 3).zero)).flatten, .mu mL (List.replicate (t.funcs.map Fu.cells).length (List.map AV.v (TT 30).zero)).flatten]) (fun hTSPFL => ?_) ?_
  rotate_left
  · rintro ⟨mT, mS, mP, mF, mL⟩
    refine DAny.qu 21 rfl rfl (by kernel_rfl) rfl (fun _ => .does _ _ rfl (.none rfl) (QOp.build rfl (tok _ rfl) rfl rfl rfl rfl rfl)) ?_
    refine DAny.qu 22 rfl rfl (by kernel_rfl) rfl (fun _ => .does _ _ rfl (.none rfl) (QOp.build rfl (tok _ rfl) rfl rfl rfl rfl rfl)) ?_
    refine DAny.ef 23 rfl (by kernel_rfl) (.none rfl) rfl rfl (AOp.boxP rfl rfl rfl (fun _ => rfl) (fun _ => ⟨(by ((exact AllQ.nil))), ?_⟩))
    refine DAny.ef 24 rfl (by kernel_rfl) (.none rfl) rfl rfl (.q (QOp.assign rfl rfl) ⟨(by ((exact AllQ.nil))), ?_⟩)
    refine DAny.done (by kernel_rfl) ?_
    refine ⟨rfl, ?_⟩
    rename_i mC
    refine ZCode.defers rfl rfl rfl rfl rfl rfl (by decide) rfl (by kernel_rfl) (fun d => ?_)
    refine ACode.newTok (fun τ => ?_)
    obtain ⟨k, rfl, rfl, rfl, rfl, rfl, rfl⟩ : ∃ k : Mk, k.mC = mC ∧ k.mT = mT ∧ k.mS = mS ∧ k.mP = mP ∧ k.mF = mF ∧ k.mL = mL := ⟨⟨mC, mT, mS, mP, mF, mL⟩, rfl, rfl, rfl, rfl, rfl, rfl⟩
    have hlT : (c0 t).type.length = (t.exprs.map Ex.cells).length := by rw [hEl]; simp [c0]
    have hlS : (c0 t).slot.length = (t.exprs.map Ex.cells).length := by rw [hEl]; simp [c0]
    have hlP : (c0 t).put.length = (t.stmts.map St.cells).length := by rw [hSl]; simp [c0]
    have hlF : (c0 t).func.length = (t.stmts.map St.cells).length := by rw [hSl]; simp [c0]
    have hlL : (c0 t).slots.length = (t.funcs.map Fu.cells).length := by rw [hFl]; simp [c0]
    refine ACode.cells (cells' := ckCellsS (c0 t) k .any) [_, _, _, _, _, _, _, _] [_] rfl ?_ ?_
    · simp only [ckCellsS, hlT, hlS, hlP, hlF, hlL]
      exact .cons (.refl _) (.cons (.refl _) (.cons (.refl _) (.cons (.refl _) (.cons (.refl _) (.cons (.refl _) (.cons (.refl _) (.cons (.refl _) (.cons (.refl _) (.cons (.any _) (.cons (.refl _) .nil))))))))))
    have e1 : (List.replicate (t.exprs.map Ex.cells).length (List.map AV.v (TT 3).zero)).flatten = (c0 t).type.map vi := by
      rw [hEl]; show (List.replicate t.exprs.length [vi 0]).flatten = _; rw [flat_rep]; simp [c0]
    have e2 : List.replicate (t.exprs.map Ex.cells).length (vi (-1)) = (c0 t).slot.map vi := by rw [hEl]; simp [c0]
    have e3 : List.replicate (t.stmts.map St.cells).length (vi (-1)) = (c0 t).put.map vi := by rw [hSl]; simp [c0]
    have e4 : (List.replicate (t.stmts.map St.cells).length (List.map AV.v (TT 3).zero)).flatten = (c0 t).func.map vi := by
      rw [hSl]; show (List.replicate t.stmts.length [vi 0]).flatten = _; rw [flat_rep]; simp [c0]
    refine ACode.cells (cells' := (c0 t).slotCells τ) [_, _, _, _, _, _, _] [_, _] rfl ?_ ?_
    · rw [hFl]
      show LeL (List.replicate t.funcs.length [nilv]).flatten _
      rw [flat_rep]
      exact nils_le τ _
    rw [e1, e2, e3, e4]
    refine ACode.items (R' := ckHead (c0 t) k τ mI mA mE) _ ((List.perm_append_comm (l₁ := [_, _, _]) (l₂ := [_, _, _, _, _, _, _])).trans (List.perm_middle (l₁ := [_, _, _, _, _]) (l₂ := [_, _, _, _]))) (List.Sublist.refl _) ?_
    clear hlT hlS hlP hlF hlL e1 e2 e3 e4
    have hst0 : Stk (faceOf (dups [] (c0 t).t.funcs (c0 t))) (checked t) := Stk.funs 0 t.funcs _
    have hpre := pre0 t
    have hck : checked t = funs 0 t.funcs (faceOf (dups [] (c0 t).t.funcs (c0 t))) := rfl
    refine ACode.seq (ACode.region ?_)
    refine ASeq.q rfl rfl (QOp.move rfl rfl) ?_
    refine ASeq.op rfl rfl (AOp.callP 1 rfl (by kernel_rfl) rfl rfl rfl (cfaces_ok (c0 t) k .any rfl h.some hbig.2.2) ?_ ?_)
    rotate_left
    · (rintro _ _ (⟨⟩ | ⟨hbad, R⟩); simp only [AExit.then, AExit.inBlock]; exact check_bad rfl rfl rfl rfl (List.sublist_append_of_sublist_right (List.sublist_append_right [_, _, _, _, _, _] _)) hst0 hbad)
    rintro _ _ ⟨hc, he⟩
    refine ASeq.nil ?_
    rw [he] at hck hst0
    rw [show faceOf (dups [] t.funcs (c0 t)) = c0 t from he] at hpre
    have hp0 : PutOk (c0 t) := by
      intro j s hj _ hl
      have hl : j < (List.replicate t.stmts.length (-1 : Int)).length := hl
      show (List.replicate t.stmts.length (-1 : Int))[j]? = _
      rw [List.getElem?_replicate, if_pos (by simpa using hl)]
    refine ACode.seq (ACode.seq (ACode.region ?_))
    refine ASeq.q rfl rfl (QOp.move rfl rfl) ?_
    refine ASeq.q rfl rfl (QOp.nilCheckM rfl rfl) ?_
    refine ASeq.q rfl rfl (QOp.fieldM rfl rfl (tok _ rfl) rfl rfl (by decide) rfl) ?_
    refine ASeq.q rfl rfl (QOp.fieldM rfl rfl (tok _ rfl) rfl rfl (by decide) rfl) ?_
    refine ASeq.q rfl rfl (QOp.loadM 0 rfl rfl rfl (tok _ rfl) rfl) ?_
    refine ASeq.q rfl rfl (QOp.lenI rfl rfl (tok _ rfl) rfl) ?_
    refine ASeq.q rfl rfl (QOp.move rfl rfl) ?_
    refine ASeq.nil ?_
    refine ACode.block ?_
    refine ACode.loopP (fun (x : Nat × CS × Nat) => [(2, .mp mI 0), (3, .mp mA 0), (4, .mp mE 0), (5, .mp k.mC 0), (43, .il 6 none (t.funcs.map Fu.cells)), (44, vi ((t.funcs.map Fu.cells).length : Int)), (45, vi x.1)])
      (fun x => ckHead x.2.1 k x.2.2 mI mA mE) (fun x => t.funcs.length - x.1)
      (fun x => x.1 ≤ t.funcs.length ∧ x.2.1.code = 0 ∧ Pre t x.1 x.2.1 ∧ PutOk x.2.1 ∧ funs x.1 (t.funcs.drop x.1) x.2.1 = checked t) (0, c0 t, τ) ⟨Nat.zero_le _, rfl, hpre, hp0, hck.symm⟩
      (.cons rfl (.cons rfl (.cons rfl (.cons rfl (.cons rfl (.cons rfl (.cons rfl .nil))))))) 10 rfl ?_
    clear hck hst0 hpre hp0 he hc
    rintro ⟨i, c, τ⟩ ⟨hi, hc0, hpre, hpc, hres⟩
    dsimp only at hi hc0 hpre hpc hres
    have hct := hpre.tt
    refine ACode.seq (ACode.region ?_)
    refine ASeq.q rfl rfl (QOp.cmp rfl rfl rfl rfl) ?_
    refine ASeq.nil ?_
    refine ACode.seq ?_
    refine ACode.cond _ rfl (fun hb => ?_) (fun hb => ?_)
    · have hlt : i < t.funcs.length := by have := of_decide_eq_true hb; rw [hFl] at this; omega
      have hgi := fu_at hlt
      have hok := hpre.enter hlt hbig
      have hle := enter_le hpre hlt τ
      rw [funs_drop _ _ _ hlt] at hres
      have hfu := h.fu _ (List.getElem_mem hlt)
      have hpe : PutOk (c.enter i) := hpc.same rfl rfl
      have hce : (c.enter i).code = 0 := hc0
      have hct2 : (c.enter i).t = t := hct
      generalize t.funcs[i] = g at *
      refine ACode.skip (ACode.seq (ACode.block (ACode.seq (ACode.region ?_))))
      refine ASeq.q rfl rfl (QOp.move rfl rfl) ?_
      refine ASeq.q rfl rfl (QOp.indexI rfl rfl rfl (tok _ rfl) rfl (tok _ rfl) (by omega) (by assumption)) ?_
      refine ASeq.q rfl rfl (QOp.loadI rfl rfl (tok _ rfl) rfl) ?_
      refine ASeq.op rfl rfl (AOp.allocP rfl (tok _ rfl) rfl rfl (fun _ => rfl) (fun _ => ?_))
      refine ASeq.q rfl rfl (QOp.assign rfl rfl) ?_
      refine ASeq.op0 rfl rfl (AOp.storeP 10 rfl rfl rfl rfl (tok _ rfl) rfl rfl rfl rfl ?_)
      refine ASeq.nil ?_
      rename_i m7
      refine ACode.seq (ACode.region ?_)
      refine ASeq.q rfl rfl (QOp.move rfl rfl) ?_
      refine ASeq.q rfl rfl (QOp.move rfl rfl) ?_
      refine ASeq.q rfl rfl (QOp.move rfl rfl) ?_
      refine ASeq.op rfl rfl (AOp.buildSliceM rfl (tok _ rfl) rfl (tok _ rfl) (by decide) rfl (by decide) rfl rfl rfl (fun mZ => ?_))
      refine ASeq.q rfl rfl (QOp.nilCheckM rfl rfl) ?_
      refine ASeq.q rfl rfl (QOp.fieldM rfl rfl (tok _ rfl) rfl rfl (by decide) rfl) ?_
      refine ASeq.op0 rfl rfl (AOp.storeP 0 rfl rfl rfl rfl (tok _ rfl) rfl rfl rfl rfl ?_)
      refine ASeq.q rfl rfl (QOp.nilCheckM rfl rfl) ?_
      refine ASeq.q rfl rfl (QOp.fieldM rfl rfl (tok _ rfl) rfl rfl (by decide) rfl) ?_
      refine ASeq.op0 rfl rfl (AOp.storeP 0 rfl rfl rfl rfl (tok _ rfl) rfl rfl rfl rfl ?_)
      refine ASeq.nil ?_
      refine ACode.newTok (fun τz => ?_)
      refine ACode.cells (cells' := (c.enter i).slotCells τ) [_, _, _, _, _] [_, _, _, _, _, _, _] rfl hle ?_
      refine ACode.cells (cells' := ({ mZ := mZ, τ := τ, τz := τz, zs := [], top := [] } : Zt).all.map zcell) [_, _, _, _, _, _, _, _, _, _, _] [_] rfl (.cons (.nilT 2 _) .nil) ?_
      refine ACode.cells (cells' := ckCells (c.enter i) k { mZ := mZ, τ := τ, τz := τz, zs := [], top := [] }) [] [_, _, _, _, _, _, _, _, _, _, _, _] rfl (LeL.refl _) ?_
      refine ACode.items (R' := ckItems (c.enter i) k { mZ := mZ, τ := τ, τz := τz, zs := [], top := [] } ++ [.mu mI [nilv, nilv, nilv, nilv, nilv], .mu mA [vi 0], .mu mE [vi 0], .mu m7 g.cells]) _ ((List.Perm.append_left [_] (List.perm_middle (l₁ := [_, _, _, _, _, _, _, _, _, _]) (l₂ := [_]))).trans (List.Perm.append_left [_, _, _, _, _, _, _, _] (List.perm_middle (l₁ := [_, _, _, _]) (l₂ := [])))) (List.Sublist.refl _) ?_
      have hz0 : Ckz (c.enter i) { mZ := mZ, τ := τ, τz := τz, zs := [], top := [] } := ckz_enter c i mZ τ τz
      clear hle
      refine ACode.seq (ACode.seq (ACode.region ?_))
      refine ASeq.q rfl rfl (QOp.fieldM rfl rfl (tok _ rfl) rfl rfl (by decide) rfl) ?_
      refine ASeq.q rfl rfl (QOp.loadM 12 rfl rfl rfl (tok _ rfl) rfl) ?_
      refine ASeq.q rfl rfl (QOp.lenI rfl rfl (tok _ rfl) rfl) ?_
      refine ASeq.q rfl rfl (QOp.move rfl rfl) ?_
      refine ASeq.nil ?_
      refine ACode.block ?_
      refine ACode.loopP (fun (x : Nat × CS × Zt) => [(2, .mp mI 0), (3, .mp mA 0), (4, .mp mE 0), (5, .mp k.mC 0), (43, .il 6 none (t.funcs.map Fu.cells)), (44, vi ((t.funcs.map Fu.cells).length : Int)), (45, vi i), (7, .mp m7 0), (59, .il 1 none (strs g.params)), (60, vi ((strs g.params).length : Int)), (61, vi x.1)])
        (fun x => ckItems x.2.1 k x.2.2 ++ [.mu mI [nilv, nilv, nilv, nilv, nilv], .mu mA [vi 0], .mu mE [vi 0], .mu m7 g.cells]) (fun x => g.params.length - x.1)
        (fun x => x.1 ≤ g.params.length ∧ x.2.1.code = 0 ∧ Ckz x.2.1 x.2.2 ∧ x.2.2.zs = [] ∧ KeptS (c.enter i) x.2.1 ∧ PutOk x.2.1 ∧ parsOf g.fr (g.params.drop x.1) x.2.1 = parsOf g.fr g.params (c.enter i))
        (0, c.enter i, { mZ := mZ, τ := τ, τz := τz, zs := [], top := [] }) ⟨Nat.zero_le _, hce, hz0, rfl, .refl _, hpe, rfl⟩ (.cons rfl (.cons rfl (.cons rfl (.cons rfl (.cons rfl (.cons rfl (.cons rfl (.cons rfl (.cons rfl (.cons rfl (.cons rfl (.nil)))))))))))) 13 rfl ?_
      clear hz0
      rintro ⟨q, d', z⟩ ⟨hq, hdc, hdz, hzs, hkd0, hdp, hres2⟩
      dsimp only at hq hdc hdz hzs hkd0 hdp hres2
      have hpl := strs_len g.params
      have okd := hkd0.ok hok
      refine ACode.seq (ACode.region ?_)
      refine ASeq.q rfl rfl (QOp.cmp rfl rfl rfl rfl) ?_
      refine ASeq.nil ?_
      refine ACode.seq ?_
      refine ACode.cond _ rfl (fun hb => ?_) (fun hb => ?_)
      · have hlq : q < g.params.length := by have := of_decide_eq_true hb; rw [hpl] at this; omega
        have hgq := strs_get hlq
        rw [pars_drop _ _ _ _ hlq, if_pos hdc] at hres2
        have hst : Stk (d'.decl g.params[q] 1 g.fr).1 (checked t) := by
          rw [← hres, ← hres2]
          exact ((Stk.pars _ _ _).trans (Stk.body _ _)).trans (Stk.funs _ _ _)
        have hdec := cdeclare_ok d' k z hdz okd hdc g.params[q] 1 g.fr g.to
        have hmore := fun τ τz (h : (d'.decl g.params[q] 1 g.fr).1.code = 0) => hdz.more hdc g.params[q] 1 g.fr τ τz h
        have hkd := KeptS.decl okd g.params[q] 1 g.fr
        have hpd := hdp.decl g.params[q] 1 g.fr
        generalize g.params[q] = p at *
        generalize d'.decl p 1 g.fr = w at *
        refine ACode.skip (ACode.seq (ACode.block (ACode.seq (ACode.region ?_))))
        refine ASeq.q rfl rfl (QOp.indexI rfl rfl rfl (tok _ rfl) rfl (tok _ rfl) (by omega) (by assumption)) ?_
        refine ASeq.q rfl rfl (QOp.loadI rfl rfl (tok _ rfl) rfl) ?_
        refine ASeq.q rfl rfl (QOp.assign rfl rfl) ?_
        refine ASeq.nil ?_
        refine ACode.region ?_
        refine ASeq.q rfl rfl (QOp.move rfl rfl) ?_
        refine ASeq.q rfl rfl (QOp.move rfl rfl) ?_
        refine ASeq.q rfl rfl (QOp.fieldM rfl rfl (tok _ rfl) rfl rfl (by decide) rfl) ?_
        refine ASeq.q rfl rfl (QOp.loadM 12 rfl rfl rfl (tok _ rfl) rfl) ?_
        refine ASeq.op rfl rfl (AOp.callP 9 rfl (by kernel_rfl) rfl rfl rfl (hdec) ?_ ?_)
        rotate_left
        · (rintro _ _ (⟨⟩ | ⟨hbad, R⟩); simp only [AExit.then, AExit.inBlock]; exact check_bad rfl rfl rfl rfl (List.sublist_append_of_sublist_right (List.sublist_append_left [_, _, _] [_])) hst hbad)
        rintro _ _ ⟨hc, τ', τz'⟩
        refine ASeq.nil ?_
        refine ACode.region ?_
        refine ASeq.q rfl rfl (QOp.ar64 rfl rfl rfl rfl ⟨by omega, by omega⟩) ?_
        refine ASeq.q rfl rfl (QOp.move rfl rfl) ?_
        refine ASeq.nil ?_
        refine AExit.then_normal ?_
        exact ⟨(q + 1, w.1, z.more τ' τz' ⟨p, d'.block, w.2⟩), 13, ⟨hlq, hc, hmore τ' τz' hc, hzs, hkd0.trans hkd, hpd, hres2⟩, by dsimp only; omega, .cons rfl (.cons rfl (.cons rfl (.cons rfl (.cons rfl (.cons rfl (.cons rfl (.cons rfl (.cons rfl (.cons rfl (.cons rfl (.nil))))))))))), rfl⟩
      have hge : q = g.params.length := by have := of_decide_eq_false hb; rw [hpl] at this; omega
      rw [hge, List.drop_length] at hres2
      simp only [parsOf] at hres2
      rw [← hres2] at hres
      clear hres2 hge hb
      refine ACode.exit (ACode.seq (ACode.region ?_))
      refine ASeq.q rfl rfl (QOp.fieldM rfl rfl (tok _ rfl) rfl rfl (by decide) rfl) ?_
      refine ASeq.q rfl rfl (QOp.loadM 12 rfl rfl rfl (tok _ rfl) rfl) ?_
      refine ASeq.q rfl rfl (QOp.lenI rfl rfl (tok _ rfl) rfl) ?_
      refine ASeq.q rfl rfl (QOp.move rfl rfl) ?_
      refine ASeq.nil ?_
      refine ACode.block ?_
      refine ACode.loopP (fun (x : Nat × CS × Zt) => [(2, .mp mI 0), (3, .mp mA 0), (4, .mp mE 0), (5, .mp k.mC 0), (43, .il 6 none (t.funcs.map Fu.cells)), (44, vi ((t.funcs.map Fu.cells).length : Int)), (45, vi i), (72, .il 1 none (ints g.body)), (73, vi ((ints g.body).length : Int)), (74, vi x.1)])
        (fun x => ckItems x.2.1 k x.2.2 ++ [.mu mI [nilv, nilv, nilv, nilv, nilv], .mu mA [vi 0], .mu mE [vi 0], .mu m7 g.cells]) (fun x => g.body.length - x.1)
        (fun x => x.1 ≤ g.body.length ∧ x.2.1.code = 0 ∧ Ckz x.2.1 x.2.2 ∧ x.2.2.zs = [] ∧ KeptS (c.enter i) x.2.1 ∧ PutOk x.2.1 ∧ bodyOf (g.body.drop x.1) x.2.1 = bodyOf g.body d')
        (0, d', z) ⟨Nat.zero_le _, hdc, hdz, hzs, hkd0, hdp, rfl⟩ (.cons rfl (.cons rfl (.cons rfl (.cons rfl (.cons rfl (.cons rfl (.cons rfl (.cons rfl (.cons rfl (.cons rfl (.nil))))))))))) 13 rfl ?_
      clear hdc hdz hzs hdp okd
      rintro ⟨q, e, z⟩ ⟨hq, hec, hez, hzs, hke, hep, hres2⟩
      dsimp only at hq hec hez hzs hke hep hres2
      have hbl := ints_len g.body
      have het : e.t = t := hke.t.trans hct
      have hel : e.loops = 0 := hke.loops.trans hpre.loops
      have hmax : smax = 1099511627776 := rfl
      have oke := hke.ok hok
      have hzl : z.zs.length = 0 := by rw [hzs]; rfl
      refine ACode.seq (ACode.region ?_)
      refine ASeq.q rfl rfl (QOp.cmp rfl rfl rfl rfl) ?_
      refine ASeq.nil ?_
      refine ACode.seq ?_
      refine ACode.cond _ rfl (fun hb => ?_) (fun hb => ?_)
      · have hlq : q < g.body.length := by have := of_decide_eq_true hb; rw [hbl] at this; omega
        have hgq := ints_get hlq
        have hm := hfu.2.2 _ (List.getElem_mem hlq)
        have hm0 := hm.1
        have hrow : (e.t.stmts.map St.cells)[g.body[q].toNat]? = some (e.stm g.body[q]).cells := st_get hm.1 (by rw [het]; exact hm.2)
        rw [body_drop _ _ _ hlq, het] at hres2
        have hs := cstmts t.stmts.length e k z g.body[q] hez oke hec hep (by rw [het]; exact hx) (by rw [het]; exact h.st) hm.1 (by rw [het]; exact hm.2) hm.2 (by omega) (by omega) (by omega)
        have hks := KeptS.stm6 t.stmts.length e g.body[q] oke
        have hpe2 := PutOk.stm6 t.stmts.length e g.body[q] hep
        have hml : (e.t.stmts.map St.cells).length = t.stmts.length := by rw [List.length_map, het]
        have hst : Stk (stm6 t.stmts.length e g.body[q]) (checked t) := by
          rw [← hres, ← hres2]
          exact (Stk.body _ _).trans (Stk.funs _ _ _)
        generalize stm6 t.stmts.length e g.body[q] = e2 at *
        generalize g.body[q] = p at *
        refine ACode.skip (ACode.seq (ACode.block (ACode.seq (ACode.region ?_))))
        refine ASeq.q rfl rfl (QOp.indexI rfl rfl rfl (tok _ rfl) rfl (tok _ rfl) (by omega) (by assumption)) ?_
        refine ASeq.q rfl rfl (QOp.loadI rfl rfl (tok _ rfl) rfl) ?_
        refine ASeq.q rfl rfl (QOp.assign rfl rfl) ?_
        refine ASeq.nil ?_
        refine ACode.region ?_
        refine ASeq.q rfl rfl (QOp.move rfl rfl) ?_
        refine ASeq.q rfl rfl (QOp.move rfl rfl) ?_
        refine ASeq.q rfl rfl (QOp.move rfl rfl) ?_
        refine ASeq.q rfl rfl (QOp.nilCheckM rfl rfl) ?_
        refine ASeq.q rfl rfl (QOp.fieldM rfl rfl (tok _ rfl) rfl rfl (by decide) rfl) ?_
        refine ASeq.q rfl rfl (QOp.fieldM rfl rfl (tok _ rfl) rfl rfl (by decide) rfl) ?_
        refine ASeq.q rfl rfl (QOp.loadM 0 rfl rfl rfl (tok _ rfl) rfl) ?_
        refine ASeq.q rfl rfl (QOp.move rfl rfl) ?_
        refine ASeq.q rfl rfl (QOp.indexI rfl rfl rfl (tok _ rfl) rfl (tok _ rfl) (by omega) (by assumption)) ?_
        refine ASeq.q rfl rfl (QOp.loadI rfl rfl (tok _ rfl) rfl) ?_
        refine ASeq.op rfl rfl (AOp.callP 9 rfl (by kernel_rfl) rfl rfl rfl (hs) ?_ ?_)
        rotate_left
        · (rintro _ _ (⟨⟩ | ⟨hbad, R⟩); simp only [AExit.then, AExit.inBlock]; exact check_bad rfl rfl rfl rfl (List.sublist_append_of_sublist_right (List.sublist_append_left [_, _, _] [_])) hst hbad)
        rintro _ _ ⟨hc, z2, hz2, hcz2⟩
        refine ASeq.nil ?_
        refine ACode.region ?_
        refine ASeq.q rfl rfl (QOp.ar64 rfl rfl rfl rfl ⟨by omega, by omega⟩) ?_
        refine ASeq.q rfl rfl (QOp.move rfl rfl) ?_
        refine ASeq.nil ?_
        refine AExit.then_normal ?_
        exact ⟨(q + 1, e2, z2), 13, ⟨hlq, hc, hcz2, hz2.trans hzs, hke.trans hks, hpe2, hres2⟩, by dsimp only; omega, .cons rfl (.cons rfl (.cons rfl (.cons rfl (.cons rfl (.cons rfl (.cons rfl (.cons rfl (.cons rfl (.cons rfl (.nil)))))))))), rfl⟩
      have hge : q = g.body.length := by have := of_decide_eq_false hb; rw [hbl] at this; omega
      rw [hge, List.drop_length] at hres2
      simp only [bodyOf] at hres2
      rw [← hres2] at hres
      refine ACode.exit (AExit.then_exit (AExit.then_exit (AExit.in_same (AExit.in_normal (AExit.then_normal ?_)))))
      refine ACode.cells (cells' := ckCellsS e k .any) [] [_, _, _, _, _, _, _, _, _, _, _, _] rfl (.cons (.refl _) (.cons (.refl _) (.cons (.refl _) (.cons (.refl _) (.cons (.refl _) (.cons (.refl _) (.cons (.refl _) (.cons (.refl _) (.cons (.refl _) (.cons (.any _) (.cons (.refl _) .nil))))))))))) ?_
      refine ACode.items (R' := ckHead e k z.τ mI mA mE) _ (List.Perm.refl _) (.cons_cons _ (.cons _ (.cons_cons _ (.cons_cons _ (.cons_cons _ (.cons_cons _ (.cons_cons _ (.cons_cons _ (.cons _ (.cons_cons _ (.cons_cons _ (.cons_cons _ (List.nil_sublist _))))))))))))) ?_
      refine ACode.region ?_
      refine ASeq.q rfl rfl (QOp.ar64 rfl rfl rfl rfl ⟨by omega, by omega⟩) ?_
      refine ASeq.q rfl rfl (QOp.move rfl rfl) ?_
      refine ASeq.nil ?_
      refine AExit.then_normal ?_
      exact ⟨(i + 1, e, z.τ), 10, ⟨hlt, hec, hpre.next hlt hke, hep, hres⟩, by dsimp only; omega, .cons rfl (.cons rfl (.cons rfl (.cons rfl (.cons rfl (.cons rfl (.cons rfl (.nil))))))), rfl⟩
    have hge : i = t.funcs.length := by have := of_decide_eq_false hb; rw [hFl] at this; omega
    rw [hge, List.drop_length] at hres
    simp only [funs] at hres
    refine ACode.exit (ACode.seq (ACode.region ?_))
    refine ASeq.q rfl rfl (QOp.move rfl rfl) ?_
    refine ASeq.q rfl rfl (QOp.nilCheckM rfl rfl) ?_
    refine ASeq.q rfl rfl (QOp.fieldM rfl rfl (tok _ rfl) rfl rfl (by decide) rfl) ?_
    refine ASeq.q rfl rfl (QOp.loadM 0 rfl rfl rfl (tok _ rfl) rfl) ?_
    refine ASeq.op0 rfl rfl (AOp.storeP 7 rfl rfl rfl rfl (tok _ rfl) rfl rfl rfl rfl ?_)
    refine ASeq.op0 rfl rfl (AOp.storeP 8 rfl rfl rfl rfl (tok _ rfl) rfl rfl rfl rfl ?_)
    refine ASeq.op0 rfl rfl (AOp.storeP 9 rfl rfl rfl rfl (tok _ rfl) rfl rfl rfl rfl ?_)
    refine ASeq.nil ?_
    refine ACode.ret ?_
    refine catch_none mI mA mE _ _ (fun it => ⟨_, _, c.items ⟨k.mT, k.mS, k.mP, k.mF, k.mL⟩ τ, .cell 7 rfl rfl (tok _ rfl) rfl (.cell 8 rfl rfl (tok _ rfl) rfl (.cell 9 rfl rfl (tok _ rfl) rfl .nil)), List.Perm.refl _, .cons _ (.cons_cons _ (.cons_cons _ (.cons_cons _ (.cons_cons _ (.cons_cons _ (.cons_cons _ (List.nil_sublist _))))))), ?_⟩)
    have := RK.good (t := t) (by rw [← hres]; exact hc0) ⟨k.mT, k.mS, k.mP, k.mF, k.mL⟩ τ
    rw [← hres] at this
    exact this
  refine DAny.meet (α := Nat × Nat × Nat × Nat × Nat) 5 #[true, true, true, true, true, true, true, true, true, true, true, true, true, true, true, true, true, true, true, true, false, false, false, false, false] (fun a => match a with | (mT, mS, mP, mF, mL) => [(1, .ip t.cells), (2, .mp mI 0), (3, .mp mA 0), (4, .mp mE 0), (12, .agg t.cells), (15, vi ((t.exprs.map Ex.cells).length : Int)), (19, vi ((t.exprs.map Ex.cells).length : Int)), (23, vi ((t.stmts.map St.cells).length : Int)), (27, vi ((t.stmts.map St.cells).length : Int)), (31, vi ((t.funcs.map Fu.cells).length : Int)), (16, .sl 1 mT 0 (t.exprs.map Ex.cells).length), (20, .sl 1 mS 0 (t.exprs.map Ex.cells).length), (24, .sl 1 mP 0 (t.stmts.map St.cells).length), (28, .sl 1 mF 0 (t.stmts.map St.cells).length)]) (fun a => match a with | (mT, mS, mP, mF, mL) => [.mu mI [nilv, nilv, nilv, nilv, nilv], .mu mA [vi 0], .mu mE [vi 0], .mu mT (List.replicate (t.exprs.map Ex.cells).length (List.map AV.v (TT 3).zero)).flatten, .mu mS (List.replicate (t.exprs.map Ex.cells).length (vi (-1))), .mu mP (List.replicate (t.stmts.map St.cells).length (vi (-1))), .mu mF (List.replicate (t.stmts.map St.cells).length (List.map AV.v (TT 3).zero)).flatten]) (fun hTSPF => ?_) ?_
  rotate_left
  · rintro ⟨mT, mS, mP, mF, _⟩
    refine DAny.effs [20] (by kernel_rfl) (by decide) ?_
    refine Effs.cons 20 rfl (.none rfl) rfl (AOp.makeP (n := (t.funcs.map Fu.cells).length) rfl rfl rfl (tok _ rfl) rfl (tok _ rfl) (by decide) rfl rfl (fun _ => rfl) (by omega) rfl (fun m => ?_)) ?_
    · exact DAny.at_ ZCode.closes (hTSPFL (mT, mS, mP, mF, m)) (by kernel_rfl) (.cons rfl (.cons rfl (.cons rfl (.cons rfl (.cons rfl (.cons rfl (.cons rfl (.cons rfl (.cons rfl (.cons rfl (.cons rfl (.cons rfl (.cons rfl (.cons rfl (.cons rfl (.nil)))))))))))))))) (List.Perm.refl _)
    exact Effs.nil
  refine DAny.meet (α := Nat × Nat × Nat × Nat × Nat) 5 #[true, true, true, true, true, true, true, true, true, true, true, true, true, true, true, true, false, true, true, true, true, false, false, false, false] (fun a => match a with | (mT, mS, mP, mF, mL) => [(1, .ip t.cells), (2, .mp mI 0), (3, .mp mA 0), (4, .mp mE 0), (12, .agg t.cells), (15, vi ((t.exprs.map Ex.cells).length : Int)), (19, vi ((t.exprs.map Ex.cells).length : Int)), (23, vi ((t.stmts.map St.cells).length : Int)), (27, vi ((t.stmts.map St.cells).length : Int)), (31, vi ((t.funcs.map Fu.cells).length : Int)), (16, .sl 1 mT 0 (t.exprs.map Ex.cells).length), (20, .sl 1 mS 0 (t.exprs.map Ex.cells).length), (24, .sl 1 mP 0 (t.stmts.map St.cells).length), (32, .sl 1 mL 0 (t.funcs.map Fu.cells).length)]) (fun a => match a with | (mT, mS, mP, mF, mL) => [.mu mI [nilv, nilv, nilv, nilv, nilv], .mu mA [vi 0], .mu mE [vi 0], .mu mT (List.replicate (t.exprs.map Ex.cells).length (List.map AV.v (TT 3).zero)).flatten, .mu mS (List.replicate (t.exprs.map Ex.cells).length (vi (-1))), .mu mP (List.replicate (t.stmts.map St.cells).length (vi (-1))), .mu mL (List.replicate (t.funcs.map Fu.cells).length (List.map AV.v (TT 30).zero)).flatten]) (fun hTSPL => ?_) ?_
  rotate_left
  · rintro ⟨mT, mS, mP, _, mL⟩
    refine DAny.effs [16] (by kernel_rfl) (by decide) ?_
    refine Effs.cons 16 rfl (.none rfl) rfl (AOp.makeP (n := (t.stmts.map St.cells).length) rfl rfl rfl (tok _ rfl) rfl (tok _ rfl) (by decide) rfl rfl (fun _ => rfl) (by omega) rfl (fun m => ?_)) ?_
    · exact DAny.at_ ZCode.closes (hTSPFL (mT, mS, mP, m, mL)) (by kernel_rfl) (.cons rfl (.cons rfl (.cons rfl (.cons rfl (.cons rfl (.cons rfl (.cons rfl (.cons rfl (.cons rfl (.cons rfl (.cons rfl (.cons rfl (.cons rfl (.cons rfl (.cons rfl (.nil)))))))))))))))) (List.Perm.append_left [_, _, _, _, _, _] (List.perm_append_comm (l₁ := [_]) (l₂ := [_])))
    exact Effs.nil
  refine DAny.meet (α := Nat × Nat × Nat × Nat × Nat) 5 #[true, true, true, true, true, true, true, true, true, true, true, true, false, true, true, true, true, true, true, true, true, false, false, false, false] (fun a => match a with | (mT, mS, mP, mF, mL) => [(1, .ip t.cells), (2, .mp mI 0), (3, .mp mA 0), (4, .mp mE 0), (12, .agg t.cells), (15, vi ((t.exprs.map Ex.cells).length : Int)), (19, vi ((t.exprs.map Ex.cells).length : Int)), (23, vi ((t.stmts.map St.cells).length : Int)), (27, vi ((t.stmts.map St.cells).length : Int)), (31, vi ((t.funcs.map Fu.cells).length : Int)), (16, .sl 1 mT 0 (t.exprs.map Ex.cells).length), (20, .sl 1 mS 0 (t.exprs.map Ex.cells).length), (28, .sl 1 mF 0 (t.stmts.map St.cells).length), (32, .sl 1 mL 0 (t.funcs.map Fu.cells).length)]) (fun a => match a with | (mT, mS, mP, mF, mL) => [.mu mI [nilv, nilv, nilv, nilv, nilv], .mu mA [vi 0], .mu mE [vi 0], .mu mT (List.replicate (t.exprs.map Ex.cells).length (List.map AV.v (TT 3).zero)).flatten, .mu mS (List.replicate (t.exprs.map Ex.cells).length (vi (-1))), .mu mF (List.replicate (t.stmts.map St.cells).length (List.map AV.v (TT 3).zero)).flatten, .mu mL (List.replicate (t.funcs.map Fu.cells).length (List.map AV.v (TT 30).zero)).flatten]) (fun hTSFL => ?_) ?_
  rotate_left
  · rintro ⟨mT, mS, _, mF, mL⟩
    refine DAny.effs [12] (by kernel_rfl) (by decide) ?_
    refine Effs.cons 12 rfl (.none rfl) rfl (AOp.callP 0 rfl (by kernel_rfl) rfl rfl rfl (none38 (t.stmts.map St.cells).length (by omega)) (by rintro _ _ ⟨m⟩; exact DAny.at_ ZCode.closes (hTSPFL (mT, mS, m, mF, mL)) (by kernel_rfl) (.cons rfl (.cons rfl (.cons rfl (.cons rfl (.cons rfl (.cons rfl (.cons rfl (.cons rfl (.cons rfl (.cons rfl (.cons rfl (.cons rfl (.cons rfl (.cons rfl (.cons rfl (.nil)))))))))))))))) (List.perm_middle (l₁ := [_, _, _, _, _]) (l₂ := [_, _])).symm) (by rintro _ _ ⟨⟩)) ?_
    exact Effs.nil
  refine DAny.meet (α := Nat × Nat × Nat × Nat × Nat) 5 #[true, true, true, true, false, true, true, true, true, true, true, true, true, true, true, true, true, true, true, true, true, false, false, false, false] (fun a => match a with | (mT, mS, mP, mF, mL) => [(1, .ip t.cells), (2, .mp mI 0), (3, .mp mA 0), (4, .mp mE 0), (12, .agg t.cells), (15, vi ((t.exprs.map Ex.cells).length : Int)), (19, vi ((t.exprs.map Ex.cells).length : Int)), (23, vi ((t.stmts.map St.cells).length : Int)), (27, vi ((t.stmts.map St.cells).length : Int)), (31, vi ((t.funcs.map Fu.cells).length : Int)), (20, .sl 1 mS 0 (t.exprs.map Ex.cells).length), (24, .sl 1 mP 0 (t.stmts.map St.cells).length), (28, .sl 1 mF 0 (t.stmts.map St.cells).length), (32, .sl 1 mL 0 (t.funcs.map Fu.cells).length)]) (fun a => match a with | (mT, mS, mP, mF, mL) => [.mu mI [nilv, nilv, nilv, nilv, nilv], .mu mA [vi 0], .mu mE [vi 0], .mu mS (List.replicate (t.exprs.map Ex.cells).length (vi (-1))), .mu mP (List.replicate (t.stmts.map St.cells).length (vi (-1))), .mu mF (List.replicate (t.stmts.map St.cells).length (List.map AV.v (TT 3).zero)).flatten, .mu mL (List.replicate (t.funcs.map Fu.cells).length (List.map AV.v (TT 30).zero)).flatten]) (fun hSPFL => ?_) ?_
  rotate_left
  · rintro ⟨_, mS, mP, mF, mL⟩
    refine DAny.effs [4] (by kernel_rfl) (by decide) ?_
    refine Effs.cons 4 rfl (.none rfl) rfl (AOp.makeP (n := (t.exprs.map Ex.cells).length) rfl rfl rfl (tok _ rfl) rfl (tok _ rfl) (by decide) rfl rfl (fun _ => rfl) (by omega) rfl (fun m => ?_)) ?_
    · exact DAny.at_ ZCode.closes (hTSPFL (m, mS, mP, mF, mL)) (by kernel_rfl) (.cons rfl (.cons rfl (.cons rfl (.cons rfl (.cons rfl (.cons rfl (.cons rfl (.cons rfl (.cons rfl (.cons rfl (.cons rfl (.cons rfl (.cons rfl (.cons rfl (.cons rfl (.nil)))))))))))))))) (List.Perm.append_left [_, _, _] (List.perm_append_comm (l₁ := [_, _, _, _]) (l₂ := [_])))
    exact Effs.nil
  refine DAny.meet (α := Nat × Nat × Nat × Nat × Nat) 6 #[true, true, true, true, true, true, true, true, true, true, true, true, true, true, true, true, false, true, true, true, false, false, false, false, false] (fun a => match a with | (mT, mS, mP, mF, mL) => [(1, .ip t.cells), (2, .mp mI 0), (3, .mp mA 0), (4, .mp mE 0), (12, .agg t.cells), (15, vi ((t.exprs.map Ex.cells).length : Int)), (19, vi ((t.exprs.map Ex.cells).length : Int)), (23, vi ((t.stmts.map St.cells).length : Int)), (27, vi ((t.stmts.map St.cells).length : Int)), (31, vi ((t.funcs.map Fu.cells).length : Int)), (16, .sl 1 mT 0 (t.exprs.map Ex.cells).length), (20, .sl 1 mS 0 (t.exprs.map Ex.cells).length), (24, .sl 1 mP 0 (t.stmts.map St.cells).length)]) (fun a => match a with | (mT, mS, mP, mF, mL) => [.mu mI [nilv, nilv, nilv, nilv, nilv], .mu mA [vi 0], .mu mE [vi 0], .mu mT (List.replicate (t.exprs.map Ex.cells).length (List.map AV.v (TT 3).zero)).flatten, .mu mS (List.replicate (t.exprs.map Ex.cells).length (vi (-1))), .mu mP (List.replicate (t.stmts.map St.cells).length (vi (-1)))]) (fun hTSP => ?_) ?_
  rotate_left
  · rintro ⟨mT, mS, mP, _, _⟩
    refine DAny.effs [16, 20] (by kernel_rfl) (by decide) ?_
    refine Effs.cons 16 rfl (.none rfl) rfl (AOp.makeP (n := (t.stmts.map St.cells).length) rfl rfl rfl (tok _ rfl) rfl (tok _ rfl) (by decide) rfl rfl (fun _ => rfl) (by omega) rfl (fun m => ?_)) ?_
    · exact DAny.at_ ZCode.closes (hTSPF (mT, mS, mP, m, 0)) (by kernel_rfl) (.cons rfl (.cons rfl (.cons rfl (.cons rfl (.cons rfl (.cons rfl (.cons rfl (.cons rfl (.cons rfl (.cons rfl (.cons rfl (.cons rfl (.cons rfl (.cons rfl (.nil))))))))))))))) (List.Perm.refl _)
    refine Effs.cons 20 rfl (.none rfl) rfl (AOp.makeP (n := (t.funcs.map Fu.cells).length) rfl rfl rfl (tok _ rfl) rfl (tok _ rfl) (by decide) rfl rfl (fun _ => rfl) (by omega) rfl (fun m => ?_)) ?_
    · exact DAny.at_ ZCode.closes (hTSPL (mT, mS, mP, 0, m)) (by kernel_rfl) (.cons rfl (.cons rfl (.cons rfl (.cons rfl (.cons rfl (.cons rfl (.cons rfl (.cons rfl (.cons rfl (.cons rfl (.cons rfl (.cons rfl (.cons rfl (.cons rfl (.nil))))))))))))))) (List.Perm.refl _)
    exact Effs.nil
  refine DAny.meet (α := Nat × Nat × Nat × Nat × Nat) 6 #[true, true, true, true, true, true, true, true, true, true, true, true, false, true, true, true, true, true, true, true, false, false, false, false, false] (fun a => match a with | (mT, mS, mP, mF, mL) => [(1, .ip t.cells), (2, .mp mI 0), (3, .mp mA 0), (4, .mp mE 0), (12, .agg t.cells), (15, vi ((t.exprs.map Ex.cells).length : Int)), (19, vi ((t.exprs.map Ex.cells).length : Int)), (23, vi ((t.stmts.map St.cells).length : Int)), (27, vi ((t.stmts.map St.cells).length : Int)), (31, vi ((t.funcs.map Fu.cells).length : Int)), (16, .sl 1 mT 0 (t.exprs.map Ex.cells).length), (20, .sl 1 mS 0 (t.exprs.map Ex.cells).length), (28, .sl 1 mF 0 (t.stmts.map St.cells).length)]) (fun a => match a with | (mT, mS, mP, mF, mL) => [.mu mI [nilv, nilv, nilv, nilv, nilv], .mu mA [vi 0], .mu mE [vi 0], .mu mT (List.replicate (t.exprs.map Ex.cells).length (List.map AV.v (TT 3).zero)).flatten, .mu mS (List.replicate (t.exprs.map Ex.cells).length (vi (-1))), .mu mF (List.replicate (t.stmts.map St.cells).length (List.map AV.v (TT 3).zero)).flatten]) (fun hTSF => ?_) ?_
  rotate_left
  · rintro ⟨mT, mS, _, mF, _⟩
    refine DAny.effs [12, 20] (by kernel_rfl) (by decide) ?_
    refine Effs.cons 12 rfl (.none rfl) rfl (AOp.callP 0 rfl (by kernel_rfl) rfl rfl rfl (none38 (t.stmts.map St.cells).length (by omega)) (by rintro _ _ ⟨m⟩; exact DAny.at_ ZCode.closes (hTSPF (mT, mS, m, mF, 0)) (by kernel_rfl) (.cons rfl (.cons rfl (.cons rfl (.cons rfl (.cons rfl (.cons rfl (.cons rfl (.cons rfl (.cons rfl (.cons rfl (.cons rfl (.cons rfl (.cons rfl (.cons rfl (.nil))))))))))))))) (List.perm_middle (l₁ := [_, _, _, _, _]) (l₂ := [_])).symm) (by rintro _ _ ⟨⟩)) ?_
    refine Effs.cons 20 rfl (.none rfl) rfl (AOp.makeP (n := (t.funcs.map Fu.cells).length) rfl rfl rfl (tok _ rfl) rfl (tok _ rfl) (by decide) rfl rfl (fun _ => rfl) (by omega) rfl (fun m => ?_)) ?_
    · exact DAny.at_ ZCode.closes (hTSFL (mT, mS, 0, mF, m)) (by kernel_rfl) (.cons rfl (.cons rfl (.cons rfl (.cons rfl (.cons rfl (.cons rfl (.cons rfl (.cons rfl (.cons rfl (.cons rfl (.cons rfl (.cons rfl (.cons rfl (.cons rfl (.nil))))))))))))))) (List.Perm.refl _)
    exact Effs.nil
  refine DAny.meet (α := Nat × Nat × Nat × Nat × Nat) 6 #[true, true, true, true, true, true, true, true, true, true, true, true, false, true, true, true, false, true, true, true, true, false, false, false, false] (fun a => match a with | (mT, mS, mP, mF, mL) => [(1, .ip t.cells), (2, .mp mI 0), (3, .mp mA 0), (4, .mp mE 0), (12, .agg t.cells), (15, vi ((t.exprs.map Ex.cells).length : Int)), (19, vi ((t.exprs.map Ex.cells).length : Int)), (23, vi ((t.stmts.map St.cells).length : Int)), (27, vi ((t.stmts.map St.cells).length : Int)), (31, vi ((t.funcs.map Fu.cells).length : Int)), (16, .sl 1 mT 0 (t.exprs.map Ex.cells).length), (20, .sl 1 mS 0 (t.exprs.map Ex.cells).length), (32, .sl 1 mL 0 (t.funcs.map Fu.cells).length)]) (fun a => match a with | (mT, mS, mP, mF, mL) => [.mu mI [nilv, nilv, nilv, nilv, nilv], .mu mA [vi 0], .mu mE [vi 0], .mu mT (List.replicate (t.exprs.map Ex.cells).length (List.map AV.v (TT 3).zero)).flatten, .mu mS (List.replicate (t.exprs.map Ex.cells).length (vi (-1))), .mu mL (List.replicate (t.funcs.map Fu.cells).length (List.map AV.v (TT 30).zero)).flatten]) (fun hTSL => ?_) ?_
  rotate_left
  · rintro ⟨mT, mS, _, _, mL⟩
    refine DAny.effs [12, 16] (by kernel_rfl) (by decide) ?_
    refine Effs.cons 12 rfl (.none rfl) rfl (AOp.callP 0 rfl (by kernel_rfl) rfl rfl rfl (none38 (t.stmts.map St.cells).length (by omega)) (by rintro _ _ ⟨m⟩; exact DAny.at_ ZCode.closes (hTSPL (mT, mS, m, 0, mL)) (by kernel_rfl) (.cons rfl (.cons rfl (.cons rfl (.cons rfl (.cons rfl (.cons rfl (.cons rfl (.cons rfl (.cons rfl (.cons rfl (.cons rfl (.cons rfl (.cons rfl (.cons rfl (.nil))))))))))))))) (List.perm_middle (l₁ := [_, _, _, _, _]) (l₂ := [_])).symm) (by rintro _ _ ⟨⟩)) ?_
    refine Effs.cons 16 rfl (.none rfl) rfl (AOp.makeP (n := (t.stmts.map St.cells).length) rfl rfl rfl (tok _ rfl) rfl (tok _ rfl) (by decide) rfl rfl (fun _ => rfl) (by omega) rfl (fun m => ?_)) ?_
    · exact DAny.at_ ZCode.closes (hTSFL (mT, mS, 0, m, mL)) (by kernel_rfl) (.cons rfl (.cons rfl (.cons rfl (.cons rfl (.cons rfl (.cons rfl (.cons rfl (.cons rfl (.cons rfl (.cons rfl (.cons rfl (.cons rfl (.cons rfl (.cons rfl (.nil))))))))))))))) (List.Perm.append_left [_, _, _, _, _] (List.perm_append_comm (l₁ := [_]) (l₂ := [_])))
    exact Effs.nil
  refine DAny.meet (α := Nat × Nat × Nat × Nat × Nat) 6 #[true, true, true, true, true, true, true, true, false, true, true, true, false, true, true, true, true, true, true, true, true, false, false, false, false] (fun a => match a with | (mT, mS, mP, mF, mL) => [(1, .ip t.cells), (2, .mp mI 0), (3, .mp mA 0), (4, .mp mE 0), (12, .agg t.cells), (15, vi ((t.exprs.map Ex.cells).length : Int)), (19, vi ((t.exprs.map Ex.cells).length : Int)), (23, vi ((t.stmts.map St.cells).length : Int)), (27, vi ((t.stmts.map St.cells).length : Int)), (31, vi ((t.funcs.map Fu.cells).length : Int)), (16, .sl 1 mT 0 (t.exprs.map Ex.cells).length), (28, .sl 1 mF 0 (t.stmts.map St.cells).length), (32, .sl 1 mL 0 (t.funcs.map Fu.cells).length)]) (fun a => match a with | (mT, mS, mP, mF, mL) => [.mu mI [nilv, nilv, nilv, nilv, nilv], .mu mA [vi 0], .mu mE [vi 0], .mu mT (List.replicate (t.exprs.map Ex.cells).length (List.map AV.v (TT 3).zero)).flatten, .mu mF (List.replicate (t.stmts.map St.cells).length (List.map AV.v (TT 3).zero)).flatten, .mu mL (List.replicate (t.funcs.map Fu.cells).length (List.map AV.v (TT 30).zero)).flatten]) (fun hTFL => ?_) ?_
  rotate_left
  · rintro ⟨mT, _, _, mF, mL⟩
    refine DAny.effs [8] (by kernel_rfl) (by decide) ?_
    refine Effs.cons 8 rfl (.none rfl) rfl (AOp.callP 0 rfl (by kernel_rfl) rfl rfl rfl (none38 (t.exprs.map Ex.cells).length (by omega)) (by rintro _ _ ⟨m⟩; exact DAny.at_ ZCode.closes (hTSFL (mT, m, 0, mF, mL)) (by kernel_rfl) (.cons rfl (.cons rfl (.cons rfl (.cons rfl (.cons rfl (.cons rfl (.cons rfl (.cons rfl (.cons rfl (.cons rfl (.cons rfl (.cons rfl (.cons rfl (.cons rfl (.nil))))))))))))))) (List.perm_middle (l₁ := [_, _, _, _]) (l₂ := [_, _])).symm) (by rintro _ _ ⟨⟩)) ?_
    exact Effs.nil
  refine DAny.meet (α := Nat × Nat × Nat × Nat × Nat) 6 #[true, true, true, true, false, true, true, true, true, true, true, true, true, true, true, true, true, true, true, true, false, false, false, false, false] (fun a => match a with | (mT, mS, mP, mF, mL) => [(1, .ip t.cells), (2, .mp mI 0), (3, .mp mA 0), (4, .mp mE 0), (12, .agg t.cells), (15, vi ((t.exprs.map Ex.cells).length : Int)), (19, vi ((t.exprs.map Ex.cells).length : Int)), (23, vi ((t.stmts.map St.cells).length : Int)), (27, vi ((t.stmts.map St.cells).length : Int)), (31, vi ((t.funcs.map Fu.cells).length : Int)), (20, .sl 1 mS 0 (t.exprs.map Ex.cells).length), (24, .sl 1 mP 0 (t.stmts.map St.cells).length), (28, .sl 1 mF 0 (t.stmts.map St.cells).length)]) (fun a => match a with | (mT, mS, mP, mF, mL) => [.mu mI [nilv, nilv, nilv, nilv, nilv], .mu mA [vi 0], .mu mE [vi 0], .mu mS (List.replicate (t.exprs.map Ex.cells).length (vi (-1))), .mu mP (List.replicate (t.stmts.map St.cells).length (vi (-1))), .mu mF (List.replicate (t.stmts.map St.cells).length (List.map AV.v (TT 3).zero)).flatten]) (fun hSPF => ?_) ?_
  rotate_left
  · rintro ⟨_, mS, mP, mF, _⟩
    refine DAny.effs [4, 20] (by kernel_rfl) (by decide) ?_
    refine Effs.cons 4 rfl (.none rfl) rfl (AOp.makeP (n := (t.exprs.map Ex.cells).length) rfl rfl rfl (tok _ rfl) rfl (tok _ rfl) (by decide) rfl rfl (fun _ => rfl) (by omega) rfl (fun m => ?_)) ?_
    · exact DAny.at_ ZCode.closes (hTSPF (m, mS, mP, mF, 0)) (by kernel_rfl) (.cons rfl (.cons rfl (.cons rfl (.cons rfl (.cons rfl (.cons rfl (.cons rfl (.cons rfl (.cons rfl (.cons rfl (.cons rfl (.cons rfl (.cons rfl (.cons rfl (.nil))))))))))))))) (List.Perm.append_left [_, _, _] (List.perm_append_comm (l₁ := [_, _, _]) (l₂ := [_])))
    refine Effs.cons 20 rfl (.none rfl) rfl (AOp.makeP (n := (t.funcs.map Fu.cells).length) rfl rfl rfl (tok _ rfl) rfl (tok _ rfl) (by decide) rfl rfl (fun _ => rfl) (by omega) rfl (fun m => ?_)) ?_
    · exact DAny.at_ ZCode.closes (hSPFL (0, mS, mP, mF, m)) (by kernel_rfl) (.cons rfl (.cons rfl (.cons rfl (.cons rfl (.cons rfl (.cons rfl (.cons rfl (.cons rfl (.cons rfl (.cons rfl (.cons rfl (.cons rfl (.cons rfl (.cons rfl (.nil))))))))))))))) (List.Perm.refl _)
    exact Effs.nil
  refine DAny.meet (α := Nat × Nat × Nat × Nat × Nat) 6 #[true, true, true, true, false, true, true, true, true, true, true, true, true, true, true, true, false, true, true, true, true, false, false, false, false] (fun a => match a with | (mT, mS, mP, mF, mL) => [(1, .ip t.cells), (2, .mp mI 0), (3, .mp mA 0), (4, .mp mE 0), (12, .agg t.cells), (15, vi ((t.exprs.map Ex.cells).length : Int)), (19, vi ((t.exprs.map Ex.cells).length : Int)), (23, vi ((t.stmts.map St.cells).length : Int)), (27, vi ((t.stmts.map St.cells).length : Int)), (31, vi ((t.funcs.map Fu.cells).length : Int)), (20, .sl 1 mS 0 (t.exprs.map Ex.cells).length), (24, .sl 1 mP 0 (t.stmts.map St.cells).length), (32, .sl 1 mL 0 (t.funcs.map Fu.cells).length)]) (fun a => match a with | (mT, mS, mP, mF, mL) => [.mu mI [nilv, nilv, nilv, nilv, nilv], .mu mA [vi 0], .mu mE [vi 0], .mu mS (List.replicate (t.exprs.map Ex.cells).length (vi (-1))), .mu mP (List.replicate (t.stmts.map St.cells).length (vi (-1))), .mu mL (List.replicate (t.funcs.map Fu.cells).length (List.map AV.v (TT 30).zero)).flatten]) (fun hSPL => ?_) ?_
  rotate_left
  · rintro ⟨_, mS, mP, _, mL⟩
    refine DAny.effs [4, 16] (by kernel_rfl) (by decide) ?_
    refine Effs.cons 4 rfl (.none rfl) rfl (AOp.makeP (n := (t.exprs.map Ex.cells).length) rfl rfl rfl (tok _ rfl) rfl (tok _ rfl) (by decide) rfl rfl (fun _ => rfl) (by omega) rfl (fun m => ?_)) ?_
    · exact DAny.at_ ZCode.closes (hTSPL (m, mS, mP, 0, mL)) (by kernel_rfl) (.cons rfl (.cons rfl (.cons rfl (.cons rfl (.cons rfl (.cons rfl (.cons rfl (.cons rfl (.cons rfl (.cons rfl (.cons rfl (.cons rfl (.cons rfl (.cons rfl (.nil))))))))))))))) (List.Perm.append_left [_, _, _] (List.perm_append_comm (l₁ := [_, _, _]) (l₂ := [_])))
    refine Effs.cons 16 rfl (.none rfl) rfl (AOp.makeP (n := (t.stmts.map St.cells).length) rfl rfl rfl (tok _ rfl) rfl (tok _ rfl) (by decide) rfl rfl (fun _ => rfl) (by omega) rfl (fun m => ?_)) ?_
    · exact DAny.at_ ZCode.closes (hSPFL (0, mS, mP, m, mL)) (by kernel_rfl) (.cons rfl (.cons rfl (.cons rfl (.cons rfl (.cons rfl (.cons rfl (.cons rfl (.cons rfl (.cons rfl (.cons rfl (.cons rfl (.cons rfl (.cons rfl (.cons rfl (.nil))))))))))))))) (List.Perm.append_left [_, _, _, _, _] (List.perm_append_comm (l₁ := [_]) (l₂ := [_])))
    exact Effs.nil
  refine DAny.meet (α := Nat × Nat × Nat × Nat × Nat) 6 #[true, true, true, true, false, true, true, true, true, true, true, true, false, true, true, true, true, true, true, true, true, false, false, false, false] (fun a => match a with | (mT, mS, mP, mF, mL) => [(1, .ip t.cells), (2, .mp mI 0), (3, .mp mA 0), (4, .mp mE 0), (12, .agg t.cells), (15, vi ((t.exprs.map Ex.cells).length : Int)), (19, vi ((t.exprs.map Ex.cells).length : Int)), (23, vi ((t.stmts.map St.cells).length : Int)), (27, vi ((t.stmts.map St.cells).length : Int)), (31, vi ((t.funcs.map Fu.cells).length : Int)), (20, .sl 1 mS 0 (t.exprs.map Ex.cells).length), (28, .sl 1 mF 0 (t.stmts.map St.cells).length), (32, .sl 1 mL 0 (t.funcs.map Fu.cells).length)]) (fun a => match a with | (mT, mS, mP, mF, mL) => [.mu mI [nilv, nilv, nilv, nilv, nilv], .mu mA [vi 0], .mu mE [vi 0], .mu mS (List.replicate (t.exprs.map Ex.cells).length (vi (-1))), .mu mF (List.replicate (t.stmts.map St.cells).length (List.map AV.v (TT 3).zero)).flatten, .mu mL (List.replicate (t.funcs.map Fu.cells).length (List.map AV.v (TT 30).zero)).flatten]) (fun hSFL => ?_) ?_
  rotate_left
  · rintro ⟨_, mS, _, mF, mL⟩
    refine DAny.effs [4, 12] (by kernel_rfl) (by decide) ?_
    refine Effs.cons 4 rfl (.none rfl) rfl (AOp.makeP (n := (t.exprs.map Ex.cells).length) rfl rfl rfl (tok _ rfl) rfl (tok _ rfl) (by decide) rfl rfl (fun _ => rfl) (by omega) rfl (fun m => ?_)) ?_
    · exact DAny.at_ ZCode.closes (hTSFL (m, mS, 0, mF, mL)) (by kernel_rfl) (.cons rfl (.cons rfl (.cons rfl (.cons rfl (.cons rfl (.cons rfl (.cons rfl (.cons rfl (.cons rfl (.cons rfl (.cons rfl (.cons rfl (.cons rfl (.cons rfl (.nil))))))))))))))) (List.Perm.append_left [_, _, _] (List.perm_append_comm (l₁ := [_, _, _]) (l₂ := [_])))
    refine Effs.cons 12 rfl (.none rfl) rfl (AOp.callP 0 rfl (by kernel_rfl) rfl rfl rfl (none38 (t.stmts.map St.cells).length (by omega)) (by rintro _ _ ⟨m⟩; exact DAny.at_ ZCode.closes (hSPFL (0, mS, m, mF, mL)) (by kernel_rfl) (.cons rfl (.cons rfl (.cons rfl (.cons rfl (.cons rfl (.cons rfl (.cons rfl (.cons rfl (.cons rfl (.cons rfl (.cons rfl (.cons rfl (.cons rfl (.cons rfl (.nil))))))))))))))) (List.perm_middle (l₁ := [_, _, _, _]) (l₂ := [_, _])).symm) (by rintro _ _ ⟨⟩)) ?_
    exact Effs.nil
  refine DAny.meet (α := Nat × Nat × Nat × Nat × Nat) 7 #[true, true, true, true, true, true, true, true, true, true, true, true, false, true, true, true, false, true, true, true, false, false, false, false, false] (fun a => match a with | (mT, mS, mP, mF, mL) => [(1, .ip t.cells), (2, .mp mI 0), (3, .mp mA 0), (4, .mp mE 0), (12, .agg t.cells), (15, vi ((t.exprs.map Ex.cells).length : Int)), (19, vi ((t.exprs.map Ex.cells).length : Int)), (23, vi ((t.stmts.map St.cells).length : Int)), (27, vi ((t.stmts.map St.cells).length : Int)), (31, vi ((t.funcs.map Fu.cells).length : Int)), (16, .sl 1 mT 0 (t.exprs.map Ex.cells).length), (20, .sl 1 mS 0 (t.exprs.map Ex.cells).length)]) (fun a => match a with | (mT, mS, mP, mF, mL) => [.mu mI [nilv, nilv, nilv, nilv, nilv], .mu mA [vi 0], .mu mE [vi 0], .mu mT (List.replicate (t.exprs.map Ex.cells).length (List.map AV.v (TT 3).zero)).flatten, .mu mS (List.replicate (t.exprs.map Ex.cells).length (vi (-1)))]) (fun hTS => ?_) ?_
  rotate_left
  · rintro ⟨mT, mS, _, _, _⟩
    refine DAny.effs [12, 16, 20] (by kernel_rfl) (by decide) ?_
    refine Effs.cons 12 rfl (.none rfl) rfl (AOp.callP 0 rfl (by kernel_rfl) rfl rfl rfl (none38 (t.stmts.map St.cells).length (by omega)) (by rintro _ _ ⟨m⟩; exact DAny.at_ ZCode.closes (hTSP (mT, mS, m, 0, 0)) (by kernel_rfl) (.cons rfl (.cons rfl (.cons rfl (.cons rfl (.cons rfl (.cons rfl (.cons rfl (.cons rfl (.cons rfl (.cons rfl (.cons rfl (.cons rfl (.cons rfl (.nil)))))))))))))) (List.perm_middle (l₁ := [_, _, _, _, _]) (l₂ := [])).symm) (by rintro _ _ ⟨⟩)) ?_
    refine Effs.cons 16 rfl (.none rfl) rfl (AOp.makeP (n := (t.stmts.map St.cells).length) rfl rfl rfl (tok _ rfl) rfl (tok _ rfl) (by decide) rfl rfl (fun _ => rfl) (by omega) rfl (fun m => ?_)) ?_
    · exact DAny.at_ ZCode.closes (hTSF (mT, mS, 0, m, 0)) (by kernel_rfl) (.cons rfl (.cons rfl (.cons rfl (.cons rfl (.cons rfl (.cons rfl (.cons rfl (.cons rfl (.cons rfl (.cons rfl (.cons rfl (.cons rfl (.cons rfl (.nil)))))))))))))) (List.Perm.refl _)
    refine Effs.cons 20 rfl (.none rfl) rfl (AOp.makeP (n := (t.funcs.map Fu.cells).length) rfl rfl rfl (tok _ rfl) rfl (tok _ rfl) (by decide) rfl rfl (fun _ => rfl) (by omega) rfl (fun m => ?_)) ?_
    · exact DAny.at_ ZCode.closes (hTSL (mT, mS, 0, 0, m)) (by kernel_rfl) (.cons rfl (.cons rfl (.cons rfl (.cons rfl (.cons rfl (.cons rfl (.cons rfl (.cons rfl (.cons rfl (.cons rfl (.cons rfl (.cons rfl (.cons rfl (.nil)))))))))))))) (List.Perm.refl _)
    exact Effs.nil
  refine DAny.meet (α := Nat × Nat × Nat × Nat × Nat) 7 #[true, true, true, true, true, true, true, true, false, true, true, true, false, true, true, true, true, true, true, true, false, false, false, false, false] (fun a => match a with | (mT, mS, mP, mF, mL) => [(1, .ip t.cells), (2, .mp mI 0), (3, .mp mA 0), (4, .mp mE 0), (12, .agg t.cells), (15, vi ((t.exprs.map Ex.cells).length : Int)), (19, vi ((t.exprs.map Ex.cells).length : Int)), (23, vi ((t.stmts.map St.cells).length : Int)), (27, vi ((t.stmts.map St.cells).length : Int)), (31, vi ((t.funcs.map Fu.cells).length : Int)), (16, .sl 1 mT 0 (t.exprs.map Ex.cells).length), (28, .sl 1 mF 0 (t.stmts.map St.cells).length)]) (fun a => match a with | (mT, mS, mP, mF, mL) => [.mu mI [nilv, nilv, nilv, nilv, nilv], .mu mA [vi 0], .mu mE [vi 0], .mu mT (List.replicate (t.exprs.map Ex.cells).length (List.map AV.v (TT 3).zero)).flatten, .mu mF (List.replicate (t.stmts.map St.cells).length (List.map AV.v (TT 3).zero)).flatten]) (fun hTF => ?_) ?_
  rotate_left
  · rintro ⟨mT, _, _, mF, _⟩
    refine DAny.effs [8, 20] (by kernel_rfl) (by decide) ?_
    refine Effs.cons 8 rfl (.none rfl) rfl (AOp.callP 0 rfl (by kernel_rfl) rfl rfl rfl (none38 (t.exprs.map Ex.cells).length (by omega)) (by rintro _ _ ⟨m⟩; exact DAny.at_ ZCode.closes (hTSF (mT, m, 0, mF, 0)) (by kernel_rfl) (.cons rfl (.cons rfl (.cons rfl (.cons rfl (.cons rfl (.cons rfl (.cons rfl (.cons rfl (.cons rfl (.cons rfl (.cons rfl (.cons rfl (.cons rfl (.nil)))))))))))))) (List.perm_middle (l₁ := [_, _, _, _]) (l₂ := [_])).symm) (by rintro _ _ ⟨⟩)) ?_
    refine Effs.cons 20 rfl (.none rfl) rfl (AOp.makeP (n := (t.funcs.map Fu.cells).length) rfl rfl rfl (tok _ rfl) rfl (tok _ rfl) (by decide) rfl rfl (fun _ => rfl) (by omega) rfl (fun m => ?_)) ?_
    · exact DAny.at_ ZCode.closes (hTFL (mT, 0, 0, mF, m)) (by kernel_rfl) (.cons rfl (.cons rfl (.cons rfl (.cons rfl (.cons rfl (.cons rfl (.cons rfl (.cons rfl (.cons rfl (.cons rfl (.cons rfl (.cons rfl (.cons rfl (.nil)))))))))))))) (List.Perm.refl _)
    exact Effs.nil
  refine DAny.meet (α := Nat × Nat × Nat × Nat × Nat) 7 #[true, true, true, true, true, true, true, true, false, true, true, true, false, true, true, true, false, true, true, true, true, false, false, false, false] (fun a => match a with | (mT, mS, mP, mF, mL) => [(1, .ip t.cells), (2, .mp mI 0), (3, .mp mA 0), (4, .mp mE 0), (12, .agg t.cells), (15, vi ((t.exprs.map Ex.cells).length : Int)), (19, vi ((t.exprs.map Ex.cells).length : Int)), (23, vi ((t.stmts.map St.cells).length : Int)), (27, vi ((t.stmts.map St.cells).length : Int)), (31, vi ((t.funcs.map Fu.cells).length : Int)), (16, .sl 1 mT 0 (t.exprs.map Ex.cells).length), (32, .sl 1 mL 0 (t.funcs.map Fu.cells).length)]) (fun a => match a with | (mT, mS, mP, mF, mL) => [.mu mI [nilv, nilv, nilv, nilv, nilv], .mu mA [vi 0], .mu mE [vi 0], .mu mT (List.replicate (t.exprs.map Ex.cells).length (List.map AV.v (TT 3).zero)).flatten, .mu mL (List.replicate (t.funcs.map Fu.cells).length (List.map AV.v (TT 30).zero)).flatten]) (fun hTL => ?_) ?_
  rotate_left
  · rintro ⟨mT, _, _, _, mL⟩
    refine DAny.effs [8, 16] (by kernel_rfl) (by decide) ?_
    refine Effs.cons 8 rfl (.none rfl) rfl (AOp.callP 0 rfl (by kernel_rfl) rfl rfl rfl (none38 (t.exprs.map Ex.cells).length (by omega)) (by rintro _ _ ⟨m⟩; exact DAny.at_ ZCode.closes (hTSL (mT, m, 0, 0, mL)) (by kernel_rfl) (.cons rfl (.cons rfl (.cons rfl (.cons rfl (.cons rfl (.cons rfl (.cons rfl (.cons rfl (.cons rfl (.cons rfl (.cons rfl (.cons rfl (.cons rfl (.nil)))))))))))))) (List.perm_middle (l₁ := [_, _, _, _]) (l₂ := [_])).symm) (by rintro _ _ ⟨⟩)) ?_
    refine Effs.cons 16 rfl (.none rfl) rfl (AOp.makeP (n := (t.stmts.map St.cells).length) rfl rfl rfl (tok _ rfl) rfl (tok _ rfl) (by decide) rfl rfl (fun _ => rfl) (by omega) rfl (fun m => ?_)) ?_
    · exact DAny.at_ ZCode.closes (hTFL (mT, 0, 0, m, mL)) (by kernel_rfl) (.cons rfl (.cons rfl (.cons rfl (.cons rfl (.cons rfl (.cons rfl (.cons rfl (.cons rfl (.cons rfl (.cons rfl (.cons rfl (.cons rfl (.cons rfl (.nil)))))))))))))) (List.Perm.append_left [_, _, _, _] (List.perm_append_comm (l₁ := [_]) (l₂ := [_])))
    exact Effs.nil
  refine DAny.meet (α := Nat × Nat × Nat × Nat × Nat) 7 #[true, true, true, true, false, true, true, true, true, true, true, true, true, true, true, true, false, true, true, true, false, false, false, false, false] (fun a => match a with | (mT, mS, mP, mF, mL) => [(1, .ip t.cells), (2, .mp mI 0), (3, .mp mA 0), (4, .mp mE 0), (12, .agg t.cells), (15, vi ((t.exprs.map Ex.cells).length : Int)), (19, vi ((t.exprs.map Ex.cells).length : Int)), (23, vi ((t.stmts.map St.cells).length : Int)), (27, vi ((t.stmts.map St.cells).length : Int)), (31, vi ((t.funcs.map Fu.cells).length : Int)), (20, .sl 1 mS 0 (t.exprs.map Ex.cells).length), (24, .sl 1 mP 0 (t.stmts.map St.cells).length)]) (fun a => match a with | (mT, mS, mP, mF, mL) => [.mu mI [nilv, nilv, nilv, nilv, nilv], .mu mA [vi 0], .mu mE [vi 0], .mu mS (List.replicate (t.exprs.map Ex.cells).length (vi (-1))), .mu mP (List.replicate (t.stmts.map St.cells).length (vi (-1)))]) (fun hSP => ?_) ?_
  rotate_left
  · rintro ⟨_, mS, mP, _, _⟩
    refine DAny.effs [4, 16, 20] (by kernel_rfl) (by decide) ?_
    refine Effs.cons 4 rfl (.none rfl) rfl (AOp.makeP (n := (t.exprs.map Ex.cells).length) rfl rfl rfl (tok _ rfl) rfl (tok _ rfl) (by decide) rfl rfl (fun _ => rfl) (by omega) rfl (fun m => ?_)) ?_
    · exact DAny.at_ ZCode.closes (hTSP (m, mS, mP, 0, 0)) (by kernel_rfl) (.cons rfl (.cons rfl (.cons rfl (.cons rfl (.cons rfl (.cons rfl (.cons rfl (.cons rfl (.cons rfl (.cons rfl (.cons rfl (.cons rfl (.cons rfl (.nil)))))))))))))) (List.Perm.append_left [_, _, _] (List.perm_append_comm (l₁ := [_, _]) (l₂ := [_])))
    refine Effs.cons 16 rfl (.none rfl) rfl (AOp.makeP (n := (t.stmts.map St.cells).length) rfl rfl rfl (tok _ rfl) rfl (tok _ rfl) (by decide) rfl rfl (fun _ => rfl) (by omega) rfl (fun m => ?_)) ?_
    · exact DAny.at_ ZCode.closes (hSPF (0, mS, mP, m, 0)) (by kernel_rfl) (.cons rfl (.cons rfl (.cons rfl (.cons rfl (.cons rfl (.cons rfl (.cons rfl (.cons rfl (.cons rfl (.cons rfl (.cons rfl (.cons rfl (.cons rfl (.nil)))))))))))))) (List.Perm.refl _)
    refine Effs.cons 20 rfl (.none rfl) rfl (AOp.makeP (n := (t.funcs.map Fu.cells).length) rfl rfl rfl (tok _ rfl) rfl (tok _ rfl) (by decide) rfl rfl (fun _ => rfl) (by omega) rfl (fun m => ?_)) ?_
    · exact DAny.at_ ZCode.closes (hSPL (0, mS, mP, 0, m)) (by kernel_rfl) (.cons rfl (.cons rfl (.cons rfl (.cons rfl (.cons rfl (.cons rfl (.cons rfl (.cons rfl (.cons rfl (.cons rfl (.cons rfl (.cons rfl (.cons rfl (.nil)))))))))))))) (List.Perm.refl _)
    exact Effs.nil
  refine DAny.meet (α := Nat × Nat × Nat × Nat × Nat) 7 #[true, true, true, true, false, true, true, true, true, true, true, true, false, true, true, true, true, true, true, true, false, false, false, false, false] (fun a => match a with | (mT, mS, mP, mF, mL) => [(1, .ip t.cells), (2, .mp mI 0), (3, .mp mA 0), (4, .mp mE 0), (12, .agg t.cells), (15, vi ((t.exprs.map Ex.cells).length : Int)), (19, vi ((t.exprs.map Ex.cells).length : Int)), (23, vi ((t.stmts.map St.cells).length : Int)), (27, vi ((t.stmts.map St.cells).length : Int)), (31, vi ((t.funcs.map Fu.cells).length : Int)), (20, .sl 1 mS 0 (t.exprs.map Ex.cells).length), (28, .sl 1 mF 0 (t.stmts.map St.cells).length)]) (fun a => match a with | (mT, mS, mP, mF, mL) => [.mu mI [nilv, nilv, nilv, nilv, nilv], .mu mA [vi 0], .mu mE [vi 0], .mu mS (List.replicate (t.exprs.map Ex.cells).length (vi (-1))), .mu mF (List.replicate (t.stmts.map St.cells).length (List.map AV.v (TT 3).zero)).flatten]) (fun hSF => ?_) ?_
  rotate_left
  · rintro ⟨_, mS, _, mF, _⟩
    refine DAny.effs [4, 12, 20] (by kernel_rfl) (by decide) ?_
    refine Effs.cons 4 rfl (.none rfl) rfl (AOp.makeP (n := (t.exprs.map Ex.cells).length) rfl rfl rfl (tok _ rfl) rfl (tok _ rfl) (by decide) rfl rfl (fun _ => rfl) (by omega) rfl (fun m => ?_)) ?_
    · exact DAny.at_ ZCode.closes (hTSF (m, mS, 0, mF, 0)) (by kernel_rfl) (.cons rfl (.cons rfl (.cons rfl (.cons rfl (.cons rfl (.cons rfl (.cons rfl (.cons rfl (.cons rfl (.cons rfl (.cons rfl (.cons rfl (.cons rfl (.nil)))))))))))))) (List.Perm.append_left [_, _, _] (List.perm_append_comm (l₁ := [_, _]) (l₂ := [_])))
    refine Effs.cons 12 rfl (.none rfl) rfl (AOp.callP 0 rfl (by kernel_rfl) rfl rfl rfl (none38 (t.stmts.map St.cells).length (by omega)) (by rintro _ _ ⟨m⟩; exact DAny.at_ ZCode.closes (hSPF (0, mS, m, mF, 0)) (by kernel_rfl) (.cons rfl (.cons rfl (.cons rfl (.cons rfl (.cons rfl (.cons rfl (.cons rfl (.cons rfl (.cons rfl (.cons rfl (.cons rfl (.cons rfl (.cons rfl (.nil)))))))))))))) (List.perm_middle (l₁ := [_, _, _, _]) (l₂ := [_])).symm) (by rintro _ _ ⟨⟩)) ?_
    refine Effs.cons 20 rfl (.none rfl) rfl (AOp.makeP (n := (t.funcs.map Fu.cells).length) rfl rfl rfl (tok _ rfl) rfl (tok _ rfl) (by decide) rfl rfl (fun _ => rfl) (by omega) rfl (fun m => ?_)) ?_
    · exact DAny.at_ ZCode.closes (hSFL (0, mS, 0, mF, m)) (by kernel_rfl) (.cons rfl (.cons rfl (.cons rfl (.cons rfl (.cons rfl (.cons rfl (.cons rfl (.cons rfl (.cons rfl (.cons rfl (.cons rfl (.cons rfl (.cons rfl (.nil)))))))))))))) (List.Perm.refl _)
    exact Effs.nil
  refine DAny.meet (α := Nat × Nat × Nat × Nat × Nat) 7 #[true, true, true, true, false, true, true, true, true, true, true, true, false, true, true, true, false, true, true, true, true, false, false, false, false] (fun a => match a with | (mT, mS, mP, mF, mL) => [(1, .ip t.cells), (2, .mp mI 0), (3, .mp mA 0), (4, .mp mE 0), (12, .agg t.cells), (15, vi ((t.exprs.map Ex.cells).length : Int)), (19, vi ((t.exprs.map Ex.cells).length : Int)), (23, vi ((t.stmts.map St.cells).length : Int)), (27, vi ((t.stmts.map St.cells).length : Int)), (31, vi ((t.funcs.map Fu.cells).length : Int)), (20, .sl 1 mS 0 (t.exprs.map Ex.cells).length), (32, .sl 1 mL 0 (t.funcs.map Fu.cells).length)]) (fun a => match a with | (mT, mS, mP, mF, mL) => [.mu mI [nilv, nilv, nilv, nilv, nilv], .mu mA [vi 0], .mu mE [vi 0], .mu mS (List.replicate (t.exprs.map Ex.cells).length (vi (-1))), .mu mL (List.replicate (t.funcs.map Fu.cells).length (List.map AV.v (TT 30).zero)).flatten]) (fun hSL => ?_) ?_
  rotate_left
  · rintro ⟨_, mS, _, _, mL⟩
    refine DAny.effs [4, 12, 16] (by kernel_rfl) (by decide) ?_
    refine Effs.cons 4 rfl (.none rfl) rfl (AOp.makeP (n := (t.exprs.map Ex.cells).length) rfl rfl rfl (tok _ rfl) rfl (tok _ rfl) (by decide) rfl rfl (fun _ => rfl) (by omega) rfl (fun m => ?_)) ?_
    · exact DAny.at_ ZCode.closes (hTSL (m, mS, 0, 0, mL)) (by kernel_rfl) (.cons rfl (.cons rfl (.cons rfl (.cons rfl (.cons rfl (.cons rfl (.cons rfl (.cons rfl (.cons rfl (.cons rfl (.cons rfl (.cons rfl (.cons rfl (.nil)))))))))))))) (List.Perm.append_left [_, _, _] (List.perm_append_comm (l₁ := [_, _]) (l₂ := [_])))
    refine Effs.cons 12 rfl (.none rfl) rfl (AOp.callP 0 rfl (by kernel_rfl) rfl rfl rfl (none38 (t.stmts.map St.cells).length (by omega)) (by rintro _ _ ⟨m⟩; exact DAny.at_ ZCode.closes (hSPL (0, mS, m, 0, mL)) (by kernel_rfl) (.cons rfl (.cons rfl (.cons rfl (.cons rfl (.cons rfl (.cons rfl (.cons rfl (.cons rfl (.cons rfl (.cons rfl (.cons rfl (.cons rfl (.cons rfl (.nil)))))))))))))) (List.perm_middle (l₁ := [_, _, _, _]) (l₂ := [_])).symm) (by rintro _ _ ⟨⟩)) ?_
    refine Effs.cons 16 rfl (.none rfl) rfl (AOp.makeP (n := (t.stmts.map St.cells).length) rfl rfl rfl (tok _ rfl) rfl (tok _ rfl) (by decide) rfl rfl (fun _ => rfl) (by omega) rfl (fun m => ?_)) ?_
    · exact DAny.at_ ZCode.closes (hSFL (0, mS, 0, m, mL)) (by kernel_rfl) (.cons rfl (.cons rfl (.cons rfl (.cons rfl (.cons rfl (.cons rfl (.cons rfl (.cons rfl (.cons rfl (.cons rfl (.cons rfl (.cons rfl (.cons rfl (.nil)))))))))))))) (List.Perm.append_left [_, _, _, _] (List.perm_append_comm (l₁ := [_]) (l₂ := [_])))
    exact Effs.nil
  refine DAny.meet (α := Nat × Nat × Nat × Nat × Nat) 7 #[true, true, true, true, false, true, true, true, false, true, true, true, false, true, true, true, true, true, true, true, true, false, false, false, false] (fun a => match a with | (mT, mS, mP, mF, mL) => [(1, .ip t.cells), (2, .mp mI 0), (3, .mp mA 0), (4, .mp mE 0), (12, .agg t.cells), (15, vi ((t.exprs.map Ex.cells).length : Int)), (19, vi ((t.exprs.map Ex.cells).length : Int)), (23, vi ((t.stmts.map St.cells).length : Int)), (27, vi ((t.stmts.map St.cells).length : Int)), (31, vi ((t.funcs.map Fu.cells).length : Int)), (28, .sl 1 mF 0 (t.stmts.map St.cells).length), (32, .sl 1 mL 0 (t.funcs.map Fu.cells).length)]) (fun a => match a with | (mT, mS, mP, mF, mL) => [.mu mI [nilv, nilv, nilv, nilv, nilv], .mu mA [vi 0], .mu mE [vi 0], .mu mF (List.replicate (t.stmts.map St.cells).length (List.map AV.v (TT 3).zero)).flatten, .mu mL (List.replicate (t.funcs.map Fu.cells).length (List.map AV.v (TT 30).zero)).flatten]) (fun hFL => ?_) ?_
  rotate_left
  · rintro ⟨_, _, _, mF, mL⟩
    refine DAny.effs [4, 8] (by kernel_rfl) (by decide) ?_
    refine Effs.cons 4 rfl (.none rfl) rfl (AOp.makeP (n := (t.exprs.map Ex.cells).length) rfl rfl rfl (tok _ rfl) rfl (tok _ rfl) (by decide) rfl rfl (fun _ => rfl) (by omega) rfl (fun m => ?_)) ?_
    · exact DAny.at_ ZCode.closes (hTFL (m, 0, 0, mF, mL)) (by kernel_rfl) (.cons rfl (.cons rfl (.cons rfl (.cons rfl (.cons rfl (.cons rfl (.cons rfl (.cons rfl (.cons rfl (.cons rfl (.cons rfl (.cons rfl (.cons rfl (.nil)))))))))))))) (List.Perm.append_left [_, _, _] (List.perm_append_comm (l₁ := [_, _]) (l₂ := [_])))
    refine Effs.cons 8 rfl (.none rfl) rfl (AOp.callP 0 rfl (by kernel_rfl) rfl rfl rfl (none38 (t.exprs.map Ex.cells).length (by omega)) (by rintro _ _ ⟨m⟩; exact DAny.at_ ZCode.closes (hSFL (0, m, 0, mF, mL)) (by kernel_rfl) (.cons rfl (.cons rfl (.cons rfl (.cons rfl (.cons rfl (.cons rfl (.cons rfl (.cons rfl (.cons rfl (.cons rfl (.cons rfl (.cons rfl (.cons rfl (.nil)))))))))))))) (List.perm_middle (l₁ := [_, _, _]) (l₂ := [_, _])).symm) (by rintro _ _ ⟨⟩)) ?_
    exact Effs.nil
  refine DAny.meet (α := Nat × Nat × Nat × Nat × Nat) 8 #[true, true, true, true, true, true, true, true, false, true, true, true, false, true, true, true, false, true, true, true, false, false, false, false, false] (fun a => match a with | (mT, mS, mP, mF, mL) => [(1, .ip t.cells), (2, .mp mI 0), (3, .mp mA 0), (4, .mp mE 0), (12, .agg t.cells), (15, vi ((t.exprs.map Ex.cells).length : Int)), (19, vi ((t.exprs.map Ex.cells).length : Int)), (23, vi ((t.stmts.map St.cells).length : Int)), (27, vi ((t.stmts.map St.cells).length : Int)), (31, vi ((t.funcs.map Fu.cells).length : Int)), (16, .sl 1 mT 0 (t.exprs.map Ex.cells).length)]) (fun a => match a with | (mT, mS, mP, mF, mL) => [.mu mI [nilv, nilv, nilv, nilv, nilv], .mu mA [vi 0], .mu mE [vi 0], .mu mT (List.replicate (t.exprs.map Ex.cells).length (List.map AV.v (TT 3).zero)).flatten]) (fun hT => ?_) ?_
  rotate_left
  · rintro ⟨mT, _, _, _, _⟩
    refine DAny.effs [8, 16, 20] (by kernel_rfl) (by decide) ?_
    refine Effs.cons 8 rfl (.none rfl) rfl (AOp.callP 0 rfl (by kernel_rfl) rfl rfl rfl (none38 (t.exprs.map Ex.cells).length (by omega)) (by rintro _ _ ⟨m⟩; exact DAny.at_ ZCode.closes (hTS (mT, m, 0, 0, 0)) (by kernel_rfl) (.cons rfl (.cons rfl (.cons rfl (.cons rfl (.cons rfl (.cons rfl (.cons rfl (.cons rfl (.cons rfl (.cons rfl (.cons rfl (.cons rfl (.nil))))))))))))) (List.perm_middle (l₁ := [_, _, _, _]) (l₂ := [])).symm) (by rintro _ _ ⟨⟩)) ?_
    refine Effs.cons 16 rfl (.none rfl) rfl (AOp.makeP (n := (t.stmts.map St.cells).length) rfl rfl rfl (tok _ rfl) rfl (tok _ rfl) (by decide) rfl rfl (fun _ => rfl) (by omega) rfl (fun m => ?_)) ?_
    · exact DAny.at_ ZCode.closes (hTF (mT, 0, 0, m, 0)) (by kernel_rfl) (.cons rfl (.cons rfl (.cons rfl (.cons rfl (.cons rfl (.cons rfl (.cons rfl (.cons rfl (.cons rfl (.cons rfl (.cons rfl (.cons rfl (.nil))))))))))))) (List.Perm.refl _)
    refine Effs.cons 20 rfl (.none rfl) rfl (AOp.makeP (n := (t.funcs.map Fu.cells).length) rfl rfl rfl (tok _ rfl) rfl (tok _ rfl) (by decide) rfl rfl (fun _ => rfl) (by omega) rfl (fun m => ?_)) ?_
    · exact DAny.at_ ZCode.closes (hTL (mT, 0, 0, 0, m)) (by kernel_rfl) (.cons rfl (.cons rfl (.cons rfl (.cons rfl (.cons rfl (.cons rfl (.cons rfl (.cons rfl (.cons rfl (.cons rfl (.cons rfl (.cons rfl (.nil))))))))))))) (List.Perm.refl _)
    exact Effs.nil
  refine DAny.meet (α := Nat × Nat × Nat × Nat × Nat) 8 #[true, true, true, true, false, true, true, true, true, true, true, true, false, true, true, true, false, true, true, true, false, false, false, false, false] (fun a => match a with | (mT, mS, mP, mF, mL) => [(1, .ip t.cells), (2, .mp mI 0), (3, .mp mA 0), (4, .mp mE 0), (12, .agg t.cells), (15, vi ((t.exprs.map Ex.cells).length : Int)), (19, vi ((t.exprs.map Ex.cells).length : Int)), (23, vi ((t.stmts.map St.cells).length : Int)), (27, vi ((t.stmts.map St.cells).length : Int)), (31, vi ((t.funcs.map Fu.cells).length : Int)), (20, .sl 1 mS 0 (t.exprs.map Ex.cells).length)]) (fun a => match a with | (mT, mS, mP, mF, mL) => [.mu mI [nilv, nilv, nilv, nilv, nilv], .mu mA [vi 0], .mu mE [vi 0], .mu mS (List.replicate (t.exprs.map Ex.cells).length (vi (-1)))]) (fun hS => ?_) ?_
  rotate_left
  · rintro ⟨_, mS, _, _, _⟩
    refine DAny.effs [4, 12, 16, 20] (by kernel_rfl) (by decide) ?_
    refine Effs.cons 4 rfl (.none rfl) rfl (AOp.makeP (n := (t.exprs.map Ex.cells).length) rfl rfl rfl (tok _ rfl) rfl (tok _ rfl) (by decide) rfl rfl (fun _ => rfl) (by omega) rfl (fun m => ?_)) ?_
    · exact DAny.at_ ZCode.closes (hTS (m, mS, 0, 0, 0)) (by kernel_rfl) (.cons rfl (.cons rfl (.cons rfl (.cons rfl (.cons rfl (.cons rfl (.cons rfl (.cons rfl (.cons rfl (.cons rfl (.cons rfl (.cons rfl (.nil))))))))))))) (List.Perm.append_left [_, _, _] (List.perm_append_comm (l₁ := [_]) (l₂ := [_])))
    refine Effs.cons 12 rfl (.none rfl) rfl (AOp.callP 0 rfl (by kernel_rfl) rfl rfl rfl (none38 (t.stmts.map St.cells).length (by omega)) (by rintro _ _ ⟨m⟩; exact DAny.at_ ZCode.closes (hSP (0, mS, m, 0, 0)) (by kernel_rfl) (.cons rfl (.cons rfl (.cons rfl (.cons rfl (.cons rfl (.cons rfl (.cons rfl (.cons rfl (.cons rfl (.cons rfl (.cons rfl (.cons rfl (.nil))))))))))))) (List.perm_middle (l₁ := [_, _, _, _]) (l₂ := [])).symm) (by rintro _ _ ⟨⟩)) ?_
    refine Effs.cons 16 rfl (.none rfl) rfl (AOp.makeP (n := (t.stmts.map St.cells).length) rfl rfl rfl (tok _ rfl) rfl (tok _ rfl) (by decide) rfl rfl (fun _ => rfl) (by omega) rfl (fun m => ?_)) ?_
    · exact DAny.at_ ZCode.closes (hSF (0, mS, 0, m, 0)) (by kernel_rfl) (.cons rfl (.cons rfl (.cons rfl (.cons rfl (.cons rfl (.cons rfl (.cons rfl (.cons rfl (.cons rfl (.cons rfl (.cons rfl (.cons rfl (.nil))))))))))))) (List.Perm.refl _)
    refine Effs.cons 20 rfl (.none rfl) rfl (AOp.makeP (n := (t.funcs.map Fu.cells).length) rfl rfl rfl (tok _ rfl) rfl (tok _ rfl) (by decide) rfl rfl (fun _ => rfl) (by omega) rfl (fun m => ?_)) ?_
    · exact DAny.at_ ZCode.closes (hSL (0, mS, 0, 0, m)) (by kernel_rfl) (.cons rfl (.cons rfl (.cons rfl (.cons rfl (.cons rfl (.cons rfl (.cons rfl (.cons rfl (.cons rfl (.cons rfl (.cons rfl (.cons rfl (.nil))))))))))))) (List.Perm.refl _)
    exact Effs.nil
  refine DAny.meet (α := Nat × Nat × Nat × Nat × Nat) 8 #[true, true, true, true, false, true, true, true, false, true, true, true, false, true, true, true, true, true, true, true, false, false, false, false, false] (fun a => match a with | (mT, mS, mP, mF, mL) => [(1, .ip t.cells), (2, .mp mI 0), (3, .mp mA 0), (4, .mp mE 0), (12, .agg t.cells), (15, vi ((t.exprs.map Ex.cells).length : Int)), (19, vi ((t.exprs.map Ex.cells).length : Int)), (23, vi ((t.stmts.map St.cells).length : Int)), (27, vi ((t.stmts.map St.cells).length : Int)), (31, vi ((t.funcs.map Fu.cells).length : Int)), (28, .sl 1 mF 0 (t.stmts.map St.cells).length)]) (fun a => match a with | (mT, mS, mP, mF, mL) => [.mu mI [nilv, nilv, nilv, nilv, nilv], .mu mA [vi 0], .mu mE [vi 0], .mu mF (List.replicate (t.stmts.map St.cells).length (List.map AV.v (TT 3).zero)).flatten]) (fun hF => ?_) ?_
  rotate_left
  · rintro ⟨_, _, _, mF, _⟩
    refine DAny.effs [4, 8, 20] (by kernel_rfl) (by decide) ?_
    refine Effs.cons 4 rfl (.none rfl) rfl (AOp.makeP (n := (t.exprs.map Ex.cells).length) rfl rfl rfl (tok _ rfl) rfl (tok _ rfl) (by decide) rfl rfl (fun _ => rfl) (by omega) rfl (fun m => ?_)) ?_
    · exact DAny.at_ ZCode.closes (hTF (m, 0, 0, mF, 0)) (by kernel_rfl) (.cons rfl (.cons rfl (.cons rfl (.cons rfl (.cons rfl (.cons rfl (.cons rfl (.cons rfl (.cons rfl (.cons rfl (.cons rfl (.cons rfl (.nil))))))))))))) (List.Perm.append_left [_, _, _] (List.perm_append_comm (l₁ := [_]) (l₂ := [_])))
    refine Effs.cons 8 rfl (.none rfl) rfl (AOp.callP 0 rfl (by kernel_rfl) rfl rfl rfl (none38 (t.exprs.map Ex.cells).length (by omega)) (by rintro _ _ ⟨m⟩; exact DAny.at_ ZCode.closes (hSF (0, m, 0, mF, 0)) (by kernel_rfl) (.cons rfl (.cons rfl (.cons rfl (.cons rfl (.cons rfl (.cons rfl (.cons rfl (.cons rfl (.cons rfl (.cons rfl (.cons rfl (.cons rfl (.nil))))))))))))) (List.perm_middle (l₁ := [_, _, _]) (l₂ := [_])).symm) (by rintro _ _ ⟨⟩)) ?_
    refine Effs.cons 20 rfl (.none rfl) rfl (AOp.makeP (n := (t.funcs.map Fu.cells).length) rfl rfl rfl (tok _ rfl) rfl (tok _ rfl) (by decide) rfl rfl (fun _ => rfl) (by omega) rfl (fun m => ?_)) ?_
    · exact DAny.at_ ZCode.closes (hFL (0, 0, 0, mF, m)) (by kernel_rfl) (.cons rfl (.cons rfl (.cons rfl (.cons rfl (.cons rfl (.cons rfl (.cons rfl (.cons rfl (.cons rfl (.cons rfl (.cons rfl (.cons rfl (.nil))))))))))))) (List.Perm.refl _)
    exact Effs.nil
  refine DAny.meet (α := Nat × Nat × Nat × Nat × Nat) 8 #[true, true, true, true, false, true, true, true, false, true, true, true, false, true, true, true, false, true, true, true, true, false, false, false, false] (fun a => match a with | (mT, mS, mP, mF, mL) => [(1, .ip t.cells), (2, .mp mI 0), (3, .mp mA 0), (4, .mp mE 0), (12, .agg t.cells), (15, vi ((t.exprs.map Ex.cells).length : Int)), (19, vi ((t.exprs.map Ex.cells).length : Int)), (23, vi ((t.stmts.map St.cells).length : Int)), (27, vi ((t.stmts.map St.cells).length : Int)), (31, vi ((t.funcs.map Fu.cells).length : Int)), (32, .sl 1 mL 0 (t.funcs.map Fu.cells).length)]) (fun a => match a with | (mT, mS, mP, mF, mL) => [.mu mI [nilv, nilv, nilv, nilv, nilv], .mu mA [vi 0], .mu mE [vi 0], .mu mL (List.replicate (t.funcs.map Fu.cells).length (List.map AV.v (TT 30).zero)).flatten]) (fun hL => ?_) ?_
  rotate_left
  · rintro ⟨_, _, _, _, mL⟩
    refine DAny.effs [4, 8, 16] (by kernel_rfl) (by decide) ?_
    refine Effs.cons 4 rfl (.none rfl) rfl (AOp.makeP (n := (t.exprs.map Ex.cells).length) rfl rfl rfl (tok _ rfl) rfl (tok _ rfl) (by decide) rfl rfl (fun _ => rfl) (by omega) rfl (fun m => ?_)) ?_
    · exact DAny.at_ ZCode.closes (hTL (m, 0, 0, 0, mL)) (by kernel_rfl) (.cons rfl (.cons rfl (.cons rfl (.cons rfl (.cons rfl (.cons rfl (.cons rfl (.cons rfl (.cons rfl (.cons rfl (.cons rfl (.cons rfl (.nil))))))))))))) (List.Perm.append_left [_, _, _] (List.perm_append_comm (l₁ := [_]) (l₂ := [_])))
    refine Effs.cons 8 rfl (.none rfl) rfl (AOp.callP 0 rfl (by kernel_rfl) rfl rfl rfl (none38 (t.exprs.map Ex.cells).length (by omega)) (by rintro _ _ ⟨m⟩; exact DAny.at_ ZCode.closes (hSL (0, m, 0, 0, mL)) (by kernel_rfl) (.cons rfl (.cons rfl (.cons rfl (.cons rfl (.cons rfl (.cons rfl (.cons rfl (.cons rfl (.cons rfl (.cons rfl (.cons rfl (.cons rfl (.nil))))))))))))) (List.perm_middle (l₁ := [_, _, _]) (l₂ := [_])).symm) (by rintro _ _ ⟨⟩)) ?_
    refine Effs.cons 16 rfl (.none rfl) rfl (AOp.makeP (n := (t.stmts.map St.cells).length) rfl rfl rfl (tok _ rfl) rfl (tok _ rfl) (by decide) rfl rfl (fun _ => rfl) (by omega) rfl (fun m => ?_)) ?_
    · exact DAny.at_ ZCode.closes (hFL (0, 0, 0, m, mL)) (by kernel_rfl) (.cons rfl (.cons rfl (.cons rfl (.cons rfl (.cons rfl (.cons rfl (.cons rfl (.cons rfl (.cons rfl (.cons rfl (.cons rfl (.cons rfl (.nil))))))))))))) (List.Perm.append_left [_, _, _] (List.perm_append_comm (l₁ := [_]) (l₂ := [_])))
    exact Effs.nil
  refine DAny.effs [4, 8, 16, 20] (by kernel_rfl) (by decide) ?_
  refine Effs.cons 4 rfl (.none rfl) rfl (AOp.makeP (n := (t.exprs.map Ex.cells).length) rfl rfl rfl (tok _ rfl) rfl (tok _ rfl) (by decide) rfl rfl (fun _ => rfl) (by omega) rfl (fun m => ?_)) ?_
  · exact DAny.at_ ZCode.closes (hT (m, 0, 0, 0, 0)) (by kernel_rfl) (.cons rfl (.cons rfl (.cons rfl (.cons rfl (.cons rfl (.cons rfl (.cons rfl (.cons rfl (.cons rfl (.cons rfl (.cons rfl (.nil)))))))))))) (List.Perm.refl _)
  refine Effs.cons 8 rfl (.none rfl) rfl (AOp.callP 0 rfl (by kernel_rfl) rfl rfl rfl (none38 (t.exprs.map Ex.cells).length (by omega)) (by rintro _ _ ⟨m⟩; exact DAny.at_ ZCode.closes (hS (0, m, 0, 0, 0)) (by kernel_rfl) (.cons rfl (.cons rfl (.cons rfl (.cons rfl (.cons rfl (.cons rfl (.cons rfl (.cons rfl (.cons rfl (.cons rfl (.cons rfl (.nil)))))))))))) (List.perm_middle (l₁ := [_, _, _]) (l₂ := [])).symm) (by rintro _ _ ⟨⟩)) ?_
  refine Effs.cons 16 rfl (.none rfl) rfl (AOp.makeP (n := (t.stmts.map St.cells).length) rfl rfl rfl (tok _ rfl) rfl (tok _ rfl) (by decide) rfl rfl (fun _ => rfl) (by omega) rfl (fun m => ?_)) ?_
  · exact DAny.at_ ZCode.closes (hF (0, 0, 0, m, 0)) (by kernel_rfl) (.cons rfl (.cons rfl (.cons rfl (.cons rfl (.cons rfl (.cons rfl (.cons rfl (.cons rfl (.cons rfl (.cons rfl (.cons rfl (.nil)))))))))))) (List.Perm.refl _)
  refine Effs.cons 20 rfl (.none rfl) rfl (AOp.makeP (n := (t.funcs.map Fu.cells).length) rfl rfl rfl (tok _ rfl) rfl (tok _ rfl) (by decide) rfl rfl (fun _ => rfl) (by omega) rfl (fun m => ?_)) ?_
  · exact DAny.at_ ZCode.closes (hL (0, 0, 0, 0, m)) (by kernel_rfl) (.cons rfl (.cons rfl (.cons rfl (.cons rfl (.cons rfl (.cons rfl (.cons rfl (.cons rfl (.cons rfl (.cons rfl (.cons rfl (.nil)))))))))))) (List.Perm.refl _)
  exact Effs.nil
end Go.Proofs.Ytaadamobapnfbaa
set_option linter.unusedVariables false
set_option linter.unusedSimpArgs false
set_option maxRecDepth 1000000
namespace Go.Proofs.Ytaadamobapnfbaa
open Go Go.Abs
theorem IsTree.exOk {s : ByteArray} {t : Tree} {toks : List Tok} {at_ : Int} (h : IsTree s t toks at_) : ∀ (i : Nat) (x : Ex), t.exprs[i]? = Option.some x → ExOk x := fun i x hx => by
  have hlt := (List.getElem?_eq_some_iff.1 hx).1
  obtain ⟨k, g, a', b', c', d', x', y', q1, q2, q3, q4, q5, q6, q7, q8, q9, q10⟩ := h.cov.one_e i (Nat.zero_le _) hlt
  exact (q2.ex i x q9 q10 hx).1
theorem IsTree.x {s : ByteArray} {t : Tree} {toks : List Tok} {at_ : Int} (h : IsTree s t toks at_) : TreeX t := ⟨h.ok.ex, fun i x hx => (h.exOk i x hx).op8⟩
theorem IsTree.check {s : ByteArray} {t : Tree} {toks : List Tok} {at_ : Int} (h : IsTree s t toks at_) : ACalls Try.prog 24 [.agg t.cells] [] (RK t) :=
  check24_ok t h.ok h.x (by have := h.big; omega)
def s6 : ByteArray := ⟨#[102, 117, 110, 99, 32, 109, 97, 105, 110, 40, 41, 32, 123, 32, 112, 114, 105, 110, 116, 32, 120, 59, 32, 125]⟩
theorem s6_code : (parse s6).2.2 = 0 := by decide +kernel
theorem s6_bad : (checked (parse s6).1).code = 6 ∧ (checked (parse s6).1).at_ = 20 := by decide +kernel
set_option maxHeartbeats 1000000 in
theorem awake6_walk : ACalls Try.prog 22 [] [] (RV (.v (.bool true)) []) := by
  have hp := parse_ok s6 (by decide)
  obtain ⟨toks, at_, htree⟩ := parse_tree (s := s6) (by decide) s6_code
  have hck := htree.check
  obtain ⟨b1, b2⟩ := s6_bad
  rw [s6_code] at hp
  change ACalls Try.prog 23 [vs s6] [] _ at hp
  generalize (parse s6).1 = t at *
  refine ACalls.of_code (c := _) Try.func22 rfl Try.ntmps22 (Nat.le_of_ble_eq_true rfl) ?_
  repeat (first | (refine ACode.seq ?_) | (refine ACode.region ?_) | (refine ACode.ret ?_) | (refine ACode.skip ?_) | (refine ACode.exit ?_) | (refine ACode.block ?_) | (refine AExit.then_normal ?_) | (refine AExit.then_ret ?_) | (refine AExit.then_exit ?_) | (refine AExit.in_normal ?_) | (refine AExit.in_ret ?_) | (refine AExit.in_same ?_) | (refine AExit.in_other rfl ?_) | (refine ASeq.nil ?_))
  refine ASeq.q rfl rfl (QOp.assign rfl rfl) ?_
  refine ASeq.nil ?_
  repeat (first | (refine ACode.seq ?_) | (refine ACode.region ?_) | (refine ACode.ret ?_) | (refine ACode.skip ?_) | (refine ACode.exit ?_) | (refine ACode.block ?_) | (refine AExit.then_normal ?_) | (refine AExit.then_ret ?_) | (refine AExit.then_exit ?_) | (refine AExit.in_normal ?_) | (refine AExit.in_ret ?_) | (refine AExit.in_same ?_) | (refine AExit.in_other rfl ?_) | (refine ASeq.nil ?_))
  refine ASeq.op rfl rfl (AOp.callP 0 rfl (by kernel_rfl) rfl rfl rfl (hp) ?_ (by rintro _ _ ⟨⟩))
  rintro _ _ ⟨⟩
  refine ASeq.q rfl rfl (QOp.move rfl rfl) ?_
  refine ASeq.q rfl rfl (QOp.extract rfl rfl rfl) ?_
  refine ASeq.q rfl rfl (QOp.extract rfl rfl rfl) ?_
  refine ASeq.q rfl rfl (QOp.extract rfl rfl rfl) ?_
  refine ASeq.op rfl rfl (AOp.allocP rfl (tok _ rfl) rfl rfl (fun _ => rfl) (fun _ => ?_))
  first | (refine ASeq.op0 rfl rfl (AOp.storeP 0 rfl rfl rfl rfl (tok _ rfl) rfl rfl rfl rfl ?_)) | (refine ASeq.op0 rfl rfl (AOp.storeP 1 rfl rfl rfl rfl (tok _ rfl) rfl rfl rfl rfl ?_)) | (refine ASeq.op0 rfl rfl (AOp.storeP 2 rfl rfl rfl rfl (tok _ rfl) rfl rfl rfl rfl ?_)) | (refine ASeq.op0 rfl rfl (AOp.storeP 3 rfl rfl rfl rfl (tok _ rfl) rfl rfl rfl rfl ?_)) | (refine ASeq.op0 rfl rfl (AOp.storeP 4 rfl rfl rfl rfl (tok _ rfl) rfl rfl rfl rfl ?_)) | (refine ASeq.op0 rfl rfl (AOp.storeP 5 rfl rfl rfl rfl (tok _ rfl) rfl rfl rfl rfl ?_)) | (refine ASeq.op0 rfl rfl (AOp.storeP 6 rfl rfl rfl rfl (tok _ rfl) rfl rfl rfl rfl ?_)) | (refine ASeq.op0 rfl rfl (AOp.storeP 7 rfl rfl rfl rfl (tok _ rfl) rfl rfl rfl rfl ?_)) | (refine ASeq.op0 rfl rfl (AOp.storeP 8 rfl rfl rfl rfl (tok _ rfl) rfl rfl rfl rfl ?_)) | (refine ASeq.op0 rfl rfl (AOp.storeP 9 rfl rfl rfl rfl (tok _ rfl) rfl rfl rfl rfl ?_)) | (refine ASeq.op0 rfl rfl (AOp.storeP 10 rfl rfl rfl rfl (tok _ rfl) rfl rfl rfl rfl ?_)) | (refine ASeq.op0 rfl rfl (AOp.storeP 11 rfl rfl rfl rfl (tok _ rfl) rfl rfl rfl rfl ?_)) | (refine ASeq.op0 rfl rfl (AOp.storeP 12 rfl rfl rfl rfl (tok _ rfl) rfl rfl rfl rfl ?_)) | (refine ASeq.op0 rfl rfl (AOp.storeP 13 rfl rfl rfl rfl (tok _ rfl) rfl rfl rfl rfl ?_)) | (refine ASeq.op0 rfl rfl (AOp.storeP 14 rfl rfl rfl rfl (tok _ rfl) rfl rfl rfl rfl ?_)) | (refine ASeq.op0 rfl rfl (AOp.storeP 15 rfl rfl rfl rfl (tok _ rfl) rfl rfl rfl rfl ?_))
  refine ASeq.q rfl rfl (QOp.assign rfl rfl) ?_
  refine ASeq.q rfl rfl (QOp.assign rfl rfl) ?_
  refine ASeq.nil ?_
  rename_i m1
  repeat (first | (refine ACode.seq ?_) | (refine ACode.region ?_) | (refine ACode.ret ?_) | (refine ACode.skip ?_) | (refine ACode.exit ?_) | (refine ACode.block ?_) | (refine AExit.then_normal ?_) | (refine AExit.then_ret ?_) | (refine AExit.then_exit ?_) | (refine AExit.in_normal ?_) | (refine AExit.in_ret ?_) | (refine AExit.in_same ?_) | (refine AExit.in_other rfl ?_) | (refine ASeq.nil ?_))
  first | (refine ASeq.q rfl rfl (QOp.loadI rfl rfl (tok _ rfl) rfl) ?_) | (refine ASeq.q rfl rfl (QOp.loadM 0 rfl rfl rfl (tok _ rfl) rfl) ?_) | (refine ASeq.q rfl rfl (QOp.loadM 1 rfl rfl rfl (tok _ rfl) rfl) ?_) | (refine ASeq.q rfl rfl (QOp.loadM 2 rfl rfl rfl (tok _ rfl) rfl) ?_) | (refine ASeq.q rfl rfl (QOp.loadM 3 rfl rfl rfl (tok _ rfl) rfl) ?_) | (refine ASeq.q rfl rfl (QOp.loadM 4 rfl rfl rfl (tok _ rfl) rfl) ?_) | (refine ASeq.q rfl rfl (QOp.loadM 5 rfl rfl rfl (tok _ rfl) rfl) ?_) | (refine ASeq.q rfl rfl (QOp.loadM 6 rfl rfl rfl (tok _ rfl) rfl) ?_) | (refine ASeq.q rfl rfl (QOp.loadM 7 rfl rfl rfl (tok _ rfl) rfl) ?_) | (refine ASeq.q rfl rfl (QOp.loadM 8 rfl rfl rfl (tok _ rfl) rfl) ?_) | (refine ASeq.q rfl rfl (QOp.loadM 9 rfl rfl rfl (tok _ rfl) rfl) ?_) | (refine ASeq.q rfl rfl (QOp.loadM 10 rfl rfl rfl (tok _ rfl) rfl) ?_) | (refine ASeq.q rfl rfl (QOp.loadM 11 rfl rfl rfl (tok _ rfl) rfl) ?_) | (refine ASeq.q rfl rfl (QOp.loadM 12 rfl rfl rfl (tok _ rfl) rfl) ?_) | (refine ASeq.q rfl rfl (QOp.loadM 13 rfl rfl rfl (tok _ rfl) rfl) ?_) | (refine ASeq.q rfl rfl (QOp.loadM 14 rfl rfl rfl (tok _ rfl) rfl) ?_) | (refine ASeq.q rfl rfl (QOp.loadM 15 rfl rfl rfl (tok _ rfl) rfl) ?_) | (refine ASeq.q rfl rfl (QOp.loadAt 0 rfl rfl rfl (tok _ rfl) rfl (by assumption)) ?_) | (refine ASeq.q rfl rfl (QOp.loadAt 1 rfl rfl rfl (tok _ rfl) rfl (by assumption)) ?_) | (refine ASeq.q rfl rfl (QOp.loadAt 2 rfl rfl rfl (tok _ rfl) rfl (by assumption)) ?_) | (refine ASeq.q rfl rfl (QOp.loadAt 3 rfl rfl rfl (tok _ rfl) rfl (by assumption)) ?_) | (refine ASeq.q rfl rfl (QOp.loadAt 4 rfl rfl rfl (tok _ rfl) rfl (by assumption)) ?_) | (refine ASeq.q rfl rfl (QOp.loadAt 5 rfl rfl rfl (tok _ rfl) rfl (by assumption)) ?_) | (refine ASeq.q rfl rfl (QOp.loadAt 6 rfl rfl rfl (tok _ rfl) rfl (by assumption)) ?_) | (refine ASeq.q rfl rfl (QOp.loadAt 7 rfl rfl rfl (tok _ rfl) rfl (by assumption)) ?_)
  refine ASeq.op rfl rfl (AOp.callP 0 rfl (by kernel_rfl) rfl rfl rfl hck ?_ (by rintro _ _ ⟨⟩))
  rintro _ _ (⟨hbad⟩ | ⟨hgood, m, τ⟩)
  · rw [b1, b2]
    refine ASeq.q rfl rfl (QOp.move rfl rfl) ?_
    refine ASeq.q rfl rfl (QOp.extract rfl rfl rfl) ?_
    refine ASeq.q rfl rfl (QOp.extract rfl rfl rfl) ?_
    refine ASeq.q rfl rfl (QOp.extract rfl rfl rfl) ?_
    refine ASeq.op rfl rfl (AOp.allocP rfl (tok _ rfl) rfl rfl (fun _ => rfl) (fun _ => ?_))
    first | (refine ASeq.op0 rfl rfl (AOp.storeP 0 rfl rfl rfl rfl (tok _ rfl) rfl rfl rfl rfl ?_)) | (refine ASeq.op0 rfl rfl (AOp.storeP 1 rfl rfl rfl rfl (tok _ rfl) rfl rfl rfl rfl ?_)) | (refine ASeq.op0 rfl rfl (AOp.storeP 2 rfl rfl rfl rfl (tok _ rfl) rfl rfl rfl rfl ?_)) | (refine ASeq.op0 rfl rfl (AOp.storeP 3 rfl rfl rfl rfl (tok _ rfl) rfl rfl rfl rfl ?_)) | (refine ASeq.op0 rfl rfl (AOp.storeP 4 rfl rfl rfl rfl (tok _ rfl) rfl rfl rfl rfl ?_)) | (refine ASeq.op0 rfl rfl (AOp.storeP 5 rfl rfl rfl rfl (tok _ rfl) rfl rfl rfl rfl ?_)) | (refine ASeq.op0 rfl rfl (AOp.storeP 6 rfl rfl rfl rfl (tok _ rfl) rfl rfl rfl rfl ?_)) | (refine ASeq.op0 rfl rfl (AOp.storeP 7 rfl rfl rfl rfl (tok _ rfl) rfl rfl rfl rfl ?_)) | (refine ASeq.op0 rfl rfl (AOp.storeP 8 rfl rfl rfl rfl (tok _ rfl) rfl rfl rfl rfl ?_)) | (refine ASeq.op0 rfl rfl (AOp.storeP 9 rfl rfl rfl rfl (tok _ rfl) rfl rfl rfl rfl ?_)) | (refine ASeq.op0 rfl rfl (AOp.storeP 10 rfl rfl rfl rfl (tok _ rfl) rfl rfl rfl rfl ?_)) | (refine ASeq.op0 rfl rfl (AOp.storeP 11 rfl rfl rfl rfl (tok _ rfl) rfl rfl rfl rfl ?_)) | (refine ASeq.op0 rfl rfl (AOp.storeP 12 rfl rfl rfl rfl (tok _ rfl) rfl rfl rfl rfl ?_)) | (refine ASeq.op0 rfl rfl (AOp.storeP 13 rfl rfl rfl rfl (tok _ rfl) rfl rfl rfl rfl ?_)) | (refine ASeq.op0 rfl rfl (AOp.storeP 14 rfl rfl rfl rfl (tok _ rfl) rfl rfl rfl rfl ?_)) | (refine ASeq.op0 rfl rfl (AOp.storeP 15 rfl rfl rfl rfl (tok _ rfl) rfl rfl rfl rfl ?_))
    refine ASeq.q rfl rfl (QOp.assign rfl rfl) ?_
    refine ASeq.q rfl rfl (QOp.assign rfl rfl) ?_
    refine ASeq.nil ?_
    repeat (first | (refine ACode.seq ?_) | (refine ACode.region ?_) | (refine ACode.ret ?_) | (refine ACode.skip ?_) | (refine ACode.exit ?_) | (refine ACode.block ?_) | (refine AExit.then_normal ?_) | (refine AExit.then_ret ?_) | (refine AExit.then_exit ?_) | (refine AExit.in_normal ?_) | (refine AExit.in_ret ?_) | (refine AExit.in_same ?_) | (refine AExit.in_other rfl ?_) | (refine ASeq.nil ?_))
    refine ASeq.q rfl rfl (QOp.move rfl rfl) ?_
    refine ASeq.q rfl rfl (QOp.cmp rfl rfl rfl rfl) ?_
    refine ASeq.q rfl rfl (QOp.move rfl rfl) ?_
    first | (refine ASeq.gq _ _ rfl rfl rfl rfl (QOp.move rfl rfl) ?_) | (refine ASeq.gno _ _ rfl rfl rfl rfl rfl ?_)
    first | (refine ASeq.gq _ _ rfl rfl rfl rfl (QOp.cmp rfl rfl rfl rfl) ?_) | (refine ASeq.gno _ _ rfl rfl rfl rfl rfl ?_)
    first | (refine ASeq.q rfl rfl (QOp.pickT rfl rfl rfl) ?_) | (refine ASeq.q rfl rfl (QOp.pickF rfl rfl rfl) ?_)
    refine ASeq.q rfl rfl (QOp.move rfl rfl) ?_
    first | (refine ASeq.gq _ _ rfl rfl rfl rfl (QOp.move rfl rfl) ?_) | (refine ASeq.gno _ _ rfl rfl rfl rfl rfl ?_)
    first | (refine ASeq.gq _ _ rfl rfl rfl rfl (QOp.cmp rfl rfl rfl rfl) ?_) | (refine ASeq.gno _ _ rfl rfl rfl rfl rfl ?_)
    first | (refine ASeq.q rfl rfl (QOp.pickT rfl rfl rfl) ?_) | (refine ASeq.q rfl rfl (QOp.pickF rfl rfl rfl) ?_)
    refine ASeq.q rfl rfl (QOp.assign rfl rfl) ?_
    refine ASeq.nil ?_
    repeat (first | (refine ACode.seq ?_) | (refine ACode.region ?_) | (refine ACode.ret ?_) | (refine ACode.skip ?_) | (refine ACode.exit ?_) | (refine ACode.block ?_) | (refine AExit.then_normal ?_) | (refine AExit.then_ret ?_) | (refine AExit.then_exit ?_) | (refine AExit.in_normal ?_) | (refine AExit.in_ret ?_) | (refine AExit.in_same ?_) | (refine AExit.in_other rfl ?_) | (refine ASeq.nil ?_))
    refine bodyQ_ret 0 (.tmp rfl .nil) rfl ?_
    exact .mk
  · rw [b1] at hgood; cases hgood
end Go.Proofs.Ytaadamobapnfbaa
set_option linter.unusedVariables false
set_option linter.unusedSimpArgs false
set_option maxRecDepth 1000000
namespace Go.Proofs.Ytaadamobapnfbaa
open Go Go.Abs
/-- a place where something begins, or 0 -/
def Begins (t : Tree) (a : Int) : Prop := a = 0 ∨ (∃ x ∈ t.exprs, x.fr = a) ∨ (∃ x ∈ t.stmts, x.fr = a) ∨ ∃ x ∈ t.funcs, x.fr = a
structure Bg (t : Tree) (c : CS) : Prop where
  tt : c.t = t
  at_ : Begins t c.at_
theorem Bg.same {t : Tree} {c d : CS} (h : Bg t c) (h1 : d.t = c.t) (h2 : d.at_ = c.at_) : Bg t d := ⟨h1.trans h.tt, by rw [h2]; exact h.at_⟩
theorem Bg.need {t : Tree} {c : CS} (h : Bg t c) (ok : Bool) (a k : Int) (ha : Begins t a) : Bg t (c.need ok a k) := by
  unfold CS.need
  split
  · exact ⟨h.tt, ha⟩
  · exact h
theorem getD_mem {α : Type} [Inhabited α] (l : List α) (n : Nat) : l.getD n default ∈ l ∨ l.getD n default = default := by
  rw [List.getD_eq_getElem?_getD]
  by_cases h : n < l.length
  · rw [List.getElem?_eq_getElem h]; exact .inl (List.getElem_mem h)
  · rw [List.getElem?_eq_none (by omega)]; exact .inr rfl
theorem Bg.ex {t : Tree} {c : CS} (h : Bg t c) (i : Int) : Begins t (c.ex i).fr := by
  unfold CS.ex; rw [h.tt]
  rcases getD_mem t.exprs i.toNat with h1 | h1
  · exact .inr (.inl ⟨_, h1, rfl⟩)
  · rw [h1]; exact .inl rfl
theorem Bg.stm {t : Tree} {c : CS} (h : Bg t c) (i : Int) : Begins t (c.stm i).fr := by
  unfold CS.stm; rw [h.tt]
  rcases getD_mem t.stmts i.toNat with h1 | h1
  · exact .inr (.inr (.inl ⟨_, h1, rfl⟩))
  · rw [h1]; exact .inl rfl
theorem Bg.fu {t : Tree} {c : CS} (h : Bg t c) (i : Int) : Begins t (c.fu i).fr := by
  unfold CS.fu; rw [h.tt]
  rcases getD_mem t.funcs i.toNat with h1 | h1
  · exact .inr (.inr (.inr ⟨_, h1, rfl⟩))
  · rw [h1]; exact .inl rfl
theorem Bg.valOf {t : Tree} {r : CS × Int} (h : Bg t r.1) (i : Int) : Bg t (valOf r i).1 := h.need _ _ _ (h.ex i)
theorem Bg.slotOf {t : Tree} {c : CS} (h : Bg t c) (s : ByteArray) (b : Bool) (a : Int) (ha : Begins t a) : Bg t (c.slotOf s b a).1 := h.need _ _ _ ha
theorem Bg.args {t : Tree} {g : CS → Int → CS × Int} (hg : ∀ c i, Bg t c → Bg t (g c i).1) : ∀ (l : List Int) (c : CS) (b : Bool), Bg t c → Bg t (argsOf g l c b).1
  | [], c, b, h => h
  | a :: l, c, b, h => Bg.args hg l _ _ ((hg c a h).valOf a)
theorem Bg.kindCase {t : Tree} {g : CS → Int → CS × Int} (ih : ∀ c i, Bg t c → Bg t (g c i).1) (c : CS) (i : Int) (e : Ex) (h : Bg t c) (he : Begins t e.fr) : Bg t (kindCase g c i e).1 := by
  unfold Ytaadamobapnfbaa.kindCase
  split
  · exact h
  split
  · split
    · exact (h.slotOf _ _ _ he).same rfl rfl
    · exact h.slotOf _ _ _ he
  split
  · exact ((((ih _ _ h).valOf _).slotOf _ _ _ he).need _ _ _ he).same rfl rfl
  split
  · split
    · exact (((Bg.args ih _ _ _ h).need _ _ _ he).need _ _ _ he).same rfl rfl
    · exact (Bg.args ih _ _ _ h).need _ _ _ he
  split
  · exact ((ih _ _ h).valOf _).need _ _ _ he
  split
  · exact ((ih _ _ ((ih _ _ h).valOf _)).valOf _).need _ _ _ he
  · exact h
theorem Bg.typed {t : Tree} {r : CS × Int} (h : Bg t r.1) (i : Int) : Bg t (typed r i).1 := by
  unfold Ytaadamobapnfbaa.typed
  split
  · exact h.same rfl rfl
  · exact h
theorem Bg.expr6 {t : Tree} : ∀ (n : Nat) (c : CS) (i : Int), Bg t c → Bg t (expr6 n c i).1
  | 0, c, i, h => h
  | n + 1, c, i, h => by
    unfold Ytaadamobapnfbaa.expr6
    split
    · exact h
    · exact (Bg.kindCase (Bg.expr6 n) c i _ h (h.ex i)).typed i
theorem Bg.vals {t : Tree} {c : CS} (h : Bg t c) (i : Int) : Bg t (Ytaadamobapnfbaa.vals c i).1 := (Bg.expr6 _ _ _ h).valOf _
theorem Bg.decl {t : Tree} {c : CS} (h : Bg t c) (s : ByteArray) (k a : Int) (ha : Begins t a) : Bg t (c.decl s k a).1 := by
  unfold CS.decl
  split
  · exact (h.need _ _ _ ha).need _ _ _ ha
  · exact h.same rfl rfl
theorem Bg.stmts {t : Tree} {g : CS → Int → CS} (hg : ∀ c i, Bg t c → Bg t (g c i)) (b : Int) : ∀ (l : List Int) (c : CS), Bg t c → Bg t (stmtsOf g b l c)
  | [], c, h => h
  | i :: l, c, h => Bg.stmts hg b l _ ((hg c i h).same rfl rfl)
theorem Bg.blockOf {t : Tree} {g : CS → Int → CS} (hg : ∀ c i, Bg t c → Bg t (g c i)) (c : CS) (l : List Int) (h : Bg t c) : Bg t (blockOf g c l) :=
  (Bg.stmts hg (c.block + 1) l { c with block := c.block + 1 } (h.same rfl rfl)).same rfl rfl
theorem Bg.case {t : Tree} {g : CS → Int → CS} (hg : ∀ c i, Bg t c → Bg t (g c i)) (c : CS) (s : St) (h : Bg t c) (hs : Begins t s.fr) : Bg t (stmtCase g c s).1 := by
  have hv := h.vals s.a
  unfold stmtCase
  split
  · split
    · exact hv
    · exact hv.decl _ _ _ hs
  split
  · split
    · exact h.need _ _ _ hs
    · exact (h.need _ _ _ hs).decl _ _ _ hs
  split
  · split
    · exact hv
    · split
      · exact (hv.slotOf _ _ _ hs).need _ _ _ hs
      · exact hv.slotOf _ _ _ hs
  split
  · split
    · exact hv.vals _
    · exact ((hv.vals _).slotOf _ _ _ hs).need _ _ _ hs
  split
  · exact .blockOf hg _ _ (.blockOf hg _ _ (hv.need _ _ _ hs))
  split
  · have h1 : Bg t ({ (Ytaadamobapnfbaa.vals c s.a).1 with loops := c.loops + 1 } : CS) := hv.same rfl rfl
    exact (Bg.blockOf hg _ s.thn (h1.need _ _ _ hs)).same rfl rfl
  split
  · exact h.need _ _ _ hs
  split
  · split
    · exact hv.need _ _ _ hs
    · exact h.need _ _ _ hs
  split
  · exact hv
  split
  · exact Bg.expr6 _ _ _ h
  · exact h
theorem Bg.putted {t : Tree} {r : CS × Int} (h : Bg t r.1) (i : Int) : Bg t (putted r i) := by
  unfold Ytaadamobapnfbaa.putted
  split
  · exact h.same rfl rfl
  · exact h
theorem Bg.stm6 {t : Tree} : ∀ (n : Nat) (c : CS) (i : Int), Bg t c → Bg t (stm6 n c i)
  | 0, c, i, h => h
  | n + 1, c, i, h => by
    unfold Ytaadamobapnfbaa.stm6
    split
    · exact h
    · exact (Bg.case (Bg.stm6 n) (c.setFunc i c.f) (c.stm i) (h.same rfl rfl) (h.stm i)).putted i
theorem Bg.dupOf {t : Tree} (g : Fu) (hg : Begins t g.fr) : ∀ (l : List Fu) (c : CS), Bg t c → Bg t (dupOf g l c)
  | [], c, h => h
  | f :: l, c, h => Bg.dupOf g hg l _ (h.need _ _ _ hg)
theorem Bg.dups {t : Tree} : ∀ (l pre : List Fu) (c : CS), (∀ g ∈ l, Begins t g.fr) → Bg t c → Bg t (dups pre l c)
  | [], pre, c, hl, h => h
  | g :: l, pre, c, hl, h => Bg.dups l _ _ (fun g hg => hl g (by simp [hg])) (Bg.dupOf g (hl g (by simp)) pre c h)
theorem Bg.face {t : Tree} {c : CS} (h : Bg t c) : Bg t (faceOf c) := (h.need _ _ _ (.inl rfl)).need _ _ _ (h.fu 0)
theorem Bg.pars {t : Tree} (fr : Int) (hf : Begins t fr) : ∀ (l : List ByteArray) (c : CS), Bg t c → Bg t (parsOf fr l c)
  | [], c, h => h
  | p :: l, c, h => by
    refine Bg.pars fr hf l _ ?_
    split
    · exact h.decl _ _ _ hf
    · exact h
theorem Bg.body {t : Tree} : ∀ (l : List Int) (c : CS), Bg t c → Bg t (bodyOf l c)
  | [], c, h => h
  | k :: l, c, h => Bg.body l _ (Bg.stm6 _ _ _ h)
theorem Bg.funs {t : Tree} : ∀ (l : List Fu) (i : Nat) (c : CS), (∀ g ∈ l, Begins t g.fr) → Bg t c → Bg t (funs i l c)
  | [], i, c, hl, h => h
  | g :: l, i, c, hl, h => Bg.funs l _ _ (fun g hg => hl g (by simp [hg])) (Bg.body _ _ (Bg.pars g.fr (hl g (by simp)) _ _ (h.same rfl rfl)))
theorem begins_fu {t : Tree} : ∀ g ∈ t.funcs, Begins t g.fr := fun g hg => .inr (.inr (.inr ⟨g, hg, rfl⟩))
theorem checked_begins (t : Tree) : Begins t (checked t).at_ := by
  have h0 : Bg t (c0 t) := ⟨rfl, .inl rfl⟩
  exact (Bg.funs t.funcs 0 _ begins_fu (Bg.face (Bg.dups t.funcs [] _ begins_fu h0))).at_
end Go.Proofs.Ytaadamobapnfbaa
set_option linter.unusedVariables false
set_option linter.unusedSimpArgs false
set_option maxRecDepth 1000000
namespace Go.Proofs.Ytaadamobapnfbaa
open Go Go.Abs
theorem exs_get {t : Tree} {k : Nat} (h : k < t.exprs.length) : (t.exprs.map Ex.cells)[k]? = some t.exprs[k].cells := by rw [List.getElem?_map, List.getElem?_eq_getElem h]; rfl
theorem sts_get {t : Tree} {k : Nat} (h : k < t.stmts.length) : (t.stmts.map St.cells)[k]? = some t.stmts[k].cells := by rw [List.getElem?_map, List.getElem?_eq_getElem h]; rfl
set_option maxHeartbeats 4000000 in
theorem checkPlaces_walk (s : ByteArray) : ACalls Try.prog 12 [vs s] [] (RV (.v (.bool true)) []) := by
  have haw := awake6_walk
  refine ACalls.of_code (c := _) Try.func12 rfl Try.ntmps12 (Nat.le_of_ble_eq_true rfl) ?_
  refine ACode.seq (ACode.region ?_)
  refine ASeq.q rfl rfl (QOp.assign rfl rfl) ?_
  refine ASeq.nil ?_
  refine ACode.seq (ACode.seq (ACode.region ?_))
  refine ASeq.op rfl rfl (AOp.callP 0 rfl (by kernel_rfl) rfl rfl rfl (haw) ?_ (by rintro _ _ ⟨⟩))
  rintro _ _ ⟨⟩
  refine ASeq.q rfl rfl (QOp.not rfl rfl) ?_
  refine ASeq.q rfl rfl (QOp.move rfl rfl) ?_
  refine ASeq.gq _ _ rfl rfl rfl rfl (QOp.move rfl rfl) ?_
  refine ASeq.gq _ _ rfl rfl rfl rfl (QOp.lenS rfl rfl (tok _ rfl) rfl) ?_
  refine ASeq.gq _ _ rfl rfl rfl rfl (QOp.cmp rfl rfl rfl rfl) ?_
  refine ASeq.q rfl rfl (QOp.pickF rfl rfl rfl) ?_
  refine ASeq.nil ?_
  refine AExit.then_normal ?_
  refine ACode.cond _ rfl (fun hb => ?_) (fun hb => ?_)
  · refine ACode.seq (ACode.region ?_)
    refine ASeq.op rfl rfl (AOp.callP 0 rfl (by kernel_rfl) rfl rfl rfl (haw) ?_ (by rintro _ _ ⟨⟩))
    rintro _ _ ⟨⟩
    refine ASeq.q rfl rfl (QOp.assign rfl rfl) ?_
    refine ASeq.nil ?_
    refine ACode.ret (AExit.then_ret ?_)
    refine bodyQ_ret 0 (.tmp rfl .nil) rfl ?_
    exact .mk
  have hsz : s.size ≤ 1000000 := by have := of_decide_eq_false hb; omega
  refine ACode.skip (ACode.seq (ACode.region ?_))
  refine ASeq.q rfl rfl (QOp.move rfl rfl) ?_
  refine ASeq.op rfl rfl (AOp.callP 0 rfl (by kernel_rfl) rfl rfl rfl (parse_ok s hsz) ?_ (by rintro _ _ ⟨⟩))
  rintro _ _ ⟨⟩
  refine ASeq.q rfl rfl (QOp.move rfl rfl) ?_
  refine ASeq.q rfl rfl (QOp.extract rfl rfl rfl) ?_
  refine ASeq.q rfl rfl (QOp.extract rfl rfl rfl) ?_
  refine ASeq.q rfl rfl (QOp.extract rfl rfl rfl) ?_
  refine ASeq.op rfl rfl (AOp.allocP rfl (tok _ rfl) rfl rfl (fun _ => rfl) (fun _ => ?_))
  refine ASeq.op0 rfl rfl (AOp.storeP 0 rfl rfl rfl rfl (tok _ rfl) rfl rfl rfl rfl ?_)
  refine ASeq.q rfl rfl (QOp.assign rfl rfl) ?_
  refine ASeq.q rfl rfl (QOp.assign rfl rfl) ?_
  refine ASeq.nil ?_
  rename_i m3
  refine ACode.seq (ACode.seq (ACode.region ?_))
  refine ASeq.q rfl rfl (QOp.move rfl rfl) ?_
  refine ASeq.q rfl rfl (QOp.cmp rfl rfl rfl rfl) ?_
  refine ASeq.nil ?_
  refine AExit.then_normal ?_
  refine ACode.cond _ rfl (fun hb2 => ?_) (fun hb2 => ?_)
  · refine ACode.seq (ACode.region ?_)
    refine ASeq.q rfl rfl (QOp.assign rfl rfl) ?_
    refine ASeq.nil ?_
    refine ACode.ret (AExit.then_ret ?_)
    refine bodyQ_ret 0 (.tmp rfl .nil) rfl ?_
    exact .mk
  have hz : (parse s).2.2 = 0 := by simpa using hb2
  obtain ⟨toks, at_, htree⟩ := parse_tree hsz hz
  have hck := htree.check
  have hbig := htree.big
  have hbeg := checked_begins (parse s).1
  generalize (parse s).1 = t at *
  have hEl : (t.exprs.map Ex.cells).length = t.exprs.length := List.length_map ..
  have hSl : (t.stmts.map St.cells).length = t.stmts.length := List.length_map ..
  have hFl : (t.funcs.map Fu.cells).length = t.funcs.length := List.length_map ..
  refine ACode.skip (ACode.seq (ACode.region ?_))
  refine ASeq.q rfl rfl (QOp.loadM 0 rfl rfl rfl (tok _ rfl) rfl) ?_
  refine ASeq.op rfl rfl (AOp.callP 0 rfl (by kernel_rfl) rfl rfl rfl hck ?_ (by rintro _ _ ⟨⟩))
  rintro _ _ (⟨hbad⟩ | ⟨hgood, m, τ⟩)
  · generalize (checked t).at_ = a at *
    generalize (checked t).code = e at *
    have he : (e == 0) = false := beq_eq_false_iff_ne.2 hbad
    refine ASeq.q rfl rfl (QOp.move rfl rfl) ?_
    refine ASeq.q rfl rfl (QOp.extract rfl rfl rfl) ?_
    refine ASeq.q rfl rfl (QOp.extract rfl rfl rfl) ?_
    refine ASeq.q rfl rfl (QOp.extract rfl rfl rfl) ?_
    refine ASeq.op rfl rfl (AOp.allocP rfl (tok _ rfl) rfl rfl (fun _ => rfl) (fun _ => ?_))
    refine ASeq.op0 rfl rfl (AOp.storeP 1 rfl rfl rfl rfl (tok _ rfl) rfl rfl rfl rfl ?_)
    refine ASeq.q rfl rfl (QOp.assign rfl rfl) ?_
    refine ASeq.q rfl rfl (QOp.assign rfl rfl) ?_
    refine ASeq.nil ?_
    refine ACode.seq (ACode.seq (ACode.region ?_))
    refine ASeq.q rfl rfl (QOp.move rfl rfl) ?_
    refine ASeq.q rfl rfl (QOp.cmp rfl rfl rfl rfl) ?_
    rw [he]
    refine ASeq.q rfl rfl (QOp.move rfl rfl) ?_
    refine ASeq.gq _ _ rfl rfl rfl rfl (QOp.move rfl rfl) ?_
    refine ASeq.gq _ _ rfl rfl rfl rfl (QOp.cmp rfl rfl rfl rfl) ?_
    refine ASeq.q rfl rfl (QOp.pickF rfl rfl rfl) ?_
    refine ASeq.nil ?_
    refine AExit.then_normal ?_
    refine ACode.cond _ rfl (fun hb3 => ?_) (fun hb3 => ?_)
    · refine ACode.seq (ACode.region ?_)
      refine ASeq.q rfl rfl (QOp.move rfl rfl) ?_
      refine ASeq.q rfl rfl (QOp.cmp rfl rfl rfl rfl) ?_
      refine ASeq.q rfl rfl (QOp.assign rfl rfl) ?_
      refine ASeq.nil ?_
      refine ACode.ret (AExit.then_ret ?_)
      refine bodyQ_ret 0 (.tmp rfl .nil) rfl ?_
      rw [hb3]; exact .mk
    have ha : a ≠ 0 := by simpa using hb3
    refine ACode.skip (ACode.seq (ACode.seq (ACode.region ?_)))
    refine ASeq.q rfl rfl (QOp.fieldM rfl rfl (tok _ rfl) rfl rfl (by decide) rfl) ?_
    refine ASeq.q rfl rfl (QOp.loadM 0 rfl rfl rfl (tok _ rfl) rfl) ?_
    refine ASeq.q rfl rfl (QOp.lenI rfl rfl (tok _ rfl) rfl) ?_
    refine ASeq.q rfl rfl (QOp.move rfl rfl) ?_
    refine ASeq.nil ?_
    refine ACode.block ?_
    refine ACode.loopP (fun (i : Nat) => [(3, .mp m3 0), (7, vi a), (46, .il 9 none (t.exprs.map Ex.cells)), (47, vi ((t.exprs.map Ex.cells).length : Int)), (48, vi i)]) (fun _ => [.mu m3 t.cells]) (fun i => t.exprs.length - i)
      (fun i => i ≤ t.exprs.length ∧ ∀ y ∈ t.exprs.take i, y.fr ≠ a) 0 ⟨Nat.zero_le _, fun y hy => by simp at hy⟩ (.cons rfl (.cons rfl (.cons rfl (.cons rfl (.cons rfl .nil))))) 1 rfl ?_
    rintro i ⟨hi, hno⟩
    refine ACode.seq (ACode.region ?_)
    refine ASeq.q rfl rfl (QOp.cmp rfl rfl rfl rfl) ?_
    refine ASeq.nil ?_
    refine ACode.seq ?_
    refine ACode.cond _ rfl (fun hb4 => ?_) (fun hb4 => ?_)
    · have hlt : i < t.exprs.length := by have := of_decide_eq_true hb4; rw [hEl] at this; omega
      have hget := exs_get hlt
      have hnx : t.exprs[i].fr ≠ a → ∀ y ∈ t.exprs.take (i + 1), y.fr ≠ a := fun h y hy => by
        rw [List.take_add_one, List.getElem?_eq_getElem hlt] at hy
        rcases List.mem_append.1 hy with hy | hy
        · exact hno y hy
        · simp at hy; subst hy; exact h
      generalize t.exprs[i] = y at *
      refine ACode.skip (ACode.seq (ACode.block (ACode.seq (ACode.region ?_))))
      refine ASeq.q rfl rfl (QOp.indexI rfl rfl rfl (tok _ rfl) rfl (tok _ rfl) (by omega) (by assumption)) ?_
      refine ASeq.q rfl rfl (QOp.loadI rfl rfl (tok _ rfl) rfl) ?_
      refine ASeq.op rfl rfl (AOp.allocP rfl (tok _ rfl) rfl rfl (fun _ => rfl) (fun _ => ?_))
      refine ASeq.op0 rfl rfl (AOp.storeP 1 rfl rfl rfl rfl (tok _ rfl) rfl rfl rfl rfl ?_)
      refine ASeq.nil ?_
      refine ACode.seq (ACode.region ?_)
      refine ASeq.q rfl rfl (QOp.fieldM rfl rfl (tok _ rfl) rfl rfl (by decide) rfl) ?_
      refine ASeq.q rfl rfl (QOp.fieldM rfl rfl (tok _ rfl) rfl rfl (by decide) rfl) ?_
      refine ASeq.q rfl rfl (QOp.loadM 1 rfl rfl rfl (tok _ rfl) rfl) ?_
      refine ASeq.q rfl rfl (QOp.move rfl rfl) ?_
      refine ASeq.q rfl rfl (QOp.cmp rfl rfl rfl rfl) ?_
      refine ASeq.nil ?_
      refine AExit.then_normal ?_
      refine ACode.cond _ rfl (fun hb5 => ?_) (fun hb5 => ?_)
      · refine ACode.seq (ACode.region ?_)
        refine ASeq.q rfl rfl (QOp.assign rfl rfl) ?_
        refine ASeq.nil ?_
        refine ACode.ret (AExit.in_ret (AExit.then_ret (AExit.then_ret (AExit.in_ret (AExit.then_ret ?_)))))
        refine bodyQ_ret 0 (.tmp rfl .nil) rfl ?_
        exact .mk
      · refine ACode.skip (ACode.region ?_)
        refine ASeq.q rfl rfl (QOp.ar64 rfl rfl rfl rfl ⟨by omega, by omega⟩) ?_
        refine ASeq.q rfl rfl (QOp.move rfl rfl) ?_
        refine ASeq.nil ?_
        refine AExit.then_normal ?_
        exact ⟨i + 1, 1, ⟨hlt, hnx (by simpa using hb5)⟩, by omega, .cons rfl (.cons rfl (.cons rfl (.cons rfl (.cons rfl .nil)))), rfl⟩
    have hge : i = t.exprs.length := by have := of_decide_eq_false hb4; rw [hEl] at this; omega
    rw [hge, List.take_length] at hno
    have hno1 := hno
    clear hno hge hb4 hi
    refine ACode.exit (ACode.seq (ACode.seq (ACode.region ?_)))
    refine ASeq.q rfl rfl (QOp.fieldM rfl rfl (tok _ rfl) rfl rfl (by decide) rfl) ?_
    refine ASeq.q rfl rfl (QOp.loadM 0 rfl rfl rfl (tok _ rfl) rfl) ?_
    refine ASeq.q rfl rfl (QOp.lenI rfl rfl (tok _ rfl) rfl) ?_
    refine ASeq.q rfl rfl (QOp.move rfl rfl) ?_
    refine ASeq.nil ?_
    refine ACode.block ?_
    refine ACode.loopP (fun (i : Nat) => [(3, .mp m3 0), (7, vi a), (59, .il 9 none (t.stmts.map St.cells)), (60, vi ((t.stmts.map St.cells).length : Int)), (61, vi i)]) (fun _ => [.mu m3 t.cells]) (fun i => t.stmts.length - i)
      (fun i => i ≤ t.stmts.length ∧ ∀ y ∈ t.stmts.take i, y.fr ≠ a) 0 ⟨Nat.zero_le _, fun y hy => by simp at hy⟩ (.cons rfl (.cons rfl (.cons rfl (.cons rfl (.cons rfl .nil))))) 1 rfl ?_
    rintro i ⟨hi, hno⟩
    refine ACode.seq (ACode.region ?_)
    refine ASeq.q rfl rfl (QOp.cmp rfl rfl rfl rfl) ?_
    refine ASeq.nil ?_
    refine ACode.seq ?_
    refine ACode.cond _ rfl (fun hb4 => ?_) (fun hb4 => ?_)
    · have hlt : i < t.stmts.length := by have := of_decide_eq_true hb4; rw [hSl] at this; omega
      have hget := sts_get hlt
      have hnx : t.stmts[i].fr ≠ a → ∀ y ∈ t.stmts.take (i + 1), y.fr ≠ a := fun h y hy => by
        rw [List.take_add_one, List.getElem?_eq_getElem hlt] at hy
        rcases List.mem_append.1 hy with hy | hy
        · exact hno y hy
        · simp at hy; subst hy; exact h
      generalize t.stmts[i] = y at *
      refine ACode.skip (ACode.seq (ACode.block (ACode.seq (ACode.region ?_))))
      refine ASeq.q rfl rfl (QOp.indexI rfl rfl rfl (tok _ rfl) rfl (tok _ rfl) (by omega) (by assumption)) ?_
      refine ASeq.q rfl rfl (QOp.loadI rfl rfl (tok _ rfl) rfl) ?_
      refine ASeq.op rfl rfl (AOp.allocP rfl (tok _ rfl) rfl rfl (fun _ => rfl) (fun _ => ?_))
      refine ASeq.op0 rfl rfl (AOp.storeP 1 rfl rfl rfl rfl (tok _ rfl) rfl rfl rfl rfl ?_)
      refine ASeq.nil ?_
      refine ACode.seq (ACode.region ?_)
      refine ASeq.q rfl rfl (QOp.fieldM rfl rfl (tok _ rfl) rfl rfl (by decide) rfl) ?_
      refine ASeq.q rfl rfl (QOp.fieldM rfl rfl (tok _ rfl) rfl rfl (by decide) rfl) ?_
      refine ASeq.q rfl rfl (QOp.loadM 1 rfl rfl rfl (tok _ rfl) rfl) ?_
      refine ASeq.q rfl rfl (QOp.move rfl rfl) ?_
      refine ASeq.q rfl rfl (QOp.cmp rfl rfl rfl rfl) ?_
      refine ASeq.nil ?_
      refine AExit.then_normal ?_
      refine ACode.cond _ rfl (fun hb5 => ?_) (fun hb5 => ?_)
      · refine ACode.seq (ACode.region ?_)
        refine ASeq.q rfl rfl (QOp.assign rfl rfl) ?_
        refine ASeq.nil ?_
        refine ACode.ret (AExit.in_ret (AExit.then_ret (AExit.then_ret (AExit.in_ret (AExit.then_ret ?_)))))
        refine bodyQ_ret 0 (.tmp rfl .nil) rfl ?_
        exact .mk
      · refine ACode.skip (ACode.region ?_)
        refine ASeq.q rfl rfl (QOp.ar64 rfl rfl rfl rfl ⟨by omega, by omega⟩) ?_
        refine ASeq.q rfl rfl (QOp.move rfl rfl) ?_
        refine ASeq.nil ?_
        refine AExit.then_normal ?_
        exact ⟨i + 1, 1, ⟨hlt, hnx (by simpa using hb5)⟩, by omega, .cons rfl (.cons rfl (.cons rfl (.cons rfl (.cons rfl .nil)))), rfl⟩
    have hge : i = t.stmts.length := by have := of_decide_eq_false hb4; rw [hSl] at this; omega
    rw [hge, List.take_length] at hno
    have hno2 := hno
    clear hno hge hb4 hi
    refine ACode.exit (ACode.seq (ACode.seq (ACode.region ?_)))
    refine ASeq.q rfl rfl (QOp.fieldM rfl rfl (tok _ rfl) rfl rfl (by decide) rfl) ?_
    refine ASeq.q rfl rfl (QOp.loadM 0 rfl rfl rfl (tok _ rfl) rfl) ?_
    refine ASeq.q rfl rfl (QOp.lenI rfl rfl (tok _ rfl) rfl) ?_
    refine ASeq.q rfl rfl (QOp.move rfl rfl) ?_
    refine ASeq.nil ?_
    refine ACode.block ?_
    refine ACode.loopP (fun (i : Nat) => [(3, .mp m3 0), (7, vi a), (72, .il 6 none (t.funcs.map Fu.cells)), (73, vi ((t.funcs.map Fu.cells).length : Int)), (74, vi i)]) (fun _ => [.mu m3 t.cells]) (fun i => t.funcs.length - i)
      (fun i => i ≤ t.funcs.length ∧ ∀ y ∈ t.funcs.take i, y.fr ≠ a) 0 ⟨Nat.zero_le _, fun y hy => by simp at hy⟩ (.cons rfl (.cons rfl (.cons rfl (.cons rfl (.cons rfl .nil))))) 1 rfl ?_
    rintro i ⟨hi, hno⟩
    refine ACode.seq (ACode.region ?_)
    refine ASeq.q rfl rfl (QOp.cmp rfl rfl rfl rfl) ?_
    refine ASeq.nil ?_
    refine ACode.seq ?_
    refine ACode.cond _ rfl (fun hb4 => ?_) (fun hb4 => ?_)
    · have hlt : i < t.funcs.length := by have := of_decide_eq_true hb4; rw [hFl] at this; omega
      have hget := fu_at hlt
      have hnx : t.funcs[i].fr ≠ a → ∀ y ∈ t.funcs.take (i + 1), y.fr ≠ a := fun h y hy => by
        rw [List.take_add_one, List.getElem?_eq_getElem hlt] at hy
        rcases List.mem_append.1 hy with hy | hy
        · exact hno y hy
        · simp at hy; subst hy; exact h
      generalize t.funcs[i] = y at *
      refine ACode.skip (ACode.seq (ACode.block (ACode.seq (ACode.region ?_))))
      refine ASeq.q rfl rfl (QOp.indexI rfl rfl rfl (tok _ rfl) rfl (tok _ rfl) (by omega) (by assumption)) ?_
      refine ASeq.q rfl rfl (QOp.loadI rfl rfl (tok _ rfl) rfl) ?_
      refine ASeq.op rfl rfl (AOp.allocP rfl (tok _ rfl) rfl rfl (fun _ => rfl) (fun _ => ?_))
      refine ASeq.op0 rfl rfl (AOp.storeP 1 rfl rfl rfl rfl (tok _ rfl) rfl rfl rfl rfl ?_)
      refine ASeq.nil ?_
      refine ACode.seq (ACode.region ?_)
      refine ASeq.q rfl rfl (QOp.fieldM rfl rfl (tok _ rfl) rfl rfl (by decide) rfl) ?_
      refine ASeq.q rfl rfl (QOp.fieldM rfl rfl (tok _ rfl) rfl rfl (by decide) rfl) ?_
      refine ASeq.q rfl rfl (QOp.loadM 1 rfl rfl rfl (tok _ rfl) rfl) ?_
      refine ASeq.q rfl rfl (QOp.move rfl rfl) ?_
      refine ASeq.q rfl rfl (QOp.cmp rfl rfl rfl rfl) ?_
      refine ASeq.nil ?_
      refine AExit.then_normal ?_
      refine ACode.cond _ rfl (fun hb5 => ?_) (fun hb5 => ?_)
      · refine ACode.seq (ACode.region ?_)
        refine ASeq.q rfl rfl (QOp.assign rfl rfl) ?_
        refine ASeq.nil ?_
        refine ACode.ret (AExit.in_ret (AExit.then_ret (AExit.then_ret (AExit.in_ret (AExit.then_ret ?_)))))
        refine bodyQ_ret 0 (.tmp rfl .nil) rfl ?_
        exact .mk
      · refine ACode.skip (ACode.region ?_)
        refine ASeq.q rfl rfl (QOp.ar64 rfl rfl rfl rfl ⟨by omega, by omega⟩) ?_
        refine ASeq.q rfl rfl (QOp.move rfl rfl) ?_
        refine ASeq.nil ?_
        refine AExit.then_normal ?_
        exact ⟨i + 1, 1, ⟨hlt, hnx (by simpa using hb5)⟩, by omega, .cons rfl (.cons rfl (.cons rfl (.cons rfl (.cons rfl .nil)))), rfl⟩
    have hge : i = t.funcs.length := by have := of_decide_eq_false hb4; rw [hFl] at this; omega
    rw [hge, List.take_length] at hno
    have hno3 := hno
    clear hno hge hb4 hi
    rcases hbeg with h | ⟨y, h1, h2⟩ | ⟨y, h1, h2⟩ | ⟨y, h1, h2⟩
    · exact absurd h ha
    · exact absurd h2 (hno1 y h1)
    · exact absurd h2 (hno2 y h1)
    · exact absurd h2 (hno3 y h1)
  · refine ASeq.q rfl rfl (QOp.move rfl rfl) ?_
    refine ASeq.q rfl rfl (QOp.extract rfl rfl rfl) ?_
    refine ASeq.q rfl rfl (QOp.extract rfl rfl rfl) ?_
    refine ASeq.q rfl rfl (QOp.extract rfl rfl rfl) ?_
    refine ASeq.op rfl rfl (AOp.allocP rfl (tok _ rfl) rfl rfl (fun _ => rfl) (fun _ => ?_))
    refine ASeq.op0 rfl rfl (AOp.storeP 7 rfl rfl rfl rfl (tok _ rfl) rfl rfl rfl rfl ?_)
    refine ASeq.q rfl rfl (QOp.assign rfl rfl) ?_
    refine ASeq.q rfl rfl (QOp.assign rfl rfl) ?_
    refine ASeq.nil ?_
    refine ACode.seq (ACode.seq (ACode.region ?_))
    refine ASeq.q rfl rfl (QOp.move rfl rfl) ?_
    refine ASeq.q rfl rfl (QOp.cmp rfl rfl rfl rfl) ?_
    refine ASeq.q rfl rfl (QOp.move rfl rfl) ?_
    refine ASeq.gno _ _ rfl rfl rfl rfl rfl ?_
    refine ASeq.gno _ _ rfl rfl rfl rfl rfl ?_
    refine ASeq.q rfl rfl (QOp.pickT rfl rfl rfl) ?_
    refine ASeq.nil ?_
    refine AExit.then_normal ?_
    refine ACode.cond _ rfl (fun hb3 => ?_) (fun hb3 => by cases hb3)
    refine ACode.seq (ACode.region ?_)
    refine ASeq.q rfl rfl (QOp.move rfl rfl) ?_
    refine ASeq.q rfl rfl (QOp.cmp rfl rfl rfl rfl) ?_
    refine ASeq.q rfl rfl (QOp.assign rfl rfl) ?_
    refine ASeq.nil ?_
    refine ACode.ret (AExit.then_ret ?_)
    refine bodyQ_ret 0 (.tmp rfl .nil) rfl ?_
    exact .mk
end Go.Proofs.Ytaadamobapnfbaa
