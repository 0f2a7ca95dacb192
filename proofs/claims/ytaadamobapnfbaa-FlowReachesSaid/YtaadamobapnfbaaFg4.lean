/- Own texts, put together by a program: K0 K1 K2 K3 K4 K5 K6 K7 K8 L0 L1 L2 M0 M1 M2 N0 S2 Q0 P0 P1 Q1. -/
import Derived.Test.YtaadamobapnfbaaRows
import Derived.WalkKit
import Derived.ProofKit
import Derived.OpenShut
import Derived.ShutString
import Derived.ChangeOld
import Derived.Below
import Derived.SizedLaws
import Derived.Shelf.Sort.Plain
import Derived.Test.YtaadamobapnfbaaProg
import Derived.WalkArith
import Derived.Test.YtaadamobapnfbaaFg3
/- Where statements stand; which come next: on data. -/
set_option linter.unusedVariables false
set_option linter.unusedSimpArgs false
namespace Go.Proofs.Ytaadamobapnfbaa
open Go Go.Abs
structure Ctx where
  i : Int
  L : List Int
  k : Nat
  inn : Int
  loop : Int
  behind : Int
  lb : Int
def firstOf : List Int → Int → Int
  | [], b => b
  | a :: _, _ => a
def Tree.stm (t : Tree) (i : Int) : St := t.stmts.getD i.toNat default
def Ctx.at_ (L : List Int) (k : Nat) (inn loop B lb : Int) : Ctx := ⟨L.getD k 0, L, k, inn, loop, firstOf (L.drop (k + 1)) B, lb⟩
def Ctx.sub (t : Tree) (c : Ctx) (L : List Int) (k : Nat) : Ctx :=
  if (t.stm c.i).kind = 6 then .at_ L k c.i c.i c.i c.behind else .at_ L k c.i c.loop c.behind c.lb
def Ctx.thn (t : Tree) (c : Ctx) (k : Nat) : Ctx := c.sub t (t.stm c.i).thn k
def Ctx.els (t : Tree) (c : Ctx) (k : Nat) : Ctx := c.sub t (t.stm c.i).els k
inductive Occ (t : Tree) (c : Ctx) : Ctx → Prop
  | self : Occ t c c
  | thn {d : Ctx} (h : Occ t c d) (k : Nat) (hk : k < (t.stm d.i).thn.length) : Occ t c (d.thn t k)
  | els {d : Ctx} (h : Occ t c d) (k : Nat) (hk : k < (t.stm d.i).els.length) : Occ t c (d.els t k)
theorem Occ.trans {t : Tree} {c d e : Ctx} (h : Occ t c d) (h' : Occ t d e) : Occ t c e := by
  induction h' with
  | self => exact h
  | thn h' k hk ih => exact .thn ih k hk
  | els h' k hk ih => exact .els ih k hk
theorem Occ.cases {t : Tree} {c d : Ctx} (h : Occ t c d) : d = c ∨ (∃ k, k < (t.stm c.i).thn.length ∧ Occ t (c.thn t k) d) ∨ (∃ k, k < (t.stm c.i).els.length ∧ Occ t (c.els t k) d) := by
  induction h with
  | self => exact .inl rfl
  | thn h k hk ih =>
    rcases ih with rfl | ⟨j, hj, ho⟩ | ⟨j, hj, ho⟩
    · exact .inr (.inl ⟨k, hk, .self⟩)
    · exact .inr (.inl ⟨j, hj, .thn ho k hk⟩)
    · exact .inr (.inr ⟨j, hj, .thn ho k hk⟩)
  | els h k hk ih =>
    rcases ih with rfl | ⟨j, hj, ho⟩ | ⟨j, hj, ho⟩
    · exact .inr (.inr ⟨k, hk, .self⟩)
    · exact .inr (.inl ⟨j, hj, .els ho k hk⟩)
    · exact .inr (.inr ⟨j, hj, .els ho k hk⟩)
def topC (g : Fu) (k : Nat) : Ctx := .at_ g.body k (-1) (-1) (-1) (-1)
def way (t : Tree) (c : Ctx) : List Int :=
  if (t.stm c.i).kind = 5 then [firstOf (t.stm c.i).thn c.behind, firstOf (t.stm c.i).els c.behind]
  else if (t.stm c.i).kind = 6 then [firstOf (t.stm c.i).thn c.i, c.behind]
  else if (t.stm c.i).kind = 7 then [c.lb] else if (t.stm c.i).kind = 8 then [c.loop] else if (t.stm c.i).kind = 9 then [-1] else [c.behind]
/-- statements alone -/
inductive SCov (t : Tree) : List Int → Nat → Nat → Prop
  | nil (a : Nat) : SCov t [] a a
  | cons {r a c : Nat} {l : List Int} (hr : r < t.stmts.length) (hk : SCov t ((t.stm r).thn ++ (t.stm r).els) a r) (hl : SCov t l (r + 1) c) : SCov t ((r : Int) :: l) a c
theorem SCov.le {t : Tree} {l : List Int} {a c : Nat} (h : SCov t l a c) : a ≤ c := by
  induction h with
  | nil => exact Nat.le_refl _
  | cons hr hk hl ih1 ih2 => omega
theorem SCov.split {t : Tree} : ∀ {l m : List Int} {a c : Nat}, SCov t (l ++ m) a c → ∃ b, SCov t l a b ∧ SCov t m b c
  | [], m, a, c, h => ⟨a, .nil a, h⟩
  | x :: l, m, a, c, h => by
    cases h with
    | cons hr hk hl =>
      obtain ⟨b, h1, h2⟩ := SCov.split hl
      exact ⟨b, .cons hr hk h1, h2⟩
def stmtRoots : List Rt → List Int
  | [] => []
  | .e _ :: l => stmtRoots l
  | .s r :: l => r :: stmtRoots l
theorem stmtRoots_append : ∀ l m : List Rt, stmtRoots (l ++ m) = stmtRoots l ++ stmtRoots m
  | [], m => rfl
  | .e _ :: l, m => stmtRoots_append l m
  | .s r :: l, m => by simp only [List.cons_append, stmtRoots, stmtRoots_append l m]
theorem stmtRoots_e : ∀ l : List Int, stmtRoots (l.map .e) = []
  | [] => rfl
  | _ :: l => stmtRoots_e l
theorem stmtRoots_s : ∀ l : List Int, stmtRoots (l.map .s) = l
  | [] => rfl
  | x :: l => by simp only [List.map_cons, stmtRoots, stmtRoots_s l]
theorem Cov.scov {t : Tree} {l : List Rt} {a b c d : Nat} (h : Cov t.exprs t.stmts l a b c d) : SCov t (stmtRoots l) b d := by
  induction h with
  | nil a b => exact .nil b
  | e hx hk hl ih1 ih2 =>
    exact ih2
  | @s r a b c d e1 x l hx hk hl ih1 ih2 =>
    have hs : t.stm (r : Int) = x := by
      simp only [Tree.stm, Int.toNat_natCast, List.getD_eq_getElem?_getD, hx, Option.getD_some]
    refine .cons (List.getElem?_eq_some_iff.1 hx).1 ?_ ih2
    rw [hs]
    unfold St.kids at ih1
    rw [stmtRoots_append, stmtRoots_e, stmtRoots_s] at ih1
    exact ih1
theorem SCov.mem {t : Tree} {l : List Int} {a c : Nat} (h : SCov t l a c) : ∀ k (hk : k < l.length), ∃ r b : Nat, l[k] = (r : Int) ∧ l.getD k 0 = (r : Int) ∧ a ≤ b ∧ b ≤ r ∧ r < c ∧ r < t.stmts.length ∧ SCov t ((t.stm r).thn ++ (t.stm r).els) b r ∧ SCov t (l.take k) a b ∧ SCov t (l.drop (k + 1)) (r + 1) c := by
  induction h with
  | nil => intro k hk; simp at hk
  | @cons r a c l hr hk hl ih1 ih2 =>
    intro k hk'
    have l1 := hk.le
    have l2 := hl.le
    cases k with
    | zero => exact ⟨r, a, rfl, rfl, Nat.le_refl _, l1, l2, hr, hk, .nil _, hl⟩
    | succ k =>
      obtain ⟨r', b, q1, q1', q2, q3, q4, q5, q6, q7, q8⟩ := ih2 k (by simpa using hk')
      exact ⟨r', b, q1, q1', by omega, q3, q4, q5, q6, .cons hr hk q7, q8⟩
theorem SCov.len {t : Tree} {l : List Int} {a c : Nat} (h : SCov t l a c) : l.length + a ≤ c := by
  induction h with
  | nil => simp
  | cons hr hk hl ih1 ih2 => have := hk.le; rw [List.length_cons]; omega
/-- a statement's own range -/
structure Own1 (t : Tree) (c : Ctx) (lo : Nat) : Prop where
  i0 : 0 ≤ c.i
  i1 : c.i < t.stmts.length
  kids : SCov t ((t.stm c.i).thn ++ (t.stm c.i).els) lo c.i.toNat
theorem SCov.own {t : Tree} {l : List Int} {a c : Nat} (h : SCov t l a c) {k : Nat} (hk : k < l.length) (inn loop B lb : Int) : ∃ lo, Own1 t (.at_ l k inn loop B lb) lo ∧ a ≤ lo ∧ (Ctx.at_ l k inn loop B lb).i < c ∧ SCov t (l.take k) a lo := by
  obtain ⟨r, b, q1, q1', q2, q3, q4, q5, q6, q7, q8⟩ := h.mem k hk
  have e : (Ctx.at_ l k inn loop B lb).i = (r : Int) := q1'
  refine ⟨b, ⟨by rw [e]; omega, by rw [e]; omega, ?_⟩, q2, by rw [e]; omega, q7⟩
  rw [e]; exact q6
theorem sub_i (t : Tree) (c : Ctx) (L : List Int) (k : Nat) : (c.sub t L k).i = L.getD k 0 := by unfold Ctx.sub; split <;> rfl
theorem Own1.thn {t : Tree} {c : Ctx} {lo : Nat} (h : Own1 t c lo) {k : Nat} (hk : k < (t.stm c.i).thn.length) : ∃ lo', Own1 t (c.thn t k) lo' ∧ lo ≤ lo' ∧ (c.thn t k).i < c.i := by
  obtain ⟨b, h1, h2⟩ := h.kids.split
  have := h.i0
  have hl := h2.le
  unfold Ctx.thn Ctx.sub
  split
  · obtain ⟨lo', q1, q2, q3, _⟩ := h1.own hk c.i c.i c.i c.behind
    exact ⟨lo', q1, q2, by omega⟩
  · obtain ⟨lo', q1, q2, q3, _⟩ := h1.own hk c.i c.loop c.behind c.lb
    exact ⟨lo', q1, q2, by omega⟩
theorem Own1.els {t : Tree} {c : Ctx} {lo : Nat} (h : Own1 t c lo) {k : Nat} (hk : k < (t.stm c.i).els.length) : ∃ lo', Own1 t (c.els t k) lo' ∧ lo ≤ lo' ∧ (c.els t k).i < c.i := by
  obtain ⟨b, h1, h2⟩ := h.kids.split
  have := h.i0
  have hl := h1.le
  unfold Ctx.els Ctx.sub
  split
  · obtain ⟨lo', q1, q2, q3, _⟩ := h2.own hk c.i c.i c.i c.behind
    exact ⟨lo', q1, by omega, by omega⟩
  · obtain ⟨lo', q1, q2, q3, _⟩ := h2.own hk c.i c.loop c.behind c.lb
    exact ⟨lo', q1, by omega, by omega⟩
theorem Own1.occ {t : Tree} {c d : Ctx} {lo : Nat} (h : Own1 t c lo) (ho : Occ t c d) : ∃ lo', Own1 t d lo' ∧ lo ≤ lo' ∧ lo' ≤ d.i ∧ d.i ≤ c.i := by
  induction ho with
  | self => exact ⟨lo, h, Nat.le_refl _, by have := h.kids.le; have := h.i0; omega, Int.le_refl _⟩
  | thn ho k hk ih =>
    obtain ⟨lo', q1, q2, q3, q4⟩ := ih
    obtain ⟨lo2, p1, p2, p3⟩ := q1.thn hk
    exact ⟨lo2, p1, by omega, by have := p1.kids.le; have := p1.i0; omega, by omega⟩
  | els ho k hk ih =>
    obtain ⟨lo', q1, q2, q3, q4⟩ := ih
    obtain ⟨lo2, p1, p2, p3⟩ := q1.els hk
    exact ⟨lo2, p1, by omega, by have := p1.kids.le; have := p1.i0; omega, by omega⟩
end Go.Proofs.Ytaadamobapnfbaa
/- Every statement stands somewhere; functions' ranges; what comes behind. -/
set_option linter.unusedVariables false
set_option linter.unusedSimpArgs false
namespace Go.Proofs.Ytaadamobapnfbaa
open Go Go.Abs
theorem SCov.find {t : Tree} {l : List Int} {a c : Nat} (h : SCov t l a c) : ∀ i : Nat, a ≤ i → i < c → ∃ k r lo : Nat, k < l.length ∧ l.getD k 0 = (r : Int) ∧ lo ≤ i ∧ i ≤ r ∧ r < c ∧ SCov t ((t.stm r).thn ++ (t.stm r).els) lo r := by
  induction h with
  | nil => intro i h1 h2; omega
  | @cons r a c l hr hk hl ih1 ih2 =>
    intro i h1 h2
    have l2 := hl.le
    by_cases hi : i ≤ r
    · exact ⟨0, r, a, by simp, rfl, h1, hi, by omega, hk⟩
    · obtain ⟨k, r', lo, q1, q2, q3, q4, q5, q6⟩ := ih2 i (by omega) h2
      exact ⟨k + 1, r', lo, by simpa using q1, by simpa using q2, q3, q4, q5, q6⟩
theorem SCov.occ {t : Tree} : ∀ (n : Nat) {l : List Int} {a c : Nat}, SCov t l a c → c ≤ n → ∀ i : Nat, a ≤ i → i < c → ∃ k, k < l.length ∧ ∀ inn loop B lb, ∃ d, Occ t (.at_ l k inn loop B lb) d ∧ d.i = i := by
  intro n
  induction n with
  | zero => intro l a c h hc i h1 h2; omega
  | succ n ih =>
    intro l a c h hc i h1 h2
    obtain ⟨k, r, lo, q1, q2, q3, q4, q5, q6⟩ := h.find i h1 h2
    refine ⟨k, q1, fun inn loop B lb => ?_⟩
    have ei : (Ctx.at_ l k inn loop B lb).i = (r : Int) := q2
    by_cases he : i = r
    · exact ⟨_, .self, by rw [ei, he]⟩
    obtain ⟨b, s1, s2⟩ := q6.split
    have l1 := s1.le
    have l2 := s2.le
    by_cases hb : i < b
    · obtain ⟨k', p1, p2⟩ := ih s1 (by omega) i q3 hb
      rw [← ei] at p1 p2
      by_cases h6 : (t.stm (Ctx.at_ l k inn loop B lb).i).kind = 6
      · obtain ⟨d, o1, o2⟩ := p2 (Ctx.at_ l k inn loop B lb).i (Ctx.at_ l k inn loop B lb).i (Ctx.at_ l k inn loop B lb).i (Ctx.at_ l k inn loop B lb).behind
        refine ⟨d, Occ.trans (.thn .self k' p1) ?_, o2⟩
        unfold Ctx.thn Ctx.sub; rw [if_pos h6]; exact o1
      · obtain ⟨d, o1, o2⟩ := p2 (Ctx.at_ l k inn loop B lb).i (Ctx.at_ l k inn loop B lb).loop (Ctx.at_ l k inn loop B lb).behind (Ctx.at_ l k inn loop B lb).lb
        refine ⟨d, Occ.trans (.thn .self k' p1) ?_, o2⟩
        unfold Ctx.thn Ctx.sub; rw [if_neg h6]; exact o1
    · obtain ⟨k', p1, p2⟩ := ih s2 (by omega) i (by omega) (by omega)
      rw [← ei] at p1 p2
      by_cases h6 : (t.stm (Ctx.at_ l k inn loop B lb).i).kind = 6
      · obtain ⟨d, o1, o2⟩ := p2 (Ctx.at_ l k inn loop B lb).i (Ctx.at_ l k inn loop B lb).i (Ctx.at_ l k inn loop B lb).i (Ctx.at_ l k inn loop B lb).behind
        refine ⟨d, Occ.trans (.els .self k' p1) ?_, o2⟩
        unfold Ctx.els Ctx.sub; rw [if_pos h6]; exact o1
      · obtain ⟨d, o1, o2⟩ := p2 (Ctx.at_ l k inn loop B lb).i (Ctx.at_ l k inn loop B lb).loop (Ctx.at_ l k inn loop B lb).behind (Ctx.at_ l k inn loop B lb).lb
        refine ⟨d, Occ.trans (.els .self k' p1) ?_, o2⟩
        unfold Ctx.els Ctx.sub; rw [if_neg h6]; exact o1
/-- functions' ranges -/
structure FR (t : Tree) (R : Nat → Nat) : Prop where
  body : ∀ (k : Nat) (g : Fu), t.funcs[k]? = some g → SCov t g.body (R k) (R (k + 1))
  zero : R 0 = 0
  all : R t.funcs.length = t.stmts.length
  mono : ∀ i j, i ≤ j → R i ≤ R j
theorem FCov.ranges {t : Tree} {toks : List Tok} {l : List Fu} {a b c d : Nat} {x y : Int} (h : FCov toks t.exprs t.stmts l a b x c d y) :
    ∃ R : Nat → Nat, (∀ (k : Nat) (g : Fu), l[k]? = some g → SCov t g.body (R k) (R (k + 1))) ∧ R 0 = b ∧ R l.length = d ∧ (∀ i j, i ≤ j → R i ≤ R j) ∧ ∀ i, R i ≤ d := by
  induction h with
  | nil a b x => exact ⟨fun _ => b, fun k g hk => by simp at hk, rfl, rfl, fun _ _ _ => Nat.le_refl _, fun _ => Nat.le_refl _⟩
  | @snoc l g a b c d e f x y z h h' ih =>
    obtain ⟨R, q1, q2, q3, q4, q5⟩ := ih
    have hcov := h'.cov.scov
    rw [stmtRoots_s] at hcov
    have hle := hcov.le
    refine ⟨fun i => if i ≤ l.length then R i else f, fun k g' hk => ?_, by simp [q2], by dsimp only; rw [List.length_append, List.length_singleton, if_neg (by omega)], fun i j hij => ?_, fun i => ?_⟩
    · by_cases hlt : k < l.length
      · rw [List.getElem?_append_left hlt] at hk
        have := q1 k g' hk
        simp only [show k ≤ l.length by omega, show k + 1 ≤ l.length by omega, if_true]
        exact this
      · have hk0 : k = l.length := by
          have := (List.getElem?_eq_some_iff.1 hk).1
          simp at this; omega
        subst hk0
        simp at hk
        subst hk
        simp only [Nat.le_refl, if_true, show ¬ l.length + 1 ≤ l.length by omega, if_false, q3]
        exact hcov
    · dsimp only
      split
      · split
        · exact q4 _ _ hij
        · have := q5 i; omega
      · rw [if_neg (by omega)]; exact Nat.le_refl _
    · dsimp only
      split
      · have := q5 i; omega
      · exact Nat.le_refl _
theorem IsTree.fr {s : ByteArray} {t : Tree} {toks : List Tok} {at_ : Int} (h : IsTree s t toks at_) : ∃ R, FR t R := by
  obtain ⟨R, q1, q2, q3, q4, q5⟩ := h.cov.ranges
  exact ⟨R, q1, q2, q3, q4⟩
/-- a statement stands in the k-th function -/
def InF (t : Tree) (k : Nat) (d : Ctx) : Prop := ∃ (g : Fu) (j : Nat), t.funcs[k]? = some g ∧ j < g.body.length ∧ Occ t (topC g j) d
theorem FR.own {t : Tree} {R : Nat → Nat} (h : FR t R) {k : Nat} {d : Ctx} (hd : InF t k d) : ∃ lo, Own1 t d lo ∧ (R k : Int) ≤ d.i ∧ d.i < R (k + 1) ∧ d.i < t.stmts.length := by
  obtain ⟨g, j, hg, hj, ho⟩ := hd
  obtain ⟨lo, q1, q2, q3, _⟩ := (h.body k g hg).own hj (-1) (-1) (-1) (-1)
  obtain ⟨lo', p1, p2, p3, p4⟩ := q1.occ ho
  have hq3 : (topC g j).i < (R (k + 1) : Int) := q3
  exact ⟨lo', p1, by omega, Int.lt_of_le_of_lt p4 hq3, p1.i1⟩
theorem FR.ex {t : Tree} {R : Nat → Nat} (h : FR t R) {i : Nat} (hi : i < t.stmts.length) : ∃ k d, k < t.funcs.length ∧ InF t k d ∧ d.i = i := by
  have : ∀ n, n ≤ t.funcs.length → i < R n → ∃ k, k < n ∧ R k ≤ i ∧ i < R (k + 1) := by
    intro n
    induction n with
    | zero => intro _ h0; rw [h.zero] at h0; omega
    | succ n ih =>
      intro hn h0
      by_cases hlt : i < R n
      · obtain ⟨k, h1, h2⟩ := ih (by omega) hlt
        exact ⟨k, by omega, h2⟩
      · exact ⟨n, by omega, by omega, h0⟩
  obtain ⟨k, hk, h1, h2⟩ := this t.funcs.length (Nat.le_refl _) (by rw [h.all]; exact hi)
  obtain ⟨j, hj, hd⟩ := (h.body k t.funcs[k] (List.getElem?_eq_getElem hk)).occ _ (Nat.le_refl _) i h1 h2
  obtain ⟨d, o1, o2⟩ := hd (-1) (-1) (-1) (-1)
  exact ⟨k, d, hk, ⟨t.funcs[k], j, List.getElem?_eq_getElem hk, hj, o1⟩, o2⟩
theorem FR.eqs {t : Tree} {R : Nat → Nat} (h : FR t R) {a b : List (List Int)} (ha : a.length = t.stmts.length) (hb : b.length = t.stmts.length)
    (h1 : ∀ k d, InF t k d → a[d.i.toNat]? = some (way t d)) (h2 : ∀ k d, InF t k d → b[d.i.toNat]? = some (way t d)) : a = b := by
  apply List.ext_getElem?
  intro i
  by_cases hi : i < t.stmts.length
  · obtain ⟨k, d, hk, hd, e⟩ := h.ex hi
    have e1 := h1 k d hd
    have e2 := h2 k d hd
    rw [e, Int.toNat_natCast] at e1 e2
    rw [e1, e2]
  · rw [List.getElem?_eq_none (by omega), List.getElem?_eq_none (by omega)]
end Go.Proofs.Ytaadamobapnfbaa
/- flow: first, list. -/
set_option linter.unusedVariables false
set_option linter.unusedSimpArgs false
set_option maxRecDepth 100000
namespace Go.Proofs.Ytaadamobapnfbaa
open Go Go.Abs
theorem ints_row1 (l : List Int) : ∀ r ∈ ints l, r.length = 1 := fun r h => by obtain ⟨x, _, rfl⟩ := List.mem_map.1 h; rfl
theorem first_ok (l : List Int) (b : Int) : ACalls Try.prog 27 [.il 1 none (ints l), vi b] [] (RV (vi (firstOf l b)) []) := by
  have hil := ints_len l
  refine ACalls.of_code (c := _) Try.func27 rfl Try.ntmps27 (Nat.le_of_ble_eq_true rfl) ?_
  refine ACode.seq (ACode.region ?_)
  refine ASeq.q rfl rfl (QOp.assign rfl rfl) ?_
  refine ASeq.nil ?_
  refine ACode.seq (ACode.seq (ACode.region ?_))
  refine ASeq.q rfl rfl (QOp.move rfl rfl) ?_
  refine ASeq.q rfl rfl (QOp.lenI rfl rfl (tok _ rfl) rfl) ?_
  refine ASeq.q rfl rfl (QOp.cmp rfl rfl rfl rfl) ?_
  refine ASeq.nil ?_
  refine AExit.then_normal ?_
  refine ACode.cond _ rfl (fun hb => ?_) (fun hb => ?_)
  · have hl : l = [] := by
      have : ((ints l).length : Int) = 0 := by simpa using hb
      rw [hil] at this
      exact List.eq_nil_of_length_eq_zero (by omega)
    refine ACode.seq (ACode.region ?_)
    refine ASeq.q rfl rfl (QOp.move rfl rfl) ?_
    refine ASeq.q rfl rfl (QOp.assign rfl rfl) ?_
    refine ASeq.nil ?_
    refine ACode.ret (AExit.then_ret ?_)
    refine bodyQ_ret 0 (.tmp rfl .nil) rfl ?_
    rw [hl]; exact .mk
  · cases l with
    | nil => exact absurd hb (by decide)
    | cons x l =>
      refine ACode.skip (ACode.seq (ACode.region ?_))
      refine ASeq.q rfl rfl (QOp.move rfl rfl) ?_
      refine ASeq.q rfl rfl (QOp.indexI rfl rfl rfl (tok _ rfl) rfl (tok _ rfl) (by decide) (by rfl)) ?_
      refine ASeq.q rfl rfl (QOp.loadI rfl rfl (tok _ rfl) rfl) ?_
      refine ASeq.q rfl rfl (QOp.assign rfl rfl) ?_
      refine ASeq.nil ?_
      refine ACode.ret ?_
      refine bodyQ_ret 0 (.tmp rfl .nil) rfl ?_
      exact .mk
def nxc (w : List Int) : AV := .il 1 none (ints w)
def lcells (l : List (Int × Int)) : List AV := (l.map fun p => [vi p.1, vi p.2]).flatten
def bcells (t : Tree) (first : List Int) (τ mN n mo depth : Nat) : List AV :=
  [.il 9 none (t.exprs.map Ex.cells), .il 9 none (t.stmts.map St.cells), .il 6 none (t.funcs.map Fu.cells), .il 1 (some τ) (ints first), .sl 1 mN 0 n, .sl 2 mo 0 depth]
inductive RF (t : Tree) (first : List Int) (τ mB mN n : Nat) (loops : List (Int × Int)) (P : List (List Int) → Prop) : AOut → List Abs.Item → Prop
  | mk (nx : List (List Int)) (mo : Nat) (h : P nx) : RF t first τ mB mN n loops P (.ret (.tup [])) [.mu mB (bcells t first τ mN n mo loops.length), .mu mN (nx.map nxc), .mu mo (lcells loops)]
/-- the innermost while is the last one -/
def LP (loops : List (Int × Int)) (loop lb : Int) : Prop := loop < 0 ∨ ∃ pre, loops = pre ++ [(loop, lb)]
def JOk (t : Tree) (c : Ctx) : Prop := ∀ d, Occ t c d → ((t.stm d.i).kind = 7 ∨ (t.stm d.i).kind = 8) → 0 ≤ d.loop
structure WaysIn (t : Tree) (nx nx' : List (List Int)) (occ : Ctx → Prop) (lo hi : Int) : Prop where
  len : nx'.length = nx.length
  ways : ∀ d, occ d → nx'[d.i.toNat]? = some (way t d)
  rest : ∀ j : Nat, ((j : Int) < lo ∨ hi ≤ j) → nx'[j]? = nx[j]?
def CSt (n : Nat) : Prop := ∀ (t : Tree) (first : List Int) (τ mB mN : Nat) (nx : List (List Int)) (mo : Nat) (loops : List (Int × Int)) (c : Ctx) (lo : Nat), TreeOk t → (∀ (i : Nat) (x : St), t.stmts[i]? = some x → StOk x) →
  nx.length = t.stmts.length → Own1 t c lo → c.i < n → LP loops c.loop c.lb → JOk t c → (loops.length : Int) + c.i + 1 ≤ 4000000 →
  ACalls Try.prog 44 [.mp mB 0, vi c.i, vi c.behind] [.mu mB (bcells t first τ mN t.stmts.length mo loops.length), .mu mN (nx.map nxc), .mu mo (lcells loops)]
    (RF t first τ mB mN t.stmts.length loops (fun nx' => WaysIn t nx nx' (Occ t c) lo (c.i + 1)))
theorem drop_ints (l : List Int) (k : Nat) : ((ints l).take (ints l).length).drop k = ints (l.drop k) := by
  rw [List.take_length]; simp [ints]
theorem list_walk {n : Nat} (hS : CSt n) (t : Tree) (first : List Int) (τ mB mN : Nat) (nx : List (List Int)) (mo : Nat) (loops : List (Int × Int)) (L : List Int) (inn loop B lb : Int) (lo hi : Nat) (ht : TreeOk t) (hst : ∀ (i : Nat) (x : St), t.stmts[i]? = some x → StOk x)
    (hnx : nx.length = t.stmts.length) (hL : SCov t L lo hi) (hn : hi ≤ n) (hlp : LP loops loop lb) (hj : ∀ k, k < L.length → JOk t (.at_ L k inn loop B lb)) (hd : (loops.length : Int) + hi ≤ 4000000) :
    ACalls Try.prog 28 [.mp mB 0, .il 1 none (ints L), vi B] [.mu mB (bcells t first τ mN t.stmts.length mo loops.length), .mu mN (nx.map nxc), .mu mo (lcells loops)]
      (RF t first τ mB mN t.stmts.length loops (fun nx' => WaysIn t nx nx' (fun d => ∃ k, k < L.length ∧ Occ t (.at_ L k inn loop B lb) d) lo hi)) := by
  have hil := ints_len L
  have hlen := hL.len
  refine ACalls.of_code (c := _) Try.func28 rfl Try.ntmps28 (Nat.le_of_ble_eq_true rfl) ?_
  refine ACode.seq (ACode.region ?_)
  refine ASeq.q rfl rfl (QOp.move rfl rfl) ?_
  refine ASeq.q rfl rfl (QOp.lenI rfl rfl (tok _ rfl) rfl) ?_
  refine ASeq.q rfl rfl (QOp.move rfl rfl) ?_
  refine ASeq.nil ?_
  refine ACode.block ?_
  refine ACode.loopP (fun (x : Nat × List (List Int) × Nat) => [(0, .mp mB 0), (1, .il 1 none (ints L)), (2, vi B), (8, .il 1 none (ints L)), (9, vi ((ints L).length : Int)), (10, vi x.1)])
    (fun x => [.mu mB (bcells t first τ mN t.stmts.length x.2.2 loops.length), .mu mN (x.2.1.map nxc), .mu x.2.2 (lcells loops)]) (fun x => L.length - x.1)
    (fun x => x.1 ≤ L.length ∧ x.2.1.length = nx.length ∧ (∀ k d, k < x.1 → Occ t (.at_ L k inn loop B lb) d → x.2.1[d.i.toNat]? = some (way t d)) ∧ ∀ j : Nat, ((j : Int) < lo ∨ (hi : Int) ≤ j) → x.2.1[j]? = nx[j]?)
    (0, nx, mo) ⟨Nat.zero_le _, rfl, fun k d hk => by omega, fun _ _ => rfl⟩ (.cons rfl (.cons rfl (.cons rfl (.cons rfl (.cons rfl (.cons rfl .nil)))))) 3 rfl ?_
  rintro ⟨k, ny, mo⟩ ⟨hk, hl, hw, hrest⟩
  dsimp only at hk hl hw hrest
  refine ACode.seq (ACode.region ?_)
  refine ASeq.q rfl rfl (QOp.cmp rfl rfl rfl rfl) ?_
  refine ASeq.nil ?_
  refine ACode.seq ?_
  refine ACode.cond _ rfl (fun hb => ?_) (fun hb => ?_)
  · have hlt : k < L.length := by have := of_decide_eq_true hb; rw [hil] at this; omega
    have hget := ints_get hlt
    obtain ⟨r, b, e1, e2, e3, e4, e5, e6, e7, e8, e9⟩ := hL.mem k hlt
    obtain ⟨lo', o1, o2, o3, o4⟩ := hL.own hlt inn loop B lb
    have ei : (Ctx.at_ L k inn loop B lb).i = L[k] := by rw [e1]; exact e2
    have hs := hS t first τ mB mN ny mo loops (.at_ L k inn loop B lb) lo' ht hst (hl.trans hnx) o1 (by omega) hlp (hj k hlt) (by omega)
    rw [ei] at hs
    have hf := first_ok (L.drop (k + 1)) B
    refine ACode.skip (ACode.seq (ACode.block (ACode.seq (ACode.region ?_))))
    refine ASeq.q rfl rfl (QOp.move rfl rfl) ?_
    refine ASeq.q rfl rfl (QOp.indexI rfl rfl rfl (tok _ rfl) rfl (tok _ rfl) (by omega) (by assumption)) ?_
    refine ASeq.q rfl rfl (QOp.loadI rfl rfl (tok _ rfl) rfl) ?_
    refine ASeq.q rfl rfl (QOp.assign rfl rfl) ?_
    refine ASeq.q rfl rfl (QOp.assign rfl rfl) ?_
    refine ASeq.nil ?_
    refine ACode.region ?_
    refine ASeq.q rfl rfl (QOp.move rfl rfl) ?_
    refine ASeq.q rfl rfl (QOp.move rfl rfl) ?_
    refine ASeq.q rfl rfl (QOp.move rfl rfl) ?_
    refine ASeq.q rfl rfl (QOp.move rfl rfl) ?_
    refine ASeq.q rfl rfl (QOp.ar64 rfl rfl rfl rfl ⟨by omega, by omega⟩) ?_
    refine ASeq.q rfl rfl (QOp.cutI (tde := TT 3) (tk' := none) (rows' := ints (L.drop (k + 1))) rfl rfl (tok _ rfl) rfl (tok _ rfl) rfl rfl (by omega) (by omega) (by omega) (by rw [show ((k : Int) + 1).toNat = k + 1 by omega, Int.toNat_natCast]; exact drop_ints L (k + 1)) (.inl rfl)) ?_
    refine ASeq.q rfl rfl (QOp.move rfl rfl) ?_
    refine ASeq.op rfl rfl (AOp.callP 0 rfl (by kernel_rfl) rfl rfl rfl (hf) ?_ (by rintro _ _ ⟨⟩))
    rintro _ _ ⟨⟩
    refine ASeq.op rfl rfl (AOp.callP 3 rfl (by kernel_rfl) rfl rfl rfl (hs) ?_ (by rintro _ _ ⟨⟩))
    rintro _ _ ⟨nx, mo, hnx⟩
    refine ASeq.nil ?_
    refine ACode.region ?_
    refine ASeq.q rfl rfl (QOp.ar64 rfl rfl rfl rfl ⟨by omega, by omega⟩) ?_
    refine ASeq.q rfl rfl (QOp.move rfl rfl) ?_
    refine ASeq.nil ?_
    refine AExit.then_normal ?_
    refine ⟨(k + 1, nx, mo), 3, ⟨hlt, hnx.len.trans hl, fun j d hj' ho => ?_, fun j hj' => ?_⟩, by dsimp only; omega, .cons rfl (.cons rfl (.cons rfl (.cons rfl (.cons rfl (.cons rfl .nil))))), rfl⟩
    · by_cases hjk : j = k
      · subst hjk; exact hnx.ways d ho
      · have hjlt : j < k := by omega
        rw [hnx.rest d.i.toNat ?_]
        · exact hw j d hjlt ho
        · left
          obtain ⟨lo2, p1, p2, p3, p4⟩ := o4.own (k := j) (by rw [List.length_take]; omega) inn loop B lb
          obtain ⟨lo3, u1, u2, u3, u4⟩ := hL.own (k := j) (by omega) inn loop B lb
          obtain ⟨lo4, w1, w2, w3, w4⟩ := u1.occ ho
          have g1 : (Ctx.at_ L j inn loop B lb).i = (Ctx.at_ (L.take k) j inn loop B lb).i := by
            show L.getD j 0 = (L.take k).getD j 0
            rw [List.getD_eq_getElem?_getD, List.getD_eq_getElem?_getD, List.getElem?_take, if_pos hjlt]
          have := w1.i0
          omega
    · rw [hnx.rest j ?_]
      · exact hrest j hj'
      · omega
  · have hge : k = L.length := by have := of_decide_eq_false hb; rw [hil] at this; omega
    refine ACode.exit (AExit.then_exit (AExit.then_exit (AExit.in_same ?_)))
    refine bodyQ_end 3 .nil rfl ?_
    exact RF.mk ny mo ⟨hl, fun d ⟨k', hk', ho⟩ => hw k' d (by omega) ho, hrest⟩
end Go.Proofs.Ytaadamobapnfbaa
/- flow: stmt. -/
set_option linter.unusedVariables false
set_option linter.unusedSimpArgs false
set_option maxRecDepth 100000
namespace Go.Proofs.Ytaadamobapnfbaa
open Go Go.Abs
theorem storeNx {P : Program} {N : Nat} {D : List Deferred} {env : Env} {R R' : List Abs.Item} {o : Oper} {K Kp : AV → List Abs.Item → Prop} (p : Nat) {t : TypeId} {td : TD} {x y : Operand} {m k j : Nat} {w : List Int} {rows : List (List AV)} {l : List (List Int)} (ho : o.op = .store t x y)
    (hx : ev N env x = some (.mp m k)) (hi : R[p]? = some (.mu m (l.map nxc))) (hy : ev N env y = some (.il 1 none rows)) (hw : rows = ints w) (hT : TOK P t td) (hsz : td.size = 1) (hkj : k = j) (hlt : j < l.length) (hR : setO p (.mu m ((l.set j w).map nxc)) R = some R') (hk : K .any R') : AOp P N D o env R K Kp := by
  subst hkj; subst hw
  refine AOp.storeAt p ho hx hi hy hT rfl hsz (by simpa using hlt) ?_ hk
  rw [show (AV.il 1 none (ints w)) = nxc w from rfl, ← List.map_set]; exact hR
theorem tst_get {t : Tree} {i : Int} (h0 : 0 ≤ i) (h1 : i < t.stmts.length) : (t.stmts.map St.cells)[i.toNat]? = some (t.stm i).cells := by
  have hl : i.toNat < t.stmts.length := by omega
  simp only [List.getElem?_map, Tree.stm, List.getD_eq_getElem?_getD, List.getElem?_eq_getElem hl, Option.map_some, Option.getD_some]
theorem WaysIn.one {t : Tree} {nx : List (List Int)} {c : Ctx} {lo : Nat} {w : List Int} (h : Own1 t c lo) (hn : nx.length = t.stmts.length) (hw : w = way t c) (ht : (t.stm c.i).thn = []) (he : (t.stm c.i).els = []) : WaysIn t nx (nx.set c.i.toNat w) (Occ t c) lo (c.i + 1) := by
  have i0 := h.i0
  have i1 := h.i1
  have hk := h.kids.le
  refine ⟨by simp, fun d hd => ?_, fun j hj => ?_⟩
  · rcases hd.cases with rfl | ⟨k, h1, _⟩ | ⟨k, h1, _⟩
    · rw [List.getElem?_set_self (by omega), hw]
    · rw [ht] at h1; simp at h1
    · rw [he] at h1; simp at h1
  · rw [List.getElem?_set_ne (by omega)]
theorem RF.of {t : Tree} {first : List Int} {τ mB mN n : Nat} {loops : List (Int × Int)} {P : List (List Int) → Prop} {R : List Abs.Item} (nx : List (List Int)) (mo : Nat) (h : P nx) (hR : R = [.mu mB (bcells t first τ mN n mo loops.length), .mu mN (nx.map nxc), .mu mo (lcells loops)]) : RF t first τ mB mN n loops P (.ret (.tup [])) R := by
  subst hR; exact .mk nx mo h
theorem lcells_snoc (l : List (Int × Int)) (p : Int × Int) : lcells (l ++ [p]) = lcells l ++ [[vi p.1, vi p.2]].flatten := by simp [lcells]
theorem lcells_len (l : List (Int × Int)) : (lcells l).length = l.length * 2 := by
  induction l with
  | nil => rfl
  | cons x l ih => simp only [lcells, List.map_cons, List.flatten_cons, List.length_append, List.length_cons, List.length_nil] at ih ⊢; omega
theorem lcells_last {loops : List (Int × Int)} {pre : List (Int × Int)} {a b : Int} (h : loops = pre ++ [(a, b)]) : (lcells loops)[0 + ((loops.length : Int) - 1).toNat * 2 + 0]? = some (vi a) ∧ (lcells loops)[0 + ((loops.length : Int) - 1).toNat * 2 + 1]? = some (vi b) := by
  have e : ((loops.length : Int) - 1).toNat = pre.length := by rw [h, List.length_append, List.length_singleton]; omega
  rw [e, h, lcells_snoc]
  have := lcells_len pre
  constructor
  · rw [List.getElem?_append_right (by omega), this]; simp
  · rw [List.getElem?_append_right (by omega), this, show 0 + pre.length * 2 + 1 - pre.length * 2 = 1 by omega]; simp
theorem row2 (x y : AV) : ∀ r ∈ [[x, y]], r.length = 2 := fun r h => by rw [List.mem_singleton] at h; subst h; rfl
theorem leOfEq {l m : List AV} (h : l = m) : LeL l m := h ▸ LeL.refl l
set_option maxHeartbeats 4000000 in
theorem flow_stmt (n : Nat) (hS : CSt n) : CSt (n + 1) := by
  intro t first τ mB mN nx0 mo0 loops c lo ht hst hnx0 hown hn hlp hj hd
  have i0 := hown.i0
  have i1 := hown.i1
  have hrow := tst_get i0 i1
  have hs0 := hst c.i.toNat (t.stm c.i) (by simp only [Tree.stm, List.getD_eq_getElem?_getD]; rw [List.getElem?_eq_getElem (by omega)]; rfl)
  have hlt : 0 + c.i.toNat * 1 < nx0.length := by omega
  have hii : 0 + c.i.toNat * 1 = c.i.toNat := by omega
  have hb := ht.big
  generalize hs : t.stm c.i = s at hrow hs0
  have hkids := hown.kids
  rw [hs] at hkids
  have hkl := hkids.le
  obtain ⟨md, k1, k2⟩ := hkids.split
  have k1l := k1.le
  have k2l := k2.le
  refine ACalls.of_code (c := _) Try.func44 rfl Try.ntmps44 (Nat.le_of_ble_eq_true rfl) ?_
  refine ACode.seq (ACode.region ?_)
  refine ASeq.q rfl rfl (QOp.move rfl rfl) ?_
  refine ASeq.q rfl rfl (QOp.nilCheckM rfl rfl) ?_
  refine ASeq.q rfl rfl (QOp.fieldM rfl rfl (tok _ rfl) rfl rfl (by decide) rfl) ?_
  refine ASeq.q rfl rfl (QOp.fieldM rfl rfl (tok _ rfl) rfl rfl (by decide) rfl) ?_
  refine ASeq.q rfl rfl (QOp.loadM 0 rfl rfl rfl (tok _ rfl) rfl) ?_
  refine ASeq.q rfl rfl (QOp.move rfl rfl) ?_
  refine ASeq.q rfl rfl (QOp.indexI rfl rfl rfl (tok _ rfl) rfl (tok _ rfl) (by omega) (by assumption)) ?_
  refine ASeq.q rfl rfl (QOp.loadI rfl rfl (tok _ rfl) rfl) ?_
  refine ASeq.op rfl rfl (AOp.allocP rfl (tok _ rfl) rfl rfl (fun _ => rfl) (fun _ => ?_))
  refine ASeq.op0 rfl rfl (AOp.storeP 3 rfl rfl rfl rfl (tok _ rfl) rfl rfl rfl rfl ?_)
  refine ASeq.nil ?_
  rename_i m6
  refine ACode.seq (ACode.region ?_)
  refine ASeq.q rfl rfl (QOp.fieldM rfl rfl (tok _ rfl) rfl rfl (by decide) rfl) ?_
  refine ASeq.q rfl rfl (QOp.loadM 3 rfl rfl rfl (tok _ rfl) rfl) ?_
  refine ASeq.nil ?_
  refine ACode.block (ACode.seq (ACode.region ?_))
  refine ASeq.q rfl rfl (QOp.cmp rfl rfl rfl rfl) ?_
  refine ASeq.q rfl rfl (QOp.assign rfl rfl) ?_
  refine ASeq.nil ?_
  refine AExit.then_normal ?_
  refine ACode.cond _ rfl (fun hb => ?_) (fun hb => ?_)
  · have hk5 : s.kind = 5 := by simpa using hb
    have hw : way t c = [firstOf s.thn c.behind, firstOf s.els c.behind] := by unfold way; rw [hs, if_pos hk5]
    have hsub : ∀ (L : List Int) (k : Nat), c.sub t L k = .at_ L k c.i c.loop c.behind c.lb := fun L k => by unfold Ctx.sub; rw [hs, if_neg (by omega)]
    have hc1 : c.thn t = fun k => .at_ s.thn k c.i c.loop c.behind c.lb := by funext k; unfold Ctx.thn; rw [hsub, hs]
    have hc2 : c.els t = fun k => .at_ s.els k c.i c.loop c.behind c.lb := by funext k; unfold Ctx.els; rw [hsub, hs]
    have hl1 : (nx0.set c.i.toNat (way t c)).length = t.stmts.length := by rw [List.length_set]; exact hnx0
    have hj1 : ∀ k, k < s.thn.length → JOk t (.at_ s.thn k c.i c.loop c.behind c.lb) := fun k hk d ho => by
      refine hj d (Occ.trans (.thn .self k (by rw [hs]; exact hk)) ?_)
      rw [hc1]; exact ho
    have hj2 : ∀ k, k < s.els.length → JOk t (.at_ s.els k c.i c.loop c.behind c.lb) := fun k hk d ho => by
      refine hj d (Occ.trans (.els .self k (by rw [hs]; exact hk)) ?_)
      rw [hc2]; exact ho
    refine ACode.seq ?_
    refine ACode.drawn [[], [0], [0, 1], [0, 1, 2], [0, 1, 2, 3], [], [], [6], [], [6, 7, 8], [], [10], [], [6, 7, 8, 9, 10, 11, 12], [6, 7, 8, 9, 10, 11, 12, 13], [0, 1, 2, 3, 4, 5, 6, 7, 8, 9, 10, 11, 12, 13, 14], [0, 1, 2, 3, 4, 5, 6, 7, 8, 9, 10, 11, 12, 13, 14, 15]] (by kernel_rfl) mixed ?_
    refine DAny.qu 0 rfl rfl (by kernel_rfl) rfl (fun _ => .does _ _ rfl (.none rfl) (QOp.move rfl rfl)) ?_
    refine DAny.qu 1 rfl rfl (by kernel_rfl) rfl (fun _ => .does _ _ rfl (.none rfl) (QOp.nilCheckM rfl rfl)) ?_
    refine DAny.qu 2 rfl rfl (by kernel_rfl) rfl (fun _ => .does _ _ rfl (.none rfl) (QOp.fieldM rfl rfl (tok _ rfl) rfl rfl (by decide) rfl)) ?_
    refine DAny.qu 3 rfl rfl (by kernel_rfl) rfl (fun _ => .does _ _ rfl (.none rfl) (QOp.fieldM rfl rfl (tok _ rfl) rfl rfl (by decide) rfl)) ?_
    refine DAny.ld 4 rfl rfl (by kernel_rfl) rfl (.does _ _ rfl (.none rfl) (QOp.loadM 0 rfl rfl rfl (tok _ rfl) rfl)) ?_
    refine DAny.qu 5 rfl rfl (by kernel_rfl) rfl (fun _ => .does _ _ rfl (.none rfl) (QOp.move rfl rfl)) ?_
    refine DAny.qu 6 rfl rfl (by kernel_rfl) rfl (fun _ => .does _ _ rfl (.none rfl) (QOp.fieldM rfl rfl (tok _ rfl) rfl rfl (by decide) rfl)) ?_
    refine DAny.ld 7 rfl rfl (by kernel_rfl) rfl (.does _ _ rfl (.none rfl) (QOp.loadM 3 rfl rfl rfl (tok _ rfl) rfl)) ?_
    refine DAny.qu 8 rfl rfl (by kernel_rfl) rfl (fun _ => .does _ _ rfl (.none rfl) (QOp.move rfl rfl)) ?_
    refine DAny.qu 10 rfl rfl (by kernel_rfl) rfl (fun _ => .does _ _ rfl (.none rfl) (QOp.fieldM rfl rfl (tok _ rfl) rfl rfl (by decide) rfl)) ?_
    refine DAny.ld 11 rfl rfl (by kernel_rfl) rfl (.does _ _ rfl (.none rfl) (QOp.loadM 3 rfl rfl rfl (tok _ rfl) rfl)) ?_
    refine DAny.qu 12 rfl rfl (by kernel_rfl) rfl (fun _ => .does _ _ rfl (.none rfl) (QOp.move rfl rfl)) ?_
    refine DAny.ef 9 rfl (by kernel_rfl) (.none rfl) rfl rfl (AOp.callP 0 rfl (by kernel_rfl) rfl rfl rfl (first_ok _ _) ?_ (by rintro _ _ ⟨⟩))
    rintro _ _ ⟨⟩
    refine ⟨(by ((refine AllQ.cons (.does _ _ rfl (.none rfl) (QOp.loadM 3 rfl rfl rfl (tok _ rfl) rfl)) ?_); (refine AllQ.cons (.does _ _ rfl (.none rfl) (QOp.loadM 0 rfl rfl rfl (tok _ rfl) rfl)) ?_); (exact AllQ.nil))), ?_⟩
    refine DAny.ef 13 rfl (by kernel_rfl) (.none rfl) rfl rfl (AOp.callP 0 rfl (by kernel_rfl) rfl rfl rfl (first_ok _ _) ?_ (by rintro _ _ ⟨⟩))
    rintro _ _ ⟨⟩
    refine ⟨(by ((refine AllQ.cons (.does _ _ rfl (.none rfl) (QOp.loadM 0 rfl rfl rfl (tok _ rfl) rfl)) ?_); (exact AllQ.nil))), ?_⟩
    refine DAny.ef 14 rfl (by kernel_rfl) (.none rfl) rfl rfl (AOp.buildSliceR rfl (tok _ rfl) rfl (tok _ rfl) (by decide) rfl (by decide) rfl rfl rfl rfl ⟨(by ((refine AllQ.cons (.does _ _ rfl (.none rfl) (QOp.loadM 0 rfl rfl rfl (tok _ rfl) rfl)) ?_); (exact AllQ.nil))), ?_⟩)
    refine DAny.qu 15 rfl rfl (by kernel_rfl) rfl (fun _ => .does _ _ rfl (.none rfl) (QOp.indexM rfl rfl rfl (tok _ rfl) rfl (tok _ rfl) (by omega) (by omega) rfl)) ?_
    -- STOP before effect 16 (listed 0,1,2,3,4,5,6,7,8,9,10,11,12,13,14,15)
    refine DAny.ef0 16 rfl (by kernel_rfl) (.none rfl) rfl rfl (storeNx 1 (j := c.i.toNat) (w := way t c) rfl rfl rfl rfl (by rw [hw]; rfl) (tok _ rfl) rfl hii (by omega) rfl ⟨(by ((exact AllQ.nil))), ?_⟩)
    refine DAny.done (by kernel_rfl) ?_
    refine ACode.seq (ACode.region ?_)
    refine ASeq.q rfl rfl (QOp.move rfl rfl) ?_
    refine ASeq.q rfl rfl (QOp.fieldM rfl rfl (tok _ rfl) rfl rfl (by decide) rfl) ?_
    refine ASeq.q rfl rfl (QOp.loadM 3 rfl rfl rfl (tok _ rfl) rfl) ?_
    refine ASeq.q rfl rfl (QOp.move rfl rfl) ?_
    refine ASeq.op rfl rfl (AOp.callP 3 rfl (by kernel_rfl) rfl rfl rfl (list_walk hS t first τ mB mN (nx0.set c.i.toNat (way t c)) mo0 loops s.thn c.i c.loop c.behind c.lb lo md ht hst hl1 k1 (by omega) hlp hj1 (by omega)) ?_ (by rintro _ _ ⟨⟩))
    rintro _ _ ⟨nx, mo, hnx⟩
    refine ASeq.nil ?_
    have h1 := hnx
    refine ACode.region ?_
    refine ASeq.q rfl rfl (QOp.move rfl rfl) ?_
    refine ASeq.q rfl rfl (QOp.fieldM rfl rfl (tok _ rfl) rfl rfl (by decide) rfl) ?_
    refine ASeq.q rfl rfl (QOp.loadM 3 rfl rfl rfl (tok _ rfl) rfl) ?_
    refine ASeq.q rfl rfl (QOp.move rfl rfl) ?_
    refine ASeq.op rfl rfl (AOp.callP 3 rfl (by kernel_rfl) rfl rfl rfl (list_walk hS t first τ mB mN nx mo loops s.els c.i c.loop c.behind c.lb md c.i.toNat ht hst (h1.len.trans hl1) k2 (by omega) hlp hj2 (by omega)) ?_ (by rintro _ _ ⟨⟩))
    rintro _ _ ⟨nx, mo, hnx⟩
    refine ASeq.nil ?_
    refine AExit.in_normal ?_
    refine bodyQ_end 3 .nil rfl ?_
    refine RF.mk nx mo ⟨hnx.len.trans (h1.len.trans (by rw [List.length_set])), fun d hdd => ?_, fun j hj => ?_⟩
    · rcases hdd.cases with rfl | ⟨k, hk, ho⟩ | ⟨k, hk, ho⟩
      · rw [hnx.rest _ (.inr (by omega)), h1.rest _ (.inr (by omega)), List.getElem?_set_self (by omega)]
      · rw [hs] at hk
        rw [hc1] at ho
        rw [hnx.rest _ ?_]
        · exact h1.ways d ⟨k, hk, ho⟩
        · left
          obtain ⟨lo1, p1, p2, p3, p4⟩ := k1.own hk c.i c.loop c.behind c.lb
          obtain ⟨lo2, q1, q2, q3, q4⟩ := p1.occ ho
          have := q1.i0
          omega
      · rw [hs] at hk
        rw [hc2] at ho
        exact hnx.ways d ⟨k, hk, ho⟩
    · rw [hnx.rest _ (by omega), h1.rest _ (by omega), List.getElem?_set_ne (by omega)]
  have hne5 : s.kind ≠ 5 := by simpa using hb
  refine ACode.seq (ACode.region ?_)
  refine ASeq.q rfl rfl (QOp.cmp rfl rfl rfl rfl) ?_
  refine ASeq.q rfl rfl (QOp.assign rfl rfl) ?_
  refine ASeq.nil ?_
  refine AExit.then_normal ?_
  refine ACode.cond _ rfl (fun hb => ?_) (fun hb => ?_)
  · have hk6 : s.kind = 6 := by simpa using hb
    have hw : way t c = [firstOf s.thn c.i, c.behind] := by unfold way; rw [hs, if_neg hne5, if_pos hk6]
    have hsub : ∀ (L : List Int) (k : Nat), c.sub t L k = .at_ L k c.i c.i c.i c.behind := fun L k => by unfold Ctx.sub; rw [hs, if_pos hk6]
    have hc1 : c.thn t = fun k => .at_ s.thn k c.i c.i c.i c.behind := by funext k; unfold Ctx.thn; rw [hsub, hs]
    have hels := hs0.el hne5
    have hl1 : (nx0.set c.i.toNat (way t c)).length = t.stmts.length := by rw [List.length_set]; exact hnx0
    have hj1 : ∀ k, k < s.thn.length → JOk t (.at_ s.thn k c.i c.i c.i c.behind) := fun k hk d ho => by
      refine hj d (Occ.trans (.thn .self k (by rw [hs]; exact hk)) ?_)
      rw [hc1]; exact ho
    have hlen2 : (loops ++ [(c.i, c.behind)]).length = loops.length + 1 := by simp
    have hdep : ((loops ++ [(c.i, c.behind)]).length : Int) + md ≤ 4000000 := by omega
    refine ACode.seq ?_
    refine ACode.drawn [[], [0], [0, 1], [0, 1, 2], [0, 1, 2, 3], [], [], [6], [], [6, 7, 8], [], [6, 7, 8, 9, 10], [0, 1, 2, 3, 4, 5, 6, 7, 8, 9, 10, 11], [0, 1, 2, 3, 4, 5, 6, 7, 8, 9, 10, 11, 12]] (by kernel_rfl) mixed ?_
    refine DAny.qu 0 rfl rfl (by kernel_rfl) rfl (fun _ => .does _ _ rfl (.none rfl) (QOp.move rfl rfl)) ?_
    refine DAny.qu 1 rfl rfl (by kernel_rfl) rfl (fun _ => .does _ _ rfl (.none rfl) (QOp.nilCheckM rfl rfl)) ?_
    refine DAny.qu 2 rfl rfl (by kernel_rfl) rfl (fun _ => .does _ _ rfl (.none rfl) (QOp.fieldM rfl rfl (tok _ rfl) rfl rfl (by decide) rfl)) ?_
    refine DAny.qu 3 rfl rfl (by kernel_rfl) rfl (fun _ => .does _ _ rfl (.none rfl) (QOp.fieldM rfl rfl (tok _ rfl) rfl rfl (by decide) rfl)) ?_
    refine DAny.ld 4 rfl rfl (by kernel_rfl) rfl (.does _ _ rfl (.none rfl) (QOp.loadM 0 rfl rfl rfl (tok _ rfl) rfl)) ?_
    refine DAny.qu 5 rfl rfl (by kernel_rfl) rfl (fun _ => .does _ _ rfl (.none rfl) (QOp.move rfl rfl)) ?_
    refine DAny.qu 6 rfl rfl (by kernel_rfl) rfl (fun _ => .does _ _ rfl (.none rfl) (QOp.fieldM rfl rfl (tok _ rfl) rfl rfl (by decide) rfl)) ?_
    refine DAny.ld 7 rfl rfl (by kernel_rfl) rfl (.does _ _ rfl (.none rfl) (QOp.loadM 3 rfl rfl rfl (tok _ rfl) rfl)) ?_
    refine DAny.qu 8 rfl rfl (by kernel_rfl) rfl (fun _ => .does _ _ rfl (.none rfl) (QOp.move rfl rfl)) ?_
    refine DAny.qu 10 rfl rfl (by kernel_rfl) rfl (fun _ => .does _ _ rfl (.none rfl) (QOp.move rfl rfl)) ?_
    refine DAny.ef 9 rfl (by kernel_rfl) (.none rfl) rfl rfl (AOp.callP 0 rfl (by kernel_rfl) rfl rfl rfl (first_ok _ _) ?_ (by rintro _ _ ⟨⟩))
    rintro _ _ ⟨⟩
    refine ⟨(by ((refine AllQ.cons (.does _ _ rfl (.none rfl) (QOp.loadM 0 rfl rfl rfl (tok _ rfl) rfl)) ?_); (exact AllQ.nil))), ?_⟩
    refine DAny.ef 11 rfl (by kernel_rfl) (.none rfl) rfl rfl (AOp.buildSliceR rfl (tok _ rfl) rfl (tok _ rfl) (by decide) rfl (by decide) rfl rfl rfl rfl ⟨(by ((refine AllQ.cons (.does _ _ rfl (.none rfl) (QOp.loadM 0 rfl rfl rfl (tok _ rfl) rfl)) ?_); (exact AllQ.nil))), ?_⟩)
    refine DAny.qu 12 rfl rfl (by kernel_rfl) rfl (fun _ => .does _ _ rfl (.none rfl) (QOp.indexM rfl rfl rfl (tok _ rfl) rfl (tok _ rfl) (by omega) (by omega) rfl)) ?_
    -- STOP before effect 13 (listed 0,1,2,3,4,5,6,7,8,9,10,11,12)
    refine DAny.ef0 13 rfl (by kernel_rfl) (.none rfl) rfl rfl (storeNx 1 (j := c.i.toNat) (w := way t c) rfl rfl rfl rfl (by rw [hw]; rfl) (tok _ rfl) rfl hii (by omega) rfl ⟨(by ((exact AllQ.nil))), ?_⟩)
    refine DAny.done (by kernel_rfl) ?_
    refine ACode.seq (ACode.region ?_)
    refine ASeq.q rfl rfl (QOp.move rfl rfl) ?_
    refine ASeq.q rfl rfl (QOp.move rfl rfl) ?_
    refine ASeq.q rfl rfl (QOp.nilCheckM rfl rfl) ?_
    refine ASeq.q rfl rfl (QOp.fieldM rfl rfl (tok _ rfl) rfl rfl (by decide) rfl) ?_
    refine ASeq.q rfl rfl (QOp.loadM 0 rfl rfl rfl (tok _ rfl) rfl) ?_
    refine ASeq.q rfl rfl (QOp.move rfl rfl) ?_
    refine ASeq.q rfl rfl (QOp.move rfl rfl) ?_
    refine ASeq.q rfl rfl (QOp.build rfl (tok _ rfl) rfl rfl rfl rfl rfl) ?_
    refine ASeq.op rfl rfl (AOp.buildSliceR rfl (tok _ rfl) rfl (tok _ rfl) (by decide) rfl (by decide) rfl rfl rfl rfl ?_)
    refine ASeq.op rfl rfl (AOp.appendMP 2 (e := 141) (tde := TT 141) rfl rfl rfl rfl (tok _ rfl) rfl (tok _ rfl) (tok _ rfl) rfl (by decide) rfl rfl (fun _ => rfl) (lcells_len loops) (row2 _ _) (by simp only [List.length_cons, List.length_nil]; omega) rfl (fun _ => ?_))
    refine ASeq.q rfl rfl (QOp.nilCheckM rfl rfl) ?_
    refine ASeq.q rfl rfl (QOp.fieldM rfl rfl (tok _ rfl) rfl rfl (by decide) rfl) ?_
    refine ASeq.op0 rfl rfl (AOp.storeP 0 rfl rfl rfl rfl (tok _ rfl) rfl rfl rfl rfl ?_)
    refine ASeq.nil ?_
    refine ACode.seq (ACode.region ?_)
    refine ASeq.cells (cells' := lcells (loops ++ [(c.i, c.behind)])) [_, _] [_] rfl (leOfEq (lcells_snoc loops (c.i, c.behind)).symm) ?_
    refine ASeq.cells (cells' := bcells t first τ mN t.stmts.length _ (loops ++ [(c.i, c.behind)]).length) [] [_, _, _] rfl (leOfEq (by rw [hlen2]; rfl)) ?_
    refine ASeq.q rfl rfl (QOp.move rfl rfl) ?_
    refine ASeq.q rfl rfl (QOp.fieldM rfl rfl (tok _ rfl) rfl rfl (by decide) rfl) ?_
    refine ASeq.q rfl rfl (QOp.loadM 3 rfl rfl rfl (tok _ rfl) rfl) ?_
    refine ASeq.q rfl rfl (QOp.move rfl rfl) ?_
    refine ASeq.op rfl rfl (AOp.callP 3 rfl (by kernel_rfl) rfl rfl rfl (list_walk hS t first τ mB mN (nx0.set c.i.toNat (way t c)) _ (loops ++ [(c.i, c.behind)]) s.thn c.i c.i c.i c.behind lo md ht hst hl1 k1 (by omega) (.inr ⟨loops, rfl⟩) hj1 hdep) ?_ (by rintro _ _ ⟨⟩))
    rintro _ _ ⟨nx, mo, hnx⟩
    refine ASeq.nil ?_
    rw [hlen2]
    refine AExit.then_normal ?_
    refine ACode.shrink (loops.length * 2) [_, _] [_] rfl ?_
    rw [show (lcells (loops ++ [(c.i, c.behind)])).take (loops.length * 2) = lcells loops by rw [lcells_snoc, ← lcells_len loops, List.take_left]]
    refine ACode.drawn [[], [], [1], [1, 2], [1, 2, 3], [], [5], [5, 6], [5, 6, 7], [5, 6, 7, 8], [5, 6, 7, 8, 9], [1, 2, 3, 4, 5, 6, 7, 8, 9, 10], [0, 1, 2, 3, 4, 5, 6, 7, 8, 9, 10, 11], [0, 1, 2, 3, 4, 5, 6, 7, 8, 9, 10, 11, 12], [0, 1, 2, 3, 4, 5, 6, 7, 8, 9, 10, 11, 12, 13]] (by kernel_rfl) mixed ?_
    refine DAny.qu 0 rfl rfl (by kernel_rfl) rfl (fun _ => .does _ _ rfl (.none rfl) (QOp.move rfl rfl)) ?_
    refine DAny.qu 1 rfl rfl (by kernel_rfl) rfl (fun _ => .does _ _ rfl (.none rfl) (QOp.move rfl rfl)) ?_
    refine DAny.qu 2 rfl rfl (by kernel_rfl) rfl (fun _ => .does _ _ rfl (.none rfl) (QOp.nilCheckM rfl rfl)) ?_
    refine DAny.qu 3 rfl rfl (by kernel_rfl) rfl (fun _ => .does _ _ rfl (.none rfl) (QOp.fieldM rfl rfl (tok _ rfl) rfl rfl (by decide) rfl)) ?_
    refine DAny.ld 4 rfl rfl (by kernel_rfl) rfl (.does _ _ rfl (.none rfl) (QOp.loadM 0 rfl rfl rfl (tok _ rfl) rfl)) ?_
    refine DAny.qu 5 rfl rfl (by kernel_rfl) rfl (fun _ => .does _ _ rfl (.none rfl) (QOp.move rfl rfl)) ?_
    refine DAny.qu 6 rfl rfl (by kernel_rfl) rfl (fun _ => .does _ _ rfl (.none rfl) (QOp.nilCheckM rfl rfl)) ?_
    refine DAny.qu 7 rfl rfl (by kernel_rfl) rfl (fun _ => .does _ _ rfl (.none rfl) (QOp.fieldM rfl rfl (tok _ rfl) rfl rfl (by decide) rfl)) ?_
    refine DAny.ld 8 rfl rfl (by kernel_rfl) rfl (.does _ _ rfl (.none rfl) (QOp.loadM 0 rfl rfl rfl (tok _ rfl) rfl)) ?_
    refine DAny.qu 9 rfl rfl (by kernel_rfl) rfl (fun _ => .does _ _ rfl (.none rfl) (QOp.lenM rfl rfl (tok _ rfl) rfl)) ?_
    refine DAny.qu 10 rfl rfl (by kernel_rfl) rfl (fun _ => .does _ _ rfl (.none rfl) (QOp.ar64 rfl rfl rfl rfl ⟨by omega, by omega⟩)) ?_
    refine DAny.qu 11 rfl rfl (by kernel_rfl) rfl (fun _ => .does _ _ rfl (.none rfl) (QOp.cutM rfl rfl rfl (tok _ rfl) rfl (tok _ rfl) (by omega) (by omega))) ?_
    refine DAny.qu 12 rfl rfl (by kernel_rfl) rfl (fun _ => .does _ _ rfl (.none rfl) (QOp.nilCheckM rfl rfl)) ?_
    refine DAny.qu 13 rfl rfl (by kernel_rfl) rfl (fun _ => .does _ _ rfl (.none rfl) (QOp.fieldM rfl rfl (tok _ rfl) rfl rfl (by decide) rfl)) ?_
    refine DAny.ef0 14 rfl (by kernel_rfl) (.none rfl) rfl rfl (AOp.storeP 0 rfl rfl rfl rfl (tok _ rfl) rfl rfl rfl rfl ⟨(by ((exact AllQ.nil))), ?_⟩)
    refine DAny.done (by kernel_rfl) ?_
    refine AExit.in_normal ?_
    refine bodyQ_end 3 .nil rfl ?_
    have hlast : (((loops.length + 1 : Nat) : Int) - 1).toNat = loops.length := by omega
    refine RF.of nx mo ⟨hnx.len.trans (by rw [List.length_set]), fun d hdd => ?_, fun j hj => ?_⟩ (by
      show [Abs.Item.mu mB [_, _, _, _, _, .sl 2 mo 0 (((loops.length + 1 : Nat) : Int) - 1).toNat], .mu mN _, .mu mo _] = _
      rw [hlast]; rfl)
    · rcases hdd.cases with rfl | ⟨k, hk, ho⟩ | ⟨k, hk, ho⟩
      · rw [hnx.rest _ (.inr (by omega)), List.getElem?_set_self (by omega)]
      · rw [hs] at hk
        rw [hc1] at ho
        exact hnx.ways d ⟨k, hk, ho⟩
      · rw [hs, hels] at hk; simp at hk
    · rw [hnx.rest _ (by omega), List.getElem?_set_ne (by omega)]
  have hne6 : s.kind ≠ 6 := by simpa using hb
  have hthn := hs0.th hne5 hne6
  have hels := hs0.el hne5
  have hone : ∀ w, w = way t c → WaysIn t nx0 (nx0.set c.i.toNat w) (Occ t c) lo (c.i + 1) := fun w hw => .one hown hnx0 hw (by rw [hs]; exact hthn) (by rw [hs]; exact hels)
  have hjc := hj c .self
  rw [hs] at hjc
  refine ACode.seq (ACode.region ?_)
  refine ASeq.q rfl rfl (QOp.cmp rfl rfl rfl rfl) ?_
  refine ASeq.q rfl rfl (QOp.assign rfl rfl) ?_
  refine ASeq.nil ?_
  refine AExit.then_normal ?_
  refine ACode.cond _ rfl (fun hb => ?_) (fun hb => ?_)
  · have hk7 : s.kind = 7 := by simpa using hb
    have hw : way t c = [c.lb] := by unfold way; rw [hs, if_neg hne5, if_neg hne6, if_pos hk7]
    have hl0 := hjc (.inl hk7)
    obtain ⟨pre, hpre⟩ : ∃ pre, loops = pre ++ [(c.loop, c.lb)] := by rcases hlp with h | h; omega; exact h
    have hlast := (lcells_last hpre).2
    have hpos : 1 ≤ loops.length := by rw [hpre]; simp
    refine ACode.drawn [[], [0], [0, 1], [0, 1, 2], [0, 1, 2, 3], [], [], [6], [6, 7], [6, 7, 8], [], [10], [10, 11], [10, 11, 12], [10, 11, 12, 13], [10, 11, 12, 13, 14], [6, 7, 8, 9, 10, 11, 12, 13, 14, 15], [6, 7, 8, 9, 10, 11, 12, 13, 14, 15, 16], [6, 7, 8, 9, 10, 11, 12, 13, 14, 15, 16, 17], [6, 7, 8, 9, 10, 11, 12, 13, 14, 15, 16, 17, 18], [0, 1, 2, 3, 4, 5, 6, 7, 8, 9, 10, 11, 12, 13, 14, 15, 16, 17, 18, 19], [0, 1, 2, 3, 4, 5, 6, 7, 8, 9, 10, 11, 12, 13, 14, 15, 16, 17, 18, 19, 20]] (by kernel_rfl) mixed ?_
    refine DAny.qu 0 rfl rfl (by kernel_rfl) rfl (fun _ => .does _ _ rfl (.none rfl) (QOp.move rfl rfl)) ?_
    refine DAny.qu 1 rfl rfl (by kernel_rfl) rfl (fun _ => .does _ _ rfl (.none rfl) (QOp.nilCheckM rfl rfl)) ?_
    refine DAny.qu 2 rfl rfl (by kernel_rfl) rfl (fun _ => .does _ _ rfl (.none rfl) (QOp.fieldM rfl rfl (tok _ rfl) rfl rfl (by decide) rfl)) ?_
    refine DAny.qu 3 rfl rfl (by kernel_rfl) rfl (fun _ => .does _ _ rfl (.none rfl) (QOp.fieldM rfl rfl (tok _ rfl) rfl rfl (by decide) rfl)) ?_
    refine DAny.ld 4 rfl rfl (by kernel_rfl) rfl (.does _ _ rfl (.none rfl) (QOp.loadM 0 rfl rfl rfl (tok _ rfl) rfl)) ?_
    refine DAny.qu 5 rfl rfl (by kernel_rfl) rfl (fun _ => .does _ _ rfl (.none rfl) (QOp.move rfl rfl)) ?_
    refine DAny.qu 6 rfl rfl (by kernel_rfl) rfl (fun _ => .does _ _ rfl (.none rfl) (QOp.move rfl rfl)) ?_
    refine DAny.qu 7 rfl rfl (by kernel_rfl) rfl (fun _ => .does _ _ rfl (.none rfl) (QOp.nilCheckM rfl rfl)) ?_
    refine DAny.qu 8 rfl rfl (by kernel_rfl) rfl (fun _ => .does _ _ rfl (.none rfl) (QOp.fieldM rfl rfl (tok _ rfl) rfl rfl (by decide) rfl)) ?_
    refine DAny.ld 9 rfl rfl (by kernel_rfl) rfl (.does _ _ rfl (.none rfl) (QOp.loadM 0 rfl rfl rfl (tok _ rfl) rfl)) ?_
    refine DAny.qu 10 rfl rfl (by kernel_rfl) rfl (fun _ => .does _ _ rfl (.none rfl) (QOp.move rfl rfl)) ?_
    refine DAny.qu 11 rfl rfl (by kernel_rfl) rfl (fun _ => .does _ _ rfl (.none rfl) (QOp.nilCheckM rfl rfl)) ?_
    refine DAny.qu 12 rfl rfl (by kernel_rfl) rfl (fun _ => .does _ _ rfl (.none rfl) (QOp.fieldM rfl rfl (tok _ rfl) rfl rfl (by decide) rfl)) ?_
    refine DAny.ld 13 rfl rfl (by kernel_rfl) rfl (.does _ _ rfl (.none rfl) (QOp.loadM 0 rfl rfl rfl (tok _ rfl) rfl)) ?_
    refine DAny.qu 14 rfl rfl (by kernel_rfl) rfl (fun _ => .does _ _ rfl (.none rfl) (QOp.lenM rfl rfl (tok _ rfl) rfl)) ?_
    refine DAny.qu 15 rfl rfl (by kernel_rfl) rfl (fun _ => .does _ _ rfl (.none rfl) (QOp.ar64 rfl rfl rfl rfl ⟨by omega, by omega⟩)) ?_
    refine DAny.qu 16 rfl rfl (by kernel_rfl) rfl (fun _ => .does _ _ rfl (.none rfl) (QOp.indexM rfl rfl rfl (tok _ rfl) rfl (tok _ rfl) (by omega) (by omega) rfl)) ?_
    refine DAny.qu 17 rfl rfl (by kernel_rfl) rfl (fun _ => .does _ _ rfl (.none rfl) (QOp.fieldM rfl rfl (tok _ rfl) rfl rfl (by decide) rfl)) ?_
    refine DAny.ld 18 rfl rfl (by kernel_rfl) rfl (.does _ _ rfl (.none rfl) (QOp.loadAt 2 rfl rfl rfl (tok _ rfl) rfl (by assumption))) ?_
    refine DAny.ef 19 rfl (by kernel_rfl) (.none rfl) rfl rfl (AOp.buildSliceR rfl (tok _ rfl) rfl (tok _ rfl) (by decide) rfl (by decide) rfl rfl rfl rfl ⟨(by ((refine AllQ.cons (.does _ _ rfl (.none rfl) (QOp.loadM 0 rfl rfl rfl (tok _ rfl) rfl)) ?_); (exact AllQ.nil))), ?_⟩)
    refine DAny.qu 20 rfl rfl (by kernel_rfl) rfl (fun _ => .does _ _ rfl (.none rfl) (QOp.indexM rfl rfl rfl (tok _ rfl) rfl (tok _ rfl) (by omega) (by omega) rfl)) ?_
    -- STOP before effect 21 (listed 0,1,2,3,4,5,6,7,8,9,10,11,12,13,14,15,16,17,18,19,20)
    refine DAny.ef0 21 rfl (by kernel_rfl) (.none rfl) rfl rfl (storeNx 1 (j := c.i.toNat) (w := way t c) rfl rfl rfl rfl (by rw [hw]; rfl) (tok _ rfl) rfl hii (by omega) rfl ⟨(by ((exact AllQ.nil))), ?_⟩)
    refine DAny.done (by kernel_rfl) ?_
    refine AExit.in_normal ?_
    refine bodyQ_end 3 .nil rfl ?_
    exact RF.mk _ mo0 (hone _ rfl)
  have hne7 : s.kind ≠ 7 := by simpa using hb
  refine ACode.seq (ACode.region ?_)
  refine ASeq.q rfl rfl (QOp.cmp rfl rfl rfl rfl) ?_
  refine ASeq.q rfl rfl (QOp.assign rfl rfl) ?_
  refine ASeq.nil ?_
  refine AExit.then_normal ?_
  refine ACode.cond _ rfl (fun hb => ?_) (fun hb => ?_)
  · have hk8 : s.kind = 8 := by simpa using hb
    have hw : way t c = [c.loop] := by unfold way; rw [hs, if_neg hne5, if_neg hne6, if_neg hne7, if_pos hk8]
    have hl0 := hjc (.inr hk8)
    obtain ⟨pre, hpre⟩ : ∃ pre, loops = pre ++ [(c.loop, c.lb)] := by rcases hlp with h | h; omega; exact h
    have hlast := (lcells_last hpre).1
    have hpos : 1 ≤ loops.length := by rw [hpre]; simp
    refine ACode.drawn [[], [0], [0, 1], [0, 1, 2], [0, 1, 2, 3], [], [], [6], [6, 7], [6, 7, 8], [], [10], [10, 11], [10, 11, 12], [10, 11, 12, 13], [10, 11, 12, 13, 14], [6, 7, 8, 9, 10, 11, 12, 13, 14, 15], [6, 7, 8, 9, 10, 11, 12, 13, 14, 15, 16], [6, 7, 8, 9, 10, 11, 12, 13, 14, 15, 16, 17], [6, 7, 8, 9, 10, 11, 12, 13, 14, 15, 16, 17, 18], [0, 1, 2, 3, 4, 5, 6, 7, 8, 9, 10, 11, 12, 13, 14, 15, 16, 17, 18, 19], [0, 1, 2, 3, 4, 5, 6, 7, 8, 9, 10, 11, 12, 13, 14, 15, 16, 17, 18, 19, 20]] (by kernel_rfl) mixed ?_
    refine DAny.qu 0 rfl rfl (by kernel_rfl) rfl (fun _ => .does _ _ rfl (.none rfl) (QOp.move rfl rfl)) ?_
    refine DAny.qu 1 rfl rfl (by kernel_rfl) rfl (fun _ => .does _ _ rfl (.none rfl) (QOp.nilCheckM rfl rfl)) ?_
    refine DAny.qu 2 rfl rfl (by kernel_rfl) rfl (fun _ => .does _ _ rfl (.none rfl) (QOp.fieldM rfl rfl (tok _ rfl) rfl rfl (by decide) rfl)) ?_
    refine DAny.qu 3 rfl rfl (by kernel_rfl) rfl (fun _ => .does _ _ rfl (.none rfl) (QOp.fieldM rfl rfl (tok _ rfl) rfl rfl (by decide) rfl)) ?_
    refine DAny.ld 4 rfl rfl (by kernel_rfl) rfl (.does _ _ rfl (.none rfl) (QOp.loadM 0 rfl rfl rfl (tok _ rfl) rfl)) ?_
    refine DAny.qu 5 rfl rfl (by kernel_rfl) rfl (fun _ => .does _ _ rfl (.none rfl) (QOp.move rfl rfl)) ?_
    refine DAny.qu 6 rfl rfl (by kernel_rfl) rfl (fun _ => .does _ _ rfl (.none rfl) (QOp.move rfl rfl)) ?_
    refine DAny.qu 7 rfl rfl (by kernel_rfl) rfl (fun _ => .does _ _ rfl (.none rfl) (QOp.nilCheckM rfl rfl)) ?_
    refine DAny.qu 8 rfl rfl (by kernel_rfl) rfl (fun _ => .does _ _ rfl (.none rfl) (QOp.fieldM rfl rfl (tok _ rfl) rfl rfl (by decide) rfl)) ?_
    refine DAny.ld 9 rfl rfl (by kernel_rfl) rfl (.does _ _ rfl (.none rfl) (QOp.loadM 0 rfl rfl rfl (tok _ rfl) rfl)) ?_
    refine DAny.qu 10 rfl rfl (by kernel_rfl) rfl (fun _ => .does _ _ rfl (.none rfl) (QOp.move rfl rfl)) ?_
    refine DAny.qu 11 rfl rfl (by kernel_rfl) rfl (fun _ => .does _ _ rfl (.none rfl) (QOp.nilCheckM rfl rfl)) ?_
    refine DAny.qu 12 rfl rfl (by kernel_rfl) rfl (fun _ => .does _ _ rfl (.none rfl) (QOp.fieldM rfl rfl (tok _ rfl) rfl rfl (by decide) rfl)) ?_
    refine DAny.ld 13 rfl rfl (by kernel_rfl) rfl (.does _ _ rfl (.none rfl) (QOp.loadM 0 rfl rfl rfl (tok _ rfl) rfl)) ?_
    refine DAny.qu 14 rfl rfl (by kernel_rfl) rfl (fun _ => .does _ _ rfl (.none rfl) (QOp.lenM rfl rfl (tok _ rfl) rfl)) ?_
    refine DAny.qu 15 rfl rfl (by kernel_rfl) rfl (fun _ => .does _ _ rfl (.none rfl) (QOp.ar64 rfl rfl rfl rfl ⟨by omega, by omega⟩)) ?_
    refine DAny.qu 16 rfl rfl (by kernel_rfl) rfl (fun _ => .does _ _ rfl (.none rfl) (QOp.indexM rfl rfl rfl (tok _ rfl) rfl (tok _ rfl) (by omega) (by omega) rfl)) ?_
    refine DAny.qu 17 rfl rfl (by kernel_rfl) rfl (fun _ => .does _ _ rfl (.none rfl) (QOp.fieldM rfl rfl (tok _ rfl) rfl rfl (by decide) rfl)) ?_
    refine DAny.ld 18 rfl rfl (by kernel_rfl) rfl (.does _ _ rfl (.none rfl) (QOp.loadAt 2 rfl rfl rfl (tok _ rfl) rfl (by assumption))) ?_
    refine DAny.ef 19 rfl (by kernel_rfl) (.none rfl) rfl rfl (AOp.buildSliceR rfl (tok _ rfl) rfl (tok _ rfl) (by decide) rfl (by decide) rfl rfl rfl rfl ⟨(by ((refine AllQ.cons (.does _ _ rfl (.none rfl) (QOp.loadM 0 rfl rfl rfl (tok _ rfl) rfl)) ?_); (exact AllQ.nil))), ?_⟩)
    refine DAny.qu 20 rfl rfl (by kernel_rfl) rfl (fun _ => .does _ _ rfl (.none rfl) (QOp.indexM rfl rfl rfl (tok _ rfl) rfl (tok _ rfl) (by omega) (by omega) rfl)) ?_
    -- STOP before effect 21 (listed 0,1,2,3,4,5,6,7,8,9,10,11,12,13,14,15,16,17,18,19,20)
    refine DAny.ef0 21 rfl (by kernel_rfl) (.none rfl) rfl rfl (storeNx 1 (j := c.i.toNat) (w := way t c) rfl rfl rfl rfl (by rw [hw]; rfl) (tok _ rfl) rfl hii (by omega) rfl ⟨(by ((exact AllQ.nil))), ?_⟩)
    refine DAny.done (by kernel_rfl) ?_
    refine AExit.in_normal ?_
    refine bodyQ_end 3 .nil rfl ?_
    exact RF.mk _ mo0 (hone _ rfl)
  have hne8 : s.kind ≠ 8 := by simpa using hb
  refine ACode.seq (ACode.region ?_)
  refine ASeq.q rfl rfl (QOp.cmp rfl rfl rfl rfl) ?_
  refine ASeq.q rfl rfl (QOp.assign rfl rfl) ?_
  refine ASeq.nil ?_
  refine AExit.then_normal ?_
  refine ACode.cond _ rfl (fun hb => ?_) (fun hb => ?_)
  · have hk9 : s.kind = 9 := by simpa using hb
    have hw : way t c = [-1] := by unfold way; rw [hs, if_neg hne5, if_neg hne6, if_neg hne7, if_neg hne8, if_pos hk9]
    refine ACode.region ?_
    refine ASeq.q rfl rfl (QOp.move rfl rfl) ?_
    refine ASeq.q rfl rfl (QOp.nilCheckM rfl rfl) ?_
    refine ASeq.q rfl rfl (QOp.fieldM rfl rfl (tok _ rfl) rfl rfl (by decide) rfl) ?_
    refine ASeq.q rfl rfl (QOp.fieldM rfl rfl (tok _ rfl) rfl rfl (by decide) rfl) ?_
    refine ASeq.q rfl rfl (QOp.loadM 0 rfl rfl rfl (tok _ rfl) rfl) ?_
    refine ASeq.q rfl rfl (QOp.move rfl rfl) ?_
    refine ASeq.op rfl rfl (AOp.buildSliceR rfl (tok _ rfl) rfl (tok _ rfl) (by decide) rfl (by decide) rfl rfl rfl rfl ?_)
    refine ASeq.q rfl rfl (QOp.indexM rfl rfl rfl (tok _ rfl) rfl (tok _ rfl) (by omega) (by omega) rfl) ?_
    refine ASeq.op0 rfl rfl (storeNx 1 (j := c.i.toNat) (w := way t c) rfl rfl rfl rfl (by rw [hw]; rfl) (tok _ rfl) rfl hii (by omega) rfl ?_)
    refine ASeq.nil ?_
    refine AExit.in_normal ?_
    refine bodyQ_end 3 .nil rfl ?_
    exact RF.mk _ mo0 (hone _ rfl)
  · have hne9 : s.kind ≠ 9 := by simpa using hb
    have hw : way t c = [c.behind] := by unfold way; rw [hs, if_neg hne5, if_neg hne6, if_neg hne7, if_neg hne8, if_neg hne9]
    refine ACode.region ?_
    refine ASeq.q rfl rfl (QOp.move rfl rfl) ?_
    refine ASeq.q rfl rfl (QOp.nilCheckM rfl rfl) ?_
    refine ASeq.q rfl rfl (QOp.fieldM rfl rfl (tok _ rfl) rfl rfl (by decide) rfl) ?_
    refine ASeq.q rfl rfl (QOp.fieldM rfl rfl (tok _ rfl) rfl rfl (by decide) rfl) ?_
    refine ASeq.q rfl rfl (QOp.loadM 0 rfl rfl rfl (tok _ rfl) rfl) ?_
    refine ASeq.q rfl rfl (QOp.move rfl rfl) ?_
    refine ASeq.q rfl rfl (QOp.move rfl rfl) ?_
    refine ASeq.op rfl rfl (AOp.buildSliceR rfl (tok _ rfl) rfl (tok _ rfl) (by decide) rfl (by decide) rfl rfl rfl rfl ?_)
    refine ASeq.q rfl rfl (QOp.indexM rfl rfl rfl (tok _ rfl) rfl (tok _ rfl) (by omega) (by omega) rfl) ?_
    refine ASeq.op0 rfl rfl (storeNx 1 (j := c.i.toNat) (w := way t c) rfl rfl rfl rfl (by rw [hw]; rfl) (tok _ rfl) rfl hii (by omega) rfl ?_)
    refine ASeq.nil ?_
    refine AExit.in_normal ?_
    refine bodyQ_end 3 .nil rfl ?_
    exact RF.mk _ mo0 (hone _ rfl)
end Go.Proofs.Ytaadamobapnfbaa
/- flow: Of. -/
set_option linter.unusedVariables false
set_option linter.unusedSimpArgs false
set_option maxRecDepth 100000
namespace Go.Proofs.Ytaadamobapnfbaa
open Go Go.Abs
theorem flow_stmts : ∀ n, CSt n
  | 0 => fun t first τ mB mN nx mo loops c lo ht hst hnx hown hn hlp hj hd => absurd hn (by have := hown.i0; omega)
  | n + 1 => flow_stmt n (flow_stmts n)
structure FlowOk (t : Tree) (nx : List (List Int)) : Prop where
  len : nx.length = t.stmts.length
  ways : ∀ k d, InF t k d → nx[d.i.toNat]? = some (way t d)
def firsts (t : Tree) : List Int := t.funcs.map fun g => firstOf g.body (-1)
def JumpsOk (t : Tree) : Prop := ∀ k d, InF t k d → ((t.stm d.i).kind = 7 ∨ (t.stm d.i).kind = 8) → 0 ≤ d.loop
inductive RG (t : Tree) : AOut → List Abs.Item → Prop
  | mk (mN : Nat) (nx : List (List Int)) (h : FlowOk t nx) : RG t (.ret (.agg [.il 1 none (ints (firsts t)), .sl 1 mN 0 t.stmts.length])) [.mu mN (nx.map nxc)]
theorem nils_nx (n : Nat) : LeL (List.replicate n [AV.v (.slice none 0 0)]).flatten ((List.replicate n ([] : List Int)).map nxc) := by
  induction n with
  | zero => exact .nil
  | succ n ih => rw [List.replicate_succ, List.replicate_succ]; exact .cons (.nilT 1 none) ih
theorem perm6 {α : Type} (a b c d e f : α) : [a, b, c, d, e, f].Perm [f, e, a, b, c, d] :=
  (List.perm_append_comm (l₁ := [a, b, c, d]) (l₂ := [e, f])).trans (List.Perm.swap f e _)
set_option maxHeartbeats 4000000 in
theorem flow_of (t : Tree) (R : Nat → Nat) (ht : TreeOk t) (hst : ∀ (i : Nat) (x : St), t.stmts[i]? = some x → StOk x) (hR : FR t R) (hJ : JumpsOk t) : ACalls Try.prog 16 [.agg t.cells] [] (RG t) := by
  refine ACalls.retellR ?_
  have hSl : (t.stmts.map St.cells).length = t.stmts.length := List.length_map ..
  have hFl : (t.funcs.map Fu.cells).length = t.funcs.length := List.length_map ..
  have hbig := ht.big
  refine ACalls.of_code (c := _) Try.func16 rfl Try.ntmps16 (Nat.le_of_ble_eq_true rfl) ?_
  refine ACode.newVirt (fun mo => ?_)
  refine ACode.newTok (fun τ => ?_)
  refine ACode.seq (ACode.region ?_)
  refine ASeq.op rfl rfl (AOp.boxP rfl rfl rfl (fun _ => rfl) (fun _ => ?_))
  refine ASeq.op rfl rfl (AOp.allocP rfl (tok _ rfl) rfl rfl (fun _ => rfl) (fun _ => ?_))
  refine ASeq.nil ?_
  rename_i m1 m2
  refine ACode.seq ?_
  refine ACode.drawn [[], [], [1], [1, 2], [1, 2, 3], [1, 2, 3, 4], [0, 1, 2, 3, 4, 5], [0, 1, 2, 3, 4, 5, 6], [0, 1, 2, 3, 4, 5, 6, 7]] (by kernel_rfl) mixed ?_
  refine DAny.ld 0 rfl rfl (by kernel_rfl) rfl (.does _ _ rfl (.none rfl) (QOp.loadM 2 rfl rfl rfl (tok _ rfl) rfl)) ?_
  refine DAny.qu 1 rfl rfl (by kernel_rfl) rfl (fun _ => .does _ _ rfl (.none rfl) (QOp.fieldM rfl rfl (tok _ rfl) rfl rfl (by decide) rfl)) ?_
  refine DAny.ld 2 rfl rfl (by kernel_rfl) rfl (.does _ _ rfl (.none rfl) (QOp.loadM 2 rfl rfl rfl (tok _ rfl) rfl)) ?_
  refine DAny.qu 3 rfl rfl (by kernel_rfl) rfl (fun _ => .does _ _ rfl (.none rfl) (QOp.lenI rfl rfl (tok _ rfl) rfl)) ?_
  -- STOP at effect 4 Go.Op.makeSlice 31 (Go.Operand.tmp 9) (Go.Operand.tmp 9) (listed 0,1,2,3)
  refine DAny.ef 4 rfl (by kernel_rfl) (.none rfl) rfl rfl (AOp.makeP (n := (t.stmts.map St.cells).length) rfl rfl rfl (tok _ rfl) rfl (tok _ rfl) (by decide) rfl rfl (fun _ => rfl) (by omega) rfl (fun mN => ⟨(by ((refine AllQ.cons (.does _ _ rfl (.none rfl) (QOp.loadM 2 rfl rfl rfl (tok _ rfl) rfl)) ?_); (exact AllQ.nil))), ?_⟩))
  refine DAny.qu 5 rfl rfl (by kernel_rfl) rfl (fun _ => .does _ _ rfl (.none rfl) (QOp.build rfl (tok _ rfl) rfl rfl rfl rfl rfl)) ?_
  refine DAny.qu 6 rfl rfl (by kernel_rfl) rfl (fun _ => .does _ _ rfl (.none rfl) (QOp.build rfl (tok _ rfl) rfl rfl rfl rfl rfl)) ?_
  -- STOP at effect 7 Go.Op.box 71 (Go.Operand.tmp 12) (listed 0,1,2,3,4,5,6)
  refine DAny.ef 7 rfl (by kernel_rfl) (.none rfl) rfl rfl (AOp.boxP rfl rfl rfl (fun _ => rfl) (fun mB => ⟨(by ((exact AllQ.nil))), ?_⟩))
  refine DAny.ef 8 rfl (by kernel_rfl) (.none rfl) rfl rfl (.q (QOp.assign rfl rfl) ⟨(by ((exact AllQ.nil))), ?_⟩)
  refine DAny.done (by kernel_rfl) ?_
  refine AExit.then_normal ?_
  refine ACode.items _ (perm6 _ _ _ _ _ _) (List.Sublist.refl _) ?_
  refine ACode.cells (cells' := (List.replicate t.stmts.length ([] : List Int)).map nxc) [_] [_, _, _, _] rfl (by rw [hSl]; exact nils_nx _) ?_
  refine ACode.cells (cells' := bcells t [] τ mN t.stmts.length mo 0) [] [_, _, _, _, _] rfl (.cons (.refl _) (.cons (.refl _) (.cons (.refl _) (.cons (.nilT 1 _) (.cons (by rw [hSl]; exact .refl _) (.cons (.nilM 2 mo 0) .nil)))))) ?_
  refine ACode.seq (ACode.seq (ACode.region ?_))
  refine ASeq.q rfl rfl (QOp.fieldM rfl rfl (tok _ rfl) rfl rfl (by decide) rfl) ?_
  refine ASeq.q rfl rfl (QOp.loadM 4 rfl rfl rfl (tok _ rfl) rfl) ?_
  refine ASeq.q rfl rfl (QOp.lenI rfl rfl (tok _ rfl) rfl) ?_
  refine ASeq.q rfl rfl (QOp.move rfl rfl) ?_
  refine ASeq.nil ?_
  refine ACode.block ?_
  refine ACode.loopP (fun (x : Nat × List Int × Nat × List (List Int) × Nat) => [(2, .mp m2 0), (3, .mp mB 0), (15, .il 6 none (t.funcs.map Fu.cells)), (16, vi ((t.funcs.map Fu.cells).length : Int)), (17, vi x.1)])
    (fun x => [.mu mB (bcells t x.2.1 x.2.2.1 mN t.stmts.length x.2.2.2.2 0), .mu mN (x.2.2.2.1.map nxc), .mu x.2.2.2.2 [], .tk x.2.2.1, .mu m1 t.cells, .mu m2 (List.map AV.v (TT 33).zero)]) (fun x => t.funcs.length - x.1)
    (fun x => x.1 ≤ t.funcs.length ∧ x.2.1 = (t.funcs.take x.1).map (fun g => firstOf g.body (-1)) ∧ x.2.2.2.1.length = t.stmts.length ∧ ∀ k d, k < x.1 → InF t k d → x.2.2.2.1[d.i.toNat]? = some (way t d))
    (0, [], τ, List.replicate t.stmts.length [], mo) ⟨Nat.zero_le _, rfl, by simp, fun k d hk => by omega⟩ (.cons rfl (.cons rfl (.cons rfl (.cons rfl (.cons rfl .nil))))) 6 rfl ?_
  rintro ⟨i, fs, τ, nx0, mo⟩ ⟨hi, hfs, hnl, hways⟩
  dsimp only at hi hfs hnl hways
  have hfl : fs.length = i := by rw [hfs, List.length_map, List.length_take]; omega
  have hil := ints_len fs
  refine ACode.seq (ACode.region ?_)
  refine ASeq.q rfl rfl (QOp.cmp rfl rfl rfl rfl) ?_
  refine ASeq.nil ?_
  refine ACode.seq ?_
  refine ACode.cond _ rfl (fun hb => ?_) (fun hb => ?_)
  · have hlt : i < t.funcs.length := by have := of_decide_eq_true hb; rw [hFl] at this; omega
    have hgi := fu_at hlt
    have hgk : t.funcs[i]? = some t.funcs[i] := List.getElem?_eq_getElem hlt
    have hbody := hR.body i _ hgk
    have hbl := hbody.le
    have hR1 : R (i + 1) ≤ t.stmts.length := by rw [← hR.all]; exact hR.mono _ _ (by omega)
    have hjj : ∀ k, k < t.funcs[i].body.length → JOk t (.at_ t.funcs[i].body k (-1) (-1) (-1) (-1)) := fun k hk d ho => hJ i d ⟨_, k, hgk, hk, ho⟩
    have hdep : (([] : List (Int × Int)).length : Int) + R (i + 1) ≤ 4000000 := by simp only [List.length_nil]; omega
    refine ACode.skip (ACode.seq (ACode.block (ACode.seq (ACode.region ?_))))
    refine ASeq.q rfl rfl (QOp.indexI rfl rfl rfl (tok _ rfl) rfl (tok _ rfl) (by omega) (by assumption)) ?_
    refine ASeq.q rfl rfl (QOp.loadI rfl rfl (tok _ rfl) rfl) ?_
    refine ASeq.op rfl rfl (AOp.allocP rfl (tok _ rfl) rfl rfl (fun _ => rfl) (fun _ => ?_))
    refine ASeq.op0 rfl rfl (AOp.storeP 6 rfl rfl rfl rfl (tok _ rfl) rfl rfl rfl rfl ?_)
    refine ASeq.nil ?_
    refine ACode.seq ?_
    refine ACode.drawn [[], [], [1], [1, 2], [1, 2, 3], [1, 2, 3, 4], [], [6], [6, 7], [6, 7, 8], [1, 2, 3, 4, 5, 6, 7, 8, 9], [0, 1, 2, 3, 4, 5, 6, 7, 8, 9, 10], [0, 1, 2, 3, 4, 5, 6, 7, 8, 9, 10, 11], [0, 1, 2, 3, 4, 5, 6, 7, 8, 9, 10, 11, 12], [0, 1, 2, 3, 4, 5, 6, 7, 8, 9, 10, 11, 12, 13]] (by kernel_rfl) mixed ?_
    refine DAny.qu 0 rfl rfl (by kernel_rfl) rfl (fun _ => .does _ _ rfl (.none rfl) (QOp.move rfl rfl)) ?_
    refine DAny.qu 1 rfl rfl (by kernel_rfl) rfl (fun _ => .does _ _ rfl (.none rfl) (QOp.move rfl rfl)) ?_
    refine DAny.qu 2 rfl rfl (by kernel_rfl) rfl (fun _ => .does _ _ rfl (.none rfl) (QOp.nilCheckM rfl rfl)) ?_
    refine DAny.qu 3 rfl rfl (by kernel_rfl) rfl (fun _ => .does _ _ rfl (.none rfl) (QOp.fieldM rfl rfl (tok _ rfl) rfl rfl (by decide) rfl)) ?_
    refine DAny.qu 4 rfl rfl (by kernel_rfl) rfl (fun _ => .does _ _ rfl (.none rfl) (QOp.fieldM rfl rfl (tok _ rfl) rfl rfl (by decide) rfl)) ?_
    refine DAny.ld 5 rfl rfl (by kernel_rfl) rfl (.does _ _ rfl (.none rfl) (QOp.loadM 0 rfl rfl rfl (tok _ rfl) rfl)) ?_
    refine DAny.qu 6 rfl rfl (by kernel_rfl) rfl (fun _ => .does _ _ rfl (.none rfl) (QOp.fieldM rfl rfl (tok _ rfl) rfl rfl (by decide) rfl)) ?_
    refine DAny.ld 7 rfl rfl (by kernel_rfl) rfl (.does _ _ rfl (.none rfl) (QOp.loadM 6 rfl rfl rfl (tok _ rfl) rfl)) ?_
    refine DAny.ef 8 rfl (by kernel_rfl) (.none rfl) rfl rfl (AOp.callP 0 rfl (by kernel_rfl) rfl rfl rfl (first_ok _ _) ?_ (by rintro _ _ ⟨⟩))
    rintro _ _ ⟨⟩
    refine ⟨(by ((refine AllQ.cons (.does _ _ rfl (.none rfl) (QOp.loadM 0 rfl rfl rfl (tok _ rfl) rfl)) ?_); (exact AllQ.nil))), ?_⟩
    refine DAny.ef 9 rfl (by kernel_rfl) (.none rfl) rfl rfl (AOp.buildSliceR rfl (tok _ rfl) rfl (tok _ rfl) (by decide) rfl (by decide) rfl rfl rfl rfl ⟨(by ((refine AllQ.cons (.does _ _ rfl (.none rfl) (QOp.loadM 0 rfl rfl rfl (tok _ rfl) rfl)) ?_); (exact AllQ.nil))), ?_⟩)
    refine DAny.ef 10 rfl (by kernel_rfl) (.none rfl) rfl rfl (AOp.appendP 3 (e := 3) (tde := TT 3) rfl rfl rfl rfl (tok _ rfl) rfl (tok _ rfl) (tok _ rfl) rfl (by decide) rfl rfl (fun _ => rfl) (ints_rows fs _) (by simp only [ints_len, List.length_cons, List.length_nil]; omega) rfl (fun _ => ⟨(by ((exact AllQ.nil))), ?_⟩))
    refine DAny.qu 11 rfl rfl (by kernel_rfl) rfl (fun _ => .does _ _ rfl (.none rfl) (QOp.nilCheckM rfl rfl)) ?_
    refine DAny.qu 12 rfl rfl (by kernel_rfl) rfl (fun _ => .does _ _ rfl (.none rfl) (QOp.fieldM rfl rfl (tok _ rfl) rfl rfl (by decide) rfl)) ?_
    refine DAny.qu 13 rfl rfl (by kernel_rfl) rfl (fun _ => .does _ _ rfl (.none rfl) (QOp.fieldM rfl rfl (tok _ rfl) rfl rfl (by decide) rfl)) ?_
    refine DAny.ef0 14 rfl (by kernel_rfl) (.none rfl) rfl rfl (AOp.storeP 0 rfl rfl rfl rfl (tok _ rfl) rfl rfl rfl rfl ⟨(by ((exact AllQ.nil))), ?_⟩)
    refine DAny.done (by kernel_rfl) ?_
    rename_i m5 τ'
    refine ACode.region ?_
    refine ASeq.cells (cells' := bcells t (fs ++ [firstOf t.funcs[i].body (-1)]) τ' mN t.stmts.length mo 0) [] [_, _, _, _, _, _] rfl (leOfEq (by rw [ints_snoc]; rfl)) ?_
    refine ASeq.q rfl rfl (QOp.move rfl rfl) ?_
    refine ASeq.q rfl rfl (QOp.fieldM rfl rfl (tok _ rfl) rfl rfl (by decide) rfl) ?_
    refine ASeq.q rfl rfl (QOp.loadM 6 rfl rfl rfl (tok _ rfl) rfl) ?_
    refine ASeq.op rfl rfl (AOp.callP 3 rfl (by kernel_rfl) rfl rfl rfl (list_walk (flow_stmts (R (i + 1))) t (fs ++ [firstOf t.funcs[i].body (-1)]) τ' mB mN nx0 mo [] t.funcs[i].body (-1) (-1) (-1) (-1) (R i) (R (i + 1)) ht hst hnl hbody (Nat.le_refl _) (.inl (by decide)) hjj hdep) ?_ (by rintro _ _ ⟨⟩))
    rintro _ _ ⟨nx, mo, hnx⟩
    refine ASeq.nil ?_
    refine ACode.region ?_
    refine ASeq.q rfl rfl (QOp.ar64 rfl rfl rfl rfl ⟨by omega, by omega⟩) ?_
    refine ASeq.q rfl rfl (QOp.move rfl rfl) ?_
    refine ASeq.nil ?_
    refine AExit.then_normal ?_
    refine ⟨(i + 1, fs ++ [firstOf t.funcs[i].body (-1)], τ', nx, mo), 6, ⟨hlt, ?_, hnx.len.trans hnl, fun k d hk hin => ?_⟩, by dsimp only; omega, .cons rfl (.cons rfl (.cons rfl (.cons rfl (.cons rfl .nil)))), rfl⟩
    · dsimp only; rw [hfs, List.take_add_one, List.getElem?_eq_getElem hlt, Option.toList_some, List.map_append]; rfl
    · by_cases hki : k = i
      · subst hki
        obtain ⟨g, j, h1, h2, h3⟩ := hin
        rw [hgk] at h1
        cases h1
        exact hnx.ways d ⟨j, h2, h3⟩
      · have hlt' : k < i := by omega
        obtain ⟨lo, o1, o2, o3, o4⟩ := hR.own hin
        have := hR.mono (k + 1) i (by omega)
        have := o1.i0
        rw [hnx.rest _ (.inl (by omega))]
        exact hways k d hlt' hin
  · have hge : i = t.funcs.length := by have := of_decide_eq_false hb; rw [hFl] at this; omega
    refine ACode.exit (ACode.seq (ACode.region ?_))
    refine ASeq.q rfl rfl (QOp.move rfl rfl) ?_
    refine ASeq.q rfl rfl (QOp.nilCheckM rfl rfl) ?_
    refine ASeq.q rfl rfl (QOp.fieldM rfl rfl (tok _ rfl) rfl rfl (by decide) rfl) ?_
    refine ASeq.q rfl rfl (QOp.loadM 0 rfl rfl rfl (tok _ rfl) rfl) ?_
    refine ASeq.op0 rfl rfl (AOp.storeP 5 rfl rfl rfl rfl (tok _ rfl) rfl rfl rfl rfl ?_)
    refine ASeq.nil ?_
    refine ACode.ret ?_
    have hfs2 : fs = firsts t := by rw [hfs, hge, List.take_length]; rfl
    refine ⟨_, _, [.mu mN (nx0.map nxc)], .cell 5 rfl rfl (tok _ rfl) rfl .nil, .refl _, .cons _ (.cons_cons _ (List.nil_sublist _)), ?_⟩
    rw [hfs2]
    exact ⟨_, LeL.agg (.cons (.tok 1 _ _) (.cons (.refl _) .nil)), .mk mN nx0 ⟨hnl, fun k d hin => by
      obtain ⟨g, j, h1, h2, h3⟩ := hin
      exact hways k d (by rw [hge]; exact (List.getElem?_eq_some_iff.1 h1).1) ⟨g, j, h1, h2, h3⟩⟩⟩
end Go.Proofs.Ytaadamobapnfbaa
/- ref07: lay, Places. -/
set_option linter.unusedVariables false
set_option linter.unusedSimpArgs false
set_option maxRecDepth 100000
namespace Go.Proofs.Ytaadamobapnfbaa
open Go Go.Abs
structure Pl where
  L : List Int
  k : Int
  inn : Int
  loop : Int
def Pl.cells (p : Pl) : List AV := [.il 1 none (ints p.L), vi p.k, vi p.inn, vi p.loop]
def plOf (c : Ctx) : Pl := ⟨c.L, c.k, c.inn, c.loop⟩
def pcells (P : List Pl) : List AV := (P.map Pl.cells).flatten
theorem pl_rows (P : List Pl) : ∀ r ∈ P.map Pl.cells, r.length = (TT 109).size := fun r h => by obtain ⟨x, _, rfl⟩ := List.mem_map.1 h; rfl
theorem storePl {Pr : Program} {N : Nat} {D : List Deferred} {env : Env} {R R' : List Abs.Item} {o : Oper} {K Kp : AV → List Abs.Item → Prop} (p : Nat) {t : TypeId} {td : TD} {x y : Operand} {m k i : Nat} {w : Pl} {v : AV} {l : List Pl} (ho : o.op = .store t x y)
    (hx : ev N env x = some (.mp m k)) (hi : R[p]? = some (.mu m (pcells l))) (hy : ev N env y = some v) (hw : v = .agg w.cells) (hT : TOK Pr t td) (hsz : td.size = (TT 109).size) (hk' : k = 0 + i * td.size) (hlt : i < l.length) (hR : setO p (.mu m (pcells (l.set i w))) R = some R') (hk : K .any R') : AOp Pr N D o env R K Kp := by
  subst hw
  refine AOp.storeRow p ho hx hi hy hT (vs := w.cells) rfl (by rw [hsz]; exact pl_rows l) (by rw [hsz]; rfl) hk' (by rw [List.length_map]; exact hlt) ?_ hk
  rw [← List.map_set]; exact hR
inductive RL (t : Tree) (mP : Nat) (Q : List Pl → Prop) : AOut → List Abs.Item → Prop
  | mk (P : List Pl) (h : Q P) : RL t mP Q (.ret (.sl 4 mP 0 t.stmts.length)) [.mu mP (pcells P)]
structure Laid (t : Tree) (P P' : List Pl) (occ : Ctx → Prop) (lo hi : Int) : Prop where
  len : P'.length = P.length
  all : ∀ d, occ d → P'[d.i.toNat]? = some (plOf d)
  rest : ∀ j : Nat, ((j : Int) < lo ∨ hi ≤ j) → P'[j]? = P[j]?
def CLay (n : Nat) : Prop := ∀ (t : Tree) (P : List Pl) (mP : Nat) (L : List Int) (inn loop B lb : Int) (lo hi : Nat), TreeOk t → SCov t L lo hi → hi ≤ n → P.length = t.stmts.length →
  ACalls Try.prog 45 [.agg t.cells, .sl 4 mP 0 t.stmts.length, .il 1 none (ints L), vi inn, vi loop] [.mu mP (pcells P)]
    (RL t mP (fun P' => Laid t P P' (fun d => ∃ k, k < L.length ∧ Occ t (.at_ L k inn loop B lb) d) lo hi))
theorem SCov.top {t : Tree} {l : List Int} {a c : Nat} (h : SCov t l a c) : c ≤ a ∨ c ≤ t.stmts.length := by
  induction h with
  | nil => exact .inl (Nat.le_refl _)
  | cons hr hk hl ih1 ih2 => omega
set_option maxHeartbeats 4000000 in
theorem lay_walk (n : Nat) (hS : ∀ m, m < n → CLay m) : CLay n := by
  intro t P0 mP L inn loop B lb lo hi ht hL hn hPl
  have hil := ints_len L
  have hSl : (t.stmts.map St.cells).length = t.stmts.length := List.length_map ..
  have hlen := hL.len
  have hbig := ht.big
  have htop := hL.top
  refine ACalls.of_code (c := _) Try.func45 rfl Try.ntmps45 (Nat.le_of_ble_eq_true rfl) ?_
  refine ACode.seq (ACode.region ?_)
  refine ASeq.op rfl rfl (AOp.boxP rfl rfl rfl (fun _ => rfl) (fun _ => ?_))
  refine ASeq.q rfl rfl (QOp.assign rfl rfl) ?_
  refine ASeq.nil ?_
  rename_i m5
  refine ACode.seq (ACode.seq (ACode.region ?_))
  refine ASeq.q rfl rfl (QOp.move rfl rfl) ?_
  refine ASeq.q rfl rfl (QOp.lenI rfl rfl (tok _ rfl) rfl) ?_
  refine ASeq.q rfl rfl (QOp.move rfl rfl) ?_
  refine ASeq.nil ?_
  refine ACode.block ?_
  refine ACode.loopP (fun (x : Nat × List Pl) => [(1, .sl 4 mP 0 t.stmts.length), (2, .il 1 none (ints L)), (3, vi inn), (4, vi loop), (5, .mp m5 0), (15, vi ((ints L).length : Int)), (16, vi x.1)])
    (fun x => [.mu mP (pcells x.2), .mu m5 t.cells]) (fun x => L.length - x.1)
    (fun x => x.1 ≤ L.length ∧ x.2.length = P0.length ∧ (∀ k d, k < x.1 → Occ t (.at_ L k inn loop B lb) d → x.2[d.i.toNat]? = some (plOf d)) ∧ ∀ j : Nat, ((j : Int) < lo ∨ (hi : Int) ≤ j) → x.2[j]? = P0[j]?)
    (0, P0) ⟨Nat.zero_le _, rfl, fun k d hk => by omega, fun _ _ => rfl⟩ (.cons rfl (.cons rfl (.cons rfl (.cons rfl (.cons rfl (.cons rfl (.cons rfl .nil))))))) 2 rfl ?_
  rintro ⟨k, P1⟩ ⟨hk, hl, hw, hrest⟩
  dsimp only at hk hl hw hrest
  refine ACode.seq (ACode.region ?_)
  refine ASeq.q rfl rfl (QOp.cmp rfl rfl rfl rfl) ?_
  refine ASeq.nil ?_
  refine ACode.seq ?_
  refine ACode.cond _ rfl (fun hb => ?_) (fun hb => ?_)
  · have hlt : k < L.length := by have := of_decide_eq_true hb; rw [hil] at this; omega
    have hget := ints_get hlt
    obtain ⟨lo', o1, o2, o3, o4⟩ := hL.own hlt inn loop B lb
    have ei : (Ctx.at_ L k inn loop B lb).i = L[k] := by show L.getD k 0 = _; rw [List.getD_eq_getElem?_getD, List.getElem?_eq_getElem hlt]; rfl
    have i0 := o1.i0
    have i1 := o1.i1
    have hown := o1
    have hS := hS (n - 1) (by omega)
    have hki : L[k].toNat < P1.length := by rw [← ei]; omega
    generalize hc : Ctx.at_ L k inn loop B lb = c at *
    have hrow := tst_get i0 i1
    rw [ei] at hrow
    obtain ⟨md, k1, k2⟩ := hown.kids.split
    have k1l := k1.le
    have k2l := k2.le
    refine ACode.skip (ACode.seq (ACode.block (ACode.seq (ACode.region ?_))))
    refine ASeq.q rfl rfl (QOp.move rfl rfl) ?_
    refine ASeq.q rfl rfl (QOp.assign rfl rfl) ?_
    refine ASeq.nil ?_
    refine ACode.seq ?_
    refine ACode.drawn [[], [0], [], [], [2, 3], [2, 3, 4], [0, 1, 2, 3, 4, 5], [0, 1, 2, 3, 4, 5, 6], [], [0, 1, 2, 3, 4, 5, 6, 7, 8]] (by kernel_rfl) mixed ?_
    refine DAny.qu 0 rfl rfl (by kernel_rfl) rfl (fun _ => .does _ _ rfl (.none rfl) (QOp.fieldM rfl rfl (tok _ rfl) rfl rfl (by decide) rfl)) ?_
    refine DAny.ld 1 rfl rfl (by kernel_rfl) rfl (.does _ _ rfl (.none rfl) (QOp.loadM 1 rfl rfl rfl (tok _ rfl) rfl)) ?_
    refine DAny.qu 2 rfl rfl (by kernel_rfl) rfl (fun _ => .does _ _ rfl (.none rfl) (QOp.move rfl rfl)) ?_
    refine DAny.qu 3 rfl rfl (by kernel_rfl) rfl (fun _ => .does _ _ rfl (.none rfl) (QOp.move rfl rfl)) ?_
    refine DAny.qu 4 rfl rfl (by kernel_rfl) rfl (fun _ => .does _ _ rfl (.none rfl) (QOp.indexI rfl rfl rfl (tok _ rfl) rfl (tok _ rfl) (by omega) (by assumption))) ?_
    refine DAny.qu 5 rfl rfl (by kernel_rfl) rfl (fun _ => .does _ _ rfl (.none rfl) (QOp.loadI rfl rfl (tok _ rfl) rfl)) ?_
    refine DAny.qu 6 rfl rfl (by kernel_rfl) rfl (fun _ => .does _ _ rfl (.none rfl) (QOp.indexI rfl rfl rfl (tok _ rfl) rfl (tok _ rfl) (by omega) (by assumption))) ?_
    refine DAny.qu 7 rfl rfl (by kernel_rfl) rfl (fun _ => .does _ _ rfl (.none rfl) (QOp.loadI rfl rfl (tok _ rfl) rfl)) ?_
    refine DAny.ef 8 rfl (by kernel_rfl) (.none rfl) rfl rfl (AOp.allocP rfl (tok _ rfl) rfl rfl (fun _ => rfl) (fun _ => ⟨(by ((refine AllQ.cons (.does _ _ rfl (.none rfl) (QOp.loadM 1 rfl rfl rfl (tok _ rfl) rfl)) ?_); (exact AllQ.nil))), ?_⟩))
    refine DAny.ef0 9 rfl (by kernel_rfl) (.none rfl) rfl rfl (AOp.storeP 2 rfl rfl rfl rfl (tok _ rfl) rfl rfl rfl rfl ⟨(by ((exact AllQ.nil))), ?_⟩)
    refine DAny.done (by kernel_rfl) ?_
    rename_i m12
    refine ACode.seq (ACode.region ?_)
    refine ASeq.q rfl rfl (QOp.move rfl rfl) ?_
    refine ASeq.q rfl rfl (QOp.move rfl rfl) ?_
    refine ASeq.q rfl rfl (QOp.move rfl rfl) ?_
    refine ASeq.q rfl rfl (QOp.indexI rfl rfl rfl (tok _ rfl) rfl (tok _ rfl) (by omega) (by assumption)) ?_
    refine ASeq.q rfl rfl (QOp.loadI rfl rfl (tok _ rfl) rfl) ?_
    refine ASeq.q rfl rfl (QOp.move rfl rfl) ?_
    refine ASeq.q rfl rfl (QOp.move rfl rfl) ?_
    refine ASeq.q rfl rfl (QOp.move rfl rfl) ?_
    refine ASeq.q rfl rfl (QOp.move rfl rfl) ?_
    refine ASeq.q rfl rfl (QOp.build rfl (tok _ rfl) rfl rfl rfl rfl rfl) ?_
    refine ASeq.q rfl rfl (QOp.indexM rfl rfl rfl (tok _ rfl) rfl (tok _ rfl) (by omega) (by omega) rfl) ?_
    refine ASeq.op0 rfl rfl (storePl 0 (i := L[k].toNat) (w := plOf c) rfl rfl rfl rfl (by rw [← hc]; rfl) (tok _ rfl) rfl rfl hki rfl ?_)
    refine ASeq.nil ?_
    refine ACode.seq (ACode.region ?_)
    refine ASeq.q rfl rfl (QOp.move rfl rfl) ?_
    refine ASeq.q rfl rfl (QOp.assign rfl rfl) ?_
    refine ASeq.nil ?_
    refine AExit.then_normal ?_
    have hcl : c.loop = loop := by rw [← hc]; rfl
    obtain ⟨B', lb', hsub⟩ : ∃ B' lb', ∀ (M : List Int) (j : Nat), c.sub t M j = .at_ M j L[k] (if (t.stm L[k]).kind = 6 then L[k] else loop) B' lb' := by
      unfold Ctx.sub
      rw [ei, hcl]
      by_cases h6 : (t.stm L[k]).kind = 6
      · exact ⟨L[k], c.behind, fun M j => by rw [if_pos h6, if_pos h6]⟩
      · exact ⟨c.behind, c.lb, fun M j => by rw [if_neg h6, if_neg h6]⟩
    have hc1 : c.thn t = fun j => .at_ (t.stm L[k]).thn j L[k] (if (t.stm L[k]).kind = 6 then L[k] else loop) B' lb' := by funext j; unfold Ctx.thn; rw [hsub, ei]
    have hc2 : c.els t = fun j => .at_ (t.stm L[k]).els j L[k] (if (t.stm L[k]).kind = 6 then L[k] else loop) B' lb' := by funext j; unfold Ctx.els; rw [hsub, ei]
    rw [ei] at k1 k2 k2l i0 i1
    have hl1 : (P1.set L[k].toNat (plOf c)).length = t.stmts.length := by rw [List.length_set, hl]; exact hPl
    have s1 := hS t (P1.set L[k].toNat (plOf c)) mP (t.stm L[k]).thn L[k] (if (t.stm L[k]).kind = 6 then L[k] else loop) B' lb' lo' md ht k1 (by omega) hl1
    refine ACode.meet [(1, .sl 4 mP 0 t.stmts.length), (2, .il 1 none (ints L)), (3, vi inn), (4, vi loop), (5, .mp m5 0), (15, vi ((ints L).length : Int)), (16, vi k), (11, vi k), (12, .mp m12 0), (13, vi (if (t.stm L[k]).kind = 6 then L[k] else loop))]
      [.mu mP (pcells (P1.set L[k].toNat (plOf c))), .mu m5 t.cells, .mu m12 (t.stm L[k]).cells] (fun rest => ?_) ?_
    · refine ACode.seq (ACode.region ?_)
      refine ASeq.q rfl rfl (QOp.fieldM rfl rfl (tok _ rfl) rfl rfl (by decide) rfl) ?_
      refine ASeq.q rfl rfl (QOp.loadM 2 rfl rfl rfl (tok _ rfl) rfl) ?_
      refine ASeq.q rfl rfl (QOp.cmp rfl rfl rfl rfl) ?_
      refine ASeq.nil ?_
      refine AExit.then_normal ?_
      refine ACode.cond _ rfl (fun hb => ?_) (fun hb => ?_)
      · have hk6 : (t.stm L[k]).kind = 6 := by simpa using hb
        refine ACode.region ?_
        refine ASeq.q rfl rfl (QOp.move rfl rfl) ?_
        refine ASeq.q rfl rfl (QOp.move rfl rfl) ?_
        refine ASeq.q rfl rfl (QOp.indexI rfl rfl rfl (tok _ rfl) rfl (tok _ rfl) (by omega) (by assumption)) ?_
        refine ASeq.q rfl rfl (QOp.loadI rfl rfl (tok _ rfl) rfl) ?_
        refine ASeq.q rfl rfl (QOp.assign rfl rfl) ?_
        refine ASeq.nil ?_
        refine AExit.then_normal ?_
        exact rest.atP 3 (.cons rfl (.cons rfl (.cons rfl (.cons rfl (.cons rfl (.cons rfl (.cons rfl (.cons rfl (.cons rfl (.consE rfl (by rw [if_pos hk6]) .nil)))))))))) rfl
      · have hk6 : (t.stm L[k]).kind ≠ 6 := by simpa using hb
        refine ACode.skip ?_
        refine AExit.then_normal ?_
        exact rest.atP 3 (.cons rfl (.cons rfl (.cons rfl (.cons rfl (.cons rfl (.cons rfl (.cons rfl (.cons rfl (.cons rfl (.consE rfl (by rw [if_neg hk6]) .nil)))))))))) rfl
    refine ACode.seq ?_
    refine ACode.drawn [[], [], [], [2], [], [], [4, 5], [4, 5, 6], [], [0, 1, 2, 3, 4, 5, 6, 7, 8], [0, 1, 2, 3, 4, 5, 6, 7, 8, 9]] (by kernel_rfl) mixed ?_
    refine DAny.ld 0 rfl rfl (by kernel_rfl) rfl (.does _ _ rfl (.none rfl) (QOp.loadM 1 rfl rfl rfl (tok _ rfl) rfl)) ?_
    refine DAny.qu 1 rfl rfl (by kernel_rfl) rfl (fun _ => .does _ _ rfl (.none rfl) (QOp.move rfl rfl)) ?_
    refine DAny.qu 2 rfl rfl (by kernel_rfl) rfl (fun _ => .does _ _ rfl (.none rfl) (QOp.fieldM rfl rfl (tok _ rfl) rfl rfl (by decide) rfl)) ?_
    refine DAny.ld 3 rfl rfl (by kernel_rfl) rfl (.does _ _ rfl (.none rfl) (QOp.loadM 2 rfl rfl rfl (tok _ rfl) rfl)) ?_
    refine DAny.qu 4 rfl rfl (by kernel_rfl) rfl (fun _ => .does _ _ rfl (.none rfl) (QOp.move rfl rfl)) ?_
    refine DAny.qu 5 rfl rfl (by kernel_rfl) rfl (fun _ => .does _ _ rfl (.none rfl) (QOp.move rfl rfl)) ?_
    refine DAny.qu 6 rfl rfl (by kernel_rfl) rfl (fun _ => .does _ _ rfl (.none rfl) (QOp.indexI rfl rfl rfl (tok _ rfl) rfl (tok _ rfl) (by omega) (by assumption))) ?_
    refine DAny.qu 7 rfl rfl (by kernel_rfl) rfl (fun _ => .does _ _ rfl (.none rfl) (QOp.loadI rfl rfl (tok _ rfl) rfl)) ?_
    refine DAny.qu 8 rfl rfl (by kernel_rfl) rfl (fun _ => .does _ _ rfl (.none rfl) (QOp.move rfl rfl)) ?_
    refine DAny.ef 9 rfl (by kernel_rfl) (.none rfl) rfl rfl (AOp.callP 1 rfl (by kernel_rfl) rfl rfl rfl (s1) ?_ (by rintro _ _ ⟨⟩))
    rintro _ _ ⟨P, hP⟩
    refine ⟨(by ((exact AllQ.nil))), ?_⟩
    refine DAny.ef 10 rfl (by kernel_rfl) (.none rfl) rfl rfl (.q (QOp.assign rfl rfl) ⟨(by ((exact AllQ.nil))), ?_⟩)
    refine DAny.done (by kernel_rfl) ?_
    have h1 := hP
    have s2 := hS t P mP (t.stm L[k]).els L[k] (if (t.stm L[k]).kind = 6 then L[k] else loop) B' lb' md L[k].toNat ht k2 (by omega) (hP.len.trans hl1)
    refine AExit.then_normal ?_
    refine ACode.drawn [[], [], [], [2], [], [], [4, 5], [4, 5, 6], [], [0, 1, 2, 3, 4, 5, 6, 7, 8], [0, 1, 2, 3, 4, 5, 6, 7, 8, 9]] (by kernel_rfl) mixed ?_
    refine DAny.ld 0 rfl rfl (by kernel_rfl) rfl (.does _ _ rfl (.none rfl) (QOp.loadM 1 rfl rfl rfl (tok _ rfl) rfl)) ?_
    refine DAny.qu 1 rfl rfl (by kernel_rfl) rfl (fun _ => .does _ _ rfl (.none rfl) (QOp.move rfl rfl)) ?_
    refine DAny.qu 2 rfl rfl (by kernel_rfl) rfl (fun _ => .does _ _ rfl (.none rfl) (QOp.fieldM rfl rfl (tok _ rfl) rfl rfl (by decide) rfl)) ?_
    refine DAny.ld 3 rfl rfl (by kernel_rfl) rfl (.does _ _ rfl (.none rfl) (QOp.loadM 2 rfl rfl rfl (tok _ rfl) rfl)) ?_
    refine DAny.qu 4 rfl rfl (by kernel_rfl) rfl (fun _ => .does _ _ rfl (.none rfl) (QOp.move rfl rfl)) ?_
    refine DAny.qu 5 rfl rfl (by kernel_rfl) rfl (fun _ => .does _ _ rfl (.none rfl) (QOp.move rfl rfl)) ?_
    refine DAny.qu 6 rfl rfl (by kernel_rfl) rfl (fun _ => .does _ _ rfl (.none rfl) (QOp.indexI rfl rfl rfl (tok _ rfl) rfl (tok _ rfl) (by omega) (by assumption))) ?_
    refine DAny.qu 7 rfl rfl (by kernel_rfl) rfl (fun _ => .does _ _ rfl (.none rfl) (QOp.loadI rfl rfl (tok _ rfl) rfl)) ?_
    refine DAny.qu 8 rfl rfl (by kernel_rfl) rfl (fun _ => .does _ _ rfl (.none rfl) (QOp.move rfl rfl)) ?_
    refine DAny.ef 9 rfl (by kernel_rfl) (.none rfl) rfl rfl (AOp.callP 1 rfl (by kernel_rfl) rfl rfl rfl (s2) ?_ (by rintro _ _ ⟨⟩))
    rintro _ _ ⟨P, hP⟩
    refine ⟨(by ((exact AllQ.nil))), ?_⟩
    refine DAny.ef 10 rfl (by kernel_rfl) (.none rfl) rfl rfl (.q (QOp.assign rfl rfl) ⟨(by ((exact AllQ.nil))), ?_⟩)
    refine DAny.done (by kernel_rfl) ?_
    have h2 := hP
    refine ACode.region ?_
    refine ASeq.q rfl rfl (QOp.ar64 rfl rfl rfl rfl ⟨by omega, by omega⟩) ?_
    refine ASeq.q rfl rfl (QOp.move rfl rfl) ?_
    refine ASeq.nil ?_
    refine AExit.then_normal ?_
    refine ⟨(k + 1, P), 2, ⟨hlt, ?_, fun j d hj' ho => ?_, fun j hj' => ?_⟩, by show L.length - (k + 1) < L.length - k; omega, .cons rfl (.cons rfl (.cons rfl (.cons rfl (.cons rfl (.cons rfl (.cons rfl .nil)))))), rfl⟩
    · exact h2.len.trans (h1.len.trans ((List.length_set ..).trans hl))
    · by_cases hjk : j = k
      · subst hjk
        rw [hc] at ho
        rcases ho.cases with rfl | ⟨q, hq, ho⟩ | ⟨q, hq, ho⟩
        · dsimp only
          rw [ei, h2.rest _ (.inr (by omega)), h1.rest _ (.inr (by omega)), List.getElem?_set_self hki]
        · rw [hc1] at ho
          rw [ei] at hq
          dsimp only
          rw [h2.rest _ ?_]
          · exact h1.all d ⟨q, hq, ho⟩
          · left
            obtain ⟨lo1, p1, p2, p3, p4⟩ := k1.own hq L[j] (if (t.stm L[j]).kind = 6 then L[j] else loop) B' lb'
            obtain ⟨lo2, q1, q2, q3, q4⟩ := p1.occ ho
            have := q1.i0
            omega
        · rw [hc2] at ho
          rw [ei] at hq
          exact h2.all d ⟨q, hq, ho⟩
      · have hjlt : j < k := by omega
        have hdlt : d.i < lo' := by
          obtain ⟨lo2, p1, p2, p3, p4⟩ := o4.own (k := j) (by rw [List.length_take]; omega) inn loop B lb
          obtain ⟨lo3, u1, u2, u3, u4⟩ := hL.own (k := j) (by omega) inn loop B lb
          obtain ⟨lo4, w1, w2, w3, w4⟩ := u1.occ ho
          have g1 : (Ctx.at_ L j inn loop B lb).i = (Ctx.at_ (L.take k) j inn loop B lb).i := by
            show L.getD j 0 = (L.take k).getD j 0
            rw [List.getD_eq_getElem?_getD, List.getD_eq_getElem?_getD, List.getElem?_take, if_pos hjlt]
          omega
        have hd0 : 0 ≤ d.i := by
          obtain ⟨lo3, u1, u2, u3, u4⟩ := hL.own (k := j) (by omega) inn loop B lb
          obtain ⟨lo4, w1, w2, w3, w4⟩ := u1.occ ho
          exact w1.i0
        dsimp only
        rw [h2.rest _ (by omega), h1.rest _ (by omega), List.getElem?_set_ne (by omega)]
        exact hw j d hjlt ho
    · dsimp only
      rw [h2.rest _ (by omega), h1.rest _ (by omega), List.getElem?_set_ne (by omega)]
      exact hrest j hj'
  · have hge : k = L.length := by have := of_decide_eq_false hb; rw [hil] at this; omega
    refine ACode.exit (ACode.seq (ACode.region ?_))
    refine ASeq.q rfl rfl (QOp.move rfl rfl) ?_
    refine ASeq.q rfl rfl (QOp.assign rfl rfl) ?_
    refine ASeq.nil ?_
    refine ACode.ret ?_
    refine bodyQ_ret 1 (.tmp rfl .nil) rfl ?_
    exact RL.mk P1 ⟨hl, fun d ⟨k', hk', ho⟩ => hw k' d (by omega) ho, hrest⟩
theorem lays (n : Nat) : CLay n := by
  induction n using Nat.strongRecOn with
  | _ n ih => exact lay_walk n ih
end Go.Proofs.Ytaadamobapnfbaa
/- ref07: Places, Behind, Next, All. -/
set_option linter.unusedVariables false
set_option linter.unusedSimpArgs false
set_option maxRecDepth 100000
namespace Go.Proofs.Ytaadamobapnfbaa
open Go Go.Abs
structure LaidOk (t : Tree) (P : List Pl) : Prop where
  len : P.length = t.stmts.length
  all : ∀ k d, InF t k d → P[d.i.toNat]? = some (plOf d)
inductive RPl (t : Tree) : AOut → List Abs.Item → Prop
  | mk (mP : Nat) (P : List Pl) (h : LaidOk t P) : RPl t (.ret (.sl 4 mP 0 t.stmts.length)) [.mu mP (pcells P)]
theorem nils_pl (n : Nat) : LeL (List.replicate n ((TT 109).zero.map AV.v)).flatten (pcells (List.replicate n ⟨[], 0, 0, 0⟩)) := by
  induction n with
  | zero => exact .nil
  | succ n ih => exact .cons (.nilT 1 none) (.cons (.refl _) (.cons (.refl _) (.cons (.refl _) ih)))
theorem places_walk (t : Tree) (R : Nat → Nat) (ht : TreeOk t) (hR : FR t R) : ACalls Try.prog 29 [.agg t.cells] [] (RPl t) := by
  have hSl : (t.stmts.map St.cells).length = t.stmts.length := List.length_map ..
  have hFl : (t.funcs.map Fu.cells).length = t.funcs.length := List.length_map ..
  have hbig := ht.big
  refine ACalls.of_code (c := _) Try.func29 rfl Try.ntmps29 (Nat.le_of_ble_eq_true rfl) ?_
  refine ACode.seq (ACode.region ?_)
  refine ASeq.op rfl rfl (AOp.boxP rfl rfl rfl (fun _ => rfl) (fun _ => ?_))
  refine ASeq.q rfl rfl (QOp.assign rfl rfl) ?_
  refine ASeq.nil ?_
  rename_i m1
  refine ACode.seq (ACode.region ?_)
  refine ASeq.q rfl rfl (QOp.fieldM rfl rfl (tok _ rfl) rfl rfl (by decide) rfl) ?_
  refine ASeq.q rfl rfl (QOp.loadM 0 rfl rfl rfl (tok _ rfl) rfl) ?_
  refine ASeq.q rfl rfl (QOp.lenI rfl rfl (tok _ rfl) rfl) ?_
  refine ASeq.op rfl rfl (AOp.makeP (n := (t.stmts.map St.cells).length) rfl rfl rfl (tok _ rfl) rfl (tok _ rfl) (by decide) rfl rfl (fun _ => rfl) (by omega) rfl (fun mP => ?_))
  refine ASeq.q rfl rfl (QOp.assign rfl rfl) ?_
  refine ASeq.nil ?_
  refine AExit.then_normal ?_
  refine ACode.items _ (List.Perm.swap _ _ _) (List.Sublist.refl _) ?_
  refine ACode.cells (cells' := pcells (List.replicate t.stmts.length ⟨[], 0, 0, 0⟩)) [] [_] rfl (by rw [hSl]; exact nils_pl _) ?_
  refine ACode.seq (ACode.seq (ACode.region ?_))
  refine ASeq.q rfl rfl (QOp.fieldM rfl rfl (tok _ rfl) rfl rfl (by decide) rfl) ?_
  refine ASeq.q rfl rfl (QOp.loadM 1 rfl rfl rfl (tok _ rfl) rfl) ?_
  refine ASeq.q rfl rfl (QOp.lenI rfl rfl (tok _ rfl) rfl) ?_
  refine ASeq.q rfl rfl (QOp.move rfl rfl) ?_
  refine ASeq.nil ?_
  refine ACode.block ?_
  refine ACode.loopP (fun (x : Nat × List Pl) => [(1, .mp m1 0), (3, .sl 4 mP 0 t.stmts.length), (11, vi ((t.funcs.map Fu.cells).length : Int)), (12, vi x.1)])
    (fun x => [.mu mP (pcells x.2), .mu m1 t.cells]) (fun x => t.funcs.length - x.1)
    (fun x => x.1 ≤ t.funcs.length ∧ x.2.length = t.stmts.length ∧ ∀ k d, k < x.1 → InF t k d → x.2[d.i.toNat]? = some (plOf d))
    (0, List.replicate t.stmts.length ⟨[], 0, 0, 0⟩) ⟨Nat.zero_le _, by simp, fun k d hk => by omega⟩ (.cons rfl (.cons (by rw [← hSl]; rfl) (.cons rfl (.cons rfl .nil)))) 2 rfl ?_
  rintro ⟨i, P0⟩ ⟨hi, hl, hall⟩
  dsimp only at hi hl hall
  refine ACode.seq (ACode.region ?_)
  refine ASeq.q rfl rfl (QOp.cmp rfl rfl rfl rfl) ?_
  refine ASeq.nil ?_
  refine ACode.seq ?_
  refine ACode.cond _ rfl (fun hb => ?_) (fun hb => ?_)
  · have hlt : i < t.funcs.length := by have := of_decide_eq_true hb; rw [hFl] at this; omega
    have hgi := fu_at hlt
    have hgk : t.funcs[i]? = some t.funcs[i] := List.getElem?_eq_getElem hlt
    have hbody := hR.body i _ hgk
    have hs := lays (R (i + 1)) t P0 mP t.funcs[i].body (-1) (-1) (-1) (-1) (R i) (R (i + 1)) ht hbody (Nat.le_refl _) hl
    refine ACode.skip (ACode.seq (ACode.block (ACode.seq (ACode.region ?_))))
    refine ASeq.q rfl rfl (QOp.move rfl rfl) ?_
    refine ASeq.q rfl rfl (QOp.assign rfl rfl) ?_
    refine ASeq.nil ?_
    refine AExit.then_normal ?_
    refine ACode.drawn [[], [], [], [2], [], [2, 3, 4], [2, 3, 4, 5], [2, 3, 4, 5, 6], [0, 1, 2, 3, 4, 5, 6, 7], [0, 1, 2, 3, 4, 5, 6, 7, 8]] (by kernel_rfl) mixed ?_
    refine DAny.ld 0 rfl rfl (by kernel_rfl) rfl (.does _ _ rfl (.none rfl) (QOp.loadM 1 rfl rfl rfl (tok _ rfl) rfl)) ?_
    refine DAny.qu 1 rfl rfl (by kernel_rfl) rfl (fun _ => .does _ _ rfl (.none rfl) (QOp.move rfl rfl)) ?_
    refine DAny.qu 2 rfl rfl (by kernel_rfl) rfl (fun _ => .does _ _ rfl (.none rfl) (QOp.fieldM rfl rfl (tok _ rfl) rfl rfl (by decide) rfl)) ?_
    refine DAny.ld 3 rfl rfl (by kernel_rfl) rfl (.does _ _ rfl (.none rfl) (QOp.loadM 1 rfl rfl rfl (tok _ rfl) rfl)) ?_
    refine DAny.qu 4 rfl rfl (by kernel_rfl) rfl (fun _ => .does _ _ rfl (.none rfl) (QOp.move rfl rfl)) ?_
    refine DAny.qu 5 rfl rfl (by kernel_rfl) rfl (fun _ => .does _ _ rfl (.none rfl) (QOp.indexI rfl rfl rfl (tok _ rfl) rfl (tok _ rfl) (by omega) (by assumption))) ?_
    refine DAny.qu 6 rfl rfl (by kernel_rfl) rfl (fun _ => .does _ _ rfl (.none rfl) (QOp.fieldI rfl rfl (tok _ rfl) rfl rfl (by decide) rfl)) ?_
    refine DAny.qu 7 rfl rfl (by kernel_rfl) rfl (fun _ => .does _ _ rfl (.none rfl) (QOp.loadI rfl rfl (tok _ rfl) rfl)) ?_
    refine DAny.ef 8 rfl (by kernel_rfl) (.none rfl) rfl rfl (AOp.callP 1 rfl (by kernel_rfl) rfl rfl rfl (hs) ?_ (by rintro _ _ ⟨⟩))
    rintro _ _ ⟨P, hP⟩
    refine ⟨(by ((exact AllQ.nil))), ?_⟩
    refine DAny.ef 9 rfl (by kernel_rfl) (.none rfl) rfl rfl (.q (QOp.assign rfl rfl) ⟨(by ((exact AllQ.nil))), ?_⟩)
    refine DAny.done (by kernel_rfl) ?_
    refine ACode.region ?_
    refine ASeq.q rfl rfl (QOp.ar64 rfl rfl rfl rfl ⟨by omega, by omega⟩) ?_
    refine ASeq.q rfl rfl (QOp.move rfl rfl) ?_
    refine ASeq.nil ?_
    refine AExit.then_normal ?_
    refine ⟨(i + 1, P), 2, ⟨hlt, hP.len.trans hl, fun k d hk hin => ?_⟩, by dsimp only; omega, .cons rfl (.cons rfl (.cons rfl (.cons rfl .nil))), rfl⟩
    by_cases hki : k = i
    · subst hki
      obtain ⟨g, j, h1, h2, h3⟩ := hin
      rw [hgk] at h1
      cases h1
      exact hP.all d ⟨j, h2, h3⟩
    · have hlt' : k < i := by omega
      obtain ⟨lo, o1, o2, o3, o4⟩ := hR.own hin
      have := hR.mono (k + 1) i (by omega)
      have := o1.i0
      dsimp only
      rw [hP.rest _ (.inl (by omega))]
      exact hall k d hlt' hin
  · have hge : i = t.funcs.length := by have := of_decide_eq_false hb; rw [hFl] at this; omega
    refine ACode.exit (ACode.seq (ACode.region ?_))
    refine ASeq.q rfl rfl (QOp.move rfl rfl) ?_
    refine ASeq.q rfl rfl (QOp.assign rfl rfl) ?_
    refine ASeq.nil ?_
    refine ACode.ret ?_
    refine bodyQ_ret 1 (.tmp rfl .nil) rfl ?_
    exact .mk mP P0 ⟨hl, fun k d hin => by
      obtain ⟨g, j, h1, h2, h3⟩ := hin
      exact hall k d (by rw [hge]; exact (List.getElem?_eq_some_iff.1 h1).1) ⟨g, j, h1, h2, h3⟩⟩
/-- what stands around a statement -/
structure CtxOk (t : Tree) (d : Ctx) : Prop where
  k0 : d.k < d.L.length
  Li : d.L.getD d.k 0 = d.i
  big : d.L.length ≤ 1048576
  inn : d.inn < 0 ∨ ∃ k e, InF t k e ∧ e.i = d.inn
  loop : d.loop < 0 ∨ ∃ k e, InF t k e ∧ e.i = d.loop ∧ e.behind = d.lb
theorem pl_get {P : List Pl} {i : Nat} {p : Pl} (h : P[i]? = some p) : (P.map Pl.cells)[i]? = some p.cells := by rw [List.getElem?_map, h]; rfl
/-- a statement's place, with all that stands around it -/
inductive Beh (t : Tree) (k : Nat) : Ctx → Prop
  | top {g : Fu} {j : Nat} (hg : t.funcs[k]? = some g) (hj : j < g.body.length) (hb : g.body.length ≤ 1048576) : Beh t k (topC g j)
  | thn {d : Ctx} {j : Nat} (h : Beh t k d) (hin : InF t k d) (hi : 0 ≤ d.i) (hj : j < (t.stm d.i).thn.length) (hb : (t.stm d.i).thn.length ≤ 1048576) : Beh t k (d.thn t j)
  | els {d : Ctx} {j : Nat} (h : Beh t k d) (hin : InF t k d) (hi : 0 ≤ d.i) (hj : j < (t.stm d.i).els.length) (hb : (t.stm d.i).els.length ≤ 1048576) : Beh t k (d.els t j)
theorem InF.beh {t : Tree} {R : Nat → Nat} (ht : TreeOk t) (hR : FR t R) {k : Nat} {d : Ctx} (h : InF t k d) : Beh t k d := by
  obtain ⟨g, j, hg, hj, ho⟩ := h
  have hm := List.mem_of_getElem? hg
  have key : ∀ e, Occ t (topC g j) e → Beh t k e := by
    intro e he
    have hst : ∀ e, Occ t (topC g j) e → 0 ≤ e.i ∧ (t.stm e.i).thn.length ≤ 1048576 ∧ (t.stm e.i).els.length ≤ 1048576 := fun e he => by
      obtain ⟨lo, o1, _, _, o4⟩ := hR.own (k := k) ⟨g, j, hg, hj, he⟩
      have i0 := o1.i0
      have := ht.st e.i.toNat (t.stm e.i) (by simp only [Tree.stm, List.getD_eq_getElem?_getD]; rw [List.getElem?_eq_getElem (by omega)]; rfl)
      exact ⟨i0, this.2.2.2.2.2.1, this.2.2.2.2.2.2⟩
    induction he with
    | self => exact .top hg hj (ht.fu g hm).2.1
    | thn h k' hk ih => exact .thn ih ⟨g, j, hg, hj, h⟩ (hst _ h).1 hk (hst _ h).2.1
    | els h k' hk ih => exact .els ih ⟨g, j, hg, hj, h⟩ (hst _ h).1 hk (hst _ h).2.2
  exact key d ho
theorem Beh.ok {t : Tree} {k : Nat} {d : Ctx} (h : Beh t k d) : CtxOk t d := by
  have sub : ∀ (d : Ctx) (M : List Int) (j : Nat), CtxOk t d → InF t k d → j < M.length → M.length ≤ 1048576 → CtxOk t (d.sub t M j) := by
    intro d M j h hin hj hb
    unfold Ctx.sub
    split
    · exact ⟨hj, rfl, hb, .inr ⟨k, d, hin, rfl⟩, .inr ⟨k, d, hin, rfl, rfl⟩⟩
    · exact ⟨hj, rfl, hb, .inr ⟨k, d, hin, rfl⟩, h.loop⟩
  induction h with
  | top hg hj hb => exact ⟨hj, rfl, hb, .inl (by decide : (-1 : Int) < 0), .inl (by decide : (-1 : Int) < 0)⟩
  | thn h hin hi hj hb ih => exact sub _ _ _ ih hin hj hb
  | els h hin hi hj hb ih => exact sub _ _ _ ih hin hj hb
end Go.Proofs.Ytaadamobapnfbaa
/- ref07: Behind, Next, All. -/
set_option linter.unusedVariables false
set_option linter.unusedSimpArgs false
set_option maxRecDepth 100000
namespace Go.Proofs.Ytaadamobapnfbaa
open Go Go.Abs
theorem Beh.inF {t : Tree} {k : Nat} {d : Ctx} (h : Beh t k d) : InF t k d := by
  induction h with
  | top hg hj hb => exact ⟨_, _, hg, hj, .self⟩
  | thn h hin hi hj hb ih => obtain ⟨g, j, h1, h2, h3⟩ := hin; exact ⟨g, j, h1, h2, .thn h3 _ hj⟩
  | els h hin hi hj hb ih => obtain ⟨g, j, h1, h2, h3⟩ := hin; exact ⟨g, j, h1, h2, .els h3 _ hj⟩
def CBeh (t : Tree) (P : List Pl) (mP : Nat) (d : Ctx) : Prop :=
  ACalls Try.prog 46 [.agg t.cells, .sl 4 mP 0 t.stmts.length, vi d.i] [.mu mP (pcells P)] (RV (vi d.behind) [.mu mP (pcells P)])
theorem behind_step (t : Tree) (R : Nat → Nat) (ht : TreeOk t) (hR : FR t R) (P : List Pl) (mP : Nat) (hP : LaidOk t P) (k : Nat) (d : Ctx) (hB : Beh t k d) (hnx : d.k + 1 < d.L.length → d.behind = d.L.getD (d.k + 1) 0)
    (hlast : ¬ d.k + 1 < d.L.length → (d.inn < 0 ∧ d.behind = -1) ∨ (0 ≤ d.inn ∧ d.inn < t.stmts.length ∧ (t.stm d.inn).kind = 6 ∧ d.behind = d.inn) ∨ (0 ≤ d.inn ∧ d.inn < t.stmts.length ∧ (t.stm d.inn).kind ≠ 6 ∧ ∃ e, e.i = d.inn ∧ e.behind = d.behind ∧ CBeh t P mP e)) : CBeh t P mP d := by
  have hin := hB.inF
  have hok := hB.ok
  obtain ⟨lo, o1, o2, o3, o4⟩ := hR.own hin
  have i0 := o1.i0
  have hrow := hP.all k d hin
  have hPl := hP.len
  have hbig := ht.big
  have hk0 := hok.k0
  have hlb := hok.big
  have hil := ints_len d.L
  have hpl : (P.map Pl.cells)[d.i.toNat]? = some [.il 1 none (ints d.L), vi (d.k : Nat), vi d.inn, vi d.loop] := pl_get hrow
  unfold CBeh
  refine ACalls.of_code (c := _) Try.func46 rfl Try.ntmps46 (Nat.le_of_ble_eq_true rfl) ?_
  refine ACode.seq (ACode.region ?_)
  refine ASeq.op rfl rfl (AOp.boxP rfl rfl rfl (fun _ => rfl) (fun _ => ?_))
  refine ASeq.q rfl rfl (QOp.assign rfl rfl) ?_
  refine ASeq.nil ?_
  rename_i m3
  refine ACode.seq (ACode.region ?_)
  refine ASeq.q rfl rfl (QOp.move rfl rfl) ?_
  refine ASeq.q rfl rfl (QOp.move rfl rfl) ?_
  refine ASeq.q rfl rfl (QOp.indexM rfl rfl rfl (tok _ rfl) rfl (tok _ rfl) (by omega) (by omega) rfl) ?_
  refine ASeq.q rfl rfl (QOp.loadRow 0 (i := d.i.toNat) (row := [.il 1 none (ints d.L), vi (d.k : Nat), vi d.inn, vi d.loop]) rfl rfl rfl (tok _ rfl) rfl (pl_rows P) rfl hpl) ?_
  refine ASeq.op rfl rfl (AOp.allocP rfl (tok _ rfl) rfl rfl (fun _ => rfl) (fun _ => ?_))
  refine ASeq.op0 rfl rfl (AOp.storeP 2 rfl rfl rfl rfl (tok _ rfl) rfl rfl rfl rfl ?_)
  refine ASeq.nil ?_
  refine ACode.seq (ACode.seq (ACode.region ?_))
  refine ASeq.q rfl rfl (QOp.fieldM rfl rfl (tok _ rfl) rfl rfl (by decide) rfl) ?_
  refine ASeq.q rfl rfl (QOp.loadM 2 rfl rfl rfl (tok _ rfl) rfl) ?_
  refine ASeq.q rfl rfl (QOp.ar64 rfl rfl rfl rfl ⟨by omega, by omega⟩) ?_
  refine ASeq.q rfl rfl (QOp.fieldM rfl rfl (tok _ rfl) rfl rfl (by decide) rfl) ?_
  refine ASeq.q rfl rfl (QOp.loadM 2 rfl rfl rfl (tok _ rfl) rfl) ?_
  refine ASeq.q rfl rfl (QOp.lenI rfl rfl (tok _ rfl) rfl) ?_
  refine ASeq.q rfl rfl (QOp.cmp rfl rfl rfl rfl) ?_
  refine ASeq.nil ?_
  refine AExit.then_normal ?_
  refine ACode.cond _ rfl (fun hb => ?_) (fun hb => ?_)
  · have hlt : d.k + 1 < d.L.length := by have := of_decide_eq_true hb; rw [hil] at this; omega
    have hget := ints_get hlt
    have hval : d.behind = d.L[d.k + 1] := by rw [hnx hlt, List.getD_eq_getElem?_getD, List.getElem?_eq_getElem hlt]; rfl
    refine ACode.seq (ACode.region ?_)
    refine ASeq.q rfl rfl (QOp.fieldM rfl rfl (tok _ rfl) rfl rfl (by decide) rfl) ?_
    refine ASeq.q rfl rfl (QOp.loadM 2 rfl rfl rfl (tok _ rfl) rfl) ?_
    refine ASeq.q rfl rfl (QOp.fieldM rfl rfl (tok _ rfl) rfl rfl (by decide) rfl) ?_
    refine ASeq.q rfl rfl (QOp.loadM 2 rfl rfl rfl (tok _ rfl) rfl) ?_
    refine ASeq.q rfl rfl (QOp.ar64 rfl rfl rfl rfl ⟨by omega, by omega⟩) ?_
    refine ASeq.q rfl rfl (QOp.indexI rfl rfl rfl (tok _ rfl) rfl (tok _ rfl) (by omega) (by assumption)) ?_
    refine ASeq.q rfl rfl (QOp.loadI rfl rfl (tok _ rfl) rfl) ?_
    refine ASeq.q rfl rfl (QOp.assign rfl rfl) ?_
    refine ASeq.nil ?_
    refine ACode.ret (AExit.then_ret ?_)
    refine bodyQ_ret 1 (.tmp rfl .nil) rfl ?_
    rw [hval]; exact .mk
  have hnl : ¬ d.k + 1 < d.L.length := by have := of_decide_eq_false hb; rw [hil] at this; omega
  have hl := hlast hnl
  refine ACode.skip (ACode.seq (ACode.seq (ACode.region ?_)))
  refine ASeq.q rfl rfl (QOp.fieldM rfl rfl (tok _ rfl) rfl rfl (by decide) rfl) ?_
  refine ASeq.q rfl rfl (QOp.loadM 2 rfl rfl rfl (tok _ rfl) rfl) ?_
  refine ASeq.q rfl rfl (QOp.cmp rfl rfl rfl rfl) ?_
  refine ASeq.nil ?_
  refine AExit.then_normal ?_
  refine ACode.cond _ rfl (fun hb => ?_) (fun hb => ?_)
  · have hneg : d.inn < 0 := of_decide_eq_true hb
    have hval : d.behind = -1 := by
      rcases hl with h | h | h
      · exact h.2
      · omega
      · omega
    refine ACode.seq (ACode.region ?_)
    refine ASeq.q rfl rfl (QOp.assign rfl rfl) ?_
    refine ASeq.nil ?_
    refine ACode.ret (AExit.then_ret ?_)
    refine bodyQ_ret 1 (.tmp rfl .nil) rfl ?_
    rw [hval]; exact .mk
  have hge : ¬ d.inn < 0 := of_decide_eq_false hb
  have hl : 0 ≤ d.inn ∧ d.inn < t.stmts.length ∧ (((t.stm d.inn).kind = 6 ∧ d.behind = d.inn) ∨ ((t.stm d.inn).kind ≠ 6 ∧ ∃ e, e.i = d.inn ∧ e.behind = d.behind ∧ CBeh t P mP e)) := by
    rcases hl with h | h | h
    · omega
    · exact ⟨h.1, h.2.1, .inl h.2.2⟩
    · exact ⟨h.1, h.2.1, .inr h.2.2⟩
  obtain ⟨n0, n1, hl⟩ := hl
  have hrow2 := tst_get n0 n1
  refine ACode.skip (ACode.seq (ACode.seq (ACode.region ?_)))
  refine ASeq.q rfl rfl (QOp.fieldM rfl rfl (tok _ rfl) rfl rfl (by decide) rfl) ?_
  refine ASeq.q rfl rfl (QOp.loadM 1 rfl rfl rfl (tok _ rfl) rfl) ?_
  refine ASeq.q rfl rfl (QOp.fieldM rfl rfl (tok _ rfl) rfl rfl (by decide) rfl) ?_
  refine ASeq.q rfl rfl (QOp.loadM 2 rfl rfl rfl (tok _ rfl) rfl) ?_
  refine ASeq.q rfl rfl (QOp.indexI rfl rfl rfl (tok _ rfl) rfl (tok _ rfl) (by omega) (by assumption)) ?_
  refine ASeq.q rfl rfl (QOp.fieldI rfl rfl (tok _ rfl) rfl rfl (by decide) rfl) ?_
  refine ASeq.q rfl rfl (QOp.loadI rfl rfl (tok _ rfl) rfl) ?_
  refine ASeq.q rfl rfl (QOp.cmp rfl rfl rfl rfl) ?_
  refine ASeq.nil ?_
  refine AExit.then_normal ?_
  refine ACode.cond _ rfl (fun hb => ?_) (fun hb => ?_)
  · have hk6 : (t.stm d.inn).kind = 6 := by simpa using hb
    have hval : d.behind = d.inn := by
      rcases hl with h | h
      · exact h.2
      · exact absurd hk6 h.1
    refine ACode.seq (ACode.region ?_)
    refine ASeq.q rfl rfl (QOp.fieldM rfl rfl (tok _ rfl) rfl rfl (by decide) rfl) ?_
    refine ASeq.q rfl rfl (QOp.loadM 2 rfl rfl rfl (tok _ rfl) rfl) ?_
    refine ASeq.q rfl rfl (QOp.assign rfl rfl) ?_
    refine ASeq.nil ?_
    refine ACode.ret (AExit.then_ret ?_)
    refine bodyQ_ret 1 (.tmp rfl .nil) rfl ?_
    rw [hval]; exact .mk
  · have hk6 : (t.stm d.inn).kind ≠ 6 := by simpa using hb
    obtain ⟨e, e1, e2, e3⟩ : ∃ e, e.i = d.inn ∧ e.behind = d.behind ∧ CBeh t P mP e := by
      rcases hl with h | h
      · exact absurd h.1 hk6
      · exact h.2
    unfold CBeh at e3
    rw [e1, e2] at e3
    refine ACode.skip (ACode.seq (ACode.region ?_))
    refine ASeq.q rfl rfl (QOp.loadM 1 rfl rfl rfl (tok _ rfl) rfl) ?_
    refine ASeq.q rfl rfl (QOp.move rfl rfl) ?_
    refine ASeq.q rfl rfl (QOp.fieldM rfl rfl (tok _ rfl) rfl rfl (by decide) rfl) ?_
    refine ASeq.q rfl rfl (QOp.loadM 2 rfl rfl rfl (tok _ rfl) rfl) ?_
    refine ASeq.op rfl rfl (AOp.callP 1 rfl (by kernel_rfl) rfl rfl rfl (e3) ?_ (by rintro _ _ ⟨⟩))
    rintro _ _ ⟨⟩
    refine ASeq.q rfl rfl (QOp.assign rfl rfl) ?_
    refine ASeq.nil ?_
    refine ACode.ret ?_
    refine bodyQ_ret 1 (.tmp rfl .nil) rfl ?_
    exact .mk
theorem firstOf_drop (L : List Int) (k : Nat) (B : Int) : (k + 1 < L.length → firstOf (L.drop (k + 1)) B = L.getD (k + 1) 0) ∧ (¬ k + 1 < L.length → firstOf (L.drop (k + 1)) B = B) := by
  constructor
  · intro h
    rw [List.drop_eq_getElem_cons h, List.getD_eq_getElem?_getD, List.getElem?_eq_getElem h]; rfl
  · intro h
    rw [List.drop_eq_nil_of_le (by omega)]; rfl
theorem behinds (t : Tree) (R : Nat → Nat) (ht : TreeOk t) (hR : FR t R) (P : List Pl) (mP : Nat) (hP : LaidOk t P) (k : Nat) (d : Ctx) (hB : Beh t k d) : CBeh t P mP d := by
  have sub : ∀ (d : Ctx) (M : List Int) (j : Nat), InF t k d → 0 ≤ d.i → Beh t k (d.sub t M j) → CBeh t P mP d → CBeh t P mP (d.sub t M j) := by
    intro d M j hin hi hb ih
    obtain ⟨lo, o1, o2, o3, o4⟩ := hR.own hin
    refine behind_step t R ht hR P mP hP k _ hb ?_ ?_
    · unfold Ctx.sub
      split
      · exact (firstOf_drop M j _).1
      · exact (firstOf_drop M j _).1
    · unfold Ctx.sub
      split
      · rename_i h6
        intro hn
        exact .inr (.inl ⟨hi, o4, h6, (firstOf_drop M j _).2 hn⟩)
      · rename_i h6
        intro hn
        exact .inr (.inr ⟨hi, o4, h6, d, rfl, ((firstOf_drop M j _).2 hn).symm, ih⟩)
  induction hB with
  | top hg hj hb =>
    refine behind_step t R ht hR P mP hP k _ (.top hg hj hb) (firstOf_drop _ _ _).1 (fun hn => .inl ⟨(by decide : (-1 : Int) < 0), (firstOf_drop _ _ _).2 hn⟩)
  | thn h hin hi hj hb ih => exact sub _ _ _ hin hi (.thn h hin hi hj hb) ih
  | els h hin hi hj hb ih => exact sub _ _ _ hin hi (.els h hin hi hj hb) ih
end Go.Proofs.Ytaadamobapnfbaa
/- ref07: Next, All. -/
set_option linter.unusedVariables false
set_option linter.unusedSimpArgs false
set_option maxRecDepth 100000
namespace Go.Proofs.Ytaadamobapnfbaa
open Go Go.Abs
theorem first_get {L : List Int} (h : 0 < L.length) (B : Int) : (ints L)[0]? = some [vi (firstOf L B)] := by
  cases L with
  | nil => simp at h
  | cons x l => rfl
theorem first_nil {L : List Int} (h : ¬ 0 < L.length) (B : Int) : firstOf L B = B := by
  cases L with
  | nil => rfl
  | cons x l => simp at h
theorem next_walk (t : Tree) (R : Nat → Nat) (ht : TreeOk t) (hR : FR t R) (hJ : JumpsOk t) (P : List Pl) (mP : Nat) (hP : LaidOk t P) (k : Nat) (d : Ctx) (hin : InF t k d) :
    ACalls Try.prog 30 [.agg t.cells, .sl 4 mP 0 t.stmts.length, vi d.i] [.mu mP (pcells P)] (RV (.il 1 none (ints (way t d))) [.mu mP (pcells P)]) := by
  have hB := hin.beh ht hR
  have hok := hB.ok
  obtain ⟨lo, o1, o2, o3, o4⟩ := hR.own hin
  have i0 := o1.i0
  have hrow := tst_get i0 o4
  have hPl := hP.len
  have hbig := ht.big
  have hpl : (P.map Pl.cells)[d.i.toNat]? = some [.il 1 none (ints d.L), vi (d.k : Nat), vi d.inn, vi d.loop] := pl_get (hP.all k d hin)
  have hpk : (pcells P)[0 + d.i.toNat * 4 + 3]? = some (vi d.loop) := by rw [Nat.zero_add]; exact flatten_get (pl_rows P) hpl rfl
  have hbw := behinds t R ht hR P mP hP k d hB
  unfold CBeh at hbw
  generalize hs : t.stm d.i = s at hrow
  have hit := ints_len s.thn
  have hie := ints_len s.els
  refine ACalls.of_code (c := _) Try.func30 rfl Try.ntmps30 (Nat.le_of_ble_eq_true rfl) ?_
  refine ACode.seq (ACode.region ?_)
  refine ASeq.op rfl rfl (AOp.boxP rfl rfl rfl (fun _ => rfl) (fun _ => ?_))
  refine ASeq.q rfl rfl (QOp.assign rfl rfl) ?_
  refine ASeq.nil ?_
  rename_i m3
  refine ACode.seq (ACode.region ?_)
  refine ASeq.q rfl rfl (QOp.fieldM rfl rfl (tok _ rfl) rfl rfl (by decide) rfl) ?_
  refine ASeq.q rfl rfl (QOp.loadM 1 rfl rfl rfl (tok _ rfl) rfl) ?_
  refine ASeq.q rfl rfl (QOp.move rfl rfl) ?_
  refine ASeq.q rfl rfl (QOp.indexI rfl rfl rfl (tok _ rfl) rfl (tok _ rfl) (by omega) (by assumption)) ?_
  refine ASeq.q rfl rfl (QOp.loadI rfl rfl (tok _ rfl) rfl) ?_
  refine ASeq.op rfl rfl (AOp.allocP rfl (tok _ rfl) rfl rfl (fun _ => rfl) (fun _ => ?_))
  refine ASeq.op0 rfl rfl (AOp.storeP 2 rfl rfl rfl rfl (tok _ rfl) rfl rfl rfl rfl ?_)
  refine ASeq.nil ?_
  rename_i m7
  refine ACode.seq (ACode.region ?_)
  refine ASeq.q rfl rfl (QOp.loadM 1 rfl rfl rfl (tok _ rfl) rfl) ?_
  refine ASeq.q rfl rfl (QOp.move rfl rfl) ?_
  refine ASeq.q rfl rfl (QOp.move rfl rfl) ?_
  refine ASeq.op rfl rfl (AOp.callP 1 rfl (by kernel_rfl) rfl rfl rfl (hbw) ?_ (by rintro _ _ ⟨⟩))
  rintro _ _ ⟨⟩
  refine ASeq.q rfl rfl (QOp.assign rfl rfl) ?_
  refine ASeq.nil ?_
  refine ACode.seq (ACode.seq (ACode.region ?_))
  refine ASeq.q rfl rfl (QOp.fieldM rfl rfl (tok _ rfl) rfl rfl (by decide) rfl) ?_
  refine ASeq.q rfl rfl (QOp.loadM 2 rfl rfl rfl (tok _ rfl) rfl) ?_
  refine ASeq.nil ?_
  refine ACode.block (ACode.seq (ACode.region ?_))
  refine ASeq.q rfl rfl (QOp.cmp rfl rfl rfl rfl) ?_
  refine ASeq.q rfl rfl (QOp.assign rfl rfl) ?_
  refine ASeq.nil ?_
  refine AExit.then_normal ?_
  refine ACode.cond _ rfl (fun hb => ?_) (fun hb => ?_)
  · have hk5 : s.kind = 5 := by simpa using hb
    have hw : way t d = [firstOf s.thn d.behind, firstOf s.els d.behind] := by unfold way; rw [hs, if_pos hk5]
    rw [hw]
    refine ACode.seq (ACode.region ?_)
    refine ASeq.q rfl rfl (QOp.move rfl rfl) ?_
    refine ASeq.q rfl rfl (QOp.move rfl rfl) ?_
    refine ASeq.q rfl rfl (QOp.assign rfl rfl) ?_
    refine ASeq.q rfl rfl (QOp.assign rfl rfl) ?_
    refine ASeq.nil ?_
    refine AExit.then_normal ?_
    refine ACode.meet [(7, .mp m7 0), (10, vi d.behind), (9, vi (firstOf s.thn d.behind))] [.mu mP (pcells P), .mu m3 t.cells, .mu m7 s.cells] (fun rest => ?_) ?_
    · refine ACode.seq (ACode.region ?_)
      refine ASeq.q rfl rfl (QOp.fieldM rfl rfl (tok _ rfl) rfl rfl (by decide) rfl) ?_
      refine ASeq.q rfl rfl (QOp.loadM 2 rfl rfl rfl (tok _ rfl) rfl) ?_
      refine ASeq.q rfl rfl (QOp.lenI rfl rfl (tok _ rfl) rfl) ?_
      refine ASeq.q rfl rfl (QOp.cmp rfl rfl rfl rfl) ?_
      refine ASeq.nil ?_
      refine AExit.then_normal ?_
      refine ACode.cond _ rfl (fun hb => ?_) (fun hb => ?_)
      · have hlt : 0 < s.thn.length := by have := of_decide_eq_true hb; rw [hit] at this; omega
        have hget := first_get hlt d.behind
        refine ACode.region ?_
        refine ASeq.q rfl rfl (QOp.fieldM rfl rfl (tok _ rfl) rfl rfl (by decide) rfl) ?_
        refine ASeq.q rfl rfl (QOp.loadM 2 rfl rfl rfl (tok _ rfl) rfl) ?_
        refine ASeq.q rfl rfl (QOp.indexI rfl rfl rfl (tok _ rfl) rfl (tok _ rfl) (by decide) (by assumption)) ?_
        refine ASeq.q rfl rfl (QOp.loadI rfl rfl (tok _ rfl) rfl) ?_
        refine ASeq.q rfl rfl (QOp.assign rfl rfl) ?_
        refine ASeq.nil ?_
        refine AExit.then_normal ?_
        exact rest.atP 3 (.cons rfl (.cons rfl (.cons rfl .nil))) rfl
      · have hlt : ¬ 0 < s.thn.length := by have := of_decide_eq_false hb; rw [hit] at this; omega
        refine ACode.skip ?_
        refine AExit.then_normal ?_
        exact rest.atP 3 (.cons rfl (.cons rfl (.consE rfl (by rw [first_nil hlt]) .nil))) rfl
    refine ACode.meet [(9, vi (firstOf s.thn d.behind)), (10, vi (firstOf s.els d.behind))] [.mu mP (pcells P), .mu m3 t.cells, .mu m7 s.cells] (fun rest => ?_) ?_
    · refine ACode.seq (ACode.region ?_)
      refine ASeq.q rfl rfl (QOp.fieldM rfl rfl (tok _ rfl) rfl rfl (by decide) rfl) ?_
      refine ASeq.q rfl rfl (QOp.loadM 2 rfl rfl rfl (tok _ rfl) rfl) ?_
      refine ASeq.q rfl rfl (QOp.lenI rfl rfl (tok _ rfl) rfl) ?_
      refine ASeq.q rfl rfl (QOp.cmp rfl rfl rfl rfl) ?_
      refine ASeq.nil ?_
      refine AExit.then_normal ?_
      refine ACode.cond _ rfl (fun hb => ?_) (fun hb => ?_)
      · have hlt : 0 < s.els.length := by have := of_decide_eq_true hb; rw [hie] at this; omega
        have hget := first_get hlt d.behind
        refine ACode.region ?_
        refine ASeq.q rfl rfl (QOp.fieldM rfl rfl (tok _ rfl) rfl rfl (by decide) rfl) ?_
        refine ASeq.q rfl rfl (QOp.loadM 2 rfl rfl rfl (tok _ rfl) rfl) ?_
        refine ASeq.q rfl rfl (QOp.indexI rfl rfl rfl (tok _ rfl) rfl (tok _ rfl) (by decide) (by assumption)) ?_
        refine ASeq.q rfl rfl (QOp.loadI rfl rfl (tok _ rfl) rfl) ?_
        refine ASeq.q rfl rfl (QOp.assign rfl rfl) ?_
        refine ASeq.nil ?_
        refine AExit.then_normal ?_
        exact rest.atP 3 (.cons rfl (.cons rfl .nil)) rfl
      · have hlt : ¬ 0 < s.els.length := by have := of_decide_eq_false hb; rw [hie] at this; omega
        refine ACode.skip ?_
        refine AExit.then_normal ?_
        exact rest.atP 3 (.cons rfl (.consE rfl (by rw [first_nil hlt]) .nil)) rfl
    refine ACode.seq (ACode.region ?_)
    refine ASeq.q rfl rfl (QOp.move rfl rfl) ?_
    refine ASeq.q rfl rfl (QOp.move rfl rfl) ?_
    refine ASeq.op rfl rfl (AOp.buildSliceR rfl (tok _ rfl) rfl (tok _ rfl) (by decide) rfl (by decide) rfl rfl rfl rfl ?_)
    refine ASeq.q rfl rfl (QOp.assign rfl rfl) ?_
    refine ASeq.nil ?_
    refine ACode.ret (AExit.in_ret (AExit.then_ret ?_))
    refine bodyQ_ret 1 (.tmp rfl .nil) rfl ?_
    exact .mk
  have hne5 : s.kind ≠ 5 := by simpa using hb
  refine ACode.seq (ACode.region ?_)
  refine ASeq.q rfl rfl (QOp.cmp rfl rfl rfl rfl) ?_
  refine ASeq.q rfl rfl (QOp.assign rfl rfl) ?_
  refine ASeq.nil ?_
  refine AExit.then_normal ?_
  refine ACode.cond _ rfl (fun hb => ?_) (fun hb => ?_)
  · have hk6 : s.kind = 6 := by simpa using hb
    have hw : way t d = [firstOf s.thn d.i, d.behind] := by unfold way; rw [hs, if_neg hne5, if_pos hk6]
    rw [hw]
    refine ACode.seq (ACode.seq (ACode.region ?_))
    refine ASeq.q rfl rfl (QOp.fieldM rfl rfl (tok _ rfl) rfl rfl (by decide) rfl) ?_
    refine ASeq.q rfl rfl (QOp.loadM 2 rfl rfl rfl (tok _ rfl) rfl) ?_
    refine ASeq.q rfl rfl (QOp.lenI rfl rfl (tok _ rfl) rfl) ?_
    refine ASeq.q rfl rfl (QOp.cmp rfl rfl rfl rfl) ?_
    refine ASeq.nil ?_
    refine AExit.then_normal ?_
    refine ACode.cond _ rfl (fun hb => ?_) (fun hb => ?_)
    · have hlt : 0 < s.thn.length := by have := of_decide_eq_true hb; rw [hit] at this; omega
      have hget := first_get hlt d.i
      refine ACode.seq (ACode.region ?_)
      refine ASeq.q rfl rfl (QOp.fieldM rfl rfl (tok _ rfl) rfl rfl (by decide) rfl) ?_
      refine ASeq.q rfl rfl (QOp.loadM 2 rfl rfl rfl (tok _ rfl) rfl) ?_
      refine ASeq.q rfl rfl (QOp.indexI rfl rfl rfl (tok _ rfl) rfl (tok _ rfl) (by decide) (by assumption)) ?_
      refine ASeq.q rfl rfl (QOp.loadI rfl rfl (tok _ rfl) rfl) ?_
      refine ASeq.q rfl rfl (QOp.move rfl rfl) ?_
      refine ASeq.op rfl rfl (AOp.buildSliceR rfl (tok _ rfl) rfl (tok _ rfl) (by decide) rfl (by decide) rfl rfl rfl rfl ?_)
      refine ASeq.q rfl rfl (QOp.assign rfl rfl) ?_
      refine ASeq.nil ?_
      refine ACode.ret (AExit.then_ret (AExit.in_ret (AExit.then_ret ?_)))
      refine bodyQ_ret 1 (.tmp rfl .nil) rfl ?_
      exact .mk
    · have hlt : ¬ 0 < s.thn.length := by have := of_decide_eq_false hb; rw [hit] at this; omega
      rw [first_nil hlt]
      refine ACode.skip (ACode.seq (ACode.region ?_))
      refine ASeq.q rfl rfl (QOp.move rfl rfl) ?_
      refine ASeq.q rfl rfl (QOp.move rfl rfl) ?_
      refine ASeq.op rfl rfl (AOp.buildSliceR rfl (tok _ rfl) rfl (tok _ rfl) (by decide) rfl (by decide) rfl rfl rfl rfl ?_)
      refine ASeq.q rfl rfl (QOp.assign rfl rfl) ?_
      refine ASeq.nil ?_
      refine ACode.ret (AExit.in_ret (AExit.then_ret ?_))
      refine bodyQ_ret 1 (.tmp rfl .nil) rfl ?_
      exact .mk
  have hne6 : s.kind ≠ 6 := by simpa using hb
  have hjc := hJ k d hin
  rw [hs] at hjc
  refine ACode.seq (ACode.region ?_)
  refine ASeq.q rfl rfl (QOp.cmp rfl rfl rfl rfl) ?_
  refine ASeq.q rfl rfl (QOp.assign rfl rfl) ?_
  refine ASeq.nil ?_
  refine AExit.then_normal ?_
  refine ACode.cond _ rfl (fun hb => ?_) (fun hb => ?_)
  · have hk7 : s.kind = 7 := by simpa using hb
    have hw : way t d = [d.lb] := by unfold way; rw [hs, if_neg hne5, if_neg hne6, if_pos hk7]
    rw [hw]
    have hl0 := hjc (.inl hk7)
    obtain ⟨k2, e, h1, h2, h3⟩ : ∃ k e, InF t k e ∧ e.i = d.loop ∧ e.behind = d.lb := by
      rcases hok.loop with h | h
      · omega
      · exact h
    have hbe := behinds t R ht hR P mP hP k2 e (h1.beh ht hR)
    unfold CBeh at hbe
    rw [h2, h3] at hbe
    refine ACode.seq ?_
    refine ACode.drawn [[], [], [], [], [2, 3], [2, 3, 4], [2, 3, 4, 5], [0, 1, 2, 3, 4, 5, 6], [0, 1, 2, 3, 4, 5, 6, 7], [0, 1, 2, 3, 4, 5, 6, 7, 8]] (by kernel_rfl) mixed ?_
    refine DAny.ld 0 rfl rfl (by kernel_rfl) rfl (.does _ _ rfl (.none rfl) (QOp.loadM 1 rfl rfl rfl (tok _ rfl) rfl)) ?_
    refine DAny.qu 1 rfl rfl (by kernel_rfl) rfl (fun _ => .does _ _ rfl (.none rfl) (QOp.move rfl rfl)) ?_
    refine DAny.qu 2 rfl rfl (by kernel_rfl) rfl (fun _ => .does _ _ rfl (.none rfl) (QOp.move rfl rfl)) ?_
    refine DAny.qu 3 rfl rfl (by kernel_rfl) rfl (fun _ => .does _ _ rfl (.none rfl) (QOp.move rfl rfl)) ?_
    refine DAny.qu 4 rfl rfl (by kernel_rfl) rfl (fun _ => .does _ _ rfl (.none rfl) (QOp.indexM rfl rfl rfl (tok _ rfl) rfl (tok _ rfl) (by omega) (by omega) rfl)) ?_
    refine DAny.qu 5 rfl rfl (by kernel_rfl) rfl (fun _ => .does _ _ rfl (.none rfl) (QOp.fieldM rfl rfl (tok _ rfl) rfl rfl (by decide) rfl)) ?_
    refine DAny.ld 6 rfl rfl (by kernel_rfl) rfl (.does _ _ rfl (.none rfl) (QOp.loadAt 0 rfl rfl rfl (tok _ rfl) rfl (by assumption))) ?_
    refine DAny.ef 7 rfl (by kernel_rfl) (.none rfl) rfl rfl (AOp.callP 1 rfl (by kernel_rfl) rfl rfl rfl (hbe) ?_ (by rintro _ _ ⟨⟩))
    rintro _ _ ⟨⟩
    refine ⟨(by ((exact AllQ.nil))), ?_⟩
    refine DAny.ef 8 rfl (by kernel_rfl) (.none rfl) rfl rfl (AOp.buildSliceR rfl (tok _ rfl) rfl (tok _ rfl) (by decide) rfl (by decide) rfl rfl rfl rfl ⟨(by ((exact AllQ.nil))), ?_⟩)
    refine DAny.ef 9 rfl (by kernel_rfl) (.none rfl) rfl rfl (.q (QOp.assign rfl rfl) ⟨(by ((exact AllQ.nil))), ?_⟩)
    refine DAny.done (by kernel_rfl) ?_
    refine ACode.ret (AExit.in_ret (AExit.then_ret ?_))
    refine bodyQ_ret 1 (.tmp rfl .nil) rfl ?_
    exact .mk
  have hne7 : s.kind ≠ 7 := by simpa using hb
  refine ACode.seq (ACode.region ?_)
  refine ASeq.q rfl rfl (QOp.cmp rfl rfl rfl rfl) ?_
  refine ASeq.q rfl rfl (QOp.assign rfl rfl) ?_
  refine ASeq.nil ?_
  refine AExit.then_normal ?_
  refine ACode.cond _ rfl (fun hb => ?_) (fun hb => ?_)
  · have hk8 : s.kind = 8 := by simpa using hb
    have hw : way t d = [d.loop] := by unfold way; rw [hs, if_neg hne5, if_neg hne6, if_neg hne7, if_pos hk8]
    rw [hw]
    refine ACode.seq (ACode.region ?_)
    refine ASeq.q rfl rfl (QOp.move rfl rfl) ?_
    refine ASeq.q rfl rfl (QOp.move rfl rfl) ?_
    refine ASeq.q rfl rfl (QOp.indexM rfl rfl rfl (tok _ rfl) rfl (tok _ rfl) (by omega) (by omega) rfl) ?_
    refine ASeq.q rfl rfl (QOp.fieldM rfl rfl (tok _ rfl) rfl rfl (by decide) rfl) ?_
    refine ASeq.q rfl rfl (QOp.loadAt 0 rfl rfl rfl (tok _ rfl) rfl (by assumption)) ?_
    refine ASeq.op rfl rfl (AOp.buildSliceR rfl (tok _ rfl) rfl (tok _ rfl) (by decide) rfl (by decide) rfl rfl rfl rfl ?_)
    refine ASeq.q rfl rfl (QOp.assign rfl rfl) ?_
    refine ASeq.nil ?_
    refine ACode.ret (AExit.in_ret (AExit.then_ret ?_))
    refine bodyQ_ret 1 (.tmp rfl .nil) rfl ?_
    exact .mk
  have hne8 : s.kind ≠ 8 := by simpa using hb
  refine ACode.seq (ACode.region ?_)
  refine ASeq.q rfl rfl (QOp.cmp rfl rfl rfl rfl) ?_
  refine ASeq.q rfl rfl (QOp.assign rfl rfl) ?_
  refine ASeq.nil ?_
  refine AExit.then_normal ?_
  refine ACode.cond _ rfl (fun hb => ?_) (fun hb => ?_)
  · have hk9 : s.kind = 9 := by simpa using hb
    have hw : way t d = [-1] := by unfold way; rw [hs, if_neg hne5, if_neg hne6, if_neg hne7, if_neg hne8, if_pos hk9]
    rw [hw]
    refine ACode.seq (ACode.region ?_)
    refine ASeq.op rfl rfl (AOp.buildSliceR rfl (tok _ rfl) rfl (tok _ rfl) (by decide) rfl (by decide) rfl rfl rfl rfl ?_)
    refine ASeq.q rfl rfl (QOp.assign rfl rfl) ?_
    refine ASeq.nil ?_
    refine ACode.ret (AExit.in_ret (AExit.then_ret ?_))
    refine bodyQ_ret 1 (.tmp rfl .nil) rfl ?_
    exact .mk
  · have hne9 : s.kind ≠ 9 := by simpa using hb
    have hw : way t d = [d.behind] := by unfold way; rw [hs, if_neg hne5, if_neg hne6, if_neg hne7, if_neg hne8, if_neg hne9]
    rw [hw]
    refine ACode.skip (ACode.seq (ACode.region ?_))
    refine ASeq.q rfl rfl (QOp.move rfl rfl) ?_
    refine ASeq.op rfl rfl (AOp.buildSliceR rfl (tok _ rfl) rfl (tok _ rfl) (by decide) rfl (by decide) rfl rfl rfl rfl ?_)
    refine ASeq.q rfl rfl (QOp.assign rfl rfl) ?_
    refine ASeq.nil ?_
    refine ACode.ret ?_
    refine bodyQ_ret 1 (.tmp rfl .nil) rfl ?_
    exact .mk
def nxrows (ws : List (List Int)) : List (List AV) := ws.map fun w => [nxc w]
inductive RA (t : Tree) : AOut → List Abs.Item → Prop
  | mk (ws : List (List Int)) (hl : ws.length = t.stmts.length) (h : ∀ j, j < t.stmts.length → ∃ k d, InF t k d ∧ d.i = j ∧ ws[j]? = some (way t d)) : RA t (.ret (.il 1 none (nxrows ws))) []
theorem nxrows_len (ws : List (List Int)) : (nxrows ws).length = ws.length := by simp [nxrows]
theorem nxrows_snoc (ws : List (List Int)) (w : List Int) : nxrows ws ++ [[nxc w]] = nxrows (ws ++ [w]) := by simp [nxrows]
theorem nxrows_rows (ws : List (List Int)) (w : List Int) : ∀ r ∈ nxrows ws ++ [[nxc w]], r.length = 1 := rows_ok 1 _ _ (fun y hy => by obtain ⟨z, _, rfl⟩ := List.mem_map.1 hy; rfl) rfl
theorem all_walk (t : Tree) (R : Nat → Nat) (ht : TreeOk t) (hR : FR t R) (hJ : JumpsOk t) : ACalls Try.prog 17 [.agg t.cells] [] (RA t) := by
  refine ACalls.retellR ?_
  have hSl : (t.stmts.map St.cells).length = t.stmts.length := List.length_map ..
  have hbig := ht.big
  have hpl := places_walk t R ht hR
  refine ACalls.of_code (c := _) Try.func17 rfl Try.ntmps17 (Nat.le_of_ble_eq_true rfl) ?_
  refine ACode.newTok (fun τ => ?_)
  refine ACode.seq (ACode.region ?_)
  refine ASeq.op rfl rfl (AOp.boxP rfl rfl rfl (fun _ => rfl) (fun _ => ?_))
  refine ASeq.q rfl rfl (QOp.assign rfl rfl) ?_
  refine ASeq.nil ?_
  rename_i m1
  refine ACode.seq (ACode.region ?_)
  refine ASeq.q rfl rfl (QOp.loadM 1 rfl rfl rfl (tok _ rfl) rfl) ?_
  refine ASeq.op rfl rfl (AOp.callP 0 rfl (by kernel_rfl) rfl rfl rfl hpl ?_ (by rintro _ _ ⟨⟩))
  rintro _ _ ⟨mP, P, hP⟩
  refine ASeq.q rfl rfl (QOp.assign rfl rfl) ?_
  refine ASeq.nil ?_
  refine ACode.seq (ACode.region ?_)
  refine ASeq.q rfl rfl (QOp.assign rfl rfl) ?_
  refine ASeq.nil ?_
  refine ACode.seq (ACode.seq (ACode.region ?_))
  refine ASeq.slot 4 rfl (.nilT 1 (some τ)) ?_
  refine ASeq.q rfl rfl (QOp.fieldM rfl rfl (tok _ rfl) rfl rfl (by decide) rfl) ?_
  refine ASeq.q rfl rfl (QOp.loadM 2 rfl rfl rfl (tok _ rfl) rfl) ?_
  refine ASeq.q rfl rfl (QOp.lenI rfl rfl (tok _ rfl) rfl) ?_
  refine ASeq.q rfl rfl (QOp.move rfl rfl) ?_
  refine ASeq.nil ?_
  refine ACode.block ?_
  refine ACode.loopP (fun (x : Nat × List (List Int) × Nat) => [(1, .mp m1 0), (3, .sl 4 mP 0 t.stmts.length), (4, .il 1 (some x.2.2) (nxrows x.2.1)), (10, vi ((t.stmts.map St.cells).length : Int)), (11, vi x.1)])
    (fun x => [.mu mP (pcells P), .tk x.2.2, .mu m1 t.cells]) (fun x => t.stmts.length - x.1)
    (fun x => x.1 ≤ t.stmts.length ∧ x.2.1.length = x.1 ∧ ∀ j, j < x.1 → ∃ k d, InF t k d ∧ d.i = j ∧ x.2.1[j]? = some (way t d))
    (0, [], τ) ⟨Nat.zero_le _, rfl, fun j hj => by omega⟩ (.cons rfl (.cons rfl (.cons rfl (.cons rfl (.cons rfl .nil))))) 3 rfl ?_
  rintro ⟨i, ws, τ⟩ ⟨hi, hl, hw⟩
  dsimp only at hi hl hw
  have hnl := nxrows_len ws
  refine ACode.seq (ACode.region ?_)
  refine ASeq.q rfl rfl (QOp.cmp rfl rfl rfl rfl) ?_
  refine ASeq.nil ?_
  refine ACode.seq ?_
  refine ACode.cond _ rfl (fun hb => ?_) (fun hb => ?_)
  · have hlt : i < t.stmts.length := by have := of_decide_eq_true hb; rw [hSl] at this; omega
    obtain ⟨k, d, hk, hin, hdi⟩ := hR.ex hlt
    have hn := next_walk t R ht hR hJ P mP hP k d hin
    rw [hdi] at hn
    refine ACode.skip (ACode.seq (ACode.block (ACode.seq (ACode.region ?_))))
    refine ASeq.q rfl rfl (QOp.move rfl rfl) ?_
    refine ASeq.q rfl rfl (QOp.assign rfl rfl) ?_
    refine ASeq.nil ?_
    refine ACode.region ?_
    refine ASeq.q rfl rfl (QOp.move rfl rfl) ?_
    refine ASeq.q rfl rfl (QOp.loadM 2 rfl rfl rfl (tok _ rfl) rfl) ?_
    refine ASeq.q rfl rfl (QOp.move rfl rfl) ?_
    refine ASeq.q rfl rfl (QOp.move rfl rfl) ?_
    refine ASeq.op rfl rfl (AOp.callP 1 rfl (by kernel_rfl) rfl rfl rfl hn ?_ (by rintro _ _ ⟨⟩))
    rintro _ _ ⟨⟩
    refine ASeq.op rfl rfl (AOp.buildSliceR rfl (tok _ rfl) rfl (tok _ rfl) (by decide) rfl (by decide) rfl rfl rfl rfl ?_)
    refine ASeq.op rfl rfl (AOp.appendP 1 (e := 30) (tde := TT 30) rfl rfl rfl rfl (tok _ rfl) rfl (tok _ rfl) (tok _ rfl) rfl (by decide) rfl rfl (fun _ => rfl) (nxrows_rows ws (way t d)) (by simp only [nxrows_len, List.length_cons, List.length_nil]; omega) rfl (fun _ => ?_))
    refine ASeq.q rfl rfl (QOp.assign rfl rfl) ?_
    refine ASeq.nil ?_
    refine ACode.region ?_
    refine ASeq.q rfl rfl (QOp.ar64 rfl rfl rfl rfl ⟨by omega, by omega⟩) ?_
    refine ASeq.q rfl rfl (QOp.move rfl rfl) ?_
    refine ASeq.nil ?_
    refine AExit.then_normal ?_
    refine ⟨(i + 1, ws ++ [way t d], _), 3, ⟨hlt, by simp only [List.length_append, hl]; rfl, fun j hj => ?_⟩, by dsimp only; omega, .cons rfl (.cons rfl (.consE rfl (by show AV.il 1 _ (nxrows ws ++ [[nxc (way t d)]]) = _; rw [nxrows_snoc]) (.cons rfl (.cons rfl .nil)))), rfl⟩
    by_cases hji : j = i
    · subst hji
      exact ⟨k, d, hin, hdi, by dsimp only; rw [List.getElem?_append_right (by omega), hl]; simp⟩
    · obtain ⟨k', d', q1, q2, q3⟩ := hw j (by dsimp only at hj; omega)
      exact ⟨k', d', q1, q2, get_append q3⟩
  · have hge : i = t.stmts.length := by have := of_decide_eq_false hb; rw [hSl] at this; omega
    refine ACode.exit (ACode.seq (ACode.region ?_))
    refine ASeq.q rfl rfl (QOp.move rfl rfl) ?_
    refine ASeq.q rfl rfl (QOp.assign rfl rfl) ?_
    refine ASeq.nil ?_
    refine ACode.ret ?_
    refine bodyQ_ret 0 (.tmp rfl .nil) rfl ?_
    exact ⟨_, .tok 1 _ _, .mk ws (hl.trans hge) (fun j hj => hw j (by omega))⟩
theorem FR.same {t : Tree} {a b : List (List Int)} (ha : FlowOk t a) (hb : b.length = t.stmts.length) (h : ∀ j, j < t.stmts.length → ∃ k d, InF t k d ∧ d.i = j ∧ b[j]? = some (way t d)) : a = b := by
  apply List.ext_getElem?
  intro i
  by_cases hi : i < t.stmts.length
  · obtain ⟨k, d, q1, q2, q3⟩ := h i hi
    have := ha.ways k d q1
    rw [q2, Int.toNat_natCast] at this
    rw [this, q3]
  · rw [List.getElem?_eq_none (by have := ha.len; omega), List.getElem?_eq_none (by omega)]
end Go.Proofs.Ytaadamobapnfbaa
/- What a right program's statements are: jumps stand in whiles; functions told. -/
set_option linter.unusedVariables false
set_option linter.unusedSimpArgs false
namespace Go.Proofs.Ytaadamobapnfbaa
open Go Go.Abs
/-- where something is wrong, all that follows does nothing -/
def Lv (c d : CS) : Prop := d.code = 0 → c.code = 0
theorem Lv.refl (c : CS) : Lv c c := fun h => h
theorem Lv.trans {a b c : CS} (h : Lv a b) (h' : Lv b c) : Lv a c := fun k => h (h' k)
theorem Lv.need (c : CS) (ok : Bool) (a k : Int) (hk : k ≠ 0) : Lv c (c.need ok a k) := fun h => ((need_code c ok a k hk).1 h).1
theorem Lv.valOf {c : CS} {r : CS × Int} (h : Lv c r.1) (i : Int) : Lv c (valOf r i).1 := h.trans (.need _ _ _ _ (by decide))
theorem Lv.slotOf (c : CS) (s : ByteArray) (b : Bool) (a : Int) : Lv c (c.slotOf s b a).1 := .need _ _ _ _ (by decide)
theorem Lv.args {g : CS → Int → CS × Int} (hg : ∀ c i, Lv c (g c i).1) : ∀ (l : List Int) (c : CS) (b : Bool), Lv c (argsOf g l c b).1
  | [], c, b => .refl c
  | a :: l, c, b => (Lv.valOf (hg c a) a).trans (Lv.args hg l _ _)
theorem Lv.set {c d : CS} (h : Lv c d) (i n : Int) : Lv c (d.setSlot i n) := h
theorem Lv.kindCase {g : CS → Int → CS × Int} (ih : ∀ c i, Lv c (g c i).1) (c : CS) (i : Int) (e : Ex) : Lv c (kindCase g c i e).1 := by
  unfold Ytaadamobapnfbaa.kindCase
  split
  · exact .refl c
  split
  · split
    · exact .slotOf _ _ _ _
    · exact .slotOf _ _ _ _
  split
  · exact (((ih _ _).valOf _).trans (.slotOf _ _ _ _)).trans (.need _ _ _ _ (by decide))
  split
  · split
    · exact ((Lv.args ih _ _ _).trans (.need _ _ _ _ (by decide))).trans (.need _ _ _ _ (by decide))
    · exact (Lv.args ih _ _ _).trans (.need _ _ _ _ (by decide))
  split
  · exact ((ih _ _).valOf _).trans (.need _ _ _ _ (by decide))
  split
  · exact (((ih _ _).valOf _).trans ((ih _ _).valOf _)).trans (.need _ _ _ _ (by decide))
  · exact .refl c
theorem Lv.typed {c : CS} {r : CS × Int} (h : Lv c r.1) (i : Int) : Lv c (typed r i).1 := by
  unfold Ytaadamobapnfbaa.typed
  split
  · exact h
  · exact h
theorem Lv.expr6 : ∀ (n : Nat) (c : CS) (i : Int), Lv c (expr6 n c i).1
  | 0, c, i => .refl c
  | n + 1, c, i => by
    unfold Ytaadamobapnfbaa.expr6
    split
    · exact .refl c
    · exact (Lv.kindCase (Lv.expr6 n) c i _).typed i
theorem Lv.vals (c : CS) (i : Int) : Lv c (vals c i).1 := (Lv.expr6 _ _ _).valOf _
theorem Lv.decl (c : CS) (s : ByteArray) (k a : Int) : Lv c (c.decl s k a).1 := by
  unfold CS.decl
  split
  · rename_i h; exact fun h' => absurd h' h
  · exact .refl c
theorem Lv.stmts {g : CS → Int → CS} (hg : ∀ c i, Lv c (g c i)) (b : Int) : ∀ (l : List Int) (c : CS), Lv c (stmtsOf g b l c)
  | [], c => .refl c
  | i :: l, c => (hg c i).trans (fun h => Lv.stmts hg b l { g c i with block := b } h)
theorem Lv.blockOf {g : CS → Int → CS} (hg : ∀ c i, Lv c (g c i)) (c : CS) (l : List Int) : Lv c (blockOf g c l) :=
  fun h => Lv.stmts hg (c.block + 1) l { c with block := c.block + 1 } h
theorem Lv.case {g : CS → Int → CS} (hg : ∀ c i, Lv c (g c i)) (c : CS) (s : St) : Lv c (stmtCase g c s).1 := by
  have hv := Lv.vals c s.a
  unfold stmtCase
  split
  · split
    · exact hv
    · exact hv.trans (.decl _ _ _ _)
  split
  · split
    · exact .need _ _ _ _ (by decide)
    · exact (Lv.need _ _ _ _ (by decide)).trans (.decl _ _ _ _)
  split
  · split
    · exact hv
    · split
      · exact hv.trans ((Lv.slotOf _ _ _ _).trans (.need _ _ _ _ (by decide)))
      · exact hv.trans (Lv.slotOf _ _ _ _)
  split
  · split
    · exact hv.trans (Lv.vals _ _)
    · exact (hv.trans (Lv.vals _ _)).trans ((Lv.slotOf _ _ _ _).trans (.need _ _ _ _ (by decide)))
  split
  · exact ((hv.trans (.need _ _ _ _ (by decide))).trans (.blockOf hg _ _)).trans (.blockOf hg _ _)
  split
  · intro h
    have h1 := Lv.blockOf hg _ _ h
    exact hv ((need_code _ _ _ _ (by decide)).1 h1).1
  split
  · exact .need _ _ _ _ (by decide)
  split
  · split
    · exact hv.trans (.need _ _ _ _ (by decide))
    · exact .need _ _ _ _ (by decide)
  split
  · exact hv
  split
  · exact .expr6 _ _ _
  · exact .refl c
theorem Lv.putted {c : CS} {r : CS × Int} (h : Lv c r.1) (i : Int) : Lv c (putted r i) := by
  unfold Ytaadamobapnfbaa.putted
  split
  · exact h
  · exact h
theorem Lv.stm6 : ∀ (n : Nat) (c : CS) (i : Int), Lv c (stm6 n c i)
  | 0, c, i => .refl c
  | n + 1, c, i => by
    unfold Ytaadamobapnfbaa.stm6
    split
    · exact .refl c
    · exact fun h => (Lv.case (Lv.stm6 n) (c.setFunc i c.f) (c.stm i)).putted i h
/-- expressions, names leave statements' functions alone -/
theorem decl_func (c : CS) (s : ByteArray) (k a : Int) : (c.decl s k a).1.func = c.func := by
  unfold CS.decl
  split
  · rw [(Kept.need _ _ _ _).func, (Kept.need _ _ _ _).func]
  · rfl
theorem case_func {g : CS → Int → CS} (c : CS) (s : St) (h5 : s.kind ≠ 5) (h6 : s.kind ≠ 6) : (stmtCase g c s).1.func = c.func := by
  have hv := (Kept.vals c s.a).func
  unfold stmtCase
  split
  · split
    · exact hv
    · rw [decl_func]; exact hv
  split
  · split
    · exact (Kept.need _ _ _ _).func
    · rw [decl_func]; exact (Kept.need _ _ _ _).func
  split
  · split
    · exact hv
    · split
      · rw [(Kept.need _ _ _ _).func, (Kept.slotOf _ _ _ _).func]; exact hv
      · rw [(Kept.slotOf _ _ _ _).func]; exact hv
  split
  · split
    · rw [(Kept.vals _ _).func]; exact hv
    · rw [(Kept.need _ _ _ _).func, (Kept.slotOf _ _ _ _).func, (Kept.vals _ _).func]; exact hv
  split
  · exact (Kept.need _ _ _ _).func
  split
  · split
    · rw [(Kept.need _ _ _ _).func]; exact hv
    · exact (Kept.need _ _ _ _).func
  split
  · exact hv
  split
  · exact (Kept.expr6 _ _ _).func
  · rfl
theorem putted_func (r : CS × Int) (i : Int) : (putted r i).func = r.1.func := by unfold putted; split <;> rfl
/-- what a right statement is -/
structure Vis (t : Tree) (c d : CS) (occ : Ctx → Prop) (lo hi : Int) : Prop where
  jump : ∀ e, occ e → ((t.stm e.i).kind = 7 ∨ (t.stm e.i).kind = 8) → 0 ≤ e.loop
  func : ∀ e, occ e → d.func[e.i.toNat]? = some c.f
  rest : ∀ j : Nat, ((j : Int) < lo ∨ hi ≤ j) → d.func[j]? = c.func[j]?
def VS (n : Nat) : Prop := ∀ (t : Tree) (c : CS) (e : Ctx) (lo : Nat), c.t = t → c.ok → Own1 t e lo → e.i < n → (stm6 n c e.i).code = 0 → (0 < c.loops → 0 ≤ e.loop) → 0 ≤ c.loops → (∀ (i : Nat) (x : St), t.stmts[i]? = some x → StOk x) →
  Vis t c (stm6 n c e.i) (Occ t e) lo (e.i + 1)
theorem vis_list {n : Nat} (hS : VS n) (t : Tree) (L : List Int) (inn loop B lb b : Int) (hst : ∀ (i : Nat) (x : St), t.stmts[i]? = some x → StOk x) : ∀ (m k : Nat) (c : CS) (lo hi : Nat), L.length = k + m → SCov t (L.drop k) lo hi → hi ≤ n → c.t = t → c.ok → c.block = b →
    (stmtsOf (stm6 n) b (L.drop k) c).code = 0 → (0 < c.loops → 0 ≤ loop) → 0 ≤ c.loops →
    Vis t c (stmtsOf (stm6 n) b (L.drop k) c) (fun e => ∃ j, k ≤ j ∧ j < L.length ∧ Occ t (.at_ L j inn loop B lb) e) lo hi
  | 0, k, c, lo, hi, hm, hL, hn, hct, hc, hb, hcode, hl, hl0 => by
    have : L.drop k = [] := List.drop_eq_nil_of_le (by omega)
    rw [this] at hL ⊢
    cases hL
    exact ⟨fun e ⟨j, h1, h2, _⟩ => by omega, fun e ⟨j, h1, h2, _⟩ => by omega, fun j hj => rfl⟩
  | m + 1, k, c, lo, hi, hm, hL, hn, hct, hc, hb, hcode, hl, hl0 => by
    have hk : k < L.length := by omega
    have hdr := List.drop_eq_getElem_cons hk
    rw [hdr] at hL hcode ⊢
    obtain ⟨r, b0, q1, q1', q2, q3, q4, q5, q6, q7, q8⟩ := hL.mem 0 (by rw [List.length_cons]; omega)
    have q1 : L[k] = (r : Int) := q1
    have hb0 : lo = b0 := by cases q7; rfl
    subst hb0
    have q8 : SCov t (L.drop (k + 1)) (r + 1) hi := q8
    have ei : (Ctx.at_ L k inn loop B lb).i = L[k] := by show L.getD k 0 = _; rw [List.getD_eq_getElem?_getD, List.getElem?_eq_getElem hk]; rfl
    have o1 : Own1 t (.at_ L k inn loop B lb) lo := ⟨by rw [ei, q1]; omega, by rw [ei, q1]; omega, by rw [ei, q1]; exact q6⟩
    have hl2 := q8.le
    simp only [stmtsOf] at hcode ⊢
    have ks := KeptS.stm6 n c L[k] hc
    have k2 : KeptS c { stm6 n c L[k] with block := b } := { ks with block := hb.symm, ok := fun k => { ks.ok k with } }
    have hc2 := k2.ok hc
    have c2 : (stm6 n c L[k]).code = 0 := Lv.stmts (Lv.stm6 n) b (L.drop (k + 1)) { stm6 n c L[k] with block := b } hcode
    have v1 := hS t c (.at_ L k inn loop B lb) lo hct hc o1 (by rw [ei, q1]; omega) (by rw [ei]; exact c2) hl hl0 hst
    rw [ei] at v1
    have v2 := vis_list hS t L inn loop B lb b hst m (k + 1) { stm6 n c L[k] with block := b } (r + 1) hi (by omega) q8 hn (k2.t.trans hct) hc2 rfl hcode
      (by rw [k2.loops]; exact hl) (by rw [k2.loops]; exact hl0)
    refine ⟨fun e ⟨j, h1, h2, h3⟩ => ?_, fun e ⟨j, h1, h2, h3⟩ => ?_, fun j hj => ?_⟩
    · by_cases hjk : j = k
      · subst hjk; exact v1.jump e h3
      · exact v2.jump e ⟨j, by omega, h2, h3⟩
    · by_cases hjk : j = k
      · subst hjk
        obtain ⟨lo3, p1, p2, p3, p4⟩ := o1.occ h3
        have := p1.i0
        rw [v2.rest _ (by omega)]
        exact v1.func e h3
      · rw [v2.func e ⟨j, by omega, h2, h3⟩]
        exact congrArg some k2.f
    · rw [v2.rest j (by omega)]
      exact v1.rest j (by omega)
theorem vis_block {n : Nat} (hS : VS n) (t : Tree) (L : List Int) (inn loop B lb : Int) (hst : ∀ (i : Nat) (x : St), t.stmts[i]? = some x → StOk x) (c : CS) (lo hi : Nat) (hL : SCov t L lo hi) (hn : hi ≤ n) (hct : c.t = t) (hc : c.ok)
    (hcode : (blockOf (stm6 n) c L).code = 0) (hl : 0 < c.loops → 0 ≤ loop) (hl0 : 0 ≤ c.loops) : Vis t c (blockOf (stm6 n) c L) (fun e => ∃ j, j < L.length ∧ Occ t (.at_ L j inn loop B lb) e) lo hi := by
  have v := vis_list hS t L inn loop B lb (c.block + 1) hst L.length 0 { c with block := c.block + 1 } lo hi (by omega) hL hn hct { hc with } rfl hcode hl hl0
  exact ⟨fun e ⟨j, h1, h2⟩ => v.jump e ⟨j, Nat.zero_le _, h1, h2⟩, fun e ⟨j, h1, h2⟩ => v.func e ⟨j, Nat.zero_le _, h1, h2⟩, v.rest⟩
theorem vis_stmt (n : Nat) (hS : VS n) : VS (n + 1) := by
  intro t c e lo hct hc ho hn hcode hl hl0 hst
  have i0 := ho.i0
  have i1 := ho.i1
  have hs0 := hst e.i.toNat (t.stm e.i) (by simp only [Tree.stm, List.getD_eq_getElem?_getD]; rw [List.getElem?_eq_getElem (by omega)]; rfl)
  have hcc : c.code = 0 := Lv.stm6 (n + 1) c e.i hcode
  have hstm : c.stm e.i = t.stm e.i := by unfold CS.stm Tree.stm; rw [hct]
  have hk1 := KeptS.setFunc c e.i c.f
  have hok1 := hk1.ok hc
  have hlf : c.func.length = t.stmts.length := by rw [hc.lf, hct]
  obtain ⟨md, s1, s2⟩ := ho.kids.split
  have l1 := s1.le
  have l2 := s2.le
  unfold stm6 at hcode ⊢
  rw [if_neg (by omega), hstm] at hcode ⊢
  have hcode2 : (stmtCase (stm6 n) (c.setFunc e.i c.f) (t.stm e.i)).1.code = 0 := Lv.putted (Lv.refl _) e.i hcode
  generalize hs : t.stm e.i = s at *
  have hkv := Kept.vals (c.setFunc e.i c.f) s.a
  by_cases h5 : s.kind = 5
  · have hx : ∀ g, stmtCase g (c.setFunc e.i c.f) s = (blockOf g (blockOf g ((vals (c.setFunc e.i c.f) s.a).1.need ((vals (c.setFunc e.i c.f) s.a).2 == 2) s.fr 8) s.thn) s.els, -1) := fun g => by
      unfold stmtCase
      rw [if_neg (by omega), if_neg (by omega), if_neg (by omega), if_neg (by omega), if_pos h5]
    rw [hx] at hcode2 ⊢
    have hsub : ∀ (L : List Int) (k : Nat), e.sub t L k = .at_ L k e.i e.loop e.behind e.lb := fun L k => by unfold Ctx.sub; rw [hs, if_neg (by omega)]
    have hc1 : e.thn t = fun k => .at_ s.thn k e.i e.loop e.behind e.lb := by funext k; unfold Ctx.thn; rw [hsub, hs]
    have hc2 : e.els t = fun k => .at_ s.els k e.i e.loop e.behind e.lb := by funext k; unfold Ctx.els; rw [hsub, hs]
    have kx := hkv.trans (Kept.need _ ((vals (c.setFunc e.i c.f) s.a).2 == 2) s.fr 8)
    have lx : ((vals (c.setFunc e.i c.f) s.a).1.need ((vals (c.setFunc e.i c.f) s.a).2 == 2) s.fr 8).loops = c.loops := kx.loops
    have fx : ((vals (c.setFunc e.i c.f) s.a).1.need ((vals (c.setFunc e.i c.f) s.a).2 == 2) s.fr 8).func = c.func.set e.i.toNat c.f := kx.func
    have ffx : ((vals (c.setFunc e.i c.f) s.a).1.need ((vals (c.setFunc e.i c.f) s.a).2 == 2) s.fr 8).f = c.f := kx.f
    have tx : ((vals (c.setFunc e.i c.f) s.a).1.need ((vals (c.setFunc e.i c.f) s.a).2 == 2) s.fr 8).t = t := kx.t.trans hct
    have okx := kx.ok hok1
    generalize (vals (c.setFunc e.i c.f) s.a).1.need ((vals (c.setFunc e.i c.f) s.a).2 == 2) s.fr 8 = x at *
    have cy := Lv.blockOf (Lv.stm6 n) _ _ hcode2
    have v1 := vis_block hS t s.thn e.i e.loop e.behind e.lb hst x lo md s1 (by omega) tx okx cy (by rw [lx]; exact hl) (by rw [lx]; exact hl0)
    have ky := KeptS.blockOf (KeptS.stm6 n) x s.thn okx
    generalize blockOf (stm6 n) x s.thn = y at *
    have v2 := vis_block hS t s.els e.i e.loop e.behind e.lb hst y md e.i.toNat s2 (by omega) (ky.t.trans tx) (ky.ok okx) hcode2 (by rw [ky.loops, lx]; exact hl) (by rw [ky.loops, lx]; exact hl0)
    refine ⟨fun d hd hk => ?_, fun d hd => ?_, fun j hj => ?_⟩
    · rcases hd.cases with rfl | ⟨k, h1, h2⟩ | ⟨k, h1, h2⟩
      · rw [hs] at hk; omega
      · rw [hs] at h1; rw [hc1] at h2; exact v1.jump d ⟨k, h1, h2⟩ hk
      · rw [hs] at h1; rw [hc2] at h2; exact v2.jump d ⟨k, h1, h2⟩ hk
    · rw [putted_func]
      rcases hd.cases with rfl | ⟨k, h1, h2⟩ | ⟨k, h1, h2⟩
      · rw [v2.rest _ (by omega), v1.rest _ (by omega), fx, List.getElem?_set_self (by omega)]
      · rw [hs] at h1
        rw [hc1] at h2
        have hdl : d.i < md := by
          obtain ⟨lo1, p1, p2, p3, p4⟩ := s1.own h1 e.i e.loop e.behind e.lb
          obtain ⟨lo2, w1, w2, w3, w4⟩ := p1.occ h2
          omega
        have hd0 : 0 ≤ d.i := by
          obtain ⟨lo1, p1, p2, p3, p4⟩ := s1.own h1 e.i e.loop e.behind e.lb
          obtain ⟨lo2, w1, w2, w3, w4⟩ := p1.occ h2
          exact w1.i0
        rw [v2.rest _ (by omega), v1.func d ⟨k, h1, h2⟩, ffx]
      · rw [hs] at h1
        rw [hc2] at h2
        rw [v2.func d ⟨k, h1, h2⟩, ky.f, ffx]
    · rw [putted_func, v2.rest _ (by omega), v1.rest _ (by omega), fx, List.getElem?_set_ne (by omega)]
  by_cases h6 : s.kind = 6
  · have he := hs0.el h5
    have hx : ∀ g, stmtCase g (c.setFunc e.i c.f) s = ({ blockOf g ({ (vals (c.setFunc e.i c.f) s.a).1 with loops := c.loops + 1 }.need ((vals (c.setFunc e.i c.f) s.a).2 == 2) s.fr 8) s.thn with loops := c.loops }, -1) := fun g => by
      unfold stmtCase
      rw [if_neg (by omega), if_neg (by omega), if_neg (by omega), if_neg (by omega), if_neg (by omega), if_pos h6]; rfl
    rw [hx] at hcode2 ⊢
    have hsub : ∀ (L : List Int) (k : Nat), e.sub t L k = .at_ L k e.i e.i e.i e.behind := fun L k => by unfold Ctx.sub; rw [hs, if_pos h6]
    have hc1 : e.thn t = fun k => .at_ s.thn k e.i e.i e.i e.behind := by funext k; unfold Ctx.thn; rw [hsub, hs]
    have kx := Kept.need { (vals (c.setFunc e.i c.f) s.a).1 with loops := c.loops + 1 } ((vals (c.setFunc e.i c.f) s.a).2 == 2) s.fr 8
    have lx : ({ (vals (c.setFunc e.i c.f) s.a).1 with loops := c.loops + 1 }.need ((vals (c.setFunc e.i c.f) s.a).2 == 2) s.fr 8).loops = c.loops + 1 := kx.loops
    have fx : ({ (vals (c.setFunc e.i c.f) s.a).1 with loops := c.loops + 1 }.need ((vals (c.setFunc e.i c.f) s.a).2 == 2) s.fr 8).func = c.func.set e.i.toNat c.f := kx.func.trans hkv.func
    have ffx : ({ (vals (c.setFunc e.i c.f) s.a).1 with loops := c.loops + 1 }.need ((vals (c.setFunc e.i c.f) s.a).2 == 2) s.fr 8).f = c.f := kx.f.trans hkv.f
    have tx : ({ (vals (c.setFunc e.i c.f) s.a).1 with loops := c.loops + 1 }.need ((vals (c.setFunc e.i c.f) s.a).2 == 2) s.fr 8).t = t := kx.t.trans (hkv.t.trans hct)
    have okx := kx.ok { hkv.ok hok1 with }
    generalize ({ (vals (c.setFunc e.i c.f) s.a).1 with loops := c.loops + 1 } : CS).need ((vals (c.setFunc e.i c.f) s.a).2 == 2) s.fr 8 = x at *
    have v1 := vis_block hS t s.thn e.i e.i e.i e.behind hst x lo md s1 (by omega) tx okx hcode2 (fun _ => i0) (by omega)
    refine ⟨fun d hd hk => ?_, fun d hd => ?_, fun j hj => ?_⟩
    · rcases hd.cases with rfl | ⟨k, h1, h2⟩ | ⟨k, h1, h2⟩
      · rw [hs] at hk; omega
      · rw [hs] at h1; rw [hc1] at h2; exact v1.jump d ⟨k, h1, h2⟩ hk
      · rw [hs, he] at h1; simp at h1
    · rw [putted_func]
      rcases hd.cases with rfl | ⟨k, h1, h2⟩ | ⟨k, h1, h2⟩
      · dsimp only
        rw [v1.rest _ (by omega), fx, List.getElem?_set_self (by omega)]
      · rw [hs] at h1
        rw [hc1] at h2
        exact (v1.func d ⟨k, h1, h2⟩).trans (by rw [ffx])
      · rw [hs, he] at h1; simp at h1
    · rw [putted_func]
      dsimp only
      rw [v1.rest _ (by omega), fx, List.getElem?_set_ne (by omega)]
  have ht := hs0.th h5 h6
  have he := hs0.el h5
  have hfu : (putted (stmtCase (stm6 n) (c.setFunc e.i c.f) s) e.i).func = c.func.set e.i.toNat c.f := by rw [putted_func, case_func _ _ h5 h6]; rfl
  refine ⟨fun d hd hk => ?_, fun d hd => ?_, fun j hj => ?_⟩
  · rcases hd.cases with rfl | ⟨k, h1, _⟩ | ⟨k, h1, _⟩
    · rw [hs] at hk
      apply hl
      have : (stmtCase (stm6 n) (c.setFunc d.i c.f) s).1 = (c.setFunc d.i c.f).need (decide ((c.setFunc d.i c.f).loops > 0)) s.fr 9 := by
        unfold stmtCase
        rw [if_neg (by omega), if_neg (by omega), if_neg (by omega), if_neg (by omega), if_neg (by omega), if_neg (by omega), if_pos hk]
      rw [this] at hcode2
      exact of_decide_eq_true ((need_code _ _ _ _ (by decide)).1 hcode2).2
    · rw [hs, ht] at h1; simp at h1
    · rw [hs, he] at h1; simp at h1
  · rcases hd.cases with rfl | ⟨k, h1, _⟩ | ⟨k, h1, _⟩
    · rw [hfu, List.getElem?_set_self (by omega)]
    · rw [hs, ht] at h1; simp at h1
    · rw [hs, he] at h1; simp at h1
  · rw [hfu, List.getElem?_set_ne (by omega)]
end Go.Proofs.Ytaadamobapnfbaa
/- A right program: jumps stand in whiles; each statement's function is told. -/
set_option linter.unusedVariables false
set_option linter.unusedSimpArgs false
namespace Go.Proofs.Ytaadamobapnfbaa
open Go Go.Abs
theorem vis_all : ∀ n, VS n
  | 0 => fun t c e lo hct hc ho hn => absurd hn (by have := ho.i0; omega)
  | n + 1 => vis_stmt n (vis_all n)
theorem Lv.body : ∀ (l : List Int) (c : CS), Lv c (bodyOf l c)
  | [], c => .refl c
  | k :: l, c => (Lv.stm6 c.t.stmts.length c k).trans (Lv.body l _)
theorem Lv.pars (fr : Int) : ∀ (l : List ByteArray) (c : CS), Lv c (parsOf fr l c)
  | [], c => .refl c
  | p :: l, c => by
    refine Lv.trans ?_ (Lv.pars fr l (if c.code = 0 then (c.decl p 1 fr).1 else c))
    split
    · exact .decl _ _ _ _
    · exact .refl c
theorem Lv.funs : ∀ (l : List Fu) (i : Nat) (c : CS), Lv c (funs i l c)
  | [], i, c => .refl c
  | g :: l, i, c => fun h => Lv.pars _ _ { c with f := i, names := [], block := 0 } (Lv.body _ _ (Lv.funs l (i + 1) _ h))
theorem pars_func (fr : Int) : ∀ (l : List ByteArray) (c : CS), (parsOf fr l c).func = c.func
  | [], c => rfl
  | p :: l, c => by
    refine (pars_func fr l _).trans ?_
    split
    · exact decl_func _ _ _ _
    · rfl
theorem vis_body (t : Tree) (L : List Int) (inn loop B lb : Int) (hst : ∀ (i : Nat) (x : St), t.stmts[i]? = some x → StOk x) : ∀ (m k : Nat) (c : CS) (lo hi : Nat), L.length = k + m → SCov t (L.drop k) lo hi → hi ≤ t.stmts.length → c.t = t → c.ok →
    (bodyOf (L.drop k) c).code = 0 → (0 < c.loops → 0 ≤ loop) → 0 ≤ c.loops →
    Vis t c (bodyOf (L.drop k) c) (fun e => ∃ j, k ≤ j ∧ j < L.length ∧ Occ t (.at_ L j inn loop B lb) e) lo hi
  | 0, k, c, lo, hi, hm, hL, hn, hct, hc, hcode, hl, hl0 => by
    have : L.drop k = [] := List.drop_eq_nil_of_le (by omega)
    rw [this] at hL ⊢
    cases hL
    exact ⟨fun e ⟨j, h1, h2, _⟩ => by omega, fun e ⟨j, h1, h2, _⟩ => by omega, fun j hj => rfl⟩
  | m + 1, k, c, lo, hi, hm, hL, hn, hct, hc, hcode, hl, hl0 => by
    have hk : k < L.length := by omega
    have hdr := List.drop_eq_getElem_cons hk
    rw [hdr] at hL hcode ⊢
    obtain ⟨r, b0, q1, q1', q2, q3, q4, q5, q6, q7, q8⟩ := hL.mem 0 (by rw [List.length_cons]; omega)
    have q1 : L[k] = (r : Int) := q1
    have hb0 : lo = b0 := by cases q7; rfl
    subst hb0
    have q8 : SCov t (L.drop (k + 1)) (r + 1) hi := q8
    have ei : (Ctx.at_ L k inn loop B lb).i = L[k] := by show L.getD k 0 = _; rw [List.getD_eq_getElem?_getD, List.getElem?_eq_getElem hk]; rfl
    have o1 : Own1 t (.at_ L k inn loop B lb) lo := ⟨by rw [ei, q1]; omega, by rw [ei, q1]; omega, by rw [ei, q1]; exact q6⟩
    have hl2 := q8.le
    simp only [bodyOf] at hcode ⊢
    rw [hct] at hcode ⊢
    have ks := KeptS.stm6 t.stmts.length c L[k] hc
    have hc2 := ks.ok hc
    have c2 : (stm6 t.stmts.length c L[k]).code = 0 := Lv.body _ _ hcode
    have v1 := vis_all t.stmts.length t c (.at_ L k inn loop B lb) lo hct hc o1 (by rw [ei, q1]; omega) (by rw [ei]; exact c2) hl hl0 hst
    rw [ei] at v1
    have v2 := vis_body t L inn loop B lb hst m (k + 1) (stm6 t.stmts.length c L[k]) (r + 1) hi (by omega) q8 hn (ks.t.trans hct) hc2 hcode
      (by rw [ks.loops]; exact hl) (by rw [ks.loops]; exact hl0)
    refine ⟨fun e ⟨j, h1, h2, h3⟩ => ?_, fun e ⟨j, h1, h2, h3⟩ => ?_, fun j hj => ?_⟩
    · by_cases hjk : j = k
      · subst hjk; exact v1.jump e h3
      · exact v2.jump e ⟨j, by omega, h2, h3⟩
    · by_cases hjk : j = k
      · subst hjk
        obtain ⟨lo3, p1, p2, p3, p4⟩ := o1.occ h3
        have := p1.i0
        rw [v2.rest _ (by omega)]
        exact v1.func e h3
      · rw [v2.func e ⟨j, by omega, h2, h3⟩]
        exact congrArg some ks.f
    · rw [v2.rest j (by omega)]
      exact v1.rest j (by omega)
theorem vis_funs (t : Tree) (R : Nat → Nat) (ht : TreeOk t) (hR : FR t R) (hst : ∀ (i : Nat) (x : St), t.stmts[i]? = some x → StOk x) : ∀ (m i : Nat) (c : CS), t.funcs.length = i + m → Pre t i c → (funs i (t.funcs.drop i) c).code = 0 →
    (∀ k d, i ≤ k → InF t k d → (((t.stm d.i).kind = 7 ∨ (t.stm d.i).kind = 8) → 0 ≤ d.loop) ∧ (funs i (t.funcs.drop i) c).func[d.i.toNat]? = some (k : Int)) ∧ ∀ j : Nat, j < R i → (funs i (t.funcs.drop i) c).func[j]? = c.func[j]?
  | 0, i, c, hm, hp, hcode => by
    have : t.funcs.drop i = [] := List.drop_eq_nil_of_le (by omega)
    rw [this]
    exact ⟨fun k d hk ⟨g, j, h1, _⟩ => by have := (List.getElem?_eq_some_iff.1 h1).1; omega, fun j hj => rfl⟩
  | m + 1, i, c, hm, hp, hcode => by
    have hlt : i < t.funcs.length := by omega
    have hbig := ht.big
    rw [funs_drop _ _ _ hlt] at hcode ⊢
    have hok := hp.enter hlt hbig
    have hgk : t.funcs[i]? = some t.funcs[i] := List.getElem?_eq_getElem hlt
    have kp := KeptS.pars t.funcs[i].fr t.funcs[i].params (c.enter i) hok
    have kb := KeptS.body t.funcs[i].body _ (kp.ok hok)
    have hp2 := hp.next hlt (kp.trans kb)
    have hc2 := Lv.funs _ _ _ hcode
    have hR1 : R (i + 1) ≤ t.stmts.length := by rw [← hR.all]; exact hR.mono _ _ (by omega)
    have hRi := hR.mono i (i + 1) (by omega)
    obtain ⟨i1, i2⟩ := vis_funs t R ht hR hst m (i + 1) _ (by omega) hp2 hcode
    have lp : (parsOf t.funcs[i].fr t.funcs[i].params (c.enter i)).loops = 0 := kp.loops.trans hp.loops
    have v := vis_body t t.funcs[i].body (-1) (-1) (-1) (-1) hst t.funcs[i].body.length 0 (parsOf t.funcs[i].fr t.funcs[i].params (c.enter i)) (R i) (R (i + 1)) (by omega) (hR.body i _ hgk) hR1 (kp.t.trans hp.tt) (kp.ok hok) hc2 (by rw [lp]; intro h; omega) (by rw [lp]; omega)
    rw [List.drop_zero] at v
    generalize hcc : bodyOf t.funcs[i].body (parsOf t.funcs[i].fr t.funcs[i].params (c.enter i)) = c2 at *
    refine ⟨fun k d hk hin => ?_, fun j hj => ?_⟩
    · by_cases hki : k = i
      · subst hki
        have hin' := hin
        obtain ⟨g, j, h1, h2, h3⟩ := hin
        rw [hgk] at h1
        cases h1
        obtain ⟨lo, o1, o2, o3, o4⟩ := hR.own hin'
        have := o1.i0
        refine ⟨v.jump d ⟨j, Nat.zero_le _, h2, h3⟩, ?_⟩
        rw [i2 _ (by omega), v.func d ⟨j, Nat.zero_le _, h2, h3⟩]
        exact congrArg some kp.f
      · exact i1 k d (by omega) hin
    · rw [i2 j (by omega), v.rest j (.inl (by omega)), pars_func]; rfl
theorem right_flow (t : Tree) (R : Nat → Nat) (ht : TreeOk t) (hR : FR t R) (hst : ∀ (i : Nat) (x : St), t.stmts[i]? = some x → StOk x) (hc : (checked t).code = 0) : JumpsOk t ∧ ∀ k d, InF t k d → (checked t).func[d.i.toNat]? = some (k : Int) := by
  have h := vis_funs t R ht hR hst t.funcs.length 0 (faceOf (dups [] t.funcs (c0 t))) (by omega) (pre0 t) hc
  exact ⟨fun k d hin => (h.1 k d (Nat.zero_le _) hin).1, fun k d hin => (h.1 k d (Nat.zero_le _) hin).2⟩
theorem IsTree.sts {s : ByteArray} {t : Tree} {toks : List Tok} {at_ : Int} (h : IsTree s t toks at_) : ∀ (i : Nat) (x : St), t.stmts[i]? = Option.some x → StOk x := fun i x hx => by
  have hlt := (List.getElem?_eq_some_iff.1 hx).1
  obtain ⟨k, g, a', b', c', d', x', y', q1, q2, q3, q4, q5, q6, q7, q8, q9, q10⟩ := h.cov.one_s i (Nat.zero_le _) hlt
  exact (q2.st i x q9 q10 hx).1
end Go.Proofs.Ytaadamobapnfbaa
/- Ways lead to statements of the same function, or to the exit. -/
set_option linter.unusedVariables false
set_option linter.unusedSimpArgs false
namespace Go.Proofs.Ytaadamobapnfbaa
open Go Go.Abs
def Good (t : Tree) (k : Nat) (x : Int) : Prop := x = -1 ∨ ∃ e, InF t k e ∧ e.i = x
theorem firstOf_good {t : Tree} {k : Nat} {L : List Int} {B : Int} (hL : ∀ j, j < L.length → Good t k (L.getD j 0)) (hB : Good t k B) (n : Nat) : Good t k (firstOf (L.drop n) B) := by
  by_cases h : n < L.length
  · rw [List.drop_eq_getElem_cons h]
    have := hL n h
    rw [List.getD_eq_getElem?_getD, List.getElem?_eq_getElem h] at this
    exact this
  · rw [List.drop_eq_nil_of_le (by omega)]; exact hB
theorem InF.thns {t : Tree} {k : Nat} {d : Ctx} (h : InF t k d) : ∀ j, j < (t.stm d.i).thn.length → Good t k ((t.stm d.i).thn.getD j 0) := fun j hj => by
  obtain ⟨g, q, h1, h2, h3⟩ := h
  exact .inr ⟨d.thn t j, ⟨g, q, h1, h2, .thn h3 j hj⟩, sub_i _ _ _ _⟩
theorem InF.elss {t : Tree} {k : Nat} {d : Ctx} (h : InF t k d) : ∀ j, j < (t.stm d.i).els.length → Good t k ((t.stm d.i).els.getD j 0) := fun j hj => by
  obtain ⟨g, q, h1, h2, h3⟩ := h
  exact .inr ⟨d.els t j, ⟨g, q, h1, h2, .els h3 j hj⟩, sub_i _ _ _ _⟩
theorem Beh.good {t : Tree} {k : Nat} {d : Ctx} (h : Beh t k d) : Good t k d.behind ∧ (0 ≤ d.loop → Good t k d.loop ∧ Good t k d.lb) := by
  have sub : ∀ (d : Ctx) (M : List Int) (j : Nat), InF t k d → (∀ j, j < M.length → Good t k (M.getD j 0)) → (Good t k d.behind ∧ (0 ≤ d.loop → Good t k d.loop ∧ Good t k d.lb)) →
      Good t k (d.sub t M j).behind ∧ (0 ≤ (d.sub t M j).loop → Good t k (d.sub t M j).loop ∧ Good t k (d.sub t M j).lb) := by
    intro d M j hin hM ih
    have hi : Good t k d.i := .inr ⟨d, hin, rfl⟩
    unfold Ctx.sub
    split
    · exact ⟨firstOf_good hM hi _, fun _ => ⟨hi, ih.1⟩⟩
    · exact ⟨firstOf_good hM ih.1 _, ih.2⟩
  induction h with
  | @top g j hg hj hb => exact ⟨firstOf_good (fun q hq => .inr ⟨topC g q, ⟨g, q, hg, hq, .self⟩, rfl⟩) (.inl rfl) _, fun h => absurd h (by decide : ¬ (0 : Int) ≤ -1)⟩
  | thn h hin hi hj hb ih => exact sub _ _ _ hin hin.thns ih
  | els h hin hi hj hb ih => exact sub _ _ _ hin hin.elss ih
theorem way_good {t : Tree} {R : Nat → Nat} (ht : TreeOk t) (hR : FR t R) (hJ : JumpsOk t) {k : Nat} {d : Ctx} (h : InF t k d) : ∀ x ∈ way t d, Good t k x := by
  obtain ⟨b1, b2⟩ := (h.beh ht hR).good
  have hi : Good t k d.i := .inr ⟨d, h, rfl⟩
  have hj := hJ k d h
  have f1 := firstOf_good h.thns b1 0
  have f2 := firstOf_good h.elss b1 0
  have f3 := firstOf_good h.thns hi 0
  rw [List.drop_zero] at f1 f2 f3
  intro x hx
  unfold way at hx
  split at hx
  · simp only [List.mem_cons, List.not_mem_nil, or_false] at hx
    rcases hx with rfl | rfl
    · exact f1
    · exact f2
  split at hx
  · simp only [List.mem_cons, List.not_mem_nil, or_false] at hx
    rcases hx with rfl | rfl
    · exact f3
    · exact b1
  split at hx
  · rename_i h7
    rw [List.mem_singleton] at hx; subst hx
    exact (b2 (hj (.inl h7))).2
  split at hx
  · rename_i h8
    rw [List.mem_singleton] at hx; subst hx
    exact (b2 (hj (.inr h8))).1
  split at hx
  · rw [List.mem_singleton] at hx; exact .inl hx
  · rw [List.mem_singleton] at hx; subst hx; exact b1
theorem Good.range {t : Tree} {R : Nat → Nat} (hR : FR t R) {k : Nat} {x : Int} (h : Good t k x) : x = -1 ∨ (0 ≤ x ∧ x < t.stmts.length) := by
  rcases h with h | ⟨e, he, rfl⟩
  · exact .inl h
  · obtain ⟨lo, o1, o2, o3, o4⟩ := hR.own he
    exact .inr ⟨o1.i0, o4⟩
/-- where a way leads -/
theorem FlowOk.leads {t : Tree} {R : Nat → Nat} (ht : TreeOk t) (hR : FR t R) (hJ : JumpsOk t) {nx : List (List Int)} (h : FlowOk t nx) {i : Nat} (hi : i < nx.length) : ∃ k, (∃ d, InF t k d ∧ d.i = i ∧ nx[i] = way t d) ∧ ∀ x ∈ nx[i], Good t k x := by
  obtain ⟨k, d, hk, hin, hd⟩ := hR.ex (i := i) (by rw [← h.len]; exact hi)
  have := h.ways k d hin
  rw [hd, Int.toNat_natCast, List.getElem?_eq_getElem hi] at this
  have e := Option.some.inj this
  exact ⟨k, ⟨d, hin, hd, e⟩, by rw [e]; exact way_good ht hR hJ hin⟩
theorem pre_funs (t : Tree) (ht : TreeOk t) : ∀ (m i : Nat) (c : CS), t.funcs.length = i + m → Pre t i c → Pre t t.funcs.length (funs i (t.funcs.drop i) c)
  | 0, i, c, hm, hp => by
    have : t.funcs.drop i = [] := List.drop_eq_nil_of_le (by omega)
    rw [this, show t.funcs.length = i by omega]; exact hp
  | m + 1, i, c, hm, hp => by
    have hlt : i < t.funcs.length := by omega
    rw [funs_drop _ _ _ hlt]
    have hok := hp.enter hlt ht.big
    have kp := KeptS.pars t.funcs[i].fr t.funcs[i].params (c.enter i) hok
    have kb := KeptS.body t.funcs[i].body _ (kp.ok hok)
    exact pre_funs t ht m (i + 1) _ (by omega) (hp.next hlt (kp.trans kb))
theorem checked_pre (t : Tree) (ht : TreeOk t) : Pre t t.funcs.length (checked t) := by
  have := pre_funs t ht t.funcs.length 0 _ (by omega) (pre0 t)
  rw [List.drop_zero] at this
  exact this
end Go.Proofs.Ytaadamobapnfbaa
/- The law of flow: Right, awake. -/
set_option linter.unusedVariables false
set_option linter.unusedSimpArgs false
set_option maxRecDepth 1000000
namespace Go.Proofs.Ytaadamobapnfbaa
open Go Go.Abs
def rightOf (s : ByteArray) : Tree × Bool :=
  if s.size > 800 then ({}, false) else if (parse s).2.2 ≠ 0 then ({}, false) else ((parse s).1, (checked (parse s).1).code == 0)
set_option maxHeartbeats 1000000 in
theorem right_walk (s : ByteArray) : ACalls Try.prog 15 [vs s] [] (RV (.tup [.agg (rightOf s).1.cells, .v (.bool (rightOf s).2)]) []) := by
  refine ACalls.retellR ?_
  refine ACalls.of_code (c := _) Try.func15 rfl Try.ntmps15 (Nat.le_of_ble_eq_true rfl) ?_
  refine ACode.seq (ACode.region ?_)
  refine ASeq.op rfl rfl (AOp.allocP rfl (tok _ rfl) rfl rfl (fun _ => rfl) (fun _ => ?_))
  refine ASeq.q rfl rfl (QOp.assign rfl rfl) ?_
  refine ASeq.nil ?_
  rename_i m2
  refine ACode.seq (ACode.seq (ACode.region ?_))
  refine ASeq.q rfl rfl (QOp.move rfl rfl) ?_
  refine ASeq.q rfl rfl (QOp.lenS rfl rfl (tok _ rfl) rfl) ?_
  refine ASeq.q rfl rfl (QOp.cmp rfl rfl rfl rfl) ?_
  refine ASeq.nil ?_
  refine AExit.then_normal ?_
  refine ACode.cond _ rfl (fun hb => ?_) (fun hb => ?_)
  · have hbig : s.size > 800 := by have := of_decide_eq_true hb; omega
    have hr : rightOf s = ({}, false) := by unfold rightOf; rw [if_pos hbig]
    refine ACode.seq (ACode.region ?_)
    refine ASeq.q rfl rfl (QOp.build rfl (tok _ rfl) rfl rfl rfl rfl rfl) ?_
    refine ASeq.op0 rfl rfl (AOp.storeP 0 rfl rfl rfl rfl (tok _ rfl) rfl rfl rfl rfl ?_)
    refine ASeq.q rfl rfl (QOp.assign rfl rfl) ?_
    refine ASeq.nil ?_
    refine ACode.ret (AExit.then_ret ?_)
    refine bodyQ_ret 0 (.cell 0 rfl rfl (tok _ rfl) rfl (.tmp rfl .nil)) rfl ?_
    rw [hr]
    exact ⟨_, LeL.tup (.cons nilTree_le (.cons (.refl _) .nil)), .mk⟩
  have hsm : ¬ s.size > 800 := by have := of_decide_eq_false hb; omega
  have hs : s.size ≤ 1000000 := by omega
  refine ACode.skip (ACode.seq (ACode.region ?_))
  refine ASeq.q rfl rfl (QOp.move rfl rfl) ?_
  refine ASeq.op rfl rfl (AOp.callP 0 rfl (by kernel_rfl) rfl rfl rfl (parse_ok s hs) ?_ (by rintro _ _ ⟨⟩))
  rintro _ _ ⟨⟩
  refine ASeq.q rfl rfl (QOp.move rfl rfl) ?_
  refine ASeq.q rfl rfl (QOp.extract rfl rfl rfl) ?_
  refine ASeq.q rfl rfl (QOp.extract rfl rfl rfl) ?_
  refine ASeq.q rfl rfl (QOp.extract rfl rfl rfl) ?_
  refine ASeq.op rfl rfl (AOp.allocP rfl (tok _ rfl) rfl rfl (fun _ => rfl) (fun _ => ?_))
  refine ASeq.op0 rfl rfl (AOp.storeP 1 rfl rfl rfl rfl (tok _ rfl) rfl rfl rfl rfl ?_)
  refine ASeq.q rfl rfl (QOp.assign rfl rfl) ?_
  refine ASeq.q rfl rfl (QOp.assign rfl rfl) ?_
  refine ASeq.nil ?_
  rename_i m4
  refine ACode.seq (ACode.seq (ACode.region ?_))
  refine ASeq.q rfl rfl (QOp.move rfl rfl) ?_
  refine ASeq.q rfl rfl (QOp.cmp rfl rfl rfl rfl) ?_
  refine ASeq.nil ?_
  refine AExit.then_normal ?_
  refine ACode.cond _ rfl (fun hb => ?_) (fun hb => ?_)
  · have hne : (parse s).2.2 ≠ 0 := by simpa using hb
    have hr : rightOf s = ({}, false) := by unfold rightOf; rw [if_neg hsm, if_pos hne]
    refine ACode.seq (ACode.region ?_)
    refine ASeq.q rfl rfl (QOp.build rfl (tok _ rfl) rfl rfl rfl rfl rfl) ?_
    refine ASeq.op0 rfl rfl (AOp.storeP 0 rfl rfl rfl rfl (tok _ rfl) rfl rfl rfl rfl ?_)
    refine ASeq.q rfl rfl (QOp.assign rfl rfl) ?_
    refine ASeq.nil ?_
    refine ACode.ret (AExit.then_ret ?_)
    refine bodyQ_ret 0 (.cell 0 rfl rfl (tok _ rfl) rfl (.tmp rfl .nil)) rfl ?_
    rw [hr]
    exact ⟨_, LeL.tup (.cons nilTree_le (.cons (.refl _) .nil)), .mk⟩
  have hz : (parse s).2.2 = 0 := by simpa using hb
  have hr : rightOf s = ((parse s).1, (checked (parse s).1).code == 0) := by unfold rightOf; rw [if_neg hsm, if_neg (fun h => h hz)]
  obtain ⟨toks, at_, htree⟩ := parse_tree hs hz
  have hck := check6_ok (parse s).1 htree.ok
  rw [hr]
  generalize (parse s).1 = t at *
  refine ACode.skip (ACode.seq (ACode.region ?_))
  refine ASeq.q rfl rfl (QOp.loadM 1 rfl rfl rfl (tok _ rfl) rfl) ?_
  refine ASeq.op rfl rfl (AOp.callP 0 rfl (by kernel_rfl) rfl rfl rfl hck ?_ (by rintro _ _ ⟨⟩))
  rintro _ _ (⟨hbad⟩ | ⟨hgood, m, τ⟩)
  · refine ASeq.q rfl rfl (QOp.move rfl rfl) ?_
    refine ASeq.q rfl rfl (QOp.extract rfl rfl rfl) ?_
    refine ASeq.q rfl rfl (QOp.extract rfl rfl rfl) ?_
    refine ASeq.q rfl rfl (QOp.extract rfl rfl rfl) ?_
    refine ASeq.op rfl rfl (AOp.allocP rfl (tok _ rfl) rfl rfl (fun _ => rfl) (fun _ => ?_))
    refine ASeq.op0 rfl rfl (AOp.storeP 2 rfl rfl rfl rfl (tok _ rfl) rfl rfl rfl rfl ?_)
    refine ASeq.q rfl rfl (QOp.assign rfl rfl) ?_
    refine ASeq.q rfl rfl (QOp.assign rfl rfl) ?_
    refine ASeq.nil ?_
    refine ACode.seq (ACode.region ?_)
    refine ASeq.q rfl rfl (QOp.loadM 1 rfl rfl rfl (tok _ rfl) rfl) ?_
    refine ASeq.q rfl rfl (QOp.move rfl rfl) ?_
    refine ASeq.q rfl rfl (QOp.cmp rfl rfl rfl rfl) ?_
    refine ASeq.op0 rfl rfl (AOp.storeP 0 rfl rfl rfl rfl (tok _ rfl) rfl rfl rfl rfl ?_)
    refine ASeq.q rfl rfl (QOp.assign rfl rfl) ?_
    refine ASeq.nil ?_
    refine ACode.ret ?_
    refine bodyQ_ret 0 (.cell 0 rfl rfl (tok _ rfl) rfl (.tmp rfl .nil)) rfl ?_
    exact ⟨_, .refl _, .mk⟩
  · rw [hgood]
    refine ASeq.q rfl rfl (QOp.move rfl rfl) ?_
    refine ASeq.q rfl rfl (QOp.extract rfl rfl rfl) ?_
    refine ASeq.q rfl rfl (QOp.extract rfl rfl rfl) ?_
    refine ASeq.q rfl rfl (QOp.extract rfl rfl rfl) ?_
    refine ASeq.op rfl rfl (AOp.allocP rfl (tok _ rfl) rfl rfl (fun _ => rfl) (fun _ => ?_))
    refine ASeq.op0 rfl rfl (AOp.storeP 8 rfl rfl rfl rfl (tok _ rfl) rfl rfl rfl rfl ?_)
    refine ASeq.q rfl rfl (QOp.assign rfl rfl) ?_
    refine ASeq.q rfl rfl (QOp.assign rfl rfl) ?_
    refine ASeq.nil ?_
    refine ACode.seq (ACode.region ?_)
    refine ASeq.q rfl rfl (QOp.loadM 7 rfl rfl rfl (tok _ rfl) rfl) ?_
    refine ASeq.q rfl rfl (QOp.move rfl rfl) ?_
    refine ASeq.q rfl rfl (QOp.cmp rfl rfl rfl rfl) ?_
    refine ASeq.op0 rfl rfl (AOp.storeP 6 rfl rfl rfl rfl (tok _ rfl) rfl rfl rfl rfl ?_)
    refine ASeq.q rfl rfl (QOp.assign rfl rfl) ?_
    refine ASeq.nil ?_
    refine ACode.ret ?_
    refine bodyQ_ret 0 (.cell 6 rfl rfl (tok _ rfl) rfl (.tmp rfl .nil)) rfl ?_
    exact ⟨_, .refl _, .mk⟩
def s7 : ByteArray := ⟨#[102, 117, 110, 99, 32, 109, 97, 105, 110, 40, 41, 32, 123, 32, 118, 97, 114, 32, 120, 32, 61, 32, 48, 59, 32, 119, 104, 105, 108, 101, 32, 120, 32, 60, 32, 49, 32, 123, 32, 120, 32, 61, 32, 49, 59, 32, 125, 32, 120, 32, 61, 32, 50, 59, 32, 125]⟩
/-- what is known of a right text -/
structure RightT (s : ByteArray) (t : Tree) (R : Nat → Nat) : Prop where
  tree : ∃ toks at_, IsTree s t toks at_
  fr : FR t R
  code : (checked t).code = 0
theorem rightT {s : ByteArray} (h : (rightOf s).2 = true) : ∃ R, RightT s (rightOf s).1 R := by
  unfold rightOf at h ⊢
  split at h
  · cases h
  rename_i h1
  rw [if_neg h1]
  split at h
  · cases h
  rename_i h2
  rw [if_neg h2]
  have hz : (parse s).2.2 = 0 := Decidable.byContradiction h2
  obtain ⟨toks, at_, htree⟩ := parse_tree (by omega) hz
  obtain ⟨R, hR⟩ := htree.fr
  exact ⟨R, ⟨toks, at_, htree⟩, hR, by simpa using h⟩
theorem RightT.ok {s : ByteArray} {t : Tree} {R : Nat → Nat} (h : RightT s t R) : TreeOk t ∧ (∀ (i : Nat) (x : St), t.stmts[i]? = some x → StOk x) ∧ JumpsOk t ∧ ∀ k d, InF t k d → (checked t).func[d.i.toNat]? = some (k : Int) := by
  obtain ⟨toks, at_, ht⟩ := h.tree
  obtain ⟨h1, h2⟩ := right_flow t R ht.ok h.fr ht.sts h.code
  exact ⟨ht.ok, ht.sts, h1, h2⟩
theorem RightT.of {s : ByteArray} {t : Tree} {R : Nat → Nat} (h : RightT s t R) : ACalls Try.prog 16 [.agg t.cells] [] (RG t) := by
  obtain ⟨h1, h2, h3, h4⟩ := h.ok
  exact flow_of t R h1 h2 h.fr h3
theorem s7_right : (rightOf s7).2 = true := by decide +kernel
def t7 : Tree := (rightOf s7).1
def d72 : Ctx := .at_ [0, 2, 3] 1 (-1) (-1) (-1) (-1)
def d71 : Ctx := d72.thn t7 0
theorem t7_fu : (t7.funcs.map (·.body)) = [[0, 2, 3]] := by decide +kernel
theorem t7_len : t7.stmts.length = 4 := by decide +kernel
theorem t7_way2 : way t7 d72 = [1, 3] := by decide +kernel
theorem t7_way1 : way t7 d71 = [2] := by decide +kernel
theorem t7_i1 : d71.i = 1 := by decide +kernel
theorem t7_thn : 0 < (t7.stm d72.i).thn.length := by decide +kernel
theorem t7_flow {nx : List (List Int)} (h : FlowOk t7 nx) : nx.length = 4 ∧ nx[2]? = some [1, 3] ∧ nx[1]? = some [2] := by
  have hf := t7_fu
  obtain ⟨g, hg, hb⟩ : ∃ g, t7.funcs[0]? = some g ∧ g.body = [0, 2, 3] := by
    cases hl : t7.funcs with
    | nil => rw [hl] at hf; cases hf
    | cons g l =>
      rw [hl] at hf
      simp only [List.map_cons, List.cons.injEq] at hf
      exact ⟨g, rfl, hf.1⟩
  have h2 : InF t7 0 d72 := ⟨g, 1, hg, by rw [hb]; decide, by unfold topC; rw [hb]; exact .self⟩
  have h1 : InF t7 0 d71 := by
    obtain ⟨g', j, q1, q2, q3⟩ := h2
    exact ⟨g', j, q1, q2, .thn q3 0 t7_thn⟩
  have e2 := h.ways 0 d72 h2
  have e1 := h.ways 0 d71 h1
  rw [t7_way2] at e2
  rw [t7_way1, t7_i1] at e1
  exact ⟨h.len.trans t7_len, e2, e1⟩
end Go.Proofs.Ytaadamobapnfbaa
/- The law of flow: awake. -/
set_option linter.unusedVariables false
set_option linter.unusedSimpArgs false
set_option maxRecDepth 1000000
namespace Go.Proofs.Ytaadamobapnfbaa
open Go Go.Abs
set_option maxHeartbeats 1000000 in
theorem awake7_walk : ACalls Try.prog 14 [] [] (RV (.v (.bool true)) []) := by
  obtain ⟨R, hT⟩ := rightT s7_right
  have hof := hT.of
  have hrw := right_walk s7
  rw [s7_right] at hrw
  change ACalls Try.prog 16 [.agg t7.cells] [] (RG t7) at hof
  change ACalls Try.prog 15 [vs s7] [] (RV (.tup [.agg t7.cells, .v (.bool true)]) []) at hrw
  refine ACalls.of_code (c := _) Try.func14 rfl Try.ntmps14 (Nat.le_of_ble_eq_true rfl) ?_
  refine ACode.seq (ACode.region ?_)
  refine ASeq.q rfl rfl (QOp.assign rfl rfl) ?_
  refine ASeq.nil ?_
  refine ACode.seq (ACode.region ?_)
  refine ASeq.op rfl rfl (AOp.callP 0 rfl (by kernel_rfl) rfl rfl rfl (hrw) ?_ (by rintro _ _ ⟨⟩))
  rintro _ _ ⟨⟩
  refine ASeq.q rfl rfl (QOp.move rfl rfl) ?_
  refine ASeq.q rfl rfl (QOp.extract rfl rfl rfl) ?_
  refine ASeq.q rfl rfl (QOp.extract rfl rfl rfl) ?_
  refine ASeq.op rfl rfl (AOp.allocP rfl (tok _ rfl) rfl rfl (fun _ => rfl) (fun _ => ?_))
  refine ASeq.op0 rfl rfl (AOp.storeP 0 rfl rfl rfl rfl (tok _ rfl) rfl rfl rfl rfl ?_)
  refine ASeq.q rfl rfl (QOp.assign rfl rfl) ?_
  refine ASeq.nil ?_
  refine ACode.seq (ACode.region ?_)
  refine ASeq.q rfl rfl (QOp.loadM 0 rfl rfl rfl (tok _ rfl) rfl) ?_
  refine ASeq.op rfl rfl (AOp.callP 0 rfl (by kernel_rfl) rfl rfl rfl hof ?_ (by rintro _ _ ⟨⟩))
  rintro _ _ ⟨mN, nx, hnx⟩
  obtain ⟨h1, h2, h3⟩ := t7_flow hnx
  obtain ⟨n0, n3, rfl⟩ : ∃ n0 n3, nx = [n0, [2], [1, 3], n3] := by
    match nx, h1 with
    | [a, b, c, d], _ =>
      simp only [List.getElem?_cons_succ, List.getElem?_cons_zero, Option.some.injEq] at h2 h3
      subst h2; subst h3; exact ⟨a, d, rfl⟩
  rw [t7_len]
  refine ASeq.op rfl rfl (AOp.allocP rfl (tok _ rfl) rfl rfl (fun _ => rfl) (fun _ => ?_))
  refine ASeq.op0 rfl rfl (AOp.storeP 2 rfl rfl rfl rfl (tok _ rfl) rfl rfl rfl rfl ?_)
  refine ASeq.nil ?_
  refine ACode.seq (ACode.region ?_)
  refine ASeq.q rfl rfl (QOp.move rfl rfl) ?_
  refine ASeq.q rfl rfl (QOp.move rfl rfl) ?_
  refine ASeq.gq _ _ rfl rfl rfl rfl (QOp.fieldM rfl rfl (tok _ rfl) rfl rfl (by decide) rfl) ?_
  refine ASeq.gq _ _ rfl rfl rfl rfl (QOp.loadM 2 rfl rfl rfl (tok _ rfl) rfl) ?_
  refine ASeq.gq _ _ rfl rfl rfl rfl (QOp.lenM rfl rfl (tok _ rfl) rfl) ?_
  refine ASeq.gq _ _ rfl rfl rfl rfl (QOp.cmp rfl rfl rfl rfl) ?_
  refine ASeq.q rfl rfl (QOp.pickT rfl rfl rfl) ?_
  refine ASeq.q rfl rfl (QOp.move rfl rfl) ?_
  refine ASeq.gq _ _ rfl rfl rfl rfl (QOp.fieldM rfl rfl (tok _ rfl) rfl rfl (by decide) rfl) ?_
  refine ASeq.gq _ _ rfl rfl rfl rfl (QOp.loadM 2 rfl rfl rfl (tok _ rfl) rfl) ?_
  refine ASeq.gq _ _ rfl rfl rfl rfl (QOp.indexM rfl rfl rfl (tok _ rfl) rfl (tok _ rfl) (by decide) (by decide) rfl) ?_
  refine ASeq.gq _ _ rfl rfl rfl rfl (QOp.loadM 0 rfl rfl rfl (tok _ rfl) rfl) ?_
  refine ASeq.gq _ _ rfl rfl rfl rfl (QOp.lenI rfl rfl (tok _ rfl) rfl) ?_
  refine ASeq.gq _ _ rfl rfl rfl rfl (QOp.cmp rfl rfl rfl rfl) ?_
  refine ASeq.q rfl rfl (QOp.pickT rfl rfl rfl) ?_
  refine ASeq.q rfl rfl (QOp.move rfl rfl) ?_
  refine ASeq.gq _ _ rfl rfl rfl rfl (QOp.fieldM rfl rfl (tok _ rfl) rfl rfl (by decide) rfl) ?_
  refine ASeq.gq _ _ rfl rfl rfl rfl (QOp.loadM 2 rfl rfl rfl (tok _ rfl) rfl) ?_
  refine ASeq.gq _ _ rfl rfl rfl rfl (QOp.indexM rfl rfl rfl (tok _ rfl) rfl (tok _ rfl) (by decide) (by decide) rfl) ?_
  refine ASeq.gq _ _ rfl rfl rfl rfl (QOp.loadM 0 rfl rfl rfl (tok _ rfl) rfl) ?_
  refine ASeq.gq _ _ rfl rfl rfl rfl (QOp.indexI rfl rfl rfl (tok _ rfl) rfl (tok _ rfl) (by decide) (by rfl)) ?_
  refine ASeq.gq _ _ rfl rfl rfl rfl (QOp.loadI rfl rfl (tok _ rfl) rfl) ?_
  refine ASeq.gq _ _ rfl rfl rfl rfl (QOp.cmp rfl rfl rfl rfl) ?_
  refine ASeq.q rfl rfl (QOp.pickT rfl rfl rfl) ?_
  refine ASeq.q rfl rfl (QOp.move rfl rfl) ?_
  refine ASeq.gq _ _ rfl rfl rfl rfl (QOp.fieldM rfl rfl (tok _ rfl) rfl rfl (by decide) rfl) ?_
  refine ASeq.gq _ _ rfl rfl rfl rfl (QOp.loadM 2 rfl rfl rfl (tok _ rfl) rfl) ?_
  refine ASeq.gq _ _ rfl rfl rfl rfl (QOp.indexM rfl rfl rfl (tok _ rfl) rfl (tok _ rfl) (by decide) (by decide) rfl) ?_
  refine ASeq.gq _ _ rfl rfl rfl rfl (QOp.loadM 0 rfl rfl rfl (tok _ rfl) rfl) ?_
  refine ASeq.gq _ _ rfl rfl rfl rfl (QOp.indexI rfl rfl rfl (tok _ rfl) rfl (tok _ rfl) (by decide) (by rfl)) ?_
  refine ASeq.gq _ _ rfl rfl rfl rfl (QOp.loadI rfl rfl (tok _ rfl) rfl) ?_
  refine ASeq.gq _ _ rfl rfl rfl rfl (QOp.cmp rfl rfl rfl rfl) ?_
  refine ASeq.q rfl rfl (QOp.pickT rfl rfl rfl) ?_
  refine ASeq.q rfl rfl (QOp.move rfl rfl) ?_
  refine ASeq.gq _ _ rfl rfl rfl rfl (QOp.fieldM rfl rfl (tok _ rfl) rfl rfl (by decide) rfl) ?_
  refine ASeq.gq _ _ rfl rfl rfl rfl (QOp.loadM 2 rfl rfl rfl (tok _ rfl) rfl) ?_
  refine ASeq.gq _ _ rfl rfl rfl rfl (QOp.indexM rfl rfl rfl (tok _ rfl) rfl (tok _ rfl) (by decide) (by decide) rfl) ?_
  refine ASeq.gq _ _ rfl rfl rfl rfl (QOp.loadM 0 rfl rfl rfl (tok _ rfl) rfl) ?_
  refine ASeq.gq _ _ rfl rfl rfl rfl (QOp.lenI rfl rfl (tok _ rfl) rfl) ?_
  refine ASeq.gq _ _ rfl rfl rfl rfl (QOp.cmp rfl rfl rfl rfl) ?_
  refine ASeq.q rfl rfl (QOp.pickT rfl rfl rfl) ?_
  refine ASeq.q rfl rfl (QOp.move rfl rfl) ?_
  refine ASeq.gq _ _ rfl rfl rfl rfl (QOp.fieldM rfl rfl (tok _ rfl) rfl rfl (by decide) rfl) ?_
  refine ASeq.gq _ _ rfl rfl rfl rfl (QOp.loadM 2 rfl rfl rfl (tok _ rfl) rfl) ?_
  refine ASeq.gq _ _ rfl rfl rfl rfl (QOp.indexM rfl rfl rfl (tok _ rfl) rfl (tok _ rfl) (by decide) (by decide) rfl) ?_
  refine ASeq.gq _ _ rfl rfl rfl rfl (QOp.loadM 0 rfl rfl rfl (tok _ rfl) rfl) ?_
  refine ASeq.gq _ _ rfl rfl rfl rfl (QOp.indexI rfl rfl rfl (tok _ rfl) rfl (tok _ rfl) (by decide) (by rfl)) ?_
  refine ASeq.gq _ _ rfl rfl rfl rfl (QOp.loadI rfl rfl (tok _ rfl) rfl) ?_
  refine ASeq.gq _ _ rfl rfl rfl rfl (QOp.cmp rfl rfl rfl rfl) ?_
  refine ASeq.q rfl rfl (QOp.pickT rfl rfl rfl) ?_
  refine ASeq.q rfl rfl (QOp.assign rfl rfl) ?_
  refine ASeq.nil ?_
  refine ACode.ret ?_
  refine bodyQ_ret 0 (.tmp rfl .nil) rfl ?_
  exact .mk
end Go.Proofs.Ytaadamobapnfbaa
/- FlowGraphs: the walk. -/
set_option linter.unusedVariables false
set_option linter.unusedSimpArgs false
set_option maxRecDepth 1000000
namespace Go.Proofs.Ytaadamobapnfbaa
open Go Go.Abs
theorem RightT.all {s : ByteArray} {t : Tree} {R : Nat → Nat} (h : RightT s t R) : ACalls Try.prog 17 [.agg t.cells] [] (RA t) := by
  obtain ⟨h1, h2, h3, h4⟩ := h.ok
  exact all_walk t R h1 h.fr h3
theorem sameI_refl (l : List Int) : sameI l l = true := (sameI_eq l l).2 rfl
theorem nxrows_get {ws : List (List Int)} {i : Nat} (h : i < ws.length) : (nxrows ws)[i]? = some [nxc ws[i]] := by
  simp only [nxrows, List.getElem?_map, List.getElem?_eq_getElem h, Option.map_some]
theorem nx_get {nx : List (List Int)} {i : Nat} (h : i < nx.length) : (nx.map nxc)[0 + i * 1]? = some (nxc nx[i]) := by
  rw [Nat.zero_add, Nat.mul_one, List.getElem?_map, List.getElem?_eq_getElem h]; rfl
theorem way_len (t : Tree) (d : Ctx) : (way t d).length ≤ 2 := by
  unfold way; repeat' split
  all_goals simp
theorem FlowOk.small {t : Tree} {R : Nat → Nat} (hR : FR t R) {nx : List (List Int)} (h : FlowOk t nx) {i : Nat} (hi : i < nx.length) : nx[i].length ≤ 2 := by
  obtain ⟨k, d, hk, hin, hd⟩ := hR.ex (i := i) (by rw [← h.len]; exact hi)
  have := h.ways k d hin
  rw [hd, Int.toNat_natCast, List.getElem?_eq_getElem hi] at this
  rw [Option.some.inj this]; exact way_len t d
theorem firsts_len (t : Tree) : (firsts t).length = t.funcs.length := by simp [firsts]
theorem firsts_get {t : Tree} {i : Nat} (h : i < t.funcs.length) : (ints (firsts t))[i]? = some [vi (firstOf t.funcs[i].body (-1))] := by
  have : i < (firsts t).length := by rw [firsts_len]; exact h
  rw [ints_get this]; simp [firsts]
set_option maxHeartbeats 1000000 in
theorem flowGraphs_walk (s : ByteArray) : ACalls Try.prog 3 [vs s] [] (RV (.v (.bool true)) []) := by
  have haw := awake7_walk
  have hri := right_walk s
  refine ACalls.of_code (c := _) Try.func3 rfl Try.ntmps3 (Nat.le_of_ble_eq_true rfl) ?_
  refine ACode.seq (ACode.region ?_)
  refine ASeq.q rfl rfl (QOp.assign rfl rfl) ?_
  refine ASeq.nil ?_
  refine ACode.seq (ACode.seq (ACode.region ?_))
  refine ASeq.op rfl rfl (AOp.callP 0 rfl (by kernel_rfl) rfl rfl rfl (haw) ?_ (by rintro _ _ ⟨⟩))
  rintro _ _ ⟨⟩
  refine ASeq.q rfl rfl (QOp.not rfl rfl) ?_
  refine ASeq.nil ?_
  refine AExit.then_normal ?_
  refine ACode.cond _ rfl (fun hb => by cases hb) (fun _ => ?_)
  refine ACode.skip (ACode.seq (ACode.region ?_))
  refine ASeq.q rfl rfl (QOp.move rfl rfl) ?_
  refine ASeq.op rfl rfl (AOp.callP 0 rfl (by kernel_rfl) rfl rfl rfl (hri) ?_ (by rintro _ _ ⟨⟩))
  rintro _ _ ⟨⟩
  refine ASeq.q rfl rfl (QOp.move rfl rfl) ?_
  refine ASeq.q rfl rfl (QOp.extract rfl rfl rfl) ?_
  refine ASeq.q rfl rfl (QOp.extract rfl rfl rfl) ?_
  refine ASeq.op rfl rfl (AOp.allocP rfl (tok _ rfl) rfl rfl (fun _ => rfl) (fun _ => ?_))
  refine ASeq.op0 rfl rfl (AOp.storeP 0 rfl rfl rfl rfl (tok _ rfl) rfl rfl rfl rfl ?_)
  refine ASeq.q rfl rfl (QOp.assign rfl rfl) ?_
  refine ASeq.nil ?_
  rename_i m3
  refine ACode.seq (ACode.seq (ACode.region ?_))
  refine ASeq.q rfl rfl (QOp.move rfl rfl) ?_
  refine ASeq.q rfl rfl (QOp.not rfl rfl) ?_
  refine ASeq.nil ?_
  refine AExit.then_normal ?_
  refine ACode.cond _ rfl (fun hb => ?_) (fun hb => ?_)
  · refine ACode.seq (ACode.region ?_)
    refine ASeq.q rfl rfl (QOp.assign rfl rfl) ?_
    refine ASeq.nil ?_
    refine ACode.ret (AExit.then_ret ?_)
    refine bodyQ_ret 0 (.tmp rfl .nil) rfl ?_
    exact .mk
  have hright : (rightOf s).2 = true := by simpa using hb
  obtain ⟨R, hT⟩ := rightT hright
  have hof := hT.of
  have hal := hT.all
  have hR := hT.fr
  obtain ⟨ht, hst, hJ, hfu⟩ := hT.ok
  generalize (rightOf s).1 = t at *
  have hbig := ht.big
  have hFl : (t.funcs.map Fu.cells).length = t.funcs.length := List.length_map ..
  have hfl : (ints (firsts t)).length = t.funcs.length := by rw [ints_len, firsts_len]
  refine ACode.skip (ACode.seq (ACode.region ?_))
  refine ASeq.q rfl rfl (QOp.loadM 0 rfl rfl rfl (tok _ rfl) rfl) ?_
  refine ASeq.op rfl rfl (AOp.callP 0 rfl (by kernel_rfl) rfl rfl rfl hof ?_ (by rintro _ _ ⟨⟩))
  rintro _ _ ⟨mN, nx, hnx⟩
  refine ASeq.op rfl rfl (AOp.allocP rfl (tok _ rfl) rfl rfl (fun _ => rfl) (fun _ => ?_))
  refine ASeq.op0 rfl rfl (AOp.storeP 2 rfl rfl rfl rfl (tok _ rfl) rfl rfl rfl rfl ?_)
  refine ASeq.nil ?_
  rename_i m5
  refine ACode.seq (ACode.region ?_)
  refine ASeq.q rfl rfl (QOp.loadM 1 rfl rfl rfl (tok _ rfl) rfl) ?_
  refine ASeq.op rfl rfl (AOp.callP 0 rfl (by kernel_rfl) rfl rfl rfl hal ?_ (by rintro _ _ ⟨⟩))
  rintro _ _ ⟨ws, hwl, hws⟩
  have hsame := FR.same hnx hwl hws
  subst hsame
  have hnl := nxrows_len nx
  have hlen := hnx.len
  refine ASeq.q rfl rfl (QOp.assign rfl rfl) ?_
  refine ASeq.nil ?_
  refine ACode.seq (ACode.seq (ACode.region ?_))
  have e1 : ((t.stmts.length : Int) != ((nxrows nx).length : Int)) = false := by rw [hnl, hlen]; simp
  have e2 : (((ints (firsts t)).length : Int) != ((t.funcs.map Fu.cells).length : Int)) = false := by rw [hfl, hFl]; simp
  refine ASeq.q rfl rfl (QOp.fieldM rfl rfl (tok _ rfl) rfl rfl (by decide) rfl) ?_
  refine ASeq.q rfl rfl (QOp.loadM 2 rfl rfl rfl (tok _ rfl) rfl) ?_
  refine ASeq.q rfl rfl (QOp.lenM rfl rfl (tok _ rfl) rfl) ?_
  refine ASeq.q rfl rfl (QOp.move rfl rfl) ?_
  refine ASeq.q rfl rfl (QOp.lenI rfl rfl (tok _ rfl) rfl) ?_
  refine ASeq.q rfl rfl (QOp.cmp rfl rfl rfl rfl) ?_
  refine ASeq.slot 29 rfl (v' := .v (.bool false)) (by show AV.Le (.v (.bool ((t.stmts.length : Int) != ((nxrows nx).length : Int)))) _; rw [e1]; exact .refl _) ?_
  refine ASeq.q rfl rfl (QOp.move rfl rfl) ?_
  refine ASeq.gq _ _ rfl rfl rfl rfl (QOp.fieldM rfl rfl (tok _ rfl) rfl rfl (by decide) rfl) ?_
  refine ASeq.gq _ _ rfl rfl rfl rfl (QOp.loadM 2 rfl rfl rfl (tok _ rfl) rfl) ?_
  refine ASeq.gq _ _ rfl rfl rfl rfl (QOp.lenI rfl rfl (tok _ rfl) rfl) ?_
  refine ASeq.gq _ _ rfl rfl rfl rfl (QOp.fieldM rfl rfl (tok _ rfl) rfl rfl (by decide) rfl) ?_
  refine ASeq.gq _ _ rfl rfl rfl rfl (QOp.loadM 1 rfl rfl rfl (tok _ rfl) rfl) ?_
  refine ASeq.gq _ _ rfl rfl rfl rfl (QOp.lenI rfl rfl (tok _ rfl) rfl) ?_
  refine ASeq.gq _ _ rfl rfl rfl rfl (QOp.cmp rfl rfl rfl rfl) ?_
  refine ASeq.slot 37 rfl (v' := .v (.bool false)) (by show AV.Le (.v (.bool (((ints (firsts t)).length : Int) != ((t.funcs.map Fu.cells).length : Int)))) _; rw [e2]; exact .refl _) ?_
  refine ASeq.q rfl rfl (QOp.pickF rfl rfl rfl) ?_
  refine ASeq.nil ?_
  refine AExit.then_normal ?_
  refine ACode.cond _ rfl (fun hb => by cases hb) (fun _ => ?_)
  refine ACode.skip (ACode.seq (ACode.seq (ACode.region ?_)))
  refine ASeq.q rfl rfl (QOp.move rfl rfl) ?_
  refine ASeq.q rfl rfl (QOp.lenI rfl rfl (tok _ rfl) rfl) ?_
  refine ASeq.q rfl rfl (QOp.move rfl rfl) ?_
  refine ASeq.nil ?_
  refine ACode.block ?_
  refine ACode.loopP (fun (i : Nat) => [(3, .mp m3 0), (5, .mp m5 0), (6, .il 1 none (nxrows nx)), (40, vi ((nxrows nx).length : Int)), (41, vi i)])
    (fun _ => [.mu mN (nx.map nxc), .mu m3 t.cells, .mu m5 [.il 1 none (ints (firsts t)), .sl 1 mN 0 t.stmts.length]]) (fun i => nx.length - i) (fun i => i ≤ nx.length) 0 (Nat.zero_le _)
    (.cons rfl (.cons rfl (.cons rfl (.cons rfl (.cons rfl .nil))))) 3 rfl ?_
  intro i hi
  refine ACode.seq (ACode.region ?_)
  refine ASeq.q rfl rfl (QOp.cmp rfl rfl rfl rfl) ?_
  refine ASeq.nil ?_
  refine ACode.seq ?_
  refine ACode.cond _ rfl (fun hb => ?_) (fun hb => ?_)
  · have hlt : i < nx.length := by have := of_decide_eq_true hb; rw [hnl] at this; omega
    have g1 := nxrows_get hlt
    have g2 := nx_get hlt
    have hio := ints_ok nx[i] nx[i] none none (by have := hnx.small hR hlt; omega)
    rw [sameI_refl] at hio
    refine ACode.skip (ACode.seq (ACode.block (ACode.seq (ACode.region ?_))))
    refine ASeq.q rfl rfl (QOp.move rfl rfl) ?_
    refine ASeq.q rfl rfl (QOp.assign rfl rfl) ?_
    refine ASeq.nil ?_
    refine ACode.seq ?_
    refine ACode.drawn [[], [0], [], [0, 1, 2], [0, 1, 2, 3], [], [], [5, 6], [5, 6, 7], [0, 1, 2, 3, 4, 5, 6, 7, 8], [0, 1, 2, 3, 4, 5, 6, 7, 8, 9]] (by kernel_rfl) mixed ?_
    refine DAny.qu 0 rfl rfl (by kernel_rfl) rfl (fun _ => .does _ _ rfl (.none rfl) (QOp.fieldM rfl rfl (tok _ rfl) rfl rfl (by decide) rfl)) ?_
    refine DAny.ld 1 rfl rfl (by kernel_rfl) rfl (.does _ _ rfl (.none rfl) (QOp.loadM 2 rfl rfl rfl (tok _ rfl) rfl)) ?_
    refine DAny.qu 2 rfl rfl (by kernel_rfl) rfl (fun _ => .does _ _ rfl (.none rfl) (QOp.move rfl rfl)) ?_
    refine DAny.qu 3 rfl rfl (by kernel_rfl) rfl (fun _ => .does _ _ rfl (.none rfl) (QOp.indexM rfl rfl rfl (tok _ rfl) rfl (tok _ rfl) (by omega) (by omega) rfl)) ?_
    refine DAny.ld 4 rfl rfl (by kernel_rfl) rfl (.does _ _ rfl (.none rfl) (QOp.loadAt 0 rfl rfl rfl (tok _ rfl) rfl (by assumption))) ?_
    refine DAny.qu 5 rfl rfl (by kernel_rfl) rfl (fun _ => .does _ _ rfl (.none rfl) (QOp.move rfl rfl)) ?_
    refine DAny.qu 6 rfl rfl (by kernel_rfl) rfl (fun _ => .does _ _ rfl (.none rfl) (QOp.move rfl rfl)) ?_
    refine DAny.qu 7 rfl rfl (by kernel_rfl) rfl (fun _ => .does _ _ rfl (.none rfl) (QOp.indexI rfl rfl rfl (tok _ rfl) rfl (tok _ rfl) (by omega) (by assumption))) ?_
    refine DAny.qu 8 rfl rfl (by kernel_rfl) rfl (fun _ => .does _ _ rfl (.none rfl) (QOp.loadI rfl rfl (tok _ rfl) rfl)) ?_
    refine DAny.ef 9 rfl (by kernel_rfl) (.none rfl) rfl rfl (AOp.callP 0 rfl (by kernel_rfl) rfl rfl rfl (hio) ?_ (by rintro _ _ ⟨⟩))
    rintro _ _ ⟨⟩
    refine ⟨(by ((exact AllQ.nil))), ?_⟩
    refine DAny.qu 10 rfl rfl (by kernel_rfl) rfl (fun _ => .does _ _ rfl (.none rfl) (QOp.not rfl rfl)) ?_
    refine DAny.done (by kernel_rfl) ?_
    refine AExit.then_normal ?_
    refine ACode.cond _ rfl (fun hb => by cases hb) (fun _ => ?_)
    refine ACode.skip (ACode.region ?_)
    refine ASeq.q rfl rfl (QOp.ar64 rfl rfl rfl rfl ⟨by omega, by omega⟩) ?_
    refine ASeq.q rfl rfl (QOp.move rfl rfl) ?_
    refine ASeq.nil ?_
    refine AExit.then_normal ?_
    exact ⟨i + 1, 3, hlt, by omega, .cons rfl (.cons rfl (.cons rfl (.cons rfl (.cons rfl .nil)))), rfl⟩
  refine ACode.exit (ACode.seq (ACode.seq (ACode.region ?_)))
  refine ASeq.q rfl rfl (QOp.fieldM rfl rfl (tok _ rfl) rfl rfl (by decide) rfl) ?_
  refine ASeq.q rfl rfl (QOp.loadM 1 rfl rfl rfl (tok _ rfl) rfl) ?_
  refine ASeq.q rfl rfl (QOp.lenI rfl rfl (tok _ rfl) rfl) ?_
  refine ASeq.q rfl rfl (QOp.move rfl rfl) ?_
  refine ASeq.nil ?_
  refine ACode.block ?_
  refine ACode.loopP (fun (i : Nat) => [(3, .mp m3 0), (5, .mp m5 0), (57, .il 6 none (t.funcs.map Fu.cells)), (58, vi ((t.funcs.map Fu.cells).length : Int)), (59, vi i)])
    (fun _ => [.mu mN (nx.map nxc), .mu m3 t.cells, .mu m5 [.il 1 none (ints (firsts t)), .sl 1 mN 0 t.stmts.length]]) (fun i => t.funcs.length - i) (fun i => i ≤ t.funcs.length) 0 (Nat.zero_le _)
    (.cons rfl (.cons rfl (.cons rfl (.cons rfl (.cons rfl .nil))))) 3 rfl ?_
  intro i hi
  refine ACode.seq (ACode.region ?_)
  refine ASeq.q rfl rfl (QOp.cmp rfl rfl rfl rfl) ?_
  refine ASeq.nil ?_
  refine ACode.seq ?_
  refine ACode.cond _ rfl (fun hb => ?_) (fun hb => ?_)
  · have hlt : i < t.funcs.length := by have := of_decide_eq_true hb; rw [hFl] at this; omega
    have hgi := fu_at hlt
    have hgf := firsts_get hlt
    have hbl := ints_len t.funcs[i].body
    refine ACode.skip (ACode.seq (ACode.block (ACode.seq (ACode.region ?_))))
    refine ASeq.q rfl rfl (QOp.move rfl rfl) ?_
    refine ASeq.q rfl rfl (QOp.indexI rfl rfl rfl (tok _ rfl) rfl (tok _ rfl) (by omega) (by assumption)) ?_
    refine ASeq.q rfl rfl (QOp.loadI rfl rfl (tok _ rfl) rfl) ?_
    refine ASeq.op rfl rfl (AOp.allocP rfl (tok _ rfl) rfl rfl (fun _ => rfl) (fun _ => ?_))
    refine ASeq.q rfl rfl (QOp.assign rfl rfl) ?_
    refine ASeq.op0 rfl rfl (AOp.storeP 3 rfl rfl rfl rfl (tok _ rfl) rfl rfl rfl rfl ?_)
    refine ASeq.nil ?_
    refine ACode.seq (ACode.region ?_)
    refine ASeq.q rfl rfl (QOp.assign rfl rfl) ?_
    refine ASeq.nil ?_
    refine AExit.then_normal ?_
    refine ACode.meet [(3, .mp m3 0), (5, .mp m5 0), (57, .il 6 none (t.funcs.map Fu.cells)), (58, vi ((t.funcs.map Fu.cells).length : Int)), (59, vi i), (8, vi i), (10, vi (firstOf t.funcs[i].body (-1)))]
      [.mu mN (nx.map nxc), .mu m3 t.cells, .mu m5 [.il 1 none (ints (firsts t)), .sl 1 mN 0 t.stmts.length]] (fun rest => ?_) ?_
    · refine ACode.seq (ACode.region ?_)
      refine ASeq.q rfl rfl (QOp.fieldM rfl rfl (tok _ rfl) rfl rfl (by decide) rfl) ?_
      refine ASeq.q rfl rfl (QOp.loadM 3 rfl rfl rfl (tok _ rfl) rfl) ?_
      refine ASeq.q rfl rfl (QOp.lenI rfl rfl (tok _ rfl) rfl) ?_
      refine ASeq.q rfl rfl (QOp.cmp rfl rfl rfl rfl) ?_
      refine ASeq.nil ?_
      refine AExit.then_normal ?_
      refine ACode.cond _ rfl (fun hb => ?_) (fun hb => ?_)
      · have hlb : 0 < t.funcs[i].body.length := by have := of_decide_eq_true hb; rw [hbl] at this; omega
        have hget := first_get hlb (-1)
        refine ACode.region ?_
        refine ASeq.q rfl rfl (QOp.fieldM rfl rfl (tok _ rfl) rfl rfl (by decide) rfl) ?_
        refine ASeq.q rfl rfl (QOp.loadM 3 rfl rfl rfl (tok _ rfl) rfl) ?_
        refine ASeq.q rfl rfl (QOp.indexI rfl rfl rfl (tok _ rfl) rfl (tok _ rfl) (by decide) (by assumption)) ?_
        refine ASeq.q rfl rfl (QOp.loadI rfl rfl (tok _ rfl) rfl) ?_
        refine ASeq.q rfl rfl (QOp.assign rfl rfl) ?_
        refine ASeq.nil ?_
        refine AExit.then_normal ?_
        exact rest.atP 3 (.cons rfl (.cons rfl (.cons rfl (.cons rfl (.cons rfl (.cons rfl (.cons rfl .nil))))))) rfl
      · have hlb : ¬ 0 < t.funcs[i].body.length := by have := of_decide_eq_false hb; rw [hbl] at this; omega
        refine ACode.skip ?_
        refine AExit.then_normal ?_
        exact rest.atP 3 (.cons rfl (.cons rfl (.cons rfl (.cons rfl (.cons rfl (.cons rfl (.consE rfl (by rw [first_nil hlb]; rfl) .nil))))))) rfl
    refine ACode.seq (ACode.region ?_)
    refine ASeq.q rfl rfl (QOp.fieldM rfl rfl (tok _ rfl) rfl rfl (by decide) rfl) ?_
    refine ASeq.q rfl rfl (QOp.loadM 2 rfl rfl rfl (tok _ rfl) rfl) ?_
    refine ASeq.q rfl rfl (QOp.move rfl rfl) ?_
    refine ASeq.q rfl rfl (QOp.indexI rfl rfl rfl (tok _ rfl) rfl (tok _ rfl) (by omega) (by assumption)) ?_
    refine ASeq.q rfl rfl (QOp.loadI rfl rfl (tok _ rfl) rfl) ?_
    refine ASeq.q rfl rfl (QOp.move rfl rfl) ?_
    refine ASeq.q rfl rfl (QOp.cmp rfl rfl rfl rfl) ?_
    refine ASeq.nil ?_
    refine AExit.then_normal ?_
    refine ACode.cond _ rfl (fun hb => by simp at hb) (fun _ => ?_)
    refine ACode.skip (ACode.region ?_)
    refine ASeq.q rfl rfl (QOp.ar64 rfl rfl rfl rfl ⟨by omega, by omega⟩) ?_
    refine ASeq.q rfl rfl (QOp.move rfl rfl) ?_
    refine ASeq.nil ?_
    refine AExit.then_normal ?_
    exact ⟨i + 1, 3, hlt, by omega, .cons rfl (.cons rfl (.cons rfl (.cons rfl (.cons rfl .nil)))), rfl⟩
  · refine ACode.exit (ACode.seq (ACode.region ?_))
    refine ASeq.q rfl rfl (QOp.assign rfl rfl) ?_
    refine ASeq.nil ?_
    refine ACode.ret ?_
    refine bodyQ_ret 0 (.tmp rfl .nil) rfl ?_
    exact .mk
end Go.Proofs.Ytaadamobapnfbaa
/- From the abstract layer's walk of a law to what its row asks for. -/
set_option linter.unusedVariables false
namespace Go.Proofs.Ytaadamobapnfbaa
open Go Go.Abs Go.RowKit
def gh0 : Gh := { per := fun _ => [], size := fun _ => 0, loc := fun _ => none, tok := fun _ => none, next := 0 }
theorem own0 (W : World) : Own gh0 [] W :=
  ⟨fun b h => absurd rfl h, fun it h => by simp at h, .nil, fun b _ => ⟨rfl, rfl⟩, fun m _ => ⟨rfl, rfl⟩, fun m b h => (by cases h), fun t p h => (by cases h)⟩
theorem law_below {f : FuncId} {args : List AV} {cargs : Array Value} (hc : ACalls Try.prog f args [] (RV (.v (.bool true)) [])) (hr : Reps gh0 args cargs) (W : World) :
    Calls Try.prog f cargs W fun e W' => e = .returned (.bool true) ∧ Below W.heap.size W W' := by
  refine (hc gh0 W cargs (own0 W) hr).mono fun e w he => ?_
  cases e with
  | returned c =>
    obtain ⟨G', R', r, hE, hO, hrep, hq⟩ := he
    cases hq
    refine ⟨by rw [hrep.v_inv], hE.os, hE.tape, hE.output, hE.size, fun k hk => (hE.same k hk ?_).1⟩
    rintro ⟨it, hi, _⟩
    simp at hi
  | panicked ch =>
    obtain ⟨G', R', x, c, h0, hE, hO, hrep, hq⟩ := he
    cases hq
  | outgrown => exact he.elim
theorem reps_string (s : ByteArray) : Reps gh0 [vs s] #[.string s] :=
  ⟨rfl, fun i x hx => by
    match i, hx with
    | 0, hx =>
      simp only [List.getElem?_cons_zero, Option.some.injEq] at hx
      exact ⟨.string s, rfl, hx ▸ .v⟩
    | i + 1, hx => simp at hx⟩
theorem owned0 : ownKnob Try.prog.godebug = none := by kernel_rfl
end Go.Proofs.Ytaadamobapnfbaa
/- The sort of the library, at this program (laid by the shelf). -/
namespace Go.Proofs
open Go.Shelf
def Try.lays189_ren : Go.Shelf.Ren := ⟨fun | 189 => 43 | 125 => 71 | 257 => 70 | 128 => 95 | 129 => 96 | 294 => 86 | 295 => 87 | 296 => 88 | 297 => 89 | 298 => 90 | 299 => 91 | 216 => 92 | 300 => 93 | 301 => 94 | 328 => 108 | 329 => 109 | 330 => 110 | 331 => 111 | 332 => 112 | 215 => 113 | 343 => 118 | n => n, fun | 28 => 30 | 3 => 3 | 46 => 139 | 0 => 0 | 51 => 165 | 53 => 167 | 4 => 4 | 183 => 158 | 182 => 157 | 131 => 162 | 5 => 5 | 9 => 9 | 218 => 180 | 222 => 184 | 228 => 189 | 229 => 190 | n => n, fun | n => n⟩
theorem Try.lays189 : Go.Proofs.Lays.n189 Try.prog Try.lays189_ren := {
  mixed := by kernel_rfl
  f125 := Try.func71.trans (congrArg some (by kernel_rfl))
  f128 := Try.func95.trans (congrArg some (by kernel_rfl))
  f129 := Try.func96.trans (congrArg some (by kernel_rfl))
  f189 := Try.func43.trans (congrArg some (by kernel_rfl))
  f215 := Try.func113.trans (congrArg some (by kernel_rfl))
  f216 := Try.func92.trans (congrArg some (by kernel_rfl))
  f257 := Try.func70.trans (congrArg some (by kernel_rfl))
  f294 := Try.func86.trans (congrArg some (by kernel_rfl))
  f295 := Try.func87.trans (congrArg some (by kernel_rfl))
  f296 := Try.func88.trans (congrArg some (by kernel_rfl))
  f297 := Try.func89.trans (congrArg some (by kernel_rfl))
  f298 := Try.func90.trans (congrArg some (by kernel_rfl))
  f299 := Try.func91.trans (congrArg some (by kernel_rfl))
  f300 := Try.func93.trans (congrArg some (by kernel_rfl))
  f301 := Try.func94.trans (congrArg some (by kernel_rfl))
  f328 := Try.func108.trans (congrArg some (by kernel_rfl))
  f329 := Try.func109.trans (congrArg some (by kernel_rfl))
  f330 := Try.func110.trans (congrArg some (by kernel_rfl))
  f331 := Try.func111.trans (congrArg some (by kernel_rfl))
  f332 := Try.func112.trans (congrArg some (by kernel_rfl))
  f343 := Try.func118.trans (congrArg some (by kernel_rfl))
  t0 := Try.underlying0
  a0 := Try.isAgg0
  z0 := Try.sizeOf0
  v0 := Try.zeroValue0
  t3 := Try.underlying3
  a3 := Try.isAgg3
  z3 := Try.sizeOf3
  v3 := Try.zeroValue3
  t4 := Try.underlying4
  a4 := Try.isAgg4
  z4 := Try.sizeOf4
  v4 := Try.zeroValue4
  t5 := Try.underlying5
  a5 := Try.isAgg5
  z5 := Try.sizeOf5
  v5 := Try.zeroValue5
  t9 := Try.underlying9
  a9 := Try.isAgg9
  z9 := Try.sizeOf9
  v9 := Try.zeroValue9
  t28 := Try.underlying30
  a28 := Try.isAgg30
  z28 := Try.sizeOf30
  v28 := Try.zeroValue30
  t46 := Try.underlying139
  a46 := Try.isAgg139
  z46 := Try.sizeOf139
  v46 := Try.zeroValue139
  t51 := Try.underlying165
  a51 := Try.isAgg165
  z51 := Try.sizeOf165
  v51 := Try.zeroValue165
  t53 := Try.underlying167
  a53 := Try.isAgg167
  z53 := Try.sizeOf167
  v53 := Try.zeroValue167
  t131 := Try.underlying162
  a131 := Try.isAgg162
  z131 := Try.sizeOf162
  v131 := Try.zeroValue162
  t182 := Try.underlying157
  a182 := Try.isAgg157
  z182 := Try.sizeOf157
  v182 := Try.zeroValue157
  t183 := Try.underlying158
  a183 := Try.isAgg158
  z183 := Try.sizeOf158
  v183 := Try.zeroValue158
  t218 := Try.underlying180
  a218 := Try.isAgg180
  z218 := Try.sizeOf180
  v218 := Try.zeroValue180
  t222 := Try.underlying184
  a222 := Try.isAgg184
  z222 := Try.sizeOf184
  v222 := Try.zeroValue184
  t228 := Try.underlying189
  a228 := Try.isAgg189
  z228 := Try.sizeOf189
  v228 := Try.zeroValue189
  t229 := Try.underlying190
  a229 := Try.isAgg190
  z229 := Try.sizeOf190
  v229 := Try.zeroValue190 }
open Go.Sort Go.RowKit in
theorem Try.slices_Sort_int (blk off cap : Nat) (zs : List Int) (w : World) (hH : Holds (Value.int .i64) w blk off zs.toArray) (hblk : blk < w.heap.size) (hsz : zs.length < 4611686018427387904) :
    Calls Try.prog 43 #[.slice (some ⟨blk, off, none⟩) zs.length cap] w fun e w' =>
      e = .returned (.tuple #[]) ∧ ∃ n os, w' = grow (putRow (Value.int .i64) (Sort.ahead w n) blk off (zs.mergeSort fun x y => decide (x ≤ y)).toArray) os := Any.slices_Sort_int Try.lays189 blk off cap zs w hH hblk hsz
end Go.Proofs
/- Reaching, on data. -/
set_option linter.unusedVariables false
set_option linter.unusedSimpArgs false
namespace Go.Proofs.Ytaadamobapnfbaa
open Go Go.Abs
/-- the ways on from a statement; none from the exit -/
def outs (nx : List (List Int)) (x : Int) : List Int := if x < 0 then [] else nx.getD x.toNat []
/-- some way of one step or more -/
inductive Rc (nx : List (List Int)) (a : Int) : Int → Prop
  | one {b : Int} (h : b ∈ outs nx a) : Rc nx a b
  | more {b c : Int} (h : Rc nx a b) (h' : c ∈ outs nx b) : Rc nx a c
theorem Rc.trans {nx : List (List Int)} {a b c : Int} (h : Rc nx a b) (h' : Rc nx b c) : Rc nx a c := by
  induction h' with
  | one h1 => exact .more h h1
  | more h1 h2 ih => exact .more ih h2
/-- what has been seen, what is to be looked at -/
structure Sk (nx : List (List Int)) (a : Int) (s todo : List Int) : Prop where
  sound : ∀ x, x ∈ s ∨ x ∈ todo → Rc nx a x
  start : ∀ y ∈ outs nx a, y ∈ s ∨ y ∈ todo
  closed : ∀ x ∈ s, ∀ y ∈ outs nx x, y ∈ s ∨ y ∈ todo
theorem Sk.init (nx : List (List Int)) (a : Int) : Sk nx a [] (outs nx a) :=
  ⟨fun x h => by rcases h with h | h; simp at h; exact .one h, fun y h => .inr h, fun x h => by simp at h⟩
theorem Sk.done {nx : List (List Int)} {a : Int} {s : List Int} (h : Sk nx a s []) (x : Int) : x ∈ s ↔ Rc nx a x := by
  constructor
  · exact fun hx => h.sound x (.inl hx)
  · intro hx
    induction hx with
    | one h1 => rcases h.start _ h1 with h2 | h2; exact h2; simp at h2
    | more h1 h2 ih => rcases h.closed _ ih _ h2 with h3 | h3; exact h3; simp at h3
theorem Sk.pass {nx : List (List Int)} {a x : Int} {s todo todo' : List Int} (h : Sk nx a s todo) (hm : ∀ y, y ∈ todo ↔ y ∈ todo' ∨ y = x) (hx : x ∈ s) : Sk nx a s todo' := by
  have key : ∀ y, y ∈ s ∨ y ∈ todo → y ∈ s ∨ y ∈ todo' := fun y hy => by
    rcases hy with hy | hy
    · exact .inl hy
    · rcases (hm y).1 hy with h1 | h1
      · exact .inr h1
      · exact .inl (h1 ▸ hx)
  exact ⟨fun y hy => h.sound y (hy.imp id fun h1 => (hm y).2 (.inl h1)), fun y hy => key y (h.start y hy), fun z hz y hy => key y (h.closed z hz y hy)⟩
theorem Sk.take {nx : List (List Int)} {a x : Int} {s todo todo' : List Int} (h : Sk nx a s todo) (hm : ∀ y, y ∈ todo ↔ y ∈ todo' ∨ y = x) : Sk nx a (x :: s) (todo' ++ outs nx x) := by
  have hx : Rc nx a x := h.sound x (.inr ((hm x).2 (.inr rfl)))
  have key : ∀ y, y ∈ s ∨ y ∈ todo → y ∈ x :: s ∨ y ∈ todo' ++ outs nx x := fun y hy => by
    rcases hy with hy | hy
    · exact .inl (List.mem_cons_of_mem _ hy)
    · rcases (hm y).1 hy with h1 | h1
      · exact .inr (List.mem_append_left _ h1)
      · exact .inl (by rw [h1]; exact List.mem_cons_self)
  refine ⟨fun y hy => ?_, fun y hy => key y (h.start y hy), fun z hz y hy => ?_⟩
  · rcases hy with hy | hy
    · rcases List.mem_cons.1 hy with rfl | hy
      · exact hx
      · exact h.sound y (.inl hy)
    · rcases List.mem_append.1 hy with hy | hy
      · exact h.sound y (.inr ((hm y).2 (.inl hy)))
      · exact .more hx hy
  · rcases List.mem_cons.1 hz with rfl | hz
    · exact .inr (List.mem_append_right _ hy)
    · exact key y (h.closed z hz y hy)
/-- how many haven't been seen -/
def unseen (n : Nat) (s : List Int) : Nat := ((List.range (n + 1)).filter fun i : Nat => !s.contains ((i : Int) - 1)).length
theorem filter_lt {α : Type} (p q : α → Bool) : ∀ (l : List α), (∀ x ∈ l, p x = true → q x = true) → (∃ x ∈ l, q x = true ∧ p x = false) → (l.filter p).length < (l.filter q).length
  | [], _, h => by obtain ⟨x, hx, _⟩ := h; simp at hx
  | y :: l, hpq, h => by
    have le : ∀ (l : List α), (∀ x ∈ l, p x = true → q x = true) → (l.filter p).length ≤ (l.filter q).length := by
      intro l
      induction l with
      | nil => intro _; simp
      | cons z l ih =>
        intro hz
        have h1 := ih (fun x hx => hz x (List.mem_cons_of_mem _ hx))
        have h2 := hz z List.mem_cons_self
        simp only [List.filter_cons]
        split
        · rename_i hp; rw [if_pos (h2 hp)]; simp; omega
        · split
          · simp; omega
          · exact h1
    have hl := le l (fun x hx => hpq x (List.mem_cons_of_mem _ hx))
    obtain ⟨x, hx, h1, h2⟩ := h
    have hy := hpq y List.mem_cons_self
    simp only [List.filter_cons]
    rcases List.mem_cons.1 hx with rfl | hx
    · rw [if_pos h1, if_neg (by rw [h2]; decide)]; simp; omega
    · have := filter_lt p q l (fun x hx => hpq x (List.mem_cons_of_mem _ hx)) ⟨x, hx, h1, h2⟩
      split
      · rename_i hp; rw [if_pos (hy hp)]; simp; omega
      · split
        · simp; omega
        · exact this
theorem unseen_lt {n : Nat} {s : List Int} {x : Int} (h0 : -1 ≤ x) (h1 : x < n) (hx : s.contains x = false) : unseen n (x :: s) < unseen n s := by
  refine filter_lt _ _ _ (fun i _ h => ?_) ⟨(x + 1).toNat, List.mem_range.2 (by omega), ?_, ?_⟩
  · simp only [List.contains_cons, Bool.not_or, Bool.and_eq_true] at h
    exact h.2
  · rw [show (((x + 1).toNat : Nat) : Int) - 1 = x by omega, hx]; rfl
  · rw [show (((x + 1).toNat : Nat) : Int) - 1 = x by omega, List.contains_cons]; simp
theorem unseen_nil (n : Nat) : unseen n [] = n + 1 := by
  unfold unseen
  have : (List.range (n + 1)).filter (fun i : Nat => !([] : List Int).contains ((i : Int) - 1)) = List.range (n + 1) := List.filter_eq_self.2 (fun _ _ => rfl)
  rw [this, List.length_range]
/-- a datum of what has been seen -/
def SeenD (s : List Int) (D : DataW Unit) : Prop := ((∃ l, D = .map l) ∧ ∀ x : Int, Maps.has D (.int .i64 x) = s.contains x) ∧ ∀ x : Int, D.atKey (.int .i64 x) (.lit (.bool false)) = .lit (.bool (s.contains x))
theorem SeenD.nil : SeenD [] (.map []) := ⟨⟨⟨[], rfl⟩, fun x => rfl⟩, fun x => rfl⟩
theorem SeenD.put {s : List Int} {D : DataW Unit} (h : SeenD s D) (x : Int) : SeenD (x :: s) (D.put (.int .i64 x) (.lit (.bool true))) := by
  obtain ⟨⟨⟨l, rfl⟩, h3⟩, h2⟩ := h
  refine ⟨⟨⟨_, rfl⟩, fun y => ?_⟩, fun y => ?_⟩
  · by_cases hy : y = x
    · subst hy
      rw [Maps.has_put_same ⟨_, rfl⟩ (by trivial)]; simp
    · rw [Maps.has_put_other (by intro h; injection h with h1 h2; exact hy h2), h3, List.contains_cons]
      rw [show (y == x) = false by simpa using hy, Bool.false_or]
  · by_cases hy : y = x
    · subst hy
      rw [Maps.atKey_put_same ⟨_, rfl⟩ (by trivial)]; simp
    · rw [Maps.atKey_put_other (by intro h; injection h with h1 h2; exact hy h2), h2, List.contains_cons]
      rw [show (y == x) = false by simpa using hy, Bool.false_or]
end Go.Proofs.Ytaadamobapnfbaa
/- slices.Index, slices.Contains. -/
set_option linter.unusedVariables false
set_option linter.unusedSimpArgs false
set_option maxRecDepth 100000
namespace Go.Proofs.Ytaadamobapnfbaa
open Go Go.Abs
def indexI (x : Int) : List Int → Int → Int
  | [], _ => -1
  | a :: l, k => if (x == a) = true then k else indexI x l (k + 1)
theorem indexI_iff (x : Int) : ∀ (l : List Int) (k : Int), 0 ≤ k → (0 ≤ indexI x l k ↔ l.contains x = true)
  | [], k, _ => by simp [indexI]
  | a :: l, k, h => by
    have ih := indexI_iff x l (k + 1) (by omega)
    unfold indexI
    rw [List.contains_cons, Bool.or_eq_true]
    by_cases hx : (x == a) = true
    · simp [hx, h]
    · rw [if_neg hx, ih]; simp [hx]
theorem indexI_ge (x : Int) (l : List Int) : decide (indexI x l 0 ≥ 0) = l.contains x := by
  have h := indexI_iff x l 0 (by decide)
  cases hc : l.contains x with
  | true => exact decide_eq_true (h.2 hc)
  | false => exact decide_eq_false fun h' => by rw [h.1 h'] at hc; cases hc
theorem index_ok (l : List Int) (tk : Option Nat) (x : Int) (hl : l.length ≤ 1048576) : ACalls Try.prog 51 [.il 1 tk (ints l), vi x] [] (RV (vi (indexI x l 0)) []) := by
  have e1 := ints_len l
  refine ACalls.of_code (c := _) Try.func51 rfl Try.ntmps51 (Nat.le_of_ble_eq_true rfl) ?_
  refine ACode.seq (ACode.region ?_)
  refine ASeq.q rfl rfl (QOp.assign rfl rfl) ?_
  refine ASeq.nil ?_
  refine ACode.seq (ACode.seq (ACode.region ?_))
  refine ASeq.q rfl rfl (QOp.move rfl rfl) ?_
  refine ASeq.q rfl rfl (QOp.lenI rfl rfl (tok _ rfl) rfl) ?_
  refine ASeq.q rfl rfl (QOp.move rfl rfl) ?_
  refine ASeq.nil ?_
  refine ACode.block ?_
  refine ACode.loopP (fun i : Nat => [(0, .il 1 tk (ints l)), (1, vi x), (7, vi ((ints l).length : Int)), (8, vi i)]) (fun _ => []) (fun i => l.length - i)
    (fun i => i ≤ l.length ∧ indexI x (l.drop i) i = indexI x l 0) 0 ⟨Nat.zero_le _, rfl⟩ (.cons rfl (.cons rfl (.cons rfl (.cons rfl .nil)))) 0 rfl ?_
  rintro i ⟨hi, he⟩
  refine ACode.seq (ACode.region ?_)
  refine ASeq.q rfl rfl (QOp.cmp rfl rfl rfl rfl) ?_
  refine ASeq.nil ?_
  refine ACode.seq ?_
  refine ACode.cond _ rfl (fun hb => ?_) (fun hb => ?_)
  · have hlt : i < l.length := by have := of_decide_eq_true hb; rw [e1] at this; omega
    have g1 := ints_get hlt
    rw [List.drop_eq_getElem_cons hlt] at he
    simp only [indexI] at he
    refine ACode.skip (ACode.seq (ACode.block (ACode.seq (ACode.region ?_))))
    refine ASeq.q rfl rfl (QOp.move rfl rfl) ?_
    refine ASeq.q rfl rfl (QOp.assign rfl rfl) ?_
    refine ASeq.nil ?_
    refine ACode.seq (ACode.region ?_)
    refine ASeq.q rfl rfl (QOp.move rfl rfl) ?_
    refine ASeq.q rfl rfl (QOp.move rfl rfl) ?_
    refine ASeq.q rfl rfl (QOp.move rfl rfl) ?_
    refine ASeq.q rfl rfl (QOp.indexI rfl rfl rfl (tok _ rfl) rfl (tok _ rfl) (by omega) (by assumption)) ?_
    refine ASeq.q rfl rfl (QOp.loadI rfl rfl (tok _ rfl) rfl) ?_
    refine ASeq.q rfl rfl (QOp.cmp rfl rfl rfl rfl) ?_
    refine ASeq.nil ?_
    refine AExit.then_normal ?_
    refine ACode.cond _ rfl (fun hb => ?_) (fun hb => ?_)
    · rw [if_pos hb] at he
      refine ACode.seq (ACode.region ?_)
      refine ASeq.q rfl rfl (QOp.move rfl rfl) ?_
      refine ASeq.q rfl rfl (QOp.assign rfl rfl) ?_
      refine ASeq.nil ?_
      refine ACode.ret (AExit.in_ret (AExit.then_ret (AExit.then_ret (AExit.in_ret (AExit.then_ret ?_)))))
      refine bodyQ_ret 0 (.tmp rfl .nil) rfl ?_
      rw [← he]; exact .mk
    · rw [if_neg (by rw [hb]; decide)] at he
      refine ACode.skip (ACode.region ?_)
      refine ASeq.q rfl rfl (QOp.ar64 rfl rfl rfl rfl ⟨by omega, by omega⟩) ?_
      refine ASeq.q rfl rfl (QOp.move rfl rfl) ?_
      refine ASeq.nil ?_
      refine AExit.then_normal ?_
      exact ⟨i + 1, 0, ⟨hlt, he⟩, by omega, .cons rfl (.cons rfl (.cons rfl (.cons rfl .nil))), rfl⟩
  · have hge : i = l.length := by have := of_decide_eq_false hb; rw [e1] at this; omega
    refine ACode.exit (ACode.seq (ACode.region ?_))
    refine ASeq.q rfl rfl (QOp.assign rfl rfl) ?_
    refine ASeq.nil ?_
    refine ACode.ret ?_
    refine bodyQ_ret 0 (.tmp rfl .nil) rfl ?_
    rw [← he, hge, List.drop_length]; exact .mk
theorem contains_ok (l : List Int) (tk : Option Nat) (x : Int) (hl : l.length ≤ 1048576) : ACalls Try.prog 34 [.il 1 tk (ints l), vi x] [] (RV (.v (.bool (l.contains x))) []) := by
  have hix := index_ok l tk x hl
  have hge := indexI_ge x l
  refine ACalls.of_code (c := _) Try.func34 rfl Try.ntmps34 (Nat.le_of_ble_eq_true rfl) ?_
  refine ACode.seq (ACode.region ?_)
  refine ASeq.q rfl rfl (QOp.assign rfl rfl) ?_
  refine ASeq.nil ?_
  refine ACode.seq (ACode.region ?_)
  refine ASeq.q rfl rfl (QOp.move rfl rfl) ?_
  refine ASeq.q rfl rfl (QOp.move rfl rfl) ?_
  refine ASeq.op rfl rfl (AOp.callP 0 rfl (by kernel_rfl) rfl rfl rfl (hix) ?_ (by rintro _ _ ⟨⟩))
  rintro _ _ ⟨⟩
  refine ASeq.q rfl rfl (QOp.cmp rfl rfl rfl rfl) ?_
  refine ASeq.q rfl rfl (QOp.assign rfl rfl) ?_
  refine ASeq.nil ?_
  refine ACode.ret ?_
  refine bodyQ_ret 0 (.tmp rfl .nil) rfl ?_
  rw [← hge]; exact .mk
end Go.Proofs.Ytaadamobapnfbaa
/- flow: Back. -/
set_option linter.unusedVariables false
set_option linter.unusedSimpArgs false
set_option maxRecDepth 100000
namespace Go.Proofs.Ytaadamobapnfbaa
open Go Go.Abs
/-- what leads to the j-th statement, of the first i ones -/
def backL (nx : List (List Int)) (i : Nat) (j : Int) : List Int := ((List.range i).filter fun f => (nx.getD f []).contains j).map Int.ofNat
def backOf (nx : List (List Int)) : List (List Int) := (List.range nx.length).map fun j : Nat => backL nx nx.length (j : Int)
def bc (p : Nat × List Int) : AV := .il 1 (some p.1) (ints p.2)
def btk (p : Nat × List Int) : Abs.Item := .tk p.1
theorem bc_get {ps : List (Nat × List Int)} {i : Nat} (h : i < ps.length) : (ps.map bc)[0 + i * 1]? = some (bc ps[i]) := by
  rw [Nat.zero_add, Nat.mul_one, List.getElem?_map, List.getElem?_eq_getElem h]; rfl
theorem nils_bc (ts : List Nat) : LeL (List.replicate ts.length [AV.v (.slice none 0 0)]).flatten ((ts.map fun t => (t, ([] : List Int))).map bc) := by
  induction ts with
  | nil => exact .nil
  | cons t ts ih => rw [List.length_cons, List.replicate_succ]; exact .cons (.nilT 1 _) ih
theorem bc_nx (ps : List (Nat × List Int)) : LeL (ps.map bc) ((ps.map (·.2)).map nxc) := by
  induction ps with
  | nil => exact .nil
  | cons p ps ih => exact .cons (.tok 1 _ _) ih
theorem btk_split {ps : List (Nat × List Int)} {j : Nat} (h : j < ps.length) (q : Nat × List Int) : ps.map btk = (ps.take j).map btk ++ .tk ps[j].1 :: (ps.drop (j + 1)).map btk ∧ (ps.take j).map btk ++ .tk q.1 :: (ps.drop (j + 1)).map btk = (ps.set j q).map btk := by
  constructor
  · rw [show (Abs.Item.tk ps[j].1 :: (ps.drop (j + 1)).map btk) = (ps.drop j).map btk by rw [List.drop_eq_getElem_cons h]; rfl, ← List.map_append, List.take_append_drop]
  · rw [List.set_eq_take_append_cons_drop, if_pos h, List.map_append]; rfl
theorem backL_succ (nx : List (List Int)) {i : Nat} (h : i < nx.length) (j : Int) : backL nx (i + 1) j = backL nx i j ++ (if nx[i].contains j = true then [(i : Int)] else []) := by
  unfold backL
  rw [List.range_succ, List.filter_append, List.map_append]
  congr 1
  simp only [List.filter_cons, List.filter_nil, List.getD_eq_getElem?_getD, List.getElem?_eq_getElem h, Option.getD_some]
  split <;> rfl
theorem backL_lt (nx : List (List Int)) (i : Nat) (j x : Int) (h : x ∈ backL nx i j) : x < i := by
  unfold backL at h
  obtain ⟨f, hf, rfl⟩ := List.mem_map.1 h
  have := List.mem_range.1 (List.mem_filter.1 hf).1
  show (f : Int) < i
  omega
theorem backL_len (nx : List (List Int)) (i : Nat) (j : Int) : (backL nx i j).length ≤ i := by
  unfold backL
  rw [List.length_map]
  exact Nat.le_trans (List.length_filter_le ..) (by simp)
inductive RB (mN n : Nat) (nx : List (List Int)) : AOut → List Abs.Item → Prop
  | mk (mO : Nat) : RB mN n nx (.ret (.sl 1 mO 0 n)) [.mu mN (nx.map nxc), .mu mO ((backOf nx).map nxc)]
def bitems (mN m1 mO n : Nat) (first : List Int) (nx : List (List Int)) (ps : List (Nat × List Int)) : List Abs.Item := [.mu mN (nx.map nxc), .mu m1 [.il 1 none (ints first), .sl 1 mN 0 n], .mu mO (ps.map bc)] ++ ps.map btk
set_option maxHeartbeats 4000000 in
theorem back_walk (first : List Int) (nx : List (List Int)) (mN n : Nat) (hn : nx.length = n) (hbig : n ≤ 1048576) (hw : ∀ w ∈ nx, w.length ≤ 2) (hgood : ∀ w ∈ nx, ∀ x ∈ w, x = -1 ∨ (0 ≤ x ∧ x < n)) :
    ACalls Try.prog 20 [.agg [.il 1 none (ints first), .sl 1 mN 0 n]] [.mu mN (nx.map nxc)] (RB mN n nx) := by
  refine ACalls.of_code (c := _) Try.func20 rfl Try.ntmps20 (Nat.le_of_ble_eq_true rfl) ?_
  refine ACode.seq (ACode.region ?_)
  refine ASeq.op rfl rfl (AOp.boxP rfl rfl rfl (fun _ => rfl) (fun _ => ?_))
  refine ASeq.q rfl rfl (QOp.assign rfl rfl) ?_
  refine ASeq.nil ?_
  rename_i m1
  refine ACode.seq (ACode.region ?_)
  refine ASeq.q rfl rfl (QOp.fieldM rfl rfl (tok _ rfl) rfl rfl (by decide) rfl) ?_
  refine ASeq.q rfl rfl (QOp.loadM 1 rfl rfl rfl (tok _ rfl) rfl) ?_
  refine ASeq.q rfl rfl (QOp.lenM rfl rfl (tok _ rfl) rfl) ?_
  refine ASeq.op rfl rfl (AOp.makeP (n := n) rfl rfl rfl (tok _ rfl) rfl (tok _ rfl) (by decide) rfl rfl (fun _ => rfl) (by omega) rfl (fun mO => ?_))
  refine ASeq.q rfl rfl (QOp.assign rfl rfl) ?_
  refine ASeq.nil ?_
  refine AExit.then_normal ?_
  refine ACode.newToks n (fun ts hts => ?_)
  have hps0 : ts.map Abs.Item.tk = (ts.map fun t => (t, ([] : List Int))).map btk := by rw [List.map_map]; rfl
  rw [hps0]
  refine ACode.cells (cells' := (ts.map fun t => (t, ([] : List Int))).map bc) [_, _] _ rfl (by rw [← hts]; exact nils_bc ts) ?_
  have hb0 : ∀ j, j < n → ((ts.map fun t => (t, ([] : List Int))).getD j (0, [])).2 = backL nx 0 (j : Int) := fun j hj => by
    rw [List.getD_eq_getElem?_getD, List.getElem?_map, List.getElem?_eq_getElem (by omega)]; rfl
  have hl0 : (ts.map fun t => (t, ([] : List Int))).length = n := by rw [List.length_map, hts]
  generalize (ts.map fun t => (t, ([] : List Int))) = ps0 at hb0 hl0
  refine ACode.seq (ACode.seq (ACode.region ?_))
  refine ASeq.q rfl rfl (QOp.fieldM rfl rfl (tok _ rfl) rfl rfl (by decide) rfl) ?_
  refine ASeq.q rfl rfl (QOp.loadM 1 rfl rfl rfl (tok _ rfl) rfl) ?_
  refine ASeq.q rfl rfl (QOp.lenM rfl rfl (tok _ rfl) rfl) ?_
  refine ASeq.q rfl rfl (QOp.move rfl rfl) ?_
  refine ASeq.nil ?_
  refine ACode.block ?_
  refine ACode.loopP (fun (x : Nat × List (Nat × List Int)) => [(1, .mp m1 0), (3, .sl 1 mO 0 n), (13, .sl 1 mN 0 n), (14, vi (n : Int)), (15, vi x.1)])
    (fun x => bitems mN m1 mO n first nx x.2) (fun x => n - x.1)
    (fun x => x.1 ≤ n ∧ x.2.length = n ∧ ∀ j, j < n → (x.2.getD j (0, [])).2 = backL nx x.1 (j : Int)) (0, ps0) ⟨Nat.zero_le _, hl0, hb0⟩
    (.cons rfl (.cons rfl (.cons rfl (.cons rfl (.cons rfl .nil))))) (bitems mN m1 mO n first nx ps0).length (takeO_all _) ?_
  rintro ⟨i, ps⟩ ⟨hi, hl, hb'⟩
  dsimp only at hi hl hb'
  refine ACode.seq (ACode.region ?_)
  refine ASeq.q rfl rfl (QOp.cmp rfl rfl rfl rfl) ?_
  refine ASeq.nil ?_
  refine ACode.seq ?_
  refine ACode.cond _ rfl (fun hb => ?_) (fun hb => ?_)
  · have hlt : i < n := by have := of_decide_eq_true hb; omega
    have hln : i < nx.length := by omega
    have g2 := nx_get hln
    have hwl := hw _ (List.getElem_mem hln)
    have hwg := hgood _ (List.getElem_mem hln)
    have hil := ints_len nx[i]
    have hbs : ∀ j : Int, backL nx (i + 1) j = backL nx i j ++ (if nx[i].contains j = true then [(i : Int)] else []) := backL_succ nx hln
    generalize nx[i] = w at g2 hwl hwg hil hbs
    refine ACode.skip (ACode.seq (ACode.block (ACode.seq (ACode.region ?_))))
    refine ASeq.q rfl rfl (QOp.move rfl rfl) ?_
    refine ASeq.q rfl rfl (QOp.indexM rfl rfl rfl (tok _ rfl) rfl (tok _ rfl) (by omega) (by omega) rfl) ?_
    refine ASeq.q rfl rfl (QOp.loadAt 0 rfl rfl rfl (tok _ rfl) rfl (by assumption)) ?_
    refine ASeq.q rfl rfl (QOp.assign rfl rfl) ?_
    refine ASeq.q rfl rfl (QOp.assign rfl rfl) ?_
    refine ASeq.nil ?_
    refine ACode.seq (ACode.region ?_)
    refine ASeq.q rfl rfl (QOp.move rfl rfl) ?_
    refine ASeq.q rfl rfl (QOp.lenI rfl rfl (tok _ rfl) rfl) ?_
    refine ASeq.q rfl rfl (QOp.move rfl rfl) ?_
    refine ASeq.nil ?_
    refine ACode.block ?_
    refine ACode.loopP (fun (x : Nat × List (Nat × List Int)) => [(1, .mp m1 0), (3, .sl 1 mO 0 n), (13, .sl 1 mN 0 n), (14, vi (n : Int)), (15, vi i), (4, vi i), (20, nxc w), (21, vi ((ints w).length : Int)), (22, vi x.1)])
      (fun x => bitems mN m1 mO n first nx x.2) (fun x => w.length - x.1)
      (fun x => x.1 ≤ w.length ∧ x.2.length = n ∧ ∀ j, j < n → (x.2.getD j (0, [])).2 = backL nx i (j : Int) ++ (if (w.take x.1).contains (j : Int) = true then [(i : Int)] else [])) (0, ps) ⟨Nat.zero_le _, hl, fun j hj => by rw [hb' j hj]; simp⟩
      (.cons rfl (.cons rfl (.cons rfl (.cons rfl (.cons rfl (.cons rfl (.cons rfl (.cons rfl (.cons rfl .nil))))))))) (bitems mN m1 mO n first nx ps).length (takeO_all _) ?_
    rintro ⟨q, ps⟩ ⟨hq, hl, hb2⟩
    dsimp only at hq hl hb2
    refine ACode.seq (ACode.region ?_)
    refine ASeq.q rfl rfl (QOp.cmp rfl rfl rfl rfl) ?_
    refine ASeq.nil ?_
    refine ACode.seq ?_
    refine ACode.cond _ rfl (fun hb => ?_) (fun hb => ?_)
    · have hlq : q < w.length := by have := of_decide_eq_true hb; rw [hil] at this; omega
      have g3 := ints_get hlq
      have hgx := hwg _ (List.getElem_mem hlq)
      have htk : ∀ j : Int, (w.take (q + 1)).contains j = ((w.take q).contains j || j == w[q]) := fun j => by
        rw [List.take_add_one, List.getElem?_eq_getElem hlq, Option.toList_some, Bool.eq_iff_iff]; simp only [List.contains_iff_mem, Bool.or_eq_true, beq_iff_eq, List.mem_append, List.mem_singleton]
      generalize w[q] = x at g3 hgx htk
      refine ACode.skip (ACode.seq (ACode.block (ACode.seq (ACode.region ?_))))
      refine ASeq.q rfl rfl (QOp.indexI rfl rfl rfl (tok _ rfl) rfl (tok _ rfl) (by omega) (by assumption)) ?_
      refine ASeq.q rfl rfl (QOp.loadI rfl rfl (tok _ rfl) rfl) ?_
      refine ASeq.q rfl rfl (QOp.assign rfl rfl) ?_
      refine ASeq.nil ?_
      refine ACode.seq (ACode.region ?_)
      refine ASeq.q rfl rfl (QOp.move rfl rfl) ?_
      refine ASeq.q rfl rfl (QOp.cmp rfl rfl rfl rfl) ?_
      refine ASeq.split 27 (x != -1) rfl (fun hx => ?_) (fun hx => ?_)
      · have hx0 : 0 ≤ x ∧ x < n := by
          have : x ≠ -1 := by simpa using hx
          omega
        have hxl : x.toNat < ps.length := by omega
        have g4 := bc_get hxl
        have hpx := hb2 x.toNat (by omega)
        rw [List.getD_eq_getElem?_getD, List.getElem?_eq_getElem hxl, Option.getD_some, show ((x.toNat : Nat) : Int) = x by omega] at hpx
        have hlen : ps[x.toNat].2.length ≤ i + 1 := by
          rw [hpx, List.length_append]
          have := backL_len nx i x
          split <;> simp <;> omega
        have hct : ps[x.toNat].2.contains (i : Int) = (w.take q).contains x := by
          rw [hpx, Bool.eq_iff_iff, List.contains_iff_mem, List.mem_append]
          constructor
          · rintro (h | h)
            · have := backL_lt nx i x _ h; omega
            · split at h
              · rename_i h'; exact h'
              · simp at h
          · intro h; right; rw [if_pos h]; simp
        have hco := contains_ok ps[x.toNat].2 (some ps[x.toNat].1) i (by omega)
        rw [hct] at hco
        refine ASeq.q rfl rfl (QOp.move rfl rfl) ?_
        refine ASeq.gq _ _ rfl rfl rfl rfl (QOp.move rfl rfl) ?_
        refine ASeq.gq _ _ rfl rfl rfl rfl (QOp.move rfl rfl) ?_
        refine ASeq.gq _ _ rfl rfl rfl rfl (QOp.indexM rfl rfl rfl (tok _ rfl) rfl (tok _ rfl) (by omega) (by omega) rfl) ?_
        refine ASeq.gq _ _ rfl rfl rfl rfl (QOp.loadAt 2 rfl rfl rfl (tok _ rfl) rfl (by assumption)) ?_
        refine ASeq.gq _ _ rfl rfl rfl rfl (QOp.move rfl rfl) ?_
        refine ASeq.gop _ _ rfl rfl rfl rfl (AOp.callP 0 rfl (by kernel_rfl) rfl rfl rfl (hco) ?_ (by rintro _ _ ⟨⟩))
        rintro _ _ ⟨⟩
        refine ASeq.gq _ _ rfl rfl rfl rfl (QOp.not rfl rfl) ?_
        refine ASeq.q rfl rfl (QOp.pickT rfl rfl rfl) ?_
        refine ASeq.nil ?_
        refine AExit.then_normal ?_
        refine ACode.cond _ rfl (fun hb => ?_) (fun hb => ?_)
        · have hnc : (w.take q).contains x = false := by simpa using hb
          have p1 := (btk_split hxl ps[x.toNat]).1
          have p2 : ∀ τ', (ps.take x.toNat).map btk ++ .tk τ' :: (ps.drop (x.toNat + 1)).map btk = (ps.set x.toNat (τ', ps[x.toNat].2 ++ [(i : Int)])).map btk := fun τ' => (btk_split hxl (τ', ps[x.toNat].2 ++ [(i : Int)])).2
          have hil2 := ints_len ps[x.toNat].2
          refine ACode.region ?_
          refine ASeq.q rfl rfl (QOp.move rfl rfl) ?_
          refine ASeq.q rfl rfl (QOp.move rfl rfl) ?_
          refine ASeq.q rfl rfl (QOp.move rfl rfl) ?_
          refine ASeq.q rfl rfl (QOp.move rfl rfl) ?_
          refine ASeq.q rfl rfl (QOp.indexM rfl rfl rfl (tok _ rfl) rfl (tok _ rfl) (by omega) (by omega) rfl) ?_
          refine ASeq.q rfl rfl (QOp.loadAt 2 rfl rfl rfl (tok _ rfl) rfl (by assumption)) ?_
          refine ASeq.q rfl rfl (QOp.move rfl rfl) ?_
          refine ASeq.op rfl rfl (AOp.buildSliceR rfl (tok _ rfl) rfl (tok _ rfl) (by decide) rfl (by decide) rfl rfl rfl rfl ?_)
          refine ASeq.op rfl rfl (AOp.appendI ([.mu mN (nx.map nxc), .mu m1 [.il 1 none (ints first), .sl 1 mN 0 n], .mu mO (ps.map bc)] ++ (ps.take x.toNat).map btk) ((ps.drop (x.toNat + 1)).map btk) (e := 3) (tde := TT 3) rfl rfl rfl (tok _ rfl) rfl (tok _ rfl) (tok _ rfl) rfl (by decide) rfl rfl
            (by show [_, _, _] ++ ps.map btk = _; rw [p1, List.append_assoc]) (ints_rows _ _) (by rw [hil2]; simp only [List.length_cons, List.length_nil]; omega) (by rw [hil2]; simp only [List.length_cons, List.length_nil]; show _ * 8 ≤ _; omega) (fun τ' => ?_))
          rw [List.append_assoc, p2]
          refine ASeq.q rfl rfl (QOp.indexM rfl rfl rfl (tok _ rfl) rfl (tok _ rfl) (by omega) (by omega) rfl) ?_
          refine ASeq.op0 rfl rfl (AOp.storeAt 2 rfl rfl rfl rfl (tok _ rfl) rfl rfl (by rw [List.length_map]; show 0 + x.toNat * 1 < _; omega) rfl ?_)
          refine ASeq.nil ?_
          refine ACode.region ?_
          refine ASeq.q rfl rfl (QOp.ar64 rfl rfl rfl rfl ⟨by omega, by omega⟩) ?_
          refine ASeq.q rfl rfl (QOp.move rfl rfl) ?_
          refine ASeq.nil ?_
          refine AExit.then_normal ?_
          have hcell : (ps.map bc).set (0 + x.toNat * 1) (.il 1 (some τ') (ints ps[x.toNat].2 ++ [[vi (i : Int)]])) = (ps.set x.toNat (τ', ps[x.toNat].2 ++ [(i : Int)])).map bc := by
            rw [ints_snoc, List.map_set, Nat.zero_add, Nat.mul_one]; rfl
          refine ⟨(q + 1, ps.set x.toNat (τ', ps[x.toNat].2 ++ [(i : Int)])), (bitems mN m1 mO n first nx (ps.set x.toNat (τ', ps[x.toNat].2 ++ [(i : Int)]))).length, ⟨hlq, by dsimp only; rw [List.length_set]; exact hl, fun j hj => ?_⟩, by dsimp only; omega, .cons rfl (.cons rfl (.cons rfl (.cons rfl (.cons rfl (.cons rfl (.cons rfl (.cons rfl (.cons rfl .nil)))))))), ?_⟩
          · dsimp only
            rw [htk, List.getD_eq_getElem?_getD]
            by_cases hjx : j = x.toNat
            · subst hjx
              rw [List.getElem?_set_self (by omega), Option.getD_some, hpx, show ((x.toNat : Nat) : Int) = x by omega, hnc]
              simp
            · rw [List.getElem?_set_ne (by omega), ← List.getD_eq_getElem?_getD, hb2 j hj, show ((j : Int) == x) = false by simp; omega, Bool.or_false]
          · refine Eq.trans ?_ (takeO_all _)
            refine congrArg (takeO _) ?_
            show [_, _, .mu mO ((ps.map bc).set (0 + x.toNat * 1) (.il 1 (some τ') (ints ps[x.toNat].2 ++ [[vi (i : Int)]])))] ++ (ps.set x.toNat (τ', ps[x.toNat].2 ++ [(i : Int)])).map btk = _
            rw [hcell]; rfl
        · have hc : (w.take q).contains x = true := by simpa using hb
          refine ACode.skip (ACode.region ?_)
          refine ASeq.q rfl rfl (QOp.ar64 rfl rfl rfl rfl ⟨by omega, by omega⟩) ?_
          refine ASeq.q rfl rfl (QOp.move rfl rfl) ?_
          refine ASeq.nil ?_
          refine AExit.then_normal ?_
          refine ⟨(q + 1, ps), (bitems mN m1 mO n first nx ps).length, ⟨hlq, hl, fun j hj => ?_⟩, by dsimp only; omega, .cons rfl (.cons rfl (.cons rfl (.cons rfl (.cons rfl (.cons rfl (.cons rfl (.cons rfl (.cons rfl .nil)))))))), takeO_all _⟩
          dsimp only
          rw [hb2 j hj, htk]
          by_cases hjx : (j : Int) = x
          · rw [hjx, hc]; rfl
          · rw [show ((j : Int) == x) = false by simpa using hjx, Bool.or_false]
      · have hxe : x = -1 := by simpa using hx
        refine ASeq.q rfl rfl (QOp.move rfl rfl) ?_
        refine ASeq.gno _ _ rfl rfl rfl rfl rfl ?_
        refine ASeq.gno _ _ rfl rfl rfl rfl rfl ?_
        refine ASeq.gno _ _ rfl rfl rfl rfl rfl ?_
        refine ASeq.gno _ _ rfl rfl rfl rfl rfl ?_
        refine ASeq.gno _ _ rfl rfl rfl rfl rfl ?_
        refine ASeq.gno _ _ rfl rfl rfl rfl rfl ?_
        refine ASeq.gno _ _ rfl rfl rfl rfl rfl ?_
        refine ASeq.q rfl rfl (QOp.pickF rfl rfl rfl) ?_
        refine ASeq.nil ?_
        refine AExit.then_normal ?_
        refine ACode.cond _ rfl (fun hb => by cases hb) (fun _ => ?_)
        refine ACode.skip (ACode.region ?_)
        refine ASeq.q rfl rfl (QOp.ar64 rfl rfl rfl rfl ⟨by omega, by omega⟩) ?_
        refine ASeq.q rfl rfl (QOp.move rfl rfl) ?_
        refine ASeq.nil ?_
        refine AExit.then_normal ?_
        refine ⟨(q + 1, ps), (bitems mN m1 mO n first nx ps).length, ⟨hlq, hl, fun j hj => ?_⟩, by dsimp only; omega, .cons rfl (.cons rfl (.cons rfl (.cons rfl (.cons rfl (.cons rfl (.cons rfl (.cons rfl (.cons rfl .nil)))))))), takeO_all _⟩
        dsimp only
        rw [hb2 j hj, htk, show ((j : Int) == x) = false by simp; omega, Bool.or_false]
    · have hge : q = w.length := by have := of_decide_eq_false hb; rw [hil] at this; omega
      rw [hge, List.take_length] at hb2
      refine ACode.exit (ACode.region ?_)
      refine ASeq.q rfl rfl (QOp.ar64 rfl rfl rfl rfl ⟨by omega, by omega⟩) ?_
      refine ASeq.q rfl rfl (QOp.move rfl rfl) ?_
      refine ASeq.nil ?_
      refine AExit.then_normal ?_
      exact ⟨(i + 1, ps), (bitems mN m1 mO n first nx ps).length, ⟨hlt, hl, fun j hj => by dsimp only; rw [hb2 j hj, hbs]⟩, by dsimp only; omega, .cons rfl (.cons rfl (.cons rfl (.cons rfl (.cons rfl .nil)))), takeO_all _⟩
  · have hge : i = n := by have := of_decide_eq_false hb; omega
    have hps : ps.map (·.2) = backOf nx := by
      apply List.ext_getElem?
      intro j
      unfold backOf
      simp only [hn]
      by_cases hj : j < n
      · have := hb' j hj
        rw [List.getD_eq_getElem?_getD, List.getElem?_eq_getElem (by omega), Option.getD_some, hge] at this
        rw [List.getElem?_map, List.getElem?_eq_getElem (by omega), Option.map_some, this, List.getElem?_map, List.getElem?_range (by omega)]; rfl
      · rw [List.getElem?_eq_none (by rw [List.length_map]; omega), List.getElem?_eq_none (by rw [List.length_map, List.length_range]; omega)]
    refine ACode.exit ?_
    refine AExit.then_exit ?_
    refine AExit.then_exit ?_
    refine AExit.in_same ?_
    refine AExit.then_normal ?_
    refine ACode.cells (cells' := (backOf nx).map nxc) [_, _] _ rfl (by rw [← hps]; exact bc_nx ps) ?_
    refine ACode.seq (ACode.region ?_)
    refine ASeq.q rfl rfl (QOp.move rfl rfl) ?_
    refine ASeq.q rfl rfl (QOp.assign rfl rfl) ?_
    refine ASeq.nil ?_
    refine ACode.ret ?_
    refine ⟨_, _, [.mu mN (nx.map nxc), .mu mO ((backOf nx).map nxc)], .tmp rfl .nil, .refl _, .cons_cons _ (.cons _ (.cons_cons _ (List.nil_sublist _))), ?_⟩
    exact .mk mO
end Go.Proofs.Ytaadamobapnfbaa
/- flow: Clone, walk, Way. -/
set_option linter.unusedVariables false
set_option linter.unusedSimpArgs false
set_option maxRecDepth 100000
namespace Go.Proofs.Ytaadamobapnfbaa
open Go Go.Abs
theorem und3 : Try.prog.underlying 3 = some (.int .i64) := by kernel_rfl
theorem und4 : Try.prog.underlying 4 = some .bool := by kernel_rfl
theorem zero4 (w : World) : (zeroValue 4).run Try.prog w = .ok (.bool false) w := by kernel_rfl
theorem ints_flat (l : List Int) : (ints l).flatten = l.map vi := by
  induction l with
  | nil => rfl
  | cons x l ih => simp only [ints, List.map_cons, List.flatten_cons] at ih ⊢; rw [ih]; rfl
inductive RC52 (l : List Int) : AOut → List Abs.Item → Prop
  | mk (m : Nat) : RC52 l (.ret (.sl 1 m 0 l.length)) [.mu m (l.map vi)]
theorem clone_ok (l : List Int) (h : 0 < l.length) (hb : l.length ≤ 1048576) : ACalls Try.prog 52 [.il 1 none (ints l)] [] (RC52 l) := by
  obtain ⟨x, l', rfl⟩ : ∃ x l', l = x :: l' := by
    cases l with
    | nil => simp at h
    | cons x l' => exact ⟨x, l', rfl⟩
  have hil := ints_len (x :: l')
  refine ACalls.of_code (c := _) Try.func52 rfl Try.ntmps52 (Nat.le_of_ble_eq_true rfl) ?_
  repeat (first | (refine ACode.seq ?_) | (refine ACode.region ?_) | (refine ACode.ret ?_) | (refine ACode.skip ?_) | (refine ACode.exit ?_) | (refine ACode.block ?_) | (refine AExit.then_normal ?_) | (refine AExit.then_ret ?_) | (refine AExit.then_exit ?_) | (refine AExit.in_normal ?_) | (refine AExit.in_ret ?_) | (refine AExit.in_same ?_) | (refine AExit.in_other rfl ?_) | (refine ASeq.nil ?_))
  refine ASeq.q rfl rfl (QOp.assign rfl rfl) ?_
  refine ASeq.nil ?_
  repeat (first | (refine ACode.seq ?_) | (refine ACode.region ?_) | (refine ACode.ret ?_) | (refine ACode.skip ?_) | (refine ACode.exit ?_) | (refine ACode.block ?_) | (refine AExit.then_normal ?_) | (refine AExit.then_ret ?_) | (refine AExit.then_exit ?_) | (refine AExit.in_normal ?_) | (refine AExit.in_ret ?_) | (refine AExit.in_same ?_) | (refine AExit.in_other rfl ?_) | (refine ASeq.nil ?_))
  refine ASeq.q rfl rfl (QOp.move rfl rfl) ?_
  refine ASeq.q rfl rfl (QOp.notNil rfl rfl (tok _ rfl) rfl) ?_
  refine ASeq.nil ?_
  repeat (first | (refine ACode.seq ?_) | (refine ACode.region ?_) | (refine ACode.ret ?_) | (refine ACode.skip ?_) | (refine ACode.exit ?_) | (refine ACode.block ?_) | (refine AExit.then_normal ?_) | (refine AExit.then_ret ?_) | (refine AExit.then_exit ?_) | (refine AExit.in_normal ?_) | (refine AExit.in_ret ?_) | (refine AExit.in_same ?_) | (refine AExit.in_other rfl ?_) | (refine ASeq.nil ?_))
  refine ACode.cond _ rfl (fun hb => by cases hb) (fun _ => ?_)
  repeat (first | (refine ACode.seq ?_) | (refine ACode.region ?_) | (refine ACode.ret ?_) | (refine ACode.skip ?_) | (refine ACode.exit ?_) | (refine ACode.block ?_) | (refine AExit.then_normal ?_) | (refine AExit.then_ret ?_) | (refine AExit.then_exit ?_) | (refine AExit.in_normal ?_) | (refine AExit.in_ret ?_) | (refine AExit.in_same ?_) | (refine AExit.in_other rfl ?_) | (refine ASeq.nil ?_))
  refine ASeq.op rfl rfl (AOp.buildSliceM (cells := []) rfl (tok _ rfl) rfl (tok _ rfl) (by decide) rfl (by decide) rfl rfl rfl (fun m => ?_))
  refine ASeq.q rfl rfl (QOp.move rfl rfl) ?_
  refine ASeq.op rfl rfl (AOp.appendMP 0 (e := 3) (tde := TT 3) rfl rfl rfl rfl (tok _ rfl) rfl (tok _ rfl) (tok _ rfl) rfl (by decide) rfl rfl (fun _ => rfl) rfl (ints_row1 _) (by rw [hil]; omega) rfl (fun _ => ?_))
  rename_i m'
  refine ASeq.q rfl rfl (QOp.assign rfl rfl) ?_
  refine ASeq.nil ?_
  repeat (first | (refine ACode.seq ?_) | (refine ACode.region ?_) | (refine ACode.ret ?_) | (refine ACode.skip ?_) | (refine ACode.exit ?_) | (refine ACode.block ?_) | (refine AExit.then_normal ?_) | (refine AExit.then_ret ?_) | (refine AExit.then_exit ?_) | (refine AExit.in_normal ?_) | (refine AExit.in_ret ?_) | (refine AExit.in_same ?_) | (refine AExit.in_other rfl ?_) | (refine ASeq.nil ?_))
  refine bodyQ_ret 1 (.tmp rfl .nil) rfl ?_
  have e1 : 0 + (ints (x :: l')).length = (x :: l').length := by rw [hil]; omega
  show RC52 _ (.ret (.sl 1 m' 0 (0 + (ints (x :: l')).length))) [.mu m' ([] ++ (ints (x :: l')).flatten)]
  rw [e1, ints_flat, List.nil_append]
  exact .mk m'
inductive RW (nx : List (List Int)) (mN : Nat) (a : Int) : AOut → List Abs.Item → Prop
  | mk (mS cnt : Nat) (s : List Int) (Dm : DataW Unit) (hs : ∀ x, x ∈ s ↔ Rc nx a x) (hD : SeenD s Dm) (hc : cnt ≤ nx.length + 1) : RW nx mN a (.ret (.mpv mS)) [.mu mN (nx.map nxc), .ob mS (MapOb Try.prog 3 4 cnt Dm)]
structure NxOk (nx : List (List Int)) (n : Nat) : Prop where
  len : nx.length = n
  big : n ≤ 1048576
  pos : ∀ w ∈ nx, 0 < w.length ∧ w.length ≤ 2
  good : ∀ w ∈ nx, ∀ x ∈ w, x = -1 ∨ (0 ≤ x ∧ x < n)
theorem wf64 {x : Int} (h0 : -1 ≤ x) (h1 : x < 1048577) : (Lit.int .i64 x).wf = true := WalkArith.wf_i64 ⟨by omega, by omega⟩
set_option maxHeartbeats 4000000 in
theorem walk_walk (first : List Int) (nx : List (List Int)) (mN n : Nat) (h : NxOk nx n) (a : Int) (ha0 : 0 ≤ a) (ha1 : a < n) :
    ACalls Try.prog 35 [.agg [.il 1 none (ints first), .sl 1 mN 0 n], vi a] [.mu mN (nx.map nxc)] (RW nx mN a) := by
  have hn := h.len
  have hbig := h.big
  have hal : a.toNat < nx.length := by omega
  have ga := nx_get hal
  have hpa := h.pos _ (List.getElem_mem hal)
  have hoa : outs nx a = nx[a.toNat] := by
    unfold outs; rw [if_neg (by omega), List.getD_eq_getElem?_getD, List.getElem?_eq_getElem hal]; rfl
  have hcl := clone_ok nx[a.toNat] hpa.1 (by omega)
  have hga : ∀ x ∈ nx[a.toNat], -1 ≤ x ∧ x < n := fun x hx => by have := h.good _ (List.getElem_mem hal) x hx; omega
  rw [← hoa] at ga hcl hpa hga
  refine ACalls.of_code (c := _) Try.func35 rfl Try.ntmps35 (Nat.le_of_ble_eq_true rfl) ?_
  repeat (first | (refine ACode.seq ?_) | (refine ACode.region ?_) | (refine ACode.ret ?_) | (refine ACode.skip ?_) | (refine ACode.exit ?_) | (refine ACode.block ?_) | (refine AExit.then_normal ?_) | (refine AExit.then_ret ?_) | (refine AExit.then_exit ?_) | (refine AExit.in_normal ?_) | (refine AExit.in_ret ?_) | (refine AExit.in_same ?_) | (refine AExit.in_other rfl ?_) | (refine ASeq.nil ?_))
  refine ASeq.op rfl rfl (AOp.boxP rfl rfl rfl (fun _ => rfl) (fun _ => ?_))
  refine ASeq.q rfl rfl (QOp.assign rfl rfl) ?_
  refine ASeq.nil ?_
  rename_i m2
  repeat (first | (refine ACode.seq ?_) | (refine ACode.region ?_) | (refine ACode.ret ?_) | (refine ACode.skip ?_) | (refine ACode.exit ?_) | (refine ACode.block ?_) | (refine AExit.then_normal ?_) | (refine AExit.then_ret ?_) | (refine AExit.then_exit ?_) | (refine AExit.in_normal ?_) | (refine AExit.in_ret ?_) | (refine AExit.in_same ?_) | (refine AExit.in_other rfl ?_) | (refine ASeq.nil ?_))
  refine ASeq.op rfl rfl (AOp.makeMap (k := 3) (e := 4) rfl (fun _ => rfl) (fun mS => ?_))
  refine ASeq.q rfl rfl (QOp.assign rfl rfl) ?_
  refine ASeq.nil ?_
  repeat (first | (refine ACode.seq ?_) | (refine ACode.region ?_) | (refine ACode.ret ?_) | (refine ACode.skip ?_) | (refine ACode.exit ?_) | (refine ACode.block ?_) | (refine AExit.then_normal ?_) | (refine AExit.then_ret ?_) | (refine AExit.then_exit ?_) | (refine AExit.in_normal ?_) | (refine AExit.in_ret ?_) | (refine AExit.in_same ?_) | (refine AExit.in_other rfl ?_) | (refine ASeq.nil ?_))
  first | (refine ASeq.q rfl rfl (QOp.fieldM rfl rfl (tok _ rfl) rfl rfl (by decide) rfl) ?_) | (refine ASeq.q rfl rfl (QOp.fieldI rfl rfl (tok _ rfl) rfl rfl (by decide) rfl) ?_)
  first | (refine ASeq.q rfl rfl (QOp.loadI rfl rfl (tok _ rfl) rfl) ?_) | (refine ASeq.q rfl rfl (QOp.loadM 0 rfl rfl rfl (tok _ rfl) rfl) ?_) | (refine ASeq.q rfl rfl (QOp.loadM 1 rfl rfl rfl (tok _ rfl) rfl) ?_) | (refine ASeq.q rfl rfl (QOp.loadM 2 rfl rfl rfl (tok _ rfl) rfl) ?_) | (refine ASeq.q rfl rfl (QOp.loadM 3 rfl rfl rfl (tok _ rfl) rfl) ?_) | (refine ASeq.q rfl rfl (QOp.loadM 4 rfl rfl rfl (tok _ rfl) rfl) ?_) | (refine ASeq.q rfl rfl (QOp.loadM 5 rfl rfl rfl (tok _ rfl) rfl) ?_) | (refine ASeq.q rfl rfl (QOp.loadM 6 rfl rfl rfl (tok _ rfl) rfl) ?_) | (refine ASeq.q rfl rfl (QOp.loadM 7 rfl rfl rfl (tok _ rfl) rfl) ?_) | (refine ASeq.q rfl rfl (QOp.loadM 8 rfl rfl rfl (tok _ rfl) rfl) ?_) | (refine ASeq.q rfl rfl (QOp.loadM 9 rfl rfl rfl (tok _ rfl) rfl) ?_) | (refine ASeq.q rfl rfl (QOp.loadM 10 rfl rfl rfl (tok _ rfl) rfl) ?_) | (refine ASeq.q rfl rfl (QOp.loadM 11 rfl rfl rfl (tok _ rfl) rfl) ?_) | (refine ASeq.q rfl rfl (QOp.loadM 12 rfl rfl rfl (tok _ rfl) rfl) ?_) | (refine ASeq.q rfl rfl (QOp.loadM 13 rfl rfl rfl (tok _ rfl) rfl) ?_) | (refine ASeq.q rfl rfl (QOp.loadM 14 rfl rfl rfl (tok _ rfl) rfl) ?_) | (refine ASeq.q rfl rfl (QOp.loadM 15 rfl rfl rfl (tok _ rfl) rfl) ?_) | (refine ASeq.q rfl rfl (QOp.loadAt 0 rfl rfl rfl (tok _ rfl) rfl (by assumption)) ?_) | (refine ASeq.q rfl rfl (QOp.loadAt 1 rfl rfl rfl (tok _ rfl) rfl (by assumption)) ?_) | (refine ASeq.q rfl rfl (QOp.loadAt 2 rfl rfl rfl (tok _ rfl) rfl (by assumption)) ?_) | (refine ASeq.q rfl rfl (QOp.loadAt 3 rfl rfl rfl (tok _ rfl) rfl (by assumption)) ?_) | (refine ASeq.q rfl rfl (QOp.loadAt 4 rfl rfl rfl (tok _ rfl) rfl (by assumption)) ?_) | (refine ASeq.q rfl rfl (QOp.loadAt 5 rfl rfl rfl (tok _ rfl) rfl (by assumption)) ?_) | (refine ASeq.q rfl rfl (QOp.loadAt 6 rfl rfl rfl (tok _ rfl) rfl (by assumption)) ?_) | (refine ASeq.q rfl rfl (QOp.loadAt 7 rfl rfl rfl (tok _ rfl) rfl (by assumption)) ?_)
  refine ASeq.q rfl rfl (QOp.move rfl rfl) ?_
  first | (refine ASeq.q rfl rfl (QOp.indexI rfl rfl rfl (tok _ rfl) rfl (tok _ rfl) (by first | (decide) | (omega)) (by first | (rfl) | (assumption))) ?_) | (refine ASeq.q rfl rfl (QOp.indexM rfl rfl rfl (tok _ rfl) rfl (tok _ rfl) (by first | (decide) | (omega)) (by first | (decide) | (omega)) rfl) ?_) | (refine ASeq.q rfl rfl (QOp.indexArr rfl rfl rfl (tok _ rfl) rfl (tok _ rfl) (by decide) (by decide) rfl) ?_)
  first | (refine ASeq.q rfl rfl (QOp.loadI rfl rfl (tok _ rfl) rfl) ?_) | (refine ASeq.q rfl rfl (QOp.loadM 0 rfl rfl rfl (tok _ rfl) rfl) ?_) | (refine ASeq.q rfl rfl (QOp.loadM 1 rfl rfl rfl (tok _ rfl) rfl) ?_) | (refine ASeq.q rfl rfl (QOp.loadM 2 rfl rfl rfl (tok _ rfl) rfl) ?_) | (refine ASeq.q rfl rfl (QOp.loadM 3 rfl rfl rfl (tok _ rfl) rfl) ?_) | (refine ASeq.q rfl rfl (QOp.loadM 4 rfl rfl rfl (tok _ rfl) rfl) ?_) | (refine ASeq.q rfl rfl (QOp.loadM 5 rfl rfl rfl (tok _ rfl) rfl) ?_) | (refine ASeq.q rfl rfl (QOp.loadM 6 rfl rfl rfl (tok _ rfl) rfl) ?_) | (refine ASeq.q rfl rfl (QOp.loadM 7 rfl rfl rfl (tok _ rfl) rfl) ?_) | (refine ASeq.q rfl rfl (QOp.loadM 8 rfl rfl rfl (tok _ rfl) rfl) ?_) | (refine ASeq.q rfl rfl (QOp.loadM 9 rfl rfl rfl (tok _ rfl) rfl) ?_) | (refine ASeq.q rfl rfl (QOp.loadM 10 rfl rfl rfl (tok _ rfl) rfl) ?_) | (refine ASeq.q rfl rfl (QOp.loadM 11 rfl rfl rfl (tok _ rfl) rfl) ?_) | (refine ASeq.q rfl rfl (QOp.loadM 12 rfl rfl rfl (tok _ rfl) rfl) ?_) | (refine ASeq.q rfl rfl (QOp.loadM 13 rfl rfl rfl (tok _ rfl) rfl) ?_) | (refine ASeq.q rfl rfl (QOp.loadM 14 rfl rfl rfl (tok _ rfl) rfl) ?_) | (refine ASeq.q rfl rfl (QOp.loadM 15 rfl rfl rfl (tok _ rfl) rfl) ?_) | (refine ASeq.q rfl rfl (QOp.loadAt 0 rfl rfl rfl (tok _ rfl) rfl (by assumption)) ?_) | (refine ASeq.q rfl rfl (QOp.loadAt 1 rfl rfl rfl (tok _ rfl) rfl (by assumption)) ?_) | (refine ASeq.q rfl rfl (QOp.loadAt 2 rfl rfl rfl (tok _ rfl) rfl (by assumption)) ?_) | (refine ASeq.q rfl rfl (QOp.loadAt 3 rfl rfl rfl (tok _ rfl) rfl (by assumption)) ?_) | (refine ASeq.q rfl rfl (QOp.loadAt 4 rfl rfl rfl (tok _ rfl) rfl (by assumption)) ?_) | (refine ASeq.q rfl rfl (QOp.loadAt 5 rfl rfl rfl (tok _ rfl) rfl (by assumption)) ?_) | (refine ASeq.q rfl rfl (QOp.loadAt 6 rfl rfl rfl (tok _ rfl) rfl (by assumption)) ?_) | (refine ASeq.q rfl rfl (QOp.loadAt 7 rfl rfl rfl (tok _ rfl) rfl (by assumption)) ?_)
  refine ASeq.op rfl rfl (AOp.callP 0 rfl (by kernel_rfl) rfl rfl rfl hcl ?_ (by rintro _ _ ⟨⟩))
  rintro _ _ ⟨mo⟩
  refine ASeq.q rfl rfl (QOp.assign rfl rfl) ?_
  refine ASeq.nil ?_
  repeat (first | (refine ACode.seq ?_) | (refine ACode.region ?_) | (refine ACode.ret ?_) | (refine ACode.skip ?_) | (refine ACode.exit ?_) | (refine ACode.block ?_) | (refine AExit.then_normal ?_) | (refine AExit.then_ret ?_) | (refine AExit.then_exit ?_) | (refine AExit.in_normal ?_) | (refine AExit.in_ret ?_) | (refine AExit.in_same ?_) | (refine AExit.in_other rfl ?_) | (refine ASeq.nil ?_))
  refine ACode.loopP (fun (x : List Int × List Int × DataW Unit × Nat × Nat) => [(2, .mp m2 0), (5, .mpv mS), (6, .sl 1 x.2.2.2.2 0 x.2.1.length)])
    (fun x => [.mu x.2.2.2.2 (x.2.1.map vi), .mu mN (nx.map nxc), .mu m2 [.il 1 none (ints first), .sl 1 mN 0 n], .ob mS (MapOb Try.prog 3 4 x.2.2.2.1 x.2.2.1)]) (fun x => 3 * unseen n x.1 + x.2.1.length)
    (fun x => Sk nx a x.1 x.2.1 ∧ SeenD x.1 x.2.2.1 ∧ x.2.2.2.1 + unseen n x.1 ≤ n + 1 ∧ 3 * unseen n x.1 + x.2.1.length ≤ 3 * (n + 1) + 2 ∧ ∀ y ∈ x.2.1, -1 ≤ y ∧ y < n) ([], outs nx a, .map [], 0, mo)
    ⟨.init nx a, .nil, by dsimp only; rw [unseen_nil]; omega, by dsimp only; rw [unseen_nil]; omega, hga⟩ (.cons rfl (.cons rfl (.cons rfl .nil))) 4 rfl ?_
  rintro ⟨s, todo, Dm, cnt, mo⟩ ⟨hsk, hsd, hcnt, hmeas, hrng⟩
  dsimp only at hsk hsd hcnt hmeas hrng ⊢
  repeat (first | (refine ACode.seq ?_) | (refine ACode.region ?_) | (refine ACode.ret ?_) | (refine ACode.skip ?_) | (refine ACode.exit ?_) | (refine ACode.block ?_) | (refine AExit.then_normal ?_) | (refine AExit.then_ret ?_) | (refine AExit.then_exit ?_) | (refine AExit.in_normal ?_) | (refine AExit.in_ret ?_) | (refine AExit.in_same ?_) | (refine AExit.in_other rfl ?_) | (refine ASeq.nil ?_))
  refine ASeq.q rfl rfl (QOp.move rfl rfl) ?_
  first | (refine ASeq.q rfl rfl (QOp.lenI rfl rfl (tok _ rfl) rfl) ?_) | (refine ASeq.q rfl rfl (QOp.lenM rfl rfl (tok _ rfl) rfl) ?_) | (refine ASeq.q rfl rfl (QOp.lenS rfl rfl (tok _ rfl) rfl) ?_) | (refine ASeq.q rfl rfl (QOp.lenN rfl rfl (tok _ rfl) rfl) ?_)
  refine ASeq.q rfl rfl (QOp.cmp rfl rfl rfl rfl) ?_
  refine ASeq.nil ?_
  repeat (first | (refine ACode.seq ?_) | (refine ACode.region ?_) | (refine ACode.ret ?_) | (refine ACode.skip ?_) | (refine ACode.exit ?_) | (refine ACode.block ?_) | (refine AExit.then_normal ?_) | (refine AExit.then_ret ?_) | (refine AExit.then_exit ?_) | (refine AExit.in_normal ?_) | (refine AExit.in_ret ?_) | (refine AExit.in_same ?_) | (refine AExit.in_other rfl ?_) | (refine ASeq.nil ?_))
  refine ACode.cond _ rfl (fun hb => ?_) (fun hb => ?_)
  · obtain ⟨todo', x, rfl⟩ : ∃ todo' x, todo = todo' ++ [x] := by
      have : 0 < todo.length := by have := of_decide_eq_true hb; omega
      exact ⟨todo.dropLast, todo.getLast (by intro h; rw [h] at this; simp at this), (List.dropLast_concat_getLast _).symm⟩
    have hlen : (todo' ++ [x]).length = todo'.length + 1 := by simp
    have hto : (((todo' ++ [x]).length : Int) - 1).toNat = todo'.length := by rw [hlen]; omega
    have gx : ((todo' ++ [x]).map vi)[0 + (((todo' ++ [x]).length : Int) - 1).toNat * 1]? = some (vi x) := by
      rw [hto, Nat.zero_add, Nat.mul_one, List.map_append, List.getElem?_append_right (by simp)]; simp
    have hxr := hrng x (by simp)
    have hmem : ∀ y, y ∈ todo' ++ [x] ↔ y ∈ todo' ∨ y = x := fun y => by simp
    have hwf := wf64 hxr.1 (by omega : x < 1048577)
    have hlook := hsd.2 x
    repeat (first | (refine ACode.seq ?_) | (refine ACode.region ?_) | (refine ACode.ret ?_) | (refine ACode.skip ?_) | (refine ACode.exit ?_) | (refine ACode.block ?_) | (refine AExit.then_normal ?_) | (refine AExit.then_ret ?_) | (refine AExit.then_exit ?_) | (refine AExit.in_normal ?_) | (refine AExit.in_ret ?_) | (refine AExit.in_same ?_) | (refine AExit.in_other rfl ?_) | (refine ASeq.nil ?_))
    refine ASeq.q rfl rfl (QOp.move rfl rfl) ?_
    refine ASeq.q rfl rfl (QOp.move rfl rfl) ?_
    first | (refine ASeq.q rfl rfl (QOp.lenI rfl rfl (tok _ rfl) rfl) ?_) | (refine ASeq.q rfl rfl (QOp.lenM rfl rfl (tok _ rfl) rfl) ?_) | (refine ASeq.q rfl rfl (QOp.lenS rfl rfl (tok _ rfl) rfl) ?_) | (refine ASeq.q rfl rfl (QOp.lenN rfl rfl (tok _ rfl) rfl) ?_)
    refine ASeq.q rfl rfl (QOp.ar64 rfl rfl rfl rfl ⟨by first | (omega) | (simp only [List.length_append, List.length_map, List.length_cons, List.length_nil]; omega), by first | (omega) | (simp only [List.length_append, List.length_map, List.length_cons, List.length_nil]; omega)⟩) ?_
    first | (refine ASeq.q rfl rfl (QOp.indexI rfl rfl rfl (tok _ rfl) rfl (tok _ rfl) (by first | (decide) | (omega)) (by first | (rfl) | (assumption))) ?_) | (refine ASeq.q rfl rfl (QOp.indexM rfl rfl rfl (tok _ rfl) rfl (tok _ rfl) (by first | (decide) | (omega)) (by first | (decide) | (omega)) rfl) ?_) | (refine ASeq.q rfl rfl (QOp.indexArr rfl rfl rfl (tok _ rfl) rfl (tok _ rfl) (by decide) (by decide) rfl) ?_)
    first | (refine ASeq.q rfl rfl (QOp.loadI rfl rfl (tok _ rfl) rfl) ?_) | (refine ASeq.q rfl rfl (QOp.loadM 0 rfl rfl rfl (tok _ rfl) rfl) ?_) | (refine ASeq.q rfl rfl (QOp.loadM 1 rfl rfl rfl (tok _ rfl) rfl) ?_) | (refine ASeq.q rfl rfl (QOp.loadM 2 rfl rfl rfl (tok _ rfl) rfl) ?_) | (refine ASeq.q rfl rfl (QOp.loadM 3 rfl rfl rfl (tok _ rfl) rfl) ?_) | (refine ASeq.q rfl rfl (QOp.loadM 4 rfl rfl rfl (tok _ rfl) rfl) ?_) | (refine ASeq.q rfl rfl (QOp.loadM 5 rfl rfl rfl (tok _ rfl) rfl) ?_) | (refine ASeq.q rfl rfl (QOp.loadM 6 rfl rfl rfl (tok _ rfl) rfl) ?_) | (refine ASeq.q rfl rfl (QOp.loadM 7 rfl rfl rfl (tok _ rfl) rfl) ?_) | (refine ASeq.q rfl rfl (QOp.loadM 8 rfl rfl rfl (tok _ rfl) rfl) ?_) | (refine ASeq.q rfl rfl (QOp.loadM 9 rfl rfl rfl (tok _ rfl) rfl) ?_) | (refine ASeq.q rfl rfl (QOp.loadM 10 rfl rfl rfl (tok _ rfl) rfl) ?_) | (refine ASeq.q rfl rfl (QOp.loadM 11 rfl rfl rfl (tok _ rfl) rfl) ?_) | (refine ASeq.q rfl rfl (QOp.loadM 12 rfl rfl rfl (tok _ rfl) rfl) ?_) | (refine ASeq.q rfl rfl (QOp.loadM 13 rfl rfl rfl (tok _ rfl) rfl) ?_) | (refine ASeq.q rfl rfl (QOp.loadM 14 rfl rfl rfl (tok _ rfl) rfl) ?_) | (refine ASeq.q rfl rfl (QOp.loadM 15 rfl rfl rfl (tok _ rfl) rfl) ?_) | (refine ASeq.q rfl rfl (QOp.loadAt 0 rfl rfl rfl (tok _ rfl) rfl (by assumption)) ?_) | (refine ASeq.q rfl rfl (QOp.loadAt 1 rfl rfl rfl (tok _ rfl) rfl (by assumption)) ?_) | (refine ASeq.q rfl rfl (QOp.loadAt 2 rfl rfl rfl (tok _ rfl) rfl (by assumption)) ?_) | (refine ASeq.q rfl rfl (QOp.loadAt 3 rfl rfl rfl (tok _ rfl) rfl (by assumption)) ?_) | (refine ASeq.q rfl rfl (QOp.loadAt 4 rfl rfl rfl (tok _ rfl) rfl (by assumption)) ?_) | (refine ASeq.q rfl rfl (QOp.loadAt 5 rfl rfl rfl (tok _ rfl) rfl (by assumption)) ?_) | (refine ASeq.q rfl rfl (QOp.loadAt 6 rfl rfl rfl (tok _ rfl) rfl (by assumption)) ?_) | (refine ASeq.q rfl rfl (QOp.loadAt 7 rfl rfl rfl (tok _ rfl) rfl (by assumption)) ?_)
    refine ASeq.q rfl rfl (QOp.assign rfl rfl) ?_
    refine ASeq.nil ?_
    repeat (first | (refine ACode.seq ?_) | (refine ACode.region ?_) | (refine ACode.ret ?_) | (refine ACode.skip ?_) | (refine ACode.exit ?_) | (refine ACode.block ?_) | (refine AExit.then_normal ?_) | (refine AExit.then_ret ?_) | (refine AExit.then_exit ?_) | (refine AExit.in_normal ?_) | (refine AExit.in_ret ?_) | (refine AExit.in_same ?_) | (refine AExit.in_other rfl ?_) | (refine ASeq.nil ?_))
    refine ASeq.q rfl rfl (QOp.move rfl rfl) ?_
    refine ASeq.q rfl rfl (QOp.move rfl rfl) ?_
    first | (refine ASeq.q rfl rfl (QOp.lenI rfl rfl (tok _ rfl) rfl) ?_) | (refine ASeq.q rfl rfl (QOp.lenM rfl rfl (tok _ rfl) rfl) ?_) | (refine ASeq.q rfl rfl (QOp.lenS rfl rfl (tok _ rfl) rfl) ?_) | (refine ASeq.q rfl rfl (QOp.lenN rfl rfl (tok _ rfl) rfl) ?_)
    refine ASeq.q rfl rfl (QOp.ar64 rfl rfl rfl rfl ⟨by first | (omega) | (simp only [List.length_append, List.length_map, List.length_cons, List.length_nil]; omega), by first | (omega) | (simp only [List.length_append, List.length_map, List.length_cons, List.length_nil]; omega)⟩) ?_
    first | (refine ASeq.q rfl rfl (QOp.cutS rfl rfl (tok _ rfl) rfl rfl rfl (by omega) (by omega) (by omega)) ?_) | (refine ASeq.q rfl rfl (QOp.cutM rfl rfl rfl (tok _ rfl) rfl (tok _ rfl) (by omega) (by omega)) ?_)
    refine ASeq.q rfl rfl (QOp.assign rfl rfl) ?_
    refine ASeq.nil ?_
    refine AExit.then_normal ?_
    refine ACode.shrink todo'.length [] [_, _, _] rfl ?_
    rw [show ((todo' ++ [x]).map vi).take todo'.length = todo'.map vi by rw [List.map_append, List.take_left' (by simp)]]
    repeat (first | (refine ACode.seq ?_) | (refine ACode.region ?_) | (refine ACode.ret ?_) | (refine ACode.skip ?_) | (refine ACode.exit ?_) | (refine ACode.block ?_) | (refine AExit.then_normal ?_) | (refine AExit.then_ret ?_) | (refine AExit.then_exit ?_) | (refine AExit.in_normal ?_) | (refine AExit.in_ret ?_) | (refine AExit.in_same ?_) | (refine AExit.in_other rfl ?_) | (refine ASeq.nil ?_))
    refine ASeq.q rfl rfl (QOp.move rfl rfl) ?_
    refine ASeq.q rfl rfl (QOp.move rfl rfl) ?_
    first | (refine ASeq.q rfl rfl (QOp.lookupB 0 rfl rfl rfl rfl (tok _ rfl) rfl und3 und4 zero4 (by assumption) (by assumption)) ?_) | (refine ASeq.q rfl rfl (QOp.lookupB 1 rfl rfl rfl rfl (tok _ rfl) rfl und3 und4 zero4 (by assumption) (by assumption)) ?_) | (refine ASeq.q rfl rfl (QOp.lookupB 2 rfl rfl rfl rfl (tok _ rfl) rfl und3 und4 zero4 (by assumption) (by assumption)) ?_) | (refine ASeq.q rfl rfl (QOp.lookupB 3 rfl rfl rfl rfl (tok _ rfl) rfl und3 und4 zero4 (by assumption) (by assumption)) ?_) | (refine ASeq.q rfl rfl (QOp.lookupB 4 rfl rfl rfl rfl (tok _ rfl) rfl und3 und4 zero4 (by assumption) (by assumption)) ?_) | (refine ASeq.q rfl rfl (QOp.lookupB 5 rfl rfl rfl rfl (tok _ rfl) rfl und3 und4 zero4 (by assumption) (by assumption)) ?_)
    refine ASeq.nil ?_
    refine AExit.then_normal ?_
    refine ACode.cond _ rfl (fun hb => ?_) (fun hb => ?_)
    · have hxs : x ∈ s := by simpa using hb
      repeat (first | (refine ACode.seq ?_) | (refine ACode.region ?_) | (refine ACode.ret ?_) | (refine ACode.skip ?_) | (refine ACode.exit ?_) | (refine ACode.block ?_) | (refine AExit.then_normal ?_) | (refine AExit.then_ret ?_) | (refine AExit.then_exit ?_) | (refine AExit.in_normal ?_) | (refine AExit.in_ret ?_) | (refine AExit.in_same ?_) | (refine AExit.in_other rfl ?_) | (refine ASeq.nil ?_))
      exact ⟨(s, todo', Dm, cnt, mo), 4, ⟨hsk.pass hmem hxs, hsd, hcnt, by dsimp only; omega, fun y hy => hrng y (by simp [hy])⟩, by dsimp only; omega, .cons rfl (.cons rfl (.consE rfl (by rw [hto]; rfl) .nil)), rfl⟩
    · have hun := unseen_lt hxr.1 hxr.2 hb
      have htake := hsk.take hmem
      refine ACode.skip ?_
      repeat (first | (refine ACode.seq ?_) | (refine ACode.region ?_) | (refine ACode.ret ?_) | (refine ACode.skip ?_) | (refine ACode.exit ?_) | (refine ACode.block ?_) | (refine AExit.then_normal ?_) | (refine AExit.then_ret ?_) | (refine AExit.then_exit ?_) | (refine AExit.in_normal ?_) | (refine AExit.in_ret ?_) | (refine AExit.in_same ?_) | (refine AExit.in_other rfl ?_) | (refine ASeq.nil ?_))
      refine ASeq.q rfl rfl (QOp.move rfl rfl) ?_
      refine ASeq.q rfl rfl (QOp.move rfl rfl) ?_
      refine ASeq.op0 rfl rfl (AOp.mapUpdateB [_, _, _] [] rfl rfl rfl rfl rfl (tok _ rfl) rfl und3 und4 hwf (by unfold maxLen; omega) ?_)
      refine ASeq.nil ?_
      repeat (first | (refine ACode.seq ?_) | (refine ACode.region ?_) | (refine ACode.ret ?_) | (refine ACode.skip ?_) | (refine ACode.exit ?_) | (refine ACode.block ?_) | (refine AExit.then_normal ?_) | (refine AExit.then_ret ?_) | (refine AExit.then_exit ?_) | (refine AExit.in_normal ?_) | (refine AExit.in_ret ?_) | (refine AExit.in_same ?_) | (refine AExit.in_other rfl ?_) | (refine ASeq.nil ?_))
      refine ASeq.q rfl rfl (QOp.move rfl rfl) ?_
      refine ASeq.q rfl rfl (QOp.cmp rfl rfl rfl rfl) ?_
      refine ASeq.nil ?_
      repeat (first | (refine ACode.seq ?_) | (refine ACode.region ?_) | (refine ACode.ret ?_) | (refine ACode.skip ?_) | (refine ACode.exit ?_) | (refine ACode.block ?_) | (refine AExit.then_normal ?_) | (refine AExit.then_ret ?_) | (refine AExit.then_exit ?_) | (refine AExit.in_normal ?_) | (refine AExit.in_ret ?_) | (refine AExit.in_same ?_) | (refine AExit.in_other rfl ?_) | (refine ASeq.nil ?_))
      refine ACode.cond _ rfl (fun hb => ?_) (fun hb => ?_)
      · have hx0 : 0 ≤ x := by
          have : x ≠ -1 := by simpa using hb
          omega
        have hxl : x.toNat < nx.length := by omega
        have gn := nx_get hxl
        have hox : outs nx x = nx[x.toNat] := by
          unfold outs; rw [if_neg (by omega), List.getD_eq_getElem?_getD, List.getElem?_eq_getElem hxl]; rfl
        have hpx := h.pos _ (List.getElem_mem hxl)
        have hgx : ∀ y ∈ nx[x.toNat], -1 ≤ y ∧ y < n := fun y hy => by have := h.good _ (List.getElem_mem hxl) y hy; omega
        rw [← hox] at gn hpx hgx
        have hil := ints_len (outs nx x)
        repeat (first | (refine ACode.seq ?_) | (refine ACode.region ?_) | (refine ACode.ret ?_) | (refine ACode.skip ?_) | (refine ACode.exit ?_) | (refine ACode.block ?_) | (refine AExit.then_normal ?_) | (refine AExit.then_ret ?_) | (refine AExit.then_exit ?_) | (refine AExit.in_normal ?_) | (refine AExit.in_ret ?_) | (refine AExit.in_same ?_) | (refine AExit.in_other rfl ?_) | (refine ASeq.nil ?_))
        refine ASeq.q rfl rfl (QOp.move rfl rfl) ?_
        first | (refine ASeq.q rfl rfl (QOp.fieldM rfl rfl (tok _ rfl) rfl rfl (by decide) rfl) ?_) | (refine ASeq.q rfl rfl (QOp.fieldI rfl rfl (tok _ rfl) rfl rfl (by decide) rfl) ?_)
        first | (refine ASeq.q rfl rfl (QOp.loadI rfl rfl (tok _ rfl) rfl) ?_) | (refine ASeq.q rfl rfl (QOp.loadM 0 rfl rfl rfl (tok _ rfl) rfl) ?_) | (refine ASeq.q rfl rfl (QOp.loadM 1 rfl rfl rfl (tok _ rfl) rfl) ?_) | (refine ASeq.q rfl rfl (QOp.loadM 2 rfl rfl rfl (tok _ rfl) rfl) ?_) | (refine ASeq.q rfl rfl (QOp.loadM 3 rfl rfl rfl (tok _ rfl) rfl) ?_) | (refine ASeq.q rfl rfl (QOp.loadM 4 rfl rfl rfl (tok _ rfl) rfl) ?_) | (refine ASeq.q rfl rfl (QOp.loadM 5 rfl rfl rfl (tok _ rfl) rfl) ?_) | (refine ASeq.q rfl rfl (QOp.loadM 6 rfl rfl rfl (tok _ rfl) rfl) ?_) | (refine ASeq.q rfl rfl (QOp.loadM 7 rfl rfl rfl (tok _ rfl) rfl) ?_) | (refine ASeq.q rfl rfl (QOp.loadM 8 rfl rfl rfl (tok _ rfl) rfl) ?_) | (refine ASeq.q rfl rfl (QOp.loadM 9 rfl rfl rfl (tok _ rfl) rfl) ?_) | (refine ASeq.q rfl rfl (QOp.loadM 10 rfl rfl rfl (tok _ rfl) rfl) ?_) | (refine ASeq.q rfl rfl (QOp.loadM 11 rfl rfl rfl (tok _ rfl) rfl) ?_) | (refine ASeq.q rfl rfl (QOp.loadM 12 rfl rfl rfl (tok _ rfl) rfl) ?_) | (refine ASeq.q rfl rfl (QOp.loadM 13 rfl rfl rfl (tok _ rfl) rfl) ?_) | (refine ASeq.q rfl rfl (QOp.loadM 14 rfl rfl rfl (tok _ rfl) rfl) ?_) | (refine ASeq.q rfl rfl (QOp.loadM 15 rfl rfl rfl (tok _ rfl) rfl) ?_) | (refine ASeq.q rfl rfl (QOp.loadAt 0 rfl rfl rfl (tok _ rfl) rfl (by assumption)) ?_) | (refine ASeq.q rfl rfl (QOp.loadAt 1 rfl rfl rfl (tok _ rfl) rfl (by assumption)) ?_) | (refine ASeq.q rfl rfl (QOp.loadAt 2 rfl rfl rfl (tok _ rfl) rfl (by assumption)) ?_) | (refine ASeq.q rfl rfl (QOp.loadAt 3 rfl rfl rfl (tok _ rfl) rfl (by assumption)) ?_) | (refine ASeq.q rfl rfl (QOp.loadAt 4 rfl rfl rfl (tok _ rfl) rfl (by assumption)) ?_) | (refine ASeq.q rfl rfl (QOp.loadAt 5 rfl rfl rfl (tok _ rfl) rfl (by assumption)) ?_) | (refine ASeq.q rfl rfl (QOp.loadAt 6 rfl rfl rfl (tok _ rfl) rfl (by assumption)) ?_) | (refine ASeq.q rfl rfl (QOp.loadAt 7 rfl rfl rfl (tok _ rfl) rfl (by assumption)) ?_)
        refine ASeq.q rfl rfl (QOp.move rfl rfl) ?_
        first | (refine ASeq.q rfl rfl (QOp.indexI rfl rfl rfl (tok _ rfl) rfl (tok _ rfl) (by first | (decide) | (omega)) (by first | (rfl) | (assumption))) ?_) | (refine ASeq.q rfl rfl (QOp.indexM rfl rfl rfl (tok _ rfl) rfl (tok _ rfl) (by first | (decide) | (omega)) (by first | (decide) | (omega)) rfl) ?_) | (refine ASeq.q rfl rfl (QOp.indexArr rfl rfl rfl (tok _ rfl) rfl (tok _ rfl) (by decide) (by decide) rfl) ?_)
        first | (refine ASeq.q rfl rfl (QOp.loadI rfl rfl (tok _ rfl) rfl) ?_) | (refine ASeq.q rfl rfl (QOp.loadM 0 rfl rfl rfl (tok _ rfl) rfl) ?_) | (refine ASeq.q rfl rfl (QOp.loadM 1 rfl rfl rfl (tok _ rfl) rfl) ?_) | (refine ASeq.q rfl rfl (QOp.loadM 2 rfl rfl rfl (tok _ rfl) rfl) ?_) | (refine ASeq.q rfl rfl (QOp.loadM 3 rfl rfl rfl (tok _ rfl) rfl) ?_) | (refine ASeq.q rfl rfl (QOp.loadM 4 rfl rfl rfl (tok _ rfl) rfl) ?_) | (refine ASeq.q rfl rfl (QOp.loadM 5 rfl rfl rfl (tok _ rfl) rfl) ?_) | (refine ASeq.q rfl rfl (QOp.loadM 6 rfl rfl rfl (tok _ rfl) rfl) ?_) | (refine ASeq.q rfl rfl (QOp.loadM 7 rfl rfl rfl (tok _ rfl) rfl) ?_) | (refine ASeq.q rfl rfl (QOp.loadM 8 rfl rfl rfl (tok _ rfl) rfl) ?_) | (refine ASeq.q rfl rfl (QOp.loadM 9 rfl rfl rfl (tok _ rfl) rfl) ?_) | (refine ASeq.q rfl rfl (QOp.loadM 10 rfl rfl rfl (tok _ rfl) rfl) ?_) | (refine ASeq.q rfl rfl (QOp.loadM 11 rfl rfl rfl (tok _ rfl) rfl) ?_) | (refine ASeq.q rfl rfl (QOp.loadM 12 rfl rfl rfl (tok _ rfl) rfl) ?_) | (refine ASeq.q rfl rfl (QOp.loadM 13 rfl rfl rfl (tok _ rfl) rfl) ?_) | (refine ASeq.q rfl rfl (QOp.loadM 14 rfl rfl rfl (tok _ rfl) rfl) ?_) | (refine ASeq.q rfl rfl (QOp.loadM 15 rfl rfl rfl (tok _ rfl) rfl) ?_) | (refine ASeq.q rfl rfl (QOp.loadAt 0 rfl rfl rfl (tok _ rfl) rfl (by assumption)) ?_) | (refine ASeq.q rfl rfl (QOp.loadAt 1 rfl rfl rfl (tok _ rfl) rfl (by assumption)) ?_) | (refine ASeq.q rfl rfl (QOp.loadAt 2 rfl rfl rfl (tok _ rfl) rfl (by assumption)) ?_) | (refine ASeq.q rfl rfl (QOp.loadAt 3 rfl rfl rfl (tok _ rfl) rfl (by assumption)) ?_) | (refine ASeq.q rfl rfl (QOp.loadAt 4 rfl rfl rfl (tok _ rfl) rfl (by assumption)) ?_) | (refine ASeq.q rfl rfl (QOp.loadAt 5 rfl rfl rfl (tok _ rfl) rfl (by assumption)) ?_) | (refine ASeq.q rfl rfl (QOp.loadAt 6 rfl rfl rfl (tok _ rfl) rfl (by assumption)) ?_) | (refine ASeq.q rfl rfl (QOp.loadAt 7 rfl rfl rfl (tok _ rfl) rfl (by assumption)) ?_)
        refine ASeq.slot 36 rfl (v' := .sl 1 mo 0 todo'.length) (by show AV.Le (.sl 1 mo 0 _) _; rw [hto]; exact .refl _) ?_
        refine ASeq.op rfl rfl (AOp.appendMP 0 (e := 3) (tde := TT 3) rfl rfl rfl rfl (tok _ rfl) rfl (tok _ rfl) (tok _ rfl) rfl (by decide) rfl rfl (fun _ => rfl) (by rw [List.length_map]; exact (Nat.mul_one _).symm) (ints_row1 _) (by rw [hil]; omega) rfl (fun _ => ?_))
        rename_i mo'
        refine ASeq.q rfl rfl (QOp.assign rfl rfl) ?_
        refine ASeq.nil ?_
        repeat (first | (refine ACode.seq ?_) | (refine ACode.region ?_) | (refine ACode.ret ?_) | (refine ACode.skip ?_) | (refine ACode.exit ?_) | (refine ACode.block ?_) | (refine AExit.then_normal ?_) | (refine AExit.then_ret ?_) | (refine AExit.then_exit ?_) | (refine AExit.in_normal ?_) | (refine AExit.in_ret ?_) | (refine AExit.in_same ?_) | (refine AExit.in_other rfl ?_) | (refine ASeq.nil ?_))
        refine ⟨(x :: s, todo' ++ outs nx x, _, cnt + 1, mo'), 4, ⟨htake, hsd.put x, by dsimp only; omega, by dsimp only; rw [List.length_append]; omega, fun y hy => ?_⟩, by dsimp only; rw [List.length_append, hlen]; omega, .cons rfl (.cons rfl (.consE rfl (by show AV.sl 1 mo' 0 (todo'.length + (ints (outs nx x)).length) = _; rw [hil, List.length_append]) .nil)), ?_⟩
        · rcases List.mem_append.1 hy with hy | hy
          · exact hrng y (by simp [hy])
          · exact hgx y hy
        · show some [Abs.Item.mu mo' (todo'.map vi ++ (ints (outs nx x)).flatten), _, _, _] = _
          rw [ints_flat, ← List.map_append]; rfl
      · have hxe : x = -1 := by simpa using hb
        have hox : outs nx x = [] := by unfold outs; rw [if_pos (by omega)]
        rw [hox, List.append_nil] at htake
        refine ACode.skip ?_
        repeat (first | (refine ACode.seq ?_) | (refine ACode.region ?_) | (refine ACode.ret ?_) | (refine ACode.skip ?_) | (refine ACode.exit ?_) | (refine ACode.block ?_) | (refine AExit.then_normal ?_) | (refine AExit.then_ret ?_) | (refine AExit.then_exit ?_) | (refine AExit.in_normal ?_) | (refine AExit.in_ret ?_) | (refine AExit.in_same ?_) | (refine AExit.in_other rfl ?_) | (refine ASeq.nil ?_))
        exact ⟨(x :: s, todo', _, cnt + 1, mo), 4, ⟨htake, hsd.put x, by dsimp only; omega, by dsimp only; omega, fun y hy => hrng y (by simp [hy])⟩, by dsimp only; rw [hlen]; omega, .cons rfl (.cons rfl (.consE rfl (by rw [hto]; rfl) .nil)), rfl⟩
  · have hnil : todo = [] := by
      have := of_decide_eq_false hb
      exact List.eq_nil_of_length_eq_zero (by omega)
    subst hnil
    repeat (first | (refine ACode.seq ?_) | (refine ACode.region ?_) | (refine ACode.ret ?_) | (refine ACode.skip ?_) | (refine ACode.exit ?_) | (refine ACode.block ?_) | (refine AExit.then_normal ?_) | (refine AExit.then_ret ?_) | (refine AExit.then_exit ?_) | (refine AExit.in_normal ?_) | (refine AExit.in_ret ?_) | (refine AExit.in_same ?_) | (refine AExit.in_other rfl ?_) | (refine ASeq.nil ?_))
    refine ASeq.q rfl rfl (QOp.move rfl rfl) ?_
    refine ASeq.q rfl rfl (QOp.assign rfl rfl) ?_
    refine ASeq.nil ?_
    repeat (first | (refine ACode.seq ?_) | (refine ACode.region ?_) | (refine ACode.ret ?_) | (refine ACode.skip ?_) | (refine ACode.exit ?_) | (refine ACode.block ?_) | (refine AExit.then_normal ?_) | (refine AExit.then_ret ?_) | (refine AExit.then_exit ?_) | (refine AExit.in_normal ?_) | (refine AExit.in_ret ?_) | (refine AExit.in_same ?_) | (refine AExit.in_other rfl ?_) | (refine ASeq.nil ?_))
    refine ⟨_, _, [.mu mN (nx.map nxc), .ob mS (MapOb Try.prog 3 4 cnt Dm)], .tmp rfl .nil, .refl _, .cons _ (.cons_cons _ (.cons _ (.cons_cons _ (List.nil_sublist _)))), ?_⟩
    exact .mk mS cnt s Dm hsk.done hsd (by omega)
inductive RWay (nx : List (List Int)) (mN : Nat) (a c : Int) : AOut → List Abs.Item → Prop
  | mk (b : Bool) (h : b = true ↔ Rc nx a c) : RWay nx mN a c (.ret (.v (.bool b))) [.mu mN (nx.map nxc)]
theorem way_walk (first : List Int) (nx : List (List Int)) (mN n : Nat) (h : NxOk nx n) (a c : Int) (ha0 : 0 ≤ a) (ha1 : a < n) (hc0 : -1 ≤ c) (hc1 : c < n) :
    ACalls Try.prog 21 [.agg [.il 1 none (ints first), .sl 1 mN 0 n], vi a, vi c] [.mu mN (nx.map nxc)] (RWay nx mN a c) := by
  have hww := walk_walk first nx mN n h a ha0 ha1
  have hbig := h.big
  have hwf := wf64 hc0 (by omega : c < 1048577)
  refine ACalls.of_code (c := _) Try.func21 rfl Try.ntmps21 (Nat.le_of_ble_eq_true rfl) ?_
  repeat (first | (refine ACode.seq ?_) | (refine ACode.region ?_) | (refine ACode.ret ?_) | (refine ACode.skip ?_) | (refine ACode.exit ?_) | (refine ACode.block ?_) | (refine AExit.then_normal ?_) | (refine AExit.then_ret ?_) | (refine AExit.then_exit ?_) | (refine AExit.in_normal ?_) | (refine AExit.in_ret ?_) | (refine AExit.in_same ?_) | (refine AExit.in_other rfl ?_) | (refine ASeq.nil ?_))
  refine ASeq.op rfl rfl (AOp.boxP rfl rfl rfl (fun _ => rfl) (fun _ => ?_))
  refine ASeq.q rfl rfl (QOp.assign rfl rfl) ?_
  refine ASeq.nil ?_
  rename_i m3
  repeat (first | (refine ACode.seq ?_) | (refine ACode.region ?_) | (refine ACode.ret ?_) | (refine ACode.skip ?_) | (refine ACode.exit ?_) | (refine ACode.block ?_) | (refine AExit.then_normal ?_) | (refine AExit.then_ret ?_) | (refine AExit.then_exit ?_) | (refine AExit.in_normal ?_) | (refine AExit.in_ret ?_) | (refine AExit.in_same ?_) | (refine AExit.in_other rfl ?_) | (refine ASeq.nil ?_))
  first | (refine ASeq.q rfl rfl (QOp.loadI rfl rfl (tok _ rfl) rfl) ?_) | (refine ASeq.q rfl rfl (QOp.loadM 0 rfl rfl rfl (tok _ rfl) rfl) ?_) | (refine ASeq.q rfl rfl (QOp.loadM 1 rfl rfl rfl (tok _ rfl) rfl) ?_) | (refine ASeq.q rfl rfl (QOp.loadM 2 rfl rfl rfl (tok _ rfl) rfl) ?_) | (refine ASeq.q rfl rfl (QOp.loadM 3 rfl rfl rfl (tok _ rfl) rfl) ?_) | (refine ASeq.q rfl rfl (QOp.loadM 4 rfl rfl rfl (tok _ rfl) rfl) ?_) | (refine ASeq.q rfl rfl (QOp.loadM 5 rfl rfl rfl (tok _ rfl) rfl) ?_) | (refine ASeq.q rfl rfl (QOp.loadM 6 rfl rfl rfl (tok _ rfl) rfl) ?_) | (refine ASeq.q rfl rfl (QOp.loadM 7 rfl rfl rfl (tok _ rfl) rfl) ?_) | (refine ASeq.q rfl rfl (QOp.loadM 8 rfl rfl rfl (tok _ rfl) rfl) ?_) | (refine ASeq.q rfl rfl (QOp.loadM 9 rfl rfl rfl (tok _ rfl) rfl) ?_) | (refine ASeq.q rfl rfl (QOp.loadM 10 rfl rfl rfl (tok _ rfl) rfl) ?_) | (refine ASeq.q rfl rfl (QOp.loadM 11 rfl rfl rfl (tok _ rfl) rfl) ?_) | (refine ASeq.q rfl rfl (QOp.loadM 12 rfl rfl rfl (tok _ rfl) rfl) ?_) | (refine ASeq.q rfl rfl (QOp.loadM 13 rfl rfl rfl (tok _ rfl) rfl) ?_) | (refine ASeq.q rfl rfl (QOp.loadM 14 rfl rfl rfl (tok _ rfl) rfl) ?_) | (refine ASeq.q rfl rfl (QOp.loadM 15 rfl rfl rfl (tok _ rfl) rfl) ?_) | (refine ASeq.q rfl rfl (QOp.loadAt 0 rfl rfl rfl (tok _ rfl) rfl (by assumption)) ?_) | (refine ASeq.q rfl rfl (QOp.loadAt 1 rfl rfl rfl (tok _ rfl) rfl (by assumption)) ?_) | (refine ASeq.q rfl rfl (QOp.loadAt 2 rfl rfl rfl (tok _ rfl) rfl (by assumption)) ?_) | (refine ASeq.q rfl rfl (QOp.loadAt 3 rfl rfl rfl (tok _ rfl) rfl (by assumption)) ?_) | (refine ASeq.q rfl rfl (QOp.loadAt 4 rfl rfl rfl (tok _ rfl) rfl (by assumption)) ?_) | (refine ASeq.q rfl rfl (QOp.loadAt 5 rfl rfl rfl (tok _ rfl) rfl (by assumption)) ?_) | (refine ASeq.q rfl rfl (QOp.loadAt 6 rfl rfl rfl (tok _ rfl) rfl (by assumption)) ?_) | (refine ASeq.q rfl rfl (QOp.loadAt 7 rfl rfl rfl (tok _ rfl) rfl (by assumption)) ?_)
  refine ASeq.q rfl rfl (QOp.move rfl rfl) ?_
  refine ASeq.op rfl rfl (AOp.callP 1 rfl (by kernel_rfl) rfl rfl rfl hww ?_ (by rintro _ _ ⟨⟩))
  rintro _ _ ⟨mS, cnt, s, Dm, hs, hD, hc⟩
  have hlook := hD.2 c
  refine ASeq.q rfl rfl (QOp.move rfl rfl) ?_
  first | (refine ASeq.q rfl rfl (QOp.lookupB 0 rfl rfl rfl rfl (tok _ rfl) rfl und3 und4 zero4 (by assumption) (by assumption)) ?_) | (refine ASeq.q rfl rfl (QOp.lookupB 1 rfl rfl rfl rfl (tok _ rfl) rfl und3 und4 zero4 (by assumption) (by assumption)) ?_) | (refine ASeq.q rfl rfl (QOp.lookupB 2 rfl rfl rfl rfl (tok _ rfl) rfl und3 und4 zero4 (by assumption) (by assumption)) ?_) | (refine ASeq.q rfl rfl (QOp.lookupB 3 rfl rfl rfl rfl (tok _ rfl) rfl und3 und4 zero4 (by assumption) (by assumption)) ?_) | (refine ASeq.q rfl rfl (QOp.lookupB 4 rfl rfl rfl rfl (tok _ rfl) rfl und3 und4 zero4 (by assumption) (by assumption)) ?_) | (refine ASeq.q rfl rfl (QOp.lookupB 5 rfl rfl rfl rfl (tok _ rfl) rfl und3 und4 zero4 (by assumption) (by assumption)) ?_)
  refine ASeq.q rfl rfl (QOp.assign rfl rfl) ?_
  refine ASeq.nil ?_
  repeat (first | (refine ACode.seq ?_) | (refine ACode.region ?_) | (refine ACode.ret ?_) | (refine ACode.skip ?_) | (refine ACode.exit ?_) | (refine ACode.block ?_) | (refine AExit.then_normal ?_) | (refine AExit.then_ret ?_) | (refine AExit.then_exit ?_) | (refine AExit.in_normal ?_) | (refine AExit.in_ret ?_) | (refine AExit.in_same ?_) | (refine AExit.in_other rfl ?_) | (refine ASeq.nil ?_))
  refine bodyQ_ret 1 (.tmp rfl .nil) rfl ?_
  exact .mk _ (by rw [List.contains_iff_mem, hs])
end Go.Proofs.Ytaadamobapnfbaa
