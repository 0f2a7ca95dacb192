/- Own texts, put together by a program: A0 A1 A2 A3 A4 A5 A6 A7 A8 A9 Aa Ab Ac Ae Ag Ah Ai. -/
import Derived.Calls
import Derived.Laws.Sem
import Derived.Tactics
import Derived.Orders
import Derived.Laws.Entries
import Derived.IntWalk
import Derived.KernelRfl
import Derived.Laws.Rows
import Derived.Laws.CopyRow
import Derived.Deep.AppendSrc
import Derived.Laws.AppendOwn
import Derived.Laws.Strings
import Derived.Maps.Own
import Derived.Maps.Views
import Derived.Laws.IdiomCopy
set_option linter.unusedVariables false
set_option linter.unusedSimpArgs false
namespace Go.Abs

/-- Abstract values. il: a slice whose contents never change again (rows of cells); ip: an address with known contents behind it that never change;
mp: an address in a block that may change; sl: a slice over such a block. -/
inductive AV where
  | v (x : Value)
  | agg (l : List AV)
  | tup (l : List AV)
  | il (sz : Nat) (tk : Option Nat) (rows : List (List AV))
  | ip (cells : List AV)
  | mp (m k : Nat)
  | sl (sz m off len : Nat)
  | fn (f : Fn) (first captured : List AV)
  | ifc (t : TypeId) (x : AV)
  | mpv (m : Nat)
  | itv (m s b : Nat)
  | any
  deriving Inhabited

def AV.cells : AV → List AV
  | .agg l => l
  | x => [x]

/-- What the proof knows beside the world. -/
structure Gh where
  per : Nat → List AV
  size : Nat → Nat
  loc : Nat → Option Nat
  tok : Nat → Option (Nat × Nat)
  next : Nat

inductive Rep (G : Gh) : AV → Value → Prop
  | any {c} : Rep G .any c
  | v {x} : Rep G (.v x) x
  | agg {l : List AV} {cs : Array Value} (hl : l.length = cs.size) (h : ∀ i (h1 : i < l.length) (h2 : i < cs.size), Rep G l[i] cs[i]) : Rep G (.agg l) (.agg cs)
  | tup {l : List AV} {cs : Array Value} (hl : l.length = cs.size) (h : ∀ i (h1 : i < l.length) (h2 : i < cs.size), Rep G l[i] cs[i]) : Rep G (.tup l) (.tuple cs)
  | ilnil {sz tk} : Rep G (.il sz tk []) (.slice none 0 0)
  | il {sz : Nat} {tk : Option Nat} {rows : List (List AV)} {b o n cap : Nat} (hn : n = rows.length) (hr : ∀ r ∈ rows, r.length = sz) (hp : ∀ (j : Nat) (x : AV), rows.flatten[j]? = some x → (G.per b)[o + j]? = some x)
      (hc : n ≤ cap) (hz : o + cap * sz ≤ G.size b) (ht : ∀ t, tk = some t → cap = 0 ∨ G.tok t = some (b, o + n * sz)) (hmax : cap < 2 ^ 63) : Rep G (.il sz tk rows) (.slice (some ⟨b, o, none⟩) n cap)
  | ip {cells : List AV} {b o : Nat} (hp : ∀ (j : Nat) (x : AV), cells[j]? = some x → (G.per b)[o + j]? = some x) : Rep G (.ip cells) (.pointer (some ⟨b, o, none⟩))
  | mp {m k b : Nat} (h : G.loc m = some b) : Rep G (.mp m k) (.pointer (some ⟨b, k, none⟩))
  | slnil {sz m off : Nat} : Rep G (.sl sz m off 0) (.slice none 0 0)
  | sl {sz m off len b cap : Nat} (h : G.loc m = some b) (hc : len ≤ cap) (hz : off + cap * sz ≤ G.size b) (hmax : cap < 2 ^ 63) : Rep G (.sl sz m off len) (.slice (some ⟨b, off, none⟩) len cap)
  | fn {f} {l1 l2 : List AV} {c1 c2 : Array Value} (hl1 : l1.length = c1.size) (h1 : ∀ i (h1 : i < l1.length) (h2 : i < c1.size), Rep G l1[i] c1[i])
      (hl2 : l2.length = c2.size) (h2 : ∀ i (h1 : i < l2.length) (h2 : i < c2.size), Rep G l2[i] c2[i]) : Rep G (.fn f l1 l2) (.func f c1 c2)
  | ifc {t x c} (h : Rep G x c) : Rep G (.ifc t x) (.iface t c)
  | mpv {m b : Nat} (h : G.loc m = some b) : Rep G (.mpv m) (.map (some b))
  | itv {m s b r : Nat} (h : G.loc m = some r) (h' : G.loc s = some b) : Rep G (.itv m s b) (.pointer (some ⟨r, 0, none⟩))

/-- Lists of values, place by place. -/
def Reps (G : Gh) (l : List AV) (cs : Array Value) : Prop := l.length = cs.size ∧ ∀ (i : Nat) (x : AV), l[i]? = some x → ∃ c : Value, cs[i]? = some c ∧ Rep G x c

theorem Reps.of {G : Gh} {l : List AV} {cs : Array Value} (hl : l.length = cs.size) (h : ∀ i (h1 : i < l.length) (h2 : i < cs.size), Rep G l[i] cs[i]) : Reps G l cs :=
  ⟨hl, fun i x hx => by
    obtain ⟨h1, rfl⟩ := List.getElem?_eq_some_iff.1 hx
    exact ⟨cs[i]'(hl ▸ h1), by simp [hl ▸ h1], h i h1 _⟩⟩

theorem Reps.to {G : Gh} {l : List AV} {cs : Array Value} (h : Reps G l cs) : ∀ i (h1 : i < l.length) (h2 : i < cs.size), Rep G l[i] cs[i] := fun i h1 h2 => by
  obtain ⟨c, hc, hr⟩ := h.2 i l[i] (by simp)
  simp [h2] at hc
  exact hc ▸ hr

theorem Reps.agg {G : Gh} {l : List AV} {cs : Array Value} (h : Reps G l cs) : Rep G (.agg l) (.agg cs) := .agg h.1 h.to
theorem Reps.tup {G : Gh} {l : List AV} {cs : Array Value} (h : Reps G l cs) : Rep G (.tup l) (.tuple cs) := .tup h.1 h.to
theorem Rep.agg_inv {G : Gh} {l : List AV} {c : Value} (h : Rep G (.agg l) c) : ∃ cs, c = .agg cs ∧ Reps G l cs := by
  cases h with
  | agg hl h => exact ⟨_, rfl, .of hl h⟩
theorem Rep.tup_inv {G : Gh} {l : List AV} {c : Value} (h : Rep G (.tup l) c) : ∃ cs, c = .tuple cs ∧ Reps G l cs := by
  cases h with
  | tup hl h => exact ⟨_, rfl, .of hl h⟩
theorem Rep.v_inv {G : Gh} {x c : Value} (h : Rep G (.v x) c) : c = x := by cases h; rfl
theorem Rep.mp_inv {G : Gh} {m k : Nat} {c : Value} (h : Rep G (.mp m k) c) : ∃ b, c = .pointer (some ⟨b, k, none⟩) ∧ G.loc m = some b := by
  cases h with | mp h => exact ⟨_, rfl, h⟩
theorem Rep.ip_inv {G : Gh} {cells : List AV} {c : Value} (h : Rep G (.ip cells) c) :
    ∃ b o, c = .pointer (some ⟨b, o, none⟩) ∧ ∀ (j : Nat) (x : AV), cells[j]? = some x → (G.per b)[o + j]? = some x := by
  cases h with | ip h => exact ⟨_, _, rfl, h⟩

/-- G' knows at least what G knows. -/
structure GExt (G G' : Gh) : Prop where
  per : ∀ (b j : Nat) (x : AV), (G.per b)[j]? = some x → (G'.per b)[j]? = some x
  size : ∀ b, G.size b ≤ G'.size b
  loc : ∀ m b, G.loc m = some b → G'.loc m = some b
  tok : ∀ t p, G.tok t = some p → G'.tok t = some p

theorem GExt.refl (G : Gh) : GExt G G := ⟨fun _ _ _ h => h, fun _ => Nat.le_refl _, fun _ _ h => h, fun _ _ h => h⟩
theorem GExt.trans {G G1 G2 : Gh} (h : GExt G G1) (h' : GExt G1 G2) : GExt G G2 :=
  ⟨fun b j x hx => h'.per _ _ _ (h.per _ _ _ hx), fun b => Nat.le_trans (h.size b) (h'.size b), fun m b hm => h'.loc _ _ (h.loc _ _ hm), fun t p hp => h'.tok _ _ (h.tok _ _ hp)⟩

theorem Rep.ext {G G' : Gh} (hG : GExt G G') {x : AV} {c : Value} (h : Rep G x c) : Rep G' x c := by
  induction h with
  | any => exact .any
  | v => exact .v
  | agg hl _ ih => exact .agg hl ih
  | tup hl _ ih => exact .tup hl ih
  | ilnil => exact .ilnil
  | @il sz tk rows b o n cap hn hr hp hc hz ht hmax =>
    refine .il hn hr (fun j x hx => hG.per _ _ _ (hp j x hx)) hc ?_ (fun t h => (ht t h).imp id (hG.tok _ _)) hmax
    have := hG.size b; omega
  | slnil => exact .slnil
  | ip hp => exact .ip fun j x hx => hG.per _ _ _ (hp j x hx)
  | mp h => exact .mp (hG.loc _ _ h)
  | @sl sz m off len b cap h hc hz hmax =>
    refine .sl (hG.loc _ _ h) hc ?_ hmax
    have := hG.size b; omega
  | fn hl1 _ hl2 _ ih1 ih2 => exact .fn hl1 ih1 hl2 ih2
  | ifc _ ih => exact .ifc ih
  | mpv h => exact .mpv (hG.loc _ _ h)
  | itv h h' => exact .itv (hG.loc _ _ h) (hG.loc _ _ h')

theorem Reps.ext {G G' : Gh} (hG : GExt G G') {l : List AV} {cs : Array Value} (h : Reps G l cs) : Reps G' l cs :=
  ⟨h.1, fun i x hx => let ⟨c, hc, hr⟩ := h.2 i x hx; ⟨c, hc, hr.ext hG⟩⟩

/-- What is owned: a block that may change, with its cells (it may have more behind them); the right to append. -/
inductive Item where
  | mu (m : Nat) (cells : List AV)
  | tk (t : Nat)
  | ob (m : Nat) (φ : Obj → Prop)
  deriving Inhabited

/-- An item's block. -/
def Item.blk (G : Gh) : Item → Option Nat
  | .mu m _ => G.loc m
  | .tk t => (G.tok t).map (·.1)
  | .ob m _ => G.loc m

def Item.ok (G : Gh) (W : World) : Item → Prop
  | .mu m cells => (cells = [] ∧ G.loc m = none ∧ m < G.next) ∨ ∃ (b : Nat) (cs : Array Value) (e : TypeId), G.loc m = some b ∧ W.heap[b]? = some (.cells cs e (0, 0)) ∧ cs.size = G.size b ∧ cells.length ≤ cs.size ∧ G.per b = [] ∧
      ∀ (j : Nat) (x : AV), cells[j]? = some x → ∃ c : Value, cs[j]? = some c ∧ Rep G x c ∧ c.oneCell' = true
  | .tk t => t < G.next ∧ ∀ b n : Nat, G.tok t = some (b, n) → (G.per b).length = n ∧ ∃ (cs : Array Value) (e : TypeId), W.heap[b]? = some (.cells cs e (0, 0)) ∧ cs.size = G.size b
  | .ob m φ => ∃ (b : Nat) (o : Obj), G.loc m = some b ∧ W.heap[b]? = some o ∧ φ o ∧ G.per b = []

structure Own (G : Gh) (R : List Item) (W : World) : Prop where
  per : ∀ b, G.per b ≠ [] → ∃ (cs : Array Value) (e : TypeId), W.heap[b]? = some (.cells cs e (0, 0)) ∧ cs.size = G.size b ∧ ∀ (j : Nat) (x : AV), (G.per b)[j]? = some x → ∃ c : Value, cs[j]? = some c ∧ Rep G x c ∧ c.oneCell' = true
  items : ∀ it ∈ R, it.ok G W
  apart : R.Pairwise fun x y => ∀ b, x.blk G = some b → y.blk G ≠ some b
  size : ∀ b, W.heap.size ≤ b → G.size b = 0 ∧ G.per b = []
  names : ∀ m, G.next ≤ m → G.loc m = none ∧ G.tok m = none
  locs : ∀ m b : Nat, G.loc m = some b → b < W.heap.size
  toks : ∀ (t : Nat) (p : Nat × Nat), G.tok t = some p → p.1 < W.heap.size

def owned (G : Gh) (R : List Item) (b : Nat) : Prop := ∃ it ∈ R, it.blk G = some b

/-- From a world to a later one: what is not owned stays. -/
structure Ext (G : Gh) (R : List Item) (W : World) (G' : Gh) (R' : List Item) (W' : World) : Prop where
  os : W'.os = W.os
  tape : W'.tape = W.tape
  output : W'.output = W.output
  gext : GExt G G'
  size : W.heap.size ≤ W'.heap.size
  same : ∀ b, b < W.heap.size → ¬ owned G R b → W'.heap[b]? = W.heap[b]? ∧ G'.per b = G.per b
  sizes : ∀ b, b < W.heap.size → G'.size b = G.size b
  fresh : ∀ b, owned G' R' b → owned G R b ∨ W.heap.size ≤ b
  next : G.next ≤ G'.next
  toks : ∀ t, t < G.next → G'.tok t = G.tok t
  locs : ∀ m, m < G.next → G'.loc m = G.loc m

theorem Ext.refl (G : Gh) (R : List Item) (W : World) : Ext G R W G R W :=
  ⟨rfl, rfl, rfl, .refl G, Nat.le_refl _, fun _ _ _ => ⟨rfl, rfl⟩, fun _ _ => rfl, fun _ h => .inl h, Nat.le_refl _, fun _ _ => rfl, fun _ _ => rfl⟩

theorem Ext.trans {G G1 G2 : Gh} {R R1 R2 : List Item} {W W1 W2 : World} (h : Ext G R W G1 R1 W1) (h' : Ext G1 R1 W1 G2 R2 W2) : Ext G R W G2 R2 W2 where
  os := h'.os.trans h.os
  tape := h'.tape.trans h.tape
  output := h'.output.trans h.output
  gext := h.gext.trans h'.gext
  size := Nat.le_trans h.size h'.size
  same := fun b hb hn => by
    have h1 := h.same b hb hn
    have h2 := h'.same b (Nat.lt_of_lt_of_le hb h.size) (fun ho => by
      rcases h.fresh b ho with h3 | h3
      · exact hn h3
      · omega)
    exact ⟨h2.1.trans h1.1, h2.2.trans h1.2⟩
  sizes := fun b hb => (h'.sizes b (Nat.lt_of_lt_of_le hb h.size)).trans (h.sizes b hb)
  fresh := fun b hb => by
    rcases h'.fresh b hb with h1 | h1
    · exact h.fresh b h1
    · exact .inr (Nat.le_trans h.size h1)
  next := Nat.le_trans h.next h'.next
  toks := fun t ht => (h'.toks t (Nat.lt_of_lt_of_le ht h.next)).trans (h.toks t ht)
  locs := fun t ht => (h'.locs t (Nat.lt_of_lt_of_le ht h.next)).trans (h.locs t ht)

/-- Less may be owned. -/
theorem Own.sub {G : Gh} {R R' : List Item} {W : World} (h : Own G R W) (hs : R'.Sublist R) : Own G R' W :=
  { h with items := fun it hi => h.items it (hs.subset hi), apart := h.apart.sublist hs }
theorem Own.perm {G : Gh} {R R' : List Item} {W : World} (h : Own G R W) (hs : R.Perm R') : Own G R' W :=
  { h with items := fun it hi => h.items it (hs.mem_iff.2 hi), apart := (hs.pairwise_iff (fun {x y} hxy b hy hx => hxy b hx hy)).1 h.apart }
theorem Ext.sub {G G' : Gh} {R R1 R2 : List Item} {W W' : World} (h : Ext G R W G' R1 W') (hs : ∀ it ∈ R2, it ∈ R1) : Ext G R W G' R2 W' :=
  { h with fresh := fun b ⟨it, hi, hb⟩ => h.fresh b ⟨it, hs it hi, hb⟩ }
/-- More may have been owned. -/
theorem Ext.more {G G' : Gh} {R R0 R1 : List Item} {W W' : World} (h : Ext G R W G' R1 W') (hs : ∀ it ∈ R, it ∈ R0) : Ext G R0 W G' R1 W' :=
  { h with same := fun b hb hn => h.same b hb fun ⟨it, hi, hb⟩ => hn ⟨it, hs it hi, hb⟩, fresh := fun b hb => (h.fresh b hb).imp (fun ⟨it, hi, hb⟩ => ⟨it, hs it hi, hb⟩) id }

/-- What is owned beside stays. -/
theorem Item.ok_keep {G G' : Gh} {W W' : World} {it : Item} {R R' : List Item} (hE : Ext G R W G' R' W') (hO : Own G (it :: R) W) : it.ok G' W' ∧ it.blk G' = it.blk G := by
  have hok := hO.items it (by simp)
  have hno : ∀ b, it.blk G = some b → ¬ owned G R b := fun b hb ⟨it', hi', hb'⟩ => List.rel_of_pairwise_cons hO.apart hi' b hb hb'
  cases it with
  | mu m cells =>
    rcases hok with ⟨h0, h1, h2⟩ | ⟨b, cs, e, hl, hh, hsz, hle, hp, hc⟩
    · exact ⟨.inl ⟨h0, (hE.locs m h2).trans h1, Nat.lt_of_lt_of_le h2 hE.next⟩, by simp only [Item.blk, hE.locs m h2]⟩
    have hlt : b < W.heap.size := hO.locs m b hl
    obtain ⟨h1, h2⟩ := hE.same b hlt (hno b hl)
    refine ⟨.inr ⟨b, cs, e, hE.gext.loc _ _ hl, h1.trans hh, hsz.trans (hE.sizes b hlt).symm, hle, h2.trans hp, fun j x hx => ?_⟩, by simp only [Item.blk, hl, hE.gext.loc _ _ hl]⟩
    obtain ⟨c, h3, h4, h5⟩ := hc j x hx
    exact ⟨c, h3, h4.ext hE.gext, h5⟩
  | tk t =>
    obtain ⟨ht, hok⟩ := hok
    refine ⟨⟨Nat.lt_of_lt_of_le ht hE.next, fun b n hbn => ?_⟩, by simp only [Item.blk, hE.toks t ht]⟩
    rw [hE.toks t ht] at hbn
    obtain ⟨h0, cs, e, hh, hsz⟩ := hok b n hbn
    have hlt : b < W.heap.size := hO.toks t _ hbn
    obtain ⟨h1, h2⟩ := hE.same b hlt (hno b (by simp only [Item.blk, hbn, Option.map_some]))
    exact ⟨by rw [h2]; exact h0, cs, e, h1.trans hh, hsz.trans (hE.sizes b hlt).symm⟩
  | ob m φ =>
    obtain ⟨b, o, hl, hh, hφ, hp⟩ := hok
    have hlt : b < W.heap.size := hO.locs m b hl
    obtain ⟨h1, h2⟩ := hE.same b hlt (hno b hl)
    exact ⟨⟨b, o, hE.gext.loc _ _ hl, h1.trans hh, hφ, h2.trans hp⟩, by simp only [Item.blk, hl, hE.gext.loc _ _ hl]⟩

/-- THE FRAME RULE. -/
theorem Own.frame {G G' : Gh} {W W' : World} {R R' F : List Item} (hE : Ext G R W G' R' W') (hO : Own G (R ++ F) W) (hO' : Own G' R' W') :
    Own G' (R' ++ F) W' ∧ Ext G (R ++ F) W G' (R' ++ F) W' := by
  have hk : ∀ it ∈ F, it.ok G' W' ∧ it.blk G' = it.blk G := fun it hi => by
    refine Item.ok_keep hE ((hO.perm List.perm_append_comm).sub (R' := it :: R) ?_)
    exact (List.singleton_sublist.2 hi).append (List.Sublist.refl R)
  have hblk : ∀ it ∈ F, ∀ b, it.blk G = some b → b < W.heap.size := fun it hi b hb => by
    cases it with
    | mu m cells => exact hO.locs m b hb
    | tk t =>
      simp only [Item.blk, Option.map_eq_some_iff] at hb
      obtain ⟨p, hp, rfl⟩ := hb
      exact hO.toks t p hp
    | ob m φ => exact hO.locs m b hb
  refine ⟨{ hO' with items := fun it hi => ?_, apart := ?_ }, ?_⟩
  · rcases List.mem_append.1 hi with h | h
    · exact hO'.items it h
    · exact (hk it h).1
  · refine List.pairwise_append.2 ⟨hO'.apart, ?_, ?_⟩
    · have := (List.pairwise_append.1 hO.apart).2.1
      refine this.imp_of_mem (fun {x y} hx hy h b hb => ?_)
      rw [(hk x hx).2] at hb
      rw [(hk y hy).2]
      exact h b hb
    · intro x hx y hy b hb hyb
      rw [(hk y hy).2] at hyb
      rcases hE.fresh b ⟨x, hx, hb⟩ with ⟨x0, hx0, hb0⟩ | h
      · exact (List.pairwise_append.1 hO.apart).2.2 x0 hx0 y hy b hb0 hyb
      · have := hblk y hy b hyb
        omega
  · refine { hE with same := fun b hb hn => hE.same b hb fun ⟨it, hi, hb⟩ => hn ⟨it, List.mem_append_left _ hi, hb⟩, fresh := ?_ }
    rintro b ⟨it, hi, hb⟩
    rcases List.mem_append.1 hi with h | h
    · exact (hE.fresh b ⟨it, h, hb⟩).imp (fun ⟨it, hi, hb⟩ => ⟨it, List.mem_append_left _ hi, hb⟩) id
    · rw [(hk it h).2] at hb
      exact .inl ⟨it, List.mem_append_right _ h, hb⟩

end Go.Abs
set_option linter.unusedVariables false
set_option linter.unusedSimpArgs false
namespace Go.Abs

abbrev Env := Nat → Option AV
def Env.put (env : Env) (d : Option Nat) (v : AV) : Env := match d with
  | some d => fun n => if n = d then some v else env n
  | none => env

def ofV : Value → AV
  | .agg cs => .agg (cs.toList.map .v)
  | v => .v v

/-- An operand's abstract value (slots below N alone). -/
def ev (N : Nat) (env : Env) : Operand → Option AV
  | .tmp t => if t < N then env t else none
  | .const c => some (ofV c)
  | .func f => some (.v (.func (.func f) #[] #[]))
  | .global _ => none

theorem ofV_rep (G : Gh) (c : Value) : Rep G (ofV c) c := by
  cases c with
  | agg cs =>
    refine .agg (by simp) fun i h1 h2 => ?_
    simp
    exact .v
  | _ => exact .v

structure Sim (N : Nat) (D : List Deferred) (G : Gh) (env : Env) (R : List Item) (a : Act) (W : World) : Prop where
  own : Own G R W
  env : ∀ d v, d < N → env d = some v → Rep G v (a.tmps.getD d undef)
  size : a.tmps.size = N
  defers : a.defers = D

theorem ev_rep {N : Nat} {D : List Deferred} {G : Gh} {env : Env} {R : List Item} {a : Act} {W : World} (h : Sim N D G env R a W) {x : Operand} {v : AV} (hx : ev N env x = some v) : Rep G v (a.eval x) := by
  cases x with
  | tmp t =>
    simp only [ev] at hx
    split at hx
    · rename_i ht; exact h.env t v ht hx
    · cases hx
  | const c =>
    simp only [ev, Option.some.injEq] at hx
    subst hx
    exact ofV_rep G c
  | func f =>
    simp only [ev, Option.some.injEq] at hx
    subst hx
    exact .v
  | global g => cases hx

theorem Sim.put {N : Nat} {D : List Deferred} {G G' : Gh} {env : Env} {R R' : List Item} {a : Act} {W W' : World} (h : Sim N D G env R a W) (hg : GExt G G') (ho : Own G' R' W') {v : AV} {c : Value} (hv : Rep G' v c) (d : Option Nat) :
    Sim N D G' (env.put d v) R' (a.put d c) W' := by
  refine ⟨ho, fun k u hk hu => ?_, ?_, ?_⟩
  · cases d with
    | none => exact (h.env k u hk hu).ext hg
    | some d =>
      simp only [Env.put] at hu
      simp only [Act.put]
      split at hu
      · rename_i hkd
        subst hkd
        injection hu with hu
        subst hu
        have hlt : k < a.tmps.size := h.size ▸ hk
        simpa [hlt] using hv
      · rename_i hkd
        have hne : d ≠ k := fun e => hkd e.symm
        simpa [Array.getElem?_setIfInBounds_ne hne] using (h.env k u hk hu).ext hg
  · cases d <;> simp [Act.put, h.size]
  · cases d <;> simp [Act.put, h.defers]

theorem Sim.more {N : Nat} {D : List Deferred} {G G' : Gh} {env : Env} {R R' : List Item} {a : Act} {W W' : World} (h : Sim N D G env R a W) (hg : GExt G G') (ho : Own G' R' W') : Sim N D G' env R' a W' :=
  ⟨ho, fun k u hk hu => (h.env k u hk hu).ext hg, h.size, h.defers⟩

/-- How code ends. -/
inductive AExit where
  | normal
  | exit (id : Nat)
  | ret
  | panic (x : AV)

def conc (N : Nat) (D : List Deferred) (G : Gh) (R : List Item) (W : World) (Q : AExit → Env → List Item → Prop) : Exit → Act → World → Prop
  | .normal, a', W' => ∃ G' env' R', Ext G R W G' R' W' ∧ Sim N D G' env' R' a' W' ∧ Q .normal env' R'
  | .exit id, a', W' => ∃ G' env' R', Ext G R W G' R' W' ∧ Sim N D G' env' R' a' W' ∧ Q (.exit id) env' R'
  | .ret, a', W' => ∃ G' env' R', Ext G R W G' R' W' ∧ Sim N D G' env' R' a' W' ∧ Q .ret env' R'
  | .panic ch, a', W' => ∃ G' env' R' x c, ch = [{ v := c, recovered := false }] ∧ Rep G' x c ∧ Ext G R W G' R' W' ∧ Sim N D G' env' R' a' W' ∧ Q (.panic x) env' R'
  | _, _, _ => False

theorem conc.trans {N : Nat} {D : List Deferred} {G G1 : Gh} {R R1 : List Item} {W W1 : World} {Q : AExit → Env → List Item → Prop} (h : Ext G R W G1 R1 W1) {e : Exit} {a : Act} {w : World} (hc : conc N D G1 R1 W1 Q e a w) : conc N D G R W Q e a w := by
  cases e with
  | normal => obtain ⟨G', env', R', h1, h2⟩ := hc; exact ⟨G', env', R', h.trans h1, h2⟩
  | exit id => obtain ⟨G', env', R', h1, h2⟩ := hc; exact ⟨G', env', R', h.trans h1, h2⟩
  | ret => obtain ⟨G', env', R', h1, h2⟩ := hc; exact ⟨G', env', R', h.trans h1, h2⟩
  | panic ch => obtain ⟨G', env', R', x, c, h1, h2, h3, h4⟩ := hc; exact ⟨G', env', R', x, c, h1, h2, h.trans h3, h4⟩
  | _ => exact hc.elim

theorem conc.mono {N : Nat} {D : List Deferred} {G : Gh} {R : List Item} {W : World} {Q Q' : AExit → Env → List Item → Prop} (h : ∀ e env R, Q e env R → Q' e env R) {e : Exit} {a : Act} {w : World} (hc : conc N D G R W Q e a w) : conc N D G R W Q' e a w := by
  cases e with
  | normal => obtain ⟨G', env', R', h1, h2, h3⟩ := hc; exact ⟨G', env', R', h1, h2, h _ _ _ h3⟩
  | exit id => obtain ⟨G', env', R', h1, h2, h3⟩ := hc; exact ⟨G', env', R', h1, h2, h _ _ _ h3⟩
  | ret => obtain ⟨G', env', R', h1, h2, h3⟩ := hc; exact ⟨G', env', R', h1, h2, h _ _ _ h3⟩
  | panic ch => obtain ⟨G', env', R', x, c, h1, h2, h3, h4, h5⟩ := hc; exact ⟨G', env', R', x, c, h1, h2, h3, h4, h _ _ _ h5⟩
  | _ => exact hc.elim

section
variable {P : Program} {N : Nat} {D : List Deferred}

/-- One operation: what it leaves (K), how it panics (Kp). -/
def AOp (P : Program) (N : Nat) (D : List Deferred) (o : Oper) (env : Env) (R : List Item) (K Kp : AV → List Item → Prop) : Prop :=
  ∀ G W a, Sim N D G env R a W → ∀ (next : Act → World → Prop) (post : Exit → Act → World → Prop),
    (∀ G' R' c v W', Ext G R W G' R' W' → Own G' R' W' → Rep G' v c → K v R' → next (a.put o.dst c) W') →
    (∀ G' R' c x W', Ext G R W G' R' W' → Own G' R' W' → Rep G' x c → Kp x R' → post (.panic [{ v := c, recovered := false }]) a W') →
    o.wp P a W next post

/-- Operations one behind the other. -/
def ASeq (P : Program) (N : Nat) (D : List Deferred) (ops : Array Oper) (l : List Oper) (env : Env) (R : List Item) (Q : AExit → Env → List Item → Prop) : Prop :=
  ∀ G W a, Sim N D G env R a W → ∀ (post : Exit → Act → World → Prop), (∀ e a' w', conc N D G R W Q e a' w' → post e a' w') → wpList P ops post l a W

def ACode (P : Program) (N : Nat) (D : List Deferred) (c : Code) (env : Env) (R : List Item) (Q : AExit → Env → List Item → Prop) : Prop :=
  ∀ G W a, Sim N D G env R a W → c.wp P (conc N D G R W Q) a W

theorem AOp.mono {o : Oper} {env : Env} {R : List Item} {K K' Kp Kp' : AV → List Item → Prop} (h : AOp P N D o env R K Kp) (hk : ∀ v R, K v R → K' v R) (hp : ∀ v R, Kp v R → Kp' v R) : AOp P N D o env R K' Kp' :=
  fun G W a hs next post h1 h2 => h G W a hs next post (fun G' R' c v W' e1 e2 e3 e4 => h1 G' R' c v W' e1 e2 e3 (hk _ _ e4)) (fun G' R' c v W' e1 e2 e3 e4 => h2 G' R' c v W' e1 e2 e3 (hp _ _ e4))

theorem ASeq.nil {ops : Array Oper} {env : Env} {R : List Item} {Q : AExit → Env → List Item → Prop} (h : Q .normal env R) : ASeq P N D ops [] env R Q :=
  fun G W a hs post hp => hp _ _ _ ⟨G, env, R, .refl G R W, hs, h⟩

theorem ASeq.cons {ops : Array Oper} {o : Oper} {l : List Oper} {env : Env} {R : List Item} {Q : AExit → Env → List Item → Prop} (hg : o.guard = none)
    (h : AOp P N D o env R (fun v R' => ASeq P N D ops l (env.put o.dst v) R' Q) (fun x R' => Q (.panic x) env R')) : ASeq P N D ops (o :: l) env R Q := by
  intro G W a hs post hp
  refine wpList_plain hg fun K hK => h G W a hs K post ?_ ?_
  · intro G' R' c v W' hE hO hv hk
    exact hK _ _ (hk G' W' _ (hs.put hE.gext hO hv o.dst) post fun e a' w' hc => hp e a' w' (hc.trans hE))
  · intro G' R' c x W' hE hO hv hk
    exact hp _ _ _ ⟨G', env, R', x, c, rfl, hv, hE, hs.more hE.gext hO, hk⟩

/-- A guard that says yes. -/
theorem ASeq.guardYes {ops : Array Oper} {o : Oper} {l : List Oper} {env : Env} {R : List Item} {Q : AExit → Env → List Item → Prop} (j : Nat) (b : Bool) (d : Nat) (hg : o.guard = some (j, b)) (hd : (ops[j]?).bind (·.dst) = some d)
    (he : ev N env (.tmp d) = some (.v (.bool b)))
    (h : AOp P N D o env R (fun v R' => ASeq P N D ops l (env.put o.dst v) R' Q) (fun x R' => Q (.panic x) env R')) : ASeq P N D ops (o :: l) env R Q := by
  intro G W a hs post hp
  have hr := (ev_rep hs he).v_inv
  have hw : Region.wanted o (yielded ops a.tmps) = true := by
    simp only [ev] at he
    split at he
    · rename_i hdN
      have hlt : d < a.tmps.size := hs.size ▸ hdN
      simp only [Act.eval] at hr
      have : a.tmps[d]? = some (.bool b) := by
        simp only [Array.getD, hlt, dif_pos] at hr
        rw [Array.getElem?_eq_getElem hlt]
        simpa using hr
      simp [Region.wanted, hg, yielded, hd, this]
    · cases he
  refine wpList_step fun K hK => ?_
  rw [if_pos hw]
  refine h G W a hs K post ?_ ?_
  · intro G' R' c v W' hE hO hv hk
    exact hK _ _ (hk G' W' _ (hs.put hE.gext hO hv o.dst) post fun e a' w' hc => hp e a' w' (hc.trans hE))
  · intro G' R' c x W' hE hO hv hk
    exact hp _ _ _ ⟨G', env, R', x, c, rfl, hv, hE, hs.more hE.gext hO, hk⟩

/-- Is a value this bool? -/
def isB : Value → Bool → Bool
  | .bool b', b => b' == b
  | _, _ => false
/-- A guard that says no. -/
theorem ASeq.guardNo {ops : Array Oper} {o : Oper} {l : List Oper} {env : Env} {R : List Item} {Q : AExit → Env → List Item → Prop} (j : Nat) (b : Bool) {x : Value} (d : Nat) (hg : o.guard = some (j, b)) (hd : (ops[j]?).bind (·.dst) = some d)
    (he : ev N env (.tmp d) = some (.v x)) (hb : isB x b = false) (h : ASeq P N D ops l (env.put o.dst (.v undef)) R Q) : ASeq P N D ops (o :: l) env R Q := by
  intro G W a hs post hp
  have hr := (ev_rep hs he).v_inv
  have hw : Region.wanted o (yielded ops a.tmps) = false := by
    simp only [ev] at he
    split at he
    · rename_i hdN
      have hlt : d < a.tmps.size := hs.size ▸ hdN
      simp only [Act.eval] at hr
      have : a.tmps[d]? = some x := by
        simp only [Array.getD, hlt, dif_pos] at hr
        rw [Array.getElem?_eq_getElem hlt]
        simpa using hr
      cases x <;> simp [isB] at hb <;> simp [Region.wanted, hg, yielded, hd, this]
      intro he; exact hb he
    · cases he
  refine wpList_step fun K hK => ?_
  rw [if_neg (by simp [hw])]
  exact hK _ _ (h G W _ (hs.put (GExt.refl G) hs.own .v o.dst) post fun e a' w' hc => hp e a' w' hc)

/-- A bool that isn't decided yet is parted. -/
theorem ASeq.split {ops : Array Oper} {l : List Oper} {env : Env} {R : List Item} {Q : AExit → Env → List Item → Prop} (d : Nat) (b : Bool) (he : env d = some (.v (.bool b)))
    (ht : b = true → ASeq P N D ops l (env.put (some d) (.v (.bool true))) R Q) (hf : b = false → ASeq P N D ops l (env.put (some d) (.v (.bool false))) R Q) : ASeq P N D ops l env R Q := by
  have heq : env.put (some d) (.v (.bool b)) = env := by
    funext n
    simp only [Env.put]
    split
    · rename_i h; rw [h, he]
    · rfl
  cases b with
  | true => have := ht rfl; rwa [heq] at this
  | false => have := hf rfl; rwa [heq] at this

/-- Something known of a slot is told in other words, or forgotten. -/
theorem ASeq.env {ops : Array Oper} {l : List Oper} {env env' : Env} {R : List Item} {Q : AExit → Env → List Item → Prop} (h : ∀ n v, env' n = some v → env n = some v) (hs : ASeq P N D ops l env' R Q) : ASeq P N D ops l env R Q :=
  fun G W a hsim post hp => hs G W a ⟨hsim.own, fun d v hd hv => hsim.env d v hd (h d v hv), hsim.size, hsim.defers⟩ post hp

theorem ACode.env {c : Code} {env env' : Env} {R : List Item} {Q : AExit → Env → List Item → Prop} (h : ∀ n v, env' n = some v → env n = some v) (hs : ACode P N D c env' R Q) : ACode P N D c env R Q :=
  fun G W a hsim => hs G W a ⟨hsim.own, fun d v hd hv => hsim.env d v hd (h d v hv), hsim.size, hsim.defers⟩

theorem ACode.mono {c : Code} {env : Env} {R : List Item} {Q Q' : AExit → Env → List Item → Prop} (hc : ACode P N D c env R Q) (h : ∀ e env R, Q e env R → Q' e env R) : ACode P N D c env R Q' :=
  fun G W a hs => Go.wp_mono (hc G W a hs) fun e a w hq => hq.mono h

/-- What is owned may be told in another order, or in part. -/
theorem ACode.items {c : Code} {env : Env} {R R' : List Item} {Q : AExit → Env → List Item → Prop} (R1 : List Item) (hp : R.Perm R1) (hs : R'.Sublist R1) (hc : ACode P N D c env R' Q) : ACode P N D c env R Q := by
  intro G W a h
  have hE : Ext G R W G R' W := (Ext.refl G R W).sub fun it hi => hp.symm.mem_iff.1 (hs.subset hi)
  refine Go.wp_mono (hc G W a ⟨(h.own.perm hp).sub hs, h.env, h.size, h.defers⟩) fun e a w hq => hq.trans hE

theorem ACode.region {id : Nat} {l : List Oper} {env : Env} {R : List Item} {Q : AExit → Env → List Item → Prop} (h : ASeq P N D l.toArray l env R Q) : ACode P N D (.region id l.toArray false) env R Q :=
  fun G W a hs => wp_region_lit (h G W a hs _ fun _ _ _ hc => hc)

theorem ACode.skip {env : Env} {R : List Item} {Q : AExit → Env → List Item → Prop} (h : Q .normal env R) : ACode P N D .skip env R Q :=
  fun G W a hs => wp_skip ⟨G, env, R, .refl G R W, hs, h⟩
theorem ACode.ret {env : Env} {R : List Item} {Q : AExit → Env → List Item → Prop} (h : Q .ret env R) : ACode P N D .ret env R Q :=
  fun G W a hs => wp_ret ⟨G, env, R, .refl G R W, hs, h⟩
theorem ACode.exit {id : Nat} {env : Env} {R : List Item} {Q : AExit → Env → List Item → Prop} (h : Q (.exit id) env R) : ACode P N D (.exit id) env R Q :=
  fun G W a hs => wp_exit ⟨G, env, R, .refl G R W, hs, h⟩

/-- What comes behind. -/
def AExit.then (next : Env → List Item → Prop) (Q : AExit → Env → List Item → Prop) : AExit → Env → List Item → Prop
  | .normal, env, R => next env R
  | e, env, R => Q e env R

theorem ACode.seq {x y : Code} {env : Env} {R : List Item} {Q : AExit → Env → List Item → Prop} (h : ACode P N D x env R (AExit.then (fun env' R' => ACode P N D y env' R' Q) Q)) : ACode P N D (.seq x y) env R Q := by
  intro G W a hs
  refine wp_seq (Go.wp_mono (h G W a hs) fun e a' w' hq => ?_)
  cases e with
  | normal =>
    obtain ⟨G', env', R', hE, hs', hc⟩ := hq
    exact Go.wp_mono (hc G' w' a' hs') fun e a w hq => hq.trans hE
  | exit id => exact hq
  | ret => exact hq
  | panic ch => exact hq
  | goto l => exact hq
  | outgrown => exact hq

def AExit.inBlock (id : Nat) (Q : AExit → Env → List Item → Prop) : AExit → Env → List Item → Prop
  | .exit id', env, R => if id' = id then Q .normal env R else Q (.exit id') env R
  | e, env, R => Q e env R

theorem ACode.block {id : Nat} {c : Code} {env : Env} {R : List Item} {Q : AExit → Env → List Item → Prop} (h : ACode P N D c env R (AExit.inBlock id Q)) : ACode P N D (.block id c) env R Q := by
  intro G W a hs
  refine wp_block (Go.wp_mono (h G W a hs) fun e a' w' hq => ?_)
  cases e with
  | exit id' =>
    obtain ⟨G', env', R', hE, hs', hc⟩ := hq
    simp only [AExit.inBlock] at hc
    simp only [Exit.inBlock]
    by_cases hid : id' = id
    · rw [if_pos hid] at hc ⊢; exact ⟨G', env', R', hE, hs', hc⟩
    · rw [if_neg hid] at hc ⊢; exact ⟨G', env', R', hE, hs', hc⟩
  | normal => exact hq
  | ret => exact hq
  | panic ch => exact hq
  | goto l => exact hq
  | outgrown => exact hq

theorem ACode.cond {c : Operand} {x y : Code} {env : Env} {R : List Item} {Q : AExit → Env → List Item → Prop} (b : Bool) (he : ev N env c = some (.v (.bool b)))
    (ht : b = true → ACode P N D x env R Q) (hf : b = false → ACode P N D y env R Q) : ACode P N D (.cond c x y) env R Q := by
  intro G W a hs
  exact wp_cond_split (t := b) (ev_rep hs he).v_inv (fun h => ht h G W a hs) (fun h => hf h G W a hs)

theorem ACode.loop {c : Code} {Q : AExit → Env → List Item → Prop} (I : Nat → Env → List Item → Prop) {n : Nat} {env : Env} {R : List Item} (h0 : I n env R)
    (round : ∀ n env R, I n env R → ACode P N D c env R (AExit.then (fun env' R' => ∃ m, m < n ∧ I m env' R') Q)) : ACode P N D (.loop c) env R Q := by
  intro G W a hs
  let T : Act → World → Nat → Prop := fun a' W' n => ∃ G' env' R', Ext G R W G' R' W' ∧ Sim N D G' env' R' a' W' ∧ I n env' R'
  -- the least such number
  have least : ∀ a w, (∃ n, T a w n) → ∃ n, T a w n ∧ ∀ m, T a w m → n ≤ m := by
    intro a w ⟨n, hn⟩
    induction n using Nat.strongRecOn with
    | _ n ih =>
      by_cases h : ∃ m, m < n ∧ T a w m
      · obtain ⟨m, hm, ht⟩ := h; exact ih m hm ht
      · exact ⟨n, hn, fun m hm => Nat.le_of_not_lt fun hlt => h ⟨m, hlt, hm⟩⟩
  let ν : Act → World → Nat := fun a w => @dite Nat (∃ n, T a w n) (Classical.propDecidable _) (fun h => Classical.choose (least a w h)) (fun _ => 0)
  have hν : ∀ a w, (∃ n, T a w n) → T a w (ν a w) ∧ ∀ m, T a w m → ν a w ≤ m := by
    intro a w h
    have := Classical.choose_spec (least a w h)
    simp only [ν, dif_pos h]
    exact this
  refine wp_loop (fun a w => ∃ n, T a w n) ν ⟨n, G, env, R, .refl G R W, hs, h0⟩ ?_
  intro a1 w1 hex
  obtain ⟨⟨G1, env1, R1, hE, hs1, hI⟩, hmin⟩ := hν a1 w1 hex
  refine Go.wp_mono (round _ env1 R1 hI G1 w1 a1 hs1) fun e a2 w2 hq => ?_
  cases e with
  | normal =>
    obtain ⟨G2, env2, R2, hE2, hs2, m, hm, hI2⟩ := hq
    have ht : T a2 w2 m := ⟨G2, env2, R2, hE.trans hE2, hs2, hI2⟩
    exact ⟨⟨m, ht⟩, Nat.lt_of_le_of_lt ((hν a2 w2 ⟨m, ht⟩).2 m ht) hm⟩
  | exit id => exact conc.trans hE hq
  | ret => exact conc.trans hE hq
  | panic ch => exact conc.trans (e := .panic ch) hE hq
  | goto l => exact hq.elim
  | outgrown => exact hq.elim

/-! Calls. -/
inductive AOut where
  | ret (r : AV)
  | pan (x : AV)

def AEnds (G : Gh) (R : List Item) (W : World) (Q : AOut → List Item → Prop) : Ending → World → Prop
  | .returned c, W' => ∃ G' R' r, Ext G R W G' R' W' ∧ Own G' R' W' ∧ Rep G' r c ∧ Q (.ret r) R'
  | .panicked ch, W' => ∃ G' R' x c, ch = [{ v := c, recovered := false }] ∧ Ext G R W G' R' W' ∧ Own G' R' W' ∧ Rep G' x c ∧ Q (.pan x) R'
  | .outgrown, _ => False

def ACalls (P : Program) (f : FuncId) (args : List AV) (R : List Item) (Q : AOut → List Item → Prop) : Prop :=
  ∀ G W (cargs : Array Value), Own G R W → Reps G args cargs → Calls P f cargs W (AEnds G R W Q)

theorem AEnds.mono {G : Gh} {R : List Item} {W : World} {Q Q' : AOut → List Item → Prop} (h : ∀ o R, Q o R → Q' o R) {e : Ending} {w : World} (he : AEnds G R W Q e w) : AEnds G R W Q' e w := by
  cases e with
  | returned c => obtain ⟨G', R', r, h1, h2, h3, h4⟩ := he; exact ⟨G', R', r, h1, h2, h3, h _ _ h4⟩
  | panicked ch => obtain ⟨G', R', x, c, h0, h1, h2, h3, h4⟩ := he; exact ⟨G', R', x, c, h0, h1, h2, h3, h _ _ h4⟩
  | outgrown => exact he

theorem ACalls.mono {f : FuncId} {args : List AV} {R : List Item} {Q Q' : AOut → List Item → Prop} (hc : ACalls P f args R Q) (h : ∀ o R, Q o R → Q' o R) : ACalls P f args R Q' :=
  fun G W cargs ho hr => (hc G W cargs ho hr).mono fun e w he => he.mono h

/-- What is owned beside is left alone. -/
theorem ACalls.frame {f : FuncId} {args : List AV} {R F : List Item} {Q : AOut → List Item → Prop} (hc : ACalls P f args R Q) : ACalls P f args (R ++ F) (fun o R' => ∃ R1, R' = R1 ++ F ∧ Q o R1) := by
  intro G W cargs ho hr
  have hsub : R.Sublist (R ++ F) := List.sublist_append_left R F
  refine (hc G W cargs (ho.sub hsub) hr).mono fun e w he => ?_
  cases e with
  | returned c =>
    obtain ⟨G', R', r, h1, h2, h3, h4⟩ := he
    obtain ⟨k1, k2⟩ := Own.frame h1 ho h2
    exact ⟨G', R' ++ F, r, k2, k1, h3, R', rfl, h4⟩
  | panicked ch =>
    obtain ⟨G', R', x, c, h0, h1, h2, h3, h4⟩ := he
    obtain ⟨k1, k2⟩ := Own.frame h1 ho h2
    exact ⟨G', R' ++ F, x, c, h0, k2, k1, h3, R', rfl, h4⟩
  | outgrown => exact he

/-- Which of the items are handed on, and which stay: by a permutation. -/
theorem ACalls.perm {f : FuncId} {args : List AV} {R R0 : List Item} {Q : AOut → List Item → Prop} (hp : R.Perm R0) (hc : ACalls P f args R0 Q) : ACalls P f args R Q := by
  intro G W cargs ho hr
  have hE : Ext G R W G R0 W := (Ext.refl G R W).sub fun it hi => hp.mem_iff.2 hi
  refine (hc G W cargs (ho.perm hp) hr).mono fun e w he => ?_
  cases e with
  | returned c => obtain ⟨G', R', r, h1, h⟩ := he; exact ⟨G', R', r, hE.trans h1, h⟩
  | panicked ch => obtain ⟨G', R', x, c, h0, h1, h⟩ := he; exact ⟨G', R', x, c, h0, hE.trans h1, h⟩
  | outgrown => exact he

/-- A callee that leaves less than it could. -/
theorem ACalls.less {f : FuncId} {args : List AV} {R : List Item} {Q Q' : AOut → List Item → Prop} (hc : ACalls P f args R Q) (h : ∀ o R1, Q o R1 → ∃ R2 R3, R1.Perm R2 ∧ R3.Sublist R2 ∧ Q' o R3) : ACalls P f args R Q' := by
  intro G W cargs ho hr
  refine (hc G W cargs ho hr).mono fun e w he => ?_
  cases e with
  | returned c =>
    obtain ⟨G', R', r, h1, h2, h3, h4⟩ := he
    obtain ⟨R2, R3, hp, hs, hq⟩ := h _ _ h4
    exact ⟨G', R3, r, h1.sub fun it hi => hp.mem_iff.2 (hs.subset hi), (h2.perm hp).sub hs, h3, hq⟩
  | panicked ch =>
    obtain ⟨G', R', x, c, h0, h1, h2, h3, h4⟩ := he
    obtain ⟨R2, R3, hp, hs, hq⟩ := h _ _ h4
    exact ⟨G', R3, x, c, h0, h1.sub fun it hi => hp.mem_iff.2 (hs.subset hi), (h2.perm hp).sub hs, h3, hq⟩
  | outgrown => exact he

end
end Go.Abs
set_option linter.unusedVariables false
set_option linter.unusedSimpArgs false
namespace Go.Abs

theorem add0 (b o n : Nat) : (⟨b, o, none⟩ : Addr).add n = ⟨b, o + n, none⟩ := by unfold Addr.add; split <;> simp_all

/-- Cells place by place, each one cell. -/
def Cells (G : Gh) (l : List AV) (cs : List Value) : Prop := l.length = cs.length ∧ ∀ (j : Nat) (x : AV), l[j]? = some x → ∃ c : Value, cs[j]? = some c ∧ Rep G x c ∧ c.oneCell' = true

theorem Cells.ext {G G' : Gh} (hG : GExt G G') {l : List AV} {cs : List Value} (h : Cells G l cs) : Cells G' l cs :=
  ⟨h.1, fun j x hx => let ⟨c, h1, h2, h3⟩ := h.2 j x hx; ⟨c, h1, h2.ext hG, h3⟩⟩
theorem Cells.nil {G : Gh} : Cells G [] [] := ⟨rfl, fun j x h => by simp at h⟩
theorem Cells.append {G : Gh} {l l' : List AV} {cs cs' : List Value} (h : Cells G l cs) (h' : Cells G l' cs') : Cells G (l ++ l') (cs ++ cs') := by
  refine ⟨by simp [h.1, h'.1], fun j x hx => ?_⟩
  by_cases hj : j < l.length
  · rw [List.getElem?_append_left hj] at hx
    obtain ⟨c, h1, h2⟩ := h.2 j x hx
    exact ⟨c, by rw [List.getElem?_append_left (by have := h.1; omega)]; exact h1, h2⟩
  · rw [List.getElem?_append_right (by omega)] at hx
    obtain ⟨c, h1, h2⟩ := h'.2 _ x hx
    exact ⟨c, by rw [List.getElem?_append_right (by have := h.1; omega), ← h.1]; exact h1, h2⟩
theorem Cells.take {G : Gh} {l : List AV} {cs : List Value} (h : Cells G l cs) (n : Nat) : Cells G (l.take n) (cs.take n) := by
  refine ⟨by simp [h.1], fun j x hx => ?_⟩
  rw [List.getElem?_take] at hx
  split at hx
  · obtain ⟨c, h1, h2⟩ := h.2 j x hx
    exact ⟨c, by rw [List.getElem?_take, if_pos ‹_›]; exact h1, h2⟩
  · cases hx
theorem Cells.drop {G : Gh} {l : List AV} {cs : List Value} (h : Cells G l cs) (n : Nat) : Cells G (l.drop n) (cs.drop n) := by
  refine ⟨by simp [h.1], fun j x hx => ?_⟩
  rw [List.getElem?_drop] at hx
  obtain ⟨c, h1, h2⟩ := h.2 _ x hx
  exact ⟨c, by rw [List.getElem?_drop]; exact h1, h2⟩
theorem Cells.reps {G : Gh} {l : List AV} {cs : List Value} (h : Cells G l cs) : Reps G l cs.toArray :=
  ⟨by simp [h.1], fun i x hx => by obtain ⟨c, h1, h2, _⟩ := h.2 i x hx; exact ⟨c, by simpa using h1, h2⟩⟩

theorem owned_app {G : Gh} {R : List Item} {it : Item} {b : Nat} : owned G (R ++ [it]) b ↔ owned G R b ∨ it.blk G = some b := by
  constructor
  · rintro ⟨x, hx, hb⟩
    rcases List.mem_append.1 hx with h | h
    · exact .inl ⟨x, h, hb⟩
    · rw [List.mem_singleton] at h; subst h; exact .inr hb
  · rintro (⟨x, hx, hb⟩ | hb)
    · exact ⟨x, List.mem_append_left _ hx, hb⟩
    · exact ⟨it, by simp, hb⟩

theorem blk_lt {G : Gh} {R : List Item} {W : World} (h : Own G R W) {it : Item} {b : Nat} (hb : it.blk G = some b) : b < W.heap.size := by
  cases it with
  | mu m cells => exact h.locs m b hb
  | tk t =>
    simp only [Item.blk, Option.map_eq_some_iff] at hb
    obtain ⟨p, hp, rfl⟩ := hb
    exact h.toks t p hp
  | ob m φ => exact h.locs m b hb

theorem next_of_loc {G : Gh} {R : List Item} {W : World} (h : Own G R W) {m b : Nat} (hb : G.loc m = some b) : m < G.next := by
  rcases Nat.lt_or_ge m G.next with h1 | h1
  · exact h1
  · rw [(h.names m h1).1] at hb; cases hb
theorem next_of_tok {G : Gh} {R : List Item} {W : World} (h : Own G R W) {t : Nat} {p : Nat × Nat} (hb : G.tok t = some p) : t < G.next := by
  rcases Nat.lt_or_ge t G.next with h1 | h1
  · exact h1
  · rw [(h.names t h1).2] at hb; cases hb

/-- The world W', with the same blocks as W and one more behind. -/
structure OneMore (W W' : World) (cs : Array Value) (e : TypeId) : Prop where
  os : W'.os = W.os
  tape : W'.tape = W.tape
  output : W'.output = W.output
  size : W'.heap.size = W.heap.size + 1
  new : W'.heap[W.heap.size]? = some (.cells cs e (0, 0))
  old : ∀ b, b < W.heap.size → W'.heap[b]? = W.heap[b]?

theorem OneMore.alloc (W : World) (cs : Array Value) (e : TypeId) : OneMore W (W.alloc (.cells cs e)) cs e :=
  ⟨rfl, rfl, rfl, by show (W.heap.push _).size = _; simp, heap_alloc_new W _, fun b hb => heap_alloc_old W _ b hb⟩
theorem OneMore.drewAlloc (W : World) (cs : Array Value) (e : TypeId) : OneMore W (W.drew.alloc (.cells cs e)) cs e :=
  ⟨rfl, rfl, rfl, by show (W.heap.push _).size = _; simp, heap_alloc_new W.drew _, fun b hb => heap_alloc_old W.drew _ b hb⟩

/-- A new block that may change. -/
theorem Own.newMu {G : Gh} {R : List Item} {W W' : World} {cs : Array Value} {e : TypeId} (h : Own G R W) (hm : OneMore W W' cs e) (cells : List AV) (hl : cells.length ≤ cs.size)
    (hc : ∀ (j : Nat) (x : AV), cells[j]? = some x → ∃ c : Value, cs[j]? = some c ∧ Rep G x c ∧ c.oneCell' = true) :
    ∃ G' m, Ext G R W G' (R ++ [.mu m cells]) W' ∧ Own G' (R ++ [.mu m cells]) W' ∧ G'.loc m = some W.heap.size ∧ G'.size W.heap.size = cs.size := by
  let G' : Gh := { G with size := fun b => if b = W.heap.size then cs.size else G.size b, loc := fun m => if m = G.next then some W.heap.size else G.loc m, next := G.next + 1 }
  have hG : GExt G G' := by
    refine ⟨fun _ _ _ hx => hx, fun b => ?_, fun m b hb => ?_, fun _ _ hp => hp⟩
    · simp only [G']
      split
      · rename_i hb; subst hb; rw [(h.size _ (Nat.le_refl _)).1]; omega
      · exact Nat.le_refl _
    · have := next_of_loc h hb
      simp only [G']
      rw [if_neg (by omega)]
      exact hb
  have hkeep : ∀ it : Item, ∀ b, it.blk G = some b → it.blk G' = some b := by
    intro it b hb
    cases it with
    | mu m cells => exact hG.loc m b hb
    | tk t => exact hb
    | ob m φ => exact hG.loc m b hb
  have hback : ∀ it ∈ R, ∀ b, it.blk G' = some b → it.blk G = some b := by
    intro it hi b hb
    cases it with
    | mu m cells =>
      have hmn : m < G.next := by
        rcases h.items _ hi with ⟨_, _, h2⟩ | ⟨b', _, _, hl', _⟩
        · exact h2
        · exact next_of_loc h hl'
      simp only [Item.blk, G'] at hb ⊢
      rw [if_neg (by omega)] at hb
      exact hb
    | tk t => exact hb
    | ob m φ =>
      obtain ⟨b', o, hl', _⟩ := h.items _ hi
      have hmn := next_of_loc h hl'
      simp only [Item.blk, G'] at hb ⊢
      rw [if_neg (by omega)] at hb
      exact hb
  have hsz : ∀ b, b < W.heap.size → G'.size b = G.size b := fun b hb => by simp only [G']; rw [if_neg (by omega)]
  refine ⟨G', G.next, ⟨hm.os, hm.tape, hm.output, hG, by rw [hm.size]; omega, fun b hb _ => ⟨hm.old b hb, rfl⟩, hsz, ?_, by simp [G'], fun _ _ => rfl, fun m hm => by simp only [G']; rw [if_neg (by omega)]⟩, ⟨?_, ?_, ?_, ?_, ?_, ?_, ?_⟩, by simp [G'], by simp [G']⟩
  · intro b hb
    rcases owned_app.1 hb with ⟨it, hi, hb⟩ | hb
    · exact .inl ⟨it, hi, hback it hi b hb⟩
    · simp [Item.blk, G'] at hb
      exact .inr (by omega)
  · intro b hb
    obtain ⟨cs', e', h1, h2, h3⟩ := h.per b hb
    have hlt : b < W.heap.size := (Array.getElem?_eq_some_iff.1 h1).1
    exact ⟨cs', e', (hm.old b hlt).trans h1, h2.trans (hsz b hlt).symm, fun j x hx => let ⟨c, h4, h5, h6⟩ := h3 j x hx; ⟨c, h4, h5.ext hG, h6⟩⟩
  · intro it hi
    rcases List.mem_append.1 hi with hi | hi
    · have hok := h.items it hi
      cases it with
      | mu m cells =>
        rcases hok with ⟨h1, h2, h3⟩ | ⟨b, cs', e', h1, h2, h3, h4, h5, h6⟩
        · exact .inl ⟨h1, by simp only [G']; rw [if_neg (by omega)]; exact h2, by simp only [G']; omega⟩
        have hlt : b < W.heap.size := (Array.getElem?_eq_some_iff.1 h2).1
        exact .inr ⟨b, cs', e', hG.loc m b h1, (hm.old b hlt).trans h2, h3.trans (hsz b hlt).symm, h4, h5, fun j x hx => let ⟨c, h4, h5, h6⟩ := h6 j x hx; ⟨c, h4, h5.ext hG, h6⟩⟩
      | tk t =>
        obtain ⟨h1, h2⟩ := hok
        refine ⟨by simp only [G']; omega, fun b n hb => ?_⟩
        obtain ⟨h3, cs', e', h4, h5⟩ := h2 b n hb
        have hlt : b < W.heap.size := (Array.getElem?_eq_some_iff.1 h4).1
        exact ⟨h3, cs', e', (hm.old b hlt).trans h4, h5.trans (hsz b hlt).symm⟩
      | ob m φ =>
        obtain ⟨b, o, h1, h2, h3, h4⟩ := hok
        have hlt : b < W.heap.size := (Array.getElem?_eq_some_iff.1 h2).1
        exact ⟨b, o, hG.loc m b h1, (hm.old b hlt).trans h2, h3, h4⟩
    · rw [List.mem_singleton] at hi
      subst hi
      exact .inr ⟨W.heap.size, cs, e, by simp [G'], hm.new, by simp [G'], hl, (h.size _ (Nat.le_refl _)).2, fun j x hx => let ⟨c, h4, h5, h6⟩ := hc j x hx; ⟨c, h4, h5.ext hG, h6⟩⟩
  · refine List.pairwise_append.2 ⟨?_, List.pairwise_singleton _ _, ?_⟩
    · refine h.apart.imp_of_mem fun {x y} hx hy hxy b hb hb' => ?_
      exact hxy b (hback x hx b hb) (hback y hy b hb')
    · intro x hx y hy b hb hb'
      rw [List.mem_singleton] at hy
      subst hy
      have := blk_lt h (hback x hx b hb)
      simp [Item.blk, G'] at hb'
      omega
  · intro b hb
    rw [hm.size] at hb
    have := h.size b (by omega)
    simp only [G']
    rw [if_neg (by omega)]
    exact this
  · intro m hm'
    have := h.names m (by simp only [G'] at hm'; omega)
    simp only [G'] at hm' ⊢
    rw [if_neg (by omega)]
    exact this
  · intro m b hb
    rw [hm.size]
    simp only [G'] at hb
    split at hb
    · injection hb with hb; omega
    · have := h.locs m b hb; omega
  · intro t p hp
    have := h.toks t p hp
    rw [hm.size]
    omega

/-- A new block whose first cells never change again, and the right to append behind them. -/
theorem Own.newPer {G : Gh} {R : List Item} {W W' : World} {cs : Array Value} {e : TypeId} (h : Own G R W) (hm : OneMore W W' cs e) (cells : List AV) (hl : cells.length ≤ cs.size)
    (hc : ∀ (j : Nat) (x : AV), cells[j]? = some x → ∃ c : Value, cs[j]? = some c ∧ Rep G x c ∧ c.oneCell' = true) :
    ∃ G' t, Ext G R W G' (R ++ [.tk t]) W' ∧ Own G' (R ++ [.tk t]) W' ∧ G'.tok t = some (W.heap.size, cells.length) ∧ G'.size W.heap.size = cs.size ∧ G'.per W.heap.size = cells := by
  let G' : Gh := { G with per := fun b => if b = W.heap.size then cells else G.per b, size := fun b => if b = W.heap.size then cs.size else G.size b, tok := fun m => if m = G.next then some (W.heap.size, cells.length) else G.tok m, next := G.next + 1 }
  have hG : GExt G G' := by
    refine ⟨fun b j x hx => ?_, fun b => ?_, fun m b hb => hb, fun t p hp => ?_⟩
    · simp only [G']
      split
      · rename_i hb; subst hb; rw [(h.size _ (Nat.le_refl _)).2] at hx; simp at hx
      · exact hx
    · simp only [G']
      split
      · rename_i hb; subst hb; rw [(h.size _ (Nat.le_refl _)).1]; omega
      · exact Nat.le_refl _
    · have := next_of_tok h hp
      simp only [G']
      rw [if_neg (by omega)]
      exact hp
  have hback : ∀ it ∈ R, ∀ b, it.blk G' = some b → it.blk G = some b := by
    intro it hi b hb
    cases it with
    | mu m cells => exact hb
    | tk t =>
      have := (h.items _ hi).1
      simp only [Item.blk, G'] at hb ⊢
      rw [if_neg (by omega)] at hb
      exact hb
    | ob m φ => exact hb
  have hsz : ∀ b, b < W.heap.size → G'.size b = G.size b := fun b hb => by simp only [G']; rw [if_neg (by omega)]
  have hpr : ∀ b, b < W.heap.size → G'.per b = G.per b := fun b hb => by simp only [G']; rw [if_neg (by omega)]
  refine ⟨G', G.next, ⟨hm.os, hm.tape, hm.output, hG, by rw [hm.size]; omega, fun b hb _ => ⟨hm.old b hb, hpr b hb⟩, hsz, ?_, by simp [G'], ?_, fun _ _ => rfl⟩, ⟨?_, ?_, ?_, ?_, ?_, ?_, ?_⟩, by simp [G'], by simp [G'], by simp [G']⟩
  · intro b hb
    rcases owned_app.1 hb with ⟨it, hi, hb⟩ | hb
    · exact .inl ⟨it, hi, hback it hi b hb⟩
    · simp [Item.blk, G'] at hb
      exact .inr (by omega)
  · intro t ht
    simp only [G']
    rw [if_neg (by omega)]
  · intro b hb
    by_cases hbs : b = W.heap.size
    · subst hbs
      exact ⟨cs, e, hm.new, by simp [G'], fun j x hx => by
        simp [G'] at hx
        obtain ⟨c, h4, h5, h6⟩ := hc j x hx
        exact ⟨c, h4, h5.ext hG, h6⟩⟩
    · have hp : G'.per b = G.per b := by simp only [G']; rw [if_neg hbs]
      rw [hp] at hb
      obtain ⟨cs', e', h1, h2, h3⟩ := h.per b hb
      have hlt : b < W.heap.size := (Array.getElem?_eq_some_iff.1 h1).1
      refine ⟨cs', e', (hm.old b hlt).trans h1, h2.trans (hsz b hlt).symm, fun j x hx => ?_⟩
      rw [hp] at hx
      obtain ⟨c, h4, h5, h6⟩ := h3 j x hx
      exact ⟨c, h4, h5.ext hG, h6⟩
  · intro it hi
    rcases List.mem_append.1 hi with hi | hi
    · have hok := h.items it hi
      cases it with
      | mu m cells =>
        rcases hok with ⟨h1, h2, h3⟩ | ⟨b, cs', e', h1, h2, h3, h4, h5, h6⟩
        · exact .inl ⟨h1, h2, by simp only [G']; omega⟩
        have hlt : b < W.heap.size := (Array.getElem?_eq_some_iff.1 h2).1
        exact .inr ⟨b, cs', e', hG.loc m b h1, (hm.old b hlt).trans h2, h3.trans (hsz b hlt).symm, h4, (hpr b hlt).trans h5, fun j x hx => let ⟨c, h4, h5, h6⟩ := h6 j x hx; ⟨c, h4, h5.ext hG, h6⟩⟩
      | tk t =>
        obtain ⟨h1, h2⟩ := hok
        refine ⟨by simp only [G']; omega, fun b n hb => ?_⟩
        simp only [G'] at hb
        rw [if_neg (by omega)] at hb
        obtain ⟨h3, cs', e', h4, h5⟩ := h2 b n hb
        have hlt : b < W.heap.size := (Array.getElem?_eq_some_iff.1 h4).1
        exact ⟨by rw [hpr b hlt]; exact h3, cs', e', (hm.old b hlt).trans h4, h5.trans (hsz b hlt).symm⟩
      | ob m φ =>
        obtain ⟨b, o, h1, h2, h3, h4⟩ := hok
        have hlt : b < W.heap.size := (Array.getElem?_eq_some_iff.1 h2).1
        exact ⟨b, o, hG.loc m b h1, (hm.old b hlt).trans h2, h3, (hpr b hlt).trans h4⟩
    · rw [List.mem_singleton] at hi
      subst hi
      refine ⟨by simp [G'], fun b n hb => ?_⟩
      simp [G'] at hb
      obtain ⟨rfl, rfl⟩ := hb
      exact ⟨by simp [G'], cs, e, hm.new, by simp [G']⟩
  · refine List.pairwise_append.2 ⟨?_, List.pairwise_singleton _ _, ?_⟩
    · refine h.apart.imp_of_mem fun {x y} hx hy hxy b hb hb' => ?_
      exact hxy b (hback x hx b hb) (hback y hy b hb')
    · intro x hx y hy b hb hb'
      rw [List.mem_singleton] at hy
      subst hy
      have := blk_lt h (hback x hx b hb)
      simp [Item.blk, G'] at hb'
      omega
  · intro b hb
    rw [hm.size] at hb
    have := h.size b (by omega)
    simp only [G']
    rw [if_neg (by omega), if_neg (by omega)]
    exact this
  · intro m hm'
    have := h.names m (by simp only [G'] at hm'; omega)
    simp only [G'] at hm' ⊢
    rw [if_neg (by omega)]
    exact this
  · intro m b hb
    have := h.locs m b hb
    rw [hm.size]
    omega
  · intro t p hp
    rw [hm.size]
    simp only [G'] at hp
    split at hp
    · injection hp with hp; subst hp; simp
    · have := h.toks t p hp; omega

/-- The right to append to nothing. -/
theorem Own.newTok {G : Gh} {R : List Item} {W : World} (h : Own G R W) : ∃ G' t, Ext G R W G' (R ++ [.tk t]) W ∧ Own G' (R ++ [.tk t]) W ∧ G'.tok t = none ∧ GExt G G' := by
  let G' : Gh := { G with next := G.next + 1 }
  have hG : GExt G G' := ⟨fun _ _ _ h => h, fun _ => Nat.le_refl _, fun _ _ h => h, fun _ _ h => h⟩
  have hn : G.tok G.next = none := (h.names _ (Nat.le_refl _)).2
  have hR : ∀ {x : AV} {c : Value}, Rep G x c → Rep G' x c := fun hx => hx.ext hG
  have hok : ∀ it : Item, it.ok G W → it.ok G' W := by
    intro it hi
    cases it with
    | mu m cells =>
      rcases hi with ⟨h1, h2, h3⟩ | ⟨b, cs', e', h1, h2, h3, h4, h5, h6⟩
      · exact .inl ⟨h1, h2, by simp only [G']; omega⟩
      · exact .inr ⟨b, cs', e', h1, h2, h3, h4, h5, fun j x hx => let ⟨c, h4, h5, h6⟩ := h6 j x hx; ⟨c, h4, hR h5, h6⟩⟩
    | tk t => exact ⟨by have := hi.1; simp only [G']; omega, hi.2⟩
    | ob m φ => exact hi
  refine ⟨G', G.next, ⟨rfl, rfl, rfl, hG, Nat.le_refl _, fun _ _ _ => ⟨rfl, rfl⟩, fun _ _ => rfl, ?_, by simp [G'], fun _ _ => rfl, fun _ _ => rfl⟩, ⟨?_, ?_, ?_, h.size, fun m hm => h.names m (by simp only [G'] at hm; omega), h.locs, h.toks⟩, hn, hG⟩
  · intro b hb
    rcases owned_app.1 hb with hb | hb
    · exact .inl hb
    · simp [Item.blk, G', hn] at hb
  · intro b hb
    obtain ⟨cs', e', h1, h2, h3⟩ := h.per b hb
    exact ⟨cs', e', h1, h2, fun j x hx => let ⟨c, h4, h5, h6⟩ := h3 j x hx; ⟨c, h4, hR h5, h6⟩⟩
  · intro it hi
    rcases List.mem_append.1 hi with hi | hi
    · exact hok it (h.items it hi)
    · rw [List.mem_singleton] at hi
      subst hi
      exact ⟨by simp [G'], fun b n hb => by simp only [G'] at hb; rw [hn] at hb; cases hb⟩
  · refine List.pairwise_append.2 ⟨h.apart, List.pairwise_singleton _ _, ?_⟩
    intro x hx y hy b hb hb'
    rw [List.mem_singleton] at hy
    subst hy
    simp [Item.blk, G', hn] at hb'

/-- One block has other cells: those of an item that is told anew. -/
theorem Own.setMu {G : Gh} {R R1 R2 : List Item} {W W' : World} {m b : Nat} {cells cells' : List AV} {cs cs' : Array Value} {e : TypeId} (h : Own G R W) (hR : R = R1 ++ .mu m cells :: R2) (hb : G.loc m = some b)
    (h1 : W.heap[b]? = some (.cells cs e (0, 0))) (hos : W'.os = W.os) (ht : W'.tape = W.tape) (hout : W'.output = W.output) (hsz : W'.heap.size = W.heap.size)
    (h2 : W'.heap[b]? = some (.cells cs' e (0, 0))) (h3 : ∀ k, k ≠ b → W'.heap[k]? = W.heap[k]?) (hss : cs'.size = cs.size) (hl : cells'.length ≤ cs'.size)
    (hc : ∀ (j : Nat) (x : AV), cells'[j]? = some x → ∃ c : Value, cs'[j]? = some c ∧ Rep G x c ∧ c.oneCell' = true) :
    Ext G R W G (R1 ++ .mu m cells' :: R2) W' ∧ Own G (R1 ++ .mu m cells' :: R2) W' := by
  subst hR
  have hmem : Item.mu m cells ∈ R1 ++ .mu m cells :: R2 := by simp
  obtain ⟨b0, cs0, e0, q1, q2, q3, q4, q5, q6⟩ := (h.items _ hmem).resolve_left (fun h0 => by rw [hb] at h0; exact absurd h0.2.1 (by simp))
  rw [hb] at q1; injection q1 with q1; subst q1
  rw [h1] at q2; injection q2 with q2; injection q2 with q2 q2'; subst q2
  have hne : ∀ it ∈ R1 ++ R2, it.blk G ≠ some b := by
    intro it hi hbi
    have hp := h.apart
    rw [List.pairwise_append] at hp
    obtain ⟨_, hp2, hp3⟩ := hp
    rcases List.mem_append.1 hi with hi | hi
    · exact hp3 it hi (.mu m cells) (by simp) b hbi hb
    · exact List.rel_of_pairwise_cons hp2 hi b hb hbi
  have hown : ∀ x, owned G (R1 ++ .mu m cells' :: R2) x → owned G (R1 ++ .mu m cells :: R2) x := by
    rintro x ⟨it, hi, hx⟩
    simp only [List.mem_append, List.mem_cons] at hi
    rcases hi with hi | rfl | hi
    · exact ⟨it, by simp [hi], hx⟩
    · exact ⟨.mu m cells, by simp, hx⟩
    · exact ⟨it, by simp [hi], hx⟩
  refine ⟨⟨hos, ht, hout, .refl G, by omega, fun k hk hn => ⟨h3 k fun e => hn (e ▸ ⟨.mu m cells, hmem, hb⟩), rfl⟩, fun _ _ => rfl, fun x hx => .inl (hown x hx), Nat.le_refl _, fun _ _ => rfl, fun _ _ => rfl⟩, ⟨?_, ?_, ?_, ?_, h.names, ?_, ?_⟩⟩
  · intro k hk
    obtain ⟨cs', e', p1, p2⟩ := h.per k hk
    exact ⟨cs', e', (h3 k fun e => hk (e ▸ q5)).trans p1, p2⟩
  · intro it hi
    have hrest : ∀ it ∈ R1 ++ R2, it.ok G W' := by
      intro it hi
      have hok := h.items it (by simp only [List.mem_append, List.mem_cons] at hi ⊢; rcases hi with hi | hi <;> simp [hi])
      cases it with
      | mu m' cells0 =>
        rcases hok with hok | ⟨b', cs', e', p1, p2, p3⟩
        · exact .inl hok
        exact .inr ⟨b', cs', e', p1, (h3 b' fun e => hne _ hi (by simp only [Item.blk, p1, e])).trans p2, p3⟩
      | tk t =>
        refine ⟨hok.1, fun b' n hb' => ?_⟩
        obtain ⟨p1, cs', e', p2, p3⟩ := hok.2 b' n hb'
        exact ⟨p1, cs', e', (h3 b' fun e => hne _ hi (by simp only [Item.blk, hb', Option.map_some, e])).trans p2, p3⟩
      | ob m φ =>
        obtain ⟨b', o, p1, p2, p3, p4⟩ := hok
        exact ⟨b', o, p1, (h3 b' fun e => hne _ hi (by simp only [Item.blk, p1, e])).trans p2, p3, p4⟩
    simp only [List.mem_append, List.mem_cons] at hi
    rcases hi with hi | rfl | hi
    · exact hrest it (by simp [hi])
    · exact .inr ⟨b, cs', e, hb, h2, by omega, hl, q5, hc⟩
    · exact hrest it (by simp [hi])
  · have hp := h.apart
    rw [List.pairwise_append, List.pairwise_cons] at hp ⊢
    obtain ⟨p1, ⟨p2, p3⟩, p4⟩ := hp
    refine ⟨p1, ⟨fun y hy x hx => p2 y hy x hx, p3⟩, fun x hx y hy => ?_⟩
    rw [List.mem_cons] at hy
    rcases hy with rfl | hy
    · exact p4 x hx (.mu m cells) (by simp)
    · exact p4 x hx y (by simp [hy])
  · intro k hk; exact h.size k (by omega)
  · intro m' k hk; rw [hsz]; exact h.locs m' k hk
  · intro t p hp; rw [hsz]; exact h.toks t p hp

end Go.Abs
set_option linter.unusedVariables false
set_option linter.unusedSimpArgs false
namespace Go.Abs

/-! Types. -/
inductive DS where
  | sc
  | st (fs : List (Nat × Nat))
  | sli (e : Nat)
  | ar (n e : Nat)
  | mp (k e : Nat)
  | str
  | bl
  | int (k : IntKind)
  | ifc (n : Nat)
  | ptr (e : Nat)

def dsOf (P : Program) : TypeDesc → DS
  | .struct fs => .st (fs.toList.map fun f => (f.offset, P.cellsOf f.type))
  | .slice e => .sli e
  | .array n e => .ar n e
  | .map k e => .mp k e
  | .string => .str
  | .bool => .bl
  | .int k => .int k
  | .interface ms => .ifc ms.size
  | .pointer e => .ptr e
  | _ => .sc

structure TD where
  size : Nat
  bytes : Nat
  zero : List Value
  ds : DS

def TOK (P : Program) (t : TypeId) (td : TD) : Prop :=
  (P.info? t).map (fun i => (i.size, i.bytes, i.zero.map (·.cells.toList))) = some (td.size, td.bytes, some td.zero) ∧ (P.underlying t).map (dsOf P) = some td.ds

def DS.agg : DS → Bool
  | .st _ | .ar _ _ => true
  | _ => false

section
variable {P : Program} {t : TypeId} {td : TD}

theorem TOK.info (h : TOK P t td) : ∃ i z, P.info? t = some i ∧ i.size = td.size ∧ i.bytes = td.bytes ∧ i.zero = some z ∧ z.cells.toList = td.zero := by
  have h1 := h.1
  cases hi : P.info? t with
  | none => rw [hi] at h1; cases h1
  | some i =>
    rw [hi] at h1
    simp only [Option.map_some, Option.some.injEq, Prod.mk.injEq] at h1
    obtain ⟨a, b, c⟩ := h1
    cases hz : i.zero with
    | none => rw [hz] at c; cases c
    | some z => rw [hz] at c; simp only [Option.map_some, Option.some.injEq] at c; exact ⟨i, z, rfl, a, b, hz, c⟩

theorem TOK.und (h : TOK P t td) : ∃ d, P.underlying t = some d ∧ dsOf P d = td.ds := by
  have h1 := h.2
  cases hi : P.underlying t with
  | none => rw [hi] at h1; cases h1
  | some d => rw [hi] at h1; simpa using h1

theorem TOK.sli (h : TOK P t td) {e : Nat} (hd : td.ds = .sli e) : P.underlying t = some (.slice e) := by
  obtain ⟨d, h1, h2⟩ := h.und
  rw [hd] at h2
  cases d <;> simp [dsOf] at h2
  subst h2; exact h1
theorem TOK.ar (h : TOK P t td) {n e : Nat} (hd : td.ds = .ar n e) : P.underlying t = some (.array n e) := by
  obtain ⟨d, h1, h2⟩ := h.und
  rw [hd] at h2
  cases d <;> simp [dsOf] at h2
  obtain ⟨rfl, rfl⟩ := h2; exact h1
theorem TOK.str (h : TOK P t td) (hd : td.ds = .str) : P.underlying t = some .string := by
  obtain ⟨d, h1, h2⟩ := h.und
  rw [hd] at h2
  cases d <;> simp [dsOf] at h2
  exact h1
theorem TOK.bl (h : TOK P t td) (hd : td.ds = .bl) : P.underlying t = some .bool := by
  obtain ⟨d, h1, h2⟩ := h.und
  rw [hd] at h2
  cases d <;> simp [dsOf] at h2
  exact h1
theorem TOK.int (h : TOK P t td) {k : IntKind} (hd : td.ds = .int k) : P.underlying t = some (.int k) := by
  obtain ⟨d, h1, h2⟩ := h.und
  rw [hd] at h2
  cases d <;> simp [dsOf] at h2
  subst h2; exact h1
theorem TOK.st (h : TOK P t td) {l : List (Nat × Nat)} (hd : td.ds = .st l) : ∃ fs, P.underlying t = some (.struct fs) ∧ fs.toList.map (fun f => (f.offset, P.cellsOf f.type)) = l := by
  obtain ⟨d, h1, h2⟩ := h.und
  rw [hd] at h2
  cases d <;> simp [dsOf] at h2
  subst h2; exact ⟨_, h1, by simp⟩
theorem TOK.agg (h : TOK P t td) (W : World) : (isAgg t).run P W = .ok td.ds.agg W := by
  obtain ⟨d, h1, h2⟩ := h.und
  rw [← h2]
  cases d <;> simp [isAgg, run_underlying h1, dsOf, DS.agg]
theorem TOK.sizeOf (h : TOK P t td) (W : World) : (sizeOf t).run P W = .ok td.size W := by
  obtain ⟨i, z, h1, h2, _⟩ := h.info
  simp [Go.sizeOf, typeInfo, h1, h2]
theorem TOK.zeroValue (h : TOK P t td) (W : World) : ∃ z, (zeroValue t).run P W = .ok z W ∧ z.cells.toList = td.zero := by
  obtain ⟨i, z, h1, h2, _, h3, h4⟩ := h.info
  exact ⟨z, by simp [Go.zeroValue, typeInfo, h1, h3], h4⟩
end

/-! Lists, laid out. -/
def takeO {α : Type} : Nat → List α → Option (List α)
  | 0, _ => some []
  | n + 1, x :: l => (takeO n l).map (x :: ·)
  | _ + 1, [] => none
def dropO {α : Type} : Nat → List α → Option (List α)
  | 0, l => some l
  | n + 1, _ :: l => dropO n l
  | _ + 1, [] => none
def spliceO {α : Type} : Nat → List α → List α → Option (List α)
  | 0, [], l => some l
  | 0, v :: vs, _ :: l => (spliceO 0 vs l).map (v :: ·)
  | k + 1, vs, x :: l => (spliceO k vs l).map (x :: ·)
  | _, _, _ => none

theorem takeO_eq {α : Type} : ∀ (n : Nat) (l r : List α), takeO n l = some r → r = l.take n ∧ n ≤ l.length
  | 0, l, r, h => by simp [takeO] at h; simp [h]
  | n + 1, x :: l, r, h => by
    simp only [takeO, Option.map_eq_some_iff] at h
    obtain ⟨r', h1, rfl⟩ := h
    obtain ⟨h2, h3⟩ := takeO_eq n l r' h1
    exact ⟨by simp [h2], by simp; omega⟩
  | n + 1, [], r, h => by simp [takeO] at h
theorem dropO_eq {α : Type} : ∀ (n : Nat) (l r : List α), dropO n l = some r → r = l.drop n ∧ n ≤ l.length
  | 0, l, r, h => by simp [dropO] at h; simp [h]
  | n + 1, x :: l, r, h => by
    obtain ⟨h2, h3⟩ := dropO_eq n l r h
    exact ⟨by simp [h2], by simp; omega⟩
  | n + 1, [], r, h => by simp [dropO] at h
theorem spliceO_eq {α : Type} : ∀ (k : Nat) (vs l r : List α), spliceO k vs l = some r → r = l.take k ++ vs ++ l.drop (k + vs.length) ∧ k + vs.length ≤ l.length
  | 0, [], l, r, h => by simp [spliceO] at h; simp [h]
  | 0, v :: vs, x :: l, r, h => by
    simp only [spliceO, Option.map_eq_some_iff] at h
    obtain ⟨r', h1, rfl⟩ := h
    obtain ⟨h2, h3⟩ := spliceO_eq 0 vs l r' h1
    refine ⟨?_, by simp at h3 ⊢; omega⟩
    simp at h2
    simp [h2]
  | 0, v :: vs, [], r, h => by simp [spliceO] at h
  | k + 1, vs, x :: l, r, h => by
    simp only [spliceO, Option.map_eq_some_iff] at h
    obtain ⟨r', h1, rfl⟩ := h
    obtain ⟨h2, h3⟩ := spliceO_eq k vs l r' h1
    refine ⟨?_, by simp; omega⟩
    rw [h2]
    simp [show k + 1 + vs.length = (k + vs.length) + 1 by omega]
  | k + 1, vs, [], r, h => by simp [spliceO] at h

section
variable {P : Program} {N : Nat} {D : List Deferred} {o : Oper} {env : Env} {R : List Item} {K Kp : AV → List Item → Prop}

/-- Nothing in memory turns; the value. -/
def QOp (P : Program) (N : Nat) (D : List Deferred) (o : Oper) (env : Env) (R : List Item) (v : AV) : Prop :=
  ∀ G W a, Sim N D G env R a W → ∃ c, (execOp a.eval o).run P W = .ok (.value c) W ∧ Rep G v c
theorem AOp.q {v : AV} (h : QOp P N D o env R v) (hk : K v R) : AOp P N D o env R K Kp := by
  intro G W a hs next post h1 h2
  obtain ⟨c, hr, hc⟩ := h G W a hs
  unfold Oper.wp
  rw [hr]
  exact h1 G R c v W (.refl G R W) hs.own hc hk

theorem QOp.move {x : Operand} {v : AV} (ho : o.op = .move x) (hx : ev N env x = some v) : QOp P N D o env R v :=
  (fun G W a hs => ⟨a.eval x, by simp [execOp, ho], ev_rep hs hx⟩)
theorem QOp.assign {x : Operand} {v : AV} (ho : o.op = .assign x) (hx : ev N env x = some v) : QOp P N D o env R v :=
  (fun G W a hs => ⟨a.eval x, by simp [execOp, ho], ev_rep hs hx⟩)
theorem QOp.pickT {c x y : Operand} {v : AV} (ho : o.op = .pick c x y) (hc : ev N env c = some (.v (.bool true))) (hx : ev N env x = some v) : QOp P N D o env R v :=
  (fun G W a hs => ⟨a.eval x, by simp [execOp, ho, (ev_rep hs hc).v_inv, asBool], ev_rep hs hx⟩)
theorem QOp.pickF {c x y : Operand} {v : AV} (ho : o.op = .pick c x y) (hc : ev N env c = some (.v (.bool false))) (hx : ev N env y = some v) : QOp P N D o env R v :=
  (fun G W a hs => ⟨a.eval y, by simp [execOp, ho, (ev_rep hs hc).v_inv, asBool], ev_rep hs hx⟩)

def cmpI : BinOp → Int → Int → Option Bool
  | .eql, a, b => some (a == b)
  | .neq, a, b => some (a != b)
  | .lss, a, b => some (decide (a < b))
  | .leq, a, b => some (decide (a ≤ b))
  | .gtr, a, b => some (decide (a > b))
  | .geq, a, b => some (decide (a ≥ b))
  | _, _, _ => none
def arI : BinOp → Int → Int → Option Int
  | .add, a, b => some (a + b)
  | .sub, a, b => some (a - b)
  | .mul, a, b => some (a * b)
  | _, _, _ => none

theorem QOp.cmp {op : BinOp} {x y : Operand} {t t' : TypeId} {k : IntKind} {a b : Int} {β : Bool} (ho : o.op = .binOp op t x y t') (hx : ev N env x = some (.v (.int k a))) (hy : ev N env y = some (.v (.int k b)))
    (hc : cmpI op a b = some β) : QOp P N D o env R (.v (.bool β)) :=
  (fun G W ac hs => ⟨.bool β, by
    have h1 := (ev_rep hs hx).v_inv
    have h2 := (ev_rep hs hy).v_inv
    cases op <;> simp [cmpI] at hc <;> subst hc <;> simp [execOp, ho, h1, h2, eqGuard, binOp, Op.intCmp], .v⟩)

theorem QOp.ar {op : BinOp} {x y : Operand} {t t' : TypeId} {k : IntKind} {a b n m : Int} (ho : o.op = .binOp op t x y t') (hx : ev N env x = some (.v (.int k a))) (hy : ev N env y = some (.v (.int k b)))
    (hc : arI op a b = some n) (hw : k.wrap n = m) : QOp P N D o env R (.v (.int k m)) :=
  (fun G W ac hs => ⟨.int k m, by
    have h1 := (ev_rep hs hx).v_inv
    have h2 := (ev_rep hs hy).v_inv
    cases op <;> simp [arI] at hc <;> subst hc <;> simp [execOp, ho, h1, h2, eqGuard, binOp, Op.intArith, hw], .v⟩)

/-- An int's sum, difference, product that fits. -/
theorem QOp.ar64 {op : BinOp} {x y : Operand} {t t' : TypeId} {a b n : Int} (ho : o.op = .binOp op t x y t') (hx : ev N env x = some (.v (.int .i64 a))) (hy : ev N env y = some (.v (.int .i64 b)))
    (hc : arI op a b = some n) (hw : -9223372036854775808 ≤ n ∧ n ≤ 9223372036854775807) : QOp P N D o env R (.v (.int .i64 n)) :=
  QOp.ar ho hx hy hc (IntWalk.i64_in n hw)

/-- .. told in other words. -/
theorem QOp.ar64e {op : BinOp} {x y : Operand} {t t' : TypeId} {a b n m : Int} (ho : o.op = .binOp op t x y t') (hx : ev N env x = some (.v (.int .i64 a))) (hy : ev N env y = some (.v (.int .i64 b)))
    (hc : arI op a b = some n) (he : n = m) (hw : -9223372036854775808 ≤ m ∧ m ≤ 9223372036854775807) : QOp P N D o env R (.v (.int .i64 m)) :=
  QOp.ar64 ho hx hy (he ▸ hc) hw

theorem QOp.rem {x y : Operand} {t t' : TypeId} {k : IntKind} {a b : Int} (ho : o.op = .binOp .rem t x y t') (hx : ev N env x = some (.v (.int k a))) (hy : ev N env y = some (.v (.int k b)))
    (hb : b ≠ 0) : QOp P N D o env R (.v (.int k (a.tmod b))) :=
  (fun G W ac hs => ⟨.int k (a.tmod b), by
    have h1 := (ev_rep hs hx).v_inv
    have h2 := (ev_rep hs hy).v_inv
    simp [execOp, ho, h1, h2, eqGuard, binOp, Op.intDiv, hb], .v⟩)
theorem QOp.quo {x y : Operand} {t t' : TypeId} {k : IntKind} {a b : Int} (ho : o.op = .binOp .quo t x y t') (hx : ev N env x = some (.v (.int k a))) (hy : ev N env y = some (.v (.int k b)))
    (hb : b ≠ 0) : QOp P N D o env R (.v (.int k (k.wrap (a.tdiv b)))) :=
  (fun G W ac hs => ⟨.int k (k.wrap (a.tdiv b)), by
    have h1 := (ev_rep hs hx).v_inv
    have h2 := (ev_rep hs hy).v_inv
    simp [execOp, ho, h1, h2, eqGuard, binOp, Op.intDiv, hb], .v⟩)

def cmpS : BinOp → ByteArray → ByteArray → Option Bool
  | .eql, a, b => some (a.data.toList == b.data.toList)
  | .neq, a, b => some (!(a.data.toList == b.data.toList))
  | _, _, _ => none
theorem QOp.cmpStr {op : BinOp} {x y : Operand} {t t' : TypeId} {a b : ByteArray} {β : Bool} (ho : o.op = .binOp op t x y t') (hx : ev N env x = some (.v (.string a))) (hy : ev N env y = some (.v (.string b)))
    (hc : cmpS op a b = some β) : QOp P N D o env R (.v (.bool β)) :=
  (fun G W ac hs => ⟨.bool β, by
    have h1 := (ev_rep hs hx).v_inv
    have h2 := (ev_rep hs hy).v_inv
    cases op <;> simp only [cmpS, Option.some.injEq, reduceCtorEq] at hc <;> subst hc <;> simp [execOp, ho, h1, h2, eqGuard, binOp, Op.stringOp, ByteArray.toList_eq], .v⟩)
theorem QOp.cat {x y : Operand} {t t' : TypeId} {a b : ByteArray} (ho : o.op = .binOp .add t x y t') (hx : ev N env x = some (.v (.string a))) (hy : ev N env y = some (.v (.string b)))
    (hc : a.size + b.size ≤ 9223372036854775807) : QOp P N D o env R (.v (.string (a ++ b))) :=
  (fun G W ac hs => ⟨.string (a ++ b), by
    have h1 := (ev_rep hs hx).v_inv
    have h2 := (ev_rep hs hy).v_inv
    have h3 : ¬ (IntKind.i64.max < ((a.size : Int) + (b.size : Int))) := by
      have : IntKind.i64.max = 9223372036854775807 := by rfl
      omega
    simp [execOp, ho, h1, h2, eqGuard, binOp, Op.stringOp, h3]
    omega, .v⟩)

def cmpB : BinOp → Bool → Bool → Option Bool
  | .eql, a, b => some (a == b)
  | .neq, a, b => some (!(a == b))
  | _, _, _ => none
theorem run_equal_bool {t : TypeId} {td : TD} (hT : TOK P t td) (hd : td.ds = .bl) (a b : Bool) (W : World) : (Op.equal t (.bool a) (.bool b)).run P W = .ok (a == b) W := by
  have h3 := run_underlying (hT.bl hd)
  unfold Op.equal
  rw [show Op.maxDepth = 9999 + 1 from rfl, Op.equalIn]
  simp only [Sem.run_bind, h3, Result.andThen_ok, Sem.run_pure]
theorem QOp.cmpBool {op : BinOp} {x y : Operand} {t t' : TypeId} {td : TD} {a b : Bool} {β : Bool} (ho : o.op = .binOp op t x y t') (hx : ev N env x = some (.v (.bool a))) (hy : ev N env y = some (.v (.bool b)))
    (hT : TOK P t td) (hd : td.ds = .bl) (hc : cmpB op a b = some β) : QOp P N D o env R (.v (.bool β)) :=
  (fun G W ac hs => ⟨.bool β, by
    have h1 := (ev_rep hs hx).v_inv
    have h2 := (ev_rep hs hy).v_inv
    have h3 := run_equal_bool (P := P) hT hd a b W
    cases op <;> simp only [cmpB, Option.some.injEq, reduceCtorEq] at hc <;> subst hc <;> simp [execOp, ho, h1, h2, eqGuard, binOp, h3], .v⟩)

theorem QOp.not {x : Operand} {t : TypeId} {b : Bool} (ho : o.op = .unOp .not t x) (hx : ev N env x = some (.v (.bool b))) : QOp P N D o env R (.v (.bool !b)) :=
  (fun G W a hs => ⟨.bool !b, by simp [execOp, ho, (ev_rep hs hx).v_inv, Op.unary], .v⟩)

theorem QOp.conv {x : Operand} {s t : TypeId} {td tds : TD} {k k' : IntKind} {n m : Int} (ho : o.op = .convert s t x) (hx : ev N env x = some (.v (.int k n))) (hT : TOK P t td) (hd : td.ds = .int k') (hS : TOK P s tds) (hm : k'.wrap n = m) : QOp P N D o env R (.v (.int k' m)) :=
  (fun G W a hs => by
    obtain ⟨ds, hS, _⟩ := hS.und
    exact ⟨.int k' m, by simp [execOp, ho, (ev_rep hs hx).v_inv, convert, run_underlying hS, run_underlying (hT.int hd), Conv.intToInt, hm], .v⟩)

theorem QOp.extract {x : Operand} {l : List AV} {i : Nat} {v : AV} (ho : o.op = .extract x i) (hx : ev N env x = some (.tup l)) (hi : l[i]? = some v) : QOp P N D o env R v :=
  (fun G W a hs => by
    obtain ⟨cs, h1, h2⟩ := (ev_rep hs hx).tup_inv
    obtain ⟨c, h3, h4⟩ := h2.2 i v hi
    exact ⟨c, by simp [execOp, ho, h1, Instr.extract, h3], h4⟩)

theorem QOp.nilCheckM {x : Operand} {m k : Nat} (ho : o.op = .nilCheck x) (hx : ev N env x = some (.mp m k)) : QOp P N D o env R (.mp m k) :=
  (fun G W a hs => by
    obtain ⟨b, h1, h2⟩ := (ev_rep hs hx).mp_inv
    exact ⟨_, by simp only [execOp, ho, h1]; rfl, .mp h2⟩)
theorem QOp.nilCheckI {x : Operand} {cells : List AV} (ho : o.op = .nilCheck x) (hx : ev N env x = some (.ip cells)) : QOp P N D o env R (.ip cells) :=
  (fun G W a hs => by
    obtain ⟨b, o', h1, h2⟩ := (ev_rep hs hx).ip_inv
    exact ⟨_, by simp only [execOp, ho, h1]; rfl, .ip h2⟩)

theorem run_fieldAt {s : TypeId} {td : TD} {l : List (Nat × Nat)} {f off sz : Nat} (hT : TOK P s td) (hd : td.ds = .st l) (hf : l[f]? = some (off, sz)) (hz : sz ≠ 0) (b k : Nat) (W : World) :
    (Instr.fieldAt s (.pointer (some ⟨b, k, none⟩)) f).run P W = .ok (.pointer (some ⟨b, k + off, none⟩)) W := by
  obtain ⟨fs, h1, h2⟩ := hT.st hd
  subst h2
  rw [List.getElem?_map, Option.map_eq_some_iff] at hf
  obtain ⟨fd, hfd, he⟩ := hf
  simp only [Prod.mk.injEq] at he
  obtain ⟨rfl, rfl⟩ := he
  have hfs : fs[f]? = some fd := by simpa using hfd
  have hsz : (Go.sizeOf fd.type).run P W = .ok (P.cellsOf fd.type) W := by
    unfold Program.cellsOf at hz ⊢
    cases hi : P.info? fd.type with
    | none => rw [hi] at hz; simp at hz
    | some i => simp [Go.sizeOf, typeInfo, hi]
  simp [Instr.fieldAt, run_underlying h1, hfs, Instr.sureAddr, fieldPlace, hsz, hz, add0]

theorem QOp.fieldM {s : TypeId} {td : TD} {l : List (Nat × Nat)} {x : Operand} {f off sz m k n : Nat} (ho : o.op = .fieldAddr s x f) (hx : ev N env x = some (.mp m k)) (hT : TOK P s td) (hd : td.ds = .st l)
    (hf : l[f]? = some (off, sz)) (hz : sz ≠ 0) (hn : k + off = n) : QOp P N D o env R (.mp m n) :=
  (fun G W a hs => by
    obtain ⟨b, h1, h2⟩ := (ev_rep hs hx).mp_inv
    subst hn
    exact ⟨_, by simp [execOp, ho, h1, run_fieldAt hT hd hf hz], .mp h2⟩)
theorem QOp.fieldI {s : TypeId} {td : TD} {l : List (Nat × Nat)} {x : Operand} {f off sz : Nat} {cells cells' : List AV} (ho : o.op = .fieldAddr s x f) (hx : ev N env x = some (.ip cells)) (hT : TOK P s td) (hd : td.ds = .st l)
    (hf : l[f]? = some (off, sz)) (hz : sz ≠ 0) (hn : dropO off cells = some cells') : QOp P N D o env R (.ip cells') :=
  (fun G W a hs => by
    obtain ⟨b, o', h1, h2⟩ := (ev_rep hs hx).ip_inv
    obtain ⟨rfl, _⟩ := dropO_eq _ _ _ hn
    exact ⟨.pointer (some ⟨b, o' + off, none⟩), by simp [execOp, ho, h1, run_fieldAt hT hd hf hz], .ip fun j y hy => by
      rw [List.getElem?_drop] at hy
      have := h2 _ _ hy
      rwa [← Nat.add_assoc] at this⟩)

/-! Loads. -/
def aload (td : TD) (l : List AV) (k : Nat) : Option AV :=
  match td.ds.agg with
  | true => (dropO k l).bind fun l' => (takeO td.size l').map .agg
  | false => l[k]?

theorem run_loadVar {t : TypeId} {td : TD} (hT : TOK P t td) {G : Gh} {W : World} {l : List AV} {b o k : Nat} {v : AV} (hl : ∀ (j : Nat) (x : AV), l[j]? = some x → ∃ c : Value, W.cell? ⟨b, o + j, none⟩ = some c ∧ Rep G x c)
    (hv : aload td l k = some v) : ∃ c, (loadVar t ⟨b, o + k, none⟩).run P W = .ok c W ∧ Rep G v c := by
  unfold aload at hv
  cases hag : td.ds.agg with
  | false =>
    rw [hag] at hv
    obtain ⟨c, h1, h2⟩ := hl k v hv
    exact ⟨c, by simp [loadVar, hT.agg W, hag, h1], h2⟩
  | true =>
    rw [hag] at hv
    simp only [Option.bind_eq_some_iff, Option.map_eq_some_iff] at hv
    obtain ⟨l', h1, l'', h2, rfl⟩ := hv
    obtain ⟨rfl, h3⟩ := dropO_eq _ _ _ h1
    obtain ⟨rfl, h4⟩ := takeO_eq _ _ _ h2
    have hcell : ∀ j, j < td.size → ∃ c x, W.cell? ⟨b, o + (k + j), none⟩ = some c ∧ l[k + j]? = some x ∧ Rep G x c := by
      intro j hj
      simp only [List.length_drop] at h4
      have hlt : k + j < l.length := by omega
      obtain ⟨c, q1, q2⟩ := hl (k + j) l[k + j] (by simp [hlt])
      exact ⟨c, _, q1, by simp [hlt], q2⟩
    let f : Nat → Value := fun j => (W.cell? ⟨b, o + (k + j), none⟩).getD undef
    have hrun := run_loadCells (P := P) W ⟨b, o + k, none⟩ td.size f (fun j hj => by
      obtain ⟨c, x, q1, _⟩ := hcell j hj
      rw [add0, Nat.add_assoc]
      simp only [f]
      rw [q1]; rfl)
    refine ⟨.agg ((List.range td.size).map f).toArray, by simp [loadVar, hT.agg W, hag, hT.sizeOf W, hrun], Reps.agg ⟨?_, fun i x hx => ?_⟩⟩
    · simp only [List.length_take, List.length_drop, List.size_toArray, List.length_map, List.length_range]
      simp only [List.length_drop] at h4
      omega
    · rw [List.getElem?_take] at hx
      split at hx
      · rename_i hi
        rw [List.getElem?_drop] at hx
        obtain ⟨c, x', q1, q2, q3⟩ := hcell i hi
        rw [hx] at q2
        injection q2 with q2
        subst q2
        exact ⟨c, by simp [f, hi, q1], q3⟩
      · cases hx

theorem cells_of_mu {G : Gh} {R : List Item} {W : World} (h : Own G R W) {m : Nat} {cells : List AV} (hm : Item.mu m cells ∈ R) {b : Nat} (hb : G.loc m = some b) :
    ∀ (j : Nat) (x : AV), cells[j]? = some x → ∃ c : Value, W.cell? ⟨b, 0 + j, none⟩ = some c ∧ Rep G x c := by
  intro j x hx
  obtain ⟨b', cs, e, h1, h2, h3, h4, h5, h6⟩ := (h.items _ hm).resolve_left (fun h0 => by rw [hb] at h0; exact absurd h0.2.1 (by simp))
  rw [hb] at h1; injection h1 with h1; subst h1
  obtain ⟨c, q1, q2, _⟩ := h6 j x hx
  exact ⟨c, by simp [World.cell?, h2, q1], q2⟩
theorem cells_of_per {G : Gh} {R : List Item} {W : World} (h : Own G R W) {b o' : Nat} {cells : List AV} (hp : ∀ (j : Nat) (x : AV), cells[j]? = some x → (G.per b)[o' + j]? = some x) :
    ∀ (j : Nat) (x : AV), cells[j]? = some x → ∃ c : Value, W.cell? ⟨b, o' + j, none⟩ = some c ∧ Rep G x c ∧ c.oneCell' = true := by
  intro j x hx
  have h0 := hp j x hx
  obtain ⟨cs, e, h1, h2, h3⟩ := h.per b (by intro hn; rw [hn] at h0; simp at h0)
  obtain ⟨c, q1, q2, q3⟩ := h3 _ _ h0
  exact ⟨c, by simp [World.cell?, h1, q1], q2, q3⟩

theorem QOp.loadM (i : Nat) {t : TypeId} {td : TD} {x : Operand} {m k : Nat} {cells : List AV} {v : AV} (ho : o.op = .load t x) (hx : ev N env x = some (.mp m k)) (hi : R[i]? = some (.mu m cells)) (hT : TOK P t td) (hv : aload td cells k = some v)
    : QOp P N D o env R v :=
  (fun G W a hs => by
    obtain ⟨b, h1, h2⟩ := (ev_rep hs hx).mp_inv
    obtain ⟨c, h3, h4⟩ := run_loadVar hT (o := 0) (cells_of_mu hs.own (List.mem_of_getElem? hi) h2) hv
    rw [Nat.zero_add] at h3
    exact ⟨c, by simp [execOp, ho, h1, Instr.loadAt, Instr.sureAddr, h3], h4⟩)
theorem QOp.loadI {t : TypeId} {td : TD} {x : Operand} {cells : List AV} {v : AV} (ho : o.op = .load t x) (hx : ev N env x = some (.ip cells)) (hT : TOK P t td) (hv : aload td cells 0 = some v)
    : QOp P N D o env R v :=
  (fun G W a hs => by
    obtain ⟨b, o', h1, h2⟩ := (ev_rep hs hx).ip_inv
    obtain ⟨c, h3, h4⟩ := run_loadVar hT (o := o') (fun j y hy => let ⟨c, q1, q2, _⟩ := cells_of_per hs.own h2 j y hy; ⟨c, q1, q2⟩) hv
    rw [Nat.add_zero] at h3
    exact ⟨c, by simp [execOp, ho, h1, Instr.loadAt, Instr.sureAddr, h3], h4⟩)

/-! What is one cell. -/
def AV.one : AV → Bool
  | .v x => x.oneCell'
  | .agg _ | .tup _ | .any => false
  | _ => true
theorem Rep.one {G : Gh} {x : AV} {c : Value} (h : Rep G x c) (hx : x.one = true) : c.oneCell' = true := by
  cases h <;> first | (simp [AV.one] at hx; done) | exact hx | rfl

/-- A value's cells, if each is one cell. -/
def cellsO : AV → Option (List AV)
  | .agg l => if l.all AV.one then some l else none
  | x => if x.one then some [x] else none
theorem cellsO_rep {G : Gh} {x : AV} {c : Value} {l : List AV} (h : Rep G x c) (hx : cellsO x = some l) : Cells G l c.cells.toList := by
  have single : ∀ x c, Rep G x c → x.one = true → c.cells = #[c] → Cells G [x] c.cells.toList := by
    intro x c h h1 h2
    rw [h2]
    refine ⟨rfl, fun j y hy => ?_⟩
    cases j with
    | zero => simp at hy; subst hy; exact ⟨c, by simp, h, h.one h1⟩
    | succ j => simp at hy
  cases h with
  | agg hl hh =>
    rename_i l0 cs
    simp only [cellsO] at hx
    split at hx
    · rename_i hall
      injection hx with hx
      subst hx
      rw [List.all_eq_true] at hall
      refine ⟨by simp [Value.cells, hl], fun j y hy => ?_⟩
      obtain ⟨c, h1, h2⟩ := (Reps.of hl hh).2 j y hy
      exact ⟨c, by simpa [Value.cells] using h1, h2, h2.one (hall y (List.mem_of_getElem? hy))⟩
    · cases hx
  | v =>
    simp only [cellsO] at hx
    split at hx
    · rename_i h1
      injection hx with hx; subst hx
      refine single _ _ .v h1 ?_
      cases c <;> first | rfl | (simp [AV.one, Value.oneCell'] at h1)
    · cases hx
  | any => simp [cellsO, AV.one] at hx
  | tup hl hh => simp [cellsO, AV.one] at hx
  | ilnil => simp [cellsO, AV.one] at hx; subst hx; exact single _ _ .ilnil rfl rfl
  | il hn hr hp hc hz ht hmax => simp [cellsO, AV.one] at hx; subst hx; exact single _ _ (.il hn hr hp hc hz ht hmax) rfl rfl
  | ip hp => simp [cellsO, AV.one] at hx; subst hx; exact single _ _ (.ip hp) rfl rfl
  | mp h => simp [cellsO, AV.one] at hx; subst hx; exact single _ _ (.mp h) rfl rfl
  | slnil => simp [cellsO, AV.one] at hx; subst hx; exact single _ _ .slnil rfl rfl
  | sl h hc hz hmax => simp [cellsO, AV.one] at hx; subst hx; exact single _ _ (.sl h hc hz hmax) rfl rfl
  | fn a1 a2 a3 a4 => simp [cellsO, AV.one] at hx; subst hx; exact single _ _ (.fn a1 a2 a3 a4) rfl rfl
  | ifc h => simp [cellsO, AV.one] at hx; subst hx; exact single _ _ (.ifc h) rfl rfl
  | mpv h => simp [cellsO, AV.one] at hx; subst hx; exact single _ _ (.mpv h) rfl rfl
  | itv h h' => simp [cellsO, AV.one] at hx; subst hx; exact single _ _ (.itv h h') rfl rfl

theorem cellsO_length {G : Gh} {x : AV} {c : Value} {l : List AV} (h : Rep G x c) (hx : cellsO x = some l) : c.cells.size = l.length := by
  have := (cellsO_rep h hx).1
  simpa using this.symm

/-- An operation that writes or makes memory. -/
theorem AOp.acts {v : AV} {R' : List Item} (h : ∀ G W a, Sim N D G env R a W → ∃ c W' G' R' v, (execOp a.eval o).run P W = .ok (.value c) W' ∧ Ext G R W G' R' W' ∧ Own G' R' W' ∧ Rep G' v c ∧ K v R') : AOp P N D o env R K Kp := by
  intro G W a hs next post h1 h2
  obtain ⟨c, W', G', R', v, hr, hE, hO, hc, hk⟩ := h G W a hs
  unfold Oper.wp
  rw [hr]
  exact h1 G' R' c v W' hE hO hc hk
theorem AOp.actsU (h : ∀ G W a, Sim N D G env R a W → ∃ W' G' R', (execOp a.eval o).run P W = .ok .skip W' ∧ Ext G R W G' R' W' ∧ Own G' R' W' ∧ K .any R') : AOp P N D o env R K Kp := by
  intro G W a hs next post h1 h2
  obtain ⟨W', G', R', hr, hE, hO, hk⟩ := h G W a hs
  unfold Oper.wp
  rw [hr]
  exact h1 G' R' undef .any W' hE hO .any hk

theorem AOp.alloc {t : TypeId} {td : TD} (ho : o.op = .alloc t) (hT : TOK P t td) (hz : td.zero.all (·.oneCell') = true) (hk : ∀ m, K (.mp m 0) (R ++ [.mu m (td.zero.map .v)])) : AOp P N D o env R K Kp :=
  .acts (v := .any) (R' := []) fun G W a hs => by
    obtain ⟨z, h1, h2⟩ := hT.zeroValue W
    obtain ⟨G', m, hE, hO, hl, _⟩ := hs.own.newMu (OneMore.alloc W z.cells t) (td.zero.map .v) (by simp [← h2]) (fun j x hx => by
      rw [List.getElem?_map, Option.map_eq_some_iff] at hx
      obtain ⟨c, hc, rfl⟩ := hx
      exact ⟨c, by rw [← h2] at hc; simpa using hc, .v, (List.all_eq_true.1 hz) c (List.mem_of_getElem? hc)⟩)
    refine ⟨.pointer (some ⟨W.heap.size, 0, none⟩), _, G', _, .mp m 0, ?_, hE, hO, .mp hl, hk m⟩
    simp [execOp, ho, Instr.alloc, h1, newVar, newRow]

theorem AOp.box {t : TypeId} {x : Operand} {v : AV} {l : List AV} (ho : o.op = .box t x) (hx : ev N env x = some v) (hl : cellsO v = some l) (hk : ∀ m, K (.mp m 0) (R ++ [.mu m l])) : AOp P N D o env R K Kp :=
  .acts (v := .any) (R' := []) fun G W a hs => by
    have hr := ev_rep hs hx
    have hc := cellsO_rep hr hl
    obtain ⟨G', m, hE, hO, hlo, _⟩ := hs.own.newMu (OneMore.alloc W (a.eval x).cells t) l (by rw [cellsO_length hr hl]; exact Nat.le_refl _) (fun j y hy => by
      obtain ⟨c, h1, h2⟩ := hc.2 j y hy
      exact ⟨c, by simpa using h1, h2⟩)
    refine ⟨.pointer (some ⟨W.heap.size, 0, none⟩), _, G', _, .mp m 0, ?_, hE, hO, .mp hlo, hk m⟩
    simp [execOp, ho, Instr.box, newVar, newRow]

theorem splice_cells {G : Gh} {l vs r : List AV} {cs ws : List Value} {k : Nat} (hl : l.length ≤ cs.length) (hc : ∀ (j : Nat) (x : AV), l[j]? = some x → ∃ c : Value, cs[j]? = some c ∧ Rep G x c ∧ c.oneCell' = true) (hv : Cells G vs ws) (hs : spliceO k vs l = some r) :
    r.length = l.length ∧ ∀ (j : Nat) (x : AV), r[j]? = some x → ∃ c : Value, (cs.take k ++ ws ++ cs.drop (k + ws.length))[j]? = some c ∧ Rep G x c ∧ c.oneCell' = true := by
  obtain ⟨rfl, hle⟩ := spliceO_eq _ _ _ _ hs
  refine ⟨by simp; omega, fun j x hx => ?_⟩
  have hkc : k ≤ cs.length := by omega
  have hkl : k ≤ l.length := by omega
  rw [List.append_assoc] at hx ⊢
  by_cases h1 : j < k
  · rw [List.getElem?_append_left (by simp; omega), List.getElem?_take, if_pos h1] at hx
    rw [List.getElem?_append_left (by simp; omega), List.getElem?_take, if_pos h1]
    exact hc j x hx
  · rw [List.getElem?_append_right (by simp; omega)] at hx ⊢
    simp only [List.length_take, Nat.min_eq_left hkc, Nat.min_eq_left hkl] at hx ⊢
    by_cases h2 : j - k < vs.length
    · rw [List.getElem?_append_left h2] at hx
      rw [List.getElem?_append_left (by rw [← hv.1]; exact h2)]
      exact hv.2 _ x hx
    · rw [List.getElem?_append_right (by omega)] at hx
      rw [List.getElem?_append_right (by rw [← hv.1]; omega)]
      rw [List.getElem?_drop] at hx ⊢
      rw [hv.1] at hx
      exact hc _ x hx

theorem AOp.store (i : Nat) {t : TypeId} {td : TD} {x y : Operand} {m k : Nat} {cells vs cells' : List AV} {v : AV} {R1 R2 : List Item} (ho : o.op = .store t x y) (hx : ev N env x = some (.mp m k)) (hy : ev N env y = some v) (hT : TOK P t td)
    (hi : R = R1 ++ .mu m cells :: R2) (hv : cellsO v = some vs) (hsz : vs.length = td.size) (hs : spliceO k vs cells = some cells') (hk : K .any (R1 ++ .mu m cells' :: R2)) : AOp P N D o env R K Kp :=
  .actsU fun G W a hsim => by
    obtain ⟨b, h1, h2⟩ := (ev_rep hsim hx).mp_inv
    have hr := ev_rep hsim hy
    have hc := cellsO_rep hr hv
    obtain ⟨b', cs, e, q1, q2, q3, q4, q5, q6⟩ := (hsim.own.items (.mu m cells) (by rw [hi]; simp)).resolve_left (fun h0 => by rw [h2] at h0; exact absurd h0.2.1 (by simp))
    rw [h2] at q1; injection q1 with q1; subst q1
    have hspl := spliceO_eq _ _ _ _ hs
    have hst := run_storeCells_at P b k e (a.eval y).cells.toList 0 cs W q2 (by rw [← hc.1]; omega) (fun u hu => by
      obtain ⟨j, hj⟩ := List.getElem?_of_mem hu
      have hlt : j < vs.length := by rw [hc.1]; exact (List.getElem?_eq_some_iff.1 hj).1
      obtain ⟨c, w1, w2, w3⟩ := hc.2 j vs[j] (by simp [hlt])
      rw [hj] at w1; injection w1 with w1; subst w1; exact w3)
    simp only [Nat.add_zero] at hst
    have hsp := splice_cells (cs := cs.toList) (by simpa using q4) (fun j y hy => by obtain ⟨c, w1, w2⟩ := q6 j y hy; exact ⟨c, by simpa using w1, w2⟩) hc hs
    have hlen : (cs.toList.take k ++ (a.eval y).cells.toList ++ cs.toList.drop (k + (a.eval y).cells.toList.length)).toArray.size = cs.size := by
      have := hc.1
      simp at this ⊢
      omega
    obtain ⟨hE, hO⟩ := hsim.own.setMu (W' := W.setRow b (cs.toList.take k ++ (a.eval y).cells.toList ++ cs.toList.drop (k + (a.eval y).cells.toList.length)).toArray) hi h2 q2 rfl rfl rfl (by simp [World.setRow])
      (setRow_heap W b cs _ e _ q2) (fun k' hk' => setRow_other W b k' _ hk') hlen (by rw [hlen, hsp.1]; exact q4) (fun j y hy => by obtain ⟨c, w1, w2⟩ := hsp.2 j y hy; exact ⟨c, by simpa using w1, w2⟩)
    refine ⟨_, G, _, ?_, hE, hO, hk⟩
    have hsize : (a.eval y).cells.size = td.size := by rw [cellsO_length hr hv]; exact hsz
    simp [execOp, ho, h1, Instr.storeAt, Instr.sureAddr, storeVar, hT.sizeOf W, hsize, hst]

end
end Go.Abs
set_option linter.unusedVariables false
set_option linter.unusedSimpArgs false
namespace Go.Abs

/-! Building. -/
def evParts (N : Nat) (env : Env) : List (Nat × Operand) → Option (List (Nat × List AV))
  | [] => some []
  | (i, x) :: l => (ev N env x).bind fun v => (cellsO v).bind fun c => (evParts N env l).map ((i, c) :: ·)
def fillO (place : Nat → Option (Nat × Nat)) (cells : List AV) : List (Nat × List AV) → Option (List AV)
  | [] => some cells
  | (i, vs) :: rest => (place i).bind fun p => if vs.length = p.2 then (spliceO p.1 vs cells).bind fun c => fillO place c rest else none

theorem foldl_set (off : Nat) : ∀ (vs : List Value) (k : Nat) (cs : Array Value), off + k + vs.length ≤ cs.size →
    ((vs.zipIdx k).foldl (fun cs (p : Value × Nat) => cs.setIfInBounds (off + p.2) p.1) cs).toList = cs.toList.take (off + k) ++ vs ++ cs.toList.drop (off + k + vs.length)
  | [], k, cs, _ => by simp
  | v :: vs, k, cs, h => by
    simp only [List.zipIdx_cons, List.foldl_cons]
    rw [foldl_set off vs (k + 1) (cs.setIfInBounds (off + k) v) (by simp at h ⊢; omega)]
    have e := list_seg_step cs.toList (off + k) v vs (by simp at h ⊢; omega)
    simpa [Array.toList_setIfInBounds, Nat.add_assoc] using e

section
variable {P : Program} {N : Nat} {D : List Deferred} {o : Oper} {env : Env} {R : List Item} {K Kp : AV → List Item → Prop}

theorem fill_rep {G : Gh} {pl : Nat → Option (Nat × Nat)} {place : Nat → Option (Nat × Nat)} (hpl : ∀ i p, pl i = some p → place i = some p) {ρ : Operand → Value} (hρ : ∀ x v, ev N env x = some v → Rep G v (ρ x)) :
    ∀ (ps : List (Nat × Operand)) (avs : List (Nat × List AV)) (cells r : List AV) (cs : Array Value), evParts N env ps = some avs → fillO pl cells avs = some r → Cells G cells cs.toList →
      ∃ cs', Instr.fill place cs (ps.map fun p => (p.1, ρ p.2)) = some cs' ∧ Cells G r cs'.toList
  | [], avs, cells, r, cs, h1, h2, h3 => by
    simp [evParts] at h1; subst h1
    simp [fillO] at h2; subst h2
    exact ⟨cs, rfl, h3⟩
  | (i, x) :: ps, avs, cells, r, cs, h1, h2, h3 => by
    simp only [evParts, Option.bind_eq_some_iff, Option.map_eq_some_iff] at h1
    obtain ⟨v, hv, c, hc, avs', ha, rfl⟩ := h1
    simp only [fillO, Option.bind_eq_some_iff] at h2
    obtain ⟨p, hp, h2⟩ := h2
    split at h2
    · rename_i hlen
      simp only [Option.bind_eq_some_iff] at h2
      obtain ⟨cells', hs, h2⟩ := h2
      have hr := hρ x v hv
      have hcr := cellsO_rep hr hc
      have hspl := spliceO_eq _ _ _ _ hs
      have hsz : (ρ x).cells.size = p.2 := by rw [cellsO_length hr hc]; exact hlen
      have hle : p.1 + (ρ x).cells.size ≤ cs.size := by
        have := h3.1
        simp at this
        rw [cellsO_length hr hc]; omega
      have hsp := splice_cells (cs := cs.toList) (by rw [h3.1]; exact Nat.le_refl _) h3.2 hcr hs
      let cs2 : Array Value := (ρ x).cells.zipIdx.foldl (fun cs (p' : Value × Nat) => cs.setIfInBounds (p.1 + p'.2) p'.1) cs
      have hcs2 : cs2.toList = cs.toList.take p.1 ++ (ρ x).cells.toList ++ cs.toList.drop (p.1 + (ρ x).cells.toList.length) := by
        have := foldl_set p.1 (ρ x).cells.toList 0 cs (by simpa using hle)
        simp only [Nat.add_zero] at this
        rw [← this]
        simp only [cs2]
        rw [← Array.foldl_toList]
        simp
      have h3' : Cells G cells' cs2.toList := by
        rw [hcs2]
        refine ⟨?_, hsp.2⟩
        have := h3.1
        rw [hsp.1, this]
        simp at hle ⊢
        omega
      obtain ⟨cs', q1, q2⟩ := fill_rep hpl hρ ps avs' cells' r cs2 ha h2 h3'
      refine ⟨cs', ?_, q2⟩
      rw [← q1]
      simp only [List.map_cons, Instr.fill, hpl i p hp]
      rw [if_neg (by simp [hsz]; rw [← hsz]; omega)]
    · cases h2

theorem mapM_places (P : Program) : ∀ (fs : List Go.Field), (∀ p ∈ fs.map (fun f => (f.offset, P.cellsOf f.type)), p.2 ≠ 0) → ∀ W : World,
    (fs.mapM (fun f => (do pure (f.offset, ← Go.sizeOf f.type) : Sem (Nat × Nat)))).run P W = .ok (fs.map fun f => (f.offset, P.cellsOf f.type)) W
  | [], _, W => by simp
  | f :: fs, h, W => by
    have hz : P.cellsOf f.type ≠ 0 := h (f.offset, P.cellsOf f.type) (by simp)
    have hsz : (Go.sizeOf f.type).run P W = .ok (P.cellsOf f.type) W := by
      unfold Program.cellsOf at hz ⊢
      cases hi : P.info? f.type with
      | none => rw [hi] at hz; simp at hz
      | some i => simp [Go.sizeOf, typeInfo, hi]
    have ih := mapM_places P fs (fun p hp => h p (by simp only [List.map_cons, List.mem_cons]; exact .inr hp)) W
    simp only [List.mapM_cons, Sem.run_bind, hsz, Result.andThen_ok, Sem.run_pure, ih, List.map_cons]

theorem zeroCells_rep {G : Gh} {z : List Value} (hz : z.all (·.oneCell') = true) : Cells G (z.map .v) z :=
  ⟨by simp, fun j x hx => by
    rw [List.getElem?_map, Option.map_eq_some_iff] at hx
    obtain ⟨c, hc, rfl⟩ := hx
    exact ⟨c, hc, .v, (List.all_eq_true.1 hz) c (List.mem_of_getElem? hc)⟩⟩

theorem QOp.build {t : TypeId} {td : TD} {ps : Array (Nat × Operand)} {l : List (Nat × Nat)} {avs : List (Nat × List AV)} {cells : List AV} (ho : o.op = .build t ps) (hT : TOK P t td) (hd : td.ds = .st l) (hnz : l.all (fun p => p.2 != 0) = true)
    (hz : td.zero.all (·.oneCell') = true) (hp : evParts N env ps.toList = some avs) (hf : fillO (fun i => l[i]?) (td.zero.map .v) avs = some cells) : QOp P N D o env R (.agg cells) :=
  (fun G W a hs => by
    obtain ⟨z, h1, h2⟩ := hT.zeroValue W
    obtain ⟨fs, h3, h4⟩ := hT.st hd
    have hm := mapM_places P fs.toList (by rw [h4]; intro p hp; simpa using (List.all_eq_true.1 hnz) p hp) W
    have hm' : (fs.mapM (fun f => (do pure (f.offset, ← Go.sizeOf f.type) : Sem (Nat × Nat)))).run P W = .ok l.toArray W := by
      rw [← h4]
      have : (fs.mapM (fun f => (do pure (f.offset, ← Go.sizeOf f.type) : Sem (Nat × Nat)))) = (List.toArray <$> fs.toList.mapM (fun f => (do pure (f.offset, ← Go.sizeOf f.type) : Sem (Nat × Nat)))) := by
        rw [Array.mapM_eq_mapM_toList]
      rw [this, Sem.run_map, hm]
      rfl
    obtain ⟨cs', h5, h6⟩ := fill_rep (G := G) (place := fun i => l.toArray[i]?) (pl := fun i => l[i]?) (by intro i p hp; simpa using hp) (ρ := a.eval) (fun x v hx => ev_rep hs hx) ps.toList avs (td.zero.map .v) cells z.cells hp hf (by rw [h2]; exact zeroCells_rep hz)
    refine ⟨.agg cs', ?_, h6.reps.agg⟩
    have h7 : Instr.fill (fun i => l.toArray[i]?) z.cells (ps.map fun p => (p.1, a.eval p.2)).toList = some cs' := by rw [← h5]; simp
    simp only [execOp, ho, Instr.build, Sem.run_bind, h1, Result.andThen_ok, run_underlying h3, hm']
    have h8 : (ps.map fun (x : Nat × Operand) => (match x with | (i, x) => (i, a.eval x))) = ps.map fun p => (p.1, a.eval p.2) := rfl
    rw [h8, h7]
    simp)

/-! Rows. -/
def rowsO {α : Type} (sz : Nat) : Nat → List α → Option (List (List α))
  | 0, [] => some []
  | n + 1, l => (takeO sz l).bind fun r => (dropO sz l).bind fun l' => (rowsO sz n l').map (r :: ·)
  | _, _ => none
theorem rowsO_eq {α : Type} (sz : Nat) : ∀ (n : Nat) (l : List α) (rows : List (List α)), rowsO sz n l = some rows → rows.flatten = l ∧ rows.length = n ∧ ∀ r ∈ rows, r.length = sz
  | 0, [], rows, h => by simp [rowsO] at h; subst h; simp
  | n + 1, l, rows, h => by
    simp only [rowsO, Option.bind_eq_some_iff, Option.map_eq_some_iff] at h
    obtain ⟨r, h1, l', h2, rows', h3, rfl⟩ := h
    obtain ⟨rfl, h4⟩ := takeO_eq _ _ _ h1
    obtain ⟨rfl, _⟩ := dropO_eq _ _ _ h2
    obtain ⟨h5, h6, h7⟩ := rowsO_eq sz n _ rows' h3
    refine ⟨by simp [h5], by simp [h6], fun r hr => ?_⟩
    rcases List.mem_cons.1 hr with rfl | hr
    · simp; omega
    · exact h7 r hr
  | 0, x :: l, rows, h => by simp [rowsO] at h

def zerosO {α : Type} (z : List α) : Nat → List α
  | 0 => []
  | n + 1 => z ++ zerosO z n
theorem zerosO_length {α : Type} (z : List α) : ∀ n, (zerosO z n).length = n * z.length
  | 0 => by simp [zerosO]
  | n + 1 => by simp [zerosO, zerosO_length z n, Nat.add_mul]; omega
theorem zerosO_get {α : Type} (z : List α) (hz : 0 < z.length) : ∀ n j, j < n * z.length → (zerosO z n)[j]? = z[j % z.length]?
  | 0, j, h => by simp at h
  | n + 1, j, h => by
    simp only [zerosO]
    by_cases hj : j < z.length
    · rw [List.getElem?_append_left hj, Nat.mod_eq_of_lt hj]
    · rw [List.getElem?_append_right (by omega), zerosO_get z hz n _ (by rw [Nat.add_mul] at h; omega)]
      congr 1
      rw [← Nat.mod_eq_sub_mod (by omega)]
theorem zerosO_map {α β : Type} (f : α → β) (z : List α) : ∀ n, zerosO (z.map f) n = (zerosO z n).map f
  | 0 => rfl
  | n + 1 => by simp [zerosO, zerosO_map f z n]
theorem zerosO_all {α : Type} (p : α → Bool) (z : List α) (h : z.all p = true) : ∀ n, (zerosO z n).all p = true
  | 0 => rfl
  | n + 1 => by simp only [zerosO, List.all_append, h, zerosO_all p z h n, Bool.and_self]

theorem range_mod (z : Array Value) (hz : 0 < z.size) (n : Nat) : ((Array.range (n * z.size)).map (z[· % z.size]!)).toList = zerosO z.toList n := by
  apply List.ext_getElem?
  intro j
  by_cases hj : j < n * z.size
  · rw [zerosO_get z.toList (by simpa using hz) n j (by simpa using hj)]
    have hm : j % z.size < z.size := Nat.mod_lt _ hz
    simp [hj, hm]
  · rw [List.getElem?_eq_none (by simp; omega), List.getElem?_eq_none (by rw [zerosO_length]; simpa using (Nat.le_of_not_lt hj))]

theorem map_range0 {β : Type} (f : Nat → β) : Array.map f (Array.range 0) = #[] := by apply Array.ext'; simp
theorem run_buildSlice {t : TypeId} {td tde : TD} {e len : Nat} {ps : Array (Nat × Operand)} {avs : List (Nat × List AV)} {cells : List AV} (hT : TOK P t td) (hd : td.ds = .sli e) (hE : TOK P e tde) (hsz : 0 < tde.size) (hzl : tde.zero.length = tde.size) (hlen : len * tde.size ≤ 2 ^ 24)
    (hz : tde.zero.all (·.oneCell') = true) (hp : evParts N env ps.toList = some avs) (hf : fillO (fun i => some (i * tde.size, tde.size)) (zerosO (tde.zero.map .v) len) avs = some cells)
    {G : Gh} {W : World} {a : Act} (hs : Sim N D G env R a W) :
    ∃ cs : Array Value, (Instr.buildSlice t len (ps.map fun p => (p.1, a.eval p.2))).run P W = .ok (.slice (some ⟨W.heap.size, 0, none⟩) len len) (W.alloc (.cells cs e)) ∧ Cells G cells cs.toList ∧ cs.size = len * tde.size := by
  have hu := run_underlying (hT.sli hd)
  obtain ⟨z, h1, h2⟩ := hE.zeroValue W
  have hzs : z.cells.size = tde.size := by rw [← hzl, ← h2]; simp
  have hinit : ((Array.range (len * tde.size)).map (z.cells[· % z.cells.size]!)).toList = zerosO tde.zero len := by
    rw [← hzs, range_mod z.cells (by omega), h2]
  have hlenr : ∀ r : List AV, Cells G r [] → r = [] := fun r h => List.eq_nil_of_length_eq_zero (by simpa using h.1)
  obtain ⟨cs', h5, h6⟩ := fill_rep (G := G) (place := fun i => some (i * tde.size, tde.size)) (pl := fun i => some (i * tde.size, tde.size)) (fun i p hp => hp) (ρ := a.eval) (fun x v hx => ev_rep hs hx) ps.toList avs (zerosO (tde.zero.map .v) len) cells
    ((Array.range (len * tde.size)).map (z.cells[· % z.cells.size]!)) hp hf (by rw [hinit, zerosO_map]; exact zeroCells_rep (zerosO_all _ _ hz len))
  have hcl : ∀ (avs : List (Nat × List AV)) (c r : List AV), fillO (fun i => some (i * tde.size, tde.size)) c avs = some r → r.length = c.length := by
    intro avs
    induction avs with
    | nil => intro c r h; simp [fillO] at h; rw [h]
    | cons p avs ih =>
      intro c r h
      obtain ⟨i, vs⟩ := p
      simp only [fillO, Option.bind_eq_some_iff] at h
      obtain ⟨p, hp, h⟩ := h
      split at h
      · simp only [Option.bind_eq_some_iff] at h
        obtain ⟨c', hc', h⟩ := h
        obtain ⟨q1, q2⟩ := spliceO_eq _ _ _ _ hc'
        rw [ih c' r h, q1]
        simp; omega
      · cases h
  have hsize : cs'.size = len * tde.size := by
    have := h6.1
    rw [hcl _ _ _ hf, zerosO_length] at this
    simp [hzl] at this
    omega
  refine ⟨cs', ?_, h6, hsize⟩
  by_cases h0 : len * tde.size = 0
  · have hn : len = 0 := by
      rcases Nat.mul_eq_zero.1 h0 with h | h
      · exact h
      · omega
    subst hn
    simp only [Nat.zero_mul, map_range0] at h5
    simp [Instr.buildSlice, hu, hE.sizeOf W, newRow, h5, map_range0]
  · have h24 : ¬ (16777216 < len * tde.size) := by simpa using hlen
    simp [Instr.buildSlice, hu, hE.sizeOf W, h0, h24, h1, newRow, h5]

theorem flatten_get {α : Type} {sz : Nat} : ∀ {rows : List (List α)}, (∀ r ∈ rows, r.length = sz) → ∀ {i j : Nat} {r : List α} {x : α}, rows[i]? = some r → r[j]? = some x → rows.flatten[i * sz + j]? = some x
  | [], _, i, j, r, x, h, _ => by simp at h
  | r0 :: rows, hr, 0, j, r, x, h, hx => by
    simp at h; subst h
    have hj : j < r0.length := (List.getElem?_eq_some_iff.1 hx).1
    simp only [List.flatten_cons, Nat.zero_mul, Nat.zero_add]
    rw [List.getElem?_append_left hj]; exact hx
  | r0 :: rows, hr, i + 1, j, r, x, h, hx => by
    have h0 := hr r0 (by simp)
    have ih := flatten_get (fun r hr' => hr r (List.mem_cons_of_mem _ hr')) (i := i) (j := j) (by simpa using h) hx
    simp only [List.flatten_cons]
    rw [List.getElem?_append_right (by rw [h0, Nat.add_mul]; omega)]
    rw [← ih]
    congr 1
    rw [h0, Nat.add_mul]; omega
theorem flatten_length {α : Type} {sz : Nat} : ∀ {rows : List (List α)}, (∀ r ∈ rows, r.length = sz) → rows.flatten.length = rows.length * sz
  | [], _ => by simp
  | r :: rows, h => by
    simp only [List.flatten_cons, List.length_append, List.length_cons, h r (by simp), flatten_length (fun r hr => h r (List.mem_cons_of_mem _ hr)), Nat.add_mul]
    omega

theorem AOp.buildSliceR {t : TypeId} {td tde : TD} {e len : Nat} {ps : Array (Nat × Operand)} {avs : List (Nat × List AV)} {cells : List AV} {rows : List (List AV)} (ho : o.op = .buildSlice t len ps) (hT : TOK P t td) (hd : td.ds = .sli e) (hE : TOK P e tde) (hsz : 0 < tde.size) (hzl : tde.zero.length = tde.size)
    (hlen : len * tde.size ≤ 2 ^ 24) (hz : tde.zero.all (·.oneCell') = true) (hp : evParts N env ps.toList = some avs) (hf : fillO (fun i => some (i * tde.size, tde.size)) (zerosO (tde.zero.map .v) len) avs = some cells)
    (hr : rowsO tde.size len cells = some rows) (hk : K (.il tde.size none rows) R) : AOp P N D o env R K Kp :=
  .acts (v := .any) (R' := []) fun G W a hs => by
    obtain ⟨cs, h1, h2, h3⟩ := run_buildSlice hT hd hE hsz hzl hlen hz hp hf hs
    obtain ⟨q1, q2, q3⟩ := rowsO_eq _ _ _ _ hr
    obtain ⟨G', tk, hX, hO, ht, hsize, hper⟩ := hs.own.newPer (OneMore.alloc W cs e) cells (by have := h2.1; simp at this; omega) (fun j x hx => by obtain ⟨c, w1, w2⟩ := h2.2 j x hx; exact ⟨c, by simpa using w1, w2⟩)
    refine ⟨.slice (some ⟨W.heap.size, 0, none⟩) len len, W.alloc (.cells cs e), G', _, .il tde.size none rows, by simp only [execOp, ho]; rw [show (ps.map fun (x : Nat × Operand) => (match x with | (i, x) => (i, a.eval x))) = ps.map fun p => (p.1, a.eval p.2) from rfl]; simp [h1], hX.sub (R2 := R) (fun it hi => List.mem_append_left _ hi), hO.sub (List.sublist_append_left R _), ?_, hk⟩
    refine .il q2.symm q3 (fun j x hx => ?_) (Nat.le_refl _) ?_ (fun t ht' => by cases ht') ?_
    · rw [q1] at hx; rw [Nat.zero_add, hper]; exact hx
    · rw [hsize, h3]; omega
    · have : len ≤ len * tde.size := Nat.le_mul_of_pos_right _ hsz
      omega
theorem AOp.buildSliceM {t : TypeId} {td tde : TD} {e len : Nat} {ps : Array (Nat × Operand)} {avs : List (Nat × List AV)} {cells : List AV} (ho : o.op = .buildSlice t len ps) (hT : TOK P t td) (hd : td.ds = .sli e) (hE : TOK P e tde) (hsz : 0 < tde.size) (hzl : tde.zero.length = tde.size)
    (hlen : len * tde.size ≤ 2 ^ 24) (hz : tde.zero.all (·.oneCell') = true) (hp : evParts N env ps.toList = some avs) (hf : fillO (fun i => some (i * tde.size, tde.size)) (zerosO (tde.zero.map .v) len) avs = some cells)
    (hk : ∀ m, K (.sl tde.size m 0 len) (R ++ [.mu m cells])) : AOp P N D o env R K Kp :=
  .acts (v := .any) (R' := []) fun G W a hs => by
    obtain ⟨cs, h1, h2, h3⟩ := run_buildSlice hT hd hE hsz hzl hlen hz hp hf hs
    obtain ⟨G', m, hX, hO, hl, hsize⟩ := hs.own.newMu (OneMore.alloc W cs e) cells (by have := h2.1; simp at this; omega) (fun j x hx => by obtain ⟨c, w1, w2⟩ := h2.2 j x hx; exact ⟨c, by simpa using w1, w2⟩)
    refine ⟨.slice (some ⟨W.heap.size, 0, none⟩) len len, W.alloc (.cells cs e), G', _, .sl tde.size m 0 len, by simp only [execOp, ho]; rw [show (ps.map fun (x : Nat × Operand) => (match x with | (i, x) => (i, a.eval x))) = ps.map fun p => (p.1, a.eval p.2) from rfl]; simp [h1], hX, hO, ?_, hk m⟩
    refine .sl hl (Nat.le_refl _) ?_ ?_
    · rw [hsize, h3]; omega
    · have : len ≤ len * tde.size := Nat.le_mul_of_pos_right _ hsz
      omega

/-- make, of a length that is the capacity. -/
theorem AOp.make {t : TypeId} {td tde : TD} {e : Nat} {x y : Operand} {n : Nat} (ho : o.op = .makeSlice t x y) (hx : ev N env x = some (.v (.int .i64 n))) (hy : ev N env y = some (.v (.int .i64 n))) (hT : TOK P t td) (hd : td.ds = .sli e) (hE : TOK P e tde) (hsz : 0 < tde.size) (hzl : tde.zero.length = tde.size)
    (hz : tde.zero.all (·.oneCell') = true) (hn : n < 2 ^ 40) (hb : n * tde.bytes ≤ 2 ^ 47) (hk : ∀ m, K (.sl tde.size m 0 n) (R ++ [.mu m (zerosO (tde.zero.map .v) n)])) : AOp P N D o env R K Kp :=
  .acts (v := .any) (R' := []) fun G W a hs => by
    have hu := run_underlying (hT.sli hd)
    obtain ⟨i, z', hi, hi2, hi3, _⟩ := hE.info
    obtain ⟨z, h1, h2⟩ := hE.zeroValue W
    have hzs : z.cells.size = tde.size := by rw [← hzl, ← h2]; simp
    let cs : Array Value := (Array.range (n * tde.size)).map (z.cells[· % z.cells.size]!)
    have hcs : cs.toList = zerosO tde.zero n := by simp only [cs]; rw [← hzs, range_mod z.cells (by omega), h2]
    have hcells : Cells G (zerosO (tde.zero.map .v) n) cs.toList := by rw [hcs, zerosO_map]; exact zeroCells_rep (zerosO_all _ _ hz n)
    have hsize : cs.size = n * tde.size := by simp [cs]
    obtain ⟨G', m, hX, hO, hl, hsz'⟩ := hs.own.newMu (OneMore.alloc W cs e) (zerosO (tde.zero.map .v) n) (by rw [zerosO_length, hsize]; simp [hzl]) (fun j x hx => by obtain ⟨c, w1, w2⟩ := hcells.2 j x hx; exact ⟨c, by simpa using w1, w2⟩)
    have r1 := (ev_rep hs hx).v_inv
    have r2 := (ev_rep hs hy).v_inv
    have hw : IntKind.i64.wrap (n : Int) = n := IntWalk.i64_in n ⟨by omega, by omega⟩
    have hbb : ¬ (281474976710656 < (tde.bytes : Int) * (n : Int)) := by
      have : tde.bytes * n ≤ 2 ^ 47 := by rw [Nat.mul_comm]; exact hb
      have h2 : ((tde.bytes * n : Nat) : Int) ≤ 2 ^ 47 := by exact_mod_cast this
      rw [Int.natCast_mul] at h2
      omega
    refine ⟨.slice (some ⟨W.heap.size, 0, none⟩) n n, W.alloc (.cells cs e), G', _, .sl tde.size m 0 n, ?_, hX, hO, ?_, hk m⟩
    · by_cases h0 : n * tde.size = 0
      · have hn0 : n = 0 := by
          rcases Nat.mul_eq_zero.1 h0 with h | h
          · exact h
          · omega
        subst hn0
        have hw0 : IntKind.i64.wrap 0 = 0 := IntWalk.i64_in 0 (by omega)
        simp [execOp, ho, r1, r2, Instr.makeSlice, hu, asInt, asIntOf, typeInfo, hi, hE.sizeOf W, newRow, cs, hw0, map_range0]
      · have hnn : ¬ ((n : Int) < 0) := by omega
        simp [execOp, ho, r1, r2, Instr.makeSlice, hu, asInt, asIntOf, typeInfo, hi, hi3, hE.sizeOf W, newRow, cs, hw, hbb, h0, h1, hnn]
    · refine .sl hl (Nat.le_refl _) ?_ ?_
      · rw [hsz', hsize]; omega
      · omega

end
end Go.Abs
set_option linter.unusedVariables false
set_option linter.unusedSimpArgs false
namespace Go.Abs

section
variable {P : Program} {N : Nat} {D : List Deferred} {o : Oper} {env : Env} {R : List Item} {K Kp : AV → List Item → Prop}

theorem Rep.il_inv {G : Gh} {sz : Nat} {tk : Option Nat} {rows : List (List AV)} {c : Value} (h : Rep G (.il sz tk rows) c) :
    (rows = [] ∧ c = .slice none 0 0) ∨ ∃ b o cap, c = .slice (some ⟨b, o, none⟩) rows.length cap ∧ (∀ r ∈ rows, r.length = sz) ∧ (∀ (j : Nat) (x : AV), rows.flatten[j]? = some x → (G.per b)[o + j]? = some x) ∧
      rows.length ≤ cap ∧ o + cap * sz ≤ G.size b ∧ (∀ t, tk = some t → cap = 0 ∨ G.tok t = some (b, o + rows.length * sz)) ∧ cap < 2 ^ 63 := by
  cases h with
  | ilnil => exact .inl ⟨rfl, rfl⟩
  | il hn hr hp hc hz ht hmax => subst hn; exact .inr ⟨_, _, _, rfl, hr, hp, hc, hz, ht, hmax⟩
theorem Rep.sl_inv {G : Gh} {sz m off len : Nat} {c : Value} (h : Rep G (.sl sz m off len) c) :
    (len = 0 ∧ c = .slice none 0 0) ∨ ∃ b cap, c = .slice (some ⟨b, off, none⟩) len cap ∧ G.loc m = some b ∧ len ≤ cap ∧ off + cap * sz ≤ G.size b ∧ cap < 2 ^ 63 := by
  cases h with
  | slnil => exact .inl ⟨rfl, rfl⟩
  | sl h hc hz hmax => exact .inr ⟨_, _, rfl, h, hc, hz, hmax⟩

/-! Indexes. -/
theorem run_indexAt {t : TypeId} {td tde : TD} {e : Nat} (hT : TOK P t td) (hd : td.ds = .sli e) (hE : TOK P e tde) (b o' len cap : Nat) (k : IntKind) (i : Int) (h0 : 0 ≤ i) (h1 : i < len) (W : World) :
    (Instr.indexAt t (.slice (some ⟨b, o', none⟩) len cap) (.int k i)).run P W = .ok (.pointer (some ⟨b, o' + i.toNat * tde.size, none⟩)) W := by
  have hu := run_underlying (hT.sli hd)
  simp [Instr.indexAt, asIntOf, hu, h0, h1, hE.sizeOf W, add0]

theorem QOp.indexI {t : TypeId} {td tde : TD} {e : Nat} {x y : Operand} {tk : Option Nat} {rows : List (List AV)} {row : List AV} {k : IntKind} {i : Int} (ho : o.op = .indexAddr t x y) (hx : ev N env x = some (.il tde.size tk rows)) (hy : ev N env y = some (.v (.int k i)))
    (hT : TOK P t td) (hd : td.ds = .sli e) (hE : TOK P e tde) (h0 : 0 ≤ i) (hrow : rows[i.toNat]? = some row) : QOp P N D o env R (.ip row) :=
  (fun G W a hs => by
    have hlt : i.toNat < rows.length := (List.getElem?_eq_some_iff.1 hrow).1
    rcases (ev_rep hs hx).il_inv with ⟨hn, _⟩ | ⟨b, o', cap, hc, hr, hp, _⟩
    · rw [hn] at hlt; simp at hlt
    · refine ⟨.pointer (some ⟨b, o' + i.toNat * tde.size, none⟩), by simp [execOp, ho, hc, (ev_rep hs hy).v_inv, run_indexAt hT hd hE b o' rows.length cap k i h0 (by omega)], .ip fun j z hz => ?_⟩
      have := hp _ _ (flatten_get hr hrow hz)
      rwa [← Nat.add_assoc] at this)
theorem QOp.indexM {t : TypeId} {td tde : TD} {e : Nat} {x y : Operand} {m off len n : Nat} {k : IntKind} {i : Int} (ho : o.op = .indexAddr t x y) (hx : ev N env x = some (.sl tde.size m off len)) (hy : ev N env y = some (.v (.int k i)))
    (hT : TOK P t td) (hd : td.ds = .sli e) (hE : TOK P e tde) (h0 : 0 ≤ i) (h1 : i < len) (hn : off + i.toNat * tde.size = n) : QOp P N D o env R (.mp m n) :=
  (fun G W a hs => by
    rcases (ev_rep hs hx).sl_inv with ⟨hn, _⟩ | ⟨b, cap, hc, hl, _⟩
    · omega
    · subst hn
      exact ⟨.pointer (some ⟨b, off + i.toNat * tde.size, none⟩), by simp [execOp, ho, hc, (ev_rep hs hy).v_inv, run_indexAt hT hd hE b off len cap k i h0 h1], .mp hl⟩)

/-- a string's byte. -/
theorem QOp.indexS {t : TypeId} {td : TD} {x y : Operand} {s : ByteArray} {k : IntKind} {i : Int} {β : UInt8} (ho : o.op = .index t x y) (hx : ev N env x = some (.v (.string s))) (hy : ev N env y = some (.v (.int k i)))
    (hT : TOK P t td) (hd : td.ds = .str) (h0 : 0 ≤ i) (hb : s.data.toList[i.toNat]? = some β) : QOp P N D o env R (.v (.int .u8 β.toNat)) :=
  (fun G W a hs => by
    have hu := run_underlying (hT.str hd)
    have hlt : i.toNat < s.size := (List.getElem?_eq_some_iff.1 hb).1
    have hg : s[i.toNat]? = some β := by
      rw [getElem?_pos s i.toNat hlt]
      have h2 := (List.getElem?_eq_some_iff.1 hb).2
      rw [← h2]
      rfl
    exact ⟨.int .u8 β.toNat, by simp [execOp, ho, (ev_rep hs hx).v_inv, (ev_rep hs hy).v_inv, Instr.index, asIntOf, hu, h0, hg], .v⟩)

/-! Lengths. -/
theorem QOp.lenI {t : TypeId} {td : TD} {e : Nat} {x : Operand} {sz : Nat} {tk : Option Nat} {rows : List (List AV)} (ho : o.op = .call { callee := .builtin .len, args := #[x], argTypes := #[t] }) (hx : ev N env x = some (.il sz tk rows)) (hT : TOK P t td) (hd : td.ds = .sli e)
    : QOp P N D o env R (.v (.int .i64 rows.length)) :=
  (fun G W a hs => by
    have hu := run_underlying (hT.sli hd)
    rcases (ev_rep hs hx).il_inv with ⟨hn, hc⟩ | ⟨b, o', cap, hc, _⟩
    · subst hn
      exact ⟨.int .i64 0, by simp [execOp, ho, resolve, invoke, builtin, Builtin.len_, hu, hc, goInt], .v⟩
    · exact ⟨.int .i64 rows.length, by simp [execOp, ho, resolve, invoke, builtin, Builtin.len_, hu, hc, goInt], .v⟩)
theorem QOp.lenM {t : TypeId} {td : TD} {e : Nat} {x : Operand} {sz m off len : Nat} (ho : o.op = .call { callee := .builtin .len, args := #[x], argTypes := #[t] }) (hx : ev N env x = some (.sl sz m off len)) (hT : TOK P t td) (hd : td.ds = .sli e)
    : QOp P N D o env R (.v (.int .i64 len)) :=
  (fun G W a hs => by
    have hu := run_underlying (hT.sli hd)
    rcases (ev_rep hs hx).sl_inv with ⟨hn, hc⟩ | ⟨b, cap, hc, _⟩
    · subst hn
      exact ⟨.int .i64 0, by simp [execOp, ho, resolve, invoke, builtin, Builtin.len_, hu, hc, goInt], .v⟩
    · exact ⟨.int .i64 len, by simp [execOp, ho, resolve, invoke, builtin, Builtin.len_, hu, hc, goInt], .v⟩)
theorem QOp.lenN {t : TypeId} {td : TD} {e : Nat} {x : Operand} (ho : o.op = .call { callee := .builtin .len, args := #[x], argTypes := #[t] }) (hx : ev N env x = some (.v (.slice none 0 0))) (hT : TOK P t td) (hd : td.ds = .sli e)
    : QOp P N D o env R (.v (.int .i64 0)) :=
  (fun G W a hs => by
    have hu := run_underlying (hT.sli hd)
    exact ⟨.int .i64 0, by simp [execOp, ho, resolve, invoke, builtin, Builtin.len_, hu, (ev_rep hs hx).v_inv, goInt], .v⟩)
theorem QOp.lenS {t : TypeId} {td : TD} {x : Operand} {s : ByteArray} (ho : o.op = .call { callee := .builtin .len, args := #[x], argTypes := #[t] }) (hx : ev N env x = some (.v (.string s))) (hT : TOK P t td) (hd : td.ds = .str)
    : QOp P N D o env R (.v (.int .i64 s.size)) :=
  (fun G W a hs => by
    have hu := run_underlying (hT.str hd)
    exact ⟨.int .i64 s.size, by simp [execOp, ho, resolve, invoke, builtin, Builtin.len_, hu, (ev_rep hs hx).v_inv, goInt], .v⟩)

/-! Cuts. -/
def evOpt (N : Nat) (env : Env) : Option Operand → Int → Option Int
  | none, d => some d
  | some x, _ => match ev N env x with
    | some (.v (.int .i64 n)) => some n
    | _ => none
theorem run_bounds (isSlice : Bool) {ρ : Operand → Value} {lo hi : Option Operand} {l h : Int} {len cap : Nat} (hρ : ∀ x v, ev N env x = some v → ∃ G, Rep G v (ρ x)) (hlo : evOpt N env lo 0 = some l) (hhi : evOpt N env hi len = some h)
    (h0 : 0 ≤ l) (h1 : l ≤ h) (h2 : h ≤ len) (hc : len ≤ cap) (W : World) : (Instr.sliceBounds isSlice len cap (lo.map ρ) (hi.map ρ) none).run P W = .ok (l.toNat, h.toNat, cap) W := by
  have key : ∀ (x : Operand) (n : Int) (d : Int), evOpt N env (some x) d = some n → ρ x = .int .i64 n := by
    intro x n d hx
    simp only [evOpt] at hx
    split at hx
    · rename_i q hq
      injection hx with hx; subst hx
      obtain ⟨G, hG⟩ := hρ x _ hq
      exact hG.v_inv
    · cases hx
  have e1 : ∀ (x : Operand) (n : Int) (d : Int) (y : Nat) (code : BoundsCode), evOpt N env (some x) d = some n → 0 ≤ n → n ≤ y → (Instr.sliceBound (ρ x) y code).run P W = .ok n.toNat W := by
    intro x n d y code hx hn hy
    simp [Instr.sliceBound, key x n d hx, asIntOf, hn, hy]
  cases hi with
  | none =>
    simp [evOpt] at hhi; subst hhi
    cases lo with
    | none => simp [evOpt] at hlo; subst hlo; simp [Instr.sliceBounds]
    | some x => simp [Instr.sliceBounds, e1 x l 0 len _ hlo h0 (by omega)]
  | some y =>
    cases lo with
    | none => simp [evOpt] at hlo; subst hlo; simp [Instr.sliceBounds, e1 y h _ cap _ hhi (by omega) (by omega)]
    | some x => simp [Instr.sliceBounds, e1 y h _ cap _ hhi (by omega) (by omega), e1 x l 0 h.toNat _ hlo h0 (by omega)]

theorem QOp.cutS {t : TypeId} {td : TD} {x : Operand} {lo hi : Option Operand} {s : ByteArray} {l h : Int} (ho : o.op = .slice t x lo hi none) (hx : ev N env x = some (.v (.string s))) (hT : TOK P t td) (hd : td.ds = .str)
    (hlo : evOpt N env lo 0 = some l) (hhi : evOpt N env hi s.size = some h) (h0 : 0 ≤ l) (h1 : l ≤ h) (h2 : h ≤ s.size) : QOp P N D o env R (.v (.string (s.extract l.toNat h.toNat))) :=
  (fun G W a hs => by
    have hu := run_underlying (hT.str hd)
    have hb := run_bounds (P := P) (N := N) (env := env) false (ρ := a.eval) (cap := s.size) (fun x v hx => ⟨G, ev_rep hs hx⟩) hlo hhi h0 h1 h2 (Nat.le_refl _) W
    exact ⟨.string (s.extract l.toNat h.toNat), by simp [execOp, ho, Instr.sliceAt, Instr.slice, hu, (ev_rep hs hx).v_inv, hb], .v⟩)

theorem QOp.cutI {t : TypeId} {td tde : TD} {e : Nat} {x : Operand} {lo hi : Option Operand} {tk tk' : Option Nat} {rows rows' : List (List AV)} {l h : Int} (ho : o.op = .slice t x lo hi none) (hx : ev N env x = some (.il tde.size tk rows)) (hT : TOK P t td) (hd : td.ds = .sli e) (hE : TOK P e tde)
    (hlo : evOpt N env lo 0 = some l) (hhi : evOpt N env hi rows.length = some h) (h0 : 0 ≤ l) (h1 : l ≤ h) (h2 : h ≤ rows.length) (hr : (rows.take h.toNat).drop l.toNat = rows') (htk : tk' = none ∨ (tk' = tk ∧ h = rows.length)) : QOp P N D o env R (.il tde.size tk' rows') :=
  (fun G W a hs => by
    have hu := run_underlying (hT.sli hd)
    rcases (ev_rep hs hx).il_inv with ⟨hn, hc⟩ | ⟨b, o', cap, hc, hrs, hp, hle, hz, ht, hmax⟩
    · subst hn
      simp at hr hhi h2
      subst hr
      obtain rfl : l = 0 := by omega
      have hb := run_bounds (P := P) (N := N) (env := env) true (ρ := a.eval) (len := 0) (cap := 0) (fun x v hx => ⟨G, ev_rep hs hx⟩) hlo hhi h0 h1 (by omega) (Nat.le_refl _) W
      obtain rfl : h = 0 := by omega
      exact ⟨.slice none 0 0, by simp [execOp, ho, Instr.sliceAt, Instr.slice, hu, hc, hb, hE.sizeOf W], .ilnil⟩
    · have hb := run_bounds (P := P) (N := N) (env := env) true (ρ := a.eval) (cap := cap) (fun x v hx => ⟨G, ev_rep hs hx⟩) hlo hhi h0 h1 h2 hle W
      have hlen : rows'.length = h.toNat - l.toNat := by subst hr; simp; omega
      by_cases hcl : cap = l.toNat
      · have hb' := hb
        rw [hcl] at hb'
        refine ⟨.slice (some ⟨b, o', none⟩) (h.toNat - l.toNat) (cap - l.toNat), by simp [execOp, ho, Instr.sliceAt, Instr.slice, hu, hc, hb', hE.sizeOf W, hcl], ?_⟩
        have hz0 : rows' = [] := List.eq_nil_of_length_eq_zero (by omega)
        subst hz0
        refine .il (by simpa using hlen.symm) (by simp) (fun j z hz' => by simp at hz') (by omega) ?_ (fun t _ => .inl (by omega)) (by omega)
        rw [hcl, Nat.sub_self, Nat.zero_mul]
        omega
      · refine ⟨.slice (some ⟨b, o' + l.toNat * tde.size, none⟩) (h.toNat - l.toNat) (cap - l.toNat), by simp [execOp, ho, Instr.sliceAt, Instr.slice, hu, hc, hb, hE.sizeOf W, hcl, add0], ?_⟩
        have hmul : (cap - l.toNat) * tde.size + l.toNat * tde.size = cap * tde.size := by rw [← Nat.add_mul]; congr 1; omega
        refine .il hlen.symm (fun r hr' => hrs r ?_) (fun j z hz' => ?_) (by omega) (by omega) (fun t ht' => ?_) (by omega)
        · rw [← hr] at hr'
          exact List.mem_of_mem_take (List.mem_of_mem_drop hr')
        · have hfl : rows.flatten = (rows.take l.toNat).flatten ++ (rows'.flatten ++ (rows.drop h.toNat).flatten) := by
            rw [← List.flatten_append, ← List.flatten_append]
            congr 1
            rw [← hr]
            have e1 : rows.take l.toNat = (rows.take h.toNat).take l.toNat := by rw [List.take_take, Nat.min_eq_left (by omega)]
            rw [e1, ← List.append_assoc, List.take_append_drop, List.take_append_drop]
          have hll : (rows.take l.toNat).flatten.length = l.toNat * tde.size := by
            rw [flatten_length (sz := tde.size) (fun r hr' => hrs r (List.mem_of_mem_take hr'))]
            congr 1
            simp
            omega
          have h3 : rows.flatten[l.toNat * tde.size + j]? = some z := by
            rw [hfl, List.getElem?_append_right (by omega), hll, Nat.add_sub_cancel_left, List.getElem?_append_left (List.getElem?_eq_some_iff.1 hz').1]
            exact hz'
          have := hp _ _ h3
          rwa [← Nat.add_assoc] at this
        · rcases htk with rfl | ⟨rfl, hh⟩
          · cases ht'
          · rcases ht t ht' with h4 | h4
            · exact .inl (by omega)
            · refine .inr ?_
              rw [h4]
              congr 2
              have : h.toNat = rows.length := by omega
              rw [this, Nat.add_assoc, ← Nat.add_mul]
              congr 2
              omega)

/-- A cut from the beginning on, of a slice that may change. -/
theorem QOp.cutM {t : TypeId} {td tde : TD} {e : Nat} {x y : Operand} {m off len : Nat} {h : Int} (ho : o.op = .slice t x none (some y) none) (hx : ev N env x = some (.sl tde.size m off len)) (hy : ev N env y = some (.v (.int .i64 h))) (hT : TOK P t td) (hd : td.ds = .sli e) (hE : TOK P e tde)
    (h0 : 0 ≤ h) (h2 : h ≤ len) : QOp P N D o env R (.sl tde.size m off h.toNat) :=
  (fun G W a hs => by
    have hu := run_underlying (hT.sli hd)
    rcases (ev_rep hs hx).sl_inv with ⟨hn, hc⟩ | ⟨b, cap, hc, hl, hle, hz, hmax⟩
    · subst hn
      obtain rfl : h = 0 := by omega
      have hb := run_bounds (P := P) (N := N) (env := env) true (ρ := a.eval) (lo := none) (hi := some y) (l := 0) (h := 0) (len := 0) (cap := 0) (fun x v hx => ⟨G, ev_rep hs hx⟩) rfl (by simp [evOpt, hy]) (by omega) (by omega) (by omega) (Nat.le_refl _) W
      simp at hb
      exact ⟨.slice none 0 0, by simp [execOp, ho, Instr.sliceAt, Instr.slice, hu, hc, hb, hE.sizeOf W], .slnil⟩
    · have hb := run_bounds (P := P) (N := N) (env := env) true (ρ := a.eval) (lo := none) (hi := some y) (l := 0) (h := h) (len := len) (cap := cap) (fun x v hx => ⟨G, ev_rep hs hx⟩) rfl (by simp [evOpt, hy]) (by omega) (by omega) h2 hle W
      simp at hb
      exact ⟨.slice (some ⟨b, off, none⟩) h.toNat cap, by simp [execOp, ho, Instr.sliceAt, Instr.slice, hu, hc, hb, hE.sizeOf W, add0], .sl hl (by omega) hz hmax⟩)

/-! Append. -/
theorem mapRange_get {α : Type} (f : Nat → α) (n j : Nat) (u : α) : ((List.range n).map f)[j]? = some u ↔ j < n ∧ f j = u := by
  rw [List.getElem?_map, Option.map_eq_some_iff]
  constructor
  · rintro ⟨j', hj', rfl⟩
    have hlt : j < n := by simpa using (List.getElem?_eq_some_iff.1 hj').1
    have : (List.range n)[j]? = some j := by simp [hlt]
    rw [this] at hj'; injection hj' with hj'; subst hj'
    exact ⟨hlt, rfl⟩
  · rintro ⟨hlt, rfl⟩
    exact ⟨j, by simp [hlt], rfl⟩
/-- what a slice that is read gives to an append. -/
theorem src_il {G : Gh} {W : World} (hO : Own G R W) {tx : TypeId} {td : TD} {e sz : Nat} (hT : TOK P tx td) (hd : td.ds = .sli e) {tk : Option Nat} {rows : List (List AV)} {c : Value} (h : Rep G (.il sz tk rows) c) :
    ∃ news, Src P sz tx c rows.length news W ∧ Cells G rows.flatten news := by
  rcases h.il_inv with ⟨hn, rfl⟩ | ⟨b, o', cap, rfl, hr, hp, _⟩
  · subst hn
    exact ⟨[], Src.ofNil W (hT.sli hd) 0, .nil⟩
  · have hfl := flatten_length hr
    have hcell := cells_of_per hO hp
    let f : Nat → Value := fun j => (W.cell? ⟨b, o' + j, none⟩).getD undef
    let news := (List.range rows.flatten.length).map f
    have hget : ∀ (j : Nat) (u : Value), news[j]? = some u → ∃ x, rows.flatten[j]? = some x ∧ W.cell? ⟨b, o' + j, none⟩ = some u ∧ Rep G x u ∧ u.oneCell' = true := by
      intro j u hu
      obtain ⟨hlt, rfl⟩ := (mapRange_get f _ j u).1 hu
      obtain ⟨c, h1, h2, h3⟩ := hcell j rows.flatten[j] (List.getElem?_eq_getElem hlt)
      have hf : f j = c := by simp only [f]; rw [h1]; rfl
      exact ⟨_, List.getElem?_eq_getElem hlt, by rw [hf]; exact h1, by rw [hf]; exact h2, by rw [hf]; exact h3⟩
    refine ⟨news, Src.ofSlice W (hT.sli hd) ⟨b, o', none⟩ rows.length cap news (by simp only [news, List.length_map, List.length_range]; exact hfl) (fun j u hu => ?_) (fun u hu => ?_), ⟨by simp [news], fun j x hx => ?_⟩⟩
    · obtain ⟨x, _, h2, _⟩ := hget j u hu
      rw [add0]; exact h2
    · obtain ⟨j, hj⟩ := List.getElem?_of_mem hu
      obtain ⟨x, _, _, _, h4⟩ := hget j u hj
      exact h4
    · have hlt : j < rows.flatten.length := (List.getElem?_eq_some_iff.1 hx).1
      have hn : news[j]? = some (f j) := (mapRange_get f _ j _).2 ⟨hlt, rfl⟩
      obtain ⟨x', h1, _, h3, h4⟩ := hget j _ hn
      rw [hx] at h1; injection h1 with h1; subst h1
      exact ⟨_, hn, h3, h4⟩

/-- The world behind a row of cells stored in a block. -/
theorem setCells_row (b o' : Nat) (news : List Value) (cs : Array Value) (e : TypeId) (W : World) (hb : W.heap[b]? = some (.cells cs e (0, 0))) (hl : o' + news.length ≤ cs.size) (h1 : ∀ v ∈ news, v.oneCell' = true) :
    (storeCells ⟨b, o', none⟩ news).run P W = .ok () (W.setRow b (cs.toList.take o' ++ news ++ cs.toList.drop (o' + news.length)).toArray) := by
  have := run_storeCells_at P b o' e news 0 cs W hb (by simpa using hl) h1
  simpa using this

theorem run_append_room {t tx ty e : TypeId} {td tde : TD} (hT : TOK P t td) (hd : td.ds = .sli e) (hE : TOK P e tde) {W : World} {b off len cap : Nat} {x : Value} {n : Nat} {news : List Value} (hs : Src P tde.size tx x n news W) (hroom : len + n ≤ cap)
    {cs : Array Value} {e' : TypeId} (hb : W.heap[b]? = some (.cells cs e' (0, 0))) (hl : off + len * tde.size + news.length ≤ cs.size) :
    (Builtin.append_ #[t, tx] ty #[.slice (some ⟨b, off, none⟩) len cap, x]).run P W = .ok (.slice (some ⟨b, off, none⟩) (len + n) cap) (W.setRow b (cs.toList.take (off + len * tde.size) ++ news ++ cs.toList.drop (off + len * tde.size + news.length)).toArray) := by
  have ht := hT.sli hd
  obtain ⟨i, z, hi, hi2, hi3, hi4, hi5⟩ := hE.info
  have hst := setCells_row (P := P) b (off + len * tde.size) news cs e' W hb hl hs.one
  rw [← hi2] at hst hs ⊢
  rcases hs.kind with ⟨e', hk⟩ | hk <;> simp [Builtin.append_, run_underlying ht, run_underlying hk, sizeOf, typeInfo, hi, hs.len, hroom, hs.cells, add0, hst]

/-- Append onto a slice whose contents never change, whose right to append is owned. -/
theorem AOp.appendI (R1 R2 : List Item) {t tx : TypeId} {td tdx tde : TD} {e e' τ : Nat} {x y : Operand} {tk : Option Nat} {rows rows2 : List (List AV)} (ho : o.op = .call { callee := .builtin .append, args := #[x, y], argTypes := #[t, tx] })
    (hx : ev N env x = some (.il tde.size (some τ) rows)) (hy : ev N env y = some (.il tde.size tk rows2)) (hT : TOK P t td) (hd : td.ds = .sli e) (hE : TOK P e tde) (hX : TOK P tx tdx) (hdx : tdx.ds = .sli e') (hsz : 0 < tde.size) (hzl : tde.zero.length = tde.size) (hz1 : tde.zero.all (·.oneCell') = true)
    (hi : R = R1 ++ .tk τ :: R2) (hrs : ∀ r ∈ rows ++ rows2, r.length = tde.size) (hlen : rows.length + rows2.length < 2 ^ 40) (hby : (rows.length + rows2.length) * tde.bytes ≤ 2 ^ 47) (hk : ∀ τ', K (.il tde.size (some τ') (rows ++ rows2)) (R1 ++ .tk τ' :: R2)) : AOp P N D o env R K Kp :=
  .acts (v := .any) (R' := []) fun G W a hs => by
    have hrx := ev_rep hs hx
    obtain ⟨news, hsrc, hnc⟩ := src_il hs.own hX hdx (ev_rep hs hy)
    obtain ⟨i, z, hinf, hi2, hi3, hi4, hi5⟩ := hE.info
    have htu := hT.sli hd
    have hzs : z.cells.size = tde.size := by rw [← hzl, ← hi5]; simp
    have hnl : news.length = rows2.length * tde.size := hsrc.newsLen
    have hmem : Item.tk τ ∈ R := by rw [hi]; simp
    have hperm : R.Perm (R1 ++ R2 ++ [.tk τ]) := by rw [hi, List.append_assoc]; exact (List.perm_middle.trans (List.perm_append_singleton _ _).symm).trans (by rw [List.append_assoc])
    have hO0 : Own G (R1 ++ R2) W := (hs.own.perm hperm).sub (List.sublist_append_left _ _)
    have hE0 : Ext G R W G (R1 ++ R2) W := (Ext.refl G R W).sub fun it hi' => by rw [hi]; simp only [List.mem_append, List.mem_cons] at hi' ⊢; rcases hi' with h | h <;> simp [h]
    have hback : ∀ τ', (R1 ++ R2 ++ [Item.tk τ']).Perm (R1 ++ .tk τ' :: R2) := fun τ' => by
      rw [List.append_assoc]; exact ((List.perm_middle (a := Item.tk τ') (l₁ := R1) (l₂ := R2)).trans ((List.perm_append_singleton _ _).symm.trans (by rw [List.append_assoc]))).symm
    have hrun0 : ∀ c W', (Builtin.append_ #[t, tx] o.type #[a.eval x, a.eval y]).run P W = .ok c W' → (execOp a.eval o).run P W = .ok (.value c) W' := by
      intro c W' h
      simp [execOp, ho, resolve, invoke, builtin, h]
    -- a new row
    have grow : ∀ (base : Option Addr) (cap : Nat) (olds : List Value), a.eval x = .slice base rows.length cap → cap < rows.length + rows2.length → Cells G rows.flatten olds →
        (Builtin.firstCells i.size rows.length (.slice base rows.length cap)).run P W.drew = .ok olds.toArray W.drew →
        ∃ c W' G' R' v, (execOp a.eval o).run P W = .ok (.value c) W' ∧ Ext G R W G' R' W' ∧ Own G' R' W' ∧ Rep G' v c ∧ K v R' := by
      intro base cap olds hv hcap hold hfirst
      have hsrc' : Src P i.size tx (a.eval y) rows2.length news W := by rw [hi2]; exact hsrc
      have hrun := run_append_grow_src (P := P) W t tx o.type e i z htu hinf hi4 base rows.length cap olds hfirst (a.eval y) rows2.length news hsrc' hcap (by omega) (growslice_fits hcap (by rw [hi3]; exact hby))
      have hge := grownCap_ge W (rows.length + rows2.length) cap e
      have hcm := grownCap_le_maxLen W (rows.length + rows2.length) cap e (by simp only [maxLen]; omega)
      have hcells : Cells G (rows ++ rows2).flatten (olds ++ news) := by rw [List.flatten_append]; exact hold.append hnc
      have hfl := flatten_length hrs
      simp only [List.length_append] at hfl
      have hol : (olds ++ news).length = (rows.length + rows2.length) * tde.size := by rw [← hcells.1, hfl]
      have hsize : ((olds ++ news).toArray ++ Builtin.zeroCells z.cells (grownCap W (rows.length + rows2.length) cap e - (rows.length + rows2.length))).size = grownCap W (rows.length + rows2.length) cap e * tde.size := by
        rw [Array.size_append, List.size_toArray, hol, size_zeroCells, hzs, ← Nat.add_mul]
        congr 1
        omega
      obtain ⟨G', τ', hX', hO', ht', hsz', hper'⟩ := hO0.newPer (OneMore.drewAlloc W ((olds ++ news).toArray ++ Builtin.zeroCells z.cells (grownCap W (rows.length + rows2.length) cap e - (rows.length + rows2.length))) e) (rows ++ rows2).flatten
        (by rw [hcells.1]; simp only [Array.size_append, List.size_toArray]; omega) (fun j u hu => by
          obtain ⟨c, w1, w2⟩ := hcells.2 j u hu
          refine ⟨c, ?_, w2⟩
          rw [Array.getElem?_append_left (by simpa using (List.getElem?_eq_some_iff.1 w1).1)]
          simpa using w1)
      refine ⟨_, _, G', _, _, hrun0 _ _ (by rw [hv]; exact hrun), hE0.trans (hX'.sub fun it hi' => (hback τ').mem_iff.2 hi'), hO'.perm (hback τ'), ?_, hk τ'⟩
      refine .il (by simp) hrs (fun j u hu => ?_) hge ?_ (fun t ht => .inr ?_) (by simp only [maxLen] at hcm; omega)
      · rw [Nat.zero_add, hper']; exact hu
      · rw [hsz', hsize]; omega
      · injection ht with ht; subst ht
        rw [ht', hfl, Nat.zero_add]
    rcases hrx.il_inv with ⟨hn, hc⟩ | ⟨b, o', cap, hc, hr, hp, hle, hz, ht, hmax⟩
    · subst hn
      by_cases hm : rows2.length = 0
      · have h2 : rows2 = [] := List.eq_nil_of_length_eq_zero hm
        subst h2
        obtain rfl : news = [] := List.eq_nil_of_length_eq_zero (by simpa using hnl)
        obtain ⟨G', τ', hX', hO', ht', hg'⟩ := hO0.newTok
        refine ⟨.slice none 0 0, W, G', _, _, hrun0 _ _ ?_, hE0.trans (hX'.sub fun it hi' => (hback τ').mem_iff.2 hi'), hO'.perm (hback τ'), .ilnil, hk τ'⟩
        rw [hc]
        have hh := hsrc.cells
        simp at hh
        rcases hsrc.kind with ⟨e', hk'⟩ | hk' <;> simp [Builtin.append_, run_underlying htu, run_underlying hk', sizeOf, typeInfo, hinf, hsrc.len, hi2, hh]
      · exact grow none 0 [] hc (by simp only [List.length_nil]; omega) .nil (by simp [Builtin.firstCells])
    · obtain ⟨hτ, htok⟩ := hs.own.items _ hmem
      by_cases hroom : rows.length + rows2.length ≤ cap
      · by_cases hcap0 : cap = 0
        · -- nothing there, nothing appended
          have h1 : rows = [] := List.eq_nil_of_length_eq_zero (by omega)
          have h2 : rows2 = [] := List.eq_nil_of_length_eq_zero (by omega)
          subst h1; subst h2
          obtain rfl : news = [] := List.eq_nil_of_length_eq_zero (by simpa using hnl)
          subst hcap0
          obtain ⟨G', τ', hX', hO', ht', hg'⟩ := hO0.newTok
          refine ⟨.slice (some ⟨b, o', none⟩) 0 0, W, G', _, _, hrun0 _ _ ?_, hE0.trans (hX'.sub fun it hi' => (hback τ').mem_iff.2 hi'), hO'.perm (hback τ'), ?_, hk τ'⟩
          · rw [hc]
            have hh := hsrc.cells
            simp at hh
            rcases hsrc.kind with ⟨e', hk'⟩ | hk' <;> simp [Builtin.append_, run_underlying htu, run_underlying hk', sizeOf, typeInfo, hinf, hsrc.len, hi2, hh, storeCells]
          · exact .il rfl (by simp) (fun j u hu => by simp at hu) (Nat.le_refl _) (by simpa using (Nat.le_trans (by simp : o' + 0 * tde.size ≤ o' + 0 * tde.size) (Nat.le_trans hz (hX'.gext.size b)))) (fun t _ => .inl rfl) (by omega)
        · -- in place
          have htk := (ht τ rfl).resolve_left hcap0
          obtain ⟨hplen, cs, e', hheap, hcsz⟩ := htok b _ htk
          have hfl := flatten_length hr
          have hmulr : (rows.length + rows2.length) * tde.size ≤ cap * tde.size := Nat.mul_le_mul_right _ hroom
          rw [Nat.add_mul] at hmulr
          have hfit : o' + rows.length * tde.size + news.length ≤ cs.size := by rw [hnl, hcsz]; omega
          have hrun := run_append_room (ty := o.type) hT hd hE hsrc hroom hheap hfit (off := o')
          let cs' : Array Value := (cs.toList.take (o' + rows.length * tde.size) ++ news ++ cs.toList.drop (o' + rows.length * tde.size + news.length)).toArray
          have hcs' : cs'.size = cs.size := by simp [cs']; omega
          have hblt : b < W.heap.size := (Array.getElem?_eq_some_iff.1 hheap).1
          -- the ghost
          let G' : Gh := { G with per := fun k => if k = b then G.per b ++ rows2.flatten else G.per k, tok := fun k => if k = G.next then some (b, o' + (rows.length + rows2.length) * tde.size) else G.tok k, next := G.next + 1 }
          have hG : GExt G G' := by
            refine ⟨fun k j u hu => ?_, fun _ => Nat.le_refl _, fun _ _ h => h, fun k p hp => ?_⟩
            · simp only [G']
              split
              · rename_i hk'; subst hk'
                rw [List.getElem?_append_left (List.getElem?_eq_some_iff.1 hu).1]; exact hu
              · exact hu
            · have := next_of_tok hs.own hp
              simp only [G']
              rw [if_neg (by omega)]; exact hp
          have hper' : G'.per b = G.per b ++ rows2.flatten := by simp [G']
          have hnot : ∀ it ∈ R1 ++ R2, it.blk G ≠ some b := by
            intro it hit hb
            have hap := ((hs.own.perm hperm).apart)
            rw [List.pairwise_append] at hap
            exact hap.2.2 it hit (.tk τ) (by simp) b hb (by simp [Item.blk, htk])
          have hblk' : ∀ it ∈ R1 ++ R2, it.blk G' = it.blk G := by
            intro it hit
            cases it with
            | mu m cells => rfl
            | tk t =>
              have := (hO0.items _ hit).1
              simp only [Item.blk, G']
              rw [if_neg (by omega)]
            | ob m φ => rfl
          have hcellsnew : ∀ (j : Nat) (u : AV), (G'.per b)[j]? = some u → ∃ c : Value, cs'[j]? = some c ∧ Rep G' u c ∧ c.oneCell' = true := by
            intro j u hu
            rw [hper'] at hu
            by_cases hj : j < (G.per b).length
            · rw [List.getElem?_append_left hj] at hu
              obtain ⟨cs0, e0, w1, w2, w3⟩ := hs.own.per b (by intro h0; rw [h0] at hj; simp at hj)
              rw [hheap] at w1; injection w1 with w1; injection w1 with w1; subst w1
              obtain ⟨c, w4, w5, w6⟩ := w3 j u hu
              refine ⟨c, ?_, w5.ext hG, w6⟩
              simp only [cs', List.append_assoc, List.getElem?_toArray]
              rw [List.getElem?_append_left (by simp; rw [hplen] at hj; have := (Array.getElem?_eq_some_iff.1 w4).1; omega), List.getElem?_take, if_pos (by rw [hplen] at hj; exact hj)]
              simpa using w4
            · rw [List.getElem?_append_right (by omega), hplen] at hu
              obtain ⟨c, w4, w5, w6⟩ := hnc.2 _ u hu
              refine ⟨c, ?_, w5.ext hG, w6⟩
              rw [hplen] at hj
              simp only [cs', List.append_assoc, List.getElem?_toArray]
              rw [List.getElem?_append_right (by simp; omega)]
              simp only [List.length_take, Array.length_toList]
              rw [Nat.min_eq_left (by omega), List.getElem?_append_left (List.getElem?_eq_some_iff.1 w4).1]
              exact w4
          have hbmem : owned G R b := ⟨.tk τ, hmem, by simp [Item.blk, htk]⟩
          have hEx : Ext G R W G' (R1 ++ .tk G.next :: R2) (W.setRow b cs') := by
            refine ⟨rfl, rfl, rfl, hG, by simp [World.setRow], fun k hk' hn => ?_, fun _ _ => rfl, fun k hk' => ?_, by simp [G'], fun t ht' => by simp only [G']; rw [if_neg (by omega)], fun _ _ => rfl⟩
            · have hkb : k ≠ b := fun h0 => hn (h0 ▸ hbmem)
              exact ⟨setRow_other W b k cs' hkb, by simp only [G']; rw [if_neg hkb]⟩
            · obtain ⟨it, hit, hb⟩ := hk'
              simp only [List.mem_append, List.mem_cons] at hit
              rcases hit with h | rfl | h
              · exact .inl ⟨it, by rw [hi]; simp [h], by rw [← hblk' it (by simp [h])]; exact hb⟩
              · simp [Item.blk, G'] at hb
                exact .inl (hb ▸ hbmem)
              · exact .inl ⟨it, by rw [hi]; simp [h], by rw [← hblk' it (by simp [h])]; exact hb⟩
          have hOw : Own G' (R1 ++ .tk G.next :: R2) (W.setRow b cs') := by
            have hrest : ∀ it ∈ R1 ++ R2, it.ok G' (W.setRow b cs') := by
              intro it hit
              have hok := hO0.items it hit
              have hnb := hnot it hit
              cases it with
              | mu m cells =>
                rcases hok with ⟨h1, h2, h3⟩ | ⟨b', cs0, e0, h1, h2, h3, h4, h5, h6⟩
                · exact .inl ⟨h1, h2, by simp only [G']; omega⟩
                · have hb' : b' ≠ b := fun h0 => hnb (by simp only [Item.blk, h1, h0])
                  exact .inr ⟨b', cs0, e0, h1, (setRow_other W b b' cs' hb').trans h2, h3, h4, by simp only [G']; rw [if_neg hb']; exact h5, fun j u hu => let ⟨c, w1, w2, w3⟩ := h6 j u hu; ⟨c, w1, w2.ext hG, w3⟩⟩
              | tk t =>
                obtain ⟨h1, h2⟩ := hok
                refine ⟨by simp only [G']; omega, fun b' n hb' => ?_⟩
                simp only [G'] at hb'
                rw [if_neg (by omega)] at hb'
                obtain ⟨h3, cs0, e0, h4, h5⟩ := h2 b' n hb'
                have hb'' : b' ≠ b := fun h0 => hnb (by simp only [Item.blk, hb', Option.map_some, h0])
                exact ⟨by simp only [G']; rw [if_neg hb'']; exact h3, cs0, e0, (setRow_other W b b' cs' hb'').trans h4, h5⟩
              | ob m φ =>
                obtain ⟨b', o, h1, h2, h3, h4⟩ := hok
                have hb' : b' ≠ b := fun h0 => hnb (by simp only [Item.blk, h1, h0])
                exact ⟨b', o, h1, (setRow_other W b b' cs' hb').trans h2, h3, by simp only [G']; rw [if_neg hb']; exact h4⟩
            refine ⟨fun k hk' => ?_, fun it hit => ?_, ?_, fun k hk' => ?_, fun m hm => ?_, fun m k hmk => ?_, fun t p hp => ?_⟩
            · by_cases hkb : k = b
              · subst hkb
                exact ⟨cs', e', setRow_heap W k cs cs' e' _ hheap, hcs'.trans hcsz, hcellsnew⟩
              · have hpk : G'.per k = G.per k := by simp only [G']; rw [if_neg hkb]
                rw [hpk] at hk' ⊢
                obtain ⟨cs0, e0, w1, w2, w3⟩ := hs.own.per k hk'
                exact ⟨cs0, e0, (setRow_other W b k cs' hkb).trans w1, w2, fun j u hu => let ⟨c, w4, w5, w6⟩ := w3 j u hu; ⟨c, w4, w5.ext hG, w6⟩⟩
            · simp only [List.mem_append, List.mem_cons] at hit
              rcases hit with h | rfl | h
              · exact hrest it (by simp [h])
              · refine ⟨by simp [G'], fun b' n hb' => ?_⟩
                simp [G'] at hb'
                obtain ⟨rfl, rfl⟩ := hb'
                refine ⟨?_, cs', e', setRow_heap W b cs cs' e' _ hheap, hcs'.trans hcsz⟩
                rw [hper', List.length_append, hplen, hnc.1, hnl, Nat.add_mul]
                omega
              · exact hrest it (by simp [h])
            · refine ((hback G.next).pairwise_iff (fun {x y} hxy b hy hx => hxy b hx hy)).1 ?_
              refine List.pairwise_append.2 ⟨?_, List.pairwise_singleton _ _, ?_⟩
              · refine hO0.apart.imp_of_mem fun {x y} hx hy hxy k hkx hky => ?_
                rw [hblk' x hx] at hkx
                rw [hblk' y hy] at hky
                exact hxy k hkx hky
              · intro x hx y hy k hkx hky
                rw [List.mem_singleton] at hy
                subst hy
                rw [hblk' x hx] at hkx
                simp [Item.blk, G'] at hky
                exact hnot x hx (hky ▸ hkx)
            · have : (W.setRow b cs').heap.size = W.heap.size := by simp [World.setRow]
              rw [this] at hk'
              have h0 := hs.own.size k hk'
              refine ⟨h0.1, ?_⟩
              simp only [G']
              rw [if_neg (by omega)]
              exact h0.2
            · have := hs.own.names m (by simp only [G'] at hm; omega)
              refine ⟨this.1, ?_⟩
              simp only [G'] at hm ⊢
              rw [if_neg (by omega)]
              exact this.2
            · have : (W.setRow b cs').heap.size = W.heap.size := by simp [World.setRow]
              rw [this]; exact hs.own.locs m k hmk
            · have : (W.setRow b cs').heap.size = W.heap.size := by simp [World.setRow]
              rw [this]
              simp only [G'] at hp
              split at hp
              · injection hp with hp; subst hp; exact hblt
              · exact hs.own.toks t p hp
          refine ⟨_, _, G', _, _, hrun0 _ _ (by rw [hc]; exact hrun), hEx, hOw, ?_, hk G.next⟩
          refine .il (by simp) hrs (fun j u hu => ?_) hroom hz (fun t ht' => .inr ?_) hmax
          · rw [hper']
            rw [List.flatten_append] at hu
            by_cases hj : j < rows.flatten.length
            · rw [List.getElem?_append_left hj] at hu
              have h0 := hp j u hu
              rw [List.getElem?_append_left (List.getElem?_eq_some_iff.1 h0).1]
              exact h0
            · rw [List.getElem?_append_right (by omega)] at hu
              rw [List.getElem?_append_right (by rw [hplen]; omega), hplen, ← hu]
              congr 1
              rw [hfl]; omega
          · injection ht' with ht'; subst ht'
            simp [G']
      · have hfirst := run_firstCells_some (P := P)
        -- its cells as they lie
        have hcell := cells_of_per hs.own hp
        let f : Nat → Value := fun j => (W.cell? ⟨b, o' + j, none⟩).getD undef
        have hol : Cells G rows.flatten ((List.range rows.flatten.length).map f) := by
          refine ⟨by simp, fun j u hu => ?_⟩
          have hlt : j < rows.flatten.length := (List.getElem?_eq_some_iff.1 hu).1
          obtain ⟨c, w1, w2, w3⟩ := hcell j u hu
          exact ⟨c, (mapRange_get f _ j _).2 ⟨hlt, by simp only [f]; rw [w1]; rfl⟩, w2, w3⟩
        have hfl := flatten_length hr
        refine grow (some ⟨b, o', none⟩) cap _ hc (by omega) hol ?_
        refine hfirst W.drew i.size rows.length ⟨b, o', none⟩ rows.length cap _ (by simp only [List.length_map, List.length_range]; rw [hi2]; exact hfl) (fun j u hu => ?_)
        obtain ⟨hlt, rfl⟩ := (mapRange_get f _ j u).1 hu
        obtain ⟨c, w1, _⟩ := hcell j rows.flatten[j] (List.getElem?_eq_getElem hlt)
        rw [add0]
        simp only [f]
        rw [w1]
        exact w1

end
end Go.Abs
set_option linter.unusedVariables false
set_option linter.unusedSimpArgs false
namespace Go.Abs

def callOk (P : Program) (f : FuncId) : Bool := match P.funcs[f]? with
  | some fn => fn.name != "runtime.NumGoroutine" && fn.body.isSome
  | none => false

def evList (N : Nat) (env : Env) : List Operand → Option (List AV)
  | [] => some []
  | x :: l => (ev N env x).bind fun v => (evList N env l).map (v :: ·)

section
variable {P : Program} {N : Nat} {D : List Deferred} {o : Oper} {env : Env} {R : List Item} {K Kp : AV → List Item → Prop}

theorem evList_reps {G : Gh} {W : World} {a : Act} (hs : Sim N D G env R a W) : ∀ (xs : List Operand) (args : List AV), evList N env xs = some args → Reps G args (xs.map a.eval).toArray
  | [], args, h => by simp [evList] at h; subst h; exact ⟨rfl, fun i x hx => by simp at hx⟩
  | x :: xs, args, h => by
    simp only [evList, Option.bind_eq_some_iff, Option.map_eq_some_iff] at h
    obtain ⟨v, hv, args', ha, rfl⟩ := h
    obtain ⟨h1, h2⟩ := evList_reps hs xs args' ha
    refine ⟨by simpa using h1, fun i y hy => ?_⟩
    cases i with
    | zero => simp at hy; subst hy; exact ⟨_, by simp, ev_rep hs hv⟩
    | succ i => obtain ⟨c, h3, h4⟩ := h2 i y (by simpa using hy); exact ⟨c, by simpa using h3, h4⟩

theorem evArr_reps {G : Gh} {W : World} {a : Act} (hs : Sim N D G env R a W) (xs : Array Operand) (args : List AV) (h : evList N env xs.toList = some args) : Reps G args (xs.map a.eval) := by
  have e : (xs.toList.map a.eval).toArray = xs.map a.eval := by apply Array.ext'; simp
  rw [← e]
  exact evList_reps hs _ _ h
theorem Rep.fn_inv {G : Gh} {f : Fn} {l1 l2 : List AV} {c : Value} (h : Rep G (.fn f l1 l2) c) : ∃ c1 c2, c = .func f c1 c2 ∧ Reps G l1 c1 ∧ Reps G l2 c2 := by
  cases h with | fn hl1 h1 hl2 h2 => exact ⟨_, _, rfl, .of hl1 h1, .of hl2 h2⟩
theorem Rep.ifc_inv {G : Gh} {t : TypeId} {x : AV} {c : Value} (h : Rep G (.ifc t x) c) : ∃ c', c = .iface t c' ∧ Rep G x c' := by
  cases h with | ifc h => exact ⟨_, rfl, h⟩

theorem run_callFunc {f : FuncId} (hf : callOk P f = true) (args : Array Value) (W : World) : (callFunc f args).run P W = .ok (.enter f args) W := by
  unfold callOk at hf
  split at hf
  · rename_i fn hfn
    simp only [Bool.and_eq_true, bne_iff_ne, ne_eq] at hf
    obtain ⟨h1, h2⟩ := hf
    have h3 : fn.body ≠ none := by intro h; rw [h] at h2; cases h2
    simp [callFunc, hfn, h1, h3]
  · cases hf

theorem AOp.enters {f : FuncId} {args : List AV} {Q : AOut → List Item → Prop} (hr : ∀ G W a, Sim N D G env R a W → ∃ cargs : Array Value, (execOp a.eval o).run P W = .ok (.enter f cargs) W ∧ Reps G args cargs)
    (hc : ACalls P f args R Q) (hk : ∀ r R', Q (.ret r) R' → K r R') (hp : ∀ x R', Q (.pan x) R' → Kp x R') : AOp P N D o env R K Kp := by
  intro G W a hs next post h1 h2
  obtain ⟨cargs, hrun, hreps⟩ := hr G W a hs
  unfold Oper.wp
  rw [hrun]
  simp only [Oper.upon]
  refine (hc G W cargs hs.own hreps).mono fun e w he => ?_
  cases e with
  | returned c =>
    obtain ⟨G', R', r, q1, q2, q3, q4⟩ := he
    exact h1 G' R' c r w q1 q2 q3 (hk r R' q4)
  | panicked ch =>
    obtain ⟨G', R', x, c, rfl, q1, q2, q3, q4⟩ := he
    exact h2 G' R' c x w q1 q2 q3 (hp x R' q4)
  | outgrown => exact he.elim

theorem AOp.call {f : FuncId} {xs : Array Operand} {ts : Array TypeId} {args : List AV} {Q : AOut → List Item → Prop} (ho : o.op = .call { callee := .value (.func f), args := xs, argTypes := ts }) (hf : callOk P f = true)
    (ha : evList N env xs.toList = some args) (hc : ACalls P f args R Q) (hk : ∀ r R', Q (.ret r) R' → K r R') (hp : ∀ x R', Q (.pan x) R' → Kp x R') : AOp P N D o env R K Kp :=
  .enters (fun G W a hs => ⟨xs.map a.eval, by
    simp [execOp, ho, resolve, Act.eval, Deferred.ofValue, invoke, run_callFunc hf], evArr_reps hs xs args ha⟩) hc hk hp

/-- A function value is called. -/
theorem AOp.callFn {f : FuncId} {x : Operand} {xs : Array Operand} {ts : Array TypeId} {args cap : List AV} {Q : AOut → List Item → Prop} (ho : o.op = .call { callee := .value x, args := xs, argTypes := ts }) (hf : callOk P f = true)
    (hx : ev N env x = some (.fn (.func f) [] cap)) (ha : evList N env xs.toList = some args) (hc : ACalls P f (args ++ cap) R Q) (hk : ∀ r R', Q (.ret r) R' → K r R') (hp : ∀ x R', Q (.pan x) R' → Kp x R') : AOp P N D o env R K Kp :=
  .enters (fun G W a hs => by
    obtain ⟨c1, c2, heq, hr1, e2⟩ := (ev_rep hs hx).fn_inv
    have hc1 : c1 = #[] := by apply Array.eq_empty_of_size_eq_zero; simpa using hr1.1.symm
    subst hc1
    refine ⟨xs.map a.eval ++ c2, by simp [execOp, ho, resolve, heq, Deferred.ofValue, invoke, run_callFunc hf], ?_⟩
    have e1 := evArr_reps hs xs args ha
    refine ⟨by have h3 := e1.1; have h4 := e2.1; simp at h3 h4 ⊢; omega, fun i y hy => ?_⟩
    have hl : args.length = xs.size := by have := e1.1; simpa using this
    by_cases hi : i < args.length
    · rw [List.getElem?_append_left hi] at hy
      obtain ⟨c, q1, q2⟩ := e1.2 i y hy
      refine ⟨c, ?_, q2⟩
      rw [Array.getElem?_append_left (by simp; omega)]
      exact q1
    · rw [List.getElem?_append_right (by omega)] at hy
      obtain ⟨c, q1, q2⟩ := e2.2 _ y hy
      refine ⟨c, ?_, q2⟩
      rw [Array.getElem?_append_right (by simp; omega)]
      simpa [hl] using q1) hc hk hp

theorem QOp.makeFunc {f : Fn} {xs ys : Array Operand} {l1 l2 : List AV} (ho : o.op = .makeFunc f xs ys) (h1 : evList N env xs.toList = some l1) (h2 : evList N env ys.toList = some l2) (hf : ∃ g, f = .func g) : QOp P N D o env R (.fn f l1 l2) :=
  (fun G W a hs => by
    obtain ⟨g, rfl⟩ := hf
    have e1' := evArr_reps hs _ _ h1
    have e2' := evArr_reps hs _ _ h2
    refine ⟨.func (.func g) (xs.map a.eval) (ys.map a.eval), by simp [execOp, ho, Instr.makeFunc], ?_⟩
    exact .fn e1'.1 e1'.to e2'.1 e2'.to)

theorem AOp.panic {x : Operand} {t : TypeId} {v : AV} (ho : o.op = .panic x) (hx : ev N env x = some (.ifc t v)) (hk : Kp (.ifc t v) R) : AOp P N D o env R K Kp := by
  intro G W a hs next post h1 h2
  obtain ⟨c, heq, h⟩ := (ev_rep hs hx).ifc_inv
  unfold Oper.wp
  have : (execOp a.eval o).run P W = .halt (.panic (.iface t c)) W := by simp [execOp, ho, heq, Instr.panic]
  rw [this]
  exact h2 G R (.iface t c) (.ifc t v) W (.refl G R W) hs.own (.ifc h) hk

theorem QOp.makeIface {x : Operand} {t : TypeId} {td : TD} {v : AV} (ho : o.op = .makeInterface t x) (hx : ev N env x = some v) (hT : TOK P t td) (hd : ∀ n, td.ds ≠ .ifc n) : QOp P N D o env R (.ifc t v) :=
  (fun G W a hs => by
    obtain ⟨d, h1, h2⟩ := hT.und
    refine ⟨.iface t (a.eval x), ?_, .ifc (ev_rep hs hx)⟩
    have hni : ∀ ms, d ≠ .interface ms := fun ms h => hd ms.size (by rw [← h2, h]; rfl)
    cases d <;> first | (simp [execOp, ho, Instr.makeInterface, run_underlying h1]; done) | exact absurd rfl (hni _))

/-! Functions. -/
def initEnv (args : List AV) : Env := fun n => args[n]?

/-- What a function hands back. -/
inductive ResL (P : Program) (N : Nat) (env : Env) (R : List Item) : List ResultVar → List AV → Prop
  | nil : ResL P N env R [] []
  | tmp {t : Tmp} {v : AV} {rs : List ResultVar} {l : List AV} (h : ev N env (.tmp t) = some v) (h' : ResL P N env R rs l) : ResL P N env R (.tmp t :: rs) (v :: l)
  | cell (i : Nat) {t : Tmp} {ty : TypeId} {td : TD} {m k : Nat} {cells : List AV} {v : AV} {rs : List ResultVar} {l : List AV} (h : ev N env (.tmp t) = some (.mp m k)) (hi : R[i]? = some (.mu m cells)) (hT : TOK P ty td) (hv : aload td cells k = some v)
      (h' : ResL P N env R rs l) : ResL P N env R (.cell t ty :: rs) (v :: l)

def resOf : List AV → AV
  | [v] => v
  | l => .tup l

theorem ResL.run {G : Gh} {W : World} {a : Act} (hs : Sim N D G env R a W) : ∀ {rs : List ResultVar} {l : List AV}, ResL P N env R rs l →
    ∃ cs : List Value, (rs.mapM fun (r : ResultVar) => (match r with
      | .tmp t => pure (a.tmps.getD t undef)
      | .cell b t => do loadVar t (← asAddr (a.tmps.getD b undef)) : Sem Value)).run P W = .ok cs W ∧ Reps G l cs.toArray := by
  intro rs l h
  induction h with
  | nil => exact ⟨[], by simp, rfl, fun i x hx => by simp at hx⟩
  | @tmp t v rs l hv h' ih =>
    obtain ⟨cs, h1, h2⟩ := ih
    have hr := ev_rep hs hv
    simp only [Act.eval] at hr
    refine ⟨a.tmps.getD t undef :: cs, by simp only [List.mapM_cons, Sem.run_bind, Sem.run_pure, Result.andThen_ok, h1], by simpa using h2.1, fun i x hx => ?_⟩
    cases i with
    | zero => simp at hx; subst hx; exact ⟨_, rfl, hr⟩
    | succ i => obtain ⟨c, h3, h4⟩ := h2.2 i x (by simpa using hx); exact ⟨c, by simpa using h3, h4⟩
  | @cell i t ty td m k cells v rs l hv hi hT hl h' ih =>
    obtain ⟨cs, h1, h2⟩ := ih
    obtain ⟨b, hb1, hb2⟩ := (ev_rep hs hv).mp_inv
    simp only [Act.eval] at hb1
    obtain ⟨c, h3, h4⟩ := run_loadVar hT (o := 0) (cells_of_mu hs.own (List.mem_of_getElem? hi) hb2) hl
    rw [Nat.zero_add] at h3
    refine ⟨c :: cs, ?_, by simpa using h2.1, fun i x hx => ?_⟩
    · have hA : (asAddr (a.tmps.getD t undef)).run P W = .ok ⟨b, k, none⟩ W := by rw [hb1]; rfl
      simp only [List.mapM_cons, Sem.run_bind, hA, Sem.run_pure, Result.andThen_ok, h3, h1]
    · cases i with
      | zero => simp at hx; subst hx; exact ⟨_, by simp, h4⟩
      | succ i => obtain ⟨c, h3, h4⟩ := h2.2 i x (by simpa using hx); exact ⟨c, by simpa using h3, h4⟩

theorem results_run {G : Gh} {W : World} {a : Act} {fn : Func} (hs : Sim N D G env R a W) {l : List AV} (h : ResL P N env R fn.results.toList l) : ∃ c, (results fn a.tmps).run P W = .ok c W ∧ Rep G (resOf l) c := by
  obtain ⟨cs, h1, h2⟩ := h.run hs
  have h3 : (fn.results.mapM fun (r : ResultVar) => (match r with
      | .tmp t => pure (a.tmps.getD t undef)
      | .cell b t => do loadVar t (← asAddr (a.tmps.getD b undef)) : Sem Value)).run P W = .ok cs.toArray W := by
    rw [Array.mapM_eq_mapM_toList, Sem.run_map, h1]
    rfl
  have hl : l.length = cs.length := by simpa using h2.1
  have h4 : (results fn a.tmps).run P W = ((.ok cs.toArray W : Result (Array Value)).andThen fun vs w' => .ok (if h : vs.size = 1 then vs[0] else .tuple vs) w') := by
    unfold results
    rw [Sem.run_bind]
    exact congrArg (fun r => Result.andThen r _) h3
  rw [h4]
  simp only [Result.andThen_ok]
  clear h4 h3 h1
  match l, cs, hl with
  | [v], [c], _ =>
    obtain ⟨c', h4, h5⟩ := h2.2 0 v rfl
    simp at h4; subst h4
    exact ⟨c, by simp, h5⟩
  | [], [], _ => exact ⟨.tuple #[], by simp, h2.tup⟩
  | v :: v' :: l, c :: c' :: cs, _ => exact ⟨.tuple (c :: c' :: cs).toArray, by simp, h2.tup⟩

/-- What is asked at a body's end. -/
def bodyQ (P : Program) (N : Nat) (rs : List ResultVar) (Q : AOut → List Item → Prop) : AExit → Env → List Item → Prop
  | .normal, env, R | .ret, env, R => ∃ l R1 R2, ResL P N env R rs l ∧ R.Perm R1 ∧ R2.Sublist R1 ∧ Q (.ret (resOf l)) R2
  | .panic x, env, R => ∃ R1 R2, R.Perm R1 ∧ R2.Sublist R1 ∧ Q (.pan x) R2
  | .exit _, _, _ => False

theorem ACalls.of_code {f : FuncId} {fn : Func} {c : Code} {args : List AV} {Q : AOut → List Item → Prop} (hf : P.funcs[f]? = some fn) (hb : fn.body = some c) (hn : fn.ntmps = N) (hal : args.length ≤ N)
    (h : ACode P N [] c (initEnv args) R (bodyQ P N fn.results.toList Q)) : ACalls P f args R Q := by
  intro G W cargs hO hreps
  have hsz : cargs.size = args.length := hreps.1.symm
  have hsim : Sim N [] G (initEnv args) R { tmps := cargs ++ Array.replicate (fn.ntmps - cargs.size) undef, defers := [] } W := by
    refine ⟨hO, fun d v hd hv => ?_, by simp; omega, rfl⟩
    obtain ⟨c, h1, h2⟩ := hreps.2 d v hv
    have hlt : d < cargs.size := (Array.getElem?_eq_some_iff.1 h1).1
    have : (cargs ++ Array.replicate (fn.ntmps - cargs.size) undef).getD d undef = c := by
      simp only [Array.getD_eq_getD_getElem?, Array.getElem?_append_left hlt, h1, Option.getD_some]
    rw [this]
    exact h2
  refine calls_of_wp hf hb (Go.wp_mono (h G W _ hsim) fun e a w hq => ?_)
  have fin : ∀ (G' : Gh) (env' : Env) (R' : List Item), Ext G R W G' R' w → Sim N [] G' env' R' a w → (∃ l R1 R2, ResL P N env' R' fn.results.toList l ∧ R'.Perm R1 ∧ R2.Sublist R1 ∧ Q (.ret (resOf l)) R2) →
      a.defers = [] ∧ ∃ v, (results fn a.tmps).run P w = .ok v w ∧ AEnds G R W Q (.returned v) w := by
    rintro G' env' R' hE hs ⟨l, R1, R2, hres, hp, hsub, hQ⟩
    obtain ⟨v, h1, h2⟩ := results_run hs hres
    exact ⟨hs.defers, v, h1, G', R2, resOf l, hE.sub fun it hi => hp.mem_iff.2 (hsub.subset hi), (hs.own.perm hp).sub hsub, h2, hQ⟩
  cases e with
  | normal => obtain ⟨G', env', R', hE, hs, hq⟩ := hq; exact fin G' env' R' hE hs hq
  | ret => obtain ⟨G', env', R', hE, hs, hq⟩ := hq; exact fin G' env' R' hE hs hq
  | panic ch =>
    obtain ⟨G', env', R', x, c, rfl, hx, hE, hs, R1, R2, hp, hsub, hQ⟩ := hq
    exact ⟨hs.defers, G', R2, x, c, rfl, hE.sub fun it hi => hp.mem_iff.2 (hsub.subset hi), (hs.own.perm hp).sub hsub, hx, hQ⟩
  | exit id => obtain ⟨_, _, _, _, _, hq⟩ := hq; exact hq.elim
  | goto l => exact hq.elim
  | outgrown => exact hq.elim

end
end Go.Abs
set_option linter.unusedVariables false
set_option linter.unusedSimpArgs false
namespace Go.Abs

section
variable {P : Program} {N : Nat} {D : List Deferred} {ops : Array Oper}

def onlyLooks (ops : Array Oper) (o : Oper) (env : Env) : Env := fun n => if (o.looksAt ops).contains n then env n else none

/-- Is the operation carried out? -/
inductive Wants (N : Nat) (ops : Array Oper) (o : Oper) (env : Env) : Bool → Prop
  | none (h : o.guard = none) : Wants N ops o env true
  | yes (j : Nat) (b : Bool) (d : Nat) (hg : o.guard = some (j, b)) (hd : (ops[j]?).bind (·.dst) = some d) (he : ev N env (.tmp d) = some (.v (.bool b))) : Wants N ops o env true
  | no (j : Nat) (b : Bool) {x : Value} (d : Nat) (hg : o.guard = some (j, b)) (hd : (ops[j]?).bind (·.dst) = some d) (he : ev N env (.tmp d) = some (.v x)) (hb : isB x b = false) : Wants N ops o env false

theorem Wants.sound {o : Oper} {env : Env} {b : Bool} (h : Wants N ops o env b) {G : Gh} {R : List Item} {a : Act} {W : World} (hs : Sim N D G env R a W) : Region.wanted o (yielded ops a.tmps) = b := by
  have key : ∀ (d : Nat) (x : Value), ev N env (.tmp d) = some (.v x) → a.tmps[d]? = some x := by
    intro d x he
    have hr := (ev_rep hs he).v_inv
    simp only [ev] at he
    split at he
    · rename_i hdN
      have hlt : d < a.tmps.size := hs.size ▸ hdN
      simp only [Act.eval, Array.getD, hlt, dif_pos] at hr
      rw [Array.getElem?_eq_getElem hlt]
      simpa using hr
    · cases he
  cases h with
  | none h => simp [Region.wanted, h]
  | yes j b d hg hd he => simp [Region.wanted, hg, yielded, hd, key d _ he]
  | @no j b x d hg hd he hb =>
    have := key d _ he
    cases x <;> simp [isB] at hb <;> simp [Region.wanted, hg, yielded, hd, this]
    intro he; exact hb he

/-- Operation i, as the guards have it. -/
inductive AOpI (P : Program) (N : Nat) (D : List Deferred) (ops : Array Oper) (i : Nat) (env : Env) (R : List Item) (K Kp : AV → List Item → Prop) : Prop
  | does (o : Oper) (hi : ops[i]? = some o) (hw : Wants N ops o env true) (h : AOp P N D o env R K Kp)
  | passed (o : Oper) (hi : ops[i]? = some o) (hw : Wants N ops o env false) (h : K (.v undef) R)

/-- What operation i yields, whenever it comes: it looks at its own slots and at what is owned alone. -/
inductive AQ (P : Program) (N : Nat) (D : List Deferred) (ops : Array Oper) (i : Nat) (env : Env) (R : List Item) : AV → Prop
  | does (o : Oper) (v : AV) (hi : ops[i]? = some o) (hw : Wants N ops o (onlyLooks ops o env) true) (h : QOp P N D o (onlyLooks ops o env) R v) : AQ P N D ops i env R v
  | passed (o : Oper) (hi : ops[i]? = some o) (hw : Wants N ops o (onlyLooks ops o env) false) : AQ P N D ops i env R (.v undef)

theorem Sim.less {env env' : Env} {G : Gh} {R : List Item} {a : Act} {W : World} (hs : Sim N D G env R a W) (h : ∀ n v, env' n = some v → env n = some v) : Sim N D G env' R a W :=
  ⟨hs.own, fun d v hd hv => hs.env d v hd (h d v hv), hs.size, hs.defers⟩
theorem onlyLooks_le {o : Oper} {env : Env} : ∀ n v, onlyLooks ops o env n = some v → env n = some v := by
  intro n v h
  simp only [onlyLooks] at h
  split at h
  · exact h
  · cases h
theorem Wants.more {o : Oper} {env env' : Env} {b : Bool} (h : Wants N ops o env' b) (hle : ∀ n v, env' n = some v → env n = some v) : Wants N ops o env b := by
  have key : ∀ d x, ev N env' (.tmp d) = some x → ev N env (.tmp d) = some x := by
    intro d x he
    simp only [ev] at he ⊢
    split at he
    · rename_i hd; rw [if_pos hd]; exact hle _ _ he
    · cases he
  cases h with
  | none h => exact .none h
  | yes j b d hg hd he => exact .yes j b d hg hd (key _ _ he)
  | no j b d hg hd he hb => exact .no j b d hg hd (key _ _ he) hb

theorem AQ.to {i : Nat} {env : Env} {R : List Item} {v : AV} {K Kp : AV → List Item → Prop} (h : AQ P N D ops i env R v) (hk : K v R) : AOpI P N D ops i env R K Kp := by
  cases h with
  | does o v hi hw h => exact .does o hi (hw.more onlyLooks_le) (.q (fun G W a hs => h G W a (hs.less onlyLooks_le)) hk)
  | passed o hi hw => exact .passed o hi (hw.more onlyLooks_le) hk
theorem AQ.value {i : Nat} {env : Env} {R : List Item} {v : AV} (h : AQ P N D ops i env R v) {G : Gh} {a : Act} {W : World} (hs : Sim N D G env R a W) : ∃ c, Rep G v c := by
  cases h with
  | does o v hi hw h => obtain ⟨c, _, hc⟩ := h G W a (hs.less onlyLooks_le); exact ⟨c, hc⟩
  | passed o hi hw => exact ⟨undef, .v⟩

theorem onlyLooks_congr {o : Oper} {env env' : Env} (h : ∀ n, n ∈ o.looksAt ops → env' n = env n) : onlyLooks ops o env' = onlyLooks ops o env := by
  funext n
  simp only [onlyLooks]
  split
  · rename_i hc; exact h n (by simpa using hc)
  · rfl
theorem AQ.congr {i : Nat} {env env' : Env} {R : List Item} {v : AV} (h : AQ P N D ops i env R v) (he : ∀ o, ops[i]? = some o → ∀ n, n ∈ o.looksAt ops → env' n = env n) : AQ P N D ops i env' R v := by
  cases h with
  | does o v hi hw h => exact .does o v hi (by rw [onlyLooks_congr (he o hi)]; exact hw) (by rw [onlyLooks_congr (he o hi)]; exact h)
  | passed o hi hw => exact .passed o hi (by rw [onlyLooks_congr (he o hi)]; exact hw)

def dstOf (ops : Array Oper) (i : Nat) : Option Tmp := (ops[i]?).bind (·.dst)

/-- An effect: what others may wait for, or see. -/
def Oper.quiet (o : Oper) : Bool := match o.op with
  | .move _ | .pick .. | .build .. | .load .. | .nilCheck _ | .binOp .. | .unOp .. | .convert .. | .fieldAddr .. | .field .. | .indexAddr .. | .index .. | .extract .. | .slice .. | .makeFunc .. | .makeInterface .. | .lookup .. => true
  | .call { callee := .builtin .len, .. } => true
  | _ => false
def quietAt (ops : Array Oper) (i : Nat) : Bool := match ops[i]? with
  | some o => Oper.quiet o
  | none => false

def aheadOf (cl : List (List Nat)) (j : Nat) : List Nat := cl.getD j []

/-- What is asked of a region by text. -/
def okRegion (ops : Array Oper) (cl : List (List Nat)) : Bool :=
  Region.noSelect ops &&
  (List.range ops.size).all fun j => match ops[j]? with
    | none => false
    | some oj =>
      -- what is told as ahead is ahead
      ((aheadOf cl j).all fun p => (o_after oj).any fun e => e == p || (aheadOf cl e).contains p) &&
      ((o_after oj).all fun e => (aheadOf cl j).contains e) &&
      ((List.range ops.size).all fun i => match ops[i]? with
        | none => false
        | some oi =>
          (i == j || (o_after oj).contains i || (o_after oi).contains j || oi.apart ops oj) &&
          (!Oper.quiet oi || (match oi.dst with | some d => !(oj.looksAt ops).contains d || (i != j && (aheadOf cl j).contains i) | none => true)))
where o_after (o : Oper) : List Nat := (o.after.toList.filter (Region.binds .any)).map (·.on)

def pendOf (ops : Array Oper) (cl : List (List Nat)) (j : Nat) (pd : List (Nat × AV)) : List (Nat × AV) :=
  if quietAt ops j then pd else pd.filter fun p => !(aheadOf cl j).contains p.1

/-- Whatever order is drawn from here on. pd: quiet operations that have been taken, though they may come later. -/
def AAny (P : Program) (N : Nat) (D : List Deferred) (ops : Array Oper) (cl : List (List Nat)) (Q : AExit → Env → List Item → Prop) : Nat → Array Bool → List (Nat × AV) → Env → List Item → Prop
  | 0, listed, _, env, R => Region.ready .any ops listed = [] ∧ Q .normal env R
  | fuel + 1, listed, pd, env, R =>
    (Region.ready .any ops listed = [] → Q .normal env R) ∧
    ∀ j ∈ Region.ready .any ops listed, AOpI P N D ops j env R
      (fun u R' => (∀ p ∈ pendOf ops cl j pd, AQ P N D ops p.1 (env.put (dstOf ops j) u) R' p.2) ∧ AAny P N D ops cl Q fuel (listed.setIfInBounds j true) (pendOf ops cl j pd) (env.put (dstOf ops j) u) R')
      (fun x R' => Q (.panic x) (fun _ => none) R')

variable {cl : List (List Nat)} {Q : AExit → Env → List Item → Prop}

theorem AOpI.mono {i : Nat} {env : Env} {R : List Item} {K K' Kp Kp' : AV → List Item → Prop} (h : AOpI P N D ops i env R K Kp) (hk : ∀ v R, K v R → K' v R) (hp : ∀ v R, Kp v R → Kp' v R) : AOpI P N D ops i env R K' Kp' := by
  cases h with
  | does o hi hw h => exact .does o hi hw (h.mono hk hp)
  | passed o hi hw h => exact .passed o hi hw (hk _ _ h)

/-- It is what the model asks. -/
theorem AAny.sound : ∀ (fuel : Nat) (listed : Array Bool) (pd : List (Nat × AV)) (env : Env) (R : List Item), AAny P N D ops cl Q fuel listed pd env R → ∀ (G : Gh) (W : World) (a : Act), Sim N D G env R a W →
    ∀ (post : Exit → Act → World → Prop), (∀ e a' w', conc N D G R W Q e a' w' → post e a' w') → wpAny P .any ops post fuel listed a W
  | 0, listed, pd, env, R, h, G, W, a, hs, post, hp => ⟨h.1, hp _ _ _ ⟨G, env, R, .refl G R W, hs, h.2⟩⟩
  | fuel + 1, listed, pd, env, R, h, G, W, a, hs, post, hp => by
    refine ⟨fun h0 => hp _ _ _ ⟨G, env, R, .refl G R W, hs, h.1 h0⟩, fun j hj => ?_⟩
    have hj' := h.2 j hj
    unfold wpOp
    cases hj' with
    | does o hi hw hop =>
      have hd : dstOf ops j = o.dst := by simp [dstOf, hi]
      rw [hd] at hop
      simp only [hi]
      rw [if_pos (hw.sound hs)]
      refine .inl (hop G W a hs _ post ?_ ?_)
      · intro G' R' c v W' hE hO hv hk
        exact AAny.sound fuel _ _ _ _ hk.2 G' W' _ (hs.put hE.gext hO hv o.dst) post fun e a' w' hc => hp e a' w' (hc.trans hE)
      · intro G' R' c x W' hE hO hv hk
        exact hp _ _ _ ⟨G', fun _ => none, R', x, c, rfl, hv, hE, ⟨hO, (fun d v _ hv => by simp at hv), hs.size, hs.defers⟩, hk⟩
    | passed o hi hw hk =>
      have hd : dstOf ops j = o.dst := by simp [dstOf, hi]
      rw [hd] at hk
      simp only [hi]
      rw [if_neg (by rw [hw.sound hs]; simp)]
      exact AAny.sound fuel _ _ _ _ hk.2 G W _ (hs.put (GExt.refl G) hs.own .v o.dst) post hp

theorem AAny.pend : ∀ (fuel : Nat) (listed : Array Bool) (pd pd' : List (Nat × AV)) (env : Env) (R : List Item), (∀ p ∈ pd', p ∈ pd) → AAny P N D ops cl Q fuel listed pd env R → AAny P N D ops cl Q fuel listed pd' env R
  | 0, _, _, _, _, _, _, h => h
  | fuel + 1, listed, pd, pd', env, R, hpd, h => by
    refine ⟨h.1, fun j hj => (h.2 j hj).mono (fun v R' ⟨h1, h2⟩ => ?_) (fun _ _ h => h)⟩
    have hsub : ∀ p ∈ pendOf ops cl j pd', p ∈ pendOf ops cl j pd := by
      intro p hp
      unfold pendOf at hp ⊢
      split
      · rename_i hq; rw [if_pos hq] at hp; exact hpd p hp
      · rename_i hq; rw [if_neg hq] at hp; rw [List.mem_filter] at hp ⊢; exact ⟨hpd p hp.1, hp.2⟩
    exact ⟨fun p hp => h1 p (hsub p hp), AAny.pend fuel _ _ _ _ _ hsub h2⟩

theorem put_eq {a b : Act} {d : Option Tmp} {x y : Value} (hsz : a.tmps.size = b.tmps.size) (h : b.put d x = b.put d y) : a.put d x = a.put d y := by
  cases d with
  | none => rfl
  | some d =>
    simp only [Act.put, Act.mk.injEq, and_true] at h ⊢
    by_cases hd : d < a.tmps.size
    · have h1 : (b.tmps.setIfInBounds d x)[d]? = (b.tmps.setIfInBounds d y)[d]? := by rw [h]
      simp [hsz ▸ hd] at h1
      rw [h1]
    · have h1 : ∀ z, a.tmps.setIfInBounds d z = a.tmps := fun z => by
        apply Array.ext'
        rw [Array.toList_setIfInBounds]
        exact List.set_eq_of_length_le (by rw [Array.length_toList]; exact Nat.le_of_not_lt hd)
      rw [h1, h1]

/-- An operation apart from one whose value may already be in its slot. -/
theorem AOpI.swap {i j : Nat} {oi oj : Oper} {env : Env} {R : List Item} {v : AV} {K Kp : AV → List Item → Prop} (hj : ops[j]? = some oj) (hap : oi.apart ops oj = true) (hsj : ∀ cs b, oj.op ≠ .select cs b)
    (hv : ∀ G W a, Sim N D G env R a W → ∃ c, Rep G v c) (hW : ∀ b, Wants N ops oj (env.put oi.dst v) b → Wants N ops oj env b) (h : AOpI P N D ops j (env.put oi.dst v) R K Kp) : AOpI P N D ops j env R K Kp := by
  obtain ⟨h1, h2, h3⟩ := Oper.apart_spec hap
  cases h with
  | passed o hi hw h => rw [hj] at hi; injection hi with hi; subst hi; exact .passed _ hj (hW _ hw) h
  | does o hi hw h =>
    rw [hj] at hi; injection hi with hi; subst hi
    refine .does _ hj (hW _ hw) fun G W a hs next post hn hpan => ?_
    obtain ⟨c, hc⟩ := hv G W a hs
    have hs' := hs.put (GExt.refl G) hs.own hc oi.dst
    have hres := h G W (a.put oi.dst c) hs'
      (fun a1 W' => ∃ c' G' R' u, a1 = (a.put oi.dst c).put oj.dst c' ∧ Ext G R W G' R' W' ∧ Own G' R' W' ∧ Rep G' u c' ∧ K u R')
      (fun e a1 W' => ∃ G' R' c' x, e = .panic [{ v := c', recovered := false }] ∧ Ext G R W G' R' W' ∧ Own G' R' W' ∧ Rep G' x c' ∧ Kp x R')
      (fun G' R' c' u W' q1 q2 q3 q4 => ⟨c', G', R', u, rfl, q1, q2, q3, q4⟩) (fun G' R' c' x W' q1 q2 q3 q4 => ⟨G', R', c', x, rfl, q1, q2, q3, q4⟩)
    have hsz : a.tmps.size = (a.put oi.dst c).tmps.size := by cases oi.dst <;> simp [Act.put]
    have back : ∀ val W', (∃ c' G' R' u, (a.put oi.dst c).put oj.dst val = (a.put oi.dst c).put oj.dst c' ∧ Ext G R W G' R' W' ∧ Own G' R' W' ∧ Rep G' u c' ∧ K u R') → next (a.put oj.dst val) W' := by
      rintro val W' ⟨c', G', R', u, he, q1, q2, q3, q4⟩
      rw [put_eq hsz he]
      exact hn G' R' c' u W' q1 q2 q3 q4
    have pback : ∀ ch W', (∃ G' R' c' x, Exit.panic ch = .panic [{ v := c', recovered := false }] ∧ Ext G R W G' R' W' ∧ Own G' R' W' ∧ Rep G' x c' ∧ Kp x R') → post (.panic ch) a W' := by
      rintro ch W' ⟨G', R', c', x, he, q1, q2, q3, q4⟩
      injection he with he
      subst he
      exact hpan G' R' c' x W' q1 q2 q3 q4
    unfold Oper.wp at hres ⊢
    rw [execOp_put oj hsj a oi.dst c h1] at hres
    generalize (execOp a.eval oj).run P W = r at hres ⊢
    cases r with
    | ok n w' =>
      cases n <;> simp only [Oper.upon] at hres ⊢
      case value u => exact back u w' hres
      case skip => exact back undef w' hres
      case defer d =>
        obtain ⟨c', G', R', u, he, _⟩ := hres
        have hd := congrArg Act.defers he
        have e1 : ({ a.put oi.dst c with defers := d :: (a.put oi.dst c).defers } : Act).defers = d :: (a.put oi.dst c).defers := rfl
        cases hdst : oj.dst with
        | none => rw [hdst] at hd; simp only [Act.put] at hd; exact absurd hd (by simp)
        | some t => rw [hdst] at hd; simp only [Act.put] at hd; exact absurd hd (by simp)
      case enter f args =>
        refine Calls.mono hres fun e w'' he => ?_
        cases e with
        | returned u => exact back u w'' he
        | panicked ch => exact pback ch w'' he
        | outgrown => obtain ⟨a0, w0, G', R', c', x, he, _⟩ := he; cases he
      case row row args => exact Rows.mono hres fun u w'' he => back u w'' he
    | halt x w' =>
      cases x <;> simp only [Oper.upon] at hres ⊢
      case panic u => exact pback _ _ hres

theorem ok_pair (hok : okRegion ops cl = true) {i j : Nat} {oi oj : Oper} (hi : ops[i]? = some oi) (hj : ops[j]? = some oj) :
    (i = j ∨ (∃ e ∈ oj.after, Region.binds .any e = true ∧ e.on = i) ∨ (∃ e ∈ oi.after, Region.binds .any e = true ∧ e.on = j) ∨ oi.apart ops oj = true) ∧
    (Oper.quiet oi = true → ∀ d, oi.dst = some d → d ∈ oj.looksAt ops → i ≠ j ∧ i ∈ aheadOf cl j) := by
  unfold okRegion at hok
  rw [Bool.and_eq_true, List.all_eq_true] at hok
  have h1 := hok.2 j (by simpa using (Array.getElem?_eq_some_iff.1 hj).1)
  simp only [hj, Bool.and_eq_true, List.all_eq_true] at h1
  have h2 := h1.2 i (by simpa using (Array.getElem?_eq_some_iff.1 hi).1)
  simp only [hi, Bool.and_eq_true, Bool.or_eq_true] at h2
  have aft : ∀ (o : Oper) (k : Nat), (okRegion.o_after o).contains k = true → ∃ e ∈ o.after, Region.binds .any e = true ∧ e.on = k := by
    intro o k hk
    simp only [okRegion.o_after, List.contains_iff_mem, List.mem_map, List.mem_filter] at hk
    obtain ⟨e, ⟨he, hb⟩, rfl⟩ := hk
    exact ⟨e, by simpa using he, hb, rfl⟩
  refine ⟨?_, fun hq d hd hmem => ?_⟩
  · rcases h2.1 with ((h | h) | h) | h
    · exact .inl (by simpa using h)
    · exact .inr (.inl (aft _ _ h))
    · exact .inr (.inr (.inl (aft _ _ h)))
    · exact .inr (.inr (.inr h))
  · rcases h2.2 with h | h
    · rw [hq] at h; exact absurd h (by simp)
    · rw [hd] at h
      simp only [Bool.or_eq_true, Bool.not_eq_true', Bool.and_eq_true] at h
      rcases h with h | h
      · have : (oj.looksAt ops).contains d = true := by simpa using hmem
        rw [this] at h; cases h
      · exact ⟨by simpa using h.1, by simpa using h.2⟩

theorem ok_ahead (hok : okRegion ops cl = true) {j : Nat} {oj : Oper} (hj : ops[j]? = some oj) {p : Nat} (hp : p ∈ aheadOf cl j) : ∃ e ∈ oj.after, Region.binds .any e = true ∧ (e.on = p ∨ p ∈ aheadOf cl e.on) := by
  unfold okRegion at hok
  rw [Bool.and_eq_true, List.all_eq_true] at hok
  have h1 := hok.2 j (by simpa using (Array.getElem?_eq_some_iff.1 hj).1)
  simp only [hj, Bool.and_eq_true, List.all_eq_true] at h1
  have h2 := h1.1.1 p hp
  simp only [List.any_eq_true, okRegion.o_after, List.mem_map, List.mem_filter, Bool.or_eq_true, beq_iff_eq] at h2
  obtain ⟨k, ⟨e, ⟨he, hb⟩, rfl⟩, h3⟩ := h2
  exact ⟨e, by simpa using he, hb, h3.imp id (by simpa using ·)⟩

theorem ok_direct (hok : okRegion ops cl = true) {j i : Nat} {oj : Oper} (hj : ops[j]? = some oj) {e : Edge} (he : e ∈ oj.after) (hb : Region.binds .any e = true) (h : e.on = i) : i ∈ aheadOf cl j := by
  unfold okRegion at hok
  rw [Bool.and_eq_true, List.all_eq_true] at hok
  have h1 := hok.2 j (by simpa using (Array.getElem?_eq_some_iff.1 hj).1)
  simp only [hj, Bool.and_eq_true, List.all_eq_true] at h1
  have h2 := h1.1.2 i (by
    simp only [okRegion.o_after, List.mem_map, List.mem_filter]
    exact ⟨e, ⟨by simpa using he, hb⟩, h⟩)
  simpa using h2

/-- Those ahead of what has come have come. -/
def Closed (cl : List (List Nat)) (listed : Array Bool) : Prop := ∀ k, listed.getD k false = true → ∀ p ∈ aheadOf cl k, listed.getD p false = true

theorem Closed.set (hok : okRegion ops cl = true) {listed : Array Bool} (h : Closed cl listed) {j : Nat} (hj : j ∈ Region.ready .any ops listed) : Closed cl (listed.setIfInBounds j true) := by
  obtain ⟨hjun, oj, hoj, hall⟩ := mem_ready.1 hj
  intro k hk p hp
  by_cases hkj : k = j
  · subst hkj
    obtain ⟨e, he, hb, h1⟩ := ok_ahead hok hoj hp
    have h2 := hall e he hb
    rcases h1 with h1 | h1
    · subst h1; exact getD_set_true h2
    · exact getD_set_true (h _ h2 p h1)
  · rw [getD_set_ne false (Ne.symm hkj)] at hk
    exact getD_set_true (h k hk p hp)

theorem ready_ahead (hok : okRegion ops cl = true) {listed : Array Bool} (h : Closed cl listed) {j : Nat} (hj : j ∈ Region.ready .any ops listed) : ∀ p ∈ aheadOf cl j, listed.getD p false = true := by
  obtain ⟨hjun, oj, hoj, hall⟩ := mem_ready.1 hj
  intro p hp
  obtain ⟨e, he, hb, h1⟩ := ok_ahead hok hoj hp
  have h2 := hall e he hb
  rcases h1 with h1 | h1
  · subst h1; exact h2
  · exact h _ h2 p h1

theorem unlisted {i : Nat} {listed : Array Bool} (h : i ∈ Region.ready .any ops listed) : listed.getD i false = false := by
  have h0 := (mem_ready.1 h).1
  rcases Nat.lt_or_ge i listed.size with h' | h'
  · simp [h'] at h0 ⊢; exact h0
  · simp [h']

/-- A quiet operation that may come up now is taken first. -/
theorem AAny.take (hok : okRegion ops cl = true) (i : Nat) {oi : Oper} {v : AV} (hi : ops[i]? = some oi) (hq : Oper.quiet oi = true) :
    ∀ (fuel : Nat) (listed : Array Bool) (pd : List (Nat × AV)) (env : Env) (R : List Item), Closed cl listed → i ∈ Region.ready .any ops listed → (∀ p ∈ pd, listed.getD p.1 false = true) → (∀ p ∈ pd, AQ P N D ops p.1 env R p.2) → AQ P N D ops i env R v →
      AAny P N D ops cl Q fuel (listed.setIfInBounds i true) ((i, v) :: pd) (env.put oi.dst v) R → AAny P N D ops cl Q (fuel + 1) listed pd env R := by
  have hdst : dstOf ops i = oi.dst := by simp [dstOf, hi]
  have hqi : quietAt ops i = true := by simp [quietAt, hi, hq]
  have hsel : ∀ (j : Nat) (o : Oper), ops[j]? = some o → ∀ cs b, o.op ≠ .select cs b := by
    intro j o hj
    unfold okRegion at hok
    rw [Bool.and_eq_true] at hok
    exact fun cs b => Region.noSelect_spec hok.1 j o cs b hj
  -- what is pending doesn't look at i's slot
  have hlook : ∀ (listed : Array Bool) (p : Nat), Closed cl listed → i ∈ Region.ready .any ops listed → listed.getD p false = true → ∀ o, ops[p]? = some o → ∀ d, oi.dst = some d → d ∉ o.looksAt ops := by
    intro listed p hcl hr hp o ho d hd hmem
    have hne : i ≠ p := fun h => by subst h; rw [unlisted hr] at hp; cases hp
    have := ((ok_pair hok hi ho).2 hq d hd hmem).2
    have := hcl p hp i this
    rw [unlisted hr] at this; cases this
  intro fuel
  induction fuel with
  | zero =>
    intro listed pd env R hcl hr hpl hpd hy H
    refine ⟨fun h => (by rw [h] at hr; cases hr), fun j hj => ?_⟩
    by_cases hji : j = i
    · subst hji
      refine hy.to ?_
      rw [hdst]
      simp only [pendOf, hqi, if_true]
      refine ⟨fun p hp => (hpd p hp).congr fun o ho n hn => ?_, AAny.pend 0 _ _ _ _ _ (fun p hp => List.mem_cons_of_mem _ hp) H⟩
      cases hd : oi.dst with
      | none => rfl
      | some d => simp only [Env.put]; rw [if_neg (fun h : n = d => hlook listed p.1 hcl hr (hpl p hp) o ho d hd (h ▸ hn))]
    · have := ready_mono hj hji
      rw [H.1] at this
      cases this
  | succ fuel ih =>
    intro listed pd env R hcl hr hpl hpd hy H
    refine ⟨fun h => (by rw [h] at hr; cases hr), fun j hj => ?_⟩
    by_cases hji : j = i
    · subst hji
      refine hy.to ?_
      rw [hdst]
      simp only [pendOf, hqi, if_true]
      refine ⟨fun p hp => (hpd p hp).congr fun o ho n hn => ?_, AAny.pend _ _ _ _ _ _ (fun p hp => List.mem_cons_of_mem _ hp) H⟩
      cases hd : oi.dst with
      | none => rfl
      | some d => simp only [Env.put]; rw [if_neg (fun h : n = d => hlook listed p.1 hcl hr (hpl p hp) o ho d hd (h ▸ hn))]
    · have h1 := H.2 j (ready_mono hj hji)
      obtain ⟨hjun, oj, hoj, hall⟩ := mem_ready.1 hj
      have hap : oi.apart ops oj = true := by
        rcases (ok_pair hok hi hoj).1 with h | ⟨e, he, hb, h⟩ | ⟨e, he, hb, h⟩ | h
        · exact absurd h (Ne.symm hji)
        · have := hall e he hb; rw [h, unlisted hr] at this; cases this
        · obtain ⟨_, oi', hoi', hall'⟩ := mem_ready.1 hr
          rw [hi] at hoi'; injection hoi' with hoi'; subst hoi'
          have := hall' e he hb; rw [h, unlisted hj] at this; cases this
        · exact h
      obtain ⟨a1, a2, a3⟩ := Oper.apart_spec hap
      have hW : ∀ b, Wants N ops oj (env.put oi.dst v) b → Wants N ops oj env b := by
        intro b hw
        have key : ∀ (g : Nat) (want : Bool) (d : Nat) (x : AV), oj.guard = some (g, want) → (ops[g]?).bind (·.dst) = some d → ev N (env.put oi.dst v) (.tmp d) = some x → ev N env (.tmp d) = some x := by
          intro g want d x hg hd he
          have hmem : d ∈ oj.looksAt ops := by simp [Oper.looksAt, hg, hd]
          simp only [ev] at he ⊢
          split at he
          · rename_i hdN
            rw [if_pos hdN]
            cases hdo : oi.dst with
            | none => rw [hdo] at he; exact he
            | some di =>
              rw [hdo] at he
              simp only [Env.put] at he
              rw [if_neg (fun h : d = di => a1 di hdo (h ▸ hmem))] at he
              exact he
          · cases he
        cases hw with
        | none h => exact .none h
        | yes g want d hg hd he => exact .yes g want d hg hd (key g want d _ hg hd he)
        | no g want d hg hd he hb => exact .no g want d hg hd (key g want d _ hg hd he) hb
      have h2 := AOpI.swap (i := i) (oi := oi) hoj hap (hsel j oj hoj) (fun G W a hs => hy.value hs) hW h1
      refine h2.mono (fun u R' ⟨k1, k2⟩ => ?_) (fun _ _ h => h)
      -- is i still pending behind j?
      have hinot : i ∉ aheadOf cl j := fun hmem => by
        have := ready_ahead hok hcl hj i hmem
        rw [unlisted hr] at this; cases this
      have hpend : pendOf ops cl j ((i, v) :: pd) = (i, v) :: pendOf ops cl j pd := by
        unfold pendOf
        split
        · rfl
        · simp [hinot]
      have hcomm : ((env.put oi.dst v).put (dstOf ops j) u) = ((env.put (dstOf ops j) u).put oi.dst v) := by
        have hdj : dstOf ops j = oj.dst := by simp [dstOf, hoj]
        rw [hdj]
        funext n
        cases hdi : oi.dst with
        | none => rfl
        | some di =>
          cases hdj' : oj.dst with
          | none => rfl
          | some dj =>
            simp only [Env.put]
            by_cases n1 : n = dj
            · have : n ≠ di := fun h => a2 di hdi (by rw [hdj', ← n1, h])
              simp [n1]
              intro h
              exact absurd (n1.trans h) this
            · simp [n1]
      rw [hpend, hcomm] at k1 k2
      have hr' : i ∈ Region.ready .any ops (listed.setIfInBounds j true) := ready_mono hr (Ne.symm hji)
      have hcl' : Closed cl (listed.setIfInBounds j true) := hcl.set hok hj
      have hsub : ∀ p ∈ pendOf ops cl j pd, p ∈ pd := by
        intro p hp
        unfold pendOf at hp
        split at hp
        · exact hp
        · exact (List.mem_filter.1 hp).1
      have hdrop : ∀ (q : Nat × AV), listed.getD q.1 false = true ∨ q.1 = i → AQ P N D ops q.1 ((env.put (dstOf ops j) u).put oi.dst v) R' q.2 → AQ P N D ops q.1 (env.put (dstOf ops j) u) R' q.2 := by
        intro q hl hq'
        refine hq'.congr fun o ho n hn => ?_
        cases hd : oi.dst with
        | none => rfl
        | some d =>
          simp only [Env.put]
          rw [if_neg]
          intro h
          subst h
          rcases hl with hl | hl
          · exact hlook listed q.1 hcl hr hl o ho n hd hn
          · rw [hl, hi] at ho
            injection ho with ho
            subst ho
            exact absurd rfl ((ok_pair hok hi hi).2 hq n hd hn).1
      refine ⟨fun p hp => hdrop p (.inl (hpl p (hsub p hp))) (k1 p (List.mem_cons_of_mem _ hp)), ih _ _ _ _ hcl' hr' (fun p hp => getD_set_true (hpl p (hsub p hp))) (fun p hp => hdrop p (.inl (hpl p (hsub p hp))) (k1 p (List.mem_cons_of_mem _ hp))) (hdrop (i, v) (.inr rfl) (k1 (i, v) (by simp))) ?_⟩
      rw [Array.setIfInBounds_comm _ _ hji]
      exact k2

end
end Go.Abs
set_option linter.unusedVariables false
set_option linter.unusedSimpArgs false
namespace Go.Abs

section
variable {P : Program} {N : Nat} {D : List Deferred} {ops : Array Oper} {cl : List (List Nat)} {Q : AExit → Env → List Item → Prop}

theorem Own.drew {G : Gh} {R : List Item} {W : World} (h : Own G R W) : Own G R W.drew :=
  ⟨h.per, fun it hi => by
    have := h.items it hi
    cases it with
    | mu m cells => exact this
    | tk t => exact this
    | ob m φ => exact this, h.apart, h.size, h.names, h.locs, h.toks⟩
theorem Ext.drew (G : Gh) (R : List Item) (W : World) : Ext G R W G R W.drew :=
  ⟨rfl, rfl, rfl, .refl G, Nat.le_refl _, fun _ _ _ => ⟨rfl, rfl⟩, fun _ _ => rfl, fun _ h => .inl h, Nat.le_refl _, fun _ _ => rfl, fun _ _ => rfl⟩

/-- Operations that look at no memory that may change: whatever is owned. -/
def AQP (P : Program) (N : Nat) (D : List Deferred) (ops : Array Oper) (i : Nat) (env : Env) (v : AV) : Prop := ∀ R, AQ P N D ops i env R v

def AllQ (P : Program) (N : Nat) (D : List Deferred) (ops : Array Oper) (env : Env) (R : List Item) : List (Nat × AV) → Prop
  | [] => True
  | p :: l => AQ P N D ops p.1 env R p.2 ∧ AllQ P N D ops env R l
theorem AllQ.mem {env : Env} {R : List Item} : ∀ {l : List (Nat × AV)}, AllQ P N D ops env R l → ∀ p ∈ l, AQ P N D ops p.1 env R p.2
  | _ :: _, h, p, hp => by
    rcases List.mem_cons.1 hp with rfl | hp
    · exact h.1
    · exact h.2.mem p hp
theorem AllQ.nil {env : Env} {R : List Item} : AllQ P N D ops env R [] := trivial
theorem AllQ.cons {env : Env} {R : List Item} {i : Nat} {v : AV} {l : List (Nat × AV)} (h : AQ P N D ops i env R v) (h' : AllQ P N D ops env R l) : AllQ P N D ops env R ((i, v) :: l) := ⟨h, h'⟩
theorem AllQ.of {env : Env} {R : List Item} : ∀ {l : List (Nat × AV)}, (∀ p ∈ l, AQ P N D ops p.1 env R p.2) → AllQ P N D ops env R l
  | [], _ => trivial
  | _ :: _, h => ⟨h _ (by simp), AllQ.of fun p hp => h p (List.mem_cons_of_mem _ hp)⟩

/-- A walk through such a region: fuel, what has come, what is pending. -/
def DAny (P : Program) (N : Nat) (D : List Deferred) (ops : Array Oper) (cl : List (List Nat)) (Q : AExit → Env → List Item → Prop) (fuel : Nat) (listed : Array Bool) (pd : List (Nat × AV)) (env : Env) (R : List Item) : Prop :=
  okRegion ops cl = true → Closed cl listed → (∀ p ∈ pd, listed.getD p.1 false = true) → (∀ p ∈ pd, AQ P N D ops p.1 env R p.2) → AAny P N D ops cl Q fuel listed pd env R

theorem ACode.drawn {id : Nat} {env : Env} {R : List Item} (cl : List (List Nat)) (hok : okRegion ops cl = true) (hm : P.follows .mixedOrders = true)
    (h : DAny P N D ops cl Q ops.size (Array.replicate ops.size false) [] env R) : ACode P N D (.region id ops true) env R Q := by
  intro G W a hs
  have hcl : Closed cl (Array.replicate ops.size false) := by
    intro k hk
    by_cases hlt : k < ops.size
    · simp [hlt] at hk
    · simp [Array.getD, hlt] at hk
  have h0 := h hok hcl (fun p hp => by cases hp) (fun p hp => by cases hp)
  have hs' : Sim N D G env R a W.drew := ⟨hs.own.drew, hs.env, hs.size, hs.defers⟩
  exact wp_region_any hm (AAny.sound _ _ _ _ _ h0 G W.drew a hs' _ fun e a' w' hc => hc.trans (Ext.drew G R W))

theorem getD_set_self {listed : Array Bool} {i : Nat} (h : i ∈ Region.ready .any ops listed) : (listed.setIfInBounds i true).getD i false = true := by
  have h0 := (mem_ready.1 h).1
  rcases Nat.lt_or_ge i listed.size with h' | h'
  · simp [h']
  · simp [h'] at h0

theorem DAny.take (i : Nat) {oi : Oper} {v : AV} {fuel : Nat} {listed : Array Bool} {pd : List (Nat × AV)} {env : Env} {R : List Item} (hi : ops[i]? = some oi) (hq : Oper.quiet oi = true) (hr : (Region.ready .any ops listed).contains i = true)
    (hy : AQ P N D ops i env R v) (H : DAny P N D ops cl Q fuel (listed.setIfInBounds i true) ((i, v) :: pd) (env.put oi.dst v) R) : DAny P N D ops cl Q (fuel + 1) listed pd env R := by
  intro hok hcl hpl hpd
  have hr' : i ∈ Region.ready .any ops listed := by simpa using hr
  refine AAny.take hok i hi hq fuel listed pd env R hcl hr' hpl hpd hy (H hok (hcl.set hok hr') ?_ ?_)
  · intro p hp
    rcases List.mem_cons.1 hp with rfl | hp
    · exact getD_set_self hr'
    · exact getD_set_true (hpl p hp)
  · intro p hp
    have hq' : AQ P N D ops p.1 env R p.2 := by
      rcases List.mem_cons.1 hp with rfl | hp
      · exact hy
      · exact hpd p hp
    refine hq'.congr fun o ho n hn => ?_
    cases hd : oi.dst with
    | none => rfl
    | some d =>
      simp only [Env.put]
      rw [if_neg]
      rintro rfl
      have h2 := (ok_pair hok hi ho).2 hq n hd hn
      rcases List.mem_cons.1 hp with rfl | hp
      · exact h2.1 rfl
      · have := hcl p.1 (hpl p hp) i h2.2
        rw [unlisted hr'] at this; cases this

/-- A quiet operation that looks at no memory that may change is not pending. -/
theorem AAny.takeP (hok : okRegion ops cl = true) (i : Nat) {oi : Oper} {v : AV} (hi : ops[i]? = some oi) (hq : Oper.quiet oi = true) :
    ∀ (fuel : Nat) (listed : Array Bool) (pd : List (Nat × AV)) (env : Env) (R : List Item), Closed cl listed → i ∈ Region.ready .any ops listed → (∀ p ∈ pd, listed.getD p.1 false = true) → (∀ p ∈ pd, AQ P N D ops p.1 env R p.2) → AQP P N D ops i env v →
      AAny P N D ops cl Q fuel (listed.setIfInBounds i true) pd (env.put oi.dst v) R → AAny P N D ops cl Q (fuel + 1) listed pd env R := by
  intro fuel listed pd env R hcl hr hpl hpd hy H
  -- it is taken as a pending one; that it stays is no matter of what is owned
  refine AAny.take hok i hi hq fuel listed pd env R hcl hr hpl hpd (hy R) ?_
  have hself : ∀ o, ops[i]? = some o → ∀ d, oi.dst = some d → d ∉ o.looksAt ops := by
    intro o ho d hd hmem
    exact ((ok_pair hok hi ho).2 hq d hd hmem).1 rfl
  -- along the tree
  have key : ∀ (fuel : Nat) (listed : Array Bool) (pd : List (Nat × AV)) (env : Env) (R : List Item), Closed cl listed → listed.getD i false = true → AQP P N D ops i env v →
      AAny P N D ops cl Q fuel listed pd env R → AAny P N D ops cl Q fuel listed ((i, v) :: pd) env R := by
    intro fuel
    induction fuel with
    | zero => intro listed pd env R _ _ _ h; exact h
    | succ fuel ih =>
      intro listed pd env R hcl hli hy h
      refine ⟨h.1, fun j hj => (h.2 j hj).mono (fun u R' ⟨k1, k2⟩ => ?_) (fun _ _ h => h)⟩
      obtain ⟨hjun, oj, hoj, hall⟩ := mem_ready.1 hj
      have hji : j ≠ i := fun h => by subst h; rw [unlisted hj] at hli; cases hli
      by_cases hdrop : quietAt ops j = false ∧ i ∈ aheadOf cl j
      · have e : pendOf ops cl j ((i, v) :: pd) = pendOf ops cl j pd := by
          unfold pendOf
          rw [hdrop.1]
          simp [hdrop.2]
        rw [e]
        exact ⟨k1, k2⟩
      · have e : pendOf ops cl j ((i, v) :: pd) = (i, v) :: pendOf ops cl j pd := by
          unfold pendOf
          split
          · rfl
          · rename_i hqj
            have : i ∉ aheadOf cl j := fun hm => hdrop ⟨by simpa using hqj, hm⟩
            simp [this]
        rw [e]
        -- j writes no slot that i looks at
        have hy' : AQP P N D ops i (env.put (dstOf ops j) u) v := by
          intro R0
          refine (hy R0).congr fun o ho n hn => ?_
          have hdj : dstOf ops j = oj.dst := by simp [dstOf, hoj]
          rw [hdj]
          cases hd : oj.dst with
          | none => rfl
          | some d =>
            simp only [Env.put]
            rw [if_neg]
            rintro rfl
            rw [hi] at ho; injection ho with ho; subst ho
            rcases (ok_pair hok hi hoj).1 with h | ⟨e, he, hb, h⟩ | ⟨e, he, hb, h⟩ | h
            · exact hji h.symm
            · -- j waits for i, and writes what i looks at: then j is no quiet one
              by_cases hqj : Oper.quiet oj = true
              · have := (ok_pair hok hoj hi).2 hqj n hd hn
                have h3 := hcl i hli j this.2
                rw [unlisted hj] at h3; cases h3
              · refine hdrop ⟨by simp [quietAt, hoj, hqj], ?_⟩
                exact ok_direct hok hoj he hb h
            · -- i waits for j: j has come
              obtain ⟨e', he', hb', h'⟩ : ∃ e ∈ oi.after, Region.binds .any e = true ∧ e.on = j := ⟨e, he, hb, h⟩
              have h3 := hcl i hli j (ok_direct hok hi he' hb' h')
              rw [unlisted hj] at h3; cases h3
            · exact (Oper.apart_spec h).2.2 n hd hn
        refine ⟨fun p hp => ?_, ih _ _ _ _ (hcl.set hok hj) (getD_set_true hli) hy' k2⟩
        rcases List.mem_cons.1 hp with rfl | hp
        · exact hy' R'
        · exact k1 p hp
  refine key fuel _ _ _ _ (hcl.set hok hr) (getD_set_self hr) ?_ H
  intro R0
  refine (hy R0).congr fun o ho n hn => ?_
  cases hd : oi.dst with
  | none => rfl
  | some d => simp only [Env.put]; rw [if_neg (fun h : n = d => hself o ho d hd (h ▸ hn))]

theorem DAny.takeP (i : Nat) {oi : Oper} {v : AV} {fuel : Nat} {listed : Array Bool} {pd : List (Nat × AV)} {env : Env} {R : List Item} (hi : ops[i]? = some oi) (hq : Oper.quiet oi = true) (hr : (Region.ready .any ops listed).contains i = true)
    (hy : AQP P N D ops i env v) (H : DAny P N D ops cl Q fuel (listed.setIfInBounds i true) pd (env.put oi.dst v) R) : DAny P N D ops cl Q (fuel + 1) listed pd env R := by
  intro hok hcl hpl hpd
  have hr' : i ∈ Region.ready .any ops listed := by simpa using hr
  refine AAny.takeP hok i hi hq fuel listed pd env R hcl hr' hpl hpd hy (H hok (hcl.set hok hr') (fun p hp => getD_set_true (hpl p hp)) ?_)
  intro p hp
  refine (hpd p hp).congr fun o ho n hn => ?_
  cases hd : oi.dst with
  | none => rfl
  | some d =>
    simp only [Env.put]
    rw [if_neg]
    rintro rfl
    have h2 := (ok_pair hok hi ho).2 hq n hd hn
    have := hcl p.1 (hpl p hp) i h2.2
    rw [unlisted hr'] at this; cases this

/-- An operation that others may see: one goal for each that may come up now. -/
theorem DAny.effects (rs : List Nat) {fuel : Nat} {listed : Array Bool} {pd : List (Nat × AV)} {env : Env} {R : List Item} (hr : Region.ready .any ops listed = rs) (hne : rs ≠ [])
    (H : ∀ j ∈ rs, AOpI P N D ops j env R (fun u R' => AllQ P N D ops (env.put (dstOf ops j) u) R' (pendOf ops cl j pd) ∧ DAny P N D ops cl Q fuel (listed.setIfInBounds j true) (pendOf ops cl j pd) (env.put (dstOf ops j) u) R') (fun x R' => Q (.panic x) (fun _ => none) R')) :
    DAny P N D ops cl Q (fuel + 1) listed pd env R := by
  intro hok hcl hpl hpd
  subst hr
  refine ⟨fun h => absurd h hne, fun j hj => (H j hj).mono (fun u R' ⟨k1, k2⟩ => ⟨k1.mem, k2 hok (hcl.set hok hj) (fun p hp => getD_set_true (hpl p ?_)) k1.mem⟩) (fun _ _ h => h)⟩
  unfold pendOf at hp
  split at hp
  · exact hp
  · exact (List.mem_filter.1 hp).1

theorem DAny.effect (j : Nat) {o : Oper} {fuel : Nat} {listed : Array Bool} {pd : List (Nat × AV)} {env : Env} {R : List Item} (hj : ops[j]? = some o) (hr : Region.ready .any ops listed = [j]) (hw : Wants N ops o env true)
    (H : AOp P N D o env R (fun u R' => AllQ P N D ops (env.put o.dst u) R' (pendOf ops cl j pd) ∧ DAny P N D ops cl Q fuel (listed.setIfInBounds j true) (pendOf ops cl j pd) (env.put o.dst u) R') (fun x R' => Q (.panic x) (fun _ => none) R')) :
    DAny P N D ops cl Q (fuel + 1) listed pd env R := by
  have hd : dstOf ops j = o.dst := by simp [dstOf, hj]
  refine DAny.effects [j] hr (by simp) fun k hk => ?_
  rw [List.mem_singleton] at hk
  subst hk
  exact .does o hj hw (by rw [hd]; exact H)

theorem DAny.done {fuel : Nat} {listed : Array Bool} {pd : List (Nat × AV)} {env : Env} {R : List Item} (hr : Region.ready .any ops listed = []) (h : Q .normal env R) : DAny P N D ops cl Q fuel listed pd env R := by
  intro _ _ _ _
  cases fuel with
  | zero => exact ⟨hr, h⟩
  | succ n => exact ⟨fun _ => h, by rw [hr]; simp⟩

end
end Go.Abs
set_option linter.unusedVariables false
set_option linter.unusedSimpArgs false
namespace Go.Abs

section
variable {P : Program} {N : Nat} {D : List Deferred} {ops : Array Oper} {cl : List (List Nat)} {Q : AExit → Env → List Item → Prop} {env : Env} {R : List Item} {o : Oper} {l : List Oper} {d : Option Tmp} {v : AV}

/-! Lists of items, laid out. -/
def snocO {α : Type} : List α → α → Option (List α)
  | [], x => some [x]
  | y :: l, x => (snocO l x).map (y :: ·)
def setO {α : Type} : Nat → α → List α → Option (List α)
  | 0, x, _ :: l => some (x :: l)
  | n + 1, x, y :: l => (setO n x l).map (y :: ·)
  | _, _, [] => none
def mapVO : List Value → Option (List AV)
  | [] => some []
  | x :: l => (mapVO l).map (.v x :: ·)
theorem snocO_eq {α : Type} : ∀ (l : List α) (x : α) (r : List α), snocO l x = some r → r = l ++ [x]
  | [], x, r, h => by simp [snocO] at h; simp [h]
  | y :: l, x, r, h => by
    simp only [snocO, Option.map_eq_some_iff] at h
    obtain ⟨r', h1, rfl⟩ := h
    simp [snocO_eq l x r' h1]
theorem setO_eq {α : Type} : ∀ (n : Nat) (x : α) (l r : List α), setO n x l = some r → r = l.take n ++ x :: l.drop (n + 1)
  | 0, x, y :: l, r, h => by simp [setO] at h; simp [h]
  | n + 1, x, y :: l, r, h => by
    simp only [setO, Option.map_eq_some_iff] at h
    obtain ⟨r', h1, rfl⟩ := h
    simp [setO_eq n x l r' h1]
  | 0, x, [], r, h => by simp [setO] at h
  | n + 1, x, [], r, h => by simp [setO] at h
theorem mapVO_eq : ∀ (l : List Value) (r : List AV), mapVO l = some r → r = l.map .v
  | [], r, h => by simp [mapVO] at h; simp [h]
  | x :: l, r, h => by
    simp only [mapVO, Option.map_eq_some_iff] at h
    obtain ⟨r', h1, rfl⟩ := h
    simp [mapVO_eq l r' h1]
theorem at_split {α : Type} : ∀ (i : Nat) (l : List α) (x : α), l[i]? = some x → l = l.take i ++ x :: l.drop (i + 1)
  | 0, [], x, h => by simp at h
  | 0, y :: l, x, h => by simp at h; simp [h]
  | i + 1, [], x, h => by simp at h
  | i + 1, y :: l, x, h => by simpa using at_split i l x (by simpa using h)

theorem ASeq.q {t : Tmp} (hg : o.guard = none) (hd : o.dst = some t) (hq : QOp P N D o env R v) (h : ASeq P N D ops l (env.put (some t) v) R Q) : ASeq P N D ops (o :: l) env R Q := by
  rw [← hd] at h; exact .cons hg (.q hq h)
theorem ASeq.op {t : Tmp} (hg : o.guard = none) (hd : o.dst = some t) (h : AOp P N D o env R (fun v R' => ASeq P N D ops l (env.put (some t) v) R' Q) (fun x R' => Q (.panic x) env R')) : ASeq P N D ops (o :: l) env R Q := by
  rw [← hd] at h; exact .cons hg h
theorem ASeq.op0 (hg : o.guard = none) (hd : o.dst = none) (h : AOp P N D o env R (fun v R' => ASeq P N D ops l env R' Q) (fun x R' => Q (.panic x) env R')) : ASeq P N D ops (o :: l) env R Q := by
  refine .cons hg ?_
  rw [hd]; exact h
theorem ASeq.gq (j : Nat) (b : Bool) {s t : Tmp} (hg : o.guard = some (j, b)) (hj : (ops[j]?).bind (·.dst) = some s) (he : ev N env (.tmp s) = some (.v (.bool b))) (hd : o.dst = some t) (hq : QOp P N D o env R v) (h : ASeq P N D ops l (env.put (some t) v) R Q) :
    ASeq P N D ops (o :: l) env R Q := by
  rw [← hd] at h; exact .guardYes j b s hg hj he (.q hq h)
theorem ASeq.gop (j : Nat) (b : Bool) {s t : Tmp} (hg : o.guard = some (j, b)) (hj : (ops[j]?).bind (·.dst) = some s) (he : ev N env (.tmp s) = some (.v (.bool b))) (hd : o.dst = some t)
    (h : AOp P N D o env R (fun v R' => ASeq P N D ops l (env.put (some t) v) R' Q) (fun x R' => Q (.panic x) env R')) : ASeq P N D ops (o :: l) env R Q := by
  rw [← hd] at h; exact .guardYes j b s hg hj he h
theorem ASeq.gno (j : Nat) (b : Bool) {x : Value} {s t : Tmp} (hg : o.guard = some (j, b)) (hj : (ops[j]?).bind (·.dst) = some s) (he : ev N env (.tmp s) = some (.v x)) (hb : isB x b = false) (hd : o.dst = some t) (h : ASeq P N D ops l (env.put (some t) (.v undef)) R Q) : ASeq P N D ops (o :: l) env R Q := by
  rw [← hd] at h; exact .guardNo j b s hg hj he hb h
theorem DAny.qu (i : Nat) {t : Tmp} {fuel : Nat} {listed : Array Bool} {pd : List (Nat × AV)} (hi : ops[i]? = some o) (hq : Oper.quiet o = true) (hr : (Region.ready .any ops listed).contains i = true) (hd : o.dst = some t)
    (hy : AQP P N D ops i env v) (H : DAny P N D ops cl Q fuel (listed.setIfInBounds i true) pd (env.put (some t) v) R) : DAny P N D ops cl Q (fuel + 1) listed pd env R := by
  rw [← hd] at H; exact .takeP i hi hq hr hy H
theorem DAny.ld (i : Nat) {t : Tmp} {fuel : Nat} {listed : Array Bool} {pd : List (Nat × AV)} (hi : ops[i]? = some o) (hq : Oper.quiet o = true) (hr : (Region.ready .any ops listed).contains i = true) (hd : o.dst = some t)
    (hy : AQ P N D ops i env R v) (H : DAny P N D ops cl Q fuel (listed.setIfInBounds i true) ((i, v) :: pd) (env.put (some t) v) R) : DAny P N D ops cl Q (fuel + 1) listed pd env R := by
  rw [← hd] at H; exact .take i hi hq hr hy H
theorem DAny.ef (j : Nat) {t : Tmp} {fuel : Nat} {listed : Array Bool} {pd pd' : List (Nat × AV)} (hj : ops[j]? = some o) (hr : Region.ready .any ops listed = [j]) (hw : Wants N ops o env true) (hd : o.dst = some t) (hp : pendOf ops cl j pd = pd')
    (H : AOp P N D o env R (fun u R' => AllQ P N D ops (env.put (some t) u) R' pd' ∧ DAny P N D ops cl Q fuel (listed.setIfInBounds j true) pd' (env.put (some t) u) R') (fun x R' => Q (.panic x) (fun _ => none) R')) :
    DAny P N D ops cl Q (fuel + 1) listed pd env R := by
  rw [← hd] at H; subst hp; exact .effect j hj hr hw H
theorem DAny.ef0 (j : Nat) {fuel : Nat} {listed : Array Bool} {pd pd' : List (Nat × AV)} (hj : ops[j]? = some o) (hr : Region.ready .any ops listed = [j]) (hw : Wants N ops o env true) (hd : o.dst = none) (hp : pendOf ops cl j pd = pd')
    (H : AOp P N D o env R (fun u R' => AllQ P N D ops env R' pd' ∧ DAny P N D ops cl Q fuel (listed.setIfInBounds j true) pd' env R') (fun x R' => Q (.panic x) (fun _ => none) R')) :
    DAny P N D ops cl Q (fuel + 1) listed pd env R := by
  subst hp
  refine .effect j hj hr hw ?_
  rw [hd]; exact H

/-! Operations that write, by places. -/
variable {K Kp : AV → List Item → Prop}
theorem AOp.allocP {t : TypeId} {td : TD} {cells : List AV} {R' : Nat → List Item} (ho : o.op = .alloc t) (hT : TOK P t td) (hz : td.zero.all (·.oneCell') = true) (hc : mapVO td.zero = some cells) (hR : ∀ m, snocO R (.mu m cells) = some (R' m)) (hk : ∀ m, K (.mp m 0) (R' m)) : AOp P N D o env R K Kp :=
  AOp.alloc ho hT hz fun m => by rw [← mapVO_eq _ _ hc, ← snocO_eq _ _ _ (hR m)]; exact hk m
theorem AOp.boxP {t : TypeId} {x : Operand} {cells : List AV} {R' : Nat → List Item} (ho : o.op = .box t x) (hx : ev N env x = some v) (hl : cellsO v = some cells) (hR : ∀ m, snocO R (.mu m cells) = some (R' m)) (hk : ∀ m, K (.mp m 0) (R' m)) : AOp P N D o env R K Kp :=
  AOp.box ho hx hl fun m => by rw [← snocO_eq _ _ _ (hR m)]; exact hk m
theorem AOp.storeP (i : Nat) {t : TypeId} {td : TD} {x y : Operand} {m k : Nat} {cells vs cells' : List AV} {R' : List Item} (ho : o.op = .store t x y) (hx : ev N env x = some (.mp m k)) (hi : R[i]? = some (.mu m cells)) (hy : ev N env y = some v) (hT : TOK P t td)
    (hv : cellsO v = some vs) (hsz : Nat.beq vs.length td.size = true) (hs : spliceO k vs cells = some cells') (hR : setO i (.mu m cells') R = some R') (hk : K .any R') : AOp P N D o env R K Kp :=
  AOp.store i ho hx hy hT (at_split i R _ hi) hv (Nat.eq_of_beq_eq_true hsz) hs (by rw [← setO_eq _ _ _ _ hR]; exact hk)
theorem AOp.appendP (i : Nat) {t tx : TypeId} {td tdx tde : TD} {e e' τ : Nat} {x y : Operand} {tk : Option Nat} {rows rows2 : List (List AV)} {R' : Nat → List Item} (ho : o.op = .call { callee := .builtin .append, args := #[x, y], argTypes := #[t, tx] })
    (hx : ev N env x = some (.il tde.size (some τ) rows)) (hi : R[i]? = some (.tk τ)) (hy : ev N env y = some (.il tde.size tk rows2)) (hT : TOK P t td) (hd : td.ds = .sli e) (hE : TOK P e tde) (hX : TOK P tx tdx) (hdx : tdx.ds = .sli e') (hsz : 0 < tde.size) (hzl : tde.zero.length = tde.size) (hz1 : tde.zero.all (·.oneCell') = true)
    (hR : ∀ τ', setO i (.tk τ') R = some (R' τ')) (hrs : ∀ r ∈ rows ++ rows2, r.length = tde.size) (hlen : rows.length + rows2.length < 2 ^ 36) (hby : Nat.ble tde.bytes 1000 = true) (hk : ∀ τ', K (.il tde.size (some τ') (rows ++ rows2)) (R' τ')) : AOp P N D o env R K Kp :=
  AOp.appendI _ _ ho hx hy hT hd hE hX hdx hsz hzl hz1 (at_split i R _ hi) hrs (by omega) (Nat.le_trans (Nat.mul_le_mul (Nat.le_of_lt hlen) (Nat.le_of_ble_eq_true hby)) (by decide)) fun τ' => by rw [← setO_eq _ _ _ _ (hR τ')]; exact hk τ'
/-- A call that is handed the first n of what is owned. -/
theorem AOp.callP (n : Nat) {f : FuncId} {xs : Array Operand} {ts : Array TypeId} {args : List AV} {R1 F : List Item} {Qf : AOut → List Item → Prop} (ho : o.op = .call { callee := .value (.func f), args := xs, argTypes := ts }) (hf : callOk P f = true)
    (ha : evList N env xs.toList = some args) (h1 : takeO n R = some R1) (h2 : dropO n R = some F) (hc : ACalls P f args R1 Qf) (hk : ∀ r R', Qf (.ret r) R' → K r (R' ++ F)) (hp : ∀ x R', Qf (.pan x) R' → Kp x (R' ++ F)) : AOp P N D o env R K Kp := by
  obtain ⟨rfl, _⟩ := takeO_eq _ _ _ h1
  obtain ⟨rfl, _⟩ := dropO_eq _ _ _ h2
  have hc' := hc.frame (F := R.drop n)
  rw [List.take_append_drop] at hc'
  exact .call ho hf ha hc' (fun r R' ⟨R1, e, hq⟩ => e ▸ hk r R1 hq) (fun x R' ⟨R1, e, hq⟩ => e ▸ hp x R1 hq)

theorem bodyQ_ret (n : Nat) {rs : List ResultVar} {Qf : AOut → List Item → Prop} {res : List AV} {R2 : List Item} (hr : ResL P N env R rs res) (h : takeO n R = some R2) (hq : Qf (.ret (resOf res)) R2) : bodyQ P N rs Qf .ret env R := by
  obtain ⟨rfl, _⟩ := takeO_eq _ _ _ h
  exact ⟨res, R, _, hr, .refl R, List.take_sublist n R, hq⟩
theorem bodyQ_end (n : Nat) {rs : List ResultVar} {Qf : AOut → List Item → Prop} {res : List AV} {R2 : List Item} (hr : ResL P N env R rs res) (h : takeO n R = some R2) (hq : Qf (.ret (resOf res)) R2) : bodyQ P N rs Qf .normal env R := by
  obtain ⟨rfl, _⟩ := takeO_eq _ _ _ h
  exact ⟨res, R, _, hr, .refl R, List.take_sublist n R, hq⟩
theorem bodyQ_pan (n : Nat) {rs : List ResultVar} {Qf : AOut → List Item → Prop} {x : AV} {R2 : List Item} (h : takeO n R = some R2) (hq : Qf (.pan x) R2) : bodyQ P N rs Qf (.panic x) env R := by
  obtain ⟨rfl, _⟩ := takeO_eq _ _ _ h
  exact ⟨R, _, .refl R, List.take_sublist n R, hq⟩

theorem AExit.then_normal {next : Env → List Item → Prop} (h : next env R) : AExit.then next Q .normal env R := h
theorem AExit.then_ret {next : Env → List Item → Prop} (h : Q .ret env R) : AExit.then next Q .ret env R := h
theorem AExit.then_exit {next : Env → List Item → Prop} {id : Nat} (h : Q (.exit id) env R) : AExit.then next Q (.exit id) env R := h
theorem AExit.in_normal {id : Nat} (h : Q .normal env R) : AExit.inBlock id Q .normal env R := h
theorem AExit.in_ret {id : Nat} (h : Q .ret env R) : AExit.inBlock id Q .ret env R := h
theorem AExit.in_same {id : Nat} (h : Q .normal env R) : AExit.inBlock id Q (.exit id) env R := by simp only [AExit.inBlock, if_true]; exact h
theorem AExit.in_other {id id' : Nat} (hne : (id' == id) = false) (h : Q (.exit id') env R) : AExit.inBlock id Q (.exit id') env R := by
  simp only [AExit.inBlock]; rw [if_neg (by simpa using hne)]; exact h
/-! Loops. -/
def envOf : List (Nat × AV) → Env
  | [] => fun _ => none
  | p :: l => fun n => if n = p.1 then some p.2 else envOf l n
inductive LiveIn (env : Env) : List (Nat × AV) → Prop
  | nil : LiveIn env []
  | cons {k : Nat} {v : AV} {l : List (Nat × AV)} (h : env k = some v) (h' : LiveIn env l) : LiveIn env ((k, v) :: l)
theorem LiveIn.le {l : List (Nat × AV)} (h : LiveIn env l) : ∀ n v, envOf l n = some v → env n = some v := by
  induction h with
  | nil => intro n v h; simp [envOf] at h
  | cons h h' ih =>
    intro n v hv
    simp only [envOf] at hv
    split at hv
    · rename_i hn; subst hn; rw [h]; exact hv
    · exact ih n v hv
/-- What is live, and nothing else. -/
theorem ACode.live {c : Code} (live : List (Nat × AV)) (h : LiveIn env live) (hc : ACode P N D c (envOf live) R Q) : ACode P N D c env R Q := .env h.le hc
theorem ACode.loopE {c : Code} {α : Type} (st : α → List (Nat × AV)) (Rs : α → List Item) (μ : α → Nat) (Inv : α → Prop) (a : α) (h0 : Inv a) (hl : LiveIn env (st a)) (hR : R = Rs a)
    (round : ∀ a, Inv a → ACode P N D c (envOf (st a)) (Rs a) (AExit.then (fun env' R' => ∃ a', Inv a' ∧ μ a' < μ a ∧ LiveIn env' (st a') ∧ R' = Rs a') Q)) : ACode P N D (.loop c) env R Q := by
  subst hR
  refine ACode.live (st a) hl (ACode.loop (fun n env R => ∃ a, Inv a ∧ μ a = n ∧ env = envOf (st a) ∧ R = Rs a) (n := μ a) ⟨a, h0, rfl, rfl, rfl⟩ ?_)
  rintro n env R ⟨a, hi, rfl, rfl, rfl⟩
  intro G W ac hs
  refine Go.wp_mono (round a hi G W ac hs) fun e ac' w' hq => ?_
  cases e with
  | normal =>
    obtain ⟨G', env', R', hE, hs', a', hi', hm, hl', rfl⟩ := hq
    exact ⟨G', envOf (st a'), Rs a', hE, hs'.less hl'.le, μ a', hm, a', hi', rfl, rfl, rfl⟩
  | exit id => exact hq
  | ret => exact hq
  | panic ch => exact hq
  | goto l => exact hq
  | outgrown => exact hq

/-- The loop whose rounds leave more behind than the next one needs. -/
theorem ACode.loopP {c : Code} {α : Type} (st : α → List (Nat × AV)) (Rs : α → List Item) (μ : α → Nat) (Inv : α → Prop) (a : α) (h0 : Inv a) (hl : LiveIn env (st a)) (n0 : Nat) (hR : takeO n0 R = some (Rs a))
    (round : ∀ a, Inv a → ACode P N D c (envOf (st a)) (Rs a) (AExit.then (fun env' R' => ∃ (a' : α) (n : Nat), Inv a' ∧ μ a' < μ a ∧ LiveIn env' (st a') ∧ takeO n R' = some (Rs a')) Q)) : ACode P N D (.loop c) env R Q := by
  obtain ⟨e, _⟩ := takeO_eq _ _ _ hR
  refine ACode.items R (.refl R) (R' := Rs a) (by rw [e]; exact List.take_sublist n0 R) ?_
  refine ACode.live (st a) hl (ACode.loop (fun n env R => ∃ a, Inv a ∧ μ a = n ∧ env = envOf (st a) ∧ R = Rs a) (n := μ a) ⟨a, h0, rfl, rfl, rfl⟩ ?_)
  rintro n env R ⟨a, hi, rfl, rfl, rfl⟩
  intro G W ac hs
  refine Go.wp_mono (round a hi G W ac hs) fun e ac' w' hq => ?_
  cases e with
  | normal =>
    obtain ⟨G', env', R', hE, hs', a', n, hi', hm, hl', ht⟩ := hq
    obtain ⟨e, _⟩ := takeO_eq _ _ _ ht
    have hsub : (Rs a').Sublist R' := by rw [e]; exact List.take_sublist n R'
    exact ⟨G', envOf (st a'), Rs a', hE.sub fun it hi => hsub.subset hi, { hs'.less hl'.le with own := hs'.own.sub hsub }, μ a', hm, a', hi', rfl, rfl, rfl⟩
  | exit id => exact hq
  | ret => exact hq
  | panic ch => exact hq
  | goto l => exact hq
  | outgrown => exact hq

/-! Retelling. -/
def AV.Le (x y : AV) : Prop := ∀ G c, Rep G x c → Rep G y c
theorem AV.Le.refl (x : AV) : AV.Le x x := fun _ _ h => h
theorem AV.Le.nilT (sz : Nat) (t : Option Nat) : AV.Le (.v (.slice none 0 0)) (.il sz t []) := fun G c h => by rw [h.v_inv]; exact .ilnil
theorem AV.Le.tok (sz : Nat) (t : Option Nat) (rows : List (List AV)) : AV.Le (.il sz t rows) (.il sz none rows) := fun G c h => by
  rcases h.il_inv with ⟨rfl, rfl⟩ | ⟨b, o', cap, rfl, hr, hp, hle, hz, ht, hmax⟩
  · exact .ilnil
  · exact .il rfl hr hp hle hz (fun _ h => by cases h) hmax
theorem AV.Le.any (x : AV) : AV.Le x .any := fun _ _ _ => .any
inductive LeL : List AV → List AV → Prop
  | nil : LeL [] []
  | cons {x y : AV} {l m : List AV} (h : AV.Le x y) (h' : LeL l m) : LeL (x :: l) (y :: m)
theorem LeL.refl : ∀ l : List AV, LeL l l
  | [] => .nil
  | x :: l => .cons (.refl x) (LeL.refl l)
theorem LeL.get {l m : List AV} (h : LeL l m) : l.length = m.length ∧ ∀ (i : Nat) (y : AV), m[i]? = some y → ∃ x, l[i]? = some x ∧ AV.Le x y := by
  induction h with
  | nil => exact ⟨rfl, fun i y h => by simp at h⟩
  | cons h h' ih =>
    refine ⟨by simp [ih.1], fun i y hy => ?_⟩
    cases i with
    | zero => simp at hy; subst hy; exact ⟨_, rfl, h⟩
    | succ i => simpa using ih.2 i y (by simpa using hy)
theorem LeL.reps {G : Gh} {l m : List AV} {cs : Array Value} (h : LeL l m) (hr : Reps G l cs) : Reps G m cs :=
  ⟨h.get.1 ▸ hr.1, fun i y hy => by
    obtain ⟨x, hx, hle⟩ := h.get.2 i y hy
    obtain ⟨c, hc, hxc⟩ := hr.2 i x hx
    exact ⟨c, hc, hle G c hxc⟩⟩
theorem LeL.agg {l m : List AV} (h : LeL l m) : AV.Le (.agg l) (.agg m) := fun G c hr => by
  obtain ⟨cs, rfl, h1⟩ := hr.agg_inv
  exact (h.reps h1).agg
theorem LeL.tup {l m : List AV} (h : LeL l m) : AV.Le (.tup l) (.tup m) := fun G c hr => by
  obtain ⟨cs, rfl, h1⟩ := hr.tup_inv
  exact (h.reps h1).tup

theorem ACalls.retell {f : FuncId} {args args' : List AV} {Q : AOut → List Item → Prop} (h : LeL args args') (hc : ACalls P f args' R Q) : ACalls P f args R Q :=
  fun G W cargs hO hr => hc G W cargs hO (h.reps hr)
theorem ACalls.retellR {f : FuncId} {args : List AV} {Q : AOut → List Item → Prop} (hc : ACalls P f args R (fun o R' => match o with
    | .ret r => ∃ r', AV.Le r r' ∧ Q (.ret r') R'
    | .pan x => Q (.pan x) R')) : ACalls P f args R Q := by
  intro G W cargs hO hr
  refine (hc G W cargs hO hr).mono fun e w he => ?_
  cases e with
  | returned c => obtain ⟨G', R', r, h1, h2, h3, r', hle, hq⟩ := he; exact ⟨G', R', r', h1, h2, hle G' c h3, hq⟩
  | panicked ch => obtain ⟨G', R', x, c, h0, h1, h2, h3, hq⟩ := he; exact ⟨G', R', x, c, h0, h1, h2, h3, hq⟩
  | outgrown => exact he

/-- A slot is told in other words. -/
theorem ASeq.slot {v' : AV} (t : Nat) (he : env t = some v) (hle : AV.Le v v') (h : ASeq P N D ops l (env.put (some t) v') R Q) : ASeq P N D ops l env R Q :=
  fun G W a hs post hp => h G W a ⟨hs.own, fun n u hn hu => by
    simp only [Env.put] at hu
    split at hu
    · rename_i hnt; subst hnt; injection hu with hu; subst hu; exact hle G _ (hs.env n v hn he)
    · exact hs.env n u hn hu, hs.size, hs.defers⟩ post hp
theorem ACode.slot {c : Code} {v' : AV} (t : Nat) (he : env t = some v) (hle : AV.Le v v') (h : ACode P N D c (env.put (some t) v') R Q) : ACode P N D c env R Q :=
  fun G W a hs => h G W a ⟨hs.own, fun n u hn hu => by
    simp only [Env.put] at hu
    split at hu
    · rename_i hnt; subst hnt; injection hu with hu; subst hu; exact hle G _ (hs.env n v hn he)
    · exact hs.env n u hn hu, hs.size, hs.defers⟩

theorem Own.retell {G : Gh} {W : World} {R1 R2 : List Item} {m : Nat} {cells cells' : List AV} (h : LeL cells cells') (hO : Own G (R1 ++ .mu m cells :: R2) W) : Own G (R1 ++ .mu m cells' :: R2) W := by
  refine { hO with items := fun it hi => ?_, apart := ?_ }
  · simp only [List.mem_append, List.mem_cons] at hi
    rcases hi with hi | rfl | hi
    · exact hO.items it (by simp [hi])
    · rcases hO.items (.mu m cells) (by simp) with ⟨h1, h2, h3⟩ | ⟨b, cs, e, h1, h2, h3, h4, h5, h6⟩
      · subst h1
        have : cells' = [] := List.eq_nil_of_length_eq_zero (by have := h.get.1; simpa using this.symm)
        exact .inl ⟨this, h2, h3⟩
      · refine .inr ⟨b, cs, e, h1, h2, h3, by rw [← h.get.1]; exact h4, h5, fun j y hy => ?_⟩
        obtain ⟨x, hx, hle⟩ := h.get.2 j y hy
        obtain ⟨c, hc, hxc, h1⟩ := h6 j x hx
        exact ⟨c, hc, hle G c hxc, h1⟩
    · exact hO.items it (by simp [hi])
  · have := hO.apart
    rw [List.pairwise_append, List.pairwise_cons] at this ⊢
    obtain ⟨p1, ⟨p2, p3⟩, p4⟩ := this
    refine ⟨p1, ⟨fun y hy x hx => p2 y hy x hx, p3⟩, fun x hx y hy => ?_⟩
    rw [List.mem_cons] at hy
    rcases hy with rfl | hy
    · exact p4 x hx (.mu m cells) (by simp)
    · exact p4 x hx y (by simp [hy])
theorem Ext.retell {G : Gh} {W : World} {R1 R2 : List Item} {m : Nat} {cells cells' : List AV} : Ext G (R1 ++ .mu m cells :: R2) W G (R1 ++ .mu m cells' :: R2) W := by
  refine { Ext.refl G (R1 ++ .mu m cells :: R2) W with fresh := fun b ⟨it, hi, hb⟩ => .inl ?_ }
  simp only [List.mem_append, List.mem_cons] at hi
  rcases hi with hi | rfl | hi
  · exact ⟨it, by simp [hi], hb⟩
  · exact ⟨.mu m cells, by simp, hb⟩
  · exact ⟨it, by simp [hi], hb⟩
/-- A block's cells are told in other words. -/
theorem ACode.cells {c : Code} {m : Nat} {cells cells' : List AV} (R1 R2 : List Item) (hi : R = R1 ++ .mu m cells :: R2) (hle : LeL cells cells') (h : ACode P N D c env (R1 ++ .mu m cells' :: R2) Q) : ACode P N D c env R Q := by
  subst hi
  exact fun G W a hs => Go.wp_mono (h G W a ⟨hs.own.retell hle, hs.env, hs.size, hs.defers⟩) fun e a w hq => hq.trans Ext.retell
theorem ACode.newTok {c : Code} (h : ∀ t, ACode P N D c env (R ++ [.tk t]) Q) : ACode P N D c env R Q :=
  fun G W a hs => by
    obtain ⟨G', t, hE, hO, _, hg⟩ := hs.own.newTok
    exact Go.wp_mono (h t G' W a (hs.more hg hO)) fun e a w hq => hq.trans hE
end
end Go.Abs
set_option linter.unusedVariables false
namespace Go.Abs
section
variable {P : Program} {N : Nat} {D : List Deferred} {ops : Array Oper} {Q : AExit → Env → List Item → Prop} {env : Env} {R R' : List Item} {l : List Oper}
theorem LiveIn.consB {k : Nat} {b b' : Bool} {l : List (Nat × AV)} (h : env k = some (.v (.bool b))) (e : b = b') (h' : LiveIn env l) : LiveIn env ((k, .v (.bool b')) :: l) := by
  subst e; exact .cons h h'
theorem LiveIn.consE {k : Nat} {v v' : AV} {l : List (Nat × AV)} (h : env k = some v) (e : v = v') (h' : LiveIn env l) : LiveIn env ((k, v') :: l) := by
  subst e; exact .cons h h'
/-- The operations from the n-th on are gone through once, from what is live. -/
theorem ASeq.cut (n : Nat) (live : List (Nat × AV)) (h : ASeq P N D ops (l.drop n) (envOf live) R Q → ASeq P N D ops l env R Q) (h2 : ASeq P N D ops (l.drop n) (envOf live) R Q) : ASeq P N D ops l env R Q := h h2
theorem ASeq.at_ {live : List (Nat × AV)} (h : ASeq P N D ops l (envOf live) R Q) (hl : LiveIn env live) : ASeq P N D ops l env R Q := .env hl.le h
/-- What comes behind is gone through once, from what is live. -/
theorem ACode.meet (live : List (Nat × AV)) (R1 : List Item) {x y : Code} (h : ACode P N D y (envOf live) R1 Q → ACode P N D x env R (AExit.then (fun env' R' => ACode P N D y env' R' Q) Q)) (h2 : ACode P N D y (envOf live) R1 Q) : ACode P N D (.seq x y) env R Q := .seq (h h2)
theorem ACode.at_ {live : List (Nat × AV)} {y : Code} (h : ACode P N D y (envOf live) R Q) (hl : LiveIn env live) : ACode P N D y env R Q := .env hl.le h
theorem ACode.atP (n : Nat) {live : List (Nat × AV)} {y : Code} {R1 : List Item} (h : ACode P N D y (envOf live) R1 Q) (hl : LiveIn env live) (hR : takeO n R = some R1) : ACode P N D y env R Q := by
  obtain ⟨e, _⟩ := takeO_eq _ _ _ hR
  exact ACode.items R (.refl R) (by rw [e]; exact List.take_sublist n R) (h.at_ hl)
theorem ACode.meetA {α : Type} (live : α → List (Nat × AV)) (R1 : α → List Item) {x y : Code} (h : (∀ a, ACode P N D y (envOf (live a)) (R1 a) Q) → ACode P N D x env R (AExit.then (fun env' R' => ACode P N D y env' R' Q) Q)) (h2 : ∀ a, ACode P N D y (envOf (live a)) (R1 a) Q) : ACode P N D (.seq x y) env R Q := .seq (h h2)
/-- A block's cells are told in other words, ahead of operations. -/
theorem ASeq.cells {m : Nat} {cells cells' : List AV} (R1 R2 : List Item) (hi : R = R1 ++ .mu m cells :: R2) (hle : LeL cells cells') (h : ASeq P N D ops l env (R1 ++ .mu m cells' :: R2) Q) : ASeq P N D ops l env R Q := by
  subst hi
  exact fun G W a hs post hp => h G W a ⟨hs.own.retell hle, hs.env, hs.size, hs.defers⟩ post fun e a' w' hc => hp e a' w' (hc.trans Ext.retell)
end
end Go.Abs
set_option linter.unusedVariables false
set_option linter.unusedSimpArgs false
namespace Go.Abs
section
variable {P : Program} {N : Nat} {D : List Deferred} {ops : Array Oper} {cl : List (List Nat)} {Q : AExit → Env → List Item → Prop} {env : Env} {R R' : List Item} {l : List Oper} {o : Oper} {K Kp : AV → List Item → Prop}
theorem DAny.split {fuel : Nat} {listed : Array Bool} {pd : List (Nat × AV)} (d : Nat) (b : Bool) (he : env d = some (.v (.bool b)))
    (ht : b = true → DAny P N D ops cl Q fuel listed pd (env.put (some d) (.v (.bool true))) R) (hf : b = false → DAny P N D ops cl Q fuel listed pd (env.put (some d) (.v (.bool false))) R) : DAny P N D ops cl Q fuel listed pd env R := by
  have heq : env.put (some d) (.v (.bool b)) = env := by
    funext n
    simp only [Env.put]
    split
    · rename_i h; rw [h, he]
    · rfl
  cases b with
  | true => have := ht rfl; rwa [heq] at this
  | false => have := hf rfl; rwa [heq] at this

/-- Two effects that may come in either order. -/
theorem DAny.two (i j : Nat) {oi oj : Oper} {ti tj : Tmp} {fuel : Nat} {listed : Array Bool} {pd pdi pdj : List (Nat × AV)} (hi : ops[i]? = some oi) (hj : ops[j]? = some oj) (hr : Region.ready .any ops listed = [i, j]) (hwi : Wants N ops oi env true) (hwj : Wants N ops oj env true)
    (hdi : oi.dst = some ti) (hdj : oj.dst = some tj) (hpi : pendOf ops cl i pd = pdi) (hpj : pendOf ops cl j pd = pdj)
    (Hi : AOp P N D oi env R (fun u R' => AllQ P N D ops (env.put (some ti) u) R' pdi ∧ DAny P N D ops cl Q fuel (listed.setIfInBounds i true) pdi (env.put (some ti) u) R') (fun x R' => Q (.panic x) (fun _ => none) R'))
    (Hj : AOp P N D oj env R (fun u R' => AllQ P N D ops (env.put (some tj) u) R' pdj ∧ DAny P N D ops cl Q fuel (listed.setIfInBounds j true) pdj (env.put (some tj) u) R') (fun x R' => Q (.panic x) (fun _ => none) R')) :
    DAny P N D ops cl Q (fuel + 1) listed pd env R := by
  have hd1 : dstOf ops i = some ti := by simp [dstOf, hi, hdi]
  have hd2 : dstOf ops j = some tj := by simp [dstOf, hj, hdj]
  subst hpi; subst hpj
  refine DAny.effects [i, j] hr (by simp) fun k hk => ?_
  simp only [List.mem_cons, List.not_mem_nil, or_false] at hk
  rcases hk with rfl | rfl
  · exact .does oi hi hwi (by rw [hd1]; exact Hi)
  · exact .does oj hj hwj (by rw [hd2]; exact Hj)

theorem splice_set {α : Type} : ∀ (k : Nat) (v : α) (l : List α), k < l.length → spliceO k [v] l = some (l.set k v)
  | 0, v, x :: l, _ => by simp [spliceO]
  | k + 1, v, x :: l, h => by simp [spliceO, splice_set k v l (by simpa using h)]
  | _, _, [], h => by simp at h
/-- One cell is written, at any place. -/
theorem AOp.storeAt (i : Nat) {t : TypeId} {td : TD} {x y : Operand} {m k : Nat} {cells : List AV} {v : AV} {R' : List Item} (ho : o.op = .store t x y) (hx : ev N env x = some (.mp m k)) (hi : R[i]? = some (.mu m cells)) (hy : ev N env y = some v) (hT : TOK P t td)
    (hv : cellsO v = some [v]) (hsz : td.size = 1) (hlt : k < cells.length) (hR : setO i (.mu m (cells.set k v)) R = some R') (hk : K .any R') : AOp P N D o env R K Kp :=
  AOp.store i ho hx hy hT (at_split i R _ hi) hv (by rw [hsz]; rfl) (splice_set k v cells hlt) (by rw [← setO_eq _ _ _ _ hR]; exact hk)
/-- One cell is read, at any place. -/
theorem QOp.loadAt (i : Nat) {t : TypeId} {td : TD} {x : Operand} {m k : Nat} {cells : List AV} {v : AV} (ho : o.op = .load t x) (hx : ev N env x = some (.mp m k)) (hi : R[i]? = some (.mu m cells)) (hT : TOK P t td) (hd : td.ds.agg = false) (hv : cells[k]? = some v) : QOp P N D o env R v :=
  QOp.loadM i ho hx hi hT (by unfold aload; rw [hd]; exact hv)

/-- Append onto a slice that may change, whose end is the end of what is known of its block. -/
theorem AOp.appendM (R1 R2 : List Item) {t tx : TypeId} {td tdx tde : TD} {e e' m len : Nat} {x y : Operand} {tk : Option Nat} {cells : List AV} {rows2 : List (List AV)} (ho : o.op = .call { callee := .builtin .append, args := #[x, y], argTypes := #[t, tx] })
    (hx : ev N env x = some (.sl tde.size m 0 len)) (hy : ev N env y = some (.il tde.size tk rows2)) (hT : TOK P t td) (hd : td.ds = .sli e) (hE : TOK P e tde) (hX : TOK P tx tdx) (hdx : tdx.ds = .sli e') (hsz : 0 < tde.size) (hzl : tde.zero.length = tde.size) (hz1 : tde.zero.all (·.oneCell') = true)
    (hi : R = R1 ++ .mu m cells :: R2) (hcl : cells.length = len * tde.size) (hrs : ∀ r ∈ rows2, r.length = tde.size) (hlen : len + rows2.length < 2 ^ 40) (hby : (len + rows2.length) * tde.bytes ≤ 2 ^ 47) (hk : ∀ m', K (.sl tde.size m' 0 (len + rows2.length)) (R1 ++ .mu m' (cells ++ rows2.flatten) :: R2)) : AOp P N D o env R K Kp :=
  .acts (v := .any) (R' := []) fun G W a hs => by
    have hrx := ev_rep hs hx
    obtain ⟨news, hsrc, hnc⟩ := src_il hs.own hX hdx (ev_rep hs hy)
    obtain ⟨i, z, hinf, hi2, hi3, hi4, hi5⟩ := hE.info
    have htu := hT.sli hd
    have hzs : z.cells.size = tde.size := by rw [← hzl, ← hi5]; simp
    have hnl : news.length = rows2.length * tde.size := hsrc.newsLen
    have hmem : Item.mu m cells ∈ R := by rw [hi]; simp
    have hperm : R.Perm (R1 ++ R2 ++ [.mu m cells]) := by rw [hi, List.append_assoc]; exact (List.perm_middle.trans (List.perm_append_singleton _ _).symm).trans (by rw [List.append_assoc])
    have hO0 : Own G (R1 ++ R2) W := (hs.own.perm hperm).sub (List.sublist_append_left _ _)
    have hE0 : Ext G R W G (R1 ++ R2) W := (Ext.refl G R W).sub fun it hi' => by rw [hi]; simp only [List.mem_append, List.mem_cons] at hi' ⊢; rcases hi' with h | h <;> simp [h]
    have hback : ∀ m' cs', (R1 ++ R2 ++ [Item.mu m' cs']).Perm (R1 ++ .mu m' cs' :: R2) := fun m' cs' => by
      rw [List.append_assoc]; exact ((List.perm_middle (a := Item.mu m' cs') (l₁ := R1) (l₂ := R2)).trans ((List.perm_append_singleton _ _).symm.trans (by rw [List.append_assoc]))).symm
    have hrun0 : ∀ c W', (Builtin.append_ #[t, tx] o.type #[a.eval x, a.eval y]).run P W = .ok c W' → (execOp a.eval o).run P W = .ok (.value c) W' := by
      intro c W' h
      simp [execOp, ho, resolve, invoke, builtin, h]
    have grow : ∀ (base : Option Addr) (cap : Nat) (olds : List Value), a.eval x = .slice base len cap → cap < len + rows2.length → Cells G cells olds →
        (Builtin.firstCells i.size len (.slice base len cap)).run P W.drew = .ok olds.toArray W.drew →
        ∃ c W' G' R' v, (execOp a.eval o).run P W = .ok (.value c) W' ∧ Ext G R W G' R' W' ∧ Own G' R' W' ∧ Rep G' v c ∧ K v R' := by
      intro base cap olds hv hcap hold hfirst
      have hsrc' : Src P i.size tx (a.eval y) rows2.length news W := by rw [hi2]; exact hsrc
      have hrun := run_append_grow_src (P := P) W t tx o.type e i z htu hinf hi4 base len cap olds hfirst (a.eval y) rows2.length news hsrc' hcap (by omega) (growslice_fits hcap (by rw [hi3]; exact hby))
      have hge := grownCap_ge W (len + rows2.length) cap e
      have hcm := grownCap_le_maxLen W (len + rows2.length) cap e (by simp only [maxLen]; omega)
      have hcells : Cells G (cells ++ rows2.flatten) (olds ++ news) := hold.append hnc
      have hfl := flatten_length hrs
      have hol : (olds ++ news).length = (len + rows2.length) * tde.size := by rw [← hcells.1, List.length_append, hcl, hfl, Nat.add_mul]
      have hsize : ((olds ++ news).toArray ++ Builtin.zeroCells z.cells (grownCap W (len + rows2.length) cap e - (len + rows2.length))).size = grownCap W (len + rows2.length) cap e * tde.size := by
        rw [Array.size_append, List.size_toArray, hol, size_zeroCells, hzs, ← Nat.add_mul]
        congr 1
        omega
      obtain ⟨G', m', hX', hO', hl', hsz'⟩ := hO0.newMu (OneMore.drewAlloc W ((olds ++ news).toArray ++ Builtin.zeroCells z.cells (grownCap W (len + rows2.length) cap e - (len + rows2.length))) e) (cells ++ rows2.flatten)
        (by rw [hcells.1]; simp only [Array.size_append, List.size_toArray]; omega) (fun j u hu => by
          obtain ⟨c, w1, w2⟩ := hcells.2 j u hu
          refine ⟨c, ?_, w2⟩
          rw [Array.getElem?_append_left (by simpa using (List.getElem?_eq_some_iff.1 w1).1)]
          simpa using w1)
      refine ⟨_, _, G', _, _, hrun0 _ _ (by rw [hv]; exact hrun), hE0.trans (hX'.sub fun it hi' => (hback m' _).mem_iff.2 hi'), hO'.perm (hback m' _), ?_, hk m'⟩
      refine .sl hl' hge ?_ (by simp only [maxLen] at hcm; omega)
      rw [hsz', hsize]; omega
    rcases hrx.sl_inv with ⟨hn, hc⟩ | ⟨b, cap, hc, hl, hle, hz, hmax⟩
    · subst hn
      have hc0 : cells = [] := List.eq_nil_of_length_eq_zero (by omega)
      subst hc0
      by_cases hm : rows2.length = 0
      · have h2 : rows2 = [] := List.eq_nil_of_length_eq_zero hm
        subst h2
        obtain rfl : news = [] := List.eq_nil_of_length_eq_zero (by simpa using hnl)
        refine ⟨.slice none 0 0, W, G, _, _, hrun0 _ _ ?_, Ext.refl G R W, hs.own, .slnil (sz := tde.size) (m := m) (off := 0), ?_⟩
        · rw [hc]
          have hh := hsrc.cells
          simp at hh
          rcases hsrc.kind with ⟨e', hk'⟩ | hk' <;> simp [Builtin.append_, run_underlying htu, run_underlying hk', sizeOf, typeInfo, hinf, hsrc.len, hi2, hh]
        · have h0 := hk m
          simp only [List.flatten_nil, List.append_nil, List.length_nil, Nat.add_zero] at h0
          rw [hi]; exact h0
      · exact grow none 0 [] hc (by omega) .nil (by simp [Builtin.firstCells])
    · obtain ⟨b', cs, e0, q1, q2, q3, q4, q5, q6⟩ := (hs.own.items _ hmem).resolve_left (fun h0 => by rw [hl] at h0; exact absurd h0.2.1 (by simp))
      rw [hl] at q1; injection q1 with q1; subst q1
      by_cases hroom : len + rows2.length ≤ cap
      · have hmulr : (len + rows2.length) * tde.size ≤ cap * tde.size := Nat.mul_le_mul_right _ hroom
        rw [Nat.add_mul] at hmulr
        have hfit : 0 + len * tde.size + news.length ≤ cs.size := by rw [hnl, q3]; omega
        have hrun := run_append_room (ty := o.type) hT hd hE hsrc hroom q2 hfit (off := 0)
        let cs' : Array Value := (cs.toList.take (0 + len * tde.size) ++ news ++ cs.toList.drop (0 + len * tde.size + news.length)).toArray
        have hcs' : cs'.size = cs.size := by simp [cs']; omega
        have hfl := flatten_length hrs
        obtain ⟨hE1, hO1⟩ := hs.own.setMu (cells' := cells ++ rows2.flatten) (W' := W.setRow b cs') hi hl q2 rfl rfl rfl (by simp [World.setRow]) (setRow_heap W b cs _ e0 _ q2) (fun k' hk' => setRow_other W b k' _ hk') hcs'
          (by rw [hcs', List.length_append, hcl, hfl]; omega) (fun j u hu => by
            by_cases hj : j < cells.length
            · rw [List.getElem?_append_left hj] at hu
              obtain ⟨c, w1, w2⟩ := q6 j u hu
              refine ⟨c, ?_, w2⟩
              simp only [cs', List.getElem?_toArray, List.append_assoc]
              rw [List.getElem?_append_left (by simp; omega), List.getElem?_take_of_lt (by omega)]
              simpa using w1
            · rw [List.getElem?_append_right (by omega)] at hu
              obtain ⟨c, w1, w2⟩ := hnc.2 _ u hu
              refine ⟨c, ?_, w2⟩
              have hlt := (List.getElem?_eq_some_iff.1 w1).1
              simp only [cs', List.getElem?_toArray, List.append_assoc]
              rw [List.getElem?_append_right (by simp; omega), List.getElem?_append_left (by simp; omega)]
              rw [show j - (List.take (0 + len * tde.size) cs.toList).length = j - cells.length by simp; omega]
              exact w1)
        refine ⟨_, _, G, _, _, hrun0 _ _ (by rw [hc]; exact hrun), hE1, hO1, .sl hl (by omega) hz hmax, hk m⟩
      · have hcap : cap < len + rows2.length := by omega
        have holds : Cells G cells (cs.toList.take (len * tde.size)) := by
          refine ⟨by simp; omega, fun j u hu => ?_⟩
          obtain ⟨c, w1, w2⟩ := q6 j u hu
          have hj := (List.getElem?_eq_some_iff.1 hu).1
          exact ⟨c, by rw [List.getElem?_take_of_lt (by omega)]; simpa using w1, w2⟩
        refine grow (some ⟨b, 0, none⟩) cap _ hc hcap holds ?_
        refine run_firstCells_some (P := P) W.drew i.size len ⟨b, 0, none⟩ len cap (cs.toList.take (len * tde.size)) (by rw [hi2]; simp; omega) (fun j u hu => ?_)
        have hj : j < len * tde.size := by
          have := (List.getElem?_eq_some_iff.1 hu).1
          simp at this; omega
        rw [List.getElem?_take_of_lt hj] at hu
        rw [add0, Nat.zero_add]
        have hd : W.drew.heap[b]? = W.heap[b]? := rfl
        simp only [World.cell?, hd, q2]
        simpa using hu
theorem AOp.appendMP (i : Nat) {t tx : TypeId} {td tdx tde : TD} {e e' m len : Nat} {x y : Operand} {tk : Option Nat} {cells : List AV} {rows2 : List (List AV)} {R' : Nat → List Item} (ho : o.op = .call { callee := .builtin .append, args := #[x, y], argTypes := #[t, tx] })
    (hx : ev N env x = some (.sl tde.size m 0 len)) (hi : R[i]? = some (.mu m cells)) (hy : ev N env y = some (.il tde.size tk rows2)) (hT : TOK P t td) (hd : td.ds = .sli e) (hE : TOK P e tde) (hX : TOK P tx tdx) (hdx : tdx.ds = .sli e') (hsz : 0 < tde.size) (hzl : tde.zero.length = tde.size) (hz1 : tde.zero.all (·.oneCell') = true)
    (hR : ∀ m', setO i (.mu m' (cells ++ rows2.flatten)) R = some (R' m')) (hcl : cells.length = len * tde.size) (hrs : ∀ r ∈ rows2, r.length = tde.size) (hlen : len + rows2.length < 2 ^ 36) (hby : Nat.ble tde.bytes 1000 = true) (hk : ∀ m', K (.sl tde.size m' 0 (len + rows2.length)) (R' m')) : AOp P N D o env R K Kp :=
  AOp.appendM _ _ ho hx hy hT hd hE hX hdx hsz hzl hz1 (at_split i R _ hi) hcl hrs (by omega) (Nat.le_trans (Nat.mul_le_mul (Nat.le_of_lt hlen) (Nat.le_of_ble_eq_true hby)) (by decide)) fun m' => by rw [← setO_eq _ _ _ _ (hR m')]; exact hk m'
end
end Go.Abs
set_option linter.unusedVariables false
namespace Go.Abs
section
variable {P : Program} {N : Nat} {D : List Deferred} {o : Oper} {ops : Array Oper} {Q : AExit → Env → List Item → Prop} {env : Env} {R R' : List Item} {l : List Oper} {K Kp : AV → List Item → Prop}
theorem Own.shrink {G : Gh} {W : World} {R1 R2 : List Item} {m n : Nat} {cells : List AV} (hO : Own G (R1 ++ .mu m cells :: R2) W) : Own G (R1 ++ .mu m (cells.take n) :: R2) W := by
  refine { hO with items := fun it hi => ?_, apart := ?_ }
  · simp only [List.mem_append, List.mem_cons] at hi
    rcases hi with hi | rfl | hi
    · exact hO.items it (by simp [hi])
    · rcases hO.items (.mu m cells) (by simp) with ⟨h1, h2, h3⟩ | ⟨b, cs, e, h1, h2, h3, h4, h5, h6⟩
      · subst h1
        exact .inl ⟨by simp, h2, h3⟩
      · refine .inr ⟨b, cs, e, h1, h2, h3, by rw [List.length_take]; omega, h5, fun j y hy => ?_⟩
        rw [List.getElem?_take] at hy
        split at hy
        · exact h6 j y hy
        · cases hy
    · exact hO.items it (by simp [hi])
  · have := hO.apart
    rw [List.pairwise_append, List.pairwise_cons] at this ⊢
    obtain ⟨p1, ⟨p2, p3⟩, p4⟩ := this
    refine ⟨p1, ⟨fun y hy x hx => p2 y hy x hx, p3⟩, fun x hx y hy => ?_⟩
    rw [List.mem_cons] at hy
    rcases hy with rfl | hy
    · exact p4 x hx (.mu m cells) (by simp)
    · exact p4 x hx y (by simp [hy])
/-- Less is told of a block's cells. -/
theorem ASeq.shrink (n : Nat) {m : Nat} {cells : List AV} (R1 R2 : List Item) (hi : R = R1 ++ .mu m cells :: R2) (h : ASeq P N D ops l env (R1 ++ .mu m (cells.take n) :: R2) Q) : ASeq P N D ops l env R Q := by
  subst hi
  exact fun G W a hs post hp => h G W a ⟨hs.own.shrink, hs.env, hs.size, hs.defers⟩ post fun e a' w' hc => hp e a' w' (hc.trans Ext.retell)
theorem ACode.shrink (n : Nat) {c : Code} {m : Nat} {cells : List AV} (R1 R2 : List Item) (hi : R = R1 ++ .mu m cells :: R2) (h : ACode P N D c env (R1 ++ .mu m (cells.take n) :: R2) Q) : ACode P N D c env R Q := by
  subst hi
  exact fun G W a hs => Go.wp_mono (h G W a ⟨hs.own.shrink, hs.env, hs.size, hs.defers⟩) fun e a w hq => hq.trans Ext.retell
theorem splice_zero {α : Type} : ∀ (vs l r : List α), vs.length = l.length → spliceO 0 vs (l ++ r) = some (vs ++ r)
  | [], [], r, _ => by simp [spliceO]
  | v :: vs, x :: l, r, h => by simp [spliceO, splice_zero vs l r (by simpa using h)]
  | [], _ :: _, _, h => by simp at h
  | _ :: _, [], _, h => by simp at h
theorem splice_append {α : Type} : ∀ (a vs l r : List α), vs.length = l.length → spliceO a.length vs (a ++ l ++ r) = some (a ++ vs ++ r)
  | [], vs, l, r, h => splice_zero vs l r h
  | x :: a, vs, l, r, h => by
    have := splice_append a vs l r h
    simp only [List.length_cons, List.cons_append]
    cases vs with
    | nil => unfold spliceO; rw [this]; rfl
    | cons v vs => unfold spliceO; rw [this]; rfl
theorem zerosO_rep {α : Type} (z : List α) : ∀ n, zerosO z n = (List.replicate n z).flatten
  | 0 => rfl
  | n + 1 => by rw [List.replicate_succ, List.flatten_cons, ← zerosO_rep z n]; rfl
/-- A slice is made. -/
theorem AOp.makeP {t : TypeId} {td tde : TD} {e : Nat} {x y : Operand} {n : Nat} {R' : Nat → List Item} (ho : o.op = .makeSlice t x y) (hx : ev N env x = some (.v (.int .i64 n))) (hy : ev N env y = some (.v (.int .i64 n))) (hT : TOK P t td) (hd : td.ds = .sli e) (hE : TOK P e tde) (hsz : 0 < tde.size) (hzl : tde.zero.length = tde.size)
    (hz : tde.zero.all (·.oneCell') = true) (hR : ∀ m, snocO R (.mu m (List.replicate n (tde.zero.map .v)).flatten) = some (R' m)) (hn : n < 2 ^ 36) (hb : Nat.ble tde.bytes 1000 = true) (hk : ∀ m, K (.sl tde.size m 0 n) (R' m)) : AOp P N D o env R K Kp := by
  refine AOp.make ho hx hy hT hd hE hsz hzl hz (by omega) (Nat.le_trans (Nat.mul_le_mul (Nat.le_of_lt hn) (Nat.le_of_ble_eq_true hb)) (by decide)) fun m => ?_
  have := hR m
  rw [zerosO_rep, ← snocO_eq _ _ _ this]
  exact hk m
end
end Go.Abs
set_option linter.unusedVariables false
namespace Go.Abs
open Go.Maps (Keyed)
section
variable {P : Program} {N : Nat} {D : List Deferred} {o : Oper} {ops : Array Oper} {Q : AExit → Env → List Item → Prop} {env : Env} {R R' : List Item} {l : List Oper} {K Kp : AV → List Item → Prop}
/-- What a map's block holds: it reads as a datum. -/
def MapOb (P : Program) (k e : TypeId) (n : Nat) (D : DataW Unit) (o : Obj) : Prop :=
  ∃ es clock, o = .map es clock ∧ WideElems.Fit P k (plainElem (H := Unit) P e) es clock ∧ es.size ≤ n ∧ D = .map ((es.toList.map (WideElems.rg P k (plainElem P e))).foldr DataW.insert [])
theorem mapOb_iff {w : World} {k e b n : Nat} {D : DataW Unit} : (∃ o, w.heap[b]? = some o ∧ MapOb P k e n D o) ↔ w.ownsMap P k (plainElem P e) b n D := by
  constructor
  · rintro ⟨o, h, es, clock, rfl, h1, h2, h3⟩; exact ⟨es, clock, h, h1, h2, h3⟩
  · rintro ⟨es, clock, h, h1, h2, h3⟩; exact ⟨_, h, es, clock, rfl, h1, h2, h3⟩
theorem TOK.mp {t : TypeId} {td : TD} (h : TOK P t td) {k e : Nat} (hd : td.ds = .mp k e) : P.underlying t = some (.map k e) := by
  obtain ⟨d, h1, h2⟩ := h.und
  rw [hd] at h2
  cases d <;> simp [dsOf] at h2
  obtain ⟨rfl, rfl⟩ := h2
  exact h1
/-- A new block of another kind. -/
theorem Own.newOb {G : Gh} {W : World} (h : Own G R W) (ob : Obj) (φ : Obj → Prop) (hφ : φ ob) :
    ∃ G' m, Ext G R W G' (R ++ [.ob m φ]) (W.alloc ob) ∧ Own G' (R ++ [.ob m φ]) (W.alloc ob) ∧ G'.loc m = some W.heap.size := by
  have msize : (W.alloc ob).heap.size = W.heap.size + 1 := by show (W.heap.push _).size = _; simp
  have mnew : (W.alloc ob).heap[W.heap.size]? = some ob := heap_alloc_new W ob
  have mold : ∀ b, b < W.heap.size → (W.alloc ob).heap[b]? = W.heap[b]? := fun b hb => heap_alloc_old W ob b hb
  let G' : Gh := { G with loc := fun m => if m = G.next then some W.heap.size else G.loc m, next := G.next + 1 }
  have hG : GExt G G' := by
    refine ⟨fun _ _ _ hx => hx, fun b => Nat.le_refl _, fun m b hb => ?_, fun _ _ hp => hp⟩
    have := next_of_loc h hb
    simp only [G']
    rw [if_neg (by omega)]
    exact hb
  have hback : ∀ it ∈ R, ∀ b, it.blk G' = some b → it.blk G = some b := by
    intro it hi b hb
    cases it with
    | mu m cells =>
      have hmn : m < G.next := by
        rcases h.items _ hi with ⟨_, _, h2⟩ | ⟨b', _, _, hl', _⟩
        · exact h2
        · exact next_of_loc h hl'
      simp only [Item.blk, G'] at hb ⊢
      rw [if_neg (by omega)] at hb
      exact hb
    | tk t => exact hb
    | ob m φ =>
      obtain ⟨b', o, hl', _⟩ := h.items _ hi
      have hmn := next_of_loc h hl'
      simp only [Item.blk, G'] at hb ⊢
      rw [if_neg (by omega)] at hb
      exact hb
  refine ⟨G', G.next, ⟨rfl, rfl, rfl, hG, by rw [msize]; omega, fun b hb _ => ⟨mold b hb, rfl⟩, fun _ _ => rfl, ?_, by simp [G'], fun _ _ => rfl, fun m hm => by simp only [G']; rw [if_neg (by omega)]⟩, ⟨?_, ?_, ?_, ?_, ?_, ?_, ?_⟩, by simp [G']⟩
  · intro b hb
    rcases owned_app.1 hb with ⟨it, hi, hb⟩ | hb
    · exact .inl ⟨it, hi, hback it hi b hb⟩
    · simp [Item.blk, G'] at hb
      exact .inr (by omega)
  · intro b hb
    obtain ⟨cs', e', h1, h2, h3⟩ := h.per b hb
    have hlt : b < W.heap.size := (Array.getElem?_eq_some_iff.1 h1).1
    exact ⟨cs', e', (mold b hlt).trans h1, h2, fun j x hx => let ⟨c, h4, h5, h6⟩ := h3 j x hx; ⟨c, h4, h5.ext hG, h6⟩⟩
  · intro it hi
    rcases List.mem_append.1 hi with hi | hi
    · have hok := h.items it hi
      cases it with
      | mu m cells =>
        rcases hok with ⟨h1, h2, h3⟩ | ⟨b, cs', e', h1, h2, h3, h4, h5, h6⟩
        · exact .inl ⟨h1, by simp only [G']; rw [if_neg (by omega)]; exact h2, by simp only [G']; omega⟩
        have hlt : b < W.heap.size := (Array.getElem?_eq_some_iff.1 h2).1
        exact .inr ⟨b, cs', e', hG.loc m b h1, (mold b hlt).trans h2, h3, h4, h5, fun j x hx => let ⟨c, h4, h5, h6⟩ := h6 j x hx; ⟨c, h4, h5.ext hG, h6⟩⟩
      | tk t =>
        obtain ⟨h1, h2⟩ := hok
        refine ⟨by simp only [G']; omega, fun b n hb => ?_⟩
        obtain ⟨h3, cs', e', h4, h5⟩ := h2 b n hb
        have hlt : b < W.heap.size := (Array.getElem?_eq_some_iff.1 h4).1
        exact ⟨h3, cs', e', (mold b hlt).trans h4, h5⟩
      | ob m φ =>
        obtain ⟨b, o, h1, h2, h3, h4⟩ := hok
        have hlt : b < W.heap.size := (Array.getElem?_eq_some_iff.1 h2).1
        exact ⟨b, o, hG.loc m b h1, (mold b hlt).trans h2, h3, h4⟩
    · rw [List.mem_singleton] at hi
      subst hi
      exact ⟨W.heap.size, ob, by simp [G'], mnew, hφ, (h.size _ (Nat.le_refl _)).2⟩
  · refine List.pairwise_append.2 ⟨?_, List.pairwise_singleton _ _, ?_⟩
    · refine h.apart.imp_of_mem fun {x y} hx hy hxy b hb hb' => ?_
      exact hxy b (hback x hx b hb) (hback y hy b hb')
    · intro x hx y hy b hb hb'
      rw [List.mem_singleton] at hy
      subst hy
      have := blk_lt h (hback x hx b hb)
      simp [Item.blk, G'] at hb'
      omega
  · intro b hb
    rw [msize] at hb
    exact h.size b (by omega)
  · intro m hm'
    have := h.names m (by simp only [G'] at hm'; omega)
    simp only [G'] at hm' ⊢
    rw [if_neg (by omega)]
    exact this
  · intro m b hb
    rw [msize]
    simp only [G'] at hb
    split at hb
    · injection hb with hb; omega
    · have := h.locs m b hb; omega
  · intro t p hp
    have := h.toks t p hp
    rw [msize]
    omega
/-- A block of another kind is changed. -/
theorem Own.setOb {G : Gh} {R1 R2 : List Item} {W W' : World} {m b : Nat} {φ φ' : Obj → Prop} {ob : Obj} (h : Own G R W) (hR : R = R1 ++ .ob m φ :: R2) (hb : G.loc m = some b)
    (hos : W'.os = W.os) (ht : W'.tape = W.tape) (hout : W'.output = W.output) (hsz : W.heap.size ≤ W'.heap.size) (h2 : W'.heap[b]? = some ob) (h3 : ∀ k, k < W.heap.size → k ≠ b → W'.heap[k]? = W.heap[k]?) (hφ : φ' ob) :
    Ext G R W G (R1 ++ .ob m φ' :: R2) W' ∧ Own G (R1 ++ .ob m φ' :: R2) W' := by
  subst hR
  have hmem : Item.ob m φ ∈ R1 ++ .ob m φ :: R2 := by simp
  obtain ⟨b0, o0, q1, q2, q3, q4⟩ := h.items _ hmem
  rw [hb] at q1; injection q1 with q1; subst q1
  have hne : ∀ it ∈ R1 ++ R2, it.blk G ≠ some b := by
    intro it hi hbi
    have hp := h.apart
    rw [List.pairwise_append] at hp
    obtain ⟨_, hp2, hp3⟩ := hp
    rcases List.mem_append.1 hi with hi | hi
    · exact hp3 it hi (.ob m φ) (by simp) b hbi hb
    · exact List.rel_of_pairwise_cons hp2 hi b hb hbi
  have hown : ∀ x, owned G (R1 ++ .ob m φ' :: R2) x → owned G (R1 ++ .ob m φ :: R2) x := by
    rintro x ⟨it, hi, hx⟩
    simp only [List.mem_append, List.mem_cons] at hi
    rcases hi with hi | rfl | hi
    · exact ⟨it, by simp [hi], hx⟩
    · exact ⟨.ob m φ, by simp, hx⟩
    · exact ⟨it, by simp [hi], hx⟩
  refine ⟨⟨hos, ht, hout, .refl G, hsz, fun k hk hn => ⟨h3 k hk fun e => hn (e ▸ ⟨.ob m φ, hmem, hb⟩), rfl⟩, fun _ _ => rfl, fun x hx => .inl (hown x hx), Nat.le_refl _, fun _ _ => rfl, fun _ _ => rfl⟩, ⟨?_, ?_, ?_, ?_, h.names, ?_, ?_⟩⟩
  · intro k hk
    obtain ⟨cs', e', p1, p2⟩ := h.per k hk
    exact ⟨cs', e', (h3 k (Array.getElem?_eq_some_iff.1 p1).1 fun e => hk (e ▸ q4)).trans p1, p2⟩
  · intro it hi
    have hrest : ∀ it ∈ R1 ++ R2, it.ok G W' := by
      intro it hi
      have hok := h.items it (by simp only [List.mem_append, List.mem_cons] at hi ⊢; rcases hi with hi | hi <;> simp [hi])
      cases it with
      | mu m' cells0 =>
        rcases hok with hok | ⟨b', cs', e', p1, p2, p3⟩
        · exact .inl hok
        exact .inr ⟨b', cs', e', p1, (h3 b' (Array.getElem?_eq_some_iff.1 p2).1 fun e => hne _ hi (by simp only [Item.blk, p1, e])).trans p2, p3⟩
      | tk t =>
        refine ⟨hok.1, fun b' n hb' => ?_⟩
        obtain ⟨p1, cs', e', p2, p3⟩ := hok.2 b' n hb'
        exact ⟨p1, cs', e', (h3 b' (Array.getElem?_eq_some_iff.1 p2).1 fun e => hne _ hi (by simp only [Item.blk, hb', Option.map_some, e])).trans p2, p3⟩
      | ob m φ =>
        obtain ⟨b', o, p1, p2, p3, p4⟩ := hok
        exact ⟨b', o, p1, (h3 b' (Array.getElem?_eq_some_iff.1 p2).1 fun e => hne _ hi (by simp only [Item.blk, p1, e])).trans p2, p3, p4⟩
    simp only [List.mem_append, List.mem_cons] at hi
    rcases hi with hi | rfl | hi
    · exact hrest it (by simp [hi])
    · exact ⟨b, ob, hb, h2, hφ, q4⟩
    · exact hrest it (by simp [hi])
  · have hp := h.apart
    rw [List.pairwise_append, List.pairwise_cons] at hp ⊢
    obtain ⟨p1, ⟨p2, p3⟩, p4⟩ := hp
    refine ⟨p1, ⟨fun y hy x hx => p2 y hy x hx, p3⟩, fun x hx y hy => ?_⟩
    rw [List.mem_cons] at hy
    rcases hy with rfl | hy
    · exact p4 x hx (.ob m φ) (by simp)
    · exact p4 x hx y (by simp [hy])
  · intro k hk; exact h.size k (by omega)
  · intro m' k hk; exact Nat.lt_of_lt_of_le (h.locs m' k hk) hsz
  · intro t p hp; exact Nat.lt_of_lt_of_le (h.toks t p hp) hsz
theorem Rep.mpv_inv {G : Gh} {m : Nat} {c : Value} (h : Rep G (.mpv m) c) : ∃ b, c = .map (some b) ∧ G.loc m = some b := by
  cases h with | mpv h => exact ⟨_, rfl, h⟩
/-- A map is made. -/
theorem AOp.makeMap {t k e : TypeId} {R' : Nat → List Item} (ho : o.op = .makeMap t none) (hR : ∀ m, snocO R (.ob m (MapOb P k e 0 (.map []))) = some (R' m)) (hk : ∀ m, K (.mpv m) (R' m)) : AOp P N D o env R K Kp :=
  .acts (v := .any) (R' := []) fun G W a hs => by
    have hown := World.ownsMap_made W P k (plainElem (H := Unit) P e)
    obtain ⟨o', h1, h2⟩ := mapOb_iff.2 hown
    have h3 : (W.alloc (.map #[] 0)).heap[W.heap.size]? = some (.map #[] 0) := heap_alloc_new W _
    rw [h3] at h1; injection h1 with h1; subst h1
    obtain ⟨G', m, hE, hO, hl⟩ := hs.own.newOb (.map #[] 0) (MapOb P k e 0 (.map [])) h2
    refine ⟨.map (some W.heap.size), _, G', _, .mpv m, ?_, hE, hO, .mpv hl, ?_⟩
    · simp [execOp, ho, Instr.makeMap]
    · rw [← snocO_eq _ _ _ (hR m)]; exact hk m
/-- An array's cell. -/
theorem QOp.indexArr {t : TypeId} {td tde : TD} {e n m k j : Nat} {x y : Operand} {kk : IntKind} {i : Int} (ho : o.op = .indexAddr t x y) (hx : ev N env x = some (.mp m k)) (hy : ev N env y = some (.v (.int kk i))) (hT : TOK P t td) (hd : td.ds = .ar n e) (hE : TOK P e tde)
    (h0 : 0 ≤ i) (h1 : i < n) (hj : k + i.toNat * tde.size = j) : QOp P N D o env R (.mp m j) := by
  intro G W a hs
  obtain ⟨b, e1, e2⟩ := (ev_rep hs hx).mp_inv
  have e3 := (ev_rep hs hy).v_inv
  have hu := run_underlying (hT.ar hd) (w := W)
  subst hj
  refine ⟨.pointer (some ⟨b, k + i.toNat * tde.size, none⟩), ?_, .mp e2⟩
  simp [execOp, ho, e1, e3, Instr.indexAt, Instr.sureAddr, asIntOf, hu, h0, h1, hE.sizeOf W, add0]
end
end Go.Abs
set_option linter.unusedVariables false
namespace Go.Abs
section
variable {P : Program} {N : Nat} {D : List Deferred} {o : Oper} {ops : Array Oper} {Q : AExit → Env → List Item → Prop} {env : Env} {R R' : List Item} {l : List Oper} {K Kp : AV → List Item → Prop}
theorem AOp.callFnP (n : Nat) {f : FuncId} {x : Operand} {xs : Array Operand} {ts : Array TypeId} {args cap : List AV} {R1 F : List Item} {Qf : AOut → List Item → Prop} (ho : o.op = .call { callee := .value x, args := xs, argTypes := ts }) (hf : callOk P f = true)
    (hx : ev N env x = some (.fn (.func f) [] cap)) (ha : evList N env xs.toList = some args) (h1 : takeO n R = some R1) (h2 : dropO n R = some F) (hc : ACalls P f (args ++ cap) R1 Qf) (hk : ∀ r R', Qf (.ret r) R' → K r (R' ++ F)) (hp : ∀ x R', Qf (.pan x) R' → Kp x (R' ++ F)) : AOp P N D o env R K Kp := by
  obtain ⟨rfl, _⟩ := takeO_eq _ _ _ h1
  obtain ⟨rfl, _⟩ := dropO_eq _ _ _ h2
  have hc' := hc.frame (F := R.drop n)
  rw [List.take_append_drop] at hc'
  exact .callFn ho hf hx ha hc' (fun r R' ⟨R1, e, hq⟩ => e ▸ hk r R1 hq) (fun x R' ⟨R1, e, hq⟩ => e ▸ hp x R1 hq)
end
end Go.Abs
set_option linter.unusedVariables false
namespace Go.Abs
section
variable {P : Program} {N : Nat} {D : List Deferred} {o : Oper} {ops : Array Oper} {Q : AExit → Env → List Item → Prop} {env : Env} {R R' : List Item} {l : List Oper} {K Kp : AV → List Item → Prop}
/-- A map of ints by strings is written, as its literal is. -/
theorem AOp.insertSI (R1 R2 : List Item) {t k e : TypeId} {td : TD} {x y z : Operand} {m n : Nat} {s : ByteArray} {j : Int} {Dm : DataW Unit} (ho : o.op = .insert t x y z) (hx : ev N env x = some (.mpv m)) (hi : R = R1 ++ .ob m (MapOb P k e n Dm) :: R2) (hy : ev N env y = some (.v (.string s))) (hzz : ev N env z = some (.v (.int .i64 j)))
    (hT : TOK P t td) (hd : td.ds = .mp k e) (hkk : P.underlying k = some .string) (hee : P.underlying e = some (.int .i64)) (hs : s.size ≤ maxLen) (hwf : (Lit.int .i64 j).wf = true) (hn : n < maxLen)
    (hk : K .any (R1 ++ .ob m (MapOb P k e (n + 1) (Dm.put (.string s.data.toList) (.lit (.int .i64 j)))) :: R2)) : AOp P N D o env R K Kp :=
  .actsU fun G W a hs' => by
    obtain ⟨bl, e1, e2⟩ := (ev_rep hs' hx).mpv_inv
    have e3 := (ev_rep hs' hy).v_inv
    have e4 := (ev_rep hs' hzz).v_inv
    obtain ⟨b', o', q1, q2, q3, q4⟩ := hs'.own.items (.ob m (MapOb P k e n Dm)) (by rw [hi]; simp)
    rw [e2] at q1; injection q1 with q1; subst q1
    have hown := mapOb_iff.1 ⟨o', q2, q3⟩
    obtain ⟨W', hrun, hown', hg⟩ := hown.update (Maps.string_keyed hkk) (hT.mp hd) hn (WideMaps.keyOf_string_mk hkk hs) (plainElem_int hee hwf)
    obtain ⟨o2, w1, w2⟩ := mapOb_iff.2 hown'
    obtain ⟨hE, hO⟩ := hs'.own.setOb hi e2 hg.os hg.tape hg.output hg.size w1 (fun k hk hne => hg.block k hk (by simpa using hne)) w2
    exact ⟨W', G, _, by simp [execOp, ho, e1, e3, e4, hrun], hE, hO, hk⟩
/-- A map of ints is asked for a string. -/
theorem QOp.lookupSI (i : Nat) {t k e : TypeId} {td : TD} {x y : Operand} {m n : Nat} {s : ByteArray} {j : Int} {Dm : DataW Unit} (ho : o.op = .lookup t x y false) (hx : ev N env x = some (.mpv m)) (hi : R[i]? = some (.ob m (MapOb P k e n Dm))) (hy : ev N env y = some (.v (.string s)))
    (hT : TOK P t td) (hd : td.ds = .mp k e) (hkk : P.underlying k = some .string) (hee : P.underlying e = some (.int .i64)) (hz : ∀ w, (zeroValue e).run P w = .ok (.int .i64 0) w) (hs : s.size ≤ maxLen)
    (hD : Dm.atKey (.string s.data.toList) (.lit (.int .i64 0)) = .lit (.int .i64 j)) : QOp P N D o env R (.v (.int .i64 j)) := by
  intro G W a hs'
  obtain ⟨bl, e1, e2⟩ := (ev_rep hs' hx).mpv_inv
  have e3 := (ev_rep hs' hy).v_inv
  obtain ⟨b', o', q1, q2, q3, q4⟩ := hs'.own.items _ (List.mem_of_getElem? hi)
  rw [e2] at q1; injection q1 with q1; subst q1
  have hown := mapOb_iff.1 ⟨o', q2, q3⟩
  obtain ⟨c, hrun, hat, hwc⟩ := hown.lookup_int (Maps.string_keyed hkk) (hT.mp hd) hee (hz W) (WideMaps.keyOf_string_mk hkk hs)
  rw [hD] at hat
  have : j = c := by injection hat with h1; injection h1
  subst this
  exact ⟨_, by simp [execOp, ho, e1, e3, hrun], .v⟩
end
end Go.Abs
set_option linter.unusedVariables false
namespace Go.Abs
section
variable {P : Program} {N : Nat} {D : List Deferred} {o : Oper} {ops : Array Oper} {Q : AExit → Env → List Item → Prop} {env : Env} {R R' : List Item} {l : List Oper} {K Kp : AV → List Item → Prop}
/-- values of cells that are known -/
theorem cells_vals {G : Gh} {W : World} {a : Addr} : ∀ (news : List AV) (k : Nat), (∀ (j : Nat) (x : AV), news[j]? = some x → ∃ c : Value, W.cell? (a.add (k + j)) = some c ∧ Rep G x c ∧ c.oneCell' = true) →
    ∃ vs : List Value, Cells G news vs ∧ ∀ (j : Nat) (v : Value), vs[j]? = some v → W.cell? (a.add (k + j)) = some v
  | [], k, h => ⟨[], .nil, fun j v hv => by simp at hv⟩
  | x :: news, k, h => by
    obtain ⟨vs, h1, h2⟩ := cells_vals news (k + 1) (fun j y hy => by have := h (j + 1) y (by simpa using hy); rwa [show k + (j + 1) = k + 1 + j by omega] at this)
    obtain ⟨c, q1, q2, q3⟩ := h 0 x rfl
    refine ⟨c :: vs, ⟨by simp [h1.1], fun j y hy => ?_⟩, fun j v hv => ?_⟩
    · cases j with
      | zero => simp at hy; subst hy; exact ⟨c, rfl, q2, q3⟩
      | succ j => obtain ⟨c', w1, w2⟩ := h1.2 j y (by simpa using hy); exact ⟨c', by simpa using w1, w2⟩
    · cases j with
      | zero => simp at hv; subst hv; exact q1
      | succ j => have := h2 j v (by simpa using hv); rwa [show k + 1 + j = k + (j + 1) by omega] at this
/-- Copy: what goes over has been read before. -/
theorem AOp.copy1 (R1 R2 : List Item) {d s : Operand} {dT sT : TypeId} {td tde : TD} {e m off len sl n : Nat} {src : AV} {cells news cells' : List AV} (ho : o.op = .call { callee := .builtin .copy, args := #[d, s], argTypes := #[dT, sT] })
    (hx : ev N env d = some (.sl 1 m off len)) (hy : ev N env s = some src) (hi : R = R1 ++ .mu m cells :: R2) (hT : TOK P dT td) (hd : td.ds = .sli e) (hE : TOK P e tde) (h1 : tde.size = 1)
    (hsrc : ∀ G W c, Own G R W → Rep G src c → ∃ a sCap, c = .slice a sl sCap ∧ (0 < n → ∃ (a' : Addr), a = some a' ∧ ∀ (j : Nat) (x : AV), news[j]? = some x → ∃ v : Value, W.cell? (a'.add (0 + j)) = some v ∧ Rep G x v ∧ v.oneCell' = true))
    (hn : n = Nat.min sl len) (hnews : news.length = n) (hs : spliceO off news cells = some cells') (hk : K (.v (.int .i64 n)) (R1 ++ .mu m cells' :: R2)) : AOp P N D o env R K Kp :=
  .acts (v := .any) (R' := []) fun G W a hsim => by
    have hu := hT.sli hd
    obtain ⟨i, z, hi1, hi2, _⟩ := hE.info
    have hsz : (P.info? e).map (·.size) = some 1 := by rw [hi1]; simp [hi2, h1]
    have hr1 := ev_rep hsim hx
    obtain ⟨sa, sCap, hsv, hsc⟩ := hsrc G W _ hsim.own (ev_rep hsim hy)
    by_cases h0 : n = 0
    · have hnil : news = [] := List.eq_nil_of_length_eq_zero (by omega)
      subst hnil
      have hspl := (spliceO_eq _ _ _ _ hs).1
      have hcc : cells' = cells := by rw [hspl]; simp
      subst hcc
      have hrun : ∀ c, Rep G (.sl 1 m off len) c → ∃ da dc, c = .slice da len dc := fun c hc => by
        rcases hc.sl_inv with ⟨hn', rfl⟩ | ⟨b, cap, rfl, _⟩
        · exact ⟨none, 0, by rw [hn']⟩
        · exact ⟨_, _, rfl⟩
      obtain ⟨da, dc, hdv⟩ := hrun _ hr1
      have := run_copy_none (P := P) W dT sT o.type e da sa len dc sl sCap hu hsz (by omega)
      refine ⟨.int .i64 n, W, G, R1 ++ .mu m cells' :: R2, .v (.int .i64 n), ?_, by rw [← hi]; exact .refl _ _ _, by rw [← hi]; exact hsim.own, .v, hk⟩
      subst h0
      simp [execOp, ho, hdv, hsv, resolve, invoke, builtin, this]
      rfl
    · have hpos : 0 < n := by omega
      obtain ⟨a', ha', hsc'⟩ := hsc hpos
      subst ha'
      obtain ⟨vs, hv1, hv2⟩ := cells_vals news 0 hsc'
      have hmin1 : Nat.min sl len ≤ len := Nat.min_le_right _ _
      rcases hr1.sl_inv with ⟨hn', _⟩ | ⟨b, cap, hdv, hl, hle, hz, hmax⟩
      · omega
      obtain ⟨b', cs, et, q1, q2, q3, q4, q5, q6⟩ := (hsim.own.items (.mu m cells) (by rw [hi]; simp)).resolve_left (fun h0 => by rw [hl] at h0; exact absurd h0.2.1 (by simp))
      rw [hl] at q1; injection q1 with q1; subst q1
      have hspl := spliceO_eq _ _ _ _ hs
      have hvl : vs.length = n := by rw [← hv1.1]; exact hnews
      have hone : ∀ v ∈ vs, v.oneCell' = true := fun u hu => by
        obtain ⟨j, hj⟩ := List.getElem?_of_mem hu
        have hlt : j < news.length := by rw [hv1.1]; exact (List.getElem?_eq_some_iff.1 hj).1
        obtain ⟨c, w1, w2, w3⟩ := hv1.2 j news[j] (by simp [hlt])
        rw [hj] at w1; injection w1 with w1; subst w1; exact w3
      have hrun := run_copy_row (P := P) W dT sT o.type e b off len cap a' sl sCap cs et vs hu hsz q2 (by omega) (fun j v hv => by have := hv2 j v hv; rwa [Nat.zero_add] at this) (by omega) hone
      have hsp := splice_cells (cs := cs.toList) (by simpa using q4) (fun j y hy => by obtain ⟨c, w1, w2⟩ := q6 j y hy; exact ⟨c, by simpa using w1, w2⟩) hv1 hs
      have hlen : (cs.toList.take off ++ vs ++ cs.toList.drop (off + vs.length)).toArray.size = cs.size := by
        have := hv1.1
        simp at this ⊢
        omega
      obtain ⟨hE', hO⟩ := hsim.own.setMu (W' := W.setRow b (cs.toList.take off ++ vs ++ cs.toList.drop (off + vs.length)).toArray) hi hl q2 rfl rfl rfl (by simp [World.setRow])
        (setRow_heap W b cs _ et _ q2) (fun k' hk' => setRow_other W b k' _ hk') hlen (by rw [hlen, hsp.1]; exact q4) (fun j y hy => by obtain ⟨c, w1, w2⟩ := hsp.2 j y hy; exact ⟨c, by simpa using w1, w2⟩)
      refine ⟨.int .i64 n, _, G, _, .v (.int .i64 n), ?_, hE', hO, .v, hk⟩
      rw [hvl] at hrun
      have hcs : W.setRow b (cs.toList.take off ++ vs ++ cs.toList.drop (off + vs.length)).toArray = W.setRow b (cs.toList.take off ++ vs ++ cs.toList.drop (off + vs.length)).toArray := rfl
      rw [hvl]
      simp only [execOp, ho]
      simp [hdv, hsv, resolve, invoke, builtin, hrun]
      rfl
/-- what a slice that is read gives to a copy -/
theorem copy_il {R : List Item} {tk : Option Nat} {rows : List (List AV)} {n : Nat} {G : Gh} {W : World} {c : Value} (hO : Own G R W) (h : Rep G (.il 1 tk rows) c) :
    ∃ a sCap, c = .slice a rows.length sCap ∧ (0 < n → 0 < rows.length → ∃ (a' : Addr), a = some a' ∧ ∀ (j : Nat) (x : AV), (rows.flatten.take n)[j]? = some x → ∃ v : Value, W.cell? (a'.add (0 + j)) = some v ∧ Rep G x v ∧ v.oneCell' = true) := by
  rcases h.il_inv with ⟨hn, rfl⟩ | ⟨b, o', cap, rfl, hr, hp, _⟩
  · subst hn; exact ⟨none, 0, rfl, fun _ h => absurd h (by simp)⟩
  · refine ⟨_, _, rfl, fun _ _ => ⟨_, rfl, fun j x hx => ?_⟩⟩
    have hx' : rows.flatten[j]? = some x := by
      rw [List.getElem?_take] at hx
      split at hx
      · exact hx
      · cases hx
    obtain ⟨v, h1, h2, h3⟩ := cells_of_per hO hp j x hx'
    exact ⟨v, by rw [add0, Nat.zero_add]; exact h1, h2, h3⟩
theorem copy_sl {R : List Item} {m off len : Nat} {cells : List AV} {n : Nat} {G : Gh} {W : World} {c : Value} (hO : Own G R W) (hm : .mu m cells ∈ R) (h : Rep G (.sl 1 m off len) c) :
    ∃ a sCap, c = .slice a len sCap ∧ (0 < n → 0 < len → ∃ (a' : Addr), a = some a' ∧ ∀ (j : Nat) (x : AV), ((cells.drop off).take n)[j]? = some x → ∃ v : Value, W.cell? (a'.add (0 + j)) = some v ∧ Rep G x v ∧ v.oneCell' = true) := by
  rcases h.sl_inv with ⟨hn, rfl⟩ | ⟨b, cap, rfl, hl, hle, hz, hmax⟩
  · subst hn; exact ⟨none, 0, rfl, fun _ h => absurd h (by simp)⟩
  · refine ⟨_, _, rfl, fun _ _ => ⟨_, rfl, fun j x hx => ?_⟩⟩
    have hx' : cells[off + j]? = some x := by
      rw [List.getElem?_take] at hx
      split at hx
      · rw [List.getElem?_drop] at hx; exact hx
      · cases hx
    obtain ⟨b', cs, et, q1, q2, q3, q4, q5, q6⟩ := (hO.items _ hm).resolve_left (fun h0 => by rw [hl] at h0; exact absurd h0.2.1 (by simp))
    rw [hl] at q1; injection q1 with q1; subst q1
    obtain ⟨v, h1, h2, h3⟩ := q6 _ x hx'
    exact ⟨v, by rw [add0, Nat.zero_add]; simp [World.cell?, q2, h1], h2, h3⟩
/-- A cut from a place on, of a slice that may change. -/
theorem QOp.cutLoM {t : TypeId} {td tde : TD} {e : Nat} {x y : Operand} {m off len : Nat} {h : Int} (ho : o.op = .slice t x (some y) none none) (hx : ev N env x = some (.sl 1 m off len)) (hy : ev N env y = some (.v (.int .i64 h))) (hT : TOK P t td) (hd : td.ds = .sli e) (hE : TOK P e tde) (hsz : tde.size = 1)
    (h0 : 0 ≤ h) (h2 : h < len) : QOp P N D o env R (.sl 1 m (off + h.toNat) (len - h.toNat)) :=
  (fun G W a hs => by
    have hu := run_underlying (hT.sli hd)
    have hsize := hE.sizeOf W
    rw [hsz] at hsize
    rcases (ev_rep hs hx).sl_inv with ⟨hn, hc⟩ | ⟨b, cap, hc, hl, hle, hz, hmax⟩
    · omega
    · have hb := run_bounds (P := P) (N := N) (env := env) true (ρ := a.eval) (lo := some y) (hi := none) (l := h) (h := len) (len := len) (cap := cap) (fun x v hx => ⟨G, ev_rep hs hx⟩) (by simp [evOpt, hy]) rfl (by omega) (by omega) (by omega) hle W
      simp at hb
      refine ⟨.slice (some ⟨b, off + h.toNat, none⟩) (len - h.toNat) (cap - h.toNat), ?_, .sl hl (by omega) (by omega) (by omega)⟩
      have hne : ¬ (cap - h.toNat = 0) := by omega
      simp [execOp, ho, Instr.sliceAt, Instr.slice, hu, hc, hb, hsize, add0]
      omega)
end
end Go.Abs
