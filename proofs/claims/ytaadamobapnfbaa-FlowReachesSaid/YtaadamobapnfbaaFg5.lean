/- Own texts, put together by a program: S1 S3 S4 S0 P2 M4 S5. -/
import Derived.Test.YtaadamobapnfbaaFg4
/- ref07.Reach. -/
set_option linter.unusedVariables false
set_option linter.unusedSimpArgs false
set_option maxRecDepth 100000
namespace Go.Proofs.Ytaadamobapnfbaa
open Go Go.Abs
def vB (b : Bool) : AV := .v (.bool b)
def slotB (n : Nat) (x : Int) : Nat := if x < 0 then n else x.toNat
theorem slotB_lt {n : Nat} {x : Int} (h1 : x < n) : slotB n x < n + 1 := by unfold slotB; split <;> omega
theorem slotB_inj {n : Nat} {x y : Int} (h0 : -1 ≤ x) (h1 : x < n) (g0 : -1 ≤ y) (g1 : y < n) (h : slotB n x = slotB n y) : x = y := by
  unfold slotB at h; split at h <;> split at h <;> omega
/-- a list of bools tells what has been seen -/
structure Told (n : Nat) (s : List Int) (B : List Bool) : Prop where
  len : B.length = n + 1
  at_ : ∀ x : Int, -1 ≤ x → x < n → B[slotB n x]? = some (s.contains x)
theorem Told.init (n : Nat) : Told n [] (List.replicate (n + 1) false) :=
  ⟨by simp, fun x h0 h1 => by rw [List.getElem?_replicate, if_pos (slotB_lt h1)]; rfl⟩
theorem Told.put {n : Nat} {s : List Int} {B : List Bool} (h : Told n s B) {x : Int} (h0 : -1 ≤ x) (h1 : x < n) : Told n (x :: s) (B.set (slotB n x) true) := by
  refine ⟨by rw [List.length_set]; exact h.len, fun y g0 g1 => ?_⟩
  by_cases hy : y = x
  · subst hy
    rw [List.getElem?_set_self (by rw [h.len]; exact slotB_lt h1)]; simp
  · rw [List.getElem?_set_ne (fun e => hy (slotB_inj h0 h1 g0 g1 e).symm), h.at_ y g0 g1, List.contains_cons]
    rw [show (y == x) = false by simpa using hy, Bool.false_or]
theorem Told.again {n : Nat} {s : List Int} {B : List Bool} (h : Told n s B) {x : Int} (h0 : -1 ≤ x) (h1 : x < n) (hx : s.contains x = true) : B.set (slotB n x) true = B := by
  apply List.ext_getElem?
  intro i
  by_cases hi : i = slotB n x
  · subst hi
    rw [List.getElem?_set_self (by rw [h.len]; exact slotB_lt h1), h.at_ x h0 h1, hx]
  · rw [List.getElem?_set_ne (fun e => hi e.symm)]
theorem bools_flat (n : Nat) : (List.replicate n [AV.v (.bool false)]).flatten = (List.replicate n false).map vB := by
  induction n with
  | zero => rfl
  | succ n ih => rw [List.replicate_succ, List.flatten_cons, ih]; rfl
theorem ints_append (l m : List Int) : ints l ++ ints m = ints (l ++ m) := by simp [ints]
theorem ints_rows2 (l m : List Int) : ∀ r ∈ ints l ++ ints m, r.length = 1 := by
  rw [ints_append]; intro r hr
  obtain ⟨z, _, rfl⟩ := List.mem_map.1 hr; rfl
inductive RR25 (nx : List (List Int)) (n : Nat) (a : Int) : AOut → List Abs.Item → Prop
  | mk (m : Nat) (s : List Int) (B : List Bool) (hs : ∀ x, x ∈ s ↔ Rc nx a x) (hB : Told n s B) : RR25 nx n a (.ret (.sl 1 m 0 (n + 1))) [.mu m (B.map vB)]
set_option maxHeartbeats 4000000 in
theorem reach7_walk (nx : List (List Int)) (n : Nat) (h : NxOk nx n) (a : Int) (ha0 : 0 ≤ a) (ha1 : a < n) :
    ACalls Try.prog 25 [.il 1 none (nxrows nx), vi a, vi (-2)] [] (RR25 nx n a) := by
  have hn := h.len
  have hbig := h.big
  have hnl : (nxrows nx).length = n := by rw [nxrows_len]; exact hn
  have hal : a.toNat < nx.length := by omega
  have ga := nxrows_get hal
  have hpa := h.pos _ (List.getElem_mem hal)
  have hoa : outs nx a = nx[a.toNat] := by
    unfold outs; rw [if_neg (by omega), List.getD_eq_getElem?_getD, List.getElem?_eq_getElem hal]; rfl
  have hga : ∀ x ∈ nx[a.toNat], -1 ≤ x ∧ x < n := fun x hx => by have := h.good _ (List.getElem_mem hal) x hx; omega
  rw [← hoa] at ga hpa hga
  have hila := ints_len (outs nx a)
  refine ACalls.of_code (c := _) Try.func25 rfl Try.ntmps25 (Nat.le_of_ble_eq_true rfl) ?_
  refine ACode.seq (ACode.region ?_)
  refine ASeq.q rfl rfl (QOp.assign rfl rfl) ?_
  refine ASeq.nil ?_
  refine ACode.seq (ACode.region ?_)
  refine ASeq.q rfl rfl (QOp.move rfl rfl) ?_
  refine ASeq.q rfl rfl (QOp.lenI rfl rfl (tok _ rfl) rfl) ?_
  refine ASeq.q rfl rfl (QOp.ar64 rfl rfl rfl rfl ⟨by omega, by omega⟩) ?_
  refine ASeq.slot 12 rfl (v' := vi ((n + 1 : Nat) : Int)) (by rw [hnl]; exact .refl _) ?_
  refine ASeq.op rfl rfl (AOp.makeP (n := n + 1) rfl rfl rfl (tok _ rfl) rfl (tok _ rfl) (by decide) rfl rfl (fun _ => rfl) (by omega) rfl (fun mB => ?_))
  rw [show (List.map AV.v (TT 4).zero) = [AV.v (.bool false)] from rfl, bools_flat]
  refine ASeq.q rfl rfl (QOp.assign rfl rfl) ?_
  refine ASeq.nil ?_
  refine ACode.seq (ACode.region ?_)
  refine ASeq.op rfl rfl (AOp.litT (cells := []) rfl (tok _ rfl) rfl (tok _ rfl) (by decide) rfl (by decide) rfl rfl rfl rfl (fun _ => rfl) (fun τ0 => ?_))
  refine ASeq.q rfl rfl (QOp.move rfl rfl) ?_
  refine ASeq.q rfl rfl (QOp.move rfl rfl) ?_
  refine ASeq.q rfl rfl (QOp.indexI rfl rfl rfl (tok _ rfl) rfl (tok _ rfl) (by omega) (by assumption)) ?_
  refine ASeq.q rfl rfl (QOp.loadI rfl rfl (tok _ rfl) rfl) ?_
  refine ASeq.op rfl rfl (AOp.appendP 1 (e := 3) (tde := TT 3) rfl rfl rfl rfl (tok _ rfl) rfl (tok _ rfl) (tok _ rfl) rfl (by decide) rfl rfl (fun _ => rfl) (ints_rows2 [] _) (by rw [hila]; simp only [List.length_nil]; omega) rfl (fun _ => ?_))
  rename_i τ0
  refine ASeq.q rfl rfl (QOp.assign rfl rfl) ?_
  refine ASeq.nil ?_
  refine ACode.seq (ACode.block ?_)
  refine ACode.loopP (fun (x : List Bool × List Int × List Int × Nat) => [(0, .il 1 none (nxrows nx)), (1, vi a), (2, vi (-2)), (7, .sl 1 mB 0 (n + 1)), (8, .il 1 (some x.2.2.2) (ints x.2.2.1))])
    (fun x => [.mu mB (x.1.map vB), .tk x.2.2.2]) (fun x => 3 * unseen n x.2.1 + x.2.2.1.length)
    (fun x => Sk nx a x.2.1 x.2.2.1 ∧ Told n x.2.1 x.1 ∧ 3 * unseen n x.2.1 + x.2.2.1.length ≤ 3 * (n + 1) + 2 ∧ ∀ y ∈ x.2.2.1, -1 ≤ y ∧ y < n) (List.replicate (n + 1) false, [], outs nx a, τ0)
    ⟨.init nx a, .init n, by dsimp only; rw [unseen_nil]; omega, hga⟩ (.cons rfl (.cons rfl (.cons rfl (.cons rfl (.cons rfl .nil))))) 2 rfl ?_
  rintro ⟨B, s, todo, τ⟩ ⟨hsk, htl, hmeas, hrng⟩
  dsimp only at hsk htl hmeas hrng ⊢
  have hBl := htl.len
  have hil0 := ints_len todo
  refine ACode.seq (ACode.seq (ACode.region ?_))
  refine ASeq.q rfl rfl (QOp.move rfl rfl) ?_
  refine ASeq.q rfl rfl (QOp.lenI rfl rfl (tok _ rfl) rfl) ?_
  refine ASeq.q rfl rfl (QOp.cmp rfl rfl rfl rfl) ?_
  refine ASeq.nil ?_
  refine AExit.then_normal ?_
  refine ACode.cond _ rfl (fun hb => ?_) (fun hb => ?_)
  · obtain ⟨x, todo', rfl⟩ : ∃ x todo', todo = x :: todo' := by
      cases todo with
      | nil => simp [ints] at hb
      | cons x todo' => exact ⟨x, todo', rfl⟩
    have hil : (ints (x :: todo')).length = todo'.length + 1 := by rw [ints_len]; rfl
    have hil' := ints_len todo'
    have hlen : (x :: todo').length = todo'.length + 1 := rfl
    have hxr := hrng x (by simp)
    have hmem : ∀ y, y ∈ x :: todo' ↔ y ∈ todo' ∨ y = x := fun y => by simp [or_comm]
    refine ACode.skip (ACode.block (ACode.seq (ACode.region ?_)))
    refine ASeq.q rfl rfl (QOp.move rfl rfl) ?_
    refine ASeq.q rfl rfl (QOp.indexI rfl rfl rfl (tok _ rfl) rfl (tok _ rfl) (by decide) (by rfl)) ?_
    refine ASeq.q rfl rfl (QOp.loadI rfl rfl (tok _ rfl) rfl) ?_
    refine ASeq.q rfl rfl (QOp.assign rfl rfl) ?_
    refine ASeq.nil ?_
    refine ACode.seq (ACode.region ?_)
    refine ASeq.q rfl rfl (QOp.move rfl rfl) ?_
    refine ASeq.q rfl rfl (QOp.cutI (tde := TT 3) (tk' := some τ) (rows' := ints todo') rfl rfl (tok _ rfl) rfl (tok _ rfl) rfl rfl (by decide) (by omega) (by omega) (by rw [Int.toNat_natCast, List.take_length]; rfl) (.inr ⟨rfl, rfl⟩)) ?_
    refine ASeq.q rfl rfl (QOp.assign rfl rfl) ?_
    refine ASeq.nil ?_
    refine ACode.seq (ACode.seq (ACode.region ?_))
    refine ASeq.q rfl rfl (QOp.move rfl rfl) ?_
    refine ASeq.q rfl rfl (QOp.move rfl rfl) ?_
    refine ASeq.q rfl rfl (QOp.cmp rfl rfl rfl rfl) ?_
    refine ASeq.nil ?_
    refine AExit.then_normal ?_
    refine ACode.cond _ rfl (fun hb => by have : x = -2 := by simpa using hb
                                          omega) (fun hb2 => ?_)
    refine ACode.skip ?_
    refine ACode.seq (ACode.seq (ACode.region ?_))
    refine ASeq.q rfl rfl (QOp.move rfl rfl) ?_
    refine ASeq.q rfl rfl (QOp.cmp rfl rfl rfl rfl) ?_
    refine ASeq.nil ?_
    refine AExit.then_normal ?_
    refine ACode.cond _ rfl (fun hb => ?_) (fun hb => ?_)
    · have hx0 : x < 0 := of_decide_eq_true hb
      have hxe : x = -1 := by omega
      subst hxe
      have hox : outs nx (-1) = [] := rfl
      have htake := hsk.take hmem
      rw [hox, List.append_nil] at htake
      have hBset : (B.map vB).set (0 + (((nxrows nx).length : Int)).toNat * 1) (vB true) = (B.set (slotB n (-1)) true).map vB := by
        rw [Int.toNat_natCast, hnl, List.map_set]; simp [slotB]
      refine ACode.seq (ACode.region ?_)
      refine ASeq.q rfl rfl (QOp.move rfl rfl) ?_
      refine ASeq.q rfl rfl (QOp.move rfl rfl) ?_
      refine ASeq.q rfl rfl (QOp.lenI rfl rfl (tok _ rfl) rfl) ?_
      refine ASeq.q rfl rfl (QOp.indexM rfl rfl rfl (tok _ rfl) rfl (tok _ rfl) (by omega) (by omega) rfl) ?_
      refine ASeq.op0 rfl rfl (AOp.storeAt 0 rfl rfl rfl rfl (tok _ rfl) rfl rfl (by rw [List.length_map]; show 0 + (((nxrows nx).length : Int)).toNat * 1 < _; omega) rfl ?_)
      refine ASeq.nil ?_
      refine ACode.exit (AExit.then_exit (AExit.in_same (AExit.then_normal ?_)))
      by_cases hs : s.contains (-1) = true
      · have hBa := htl.again (by omega) (by omega : (-1 : Int) < n) hs
        refine ⟨(B, s, todo', τ), 2, ⟨hsk.pass hmem (by simpa using hs), htl, by dsimp only; omega, fun y hy => hrng y (by simp [hy])⟩, by dsimp only; omega, .cons rfl (.cons rfl (.cons rfl (.cons rfl (.cons rfl .nil)))), ?_⟩
        show some [Abs.Item.mu mB ((B.map vB).set (0 + (((nxrows nx).length : Int)).toNat * 1) (vB true)), _] = _
        rw [show ((B.map vB).set (0 + (((nxrows nx).length : Int)).toNat * 1) (vB true)) = B.map vB by rw [hBset, hBa]]
      · have hun := unseen_lt (n := n) (s := s) (x := -1) (by omega) (by omega) (by simpa using hs)
        refine ⟨(B.set (slotB n (-1)) true, -1 :: s, todo', τ), 2, ⟨htake, htl.put (by omega) (by omega), by dsimp only; omega, fun y hy => hrng y (by simp [hy])⟩, by dsimp only; omega, .cons rfl (.cons rfl (.cons rfl (.cons rfl (.cons rfl .nil)))), ?_⟩
        show some [Abs.Item.mu mB ((B.map vB).set (0 + (((nxrows nx).length : Int)).toNat * 1) (vB true)), _] = _
        rw [hBset]
    · have hx0 : 0 ≤ x := by have := of_decide_eq_false hb; omega
      have hxl : x.toNat < nx.length := by omega
      have hsl : slotB n x = x.toNat := by unfold slotB; rw [if_neg (by omega)]
      have hget := htl.at_ x hxr.1 hxr.2
      have hcell : (B.map vB)[0 + x.toNat * 1]? = some (vB (s.contains x)) := by
        rw [Nat.zero_add, Nat.mul_one, List.getElem?_map, ← hsl, hget]; rfl
      refine ACode.skip ?_
      refine ACode.seq (ACode.region ?_)
      refine ASeq.q rfl rfl (QOp.move rfl rfl) ?_
      refine ASeq.q rfl rfl (QOp.move rfl rfl) ?_
      refine ASeq.q rfl rfl (QOp.indexM rfl rfl rfl (tok _ rfl) rfl (tok _ rfl) (by omega) (by omega) rfl) ?_
      refine ASeq.q rfl rfl (QOp.loadAt 0 rfl rfl rfl (tok _ rfl) rfl (by assumption)) ?_
      refine ASeq.q rfl rfl (QOp.not rfl rfl) ?_
      refine ASeq.nil ?_
      refine ACode.cond _ rfl (fun hb => ?_) (fun hb => ?_)
      · have hs : s.contains x = false := by simpa using hb
        have hun := unseen_lt hxr.1 hxr.2 hs
        have htake := hsk.take hmem
        have gn := nxrows_get hxl
        have hox : outs nx x = nx[x.toNat] := by
          unfold outs; rw [if_neg (by omega), List.getD_eq_getElem?_getD, List.getElem?_eq_getElem hxl]; rfl
        have hpx := h.pos _ (List.getElem_mem hxl)
        have hgx : ∀ y ∈ nx[x.toNat], -1 ≤ y ∧ y < n := fun y hy => by have := h.good _ (List.getElem_mem hxl) y hy; omega
        rw [← hox] at gn hpx hgx
        have hilx := ints_len (outs nx x)
        have hBset : (B.map vB).set (0 + x.toNat * 1) (vB true) = (B.set (slotB n x) true).map vB := by
          rw [Nat.zero_add, Nat.mul_one, List.map_set, hsl]
        refine ACode.seq (ACode.region ?_)
        refine ASeq.q rfl rfl (QOp.move rfl rfl) ?_
        refine ASeq.q rfl rfl (QOp.move rfl rfl) ?_
        refine ASeq.q rfl rfl (QOp.indexM rfl rfl rfl (tok _ rfl) rfl (tok _ rfl) (by omega) (by omega) rfl) ?_
        refine ASeq.op0 rfl rfl (AOp.storeAt 0 rfl rfl rfl rfl (tok _ rfl) rfl rfl (by rw [List.length_map]; show 0 + x.toNat * 1 < _; omega) rfl ?_)
        refine ASeq.nil ?_
        refine ACode.region ?_
        refine ASeq.q rfl rfl (QOp.move rfl rfl) ?_
        refine ASeq.q rfl rfl (QOp.move rfl rfl) ?_
        refine ASeq.q rfl rfl (QOp.move rfl rfl) ?_
        refine ASeq.q rfl rfl (QOp.indexI rfl rfl rfl (tok _ rfl) rfl (tok _ rfl) (by omega) (by assumption)) ?_
        refine ASeq.q rfl rfl (QOp.loadI rfl rfl (tok _ rfl) rfl) ?_
        refine ASeq.op rfl rfl (AOp.appendP 1 (e := 3) (tde := TT 3) rfl rfl rfl rfl (tok _ rfl) rfl (tok _ rfl) (tok _ rfl) rfl (by decide) rfl rfl (fun _ => rfl) (ints_rows2 _ _) (by rw [hil', hilx]; omega) rfl (fun _ => ?_))
        rename_i τ'
        refine ASeq.q rfl rfl (QOp.assign rfl rfl) ?_
        refine ASeq.nil ?_
        refine AExit.in_normal (AExit.then_normal ?_)
        refine ⟨(B.set (slotB n x) true, x :: s, todo' ++ outs nx x, τ'), 2, ⟨htake, htl.put hxr.1 hxr.2, by dsimp only; rw [List.length_append]; omega, fun y hy => ?_⟩, by dsimp only; rw [List.length_append]; omega, .cons rfl (.cons rfl (.cons rfl (.cons rfl (.consE rfl (by rw [ints_append]; rfl) .nil)))), ?_⟩
        · rcases List.mem_append.1 hy with hy | hy
          · exact hrng y (by simp [hy])
          · exact hgx y hy
        · show some [Abs.Item.mu mB ((B.map vB).set (0 + x.toNat * 1) (vB true)), _] = _
          rw [hBset]
      · have hs : s.contains x = true := by simpa using hb
        refine ACode.skip ?_
        refine AExit.in_normal (AExit.then_normal ?_)
        exact ⟨(B, s, todo', τ), 2, ⟨hsk.pass hmem (by simpa using hs), htl, by dsimp only; omega, fun y hy => hrng y (by simp [hy])⟩, by dsimp only; omega, .cons rfl (.cons rfl (.cons rfl (.cons rfl (.cons rfl .nil)))), rfl⟩
  · have hnil : todo = [] := by
      have := of_decide_eq_false hb
      exact List.eq_nil_of_length_eq_zero (by omega)
    subst hnil
    refine ACode.exit (ACode.seq (ACode.region ?_))
    refine ASeq.q rfl rfl (QOp.move rfl rfl) ?_
    refine ASeq.q rfl rfl (QOp.assign rfl rfl) ?_
    refine ASeq.nil ?_
    refine ACode.ret ?_
    refine bodyQ_ret 1 (.tmp rfl .nil) rfl ?_
    exact .mk mB s B hsk.done htl
end Go.Proofs.Ytaadamobapnfbaa
/- slices.Sort at a list of ints, in the layer's words. -/
set_option linter.unusedVariables false
set_option linter.unusedSimpArgs false
namespace Go.Proofs.Ytaadamobapnfbaa
open Go Go.Abs
/-- Blocks more. -/
theorem own_grow {G : Gh} {R : List Abs.Item} {W : World} (h : Own G R W) (os : Array Obj) : Ext G R W G R (Go.Sort.grow W os) ∧ Own G R (Go.Sort.grow W os) := by
  have hold : ∀ b, b < W.heap.size → (Go.Sort.grow W os).heap[b]? = W.heap[b]? := fun b hb => Go.Sort.heap_grow_old W os hb
  have hsz : W.heap.size ≤ (Go.Sort.grow W os).heap.size := by rw [Go.Sort.size_grow]; omega
  have hat : ∀ (b : Nat) (o : Obj), W.heap[b]? = some o → (Go.Sort.grow W os).heap[b]? = some o := fun b o hb => (hold b (Array.getElem?_eq_some_iff.1 hb).1).trans hb
  refine ⟨⟨rfl, rfl, rfl, .refl G, hsz, fun b hb _ => ⟨hold b hb, rfl⟩, fun _ _ => rfl, fun b hb => .inl hb, Nat.le_refl _, fun _ _ => rfl, fun _ _ => rfl⟩, ?_, ?_, h.apart, ?_, h.names, ?_, ?_⟩
  · intro b hb
    obtain ⟨cs, e, h1, h2⟩ := h.per b hb
    exact ⟨cs, e, hat b _ h1, h2⟩
  · intro it hi
    have hok := h.items it hi
    cases it with
    | mu m cells =>
      rcases hok with hok | ⟨b, cs, e, h1, h2, h3⟩
      · exact .inl hok
      · exact .inr ⟨b, cs, e, h1, hat b _ h2, h3⟩
    | tk t =>
      refine ⟨hok.1, fun b n hb => ?_⟩
      obtain ⟨h1, cs, e, h2, h3⟩ := hok.2 b n hb
      exact ⟨h1, cs, e, hat b _ h2, h3⟩
    | ob m φ =>
      obtain ⟨b, o, h1, h2, h3⟩ := hok
      exact ⟨b, o, h1, hat b _ h2, h3⟩
  · intro b hb; exact h.size b (Nat.le_trans hsz hb)
  · intro m b hb; exact Nat.lt_of_lt_of_le (h.locs m b hb) hsz
  · intro t p hp; exact Nat.lt_of_lt_of_le (h.toks t p hp) hsz
def sorted (l : List Int) : List Int := l.mergeSort fun x y => decide (x ≤ y)
theorem sorted_len (l : List Int) : (sorted l).length = l.length := by unfold sorted; exact List.length_mergeSort l
inductive RSort (m : Nat) (l : List Int) : AOut → List Abs.Item → Prop
  | mk (r : AV) : RSort m l (.ret r) [.mu m ((sorted l).map vi)]
theorem sort_ok (l : List Int) (h0 : 0 < l.length) (h1 : l.length < 4611686018427387904) (m : Nat) : ACalls Try.prog 43 [.sl 1 m 0 l.length] [.mu m (l.map vi)] (RSort m l) := by
  intro G W cargs hO hR
  obtain ⟨c, hc, hrep⟩ := hR.2 0 _ rfl
  have hsz := hR.1
  have hcargs : cargs = #[c] := by
    apply Array.ext_getElem?
    intro i
    cases i with
    | zero => exact hc
    | succ i => rw [Array.getElem?_eq_none (by simp at hsz; omega), Array.getElem?_eq_none (by simp)]
  subst hcargs
  rcases hrep.sl_inv with ⟨h2, _⟩ | ⟨b, cap, rfl, hl, hcap, hz, hmax⟩
  · omega
  rcases hO.items _ List.mem_cons_self with ⟨h3, h4, _⟩ | ⟨b', cs, e, q1, q2, q3, q4, q5, q6⟩
  · rw [hl] at h4; cases h4
  rw [hl] at q1; injection q1 with q1; subst q1
  have hlt := hO.locs m b hl
  have hlc : l.length ≤ cs.size := by simpa using q4
  have hholds : Go.Sort.Holds (Value.int .i64) W b 0 l.toArray := by
    intro j hj
    have hj' : j < l.length := by simpa using hj
    obtain ⟨x, hx1, hx2, _⟩ := q6 j (vi l[j]) (by rw [List.getElem?_map, List.getElem?_eq_getElem hj']; rfl)
    have hx2 := hx2.v_inv
    subst hx2
    refine ⟨?_, by simp [World.frozen?, q2]⟩
    simp only [World.cell?, q2, Nat.zero_add, Option.isSome_none, Bool.false_eq_true, if_false]
    rw [hx1]; simp [hj']
  refine (Try.slices_Sort_int b 0 cap l W hholds hlt h1).mono ?_
  rintro en w' ⟨rfl, n, os, rfl⟩
  have hms : (l.mergeSort fun x y => decide (x ≤ y)).length = l.length := sorted_len l
  have hheap : (Go.Sort.putRow (Value.int .i64) (Go.Sort.ahead W n) b 0 (sorted l).toArray).heap[b]? = some (.cells (Go.Sort.putCells (Value.int .i64) 0 (sorted l).toArray cs) e (0, 0)) := by
    simp [Go.Sort.putRow, Go.Sort.mapBlock, Go.Sort.ahead, Array.getElem?_modify, q2, Go.Sort.onCells]
  obtain ⟨hE, hO1⟩ := hO.setMu (W' := Go.Sort.putRow (Value.int .i64) (Go.Sort.ahead W n) b 0 (sorted l).toArray) (R1 := []) (R2 := []) (cells' := (sorted l).map vi) rfl hl q2 rfl rfl rfl (by simp) hheap
    (fun k hk => by simp [Go.Sort.putRow, Go.Sort.mapBlock, Go.Sort.ahead, Array.getElem?_modify, Ne.symm hk]) (by simp [Go.Sort.putCells]) (by simp [Go.Sort.putCells, sorted_len]; exact hlc) (fun j x hx => by
      have hj : j < (sorted l).length := by
        have := (List.getElem?_eq_some_iff.1 hx).1
        simpa using this
      have hx' : x = vi (sorted l)[j] := by
        rw [List.getElem?_map, List.getElem?_eq_getElem hj] at hx
        exact (Option.some.inj hx).symm
      subst hx'
      have hjc : j < cs.size := by rw [sorted_len] at hj; omega
      refine ⟨.int .i64 (sorted l)[j], ?_, .v, rfl⟩
      simp [Go.Sort.putCells, hj, hjc])
  obtain ⟨hE2, hO2⟩ := own_grow hO1 os
  exact ⟨G, _, .tup [], hE.trans hE2, hO2, rep_tupV [], .mk _⟩
/-! what it does -/
theorem sorted_mem (l : List Int) (x : Int) : x ∈ sorted l ↔ x ∈ l := (List.mergeSort_perm l _).mem_iff
theorem sorted_up (l : List Int) : (sorted l).Pairwise (· ≤ ·) := by
  have := List.pairwise_mergeSort (le := fun x y : Int => decide (x ≤ y)) (fun a b c h1 h2 => by simp at *; omega) (fun a b => by simp; omega) l
  exact this.imp (fun h => of_decide_eq_true h)
theorem up_eq : ∀ {l m : List Int}, l.Pairwise (· < ·) → m.Pairwise (· < ·) → (∀ x, x ∈ l ↔ x ∈ m) → l = m
  | [], [], _, _, _ => rfl
  | [], y :: m, _, _, h => absurd ((h y).2 List.mem_cons_self) (by simp)
  | x :: l, [], _, _, h => absurd ((h x).1 List.mem_cons_self) (by simp)
  | x :: l, y :: m, hl, hm, h => by
    obtain ⟨l1, l2⟩ := List.pairwise_cons.1 hl
    obtain ⟨m1, m2⟩ := List.pairwise_cons.1 hm
    have hxy : x = y := by
      have hx := (h x).1 List.mem_cons_self
      have hy := (h y).2 List.mem_cons_self
      rcases List.mem_cons.1 hx with e | hx
      · exact e
      rcases List.mem_cons.1 hy with e | hy
      · exact e.symm
      have := m1 x hx
      have := l1 y hy
      omega
    subst hxy
    rw [up_eq l2 m2 fun z => ?_]
    constructor
    · intro hz
      have h1 := l1 z hz
      rcases List.mem_cons.1 ((h z).1 (List.mem_cons_of_mem _ hz)) with e | h2
      · omega
      · exact h2
    · intro hz
      have h1 := m1 z hz
      rcases List.mem_cons.1 ((h z).2 (List.mem_cons_of_mem _ hz)) with e | h2
      · omega
      · exact h2
theorem sorted_strict {l : List Int} (h : l.Nodup) : (sorted l).Pairwise (· < ·) := by
  have hn : (sorted l).Nodup := ((List.mergeSort_perm l _).nodup_iff).2 h
  exact ((sorted_up l).and hn).imp fun ⟨h1, h2⟩ => by omega
end Go.Proofs.Ytaadamobapnfbaa
/- flow.Graph.Reach. -/
set_option linter.unusedVariables false
set_option linter.unusedSimpArgs false
set_option maxRecDepth 100000
namespace Go.Proofs.Ytaadamobapnfbaa
open Go Go.Abs
theorem reachX_walk (first : List Int) (nx : List (List Int)) (mN n : Nat) :
    ACalls Try.prog 26 [.agg [.il 1 none (ints first), .sl 1 mN 0 n], vi (-1)] [.mu mN (nx.map nxc)] (RV (.v (.slice none 0 0)) [.mu mN (nx.map nxc)]) := by
  refine ACalls.of_code (c := _) Try.func26 rfl Try.ntmps26 (Nat.le_of_ble_eq_true rfl) ?_
  refine ACode.seq (ACode.region ?_)
  refine ASeq.op rfl rfl (AOp.boxP rfl rfl rfl (fun _ => rfl) (fun _ => ?_))
  refine ASeq.q rfl rfl (QOp.assign rfl rfl) ?_
  refine ASeq.nil ?_
  rename_i m2
  refine ACode.seq (ACode.seq (ACode.region ?_))
  refine ASeq.q rfl rfl (QOp.move rfl rfl) ?_
  refine ASeq.q rfl rfl (QOp.cmp rfl rfl rfl rfl) ?_
  refine ASeq.nil ?_
  refine AExit.then_normal ?_
  refine ACode.cond _ rfl (fun hb => ?_) (fun hb => by cases hb)
  refine ACode.seq (ACode.region ?_)
  refine ASeq.q rfl rfl (QOp.assign rfl rfl) ?_
  refine ASeq.nil ?_
  refine ACode.ret (AExit.then_ret ?_)
  refine bodyQ_ret 1 (.tmp rfl .nil) rfl ?_
  exact .mk
inductive RReach (nx : List (List Int)) (mN : Nat) (a : Int) : AOut → List Abs.Item → Prop
  | mk (mo : Nat) (l : List Int) (up : l.Pairwise (· < ·)) (hl : ∀ y, y ∈ l ↔ (y = a ∨ Rc nx a y) ∧ y ≠ -1) : RReach nx mN a (.ret (.sl 1 mo 0 l.length)) [.mu mo (l.map vi), .mu mN (nx.map nxc)]
/-- what has been told of a map's keys, and what is to come -/
structure Keys (n0 : Nat) (s : List Int) (out : List Int) (left : Lit → Bool) (cnt : Nat) : Prop where
  done : ∀ y ∈ out, y ≠ -1 ∧ y ∈ s ∧ left (.int .i64 y) = false
  all : ∀ y ∈ s, y ≠ -1 → y ∈ out ∨ left (.int .i64 y) = true
  sub : ∀ y : Int, left (.int .i64 y) = true → y ∈ s
  nodup : out.Nodup
  len : out.length + cnt ≤ n0
theorem same_int (x y : Int) : (Lit.int .i64 x).sameKey (.int .i64 y) = (x == y) := by
  simp only [Lit.sameKey, true_and]
  by_cases h : x = y <;> simp [h]
theorem Keys.init {s : List Int} {D : DataW Unit} (h : SeenD s D) {n0 : Nat} (hn : Maps.size D ≤ n0) : Keys n0 s [] (Maps.has D) (Maps.size D) :=
  ⟨fun y hy => by simp at hy, fun y hy _ => .inr (by rw [h.1.2 y]; simpa using hy), fun y hy => by rw [h.1.2 y] at hy; simpa using hy, List.nodup_nil, by simpa using hn⟩
theorem Keys.take {n0 : Nat} {s out : List Int} {left : Lit → Bool} {cnt cnt' : Nat} (h : Keys n0 s out left cnt) {x : Int} (hx : left (.int .i64 x) = true) (hc : cnt' < cnt) (h1 : x ≠ -1) :
    Keys n0 s (out ++ [x]) (fun z => left z && !z.sameKey (.int .i64 x)) cnt' := by
  refine ⟨fun y hy => ?_, fun y hy hne => ?_, fun y hy => ?_, ?_, by have := h.len; simp; omega⟩
  · rcases List.mem_append.1 hy with hy | hy
    · obtain ⟨a, b, c⟩ := h.done y hy
      exact ⟨a, b, by simp [c]⟩
    · rw [List.mem_singleton] at hy; subst hy
      exact ⟨h1, h.sub _ hx, by simp [same_int]⟩
  · rcases h.all y hy hne with g | g
    · exact .inl (List.mem_append_left _ g)
    · by_cases e : y = x
      · exact .inl (by simp [e])
      · exact .inr (by simp [same_int, g, e])
  · simp only [Bool.and_eq_true] at hy
    exact h.sub y hy.1
  · refine List.nodup_append.2 ⟨h.nodup, by simp, fun a ha b hb => ?_⟩
    rw [List.mem_singleton] at hb; subst hb
    intro e; subst e
    have := (h.done _ ha).2.2
    rw [hx] at this; cases this
theorem Keys.pass {n0 : Nat} {s out : List Int} {left : Lit → Bool} {cnt cnt' : Nat} (h : Keys n0 s out left cnt) (hc : cnt' < cnt) :
    Keys n0 s out (fun z => left z && !z.sameKey (.int .i64 (-1))) cnt' := by
  refine ⟨fun y hy => ?_, fun y hy hne => ?_, fun y hy => ?_, h.nodup, by have := h.len; omega⟩
  · obtain ⟨a, b, c⟩ := h.done y hy
    exact ⟨a, b, by simp [c]⟩
  · rcases h.all y hy hne with g | g
    · exact .inl g
    · exact .inr (by simp [same_int, g, hne])
  · simp only [Bool.and_eq_true] at hy
    exact h.sub y hy.1
theorem Keys.last {n0 : Nat} {s out : List Int} {left : Lit → Bool} {cnt : Nat} (h : Keys n0 s out left cnt) (hl : ∀ k, left k = false) (y : Int) : y ∈ out ↔ y ∈ s ∧ y ≠ -1 := by
  constructor
  · intro hy; obtain ⟨a, b, _⟩ := h.done y hy; exact ⟨b, a⟩
  · rintro ⟨a, b⟩
    rcases h.all y a b with g | g
    · exact g
    · rw [hl] at g; cases g
theorem TT3_size : (TT 3).size = 1 := rfl
set_option maxHeartbeats 4000000 in
theorem reach_walk (first : List Int) (nx : List (List Int)) (mN n : Nat) (h : NxOk nx n) (a : Int) (ha0 : 0 ≤ a) (ha1 : a < n) :
    ACalls Try.prog 26 [.agg [.il 1 none (ints first), .sl 1 mN 0 n], vi a] [.mu mN (nx.map nxc)] (RReach nx mN a) := by
  have hww := walk_walk first nx mN n h a ha0 ha1
  have hn := h.len
  have hbig := h.big
  have hwf := wf64 (by omega : -1 ≤ a) (by omega : a < 1048577)
  refine ACalls.of_code (c := _) Try.func26 rfl Try.ntmps26 (Nat.le_of_ble_eq_true rfl) ?_
  refine ACode.seq (ACode.region ?_)
  refine ASeq.op rfl rfl (AOp.boxP rfl rfl rfl (fun _ => rfl) (fun _ => ?_))
  refine ASeq.q rfl rfl (QOp.assign rfl rfl) ?_
  refine ASeq.nil ?_
  rename_i m2
  refine ACode.seq (ACode.seq (ACode.region ?_))
  refine ASeq.q rfl rfl (QOp.move rfl rfl) ?_
  refine ASeq.q rfl rfl (QOp.cmp rfl rfl rfl rfl) ?_
  refine ASeq.nil ?_
  refine AExit.then_normal ?_
  refine ACode.cond _ rfl (fun hb => by have : a = -1 := by simpa using hb
                                        omega) (fun hb => ?_)
  refine ACode.skip (ACode.seq (ACode.region ?_))
  refine ASeq.q rfl rfl (QOp.loadM 1 rfl rfl rfl (tok _ rfl) rfl) ?_
  refine ASeq.q rfl rfl (QOp.move rfl rfl) ?_
  refine ASeq.op rfl rfl (AOp.callP 1 rfl (by kernel_rfl) rfl rfl rfl hww ?_ (by rintro _ _ ⟨⟩))
  rintro _ _ ⟨mS, cnt, s, Dm, hs, hD, hc⟩
  refine ASeq.q rfl rfl (QOp.assign rfl rfl) ?_
  refine ASeq.nil ?_
  refine ACode.seq (ACode.region ?_)
  refine ASeq.q rfl rfl (QOp.move rfl rfl) ?_
  refine ASeq.q rfl rfl (QOp.move rfl rfl) ?_
  refine ASeq.op0 rfl rfl (AOp.mapUpdateB [_] [_] rfl rfl rfl rfl rfl (tok _ rfl) rfl und3 und4 hwf (by unfold maxLen; omega) ?_)
  have hD' := hD.put a
  refine ASeq.nil ?_
  refine ACode.seq (ACode.region ?_)
  refine ASeq.q rfl rfl (QOp.assign rfl rfl) ?_
  refine ASeq.nil ?_
  refine ACode.seq (ACode.seq (ACode.region ?_))
  refine ASeq.q rfl rfl (QOp.move rfl rfl) ?_
  refine ASeq.op rfl rfl (AOp.rangeM [_] [_] rfl rfl rfl (tok _ rfl) rfl und3 (fun mi b ob oi hRO hsz => ?_))
  refine ASeq.nil ?_
  refine ACode.block ?_
  refine ACode.newVirt (fun mo0 => ?_)
  refine ACode.slot 6 rfl (AV.Le.nilM 1 mo0 0) ?_
  refine ACode.loopP (fun (x : List Int × (Lit → Bool) × Nat × Obj × Nat) => [(16, .itv mi mS b), (6, .sl 1 x.2.2.2.2 0 x.1.length)])
    (fun x => [.mu mN (nx.map nxc), .ob mS (fun o => o = ob), .mu m2 [.il 1 none (ints first), .sl 1 mN 0 n], .ob mi (fun o => o = x.2.2.2.1), .mu x.2.2.2.2 (x.1.map vi)]) (fun x => x.2.2.1)
    (fun x => RangesO Try.prog 3 4 b (cnt + 1) (Dm.put (.int .i64 a) (.lit (.bool true))) x.2.1 x.2.2.1 ob x.2.2.2.1 ∧ Keys (cnt + 1) (a :: s) x.1 x.2.1 x.2.2.1) ([], Maps.has (Dm.put (.int .i64 a) (.lit (.bool true))), Maps.size (Dm.put (.int .i64 a) (.lit (.bool true))), oi, mo0)
    ⟨hRO, .init hD' hsz⟩ (.cons rfl (.cons rfl .nil)) 5 rfl ?_
  rintro ⟨out, left, ct, oi, mo⟩ ⟨hRO, hK⟩
  dsimp only at hRO hK ⊢
  refine ACode.seq (ACode.region ?_)
  refine ASeq.op rfl rfl (AOp.nextM 1 [_, _, _] [_] rfl rfl rfl rfl hRO und3 (fun hc0 hl => ?_) (fun x v ct' oi' hwx hlx hRO' hlt hen => ?_))
  · refine ASeq.q rfl rfl (QOp.extract rfl rfl rfl) ?_
    refine ASeq.nil ?_
    refine ACode.seq ?_
    refine ACode.cond _ rfl (fun hb => by cases hb) (fun hb => ?_)
    refine ACode.exit (ACode.seq (ACode.region ?_))
    have hlast := hK.last hl
    have hao : a ∈ out := (hlast a).2 ⟨by simp, by omega⟩
    have hlen := hK.len
    have hpos : 0 < out.length := List.length_pos_of_mem hao
    have hso := sort_ok out hpos (by omega) mo
    refine ASeq.q rfl rfl (QOp.move rfl rfl) ?_
    refine ASeq.op rfl rfl (AOp.callP 5 rfl (by kernel_rfl) rfl rfl rfl (ACalls.perm (List.perm_append_comm (l₁ := [_, _, _, _]) (l₂ := [_])) hso.frame) ?_ (by rintro _ _ ⟨R1, rfl, ⟨⟩⟩))
    rintro _ _ ⟨R1, rfl, ⟨r⟩⟩
    refine ASeq.nil ?_
    refine ACode.seq (ACode.region ?_)
    refine ASeq.q rfl rfl (QOp.move rfl rfl) ?_
    refine ASeq.q rfl rfl (QOp.assign rfl rfl) ?_
    refine ASeq.nil ?_
    refine ACode.ret ?_
    refine bodyQ_ret 2 (.tmp rfl .nil) rfl ?_
    have hm := RReach.mk (nx := nx) (mN := mN) (a := a) mo (sorted out) (sorted_strict hK.nodup) (fun y => by rw [sorted_mem, hlast y, List.mem_cons, hs])
    rw [sorted_len] at hm
    exact hm
  · have hlen := hK.len
    refine ASeq.q rfl rfl (QOp.extract rfl rfl rfl) ?_
    refine ASeq.nil ?_
    refine ACode.seq ?_
    refine ACode.cond _ rfl (fun hb => ?_) (fun hb => by cases hb)
    refine ACode.skip (ACode.block (ACode.seq (ACode.region ?_)))
    refine ASeq.q rfl rfl (QOp.entryM 1 3 rfl rfl rfl rfl hen) ?_
    refine ASeq.q rfl rfl (QOp.extract rfl rfl rfl) ?_
    refine ASeq.q rfl rfl (QOp.assign rfl rfl) ?_
    refine ASeq.nil ?_
    refine ACode.seq (ACode.region ?_)
    refine ASeq.q rfl rfl (QOp.move rfl rfl) ?_
    refine ASeq.q rfl rfl (QOp.cmp rfl rfl rfl rfl) ?_
    refine ASeq.nil ?_
    refine AExit.then_normal ?_
    refine ACode.cond _ rfl (fun hb => ?_) (fun hb => ?_)
    · have hne : x ≠ -1 := by simpa using hb
      refine ACode.region ?_
      refine ASeq.q rfl rfl (QOp.move rfl rfl) ?_
      refine ASeq.q rfl rfl (QOp.move rfl rfl) ?_
      refine ASeq.op rfl rfl (AOp.buildSliceR rfl (tok _ rfl) rfl (tok _ rfl) (by decide) rfl (by decide) rfl rfl rfl rfl ?_)
      refine ASeq.op rfl rfl (AOp.appendMP 4 (e := 3) (tde := TT 3) rfl rfl rfl rfl (tok _ rfl) rfl (tok _ rfl) (tok _ rfl) rfl (by decide) rfl rfl (fun _ => rfl) (by rw [List.length_map]; exact (Nat.mul_one _).symm) (ints_row1 [x]) (by simp only [List.length_cons, List.length_nil]; omega) rfl (fun _ => ?_))
      rename_i mo'
      refine ASeq.q rfl rfl (QOp.assign rfl rfl) ?_
      refine ASeq.nil ?_
      refine AExit.in_normal (AExit.then_normal ?_)
      refine ⟨(out ++ [x], _, ct', oi', mo'), 5, ⟨hRO', hK.take hlx hlt hne⟩, hlt, .cons rfl (.consE rfl (by show AV.sl 1 mo' 0 (out.length + 1) = _; rw [List.length_append]; rfl) .nil), ?_⟩
      show some [_, _, _, _, Abs.Item.mu mo' (out.map vi ++ [[vi x]].flatten)] = _
      rw [show out.map vi ++ [[vi x]].flatten = (out ++ [x]).map vi by rw [List.map_append]; rfl]
    · have hxe : x = -1 := by simpa using hb
      subst hxe
      refine ACode.skip ?_
      refine AExit.in_normal (AExit.then_normal ?_)
      exact ⟨(out, _, ct', oi', mo), 5, ⟨hRO', hK.pass hlt⟩, hlt, .cons rfl (.cons rfl .nil), rfl⟩
end Go.Proofs.Ytaadamobapnfbaa
/- Some way leads to the exit. -/
set_option linter.unusedVariables false
set_option linter.unusedSimpArgs false
namespace Go.Proofs.Ytaadamobapnfbaa
open Go Go.Abs
/-- the exit, or what leads to it -/
def Ex1 (nx : List (List Int)) (x : Int) : Prop := x = -1 ∨ Rc nx x (-1)
def ExC (nx : List (List Int)) (d : Ctx) : Prop := Ex1 nx d.behind ∧ (0 ≤ d.loop → Ex1 nx d.loop ∧ Ex1 nx d.lb)
theorem FlowOk.outs {t : Tree} {R : Nat → Nat} (hR : FR t R) {nx : List (List Int)} (h : FlowOk t nx) {k : Nat} {d : Ctx} (hd : InF t k d) : outs nx d.i = way t d := by
  obtain ⟨lo, o1, _⟩ := hR.own hd
  have h0 := o1.i0
  unfold Go.Proofs.Ytaadamobapnfbaa.outs
  rw [if_neg (by omega), List.getD_eq_getElem?_getD, h.ways k d hd]; rfl
theorem rc_of {nx : List (List Int)} {a x : Int} (h : x ∈ outs nx a) (hx : Ex1 nx x) : Rc nx a (-1) := by
  rcases hx with rfl | hx
  · exact .one h
  · exact (Rc.one h).trans hx
theorem firstOf_get (L : List Int) (n : Nat) (B : Int) : (n < L.length ∧ firstOf (L.drop n) B = L.getD n 0) ∨ (L.length ≤ n ∧ firstOf (L.drop n) B = B) := by
  by_cases h : n < L.length
  · refine .inl ⟨h, ?_⟩
    rw [List.drop_eq_getElem_cons h, List.getD_eq_getElem?_getD, List.getElem?_eq_getElem h]; rfl
  · refine .inr ⟨by omega, ?_⟩
    rw [List.drop_eq_nil_of_le (by omega)]; rfl
/-- of a list all, if of each one -/
theorem list_exits {nx : List (List Int)} (L : List Int) (inn loop B lb : Int) (hB : Ex1 nx B) (hl : 0 ≤ loop → Ex1 nx loop ∧ Ex1 nx lb)
    (hS : ∀ j, j < L.length → ExC nx (.at_ L j inn loop B lb) → Rc nx (L.getD j 0) (-1)) : ∀ (m j : Nat), L.length = j + m → j < L.length → ExC nx (.at_ L j inn loop B lb) ∧ Rc nx (L.getD j 0) (-1)
  | 0, j, hm, hj => by omega
  | m + 1, j, hm, hj => by
    have hG : ExC nx (.at_ L j inn loop B lb) := by
      refine ⟨?_, hl⟩
      show Ex1 nx (firstOf (L.drop (j + 1)) B)
      rcases firstOf_get L (j + 1) B with ⟨h1, h2⟩ | ⟨h1, h2⟩
      · rw [h2]; exact .inr (list_exits L inn loop B lb hB hl hS m (j + 1) (by omega) h1).2
      · rw [h2]; exact hB
    exact ⟨hG, hS j hj hG⟩
theorem stm_exits {t : Tree} {R : Nat → Nat} (hR : FR t R) (hJ : JumpsOk t) {nx : List (List Int)} (h : FlowOk t nx) {k : Nat} : ∀ (n : Nat) (d : Ctx), d.i < n → InF t k d → ExC nx d → Rc nx d.i (-1)
  | 0, d, hn, hd, hG => by
    obtain ⟨lo, o1, _⟩ := hR.own hd
    have := o1.i0
    omega
  | n + 1, d, hn, hd, hG => by
    have ho := h.outs hR hd
    obtain ⟨lo, o1, _⟩ := hR.own hd
    obtain ⟨g, q, hg, hq, hoc⟩ := id hd
    have key : ∀ x ∈ way t d, Ex1 nx x → Rc nx d.i (-1) := fun x hx he => rc_of (by rw [ho]; exact hx) he
    unfold way at key
    split at key
    · rename_i h5
      refine key _ List.mem_cons_self ?_
      have hf := firstOf_get (t.stm d.i).thn 0 d.behind
      rw [List.drop_zero] at hf
      rcases hf with ⟨h1, h2⟩ | ⟨h1, h2⟩
      · rw [h2]
        have hsub : ∀ j, d.thn t j = .at_ (t.stm d.i).thn j d.i d.loop d.behind d.lb := fun j => by
          unfold Ctx.thn Ctx.sub; rw [if_neg (by omega)]
        refine .inr (list_exits (t.stm d.i).thn d.i d.loop d.behind d.lb hG.1 hG.2 (fun j hj hGj => ?_) (t.stm d.i).thn.length 0 (by omega) h1).2
        obtain ⟨lo', p1, p2, p3⟩ := o1.thn hj
        have := stm_exits hR hJ h n (d.thn t j) (by omega) ⟨g, q, hg, hq, .thn hoc j hj⟩ (by rw [hsub]; exact hGj)
        rw [hsub] at this
        exact this
      · rw [h2]; exact hG.1
    split at key
    · exact key _ (List.mem_cons_of_mem _ List.mem_cons_self) hG.1
    split at key
    · rename_i h7
      exact key _ List.mem_cons_self (hG.2 (hJ k d hd (.inl h7))).2
    split at key
    · rename_i h8
      exact key _ List.mem_cons_self (hG.2 (hJ k d hd (.inr h8))).1
    split at key
    · exact key _ List.mem_cons_self (.inl rfl)
    · exact key _ List.mem_cons_self hG.1
theorem beh_exits {t : Tree} {R : Nat → Nat} (hR : FR t R) (hJ : JumpsOk t) {nx : List (List Int)} (h : FlowOk t nx) {k : Nat} {d : Ctx} (hb : Beh t k d) : ExC nx d := by
  have stm : ∀ d, InF t k d → ExC nx d → Rc nx d.i (-1) := fun d hd hG => by
    obtain ⟨lo, o1, _⟩ := hR.own hd
    exact stm_exits hR hJ h (d.i.toNat + 1) d (by have := o1.i0; omega) hd hG
  have sub : ∀ (d : Ctx) (M : List Int) (j : Nat), j < M.length → InF t k d → (∀ j, j < M.length → InF t k (d.sub t M j)) → ExC nx d → ExC nx (d.sub t M j) := by
    intro d M j hj hin hM hG
    have hi : Ex1 nx d.i := .inr (stm d hin hG)
    unfold Ctx.sub at hM ⊢
    split
    · rename_i h6
      exact (list_exits M d.i d.i d.i d.behind hi (fun _ => ⟨hi, hG.1⟩) (fun j' hj' hGj => by
        have := hM j' hj'
        rw [if_pos h6] at this
        exact stm _ this hGj) (M.length - j) j (by omega) hj).1
    · rename_i h6
      exact (list_exits M d.i d.loop d.behind d.lb hG.1 hG.2 (fun j' hj' hGj => by
        have := hM j' hj'
        rw [if_neg h6] at this
        exact stm _ this hGj) (M.length - j) j (by omega) hj).1
  induction hb with
  | @top g j hg hj hb =>
    exact (list_exits g.body (-1) (-1) (-1) (-1) (.inl rfl) (fun h0 => absurd h0 (by decide)) (fun j' hj' hGj => stm (topC g j') ⟨g, j', hg, hj', .self⟩ hGj) (g.body.length - j) j (by omega) hj).1
  | @thn d j h1 hin hi hj hb ih =>
    obtain ⟨g, q, hg, hq, hoc⟩ := id hin
    exact sub d _ j hj hin (fun j' hj' => ⟨g, q, hg, hq, .thn hoc j' hj'⟩) ih
  | @els d j h1 hin hi hj hb ih =>
    obtain ⟨g, q, hg, hq, hoc⟩ := id hin
    exact sub d _ j hj hin (fun j' hj' => ⟨g, q, hg, hq, .els hoc j' hj'⟩) ih
/-- each statement leads to the exit -/
theorem exits {t : Tree} {R : Nat → Nat} (ht : TreeOk t) (hR : FR t R) (hJ : JumpsOk t) {nx : List (List Int)} (h : FlowOk t nx) {a : Int} (h0 : 0 ≤ a) (h1 : a < t.stmts.length) : Rc nx a (-1) := by
  obtain ⟨k, d, hk, hd, he⟩ := hR.ex (i := a.toNat) (by omega)
  have e : d.i = a := by omega
  have hG := beh_exits hR hJ h (hd.beh ht hR)
  rw [← e]
  exact stm_exits hR hJ h (d.i.toNat + 1) d (by omega) hd hG
end Go.Proofs.Ytaadamobapnfbaa
/- FlowBacks: the walk. -/
set_option linter.unusedVariables false
set_option linter.unusedSimpArgs false
set_option maxRecDepth 1000000
namespace Go.Proofs.Ytaadamobapnfbaa
open Go Go.Abs
theorem RightT.back {s : ByteArray} {t : Tree} {R : Nat → Nat} (h : RightT s t R) {nx : List (List Int)} (hnx : FlowOk t nx) (mN : Nat) :
    ACalls Try.prog 20 [.agg [.il 1 none (ints (firsts t)), .sl 1 mN 0 t.stmts.length]] [.mu mN (nx.map nxc)] (RB mN t.stmts.length nx) := by
  obtain ⟨ht, hst, hJ, hfu⟩ := h.ok
  refine back_walk _ _ _ _ hnx.len ht.big.2.1 (fun w hw => ?_) (fun w hw x hx => ?_)
  · obtain ⟨i, hi, rfl⟩ := List.getElem_of_mem hw
    exact hnx.small h.fr hi
  · obtain ⟨i, hi, rfl⟩ := List.getElem_of_mem hw
    obtain ⟨k, _, hg⟩ := hnx.leads ht h.fr hJ hi
    exact (hg x hx).range h.fr
theorem back_get {nx : List (List Int)} {i : Nat} (h : i < nx.length) : ((backOf nx).map nxc)[0 + i * 1]? = some (nxc (backL nx nx.length (i : Int))) := by
  unfold backOf
  rw [Nat.zero_add, Nat.mul_one, List.getElem?_map, List.getElem?_map, List.getElem?_range h]; rfl
theorem take_contains {w : List Int} {q : Nat} (h : q < w.length) (j : Int) : (w.take (q + 1)).contains j = ((w.take q).contains j || w[q] == j) := by
  rw [List.take_add_one, List.getElem?_eq_getElem h, Option.toList_some, Bool.eq_iff_iff]
  simp only [List.contains_iff_mem, Bool.or_eq_true, beq_iff_eq, List.mem_append, List.mem_singleton]
  constructor
  · rintro (h | h)
    · exact .inl h
    · exact .inr h.symm
  · rintro (h | h)
    · exact .inl h
    · exact .inr h.symm
set_option maxHeartbeats 2000000 in
theorem flowBacks_walk (s : ByteArray) : ACalls Try.prog 5 [vs s] [] (RV (.v (.bool true)) []) := by
  have haw := awake7_walk
  have hri := right_walk s
  refine ACalls.of_code (c := _) Try.func5 rfl Try.ntmps5 (Nat.le_of_ble_eq_true rfl) ?_
  refine ACode.newTok (fun τ => ?_)
  refine ACode.seq (ACode.region ?_)
  refine ASeq.q rfl rfl (QOp.assign rfl rfl) ?_
  refine ASeq.nil ?_
  refine ACode.seq (ACode.seq (ACode.region ?_))
  refine ASeq.op rfl rfl (AOp.callP 0 rfl (by kernel_rfl) rfl rfl rfl (haw) ?_ (by rintro _ _ ⟨⟩))
  rintro _ _ ⟨⟩
  refine ASeq.q rfl rfl (QOp.not rfl rfl) ?_
  refine ASeq.nil ?_
  refine AExit.then_normal ?_
  refine ACode.cond _ rfl (fun hb => by cases hb) (fun _ => ?_)
  refine ACode.skip (ACode.seq (ACode.region ?_))
  refine ASeq.q rfl rfl (QOp.move rfl rfl) ?_
  refine ASeq.op rfl rfl (AOp.callP 0 rfl (by kernel_rfl) rfl rfl rfl (hri) ?_ (by rintro _ _ ⟨⟩))
  rintro _ _ ⟨⟩
  refine ASeq.q rfl rfl (QOp.move rfl rfl) ?_
  refine ASeq.q rfl rfl (QOp.extract rfl rfl rfl) ?_
  refine ASeq.q rfl rfl (QOp.extract rfl rfl rfl) ?_
  refine ASeq.op rfl rfl (AOp.allocP rfl (tok _ rfl) rfl rfl (fun _ => rfl) (fun _ => ?_))
  refine ASeq.op0 rfl rfl (AOp.storeP 1 rfl rfl rfl rfl (tok _ rfl) rfl rfl rfl rfl ?_)
  refine ASeq.q rfl rfl (QOp.assign rfl rfl) ?_
  refine ASeq.nil ?_
  rename_i m3
  refine ACode.seq (ACode.seq (ACode.region ?_))
  refine ASeq.q rfl rfl (QOp.move rfl rfl) ?_
  refine ASeq.q rfl rfl (QOp.not rfl rfl) ?_
  refine ASeq.nil ?_
  refine AExit.then_normal ?_
  refine ACode.cond _ rfl (fun hb => ?_) (fun hb => ?_)
  · refine ACode.seq (ACode.region ?_)
    refine ASeq.q rfl rfl (QOp.assign rfl rfl) ?_
    refine ASeq.nil ?_
    refine ACode.ret (AExit.then_ret ?_)
    refine bodyQ_ret 0 (.tmp rfl .nil) rfl ?_
    exact .mk
  have hright : (rightOf s).2 = true := by simpa using hb
  obtain ⟨R, hT⟩ := rightT hright
  have hof := hT.of
  have hal := hT.all
  have hR := hT.fr
  have hba := @RightT.back _ _ _ hT
  obtain ⟨ht, hst, hJ, hfu⟩ := hT.ok
  generalize (rightOf s).1 = t at *
  have hbig := ht.big
  have hSl : (t.stmts.map St.cells).length = t.stmts.length := List.length_map ..
  refine ACode.skip (ACode.seq (ACode.region ?_))
  refine ASeq.q rfl rfl (QOp.loadM 1 rfl rfl rfl (tok _ rfl) rfl) ?_
  refine ASeq.op rfl rfl (AOp.callP 0 rfl (by kernel_rfl) rfl rfl rfl hof ?_ (by rintro _ _ ⟨⟩))
  rintro _ _ ⟨mN, nx, hnx⟩
  have hlen := hnx.len
  refine ASeq.op rfl rfl (AOp.allocP rfl (tok _ rfl) rfl rfl (fun _ => rfl) (fun _ => ?_))
  refine ASeq.op0 rfl rfl (AOp.storeP 3 rfl rfl rfl rfl (tok _ rfl) rfl rfl rfl rfl ?_)
  refine ASeq.nil ?_
  rename_i m5
  refine ACode.seq (ACode.region ?_)
  refine ASeq.q rfl rfl (QOp.loadM 3 rfl rfl rfl (tok _ rfl) rfl) ?_
  refine ASeq.op rfl rfl (AOp.callP 1 rfl (by kernel_rfl) rfl rfl rfl (hba hnx mN) ?_ (by rintro _ _ ⟨⟩))
  rintro _ _ ⟨mO⟩
  refine ASeq.q rfl rfl (QOp.assign rfl rfl) ?_
  refine ASeq.nil ?_
  refine ACode.seq (ACode.seq (ACode.region ?_))
  have e1 : ((t.stmts.length : Int) != ((t.stmts.map St.cells).length : Int)) = false := by rw [hSl]; simp
  refine ASeq.q rfl rfl (QOp.move rfl rfl) ?_
  refine ASeq.q rfl rfl (QOp.lenM rfl rfl (tok _ rfl) rfl) ?_
  refine ASeq.q rfl rfl (QOp.fieldM rfl rfl (tok _ rfl) rfl rfl (by decide) rfl) ?_
  refine ASeq.q rfl rfl (QOp.loadM 3 rfl rfl rfl (tok _ rfl) rfl) ?_
  refine ASeq.q rfl rfl (QOp.lenI rfl rfl (tok _ rfl) rfl) ?_
  refine ASeq.q rfl rfl (QOp.cmp rfl rfl rfl rfl) ?_
  refine ASeq.nil ?_
  refine AExit.then_normal ?_
  refine ACode.cond _ rfl (fun hb => by rw [e1] at hb; cases hb) (fun _ => ?_)
  refine ACode.skip (ACode.seq (ACode.region ?_))
  refine ASeq.q rfl rfl (QOp.loadM 3 rfl rfl rfl (tok _ rfl) rfl) ?_
  refine ASeq.op rfl rfl (AOp.callP 0 rfl (by kernel_rfl) rfl rfl rfl hal ?_ (by rintro _ _ ⟨⟩))
  rintro _ _ ⟨ws, hwl, hws⟩
  have hsame := FR.same hnx hwl hws
  subst hsame
  have hnl := nxrows_len nx
  refine ASeq.q rfl rfl (QOp.assign rfl rfl) ?_
  refine ASeq.nil ?_
  refine ACode.seq (ACode.seq (ACode.region ?_))
  refine ASeq.q rfl rfl (QOp.move rfl rfl) ?_
  refine ASeq.q rfl rfl (QOp.lenM rfl rfl (tok _ rfl) rfl) ?_
  refine ASeq.q rfl rfl (QOp.move rfl rfl) ?_
  refine ASeq.nil ?_
  refine ACode.block ?_
  refine ACode.loopP (fun (x : Nat × Nat) => [(6, .sl 1 mO 0 t.stmts.length), (7, .il 1 none (nxrows nx)), (36, vi (t.stmts.length : Int)), (37, vi x.1)])
    (fun x => [.mu mN (nx.map nxc), .mu mO ((backOf nx).map nxc), .tk x.2]) (fun x => t.stmts.length - x.1) (fun x => x.1 ≤ t.stmts.length) (0, τ) (Nat.zero_le _)
    (.cons rfl (.cons rfl (.cons rfl (.cons rfl .nil)))) 3 rfl ?_
  rintro ⟨i, τ⟩ hi
  dsimp only at hi
  refine ACode.seq (ACode.region ?_)
  refine ASeq.q rfl rfl (QOp.cmp rfl rfl rfl rfl) ?_
  refine ASeq.nil ?_
  refine ACode.seq ?_
  refine ACode.cond _ rfl (fun hb => ?_) (fun hb => ?_)
  · have hlt : i < t.stmts.length := by have := of_decide_eq_true hb; omega
    have hln : i < nx.length := by omega
    have g2 := back_get hln
    refine ACode.skip (ACode.seq (ACode.block (ACode.seq (ACode.region ?_))))
    refine ASeq.q rfl rfl (QOp.move rfl rfl) ?_
    refine ASeq.q rfl rfl (QOp.assign rfl rfl) ?_
    refine ASeq.nil ?_
    refine ACode.seq (ACode.region ?_)
    refine ASeq.q rfl rfl (QOp.assign rfl rfl) ?_
    refine ASeq.nil ?_
    refine ACode.seq (ACode.seq (ACode.region ?_))
    refine ASeq.slot 9 rfl (.nilT 1 (some τ)) ?_
    refine ASeq.q rfl rfl (QOp.move rfl rfl) ?_
    refine ASeq.q rfl rfl (QOp.lenI rfl rfl (tok _ rfl) rfl) ?_
    refine ASeq.q rfl rfl (QOp.move rfl rfl) ?_
    refine ASeq.nil ?_
    refine ACode.block ?_
    refine ACode.loopP (fun (x : Nat × Nat) => [(6, .sl 1 mO 0 t.stmts.length), (7, .il 1 none (nxrows nx)), (36, vi (t.stmts.length : Int)), (37, vi i), (8, vi i), (9, .il 1 (some x.2) (ints (backL nx x.1 i))), (41, vi ((nxrows nx).length : Int)), (42, vi x.1)])
      (fun x => [.mu mN (nx.map nxc), .mu mO ((backOf nx).map nxc), .tk x.2]) (fun x => nx.length - x.1) (fun x => x.1 ≤ nx.length) (0, τ) (Nat.zero_le _)
      (.cons rfl (.cons rfl (.cons rfl (.cons rfl (.cons rfl (.cons rfl (.cons rfl (.cons rfl .nil)))))))) 3 rfl ?_
    rintro ⟨f, τ⟩ hf
    dsimp only at hf
    refine ACode.seq (ACode.region ?_)
    refine ASeq.q rfl rfl (QOp.cmp rfl rfl rfl rfl) ?_
    refine ASeq.nil ?_
    refine ACode.seq ?_
    refine ACode.cond _ rfl (fun hb => ?_) (fun hb => ?_)
    · have hlf : f < nx.length := by have := of_decide_eq_true hb; rw [hnl] at this; omega
      have g3 := nxrows_get hlf
      have hsm := hnx.small hR hlf
      have hbs := backL_succ nx hlf (i : Int)
      have hil := ints_len nx[f]
      generalize nx[f] = w at g3 hsm hbs hil
      refine ACode.skip (ACode.seq (ACode.block (ACode.seq (ACode.region ?_))))
      refine ASeq.q rfl rfl (QOp.move rfl rfl) ?_
      refine ASeq.q rfl rfl (QOp.assign rfl rfl) ?_
      refine ASeq.nil ?_
      refine ACode.seq (ACode.region ?_)
      refine ASeq.q rfl rfl (QOp.assign rfl rfl) ?_
      refine ASeq.nil ?_
      refine ACode.seq (ACode.seq (ACode.region ?_))
      refine ASeq.q rfl rfl (QOp.move rfl rfl) ?_
      refine ASeq.q rfl rfl (QOp.move rfl rfl) ?_
      refine ASeq.q rfl rfl (QOp.indexI rfl rfl rfl (tok _ rfl) rfl (tok _ rfl) (by omega) (by assumption)) ?_
      refine ASeq.q rfl rfl (QOp.loadI rfl rfl (tok _ rfl) rfl) ?_
      refine ASeq.q rfl rfl (QOp.lenI rfl rfl (tok _ rfl) rfl) ?_
      refine ASeq.q rfl rfl (QOp.move rfl rfl) ?_
      refine ASeq.nil ?_
      refine ACode.block ?_
      refine ACode.loopP (fun (q : Nat) => [(6, .sl 1 mO 0 t.stmts.length), (7, .il 1 none (nxrows nx)), (36, vi (t.stmts.length : Int)), (37, vi i), (8, vi i), (9, .il 1 (some τ) (ints (backL nx f i))), (41, vi ((nxrows nx).length : Int)), (42, vi f), (10, vi f), (48, nxc w), (49, vi ((ints w).length : Int)), (50, vi q), (11, .v (.bool ((w.take q).contains (i : Int))))])
        (fun _ => [.mu mN (nx.map nxc), .mu mO ((backOf nx).map nxc), .tk τ]) (fun q => w.length - q) (fun q => q ≤ w.length) 0 (Nat.zero_le _)
        (.cons rfl (.cons rfl (.cons rfl (.cons rfl (.cons rfl (.cons rfl (.cons rfl (.cons rfl (.cons rfl (.cons rfl (.cons rfl (.cons rfl (.cons rfl .nil))))))))))))) 3 rfl ?_
      intro q hq
      refine ACode.seq (ACode.region ?_)
      refine ASeq.q rfl rfl (QOp.cmp rfl rfl rfl rfl) ?_
      refine ASeq.nil ?_
      refine ACode.seq ?_
      refine ACode.cond _ rfl (fun hb => ?_) (fun hb => ?_)
      · have hlq : q < w.length := by have := of_decide_eq_true hb; rw [hil] at this; omega
        have g4 := ints_get hlq
        have htc := take_contains hlq (i : Int)
        refine ACode.skip (ACode.seq (ACode.block (ACode.seq (ACode.region ?_))))
        refine ASeq.q rfl rfl (QOp.indexI rfl rfl rfl (tok _ rfl) rfl (tok _ rfl) (by omega) (by assumption)) ?_
        refine ASeq.q rfl rfl (QOp.loadI rfl rfl (tok _ rfl) rfl) ?_
        refine ASeq.q rfl rfl (QOp.assign rfl rfl) ?_
        refine ASeq.nil ?_
        refine ACode.region ?_
        refine ASeq.q rfl rfl (QOp.move rfl rfl) ?_
        refine ASeq.q rfl rfl (QOp.move rfl rfl) ?_
        refine ASeq.split 55 ((w.take q).contains (i : Int)) rfl (fun hc => ?_) (fun hc => ?_)
        · rw [hc, Bool.true_or] at htc
          refine ASeq.gno _ _ rfl rfl rfl rfl rfl ?_
          refine ASeq.gno _ _ rfl rfl rfl rfl rfl ?_
          refine ASeq.gno _ _ rfl rfl rfl rfl rfl ?_
          refine ASeq.q rfl rfl (QOp.pickT rfl rfl rfl) ?_
          refine ASeq.q rfl rfl (QOp.assign rfl rfl) ?_
          refine ASeq.nil ?_
          refine ACode.region ?_
          refine ASeq.q rfl rfl (QOp.ar64 rfl rfl rfl rfl ⟨by omega, by omega⟩) ?_
          refine ASeq.q rfl rfl (QOp.move rfl rfl) ?_
          refine ASeq.nil ?_
          refine AExit.then_normal ?_
          exact ⟨q + 1, 3, hlq, by omega, .cons rfl (.cons rfl (.cons rfl (.cons rfl (.cons rfl (.cons rfl (.cons rfl (.cons rfl (.cons rfl (.cons rfl (.cons rfl (.cons rfl (.consE rfl (by rw [htc]; rfl) .nil)))))))))))), rfl⟩
        · rw [hc, Bool.false_or] at htc
          refine ASeq.gq _ _ rfl rfl rfl rfl (QOp.move rfl rfl) ?_
          refine ASeq.gq _ _ rfl rfl rfl rfl (QOp.move rfl rfl) ?_
          refine ASeq.gq _ _ rfl rfl rfl rfl (QOp.cmp rfl rfl rfl rfl) ?_
          refine ASeq.q rfl rfl (QOp.pickF rfl rfl rfl) ?_
          refine ASeq.q rfl rfl (QOp.assign rfl rfl) ?_
          refine ASeq.nil ?_
          refine ACode.region ?_
          refine ASeq.q rfl rfl (QOp.ar64 rfl rfl rfl rfl ⟨by omega, by omega⟩) ?_
          refine ASeq.q rfl rfl (QOp.move rfl rfl) ?_
          refine ASeq.nil ?_
          refine AExit.then_normal ?_
          exact ⟨q + 1, 3, hlq, by omega, .cons rfl (.cons rfl (.cons rfl (.cons rfl (.cons rfl (.cons rfl (.cons rfl (.cons rfl (.cons rfl (.cons rfl (.cons rfl (.cons rfl (.consE rfl (by rw [htc]) .nil)))))))))))), rfl⟩
      · have hge : q = w.length := by have := of_decide_eq_false hb; rw [hil] at this; omega
        rw [hge, List.take_length]
        refine ACode.exit (ACode.seq (ACode.region ?_))
        refine ASeq.q rfl rfl (QOp.move rfl rfl) ?_
        refine ASeq.nil ?_
        refine AExit.then_normal ?_
        refine ACode.cond _ rfl (fun hb => ?_) (fun hb => ?_)
        · rw [if_pos hb] at hbs
          have hbl := ints_len (backL nx f i)
          have hbn := backL_len nx f i
          refine ACode.region ?_
          refine ASeq.q rfl rfl (QOp.move rfl rfl) ?_
          refine ASeq.q rfl rfl (QOp.move rfl rfl) ?_
          refine ASeq.op rfl rfl (AOp.buildSliceR rfl (tok _ rfl) rfl (tok _ rfl) (by decide) rfl (by decide) rfl rfl rfl rfl ?_)
          refine ASeq.op rfl rfl (AOp.appendP 2 (e := 3) (tde := TT 3) rfl rfl rfl rfl (tok _ rfl) rfl (tok _ rfl) (tok _ rfl) rfl (by decide) rfl rfl (fun _ => rfl) (ints_rows _ _) (by rw [hbl]; simp only [List.length_cons, List.length_nil]; omega) rfl (fun _ => ?_))
          refine ASeq.q rfl rfl (QOp.assign rfl rfl) ?_
          refine ASeq.nil ?_
          refine ACode.region ?_
          refine ASeq.q rfl rfl (QOp.ar64 rfl rfl rfl rfl ⟨by omega, by omega⟩) ?_
          refine ASeq.q rfl rfl (QOp.move rfl rfl) ?_
          refine ASeq.nil ?_
          refine AExit.then_normal ?_
          exact ⟨(f + 1, _), 3, hlf, by dsimp only; omega, .cons rfl (.cons rfl (.cons rfl (.cons rfl (.cons rfl (.consE rfl (by show AV.il 1 _ (ints (backL nx f i) ++ [[vi (f : Int)]]) = _; rw [ints_snoc]; dsimp only; rw [hbs]) (.cons rfl (.cons rfl .nil))))))), rfl⟩
        · rw [if_neg (by rw [hb]; decide), List.append_nil] at hbs
          refine ACode.skip ?_
          refine ACode.region ?_
          refine ASeq.q rfl rfl (QOp.ar64 rfl rfl rfl rfl ⟨by omega, by omega⟩) ?_
          refine ASeq.q rfl rfl (QOp.move rfl rfl) ?_
          refine ASeq.nil ?_
          refine AExit.then_normal ?_
          exact ⟨(f + 1, τ), 3, hlf, by dsimp only; omega, .cons rfl (.cons rfl (.cons rfl (.cons rfl (.cons rfl (.consE rfl (by dsimp only; rw [hbs]) (.cons rfl (.cons rfl .nil))))))), rfl⟩
    · have hge : f = nx.length := by have := of_decide_eq_false hb; rw [hnl] at this; omega
      have hbn := backL_len nx nx.length i
      have hio := ints_ok (backL nx nx.length i) (backL nx nx.length i) none (some τ) (by omega)
      rw [sameI_refl] at hio
      rw [hge]
      refine ACode.exit (ACode.seq (ACode.region ?_))
      refine ASeq.q rfl rfl (QOp.move rfl rfl) ?_
      refine ASeq.q rfl rfl (QOp.move rfl rfl) ?_
      refine ASeq.q rfl rfl (QOp.indexM rfl rfl rfl (tok _ rfl) rfl (tok _ rfl) (by omega) (by omega) rfl) ?_
      refine ASeq.q rfl rfl (QOp.loadAt 1 rfl rfl rfl (tok _ rfl) rfl (by assumption)) ?_
      refine ASeq.q rfl rfl (QOp.move rfl rfl) ?_
      refine ASeq.op rfl rfl (AOp.callP 0 rfl (by kernel_rfl) rfl rfl rfl (hio) ?_ (by rintro _ _ ⟨⟩))
      rintro _ _ ⟨⟩
      refine ASeq.q rfl rfl (QOp.not rfl rfl) ?_
      refine ASeq.nil ?_
      refine AExit.then_normal ?_
      refine ACode.cond _ rfl (fun hb => by cases hb) (fun _ => ?_)
      refine ACode.skip (ACode.region ?_)
      refine ASeq.q rfl rfl (QOp.ar64 rfl rfl rfl rfl ⟨by omega, by omega⟩) ?_
      refine ASeq.q rfl rfl (QOp.move rfl rfl) ?_
      refine ASeq.nil ?_
      refine AExit.then_normal ?_
      exact ⟨(i + 1, τ), 3, hlt, by dsimp only; omega, .cons rfl (.cons rfl (.cons rfl (.cons rfl .nil))), rfl⟩
  · refine ACode.exit (ACode.seq (ACode.region ?_))
    refine ASeq.q rfl rfl (QOp.assign rfl rfl) ?_
    refine ASeq.nil ?_
    refine ACode.ret ?_
    refine bodyQ_ret 0 (.tmp rfl .nil) rfl ?_
    exact .mk
end Go.Proofs.Ytaadamobapnfbaa
/- FlowTransits: the walk. -/
set_option linter.unusedVariables false
set_option linter.unusedSimpArgs false
set_option maxRecDepth 1000000
namespace Go.Proofs.Ytaadamobapnfbaa
open Go Go.Abs
theorem way_pos (t : Tree) (d : Ctx) : 0 < (way t d).length := by
  unfold way; repeat' split
  all_goals simp
theorem RightT.nxok {s : ByteArray} {t : Tree} {R : Nat → Nat} (h : RightT s t R) {nx : List (List Int)} (hnx : FlowOk t nx) : NxOk nx t.stmts.length := by
  obtain ⟨ht, hst, hJ, hfu⟩ := h.ok
  refine ⟨hnx.len, ht.big.2.1, fun w hw => ?_, fun w hw x hx => ?_⟩
  · obtain ⟨i, hi, rfl⟩ := List.getElem_of_mem hw
    refine ⟨?_, hnx.small h.fr hi⟩
    obtain ⟨k, ⟨d, h1, h2, h3⟩, hg⟩ := hnx.leads ht h.fr hJ hi
    rw [h3]; exact way_pos t d
  · obtain ⟨i, hi, rfl⟩ := List.getElem_of_mem hw
    obtain ⟨k, _, hg⟩ := hnx.leads ht h.fr hJ hi
    exact (hg x hx).range h.fr
theorem RightT.way {s : ByteArray} {t : Tree} {R : Nat → Nat} (h : RightT s t R) {nx : List (List Int)} (hnx : FlowOk t nx) (mN : Nat) (a c : Int) (ha0 : 0 ≤ a) (ha1 : a < t.stmts.length) (hc0 : -1 ≤ c) (hc1 : c < t.stmts.length) :
    ACalls Try.prog 21 [.agg [.il 1 none (ints (firsts t)), .sl 1 mN 0 t.stmts.length], vi a, vi c] [.mu mN (nx.map nxc)] (RWay nx mN a c) :=
  way_walk _ _ _ _ (h.nxok hnx) a c ha0 ha1 hc0 hc1
theorem wrap16 {x : Int} (h0 : 0 ≤ x) (h1 : x < 65536) : IntKind.wrap .i64 x = x := by
  have e : x % (2 ^ 64 : Int) = x := Int.emod_eq_of_lt h0 (by omega)
  show (if _ then _ else _) = x
  simp only [IntKind.bits, IntKind.signed, e]
  rw [if_neg]
  simp
  omega
set_option maxHeartbeats 2000000 in
theorem flowTransits_walk (s : ByteArray) (x0 x1 x2 : Int) (h0 : 0 ≤ x0 ∧ x0 < 65536) (h1 : 0 ≤ x1 ∧ x1 < 65536) (h2 : 0 ≤ x2 ∧ x2 < 65536) :
    ACalls Try.prog 6 [vs s, .agg [.v (.int .u16 x0), .v (.int .u16 x1), .v (.int .u16 x2)]] [] (RV (.v (.bool true)) []) := by
  have haw := awake7_walk
  have hri := right_walk s
  have w0 := wrap16 h0.1 h0.2
  have w1 := wrap16 h1.1 h1.2
  have w2 := wrap16 h2.1 h2.2
  refine ACalls.of_code (c := _) Try.func6 rfl Try.ntmps6 (Nat.le_of_ble_eq_true rfl) ?_
  refine ACode.seq (ACode.region ?_)
  refine ASeq.op rfl rfl (AOp.boxP rfl rfl rfl (fun _ => rfl) (fun _ => ?_))
  refine ASeq.q rfl rfl (QOp.assign rfl rfl) ?_
  refine ASeq.nil ?_
  rename_i m1
  refine ACode.seq (ACode.seq (ACode.region ?_))
  refine ASeq.op rfl rfl (AOp.callP 0 rfl (by kernel_rfl) rfl rfl rfl (haw) ?_ (by rintro _ _ ⟨⟩))
  rintro _ _ ⟨⟩
  refine ASeq.q rfl rfl (QOp.not rfl rfl) ?_
  refine ASeq.nil ?_
  refine AExit.then_normal ?_
  refine ACode.cond _ rfl (fun hb => by cases hb) (fun _ => ?_)
  refine ACode.skip (ACode.seq (ACode.region ?_))
  refine ASeq.q rfl rfl (QOp.move rfl rfl) ?_
  refine ASeq.op rfl rfl (AOp.callP 0 rfl (by kernel_rfl) rfl rfl rfl (hri) ?_ (by rintro _ _ ⟨⟩))
  rintro _ _ ⟨⟩
  refine ASeq.q rfl rfl (QOp.move rfl rfl) ?_
  refine ASeq.q rfl rfl (QOp.extract rfl rfl rfl) ?_
  refine ASeq.q rfl rfl (QOp.extract rfl rfl rfl) ?_
  refine ASeq.op rfl rfl (AOp.allocP rfl (tok _ rfl) rfl rfl (fun _ => rfl) (fun _ => ?_))
  refine ASeq.op0 rfl rfl (AOp.storeP 1 rfl rfl rfl rfl (tok _ rfl) rfl rfl rfl rfl ?_)
  refine ASeq.q rfl rfl (QOp.assign rfl rfl) ?_
  refine ASeq.nil ?_
  rename_i m5
  refine ACode.seq (ACode.seq (ACode.region ?_))
  refine ASeq.q rfl rfl (QOp.move rfl rfl) ?_
  refine ASeq.q rfl rfl (QOp.not rfl rfl) ?_
  refine ASeq.q rfl rfl (QOp.move rfl rfl) ?_
  refine ASeq.split 20 (!(rightOf s).2) rfl (fun hb => ?_) (fun hb => ?_)
  · refine ASeq.gno _ _ rfl rfl rfl rfl rfl ?_
    refine ASeq.gno _ _ rfl rfl rfl rfl rfl ?_
    refine ASeq.gno _ _ rfl rfl rfl rfl rfl ?_
    refine ASeq.gno _ _ rfl rfl rfl rfl rfl ?_
    refine ASeq.q rfl rfl (QOp.pickT rfl rfl rfl) ?_
    refine ASeq.nil ?_
    refine AExit.then_normal ?_
    refine ACode.cond _ rfl (fun _ => ?_) (fun hb => by cases hb)
    refine ACode.seq (ACode.region ?_)
    refine ASeq.q rfl rfl (QOp.assign rfl rfl) ?_
    refine ASeq.nil ?_
    refine ACode.ret (AExit.then_ret ?_)
    refine bodyQ_ret 0 (.tmp rfl .nil) rfl ?_
    exact .mk
  have hright : (rightOf s).2 = true := by simpa using hb
  obtain ⟨R, hT⟩ := rightT hright
  have hof := hT.of
  have hR := hT.fr
  have hwy := @RightT.way _ _ _ hT
  obtain ⟨ht, hst, hJ, hfu⟩ := hT.ok
  generalize (rightOf s).1 = t at *
  have hbig := ht.big
  have hSl : (t.stmts.map St.cells).length = t.stmts.length := List.length_map ..
  refine ASeq.gq _ _ rfl rfl rfl rfl (QOp.fieldM rfl rfl (tok _ rfl) rfl rfl (by decide) rfl) ?_
  refine ASeq.gq _ _ rfl rfl rfl rfl (QOp.loadM 1 rfl rfl rfl (tok _ rfl) rfl) ?_
  refine ASeq.gq _ _ rfl rfl rfl rfl (QOp.lenI rfl rfl (tok _ rfl) rfl) ?_
  refine ASeq.gq _ _ rfl rfl rfl rfl (QOp.cmp rfl rfl rfl rfl) ?_
  refine ASeq.q rfl rfl (QOp.pickF rfl rfl rfl) ?_
  refine ASeq.nil ?_
  refine AExit.then_normal ?_
  refine ACode.cond _ rfl (fun hb => ?_) (fun hb => ?_)
  · refine ACode.seq (ACode.region ?_)
    refine ASeq.q rfl rfl (QOp.assign rfl rfl) ?_
    refine ASeq.nil ?_
    refine ACode.ret (AExit.then_ret ?_)
    refine bodyQ_ret 0 (.tmp rfl .nil) rfl ?_
    exact .mk
  have hpos : 0 < t.stmts.length := by
    have : ¬ (((t.stmts.map St.cells).length : Int) = 0) := by simpa using hb
    rw [hSl] at this; omega
  refine ACode.skip (ACode.seq (ACode.region ?_))
  refine ASeq.q rfl rfl (QOp.loadM 1 rfl rfl rfl (tok _ rfl) rfl) ?_
  refine ASeq.op rfl rfl (AOp.callP 0 rfl (by kernel_rfl) rfl rfl rfl hof ?_ (by rintro _ _ ⟨⟩))
  rintro _ _ ⟨mN, nx, hnx⟩
  refine ASeq.op rfl rfl (AOp.allocP rfl (tok _ rfl) rfl rfl (fun _ => rfl) (fun _ => ?_))
  refine ASeq.op0 rfl rfl (AOp.storeP 3 rfl rfl rfl rfl (tok _ rfl) rfl rfl rfl rfl ?_)
  refine ASeq.nil ?_
  rename_i m7
  refine ACode.seq (ACode.seq (ACode.region ?_))
  have e1 : ((t.stmts.length : Int) != ((t.stmts.map St.cells).length : Int)) = false := by rw [hSl]; simp
  refine ASeq.q rfl rfl (QOp.fieldM rfl rfl (tok _ rfl) rfl rfl (by decide) rfl) ?_
  refine ASeq.q rfl rfl (QOp.loadM 3 rfl rfl rfl (tok _ rfl) rfl) ?_
  refine ASeq.q rfl rfl (QOp.lenM rfl rfl (tok _ rfl) rfl) ?_
  refine ASeq.q rfl rfl (QOp.fieldM rfl rfl (tok _ rfl) rfl rfl (by decide) rfl) ?_
  refine ASeq.q rfl rfl (QOp.loadM 2 rfl rfl rfl (tok _ rfl) rfl) ?_
  refine ASeq.q rfl rfl (QOp.lenI rfl rfl (tok _ rfl) rfl) ?_
  refine ASeq.q rfl rfl (QOp.cmp rfl rfl rfl rfl) ?_
  refine ASeq.nil ?_
  refine AExit.then_normal ?_
  refine ACode.cond _ rfl (fun hb => by rw [e1] at hb; cases hb) (fun _ => ?_)
  have hne : ((t.stmts.map St.cells).length : Int) ≠ 0 := by rw [hSl]; omega
  have rng : ∀ x : Int, 0 ≤ x → 0 ≤ x.tmod ((t.stmts.map St.cells).length : Int) ∧ x.tmod ((t.stmts.map St.cells).length : Int) < t.stmts.length := fun x hx => by
    rw [hSl]; exact ⟨Int.tmod_nonneg _ hx, Int.tmod_lt_of_pos _ (by omega)⟩
  have r0 := rng x0 h0.1
  have r1 := rng x1 h1.1
  have r2 := rng x2 h2.1
  refine ACode.skip (ACode.seq ?_)
  refine ACode.drawn [[], [0], [0, 1], [], [3], [3, 4], [0, 1, 2, 3, 4, 5], [], [7], [7, 8], [], [10], [10, 11], [7, 8, 9, 10, 11, 12], [], [14], [14, 15], [], [17], [17, 18], [14, 15, 16, 17, 18, 19], [0, 1, 2, 3, 4, 5, 6], [0, 1, 2, 3, 4, 5, 6, 7, 8, 9, 10, 11, 12, 13, 21], [0, 1, 2, 3, 4, 5, 6, 7, 8, 9, 10, 11, 12, 13, 14, 15, 16, 17, 18, 19, 20, 21, 22]] (by kernel_rfl) mixed ?_
  refine DAny.qu 0 rfl rfl (by kernel_rfl) rfl (fun _ => .does _ _ rfl (.none rfl) (QOp.indexArr rfl rfl rfl (tok _ rfl) rfl (tok _ rfl) (by decide) (by decide) rfl)) ?_
  refine DAny.ld 1 rfl rfl (by kernel_rfl) rfl (.does _ _ rfl (.none rfl) (QOp.loadM 1 rfl rfl rfl (tok _ rfl) rfl)) ?_
  refine DAny.qu 2 rfl rfl (by kernel_rfl) rfl (fun _ => .does _ _ rfl (.none rfl) (QOp.conv rfl rfl (tok _ rfl) rfl (tok _ rfl) (by assumption))) ?_
  refine DAny.qu 3 rfl rfl (by kernel_rfl) rfl (fun _ => .does _ _ rfl (.none rfl) (QOp.fieldM rfl rfl (tok _ rfl) rfl rfl (by decide) rfl)) ?_
  refine DAny.ld 4 rfl rfl (by kernel_rfl) rfl (.does _ _ rfl (.none rfl) (QOp.loadM 2 rfl rfl rfl (tok _ rfl) rfl)) ?_
  refine DAny.qu 5 rfl rfl (by kernel_rfl) rfl (fun _ => .does _ _ rfl (.none rfl) (QOp.lenI rfl rfl (tok _ rfl) rfl)) ?_
  refine DAny.qu 6 rfl rfl (by kernel_rfl) rfl (fun _ => .does _ _ rfl (.none rfl) (QOp.rem rfl rfl rfl (by assumption))) ?_
  refine DAny.qu 7 rfl rfl (by kernel_rfl) rfl (fun _ => .does _ _ rfl (.none rfl) (QOp.indexArr rfl rfl rfl (tok _ rfl) rfl (tok _ rfl) (by decide) (by decide) rfl)) ?_
  refine DAny.ld 8 rfl rfl (by kernel_rfl) rfl (.does _ _ rfl (.none rfl) (QOp.loadM 1 rfl rfl rfl (tok _ rfl) rfl)) ?_
  refine DAny.qu 9 rfl rfl (by kernel_rfl) rfl (fun _ => .does _ _ rfl (.none rfl) (QOp.conv rfl rfl (tok _ rfl) rfl (tok _ rfl) (by assumption))) ?_
  refine DAny.qu 10 rfl rfl (by kernel_rfl) rfl (fun _ => .does _ _ rfl (.none rfl) (QOp.fieldM rfl rfl (tok _ rfl) rfl rfl (by decide) rfl)) ?_
  refine DAny.ld 11 rfl rfl (by kernel_rfl) rfl (.does _ _ rfl (.none rfl) (QOp.loadM 2 rfl rfl rfl (tok _ rfl) rfl)) ?_
  refine DAny.qu 12 rfl rfl (by kernel_rfl) rfl (fun _ => .does _ _ rfl (.none rfl) (QOp.lenI rfl rfl (tok _ rfl) rfl)) ?_
  refine DAny.qu 13 rfl rfl (by kernel_rfl) rfl (fun _ => .does _ _ rfl (.none rfl) (QOp.rem rfl rfl rfl (by assumption))) ?_
  refine DAny.qu 14 rfl rfl (by kernel_rfl) rfl (fun _ => .does _ _ rfl (.none rfl) (QOp.indexArr rfl rfl rfl (tok _ rfl) rfl (tok _ rfl) (by decide) (by decide) rfl)) ?_
  refine DAny.ld 15 rfl rfl (by kernel_rfl) rfl (.does _ _ rfl (.none rfl) (QOp.loadM 1 rfl rfl rfl (tok _ rfl) rfl)) ?_
  refine DAny.qu 16 rfl rfl (by kernel_rfl) rfl (fun _ => .does _ _ rfl (.none rfl) (QOp.conv rfl rfl (tok _ rfl) rfl (tok _ rfl) (by assumption))) ?_
  refine DAny.qu 17 rfl rfl (by kernel_rfl) rfl (fun _ => .does _ _ rfl (.none rfl) (QOp.fieldM rfl rfl (tok _ rfl) rfl rfl (by decide) rfl)) ?_
  refine DAny.ld 18 rfl rfl (by kernel_rfl) rfl (.does _ _ rfl (.none rfl) (QOp.loadM 2 rfl rfl rfl (tok _ rfl) rfl)) ?_
  refine DAny.qu 19 rfl rfl (by kernel_rfl) rfl (fun _ => .does _ _ rfl (.none rfl) (QOp.lenI rfl rfl (tok _ rfl) rfl)) ?_
  refine DAny.qu 20 rfl rfl (by kernel_rfl) rfl (fun _ => .does _ _ rfl (.none rfl) (QOp.rem rfl rfl rfl (by assumption))) ?_
  refine DAny.ef 21 rfl (by kernel_rfl) (.none rfl) rfl rfl (.q (QOp.assign rfl rfl) ⟨(by ((refine AllQ.cons (.does _ _ rfl (.none rfl) (QOp.loadM 2 rfl rfl rfl (tok _ rfl) rfl)) ?_); (refine AllQ.cons (.does _ _ rfl (.none rfl) (QOp.loadM 1 rfl rfl rfl (tok _ rfl) rfl)) ?_); (refine AllQ.cons (.does _ _ rfl (.none rfl) (QOp.loadM 2 rfl rfl rfl (tok _ rfl) rfl)) ?_); (refine AllQ.cons (.does _ _ rfl (.none rfl) (QOp.loadM 1 rfl rfl rfl (tok _ rfl) rfl)) ?_); (exact AllQ.nil))), ?_⟩)
  refine DAny.ef 22 rfl (by kernel_rfl) (.none rfl) rfl rfl (.q (QOp.assign rfl rfl) ⟨(by ((refine AllQ.cons (.does _ _ rfl (.none rfl) (QOp.loadM 2 rfl rfl rfl (tok _ rfl) rfl)) ?_); (refine AllQ.cons (.does _ _ rfl (.none rfl) (QOp.loadM 1 rfl rfl rfl (tok _ rfl) rfl)) ?_); (exact AllQ.nil))), ?_⟩)
  refine DAny.ef 23 rfl (by kernel_rfl) (.none rfl) rfl rfl (.q (QOp.assign rfl rfl) ⟨(by ((exact AllQ.nil))), ?_⟩)
  refine DAny.done (by kernel_rfl) ?_
  refine ACode.seq (ACode.region ?_)
  generalize x0.tmod ((t.stmts.map St.cells).length : Int) = a at *
  generalize x1.tmod ((t.stmts.map St.cells).length : Int) = b at *
  generalize x2.tmod ((t.stmts.map St.cells).length : Int) = c at *
  refine ASeq.q rfl rfl (QOp.loadM 3 rfl rfl rfl (tok _ rfl) rfl) ?_
  refine ASeq.q rfl rfl (QOp.move rfl rfl) ?_
  refine ASeq.q rfl rfl (QOp.move rfl rfl) ?_
  refine ASeq.op rfl rfl (AOp.callP 1 rfl (by kernel_rfl) rfl rfl rfl (hwy hnx mN a b r0.1 r0.2 (by omega) r1.2) ?_ (by rintro _ _ ⟨⟩))
  rintro _ _ ⟨w1, hw1⟩
  cases w1 with
  | false =>
    refine ASeq.q rfl rfl (QOp.not rfl rfl) ?_
    refine ASeq.q rfl rfl (QOp.move rfl rfl) ?_
    refine ASeq.gno _ _ rfl rfl rfl rfl rfl ?_
    refine ASeq.gno _ _ rfl rfl rfl rfl rfl ?_
    refine ASeq.gno _ _ rfl rfl rfl rfl rfl ?_
    refine ASeq.gno _ _ rfl rfl rfl rfl rfl ?_
    refine ASeq.gno _ _ rfl rfl rfl rfl rfl ?_
    refine ASeq.q rfl rfl (QOp.pickT rfl rfl rfl) ?_
    refine ASeq.q rfl rfl (QOp.move rfl rfl) ?_
    refine ASeq.gno _ _ rfl rfl rfl rfl rfl ?_
    refine ASeq.gno _ _ rfl rfl rfl rfl rfl ?_
    refine ASeq.gno _ _ rfl rfl rfl rfl rfl ?_
    refine ASeq.gno _ _ rfl rfl rfl rfl rfl ?_
    refine ASeq.q rfl rfl (QOp.pickT rfl rfl rfl) ?_
    refine ASeq.q rfl rfl (QOp.assign rfl rfl) ?_
    refine ASeq.nil ?_
    refine ACode.ret ?_
    refine bodyQ_ret 0 (.tmp rfl .nil) rfl ?_
    exact .mk
  | true =>
    have hab := hw1.1 rfl
    refine ASeq.q rfl rfl (QOp.not rfl rfl) ?_
    refine ASeq.q rfl rfl (QOp.move rfl rfl) ?_
    refine ASeq.gq _ _ rfl rfl rfl rfl (QOp.loadM 3 rfl rfl rfl (tok _ rfl) rfl) ?_
    refine ASeq.gq _ _ rfl rfl rfl rfl (QOp.move rfl rfl) ?_
    refine ASeq.gq _ _ rfl rfl rfl rfl (QOp.move rfl rfl) ?_
    refine ASeq.gop _ _ rfl rfl rfl rfl (AOp.callP 1 rfl (by kernel_rfl) rfl rfl rfl (hwy hnx mN b c r1.1 r1.2 (by omega) r2.2) ?_ (by rintro _ _ ⟨⟩))
    rintro _ _ ⟨w2, hw2⟩
    cases w2 with
    | false =>
      refine ASeq.gq _ _ rfl rfl rfl rfl (QOp.not rfl rfl) ?_
      refine ASeq.q rfl rfl (QOp.pickF rfl rfl rfl) ?_
      refine ASeq.q rfl rfl (QOp.move rfl rfl) ?_
      refine ASeq.gno _ _ rfl rfl rfl rfl rfl ?_
      refine ASeq.gno _ _ rfl rfl rfl rfl rfl ?_
      refine ASeq.gno _ _ rfl rfl rfl rfl rfl ?_
      refine ASeq.gno _ _ rfl rfl rfl rfl rfl ?_
      refine ASeq.q rfl rfl (QOp.pickT rfl rfl rfl) ?_
      refine ASeq.q rfl rfl (QOp.assign rfl rfl) ?_
      refine ASeq.nil ?_
      refine ACode.ret ?_
      refine bodyQ_ret 0 (.tmp rfl .nil) rfl ?_
      exact .mk
    | true =>
      have hbc := hw2.1 rfl
      refine ASeq.gq _ _ rfl rfl rfl rfl (QOp.not rfl rfl) ?_
      refine ASeq.q rfl rfl (QOp.pickF rfl rfl rfl) ?_
      refine ASeq.q rfl rfl (QOp.move rfl rfl) ?_
      refine ASeq.gq _ _ rfl rfl rfl rfl (QOp.loadM 3 rfl rfl rfl (tok _ rfl) rfl) ?_
      refine ASeq.gq _ _ rfl rfl rfl rfl (QOp.move rfl rfl) ?_
      refine ASeq.gq _ _ rfl rfl rfl rfl (QOp.move rfl rfl) ?_
      refine ASeq.gop _ _ rfl rfl rfl rfl (AOp.callP 1 rfl (by kernel_rfl) rfl rfl rfl (hwy hnx mN a c r0.1 r0.2 (by omega) r2.2) ?_ (by rintro _ _ ⟨⟩))
      rintro _ _ ⟨w3, hw3⟩
      have h3 : w3 = true := hw3.2 (hab.trans hbc)
      subst h3
      refine ASeq.q rfl rfl (QOp.pickF rfl rfl rfl) ?_
      refine ASeq.q rfl rfl (QOp.assign rfl rfl) ?_
      refine ASeq.nil ?_
      refine ACode.ret ?_
      refine bodyQ_ret 0 (.tmp rfl .nil) rfl ?_
      exact .mk
end Go.Proofs.Ytaadamobapnfbaa
/- FlowReaches: the walk. -/
set_option linter.unusedVariables false
set_option linter.unusedSimpArgs false
set_option maxRecDepth 1000000
namespace Go.Proofs.Ytaadamobapnfbaa
open Go Go.Abs
theorem ints_same (l : List Int) (mo : Nat) (tm : Option Nat) (hl : l.length ≤ 1048576) : ACalls Try.prog 18 [.sl 1 mo 0 l.length, .il 1 tm (ints l)] [.mu mo (l.map vi)] (RV (.v (.bool true)) [.mu mo (l.map vi)]) := by
  have e1 := ints_len l
  refine ACalls.of_code (c := _) Try.func18 rfl Try.ntmps18 (Nat.le_of_ble_eq_true rfl) ?_
  refine ACode.seq (ACode.region ?_)
  refine ASeq.q rfl rfl (QOp.assign rfl rfl) ?_
  refine ASeq.nil ?_
  refine ACode.seq (ACode.seq (ACode.region ?_))
  have e2 : ((l.length : Int) != ((ints l).length : Int)) = false := by rw [e1]; simp
  refine ASeq.q rfl rfl (QOp.move rfl rfl) ?_
  refine ASeq.q rfl rfl (QOp.lenM rfl rfl (tok _ rfl) rfl) ?_
  refine ASeq.q rfl rfl (QOp.move rfl rfl) ?_
  refine ASeq.q rfl rfl (QOp.lenI rfl rfl (tok _ rfl) rfl) ?_
  refine ASeq.q rfl rfl (QOp.cmp rfl rfl rfl rfl) ?_
  refine ASeq.nil ?_
  refine AExit.then_normal ?_
  refine ACode.cond _ rfl (fun hb => by rw [e2] at hb; cases hb) (fun hb => ?_)
  refine ACode.skip (ACode.seq (ACode.seq (ACode.region ?_)))
  refine ASeq.q rfl rfl (QOp.move rfl rfl) ?_
  refine ASeq.q rfl rfl (QOp.lenM rfl rfl (tok _ rfl) rfl) ?_
  refine ASeq.q rfl rfl (QOp.move rfl rfl) ?_
  refine ASeq.nil ?_
  refine ACode.block ?_
  refine ACode.loopP (fun i : Nat => [(0, .sl 1 mo 0 l.length), (1, .il 1 tm (ints l)), (12, vi (l.length : Int)), (13, vi i)]) (fun _ => [.mu mo (l.map vi)]) (fun i => l.length - i)
    (fun i => i ≤ l.length) 0 (Nat.zero_le _) (.cons rfl (.cons rfl (.cons rfl (.cons rfl .nil)))) 1 rfl ?_
  rintro i hi
  refine ACode.seq (ACode.region ?_)
  refine ASeq.q rfl rfl (QOp.cmp rfl rfl rfl rfl) ?_
  refine ASeq.nil ?_
  refine ACode.seq ?_
  refine ACode.cond _ rfl (fun hb => ?_) (fun hb => ?_)
  · have hlt : i < l.length := by have := of_decide_eq_true hb; omega
    have g1 : (l.map vi)[0 + i * 1]? = some (vi l[i]) := by rw [Nat.zero_add, Nat.mul_one, List.getElem?_map, List.getElem?_eq_getElem hlt]; rfl
    have g2 := ints_get hlt
    refine ACode.skip (ACode.seq (ACode.block (ACode.seq (ACode.region ?_))))
    refine ASeq.q rfl rfl (QOp.move rfl rfl) ?_
    refine ASeq.q rfl rfl (QOp.assign rfl rfl) ?_
    refine ASeq.nil ?_
    refine ACode.seq ?_
    refine ACode.drawn [[], [], [0, 1], [0, 1, 2], [], [], [4, 5], [4, 5, 6], [0, 1, 2, 3, 4, 5, 6, 7]] (by kernel_rfl) mixed ?_
    refine DAny.qu 0 rfl rfl (by kernel_rfl) rfl (fun _ => .does _ _ rfl (.none rfl) (QOp.move rfl rfl)) ?_
    refine DAny.qu 1 rfl rfl (by kernel_rfl) rfl (fun _ => .does _ _ rfl (.none rfl) (QOp.move rfl rfl)) ?_
    refine DAny.qu 2 rfl rfl (by kernel_rfl) rfl (fun _ => .does _ _ rfl (.none rfl) (QOp.indexM rfl rfl rfl (tok _ rfl) rfl (tok _ rfl) (by omega) (by omega) rfl)) ?_
    refine DAny.ld 3 rfl rfl (by kernel_rfl) rfl (.does _ _ rfl (.none rfl) (QOp.loadAt 0 rfl rfl rfl (tok _ rfl) rfl (by assumption))) ?_
    refine DAny.qu 4 rfl rfl (by kernel_rfl) rfl (fun _ => .does _ _ rfl (.none rfl) (QOp.move rfl rfl)) ?_
    refine DAny.qu 5 rfl rfl (by kernel_rfl) rfl (fun _ => .does _ _ rfl (.none rfl) (QOp.move rfl rfl)) ?_
    refine DAny.qu 6 rfl rfl (by kernel_rfl) rfl (fun _ => .does _ _ rfl (.none rfl) (QOp.indexI rfl rfl rfl (tok _ rfl) rfl (tok _ rfl) (by omega) (by assumption))) ?_
    refine DAny.qu 7 rfl rfl (by kernel_rfl) rfl (fun _ => .does _ _ rfl (.none rfl) (QOp.loadI rfl rfl (tok _ rfl) rfl)) ?_
    refine DAny.qu 8 rfl rfl (by kernel_rfl) rfl (fun _ => .does _ _ rfl (.none rfl) (QOp.cmp rfl rfl rfl rfl)) ?_
    refine DAny.done (by kernel_rfl) ?_
    refine AExit.then_normal ?_
    refine ACode.cond _ rfl (fun hb => by simp at hb) (fun hb => ?_)
    refine ACode.skip (ACode.region ?_)
    refine ASeq.q rfl rfl (QOp.ar64 rfl rfl rfl rfl ⟨by omega, by omega⟩) ?_
    refine ASeq.q rfl rfl (QOp.move rfl rfl) ?_
    refine ASeq.nil ?_
    refine AExit.then_normal ?_
    exact ⟨i + 1, 1, hlt, by omega, .cons rfl (.cons rfl (.cons rfl (.cons rfl .nil))), rfl⟩
  · refine ACode.exit (ACode.seq (ACode.region ?_))
    refine ASeq.q rfl rfl (QOp.assign rfl rfl) ?_
    refine ASeq.nil ?_
    refine ACode.ret ?_
    refine bodyQ_ret 1 (.tmp rfl .nil) rfl ?_
    exact .mk
/-- what the law asks for -/
def wantL (s : List Int) (a : Int) (i : Nat) : List Int := ((List.range i).map fun j : Nat => (j : Int)).filter fun j => s.contains j || (j == a)
theorem wantL_succ (s : List Int) (a : Int) (i : Nat) : wantL s a (i + 1) = wantL s a i ++ (if (s.contains (i : Int) || ((i : Int) == a)) = true then [(i : Int)] else []) := by
  unfold wantL
  rw [List.range_succ, List.map_append, List.filter_append]
  simp only [List.map_cons, List.map_nil, List.filter_cons, List.filter_nil]
theorem wantL_mem (s : List Int) (a : Int) (n : Nat) (y : Int) : y ∈ wantL s a n ↔ (0 ≤ y ∧ y < n) ∧ (y ∈ s ∨ y = a) := by
  unfold wantL
  rw [List.mem_filter, List.mem_map]
  simp only [List.mem_range, Bool.or_eq_true, List.contains_iff_mem, beq_iff_eq]
  constructor
  · rintro ⟨⟨j, hj, rfl⟩, h⟩; exact ⟨⟨by omega, by omega⟩, h⟩
  · rintro ⟨⟨h1, h2⟩, h⟩; exact ⟨⟨y.toNat, by omega, by omega⟩, h⟩
theorem wantL_up (s : List Int) (a : Int) (n : Nat) : (wantL s a n).Pairwise (· < ·) := by
  unfold wantL
  refine List.Pairwise.filter _ (List.pairwise_map.2 ?_)
  exact List.pairwise_lt_range.imp fun h => by omega
theorem wantL_len (s : List Int) (a : Int) (n : Nat) : (wantL s a n).length ≤ n := by
  unfold wantL
  refine Nat.le_trans (List.length_filter_le _ _) ?_
  simp
theorem Rc.range {nx : List (List Int)} {n : Nat} (h : NxOk nx n) {a y : Int} (hy : Rc nx a y) : -1 ≤ y ∧ y < n := by
  have key : ∀ x, y ∈ outs nx x → -1 ≤ y ∧ y < n := fun x hx => by
    unfold outs at hx
    split at hx
    · simp at hx
    · rw [List.getD_eq_getElem?_getD] at hx
      cases hg : nx[x.toNat]? with
      | none => rw [hg] at hx; simp at hx
      | some w =>
        rw [hg] at hx
        have := h.good w (List.mem_of_getElem? hg) y (by simpa using hx)
        omega
  cases hy with
  | one h1 => exact key _ h1
  | more h1 h2 => exact key _ h2
inductive RReachL (nx : List (List Int)) (mN : Nat) (L : List Int) : AOut → List Abs.Item → Prop
  | mk (mo : Nat) : RReachL nx mN L (.ret (.sl 1 mo 0 L.length)) [.mu mN (nx.map nxc), .mu mo (L.map vi)]
theorem reachL_walk (first : List Int) (nx : List (List Int)) (mN n : Nat) (h : NxOk nx n) (a : Int) (ha0 : 0 ≤ a) (ha1 : a < n) (s : List Int) (hs : ∀ x, x ∈ s ↔ Rc nx a x) :
    ACalls Try.prog 26 [.agg [.il 1 none (ints first), .sl 1 mN 0 n], vi a] [.mu mN (nx.map nxc)] (RReachL nx mN (wantL s a n)) := by
  refine (reach_walk first nx mN n h a ha0 ha1).less ?_
  rintro _ _ ⟨mo, l, up, hl⟩
  have e : l = wantL s a n := up_eq up (wantL_up s a n) fun y => by
    rw [hl, wantL_mem, hs]
    constructor
    · rintro ⟨h1 | h1, h2⟩
      · subst h1; exact ⟨⟨ha0, ha1⟩, .inr rfl⟩
      · have := h1.range h
        exact ⟨⟨by omega, this.2⟩, .inl h1⟩
    · rintro ⟨h1, h2 | h2⟩
      · exact ⟨.inr h2, by omega⟩
      · exact ⟨.inl h2, by omega⟩
  subst e
  exact ⟨[.mu mN (nx.map nxc), .mu mo ((wantL s a n).map vi)], _, List.perm_append_comm (l₁ := [_]) (l₂ := [_]), List.Sublist.refl _, .mk mo⟩
theorem wayB_walk (first : List Int) (nx : List (List Int)) (mN n : Nat) (h : NxOk nx n) (a c : Int) (ha0 : 0 ≤ a) (ha1 : a < n) (hc0 : -1 ≤ c) (hc1 : c < n) (s : List Int) (hs : ∀ x, x ∈ s ↔ Rc nx a x) :
    ACalls Try.prog 21 [.agg [.il 1 none (ints first), .sl 1 mN 0 n], vi a, vi c] [.mu mN (nx.map nxc)] (RV (.v (.bool (s.contains c))) [.mu mN (nx.map nxc)]) := by
  refine (way_walk first nx mN n h a c ha0 ha1 hc0 hc1).mono ?_
  rintro _ _ ⟨b, hb⟩
  have : b = s.contains c := by
    rw [Bool.eq_iff_iff, hb, List.contains_iff_mem, hs]
  subst this
  exact .mk
set_option maxHeartbeats 4000000 in
theorem flowReaches_walk (s : ByteArray) (x0 x1 : Int) (h0 : 0 ≤ x0 ∧ x0 < 65536) (h1 : 0 ≤ x1 ∧ x1 < 65536) :
    ACalls Try.prog 13 [vs s, .v (.int .u16 x0), .v (.int .u16 x1)] [] (RV (.v (.bool true)) []) := by
  have haw := awake7_walk
  have hri := right_walk s
  have w0 := wrap16 h0.1 h0.2
  have w1 := wrap16 h1.1 h1.2
  refine ACalls.of_code (c := _) Try.func13 rfl Try.ntmps13 (Nat.le_of_ble_eq_true rfl) ?_
  refine ACode.seq (ACode.region ?_)
  refine ASeq.q rfl rfl (QOp.assign rfl rfl) ?_
  refine ASeq.nil ?_
  refine ACode.seq (ACode.seq (ACode.region ?_))
  refine ASeq.op rfl rfl (AOp.callP 0 rfl (by kernel_rfl) rfl rfl rfl (haw) ?_ (by rintro _ _ ⟨⟩))
  rintro _ _ ⟨⟩
  refine ASeq.q rfl rfl (QOp.not rfl rfl) ?_
  refine ASeq.nil ?_
  refine AExit.then_normal ?_
  refine ACode.cond _ rfl (fun hb => by cases hb) (fun _ => ?_)
  refine ACode.skip (ACode.seq (ACode.region ?_))
  refine ASeq.q rfl rfl (QOp.move rfl rfl) ?_
  refine ASeq.op rfl rfl (AOp.callP 0 rfl (by kernel_rfl) rfl rfl rfl (hri) ?_ (by rintro _ _ ⟨⟩))
  rintro _ _ ⟨⟩
  refine ASeq.q rfl rfl (QOp.move rfl rfl) ?_
  refine ASeq.q rfl rfl (QOp.extract rfl rfl rfl) ?_
  refine ASeq.q rfl rfl (QOp.extract rfl rfl rfl) ?_
  refine ASeq.op rfl rfl (AOp.allocP rfl (tok _ rfl) rfl rfl (fun _ => rfl) (fun _ => ?_))
  refine ASeq.op0 rfl rfl (AOp.storeP 0 rfl rfl rfl rfl (tok _ rfl) rfl rfl rfl rfl ?_)
  refine ASeq.q rfl rfl (QOp.assign rfl rfl) ?_
  refine ASeq.nil ?_
  rename_i m7
  refine ACode.seq (ACode.seq (ACode.region ?_))
  refine ASeq.q rfl rfl (QOp.move rfl rfl) ?_
  refine ASeq.q rfl rfl (QOp.not rfl rfl) ?_
  refine ASeq.q rfl rfl (QOp.move rfl rfl) ?_
  refine ASeq.split 24 (!(rightOf s).2) rfl (fun hb => ?_) (fun hb => ?_)
  · refine ASeq.gno _ _ rfl rfl rfl rfl rfl ?_
    refine ASeq.gno _ _ rfl rfl rfl rfl rfl ?_
    refine ASeq.gno _ _ rfl rfl rfl rfl rfl ?_
    refine ASeq.gno _ _ rfl rfl rfl rfl rfl ?_
    refine ASeq.q rfl rfl (QOp.pickT rfl rfl rfl) ?_
    refine ASeq.nil ?_
    refine AExit.then_normal ?_
    refine ACode.cond _ rfl (fun _ => ?_) (fun hb => by cases hb)
    refine ACode.seq (ACode.region ?_)
    refine ASeq.q rfl rfl (QOp.assign rfl rfl) ?_
    refine ASeq.nil ?_
    refine ACode.ret (AExit.then_ret ?_)
    refine bodyQ_ret 0 (.tmp rfl .nil) rfl ?_
    exact .mk
  have hright : (rightOf s).2 = true := by simpa using hb
  obtain ⟨R, hT⟩ := rightT hright
  have hof := hT.of
  have hR := hT.fr
  have hnxo := fun nx hnx => @RightT.nxok _ _ _ hT nx hnx
  obtain ⟨ht, hst, hJ, hfu⟩ := hT.ok
  have hal := all_walk _ R ht hR hJ
  generalize (rightOf s).1 = t at *
  have hbig := ht.big
  have hSl : (t.stmts.map St.cells).length = t.stmts.length := List.length_map ..
  refine ASeq.gq _ _ rfl rfl rfl rfl (QOp.fieldM rfl rfl (tok _ rfl) rfl rfl (by decide) rfl) ?_
  refine ASeq.gq _ _ rfl rfl rfl rfl (QOp.loadM 0 rfl rfl rfl (tok _ rfl) rfl) ?_
  refine ASeq.gq _ _ rfl rfl rfl rfl (QOp.lenI rfl rfl (tok _ rfl) rfl) ?_
  refine ASeq.gq _ _ rfl rfl rfl rfl (QOp.cmp rfl rfl rfl rfl) ?_
  refine ASeq.q rfl rfl (QOp.pickF rfl rfl rfl) ?_
  refine ASeq.nil ?_
  refine AExit.then_normal ?_
  refine ACode.cond _ rfl (fun hb => ?_) (fun hb => ?_)
  · refine ACode.seq (ACode.region ?_)
    refine ASeq.q rfl rfl (QOp.assign rfl rfl) ?_
    refine ASeq.nil ?_
    refine ACode.ret (AExit.then_ret ?_)
    refine bodyQ_ret 0 (.tmp rfl .nil) rfl ?_
    exact .mk
  have hpos : 0 < t.stmts.length := by
    have : ¬ (((t.stmts.map St.cells).length : Int) = 0) := by simpa using hb
    rw [hSl] at this; omega
  refine ACode.skip (ACode.seq (ACode.region ?_))
  refine ASeq.q rfl rfl (QOp.loadM 0 rfl rfl rfl (tok _ rfl) rfl) ?_
  refine ASeq.op rfl rfl (AOp.callP 0 rfl (by kernel_rfl) rfl rfl rfl hof ?_ (by rintro _ _ ⟨⟩))
  rintro _ _ ⟨mN, nx, hnx⟩
  refine ASeq.op rfl rfl (AOp.allocP rfl (tok _ rfl) rfl rfl (fun _ => rfl) (fun _ => ?_))
  refine ASeq.op0 rfl rfl (AOp.storeP 2 rfl rfl rfl rfl (tok _ rfl) rfl rfl rfl rfl ?_)
  refine ASeq.nil ?_
  rename_i m9
  refine ACode.seq (ACode.seq (ACode.region ?_))
  have e1 : ((t.stmts.length : Int) != ((t.stmts.map St.cells).length : Int)) = false := by rw [hSl]; simp
  refine ASeq.q rfl rfl (QOp.fieldM rfl rfl (tok _ rfl) rfl rfl (by decide) rfl) ?_
  refine ASeq.q rfl rfl (QOp.loadM 2 rfl rfl rfl (tok _ rfl) rfl) ?_
  refine ASeq.q rfl rfl (QOp.lenM rfl rfl (tok _ rfl) rfl) ?_
  refine ASeq.q rfl rfl (QOp.fieldM rfl rfl (tok _ rfl) rfl rfl (by decide) rfl) ?_
  refine ASeq.q rfl rfl (QOp.loadM 1 rfl rfl rfl (tok _ rfl) rfl) ?_
  refine ASeq.q rfl rfl (QOp.lenI rfl rfl (tok _ rfl) rfl) ?_
  refine ASeq.q rfl rfl (QOp.cmp rfl rfl rfl rfl) ?_
  refine ASeq.nil ?_
  refine AExit.then_normal ?_
  refine ACode.cond _ rfl (fun hb => by rw [e1] at hb; cases hb) (fun _ => ?_)
  have hne : ((t.stmts.map St.cells).length : Int) ≠ 0 := by rw [hSl]; omega
  have rng : ∀ x : Int, 0 ≤ x → 0 ≤ x.tmod ((t.stmts.map St.cells).length : Int) ∧ x.tmod ((t.stmts.map St.cells).length : Int) < t.stmts.length := fun x hx => by
    rw [hSl]; exact ⟨Int.tmod_nonneg _ hx, Int.tmod_lt_of_pos _ (by omega)⟩
  have r0 := rng x0 h0.1
  have r1 := rng x1 h1.1
  refine ACode.skip (ACode.seq ?_)
  refine ACode.drawn [[], [0], [], [2], [2, 3], [0, 1, 2, 3, 4], [], [6], [], [8], [8, 9], [6, 7, 8, 9, 10], [0, 1, 2, 3, 4, 5], [0, 1, 2, 3, 4, 5, 6, 7, 8, 9, 10, 11, 12]] (by kernel_rfl) mixed ?_
  refine DAny.qu 0 rfl rfl (by kernel_rfl) rfl (fun _ => .does _ _ rfl (.none rfl) (QOp.move rfl rfl)) ?_
  refine DAny.qu 1 rfl rfl (by kernel_rfl) rfl (fun _ => .does _ _ rfl (.none rfl) (QOp.conv rfl rfl (tok _ rfl) rfl (tok _ rfl) (by assumption))) ?_
  refine DAny.qu 2 rfl rfl (by kernel_rfl) rfl (fun _ => .does _ _ rfl (.none rfl) (QOp.fieldM rfl rfl (tok _ rfl) rfl rfl (by decide) rfl)) ?_
  refine DAny.ld 3 rfl rfl (by kernel_rfl) rfl (.does _ _ rfl (.none rfl) (QOp.loadM 1 rfl rfl rfl (tok _ rfl) rfl)) ?_
  refine DAny.qu 4 rfl rfl (by kernel_rfl) rfl (fun _ => .does _ _ rfl (.none rfl) (QOp.lenI rfl rfl (tok _ rfl) rfl)) ?_
  refine DAny.qu 5 rfl rfl (by kernel_rfl) rfl (fun _ => .does _ _ rfl (.none rfl) (QOp.rem rfl rfl rfl (by assumption))) ?_
  refine DAny.qu 6 rfl rfl (by kernel_rfl) rfl (fun _ => .does _ _ rfl (.none rfl) (QOp.move rfl rfl)) ?_
  refine DAny.qu 7 rfl rfl (by kernel_rfl) rfl (fun _ => .does _ _ rfl (.none rfl) (QOp.conv rfl rfl (tok _ rfl) rfl (tok _ rfl) (by assumption))) ?_
  refine DAny.qu 8 rfl rfl (by kernel_rfl) rfl (fun _ => .does _ _ rfl (.none rfl) (QOp.fieldM rfl rfl (tok _ rfl) rfl rfl (by decide) rfl)) ?_
  refine DAny.ld 9 rfl rfl (by kernel_rfl) rfl (.does _ _ rfl (.none rfl) (QOp.loadM 1 rfl rfl rfl (tok _ rfl) rfl)) ?_
  refine DAny.qu 10 rfl rfl (by kernel_rfl) rfl (fun _ => .does _ _ rfl (.none rfl) (QOp.lenI rfl rfl (tok _ rfl) rfl)) ?_
  refine DAny.qu 11 rfl rfl (by kernel_rfl) rfl (fun _ => .does _ _ rfl (.none rfl) (QOp.rem rfl rfl rfl (by assumption))) ?_
  refine DAny.ef 12 rfl (by kernel_rfl) (.none rfl) rfl rfl (.q (QOp.assign rfl rfl) ⟨(by ((refine AllQ.cons (.does _ _ rfl (by exact .none rfl) (QOp.loadM 1 rfl rfl rfl (tok _ rfl) rfl)) ?_); (exact AllQ.nil))), ?_⟩)
  refine DAny.ef 13 rfl (by kernel_rfl) (.none rfl) rfl rfl (.q (QOp.assign rfl rfl) ⟨(by ((exact AllQ.nil))), ?_⟩)
  refine DAny.done (by kernel_rfl) ?_
  refine ACode.seq (ACode.region ?_)
  generalize x0.tmod ((t.stmts.map St.cells).length : Int) = a at *
  generalize x1.tmod ((t.stmts.map St.cells).length : Int) = b at *
  have hno := hnxo nx hnx
  have hre := reach7_walk nx t.stmts.length hno a r0.1 r0.2
  refine ASeq.q rfl rfl (QOp.loadM 1 rfl rfl rfl (tok _ rfl) rfl) ?_
  refine ASeq.op rfl rfl (AOp.callP 0 rfl (by kernel_rfl) rfl rfl rfl hal ?_ (by rintro _ _ ⟨⟩))
  rintro _ _ ⟨ws, hwl, hws⟩
  have hsame := FR.same hnx hwl hws
  subst hsame
  refine ASeq.q rfl rfl (QOp.move rfl rfl) ?_
  refine ASeq.op rfl rfl (AOp.callP 0 rfl (by kernel_rfl) rfl rfl rfl hre ?_ (by rintro _ _ ⟨⟩))
  rintro _ _ ⟨mB, sn, B, hs, hB⟩
  refine ASeq.q rfl rfl (QOp.assign rfl rfl) ?_
  refine ASeq.nil ?_
  refine AExit.then_normal ?_
  refine ACode.items [_, _, _, _] (List.perm_append_comm (l₁ := [_]) (l₂ := [_, _, _])) (List.Sublist.refl _) ?_
  refine ACode.newTok (fun τ0 => ?_)
  refine ACode.seq (ACode.region ?_)
  refine ASeq.q rfl rfl (QOp.assign rfl rfl) ?_
  refine ASeq.nil ?_
  refine ACode.seq (ACode.seq (ACode.region ?_))
  refine ASeq.slot 13 rfl (.nilT 1 (some τ0)) ?_
  refine ASeq.q rfl rfl (QOp.fieldM rfl rfl (tok _ rfl) rfl rfl (by decide) rfl) ?_
  refine ASeq.q rfl rfl (QOp.loadM 1 rfl rfl rfl (tok _ rfl) rfl) ?_
  refine ASeq.q rfl rfl (QOp.lenI rfl rfl (tok _ rfl) rfl) ?_
  refine ASeq.q rfl rfl (QOp.move rfl rfl) ?_
  refine ASeq.nil ?_
  refine ACode.block ?_
  refine ACode.loopP (fun (x : Nat × Nat) => [(7, .mp m7 0), (9, .mp m9 0), (10, vi a), (11, vi b), (12, .sl 1 mB 0 (t.stmts.length + 1)), (13, .il 1 (some x.2) (ints (wantL sn a x.1))), (57, vi ((t.stmts.map St.cells).length : Int)), (58, vi x.1)])
    (fun x => [.mu mN (nx.map nxc), .mu m7 t.cells, .mu m9 [.il 1 none (ints (firsts t)), .sl 1 mN 0 t.stmts.length], .mu mB (B.map vB), .tk x.2]) (fun x => t.stmts.length - x.1) (fun x => x.1 ≤ t.stmts.length) (0, τ0) (Nat.zero_le _)
    (.cons rfl (.cons rfl (.cons rfl (.cons rfl (.cons rfl (.cons rfl (.cons rfl (.cons rfl .nil)))))))) 5 rfl ?_
  rintro ⟨i, τ⟩ hi
  dsimp only at hi
  have hwl := wantL_len sn a i
  refine ACode.seq (ACode.region ?_)
  refine ASeq.q rfl rfl (QOp.cmp rfl rfl rfl rfl) ?_
  refine ASeq.nil ?_
  refine ACode.seq ?_
  refine ACode.cond _ rfl (fun hb => ?_) (fun hb => ?_)
  · have hlt : i < t.stmts.length := by have := of_decide_eq_true hb; omega
    have hget := hB.at_ (i : Int) (by omega) (by omega)
    have hcell : (B.map vB)[0 + i * 1]? = some (vB (sn.contains (i : Int))) := by
      have e : slotB t.stmts.length (i : Int) = i := by unfold slotB; rw [if_neg (by omega)]; omega
      rw [e] at hget
      rw [Nat.zero_add, Nat.mul_one, List.getElem?_map, hget]; rfl
    have hsucc := wantL_succ sn a i
    refine ACode.skip (ACode.seq (ACode.block (ACode.seq (ACode.region ?_))))
    refine ASeq.q rfl rfl (QOp.move rfl rfl) ?_
    refine ASeq.q rfl rfl (QOp.assign rfl rfl) ?_
    refine ASeq.nil ?_
    refine ACode.seq (ACode.region ?_)
    refine ASeq.q rfl rfl (QOp.move rfl rfl) ?_
    refine ASeq.q rfl rfl (QOp.move rfl rfl) ?_
    refine ASeq.q rfl rfl (QOp.indexM rfl rfl rfl (tok _ rfl) rfl (tok _ rfl) (by omega) (by omega) rfl) ?_
    refine ASeq.q rfl rfl (QOp.loadAt 3 rfl rfl rfl (tok _ rfl) rfl (by assumption)) ?_
    refine ASeq.q rfl rfl (QOp.move rfl rfl) ?_
    refine ASeq.split 65 (sn.contains (i : Int)) rfl (fun hb => ?_) (fun hb => ?_)
    · rw [hb, Bool.true_or, if_pos rfl] at hsucc
      refine ASeq.gno _ _ rfl rfl rfl rfl rfl ?_
      refine ASeq.gno _ _ rfl rfl rfl rfl rfl ?_
      refine ASeq.gno _ _ rfl rfl rfl rfl rfl ?_
      refine ASeq.q rfl rfl (QOp.pickT rfl rfl rfl) ?_
      refine ASeq.nil ?_
      refine AExit.then_normal ?_
      refine ACode.cond _ rfl (fun _ => ?_) (fun hb => by cases hb)
      refine ACode.region ?_
      refine ASeq.q rfl rfl (QOp.move rfl rfl) ?_
      refine ASeq.q rfl rfl (QOp.move rfl rfl) ?_
      refine ASeq.op rfl rfl (AOp.buildSliceR rfl (tok _ rfl) rfl (tok _ rfl) (by decide) rfl (by decide) rfl rfl rfl rfl ?_)
      refine ASeq.op rfl rfl (AOp.appendP 4 (e := 3) (tde := TT 3) rfl rfl rfl rfl (tok _ rfl) rfl (tok _ rfl) (tok _ rfl) rfl (by decide) rfl rfl (fun _ => rfl) (ints_rows _ _) (by rw [ints_len]; simp only [List.length_cons, List.length_nil]; omega) rfl (fun _ => ?_))
      rename_i τ'
      refine ASeq.q rfl rfl (QOp.assign rfl rfl) ?_
      refine ASeq.nil ?_
      refine ACode.region ?_
      refine ASeq.q rfl rfl (QOp.ar64 rfl rfl rfl rfl ⟨by omega, by omega⟩) ?_
      refine ASeq.q rfl rfl (QOp.move rfl rfl) ?_
      refine ASeq.nil ?_
      refine AExit.then_normal ?_
      exact ⟨(i + 1, τ'), 5, hlt, by dsimp only; omega, .cons rfl (.cons rfl (.cons rfl (.cons rfl (.cons rfl (.consE rfl (by dsimp only; rw [hsucc, ← ints_snoc]; rfl) (.cons rfl (.cons rfl .nil))))))), rfl⟩
    · rw [hb, Bool.false_or] at hsucc
      refine ASeq.gq _ _ rfl rfl rfl rfl (QOp.move rfl rfl) ?_
      refine ASeq.gq _ _ rfl rfl rfl rfl (QOp.move rfl rfl) ?_
      refine ASeq.gq _ _ rfl rfl rfl rfl (QOp.cmp rfl rfl rfl rfl) ?_
      refine ASeq.q rfl rfl (QOp.pickF rfl rfl rfl) ?_
      refine ASeq.nil ?_
      refine AExit.then_normal ?_
      refine ACode.cond _ rfl (fun hb2 => ?_) (fun hb2 => ?_)
      · rw [if_pos hb2] at hsucc
        refine ACode.region ?_
        refine ASeq.q rfl rfl (QOp.move rfl rfl) ?_
        refine ASeq.q rfl rfl (QOp.move rfl rfl) ?_
        refine ASeq.op rfl rfl (AOp.buildSliceR rfl (tok _ rfl) rfl (tok _ rfl) (by decide) rfl (by decide) rfl rfl rfl rfl ?_)
        refine ASeq.op rfl rfl (AOp.appendP 4 (e := 3) (tde := TT 3) rfl rfl rfl rfl (tok _ rfl) rfl (tok _ rfl) (tok _ rfl) rfl (by decide) rfl rfl (fun _ => rfl) (ints_rows _ _) (by rw [ints_len]; simp only [List.length_cons, List.length_nil]; omega) rfl (fun _ => ?_))
        rename_i τ'
        refine ASeq.q rfl rfl (QOp.assign rfl rfl) ?_
        refine ASeq.nil ?_
        refine ACode.region ?_
        refine ASeq.q rfl rfl (QOp.ar64 rfl rfl rfl rfl ⟨by omega, by omega⟩) ?_
        refine ASeq.q rfl rfl (QOp.move rfl rfl) ?_
        refine ASeq.nil ?_
        refine AExit.then_normal ?_
        exact ⟨(i + 1, τ'), 5, hlt, by dsimp only; omega, .cons rfl (.cons rfl (.cons rfl (.cons rfl (.cons rfl (.consE rfl (by dsimp only; rw [hsucc, ← ints_snoc]; rfl) (.cons rfl (.cons rfl .nil))))))), rfl⟩
      · rw [if_neg (by rw [hb2]; decide), List.append_nil] at hsucc
        refine ACode.skip (ACode.region ?_)
        refine ASeq.q rfl rfl (QOp.ar64 rfl rfl rfl rfl ⟨by omega, by omega⟩) ?_
        refine ASeq.q rfl rfl (QOp.move rfl rfl) ?_
        refine ASeq.nil ?_
        refine AExit.then_normal ?_
        exact ⟨(i + 1, τ), 5, hlt, by dsimp only; omega, .cons rfl (.cons rfl (.cons rfl (.cons rfl (.cons rfl (.consE rfl (by dsimp only; rw [hsucc]) (.cons rfl (.cons rfl .nil))))))), rfl⟩
  · have hge : i = t.stmts.length := by have := of_decide_eq_false hb; omega
    subst hge
    have hex : sn.contains (-1) = true := by
      rw [List.contains_iff_mem, hs]
      exact exits ht hR hJ hnx r0.1 r0.2
    have hr1 := reachL_walk (firsts t) nx mN _ hno a r0.1 r0.2 sn hs
    have hw1 := wayB_walk (firsts t) nx mN _ hno a b r0.1 r0.2 (by omega) r1.2 sn hs
    have hw2 := wayB_walk (firsts t) nx mN _ hno a (-1) r0.1 r0.2 (by omega) (by omega) sn hs
    have hrx := reachX_walk (firsts t) nx mN t.stmts.length
    rw [hex] at hw2
    have hcb : (B.map vB)[0 + b.toNat * 1]? = some (.v (.bool (sn.contains b))) := by
      have hget := hB.at_ b (by omega) r1.2
      have e : slotB t.stmts.length b = b.toNat := by unfold slotB; rw [if_neg (by omega)]
      rw [e] at hget
      rw [Nat.zero_add, Nat.mul_one, List.getElem?_map, hget]; rfl
    have hce : (B.map vB)[0 + (t.stmts.map St.cells).length * 1]? = some (.v (.bool true)) := by
      have hget := hB.at_ (-1) (by omega) (by omega)
      have e : slotB t.stmts.length (-1) = t.stmts.length := by unfold slotB; rw [if_pos (by omega)]
      rw [e, hex] at hget
      rw [Nat.zero_add, Nat.mul_one, hSl, List.getElem?_map, hget]; rfl
    have hin : ∀ mo, ACalls Try.prog 18 [.sl 1 mo 0 (wantL sn a t.stmts.length).length, .il 1 (some τ) (ints (wantL sn a t.stmts.length))] [.mu mN (nx.map nxc), .mu mo ((wantL sn a t.stmts.length).map vi)] (RV (.v (.bool true)) [.mu mN (nx.map nxc), .mu mo ((wantL sn a t.stmts.length).map vi)]) := fun mo => by
      refine (ACalls.perm (List.perm_append_comm (l₁ := [_]) (l₂ := [_])) (ints_same (wantL sn a t.stmts.length) mo (some τ) (by omega)).frame).less ?_
      rintro _ _ ⟨R1, rfl, ⟨⟩⟩
      exact ⟨_, _, List.perm_append_comm (l₁ := [_]) (l₂ := [_]), List.Sublist.refl _, .mk⟩
    refine ACode.exit (ACode.seq ?_)
    cases hβ : sn.contains b with
    | false =>
      rw [hβ] at hw1 hcb
      refine ACode.drawn [[], [], [0, 1], [], [0, 1, 2, 3], [0, 1, 2, 3, 4], [0, 1, 2, 3, 4, 5], [0, 1, 2, 3, 4, 5], [0, 1, 2, 3, 4, 5], [0, 1, 2, 3, 4, 5, 6, 7, 8], [0, 1, 2, 3, 4, 5], [0, 1, 2, 3, 4, 5], [0, 1, 2, 3, 4, 5, 10, 11], [0, 1, 2, 3, 4, 5, 10, 11, 12], [0, 1, 2, 3, 4, 5, 6, 7, 8, 9, 10, 11, 12, 13], [0, 1, 2, 3, 4, 5, 6, 7, 8, 9, 10, 11, 12, 13, 14], [0, 1, 2, 3, 4, 5, 6, 7, 8, 9, 10, 11, 12, 13, 14, 15], [0, 1, 2, 3, 4, 5, 6, 7, 8, 9, 10, 11, 12, 13, 14, 15, 16], [0, 1, 2, 3, 4, 5, 6, 7, 8, 9, 10, 11, 12, 13, 14, 15, 16], [0, 1, 2, 3, 4, 5, 6, 7, 8, 9, 10, 11, 12, 13, 14, 15, 16, 18], [0, 1, 2, 3, 4, 5, 6, 7, 8, 9, 10, 11, 12, 13, 14, 15, 16, 18, 19], [0, 1, 2, 3, 4, 5, 6, 7, 8, 9, 10, 11, 12, 13, 14, 15, 16, 17, 18, 19, 20], [0, 1, 2, 3, 4, 5, 6, 7, 8, 9, 10, 11, 12, 13, 14, 15, 16, 17, 18, 19, 20, 21], [0, 1, 2, 3, 4, 5, 6, 7, 8, 9, 10, 11, 12, 13, 14, 15, 16, 17, 18, 19, 20, 21, 22], [0, 1, 2, 3, 4, 5, 6, 7, 8, 9, 10, 11, 12, 13, 14, 15, 16, 17, 18, 19, 20, 21, 22, 23], [0, 1, 2, 3, 4, 5, 6, 7, 8, 9, 10, 11, 12, 13, 14, 15, 16, 17, 18, 19, 20, 21, 22, 23, 24], [0, 1, 2, 3, 4, 5, 6, 7, 8, 9, 10, 11, 12, 13, 14, 15, 16, 17, 18, 19, 20, 21, 22, 23, 24], [0, 1, 2, 3, 4, 5, 6, 7, 8, 9, 10, 11, 12, 13, 14, 15, 16, 17, 18, 19, 20, 21, 22, 23, 24, 25, 26], [0, 1, 2, 3, 4, 5, 6, 7, 8, 9, 10, 11, 12, 13, 14, 15, 16, 17, 18, 19, 20, 21, 22, 23, 24, 25, 26, 27], [0, 1, 2, 3, 4, 5, 6, 7, 8, 9, 10, 11, 12, 13, 14, 15, 16, 17, 18, 19, 20, 21, 22, 23, 24, 25, 26, 27, 28], [0, 1, 2, 3, 4, 5, 6, 7, 8, 9, 10, 11, 12, 13, 14, 15, 16, 17, 18, 19, 20, 21, 22, 23, 24, 25, 26, 27, 28, 29], [0, 1, 2, 3, 4, 5, 6, 7, 8, 9, 10, 11, 12, 13, 14, 15, 16, 17, 18, 19, 20, 21, 22, 23, 24, 25, 26, 27, 28, 29, 30], [0, 1, 2, 3, 4, 5, 6, 7, 8, 9, 10, 11, 12, 13, 14, 15, 16, 17, 18, 19, 20, 21, 22, 23, 24, 25, 26, 27, 28, 29, 30, 31], [0, 1, 2, 3, 4, 5, 6, 7, 8, 9, 10, 11, 12, 13, 14, 15, 16, 17, 18, 19, 20, 21, 22, 23, 24, 25, 26, 27, 28, 29, 30, 31, 32], [0, 1, 2, 3, 4, 5, 6, 7, 8, 9, 10, 11, 12, 13, 14, 15, 16, 17, 18, 19, 20, 21, 22, 23, 24, 25, 26, 27, 28, 29, 30, 31, 32, 33], [0, 1, 2, 3, 4, 5, 6, 7, 8, 9, 10, 11, 12, 13, 14, 15, 16, 17, 18, 19, 20, 21, 22, 23, 24, 25, 26, 27, 28, 29, 30, 31, 32, 33, 34]] (by kernel_rfl) mixed ?_
      refine DAny.ld 0 rfl rfl (by kernel_rfl) rfl (.does _ _ rfl (.none rfl) (QOp.loadM 2 rfl rfl rfl (tok _ rfl) rfl)) ?_
      refine DAny.qu 1 rfl rfl (by kernel_rfl) rfl (fun _ => .does _ _ rfl (.none rfl) (QOp.move rfl rfl)) ?_
      refine DAny.qu 3 rfl rfl (by kernel_rfl) rfl (fun _ => .does _ _ rfl (.none rfl) (QOp.move rfl rfl)) ?_
      refine DAny.ef 2 rfl (by kernel_rfl) (.none rfl) rfl rfl (AOp.callP 1 rfl (by kernel_rfl) rfl rfl rfl (hr1) ?_ (by rintro _ _ ⟨⟩))
      rintro _ _ ⟨mo⟩
      refine ⟨(by ((exact AllQ.nil))), ?_⟩
      refine DAny.ef 4 rfl (by kernel_rfl) (.none rfl) rfl rfl (AOp.callP 2 rfl (by kernel_rfl) rfl rfl rfl (hin mo) ?_ (by rintro _ _ ⟨⟩))
      rintro _ _ ⟨⟩
      refine ⟨(by ((exact AllQ.nil))), ?_⟩
      refine DAny.qu 5 rfl rfl (by kernel_rfl) rfl (fun _ => .does _ _ rfl (.none rfl) (QOp.move rfl rfl)) ?_
      refine DAny.ld 6 rfl rfl (by kernel_rfl) rfl (.does _ _ rfl (by exact .yes _ _ _ rfl rfl rfl) (QOp.loadM 3 rfl rfl rfl (tok _ rfl) rfl)) ?_
      refine DAny.qu 7 rfl rfl (by kernel_rfl) rfl (fun _ => .does _ _ rfl (by exact .yes _ _ _ rfl rfl rfl) (QOp.move rfl rfl)) ?_
      refine DAny.qu 8 rfl rfl (by kernel_rfl) rfl (fun _ => .does _ _ rfl (by exact .yes _ _ _ rfl rfl rfl) (QOp.move rfl rfl)) ?_
      refine DAny.qu 10 rfl rfl (by kernel_rfl) rfl (fun _ => .does _ _ rfl (by exact .yes _ _ _ rfl rfl rfl) (QOp.move rfl rfl)) ?_
      refine DAny.qu 11 rfl rfl (by kernel_rfl) rfl (fun _ => .does _ _ rfl (by exact .yes _ _ _ rfl rfl rfl) (QOp.move rfl rfl)) ?_
      refine DAny.qu 12 rfl rfl (by kernel_rfl) rfl (fun _ => .does _ _ rfl (by exact .yes _ _ _ rfl rfl rfl) (QOp.indexM rfl rfl rfl (tok _ rfl) rfl (tok _ rfl) (by omega) (by omega) rfl)) ?_
      refine DAny.ld 13 rfl rfl (by kernel_rfl) rfl (.does _ _ rfl (by exact .yes _ _ _ rfl rfl rfl) (QOp.loadAt 4 rfl rfl rfl (tok _ rfl) rfl (by assumption))) ?_
      refine DAny.ef 9 rfl (by kernel_rfl) (by exact .yes _ _ _ rfl rfl rfl) rfl rfl (AOp.callP 1 rfl (by kernel_rfl) rfl rfl rfl (hw1) ?_ (by rintro _ _ ⟨⟩))
      rintro _ _ ⟨⟩
      refine ⟨(by ((refine AllQ.cons (.does _ _ rfl (by exact .yes _ _ _ rfl rfl rfl) (QOp.loadAt 4 rfl rfl rfl (tok _ rfl) rfl (by assumption))) ?_); (exact AllQ.nil))), ?_⟩
      refine DAny.qu 14 rfl rfl (by kernel_rfl) rfl (fun _ => .does _ _ rfl (by exact .yes _ _ _ rfl rfl rfl) (QOp.cmpBool rfl rfl rfl (tok _ rfl) rfl rfl)) ?_
      refine DAny.qu 15 rfl rfl (by kernel_rfl) rfl (fun _ => .does _ _ rfl (.none rfl) (QOp.pickT rfl rfl rfl)) ?_
      refine DAny.qu 16 rfl rfl (by kernel_rfl) rfl (fun _ => .does _ _ rfl (.none rfl) (QOp.move rfl rfl)) ?_
      refine DAny.qu 17 rfl rfl (by kernel_rfl) rfl (fun _ => .does _ _ rfl (by exact .yes _ _ _ rfl rfl rfl) (QOp.move rfl rfl)) ?_
      refine DAny.qu 18 rfl rfl (by kernel_rfl) rfl (fun _ => .does _ _ rfl (by exact .yes _ _ _ rfl rfl rfl) (QOp.fieldM rfl rfl (tok _ rfl) rfl rfl (by decide) rfl)) ?_
      refine DAny.ld 19 rfl rfl (by kernel_rfl) rfl (.does _ _ rfl (by exact .yes _ _ _ rfl rfl rfl) (QOp.loadM 2 rfl rfl rfl (tok _ rfl) rfl)) ?_
      refine DAny.qu 20 rfl rfl (by kernel_rfl) rfl (fun _ => .does _ _ rfl (by exact .yes _ _ _ rfl rfl rfl) (QOp.lenI rfl rfl (tok _ rfl) rfl)) ?_
      refine DAny.qu 21 rfl rfl (by kernel_rfl) rfl (fun _ => .does _ _ rfl (by exact .yes _ _ _ rfl rfl rfl) (QOp.indexM rfl rfl rfl (tok _ rfl) rfl (tok _ rfl) (by omega) (by omega) rfl)) ?_
      refine DAny.ld 22 rfl rfl (by kernel_rfl) rfl (.does _ _ rfl (by exact .yes _ _ _ rfl rfl rfl) (QOp.loadAt 4 rfl rfl rfl (tok _ rfl) rfl (by assumption))) ?_
      refine DAny.qu 23 rfl rfl (by kernel_rfl) rfl (fun _ => .does _ _ rfl (.none rfl) (QOp.pickT rfl rfl rfl)) ?_
      refine DAny.qu 24 rfl rfl (by kernel_rfl) rfl (fun _ => .does _ _ rfl (.none rfl) (QOp.move rfl rfl)) ?_
      refine DAny.ld 25 rfl rfl (by kernel_rfl) rfl (.does _ _ rfl (by exact .yes _ _ _ rfl rfl rfl) (QOp.loadM 3 rfl rfl rfl (tok _ rfl) rfl)) ?_
      refine DAny.qu 26 rfl rfl (by kernel_rfl) rfl (fun _ => .does _ _ rfl (by exact .yes _ _ _ rfl rfl rfl) (QOp.move rfl rfl)) ?_
      refine DAny.ef 27 rfl (by kernel_rfl) (by exact .yes _ _ _ rfl rfl rfl) rfl rfl (AOp.callP 1 rfl (by kernel_rfl) rfl rfl rfl (hw2) ?_ (by rintro _ _ ⟨⟩))
      rintro _ _ ⟨⟩
      refine ⟨(by ((exact AllQ.nil))), ?_⟩
      refine DAny.qu 28 rfl rfl (by kernel_rfl) rfl (fun _ => .does _ _ rfl (.none rfl) (QOp.pickT rfl rfl rfl)) ?_
      refine DAny.qu 29 rfl rfl (by kernel_rfl) rfl (fun _ => .does _ _ rfl (.none rfl) (QOp.move rfl rfl)) ?_
      refine DAny.ld 30 rfl rfl (by kernel_rfl) rfl (.does _ _ rfl (by exact .yes _ _ _ rfl rfl rfl) (QOp.loadM 3 rfl rfl rfl (tok _ rfl) rfl)) ?_
      refine DAny.ef 31 rfl (by kernel_rfl) (by exact .yes _ _ _ rfl rfl rfl) rfl rfl (AOp.callP 1 rfl (by kernel_rfl) rfl rfl rfl (hrx) ?_ (by rintro _ _ ⟨⟩))
      rintro _ _ ⟨⟩
      refine ⟨(by ((exact AllQ.nil))), ?_⟩
      refine DAny.qu 32 rfl rfl (by kernel_rfl) rfl (fun _ => .does _ _ rfl (by exact .yes _ _ _ rfl rfl rfl) (QOp.lenN rfl rfl (tok _ rfl) rfl)) ?_
      refine DAny.qu 33 rfl rfl (by kernel_rfl) rfl (fun _ => .does _ _ rfl (by exact .yes _ _ _ rfl rfl rfl) (QOp.cmp rfl rfl rfl rfl)) ?_
      refine DAny.qu 34 rfl rfl (by kernel_rfl) rfl (fun _ => .does _ _ rfl (.none rfl) (QOp.pickT rfl rfl rfl)) ?_
      refine DAny.ef 35 rfl (by kernel_rfl) (.none rfl) rfl rfl (.q (QOp.assign rfl rfl) ⟨(by ((exact AllQ.nil))), ?_⟩)
      refine DAny.done (by kernel_rfl) ?_
      refine ACode.ret ?_
      refine bodyQ_ret 0 (.tmp rfl .nil) rfl ?_
      exact .mk
    | true =>
      rw [hβ] at hw1 hcb
      refine ACode.drawn [[], [], [0, 1], [], [0, 1, 2, 3], [0, 1, 2, 3, 4], [0, 1, 2, 3, 4, 5], [0, 1, 2, 3, 4, 5], [0, 1, 2, 3, 4, 5], [0, 1, 2, 3, 4, 5, 6, 7, 8], [0, 1, 2, 3, 4, 5], [0, 1, 2, 3, 4, 5], [0, 1, 2, 3, 4, 5, 10, 11], [0, 1, 2, 3, 4, 5, 10, 11, 12], [0, 1, 2, 3, 4, 5, 6, 7, 8, 9, 10, 11, 12, 13], [0, 1, 2, 3, 4, 5, 6, 7, 8, 9, 10, 11, 12, 13, 14], [0, 1, 2, 3, 4, 5, 6, 7, 8, 9, 10, 11, 12, 13, 14, 15], [0, 1, 2, 3, 4, 5, 6, 7, 8, 9, 10, 11, 12, 13, 14, 15, 16], [0, 1, 2, 3, 4, 5, 6, 7, 8, 9, 10, 11, 12, 13, 14, 15, 16], [0, 1, 2, 3, 4, 5, 6, 7, 8, 9, 10, 11, 12, 13, 14, 15, 16, 18], [0, 1, 2, 3, 4, 5, 6, 7, 8, 9, 10, 11, 12, 13, 14, 15, 16, 18, 19], [0, 1, 2, 3, 4, 5, 6, 7, 8, 9, 10, 11, 12, 13, 14, 15, 16, 17, 18, 19, 20], [0, 1, 2, 3, 4, 5, 6, 7, 8, 9, 10, 11, 12, 13, 14, 15, 16, 17, 18, 19, 20, 21], [0, 1, 2, 3, 4, 5, 6, 7, 8, 9, 10, 11, 12, 13, 14, 15, 16, 17, 18, 19, 20, 21, 22], [0, 1, 2, 3, 4, 5, 6, 7, 8, 9, 10, 11, 12, 13, 14, 15, 16, 17, 18, 19, 20, 21, 22, 23], [0, 1, 2, 3, 4, 5, 6, 7, 8, 9, 10, 11, 12, 13, 14, 15, 16, 17, 18, 19, 20, 21, 22, 23, 24], [0, 1, 2, 3, 4, 5, 6, 7, 8, 9, 10, 11, 12, 13, 14, 15, 16, 17, 18, 19, 20, 21, 22, 23, 24], [0, 1, 2, 3, 4, 5, 6, 7, 8, 9, 10, 11, 12, 13, 14, 15, 16, 17, 18, 19, 20, 21, 22, 23, 24, 25, 26], [0, 1, 2, 3, 4, 5, 6, 7, 8, 9, 10, 11, 12, 13, 14, 15, 16, 17, 18, 19, 20, 21, 22, 23, 24, 25, 26, 27], [0, 1, 2, 3, 4, 5, 6, 7, 8, 9, 10, 11, 12, 13, 14, 15, 16, 17, 18, 19, 20, 21, 22, 23, 24, 25, 26, 27, 28], [0, 1, 2, 3, 4, 5, 6, 7, 8, 9, 10, 11, 12, 13, 14, 15, 16, 17, 18, 19, 20, 21, 22, 23, 24, 25, 26, 27, 28, 29], [0, 1, 2, 3, 4, 5, 6, 7, 8, 9, 10, 11, 12, 13, 14, 15, 16, 17, 18, 19, 20, 21, 22, 23, 24, 25, 26, 27, 28, 29, 30], [0, 1, 2, 3, 4, 5, 6, 7, 8, 9, 10, 11, 12, 13, 14, 15, 16, 17, 18, 19, 20, 21, 22, 23, 24, 25, 26, 27, 28, 29, 30, 31], [0, 1, 2, 3, 4, 5, 6, 7, 8, 9, 10, 11, 12, 13, 14, 15, 16, 17, 18, 19, 20, 21, 22, 23, 24, 25, 26, 27, 28, 29, 30, 31, 32], [0, 1, 2, 3, 4, 5, 6, 7, 8, 9, 10, 11, 12, 13, 14, 15, 16, 17, 18, 19, 20, 21, 22, 23, 24, 25, 26, 27, 28, 29, 30, 31, 32, 33], [0, 1, 2, 3, 4, 5, 6, 7, 8, 9, 10, 11, 12, 13, 14, 15, 16, 17, 18, 19, 20, 21, 22, 23, 24, 25, 26, 27, 28, 29, 30, 31, 32, 33, 34]] (by kernel_rfl) mixed ?_
      refine DAny.ld 0 rfl rfl (by kernel_rfl) rfl (.does _ _ rfl (.none rfl) (QOp.loadM 2 rfl rfl rfl (tok _ rfl) rfl)) ?_
      refine DAny.qu 1 rfl rfl (by kernel_rfl) rfl (fun _ => .does _ _ rfl (.none rfl) (QOp.move rfl rfl)) ?_
      refine DAny.qu 3 rfl rfl (by kernel_rfl) rfl (fun _ => .does _ _ rfl (.none rfl) (QOp.move rfl rfl)) ?_
      refine DAny.ef 2 rfl (by kernel_rfl) (.none rfl) rfl rfl (AOp.callP 1 rfl (by kernel_rfl) rfl rfl rfl (hr1) ?_ (by rintro _ _ ⟨⟩))
      rintro _ _ ⟨mo⟩
      refine ⟨(by ((exact AllQ.nil))), ?_⟩
      refine DAny.ef 4 rfl (by kernel_rfl) (.none rfl) rfl rfl (AOp.callP 2 rfl (by kernel_rfl) rfl rfl rfl (hin mo) ?_ (by rintro _ _ ⟨⟩))
      rintro _ _ ⟨⟩
      refine ⟨(by ((exact AllQ.nil))), ?_⟩
      refine DAny.qu 5 rfl rfl (by kernel_rfl) rfl (fun _ => .does _ _ rfl (.none rfl) (QOp.move rfl rfl)) ?_
      refine DAny.ld 6 rfl rfl (by kernel_rfl) rfl (.does _ _ rfl (by exact .yes _ _ _ rfl rfl rfl) (QOp.loadM 3 rfl rfl rfl (tok _ rfl) rfl)) ?_
      refine DAny.qu 7 rfl rfl (by kernel_rfl) rfl (fun _ => .does _ _ rfl (by exact .yes _ _ _ rfl rfl rfl) (QOp.move rfl rfl)) ?_
      refine DAny.qu 8 rfl rfl (by kernel_rfl) rfl (fun _ => .does _ _ rfl (by exact .yes _ _ _ rfl rfl rfl) (QOp.move rfl rfl)) ?_
      refine DAny.qu 10 rfl rfl (by kernel_rfl) rfl (fun _ => .does _ _ rfl (by exact .yes _ _ _ rfl rfl rfl) (QOp.move rfl rfl)) ?_
      refine DAny.qu 11 rfl rfl (by kernel_rfl) rfl (fun _ => .does _ _ rfl (by exact .yes _ _ _ rfl rfl rfl) (QOp.move rfl rfl)) ?_
      refine DAny.qu 12 rfl rfl (by kernel_rfl) rfl (fun _ => .does _ _ rfl (by exact .yes _ _ _ rfl rfl rfl) (QOp.indexM rfl rfl rfl (tok _ rfl) rfl (tok _ rfl) (by omega) (by omega) rfl)) ?_
      refine DAny.ld 13 rfl rfl (by kernel_rfl) rfl (.does _ _ rfl (by exact .yes _ _ _ rfl rfl rfl) (QOp.loadAt 4 rfl rfl rfl (tok _ rfl) rfl (by assumption))) ?_
      refine DAny.ef 9 rfl (by kernel_rfl) (by exact .yes _ _ _ rfl rfl rfl) rfl rfl (AOp.callP 1 rfl (by kernel_rfl) rfl rfl rfl (hw1) ?_ (by rintro _ _ ⟨⟩))
      rintro _ _ ⟨⟩
      refine ⟨(by ((refine AllQ.cons (.does _ _ rfl (by exact .yes _ _ _ rfl rfl rfl) (QOp.loadAt 4 rfl rfl rfl (tok _ rfl) rfl (by assumption))) ?_); (exact AllQ.nil))), ?_⟩
      refine DAny.qu 14 rfl rfl (by kernel_rfl) rfl (fun _ => .does _ _ rfl (by exact .yes _ _ _ rfl rfl rfl) (QOp.cmpBool rfl rfl rfl (tok _ rfl) rfl rfl)) ?_
      refine DAny.qu 15 rfl rfl (by kernel_rfl) rfl (fun _ => .does _ _ rfl (.none rfl) (QOp.pickT rfl rfl rfl)) ?_
      refine DAny.qu 16 rfl rfl (by kernel_rfl) rfl (fun _ => .does _ _ rfl (.none rfl) (QOp.move rfl rfl)) ?_
      refine DAny.qu 17 rfl rfl (by kernel_rfl) rfl (fun _ => .does _ _ rfl (by exact .yes _ _ _ rfl rfl rfl) (QOp.move rfl rfl)) ?_
      refine DAny.qu 18 rfl rfl (by kernel_rfl) rfl (fun _ => .does _ _ rfl (by exact .yes _ _ _ rfl rfl rfl) (QOp.fieldM rfl rfl (tok _ rfl) rfl rfl (by decide) rfl)) ?_
      refine DAny.ld 19 rfl rfl (by kernel_rfl) rfl (.does _ _ rfl (by exact .yes _ _ _ rfl rfl rfl) (QOp.loadM 2 rfl rfl rfl (tok _ rfl) rfl)) ?_
      refine DAny.qu 20 rfl rfl (by kernel_rfl) rfl (fun _ => .does _ _ rfl (by exact .yes _ _ _ rfl rfl rfl) (QOp.lenI rfl rfl (tok _ rfl) rfl)) ?_
      refine DAny.qu 21 rfl rfl (by kernel_rfl) rfl (fun _ => .does _ _ rfl (by exact .yes _ _ _ rfl rfl rfl) (QOp.indexM rfl rfl rfl (tok _ rfl) rfl (tok _ rfl) (by omega) (by omega) rfl)) ?_
      refine DAny.ld 22 rfl rfl (by kernel_rfl) rfl (.does _ _ rfl (by exact .yes _ _ _ rfl rfl rfl) (QOp.loadAt 4 rfl rfl rfl (tok _ rfl) rfl (by assumption))) ?_
      refine DAny.qu 23 rfl rfl (by kernel_rfl) rfl (fun _ => .does _ _ rfl (.none rfl) (QOp.pickT rfl rfl rfl)) ?_
      refine DAny.qu 24 rfl rfl (by kernel_rfl) rfl (fun _ => .does _ _ rfl (.none rfl) (QOp.move rfl rfl)) ?_
      refine DAny.ld 25 rfl rfl (by kernel_rfl) rfl (.does _ _ rfl (by exact .yes _ _ _ rfl rfl rfl) (QOp.loadM 3 rfl rfl rfl (tok _ rfl) rfl)) ?_
      refine DAny.qu 26 rfl rfl (by kernel_rfl) rfl (fun _ => .does _ _ rfl (by exact .yes _ _ _ rfl rfl rfl) (QOp.move rfl rfl)) ?_
      refine DAny.ef 27 rfl (by kernel_rfl) (by exact .yes _ _ _ rfl rfl rfl) rfl rfl (AOp.callP 1 rfl (by kernel_rfl) rfl rfl rfl (hw2) ?_ (by rintro _ _ ⟨⟩))
      rintro _ _ ⟨⟩
      refine ⟨(by ((exact AllQ.nil))), ?_⟩
      refine DAny.qu 28 rfl rfl (by kernel_rfl) rfl (fun _ => .does _ _ rfl (.none rfl) (QOp.pickT rfl rfl rfl)) ?_
      refine DAny.qu 29 rfl rfl (by kernel_rfl) rfl (fun _ => .does _ _ rfl (.none rfl) (QOp.move rfl rfl)) ?_
      refine DAny.ld 30 rfl rfl (by kernel_rfl) rfl (.does _ _ rfl (by exact .yes _ _ _ rfl rfl rfl) (QOp.loadM 3 rfl rfl rfl (tok _ rfl) rfl)) ?_
      refine DAny.ef 31 rfl (by kernel_rfl) (by exact .yes _ _ _ rfl rfl rfl) rfl rfl (AOp.callP 1 rfl (by kernel_rfl) rfl rfl rfl (hrx) ?_ (by rintro _ _ ⟨⟩))
      rintro _ _ ⟨⟩
      refine ⟨(by ((exact AllQ.nil))), ?_⟩
      refine DAny.qu 32 rfl rfl (by kernel_rfl) rfl (fun _ => .does _ _ rfl (by exact .yes _ _ _ rfl rfl rfl) (QOp.lenN rfl rfl (tok _ rfl) rfl)) ?_
      refine DAny.qu 33 rfl rfl (by kernel_rfl) rfl (fun _ => .does _ _ rfl (by exact .yes _ _ _ rfl rfl rfl) (QOp.cmp rfl rfl rfl rfl)) ?_
      refine DAny.qu 34 rfl rfl (by kernel_rfl) rfl (fun _ => .does _ _ rfl (.none rfl) (QOp.pickT rfl rfl rfl)) ?_
      refine DAny.ef 35 rfl (by kernel_rfl) (.none rfl) rfl rfl (.q (QOp.assign rfl rfl) ⟨(by ((exact AllQ.nil))), ?_⟩)
      refine DAny.done (by kernel_rfl) ?_
      refine ACode.ret ?_
      refine bodyQ_ret 0 (.tmp rfl .nil) rfl ?_
      exact .mk
end Go.Proofs.Ytaadamobapnfbaa
