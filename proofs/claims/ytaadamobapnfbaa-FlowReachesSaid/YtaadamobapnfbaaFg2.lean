/- Own texts, put together by a program: E0 E1 E2 E3 F0 F1 G0 G1 G2 G3 G4. -/
import Derived.Test.YtaadamobapnfbaaFg1
/- Tokens, on data. -/
set_option linter.unusedVariables false
namespace Go.Proofs.Ytaadamobapnfbaa
open Go Go.Abs
def isLetter (c : Int) : Bool := (decide (c ≥ 97) && decide (c ≤ 122) || decide (c ≥ 65) && decide (c ≤ 90)) || c == 95
def isDigit (c : Int) : Bool := decide (c ≥ 48) && decide (c ≤ 57)
def isBlank (c : Int) : Bool := ((c == 32 || c == 9) || c == 10) || c == 13
def hasS (l : List ByteArray) (s : ByteArray) : Bool := l.any fun x => x.data.toList == s.data.toList
def wordL : List ByteArray := [⟨#[98, 114, 101, 97, 107]⟩, ⟨#[99, 111, 110, 116, 105, 110, 117, 101]⟩, ⟨#[101, 108, 115, 101]⟩, ⟨#[102, 97, 108, 115, 101]⟩, ⟨#[102, 117, 110, 99]⟩, ⟨#[105, 102]⟩, ⟨#[105, 110, 116]⟩, ⟨#[112, 114, 105, 110, 116]⟩, ⟨#[114, 101, 97, 100]⟩, ⟨#[114, 101, 116, 117, 114, 110]⟩, ⟨#[116, 114, 117, 101]⟩, ⟨#[118, 97, 114]⟩, ⟨#[119, 104, 105, 108, 101]⟩]
def twoL : List ByteArray := [⟨#[61, 61]⟩, ⟨#[33, 61]⟩, ⟨#[60, 61]⟩, ⟨#[62, 61]⟩, ⟨#[38, 38]⟩, ⟨#[124, 124]⟩]
def oneL : List ByteArray := [⟨#[43]⟩, ⟨#[45]⟩, ⟨#[42]⟩, ⟨#[47]⟩, ⟨#[37]⟩, ⟨#[60]⟩, ⟨#[62]⟩, ⟨#[33]⟩, ⟨#[61]⟩, ⟨#[40]⟩, ⟨#[41]⟩, ⟨#[123]⟩, ⟨#[125]⟩, ⟨#[91]⟩, ⟨#[93]⟩, ⟨#[44]⟩, ⟨#[59]⟩]
/-- how many bytes are blanks; in a comment, or not -/
def skipL : Bool → List UInt8 → Nat
  | _, [] => 0
  | true, b :: l => if (b.toNat : Int) = 10 then 1 + skipL false l else 1 + skipL true l
  | false, b :: l => if isBlank b.toNat = true then 1 + skipL false l else if (b.toNat : Int) = 35 then 1 + skipL true l else 0
def runL (f : Int → Bool) : List UInt8 → Nat
  | [] => 0
  | b :: l => if f b.toNat = true then 1 + runL f l else 0
theorem skipL_le : ∀ (l : List UInt8) (c : Bool), skipL c l ≤ l.length
  | [], c => by cases c <;> simp [skipL]
  | b :: l, true => by
    have := skipL_le l false; have := skipL_le l true
    simp only [skipL, List.length_cons]; split <;> omega
  | b :: l, false => by
    have := skipL_le l false; have := skipL_le l true
    simp only [skipL, List.length_cons]; split
    · omega
    · split <;> omega
theorem runL_le (f : Int → Bool) : ∀ l : List UInt8, runL f l ≤ l.length
  | [] => by simp [runL]
  | b :: l => by
    have := runL_le f l
    simp only [runL, List.length_cons]; split <;> omega
def byteAt (s : ByteArray) (i : Nat) : Int := ((s.data.toList.getD i 0).toNat : Int)
def letOrDig (c : Int) : Bool := isLetter c || isDigit c
def behind (s : ByteArray) (at_ : Nat) : Nat := at_ + skipL false (s.data.toList.drop at_)
def nextAt (s : ByteArray) (i : Nat) : Tok × Int :=
  if i = s.size then (⟨0, i, i⟩, 0)
  else if isLetter (byteAt s i) = true then
    if hasS wordL (s.extract i (i + runL letOrDig (s.data.toList.drop i))) = true then (⟨3, i, (i + runL letOrDig (s.data.toList.drop i) : Nat)⟩, 0)
    else (⟨1, i, (i + runL letOrDig (s.data.toList.drop i) : Nat)⟩, 0)
  else if isDigit (byteAt s i) = true then
    if 18 < runL isDigit (s.data.toList.drop i) ∨ (1 < runL isDigit (s.data.toList.drop i) ∧ byteAt s i = 48) ∨
      (i + runL isDigit (s.data.toList.drop i) < s.size ∧ isLetter (byteAt s (i + runL isDigit (s.data.toList.drop i))) = true) then (⟨0, i, i⟩, 2)
    else (⟨2, i, (i + runL isDigit (s.data.toList.drop i) : Nat)⟩, 0)
  else if i + 2 ≤ s.size ∧ hasS twoL (s.extract i (i + 2)) = true then (⟨4, i, (i + 2 : Nat)⟩, 0)
  else if hasS oneL (s.extract i (i + 1)) = true then (⟨4, i, (i + 1 : Nat)⟩, 0)
  else (⟨0, i, i⟩, 2)
def nextTok (s : ByteArray) (at_ : Nat) : Tok × Int := nextAt s (behind s at_)
def allToks : Nat → ByteArray → Nat → List Tok → List Tok × Int × Int
  | 0, _, _, _ => ([], 0, 99)
  | n + 1, s, at_, out =>
    if (nextTok s at_).2 ≠ 0 then ([], (nextTok s at_).1.fr, (nextTok s at_).2)
    else if (nextTok s at_).1.kind = 0 then (out ++ [(nextTok s at_).1], 0, 0)
    else allToks n s (nextTok s at_).1.to.toNat (out ++ [(nextTok s at_).1])
def tokens (s : ByteArray) : List Tok × Int × Int := if 20000 < s.size then ([], 0, 1) else allToks (s.size + 1) s 0 []

theorem behind_le {s : ByteArray} {i : Nat} (h : i ≤ s.size) : i ≤ behind s i ∧ behind s i ≤ s.size := by
  have h1 := skipL_le (s.data.toList.drop i) false
  have h2 : s.data.toList.length = s.size := by simp
  rw [List.length_drop] at h1
  unfold behind
  omega
theorem drop_getD {s : ByteArray} {i : Nat} (h : i < s.size) : s.data.toList.drop i = s.data.toList.getD i 0 :: s.data.toList.drop (i + 1) := by
  have h2 : i < s.data.toList.length := by simpa using h
  rw [List.drop_eq_getElem_cons h2, List.getD_eq_getElem?_getD, List.getElem?_eq_getElem h2]; rfl
theorem getD_get {s : ByteArray} {i : Nat} (h : i < s.size) : s.data.toList[i]? = some (s.data.toList.getD i 0) := by
  have h2 : i < s.data.toList.length := by simpa using h
  rw [List.getD_eq_getElem?_getD, List.getElem?_eq_getElem h2]; rfl
theorem runL_pos {f : Int → Bool} {s : ByteArray} {i : Nat} (h : i < s.size) (hf : f (byteAt s i) = true) : 0 < runL f (s.data.toList.drop i) := by
  rw [drop_getD h]; simp only [runL]; rw [if_pos (show f ((s.data.toList.getD i 0).toNat : Int) = true from hf)]; omega
theorem runL_end (f : Int → Bool) (s : ByteArray) {i : Nat} (h : i ≤ s.size) : i + runL f (s.data.toList.drop i) ≤ s.size := by
  have h1 := runL_le f (s.data.toList.drop i)
  have h2 : s.data.toList.length = s.size := by simp
  rw [List.length_drop] at h1; omega
theorem runL_all (f : Int → Bool) : ∀ l : List UInt8, ∀ b ∈ l.take (runL f l), f b.toNat = true
  | [], b, hb => by simp at hb
  | x :: l, b, hb => by
    simp only [runL] at hb
    split at hb
    · rename_i hx
      rw [Nat.add_comm, List.take_succ_cons, List.mem_cons] at hb
      rcases hb with rfl | hb
      · exact hx
      · exact runL_all f l b hb
    · simp at hb
/-- What the next token is, where it is one. -/
structure TokOk (s : ByteArray) (at_ : Nat) (t : Tok) : Prop where
  fr : (at_ : Int) ≤ t.fr
  to : t.fr ≤ t.to
  end_ : t.to ≤ s.size
  kind : t.kind ≠ 0 → t.fr < t.to
  num : t.kind = 2 → digs (s.extract t.fr.toNat t.to.toNat).data.toList ∧ (s.extract t.fr.toNat t.to.toNat).size ≤ 18
theorem nextTok_ok {s : ByteArray} {at_ : Nat} (h : at_ ≤ s.size) (hc : (nextTok s at_).2 = 0) : TokOk s at_ (nextTok s at_).1 := by
  obtain ⟨h1, h2⟩ := behind_le h
  unfold nextTok at hc ⊢
  generalize behind s at_ = i at h1 h2 hc ⊢
  unfold nextAt at hc ⊢
  split
  · exact ⟨by dsimp only; omega, by dsimp only; omega, by dsimp only; omega, fun h => absurd rfl h, fun h => by simp at h⟩
  rename_i h0
  rw [if_neg h0] at hc
  have hi : i < s.size := by omega
  split
  · rename_i hl
    have hp : 0 < runL letOrDig (s.data.toList.drop i) := runL_pos hi (by unfold letOrDig; rw [hl]; rfl)
    have he := runL_end letOrDig s h2
    split
    · exact ⟨by dsimp only; omega, by dsimp only; omega, by dsimp only; omega, fun _ => by dsimp only; omega, fun h => by simp at h⟩
    · exact ⟨by dsimp only; omega, by dsimp only; omega, by dsimp only; omega, fun _ => by dsimp only; omega, fun h => by simp at h⟩
  rename_i hl
  rw [if_neg hl] at hc
  split
  · rename_i hd
    rw [if_pos hd] at hc
    have hp : 0 < runL isDigit (s.data.toList.drop i) := runL_pos hi hd
    have he := runL_end isDigit s h2
    split
    · rename_i hx; rw [if_pos hx] at hc; simp at hc
    · rename_i hx
      refine ⟨by dsimp only; omega, by dsimp only; omega, by dsimp only; omega, fun _ => by dsimp only; omega, fun _ => ⟨fun b hb => ?_, ?_⟩⟩
      · simp only [Int.toNat_natCast] at hb
        have hb : b ∈ (s.data.toList.drop i).take (runL isDigit (s.data.toList.drop i)) := by
          simpa [ByteArray.data_extract, List.extract_eq_take_drop, Nat.add_sub_cancel_left] using hb
        have := runL_all isDigit _ b hb
        simp only [isDigit, Bool.and_eq_true, decide_eq_true_eq] at this
        omega
      · simp only [Int.toNat_natCast, ByteArray.size_extract]; omega
  rename_i hd
  rw [if_neg hd] at hc
  split
  · rename_i hx
    exact ⟨by dsimp only; omega, by dsimp only; omega, by dsimp only; omega, fun _ => by dsimp only; omega, fun h => by simp at h⟩
  rename_i hx
  rw [if_neg hx] at hc
  split
  · exact ⟨by dsimp only; omega, by dsimp only; omega, by dsimp only; omega, fun _ => by dsimp only; omega, fun h => by simp at h⟩
  · rename_i hy; rw [if_neg hy] at hc; simp at hc
end Go.Proofs.Ytaadamobapnfbaa
/- Tokens: the functions on single bytes, walked; Skip. -/
set_option linter.unusedVariables false
set_option linter.unusedSimpArgs false
set_option maxRecDepth 100000
namespace Go.Proofs.Ytaadamobapnfbaa
open Go Go.Abs
def vb (c : Int) : AV := .v (.int .u8 c)
theorem digit_ok (c : Int) : ACalls Try.prog 75 [vb c] [] (RV (.v (.bool (isDigit c))) []) := by
  refine ACalls.of_code (c := _) Try.func75 rfl Try.ntmps75 (Nat.le_of_ble_eq_true rfl) ?_
  refine ACode.seq (ACode.region ?_)
  refine ASeq.q rfl rfl (QOp.assign rfl rfl) ?_
  refine ASeq.nil ?_
  refine ACode.seq (ACode.region ?_)
  refine ASeq.q rfl rfl (QOp.move rfl rfl) ?_
  refine ASeq.q rfl rfl (QOp.cmp rfl rfl rfl rfl) ?_
  refine ASeq.q rfl rfl (QOp.move rfl rfl) ?_
  refine ASeq.split 5 (decide (c ≥ 48)) rfl (fun hb => ?_) (fun hb => ?_)
  · refine ASeq.gq _ _ rfl rfl rfl rfl (QOp.move rfl rfl) ?_
    refine ASeq.gq _ _ rfl rfl rfl rfl (QOp.cmp rfl rfl rfl rfl) ?_
    refine ASeq.q rfl rfl (QOp.pickT rfl rfl rfl) ?_
    refine ASeq.q rfl rfl (QOp.assign rfl rfl) ?_
    refine ASeq.nil ?_
    refine ACode.ret ?_
    refine bodyQ_ret 0 (.tmp rfl .nil) rfl ?_
    rw [show isDigit c = decide (c ≤ 57) by unfold isDigit; rw [hb]; rfl]; exact .mk
  · refine ASeq.gno _ _ rfl rfl rfl rfl rfl ?_
    refine ASeq.gno _ _ rfl rfl rfl rfl rfl ?_
    refine ASeq.q rfl rfl (QOp.pickF rfl rfl rfl) ?_
    refine ASeq.q rfl rfl (QOp.assign rfl rfl) ?_
    refine ASeq.nil ?_
    refine ACode.ret ?_
    refine bodyQ_ret 0 (.tmp rfl .nil) rfl ?_
    rw [show isDigit c = false by unfold isDigit; rw [hb]; rfl]; exact .mk
theorem letter_ok (c : Int) : ACalls Try.prog 74 [vb c] [] (RV (.v (.bool (isLetter c))) []) := by
  refine ACalls.of_code (c := _) Try.func74 rfl Try.ntmps74 (Nat.le_of_ble_eq_true rfl) ?_
  refine ACode.seq (ACode.region ?_)
  refine ASeq.q rfl rfl (QOp.assign rfl rfl) ?_
  refine ASeq.nil ?_
  refine ACode.seq (ACode.region ?_)
  refine ASeq.cut 6 [(0, vb c), (8, .v (.bool (decide (c ≥ 97) && decide (c ≤ 122))))] (fun rest => ?_) ?_
  · refine ASeq.q rfl rfl (QOp.move rfl rfl) ?_
    refine ASeq.q rfl rfl (QOp.cmp rfl rfl rfl rfl) ?_
    refine ASeq.q rfl rfl (QOp.move rfl rfl) ?_
    refine ASeq.split 5 (decide (c ≥ 97)) rfl (fun hb => ?_) (fun hb => ?_)
    · refine ASeq.gq _ _ rfl rfl rfl rfl (QOp.move rfl rfl) ?_
      refine ASeq.gq _ _ rfl rfl rfl rfl (QOp.cmp rfl rfl rfl rfl) ?_
      refine ASeq.q rfl rfl (QOp.pickT rfl rfl rfl) ?_
      exact rest.at_ (.cons rfl (.consB rfl (by rw [hb]; rfl) .nil))
    · refine ASeq.gno _ _ rfl rfl rfl rfl rfl ?_
      refine ASeq.gno _ _ rfl rfl rfl rfl rfl ?_
      refine ASeq.q rfl rfl (QOp.pickF rfl rfl rfl) ?_
      exact rest.at_ (.cons rfl (.consB rfl (by rw [hb]; rfl) .nil))
  refine ASeq.cut 8 [(0, vb c), (16, .v (.bool (decide (c ≥ 97) && decide (c ≤ 122) || decide (c ≥ 65) && decide (c ≤ 90))))] (fun rest => ?_) ?_
  · refine ASeq.q rfl rfl (QOp.move rfl rfl) ?_
    refine ASeq.split 9 (decide (c ≥ 97) && decide (c ≤ 122)) rfl (fun hb => ?_) (fun hb => ?_)
    · refine ASeq.gno _ _ rfl rfl rfl rfl rfl ?_
      refine ASeq.gno _ _ rfl rfl rfl rfl rfl ?_
      refine ASeq.gno _ _ rfl rfl rfl rfl rfl ?_
      refine ASeq.gno _ _ rfl rfl rfl rfl rfl ?_
      refine ASeq.gno _ _ rfl rfl rfl rfl rfl ?_
      refine ASeq.gno _ _ rfl rfl rfl rfl rfl ?_
      refine ASeq.q rfl rfl (QOp.pickT rfl rfl rfl) ?_
      exact rest.at_ (.cons rfl (.consB rfl (by rw [hb]; rfl) .nil))
    · refine ASeq.gq _ _ rfl rfl rfl rfl (QOp.move rfl rfl) ?_
      refine ASeq.gq _ _ rfl rfl rfl rfl (QOp.cmp rfl rfl rfl rfl) ?_
      refine ASeq.gq _ _ rfl rfl rfl rfl (QOp.move rfl rfl) ?_
      refine ASeq.split 12 (decide (c ≥ 65)) rfl (fun hb2 => ?_) (fun hb2 => ?_)
      · refine ASeq.gq _ _ rfl rfl rfl rfl (QOp.move rfl rfl) ?_
        refine ASeq.gq _ _ rfl rfl rfl rfl (QOp.cmp rfl rfl rfl rfl) ?_
        refine ASeq.gq _ _ rfl rfl rfl rfl (QOp.pickT rfl rfl rfl) ?_
        refine ASeq.q rfl rfl (QOp.pickF rfl rfl rfl) ?_
        exact rest.at_ (.cons rfl (.consB rfl (by rw [hb, hb2]; rfl) .nil))
      · refine ASeq.gno _ _ rfl rfl rfl rfl rfl ?_
        refine ASeq.gno _ _ rfl rfl rfl rfl rfl ?_
        refine ASeq.gq _ _ rfl rfl rfl rfl (QOp.pickF rfl rfl rfl) ?_
        refine ASeq.q rfl rfl (QOp.pickF rfl rfl rfl) ?_
        exact rest.at_ (.cons rfl (.consB rfl (by rw [hb, hb2]; rfl) .nil))
  refine ASeq.q rfl rfl (QOp.move rfl rfl) ?_
  refine ASeq.split 17 (decide (c ≥ 97) && decide (c ≤ 122) || decide (c ≥ 65) && decide (c ≤ 90)) rfl (fun hb => ?_) (fun hb => ?_)
  · refine ASeq.gno _ _ rfl rfl rfl rfl rfl ?_
    refine ASeq.gno _ _ rfl rfl rfl rfl rfl ?_
    refine ASeq.q rfl rfl (QOp.pickT rfl rfl rfl) ?_
    refine ASeq.q rfl rfl (QOp.assign rfl rfl) ?_
    refine ASeq.nil ?_
    refine ACode.ret ?_
    refine bodyQ_ret 0 (.tmp rfl .nil) rfl ?_
    rw [show isLetter c = true by unfold isLetter; rw [hb]; rfl]; exact .mk
  · refine ASeq.gq _ _ rfl rfl rfl rfl (QOp.move rfl rfl) ?_
    refine ASeq.gq _ _ rfl rfl rfl rfl (QOp.cmp rfl rfl rfl rfl) ?_
    refine ASeq.q rfl rfl (QOp.pickF rfl rfl rfl) ?_
    refine ASeq.q rfl rfl (QOp.assign rfl rfl) ?_
    refine ASeq.nil ?_
    refine ACode.ret ?_
    refine bodyQ_ret 0 (.tmp rfl .nil) rfl ?_
    rw [show isLetter c = (c == 95) by unfold isLetter; rw [hb]; rfl]; exact .mk
theorem has_drop (l : List ByteArray) (s : ByteArray) (i : Nat) (h : i < l.length) : hasS (l.drop i) s = ((l[i].data.toList == s.data.toList) || hasS (l.drop (i + 1)) s) := by
  rw [List.drop_eq_getElem_cons h]; simp only [hasS, List.any_cons]
theorem strs_len (l : List ByteArray) : (strs l).length = l.length := by simp [strs]
theorem has_ok (l : List ByteArray) (s : ByteArray) (hl : l.length ≤ 1000) : ACalls Try.prog 76 [.il 1 none (strs l), vs s] [] (RV (.v (.bool (hasS l s))) []) := by
  have hsl := strs_len l
  refine ACalls.of_code (c := _) Try.func76 rfl Try.ntmps76 (Nat.le_of_ble_eq_true rfl) ?_
  refine ACode.seq (ACode.region ?_)
  refine ASeq.q rfl rfl (QOp.assign rfl rfl) ?_
  refine ASeq.nil ?_
  refine ACode.seq (ACode.seq (ACode.region ?_))
  refine ASeq.q rfl rfl (QOp.move rfl rfl) ?_
  refine ASeq.q rfl rfl (QOp.lenI rfl rfl (tok _ rfl) rfl) ?_
  refine ASeq.q rfl rfl (QOp.move rfl rfl) ?_
  refine ASeq.nil ?_
  refine ACode.block ?_
  refine ACode.loopP (fun i : Nat => [(0, .il 1 none (strs l)), (1, vs s), (7, vi ((strs l).length : Int)), (8, vi i)]) (fun _ => []) (fun i => l.length - i)
    (fun i => i ≤ l.length ∧ hasS (l.drop i) s = hasS l s) 0 ⟨Nat.zero_le _, rfl⟩ (.cons rfl (.cons rfl (.cons rfl (.cons rfl .nil)))) 0 rfl ?_
  rintro i ⟨hi, he⟩
  refine ACode.seq (ACode.region ?_)
  refine ASeq.q rfl rfl (QOp.cmp rfl rfl rfl rfl) ?_
  refine ASeq.nil ?_
  refine ACode.seq ?_
  refine ACode.cond _ rfl (fun hb => ?_) (fun hb => ?_)
  · have hlt : i < l.length := by simpa [hsl] using hb
    have hget := strs_get hlt
    rw [has_drop l s i hlt] at he
    refine ACode.skip (ACode.seq (ACode.block (ACode.seq (ACode.region ?_))))
    refine ASeq.q rfl rfl (QOp.move rfl rfl) ?_
    refine ASeq.q rfl rfl (QOp.assign rfl rfl) ?_
    refine ASeq.nil ?_
    refine ACode.seq (ACode.region ?_)
    refine ASeq.q rfl rfl (QOp.move rfl rfl) ?_
    refine ASeq.q rfl rfl (QOp.move rfl rfl) ?_
    refine ASeq.q rfl rfl (QOp.indexI rfl rfl rfl (tok _ rfl) rfl (tok _ rfl) (by omega) (by assumption)) ?_
    refine ASeq.q rfl rfl (QOp.loadI rfl rfl (tok _ rfl) rfl) ?_
    refine ASeq.q rfl rfl (QOp.move rfl rfl) ?_
    refine ASeq.q rfl rfl (QOp.cmpStr rfl rfl rfl rfl) ?_
    refine ASeq.nil ?_
    refine AExit.then_normal ?_
    refine ACode.cond _ rfl (fun hb => ?_) (fun hb => ?_)
    · refine ACode.seq (ACode.region ?_)
      refine ASeq.q rfl rfl (QOp.assign rfl rfl) ?_
      refine ASeq.nil ?_
      refine ACode.ret (AExit.in_ret (AExit.then_ret (AExit.then_ret (AExit.in_ret (AExit.then_ret ?_)))))
      refine bodyQ_ret 0 (.tmp rfl .nil) rfl ?_
      rw [← he, hb]; exact .mk
    · refine ACode.skip (ACode.region ?_)
      refine ASeq.q rfl rfl (QOp.ar64 rfl rfl rfl rfl ⟨by omega, by omega⟩) ?_
      refine ASeq.q rfl rfl (QOp.move rfl rfl) ?_
      refine ASeq.nil ?_
      refine AExit.then_normal ?_
      refine ⟨i + 1, 0, ⟨hlt, ?_⟩, by omega, .cons rfl (.cons rfl (.cons rfl (.cons rfl .nil))), rfl⟩
      rw [← he, hb]; rfl
  · have hge : i = l.length := by
      have : ¬ i < l.length := by simpa [hsl] using hb
      omega
    refine ACode.exit (ACode.seq (ACode.region ?_))
    refine ASeq.q rfl rfl (QOp.assign rfl rfl) ?_
    refine ASeq.nil ?_
    refine ACode.ret ?_
    refine bodyQ_ret 0 (.tmp rfl .nil) rfl ?_
    rw [← he, hge, List.drop_length]; exact .mk
theorem words_ok : ACalls Try.prog 77 [] [] (RV (.il 1 none (strs wordL)) []) := by
  refine ACalls.of_code (c := _) Try.func77 rfl Try.ntmps77 (Nat.le_of_ble_eq_true rfl) ?_
  refine ACode.seq (ACode.region ?_)
  refine ASeq.q rfl rfl (QOp.assign rfl rfl) ?_
  refine ASeq.nil ?_
  refine ACode.seq (ACode.region ?_)
  refine ASeq.op rfl rfl (AOp.buildSliceR rfl (tok _ rfl) rfl (tok _ rfl) (by decide) rfl (by decide) rfl rfl rfl rfl ?_)
  refine ASeq.q rfl rfl (QOp.assign rfl rfl) ?_
  refine ASeq.nil ?_
  refine ACode.ret ?_
  exact bodyQ_ret 0 (.tmp rfl .nil) rfl .mk
set_option maxHeartbeats 1000000 in
theorem skip_ok (s : ByteArray) (at_ : Nat) (h : at_ ≤ s.size) (hs : s.size ≤ 1000000) : ACalls Try.prog 73 [vs s, vi at_] [] (RV (vi (behind s at_ : Nat)) []) := by
  refine ACalls.of_code (c := _) Try.func73 rfl Try.ntmps73 (Nat.le_of_ble_eq_true rfl) ?_
  refine ACode.seq (ACode.region ?_)
  refine ASeq.q rfl rfl (QOp.assign rfl rfl) ?_
  refine ASeq.nil ?_
  refine ACode.seq (ACode.block ?_)
  refine ACode.loopP (fun i : Nat => [(0, vs s), (1, vi i)]) (fun _ => []) (fun i => s.size - i)
    (fun i => i ≤ s.size ∧ behind s i = behind s at_) at_ ⟨h, rfl⟩ (.cons rfl (.cons rfl .nil)) 0 rfl ?_
  rintro i ⟨hi, he⟩
  refine ACode.seq (ACode.seq (ACode.region ?_))
  refine ASeq.q rfl rfl (QOp.move rfl rfl) ?_
  refine ASeq.q rfl rfl (QOp.move rfl rfl) ?_
  refine ASeq.q rfl rfl (QOp.lenS rfl rfl (tok _ rfl) rfl) ?_
  refine ASeq.q rfl rfl (QOp.cmp rfl rfl rfl rfl) ?_
  refine ASeq.nil ?_
  refine AExit.then_normal ?_
  refine ACode.cond _ rfl (fun hb => ?_) (fun hb => ?_)
  · have hlt : i < s.size := by simpa using hb
    have hd := drop_getD hlt
    refine ACode.skip (ACode.block (ACode.seq (ACode.seq (ACode.region ?_))))
    refine ASeq.cut 10 [(0, vs s), (1, vi i), (18, .v (.bool (byteAt s i == 32 || byteAt s i == 9)))] (fun rest => ?_) ?_
    · refine ASeq.q rfl rfl (QOp.move rfl rfl) ?_
      refine ASeq.q rfl rfl (QOp.move rfl rfl) ?_
      refine ASeq.q rfl rfl (QOp.indexS rfl rfl rfl (tok _ rfl) rfl (by omega) (by rw [Int.toNat_natCast]; exact getD_get hlt)) ?_
      refine ASeq.q rfl rfl (QOp.cmp rfl rfl rfl rfl) ?_
      refine ASeq.q rfl rfl (QOp.move rfl rfl) ?_
      refine ASeq.split 13 (byteAt s i == 32) rfl (fun hb => ?_) (fun hb => ?_)
      · refine ASeq.gno _ _ rfl rfl rfl rfl rfl ?_
        refine ASeq.gno _ _ rfl rfl rfl rfl rfl ?_
        refine ASeq.gno _ _ rfl rfl rfl rfl rfl ?_
        refine ASeq.gno _ _ rfl rfl rfl rfl rfl ?_
        refine ASeq.q rfl rfl (QOp.pickT rfl rfl rfl) ?_
        exact rest.at_ (.cons rfl (.cons rfl (.consB rfl (by rw [hb]; rfl) .nil)))
      · refine ASeq.gq _ _ rfl rfl rfl rfl (QOp.move rfl rfl) ?_
        refine ASeq.gq _ _ rfl rfl rfl rfl (QOp.move rfl rfl) ?_
        refine ASeq.gq _ _ rfl rfl rfl rfl (QOp.indexS rfl rfl rfl (tok _ rfl) rfl (by omega) (by rw [Int.toNat_natCast]; exact getD_get hlt)) ?_
        refine ASeq.gq _ _ rfl rfl rfl rfl (QOp.cmp rfl rfl rfl rfl) ?_
        refine ASeq.q rfl rfl (QOp.pickF rfl rfl rfl) ?_
        exact rest.at_ (.cons rfl (.cons rfl (.consB rfl (by rw [hb]; rfl) .nil)))
    refine ASeq.cut 6 [(0, vs s), (1, vi i), (24, .v (.bool ((byteAt s i == 32 || byteAt s i == 9) || byteAt s i == 10)))] (fun rest => ?_) ?_
    · refine ASeq.q rfl rfl (QOp.move rfl rfl) ?_
      refine ASeq.split 19 (byteAt s i == 32 || byteAt s i == 9) rfl (fun hb => ?_) (fun hb => ?_)
      · refine ASeq.gno _ _ rfl rfl rfl rfl rfl ?_
        refine ASeq.gno _ _ rfl rfl rfl rfl rfl ?_
        refine ASeq.gno _ _ rfl rfl rfl rfl rfl ?_
        refine ASeq.gno _ _ rfl rfl rfl rfl rfl ?_
        refine ASeq.q rfl rfl (QOp.pickT rfl rfl rfl) ?_
        exact rest.at_ (.cons rfl (.cons rfl (.consB rfl (by rw [hb]; rfl) .nil)))
      · refine ASeq.gq _ _ rfl rfl rfl rfl (QOp.move rfl rfl) ?_
        refine ASeq.gq _ _ rfl rfl rfl rfl (QOp.move rfl rfl) ?_
        refine ASeq.gq _ _ rfl rfl rfl rfl (QOp.indexS rfl rfl rfl (tok _ rfl) rfl (by omega) (by rw [Int.toNat_natCast]; exact getD_get hlt)) ?_
        refine ASeq.gq _ _ rfl rfl rfl rfl (QOp.cmp rfl rfl rfl rfl) ?_
        refine ASeq.q rfl rfl (QOp.pickF rfl rfl rfl) ?_
        exact rest.at_ (.cons rfl (.cons rfl (.consB rfl (by rw [hb]; rfl) .nil)))
    refine ASeq.cut 6 [(0, vs s), (1, vi i), (30, .v (.bool (isBlank (byteAt s i))))] (fun rest => ?_) ?_
    · refine ASeq.q rfl rfl (QOp.move rfl rfl) ?_
      refine ASeq.split 25 ((byteAt s i == 32 || byteAt s i == 9) || byteAt s i == 10) rfl (fun hb => ?_) (fun hb => ?_)
      · refine ASeq.gno _ _ rfl rfl rfl rfl rfl ?_
        refine ASeq.gno _ _ rfl rfl rfl rfl rfl ?_
        refine ASeq.gno _ _ rfl rfl rfl rfl rfl ?_
        refine ASeq.gno _ _ rfl rfl rfl rfl rfl ?_
        refine ASeq.q rfl rfl (QOp.pickT rfl rfl rfl) ?_
        exact rest.at_ (.cons rfl (.cons rfl (.consB (b := true) rfl (by unfold isBlank; rw [hb]; rfl) .nil)))
      · refine ASeq.gq _ _ rfl rfl rfl rfl (QOp.move rfl rfl) ?_
        refine ASeq.gq _ _ rfl rfl rfl rfl (QOp.move rfl rfl) ?_
        refine ASeq.gq _ _ rfl rfl rfl rfl (QOp.indexS rfl rfl rfl (tok _ rfl) rfl (by omega) (by rw [Int.toNat_natCast]; exact getD_get hlt)) ?_
        refine ASeq.gq _ _ rfl rfl rfl rfl (QOp.cmp rfl rfl rfl rfl) ?_
        refine ASeq.q rfl rfl (QOp.pickF rfl rfl rfl) ?_
        exact rest.at_ (.cons rfl (.cons rfl (.consB (b := byteAt s i == 13) rfl (by unfold isBlank; rw [hb]; rfl) .nil)))
    refine ASeq.nil ?_
    refine AExit.then_normal ?_
    refine ACode.cond _ rfl (fun hb => ?_) (fun hb => ?_)
    · refine ACode.seq (ACode.region ?_)
      refine ASeq.q rfl rfl (QOp.move rfl rfl) ?_
      refine ASeq.q rfl rfl (QOp.ar64 rfl rfl rfl rfl ⟨by omega, by omega⟩) ?_
      refine ASeq.q rfl rfl (QOp.assign rfl rfl) ?_
      refine ASeq.nil ?_
      refine ACode.exit (AExit.then_exit (AExit.in_same (AExit.then_normal ?_)))
      refine ⟨i + 1, 0, ⟨hlt, ?_⟩, by omega, .cons rfl (.cons rfl .nil), rfl⟩
      rw [← he]; unfold behind
      rw [hd]; simp only [skipL]; rw [if_pos (show isBlank ((s.data.toList.getD i 0).toNat : Int) = true from hb)]; omega
    have hbl : ¬ isBlank ((s.data.toList.getD i 0).toNat : Int) = true := by rw [show isBlank ((s.data.toList.getD i 0).toNat : Int) = false from hb]; decide
    refine ACode.skip (ACode.seq (ACode.seq (ACode.region ?_)))
    refine ASeq.q rfl rfl (QOp.move rfl rfl) ?_
    refine ASeq.q rfl rfl (QOp.move rfl rfl) ?_
    refine ASeq.q rfl rfl (QOp.indexS rfl rfl rfl (tok _ rfl) rfl (by omega) (by rw [Int.toNat_natCast]; exact getD_get hlt)) ?_
    refine ASeq.q rfl rfl (QOp.cmp rfl rfl rfl rfl) ?_
    refine ASeq.nil ?_
    refine AExit.then_normal ?_
    refine ACode.cond _ rfl (fun hb => ?_) (fun hb => ?_)
    · have hne : ¬ ((s.data.toList.getD i 0).toNat : Int) = 35 := by simpa using hb
      refine ACode.seq (ACode.region ?_)
      refine ASeq.q rfl rfl (QOp.move rfl rfl) ?_
      refine ASeq.q rfl rfl (QOp.assign rfl rfl) ?_
      refine ASeq.nil ?_
      refine ACode.ret (AExit.then_ret (AExit.in_ret (AExit.then_ret (AExit.in_ret (AExit.then_ret ?_)))))
      refine bodyQ_ret 0 (.tmp rfl .nil) rfl ?_
      rw [← he, show behind s i = i by unfold behind; rw [hd]; simp only [skipL]; rw [if_neg hbl, if_neg hne]; rfl]
      exact .mk
    · have heq : ((s.data.toList.getD i 0).toNat : Int) = 35 := by simpa using hb
      have hne : ¬ ((s.data.toList.getD i 0).toNat : Int) = 10 := by omega
      have he2 : i + skipL true (s.data.toList.drop i) = behind s at_ := by
        rw [← he]; unfold behind; rw [hd]; simp only [skipL]; rw [if_neg hbl, if_pos heq, if_neg hne]
      refine ACode.skip (ACode.block ?_)
      refine ACode.loopP (fun k : Nat => [(0, vs s), (1, vi k)]) (fun _ => []) (fun k => s.size - k)
        (fun k => i ≤ k ∧ k ≤ s.size ∧ (k = i ∨ i < k) ∧ k + skipL true (s.data.toList.drop k) = behind s at_) i ⟨Nat.le_refl _, hi, .inl rfl, he2⟩ (.cons rfl (.cons rfl .nil)) 0 rfl ?_
      rintro k ⟨hik, hk, hki, hke⟩
      refine ACode.seq (ACode.seq (ACode.region ?_))
      refine ASeq.q rfl rfl (QOp.move rfl rfl) ?_
      refine ASeq.q rfl rfl (QOp.move rfl rfl) ?_
      refine ASeq.q rfl rfl (QOp.lenS rfl rfl (tok _ rfl) rfl) ?_
      refine ASeq.q rfl rfl (QOp.cmp rfl rfl rfl rfl) ?_
      refine ASeq.q rfl rfl (QOp.move rfl rfl) ?_
      refine ASeq.split 42 (decide ((k : Int) < (s.size : Int))) rfl (fun hb => ?_) (fun hb => ?_)
      · have hlk : k < s.size := by simpa using hb
        have hdk := drop_getD hlk
        refine ASeq.gq _ _ rfl rfl rfl rfl (QOp.move rfl rfl) ?_
        refine ASeq.gq _ _ rfl rfl rfl rfl (QOp.move rfl rfl) ?_
        refine ASeq.gq _ _ rfl rfl rfl rfl (QOp.indexS rfl rfl rfl (tok _ rfl) rfl (by omega) (by rw [Int.toNat_natCast]; exact getD_get hlk)) ?_
        refine ASeq.gq _ _ rfl rfl rfl rfl (QOp.cmp rfl rfl rfl rfl) ?_
        refine ASeq.q rfl rfl (QOp.pickT rfl rfl rfl) ?_
        refine ASeq.nil ?_
        refine AExit.then_normal ?_
        refine ACode.cond _ rfl (fun hb => ?_) (fun hb => ?_)
        · have hnn : ¬ ((s.data.toList.getD k 0).toNat : Int) = 10 := by simpa using hb
          refine ACode.skip (ACode.block (ACode.region ?_))
          refine ASeq.q rfl rfl (QOp.move rfl rfl) ?_
          refine ASeq.q rfl rfl (QOp.ar64 rfl rfl rfl rfl ⟨by omega, by omega⟩) ?_
          refine ASeq.q rfl rfl (QOp.assign rfl rfl) ?_
          refine ASeq.nil ?_
          refine AExit.in_normal (AExit.then_normal ?_)
          refine ⟨k + 1, 0, ⟨by omega, hlk, .inr (by omega), ?_⟩, by omega, .cons rfl (.cons rfl .nil), rfl⟩
          rw [← hke, hdk]; simp only [skipL]; rw [if_neg hnn]; omega
        · have hnn : ((s.data.toList.getD k 0).toNat : Int) = 10 := by simpa using hb
          refine ACode.exit (AExit.then_exit (AExit.then_exit (AExit.in_same (AExit.in_normal (AExit.then_normal ?_)))))
          have hik : i < k := by
            rcases hki with rfl | h
            · omega
            · exact h
          refine ⟨k, 0, ⟨hk, ?_⟩, by omega, .cons rfl (.cons rfl .nil), rfl⟩
          rw [← hke]; unfold behind
          rw [hdk]; simp only [skipL]; rw [if_pos hnn, if_pos (by rw [hnn]; rfl)]
      · have hge : k = s.size := by
          have : ¬ k < s.size := by simpa using hb
          omega
        refine ASeq.gno _ _ rfl rfl rfl rfl rfl ?_
        refine ASeq.gno _ _ rfl rfl rfl rfl rfl ?_
        refine ASeq.gno _ _ rfl rfl rfl rfl rfl ?_
        refine ASeq.gno _ _ rfl rfl rfl rfl rfl ?_
        refine ASeq.q rfl rfl (QOp.pickF rfl rfl rfl) ?_
        refine ASeq.nil ?_
        refine AExit.then_normal ?_
        refine ACode.cond _ rfl (fun hb => by cases hb) (fun hb => ?_)
        refine ACode.exit (AExit.then_exit (AExit.then_exit (AExit.in_same (AExit.in_normal (AExit.then_normal ?_)))))
        refine ⟨k, 0, ⟨hk, ?_⟩, by omega, .cons rfl (.cons rfl .nil), rfl⟩
        have hnil : s.data.toList.drop k = [] := List.drop_eq_nil_of_le (by simp; omega)
        rw [← hke]; unfold behind; rw [hnil]; rfl
  · have hge : i = s.size := by
      have : ¬ i < s.size := by simpa using hb
      omega
    refine ACode.exit (ACode.seq (ACode.region ?_))
    refine ASeq.q rfl rfl (QOp.move rfl rfl) ?_
    refine ASeq.q rfl rfl (QOp.assign rfl rfl) ?_
    refine ASeq.nil ?_
    refine ACode.ret ?_
    refine bodyQ_ret 0 (.tmp rfl .nil) rfl ?_
    have hnil : s.data.toList.drop i = [] := List.drop_eq_nil_of_le (by simp; omega)
    rw [← he, show behind s i = i by unfold behind; rw [hnil]; rfl]
    exact .mk
end Go.Proofs.Ytaadamobapnfbaa
/- Tokens: Next, All. -/
set_option linter.unusedVariables false
set_option linter.unusedSimpArgs false
set_option maxRecDepth 100000
namespace Go.Proofs.Ytaadamobapnfbaa
open Go Go.Abs
set_option maxHeartbeats 4000000 in
theorem next_ok (s : ByteArray) (at_ : Nat) (h : at_ ≤ s.size) (hs : s.size ≤ 1000000) : ACalls Try.prog 53 [vs s, vi at_] [] (RV (.tup [.agg (nextTok s at_).1.cells, vi (nextTok s at_).2]) []) := by
  obtain ⟨hb1, hb2⟩ := behind_le h
  have hn : nextTok s at_ = nextAt s (behind s at_) := rfl
  refine ACalls.of_code (c := _) Try.func53 rfl Try.ntmps53 (Nat.le_of_ble_eq_true rfl) ?_
  refine ACode.seq (ACode.region ?_)
  refine ASeq.op rfl rfl (AOp.allocP rfl (tok _ rfl) rfl rfl (fun _ => rfl) (fun _ => ?_))
  refine ASeq.q rfl rfl (QOp.assign rfl rfl) ?_
  refine ASeq.nil ?_
  rename_i m4
  refine ACode.seq (ACode.region ?_)
  refine ASeq.q rfl rfl (QOp.move rfl rfl) ?_
  refine ASeq.q rfl rfl (QOp.move rfl rfl) ?_
  refine ASeq.op rfl rfl (AOp.callP 0 rfl (by kernel_rfl) rfl rfl rfl (skip_ok s at_ h hs) ?_ (by rintro _ _ ⟨⟩))
  rintro _ _ ⟨⟩
  refine ASeq.q rfl rfl (QOp.assign rfl rfl) ?_
  refine ASeq.nil ?_
  refine ACode.seq (ACode.seq (ACode.region ?_))
  generalize behind s at_ = i at hb1 hb2 hn
  refine ASeq.q rfl rfl (QOp.move rfl rfl) ?_
  refine ASeq.q rfl rfl (QOp.move rfl rfl) ?_
  refine ASeq.q rfl rfl (QOp.lenS rfl rfl (tok _ rfl) rfl) ?_
  refine ASeq.q rfl rfl (QOp.cmp rfl rfl rfl rfl) ?_
  refine ASeq.nil ?_
  refine AExit.then_normal ?_
  refine ACode.cond _ rfl (fun hb => ?_) (fun hb => ?_)
  · have hz : i = s.size := by have := eq_of_beq hb; omega
    refine ACode.seq (ACode.region ?_)
    refine ASeq.q rfl rfl (QOp.move rfl rfl) ?_
    refine ASeq.q rfl rfl (QOp.move rfl rfl) ?_
    refine ASeq.q rfl rfl (QOp.build rfl (tok _ rfl) rfl rfl rfl rfl rfl) ?_
    refine ASeq.q rfl rfl (QOp.build rfl (tok _ rfl) rfl rfl rfl rfl rfl) ?_
    refine ASeq.op0 rfl rfl (AOp.storeP 0 rfl rfl rfl rfl (tok _ rfl) rfl rfl rfl rfl ?_)
    refine ASeq.q rfl rfl (QOp.assign rfl rfl) ?_
    refine ASeq.nil ?_
    refine ACode.ret (AExit.then_ret ?_)
    refine bodyQ_ret 0 (.cell 0 rfl rfl (tok _ rfl) rfl (.tmp rfl .nil)) rfl ?_
    rw [show nextTok s at_ = (⟨0, i, i⟩, 0) by rw [hn]; unfold nextAt; rw [if_pos hz]]
    exact .mk
  have hz : ¬ i = s.size := by have := ne_of_beq_false hb; omega
  have hlt : i < s.size := by omega
  refine ACode.skip (ACode.seq (ACode.region ?_))
  refine ASeq.q rfl rfl (QOp.move rfl rfl) ?_
  refine ASeq.q rfl rfl (QOp.assign rfl rfl) ?_
  refine ASeq.nil ?_
  refine ACode.seq (ACode.seq (ACode.region ?_))
  refine ASeq.q rfl rfl (QOp.move rfl rfl) ?_
  refine ASeq.q rfl rfl (QOp.move rfl rfl) ?_
  refine ASeq.q rfl rfl (QOp.indexS rfl rfl rfl (tok _ rfl) rfl (by omega) (by rw [Int.toNat_natCast]; exact getD_get hlt)) ?_
  refine ASeq.op rfl rfl (AOp.callP 0 rfl (by kernel_rfl) rfl rfl rfl (letter_ok (byteAt s i)) ?_ (by rintro _ _ ⟨⟩))
  rintro _ _ ⟨⟩
  refine ASeq.nil ?_
  refine AExit.then_normal ?_
  refine ACode.cond _ rfl (fun hl => ?_) (fun hl => ?_)
  · have hend := runL_end letOrDig s hb2
    refine ACode.seq (ACode.block ?_)
    refine ACode.loopP (fun k : Nat => [(0, vs s), (1, vi i), (4, .mp m4 0), (6, vi k)]) (fun _ => [.mu _ _]) (fun k => s.size - k)
      (fun k => i ≤ k ∧ k ≤ s.size ∧ k + runL letOrDig (s.data.toList.drop k) = i + runL letOrDig (s.data.toList.drop i)) i ⟨Nat.le_refl _, hb2, rfl⟩ (.cons rfl (.cons rfl (.cons rfl (.cons rfl .nil)))) 1 rfl ?_
    rintro k ⟨hik, hk, hke⟩
    refine ACode.seq (ACode.seq (ACode.region ?_))
    refine ASeq.cut 16 [(0, vs s), (1, vi i), (4, .mp m4 0), (6, vi k), (40, .v (.bool (decide ((k : Int) < (s.size : Int)) && letOrDig (byteAt s k))))] (fun rest => ?_) ?_
    · refine ASeq.q rfl rfl (QOp.move rfl rfl) ?_
      refine ASeq.q rfl rfl (QOp.move rfl rfl) ?_
      refine ASeq.q rfl rfl (QOp.lenS rfl rfl (tok _ rfl) rfl) ?_
      refine ASeq.q rfl rfl (QOp.cmp rfl rfl rfl rfl) ?_
      refine ASeq.q rfl rfl (QOp.move rfl rfl) ?_
      refine ASeq.split 29 (decide ((k : Int) < (s.size : Int))) rfl (fun hb => ?_) (fun hb => ?_)
      · have hlk : k < s.size := by simpa using hb
        refine ASeq.gq _ _ rfl rfl rfl rfl (QOp.move rfl rfl) ?_
        refine ASeq.gq _ _ rfl rfl rfl rfl (QOp.move rfl rfl) ?_
        refine ASeq.gq _ _ rfl rfl rfl rfl (QOp.indexS rfl rfl rfl (tok _ rfl) rfl (by omega) (by rw [Int.toNat_natCast]; exact getD_get hlk)) ?_
        refine ASeq.gop _ _ rfl rfl rfl rfl (AOp.callP 0 rfl (by kernel_rfl) rfl rfl rfl (letter_ok (byteAt s k)) ?_ (by rintro _ _ ⟨⟩))
        rintro _ _ ⟨⟩
        refine ASeq.gq _ _ rfl rfl rfl rfl (QOp.move rfl rfl) ?_
        refine ASeq.split 34 (isLetter (byteAt s k)) rfl (fun hc => ?_) (fun hc => ?_)
        · refine ASeq.gno _ _ rfl rfl rfl rfl rfl ?_
          refine ASeq.gno _ _ rfl rfl rfl rfl rfl ?_
          refine ASeq.gno _ _ rfl rfl rfl rfl rfl ?_
          refine ASeq.gno _ _ rfl rfl rfl rfl rfl ?_
          refine ASeq.gq _ _ rfl rfl rfl rfl (QOp.pickT rfl rfl rfl) ?_
          refine ASeq.q rfl rfl (QOp.pickT rfl rfl rfl) ?_
          exact rest.at_ (.cons rfl (.cons rfl (.cons rfl (.cons rfl (.consB (b := true) rfl (by rw [hb]; unfold letOrDig; rw [hc]; rfl) .nil)))))
        · refine ASeq.gq _ _ rfl rfl rfl rfl (QOp.move rfl rfl) ?_
          refine ASeq.gq _ _ rfl rfl rfl rfl (QOp.move rfl rfl) ?_
          refine ASeq.gq _ _ rfl rfl rfl rfl (QOp.indexS rfl rfl rfl (tok _ rfl) rfl (by omega) (by rw [Int.toNat_natCast]; exact getD_get hlk)) ?_
          refine ASeq.gop _ _ rfl rfl rfl rfl (AOp.callP 0 rfl (by kernel_rfl) rfl rfl rfl (digit_ok (byteAt s k)) ?_ (by rintro _ _ ⟨⟩))
          rintro _ _ ⟨⟩
          refine ASeq.gq _ _ rfl rfl rfl rfl (QOp.pickF rfl rfl rfl) ?_
          refine ASeq.q rfl rfl (QOp.pickT rfl rfl rfl) ?_
          exact rest.at_ (.cons rfl (.cons rfl (.cons rfl (.cons rfl (.consB (b := isDigit (byteAt s k)) rfl (by rw [hb]; unfold letOrDig; rw [hc]; rfl) .nil)))))
      · refine ASeq.gno _ _ rfl rfl rfl rfl rfl ?_
        refine ASeq.gno _ _ rfl rfl rfl rfl rfl ?_
        refine ASeq.gno _ _ rfl rfl rfl rfl rfl ?_
        refine ASeq.gno _ _ rfl rfl rfl rfl rfl ?_
        refine ASeq.gno _ _ rfl rfl rfl rfl rfl ?_
        refine ASeq.gno _ _ rfl rfl rfl rfl rfl ?_
        refine ASeq.gno _ _ rfl rfl rfl rfl rfl ?_
        refine ASeq.gno _ _ rfl rfl rfl rfl rfl ?_
        refine ASeq.gno _ _ rfl rfl rfl rfl rfl ?_
        refine ASeq.gno _ _ rfl rfl rfl rfl rfl ?_
        refine ASeq.q rfl rfl (QOp.pickF rfl rfl rfl) ?_
        exact rest.at_ (.cons rfl (.cons rfl (.cons rfl (.cons rfl (.consB (b := false) rfl (by rw [hb]; rfl) .nil)))))
    refine ASeq.nil ?_
    refine AExit.then_normal ?_
    refine ACode.cond _ rfl (fun hb => ?_) (fun hb => ?_)
    · simp only [Bool.and_eq_true, decide_eq_true_eq] at hb
      have hlk : k < s.size := by omega
      refine ACode.skip (ACode.block (ACode.region ?_))
      refine ASeq.q rfl rfl (QOp.move rfl rfl) ?_
      refine ASeq.q rfl rfl (QOp.ar64 rfl rfl rfl rfl ⟨by omega, by omega⟩) ?_
      refine ASeq.q rfl rfl (QOp.assign rfl rfl) ?_
      refine ASeq.nil ?_
      refine AExit.in_normal (AExit.then_normal ?_)
      refine ⟨k + 1, 1, ⟨by omega, hlk, ?_⟩, by omega, .cons rfl (.cons rfl (.cons rfl (.cons rfl .nil))), rfl⟩
      rw [← hke, drop_getD hlk]; simp only [runL]; rw [if_pos (show letOrDig ((s.data.toList.getD k 0).toNat : Int) = true from hb.2)]; omega
    · have hke2 : k = i + runL letOrDig (s.data.toList.drop i) := by
        rw [← hke]
        by_cases hlk : k < s.size
        · have : ¬ letOrDig (byteAt s k) = true := fun h' => by rw [h'] at hb; simp at hb; omega
          rw [drop_getD hlk]; simp only [runL]; rw [if_neg (show ¬ letOrDig ((s.data.toList.getD k 0).toNat : Int) = true from this)]; rfl
        · rw [List.drop_eq_nil_of_le (by simp; omega)]; rfl
      have hex : k ≤ s.size := hk
      refine ACode.exit (ACode.seq (ACode.seq ?_))
      refine ACode.drawn [[], [], [], [], [1, 2, 3], [0, 1, 2, 3, 4]] (by kernel_rfl) mixed ?_
      refine DAny.qu 1 rfl rfl (by kernel_rfl) rfl (fun _ => .does _ _ rfl (.none rfl) (QOp.move rfl rfl)) ?_
      refine DAny.qu 2 rfl rfl (by kernel_rfl) rfl (fun _ => .does _ _ rfl (.none rfl) (QOp.move rfl rfl)) ?_
      refine DAny.qu 3 rfl rfl (by kernel_rfl) rfl (fun _ => .does _ _ rfl (.none rfl) (QOp.move rfl rfl)) ?_
      refine DAny.qu 4 rfl rfl (by kernel_rfl) rfl (fun _ => .does _ _ rfl (.none rfl) (QOp.cutS rfl rfl (tok _ rfl) rfl rfl rfl (by omega) (by omega) (by omega))) ?_
      refine DAny.ef 0 rfl (by kernel_rfl) (.none rfl) rfl rfl (AOp.callP 0 rfl (by kernel_rfl) rfl rfl rfl (words_ok) ?_ (by rintro _ _ ⟨⟩))
      rintro _ _ ⟨⟩
      refine ⟨(by ((exact AllQ.nil))), ?_⟩
      refine DAny.ef 5 rfl (by kernel_rfl) (.none rfl) rfl rfl (AOp.callP 0 rfl (by kernel_rfl) rfl rfl rfl (has_ok wordL (s.extract i k) (by decide)) ?_ (by rintro _ _ ⟨⟩))
      rintro _ _ ⟨⟩
      refine ⟨(by ((exact AllQ.nil))), ?_⟩
      refine DAny.done (by kernel_rfl) ?_
      refine AExit.then_normal ?_
      refine ACode.cond _ rfl (fun hw => ?_) (fun hw => ?_)
      · refine ACode.seq (ACode.region ?_)
        refine ASeq.q rfl rfl (QOp.move rfl rfl) ?_
        refine ASeq.q rfl rfl (QOp.move rfl rfl) ?_
        refine ASeq.q rfl rfl (QOp.build rfl (tok _ rfl) rfl rfl rfl rfl rfl) ?_
        refine ASeq.q rfl rfl (QOp.build rfl (tok _ rfl) rfl rfl rfl rfl rfl) ?_
        refine ASeq.op0 rfl rfl (AOp.storeP 0 rfl rfl rfl rfl (tok _ rfl) rfl rfl rfl rfl ?_)
        refine ASeq.q rfl rfl (QOp.assign rfl rfl) ?_
        refine ASeq.nil ?_
        refine ACode.ret (AExit.then_ret (AExit.then_ret ?_))
        refine bodyQ_ret 0 (.cell 0 rfl rfl (tok _ rfl) rfl (.tmp rfl .nil)) rfl ?_
        rw [show nextTok s at_ = (⟨3, i, (k : Nat)⟩, 0) by rw [hn]; unfold nextAt; rw [if_neg hz, if_pos hl, ← hke2, if_pos hw]]
        exact .mk
      · refine ACode.skip (ACode.seq (ACode.region ?_))
        refine ASeq.q rfl rfl (QOp.move rfl rfl) ?_
        refine ASeq.q rfl rfl (QOp.move rfl rfl) ?_
        refine ASeq.q rfl rfl (QOp.build rfl (tok _ rfl) rfl rfl rfl rfl rfl) ?_
        refine ASeq.q rfl rfl (QOp.build rfl (tok _ rfl) rfl rfl rfl rfl rfl) ?_
        refine ASeq.op0 rfl rfl (AOp.storeP 0 rfl rfl rfl rfl (tok _ rfl) rfl rfl rfl rfl ?_)
        refine ASeq.q rfl rfl (QOp.assign rfl rfl) ?_
        refine ASeq.nil ?_
        refine ACode.ret (AExit.then_ret ?_)
        refine bodyQ_ret 0 (.cell 0 rfl rfl (tok _ rfl) rfl (.tmp rfl .nil)) rfl ?_
        rw [show nextTok s at_ = (⟨1, i, (k : Nat)⟩, 0) by rw [hn]; unfold nextAt; rw [if_neg hz, if_pos hl, ← hke2, if_neg (by rw [hw]; decide)]]
        exact .mk
  have hl : ¬ isLetter (byteAt s i) = true := by rw [hl]; decide
  refine ACode.skip (ACode.seq (ACode.seq (ACode.region ?_)))
  refine ASeq.q rfl rfl (QOp.move rfl rfl) ?_
  refine ASeq.q rfl rfl (QOp.move rfl rfl) ?_
  refine ASeq.q rfl rfl (QOp.indexS rfl rfl rfl (tok _ rfl) rfl (by omega) (by rw [Int.toNat_natCast]; exact getD_get hlt)) ?_
  refine ASeq.op rfl rfl (AOp.callP 0 rfl (by kernel_rfl) rfl rfl rfl (digit_ok (byteAt s i)) ?_ (by rintro _ _ ⟨⟩))
  rintro _ _ ⟨⟩
  refine ASeq.nil ?_
  refine AExit.then_normal ?_
  refine ACode.cond _ rfl (fun hd => ?_) (fun hd => ?_)
  · have hend := runL_end isDigit s hb2
    refine ACode.seq (ACode.block ?_)
    refine ACode.loopP (fun k : Nat => [(0, vs s), (1, vi i), (4, .mp m4 0), (6, vi k)]) (fun _ => [.mu _ _]) (fun k => s.size - k)
      (fun k => i ≤ k ∧ k ≤ s.size ∧ k + runL isDigit (s.data.toList.drop k) = i + runL isDigit (s.data.toList.drop i)) i ⟨Nat.le_refl _, hb2, rfl⟩ (.cons rfl (.cons rfl (.cons rfl (.cons rfl .nil)))) 1 rfl ?_
    rintro k ⟨hik, hk, hke⟩
    refine ACode.seq (ACode.seq (ACode.region ?_))
    refine ASeq.cut 10 [(0, vs s), (1, vi i), (4, .mp m4 0), (6, vi k), (70, .v (.bool (decide ((k : Int) < (s.size : Int)) && isDigit (byteAt s k))))] (fun rest => ?_) ?_
    · refine ASeq.q rfl rfl (QOp.move rfl rfl) ?_
      refine ASeq.q rfl rfl (QOp.move rfl rfl) ?_
      refine ASeq.q rfl rfl (QOp.lenS rfl rfl (tok _ rfl) rfl) ?_
      refine ASeq.q rfl rfl (QOp.cmp rfl rfl rfl rfl) ?_
      refine ASeq.q rfl rfl (QOp.move rfl rfl) ?_
      refine ASeq.split 65 (decide ((k : Int) < (s.size : Int))) rfl (fun hb => ?_) (fun hb => ?_)
      · have hlk : k < s.size := by simpa using hb
        refine ASeq.gq _ _ rfl rfl rfl rfl (QOp.move rfl rfl) ?_
        refine ASeq.gq _ _ rfl rfl rfl rfl (QOp.move rfl rfl) ?_
        refine ASeq.gq _ _ rfl rfl rfl rfl (QOp.indexS rfl rfl rfl (tok _ rfl) rfl (by omega) (by rw [Int.toNat_natCast]; exact getD_get hlk)) ?_
        refine ASeq.gop _ _ rfl rfl rfl rfl (AOp.callP 0 rfl (by kernel_rfl) rfl rfl rfl (digit_ok (byteAt s k)) ?_ (by rintro _ _ ⟨⟩))
        rintro _ _ ⟨⟩
        refine ASeq.q rfl rfl (QOp.pickT rfl rfl rfl) ?_
        exact rest.at_ (.cons rfl (.cons rfl (.cons rfl (.cons rfl (.consB (b := isDigit (byteAt s k)) rfl (by rw [hb]; rfl) .nil)))))
      · refine ASeq.gno _ _ rfl rfl rfl rfl rfl ?_
        refine ASeq.gno _ _ rfl rfl rfl rfl rfl ?_
        refine ASeq.gno _ _ rfl rfl rfl rfl rfl ?_
        refine ASeq.gno _ _ rfl rfl rfl rfl rfl ?_
        refine ASeq.q rfl rfl (QOp.pickF rfl rfl rfl) ?_
        exact rest.at_ (.cons rfl (.cons rfl (.cons rfl (.cons rfl (.consB (b := false) rfl (by rw [hb]; rfl) .nil)))))
    refine ASeq.nil ?_
    refine AExit.then_normal ?_
    refine ACode.cond _ rfl (fun hb => ?_) (fun hb => ?_)
    · simp only [Bool.and_eq_true, decide_eq_true_eq] at hb
      have hlk : k < s.size := by omega
      refine ACode.skip (ACode.block (ACode.region ?_))
      refine ASeq.q rfl rfl (QOp.move rfl rfl) ?_
      refine ASeq.q rfl rfl (QOp.ar64 rfl rfl rfl rfl ⟨by omega, by omega⟩) ?_
      refine ASeq.q rfl rfl (QOp.assign rfl rfl) ?_
      refine ASeq.nil ?_
      refine AExit.in_normal (AExit.then_normal ?_)
      refine ⟨k + 1, 1, ⟨by omega, hlk, ?_⟩, by omega, .cons rfl (.cons rfl (.cons rfl (.cons rfl .nil))), rfl⟩
      rw [← hke, drop_getD hlk]; simp only [runL]; rw [if_pos (show isDigit ((s.data.toList.getD k 0).toNat : Int) = true from hb.2)]; omega
    · have hke2 : runL isDigit (s.data.toList.drop i) = k - i := by
        have : k = i + runL isDigit (s.data.toList.drop i) := by
          rw [← hke]
          by_cases hlk : k < s.size
          · have : ¬ isDigit (byteAt s k) = true := fun h' => by rw [h'] at hb; simp at hb; omega
            rw [drop_getD hlk]; simp only [runL]; rw [if_neg (show ¬ isDigit ((s.data.toList.getD k 0).toNat : Int) = true from this)]; rfl
          · rw [List.drop_eq_nil_of_le (by simp; omega)]; rfl
        omega
      have hki : i + (k - i) = k := by omega
      refine ACode.exit (ACode.seq (ACode.seq (ACode.region ?_)))
      refine ASeq.cut 16 [(0, vs s), (1, vi i), (4, .mp m4 0), (6, vi k), (88, .v (.bool (decide ((k : Int) - (i : Int) > 18) || decide ((k : Int) - (i : Int) > 1) && byteAt s i == 48)))] (fun rest => ?_) ?_
      · refine ASeq.q rfl rfl (QOp.move rfl rfl) ?_
        refine ASeq.q rfl rfl (QOp.move rfl rfl) ?_
        refine ASeq.q rfl rfl (QOp.ar64 rfl rfl rfl rfl ⟨by omega, by omega⟩) ?_
        refine ASeq.q rfl rfl (QOp.cmp rfl rfl rfl rfl) ?_
        refine ASeq.q rfl rfl (QOp.move rfl rfl) ?_
        refine ASeq.split 77 (decide ((k : Int) - (i : Int) > 18)) rfl (fun hb => ?_) (fun hb => ?_)
        · refine ASeq.gno _ _ rfl rfl rfl rfl rfl ?_
          refine ASeq.gno _ _ rfl rfl rfl rfl rfl ?_
          refine ASeq.gno _ _ rfl rfl rfl rfl rfl ?_
          refine ASeq.gno _ _ rfl rfl rfl rfl rfl ?_
          refine ASeq.gno _ _ rfl rfl rfl rfl rfl ?_
          refine ASeq.gno _ _ rfl rfl rfl rfl rfl ?_
          refine ASeq.gno _ _ rfl rfl rfl rfl rfl ?_
          refine ASeq.gno _ _ rfl rfl rfl rfl rfl ?_
          refine ASeq.gno _ _ rfl rfl rfl rfl rfl ?_
          refine ASeq.gno _ _ rfl rfl rfl rfl rfl ?_
          refine ASeq.q rfl rfl (QOp.pickT rfl rfl rfl) ?_
          exact rest.at_ (.cons rfl (.cons rfl (.cons rfl (.cons rfl (.consB (b := true) rfl (by rw [hb]; rfl) .nil)))))
        · refine ASeq.gq _ _ rfl rfl rfl rfl (QOp.move rfl rfl) ?_
          refine ASeq.gq _ _ rfl rfl rfl rfl (QOp.move rfl rfl) ?_
          refine ASeq.gq _ _ rfl rfl rfl rfl (QOp.ar64 rfl rfl rfl rfl ⟨by omega, by omega⟩) ?_
          refine ASeq.gq _ _ rfl rfl rfl rfl (QOp.cmp rfl rfl rfl rfl) ?_
          refine ASeq.gq _ _ rfl rfl rfl rfl (QOp.move rfl rfl) ?_
          refine ASeq.split 82 (decide ((k : Int) - (i : Int) > 1)) rfl (fun hc => ?_) (fun hc => ?_)
          · refine ASeq.gq _ _ rfl rfl rfl rfl (QOp.move rfl rfl) ?_
            refine ASeq.gq _ _ rfl rfl rfl rfl (QOp.move rfl rfl) ?_
            refine ASeq.gq _ _ rfl rfl rfl rfl (QOp.indexS rfl rfl rfl (tok _ rfl) rfl (by omega) (by rw [Int.toNat_natCast]; exact getD_get hlt)) ?_
            refine ASeq.gq _ _ rfl rfl rfl rfl (QOp.cmp rfl rfl rfl rfl) ?_
            refine ASeq.gq _ _ rfl rfl rfl rfl (QOp.pickT rfl rfl rfl) ?_
            refine ASeq.q rfl rfl (QOp.pickF rfl rfl rfl) ?_
            exact rest.at_ (.cons rfl (.cons rfl (.cons rfl (.cons rfl (.consB (b := byteAt s i == 48) rfl (by rw [hb, hc]; rfl) .nil)))))
          · refine ASeq.gno _ _ rfl rfl rfl rfl rfl ?_
            refine ASeq.gno _ _ rfl rfl rfl rfl rfl ?_
            refine ASeq.gno _ _ rfl rfl rfl rfl rfl ?_
            refine ASeq.gno _ _ rfl rfl rfl rfl rfl ?_
            refine ASeq.gq _ _ rfl rfl rfl rfl (QOp.pickF rfl rfl rfl) ?_
            refine ASeq.q rfl rfl (QOp.pickF rfl rfl rfl) ?_
            exact rest.at_ (.cons rfl (.cons rfl (.cons rfl (.cons rfl (.consB (b := false) rfl (by rw [hb, hc]; rfl) .nil)))))
      refine ASeq.cut 12 [(0, vs s), (1, vi i), (4, .mp m4 0), (6, vi k), (100, .v (.bool ((decide ((k : Int) - (i : Int) > 18) || decide ((k : Int) - (i : Int) > 1) && byteAt s i == 48) || (decide ((k : Int) < (s.size : Int)) && isLetter (byteAt s k)))))] (fun rest => ?_) ?_
      · refine ASeq.q rfl rfl (QOp.move rfl rfl) ?_
        refine ASeq.split 89 (decide ((k : Int) - (i : Int) > 18) || decide ((k : Int) - (i : Int) > 1) && byteAt s i == 48) rfl (fun hb => ?_) (fun hb => ?_)
        · refine ASeq.gno _ _ rfl rfl rfl rfl rfl ?_
          refine ASeq.gno _ _ rfl rfl rfl rfl rfl ?_
          refine ASeq.gno _ _ rfl rfl rfl rfl rfl ?_
          refine ASeq.gno _ _ rfl rfl rfl rfl rfl ?_
          refine ASeq.gno _ _ rfl rfl rfl rfl rfl ?_
          refine ASeq.gno _ _ rfl rfl rfl rfl rfl ?_
          refine ASeq.gno _ _ rfl rfl rfl rfl rfl ?_
          refine ASeq.gno _ _ rfl rfl rfl rfl rfl ?_
          refine ASeq.gno _ _ rfl rfl rfl rfl rfl ?_
          refine ASeq.gno _ _ rfl rfl rfl rfl rfl ?_
          refine ASeq.q rfl rfl (QOp.pickT rfl rfl rfl) ?_
          exact rest.at_ (.cons rfl (.cons rfl (.cons rfl (.cons rfl (.consB (b := true) rfl (by rw [hb]; rfl) .nil)))))
        · refine ASeq.gq _ _ rfl rfl rfl rfl (QOp.move rfl rfl) ?_
          refine ASeq.gq _ _ rfl rfl rfl rfl (QOp.move rfl rfl) ?_
          refine ASeq.gq _ _ rfl rfl rfl rfl (QOp.lenS rfl rfl (tok _ rfl) rfl) ?_
          refine ASeq.gq _ _ rfl rfl rfl rfl (QOp.cmp rfl rfl rfl rfl) ?_
          refine ASeq.gq _ _ rfl rfl rfl rfl (QOp.move rfl rfl) ?_
          refine ASeq.split 94 (decide ((k : Int) < (s.size : Int))) rfl (fun hc => ?_) (fun hc => ?_)
          · have hlk : k < s.size := by simpa using hc
            refine ASeq.gq _ _ rfl rfl rfl rfl (QOp.move rfl rfl) ?_
            refine ASeq.gq _ _ rfl rfl rfl rfl (QOp.move rfl rfl) ?_
            refine ASeq.gq _ _ rfl rfl rfl rfl (QOp.indexS rfl rfl rfl (tok _ rfl) rfl (by omega) (by rw [Int.toNat_natCast]; exact getD_get hlk)) ?_
            refine ASeq.gop _ _ rfl rfl rfl rfl (AOp.callP 0 rfl (by kernel_rfl) rfl rfl rfl (letter_ok (byteAt s k)) ?_ (by rintro _ _ ⟨⟩))
            rintro _ _ ⟨⟩
            refine ASeq.gq _ _ rfl rfl rfl rfl (QOp.pickT rfl rfl rfl) ?_
            refine ASeq.q rfl rfl (QOp.pickF rfl rfl rfl) ?_
            exact rest.at_ (.cons rfl (.cons rfl (.cons rfl (.cons rfl (.consB (b := isLetter (byteAt s k)) rfl (by rw [hb, hc]; rfl) .nil)))))
          · refine ASeq.gno _ _ rfl rfl rfl rfl rfl ?_
            refine ASeq.gno _ _ rfl rfl rfl rfl rfl ?_
            refine ASeq.gno _ _ rfl rfl rfl rfl rfl ?_
            refine ASeq.gno _ _ rfl rfl rfl rfl rfl ?_
            refine ASeq.gq _ _ rfl rfl rfl rfl (QOp.pickF rfl rfl rfl) ?_
            refine ASeq.q rfl rfl (QOp.pickF rfl rfl rfl) ?_
            exact rest.at_ (.cons rfl (.cons rfl (.cons rfl (.cons rfl (.consB (b := false) rfl (by rw [hb, hc]; rfl) .nil)))))
      refine ASeq.nil ?_
      refine AExit.then_normal ?_
      have key : ((decide ((k : Int) - (i : Int) > 18) || decide ((k : Int) - (i : Int) > 1) && byteAt s i == 48) || (decide ((k : Int) < (s.size : Int)) && isLetter (byteAt s k))) = true ↔
          (18 < k - i ∨ (1 < k - i ∧ byteAt s i = 48) ∨ (k < s.size ∧ isLetter (byteAt s k) = true)) := by
        simp only [Bool.or_eq_true, Bool.and_eq_true, decide_eq_true_eq, beq_iff_eq]
        have e1 : (k : Int) - (i : Int) > 18 ↔ 18 < k - i := by omega
        have e2 : (k : Int) - (i : Int) > 1 ↔ 1 < k - i := by omega
        have e3 : (k : Int) < (s.size : Int) ↔ k < s.size := by omega
        rw [e1, e2, e3, or_assoc]
      refine ACode.cond _ rfl (fun hb => ?_) (fun hb => ?_)
      · have hx := key.1 hb
        refine ACode.seq (ACode.region ?_)
        refine ASeq.q rfl rfl (QOp.move rfl rfl) ?_
        refine ASeq.q rfl rfl (QOp.move rfl rfl) ?_
        refine ASeq.q rfl rfl (QOp.build rfl (tok _ rfl) rfl rfl rfl rfl rfl) ?_
        refine ASeq.q rfl rfl (QOp.build rfl (tok _ rfl) rfl rfl rfl rfl rfl) ?_
        refine ASeq.op0 rfl rfl (AOp.storeP 0 rfl rfl rfl rfl (tok _ rfl) rfl rfl rfl rfl ?_)
        refine ASeq.q rfl rfl (QOp.assign rfl rfl) ?_
        refine ASeq.nil ?_
        refine ACode.ret (AExit.then_ret (AExit.then_ret ?_))
        refine bodyQ_ret 0 (.cell 0 rfl rfl (tok _ rfl) rfl (.tmp rfl .nil)) rfl ?_
        rw [show nextTok s at_ = (⟨0, i, i⟩, 2) by rw [hn]; unfold nextAt; rw [if_neg hz, if_neg hl, if_pos hd, hke2, hki, if_pos hx]]
        exact .mk
      · have hx := mt key.2 (by rw [hb]; decide)
        refine ACode.skip (ACode.seq (ACode.region ?_))
        refine ASeq.q rfl rfl (QOp.move rfl rfl) ?_
        refine ASeq.q rfl rfl (QOp.move rfl rfl) ?_
        refine ASeq.q rfl rfl (QOp.build rfl (tok _ rfl) rfl rfl rfl rfl rfl) ?_
        refine ASeq.q rfl rfl (QOp.build rfl (tok _ rfl) rfl rfl rfl rfl rfl) ?_
        refine ASeq.op0 rfl rfl (AOp.storeP 0 rfl rfl rfl rfl (tok _ rfl) rfl rfl rfl rfl ?_)
        refine ASeq.q rfl rfl (QOp.assign rfl rfl) ?_
        refine ASeq.nil ?_
        refine ACode.ret (AExit.then_ret ?_)
        refine bodyQ_ret 0 (.cell 0 rfl rfl (tok _ rfl) rfl (.tmp rfl .nil)) rfl ?_
        rw [show nextTok s at_ = (⟨2, i, (k : Nat)⟩, 0) by rw [hn]; unfold nextAt; rw [if_neg hz, if_neg hl, if_pos hd, hke2, hki, if_neg hx]]
        exact .mk
  have hd : ¬ isDigit (byteAt s i) = true := by rw [hd]; decide
  refine ACode.skip (ACode.seq (ACode.region ?_))
  refine ASeq.op rfl rfl (AOp.buildSliceR rfl (tok _ rfl) rfl (tok _ rfl) (by decide) rfl (by decide) rfl rfl rfl rfl ?_)
  refine ASeq.q rfl rfl (QOp.assign rfl rfl) ?_
  refine ASeq.nil ?_
  refine ACode.seq (ACode.region ?_)
  refine ASeq.op rfl rfl (AOp.buildSliceR rfl (tok _ rfl) rfl (tok _ rfl) (by decide) rfl (by decide) rfl rfl rfl rfl ?_)
  refine ASeq.q rfl rfl (QOp.assign rfl rfl) ?_
  refine ASeq.nil ?_
  refine ACode.seq (ACode.seq (ACode.region ?_))
  refine ASeq.cut 14 [(0, vs s), (1, vi i), (4, .mp m4 0), (6, vi i), (8, .il 1 none (strs oneL)), (124, .v (.bool (decide ((i : Int) + 2 ≤ (s.size : Int)) && hasS twoL (s.extract i (i + 2)))))] (fun rest => ?_) ?_
  · refine ASeq.q rfl rfl (QOp.move rfl rfl) ?_
    refine ASeq.q rfl rfl (QOp.ar64 rfl rfl rfl rfl ⟨by omega, by omega⟩) ?_
    refine ASeq.q rfl rfl (QOp.move rfl rfl) ?_
    refine ASeq.q rfl rfl (QOp.lenS rfl rfl (tok _ rfl) rfl) ?_
    refine ASeq.q rfl rfl (QOp.cmp rfl rfl rfl rfl) ?_
    refine ASeq.q rfl rfl (QOp.move rfl rfl) ?_
    refine ASeq.split 116 (decide ((i : Int) + 2 ≤ (s.size : Int))) rfl (fun hb => ?_) (fun hb => ?_)
    · have hb' : (i : Int) + 2 ≤ s.size := by simpa using hb
      refine ASeq.gq _ _ rfl rfl rfl rfl (QOp.move rfl rfl) ?_
      refine ASeq.gq _ _ rfl rfl rfl rfl (QOp.move rfl rfl) ?_
      refine ASeq.gq _ _ rfl rfl rfl rfl (QOp.move rfl rfl) ?_
      refine ASeq.gq _ _ rfl rfl rfl rfl (QOp.move rfl rfl) ?_
      refine ASeq.gq _ _ rfl rfl rfl rfl (QOp.ar64 rfl rfl rfl rfl ⟨by omega, by omega⟩) ?_
      refine ASeq.gq _ _ rfl rfl rfl rfl (QOp.cutS rfl rfl (tok _ rfl) rfl rfl rfl (by omega) (by omega) (by omega)) ?_
      refine ASeq.gop _ _ rfl rfl rfl rfl (AOp.callP 0 rfl (by kernel_rfl) rfl rfl rfl (has_ok twoL (s.extract i (i + 2)) (by decide)) ?_ (by rintro _ _ ⟨⟩))
      rintro _ _ ⟨⟩
      refine ASeq.q rfl rfl (QOp.pickT rfl rfl rfl) ?_
      exact rest.at_ (.cons rfl (.cons rfl (.cons rfl (.cons rfl (.cons rfl (.consB (b := hasS twoL (s.extract i (i + 2))) rfl (by rw [hb]; rfl) .nil))))))
    · refine ASeq.gno _ _ rfl rfl rfl rfl rfl ?_
      refine ASeq.gno _ _ rfl rfl rfl rfl rfl ?_
      refine ASeq.gno _ _ rfl rfl rfl rfl rfl ?_
      refine ASeq.gno _ _ rfl rfl rfl rfl rfl ?_
      refine ASeq.gno _ _ rfl rfl rfl rfl rfl ?_
      refine ASeq.gno _ _ rfl rfl rfl rfl rfl ?_
      refine ASeq.gno _ _ rfl rfl rfl rfl rfl ?_
      refine ASeq.q rfl rfl (QOp.pickF rfl rfl rfl) ?_
      exact rest.at_ (.cons rfl (.cons rfl (.cons rfl (.cons rfl (.cons rfl (.consB (b := false) rfl (by rw [hb]; rfl) .nil))))))
  refine ASeq.nil ?_
  refine AExit.then_normal ?_
  have key : (decide ((i : Int) + 2 ≤ (s.size : Int)) && hasS twoL (s.extract i (i + 2))) = true ↔ (i + 2 ≤ s.size ∧ hasS twoL (s.extract i (i + 2)) = true) := by
    simp only [Bool.and_eq_true, decide_eq_true_eq]
    have e1 : (i : Int) + 2 ≤ (s.size : Int) ↔ i + 2 ≤ s.size := by omega
    rw [e1]
  refine ACode.cond _ rfl (fun hb => ?_) (fun hb => ?_)
  · have hx := key.1 hb
    refine ACode.region ?_
    refine ASeq.q rfl rfl (QOp.move rfl rfl) ?_
    refine ASeq.q rfl rfl (QOp.ar64 rfl rfl rfl rfl ⟨by omega, by omega⟩) ?_
    refine ASeq.q rfl rfl (QOp.assign rfl rfl) ?_
    refine ASeq.nil ?_
    refine ACode.seq (ACode.seq (ACode.region ?_))
    refine ASeq.q rfl rfl (QOp.move rfl rfl) ?_
    refine ASeq.q rfl rfl (QOp.move rfl rfl) ?_
    refine ASeq.q rfl rfl (QOp.cmp rfl rfl rfl rfl) ?_
    refine ASeq.nil ?_
    refine AExit.then_normal ?_
    refine ACode.cond _ rfl (fun hb => absurd (eq_of_beq hb) (by omega)) (fun hb => ?_)
    refine ACode.skip (ACode.seq (ACode.region ?_))
    refine ASeq.q rfl rfl (QOp.move rfl rfl) ?_
    refine ASeq.q rfl rfl (QOp.move rfl rfl) ?_
    refine ASeq.q rfl rfl (QOp.build rfl (tok _ rfl) rfl rfl rfl rfl rfl) ?_
    refine ASeq.q rfl rfl (QOp.build rfl (tok _ rfl) rfl rfl rfl rfl rfl) ?_
    refine ASeq.op0 rfl rfl (AOp.storeP 0 rfl rfl rfl rfl (tok _ rfl) rfl rfl rfl rfl ?_)
    refine ASeq.q rfl rfl (QOp.assign rfl rfl) ?_
    refine ASeq.nil ?_
    refine ACode.ret ?_
    refine bodyQ_ret 0 (.cell 0 rfl rfl (tok _ rfl) rfl (.tmp rfl .nil)) rfl ?_
    rw [show nextTok s at_ = (⟨4, i, (i + 2 : Nat)⟩, 0) by rw [hn]; unfold nextAt; rw [if_neg hz, if_neg hl, if_neg hd, if_pos hx]]
    exact .mk
  have hx := mt key.2 (by rw [hb]; decide)
  refine ACode.seq (ACode.region ?_)
  refine ASeq.q rfl rfl (QOp.move rfl rfl) ?_
  refine ASeq.q rfl rfl (QOp.move rfl rfl) ?_
  refine ASeq.q rfl rfl (QOp.move rfl rfl) ?_
  refine ASeq.q rfl rfl (QOp.move rfl rfl) ?_
  refine ASeq.q rfl rfl (QOp.ar64 rfl rfl rfl rfl ⟨by omega, by omega⟩) ?_
  refine ASeq.q rfl rfl (QOp.cutS rfl rfl (tok _ rfl) rfl rfl rfl (by omega) (by omega) (by omega)) ?_
  refine ASeq.op rfl rfl (AOp.callP 0 rfl (by kernel_rfl) rfl rfl rfl (has_ok oneL (s.extract i (i + 1)) (by decide)) ?_ (by rintro _ _ ⟨⟩))
  rintro _ _ ⟨⟩
  refine ASeq.nil ?_
  refine AExit.then_normal ?_
  refine ACode.cond _ rfl (fun hy => ?_) (fun hy => ?_)
  · refine ACode.region ?_
    refine ASeq.q rfl rfl (QOp.move rfl rfl) ?_
    refine ASeq.q rfl rfl (QOp.ar64 rfl rfl rfl rfl ⟨by omega, by omega⟩) ?_
    refine ASeq.q rfl rfl (QOp.assign rfl rfl) ?_
    refine ASeq.nil ?_
    refine ACode.seq (ACode.seq (ACode.region ?_))
    refine ASeq.q rfl rfl (QOp.move rfl rfl) ?_
    refine ASeq.q rfl rfl (QOp.move rfl rfl) ?_
    refine ASeq.q rfl rfl (QOp.cmp rfl rfl rfl rfl) ?_
    refine ASeq.nil ?_
    refine AExit.then_normal ?_
    refine ACode.cond _ rfl (fun hb => absurd (eq_of_beq hb) (by omega)) (fun hb => ?_)
    refine ACode.skip (ACode.seq (ACode.region ?_))
    refine ASeq.q rfl rfl (QOp.move rfl rfl) ?_
    refine ASeq.q rfl rfl (QOp.move rfl rfl) ?_
    refine ASeq.q rfl rfl (QOp.build rfl (tok _ rfl) rfl rfl rfl rfl rfl) ?_
    refine ASeq.q rfl rfl (QOp.build rfl (tok _ rfl) rfl rfl rfl rfl rfl) ?_
    refine ASeq.op0 rfl rfl (AOp.storeP 0 rfl rfl rfl rfl (tok _ rfl) rfl rfl rfl rfl ?_)
    refine ASeq.q rfl rfl (QOp.assign rfl rfl) ?_
    refine ASeq.nil ?_
    refine ACode.ret ?_
    refine bodyQ_ret 0 (.cell 0 rfl rfl (tok _ rfl) rfl (.tmp rfl .nil)) rfl ?_
    rw [show nextTok s at_ = (⟨4, i, (i + 1 : Nat)⟩, 0) by rw [hn]; unfold nextAt; rw [if_neg hz, if_neg hl, if_neg hd, if_neg hx, if_pos hy]]
    exact .mk
  · refine ACode.skip (ACode.seq (ACode.seq (ACode.region ?_)))
    refine ASeq.q rfl rfl (QOp.move rfl rfl) ?_
    refine ASeq.q rfl rfl (QOp.move rfl rfl) ?_
    refine ASeq.q rfl rfl (QOp.cmp rfl rfl rfl rfl) ?_
    refine ASeq.nil ?_
    refine AExit.then_normal ?_
    refine ACode.cond _ rfl (fun hb => ?_) (fun hb => absurd hb (by simp))
    refine ACode.seq (ACode.region ?_)
    refine ASeq.q rfl rfl (QOp.move rfl rfl) ?_
    refine ASeq.q rfl rfl (QOp.move rfl rfl) ?_
    refine ASeq.q rfl rfl (QOp.build rfl (tok _ rfl) rfl rfl rfl rfl rfl) ?_
    refine ASeq.q rfl rfl (QOp.build rfl (tok _ rfl) rfl rfl rfl rfl rfl) ?_
    refine ASeq.op0 rfl rfl (AOp.storeP 0 rfl rfl rfl rfl (tok _ rfl) rfl rfl rfl rfl ?_)
    refine ASeq.q rfl rfl (QOp.assign rfl rfl) ?_
    refine ASeq.nil ?_
    refine ACode.ret (AExit.then_ret ?_)
    refine bodyQ_ret 0 (.cell 0 rfl rfl (tok _ rfl) rfl (.tmp rfl .nil)) rfl ?_
    rw [show nextTok s at_ = (⟨0, i, i⟩, 2) by rw [hn]; unfold nextAt; rw [if_neg hz, if_neg hl, if_neg hd, if_neg hx, if_neg (by rw [hy]; decide)]]
    exact .mk
end Go.Proofs.Ytaadamobapnfbaa
/- Tokens: All; what they are. -/
set_option linter.unusedVariables false
set_option linter.unusedSimpArgs false
set_option maxRecDepth 100000
namespace Go.Proofs.Ytaadamobapnfbaa
open Go Go.Abs
inductive Chain (s : ByteArray) : Nat → List Tok → Prop
  | last {at_ : Nat} {t : Tok} (h : TokOk s at_ t) (hk : t.kind = 0) : Chain s at_ [t]
  | cons {at_ : Nat} {t : Tok} {l : List Tok} (h : TokOk s at_ t) (hk : t.kind ≠ 0) (h' : Chain s t.to.toNat l) : Chain s at_ (t :: l)
theorem Chain.len {s : ByteArray} {at_ : Nat} {l : List Tok} (h : Chain s at_ l) : at_ + l.length ≤ s.size + 1 := by
  induction h with
  | last h hk => have := h.fr; have := h.to; have := h.end_; simp only [List.length_cons, List.length_nil]; omega
  | cons h hk h' ih => have := h.fr; have := h.kind hk; have := h.end_; simp only [List.length_cons]; omega
theorem Chain.mem {s : ByteArray} {at_ : Nat} {l : List Tok} (h : Chain s at_ l) : ∀ t ∈ l, 0 ≤ t.fr ∧ t.fr ≤ t.to ∧ t.to ≤ s.size ∧ (t.kind = 2 → digs (s.extract t.fr.toNat t.to.toNat).data.toList ∧ (s.extract t.fr.toNat t.to.toNat).size ≤ 18) := by
  induction h with
  | last h hk => intro t ht; rw [List.mem_singleton] at ht; subst ht; exact ⟨by have := h.fr; omega, h.to, h.end_, h.num⟩
  | cons h hk h' ih =>
    intro t ht
    rcases List.mem_cons.1 ht with rfl | ht
    · exact ⟨by have := h.fr; omega, h.to, h.end_, h.num⟩
    · exact ih t ht
theorem Chain.lastKind {s : ByteArray} {at_ : Nat} {l : List Tok} (h : Chain s at_ l) : ∀ i : Nat, i + 1 = l.length → (l.getD i default).kind = 0 := by
  induction h with
  | last h hk => intro i hi; have : i = 0 := by simpa using hi
                 subst this; exact hk
  | cons h hk h' ih =>
    intro i hi
    cases i with
    | zero => have := h'.len; cases h' <;> simp at hi
    | succ i => rw [List.getD_cons_succ]; exact ih i (by simpa using hi)
theorem Chain.pos {s : ByteArray} {at_ : Nat} {l : List Tok} (h : Chain s at_ l) : 0 < l.length := by cases h <;> simp
theorem allToks_chain (s : ByteArray) : ∀ (n at_ : Nat) (out : List Tok), at_ ≤ s.size → (allToks n s at_ out).2.2 = 0 → ∃ l, (allToks n s at_ out).1 = out ++ l ∧ Chain s at_ l := by
  intro n
  induction n with
  | zero => intro at_ out h hc; simp [allToks] at hc
  | succ n ih =>
    intro at_ out h hc
    unfold allToks at hc ⊢
    split
    · rename_i h1; rw [if_pos h1] at hc; exact absurd hc h1
    rename_i h1
    rw [if_neg h1] at hc
    have h1 : (nextTok s at_).2 = 0 := Decidable.byContradiction h1
    have ht := nextTok_ok h h1
    split
    · rename_i hk; exact ⟨_, rfl, .last ht hk⟩
    · rename_i hk
      rw [if_neg hk] at hc
      have hto := ht.end_
      obtain ⟨l, e, hl⟩ := ih (nextTok s at_).1.to.toNat (out ++ [(nextTok s at_).1]) (by omega) hc
      exact ⟨(nextTok s at_).1 :: l, by rw [e]; simp, .cons ht hk hl⟩
theorem tokens_chain {s : ByteArray} (hc : (tokens s).2.2 = 0) : Chain s 0 (tokens s).1 := by
  unfold tokens at hc ⊢
  split
  · rename_i h; rw [if_pos h] at hc; simp at hc
  · rename_i h
    rw [if_neg h] at hc
    obtain ⟨l, e, hl⟩ := allToks_chain s _ 0 [] (Nat.zero_le _) hc
    rw [e]; exact hl
theorem PS.start_ok {s : ByteArray} (h : s.size ≤ 1000000) (hc : (tokens s).2.2 = 0) : PS.ok { text := s, toks := (tokens s).1 } := by
  have hch := tokens_chain hc
  have h1 := hch.len
  have h2 := hch.pos
  exact ⟨Int.le_refl _, by simp; omega, fun t ht => ⟨(hch.mem t ht).1, (hch.mem t ht).2.1, (hch.mem t ht).2.2.1⟩, by simp; omega, by simp, by simp, by simp, hch.lastKind, fun t ht => (hch.mem t ht).2.2.2⟩
theorem toks_rows (l : List Tok) (t : Tok) : ∀ r ∈ l.map Tok.cells ++ [t.cells], r.length = 3 := rows_ok 3 _ _ (fun y hy => by obtain ⟨z, _, rfl⟩ := List.mem_map.1 hy; rfl) rfl
theorem all_ok (s : ByteArray) (hs : s.size ≤ 1000000) : ACalls Try.prog 36 [vs s] [] (RV (.tup [.il 3 none ((tokens s).1.map Tok.cells), vi (tokens s).2.1, vi (tokens s).2.2]) []) := by
  refine ACalls.of_code (c := _) Try.func36 rfl Try.ntmps36 (Nat.le_of_ble_eq_true rfl) ?_
  refine ACode.seq (ACode.region ?_)
  refine ASeq.q rfl rfl (QOp.assign rfl rfl) ?_
  refine ASeq.q rfl rfl (QOp.assign rfl rfl) ?_
  refine ASeq.q rfl rfl (QOp.assign rfl rfl) ?_
  refine ASeq.nil ?_
  refine ACode.seq (ACode.seq (ACode.region ?_))
  refine ASeq.q rfl rfl (QOp.move rfl rfl) ?_
  refine ASeq.q rfl rfl (QOp.lenS rfl rfl (tok _ rfl) rfl) ?_
  refine ASeq.q rfl rfl (QOp.cmp rfl rfl rfl rfl) ?_
  refine ASeq.nil ?_
  refine AExit.then_normal ?_
  refine ACode.cond _ rfl (fun hb => ?_) (fun hb => ?_)
  · have hz : 20000 < s.size := by have := of_decide_eq_true hb; omega
    refine ACode.seq (ACode.region ?_)
    refine ASeq.q rfl rfl (QOp.assign rfl rfl) ?_
    refine ASeq.q rfl rfl (QOp.assign rfl rfl) ?_
    refine ASeq.q rfl rfl (QOp.assign rfl rfl) ?_
    refine ASeq.slot 2 rfl (AV.Le.nilT 3 none) ?_
    refine ASeq.nil ?_
    refine ACode.ret (AExit.then_ret ?_)
    refine bodyQ_ret 0 (.tmp rfl (.tmp rfl (.tmp rfl .nil))) rfl ?_
    rw [show tokens s = ([], 0, 1) by unfold tokens; rw [if_pos hz]]
    exact .mk
  have hz : ¬ 20000 < s.size := by have := of_decide_eq_false hb; omega
  have htk : tokens s = allToks (s.size + 1) s 0 [] := by unfold tokens; rw [if_neg hz]
  rw [htk]
  clear htk
  generalize hres : allToks (s.size + 1) s 0 [] = res
  refine ACode.skip (ACode.seq (ACode.region ?_))
  refine ASeq.q rfl rfl (QOp.assign rfl rfl) ?_
  refine ASeq.nil ?_
  refine ACode.seq (ACode.region ?_)
  refine ASeq.q rfl rfl (QOp.assign rfl rfl) ?_
  refine ASeq.nil ?_
  refine ACode.block ?_
  refine ACode.newTok (fun tl => ?_)
  refine ACode.slot 5 rfl (AV.Le.nilT 3 (some tl)) ?_
  refine ACode.loopP (fun (x : Nat × Nat × List Tok × Nat) => [(0, vs s), (5, .il 3 (some x.2.2.2) (x.2.2.1.map Tok.cells)), (6, vi x.2.1)]) (fun x => [.tk x.2.2.2]) (fun x => x.1)
    (fun x => x.2.1 ≤ s.size ∧ s.size < x.1 + x.2.1 ∧ x.2.2.1.length ≤ x.2.1 ∧ allToks x.1 s x.2.1 x.2.2.1 = res) (s.size + 1, 0, [], tl)
    ⟨Nat.zero_le _, by dsimp only; omega, Nat.le_refl _, hres⟩ (.cons rfl (.cons rfl (.cons rfl .nil))) 1 rfl ?_
  rintro ⟨n, i, out, tl⟩ ⟨hi, hn, hl, he⟩
  dsimp only at hi hn hl he
  obtain ⟨n, rfl⟩ : ∃ k, n = k + 1 := ⟨n - 1, by omega⟩
  unfold allToks at he
  refine ACode.block (ACode.seq (ACode.region ?_))
  refine ASeq.q rfl rfl (QOp.move rfl rfl) ?_
  refine ASeq.q rfl rfl (QOp.move rfl rfl) ?_
  refine ASeq.op rfl rfl (AOp.callP 0 rfl (by kernel_rfl) rfl rfl rfl (next_ok s i hi hs) ?_ (by rintro _ _ ⟨⟩))
  rintro _ _ ⟨⟩
  refine ASeq.q rfl rfl (QOp.move rfl rfl) ?_
  refine ASeq.q rfl rfl (QOp.extract rfl rfl rfl) ?_
  refine ASeq.q rfl rfl (QOp.extract rfl rfl rfl) ?_
  refine ASeq.op rfl rfl (AOp.allocP rfl (tok _ rfl) rfl rfl (fun _ => rfl) (fun _ => ?_))
  refine ASeq.op0 rfl rfl (AOp.storeP 1 rfl rfl rfl rfl (tok _ rfl) rfl rfl rfl rfl ?_)
  refine ASeq.q rfl rfl (QOp.assign rfl rfl) ?_
  refine ASeq.nil ?_
  refine ACode.seq (ACode.seq (ACode.region ?_))
  refine ASeq.q rfl rfl (QOp.move rfl rfl) ?_
  refine ASeq.q rfl rfl (QOp.cmp rfl rfl rfl rfl) ?_
  refine ASeq.nil ?_
  refine AExit.then_normal ?_
  refine ACode.cond _ rfl (fun hb => ?_) (fun hb => ?_)
  · have hc : (nextTok s i).2 ≠ 0 := by simpa using hb
    rw [if_pos hc] at he
    rw [← he]
    refine ACode.seq ?_
    refine ACode.drawn [[], [0], [0, 1], [], [], [0, 1, 2, 4], [0, 1, 2, 3, 4, 5]] (by kernel_rfl) mixed ?_
    refine DAny.qu 0 rfl rfl (by kernel_rfl) rfl (fun _ => .does _ _ rfl (.none rfl) (QOp.fieldM rfl rfl (tok _ rfl) rfl rfl (by decide) rfl)) ?_
    refine DAny.qu 1 rfl rfl (by kernel_rfl) rfl (fun _ => .does _ _ rfl (.none rfl) (QOp.fieldM rfl rfl (tok _ rfl) rfl rfl (by decide) rfl)) ?_
    refine DAny.ld 2 rfl rfl (by kernel_rfl) rfl (.does _ _ rfl (.none rfl) (QOp.loadM 1 rfl rfl rfl (tok _ rfl) rfl)) ?_
    refine DAny.qu 3 rfl rfl (by kernel_rfl) rfl (fun _ => .does _ _ rfl (.none rfl) (QOp.move rfl rfl)) ?_
    refine DAny.ef 4 rfl (by kernel_rfl) (.none rfl) rfl rfl (.q (QOp.assign rfl rfl) ⟨(by ((refine AllQ.cons (.does _ _ rfl (.none rfl) (QOp.loadM 1 rfl rfl rfl (tok _ rfl) rfl)) ?_); (exact AllQ.nil))), ?_⟩)
    refine DAny.ef 5 rfl (by kernel_rfl) (.none rfl) rfl rfl (.q (QOp.assign rfl rfl) ⟨(by ((exact AllQ.nil))), ?_⟩)
    refine DAny.ef 6 rfl (by kernel_rfl) (.none rfl) rfl rfl (.q (QOp.assign rfl rfl) ⟨(by ((exact AllQ.nil))), ?_⟩)
    refine DAny.done (by kernel_rfl) ?_
    refine ACode.slot 2 rfl (AV.Le.nilT 3 none) ?_
    refine ACode.ret (AExit.then_ret (AExit.in_ret (AExit.then_ret (AExit.in_ret ?_))))
    exact bodyQ_ret 0 (.tmp rfl (.tmp rfl (.tmp rfl .nil))) rfl .mk
  have hc : (nextTok s i).2 = 0 := by simpa using hb
  rw [if_neg (fun h => h hc)] at he
  have ht := nextTok_ok hi hc
  refine ACode.skip (ACode.seq (ACode.region ?_))
  refine ASeq.q rfl rfl (QOp.move rfl rfl) ?_
  refine ASeq.q rfl rfl (QOp.loadM 1 rfl rfl rfl (tok _ rfl) rfl) ?_
  refine ASeq.op rfl rfl (AOp.buildSliceR rfl (tok _ rfl) rfl (tok _ rfl) (by decide) rfl (by decide) rfl rfl rfl rfl ?_)
  refine ASeq.op rfl rfl (AOp.appendP 0 (e := 93) (tde := TT 93) rfl rfl rfl rfl (tok _ rfl) rfl (tok _ rfl) (tok _ rfl) rfl (by decide) rfl rfl (fun _ => rfl) (toks_rows out _) (by simp only [List.length_map, List.length_cons, List.length_nil]; omega) rfl (fun _ => ?_))
  refine ASeq.q rfl rfl (QOp.assign rfl rfl) ?_
  refine ASeq.nil ?_
  refine ACode.seq (ACode.seq (ACode.region ?_))
  refine ASeq.q rfl rfl (QOp.fieldM rfl rfl (tok _ rfl) rfl rfl (by decide) rfl) ?_
  refine ASeq.q rfl rfl (QOp.loadM 1 rfl rfl rfl (tok _ rfl) rfl) ?_
  refine ASeq.q rfl rfl (QOp.cmp rfl rfl rfl rfl) ?_
  refine ASeq.nil ?_
  refine AExit.then_normal ?_
  refine ACode.cond _ rfl (fun hb => ?_) (fun hb => ?_)
  · have hk : (nextTok s i).1.kind = 0 := by simpa using hb
    rw [if_pos hk] at he
    rw [← he]
    refine ACode.seq (ACode.region ?_)
    refine ASeq.slot 5 rfl (AV.Le.tok 3 _ _) ?_
    refine ASeq.q rfl rfl (QOp.move rfl rfl) ?_
    refine ASeq.q rfl rfl (QOp.assign rfl rfl) ?_
    refine ASeq.q rfl rfl (QOp.assign rfl rfl) ?_
    refine ASeq.q rfl rfl (QOp.assign rfl rfl) ?_
    refine ASeq.nil ?_
    refine ACode.ret (AExit.then_ret (AExit.in_ret (AExit.then_ret (AExit.in_ret ?_))))
    refine bodyQ_ret 0 (.tmp rfl (.tmp rfl (.tmp rfl .nil))) rfl ?_
    rw [List.map_append]
    exact .mk
  · have hk : ¬ (nextTok s i).1.kind = 0 := by simpa using hb
    rw [if_neg hk] at he
    have h1 := ht.fr
    have h2 := ht.kind hk
    have h3 := ht.end_
    refine ACode.skip (ACode.region ?_)
    refine ASeq.q rfl rfl (QOp.fieldM rfl rfl (tok _ rfl) rfl rfl (by decide) rfl) ?_
    refine ASeq.q rfl rfl (QOp.fieldM rfl rfl (tok _ rfl) rfl rfl (by decide) rfl) ?_
    refine ASeq.q rfl rfl (QOp.loadM 1 rfl rfl rfl (tok _ rfl) rfl) ?_
    refine ASeq.q rfl rfl (QOp.assign rfl rfl) ?_
    refine ASeq.nil ?_
    refine AExit.in_normal (AExit.then_normal ?_)
    refine ⟨(n, (nextTok s i).1.to.toNat, out ++ [(nextTok s i).1], _), 1, ⟨by dsimp only; omega, by dsimp only; omega, by simp only [List.length_append, List.length_cons, List.length_nil]; omega, he⟩, Nat.lt_succ_self _, .cons rfl (.consE rfl ?_ (.consE rfl ?_ .nil)), rfl⟩
    · simp only [List.map_append, List.map_cons, List.map_nil]; rfl
    · rw [Int.toNat_of_nonneg (by omega)]
end Go.Proofs.Ytaadamobapnfbaa
/- Functions. -/
set_option linter.unusedVariables false
set_option linter.unusedSimpArgs false
set_option maxRecDepth 100000
namespace Go.Proofs.Ytaadamobapnfbaa
open Go Go.Abs
theorem Step.params : ∀ (n : Nat) (p : PS) (l : List ByteArray), Step 0 0 p (params n p l).1
  | 0, p, l => .fail p 98 (by decide) _ _
  | n + 1, p, l => by
    unfold Ytaadamobapnfbaa.params
    split
    · have h0 : Step 0 0 p (if l = [] then p else p.want w_comma) := by
        split
        · exact .refl p
        · exact (Step.want p _).weak (by decide) (by decide)
      exact ((h0.then (Step.kindOf _ 1 (by decide)) (by decide) (by decide)).then (Step.params n _ _) (by decide) (by decide)).weak (by decide) (by decide)
    · exact .refl p
theorem Step.full (p : PS) : Step 0 0 p p.full := by
  unfold PS.full
  split
  · exact .fail p 5 (by decide) 0 0
  · exact .refl p
/-- the state behind a function's body -/
def funcEnd (n : Nat) (p : PS) : PS × List Int :=
  block n (if ((params n (((p.full.want w_func).kindOf 1).1.want w_lp) []).1.want w_rp).is w_int = true then ((params n (((p.full.want w_func).kindOf 1).1.want w_lp) []).1.want w_rp).want w_int
    else (params n (((p.full.want w_func).kindOf 1).1.want w_lp) []).1.want w_rp) 1
def funcOf (n : Nat) (p : PS) : Fu :=
  { name := ((p.full.want w_func).kindOf 1).2, fr := p.here, to := (funcEnd n p).1.lastTo, params := (params n (((p.full.want w_func).kindOf 1).1.want w_lp) []).2,
    type := if ((params n (((p.full.want w_func).kindOf 1).1.want w_lp) []).1.want w_rp).is w_int = true then 1 else 4, body := (funcEnd n p).2 }
theorem function_eq (n : Nat) (p : PS) : function n p = if (funcEnd n p).1.code ≠ 0 then (funcEnd n p).1 else { (funcEnd n p).1 with funcs := (funcEnd n p).1.funcs ++ [funcOf n p] } := rfl
theorem Step.funcEnd (n : Nat) (p : PS) : Step 4 4 p (funcEnd n p).1 := by
  unfold Ytaadamobapnfbaa.funcEnd
  have h1 := ((((((Step.full p).then (Step.want _ w_func) (by decide) (by decide)).then (Step.kindOf _ 1 (by decide)) (by decide) (by decide)).then (Step.want _ w_lp) (by decide) (by decide)).then (Step.params n _ []) (by decide) (by decide)).then (Step.want _ w_rp) (by decide) (by decide))
  split
  · exact ((h1.then (Step.want _ w_int) (by decide) (by decide)).then ((steps2 n).block _ 1) (by decide) (by decide)).weak (by decide) (by decide)
  · exact (h1.then ((steps2 n).block _ 1) (by decide) (by decide)).weak (by decide) (by decide)
theorem function_ok {n : Nat} {p : PS} (h : p.ok) : (function n p).ok ∧ (function n p).toks = p.toks ∧ (function n p).text = p.text ∧ ((function n p).code = 0 → p.code = 0 ∧ p.at_ < (function n p).at_) := by
  have s := Step.funcEnd n p
  have o := s.ok (by decide) (by decide) h
  rw [function_eq]
  split
  · rename_i hc; exact ⟨o, s.toks, s.text, fun h => absurd h hc⟩
  · rename_i hc
    have hc : (funcEnd n p).1.code = 0 := Decidable.byContradiction hc
    have hlt : p.at_ < (funcEnd n p).1.at_ := by
      have e1 := s.ex0 hc
      obtain ⟨a, ea⟩ := s.exs
      rw [ea, List.length_append] at e1
      omega
    refine ⟨⟨o.at0, o.at1, o.spans, o.small, o.ex, o.st, ?_, o.last, o.nums⟩, s.toks, s.text, fun _ => ⟨s.live hc, hlt⟩⟩
    simp only [List.length_append, List.length_cons, List.length_nil, s.funcs]
    have := h.fu
    omega
theorem strs_rows (l : List ByteArray) (x : ByteArray) : ∀ r ∈ strs l ++ [[vs x]], r.length = 1 := rows_ok 1 _ _ (fun y hy => by obtain ⟨z, _, rfl⟩ := List.mem_map.1 hy; rfl) rfl
theorem strs_snoc (l : List ByteArray) (x : ByteArray) : strs l ++ [[vs x]] = strs (l ++ [x]) := by simp [strs]
theorem le_m3 {p a b : Int} (h : a ≤ p) (h' : b + 20 ≤ a) : b ≤ p := by omega
theorem le_k3 {k : Nat} {a b : Int} (h : a + 1 ≤ (k + 1 : Nat)) (h' : b + 20 ≤ a) : b + 1 ≤ k := by omega
theorem RP.of {p : PS} {r : AV} {R : List Abs.Item} {te ts tf : Nat} (h1 : r = .agg (p.cells te ts tf)) (h2 : R = [.tk te, .tk ts, .tk tf]) : RP p (.ret r) R := by
  subst h1; subst h2; exact .mk te ts tf
set_option maxHeartbeats 4000000 in
theorem function_walk (n : Nat) (p : PS) (h : p.ok) (hm : p.mm + 14 ≤ n) (te ts tf : Nat) : ACalls Try.prog 37 [.agg (p.cells te ts tf)] [.tk te, .tk ts, .tk tf] (RP (function n p)) := by
  have hnn := PS.mm_nn h
  have hmax : dmax = 1099511627776 := rfl
  have p0 := h.at0
  have p2 := h.small
  have hmx : p.mm ≤ 20971520 := by
    unfold PS.mm; split <;> omega
  have sf := Step.full p
  have of := sf.ok (by decide) (by decide) h
  have mf := sf.le h
  have o1 := ok_want of w_func
  have m1 := mm_wantle of w_func
  have s2 := Step.kindOf (p.full.want w_func) 1 (by decide)
  have o2 := s2.ok (by decide) (by decide) o1
  have m2 := s2.le o1
  have o3 := ok_want o2 w_lp
  have m3 := mm_wantle o2 w_lp
  have n3 := PS.mm_nn o3
  have a3 := o3.at0
  refine ACalls.of_code (c := _) Try.func37 rfl Try.ntmps37 (Nat.le_of_ble_eq_true rfl) ?_
  refine ACode.seq (ACode.region ?_)
  refine ASeq.op rfl rfl (AOp.boxP rfl rfl rfl (fun _ => rfl) (fun _ => ?_))
  refine ASeq.op rfl rfl (AOp.allocP rfl (tok _ rfl) rfl rfl (fun _ => rfl) (fun _ => ?_))
  refine ASeq.nil ?_
  rename_i m1' m2'
  refine ACode.seq (ACode.region ?_)
  refine ASeq.q rfl rfl (QOp.loadM 3 rfl rfl rfl (tok _ rfl) rfl) ?_
  refine ASeq.op rfl rfl (AOp.callP 0 rfl (by kernel_rfl) rfl rfl rfl (here_ok p h _ _ _) ?_ (by rintro _ _ ⟨⟩))
  rintro _ _ ⟨⟩
  refine ASeq.q rfl rfl (QOp.assign rfl rfl) ?_
  refine ASeq.nil ?_
  refine ACode.meetA (fun _ : Nat × Nat × Nat => [(1, .mp m1' 0), (2, .mp m2' 0), (3, vi p.here)]) (fun x => [.tk x.1, .tk x.2.1, .tk x.2.2, .mu m1' (p.full.cells x.1 x.2.1 x.2.2), .mu m2' (List.map AV.v (TT 91).zero)]) (fun rest => ?_) ?_
  · refine ACode.seq (ACode.region ?_)
    refine ASeq.q rfl rfl (QOp.loadM 3 rfl rfl rfl (tok _ rfl) rfl) ?_
    refine ASeq.op rfl rfl (AOp.callP 0 rfl (by kernel_rfl) rfl rfl rfl (is_ok p h w_func _ _ _) ?_ (by rintro _ _ ⟨⟩))
    rintro _ _ ⟨⟩
    refine ASeq.q rfl rfl (QOp.move rfl rfl) ?_
    refine ASeq.split 15 (p.is w_func) rfl (fun hb => ?_) (fun hb => ?_)
    · refine ASeq.gq _ _ rfl rfl rfl rfl (QOp.fieldM rfl rfl (tok _ rfl) rfl rfl (by decide) rfl) ?_
      refine ASeq.gq _ _ rfl rfl rfl rfl (QOp.fieldM rfl rfl (tok _ rfl) rfl rfl (by decide) rfl) ?_
      refine ASeq.gq _ _ rfl rfl rfl rfl (QOp.loadM 3 rfl rfl rfl (tok _ rfl) rfl) ?_
      refine ASeq.gq _ _ rfl rfl rfl rfl (QOp.lenI rfl rfl (tok _ rfl) rfl) ?_
      refine ASeq.gq _ _ rfl rfl rfl rfl (QOp.cmp rfl rfl rfl rfl) ?_
      refine ASeq.q rfl rfl (QOp.pickT rfl rfl rfl) ?_
      refine ASeq.nil ?_
      refine AExit.then_normal ?_
      refine ACode.cond _ rfl (fun hc => ?_) (fun hc => ?_)
      · have hfull : p.full = p.fail 5 := by
          unfold PS.full; rw [if_pos ⟨hb, by simpa using hc⟩]
        refine ACode.region ?_
        refine ASeq.q rfl rfl (QOp.loadM 3 rfl rfl rfl (tok _ rfl) rfl) ?_
        refine ASeq.op rfl rfl (AOp.callP 3 rfl (by kernel_rfl) rfl rfl rfl (fail_ok p h 5 _ _ _) ?_ (by rintro _ _ ⟨⟩))
        rintro _ _ ⟨te, ts, tf⟩
        refine ASeq.op0 rfl rfl (AOp.storeP 3 rfl rfl rfl rfl (tok _ rfl) rfl rfl rfl rfl ?_)
        refine ASeq.nil ?_
        exact (rest (te, ts, tf)).atP 5 (.cons rfl (.cons rfl (.cons rfl .nil))) (by rw [hfull]; rfl)
      · have hfull : p.full = p := by
          unfold PS.full; rw [if_neg (fun h => absurd h.2 (by simpa using hc))]
        refine ACode.skip ?_
        exact (rest (te, ts, tf)).atP 5 (.cons rfl (.cons rfl (.cons rfl .nil))) (by rw [hfull]; rfl)
    · have hfull : p.full = p := by
        unfold PS.full; rw [if_neg (fun h => absurd h.1 (by rw [hb]; decide))]
      refine ASeq.gno _ _ rfl rfl rfl rfl rfl ?_
      refine ASeq.gno _ _ rfl rfl rfl rfl rfl ?_
      refine ASeq.gno _ _ rfl rfl rfl rfl rfl ?_
      refine ASeq.gno _ _ rfl rfl rfl rfl rfl ?_
      refine ASeq.gno _ _ rfl rfl rfl rfl rfl ?_
      refine ASeq.q rfl rfl (QOp.pickF rfl rfl rfl) ?_
      refine ASeq.nil ?_
      refine AExit.then_normal ?_
      refine ACode.cond _ rfl (fun hc => by cases hc) (fun hc => ?_)
      refine ACode.skip ?_
      exact (rest (te, ts, tf)).atP 5 (.cons rfl (.cons rfl (.cons rfl .nil))) (by rw [hfull]; rfl)
  rintro ⟨te, ts, tf⟩
  refine ACode.seq (ACode.region ?_)
  refine ASeq.q rfl rfl (QOp.loadM 3 rfl rfl rfl (tok _ rfl) rfl) ?_
  refine ASeq.op rfl rfl (AOp.callP 3 rfl (by kernel_rfl) rfl rfl rfl (want_ok _ of w_func _ _ _) ?_ (by rintro _ _ ⟨⟩))
  rintro _ _ ⟨te, ts, tf⟩
  refine ASeq.op rfl rfl (AOp.callP 3 rfl (by kernel_rfl) rfl rfl rfl (kind_ok _ o1 1 _ _ _) ?_ (by rintro _ _ ⟨⟩))
  rintro _ _ ⟨te, ts, tf⟩
  refine ASeq.q rfl rfl (QOp.move rfl rfl) ?_
  refine ASeq.q rfl rfl (QOp.extract rfl rfl rfl) ?_
  refine ASeq.q rfl rfl (QOp.extract rfl rfl rfl) ?_
  refine ASeq.op rfl rfl (AOp.allocP rfl (tok _ rfl) rfl rfl (fun _ => rfl) (fun _ => ?_))
  refine ASeq.op0 rfl rfl (AOp.storeP 5 rfl rfl rfl rfl (tok _ rfl) rfl rfl rfl rfl ?_)
  refine ASeq.q rfl rfl (QOp.assign rfl rfl) ?_
  refine ASeq.nil ?_
  refine ACode.seq (ACode.region ?_)
  refine ASeq.q rfl rfl (QOp.loadM 5 rfl rfl rfl (tok _ rfl) rfl) ?_
  refine ASeq.op rfl rfl (AOp.callP 3 rfl (by kernel_rfl) rfl rfl rfl (want_ok _ o2 w_lp _ _ _) ?_ (by rintro _ _ ⟨⟩))
  rintro _ _ ⟨te, ts, tf⟩
  refine ASeq.op0 rfl rfl (AOp.storeP 3 rfl rfl rfl rfl (tok _ rfl) rfl rfl rfl rfl ?_)
  refine ASeq.nil ?_
  refine ACode.seq (ACode.region ?_)
  refine ASeq.q rfl rfl (QOp.move rfl rfl) ?_
  refine ASeq.q rfl rfl (QOp.build rfl (tok _ rfl) rfl rfl rfl rfl rfl) ?_
  refine ASeq.op rfl rfl (AOp.allocP rfl (tok _ rfl) rfl rfl (fun _ => rfl) (fun _ => ?_))
  refine ASeq.op0 rfl rfl (AOp.storeP 6 rfl rfl rfl rfl (tok _ rfl) rfl rfl rfl rfl ?_)
  refine ASeq.nil ?_
  refine ACode.seq (ACode.block ?_)
  refine ACode.newTok (fun tl => ?_)
  refine ACode.cells (cells' := [vs ((p.full.want w_func).kindOf 1).2, vi 0, vi 0, .il 1 (some tl) (strs []), vi 4, .v (.slice none 0 0)]) [_, _, _, _, _, _] [_] rfl (.cons (.refl _) (.cons (.refl _) (.cons (.refl _) (.cons (AV.Le.nilT 1 _) (.cons (.refl _) (.cons (.refl _) .nil)))))) ?_
  generalize hres : params n (((p.full.want w_func).kindOf 1).1.want w_lp) [] = res
  refine ACode.loopP (fun (x : Nat × PS × List ByteArray × Nat × Nat × Nat × Nat) => [(1, .mp m1' 0), (2, .mp m2' 0), (3, vi p.here), (6, .mp _ 0)])
    (fun (x : Nat × PS × List ByteArray × Nat × Nat × Nat × Nat) => [.tk x.2.2.2.1, .tk x.2.2.2.2.1, .tk x.2.2.2.2.2.1, .mu m1' (x.2.1.cells x.2.2.2.1 x.2.2.2.2.1 x.2.2.2.2.2.1), .mu m2' (List.map AV.v (TT 91).zero), .mu _ _,
      .mu _ [vs ((p.full.want w_func).kindOf 1).2, vi 0, vi 0, .il 1 (some x.2.2.2.2.2.2) (strs x.2.2.1), vi 4, .v (.slice none 0 0)], .tk x.2.2.2.2.2.2]) (fun x => x.1)
    (fun x => x.2.1.ok ∧ x.2.1.mm ≤ p.mm ∧ x.2.1.mm + 1 ≤ x.1 ∧ params x.1 x.2.1 x.2.2.1 = res ∧ (x.2.1.code = 0 → (x.2.2.1.length : Int) ≤ x.2.1.at_) ∧ (x.2.2.1.length : Int) ≤ x.2.1.at_ + 1)
    (n, ((p.full.want w_func).kindOf 1).1.want w_lp, [], te, ts, tf, tl)
    ⟨o3, by dsimp only; omega, by dsimp only; omega, hres, fun _ => by simpa using a3, by simp only [List.length_nil]; omega⟩ (.cons rfl (.cons rfl (.cons rfl (.cons rfl .nil)))) 8 rfl ?_
  rintro ⟨k, q, l, te, ts, tf, tl⟩ ⟨hq, hqp, hqm, hres', hlc, hll⟩
  dsimp only at hq hqp hqm hres' hlc hll
  have hqn := PS.mm_nn hq
  obtain ⟨k, rfl⟩ : ∃ k', k = k' + 1 := ⟨k - 1, by omega⟩
  have q0 := hq.at0
  have q1 := hq.at1
  have q2 := hq.small
  refine ACode.seq (ACode.seq (ACode.region ?_))
  refine ASeq.q rfl rfl (QOp.fieldM rfl rfl (tok _ rfl) rfl rfl (by decide) rfl) ?_
  refine ASeq.q rfl rfl (QOp.loadM 3 rfl rfl rfl (tok _ rfl) rfl) ?_
  refine ASeq.q rfl rfl (QOp.cmp rfl rfl rfl rfl) ?_
  refine ASeq.q rfl rfl (QOp.move rfl rfl) ?_
  refine ASeq.split 37 (q.code == 0) rfl (fun hb => ?_) (fun hb => ?_)
  · have hc : q.code = 0 := by simpa using hb
    have hlc := hlc hc
    refine ASeq.gq _ _ rfl rfl rfl rfl (QOp.loadM 3 rfl rfl rfl (tok _ rfl) rfl) ?_
    refine ASeq.gop _ _ rfl rfl rfl rfl (AOp.callP 0 rfl (by kernel_rfl) rfl rfl rfl (is_ok q hq w_rp _ _ _) ?_ (by rintro _ _ ⟨⟩))
    rintro _ _ ⟨⟩
    refine ASeq.gq _ _ rfl rfl rfl rfl (QOp.not rfl rfl) ?_
    refine ASeq.q rfl rfl (QOp.pickT rfl rfl rfl) ?_
    refine ASeq.nil ?_
    refine AExit.then_normal ?_
    refine ACode.cond _ rfl (fun hb => ?_) (fun hb => ?_)
    · have hr : q.is w_rp = false := by simpa using hb
      have hgo : params (k + 1) q l = params k ((if l = [] then q else q.want w_comma).kindOf 1).1 (l ++ [((if l = [] then q else q.want w_comma).kindOf 1).2]) := by
        simp only [params]; rw [if_pos ⟨hc, hr⟩]
      rw [hgo] at hres'
      refine ACode.skip (ACode.block (ACode.seq (ACode.seq (ACode.region ?_))))
      refine ASeq.q rfl rfl (QOp.fieldM rfl rfl (tok _ rfl) rfl rfl (by decide) rfl) ?_
      refine ASeq.q rfl rfl (QOp.loadM 6 rfl rfl rfl (tok _ rfl) rfl) ?_
      refine ASeq.q rfl rfl (QOp.lenI rfl rfl (tok _ rfl) rfl) ?_
      refine ASeq.q rfl rfl (QOp.cmp rfl rfl rfl rfl) ?_
      refine ASeq.nil ?_
      refine AExit.then_normal ?_
      refine ACode.cond _ rfl (fun hb => ?_) (fun hb => ?_)
      · have hl : l ≠ [] := by rintro rfl; simp [strs] at hb
        rw [if_neg hl] at hres'
        refine ACode.region ?_
        refine ASeq.q rfl rfl (QOp.loadM 3 rfl rfl rfl (tok _ rfl) rfl) ?_
        refine ASeq.op rfl rfl (AOp.callP 3 rfl (by kernel_rfl) rfl rfl rfl (want_ok q hq w_comma _ _ _) ?_ (by rintro _ _ ⟨⟩))
        rintro _ _ ⟨te, ts, tf⟩
        refine ASeq.op0 rfl rfl (AOp.storeP 3 rfl rfl rfl rfl (tok _ rfl) rfl rfl rfl rfl ?_)
        refine ASeq.nil ?_
        refine ACode.seq (ACode.region ?_)
        have oa : (q.want w_comma).ok := ok_want hq _
        have ta := Step.kindOf (q.want w_comma) 1 (by decide)
        have ob := ta.ok (by decide) (by decide) oa
        have tb : Step 1 1 q ((q.want w_comma).kindOf 1).1 := ((((Step.want q w_comma).weak (e' := 0) (s' := 0) (by decide) (by decide))).then ta (by decide) (by decide)).weak (by decide) (by decide)
        have mb := tb.go hq hc (.inl (by decide))
        have hat : ((q.want w_comma).kindOf 1).1.code = 0 → ((l ++ [((q.want w_comma).kindOf 1).2]).length : Int) ≤ ((q.want w_comma).kindOf 1).1.at_ := fun hz => by
          have e2 := tb.st0 hz
          obtain ⟨ys, e3⟩ := tb.sts
          rw [e3, List.length_append] at e2
          simp only [List.length_append, List.length_cons, List.length_nil]
          omega
        have hat2 : ((l ++ [((q.want w_comma).kindOf 1).2]).length : Int) ≤ ((q.want w_comma).kindOf 1).1.at_ + 1 := by
          have e2 := tb.at_
          simp only [List.length_append, List.length_cons, List.length_nil]
          omega
        refine ASeq.q rfl rfl (QOp.loadM 3 rfl rfl rfl (tok _ rfl) rfl) ?_
        refine ASeq.op rfl rfl (AOp.callP 3 rfl (by kernel_rfl) rfl rfl rfl (kind_ok (q.want w_comma) oa 1 _ _ _) ?_ (by rintro _ _ ⟨⟩))
        rintro _ _ ⟨te, ts, tf⟩
        refine ASeq.q rfl rfl (QOp.move rfl rfl) ?_
        refine ASeq.q rfl rfl (QOp.extract rfl rfl rfl) ?_
        refine ASeq.q rfl rfl (QOp.extract rfl rfl rfl) ?_
        refine ASeq.op rfl rfl (AOp.allocP rfl (tok _ rfl) rfl rfl (fun _ => rfl) (fun _ => ?_))
        refine ASeq.op0 rfl rfl (AOp.storeP 8 rfl rfl rfl rfl (tok _ rfl) rfl rfl rfl rfl ?_)
        refine ASeq.q rfl rfl (QOp.assign rfl rfl) ?_
        refine ASeq.nil ?_
        refine ACode.seq (ACode.region ?_)
        refine ASeq.q rfl rfl (QOp.loadM 8 rfl rfl rfl (tok _ rfl) rfl) ?_
        refine ASeq.op0 rfl rfl (AOp.storeP 3 rfl rfl rfl rfl (tok _ rfl) rfl rfl rfl rfl ?_)
        refine ASeq.nil ?_
        refine ACode.region ?_
        refine ASeq.q rfl rfl (QOp.fieldM rfl rfl (tok _ rfl) rfl rfl (by decide) rfl) ?_
        refine ASeq.q rfl rfl (QOp.loadM 6 rfl rfl rfl (tok _ rfl) rfl) ?_
        refine ASeq.q rfl rfl (QOp.move rfl rfl) ?_
        refine ASeq.op rfl rfl (AOp.buildSliceR rfl (tok _ rfl) rfl (tok _ rfl) (by decide) rfl (by decide) rfl rfl rfl rfl ?_)
        refine ASeq.op rfl rfl (AOp.appendP 7 (e := 9) (tde := TT 9) rfl rfl rfl rfl (tok _ rfl) rfl (tok _ rfl) (tok _ rfl) rfl (by decide) rfl rfl (fun _ => rfl) (strs_rows l _) (by simp only [strs_len, List.length_cons, List.length_nil]; omega) rfl (fun _ => ?_))
        rw [strs_snoc]
        refine ASeq.q rfl rfl (QOp.fieldM rfl rfl (tok _ rfl) rfl rfl (by decide) rfl) ?_
        refine ASeq.op0 rfl rfl (AOp.storeP 6 rfl rfl rfl rfl (tok _ rfl) rfl rfl rfl rfl ?_)
        refine ASeq.nil ?_
        refine AExit.in_normal (AExit.then_normal ?_)
        exact ⟨(k, _, _, _, _, _, _), 8, ⟨ob, le_m3 hqp mb, le_k3 hqm mb, hres', hat, hat2⟩, Nat.lt_succ_self _, .cons rfl (.cons rfl (.cons rfl (.cons rfl .nil))), rfl⟩
      · have hl : l = [] := by
          cases l with
          | nil => rfl
          | cons x l => simp [strs] at hb
        rw [if_pos hl] at hres'
        refine ACode.skip (ACode.seq (ACode.region ?_))
        have oa : (q).ok := hq
        have ta := Step.kindOf (q) 1 (by decide)
        have ob := ta.ok (by decide) (by decide) oa
        have tb : Step 1 1 q ((q).kindOf 1).1 := ((Step.refl q).then ta (by decide) (by decide)).weak (by decide) (by decide)
        have mb := tb.go hq hc (.inl (by decide))
        have hat : ((q).kindOf 1).1.code = 0 → ((l ++ [((q).kindOf 1).2]).length : Int) ≤ ((q).kindOf 1).1.at_ := fun hz => by
          have e2 := tb.st0 hz
          obtain ⟨ys, e3⟩ := tb.sts
          rw [e3, List.length_append] at e2
          simp only [List.length_append, List.length_cons, List.length_nil]
          omega
        have hat2 : ((l ++ [((q).kindOf 1).2]).length : Int) ≤ ((q).kindOf 1).1.at_ + 1 := by
          have e2 := tb.at_
          simp only [List.length_append, List.length_cons, List.length_nil]
          omega
        refine ASeq.q rfl rfl (QOp.loadM 3 rfl rfl rfl (tok _ rfl) rfl) ?_
        refine ASeq.op rfl rfl (AOp.callP 3 rfl (by kernel_rfl) rfl rfl rfl (kind_ok (q) oa 1 _ _ _) ?_ (by rintro _ _ ⟨⟩))
        rintro _ _ ⟨te, ts, tf⟩
        refine ASeq.q rfl rfl (QOp.move rfl rfl) ?_
        refine ASeq.q rfl rfl (QOp.extract rfl rfl rfl) ?_
        refine ASeq.q rfl rfl (QOp.extract rfl rfl rfl) ?_
        refine ASeq.op rfl rfl (AOp.allocP rfl (tok _ rfl) rfl rfl (fun _ => rfl) (fun _ => ?_))
        refine ASeq.op0 rfl rfl (AOp.storeP 8 rfl rfl rfl rfl (tok _ rfl) rfl rfl rfl rfl ?_)
        refine ASeq.q rfl rfl (QOp.assign rfl rfl) ?_
        refine ASeq.nil ?_
        refine ACode.seq (ACode.region ?_)
        refine ASeq.q rfl rfl (QOp.loadM 8 rfl rfl rfl (tok _ rfl) rfl) ?_
        refine ASeq.op0 rfl rfl (AOp.storeP 3 rfl rfl rfl rfl (tok _ rfl) rfl rfl rfl rfl ?_)
        refine ASeq.nil ?_
        refine ACode.region ?_
        refine ASeq.q rfl rfl (QOp.fieldM rfl rfl (tok _ rfl) rfl rfl (by decide) rfl) ?_
        refine ASeq.q rfl rfl (QOp.loadM 6 rfl rfl rfl (tok _ rfl) rfl) ?_
        refine ASeq.q rfl rfl (QOp.move rfl rfl) ?_
        refine ASeq.op rfl rfl (AOp.buildSliceR rfl (tok _ rfl) rfl (tok _ rfl) (by decide) rfl (by decide) rfl rfl rfl rfl ?_)
        refine ASeq.op rfl rfl (AOp.appendP 7 (e := 9) (tde := TT 9) rfl rfl rfl rfl (tok _ rfl) rfl (tok _ rfl) (tok _ rfl) rfl (by decide) rfl rfl (fun _ => rfl) (strs_rows l _) (by simp only [strs_len, List.length_cons, List.length_nil]; omega) rfl (fun _ => ?_))
        rw [strs_snoc]
        refine ASeq.q rfl rfl (QOp.fieldM rfl rfl (tok _ rfl) rfl rfl (by decide) rfl) ?_
        refine ASeq.op0 rfl rfl (AOp.storeP 6 rfl rfl rfl rfl (tok _ rfl) rfl rfl rfl rfl ?_)
        refine ASeq.nil ?_
        refine AExit.in_normal (AExit.then_normal ?_)
        exact ⟨(k, _, _, _, _, _, _), 8, ⟨ob, le_m3 hqp mb, le_k3 hqm mb, hres', hat, hat2⟩, Nat.lt_succ_self _, .cons rfl (.cons rfl (.cons rfl (.cons rfl .nil))), rfl⟩
    · have hr : q.is w_rp = true := by simpa using hb
      have hend : params (k + 1) q l = (q, l) := by simp only [params]; rw [if_neg (by simp [hr])]
      rw [hend] at hres'
      have hpar : params n (((p.full.want w_func).kindOf 1).1.want w_lp) [] = (q, l) := hres.trans hres'.symm
      have o1 := ok_want hq w_rp
      have m1 := mm_wantle hq w_rp
      refine ACode.exit (ACode.seq (ACode.region ?_))
      refine ASeq.cells (cells' := [vs ((p.full.want w_func).kindOf 1).2, vi 0, vi 0, .il 1 none (strs l), vi 4, .v (.slice none 0 0)]) [_, _, _, _, _, _] [_] rfl (.cons (.refl _) (.cons (.refl _) (.cons (.refl _) (.cons (AV.Le.tok 1 _ _) (.cons (.refl _) (.cons (.refl _) .nil)))))) ?_
      refine ASeq.q rfl rfl (QOp.loadM 3 rfl rfl rfl (tok _ rfl) rfl) ?_
      refine ASeq.op rfl rfl (AOp.callP 3 rfl (by kernel_rfl) rfl rfl rfl (want_ok q hq w_rp _ _ _) ?_ (by rintro _ _ ⟨⟩))
      rintro _ _ ⟨te, ts, tf⟩
      refine ASeq.op0 rfl rfl (AOp.storeP 3 rfl rfl rfl rfl (tok _ rfl) rfl rfl rfl rfl ?_)
      refine ASeq.nil ?_
      refine ACode.seq (ACode.seq (ACode.region ?_))
      refine ASeq.q rfl rfl (QOp.loadM 3 rfl rfl rfl (tok _ rfl) rfl) ?_
      refine ASeq.op rfl rfl (AOp.callP 0 rfl (by kernel_rfl) rfl rfl rfl (is_ok _ o1 w_int _ _ _) ?_ (by rintro _ _ ⟨⟩))
      rintro _ _ ⟨⟩
      refine ASeq.nil ?_
      refine AExit.then_normal ?_
      refine ACode.cond _ rfl (fun hint => ?_) (fun hint => ?_)
      · have m3 := mm_wantle o1 w_int
        refine ACode.seq (ACode.region ?_)
        refine ASeq.q rfl rfl (QOp.loadM 3 rfl rfl rfl (tok _ rfl) rfl) ?_
        refine ASeq.op rfl rfl (AOp.callP 3 rfl (by kernel_rfl) rfl rfl rfl (want_ok _ o1 w_int _ _ _) ?_ (by rintro _ _ ⟨⟩))
        rintro _ _ ⟨te, ts, tf⟩
        refine ASeq.op0 rfl rfl (AOp.storeP 3 rfl rfl rfl rfl (tok _ rfl) rfl rfl rfl rfl ?_)
        refine ASeq.nil ?_
        refine ACode.region ?_
        refine ASeq.q rfl rfl (QOp.fieldM rfl rfl (tok _ rfl) rfl rfl (by decide) rfl) ?_
        refine ASeq.op0 rfl rfl (AOp.storeP 6 rfl rfl rfl rfl (tok _ rfl) rfl rfl rfl rfl ?_)
        refine ASeq.nil ?_
        have m2 := m3
        have hfe : funcEnd n p = block n (((q.want w_rp).want w_int)) 1 := by unfold Ytaadamobapnfbaa.funcEnd; rw [hpar, if_pos hint]
        have o2 : (((q.want w_rp).want w_int)).ok := ok_want o1 w_int
        refine ACode.seq (ACode.region ?_)
        refine ASeq.q rfl rfl (QOp.loadM 3 rfl rfl rfl (tok _ rfl) rfl) ?_
        refine ASeq.op rfl rfl (AOp.callP 3 rfl (by kernel_rfl) rfl rfl rfl ((walks2 n).block (((q.want w_rp).want w_int)) 1 o2 (by decide) (by omega) (by omega) _ _ _) ?_ (by rintro _ _ ⟨⟩))
        rintro _ _ ⟨te, ts, tf⟩
        refine ASeq.q rfl rfl (QOp.move rfl rfl) ?_
        refine ASeq.q rfl rfl (QOp.extract rfl rfl rfl) ?_
        refine ASeq.q rfl rfl (QOp.extract rfl rfl rfl) ?_
        refine ASeq.op rfl rfl (AOp.allocP rfl (tok _ rfl) rfl rfl (fun _ => rfl) (fun _ => ?_))
        refine ASeq.op0 rfl rfl (AOp.storeP 8 rfl rfl rfl rfl (tok _ rfl) rfl rfl rfl rfl ?_)
        refine ASeq.q rfl rfl (QOp.assign rfl rfl) ?_
        refine ASeq.nil ?_
        refine ACode.seq (ACode.seq (ACode.region ?_))
        rw [← hfe]
        have sE := Step.funcEnd n p
        have oE := sE.ok (by decide) (by decide) h
        refine ASeq.q rfl rfl (QOp.fieldM rfl rfl (tok _ rfl) rfl rfl (by decide) rfl) ?_
        refine ASeq.q rfl rfl (QOp.loadM 8 rfl rfl rfl (tok _ rfl) rfl) ?_
        refine ASeq.q rfl rfl (QOp.cmp rfl rfl rfl rfl) ?_
        refine ASeq.nil ?_
        refine AExit.then_normal ?_
        refine ACode.cond _ rfl (fun hb => ?_) (fun hb => ?_)
        · have hcE : (funcEnd n p).1.code ≠ 0 := by simpa using hb
          refine ACode.seq (ACode.region ?_)
          refine ASeq.q rfl rfl (QOp.loadM 8 rfl rfl rfl (tok _ rfl) rfl) ?_
          refine ASeq.op0 rfl rfl (AOp.storeP 4 rfl rfl rfl rfl (tok _ rfl) rfl rfl rfl rfl ?_)
          refine ASeq.nil ?_
          refine ACode.ret (AExit.then_ret ?_)
          refine bodyQ_ret 3 (.cell 4 rfl rfl (tok _ rfl) rfl .nil) rfl ?_
          rw [function_eq, if_pos hcE]
          exact .mk _ _ _
        · have hcE : (funcEnd n p).1.code = 0 := by simpa using hb
          have pos := sE.pos h (.inl (by decide))
          have pos : 1 ≤ (funcEnd n p).1.at_ := pos.resolve_right (fun h => h hcE)
          have hrow := oE.lastAt pos
          have e1 := oE.at1
          have e2 := oE.small
          have e3 := oE.fu
          refine ACode.skip (ACode.seq (ACode.region ?_))
          refine ASeq.q rfl rfl (QOp.move rfl rfl) ?_
          refine ASeq.q rfl rfl (QOp.fieldM rfl rfl (tok _ rfl) rfl rfl (by decide) rfl) ?_
          refine ASeq.op0 rfl rfl (AOp.storeP 6 rfl rfl rfl rfl (tok _ rfl) rfl rfl rfl rfl ?_)
          refine ASeq.nil ?_
          refine ACode.seq (ACode.region ?_)
          refine ASeq.q rfl rfl (QOp.move rfl rfl) ?_
          refine ASeq.q rfl rfl (QOp.fieldM rfl rfl (tok _ rfl) rfl rfl (by decide) rfl) ?_
          refine ASeq.q rfl rfl (QOp.loadM 8 rfl rfl rfl (tok _ rfl) rfl) ?_
          refine ASeq.q rfl rfl (QOp.fieldM rfl rfl (tok _ rfl) rfl rfl (by decide) rfl) ?_
          refine ASeq.q rfl rfl (QOp.loadM 8 rfl rfl rfl (tok _ rfl) rfl) ?_
          refine ASeq.q rfl rfl (QOp.ar64 rfl rfl rfl rfl ⟨by omega, by omega⟩) ?_
          refine ASeq.q rfl rfl (QOp.indexI rfl rfl rfl (tok _ rfl) rfl (tok _ rfl) (by omega) (by assumption)) ?_
          refine ASeq.q rfl rfl (QOp.fieldI rfl rfl (tok _ rfl) rfl rfl (by decide) rfl) ?_
          refine ASeq.q rfl rfl (QOp.fieldI rfl rfl (tok _ rfl) rfl rfl (by decide) rfl) ?_
          refine ASeq.q rfl rfl (QOp.loadI rfl rfl (tok _ rfl) rfl) ?_
          refine ASeq.q rfl rfl (QOp.build rfl (tok _ rfl) rfl rfl rfl rfl rfl) ?_
          refine ASeq.q rfl rfl (QOp.fieldM rfl rfl (tok _ rfl) rfl rfl (by decide) rfl) ?_
          refine ASeq.op0 rfl rfl (AOp.storeP 6 rfl rfl rfl rfl (tok _ rfl) rfl rfl rfl rfl ?_)
          refine ASeq.nil ?_
          refine ACode.seq (ACode.region ?_)
          refine ASeq.q rfl rfl (QOp.fieldM rfl rfl (tok _ rfl) rfl rfl (by decide) rfl) ?_
          refine ASeq.q rfl rfl (QOp.fieldM rfl rfl (tok _ rfl) rfl rfl (by decide) rfl) ?_
          refine ASeq.q rfl rfl (QOp.loadM 8 rfl rfl rfl (tok _ rfl) rfl) ?_
          refine ASeq.q rfl rfl (QOp.loadM 6 rfl rfl rfl (tok _ rfl) rfl) ?_
          refine ASeq.op rfl rfl (AOp.buildSliceR rfl (tok _ rfl) rfl (tok _ rfl) (by decide) rfl (by decide) rfl rfl rfl rfl ?_)
          refine ASeq.op rfl rfl (AOp.appendP 2 (e := 41) (tde := TT 41) rfl rfl rfl rfl (tok _ rfl) rfl (tok _ rfl) (tok _ rfl) rfl (by decide) rfl rfl (fun _ => rfl) (rows_ok 6 _ _ (fun y hy => by obtain ⟨z, _, rfl⟩ := List.mem_map.1 hy; rfl) rfl) (by simp only [List.length_map, List.length_cons, List.length_nil]; omega) rfl (fun _ => ?_))
          refine ASeq.q rfl rfl (QOp.fieldM rfl rfl (tok _ rfl) rfl rfl (by decide) rfl) ?_
          refine ASeq.q rfl rfl (QOp.fieldM rfl rfl (tok _ rfl) rfl rfl (by decide) rfl) ?_
          refine ASeq.op0 rfl rfl (AOp.storeP 8 rfl rfl rfl rfl (tok _ rfl) rfl rfl rfl rfl ?_)
          refine ASeq.nil ?_
          refine ACode.seq (ACode.region ?_)
          refine ASeq.q rfl rfl (QOp.loadM 8 rfl rfl rfl (tok _ rfl) rfl) ?_
          refine ASeq.op0 rfl rfl (AOp.storeP 4 rfl rfl rfl rfl (tok _ rfl) rfl rfl rfl rfl ?_)
          refine ASeq.nil ?_
          refine ACode.ret ?_
          refine bodyQ_ret 3 (.cell 4 rfl rfl (tok _ rfl) rfl .nil) rfl ?_
          rw [function_eq, if_neg (fun h => h hcE)]
          have hfo : funcOf n p = { name := ((p.full.want w_func).kindOf 1).2, fr := p.here, to := (funcEnd n p).1.lastTo, params := l, type := 1, body := (funcEnd n p).2 } := by
            unfold Ytaadamobapnfbaa.funcOf; rw [hpar, if_pos hint]
          rw [hfo]
          refine RP.of ?_ rfl
          simp only [PS.cells, List.map_append, List.map_cons, List.map_nil]
          rfl
      · have hint : ¬ (q.want w_rp).is w_int = true := by rw [hint]; decide
        have m2 := m1
        have hfe : funcEnd n p = block n ((q.want w_rp)) 1 := by unfold Ytaadamobapnfbaa.funcEnd; rw [hpar, if_neg hint]
        have o2 : ((q.want w_rp)).ok := o1
        refine ACode.skip (ACode.seq (ACode.region ?_))
        refine ASeq.q rfl rfl (QOp.loadM 3 rfl rfl rfl (tok _ rfl) rfl) ?_
        refine ASeq.op rfl rfl (AOp.callP 3 rfl (by kernel_rfl) rfl rfl rfl ((walks2 n).block ((q.want w_rp)) 1 o2 (by decide) (by omega) (by omega) _ _ _) ?_ (by rintro _ _ ⟨⟩))
        rintro _ _ ⟨te, ts, tf⟩
        refine ASeq.q rfl rfl (QOp.move rfl rfl) ?_
        refine ASeq.q rfl rfl (QOp.extract rfl rfl rfl) ?_
        refine ASeq.q rfl rfl (QOp.extract rfl rfl rfl) ?_
        refine ASeq.op rfl rfl (AOp.allocP rfl (tok _ rfl) rfl rfl (fun _ => rfl) (fun _ => ?_))
        refine ASeq.op0 rfl rfl (AOp.storeP 8 rfl rfl rfl rfl (tok _ rfl) rfl rfl rfl rfl ?_)
        refine ASeq.q rfl rfl (QOp.assign rfl rfl) ?_
        refine ASeq.nil ?_
        refine ACode.seq (ACode.seq (ACode.region ?_))
        rw [← hfe]
        have sE := Step.funcEnd n p
        have oE := sE.ok (by decide) (by decide) h
        refine ASeq.q rfl rfl (QOp.fieldM rfl rfl (tok _ rfl) rfl rfl (by decide) rfl) ?_
        refine ASeq.q rfl rfl (QOp.loadM 8 rfl rfl rfl (tok _ rfl) rfl) ?_
        refine ASeq.q rfl rfl (QOp.cmp rfl rfl rfl rfl) ?_
        refine ASeq.nil ?_
        refine AExit.then_normal ?_
        refine ACode.cond _ rfl (fun hb => ?_) (fun hb => ?_)
        · have hcE : (funcEnd n p).1.code ≠ 0 := by simpa using hb
          refine ACode.seq (ACode.region ?_)
          refine ASeq.q rfl rfl (QOp.loadM 8 rfl rfl rfl (tok _ rfl) rfl) ?_
          refine ASeq.op0 rfl rfl (AOp.storeP 4 rfl rfl rfl rfl (tok _ rfl) rfl rfl rfl rfl ?_)
          refine ASeq.nil ?_
          refine ACode.ret (AExit.then_ret ?_)
          refine bodyQ_ret 3 (.cell 4 rfl rfl (tok _ rfl) rfl .nil) rfl ?_
          rw [function_eq, if_pos hcE]
          exact .mk _ _ _
        · have hcE : (funcEnd n p).1.code = 0 := by simpa using hb
          have pos := sE.pos h (.inl (by decide))
          have pos : 1 ≤ (funcEnd n p).1.at_ := pos.resolve_right (fun h => h hcE)
          have hrow := oE.lastAt pos
          have e1 := oE.at1
          have e2 := oE.small
          have e3 := oE.fu
          refine ACode.skip (ACode.seq (ACode.region ?_))
          refine ASeq.q rfl rfl (QOp.move rfl rfl) ?_
          refine ASeq.q rfl rfl (QOp.fieldM rfl rfl (tok _ rfl) rfl rfl (by decide) rfl) ?_
          refine ASeq.op0 rfl rfl (AOp.storeP 6 rfl rfl rfl rfl (tok _ rfl) rfl rfl rfl rfl ?_)
          refine ASeq.nil ?_
          refine ACode.seq (ACode.region ?_)
          refine ASeq.q rfl rfl (QOp.move rfl rfl) ?_
          refine ASeq.q rfl rfl (QOp.fieldM rfl rfl (tok _ rfl) rfl rfl (by decide) rfl) ?_
          refine ASeq.q rfl rfl (QOp.loadM 8 rfl rfl rfl (tok _ rfl) rfl) ?_
          refine ASeq.q rfl rfl (QOp.fieldM rfl rfl (tok _ rfl) rfl rfl (by decide) rfl) ?_
          refine ASeq.q rfl rfl (QOp.loadM 8 rfl rfl rfl (tok _ rfl) rfl) ?_
          refine ASeq.q rfl rfl (QOp.ar64 rfl rfl rfl rfl ⟨by omega, by omega⟩) ?_
          refine ASeq.q rfl rfl (QOp.indexI rfl rfl rfl (tok _ rfl) rfl (tok _ rfl) (by omega) (by assumption)) ?_
          refine ASeq.q rfl rfl (QOp.fieldI rfl rfl (tok _ rfl) rfl rfl (by decide) rfl) ?_
          refine ASeq.q rfl rfl (QOp.fieldI rfl rfl (tok _ rfl) rfl rfl (by decide) rfl) ?_
          refine ASeq.q rfl rfl (QOp.loadI rfl rfl (tok _ rfl) rfl) ?_
          refine ASeq.q rfl rfl (QOp.build rfl (tok _ rfl) rfl rfl rfl rfl rfl) ?_
          refine ASeq.q rfl rfl (QOp.fieldM rfl rfl (tok _ rfl) rfl rfl (by decide) rfl) ?_
          refine ASeq.op0 rfl rfl (AOp.storeP 6 rfl rfl rfl rfl (tok _ rfl) rfl rfl rfl rfl ?_)
          refine ASeq.nil ?_
          refine ACode.seq (ACode.region ?_)
          refine ASeq.q rfl rfl (QOp.fieldM rfl rfl (tok _ rfl) rfl rfl (by decide) rfl) ?_
          refine ASeq.q rfl rfl (QOp.fieldM rfl rfl (tok _ rfl) rfl rfl (by decide) rfl) ?_
          refine ASeq.q rfl rfl (QOp.loadM 8 rfl rfl rfl (tok _ rfl) rfl) ?_
          refine ASeq.q rfl rfl (QOp.loadM 6 rfl rfl rfl (tok _ rfl) rfl) ?_
          refine ASeq.op rfl rfl (AOp.buildSliceR rfl (tok _ rfl) rfl (tok _ rfl) (by decide) rfl (by decide) rfl rfl rfl rfl ?_)
          refine ASeq.op rfl rfl (AOp.appendP 2 (e := 41) (tde := TT 41) rfl rfl rfl rfl (tok _ rfl) rfl (tok _ rfl) (tok _ rfl) rfl (by decide) rfl rfl (fun _ => rfl) (rows_ok 6 _ _ (fun y hy => by obtain ⟨z, _, rfl⟩ := List.mem_map.1 hy; rfl) rfl) (by simp only [List.length_map, List.length_cons, List.length_nil]; omega) rfl (fun _ => ?_))
          refine ASeq.q rfl rfl (QOp.fieldM rfl rfl (tok _ rfl) rfl rfl (by decide) rfl) ?_
          refine ASeq.q rfl rfl (QOp.fieldM rfl rfl (tok _ rfl) rfl rfl (by decide) rfl) ?_
          refine ASeq.op0 rfl rfl (AOp.storeP 8 rfl rfl rfl rfl (tok _ rfl) rfl rfl rfl rfl ?_)
          refine ASeq.nil ?_
          refine ACode.seq (ACode.region ?_)
          refine ASeq.q rfl rfl (QOp.loadM 8 rfl rfl rfl (tok _ rfl) rfl) ?_
          refine ASeq.op0 rfl rfl (AOp.storeP 4 rfl rfl rfl rfl (tok _ rfl) rfl rfl rfl rfl ?_)
          refine ASeq.nil ?_
          refine ACode.ret ?_
          refine bodyQ_ret 3 (.cell 4 rfl rfl (tok _ rfl) rfl .nil) rfl ?_
          rw [function_eq, if_neg (fun h => h hcE)]
          have hfo : funcOf n p = { name := ((p.full.want w_func).kindOf 1).2, fr := p.here, to := (funcEnd n p).1.lastTo, params := l, type := 4, body := (funcEnd n p).2 } := by
            unfold Ytaadamobapnfbaa.funcOf; rw [hpar, if_neg hint]
          rw [hfo]
          refine RP.of ?_ rfl
          simp only [PS.cells, List.map_append, List.map_cons, List.map_nil]
          rfl
  · have hc : q.code ≠ 0 := by simpa using hb
    refine ASeq.gno _ _ rfl rfl rfl rfl rfl ?_
    refine ASeq.gno _ _ rfl rfl rfl rfl rfl ?_
    refine ASeq.gno _ _ rfl rfl rfl rfl rfl ?_
    refine ASeq.q rfl rfl (QOp.pickF rfl rfl rfl) ?_
    refine ASeq.nil ?_
    refine AExit.then_normal ?_
    refine ACode.cond _ rfl (fun hb => by cases hb) (fun hb => ?_)
    have hend : params (k + 1) q l = (q, l) := by simp only [params]; rw [if_neg (by simp [hc])]
    rw [hend] at hres'
    have hpar : params n (((p.full.want w_func).kindOf 1).1.want w_lp) [] = (q, l) := hres.trans hres'.symm
    have o1 := ok_want hq w_rp
    have m1 := mm_wantle hq w_rp
    refine ACode.exit (ACode.seq (ACode.region ?_))
    refine ASeq.cells (cells' := [vs ((p.full.want w_func).kindOf 1).2, vi 0, vi 0, .il 1 none (strs l), vi 4, .v (.slice none 0 0)]) [_, _, _, _, _, _] [_] rfl (.cons (.refl _) (.cons (.refl _) (.cons (.refl _) (.cons (AV.Le.tok 1 _ _) (.cons (.refl _) (.cons (.refl _) .nil)))))) ?_
    refine ASeq.q rfl rfl (QOp.loadM 3 rfl rfl rfl (tok _ rfl) rfl) ?_
    refine ASeq.op rfl rfl (AOp.callP 3 rfl (by kernel_rfl) rfl rfl rfl (want_ok q hq w_rp _ _ _) ?_ (by rintro _ _ ⟨⟩))
    rintro _ _ ⟨te, ts, tf⟩
    refine ASeq.op0 rfl rfl (AOp.storeP 3 rfl rfl rfl rfl (tok _ rfl) rfl rfl rfl rfl ?_)
    refine ASeq.nil ?_
    refine ACode.seq (ACode.seq (ACode.region ?_))
    refine ASeq.q rfl rfl (QOp.loadM 3 rfl rfl rfl (tok _ rfl) rfl) ?_
    refine ASeq.op rfl rfl (AOp.callP 0 rfl (by kernel_rfl) rfl rfl rfl (is_ok _ o1 w_int _ _ _) ?_ (by rintro _ _ ⟨⟩))
    rintro _ _ ⟨⟩
    refine ASeq.nil ?_
    refine AExit.then_normal ?_
    refine ACode.cond _ rfl (fun hint => ?_) (fun hint => ?_)
    · have m3 := mm_wantle o1 w_int
      refine ACode.seq (ACode.region ?_)
      refine ASeq.q rfl rfl (QOp.loadM 3 rfl rfl rfl (tok _ rfl) rfl) ?_
      refine ASeq.op rfl rfl (AOp.callP 3 rfl (by kernel_rfl) rfl rfl rfl (want_ok _ o1 w_int _ _ _) ?_ (by rintro _ _ ⟨⟩))
      rintro _ _ ⟨te, ts, tf⟩
      refine ASeq.op0 rfl rfl (AOp.storeP 3 rfl rfl rfl rfl (tok _ rfl) rfl rfl rfl rfl ?_)
      refine ASeq.nil ?_
      refine ACode.region ?_
      refine ASeq.q rfl rfl (QOp.fieldM rfl rfl (tok _ rfl) rfl rfl (by decide) rfl) ?_
      refine ASeq.op0 rfl rfl (AOp.storeP 6 rfl rfl rfl rfl (tok _ rfl) rfl rfl rfl rfl ?_)
      refine ASeq.nil ?_
      have m2 := m3
      have hfe : funcEnd n p = block n (((q.want w_rp).want w_int)) 1 := by unfold Ytaadamobapnfbaa.funcEnd; rw [hpar, if_pos hint]
      have o2 : (((q.want w_rp).want w_int)).ok := ok_want o1 w_int
      refine ACode.seq (ACode.region ?_)
      refine ASeq.q rfl rfl (QOp.loadM 3 rfl rfl rfl (tok _ rfl) rfl) ?_
      refine ASeq.op rfl rfl (AOp.callP 3 rfl (by kernel_rfl) rfl rfl rfl ((walks2 n).block (((q.want w_rp).want w_int)) 1 o2 (by decide) (by omega) (by omega) _ _ _) ?_ (by rintro _ _ ⟨⟩))
      rintro _ _ ⟨te, ts, tf⟩
      refine ASeq.q rfl rfl (QOp.move rfl rfl) ?_
      refine ASeq.q rfl rfl (QOp.extract rfl rfl rfl) ?_
      refine ASeq.q rfl rfl (QOp.extract rfl rfl rfl) ?_
      refine ASeq.op rfl rfl (AOp.allocP rfl (tok _ rfl) rfl rfl (fun _ => rfl) (fun _ => ?_))
      refine ASeq.op0 rfl rfl (AOp.storeP 8 rfl rfl rfl rfl (tok _ rfl) rfl rfl rfl rfl ?_)
      refine ASeq.q rfl rfl (QOp.assign rfl rfl) ?_
      refine ASeq.nil ?_
      refine ACode.seq (ACode.seq (ACode.region ?_))
      rw [← hfe]
      have sE := Step.funcEnd n p
      have oE := sE.ok (by decide) (by decide) h
      refine ASeq.q rfl rfl (QOp.fieldM rfl rfl (tok _ rfl) rfl rfl (by decide) rfl) ?_
      refine ASeq.q rfl rfl (QOp.loadM 8 rfl rfl rfl (tok _ rfl) rfl) ?_
      refine ASeq.q rfl rfl (QOp.cmp rfl rfl rfl rfl) ?_
      refine ASeq.nil ?_
      refine AExit.then_normal ?_
      refine ACode.cond _ rfl (fun hb => ?_) (fun hb => ?_)
      · have hcE : (funcEnd n p).1.code ≠ 0 := by simpa using hb
        refine ACode.seq (ACode.region ?_)
        refine ASeq.q rfl rfl (QOp.loadM 8 rfl rfl rfl (tok _ rfl) rfl) ?_
        refine ASeq.op0 rfl rfl (AOp.storeP 4 rfl rfl rfl rfl (tok _ rfl) rfl rfl rfl rfl ?_)
        refine ASeq.nil ?_
        refine ACode.ret (AExit.then_ret ?_)
        refine bodyQ_ret 3 (.cell 4 rfl rfl (tok _ rfl) rfl .nil) rfl ?_
        rw [function_eq, if_pos hcE]
        exact .mk _ _ _
      · have hcE : (funcEnd n p).1.code = 0 := by simpa using hb
        have pos := sE.pos h (.inl (by decide))
        have pos : 1 ≤ (funcEnd n p).1.at_ := pos.resolve_right (fun h => h hcE)
        have hrow := oE.lastAt pos
        have e1 := oE.at1
        have e2 := oE.small
        have e3 := oE.fu
        refine ACode.skip (ACode.seq (ACode.region ?_))
        refine ASeq.q rfl rfl (QOp.move rfl rfl) ?_
        refine ASeq.q rfl rfl (QOp.fieldM rfl rfl (tok _ rfl) rfl rfl (by decide) rfl) ?_
        refine ASeq.op0 rfl rfl (AOp.storeP 6 rfl rfl rfl rfl (tok _ rfl) rfl rfl rfl rfl ?_)
        refine ASeq.nil ?_
        refine ACode.seq (ACode.region ?_)
        refine ASeq.q rfl rfl (QOp.move rfl rfl) ?_
        refine ASeq.q rfl rfl (QOp.fieldM rfl rfl (tok _ rfl) rfl rfl (by decide) rfl) ?_
        refine ASeq.q rfl rfl (QOp.loadM 8 rfl rfl rfl (tok _ rfl) rfl) ?_
        refine ASeq.q rfl rfl (QOp.fieldM rfl rfl (tok _ rfl) rfl rfl (by decide) rfl) ?_
        refine ASeq.q rfl rfl (QOp.loadM 8 rfl rfl rfl (tok _ rfl) rfl) ?_
        refine ASeq.q rfl rfl (QOp.ar64 rfl rfl rfl rfl ⟨by omega, by omega⟩) ?_
        refine ASeq.q rfl rfl (QOp.indexI rfl rfl rfl (tok _ rfl) rfl (tok _ rfl) (by omega) (by assumption)) ?_
        refine ASeq.q rfl rfl (QOp.fieldI rfl rfl (tok _ rfl) rfl rfl (by decide) rfl) ?_
        refine ASeq.q rfl rfl (QOp.fieldI rfl rfl (tok _ rfl) rfl rfl (by decide) rfl) ?_
        refine ASeq.q rfl rfl (QOp.loadI rfl rfl (tok _ rfl) rfl) ?_
        refine ASeq.q rfl rfl (QOp.build rfl (tok _ rfl) rfl rfl rfl rfl rfl) ?_
        refine ASeq.q rfl rfl (QOp.fieldM rfl rfl (tok _ rfl) rfl rfl (by decide) rfl) ?_
        refine ASeq.op0 rfl rfl (AOp.storeP 6 rfl rfl rfl rfl (tok _ rfl) rfl rfl rfl rfl ?_)
        refine ASeq.nil ?_
        refine ACode.seq (ACode.region ?_)
        refine ASeq.q rfl rfl (QOp.fieldM rfl rfl (tok _ rfl) rfl rfl (by decide) rfl) ?_
        refine ASeq.q rfl rfl (QOp.fieldM rfl rfl (tok _ rfl) rfl rfl (by decide) rfl) ?_
        refine ASeq.q rfl rfl (QOp.loadM 8 rfl rfl rfl (tok _ rfl) rfl) ?_
        refine ASeq.q rfl rfl (QOp.loadM 6 rfl rfl rfl (tok _ rfl) rfl) ?_
        refine ASeq.op rfl rfl (AOp.buildSliceR rfl (tok _ rfl) rfl (tok _ rfl) (by decide) rfl (by decide) rfl rfl rfl rfl ?_)
        refine ASeq.op rfl rfl (AOp.appendP 2 (e := 41) (tde := TT 41) rfl rfl rfl rfl (tok _ rfl) rfl (tok _ rfl) (tok _ rfl) rfl (by decide) rfl rfl (fun _ => rfl) (rows_ok 6 _ _ (fun y hy => by obtain ⟨z, _, rfl⟩ := List.mem_map.1 hy; rfl) rfl) (by simp only [List.length_map, List.length_cons, List.length_nil]; omega) rfl (fun _ => ?_))
        refine ASeq.q rfl rfl (QOp.fieldM rfl rfl (tok _ rfl) rfl rfl (by decide) rfl) ?_
        refine ASeq.q rfl rfl (QOp.fieldM rfl rfl (tok _ rfl) rfl rfl (by decide) rfl) ?_
        refine ASeq.op0 rfl rfl (AOp.storeP 8 rfl rfl rfl rfl (tok _ rfl) rfl rfl rfl rfl ?_)
        refine ASeq.nil ?_
        refine ACode.seq (ACode.region ?_)
        refine ASeq.q rfl rfl (QOp.loadM 8 rfl rfl rfl (tok _ rfl) rfl) ?_
        refine ASeq.op0 rfl rfl (AOp.storeP 4 rfl rfl rfl rfl (tok _ rfl) rfl rfl rfl rfl ?_)
        refine ASeq.nil ?_
        refine ACode.ret ?_
        refine bodyQ_ret 3 (.cell 4 rfl rfl (tok _ rfl) rfl .nil) rfl ?_
        rw [function_eq, if_neg (fun h => h hcE)]
        have hfo : funcOf n p = { name := ((p.full.want w_func).kindOf 1).2, fr := p.here, to := (funcEnd n p).1.lastTo, params := l, type := 1, body := (funcEnd n p).2 } := by
          unfold Ytaadamobapnfbaa.funcOf; rw [hpar, if_pos hint]
        rw [hfo]
        refine RP.of ?_ rfl
        simp only [PS.cells, List.map_append, List.map_cons, List.map_nil]
        rfl
    · have hint : ¬ (q.want w_rp).is w_int = true := by rw [hint]; decide
      have m2 := m1
      have hfe : funcEnd n p = block n ((q.want w_rp)) 1 := by unfold Ytaadamobapnfbaa.funcEnd; rw [hpar, if_neg hint]
      have o2 : ((q.want w_rp)).ok := o1
      refine ACode.skip (ACode.seq (ACode.region ?_))
      refine ASeq.q rfl rfl (QOp.loadM 3 rfl rfl rfl (tok _ rfl) rfl) ?_
      refine ASeq.op rfl rfl (AOp.callP 3 rfl (by kernel_rfl) rfl rfl rfl ((walks2 n).block ((q.want w_rp)) 1 o2 (by decide) (by omega) (by omega) _ _ _) ?_ (by rintro _ _ ⟨⟩))
      rintro _ _ ⟨te, ts, tf⟩
      refine ASeq.q rfl rfl (QOp.move rfl rfl) ?_
      refine ASeq.q rfl rfl (QOp.extract rfl rfl rfl) ?_
      refine ASeq.q rfl rfl (QOp.extract rfl rfl rfl) ?_
      refine ASeq.op rfl rfl (AOp.allocP rfl (tok _ rfl) rfl rfl (fun _ => rfl) (fun _ => ?_))
      refine ASeq.op0 rfl rfl (AOp.storeP 8 rfl rfl rfl rfl (tok _ rfl) rfl rfl rfl rfl ?_)
      refine ASeq.q rfl rfl (QOp.assign rfl rfl) ?_
      refine ASeq.nil ?_
      refine ACode.seq (ACode.seq (ACode.region ?_))
      rw [← hfe]
      have sE := Step.funcEnd n p
      have oE := sE.ok (by decide) (by decide) h
      refine ASeq.q rfl rfl (QOp.fieldM rfl rfl (tok _ rfl) rfl rfl (by decide) rfl) ?_
      refine ASeq.q rfl rfl (QOp.loadM 8 rfl rfl rfl (tok _ rfl) rfl) ?_
      refine ASeq.q rfl rfl (QOp.cmp rfl rfl rfl rfl) ?_
      refine ASeq.nil ?_
      refine AExit.then_normal ?_
      refine ACode.cond _ rfl (fun hb => ?_) (fun hb => ?_)
      · have hcE : (funcEnd n p).1.code ≠ 0 := by simpa using hb
        refine ACode.seq (ACode.region ?_)
        refine ASeq.q rfl rfl (QOp.loadM 8 rfl rfl rfl (tok _ rfl) rfl) ?_
        refine ASeq.op0 rfl rfl (AOp.storeP 4 rfl rfl rfl rfl (tok _ rfl) rfl rfl rfl rfl ?_)
        refine ASeq.nil ?_
        refine ACode.ret (AExit.then_ret ?_)
        refine bodyQ_ret 3 (.cell 4 rfl rfl (tok _ rfl) rfl .nil) rfl ?_
        rw [function_eq, if_pos hcE]
        exact .mk _ _ _
      · have hcE : (funcEnd n p).1.code = 0 := by simpa using hb
        have pos := sE.pos h (.inl (by decide))
        have pos : 1 ≤ (funcEnd n p).1.at_ := pos.resolve_right (fun h => h hcE)
        have hrow := oE.lastAt pos
        have e1 := oE.at1
        have e2 := oE.small
        have e3 := oE.fu
        refine ACode.skip (ACode.seq (ACode.region ?_))
        refine ASeq.q rfl rfl (QOp.move rfl rfl) ?_
        refine ASeq.q rfl rfl (QOp.fieldM rfl rfl (tok _ rfl) rfl rfl (by decide) rfl) ?_
        refine ASeq.op0 rfl rfl (AOp.storeP 6 rfl rfl rfl rfl (tok _ rfl) rfl rfl rfl rfl ?_)
        refine ASeq.nil ?_
        refine ACode.seq (ACode.region ?_)
        refine ASeq.q rfl rfl (QOp.move rfl rfl) ?_
        refine ASeq.q rfl rfl (QOp.fieldM rfl rfl (tok _ rfl) rfl rfl (by decide) rfl) ?_
        refine ASeq.q rfl rfl (QOp.loadM 8 rfl rfl rfl (tok _ rfl) rfl) ?_
        refine ASeq.q rfl rfl (QOp.fieldM rfl rfl (tok _ rfl) rfl rfl (by decide) rfl) ?_
        refine ASeq.q rfl rfl (QOp.loadM 8 rfl rfl rfl (tok _ rfl) rfl) ?_
        refine ASeq.q rfl rfl (QOp.ar64 rfl rfl rfl rfl ⟨by omega, by omega⟩) ?_
        refine ASeq.q rfl rfl (QOp.indexI rfl rfl rfl (tok _ rfl) rfl (tok _ rfl) (by omega) (by assumption)) ?_
        refine ASeq.q rfl rfl (QOp.fieldI rfl rfl (tok _ rfl) rfl rfl (by decide) rfl) ?_
        refine ASeq.q rfl rfl (QOp.fieldI rfl rfl (tok _ rfl) rfl rfl (by decide) rfl) ?_
        refine ASeq.q rfl rfl (QOp.loadI rfl rfl (tok _ rfl) rfl) ?_
        refine ASeq.q rfl rfl (QOp.build rfl (tok _ rfl) rfl rfl rfl rfl rfl) ?_
        refine ASeq.q rfl rfl (QOp.fieldM rfl rfl (tok _ rfl) rfl rfl (by decide) rfl) ?_
        refine ASeq.op0 rfl rfl (AOp.storeP 6 rfl rfl rfl rfl (tok _ rfl) rfl rfl rfl rfl ?_)
        refine ASeq.nil ?_
        refine ACode.seq (ACode.region ?_)
        refine ASeq.q rfl rfl (QOp.fieldM rfl rfl (tok _ rfl) rfl rfl (by decide) rfl) ?_
        refine ASeq.q rfl rfl (QOp.fieldM rfl rfl (tok _ rfl) rfl rfl (by decide) rfl) ?_
        refine ASeq.q rfl rfl (QOp.loadM 8 rfl rfl rfl (tok _ rfl) rfl) ?_
        refine ASeq.q rfl rfl (QOp.loadM 6 rfl rfl rfl (tok _ rfl) rfl) ?_
        refine ASeq.op rfl rfl (AOp.buildSliceR rfl (tok _ rfl) rfl (tok _ rfl) (by decide) rfl (by decide) rfl rfl rfl rfl ?_)
        refine ASeq.op rfl rfl (AOp.appendP 2 (e := 41) (tde := TT 41) rfl rfl rfl rfl (tok _ rfl) rfl (tok _ rfl) (tok _ rfl) rfl (by decide) rfl rfl (fun _ => rfl) (rows_ok 6 _ _ (fun y hy => by obtain ⟨z, _, rfl⟩ := List.mem_map.1 hy; rfl) rfl) (by simp only [List.length_map, List.length_cons, List.length_nil]; omega) rfl (fun _ => ?_))
        refine ASeq.q rfl rfl (QOp.fieldM rfl rfl (tok _ rfl) rfl rfl (by decide) rfl) ?_
        refine ASeq.q rfl rfl (QOp.fieldM rfl rfl (tok _ rfl) rfl rfl (by decide) rfl) ?_
        refine ASeq.op0 rfl rfl (AOp.storeP 8 rfl rfl rfl rfl (tok _ rfl) rfl rfl rfl rfl ?_)
        refine ASeq.nil ?_
        refine ACode.seq (ACode.region ?_)
        refine ASeq.q rfl rfl (QOp.loadM 8 rfl rfl rfl (tok _ rfl) rfl) ?_
        refine ASeq.op0 rfl rfl (AOp.storeP 4 rfl rfl rfl rfl (tok _ rfl) rfl rfl rfl rfl ?_)
        refine ASeq.nil ?_
        refine ACode.ret ?_
        refine bodyQ_ret 3 (.cell 4 rfl rfl (tok _ rfl) rfl .nil) rfl ?_
        rw [function_eq, if_neg (fun h => h hcE)]
        have hfo : funcOf n p = { name := ((p.full.want w_func).kindOf 1).2, fr := p.here, to := (funcEnd n p).1.lastTo, params := l, type := 4, body := (funcEnd n p).2 } := by
          unfold Ytaadamobapnfbaa.funcOf; rw [hpar, if_neg hint]
        rw [hfo]
        refine RP.of ?_ rfl
        simp only [PS.cells, List.map_append, List.map_cons, List.map_nil]
        rfl
end Go.Proofs.Ytaadamobapnfbaa
/- Parse. -/
set_option linter.unusedVariables false
set_option linter.unusedSimpArgs false
set_option maxRecDepth 100000
namespace Go.Proofs.Ytaadamobapnfbaa
open Go Go.Abs
structure Tree where
  exprs : List Ex := []
  stmts : List St := []
  funcs : List Fu := []
  deriving Inhabited
def Tree.cells (t : Tree) : List AV := [.il 9 none (t.exprs.map Ex.cells), .il 9 none (t.stmts.map St.cells), .il 6 none (t.funcs.map Fu.cells)]
def startP (s : ByteArray) : PS := { text := s, toks := (tokens s).1 }
def fuelP (s : ByteArray) : Nat := 20 * (tokens s).1.length + 14
def parsed (s : ByteArray) : PS := parseLoop (fuelP s) ((tokens s).1.length + 2) (startP s)
def parse (s : ByteArray) : Tree × Int × Int :=
  if (tokens s).2.2 ≠ 0 then ({}, (tokens s).2.1, (tokens s).2.2)
  else if (parsed s).code ≠ 0 then ({}, (parsed s).where_, (parsed s).code)
  else ({ exprs := (parsed s).exprs, stmts := (parsed s).stmts, funcs := (parsed s).funcs }, 0, 0)
theorem nilTree_le : AV.Le (.agg [.v (.slice none 0 0), .v (.slice none 0 0), .v (.slice none 0 0)]) (.agg (Tree.cells {})) :=
  LeL.agg (.cons (.nilT 9 none) (.cons (.nilT 9 none) (.cons (.nilT 6 none) .nil)))
set_option maxHeartbeats 1000000 in
theorem parse_ok (s : ByteArray) (hs : s.size ≤ 1000000) : ACalls Try.prog 23 [vs s] [] (RV (.tup [.agg (parse s).1.cells, vi (parse s).2.1, vi (parse s).2.2]) []) := by
  refine ACalls.retellR ?_
  refine ACalls.of_code (c := _) Try.func23 rfl Try.ntmps23 (Nat.le_of_ble_eq_true rfl) ?_
  refine ACode.newTok (fun te => ?_)
  refine ACode.newTok (fun ts => ?_)
  refine ACode.newTok (fun tf => ?_)
  refine ACode.seq (ACode.region ?_)
  refine ASeq.op rfl rfl (AOp.allocP rfl (tok _ rfl) rfl rfl (fun _ => rfl) (fun _ => ?_))
  refine ASeq.q rfl rfl (QOp.assign rfl rfl) ?_
  refine ASeq.q rfl rfl (QOp.assign rfl rfl) ?_
  refine ASeq.nil ?_
  rename_i m2
  refine ACode.seq (ACode.region ?_)
  refine ASeq.q rfl rfl (QOp.move rfl rfl) ?_
  refine ASeq.op rfl rfl (AOp.callP 0 rfl (by kernel_rfl) rfl rfl rfl (all_ok s hs) ?_ (by rintro _ _ ⟨⟩))
  rintro _ _ ⟨⟩
  refine ASeq.q rfl rfl (QOp.move rfl rfl) ?_
  refine ASeq.q rfl rfl (QOp.extract rfl rfl rfl) ?_
  refine ASeq.q rfl rfl (QOp.extract rfl rfl rfl) ?_
  refine ASeq.q rfl rfl (QOp.extract rfl rfl rfl) ?_
  refine ASeq.q rfl rfl (QOp.assign rfl rfl) ?_
  refine ASeq.q rfl rfl (QOp.assign rfl rfl) ?_
  refine ASeq.q rfl rfl (QOp.assign rfl rfl) ?_
  refine ASeq.nil ?_
  refine ACode.seq (ACode.seq (ACode.region ?_))
  refine ASeq.q rfl rfl (QOp.move rfl rfl) ?_
  refine ASeq.q rfl rfl (QOp.cmp rfl rfl rfl rfl) ?_
  refine ASeq.nil ?_
  refine AExit.then_normal ?_
  refine ACode.cond _ rfl (fun hb => ?_) (fun hb => ?_)
  · have hc : (tokens s).2.2 ≠ 0 := by simpa using hb
    refine ACode.seq (ACode.region ?_)
    refine ASeq.q rfl rfl (QOp.build rfl (tok _ rfl) rfl rfl rfl rfl rfl) ?_
    refine ASeq.q rfl rfl (QOp.move rfl rfl) ?_
    refine ASeq.q rfl rfl (QOp.move rfl rfl) ?_
    refine ASeq.op0 rfl rfl (AOp.storeP 3 rfl rfl rfl rfl (tok _ rfl) rfl rfl rfl rfl ?_)
    refine ASeq.q rfl rfl (QOp.assign rfl rfl) ?_
    refine ASeq.q rfl rfl (QOp.assign rfl rfl) ?_
    refine ASeq.nil ?_
    refine ACode.ret (AExit.then_ret ?_)
    refine bodyQ_ret 0 (.cell 3 rfl rfl (tok _ rfl) rfl (.tmp rfl (.tmp rfl .nil))) rfl ?_
    rw [show parse s = ({}, (tokens s).2.1, (tokens s).2.2) by unfold parse; rw [if_pos hc]]
    exact ⟨_, LeL.tup (.cons nilTree_le (.cons (.refl _) (.cons (.refl _) .nil))), .mk⟩
  have hc : (tokens s).2.2 = 0 := by simpa using hb
  have hp0 : (startP s).ok := PS.start_ok hs hc
  refine ACode.skip (ACode.seq (ACode.region ?_))
  refine ASeq.q rfl rfl (QOp.move rfl rfl) ?_
  refine ASeq.q rfl rfl (QOp.move rfl rfl) ?_
  refine ASeq.q rfl rfl (QOp.build rfl (tok _ rfl) rfl rfl rfl rfl rfl) ?_
  refine ASeq.op rfl rfl (AOp.allocP rfl (tok _ rfl) rfl rfl (fun _ => rfl) (fun _ => ?_))
  refine ASeq.op0 rfl rfl (AOp.storeP 4 rfl rfl rfl rfl (tok _ rfl) rfl rfl rfl rfl ?_)
  refine ASeq.nil ?_
  rename_i m8
  refine ACode.seq (ACode.block ?_)
  refine ACode.cells (cells' := (startP s).cells te ts tf) [_, _, _, _] [] rfl (.cons (.refl _) (.cons (.refl _) (.cons (.refl _) (.cons (.nilT 9 _) (.cons (.nilT 9 _) (.cons (.nilT 6 _) (.cons (.refl _) (.cons (.refl _) .nil)))))))) ?_
  refine ACode.loopP (fun (x : Nat × PS × Nat × Nat × Nat) => [(2, .mp m2 0), (8, .mp m8 0)])
    (fun (x : Nat × PS × Nat × Nat × Nat) => [.tk x.2.2.1, .tk x.2.2.2.1, .tk x.2.2.2.2, .mu m2 (List.map AV.v (TT 27).zero), .mu m8 (x.2.1.cells x.2.2.1 x.2.2.2.1 x.2.2.2.2)]) (fun x => x.1)
    (fun x => x.2.1.ok ∧ x.2.1.toks = (tokens s).1 ∧ 1 ≤ x.1 ∧ (x.2.1.code = 0 → (x.2.1.toks.length : Int) - x.2.1.at_ + 1 ≤ x.1) ∧ parseLoop (fuelP s) x.1 x.2.1 = parsed s)
    ((tokens s).1.length + 2, startP s, te, ts, tf) ⟨hp0, rfl, by dsimp only; omega, fun _ => by simp only [startP]; omega, rfl⟩ (.cons rfl (.cons rfl .nil)) 5 rfl ?_
  rintro ⟨k, q, te, ts, tf⟩ ⟨hq, hqt, hk1, hk, hres⟩
  dsimp only at hq hqt hk1 hk hres
  obtain ⟨k, rfl⟩ : ∃ k', k = k' + 1 := ⟨k - 1, by omega⟩
  have hrow := hq.tokAt
  have q0 := hq.at0
  have q1 := hq.at1
  have hfl : (List.map Fu.cells q.funcs).length = q.funcs.length := List.length_map ..
  refine ACode.seq (ACode.seq (ACode.region ?_))
  refine ASeq.cut 20 [(2, .mp m2 0), (8, .mp m8 0), (42, .v (.bool (q.code == 0 && (((q.funcs.map Fu.cells).length : Int) == 0 || q.tok.kind != 0))))] (fun rest => ?_) ?_
  · refine ASeq.q rfl rfl (QOp.fieldM rfl rfl (tok _ rfl) rfl rfl (by decide) rfl) ?_
    refine ASeq.q rfl rfl (QOp.loadM 4 rfl rfl rfl (tok _ rfl) rfl) ?_
    refine ASeq.q rfl rfl (QOp.cmp rfl rfl rfl rfl) ?_
    refine ASeq.q rfl rfl (QOp.move rfl rfl) ?_
    refine ASeq.split 26 (q.code == 0) rfl (fun hb => ?_) (fun hb => ?_)
    · refine ASeq.gq _ _ rfl rfl rfl rfl (QOp.fieldM rfl rfl (tok _ rfl) rfl rfl (by decide) rfl) ?_
      refine ASeq.gq _ _ rfl rfl rfl rfl (QOp.fieldM rfl rfl (tok _ rfl) rfl rfl (by decide) rfl) ?_
      refine ASeq.gq _ _ rfl rfl rfl rfl (QOp.loadM 4 rfl rfl rfl (tok _ rfl) rfl) ?_
      refine ASeq.gq _ _ rfl rfl rfl rfl (QOp.lenI rfl rfl (tok _ rfl) rfl) ?_
      refine ASeq.gq _ _ rfl rfl rfl rfl (QOp.cmp rfl rfl rfl rfl) ?_
      refine ASeq.gq _ _ rfl rfl rfl rfl (QOp.move rfl rfl) ?_
      refine ASeq.split 32 (((q.funcs.map Fu.cells).length : Int) == 0) rfl (fun hd => ?_) (fun hd => ?_)
      · refine ASeq.gno _ _ rfl rfl rfl rfl rfl ?_
        refine ASeq.gno _ _ rfl rfl rfl rfl rfl ?_
        refine ASeq.gno _ _ rfl rfl rfl rfl rfl ?_
        refine ASeq.gno _ _ rfl rfl rfl rfl rfl ?_
        refine ASeq.gno _ _ rfl rfl rfl rfl rfl ?_
        refine ASeq.gno _ _ rfl rfl rfl rfl rfl ?_
        refine ASeq.gno _ _ rfl rfl rfl rfl rfl ?_
        refine ASeq.gno _ _ rfl rfl rfl rfl rfl ?_
        refine ASeq.gq _ _ rfl rfl rfl rfl (QOp.pickT rfl rfl rfl) ?_
        refine ASeq.q rfl rfl (QOp.pickT rfl rfl rfl) ?_
        exact rest.at_ (.cons rfl (.cons rfl (.consB (b := true) rfl (by rw [hb, hd]; rfl) .nil)))
      · refine ASeq.gq _ _ rfl rfl rfl rfl (QOp.fieldM rfl rfl (tok _ rfl) rfl rfl (by decide) rfl) ?_
        refine ASeq.gq _ _ rfl rfl rfl rfl (QOp.loadM 4 rfl rfl rfl (tok _ rfl) rfl) ?_
        refine ASeq.gq _ _ rfl rfl rfl rfl (QOp.fieldM rfl rfl (tok _ rfl) rfl rfl (by decide) rfl) ?_
        refine ASeq.gq _ _ rfl rfl rfl rfl (QOp.loadM 4 rfl rfl rfl (tok _ rfl) rfl) ?_
        refine ASeq.gq _ _ rfl rfl rfl rfl (QOp.indexI rfl rfl rfl (tok _ rfl) rfl (tok _ rfl) (by omega) (by assumption)) ?_
        refine ASeq.gq _ _ rfl rfl rfl rfl (QOp.fieldI rfl rfl (tok _ rfl) rfl rfl (by decide) rfl) ?_
        refine ASeq.gq _ _ rfl rfl rfl rfl (QOp.loadI rfl rfl (tok _ rfl) rfl) ?_
        refine ASeq.gq _ _ rfl rfl rfl rfl (QOp.cmp rfl rfl rfl rfl) ?_
        refine ASeq.gq _ _ rfl rfl rfl rfl (QOp.pickF rfl rfl rfl) ?_
        refine ASeq.q rfl rfl (QOp.pickT rfl rfl rfl) ?_
        exact rest.at_ (.cons rfl (.cons rfl (.consB (b := q.tok.kind != 0) rfl (by rw [hb, hd]; rfl) .nil)))
    · refine ASeq.gno _ _ rfl rfl rfl rfl rfl ?_
      refine ASeq.gno _ _ rfl rfl rfl rfl rfl ?_
      refine ASeq.gno _ _ rfl rfl rfl rfl rfl ?_
      refine ASeq.gno _ _ rfl rfl rfl rfl rfl ?_
      refine ASeq.gno _ _ rfl rfl rfl rfl rfl ?_
      refine ASeq.gno _ _ rfl rfl rfl rfl rfl ?_
      refine ASeq.gno _ _ rfl rfl rfl rfl rfl ?_
      refine ASeq.gno _ _ rfl rfl rfl rfl rfl ?_
      refine ASeq.gno _ _ rfl rfl rfl rfl rfl ?_
      refine ASeq.gno _ _ rfl rfl rfl rfl rfl ?_
      refine ASeq.gno _ _ rfl rfl rfl rfl rfl ?_
      refine ASeq.gno _ _ rfl rfl rfl rfl rfl ?_
      refine ASeq.gno _ _ rfl rfl rfl rfl rfl ?_
      refine ASeq.gno _ _ rfl rfl rfl rfl rfl ?_
      refine ASeq.gno _ _ rfl rfl rfl rfl rfl ?_
      refine ASeq.q rfl rfl (QOp.pickF rfl rfl rfl) ?_
      exact rest.at_ (.cons rfl (.cons rfl (.consB (b := false) rfl (by rw [hb]; rfl) .nil)))
  refine ASeq.nil ?_
  refine AExit.then_normal ?_
  have key : (q.code == 0 && (((q.funcs.map Fu.cells).length : Int) == 0 || q.tok.kind != 0)) = true ↔ (q.code = 0 ∧ (q.funcs = [] ∨ q.tok.kind ≠ 0)) := by
    rw [hfl]
    simp only [Bool.and_eq_true, Bool.or_eq_true, beq_iff_eq, bne_iff_ne, ne_eq]
    have : ((q.funcs.length : Int) = 0) ↔ q.funcs = [] := by
      rw [← List.length_eq_zero_iff]; omega
    rw [this]
  refine ACode.cond _ rfl (fun hb => ?_) (fun hb => ?_)
  · have hx := key.1 hb
    have hf := function_ok (n := fuelP s) hq
    have hmm : q.mm + 14 ≤ (fuelP s : Nat) := by
      have : q.mm ≤ 20 * (q.toks.length : Int) := by unfold PS.mm; split <;> omega
      unfold fuelP
      rw [← hqt]; omega
    rw [show parseLoop (fuelP s) (k + 1) q = parseLoop (fuelP s) k (function (fuelP s) q) by simp only [parseLoop]; rw [if_pos hx]] at hres
    have hk := hk hx.1
    refine ACode.skip (ACode.block (ACode.region ?_))
    refine ASeq.q rfl rfl (QOp.loadM 4 rfl rfl rfl (tok _ rfl) rfl) ?_
    refine ASeq.op rfl rfl (AOp.callP 3 rfl (by kernel_rfl) rfl rfl rfl (function_walk (fuelP s) q hq hmm _ _ _) ?_ (by rintro _ _ ⟨⟩))
    rintro _ _ ⟨te, ts, tf⟩
    refine ASeq.op0 rfl rfl (AOp.storeP 4 rfl rfl rfl rfl (tok _ rfl) rfl rfl rfl rfl ?_)
    refine ASeq.nil ?_
    refine AExit.in_normal (AExit.then_normal ?_)
    exact ⟨(k, function (fuelP s) q, _, _, _), 5, ⟨hf.1, hf.2.1.trans hqt, by dsimp only; omega, fun hz => by have := (hf.2.2.2 hz).2; dsimp only; rw [hf.2.1]; omega, hres⟩, Nat.lt_succ_self _, .cons rfl (.cons rfl .nil), rfl⟩
  · have hx := mt key.2 (by rw [hb]; decide)
    rw [show parseLoop (fuelP s) (k + 1) q = q by simp only [parseLoop]; rw [if_neg hx]] at hres
    refine ACode.exit (ACode.seq (ACode.seq (ACode.region ?_)))
    refine ASeq.q rfl rfl (QOp.fieldM rfl rfl (tok _ rfl) rfl rfl (by decide) rfl) ?_
    refine ASeq.q rfl rfl (QOp.loadM 4 rfl rfl rfl (tok _ rfl) rfl) ?_
    refine ASeq.q rfl rfl (QOp.cmp rfl rfl rfl rfl) ?_
    refine ASeq.nil ?_
    refine AExit.then_normal ?_
    refine ACode.cond _ rfl (fun hb => ?_) (fun hb => ?_)
    · have hqc : q.code ≠ 0 := by simpa using hb
      refine ACode.seq ?_
      refine ACode.drawn [[], [], [1], [], [3], [0], [0, 1, 2, 5], [0, 1, 2, 3, 4, 5, 6]] (by kernel_rfl) mixed ?_
      refine DAny.qu 0 rfl rfl (by kernel_rfl) rfl (fun _ => .does _ _ rfl (.none rfl) (QOp.build rfl (tok _ rfl) rfl rfl rfl rfl rfl)) ?_
      refine DAny.qu 1 rfl rfl (by kernel_rfl) rfl (fun _ => .does _ _ rfl (.none rfl) (QOp.fieldM rfl rfl (tok _ rfl) rfl rfl (by decide) rfl)) ?_
      refine DAny.ld 2 rfl rfl (by kernel_rfl) rfl (.does _ _ rfl (.none rfl) (QOp.loadM 4 rfl rfl rfl (tok _ rfl) rfl)) ?_
      refine DAny.qu 3 rfl rfl (by kernel_rfl) rfl (fun _ => .does _ _ rfl (.none rfl) (QOp.fieldM rfl rfl (tok _ rfl) rfl rfl (by decide) rfl)) ?_
      refine DAny.ld 4 rfl rfl (by kernel_rfl) rfl (.does _ _ rfl (.none rfl) (QOp.loadM 4 rfl rfl rfl (tok _ rfl) rfl)) ?_
      refine DAny.ef0 5 rfl (by kernel_rfl) (.none rfl) rfl rfl (AOp.storeP 3 rfl rfl rfl rfl (tok _ rfl) rfl rfl rfl rfl ⟨(by ((refine AllQ.cons (.does _ _ rfl (.none rfl) (QOp.loadM 4 rfl rfl rfl (tok _ rfl) rfl)) ?_); (refine AllQ.cons (.does _ _ rfl (.none rfl) (QOp.loadM 4 rfl rfl rfl (tok _ rfl) rfl)) ?_); (exact AllQ.nil))), ?_⟩)
      refine DAny.ef 6 rfl (by kernel_rfl) (.none rfl) rfl rfl (.q (QOp.assign rfl rfl) ⟨(by ((refine AllQ.cons (.does _ _ rfl (.none rfl) (QOp.loadM 4 rfl rfl rfl (tok _ rfl) rfl)) ?_); (exact AllQ.nil))), ?_⟩)
      refine DAny.ef 7 rfl (by kernel_rfl) (.none rfl) rfl rfl (.q (QOp.assign rfl rfl) ⟨(by ((exact AllQ.nil))), ?_⟩)
      refine DAny.done (by kernel_rfl) ?_
      refine ACode.ret (AExit.then_ret ?_)
      refine bodyQ_ret 0 (.cell 3 rfl rfl (tok _ rfl) rfl (.tmp rfl (.tmp rfl .nil))) rfl ?_
      rw [show parse s = ({}, q.where_, q.code) by unfold parse; rw [if_neg (fun h => h hc), ← hres, if_pos hqc]]
      exact ⟨_, LeL.tup (.cons nilTree_le (.cons (.refl _) (.cons (.refl _) .nil))), .mk⟩
    · have hqc : ¬ q.code ≠ 0 := by simpa using hb
      refine ACode.skip (ACode.seq (ACode.region ?_))
      refine ASeq.q rfl rfl (QOp.fieldM rfl rfl (tok _ rfl) rfl rfl (by decide) rfl) ?_
      refine ASeq.q rfl rfl (QOp.loadM 4 rfl rfl rfl (tok _ rfl) rfl) ?_
      refine ASeq.op0 rfl rfl (AOp.storeP 3 rfl rfl rfl rfl (tok _ rfl) rfl rfl rfl rfl ?_)
      refine ASeq.q rfl rfl (QOp.assign rfl rfl) ?_
      refine ASeq.q rfl rfl (QOp.assign rfl rfl) ?_
      refine ASeq.nil ?_
      refine ACode.ret ?_
      refine bodyQ_ret 0 (.cell 3 rfl rfl (tok _ rfl) rfl (.tmp rfl (.tmp rfl .nil))) rfl ?_
      rw [show parse s = ({ exprs := q.exprs, stmts := q.stmts, funcs := q.funcs }, 0, 0) by unfold parse; rw [if_neg (fun h => h hc), ← hres, if_neg hqc]]
      exact ⟨_, LeL.tup (.cons (LeL.agg (.cons (.tok 9 _ _) (.cons (.tok 9 _ _) (.cons (.tok 6 _ _) .nil)))) (.cons (.refl _) (.cons (.refl _) .nil))), .mk⟩
end Go.Proofs.Ytaadamobapnfbaa
/- ref06 on data. -/
set_option linter.unusedVariables false
set_option linter.unusedSimpArgs false
namespace Go.Proofs.Ytaadamobapnfbaa
open Go Go.Abs
structure Nm where
  text : ByteArray
  block : Int
  slot : Int
def Nm.cells (n : Nm) : List AV := [vs n.text, vi n.block, vi n.slot]
structure CS where
  t : Tree
  type : List Int
  slot : List Int
  put : List Int
  func : List Int
  slots : List (List Int)
  f : Int := 0
  names : List Nm := []
  block : Int := 0
  loops : Int := 0
  code : Int := 0
  at_ : Int := 0
structure Ms where
  mT : Nat
  mS : Nat
  mP : Nat
  mF : Nat
  mL : Nat
def CS.cur (c : CS) : List Int := c.slots.getD c.f.toNat []
def CS.cells (c : CS) (m : Ms) : List AV :=
  [.il 9 none (c.t.exprs.map Ex.cells), .il 9 none (c.t.stmts.map St.cells), .il 6 none (c.t.funcs.map Fu.cells), .sl 1 m.mT 0 c.type.length, .sl 1 m.mS 0 c.slot.length, .sl 1 m.mP 0 c.put.length, .sl 1 m.mF 0 c.func.length, .sl 1 m.mL 0 c.slots.length,
    vi c.f, .il 3 none (c.names.map Nm.cells), vi c.block, vi c.loops, vi c.code, vi c.at_]
def slotCell (τ : Nat) (f : Int) (i : Nat) (l : List Int) : AV := if (i : Int) = f then .il 1 (some τ) (ints l) else if (i : Int) < f then .il 1 none (ints l) else .v (.slice none 0 0)
def CS.slotCells (c : CS) (τ : Nat) : List AV := c.slots.mapIdx (slotCell τ c.f)
def CS.items (c : CS) (m : Ms) (τ : Nat) : List Abs.Item := [.mu m.mT (c.type.map vi), .mu m.mS (c.slot.map vi), .mu m.mP (c.put.map vi), .mu m.mF (c.func.map vi), .mu m.mL (c.slotCells τ), .tk τ]
def CS.need (c : CS) (ok : Bool) (at_ code : Int) : CS := if c.code = 0 ∧ ok = false then { c with code := code, at_ := at_ } else c
def findL (s : ByteArray) : List Nm → Int → Int
  | [], r => r
  | n :: l, r => findL s l (if (n.text.data.toList == s.data.toList) = true then n.slot else r)
def CS.find (c : CS) (s : ByteArray) : Int := findL s c.names (-1)
def CS.twice (c : CS) (s : ByteArray) : Bool := c.names.any fun n => (n.text.data.toList == s.data.toList) && (n.block == c.block)
def CS.decl (c : CS) (s : ByteArray) (kind at_ : Int) : CS × Int :=
  if ((c.need (!c.twice s) at_ 7).need (decide ((c.cur.length : Int) < 64)) at_ 5).code ≠ 0 then ((c.need (!c.twice s) at_ 7).need (decide ((c.cur.length : Int) < 64)) at_ 5, -1)
  else ({ c with slots := c.slots.set c.f.toNat (c.cur ++ [kind]), names := c.names ++ [⟨s, c.block, c.cur.length⟩] }, c.cur.length)
def CS.slotOk (c : CS) (n : Int) (array : Bool) : Bool := decide (n ≥ 0) && ((c.cur.getD n.toNat 0 == 3) == array)
def CS.slotOf (c : CS) (s : ByteArray) (array : Bool) (at_ : Int) : CS × Int := (c.need (c.slotOk (c.find s) array) at_ 6, c.find s)
def CS.ex (c : CS) (i : Int) : Ex := c.t.exprs.getD i.toNat default
def CS.stm (c : CS) (i : Int) : St := c.t.stmts.getD i.toNat default
def CS.fu (c : CS) (i : Int) : Fu := c.t.funcs.getD i.toNat default
def CS.setSlot (c : CS) (i n : Int) : CS := { c with slot := c.slot.set i.toNat n }
def CS.setType (c : CS) (i n : Int) : CS := { c with type := c.type.set i.toNat n }
def CS.setPut (c : CS) (i n : Int) : CS := { c with put := c.put.set i.toNat n }
def CS.setFunc (c : CS) (i n : Int) : CS := { c with func := c.func.set i.toNat n }
/-- the type of one that must be a value -/
def valOf (r : CS × Int) (i : Int) : CS × Int := (r.1.need (r.2 != 4) (r.1.ex i).fr 8, r.2)
def findF (s : ByteArray) : List Fu → Nat → Int → Int
  | [], _, r => r
  | g :: l, k, r => findF s l (k + 1) (if ((g.name.data.toList == s.data.toList) && decide (r < 0)) = true then (k : Int) else r)
def isEven (op : ByteArray) : Bool := (op.data.toList == [61, 61]) || (op.data.toList == [33, 61])
def isLogic (op : ByteArray) : Bool := (op.data.toList == [38, 38]) || (op.data.toList == [124, 124])
def pairOk (op : ByteArray) (a b : Int) : Bool := (a == b) && ((isEven op || (isLogic op && (a == 2))) || ((!isLogic op && !isEven op) && (a == 1)))
def unaryOk (op : ByteArray) (a : Int) : Bool := ((op.data.toList == [45]) && (a == 1)) || ((op.data.toList == [33]) && (a == 2))
def isInt (op : ByteArray) : Bool := ((!isEven op && !isLogic op) && (byteAt op 0 != 60)) && (byteAt op 0 != 62)
def argsOf (g : CS → Int → CS × Int) : List Int → CS → Bool → CS × Bool
  | [], c, b => (c, b)
  | a :: l, c, b => argsOf g l (valOf (g c a) a).1 (b && ((valOf (g c a) a).2 == 1))
def kindCase (g : CS → Int → CS × Int) (c : CS) (i : Int) (e : Ex) : CS × Int :=
  if e.kind = 1 ∨ e.kind = 7 then (c, 1)
  else if e.kind = 4 then
    if (c.slotOf e.name false e.fr).1.code = 0 then ((c.slotOf e.name false e.fr).1.setSlot i (c.slotOf e.name false e.fr).2, c.cur.getD (c.slotOf e.name false e.fr).2.toNat 0)
    else ((c.slotOf e.name false e.fr).1, 2)
  else if e.kind = 5 then
    ((((valOf (g c e.a) e.a).1.slotOf e.name true e.fr).1.need ((valOf (g c e.a) e.a).2 == 1) e.fr 8).setSlot i ((valOf (g c e.a) e.a).1.slotOf e.name true e.fr).2, 1)
  else if e.kind = 6 then
    if ((argsOf g e.list c true).1.need (decide (findF e.name c.t.funcs 0 (-1) ≥ 0)) e.fr 6).code = 0 then
      ((((argsOf g e.list c true).1.need (decide (findF e.name c.t.funcs 0 (-1) ≥ 0)) e.fr 6).need ((argsOf g e.list c true).2 && ((e.list.length : Int) == (c.fu (findF e.name c.t.funcs 0 (-1))).params.length)) e.fr 8).setSlot i (findF e.name c.t.funcs 0 (-1)),
        (c.fu (findF e.name c.t.funcs 0 (-1))).type)
    else ((argsOf g e.list c true).1.need (decide (findF e.name c.t.funcs 0 (-1) ≥ 0)) e.fr 6, 2)
  else if e.kind = 8 then
    ((valOf (g c e.a) e.a).1.need (unaryOk e.op (valOf (g c e.a) e.a).2) e.fr 8, (valOf (g c e.a) e.a).2)
  else if e.kind = 9 then
    ((valOf (g (valOf (g c e.a) e.a).1 e.b) e.b).1.need (pairOk e.op (valOf (g c e.a) e.a).2 (valOf (g (valOf (g c e.a) e.a).1 e.b) e.b).2) e.fr 8, if isInt e.op = true then 1 else 2)
  else (c, 2)
def typed (r : CS × Int) (i : Int) : CS × Int := if r.1.code = 0 then (r.1.setType i r.2, r.2) else r
def expr6 : Nat → CS → Int → CS × Int
  | 0, c, _ => (c, 1)
  | n + 1, c, i => if c.code ≠ 0 then (c, 1) else typed (kindCase (expr6 n) c i (c.ex i)) i
def stmtsOf (g : CS → Int → CS) (b : Int) : List Int → CS → CS
  | [], c => c
  | i :: l, c => stmtsOf g b l { g c i with block := b }
def blockOf (g : CS → Int → CS) (c : CS) (l : List Int) : CS := { stmtsOf g (c.block + 1) l { c with block := c.block + 1 } with names := c.names, block := c.block }
def stmt6 : Nat → CS → Int → CS
  | 0, c, _ => c
  | n + 1, c, i =>
    if c.code ≠ 0 then c
    else
      let s := c.stm i
      let c := c.setFunc i c.f
      let N := c.t.exprs.length
      let fin (x : CS) (n : Int) : CS := if x.code = 0 then x.setPut i n else x
      if s.kind = 1 then
        let v := valOf (expr6 N c s.a) s.a
        if v.1.code ≠ 0 then v.1 else fin (v.1.decl s.name v.2 s.fr).1 (v.1.decl s.name v.2 s.fr).2
      else if s.kind = 2 then
        let x := c.need (decide (s.num ≥ 1) && decide (s.num ≤ 64)) s.fr 15
        if x.code ≠ 0 then x else fin (x.decl s.name 3 s.fr).1 (x.decl s.name 3 s.fr).2
      else if s.kind = 3 then
        let v := valOf (expr6 N c s.a) s.a
        if v.1.code ≠ 0 then v.1
        else
          let x := v.1.slotOf s.name false s.fr
          if x.1.code = 0 then fin (x.1.need (v.2 == x.1.cur.getD x.2.toNat 0) s.fr 8) x.2 else x.1
      else if s.kind = 4 then
        let v := valOf (expr6 N c s.a) s.a
        let w := valOf (expr6 N v.1 s.b) s.b
        if w.1.code ≠ 0 then w.1
        else
          let x := w.1.slotOf s.name true s.fr
          fin (x.1.need ((v.2 == 1) && (w.2 == 1)) s.fr 8) x.2
      else if s.kind = 5 then
        let v := valOf (expr6 N c s.a) s.a
        fin (blockOf (stmt6 n) (blockOf (stmt6 n) (v.1.need (v.2 == 2) s.fr 8) s.thn) s.els) (-1)
      else if s.kind = 6 then
        let v := valOf (expr6 N c s.a) s.a
        let x := blockOf (stmt6 n) ({ v.1 with loops := v.1.loops + 1 }.need (v.2 == 2) s.fr 8) s.thn
        fin { x with loops := x.loops - 1 } (-1)
      else if s.kind = 7 ∨ s.kind = 8 then fin (c.need (decide (c.loops > 0)) s.fr 9) (-1)
      else if s.kind = 9 then
        let v := if s.a ≥ 0 then valOf (expr6 N c s.a) s.a else (c, 4)
        fin (v.1.need (v.2 == (v.1.fu v.1.f).type) s.fr 8) (-1)
      else if s.kind = 10 then fin (valOf (expr6 N c s.a) s.a).1 (-1)
      else if s.kind = 11 then fin (expr6 N c s.a).1 (-1)
      else fin c (-1)
end Go.Proofs.Ytaadamobapnfbaa
/- ref06: need, find, declare, slot. -/
set_option linter.unusedVariables false
set_option linter.unusedSimpArgs false
set_option maxRecDepth 100000
namespace Go.Proofs.Ytaadamobapnfbaa
open Go Go.Abs
structure CS.ok (c : CS) : Prop where
  f0 : 0 ≤ c.f
  f1 : c.f < c.slots.length
  n64 : c.cur.length ≤ 64
  names : c.names.length ≤ c.cur.length
  nslot : ∀ n ∈ c.names, 0 ≤ n.slot ∧ n.slot < c.cur.length
  lt : c.type.length = c.t.exprs.length
  ls : c.slot.length = c.t.exprs.length
  lp : c.put.length = c.t.stmts.length
  lf : c.func.length = c.t.stmts.length
  lS : c.slots.length = c.t.funcs.length
  big : c.t.exprs.length ≤ 1048576 ∧ c.t.stmts.length ≤ 1048576 ∧ c.t.funcs.length ≤ 1048576
/-- what a state and a value are, handed back -/
inductive RC (m : Ms) (c : CS) (v : Int) : AOut → List Abs.Item → Prop
  | mk (τ : Nat) : RC m c v (.ret (.tup [.agg (c.cells m), vi v])) (c.items m τ)
inductive RS (m : Ms) (c : CS) : AOut → List Abs.Item → Prop
  | mk (τ : Nat) : RS m c (.ret (.agg (c.cells m))) (c.items m τ)
theorem slotCells_cur {c : CS} (h : c.ok) (τ : Nat) : (c.slotCells τ)[0 + c.f.toNat * 1]? = some (.il 1 (some τ) (ints c.cur)) := by
  have h0 := h.f0
  have h1 := h.f1
  have hl : c.f.toNat < c.slots.length := by omega
  simp only [Nat.zero_add, Nat.mul_one, CS.slotCells, List.getElem?_mapIdx, List.getElem?_eq_getElem hl, Option.map_some, slotCell, CS.cur, List.getD_eq_getElem?_getD, Option.getD_some]
  rw [if_pos (by omega)]
theorem need_ok (c : CS) (m : Ms) (ok : Bool) (at_ code : Int) : ACalls Try.prog 31 [.agg (c.cells m), .v (.bool ok), vi at_, vi code] [] (RV (.agg ((c.need ok at_ code).cells m)) []) := by
  refine ACalls.of_code (c := _) Try.func31 rfl Try.ntmps31 (Nat.le_of_ble_eq_true rfl) ?_
  refine ACode.seq (ACode.region ?_)
  refine ASeq.op rfl rfl (AOp.boxP rfl rfl rfl (fun _ => rfl) (fun _ => ?_))
  refine ASeq.op rfl rfl (AOp.allocP rfl (tok _ rfl) rfl rfl (fun _ => rfl) (fun _ => ?_))
  refine ASeq.nil ?_
  refine ACode.seq (ACode.seq (ACode.region ?_))
  refine ASeq.q rfl rfl (QOp.fieldM rfl rfl (tok _ rfl) rfl rfl (by decide) rfl) ?_
  refine ASeq.q rfl rfl (QOp.loadM 0 rfl rfl rfl (tok _ rfl) rfl) ?_
  refine ASeq.q rfl rfl (QOp.cmp rfl rfl rfl rfl) ?_
  refine ASeq.q rfl rfl (QOp.move rfl rfl) ?_
  refine ASeq.split 12 (c.code == 0) rfl (fun hb => ?_) (fun hb => ?_)
  · refine ASeq.gq _ _ rfl rfl rfl rfl (QOp.move rfl rfl) ?_
    refine ASeq.gq _ _ rfl rfl rfl rfl (QOp.not rfl rfl) ?_
    refine ASeq.q rfl rfl (QOp.pickT rfl rfl rfl) ?_
    refine ASeq.nil ?_
    refine AExit.then_normal ?_
    refine ACode.cond _ rfl (fun hc => ?_) (fun hc => ?_)
    · refine ACode.seq (ACode.region ?_)
      refine ASeq.q rfl rfl (QOp.move rfl rfl) ?_
      refine ASeq.q rfl rfl (QOp.fieldM rfl rfl (tok _ rfl) rfl rfl (by decide) rfl) ?_
      refine ASeq.op0 rfl rfl (AOp.storeP 0 rfl rfl rfl rfl (tok _ rfl) rfl rfl rfl rfl ?_)
      refine ASeq.nil ?_
      refine ACode.region ?_
      refine ASeq.q rfl rfl (QOp.move rfl rfl) ?_
      refine ASeq.q rfl rfl (QOp.fieldM rfl rfl (tok _ rfl) rfl rfl (by decide) rfl) ?_
      refine ASeq.op0 rfl rfl (AOp.storeP 0 rfl rfl rfl rfl (tok _ rfl) rfl rfl rfl rfl ?_)
      refine ASeq.nil ?_
      refine ACode.seq (ACode.region ?_)
      refine ASeq.q rfl rfl (QOp.loadM 0 rfl rfl rfl (tok _ rfl) rfl) ?_
      refine ASeq.op0 rfl rfl (AOp.storeP 1 rfl rfl rfl rfl (tok _ rfl) rfl rfl rfl rfl ?_)
      refine ASeq.nil ?_
      refine ACode.ret ?_
      refine bodyQ_ret 0 (.cell 1 rfl rfl (tok _ rfl) rfl .nil) rfl ?_
      rw [show c.need ok at_ code = { c with code := code, at_ := at_ } by unfold CS.need; rw [if_pos ⟨by simpa using hb, by simpa using hc⟩]]
      exact .mk
    · refine ACode.skip (ACode.seq (ACode.region ?_))
      refine ASeq.q rfl rfl (QOp.loadM 0 rfl rfl rfl (tok _ rfl) rfl) ?_
      refine ASeq.op0 rfl rfl (AOp.storeP 1 rfl rfl rfl rfl (tok _ rfl) rfl rfl rfl rfl ?_)
      refine ASeq.nil ?_
      refine ACode.ret ?_
      refine bodyQ_ret 0 (.cell 1 rfl rfl (tok _ rfl) rfl .nil) rfl ?_
      rw [show c.need ok at_ code = c by unfold CS.need; rw [if_neg (fun h => by rw [h.2] at hc; cases hc)]]
      exact .mk
  · refine ASeq.gno _ _ rfl rfl rfl rfl rfl ?_
    refine ASeq.gno _ _ rfl rfl rfl rfl rfl ?_
    refine ASeq.q rfl rfl (QOp.pickF rfl rfl rfl) ?_
    refine ASeq.nil ?_
    refine AExit.then_normal ?_
    refine ACode.cond _ rfl (fun hc => by cases hc) (fun hc => ?_)
    refine ACode.skip (ACode.seq (ACode.region ?_))
    refine ASeq.q rfl rfl (QOp.loadM 0 rfl rfl rfl (tok _ rfl) rfl) ?_
    refine ASeq.op0 rfl rfl (AOp.storeP 1 rfl rfl rfl rfl (tok _ rfl) rfl rfl rfl rfl ?_)
    refine ASeq.nil ?_
    refine ACode.ret ?_
    refine bodyQ_ret 0 (.cell 1 rfl rfl (tok _ rfl) rfl .nil) rfl ?_
    rw [show c.need ok at_ code = c by unfold CS.need; rw [if_neg (fun h => absurd h.1 (by simpa using hb))]]
    exact .mk
theorem nm_get {l : List Nm} {i : Nat} (h : i < l.length) : (l.map Nm.cells)[i]? = some l[i].cells := by
  simp only [List.getElem?_map, List.getElem?_eq_getElem h, Option.map_some]
theorem findL_drop (s : ByteArray) (l : List Nm) (i : Nat) (r : Int) (h : i < l.length) : findL s (l.drop i) r = findL s (l.drop (i + 1)) (if (l[i].text.data.toList == s.data.toList) = true then l[i].slot else r) := by
  rw [List.drop_eq_getElem_cons h]; rfl
theorem find_ok (c : CS) (m : Ms) (s : ByteArray) (h : c.names.length ≤ 64) : ACalls Try.prog 72 [.agg (c.cells m), vs s] [] (RV (vi (c.find s)) []) := by
  have hml : (c.names.map Nm.cells).length = c.names.length := List.length_map ..
  refine ACalls.of_code (c := _) Try.func72 rfl Try.ntmps72 (Nat.le_of_ble_eq_true rfl) ?_
  refine ACode.seq (ACode.region ?_)
  refine ASeq.op rfl rfl (AOp.boxP rfl rfl rfl (fun _ => rfl) (fun _ => ?_))
  refine ASeq.q rfl rfl (QOp.assign rfl rfl) ?_
  refine ASeq.nil ?_
  rename_i m2
  refine ACode.seq (ACode.region ?_)
  refine ASeq.q rfl rfl (QOp.assign rfl rfl) ?_
  refine ASeq.nil ?_
  refine ACode.seq (ACode.seq (ACode.region ?_))
  refine ASeq.q rfl rfl (QOp.fieldM rfl rfl (tok _ rfl) rfl rfl (by decide) rfl) ?_
  refine ASeq.q rfl rfl (QOp.loadM 0 rfl rfl rfl (tok _ rfl) rfl) ?_
  refine ASeq.q rfl rfl (QOp.lenI rfl rfl (tok _ rfl) rfl) ?_
  refine ASeq.q rfl rfl (QOp.move rfl rfl) ?_
  refine ASeq.nil ?_
  refine ACode.block ?_
  refine ACode.loopP (fun (x : Nat × Int) => [(1, vs s), (2, .mp m2 0), (5, vi x.2), (9, vi ((c.names.map Nm.cells).length : Int)), (10, vi x.1)]) (fun _ => [.mu m2 (c.cells m)]) (fun x => c.names.length - x.1)
    (fun x => x.1 ≤ c.names.length ∧ findL s (c.names.drop x.1) x.2 = c.find s) (0, -1) ⟨Nat.zero_le _, rfl⟩ (.cons rfl (.cons rfl (.cons rfl (.cons rfl (.cons rfl .nil))))) 1 rfl ?_
  rintro ⟨i, r⟩ ⟨hi, he⟩
  dsimp only at hi he
  refine ACode.seq (ACode.region ?_)
  refine ASeq.q rfl rfl (QOp.cmp rfl rfl rfl rfl) ?_
  refine ASeq.nil ?_
  refine ACode.seq ?_
  refine ACode.cond _ rfl (fun hb => ?_) (fun hb => ?_)
  · have hlt : i < c.names.length := by have := of_decide_eq_true hb; rw [hml] at this; omega
    have hget := nm_get hlt
    rw [findL_drop s _ i r hlt] at he
    refine ACode.skip (ACode.seq (ACode.block (ACode.seq (ACode.region ?_))))
    refine ASeq.q rfl rfl (QOp.move rfl rfl) ?_
    refine ASeq.q rfl rfl (QOp.assign rfl rfl) ?_
    refine ASeq.nil ?_
    refine ACode.seq (ACode.region ?_)
    refine ASeq.q rfl rfl (QOp.fieldM rfl rfl (tok _ rfl) rfl rfl (by decide) rfl) ?_
    refine ASeq.q rfl rfl (QOp.loadM 0 rfl rfl rfl (tok _ rfl) rfl) ?_
    refine ASeq.q rfl rfl (QOp.move rfl rfl) ?_
    refine ASeq.q rfl rfl (QOp.indexI rfl rfl rfl (tok _ rfl) rfl (tok _ rfl) (by omega) (by assumption)) ?_
    refine ASeq.q rfl rfl (QOp.fieldI rfl rfl (tok _ rfl) rfl rfl (by decide) rfl) ?_
    refine ASeq.q rfl rfl (QOp.loadI rfl rfl (tok _ rfl) rfl) ?_
    refine ASeq.q rfl rfl (QOp.move rfl rfl) ?_
    refine ASeq.q rfl rfl (QOp.cmpStr rfl rfl rfl rfl) ?_
    refine ASeq.nil ?_
    refine AExit.then_normal ?_
    refine ACode.cond _ rfl (fun hb => ?_) (fun hb => ?_)
    · rw [if_pos hb] at he
      refine ACode.region ?_
      refine ASeq.q rfl rfl (QOp.fieldM rfl rfl (tok _ rfl) rfl rfl (by decide) rfl) ?_
      refine ASeq.q rfl rfl (QOp.loadM 0 rfl rfl rfl (tok _ rfl) rfl) ?_
      refine ASeq.q rfl rfl (QOp.move rfl rfl) ?_
      refine ASeq.q rfl rfl (QOp.indexI rfl rfl rfl (tok _ rfl) rfl (tok _ rfl) (by omega) (by assumption)) ?_
      refine ASeq.q rfl rfl (QOp.fieldI rfl rfl (tok _ rfl) rfl rfl (by decide) rfl) ?_
      refine ASeq.q rfl rfl (QOp.loadI rfl rfl (tok _ rfl) rfl) ?_
      refine ASeq.q rfl rfl (QOp.assign rfl rfl) ?_
      refine ASeq.nil ?_
      refine ACode.region ?_
      refine ASeq.q rfl rfl (QOp.ar64 rfl rfl rfl rfl ⟨by omega, by omega⟩) ?_
      refine ASeq.q rfl rfl (QOp.move rfl rfl) ?_
      refine ASeq.nil ?_
      refine AExit.then_normal ?_
      exact ⟨(i + 1, _), 1, ⟨hlt, he⟩, by dsimp only; omega, .cons rfl (.cons rfl (.cons rfl (.cons rfl (.cons rfl .nil)))), rfl⟩
    · rw [if_neg (by rw [hb]; decide)] at he
      refine ACode.skip (ACode.region ?_)
      refine ASeq.q rfl rfl (QOp.ar64 rfl rfl rfl rfl ⟨by omega, by omega⟩) ?_
      refine ASeq.q rfl rfl (QOp.move rfl rfl) ?_
      refine ASeq.nil ?_
      refine AExit.then_normal ?_
      exact ⟨(i + 1, _), 1, ⟨hlt, he⟩, by dsimp only; omega, .cons rfl (.cons rfl (.cons rfl (.cons rfl (.cons rfl .nil)))), rfl⟩
  · have hge : i = c.names.length := by have := of_decide_eq_false hb; rw [hml] at this; omega
    refine ACode.exit (ACode.seq (ACode.region ?_))
    refine ASeq.q rfl rfl (QOp.move rfl rfl) ?_
    refine ASeq.q rfl rfl (QOp.assign rfl rfl) ?_
    refine ASeq.nil ?_
    refine ACode.ret ?_
    refine bodyQ_ret 0 (.tmp rfl .nil) rfl ?_
    rw [← he, hge, List.drop_length]; exact .mk
theorem findL_range (s : ByteArray) (k : Nat) : ∀ (l : List Nm) (r : Int), (∀ n ∈ l, 0 ≤ n.slot ∧ n.slot < k) → (r < 0 ∨ r < k) → findL s l r < 0 ∨ findL s l r < k
  | [], r, _, hr => hr
  | n :: l, r, h, hr => by
    simp only [findL]
    refine findL_range s k l _ (fun x hx => h x (by simp [hx])) ?_
    split
    · exact .inr (h n (by simp)).2
    · exact hr
theorem CS.ok.find_lt {c : CS} (h : c.ok) (s : ByteArray) : c.find s < 0 ∨ c.find s < c.cur.length := findL_range s _ _ _ h.nslot (.inl (by decide))
theorem cur_get {c : CS} {n : Int} (h0 : 0 ≤ n) (h1 : n < c.cur.length) : (ints c.cur)[n.toNat]? = some [vi (c.cur.getD n.toNat 0)] := by
  have hl : n.toNat < c.cur.length := by omega
  rw [ints_get hl, List.getD_eq_getElem?_getD, List.getElem?_eq_getElem hl]; rfl
theorem slot_ok (c : CS) (m : Ms) (h : c.ok) (s : ByteArray) (array : Bool) (at_ : Int) (τ : Nat) : ACalls Try.prog 48 [.agg (c.cells m), vs s, .v (.bool array), vi at_] (c.items m τ)
    (RV (.tup [.agg ((c.slotOf s array at_).1.cells m), vi (c.slotOf s array at_).2]) (c.items m τ)) := by
  have hfind := h.find_lt s
  have hcur := slotCells_cur h τ
  have hf0 := h.f0
  have hf1 := h.f1
  have hn := h.names
  have h64 := h.n64
  refine ACalls.of_code (c := _) Try.func48 rfl Try.ntmps48 (Nat.le_of_ble_eq_true rfl) ?_
  refine ACode.seq (ACode.region ?_)
  refine ASeq.op rfl rfl (AOp.boxP rfl rfl rfl (fun _ => rfl) (fun _ => ?_))
  refine ASeq.op rfl rfl (AOp.allocP rfl (tok _ rfl) rfl rfl (fun _ => rfl) (fun _ => ?_))
  refine ASeq.q rfl rfl (QOp.assign rfl rfl) ?_
  refine ASeq.nil ?_
  refine ACode.seq (ACode.region ?_)
  refine ASeq.q rfl rfl (QOp.loadM 6 rfl rfl rfl (tok _ rfl) rfl) ?_
  refine ASeq.q rfl rfl (QOp.move rfl rfl) ?_
  refine ASeq.op rfl rfl (AOp.callP 0 rfl (by kernel_rfl) rfl rfl rfl (find_ok c m s (by omega)) ?_ (by rintro _ _ ⟨⟩))
  rintro _ _ ⟨⟩
  refine ASeq.q rfl rfl (QOp.assign rfl rfl) ?_
  refine ASeq.nil ?_
  refine ACode.seq ?_
  refine ACode.drawn [[], [], [1], [1, 2], [1, 2, 3], [1, 2, 3, 4], [1, 2, 3, 4, 5], [1, 2, 3], [1, 2, 3, 7], [1, 2, 3, 4, 5, 6, 7, 8], [1, 2, 3, 4, 5, 6, 7, 8, 9], [1, 2, 3], [1, 2, 3, 4, 5, 6, 7, 8, 9, 10, 11], [1, 2, 3, 4, 5, 6, 7, 8, 9, 10, 11, 12], [1, 2, 3, 4, 5, 6, 7, 8, 9, 10, 11, 12, 13], [1, 2, 3], [1, 2, 3, 4, 5, 6, 7, 8, 9, 10, 11, 12, 13, 14, 15], [1, 2, 3, 4, 5, 6, 7, 8, 9, 10, 11, 12, 13, 14, 15, 16], [], [0, 1, 2, 3, 4, 5, 6, 7, 8, 9, 10, 11, 12, 13, 14, 15, 16, 17, 18], [], [0, 1, 2, 3, 4, 5, 6, 7, 8, 9, 10, 11, 12, 13, 14, 15, 16, 17, 18, 19], [0, 1, 2, 3, 4, 5, 6, 7, 8, 9, 10, 11, 12, 13, 14, 15, 16, 17, 18, 19, 20, 21]] (by kernel_rfl) mixed ?_
  refine DAny.ld 0 rfl rfl (by kernel_rfl) rfl (.does _ _ rfl (.none rfl) (QOp.loadM 6 rfl rfl rfl (tok _ rfl) rfl)) ?_
  refine DAny.qu 1 rfl rfl (by kernel_rfl) rfl (fun _ => .does _ _ rfl (.none rfl) (QOp.move rfl rfl)) ?_
  refine DAny.qu 2 rfl rfl (by kernel_rfl) rfl (fun _ => .does _ _ rfl (.none rfl) (QOp.cmp rfl rfl rfl rfl)) ?_
  refine DAny.qu 3 rfl rfl (by kernel_rfl) rfl (fun _ => .does _ _ rfl (.none rfl) (QOp.move rfl rfl)) ?_
  refine DAny.qu 18 rfl rfl (by kernel_rfl) rfl (fun _ => .does _ _ rfl (.none rfl) (QOp.move rfl rfl)) ?_
  refine DAny.qu 20 rfl rfl (by kernel_rfl) rfl (fun _ => .does _ _ rfl (.none rfl) (QOp.move rfl rfl)) ?_
  -- STOP at 4 (listed 0,1,2,3,18,20)
  refine DAny.split 17 (decide (c.find s ≥ 0)) rfl (fun hb => ?_) (fun hb => ?_)
  · have hge : 0 ≤ c.find s := by simpa using hb
    have hget := cur_get (c := c) hge (by omega)
    refine DAny.qu 4 rfl rfl (by kernel_rfl) rfl (fun _ => .does _ _ rfl (by exact .yes _ _ _ rfl rfl rfl) (QOp.fieldM rfl rfl (tok _ rfl) rfl rfl (by decide) rfl)) ?_
    refine DAny.qu 5 rfl rfl (by kernel_rfl) rfl (fun _ => .does _ _ rfl (by exact .yes _ _ _ rfl rfl rfl) (QOp.fieldM rfl rfl (tok _ rfl) rfl rfl (by decide) rfl)) ?_
    refine DAny.ld 6 rfl rfl (by kernel_rfl) rfl (.does _ _ rfl (by exact .yes _ _ _ rfl rfl rfl) (QOp.loadM 6 rfl rfl rfl (tok _ rfl) rfl)) ?_
    refine DAny.qu 7 rfl rfl (by kernel_rfl) rfl (fun _ => .does _ _ rfl (by exact .yes _ _ _ rfl rfl rfl) (QOp.fieldM rfl rfl (tok _ rfl) rfl rfl (by decide) rfl)) ?_
    refine DAny.ld 8 rfl rfl (by kernel_rfl) rfl (.does _ _ rfl (by exact .yes _ _ _ rfl rfl rfl) (QOp.loadM 6 rfl rfl rfl (tok _ rfl) rfl)) ?_
    refine DAny.qu 9 rfl rfl (by kernel_rfl) rfl (fun _ => .does _ _ rfl (by exact .yes _ _ _ rfl rfl rfl) (QOp.indexM rfl rfl rfl (tok _ rfl) rfl (tok _ rfl) (by omega) (by omega) rfl)) ?_
    refine DAny.ld 10 rfl rfl (by kernel_rfl) rfl (.does _ _ rfl (by exact .yes _ _ _ rfl rfl rfl) (QOp.loadAt 4 rfl rfl rfl (tok _ rfl) rfl (by assumption))) ?_
    refine DAny.qu 11 rfl rfl (by kernel_rfl) rfl (fun _ => .does _ _ rfl (by exact .yes _ _ _ rfl rfl rfl) (QOp.move rfl rfl)) ?_
    refine DAny.qu 12 rfl rfl (by kernel_rfl) rfl (fun _ => .does _ _ rfl (by exact .yes _ _ _ rfl rfl rfl) (QOp.indexI rfl rfl rfl (tok _ rfl) rfl (tok _ rfl) (by omega) (by assumption))) ?_
    refine DAny.qu 13 rfl rfl (by kernel_rfl) rfl (fun _ => .does _ _ rfl (by exact .yes _ _ _ rfl rfl rfl) (QOp.loadI rfl rfl (tok _ rfl) rfl)) ?_
    refine DAny.qu 14 rfl rfl (by kernel_rfl) rfl (fun _ => .does _ _ rfl (by exact .yes _ _ _ rfl rfl rfl) (QOp.cmp rfl rfl rfl rfl)) ?_
    refine DAny.qu 15 rfl rfl (by kernel_rfl) rfl (fun _ => .does _ _ rfl (by exact .yes _ _ _ rfl rfl rfl) (QOp.move rfl rfl)) ?_
    refine DAny.qu 16 rfl rfl (by kernel_rfl) rfl (fun _ => .does _ _ rfl (by exact .yes _ _ _ rfl rfl rfl) (QOp.cmpBool rfl rfl rfl (tok _ rfl) rfl rfl)) ?_
    refine DAny.qu 17 rfl rfl (by kernel_rfl) rfl (fun _ => .does _ _ rfl (.none rfl) (QOp.pickT rfl rfl rfl)) ?_
    refine DAny.ef 19 rfl (by kernel_rfl) (.none rfl) rfl rfl (AOp.callP 0 rfl (by kernel_rfl) rfl rfl rfl (need_ok c m _ at_ 6) ?_ (by rintro _ _ ⟨⟩))
    rintro _ _ ⟨⟩
    refine ⟨(by ((exact AllQ.nil))), ?_⟩
    refine DAny.ef0 21 rfl (by kernel_rfl) (.none rfl) rfl rfl (AOp.storeP 7 rfl rfl rfl rfl (tok _ rfl) rfl rfl rfl rfl ⟨(by ((exact AllQ.nil))), ?_⟩)
    refine DAny.ef 22 rfl (by kernel_rfl) (.none rfl) rfl rfl (.q (QOp.assign rfl rfl) ⟨(by ((exact AllQ.nil))), ?_⟩)
    refine DAny.done (by kernel_rfl) ?_
    refine ACode.ret ?_
    refine bodyQ_ret 6 (.cell 7 rfl rfl (tok _ rfl) rfl (.tmp rfl .nil)) rfl ?_
    rw [show c.slotOf s array at_ = (c.need ((c.cur.getD (c.find s).toNat 0 == 3) == array) at_ 6, c.find s) by unfold CS.slotOf CS.slotOk; rw [hb]; rfl]
    exact .mk
  · refine DAny.qu 4 rfl rfl (by kernel_rfl) rfl (fun _ => .passed _ rfl (.no _ _ _ rfl rfl rfl rfl)) ?_
    refine DAny.qu 5 rfl rfl (by kernel_rfl) rfl (fun _ => .passed _ rfl (.no _ _ _ rfl rfl rfl rfl)) ?_
    refine DAny.qu 6 rfl rfl (by kernel_rfl) rfl (fun _ => .passed _ rfl (.no _ _ _ rfl rfl rfl rfl)) ?_
    refine DAny.qu 7 rfl rfl (by kernel_rfl) rfl (fun _ => .passed _ rfl (.no _ _ _ rfl rfl rfl rfl)) ?_
    refine DAny.qu 8 rfl rfl (by kernel_rfl) rfl (fun _ => .passed _ rfl (.no _ _ _ rfl rfl rfl rfl)) ?_
    refine DAny.qu 9 rfl rfl (by kernel_rfl) rfl (fun _ => .passed _ rfl (.no _ _ _ rfl rfl rfl rfl)) ?_
    refine DAny.qu 10 rfl rfl (by kernel_rfl) rfl (fun _ => .passed _ rfl (.no _ _ _ rfl rfl rfl rfl)) ?_
    refine DAny.qu 11 rfl rfl (by kernel_rfl) rfl (fun _ => .passed _ rfl (.no _ _ _ rfl rfl rfl rfl)) ?_
    refine DAny.qu 12 rfl rfl (by kernel_rfl) rfl (fun _ => .passed _ rfl (.no _ _ _ rfl rfl rfl rfl)) ?_
    refine DAny.qu 13 rfl rfl (by kernel_rfl) rfl (fun _ => .passed _ rfl (.no _ _ _ rfl rfl rfl rfl)) ?_
    refine DAny.qu 14 rfl rfl (by kernel_rfl) rfl (fun _ => .passed _ rfl (.no _ _ _ rfl rfl rfl rfl)) ?_
    refine DAny.qu 15 rfl rfl (by kernel_rfl) rfl (fun _ => .passed _ rfl (.no _ _ _ rfl rfl rfl rfl)) ?_
    refine DAny.qu 16 rfl rfl (by kernel_rfl) rfl (fun _ => .passed _ rfl (.no _ _ _ rfl rfl rfl rfl)) ?_
    refine DAny.qu 17 rfl rfl (by kernel_rfl) rfl (fun _ => .does _ _ rfl (.none rfl) (QOp.pickF rfl rfl rfl)) ?_
    refine DAny.ef 19 rfl (by kernel_rfl) (.none rfl) rfl rfl (AOp.callP 0 rfl (by kernel_rfl) rfl rfl rfl (need_ok c m _ at_ 6) ?_ (by rintro _ _ ⟨⟩))
    rintro _ _ ⟨⟩
    refine ⟨(by ((exact AllQ.nil))), ?_⟩
    refine DAny.ef0 21 rfl (by kernel_rfl) (.none rfl) rfl rfl (AOp.storeP 7 rfl rfl rfl rfl (tok _ rfl) rfl rfl rfl rfl ⟨(by ((exact AllQ.nil))), ?_⟩)
    refine DAny.ef 22 rfl (by kernel_rfl) (.none rfl) rfl rfl (.q (QOp.assign rfl rfl) ⟨(by ((exact AllQ.nil))), ?_⟩)
    refine DAny.done (by kernel_rfl) ?_
    refine ACode.ret ?_
    refine bodyQ_ret 6 (.cell 7 rfl rfl (tok _ rfl) rfl (.tmp rfl .nil)) rfl ?_
    rw [show c.slotOf s array at_ = (c.need false at_ 6, c.find s) by unfold CS.slotOf CS.slotOk; rw [hb]; rfl]
    exact .mk
end Go.Proofs.Ytaadamobapnfbaa
/- ref06: declare. -/
set_option linter.unusedVariables false
set_option linter.unusedSimpArgs false
set_option maxRecDepth 100000
namespace Go.Proofs.Ytaadamobapnfbaa
open Go Go.Abs
theorem RC.of {m : Ms} {c : CS} {v : Int} {r : AV} {R : List Abs.Item} (τ : Nat) (h1 : r = .tup [.agg (c.cells m), vi v]) (h2 : R = c.items m τ) : RC m c v (.ret r) R := by subst h1; subst h2; exact .mk τ
theorem any_drop (p : Nm → Bool) (l : List Nm) (i : Nat) (b : Bool) (h : i < l.length) : (b || (l.drop i).any p) = ((b || p l[i]) || (l.drop (i + 1)).any p) := by
  rw [List.drop_eq_getElem_cons h, List.any_cons, Bool.or_assoc]
theorem need_code (c : CS) (ok : Bool) (a k : Int) (hk : k ≠ 0) : (c.need ok a k).code = 0 ↔ c.code = 0 ∧ ok = true := by
  unfold CS.need
  split
  · rename_i h; simp [hk, h.2]
  · rename_i h
    constructor
    · intro hc; refine ⟨hc, ?_⟩; cases ok with
      | true => rfl
      | false => exact absurd ⟨hc, rfl⟩ h
    · exact fun h => h.1
theorem need_same (c : CS) (a k : Int) : c.need true a k = c := by unfold CS.need; rw [if_neg (by simp)]
theorem slotCells_set {c : CS} (h : c.ok) (τ τ' : Nat) (l : List Int) : (c.slotCells τ).set (0 + c.f.toNat * 1) (.il 1 (some τ') (ints l)) = (c.slots.set c.f.toNat l).mapIdx (slotCell τ' c.f) := by
  have h0 := h.f0
  have h1 := h.f1
  apply List.ext_getElem?
  intro i
  simp only [CS.slotCells, Nat.zero_add, Nat.mul_one, List.getElem?_mapIdx, List.getElem?_set, List.length_mapIdx]
  by_cases hi : c.f.toNat = i
  · subst hi
    rw [if_pos rfl, if_pos rfl, if_pos (by omega), if_pos (by omega), Option.map_some]
    simp only [slotCell]
    rw [if_pos (by omega)]
  · rw [if_neg hi, if_neg hi]
    cases c.slots[i]? with
    | none => rfl
    | some x =>
      have hne : ¬ (i : Int) = c.f := by omega
      simp only [Option.map_some, slotCell, if_neg hne]
theorem slotCells_len (c : CS) (τ : Nat) : (c.slotCells τ).length = c.slots.length := by simp [CS.slotCells]
theorem nm_rows (l : List Nm) (x : Nm) : ∀ r ∈ l.map Nm.cells ++ [x.cells], r.length = 3 := rows_ok 3 _ _ (fun y hy => by obtain ⟨z, _, rfl⟩ := List.mem_map.1 hy; rfl) rfl
theorem nm_rows' (l : List Nm) : ∀ r ∈ [] ++ l.map Nm.cells, r.length = 3 := fun y hy => by obtain ⟨z, _, rfl⟩ := List.mem_map.1 hy; rfl
set_option maxHeartbeats 4000000 in
theorem declare_ok (c : CS) (m : Ms) (h : c.ok) (s : ByteArray) (kind at_ : Int) (τ : Nat) : ACalls Try.prog 32 [.agg (c.cells m), vs s, vi kind, vi at_] (c.items m τ) (RC m (c.decl s kind at_).1 (c.decl s kind at_).2) := by
  have hcur := slotCells_cur h τ
  have hf0 := h.f0
  have hf1 := h.f1
  have hn := h.names
  have h64 := h.n64
  have hfl : 0 + c.f.toNat * 1 < (c.slotCells τ).length := by rw [slotCells_len]; omega
  have hml : (c.names.map Nm.cells).length = c.names.length := List.length_map ..
  have hil := ints_len c.cur
  refine ACalls.of_code (c := _) Try.func32 rfl Try.ntmps32 (Nat.le_of_ble_eq_true rfl) ?_
  refine ACode.seq (ACode.region ?_)
  refine ASeq.op rfl rfl (AOp.boxP rfl rfl rfl (fun _ => rfl) (fun _ => ?_))
  refine ASeq.op rfl rfl (AOp.allocP rfl (tok _ rfl) rfl rfl (fun _ => rfl) (fun _ => ?_))
  refine ASeq.q rfl rfl (QOp.assign rfl rfl) ?_
  refine ASeq.nil ?_
  rename_i m4 m8
  refine ACode.seq (ACode.region ?_)
  refine ASeq.q rfl rfl (QOp.assign rfl rfl) ?_
  refine ASeq.nil ?_
  refine ACode.seq (ACode.seq (ACode.region ?_))
  refine ASeq.q rfl rfl (QOp.fieldM rfl rfl (tok _ rfl) rfl rfl (by decide) rfl) ?_
  refine ASeq.q rfl rfl (QOp.loadM 6 rfl rfl rfl (tok _ rfl) rfl) ?_
  refine ASeq.q rfl rfl (QOp.lenI rfl rfl (tok _ rfl) rfl) ?_
  refine ASeq.q rfl rfl (QOp.move rfl rfl) ?_
  refine ASeq.nil ?_
  refine ACode.block ?_
  refine ACode.loopP (fun (x : Nat × Bool) => [(1, vs s), (2, vi kind), (3, vi at_), (4, .mp m4 0), (8, .mp m8 0), (10, .v (.bool x.2)), (15, vi ((c.names.map Nm.cells).length : Int)), (16, vi x.1)])
    (fun _ => c.items m τ ++ [.mu m4 (c.cells m), .mu m8 (List.map AV.v (TT 79).zero)]) (fun x => c.names.length - x.1)
    (fun x => x.1 ≤ c.names.length ∧ (x.2 || (c.names.drop x.1).any fun n => (n.text.data.toList == s.data.toList) && (n.block == c.block)) = c.twice s) (0, false) ⟨Nat.zero_le _, by rw [Bool.false_or]; rfl⟩
    (.cons rfl (.cons rfl (.cons rfl (.cons rfl (.cons rfl (.cons rfl (.cons rfl (.cons rfl .nil)))))))) 8 rfl ?_
  rintro ⟨i, tw⟩ ⟨hi, he⟩
  dsimp only at hi he
  refine ACode.seq (ACode.region ?_)
  refine ASeq.q rfl rfl (QOp.cmp rfl rfl rfl rfl) ?_
  refine ASeq.nil ?_
  refine ACode.seq ?_
  refine ACode.cond _ rfl (fun hb => ?_) (fun hb => ?_)
  · have hlt : i < c.names.length := by have := of_decide_eq_true hb; rw [hml] at this; omega
    have hget := nm_get hlt
    rw [any_drop _ _ _ _ hlt] at he
    refine ACode.skip (ACode.seq (ACode.block (ACode.seq (ACode.region ?_))))
    refine ASeq.q rfl rfl (QOp.move rfl rfl) ?_
    refine ASeq.q rfl rfl (QOp.assign rfl rfl) ?_
    refine ASeq.nil ?_
    refine AExit.then_normal ?_
    refine ACode.drawn [[], [0], [0, 1], [0, 1, 2], [0, 1], [0, 1, 2, 3, 4], [0, 1, 2, 3, 4, 5], [0, 1, 2, 3, 4, 5, 6], [0, 1], [0, 1, 2, 3, 4, 5, 6, 7, 8], [0, 1, 2, 3, 4, 5, 6, 7, 8, 9], [0, 1, 2, 3, 4, 5, 6, 7, 8, 9, 10], [0, 1, 2, 3, 4, 5, 6, 7, 8, 9, 10, 11], [0, 1, 2, 3, 4, 5, 6, 7, 8, 9, 10], [0, 1, 2, 3, 4, 5, 6, 7, 8, 9, 10, 11, 12, 13], [0, 1, 2, 3, 4, 5, 6, 7, 8, 9, 10, 11, 12, 13, 14], [0, 1, 2, 3, 4, 5, 6, 7, 8, 9, 10, 11, 12, 13, 14, 15], [0, 1, 2, 3, 4, 5, 6, 7, 8, 9, 10], [0, 1, 2, 3, 4, 5, 6, 7, 8, 9, 10, 17], [0, 1, 2, 3, 4, 5, 6, 7, 8, 9, 10, 11, 12, 13, 14, 15, 16, 17, 18], [0, 1, 2, 3, 4, 5, 6, 7, 8, 9, 10, 11, 12, 13, 14, 15, 16, 17, 18, 19], [0, 1, 2, 3, 4, 5, 6, 7, 8, 9, 10, 11, 12, 13, 14, 15, 16, 17, 18, 19, 20], [0, 1, 2, 3, 4, 5, 6, 7, 8, 9, 10, 11, 12, 13, 14, 15, 16, 17, 18, 19, 20, 21]] (by kernel_rfl) mixed ?_
    refine DAny.qu 0 rfl rfl (by kernel_rfl) rfl (fun _ => .does _ _ rfl (.none rfl) (QOp.move rfl rfl)) ?_
    refine DAny.qu 1 rfl rfl (by kernel_rfl) rfl (fun _ => .does _ _ rfl (.none rfl) (QOp.move rfl rfl)) ?_
    -- STOP at 2 (listed 0,1)
    refine DAny.split 20 tw rfl (fun hw => ?_) (fun hw => ?_)
    · refine DAny.qu 2 rfl rfl (by kernel_rfl) rfl (fun _ => .passed _ rfl (.no _ _ _ rfl rfl rfl rfl)) ?_
      refine DAny.qu 3 rfl rfl (by kernel_rfl) rfl (fun _ => .passed _ rfl (.no _ _ _ rfl rfl rfl rfl)) ?_
      refine DAny.qu 4 rfl rfl (by kernel_rfl) rfl (fun _ => .passed _ rfl (.no _ _ _ rfl rfl rfl rfl)) ?_
      refine DAny.qu 5 rfl rfl (by kernel_rfl) rfl (fun _ => .passed _ rfl (.no _ _ _ rfl rfl rfl rfl)) ?_
      refine DAny.qu 6 rfl rfl (by kernel_rfl) rfl (fun _ => .passed _ rfl (.no _ _ _ rfl rfl rfl rfl)) ?_
      refine DAny.qu 7 rfl rfl (by kernel_rfl) rfl (fun _ => .passed _ rfl (.no _ _ _ rfl rfl rfl rfl)) ?_
      refine DAny.qu 8 rfl rfl (by kernel_rfl) rfl (fun _ => .passed _ rfl (.no _ _ _ rfl rfl rfl rfl)) ?_
      refine DAny.qu 9 rfl rfl (by kernel_rfl) rfl (fun _ => .passed _ rfl (.no _ _ _ rfl rfl rfl rfl)) ?_
      refine DAny.qu 10 rfl rfl (by kernel_rfl) rfl (fun _ => .passed _ rfl (.no _ _ _ rfl rfl rfl rfl)) ?_
      refine DAny.qu 11 rfl rfl (by kernel_rfl) rfl (fun _ => .passed _ rfl (.no _ _ _ rfl rfl rfl rfl)) ?_
      refine DAny.qu 12 rfl rfl (by kernel_rfl) rfl (fun _ => .passed _ rfl (.no _ _ _ rfl rfl rfl rfl)) ?_
      refine DAny.qu 13 rfl rfl (by kernel_rfl) rfl (fun _ => .passed _ rfl (.no _ _ _ rfl rfl rfl rfl)) ?_
      refine DAny.qu 14 rfl rfl (by kernel_rfl) rfl (fun _ => .passed _ rfl (.no _ _ _ rfl rfl rfl rfl)) ?_
      refine DAny.qu 15 rfl rfl (by kernel_rfl) rfl (fun _ => .passed _ rfl (.no _ _ _ rfl rfl rfl rfl)) ?_
      refine DAny.qu 16 rfl rfl (by kernel_rfl) rfl (fun _ => .passed _ rfl (.no _ _ _ rfl rfl rfl rfl)) ?_
      refine DAny.qu 17 rfl rfl (by kernel_rfl) rfl (fun _ => .passed _ rfl (.no _ _ _ rfl rfl rfl rfl)) ?_
      refine DAny.qu 18 rfl rfl (by kernel_rfl) rfl (fun _ => .passed _ rfl (.no _ _ _ rfl rfl rfl rfl)) ?_
      refine DAny.qu 19 rfl rfl (by kernel_rfl) rfl (fun _ => .passed _ rfl (.no _ _ _ rfl rfl rfl rfl)) ?_
      refine DAny.qu 20 rfl rfl (by kernel_rfl) rfl (fun _ => .passed _ rfl (.no _ _ _ rfl rfl rfl rfl)) ?_
      refine DAny.qu 21 rfl rfl (by kernel_rfl) rfl (fun _ => .does _ _ rfl (.none rfl) (QOp.pickT rfl rfl rfl)) ?_
      refine DAny.ef 22 rfl (by kernel_rfl) (.none rfl) rfl rfl (.q (QOp.assign rfl rfl) ⟨(by ((exact AllQ.nil))), ?_⟩)
      refine DAny.done (by kernel_rfl) ?_
      refine ACode.region ?_
      refine ASeq.q rfl rfl (QOp.ar64 rfl rfl rfl rfl ⟨by omega, by omega⟩) ?_
      refine ASeq.q rfl rfl (QOp.move rfl rfl) ?_
      refine ASeq.nil ?_
      refine AExit.then_normal ?_
      rw [hw] at he
      exact ⟨(i + 1, true), 8, ⟨hlt, he⟩, by dsimp only; omega, .cons rfl (.cons rfl (.cons rfl (.cons rfl (.cons rfl (.cons rfl (.cons rfl (.cons rfl .nil))))))), rfl⟩
    · rw [hw, Bool.false_or] at he
      refine DAny.qu 2 rfl rfl (by kernel_rfl) rfl (fun _ => .does _ _ rfl (by exact .yes _ _ _ rfl rfl rfl) (QOp.fieldM rfl rfl (tok _ rfl) rfl rfl (by decide) rfl)) ?_
      refine DAny.ld 3 rfl rfl (by kernel_rfl) rfl (.does _ _ rfl (by exact .yes _ _ _ rfl rfl rfl) (QOp.loadM 6 rfl rfl rfl (tok _ rfl) rfl)) ?_
      refine DAny.qu 4 rfl rfl (by kernel_rfl) rfl (fun _ => .does _ _ rfl (by exact .yes _ _ _ rfl rfl rfl) (QOp.move rfl rfl)) ?_
      refine DAny.qu 5 rfl rfl (by kernel_rfl) rfl (fun _ => .does _ _ rfl (by exact .yes _ _ _ rfl rfl rfl) (QOp.indexI rfl rfl rfl (tok _ rfl) rfl (tok _ rfl) (by omega) (by assumption))) ?_
      refine DAny.qu 6 rfl rfl (by kernel_rfl) rfl (fun _ => .does _ _ rfl (by exact .yes _ _ _ rfl rfl rfl) (QOp.fieldI rfl rfl (tok _ rfl) rfl rfl (by decide) rfl)) ?_
      refine DAny.qu 7 rfl rfl (by kernel_rfl) rfl (fun _ => .does _ _ rfl (by exact .yes _ _ _ rfl rfl rfl) (QOp.loadI rfl rfl (tok _ rfl) rfl)) ?_
      refine DAny.qu 8 rfl rfl (by kernel_rfl) rfl (fun _ => .does _ _ rfl (by exact .yes _ _ _ rfl rfl rfl) (QOp.move rfl rfl)) ?_
      refine DAny.qu 9 rfl rfl (by kernel_rfl) rfl (fun _ => .does _ _ rfl (by exact .yes _ _ _ rfl rfl rfl) (QOp.cmpStr rfl rfl rfl rfl)) ?_
      refine DAny.qu 10 rfl rfl (by kernel_rfl) rfl (fun _ => .does _ _ rfl (by exact .yes _ _ _ rfl rfl rfl) (QOp.move rfl rfl)) ?_
      -- STOP at 11 (listed 0,1,2,3,4,5,6,7,8,9,10)
      refine DAny.split 29 (c.names[i].text.data.toList == s.data.toList) rfl (fun hw => ?_) (fun hw => ?_)
      · rw [hw, Bool.true_and] at he
        refine DAny.qu 11 rfl rfl (by kernel_rfl) rfl (fun _ => .does _ _ rfl (by exact .yes _ _ _ rfl rfl rfl) (QOp.fieldM rfl rfl (tok _ rfl) rfl rfl (by decide) rfl)) ?_
        refine DAny.ld 12 rfl rfl (by kernel_rfl) rfl (.does _ _ rfl (by exact .yes _ _ _ rfl rfl rfl) (QOp.loadM 6 rfl rfl rfl (tok _ rfl) rfl)) ?_
        refine DAny.qu 13 rfl rfl (by kernel_rfl) rfl (fun _ => .does _ _ rfl (by exact .yes _ _ _ rfl rfl rfl) (QOp.move rfl rfl)) ?_
        refine DAny.qu 14 rfl rfl (by kernel_rfl) rfl (fun _ => .does _ _ rfl (by exact .yes _ _ _ rfl rfl rfl) (QOp.indexI rfl rfl rfl (tok _ rfl) rfl (tok _ rfl) (by omega) (by assumption))) ?_
        refine DAny.qu 15 rfl rfl (by kernel_rfl) rfl (fun _ => .does _ _ rfl (by exact .yes _ _ _ rfl rfl rfl) (QOp.fieldI rfl rfl (tok _ rfl) rfl rfl (by decide) rfl)) ?_
        refine DAny.qu 16 rfl rfl (by kernel_rfl) rfl (fun _ => .does _ _ rfl (by exact .yes _ _ _ rfl rfl rfl) (QOp.loadI rfl rfl (tok _ rfl) rfl)) ?_
        refine DAny.qu 17 rfl rfl (by kernel_rfl) rfl (fun _ => .does _ _ rfl (by exact .yes _ _ _ rfl rfl rfl) (QOp.fieldM rfl rfl (tok _ rfl) rfl rfl (by decide) rfl)) ?_
        refine DAny.ld 18 rfl rfl (by kernel_rfl) rfl (.does _ _ rfl (by exact .yes _ _ _ rfl rfl rfl) (QOp.loadM 6 rfl rfl rfl (tok _ rfl) rfl)) ?_
        refine DAny.qu 19 rfl rfl (by kernel_rfl) rfl (fun _ => .does _ _ rfl (by exact .yes _ _ _ rfl rfl rfl) (QOp.cmp rfl rfl rfl rfl)) ?_
        refine DAny.qu 20 rfl rfl (by kernel_rfl) rfl (fun _ => .does _ _ rfl (by exact .yes _ _ _ rfl rfl rfl) (QOp.pickT rfl rfl rfl)) ?_
        refine DAny.qu 21 rfl rfl (by kernel_rfl) rfl (fun _ => .does _ _ rfl (.none rfl) (QOp.pickF rfl rfl rfl)) ?_
        refine DAny.ef 22 rfl (by kernel_rfl) (.none rfl) rfl rfl (.q (QOp.assign rfl rfl) ⟨(by ((exact AllQ.nil))), ?_⟩)
        refine DAny.done (by kernel_rfl) ?_
        refine ACode.region ?_
        refine ASeq.q rfl rfl (QOp.ar64 rfl rfl rfl rfl ⟨by omega, by omega⟩) ?_
        refine ASeq.q rfl rfl (QOp.move rfl rfl) ?_
        refine ASeq.nil ?_
        refine AExit.then_normal ?_
        exact ⟨(i + 1, _), 8, ⟨hlt, he⟩, by dsimp only; omega, .cons rfl (.cons rfl (.cons rfl (.cons rfl (.cons rfl (.cons rfl (.cons rfl (.cons rfl .nil))))))), rfl⟩
      · rw [hw, Bool.false_and] at he
        refine DAny.qu 11 rfl rfl (by kernel_rfl) rfl (fun _ => .passed _ rfl (.no _ _ _ rfl rfl rfl rfl)) ?_
        refine DAny.qu 12 rfl rfl (by kernel_rfl) rfl (fun _ => .passed _ rfl (.no _ _ _ rfl rfl rfl rfl)) ?_
        refine DAny.qu 13 rfl rfl (by kernel_rfl) rfl (fun _ => .passed _ rfl (.no _ _ _ rfl rfl rfl rfl)) ?_
        refine DAny.qu 14 rfl rfl (by kernel_rfl) rfl (fun _ => .passed _ rfl (.no _ _ _ rfl rfl rfl rfl)) ?_
        refine DAny.qu 15 rfl rfl (by kernel_rfl) rfl (fun _ => .passed _ rfl (.no _ _ _ rfl rfl rfl rfl)) ?_
        refine DAny.qu 16 rfl rfl (by kernel_rfl) rfl (fun _ => .passed _ rfl (.no _ _ _ rfl rfl rfl rfl)) ?_
        refine DAny.qu 17 rfl rfl (by kernel_rfl) rfl (fun _ => .passed _ rfl (.no _ _ _ rfl rfl rfl rfl)) ?_
        refine DAny.qu 18 rfl rfl (by kernel_rfl) rfl (fun _ => .passed _ rfl (.no _ _ _ rfl rfl rfl rfl)) ?_
        refine DAny.qu 19 rfl rfl (by kernel_rfl) rfl (fun _ => .passed _ rfl (.no _ _ _ rfl rfl rfl rfl)) ?_
        refine DAny.qu 20 rfl rfl (by kernel_rfl) rfl (fun _ => .does _ _ rfl (by exact .yes _ _ _ rfl rfl rfl) (QOp.pickF rfl rfl rfl)) ?_
        refine DAny.qu 21 rfl rfl (by kernel_rfl) rfl (fun _ => .does _ _ rfl (.none rfl) (QOp.pickF rfl rfl rfl)) ?_
        refine DAny.ef 22 rfl (by kernel_rfl) (.none rfl) rfl rfl (.q (QOp.assign rfl rfl) ⟨(by ((exact AllQ.nil))), ?_⟩)
        refine DAny.done (by kernel_rfl) ?_
        refine ACode.region ?_
        refine ASeq.q rfl rfl (QOp.ar64 rfl rfl rfl rfl ⟨by omega, by omega⟩) ?_
        refine ASeq.q rfl rfl (QOp.move rfl rfl) ?_
        refine ASeq.nil ?_
        refine AExit.then_normal ?_
        exact ⟨(i + 1, _), 8, ⟨hlt, he⟩, by dsimp only; omega, .cons rfl (.cons rfl (.cons rfl (.cons rfl (.cons rfl (.cons rfl (.cons rfl (.cons rfl .nil))))))), rfl⟩
  have hge : i = c.names.length := by have := of_decide_eq_false hb; rw [hml] at this; omega
  have htw : tw = c.twice s := by rw [← he, hge, List.drop_length]; simp
  rw [htw]
  refine ACode.exit (ACode.seq (ACode.region ?_))
  refine ASeq.q rfl rfl (QOp.fieldM rfl rfl (tok _ rfl) rfl rfl (by decide) rfl) ?_
  refine ASeq.q rfl rfl (QOp.fieldM rfl rfl (tok _ rfl) rfl rfl (by decide) rfl) ?_
  refine ASeq.q rfl rfl (QOp.loadM 6 rfl rfl rfl (tok _ rfl) rfl) ?_
  refine ASeq.q rfl rfl (QOp.fieldM rfl rfl (tok _ rfl) rfl rfl (by decide) rfl) ?_
  refine ASeq.q rfl rfl (QOp.loadM 6 rfl rfl rfl (tok _ rfl) rfl) ?_
  refine ASeq.q rfl rfl (QOp.indexM rfl rfl rfl (tok _ rfl) rfl (tok _ rfl) (by omega) (by omega) rfl) ?_
  refine ASeq.q rfl rfl (QOp.loadAt 4 rfl rfl rfl (tok _ rfl) rfl (by assumption)) ?_
  refine ASeq.q rfl rfl (QOp.lenI rfl rfl (tok _ rfl) rfl) ?_
  refine ASeq.q rfl rfl (QOp.assign rfl rfl) ?_
  refine ASeq.nil ?_
  rw [hil]
  refine ACode.seq (ACode.region ?_)
  refine ASeq.q rfl rfl (QOp.loadM 6 rfl rfl rfl (tok _ rfl) rfl) ?_
  refine ASeq.q rfl rfl (QOp.move rfl rfl) ?_
  refine ASeq.q rfl rfl (QOp.not rfl rfl) ?_
  refine ASeq.q rfl rfl (QOp.move rfl rfl) ?_
  refine ASeq.op rfl rfl (AOp.callP 0 rfl (by kernel_rfl) rfl rfl rfl (need_ok c m _ at_ 7) ?_ (by rintro _ _ ⟨⟩))
  rintro _ _ ⟨⟩
  refine ASeq.q rfl rfl (QOp.move rfl rfl) ?_
  refine ASeq.q rfl rfl (QOp.cmp rfl rfl rfl rfl) ?_
  refine ASeq.q rfl rfl (QOp.move rfl rfl) ?_
  refine ASeq.op rfl rfl (AOp.callP 0 rfl (by kernel_rfl) rfl rfl rfl (need_ok _ m _ at_ 5) ?_ (by rintro _ _ ⟨⟩))
  rintro _ _ ⟨⟩
  refine ASeq.op0 rfl rfl (AOp.storeP 6 rfl rfl rfl rfl (tok _ rfl) rfl rfl rfl rfl ?_)
  refine ASeq.nil ?_
  refine ACode.seq (ACode.seq (ACode.region ?_))
  refine ASeq.q rfl rfl (QOp.fieldM rfl rfl (tok _ rfl) rfl rfl (by decide) rfl) ?_
  refine ASeq.q rfl rfl (QOp.loadM 6 rfl rfl rfl (tok _ rfl) rfl) ?_
  refine ASeq.q rfl rfl (QOp.cmp rfl rfl rfl rfl) ?_
  refine ASeq.nil ?_
  refine AExit.then_normal ?_
  refine ACode.cond _ rfl (fun hb => ?_) (fun hb => ?_)
  · have hc : ((c.need (!c.twice s) at_ 7).need (decide ((c.cur.length : Int) < 64)) at_ 5).code ≠ 0 := by simpa using hb
    refine ACode.seq (ACode.region ?_)
    refine ASeq.q rfl rfl (QOp.loadM 6 rfl rfl rfl (tok _ rfl) rfl) ?_
    refine ASeq.op0 rfl rfl (AOp.storeP 7 rfl rfl rfl rfl (tok _ rfl) rfl rfl rfl rfl ?_)
    refine ASeq.q rfl rfl (QOp.assign rfl rfl) ?_
    refine ASeq.nil ?_
    refine ACode.ret (AExit.then_ret ?_)
    refine bodyQ_ret 6 (.cell 7 rfl rfl (tok _ rfl) rfl (.tmp rfl .nil)) rfl ?_
    rw [show c.decl s kind at_ = ((c.need (!c.twice s) at_ 7).need (decide ((c.cur.length : Int) < 64)) at_ 5, -1) by unfold CS.decl; rw [if_pos hc]]
    refine RC.of τ rfl ?_
    unfold CS.need
    repeat' split
    all_goals rfl
  have hc : ((c.need (!c.twice s) at_ 7).need (decide ((c.cur.length : Int) < 64)) at_ 5).code = 0 := by simpa using hb
  have hc2 := (need_code _ _ _ _ (by decide)).1 hc
  have hc3 := (need_code _ _ _ _ (by decide)).1 hc2.1
  have hsame : (c.need (!c.twice s) at_ 7).need (decide ((c.cur.length : Int) < 64)) at_ 5 = c := by rw [hc2.2, hc3.2, need_same, need_same]
  have hdec : c.decl s kind at_ = ({ c with slots := c.slots.set c.f.toNat (c.cur ++ [kind]), names := c.names ++ [⟨s, c.block, c.cur.length⟩] }, (c.cur.length : Int)) := by
    unfold CS.decl; rw [if_neg (fun h => h hc)]
  have hlt64 : c.cur.length < 64 := by have := of_decide_eq_true hc2.2; omega
  rw [hsame]
  refine ACode.skip (ACode.seq ?_)
  refine ACode.drawn [[], [0], [0, 1], [], [3], [], [5], [5, 6], [], [8], [5, 6, 7, 8, 9], [5, 6, 7, 8, 9, 10], [], [12], [5, 6, 7, 8, 9, 10, 11, 12, 13], [0, 1, 2, 3, 4, 5, 6, 7, 8, 9, 10, 11, 12, 13, 14], [0, 1, 2, 3, 4, 5, 6, 7, 8, 9, 10, 11, 12, 13, 14, 15]] (by kernel_rfl) mixed ?_
  refine DAny.qu 0 rfl rfl (by kernel_rfl) rfl (fun _ => .does _ _ rfl (.none rfl) (QOp.fieldM rfl rfl (tok _ rfl) rfl rfl (by decide) rfl)) ?_
  refine DAny.qu 1 rfl rfl (by kernel_rfl) rfl (fun _ => .does _ _ rfl (.none rfl) (QOp.fieldM rfl rfl (tok _ rfl) rfl rfl (by decide) rfl)) ?_
  refine DAny.ld 2 rfl rfl (by kernel_rfl) rfl (.does _ _ rfl (.none rfl) (QOp.loadM 6 rfl rfl rfl (tok _ rfl) rfl)) ?_
  refine DAny.qu 3 rfl rfl (by kernel_rfl) rfl (fun _ => .does _ _ rfl (.none rfl) (QOp.fieldM rfl rfl (tok _ rfl) rfl rfl (by decide) rfl)) ?_
  refine DAny.ld 4 rfl rfl (by kernel_rfl) rfl (.does _ _ rfl (.none rfl) (QOp.loadM 6 rfl rfl rfl (tok _ rfl) rfl)) ?_
  refine DAny.qu 5 rfl rfl (by kernel_rfl) rfl (fun _ => .does _ _ rfl (.none rfl) (QOp.fieldM rfl rfl (tok _ rfl) rfl rfl (by decide) rfl)) ?_
  refine DAny.qu 6 rfl rfl (by kernel_rfl) rfl (fun _ => .does _ _ rfl (.none rfl) (QOp.fieldM rfl rfl (tok _ rfl) rfl rfl (by decide) rfl)) ?_
  refine DAny.ld 7 rfl rfl (by kernel_rfl) rfl (.does _ _ rfl (.none rfl) (QOp.loadM 6 rfl rfl rfl (tok _ rfl) rfl)) ?_
  refine DAny.qu 8 rfl rfl (by kernel_rfl) rfl (fun _ => .does _ _ rfl (.none rfl) (QOp.fieldM rfl rfl (tok _ rfl) rfl rfl (by decide) rfl)) ?_
  refine DAny.ld 9 rfl rfl (by kernel_rfl) rfl (.does _ _ rfl (.none rfl) (QOp.loadM 6 rfl rfl rfl (tok _ rfl) rfl)) ?_
  refine DAny.qu 10 rfl rfl (by kernel_rfl) rfl (fun _ => .does _ _ rfl (.none rfl) (QOp.indexM rfl rfl rfl (tok _ rfl) rfl (tok _ rfl) (by omega) (by omega) rfl)) ?_
  refine DAny.ld 11 rfl rfl (by kernel_rfl) rfl (.does _ _ rfl (.none rfl) (QOp.loadAt 4 rfl rfl rfl (tok _ rfl) rfl (by assumption))) ?_
  refine DAny.qu 12 rfl rfl (by kernel_rfl) rfl (fun _ => .does _ _ rfl (.none rfl) (QOp.move rfl rfl)) ?_
  refine DAny.ef 13 rfl (by kernel_rfl) (.none rfl) rfl rfl (AOp.buildSliceR rfl (tok _ rfl) rfl (tok _ rfl) (by decide) rfl (by decide) rfl rfl rfl rfl ⟨(by ((refine AllQ.cons (.does _ _ rfl (.none rfl) (QOp.loadAt 4 rfl rfl rfl (tok _ rfl) rfl (by assumption))) ?_); (refine AllQ.cons (.does _ _ rfl (.none rfl) (QOp.loadM 6 rfl rfl rfl (tok _ rfl) rfl)) ?_); (refine AllQ.cons (.does _ _ rfl (.none rfl) (QOp.loadM 6 rfl rfl rfl (tok _ rfl) rfl)) ?_); (refine AllQ.cons (.does _ _ rfl (.none rfl) (QOp.loadM 6 rfl rfl rfl (tok _ rfl) rfl)) ?_); (refine AllQ.cons (.does _ _ rfl (.none rfl) (QOp.loadM 6 rfl rfl rfl (tok _ rfl) rfl)) ?_); (exact AllQ.nil))), ?_⟩)
  refine DAny.ef 14 rfl (by kernel_rfl) (.none rfl) rfl rfl (AOp.appendP 5 (e := 3) (tde := TT 3) rfl rfl rfl rfl (tok _ rfl) rfl (tok _ rfl) (tok _ rfl) rfl (by decide) rfl rfl (fun _ => rfl) (ints_rows c.cur kind) (by simp only [ints_len, List.length_cons, List.length_nil]; omega) rfl (fun _ => ⟨(by ((refine AllQ.cons (.does _ _ rfl (.none rfl) (QOp.loadM 6 rfl rfl rfl (tok _ rfl) rfl)) ?_); (refine AllQ.cons (.does _ _ rfl (.none rfl) (QOp.loadM 6 rfl rfl rfl (tok _ rfl) rfl)) ?_); (exact AllQ.nil))), ?_⟩))
  refine DAny.qu 15 rfl rfl (by kernel_rfl) rfl (fun _ => .does _ _ rfl (.none rfl) (QOp.indexM rfl rfl rfl (tok _ rfl) rfl (tok _ rfl) (by omega) (by omega) rfl)) ?_
  refine DAny.ef0 16 rfl (by kernel_rfl) (.none rfl) rfl rfl (AOp.storeAt 4 rfl rfl rfl rfl (tok _ rfl) rfl rfl (by assumption) rfl ⟨(by ((exact AllQ.nil))), ?_⟩)
  refine DAny.done (by kernel_rfl) ?_
  rename_i τ'
  have hnm : ∀ τ'' : Nat, AV.Le (.il 3 (some τ'') (c.names.map Nm.cells ++ [[vs s, vi c.block, vi c.cur.length]])) (.il 3 none ((c.names ++ [(⟨s, c.block, c.cur.length⟩ : Nm)]).map Nm.cells)) := fun τ'' => by
    rw [List.map_append]; exact .tok 3 _ _
  have hsl : AV.Le (.sl 1 m.mL 0 c.slots.length) (.sl 1 m.mL 0 (c.slots.set c.f.toNat (c.cur ++ [kind])).length) := by rw [List.length_set]; exact .refl _
  refine ACode.seq ?_
  refine ACode.drawn [[], [], [1], [0, 1, 2], [], [], [5], [], [4, 5, 6, 7], [4, 5, 6, 7, 8], [0, 1, 2, 3, 4, 5, 6, 7, 8, 9], [0, 1, 2, 3, 4, 5, 6, 7, 8, 9, 10], [0, 1, 2, 3, 4, 5, 6, 7, 8, 9, 10, 11]] (by kernel_rfl) mixed ?_
  refine DAny.qu 1 rfl rfl (by kernel_rfl) rfl (fun _ => .does _ _ rfl (.none rfl) (QOp.fieldM rfl rfl (tok _ rfl) rfl rfl (by decide) rfl)) ?_
  refine DAny.ld 2 rfl rfl (by kernel_rfl) rfl (.does _ _ rfl (.none rfl) (QOp.loadM 6 rfl rfl rfl (tok _ rfl) rfl)) ?_
  refine DAny.qu 4 rfl rfl (by kernel_rfl) rfl (fun _ => .does _ _ rfl (.none rfl) (QOp.move rfl rfl)) ?_
  refine DAny.qu 5 rfl rfl (by kernel_rfl) rfl (fun _ => .does _ _ rfl (.none rfl) (QOp.fieldM rfl rfl (tok _ rfl) rfl rfl (by decide) rfl)) ?_
  refine DAny.ld 6 rfl rfl (by kernel_rfl) rfl (.does _ _ rfl (.none rfl) (QOp.loadM 6 rfl rfl rfl (tok _ rfl) rfl)) ?_
  refine DAny.qu 7 rfl rfl (by kernel_rfl) rfl (fun _ => .does _ _ rfl (.none rfl) (QOp.move rfl rfl)) ?_
  refine DAny.qu 8 rfl rfl (by kernel_rfl) rfl (fun _ => .does _ _ rfl (.none rfl) (QOp.build rfl (tok _ rfl) rfl rfl rfl rfl rfl)) ?_
  -- STOP at effects [0, 9] (listed 1,2,4,5,6,7,8)
  refine DAny.two 0 9 rfl rfl (by kernel_rfl) (.none rfl) (.none rfl) rfl rfl rfl rfl (AOp.litT rfl (tok _ rfl) rfl (tok _ rfl) (by decide) rfl (by decide) rfl rfl rfl rfl (fun _ => rfl) (fun τn => ⟨(by ((refine AllQ.cons (.does _ _ rfl (.none rfl) (QOp.loadM 6 rfl rfl rfl (tok _ rfl) rfl)) ?_); (refine AllQ.cons (.does _ _ rfl (.none rfl) (QOp.loadM 6 rfl rfl rfl (tok _ rfl) rfl)) ?_); (exact AllQ.nil))), ?_⟩)) (AOp.buildSliceR rfl (tok _ rfl) rfl (tok _ rfl) (by decide) rfl (by decide) rfl rfl rfl rfl ⟨(by ((refine AllQ.cons (.does _ _ rfl (.none rfl) (QOp.loadM 6 rfl rfl rfl (tok _ rfl) rfl)) ?_); (exact AllQ.nil))), ?_⟩)
  · refine DAny.two 3 9 rfl rfl (by kernel_rfl) (.none rfl) (.none rfl) rfl rfl rfl rfl (AOp.appendP 8 (e := 111) (tde := TT 111) rfl rfl rfl rfl (tok _ rfl) rfl (tok _ rfl) (tok _ rfl) rfl (by decide) rfl rfl (fun _ => rfl) (nm_rows' c.names) (by simp only [hml, List.length_nil]; omega) rfl (fun _ => ⟨(by ((refine AllQ.cons (.does _ _ rfl (.none rfl) (QOp.loadM 6 rfl rfl rfl (tok _ rfl) rfl)) ?_); (exact AllQ.nil))), ?_⟩)) (AOp.buildSliceR rfl (tok _ rfl) rfl (tok _ rfl) (by decide) rfl (by decide) rfl rfl rfl rfl ⟨(by ((refine AllQ.cons (.does _ _ rfl (.none rfl) (QOp.loadM 6 rfl rfl rfl (tok _ rfl) rfl)) ?_); (exact AllQ.nil))), ?_⟩)
    · refine DAny.ef 9 rfl (by kernel_rfl) (.none rfl) rfl rfl (AOp.buildSliceR rfl (tok _ rfl) rfl (tok _ rfl) (by decide) rfl (by decide) rfl rfl rfl rfl ⟨(by ((exact AllQ.nil))), ?_⟩)
      refine DAny.ef 10 rfl (by kernel_rfl) (.none rfl) rfl rfl (AOp.appendP 8 (e := 111) (tde := TT 111) rfl rfl rfl rfl (tok _ rfl) rfl (tok _ rfl) (tok _ rfl) rfl (by decide) rfl rfl (fun _ => rfl) (nm_rows c.names ⟨s, c.block, c.cur.length⟩) (by simp only [hml, List.length_append, List.length_cons, List.length_nil]; omega) rfl (fun _ => ⟨(by ((exact AllQ.nil))), ?_⟩))
      refine DAny.qu 11 rfl rfl (by kernel_rfl) rfl (fun _ => .does _ _ rfl (.none rfl) (QOp.fieldM rfl rfl (tok _ rfl) rfl rfl (by decide) rfl)) ?_
      refine DAny.ef0 12 rfl (by kernel_rfl) (.none rfl) rfl rfl (AOp.storeP 6 rfl rfl rfl rfl (tok _ rfl) rfl rfl rfl rfl ⟨(by ((exact AllQ.nil))), ?_⟩)
      refine DAny.done (by kernel_rfl) ?_
      refine ACode.seq (ACode.region ?_)
      refine ASeq.cells (cells' := ({ c with slots := c.slots.set c.f.toNat (c.cur ++ [kind]), names := c.names ++ [⟨s, c.block, c.cur.length⟩] } : CS).cells m) [_, _, _, _, _, _] [_, _] rfl
        (.cons (.refl _) (.cons (.refl _) (.cons (.refl _) (.cons (.refl _) (.cons (.refl _) (.cons (.refl _) (.cons (.refl _) (.cons hsl (.cons (.refl _) (.cons (hnm _) (.cons (.refl _) (.cons (.refl _) (.cons (.refl _) (.cons (.refl _) .nil)))))))))))))) ?_
      refine ASeq.q rfl rfl (QOp.loadM 6 rfl rfl rfl (tok _ rfl) rfl) ?_
      refine ASeq.q rfl rfl (QOp.move rfl rfl) ?_
      refine ASeq.op0 rfl rfl (AOp.storeP 7 rfl rfl rfl rfl (tok _ rfl) rfl rfl rfl rfl ?_)
      refine ASeq.q rfl rfl (QOp.assign rfl rfl) ?_
      refine ASeq.nil ?_
      refine ACode.ret ?_
      refine bodyQ_ret 6 (.cell 7 rfl rfl (tok _ rfl) rfl (.tmp rfl .nil)) rfl ?_
      rw [hdec]
      refine RC.of τ' ?_ ?_
      · rfl
      · rw [ints_snoc]
        exact congrArg (fun x => [Abs.Item.mu m.mT (c.type.map vi), Abs.Item.mu m.mS (c.slot.map vi), Abs.Item.mu m.mP (c.put.map vi), Abs.Item.mu m.mF (c.func.map vi), Abs.Item.mu m.mL x, Abs.Item.tk τ']) (slotCells_set h τ τ' (c.cur ++ [kind]))
    · refine DAny.ef 3 rfl (by kernel_rfl) (.none rfl) rfl rfl (AOp.appendP 8 (e := 111) (tde := TT 111) rfl rfl rfl rfl (tok _ rfl) rfl (tok _ rfl) (tok _ rfl) rfl (by decide) rfl rfl (fun _ => rfl) (nm_rows' c.names) (by simp only [hml, List.length_nil]; omega) rfl (fun _ => ⟨(by ((exact AllQ.nil))), ?_⟩))
      refine DAny.ef 10 rfl (by kernel_rfl) (.none rfl) rfl rfl (AOp.appendP 8 (e := 111) (tde := TT 111) rfl rfl rfl rfl (tok _ rfl) rfl (tok _ rfl) (tok _ rfl) rfl (by decide) rfl rfl (fun _ => rfl) (nm_rows c.names ⟨s, c.block, c.cur.length⟩) (by simp only [hml, List.length_append, List.length_cons, List.length_nil]; omega) rfl (fun _ => ⟨(by ((exact AllQ.nil))), ?_⟩))
      refine DAny.qu 11 rfl rfl (by kernel_rfl) rfl (fun _ => .does _ _ rfl (.none rfl) (QOp.fieldM rfl rfl (tok _ rfl) rfl rfl (by decide) rfl)) ?_
      refine DAny.ef0 12 rfl (by kernel_rfl) (.none rfl) rfl rfl (AOp.storeP 6 rfl rfl rfl rfl (tok _ rfl) rfl rfl rfl rfl ⟨(by ((exact AllQ.nil))), ?_⟩)
      refine DAny.done (by kernel_rfl) ?_
      refine ACode.seq (ACode.region ?_)
      refine ASeq.cells (cells' := ({ c with slots := c.slots.set c.f.toNat (c.cur ++ [kind]), names := c.names ++ [⟨s, c.block, c.cur.length⟩] } : CS).cells m) [_, _, _, _, _, _] [_, _] rfl
        (.cons (.refl _) (.cons (.refl _) (.cons (.refl _) (.cons (.refl _) (.cons (.refl _) (.cons (.refl _) (.cons (.refl _) (.cons hsl (.cons (.refl _) (.cons (hnm _) (.cons (.refl _) (.cons (.refl _) (.cons (.refl _) (.cons (.refl _) .nil)))))))))))))) ?_
      refine ASeq.q rfl rfl (QOp.loadM 6 rfl rfl rfl (tok _ rfl) rfl) ?_
      refine ASeq.q rfl rfl (QOp.move rfl rfl) ?_
      refine ASeq.op0 rfl rfl (AOp.storeP 7 rfl rfl rfl rfl (tok _ rfl) rfl rfl rfl rfl ?_)
      refine ASeq.q rfl rfl (QOp.assign rfl rfl) ?_
      refine ASeq.nil ?_
      refine ACode.ret ?_
      refine bodyQ_ret 6 (.cell 7 rfl rfl (tok _ rfl) rfl (.tmp rfl .nil)) rfl ?_
      rw [hdec]
      refine RC.of τ' ?_ ?_
      · rfl
      · rw [ints_snoc]
        exact congrArg (fun x => [Abs.Item.mu m.mT (c.type.map vi), Abs.Item.mu m.mS (c.slot.map vi), Abs.Item.mu m.mP (c.put.map vi), Abs.Item.mu m.mF (c.func.map vi), Abs.Item.mu m.mL x, Abs.Item.tk τ']) (slotCells_set h τ τ' (c.cur ++ [kind]))
  · refine DAny.ef 0 rfl (by kernel_rfl) (.none rfl) rfl rfl (AOp.litT rfl (tok _ rfl) rfl (tok _ rfl) (by decide) rfl (by decide) rfl rfl rfl rfl (fun _ => rfl) (fun τn => ⟨(by ((refine AllQ.cons (.does _ _ rfl (.none rfl) (QOp.loadM 6 rfl rfl rfl (tok _ rfl) rfl)) ?_); (exact AllQ.nil))), ?_⟩))
    refine DAny.ef 3 rfl (by kernel_rfl) (.none rfl) rfl rfl (AOp.appendP 8 (e := 111) (tde := TT 111) rfl rfl rfl rfl (tok _ rfl) rfl (tok _ rfl) (tok _ rfl) rfl (by decide) rfl rfl (fun _ => rfl) (nm_rows' c.names) (by simp only [hml, List.length_nil]; omega) rfl (fun _ => ⟨(by ((exact AllQ.nil))), ?_⟩))
    refine DAny.ef 10 rfl (by kernel_rfl) (.none rfl) rfl rfl (AOp.appendP 8 (e := 111) (tde := TT 111) rfl rfl rfl rfl (tok _ rfl) rfl (tok _ rfl) (tok _ rfl) rfl (by decide) rfl rfl (fun _ => rfl) (nm_rows c.names ⟨s, c.block, c.cur.length⟩) (by simp only [hml, List.length_append, List.length_cons, List.length_nil]; omega) rfl (fun _ => ⟨(by ((exact AllQ.nil))), ?_⟩))
    refine DAny.qu 11 rfl rfl (by kernel_rfl) rfl (fun _ => .does _ _ rfl (.none rfl) (QOp.fieldM rfl rfl (tok _ rfl) rfl rfl (by decide) rfl)) ?_
    refine DAny.ef0 12 rfl (by kernel_rfl) (.none rfl) rfl rfl (AOp.storeP 6 rfl rfl rfl rfl (tok _ rfl) rfl rfl rfl rfl ⟨(by ((exact AllQ.nil))), ?_⟩)
    refine DAny.done (by kernel_rfl) ?_
    refine ACode.seq (ACode.region ?_)
    refine ASeq.cells (cells' := ({ c with slots := c.slots.set c.f.toNat (c.cur ++ [kind]), names := c.names ++ [⟨s, c.block, c.cur.length⟩] } : CS).cells m) [_, _, _, _, _, _] [_, _] rfl
      (.cons (.refl _) (.cons (.refl _) (.cons (.refl _) (.cons (.refl _) (.cons (.refl _) (.cons (.refl _) (.cons (.refl _) (.cons hsl (.cons (.refl _) (.cons (hnm _) (.cons (.refl _) (.cons (.refl _) (.cons (.refl _) (.cons (.refl _) .nil)))))))))))))) ?_
    refine ASeq.q rfl rfl (QOp.loadM 6 rfl rfl rfl (tok _ rfl) rfl) ?_
    refine ASeq.q rfl rfl (QOp.move rfl rfl) ?_
    refine ASeq.op0 rfl rfl (AOp.storeP 7 rfl rfl rfl rfl (tok _ rfl) rfl rfl rfl rfl ?_)
    refine ASeq.q rfl rfl (QOp.assign rfl rfl) ?_
    refine ASeq.nil ?_
    refine ACode.ret ?_
    refine bodyQ_ret 6 (.cell 7 rfl rfl (tok _ rfl) rfl (.tmp rfl .nil)) rfl ?_
    rw [hdec]
    refine RC.of τ' ?_ ?_
    · rfl
    · rw [ints_snoc]
      exact congrArg (fun x => [Abs.Item.mu m.mT (c.type.map vi), Abs.Item.mu m.mS (c.slot.map vi), Abs.Item.mu m.mP (c.put.map vi), Abs.Item.mu m.mF (c.func.map vi), Abs.Item.mu m.mL x, Abs.Item.tk τ']) (slotCells_set h τ τ' (c.cur ++ [kind]))
end Go.Proofs.Ytaadamobapnfbaa
/- ref06: value, Expr. -/
set_option linter.unusedVariables false
set_option linter.unusedSimpArgs false
set_option maxRecDepth 100000
namespace Go.Proofs.Ytaadamobapnfbaa
open Go Go.Abs
/-- children lie ahead; a pair has a sign -/
def ExWf (i : Nat) (x : Ex) : Prop :=
  (x.kind = 5 ∨ x.kind = 8 ∨ x.kind = 9 → 0 ≤ x.a ∧ x.a < i) ∧ (x.kind = 9 → 0 ≤ x.b ∧ x.b < i ∧ 0 < x.op.size) ∧ (x.kind = 6 → ∀ a ∈ x.list, 0 ≤ a ∧ a < i) ∧ x.list.length ≤ 1048576
def TreeWf (t : Tree) : Prop := ∀ (i : Nat) (x : Ex), t.exprs[i]? = some x → ExWf i x
theorem ex_get {c : CS} {i : Int} (h0 : 0 ≤ i) (h1 : i < c.t.exprs.length) : (c.t.exprs.map Ex.cells)[i.toNat]? = some (c.ex i).cells := by
  have hl : i.toNat < c.t.exprs.length := by omega
  simp only [List.getElem?_map, CS.ex, List.getD_eq_getElem?_getD, List.getElem?_eq_getElem hl, Option.map_some, Option.getD_some]
theorem ex_wf {c : CS} (hw : TreeWf c.t) {i : Int} (h0 : 0 ≤ i) (h1 : i < c.t.exprs.length) : ExWf i.toNat (c.ex i) := by
  have hl : i.toNat < c.t.exprs.length := by omega
  refine hw _ _ ?_
  simp only [CS.ex, List.getD_eq_getElem?_getD, List.getElem?_eq_getElem hl, Option.getD_some]
/-- what an expression leaves as it was -/
structure Kept (c d : CS) : Prop where
  t : d.t = c.t
  slots : d.slots = c.slots
  f : d.f = c.f
  names : d.names = c.names
  block : d.block = c.block
  loops : d.loops = c.loops
  put : d.put = c.put
  func : d.func = c.func
  lt : d.type.length = c.type.length
  ls : d.slot.length = c.slot.length
theorem Kept.refl (c : CS) : Kept c c := ⟨rfl, rfl, rfl, rfl, rfl, rfl, rfl, rfl, rfl, rfl⟩
theorem Kept.trans {a b c : CS} (h : Kept a b) (h' : Kept b c) : Kept a c :=
  ⟨h'.t.trans h.t, h'.slots.trans h.slots, h'.f.trans h.f, h'.names.trans h.names, h'.block.trans h.block, h'.loops.trans h.loops, h'.put.trans h.put, h'.func.trans h.func, h'.lt.trans h.lt, h'.ls.trans h.ls⟩
theorem Kept.cur {a b : CS} (h : Kept a b) : b.cur = a.cur := by unfold CS.cur; rw [h.slots, h.f]
theorem Kept.ex {a b : CS} (h : Kept a b) (i : Int) : b.ex i = a.ex i := by unfold CS.ex; rw [h.t]
theorem Kept.ok {a b : CS} (h : Kept a b) (ha : a.ok) : b.ok :=
  ⟨by rw [h.f]; exact ha.f0, by rw [h.f, h.slots]; exact ha.f1, by rw [h.cur]; exact ha.n64, by rw [h.cur, h.names]; exact ha.names, by rw [h.cur, h.names]; exact ha.nslot, by rw [h.t, h.lt]; exact ha.lt, by rw [h.t, h.ls]; exact ha.ls,
    by rw [h.t, h.put]; exact ha.lp, by rw [h.t, h.func]; exact ha.lf, by rw [h.t, h.slots]; exact ha.lS, by rw [h.t]; exact ha.big⟩
theorem Kept.need (c : CS) (ok : Bool) (a k : Int) : Kept c (c.need ok a k) := by
  unfold CS.need
  split
  · exact ⟨rfl, rfl, rfl, rfl, rfl, rfl, rfl, rfl, rfl, rfl⟩
  · exact .refl c
theorem Kept.setSlot (c : CS) (i n : Int) : Kept c (c.setSlot i n) := ⟨rfl, rfl, rfl, rfl, rfl, rfl, rfl, rfl, rfl, by simp [CS.setSlot]⟩
theorem Kept.setType (c : CS) (i n : Int) : Kept c (c.setType i n) := ⟨rfl, rfl, rfl, rfl, rfl, rfl, rfl, rfl, by simp [CS.setType], rfl⟩
theorem Kept.valOf {c : CS} {r : CS × Int} (h : Kept c r.1) (i : Int) : Kept c (valOf r i).1 := h.trans (.need _ _ _ _)
theorem Kept.slotOf (c : CS) (s : ByteArray) (b : Bool) (a : Int) : Kept c (c.slotOf s b a).1 := .need _ _ _ _
theorem Kept.args {g : CS → Int → CS × Int} (hg : ∀ c i, Kept c (g c i).1) : ∀ (l : List Int) (c : CS) (b : Bool), Kept c (argsOf g l c b).1
  | [], c, b => .refl c
  | a :: l, c, b => ((Kept.valOf (hg c a) a).trans (Kept.args hg l _ _))
theorem Kept.kindCase {g : CS → Int → CS × Int} (ih : ∀ c i, Kept c (g c i).1) (c : CS) (i : Int) (e : Ex) : Kept c (kindCase g c i e).1 := by
  unfold Ytaadamobapnfbaa.kindCase
  split
  · exact .refl c
  split
  · split
    · exact (Kept.slotOf _ _ _ _).trans (.setSlot _ _ _)
    · exact Kept.slotOf _ _ _ _
  split
  · exact (((ih _ _).valOf _).trans (.slotOf _ _ _ _)).trans ((Kept.need _ _ _ _).trans (.setSlot _ _ _))
  split
  · split
    · exact ((Kept.args ih _ _ _).trans (.need _ _ _ _)).trans ((Kept.need _ _ _ _).trans (.setSlot _ _ _))
    · exact (Kept.args ih _ _ _).trans (.need _ _ _ _)
  split
  · exact ((ih _ _).valOf _).trans (.need _ _ _ _)
  split
  · exact (((ih _ _).valOf _).trans ((ih _ _).valOf _)).trans (.need _ _ _ _)
  · exact .refl c
theorem Kept.typed {c : CS} {r : CS × Int} (h : Kept c r.1) (i : Int) : Kept c (typed r i).1 := by
  unfold Ytaadamobapnfbaa.typed
  split
  · exact h.trans (.setType _ _ _)
  · exact h
theorem Kept.expr6 : ∀ (n : Nat) (c : CS) (i : Int), Kept c (expr6 n c i).1
  | 0, c, i => .refl c
  | n + 1, c, i => by
    unfold Ytaadamobapnfbaa.expr6
    split
    · exact .refl c
    · exact (Kept.kindCase (Kept.expr6 n) c i _).typed i
end Go.Proofs.Ytaadamobapnfbaa
/- ref06: value; the parts of Expr. -/
set_option linter.unusedVariables false
set_option linter.unusedSimpArgs false
set_option maxRecDepth 100000
namespace Go.Proofs.Ytaadamobapnfbaa
open Go Go.Abs
theorem items_need (c : CS) (ok : Bool) (a k : Int) (m : Ms) (τ : Nat) : (c.need ok a k).items m τ = c.items m τ := by
  unfold CS.need; split <;> rfl
theorem items_val (r : CS × Int) (i : Int) (m : Ms) (τ : Nat) : (valOf r i).1.items m τ = r.1.items m τ := items_need _ _ _ _ _ _
theorem items_slot (c : CS) (s : ByteArray) (b : Bool) (a : Int) (m : Ms) (τ : Nat) : (c.slotOf s b a).1.items m τ = c.items m τ := items_need _ _ _ _ _ _
theorem RV.of {v r : AV} {R R' : List Abs.Item} (h1 : r = v) (h2 : R' = R) : RV v R (.ret r) R' := by subst h1; subst h2; exact .mk
def CExpr (n : Nat) : Prop := ∀ (c : CS) (m : Ms) (i : Int) (τ : Nat), c.ok → TreeWf c.t → 0 ≤ i → i < c.t.exprs.length → i < n →
  ACalls Try.prog 50 [.agg (c.cells m), vi i] (c.items m τ) (RV (.tup [.agg ((expr6 n c i).1.cells m), vi (expr6 n c i).2]) ((expr6 n c i).1.items m τ))
theorem value_walk {n : Nat} (hE : CExpr n) (c : CS) (m : Ms) (i : Int) (τ : Nat) (h : c.ok) (hw : TreeWf c.t) (h0 : 0 ≤ i) (h1 : i < c.t.exprs.length) (hn : i < n) :
    ACalls Try.prog 47 [.agg (c.cells m), vi i] (c.items m τ) (RV (.tup [.agg ((valOf (expr6 n c i) i).1.cells m), vi (valOf (expr6 n c i) i).2]) ((valOf (expr6 n c i) i).1.items m τ)) := by
  have hrow := ex_get h0 h1
  have hk := (Kept.expr6 n c i).ex i
  refine ACalls.of_code (c := _) Try.func47 rfl Try.ntmps47 (Nat.le_of_ble_eq_true rfl) ?_
  refine ACode.seq (ACode.region ?_)
  refine ASeq.op rfl rfl (AOp.boxP rfl rfl rfl (fun _ => rfl) (fun _ => ?_))
  refine ASeq.op rfl rfl (AOp.allocP rfl (tok _ rfl) rfl rfl (fun _ => rfl) (fun _ => ?_))
  refine ASeq.q rfl rfl (QOp.assign rfl rfl) ?_
  refine ASeq.nil ?_
  refine ACode.seq (ACode.region ?_)
  refine ASeq.q rfl rfl (QOp.loadM 6 rfl rfl rfl (tok _ rfl) rfl) ?_
  refine ASeq.q rfl rfl (QOp.move rfl rfl) ?_
  refine ASeq.op rfl rfl (AOp.callP 6 rfl (by kernel_rfl) rfl rfl rfl (hE c m i τ h hw h0 h1 hn) ?_ (by rintro _ _ ⟨⟩))
  rintro _ _ ⟨⟩
  refine ASeq.q rfl rfl (QOp.move rfl rfl) ?_
  refine ASeq.q rfl rfl (QOp.extract rfl rfl rfl) ?_
  refine ASeq.q rfl rfl (QOp.extract rfl rfl rfl) ?_
  refine ASeq.op rfl rfl (AOp.allocP rfl (tok _ rfl) rfl rfl (fun _ => rfl) (fun _ => ?_))
  refine ASeq.op0 rfl rfl (AOp.storeP 8 rfl rfl rfl rfl (tok _ rfl) rfl rfl rfl rfl ?_)
  refine ASeq.q rfl rfl (QOp.assign rfl rfl) ?_
  refine ASeq.nil ?_
  refine ACode.seq ?_
  refine ACode.drawn [[], [], [1], [], [3], [3, 4], [], [3, 4, 5, 6], [3, 4, 5, 6, 7], [3, 4, 5, 6, 7, 8], [3, 4, 5, 6, 7, 8, 9], [0, 1, 2, 3, 4, 5, 6, 7, 8, 9, 10], [], [0, 1, 2, 3, 4, 5, 6, 7, 8, 9, 10, 11], [0, 1, 2, 3, 4, 5, 6, 7, 8, 9, 10, 11, 12, 13]] (by kernel_rfl) mixed ?_
  refine DAny.ld 0 rfl rfl (by kernel_rfl) rfl (.does _ _ rfl (.none rfl) (QOp.loadM 8 rfl rfl rfl (tok _ rfl) rfl)) ?_
  refine DAny.qu 1 rfl rfl (by kernel_rfl) rfl (fun _ => .does _ _ rfl (.none rfl) (QOp.move rfl rfl)) ?_
  refine DAny.qu 2 rfl rfl (by kernel_rfl) rfl (fun _ => .does _ _ rfl (.none rfl) (QOp.cmp rfl rfl rfl rfl)) ?_
  refine DAny.qu 3 rfl rfl (by kernel_rfl) rfl (fun _ => .does _ _ rfl (.none rfl) (QOp.fieldM rfl rfl (tok _ rfl) rfl rfl (by decide) rfl)) ?_
  refine DAny.qu 4 rfl rfl (by kernel_rfl) rfl (fun _ => .does _ _ rfl (.none rfl) (QOp.fieldM rfl rfl (tok _ rfl) rfl rfl (by decide) rfl)) ?_
  refine DAny.ld 5 rfl rfl (by kernel_rfl) rfl (.does _ _ rfl (.none rfl) (QOp.loadM 6 rfl rfl rfl (tok _ rfl) rfl)) ?_
  refine DAny.qu 6 rfl rfl (by kernel_rfl) rfl (fun _ => .does _ _ rfl (.none rfl) (QOp.move rfl rfl)) ?_
  refine DAny.qu 7 rfl rfl (by kernel_rfl) rfl (fun _ => .does _ _ rfl (.none rfl) (QOp.indexI rfl rfl rfl (tok _ rfl) rfl (tok _ rfl) (by omega) (by assumption))) ?_
  refine DAny.qu 8 rfl rfl (by kernel_rfl) rfl (fun _ => .does _ _ rfl (.none rfl) (QOp.fieldI rfl rfl (tok _ rfl) rfl rfl (by decide) rfl)) ?_
  refine DAny.qu 9 rfl rfl (by kernel_rfl) rfl (fun _ => .does _ _ rfl (.none rfl) (QOp.fieldI rfl rfl (tok _ rfl) rfl rfl (by decide) rfl)) ?_
  refine DAny.qu 10 rfl rfl (by kernel_rfl) rfl (fun _ => .does _ _ rfl (.none rfl) (QOp.loadI rfl rfl (tok _ rfl) rfl)) ?_
  refine DAny.qu 12 rfl rfl (by kernel_rfl) rfl (fun _ => .does _ _ rfl (.none rfl) (QOp.move rfl rfl)) ?_
  refine DAny.ef 11 rfl (by kernel_rfl) (.none rfl) rfl rfl (AOp.callP 0 rfl (by kernel_rfl) rfl rfl rfl (need_ok _ m _ _ 8) ?_ (by rintro _ _ ⟨⟩))
  rintro _ _ ⟨⟩
  refine ⟨(by ((exact AllQ.nil))), ?_⟩
  refine DAny.ef0 13 rfl (by kernel_rfl) (.none rfl) rfl rfl (AOp.storeP 7 rfl rfl rfl rfl (tok _ rfl) rfl rfl rfl rfl ⟨(by ((exact AllQ.nil))), ?_⟩)
  refine DAny.ef 14 rfl (by kernel_rfl) (.none rfl) rfl rfl (.q (QOp.assign rfl rfl) ⟨(by ((exact AllQ.nil))), ?_⟩)
  refine DAny.done (by kernel_rfl) ?_
  refine ACode.ret ?_
  refine bodyQ_ret 6 (.cell 7 rfl rfl (tok _ rfl) rfl (.tmp rfl .nil)) rfl ?_
  refine RV.of ?_ (items_val _ _ _ _).symm
  unfold valOf
  rw [hk]
  rfl
theorem storeInt {P : Program} {N : Nat} {D : List Deferred} {env : Env} {R R' : List Abs.Item} {o : Oper} {K Kp : AV → List Abs.Item → Prop} (p : Nat) {t : TypeId} {td : TD} {x y : Operand} {m k j : Nat} {n : Int} {l : List Int} (ho : o.op = .store t x y)
    (hx : ev N env x = some (.mp m k)) (hi : R[p]? = some (.mu m (l.map vi))) (hy : ev N env y = some (vi n)) (hT : TOK P t td) (hsz : td.size = 1) (hkj : k = j) (hlt : j < l.length) (hR : setO p (.mu m ((l.set j n).map vi)) R = some R') (hk : K .any R') : AOp P N D o env R K Kp := by
  subst hkj
  refine AOp.storeAt p ho hx hi hy hT rfl hsz (by simpa using hlt) ?_ hk
  rw [← List.map_set]; exact hR
end Go.Proofs.Ytaadamobapnfbaa
