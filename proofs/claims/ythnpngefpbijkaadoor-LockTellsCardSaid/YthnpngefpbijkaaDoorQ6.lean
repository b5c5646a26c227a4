/-
  Part of the proof: the abstract machine, its soundness, contracts of functions.
-/
import Derived.Test.YthnpngefpbijkaaDoorQ5
import Derived.Test.YthnpngefpbijkaaDoorQ2
set_option linter.all false
namespace Go.Proofs.Qq.Qqd
open Go.Proofs.Qq

/-- A message: its kind, its numbers, its text. -/
structure Msg where
  kind : Int
  l : List Int
  text : List UInt8
  deriving DecidableEq

structure MV (H : AHeap) (v : AV) (m : Msg) : Prop where
  ex : ∃ a n c, v = .agg [.int .i64 m.kind, .slice a n c, .str m.text] ∧ SE eInt H a n c m.l

theorem MV.ext {H H' : AHeap} {v : AV} {m : Msg} (h : MV H v m) (hx : Ext H H') : MV H' v m := let ⟨a, n, c, h1, h2⟩ := h.ex; ⟨a, n, c, h1, h2.ext hx⟩

def mright (m : Msg) : Bool := rightM m.kind m.l.length m.text

theorem p54 {H : AHeap} {v : AV} {m : Msg} (h : MV H v m) (hl : m.text.length ≤ 9223372036854775806) : PF T 54 [v] H fun r _ => r = .bool (mright m) := by
  obtain ⟨a, n, c, rfl, hs⟩ := h.ex
  obtain rfl := hs.n
  exact run54 _ _ _ _ _ hl H _ fun H' hx => ⟨rfl, hx, rfl⟩

theorem p51 (k : Int) (H : AHeap) : PF T 51 [.int .i64 k] H fun r _ => r = .tup [.int .i64 (msgSize k).1, .bool (msgSize k).2] :=
  run51 k H _ fun H' hx => ⟨rfl, hx, rfl⟩
theorem p52 (k : Int) (H : AHeap) : PF T 52 [.int .i64 k] H fun r _ => r = .tup [.int .i64 (msgSize k).1, .bool (msgSize k).2] :=
  run52 k H _ ⟨rfl, Ext.refl _, rfl⟩

/-- message.Right -/
theorem p17 {H : AHeap} {v : AV} {m : Msg} (h : MV H v m) (hl : m.text.length ≤ 9223372036854775806) : PF T 17 [v] H fun r _ => r = .bool (mright m) := by
  obtain ⟨a, n, c, rfl, hs⟩ := h.ex
  obtain rfl := hs.n
  refine PF_code rfl _ _ _ ?_
  simp only [a17]
  simp (disch := first | omega | assumption | (simp only [zl] <;> omega) | fail) only [zd, zs, seval, AV.undef, unA, fillA, evParts, repCells, splice, partA, pureStep, memStep, resOf, resAll, resA, nilckA, bne, ↓reduceIte, Nat.reduceEqDiff, reduceCtorEq, Int.reduceToNat, Int.reduceNeg, Nat.reduceLeDiff]
  refine WO_callP rfl (Ext.refl _).nr (p51 m.kind _) ?_
  rintro v H1 hx1 hx2 rfl
  have hlen1 := hx2.len
  rw [len_newRow] at hlen1
  obtain ⟨r, hr⟩ : ∃ r : Row, hOf H1 H.length = some ⟨[.int .i64 m.kind, .slice a m.l.length c, .str m.text], true, 0⟩ := ⟨⟨[], true, 0⟩, hx2.row _ _ (by rw [hOf_newRow, if_pos rfl])⟩
  have l0 : loadA false 1 H1 (.ptr (some (H.length, 0))) = some (.int .i64 m.kind) := by rw [loadA_ptr, hr]; rfl
  have l1 : loadA false 1 H1 (.ptr (some (H.length, 1))) = some (.slice a m.l.length c) := by rw [loadA_ptr, hr]; rfl
  have l2 : loadA false 1 H1 (.ptr (some (H.length, 2))) = some (.str m.text) := by rw [loadA_ptr, hr]; rfl
  unfold mright rightM
  generalize msgSize m.kind = z
  obtain ⟨zn, zb⟩ := z
  simp (disch := first | omega | assumption | (simp only [zl] <;> omega) | fail) only [zd, zs, seval, AV.undef, unA, fillA, evParts, repCells, splice, partA, pureStep, memStep, resOf, resAll, resA, nilckA, bne, ↓reduceIte, Nat.reduceEqDiff, reduceCtorEq, Int.reduceToNat, Int.reduceNeg, Nat.reduceLeDiff]
  cases zb with
  | false =>
    simp (disch := first | omega | assumption | (simp only [zl] <;> omega) | fail) only [zd, zs, seval, AV.undef, unA, fillA, evParts, repCells, splice, partA, pureStep, memStep, resOf, resAll, resA, nilckA, bne, ↓reduceIte, Nat.reduceEqDiff, reduceCtorEq, Int.reduceToNat, Int.reduceNeg, Nat.reduceLeDiff]
    exact ⟨hx1, rfl⟩
  | true =>
    simp (disch := first | omega | assumption | (simp only [zl] <;> omega) | fail) only [l1, zd, zs, seval, AV.undef, unA, fillA, evParts, repCells, splice, partA, pureStep, memStep, resOf, resAll, resA, nilckA, bne, ↓reduceIte, Nat.reduceEqDiff, reduceCtorEq, Int.reduceToNat, Int.reduceNeg, Nat.reduceLeDiff]
    refine WC_ndec (fun g => ?_) (fun g => ?_)
    · simp (disch := first | omega | assumption | (simp only [zl] <;> omega) | fail) only [zd, zs, seval, AV.undef, unA, fillA, evParts, repCells, splice, partA, pureStep, memStep, resOf, resAll, resA, nilckA, bne, ↓reduceIte, Nat.reduceEqDiff, reduceCtorEq, Int.reduceToNat, Int.reduceNeg, Nat.reduceLeDiff]
      exact ⟨hx1, by simp [g]⟩
    · have g2 : decide (((m.l.length : Nat) : Int) = zn) = true := decide_eq_true g
      simp (disch := first | omega | assumption | (simp only [zl] <;> omega) | fail) only [l2, zd, zs, seval, AV.undef, unA, fillA, evParts, repCells, splice, partA, pureStep, memStep, resOf, resAll, resA, nilckA, bne, ↓reduceIte, Nat.reduceEqDiff, reduceCtorEq, Int.reduceToNat, Int.reduceNeg, Nat.reduceLeDiff]
      by_cases h0 : m.text = []
      · simp (disch := first | omega | assumption | (simp only [zl] <;> omega) | fail) only [h0, l2, zd, zs, seval, AV.undef, unA, fillA, evParts, repCells, splice, partA, pureStep, memStep, resOf, resAll, resA, nilckA, bne, ↓reduceIte, Nat.reduceEqDiff, reduceCtorEq, Int.reduceToNat, Int.reduceNeg, Nat.reduceLeDiff]
        exact ⟨hx1, by simp [g]⟩
      · simp (disch := first | omega | assumption | (simp only [zl] <;> omega) | fail) only [h0, l0, l2, zd, zs, seval, AV.undef, unA, fillA, evParts, repCells, splice, partA, pureStep, memStep, resOf, resAll, resA, nilckA, bne, ↓reduceIte, Nat.reduceEqDiff, reduceCtorEq, Int.reduceToNat, Int.reduceNeg, Nat.reduceLeDiff]
        by_cases h4 : m.kind = 4
        · simp (disch := first | omega | assumption | (simp only [zl] <;> omega) | fail) only [h4, l2, zd, zs, seval, AV.undef, unA, fillA, evParts, repCells, splice, partA, pureStep, memStep, resOf, resAll, resA, nilckA, bne, ↓reduceIte, Nat.reduceEqDiff, reduceCtorEq, Int.reduceToNat, Int.reduceNeg, Nat.reduceLeDiff]
          refine WO_callP rfl hx1 (p37 m.text hl _) ?_
          rintro v H2 hx3 hx4 rfl
          simp (disch := first | omega | assumption | (simp only [zl] <;> omega) | fail) only [zd, zs, seval, AV.undef, unA, fillA, evParts, repCells, splice, partA, pureStep, memStep, resOf, resAll, resA, nilckA, bne, ↓reduceIte, Nat.reduceEqDiff, reduceCtorEq, Int.reduceToNat, Int.reduceNeg, Nat.reduceLeDiff]
          exact ⟨hx3, by simp [g]⟩
        · simp (disch := first | omega | assumption | (simp only [zl] <;> omega) | fail) only [h4, l2, zd, zs, seval, AV.undef, unA, fillA, evParts, repCells, splice, partA, pureStep, memStep, resOf, resAll, resA, nilckA, bne, ↓reduceIte, Nat.reduceEqDiff, reduceCtorEq, Int.reduceToNat, Int.reduceNeg, Nat.reduceLeDiff]
          exact ⟨hx1, by simp [g]⟩
end Go.Proofs.Qq.Qqd

namespace Go.Proofs.Qq.Qqd
open Go.Proofs.Qq

/-- Some numbers are read, from a place on. -/
def rdInts (bs : List UInt8) : Nat → Int → Option (List Int × Int)
  | 0, p => some ([], p)
  | k + 1, p =>
    if (rdU bs p).2.2 = 0 then
      match rdInts bs k (rdU bs p).2.1 with
      | some (l, q) => some (zag (rdU bs p).1 :: l, q)
      | none => none
    else none

/-- The message that bytes are. -/
def decM (bs : List UInt8) : Option Msg :=
  match bs with
  | [] => none
  | b :: _ =>
    match rdInts bs (msgSize b.toNat).1.toNat 1 with
    | none => none
    | some (l, q) => if mright ⟨b.toNat, l, bs.drop q.toNat⟩ then some ⟨b.toNat, l, bs.drop q.toNat⟩ else none

theorem rdU_range (bs : List UInt8) (p : Int) (h : (rdU bs p).2.2 = 0) : p < (rdU bs p).2.1 ∧ (rdU bs p).2.1 ≤ bs.length := by
  unfold rdU at h ⊢
  split at h
  · simp at h
  · rename_i hn
    rw [if_neg hn]
    split at h
    · rename_i v n hv
      have := vrL_pos _ _ _ _ _ hv
      rw [List.length_drop] at this
      simp only []
      omega
    · simp at h

def decOut (lo : Nat) (H : AHeap) (r : AV) : Option Msg → Prop
  | none => r = .tup [.agg [.int .i64 0, .slice none 0 none, .str []], .int .i64 2]
  | some m => ∃ sl, r = .tup [.agg [.int .i64 m.kind, sl, .str m.text], .int .i64 0] ∧ Own eInt lo H sl m.l

/-- A slice of bytes from a place on, as a text. -/
theorem rest_text {H : AHeap} {a : Option (Nat × Nat)} {c : Option Nat} {bs : List UInt8} (h : SE eByte H a bs.length c bs) {l : Nat} (hl : l ≤ bs.length) :
    ∃ a' c', sliceOf 1 a bs.length c (some (.int .i64 (l : Int))) none none = some (.slice a' (bs.length - l) c') ∧ b2sA H (.slice a' (bs.length - l) c') = some (.str (bs.drop l)) := by
  have hat := h.at_
  rw [eByte_cs] at hat
  obtain ⟨a', c', e1, e2, e3⟩ := slice_rest hat (c := c) (l := l) (by simpa [bytesA_len] using h.cap) (by rw [bytesA_len]; exact hl) .i64
  rw [bytesA_len] at e1
  refine ⟨a', c', e1, ?_⟩
  rw [bytesA_drop, ← eByte_cs] at e2
  have hs : SE eByte H a' (bs.length - l) c' (bs.drop l) := ⟨by simp, e2, by simpa [bytesA_len] using e3⟩
  have hsrc := hs.src
  rw [List.length_drop] at hsrc
  have hb : ∀ xs : List UInt8, bytesOfA (eByte.cs xs) = some xs := by
    intro xs
    induction xs with
    | nil => rfl
    | cons x xs ih =>
      rw [Flat.cs_cons]
      show bytesOfA (.int .u8 x.toNat :: eByte.cs xs) = _
      simp only [bytesOfA, byteOfA, ih]
      simp
  cases a' with
  | none =>
    have : eByte.cs (bs.drop l) = [] := hs.at_
    have h0 : bs.drop l = [] := by
      apply List.eq_nil_of_length_eq_zero
      have := eByte.cs_len (bs.drop l)
      simp_all [eByte]
    rw [h0]; rfl
  | some p =>
    have e : srcCells H 1 (bs.length - l) (.slice (some p) (bs.length - l) c') = some (eByte.cs (bs.drop l)) := hsrc
    unfold b2sA
    simp only [e, hb]

theorem p53 {H : AHeap} {a : Option (Nat × Nat)} {c : Option Nat} {bs : List UInt8} (h : SE eByte H a bs.length c bs) (hl : bs.length ≤ 9223372036854775806) (p : Int) (hp : p ≤ 9223372036854775806) :
    PF T 53 [.slice a bs.length c, .int .i64 p] H fun r _ => r = .tup [.int .i64 (zag (rdU bs p).1), .int .i64 (rdU bs p).2.1, .int .i64 (rdU bs p).2.2] :=
  run53 bs hl a c H (eByte_cs bs ▸ h.at_) p hp _ ⟨rfl, Ext.refl _, rfl⟩
theorem p55 {H : AHeap} {a : Option (Nat × Nat)} {c : Option Nat} {bs : List UInt8} (h : SE eByte H a bs.length c bs) (hl : bs.length ≤ 9223372036854775806) (p : Int) :
    PF T 55 [.slice a bs.length c, .int .i64 p] H fun r _ => r = .tup [.int .i64 (zag (rdU bs p).1), .int .i64 (rdU bs p).2.1, .int .i64 (rdU bs p).2.2] :=
  run55 bs (by omega) a c H (eByte_cs bs ▸ h.at_) h.cap p _ ⟨rfl, Ext.refl _, rfl⟩

theorem rdInts_none (bs : List UInt8) (k : Nat) (p : Int) (h : ¬ (rdU bs p).2.2 = 0) : rdInts bs (k + 1) p = none := by rw [rdInts, if_neg h]
theorem rdInts_range (bs : List UInt8) : ∀ (k : Nat) (p : Int) (l : List Int) (q : Int), p ≤ bs.length → rdInts bs k p = some (l, q) → p ≤ q ∧ q ≤ bs.length ∧ l.length = k
  | 0, p, l, q, hp, h => by simp [rdInts] at h; obtain ⟨rfl, rfl⟩ := h; exact ⟨Int.le_refl _, hp, rfl⟩
  | k + 1, p, l, q, hp, h => by
    rw [rdInts] at h
    split at h
    · rename_i h0
      have hr := rdU_range bs p h0
      split at h
      · rename_i l' q' h'
        simp only [Option.some.injEq, Prod.mk.injEq] at h
        obtain ⟨rfl, rfl⟩ := h
        have := rdInts_range bs k _ l' q' hr.2 h'
        exact ⟨by omega, this.2.1, by simp [this.2.2]⟩
      · cases h
    · cases h

/-- What is known while numbers are read: the row of the message and that of the result. -/
structure RdSt (H : AHeap) (kind : Int) (H' : AHeap) (sl : AV) (xs : List Int) : Prop where
  ext : Ext H H'
  res : hOf H' H.length = some ⟨[.int .i64 0, .slice none 0 none, .str []], true, 0⟩
  row : hOf H' (H.length + 1) = some ⟨[.int .i64 kind, sl, .str []], true, 0⟩
  own : Own eInt (H.length + 2) H' sl xs

/-- One number more. -/
theorem RdSt.add {H : AHeap} {kind : Int} {H' : AHeap} {sl : AV} {xs : List Int} (h : RdSt H kind H' sl xs) (n : Int) (hn : xs.length ≤ 1000000) :
    ∃ sl' H2 w, appendA 1 8 (newRow H' [.int .i64 n] 1) sl (.slice (some (H'.length, 0)) 1 none) = some (sl', H2, w) ∧ hOf H2 (H.length + 1) = some ⟨[.int .i64 kind, sl, .str []], true, 0⟩ ∧ lower H.length w = H.length ∧
      RdSt H kind (List.set H2 (H.length + 1) (.row ⟨[.int .i64 kind, sl', .str []], true, 0⟩)) sl' (xs ++ [n]) := by
  have hlen := hOf_is_lt h.row
  have hown := h.own.ext (Ext.newRow H' [.int .i64 n] 1)
  obtain ⟨sl', H2, w, e1, o1, a1⟩ := append_own (x := .slice (some (H'.length, 0)) 1 none) (ys := [n]) (bytes := 8) hown (by rw [len_newRow]; omega) rfl
    (SE.src (E := eInt) (H := newRow H' [.int .i64 n] 1) (a := some (H'.length, 0)) (n := 1) (c := none) (xs := [n]) ⟨rfl, ⟨_, by rw [hOf_newRow, if_pos rfl], by simp, rfl⟩, fun k h => by cases h⟩) (by decide) (by simp [room]; omega)
  have hge := hown.ge
  have keep : ∀ i r, i < H.length + 2 → hOf H' i = some r → hOf H2 i = some r := fun i r hi hr =>
    a1.row i r (fun o n c e => by have := hge i o n c e; omega) ((Ext.newRow H' _ 1).row i r hr)
  have hl2 : H'.length + 1 ≤ H2.length := by have := a1.len; rwa [len_newRow] at this
  refine ⟨sl', H2, w, e1, keep _ _ (by omega) h.row, a1.lower (by omega), ?_, ?_, ?_, ?_⟩
  · exact (a1.ext h.ext.nr (fun i o n c e => by have := hge i o n c e; omega)).set (by omega) _
  · rw [hOf_set_ne (by omega)]; exact keep _ _ (by omega) h.res
  · rw [hOf_set_eq rfl (by omega)]
  · exact o1.set (by omega) _

theorem msgSize_le (k : Int) : 0 ≤ (msgSize k).1 ∧ (msgSize k).1 ≤ 10 := by
  unfold msgSize
  repeat' (first | (split; decide) | split | decide)

structure DecInv (bs : List UInt8) (H : AHeap) (kind : Int) (N : Nat) (j : Nat) (p : Int) (H' : AHeap) (sl : AV) (xs : List Int) : Prop where
  st : RdSt H kind H' sl xs
  xl : xs.length = j
  p1 : 1 ≤ p
  p2 : p ≤ bs.length
  tot : (rdInts bs (N - j) p).map (fun q => (xs ++ q.1, q.2)) = rdInts bs N 1

/-- One number read: all goes on, or there is none. -/
theorem DecInv.next {bs : List UInt8} {H : AHeap} {kind : Int} {N j : Nat} {p : Int} {H' : AHeap} {sl : AV} {xs : List Int} (h : DecInv bs H kind N j p H' sl xs) (hj : j < N) :
    (¬ (rdU bs p).2.2 = 0 → rdInts bs N 1 = none) ∧ ((rdU bs p).2.2 = 0 → (rdInts bs (N - (j + 1)) (rdU bs p).2.1).map (fun q => (xs ++ [zag (rdU bs p).1] ++ q.1, q.2)) = rdInts bs N 1) := by
  have ht := h.tot
  obtain ⟨k, hk⟩ : ∃ k, N - j = k + 1 := ⟨N - j - 1, by omega⟩
  have hk2 : N - (j + 1) = k := by omega
  rw [hk] at ht
  rw [hk2]
  constructor
  · intro h0
    rw [rdInts_none bs k p h0] at ht
    exact ht.symm
  · intro h0
    rw [← ht, rdInts, if_pos h0]
    cases rdInts bs k (rdU bs p).2.1 with
    | none => rfl
    | some q => simp

/-- message.Decode's end: from the numbers to the message. -/
theorem decM_none (b : UInt8) (bs : List UInt8) (h : rdInts (b :: bs) (msgSize b.toNat).1.toNat 1 = none) : decM (b :: bs) = none := by simp only [decM, h]
theorem decM_some (b : UInt8) (bs : List UInt8) (l : List Int) (q : Int) (h : rdInts (b :: bs) (msgSize b.toNat).1.toNat 1 = some (l, q)) :
    decM (b :: bs) = if mright ⟨b.toNat, l, (b :: bs).drop q.toNat⟩ then some ⟨b.toNat, l, (b :: bs).drop q.toNat⟩ else none := by simp only [decM, h]

set_option maxHeartbeats 4000000 in
/-- barrowref12.Decode -/
theorem p12 {H : AHeap} {a : Option (Nat × Nat)} {c : Option Nat} {bs : List UInt8} (h : SE eByte H a bs.length c bs) (hl : bs.length ≤ 1000000) :
    PF T 12 [.slice a bs.length c] H fun r H' => decOut H.length H' r (decM bs) := by
  refine PF_code rfl _ _ _ ?_
  simp only [a12]
  cases bs with
  | nil =>
    simp (disch := first | omega | assumption | (simp only [zl] <;> omega) | fail) only [zd, zs, seval, AV.undef, unA, fillA, evParts, repCells, splice, partA, pureStep, memStep, resOf, resAll, resA, nilckA, bne, ↓reduceIte, Nat.reduceEqDiff, reduceCtorEq, Int.reduceToNat, Int.reduceNeg, Nat.reduceLeDiff]
    exact ⟨(Ext.refl _).nr, rfl⟩
  | cons b bs' =>
    generalize hbs : b :: bs' = bs at h hl ⊢
    have h0 : bs[0]? = some b := by rw [← hbs]; rfl
    have hpos : 0 < bs.length := by rw [← hbs]; simp
    obtain ⟨i, o, rfl, hi, l1⟩ := h.at1 rfl h0 rfl
    rw [Nat.add_zero] at l1
    have c0 : ¬ (bs.length : Int) = 0 := by omega
    have hb256 : b.toNat < 256 := b.toNat_lt
    simp (disch := first | omega | assumption | (simp only [zl] <;> omega) | fail) only [c0, l1, Int.reduceToNat, Nat.zero_mul, zd, zs, seval, AV.undef, unA, fillA, evParts, repCells, splice, partA, pureStep, memStep, resOf, resAll, resA, nilckA, bne, ↓reduceIte, Nat.reduceEqDiff, reduceCtorEq, Int.reduceToNat, Int.reduceNeg, Nat.reduceLeDiff]
    refine WO_callP rfl (Ext.refl _).nr.nr (p52 _ _) ?_
    rintro v H1 hx1 hx2 rfl
    have hN := msgSize_le (b.toNat : Int)
    have hdm1 : rdInts bs (msgSize b.toNat).1.toNat 1 = none → decM bs = none := by rw [← hbs]; exact decM_none b bs'
    have hdm2 : ∀ l q, rdInts bs (msgSize b.toNat).1.toNat 1 = some (l, q) → decM bs = if mright ⟨b.toNat, l, bs.drop q.toNat⟩ then some ⟨b.toNat, l, bs.drop q.toNat⟩ else none := by rw [← hbs]; exact decM_some b bs'
    obtain ⟨N, hNe⟩ : ∃ N : Nat, (msgSize b.toNat).1 = (N : Int) := ⟨(msgSize b.toNat).1.toNat, by omega⟩
    rw [hNe] at hN hdm1 hdm2
    rw [Int.toNat_natCast] at hdm1 hdm2
    simp (disch := first | omega | assumption | (simp only [zl] <;> omega) | fail) only [hNe, zd, zs, seval, AV.undef, unA, fillA, evParts, repCells, splice, partA, pureStep, memStep, resOf, resAll, resA, nilckA, bne, ↓reduceIte, Nat.reduceEqDiff, reduceCtorEq, Int.reduceToNat, Int.reduceNeg, Nat.reduceLeDiff]
    refine WC_loop (fun m s => ∃ j p sl xs, m = N - j ∧ j ≤ N ∧ s.env 0 = .slice (some (i, o)) bs.length c ∧ s.env 2 = .ptr (some (H.length, 0)) ∧ s.env 4 = .ptr (some (H.length + 1, 0)) ∧ s.env 5 = .int .i64 (N : Int) ∧ s.env 7 = .int .i64 p ∧ s.env 8 = .int .i64 (j : Int) ∧ s.low = H.length ∧ DecInv bs H b.toNat N j p s.heap sl xs) ?_ N _
      ⟨0, 1, .slice none 0 none, [], rfl, by omega, rfl, rfl, rfl, rfl, rfl, rfl, rfl, ⟨⟨hx1, ?_, ?_, Own.nil _ _ _⟩, rfl, by omega, by omega, by simp⟩⟩
    · rintro m ⟨e, H', lw⟩ ⟨j, p, sl, xs, hm, hj, k0, k2, k4, k5, k7, k8, kL, hI⟩
      simp only [] at k0 k2 k4 k5 k7 k8 kL hI
      subst kL
      have hp1 := hI.p1
      have hp2 := hI.p2
      have hxl := hI.xl
      have hst := hI.st
      by_cases hlt : j < N
      · simp (disch := first | omega | assumption | (simp only [zl] <;> omega) | fail) only [k0, k2, k4, k5, k7, k8, zd, zs, seval, AV.undef, unA, fillA, evParts, repCells, splice, partA, pureStep, memStep, resOf, resAll, resA, nilckA, bne, ↓reduceIte, Nat.reduceEqDiff, reduceCtorEq, Int.reduceToNat, Int.reduceNeg, Nat.reduceLeDiff]
        refine WO_callP rfl hst.ext (p53 (h.ext hst.ext) (by omega) p (by omega)) ?_
        rintro v H2 hx3 hx4 rfl
        simp (disch := first | omega | assumption | (simp only [zl] <;> omega) | fail) only [zd, zs, seval, AV.undef, unA, fillA, evParts, repCells, splice, partA, pureStep, memStep, resOf, resAll, resA, nilckA, bne, ↓reduceIte, Nat.reduceEqDiff, reduceCtorEq, Int.reduceToNat, Int.reduceNeg, Nat.reduceLeDiff]
        have hnx := hI.next hlt
        have hrow := hx4.row _ _ hst.row
        have hres := hx4.row _ _ hst.res
        have hl2 := hOf_is_lt hrow
        refine WC_ndec (fun g => ?_) (fun g => ?_)
        · have hd := hdm1 (hnx.1 g)
          have lres := load_row hres true 3 0
          have wres := wr_at hres rfl 0
          simp (disch := first | omega | assumption | (simp only [zl] <;> omega) | fail) only [k0, k2, k4, k5, k7, k8, wres, zd, zs, seval, AV.undef, unA, fillA, evParts, repCells, splice, partA, pureStep, memStep, resOf, resAll, resA, nilckA, bne, ↓reduceIte, Nat.reduceEqDiff, reduceCtorEq, Int.reduceToNat, Int.reduceNeg, Nat.reduceLeDiff]
          exact ⟨hx3.set (Nat.le_refl _) _, by rw [hd]; rfl⟩
        · have hr := rdU_range bs p g
          have lrow := load_row hrow false 1 1
          obtain ⟨sl', H3, w, e1, hrow3, elo, hst3⟩ := RdSt.add ⟨hx3, hres, hrow, hst.own.ext hx4⟩ (zag (rdU bs p).1) (by omega)
          obtain ⟨a2, rfl, hse2⟩ := hst3.own.se
          have wrow := wr_at hrow3 rfl 1
          simp (disch := first | omega | assumption | (simp only [zl] <;> omega) | fail) only [k0, k2, k4, k5, k7, k8, lrow, e1, elo, wrow, zd, zs, seval, AV.undef, unA, fillA, evParts, repCells, splice, partA, pureStep, memStep, resOf, resAll, resA, nilckA, bne, ↓reduceIte, Nat.reduceEqDiff, reduceCtorEq, Int.reduceToNat, Int.reduceNeg, Nat.reduceLeDiff]
          exact ⟨_, by omega, j + 1, _, _, _, rfl, by omega, rfl, rfl, ⟨hst3, by simp [hxl], by omega, hr.2, hnx.2 g⟩⟩
      · have hjN : j = N := by omega
        subst hjN
        obtain ⟨q, rfl⟩ : ∃ q : Nat, p = q := ⟨p.toNat, by omega⟩
        have htot := hI.tot
        rw [Nat.sub_self, rdInts] at htot
        simp only [Option.map_some, List.append_nil] at htot
        have hdm := hdm2 _ _ htot.symm
        rw [Int.toNat_natCast] at hdm
        obtain ⟨a', c', t1, t2⟩ := rest_text (h.ext hst.ext) (l := q) (by omega)
        have lrow := load_row hst.row
        have hl2 := hOf_is_lt hst.row
        have wrow := wr_at hst.row rfl 2
        simp (disch := first | omega | assumption | (simp only [zl] <;> omega) | fail) only [k0, k2, k4, k5, k7, k8, t1, t2, wrow, zd, zs, seval, AV.undef, unA, fillA, evParts, repCells, splice, partA, pureStep, memStep, resOf, resAll, resA, nilckA, bne, ↓reduceIte, Nat.reduceEqDiff, reduceCtorEq, Int.reduceToNat, Int.reduceNeg, Nat.reduceLeDiff]
        obtain ⟨a2, rfl, hse⟩ := hst.own.se
        have hown2 := hst.own.set (b := H.length + 1) (by omega) (.row ⟨[.int .i64 b.toNat, .slice a2 xs.length none, .str (bs.drop q)], true, 0⟩)
        have hext2 := hst.ext.set (i := H.length + 1) (by omega) (.row ⟨[.int .i64 b.toNat, .slice a2 xs.length none, .str (bs.drop q)], true, 0⟩)
        have hrow2 : hOf (List.set H' (H.length + 1) (.row ⟨[.int .i64 b.toNat, .slice a2 xs.length none, .str (bs.drop q)], true, 0⟩)) (H.length + 1) = some _ := hOf_set_eq rfl hl2 _
        have hres2 : hOf (List.set H' (H.length + 1) (.row ⟨[.int .i64 b.toNat, .slice a2 xs.length none, .str (bs.drop q)], true, 0⟩)) H.length = some _ := (hOf_set_ne (by omega) _).trans hst.res
        obtain ⟨a3, e3, hse2⟩ := hown2.se
        cases e3
        refine WO_callP rfl hext2 (p54 (m := ⟨b.toNat, xs, bs.drop q⟩) ⟨_, _, _, rfl, hse2⟩ (by simp; omega)) ?_
        rintro v H2 hx3 hx4 rfl
        have hrow3 := hx4.row _ _ hrow2
        have hres3 := hx4.row _ _ hres2
        have lrow3 := load_row hrow3 true 3 0
        have wres3 := wr_at hres3 rfl 0
        have hl3 := hOf_is_lt hres3
        simp (disch := first | omega | assumption | (simp only [zl] <;> omega) | fail) only [zd, zs, seval, AV.undef, unA, fillA, evParts, repCells, splice, partA, pureStep, memStep, resOf, resAll, resA, nilckA, bne, ↓reduceIte, Nat.reduceEqDiff, reduceCtorEq, Int.reduceToNat, Int.reduceNeg, Nat.reduceLeDiff]
        refine WC_not (fun g => ?_) (fun g => ?_)
        · simp (disch := first | omega | assumption | (simp only [zl] <;> omega) | fail) only [k2, k4, wres3, lrow3, zd, zs, seval, AV.undef, unA, fillA, evParts, repCells, splice, partA, pureStep, memStep, resOf, resAll, resA, nilckA, bne, ↓reduceIte, Nat.reduceEqDiff, reduceCtorEq, Int.reduceToNat, Int.reduceNeg, Nat.reduceLeDiff]
          exact ⟨hx3.set (Nat.le_refl _) _, by rw [hdm, g]; rfl⟩
        · simp (disch := first | omega | assumption | (simp only [zl] <;> omega) | fail) only [k2, k4, wres3, lrow3, zd, zs, seval, AV.undef, unA, fillA, evParts, repCells, splice, partA, pureStep, memStep, resOf, resAll, resA, nilckA, bne, ↓reduceIte, Nat.reduceEqDiff, reduceCtorEq, Int.reduceToNat, Int.reduceNeg, Nat.reduceLeDiff]
          refine ⟨hx3.set (Nat.le_refl _) _, ?_⟩
          rw [hdm, g]
          exact ⟨_, rfl, ((hown2.ext hx4).set (by omega) _).lo (by omega)⟩
    · exact hx2.row _ _ (by rw [hOf_new_ne (by rw [len_newRow]; omega), hOf_new_eq rfl])
    · exact hx2.row _ _ (by rw [hOf_new_eq (by rw [len_newRow])])
end Go.Proofs.Qq.Qqd

namespace Go.Proofs.Qq.Qqd
open Go.Proofs.Qq

set_option maxHeartbeats 4000000 in
/-- message.Decode -/
theorem p13 {H : AHeap} {a : Option (Nat × Nat)} {c : Option Nat} {bs : List UInt8} (h : SE eByte H a bs.length c bs) (hl : bs.length ≤ 1000000) :
    PF T 13 [.slice a bs.length c] H fun r H' => decOut H.length H' r (decM bs) := by
  refine PF_code rfl _ _ _ ?_
  simp only [a13]
  cases bs with
  | nil =>
    simp (disch := first | omega | assumption | (simp only [zl] <;> omega) | fail) only [zd, zs, seval, AV.undef, unA, fillA, evParts, repCells, splice, partA, pureStep, memStep, resOf, resAll, resA, nilckA, bne, ↓reduceIte, Nat.reduceEqDiff, reduceCtorEq, Int.reduceToNat, Int.reduceNeg, Nat.reduceLeDiff]
    exact ⟨(Ext.refl _).nr, rfl⟩
  | cons b bs' =>
    generalize hbs : b :: bs' = bs at h hl ⊢
    have h0 : bs[0]? = some b := by rw [← hbs]; rfl
    have hpos : 0 < bs.length := by rw [← hbs]; simp
    obtain ⟨i, o, rfl, hi, l1⟩ := h.at1 rfl h0 rfl
    rw [Nat.add_zero] at l1
    have c0 : ¬ (bs.length : Int) = 0 := by omega
    have hb256 : b.toNat < 256 := b.toNat_lt
    simp (disch := first | omega | assumption | (simp only [zl] <;> omega) | fail) only [c0, l1, Int.reduceToNat, Nat.zero_mul, zd, zs, seval, AV.undef, unA, fillA, evParts, repCells, splice, partA, pureStep, memStep, resOf, resAll, resA, nilckA, bne, ↓reduceIte, Nat.reduceEqDiff, reduceCtorEq, Int.reduceToNat, Int.reduceNeg, Nat.reduceLeDiff]
    refine WO_callP rfl (Ext.refl _).nr.nr (p51 _ _) ?_
    rintro v H1 hx1 hx2 rfl
    have hN := msgSize_le (b.toNat : Int)
    have hdm1 : rdInts bs (msgSize b.toNat).1.toNat 1 = none → decM bs = none := by rw [← hbs]; exact decM_none b bs'
    have hdm2 : ∀ l q, rdInts bs (msgSize b.toNat).1.toNat 1 = some (l, q) → decM bs = if mright ⟨b.toNat, l, bs.drop q.toNat⟩ then some ⟨b.toNat, l, bs.drop q.toNat⟩ else none := by rw [← hbs]; exact decM_some b bs'
    obtain ⟨N, hNe⟩ : ∃ N : Nat, (msgSize b.toNat).1 = (N : Int) := ⟨(msgSize b.toNat).1.toNat, by omega⟩
    rw [hNe] at hN hdm1 hdm2
    rw [Int.toNat_natCast] at hdm1 hdm2
    simp (disch := first | omega | assumption | (simp only [zl] <;> omega) | fail) only [hNe, zd, zs, seval, AV.undef, unA, fillA, evParts, repCells, splice, partA, pureStep, memStep, resOf, resAll, resA, nilckA, bne, ↓reduceIte, Nat.reduceEqDiff, reduceCtorEq, Int.reduceToNat, Int.reduceNeg, Nat.reduceLeDiff]
    refine WC_range N (by omega) (by decide) (by decide) (by decide) (by decide) (by decide) (fun j e H' l => ∃ p sl xs, e 0 = .slice (some (i, o)) bs.length c ∧ e 2 = .ptr (some (H.length, 0)) ∧ e 4 = .ptr (some (H.length + 1, 0)) ∧ e 7 = .int .i64 p ∧ l = H.length ∧ DecInv bs H b.toNat N j p H' sl xs) _ _ _ rfl rfl
      ⟨1, .slice none 0 none, [], rfl, rfl, rfl, rfl, rfl, ⟨⟨hx1, ?_, ?_, Own.nil _ _ _⟩, rfl, by omega, by omega, by simp⟩⟩ ?_ ?_
    rotate_left 2
    · rintro j e H' lw hlt k8 k5 ⟨p, sl, xs, k0, k2, k4, k7, rfl, hI⟩
      have hp1 := hI.p1
      have hp2 := hI.p2
      have hxl := hI.xl
      have hst := hI.st
      · simp (disch := first | omega | assumption | (simp only [zl] <;> omega) | fail) only [k0, k2, k4, k5, k7, k8, zd, zs, seval, AV.undef, unA, fillA, evParts, repCells, splice, partA, pureStep, memStep, resOf, resAll, resA, nilckA, bne, ↓reduceIte, Nat.reduceEqDiff, reduceCtorEq, Int.reduceToNat, Int.reduceNeg, Nat.reduceLeDiff]
        refine WO_callP rfl hst.ext (p55 (h.ext hst.ext) (by omega) p) ?_
        rintro v H2 hx3 hx4 rfl
        simp (disch := first | omega | assumption | (simp only [zl] <;> omega) | fail) only [zd, zs, seval, AV.undef, unA, fillA, evParts, repCells, splice, partA, pureStep, memStep, resOf, resAll, resA, nilckA, bne, ↓reduceIte, Nat.reduceEqDiff, reduceCtorEq, Int.reduceToNat, Int.reduceNeg, Nat.reduceLeDiff]
        have hnx := hI.next hlt
        have hrow := hx4.row _ _ hst.row
        have hres := hx4.row _ _ hst.res
        have hl2 := hOf_is_lt hrow
        refine WC_ndec (fun g => ?_) (fun g => ?_)
        · have hd := hdm1 (hnx.1 g)
          have lres := load_row hres true 3 0
          have wres := wr_at hres rfl 0
          simp (disch := first | omega | assumption | (simp only [zl] <;> omega) | fail) only [k0, k2, k4, k5, k7, k8, wres, zd, zs, seval, AV.undef, unA, fillA, evParts, repCells, splice, partA, pureStep, memStep, resOf, resAll, resA, nilckA, bne, ↓reduceIte, Nat.reduceEqDiff, reduceCtorEq, Int.reduceToNat, Int.reduceNeg, Nat.reduceLeDiff]
          exact ⟨hx3.set (Nat.le_refl _) _, by rw [hd]; rfl⟩
        · have hr := rdU_range bs p g
          have lrow := load_row hrow false 1 1
          obtain ⟨sl', H3, w, e1, hrow3, elo, hst3⟩ := RdSt.add ⟨hx3, hres, hrow, hst.own.ext hx4⟩ (zag (rdU bs p).1) (by omega)
          obtain ⟨a2, rfl, hse2⟩ := hst3.own.se
          have wrow := wr_at hrow3 rfl 1
          simp (disch := first | omega | assumption | (simp only [zl] <;> omega) | fail) only [k0, k2, k4, k5, k7, k8, lrow, e1, elo, wrow, zd, zs, seval, AV.undef, unA, fillA, evParts, repCells, splice, partA, pureStep, memStep, resOf, resAll, resA, nilckA, bne, ↓reduceIte, Nat.reduceEqDiff, reduceCtorEq, Int.reduceToNat, Int.reduceNeg, Nat.reduceLeDiff]
          exact ⟨_, _, _, rfl, ⟨hst3, by simp [hxl], by omega, hr.2, hnx.2 g⟩⟩
    · rintro e H' lw k8 k5 ⟨p, sl, xs, k0, k2, k4, k7, rfl, hI⟩
      have hp1 := hI.p1
      have hp2 := hI.p2
      have hxl := hI.xl
      have hst := hI.st
      generalize hjN : N = j at hI hxl
      · subst hjN
        obtain ⟨q, rfl⟩ : ∃ q : Nat, p = q := ⟨p.toNat, by omega⟩
        have htot := hI.tot
        rw [Nat.sub_self, rdInts] at htot
        simp only [Option.map_some, List.append_nil] at htot
        have hdm := hdm2 _ _ htot.symm
        rw [Int.toNat_natCast] at hdm
        obtain ⟨a', c', t1, t2⟩ := rest_text (h.ext hst.ext) (l := q) (by omega)
        have lrow := load_row hst.row
        have hl2 := hOf_is_lt hst.row
        have wrow := wr_at hst.row rfl 2
        simp (disch := first | omega | assumption | (simp only [zl] <;> omega) | fail) only [k0, k2, k4, k5, k7, k8, t1, t2, wrow, zd, zs, seval, AV.undef, unA, fillA, evParts, repCells, splice, partA, pureStep, memStep, resOf, resAll, resA, nilckA, bne, ↓reduceIte, Nat.reduceEqDiff, reduceCtorEq, Int.reduceToNat, Int.reduceNeg, Nat.reduceLeDiff]
        obtain ⟨a2, rfl, hse⟩ := hst.own.se
        have hown2 := hst.own.set (b := H.length + 1) (by omega) (.row ⟨[.int .i64 b.toNat, .slice a2 xs.length none, .str (bs.drop q)], true, 0⟩)
        have hext2 := hst.ext.set (i := H.length + 1) (by omega) (.row ⟨[.int .i64 b.toNat, .slice a2 xs.length none, .str (bs.drop q)], true, 0⟩)
        have hrow2 : hOf (List.set H' (H.length + 1) (.row ⟨[.int .i64 b.toNat, .slice a2 xs.length none, .str (bs.drop q)], true, 0⟩)) (H.length + 1) = some _ := hOf_set_eq rfl hl2 _
        have hres2 : hOf (List.set H' (H.length + 1) (.row ⟨[.int .i64 b.toNat, .slice a2 xs.length none, .str (bs.drop q)], true, 0⟩)) H.length = some _ := (hOf_set_ne (by omega) _).trans hst.res
        obtain ⟨a3, e3, hse2⟩ := hown2.se
        cases e3
        refine WO_callP rfl hext2 (p17 (m := ⟨b.toNat, xs, bs.drop q⟩) ⟨_, _, _, rfl, hse2⟩ (by simp; omega)) ?_
        rintro v H2 hx3 hx4 rfl
        have hrow3 := hx4.row _ _ hrow2
        have hres3 := hx4.row _ _ hres2
        have lrow3 := load_row hrow3 true 3 0
        have wres3 := wr_at hres3 rfl 0
        have hl3 := hOf_is_lt hres3
        simp (disch := first | omega | assumption | (simp only [zl] <;> omega) | fail) only [zd, zs, seval, AV.undef, unA, fillA, evParts, repCells, splice, partA, pureStep, memStep, resOf, resAll, resA, nilckA, bne, ↓reduceIte, Nat.reduceEqDiff, reduceCtorEq, Int.reduceToNat, Int.reduceNeg, Nat.reduceLeDiff]
        refine WC_not (fun g => ?_) (fun g => ?_)
        · simp (disch := first | omega | assumption | (simp only [zl] <;> omega) | fail) only [k2, k4, wres3, lrow3, zd, zs, seval, AV.undef, unA, fillA, evParts, repCells, splice, partA, pureStep, memStep, resOf, resAll, resA, nilckA, bne, ↓reduceIte, Nat.reduceEqDiff, reduceCtorEq, Int.reduceToNat, Int.reduceNeg, Nat.reduceLeDiff]
          exact ⟨hx3.set (Nat.le_refl _) _, by rw [hdm, g]; rfl⟩
        · simp (disch := first | omega | assumption | (simp only [zl] <;> omega) | fail) only [k2, k4, wres3, lrow3, zd, zs, seval, AV.undef, unA, fillA, evParts, repCells, splice, partA, pureStep, memStep, resOf, resAll, resA, nilckA, bne, ↓reduceIte, Nat.reduceEqDiff, reduceCtorEq, Int.reduceToNat, Int.reduceNeg, Nat.reduceLeDiff]
          refine ⟨hx3.set (Nat.le_refl _) _, ?_⟩
          rw [hdm, g]
          exact ⟨_, rfl, ((hown2.ext hx4).set (by omega) _).lo (by omega)⟩
    · exact hx2.row _ _ (by rw [hOf_new_ne (by rw [len_newRow]; omega), hOf_new_eq rfl])
    · exact hx2.row _ _ (by rw [hOf_new_eq (by rw [len_newRow])])

end Go.Proofs.Qq.Qqd

namespace Go.Proofs.Qq.Qqd
open Go.Proofs.Qq

theorem msg_eq (m k : Msg) : decide (m = k) = (decide (m.kind = k.kind) && (decide (m.text = k.text) && decide (m.l = k.l))) := by
  rw [Bool.eq_iff_iff]
  simp only [Bool.and_eq_true, decide_eq_true_iff]
  constructor
  · rintro rfl; exact ⟨rfl, rfl, rfl⟩
  · rintro ⟨h1, h2, h3⟩
    cases m; cases k; simp_all

/-- message.Same -/
theorem p19 {H : AHeap} {v w : AV} {m k : Msg} (h : MV H v m) (h' : MV H w k) (hl : m.l.length ≤ 9223372036854775806) : PF T 19 [v, w] H fun r _ => r = .bool (decide (m = k)) := by
  obtain ⟨a, n, c, rfl, hs⟩ := h.ex
  obtain ⟨a', n', c', rfl, hs'⟩ := h'.ex
  refine PF_code rfl _ _ _ ?_
  rw [msg_eq]
  simp only [a19]
  by_cases h1 : m.kind = k.kind
  · by_cases h2 : m.text = k.text
    · simp (disch := first | omega | assumption | (simp only [zl] <;> omega) | fail) only [h1, h2, zd, zs, seval, AV.undef, unA, fillA, evParts, repCells, splice, partA, pureStep, memStep, resOf, resAll, resA, nilckA, bne, ↓reduceIte, Nat.reduceEqDiff, reduceCtorEq, Int.reduceToNat, Int.reduceNeg, Nat.reduceLeDiff]
      refine WO_callP rfl (Ext.refl _).nr.nr (equal_ok (E := eInt) (xs := m.l) (ys := k.l) (f := 58) rfl cmpInt (hs.ext (Ext.refl _).nr.nr) (hs'.ext (Ext.refl _).nr.nr) hl) ?_
      rintro v H1 hx1 hx2 rfl
      simp (disch := first | omega | assumption | (simp only [zl] <;> omega) | fail) only [zd, zs, seval, AV.undef, unA, fillA, evParts, repCells, splice, partA, pureStep, memStep, resOf, resAll, resA, nilckA, bne, ↓reduceIte, Nat.reduceEqDiff, reduceCtorEq, Int.reduceToNat, Int.reduceNeg, Nat.reduceLeDiff]
      exact ⟨hx1, by simp⟩
    · simp (disch := first | omega | assumption | (simp only [zl] <;> omega) | fail) only [h1, h2, zd, zs, seval, AV.undef, unA, fillA, evParts, repCells, splice, partA, pureStep, memStep, resOf, resAll, resA, nilckA, bne, ↓reduceIte, Nat.reduceEqDiff, reduceCtorEq, Int.reduceToNat, Int.reduceNeg, Nat.reduceLeDiff]
      exact ⟨(Ext.refl _).nr.nr, by simp⟩
  · simp (disch := first | omega | assumption | (simp only [zl] <;> omega) | fail) only [h1, zd, zs, seval, AV.undef, unA, fillA, evParts, repCells, splice, partA, pureStep, memStep, resOf, resAll, resA, nilckA, bne, ↓reduceIte, Nat.reduceEqDiff, reduceCtorEq, Int.reduceToNat, Int.reduceNeg, Nat.reduceLeDiff]
    exact ⟨(Ext.refl _).nr.nr, by simp⟩

/-- barrowlaw12.few -/
theorem p15 {H : AHeap} {v : AV} {m : Msg} (h : MV H v m) : PF T 15 [v] H fun r _ => r = .bool (decide (m.l.length ≤ 100) && decide (m.text.length ≤ 1024)) := by
  obtain ⟨a, n, c, rfl, hs⟩ := h.ex
  obtain rfl := hs.n
  refine PF_code rfl _ _ _ ?_
  simp only [a15]
  by_cases h1 : m.l.length ≤ 100
  · by_cases h2 : m.text.length ≤ 1024
    · simp (disch := first | omega | assumption | (simp only [zl] <;> omega) | fail) only [zd, zs, seval, AV.undef, unA, fillA, evParts, repCells, splice, partA, pureStep, memStep, resOf, resAll, resA, nilckA, bne, ↓reduceIte, Nat.reduceEqDiff, reduceCtorEq, Int.reduceToNat, Int.reduceNeg, Nat.reduceLeDiff]
      exact ⟨(Ext.refl _).nr, by simp [h1, h2]⟩
    · simp (disch := first | omega | assumption | (simp only [zl] <;> omega) | fail) only [zd, zs, seval, AV.undef, unA, fillA, evParts, repCells, splice, partA, pureStep, memStep, resOf, resAll, resA, nilckA, bne, ↓reduceIte, Nat.reduceEqDiff, reduceCtorEq, Int.reduceToNat, Int.reduceNeg, Nat.reduceLeDiff]
      exact ⟨(Ext.refl _).nr, by simp [h1, h2]⟩
  · simp (disch := first | omega | assumption | (simp only [zl] <;> omega) | fail) only [zd, zs, seval, AV.undef, unA, fillA, evParts, repCells, splice, partA, pureStep, memStep, resOf, resAll, resA, nilckA, bne, ↓reduceIte, Nat.reduceEqDiff, reduceCtorEq, Int.reduceToNat, Int.reduceNeg, Nat.reduceLeDiff]
    exact ⟨(Ext.refl _).nr, by simp [h1]⟩

set_option maxHeartbeats 1000000 in
/-- barrowref12.Same -/
theorem p14 {H : AHeap} {v w : AV} {m k : Msg} (h : MV H v m) (h' : MV H w k) (hl : m.l.length ≤ 9223372036854775806) : PF T 14 [v, w] H fun r _ => r = .bool (decide (m = k)) := by
  obtain ⟨a, n, c, rfl, hs⟩ := h.ex
  obtain ⟨a', n', c', rfl, hs'⟩ := h'.ex
  obtain rfl := hs.n
  obtain rfl := hs'.n
  refine PF_code rfl _ _ _ ?_
  rw [msg_eq]
  simp only [a14]
  by_cases h1 : m.kind = k.kind
  · by_cases h2 : m.text = k.text
    · by_cases h3 : m.l.length = k.l.length
      · simp (disch := first | omega | assumption | (simp only [zl] <;> omega) | fail) only [h1, h2, h3, zd, zs, seval, AV.undef, unA, fillA, evParts, repCells, splice, partA, pureStep, memStep, resOf, resAll, resA, nilckA, bne, ↓reduceIte, Nat.reduceEqDiff, reduceCtorEq, Int.reduceToNat, Int.reduceNeg, Nat.reduceLeDiff]
        generalize hH : newRow (newRow H [.int .i64 k.kind, .slice a k.l.length c, .str k.text] 0) [.int .i64 k.kind, .slice a' k.l.length c', .str k.text] 0 = H1
        have hx : Ext H H1 := hH ▸ (Ext.refl _).nr.nr
        have r1 : hOf H1 H.length = some ⟨[.int .i64 k.kind, .slice a k.l.length c, .str k.text], true, 0⟩ := by rw [← hH, hOf_new_ne (by rw [len_newRow]; omega), hOf_new_eq rfl]
        have r2 : hOf H1 (H.length + 1) = some ⟨[.int .i64 k.kind, .slice a' k.l.length c', .str k.text], true, 0⟩ := by rw [← hH, hOf_new_eq (by rw [len_newRow])]
        have l1 := load_row r1
        have l2 := load_row r2
        refine WC_loop (fun n s => ∃ j, n = k.l.length - j ∧ j ≤ k.l.length ∧ s.env 2 = .ptr (some (H.length, 0)) ∧ s.env 3 = .ptr (some (H.length + 1, 0)) ∧ s.env 5 = .int .i64 (j : Int) ∧ s.heap = H1 ∧ s.low = H.length ∧ m.l.take j = k.l.take j) ?_ k.l.length _ ⟨0, rfl, by omega, rfl, rfl, rfl, rfl, rfl, rfl⟩
        rintro n ⟨e, H', lw⟩ ⟨j, hn, hj, k2, k3, k5, rfl, rfl, ht⟩
        simp only [] at k2 k3 k5
        by_cases hlt : j < k.l.length
        · obtain ⟨x, hx1⟩ : ∃ x, m.l[j]? = some x := ⟨m.l[j]'(by omega), List.getElem?_eq_getElem (by omega)⟩
          obtain ⟨y, hy⟩ : ∃ x, k.l[j]? = some x := ⟨k.l[j], List.getElem?_eq_getElem hlt⟩
          obtain ⟨i, o, rfl, _, q1⟩ := (hs.ext hx).at1 rfl hx1 rfl
          obtain ⟨i', o', rfl, _, q2⟩ := (hs'.ext hx).at1 rfl hy rfl
          simp (disch := first | omega | assumption | (simp only [zl] <;> omega) | fail) only [k2, k3, k5, l1, l2, q1, q2, zd, zs, seval, AV.undef, unA, fillA, evParts, repCells, splice, partA, pureStep, memStep, resOf, resAll, resA, nilckA, bne, ↓reduceIte, Nat.reduceEqDiff, reduceCtorEq, Int.reduceToNat, Int.reduceNeg, Nat.reduceLeDiff]
          refine WC_ndec (fun g => ?_) (fun g => ?_)
          · simp (disch := first | omega | assumption | (simp only [zl] <;> omega) | fail) only [zd, zs, seval, AV.undef, unA, fillA, evParts, repCells, splice, partA, pureStep, memStep, resOf, resAll, resA, nilckA, bne, ↓reduceIte, Nat.reduceEqDiff, reduceCtorEq, Int.reduceToNat, Int.reduceNeg, Nat.reduceLeDiff]
            refine ⟨hx, ?_⟩
            have : m.l ≠ k.l := fun e => by rw [e, hy] at hx1; exact g (Option.some.inj hx1).symm
            simp [this]
          · simp (disch := first | omega | assumption | (simp only [zl] <;> omega) | fail) only [k2, k3, k5, zd, zs, seval, AV.undef, unA, fillA, evParts, repCells, splice, partA, pureStep, memStep, resOf, resAll, resA, nilckA, bne, ↓reduceIte, Nat.reduceEqDiff, reduceCtorEq, Int.reduceToNat, Int.reduceNeg, Nat.reduceLeDiff]
            exact ⟨_, by omega, j + 1, rfl, by omega, rfl, by rw [List.take_add_one, List.take_add_one, hx1, hy, ht, g]⟩
        · have hjn : j = k.l.length := by omega
          subst hjn
          simp (disch := first | omega | assumption | (simp only [zl] <;> omega) | fail) only [k2, k3, k5, l1, l2, zd, zs, seval, AV.undef, unA, fillA, evParts, repCells, splice, partA, pureStep, memStep, resOf, resAll, resA, nilckA, bne, ↓reduceIte, Nat.reduceEqDiff, reduceCtorEq, Int.reduceToNat, Int.reduceNeg, Nat.reduceLeDiff]
          refine ⟨hx, ?_⟩
          rw [List.take_length, ← h3, List.take_length] at ht
          simp [ht]
      · have h3' : ¬ ((m.l.length : Nat) : Int) = ((k.l.length : Nat) : Int) := by omega
        simp (disch := first | omega | assumption | (simp only [zl] <;> omega) | fail) only [h1, h2, h3', zd, zs, seval, AV.undef, unA, fillA, evParts, repCells, splice, partA, pureStep, memStep, resOf, resAll, resA, nilckA, bne, ↓reduceIte, Nat.reduceEqDiff, reduceCtorEq, Int.reduceToNat, Int.reduceNeg, Nat.reduceLeDiff]
        refine ⟨(Ext.refl _).nr.nr, ?_⟩
        have : m.l ≠ k.l := fun e => h3 (by rw [e])
        simp [this]
    · simp (disch := first | omega | assumption | (simp only [zl] <;> omega) | fail) only [h1, h2, zd, zs, seval, AV.undef, unA, fillA, evParts, repCells, splice, partA, pureStep, memStep, resOf, resAll, resA, nilckA, bne, ↓reduceIte, Nat.reduceEqDiff, reduceCtorEq, Int.reduceToNat, Int.reduceNeg, Nat.reduceLeDiff]
      exact ⟨(Ext.refl _).nr.nr, by simp⟩
  · simp (disch := first | omega | assumption | (simp only [zl] <;> omega) | fail) only [h1, zd, zs, seval, AV.undef, unA, fillA, evParts, repCells, splice, partA, pureStep, memStep, resOf, resAll, resA, nilckA, bne, ↓reduceIte, Nat.reduceEqDiff, reduceCtorEq, Int.reduceToNat, Int.reduceNeg, Nat.reduceLeDiff]
    exact ⟨(Ext.refl _).nr.nr, by simp⟩
end Go.Proofs.Qq.Qqd

namespace Go.Proofs.Qq.Qqd
open Go.Proofs.Qq

/-! ### The order of texts -/
abbrev bl := Op.bytesLess
theorem bl_irr : ∀ x : List UInt8, bl x x = false
  | [] => rfl
  | a :: x => by simp [bl, Op.bytesLess]; exact bl_irr x
theorem bl_trans : ∀ x y z : List UInt8, bl x y = true → bl y z = true → bl x z = true
  | _, [], _, h, _ => by simp [bl, Op.bytesLess] at h
  | _, _ :: _, [], _, h => by simp [bl, Op.bytesLess] at h
  | [], _ :: _, _ :: _, _, _ => rfl
  | a :: x, b :: y, c :: z, h1, h2 => by
    simp only [bl, Op.bytesLess, Bool.or_eq_true, Bool.and_eq_true, decide_eq_true_iff, beq_iff_eq] at h1 h2 ⊢
    rcases h1 with h1 | ⟨rfl, h1⟩ <;> rcases h2 with h2 | ⟨rfl, h2⟩
    · exact .inl (UInt8.lt_trans h1 h2)
    · exact .inl h1
    · exact .inl h2
    · exact .inr ⟨rfl, bl_trans x y z h1 h2⟩
theorem bl_tri : ∀ x y : List UInt8, bl x y = false → bl y x = false → x = y
  | [], [], _, _ => rfl
  | [], _ :: _, h, _ => by simp [bl, Op.bytesLess] at h
  | _ :: _, [], _, h => by simp [bl, Op.bytesLess] at h
  | a :: x, b :: y, h1, h2 => by
    simp only [bl, Op.bytesLess, Bool.or_eq_false_iff, decide_eq_false_iff_not, Bool.and_eq_false_iff, beq_eq_false_iff_ne, ne_eq] at h1 h2
    have hab : a = b := by
      apply UInt8.toNat_inj.1
      have q1 := h1.1; have q2 := h2.1
      rw [UInt8.lt_iff_toNat_lt] at q1 q2
      omega
    subst hab
    have r1 := h1.2.resolve_left (fun h => h rfl)
    have r2 := h2.2.resolve_left (fun h => h rfl)
    rw [bl_tri x y r1 r2]
theorem bl_asym (x y : List UInt8) (h : bl x y = true) : bl y x = false := by
  cases h' : bl y x with
  | false => rfl
  | true => have := bl_trans x y x h h'; rw [bl_irr] at this; cases this

structure Lock where
  name : List UInt8
  foe : Int
  till : Int
  deriving DecidableEq
def eLock : Flat Lock := ⟨true, 3, fun x => [.str x.name, .int .i64 x.foe, .int .i64 x.till], fun _ => rfl, by decide, fun h => by cases h⟩
theorem eLock_val (x : Lock) : eLock.val x = .agg [.str x.name, .int .i64 x.foe, .int .i64 x.till] := rfl

/-- Does one stand ahead of another? -/
def Lock.lt (a b : Lock) : Bool := bl a.name b.name || (decide (a.name = b.name) && decide (a.foe < b.foe))
theorem Lock.lt_irr (a : Lock) : a.lt a = false := by simp [Lock.lt, bl_irr]
theorem Lock.lt_trans {a b c : Lock} (h1 : a.lt b = true) (h2 : b.lt c = true) : a.lt c = true := by
  simp only [Lock.lt, Bool.or_eq_true, Bool.and_eq_true, decide_eq_true_iff] at h1 h2 ⊢
  rcases h1 with h1 | ⟨h1, h3⟩ <;> rcases h2 with h2 | ⟨h2, h4⟩
  · exact .inl (bl_trans _ _ _ h1 h2)
  · exact .inl (h2 ▸ h1)
  · exact .inl (h1 ▸ h2)
  · exact .inr ⟨h1.trans h2, by omega⟩
theorem Lock.lt_tri {a b : Lock} (h1 : a.lt b = false) (h2 : b.lt a = false) : a.name = b.name ∧ a.foe = b.foe := by
  simp only [Lock.lt, Bool.or_eq_false_iff, Bool.and_eq_false_iff, decide_eq_false_iff_not] at h1 h2
  have hn := bl_tri _ _ h1.1 h2.1
  have q1 := h1.2.resolve_left (fun h => h hn)
  have q2 := h2.2.resolve_left (fun h => h hn.symm)
  exact ⟨hn, by omega⟩
theorem Lock.lt_same {a b : Lock} (h : a.name = b.name) (h' : a.foe = b.foe) : a.lt b = false := by simp [Lock.lt, h, h', bl_irr]
theorem Lock.lt_asym {a b : Lock} (h : a.lt b = true) : b.lt a = false := by
  cases h' : b.lt a with
  | false => rfl
  | true => have := Lock.lt_trans h h'; rw [Lock.lt_irr] at this; cases this

def ordI (a b : Lock) : Int := if a.lt b = true then -1 else if b.lt a = true then 1 else 0

theorem p114 (s : List UInt8) (H : AHeap) : PF T 114 [.str s] H fun r H' => r = .bool false ∧ H = H' := by
  refine PF_code rfl _ _ _ ?_
  simp only [a114]
  simp (disch := first | omega | assumption | (simp only [zl] <;> omega) | fail) only [zd, zs, seval, AV.undef, unA, fillA, evParts, repCells, splice, partA, pureStep, memStep, resOf, resAll, resA, nilckA, bne, ↓reduceIte, Nat.reduceEqDiff, reduceCtorEq, Int.reduceToNat, Int.reduceNeg, Nat.reduceLeDiff]
  exact Ext.refl _
theorem p115 (s : Int) (H : AHeap) : PF T 115 [.int .i64 s] H fun r H' => r = .bool false ∧ H = H' := by
  refine PF_code rfl _ _ _ ?_
  simp only [a115]
  simp (disch := first | omega | assumption | (simp only [zl] <;> omega) | fail) only [zd, zs, seval, AV.undef, unA, fillA, evParts, repCells, splice, partA, pureStep, memStep, resOf, resAll, resA, nilckA, bne, ↓reduceIte, Nat.reduceEqDiff, reduceCtorEq, Int.reduceToNat, Int.reduceNeg, Nat.reduceLeDiff]
  exact Ext.refl _

def cmpS (x y : List UInt8) : Int := if bl x y = true then -1 else if bl y x = true then 1 else 0
def cmpI (x y : Int) : Int := if x < y then -1 else if y < x then 1 else 0

theorem p93 (x y : List UInt8) (H : AHeap) : PF T 93 [.str x, .str y] H fun r H' => r = .int .i64 (cmpS x y) ∧ H = H' := by
  refine PF_code rfl _ _ _ ?_
  simp only [a93]
  simp (disch := first | omega | assumption | (simp only [zl] <;> omega) | fail) only [zd, zs, seval, AV.undef, unA, fillA, evParts, repCells, splice, partA, pureStep, memStep, resOf, resAll, resA, nilckA, bne, ↓reduceIte, Nat.reduceEqDiff, reduceCtorEq, Int.reduceToNat, Int.reduceNeg, Nat.reduceLeDiff]
  refine WO_callP rfl (Ext.refl _) (p114 x _) ?_
  rintro v _ _ _ ⟨rfl, rfl⟩
  simp (disch := first | omega | assumption | (simp only [zl] <;> omega) | fail) only [zd, zs, seval, AV.undef, unA, fillA, evParts, repCells, splice, partA, pureStep, memStep, resOf, resAll, resA, nilckA, bne, ↓reduceIte, Nat.reduceEqDiff, reduceCtorEq, Int.reduceToNat, Int.reduceNeg, Nat.reduceLeDiff]
  refine WO_callP rfl (Ext.refl _) (p114 y _) ?_
  rintro v _ _ _ ⟨rfl, rfl⟩
  have e1 : Op.bytesLess x y = bl x y := rfl
  unfold cmpS
  cases h1 : bl x y with
  | true =>
    rw [h1] at e1
    simp (disch := first | omega | assumption | (simp only [zl] <;> omega) | fail) only [e1, zd, zs, seval, AV.undef, unA, fillA, evParts, repCells, splice, partA, pureStep, memStep, resOf, resAll, resA, nilckA, bne, ↓reduceIte, Nat.reduceEqDiff, reduceCtorEq, Int.reduceToNat, Int.reduceNeg, Nat.reduceLeDiff]
    exact Ext.refl _
  | false =>
    rw [h1] at e1
    cases h2 : bl y x with
    | true =>
      have hne : (x == y) = false := by
        rw [beq_eq_false_iff_ne]; rintro rfl; rw [bl_irr] at h2; cases h2
      simp (disch := first | omega | assumption | (simp only [zl] <;> omega) | fail) only [e1, hne, Bool.or_false, zd, zs, seval, AV.undef, unA, fillA, evParts, repCells, splice, partA, pureStep, memStep, resOf, resAll, resA, nilckA, bne, ↓reduceIte, Nat.reduceEqDiff, reduceCtorEq, Int.reduceToNat, Int.reduceNeg, Nat.reduceLeDiff]
      exact Ext.refl _
    | false =>
      have : x = y := bl_tri x y h1 h2
      subst this
      simp (disch := first | omega | assumption | (simp only [zl] <;> omega) | fail) only [e1, Bool.false_or, zd, zs, seval, AV.undef, unA, fillA, evParts, repCells, splice, partA, pureStep, memStep, resOf, resAll, resA, nilckA, bne, ↓reduceIte, Nat.reduceEqDiff, reduceCtorEq, Int.reduceToNat, Int.reduceNeg, Nat.reduceLeDiff]
      exact Ext.refl _

theorem p94 (x y : Int) (H : AHeap) : PF T 94 [.int .i64 x, .int .i64 y] H fun r H' => r = .int .i64 (cmpI x y) ∧ H = H' := by
  refine PF_code rfl _ _ _ ?_
  simp only [a94]
  simp (disch := first | omega | assumption | (simp only [zl] <;> omega) | fail) only [zd, zs, seval, AV.undef, unA, fillA, evParts, repCells, splice, partA, pureStep, memStep, resOf, resAll, resA, nilckA, bne, ↓reduceIte, Nat.reduceEqDiff, reduceCtorEq, Int.reduceToNat, Int.reduceNeg, Nat.reduceLeDiff]
  refine WO_callP rfl (Ext.refl _) (p115 x _) ?_
  rintro v _ _ _ ⟨rfl, rfl⟩
  simp (disch := first | omega | assumption | (simp only [zl] <;> omega) | fail) only [zd, zs, seval, AV.undef, unA, fillA, evParts, repCells, splice, partA, pureStep, memStep, resOf, resAll, resA, nilckA, bne, ↓reduceIte, Nat.reduceEqDiff, reduceCtorEq, Int.reduceToNat, Int.reduceNeg, Nat.reduceLeDiff]
  refine WO_callP rfl (Ext.refl _) (p115 y _) ?_
  rintro v _ _ _ ⟨rfl, rfl⟩
  unfold cmpI
  by_cases h1 : x < y
  · simp (disch := first | omega | assumption | (simp only [zl] <;> omega) | fail) only [zd, zs, seval, AV.undef, unA, fillA, evParts, repCells, splice, partA, pureStep, memStep, resOf, resAll, resA, nilckA, bne, ↓reduceIte, Nat.reduceEqDiff, reduceCtorEq, Int.reduceToNat, Int.reduceNeg, Nat.reduceLeDiff]
    exact Ext.refl _
  · by_cases h2 : y < x
    · simp (disch := first | omega | assumption | (simp only [zl] <;> omega) | fail) only [zd, zs, seval, AV.undef, unA, fillA, evParts, repCells, splice, partA, pureStep, memStep, resOf, resAll, resA, nilckA, bne, ↓reduceIte, Nat.reduceEqDiff, reduceCtorEq, Int.reduceToNat, Int.reduceNeg, Nat.reduceLeDiff]
      exact Ext.refl _
    · simp (disch := first | omega | assumption | (simp only [zl] <;> omega) | fail) only [zd, zs, seval, AV.undef, unA, fillA, evParts, repCells, splice, partA, pureStep, memStep, resOf, resAll, resA, nilckA, bne, ↓reduceIte, Nat.reduceEqDiff, reduceCtorEq, Int.reduceToNat, Int.reduceNeg, Nat.reduceLeDiff]
      exact Ext.refl _

/-- cmp.Or of two. -/
theorem p92 {H : AHeap} {a : Option (Nat × Nat)} {c : Option Nat} {x y : Int} (h : SE eInt H a 2 c [x, y]) : PF T 92 [.slice a 2 c] H fun r H' => r = .int .i64 (if x = 0 then y else x) ∧ H = H' := by
  refine PF_code rfl _ _ _ ?_
  simp only [a92]
  simp (disch := first | omega | assumption | (simp only [zl] <;> omega) | fail) only [zd, zs, seval, AV.undef, unA, fillA, evParts, repCells, splice, partA, pureStep, memStep, resOf, resAll, resA, nilckA, bne, ↓reduceIte, Nat.reduceEqDiff, reduceCtorEq, Int.reduceToNat, Int.reduceNeg, Nat.reduceLeDiff]
  refine WC_range 2 (by decide) (by decide) (by decide) (by decide) (by decide) (by decide) (fun j e H' l => e 6 = .slice a 2 c ∧ e 3 = .int .i64 0 ∧ H' = H ∧ l = H.length ∧ (1 ≤ j → x = 0) ∧ (2 ≤ j → y = 0)) _ _ _ rfl rfl ⟨rfl, rfl, rfl, rfl, fun h => by omega, fun h => by omega⟩ ?_ ?_
  · rintro j e H' l hj hi hn ⟨k6, k3, rfl, rfl, h1, h2⟩
    obtain ⟨z, hz⟩ : ∃ z, [x, y][j]? = some z := ⟨[x, y][j], List.getElem?_eq_getElem hj⟩
    obtain ⟨i, o, rfl, _, l1⟩ := h.at1 rfl hz rfl
    simp (disch := first | omega | assumption | (simp only [zl] <;> omega) | fail) only [hi, hn, k6, k3, l1, zd, zs, seval, AV.undef, unA, fillA, evParts, repCells, splice, partA, pureStep, memStep, resOf, resAll, resA, nilckA, bne, ↓reduceIte, Nat.reduceEqDiff, reduceCtorEq, Int.reduceToNat, Int.reduceNeg, Nat.reduceLeDiff]
    refine WC_ndec (fun g => ?_) (fun g => ?_)
    · simp (disch := first | omega | assumption | (simp only [zl] <;> omega) | fail) only [k3, hi, hn, k6, zd, zs, seval, AV.undef, unA, fillA, evParts, repCells, splice, partA, pureStep, memStep, resOf, resAll, resA, nilckA, bne, ↓reduceIte, Nat.reduceEqDiff, reduceCtorEq, Int.reduceToNat, Int.reduceNeg, Nat.reduceLeDiff]
      refine ⟨Ext.refl _, ?_⟩
      rcases (by omega : j = 0 ∨ j = 1) with rfl | rfl
      · cases hz; rw [if_neg g]
      · cases hz; rw [if_pos (h1 (by omega))]
    · simp (disch := first | omega | assumption | (simp only [zl] <;> omega) | fail) only [k3, hi, hn, k6, zd, zs, seval, AV.undef, unA, fillA, evParts, repCells, splice, partA, pureStep, memStep, resOf, resAll, resA, nilckA, bne, ↓reduceIte, Nat.reduceEqDiff, reduceCtorEq, Int.reduceToNat, Int.reduceNeg, Nat.reduceLeDiff]
      rcases (by omega : j = 0 ∨ j = 1) with rfl | rfl
      · cases hz; exact ⟨by first | exact g | exact fun _ => g, by first | exact fun h => absurd h (by decide) | simp⟩
      · cases hz; exact ⟨by first | exact h1 (by decide) | exact fun _ => h1 (by decide), by first | exact g | exact fun _ => g⟩
  · rintro e H' l hi hn ⟨k6, k3, rfl, rfl, h1, h2⟩
    simp (disch := first | omega | assumption | (simp only [zl] <;> omega) | fail) only [hi, hn, k6, k3, zd, zs, seval, AV.undef, unA, fillA, evParts, repCells, splice, partA, pureStep, memStep, resOf, resAll, resA, nilckA, bne, ↓reduceIte, Nat.reduceEqDiff, reduceCtorEq, Int.reduceToNat, Int.reduceNeg, Nat.reduceLeDiff]
    refine ⟨Ext.refl _, ?_⟩
    have q1 := h1 (by omega); have q2 := h2 (by omega)
    subst q1; subst q2; rfl

/-- lock.order -/
theorem p61 (a b : Lock) (H : AHeap) : PF T 61 [eLock.val a, eLock.val b] H fun r _ => r = .int .i64 (ordI a b) := by
  refine PF_code rfl _ _ _ ?_
  simp only [a61, eLock_val]
  simp (disch := first | omega | assumption | (simp only [zl] <;> omega) | fail) only [zd, zs, seval, AV.undef, unA, fillA, evParts, repCells, splice, partA, pureStep, memStep, resOf, resAll, resA, nilckA, bne, ↓reduceIte, Nat.reduceEqDiff, reduceCtorEq, Int.reduceToNat, Int.reduceNeg, Nat.reduceLeDiff]
  refine WO_callP rfl (Ext.refl _).nr.nr (p93 a.name b.name _) ?_
  rintro v _ _ _ ⟨rfl, rfl⟩
  simp (disch := first | omega | assumption | (simp only [zl] <;> omega) | fail) only [zd, zs, seval, AV.undef, unA, fillA, evParts, repCells, splice, partA, pureStep, memStep, resOf, resAll, resA, nilckA, bne, ↓reduceIte, Nat.reduceEqDiff, reduceCtorEq, Int.reduceToNat, Int.reduceNeg, Nat.reduceLeDiff]
  refine WO_callP rfl (Ext.refl _).nr.nr (p94 a.foe b.foe _) ?_
  rintro v _ _ _ ⟨rfl, rfl⟩
  simp (disch := first | omega | assumption | (simp only [zl] <;> omega) | fail) only [zd, zs, seval, AV.undef, unA, fillA, evParts, repCells, splice, partA, pureStep, memStep, resOf, resAll, resA, nilckA, bne, ↓reduceIte, Nat.reduceEqDiff, reduceCtorEq, Int.reduceToNat, Int.reduceNeg, Nat.reduceLeDiff]
  refine WO_callP rfl (Ext.refl _).nr.nr.nr (p92 (x := cmpS a.name b.name) (y := cmpI a.foe b.foe) ⟨rfl, ⟨_, hOf_new_eq (by simp only [len_newRow]) _ _, Nat.zero_le _, rfl⟩, fun k h => by cases h⟩) ?_
  rintro v _ _ _ ⟨rfl, rfl⟩
  simp (disch := first | omega | assumption | (simp only [zl] <;> omega) | fail) only [zd, zs, seval, AV.undef, unA, fillA, evParts, repCells, splice, partA, pureStep, memStep, resOf, resAll, resA, nilckA, bne, ↓reduceIte, Nat.reduceEqDiff, reduceCtorEq, Int.reduceToNat, Int.reduceNeg, Nat.reduceLeDiff]
  refine ⟨(Ext.refl _).nr.nr.nr, ?_⟩
  congr 1
  unfold ordI Lock.lt cmpS cmpI
  cases h1 : bl a.name b.name with
  | true => simp
  | false =>
    cases h2 : bl b.name a.name with
    | true =>
      have hne : a.name ≠ b.name := fun e => by rw [e, bl_irr] at h2; cases h2
      simp [hne]
    | false =>
      have := bl_tri _ _ h1 h2
      simp [this]

/-- barrowref37.ahead -/
theorem p64 (a b : Lock) (H : AHeap) : PF T 64 [eLock.val a, eLock.val b] H fun r _ => r = .bool (a.lt b) := by
  refine PF_code rfl _ _ _ ?_
  simp only [a64, eLock_val]
  have e1 : Op.bytesLess a.name b.name = bl a.name b.name := rfl
  unfold Lock.lt
  cases h1 : bl a.name b.name with
  | true =>
    rw [h1] at e1
    simp (disch := first | omega | assumption | (simp only [zl] <;> omega) | fail) only [e1, zd, zs, seval, AV.undef, unA, fillA, evParts, repCells, splice, partA, pureStep, memStep, resOf, resAll, resA, nilckA, bne, ↓reduceIte, Nat.reduceEqDiff, reduceCtorEq, Int.reduceToNat, Int.reduceNeg, Nat.reduceLeDiff]
    exact ⟨(Ext.refl _).nr.nr, rfl⟩
  | false =>
    rw [h1] at e1
    by_cases h2 : a.name = b.name
    · rw [h2] at e1
      simp (disch := first | omega | assumption | (simp only [zl] <;> omega) | fail) only [e1, h2, zd, zs, seval, AV.undef, unA, fillA, evParts, repCells, splice, partA, pureStep, memStep, resOf, resAll, resA, nilckA, bne, ↓reduceIte, Nat.reduceEqDiff, reduceCtorEq, Int.reduceToNat, Int.reduceNeg, Nat.reduceLeDiff]
      exact ⟨(Ext.refl _).nr.nr, by simp⟩
    · simp (disch := first | omega | assumption | (simp only [zl] <;> omega) | fail) only [e1, h2, zd, zs, seval, AV.undef, unA, fillA, evParts, repCells, splice, partA, pureStep, memStep, resOf, resAll, resA, nilckA, bne, ↓reduceIte, Nat.reduceEqDiff, reduceCtorEq, Int.reduceToNat, Int.reduceNeg, Nat.reduceLeDiff]
      exact ⟨(Ext.refl _).nr.nr, by simp⟩
end Go.Proofs.Qq.Qqd

namespace Go.Proofs.Qq.Qqd
open Go.Proofs.Qq

theorem lock_at {H : AHeap} {a : Option (Nat × Nat)} {n : Nat} {c : Option Nat} {l : List Lock} (h : SE eLock H a n c l) {k : Nat} {x : Lock} (hk : l[k]? = some x) : ∃ i o, a = some (i, o) ∧ i < H.length ∧ loadA true 3 H (.ptr (some (i, o + k * 3))) = some (.agg [.str x.name, .int .i64 x.foe, .int .i64 x.till]) ∧
    loadA false 1 H (.ptr (some (i, o + k * 3))) = some (.str x.name) ∧ loadA false 1 H (.ptr (some (i, o + k * 3 + 1))) = some (.int .i64 x.foe) ∧ loadA false 1 H (.ptr (some (i, o + k * 3 + 2))) = some (.int .i64 x.till) := by
  obtain ⟨i, o, e, hi, h1, h2⟩ := h.at' hk
  exact ⟨i, o, e, hi, h1, h2 0 _ rfl, h2 1 _ rfl, h2 2 _ rfl⟩

def LkOk (x : Lock) : Prop := x.name.length ≤ 9223372036854775806 ∧ I64 x.foe ∧ I64 x.till

/-- Is a row of locks right, behind one? -/
def lrGo : List Lock → Option Lock → Bool
  | [], _ => true
  | x :: xs, p => nameOk x.name && decide (1 ≤ x.foe) && (match p with | none => true | some y => y.lt x) && lrGo xs (some x)
theorem lrGo_cons (x : Lock) (xs : List Lock) (p : Option Lock) : lrGo (x :: xs) p = (nameOk x.name && decide (1 ≤ x.foe) && (match p with | none => true | some y => y.lt x) && lrGo xs (some x)) := rfl
theorem p63 (s : List UInt8) (hs : s.length ≤ 9223372036854775806) (H : AHeap) : PF T 63 [.str s] H fun r H' => r = .bool (nameOk s) ∧ H = H' := run63 s hs H _ ⟨rfl, Ext.refl _, rfl, rfl⟩
def lright (l : List Lock) : Bool := lrGo l none && decide (l.length ≤ 200)
def prev (l : List Lock) (j : Nat) : Option Lock := if j = 0 then none else l[j - 1]?
theorem prev_succ {l : List Lock} {j : Nat} {x : Lock} (h : l[j]? = some x) : prev l (j + 1) = some x := by unfold prev; rw [if_neg (by omega)]; exact h
theorem ordI_ge (a b : Lock) : decide ((0 : Int) ≤ ordI a b) = !(a.lt b) := by
  unfold ordI
  cases h : a.lt b with
  | true => simp
  | false => cases h2 : b.lt a <;> simp

set_option maxHeartbeats 2000000 in
/-- lock.Right -/
theorem p29 {H : AHeap} {a : Option (Nat × Nat)} {c : Option Nat} {l : List Lock} (h : SE eLock H a l.length c l) (hl : l.length ≤ 9223372036854775806) (hok : ∀ x, x ∈ l → LkOk x) : PF T 29 [.slice a l.length c] H fun r _ => r = .bool (lright l) := by
  refine PF_code rfl _ _ _ ?_
  simp only [a29]
  simp (disch := first | omega | assumption | (simp only [zl] <;> omega) | fail) only [zd, zs, seval, AV.undef, unA, fillA, evParts, repCells, splice, partA, pureStep, memStep, resOf, resAll, resA, nilckA, bne, ↓reduceIte, Nat.reduceEqDiff, reduceCtorEq, Int.reduceToNat, Int.reduceNeg, Nat.reduceLeDiff]
  refine WC_range l.length hl (by decide) (by decide) (by decide) (by decide) (by decide) (fun j e H' lw => e 0 = .slice a l.length c ∧ e 5 = .slice a l.length c ∧ Ext H H' ∧ lw = H.length ∧ lrGo (l.drop j) (prev l j) = lrGo l none) _ _ _ rfl rfl ⟨rfl, rfl, Ext.refl _, rfl, rfl⟩ ?_ ?_
  · rintro j e H' lw hj hi hn ⟨k0, k5, hx, rfl, hg⟩
    obtain ⟨x, hx1⟩ : ∃ x, l[j]? = some x := ⟨l[j], List.getElem?_eq_getElem hj⟩
    have hxo := hok x (List.mem_of_getElem? hx1)
    have hlen := hx.len
    rw [drop_at hx1, lrGo_cons] at hg
    obtain ⟨i, o, rfl, hil, q0, q1, q2, q3⟩ := lock_at (h.ext hx) hx1
    simp (disch := first | omega | assumption | (simp only [zl] <;> omega) | fail) only [hi, hn, k0, k5, q0, zd, zs, seval, AV.undef, unA, fillA, evParts, repCells, splice, partA, pureStep, memStep, resOf, resAll, resA, nilckA, bne, ↓reduceIte, Nat.reduceEqDiff, reduceCtorEq, Int.reduceToNat, Int.reduceNeg, Nat.reduceLeDiff]
    refine WO_callP rfl hx.nr (p37 x.name hxo.1 _) ?_
    rintro v H2 hx2 hx3 rfl
    have r4 : hOf H2 H'.length = some ⟨[.str x.name, .int .i64 x.foe, .int .i64 x.till], true, 0⟩ := hx3.row _ _ (hOf_new_eq rfl _ _)
    have l4 := load_row r4
    cases hnm : nameOk x.name with
    | false =>
      rw [hnm] at hg
      simp (disch := first | omega | assumption | (simp only [zl] <;> omega) | fail) only [zd, zs, seval, AV.undef, unA, fillA, evParts, repCells, splice, partA, pureStep, memStep, resOf, resAll, resA, nilckA, bne, ↓reduceIte, Nat.reduceEqDiff, reduceCtorEq, Int.reduceToNat, Int.reduceNeg, Nat.reduceLeDiff]
      refine ⟨hx2, ?_⟩
      unfold lright; rw [← hg]; simp
    | true =>
      by_cases hf : 1 ≤ x.foe
      · by_cases hj0 : j = 0
        · subst hj0
          simp (disch := first | omega | assumption | (simp only [zl] <;> omega) | fail) only [l4, hi, hn, k0, k5, zd, zs, seval, AV.undef, unA, fillA, evParts, repCells, splice, partA, pureStep, memStep, resOf, resAll, resA, nilckA, bne, ↓reduceIte, Nat.reduceEqDiff, reduceCtorEq, Int.reduceToNat, Int.reduceNeg, Nat.reduceLeDiff]
          refine ⟨hx2, ?_⟩
          rw [prev_succ hx1, ← hg]
          simp [prev, hnm, hf]
        · obtain ⟨y, hy⟩ : ∃ y, l[j - 1]? = some y := ⟨l[j - 1]'(by omega), List.getElem?_eq_getElem (by omega)⟩
          have hpv : prev l j = some y := by unfold prev; rw [if_neg hj0]; exact hy
          obtain ⟨i2, o2, e2, _, p0, _⟩ := lock_at (h.ext hx2) hy
          cases e2
          have c1 : ((j : Int) - 1).toNat = j - 1 := by omega
          rw [hpv] at hg
          simp (disch := first | omega | assumption | (simp only [zl] <;> omega) | fail) only [l4, hi, hn, k0, k5, c1, p0, zd, zs, seval, AV.undef, unA, fillA, evParts, repCells, splice, partA, pureStep, memStep, resOf, resAll, resA, nilckA, bne, ↓reduceIte, Nat.reduceEqDiff, reduceCtorEq, Int.reduceToNat, Int.reduceNeg, Nat.reduceLeDiff]
          refine WO_callP rfl hx2 (p61 y x _) ?_
          rintro v H3 hx4 hx5 rfl
          simp (disch := first | omega | assumption | (simp only [zl] <;> omega) | fail) only [ordI_ge, zd, zs, seval, AV.undef, unA, fillA, evParts, repCells, splice, partA, pureStep, memStep, resOf, resAll, resA, nilckA, bne, ↓reduceIte, Nat.reduceEqDiff, reduceCtorEq, Int.reduceToNat, Int.reduceNeg, Nat.reduceLeDiff]
          cases hlt : y.lt x with
          | true =>
            simp (disch := first | omega | assumption | (simp only [zl] <;> omega) | fail) only [hi, hn, k0, k5, zd, zs, seval, AV.undef, unA, fillA, evParts, repCells, splice, partA, pureStep, memStep, resOf, resAll, resA, nilckA, bne, ↓reduceIte, Nat.reduceEqDiff, reduceCtorEq, Int.reduceToNat, Int.reduceNeg, Nat.reduceLeDiff]
            refine ⟨hx4, ?_⟩
            rw [prev_succ hx1, ← hg]
            simp [hnm, hf, hlt]
          | false =>
            simp (disch := first | omega | assumption | (simp only [zl] <;> omega) | fail) only [zd, zs, seval, AV.undef, unA, fillA, evParts, repCells, splice, partA, pureStep, memStep, resOf, resAll, resA, nilckA, bne, ↓reduceIte, Nat.reduceEqDiff, reduceCtorEq, Int.reduceToNat, Int.reduceNeg, Nat.reduceLeDiff]
            refine ⟨hx4, ?_⟩
            unfold lright; rw [← hg]; simp [hlt]
      · simp (disch := first | omega | assumption | (simp only [zl] <;> omega) | fail) only [l4, hi, hn, k0, k5, zd, zs, seval, AV.undef, unA, fillA, evParts, repCells, splice, partA, pureStep, memStep, resOf, resAll, resA, nilckA, bne, ↓reduceIte, Nat.reduceEqDiff, reduceCtorEq, Int.reduceToNat, Int.reduceNeg, Nat.reduceLeDiff]
        refine ⟨hx2, ?_⟩
        unfold lright; rw [← hg]; simp [hf]
  · rintro e H' lw hi hn ⟨k0, k5, hx, rfl, hg⟩
    rw [List.drop_length, lrGo] at hg
    simp (disch := first | omega | assumption | (simp only [zl] <;> omega) | fail) only [hi, hn, k0, k5, zd, zs, seval, AV.undef, unA, fillA, evParts, repCells, splice, partA, pureStep, memStep, resOf, resAll, resA, nilckA, bne, ↓reduceIte, Nat.reduceEqDiff, reduceCtorEq, Int.reduceToNat, Int.reduceNeg, Nat.reduceLeDiff]
    by_cases h200 : l.length ≤ 200
    · simp (disch := first | omega | assumption | (simp only [zl] <;> omega) | fail) only [zd, zs, seval, AV.undef, unA, fillA, evParts, repCells, splice, partA, pureStep, memStep, resOf, resAll, resA, nilckA, bne, ↓reduceIte, Nat.reduceEqDiff, reduceCtorEq, Int.reduceToNat, Int.reduceNeg, Nat.reduceLeDiff]
      refine ⟨hx, ?_⟩
      unfold lright; rw [← hg]; simp [h200]
    · simp (disch := first | omega | assumption | (simp only [zl] <;> omega) | fail) only [zd, zs, seval, AV.undef, unA, fillA, evParts, repCells, splice, partA, pureStep, memStep, resOf, resAll, resA, nilckA, bne, ↓reduceIte, Nat.reduceEqDiff, reduceCtorEq, Int.reduceToNat, Int.reduceNeg, Nat.reduceLeDiff]
      refine ⟨hx, ?_⟩
      unfold lright; rw [← hg]; simp [h200]

set_option maxHeartbeats 2000000 in
/-- barrowref37.Right -/
theorem p30 {H : AHeap} {a : Option (Nat × Nat)} {c : Option Nat} {l : List Lock} (h : SE eLock H a l.length c l) (hl : l.length ≤ 9223372036854775806) (hok : ∀ x, x ∈ l → LkOk x) : PF T 30 [.slice a l.length c] H fun r _ => r = .bool (lright l) := by
  refine PF_code rfl _ _ _ ?_
  simp only [a30]
  simp (disch := first | omega | assumption | (simp only [zl] <;> omega) | fail) only [zd, zs, seval, AV.undef, unA, fillA, evParts, repCells, splice, partA, pureStep, memStep, resOf, resAll, resA, nilckA, bne, ↓reduceIte, Nat.reduceEqDiff, reduceCtorEq, Int.reduceToNat, Int.reduceNeg, Nat.reduceLeDiff]
  refine WC_loop (fun n s => ∃ j, n = l.length - j ∧ j ≤ l.length ∧ s.env 0 = .slice a l.length c ∧ s.env 3 = .int .i64 (j : Int) ∧ Ext H s.heap ∧ s.low = H.length ∧ lrGo (l.drop j) (prev l j) = lrGo l none) ?_ l.length _ ⟨0, rfl, by omega, rfl, rfl, Ext.refl _, rfl, rfl⟩
  rintro n ⟨e, H', lw⟩ ⟨j, hn, hj, k0, k3, hx, rfl, hg⟩
  simp only [] at k0 k3 hx
  by_cases hlt : j < l.length
  · obtain ⟨x, hx1⟩ : ∃ x, l[j]? = some x := ⟨l[j], List.getElem?_eq_getElem hlt⟩
    have hxo := hok x (List.mem_of_getElem? hx1)
    have hlen := hx.len
    rw [drop_at hx1, lrGo_cons] at hg
    obtain ⟨i, o, rfl, hil, q0, q1, q2, q3⟩ := lock_at (h.ext hx) hx1
    simp (disch := first | omega | assumption | (simp only [zl] <;> omega) | fail) only [k0, k3, q1, zd, zs, seval, AV.undef, unA, fillA, evParts, repCells, splice, partA, pureStep, memStep, resOf, resAll, resA, nilckA, bne, ↓reduceIte, Nat.reduceEqDiff, reduceCtorEq, Int.reduceToNat, Int.reduceNeg, Nat.reduceLeDiff]
    refine WO_callP rfl hx (p63 x.name hxo.1 _) ?_
    rintro v _ _ _ ⟨rfl, rfl⟩
    simp (disch := first | omega | assumption | (simp only [zl] <;> omega) | fail) only [k0, k3, zd, zs, seval, AV.undef, unA, fillA, evParts, repCells, splice, partA, pureStep, memStep, resOf, resAll, resA, nilckA, bne, ↓reduceIte, Nat.reduceEqDiff, reduceCtorEq, Int.reduceToNat, Int.reduceNeg, Nat.reduceLeDiff]
    cases hnm : nameOk x.name with
    | false =>
      rw [hnm] at hg
      simp (disch := first | omega | assumption | (simp only [zl] <;> omega) | fail) only [zd, zs, seval, AV.undef, unA, fillA, evParts, repCells, splice, partA, pureStep, memStep, resOf, resAll, resA, nilckA, bne, ↓reduceIte, Nat.reduceEqDiff, reduceCtorEq, Int.reduceToNat, Int.reduceNeg, Nat.reduceLeDiff]
      refine ⟨hx, ?_⟩
      unfold lright; rw [← hg]; simp
    | true =>
      by_cases hf : 1 ≤ x.foe
      · by_cases hj0 : j = 0
        · subst hj0
          simp (disch := first | omega | assumption | (simp only [zl] <;> omega) | fail) only [k0, k3, q2, zd, zs, seval, AV.undef, unA, fillA, evParts, repCells, splice, partA, pureStep, memStep, resOf, resAll, resA, nilckA, bne, ↓reduceIte, Nat.reduceEqDiff, reduceCtorEq, Int.reduceToNat, Int.reduceNeg, Nat.reduceLeDiff]
          refine ⟨_, by omega, 1, rfl, by omega, rfl, hx, ?_⟩
          rw [prev_succ hx1, ← hg]
          simp [prev, hnm, hf]
        · obtain ⟨y, hy⟩ : ∃ y, l[j - 1]? = some y := ⟨l[j - 1]'(by omega), List.getElem?_eq_getElem (by omega)⟩
          have hpv : prev l j = some y := by unfold prev; rw [if_neg hj0]; exact hy
          obtain ⟨i2, o2, e2, _, p0, _⟩ := lock_at (h.ext hx) hy
          cases e2
          have c1 : ((j : Int) - 1).toNat = j - 1 := by omega
          rw [hpv] at hg
          simp (disch := first | omega | assumption | (simp only [zl] <;> omega) | fail) only [k0, k3, q0, q2, c1, p0, zd, zs, seval, AV.undef, unA, fillA, evParts, repCells, splice, partA, pureStep, memStep, resOf, resAll, resA, nilckA, bne, ↓reduceIte, Nat.reduceEqDiff, reduceCtorEq, Int.reduceToNat, Int.reduceNeg, Nat.reduceLeDiff]
          refine WO_callP rfl hx (p64 y x _) ?_
          rintro v H3 hx4 hx5 rfl
          simp (disch := first | omega | assumption | (simp only [zl] <;> omega) | fail) only [zd, zs, seval, AV.undef, unA, fillA, evParts, repCells, splice, partA, pureStep, memStep, resOf, resAll, resA, nilckA, bne, ↓reduceIte, Nat.reduceEqDiff, reduceCtorEq, Int.reduceToNat, Int.reduceNeg, Nat.reduceLeDiff]
          cases hlt : y.lt x with
          | true =>
            simp (disch := first | omega | assumption | (simp only [zl] <;> omega) | fail) only [k0, k3, zd, zs, seval, AV.undef, unA, fillA, evParts, repCells, splice, partA, pureStep, memStep, resOf, resAll, resA, nilckA, bne, ↓reduceIte, Nat.reduceEqDiff, reduceCtorEq, Int.reduceToNat, Int.reduceNeg, Nat.reduceLeDiff]
            refine ⟨_, by omega, j + 1, rfl, by omega, rfl, hx4, ?_⟩
            rw [prev_succ hx1, ← hg]
            simp [hnm, hf, hlt]
          | false =>
            simp (disch := first | omega | assumption | (simp only [zl] <;> omega) | fail) only [zd, zs, seval, AV.undef, unA, fillA, evParts, repCells, splice, partA, pureStep, memStep, resOf, resAll, resA, nilckA, bne, ↓reduceIte, Nat.reduceEqDiff, reduceCtorEq, Int.reduceToNat, Int.reduceNeg, Nat.reduceLeDiff]
            refine ⟨hx4, ?_⟩
            unfold lright; rw [← hg]; simp [hlt]
      · simp (disch := first | omega | assumption | (simp only [zl] <;> omega) | fail) only [k0, k3, q2, zd, zs, seval, AV.undef, unA, fillA, evParts, repCells, splice, partA, pureStep, memStep, resOf, resAll, resA, nilckA, bne, ↓reduceIte, Nat.reduceEqDiff, reduceCtorEq, Int.reduceToNat, Int.reduceNeg, Nat.reduceLeDiff]
        refine ⟨hx, ?_⟩
        unfold lright; rw [← hg]; simp [hf]
  · have hjn : j = l.length := by omega
    subst hjn
    rw [List.drop_length, lrGo] at hg
    simp (disch := first | omega | assumption | (simp only [zl] <;> omega) | fail) only [k0, k3, zd, zs, seval, AV.undef, unA, fillA, evParts, repCells, splice, partA, pureStep, memStep, resOf, resAll, resA, nilckA, bne, ↓reduceIte, Nat.reduceEqDiff, reduceCtorEq, Int.reduceToNat, Int.reduceNeg, Nat.reduceLeDiff]
    by_cases h200 : l.length ≤ 200
    · simp (disch := first | omega | assumption | (simp only [zl] <;> omega) | fail) only [zd, zs, seval, AV.undef, unA, fillA, evParts, repCells, splice, partA, pureStep, memStep, resOf, resAll, resA, nilckA, bne, ↓reduceIte, Nat.reduceEqDiff, reduceCtorEq, Int.reduceToNat, Int.reduceNeg, Nat.reduceLeDiff]
      refine ⟨hx, ?_⟩
      unfold lright; rw [← hg]; simp [h200]
    · simp (disch := first | omega | assumption | (simp only [zl] <;> omega) | fail) only [zd, zs, seval, AV.undef, unA, fillA, evParts, repCells, splice, partA, pureStep, memStep, resOf, resAll, resA, nilckA, bne, ↓reduceIte, Nat.reduceEqDiff, reduceCtorEq, Int.reduceToNat, Int.reduceNeg, Nat.reduceLeDiff]
      refine ⟨hx, ?_⟩
      unfold lright; rw [← hg]; simp [h200]
end Go.Proofs.Qq.Qqd

namespace Go.Proofs.Qq.Qqd
open Go.Proofs.Qq

theorem ixF_find {α : Type} (p : α → Bool) : ∀ (xs : List α) (j : Nat), (ixF p xs j = -1 ∧ xs.find? p = none) ∨ ∃ (k : Nat) (x : α), ixF p xs j = ((j + k : Nat) : Int) ∧ xs[k]? = some x ∧ xs.find? p = some x
  | [], j => .inl ⟨rfl, rfl⟩
  | x :: xs, j => by
    rw [ixF]
    cases hp : p x with
    | true => exact .inr ⟨0, x, by simp, rfl, by simp [hp]⟩
    | false =>
      rcases ixF_find p xs (j + 1) with ⟨h1, h2⟩ | ⟨k, y, h1, h2, h3⟩
      · exact .inl ⟨by simpa using h1, by simp [hp, h2]⟩
      · exact .inr ⟨k + 1, y, by simp only [Bool.false_eq_true, if_false]; rw [h1]; omega, by simpa using h2, by simp [hp, h3]⟩

def keyP (name : List UInt8) (foe : Int) (x : Lock) : Bool := decide (x.name = name) && decide (x.foe = foe)
def untilM (l : List Lock) (name : List UInt8) (foe now : Int) : Int × Bool :=
  match l.find? (keyP name foe) with
  | some x => if now < x.till then (x.till, true) else (0, false)
  | none => (0, false)

/-- lock.Until's test -/
theorem p67 (x : Lock) (name : List UInt8) (foe : Int) {H : AHeap} {i j : Nat} (h1 : loadA false 1 H (.ptr (some (i, 0))) = some (.str name)) (h2 : loadA false 1 H (.ptr (some (j, 0))) = some (.int .i64 foe)) (hi : i < H.length) (hj : j < H.length) :
    PF T 67 [eLock.val x, .ptr (some (i, 0)), .ptr (some (j, 0))] H fun r _ => r = .bool (keyP name foe x) := by
  refine PF_code rfl _ _ _ ?_
  simp only [a67, eLock_val]
  unfold keyP
  by_cases e1 : x.name = name
  · by_cases e2 : x.foe = foe
    · simp (disch := first | omega | assumption | (simp only [zl] <;> omega) | fail) only [h1, h2, e1, e2, zd, zs, seval, AV.undef, unA, fillA, evParts, repCells, splice, partA, pureStep, memStep, resOf, resAll, resA, nilckA, bne, ↓reduceIte, Nat.reduceEqDiff, reduceCtorEq, Int.reduceToNat, Int.reduceNeg, Nat.reduceLeDiff]
      exact ⟨(Ext.refl _).nr, rfl⟩
    · simp (disch := first | omega | assumption | (simp only [zl] <;> omega) | fail) only [h1, h2, e1, e2, zd, zs, seval, AV.undef, unA, fillA, evParts, repCells, splice, partA, pureStep, memStep, resOf, resAll, resA, nilckA, bne, ↓reduceIte, Nat.reduceEqDiff, reduceCtorEq, Int.reduceToNat, Int.reduceNeg, Nat.reduceLeDiff]
      exact ⟨(Ext.refl _).nr, by simp⟩
  · simp (disch := first | omega | assumption | (simp only [zl] <;> omega) | fail) only [h1, h2, e1, zd, zs, seval, AV.undef, unA, fillA, evParts, repCells, splice, partA, pureStep, memStep, resOf, resAll, resA, nilckA, bne, ↓reduceIte, Nat.reduceEqDiff, reduceCtorEq, Int.reduceToNat, Int.reduceNeg, Nat.reduceLeDiff]
    exact ⟨(Ext.refl _).nr, by simp⟩

/-- lock.Until -/
theorem p24 {H : AHeap} {a : Option (Nat × Nat)} {n : Nat} {c : Option Nat} {l : List Lock} (h : SE eLock H a n c l) (hl : l.length ≤ 9223372036854775806) (name : List UInt8) (foe now : Int) :
    PF T 24 [.slice a n c, .str name, .int .i64 foe, .int .i64 now] H fun r _ => r = .tup [.int .i64 (untilM l name foe now).1, .bool (untilM l name foe now).2] := by
  obtain rfl := h.n
  refine PF_code rfl _ _ _ ?_
  simp only [a24]
  simp (disch := first | omega | assumption | (simp only [zl] <;> omega) | fail) only [zd, zs, seval, AV.undef, unA, fillA, evParts, repCells, splice, partA, pureStep, memStep, resOf, resAll, resA, nilckA, bne, ↓reduceIte, Nat.reduceEqDiff, reduceCtorEq, Int.reduceToNat, Int.reduceNeg, Nat.reduceLeDiff]
  generalize hH : newRow (newRow H [.str name] 0) [.int .i64 foe] 0 = H1
  have hx1 : Ext H H1 := hH ▸ (Ext.refl _).nr.nr
  have r1 : hOf H1 H.length = some ⟨[.str name], true, 0⟩ := by rw [← hH, hOf_new_ne (by rw [len_newRow]; omega), hOf_new_eq rfl]
  have r2 : hOf H1 (H.length + 1) = some ⟨[.int .i64 foe], true, 0⟩ := by rw [← hH, hOf_new_eq (by rw [len_newRow])]
  refine WO_callP rfl hx1 (indexFunc_ok (f := 66) (E := eLock) rfl (keyP name foe) (h.ext hx1) hl (fun x H' _ hx => p67 x name foe (by rw [load_row (hx.row _ _ r1)]; rfl) (by rw [load_row (hx.row _ _ r2)]; rfl) (hOf_is_lt (hx.row _ _ r1)) (hOf_is_lt (hx.row _ _ r2)))) ?_
  rintro v H2 hx2 hx3 rfl
  unfold untilM
  rcases ixF_find (keyP name foe) l 0 with ⟨q1, q2⟩ | ⟨k, x, q1, q2, q3⟩
  · rw [q1, q2]
    simp (disch := first | omega | assumption | (simp only [zl] <;> omega) | fail) only [zd, zs, seval, AV.undef, unA, fillA, evParts, repCells, splice, partA, pureStep, memStep, resOf, resAll, resA, nilckA, bne, ↓reduceIte, Nat.reduceEqDiff, reduceCtorEq, Int.reduceToNat, Int.reduceNeg, Nat.reduceLeDiff]
    first | exact hx2 | exact ⟨hx2, rfl⟩
  · rw [Nat.zero_add] at q1
    rw [q1, q3]
    have hkl := (List.getElem?_eq_some_iff.1 q2).1
    obtain ⟨i, o, rfl, _, p0, p1, p2, p3⟩ := lock_at (h.ext hx2) q2
    by_cases ht : now < x.till
    · have ht' : ¬ x.till ≤ now := by omega
      simp (disch := first | omega | assumption | (simp only [zl] <;> omega) | fail) only [p3, ht', zd, zs, seval, AV.undef, unA, fillA, evParts, repCells, splice, partA, pureStep, memStep, resOf, resAll, resA, nilckA, bne, ↓reduceIte, Nat.reduceEqDiff, reduceCtorEq, Int.reduceToNat, Int.reduceNeg, Nat.reduceLeDiff]
      first | exact hx2 | exact ⟨hx2, by simp [ht]⟩
    · have ht' : x.till ≤ now := by omega
      simp (disch := first | omega | assumption | (simp only [zl] <;> omega) | fail) only [p3, ht', zd, zs, seval, AV.undef, unA, fillA, evParts, repCells, splice, partA, pureStep, memStep, resOf, resAll, resA, nilckA, bne, ↓reduceIte, Nat.reduceEqDiff, reduceCtorEq, Int.reduceToNat, Int.reduceNeg, Nat.reduceLeDiff]
      first | exact hx2 | exact ⟨hx2, by simp [ht]⟩

set_option maxHeartbeats 1000000 in
/-- barrowref37.Until -/
theorem p25 {H : AHeap} {a : Option (Nat × Nat)} {n : Nat} {c : Option Nat} {l : List Lock} (h : SE eLock H a n c l) (hl : l.length ≤ 9223372036854775806) (name : List UInt8) (foe now : Int) :
    PF T 25 [.slice a n c, .str name, .int .i64 foe, .int .i64 now] H fun r H' => r = .tup [.int .i64 (untilM l name foe now).1, .bool (untilM l name foe now).2] ∧ H = H' := by
  obtain rfl := h.n
  refine PF_code rfl _ _ _ ?_
  simp only [a25]
  simp (disch := first | omega | assumption | (simp only [zl] <;> omega) | fail) only [zd, zs, seval, AV.undef, unA, fillA, evParts, repCells, splice, partA, pureStep, memStep, resOf, resAll, resA, nilckA, bne, ↓reduceIte, Nat.reduceEqDiff, reduceCtorEq, Int.reduceToNat, Int.reduceNeg, Nat.reduceLeDiff]
  refine WC_loop (fun n s => ∃ j, n = l.length - j ∧ j ≤ l.length ∧ s.env 0 = .slice a l.length c ∧ s.env 1 = .str name ∧ s.env 2 = .int .i64 foe ∧ s.env 3 = .int .i64 now ∧ s.env 10 = .int .i64 (j : Int) ∧ s.heap = H ∧ s.low = H.length ∧ (l.drop j).find? (keyP name foe) = l.find? (keyP name foe)) ?_ l.length _ ⟨0, rfl, by omega, rfl, rfl, rfl, rfl, rfl, rfl, rfl, rfl⟩
  rintro n ⟨e, H', lw⟩ ⟨j, hn, hj, k0, k1, k2, k3, k10, kH, kL, hf⟩
  simp only [] at k0 k1 k2 k3 k10 kH kL
  subst kH; subst kL
  by_cases hlt : j < l.length
  · obtain ⟨x, hx1⟩ : ∃ x, l[j]? = some x := ⟨l[j], List.getElem?_eq_getElem hlt⟩
    rw [drop_at hx1, List.find?_cons] at hf
    obtain ⟨i, o, rfl, _, p0, p1, p2, p3⟩ := lock_at h hx1
    have go : keyP name foe x = false → (l.drop (j + 1)).find? (keyP name foe) = l.find? (keyP name foe) := fun h => by rw [h] at hf; exact hf
    by_cases e1 : x.name = name
    · by_cases e2 : x.foe = foe
      · have hk : keyP name foe x = true := by simp [keyP, e1, e2]
        rw [hk] at hf
        unfold untilM
        rw [← hf]
        by_cases ht : now < x.till
        · simp (disch := first | omega | assumption | (simp only [zl] <;> omega) | fail) only [k0, k1, k2, k3, k10, p1, p2, p3, e1, e2, zd, zs, seval, AV.undef, unA, fillA, evParts, repCells, splice, partA, pureStep, memStep, resOf, resAll, resA, nilckA, bne, ↓reduceIte, Nat.reduceEqDiff, reduceCtorEq, Int.reduceToNat, Int.reduceNeg, Nat.reduceLeDiff]
          first | exact Ext.refl _ | exact ⟨Ext.refl _, by simp [ht]⟩
        · simp (disch := first | omega | assumption | (simp only [zl] <;> omega) | fail) only [k0, k1, k2, k3, k10, p1, p2, p3, e1, e2, zd, zs, seval, AV.undef, unA, fillA, evParts, repCells, splice, partA, pureStep, memStep, resOf, resAll, resA, nilckA, bne, ↓reduceIte, Nat.reduceEqDiff, reduceCtorEq, Int.reduceToNat, Int.reduceNeg, Nat.reduceLeDiff]
          first | exact Ext.refl _ | exact ⟨Ext.refl _, by simp [ht]⟩
      · simp (disch := first | omega | assumption | (simp only [zl] <;> omega) | fail) only [k0, k1, k2, k3, k10, p1, p2, p3, e1, e2, zd, zs, seval, AV.undef, unA, fillA, evParts, repCells, splice, partA, pureStep, memStep, resOf, resAll, resA, nilckA, bne, ↓reduceIte, Nat.reduceEqDiff, reduceCtorEq, Int.reduceToNat, Int.reduceNeg, Nat.reduceLeDiff]
        exact ⟨_, by omega, j + 1, rfl, by omega, rfl, go (by simp [keyP, e2])⟩
    · simp (disch := first | omega | assumption | (simp only [zl] <;> omega) | fail) only [k0, k1, k2, k3, k10, p1, p2, p3, e1, zd, zs, seval, AV.undef, unA, fillA, evParts, repCells, splice, partA, pureStep, memStep, resOf, resAll, resA, nilckA, bne, ↓reduceIte, Nat.reduceEqDiff, reduceCtorEq, Int.reduceToNat, Int.reduceNeg, Nat.reduceLeDiff]
      exact ⟨_, by omega, j + 1, rfl, by omega, rfl, go (by simp [keyP, e1])⟩
  · have hjn : j = l.length := by omega
    subst hjn
    rw [List.drop_length] at hf
    simp (disch := first | omega | assumption | (simp only [zl] <;> omega) | fail) only [k0, k1, k2, k3, k10, zd, zs, seval, AV.undef, unA, fillA, evParts, repCells, splice, partA, pureStep, memStep, resOf, resAll, resA, nilckA, bne, ↓reduceIte, Nat.reduceEqDiff, reduceCtorEq, Int.reduceToNat, Int.reduceNeg, Nat.reduceLeDiff]
    refine ⟨Ext.refl _, ?_⟩
    unfold untilM; rw [← hf]; simp

def cleanM (l : List Lock) (now : Int) : List Lock := l.filter fun x => !decide (x.till ≤ now)

theorem clone_lock {H : AHeap} {a : Option (Nat × Nat)} {n : Nat} {c : Option Nat} {l : List Lock} (h : SE eLock H a n c l) (hl : l.length ≤ 1000000) : PF T 59 [.slice a n c] H fun r H' => Own eLock H.length H' r l :=
  clone_ok (E := eLock) (bytes := 32) (zero := [.str [], .int .i64 0, .int .i64 0]) rfl (by decide) h (by simp [room]; omega)
theorem clone_str {H : AHeap} {a : Option (Nat × Nat)} {n : Nat} {c : Option Nat} {l : List (List UInt8)} (h : SE eStr H a n c l) (hl : l.length ≤ 1000000) : PF T 71 [.slice a n c] H fun r H' => Own eStr H.length H' r l :=
  clone_ok (E := eStr) (bytes := 16) (zero := [.str []]) rfl (by decide) h (by simp [room]; omega)

theorem p69 (x : Lock) (now : Int) {H : AHeap} {i : Nat} (h1 : loadA false 1 H (.ptr (some (i, 0))) = some (.int .i64 now)) (hi : i < H.length) : PF T 69 [eLock.val x, .ptr (some (i, 0))] H fun r _ => r = .bool (decide (x.till ≤ now)) := by
  refine PF_code rfl _ _ _ ?_
  simp only [a69, eLock_val]
  by_cases e1 : x.till ≤ now
  · simp (disch := first | omega | assumption | (simp only [zl] <;> omega) | fail) only [h1, e1, zd, zs, seval, AV.undef, unA, fillA, evParts, repCells, splice, partA, pureStep, memStep, resOf, resAll, resA, nilckA, bne, ↓reduceIte, Nat.reduceEqDiff, reduceCtorEq, Int.reduceToNat, Int.reduceNeg, Nat.reduceLeDiff]
    exact (Ext.refl _).nr
  · simp (disch := first | omega | assumption | (simp only [zl] <;> omega) | fail) only [h1, e1, zd, zs, seval, AV.undef, unA, fillA, evParts, repCells, splice, partA, pureStep, memStep, resOf, resAll, resA, nilckA, bne, ↓reduceIte, Nat.reduceEqDiff, reduceCtorEq, Int.reduceToNat, Int.reduceNeg, Nat.reduceLeDiff]
    exact (Ext.refl _).nr

/-- lock.Clean -/
theorem p26 {H : AHeap} {a : Option (Nat × Nat)} {n : Nat} {c : Option Nat} {l : List Lock} (h : SE eLock H a n c l) (hl : l.length ≤ 1000000) (now : Int) :
    PF T 26 [.slice a n c, .int .i64 now] H fun r H' => Own eLock H.length H' r (cleanM l now) := by
  refine PF_code rfl _ _ _ ?_
  simp only [a26]
  simp (disch := first | omega | assumption | (simp only [zl] <;> omega) | fail) only [zd, zs, seval, AV.undef, unA, fillA, evParts, repCells, splice, partA, pureStep, memStep, resOf, resAll, resA, nilckA, bne, ↓reduceIte, Nat.reduceEqDiff, reduceCtorEq, Int.reduceToNat, Int.reduceNeg, Nat.reduceLeDiff]
  refine WO_callP rfl (Ext.refl _).nr (clone_lock (h.ext (Ext.refl _).nr) hl) ?_
  rintro v H1 hx1 hx2 ho
  have r1 : hOf H1 H.length = some ⟨[.int .i64 now], true, 0⟩ := hx2.row _ _ (hOf_new_eq rfl _ _)
  obtain ⟨b, rfl, _⟩ := ho.se
  have hlen := hx1.len
  have hlt := hOf_is_lt r1
  rw [len_newRow] at ho
  have hge := ho.ge
  simp (disch := first | omega | assumption | (simp only [zl] <;> omega) | fail) only [zd, zs, seval, AV.undef, unA, fillA, evParts, repCells, splice, partA, pureStep, memStep, resOf, resAll, resA, nilckA, bne, ↓reduceIte, Nat.reduceEqDiff, reduceCtorEq, Int.reduceToNat, Int.reduceNeg, Nat.reduceLeDiff]
  refine WO_callW rfl hx1 (deleteFuncA_ok (f := 68) (fI := 66) (E := eLock) (zero := [.str [], .int .i64 0, .int .i64 0]) rfl rfl rfl rfl (fun x => ⟨rfl, rfl⟩) (fun x => decide (x.till ≤ now)) ho (by omega) (by omega) (fun x H' _ hot => ?_)) (by omega) (fun i o n c e => by have := hge i o n c e; omega) ?_
  · have r2 := hot.1 H.length _ (fun o n c e => by have := hge _ _ _ _ e; omega) r1
    exact p69 x now (by rw [load_row r2]; rfl) (hOf_is_lt r2)
  rintro v H3 hx3 _ ho3
  simp (disch := first | omega | assumption | (simp only [zl] <;> omega) | fail) only [zd, zs, seval, AV.undef, unA, fillA, evParts, repCells, splice, partA, pureStep, memStep, resOf, resAll, resA, nilckA, bne, ↓reduceIte, Nat.reduceEqDiff, reduceCtorEq, Int.reduceToNat, Int.reduceNeg, Nat.reduceLeDiff]
  exact ⟨hx3, ho3.lo (by omega)⟩
end Go.Proofs.Qq.Qqd

namespace Go.Proofs.Qq.Qqd
open Go.Proofs.Qq

theorem cmpLock : Cmp eLock 20 24 (.eq true (.agg [.str, .int, .int]) (.tmp 20) (.tmp 24)) := ⟨rfl, fun e a b h1 h2 => by
  simp only [pureStep, ev, h1, h2, eLock_val, eqA, eqCells, CK.eqs, if_true, Bool.and_true]
  congr 3
  rw [Bool.eq_iff_iff]
  simp only [Bool.and_eq_true, beq_iff_eq, decide_eq_true_iff]
  constructor
  · rintro ⟨h1, h2, h3⟩; cases a; cases b; simp_all
  · rintro rfl; exact ⟨rfl, rfl, rfl⟩⟩

theorem p27 {xs ys : List Lock} {H : AHeap} {a b : Option (Nat × Nat)} {n m : Nat} {c d : Option Nat} (ha : SE eLock H a n c xs) (hb : SE eLock H b m d ys) (hlen : xs.length ≤ 9223372036854775806) :
    PF T 27 [.slice a n c, .slice b m d] H fun r H' => r = .bool (decide (xs = ys)) ∧ H = H' := same_ok (E := eLock) rfl cmpLock ha hb hlen
theorem p31 {xs ys : List Int} {H : AHeap} {a b : Option (Nat × Nat)} {n m : Nat} {c d : Option Nat} (ha : SE eInt H a n c xs) (hb : SE eInt H b m d ys) (hlen : xs.length ≤ 9223372036854775806) :
    PF T 31 [.slice a n c, .slice b m d] H fun r H' => r = .bool (decide (xs = ys)) ∧ H = H' := same_ok (E := eInt) rfl cmpInt2 ha hb hlen
theorem p34 {xs ys : List (List UInt8)} {H : AHeap} {a b : Option (Nat × Nat)} {n m : Nat} {c d : Option Nat} (ha : SE eStr H a n c xs) (hb : SE eStr H b m d ys) (hlen : xs.length ≤ 9223372036854775806) :
    PF T 34 [.slice a n c, .slice b m d] H fun r H' => r = .bool (decide (xs = ys)) ∧ H = H' := same_ok (E := eStr) rfl cmpStr2 ha hb hlen

/-- barrowref37.Copy -/
theorem p65 {H : AHeap} {a : Option (Nat × Nat)} {n : Nat} {c : Option Nat} {l : List Lock} (h : SE eLock H a n c l) (hl : l.length ≤ 1000000) : PF T 65 [.slice a n c] H fun r H' => Own eLock H.length H' r l := by
  obtain rfl := h.n
  refine PF_code rfl _ _ _ ?_
  simp only [a65]
  have hown : Own eLock H.length (newRow H [] 3) (.slice (some (H.length, 0)) 0 none) ([] : List Lock) := Own.fresh eLock (Nat.le_refl _) []
  obtain ⟨v, H2, w, e1, o1, a1⟩ := append_own (x := .slice a l.length c) (ys := l) (bytes := 32) hown (by rw [len_newRow]; omega) rfl (h.ext (Ext.newRow _ _ _)).src (by decide) (by simp [room]; omega)
  change appendA 3 32 _ _ _ = _ at e1
  have elo := a1.lower (Nat.le_refl H.length)
  simp (disch := first | omega | assumption | (simp only [zl] <;> omega) | fail) only [e1, elo, zd, zs, seval, AV.undef, unA, fillA, evParts, repCells, splice, partA, pureStep, memStep, resOf, resAll, resA, nilckA, bne, ↓reduceIte, Nat.reduceEqDiff, reduceCtorEq, Int.reduceToNat, Int.reduceNeg, Nat.reduceLeDiff]
  exact ⟨a1.ext (Ext.newRow _ _ _) hown.ge, o1⟩

/-- One lock behind others. -/
theorem app_lock {lo : Nat} {H : AHeap} {v : AV} {ys : List Lock} (x : Lock) (h : Own eLock lo H v ys) (hlo : lo ≤ H.length) (hl : ys.length ≤ 1000000) :
    ∃ v' H' w, appendA 3 32 (newRow H [.str x.name, .int .i64 x.foe, .int .i64 x.till] 3) v (.slice (some (H.length, 0)) 1 none) = some (v', H', w) ∧ Own eLock lo H' v' (ys ++ [x]) ∧ Apds v H v' H' ∧ (∀ l, lo ≤ l → lo ≤ lower l w) ∧ ∀ l, l ≤ lo → lower l w = l :=
  append_lit [x] h hlo (bytes := 32) (by decide) (by simp [room]; omega)
theorem app_int {lo : Nat} {H : AHeap} {v : AV} {ys : List Int} (x : Int) (h : Own eInt lo H v ys) (hlo : lo ≤ H.length) (hl : ys.length ≤ 1000000) :
    ∃ v' H' w, appendA 1 8 (newRow H [.int .i64 x] 1) v (.slice (some (H.length, 0)) 1 none) = some (v', H', w) ∧ Own eInt lo H' v' (ys ++ [x]) ∧ Apds v H v' H' ∧ (∀ l, lo ≤ l → lo ≤ lower l w) ∧ ∀ l, l ≤ lo → lower l w = l :=
  append_lit [x] h hlo (bytes := 8) (by decide) (by simp [room]; omega)
theorem app_str {lo : Nat} {H : AHeap} {v : AV} {ys : List (List UInt8)} (x : List UInt8) (h : Own eStr lo H v ys) (hlo : lo ≤ H.length) (hl : ys.length ≤ 1000000) :
    ∃ v' H' w, appendA 1 16 (newRow H [.str x] 1) v (.slice (some (H.length, 0)) 1 none) = some (v', H', w) ∧ Own eStr lo H' v' (ys ++ [x]) ∧ Apds v H v' H' ∧ (∀ l, lo ≤ l → lo ≤ lower l w) ∧ ∀ l, l ≤ lo → lower l w = l :=
  append_lit [x] h hlo (bytes := 16) (by decide) (by simp [room]; omega)
theorem filter_take {α : Type} {l : List α} {j : Nat} {x : α} (h : l[j]? = some x) (p : α → Bool) : (l.take (j + 1)).filter p = (l.take j).filter p ++ (if p x then [x] else []) := by
  rw [List.take_add_one, h, List.filter_append]
  cases hp : p x <;> simp [hp]
theorem filter_len {α : Type} (l : List α) (j : Nat) (p : α → Bool) : ((l.take j).filter p).length ≤ l.length := Nat.le_trans (List.length_filter_le _ _) (by simp; omega)

set_option maxHeartbeats 1000000 in
/-- barrowref37.Clean -/
theorem p28 {H : AHeap} {a : Option (Nat × Nat)} {n : Nat} {c : Option Nat} {l : List Lock} (h : SE eLock H a n c l) (hl : l.length ≤ 1000000) (now : Int) :
    PF T 28 [.slice a n c, .int .i64 now] H fun r H' => Own eLock H.length H' r (cleanM l now) := by
  obtain rfl := h.n
  refine PF_code rfl _ _ _ ?_
  simp only [a28]
  simp (disch := first | omega | assumption | (simp only [zl] <;> omega) | fail) only [zd, zs, seval, AV.undef, unA, fillA, evParts, repCells, splice, partA, pureStep, memStep, resOf, resAll, resA, nilckA, bne, ↓reduceIte, Nat.reduceEqDiff, reduceCtorEq, Int.reduceToNat, Int.reduceNeg, Nat.reduceLeDiff]
  refine WC_loop (fun n s => ∃ j sl, n = l.length - j ∧ j ≤ l.length ∧ s.env 0 = .slice a l.length c ∧ s.env 1 = .int .i64 now ∧ s.env 5 = sl ∧ s.env 6 = .int .i64 (j : Int) ∧ Own eLock H.length s.heap sl (cleanM (l.take j) now) ∧ Ext H s.heap ∧ s.low = H.length) ?_ l.length _ ⟨0, _, rfl, by omega, rfl, rfl, rfl, rfl, Own.nil _ _ _, Ext.refl _, rfl⟩
  rintro n ⟨e, H', lw⟩ ⟨j, sl, hn, hj, k0, k1, k5, k6, ho, hx, rfl⟩
  simp only [] at k0 k1 k5 k6 ho hx
  have hlen := hx.len
  by_cases hlt : j < l.length
  · obtain ⟨x, hx1⟩ : ∃ x, l[j]? = some x := ⟨l[j], List.getElem?_eq_getElem hlt⟩
    obtain ⟨i, o, rfl, _, p0, p1, p2, p3⟩ := lock_at (h.ext hx) hx1
    have hft := filter_take hx1 (fun x => !decide (x.till ≤ now))
    by_cases ht : now < x.till
    · obtain ⟨v', H2, w, e1, o1, a1, _, elo⟩ := app_lock x ho hlen (Nat.le_trans (filter_len _ _ _) hl)
      have elo := elo _ (Nat.le_refl _)
      simp (disch := first | omega | assumption | (simp only [zl] <;> omega) | fail) only [k0, k1, k5, k6, p0, p3, e1, elo, zd, zs, seval, AV.undef, unA, fillA, evParts, repCells, splice, partA, pureStep, memStep, resOf, resAll, resA, nilckA, bne, ↓reduceIte, Nat.reduceEqDiff, reduceCtorEq, Int.reduceToNat, Int.reduceNeg, Nat.reduceLeDiff]
      refine ⟨_, by omega, j + 1, v', rfl, by omega, rfl, rfl, ?_, a1.extE hx ho.ge⟩
      unfold cleanM at o1 ⊢
      rw [hft]; simpa [ht] using o1
    · simp (disch := first | omega | assumption | (simp only [zl] <;> omega) | fail) only [k0, k1, k5, k6, p0, p3, zd, zs, seval, AV.undef, unA, fillA, evParts, repCells, splice, partA, pureStep, memStep, resOf, resAll, resA, nilckA, bne, ↓reduceIte, Nat.reduceEqDiff, reduceCtorEq, Int.reduceToNat, Int.reduceNeg, Nat.reduceLeDiff]
      refine ⟨_, by omega, j + 1, sl, rfl, by omega, rfl, rfl, ?_, hx⟩
      unfold cleanM at ho ⊢
      have : x.till ≤ now := by omega
      rw [hft]; simpa [this] using ho
  · have hjn : j = l.length := by omega
    subst hjn
    rw [List.take_length] at ho
    simp (disch := first | omega | assumption | (simp only [zl] <;> omega) | fail) only [k0, k1, k5, k6, zd, zs, seval, AV.undef, unA, fillA, evParts, repCells, splice, partA, pureStep, memStep, resOf, resAll, resA, nilckA, bne, ↓reduceIte, Nat.reduceEqDiff, reduceCtorEq, Int.reduceToNat, Int.reduceNeg, Nat.reduceLeDiff]
    exact ⟨hx, ho⟩

def ofM (l : List Lock) (name : List UInt8) (now : Int) : List Int := (l.filter fun x => decide (x.name = name) && decide (now < x.till)).map (·.foe)
theorem ofM_take {l : List Lock} {j : Nat} {x : Lock} (h : l[j]? = some x) (name : List UInt8) (now : Int) : ofM (l.take (j + 1)) name now = ofM (l.take j) name now ++ (if decide (x.name = name) && decide (now < x.till) then [x.foe] else []) := by
  unfold ofM
  rw [filter_take h, List.map_append]
  cases (decide (x.name = name) && decide (now < x.till)) <;> rfl
theorem ofM_len (l : List Lock) (j : Nat) (name : List UInt8) (now : Int) : (ofM (l.take j) name now).length ≤ l.length := by unfold ofM; rw [List.length_map]; exact filter_len _ _ _

set_option maxHeartbeats 1000000 in
/-- barrowref37.Of -/
theorem p33 {H : AHeap} {a : Option (Nat × Nat)} {n : Nat} {c : Option Nat} {l : List Lock} (h : SE eLock H a n c l) (hl : l.length ≤ 1000000) (name : List UInt8) (now : Int) :
    PF T 33 [.slice a n c, .str name, .int .i64 now] H fun r H' => Own eInt H.length H' r (ofM l name now) := by
  obtain rfl := h.n
  refine PF_code rfl _ _ _ ?_
  simp only [a33]
  simp (disch := first | omega | assumption | (simp only [zl] <;> omega) | fail) only [zd, zs, seval, AV.undef, unA, fillA, evParts, repCells, splice, partA, pureStep, memStep, resOf, resAll, resA, nilckA, bne, ↓reduceIte, Nat.reduceEqDiff, reduceCtorEq, Int.reduceToNat, Int.reduceNeg, Nat.reduceLeDiff]
  refine WC_loop (fun n s => ∃ j sl, n = l.length - j ∧ j ≤ l.length ∧ s.env 0 = .slice a l.length c ∧ s.env 1 = .str name ∧ s.env 2 = .int .i64 now ∧ s.env 7 = sl ∧ s.env 8 = .int .i64 (j : Int) ∧ Own eInt H.length s.heap sl (ofM (l.take j) name now) ∧ Ext H s.heap ∧ s.low = H.length) ?_ l.length _ ⟨0, _, rfl, by omega, rfl, rfl, rfl, rfl, rfl, Own.nil _ _ _, Ext.refl _, rfl⟩
  rintro n ⟨e, H', lw⟩ ⟨j, sl, hn, hj, k0, k1, k2, k7, k8, ho, hx, rfl⟩
  simp only [] at k0 k1 k2 k7 k8 ho hx
  have hlen := hx.len
  by_cases hlt : j < l.length
  · obtain ⟨x, hx1⟩ : ∃ x, l[j]? = some x := ⟨l[j], List.getElem?_eq_getElem hlt⟩
    obtain ⟨i, o, rfl, _, p0, p1, p2, p3⟩ := lock_at (h.ext hx) hx1
    have hft := ofM_take hx1 name now
    by_cases hnm : x.name = name
    · by_cases ht : now < x.till
      · obtain ⟨v', H2, w, e1, o1, a1, _, elo⟩ := app_int x.foe ho hlen (Nat.le_trans (ofM_len _ _ _ _) hl)
        have elo := elo _ (Nat.le_refl _)
        simp (disch := first | omega | assumption | (simp only [zl] <;> omega) | fail) only [k0, k1, k2, k7, k8, p1, p2, p3, hnm, e1, elo, zd, zs, seval, AV.undef, unA, fillA, evParts, repCells, splice, partA, pureStep, memStep, resOf, resAll, resA, nilckA, bne, ↓reduceIte, Nat.reduceEqDiff, reduceCtorEq, Int.reduceToNat, Int.reduceNeg, Nat.reduceLeDiff]
        refine ⟨_, by omega, j + 1, v', rfl, by omega, rfl, rfl, ?_, a1.extE hx ho.ge⟩
        rw [hft]; simpa [hnm, ht] using o1
      · simp (disch := first | omega | assumption | (simp only [zl] <;> omega) | fail) only [k0, k1, k2, k7, k8, p1, p2, p3, hnm, zd, zs, seval, AV.undef, unA, fillA, evParts, repCells, splice, partA, pureStep, memStep, resOf, resAll, resA, nilckA, bne, ↓reduceIte, Nat.reduceEqDiff, reduceCtorEq, Int.reduceToNat, Int.reduceNeg, Nat.reduceLeDiff]
        refine ⟨_, by omega, j + 1, sl, rfl, by omega, rfl, rfl, ?_, hx⟩
        rw [hft]; simpa [ht] using ho
    · simp (disch := first | omega | assumption | (simp only [zl] <;> omega) | fail) only [k0, k1, k2, k7, k8, p1, p2, p3, hnm, zd, zs, seval, AV.undef, unA, fillA, evParts, repCells, splice, partA, pureStep, memStep, resOf, resAll, resA, nilckA, bne, ↓reduceIte, Nat.reduceEqDiff, reduceCtorEq, Int.reduceToNat, Int.reduceNeg, Nat.reduceLeDiff]
      refine ⟨_, by omega, j + 1, sl, rfl, by omega, rfl, rfl, ?_, hx⟩
      rw [hft]; simpa [hnm] using ho
  · have hjn : j = l.length := by omega
    subst hjn
    rw [List.take_length] at ho
    simp (disch := first | omega | assumption | (simp only [zl] <;> omega) | fail) only [k0, k1, k2, k7, k8, zd, zs, seval, AV.undef, unA, fillA, evParts, repCells, splice, partA, pureStep, memStep, resOf, resAll, resA, nilckA, bne, ↓reduceIte, Nat.reduceEqDiff, reduceCtorEq, Int.reduceToNat, Int.reduceNeg, Nat.reduceLeDiff]
    exact ⟨hx, ho⟩

set_option maxHeartbeats 1000000 in
/-- lock.Of -/
theorem p32 {H : AHeap} {a : Option (Nat × Nat)} {n : Nat} {c : Option Nat} {l : List Lock} (h : SE eLock H a n c l) (hl : l.length ≤ 1000000) (name : List UInt8) (now : Int) :
    PF T 32 [.slice a n c, .str name, .int .i64 now] H fun r H' => Own eInt H.length H' r (ofM l name now) := by
  obtain rfl := h.n
  refine PF_code rfl _ _ _ ?_
  simp only [a32]
  simp (disch := first | omega | assumption | (simp only [zl] <;> omega) | fail) only [zd, zs, seval, AV.undef, unA, fillA, evParts, repCells, splice, partA, pureStep, memStep, resOf, resAll, resA, nilckA, bne, ↓reduceIte, Nat.reduceEqDiff, reduceCtorEq, Int.reduceToNat, Int.reduceNeg, Nat.reduceLeDiff]
  refine WC_range l.length (by omega) (by decide) (by decide) (by decide) (by decide) (by decide) (fun j e H' lw => ∃ sl, e 10 = .slice a l.length c ∧ e 1 = .str name ∧ e 2 = .int .i64 now ∧ e 7 = sl ∧ Own eInt H.length H' sl (ofM (l.take j) name now) ∧ Ext H H' ∧ lw = H.length) _ _ _ rfl rfl ⟨_, rfl, rfl, rfl, rfl, Own.nil _ _ _, Ext.refl _, rfl⟩ ?_ ?_
  · rintro j e H' lw hlt hi hn ⟨sl, k10, k1, k2, k7, ho, hx, rfl⟩
    have hlen := hx.len
    obtain ⟨x, hx1⟩ : ∃ x, l[j]? = some x := ⟨l[j], List.getElem?_eq_getElem hlt⟩
    obtain ⟨i, o, rfl, hil, p0, p1, p2, p3⟩ := lock_at (h.ext hx) hx1
    have hft := ofM_take hx1 name now
    by_cases hnm : x.name = name
    · by_cases ht : now < x.till
      · have hox := ho.ext (Ext.newRow H' [.str name, .int .i64 x.foe, .int .i64 x.till] 0)
        obtain ⟨v', H2, w, e1, o1, a1, _, elo⟩ := app_int x.foe hox (by rw [len_newRow]; omega) (Nat.le_trans (ofM_len _ _ _ _) hl)
        have elo := elo _ (Nat.le_refl _)
        rw [len_newRow] at e1
        simp (disch := first | omega | assumption | (simp only [zl] <;> omega) | fail) only [hi, hn, k10, k1, k2, k7, p0, hnm, e1, elo, zd, zs, seval, AV.undef, unA, fillA, evParts, repCells, splice, partA, pureStep, memStep, resOf, resAll, resA, nilckA, bne, ↓reduceIte, Nat.reduceEqDiff, reduceCtorEq, Int.reduceToNat, Int.reduceNeg, Nat.reduceLeDiff]
        refine ⟨v', rfl, ?_, a1.extE hx.nr ho.ge⟩
        rw [hft]; simpa [hnm, ht] using o1
      · simp (disch := first | omega | assumption | (simp only [zl] <;> omega) | fail) only [hi, hn, k10, k1, k2, k7, p0, hnm, zd, zs, seval, AV.undef, unA, fillA, evParts, repCells, splice, partA, pureStep, memStep, resOf, resAll, resA, nilckA, bne, ↓reduceIte, Nat.reduceEqDiff, reduceCtorEq, Int.reduceToNat, Int.reduceNeg, Nat.reduceLeDiff]
        refine ⟨sl, rfl, ?_, hx.nr⟩
        rw [hft]; simpa [ht] using ho.ext (Ext.newRow _ _ _)
    · simp (disch := first | omega | assumption | (simp only [zl] <;> omega) | fail) only [hi, hn, k10, k1, k2, k7, p0, hnm, zd, zs, seval, AV.undef, unA, fillA, evParts, repCells, splice, partA, pureStep, memStep, resOf, resAll, resA, nilckA, bne, ↓reduceIte, Nat.reduceEqDiff, reduceCtorEq, Int.reduceToNat, Int.reduceNeg, Nat.reduceLeDiff]
      refine ⟨sl, rfl, ?_, hx.nr⟩
      rw [hft]; simpa [hnm] using ho.ext (Ext.newRow _ _ _)
  · rintro e H' lw hi hn ⟨sl, k10, k1, k2, k7, ho, hx, rfl⟩
    rw [List.take_length] at ho
    simp (disch := first | omega | assumption | (simp only [zl] <;> omega) | fail) only [hi, hn, k10, k1, k2, k7, zd, zs, seval, AV.undef, unA, fillA, evParts, repCells, splice, partA, pureStep, memStep, resOf, resAll, resA, nilckA, bne, ↓reduceIte, Nat.reduceEqDiff, reduceCtorEq, Int.reduceToNat, Int.reduceNeg, Nat.reduceLeDiff]
    exact ⟨hx, ho⟩
end Go.Proofs.Qq.Qqd

namespace Go.Proofs.Qq.Qqd
open Go.Proofs.Qq

def freeM (l : List Lock) (names : List (List UInt8)) (foe now : Int) : List (List UInt8) := names.filter fun nm => !(untilM l nm foe now).2

theorem p72 {H : AHeap} {a : Option (Nat × Nat)} {n : Nat} {c : Option Nat} {l : List Lock} (nm : List UInt8) (foe now : Int) (h : SE eLock H a n c l) (hl : l.length ≤ 1000000) {i j k : Nat}
    (h1 : loadA false 1 H (.ptr (some (i, 0))) = some (.slice a n c)) (h2 : loadA false 1 H (.ptr (some (j, 0))) = some (.int .i64 foe)) (h3 : loadA false 1 H (.ptr (some (k, 0))) = some (.int .i64 now)) (hi : i < H.length) (hj : j < H.length) (hk : k < H.length) :
    PF T 72 [.str nm, .ptr (some (i, 0)), .ptr (some (j, 0)), .ptr (some (k, 0))] H fun r _ => r = .bool (untilM l nm foe now).2 := by
  refine PF_code rfl _ _ _ ?_
  simp only [a72]
  simp (disch := first | omega | assumption | (simp only [zl] <;> omega) | fail) only [h1, h2, h3, zd, zs, seval, AV.undef, unA, fillA, evParts, repCells, splice, partA, pureStep, memStep, resOf, resAll, resA, nilckA, bne, ↓reduceIte, Nat.reduceEqDiff, reduceCtorEq, Int.reduceToNat, Int.reduceNeg, Nat.reduceLeDiff]
  refine WO_callP rfl (Ext.refl _) (p24 h (by omega) nm foe now) ?_
  rintro v H2 hx2 hx3 rfl
  simp (disch := first | omega | assumption | (simp only [zl] <;> omega) | fail) only [zd, zs, seval, AV.undef, unA, fillA, evParts, repCells, splice, partA, pureStep, memStep, resOf, resAll, resA, nilckA, bne, ↓reduceIte, Nat.reduceEqDiff, reduceCtorEq, Int.reduceToNat, Int.reduceNeg, Nat.reduceLeDiff]
  exact hx2

set_option maxHeartbeats 1000000 in
/-- lock.Free -/
theorem p35 {H : AHeap} {a b : Option (Nat × Nat)} {n m : Nat} {c d : Option Nat} {l : List Lock} {names : List (List UInt8)} (h : SE eLock H a n c l) (hl : l.length ≤ 1000000) (h' : SE eStr H b m d names) (hl' : names.length ≤ 1000000) (foe now : Int) :
    PF T 35 [.slice a n c, .slice b m d, .int .i64 foe, .int .i64 now] H fun r H' => Own eStr H.length H' r (freeM l names foe now) := by
  refine PF_code rfl _ _ _ ?_
  simp only [a35]
  simp (disch := first | omega | assumption | (simp only [zl] <;> omega) | fail) only [zd, zs, seval, AV.undef, unA, fillA, evParts, repCells, splice, partA, pureStep, memStep, resOf, resAll, resA, nilckA, bne, ↓reduceIte, Nat.reduceEqDiff, reduceCtorEq, Int.reduceToNat, Int.reduceNeg, Nat.reduceLeDiff]
  generalize hH : newRow (newRow (newRow H [.slice a n c] 0) [.int .i64 foe] 0) [.int .i64 now] 0 = H1
  have hx1 : Ext H H1 := hH ▸ (Ext.refl _).nr.nr.nr
  have hlen1 : H1.length = H.length + 3 := by rw [← hH]; simp only [len_newRow]
  have r1 : hOf H1 H.length = some ⟨[.slice a n c], true, 0⟩ := by rw [← hH, hOf_new_ne (by simp only [len_newRow]; omega), hOf_new_ne (by simp only [len_newRow]; omega), hOf_new_eq rfl]
  have r2 : hOf H1 (H.length + 1) = some ⟨[.int .i64 foe], true, 0⟩ := by rw [← hH, hOf_new_ne (by simp only [len_newRow]; omega), hOf_new_eq (by rw [len_newRow])]
  have r3 : hOf H1 (H.length + 1 + 1) = some ⟨[.int .i64 now], true, 0⟩ := by rw [← hH, hOf_new_eq (by simp only [len_newRow])]
  refine WO_callP rfl hx1 (clone_str (h'.ext hx1) hl') ?_
  rintro v H2 hx2 hx3 ho
  obtain ⟨b, rfl, _⟩ := ho.se
  have hge := ho.ge
  have hlen3 := hx3.len
  simp (disch := first | omega | assumption | (simp only [zl] <;> omega) | fail) only [zd, zs, seval, AV.undef, unA, fillA, evParts, repCells, splice, partA, pureStep, memStep, resOf, resAll, resA, nilckA, bne, ↓reduceIte, Nat.reduceEqDiff, reduceCtorEq, Int.reduceToNat, Int.reduceNeg, Nat.reduceLeDiff]
  refine WO_callW rfl hx2 (deleteFuncS_ok (f := 70) (fI := 97) (E := eStr) (zero := [.str []]) rfl rfl rfl rfl (fun x => ⟨rfl, rfl⟩) (fun nm => (untilM l nm foe now).2) ho (by omega) (by omega) (fun x H' _ hot => ?_)) (by omega) (fun i o n c e => by have := hge i o n c e; omega) ?_
  · have q : ∀ k, k < H1.length → ∀ r, hOf H1 k = some r → hOf H' k = some r := fun k hk r hr => hot.1 k _ (fun o n c e => by have := hge _ _ _ _ e; omega) (hx3.row _ _ hr)
    have w1 := q _ (by omega) _ r1
    have w2 := q _ (by omega) _ r2
    have w3 := q _ (by omega) _ r3
    have hx : Ext H H' := ⟨fun k r hr => q k (by have := hOf_is_lt hr; omega) r (hx1.row _ _ hr), by have := hot.2; omega⟩
    exact p72 x foe now (h.ext hx) hl (by rw [load_row w1]; rfl) (by rw [load_row w2]; rfl) (by rw [load_row w3]; rfl) (hOf_is_lt w1) (hOf_is_lt w2) (hOf_is_lt w3)
  rintro v H3 hx4 _ ho3
  simp (disch := first | omega | assumption | (simp only [zl] <;> omega) | fail) only [zd, zs, seval, AV.undef, unA, fillA, evParts, repCells, splice, partA, pureStep, memStep, resOf, resAll, resA, nilckA, bne, ↓reduceIte, Nat.reduceEqDiff, reduceCtorEq, Int.reduceToNat, Int.reduceNeg, Nat.reduceLeDiff]
  exact ⟨hx4, ho3.lo (by omega)⟩

set_option maxHeartbeats 1000000 in
/-- barrowref37.Free -/
theorem p36 {H : AHeap} {a b : Option (Nat × Nat)} {n m : Nat} {c d : Option Nat} {l : List Lock} {names : List (List UInt8)} (h : SE eLock H a n c l) (hl : l.length ≤ 1000000) (h' : SE eStr H b m d names) (hl' : names.length ≤ 1000000) (foe now : Int) :
    PF T 36 [.slice a n c, .slice b m d, .int .i64 foe, .int .i64 now] H fun r H' => Own eStr H.length H' r (freeM l names foe now) := by
  obtain rfl := h.n
  obtain rfl := h'.n
  refine PF_code rfl _ _ _ ?_
  simp only [a36]
  simp (disch := first | omega | assumption | (simp only [zl] <;> omega) | fail) only [zd, zs, seval, AV.undef, unA, fillA, evParts, repCells, splice, partA, pureStep, memStep, resOf, resAll, resA, nilckA, bne, ↓reduceIte, Nat.reduceEqDiff, reduceCtorEq, Int.reduceToNat, Int.reduceNeg, Nat.reduceLeDiff]
  refine WC_loop (fun n s => ∃ j sl, n = names.length - j ∧ j ≤ names.length ∧ s.env 0 = .slice a l.length c ∧ s.env 1 = .slice b names.length d ∧ s.env 2 = .int .i64 foe ∧ s.env 3 = .int .i64 now ∧ s.env 9 = sl ∧ s.env 10 = .int .i64 (j : Int) ∧ Own eStr H.length s.heap sl (freeM l (names.take j) foe now) ∧ Ext H s.heap ∧ s.low = H.length) ?_ names.length _ ⟨0, _, rfl, by omega, rfl, rfl, rfl, rfl, rfl, rfl, Own.nil _ _ _, Ext.refl _, rfl⟩
  rintro n ⟨e, H', lw⟩ ⟨j, sl, hn, hj, k0, k1, k2, k3, k9, k10, ho, hx, rfl⟩
  simp only [] at k0 k1 k2 k3 k9 k10 ho hx
  have hlen := hx.len
  by_cases hlt : j < names.length
  · obtain ⟨x, hx1⟩ : ∃ x, names[j]? = some x := ⟨names[j], List.getElem?_eq_getElem hlt⟩
    obtain ⟨i, o, rfl, _, p0⟩ := (h'.ext hx).at1 rfl hx1 rfl
    have hft := filter_take hx1 (fun nm => !(untilM l nm foe now).2)
    simp (disch := first | omega | assumption | (simp only [zl] <;> omega) | fail) only [k0, k1, k2, k3, k9, k10, p0, zd, zs, seval, AV.undef, unA, fillA, evParts, repCells, splice, partA, pureStep, memStep, resOf, resAll, resA, nilckA, bne, ↓reduceIte, Nat.reduceEqDiff, reduceCtorEq, Int.reduceToNat, Int.reduceNeg, Nat.reduceLeDiff]
    refine WO_callP rfl hx (p25 (h.ext hx) (by omega) x foe now) ?_
    rintro v _ _ _ ⟨rfl, rfl⟩
    simp (disch := first | omega | assumption | (simp only [zl] <;> omega) | fail) only [k0, k1, k2, k3, k9, k10, p0, zd, zs, seval, AV.undef, unA, fillA, evParts, repCells, splice, partA, pureStep, memStep, resOf, resAll, resA, nilckA, bne, ↓reduceIte, Nat.reduceEqDiff, reduceCtorEq, Int.reduceToNat, Int.reduceNeg, Nat.reduceLeDiff]
    refine WC_not (fun hu => ?_) (fun hu => ?_)
    · obtain ⟨v', H2, w, e1, o1, a1, _, elo⟩ := app_str x ho hlen (Nat.le_trans (filter_len _ _ _) hl')
      have elo := elo _ (Nat.le_refl _)
      simp (disch := first | omega | assumption | (simp only [zl] <;> omega) | fail) only [k0, k1, k2, k3, k9, k10, p0, e1, elo, zd, zs, seval, AV.undef, unA, fillA, evParts, repCells, splice, partA, pureStep, memStep, resOf, resAll, resA, nilckA, bne, ↓reduceIte, Nat.reduceEqDiff, reduceCtorEq, Int.reduceToNat, Int.reduceNeg, Nat.reduceLeDiff]
      refine ⟨_, by omega, j + 1, v', rfl, by omega, rfl, rfl, ?_, a1.extE hx ho.ge⟩
      unfold freeM at o1 ⊢
      rw [hft]; simpa [hu] using o1
    · simp (disch := first | omega | assumption | (simp only [zl] <;> omega) | fail) only [k0, k1, k2, k3, k9, k10, zd, zs, seval, AV.undef, unA, fillA, evParts, repCells, splice, partA, pureStep, memStep, resOf, resAll, resA, nilckA, bne, ↓reduceIte, Nat.reduceEqDiff, reduceCtorEq, Int.reduceToNat, Int.reduceNeg, Nat.reduceLeDiff]
      refine ⟨_, by omega, j + 1, sl, rfl, by omega, rfl, rfl, ?_, hx⟩
      unfold freeM at ho ⊢
      rw [hft]; simpa [hu] using ho
  · have hjn : j = names.length := by omega
    subst hjn
    rw [List.take_length] at ho
    simp (disch := first | omega | assumption | (simp only [zl] <;> omega) | fail) only [k0, k1, k2, k3, k9, k10, zd, zs, seval, AV.undef, unA, fillA, evParts, repCells, splice, partA, pureStep, memStep, resOf, resAll, resA, nilckA, bne, ↓reduceIte, Nat.reduceEqDiff, reduceCtorEq, Int.reduceToNat, Int.reduceNeg, Nat.reduceLeDiff]
    exact ⟨hx, ho⟩

/-! ### Turns -/
def far (n : Int) : Prop := -1125899906842624 ≤ n ∧ n ≤ 1125899906842624
instance (n : Int) : Decidable (far n) := by unfold far; infer_instance
def turnM (now per off : Int) : Int :=
  if far now ∧ far off ∧ 1 ≤ per ∧ per ≤ 1125899906842624 then now + per - (if (now - off).tmod per < 0 then (now - off).tmod per + per else (now - off).tmod per) else now

theorem p74 (n lo hi : Int) (H : AHeap) : PF T 74 [.int .i64 n, .int .i64 lo, .int .i64 hi] H fun r H' => r = .bool (decide (lo ≤ n ∧ n ≤ hi)) ∧ H = H' := by
  refine PF_code rfl _ _ _ ?_
  simp only [a74]
  by_cases h1 : lo ≤ n
  · by_cases h2 : n ≤ hi
    · simp (disch := first | omega | assumption | (simp only [zl] <;> omega) | fail) only [h1, h2, zd, zs, seval, AV.undef, unA, fillA, evParts, repCells, splice, partA, pureStep, memStep, resOf, resAll, resA, nilckA, bne, ↓reduceIte, Nat.reduceEqDiff, reduceCtorEq, Int.reduceToNat, Int.reduceNeg, Nat.reduceLeDiff]
      exact Ext.refl _
    · simp (disch := first | omega | assumption | (simp only [zl] <;> omega) | fail) only [h1, h2, zd, zs, seval, AV.undef, unA, fillA, evParts, repCells, splice, partA, pureStep, memStep, resOf, resAll, resA, nilckA, bne, ↓reduceIte, Nat.reduceEqDiff, reduceCtorEq, Int.reduceToNat, Int.reduceNeg, Nat.reduceLeDiff]
      first | exact Ext.refl _ | exact ⟨Ext.refl _, by simp⟩
  · simp (disch := first | omega | assumption | (simp only [zl] <;> omega) | fail) only [h1, zd, zs, seval, AV.undef, unA, fillA, evParts, repCells, splice, partA, pureStep, memStep, resOf, resAll, resA, nilckA, bne, ↓reduceIte, Nat.reduceEqDiff, reduceCtorEq, Int.reduceToNat, Int.reduceNeg, Nat.reduceLeDiff]
    first | exact Ext.refl _ | exact ⟨Ext.refl _, by simp⟩

theorem tmod_lt {a b : Int} (hb : 1 ≤ b) : -b < a.tmod b ∧ a.tmod b < b := by
  have h1 := Int.tmod_lt_of_pos a (b := b) (by omega)
  have h2 := Int.lt_tmod_of_pos a (b := b) (by omega)
  exact ⟨h2, h1⟩

set_option maxHeartbeats 1000000 in
/-- lock.Turn -/
theorem p40 (now per off : Int) (H : AHeap) : PF T 40 [.int .i64 now, .int .i64 per, .int .i64 off] H fun r H' => r = .int .i64 (turnM now per off) ∧ H = H' := by
  refine PF_code rfl _ _ _ ?_
  simp only [a40]
  unfold turnM far
  simp (disch := first | omega | assumption | (simp only [zl] <;> omega) | fail) only [zd, zs, seval, AV.undef, unA, fillA, evParts, repCells, splice, partA, pureStep, memStep, resOf, resAll, resA, nilckA, bne, ↓reduceIte, Nat.reduceEqDiff, reduceCtorEq, Int.reduceToNat, Int.reduceNeg, Nat.reduceLeDiff]
  refine WO_callP rfl (Ext.refl _) (p74 _ _ _ _) ?_
  rintro v _ _ _ ⟨rfl, rfl⟩
  by_cases h1 : -1125899906842624 ≤ now ∧ now ≤ 1125899906842624
  · simp (disch := first | omega | assumption | (simp only [zl] <;> omega) | fail) only [h1, and_self, zd, zs, seval, AV.undef, unA, fillA, evParts, repCells, splice, partA, pureStep, memStep, resOf, resAll, resA, nilckA, bne, ↓reduceIte, Nat.reduceEqDiff, reduceCtorEq, Int.reduceToNat, Int.reduceNeg, Nat.reduceLeDiff]
    refine WO_callP rfl (Ext.refl _) (p74 _ _ _ _) ?_
    rintro v _ _ _ ⟨rfl, rfl⟩
    by_cases h2 : -1125899906842624 ≤ off ∧ off ≤ 1125899906842624
    · simp (disch := first | omega | assumption | (simp only [zl] <;> omega) | fail) only [h2, and_self, zd, zs, seval, AV.undef, unA, fillA, evParts, repCells, splice, partA, pureStep, memStep, resOf, resAll, resA, nilckA, bne, ↓reduceIte, Nat.reduceEqDiff, reduceCtorEq, Int.reduceToNat, Int.reduceNeg, Nat.reduceLeDiff]
      refine WO_callP rfl (Ext.refl _) (p74 _ _ _ _) ?_
      rintro v _ _ _ ⟨rfl, rfl⟩
      by_cases h3 : 1 ≤ per ∧ per ≤ 1125899906842624
      · have hm := tmod_lt (a := now - off) h3.1
        simp (disch := first | omega | assumption | (simp only [zl] <;> omega) | fail) only [h3, and_self, zd, zs, seval, AV.undef, unA, fillA, evParts, repCells, splice, partA, pureStep, memStep, resOf, resAll, resA, nilckA, bne, ↓reduceIte, Nat.reduceEqDiff, reduceCtorEq, Int.reduceToNat, Int.reduceNeg, Nat.reduceLeDiff]
        refine WC_dec (fun g => ?_) (fun g => ?_)
        · simp (disch := first | omega | assumption | (simp only [zl] <;> omega) | fail) only [g, zd, zs, seval, AV.undef, unA, fillA, evParts, repCells, splice, partA, pureStep, memStep, resOf, resAll, resA, nilckA, bne, ↓reduceIte, Nat.reduceEqDiff, reduceCtorEq, Int.reduceToNat, Int.reduceNeg, Nat.reduceLeDiff]
          exact Ext.refl _
        · simp (disch := first | omega | assumption | (simp only [zl] <;> omega) | fail) only [g, zd, zs, seval, AV.undef, unA, fillA, evParts, repCells, splice, partA, pureStep, memStep, resOf, resAll, resA, nilckA, bne, ↓reduceIte, Nat.reduceEqDiff, reduceCtorEq, Int.reduceToNat, Int.reduceNeg, Nat.reduceLeDiff]
          exact Ext.refl _
      · simp (disch := first | omega | assumption | (simp only [zl] <;> omega) | fail) only [h3, and_false, zd, zs, seval, AV.undef, unA, fillA, evParts, repCells, splice, partA, pureStep, memStep, resOf, resAll, resA, nilckA, bne, ↓reduceIte, Nat.reduceEqDiff, reduceCtorEq, Int.reduceToNat, Int.reduceNeg, Nat.reduceLeDiff]
        exact Ext.refl _
    · simp (disch := first | omega | assumption | (simp only [zl] <;> omega) | fail) only [h2, false_and, and_false, zd, zs, seval, AV.undef, unA, fillA, evParts, repCells, splice, partA, pureStep, memStep, resOf, resAll, resA, nilckA, bne, ↓reduceIte, Nat.reduceEqDiff, reduceCtorEq, Int.reduceToNat, Int.reduceNeg, Nat.reduceLeDiff]
      exact Ext.refl _
  · simp (disch := first | omega | assumption | (simp only [zl] <;> omega) | fail) only [h1, false_and, zd, zs, seval, AV.undef, unA, fillA, evParts, repCells, splice, partA, pureStep, memStep, resOf, resAll, resA, nilckA, bne, ↓reduceIte, Nat.reduceEqDiff, reduceCtorEq, Int.reduceToNat, Int.reduceNeg, Nat.reduceLeDiff]
    exact Ext.refl _

set_option maxHeartbeats 1000000 in
/-- barrowref37.Turn -/
theorem p41 (now per off : Int) (H : AHeap) : PF T 41 [.int .i64 now, .int .i64 per, .int .i64 off] H fun r H' => r = .int .i64 (turnM now per off) ∧ H = H' := by
  refine PF_code rfl _ _ _ ?_
  simp only [a41]
  unfold turnM far
  by_cases h1 : now < -1125899906842624
  · have g : ¬ (-1125899906842624 ≤ now) := by omega
    simp (disch := first | omega | assumption | (simp only [zl] <;> omega) | fail) only [h1, g, false_and, zd, zs, seval, AV.undef, unA, fillA, evParts, repCells, splice, partA, pureStep, memStep, resOf, resAll, resA, nilckA, bne, ↓reduceIte, Nat.reduceEqDiff, reduceCtorEq, Int.reduceToNat, Int.reduceNeg, Nat.reduceLeDiff]
    exact Ext.refl _
  have g1 : -1125899906842624 ≤ now := by omega
  by_cases h2 : now > 1125899906842624
  · have g : ¬ (now ≤ 1125899906842624) := by omega
    simp (disch := first | omega | assumption | (simp only [zl] <;> omega) | fail) only [h1, h2, g, false_and, and_false, zd, zs, seval, AV.undef, unA, fillA, evParts, repCells, splice, partA, pureStep, memStep, resOf, resAll, resA, nilckA, bne, ↓reduceIte, Nat.reduceEqDiff, reduceCtorEq, Int.reduceToNat, Int.reduceNeg, Nat.reduceLeDiff]
    exact Ext.refl _
  have g2 : now ≤ 1125899906842624 := by omega
  by_cases h3 : off < -1125899906842624
  · have g : ¬ (-1125899906842624 ≤ off) := by omega
    simp (disch := first | omega | assumption | (simp only [zl] <;> omega) | fail) only [h1, h2, h3, g, false_and, and_false, zd, zs, seval, AV.undef, unA, fillA, evParts, repCells, splice, partA, pureStep, memStep, resOf, resAll, resA, nilckA, bne, ↓reduceIte, Nat.reduceEqDiff, reduceCtorEq, Int.reduceToNat, Int.reduceNeg, Nat.reduceLeDiff]
    exact Ext.refl _
  have g3 : -1125899906842624 ≤ off := by omega
  by_cases h4 : off > 1125899906842624
  · have g : ¬ (off ≤ 1125899906842624) := by omega
    simp (disch := first | omega | assumption | (simp only [zl] <;> omega) | fail) only [h1, h2, h3, h4, g, false_and, and_false, zd, zs, seval, AV.undef, unA, fillA, evParts, repCells, splice, partA, pureStep, memStep, resOf, resAll, resA, nilckA, bne, ↓reduceIte, Nat.reduceEqDiff, reduceCtorEq, Int.reduceToNat, Int.reduceNeg, Nat.reduceLeDiff]
    exact Ext.refl _
  have g4 : off ≤ 1125899906842624 := by omega
  by_cases h5 : per < 1
  · have g : ¬ (1 ≤ per) := by omega
    simp (disch := first | omega | assumption | (simp only [zl] <;> omega) | fail) only [h1, h2, h3, h4, h5, g, false_and, and_false, zd, zs, seval, AV.undef, unA, fillA, evParts, repCells, splice, partA, pureStep, memStep, resOf, resAll, resA, nilckA, bne, ↓reduceIte, Nat.reduceEqDiff, reduceCtorEq, Int.reduceToNat, Int.reduceNeg, Nat.reduceLeDiff]
    exact Ext.refl _
  have g5 : 1 ≤ per := by omega
  by_cases h6 : per > 1125899906842624
  · have g : ¬ (per ≤ 1125899906842624) := by omega
    simp (disch := first | omega | assumption | (simp only [zl] <;> omega) | fail) only [h1, h2, h3, h4, h5, h6, g, false_and, and_false, zd, zs, seval, AV.undef, unA, fillA, evParts, repCells, splice, partA, pureStep, memStep, resOf, resAll, resA, nilckA, bne, ↓reduceIte, Nat.reduceEqDiff, reduceCtorEq, Int.reduceToNat, Int.reduceNeg, Nat.reduceLeDiff]
    exact Ext.refl _
  have g6 : per ≤ 1125899906842624 := by omega
  have hm := tmod_lt (a := now - off) g5
  simp (disch := first | omega | assumption | (simp only [zl] <;> omega) | fail) only [h1, h2, h3, h4, h5, h6, g1, g2, g3, g4, g5, g6, and_self, zd, zs, seval, AV.undef, unA, fillA, evParts, repCells, splice, partA, pureStep, memStep, resOf, resAll, resA, nilckA, bne, ↓reduceIte, Nat.reduceEqDiff, reduceCtorEq, Int.reduceToNat, Int.reduceNeg, Nat.reduceLeDiff]
  refine WC_dec (fun g => ?_) (fun g => ?_)
  · simp (disch := first | omega | assumption | (simp only [zl] <;> omega) | fail) only [g, zd, zs, seval, AV.undef, unA, fillA, evParts, repCells, splice, partA, pureStep, memStep, resOf, resAll, resA, nilckA, bne, ↓reduceIte, Nat.reduceEqDiff, reduceCtorEq, Int.reduceToNat, Int.reduceNeg, Nat.reduceLeDiff]
    first | exact Ext.refl _ | exact ⟨Ext.refl _, by congr 1; omega⟩
  · simp (disch := first | omega | assumption | (simp only [zl] <;> omega) | fail) only [g, zd, zs, seval, AV.undef, unA, fillA, evParts, repCells, splice, partA, pureStep, memStep, resOf, resAll, resA, nilckA, bne, ↓reduceIte, Nat.reduceEqDiff, reduceCtorEq, Int.reduceToNat, Int.reduceNeg, Nat.reduceLeDiff]
    first | exact Ext.refl _ | exact ⟨Ext.refl _, by congr 1; omega⟩

/-! ### few -/
def fewM (l : List Lock) : Bool := decide (l.length ≤ 250) && (l.take 300).all fun x => decide (x.name.length ≤ 100)
theorem fewM_le {l : List Lock} (h : fewM l = true) : l.length ≤ 250 := by unfold fewM at h; simp at h; exact h.1
theorem fewM_mem {l : List Lock} (h : fewM l = true) : ∀ x, x ∈ l → x.name.length ≤ 100 := by
  unfold fewM at h
  simp only [Bool.and_eq_true, decide_eq_true_iff, List.all_eq_true] at h
  intro x hx
  exact h.2 x (by rw [List.take_of_length_le (by omega)]; exact hx)

def LkW (x : Lock) : Prop := I64 x.foe ∧ I64 x.till
theorem few_ok {l : List Lock} (h : fewM l = true) (hw : ∀ x, x ∈ l → LkW x) : ∀ x, x ∈ l → LkOk x := fun x hx => ⟨by have := fewM_mem h x hx; omega, hw x hx⟩
/-- barrowlaw37.few -/
theorem p21 {H : AHeap} {a : Option (Nat × Nat)} {n : Nat} {c : Option Nat} {l : List Lock} (h : SE eLock H a n c l) :
    PF T 21 [.slice a n c] H fun r H' => r = .bool (fewM l) ∧ H = H' := by
  obtain rfl := h.n
  refine PF_code rfl _ _ _ ?_
  simp only [a21]
  simp (disch := first | omega | assumption | (simp only [zl] <;> omega) | fail) only [zd, zs, seval, AV.undef, unA, fillA, evParts, repCells, splice, partA, pureStep, memStep, resOf, resAll, resA, nilckA, bne, ↓reduceIte, Nat.reduceEqDiff, reduceCtorEq, Int.reduceToNat, Int.reduceNeg, Nat.reduceLeDiff]
  refine WC_loop (fun n s => ∃ j, n = l.length - j ∧ j ≤ l.length ∧ j ≤ 300 ∧ s.env 0 = .slice a l.length c ∧ s.env 3 = .int .i64 (j : Int) ∧ s.heap = H ∧ s.low = H.length ∧ (∀ x, x ∈ l.take j → x.name.length ≤ 100)) ?_ l.length _ ⟨0, rfl, by omega, by omega, rfl, rfl, rfl, rfl, by simp⟩
  rintro n ⟨e, H', lw⟩ ⟨j, hn, hj, hj3, k0, k3, kH, kL, hf⟩
  simp only [] at k0 k3 kH kL
  subst kH; subst kL
  have done : (j = l.length ∨ j = 300) → (l.take 300).all (fun x => decide (x.name.length ≤ 100)) = true := fun hd => by
    simp only [List.all_eq_true, decide_eq_true_iff]
    intro x hx
    rcases hd with rfl | rfl
    · exact hf x (by rw [List.take_length]; exact List.mem_of_mem_take hx)
    · exact hf x hx
  by_cases hlt : j < l.length
  · by_cases hlt3 : j < 300
    · obtain ⟨x, hx1⟩ : ∃ x, l[j]? = some x := ⟨l[j], List.getElem?_eq_getElem hlt⟩
      obtain ⟨i, o, rfl, _, p0, p1, p2, p3⟩ := lock_at h hx1
      by_cases hnl : x.name.length ≤ 100
      · simp (disch := first | omega | assumption | (simp only [zl] <;> omega) | fail) only [k0, k3, p1, hnl, zd, zs, seval, AV.undef, unA, fillA, evParts, repCells, splice, partA, pureStep, memStep, resOf, resAll, resA, nilckA, bne, ↓reduceIte, Nat.reduceEqDiff, reduceCtorEq, Int.reduceToNat, Int.reduceNeg, Nat.reduceLeDiff]
        refine ⟨_, by omega, j + 1, rfl, by omega, by omega, rfl, fun y hy => ?_⟩
        rw [List.take_add_one, hx1, List.mem_append] at hy
        rcases hy with hy | hy
        · exact hf y hy
        · simp at hy; subst hy; exact hnl
      · simp (disch := first | omega | assumption | (simp only [zl] <;> omega) | fail) only [k0, k3, p1, hnl, zd, zs, seval, AV.undef, unA, fillA, evParts, repCells, splice, partA, pureStep, memStep, resOf, resAll, resA, nilckA, bne, ↓reduceIte, Nat.reduceEqDiff, reduceCtorEq, Int.reduceToNat, Int.reduceNeg, Nat.reduceLeDiff]
        refine ⟨Ext.refl _, ?_⟩
        unfold fewM
        have : x ∈ l.take 300 := List.mem_of_getElem? (i := j) (by rw [List.getElem?_take, if_pos hlt3, hx1])
        have h2 : (l.take 300).all (fun x => decide (x.name.length ≤ 100)) = false := by
          rw [List.all_eq_false]; exact ⟨x, this, by simpa using hnl⟩
        rw [h2, Bool.and_false]
    · simp (disch := first | omega | assumption | (simp only [zl] <;> omega) | fail) only [k0, k3, zd, zs, seval, AV.undef, unA, fillA, evParts, repCells, splice, partA, pureStep, memStep, resOf, resAll, resA, nilckA, bne, ↓reduceIte, Nat.reduceEqDiff, reduceCtorEq, Int.reduceToNat, Int.reduceNeg, Nat.reduceLeDiff]
      refine ⟨Ext.refl _, ?_⟩
      unfold fewM; rw [done (.inr (by omega))]; simp; omega
  · simp (disch := first | omega | assumption | (simp only [zl] <;> omega) | fail) only [k0, k3, zd, zs, seval, AV.undef, unA, fillA, evParts, repCells, splice, partA, pureStep, memStep, resOf, resAll, resA, nilckA, bne, ↓reduceIte, Nat.reduceEqDiff, reduceCtorEq, Int.reduceToNat, Int.reduceNeg, Nat.reduceLeDiff]
    refine ⟨Ext.refl _, ?_⟩
    unfold fewM; rw [done (.inl (by omega))]; simp; omega
end Go.Proofs.Qq.Qqd

namespace Go.Proofs.Qq.Qqd
open Go.Proofs.Qq

/-! ### Rows in order -/
def Srt (l : List Lock) : Prop := l.Pairwise fun a b => a.lt b = true
theorem lrGo_srt : ∀ (l : List Lock) (p : Option Lock), lrGo l p = true → Srt l ∧ (∀ x ∈ l, nameOk x.name = true ∧ 1 ≤ x.foe) ∧ ∀ y, p = some y → ∀ x ∈ l, y.lt x = true
  | [], _, _ => ⟨.nil, fun _ h => (by cases h), fun _ _ _ h => (by cases h)⟩
  | x :: xs, p, h => by
    rw [lrGo_cons] at h
    simp only [Bool.and_eq_true, decide_eq_true_iff] at h
    obtain ⟨h1, h2, h3⟩ := lrGo_srt xs (some x) h.2
    refine ⟨.cons (h3 x rfl) h1, fun y hy => ?_, fun y hy z hz => ?_⟩
    · rcases List.mem_cons.1 hy with rfl | hy
      · exact h.1.1
      · exact h2 y hy
    · subst hy
      have hyx : y.lt x = true := h.1.2
      rcases List.mem_cons.1 hz with rfl | hz
      · exact hyx
      · exact Lock.lt_trans hyx (h3 x rfl z hz)
theorem srt_lrGo : ∀ (l : List Lock) (p : Option Lock), Srt l → (∀ x ∈ l, nameOk x.name = true ∧ 1 ≤ x.foe) → (∀ y, p = some y → ∀ x ∈ l, y.lt x = true) → lrGo l p = true
  | [], _, _, _, _ => rfl
  | x :: xs, p, h1, h2, h3 => by
    rw [lrGo_cons]
    simp only [Bool.and_eq_true, decide_eq_true_iff]
    cases h1 with
    | cons h4 h5 =>
    refine ⟨⟨h2 x (by simp), ?_⟩, srt_lrGo xs (some x) h5 (fun y hy => h2 y (by simp [hy])) fun y hy z hz => by cases hy; exact h4 z hz⟩
    cases p with
    | none => rfl
    | some y => exact h3 y rfl x (by simp)
theorem lright_iff (l : List Lock) : lright l = true ↔ Srt l ∧ (∀ x ∈ l, nameOk x.name = true ∧ 1 ≤ x.foe) ∧ l.length ≤ 200 := by
  unfold lright
  simp only [Bool.and_eq_true, decide_eq_true_iff]
  constructor
  · rintro ⟨h1, h2⟩; have := lrGo_srt l none h1; exact ⟨this.1, this.2.1, h2⟩
  · rintro ⟨h1, h2, h3⟩; exact ⟨srt_lrGo l none h1 h2 (fun y hy => by cases hy), h3⟩
theorem Srt.at2 {l : List Lock} (h : Srt l) {i j : Nat} {x y : Lock} (hij : i < j) (hx : l[i]? = some x) (hy : l[j]? = some y) : x.lt y = true := by
  obtain ⟨h1, rfl⟩ := List.getElem?_eq_some_iff.1 hx
  obtain ⟨h2, rfl⟩ := List.getElem?_eq_some_iff.1 hy
  exact List.pairwise_iff_getElem.1 h i j h1 h2 hij

/-- Where one would stand. -/
def srch (l : List Lock) (x : Lock) : Nat := (l.takeWhile fun y => y.lt x).length
theorem srch_le (l : List Lock) (x : Lock) : srch l x ≤ l.length := (List.takeWhile_sublist _).length_le
theorem srch_lt : ∀ {l : List Lock} {x y : Lock} {t : Nat}, t < srch l x → l[t]? = some y → y.lt x = true
  | [], _, _, _, h, _ => by simp [srch] at h
  | z :: l, x, y, t, h, hy => by
    unfold srch at h
    rw [List.takeWhile_cons] at h
    cases hz : z.lt x with
    | false => rw [hz] at h; simp at h
    | true =>
      rw [hz] at h
      cases t with
      | zero => simp at hy; subst hy; exact hz
      | succ t => exact srch_lt (l := l) (t := t) (by simpa [srch] using h) (by simpa using hy)
theorem srch_at : ∀ {l : List Lock} {x y : Lock}, l[srch l x]? = some y → y.lt x = false
  | [], _, _, h => by cases h
  | z :: l, x, y, h => by
    unfold srch at h
    rw [List.takeWhile_cons] at h
    cases hz : z.lt x with
    | true => rw [hz] at h; simp only [if_true, List.length_cons, List.getElem?_cons_succ] at h; exact srch_at (l := l) h
    | false => rw [hz] at h; simp at h; subst h; exact hz
theorem srch_eq {l : List Lock} {x : Lock} {k : Nat} (hk : k ≤ l.length) (h1 : ∀ t y, t < k → l[t]? = some y → y.lt x = true) (h2 : ∀ y, l[k]? = some y → y.lt x = false) : srch l x = k := by
  rcases Nat.lt_trichotomy (srch l x) k with h | h | h
  · have hl : srch l x < l.length := by omega
    obtain ⟨y, hy⟩ : ∃ y, l[srch l x]? = some y := ⟨_, List.getElem?_eq_getElem hl⟩
    have q1 := srch_at hy
    rw [h1 _ _ h hy] at q1; cases q1
  · exact h
  · have hl : k < l.length := by have := srch_le l x; omega
    obtain ⟨y, hy⟩ : ∃ y, l[k]? = some y := ⟨_, List.getElem?_eq_getElem hl⟩
    have q1 := h2 _ hy
    rw [srch_lt h hy] at q1; cases q1
/-- Does it stand there? -/
def hitM (l : List Lock) (x : Lock) : Bool := match l[srch l x]? with
  | some y => !(x.lt y)
  | none => false

theorem ordI_neg (a b : Lock) : decide (ordI a b < 0) = a.lt b := by
  unfold ordI
  cases h : a.lt b with
  | true => simp
  | false => cases h2 : b.lt a <;> simp
theorem ordI_zero {a b : Lock} (h : a.lt b = false) : decide (ordI a b = 0) = !(b.lt a) := by
  unfold ordI
  rw [h]
  cases h2 : b.lt a <;> simp

theorem half (n : Nat) (h : n < 9223372036854775808) : binShift false .u64 (n : Int) 1 = some (.int .u64 ((n / 2 : Nat) : Int)) := by
  unfold binShift
  rw [if_neg (by decide), if_neg (by decide)]
  have : min (1 : Int).toNat IntKind.u64.bits = 1 := by decide
  rw [this]
  congr 2
  rw [Int.fdiv_eq_ediv_of_nonneg _ (by decide)]
  omega

set_option maxHeartbeats 2000000 in
/-- slices.BinarySearchFunc of locks -/
theorem p60 {H : AHeap} {a : Option (Nat × Nat)} {n : Nat} {c : Option Nat} {l : List Lock} (h : SE eLock H a n c l) (hl : l.length ≤ 1000000) (x : Lock) (hs : Srt l) :
    PF T 60 [.slice a n c, .agg [.str x.name, .int .i64 x.foe, .int .i64 x.till], .func 61 [] []] H fun r _ => r = .tup [.int .i64 (srch l x : Int), .bool (hitM l x)] := by
  obtain rfl := h.n
  refine PF_code rfl _ _ _ ?_
  simp only [a60]
  simp (disch := first | omega | assumption | (simp only [zl] <;> omega) | fail) only [zd, zs, seval, AV.undef, unA, fillA, evParts, repCells, splice, partA, pureStep, memStep, resOf, resAll, resA, nilckA, bne, ↓reduceIte, Nat.reduceEqDiff, reduceCtorEq, Int.reduceToNat, Int.reduceNeg, Nat.reduceLeDiff]
  refine WC_loop (fun n s => ∃ i j, n = j - i ∧ i ≤ j ∧ j ≤ l.length ∧ s.env 0 = .slice a l.length c ∧ s.env 2 = .func 61 [] [] ∧ s.env 4 = .ptr (some (H.length, 0)) ∧ s.env 8 = .int .i64 (l.length : Int) ∧ s.env 9 = .int .i64 (i : Int) ∧ s.env 10 = .int .i64 (j : Int) ∧ Ext (newRow H [.str x.name, .int .i64 x.foe, .int .i64 x.till] 0) s.heap ∧ s.low = H.length ∧ (∀ t y, t < i → l[t]? = some y → y.lt x = true) ∧ (∀ t y, j ≤ t → l[t]? = some y → y.lt x = false)) ?_ l.length _
    ⟨0, l.length, rfl, by omega, by omega, rfl, rfl, rfl, rfl, rfl, rfl, Ext.refl _, rfl, fun t y h => (by omega), fun t y h hy => (by rw [List.getElem?_eq_none h] at hy; cases hy)⟩
  rintro n ⟨e, H', lw⟩ ⟨i, j, hn, hij, hj, k0, k2, k4, k8, k9, k10, hx0, rfl, hA, hB⟩
  simp only [] at k0 k2 k4 k8 k9 k10 hx0
  have hx : Ext H H' := (Ext.newRow H _ _).trans hx0
  have r4 : hOf H' H.length = some ⟨[.str x.name, .int .i64 x.foe, .int .i64 x.till], true, 0⟩ := hx0.row _ _ (hOf_new_eq rfl _ _)
  have l4 := load_row r4
  have hlen := hOf_is_lt r4
  have hlen' := hx.len
  by_cases hlt : i < j
  · have hb : binShift false .u64 ((i : Int) + (j : Int)) 1 = some (.int .u64 (((i + j) / 2 : Nat) : Int)) := by rw [← half (i + j) (by omega)]; congr 1
    obtain ⟨y, hy⟩ : ∃ y, l[(i + j) / 2]? = some y := ⟨l[(i + j) / 2]'(by omega), List.getElem?_eq_getElem (by omega)⟩
    obtain ⟨i2, o2, rfl, _, p0, _⟩ := lock_at (h.ext hx) hy
    simp (disch := first | omega | assumption | (simp only [zl] <;> omega) | fail) only [k0, k2, k4, k8, k9, k10, hb, l4, p0, zd, zs, seval, AV.undef, unA, fillA, evParts, repCells, splice, partA, pureStep, memStep, resOf, resAll, resA, nilckA, bne, ↓reduceIte, Nat.reduceEqDiff, reduceCtorEq, Int.reduceToNat, Int.reduceNeg, Nat.reduceLeDiff]
    refine WO_callP rfl hx (p61 y x _) ?_
    rintro v H2 hx2 hx3 rfl
    simp (disch := first | omega | assumption | (simp only [zl] <;> omega) | fail) only [ordI_neg, zd, zs, seval, AV.undef, unA, fillA, evParts, repCells, splice, partA, pureStep, memStep, resOf, resAll, resA, nilckA, bne, ↓reduceIte, Nat.reduceEqDiff, reduceCtorEq, Int.reduceToNat, Int.reduceNeg, Nat.reduceLeDiff]
    refine WC_split (fun g => ?_) (fun g => ?_)
    · simp (disch := first | omega | assumption | (simp only [zl] <;> omega) | fail) only [k0, k2, k4, k8, k9, k10, zd, zs, seval, AV.undef, unA, fillA, evParts, repCells, splice, partA, pureStep, memStep, resOf, resAll, resA, nilckA, bne, ↓reduceIte, Nat.reduceEqDiff, reduceCtorEq, Int.reduceToNat, Int.reduceNeg, Nat.reduceLeDiff]
      refine ⟨_, ?_, (i + j) / 2 + 1, j, rfl, by omega, by omega, by simp, rfl, hx0.trans hx3, fun t z ht hz => ?_, hB⟩
      all_goals first | omega | skip
      · by_cases htm : t = (i + j) / 2
        · subst htm; rw [hy] at hz; cases hz; exact g
        · exact Lock.lt_trans (hs.at2 (by omega) hz hy) g
    · simp (disch := first | omega | assumption | (simp only [zl] <;> omega) | fail) only [k0, k2, k4, k8, k9, k10, zd, zs, seval, AV.undef, unA, fillA, evParts, repCells, splice, partA, pureStep, memStep, resOf, resAll, resA, nilckA, bne, ↓reduceIte, Nat.reduceEqDiff, reduceCtorEq, Int.reduceToNat, Int.reduceNeg, Nat.reduceLeDiff]
      refine ⟨_, ?_, i, (i + j) / 2, rfl, by omega, by omega, rfl, rfl, hx0.trans hx3, hA, fun t z ht hz => ?_⟩
      all_goals first | omega | skip
      · by_cases htm : t = (i + j) / 2
        · subst htm; rw [hy] at hz; cases hz; exact g
        · cases hzx : z.lt x with
          | false => rfl
          | true => rw [Lock.lt_trans (hs.at2 (show (i + j) / 2 < t by omega) hy hz) hzx] at g; cases g
  · have hij' : i = j := by omega
    subst hij'
    have hsr : srch l x = i := srch_eq hj hA (fun y hy => hB i y (Nat.le_refl _) hy)
    by_cases hil : i < l.length
    · obtain ⟨y, hy⟩ : ∃ y, l[i]? = some y := ⟨l[i], List.getElem?_eq_getElem hil⟩
      obtain ⟨i2, o2, rfl, _, p0, _⟩ := lock_at (h.ext hx) hy
      simp (disch := first | omega | assumption | (simp only [zl] <;> omega) | fail) only [k0, k2, k4, k8, k9, k10, l4, p0, zd, zs, seval, AV.undef, unA, fillA, evParts, repCells, splice, partA, pureStep, memStep, resOf, resAll, resA, nilckA, bne, ↓reduceIte, Nat.reduceEqDiff, reduceCtorEq, Int.reduceToNat, Int.reduceNeg, Nat.reduceLeDiff]
      refine WO_callP rfl hx (p61 y x _) ?_
      rintro v H2 hx2 hx3 rfl
      simp (disch := first | omega | assumption | (simp only [zl] <;> omega) | fail) only [ordI_zero (hB i y (Nat.le_refl _) hy), zd, zs, seval, AV.undef, unA, fillA, evParts, repCells, splice, partA, pureStep, memStep, resOf, resAll, resA, nilckA, bne, ↓reduceIte, Nat.reduceEqDiff, reduceCtorEq, Int.reduceToNat, Int.reduceNeg, Nat.reduceLeDiff]
      refine ⟨hx2, ?_⟩
      unfold hitM; rw [hsr, hy]; try simp [k9]
    · simp (disch := first | omega | assumption | (simp only [zl] <;> omega) | fail) only [k0, k2, k4, k8, k9, k10, zd, zs, seval, AV.undef, unA, fillA, evParts, repCells, splice, partA, pureStep, memStep, resOf, resAll, resA, nilckA, bne, ↓reduceIte, Nat.reduceEqDiff, reduceCtorEq, Int.reduceToNat, Int.reduceNeg, Nat.reduceLeDiff]
      refine ⟨hx, ?_⟩
      unfold hitM; rw [hsr, List.getElem?_eq_none (by omega)]
end Go.Proofs.Qq.Qqd

namespace Go.Proofs.Qq

/-! ### Parts of data: written over, cut -/
theorem own_setp {α : Type} {E : Flat α} {lo : Nat} {H : AHeap} {a : Option (Nat × Nat)} {ys : List α} (h : Own E lo H (.slice a ys.length none) ys) {k : Nat} {y : α} (hy : ys[k]? = some y) (x : α) {o : Nat} {cs : List AV}
    (hen : E.enc x = (E.enc y).take o ++ cs ++ (E.enc y).drop (o + cs.length)) (ho : o + cs.length ≤ E.sz) :
    ∃ i r, a = some (i, 0) ∧ lo ≤ i ∧ i < H.length ∧ wrRow H i (k * E.sz + o) cs = some (List.set H i (.row r)) ∧ Own E lo (List.set H i (.row r)) (.slice a ys.length none) (ys.set k x) := by
  have hk := (List.getElem?_eq_some_iff.1 hy).1
  rcases h with ⟨h1, h2⟩ | ⟨i, tail, h1, h2, h3⟩
  · subst h2; simp at hk
  · cases h1
    have hcl := E.cs_len ys
    have hl := hOf_is_lt h3
    have hm := Nat.mul_le_mul_right E.sz (show k + 1 ≤ ys.length by omega)
    rw [Nat.add_mul, Nat.one_mul] at hm
    refine ⟨i, _, rfl, h2, hl, wr_at h3 rfl (k * E.sz + o) _ (by simp only [List.length_append, hcl]; omega), .inr ⟨i, tail, by simp, h2, ?_⟩⟩
    rw [hOf_set_eq rfl hl]
    congr 2
    unfold splice
    rw [E.cs_set ys k x hk, hen, ← E.cs_at hy, List.take_append_of_le_length (by omega), List.drop_append_of_le_length (by omega), List.take_add, List.take_take, Nat.min_eq_left (by omega), Nat.add_mul, Nat.one_mul]
    have e1 : (E.cs ys).drop (k * E.sz + o + cs.length) = ((((E.cs ys).drop (k * E.sz)).take E.sz).drop (o + cs.length)) ++ (E.cs ys).drop (k * E.sz + E.sz) := by
      have e2 := List.take_append_drop E.sz ((E.cs ys).drop (k * E.sz))
      have e3 : ((((E.cs ys).drop (k * E.sz)).take E.sz).length) = E.sz := by simp; omega
      rw [List.drop_drop] at e2
      rw [Nat.add_assoc, ← List.drop_drop, ← e2, List.drop_append_of_le_length (by omega), e2]
    rw [e1]
    simp only [List.append_assoc]


theorem At.take {H : AHeap} {a : Option (Nat × Nat)} {xs : List AV} (h : At H a xs) (n : Nat) : At H a (xs.take n) := by
  cases a with
  | none => cases h; simp [At]
  | some p =>
    obtain ⟨r, hr, l, q⟩ := h
    refine ⟨r, hr, l, ?_⟩
    conv => rhs; rw [← q, List.take_take]
    rw [List.length_take]

theorem SE.sub_take {α : Type} {E : Flat α} {H : AHeap} {a : Option (Nat × Nat)} {c : Option Nat} {xs : List α} (h : SE E H a xs.length c xs) {k : Nat} (hk : k ≤ xs.length) :
    ∃ a' c', sliceOf E.sz a xs.length c none (some (.int .i64 (k : Int))) none = some (.slice a' k c') ∧ SE E H a' k c' (xs.take k) := by
  have hb : ∀ m, xs.length ≤ m → boundA (.int .i64 (k : Int)) m = some k := fun m hm => by unfold boundA; simp; omega
  have hl : (xs.take k).length = k := by simp; omega
  have hat : At H a (E.cs (xs.take k)) := by rw [← E.cs_take]; exact h.at_.take _
  cases c with
  | none =>
    refine ⟨a, none, by simp [sliceOf, hiA, loA, hb], hl.symm, hat, fun _ e => by cases e⟩
  | some c0 =>
    have hc := h.cap c0 rfl
    by_cases hc0 : 0 < c0
    · refine ⟨addO a (0 * E.sz), some (c0 - 0), by simp [sliceOf, hiA, loA, hb c0 hc, hc0], hl.symm, ?_, fun _ e => by cases e; omega⟩
      cases a with
      | none => exact hat
      | some p => simpa [addO] using hat
    · have : k = 0 := by omega
      subst this
      have hb0 : boundA (.int .i64 0) c0 = some 0 := hb c0 hc
      exact ⟨none, some 0, by simp [sliceOf, hiA, loA, hb0, hc0], rfl, by simp [At, E.cs_nil], fun _ e => by cases e; simp⟩

theorem SE.sub_drop {α : Type} {E : Flat α} {H : AHeap} {a : Option (Nat × Nat)} {c : Option Nat} {xs : List α} (h : SE E H a xs.length c xs) {k : Nat} (hk : k ≤ xs.length) :
    ∃ a' c', sliceOf E.sz a xs.length c (some (.int .i64 (k : Int))) none none = some (.slice a' (xs.length - k) c') ∧ SE E H a' (xs.length - k) c' (xs.drop k) := by
  have hb : boundA (.int .i64 (k : Int)) xs.length = some k := by unfold boundA; simp; omega
  have hl : (xs.drop k).length = xs.length - k := by simp
  have hat : ∀ (i o : Nat), a = some (i, o) → At H (some (i, o + k * E.sz)) (E.cs (xs.drop k)) := fun i o e => by
    rw [← E.cs_drop]
    have := h.at_
    rw [e] at this
    exact this.drop _ (by rw [E.cs_len]; exact Nat.mul_le_mul_right _ hk)
  have hend : k = xs.length → SE E H none (xs.length - k) (some 0) (xs.drop k) := fun e => by
    subst e
    rw [List.drop_length, Nat.sub_self]
    exact SE.empty E H
  have hsz : 0 < E.sz := E.pos
  cases c with
  | none =>
    by_cases hk0 : k = 0
    · subst hk0
      have hb0 : boundA (.int .i64 0) xs.length = some 0 := hb
      exact ⟨a, none, by simp [sliceOf, hiA, loA, hb0], h⟩
    · by_cases hkl : k < xs.length
      · refine ⟨addO a (k * E.sz), none, by simp [sliceOf, hiA, loA, hb, hk0, hkl, hsz], hl.symm, ?_, fun _ e => by cases e⟩
        cases a with
        | none => have := h.at_; simp only [At] at this; have hh := E.cs_len xs; rw [this] at hh; have : 0 < xs.length * E.sz := Nat.mul_pos (by omega) hsz; simp at hh; rw [← hh] at this; omega
        | some p => exact hat _ _ rfl
      · have e : k = xs.length := by omega
        have h0 : xs.length ≠ 0 := by omega
        exact ⟨none, some 0, by rw [e] at hb ⊢; simp [sliceOf, hiA, loA, hb, h0], hend e⟩
  | some c0 =>
    have hc := h.cap c0 rfl
    by_cases hkc : k < c0
    · refine ⟨addO a (k * E.sz), some (c0 - k), by simp [sliceOf, hiA, loA, hb, hkc], hl.symm, ?_, fun _ e => by cases e; simp; omega⟩
      cases a with
      | none => have := h.at_; simp only [At] at this; have hh := E.cs_len xs; rw [this] at hh; simp only [List.length_nil] at hh
                have hx0 : xs.length = 0 := by rcases Nat.mul_eq_zero.1 hh.symm with h | h <;> omega
                have : xs.drop k = [] := List.drop_eq_nil_of_le (by omega)
                rw [this]; simp [addO, At, E.cs_nil]
      | some p => exact hat _ _ rfl
    · have e : k = xs.length := by omega
      have hkc' : ¬ xs.length < c0 := by omega
      exact ⟨none, some 0, by rw [e] at hb ⊢; simp [sliceOf, hiA, loA, hb, hkc'], hend e⟩

/-- The ways of a region meet again. -/
theorem WO_cut {T : Nat → Option AFn} {ops : List ROp} {s : AS} {b : ACode} {Q : AExit → AS → Prop} (M : Env → AHeap → Nat → Prop) (h : WO T ops s fun s => M s.env s.heap s.low) (k : ∀ e H l, M e H l → WC T b ⟨e, H, l⟩ Q) : WO T ops s (seqQ T b Q .norm) :=
  WO.mono h fun s hs => k _ _ _ hs

/-- A loop whose ways out meet again. -/
theorem WC_loopM {T : Nat → Option AFn} {id : Nat} {body b : ACode} {Q : AExit → AS → Prop} (M : Env → AHeap → Nat → Prop) (Inv : Nat → AS → Prop) (step : ∀ n s, Inv n s → WC T body s (lpQ Inv n (blkQ id (cutQ M Q)))) (n : Nat) (s : AS) (h : Inv n s)
    (k : ∀ e H l, M e H l → WC T b ⟨e, H, l⟩ Q) : WC T (.loop body) s (blkQ id (seqQ T b Q)) :=
  WC.mono (WC_loop Inv step n s h) fun ex s h => by
    cases ex with
    | norm => exact k _ _ _ h
    | exit i =>
      simp only [blkQ] at h ⊢
      split
      · rename_i g; rw [if_pos g] at h; exact k _ _ _ h
      · rename_i g; rw [if_neg g] at h; exact h
    | ret => exact h
end Go.Proofs.Qq

namespace Go.Proofs.Qq.Qqd
open Go.Proofs.Qq

def mrg (y : Lock) (t : Int) : Lock := ⟨y.name, y.foe, if t > y.till then t else y.till⟩
def addOk (l : List Lock) (x : Lock) : Bool := lright l && nameOk x.name && decide (1 ≤ x.foe)
def addM (l : List Lock) (x : Lock) : List Lock × Int :=
  if addOk l x = true then
    match l[srch l x]? with
    | some y => if x.lt y = true then (if 200 ≤ l.length then ([], 4) else (l.take (srch l x) ++ x :: l.drop (srch l x), 0)) else (l.set (srch l x) (mrg y x.till), 0)
    | none => if 200 ≤ l.length then ([], 4) else (l.take (srch l x) ++ x :: l.drop (srch l x), 0)
  else ([], 1)
theorem addM_bad {l : List Lock} {x : Lock} (h : addOk l x = false) : addM l x = ([], 1) := by unfold addM; rw [h]; rfl
theorem addM_hit {l : List Lock} {x : Lock} (h : addOk l x = true) (k : hitM l x = true) : ∃ y, l[srch l x]? = some y ∧ addM l x = (l.set (srch l x) (mrg y x.till), 0) := by
  unfold hitM at k
  cases hy : l[srch l x]? with
  | none => rw [hy] at k; cases k
  | some y =>
    rw [hy] at k
    refine ⟨y, rfl, ?_⟩
    unfold addM
    rw [h, hy]
    simp only [Bool.not_eq_true'] at k
    simp [k]
theorem addM_full {l : List Lock} {x : Lock} (h : addOk l x = true) (k : hitM l x = false) (g : 200 ≤ l.length) : addM l x = ([], 4) := by
  unfold hitM at k
  unfold addM
  rw [h]
  cases hy : l[srch l x]? with
  | none => simp [g]
  | some y => rw [hy] at k; simp only [Bool.not_eq_false'] at k; simp [k, g]
theorem addM_new {l : List Lock} {x : Lock} (h : addOk l x = true) (k : hitM l x = false) (g : ¬ 200 ≤ l.length) : addM l x = (l.take (srch l x) ++ x :: l.drop (srch l x), 0) := by
  unfold hitM at k
  unfold addM
  rw [h]
  cases hy : l[srch l x]? with
  | none => simp [g]
  | some y => rw [hy] at k; simp only [Bool.not_eq_false'] at k; simp [k, g]

set_option maxHeartbeats 2000000 in
/-- lock.Add -/
theorem p22 {H : AHeap} {a : Option (Nat × Nat)} {c : Option Nat} {l : List Lock} (h : SE eLock H a l.length c l) (hl : l.length ≤ 1000000) (hok : ∀ x, x ∈ l → LkOk x) (x : Lock) (hx : LkOk x) :
    PF T 22 [.slice a l.length c, .str x.name, .int .i64 x.foe, .int .i64 x.till] H fun r H' => ∃ v, r = .tup [v, .int .i64 (addM l x).2] ∧ Own eLock H.length H' v (addM l x).1 := by
  refine PF_code rfl _ _ _ ?_
  simp only [a22]
  simp (disch := first | omega | assumption | (simp only [zl] <;> omega) | fail) only [zd, zs, seval, AV.undef, unA, fillA, evParts, repCells, splice, partA, pureStep, memStep, resOf, resAll, resA, nilckA, bne, ↓reduceIte, Nat.reduceEqDiff, reduceCtorEq, Int.reduceToNat, Int.reduceNeg, Nat.reduceLeDiff]
  refine WO_callP rfl (Ext.refl _) (p29 h (by omega) hok) ?_
  rintro v H1 hx1 _ rfl
  cases hr : lright l with
  | false =>
    have hb : addM l x = ([], 1) := addM_bad (by simp [addOk, hr])
    rw [hb]
    simp (disch := first | omega | assumption | (simp only [zl] <;> omega) | fail) only [zd, zs, seval, AV.undef, unA, fillA, evParts, repCells, splice, partA, pureStep, memStep, resOf, resAll, resA, nilckA, bne, ↓reduceIte, Nat.reduceEqDiff, reduceCtorEq, Int.reduceToNat, Int.reduceNeg, Nat.reduceLeDiff]
    exact ⟨hx1, _, rfl, Own.nil _ _ _⟩
  | true =>
    simp (disch := first | omega | assumption | (simp only [zl] <;> omega) | fail) only [zd, zs, seval, AV.undef, unA, fillA, evParts, repCells, splice, partA, pureStep, memStep, resOf, resAll, resA, nilckA, bne, ↓reduceIte, Nat.reduceEqDiff, reduceCtorEq, Int.reduceToNat, Int.reduceNeg, Nat.reduceLeDiff]
    refine WO_callP rfl hx1 (p37 x.name hx.1 _) ?_
    rintro v H2 hx2 _ rfl
    cases hnm : nameOk x.name with
    | false =>
      have hb : addM l x = ([], 1) := addM_bad (by simp [addOk, hnm])
      rw [hb]
      simp (disch := first | omega | assumption | (simp only [zl] <;> omega) | fail) only [zd, zs, seval, AV.undef, unA, fillA, evParts, repCells, splice, partA, pureStep, memStep, resOf, resAll, resA, nilckA, bne, ↓reduceIte, Nat.reduceEqDiff, reduceCtorEq, Int.reduceToNat, Int.reduceNeg, Nat.reduceLeDiff]
      exact ⟨hx2, _, rfl, Own.nil _ _ _⟩
    | true =>
      by_cases hf : 1 ≤ x.foe
      · have hao : addOk l x = true := by simp [addOk, hr, hnm, hf]
        simp (disch := first | omega | assumption | (simp only [zl] <;> omega) | fail) only [zd, zs, seval, AV.undef, unA, fillA, evParts, repCells, splice, partA, pureStep, memStep, resOf, resAll, resA, nilckA, bne, ↓reduceIte, Nat.reduceEqDiff, reduceCtorEq, Int.reduceToNat, Int.reduceNeg, Nat.reduceLeDiff]
        refine WO_callP rfl hx2 (clone_lock (h.ext hx2) hl) ?_
        rintro v H3 hx3 hx23 ho
        have hlen23 := hx23.len
        obtain ⟨b, rfl, hse⟩ := ho.se
        have hlen2 := hx2.len
        have hlen3 := hx3.len
        have hge := ho.ge
        simp (disch := first | omega | assumption | (simp only [zl] <;> omega) | fail) only [set_newRow_eq, zd, zs, seval, AV.undef, unA, fillA, evParts, repCells, splice, partA, pureStep, memStep, resOf, resAll, resA, nilckA, bne, ↓reduceIte, Nat.reduceEqDiff, reduceCtorEq, Int.reduceToNat, Int.reduceNeg, Nat.reduceLeDiff]
        generalize hH : newRow H3 [.str x.name, .int .i64 x.foe, .int .i64 x.till] 0 = H4
        have hx34 : Ext H3 H4 := hH ▸ Ext.newRow _ _ _
        have hl4 : H4.length = H3.length + 1 := by rw [← hH, len_newRow]
        have r4 : hOf H4 H3.length = some ⟨[.str x.name, .int .i64 x.foe, .int .i64 x.till], true, 0⟩ := by rw [← hH, hOf_new_eq rfl]
        refine WO_callP rfl (hx3.trans hx34) (p60 (hse.ext hx34) hl x ((lright_iff l).1 hr).1) ?_
        rintro v H5 hx5 hx45 rfl
        have ho5 := (ho.ext hx34).ext hx45
        have l5 := load_row (hx45.row _ _ r4)
        have hlen5 := hx45.len
        cases hh : hitM l x with
        | true =>
          obtain ⟨y, hy, hadd⟩ := addM_hit hao hh
          rw [hadd]
          have hkl := (List.getElem?_eq_some_iff.1 hy).1
          obtain ⟨i, o, e1, _, p0, p1, p2, p3⟩ := lock_at (hse.ext (hx34.trans hx45)) hy
          obtain ⟨i', r', e2, hi1, hi2, hw, how⟩ := own_setp ho5 hy (mrg y x.till) (o := 2) (cs := [.int .i64 (if x.till > y.till then x.till else y.till)]) rfl (Nat.le_refl 3)
          subst e1; cases e2
          rw [Nat.zero_add] at p3
          change wrRow H5 i (srch l x * 3 + 2) _ = _ at hw
          simp (disch := first | omega | assumption | (simp only [zl] <;> omega) | fail) only [l5, p3, hw, foldMM, minmax2, Nat.zero_add, zd, zs, seval, AV.undef, unA, fillA, evParts, repCells, splice, partA, pureStep, memStep, resOf, resAll, resA, nilckA, bne, ↓reduceIte, Nat.reduceEqDiff, reduceCtorEq, Int.reduceToNat, Int.reduceNeg, Nat.reduceLeDiff]
          exact ⟨hx5.set (by omega) _, _, rfl, how.lo (by omega)⟩
        | false =>
          by_cases hfull : 200 ≤ l.length
          · rw [addM_full hao hh hfull]
            simp (disch := first | omega | assumption | (simp only [zl] <;> omega) | fail) only [l5, zd, zs, seval, AV.undef, unA, fillA, evParts, repCells, splice, partA, pureStep, memStep, resOf, resAll, resA, nilckA, bne, ↓reduceIte, Nat.reduceEqDiff, reduceCtorEq, Int.reduceToNat, Int.reduceNeg, Nat.reduceLeDiff]
            exact ⟨hx5, _, rfl, Own.nil _ _ _⟩
          · rw [addM_new hao hh hfull]
            have hsl := srch_le l x
            simp (disch := first | omega | assumption | (simp only [zl] <;> omega) | fail) only [l5, zd, zs, seval, AV.undef, unA, fillA, evParts, repCells, splice, partA, pureStep, memStep, resOf, resAll, resA, nilckA, bne, ↓reduceIte, Nat.reduceEqDiff, reduceCtorEq, Int.reduceToNat, Int.reduceNeg, Nat.reduceLeDiff]
            refine WO_callW rfl hx5.nr (ins_run (f := 62) (E := eLock) rfl (ho5.ext (Ext.newRow H5 [.str x.name, .int .i64 x.foe, .int .i64 x.till] 3)) (by rw [len_newRow]; omega) (hOf_new_eq rfl _ _) (fun i o e => ?_) hsl (by simp [room]; omega) (by simp [room]; omega)) (by omega) (fun i o n c e => by have := hge i o n c e; omega) ?_
            · subst e; have := hse.at_.lt; omega
            rintro v H6 hx6 _ ho6
            simp (disch := first | omega | assumption | (simp only [zl] <;> omega) | fail) only [zd, zs, seval, AV.undef, unA, fillA, evParts, repCells, splice, partA, pureStep, memStep, resOf, resAll, resA, nilckA, bne, ↓reduceIte, Nat.reduceEqDiff, reduceCtorEq, Int.reduceToNat, Int.reduceNeg, Nat.reduceLeDiff]
            exact ⟨hx6, _, rfl, ho6.lo (by omega)⟩
      · have hb : addM l x = ([], 1) := addM_bad (by simp [addOk, hf])
        rw [hb]
        simp (disch := first | omega | assumption | (simp only [zl] <;> omega) | fail) only [zd, zs, seval, AV.undef, unA, fillA, evParts, repCells, splice, partA, pureStep, memStep, resOf, resAll, resA, nilckA, bne, ↓reduceIte, Nat.reduceEqDiff, reduceCtorEq, Int.reduceToNat, Int.reduceNeg, Nat.reduceLeDiff]
        exact ⟨hx2, _, rfl, Own.nil _ _ _⟩
end Go.Proofs.Qq.Qqd

namespace Go.Proofs.Qq.Qqd
open Go.Proofs.Qq

set_option maxHeartbeats 4000000 in
/-- barrowref37.Add -/
theorem p23 {H : AHeap} {a : Option (Nat × Nat)} {c : Option Nat} {l : List Lock} (h : SE eLock H a l.length c l) (hl : l.length ≤ 1000000) (hok : ∀ x, x ∈ l → LkOk x) (x : Lock) (hx : LkOk x) :
    PF T 23 [.slice a l.length c, .str x.name, .int .i64 x.foe, .int .i64 x.till] H fun r H' => ∃ v, r = .tup [v, .int .i64 (addM l x).2] ∧ Own eLock H.length H' v (addM l x).1 := by
  refine PF_code rfl _ _ _ ?_
  simp only [a23]
  simp (disch := first | omega | assumption | (simp only [zl] <;> omega) | fail) only [zd, zs, seval, AV.undef, unA, fillA, evParts, repCells, splice, partA, pureStep, memStep, resOf, resAll, resA, nilckA, bne, ↓reduceIte, Nat.reduceEqDiff, reduceCtorEq, Int.reduceToNat, Int.reduceNeg, Nat.reduceLeDiff]
  refine WO_callP rfl (Ext.refl _) (p30 h (by omega) hok) ?_
  rintro v H1 hx1 _ rfl
  simp (disch := first | omega | assumption | (simp only [zl] <;> omega) | fail) only [zd, zs, seval, AV.undef, unA, fillA, evParts, repCells, splice, partA, pureStep, memStep, resOf, resAll, resA, nilckA, bne, ↓reduceIte, Nat.reduceEqDiff, reduceCtorEq, Int.reduceToNat, Int.reduceNeg, Nat.reduceLeDiff]
  refine WO_callP rfl hx1 (p63 x.name hx.1 _) ?_
  rintro v _ _ _ ⟨rfl, rfl⟩
  cases hr : lright l with
  | false =>
    have hb : addM l x = ([], 1) := addM_bad (by simp [addOk, hr])
    rw [hb]
    simp (disch := first | omega | assumption | (simp only [zl] <;> omega) | fail) only [zd, zs, seval, AV.undef, unA, fillA, evParts, repCells, splice, partA, pureStep, memStep, resOf, resAll, resA, nilckA, bne, ↓reduceIte, Nat.reduceEqDiff, reduceCtorEq, Int.reduceToNat, Int.reduceNeg, Nat.reduceLeDiff]
    exact ⟨hx1, _, rfl, Own.nil _ _ _⟩
  | true =>
    cases hnm : nameOk x.name with
    | false =>
      have hb : addM l x = ([], 1) := addM_bad (by simp [addOk, hnm])
      rw [hb]
      simp (disch := first | omega | assumption | (simp only [zl] <;> omega) | fail) only [zd, zs, seval, AV.undef, unA, fillA, evParts, repCells, splice, partA, pureStep, memStep, resOf, resAll, resA, nilckA, bne, ↓reduceIte, Nat.reduceEqDiff, reduceCtorEq, Int.reduceToNat, Int.reduceNeg, Nat.reduceLeDiff]
      exact ⟨hx1, _, rfl, Own.nil _ _ _⟩
    | true =>
      by_cases hf : 1 ≤ x.foe
      · have hao : addOk l x = true := by simp [addOk, hr, hnm, hf]
        have hs := ((lright_iff l).1 hr).1
        simp (disch := first | omega | assumption | (simp only [zl] <;> omega) | fail) only [set_newRow_eq, zd, zs, seval, AV.undef, unA, fillA, evParts, repCells, splice, partA, pureStep, memStep, resOf, resAll, resA, nilckA, bne, ↓reduceIte, Nat.reduceEqDiff, reduceCtorEq, Int.reduceToNat, Int.reduceNeg, Nat.reduceLeDiff]
        generalize hH : newRow H1 [.str x.name, .int .i64 x.foe, .int .i64 x.till] 0 = H4
        have hx34 : Ext H1 H4 := hH ▸ Ext.newRow _ _ _
        have hx4 : Ext H H4 := hx1.trans hx34
        have r4 : hOf H4 H1.length = some ⟨[.str x.name, .int .i64 x.foe, .int .i64 x.till], true, 0⟩ := by rw [← hH, hOf_new_eq rfl]
        have hlen4 := hx34.len
        have hlen1 := hx1.len
        refine WC_loopM (fun e H' lw => e 0 = .slice a l.length c ∧ e 3 = .int .i64 x.till ∧ e 12 = .ptr (some (H1.length, 0)) ∧ e 13 = .int .i64 (srch l x : Int) ∧ Ext H4 H' ∧ lw = H.length) (fun n s => ∃ j, n = l.length - j ∧ j ≤ l.length ∧ s.env 0 = .slice a l.length c ∧ s.env 3 = .int .i64 x.till ∧ s.env 12 = .ptr (some (H1.length, 0)) ∧ s.env 13 = .int .i64 (j : Int) ∧ Ext H4 s.heap ∧ s.low = H.length ∧ (∀ t y, t < j → l[t]? = some y → y.lt x = true)) ?_ l.length _ ⟨0, rfl, by omega, rfl, rfl, rfl, rfl, Ext.refl _, Nat.min_eq_left hlen1, fun t y h => (by omega)⟩ ?_
        · rintro n ⟨e, H5, lw⟩ ⟨j, hn, hj, k0, k3, k12, k13, hx45, rfl, hA⟩
          simp only [] at k0 k3 k12 k13 hx45
          have hx5 := hx4.trans hx45
          have l5 := load_row (hx45.row _ _ r4)
          have hlen5 := hx45.len
          by_cases hlt : j < l.length
          · obtain ⟨y, hy⟩ : ∃ y, l[j]? = some y := ⟨l[j], List.getElem?_eq_getElem hlt⟩
            obtain ⟨i2, o2, rfl, hil, p0, p1, p2, p3⟩ := lock_at (h.ext hx5) hy
            simp (disch := first | omega | assumption | (simp only [zl] <;> omega) | fail) only [k0, k3, k12, k13, l5, p0, zd, zs, seval, AV.undef, unA, fillA, evParts, repCells, splice, partA, pureStep, memStep, resOf, resAll, resA, nilckA, bne, ↓reduceIte, Nat.reduceEqDiff, reduceCtorEq, Int.reduceToNat, Int.reduceNeg, Nat.reduceLeDiff]
            refine WO_callP rfl hx5 (p64 y x _) ?_
            rintro v H6 hx6 hx56 rfl
            simp (disch := first | omega | assumption | (simp only [zl] <;> omega) | fail) only [zd, zs, seval, AV.undef, unA, fillA, evParts, repCells, splice, partA, pureStep, memStep, resOf, resAll, resA, nilckA, bne, ↓reduceIte, Nat.reduceEqDiff, reduceCtorEq, Int.reduceToNat, Int.reduceNeg, Nat.reduceLeDiff]
            cases hyx : y.lt x with
            | true =>
              simp (disch := first | omega | assumption | (simp only [zl] <;> omega) | fail) only [k0, k3, k12, k13, zd, zs, seval, AV.undef, unA, fillA, evParts, repCells, splice, partA, pureStep, memStep, resOf, resAll, resA, nilckA, bne, ↓reduceIte, Nat.reduceEqDiff, reduceCtorEq, Int.reduceToNat, Int.reduceNeg, Nat.reduceLeDiff]
              refine ⟨_, by omega, j + 1, rfl, by omega, rfl, hx45.trans hx56, fun t z ht hz => ?_⟩
              by_cases htj : t = j
              · subst htj; rw [hy] at hz; cases hz; exact hyx
              · exact hA t z (by omega) hz
            | false =>
              have hsr : srch l x = j := srch_eq hj hA (fun z hz => by rw [hy] at hz; cases hz; exact hyx)
              simp (disch := first | omega | assumption | (simp only [zl] <;> omega) | fail) only [k0, k3, k12, k13, zd, zs, seval, AV.undef, unA, fillA, evParts, repCells, splice, partA, pureStep, memStep, resOf, resAll, resA, nilckA, bne, ↓reduceIte, Nat.reduceEqDiff, reduceCtorEq, Int.reduceToNat, Int.reduceNeg, Nat.reduceLeDiff]
              exact ⟨by rw [hsr], hx45.trans hx56⟩
          · have hsr : srch l x = j := srch_eq hj hA (fun z hz => by rw [List.getElem?_eq_none (by omega)] at hz; cases hz)
            simp (disch := first | omega | assumption | (simp only [zl] <;> omega) | fail) only [k0, k3, k12, k13, zd, zs, seval, AV.undef, unA, fillA, evParts, repCells, splice, partA, pureStep, memStep, resOf, resAll, resA, nilckA, bne, ↓reduceIte, Nat.reduceEqDiff, reduceCtorEq, Int.reduceToNat, Int.reduceNeg, Nat.reduceLeDiff]
            exact ⟨by rw [hsr], hx45⟩
        · rintro e H5 lw ⟨k0, k3, k12, k13, hx45, rfl⟩
          have hx5 := hx4.trans hx45
          have l5 := load_row (hx45.row _ _ r4)
          have hlen5 := hx45.len
          have hsl := srch_le l x
          simp (disch := first | omega | assumption | (simp only [zl] <;> omega) | fail) only [k0, k3, k12, k13, l5, zd, zs, seval, AV.undef, unA, fillA, evParts, repCells, splice, partA, pureStep, memStep, resOf, resAll, resA, nilckA, bne, ↓reduceIte, Nat.reduceEqDiff, reduceCtorEq, Int.reduceToNat, Int.reduceNeg, Nat.reduceLeDiff]
          refine WO_callP rfl hx5 (p65 (h.ext hx5) hl) ?_
          rintro v H6 hx6 hx56 ho
          obtain ⟨b, rfl, hse⟩ := ho.se
          have hge := ho.ge
          have hlen6 := hx56.len
          have l6 := load_row ((hx45.trans hx56).row _ _ r4)
          cases hh : hitM l x with
          | true =>
            obtain ⟨y, hy, hadd⟩ := addM_hit hao hh
            rw [hadd]
            have hkl := (List.getElem?_eq_some_iff.1 hy).1
            obtain ⟨i, o, e1, _, p0, p1, p2, p3⟩ := lock_at (h.ext hx6) hy
            subst e1
            have hxy : x.lt y = false := by unfold hitM at hh; rw [hy] at hh; simpa using hh
            simp (disch := first | omega | assumption | (simp only [zl] <;> omega) | fail) only [k0, k3, k12, k13, l6, p0, zd, zs, seval, AV.undef, unA, fillA, evParts, repCells, splice, partA, pureStep, memStep, resOf, resAll, resA, nilckA, bne, ↓reduceIte, Nat.reduceEqDiff, reduceCtorEq, Int.reduceToNat, Int.reduceNeg, Nat.reduceLeDiff]
            refine WO_callP rfl hx6 (p64 x y _) ?_
            rintro v H7 hx7 hx67 rfl
            obtain ⟨i', r', e2, hi1, hi2, hw, how⟩ := own_setp (ho.ext hx67) hy (mrg y x.till) (o := 2) (cs := [.int .i64 (if x.till > y.till then x.till else y.till)]) rfl (Nat.le_refl 3)
            cases e2
            change wrRow H7 _ (srch l x * 3 + 2) _ = _ at hw
            have p4 := hx67.load p3
            simp (disch := first | omega | assumption | (simp only [zl] <;> omega) | fail) only [k0, k3, k12, k13, hxy, p4, hw, foldMM, minmax2, Nat.zero_add, zd, zs, seval, AV.undef, unA, fillA, evParts, repCells, splice, partA, pureStep, memStep, resOf, resAll, resA, nilckA, bne, ↓reduceIte, Nat.reduceEqDiff, reduceCtorEq, Int.reduceToNat, Int.reduceNeg, Nat.reduceLeDiff]
            exact ⟨hx7.set (by omega) _, _, rfl, how.lo (by omega)⟩
          | false =>
            by_cases hsn : srch l x < l.length
            case' pos =>
              obtain ⟨y, hy⟩ : ∃ y, l[srch l x]? = some y := ⟨l[srch l x], List.getElem?_eq_getElem hsn⟩
              obtain ⟨i, o, e1, _, p0, p1, p2, p3⟩ := lock_at (h.ext hx6) hy
              subst e1
              have hxy : x.lt y = true := by unfold hitM at hh; rw [hy] at hh; simpa using hh
              simp (disch := first | omega | assumption | (simp only [zl] <;> omega) | fail) only [k0, k3, k12, k13, l6, p0, zd, zs, seval, AV.undef, unA, fillA, evParts, repCells, splice, partA, pureStep, memStep, resOf, resAll, resA, nilckA, bne, ↓reduceIte, Nat.reduceEqDiff, reduceCtorEq, Int.reduceToNat, Int.reduceNeg, Nat.reduceLeDiff]
              refine WO_callP rfl hx6 (p64 x y _) ?_
              rintro v H6 hx6 hx67 rfl
              have l6 := load_row ((hx45.trans (hx56.trans hx67)).row _ _ r4)
              have hlen6 := (hx56.trans hx67).len
              simp (disch := first | omega | assumption | (simp only [zl] <;> omega) | fail) only [k0, k3, k12, k13, hxy, zd, zs, seval, AV.undef, unA, fillA, evParts, repCells, splice, partA, pureStep, memStep, resOf, resAll, resA, nilckA, bne, ↓reduceIte, Nat.reduceEqDiff, reduceCtorEq, Int.reduceToNat, Int.reduceNeg, Nat.reduceLeDiff]
            case' neg => simp (disch := first | omega | assumption | (simp only [zl] <;> omega) | fail) only [k0, k3, k12, k13, zd, zs, seval, AV.undef, unA, fillA, evParts, repCells, splice, partA, pureStep, memStep, resOf, resAll, resA, nilckA, bne, ↓reduceIte, Nat.reduceEqDiff, reduceCtorEq, Int.reduceToNat, Int.reduceNeg, Nat.reduceLeDiff]
            all_goals
              by_cases hfull : 200 ≤ l.length
              · rw [addM_full hao hh hfull]
                simp (disch := first | omega | assumption | (simp only [zl] <;> omega) | fail) only [k0, k3, k12, k13, zd, zs, seval, AV.undef, unA, fillA, evParts, repCells, splice, partA, pureStep, memStep, resOf, resAll, resA, nilckA, bne, ↓reduceIte, Nat.reduceEqDiff, reduceCtorEq, Int.reduceToNat, Int.reduceNeg, Nat.reduceLeDiff]
                exact ⟨hx6, _, rfl, Own.nil _ _ _⟩
              · rw [addM_new hao hh hfull]
                obtain ⟨a1, c1, e1, se1⟩ := (h.ext hx6).sub_take hsl
                change sliceOf 3 _ _ _ _ _ _ = _ at e1
                simp (disch := first | omega | assumption | (simp only [zl] <;> omega) | fail) only [k0, k3, k12, k13, e1, zd, zs, seval, AV.undef, unA, fillA, evParts, repCells, splice, partA, pureStep, memStep, resOf, resAll, resA, nilckA, bne, ↓reduceIte, Nat.reduceEqDiff, reduceCtorEq, Int.reduceToNat, Int.reduceNeg, Nat.reduceLeDiff]
                refine WO_callP rfl hx6 (p65 se1 (by simp; omega)) ?_
                rintro v H8 hx8 hx68 ho8
                have hlen8 := hx8.len
                have hlen68 := hx68.len
                have l8 := Ext.load hx68 (l6 true 3 0)
                obtain ⟨v', H9, w, e2, o2, a2, q2, q3⟩ := app_lock x ho8 (by omega) (by simp; omega)
                have q3 := q3 H.length (by omega)
                have hx9 := a2.extE hx8 (fun i o n c e => by have := ho8.ge i o n c e; omega)
                obtain ⟨a3, c3, e3, se3⟩ := (h.ext hx9).sub_drop hsl
                change sliceOf 3 _ _ _ _ _ _ = _ at e3
                obtain ⟨v4, H10, w4, e4, o4, a4⟩ := append_own (x := .slice a3 (l.length - srch l x) c3) (ys := l.drop (srch l x)) (bytes := 32) o2 (by have := hx9.len; have := a2.len; omega) (by simp [lenOfA]) (by have := se3.src; rw [List.length_drop] at this ⊢; exact this) (by decide) (by simp [room]; omega)
                change appendA 3 32 _ _ _ = _ at e4
                have q4 := a4.lower (Nat.le_trans (show H.length ≤ H6.length by omega) (Nat.le_refl _))
                simp (disch := first | omega | assumption | (simp only [zl] <;> omega) | fail) only [k0, k3, k12, k13, l8, e2, q3, e3, e4, q4, zd, zs, seval, AV.undef, unA, fillA, evParts, repCells, splice, partA, pureStep, memStep, resOf, resAll, resA, nilckA, bne, ↓reduceIte, Nat.reduceEqDiff, reduceCtorEq, Int.reduceToNat, Int.reduceNeg, Nat.reduceLeDiff]
                refine ⟨a4.ext hx9 (fun i o n c e => by have := o2.ge i o n c e; omega), _, rfl, ?_⟩
                have : l.take (srch l x) ++ x :: l.drop (srch l x) = l.take (srch l x) ++ [x] ++ l.drop (srch l x) := by simp
                rw [this]
                exact o4.lo (by omega)
      · have hb : addM l x = ([], 1) := addM_bad (by simp [addOk, hf])
        rw [hb]
        simp (disch := first | omega | assumption | (simp only [zl] <;> omega) | fail) only [zd, zs, seval, AV.undef, unA, fillA, evParts, repCells, splice, partA, pureStep, memStep, resOf, resAll, resA, nilckA, bne, ↓reduceIte, Nat.reduceEqDiff, reduceCtorEq, Int.reduceToNat, Int.reduceNeg, Nat.reduceLeDiff]
        exact ⟨hx1, _, rfl, Own.nil _ _ _⟩
end Go.Proofs.Qq.Qqd

namespace Go.Proofs.Qq.Qqd
open Go.Proofs.Qq

/-! ### What becomes of rows: the plain law -/
theorem lt_mrg_l (y z : Lock) (t : Int) : (mrg y t).lt z = y.lt z := rfl
theorem lt_mrg_r (y z : Lock) (t : Int) : z.lt (mrg y t) = z.lt y := rfl

theorem addOk_iff {l : List Lock} {x : Lock} (h : addOk l x = true) : lright l = true ∧ nameOk x.name = true ∧ 1 ≤ x.foe := by
  unfold addOk at h; simp only [Bool.and_eq_true, decide_eq_true_iff] at h; exact ⟨h.1.1, h.1.2, h.2⟩

/-- The three ways of addM. -/
theorem addM_ways (l : List Lock) (x : Lock) :
    (addOk l x = false ∧ addM l x = ([], 1)) ∨
    (addOk l x = true ∧ hitM l x = true ∧ ∃ y, l[srch l x]? = some y ∧ y.name = x.name ∧ y.foe = x.foe ∧ addM l x = (l.set (srch l x) (mrg y x.till), 0)) ∨
    (addOk l x = true ∧ hitM l x = false ∧ 200 ≤ l.length ∧ addM l x = ([], 4)) ∨
    (addOk l x = true ∧ hitM l x = false ∧ l.length < 200 ∧ addM l x = (l.take (srch l x) ++ x :: l.drop (srch l x), 0)) := by
  cases h : addOk l x with
  | false => exact .inl ⟨rfl, addM_bad h⟩
  | true =>
    cases k : hitM l x with
    | true =>
      obtain ⟨y, hy, he⟩ := addM_hit h k
      have h1 := srch_at hy
      have h2 : x.lt y = false := by unfold hitM at k; rw [hy] at k; simpa using k
      obtain ⟨q1, q2⟩ := Lock.lt_tri h1 h2
      exact .inr (.inl ⟨rfl, rfl, y, hy, q1, q2, he⟩)
    | false =>
      by_cases g : 200 ≤ l.length
      · exact .inr (.inr (.inl ⟨rfl, rfl, g, addM_full h k g⟩))
      · exact .inr (.inr (.inr ⟨rfl, rfl, by omega, addM_new h k g⟩))

theorem miss_lt {l : List Lock} {x : Lock} (hs : Srt l) (h : hitM l x = false) : ∀ y, y ∈ l.drop (srch l x) → x.lt y = true := by
  intro y hy
  obtain ⟨t, ht⟩ := List.getElem?_of_mem hy
  rw [List.getElem?_drop] at ht
  by_cases h0 : t = 0
  · subst h0
    unfold hitM at h
    rw [Nat.add_zero] at ht
    rw [ht] at h
    simpa using h
  · obtain ⟨z, hz⟩ : ∃ z, l[srch l x]? = some z := ⟨l[srch l x]'(by have := (List.getElem?_eq_some_iff.1 ht).1; omega), List.getElem?_eq_getElem _⟩
    have hxz : x.lt z = true := by unfold hitM at h; rw [hz] at h; simpa using h
    exact Lock.lt_trans hxz (hs.at2 (by omega) hz ht)
theorem take_lt {l : List Lock} {x : Lock} : ∀ y, y ∈ l.take (srch l x) → y.lt x = true := by
  intro y hy
  obtain ⟨t, ht⟩ := List.getElem?_of_mem hy
  have h1 : t < srch l x := by have := (List.getElem?_eq_some_iff.1 ht).1; simp at this; omega
  rw [List.getElem?_take, if_pos h1] at ht
  exact srch_lt h1 ht

theorem srt_ins {l : List Lock} {x : Lock} (hs : Srt l) (h : hitM l x = false) : Srt (l.take (srch l x) ++ x :: l.drop (srch l x)) := by
  unfold Srt
  rw [List.pairwise_append]
  refine ⟨hs.sublist (List.take_sublist _ _), .cons (miss_lt hs h) (hs.sublist (List.drop_sublist _ _)), fun a ha b hb => ?_⟩
  rcases List.mem_cons.1 hb with rfl | hb
  · exact take_lt a ha
  · exact Lock.lt_trans (take_lt a ha) (miss_lt hs h b hb)
theorem srt_set {l : List Lock} {k : Nat} {y : Lock} (hs : Srt l) (hy : l[k]? = some y) (t : Int) : Srt (l.set k (mrg y t)) := by
  unfold Srt
  rw [List.pairwise_iff_getElem]
  intro i j hi hj hij
  have hi' : i < l.length := by simpa using hi
  have hj' : j < l.length := by simpa using hj
  have hk := List.getElem?_eq_some_iff.1 hy
  have key := List.pairwise_iff_getElem.1 hs i j hi' hj' hij
  rw [List.getElem_set, List.getElem_set]
  split <;> split
  · omega
  · rename_i g _; subst g; rw [hk.2] at key; exact key
  · rename_i _ g; subst g; rw [hk.2] at key; exact key
  · exact key

theorem mem_ins {l : List Lock} {k : Nat} {x y : Lock} : y ∈ l.take k ++ x :: l.drop k ↔ y = x ∨ y ∈ l := by
  rw [List.mem_append, List.mem_cons]
  have : y ∈ l ↔ y ∈ l.take k ∨ y ∈ l.drop k := by rw [← List.mem_append, List.take_append_drop]
  rw [this]
  constructor
  · rintro (h | h | h)
    · exact .inr (.inl h)
    · exact .inl h
    · exact .inr (.inr h)
  · rintro (h | h | h)
    · exact .inr (.inl h)
    · exact .inl h
    · exact .inr (.inr h)

theorem addM_right {l : List Lock} {x : Lock} (h : (addM l x).2 = 0) : lright (addM l x).1 = true ∧ addOk l x = true := by
  rcases addM_ways l x with ⟨_, h2⟩ | ⟨h1, _, y, hy, _, _, h2⟩ | ⟨_, _, _, h2⟩ | ⟨h1, h3, h4, h2⟩
  · rw [h2] at h; cases h
  · obtain ⟨h5, _, _⟩ := addOk_iff h1
    obtain ⟨q1, q2, q3⟩ := (lright_iff l).1 h5
    rw [h2]
    refine ⟨(lright_iff _).2 ⟨srt_set q1 hy _, fun z hz => ?_, by simpa using q3⟩, h1⟩
    rcases List.mem_or_eq_of_mem_set hz with hz | rfl
    · exact q2 z hz
    · exact q2 y (List.mem_of_getElem? hy)
  · rw [h2] at h; cases h
  · obtain ⟨h5, h6, h7⟩ := addOk_iff h1
    obtain ⟨q1, q2, q3⟩ := (lright_iff l).1 h5
    rw [h2]
    refine ⟨(lright_iff _).2 ⟨srt_ins q1 h3, fun z hz => ?_, by have := srch_le l x; simp; omega⟩, h1⟩
    rcases mem_ins.1 hz with rfl | hz
    · exact ⟨h6, h7⟩
    · exact q2 z hz
theorem addM_lk {l : List Lock} {x : Lock} (hl : ∀ y, y ∈ l → LkOk y) (hx : LkOk x) : ∀ y, y ∈ (addM l x).1 → LkOk y := by
  intro z hz
  rcases addM_ways l x with ⟨_, h2⟩ | ⟨h1, _, y, hy, _, _, h2⟩ | ⟨_, _, _, h2⟩ | ⟨h1, h3, h4, h2⟩ <;> rw [h2] at hz
  · cases hz
  · rcases List.mem_or_eq_of_mem_set hz with hz | rfl
    · exact hl z hz
    · have hy' := hl y (List.mem_of_getElem? hy)
      refine ⟨hy'.1, hy'.2.1, ?_⟩
      unfold mrg; simp only []
      split
      · exact hx.2.2
      · exact hy'.2.2
  · cases hz
  · rcases mem_ins.1 hz with rfl | hz
    · exact hx
    · exact hl z hz
theorem addM_len {l : List Lock} {x : Lock} (h : (addM l x).2 = 0) : l.length ≤ (addM l x).1.length ∧ (addM l x).1.length ≤ l.length + 1 := by
  rcases addM_ways l x with ⟨_, h2⟩ | ⟨h1, _, y, hy, _, _, h2⟩ | ⟨_, _, _, h2⟩ | ⟨h1, h3, h4, h2⟩
  · rw [h2] at h; cases h
  · rw [h2]; simp
  · rw [h2] at h; cases h
  · have := srch_le l x; rw [h2]; simp; omega
theorem addM_le {l : List Lock} {x : Lock} : (addM l x).1.length ≤ l.length + 1 := by
  rcases addM_ways l x with ⟨_, h2⟩ | ⟨h1, _, y, hy, _, _, h2⟩ | ⟨_, _, _, h2⟩ | ⟨h1, h3, h4, h2⟩
  · rw [h2]; simp
  · rw [h2]; simp
  · rw [h2]; simp
  · have := srch_le l x; rw [h2]; simp; omega

/-! Who stands in a row. -/
theorem srt_uniq {l : List Lock} (hs : Srt l) {x y : Lock} (hx : x ∈ l) (hy : y ∈ l) (h1 : x.name = y.name) (h2 : x.foe = y.foe) : x = y := by
  obtain ⟨i, hi⟩ := List.getElem?_of_mem hx
  obtain ⟨j, hj⟩ := List.getElem?_of_mem hy
  rcases Nat.lt_trichotomy i j with h | h | h
  · have := hs.at2 h hi hj; rw [Lock.lt_same h1 h2] at this; cases this
  · subst h; rw [hi] at hj; cases hj; rfl
  · have := hs.at2 h hj hi; rw [Lock.lt_same h1.symm h2.symm] at this; cases this
theorem find_iff {l : List Lock} (hs : Srt l) {n : List UInt8} {f : Int} {y : Lock} : l.find? (keyP n f) = some y ↔ y ∈ l ∧ y.name = n ∧ y.foe = f := by
  constructor
  · intro h
    have h1 := List.find?_some h
    unfold keyP at h1
    simp only [Bool.and_eq_true, decide_eq_true_iff] at h1
    exact ⟨List.mem_of_find?_eq_some h, h1.1, h1.2⟩
  · rintro ⟨h1, rfl, rfl⟩
    cases hf : l.find? (keyP y.name y.foe) with
    | none =>
      have := List.find?_eq_none.1 hf y h1
      simp [keyP] at this
    | some z =>
      have h2 := List.find?_some hf
      unfold keyP at h2
      simp only [Bool.and_eq_true, decide_eq_true_iff] at h2
      rw [srt_uniq hs (List.mem_of_find?_eq_some hf) h1 h2.1 h2.2]
theorem find_none {l : List Lock} {n : List UInt8} {f : Int} : l.find? (keyP n f) = none ↔ ∀ y ∈ l, ¬ (y.name = n ∧ y.foe = f) := by
  rw [List.find?_eq_none]
  simp [keyP]
theorem srt_ext : ∀ {l m : List Lock}, Srt l → Srt m → (∀ y, y ∈ l ↔ y ∈ m) → l = m
  | [], [], _, _, _ => rfl
  | [], y :: m, _, _, h => by have := (h y).2 (by simp); cases this
  | x :: l, [], _, _, h => by have := (h x).1 (by simp); cases this
  | x :: l, y :: m, .cons h1 h2, .cons h3 h4, h => by
    have hxy : x = y := by
      rcases List.mem_cons.1 ((h x).1 (by simp)) with e | e
      · exact e
      · rcases List.mem_cons.1 ((h y).2 (by simp)) with e' | e'
        · exact e'.symm
        · have q1 := h1 y e'
          have q2 := h3 x e
          rw [Lock.lt_asym q1] at q2; cases q2
    subst hxy
    rw [srt_ext h2 h4 fun z => ?_]
    constructor
    · intro hz
      rcases List.mem_cons.1 ((h z).1 (by simp [hz])) with e | e
      · subst e; have := h1 z hz; rw [Lock.lt_irr] at this; cases this
      · exact e
    · intro hz
      rcases List.mem_cons.1 ((h z).2 (by simp [hz])) with e | e
      · subst e; have := h3 z hz; rw [Lock.lt_irr] at this; cases this
      · exact e

/-- Until when, in a row. -/
def lkM (l : List Lock) (n : List UInt8) (f : Int) : Option Int := (l.find? (keyP n f)).map (·.till)
def mx (a b : Option Int) : Option Int := match a, b with
  | none, b => b
  | some a, none => some a
  | some a, some b => some (if b > a then b else a)
theorem mx_comm (a b : Option Int) : mx a b = mx b a := by
  cases a <;> cases b <;> simp only [mx]
  congr 1; split <;> split <;> omega
theorem mx_assoc (a b c : Option Int) : mx (mx a b) c = mx a (mx b c) := by
  cases a <;> cases b <;> cases c <;> simp only [mx]
  congr 1; split <;> split <;> (try split) <;> (try split) <;> omega
theorem mx_none (a : Option Int) : mx a none = a := by cases a <;> rfl

theorem lk_iff {l : List Lock} (hs : Srt l) {n : List UInt8} {f t : Int} : lkM l n f = some t ↔ (⟨n, f, t⟩ : Lock) ∈ l := by
  unfold lkM
  rw [Option.map_eq_some_iff]
  constructor
  · rintro ⟨y, h1, rfl⟩
    obtain ⟨h2, rfl, rfl⟩ := (find_iff hs).1 h1
    exact h2
  · intro h
    exact ⟨_, (find_iff hs).2 ⟨h, rfl, rfl⟩, rfl⟩
theorem srt_lk {l m : List Lock} (h1 : Srt l) (h2 : Srt m) (h : ∀ n f, lkM l n f = lkM m n f) : l = m :=
  srt_ext h1 h2 fun y => by
    have q1 := lk_iff h1 (n := y.name) (f := y.foe) (t := y.till)
    have q2 := lk_iff h2 (n := y.name) (f := y.foe) (t := y.till)
    rw [h] at q1
    exact q1.symm.trans q2
theorem lk_none {l : List Lock} {n : List UInt8} {f : Int} : lkM l n f = none ↔ ∀ y ∈ l, ¬ (y.name = n ∧ y.foe = f) := by
  unfold lkM; rw [Option.map_eq_none_iff]; exact find_none
theorem opt_ext {a b : Option Int} (h : ∀ t, a = some t ↔ b = some t) : a = b := by
  cases a with
  | none => cases b with
    | none => rfl
    | some t => exact absurd ((h t).2 rfl) (by simp)
  | some t => exact ((h t).1 rfl).symm

/-- What a lock more does. -/
theorem lk_add {l : List Lock} {x : Lock} (h : (addM l x).2 = 0) (n : List UInt8) (f : Int) : lkM (addM l x).1 n f = if x.name = n ∧ x.foe = f then mx (lkM l n f) (some x.till) else lkM l n f := by
  have hr := addM_right h
  have hs' := ((lright_iff _).1 hr.1).1
  obtain ⟨hlr, _, _⟩ := addOk_iff hr.2
  have hs := ((lright_iff _).1 hlr).1
  rcases addM_ways l x with ⟨_, h2⟩ | ⟨h1, _, y, hy, e1, e2, h2⟩ | ⟨_, _, _, h2⟩ | ⟨h1, h3, h4, h2⟩
  · rw [h2] at h; cases h
  · rw [h2] at hs' ⊢
    have hkl := (List.getElem?_eq_some_iff.1 hy).1
    have hml : mrg y x.till ∈ l.set (srch l x) (mrg y x.till) := List.mem_of_getElem? (i := srch l x) (by rw [List.getElem?_set]; simp [hkl])
    have hyl := List.mem_of_getElem? hy
    split
    · rename_i g
      have q1 : lkM l n f = some y.till := (lk_iff hs).2 (by rw [← g.1, ← g.2, ← e1, ← e2]; exact hyl)
      rw [q1]
      simp only [mx]
      rw [lk_iff hs', ← g.1, ← g.2, ← e1, ← e2]
      exact hml
    · rename_i g
      refine opt_ext fun t => ?_
      rw [lk_iff hs', lk_iff hs]
      constructor
      · intro hz
        rcases List.mem_or_eq_of_mem_set hz with hz | hz
        · exact hz
        · have c1 := congrArg Lock.name hz; have c2 := congrArg Lock.foe hz
          exact absurd ⟨by rw [← e1]; exact c1.symm, by rw [← e2]; exact c2.symm⟩ g
      · intro hz
        obtain ⟨j, hj⟩ := List.getElem?_of_mem hz
        by_cases hjk : srch l x = j
        · subst hjk; rw [hy] at hj; cases hj; exact absurd ⟨e1.symm, e2.symm⟩ g
        · exact List.mem_of_getElem? (i := j) (by rw [List.getElem?_set, if_neg hjk]; exact hj)
  · rw [h2] at h; cases h
  · rw [h2] at hs' ⊢
    split
    · rename_i g
      have q1 : lkM l n f = none := lk_none.2 fun y hy hc => by
        have c1 : y.name = x.name := hc.1.trans g.1.symm
        have c2 : y.foe = x.foe := hc.2.trans g.2.symm
        rcases List.mem_append.1 (show y ∈ l.take (srch l x) ++ l.drop (srch l x) by rw [List.take_append_drop]; exact hy) with hy | hy
        · have := take_lt y hy; rw [Lock.lt_same c1 c2] at this; cases this
        · have := miss_lt hs h3 y hy; rw [Lock.lt_same c1.symm c2.symm] at this; cases this
      rw [q1]
      simp only [mx]
      rw [lk_iff hs', mem_ins, ← g.1, ← g.2]
      exact .inl rfl
    · rename_i g
      refine opt_ext fun t => ?_
      rw [lk_iff hs', lk_iff hs, mem_ins]
      constructor
      · rintro (hz | hz)
        · exact absurd ⟨congrArg Lock.name hz.symm, congrArg Lock.foe hz.symm⟩ g
        · exact hz
      · exact .inr

/-! ### Rows joined -/
def goJ : List Lock → List Lock → List Lock × Int
  | out, [] => (out, 0)
  | out, x :: xs => if (addM out x).2 = 0 then goJ (addM out x).1 xs else ([], (addM out x).2)
def joinM (a b : List Lock) : List Lock × Int := if (lright a && lright b) = true then goJ a b else ([], 1)
theorem goJ_right : ∀ (b a : List Lock), (goJ a b).2 = 0 → lright a = true → lright (goJ a b).1 = true ∧ a.length ≤ (goJ a b).1.length ∧ (goJ a b).1.length ≤ a.length + b.length
  | [], a, _, h => ⟨h, Nat.le_refl _, Nat.le_refl _⟩
  | x :: xs, a, h, hr => by
    unfold goJ at h ⊢
    by_cases g : (addM a x).2 = 0
    · rw [if_pos g] at h ⊢
      have q := goJ_right xs (addM a x).1 h (addM_right g).1
      have := addM_len g
      exact ⟨q.1, by omega, by simp; omega⟩
    · rw [if_neg g] at h; exact absurd h g
theorem goJ_lk : ∀ (b a : List Lock), (goJ a b).2 = 0 → Srt b → ∀ n f, lkM (goJ a b).1 n f = mx (lkM a n f) (lkM b n f)
  | [], a, _, _, n, f => (mx_none _).symm
  | x :: xs, a, h, hs, n, f => by
    unfold goJ at h ⊢
    by_cases g : (addM a x).2 = 0
    · rw [if_pos g] at h ⊢
      have hs0 := hs
      cases hs with
      | cons h1 h2 =>
      rw [goJ_lk xs (addM a x).1 h h2 n f, lk_add g]
      by_cases gk : x.name = n ∧ x.foe = f
      · rw [if_pos gk]
        have q1 : lkM xs n f = none := lk_none.2 fun y hy hc => by
          have := h1 y hy
          rw [Lock.lt_same (gk.1.trans hc.1.symm) (gk.2.trans hc.2.symm)] at this; cases this
        have q2 : lkM (x :: xs) n f = some x.till := (lk_iff hs0).2 (by rw [← gk.1, ← gk.2]; simp)
        rw [q1, q2, mx_none]
      · rw [if_neg gk]
        congr 1
        unfold lkM
        rw [List.find?_cons]
        have : keyP n f x = false := by simp only [keyP, Bool.and_eq_false_iff, decide_eq_false_iff_not]; by_cases e : x.name = n <;> simp_all
        rw [this]
    · rw [if_neg g] at h; exact absurd h g
theorem joinM_ok {a b : List Lock} (h : (joinM a b).2 = 0) : lright a = true ∧ lright b = true ∧ joinM a b = goJ a b := by
  unfold joinM at h ⊢
  cases h1 : lright a <;> cases h2 : lright b <;> rw [h1, h2] at h <;> simp at h ⊢
theorem joinM_comm {a b : List Lock} (h1 : (joinM a b).2 = 0) (h2 : (joinM b a).2 = 0) : (joinM a b).1 = (joinM b a).1 ∧ lright (joinM a b).1 = true ∧ a.length ≤ (joinM a b).1.length ∧ (joinM a b).1.length ≤ a.length + b.length := by
  obtain ⟨ra, rb, e1⟩ := joinM_ok h1
  obtain ⟨_, _, e2⟩ := joinM_ok h2
  rw [e1] at h1 ⊢
  rw [e2] at h2 ⊢
  have q1 := goJ_right _ _ h1 ra
  have q2 := goJ_right _ _ h2 rb
  refine ⟨srt_lk ((lright_iff _).1 q1.1).1 ((lright_iff _).1 q2.1).1 fun n f => ?_, q1⟩
  rw [goJ_lk _ _ h1 ((lright_iff _).1 rb).1, goJ_lk _ _ h2 ((lright_iff _).1 ra).1, mx_comm]

/-! ### Turns, a period apart -/
theorem emod_of_tmod {a b : Int} (hb : 1 ≤ b) : (if a.tmod b < 0 then a.tmod b + b else a.tmod b) = a % b := by
  have h1 := tmod_lt (a := a) hb
  have h2 : a = b * a.tdiv b + a.tmod b := (Int.mul_tdiv_add_tmod a b).symm
  have h3 : a % b = a.tmod b % b := by
    conv => lhs; rw [h2]
    rw [Int.add_comm, Int.add_mul_emod_self_left]
  rw [h3]
  split
  · rw [← Int.add_emod_right, Int.emod_eq_of_lt (by omega) (by omega)]
  · rw [Int.emod_eq_of_lt (by omega) (by omega)]
theorem turnM_eq {now per off : Int} (h1 : far now) (h2 : far off) (h3 : 1 ≤ per) (h4 : per ≤ 1125899906842624) : turnM now per off = now + per - (now - off) % per := by
  unfold turnM; rw [if_pos ⟨h1, h2, h3, h4⟩, emod_of_tmod h3]
theorem turn_law {now per off : Int} (h1 : -1099511627776 ≤ now) (h2 : now ≤ 1099511627776) (h3 : -1099511627776 ≤ off) (h4 : off ≤ 1099511627776) (h5 : 1 ≤ per) (h6 : per ≤ 1073741824) :
    now < turnM now per off ∧ turnM now per off ≤ now + per ∧ (turnM now per off - off).tmod per = 0 ∧ turnM (turnM now per off) per off = turnM now per off + per ∧ turnM (turnM now per off - 1) per off = turnM now per off := by
  have e := turnM_eq (now := now) (per := per) (off := off) ⟨by omega, by omega⟩ ⟨by omega, by omega⟩ h5 (by omega)
  have m1 := Int.emod_nonneg (now - off) (b := per) (by omega)
  have m2 := Int.emod_lt_of_pos (now - off) (b := per) (by omega)
  have hd := Int.mul_ediv_add_emod (now - off) per
  have ht : turnM now per off - off = per * ((now - off) / per + 1) := by rw [e, Int.mul_add]; omega
  generalize hT : turnM now per off = t at *
  have b1 : now < t := by omega
  have b2 : t ≤ now + per := by omega
  refine ⟨b1, b2, ?_, ?_, ?_⟩
  · rw [ht]; exact Int.mul_tmod_right _ _
  · rw [turnM_eq (now := t) ⟨by omega, by omega⟩ ⟨by omega, by omega⟩ h5 (by omega), ht, Int.mul_emod_right]; omega
  · rw [turnM_eq (now := t - 1) ⟨by omega, by omega⟩ ⟨by omega, by omega⟩ h5 (by omega)]
    have : t - 1 - off = (per - 1) + per * ((now - off) / per) := by rw [Int.mul_add] at ht; omega
    rw [this, Int.add_mul_emod_self_left, Int.emod_eq_of_lt (by omega) (by omega)]
    omega
end Go.Proofs.Qq.Qqd

namespace Go.Proofs.Qq.Qqd
open Go.Proofs.Qq

theorem goJ_cons (out : List Lock) (x : Lock) (xs : List Lock) : goJ out (x :: xs) = if (addM out x).2 = 0 then goJ (addM out x).1 xs else ([], (addM out x).2) := rfl
theorem addM_2 (l : List Lock) (x : Lock) : 0 ≤ (addM l x).2 ∧ (addM l x).2 ≤ 4 := by
  rcases addM_ways l x with ⟨_, h2⟩ | ⟨h1, _, y, hy, _, _, h2⟩ | ⟨_, _, _, h2⟩ | ⟨h1, h3, h4, h2⟩ <;> rw [h2] <;> simp

set_option maxHeartbeats 2000000 in
/-- lock.Join -/
theorem p38 {H : AHeap} {a b : Option (Nat × Nat)} {c d : Option Nat} {l m : List Lock} (h : SE eLock H a l.length c l) (h' : SE eLock H b m.length d m) (hl : l.length ≤ 100000) (hm : m.length ≤ 100000) (hok : ∀ x, x ∈ l → LkOk x) (hok' : ∀ x, x ∈ m → LkOk x) :
    PF T 38 [.slice a l.length c, .slice b m.length d] H fun r H' => ∃ v, r = .tup [v, .int .i64 (joinM l m).2] ∧ Own eLock H.length H' v (joinM l m).1 := by
  refine PF_code rfl _ _ _ ?_
  simp only [a38]
  simp (disch := first | omega | assumption | (simp only [zl] <;> omega) | fail) only [zd, zs, seval, AV.undef, unA, fillA, evParts, repCells, splice, partA, pureStep, memStep, resOf, resAll, resA, nilckA, bne, ↓reduceIte, Nat.reduceEqDiff, reduceCtorEq, Int.reduceToNat, Int.reduceNeg, Nat.reduceLeDiff]
  refine WO_callP rfl (Ext.refl _) (p29 h (by omega) hok) ?_
  rintro v H1 hx1 _ rfl
  cases hr : lright l with
  | false =>
    have hb : joinM l m = ([], 1) := by unfold joinM; rw [hr]; rfl
    rw [hb]
    simp (disch := first | omega | assumption | (simp only [zl] <;> omega) | fail) only [zd, zs, seval, AV.undef, unA, fillA, evParts, repCells, splice, partA, pureStep, memStep, resOf, resAll, resA, nilckA, bne, ↓reduceIte, Nat.reduceEqDiff, reduceCtorEq, Int.reduceToNat, Int.reduceNeg, Nat.reduceLeDiff]
    exact ⟨hx1, _, rfl, Own.nil _ _ _⟩
  | true =>
    simp (disch := first | omega | assumption | (simp only [zl] <;> omega) | fail) only [zd, zs, seval, AV.undef, unA, fillA, evParts, repCells, splice, partA, pureStep, memStep, resOf, resAll, resA, nilckA, bne, ↓reduceIte, Nat.reduceEqDiff, reduceCtorEq, Int.reduceToNat, Int.reduceNeg, Nat.reduceLeDiff]
    refine WO_callP rfl hx1 (p29 (h'.ext hx1) (by omega) hok') ?_
    rintro v H2 hx2 _ rfl
    cases hr' : lright m with
    | false =>
      have hb : joinM l m = ([], 1) := by unfold joinM; rw [hr, hr']; rfl
      rw [hb]
      simp (disch := first | omega | assumption | (simp only [zl] <;> omega) | fail) only [zd, zs, seval, AV.undef, unA, fillA, evParts, repCells, splice, partA, pureStep, memStep, resOf, resAll, resA, nilckA, bne, ↓reduceIte, Nat.reduceEqDiff, reduceCtorEq, Int.reduceToNat, Int.reduceNeg, Nat.reduceLeDiff]
      exact ⟨hx2, _, rfl, Own.nil _ _ _⟩
    | true =>
      have hb : joinM l m = goJ l m := by unfold joinM; rw [hr, hr']; rfl
      rw [hb]
      simp (disch := first | omega | assumption | (simp only [zl] <;> omega) | fail) only [zd, zs, seval, AV.undef, unA, fillA, evParts, repCells, splice, partA, pureStep, memStep, resOf, resAll, resA, nilckA, bne, ↓reduceIte, Nat.reduceEqDiff, reduceCtorEq, Int.reduceToNat, Int.reduceNeg, Nat.reduceLeDiff]
      refine WO_callP rfl hx2 (clone_lock (h.ext hx2) (by omega)) ?_
      rintro v H3 hx3 _ ho
      have hlen2 := hx2.len
      simp (disch := first | omega | assumption | (simp only [zl] <;> omega) | fail) only [zd, zs, seval, AV.undef, unA, fillA, evParts, repCells, splice, partA, pureStep, memStep, resOf, resAll, resA, nilckA, bne, ↓reduceIte, Nat.reduceEqDiff, reduceCtorEq, Int.reduceToNat, Int.reduceNeg, Nat.reduceLeDiff]
      refine WC_range m.length (by omega) (by decide) (by decide) (by decide) (by decide) (by decide) (fun j e H' lw => ∃ v out, e 21 = .slice b m.length d ∧ e 6 = v ∧ Own eLock H.length H' v out ∧ goJ out (m.drop j) = goJ l m ∧ out.length ≤ l.length + j ∧ (∀ y, y ∈ out → LkOk y) ∧ Ext H H' ∧ lw = H.length) _ _ _ rfl rfl ⟨_, l, rfl, rfl, ho.lo (by omega), rfl, by omega, hok, hx3, rfl⟩ ?_ ?_
      · rintro j e H' lw hlt hi hn ⟨v, out, k21, k6, ho, hg, hle, hko, hx, rfl⟩
        have hlen := hx.len
        obtain ⟨x, hx1⟩ : ∃ x, m[j]? = some x := ⟨m[j], List.getElem?_eq_getElem hlt⟩
        have hxo := hok' x (List.mem_of_getElem? hx1)
        obtain ⟨i, o, rfl, hil, p0, p1, p2, p3⟩ := lock_at (h'.ext hx) hx1
        rw [drop_at hx1, goJ_cons] at hg
        obtain ⟨a2, rfl, hse⟩ := ho.se
        simp (disch := first | omega | assumption | (simp only [zl] <;> omega) | fail) only [hi, hn, k21, k6, p0, set_newRow_eq, zd, zs, seval, AV.undef, unA, fillA, evParts, repCells, splice, partA, pureStep, memStep, resOf, resAll, resA, nilckA, bne, ↓reduceIte, Nat.reduceEqDiff, reduceCtorEq, Int.reduceToNat, Int.reduceNeg, Nat.reduceLeDiff]
        have hxn : Ext H' (newRow H' [.str x.name, .int .i64 x.foe, .int .i64 x.till] 0) := Ext.newRow _ _ _
        refine WO_callP rfl (hx.trans hxn) (p22 (hse.ext hxn) (by omega) hko x hxo) ?_
        rintro v H4 hx4 hx34 ⟨v', rfl, ho'⟩
        rw [len_newRow] at ho'
        simp (disch := first | omega | assumption | (simp only [zl] <;> omega) | fail) only [hi, hn, k21, k6, zd, zs, seval, AV.undef, unA, fillA, evParts, repCells, splice, partA, pureStep, memStep, resOf, resAll, resA, nilckA, bne, ↓reduceIte, Nat.reduceEqDiff, reduceCtorEq, Int.reduceToNat, Int.reduceNeg, Nat.reduceLeDiff]
        have q2 := addM_2 out x
        by_cases g : (addM out x).2 = 0
        · rw [if_pos g] at hg
          simp (disch := first | omega | assumption | (simp only [zl] <;> omega) | fail) only [hi, hn, k21, k6, g, zd, zs, seval, AV.undef, unA, fillA, evParts, repCells, splice, partA, pureStep, memStep, resOf, resAll, resA, nilckA, bne, ↓reduceIte, Nat.reduceEqDiff, reduceCtorEq, Int.reduceToNat, Int.reduceNeg, Nat.reduceLeDiff]
          exact ⟨_, _, rfl, ho'.lo (by omega), hg, by have := addM_le (l := out) (x := x); omega, addM_lk hko hxo, hx4⟩
        · rw [if_neg g] at hg
          rw [← hg]
          simp (disch := first | omega | assumption | (simp only [zl] <;> omega) | fail) only [hi, hn, k21, k6, g, zd, zs, seval, AV.undef, unA, fillA, evParts, repCells, splice, partA, pureStep, memStep, resOf, resAll, resA, nilckA, bne, ↓reduceIte, Nat.reduceEqDiff, reduceCtorEq, Int.reduceToNat, Int.reduceNeg, Nat.reduceLeDiff]
          exact ⟨hx4, _, rfl, Own.nil _ _ _⟩
      · rintro e H' lw hi hn ⟨v, out, k21, k6, ho, hg, hle, hko, hx, rfl⟩
        rw [List.drop_length, goJ] at hg
        rw [← hg]
        simp (disch := first | omega | assumption | (simp only [zl] <;> omega) | fail) only [hi, hn, k21, k6, zd, zs, seval, AV.undef, unA, fillA, evParts, repCells, splice, partA, pureStep, memStep, resOf, resAll, resA, nilckA, bne, ↓reduceIte, Nat.reduceEqDiff, reduceCtorEq, Int.reduceToNat, Int.reduceNeg, Nat.reduceLeDiff]
        exact ⟨hx, _, rfl, ho⟩

set_option maxHeartbeats 2000000 in
/-- barrowref37.Join -/
theorem p39 {H : AHeap} {a b : Option (Nat × Nat)} {c d : Option Nat} {l m : List Lock} (h : SE eLock H a l.length c l) (h' : SE eLock H b m.length d m) (hl : l.length ≤ 100000) (hm : m.length ≤ 100000) (hok : ∀ x, x ∈ l → LkOk x) (hok' : ∀ x, x ∈ m → LkOk x) :
    PF T 39 [.slice a l.length c, .slice b m.length d] H fun r H' => ∃ v, r = .tup [v, .int .i64 (joinM l m).2] ∧ Own eLock H.length H' v (joinM l m).1 := by
  refine PF_code rfl _ _ _ ?_
  simp only [a39]
  simp (disch := first | omega | assumption | (simp only [zl] <;> omega) | fail) only [zd, zs, seval, AV.undef, unA, fillA, evParts, repCells, splice, partA, pureStep, memStep, resOf, resAll, resA, nilckA, bne, ↓reduceIte, Nat.reduceEqDiff, reduceCtorEq, Int.reduceToNat, Int.reduceNeg, Nat.reduceLeDiff]
  refine WO_callP rfl (Ext.refl _) (p30 h (by omega) hok) ?_
  rintro v H1 hx1 _ rfl
  simp (disch := first | omega | assumption | (simp only [zl] <;> omega) | fail) only [zd, zs, seval, AV.undef, unA, fillA, evParts, repCells, splice, partA, pureStep, memStep, resOf, resAll, resA, nilckA, bne, ↓reduceIte, Nat.reduceEqDiff, reduceCtorEq, Int.reduceToNat, Int.reduceNeg, Nat.reduceLeDiff]
  refine WO_callP rfl hx1 (p30 (h'.ext hx1) (by omega) hok') ?_
  rintro v H2 hx2 _ rfl
  cases hr : lright l with
  | false =>
    have hb : joinM l m = ([], 1) := by unfold joinM; rw [hr]; rfl
    rw [hb]
    simp (disch := first | omega | assumption | (simp only [zl] <;> omega) | fail) only [zd, zs, seval, AV.undef, unA, fillA, evParts, repCells, splice, partA, pureStep, memStep, resOf, resAll, resA, nilckA, bne, ↓reduceIte, Nat.reduceEqDiff, reduceCtorEq, Int.reduceToNat, Int.reduceNeg, Nat.reduceLeDiff]
    exact ⟨hx2, _, rfl, Own.nil _ _ _⟩
  | true =>
    cases hr' : lright m with
    | false =>
      have hb : joinM l m = ([], 1) := by unfold joinM; rw [hr, hr']; rfl
      rw [hb]
      simp (disch := first | omega | assumption | (simp only [zl] <;> omega) | fail) only [zd, zs, seval, AV.undef, unA, fillA, evParts, repCells, splice, partA, pureStep, memStep, resOf, resAll, resA, nilckA, bne, ↓reduceIte, Nat.reduceEqDiff, reduceCtorEq, Int.reduceToNat, Int.reduceNeg, Nat.reduceLeDiff]
      exact ⟨hx2, _, rfl, Own.nil _ _ _⟩
    | true =>
      have hb : joinM l m = goJ l m := by unfold joinM; rw [hr, hr']; rfl
      rw [hb]
      simp (disch := first | omega | assumption | (simp only [zl] <;> omega) | fail) only [zd, zs, seval, AV.undef, unA, fillA, evParts, repCells, splice, partA, pureStep, memStep, resOf, resAll, resA, nilckA, bne, ↓reduceIte, Nat.reduceEqDiff, reduceCtorEq, Int.reduceToNat, Int.reduceNeg, Nat.reduceLeDiff]
      refine WO_callP rfl hx2 (p65 (h.ext hx2) (by omega)) ?_
      rintro v H3 hx3 _ ho
      have hlen2 := hx2.len
      simp (disch := first | omega | assumption | (simp only [zl] <;> omega) | fail) only [zd, zs, seval, AV.undef, unA, fillA, evParts, repCells, splice, partA, pureStep, memStep, resOf, resAll, resA, nilckA, bne, ↓reduceIte, Nat.reduceEqDiff, reduceCtorEq, Int.reduceToNat, Int.reduceNeg, Nat.reduceLeDiff]
      refine WC_loop (fun n s => ∃ j v out, n = m.length - j ∧ j ≤ m.length ∧ s.env 1 = .slice b m.length d ∧ s.env 8 = v ∧ s.env 9 = .int .i64 (j : Int) ∧ Own eLock H.length s.heap v out ∧ goJ out (m.drop j) = goJ l m ∧ out.length ≤ l.length + j ∧ (∀ y, y ∈ out → LkOk y) ∧ Ext H s.heap ∧ s.low = H.length) ?_ m.length _ ⟨0, _, l, rfl, by omega, rfl, rfl, rfl, ho.lo (by omega), rfl, by omega, hok, hx3, rfl⟩
      rintro n ⟨e, H', lw⟩ ⟨j, v, out, hn, hj, k1, k8, k9, ho, hg, hle, hko, hx, rfl⟩
      simp only [] at k1 k8 k9 ho hx
      have hlen := hx.len
      by_cases hlt : j < m.length
      · obtain ⟨x, hx1⟩ : ∃ x, m[j]? = some x := ⟨m[j], List.getElem?_eq_getElem hlt⟩
        have hxo := hok' x (List.mem_of_getElem? hx1)
        obtain ⟨i, o, rfl, hil, p0, p1, p2, p3⟩ := lock_at (h'.ext hx) hx1
        rw [drop_at hx1, goJ_cons] at hg
        obtain ⟨a2, rfl, hse⟩ := ho.se
        simp (disch := first | omega | assumption | (simp only [zl] <;> omega) | fail) only [k1, k8, k9, p1, p2, p3, zd, zs, seval, AV.undef, unA, fillA, evParts, repCells, splice, partA, pureStep, memStep, resOf, resAll, resA, nilckA, bne, ↓reduceIte, Nat.reduceEqDiff, reduceCtorEq, Int.reduceToNat, Int.reduceNeg, Nat.reduceLeDiff]
        refine WO_callP rfl hx (p23 hse (by omega) hko x hxo) ?_
        rintro v H4 hx4 hx34 ⟨v', rfl, ho'⟩
        have q2 := addM_2 out x
        by_cases g : (addM out x).2 = 0
        · rw [if_pos g] at hg
          simp (disch := first | omega | assumption | (simp only [zl] <;> omega) | fail) only [k1, k8, k9, g, zd, zs, seval, AV.undef, unA, fillA, evParts, repCells, splice, partA, pureStep, memStep, resOf, resAll, resA, nilckA, bne, ↓reduceIte, Nat.reduceEqDiff, reduceCtorEq, Int.reduceToNat, Int.reduceNeg, Nat.reduceLeDiff]
          exact ⟨_, by omega, j + 1, _, _, rfl, by omega, rfl, rfl, ho'.lo (by omega), hg, by have := addM_le (l := out) (x := x); omega, addM_lk hko hxo, hx4⟩
        · rw [if_neg g] at hg
          rw [← hg]
          simp (disch := first | omega | assumption | (simp only [zl] <;> omega) | fail) only [k1, k8, k9, g, zd, zs, seval, AV.undef, unA, fillA, evParts, repCells, splice, partA, pureStep, memStep, resOf, resAll, resA, nilckA, bne, ↓reduceIte, Nat.reduceEqDiff, reduceCtorEq, Int.reduceToNat, Int.reduceNeg, Nat.reduceLeDiff]
          exact ⟨hx4, _, rfl, Own.nil _ _ _⟩
      · have hjn : j = m.length := by omega
        subst hjn
        rw [List.drop_length, goJ] at hg
        rw [← hg]
        simp (disch := first | omega | assumption | (simp only [zl] <;> omega) | fail) only [k1, k8, k9, zd, zs, seval, AV.undef, unA, fillA, evParts, repCells, splice, partA, pureStep, memStep, resOf, resAll, resA, nilckA, bne, ↓reduceIte, Nat.reduceEqDiff, reduceCtorEq, Int.reduceToNat, Int.reduceNeg, Nat.reduceLeDiff]
        exact ⟨hx, _, rfl, ho⟩
end Go.Proofs.Qq.Qqd

