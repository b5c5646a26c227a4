/-
  Part of the proof: the abstract machine, its soundness, contracts of functions.
-/
import Derived.Test.YthnpngefpbijkaaDoorQ6
import Derived.Test.YthnpngefpbijkaaDoorQ0
import Derived.Test.YthnpngefpbijkaaDoorQ3
import Derived.Test.YthnpngefpbijkaaDoorChecked
import Derived.KernelRfl
import Derived.Test.YthnpngefpbijkaaDoorQ4
import Derived.WalkKit
import Derived.WalkSpells
import Derived.WalkLawsBesides
import Derived.Shelf.RegionOpenPlain
import Derived.Lib.Walk
import Derived.Lib.Hide
import Derived.Lib.SliceRun
import Derived.Lib.AppendZeros
import Derived.Lib.AppendZerosOnto
import Derived.Lib.Overlaps
import Derived.Laws.Externs
import Derived.Laws.IdiomCopy
import Derived.Laws.NewBlocks
import Derived.Shelf.Spec.SlicesInsertGrow
import Derived.Test.YthnpngefpbijkaaDoorQ5
set_option linter.all false
namespace Go.Proofs.Qq.Qqd
open Go.Proofs.Qq

theorem goJ_le : ∀ (b a : List Lock), (goJ a b).1.length ≤ a.length + b.length
  | [], a => Nat.le_refl _
  | x :: xs, a => by
    rw [goJ_cons]
    split
    · have := goJ_le xs (addM a x).1; have := addM_le (l := a) (x := x); simp; omega
    · simp
theorem joinM_le (a b : List Lock) : (joinM a b).1.length ≤ a.length + b.length := by
  unfold joinM
  split
  · exact goJ_le _ _
  · simp
theorem goJ_ok : ∀ (b a : List Lock), (∀ x, x ∈ a → LkOk x) → (∀ x, x ∈ b → LkOk x) → ∀ x, x ∈ (goJ a b).1 → LkOk x
  | [], a, h, _ => h
  | x :: xs, a, h, h' => by
    rw [goJ_cons]
    split
    · exact goJ_ok xs _ (addM_lk h (h' x (by simp))) fun y hy => h' y (by simp [hy])
    · intro y hy; cases hy
theorem joinM_lk {a b : List Lock} (h : ∀ x, x ∈ a → LkOk x) (h' : ∀ x, x ∈ b → LkOk x) : ∀ x, x ∈ (joinM a b).1 → LkOk x := by
  unfold joinM
  split
  · exact goJ_ok _ _ h h'
  · intro y hy; cases hy
theorem goJ_2 : ∀ (b a : List Lock), 0 ≤ (goJ a b).2 ∧ (goJ a b).2 ≤ 4
  | [], a => ⟨by simp [goJ], by simp [goJ]⟩
  | x :: xs, a => by
    rw [goJ_cons]
    split
    · exact goJ_2 xs _
    · exact addM_2 a x
theorem joinM_2 (a b : List Lock) : 0 ≤ (joinM a b).2 ∧ (joinM a b).2 ≤ 4 := by
  unfold joinM
  split
  · exact goJ_2 _ _
  · simp

set_option maxHeartbeats 2000000 in
/-- barrowlaw37.LockJoins -/
theorem p7 {H : AHeap} {a b : Option (Nat × Nat)} {n n' : Nat} {c d : Option Nat} {l m : List Lock} (h : SE eLock H a n c l) (h' : SE eLock H b n' d m) (hw : ∀ x, x ∈ l → LkW x) (hw' : ∀ x, x ∈ m → LkW x) (now per off : Int) :
    PF T 7 [.slice a n c, .slice b n' d, .int .i64 now, .int .i64 per, .int .i64 off] H fun r _ => r = .bool true := by
  obtain rfl := h.n
  obtain rfl := h'.n
  refine PF_code rfl _ _ _ ?_
  simp only [a7]
  simp (disch := first | omega | assumption | (simp only [zl] <;> omega) | fail) only [zd, zs, seval, AV.undef, unA, fillA, evParts, repCells, splice, partA, pureStep, memStep, resOf, resAll, resA, nilckA, bne, ↓reduceIte, Nat.reduceEqDiff, reduceCtorEq, Int.reduceToNat, Int.reduceNeg, Nat.reduceLeDiff]
  refine WO_callP rfl (Ext.refl _) (closed_run rfl _) ?_
  rintro v _ _ _ ⟨rfl, rfl⟩
  simp (disch := first | omega | assumption | (simp only [zl] <;> omega) | fail) only [zd, zs, seval, AV.undef, unA, fillA, evParts, repCells, splice, partA, pureStep, memStep, resOf, resAll, resA, nilckA, bne, ↓reduceIte, Nat.reduceEqDiff, reduceCtorEq, Int.reduceToNat, Int.reduceNeg, Nat.reduceLeDiff]
  refine WO_callP rfl (Ext.refl _) (p21 h) ?_
  rintro v _ _ _ ⟨rfl, rfl⟩
  cases hf : fewM l with
  | false =>
    simp (disch := first | omega | assumption | (simp only [zl] <;> omega) | fail) only [zd, zs, seval, AV.undef, unA, fillA, evParts, repCells, splice, partA, pureStep, memStep, resOf, resAll, resA, nilckA, bne, ↓reduceIte, Nat.reduceEqDiff, reduceCtorEq, Int.reduceToNat, Int.reduceNeg, Nat.reduceLeDiff]
    exact Ext.refl _
  | true =>
    simp (disch := first | omega | assumption | (simp only [zl] <;> omega) | fail) only [zd, zs, seval, AV.undef, unA, fillA, evParts, repCells, splice, partA, pureStep, memStep, resOf, resAll, resA, nilckA, bne, ↓reduceIte, Nat.reduceEqDiff, reduceCtorEq, Int.reduceToNat, Int.reduceNeg, Nat.reduceLeDiff]
    refine WO_callP rfl (Ext.refl _) (p21 h') ?_
    rintro v _ _ _ ⟨rfl, rfl⟩
    cases hf' : fewM m with
    | false =>
      simp (disch := first | omega | assumption | (simp only [zl] <;> omega) | fail) only [zd, zs, seval, AV.undef, unA, fillA, evParts, repCells, splice, partA, pureStep, memStep, resOf, resAll, resA, nilckA, bne, ↓reduceIte, Nat.reduceEqDiff, reduceCtorEq, Int.reduceToNat, Int.reduceNeg, Nat.reduceLeDiff]
      exact Ext.refl _
    | true =>
      have ll := fewM_le hf
      have hok := few_ok hf hw
      have hok' := few_ok hf' hw'
      have lm := fewM_le hf'
      simp (disch := first | omega | assumption | (simp only [zl] <;> omega) | fail) only [zd, zs, seval, AV.undef, unA, fillA, evParts, repCells, splice, partA, pureStep, memStep, resOf, resAll, resA, nilckA, bne, ↓reduceIte, Nat.reduceEqDiff, reduceCtorEq, Int.reduceToNat, Int.reduceNeg, Nat.reduceLeDiff]
      refine WO_callP rfl (Ext.refl _) (p38 h h' (by omega) (by omega) hok hok') ?_
      rintro v H1 hx1 _ ⟨v1, rfl, o1⟩
      simp (disch := first | omega | assumption | (simp only [zl] <;> omega) | fail) only [zd, zs, seval, AV.undef, unA, fillA, evParts, repCells, splice, partA, pureStep, memStep, resOf, resAll, resA, nilckA, bne, ↓reduceIte, Nat.reduceEqDiff, reduceCtorEq, Int.reduceToNat, Int.reduceNeg, Nat.reduceLeDiff]
      refine WO_callP rfl hx1 (p39 (h.ext hx1) (h'.ext hx1) (by omega) (by omega) hok hok') ?_
      rintro v H2 hx2 hx12 ⟨v2, rfl, o2⟩
      have o1' := o1.ext hx12
      obtain ⟨a1, rfl, s1⟩ := o1'.se
      obtain ⟨a2, rfl, s2⟩ := o2.se
      have hle := joinM_le l m
      simp (disch := first | omega | assumption | (simp only [zl] <;> omega) | fail) only [zd, zs, seval, AV.undef, unA, fillA, evParts, repCells, splice, partA, pureStep, memStep, resOf, resAll, resA, nilckA, bne, ↓reduceIte, Nat.reduceEqDiff, reduceCtorEq, Int.reduceToNat, Int.reduceNeg, Nat.reduceLeDiff]
      refine WO_callP rfl hx2 (p27 s1 s2 (by omega)) ?_
      rintro v _ _ _ ⟨rfl, rfl⟩
      simp (disch := first | omega | assumption | (simp only [zl] <;> omega) | fail) only [zd, zs, seval, AV.undef, unA, fillA, evParts, repCells, splice, partA, pureStep, memStep, resOf, resAll, resA, nilckA, bne, ↓reduceIte, Nat.reduceEqDiff, reduceCtorEq, Int.reduceToNat, Int.reduceNeg, Nat.reduceLeDiff]
      refine WO_callP rfl hx2 (p40 now per off _) ?_
      rintro v _ _ _ ⟨rfl, rfl⟩
      simp (disch := first | omega | assumption | (simp only [zl] <;> omega) | fail) only [zd, zs, seval, AV.undef, unA, fillA, evParts, repCells, splice, partA, pureStep, memStep, resOf, resAll, resA, nilckA, bne, ↓reduceIte, Nat.reduceEqDiff, reduceCtorEq, Int.reduceToNat, Int.reduceNeg, Nat.reduceLeDiff]
      refine WO_callP rfl hx2 (p41 now per off _) ?_
      rintro v _ _ _ ⟨rfl, rfl⟩
      simp (disch := first | omega | assumption | (simp only [zl] <;> omega) | fail) only [zd, zs, seval, AV.undef, unA, fillA, evParts, repCells, splice, partA, pureStep, memStep, resOf, resAll, resA, nilckA, bne, ↓reduceIte, Nat.reduceEqDiff, reduceCtorEq, Int.reduceToNat, Int.reduceNeg, Nat.reduceLeDiff]
      exact hx2

set_option maxHeartbeats 4000000 in
/-- barrowlaw37.LockBoth -/
theorem p8 {H : AHeap} {a b : Option (Nat × Nat)} {n n' : Nat} {c d : Option Nat} {l m : List Lock} (h : SE eLock H a n c l) (h' : SE eLock H b n' d m) (hw : ∀ x, x ∈ l → LkW x) (hw' : ∀ x, x ∈ m → LkW x) (now per off : Int) :
    PF T 8 [.slice a n c, .slice b n' d, .int .i64 now, .int .i64 per, .int .i64 off] H fun r _ => r = .bool true := by
  obtain rfl := h.n
  obtain rfl := h'.n
  refine PF_code rfl _ _ _ ?_
  simp only [a8]
  simp (disch := first | omega | assumption | (simp only [zl] <;> omega) | fail) only [zd, zs, seval, AV.undef, unA, fillA, evParts, repCells, splice, partA, pureStep, memStep, resOf, resAll, resA, nilckA, bne, ↓reduceIte, Nat.reduceEqDiff, reduceCtorEq, Int.reduceToNat, Int.reduceNeg, Nat.reduceLeDiff]
  refine WO_callP rfl (Ext.refl _) (closed_run rfl _) ?_
  rintro v _ _ _ ⟨rfl, rfl⟩
  simp (disch := first | omega | assumption | (simp only [zl] <;> omega) | fail) only [zd, zs, seval, AV.undef, unA, fillA, evParts, repCells, splice, partA, pureStep, memStep, resOf, resAll, resA, nilckA, bne, ↓reduceIte, Nat.reduceEqDiff, reduceCtorEq, Int.reduceToNat, Int.reduceNeg, Nat.reduceLeDiff]
  refine WO_callP rfl (Ext.refl _) (p21 h) ?_
  rintro v _ _ _ ⟨rfl, rfl⟩
  cases hf : fewM l with
  | false =>
    simp (disch := first | omega | assumption | (simp only [zl] <;> omega) | fail) only [zd, zs, seval, AV.undef, unA, fillA, evParts, repCells, splice, partA, pureStep, memStep, resOf, resAll, resA, nilckA, bne, ↓reduceIte, Nat.reduceEqDiff, reduceCtorEq, Int.reduceToNat, Int.reduceNeg, Nat.reduceLeDiff]
    exact Ext.refl _
  | true =>
    simp (disch := first | omega | assumption | (simp only [zl] <;> omega) | fail) only [zd, zs, seval, AV.undef, unA, fillA, evParts, repCells, splice, partA, pureStep, memStep, resOf, resAll, resA, nilckA, bne, ↓reduceIte, Nat.reduceEqDiff, reduceCtorEq, Int.reduceToNat, Int.reduceNeg, Nat.reduceLeDiff]
    refine WO_callP rfl (Ext.refl _) (p21 h') ?_
    rintro v _ _ _ ⟨rfl, rfl⟩
    cases hf' : fewM m with
    | false =>
      simp (disch := first | omega | assumption | (simp only [zl] <;> omega) | fail) only [zd, zs, seval, AV.undef, unA, fillA, evParts, repCells, splice, partA, pureStep, memStep, resOf, resAll, resA, nilckA, bne, ↓reduceIte, Nat.reduceEqDiff, reduceCtorEq, Int.reduceToNat, Int.reduceNeg, Nat.reduceLeDiff]
      exact Ext.refl _
    | true =>
      have ll := fewM_le hf
      have hok := few_ok hf hw
      have hok' := few_ok hf' hw'
      have lm := fewM_le hf'
      simp (disch := first | omega | assumption | (simp only [zl] <;> omega) | fail) only [zd, zs, seval, AV.undef, unA, fillA, evParts, repCells, splice, partA, pureStep, memStep, resOf, resAll, resA, nilckA, bne, ↓reduceIte, Nat.reduceEqDiff, reduceCtorEq, Int.reduceToNat, Int.reduceNeg, Nat.reduceLeDiff]
      refine WO_callP rfl (Ext.refl _) (p38 h h' (by omega) (by omega) hok hok') ?_
      rintro v H1 hx1 _ ⟨v1, rfl, o1⟩
      simp (disch := first | omega | assumption | (simp only [zl] <;> omega) | fail) only [zd, zs, seval, AV.undef, unA, fillA, evParts, repCells, splice, partA, pureStep, memStep, resOf, resAll, resA, nilckA, bne, ↓reduceIte, Nat.reduceEqDiff, reduceCtorEq, Int.reduceToNat, Int.reduceNeg, Nat.reduceLeDiff]
      refine WO_callP rfl hx1 (p38 (h'.ext hx1) (h.ext hx1) (by omega) (by omega) hok' hok) ?_
      rintro v H2 hx2 hx12 ⟨v2, rfl, o2⟩
      have o1' := o1.ext hx12
      obtain ⟨a1, rfl, s1⟩ := o1'.se
      obtain ⟨a2, rfl, s2⟩ := o2.se
      have hle := joinM_le l m
      have hle' := joinM_le m l
      have hg1 := joinM_2 l m
      have hg2 := joinM_2 m l
      have tl : ∃ (H3 : AHeap), True ∧ True := ⟨H2, trivial, trivial⟩
      refine if e1 : (joinM l m).2 = 0 then ?ga else ?gb
      case' ga =>
        refine if e2 : (joinM m l).2 = 0 then ?gc else ?gd
        case' gc =>
          obtain ⟨q1, q2, q3, q4⟩ := joinM_comm e1 e2
          simp (disch := first | omega | assumption | (simp only [zl] <;> omega) | fail) only [e1, e2, zd, zs, seval, AV.undef, unA, fillA, evParts, repCells, splice, partA, pureStep, memStep, resOf, resAll, resA, nilckA, bne, ↓reduceIte, Nat.reduceEqDiff, reduceCtorEq, Int.reduceToNat, Int.reduceNeg, Nat.reduceLeDiff]
          refine WO_callP rfl hx2 (p27 s1 s2 (by omega)) ?_
          rintro v _ _ _ ⟨rfl, rfl⟩
          simp (disch := first | omega | assumption | (simp only [zl] <;> omega) | fail) only [q1, zd, zs, seval, AV.undef, unA, fillA, evParts, repCells, splice, partA, pureStep, memStep, resOf, resAll, resA, nilckA, bne, ↓reduceIte, Nat.reduceEqDiff, reduceCtorEq, Int.reduceToNat, Int.reduceNeg, Nat.reduceLeDiff]
          rw [q1] at s1 q2 q3 q4
          refine WO_callP rfl hx2 (p29 s1 (by omega) (joinM_lk hok' hok)) ?_
          rintro v H2 hx2 hx23 rfl
          simp (disch := first | omega | assumption | (simp only [zl] <;> omega) | fail) only [q2, zd, zs, seval, AV.undef, unA, fillA, evParts, repCells, splice, partA, pureStep, memStep, resOf, resAll, resA, nilckA, bne, ↓reduceIte, Nat.reduceEqDiff, reduceCtorEq, Int.reduceToNat, Int.reduceNeg, Nat.reduceLeDiff]
        case' gd => simp (disch := first | omega | assumption | (simp only [zl] <;> omega) | fail) only [e1, e2, zd, zs, seval, AV.undef, unA, fillA, evParts, repCells, splice, partA, pureStep, memStep, resOf, resAll, resA, nilckA, bne, ↓reduceIte, Nat.reduceEqDiff, reduceCtorEq, Int.reduceToNat, Int.reduceNeg, Nat.reduceLeDiff]
      case' gb => simp (disch := first | omega | assumption | (simp only [zl] <;> omega) | fail) only [e1, zd, zs, seval, AV.undef, unA, fillA, evParts, repCells, splice, partA, pureStep, memStep, resOf, resAll, resA, nilckA, bne, ↓reduceIte, Nat.reduceEqDiff, reduceCtorEq, Int.reduceToNat, Int.reduceNeg, Nat.reduceLeDiff]
      all_goals
        by_cases b1 : now < -1099511627776
        · simp (disch := first | omega | assumption | (simp only [zl] <;> omega) | fail) only [b1, zd, zs, seval, AV.undef, unA, fillA, evParts, repCells, splice, partA, pureStep, memStep, resOf, resAll, resA, nilckA, bne, ↓reduceIte, Nat.reduceEqDiff, reduceCtorEq, Int.reduceToNat, Int.reduceNeg, Nat.reduceLeDiff]
          exact hx2
        by_cases b2 : now > 1099511627776
        · simp (disch := first | omega | assumption | (simp only [zl] <;> omega) | fail) only [b1, b2, zd, zs, seval, AV.undef, unA, fillA, evParts, repCells, splice, partA, pureStep, memStep, resOf, resAll, resA, nilckA, bne, ↓reduceIte, Nat.reduceEqDiff, reduceCtorEq, Int.reduceToNat, Int.reduceNeg, Nat.reduceLeDiff]
          exact hx2
        by_cases b3 : off < -1099511627776
        · simp (disch := first | omega | assumption | (simp only [zl] <;> omega) | fail) only [b1, b2, b3, zd, zs, seval, AV.undef, unA, fillA, evParts, repCells, splice, partA, pureStep, memStep, resOf, resAll, resA, nilckA, bne, ↓reduceIte, Nat.reduceEqDiff, reduceCtorEq, Int.reduceToNat, Int.reduceNeg, Nat.reduceLeDiff]
          exact hx2
        by_cases b4 : off > 1099511627776
        · simp (disch := first | omega | assumption | (simp only [zl] <;> omega) | fail) only [b1, b2, b3, b4, zd, zs, seval, AV.undef, unA, fillA, evParts, repCells, splice, partA, pureStep, memStep, resOf, resAll, resA, nilckA, bne, ↓reduceIte, Nat.reduceEqDiff, reduceCtorEq, Int.reduceToNat, Int.reduceNeg, Nat.reduceLeDiff]
          exact hx2
        by_cases b5 : per < 1
        · simp (disch := first | omega | assumption | (simp only [zl] <;> omega) | fail) only [b1, b2, b3, b4, b5, zd, zs, seval, AV.undef, unA, fillA, evParts, repCells, splice, partA, pureStep, memStep, resOf, resAll, resA, nilckA, bne, ↓reduceIte, Nat.reduceEqDiff, reduceCtorEq, Int.reduceToNat, Int.reduceNeg, Nat.reduceLeDiff]
          exact hx2
        by_cases b6 : per > 1073741824
        · simp (disch := first | omega | assumption | (simp only [zl] <;> omega) | fail) only [b1, b2, b3, b4, b5, b6, zd, zs, seval, AV.undef, unA, fillA, evParts, repCells, splice, partA, pureStep, memStep, resOf, resAll, resA, nilckA, bne, ↓reduceIte, Nat.reduceEqDiff, reduceCtorEq, Int.reduceToNat, Int.reduceNeg, Nat.reduceLeDiff]
          exact hx2
        obtain ⟨t1, t2, t3, t4, t5⟩ := turn_law (now := now) (per := per) (off := off) (by omega) (by omega) (by omega) (by omega) (by omega) (by omega)
        simp (disch := first | omega | assumption | (simp only [zl] <;> omega) | fail) only [b1, b2, b3, b4, b5, b6, zd, zs, seval, AV.undef, unA, fillA, evParts, repCells, splice, partA, pureStep, memStep, resOf, resAll, resA, nilckA, bne, ↓reduceIte, Nat.reduceEqDiff, reduceCtorEq, Int.reduceToNat, Int.reduceNeg, Nat.reduceLeDiff]
        refine WO_callP rfl hx2 (p40 now per off _) ?_
        rintro v _ _ _ ⟨rfl, rfl⟩
        simp (disch := first | omega | assumption | (simp only [zl] <;> omega) | fail) only [t3, zd, zs, seval, AV.undef, unA, fillA, evParts, repCells, splice, partA, pureStep, memStep, resOf, resAll, resA, nilckA, bne, ↓reduceIte, Nat.reduceEqDiff, reduceCtorEq, Int.reduceToNat, Int.reduceNeg, Nat.reduceLeDiff]
        refine WO_callP rfl hx2 (p40 _ per off _) ?_
        rintro v _ _ _ ⟨rfl, rfl⟩
        simp (disch := first | omega | assumption | (simp only [zl] <;> omega) | fail) only [t4, zd, zs, seval, AV.undef, unA, fillA, evParts, repCells, splice, partA, pureStep, memStep, resOf, resAll, resA, nilckA, bne, ↓reduceIte, Nat.reduceEqDiff, reduceCtorEq, Int.reduceToNat, Int.reduceNeg, Nat.reduceLeDiff]
        refine WO_callP rfl hx2 (p40 _ per off _) ?_
        rintro v _ _ _ ⟨rfl, rfl⟩
        simp (disch := first | omega | assumption | (simp only [zl] <;> omega) | fail) only [t5, zd, zs, seval, AV.undef, unA, fillA, evParts, repCells, splice, partA, pureStep, memStep, resOf, resAll, resA, nilckA, bne, ↓reduceIte, Nat.reduceEqDiff, reduceCtorEq, Int.reduceToNat, Int.reduceNeg, Nat.reduceLeDiff]
        exact hx2
end Go.Proofs.Qq.Qqd

namespace Go.Proofs.Qq.Qqd
open Go.Proofs.Qq

theorem spoil_lock {lo : Nat} {H : AHeap} {a : Option (Nat × Nat)} {ys : List Lock} (h : Own eLock lo H (.slice a ys.length none) ys) {k : Nat} (hk : k < ys.length) :
    ∃ i r ys', a = some (i, 0) ∧ lo ≤ i ∧ wrRow H i (k * 3 + 1) [.int .i64 (-7)] = some (List.set H i (.row r)) ∧ ys'.length = ys.length ∧ Own eLock lo (List.set H i (.row r)) (.slice a ys.length none) ys' := by
  obtain ⟨y, hy⟩ : ∃ y, ys[k]? = some y := ⟨ys[k], List.getElem?_eq_getElem hk⟩
  obtain ⟨i, r, e, h1, h2, h3, h4⟩ := own_setp h hy ⟨y.name, -7, y.till⟩ (o := 1) (cs := [.int .i64 (-7)]) rfl (by decide)
  exact ⟨i, r, _, e, h1, h3, by simp, h4⟩

set_option maxHeartbeats 8000000 in
/-- barrowlaw37.LockTells -/
theorem p5 {H : AHeap} {a b : Option (Nat × Nat)} {n n' : Nat} {c d : Option Nat} {l : List Lock} {names : List (List UInt8)} (h : SE eLock H a n c l) (hw : ∀ x, x ∈ l → LkW x) (x : Lock) (hx : LkW x) (now : Int) (h' : SE eStr H b n' d names) (hnl : names.length ≤ 9223372036854775807) :
    PF T 5 [.slice a n c, .agg [.str x.name, .int .i64 x.foe, .int .i64 x.till], .int .i64 now, .slice b n' d] H fun r _ => r = .bool true := by
  obtain rfl := h.n
  obtain rfl := h'.n
  refine PF_code rfl _ _ _ ?_
  simp only [a5]
  simp (disch := first | omega | assumption | (simp only [zl] <;> omega) | fail) only [zd, zs, seval, AV.undef, unA, fillA, evParts, repCells, splice, partA, pureStep, memStep, resOf, resAll, resA, nilckA, bne, ↓reduceIte, Nat.reduceEqDiff, reduceCtorEq, Int.reduceToNat, Int.reduceNeg, Nat.reduceLeDiff]
  generalize hH1 : newRow H [.str x.name, .int .i64 x.foe, .int .i64 x.till] 0 = H1
  have hx1 : Ext H H1 := hH1 ▸ Ext.newRow _ _ _
  have r1 : hOf H1 H.length = some ⟨[.str x.name, .int .i64 x.foe, .int .i64 x.till], true, 0⟩ := by rw [← hH1, hOf_new_eq rfl]
  have l1 := load_row r1
  refine WO_callP rfl hx1 (closed_run rfl _) ?_
  rintro v _ _ _ ⟨rfl, rfl⟩
  simp (disch := first | omega | assumption | (simp only [zl] <;> omega) | fail) only [zd, zs, seval, AV.undef, unA, fillA, evParts, repCells, splice, partA, pureStep, memStep, resOf, resAll, resA, nilckA, bne, ↓reduceIte, Nat.reduceEqDiff, reduceCtorEq, Int.reduceToNat, Int.reduceNeg, Nat.reduceLeDiff]
  refine WO_callP rfl hx1 (p21 (h.ext hx1)) ?_
  rintro v _ _ _ ⟨rfl, rfl⟩
  refine WO_cut (fun e H' lw => ∃ ok : Bool, e 0 = .slice a l.length c ∧ e 2 = .int .i64 now ∧ e 3 = .slice b names.length d ∧ e 5 = .ptr (some (H.length, 0)) ∧ e 9 = .bool true ∧ e 10 = .bool ok ∧ Ext H1 H' ∧ lw = H.length ∧ (ok = true → fewM l = true ∧ fewM [x] = true)) ?_ ?_
  · cases hf : fewM l with
    | false =>
      simp (disch := first | omega | assumption | (simp only [zl] <;> omega) | fail) only [zd, zs, seval, AV.undef, unA, fillA, evParts, repCells, splice, partA, pureStep, memStep, resOf, resAll, resA, nilckA, bne, ↓reduceIte, Nat.reduceEqDiff, reduceCtorEq, Int.reduceToNat, Int.reduceNeg, Nat.reduceLeDiff]
      exact ⟨_, rfl, Ext.refl _, fun h => by cases h⟩
    | true =>
      simp (disch := first | omega | assumption | (simp only [zl] <;> omega) | fail) only [l1, zd, zs, seval, AV.undef, unA, fillA, evParts, repCells, splice, partA, pureStep, memStep, resOf, resAll, resA, nilckA, bne, ↓reduceIte, Nat.reduceEqDiff, reduceCtorEq, Int.reduceToNat, Int.reduceNeg, Nat.reduceLeDiff]
      obtain ⟨af, ef, sf⟩ := (Own.fresh eLock (Nat.le_refl H1.length) [x]).se
      cases ef
      have hxf : Ext H1 (newRow H1 (eLock.cs [x]) eLock.sz) := Ext.newRow _ _ _
      refine WO_callP rfl hx1.nr (p21 sf) ?_
      rintro v _ _ _ ⟨rfl, rfl⟩
      simp (disch := first | omega | assumption | (simp only [zl] <;> omega) | fail) only [zd, zs, seval, AV.undef, unA, fillA, evParts, repCells, splice, partA, pureStep, memStep, resOf, resAll, resA, nilckA, bne, ↓reduceIte, Nat.reduceEqDiff, reduceCtorEq, Int.reduceToNat, Int.reduceNeg, Nat.reduceLeDiff]
      exact ⟨_, rfl, hxf, fun h => h⟩
  rintro e H2 lw ⟨ok, k0, k2, k3, k5, k9, k10, hx2, rfl, hok⟩
  simp (disch := first | omega | assumption | (simp only [zl] <;> omega) | fail) only [k0, k2, k3, k5, k9, k10, zd, zs, seval, AV.undef, unA, fillA, evParts, repCells, splice, partA, pureStep, memStep, resOf, resAll, resA, nilckA, bne, ↓reduceIte, Nat.reduceEqDiff, reduceCtorEq, Int.reduceToNat, Int.reduceNeg, Nat.reduceLeDiff]
  refine WC_loopM (fun e H' lw => ∃ ok : Bool, e 0 = .slice a l.length c ∧ e 2 = .int .i64 now ∧ e 3 = .slice b names.length d ∧ e 5 = .ptr (some (H.length, 0)) ∧ e 9 = .bool true ∧ e 10 = .bool ok ∧ Ext H1 H' ∧ lw = H.length ∧ (ok = true → fewM l = true ∧ fewM [x] = true))
    (fun n s => ∃ j, ∃ ok : Bool, n = names.length - j ∧ j ≤ names.length ∧ j ≤ 100 ∧ s.env 0 = .slice a l.length c ∧ s.env 2 = .int .i64 now ∧ s.env 3 = .slice b names.length d ∧ s.env 5 = .ptr (some (H.length, 0)) ∧ s.env 9 = .bool true ∧ s.env 10 = .bool ok ∧ s.env 11 = .int .i64 (j : Int) ∧ Ext H1 s.heap ∧ s.low = H.length ∧ (ok = true → fewM l = true ∧ fewM [x] = true)) ?_ names.length _ ⟨0, ok, rfl, by omega, by omega, k0, k2, k3, k5, k9, k10, rfl, hx2, rfl, hok⟩ ?_
  · rintro n ⟨e, H3, lw⟩ ⟨j, ok, hn, hj, hj1, k0, k2, k3, k5, k9, k10, k11, hx3, rfl, hok⟩
    simp only [] at k0 k2 k3 k5 k9 k10 k11 hx3
    by_cases hlt : j < names.length
    · by_cases hlt1 : j < 100
      · obtain ⟨s, hs⟩ : ∃ s, names[j]? = some s := ⟨names[j], List.getElem?_eq_getElem hlt⟩
        obtain ⟨i, o, rfl, _, p0⟩ := (h'.ext (hx1.trans hx3)).at1 rfl hs rfl
        cases ok with
        | false =>
          simp (disch := first | omega | assumption | (simp only [zl] <;> omega) | fail) only [k0, k2, k3, k5, k9, k10, k11, p0, zd, zs, seval, AV.undef, unA, fillA, evParts, repCells, splice, partA, pureStep, memStep, resOf, resAll, resA, nilckA, bne, ↓reduceIte, Nat.reduceEqDiff, reduceCtorEq, Int.reduceToNat, Int.reduceNeg, Nat.reduceLeDiff]
          exact ⟨_, by omega, j + 1, _, rfl, by omega, by omega, rfl, rfl, hx3, fun h => by cases h⟩
        | true =>
          simp (disch := first | omega | assumption | (simp only [zl] <;> omega) | fail) only [k0, k2, k3, k5, k9, k10, k11, p0, zd, zs, seval, AV.undef, unA, fillA, evParts, repCells, splice, partA, pureStep, memStep, resOf, resAll, resA, nilckA, bne, ↓reduceIte, Nat.reduceEqDiff, reduceCtorEq, Int.reduceToNat, Int.reduceNeg, Nat.reduceLeDiff]
          exact ⟨_, by omega, j + 1, _, rfl, by omega, by omega, rfl, rfl, hx3, fun _ => hok rfl⟩
      · simp (disch := first | omega | assumption | (simp only [zl] <;> omega) | fail) only [k0, k2, k3, k5, k9, k10, k11, zd, zs, seval, AV.undef, unA, fillA, evParts, repCells, splice, partA, pureStep, memStep, resOf, resAll, resA, nilckA, bne, ↓reduceIte, Nat.reduceEqDiff, reduceCtorEq, Int.reduceToNat, Int.reduceNeg, Nat.reduceLeDiff]
        exact ⟨ok, rfl, hx3, hok⟩
    · simp (disch := first | omega | assumption | (simp only [zl] <;> omega) | fail) only [k0, k2, k3, k5, k9, k10, k11, zd, zs, seval, AV.undef, unA, fillA, evParts, repCells, splice, partA, pureStep, memStep, resOf, resAll, resA, nilckA, bne, ↓reduceIte, Nat.reduceEqDiff, reduceCtorEq, Int.reduceToNat, Int.reduceNeg, Nat.reduceLeDiff]
      exact ⟨ok, rfl, hx3, hok⟩
  rintro e H3 lw ⟨ok, k0, k2, k3, k5, k9, k10, hx3, rfl, hok⟩
  cases ok with
  | false =>
    simp (disch := first | omega | assumption | (simp only [zl] <;> omega) | fail) only [k0, k2, k3, k5, k9, k10, zd, zs, seval, AV.undef, unA, fillA, evParts, repCells, splice, partA, pureStep, memStep, resOf, resAll, resA, nilckA, bne, ↓reduceIte, Nat.reduceEqDiff, reduceCtorEq, Int.reduceToNat, Int.reduceNeg, Nat.reduceLeDiff]
    exact hx1.trans hx3
  | true =>
    by_cases hn60 : names.length ≤ 60
    · obtain ⟨hf, hf'⟩ := hok rfl
      have ll := fewM_le hf
      have hok := few_ok hf hw
      have hxo : LkOk x := few_ok hf' (fun y hy => by simp at hy; subst hy; exact hx) x (by simp)
      have hxH := hx1.trans hx3
      have l3 := load_row (hx3.row _ _ r1)
      have hlH := hxH.len
      have hlt1 := hOf_is_lt (hx3.row _ _ r1)
      have hl3 := h.ext hxH
      -- a copy of the row
      obtain ⟨vin, H4, w4, e4, oin, ap4⟩ := append_own (E := eLock) (lo := H3.length) (H := newRow H3 [] 3) (v := .slice (some (H3.length, 0)) 0 none) (xs := []) (x := .slice a l.length c) (ys := l) (bytes := 32) (Own.fresh eLock (Nat.le_refl _) []) (by rw [len_newRow]; omega) rfl (hl3.ext (Ext.newRow _ _ _)).src (by decide) (by simp [room]; omega)
      change appendA 3 32 _ _ _ = _ at e4
      rw [List.nil_append] at oin
      have q4 := ap4.lower hlH
      have hx34 : Ext H3 H4 := ap4.ext (Ext.newRow _ _ _) (fun i o n c e => by cases e; exact Nat.le_refl _)
      have hx4 := hx3.trans hx34
      have hxH4 := hxH.trans hx34
      obtain ⟨ain, rfl, sin⟩ := oin.se
      have l4 := load_row (hx4.row _ _ r1)
      simp (disch := first | omega | assumption | (simp only [zl] <;> omega) | fail) only [k0, k2, k3, k5, k9, k10, e4, q4, l4, zd, zs, seval, AV.undef, unA, fillA, evParts, repCells, splice, partA, pureStep, memStep, resOf, resAll, resA, nilckA, bne, ↓reduceIte, Nat.reduceEqDiff, reduceCtorEq, Int.reduceToNat, Int.reduceNeg, Nat.reduceLeDiff]
      refine WO_callP rfl hxH4 (p22 sin (by omega) hok x hxo) ?_
      rintro v H5 hxH5 hx45 ⟨va, rfl, oa⟩
      have l5 := load_row ((hx4.trans hx45).row _ _ r1)
      simp (disch := first | omega | assumption | (simp only [zl] <;> omega) | fail) only [k0, k2, k3, k5, k9, k10, l5, zd, zs, seval, AV.undef, unA, fillA, evParts, repCells, splice, partA, pureStep, memStep, resOf, resAll, resA, nilckA, bne, ↓reduceIte, Nat.reduceEqDiff, reduceCtorEq, Int.reduceToNat, Int.reduceNeg, Nat.reduceLeDiff]
      refine WO_callP rfl hxH5 (p23 (h.ext hxH5) (by omega) hok x hxo) ?_
      rintro v H6 hxH6 hx56 ⟨vb, rfl, ob⟩
      have hx46 := hx45.trans hx56
      have l6 := load_row ((hx4.trans hx46).row _ _ r1)
      have hml := addM_le (l := l) (x := x)
      simp (disch := first | omega | assumption | (simp only [zl] <;> omega) | fail) only [k0, k2, k3, k5, k9, k10, l6, zd, zs, seval, AV.undef, unA, fillA, evParts, repCells, splice, partA, pureStep, memStep, resOf, resAll, resA, nilckA, bne, ↓reduceIte, Nat.reduceEqDiff, reduceCtorEq, Int.reduceToNat, Int.reduceNeg, Nat.reduceLeDiff]
      refine WO_callP rfl hxH6 (p24 (sin.ext hx46) (by omega) x.name x.foe now) ?_
      rintro v H7 hxH7 hx67 rfl
      have hx47 := hx46.trans hx67
      have l7 := load_row ((hx4.trans hx47).row _ _ r1)
      simp (disch := first | omega | assumption | (simp only [zl] <;> omega) | fail) only [k0, k2, k3, k5, k9, k10, l7, zd, zs, seval, AV.undef, unA, fillA, evParts, repCells, splice, partA, pureStep, memStep, resOf, resAll, resA, nilckA, bne, ↓reduceIte, Nat.reduceEqDiff, reduceCtorEq, Int.reduceToNat, Int.reduceNeg, Nat.reduceLeDiff]
      refine WO_callP rfl hxH7 (p25 (h.ext hxH7) (by omega) x.name x.foe now) ?_
      rintro v _ _ _ ⟨rfl, rfl⟩
      simp (disch := first | omega | assumption | (simp only [zl] <;> omega) | fail) only [k0, k2, k3, k5, k9, k10, l7, zd, zs, seval, AV.undef, unA, fillA, evParts, repCells, splice, partA, pureStep, memStep, resOf, resAll, resA, nilckA, bne, ↓reduceIte, Nat.reduceEqDiff, reduceCtorEq, Int.reduceToNat, Int.reduceNeg, Nat.reduceLeDiff]
      refine WO_callP rfl hxH7 (p26 (sin.ext hx47) (by omega) now) ?_
      rintro v H8 hxH8 hx78 oc
      have oa7 := (oa.ext hx56).ext hx67
      have oa8 := oa7.ext hx78
      have ob8 := (ob.ext hx67).ext hx78
      obtain ⟨aa, rfl, sa8⟩ := oa8.se
      obtain ⟨ab, rfl, sb8⟩ := ob8.se
      obtain ⟨ac, rfl, sc8⟩ := oc.se
      have hcl : (cleanM l now).length ≤ l.length := List.length_filter_le _ _
      simp (disch := first | omega | assumption | (simp only [zl] <;> omega) | fail) only [k0, k2, k3, k5, k9, k10, zd, zs, seval, AV.undef, unA, fillA, evParts, repCells, splice, partA, pureStep, memStep, resOf, resAll, resA, nilckA, bne, ↓reduceIte, Nat.reduceEqDiff, reduceCtorEq, Int.reduceToNat, Int.reduceNeg, Nat.reduceLeDiff]
      refine WO_callP rfl hxH8 (p27 sa8 sb8 (by omega)) ?_
      rintro v _ _ _ ⟨rfl, rfl⟩
      simp (disch := first | omega | assumption | (simp only [zl] <;> omega) | fail) only [k0, k2, k3, k5, k9, k10, eqA, zd, zs, seval, AV.undef, unA, fillA, evParts, repCells, splice, partA, pureStep, memStep, resOf, resAll, resA, nilckA, bne, ↓reduceIte, Nat.reduceEqDiff, reduceCtorEq, Int.reduceToNat, Int.reduceNeg, Nat.reduceLeDiff]
      refine WO_callP rfl hxH8 (p28 (h.ext hxH8) (by omega) now) ?_
      rintro v H9 hxH9 hx89 od
      obtain ⟨ad, rfl, sd9⟩ := od.se
      simp (disch := first | omega | assumption | (simp only [zl] <;> omega) | fail) only [k0, k2, k3, k5, k9, k10, zd, zs, seval, AV.undef, unA, fillA, evParts, repCells, splice, partA, pureStep, memStep, resOf, resAll, resA, nilckA, bne, ↓reduceIte, Nat.reduceEqDiff, reduceCtorEq, Int.reduceToNat, Int.reduceNeg, Nat.reduceLeDiff]
      refine WO_callP rfl hxH9 (p27 (sc8.ext hx89) sd9 (by omega)) ?_
      rintro v _ _ _ ⟨rfl, rfl⟩
      simp (disch := first | omega | assumption | (simp only [zl] <;> omega) | fail) only [k0, k2, k3, k5, k9, k10, zd, zs, seval, AV.undef, unA, fillA, evParts, repCells, splice, partA, pureStep, memStep, resOf, resAll, resA, nilckA, bne, ↓reduceIte, Nat.reduceEqDiff, reduceCtorEq, Int.reduceToNat, Int.reduceNeg, Nat.reduceLeDiff]
      have hx79 := hx78.trans hx89
      have h4len := hxH4.len
      have h7len := hxH7.len
      refine WC_loopM (fun e H' lw => e 0 = .slice a l.length c ∧ e 2 = .int .i64 now ∧ e 3 = .slice b names.length d ∧ e 5 = .ptr (some (H.length, 0)) ∧ e 9 = .bool true ∧ e 12 = .slice ain l.length none ∧ e 13 = .slice aa (addM l x).1.length none ∧ e 22 = .bool true ∧ Ext H7 H' ∧ lw = H.length)
        (fun n s => ∃ j, ∃ ys : List Lock, n = (cleanM l now).length - j ∧ j ≤ (cleanM l now).length ∧ ys.length = (cleanM l now).length ∧ s.env 0 = .slice a l.length c ∧ s.env 2 = .int .i64 now ∧ s.env 3 = .slice b names.length d ∧ s.env 5 = .ptr (some (H.length, 0)) ∧ s.env 9 = .bool true ∧ s.env 12 = .slice ain l.length none ∧ s.env 13 = .slice aa (addM l x).1.length none ∧ s.env 21 = .slice ac (cleanM l now).length none ∧ s.env 22 = .bool true ∧ s.env 23 = .int .i64 (j : Int) ∧ Ext H7 s.heap ∧ s.low = H.length ∧ Own eLock H7.length s.heap (.slice ac ys.length none) ys)
        ?_ (cleanM l now).length _ ⟨0, _, rfl, by omega, rfl, k0, k2, k3, k5, k9, rfl, rfl, rfl, rfl, rfl, hx79, rfl, oc.ext hx89⟩ ?_
      · rintro n ⟨e, Hc, lw⟩ ⟨j, ys, hn, hj, hyl, k0, k2, k3, k5, k9, k12, k13, k21, k22, k23, hxc, rfl, oc⟩
        simp only [] at k0 k2 k3 k5 k9 k12 k13 k21 k22 k23 hxc oc
        by_cases hlt : j < (cleanM l now).length
        · obtain ⟨i, r, ys', rfl, g1, g2, g3, g4⟩ := spoil_lock oc (k := j) (by omega)
          simp (disch := first | omega | assumption | (simp only [zl] <;> omega) | fail) only [k0, k2, k3, k5, k9, k12, k13, k21, k22, k23, g2, zd, zs, seval, AV.undef, unA, fillA, evParts, repCells, splice, partA, pureStep, memStep, resOf, resAll, resA, nilckA, bne, ↓reduceIte, Nat.reduceEqDiff, reduceCtorEq, Int.reduceToNat, Int.reduceNeg, Nat.reduceLeDiff]
          exact ⟨_, by omega, j + 1, ys', rfl, by omega, by omega, rfl, hxc.set g1 _, by rw [g3]; exact g4⟩
        · simp (disch := first | omega | assumption | (simp only [zl] <;> omega) | fail) only [k0, k2, k3, k5, k9, k12, k13, k21, k22, k23, zd, zs, seval, AV.undef, unA, fillA, evParts, repCells, splice, partA, pureStep, memStep, resOf, resAll, resA, nilckA, bne, ↓reduceIte, Nat.reduceEqDiff, reduceCtorEq, Int.reduceToNat, Int.reduceNeg, Nat.reduceLeDiff]
          exact hxc
      rintro e Ha lw ⟨k0, k2, k3, k5, k9, k12, k13, k22, hx7a, rfl⟩
      simp (disch := first | omega | assumption | (simp only [zl] <;> omega) | fail) only [k0, k2, k3, k5, k9, k12, k13, k22, zd, zs, seval, AV.undef, unA, fillA, evParts, repCells, splice, partA, pureStep, memStep, resOf, resAll, resA, nilckA, bne, ↓reduceIte, Nat.reduceEqDiff, reduceCtorEq, Int.reduceToNat, Int.reduceNeg, Nat.reduceLeDiff]
      refine WC_loopM (fun e H' lw => e 0 = .slice a l.length c ∧ e 2 = .int .i64 now ∧ e 3 = .slice b names.length d ∧ e 5 = .ptr (some (H.length, 0)) ∧ e 9 = .bool true ∧ e 12 = .slice ain l.length none ∧ e 22 = .bool true ∧ Ext H4 H' ∧ lw = H.length)
        (fun n s => ∃ j, ∃ ys : List Lock, n = (addM l x).1.length - j ∧ j ≤ (addM l x).1.length ∧ ys.length = (addM l x).1.length ∧ s.env 0 = .slice a l.length c ∧ s.env 2 = .int .i64 now ∧ s.env 3 = .slice b names.length d ∧ s.env 5 = .ptr (some (H.length, 0)) ∧ s.env 9 = .bool true ∧ s.env 12 = .slice ain l.length none ∧ s.env 13 = .slice aa (addM l x).1.length none ∧ s.env 22 = .bool true ∧ s.env 24 = .int .i64 (j : Int) ∧ Ext H4 s.heap ∧ s.low = H.length ∧ Own eLock H4.length s.heap (.slice aa ys.length none) ys)
        ?_ (addM l x).1.length _ ⟨0, _, rfl, by omega, rfl, k0, k2, k3, k5, k9, k12, k13, k22, rfl, hx47.trans hx7a, rfl, oa7.ext hx7a⟩ ?_
      · rintro n ⟨e, Hc, lw⟩ ⟨j, ys, hn, hj, hyl, k0, k2, k3, k5, k9, k12, k13, k22, k24, hxc, rfl, oc⟩
        simp only [] at k0 k2 k3 k5 k9 k12 k13 k22 k24 hxc oc
        by_cases hlt : j < (addM l x).1.length
        · obtain ⟨i, r, ys', rfl, g1, g2, g3, g4⟩ := spoil_lock oc (k := j) (by omega)
          simp (disch := first | omega | assumption | (simp only [zl] <;> omega) | fail) only [k0, k2, k3, k5, k9, k12, k13, k22, k24, g2, zd, zs, seval, AV.undef, unA, fillA, evParts, repCells, splice, partA, pureStep, memStep, resOf, resAll, resA, nilckA, bne, ↓reduceIte, Nat.reduceEqDiff, reduceCtorEq, Int.reduceToNat, Int.reduceNeg, Nat.reduceLeDiff]
          exact ⟨_, by omega, j + 1, ys', rfl, by omega, by omega, rfl, hxc.set g1 _, by rw [g3]; exact g4⟩
        · simp (disch := first | omega | assumption | (simp only [zl] <;> omega) | fail) only [k0, k2, k3, k5, k9, k12, k13, k22, k24, zd, zs, seval, AV.undef, unA, fillA, evParts, repCells, splice, partA, pureStep, memStep, resOf, resAll, resA, nilckA, bne, ↓reduceIte, Nat.reduceEqDiff, reduceCtorEq, Int.reduceToNat, Int.reduceNeg, Nat.reduceLeDiff]
          exact hxc
      rintro e HA lw ⟨k0, k2, k3, k5, k9, k12, k22, hx4A, rfl⟩
      have hxHA := hxH4.trans hx4A
      have lA := load_row ((hx4.trans hx4A).row _ _ r1)
      simp (disch := first | omega | assumption | (simp only [zl] <;> omega) | fail) only [k0, k2, k3, k5, k9, k12, k22, lA, zd, zs, seval, AV.undef, unA, fillA, evParts, repCells, splice, partA, pureStep, memStep, resOf, resAll, resA, nilckA, bne, ↓reduceIte, Nat.reduceEqDiff, reduceCtorEq, Int.reduceToNat, Int.reduceNeg, Nat.reduceLeDiff]
      refine WO_callP rfl hxHA (p29 (sin.ext hx4A) (by omega) hok) ?_
      rintro v HB hxHB hxAB rfl
      simp (disch := first | omega | assumption | (simp only [zl] <;> omega) | fail) only [k0, k2, k3, k5, k9, k12, k22, zd, zs, seval, AV.undef, unA, fillA, evParts, repCells, splice, partA, pureStep, memStep, resOf, resAll, resA, nilckA, bne, ↓reduceIte, Nat.reduceEqDiff, reduceCtorEq, Int.reduceToNat, Int.reduceNeg, Nat.reduceLeDiff]
      refine WO_callP rfl hxHB (p30 (h.ext hxHB) (by omega) hok) ?_
      rintro v HC hxHC hxBC rfl
      have hx4C := hx4A.trans (hxAB.trans hxBC)
      have lC := load_row ((hx4.trans hx4C).row _ _ r1)
      simp (disch := first | omega | assumption | (simp only [zl] <;> omega) | fail) only [k0, k2, k3, k5, k9, k12, k22, lC, eqA, zd, zs, seval, AV.undef, unA, fillA, evParts, repCells, splice, partA, pureStep, memStep, resOf, resAll, resA, nilckA, bne, ↓reduceIte, Nat.reduceEqDiff, reduceCtorEq, Int.reduceToNat, Int.reduceNeg, Nat.reduceLeDiff]
      refine WO_callP rfl hxHC (p32 (sin.ext hx4C) (by omega) x.name now) ?_
      rintro v HD hxHD hxCD od1
      have hx4D := hx4C.trans hxCD
      have lD := load_row ((hx4.trans hx4D).row _ _ r1)
      simp (disch := first | omega | assumption | (simp only [zl] <;> omega) | fail) only [k0, k2, k3, k5, k9, k12, k22, lD, eqA, zd, zs, seval, AV.undef, unA, fillA, evParts, repCells, splice, partA, pureStep, memStep, resOf, resAll, resA, nilckA, bne, ↓reduceIte, Nat.reduceEqDiff, reduceCtorEq, Int.reduceToNat, Int.reduceNeg, Nat.reduceLeDiff]
      refine WO_callP rfl hxHD (p33 (h.ext hxHD) (by omega) x.name now) ?_
      rintro v HE hxHE hxDE oe1
      have hx4E := hx4D.trans hxDE
      have lE := load_row ((hx4.trans hx4E).row _ _ r1)
      have od2 := od1.ext hxDE
      obtain ⟨ad1, rfl, sd1⟩ := od2.se
      obtain ⟨ae1, rfl, se1⟩ := oe1.se
      have hol : (ofM l x.name now).length ≤ l.length := by have := ofM_len l l.length x.name now; rwa [List.take_length] at this
      simp (disch := first | omega | assumption | (simp only [zl] <;> omega) | fail) only [k0, k2, k3, k5, k9, k12, k22, lE, eqA, zd, zs, seval, AV.undef, unA, fillA, evParts, repCells, splice, partA, pureStep, memStep, resOf, resAll, resA, nilckA, bne, ↓reduceIte, Nat.reduceEqDiff, reduceCtorEq, Int.reduceToNat, Int.reduceNeg, Nat.reduceLeDiff]
      refine WO_callP rfl hxHE (p31 sd1 se1 (by omega)) ?_
      rintro v _ _ _ ⟨rfl, rfl⟩
      simp (disch := first | omega | assumption | (simp only [zl] <;> omega) | fail) only [k0, k2, k3, k5, k9, k12, k22, lE, eqA, zd, zs, seval, AV.undef, unA, fillA, evParts, repCells, splice, partA, pureStep, memStep, resOf, resAll, resA, nilckA, bne, ↓reduceIte, Nat.reduceEqDiff, reduceCtorEq, Int.reduceToNat, Int.reduceNeg, Nat.reduceLeDiff]
      refine WO_callP rfl hxHE (p35 (sin.ext hx4E) (by omega) (h'.ext hxHE) (by omega) x.foe now) ?_
      rintro v HF hxHF hxEF of1
      have hx4F := hx4E.trans hxEF
      have lF := load_row ((hx4.trans hx4F).row _ _ r1)
      simp (disch := first | omega | assumption | (simp only [zl] <;> omega) | fail) only [k0, k2, k3, k5, k9, k12, k22, lF, eqA, zd, zs, seval, AV.undef, unA, fillA, evParts, repCells, splice, partA, pureStep, memStep, resOf, resAll, resA, nilckA, bne, ↓reduceIte, Nat.reduceEqDiff, reduceCtorEq, Int.reduceToNat, Int.reduceNeg, Nat.reduceLeDiff]
      refine WO_callP rfl hxHF (p36 (h.ext hxHF) (by omega) (h'.ext hxHF) (by omega) x.foe now) ?_
      rintro v HG hxHG hxFG og1
      have hx4G := hx4F.trans hxFG
      have of2 := of1.ext hxFG
      obtain ⟨af1, rfl, sf1⟩ := of2.se
      obtain ⟨ag1, rfl, sg1⟩ := og1.se
      have hfl : (freeM l names x.foe now).length ≤ names.length := List.length_filter_le _ _
      simp (disch := first | omega | assumption | (simp only [zl] <;> omega) | fail) only [k0, k2, k3, k5, k9, k12, k22, eqA, zd, zs, seval, AV.undef, unA, fillA, evParts, repCells, splice, partA, pureStep, memStep, resOf, resAll, resA, nilckA, bne, ↓reduceIte, Nat.reduceEqDiff, reduceCtorEq, Int.reduceToNat, Int.reduceNeg, Nat.reduceLeDiff]
      refine WO_callP rfl hxHG (p34 sf1 sg1 (by omega)) ?_
      rintro v _ _ _ ⟨rfl, rfl⟩
      simp (disch := first | omega | assumption | (simp only [zl] <;> omega) | fail) only [k0, k2, k3, k5, k9, k12, k22, eqA, zd, zs, seval, AV.undef, unA, fillA, evParts, repCells, splice, partA, pureStep, memStep, resOf, resAll, resA, nilckA, bne, ↓reduceIte, Nat.reduceEqDiff, reduceCtorEq, Int.reduceToNat, Int.reduceNeg, Nat.reduceLeDiff]
      refine WO_callP rfl hxHG (p27 (sin.ext hx4G) (h.ext hxHG) (by omega)) ?_
      rintro v _ _ _ ⟨rfl, rfl⟩
      simp (disch := first | omega | assumption | (simp only [zl] <;> omega) | fail) only [k0, k2, k3, k5, k9, k12, k22, eqA, zd, zs, seval, AV.undef, unA, fillA, evParts, repCells, splice, partA, pureStep, memStep, resOf, resAll, resA, nilckA, bne, ↓reduceIte, Nat.reduceEqDiff, reduceCtorEq, Int.reduceToNat, Int.reduceNeg, Nat.reduceLeDiff]
      exact hxHG
    · simp (disch := first | omega | assumption | (simp only [zl] <;> omega) | fail) only [k0, k2, k3, k5, k9, k10, zd, zs, seval, AV.undef, unA, fillA, evParts, repCells, splice, partA, pureStep, memStep, resOf, resAll, resA, nilckA, bne, ↓reduceIte, Nat.reduceEqDiff, reduceCtorEq, Int.reduceToNat, Int.reduceNeg, Nat.reduceLeDiff]
      exact hx1.trans hx3
end Go.Proofs.Qq.Qqd

namespace Go.Proofs.Qq.Qqd
open Go.Proofs.Qq

theorem isFlat_lock {P : Program} {tm ti ts : TypeId} (hf : fieldsOf P tm = some [(0, ts, 1), (1, ti, 1), (2, ti, 1)]) (hn : P.cellsOf tm = 3) (hi : P.underlying ti = some (.int .i64)) (hs : P.underlying ts = some .string) : IsFlat P eLock tm LkW :=
  ⟨hn, fun H cs h => by
    obtain ⟨h1, h2⟩ := ty_fields hf hn h
    match cs, h1 with
    | [x, y, z], _ =>
      obtain ⟨s, e3, l3⟩ := ty_str hs (h2 (0, ts, 1) (by simp))
      obtain ⟨k, e1, w1⟩ := ty_int hi (h2 (1, ti, 1) (by simp))
      obtain ⟨j, e2, w2⟩ := ty_int hi (h2 (2, ti, 1) (by simp))
      simp at e1 e2 e3
      subst e1; subst e2; subst e3
      exact ⟨⟨s, k, j⟩, rfl, I64_of w1, I64_of w2⟩⟩
end Go.Proofs.Qq.Qqd

/- PRINTED BY A PROGRAM (seat.py): the resolved code stands for the loaded code. -/
namespace Go.Proofs.Qq.Qqd
open Go.Proofs.Qq
theorem ok2 : okFun Tryd.prog Tryd.f2 a2 = true := by kernel_rfl
theorem ok3 : okFun Tryd.prog Tryd.f3 a3 = true := by kernel_rfl
theorem ok4 : okFun Tryd.prog Tryd.f4 a4 = true := by kernel_rfl
theorem ok5 : okFun Tryd.prog Tryd.f5 a5 = true := by kernel_rfl
theorem ok6 : okFun Tryd.prog Tryd.f6 a6 = true := by kernel_rfl
theorem ok7 : okFun Tryd.prog Tryd.f7 a7 = true := by kernel_rfl
theorem ok8 : okFun Tryd.prog Tryd.f8 a8 = true := by kernel_rfl
theorem ok9 : okFun Tryd.prog Tryd.f9 a9 = true := by kernel_rfl
theorem ok10 : okFun Tryd.prog Tryd.f10 a10 = true := by kernel_rfl
theorem ok11 : okFun Tryd.prog Tryd.f11 a11 = true := by kernel_rfl
theorem ok12 : okFun Tryd.prog Tryd.f12 a12 = true := by kernel_rfl
theorem ok13 : okFun Tryd.prog Tryd.f13 a13 = true := by kernel_rfl
theorem ok14 : okFun Tryd.prog Tryd.f14 a14 = true := by kernel_rfl
theorem ok15 : okFun Tryd.prog Tryd.f15 a15 = true := by kernel_rfl
theorem ok16 : okFun Tryd.prog Tryd.f16 a16 = true := by kernel_rfl
theorem ok17 : okFun Tryd.prog Tryd.f17 a17 = true := by kernel_rfl
theorem ok18 : okFun Tryd.prog Tryd.f18 a18 = true := by kernel_rfl
theorem ok19 : okFun Tryd.prog Tryd.f19 a19 = true := by kernel_rfl
theorem ok20 : okFun Tryd.prog Tryd.f20 a20 = true := by kernel_rfl
theorem ok21 : okFun Tryd.prog Tryd.f21 a21 = true := by kernel_rfl
theorem ok22 : okFun Tryd.prog Tryd.f22 a22 = true := by kernel_rfl
end Go.Proofs.Qq.Qqd

/- PRINTED BY A PROGRAM (seat.py): the resolved code stands for the loaded code. -/
namespace Go.Proofs.Qq.Qqd
open Go.Proofs.Qq
theorem ok23 : okFun Tryd.prog Tryd.f23 a23 = true := by kernel_rfl
theorem ok24 : okFun Tryd.prog Tryd.f24 a24 = true := by kernel_rfl
theorem ok25 : okFun Tryd.prog Tryd.f25 a25 = true := by kernel_rfl
theorem ok26 : okFun Tryd.prog Tryd.f26 a26 = true := by kernel_rfl
theorem ok27 : okFun Tryd.prog Tryd.f27 a27 = true := by kernel_rfl
theorem ok28 : okFun Tryd.prog Tryd.f28 a28 = true := by kernel_rfl
theorem ok29 : okFun Tryd.prog Tryd.f29 a29 = true := by kernel_rfl
theorem ok30 : okFun Tryd.prog Tryd.f30 a30 = true := by kernel_rfl
theorem ok31 : okFun Tryd.prog Tryd.f31 a31 = true := by kernel_rfl
theorem ok32 : okFun Tryd.prog Tryd.f32 a32 = true := by kernel_rfl
theorem ok33 : okFun Tryd.prog Tryd.f33 a33 = true := by kernel_rfl
theorem ok34 : okFun Tryd.prog Tryd.f34 a34 = true := by kernel_rfl
theorem ok35 : okFun Tryd.prog Tryd.f35 a35 = true := by kernel_rfl
theorem ok36 : okFun Tryd.prog Tryd.f36 a36 = true := by kernel_rfl
theorem ok37 : okFun Tryd.prog Tryd.f37 a37 = true := by kernel_rfl
theorem ok38 : okFun Tryd.prog Tryd.f38 a38 = true := by kernel_rfl
theorem ok39 : okFun Tryd.prog Tryd.f39 a39 = true := by kernel_rfl
theorem ok40 : okFun Tryd.prog Tryd.f40 a40 = true := by kernel_rfl
theorem ok41 : okFun Tryd.prog Tryd.f41 a41 = true := by kernel_rfl
theorem ok42 : okFun Tryd.prog Tryd.f42 a42 = true := by kernel_rfl
theorem ok43 : okFun Tryd.prog Tryd.f43 a43 = true := by kernel_rfl
theorem ok44 : okFun Tryd.prog Tryd.f44 a44 = true := by kernel_rfl
theorem ok45 : okFun Tryd.prog Tryd.f45 a45 = true := by kernel_rfl
theorem ok46 : okFun Tryd.prog Tryd.f46 a46 = true := by kernel_rfl
theorem ok47 : okFun Tryd.prog Tryd.f47 a47 = true := by kernel_rfl
theorem ok48 : okFun Tryd.prog Tryd.f48 a48 = true := by kernel_rfl
theorem ok49 : okFun Tryd.prog Tryd.f49 a49 = true := by kernel_rfl
theorem ok50 : okFun Tryd.prog Tryd.f50 a50 = true := by kernel_rfl
theorem ok51 : okFun Tryd.prog Tryd.f51 a51 = true := by kernel_rfl
theorem ok52 : okFun Tryd.prog Tryd.f52 a52 = true := by kernel_rfl
theorem ok53 : okFun Tryd.prog Tryd.f53 a53 = true := by kernel_rfl
theorem ok54 : okFun Tryd.prog Tryd.f54 a54 = true := by kernel_rfl
theorem ok55 : okFun Tryd.prog Tryd.f55 a55 = true := by kernel_rfl
theorem ok56 : okFun Tryd.prog Tryd.f56 a56 = true := by kernel_rfl
theorem ok57 : okFun Tryd.prog Tryd.f57 a57 = true := by kernel_rfl
theorem ok58 : okFun Tryd.prog Tryd.f58 a58 = true := by kernel_rfl
theorem ok59 : okFun Tryd.prog Tryd.f59 a59 = true := by kernel_rfl
theorem ok60 : okFun Tryd.prog Tryd.f60 a60 = true := by kernel_rfl
theorem ok61 : okFun Tryd.prog Tryd.f61 a61 = true := by kernel_rfl
theorem ok63 : okFun Tryd.prog Tryd.f63 a63 = true := by kernel_rfl
theorem ok64 : okFun Tryd.prog Tryd.f64 a64 = true := by kernel_rfl
theorem ok65 : okFun Tryd.prog Tryd.f65 a65 = true := by kernel_rfl
theorem ok66 : okFun Tryd.prog Tryd.f66 a66 = true := by kernel_rfl
theorem ok67 : okFun Tryd.prog Tryd.f67 a67 = true := by kernel_rfl
theorem ok68 : okFun Tryd.prog Tryd.f68 a68 = true := by kernel_rfl
theorem ok69 : okFun Tryd.prog Tryd.f69 a69 = true := by kernel_rfl
end Go.Proofs.Qq.Qqd

/- PRINTED BY A PROGRAM (seat.py): the resolved code stands for the loaded code. -/
namespace Go.Proofs.Qq.Qqd
open Go.Proofs.Qq
theorem ok70 : okFun Tryd.prog Tryd.f70 a70 = true := by kernel_rfl
theorem ok71 : okFun Tryd.prog Tryd.f71 a71 = true := by kernel_rfl
theorem ok72 : okFun Tryd.prog Tryd.f72 a72 = true := by kernel_rfl
theorem ok73 : okFun Tryd.prog Tryd.f73 a73 = true := by kernel_rfl
theorem ok74 : okFun Tryd.prog Tryd.f74 a74 = true := by kernel_rfl
theorem ok75 : okFun Tryd.prog Tryd.f75 a75 = true := by kernel_rfl
theorem ok76 : okFun Tryd.prog Tryd.f76 a76 = true := by kernel_rfl
theorem ok77 : okFun Tryd.prog Tryd.f77 a77 = true := by kernel_rfl
theorem ok78 : okFun Tryd.prog Tryd.f78 a78 = true := by kernel_rfl
theorem ok79 : okFun Tryd.prog Tryd.f79 a79 = true := by kernel_rfl
theorem ok80 : okFun Tryd.prog Tryd.f80 a80 = true := by kernel_rfl
theorem ok81 : okFun Tryd.prog Tryd.f81 a81 = true := by kernel_rfl
theorem ok82 : okFun Tryd.prog Tryd.f82 a82 = true := by kernel_rfl
theorem ok83 : okFun Tryd.prog Tryd.f83 a83 = true := by kernel_rfl
theorem ok84 : okFun Tryd.prog Tryd.f84 a84 = true := by kernel_rfl
theorem ok85 : okFun Tryd.prog Tryd.f85 a85 = true := by kernel_rfl
theorem ok86 : okFun Tryd.prog Tryd.f86 a86 = true := by kernel_rfl
theorem ok87 : okFun Tryd.prog Tryd.f87 a87 = true := by kernel_rfl
theorem ok88 : okFun Tryd.prog Tryd.f88 a88 = true := by kernel_rfl
theorem ok89 : okFun Tryd.prog Tryd.f89 a89 = true := by kernel_rfl
theorem ok90 : okFun Tryd.prog Tryd.f90 a90 = true := by kernel_rfl
theorem ok91 : okFun Tryd.prog Tryd.f91 a91 = true := by kernel_rfl
theorem ok92 : okFun Tryd.prog Tryd.f92 a92 = true := by kernel_rfl
theorem ok93 : okFun Tryd.prog Tryd.f93 a93 = true := by kernel_rfl
theorem ok94 : okFun Tryd.prog Tryd.f94 a94 = true := by kernel_rfl
theorem ok96 : okFun Tryd.prog Tryd.f96 a96 = true := by kernel_rfl
theorem ok97 : okFun Tryd.prog Tryd.f97 a97 = true := by kernel_rfl
theorem ok98 : okFun Tryd.prog Tryd.f98 a98 = true := by kernel_rfl
theorem ok99 : okFun Tryd.prog Tryd.f99 a99 = true := by kernel_rfl
theorem ok100 : okFun Tryd.prog Tryd.f100 a100 = true := by kernel_rfl
theorem ok101 : okFun Tryd.prog Tryd.f101 a101 = true := by kernel_rfl
theorem ok102 : okFun Tryd.prog Tryd.f102 a102 = true := by kernel_rfl
theorem ok103 : okFun Tryd.prog Tryd.f103 a103 = true := by kernel_rfl
theorem ok104 : okFun Tryd.prog Tryd.f104 a104 = true := by kernel_rfl
theorem ok105 : okFun Tryd.prog Tryd.f105 a105 = true := by kernel_rfl
theorem ok106 : okFun Tryd.prog Tryd.f106 a106 = true := by kernel_rfl
theorem ok107 : okFun Tryd.prog Tryd.f107 a107 = true := by kernel_rfl
theorem ok108 : okFun Tryd.prog Tryd.f108 a108 = true := by kernel_rfl
theorem ok109 : okFun Tryd.prog Tryd.f109 a109 = true := by kernel_rfl
theorem ok110 : okFun Tryd.prog Tryd.f110 a110 = true := by kernel_rfl
theorem ok111 : okFun Tryd.prog Tryd.f111 a111 = true := by kernel_rfl
theorem ok113 : okFun Tryd.prog Tryd.f113 a113 = true := by kernel_rfl
theorem ok114 : okFun Tryd.prog Tryd.f114 a114 = true := by kernel_rfl
theorem ok115 : okFun Tryd.prog Tryd.f115 a115 = true := by kernel_rfl
theorem ok116 : okFun Tryd.prog Tryd.f116 a116 = true := by kernel_rfl
theorem ok117 : okFun Tryd.prog Tryd.f117 a117 = true := by kernel_rfl
theorem ok118 : okFun Tryd.prog Tryd.f118 a118 = true := by kernel_rfl
theorem ok119 : okFun Tryd.prog Tryd.f119 a119 = true := by kernel_rfl
theorem ok120 : okFun Tryd.prog Tryd.f120 a120 = true := by kernel_rfl
theorem ok122 : okFun Tryd.prog Tryd.f122 a122 = true := by kernel_rfl
theorem ok123 : okFun Tryd.prog Tryd.f123 a123 = true := by kernel_rfl
theorem ok126 : okFun Tryd.prog Tryd.f126 a126 = true := by kernel_rfl
theorem ok127 : okFun Tryd.prog Tryd.f127 a127 = true := by kernel_rfl
theorem ok128 : okFun Tryd.prog Tryd.f128 a128 = true := by kernel_rfl
theorem ok129 : okFun Tryd.prog Tryd.f129 a129 = true := by kernel_rfl
theorem ok130 : okFun Tryd.prog Tryd.f130 a130 = true := by kernel_rfl
theorem ok132 : okFun Tryd.prog Tryd.f132 a132 = true := by kernel_rfl
theorem ok133 : okFun Tryd.prog Tryd.f133 a133 = true := by kernel_rfl
end Go.Proofs.Qq.Qqd

namespace Go.Proofs.Qq.Qqd
open Go Go.Proofs Go.RowKit Go.Lib

/-- copy, to a block whose cells are known. -/
theorem run_copy_blk {P : Program} {t u e : TypeId} {size : Nat} (hu : P.underlying t = some (.slice e)) (hsi : sizeIs P e size = true) (w : World) (g o dl dc : Nat) (S : Value) (sl : Nat) (hS : Builtin.lenOf S = pure sl) (news : List Value)
    (hn : (Builtin.firstCells size (min sl dl) S).run P w = .ok news.toArray w) (cur : Array Value) (te : TypeId) (hg : w.heap[g]? = some (.cells cur te (0, 0))) (hfit : o + news.length ≤ cur.size) (h1 : Ones news) (ty : TypeId) :
    (Builtin.copy_ #[t, u] ty #[.slice (some ⟨g, o, none⟩) dl dc, S]).run P w = .ok (goInt ((min sl dl : Nat) : Int)) (w.setRow g (cur.toList.take o ++ news ++ cur.toList.drop (o + news.length)).toArray) := by
  have hst := run_storeCells_at P g o te news 0 cur w hg (by omega) h1
  have hmin : Nat.min sl dl = min sl dl := rfl
  have hst' : (storeCells ⟨g, o, none⟩ news).run P w = .ok () (w.setRow g (cur.toList.take o ++ news ++ cur.toList.drop (o + news.length)).toArray) := by simpa using hst
  simp [Builtin.copy_, run_underlying hu, hS, run_sizeOf' hsi, hmin, hn, goInt, hst']

theorem first_blk {P : Program} (w : World) (size n g o m cap : Nat) (cur : Array Value) (te : TypeId) (fr : Nat × Nat) (hg : w.heap[g]? = some (.cells cur te fr)) (hfit : o + n * size ≤ cur.size) :
    (Builtin.firstCells size n (.slice (some ⟨g, o, none⟩) m cap)).run P w = .ok ((cur.toList.drop o).take (n * size)).toArray w := by
  refine run_firstCells_some w size n ⟨g, o, none⟩ m cap _ (by simp; omega) (fun j v hj => ?_)
  rw [Addr.add_lit, cell_of_row w g (o + j) cur te fr hg]
  rw [List.getElem?_take] at hj
  split at hj
  · rw [List.getElem?_drop] at hj; rw [← hj]; simp
  · cases hj

set_option maxHeartbeats 4000000 in
set_option maxRecDepth 100000 in
/-- slices.Insert at the end: append. -/
theorem ins_end_lock (base : Option Addr) (n c : Nat) (v : Addr) (vc : Nat) (w w' : World) (q : Value) (hnc : n ≤ c) (hn63 : n + 1 ≤ 9223372036854775807)
    (hrun : ∀ ty, (Builtin.append_ #[37, 37] ty #[.slice base n c, .slice (some v) 1 vc]).run Tryd.prog w = .ok q w') :
    Calls Tryd.prog 62 #[.slice base n c, .int .i64 n, .slice (some v) 1 vc] w fun e w2 => e = .returned q ∧ w2 = w' := by
  go_enter Tryd.func62, Tryd.ntmps62
  go_wp2_with (at_builtin; refine Lib.wpList_append_run _ rfl _ _ _ _ rfl _ _ rfl rfl _ _ (hrun _) ?_)
  all_goals
    go_ret
    exact ⟨rfl, rfl⟩

set_option maxHeartbeats 4000000 in
set_option maxRecDepth 100000 in
/-- slices.Insert in place: there is room. -/
theorem ins_room_lock (b n c k vb vc : Nat) (w : World) (B V : Array Value) (tB tV : TypeId) (hk : k < n) (hroom : n + 1 ≤ c) (hn63 : n + 1 ≤ 9223372036854775807) (hvb : vb ≠ b)
    (hB : w.heap[b]? = some (.cells B tB (0, 0))) (hBs : B.size = c * 3) (hV : w.heap[vb]? = some (.cells V tV (0, 0))) (hVs : 3 ≤ V.size) (h1B : Ones (B.toList.take (n * 3))) (h1V : Ones (V.toList.take 3)) :
    Calls Tryd.prog 62 #[.slice (some ⟨b, 0, none⟩) n c, .int .i64 k, .slice (some ⟨vb, 0, none⟩) 1 vc] w fun e w' =>
      e = .returned (.slice (some ⟨b, 0, none⟩) (n + 1) c) ∧ ∃ B1 B2 : Array Value, B1 = (B.toList.take ((k + 1) * 3) ++ ((B.toList.drop (k * 3)).take ((n - k) * 3)) ++ B.toList.drop ((n + 1) * 3)).toArray ∧
        B2 = (B1.toList.take (k * 3) ++ V.toList.take 3 ++ B1.toList.drop ((k + 1) * 3)).toArray ∧ w' = (w.drew.setRow b B1).setRow b B2 := by
  obtain ⟨B1, hB1⟩ : ∃ B1, B1 = (B.toList.take ((k + 1) * 3) ++ ((B.toList.drop (k * 3)).take ((n - k) * 3)) ++ B.toList.drop ((n + 1) * 3)).toArray := ⟨_, rfl⟩
  obtain ⟨B2, hB2⟩ : ∃ B2, B2 = (B1.toList.take (k * 3) ++ V.toList.take 3 ++ B1.toList.drop ((k + 1) * 3)).toArray := ⟨_, rfl⟩
  have hsi : sizeIs Tryd.prog 39 3 = true := by kernel_rfl
  have hov : ∀ lb cb, (callFunc 95 #[.slice (some ⟨vb, 0, none⟩) 1 vc, .slice (some ⟨b, (k + 1) * 3, none⟩) lb cb]).run Tryd.prog w = .ok (.value (.bool false)) w := fun lb cb => by
    rw [run_callFunc_extern Tryd.func95 (by kernel_rfl) (by kernel_rfl) (by kernel_rfl) (e := Extern.SlicesOverlaps.overlaps #[37, 37] #[4]) (by kernel_rfl),
      Lib.run_overlaps_apart w 37 4 39 Tryd.underlying37 3 (fun w => run_sizeOf' hsi w) ⟨vb, 0, none⟩ ⟨b, (k + 1) * 3, none⟩ 1 vc lb cb hvb tV tB V.size B.size (by simp [World.shape?, hV]) (by simp [World.shape?, hB]) (by omega) (by simp [World.frozen?, hV]) (by simp [World.frozen?, hV])]
    rfl
  have hcp1 : ∀ ty dc sc, (Builtin.copy_ #[37, 37] ty #[.slice (some ⟨b, (k + 1) * 3, none⟩) (n - k) dc, .slice (some ⟨b, k * 3, none⟩) (n + 1 - k) sc]).run Tryd.prog w.drew = .ok (goInt ((n - k : Nat) : Int)) (w.drew.setRow b B1) := fun ty dc sc => by
    have h := run_copy_blk (P := Tryd.prog) (u := 37) Tryd.underlying37 hsi w.drew b ((k + 1) * 3) (n - k) dc (.slice (some ⟨b, k * 3, none⟩) (n + 1 - k) sc) (n + 1 - k) rfl ((B.toList.drop (k * 3)).take ((n - k) * 3))
      (by rw [show min (n + 1 - k) (n - k) = n - k by omega]; exact first_blk w.drew 3 (n - k) b (k * 3) _ _ B tB (0, 0) hB (by omega)) B tB hB (by simp; omega) (fun v hv => h1B v (by
        rw [List.take_drop, show k * 3 + (n - k) * 3 = n * 3 by omega] at hv
        exact List.mem_of_mem_drop hv)) ty
    rw [show min (n + 1 - k) (n - k) = n - k by omega] at h
    rw [h, hB1]
    congr 3
    have : (List.take ((n - k) * 3) (List.drop (k * 3) B.toList)).length = (n - k) * 3 := by simp; omega
    rw [this, show (k + 1) * 3 + (n - k) * 3 = (n + 1) * 3 by omega]
  have hcp2 : ∀ ty dc, (Builtin.copy_ #[37, 37] ty #[.slice (some ⟨b, k * 3, none⟩) (n + 1 - k) dc, .slice (some ⟨vb, 0, none⟩) 1 vc]).run Tryd.prog (w.drew.setRow b B1) = .ok (goInt 1) ((w.drew.setRow b B1).setRow b B2) := fun ty dc => by
    have hg1 : (w.drew.setRow b B1).heap[b]? = some (.cells B1 tB (0, 0)) := setRow_heap w.drew b B B1 tB (0, 0) hB
    have hgv : (w.drew.setRow b B1).heap[vb]? = some (.cells V tV (0, 0)) := (setRow_other w.drew b vb B1 hvb).trans hV
    have hs1 : B1.size = B.size := by rw [hB1]; simp; omega
    have h := run_copy_blk (P := Tryd.prog) (u := 37) Tryd.underlying37 hsi (w.drew.setRow b B1) b (k * 3) (n + 1 - k) dc (.slice (some ⟨vb, 0, none⟩) 1 vc) 1 rfl (V.toList.take 3)
      (by rw [show min 1 (n + 1 - k) = 1 by omega]; simpa using first_blk (w.drew.setRow b B1) 3 1 vb 0 1 vc V tV (0, 0) hgv (by omega)) B1 tB hg1 (by simp; omega) h1V ty
    rw [show min 1 (n + 1 - k) = 1 by omega] at h
    rw [h, hB2]
    congr 3
    have : (List.take 3 V.toList).length = 3 := by simp; omega
    rw [this, show k * 3 + 3 = (k + 1) * 3 by omega]
  have hz2 : ¬ ((k : Int) = (n : Int)) := by omega
  have hw1 : IntKind.i64.wrap ((k : Int) + 1) = (k : Int) + 1 := by rw [IntKind.wrap_i64]; omega
  have hb1 : (0 : Int) ≤ (k : Int) + 1 := by omega
  have hin : k ≤ n := by omega
  have htn : ((k : Int) + 1).toNat = k + 1 := by omega
  have hb2 : ¬ (c = k + 1) := by omega
  have hb3 : (k : Int) ≤ (n : Int) + 1 := by omega
  have hb4 : ¬ (c = k) := by omega
  have HB1 := Lib.hid hB1
  have HB2 := Lib.hid hB2
  clear hB1 hB2
  go_enter Tryd.func62, Tryd.ntmps62
  go_wp2_with (simp only [hov])
  go_region_law_o (refine step_copy_runI rfl _ _ 37 37 rfl _ _ (by simp [Act.eval, Act.put]) (by simp [Act.eval, Act.put]) (hcp1 _ _ _) ?_)
  go_wp2_with (at_builtin; refine wpList_copy_runI _ rfl _ _ 37 37 rfl _ _ rfl rfl (hcp2 _ _) ?_)
  go_ret
  exact ⟨rfl, B1, B2, HB1.out, HB2.out, rfl⟩

set_option maxHeartbeats 4000000 in
set_option maxRecDepth 100000 in
/-- slices.Insert, no room: a new block. -/
theorem ins_grow_lock (b n c k vb vc : Nat) (w : World) (B V : Array Value) (tB tV : TypeId) (hk : k < n) (hnc : n ≤ c) (hroom : c < n + 1) (hbig : (n + 1) * 32 ≤ 140737488355328) (hvb : vb ≠ b)
    (hB : w.heap[b]? = some (.cells B tB (0, 0))) (hBs : B.size = c * 3) (hV : w.heap[vb]? = some (.cells V tV (0, 0))) (hVs : 3 ≤ V.size) (h1B : Ones (B.toList.take (n * 3))) (h1V : Ones (V.toList.take 3)) :
    Calls Tryd.prog 62 #[.slice (some ⟨b, 0, none⟩) n c, .int .i64 k, .slice (some ⟨vb, 0, none⟩) 1 vc] w fun e w' =>
      ∃ (G : Nat) (R R1 R2 : Array Value), e = .returned (.slice (some ⟨w.heap.size, 0, none⟩) (n + 1) G) ∧ n + 1 ≤ G ∧ R.size = G * 3 ∧ R.toList.take (k * 3) = B.toList.take (k * 3) ∧
        R1 = (R.toList.take (k * 3) ++ V.toList.take 3 ++ R.toList.drop ((k + 1) * 3)).toArray ∧ R2 = (R1.toList.take ((k + 1) * 3) ++ ((B.toList.drop (k * 3)).take ((n - k) * 3)) ++ R1.toList.drop ((n + 1) * 3)).toArray ∧
        w' = ((((w.alloc (.cells R 39)).drew).setRow w.heap.size R1).drew).setRow w.heap.size R2 := by
  have hsi : sizeIs Tryd.prog 39 3 = true := by kernel_rfl
  obtain ⟨i0, hi0, hz0, hzs, hzb⟩ : ∃ i0, Tryd.prog.info? 39 = some i0 ∧ i0.zero = some (.agg #[.string ⟨#[]⟩, .int .i64 0, .int .i64 0]) ∧ i0.size = 3 ∧ i0.bytes = 32 := ⟨_, rfl, by kernel_rfl, by kernel_rfl, by kernel_rfl⟩
  have hbw : b < w.heap.size := (Array.getElem?_eq_some_iff.1 hB).1
  have hvw : vb < w.heap.size := (Array.getElem?_eq_some_iff.1 hV).1
  have hkk : (n : Int) + 1 - (k : Int) = ((n + 1 - k : Nat) : Int) := by omega
  have hik : k + (n + 1 - k) = n + 1 := by omega
  have hold : (Builtin.firstCells i0.size k (.slice (some ⟨b, 0, none⟩) k c)).run Tryd.prog w.drew = .ok (B.toList.take (k * 3)).toArray w.drew := by
    rw [hzs]
    simpa using first_blk (P := Tryd.prog) w.drew 3 k b 0 k c B tB (0, 0) hB (by omega)
  obtain ⟨G, hG⟩ : ∃ G, G = grownCap w (n + 1) c 39 := ⟨_, rfl⟩
  obtain ⟨R, hR⟩ : ∃ R : Array Value, R = (B.toList.take (k * 3)).toArray ++ Builtin.zeroCells (Value.agg #[.string ⟨#[]⟩, .int .i64 0, .int .i64 0]).cells (n + 1 - k) ++ Builtin.zeroCells (Value.agg #[.string ⟨#[]⟩, .int .i64 0, .int .i64 0]).cells (G - (n + 1)) := ⟨_, rfl⟩
  have hGn : n + 1 ≤ G := by rw [hG]; exact grownCap_ge w _ _ _
  have hG63 : G ≤ 9223372036854775807 := by
    have := grownCap_le_maxLen w (n + 1) c 39 (by unfold maxLen; omega)
    rw [← hG] at this
    unfold maxLen at this
    omega
  have hRs : R.size = G * 3 := by
    rw [hR]
    simp only [Array.size_append, List.size_toArray, zc_len, List.length_take]
    have : (Value.agg #[.string ⟨#[]⟩, .int .i64 0, .int .i64 0]).cells.size = 3 := rfl
    rw [this]; simp; omega
  have hRt : R.toList.take (k * 3) = B.toList.take (k * 3) := by
    rw [hR]
    simp only [Array.toList_append, List.append_assoc]
    exact List.take_left' (by simp; omega)
  have hrz : ∀ ty, (Builtin.append_ #[37, 3] ty #[.slice (some ⟨b, 0, none⟩) k c, .int .i64 ((n : Int) + 1 - (k : Int))]).run Tryd.prog w =
      .ok (.slice (some ⟨w.heap.size, 0, none⟩) (n + 1) G) (w.drew.alloc (.cells R 39)) := fun ty => by
    have h := Lib.run_append_grow_zeros w 37 3 ty 39 i0 _ .i64 .i64 Tryd.underlying37 Tryd.underlying3 hi0 hz0 (some ⟨b, 0, none⟩) k c (B.toList.take (k * 3)) hold (n + 1 - k) (by omega) (by omega) (by omega) (by omega) (by rw [hzb]; omega) (by rw [hzb, hik]; exact growslice_fits hroom hbig)
    rw [hik, ← hG, ← hR] at h
    rw [hkk]
    exact h
  obtain ⟨R1, hR1⟩ : ∃ R1, R1 = (R.toList.take (k * 3) ++ V.toList.take 3 ++ R.toList.drop ((k + 1) * 3)).toArray := ⟨_, rfl⟩
  obtain ⟨R2, hR2⟩ : ∃ R2, R2 = (R1.toList.take ((k + 1) * 3) ++ ((B.toList.drop (k * 3)).take ((n - k) * 3)) ++ R1.toList.drop ((n + 1) * 3)).toArray := ⟨_, rfl⟩
  have hR1s : R1.size = G * 3 := by rw [hR1]; simp; omega
  have hcpA : ∀ (W : World), W.heap[w.heap.size]? = some (.cells R 39 (0, 0)) → W.heap[vb]? = w.heap[vb]? → ∀ ty dc, (Builtin.copy_ #[37, 37] ty #[.slice (some ⟨w.heap.size, k * 3, none⟩) (n + 1 - k) dc, .slice (some ⟨vb, 0, none⟩) 1 vc]).run Tryd.prog W = .ok (goInt ((1 : Nat) : Int)) (W.setRow w.heap.size R1) := fun W h1 h2 ty dc => by
    have h := run_copy_blk (P := Tryd.prog) (u := 37) Tryd.underlying37 hsi W w.heap.size (k * 3) (n + 1 - k) dc (.slice (some ⟨vb, 0, none⟩) 1 vc) 1 rfl (V.toList.take 3)
      (by rw [show min 1 (n + 1 - k) = 1 by omega]; simpa using first_blk (P := Tryd.prog) W 3 1 vb 0 1 vc V tV (0, 0) (h2.trans hV) (by omega)) R 39 h1 (by simp; omega) h1V ty
    rw [show min 1 (n + 1 - k) = 1 by omega] at h
    rw [h, hR1]
    congr 3
    have : (List.take 3 V.toList).length = 3 := by simp; omega
    rw [this, show k * 3 + 3 = (k + 1) * 3 by omega]
  have hcpB : ∀ (W : World), W.heap[w.heap.size]? = some (.cells R1 39 (0, 0)) → W.heap[b]? = w.heap[b]? → ∀ ty dc sc, (Builtin.copy_ #[37, 37] ty #[.slice (some ⟨w.heap.size, (k + 1) * 3, none⟩) (n - k) dc, .slice (some ⟨b, k * 3, none⟩) (n - k) sc]).run Tryd.prog W = .ok (goInt ((n - k : Nat) : Int)) (W.setRow w.heap.size R2) := fun W h1 h2 ty dc sc => by
    have h := run_copy_blk (P := Tryd.prog) (u := 37) Tryd.underlying37 hsi W w.heap.size ((k + 1) * 3) (n - k) dc (.slice (some ⟨b, k * 3, none⟩) (n - k) sc) (n - k) rfl ((B.toList.drop (k * 3)).take ((n - k) * 3))
      (by rw [Nat.min_self]; exact first_blk (P := Tryd.prog) W 3 (n - k) b (k * 3) _ _ B tB (0, 0) (h2.trans hB) (by omega)) R1 39 h1 (by simp; omega) (fun v hv => h1B v (by
        rw [List.take_drop, show k * 3 + (n - k) * 3 = n * 3 by omega] at hv
        exact List.mem_of_mem_drop hv)) ty
    rw [Nat.min_self] at h
    rw [h, hR2]
    congr 3
    have : (List.take ((n - k) * 3) (List.drop (k * 3) B.toList)).length = (n - k) * 3 := by simp; omega
    rw [this, show (k + 1) * 3 + (n - k) * 3 = (n + 1) * 3 by omega]
  have hA1 : ((w.alloc (.cells R 39)).drew).heap[w.heap.size]? = some (.cells R 39 (0, 0)) := heap_alloc_new w _
  have hA2 : ((w.alloc (.cells R 39)).drew).heap[vb]? = w.heap[vb]? := by
    show (w.heap.push _)[vb]? = w.heap[vb]?
    rw [Array.getElem?_push, if_neg (by omega)]
  have hA3 : ((w.alloc (.cells R 39)).drew).heap[b]? = w.heap[b]? := by
    show (w.heap.push _)[b]? = w.heap[b]?
    rw [Array.getElem?_push, if_neg (by omega)]
  have hB1 : ((((w.alloc (.cells R 39)).drew).setRow w.heap.size R1).drew).heap[w.heap.size]? = some (.cells R1 39 (0, 0)) := setRow_heap _ _ _ _ _ _ hA1
  have hB2 : ((((w.alloc (.cells R 39)).drew).setRow w.heap.size R1).drew).heap[b]? = w.heap[b]? := (setRow_other _ _ _ _ (by omega)).trans hA3
  have hz2 : ¬ ((k : Int) = (n : Int)) := by omega
  have hz3 : (c : Int) < (n : Int) + 1 := by omega
  have hw1 : IntKind.i64.wrap ((k : Int) + 1) = (k : Int) + 1 := by rw [IntKind.wrap_i64]; omega
  have hb1 : (0 : Int) ≤ (k : Int) + 1 := by omega
  have hin : k ≤ n := by omega
  have htn : ((k : Int) + 1).toNat = k + 1 := by omega
  have hGi : ¬ (G = k) := by omega
  have hGim : ¬ (G = k + 1) := by omega
  have hci : ¬ (c = k) := by omega
  have hb3 : (k : Int) ≤ (n : Int) := by omega
  have HR1 := Lib.hid hR1
  have HR2 := Lib.hid hR2
  have HRs := Lib.hid hRs
  have HRt := Lib.hid hRt
  clear hR1 hR2 hRs hRt hR hG hkk hik hold hR1s hi0 hz0 hzs hzb hB hV
  go_enter Tryd.func62, Tryd.ntmps62
  go_wp2_with (first
    | (at_builtin; refine Lib.wpList_append_run _ rfl _ _ _ _ rfl _ _ rfl rfl _ _ (hrz _) ?_)
    | (refine wpList_copy_runI (o := ⟨some 45, _, _, _, _, _⟩) _ rfl _ _ 37 37 rfl _ _ rfl rfl (hcpA _ hA1 hA2 _ _) ?_))
  go_region_law_o (refine step_copy_runI rfl _ _ 37 37 rfl (.slice (some ⟨w.heap.size, (k + 1) * 3, none⟩) (n - k) (G - (k + 1))) (.slice (some ⟨b, k * 3, none⟩) (n - k) (c - k)) (by simp [Act.eval, Act.put]) (by simp [Act.eval, Act.put]) (hcpB _ hB1 hB2 3 (G - (k + 1)) (c - k)) ?_)
  go_wp2
  go_ret
  exact ⟨G, R, R1, R2, rfl, hGn, HRs.out, HRt.out, HR1.out, HR2.out, rfl⟩

set_option maxRecDepth 100000 in
theorem ins_sound_lock : PrimSound Tryd.prog 62 (insA 3 32) := by
  have hsi : sizeIs Tryd.prog 39 3 = true := by kernel_rfl
  obtain ⟨i0, hi0, hz0, hzs, hzb⟩ : ∃ i0, Tryd.prog.info? 39 = some i0 ∧ i0.zero = some (.agg #[.string ⟨#[]⟩, .int .i64 0, .int .i64 0]) ∧ i0.size = 3 ∧ i0.bytes = 32 := ⟨_, rfl, by kernel_rfl, by kernel_rfl, by kernel_rfl⟩
  exact ins_sound (t := 37) (e := 39) ⟨_, Tryd.func62, by kernel_rfl, by
    have h : (Tryd.f62.name != "runtime.NumGoroutine") = true := by kernel_rfl
    simpa using h⟩ Tryd.underlying37 hi0 hz0 (by rw [hzs]; rfl) hzs hzb (by decide) (by decide) ins_end_lock ins_room_lock ins_grow_lock

set_option maxHeartbeats 4000000 in
set_option maxRecDepth 100000 in
/-- slices.Insert at the end: append. -/
theorem ins_end_seen (base : Option Addr) (n c : Nat) (v : Addr) (vc : Nat) (w w' : World) (q : Value) (hnc : n ≤ c) (hn63 : n + 1 ≤ 9223372036854775807)
    (hrun : ∀ ty, (Builtin.append_ #[58, 58] ty #[.slice base n c, .slice (some v) 1 vc]).run Tryd.prog w = .ok q w') :
    Calls Tryd.prog 112 #[.slice base n c, .int .i64 n, .slice (some v) 1 vc] w fun e w2 => e = .returned q ∧ w2 = w' := by
  go_enter Tryd.func112, Tryd.ntmps112
  go_wp2_with (at_builtin; refine Lib.wpList_append_run _ rfl _ _ _ _ rfl _ _ rfl rfl _ _ (hrun _) ?_)
  all_goals
    go_ret
    exact ⟨rfl, rfl⟩

set_option maxHeartbeats 4000000 in
set_option maxRecDepth 100000 in
/-- slices.Insert in place: there is room. -/
theorem ins_room_seen (b n c k vb vc : Nat) (w : World) (B V : Array Value) (tB tV : TypeId) (hk : k < n) (hroom : n + 1 ≤ c) (hn63 : n + 1 ≤ 9223372036854775807) (hvb : vb ≠ b)
    (hB : w.heap[b]? = some (.cells B tB (0, 0))) (hBs : B.size = c * 11) (hV : w.heap[vb]? = some (.cells V tV (0, 0))) (hVs : 11 ≤ V.size) (h1B : Ones (B.toList.take (n * 11))) (h1V : Ones (V.toList.take 11)) :
    Calls Tryd.prog 112 #[.slice (some ⟨b, 0, none⟩) n c, .int .i64 k, .slice (some ⟨vb, 0, none⟩) 1 vc] w fun e w' =>
      e = .returned (.slice (some ⟨b, 0, none⟩) (n + 1) c) ∧ ∃ B1 B2 : Array Value, B1 = (B.toList.take ((k + 1) * 11) ++ ((B.toList.drop (k * 11)).take ((n - k) * 11)) ++ B.toList.drop ((n + 1) * 11)).toArray ∧
        B2 = (B1.toList.take (k * 11) ++ V.toList.take 11 ++ B1.toList.drop ((k + 1) * 11)).toArray ∧ w' = (w.drew.setRow b B1).setRow b B2 := by
  obtain ⟨B1, hB1⟩ : ∃ B1, B1 = (B.toList.take ((k + 1) * 11) ++ ((B.toList.drop (k * 11)).take ((n - k) * 11)) ++ B.toList.drop ((n + 1) * 11)).toArray := ⟨_, rfl⟩
  obtain ⟨B2, hB2⟩ : ∃ B2, B2 = (B1.toList.take (k * 11) ++ V.toList.take 11 ++ B1.toList.drop ((k + 1) * 11)).toArray := ⟨_, rfl⟩
  have hsi : sizeIs Tryd.prog 102 11 = true := by kernel_rfl
  have hov : ∀ lb cb, (callFunc 121 #[.slice (some ⟨vb, 0, none⟩) 1 vc, .slice (some ⟨b, (k + 1) * 11, none⟩) lb cb]).run Tryd.prog w = .ok (.value (.bool false)) w := fun lb cb => by
    rw [run_callFunc_extern Tryd.func121 (by kernel_rfl) (by kernel_rfl) (by kernel_rfl) (e := Extern.SlicesOverlaps.overlaps #[58, 58] #[4]) (by kernel_rfl),
      Lib.run_overlaps_apart w 58 4 102 Tryd.underlying58 11 (fun w => run_sizeOf' hsi w) ⟨vb, 0, none⟩ ⟨b, (k + 1) * 11, none⟩ 1 vc lb cb hvb tV tB V.size B.size (by simp [World.shape?, hV]) (by simp [World.shape?, hB]) (by omega) (by simp [World.frozen?, hV]) (by simp [World.frozen?, hV])]
    rfl
  have hcp1 : ∀ ty dc sc, (Builtin.copy_ #[58, 58] ty #[.slice (some ⟨b, (k + 1) * 11, none⟩) (n - k) dc, .slice (some ⟨b, k * 11, none⟩) (n + 1 - k) sc]).run Tryd.prog w.drew = .ok (goInt ((n - k : Nat) : Int)) (w.drew.setRow b B1) := fun ty dc sc => by
    have h := run_copy_blk (P := Tryd.prog) (u := 58) Tryd.underlying58 hsi w.drew b ((k + 1) * 11) (n - k) dc (.slice (some ⟨b, k * 11, none⟩) (n + 1 - k) sc) (n + 1 - k) rfl ((B.toList.drop (k * 11)).take ((n - k) * 11))
      (by rw [show min (n + 1 - k) (n - k) = n - k by omega]; exact first_blk w.drew 11 (n - k) b (k * 11) _ _ B tB (0, 0) hB (by omega)) B tB hB (by simp; omega) (fun v hv => h1B v (by
        rw [List.take_drop, show k * 11 + (n - k) * 11 = n * 11 by omega] at hv
        exact List.mem_of_mem_drop hv)) ty
    rw [show min (n + 1 - k) (n - k) = n - k by omega] at h
    rw [h, hB1]
    congr 3
    have : (List.take ((n - k) * 11) (List.drop (k * 11) B.toList)).length = (n - k) * 11 := by simp; omega
    rw [this, show (k + 1) * 11 + (n - k) * 11 = (n + 1) * 11 by omega]
  have hcp2 : ∀ ty dc, (Builtin.copy_ #[58, 58] ty #[.slice (some ⟨b, k * 11, none⟩) (n + 1 - k) dc, .slice (some ⟨vb, 0, none⟩) 1 vc]).run Tryd.prog (w.drew.setRow b B1) = .ok (goInt 1) ((w.drew.setRow b B1).setRow b B2) := fun ty dc => by
    have hg1 : (w.drew.setRow b B1).heap[b]? = some (.cells B1 tB (0, 0)) := setRow_heap w.drew b B B1 tB (0, 0) hB
    have hgv : (w.drew.setRow b B1).heap[vb]? = some (.cells V tV (0, 0)) := (setRow_other w.drew b vb B1 hvb).trans hV
    have hs1 : B1.size = B.size := by rw [hB1]; simp; omega
    have h := run_copy_blk (P := Tryd.prog) (u := 58) Tryd.underlying58 hsi (w.drew.setRow b B1) b (k * 11) (n + 1 - k) dc (.slice (some ⟨vb, 0, none⟩) 1 vc) 1 rfl (V.toList.take 11)
      (by rw [show min 1 (n + 1 - k) = 1 by omega]; simpa using first_blk (w.drew.setRow b B1) 11 1 vb 0 1 vc V tV (0, 0) hgv (by omega)) B1 tB hg1 (by simp; omega) h1V ty
    rw [show min 1 (n + 1 - k) = 1 by omega] at h
    rw [h, hB2]
    congr 3
    have : (List.take 11 V.toList).length = 11 := by simp; omega
    rw [this, show k * 11 + 11 = (k + 1) * 11 by omega]
  have hz2 : ¬ ((k : Int) = (n : Int)) := by omega
  have hw1 : IntKind.i64.wrap ((k : Int) + 1) = (k : Int) + 1 := by rw [IntKind.wrap_i64]; omega
  have hb1 : (0 : Int) ≤ (k : Int) + 1 := by omega
  have hin : k ≤ n := by omega
  have htn : ((k : Int) + 1).toNat = k + 1 := by omega
  have hb2 : ¬ (c = k + 1) := by omega
  have hb3 : (k : Int) ≤ (n : Int) + 1 := by omega
  have hb4 : ¬ (c = k) := by omega
  have HB1 := Lib.hid hB1
  have HB2 := Lib.hid hB2
  clear hB1 hB2
  go_enter Tryd.func112, Tryd.ntmps112
  go_wp2_with (simp only [hov])
  go_region_law_o (refine step_copy_runI rfl _ _ 58 58 rfl _ _ (by simp [Act.eval, Act.put]) (by simp [Act.eval, Act.put]) (hcp1 _ _ _) ?_)
  go_wp2_with (at_builtin; refine wpList_copy_runI _ rfl _ _ 58 58 rfl _ _ rfl rfl (hcp2 _ _) ?_)
  go_ret
  exact ⟨rfl, B1, B2, HB1.out, HB2.out, rfl⟩

set_option maxHeartbeats 4000000 in
set_option maxRecDepth 100000 in
/-- slices.Insert, no room: a new block. -/
theorem ins_grow_seen (b n c k vb vc : Nat) (w : World) (B V : Array Value) (tB tV : TypeId) (hk : k < n) (hnc : n ≤ c) (hroom : c < n + 1) (hbig : (n + 1) * 96 ≤ 140737488355328) (hvb : vb ≠ b)
    (hB : w.heap[b]? = some (.cells B tB (0, 0))) (hBs : B.size = c * 11) (hV : w.heap[vb]? = some (.cells V tV (0, 0))) (hVs : 11 ≤ V.size) (h1B : Ones (B.toList.take (n * 11))) (h1V : Ones (V.toList.take 11)) :
    Calls Tryd.prog 112 #[.slice (some ⟨b, 0, none⟩) n c, .int .i64 k, .slice (some ⟨vb, 0, none⟩) 1 vc] w fun e w' =>
      ∃ (G : Nat) (R R1 R2 : Array Value), e = .returned (.slice (some ⟨w.heap.size, 0, none⟩) (n + 1) G) ∧ n + 1 ≤ G ∧ R.size = G * 11 ∧ R.toList.take (k * 11) = B.toList.take (k * 11) ∧
        R1 = (R.toList.take (k * 11) ++ V.toList.take 11 ++ R.toList.drop ((k + 1) * 11)).toArray ∧ R2 = (R1.toList.take ((k + 1) * 11) ++ ((B.toList.drop (k * 11)).take ((n - k) * 11)) ++ R1.toList.drop ((n + 1) * 11)).toArray ∧
        w' = ((((w.alloc (.cells R 102)).drew).setRow w.heap.size R1).drew).setRow w.heap.size R2 := by
  have hsi : sizeIs Tryd.prog 102 11 = true := by kernel_rfl
  obtain ⟨i0, hi0, hz0, hzs, hzb⟩ : ∃ i0, Tryd.prog.info? 102 = some i0 ∧ i0.zero = some (.agg #[.int .i64 0, .string ⟨#[]⟩, .int .i64 0, .int .i64 0, .int .i64 0, .int .i64 0, .int .i64 0, .int .i64 0, .int .i64 0, .int .i64 0, .int .i64 0]) ∧ i0.size = 11 ∧ i0.bytes = 96 := ⟨_, rfl, by kernel_rfl, by kernel_rfl, by kernel_rfl⟩
  have hbw : b < w.heap.size := (Array.getElem?_eq_some_iff.1 hB).1
  have hvw : vb < w.heap.size := (Array.getElem?_eq_some_iff.1 hV).1
  have hkk : (n : Int) + 1 - (k : Int) = ((n + 1 - k : Nat) : Int) := by omega
  have hik : k + (n + 1 - k) = n + 1 := by omega
  have hold : (Builtin.firstCells i0.size k (.slice (some ⟨b, 0, none⟩) k c)).run Tryd.prog w.drew = .ok (B.toList.take (k * 11)).toArray w.drew := by
    rw [hzs]
    simpa using first_blk (P := Tryd.prog) w.drew 11 k b 0 k c B tB (0, 0) hB (by omega)
  obtain ⟨G, hG⟩ : ∃ G, G = grownCap w (n + 1) c 102 := ⟨_, rfl⟩
  obtain ⟨R, hR⟩ : ∃ R : Array Value, R = (B.toList.take (k * 11)).toArray ++ Builtin.zeroCells (Value.agg #[.int .i64 0, .string ⟨#[]⟩, .int .i64 0, .int .i64 0, .int .i64 0, .int .i64 0, .int .i64 0, .int .i64 0, .int .i64 0, .int .i64 0, .int .i64 0]).cells (n + 1 - k) ++ Builtin.zeroCells (Value.agg #[.int .i64 0, .string ⟨#[]⟩, .int .i64 0, .int .i64 0, .int .i64 0, .int .i64 0, .int .i64 0, .int .i64 0, .int .i64 0, .int .i64 0, .int .i64 0]).cells (G - (n + 1)) := ⟨_, rfl⟩
  have hGn : n + 1 ≤ G := by rw [hG]; exact grownCap_ge w _ _ _
  have hG63 : G ≤ 9223372036854775807 := by
    have := grownCap_le_maxLen w (n + 1) c 102 (by unfold maxLen; omega)
    rw [← hG] at this
    unfold maxLen at this
    omega
  have hRs : R.size = G * 11 := by
    rw [hR]
    simp only [Array.size_append, List.size_toArray, zc_len, List.length_take]
    have : (Value.agg #[.int .i64 0, .string ⟨#[]⟩, .int .i64 0, .int .i64 0, .int .i64 0, .int .i64 0, .int .i64 0, .int .i64 0, .int .i64 0, .int .i64 0, .int .i64 0]).cells.size = 11 := rfl
    rw [this]; simp; omega
  have hRt : R.toList.take (k * 11) = B.toList.take (k * 11) := by
    rw [hR]
    simp only [Array.toList_append, List.append_assoc]
    exact List.take_left' (by simp; omega)
  have hrz : ∀ ty, (Builtin.append_ #[58, 3] ty #[.slice (some ⟨b, 0, none⟩) k c, .int .i64 ((n : Int) + 1 - (k : Int))]).run Tryd.prog w =
      .ok (.slice (some ⟨w.heap.size, 0, none⟩) (n + 1) G) (w.drew.alloc (.cells R 102)) := fun ty => by
    have h := Lib.run_append_grow_zeros w 58 3 ty 102 i0 _ .i64 .i64 Tryd.underlying58 Tryd.underlying3 hi0 hz0 (some ⟨b, 0, none⟩) k c (B.toList.take (k * 11)) hold (n + 1 - k) (by omega) (by omega) (by omega) (by omega) (by rw [hzb]; omega) (by rw [hzb, hik]; exact growslice_fits hroom hbig)
    rw [hik, ← hG, ← hR] at h
    rw [hkk]
    exact h
  obtain ⟨R1, hR1⟩ : ∃ R1, R1 = (R.toList.take (k * 11) ++ V.toList.take 11 ++ R.toList.drop ((k + 1) * 11)).toArray := ⟨_, rfl⟩
  obtain ⟨R2, hR2⟩ : ∃ R2, R2 = (R1.toList.take ((k + 1) * 11) ++ ((B.toList.drop (k * 11)).take ((n - k) * 11)) ++ R1.toList.drop ((n + 1) * 11)).toArray := ⟨_, rfl⟩
  have hR1s : R1.size = G * 11 := by rw [hR1]; simp; omega
  have hcpA : ∀ (W : World), W.heap[w.heap.size]? = some (.cells R 102 (0, 0)) → W.heap[vb]? = w.heap[vb]? → ∀ ty dc, (Builtin.copy_ #[58, 58] ty #[.slice (some ⟨w.heap.size, k * 11, none⟩) (n + 1 - k) dc, .slice (some ⟨vb, 0, none⟩) 1 vc]).run Tryd.prog W = .ok (goInt ((1 : Nat) : Int)) (W.setRow w.heap.size R1) := fun W h1 h2 ty dc => by
    have h := run_copy_blk (P := Tryd.prog) (u := 58) Tryd.underlying58 hsi W w.heap.size (k * 11) (n + 1 - k) dc (.slice (some ⟨vb, 0, none⟩) 1 vc) 1 rfl (V.toList.take 11)
      (by rw [show min 1 (n + 1 - k) = 1 by omega]; simpa using first_blk (P := Tryd.prog) W 11 1 vb 0 1 vc V tV (0, 0) (h2.trans hV) (by omega)) R 102 h1 (by simp; omega) h1V ty
    rw [show min 1 (n + 1 - k) = 1 by omega] at h
    rw [h, hR1]
    congr 3
    have : (List.take 11 V.toList).length = 11 := by simp; omega
    rw [this, show k * 11 + 11 = (k + 1) * 11 by omega]
  have hcpB : ∀ (W : World), W.heap[w.heap.size]? = some (.cells R1 102 (0, 0)) → W.heap[b]? = w.heap[b]? → ∀ ty dc sc, (Builtin.copy_ #[58, 58] ty #[.slice (some ⟨w.heap.size, (k + 1) * 11, none⟩) (n - k) dc, .slice (some ⟨b, k * 11, none⟩) (n - k) sc]).run Tryd.prog W = .ok (goInt ((n - k : Nat) : Int)) (W.setRow w.heap.size R2) := fun W h1 h2 ty dc sc => by
    have h := run_copy_blk (P := Tryd.prog) (u := 58) Tryd.underlying58 hsi W w.heap.size ((k + 1) * 11) (n - k) dc (.slice (some ⟨b, k * 11, none⟩) (n - k) sc) (n - k) rfl ((B.toList.drop (k * 11)).take ((n - k) * 11))
      (by rw [Nat.min_self]; exact first_blk (P := Tryd.prog) W 11 (n - k) b (k * 11) _ _ B tB (0, 0) (h2.trans hB) (by omega)) R1 102 h1 (by simp; omega) (fun v hv => h1B v (by
        rw [List.take_drop, show k * 11 + (n - k) * 11 = n * 11 by omega] at hv
        exact List.mem_of_mem_drop hv)) ty
    rw [Nat.min_self] at h
    rw [h, hR2]
    congr 3
    have : (List.take ((n - k) * 11) (List.drop (k * 11) B.toList)).length = (n - k) * 11 := by simp; omega
    rw [this, show (k + 1) * 11 + (n - k) * 11 = (n + 1) * 11 by omega]
  have hA1 : ((w.alloc (.cells R 102)).drew).heap[w.heap.size]? = some (.cells R 102 (0, 0)) := heap_alloc_new w _
  have hA2 : ((w.alloc (.cells R 102)).drew).heap[vb]? = w.heap[vb]? := by
    show (w.heap.push _)[vb]? = w.heap[vb]?
    rw [Array.getElem?_push, if_neg (by omega)]
  have hA3 : ((w.alloc (.cells R 102)).drew).heap[b]? = w.heap[b]? := by
    show (w.heap.push _)[b]? = w.heap[b]?
    rw [Array.getElem?_push, if_neg (by omega)]
  have hB1 : ((((w.alloc (.cells R 102)).drew).setRow w.heap.size R1).drew).heap[w.heap.size]? = some (.cells R1 102 (0, 0)) := setRow_heap _ _ _ _ _ _ hA1
  have hB2 : ((((w.alloc (.cells R 102)).drew).setRow w.heap.size R1).drew).heap[b]? = w.heap[b]? := (setRow_other _ _ _ _ (by omega)).trans hA3
  have hz2 : ¬ ((k : Int) = (n : Int)) := by omega
  have hz3 : (c : Int) < (n : Int) + 1 := by omega
  have hw1 : IntKind.i64.wrap ((k : Int) + 1) = (k : Int) + 1 := by rw [IntKind.wrap_i64]; omega
  have hb1 : (0 : Int) ≤ (k : Int) + 1 := by omega
  have hin : k ≤ n := by omega
  have htn : ((k : Int) + 1).toNat = k + 1 := by omega
  have hGi : ¬ (G = k) := by omega
  have hGim : ¬ (G = k + 1) := by omega
  have hci : ¬ (c = k) := by omega
  have hb3 : (k : Int) ≤ (n : Int) := by omega
  have HR1 := Lib.hid hR1
  have HR2 := Lib.hid hR2
  have HRs := Lib.hid hRs
  have HRt := Lib.hid hRt
  clear hR1 hR2 hRs hRt hR hG hkk hik hold hR1s hi0 hz0 hzs hzb hB hV
  go_enter Tryd.func112, Tryd.ntmps112
  go_wp2_with (first
    | (at_builtin; refine Lib.wpList_append_run _ rfl _ _ _ _ rfl _ _ rfl rfl _ _ (hrz _) ?_)
    | (refine wpList_copy_runI (o := ⟨some 45, _, _, _, _, _⟩) _ rfl _ _ 58 58 rfl _ _ rfl rfl (hcpA _ hA1 hA2 _ _) ?_))
  go_region_law_o (refine step_copy_runI rfl _ _ 58 58 rfl (.slice (some ⟨w.heap.size, (k + 1) * 11, none⟩) (n - k) (G - (k + 1))) (.slice (some ⟨b, k * 11, none⟩) (n - k) (c - k)) (by simp [Act.eval, Act.put]) (by simp [Act.eval, Act.put]) (hcpB _ hB1 hB2 3 (G - (k + 1)) (c - k)) ?_)
  go_wp2
  go_ret
  exact ⟨G, R, R1, R2, rfl, hGn, HRs.out, HRt.out, HR1.out, HR2.out, rfl⟩

set_option maxRecDepth 100000 in
theorem ins_sound_seen : PrimSound Tryd.prog 112 (insA 11 96) := by
  have hsi : sizeIs Tryd.prog 102 11 = true := by kernel_rfl
  obtain ⟨i0, hi0, hz0, hzs, hzb⟩ : ∃ i0, Tryd.prog.info? 102 = some i0 ∧ i0.zero = some (.agg #[.int .i64 0, .string ⟨#[]⟩, .int .i64 0, .int .i64 0, .int .i64 0, .int .i64 0, .int .i64 0, .int .i64 0, .int .i64 0, .int .i64 0, .int .i64 0]) ∧ i0.size = 11 ∧ i0.bytes = 96 := ⟨_, rfl, by kernel_rfl, by kernel_rfl, by kernel_rfl⟩
  exact ins_sound (t := 58) (e := 102) ⟨_, Tryd.func112, by kernel_rfl, by
    have h : (Tryd.f112.name != "runtime.NumGoroutine") = true := by kernel_rfl
    simpa using h⟩ Tryd.underlying58 hi0 hz0 (by rw [hzs]; rfl) hzs hzb (by decide) (by decide) ins_end_seen ins_room_seen ins_grow_seen


end Go.Proofs.Qq.Qqd

/- PRINTED BY A PROGRAM (seat.py): the table stands for the loaded functions; the closed calls. -/
namespace Go.Proofs.Qq.Qqd
open Go.Proofs.Qq
theorem okTab : OkFrom Tryd.prog 0 (tab prims) :=
  ⟨trivial,
   trivial,
   ⟨_, Tryd.func2, ok2⟩,
   ⟨_, Tryd.func3, ok3⟩,
   ⟨_, Tryd.func4, ok4⟩,
   ⟨_, Tryd.func5, ok5⟩,
   ⟨_, Tryd.func6, ok6⟩,
   ⟨_, Tryd.func7, ok7⟩,
   ⟨_, Tryd.func8, ok8⟩,
   ⟨_, Tryd.func9, ok9⟩,
   ⟨_, Tryd.func10, ok10⟩,
   ⟨_, Tryd.func11, ok11⟩,
   ⟨_, Tryd.func12, ok12⟩,
   ⟨_, Tryd.func13, ok13⟩,
   ⟨_, Tryd.func14, ok14⟩,
   ⟨_, Tryd.func15, ok15⟩,
   ⟨_, Tryd.func16, ok16⟩,
   ⟨_, Tryd.func17, ok17⟩,
   ⟨_, Tryd.func18, ok18⟩,
   ⟨_, Tryd.func19, ok19⟩,
   ⟨_, Tryd.func20, ok20⟩,
   ⟨_, Tryd.func21, ok21⟩,
   ⟨_, Tryd.func22, ok22⟩,
   ⟨_, Tryd.func23, ok23⟩,
   ⟨_, Tryd.func24, ok24⟩,
   ⟨_, Tryd.func25, ok25⟩,
   ⟨_, Tryd.func26, ok26⟩,
   ⟨_, Tryd.func27, ok27⟩,
   ⟨_, Tryd.func28, ok28⟩,
   ⟨_, Tryd.func29, ok29⟩,
   ⟨_, Tryd.func30, ok30⟩,
   ⟨_, Tryd.func31, ok31⟩,
   ⟨_, Tryd.func32, ok32⟩,
   ⟨_, Tryd.func33, ok33⟩,
   ⟨_, Tryd.func34, ok34⟩,
   ⟨_, Tryd.func35, ok35⟩,
   ⟨_, Tryd.func36, ok36⟩,
   ⟨_, Tryd.func37, ok37⟩,
   ⟨_, Tryd.func38, ok38⟩,
   ⟨_, Tryd.func39, ok39⟩,
   ⟨_, Tryd.func40, ok40⟩,
   ⟨_, Tryd.func41, ok41⟩,
   ⟨_, Tryd.func42, ok42⟩,
   ⟨_, Tryd.func43, ok43⟩,
   ⟨_, Tryd.func44, ok44⟩,
   ⟨_, Tryd.func45, ok45⟩,
   ⟨_, Tryd.func46, ok46⟩,
   ⟨_, Tryd.func47, ok47⟩,
   ⟨_, Tryd.func48, ok48⟩,
   ⟨_, Tryd.func49, ok49⟩,
   ⟨_, Tryd.func50, ok50⟩,
   ⟨_, Tryd.func51, ok51⟩,
   ⟨_, Tryd.func52, ok52⟩,
   ⟨_, Tryd.func53, ok53⟩,
   ⟨_, Tryd.func54, ok54⟩,
   ⟨_, Tryd.func55, ok55⟩,
   ⟨_, Tryd.func56, ok56⟩,
   ⟨_, Tryd.func57, ok57⟩,
   ⟨_, Tryd.func58, ok58⟩,
   ⟨_, Tryd.func59, ok59⟩,
   ⟨_, Tryd.func60, ok60⟩,
   ⟨_, Tryd.func61, ok61⟩,
   ins_sound_lock,
   ⟨_, Tryd.func63, ok63⟩,
   ⟨_, Tryd.func64, ok64⟩,
   ⟨_, Tryd.func65, ok65⟩,
   ⟨_, Tryd.func66, ok66⟩,
   ⟨_, Tryd.func67, ok67⟩,
   ⟨_, Tryd.func68, ok68⟩,
   ⟨_, Tryd.func69, ok69⟩,
   ⟨_, Tryd.func70, ok70⟩,
   ⟨_, Tryd.func71, ok71⟩,
   ⟨_, Tryd.func72, ok72⟩,
   ⟨_, Tryd.func73, ok73⟩,
   ⟨_, Tryd.func74, ok74⟩,
   ⟨_, Tryd.func75, ok75⟩,
   ⟨_, Tryd.func76, ok76⟩,
   ⟨_, Tryd.func77, ok77⟩,
   ⟨_, Tryd.func78, ok78⟩,
   ⟨_, Tryd.func79, ok79⟩,
   ⟨_, Tryd.func80, ok80⟩,
   ⟨_, Tryd.func81, ok81⟩,
   ⟨_, Tryd.func82, ok82⟩,
   ⟨_, Tryd.func83, ok83⟩,
   ⟨_, Tryd.func84, ok84⟩,
   ⟨_, Tryd.func85, ok85⟩,
   ⟨_, Tryd.func86, ok86⟩,
   ⟨_, Tryd.func87, ok87⟩,
   ⟨_, Tryd.func88, ok88⟩,
   ⟨_, Tryd.func89, ok89⟩,
   ⟨_, Tryd.func90, ok90⟩,
   ⟨_, Tryd.func91, ok91⟩,
   ⟨_, Tryd.func92, ok92⟩,
   ⟨_, Tryd.func93, ok93⟩,
   ⟨_, Tryd.func94, ok94⟩,
   trivial,
   ⟨_, Tryd.func96, ok96⟩,
   ⟨_, Tryd.func97, ok97⟩,
   ⟨_, Tryd.func98, ok98⟩,
   ⟨_, Tryd.func99, ok99⟩,
   ⟨_, Tryd.func100, ok100⟩,
   ⟨_, Tryd.func101, ok101⟩,
   ⟨_, Tryd.func102, ok102⟩,
   ⟨_, Tryd.func103, ok103⟩,
   ⟨_, Tryd.func104, ok104⟩,
   ⟨_, Tryd.func105, ok105⟩,
   ⟨_, Tryd.func106, ok106⟩,
   ⟨_, Tryd.func107, ok107⟩,
   ⟨_, Tryd.func108, ok108⟩,
   ⟨_, Tryd.func109, ok109⟩,
   ⟨_, Tryd.func110, ok110⟩,
   ⟨_, Tryd.func111, ok111⟩,
   ins_sound_seen,
   ⟨_, Tryd.func113, ok113⟩,
   ⟨_, Tryd.func114, ok114⟩,
   ⟨_, Tryd.func115, ok115⟩,
   ⟨_, Tryd.func116, ok116⟩,
   ⟨_, Tryd.func117, ok117⟩,
   ⟨_, Tryd.func118, ok118⟩,
   ⟨_, Tryd.func119, ok119⟩,
   ⟨_, Tryd.func120, ok120⟩,
   trivial,
   ⟨_, Tryd.func122, ok122⟩,
   ⟨_, Tryd.func123, ok123⟩,
   trivial,
   trivial,
   ⟨_, Tryd.func126, ok126⟩,
   ⟨_, Tryd.func127, ok127⟩,
   ⟨_, Tryd.func128, ok128⟩,
   ⟨_, Tryd.func129, ok129⟩,
   ⟨_, Tryd.func130, ok130⟩,
   trivial,
   ⟨_, Tryd.func132, ok132⟩,
   ⟨_, Tryd.func133, ok133⟩, trivial⟩
theorem mixed : Tryd.prog.follows .mixedOrders = true := by kernel_rfl
theorem closed11 : isTrueRes (aCall (tabT (tab prims)) 400 11 [] []) = true := by kernel_rfl
theorem closed20 : isTrueRes (aCall (tabT (tab prims)) 400 20 [] []) = true := by kernel_rfl
theorem closed42 : isTrueRes (aCall (tabT (tab prims)) 400 42 [] []) = true := by kernel_rfl
theorem tabOk : TableOk Tryd.prog T := ovr_ok mixed (tableOk_of okTab) (fun f hf => by
  simp only [closed, List.mem_cons, List.not_mem_nil, or_false] at hf
  rcases hf with rfl | rfl | rfl
  · exact ⟨_, closed11⟩
  · exact ⟨_, closed20⟩
  · exact ⟨_, closed42⟩
  )
end Go.Proofs.Qq.Qqd

