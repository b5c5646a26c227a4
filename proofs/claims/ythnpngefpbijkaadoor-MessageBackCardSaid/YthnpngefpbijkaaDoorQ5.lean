/-
  Part of the proof: the abstract machine, its soundness, contracts of functions.
-/
import Derived.Test.YthnpngefpbijkaaDoorQ2
import Derived.Test.YthnpngefpbijkaaDoorQ4
import Derived.Test.YthnpngefpbijkaaDoorQ1
set_option linter.all false
namespace Go.Proofs.Qq.Qqd
open Go.Proofs.Qq

/-- The calls on nothing that a law begins with. -/
abbrev closed : List Nat := [11]
abbrev T := ovr (tab prims) closed

/-- How many numbers a message of a kind has. -/
def msgSize (k : Int) : Int × Bool :=
  if k = 3 then (0, true) else if k = 10 then (0, true) else if k = 2 then (1, true) else if k = 5 then (1, true) else if k = 1 then (2, true) else if k = 9 then (2, true)
  else if k = 6 then (3, true) else if k = 8 then (3, true) else if k = 7 then (5, true) else if k = 4 then (10, true) else (0, false)

set_option maxHeartbeats 4000000 in
/-- barrowref12.Size -/
theorem run52 (k : Int) (H : AHeap) (Q : AV → AHeap → Nat → Prop) (h : Q (.tup [.int .i64 (msgSize k).1, .bool (msgSize k).2]) H H.length) : WF T 52 [.int .i64 k] H Q := by
  refine (WF_code (fn := a52) rfl _ _ _).2 ?_
  by_cases h3 : k = 3
  · subst h3; simp only [a52, AV.undef, unA, qs, qb, qe, qi, qp, qm, qh, set_newRow_at, Int.reduceToNat, Nat.reduceMul, List.getElem?_cons_succ, List.getElem?_cons_zero, false_implies, true_implies, forall_const, implies_true, set_newRow_lt, Nat.lt_add_one, Nat.min_eq_left, Nat.le_add_right, qc, fillA, evParts, repCells, wrRow_eq, splice, partA, List.length_cons, List.length_nil, List.take_succ_cons, List.take_zero, List.drop_succ_cons, List.drop_zero, List.cons_append, Option.bind_some, Nat.add_zero, Nat.zero_add, List.drop_nil, List.take_nil, Nat.le_refl, Nat.min_self, WO_pure, WO_mem, pureStep, memStep, WC_true, WC_false, WO_guardq, qg, retQ, resOf, resAll, resA, wp_some, kv_ite, km_ite, kv_none, ↓reduceIte, Nat.reduceEqDiff, reduceCtorEq, decide_true, decide_false, Bool.not_true, Bool.not_false, List.map_cons, List.map_nil, List.nil_append, List.append_nil, Option.map_some, Option.map_none, if_true, if_false, true_and, and_true, Int.reduceEq, Int.reduceLT, Int.reduceLE, Int.reduceNeg, Nat.reduceAdd, Nat.reduceLeDiff, Bool.true_eq_false, Bool.false_eq_true, beq_self_eq_true]; exact h
  by_cases h10 : k = 10
  · subst h10; simp only [a52, AV.undef, unA, qs, qb, qe, qi, qp, qm, qh, set_newRow_at, Int.reduceToNat, Nat.reduceMul, List.getElem?_cons_succ, List.getElem?_cons_zero, false_implies, true_implies, forall_const, implies_true, set_newRow_lt, Nat.lt_add_one, Nat.min_eq_left, Nat.le_add_right, qc, fillA, evParts, repCells, wrRow_eq, splice, partA, List.length_cons, List.length_nil, List.take_succ_cons, List.take_zero, List.drop_succ_cons, List.drop_zero, List.cons_append, Option.bind_some, Nat.add_zero, Nat.zero_add, List.drop_nil, List.take_nil, Nat.le_refl, Nat.min_self, WO_pure, WO_mem, pureStep, memStep, WC_true, WC_false, WO_guardq, qg, retQ, resOf, resAll, resA, wp_some, kv_ite, km_ite, kv_none, ↓reduceIte, Nat.reduceEqDiff, reduceCtorEq, decide_true, decide_false, Bool.not_true, Bool.not_false, List.map_cons, List.map_nil, List.nil_append, List.append_nil, Option.map_some, Option.map_none, if_true, if_false, true_and, and_true, Int.reduceEq, Int.reduceLT, Int.reduceLE, Int.reduceNeg, Nat.reduceAdd, Nat.reduceLeDiff, Bool.true_eq_false, Bool.false_eq_true, beq_self_eq_true]; exact h
  by_cases h2 : k = 2
  · subst h2; simp only [a52, AV.undef, unA, qs, qb, qe, qi, qp, qm, qh, set_newRow_at, Int.reduceToNat, Nat.reduceMul, List.getElem?_cons_succ, List.getElem?_cons_zero, false_implies, true_implies, forall_const, implies_true, set_newRow_lt, Nat.lt_add_one, Nat.min_eq_left, Nat.le_add_right, qc, fillA, evParts, repCells, wrRow_eq, splice, partA, List.length_cons, List.length_nil, List.take_succ_cons, List.take_zero, List.drop_succ_cons, List.drop_zero, List.cons_append, Option.bind_some, Nat.add_zero, Nat.zero_add, List.drop_nil, List.take_nil, Nat.le_refl, Nat.min_self, WO_pure, WO_mem, pureStep, memStep, WC_true, WC_false, WO_guardq, qg, retQ, resOf, resAll, resA, wp_some, kv_ite, km_ite, kv_none, ↓reduceIte, Nat.reduceEqDiff, reduceCtorEq, decide_true, decide_false, Bool.not_true, Bool.not_false, List.map_cons, List.map_nil, List.nil_append, List.append_nil, Option.map_some, Option.map_none, if_true, if_false, true_and, and_true, Int.reduceEq, Int.reduceLT, Int.reduceLE, Int.reduceNeg, Nat.reduceAdd, Nat.reduceLeDiff, Bool.true_eq_false, Bool.false_eq_true, beq_self_eq_true]; exact h
  by_cases h5 : k = 5
  · subst h5; simp only [a52, AV.undef, unA, qs, qb, qe, qi, qp, qm, qh, set_newRow_at, Int.reduceToNat, Nat.reduceMul, List.getElem?_cons_succ, List.getElem?_cons_zero, false_implies, true_implies, forall_const, implies_true, set_newRow_lt, Nat.lt_add_one, Nat.min_eq_left, Nat.le_add_right, qc, fillA, evParts, repCells, wrRow_eq, splice, partA, List.length_cons, List.length_nil, List.take_succ_cons, List.take_zero, List.drop_succ_cons, List.drop_zero, List.cons_append, Option.bind_some, Nat.add_zero, Nat.zero_add, List.drop_nil, List.take_nil, Nat.le_refl, Nat.min_self, WO_pure, WO_mem, pureStep, memStep, WC_true, WC_false, WO_guardq, qg, retQ, resOf, resAll, resA, wp_some, kv_ite, km_ite, kv_none, ↓reduceIte, Nat.reduceEqDiff, reduceCtorEq, decide_true, decide_false, Bool.not_true, Bool.not_false, List.map_cons, List.map_nil, List.nil_append, List.append_nil, Option.map_some, Option.map_none, if_true, if_false, true_and, and_true, Int.reduceEq, Int.reduceLT, Int.reduceLE, Int.reduceNeg, Nat.reduceAdd, Nat.reduceLeDiff, Bool.true_eq_false, Bool.false_eq_true, beq_self_eq_true]; exact h
  by_cases h1 : k = 1
  · subst h1; simp only [a52, AV.undef, unA, qs, qb, qe, qi, qp, qm, qh, set_newRow_at, Int.reduceToNat, Nat.reduceMul, List.getElem?_cons_succ, List.getElem?_cons_zero, false_implies, true_implies, forall_const, implies_true, set_newRow_lt, Nat.lt_add_one, Nat.min_eq_left, Nat.le_add_right, qc, fillA, evParts, repCells, wrRow_eq, splice, partA, List.length_cons, List.length_nil, List.take_succ_cons, List.take_zero, List.drop_succ_cons, List.drop_zero, List.cons_append, Option.bind_some, Nat.add_zero, Nat.zero_add, List.drop_nil, List.take_nil, Nat.le_refl, Nat.min_self, WO_pure, WO_mem, pureStep, memStep, WC_true, WC_false, WO_guardq, qg, retQ, resOf, resAll, resA, wp_some, kv_ite, km_ite, kv_none, ↓reduceIte, Nat.reduceEqDiff, reduceCtorEq, decide_true, decide_false, Bool.not_true, Bool.not_false, List.map_cons, List.map_nil, List.nil_append, List.append_nil, Option.map_some, Option.map_none, if_true, if_false, true_and, and_true, Int.reduceEq, Int.reduceLT, Int.reduceLE, Int.reduceNeg, Nat.reduceAdd, Nat.reduceLeDiff, Bool.true_eq_false, Bool.false_eq_true, beq_self_eq_true]; exact h
  by_cases h9 : k = 9
  · subst h9; simp only [a52, AV.undef, unA, qs, qb, qe, qi, qp, qm, qh, set_newRow_at, Int.reduceToNat, Nat.reduceMul, List.getElem?_cons_succ, List.getElem?_cons_zero, false_implies, true_implies, forall_const, implies_true, set_newRow_lt, Nat.lt_add_one, Nat.min_eq_left, Nat.le_add_right, qc, fillA, evParts, repCells, wrRow_eq, splice, partA, List.length_cons, List.length_nil, List.take_succ_cons, List.take_zero, List.drop_succ_cons, List.drop_zero, List.cons_append, Option.bind_some, Nat.add_zero, Nat.zero_add, List.drop_nil, List.take_nil, Nat.le_refl, Nat.min_self, WO_pure, WO_mem, pureStep, memStep, WC_true, WC_false, WO_guardq, qg, retQ, resOf, resAll, resA, wp_some, kv_ite, km_ite, kv_none, ↓reduceIte, Nat.reduceEqDiff, reduceCtorEq, decide_true, decide_false, Bool.not_true, Bool.not_false, List.map_cons, List.map_nil, List.nil_append, List.append_nil, Option.map_some, Option.map_none, if_true, if_false, true_and, and_true, Int.reduceEq, Int.reduceLT, Int.reduceLE, Int.reduceNeg, Nat.reduceAdd, Nat.reduceLeDiff, Bool.true_eq_false, Bool.false_eq_true, beq_self_eq_true]; exact h
  by_cases h6 : k = 6
  · subst h6; simp only [a52, AV.undef, unA, qs, qb, qe, qi, qp, qm, qh, set_newRow_at, Int.reduceToNat, Nat.reduceMul, List.getElem?_cons_succ, List.getElem?_cons_zero, false_implies, true_implies, forall_const, implies_true, set_newRow_lt, Nat.lt_add_one, Nat.min_eq_left, Nat.le_add_right, qc, fillA, evParts, repCells, wrRow_eq, splice, partA, List.length_cons, List.length_nil, List.take_succ_cons, List.take_zero, List.drop_succ_cons, List.drop_zero, List.cons_append, Option.bind_some, Nat.add_zero, Nat.zero_add, List.drop_nil, List.take_nil, Nat.le_refl, Nat.min_self, WO_pure, WO_mem, pureStep, memStep, WC_true, WC_false, WO_guardq, qg, retQ, resOf, resAll, resA, wp_some, kv_ite, km_ite, kv_none, ↓reduceIte, Nat.reduceEqDiff, reduceCtorEq, decide_true, decide_false, Bool.not_true, Bool.not_false, List.map_cons, List.map_nil, List.nil_append, List.append_nil, Option.map_some, Option.map_none, if_true, if_false, true_and, and_true, Int.reduceEq, Int.reduceLT, Int.reduceLE, Int.reduceNeg, Nat.reduceAdd, Nat.reduceLeDiff, Bool.true_eq_false, Bool.false_eq_true, beq_self_eq_true]; exact h
  by_cases h8 : k = 8
  · subst h8; simp only [a52, AV.undef, unA, qs, qb, qe, qi, qp, qm, qh, set_newRow_at, Int.reduceToNat, Nat.reduceMul, List.getElem?_cons_succ, List.getElem?_cons_zero, false_implies, true_implies, forall_const, implies_true, set_newRow_lt, Nat.lt_add_one, Nat.min_eq_left, Nat.le_add_right, qc, fillA, evParts, repCells, wrRow_eq, splice, partA, List.length_cons, List.length_nil, List.take_succ_cons, List.take_zero, List.drop_succ_cons, List.drop_zero, List.cons_append, Option.bind_some, Nat.add_zero, Nat.zero_add, List.drop_nil, List.take_nil, Nat.le_refl, Nat.min_self, WO_pure, WO_mem, pureStep, memStep, WC_true, WC_false, WO_guardq, qg, retQ, resOf, resAll, resA, wp_some, kv_ite, km_ite, kv_none, ↓reduceIte, Nat.reduceEqDiff, reduceCtorEq, decide_true, decide_false, Bool.not_true, Bool.not_false, List.map_cons, List.map_nil, List.nil_append, List.append_nil, Option.map_some, Option.map_none, if_true, if_false, true_and, and_true, Int.reduceEq, Int.reduceLT, Int.reduceLE, Int.reduceNeg, Nat.reduceAdd, Nat.reduceLeDiff, Bool.true_eq_false, Bool.false_eq_true, beq_self_eq_true]; exact h
  by_cases h7 : k = 7
  · subst h7; simp only [a52, AV.undef, unA, qs, qb, qe, qi, qp, qm, qh, set_newRow_at, Int.reduceToNat, Nat.reduceMul, List.getElem?_cons_succ, List.getElem?_cons_zero, false_implies, true_implies, forall_const, implies_true, set_newRow_lt, Nat.lt_add_one, Nat.min_eq_left, Nat.le_add_right, qc, fillA, evParts, repCells, wrRow_eq, splice, partA, List.length_cons, List.length_nil, List.take_succ_cons, List.take_zero, List.drop_succ_cons, List.drop_zero, List.cons_append, Option.bind_some, Nat.add_zero, Nat.zero_add, List.drop_nil, List.take_nil, Nat.le_refl, Nat.min_self, WO_pure, WO_mem, pureStep, memStep, WC_true, WC_false, WO_guardq, qg, retQ, resOf, resAll, resA, wp_some, kv_ite, km_ite, kv_none, ↓reduceIte, Nat.reduceEqDiff, reduceCtorEq, decide_true, decide_false, Bool.not_true, Bool.not_false, List.map_cons, List.map_nil, List.nil_append, List.append_nil, Option.map_some, Option.map_none, if_true, if_false, true_and, and_true, Int.reduceEq, Int.reduceLT, Int.reduceLE, Int.reduceNeg, Nat.reduceAdd, Nat.reduceLeDiff, Bool.true_eq_false, Bool.false_eq_true, beq_self_eq_true]; exact h
  by_cases h4 : k = 4
  · subst h4; simp only [a52, AV.undef, unA, qs, qb, qe, qi, qp, qm, qh, set_newRow_at, Int.reduceToNat, Nat.reduceMul, List.getElem?_cons_succ, List.getElem?_cons_zero, false_implies, true_implies, forall_const, implies_true, set_newRow_lt, Nat.lt_add_one, Nat.min_eq_left, Nat.le_add_right, qc, fillA, evParts, repCells, wrRow_eq, splice, partA, List.length_cons, List.length_nil, List.take_succ_cons, List.take_zero, List.drop_succ_cons, List.drop_zero, List.cons_append, Option.bind_some, Nat.add_zero, Nat.zero_add, List.drop_nil, List.take_nil, Nat.le_refl, Nat.min_self, WO_pure, WO_mem, pureStep, memStep, WC_true, WC_false, WO_guardq, qg, retQ, resOf, resAll, resA, wp_some, kv_ite, km_ite, kv_none, ↓reduceIte, Nat.reduceEqDiff, reduceCtorEq, decide_true, decide_false, Bool.not_true, Bool.not_false, List.map_cons, List.map_nil, List.nil_append, List.append_nil, Option.map_some, Option.map_none, if_true, if_false, true_and, and_true, Int.reduceEq, Int.reduceLT, Int.reduceLE, Int.reduceNeg, Nat.reduceAdd, Nat.reduceLeDiff, Bool.true_eq_false, Bool.false_eq_true, beq_self_eq_true]; exact h
  simp only [msgSize, h3, h10, h2, h5, h1, h9, h6, h8, h7, h4, if_false] at h
  simp only [a52, h3, h10, h2, h5, h1, h9, h6, h8, h7, h4, AV.undef, unA, qs, qb, qe, qi, qp, qm, qh, set_newRow_at, Int.reduceToNat, Nat.reduceMul, List.getElem?_cons_succ, List.getElem?_cons_zero, false_implies, true_implies, forall_const, implies_true, set_newRow_lt, Nat.lt_add_one, Nat.min_eq_left, Nat.le_add_right, qc, fillA, evParts, repCells, wrRow_eq, splice, partA, List.length_cons, List.length_nil, List.take_succ_cons, List.take_zero, List.drop_succ_cons, List.drop_zero, List.cons_append, Option.bind_some, Nat.add_zero, Nat.zero_add, List.drop_nil, List.take_nil, Nat.le_refl, Nat.min_self, WO_pure, WO_mem, pureStep, memStep, WC_true, WC_false, WO_guardq, qg, retQ, resOf, resAll, resA, wp_some, kv_ite, km_ite, kv_none, ↓reduceIte, Nat.reduceEqDiff, reduceCtorEq, decide_true, decide_false, Bool.not_true, Bool.not_false, List.map_cons, List.map_nil, List.nil_append, List.append_nil, Option.map_some, Option.map_none, if_true, if_false, true_and, and_true, Int.reduceEq, Int.reduceLT, Int.reduceLE, Int.reduceNeg, Nat.reduceAdd, Nat.reduceLeDiff, Bool.true_eq_false, Bool.false_eq_true, beq_self_eq_true]
  exact h

/-- message.sizes -/
def sizesA : List AV := [.int .i64 (-1), .int .i64 2, .int .i64 1, .int .i64 0, .int .i64 10, .int .i64 1, .int .i64 3, .int .i64 5, .int .i64 3, .int .i64 2, .int .i64 0]
theorem run85 (H : AHeap) (Q : AV → AHeap → Nat → Prop) (h : Q (.agg sizesA) (newRow H sizesA 0) H.length) : WF T 85 [] H Q := by
  refine (WF_code (fn := a85) rfl _ _ _).2 ?_
  simp only [a85, AV.undef, unA, qs, qb, qe, qi, qp, qm, qh, set_newRow_at, Int.reduceToNat, Nat.reduceMul, List.getElem?_cons_succ, List.getElem?_cons_zero, false_implies, true_implies, forall_const, implies_true, set_newRow_lt, Nat.lt_add_one, Nat.min_eq_left, Nat.le_add_right, qc, fillA, evParts, repCells, wrRow_eq, splice, partA, List.length_cons, List.length_nil, List.take_succ_cons, List.take_zero, List.drop_succ_cons, List.drop_zero, List.cons_append, Option.bind_some, Nat.add_zero, Nat.zero_add, List.drop_nil, List.take_nil, Nat.le_refl, Nat.min_self, WO_pure, WO_mem, pureStep, memStep, WC_true, WC_false, WO_guardq, qg, retQ, resOf, resAll, resA, wp_some, kv_ite, km_ite, kv_none, ↓reduceIte, Nat.reduceEqDiff, reduceCtorEq, decide_true, decide_false, Bool.not_true, Bool.not_false, List.map_cons, List.map_nil, List.nil_append, List.append_nil, Option.map_some, Option.map_none, if_true, if_false, true_and, and_true, Int.reduceEq, Int.reduceLT, Int.reduceLE, Int.reduceNeg, Nat.reduceAdd, Nat.reduceLeDiff, Bool.true_eq_false, Bool.false_eq_true, beq_self_eq_true]
  exact h

theorem len_sizesA : sizesA.length = 11 := rfl
theorem drop_sizesA (n : Nat) : List.drop 11 (repCells [.int .i64 n] 11) = [] := rfl

set_option maxHeartbeats 4000000 in
/-- message.Size -/
theorem run51 (k : Int) (H : AHeap) (Q : AV → AHeap → Nat → Prop) (h : ∀ H', Ext H H' → Q (.tup [.int .i64 (msgSize k).1, .bool (msgSize k).2]) H' H.length) : WF T 51 [.int .i64 k] H Q := by
  refine (WF_code (fn := a51) rfl _ _ _).2 ?_
  simp only [a51, AV.undef, unA, qs, qb, qe, qi, qp, qm, qh, set_newRow_at, Int.reduceToNat, Nat.reduceMul, List.getElem?_cons_succ, List.getElem?_cons_zero, false_implies, true_implies, forall_const, implies_true, set_newRow_lt, Nat.lt_add_one, Nat.min_eq_left, Nat.le_add_right, qc, fillA, evParts, repCells, wrRow_eq, splice, partA, List.length_cons, List.length_nil, List.take_succ_cons, List.take_zero, List.drop_succ_cons, List.drop_zero, List.cons_append, Option.bind_some, Nat.add_zero, Nat.zero_add, List.drop_nil, List.take_nil, Nat.le_refl, Nat.min_self, WO_pure, WO_mem, pureStep, memStep, WC_true, WC_false, WO_guardq, qg, retQ, resOf, resAll, resA, wp_some, kv_ite, km_ite, kv_none, ↓reduceIte, Nat.reduceEqDiff, reduceCtorEq, decide_true, decide_false, Bool.not_true, Bool.not_false, List.map_cons, List.map_nil, List.nil_append, List.append_nil, Option.map_some, Option.map_none, if_true, if_false, true_and, and_true, Int.reduceEq, Int.reduceLT, Int.reduceLE, Int.reduceNeg, Nat.reduceAdd, Nat.reduceLeDiff, Bool.true_eq_false, Bool.false_eq_true, beq_self_eq_true]
  refine WO_call rfl (run85 _ _ ?_)
  have h' := h (newRow (newRow H sizesA 0) sizesA 0) (((Ext.refl H).addRow _ _).addRow _ _)
  simp only [len_sizesA, AV.undef, unA, qs, qb, qe, qi, qp, qm, qh, set_newRow_at, Int.reduceToNat, Nat.reduceMul, List.getElem?_cons_succ, List.getElem?_cons_zero, false_implies, true_implies, forall_const, implies_true, set_newRow_lt, Nat.lt_add_one, Nat.min_eq_left, Nat.le_add_right, qc, fillA, evParts, repCells, wrRow_eq, splice, partA, List.length_cons, List.length_nil, List.take_succ_cons, List.take_zero, List.drop_succ_cons, List.drop_zero, List.cons_append, Option.bind_some, Nat.add_zero, Nat.zero_add, List.drop_nil, List.take_nil, Nat.le_refl, Nat.min_self, WO_pure, WO_mem, pureStep, memStep, WC_true, WC_false, WO_guardq, qg, retQ, resOf, resAll, resA, wp_some, kv_ite, km_ite, kv_none, ↓reduceIte, Nat.reduceEqDiff, reduceCtorEq, decide_true, decide_false, Bool.not_true, Bool.not_false, List.map_cons, List.map_nil, List.nil_append, List.append_nil, Option.map_some, Option.map_none, if_true, if_false, true_and, and_true, Int.reduceEq, Int.reduceLT, Int.reduceLE, Int.reduceNeg, Nat.reduceAdd, Nat.reduceLeDiff, Bool.true_eq_false, Bool.false_eq_true, beq_self_eq_true]
  by_cases hk : k ≤ 0
  · simp only [hk, AV.undef, unA, qs, qb, qe, qi, qp, qm, qh, set_newRow_at, Int.reduceToNat, Nat.reduceMul, List.getElem?_cons_succ, List.getElem?_cons_zero, false_implies, true_implies, forall_const, implies_true, set_newRow_lt, Nat.lt_add_one, Nat.min_eq_left, Nat.le_add_right, qc, fillA, evParts, repCells, wrRow_eq, splice, partA, List.length_cons, List.length_nil, List.take_succ_cons, List.take_zero, List.drop_succ_cons, List.drop_zero, List.cons_append, Option.bind_some, Nat.add_zero, Nat.zero_add, List.drop_nil, List.take_nil, Nat.le_refl, Nat.min_self, WO_pure, WO_mem, pureStep, memStep, WC_true, WC_false, WO_guardq, qg, retQ, resOf, resAll, resA, wp_some, kv_ite, km_ite, kv_none, ↓reduceIte, Nat.reduceEqDiff, reduceCtorEq, decide_true, decide_false, Bool.not_true, Bool.not_false, List.map_cons, List.map_nil, List.nil_append, List.append_nil, Option.map_some, Option.map_none, if_true, if_false, true_and, and_true, Int.reduceEq, Int.reduceLT, Int.reduceLE, Int.reduceNeg, Nat.reduceAdd, Nat.reduceLeDiff, Bool.true_eq_false, Bool.false_eq_true, beq_self_eq_true]
    have e : msgSize k = (0, false) := by
      unfold msgSize
      repeat rw [if_neg (by omega)]
    rw [e] at h'
    exact h'
  by_cases hk' : 11 ≤ k
  · simp only [hk, hk', AV.undef, unA, qs, qb, qe, qi, qp, qm, qh, set_newRow_at, Int.reduceToNat, Nat.reduceMul, List.getElem?_cons_succ, List.getElem?_cons_zero, false_implies, true_implies, forall_const, implies_true, set_newRow_lt, Nat.lt_add_one, Nat.min_eq_left, Nat.le_add_right, qc, fillA, evParts, repCells, wrRow_eq, splice, partA, List.length_cons, List.length_nil, List.take_succ_cons, List.take_zero, List.drop_succ_cons, List.drop_zero, List.cons_append, Option.bind_some, Nat.add_zero, Nat.zero_add, List.drop_nil, List.take_nil, Nat.le_refl, Nat.min_self, WO_pure, WO_mem, pureStep, memStep, WC_true, WC_false, WO_guardq, qg, retQ, resOf, resAll, resA, wp_some, kv_ite, km_ite, kv_none, ↓reduceIte, Nat.reduceEqDiff, reduceCtorEq, decide_true, decide_false, Bool.not_true, Bool.not_false, List.map_cons, List.map_nil, List.nil_append, List.append_nil, Option.map_some, Option.map_none, if_true, if_false, true_and, and_true, Int.reduceEq, Int.reduceLT, Int.reduceLE, Int.reduceNeg, Nat.reduceAdd, Nat.reduceLeDiff, Bool.true_eq_false, Bool.false_eq_true, beq_self_eq_true]
    have e : msgSize k = (0, false) := by
      unfold msgSize
      repeat rw [if_neg (by omega)]
    rw [e] at h'
    exact h'
  simp only [hk, hk', AV.undef, unA, qs, qb, qe, qi, qp, qm, qh, set_newRow_at, Int.reduceToNat, Nat.reduceMul, List.getElem?_cons_succ, List.getElem?_cons_zero, false_implies, true_implies, forall_const, implies_true, set_newRow_lt, Nat.lt_add_one, Nat.min_eq_left, Nat.le_add_right, qc, fillA, evParts, repCells, wrRow_eq, splice, partA, List.length_cons, List.length_nil, List.take_succ_cons, List.take_zero, List.drop_succ_cons, List.drop_zero, List.cons_append, Option.bind_some, Nat.add_zero, Nat.zero_add, List.drop_nil, List.take_nil, Nat.le_refl, Nat.min_self, WO_pure, WO_mem, pureStep, memStep, WC_true, WC_false, WO_guardq, qg, retQ, resOf, resAll, resA, wp_some, kv_ite, km_ite, kv_none, ↓reduceIte, Nat.reduceEqDiff, reduceCtorEq, decide_true, decide_false, Bool.not_true, Bool.not_false, List.map_cons, List.map_nil, List.nil_append, List.append_nil, Option.map_some, Option.map_none, if_true, if_false, true_and, and_true, Int.reduceEq, Int.reduceLT, Int.reduceLE, Int.reduceNeg, Nat.reduceAdd, Nat.reduceLeDiff, Bool.true_eq_false, Bool.false_eq_true, beq_self_eq_true]
  rcases (by omega : k = 1 ∨ k = 2 ∨ k = 3 ∨ k = 4 ∨ k = 5 ∨ k = 6 ∨ k = 7 ∨ k = 8 ∨ k = 9 ∨ k = 10) with h1 | h1 | h1 | h1 | h1 | h1 | h1 | h1 | h1 | h1
  · subst h1; simp only [sizesA, AV.undef, unA, qs, qb, qe, qi, qp, qm, qh, set_newRow_at, Int.reduceToNat, Nat.reduceMul, List.getElem?_cons_succ, List.getElem?_cons_zero, false_implies, true_implies, forall_const, implies_true, set_newRow_lt, Nat.lt_add_one, Nat.min_eq_left, Nat.le_add_right, qc, fillA, evParts, repCells, wrRow_eq, splice, partA, List.length_cons, List.length_nil, List.take_succ_cons, List.take_zero, List.drop_succ_cons, List.drop_zero, List.cons_append, Option.bind_some, Nat.add_zero, Nat.zero_add, List.drop_nil, List.take_nil, Nat.le_refl, Nat.min_self, WO_pure, WO_mem, pureStep, memStep, WC_true, WC_false, WO_guardq, qg, retQ, resOf, resAll, resA, wp_some, kv_ite, km_ite, kv_none, ↓reduceIte, Nat.reduceEqDiff, reduceCtorEq, decide_true, decide_false, Bool.not_true, Bool.not_false, List.map_cons, List.map_nil, List.nil_append, List.append_nil, Option.map_some, Option.map_none, if_true, if_false, true_and, and_true, Int.reduceEq, Int.reduceLT, Int.reduceLE, Int.reduceNeg, Nat.reduceAdd, Nat.reduceLeDiff, Bool.true_eq_false, Bool.false_eq_true, beq_self_eq_true]; exact ⟨by decide, h'⟩
  · subst h1; simp only [sizesA, AV.undef, unA, qs, qb, qe, qi, qp, qm, qh, set_newRow_at, Int.reduceToNat, Nat.reduceMul, List.getElem?_cons_succ, List.getElem?_cons_zero, false_implies, true_implies, forall_const, implies_true, set_newRow_lt, Nat.lt_add_one, Nat.min_eq_left, Nat.le_add_right, qc, fillA, evParts, repCells, wrRow_eq, splice, partA, List.length_cons, List.length_nil, List.take_succ_cons, List.take_zero, List.drop_succ_cons, List.drop_zero, List.cons_append, Option.bind_some, Nat.add_zero, Nat.zero_add, List.drop_nil, List.take_nil, Nat.le_refl, Nat.min_self, WO_pure, WO_mem, pureStep, memStep, WC_true, WC_false, WO_guardq, qg, retQ, resOf, resAll, resA, wp_some, kv_ite, km_ite, kv_none, ↓reduceIte, Nat.reduceEqDiff, reduceCtorEq, decide_true, decide_false, Bool.not_true, Bool.not_false, List.map_cons, List.map_nil, List.nil_append, List.append_nil, Option.map_some, Option.map_none, if_true, if_false, true_and, and_true, Int.reduceEq, Int.reduceLT, Int.reduceLE, Int.reduceNeg, Nat.reduceAdd, Nat.reduceLeDiff, Bool.true_eq_false, Bool.false_eq_true, beq_self_eq_true]; exact ⟨by decide, h'⟩
  · subst h1; simp only [sizesA, AV.undef, unA, qs, qb, qe, qi, qp, qm, qh, set_newRow_at, Int.reduceToNat, Nat.reduceMul, List.getElem?_cons_succ, List.getElem?_cons_zero, false_implies, true_implies, forall_const, implies_true, set_newRow_lt, Nat.lt_add_one, Nat.min_eq_left, Nat.le_add_right, qc, fillA, evParts, repCells, wrRow_eq, splice, partA, List.length_cons, List.length_nil, List.take_succ_cons, List.take_zero, List.drop_succ_cons, List.drop_zero, List.cons_append, Option.bind_some, Nat.add_zero, Nat.zero_add, List.drop_nil, List.take_nil, Nat.le_refl, Nat.min_self, WO_pure, WO_mem, pureStep, memStep, WC_true, WC_false, WO_guardq, qg, retQ, resOf, resAll, resA, wp_some, kv_ite, km_ite, kv_none, ↓reduceIte, Nat.reduceEqDiff, reduceCtorEq, decide_true, decide_false, Bool.not_true, Bool.not_false, List.map_cons, List.map_nil, List.nil_append, List.append_nil, Option.map_some, Option.map_none, if_true, if_false, true_and, and_true, Int.reduceEq, Int.reduceLT, Int.reduceLE, Int.reduceNeg, Nat.reduceAdd, Nat.reduceLeDiff, Bool.true_eq_false, Bool.false_eq_true, beq_self_eq_true]; exact ⟨by decide, h'⟩
  · subst h1; simp only [sizesA, AV.undef, unA, qs, qb, qe, qi, qp, qm, qh, set_newRow_at, Int.reduceToNat, Nat.reduceMul, List.getElem?_cons_succ, List.getElem?_cons_zero, false_implies, true_implies, forall_const, implies_true, set_newRow_lt, Nat.lt_add_one, Nat.min_eq_left, Nat.le_add_right, qc, fillA, evParts, repCells, wrRow_eq, splice, partA, List.length_cons, List.length_nil, List.take_succ_cons, List.take_zero, List.drop_succ_cons, List.drop_zero, List.cons_append, Option.bind_some, Nat.add_zero, Nat.zero_add, List.drop_nil, List.take_nil, Nat.le_refl, Nat.min_self, WO_pure, WO_mem, pureStep, memStep, WC_true, WC_false, WO_guardq, qg, retQ, resOf, resAll, resA, wp_some, kv_ite, km_ite, kv_none, ↓reduceIte, Nat.reduceEqDiff, reduceCtorEq, decide_true, decide_false, Bool.not_true, Bool.not_false, List.map_cons, List.map_nil, List.nil_append, List.append_nil, Option.map_some, Option.map_none, if_true, if_false, true_and, and_true, Int.reduceEq, Int.reduceLT, Int.reduceLE, Int.reduceNeg, Nat.reduceAdd, Nat.reduceLeDiff, Bool.true_eq_false, Bool.false_eq_true, beq_self_eq_true]; exact ⟨by decide, h'⟩
  · subst h1; simp only [sizesA, AV.undef, unA, qs, qb, qe, qi, qp, qm, qh, set_newRow_at, Int.reduceToNat, Nat.reduceMul, List.getElem?_cons_succ, List.getElem?_cons_zero, false_implies, true_implies, forall_const, implies_true, set_newRow_lt, Nat.lt_add_one, Nat.min_eq_left, Nat.le_add_right, qc, fillA, evParts, repCells, wrRow_eq, splice, partA, List.length_cons, List.length_nil, List.take_succ_cons, List.take_zero, List.drop_succ_cons, List.drop_zero, List.cons_append, Option.bind_some, Nat.add_zero, Nat.zero_add, List.drop_nil, List.take_nil, Nat.le_refl, Nat.min_self, WO_pure, WO_mem, pureStep, memStep, WC_true, WC_false, WO_guardq, qg, retQ, resOf, resAll, resA, wp_some, kv_ite, km_ite, kv_none, ↓reduceIte, Nat.reduceEqDiff, reduceCtorEq, decide_true, decide_false, Bool.not_true, Bool.not_false, List.map_cons, List.map_nil, List.nil_append, List.append_nil, Option.map_some, Option.map_none, if_true, if_false, true_and, and_true, Int.reduceEq, Int.reduceLT, Int.reduceLE, Int.reduceNeg, Nat.reduceAdd, Nat.reduceLeDiff, Bool.true_eq_false, Bool.false_eq_true, beq_self_eq_true]; exact ⟨by decide, h'⟩
  · subst h1; simp only [sizesA, AV.undef, unA, qs, qb, qe, qi, qp, qm, qh, set_newRow_at, Int.reduceToNat, Nat.reduceMul, List.getElem?_cons_succ, List.getElem?_cons_zero, false_implies, true_implies, forall_const, implies_true, set_newRow_lt, Nat.lt_add_one, Nat.min_eq_left, Nat.le_add_right, qc, fillA, evParts, repCells, wrRow_eq, splice, partA, List.length_cons, List.length_nil, List.take_succ_cons, List.take_zero, List.drop_succ_cons, List.drop_zero, List.cons_append, Option.bind_some, Nat.add_zero, Nat.zero_add, List.drop_nil, List.take_nil, Nat.le_refl, Nat.min_self, WO_pure, WO_mem, pureStep, memStep, WC_true, WC_false, WO_guardq, qg, retQ, resOf, resAll, resA, wp_some, kv_ite, km_ite, kv_none, ↓reduceIte, Nat.reduceEqDiff, reduceCtorEq, decide_true, decide_false, Bool.not_true, Bool.not_false, List.map_cons, List.map_nil, List.nil_append, List.append_nil, Option.map_some, Option.map_none, if_true, if_false, true_and, and_true, Int.reduceEq, Int.reduceLT, Int.reduceLE, Int.reduceNeg, Nat.reduceAdd, Nat.reduceLeDiff, Bool.true_eq_false, Bool.false_eq_true, beq_self_eq_true]; exact ⟨by decide, h'⟩
  · subst h1; simp only [sizesA, AV.undef, unA, qs, qb, qe, qi, qp, qm, qh, set_newRow_at, Int.reduceToNat, Nat.reduceMul, List.getElem?_cons_succ, List.getElem?_cons_zero, false_implies, true_implies, forall_const, implies_true, set_newRow_lt, Nat.lt_add_one, Nat.min_eq_left, Nat.le_add_right, qc, fillA, evParts, repCells, wrRow_eq, splice, partA, List.length_cons, List.length_nil, List.take_succ_cons, List.take_zero, List.drop_succ_cons, List.drop_zero, List.cons_append, Option.bind_some, Nat.add_zero, Nat.zero_add, List.drop_nil, List.take_nil, Nat.le_refl, Nat.min_self, WO_pure, WO_mem, pureStep, memStep, WC_true, WC_false, WO_guardq, qg, retQ, resOf, resAll, resA, wp_some, kv_ite, km_ite, kv_none, ↓reduceIte, Nat.reduceEqDiff, reduceCtorEq, decide_true, decide_false, Bool.not_true, Bool.not_false, List.map_cons, List.map_nil, List.nil_append, List.append_nil, Option.map_some, Option.map_none, if_true, if_false, true_and, and_true, Int.reduceEq, Int.reduceLT, Int.reduceLE, Int.reduceNeg, Nat.reduceAdd, Nat.reduceLeDiff, Bool.true_eq_false, Bool.false_eq_true, beq_self_eq_true]; exact ⟨by decide, h'⟩
  · subst h1; simp only [sizesA, AV.undef, unA, qs, qb, qe, qi, qp, qm, qh, set_newRow_at, Int.reduceToNat, Nat.reduceMul, List.getElem?_cons_succ, List.getElem?_cons_zero, false_implies, true_implies, forall_const, implies_true, set_newRow_lt, Nat.lt_add_one, Nat.min_eq_left, Nat.le_add_right, qc, fillA, evParts, repCells, wrRow_eq, splice, partA, List.length_cons, List.length_nil, List.take_succ_cons, List.take_zero, List.drop_succ_cons, List.drop_zero, List.cons_append, Option.bind_some, Nat.add_zero, Nat.zero_add, List.drop_nil, List.take_nil, Nat.le_refl, Nat.min_self, WO_pure, WO_mem, pureStep, memStep, WC_true, WC_false, WO_guardq, qg, retQ, resOf, resAll, resA, wp_some, kv_ite, km_ite, kv_none, ↓reduceIte, Nat.reduceEqDiff, reduceCtorEq, decide_true, decide_false, Bool.not_true, Bool.not_false, List.map_cons, List.map_nil, List.nil_append, List.append_nil, Option.map_some, Option.map_none, if_true, if_false, true_and, and_true, Int.reduceEq, Int.reduceLT, Int.reduceLE, Int.reduceNeg, Nat.reduceAdd, Nat.reduceLeDiff, Bool.true_eq_false, Bool.false_eq_true, beq_self_eq_true]; exact ⟨by decide, h'⟩
  · subst h1; simp only [sizesA, AV.undef, unA, qs, qb, qe, qi, qp, qm, qh, set_newRow_at, Int.reduceToNat, Nat.reduceMul, List.getElem?_cons_succ, List.getElem?_cons_zero, false_implies, true_implies, forall_const, implies_true, set_newRow_lt, Nat.lt_add_one, Nat.min_eq_left, Nat.le_add_right, qc, fillA, evParts, repCells, wrRow_eq, splice, partA, List.length_cons, List.length_nil, List.take_succ_cons, List.take_zero, List.drop_succ_cons, List.drop_zero, List.cons_append, Option.bind_some, Nat.add_zero, Nat.zero_add, List.drop_nil, List.take_nil, Nat.le_refl, Nat.min_self, WO_pure, WO_mem, pureStep, memStep, WC_true, WC_false, WO_guardq, qg, retQ, resOf, resAll, resA, wp_some, kv_ite, km_ite, kv_none, ↓reduceIte, Nat.reduceEqDiff, reduceCtorEq, decide_true, decide_false, Bool.not_true, Bool.not_false, List.map_cons, List.map_nil, List.nil_append, List.append_nil, Option.map_some, Option.map_none, if_true, if_false, true_and, and_true, Int.reduceEq, Int.reduceLT, Int.reduceLE, Int.reduceNeg, Nat.reduceAdd, Nat.reduceLeDiff, Bool.true_eq_false, Bool.false_eq_true, beq_self_eq_true]; exact ⟨by decide, h'⟩
  · subst h1; simp only [sizesA, AV.undef, unA, qs, qb, qe, qi, qp, qm, qh, set_newRow_at, Int.reduceToNat, Nat.reduceMul, List.getElem?_cons_succ, List.getElem?_cons_zero, false_implies, true_implies, forall_const, implies_true, set_newRow_lt, Nat.lt_add_one, Nat.min_eq_left, Nat.le_add_right, qc, fillA, evParts, repCells, wrRow_eq, splice, partA, List.length_cons, List.length_nil, List.take_succ_cons, List.take_zero, List.drop_succ_cons, List.drop_zero, List.cons_append, Option.bind_some, Nat.add_zero, Nat.zero_add, List.drop_nil, List.take_nil, Nat.le_refl, Nat.min_self, WO_pure, WO_mem, pureStep, memStep, WC_true, WC_false, WO_guardq, qg, retQ, resOf, resAll, resA, wp_some, kv_ite, km_ite, kv_none, ↓reduceIte, Nat.reduceEqDiff, reduceCtorEq, decide_true, decide_false, Bool.not_true, Bool.not_false, List.map_cons, List.map_nil, List.nil_append, List.append_nil, Option.map_some, Option.map_none, if_true, if_false, true_and, and_true, Int.reduceEq, Int.reduceLT, Int.reduceLE, Int.reduceNeg, Nat.reduceAdd, Nat.reduceLeDiff, Bool.true_eq_false, Bool.false_eq_true, beq_self_eq_true]; exact ⟨by decide, h'⟩
end Go.Proofs.Qq.Qqd

namespace Go.Proofs.Qq.Qqd
open Go.Proofs.Qq

/-- pack.unfold -/
theorem run88 (u : Nat) (hu : u < 18446744073709551616) (H : AHeap) (Q : AV → AHeap → Nat → Prop) (h : Q (.int .i64 (zag u)) H H.length) : WF T 88 [.int .u64 u] H Q := by
  refine (WF_code (fn := a88) rfl _ _ _).2 ?_
  have e1 : binShift false .u64 (u : Int) 1 = some (.int .u64 ((u / 2 : Nat) : Int)) := by
    unfold binShift
    rw [if_neg (by decide), if_neg (by decide)]
    congr 2
    show (u : Int).fdiv (2 ^ 1) = _
    rw [Int.fdiv_eq_ediv_of_nonneg _ (by decide)]; omega
  have e2 : IntKind.i64.wrap ((u / 2 : Nat) : Int) = ((u / 2 : Nat) : Int) := w64 (by omega) (by omega)
  have e3 : IntKind.u64.wrap ((u % 2 : Nat) : Int) = ((u % 2 : Nat) : Int) := wu64 (by omega) (by omega)
  have e4 : IntKind.i64.wrap ((u % 2 : Nat) : Int) = ((u % 2 : Nat) : Int) := w64 (by omega) (by omega)
  have e5 : IntKind.i64.wrap (0 - ((u % 2 : Nat) : Int)) = 0 - ((u % 2 : Nat) : Int) := w64 (by omega) (by omega)
  simp only [a88, unA, e1, e2, iand1 u hu, e4, e5, AV.undef, unA, qs, qb, qe, qi, qp, qm, qh, set_newRow_at, Int.reduceToNat, Nat.reduceMul, List.getElem?_cons_succ, List.getElem?_cons_zero, false_implies, true_implies, forall_const, implies_true, set_newRow_lt, Nat.lt_add_one, Nat.min_eq_left, Nat.le_add_right, qc, fillA, evParts, repCells, wrRow_eq, splice, partA, List.length_cons, List.length_nil, List.take_succ_cons, List.take_zero, List.drop_succ_cons, List.drop_zero, List.cons_append, Option.bind_some, Nat.add_zero, Nat.zero_add, List.drop_nil, List.take_nil, Nat.le_refl, Nat.min_self, WO_pure, WO_mem, pureStep, memStep, WC_true, WC_false, WO_guardq, qg, retQ, resOf, resAll, resA, wp_some, kv_ite, km_ite, kv_none, ↓reduceIte, Nat.reduceEqDiff, reduceCtorEq, decide_true, decide_false, Bool.not_true, Bool.not_false, List.map_cons, List.map_nil, List.nil_append, List.append_nil, Option.map_some, Option.map_none, if_true, if_false, true_and, and_true, Int.reduceEq, Int.reduceLT, Int.reduceLE, Int.reduceNeg, Nat.reduceAdd, Nat.reduceLeDiff, Bool.true_eq_false, Bool.false_eq_true, beq_self_eq_true]
  rcases Nat.mod_two_eq_zero_or_one u with hm | hm
  · rw [hm]
    have ez : (0 - ((0 : Nat) : Int)) = 0 := rfl
    rw [ez, ixor_zero (u / 2) (by omega)]
    unfold zag at h; rw [if_pos hm] at h; exact h
  · rw [hm]
    have ez : (0 - ((1 : Nat) : Int)) = -1 := rfl
    rw [ez, ixor_ones (u / 2) (by omega)]
    unfold zag at h; rw [if_neg (by omega)] at h; exact h
/-- A number in groups of seven bits. -/
def vrL : List UInt8 → Nat → Nat → Option (Nat × Nat)
  | [], _, _ => none
  | b :: r, i, acc =>
    if 10 ≤ i then none
    else if 128 ≤ b.toNat then vrL r (i + 1) (acc + (b.toNat - 128) * 128 ^ i)
    else if (b.toNat = 0 ∧ 0 < i) ∨ (i = 9 ∧ 1 < b.toNat) then none
    else some (acc + b.toNat * 128 ^ i, i + 1)

def vrOut : Option (Nat × Nat) → AV
  | some (v, n) => .tup [.int .u64 v, .int .i64 n]
  | none => .tup [.int .u64 0, .int .i64 0]

def TakeInv (bs : List UInt8) (a : Option (Nat × Nat)) (c : Option Nat) (H : AHeap) (n : Nat) (s : AS) : Prop :=
  ∃ j acc u : Nat, n = min bs.length 10 - j ∧ j ≤ min bs.length 10 ∧ s.env 0 = .slice a bs.length c ∧ s.env 9 = .int .i64 ((min bs.length 10 : Nat) : Int) ∧ s.env 10 = .int .i64 (j : Int) ∧
    s.env 4 = .int .u64 (u : Int) ∧ (j ≤ 9 → u = acc ∧ acc < 128 ^ j) ∧ vrL (bs.drop j) j acc = vrL bs 0 0 ∧ s.heap = H ∧ s.low = H.length

set_option maxHeartbeats 4000000 in
/-- pack.take -/
theorem run113 (bs : List UInt8) (hlen : bs.length ≤ 9223372036854775807) (a : Option (Nat × Nat)) (c : Option Nat) (H : AHeap) (ha : At H a (bytesA bs)) (Q : AV → AHeap → Nat → Prop) (h : Q (vrOut (vrL bs 0 0)) H H.length) :
    WF T 113 [.slice a bs.length c] H Q := by
  refine (WF_code (fn := a113) rfl _ _ _).2 ?_
  simp only [a113, rangeCode, foldMM, minmax2, AV.undef, unA, qs, qb, qe, qi, qp, qm, qh, set_newRow_at, Int.reduceToNat, Nat.reduceMul, List.getElem?_cons_succ, List.getElem?_cons_zero, false_implies, true_implies, forall_const, implies_true, set_newRow_lt, Nat.lt_add_one, Nat.min_eq_left, Nat.le_add_right, qc, fillA, evParts, repCells, wrRow_eq, splice, partA, List.length_cons, List.length_nil, List.take_succ_cons, List.take_zero, List.drop_succ_cons, List.drop_zero, List.cons_append, Option.bind_some, Nat.add_zero, Nat.zero_add, List.drop_nil, List.take_nil, Nat.le_refl, Nat.min_self, WO_pure, WO_mem, pureStep, memStep, WC_true, WC_false, WO_guardq, qg, retQ, resOf, resAll, resA, wp_some, kv_ite, km_ite, kv_none, ↓reduceIte, Nat.reduceEqDiff, reduceCtorEq, decide_true, decide_false, Bool.not_true, Bool.not_false, List.map_cons, List.map_nil, List.nil_append, List.append_nil, Option.map_some, Option.map_none, if_true, if_false, true_and, and_true, Int.reduceEq, Int.reduceLT, Int.reduceLE, Int.reduceNeg, Nat.reduceAdd, Nat.reduceLeDiff, Bool.true_eq_false, Bool.false_eq_true, beq_self_eq_true]
  have hmin : (if (10 : Int) < (bs.length : Int) then (10 : Int) else (bs.length : Int)) = ((min bs.length 10 : Nat) : Int) := by
    split <;> omega
  simp only [Bool.false_eq_true, if_false, hmin]
  refine WC_loop (TakeInv bs a c H) ?_ (min bs.length 10) _ ⟨0, 0, 0, by omega, by omega, ?_⟩
  · rintro n ⟨e, H', l⟩ ⟨j, acc, u, hn, hj, h0, h9, h10, h4, hu, hv, hH, hL⟩
    simp only [] at h0 h9 h10 h4 hH hL
    subst hH; subst hL
    by_cases hjl : j < min bs.length 10
    · have c1 : (j : Int) < ((min bs.length 10 : Nat) : Int) := by omega
      obtain ⟨b, hb⟩ : ∃ b, bs[j]? = some b := ⟨bs[j]'(by omega), List.getElem?_eq_getElem (by omega)⟩
      obtain ⟨i, o, rfl⟩ := ha.some_of (j := j) (by rw [bytesA_len]; omega)
      have hld := ha.load (bytesA_get hb)
      have hb256 : b.toNat < 256 := b.toNat_lt
      have c2 : (0 : Int) ≤ (j : Int) ∧ (j : Int) < (bs.length : Int) := by omega
      have e1 : IntKind.u64.wrap (b.toNat : Int) = (b.toNat : Int) := wu64 (by omega) (by omega)
      have e2 : IntKind.i64.wrap (7 * (j : Int)) = ((7 * j : Nat) : Int) := by rw [w64 (by omega) (by omega)]; omega
      obtain ⟨hu1, hu2⟩ := hu (by omega)
      subst hu1
      obtain ⟨w, hw, hw2⟩ := group_in u (b.toNat % 128) j (by omega) (by omega) hu2
      have hdrop : bs.drop j = b :: bs.drop (j + 1) := by rw [List.drop_eq_getElem_cons (by omega)]; congr 1; have := List.getElem?_eq_getElem (l := bs) (i := j) (by omega); rw [hb] at this; exact (Option.some.inj this).symm
      rw [hdrop] at hv
      have hpow : 128 ^ (j + 1) = 128 ^ j * 128 := Nat.pow_succ ..
      simp only [h0, h9, h10, h4, c1, c2, hld, e1, e2, Int.toNat_natCast, iand127 b.toNat (by omega), shl_u64 (b.toNat % 128) (7 * j) (by omega), hw, AV.undef, unA, qs, qb, qe, qi, qp, qm, qh, set_newRow_at, Int.reduceToNat, Nat.reduceMul, List.getElem?_cons_succ, List.getElem?_cons_zero, false_implies, true_implies, forall_const, implies_true, set_newRow_lt, Nat.lt_add_one, Nat.min_eq_left, Nat.le_add_right, qc, fillA, evParts, repCells, wrRow_eq, splice, partA, List.length_cons, List.length_nil, List.take_succ_cons, List.take_zero, List.drop_succ_cons, List.drop_zero, List.cons_append, Option.bind_some, Nat.add_zero, Nat.zero_add, List.drop_nil, List.take_nil, Nat.le_refl, Nat.min_self, WO_pure, WO_mem, pureStep, memStep, WC_true, WC_false, WO_guardq, qg, retQ, resOf, resAll, resA, wp_some, kv_ite, km_ite, kv_none, ↓reduceIte, Nat.reduceEqDiff, reduceCtorEq, decide_true, decide_false, Bool.not_true, Bool.not_false, List.map_cons, List.map_nil, List.nil_append, List.append_nil, Option.map_some, Option.map_none, if_true, if_false, true_and, and_true, Int.reduceEq, Int.reduceLT, Int.reduceLE, Int.reduceNeg, Nat.reduceAdd, Nat.reduceLeDiff, Bool.true_eq_false, Bool.false_eq_true, beq_self_eq_true]
      by_cases h128 : 128 ≤ b.toNat
      · have c3 : (128 : Int) ≤ (b.toNat : Int) := by omega
        have e4 : IntKind.i64.wrap ((j : Int) + 1) = ((j + 1 : Nat) : Int) := by rw [w64 (by omega) (by omega)]; omega
        simp only [c3, h0, h9, h10, e4, AV.undef, unA, qs, qb, qe, qi, qp, qm, qh, set_newRow_at, Int.reduceToNat, Nat.reduceMul, List.getElem?_cons_succ, List.getElem?_cons_zero, false_implies, true_implies, forall_const, implies_true, set_newRow_lt, Nat.lt_add_one, Nat.min_eq_left, Nat.le_add_right, qc, fillA, evParts, repCells, wrRow_eq, splice, partA, List.length_cons, List.length_nil, List.take_succ_cons, List.take_zero, List.drop_succ_cons, List.drop_zero, List.cons_append, Option.bind_some, Nat.add_zero, Nat.zero_add, List.drop_nil, List.take_nil, Nat.le_refl, Nat.min_self, WO_pure, WO_mem, pureStep, memStep, WC_true, WC_false, WO_guardq, qg, retQ, resOf, resAll, resA, wp_some, kv_ite, km_ite, kv_none, ↓reduceIte, Nat.reduceEqDiff, reduceCtorEq, decide_true, decide_false, Bool.not_true, Bool.not_false, List.map_cons, List.map_nil, List.nil_append, List.append_nil, Option.map_some, Option.map_none, if_true, if_false, true_and, and_true, Int.reduceEq, Int.reduceLT, Int.reduceLE, Int.reduceNeg, Nat.reduceAdd, Nat.reduceLeDiff, Bool.true_eq_false, Bool.false_eq_true, beq_self_eq_true]
        refine ⟨_, by omega, j + 1, u + (b.toNat - 128) * 128 ^ j, w, rfl, by omega, ?_⟩
        simp only [h0, h9, AV.undef, unA, qs, qb, qe, qi, qp, qm, qh, set_newRow_at, Int.reduceToNat, Nat.reduceMul, List.getElem?_cons_succ, List.getElem?_cons_zero, false_implies, true_implies, forall_const, implies_true, set_newRow_lt, Nat.lt_add_one, Nat.min_eq_left, Nat.le_add_right, qc, fillA, evParts, repCells, wrRow_eq, splice, partA, List.length_cons, List.length_nil, List.take_succ_cons, List.take_zero, List.drop_succ_cons, List.drop_zero, List.cons_append, Option.bind_some, Nat.add_zero, Nat.zero_add, List.drop_nil, List.take_nil, Nat.le_refl, Nat.min_self, WO_pure, WO_mem, pureStep, memStep, WC_true, WC_false, WO_guardq, qg, retQ, resOf, resAll, resA, wp_some, kv_ite, km_ite, kv_none, ↓reduceIte, Nat.reduceEqDiff, reduceCtorEq, decide_true, decide_false, Bool.not_true, Bool.not_false, List.map_cons, List.map_nil, List.nil_append, List.append_nil, Option.map_some, Option.map_none, if_true, if_false, true_and, and_true, Int.reduceEq, Int.reduceLT, Int.reduceLE, Int.reduceNeg, Nat.reduceAdd, Nat.reduceLeDiff, Bool.true_eq_false, Bool.false_eq_true, beq_self_eq_true]
        refine ⟨fun hj9 => ?_, ?_⟩
        · have := hw2 (.inl (by omega))
          have e5 : b.toNat % 128 = b.toNat - 128 := by omega
          rw [e5] at this
          refine ⟨this.1, ?_⟩
          have h6 : (b.toNat - 128) * 128 ^ j ≤ 127 * 128 ^ j := Nat.mul_le_mul_right _ (by omega)
          rw [hpow]; omega
        · rw [← hv, vrL, if_neg (by omega), if_pos h128]
      · have c3 : ¬ (128 : Int) ≤ (b.toNat : Int) := by omega
        have e5 : b.toNat % 128 = b.toNat := by omega
        rw [vrL, if_neg (by omega), if_neg h128] at hv
        rw [e5] at hw2
        by_cases hbad : (b.toNat = 0 ∧ 0 < j) ∨ (j = 9 ∧ 1 < b.toNat)
        · rw [if_pos hbad] at hv
          rw [← hv] at h
          rcases hbad with ⟨hz, hj0⟩ | ⟨hj9, h1⟩
          · have z : (b.toNat : Int) = 0 := by omega
            have z1 : (0 : Int) < (j : Int) := by omega
            simp only [c3, z, z1, AV.undef, unA, qs, qb, qe, qi, qp, qm, qh, set_newRow_at, Int.reduceToNat, Nat.reduceMul, List.getElem?_cons_succ, List.getElem?_cons_zero, false_implies, true_implies, forall_const, implies_true, set_newRow_lt, Nat.lt_add_one, Nat.min_eq_left, Nat.le_add_right, qc, fillA, evParts, repCells, wrRow_eq, splice, partA, List.length_cons, List.length_nil, List.take_succ_cons, List.take_zero, List.drop_succ_cons, List.drop_zero, List.cons_append, Option.bind_some, Nat.add_zero, Nat.zero_add, List.drop_nil, List.take_nil, Nat.le_refl, Nat.min_self, WO_pure, WO_mem, pureStep, memStep, WC_true, WC_false, WO_guardq, qg, retQ, resOf, resAll, resA, wp_some, kv_ite, km_ite, kv_none, ↓reduceIte, Nat.reduceEqDiff, reduceCtorEq, decide_true, decide_false, Bool.not_true, Bool.not_false, List.map_cons, List.map_nil, List.nil_append, List.append_nil, Option.map_some, Option.map_none, if_true, if_false, true_and, and_true, Int.reduceEq, Int.reduceLT, Int.reduceLE, Int.reduceNeg, Nat.reduceAdd, Nat.reduceLeDiff, Bool.true_eq_false, Bool.false_eq_true, beq_self_eq_true]
            exact h
          · have z : ¬ (b.toNat : Int) = 0 := by omega
            have z1 : (j : Int) = 9 := by omega
            have z2 : (1 : Int) < (b.toNat : Int) := by omega
            simp only [c3, z, z1, z2, AV.undef, unA, qs, qb, qe, qi, qp, qm, qh, set_newRow_at, Int.reduceToNat, Nat.reduceMul, List.getElem?_cons_succ, List.getElem?_cons_zero, false_implies, true_implies, forall_const, implies_true, set_newRow_lt, Nat.lt_add_one, Nat.min_eq_left, Nat.le_add_right, qc, fillA, evParts, repCells, wrRow_eq, splice, partA, List.length_cons, List.length_nil, List.take_succ_cons, List.take_zero, List.drop_succ_cons, List.drop_zero, List.cons_append, Option.bind_some, Nat.add_zero, Nat.zero_add, List.drop_nil, List.take_nil, Nat.le_refl, Nat.min_self, WO_pure, WO_mem, pureStep, memStep, WC_true, WC_false, WO_guardq, qg, retQ, resOf, resAll, resA, wp_some, kv_ite, km_ite, kv_none, ↓reduceIte, Nat.reduceEqDiff, reduceCtorEq, decide_true, decide_false, Bool.not_true, Bool.not_false, List.map_cons, List.map_nil, List.nil_append, List.append_nil, Option.map_some, Option.map_none, if_true, if_false, true_and, and_true, Int.reduceEq, Int.reduceLT, Int.reduceLE, Int.reduceNeg, Nat.reduceAdd, Nat.reduceLeDiff, Bool.true_eq_false, Bool.false_eq_true, beq_self_eq_true]
            exact h
        · rw [if_neg hbad] at hv
          rw [← hv] at h
          have hwv := (hw2 (by omega)).1
          have e4 : IntKind.i64.wrap ((j : Int) + 1) = ((j + 1 : Nat) : Int) := by rw [w64 (by omega) (by omega)]; omega
          rw [← hwv] at h
          by_cases hz : b.toNat = 0
          · have z : (b.toNat : Int) = 0 := by omega
            have z1 : ¬ (0 : Int) < (j : Int) := by omega
            have z2 : ¬ (j : Int) = 9 := by omega
            simp only [c3, z, z1, z2, e4, AV.undef, unA, qs, qb, qe, qi, qp, qm, qh, set_newRow_at, Int.reduceToNat, Nat.reduceMul, List.getElem?_cons_succ, List.getElem?_cons_zero, false_implies, true_implies, forall_const, implies_true, set_newRow_lt, Nat.lt_add_one, Nat.min_eq_left, Nat.le_add_right, qc, fillA, evParts, repCells, wrRow_eq, splice, partA, List.length_cons, List.length_nil, List.take_succ_cons, List.take_zero, List.drop_succ_cons, List.drop_zero, List.cons_append, Option.bind_some, Nat.add_zero, Nat.zero_add, List.drop_nil, List.take_nil, Nat.le_refl, Nat.min_self, WO_pure, WO_mem, pureStep, memStep, WC_true, WC_false, WO_guardq, qg, retQ, resOf, resAll, resA, wp_some, kv_ite, km_ite, kv_none, ↓reduceIte, Nat.reduceEqDiff, reduceCtorEq, decide_true, decide_false, Bool.not_true, Bool.not_false, List.map_cons, List.map_nil, List.nil_append, List.append_nil, Option.map_some, Option.map_none, if_true, if_false, true_and, and_true, Int.reduceEq, Int.reduceLT, Int.reduceLE, Int.reduceNeg, Nat.reduceAdd, Nat.reduceLeDiff, Bool.true_eq_false, Bool.false_eq_true, beq_self_eq_true]
            exact h
          · have z : ¬ (b.toNat : Int) = 0 := by omega
            by_cases hj9 : j = 9
            · have z1 : (j : Int) = 9 := by omega
              have z2 : ¬ (1 : Int) < (b.toNat : Int) := by omega
              rw [z1] at e4
              simp only [c3, z, z1, z2, e4, AV.undef, unA, qs, qb, qe, qi, qp, qm, qh, set_newRow_at, Int.reduceToNat, Nat.reduceMul, List.getElem?_cons_succ, List.getElem?_cons_zero, false_implies, true_implies, forall_const, implies_true, set_newRow_lt, Nat.lt_add_one, Nat.min_eq_left, Nat.le_add_right, qc, fillA, evParts, repCells, wrRow_eq, splice, partA, List.length_cons, List.length_nil, List.take_succ_cons, List.take_zero, List.drop_succ_cons, List.drop_zero, List.cons_append, Option.bind_some, Nat.add_zero, Nat.zero_add, List.drop_nil, List.take_nil, Nat.le_refl, Nat.min_self, WO_pure, WO_mem, pureStep, memStep, WC_true, WC_false, WO_guardq, qg, retQ, resOf, resAll, resA, wp_some, kv_ite, km_ite, kv_none, ↓reduceIte, Nat.reduceEqDiff, reduceCtorEq, decide_true, decide_false, Bool.not_true, Bool.not_false, List.map_cons, List.map_nil, List.nil_append, List.append_nil, Option.map_some, Option.map_none, if_true, if_false, true_and, and_true, Int.reduceEq, Int.reduceLT, Int.reduceLE, Int.reduceNeg, Nat.reduceAdd, Nat.reduceLeDiff, Bool.true_eq_false, Bool.false_eq_true, beq_self_eq_true]
              exact h
            · have z1 : ¬ (j : Int) = 9 := by omega
              simp only [c3, z, z1, e4, AV.undef, unA, qs, qb, qe, qi, qp, qm, qh, set_newRow_at, Int.reduceToNat, Nat.reduceMul, List.getElem?_cons_succ, List.getElem?_cons_zero, false_implies, true_implies, forall_const, implies_true, set_newRow_lt, Nat.lt_add_one, Nat.min_eq_left, Nat.le_add_right, qc, fillA, evParts, repCells, wrRow_eq, splice, partA, List.length_cons, List.length_nil, List.take_succ_cons, List.take_zero, List.drop_succ_cons, List.drop_zero, List.cons_append, Option.bind_some, Nat.add_zero, Nat.zero_add, List.drop_nil, List.take_nil, Nat.le_refl, Nat.min_self, WO_pure, WO_mem, pureStep, memStep, WC_true, WC_false, WO_guardq, qg, retQ, resOf, resAll, resA, wp_some, kv_ite, km_ite, kv_none, ↓reduceIte, Nat.reduceEqDiff, reduceCtorEq, decide_true, decide_false, Bool.not_true, Bool.not_false, List.map_cons, List.map_nil, List.nil_append, List.append_nil, Option.map_some, Option.map_none, if_true, if_false, true_and, and_true, Int.reduceEq, Int.reduceLT, Int.reduceLE, Int.reduceNeg, Nat.reduceAdd, Nat.reduceLeDiff, Bool.true_eq_false, Bool.false_eq_true, beq_self_eq_true]
              exact h
    · have c1 : ¬ (j : Int) < ((min bs.length 10 : Nat) : Int) := by omega
      have e : vrL bs 0 0 = none := by
        rw [← hv]
        by_cases hl : bs.length ≤ j
        · rw [List.drop_eq_nil_of_le hl]; rfl
        · have : j = 10 := by omega
          subst this
          cases bs.drop 10 with
          | nil => rfl
          | cons x r => simp [vrL]
      rw [e] at h
      simp only [h0, h9, h10, h4, c1, AV.undef, unA, qs, qb, qe, qi, qp, qm, qh, set_newRow_at, Int.reduceToNat, Nat.reduceMul, List.getElem?_cons_succ, List.getElem?_cons_zero, false_implies, true_implies, forall_const, implies_true, set_newRow_lt, Nat.lt_add_one, Nat.min_eq_left, Nat.le_add_right, qc, fillA, evParts, repCells, wrRow_eq, splice, partA, List.length_cons, List.length_nil, List.take_succ_cons, List.take_zero, List.drop_succ_cons, List.drop_zero, List.cons_append, Option.bind_some, Nat.add_zero, Nat.zero_add, List.drop_nil, List.take_nil, Nat.le_refl, Nat.min_self, WO_pure, WO_mem, pureStep, memStep, WC_true, WC_false, WO_guardq, qg, retQ, resOf, resAll, resA, wp_some, kv_ite, km_ite, kv_none, ↓reduceIte, Nat.reduceEqDiff, reduceCtorEq, decide_true, decide_false, Bool.not_true, Bool.not_false, List.map_cons, List.map_nil, List.nil_append, List.append_nil, Option.map_some, Option.map_none, if_true, if_false, true_and, and_true, Int.reduceEq, Int.reduceLT, Int.reduceLE, Int.reduceNeg, Nat.reduceAdd, Nat.reduceLeDiff, Bool.true_eq_false, Bool.false_eq_true, beq_self_eq_true]
      exact h
  · exact ⟨rfl, rfl, rfl, rfl, fun _ => ⟨rfl, by decide⟩, by rw [List.drop_zero], rfl, rfl⟩
end Go.Proofs.Qq.Qqd

namespace Go.Proofs.Qq.Qqd
open Go.Proofs.Qq

theorem vrL_pos : ∀ (bs : List UInt8) (i acc v n : Nat), vrL bs i acc = some (v, n) → i < n ∧ n ≤ i + bs.length
  | [], i, acc, v, n, h => by simp [vrL] at h
  | b :: r, i, acc, v, n, h => by
    rw [vrL] at h
    split at h
    · cases h
    · split at h
      · have := vrL_pos r _ _ _ _ h
        simp only [List.length_cons]; omega
      · split at h
        · cases h
        · simp only [Option.some.injEq, Prod.mk.injEq] at h
          simp only [List.length_cons]; omega

theorem vrL_lt : ∀ (bs : List UInt8) (i acc v n : Nat), acc < 128 ^ i → vrL bs i acc = some (v, n) → v < 18446744073709551616
  | [], i, acc, v, n, _, h => by simp [vrL] at h
  | b :: r, i, acc, v, n, ha, h => by
    have hb : b.toNat < 256 := b.toNat_lt
    rw [vrL] at h
    split at h
    · cases h
    · rename_i hi
      split at h
      · refine vrL_lt r _ _ _ _ ?_ h
        have h6 : (b.toNat - 128) * 128 ^ i ≤ 127 * 128 ^ i := Nat.mul_le_mul_right _ (by omega)
        rw [Nat.pow_succ]; omega
      · rename_i h128
        split at h
        · cases h
        · rename_i hbad
          simp only [Option.some.injEq, Prod.mk.injEq] at h
          rw [← h.1]
          by_cases hc : i ≤ 8
          · have h1 : 128 ^ i ≤ 128 ^ 8 := Nat.pow_le_pow_right (by decide) hc
            have h2 : b.toNat * 128 ^ i ≤ 127 * 128 ^ 8 := Nat.mul_le_mul (by omega) h1
            have h3 : (128 : Nat) ^ 8 = 72057594037927936 := by decide
            omega
          · have h1 : 128 ^ i ≤ 128 ^ 9 := Nat.pow_le_pow_right (by decide) (by omega)
            have h2 : b.toNat * 128 ^ i ≤ 1 * 128 ^ 9 := Nat.mul_le_mul (by omega) h1
            have h3 : (128 : Nat) ^ 9 = 9223372036854775808 := by decide
            omega

/-- What reading a number at a place comes to: the number, the place behind, whether it is none. -/
def rdU (bs : List UInt8) (at_ : Int) : Nat × Int × Int :=
  if at_ < 0 ∨ (bs.length : Int) < at_ then (0, at_, 2)
  else match vrL (bs.drop at_.toNat) 0 0 with
    | some (v, n) => (v, at_ + n, 0)
    | none => (0, at_, 2)

set_option maxHeartbeats 4000000 in
/-- pack.read -/
theorem run87 (bs : List UInt8) (hlen : bs.length ≤ 9223372036854775807) (a : Option (Nat × Nat)) (c : Option Nat) (H : AHeap) (ha : At H a (bytesA bs)) (hc : ∀ k, c = some k → bs.length ≤ k) (p : Int) (Q : AV → AHeap → Nat → Prop)
    (h : Q (.tup [.int .u64 (rdU bs p).1, .int .i64 (rdU bs p).2.1, .int .i64 (rdU bs p).2.2]) H H.length) : WF T 87 [.slice a bs.length c, .int .i64 p] H Q := by
  refine (WF_code (fn := a87) rfl _ _ _).2 ?_
  unfold rdU at h
  by_cases h1 : p < 0
  · rw [if_pos (.inl h1)] at h
    simp only [a87, h1, AV.undef, unA, qs, qb, qe, qi, qp, qm, qh, set_newRow_at, Int.reduceToNat, Nat.reduceMul, List.getElem?_cons_succ, List.getElem?_cons_zero, false_implies, true_implies, forall_const, implies_true, set_newRow_lt, Nat.lt_add_one, Nat.min_eq_left, Nat.le_add_right, qc, fillA, evParts, repCells, wrRow_eq, splice, partA, List.length_cons, List.length_nil, List.take_succ_cons, List.take_zero, List.drop_succ_cons, List.drop_zero, List.cons_append, Option.bind_some, Nat.add_zero, Nat.zero_add, List.drop_nil, List.take_nil, Nat.le_refl, Nat.min_self, WO_pure, WO_mem, pureStep, memStep, WC_true, WC_false, WO_guardq, qg, retQ, resOf, resAll, resA, wp_some, kv_ite, km_ite, kv_none, ↓reduceIte, Nat.reduceEqDiff, reduceCtorEq, decide_true, decide_false, Bool.not_true, Bool.not_false, List.map_cons, List.map_nil, List.nil_append, List.append_nil, Option.map_some, Option.map_none, if_true, if_false, true_and, and_true, Int.reduceEq, Int.reduceLT, Int.reduceLE, Int.reduceNeg, Nat.reduceAdd, Nat.reduceLeDiff, Bool.true_eq_false, Bool.false_eq_true, beq_self_eq_true]
    exact h
  by_cases h2 : (bs.length : Int) < p
  · rw [if_pos (.inr h2)] at h
    simp only [a87, h1, h2, AV.undef, unA, qs, qb, qe, qi, qp, qm, qh, set_newRow_at, Int.reduceToNat, Nat.reduceMul, List.getElem?_cons_succ, List.getElem?_cons_zero, false_implies, true_implies, forall_const, implies_true, set_newRow_lt, Nat.lt_add_one, Nat.min_eq_left, Nat.le_add_right, qc, fillA, evParts, repCells, wrRow_eq, splice, partA, List.length_cons, List.length_nil, List.take_succ_cons, List.take_zero, List.drop_succ_cons, List.drop_zero, List.cons_append, Option.bind_some, Nat.add_zero, Nat.zero_add, List.drop_nil, List.take_nil, Nat.le_refl, Nat.min_self, WO_pure, WO_mem, pureStep, memStep, WC_true, WC_false, WO_guardq, qg, retQ, resOf, resAll, resA, wp_some, kv_ite, km_ite, kv_none, ↓reduceIte, Nat.reduceEqDiff, reduceCtorEq, decide_true, decide_false, Bool.not_true, Bool.not_false, List.map_cons, List.map_nil, List.nil_append, List.append_nil, Option.map_some, Option.map_none, if_true, if_false, true_and, and_true, Int.reduceEq, Int.reduceLT, Int.reduceLE, Int.reduceNeg, Nat.reduceAdd, Nat.reduceLeDiff, Bool.true_eq_false, Bool.false_eq_true, beq_self_eq_true]
    exact h
  rw [if_neg (by omega)] at h
  obtain ⟨l, rfl⟩ : ∃ l : Nat, p = l := ⟨p.toNat, by omega⟩
  obtain ⟨a', c', hs, hat, hc'⟩ := slice_rest ha (c := c) (l := l) (by simpa [bytesA_len] using hc) (by rw [bytesA_len]; omega) .i64
  rw [bytesA_len] at hs hc'
  rw [bytesA_drop] at hat
  have hdl : bs.length - l = (bs.drop l).length := by simp
  rw [hdl] at hs
  rw [Int.toNat_natCast] at h
  simp only [a87, h1, h2, hs, AV.undef, unA, qs, qb, qe, qi, qp, qm, qh, set_newRow_at, Int.reduceToNat, Nat.reduceMul, List.getElem?_cons_succ, List.getElem?_cons_zero, false_implies, true_implies, forall_const, implies_true, set_newRow_lt, Nat.lt_add_one, Nat.min_eq_left, Nat.le_add_right, qc, fillA, evParts, repCells, wrRow_eq, splice, partA, List.length_cons, List.length_nil, List.take_succ_cons, List.take_zero, List.drop_succ_cons, List.drop_zero, List.cons_append, Option.bind_some, Nat.add_zero, Nat.zero_add, List.drop_nil, List.take_nil, Nat.le_refl, Nat.min_self, WO_pure, WO_mem, pureStep, memStep, WC_true, WC_false, WO_guardq, qg, retQ, resOf, resAll, resA, wp_some, kv_ite, km_ite, kv_none, ↓reduceIte, Nat.reduceEqDiff, reduceCtorEq, decide_true, decide_false, Bool.not_true, Bool.not_false, List.map_cons, List.map_nil, List.nil_append, List.append_nil, Option.map_some, Option.map_none, if_true, if_false, true_and, and_true, Int.reduceEq, Int.reduceLT, Int.reduceLE, Int.reduceNeg, Nat.reduceAdd, Nat.reduceLeDiff, Bool.true_eq_false, Bool.false_eq_true, beq_self_eq_true]
  refine WO_call rfl (run113 (bs.drop l) (by rw [List.length_drop]; omega) a' c' H hat _ ?_)
  cases hv : vrL (bs.drop l) 0 0 with
  | none =>
    rw [hv] at h
    simp only [vrOut, AV.undef, unA, qs, qb, qe, qi, qp, qm, qh, set_newRow_at, Int.reduceToNat, Nat.reduceMul, List.getElem?_cons_succ, List.getElem?_cons_zero, false_implies, true_implies, forall_const, implies_true, set_newRow_lt, Nat.lt_add_one, Nat.min_eq_left, Nat.le_add_right, qc, fillA, evParts, repCells, wrRow_eq, splice, partA, List.length_cons, List.length_nil, List.take_succ_cons, List.take_zero, List.drop_succ_cons, List.drop_zero, List.cons_append, Option.bind_some, Nat.add_zero, Nat.zero_add, List.drop_nil, List.take_nil, Nat.le_refl, Nat.min_self, WO_pure, WO_mem, pureStep, memStep, WC_true, WC_false, WO_guardq, qg, retQ, resOf, resAll, resA, wp_some, kv_ite, km_ite, kv_none, ↓reduceIte, Nat.reduceEqDiff, reduceCtorEq, decide_true, decide_false, Bool.not_true, Bool.not_false, List.map_cons, List.map_nil, List.nil_append, List.append_nil, Option.map_some, Option.map_none, if_true, if_false, true_and, and_true, Int.reduceEq, Int.reduceLT, Int.reduceLE, Int.reduceNeg, Nat.reduceAdd, Nat.reduceLeDiff, Bool.true_eq_false, Bool.false_eq_true, beq_self_eq_true]
    exact h
  | some r =>
    obtain ⟨v, n⟩ := r
    rw [hv] at h
    have hp := vrL_pos _ _ _ _ _ hv
    rw [List.length_drop] at hp
    have z : ¬ (n : Int) = 0 := by omega
    have e4 : IntKind.i64.wrap ((l : Int) + (n : Int)) = (l : Int) + (n : Int) := w64 (by omega) (by omega)
    simp only [vrOut, z, e4, AV.undef, unA, qs, qb, qe, qi, qp, qm, qh, set_newRow_at, Int.reduceToNat, Nat.reduceMul, List.getElem?_cons_succ, List.getElem?_cons_zero, false_implies, true_implies, forall_const, implies_true, set_newRow_lt, Nat.lt_add_one, Nat.min_eq_left, Nat.le_add_right, qc, fillA, evParts, repCells, wrRow_eq, splice, partA, List.length_cons, List.length_nil, List.take_succ_cons, List.take_zero, List.drop_succ_cons, List.drop_zero, List.cons_append, Option.bind_some, Nat.add_zero, Nat.zero_add, List.drop_nil, List.take_nil, Nat.le_refl, Nat.min_self, WO_pure, WO_mem, pureStep, memStep, WC_true, WC_false, WO_guardq, qg, retQ, resOf, resAll, resA, wp_some, kv_ite, km_ite, kv_none, ↓reduceIte, Nat.reduceEqDiff, reduceCtorEq, decide_true, decide_false, Bool.not_true, Bool.not_false, List.map_cons, List.map_nil, List.nil_append, List.append_nil, Option.map_some, Option.map_none, if_true, if_false, true_and, and_true, Int.reduceEq, Int.reduceLT, Int.reduceLE, Int.reduceNeg, Nat.reduceAdd, Nat.reduceLeDiff, Bool.true_eq_false, Bool.false_eq_true, beq_self_eq_true]
    exact h
end Go.Proofs.Qq.Qqd

namespace Go.Proofs.Qq.Qqd
open Go.Proofs.Qq

theorem rdU_lt (bs : List UInt8) (p : Int) : (rdU bs p).1 < 18446744073709551616 := by
  unfold rdU
  split
  · simp
  · cases h : vrL (bs.drop p.toNat) 0 0 with
    | none => simp
    | some r =>
      obtain ⟨v, n⟩ := r
      exact vrL_lt _ _ _ _ _ (by decide) h

set_option maxHeartbeats 4000000 in
/-- pack.ReadInt -/
theorem run55 (bs : List UInt8) (hlen : bs.length ≤ 9223372036854775807) (a : Option (Nat × Nat)) (c : Option Nat) (H : AHeap) (ha : At H a (bytesA bs)) (hc : ∀ k, c = some k → bs.length ≤ k) (p : Int) (Q : AV → AHeap → Nat → Prop)
    (h : Q (.tup [.int .i64 (zag (rdU bs p).1), .int .i64 (rdU bs p).2.1, .int .i64 (rdU bs p).2.2]) H H.length) : WF T 55 [.slice a bs.length c, .int .i64 p] H Q := by
  refine (WF_code (fn := a55) rfl _ _ _).2 ?_
  simp only [a55, AV.undef, unA, qs, qb, qe, qi, qp, qm, qh, set_newRow_at, Int.reduceToNat, Nat.reduceMul, List.getElem?_cons_succ, List.getElem?_cons_zero, false_implies, true_implies, forall_const, implies_true, set_newRow_lt, Nat.lt_add_one, Nat.min_eq_left, Nat.le_add_right, qc, fillA, evParts, repCells, wrRow_eq, splice, partA, List.length_cons, List.length_nil, List.take_succ_cons, List.take_zero, List.drop_succ_cons, List.drop_zero, List.cons_append, Option.bind_some, Nat.add_zero, Nat.zero_add, List.drop_nil, List.take_nil, Nat.le_refl, Nat.min_self, WO_pure, WO_mem, pureStep, memStep, WC_true, WC_false, WO_guardq, qg, retQ, resOf, resAll, resA, wp_some, kv_ite, km_ite, kv_none, ↓reduceIte, Nat.reduceEqDiff, reduceCtorEq, decide_true, decide_false, Bool.not_true, Bool.not_false, List.map_cons, List.map_nil, List.nil_append, List.append_nil, Option.map_some, Option.map_none, if_true, if_false, true_and, and_true, Int.reduceEq, Int.reduceLT, Int.reduceLE, Int.reduceNeg, Nat.reduceAdd, Nat.reduceLeDiff, Bool.true_eq_false, Bool.false_eq_true, beq_self_eq_true]
  refine WO_call rfl (run87 bs hlen a c H ha hc p _ ?_)
  simp only [AV.undef, unA, qs, qb, qe, qi, qp, qm, qh, set_newRow_at, Int.reduceToNat, Nat.reduceMul, List.getElem?_cons_succ, List.getElem?_cons_zero, false_implies, true_implies, forall_const, implies_true, set_newRow_lt, Nat.lt_add_one, Nat.min_eq_left, Nat.le_add_right, qc, fillA, evParts, repCells, wrRow_eq, splice, partA, List.length_cons, List.length_nil, List.take_succ_cons, List.take_zero, List.drop_succ_cons, List.drop_zero, List.cons_append, Option.bind_some, Nat.add_zero, Nat.zero_add, List.drop_nil, List.take_nil, Nat.le_refl, Nat.min_self, WO_pure, WO_mem, pureStep, memStep, WC_true, WC_false, WO_guardq, qg, retQ, resOf, resAll, resA, wp_some, kv_ite, km_ite, kv_none, ↓reduceIte, Nat.reduceEqDiff, reduceCtorEq, decide_true, decide_false, Bool.not_true, Bool.not_false, List.map_cons, List.map_nil, List.nil_append, List.append_nil, Option.map_some, Option.map_none, if_true, if_false, true_and, and_true, Int.reduceEq, Int.reduceLT, Int.reduceLE, Int.reduceNeg, Nat.reduceAdd, Nat.reduceLeDiff, Bool.true_eq_false, Bool.false_eq_true, beq_self_eq_true]
  refine WO_call rfl (run88 _ (rdU_lt bs p) H _ ?_)
  simp only [AV.undef, unA, qs, qb, qe, qi, qp, qm, qh, set_newRow_at, Int.reduceToNat, Nat.reduceMul, List.getElem?_cons_succ, List.getElem?_cons_zero, false_implies, true_implies, forall_const, implies_true, set_newRow_lt, Nat.lt_add_one, Nat.min_eq_left, Nat.le_add_right, qc, fillA, evParts, repCells, wrRow_eq, splice, partA, List.length_cons, List.length_nil, List.take_succ_cons, List.take_zero, List.drop_succ_cons, List.drop_zero, List.cons_append, Option.bind_some, Nat.add_zero, Nat.zero_add, List.drop_nil, List.take_nil, Nat.le_refl, Nat.min_self, WO_pure, WO_mem, pureStep, memStep, WC_true, WC_false, WO_guardq, qg, retQ, resOf, resAll, resA, wp_some, kv_ite, km_ite, kv_none, ↓reduceIte, Nat.reduceEqDiff, reduceCtorEq, decide_true, decide_false, Bool.not_true, Bool.not_false, List.map_cons, List.map_nil, List.nil_append, List.append_nil, Option.map_some, Option.map_none, if_true, if_false, true_and, and_true, Int.reduceEq, Int.reduceLT, Int.reduceLE, Int.reduceNeg, Nat.reduceAdd, Nat.reduceLeDiff, Bool.true_eq_false, Bool.false_eq_true, beq_self_eq_true]
  exact h

/-- Groups of seven bits, the lowest first. -/
def hsum : List UInt8 → Nat
  | [] => 0
  | x :: xs => x.toNat % 128 + 128 * hsum xs

theorem hsum_app (b : UInt8) : ∀ l : List UInt8, hsum (l ++ [b]) = hsum l + (b.toNat % 128) * 128 ^ l.length
  | [] => by simp [hsum]
  | x :: xs => by
    rw [List.cons_append, hsum, hsum_app b xs, hsum, List.length_cons, Nat.pow_succ, Nat.mul_add, Nat.add_assoc]
    congr 1
    rw [Nat.mul_comm (128 ^ xs.length) 128, ← Nat.mul_assoc, ← Nat.mul_assoc, Nat.mul_comm 128 (b.toNat % 128)]

theorem vrL_run (rest : List UInt8) : ∀ (pre : List UInt8) (i acc : Nat), (∀ x, x ∈ pre → 128 ≤ x.toNat) → i + pre.length ≤ 10 → vrL (pre ++ rest) i acc = vrL rest (i + pre.length) (acc + 128 ^ i * hsum pre)
  | [], i, acc, _, _ => by simp [hsum]
  | x :: xs, i, acc, h, hl => by
    have hx := h x List.mem_cons_self
    have h256 : x.toNat < 256 := x.toNat_lt
    simp only [List.length_cons] at hl
    rw [List.cons_append, vrL, if_neg (by omega), if_pos hx, vrL_run rest xs (i + 1) _ (fun y hy => h y (List.mem_cons_of_mem _ hy)) (by omega), hsum, List.length_cons]
    have e1 : x.toNat % 128 = x.toNat - 128 := by omega
    rw [e1, Nat.pow_succ, Nat.mul_add, Nat.mul_comm (128 ^ i) (x.toNat - 128), Nat.mul_assoc (128 ^ i)]
    congr 1
    · omega
    · rw [Nat.add_assoc]

theorem vrL_long (rest : List UInt8) : ∀ (pre : List UInt8) (i acc : Nat), (∀ x, x ∈ pre → 128 ≤ x.toNat) → 10 < i + pre.length → vrL (pre ++ rest) i acc = none ∨ pre = []
  | [], i, acc, _, _ => .inr rfl
  | x :: xs, i, acc, h, hl => by
    left
    simp only [List.length_cons] at hl
    rw [List.cons_append, vrL]
    by_cases h10 : 10 ≤ i
    · rw [if_pos h10]
    · rw [if_neg h10, if_pos (h x List.mem_cons_self)]
      rcases vrL_long rest xs (i + 1) (acc + (x.toNat - 128) * 128 ^ i) (fun y hy => h y (List.mem_cons_of_mem _ hy)) (by omega) with h1 | h1
      · exact h1
      · subst h1; simp at hl; omega

/-- A number's bytes: those that go on, and the last. -/
theorem vrL_parts (pre : List UInt8) (b : UInt8) (rest : List UInt8) (h : ∀ x, x ∈ pre → 128 ≤ x.toNat) (hb : b.toNat < 128) :
    vrL (pre ++ b :: rest) 0 0 = if 9 < pre.length ∨ (0 < pre.length ∧ b.toNat = 0) ∨ (pre.length = 9 ∧ 1 < b.toNat) then none else some (hsum (pre ++ [b]), pre.length + 1) := by
  by_cases hl : pre.length ≤ 10
  · rw [vrL_run _ pre 0 0 h (by omega), vrL]
    simp only [Nat.zero_add, Nat.pow_zero, Nat.one_mul]
    by_cases h9 : 10 ≤ pre.length
    · rw [if_pos h9, if_pos (by omega)]
    · rw [if_neg h9, if_neg (by omega)]
      by_cases hbad : (b.toNat = 0 ∧ 0 < pre.length) ∨ (pre.length = 9 ∧ 1 < b.toNat)
      · rw [if_pos hbad, if_pos (by omega)]
      · rw [if_neg hbad, if_neg (by omega), hsum_app, Nat.mod_eq_of_lt hb]
  · rw [if_pos (by omega)]
    rcases vrL_long (b :: rest) pre 0 0 h (by omega) with h1 | h1
    · exact h1
    · subst h1; simp at hl

theorem vrL_none : ∀ (l : List UInt8) (i acc : Nat), (∀ x, x ∈ l → 128 ≤ x.toNat) → vrL l i acc = none
  | [], _, _, _ => rfl
  | x :: xs, i, acc, h => by
    rw [vrL]
    split
    · rfl
    · rw [if_pos (h x List.mem_cons_self)]; exact vrL_none xs _ _ (fun y hy => h y (List.mem_cons_of_mem _ hy))

/-- Where the groups that go on end. -/
def Goes (bs : List UInt8) (l i : Nat) : Prop := ∀ k, l ≤ k → k < i → ∃ b, bs[k]? = some b ∧ 128 ≤ b.toNat

def ScanInv (bs : List UInt8) (a : Option (Nat × Nat)) (c : Option Nat) (H : AHeap) (l n : Nat) (s : AS) : Prop :=
  ∃ i : Nat, n = bs.length - i ∧ l ≤ i ∧ (i ≤ bs.length ∨ i = l) ∧ s.env 0 = .slice a bs.length c ∧ s.env 1 = .int .i64 (l : Int) ∧ s.env 7 = .int .i64 (i : Int) ∧ Goes bs l i ∧ s.heap = H ∧ s.low = H.length

def HornInv (bs ws : List UInt8) (a : Option (Nat × Nat)) (c : Option Nat) (H : AHeap) (l i n : Nat) (s : AS) : Prop :=
  ∃ j : Nat, n = j ∧ l ≤ j ∧ j ≤ i + 1 ∧ s.env 0 = .slice a bs.length c ∧ s.env 1 = .int .i64 (l : Int) ∧ s.env 7 = .int .i64 (i : Int) ∧ s.env 9 = .int .i64 ((j : Int) - 1) ∧
    s.env 8 = .int .u64 ((hsum (ws.drop (j - l)) : Nat) : Int) ∧ s.heap = H ∧ s.low = H.length

theorem hsum_drop : ∀ (xs : List UInt8) (k : Nat), hsum (xs.drop k) ≤ hsum xs
  | [], k => by simp
  | x :: xs, 0 => by simp
  | x :: xs, k + 1 => by
    rw [List.drop_succ_cons, hsum]
    have := hsum_drop xs k
    omega

/-- Parts of code. -/
def lc : ACode → ACode
  | .seq a _ => a
  | .block _ b => b
  | c => c
def rc : ACode → ACode
  | .seq _ b => b
  | c => c

set_option maxHeartbeats 8000000 in
/-- barrowref03.read's second loop, and what stands behind it. -/
theorem horn86 (bs ws : List UInt8) (a : Option (Nat × Nat)) (c : Option Nat) (H : AHeap) (ha : At H a (bytesA bs)) (l i : Nat) (hi : i < bs.length) (hli : l ≤ i) (hw : ws = (bs.drop l).take (i + 1 - l)) (hlen : bs.length ≤ 9223372036854775806)
    (hV : hsum ws < 18446744073709551616) (Q : AV → AHeap → Nat → Prop) (h : Q (.tup [.int .u64 ((hsum ws : Nat) : Int), .int .i64 ((i : Int) + 1), .bool true]) H H.length)
    (e : Env) (k0 : e 0 = .slice a bs.length c) (k1 : e 1 = .int .i64 (l : Int)) (k7 : e 7 = .int .i64 (i : Int)) (k9 : e 9 = .int .i64 (i : Int)) (k8 : e 8 = .int .u64 0) :
    WC T (lc (rc (lc (rc (rc (rc (rc (rc (rc a86.body))))))))) ⟨e, H, H.length⟩ (blkQ 2 (seqQ T (rc (rc (rc (rc (rc (rc (rc a86.body))))))) (retQ a86.results Q))) := by
  have hwl : ws.length = i + 1 - l := by rw [hw, List.length_take, List.length_drop]; omega
  refine WC_loop (HornInv bs ws a c H l i) ?_ (i + 1) _ ⟨i + 1, rfl, by omega, by omega, k0, k1, k7, ?_, ?_, rfl, rfl⟩
  · rintro n ⟨e2, H2, lw2⟩ ⟨j, hn2, hlj, hji, k0, k1, k7, k9, k8, kH, kL⟩
    simp only [] at k0 k1 k7 k9 k8 kH kL
    subst kH; subst kL
    by_cases hgt : l < j
    · obtain ⟨b, hb⟩ : ∃ b, bs[j - 1]? = some b := ⟨bs[j - 1]'(by omega), List.getElem?_eq_getElem (by omega)⟩
      obtain ⟨ri, ro, rfl⟩ := ha.some_of (j := j - 1) (by rw [bytesA_len]; omega)
      have hld := ha.load (bytesA_get hb)
      have hb256 : b.toNat < 256 := b.toNat_lt
      have q1 : (l : Int) ≤ (j : Int) - 1 := by omega
      have q2 : (0 : Int) ≤ (j : Int) - 1 ∧ (j : Int) - 1 < (bs.length : Int) := by omega
      have q3 : ((j : Int) - 1).toNat = j - 1 := by omega
      have q4 : IntKind.i64.wrap ((j : Int) - 1 - 1) = ((j - 1 : Nat) : Int) - 1 := by rw [w64 (by omega) (by omega)]; omega
      have hx : ws.drop (j - 1 - l) = b :: ws.drop (j - l) := by
        have hlt : j - 1 - l < ws.length := by omega
        rw [List.drop_eq_getElem_cons hlt, show j - 1 - l + 1 = j - l by omega]
        congr 1
        have : ws[j - 1 - l]? = some b := by
          rw [hw, List.getElem?_take, if_pos (by omega), List.getElem?_drop, show l + (j - 1 - l) = j - 1 by omega]; exact hb
        rw [List.getElem?_eq_getElem hlt] at this; exact Option.some.inj this
      have hle := hsum_drop ws (j - 1 - l)
      have hs1 : hsum (ws.drop (j - 1 - l)) = b.toNat % 128 + 128 * hsum (ws.drop (j - l)) := by rw [hx, hsum]
      have q5 : IntKind.u64.wrap (128 * ((hsum (ws.drop (j - l)) : Nat) : Int)) = 128 * ((hsum (ws.drop (j - l)) : Nat) : Int) := wu64 (by omega) (by omega)
      have q6 : (b.toNat : Int).tmod 128 = ((b.toNat % 128 : Nat) : Int) := rfl
      have q7 : IntKind.u64.wrap ((b.toNat % 128 : Nat) : Int) = ((b.toNat % 128 : Nat) : Int) := wu64 (by omega) (by omega)
      have q8 : IntKind.u64.wrap (128 * ((hsum (ws.drop (j - l)) : Nat) : Int) + ((b.toNat % 128 : Nat) : Int)) = ((hsum (ws.drop (j - 1 - l)) : Nat) : Int) := by rw [wu64 (by omega) (by omega)]; omega
      simp only [a86, lc, rc, k0, k1, k7, k9, k8, q1, q2, q3, q4, q5, q6, q7, q8, hld, AV.undef, unA, qs, qb, qe, qi, qp, qm, qh, set_newRow_at, Int.reduceToNat, Nat.reduceMul, List.getElem?_cons_succ, List.getElem?_cons_zero, false_implies, true_implies, forall_const, implies_true, set_newRow_lt, Nat.lt_add_one, Nat.min_eq_left, Nat.le_add_right, qc, fillA, evParts, repCells, wrRow_eq, splice, partA, List.length_cons, List.length_nil, List.take_succ_cons, List.take_zero, List.drop_succ_cons, List.drop_zero, List.cons_append, Option.bind_some, Nat.add_zero, Nat.zero_add, List.drop_nil, List.take_nil, Nat.le_refl, Nat.min_self, WO_pure, WO_mem, pureStep, memStep, WC_true, WC_false, WO_guardq, qg, retQ, resOf, resAll, resA, wp_some, kv_ite, km_ite, kv_none, ↓reduceIte, Nat.reduceEqDiff, reduceCtorEq, decide_true, decide_false, Bool.not_true, Bool.not_false, List.map_cons, List.map_nil, List.nil_append, List.append_nil, Option.map_some, Option.map_none, if_true, if_false, true_and, and_true, Int.reduceEq, Int.reduceLT, Int.reduceLE, Int.reduceNeg, Nat.reduceAdd, Nat.reduceLeDiff, Bool.true_eq_false, Bool.false_eq_true, beq_self_eq_true]
      refine ⟨_, by omega, j - 1, rfl, by omega, by omega, ?_, ?_, ?_, ?_, ?_, rfl, rfl⟩ <;> simp only [k0, k1, k7, AV.undef, unA, qs, qb, qe, qi, qp, qm, qh, set_newRow_at, Int.reduceToNat, Nat.reduceMul, List.getElem?_cons_succ, List.getElem?_cons_zero, false_implies, true_implies, forall_const, implies_true, set_newRow_lt, Nat.lt_add_one, Nat.min_eq_left, Nat.le_add_right, qc, fillA, evParts, repCells, wrRow_eq, splice, partA, List.length_cons, List.length_nil, List.take_succ_cons, List.take_zero, List.drop_succ_cons, List.drop_zero, List.cons_append, Option.bind_some, Nat.add_zero, Nat.zero_add, List.drop_nil, List.take_nil, Nat.le_refl, Nat.min_self, WO_pure, WO_mem, pureStep, memStep, WC_true, WC_false, WO_guardq, qg, retQ, resOf, resAll, resA, wp_some, kv_ite, km_ite, kv_none, ↓reduceIte, Nat.reduceEqDiff, reduceCtorEq, decide_true, decide_false, Bool.not_true, Bool.not_false, List.map_cons, List.map_nil, List.nil_append, List.append_nil, Option.map_some, Option.map_none, if_true, if_false, true_and, and_true, Int.reduceEq, Int.reduceLT, Int.reduceLE, Int.reduceNeg, Nat.reduceAdd, Nat.reduceLeDiff, Bool.true_eq_false, Bool.false_eq_true, beq_self_eq_true]
    · have hjl : j = l := by omega
      subst hjl
      have q1 : ¬ (j : Int) ≤ (j : Int) - 1 := by omega
      have q4 : IntKind.i64.wrap ((i : Int) + 1) = (i : Int) + 1 := w64 (by omega) (by omega)
      rw [Nat.sub_self, List.drop_zero] at k8
      simp only [a86, lc, rc, k0, k1, k7, k9, k8, q1, q4, AV.undef, unA, qs, qb, qe, qi, qp, qm, qh, set_newRow_at, Int.reduceToNat, Nat.reduceMul, List.getElem?_cons_succ, List.getElem?_cons_zero, false_implies, true_implies, forall_const, implies_true, set_newRow_lt, Nat.lt_add_one, Nat.min_eq_left, Nat.le_add_right, qc, fillA, evParts, repCells, wrRow_eq, splice, partA, List.length_cons, List.length_nil, List.take_succ_cons, List.take_zero, List.drop_succ_cons, List.drop_zero, List.cons_append, Option.bind_some, Nat.add_zero, Nat.zero_add, List.drop_nil, List.take_nil, Nat.le_refl, Nat.min_self, WO_pure, WO_mem, pureStep, memStep, WC_true, WC_false, WO_guardq, qg, retQ, resOf, resAll, resA, wp_some, kv_ite, km_ite, kv_none, ↓reduceIte, Nat.reduceEqDiff, reduceCtorEq, decide_true, decide_false, Bool.not_true, Bool.not_false, List.map_cons, List.map_nil, List.nil_append, List.append_nil, Option.map_some, Option.map_none, if_true, if_false, true_and, and_true, Int.reduceEq, Int.reduceLT, Int.reduceLE, Int.reduceNeg, Nat.reduceAdd, Nat.reduceLeDiff, Bool.true_eq_false, Bool.false_eq_true, beq_self_eq_true]
      exact h
  · simp only [k9]; congr 1; omega
  · simp only [k8]
    rw [List.drop_eq_nil_of_le (by omega)]; rfl

def refOut (r : Nat × Int × Int) : AV := .tup [.int .u64 (r.1 : Int), .int .i64 r.2.1, .bool (decide (r.2.2 = 0))]

set_option maxHeartbeats 8000000 in
/-- barrowref03.read -/
theorem run86 (bs : List UInt8) (hlen : bs.length ≤ 9223372036854775806) (a : Option (Nat × Nat)) (c : Option Nat) (H : AHeap) (ha : At H a (bytesA bs)) (p : Int) (hp : p ≤ 9223372036854775806) (Q : AV → AHeap → Nat → Prop)
    (h : Q (refOut (rdU bs p)) H H.length) : WF T 86 [.slice a bs.length c, .int .i64 p] H Q := by
  refine (WF_code (fn := a86) rfl _ _ _).2 ?_
  by_cases h1 : p < 0
  · have : rdU bs p = (0, p, 2) := by unfold rdU; rw [if_pos (.inl h1)]
    rw [this] at h
    simp only [a86, h1, AV.undef, unA, qs, qb, qe, qi, qp, qm, qh, set_newRow_at, Int.reduceToNat, Nat.reduceMul, List.getElem?_cons_succ, List.getElem?_cons_zero, false_implies, true_implies, forall_const, implies_true, set_newRow_lt, Nat.lt_add_one, Nat.min_eq_left, Nat.le_add_right, qc, fillA, evParts, repCells, wrRow_eq, splice, partA, List.length_cons, List.length_nil, List.take_succ_cons, List.take_zero, List.drop_succ_cons, List.drop_zero, List.cons_append, Option.bind_some, Nat.add_zero, Nat.zero_add, List.drop_nil, List.take_nil, Nat.le_refl, Nat.min_self, WO_pure, WO_mem, pureStep, memStep, WC_true, WC_false, WO_guardq, qg, retQ, resOf, resAll, resA, wp_some, kv_ite, km_ite, kv_none, ↓reduceIte, Nat.reduceEqDiff, reduceCtorEq, decide_true, decide_false, Bool.not_true, Bool.not_false, List.map_cons, List.map_nil, List.nil_append, List.append_nil, Option.map_some, Option.map_none, if_true, if_false, true_and, and_true, Int.reduceEq, Int.reduceLT, Int.reduceLE, Int.reduceNeg, Nat.reduceAdd, Nat.reduceLeDiff, Bool.true_eq_false, Bool.false_eq_true, beq_self_eq_true]
    exact h
  obtain ⟨l, rfl⟩ : ∃ l : Nat, p = l := ⟨p.toNat, by omega⟩
  simp only [a86, h1, AV.undef, unA, qs, qb, qe, qi, qp, qm, qh, set_newRow_at, Int.reduceToNat, Nat.reduceMul, List.getElem?_cons_succ, List.getElem?_cons_zero, false_implies, true_implies, forall_const, implies_true, set_newRow_lt, Nat.lt_add_one, Nat.min_eq_left, Nat.le_add_right, qc, fillA, evParts, repCells, wrRow_eq, splice, partA, List.length_cons, List.length_nil, List.take_succ_cons, List.take_zero, List.drop_succ_cons, List.drop_zero, List.cons_append, Option.bind_some, Nat.add_zero, Nat.zero_add, List.drop_nil, List.take_nil, Nat.le_refl, Nat.min_self, WO_pure, WO_mem, pureStep, memStep, WC_true, WC_false, WO_guardq, qg, retQ, resOf, resAll, resA, wp_some, kv_ite, km_ite, kv_none, ↓reduceIte, Nat.reduceEqDiff, reduceCtorEq, decide_true, decide_false, Bool.not_true, Bool.not_false, List.map_cons, List.map_nil, List.nil_append, List.append_nil, Option.map_some, Option.map_none, if_true, if_false, true_and, and_true, Int.reduceEq, Int.reduceLT, Int.reduceLE, Int.reduceNeg, Nat.reduceAdd, Nat.reduceLeDiff, Bool.true_eq_false, Bool.false_eq_true, beq_self_eq_true]
  refine WC_loop (ScanInv bs a c H l) ?_ (bs.length - l) _ ⟨l, rfl, Nat.le_refl _, .inr rfl, rfl, rfl, rfl, (fun k h1 h2 => by omega), rfl, rfl⟩
  rintro n ⟨e, H', lw⟩ ⟨i, hn, hli, hil, h0, h1', h7, hg, hH, hL⟩
  simp only [] at h0 h1' h7 hH hL
  subst hH; subst hL
  by_cases hcont : ∃ b, bs[i]? = some b ∧ 128 ≤ b.toNat
  · obtain ⟨b, hb, h128⟩ := hcont
    have hilt : i < bs.length := (List.getElem?_eq_some_iff.1 hb).1
    obtain ⟨ri, ro, rfl⟩ := ha.some_of (j := i) (by rw [bytesA_len]; omega)
    have hld := ha.load (bytesA_get hb)
    have c1 : (i : Int) < (bs.length : Int) := by omega
    have c2 : (0 : Int) ≤ (i : Int) ∧ (i : Int) < (bs.length : Int) := by omega
    have c3 : (128 : Int) ≤ (b.toNat : Int) := by omega
    have e4 : IntKind.i64.wrap ((i : Int) + 1) = ((i + 1 : Nat) : Int) := by rw [w64 (by omega) (by omega)]; omega
    simp only [h0, h1', h7, c1, c2, c3, hld, e4, Int.toNat_natCast, AV.undef, unA, qs, qb, qe, qi, qp, qm, qh, set_newRow_at, Int.reduceToNat, Nat.reduceMul, List.getElem?_cons_succ, List.getElem?_cons_zero, false_implies, true_implies, forall_const, implies_true, set_newRow_lt, Nat.lt_add_one, Nat.min_eq_left, Nat.le_add_right, qc, fillA, evParts, repCells, wrRow_eq, splice, partA, List.length_cons, List.length_nil, List.take_succ_cons, List.take_zero, List.drop_succ_cons, List.drop_zero, List.cons_append, Option.bind_some, Nat.add_zero, Nat.zero_add, List.drop_nil, List.take_nil, Nat.le_refl, Nat.min_self, WO_pure, WO_mem, pureStep, memStep, WC_true, WC_false, WO_guardq, qg, retQ, resOf, resAll, resA, wp_some, kv_ite, km_ite, kv_none, ↓reduceIte, Nat.reduceEqDiff, reduceCtorEq, decide_true, decide_false, Bool.not_true, Bool.not_false, List.map_cons, List.map_nil, List.nil_append, List.append_nil, Option.map_some, Option.map_none, if_true, if_false, true_and, and_true, Int.reduceEq, Int.reduceLT, Int.reduceLE, Int.reduceNeg, Nat.reduceAdd, Nat.reduceLeDiff, Bool.true_eq_false, Bool.false_eq_true, beq_self_eq_true]
    refine ⟨_, by omega, i + 1, rfl, by omega, by omega, by simp only [h0, AV.undef, unA, qs, qb, qe, qi, qp, qm, qh, set_newRow_at, Int.reduceToNat, Nat.reduceMul, List.getElem?_cons_succ, List.getElem?_cons_zero, false_implies, true_implies, forall_const, implies_true, set_newRow_lt, Nat.lt_add_one, Nat.min_eq_left, Nat.le_add_right, qc, fillA, evParts, repCells, wrRow_eq, splice, partA, List.length_cons, List.length_nil, List.take_succ_cons, List.take_zero, List.drop_succ_cons, List.drop_zero, List.cons_append, Option.bind_some, Nat.add_zero, Nat.zero_add, List.drop_nil, List.take_nil, Nat.le_refl, Nat.min_self, WO_pure, WO_mem, pureStep, memStep, WC_true, WC_false, WO_guardq, qg, retQ, resOf, resAll, resA, wp_some, kv_ite, km_ite, kv_none, ↓reduceIte, Nat.reduceEqDiff, reduceCtorEq, decide_true, decide_false, Bool.not_true, Bool.not_false, List.map_cons, List.map_nil, List.nil_append, List.append_nil, Option.map_some, Option.map_none, if_true, if_false, true_and, and_true, Int.reduceEq, Int.reduceLT, Int.reduceLE, Int.reduceNeg, Nat.reduceAdd, Nat.reduceLeDiff, Bool.true_eq_false, Bool.false_eq_true, beq_self_eq_true], by simp only [h1', AV.undef, unA, qs, qb, qe, qi, qp, qm, qh, set_newRow_at, Int.reduceToNat, Nat.reduceMul, List.getElem?_cons_succ, List.getElem?_cons_zero, false_implies, true_implies, forall_const, implies_true, set_newRow_lt, Nat.lt_add_one, Nat.min_eq_left, Nat.le_add_right, qc, fillA, evParts, repCells, wrRow_eq, splice, partA, List.length_cons, List.length_nil, List.take_succ_cons, List.take_zero, List.drop_succ_cons, List.drop_zero, List.cons_append, Option.bind_some, Nat.add_zero, Nat.zero_add, List.drop_nil, List.take_nil, Nat.le_refl, Nat.min_self, WO_pure, WO_mem, pureStep, memStep, WC_true, WC_false, WO_guardq, qg, retQ, resOf, resAll, resA, wp_some, kv_ite, km_ite, kv_none, ↓reduceIte, Nat.reduceEqDiff, reduceCtorEq, decide_true, decide_false, Bool.not_true, Bool.not_false, List.map_cons, List.map_nil, List.nil_append, List.append_nil, Option.map_some, Option.map_none, if_true, if_false, true_and, and_true, Int.reduceEq, Int.reduceLT, Int.reduceLE, Int.reduceNeg, Nat.reduceAdd, Nat.reduceLeDiff, Bool.true_eq_false, Bool.false_eq_true, beq_self_eq_true], by simp only [AV.undef, unA, qs, qb, qe, qi, qp, qm, qh, set_newRow_at, Int.reduceToNat, Nat.reduceMul, List.getElem?_cons_succ, List.getElem?_cons_zero, false_implies, true_implies, forall_const, implies_true, set_newRow_lt, Nat.lt_add_one, Nat.min_eq_left, Nat.le_add_right, qc, fillA, evParts, repCells, wrRow_eq, splice, partA, List.length_cons, List.length_nil, List.take_succ_cons, List.take_zero, List.drop_succ_cons, List.drop_zero, List.cons_append, Option.bind_some, Nat.add_zero, Nat.zero_add, List.drop_nil, List.take_nil, Nat.le_refl, Nat.min_self, WO_pure, WO_mem, pureStep, memStep, WC_true, WC_false, WO_guardq, qg, retQ, resOf, resAll, resA, wp_some, kv_ite, km_ite, kv_none, ↓reduceIte, Nat.reduceEqDiff, reduceCtorEq, decide_true, decide_false, Bool.not_true, Bool.not_false, List.map_cons, List.map_nil, List.nil_append, List.append_nil, Option.map_some, Option.map_none, if_true, if_false, true_and, and_true, Int.reduceEq, Int.reduceLT, Int.reduceLE, Int.reduceNeg, Nat.reduceAdd, Nat.reduceLeDiff, Bool.true_eq_false, Bool.false_eq_true, beq_self_eq_true], ?_, rfl, rfl⟩
    intro k hk1 hk2
    by_cases hki : k = i
    · subst hki; exact ⟨b, hb, h128⟩
    · exact hg k hk1 (by omega)
  by_cases hilt : i < bs.length
  · obtain ⟨b, hb⟩ : ∃ b, bs[i]? = some b := ⟨bs[i], List.getElem?_eq_getElem hilt⟩
    have h128 : b.toNat < 128 := by
      apply Nat.lt_of_not_le
      intro hge; exact hcont ⟨b, hb, hge⟩
    obtain ⟨ri, ro, rfl⟩ := ha.some_of (j := i) (by rw [bytesA_len]; omega)
    have hld := ha.load (bytesA_get hb)
    have c1 : (i : Int) < (bs.length : Int) := by omega
    have c1' : ¬ (bs.length : Int) ≤ (i : Int) := by omega
    have c2 : (0 : Int) ≤ (i : Int) ∧ (i : Int) < (bs.length : Int) := by omega
    have c3 : ¬ (128 : Int) ≤ (b.toNat : Int) := by omega
    have e5 : IntKind.i64.wrap ((i : Int) - (l : Int)) = ((i - l : Nat) : Int) := by rw [w64 (by omega) (by omega)]; omega
    -- the parts of the text
    have hdl : bs.drop l = (bs.drop l).take (i - l) ++ b :: bs.drop (i + 1) := by
      have e1 : (bs.drop l).drop (i - l) = b :: bs.drop (i + 1) := by
        rw [List.drop_drop, show l + (i - l) = i by omega, List.drop_eq_getElem_cons hilt]
        congr 1
        rw [List.getElem?_eq_getElem hilt] at hb; exact Option.some.inj hb
      rw [← e1, List.take_append_drop]
    have hpl : ((bs.drop l).take (i - l)).length = i - l := by rw [List.length_take, List.length_drop]; omega
    have hpre : ∀ x, x ∈ (bs.drop l).take (i - l) → 128 ≤ x.toNat := by
      intro x hx
      obtain ⟨k, hk⟩ := List.getElem?_of_mem hx
      rw [List.getElem?_take] at hk
      split at hk
      · rename_i hkl
        rw [List.getElem?_drop] at hk
        obtain ⟨y, hy1, hy2⟩ := hg (l + k) (by omega) (by omega)
        rw [hk] at hy1; cases hy1; exact hy2
      · cases hk
    have hws : (bs.drop l).take (i + 1 - l) = (bs.drop l).take (i - l) ++ [b] := by
      rw [show i + 1 - l = (i - l) + 1 by omega, List.take_add_one, List.getElem?_drop, show l + (i - l) = i by omega, hb]; rfl
    have hv := vrL_parts _ b (bs.drop (i + 1)) hpre h128
    rw [← hdl, hpl, ← hws] at hv
    have hr : rdU bs l = match vrL (bs.drop l) 0 0 with | some (v, n) => (v, (l : Int) + n, 0) | none => (0, (l : Int), 2) := by
      unfold rdU; rw [if_neg (by omega), Int.toNat_natCast]; try rfl
    have hV : rdU bs l = (match some (hsum ((bs.drop l).take (i + 1 - l)), i - l + 1) with | some (v, n) => (v, (l : Int) + (n : Int), 0) | none => (0, (l : Int), 2)) → hsum ((bs.drop l).take (i + 1 - l)) < 18446744073709551616 := by
      intro hq
      have := rdU_lt bs l
      rw [hq] at this; exact this
    have hfin : rdU bs l = (match some (hsum ((bs.drop l).take (i + 1 - l)), i - l + 1) with | some (v, n) => (v, (l : Int) + (n : Int), 0) | none => (0, (l : Int), 2)) → Q (.tup [.int .u64 ((hsum ((bs.drop l).take (i + 1 - l)) : Nat) : Int), .int .i64 ((i : Int) + 1), .bool true]) H' H'.length := by
      intro hq
      rw [hq] at h
      have e9 : (l : Int) + ((i - l + 1 : Nat) : Int) = (i : Int) + 1 := by omega
      simp only [refOut, e9] at h
      exact h
    rw [hv] at hr
    by_cases g1 : 9 < i - l
    · rw [if_pos (.inl g1)] at hr
      rw [hr] at h
      have d1 : (9 : Int) < ((i - l : Nat) : Int) := by omega
      simp only [h0, h1', h7, c1, c1', c2, c3, e5, hld, d1, Int.toNat_natCast, AV.undef, unA, qs, qb, qe, qi, qp, qm, qh, set_newRow_at, Int.reduceToNat, Nat.reduceMul, List.getElem?_cons_succ, List.getElem?_cons_zero, false_implies, true_implies, forall_const, implies_true, set_newRow_lt, Nat.lt_add_one, Nat.min_eq_left, Nat.le_add_right, qc, fillA, evParts, repCells, wrRow_eq, splice, partA, List.length_cons, List.length_nil, List.take_succ_cons, List.take_zero, List.drop_succ_cons, List.drop_zero, List.cons_append, Option.bind_some, Nat.add_zero, Nat.zero_add, List.drop_nil, List.take_nil, Nat.le_refl, Nat.min_self, WO_pure, WO_mem, pureStep, memStep, WC_true, WC_false, WO_guardq, qg, retQ, resOf, resAll, resA, wp_some, kv_ite, km_ite, kv_none, ↓reduceIte, Nat.reduceEqDiff, reduceCtorEq, decide_true, decide_false, Bool.not_true, Bool.not_false, List.map_cons, List.map_nil, List.nil_append, List.append_nil, Option.map_some, Option.map_none, if_true, if_false, true_and, and_true, Int.reduceEq, Int.reduceLT, Int.reduceLE, Int.reduceNeg, Nat.reduceAdd, Nat.reduceLeDiff, Bool.true_eq_false, Bool.false_eq_true, beq_self_eq_true]
      exact h
    have d1 : ¬ (9 : Int) < ((i - l : Nat) : Int) := by omega
    by_cases g2 : 0 < i - l
    · have d2 : (l : Int) < (i : Int) := by omega
      by_cases g3 : b.toNat = 0
      · rw [if_pos (.inr (.inl ⟨g2, g3⟩))] at hr
        rw [hr] at h
        have d3 : (b.toNat : Int) = 0 := by omega
        simp only [h0, h1', h7, c1, c1', c2, c3, e5, hld, d1, d2, d3, Int.toNat_natCast, AV.undef, unA, qs, qb, qe, qi, qp, qm, qh, set_newRow_at, Int.reduceToNat, Nat.reduceMul, List.getElem?_cons_succ, List.getElem?_cons_zero, false_implies, true_implies, forall_const, implies_true, set_newRow_lt, Nat.lt_add_one, Nat.min_eq_left, Nat.le_add_right, qc, fillA, evParts, repCells, wrRow_eq, splice, partA, List.length_cons, List.length_nil, List.take_succ_cons, List.take_zero, List.drop_succ_cons, List.drop_zero, List.cons_append, Option.bind_some, Nat.add_zero, Nat.zero_add, List.drop_nil, List.take_nil, Nat.le_refl, Nat.min_self, WO_pure, WO_mem, pureStep, memStep, WC_true, WC_false, WO_guardq, qg, retQ, resOf, resAll, resA, wp_some, kv_ite, km_ite, kv_none, ↓reduceIte, Nat.reduceEqDiff, reduceCtorEq, decide_true, decide_false, Bool.not_true, Bool.not_false, List.map_cons, List.map_nil, List.nil_append, List.append_nil, Option.map_some, Option.map_none, if_true, if_false, true_and, and_true, Int.reduceEq, Int.reduceLT, Int.reduceLE, Int.reduceNeg, Nat.reduceAdd, Nat.reduceLeDiff, Bool.true_eq_false, Bool.false_eq_true, beq_self_eq_true]
        exact h
      have d3 : ¬ (b.toNat : Int) = 0 := by omega
      by_cases g4 : i - l = 9
      · have d4 : ((i - l : Nat) : Int) = 9 := by omega
        by_cases g5 : 1 < b.toNat
        · rw [if_pos (.inr (.inr ⟨g4, g5⟩))] at hr
          rw [hr] at h
          have d5 : (1 : Int) < (b.toNat : Int) := by omega
          simp only [h0, h1', h7, c1, c1', c2, c3, e5, hld, d2, d3, d4, d5, Int.toNat_natCast, AV.undef, unA, qs, qb, qe, qi, qp, qm, qh, set_newRow_at, Int.reduceToNat, Nat.reduceMul, List.getElem?_cons_succ, List.getElem?_cons_zero, false_implies, true_implies, forall_const, implies_true, set_newRow_lt, Nat.lt_add_one, Nat.min_eq_left, Nat.le_add_right, qc, fillA, evParts, repCells, wrRow_eq, splice, partA, List.length_cons, List.length_nil, List.take_succ_cons, List.take_zero, List.drop_succ_cons, List.drop_zero, List.cons_append, Option.bind_some, Nat.add_zero, Nat.zero_add, List.drop_nil, List.take_nil, Nat.le_refl, Nat.min_self, WO_pure, WO_mem, pureStep, memStep, WC_true, WC_false, WO_guardq, qg, retQ, resOf, resAll, resA, wp_some, kv_ite, km_ite, kv_none, ↓reduceIte, Nat.reduceEqDiff, reduceCtorEq, decide_true, decide_false, Bool.not_true, Bool.not_false, List.map_cons, List.map_nil, List.nil_append, List.append_nil, Option.map_some, Option.map_none, if_true, if_false, true_and, and_true, Int.reduceEq, Int.reduceLT, Int.reduceLE, Int.reduceNeg, Nat.reduceAdd, Nat.reduceLeDiff, Bool.true_eq_false, Bool.false_eq_true, beq_self_eq_true]
          exact h
        · rw [if_neg (by omega)] at hr
          have d5 : ¬ (1 : Int) < (b.toNat : Int) := by omega
          simp only [h0, h1', h7, c1, c1', c2, c3, e5, hld, d2, d3, d4, d5, Int.toNat_natCast, AV.undef, unA, qs, qb, qe, qi, qp, qm, qh, set_newRow_at, Int.reduceToNat, Nat.reduceMul, List.getElem?_cons_succ, List.getElem?_cons_zero, false_implies, true_implies, forall_const, implies_true, set_newRow_lt, Nat.lt_add_one, Nat.min_eq_left, Nat.le_add_right, qc, fillA, evParts, repCells, wrRow_eq, splice, partA, List.length_cons, List.length_nil, List.take_succ_cons, List.take_zero, List.drop_succ_cons, List.drop_zero, List.cons_append, Option.bind_some, Nat.add_zero, Nat.zero_add, List.drop_nil, List.take_nil, Nat.le_refl, Nat.min_self, WO_pure, WO_mem, pureStep, memStep, WC_true, WC_false, WO_guardq, qg, retQ, resOf, resAll, resA, wp_some, kv_ite, km_ite, kv_none, ↓reduceIte, Nat.reduceEqDiff, reduceCtorEq, decide_true, decide_false, Bool.not_true, Bool.not_false, List.map_cons, List.map_nil, List.nil_append, List.append_nil, Option.map_some, Option.map_none, if_true, if_false, true_and, and_true, Int.reduceEq, Int.reduceLT, Int.reduceLE, Int.reduceNeg, Nat.reduceAdd, Nat.reduceLeDiff, Bool.true_eq_false, Bool.false_eq_true, beq_self_eq_true]
          refine horn86 bs ((bs.drop l).take (i + 1 - l)) _ c _ ha l i hilt hli rfl hlen (hV hr) Q (hfin hr) _ ?_ ?_ ?_ ?_ ?_ <;> simp only [h0, h1', h7, AV.undef, unA, qs, qb, qe, qi, qp, qm, qh, set_newRow_at, Int.reduceToNat, Nat.reduceMul, List.getElem?_cons_succ, List.getElem?_cons_zero, false_implies, true_implies, forall_const, implies_true, set_newRow_lt, Nat.lt_add_one, Nat.min_eq_left, Nat.le_add_right, qc, fillA, evParts, repCells, wrRow_eq, splice, partA, List.length_cons, List.length_nil, List.take_succ_cons, List.take_zero, List.drop_succ_cons, List.drop_zero, List.cons_append, Option.bind_some, Nat.add_zero, Nat.zero_add, List.drop_nil, List.take_nil, Nat.le_refl, Nat.min_self, WO_pure, WO_mem, pureStep, memStep, WC_true, WC_false, WO_guardq, qg, retQ, resOf, resAll, resA, wp_some, kv_ite, km_ite, kv_none, ↓reduceIte, Nat.reduceEqDiff, reduceCtorEq, decide_true, decide_false, Bool.not_true, Bool.not_false, List.map_cons, List.map_nil, List.nil_append, List.append_nil, Option.map_some, Option.map_none, if_true, if_false, true_and, and_true, Int.reduceEq, Int.reduceLT, Int.reduceLE, Int.reduceNeg, Nat.reduceAdd, Nat.reduceLeDiff, Bool.true_eq_false, Bool.false_eq_true, beq_self_eq_true]
      · rw [if_neg (by omega)] at hr
        have d4 : ¬ ((i - l : Nat) : Int) = 9 := by omega
        simp only [h0, h1', h7, c1, c1', c2, c3, e5, hld, d1, d2, d3, d4, Int.toNat_natCast, AV.undef, unA, qs, qb, qe, qi, qp, qm, qh, set_newRow_at, Int.reduceToNat, Nat.reduceMul, List.getElem?_cons_succ, List.getElem?_cons_zero, false_implies, true_implies, forall_const, implies_true, set_newRow_lt, Nat.lt_add_one, Nat.min_eq_left, Nat.le_add_right, qc, fillA, evParts, repCells, wrRow_eq, splice, partA, List.length_cons, List.length_nil, List.take_succ_cons, List.take_zero, List.drop_succ_cons, List.drop_zero, List.cons_append, Option.bind_some, Nat.add_zero, Nat.zero_add, List.drop_nil, List.take_nil, Nat.le_refl, Nat.min_self, WO_pure, WO_mem, pureStep, memStep, WC_true, WC_false, WO_guardq, qg, retQ, resOf, resAll, resA, wp_some, kv_ite, km_ite, kv_none, ↓reduceIte, Nat.reduceEqDiff, reduceCtorEq, decide_true, decide_false, Bool.not_true, Bool.not_false, List.map_cons, List.map_nil, List.nil_append, List.append_nil, Option.map_some, Option.map_none, if_true, if_false, true_and, and_true, Int.reduceEq, Int.reduceLT, Int.reduceLE, Int.reduceNeg, Nat.reduceAdd, Nat.reduceLeDiff, Bool.true_eq_false, Bool.false_eq_true, beq_self_eq_true]
        refine horn86 bs ((bs.drop l).take (i + 1 - l)) _ c _ ha l i hilt hli rfl hlen (hV hr) Q (hfin hr) _ ?_ ?_ ?_ ?_ ?_ <;> simp only [h0, h1', h7, AV.undef, unA, qs, qb, qe, qi, qp, qm, qh, set_newRow_at, Int.reduceToNat, Nat.reduceMul, List.getElem?_cons_succ, List.getElem?_cons_zero, false_implies, true_implies, forall_const, implies_true, set_newRow_lt, Nat.lt_add_one, Nat.min_eq_left, Nat.le_add_right, qc, fillA, evParts, repCells, wrRow_eq, splice, partA, List.length_cons, List.length_nil, List.take_succ_cons, List.take_zero, List.drop_succ_cons, List.drop_zero, List.cons_append, Option.bind_some, Nat.add_zero, Nat.zero_add, List.drop_nil, List.take_nil, Nat.le_refl, Nat.min_self, WO_pure, WO_mem, pureStep, memStep, WC_true, WC_false, WO_guardq, qg, retQ, resOf, resAll, resA, wp_some, kv_ite, km_ite, kv_none, ↓reduceIte, Nat.reduceEqDiff, reduceCtorEq, decide_true, decide_false, Bool.not_true, Bool.not_false, List.map_cons, List.map_nil, List.nil_append, List.append_nil, Option.map_some, Option.map_none, if_true, if_false, true_and, and_true, Int.reduceEq, Int.reduceLT, Int.reduceLE, Int.reduceNeg, Nat.reduceAdd, Nat.reduceLeDiff, Bool.true_eq_false, Bool.false_eq_true, beq_self_eq_true]
    · rw [if_neg (by omega)] at hr
      have d2 : ¬ (l : Int) < (i : Int) := by omega
      have d4 : ¬ ((i - l : Nat) : Int) = 9 := by omega
      simp only [h0, h1', h7, c1, c1', c2, c3, e5, hld, d1, d2, d4, Int.toNat_natCast, AV.undef, unA, qs, qb, qe, qi, qp, qm, qh, set_newRow_at, Int.reduceToNat, Nat.reduceMul, List.getElem?_cons_succ, List.getElem?_cons_zero, false_implies, true_implies, forall_const, implies_true, set_newRow_lt, Nat.lt_add_one, Nat.min_eq_left, Nat.le_add_right, qc, fillA, evParts, repCells, wrRow_eq, splice, partA, List.length_cons, List.length_nil, List.take_succ_cons, List.take_zero, List.drop_succ_cons, List.drop_zero, List.cons_append, Option.bind_some, Nat.add_zero, Nat.zero_add, List.drop_nil, List.take_nil, Nat.le_refl, Nat.min_self, WO_pure, WO_mem, pureStep, memStep, WC_true, WC_false, WO_guardq, qg, retQ, resOf, resAll, resA, wp_some, kv_ite, km_ite, kv_none, ↓reduceIte, Nat.reduceEqDiff, reduceCtorEq, decide_true, decide_false, Bool.not_true, Bool.not_false, List.map_cons, List.map_nil, List.nil_append, List.append_nil, Option.map_some, Option.map_none, if_true, if_false, true_and, and_true, Int.reduceEq, Int.reduceLT, Int.reduceLE, Int.reduceNeg, Nat.reduceAdd, Nat.reduceLeDiff, Bool.true_eq_false, Bool.false_eq_true, beq_self_eq_true]
      refine horn86 bs ((bs.drop l).take (i + 1 - l)) _ c _ ha l i hilt hli rfl hlen (hV hr) Q (hfin hr) _ ?_ ?_ ?_ ?_ ?_ <;> simp only [h0, h1', h7, AV.undef, unA, qs, qb, qe, qi, qp, qm, qh, set_newRow_at, Int.reduceToNat, Nat.reduceMul, List.getElem?_cons_succ, List.getElem?_cons_zero, false_implies, true_implies, forall_const, implies_true, set_newRow_lt, Nat.lt_add_one, Nat.min_eq_left, Nat.le_add_right, qc, fillA, evParts, repCells, wrRow_eq, splice, partA, List.length_cons, List.length_nil, List.take_succ_cons, List.take_zero, List.drop_succ_cons, List.drop_zero, List.cons_append, Option.bind_some, Nat.add_zero, Nat.zero_add, List.drop_nil, List.take_nil, Nat.le_refl, Nat.min_self, WO_pure, WO_mem, pureStep, memStep, WC_true, WC_false, WO_guardq, qg, retQ, resOf, resAll, resA, wp_some, kv_ite, km_ite, kv_none, ↓reduceIte, Nat.reduceEqDiff, reduceCtorEq, decide_true, decide_false, Bool.not_true, Bool.not_false, List.map_cons, List.map_nil, List.nil_append, List.append_nil, Option.map_some, Option.map_none, if_true, if_false, true_and, and_true, Int.reduceEq, Int.reduceLT, Int.reduceLE, Int.reduceNeg, Nat.reduceAdd, Nat.reduceLeDiff, Bool.true_eq_false, Bool.false_eq_true, beq_self_eq_true]
  · have hrd : rdU bs l = (0, (l : Int), 2) := by
      unfold rdU
      split
      · rfl
      · rw [vrL_none]
        intro x hx
        rw [Int.toNat_natCast] at hx
        obtain ⟨k, hk⟩ := List.getElem?_of_mem hx
        rw [List.getElem?_drop] at hk
        have := (List.getElem?_eq_some_iff.1 hk).1
        obtain ⟨y, hy1, hy2⟩ := hg (l + k) (by omega) (by omega)
        rw [hk] at hy1; cases hy1; exact hy2
    rw [hrd] at h
    have c1 : ¬ (i : Int) < (bs.length : Int) := by omega
    have c1' : (bs.length : Int) ≤ (i : Int) := by omega
    simp only [h0, h1', h7, c1, c1', AV.undef, unA, qs, qb, qe, qi, qp, qm, qh, set_newRow_at, Int.reduceToNat, Nat.reduceMul, List.getElem?_cons_succ, List.getElem?_cons_zero, false_implies, true_implies, forall_const, implies_true, set_newRow_lt, Nat.lt_add_one, Nat.min_eq_left, Nat.le_add_right, qc, fillA, evParts, repCells, wrRow_eq, splice, partA, List.length_cons, List.length_nil, List.take_succ_cons, List.take_zero, List.drop_succ_cons, List.drop_zero, List.cons_append, Option.bind_some, Nat.add_zero, Nat.zero_add, List.drop_nil, List.take_nil, Nat.le_refl, Nat.min_self, WO_pure, WO_mem, pureStep, memStep, WC_true, WC_false, WO_guardq, qg, retQ, resOf, resAll, resA, wp_some, kv_ite, km_ite, kv_none, ↓reduceIte, Nat.reduceEqDiff, reduceCtorEq, decide_true, decide_false, Bool.not_true, Bool.not_false, List.map_cons, List.map_nil, List.nil_append, List.append_nil, Option.map_some, Option.map_none, if_true, if_false, true_and, and_true, Int.reduceEq, Int.reduceLT, Int.reduceLE, Int.reduceNeg, Nat.reduceAdd, Nat.reduceLeDiff, Bool.true_eq_false, Bool.false_eq_true, beq_self_eq_true]
    exact h
end Go.Proofs.Qq.Qqd

namespace Go.Proofs.Qq.Qqd
open Go.Proofs.Qq

theorem rdU_err (bs : List UInt8) (p : Int) : (rdU bs p).2.2 = 0 ∨ rdU bs p = (0, p, 2) := by
  unfold rdU
  split
  · exact .inr rfl
  · cases vrL (bs.drop p.toNat) 0 0 with
    | none => exact .inr rfl
    | some r => exact .inl rfl

set_option maxHeartbeats 4000000 in
/-- barrowref03.ReadInt -/
theorem run53 (bs : List UInt8) (hlen : bs.length ≤ 9223372036854775806) (a : Option (Nat × Nat)) (c : Option Nat) (H : AHeap) (ha : At H a (bytesA bs)) (p : Int) (hp : p ≤ 9223372036854775806) (Q : AV → AHeap → Nat → Prop)
    (h : Q (.tup [.int .i64 (zag (rdU bs p).1), .int .i64 (rdU bs p).2.1, .int .i64 (rdU bs p).2.2]) H H.length) : WF T 53 [.slice a bs.length c, .int .i64 p] H Q := by
  refine (WF_code (fn := a53) rfl _ _ _).2 ?_
  have hlt := rdU_lt bs p
  simp only [a53, AV.undef, unA, qs, qb, qe, qi, qp, qm, qh, set_newRow_at, Int.reduceToNat, Nat.reduceMul, List.getElem?_cons_succ, List.getElem?_cons_zero, false_implies, true_implies, forall_const, implies_true, set_newRow_lt, Nat.lt_add_one, Nat.min_eq_left, Nat.le_add_right, qc, fillA, evParts, repCells, wrRow_eq, splice, partA, List.length_cons, List.length_nil, List.take_succ_cons, List.take_zero, List.drop_succ_cons, List.drop_zero, List.cons_append, Option.bind_some, Nat.add_zero, Nat.zero_add, List.drop_nil, List.take_nil, Nat.le_refl, Nat.min_self, WO_pure, WO_mem, pureStep, memStep, WC_true, WC_false, WO_guardq, qg, retQ, resOf, resAll, resA, wp_some, kv_ite, km_ite, kv_none, ↓reduceIte, Nat.reduceEqDiff, reduceCtorEq, decide_true, decide_false, Bool.not_true, Bool.not_false, List.map_cons, List.map_nil, List.nil_append, List.append_nil, Option.map_some, Option.map_none, if_true, if_false, true_and, and_true, Int.reduceEq, Int.reduceLT, Int.reduceLE, Int.reduceNeg, Nat.reduceAdd, Nat.reduceLeDiff, Bool.true_eq_false, Bool.false_eq_true, beq_self_eq_true]
  refine WO_call rfl (run86 bs hlen a c H ha p hp _ ?_)
  rcases rdU_err bs p with he | he
  · generalize rdU bs p = r at h hlt he
    obtain ⟨u, q, z⟩ := r
    simp only [] at h hlt he
    subst he
    have e1 : (u : Int).tmod 2 = ((u % 2 : Nat) : Int) := rfl
    have e2 : IntKind.u64.wrap ((u : Int).tdiv 2) = ((u / 2 : Nat) : Int) := wu64 (n := ((u / 2 : Nat) : Int)) (by omega) (by omega)
    have e3 : IntKind.i64.wrap ((u / 2 : Nat) : Int) = ((u / 2 : Nat) : Int) := w64 (by omega) (by omega)
    by_cases hm : u % 2 = 0
    · have d : ¬ ((u % 2 : Nat) : Int) = 1 := by omega
      unfold zag at h; rw [if_pos hm] at h
      simp only [refOut, e1, e2, e3, d, AV.undef, unA, qs, qb, qe, qi, qp, qm, qh, set_newRow_at, Int.reduceToNat, Nat.reduceMul, List.getElem?_cons_succ, List.getElem?_cons_zero, false_implies, true_implies, forall_const, implies_true, set_newRow_lt, Nat.lt_add_one, Nat.min_eq_left, Nat.le_add_right, qc, fillA, evParts, repCells, wrRow_eq, splice, partA, List.length_cons, List.length_nil, List.take_succ_cons, List.take_zero, List.drop_succ_cons, List.drop_zero, List.cons_append, Option.bind_some, Nat.add_zero, Nat.zero_add, List.drop_nil, List.take_nil, Nat.le_refl, Nat.min_self, WO_pure, WO_mem, pureStep, memStep, WC_true, WC_false, WO_guardq, qg, retQ, resOf, resAll, resA, wp_some, kv_ite, km_ite, kv_none, ↓reduceIte, Nat.reduceEqDiff, reduceCtorEq, decide_true, decide_false, Bool.not_true, Bool.not_false, List.map_cons, List.map_nil, List.nil_append, List.append_nil, Option.map_some, Option.map_none, if_true, if_false, true_and, and_true, Int.reduceEq, Int.reduceLT, Int.reduceLE, Int.reduceNeg, Nat.reduceAdd, Nat.reduceLeDiff, Bool.true_eq_false, Bool.false_eq_true, beq_self_eq_true]
      exact h
    · have d : ((u % 2 : Nat) : Int) = 1 := by omega
      have e4 : IntKind.i64.wrap (0 - ((u / 2 : Nat) : Int)) = -((u / 2 : Nat) : Int) := by rw [w64 (by omega) (by omega)]; omega
      have e5 : IntKind.i64.wrap (-((u / 2 : Nat) : Int) - 1) = -((u / 2 : Nat) : Int) - 1 := w64 (by omega) (by omega)
      unfold zag at h; rw [if_neg hm] at h
      simp only [refOut, e1, e2, e3, d, e4, e5, AV.undef, unA, qs, qb, qe, qi, qp, qm, qh, set_newRow_at, Int.reduceToNat, Nat.reduceMul, List.getElem?_cons_succ, List.getElem?_cons_zero, false_implies, true_implies, forall_const, implies_true, set_newRow_lt, Nat.lt_add_one, Nat.min_eq_left, Nat.le_add_right, qc, fillA, evParts, repCells, wrRow_eq, splice, partA, List.length_cons, List.length_nil, List.take_succ_cons, List.take_zero, List.drop_succ_cons, List.drop_zero, List.cons_append, Option.bind_some, Nat.add_zero, Nat.zero_add, List.drop_nil, List.take_nil, Nat.le_refl, Nat.min_self, WO_pure, WO_mem, pureStep, memStep, WC_true, WC_false, WO_guardq, qg, retQ, resOf, resAll, resA, wp_some, kv_ite, km_ite, kv_none, ↓reduceIte, Nat.reduceEqDiff, reduceCtorEq, decide_true, decide_false, Bool.not_true, Bool.not_false, List.map_cons, List.map_nil, List.nil_append, List.append_nil, Option.map_some, Option.map_none, if_true, if_false, true_and, and_true, Int.reduceEq, Int.reduceLT, Int.reduceLE, Int.reduceNeg, Nat.reduceAdd, Nat.reduceLeDiff, Bool.true_eq_false, Bool.false_eq_true, beq_self_eq_true]
      exact h
  · have z0 : zag 0 = 0 := by unfold zag; rw [if_pos (by decide)]; rfl
    rw [he] at h ⊢
    simp only [z0] at h
    simp only [refOut, AV.undef, unA, qs, qb, qe, qi, qp, qm, qh, set_newRow_at, Int.reduceToNat, Nat.reduceMul, List.getElem?_cons_succ, List.getElem?_cons_zero, false_implies, true_implies, forall_const, implies_true, set_newRow_lt, Nat.lt_add_one, Nat.min_eq_left, Nat.le_add_right, qc, fillA, evParts, repCells, wrRow_eq, splice, partA, List.length_cons, List.length_nil, List.take_succ_cons, List.take_zero, List.drop_succ_cons, List.drop_zero, List.cons_append, Option.bind_some, Nat.add_zero, Nat.zero_add, List.drop_nil, List.take_nil, Nat.le_refl, Nat.min_self, WO_pure, WO_mem, pureStep, memStep, WC_true, WC_false, WO_guardq, qg, retQ, resOf, resAll, resA, wp_some, kv_ite, km_ite, kv_none, ↓reduceIte, Nat.reduceEqDiff, reduceCtorEq, decide_true, decide_false, Bool.not_true, Bool.not_false, List.map_cons, List.map_nil, List.nil_append, List.append_nil, Option.map_some, Option.map_none, if_true, if_false, true_and, and_true, Int.reduceEq, Int.reduceLT, Int.reduceLE, Int.reduceNeg, Nat.reduceAdd, Nat.reduceLeDiff, Bool.true_eq_false, Bool.false_eq_true, beq_self_eq_true]
    exact h
end Go.Proofs.Qq.Qqd

namespace Go.Proofs.Qq.Qqd
open Go.Proofs.Qq

/-- The letters of a name. -/
def isNm (b : UInt8) : Bool := b.toNat == 45 || (decide (48 ≤ b.toNat) && decide (b.toNat ≤ 57)) || (decide (65 ≤ b.toNat) && decide (b.toNat ≤ 90)) || (decide (97 ≤ b.toNat) && decide (b.toNat ≤ 122))
def nameOk (s : List UInt8) : Bool := s.all isNm && decide (1 ≤ s.length) && decide (s.length ≤ 24)

def NmInv (s : List UInt8) (H : AHeap) (n : Nat) (st : AS) : Prop :=
  ∃ i : Nat, n = s.length - i ∧ i ≤ s.length ∧ st.env 0 = .str s ∧ st.env 3 = .int .i64 (i : Int) ∧ (s.take i).all isNm = true ∧ st.heap = H ∧ st.low = H.length

set_option maxHeartbeats 8000000 in
/-- barrowref11.Name -/
theorem run63 (s : List UInt8) (hlen : s.length ≤ 9223372036854775806) (H : AHeap) (Q : AV → AHeap → Nat → Prop) (h : Q (.bool (nameOk s)) H H.length) : WF T 63 [.str s] H Q := by
  refine (WF_code (fn := a63) rfl _ _ _).2 ?_
  simp only [a63, AV.undef, unA, qs, qb, qe, qi, qp, qm, qh, set_newRow_at, Int.reduceToNat, Nat.reduceMul, List.getElem?_cons_succ, List.getElem?_cons_zero, false_implies, true_implies, forall_const, implies_true, set_newRow_lt, Nat.lt_add_one, Nat.min_eq_left, Nat.le_add_right, qc, fillA, evParts, repCells, wrRow_eq, splice, partA, List.length_cons, List.length_nil, List.take_succ_cons, List.take_zero, List.drop_succ_cons, List.drop_zero, List.cons_append, Option.bind_some, Nat.add_zero, Nat.zero_add, List.drop_nil, List.take_nil, Nat.le_refl, Nat.min_self, WO_pure, WO_mem, pureStep, memStep, WC_true, WC_false, WO_guardq, qg, retQ, resOf, resAll, resA, wp_some, kv_ite, km_ite, kv_none, ↓reduceIte, Nat.reduceEqDiff, reduceCtorEq, decide_true, decide_false, Bool.not_true, Bool.not_false, List.map_cons, List.map_nil, List.nil_append, List.append_nil, Option.map_some, Option.map_none, if_true, if_false, true_and, and_true, Int.reduceEq, Int.reduceLT, Int.reduceLE, Int.reduceNeg, Nat.reduceAdd, Nat.reduceLeDiff, Bool.true_eq_false, Bool.false_eq_true, beq_self_eq_true]
  refine WC_loop (NmInv s H) ?_ s.length _ ⟨0, rfl, by omega, rfl, rfl, by simp, rfl, rfl⟩
  rintro n ⟨e, H', lw⟩ ⟨i, hn, hi, k0, k3, hall, kH, kL⟩
  simp only [] at k0 k3 kH kL
  subst kH; subst kL
  by_cases hlt : i < s.length
  · obtain ⟨b, hb⟩ : ∃ b, s[i]? = some b := ⟨s[i], List.getElem?_eq_getElem hlt⟩
    have c1 : (i : Int) < (s.length : Int) := by omega
    have c2 : (0 : Int) ≤ (i : Int) := by omega
    have e4 : IntKind.i64.wrap ((i : Int) + 1) = ((i + 1 : Nat) : Int) := by rw [w64 (by omega) (by omega)]; omega
    have hb256 : b.toNat < 256 := b.toNat_lt
    have hbad : isNm b = false → nameOk s = false := by
      intro hf
      have : s.all isNm = false := by
        rw [List.all_eq_false]
        exact ⟨b, List.mem_of_getElem? hb, by rw [hf]; decide⟩
      unfold nameOk; rw [this]; rfl
    have hgood : isNm b = true → (s.take (i + 1)).all isNm = true := by
      intro ht
      rw [List.take_add_one, hb, List.all_append, hall]
      simp [ht]
    rcases (by omega : (b.toNat = 45) ∨ (b.toNat < 48 ∧ b.toNat ≠ 45) ∨ (48 ≤ b.toNat ∧ b.toNat ≤ 57) ∨ (58 ≤ b.toNat ∧ b.toNat ≤ 64) ∨ (65 ≤ b.toNat ∧ b.toNat ≤ 90) ∨ (91 ≤ b.toNat ∧ b.toNat ≤ 96) ∨ (97 ≤ b.toNat ∧ b.toNat ≤ 122) ∨ (122 < b.toNat)) with hc | hc | hc | hc | hc | hc | hc | hc
    · have f1 : (b.toNat : Int) = 45 := by omega
      have hg : isNm b = true := by unfold isNm; simp; omega
      simp only [k0, k3, c1, c2, e4, hb, Int.toNat_natCast, f1, AV.undef, unA, qs, qb, qe, qi, qp, qm, qh, set_newRow_at, Int.reduceToNat, Nat.reduceMul, List.getElem?_cons_succ, List.getElem?_cons_zero, false_implies, true_implies, forall_const, implies_true, set_newRow_lt, Nat.lt_add_one, Nat.min_eq_left, Nat.le_add_right, qc, fillA, evParts, repCells, wrRow_eq, splice, partA, List.length_cons, List.length_nil, List.take_succ_cons, List.take_zero, List.drop_succ_cons, List.drop_zero, List.cons_append, Option.bind_some, Nat.add_zero, Nat.zero_add, List.drop_nil, List.take_nil, Nat.le_refl, Nat.min_self, WO_pure, WO_mem, pureStep, memStep, WC_true, WC_false, WO_guardq, qg, retQ, resOf, resAll, resA, wp_some, kv_ite, km_ite, kv_none, ↓reduceIte, Nat.reduceEqDiff, reduceCtorEq, decide_true, decide_false, Bool.not_true, Bool.not_false, List.map_cons, List.map_nil, List.nil_append, List.append_nil, Option.map_some, Option.map_none, if_true, if_false, true_and, and_true, Int.reduceEq, Int.reduceLT, Int.reduceLE, Int.reduceNeg, Nat.reduceAdd, Nat.reduceLeDiff, Bool.true_eq_false, Bool.false_eq_true, beq_self_eq_true]
      exact ⟨_, by omega, i + 1, rfl, by omega, by simp only [k0, AV.undef, unA, qs, qb, qe, qi, qp, qm, qh, set_newRow_at, Int.reduceToNat, Nat.reduceMul, List.getElem?_cons_succ, List.getElem?_cons_zero, false_implies, true_implies, forall_const, implies_true, set_newRow_lt, Nat.lt_add_one, Nat.min_eq_left, Nat.le_add_right, qc, fillA, evParts, repCells, wrRow_eq, splice, partA, List.length_cons, List.length_nil, List.take_succ_cons, List.take_zero, List.drop_succ_cons, List.drop_zero, List.cons_append, Option.bind_some, Nat.add_zero, Nat.zero_add, List.drop_nil, List.take_nil, Nat.le_refl, Nat.min_self, WO_pure, WO_mem, pureStep, memStep, WC_true, WC_false, WO_guardq, qg, retQ, resOf, resAll, resA, wp_some, kv_ite, km_ite, kv_none, ↓reduceIte, Nat.reduceEqDiff, reduceCtorEq, decide_true, decide_false, Bool.not_true, Bool.not_false, List.map_cons, List.map_nil, List.nil_append, List.append_nil, Option.map_some, Option.map_none, if_true, if_false, true_and, and_true, Int.reduceEq, Int.reduceLT, Int.reduceLE, Int.reduceNeg, Nat.reduceAdd, Nat.reduceLeDiff, Bool.true_eq_false, Bool.false_eq_true, beq_self_eq_true], by simp only [AV.undef, unA, qs, qb, qe, qi, qp, qm, qh, set_newRow_at, Int.reduceToNat, Nat.reduceMul, List.getElem?_cons_succ, List.getElem?_cons_zero, false_implies, true_implies, forall_const, implies_true, set_newRow_lt, Nat.lt_add_one, Nat.min_eq_left, Nat.le_add_right, qc, fillA, evParts, repCells, wrRow_eq, splice, partA, List.length_cons, List.length_nil, List.take_succ_cons, List.take_zero, List.drop_succ_cons, List.drop_zero, List.cons_append, Option.bind_some, Nat.add_zero, Nat.zero_add, List.drop_nil, List.take_nil, Nat.le_refl, Nat.min_self, WO_pure, WO_mem, pureStep, memStep, WC_true, WC_false, WO_guardq, qg, retQ, resOf, resAll, resA, wp_some, kv_ite, km_ite, kv_none, ↓reduceIte, Nat.reduceEqDiff, reduceCtorEq, decide_true, decide_false, Bool.not_true, Bool.not_false, List.map_cons, List.map_nil, List.nil_append, List.append_nil, Option.map_some, Option.map_none, if_true, if_false, true_and, and_true, Int.reduceEq, Int.reduceLT, Int.reduceLE, Int.reduceNeg, Nat.reduceAdd, Nat.reduceLeDiff, Bool.true_eq_false, Bool.false_eq_true, beq_self_eq_true], hgood hg, rfl, rfl⟩
    · have f1 : ¬ ((b.toNat : Int) = 45) := by omega
      have f2 : (b.toNat : Int) < 48 := by omega
      have f3 : ¬ ((57 : Int) < (b.toNat : Int)) := by omega
      have f4 : (b.toNat : Int) < 65 := by omega
      have f5 : ¬ ((90 : Int) < (b.toNat : Int)) := by omega
      have f6 : (b.toNat : Int) < 97 := by omega
      have f7 : ¬ ((122 : Int) < (b.toNat : Int)) := by omega
      have hg : isNm b = false := by unfold isNm; simp; omega
      rw [hbad hg] at h
      simp only [k0, k3, c1, c2, e4, hb, Int.toNat_natCast, f1, f2, f3, f4, f5, f6, f7, AV.undef, unA, qs, qb, qe, qi, qp, qm, qh, set_newRow_at, Int.reduceToNat, Nat.reduceMul, List.getElem?_cons_succ, List.getElem?_cons_zero, false_implies, true_implies, forall_const, implies_true, set_newRow_lt, Nat.lt_add_one, Nat.min_eq_left, Nat.le_add_right, qc, fillA, evParts, repCells, wrRow_eq, splice, partA, List.length_cons, List.length_nil, List.take_succ_cons, List.take_zero, List.drop_succ_cons, List.drop_zero, List.cons_append, Option.bind_some, Nat.add_zero, Nat.zero_add, List.drop_nil, List.take_nil, Nat.le_refl, Nat.min_self, WO_pure, WO_mem, pureStep, memStep, WC_true, WC_false, WO_guardq, qg, retQ, resOf, resAll, resA, wp_some, kv_ite, km_ite, kv_none, ↓reduceIte, Nat.reduceEqDiff, reduceCtorEq, decide_true, decide_false, Bool.not_true, Bool.not_false, List.map_cons, List.map_nil, List.nil_append, List.append_nil, Option.map_some, Option.map_none, if_true, if_false, true_and, and_true, Int.reduceEq, Int.reduceLT, Int.reduceLE, Int.reduceNeg, Nat.reduceAdd, Nat.reduceLeDiff, Bool.true_eq_false, Bool.false_eq_true, beq_self_eq_true]
      exact h
    · have f1 : ¬ ((b.toNat : Int) = 45) := by omega
      have f2 : ¬ ((b.toNat : Int) < 48) := by omega
      have f3 : ¬ ((57 : Int) < (b.toNat : Int)) := by omega
      have f4 : (b.toNat : Int) < 65 := by omega
      have f5 : ¬ ((90 : Int) < (b.toNat : Int)) := by omega
      have f6 : (b.toNat : Int) < 97 := by omega
      have f7 : ¬ ((122 : Int) < (b.toNat : Int)) := by omega
      have hg : isNm b = true := by unfold isNm; simp; omega
      simp only [k0, k3, c1, c2, e4, hb, Int.toNat_natCast, f1, f2, f3, f4, f5, f6, f7, AV.undef, unA, qs, qb, qe, qi, qp, qm, qh, set_newRow_at, Int.reduceToNat, Nat.reduceMul, List.getElem?_cons_succ, List.getElem?_cons_zero, false_implies, true_implies, forall_const, implies_true, set_newRow_lt, Nat.lt_add_one, Nat.min_eq_left, Nat.le_add_right, qc, fillA, evParts, repCells, wrRow_eq, splice, partA, List.length_cons, List.length_nil, List.take_succ_cons, List.take_zero, List.drop_succ_cons, List.drop_zero, List.cons_append, Option.bind_some, Nat.add_zero, Nat.zero_add, List.drop_nil, List.take_nil, Nat.le_refl, Nat.min_self, WO_pure, WO_mem, pureStep, memStep, WC_true, WC_false, WO_guardq, qg, retQ, resOf, resAll, resA, wp_some, kv_ite, km_ite, kv_none, ↓reduceIte, Nat.reduceEqDiff, reduceCtorEq, decide_true, decide_false, Bool.not_true, Bool.not_false, List.map_cons, List.map_nil, List.nil_append, List.append_nil, Option.map_some, Option.map_none, if_true, if_false, true_and, and_true, Int.reduceEq, Int.reduceLT, Int.reduceLE, Int.reduceNeg, Nat.reduceAdd, Nat.reduceLeDiff, Bool.true_eq_false, Bool.false_eq_true, beq_self_eq_true]
      exact ⟨_, by omega, i + 1, rfl, by omega, by simp only [k0, AV.undef, unA, qs, qb, qe, qi, qp, qm, qh, set_newRow_at, Int.reduceToNat, Nat.reduceMul, List.getElem?_cons_succ, List.getElem?_cons_zero, false_implies, true_implies, forall_const, implies_true, set_newRow_lt, Nat.lt_add_one, Nat.min_eq_left, Nat.le_add_right, qc, fillA, evParts, repCells, wrRow_eq, splice, partA, List.length_cons, List.length_nil, List.take_succ_cons, List.take_zero, List.drop_succ_cons, List.drop_zero, List.cons_append, Option.bind_some, Nat.add_zero, Nat.zero_add, List.drop_nil, List.take_nil, Nat.le_refl, Nat.min_self, WO_pure, WO_mem, pureStep, memStep, WC_true, WC_false, WO_guardq, qg, retQ, resOf, resAll, resA, wp_some, kv_ite, km_ite, kv_none, ↓reduceIte, Nat.reduceEqDiff, reduceCtorEq, decide_true, decide_false, Bool.not_true, Bool.not_false, List.map_cons, List.map_nil, List.nil_append, List.append_nil, Option.map_some, Option.map_none, if_true, if_false, true_and, and_true, Int.reduceEq, Int.reduceLT, Int.reduceLE, Int.reduceNeg, Nat.reduceAdd, Nat.reduceLeDiff, Bool.true_eq_false, Bool.false_eq_true, beq_self_eq_true], by simp only [AV.undef, unA, qs, qb, qe, qi, qp, qm, qh, set_newRow_at, Int.reduceToNat, Nat.reduceMul, List.getElem?_cons_succ, List.getElem?_cons_zero, false_implies, true_implies, forall_const, implies_true, set_newRow_lt, Nat.lt_add_one, Nat.min_eq_left, Nat.le_add_right, qc, fillA, evParts, repCells, wrRow_eq, splice, partA, List.length_cons, List.length_nil, List.take_succ_cons, List.take_zero, List.drop_succ_cons, List.drop_zero, List.cons_append, Option.bind_some, Nat.add_zero, Nat.zero_add, List.drop_nil, List.take_nil, Nat.le_refl, Nat.min_self, WO_pure, WO_mem, pureStep, memStep, WC_true, WC_false, WO_guardq, qg, retQ, resOf, resAll, resA, wp_some, kv_ite, km_ite, kv_none, ↓reduceIte, Nat.reduceEqDiff, reduceCtorEq, decide_true, decide_false, Bool.not_true, Bool.not_false, List.map_cons, List.map_nil, List.nil_append, List.append_nil, Option.map_some, Option.map_none, if_true, if_false, true_and, and_true, Int.reduceEq, Int.reduceLT, Int.reduceLE, Int.reduceNeg, Nat.reduceAdd, Nat.reduceLeDiff, Bool.true_eq_false, Bool.false_eq_true, beq_self_eq_true], hgood hg, rfl, rfl⟩
    · have f1 : ¬ ((b.toNat : Int) = 45) := by omega
      have f2 : ¬ ((b.toNat : Int) < 48) := by omega
      have f3 : (57 : Int) < (b.toNat : Int) := by omega
      have f4 : (b.toNat : Int) < 65 := by omega
      have f5 : ¬ ((90 : Int) < (b.toNat : Int)) := by omega
      have f6 : (b.toNat : Int) < 97 := by omega
      have f7 : ¬ ((122 : Int) < (b.toNat : Int)) := by omega
      have hg : isNm b = false := by unfold isNm; simp; omega
      rw [hbad hg] at h
      simp only [k0, k3, c1, c2, e4, hb, Int.toNat_natCast, f1, f2, f3, f4, f5, f6, f7, AV.undef, unA, qs, qb, qe, qi, qp, qm, qh, set_newRow_at, Int.reduceToNat, Nat.reduceMul, List.getElem?_cons_succ, List.getElem?_cons_zero, false_implies, true_implies, forall_const, implies_true, set_newRow_lt, Nat.lt_add_one, Nat.min_eq_left, Nat.le_add_right, qc, fillA, evParts, repCells, wrRow_eq, splice, partA, List.length_cons, List.length_nil, List.take_succ_cons, List.take_zero, List.drop_succ_cons, List.drop_zero, List.cons_append, Option.bind_some, Nat.add_zero, Nat.zero_add, List.drop_nil, List.take_nil, Nat.le_refl, Nat.min_self, WO_pure, WO_mem, pureStep, memStep, WC_true, WC_false, WO_guardq, qg, retQ, resOf, resAll, resA, wp_some, kv_ite, km_ite, kv_none, ↓reduceIte, Nat.reduceEqDiff, reduceCtorEq, decide_true, decide_false, Bool.not_true, Bool.not_false, List.map_cons, List.map_nil, List.nil_append, List.append_nil, Option.map_some, Option.map_none, if_true, if_false, true_and, and_true, Int.reduceEq, Int.reduceLT, Int.reduceLE, Int.reduceNeg, Nat.reduceAdd, Nat.reduceLeDiff, Bool.true_eq_false, Bool.false_eq_true, beq_self_eq_true]
      exact h
    · have f1 : ¬ ((b.toNat : Int) = 45) := by omega
      have f2 : ¬ ((b.toNat : Int) < 48) := by omega
      have f3 : (57 : Int) < (b.toNat : Int) := by omega
      have f4 : ¬ ((b.toNat : Int) < 65) := by omega
      have f5 : ¬ ((90 : Int) < (b.toNat : Int)) := by omega
      have f6 : (b.toNat : Int) < 97 := by omega
      have f7 : ¬ ((122 : Int) < (b.toNat : Int)) := by omega
      have hg : isNm b = true := by unfold isNm; simp; omega
      simp only [k0, k3, c1, c2, e4, hb, Int.toNat_natCast, f1, f2, f3, f4, f5, f6, f7, AV.undef, unA, qs, qb, qe, qi, qp, qm, qh, set_newRow_at, Int.reduceToNat, Nat.reduceMul, List.getElem?_cons_succ, List.getElem?_cons_zero, false_implies, true_implies, forall_const, implies_true, set_newRow_lt, Nat.lt_add_one, Nat.min_eq_left, Nat.le_add_right, qc, fillA, evParts, repCells, wrRow_eq, splice, partA, List.length_cons, List.length_nil, List.take_succ_cons, List.take_zero, List.drop_succ_cons, List.drop_zero, List.cons_append, Option.bind_some, Nat.add_zero, Nat.zero_add, List.drop_nil, List.take_nil, Nat.le_refl, Nat.min_self, WO_pure, WO_mem, pureStep, memStep, WC_true, WC_false, WO_guardq, qg, retQ, resOf, resAll, resA, wp_some, kv_ite, km_ite, kv_none, ↓reduceIte, Nat.reduceEqDiff, reduceCtorEq, decide_true, decide_false, Bool.not_true, Bool.not_false, List.map_cons, List.map_nil, List.nil_append, List.append_nil, Option.map_some, Option.map_none, if_true, if_false, true_and, and_true, Int.reduceEq, Int.reduceLT, Int.reduceLE, Int.reduceNeg, Nat.reduceAdd, Nat.reduceLeDiff, Bool.true_eq_false, Bool.false_eq_true, beq_self_eq_true]
      exact ⟨_, by omega, i + 1, rfl, by omega, by simp only [k0, AV.undef, unA, qs, qb, qe, qi, qp, qm, qh, set_newRow_at, Int.reduceToNat, Nat.reduceMul, List.getElem?_cons_succ, List.getElem?_cons_zero, false_implies, true_implies, forall_const, implies_true, set_newRow_lt, Nat.lt_add_one, Nat.min_eq_left, Nat.le_add_right, qc, fillA, evParts, repCells, wrRow_eq, splice, partA, List.length_cons, List.length_nil, List.take_succ_cons, List.take_zero, List.drop_succ_cons, List.drop_zero, List.cons_append, Option.bind_some, Nat.add_zero, Nat.zero_add, List.drop_nil, List.take_nil, Nat.le_refl, Nat.min_self, WO_pure, WO_mem, pureStep, memStep, WC_true, WC_false, WO_guardq, qg, retQ, resOf, resAll, resA, wp_some, kv_ite, km_ite, kv_none, ↓reduceIte, Nat.reduceEqDiff, reduceCtorEq, decide_true, decide_false, Bool.not_true, Bool.not_false, List.map_cons, List.map_nil, List.nil_append, List.append_nil, Option.map_some, Option.map_none, if_true, if_false, true_and, and_true, Int.reduceEq, Int.reduceLT, Int.reduceLE, Int.reduceNeg, Nat.reduceAdd, Nat.reduceLeDiff, Bool.true_eq_false, Bool.false_eq_true, beq_self_eq_true], by simp only [AV.undef, unA, qs, qb, qe, qi, qp, qm, qh, set_newRow_at, Int.reduceToNat, Nat.reduceMul, List.getElem?_cons_succ, List.getElem?_cons_zero, false_implies, true_implies, forall_const, implies_true, set_newRow_lt, Nat.lt_add_one, Nat.min_eq_left, Nat.le_add_right, qc, fillA, evParts, repCells, wrRow_eq, splice, partA, List.length_cons, List.length_nil, List.take_succ_cons, List.take_zero, List.drop_succ_cons, List.drop_zero, List.cons_append, Option.bind_some, Nat.add_zero, Nat.zero_add, List.drop_nil, List.take_nil, Nat.le_refl, Nat.min_self, WO_pure, WO_mem, pureStep, memStep, WC_true, WC_false, WO_guardq, qg, retQ, resOf, resAll, resA, wp_some, kv_ite, km_ite, kv_none, ↓reduceIte, Nat.reduceEqDiff, reduceCtorEq, decide_true, decide_false, Bool.not_true, Bool.not_false, List.map_cons, List.map_nil, List.nil_append, List.append_nil, Option.map_some, Option.map_none, if_true, if_false, true_and, and_true, Int.reduceEq, Int.reduceLT, Int.reduceLE, Int.reduceNeg, Nat.reduceAdd, Nat.reduceLeDiff, Bool.true_eq_false, Bool.false_eq_true, beq_self_eq_true], hgood hg, rfl, rfl⟩
    · have f1 : ¬ ((b.toNat : Int) = 45) := by omega
      have f2 : ¬ ((b.toNat : Int) < 48) := by omega
      have f3 : (57 : Int) < (b.toNat : Int) := by omega
      have f4 : ¬ ((b.toNat : Int) < 65) := by omega
      have f5 : (90 : Int) < (b.toNat : Int) := by omega
      have f6 : (b.toNat : Int) < 97 := by omega
      have f7 : ¬ ((122 : Int) < (b.toNat : Int)) := by omega
      have hg : isNm b = false := by unfold isNm; simp; omega
      rw [hbad hg] at h
      simp only [k0, k3, c1, c2, e4, hb, Int.toNat_natCast, f1, f2, f3, f4, f5, f6, f7, AV.undef, unA, qs, qb, qe, qi, qp, qm, qh, set_newRow_at, Int.reduceToNat, Nat.reduceMul, List.getElem?_cons_succ, List.getElem?_cons_zero, false_implies, true_implies, forall_const, implies_true, set_newRow_lt, Nat.lt_add_one, Nat.min_eq_left, Nat.le_add_right, qc, fillA, evParts, repCells, wrRow_eq, splice, partA, List.length_cons, List.length_nil, List.take_succ_cons, List.take_zero, List.drop_succ_cons, List.drop_zero, List.cons_append, Option.bind_some, Nat.add_zero, Nat.zero_add, List.drop_nil, List.take_nil, Nat.le_refl, Nat.min_self, WO_pure, WO_mem, pureStep, memStep, WC_true, WC_false, WO_guardq, qg, retQ, resOf, resAll, resA, wp_some, kv_ite, km_ite, kv_none, ↓reduceIte, Nat.reduceEqDiff, reduceCtorEq, decide_true, decide_false, Bool.not_true, Bool.not_false, List.map_cons, List.map_nil, List.nil_append, List.append_nil, Option.map_some, Option.map_none, if_true, if_false, true_and, and_true, Int.reduceEq, Int.reduceLT, Int.reduceLE, Int.reduceNeg, Nat.reduceAdd, Nat.reduceLeDiff, Bool.true_eq_false, Bool.false_eq_true, beq_self_eq_true]
      exact h
    · have f1 : ¬ ((b.toNat : Int) = 45) := by omega
      have f2 : ¬ ((b.toNat : Int) < 48) := by omega
      have f3 : (57 : Int) < (b.toNat : Int) := by omega
      have f4 : ¬ ((b.toNat : Int) < 65) := by omega
      have f5 : (90 : Int) < (b.toNat : Int) := by omega
      have f6 : ¬ ((b.toNat : Int) < 97) := by omega
      have f7 : ¬ ((122 : Int) < (b.toNat : Int)) := by omega
      have hg : isNm b = true := by unfold isNm; simp; omega
      simp only [k0, k3, c1, c2, e4, hb, Int.toNat_natCast, f1, f2, f3, f4, f5, f6, f7, AV.undef, unA, qs, qb, qe, qi, qp, qm, qh, set_newRow_at, Int.reduceToNat, Nat.reduceMul, List.getElem?_cons_succ, List.getElem?_cons_zero, false_implies, true_implies, forall_const, implies_true, set_newRow_lt, Nat.lt_add_one, Nat.min_eq_left, Nat.le_add_right, qc, fillA, evParts, repCells, wrRow_eq, splice, partA, List.length_cons, List.length_nil, List.take_succ_cons, List.take_zero, List.drop_succ_cons, List.drop_zero, List.cons_append, Option.bind_some, Nat.add_zero, Nat.zero_add, List.drop_nil, List.take_nil, Nat.le_refl, Nat.min_self, WO_pure, WO_mem, pureStep, memStep, WC_true, WC_false, WO_guardq, qg, retQ, resOf, resAll, resA, wp_some, kv_ite, km_ite, kv_none, ↓reduceIte, Nat.reduceEqDiff, reduceCtorEq, decide_true, decide_false, Bool.not_true, Bool.not_false, List.map_cons, List.map_nil, List.nil_append, List.append_nil, Option.map_some, Option.map_none, if_true, if_false, true_and, and_true, Int.reduceEq, Int.reduceLT, Int.reduceLE, Int.reduceNeg, Nat.reduceAdd, Nat.reduceLeDiff, Bool.true_eq_false, Bool.false_eq_true, beq_self_eq_true]
      exact ⟨_, by omega, i + 1, rfl, by omega, by simp only [k0, AV.undef, unA, qs, qb, qe, qi, qp, qm, qh, set_newRow_at, Int.reduceToNat, Nat.reduceMul, List.getElem?_cons_succ, List.getElem?_cons_zero, false_implies, true_implies, forall_const, implies_true, set_newRow_lt, Nat.lt_add_one, Nat.min_eq_left, Nat.le_add_right, qc, fillA, evParts, repCells, wrRow_eq, splice, partA, List.length_cons, List.length_nil, List.take_succ_cons, List.take_zero, List.drop_succ_cons, List.drop_zero, List.cons_append, Option.bind_some, Nat.add_zero, Nat.zero_add, List.drop_nil, List.take_nil, Nat.le_refl, Nat.min_self, WO_pure, WO_mem, pureStep, memStep, WC_true, WC_false, WO_guardq, qg, retQ, resOf, resAll, resA, wp_some, kv_ite, km_ite, kv_none, ↓reduceIte, Nat.reduceEqDiff, reduceCtorEq, decide_true, decide_false, Bool.not_true, Bool.not_false, List.map_cons, List.map_nil, List.nil_append, List.append_nil, Option.map_some, Option.map_none, if_true, if_false, true_and, and_true, Int.reduceEq, Int.reduceLT, Int.reduceLE, Int.reduceNeg, Nat.reduceAdd, Nat.reduceLeDiff, Bool.true_eq_false, Bool.false_eq_true, beq_self_eq_true], by simp only [AV.undef, unA, qs, qb, qe, qi, qp, qm, qh, set_newRow_at, Int.reduceToNat, Nat.reduceMul, List.getElem?_cons_succ, List.getElem?_cons_zero, false_implies, true_implies, forall_const, implies_true, set_newRow_lt, Nat.lt_add_one, Nat.min_eq_left, Nat.le_add_right, qc, fillA, evParts, repCells, wrRow_eq, splice, partA, List.length_cons, List.length_nil, List.take_succ_cons, List.take_zero, List.drop_succ_cons, List.drop_zero, List.cons_append, Option.bind_some, Nat.add_zero, Nat.zero_add, List.drop_nil, List.take_nil, Nat.le_refl, Nat.min_self, WO_pure, WO_mem, pureStep, memStep, WC_true, WC_false, WO_guardq, qg, retQ, resOf, resAll, resA, wp_some, kv_ite, km_ite, kv_none, ↓reduceIte, Nat.reduceEqDiff, reduceCtorEq, decide_true, decide_false, Bool.not_true, Bool.not_false, List.map_cons, List.map_nil, List.nil_append, List.append_nil, Option.map_some, Option.map_none, if_true, if_false, true_and, and_true, Int.reduceEq, Int.reduceLT, Int.reduceLE, Int.reduceNeg, Nat.reduceAdd, Nat.reduceLeDiff, Bool.true_eq_false, Bool.false_eq_true, beq_self_eq_true], hgood hg, rfl, rfl⟩
    · have f1 : ¬ ((b.toNat : Int) = 45) := by omega
      have f2 : ¬ ((b.toNat : Int) < 48) := by omega
      have f3 : (57 : Int) < (b.toNat : Int) := by omega
      have f4 : ¬ ((b.toNat : Int) < 65) := by omega
      have f5 : (90 : Int) < (b.toNat : Int) := by omega
      have f6 : ¬ ((b.toNat : Int) < 97) := by omega
      have f7 : (122 : Int) < (b.toNat : Int) := by omega
      have hg : isNm b = false := by unfold isNm; simp; omega
      rw [hbad hg] at h
      simp only [k0, k3, c1, c2, e4, hb, Int.toNat_natCast, f1, f2, f3, f4, f5, f6, f7, AV.undef, unA, qs, qb, qe, qi, qp, qm, qh, set_newRow_at, Int.reduceToNat, Nat.reduceMul, List.getElem?_cons_succ, List.getElem?_cons_zero, false_implies, true_implies, forall_const, implies_true, set_newRow_lt, Nat.lt_add_one, Nat.min_eq_left, Nat.le_add_right, qc, fillA, evParts, repCells, wrRow_eq, splice, partA, List.length_cons, List.length_nil, List.take_succ_cons, List.take_zero, List.drop_succ_cons, List.drop_zero, List.cons_append, Option.bind_some, Nat.add_zero, Nat.zero_add, List.drop_nil, List.take_nil, Nat.le_refl, Nat.min_self, WO_pure, WO_mem, pureStep, memStep, WC_true, WC_false, WO_guardq, qg, retQ, resOf, resAll, resA, wp_some, kv_ite, km_ite, kv_none, ↓reduceIte, Nat.reduceEqDiff, reduceCtorEq, decide_true, decide_false, Bool.not_true, Bool.not_false, List.map_cons, List.map_nil, List.nil_append, List.append_nil, Option.map_some, Option.map_none, if_true, if_false, true_and, and_true, Int.reduceEq, Int.reduceLT, Int.reduceLE, Int.reduceNeg, Nat.reduceAdd, Nat.reduceLeDiff, Bool.true_eq_false, Bool.false_eq_true, beq_self_eq_true]
      exact h
  · have c1 : ¬ (i : Int) < (s.length : Int) := by omega
    rw [List.take_of_length_le (by omega)] at hall
    unfold nameOk at h
    rw [hall] at h
    by_cases g1 : 1 ≤ s.length
    · have d1 : (1 : Int) ≤ (s.length : Int) := by omega
      by_cases g2 : s.length ≤ 24
      · have d2 : (s.length : Int) ≤ 24 := by omega
        simp only [g1, g2, Bool.true_and, decide_true] at h
        simp only [k0, k3, c1, d1, d2, AV.undef, unA, qs, qb, qe, qi, qp, qm, qh, set_newRow_at, Int.reduceToNat, Nat.reduceMul, List.getElem?_cons_succ, List.getElem?_cons_zero, false_implies, true_implies, forall_const, implies_true, set_newRow_lt, Nat.lt_add_one, Nat.min_eq_left, Nat.le_add_right, qc, fillA, evParts, repCells, wrRow_eq, splice, partA, List.length_cons, List.length_nil, List.take_succ_cons, List.take_zero, List.drop_succ_cons, List.drop_zero, List.cons_append, Option.bind_some, Nat.add_zero, Nat.zero_add, List.drop_nil, List.take_nil, Nat.le_refl, Nat.min_self, WO_pure, WO_mem, pureStep, memStep, WC_true, WC_false, WO_guardq, qg, retQ, resOf, resAll, resA, wp_some, kv_ite, km_ite, kv_none, ↓reduceIte, Nat.reduceEqDiff, reduceCtorEq, decide_true, decide_false, Bool.not_true, Bool.not_false, List.map_cons, List.map_nil, List.nil_append, List.append_nil, Option.map_some, Option.map_none, if_true, if_false, true_and, and_true, Int.reduceEq, Int.reduceLT, Int.reduceLE, Int.reduceNeg, Nat.reduceAdd, Nat.reduceLeDiff, Bool.true_eq_false, Bool.false_eq_true, beq_self_eq_true]
        exact h
      · have d2 : ¬ (s.length : Int) ≤ 24 := by omega
        simp only [g1, g2, Bool.true_and, decide_true, decide_false] at h
        simp only [k0, k3, c1, d1, d2, AV.undef, unA, qs, qb, qe, qi, qp, qm, qh, set_newRow_at, Int.reduceToNat, Nat.reduceMul, List.getElem?_cons_succ, List.getElem?_cons_zero, false_implies, true_implies, forall_const, implies_true, set_newRow_lt, Nat.lt_add_one, Nat.min_eq_left, Nat.le_add_right, qc, fillA, evParts, repCells, wrRow_eq, splice, partA, List.length_cons, List.length_nil, List.take_succ_cons, List.take_zero, List.drop_succ_cons, List.drop_zero, List.cons_append, Option.bind_some, Nat.add_zero, Nat.zero_add, List.drop_nil, List.take_nil, Nat.le_refl, Nat.min_self, WO_pure, WO_mem, pureStep, memStep, WC_true, WC_false, WO_guardq, qg, retQ, resOf, resAll, resA, wp_some, kv_ite, km_ite, kv_none, ↓reduceIte, Nat.reduceEqDiff, reduceCtorEq, decide_true, decide_false, Bool.not_true, Bool.not_false, List.map_cons, List.map_nil, List.nil_append, List.append_nil, Option.map_some, Option.map_none, if_true, if_false, true_and, and_true, Int.reduceEq, Int.reduceLT, Int.reduceLE, Int.reduceNeg, Nat.reduceAdd, Nat.reduceLeDiff, Bool.true_eq_false, Bool.false_eq_true, beq_self_eq_true]
        exact h
    · have d1 : ¬ (1 : Int) ≤ (s.length : Int) := by omega
      simp only [g1, Bool.true_and, Bool.false_and, decide_false] at h
      simp only [k0, k3, c1, d1, AV.undef, unA, qs, qb, qe, qi, qp, qm, qh, set_newRow_at, Int.reduceToNat, Nat.reduceMul, List.getElem?_cons_succ, List.getElem?_cons_zero, false_implies, true_implies, forall_const, implies_true, set_newRow_lt, Nat.lt_add_one, Nat.min_eq_left, Nat.le_add_right, qc, fillA, evParts, repCells, wrRow_eq, splice, partA, List.length_cons, List.length_nil, List.take_succ_cons, List.take_zero, List.drop_succ_cons, List.drop_zero, List.cons_append, Option.bind_some, Nat.add_zero, Nat.zero_add, List.drop_nil, List.take_nil, Nat.le_refl, Nat.min_self, WO_pure, WO_mem, pureStep, memStep, WC_true, WC_false, WO_guardq, qg, retQ, resOf, resAll, resA, wp_some, kv_ite, km_ite, kv_none, ↓reduceIte, Nat.reduceEqDiff, reduceCtorEq, decide_true, decide_false, Bool.not_true, Bool.not_false, List.map_cons, List.map_nil, List.nil_append, List.append_nil, Option.map_some, Option.map_none, if_true, if_false, true_and, and_true, Int.reduceEq, Int.reduceLT, Int.reduceLE, Int.reduceNeg, Nat.reduceAdd, Nat.reduceLeDiff, Bool.true_eq_false, Bool.false_eq_true, beq_self_eq_true]
      exact h
end Go.Proofs.Qq.Qqd

namespace Go.Proofs.Qq.Qqd
open Go.Proofs.Qq

/-- What makes a message right: its kind, how many numbers, its text. -/
def rightM (k : Int) (n : Nat) (s : List UInt8) : Bool := (msgSize k).2 && decide ((n : Int) = (msgSize k).1) && (decide (s = []) || (decide (k = 4) && nameOk s))

set_option maxHeartbeats 8000000 in
/-- barrowref12.Right -/
theorem run54 (k : Int) (a : Option (Nat × Nat)) (n : Nat) (c : Option Nat) (s : List UInt8) (hlen : s.length ≤ 9223372036854775806) (H : AHeap) (Q : AV → AHeap → Nat → Prop)
    (h : ∀ H', Ext H H' → Q (.bool (rightM k n s)) H' H.length) : WF T 54 [.agg [.int .i64 k, .slice a n c, .str s]] H Q := by
  refine (WF_code (fn := a54) rfl _ _ _).2 ?_
  have h' := h _ ((Ext.refl H).addRow [.int .i64 k, .slice a n c, .str s] 0)
  simp only [a54, AV.undef, unA, qs, qb, qe, qi, qp, qm, qh, set_newRow_at, Int.reduceToNat, Nat.reduceMul, List.getElem?_cons_succ, List.getElem?_cons_zero, false_implies, true_implies, forall_const, implies_true, set_newRow_lt, Nat.lt_add_one, Nat.min_eq_left, Nat.le_add_right, qc, fillA, evParts, repCells, wrRow_eq, splice, partA, List.length_cons, List.length_nil, List.take_succ_cons, List.take_zero, List.drop_succ_cons, List.drop_zero, List.cons_append, Option.bind_some, Nat.add_zero, Nat.zero_add, List.drop_nil, List.take_nil, Nat.le_refl, Nat.min_self, WO_pure, WO_mem, pureStep, memStep, WC_true, WC_false, WO_guardq, qg, retQ, resOf, resAll, resA, wp_some, kv_ite, km_ite, kv_none, ↓reduceIte, Nat.reduceEqDiff, reduceCtorEq, decide_true, decide_false, Bool.not_true, Bool.not_false, List.map_cons, List.map_nil, List.nil_append, List.append_nil, Option.map_some, Option.map_none, if_true, if_false, true_and, and_true, Int.reduceEq, Int.reduceLT, Int.reduceLE, Int.reduceNeg, Nat.reduceAdd, Nat.reduceLeDiff, Bool.true_eq_false, Bool.false_eq_true, beq_self_eq_true]
  refine WO_call rfl (run52 k _ _ ?_)
  simp only [AV.undef, unA, qs, qb, qe, qi, qp, qm, qh, set_newRow_at, Int.reduceToNat, Nat.reduceMul, List.getElem?_cons_succ, List.getElem?_cons_zero, false_implies, true_implies, forall_const, implies_true, set_newRow_lt, Nat.lt_add_one, Nat.min_eq_left, Nat.le_add_right, qc, fillA, evParts, repCells, wrRow_eq, splice, partA, List.length_cons, List.length_nil, List.take_succ_cons, List.take_zero, List.drop_succ_cons, List.drop_zero, List.cons_append, Option.bind_some, Nat.add_zero, Nat.zero_add, List.drop_nil, List.take_nil, Nat.le_refl, Nat.min_self, WO_pure, WO_mem, pureStep, memStep, WC_true, WC_false, WO_guardq, qg, retQ, resOf, resAll, resA, wp_some, kv_ite, km_ite, kv_none, ↓reduceIte, Nat.reduceEqDiff, reduceCtorEq, decide_true, decide_false, Bool.not_true, Bool.not_false, List.map_cons, List.map_nil, List.nil_append, List.append_nil, Option.map_some, Option.map_none, if_true, if_false, true_and, and_true, Int.reduceEq, Int.reduceLT, Int.reduceLE, Int.reduceNeg, Nat.reduceAdd, Nat.reduceLeDiff, Bool.true_eq_false, Bool.false_eq_true, beq_self_eq_true]
  refine WO_call rfl (run63 s hlen _ _ ?_)
  unfold rightM at h'
  generalize msgSize k = z at h'
  obtain ⟨zn, zb⟩ := z
  simp only [] at h'
  have es : binStr .eql s [] = some (.bool (decide (s = []))) := by
    unfold binStr; cases s <;> rfl
  cases zb with
  | false =>
    simp only [Bool.false_and] at h'
    simp only [AV.undef, unA, qs, qb, qe, qi, qp, qm, qh, set_newRow_at, Int.reduceToNat, Nat.reduceMul, List.getElem?_cons_succ, List.getElem?_cons_zero, false_implies, true_implies, forall_const, implies_true, set_newRow_lt, Nat.lt_add_one, Nat.min_eq_left, Nat.le_add_right, qc, fillA, evParts, repCells, wrRow_eq, splice, partA, List.length_cons, List.length_nil, List.take_succ_cons, List.take_zero, List.drop_succ_cons, List.drop_zero, List.cons_append, Option.bind_some, Nat.add_zero, Nat.zero_add, List.drop_nil, List.take_nil, Nat.le_refl, Nat.min_self, WO_pure, WO_mem, pureStep, memStep, WC_true, WC_false, WO_guardq, qg, retQ, resOf, resAll, resA, wp_some, kv_ite, km_ite, kv_none, ↓reduceIte, Nat.reduceEqDiff, reduceCtorEq, decide_true, decide_false, Bool.not_true, Bool.not_false, List.map_cons, List.map_nil, List.nil_append, List.append_nil, Option.map_some, Option.map_none, if_true, if_false, true_and, and_true, Int.reduceEq, Int.reduceLT, Int.reduceLE, Int.reduceNeg, Nat.reduceAdd, Nat.reduceLeDiff, Bool.true_eq_false, Bool.false_eq_true, beq_self_eq_true]
    exact h'
  | true =>
    by_cases hn : (n : Int) = zn
    · by_cases hs : s = []
      · simp only [hn, decide_eq_true hs, decide_true, Bool.true_and, Bool.true_or] at h'
        rw [decide_eq_true hs] at es
        simp only [hn, es, AV.undef, unA, qs, qb, qe, qi, qp, qm, qh, set_newRow_at, Int.reduceToNat, Nat.reduceMul, List.getElem?_cons_succ, List.getElem?_cons_zero, false_implies, true_implies, forall_const, implies_true, set_newRow_lt, Nat.lt_add_one, Nat.min_eq_left, Nat.le_add_right, qc, fillA, evParts, repCells, wrRow_eq, splice, partA, List.length_cons, List.length_nil, List.take_succ_cons, List.take_zero, List.drop_succ_cons, List.drop_zero, List.cons_append, Option.bind_some, Nat.add_zero, Nat.zero_add, List.drop_nil, List.take_nil, Nat.le_refl, Nat.min_self, WO_pure, WO_mem, pureStep, memStep, WC_true, WC_false, WO_guardq, qg, retQ, resOf, resAll, resA, wp_some, kv_ite, km_ite, kv_none, ↓reduceIte, Nat.reduceEqDiff, reduceCtorEq, decide_true, decide_false, Bool.not_true, Bool.not_false, List.map_cons, List.map_nil, List.nil_append, List.append_nil, Option.map_some, Option.map_none, if_true, if_false, true_and, and_true, Int.reduceEq, Int.reduceLT, Int.reduceLE, Int.reduceNeg, Nat.reduceAdd, Nat.reduceLeDiff, Bool.true_eq_false, Bool.false_eq_true, beq_self_eq_true]
        exact h'
      · rw [decide_eq_false hs] at es
        by_cases hk : k = 4
        · simp only [hn, hs, hk, decide_true, decide_false, Bool.true_and, Bool.false_or] at h'
          simp only [hn, es, hk, AV.undef, unA, qs, qb, qe, qi, qp, qm, qh, set_newRow_at, Int.reduceToNat, Nat.reduceMul, List.getElem?_cons_succ, List.getElem?_cons_zero, false_implies, true_implies, forall_const, implies_true, set_newRow_lt, Nat.lt_add_one, Nat.min_eq_left, Nat.le_add_right, qc, fillA, evParts, repCells, wrRow_eq, splice, partA, List.length_cons, List.length_nil, List.take_succ_cons, List.take_zero, List.drop_succ_cons, List.drop_zero, List.cons_append, Option.bind_some, Nat.add_zero, Nat.zero_add, List.drop_nil, List.take_nil, Nat.le_refl, Nat.min_self, WO_pure, WO_mem, pureStep, memStep, WC_true, WC_false, WO_guardq, qg, retQ, resOf, resAll, resA, wp_some, kv_ite, km_ite, kv_none, ↓reduceIte, Nat.reduceEqDiff, reduceCtorEq, decide_true, decide_false, Bool.not_true, Bool.not_false, List.map_cons, List.map_nil, List.nil_append, List.append_nil, Option.map_some, Option.map_none, if_true, if_false, true_and, and_true, Int.reduceEq, Int.reduceLT, Int.reduceLE, Int.reduceNeg, Nat.reduceAdd, Nat.reduceLeDiff, Bool.true_eq_false, Bool.false_eq_true, beq_self_eq_true]
          exact h'
        · simp only [hn, hs, hk, decide_true, decide_false, Bool.true_and, Bool.false_or, Bool.false_and] at h'
          simp only [hn, es, hk, AV.undef, unA, qs, qb, qe, qi, qp, qm, qh, set_newRow_at, Int.reduceToNat, Nat.reduceMul, List.getElem?_cons_succ, List.getElem?_cons_zero, false_implies, true_implies, forall_const, implies_true, set_newRow_lt, Nat.lt_add_one, Nat.min_eq_left, Nat.le_add_right, qc, fillA, evParts, repCells, wrRow_eq, splice, partA, List.length_cons, List.length_nil, List.take_succ_cons, List.take_zero, List.drop_succ_cons, List.drop_zero, List.cons_append, Option.bind_some, Nat.add_zero, Nat.zero_add, List.drop_nil, List.take_nil, Nat.le_refl, Nat.min_self, WO_pure, WO_mem, pureStep, memStep, WC_true, WC_false, WO_guardq, qg, retQ, resOf, resAll, resA, wp_some, kv_ite, km_ite, kv_none, ↓reduceIte, Nat.reduceEqDiff, reduceCtorEq, decide_true, decide_false, Bool.not_true, Bool.not_false, List.map_cons, List.map_nil, List.nil_append, List.append_nil, Option.map_some, Option.map_none, if_true, if_false, true_and, and_true, Int.reduceEq, Int.reduceLT, Int.reduceLE, Int.reduceNeg, Nat.reduceAdd, Nat.reduceLeDiff, Bool.true_eq_false, Bool.false_eq_true, beq_self_eq_true]
          exact h'
    · simp only [hn, decide_false, Bool.true_and, Bool.false_and] at h'
      simp only [hn, AV.undef, unA, qs, qb, qe, qi, qp, qm, qh, set_newRow_at, Int.reduceToNat, Nat.reduceMul, List.getElem?_cons_succ, List.getElem?_cons_zero, false_implies, true_implies, forall_const, implies_true, set_newRow_lt, Nat.lt_add_one, Nat.min_eq_left, Nat.le_add_right, qc, fillA, evParts, repCells, wrRow_eq, splice, partA, List.length_cons, List.length_nil, List.take_succ_cons, List.take_zero, List.drop_succ_cons, List.drop_zero, List.cons_append, Option.bind_some, Nat.add_zero, Nat.zero_add, List.drop_nil, List.take_nil, Nat.le_refl, Nat.min_self, WO_pure, WO_mem, pureStep, memStep, WC_true, WC_false, WO_guardq, qg, retQ, resOf, resAll, resA, wp_some, kv_ite, km_ite, kv_none, ↓reduceIte, Nat.reduceEqDiff, reduceCtorEq, decide_true, decide_false, Bool.not_true, Bool.not_false, List.map_cons, List.map_nil, List.nil_append, List.append_nil, Option.map_some, Option.map_none, if_true, if_false, true_and, and_true, Int.reduceEq, Int.reduceLT, Int.reduceLE, Int.reduceNeg, Nat.reduceAdd, Nat.reduceLeDiff, Bool.true_eq_false, Bool.false_eq_true, beq_self_eq_true]
      exact h'
end Go.Proofs.Qq.Qqd

