/-
  Part of the proof: the abstract machine, its soundness, contracts of functions.
-/
import Derived.Test.YthnpngefpbijkaaDoorQ5
import Derived.Test.YthnpngefpbijkaaDoorQ0
import Derived.Test.YthnpngefpbijkaaDoorQ3
import Derived.Test.YthnpngefpbijkaaDoorChecked
import Derived.KernelRfl
import Derived.Test.YthnpngefpbijkaaDoorQ4
set_option linter.all false
namespace Go.Proofs.Qq.Qqd
open Go.Proofs.Qq

/-- A message: its kind, its numbers, its text. -/
structure Msg where
  kind : Int
  l : List Int
  text : List UInt8
  deriving DecidableEq

structure MV (H : AHeap) (v : AV) (m : Msg) : Prop where
  ex : ∃ a n c, v = .agg [.int .i64 m.kind, .slice a n c, .str m.text] ∧ SE eInt H a n c m.l

theorem MV.ext {H H' : AHeap} {v : AV} {m : Msg} (h : MV H v m) (hx : Ext H H') : MV H' v m := let ⟨a, n, c, h1, h2⟩ := h.ex; ⟨a, n, c, h1, h2.ext hx⟩

def mright (m : Msg) : Bool := rightM m.kind m.l.length m.text

theorem p54 {H : AHeap} {v : AV} {m : Msg} (h : MV H v m) (hl : m.text.length ≤ 9223372036854775806) : PF T 54 [v] H fun r _ => r = .bool (mright m) := by
  obtain ⟨a, n, c, rfl, hs⟩ := h.ex
  obtain rfl := hs.n
  exact run54 _ _ _ _ _ hl H _ fun H' hx => ⟨rfl, hx, rfl⟩

theorem p51 (k : Int) (H : AHeap) : PF T 51 [.int .i64 k] H fun r _ => r = .tup [.int .i64 (msgSize k).1, .bool (msgSize k).2] :=
  run51 k H _ fun H' hx => ⟨rfl, hx, rfl⟩
theorem p52 (k : Int) (H : AHeap) : PF T 52 [.int .i64 k] H fun r _ => r = .tup [.int .i64 (msgSize k).1, .bool (msgSize k).2] :=
  run52 k H _ ⟨rfl, Ext.refl _, rfl⟩

/-- message.Right -/
theorem p17 {H : AHeap} {v : AV} {m : Msg} (h : MV H v m) (hl : m.text.length ≤ 9223372036854775806) : PF T 17 [v] H fun r _ => r = .bool (mright m) := by
  obtain ⟨a, n, c, rfl, hs⟩ := h.ex
  obtain rfl := hs.n
  refine PF_code rfl _ _ _ ?_
  simp only [a17]
  simp (disch := first | omega | assumption | (simp only [List.length_cons, List.length_nil, len_newRow, len_set] <;> omega) | fail) only [eq_self, if_pos, if_neg, binStr_eql, binStr_neq, dec_t, dec_f, w64, wu64, wu8, Int.toNat_natCast, rQ_ret, rQ_norm, rngQ_norm, rngQ_ret, rngQ_exit, Nat.mul_one, loadA_new_eq, loadA_new_ne, loadA_set_eq, loadA_set_ne, hOf_new_eq, hOf_new_ne, hOf_set_eq, hOf_set_ne, wrRow_new_eq, wrRow_new_ne, lower_ge, lower_none, len_newRow, len_set, AV.undef, unA, qs, qb, qe, qi, Int.reduceToNat, Nat.reduceMul, List.getElem?_cons_succ, List.getElem?_cons_zero, false_implies, true_implies, forall_const, implies_true, Nat.lt_add_one, Nat.min_eq_left, Nat.le_add_right, qc, fillA, evParts, repCells, splice, partA, List.length_cons, List.length_nil, List.take_succ_cons, List.take_zero, List.drop_succ_cons, List.drop_zero, List.cons_append, Option.bind_some, Nat.add_zero, Nat.zero_add, List.drop_nil, List.take_nil, Nat.le_refl, Nat.min_self, qv, qu, pureStep, memStep, WC_look, condQ_true, condQ_false, WO_gd, gdQ_tt, gdQ_ff, gdQ_tf, gdQ_ft, gdQ_u, resOf, resAll, resA, wp_some, kv_none, ↓reduceIte, Nat.reduceEqDiff, reduceCtorEq, decide_true, decide_false, Bool.not_true, Bool.not_false, List.map_cons, List.map_nil, List.nil_append, List.append_nil, Option.map_some, Option.map_none, if_true, if_false, true_and, and_true, Int.reduceEq, Int.reduceLT, Int.reduceLE, Int.reduceNeg, Nat.reduceAdd, Nat.reduceLeDiff, Bool.true_eq_false, Bool.false_eq_true, beq_self_eq_true, nilckA, bne, Bool.not_eq_true']
  refine WO_callP rfl (Ext.refl _).nr (p51 m.kind _) ?_
  rintro v H1 hx1 hx2 rfl
  have hlen1 := hx2.len
  rw [len_newRow] at hlen1
  obtain ⟨r, hr⟩ : ∃ r : Row, hOf H1 H.length = some ⟨[.int .i64 m.kind, .slice a m.l.length c, .str m.text], true, 0⟩ := ⟨⟨[], true, 0⟩, hx2.row _ _ (by rw [hOf_newRow, if_pos rfl])⟩
  have l0 : loadA false 1 H1 (.ptr (some (H.length, 0))) = some (.int .i64 m.kind) := by rw [loadA_ptr, hr]; rfl
  have l1 : loadA false 1 H1 (.ptr (some (H.length, 1))) = some (.slice a m.l.length c) := by rw [loadA_ptr, hr]; rfl
  have l2 : loadA false 1 H1 (.ptr (some (H.length, 2))) = some (.str m.text) := by rw [loadA_ptr, hr]; rfl
  unfold mright rightM
  generalize msgSize m.kind = z
  obtain ⟨zn, zb⟩ := z
  simp (disch := first | omega | assumption | (simp only [List.length_cons, List.length_nil, len_newRow, len_set] <;> omega) | fail) only [eq_self, if_pos, if_neg, binStr_eql, binStr_neq, dec_t, dec_f, w64, wu64, wu8, Int.toNat_natCast, rQ_ret, rQ_norm, rngQ_norm, rngQ_ret, rngQ_exit, Nat.mul_one, loadA_new_eq, loadA_new_ne, loadA_set_eq, loadA_set_ne, hOf_new_eq, hOf_new_ne, hOf_set_eq, hOf_set_ne, wrRow_new_eq, wrRow_new_ne, lower_ge, lower_none, len_newRow, len_set, AV.undef, unA, qs, qb, qe, qi, Int.reduceToNat, Nat.reduceMul, List.getElem?_cons_succ, List.getElem?_cons_zero, false_implies, true_implies, forall_const, implies_true, Nat.lt_add_one, Nat.min_eq_left, Nat.le_add_right, qc, fillA, evParts, repCells, splice, partA, List.length_cons, List.length_nil, List.take_succ_cons, List.take_zero, List.drop_succ_cons, List.drop_zero, List.cons_append, Option.bind_some, Nat.add_zero, Nat.zero_add, List.drop_nil, List.take_nil, Nat.le_refl, Nat.min_self, qv, qu, pureStep, memStep, WC_look, condQ_true, condQ_false, WO_gd, gdQ_tt, gdQ_ff, gdQ_tf, gdQ_ft, gdQ_u, resOf, resAll, resA, wp_some, kv_none, ↓reduceIte, Nat.reduceEqDiff, reduceCtorEq, decide_true, decide_false, Bool.not_true, Bool.not_false, List.map_cons, List.map_nil, List.nil_append, List.append_nil, Option.map_some, Option.map_none, if_true, if_false, true_and, and_true, Int.reduceEq, Int.reduceLT, Int.reduceLE, Int.reduceNeg, Nat.reduceAdd, Nat.reduceLeDiff, Bool.true_eq_false, Bool.false_eq_true, beq_self_eq_true, nilckA, bne, Bool.not_eq_true']
  cases zb with
  | false =>
    simp (disch := first | omega | assumption | (simp only [List.length_cons, List.length_nil, len_newRow, len_set] <;> omega) | fail) only [eq_self, if_pos, if_neg, binStr_eql, binStr_neq, dec_t, dec_f, w64, wu64, wu8, Int.toNat_natCast, rQ_ret, rQ_norm, rngQ_norm, rngQ_ret, rngQ_exit, Nat.mul_one, loadA_new_eq, loadA_new_ne, loadA_set_eq, loadA_set_ne, hOf_new_eq, hOf_new_ne, hOf_set_eq, hOf_set_ne, wrRow_new_eq, wrRow_new_ne, lower_ge, lower_none, len_newRow, len_set, AV.undef, unA, qs, qb, qe, qi, Int.reduceToNat, Nat.reduceMul, List.getElem?_cons_succ, List.getElem?_cons_zero, false_implies, true_implies, forall_const, implies_true, Nat.lt_add_one, Nat.min_eq_left, Nat.le_add_right, qc, fillA, evParts, repCells, splice, partA, List.length_cons, List.length_nil, List.take_succ_cons, List.take_zero, List.drop_succ_cons, List.drop_zero, List.cons_append, Option.bind_some, Nat.add_zero, Nat.zero_add, List.drop_nil, List.take_nil, Nat.le_refl, Nat.min_self, qv, qu, pureStep, memStep, WC_look, condQ_true, condQ_false, WO_gd, gdQ_tt, gdQ_ff, gdQ_tf, gdQ_ft, gdQ_u, resOf, resAll, resA, wp_some, kv_none, ↓reduceIte, Nat.reduceEqDiff, reduceCtorEq, decide_true, decide_false, Bool.not_true, Bool.not_false, List.map_cons, List.map_nil, List.nil_append, List.append_nil, Option.map_some, Option.map_none, if_true, if_false, true_and, and_true, Int.reduceEq, Int.reduceLT, Int.reduceLE, Int.reduceNeg, Nat.reduceAdd, Nat.reduceLeDiff, Bool.true_eq_false, Bool.false_eq_true, beq_self_eq_true, nilckA, bne, Bool.not_eq_true']
    exact ⟨hx1, rfl⟩
  | true =>
    simp (disch := first | omega | assumption | (simp only [List.length_cons, List.length_nil, len_newRow, len_set] <;> omega) | fail) only [l1, eq_self, if_pos, if_neg, binStr_eql, binStr_neq, dec_t, dec_f, w64, wu64, wu8, Int.toNat_natCast, rQ_ret, rQ_norm, rngQ_norm, rngQ_ret, rngQ_exit, Nat.mul_one, loadA_new_eq, loadA_new_ne, loadA_set_eq, loadA_set_ne, hOf_new_eq, hOf_new_ne, hOf_set_eq, hOf_set_ne, wrRow_new_eq, wrRow_new_ne, lower_ge, lower_none, len_newRow, len_set, AV.undef, unA, qs, qb, qe, qi, Int.reduceToNat, Nat.reduceMul, List.getElem?_cons_succ, List.getElem?_cons_zero, false_implies, true_implies, forall_const, implies_true, Nat.lt_add_one, Nat.min_eq_left, Nat.le_add_right, qc, fillA, evParts, repCells, splice, partA, List.length_cons, List.length_nil, List.take_succ_cons, List.take_zero, List.drop_succ_cons, List.drop_zero, List.cons_append, Option.bind_some, Nat.add_zero, Nat.zero_add, List.drop_nil, List.take_nil, Nat.le_refl, Nat.min_self, qv, qu, pureStep, memStep, WC_look, condQ_true, condQ_false, WO_gd, gdQ_tt, gdQ_ff, gdQ_tf, gdQ_ft, gdQ_u, resOf, resAll, resA, wp_some, kv_none, ↓reduceIte, Nat.reduceEqDiff, reduceCtorEq, decide_true, decide_false, Bool.not_true, Bool.not_false, List.map_cons, List.map_nil, List.nil_append, List.append_nil, Option.map_some, Option.map_none, if_true, if_false, true_and, and_true, Int.reduceEq, Int.reduceLT, Int.reduceLE, Int.reduceNeg, Nat.reduceAdd, Nat.reduceLeDiff, Bool.true_eq_false, Bool.false_eq_true, beq_self_eq_true, nilckA, bne, Bool.not_eq_true']
    refine WC_ndec (fun g => ?_) (fun g => ?_)
    · simp (disch := first | omega | assumption | (simp only [List.length_cons, List.length_nil, len_newRow, len_set] <;> omega) | fail) only [eq_self, if_pos, if_neg, binStr_eql, binStr_neq, dec_t, dec_f, w64, wu64, wu8, Int.toNat_natCast, rQ_ret, rQ_norm, rngQ_norm, rngQ_ret, rngQ_exit, Nat.mul_one, loadA_new_eq, loadA_new_ne, loadA_set_eq, loadA_set_ne, hOf_new_eq, hOf_new_ne, hOf_set_eq, hOf_set_ne, wrRow_new_eq, wrRow_new_ne, lower_ge, lower_none, len_newRow, len_set, AV.undef, unA, qs, qb, qe, qi, Int.reduceToNat, Nat.reduceMul, List.getElem?_cons_succ, List.getElem?_cons_zero, false_implies, true_implies, forall_const, implies_true, Nat.lt_add_one, Nat.min_eq_left, Nat.le_add_right, qc, fillA, evParts, repCells, splice, partA, List.length_cons, List.length_nil, List.take_succ_cons, List.take_zero, List.drop_succ_cons, List.drop_zero, List.cons_append, Option.bind_some, Nat.add_zero, Nat.zero_add, List.drop_nil, List.take_nil, Nat.le_refl, Nat.min_self, qv, qu, pureStep, memStep, WC_look, condQ_true, condQ_false, WO_gd, gdQ_tt, gdQ_ff, gdQ_tf, gdQ_ft, gdQ_u, resOf, resAll, resA, wp_some, kv_none, ↓reduceIte, Nat.reduceEqDiff, reduceCtorEq, decide_true, decide_false, Bool.not_true, Bool.not_false, List.map_cons, List.map_nil, List.nil_append, List.append_nil, Option.map_some, Option.map_none, if_true, if_false, true_and, and_true, Int.reduceEq, Int.reduceLT, Int.reduceLE, Int.reduceNeg, Nat.reduceAdd, Nat.reduceLeDiff, Bool.true_eq_false, Bool.false_eq_true, beq_self_eq_true, nilckA, bne, Bool.not_eq_true']
      exact ⟨hx1, by simp [g]⟩
    · have g2 : decide (((m.l.length : Nat) : Int) = zn) = true := decide_eq_true g
      simp (disch := first | omega | assumption | (simp only [List.length_cons, List.length_nil, len_newRow, len_set] <;> omega) | fail) only [l2, eq_self, if_pos, if_neg, binStr_eql, binStr_neq, dec_t, dec_f, w64, wu64, wu8, Int.toNat_natCast, rQ_ret, rQ_norm, rngQ_norm, rngQ_ret, rngQ_exit, Nat.mul_one, loadA_new_eq, loadA_new_ne, loadA_set_eq, loadA_set_ne, hOf_new_eq, hOf_new_ne, hOf_set_eq, hOf_set_ne, wrRow_new_eq, wrRow_new_ne, lower_ge, lower_none, len_newRow, len_set, AV.undef, unA, qs, qb, qe, qi, Int.reduceToNat, Nat.reduceMul, List.getElem?_cons_succ, List.getElem?_cons_zero, false_implies, true_implies, forall_const, implies_true, Nat.lt_add_one, Nat.min_eq_left, Nat.le_add_right, qc, fillA, evParts, repCells, splice, partA, List.length_cons, List.length_nil, List.take_succ_cons, List.take_zero, List.drop_succ_cons, List.drop_zero, List.cons_append, Option.bind_some, Nat.add_zero, Nat.zero_add, List.drop_nil, List.take_nil, Nat.le_refl, Nat.min_self, qv, qu, pureStep, memStep, WC_look, condQ_true, condQ_false, WO_gd, gdQ_tt, gdQ_ff, gdQ_tf, gdQ_ft, gdQ_u, resOf, resAll, resA, wp_some, kv_none, ↓reduceIte, Nat.reduceEqDiff, reduceCtorEq, decide_true, decide_false, Bool.not_true, Bool.not_false, List.map_cons, List.map_nil, List.nil_append, List.append_nil, Option.map_some, Option.map_none, if_true, if_false, true_and, and_true, Int.reduceEq, Int.reduceLT, Int.reduceLE, Int.reduceNeg, Nat.reduceAdd, Nat.reduceLeDiff, Bool.true_eq_false, Bool.false_eq_true, beq_self_eq_true, nilckA, bne, Bool.not_eq_true']
      by_cases h0 : m.text = []
      · simp (disch := first | omega | assumption | (simp only [List.length_cons, List.length_nil, len_newRow, len_set] <;> omega) | fail) only [h0, l2, eq_self, if_pos, if_neg, binStr_eql, binStr_neq, dec_t, dec_f, w64, wu64, wu8, Int.toNat_natCast, rQ_ret, rQ_norm, rngQ_norm, rngQ_ret, rngQ_exit, Nat.mul_one, loadA_new_eq, loadA_new_ne, loadA_set_eq, loadA_set_ne, hOf_new_eq, hOf_new_ne, hOf_set_eq, hOf_set_ne, wrRow_new_eq, wrRow_new_ne, lower_ge, lower_none, len_newRow, len_set, AV.undef, unA, qs, qb, qe, qi, Int.reduceToNat, Nat.reduceMul, List.getElem?_cons_succ, List.getElem?_cons_zero, false_implies, true_implies, forall_const, implies_true, Nat.lt_add_one, Nat.min_eq_left, Nat.le_add_right, qc, fillA, evParts, repCells, splice, partA, List.length_cons, List.length_nil, List.take_succ_cons, List.take_zero, List.drop_succ_cons, List.drop_zero, List.cons_append, Option.bind_some, Nat.add_zero, Nat.zero_add, List.drop_nil, List.take_nil, Nat.le_refl, Nat.min_self, qv, qu, pureStep, memStep, WC_look, condQ_true, condQ_false, WO_gd, gdQ_tt, gdQ_ff, gdQ_tf, gdQ_ft, gdQ_u, resOf, resAll, resA, wp_some, kv_none, ↓reduceIte, Nat.reduceEqDiff, reduceCtorEq, decide_true, decide_false, Bool.not_true, Bool.not_false, List.map_cons, List.map_nil, List.nil_append, List.append_nil, Option.map_some, Option.map_none, if_true, if_false, true_and, and_true, Int.reduceEq, Int.reduceLT, Int.reduceLE, Int.reduceNeg, Nat.reduceAdd, Nat.reduceLeDiff, Bool.true_eq_false, Bool.false_eq_true, beq_self_eq_true, nilckA, bne, Bool.not_eq_true']
        exact ⟨hx1, by simp [g]⟩
      · simp (disch := first | omega | assumption | (simp only [List.length_cons, List.length_nil, len_newRow, len_set] <;> omega) | fail) only [h0, l0, l2, eq_self, if_pos, if_neg, binStr_eql, binStr_neq, dec_t, dec_f, w64, wu64, wu8, Int.toNat_natCast, rQ_ret, rQ_norm, rngQ_norm, rngQ_ret, rngQ_exit, Nat.mul_one, loadA_new_eq, loadA_new_ne, loadA_set_eq, loadA_set_ne, hOf_new_eq, hOf_new_ne, hOf_set_eq, hOf_set_ne, wrRow_new_eq, wrRow_new_ne, lower_ge, lower_none, len_newRow, len_set, AV.undef, unA, qs, qb, qe, qi, Int.reduceToNat, Nat.reduceMul, List.getElem?_cons_succ, List.getElem?_cons_zero, false_implies, true_implies, forall_const, implies_true, Nat.lt_add_one, Nat.min_eq_left, Nat.le_add_right, qc, fillA, evParts, repCells, splice, partA, List.length_cons, List.length_nil, List.take_succ_cons, List.take_zero, List.drop_succ_cons, List.drop_zero, List.cons_append, Option.bind_some, Nat.add_zero, Nat.zero_add, List.drop_nil, List.take_nil, Nat.le_refl, Nat.min_self, qv, qu, pureStep, memStep, WC_look, condQ_true, condQ_false, WO_gd, gdQ_tt, gdQ_ff, gdQ_tf, gdQ_ft, gdQ_u, resOf, resAll, resA, wp_some, kv_none, ↓reduceIte, Nat.reduceEqDiff, reduceCtorEq, decide_true, decide_false, Bool.not_true, Bool.not_false, List.map_cons, List.map_nil, List.nil_append, List.append_nil, Option.map_some, Option.map_none, if_true, if_false, true_and, and_true, Int.reduceEq, Int.reduceLT, Int.reduceLE, Int.reduceNeg, Nat.reduceAdd, Nat.reduceLeDiff, Bool.true_eq_false, Bool.false_eq_true, beq_self_eq_true, nilckA, bne, Bool.not_eq_true']
        by_cases h4 : m.kind = 4
        · simp (disch := first | omega | assumption | (simp only [List.length_cons, List.length_nil, len_newRow, len_set] <;> omega) | fail) only [h4, l2, eq_self, if_pos, if_neg, binStr_eql, binStr_neq, dec_t, dec_f, w64, wu64, wu8, Int.toNat_natCast, rQ_ret, rQ_norm, rngQ_norm, rngQ_ret, rngQ_exit, Nat.mul_one, loadA_new_eq, loadA_new_ne, loadA_set_eq, loadA_set_ne, hOf_new_eq, hOf_new_ne, hOf_set_eq, hOf_set_ne, wrRow_new_eq, wrRow_new_ne, lower_ge, lower_none, len_newRow, len_set, AV.undef, unA, qs, qb, qe, qi, Int.reduceToNat, Nat.reduceMul, List.getElem?_cons_succ, List.getElem?_cons_zero, false_implies, true_implies, forall_const, implies_true, Nat.lt_add_one, Nat.min_eq_left, Nat.le_add_right, qc, fillA, evParts, repCells, splice, partA, List.length_cons, List.length_nil, List.take_succ_cons, List.take_zero, List.drop_succ_cons, List.drop_zero, List.cons_append, Option.bind_some, Nat.add_zero, Nat.zero_add, List.drop_nil, List.take_nil, Nat.le_refl, Nat.min_self, qv, qu, pureStep, memStep, WC_look, condQ_true, condQ_false, WO_gd, gdQ_tt, gdQ_ff, gdQ_tf, gdQ_ft, gdQ_u, resOf, resAll, resA, wp_some, kv_none, ↓reduceIte, Nat.reduceEqDiff, reduceCtorEq, decide_true, decide_false, Bool.not_true, Bool.not_false, List.map_cons, List.map_nil, List.nil_append, List.append_nil, Option.map_some, Option.map_none, if_true, if_false, true_and, and_true, Int.reduceEq, Int.reduceLT, Int.reduceLE, Int.reduceNeg, Nat.reduceAdd, Nat.reduceLeDiff, Bool.true_eq_false, Bool.false_eq_true, beq_self_eq_true, nilckA, bne, Bool.not_eq_true']
          refine WO_callP rfl hx1 (p37 m.text hl _) ?_
          rintro v H2 hx3 hx4 rfl
          simp (disch := first | omega | assumption | (simp only [List.length_cons, List.length_nil, len_newRow, len_set] <;> omega) | fail) only [eq_self, if_pos, if_neg, binStr_eql, binStr_neq, dec_t, dec_f, w64, wu64, wu8, Int.toNat_natCast, rQ_ret, rQ_norm, rngQ_norm, rngQ_ret, rngQ_exit, Nat.mul_one, loadA_new_eq, loadA_new_ne, loadA_set_eq, loadA_set_ne, hOf_new_eq, hOf_new_ne, hOf_set_eq, hOf_set_ne, wrRow_new_eq, wrRow_new_ne, lower_ge, lower_none, len_newRow, len_set, AV.undef, unA, qs, qb, qe, qi, Int.reduceToNat, Nat.reduceMul, List.getElem?_cons_succ, List.getElem?_cons_zero, false_implies, true_implies, forall_const, implies_true, Nat.lt_add_one, Nat.min_eq_left, Nat.le_add_right, qc, fillA, evParts, repCells, splice, partA, List.length_cons, List.length_nil, List.take_succ_cons, List.take_zero, List.drop_succ_cons, List.drop_zero, List.cons_append, Option.bind_some, Nat.add_zero, Nat.zero_add, List.drop_nil, List.take_nil, Nat.le_refl, Nat.min_self, qv, qu, pureStep, memStep, WC_look, condQ_true, condQ_false, WO_gd, gdQ_tt, gdQ_ff, gdQ_tf, gdQ_ft, gdQ_u, resOf, resAll, resA, wp_some, kv_none, ↓reduceIte, Nat.reduceEqDiff, reduceCtorEq, decide_true, decide_false, Bool.not_true, Bool.not_false, List.map_cons, List.map_nil, List.nil_append, List.append_nil, Option.map_some, Option.map_none, if_true, if_false, true_and, and_true, Int.reduceEq, Int.reduceLT, Int.reduceLE, Int.reduceNeg, Nat.reduceAdd, Nat.reduceLeDiff, Bool.true_eq_false, Bool.false_eq_true, beq_self_eq_true, nilckA, bne, Bool.not_eq_true']
          exact ⟨hx3, by simp [g]⟩
        · simp (disch := first | omega | assumption | (simp only [List.length_cons, List.length_nil, len_newRow, len_set] <;> omega) | fail) only [h4, l2, eq_self, if_pos, if_neg, binStr_eql, binStr_neq, dec_t, dec_f, w64, wu64, wu8, Int.toNat_natCast, rQ_ret, rQ_norm, rngQ_norm, rngQ_ret, rngQ_exit, Nat.mul_one, loadA_new_eq, loadA_new_ne, loadA_set_eq, loadA_set_ne, hOf_new_eq, hOf_new_ne, hOf_set_eq, hOf_set_ne, wrRow_new_eq, wrRow_new_ne, lower_ge, lower_none, len_newRow, len_set, AV.undef, unA, qs, qb, qe, qi, Int.reduceToNat, Nat.reduceMul, List.getElem?_cons_succ, List.getElem?_cons_zero, false_implies, true_implies, forall_const, implies_true, Nat.lt_add_one, Nat.min_eq_left, Nat.le_add_right, qc, fillA, evParts, repCells, splice, partA, List.length_cons, List.length_nil, List.take_succ_cons, List.take_zero, List.drop_succ_cons, List.drop_zero, List.cons_append, Option.bind_some, Nat.add_zero, Nat.zero_add, List.drop_nil, List.take_nil, Nat.le_refl, Nat.min_self, qv, qu, pureStep, memStep, WC_look, condQ_true, condQ_false, WO_gd, gdQ_tt, gdQ_ff, gdQ_tf, gdQ_ft, gdQ_u, resOf, resAll, resA, wp_some, kv_none, ↓reduceIte, Nat.reduceEqDiff, reduceCtorEq, decide_true, decide_false, Bool.not_true, Bool.not_false, List.map_cons, List.map_nil, List.nil_append, List.append_nil, Option.map_some, Option.map_none, if_true, if_false, true_and, and_true, Int.reduceEq, Int.reduceLT, Int.reduceLE, Int.reduceNeg, Nat.reduceAdd, Nat.reduceLeDiff, Bool.true_eq_false, Bool.false_eq_true, beq_self_eq_true, nilckA, bne, Bool.not_eq_true']
          exact ⟨hx1, by simp [g]⟩
end Go.Proofs.Qq.Qqd

namespace Go.Proofs.Qq.Qqd
open Go.Proofs.Qq

/-- Some numbers are read, from a place on. -/
def rdInts (bs : List UInt8) : Nat → Int → Option (List Int × Int)
  | 0, p => some ([], p)
  | k + 1, p =>
    if (rdU bs p).2.2 = 0 then
      match rdInts bs k (rdU bs p).2.1 with
      | some (l, q) => some (zag (rdU bs p).1 :: l, q)
      | none => none
    else none

/-- The message that bytes are. -/
def decM (bs : List UInt8) : Option Msg :=
  match bs with
  | [] => none
  | b :: _ =>
    match rdInts bs (msgSize b.toNat).1.toNat 1 with
    | none => none
    | some (l, q) => if mright ⟨b.toNat, l, bs.drop q.toNat⟩ then some ⟨b.toNat, l, bs.drop q.toNat⟩ else none

theorem rdU_range (bs : List UInt8) (p : Int) (h : (rdU bs p).2.2 = 0) : p < (rdU bs p).2.1 ∧ (rdU bs p).2.1 ≤ bs.length := by
  unfold rdU at h ⊢
  split at h
  · simp at h
  · rename_i hn
    rw [if_neg hn]
    split at h
    · rename_i v n hv
      have := vrL_pos _ _ _ _ _ hv
      rw [List.length_drop] at this
      simp only []
      omega
    · simp at h

def decOut (lo : Nat) (H : AHeap) (r : AV) : Option Msg → Prop
  | none => r = .tup [.agg [.int .i64 0, .slice none 0 none, .str []], .int .i64 2]
  | some m => ∃ sl, r = .tup [.agg [.int .i64 m.kind, sl, .str m.text], .int .i64 0] ∧ Own eInt lo H sl m.l

/-- A slice of bytes from a place on, as a text. -/
theorem rest_text {H : AHeap} {a : Option (Nat × Nat)} {c : Option Nat} {bs : List UInt8} (h : SE eByte H a bs.length c bs) {l : Nat} (hl : l ≤ bs.length) :
    ∃ a' c', sliceOf 1 a bs.length c (some (.int .i64 (l : Int))) none none = some (.slice a' (bs.length - l) c') ∧ b2sA H (.slice a' (bs.length - l) c') = some (.str (bs.drop l)) := by
  have hat := h.at_
  rw [eByte_cs] at hat
  obtain ⟨a', c', e1, e2, e3⟩ := slice_rest hat (c := c) (l := l) (by simpa [bytesA_len] using h.cap) (by rw [bytesA_len]; exact hl) .i64
  rw [bytesA_len] at e1
  refine ⟨a', c', e1, ?_⟩
  rw [bytesA_drop, ← eByte_cs] at e2
  have hs : SE eByte H a' (bs.length - l) c' (bs.drop l) := ⟨by simp, e2, by simpa [bytesA_len] using e3⟩
  have hsrc := hs.src
  rw [List.length_drop] at hsrc
  have hb : ∀ xs : List UInt8, bytesOfA (eByte.cs xs) = some xs := by
    intro xs
    induction xs with
    | nil => rfl
    | cons x xs ih =>
      rw [Flat.cs_cons]
      show bytesOfA (.int .u8 x.toNat :: eByte.cs xs) = _
      simp only [bytesOfA, byteOfA, ih]
      simp
  cases a' with
  | none =>
    have : eByte.cs (bs.drop l) = [] := hs.at_
    have h0 : bs.drop l = [] := by
      apply List.eq_nil_of_length_eq_zero
      have := eByte.cs_len (bs.drop l)
      simp_all [eByte]
    rw [h0]; rfl
  | some p =>
    have e : srcCells H 1 (bs.length - l) (.slice (some p) (bs.length - l) c') = some (eByte.cs (bs.drop l)) := hsrc
    unfold b2sA
    simp only [e, hb]

theorem p53 {H : AHeap} {a : Option (Nat × Nat)} {c : Option Nat} {bs : List UInt8} (h : SE eByte H a bs.length c bs) (hl : bs.length ≤ 9223372036854775806) (p : Int) (hp : p ≤ 9223372036854775806) :
    PF T 53 [.slice a bs.length c, .int .i64 p] H fun r _ => r = .tup [.int .i64 (zag (rdU bs p).1), .int .i64 (rdU bs p).2.1, .int .i64 (rdU bs p).2.2] :=
  run53 bs hl a c H (eByte_cs bs ▸ h.at_) p hp _ ⟨rfl, Ext.refl _, rfl⟩
theorem p55 {H : AHeap} {a : Option (Nat × Nat)} {c : Option Nat} {bs : List UInt8} (h : SE eByte H a bs.length c bs) (hl : bs.length ≤ 9223372036854775806) (p : Int) :
    PF T 55 [.slice a bs.length c, .int .i64 p] H fun r _ => r = .tup [.int .i64 (zag (rdU bs p).1), .int .i64 (rdU bs p).2.1, .int .i64 (rdU bs p).2.2] :=
  run55 bs (by omega) a c H (eByte_cs bs ▸ h.at_) h.cap p _ ⟨rfl, Ext.refl _, rfl⟩

theorem rdInts_none (bs : List UInt8) (k : Nat) (p : Int) (h : ¬ (rdU bs p).2.2 = 0) : rdInts bs (k + 1) p = none := by rw [rdInts, if_neg h]
theorem rdInts_range (bs : List UInt8) : ∀ (k : Nat) (p : Int) (l : List Int) (q : Int), p ≤ bs.length → rdInts bs k p = some (l, q) → p ≤ q ∧ q ≤ bs.length ∧ l.length = k
  | 0, p, l, q, hp, h => by simp [rdInts] at h; obtain ⟨rfl, rfl⟩ := h; exact ⟨Int.le_refl _, hp, rfl⟩
  | k + 1, p, l, q, hp, h => by
    rw [rdInts] at h
    split at h
    · rename_i h0
      have hr := rdU_range bs p h0
      split at h
      · rename_i l' q' h'
        simp only [Option.some.injEq, Prod.mk.injEq] at h
        obtain ⟨rfl, rfl⟩ := h
        have := rdInts_range bs k _ l' q' hr.2 h'
        exact ⟨by omega, this.2.1, by simp [this.2.2]⟩
      · cases h
    · cases h

/-- What is known while numbers are read: the row of the message and that of the result. -/
structure RdSt (H : AHeap) (kind : Int) (H' : AHeap) (sl : AV) (xs : List Int) : Prop where
  ext : Ext H H'
  res : hOf H' H.length = some ⟨[.int .i64 0, .slice none 0 none, .str []], true, 0⟩
  row : hOf H' (H.length + 1) = some ⟨[.int .i64 kind, sl, .str []], true, 0⟩
  own : Own eInt (H.length + 2) H' sl xs

/-- One number more. -/
theorem RdSt.add {H : AHeap} {kind : Int} {H' : AHeap} {sl : AV} {xs : List Int} (h : RdSt H kind H' sl xs) (n : Int) (hn : xs.length ≤ 1000000) :
    ∃ sl' H2 w, appendA 1 8 (newRow H' [.int .i64 n] 1) sl (.slice (some (H'.length, 0)) 1 none) = some (sl', H2, w) ∧ hOf H2 (H.length + 1) = some ⟨[.int .i64 kind, sl, .str []], true, 0⟩ ∧ lower H.length w = H.length ∧
      RdSt H kind (List.set H2 (H.length + 1) (.row ⟨[.int .i64 kind, sl', .str []], true, 0⟩)) sl' (xs ++ [n]) := by
  have hlen := hOf_is_lt h.row
  have hown := h.own.ext (Ext.newRow H' [.int .i64 n] 1)
  obtain ⟨sl', H2, w, e1, o1, a1⟩ := append_own (x := .slice (some (H'.length, 0)) 1 none) (ys := [n]) (bytes := 8) hown (by rw [len_newRow]; omega) rfl
    (SE.src (E := eInt) (H := newRow H' [.int .i64 n] 1) (a := some (H'.length, 0)) (n := 1) (c := none) (xs := [n]) ⟨rfl, ⟨_, by rw [hOf_newRow, if_pos rfl], by simp, rfl⟩, fun k h => by cases h⟩) (by decide) (by simp [room]; omega)
  have hge := hown.ge
  have keep : ∀ i r, i < H.length + 2 → hOf H' i = some r → hOf H2 i = some r := fun i r hi hr =>
    a1.row i r (fun o n c e => by have := hge i o n c e; omega) ((Ext.newRow H' _ 1).row i r hr)
  have hl2 : H'.length + 1 ≤ H2.length := by have := a1.len; rwa [len_newRow] at this
  refine ⟨sl', H2, w, e1, keep _ _ (by omega) h.row, a1.lower (by omega), ?_, ?_, ?_, ?_⟩
  · exact (a1.ext h.ext.nr (fun i o n c e => by have := hge i o n c e; omega)).set (by omega) _
  · rw [hOf_set_ne (by omega)]; exact keep _ _ (by omega) h.res
  · rw [hOf_set_eq rfl (by omega)]
  · exact o1.set (by omega) _

theorem msgSize_le (k : Int) : 0 ≤ (msgSize k).1 ∧ (msgSize k).1 ≤ 10 := by
  unfold msgSize
  repeat' (first | (split; decide) | split | decide)

structure DecInv (bs : List UInt8) (H : AHeap) (kind : Int) (N : Nat) (j : Nat) (p : Int) (H' : AHeap) (sl : AV) (xs : List Int) : Prop where
  st : RdSt H kind H' sl xs
  xl : xs.length = j
  p1 : 1 ≤ p
  p2 : p ≤ bs.length
  tot : (rdInts bs (N - j) p).map (fun q => (xs ++ q.1, q.2)) = rdInts bs N 1

/-- One number read: all goes on, or there is none. -/
theorem DecInv.next {bs : List UInt8} {H : AHeap} {kind : Int} {N j : Nat} {p : Int} {H' : AHeap} {sl : AV} {xs : List Int} (h : DecInv bs H kind N j p H' sl xs) (hj : j < N) :
    (¬ (rdU bs p).2.2 = 0 → rdInts bs N 1 = none) ∧ ((rdU bs p).2.2 = 0 → (rdInts bs (N - (j + 1)) (rdU bs p).2.1).map (fun q => (xs ++ [zag (rdU bs p).1] ++ q.1, q.2)) = rdInts bs N 1) := by
  have ht := h.tot
  obtain ⟨k, hk⟩ : ∃ k, N - j = k + 1 := ⟨N - j - 1, by omega⟩
  have hk2 : N - (j + 1) = k := by omega
  rw [hk] at ht
  rw [hk2]
  constructor
  · intro h0
    rw [rdInts_none bs k p h0] at ht
    exact ht.symm
  · intro h0
    rw [← ht, rdInts, if_pos h0]
    cases rdInts bs k (rdU bs p).2.1 with
    | none => rfl
    | some q => simp

/-- message.Decode's end: from the numbers to the message. -/
theorem decM_none (b : UInt8) (bs : List UInt8) (h : rdInts (b :: bs) (msgSize b.toNat).1.toNat 1 = none) : decM (b :: bs) = none := by simp only [decM, h]
theorem decM_some (b : UInt8) (bs : List UInt8) (l : List Int) (q : Int) (h : rdInts (b :: bs) (msgSize b.toNat).1.toNat 1 = some (l, q)) :
    decM (b :: bs) = if mright ⟨b.toNat, l, (b :: bs).drop q.toNat⟩ then some ⟨b.toNat, l, (b :: bs).drop q.toNat⟩ else none := by simp only [decM, h]

set_option maxHeartbeats 4000000 in
/-- barrowref12.Decode -/
theorem p12 {H : AHeap} {a : Option (Nat × Nat)} {c : Option Nat} {bs : List UInt8} (h : SE eByte H a bs.length c bs) (hl : bs.length ≤ 1000000) :
    PF T 12 [.slice a bs.length c] H fun r H' => decOut H.length H' r (decM bs) := by
  refine PF_code rfl _ _ _ ?_
  simp only [a12]
  cases bs with
  | nil =>
    simp (disch := first | omega | assumption | (simp only [List.length_cons, List.length_nil, len_newRow, len_set] <;> omega) | fail) only [eq_self, if_pos, if_neg, binStr_eql, binStr_neq, dec_t, dec_f, w64, wu64, wu8, Int.toNat_natCast, rQ_ret, rQ_norm, rngQ_norm, rngQ_ret, rngQ_exit, Nat.mul_one, loadA_new_eq, loadA_new_ne, loadA_set_eq, loadA_set_ne, hOf_new_eq, hOf_new_ne, hOf_set_eq, hOf_set_ne, wrRow_new_eq, wrRow_new_ne, lower_ge, lower_none, len_newRow, len_set, AV.undef, unA, qs, qb, qe, qi, Int.reduceToNat, Nat.reduceMul, List.getElem?_cons_succ, List.getElem?_cons_zero, false_implies, true_implies, forall_const, implies_true, Nat.lt_add_one, Nat.min_eq_left, Nat.le_add_right, qc, fillA, evParts, repCells, splice, partA, List.length_cons, List.length_nil, List.take_succ_cons, List.take_zero, List.drop_succ_cons, List.drop_zero, List.cons_append, Option.bind_some, Nat.add_zero, Nat.zero_add, List.drop_nil, List.take_nil, Nat.le_refl, Nat.min_self, qv, qu, pureStep, memStep, WC_look, condQ_true, condQ_false, WO_gd, gdQ_tt, gdQ_ff, gdQ_tf, gdQ_ft, gdQ_u, resOf, resAll, resA, wp_some, kv_none, ↓reduceIte, Nat.reduceEqDiff, reduceCtorEq, decide_true, decide_false, Bool.not_true, Bool.not_false, List.map_cons, List.map_nil, List.nil_append, List.append_nil, Option.map_some, Option.map_none, if_true, if_false, true_and, and_true, Int.reduceEq, Int.reduceLT, Int.reduceLE, Int.reduceNeg, Nat.reduceAdd, Nat.reduceLeDiff, Bool.true_eq_false, Bool.false_eq_true, beq_self_eq_true, nilckA, bne, Bool.not_eq_true']
    exact ⟨(Ext.refl _).nr, rfl⟩
  | cons b bs' =>
    generalize hbs : b :: bs' = bs at h hl ⊢
    have h0 : bs[0]? = some b := by rw [← hbs]; rfl
    have hpos : 0 < bs.length := by rw [← hbs]; simp
    obtain ⟨i, o, rfl, hi, l1⟩ := h.at1 rfl h0 rfl
    rw [Nat.add_zero] at l1
    have c0 : ¬ (bs.length : Int) = 0 := by omega
    have hb256 : b.toNat < 256 := b.toNat_lt
    simp (disch := first | omega | assumption | (simp only [List.length_cons, List.length_nil, len_newRow, len_set] <;> omega) | fail) only [c0, l1, Int.reduceToNat, Nat.zero_mul, eq_self, if_pos, if_neg, binStr_eql, binStr_neq, dec_t, dec_f, w64, wu64, wu8, Int.toNat_natCast, rQ_ret, rQ_norm, rngQ_norm, rngQ_ret, rngQ_exit, Nat.mul_one, loadA_new_eq, loadA_new_ne, loadA_set_eq, loadA_set_ne, hOf_new_eq, hOf_new_ne, hOf_set_eq, hOf_set_ne, wrRow_new_eq, wrRow_new_ne, lower_ge, lower_none, len_newRow, len_set, AV.undef, unA, qs, qb, qe, qi, Int.reduceToNat, Nat.reduceMul, List.getElem?_cons_succ, List.getElem?_cons_zero, false_implies, true_implies, forall_const, implies_true, Nat.lt_add_one, Nat.min_eq_left, Nat.le_add_right, qc, fillA, evParts, repCells, splice, partA, List.length_cons, List.length_nil, List.take_succ_cons, List.take_zero, List.drop_succ_cons, List.drop_zero, List.cons_append, Option.bind_some, Nat.add_zero, Nat.zero_add, List.drop_nil, List.take_nil, Nat.le_refl, Nat.min_self, qv, qu, pureStep, memStep, WC_look, condQ_true, condQ_false, WO_gd, gdQ_tt, gdQ_ff, gdQ_tf, gdQ_ft, gdQ_u, resOf, resAll, resA, wp_some, kv_none, ↓reduceIte, Nat.reduceEqDiff, reduceCtorEq, decide_true, decide_false, Bool.not_true, Bool.not_false, List.map_cons, List.map_nil, List.nil_append, List.append_nil, Option.map_some, Option.map_none, if_true, if_false, true_and, and_true, Int.reduceEq, Int.reduceLT, Int.reduceLE, Int.reduceNeg, Nat.reduceAdd, Nat.reduceLeDiff, Bool.true_eq_false, Bool.false_eq_true, beq_self_eq_true, nilckA, bne, Bool.not_eq_true']
    refine WO_callP rfl (Ext.refl _).nr.nr (p52 _ _) ?_
    rintro v H1 hx1 hx2 rfl
    have hN := msgSize_le (b.toNat : Int)
    have hdm1 : rdInts bs (msgSize b.toNat).1.toNat 1 = none → decM bs = none := by rw [← hbs]; exact decM_none b bs'
    have hdm2 : ∀ l q, rdInts bs (msgSize b.toNat).1.toNat 1 = some (l, q) → decM bs = if mright ⟨b.toNat, l, bs.drop q.toNat⟩ then some ⟨b.toNat, l, bs.drop q.toNat⟩ else none := by rw [← hbs]; exact decM_some b bs'
    obtain ⟨N, hNe⟩ : ∃ N : Nat, (msgSize b.toNat).1 = (N : Int) := ⟨(msgSize b.toNat).1.toNat, by omega⟩
    rw [hNe] at hN hdm1 hdm2
    rw [Int.toNat_natCast] at hdm1 hdm2
    simp (disch := first | omega | assumption | (simp only [List.length_cons, List.length_nil, len_newRow, len_set] <;> omega) | fail) only [hNe, eq_self, if_pos, if_neg, binStr_eql, binStr_neq, dec_t, dec_f, w64, wu64, wu8, Int.toNat_natCast, rQ_ret, rQ_norm, rngQ_norm, rngQ_ret, rngQ_exit, Nat.mul_one, loadA_new_eq, loadA_new_ne, loadA_set_eq, loadA_set_ne, hOf_new_eq, hOf_new_ne, hOf_set_eq, hOf_set_ne, wrRow_new_eq, wrRow_new_ne, lower_ge, lower_none, len_newRow, len_set, AV.undef, unA, qs, qb, qe, qi, Int.reduceToNat, Nat.reduceMul, List.getElem?_cons_succ, List.getElem?_cons_zero, false_implies, true_implies, forall_const, implies_true, Nat.lt_add_one, Nat.min_eq_left, Nat.le_add_right, qc, fillA, evParts, repCells, splice, partA, List.length_cons, List.length_nil, List.take_succ_cons, List.take_zero, List.drop_succ_cons, List.drop_zero, List.cons_append, Option.bind_some, Nat.add_zero, Nat.zero_add, List.drop_nil, List.take_nil, Nat.le_refl, Nat.min_self, qv, qu, pureStep, memStep, WC_look, condQ_true, condQ_false, WO_gd, gdQ_tt, gdQ_ff, gdQ_tf, gdQ_ft, gdQ_u, resOf, resAll, resA, wp_some, kv_none, ↓reduceIte, Nat.reduceEqDiff, reduceCtorEq, decide_true, decide_false, Bool.not_true, Bool.not_false, List.map_cons, List.map_nil, List.nil_append, List.append_nil, Option.map_some, Option.map_none, if_true, if_false, true_and, and_true, Int.reduceEq, Int.reduceLT, Int.reduceLE, Int.reduceNeg, Nat.reduceAdd, Nat.reduceLeDiff, Bool.true_eq_false, Bool.false_eq_true, beq_self_eq_true, nilckA, bne, Bool.not_eq_true']
    refine WC_loop (fun m s => ∃ j p sl xs, m = N - j ∧ j ≤ N ∧ s.env 0 = .slice (some (i, o)) bs.length c ∧ s.env 2 = .ptr (some (H.length, 0)) ∧ s.env 4 = .ptr (some (H.length + 1, 0)) ∧ s.env 5 = .int .i64 (N : Int) ∧ s.env 7 = .int .i64 p ∧ s.env 8 = .int .i64 (j : Int) ∧ s.low = H.length ∧ DecInv bs H b.toNat N j p s.heap sl xs) ?_ N _
      ⟨0, 1, .slice none 0 none, [], rfl, by omega, rfl, rfl, rfl, rfl, rfl, rfl, rfl, ⟨⟨hx1, ?_, ?_, Own.nil _ _ _⟩, rfl, by omega, by omega, by simp⟩⟩
    · rintro m ⟨e, H', lw⟩ ⟨j, p, sl, xs, hm, hj, k0, k2, k4, k5, k7, k8, kL, hI⟩
      simp only [] at k0 k2 k4 k5 k7 k8 kL hI
      subst kL
      have hp1 := hI.p1
      have hp2 := hI.p2
      have hxl := hI.xl
      have hst := hI.st
      by_cases hlt : j < N
      · simp (disch := first | omega | assumption | (simp only [List.length_cons, List.length_nil, len_newRow, len_set] <;> omega) | fail) only [k0, k2, k4, k5, k7, k8, eq_self, if_pos, if_neg, binStr_eql, binStr_neq, dec_t, dec_f, w64, wu64, wu8, Int.toNat_natCast, rQ_ret, rQ_norm, rngQ_norm, rngQ_ret, rngQ_exit, Nat.mul_one, loadA_new_eq, loadA_new_ne, loadA_set_eq, loadA_set_ne, hOf_new_eq, hOf_new_ne, hOf_set_eq, hOf_set_ne, wrRow_new_eq, wrRow_new_ne, lower_ge, lower_none, len_newRow, len_set, AV.undef, unA, qs, qb, qe, qi, Int.reduceToNat, Nat.reduceMul, List.getElem?_cons_succ, List.getElem?_cons_zero, false_implies, true_implies, forall_const, implies_true, Nat.lt_add_one, Nat.min_eq_left, Nat.le_add_right, qc, fillA, evParts, repCells, splice, partA, List.length_cons, List.length_nil, List.take_succ_cons, List.take_zero, List.drop_succ_cons, List.drop_zero, List.cons_append, Option.bind_some, Nat.add_zero, Nat.zero_add, List.drop_nil, List.take_nil, Nat.le_refl, Nat.min_self, qv, qu, pureStep, memStep, WC_look, condQ_true, condQ_false, WO_gd, gdQ_tt, gdQ_ff, gdQ_tf, gdQ_ft, gdQ_u, resOf, resAll, resA, wp_some, kv_none, ↓reduceIte, Nat.reduceEqDiff, reduceCtorEq, decide_true, decide_false, Bool.not_true, Bool.not_false, List.map_cons, List.map_nil, List.nil_append, List.append_nil, Option.map_some, Option.map_none, if_true, if_false, true_and, and_true, Int.reduceEq, Int.reduceLT, Int.reduceLE, Int.reduceNeg, Nat.reduceAdd, Nat.reduceLeDiff, Bool.true_eq_false, Bool.false_eq_true, beq_self_eq_true, nilckA, bne, Bool.not_eq_true']
        refine WO_callP rfl hst.ext (p53 (h.ext hst.ext) (by omega) p (by omega)) ?_
        rintro v H2 hx3 hx4 rfl
        simp (disch := first | omega | assumption | (simp only [List.length_cons, List.length_nil, len_newRow, len_set] <;> omega) | fail) only [eq_self, if_pos, if_neg, binStr_eql, binStr_neq, dec_t, dec_f, w64, wu64, wu8, Int.toNat_natCast, rQ_ret, rQ_norm, rngQ_norm, rngQ_ret, rngQ_exit, Nat.mul_one, loadA_new_eq, loadA_new_ne, loadA_set_eq, loadA_set_ne, hOf_new_eq, hOf_new_ne, hOf_set_eq, hOf_set_ne, wrRow_new_eq, wrRow_new_ne, lower_ge, lower_none, len_newRow, len_set, AV.undef, unA, qs, qb, qe, qi, Int.reduceToNat, Nat.reduceMul, List.getElem?_cons_succ, List.getElem?_cons_zero, false_implies, true_implies, forall_const, implies_true, Nat.lt_add_one, Nat.min_eq_left, Nat.le_add_right, qc, fillA, evParts, repCells, splice, partA, List.length_cons, List.length_nil, List.take_succ_cons, List.take_zero, List.drop_succ_cons, List.drop_zero, List.cons_append, Option.bind_some, Nat.add_zero, Nat.zero_add, List.drop_nil, List.take_nil, Nat.le_refl, Nat.min_self, qv, qu, pureStep, memStep, WC_look, condQ_true, condQ_false, WO_gd, gdQ_tt, gdQ_ff, gdQ_tf, gdQ_ft, gdQ_u, resOf, resAll, resA, wp_some, kv_none, ↓reduceIte, Nat.reduceEqDiff, reduceCtorEq, decide_true, decide_false, Bool.not_true, Bool.not_false, List.map_cons, List.map_nil, List.nil_append, List.append_nil, Option.map_some, Option.map_none, if_true, if_false, true_and, and_true, Int.reduceEq, Int.reduceLT, Int.reduceLE, Int.reduceNeg, Nat.reduceAdd, Nat.reduceLeDiff, Bool.true_eq_false, Bool.false_eq_true, beq_self_eq_true, nilckA, bne, Bool.not_eq_true']
        have hnx := hI.next hlt
        have hrow := hx4.row _ _ hst.row
        have hres := hx4.row _ _ hst.res
        have hl2 := hOf_is_lt hrow
        refine WC_ndec (fun g => ?_) (fun g => ?_)
        · have hd := hdm1 (hnx.1 g)
          have lres := load_row hres true 3 0
          have wres := wr_at hres rfl 0
          simp (disch := first | omega | assumption | (simp only [List.length_cons, List.length_nil, len_newRow, len_set] <;> omega) | fail) only [k0, k2, k4, k5, k7, k8, wres, eq_self, if_pos, if_neg, binStr_eql, binStr_neq, dec_t, dec_f, w64, wu64, wu8, Int.toNat_natCast, rQ_ret, rQ_norm, rngQ_norm, rngQ_ret, rngQ_exit, Nat.mul_one, loadA_new_eq, loadA_new_ne, loadA_set_eq, loadA_set_ne, hOf_new_eq, hOf_new_ne, hOf_set_eq, hOf_set_ne, wrRow_new_eq, wrRow_new_ne, lower_ge, lower_none, len_newRow, len_set, AV.undef, unA, qs, qb, qe, qi, Int.reduceToNat, Nat.reduceMul, List.getElem?_cons_succ, List.getElem?_cons_zero, false_implies, true_implies, forall_const, implies_true, Nat.lt_add_one, Nat.min_eq_left, Nat.le_add_right, qc, fillA, evParts, repCells, splice, partA, List.length_cons, List.length_nil, List.take_succ_cons, List.take_zero, List.drop_succ_cons, List.drop_zero, List.cons_append, Option.bind_some, Nat.add_zero, Nat.zero_add, List.drop_nil, List.take_nil, Nat.le_refl, Nat.min_self, qv, qu, pureStep, memStep, WC_look, condQ_true, condQ_false, WO_gd, gdQ_tt, gdQ_ff, gdQ_tf, gdQ_ft, gdQ_u, resOf, resAll, resA, wp_some, kv_none, ↓reduceIte, Nat.reduceEqDiff, reduceCtorEq, decide_true, decide_false, Bool.not_true, Bool.not_false, List.map_cons, List.map_nil, List.nil_append, List.append_nil, Option.map_some, Option.map_none, if_true, if_false, true_and, and_true, Int.reduceEq, Int.reduceLT, Int.reduceLE, Int.reduceNeg, Nat.reduceAdd, Nat.reduceLeDiff, Bool.true_eq_false, Bool.false_eq_true, beq_self_eq_true, nilckA, bne, Bool.not_eq_true']
          exact ⟨hx3.set (Nat.le_refl _) _, by rw [hd]; rfl⟩
        · have hr := rdU_range bs p g
          have lrow := load_row hrow false 1 1
          obtain ⟨sl', H3, w, e1, hrow3, elo, hst3⟩ := RdSt.add ⟨hx3, hres, hrow, hst.own.ext hx4⟩ (zag (rdU bs p).1) (by omega)
          obtain ⟨a2, rfl, hse2⟩ := hst3.own.se
          have wrow := wr_at hrow3 rfl 1
          simp (disch := first | omega | assumption | (simp only [List.length_cons, List.length_nil, len_newRow, len_set] <;> omega) | fail) only [k0, k2, k4, k5, k7, k8, lrow, e1, elo, wrow, eq_self, if_pos, if_neg, binStr_eql, binStr_neq, dec_t, dec_f, w64, wu64, wu8, Int.toNat_natCast, rQ_ret, rQ_norm, rngQ_norm, rngQ_ret, rngQ_exit, Nat.mul_one, loadA_new_eq, loadA_new_ne, loadA_set_eq, loadA_set_ne, hOf_new_eq, hOf_new_ne, hOf_set_eq, hOf_set_ne, wrRow_new_eq, wrRow_new_ne, lower_ge, lower_none, len_newRow, len_set, AV.undef, unA, qs, qb, qe, qi, Int.reduceToNat, Nat.reduceMul, List.getElem?_cons_succ, List.getElem?_cons_zero, false_implies, true_implies, forall_const, implies_true, Nat.lt_add_one, Nat.min_eq_left, Nat.le_add_right, qc, fillA, evParts, repCells, splice, partA, List.length_cons, List.length_nil, List.take_succ_cons, List.take_zero, List.drop_succ_cons, List.drop_zero, List.cons_append, Option.bind_some, Nat.add_zero, Nat.zero_add, List.drop_nil, List.take_nil, Nat.le_refl, Nat.min_self, qv, qu, pureStep, memStep, WC_look, condQ_true, condQ_false, WO_gd, gdQ_tt, gdQ_ff, gdQ_tf, gdQ_ft, gdQ_u, resOf, resAll, resA, wp_some, kv_none, ↓reduceIte, Nat.reduceEqDiff, reduceCtorEq, decide_true, decide_false, Bool.not_true, Bool.not_false, List.map_cons, List.map_nil, List.nil_append, List.append_nil, Option.map_some, Option.map_none, if_true, if_false, true_and, and_true, Int.reduceEq, Int.reduceLT, Int.reduceLE, Int.reduceNeg, Nat.reduceAdd, Nat.reduceLeDiff, Bool.true_eq_false, Bool.false_eq_true, beq_self_eq_true, nilckA, bne, Bool.not_eq_true']
          exact ⟨_, by omega, j + 1, _, _, _, rfl, by omega, rfl, rfl, ⟨hst3, by simp [hxl], by omega, hr.2, hnx.2 g⟩⟩
      · have hjN : j = N := by omega
        subst hjN
        obtain ⟨q, rfl⟩ : ∃ q : Nat, p = q := ⟨p.toNat, by omega⟩
        have htot := hI.tot
        rw [Nat.sub_self, rdInts] at htot
        simp only [Option.map_some, List.append_nil] at htot
        have hdm := hdm2 _ _ htot.symm
        rw [Int.toNat_natCast] at hdm
        obtain ⟨a', c', t1, t2⟩ := rest_text (h.ext hst.ext) (l := q) (by omega)
        have lrow := load_row hst.row
        have hl2 := hOf_is_lt hst.row
        have wrow := wr_at hst.row rfl 2
        simp (disch := first | omega | assumption | (simp only [List.length_cons, List.length_nil, len_newRow, len_set] <;> omega) | fail) only [k0, k2, k4, k5, k7, k8, t1, t2, wrow, eq_self, if_pos, if_neg, binStr_eql, binStr_neq, dec_t, dec_f, w64, wu64, wu8, Int.toNat_natCast, rQ_ret, rQ_norm, rngQ_norm, rngQ_ret, rngQ_exit, Nat.mul_one, loadA_new_eq, loadA_new_ne, loadA_set_eq, loadA_set_ne, hOf_new_eq, hOf_new_ne, hOf_set_eq, hOf_set_ne, wrRow_new_eq, wrRow_new_ne, lower_ge, lower_none, len_newRow, len_set, AV.undef, unA, qs, qb, qe, qi, Int.reduceToNat, Nat.reduceMul, List.getElem?_cons_succ, List.getElem?_cons_zero, false_implies, true_implies, forall_const, implies_true, Nat.lt_add_one, Nat.min_eq_left, Nat.le_add_right, qc, fillA, evParts, repCells, splice, partA, List.length_cons, List.length_nil, List.take_succ_cons, List.take_zero, List.drop_succ_cons, List.drop_zero, List.cons_append, Option.bind_some, Nat.add_zero, Nat.zero_add, List.drop_nil, List.take_nil, Nat.le_refl, Nat.min_self, qv, qu, pureStep, memStep, WC_look, condQ_true, condQ_false, WO_gd, gdQ_tt, gdQ_ff, gdQ_tf, gdQ_ft, gdQ_u, resOf, resAll, resA, wp_some, kv_none, ↓reduceIte, Nat.reduceEqDiff, reduceCtorEq, decide_true, decide_false, Bool.not_true, Bool.not_false, List.map_cons, List.map_nil, List.nil_append, List.append_nil, Option.map_some, Option.map_none, if_true, if_false, true_and, and_true, Int.reduceEq, Int.reduceLT, Int.reduceLE, Int.reduceNeg, Nat.reduceAdd, Nat.reduceLeDiff, Bool.true_eq_false, Bool.false_eq_true, beq_self_eq_true, nilckA, bne, Bool.not_eq_true']
        obtain ⟨a2, rfl, hse⟩ := hst.own.se
        have hown2 := hst.own.set (b := H.length + 1) (by omega) (.row ⟨[.int .i64 b.toNat, .slice a2 xs.length none, .str (bs.drop q)], true, 0⟩)
        have hext2 := hst.ext.set (i := H.length + 1) (by omega) (.row ⟨[.int .i64 b.toNat, .slice a2 xs.length none, .str (bs.drop q)], true, 0⟩)
        have hrow2 : hOf (List.set H' (H.length + 1) (.row ⟨[.int .i64 b.toNat, .slice a2 xs.length none, .str (bs.drop q)], true, 0⟩)) (H.length + 1) = some _ := hOf_set_eq rfl hl2 _
        have hres2 : hOf (List.set H' (H.length + 1) (.row ⟨[.int .i64 b.toNat, .slice a2 xs.length none, .str (bs.drop q)], true, 0⟩)) H.length = some _ := (hOf_set_ne (by omega) _).trans hst.res
        obtain ⟨a3, e3, hse2⟩ := hown2.se
        cases e3
        refine WO_callP rfl hext2 (p54 (m := ⟨b.toNat, xs, bs.drop q⟩) ⟨_, _, _, rfl, hse2⟩ (by simp; omega)) ?_
        rintro v H2 hx3 hx4 rfl
        have hrow3 := hx4.row _ _ hrow2
        have hres3 := hx4.row _ _ hres2
        have lrow3 := load_row hrow3 true 3 0
        have wres3 := wr_at hres3 rfl 0
        have hl3 := hOf_is_lt hres3
        simp (disch := first | omega | assumption | (simp only [List.length_cons, List.length_nil, len_newRow, len_set] <;> omega) | fail) only [eq_self, if_pos, if_neg, binStr_eql, binStr_neq, dec_t, dec_f, w64, wu64, wu8, Int.toNat_natCast, rQ_ret, rQ_norm, rngQ_norm, rngQ_ret, rngQ_exit, Nat.mul_one, loadA_new_eq, loadA_new_ne, loadA_set_eq, loadA_set_ne, hOf_new_eq, hOf_new_ne, hOf_set_eq, hOf_set_ne, wrRow_new_eq, wrRow_new_ne, lower_ge, lower_none, len_newRow, len_set, AV.undef, unA, qs, qb, qe, qi, Int.reduceToNat, Nat.reduceMul, List.getElem?_cons_succ, List.getElem?_cons_zero, false_implies, true_implies, forall_const, implies_true, Nat.lt_add_one, Nat.min_eq_left, Nat.le_add_right, qc, fillA, evParts, repCells, splice, partA, List.length_cons, List.length_nil, List.take_succ_cons, List.take_zero, List.drop_succ_cons, List.drop_zero, List.cons_append, Option.bind_some, Nat.add_zero, Nat.zero_add, List.drop_nil, List.take_nil, Nat.le_refl, Nat.min_self, qv, qu, pureStep, memStep, WC_look, condQ_true, condQ_false, WO_gd, gdQ_tt, gdQ_ff, gdQ_tf, gdQ_ft, gdQ_u, resOf, resAll, resA, wp_some, kv_none, ↓reduceIte, Nat.reduceEqDiff, reduceCtorEq, decide_true, decide_false, Bool.not_true, Bool.not_false, List.map_cons, List.map_nil, List.nil_append, List.append_nil, Option.map_some, Option.map_none, if_true, if_false, true_and, and_true, Int.reduceEq, Int.reduceLT, Int.reduceLE, Int.reduceNeg, Nat.reduceAdd, Nat.reduceLeDiff, Bool.true_eq_false, Bool.false_eq_true, beq_self_eq_true, nilckA, bne, Bool.not_eq_true']
        refine WC_not (fun g => ?_) (fun g => ?_)
        · simp (disch := first | omega | assumption | (simp only [List.length_cons, List.length_nil, len_newRow, len_set] <;> omega) | fail) only [k2, k4, wres3, lrow3, eq_self, if_pos, if_neg, binStr_eql, binStr_neq, dec_t, dec_f, w64, wu64, wu8, Int.toNat_natCast, rQ_ret, rQ_norm, rngQ_norm, rngQ_ret, rngQ_exit, Nat.mul_one, loadA_new_eq, loadA_new_ne, loadA_set_eq, loadA_set_ne, hOf_new_eq, hOf_new_ne, hOf_set_eq, hOf_set_ne, wrRow_new_eq, wrRow_new_ne, lower_ge, lower_none, len_newRow, len_set, AV.undef, unA, qs, qb, qe, qi, Int.reduceToNat, Nat.reduceMul, List.getElem?_cons_succ, List.getElem?_cons_zero, false_implies, true_implies, forall_const, implies_true, Nat.lt_add_one, Nat.min_eq_left, Nat.le_add_right, qc, fillA, evParts, repCells, splice, partA, List.length_cons, List.length_nil, List.take_succ_cons, List.take_zero, List.drop_succ_cons, List.drop_zero, List.cons_append, Option.bind_some, Nat.add_zero, Nat.zero_add, List.drop_nil, List.take_nil, Nat.le_refl, Nat.min_self, qv, qu, pureStep, memStep, WC_look, condQ_true, condQ_false, WO_gd, gdQ_tt, gdQ_ff, gdQ_tf, gdQ_ft, gdQ_u, resOf, resAll, resA, wp_some, kv_none, ↓reduceIte, Nat.reduceEqDiff, reduceCtorEq, decide_true, decide_false, Bool.not_true, Bool.not_false, List.map_cons, List.map_nil, List.nil_append, List.append_nil, Option.map_some, Option.map_none, if_true, if_false, true_and, and_true, Int.reduceEq, Int.reduceLT, Int.reduceLE, Int.reduceNeg, Nat.reduceAdd, Nat.reduceLeDiff, Bool.true_eq_false, Bool.false_eq_true, beq_self_eq_true, nilckA, bne, Bool.not_eq_true']
          exact ⟨hx3.set (Nat.le_refl _) _, by rw [hdm, g]; rfl⟩
        · simp (disch := first | omega | assumption | (simp only [List.length_cons, List.length_nil, len_newRow, len_set] <;> omega) | fail) only [k2, k4, wres3, lrow3, eq_self, if_pos, if_neg, binStr_eql, binStr_neq, dec_t, dec_f, w64, wu64, wu8, Int.toNat_natCast, rQ_ret, rQ_norm, rngQ_norm, rngQ_ret, rngQ_exit, Nat.mul_one, loadA_new_eq, loadA_new_ne, loadA_set_eq, loadA_set_ne, hOf_new_eq, hOf_new_ne, hOf_set_eq, hOf_set_ne, wrRow_new_eq, wrRow_new_ne, lower_ge, lower_none, len_newRow, len_set, AV.undef, unA, qs, qb, qe, qi, Int.reduceToNat, Nat.reduceMul, List.getElem?_cons_succ, List.getElem?_cons_zero, false_implies, true_implies, forall_const, implies_true, Nat.lt_add_one, Nat.min_eq_left, Nat.le_add_right, qc, fillA, evParts, repCells, splice, partA, List.length_cons, List.length_nil, List.take_succ_cons, List.take_zero, List.drop_succ_cons, List.drop_zero, List.cons_append, Option.bind_some, Nat.add_zero, Nat.zero_add, List.drop_nil, List.take_nil, Nat.le_refl, Nat.min_self, qv, qu, pureStep, memStep, WC_look, condQ_true, condQ_false, WO_gd, gdQ_tt, gdQ_ff, gdQ_tf, gdQ_ft, gdQ_u, resOf, resAll, resA, wp_some, kv_none, ↓reduceIte, Nat.reduceEqDiff, reduceCtorEq, decide_true, decide_false, Bool.not_true, Bool.not_false, List.map_cons, List.map_nil, List.nil_append, List.append_nil, Option.map_some, Option.map_none, if_true, if_false, true_and, and_true, Int.reduceEq, Int.reduceLT, Int.reduceLE, Int.reduceNeg, Nat.reduceAdd, Nat.reduceLeDiff, Bool.true_eq_false, Bool.false_eq_true, beq_self_eq_true, nilckA, bne, Bool.not_eq_true']
          refine ⟨hx3.set (Nat.le_refl _) _, ?_⟩
          rw [hdm, g]
          exact ⟨_, rfl, ((hown2.ext hx4).set (by omega) _).lo (by omega)⟩
    · exact hx2.row _ _ (by rw [hOf_new_ne (by rw [len_newRow]; omega), hOf_new_eq rfl])
    · exact hx2.row _ _ (by rw [hOf_new_eq (by rw [len_newRow])])
end Go.Proofs.Qq.Qqd

namespace Go.Proofs.Qq.Qqd
open Go.Proofs.Qq

set_option maxHeartbeats 4000000 in
/-- message.Decode -/
theorem p13 {H : AHeap} {a : Option (Nat × Nat)} {c : Option Nat} {bs : List UInt8} (h : SE eByte H a bs.length c bs) (hl : bs.length ≤ 1000000) :
    PF T 13 [.slice a bs.length c] H fun r H' => decOut H.length H' r (decM bs) := by
  refine PF_code rfl _ _ _ ?_
  simp only [a13]
  cases bs with
  | nil =>
    simp (disch := first | omega | assumption | (simp only [List.length_cons, List.length_nil, len_newRow, len_set] <;> omega) | fail) only [eq_self, if_pos, if_neg, binStr_eql, binStr_neq, dec_t, dec_f, w64, wu64, wu8, Int.toNat_natCast, rQ_ret, rQ_norm, rngQ_norm, rngQ_ret, rngQ_exit, Nat.mul_one, loadA_new_eq, loadA_new_ne, loadA_set_eq, loadA_set_ne, hOf_new_eq, hOf_new_ne, hOf_set_eq, hOf_set_ne, wrRow_new_eq, wrRow_new_ne, lower_ge, lower_none, len_newRow, len_set, AV.undef, unA, qs, qb, qe, qi, Int.reduceToNat, Nat.reduceMul, List.getElem?_cons_succ, List.getElem?_cons_zero, false_implies, true_implies, forall_const, implies_true, Nat.lt_add_one, Nat.min_eq_left, Nat.le_add_right, qc, fillA, evParts, repCells, splice, partA, List.length_cons, List.length_nil, List.take_succ_cons, List.take_zero, List.drop_succ_cons, List.drop_zero, List.cons_append, Option.bind_some, Nat.add_zero, Nat.zero_add, List.drop_nil, List.take_nil, Nat.le_refl, Nat.min_self, qv, qu, pureStep, memStep, WC_look, condQ_true, condQ_false, WO_gd, gdQ_tt, gdQ_ff, gdQ_tf, gdQ_ft, gdQ_u, resOf, resAll, resA, wp_some, kv_none, ↓reduceIte, Nat.reduceEqDiff, reduceCtorEq, decide_true, decide_false, Bool.not_true, Bool.not_false, List.map_cons, List.map_nil, List.nil_append, List.append_nil, Option.map_some, Option.map_none, if_true, if_false, true_and, and_true, Int.reduceEq, Int.reduceLT, Int.reduceLE, Int.reduceNeg, Nat.reduceAdd, Nat.reduceLeDiff, Bool.true_eq_false, Bool.false_eq_true, beq_self_eq_true, nilckA, bne, Bool.not_eq_true']
    exact ⟨(Ext.refl _).nr, rfl⟩
  | cons b bs' =>
    generalize hbs : b :: bs' = bs at h hl ⊢
    have h0 : bs[0]? = some b := by rw [← hbs]; rfl
    have hpos : 0 < bs.length := by rw [← hbs]; simp
    obtain ⟨i, o, rfl, hi, l1⟩ := h.at1 rfl h0 rfl
    rw [Nat.add_zero] at l1
    have c0 : ¬ (bs.length : Int) = 0 := by omega
    have hb256 : b.toNat < 256 := b.toNat_lt
    simp (disch := first | omega | assumption | (simp only [List.length_cons, List.length_nil, len_newRow, len_set] <;> omega) | fail) only [c0, l1, Int.reduceToNat, Nat.zero_mul, eq_self, if_pos, if_neg, binStr_eql, binStr_neq, dec_t, dec_f, w64, wu64, wu8, Int.toNat_natCast, rQ_ret, rQ_norm, rngQ_norm, rngQ_ret, rngQ_exit, Nat.mul_one, loadA_new_eq, loadA_new_ne, loadA_set_eq, loadA_set_ne, hOf_new_eq, hOf_new_ne, hOf_set_eq, hOf_set_ne, wrRow_new_eq, wrRow_new_ne, lower_ge, lower_none, len_newRow, len_set, AV.undef, unA, qs, qb, qe, qi, Int.reduceToNat, Nat.reduceMul, List.getElem?_cons_succ, List.getElem?_cons_zero, false_implies, true_implies, forall_const, implies_true, Nat.lt_add_one, Nat.min_eq_left, Nat.le_add_right, qc, fillA, evParts, repCells, splice, partA, List.length_cons, List.length_nil, List.take_succ_cons, List.take_zero, List.drop_succ_cons, List.drop_zero, List.cons_append, Option.bind_some, Nat.add_zero, Nat.zero_add, List.drop_nil, List.take_nil, Nat.le_refl, Nat.min_self, qv, qu, pureStep, memStep, WC_look, condQ_true, condQ_false, WO_gd, gdQ_tt, gdQ_ff, gdQ_tf, gdQ_ft, gdQ_u, resOf, resAll, resA, wp_some, kv_none, ↓reduceIte, Nat.reduceEqDiff, reduceCtorEq, decide_true, decide_false, Bool.not_true, Bool.not_false, List.map_cons, List.map_nil, List.nil_append, List.append_nil, Option.map_some, Option.map_none, if_true, if_false, true_and, and_true, Int.reduceEq, Int.reduceLT, Int.reduceLE, Int.reduceNeg, Nat.reduceAdd, Nat.reduceLeDiff, Bool.true_eq_false, Bool.false_eq_true, beq_self_eq_true, nilckA, bne, Bool.not_eq_true']
    refine WO_callP rfl (Ext.refl _).nr.nr (p51 _ _) ?_
    rintro v H1 hx1 hx2 rfl
    have hN := msgSize_le (b.toNat : Int)
    have hdm1 : rdInts bs (msgSize b.toNat).1.toNat 1 = none → decM bs = none := by rw [← hbs]; exact decM_none b bs'
    have hdm2 : ∀ l q, rdInts bs (msgSize b.toNat).1.toNat 1 = some (l, q) → decM bs = if mright ⟨b.toNat, l, bs.drop q.toNat⟩ then some ⟨b.toNat, l, bs.drop q.toNat⟩ else none := by rw [← hbs]; exact decM_some b bs'
    obtain ⟨N, hNe⟩ : ∃ N : Nat, (msgSize b.toNat).1 = (N : Int) := ⟨(msgSize b.toNat).1.toNat, by omega⟩
    rw [hNe] at hN hdm1 hdm2
    rw [Int.toNat_natCast] at hdm1 hdm2
    simp (disch := first | omega | assumption | (simp only [List.length_cons, List.length_nil, len_newRow, len_set] <;> omega) | fail) only [hNe, eq_self, if_pos, if_neg, binStr_eql, binStr_neq, dec_t, dec_f, w64, wu64, wu8, Int.toNat_natCast, rQ_ret, rQ_norm, rngQ_norm, rngQ_ret, rngQ_exit, Nat.mul_one, loadA_new_eq, loadA_new_ne, loadA_set_eq, loadA_set_ne, hOf_new_eq, hOf_new_ne, hOf_set_eq, hOf_set_ne, wrRow_new_eq, wrRow_new_ne, lower_ge, lower_none, len_newRow, len_set, AV.undef, unA, qs, qb, qe, qi, Int.reduceToNat, Nat.reduceMul, List.getElem?_cons_succ, List.getElem?_cons_zero, false_implies, true_implies, forall_const, implies_true, Nat.lt_add_one, Nat.min_eq_left, Nat.le_add_right, qc, fillA, evParts, repCells, splice, partA, List.length_cons, List.length_nil, List.take_succ_cons, List.take_zero, List.drop_succ_cons, List.drop_zero, List.cons_append, Option.bind_some, Nat.add_zero, Nat.zero_add, List.drop_nil, List.take_nil, Nat.le_refl, Nat.min_self, qv, qu, pureStep, memStep, WC_look, condQ_true, condQ_false, WO_gd, gdQ_tt, gdQ_ff, gdQ_tf, gdQ_ft, gdQ_u, resOf, resAll, resA, wp_some, kv_none, ↓reduceIte, Nat.reduceEqDiff, reduceCtorEq, decide_true, decide_false, Bool.not_true, Bool.not_false, List.map_cons, List.map_nil, List.nil_append, List.append_nil, Option.map_some, Option.map_none, if_true, if_false, true_and, and_true, Int.reduceEq, Int.reduceLT, Int.reduceLE, Int.reduceNeg, Nat.reduceAdd, Nat.reduceLeDiff, Bool.true_eq_false, Bool.false_eq_true, beq_self_eq_true, nilckA, bne, Bool.not_eq_true']
    refine WC_range N (by omega) (by decide) (by decide) (by decide) (by decide) (by decide) (fun j e H' l => ∃ p sl xs, e 0 = .slice (some (i, o)) bs.length c ∧ e 2 = .ptr (some (H.length, 0)) ∧ e 4 = .ptr (some (H.length + 1, 0)) ∧ e 7 = .int .i64 p ∧ l = H.length ∧ DecInv bs H b.toNat N j p H' sl xs) _ _ _ rfl rfl
      ⟨1, .slice none 0 none, [], rfl, rfl, rfl, rfl, rfl, ⟨⟨hx1, ?_, ?_, Own.nil _ _ _⟩, rfl, by omega, by omega, by simp⟩⟩ ?_ ?_
    rotate_left 2
    · rintro j e H' lw hlt k8 k5 ⟨p, sl, xs, k0, k2, k4, k7, rfl, hI⟩
      have hp1 := hI.p1
      have hp2 := hI.p2
      have hxl := hI.xl
      have hst := hI.st
      · simp (disch := first | omega | assumption | (simp only [List.length_cons, List.length_nil, len_newRow, len_set] <;> omega) | fail) only [k0, k2, k4, k5, k7, k8, eq_self, if_pos, if_neg, binStr_eql, binStr_neq, dec_t, dec_f, w64, wu64, wu8, Int.toNat_natCast, rQ_ret, rQ_norm, rngQ_norm, rngQ_ret, rngQ_exit, Nat.mul_one, loadA_new_eq, loadA_new_ne, loadA_set_eq, loadA_set_ne, hOf_new_eq, hOf_new_ne, hOf_set_eq, hOf_set_ne, wrRow_new_eq, wrRow_new_ne, lower_ge, lower_none, len_newRow, len_set, AV.undef, unA, qs, qb, qe, qi, Int.reduceToNat, Nat.reduceMul, List.getElem?_cons_succ, List.getElem?_cons_zero, false_implies, true_implies, forall_const, implies_true, Nat.lt_add_one, Nat.min_eq_left, Nat.le_add_right, qc, fillA, evParts, repCells, splice, partA, List.length_cons, List.length_nil, List.take_succ_cons, List.take_zero, List.drop_succ_cons, List.drop_zero, List.cons_append, Option.bind_some, Nat.add_zero, Nat.zero_add, List.drop_nil, List.take_nil, Nat.le_refl, Nat.min_self, qv, qu, pureStep, memStep, WC_look, condQ_true, condQ_false, WO_gd, gdQ_tt, gdQ_ff, gdQ_tf, gdQ_ft, gdQ_u, resOf, resAll, resA, wp_some, kv_none, ↓reduceIte, Nat.reduceEqDiff, reduceCtorEq, decide_true, decide_false, Bool.not_true, Bool.not_false, List.map_cons, List.map_nil, List.nil_append, List.append_nil, Option.map_some, Option.map_none, if_true, if_false, true_and, and_true, Int.reduceEq, Int.reduceLT, Int.reduceLE, Int.reduceNeg, Nat.reduceAdd, Nat.reduceLeDiff, Bool.true_eq_false, Bool.false_eq_true, beq_self_eq_true, nilckA, bne, Bool.not_eq_true']
        refine WO_callP rfl hst.ext (p55 (h.ext hst.ext) (by omega) p) ?_
        rintro v H2 hx3 hx4 rfl
        simp (disch := first | omega | assumption | (simp only [List.length_cons, List.length_nil, len_newRow, len_set] <;> omega) | fail) only [eq_self, if_pos, if_neg, binStr_eql, binStr_neq, dec_t, dec_f, w64, wu64, wu8, Int.toNat_natCast, rQ_ret, rQ_norm, rngQ_norm, rngQ_ret, rngQ_exit, Nat.mul_one, loadA_new_eq, loadA_new_ne, loadA_set_eq, loadA_set_ne, hOf_new_eq, hOf_new_ne, hOf_set_eq, hOf_set_ne, wrRow_new_eq, wrRow_new_ne, lower_ge, lower_none, len_newRow, len_set, AV.undef, unA, qs, qb, qe, qi, Int.reduceToNat, Nat.reduceMul, List.getElem?_cons_succ, List.getElem?_cons_zero, false_implies, true_implies, forall_const, implies_true, Nat.lt_add_one, Nat.min_eq_left, Nat.le_add_right, qc, fillA, evParts, repCells, splice, partA, List.length_cons, List.length_nil, List.take_succ_cons, List.take_zero, List.drop_succ_cons, List.drop_zero, List.cons_append, Option.bind_some, Nat.add_zero, Nat.zero_add, List.drop_nil, List.take_nil, Nat.le_refl, Nat.min_self, qv, qu, pureStep, memStep, WC_look, condQ_true, condQ_false, WO_gd, gdQ_tt, gdQ_ff, gdQ_tf, gdQ_ft, gdQ_u, resOf, resAll, resA, wp_some, kv_none, ↓reduceIte, Nat.reduceEqDiff, reduceCtorEq, decide_true, decide_false, Bool.not_true, Bool.not_false, List.map_cons, List.map_nil, List.nil_append, List.append_nil, Option.map_some, Option.map_none, if_true, if_false, true_and, and_true, Int.reduceEq, Int.reduceLT, Int.reduceLE, Int.reduceNeg, Nat.reduceAdd, Nat.reduceLeDiff, Bool.true_eq_false, Bool.false_eq_true, beq_self_eq_true, nilckA, bne, Bool.not_eq_true']
        have hnx := hI.next hlt
        have hrow := hx4.row _ _ hst.row
        have hres := hx4.row _ _ hst.res
        have hl2 := hOf_is_lt hrow
        refine WC_ndec (fun g => ?_) (fun g => ?_)
        · have hd := hdm1 (hnx.1 g)
          have lres := load_row hres true 3 0
          have wres := wr_at hres rfl 0
          simp (disch := first | omega | assumption | (simp only [List.length_cons, List.length_nil, len_newRow, len_set] <;> omega) | fail) only [k0, k2, k4, k5, k7, k8, wres, eq_self, if_pos, if_neg, binStr_eql, binStr_neq, dec_t, dec_f, w64, wu64, wu8, Int.toNat_natCast, rQ_ret, rQ_norm, rngQ_norm, rngQ_ret, rngQ_exit, Nat.mul_one, loadA_new_eq, loadA_new_ne, loadA_set_eq, loadA_set_ne, hOf_new_eq, hOf_new_ne, hOf_set_eq, hOf_set_ne, wrRow_new_eq, wrRow_new_ne, lower_ge, lower_none, len_newRow, len_set, AV.undef, unA, qs, qb, qe, qi, Int.reduceToNat, Nat.reduceMul, List.getElem?_cons_succ, List.getElem?_cons_zero, false_implies, true_implies, forall_const, implies_true, Nat.lt_add_one, Nat.min_eq_left, Nat.le_add_right, qc, fillA, evParts, repCells, splice, partA, List.length_cons, List.length_nil, List.take_succ_cons, List.take_zero, List.drop_succ_cons, List.drop_zero, List.cons_append, Option.bind_some, Nat.add_zero, Nat.zero_add, List.drop_nil, List.take_nil, Nat.le_refl, Nat.min_self, qv, qu, pureStep, memStep, WC_look, condQ_true, condQ_false, WO_gd, gdQ_tt, gdQ_ff, gdQ_tf, gdQ_ft, gdQ_u, resOf, resAll, resA, wp_some, kv_none, ↓reduceIte, Nat.reduceEqDiff, reduceCtorEq, decide_true, decide_false, Bool.not_true, Bool.not_false, List.map_cons, List.map_nil, List.nil_append, List.append_nil, Option.map_some, Option.map_none, if_true, if_false, true_and, and_true, Int.reduceEq, Int.reduceLT, Int.reduceLE, Int.reduceNeg, Nat.reduceAdd, Nat.reduceLeDiff, Bool.true_eq_false, Bool.false_eq_true, beq_self_eq_true, nilckA, bne, Bool.not_eq_true']
          exact ⟨hx3.set (Nat.le_refl _) _, by rw [hd]; rfl⟩
        · have hr := rdU_range bs p g
          have lrow := load_row hrow false 1 1
          obtain ⟨sl', H3, w, e1, hrow3, elo, hst3⟩ := RdSt.add ⟨hx3, hres, hrow, hst.own.ext hx4⟩ (zag (rdU bs p).1) (by omega)
          obtain ⟨a2, rfl, hse2⟩ := hst3.own.se
          have wrow := wr_at hrow3 rfl 1
          simp (disch := first | omega | assumption | (simp only [List.length_cons, List.length_nil, len_newRow, len_set] <;> omega) | fail) only [k0, k2, k4, k5, k7, k8, lrow, e1, elo, wrow, eq_self, if_pos, if_neg, binStr_eql, binStr_neq, dec_t, dec_f, w64, wu64, wu8, Int.toNat_natCast, rQ_ret, rQ_norm, rngQ_norm, rngQ_ret, rngQ_exit, Nat.mul_one, loadA_new_eq, loadA_new_ne, loadA_set_eq, loadA_set_ne, hOf_new_eq, hOf_new_ne, hOf_set_eq, hOf_set_ne, wrRow_new_eq, wrRow_new_ne, lower_ge, lower_none, len_newRow, len_set, AV.undef, unA, qs, qb, qe, qi, Int.reduceToNat, Nat.reduceMul, List.getElem?_cons_succ, List.getElem?_cons_zero, false_implies, true_implies, forall_const, implies_true, Nat.lt_add_one, Nat.min_eq_left, Nat.le_add_right, qc, fillA, evParts, repCells, splice, partA, List.length_cons, List.length_nil, List.take_succ_cons, List.take_zero, List.drop_succ_cons, List.drop_zero, List.cons_append, Option.bind_some, Nat.add_zero, Nat.zero_add, List.drop_nil, List.take_nil, Nat.le_refl, Nat.min_self, qv, qu, pureStep, memStep, WC_look, condQ_true, condQ_false, WO_gd, gdQ_tt, gdQ_ff, gdQ_tf, gdQ_ft, gdQ_u, resOf, resAll, resA, wp_some, kv_none, ↓reduceIte, Nat.reduceEqDiff, reduceCtorEq, decide_true, decide_false, Bool.not_true, Bool.not_false, List.map_cons, List.map_nil, List.nil_append, List.append_nil, Option.map_some, Option.map_none, if_true, if_false, true_and, and_true, Int.reduceEq, Int.reduceLT, Int.reduceLE, Int.reduceNeg, Nat.reduceAdd, Nat.reduceLeDiff, Bool.true_eq_false, Bool.false_eq_true, beq_self_eq_true, nilckA, bne, Bool.not_eq_true']
          exact ⟨_, _, _, rfl, ⟨hst3, by simp [hxl], by omega, hr.2, hnx.2 g⟩⟩
    · rintro e H' lw k8 k5 ⟨p, sl, xs, k0, k2, k4, k7, rfl, hI⟩
      have hp1 := hI.p1
      have hp2 := hI.p2
      have hxl := hI.xl
      have hst := hI.st
      generalize hjN : N = j at hI hxl
      · subst hjN
        obtain ⟨q, rfl⟩ : ∃ q : Nat, p = q := ⟨p.toNat, by omega⟩
        have htot := hI.tot
        rw [Nat.sub_self, rdInts] at htot
        simp only [Option.map_some, List.append_nil] at htot
        have hdm := hdm2 _ _ htot.symm
        rw [Int.toNat_natCast] at hdm
        obtain ⟨a', c', t1, t2⟩ := rest_text (h.ext hst.ext) (l := q) (by omega)
        have lrow := load_row hst.row
        have hl2 := hOf_is_lt hst.row
        have wrow := wr_at hst.row rfl 2
        simp (disch := first | omega | assumption | (simp only [List.length_cons, List.length_nil, len_newRow, len_set] <;> omega) | fail) only [k0, k2, k4, k5, k7, k8, t1, t2, wrow, eq_self, if_pos, if_neg, binStr_eql, binStr_neq, dec_t, dec_f, w64, wu64, wu8, Int.toNat_natCast, rQ_ret, rQ_norm, rngQ_norm, rngQ_ret, rngQ_exit, Nat.mul_one, loadA_new_eq, loadA_new_ne, loadA_set_eq, loadA_set_ne, hOf_new_eq, hOf_new_ne, hOf_set_eq, hOf_set_ne, wrRow_new_eq, wrRow_new_ne, lower_ge, lower_none, len_newRow, len_set, AV.undef, unA, qs, qb, qe, qi, Int.reduceToNat, Nat.reduceMul, List.getElem?_cons_succ, List.getElem?_cons_zero, false_implies, true_implies, forall_const, implies_true, Nat.lt_add_one, Nat.min_eq_left, Nat.le_add_right, qc, fillA, evParts, repCells, splice, partA, List.length_cons, List.length_nil, List.take_succ_cons, List.take_zero, List.drop_succ_cons, List.drop_zero, List.cons_append, Option.bind_some, Nat.add_zero, Nat.zero_add, List.drop_nil, List.take_nil, Nat.le_refl, Nat.min_self, qv, qu, pureStep, memStep, WC_look, condQ_true, condQ_false, WO_gd, gdQ_tt, gdQ_ff, gdQ_tf, gdQ_ft, gdQ_u, resOf, resAll, resA, wp_some, kv_none, ↓reduceIte, Nat.reduceEqDiff, reduceCtorEq, decide_true, decide_false, Bool.not_true, Bool.not_false, List.map_cons, List.map_nil, List.nil_append, List.append_nil, Option.map_some, Option.map_none, if_true, if_false, true_and, and_true, Int.reduceEq, Int.reduceLT, Int.reduceLE, Int.reduceNeg, Nat.reduceAdd, Nat.reduceLeDiff, Bool.true_eq_false, Bool.false_eq_true, beq_self_eq_true, nilckA, bne, Bool.not_eq_true']
        obtain ⟨a2, rfl, hse⟩ := hst.own.se
        have hown2 := hst.own.set (b := H.length + 1) (by omega) (.row ⟨[.int .i64 b.toNat, .slice a2 xs.length none, .str (bs.drop q)], true, 0⟩)
        have hext2 := hst.ext.set (i := H.length + 1) (by omega) (.row ⟨[.int .i64 b.toNat, .slice a2 xs.length none, .str (bs.drop q)], true, 0⟩)
        have hrow2 : hOf (List.set H' (H.length + 1) (.row ⟨[.int .i64 b.toNat, .slice a2 xs.length none, .str (bs.drop q)], true, 0⟩)) (H.length + 1) = some _ := hOf_set_eq rfl hl2 _
        have hres2 : hOf (List.set H' (H.length + 1) (.row ⟨[.int .i64 b.toNat, .slice a2 xs.length none, .str (bs.drop q)], true, 0⟩)) H.length = some _ := (hOf_set_ne (by omega) _).trans hst.res
        obtain ⟨a3, e3, hse2⟩ := hown2.se
        cases e3
        refine WO_callP rfl hext2 (p17 (m := ⟨b.toNat, xs, bs.drop q⟩) ⟨_, _, _, rfl, hse2⟩ (by simp; omega)) ?_
        rintro v H2 hx3 hx4 rfl
        have hrow3 := hx4.row _ _ hrow2
        have hres3 := hx4.row _ _ hres2
        have lrow3 := load_row hrow3 true 3 0
        have wres3 := wr_at hres3 rfl 0
        have hl3 := hOf_is_lt hres3
        simp (disch := first | omega | assumption | (simp only [List.length_cons, List.length_nil, len_newRow, len_set] <;> omega) | fail) only [eq_self, if_pos, if_neg, binStr_eql, binStr_neq, dec_t, dec_f, w64, wu64, wu8, Int.toNat_natCast, rQ_ret, rQ_norm, rngQ_norm, rngQ_ret, rngQ_exit, Nat.mul_one, loadA_new_eq, loadA_new_ne, loadA_set_eq, loadA_set_ne, hOf_new_eq, hOf_new_ne, hOf_set_eq, hOf_set_ne, wrRow_new_eq, wrRow_new_ne, lower_ge, lower_none, len_newRow, len_set, AV.undef, unA, qs, qb, qe, qi, Int.reduceToNat, Nat.reduceMul, List.getElem?_cons_succ, List.getElem?_cons_zero, false_implies, true_implies, forall_const, implies_true, Nat.lt_add_one, Nat.min_eq_left, Nat.le_add_right, qc, fillA, evParts, repCells, splice, partA, List.length_cons, List.length_nil, List.take_succ_cons, List.take_zero, List.drop_succ_cons, List.drop_zero, List.cons_append, Option.bind_some, Nat.add_zero, Nat.zero_add, List.drop_nil, List.take_nil, Nat.le_refl, Nat.min_self, qv, qu, pureStep, memStep, WC_look, condQ_true, condQ_false, WO_gd, gdQ_tt, gdQ_ff, gdQ_tf, gdQ_ft, gdQ_u, resOf, resAll, resA, wp_some, kv_none, ↓reduceIte, Nat.reduceEqDiff, reduceCtorEq, decide_true, decide_false, Bool.not_true, Bool.not_false, List.map_cons, List.map_nil, List.nil_append, List.append_nil, Option.map_some, Option.map_none, if_true, if_false, true_and, and_true, Int.reduceEq, Int.reduceLT, Int.reduceLE, Int.reduceNeg, Nat.reduceAdd, Nat.reduceLeDiff, Bool.true_eq_false, Bool.false_eq_true, beq_self_eq_true, nilckA, bne, Bool.not_eq_true']
        refine WC_not (fun g => ?_) (fun g => ?_)
        · simp (disch := first | omega | assumption | (simp only [List.length_cons, List.length_nil, len_newRow, len_set] <;> omega) | fail) only [k2, k4, wres3, lrow3, eq_self, if_pos, if_neg, binStr_eql, binStr_neq, dec_t, dec_f, w64, wu64, wu8, Int.toNat_natCast, rQ_ret, rQ_norm, rngQ_norm, rngQ_ret, rngQ_exit, Nat.mul_one, loadA_new_eq, loadA_new_ne, loadA_set_eq, loadA_set_ne, hOf_new_eq, hOf_new_ne, hOf_set_eq, hOf_set_ne, wrRow_new_eq, wrRow_new_ne, lower_ge, lower_none, len_newRow, len_set, AV.undef, unA, qs, qb, qe, qi, Int.reduceToNat, Nat.reduceMul, List.getElem?_cons_succ, List.getElem?_cons_zero, false_implies, true_implies, forall_const, implies_true, Nat.lt_add_one, Nat.min_eq_left, Nat.le_add_right, qc, fillA, evParts, repCells, splice, partA, List.length_cons, List.length_nil, List.take_succ_cons, List.take_zero, List.drop_succ_cons, List.drop_zero, List.cons_append, Option.bind_some, Nat.add_zero, Nat.zero_add, List.drop_nil, List.take_nil, Nat.le_refl, Nat.min_self, qv, qu, pureStep, memStep, WC_look, condQ_true, condQ_false, WO_gd, gdQ_tt, gdQ_ff, gdQ_tf, gdQ_ft, gdQ_u, resOf, resAll, resA, wp_some, kv_none, ↓reduceIte, Nat.reduceEqDiff, reduceCtorEq, decide_true, decide_false, Bool.not_true, Bool.not_false, List.map_cons, List.map_nil, List.nil_append, List.append_nil, Option.map_some, Option.map_none, if_true, if_false, true_and, and_true, Int.reduceEq, Int.reduceLT, Int.reduceLE, Int.reduceNeg, Nat.reduceAdd, Nat.reduceLeDiff, Bool.true_eq_false, Bool.false_eq_true, beq_self_eq_true, nilckA, bne, Bool.not_eq_true']
          exact ⟨hx3.set (Nat.le_refl _) _, by rw [hdm, g]; rfl⟩
        · simp (disch := first | omega | assumption | (simp only [List.length_cons, List.length_nil, len_newRow, len_set] <;> omega) | fail) only [k2, k4, wres3, lrow3, eq_self, if_pos, if_neg, binStr_eql, binStr_neq, dec_t, dec_f, w64, wu64, wu8, Int.toNat_natCast, rQ_ret, rQ_norm, rngQ_norm, rngQ_ret, rngQ_exit, Nat.mul_one, loadA_new_eq, loadA_new_ne, loadA_set_eq, loadA_set_ne, hOf_new_eq, hOf_new_ne, hOf_set_eq, hOf_set_ne, wrRow_new_eq, wrRow_new_ne, lower_ge, lower_none, len_newRow, len_set, AV.undef, unA, qs, qb, qe, qi, Int.reduceToNat, Nat.reduceMul, List.getElem?_cons_succ, List.getElem?_cons_zero, false_implies, true_implies, forall_const, implies_true, Nat.lt_add_one, Nat.min_eq_left, Nat.le_add_right, qc, fillA, evParts, repCells, splice, partA, List.length_cons, List.length_nil, List.take_succ_cons, List.take_zero, List.drop_succ_cons, List.drop_zero, List.cons_append, Option.bind_some, Nat.add_zero, Nat.zero_add, List.drop_nil, List.take_nil, Nat.le_refl, Nat.min_self, qv, qu, pureStep, memStep, WC_look, condQ_true, condQ_false, WO_gd, gdQ_tt, gdQ_ff, gdQ_tf, gdQ_ft, gdQ_u, resOf, resAll, resA, wp_some, kv_none, ↓reduceIte, Nat.reduceEqDiff, reduceCtorEq, decide_true, decide_false, Bool.not_true, Bool.not_false, List.map_cons, List.map_nil, List.nil_append, List.append_nil, Option.map_some, Option.map_none, if_true, if_false, true_and, and_true, Int.reduceEq, Int.reduceLT, Int.reduceLE, Int.reduceNeg, Nat.reduceAdd, Nat.reduceLeDiff, Bool.true_eq_false, Bool.false_eq_true, beq_self_eq_true, nilckA, bne, Bool.not_eq_true']
          refine ⟨hx3.set (Nat.le_refl _) _, ?_⟩
          rw [hdm, g]
          exact ⟨_, rfl, ((hown2.ext hx4).set (by omega) _).lo (by omega)⟩
    · exact hx2.row _ _ (by rw [hOf_new_ne (by rw [len_newRow]; omega), hOf_new_eq rfl])
    · exact hx2.row _ _ (by rw [hOf_new_eq (by rw [len_newRow])])

end Go.Proofs.Qq.Qqd

namespace Go.Proofs.Qq.Qqd
open Go.Proofs.Qq

theorem msg_eq (m k : Msg) : decide (m = k) = (decide (m.kind = k.kind) && (decide (m.text = k.text) && decide (m.l = k.l))) := by
  rw [Bool.eq_iff_iff]
  simp only [Bool.and_eq_true, decide_eq_true_iff]
  constructor
  · rintro rfl; exact ⟨rfl, rfl, rfl⟩
  · rintro ⟨h1, h2, h3⟩
    cases m; cases k; simp_all

/-- message.Same -/
theorem p19 {H : AHeap} {v w : AV} {m k : Msg} (h : MV H v m) (h' : MV H w k) (hl : m.l.length ≤ 9223372036854775806) : PF T 19 [v, w] H fun r _ => r = .bool (decide (m = k)) := by
  obtain ⟨a, n, c, rfl, hs⟩ := h.ex
  obtain ⟨a', n', c', rfl, hs'⟩ := h'.ex
  refine PF_code rfl _ _ _ ?_
  rw [msg_eq]
  simp only [a19]
  by_cases h1 : m.kind = k.kind
  · by_cases h2 : m.text = k.text
    · simp (disch := first | omega | assumption | (simp only [List.length_cons, List.length_nil, len_newRow, len_set] <;> omega) | fail) only [h1, h2, eq_self, if_pos, if_neg, binStr_eql, binStr_neq, dec_t, dec_f, w64, wu64, wu8, Int.toNat_natCast, rQ_ret, rQ_norm, rngQ_norm, rngQ_ret, rngQ_exit, Nat.mul_one, loadA_new_eq, loadA_new_ne, loadA_set_eq, loadA_set_ne, hOf_new_eq, hOf_new_ne, hOf_set_eq, hOf_set_ne, wrRow_new_eq, wrRow_new_ne, lower_ge, lower_none, len_newRow, len_set, AV.undef, unA, qs, qb, qe, qi, Int.reduceToNat, Nat.reduceMul, List.getElem?_cons_succ, List.getElem?_cons_zero, false_implies, true_implies, forall_const, implies_true, Nat.lt_add_one, Nat.min_eq_left, Nat.le_add_right, qc, fillA, evParts, repCells, splice, partA, List.length_cons, List.length_nil, List.take_succ_cons, List.take_zero, List.drop_succ_cons, List.drop_zero, List.cons_append, Option.bind_some, Nat.add_zero, Nat.zero_add, List.drop_nil, List.take_nil, Nat.le_refl, Nat.min_self, qv, qu, pureStep, memStep, WC_look, condQ_true, condQ_false, WO_gd, gdQ_tt, gdQ_ff, gdQ_tf, gdQ_ft, gdQ_u, resOf, resAll, resA, wp_some, kv_none, ↓reduceIte, Nat.reduceEqDiff, reduceCtorEq, decide_true, decide_false, Bool.not_true, Bool.not_false, List.map_cons, List.map_nil, List.nil_append, List.append_nil, Option.map_some, Option.map_none, if_true, if_false, true_and, and_true, Int.reduceEq, Int.reduceLT, Int.reduceLE, Int.reduceNeg, Nat.reduceAdd, Nat.reduceLeDiff, Bool.true_eq_false, Bool.false_eq_true, beq_self_eq_true, nilckA, bne, Bool.not_eq_true']
      refine WO_callP rfl (Ext.refl _).nr.nr (equal_ok (E := eInt) (xs := m.l) (ys := k.l) (f := 58) rfl cmpInt (hs.ext (Ext.refl _).nr.nr) (hs'.ext (Ext.refl _).nr.nr) hl) ?_
      rintro v H1 hx1 hx2 rfl
      simp (disch := first | omega | assumption | (simp only [List.length_cons, List.length_nil, len_newRow, len_set] <;> omega) | fail) only [eq_self, if_pos, if_neg, binStr_eql, binStr_neq, dec_t, dec_f, w64, wu64, wu8, Int.toNat_natCast, rQ_ret, rQ_norm, rngQ_norm, rngQ_ret, rngQ_exit, Nat.mul_one, loadA_new_eq, loadA_new_ne, loadA_set_eq, loadA_set_ne, hOf_new_eq, hOf_new_ne, hOf_set_eq, hOf_set_ne, wrRow_new_eq, wrRow_new_ne, lower_ge, lower_none, len_newRow, len_set, AV.undef, unA, qs, qb, qe, qi, Int.reduceToNat, Nat.reduceMul, List.getElem?_cons_succ, List.getElem?_cons_zero, false_implies, true_implies, forall_const, implies_true, Nat.lt_add_one, Nat.min_eq_left, Nat.le_add_right, qc, fillA, evParts, repCells, splice, partA, List.length_cons, List.length_nil, List.take_succ_cons, List.take_zero, List.drop_succ_cons, List.drop_zero, List.cons_append, Option.bind_some, Nat.add_zero, Nat.zero_add, List.drop_nil, List.take_nil, Nat.le_refl, Nat.min_self, qv, qu, pureStep, memStep, WC_look, condQ_true, condQ_false, WO_gd, gdQ_tt, gdQ_ff, gdQ_tf, gdQ_ft, gdQ_u, resOf, resAll, resA, wp_some, kv_none, ↓reduceIte, Nat.reduceEqDiff, reduceCtorEq, decide_true, decide_false, Bool.not_true, Bool.not_false, List.map_cons, List.map_nil, List.nil_append, List.append_nil, Option.map_some, Option.map_none, if_true, if_false, true_and, and_true, Int.reduceEq, Int.reduceLT, Int.reduceLE, Int.reduceNeg, Nat.reduceAdd, Nat.reduceLeDiff, Bool.true_eq_false, Bool.false_eq_true, beq_self_eq_true, nilckA, bne, Bool.not_eq_true']
      exact ⟨hx1, by simp⟩
    · simp (disch := first | omega | assumption | (simp only [List.length_cons, List.length_nil, len_newRow, len_set] <;> omega) | fail) only [h1, h2, eq_self, if_pos, if_neg, binStr_eql, binStr_neq, dec_t, dec_f, w64, wu64, wu8, Int.toNat_natCast, rQ_ret, rQ_norm, rngQ_norm, rngQ_ret, rngQ_exit, Nat.mul_one, loadA_new_eq, loadA_new_ne, loadA_set_eq, loadA_set_ne, hOf_new_eq, hOf_new_ne, hOf_set_eq, hOf_set_ne, wrRow_new_eq, wrRow_new_ne, lower_ge, lower_none, len_newRow, len_set, AV.undef, unA, qs, qb, qe, qi, Int.reduceToNat, Nat.reduceMul, List.getElem?_cons_succ, List.getElem?_cons_zero, false_implies, true_implies, forall_const, implies_true, Nat.lt_add_one, Nat.min_eq_left, Nat.le_add_right, qc, fillA, evParts, repCells, splice, partA, List.length_cons, List.length_nil, List.take_succ_cons, List.take_zero, List.drop_succ_cons, List.drop_zero, List.cons_append, Option.bind_some, Nat.add_zero, Nat.zero_add, List.drop_nil, List.take_nil, Nat.le_refl, Nat.min_self, qv, qu, pureStep, memStep, WC_look, condQ_true, condQ_false, WO_gd, gdQ_tt, gdQ_ff, gdQ_tf, gdQ_ft, gdQ_u, resOf, resAll, resA, wp_some, kv_none, ↓reduceIte, Nat.reduceEqDiff, reduceCtorEq, decide_true, decide_false, Bool.not_true, Bool.not_false, List.map_cons, List.map_nil, List.nil_append, List.append_nil, Option.map_some, Option.map_none, if_true, if_false, true_and, and_true, Int.reduceEq, Int.reduceLT, Int.reduceLE, Int.reduceNeg, Nat.reduceAdd, Nat.reduceLeDiff, Bool.true_eq_false, Bool.false_eq_true, beq_self_eq_true, nilckA, bne, Bool.not_eq_true']
      exact ⟨(Ext.refl _).nr.nr, by simp⟩
  · simp (disch := first | omega | assumption | (simp only [List.length_cons, List.length_nil, len_newRow, len_set] <;> omega) | fail) only [h1, eq_self, if_pos, if_neg, binStr_eql, binStr_neq, dec_t, dec_f, w64, wu64, wu8, Int.toNat_natCast, rQ_ret, rQ_norm, rngQ_norm, rngQ_ret, rngQ_exit, Nat.mul_one, loadA_new_eq, loadA_new_ne, loadA_set_eq, loadA_set_ne, hOf_new_eq, hOf_new_ne, hOf_set_eq, hOf_set_ne, wrRow_new_eq, wrRow_new_ne, lower_ge, lower_none, len_newRow, len_set, AV.undef, unA, qs, qb, qe, qi, Int.reduceToNat, Nat.reduceMul, List.getElem?_cons_succ, List.getElem?_cons_zero, false_implies, true_implies, forall_const, implies_true, Nat.lt_add_one, Nat.min_eq_left, Nat.le_add_right, qc, fillA, evParts, repCells, splice, partA, List.length_cons, List.length_nil, List.take_succ_cons, List.take_zero, List.drop_succ_cons, List.drop_zero, List.cons_append, Option.bind_some, Nat.add_zero, Nat.zero_add, List.drop_nil, List.take_nil, Nat.le_refl, Nat.min_self, qv, qu, pureStep, memStep, WC_look, condQ_true, condQ_false, WO_gd, gdQ_tt, gdQ_ff, gdQ_tf, gdQ_ft, gdQ_u, resOf, resAll, resA, wp_some, kv_none, ↓reduceIte, Nat.reduceEqDiff, reduceCtorEq, decide_true, decide_false, Bool.not_true, Bool.not_false, List.map_cons, List.map_nil, List.nil_append, List.append_nil, Option.map_some, Option.map_none, if_true, if_false, true_and, and_true, Int.reduceEq, Int.reduceLT, Int.reduceLE, Int.reduceNeg, Nat.reduceAdd, Nat.reduceLeDiff, Bool.true_eq_false, Bool.false_eq_true, beq_self_eq_true, nilckA, bne, Bool.not_eq_true']
    exact ⟨(Ext.refl _).nr.nr, by simp⟩

/-- barrowlaw12.few -/
theorem p15 {H : AHeap} {v : AV} {m : Msg} (h : MV H v m) : PF T 15 [v] H fun r _ => r = .bool (decide (m.l.length ≤ 100) && decide (m.text.length ≤ 1024)) := by
  obtain ⟨a, n, c, rfl, hs⟩ := h.ex
  obtain rfl := hs.n
  refine PF_code rfl _ _ _ ?_
  simp only [a15]
  by_cases h1 : m.l.length ≤ 100
  · by_cases h2 : m.text.length ≤ 1024
    · simp (disch := first | omega | assumption | (simp only [List.length_cons, List.length_nil, len_newRow, len_set] <;> omega) | fail) only [eq_self, if_pos, if_neg, binStr_eql, binStr_neq, dec_t, dec_f, w64, wu64, wu8, Int.toNat_natCast, rQ_ret, rQ_norm, rngQ_norm, rngQ_ret, rngQ_exit, Nat.mul_one, loadA_new_eq, loadA_new_ne, loadA_set_eq, loadA_set_ne, hOf_new_eq, hOf_new_ne, hOf_set_eq, hOf_set_ne, wrRow_new_eq, wrRow_new_ne, lower_ge, lower_none, len_newRow, len_set, AV.undef, unA, qs, qb, qe, qi, Int.reduceToNat, Nat.reduceMul, List.getElem?_cons_succ, List.getElem?_cons_zero, false_implies, true_implies, forall_const, implies_true, Nat.lt_add_one, Nat.min_eq_left, Nat.le_add_right, qc, fillA, evParts, repCells, splice, partA, List.length_cons, List.length_nil, List.take_succ_cons, List.take_zero, List.drop_succ_cons, List.drop_zero, List.cons_append, Option.bind_some, Nat.add_zero, Nat.zero_add, List.drop_nil, List.take_nil, Nat.le_refl, Nat.min_self, qv, qu, pureStep, memStep, WC_look, condQ_true, condQ_false, WO_gd, gdQ_tt, gdQ_ff, gdQ_tf, gdQ_ft, gdQ_u, resOf, resAll, resA, wp_some, kv_none, ↓reduceIte, Nat.reduceEqDiff, reduceCtorEq, decide_true, decide_false, Bool.not_true, Bool.not_false, List.map_cons, List.map_nil, List.nil_append, List.append_nil, Option.map_some, Option.map_none, if_true, if_false, true_and, and_true, Int.reduceEq, Int.reduceLT, Int.reduceLE, Int.reduceNeg, Nat.reduceAdd, Nat.reduceLeDiff, Bool.true_eq_false, Bool.false_eq_true, beq_self_eq_true, nilckA, bne, Bool.not_eq_true']
      exact ⟨(Ext.refl _).nr, by simp [h1, h2]⟩
    · simp (disch := first | omega | assumption | (simp only [List.length_cons, List.length_nil, len_newRow, len_set] <;> omega) | fail) only [eq_self, if_pos, if_neg, binStr_eql, binStr_neq, dec_t, dec_f, w64, wu64, wu8, Int.toNat_natCast, rQ_ret, rQ_norm, rngQ_norm, rngQ_ret, rngQ_exit, Nat.mul_one, loadA_new_eq, loadA_new_ne, loadA_set_eq, loadA_set_ne, hOf_new_eq, hOf_new_ne, hOf_set_eq, hOf_set_ne, wrRow_new_eq, wrRow_new_ne, lower_ge, lower_none, len_newRow, len_set, AV.undef, unA, qs, qb, qe, qi, Int.reduceToNat, Nat.reduceMul, List.getElem?_cons_succ, List.getElem?_cons_zero, false_implies, true_implies, forall_const, implies_true, Nat.lt_add_one, Nat.min_eq_left, Nat.le_add_right, qc, fillA, evParts, repCells, splice, partA, List.length_cons, List.length_nil, List.take_succ_cons, List.take_zero, List.drop_succ_cons, List.drop_zero, List.cons_append, Option.bind_some, Nat.add_zero, Nat.zero_add, List.drop_nil, List.take_nil, Nat.le_refl, Nat.min_self, qv, qu, pureStep, memStep, WC_look, condQ_true, condQ_false, WO_gd, gdQ_tt, gdQ_ff, gdQ_tf, gdQ_ft, gdQ_u, resOf, resAll, resA, wp_some, kv_none, ↓reduceIte, Nat.reduceEqDiff, reduceCtorEq, decide_true, decide_false, Bool.not_true, Bool.not_false, List.map_cons, List.map_nil, List.nil_append, List.append_nil, Option.map_some, Option.map_none, if_true, if_false, true_and, and_true, Int.reduceEq, Int.reduceLT, Int.reduceLE, Int.reduceNeg, Nat.reduceAdd, Nat.reduceLeDiff, Bool.true_eq_false, Bool.false_eq_true, beq_self_eq_true, nilckA, bne, Bool.not_eq_true']
      exact ⟨(Ext.refl _).nr, by simp [h1, h2]⟩
  · simp (disch := first | omega | assumption | (simp only [List.length_cons, List.length_nil, len_newRow, len_set] <;> omega) | fail) only [eq_self, if_pos, if_neg, binStr_eql, binStr_neq, dec_t, dec_f, w64, wu64, wu8, Int.toNat_natCast, rQ_ret, rQ_norm, rngQ_norm, rngQ_ret, rngQ_exit, Nat.mul_one, loadA_new_eq, loadA_new_ne, loadA_set_eq, loadA_set_ne, hOf_new_eq, hOf_new_ne, hOf_set_eq, hOf_set_ne, wrRow_new_eq, wrRow_new_ne, lower_ge, lower_none, len_newRow, len_set, AV.undef, unA, qs, qb, qe, qi, Int.reduceToNat, Nat.reduceMul, List.getElem?_cons_succ, List.getElem?_cons_zero, false_implies, true_implies, forall_const, implies_true, Nat.lt_add_one, Nat.min_eq_left, Nat.le_add_right, qc, fillA, evParts, repCells, splice, partA, List.length_cons, List.length_nil, List.take_succ_cons, List.take_zero, List.drop_succ_cons, List.drop_zero, List.cons_append, Option.bind_some, Nat.add_zero, Nat.zero_add, List.drop_nil, List.take_nil, Nat.le_refl, Nat.min_self, qv, qu, pureStep, memStep, WC_look, condQ_true, condQ_false, WO_gd, gdQ_tt, gdQ_ff, gdQ_tf, gdQ_ft, gdQ_u, resOf, resAll, resA, wp_some, kv_none, ↓reduceIte, Nat.reduceEqDiff, reduceCtorEq, decide_true, decide_false, Bool.not_true, Bool.not_false, List.map_cons, List.map_nil, List.nil_append, List.append_nil, Option.map_some, Option.map_none, if_true, if_false, true_and, and_true, Int.reduceEq, Int.reduceLT, Int.reduceLE, Int.reduceNeg, Nat.reduceAdd, Nat.reduceLeDiff, Bool.true_eq_false, Bool.false_eq_true, beq_self_eq_true, nilckA, bne, Bool.not_eq_true']
    exact ⟨(Ext.refl _).nr, by simp [h1]⟩

set_option maxHeartbeats 1000000 in
/-- barrowref12.Same -/
theorem p14 {H : AHeap} {v w : AV} {m k : Msg} (h : MV H v m) (h' : MV H w k) (hl : m.l.length ≤ 9223372036854775806) : PF T 14 [v, w] H fun r _ => r = .bool (decide (m = k)) := by
  obtain ⟨a, n, c, rfl, hs⟩ := h.ex
  obtain ⟨a', n', c', rfl, hs'⟩ := h'.ex
  obtain rfl := hs.n
  obtain rfl := hs'.n
  refine PF_code rfl _ _ _ ?_
  rw [msg_eq]
  simp only [a14]
  by_cases h1 : m.kind = k.kind
  · by_cases h2 : m.text = k.text
    · by_cases h3 : m.l.length = k.l.length
      · simp (disch := first | omega | assumption | (simp only [List.length_cons, List.length_nil, len_newRow, len_set] <;> omega) | fail) only [h1, h2, h3, eq_self, if_pos, if_neg, binStr_eql, binStr_neq, dec_t, dec_f, w64, wu64, wu8, Int.toNat_natCast, rQ_ret, rQ_norm, rngQ_norm, rngQ_ret, rngQ_exit, Nat.mul_one, loadA_new_eq, loadA_new_ne, loadA_set_eq, loadA_set_ne, hOf_new_eq, hOf_new_ne, hOf_set_eq, hOf_set_ne, wrRow_new_eq, wrRow_new_ne, lower_ge, lower_none, len_newRow, len_set, AV.undef, unA, qs, qb, qe, qi, Int.reduceToNat, Nat.reduceMul, List.getElem?_cons_succ, List.getElem?_cons_zero, false_implies, true_implies, forall_const, implies_true, Nat.lt_add_one, Nat.min_eq_left, Nat.le_add_right, qc, fillA, evParts, repCells, splice, partA, List.length_cons, List.length_nil, List.take_succ_cons, List.take_zero, List.drop_succ_cons, List.drop_zero, List.cons_append, Option.bind_some, Nat.add_zero, Nat.zero_add, List.drop_nil, List.take_nil, Nat.le_refl, Nat.min_self, qv, qu, pureStep, memStep, WC_look, condQ_true, condQ_false, WO_gd, gdQ_tt, gdQ_ff, gdQ_tf, gdQ_ft, gdQ_u, resOf, resAll, resA, wp_some, kv_none, ↓reduceIte, Nat.reduceEqDiff, reduceCtorEq, decide_true, decide_false, Bool.not_true, Bool.not_false, List.map_cons, List.map_nil, List.nil_append, List.append_nil, Option.map_some, Option.map_none, if_true, if_false, true_and, and_true, Int.reduceEq, Int.reduceLT, Int.reduceLE, Int.reduceNeg, Nat.reduceAdd, Nat.reduceLeDiff, Bool.true_eq_false, Bool.false_eq_true, beq_self_eq_true, nilckA, bne, Bool.not_eq_true']
        generalize hH : newRow (newRow H [.int .i64 k.kind, .slice a k.l.length c, .str k.text] 0) [.int .i64 k.kind, .slice a' k.l.length c', .str k.text] 0 = H1
        have hx : Ext H H1 := hH ▸ (Ext.refl _).nr.nr
        have r1 : hOf H1 H.length = some ⟨[.int .i64 k.kind, .slice a k.l.length c, .str k.text], true, 0⟩ := by rw [← hH, hOf_new_ne (by rw [len_newRow]; omega), hOf_new_eq rfl]
        have r2 : hOf H1 (H.length + 1) = some ⟨[.int .i64 k.kind, .slice a' k.l.length c', .str k.text], true, 0⟩ := by rw [← hH, hOf_new_eq (by rw [len_newRow])]
        have l1 := load_row r1
        have l2 := load_row r2
        refine WC_loop (fun n s => ∃ j, n = k.l.length - j ∧ j ≤ k.l.length ∧ s.env 2 = .ptr (some (H.length, 0)) ∧ s.env 3 = .ptr (some (H.length + 1, 0)) ∧ s.env 5 = .int .i64 (j : Int) ∧ s.heap = H1 ∧ s.low = H.length ∧ m.l.take j = k.l.take j) ?_ k.l.length _ ⟨0, rfl, by omega, rfl, rfl, rfl, rfl, rfl, rfl⟩
        rintro n ⟨e, H', lw⟩ ⟨j, hn, hj, k2, k3, k5, rfl, rfl, ht⟩
        simp only [] at k2 k3 k5
        by_cases hlt : j < k.l.length
        · obtain ⟨x, hx1⟩ : ∃ x, m.l[j]? = some x := ⟨m.l[j]'(by omega), List.getElem?_eq_getElem (by omega)⟩
          obtain ⟨y, hy⟩ : ∃ x, k.l[j]? = some x := ⟨k.l[j], List.getElem?_eq_getElem hlt⟩
          obtain ⟨i, o, rfl, _, q1⟩ := (hs.ext hx).at1 rfl hx1 rfl
          obtain ⟨i', o', rfl, _, q2⟩ := (hs'.ext hx).at1 rfl hy rfl
          simp (disch := first | omega | assumption | (simp only [List.length_cons, List.length_nil, len_newRow, len_set] <;> omega) | fail) only [k2, k3, k5, l1, l2, q1, q2, eq_self, if_pos, if_neg, binStr_eql, binStr_neq, dec_t, dec_f, w64, wu64, wu8, Int.toNat_natCast, rQ_ret, rQ_norm, rngQ_norm, rngQ_ret, rngQ_exit, Nat.mul_one, loadA_new_eq, loadA_new_ne, loadA_set_eq, loadA_set_ne, hOf_new_eq, hOf_new_ne, hOf_set_eq, hOf_set_ne, wrRow_new_eq, wrRow_new_ne, lower_ge, lower_none, len_newRow, len_set, AV.undef, unA, qs, qb, qe, qi, Int.reduceToNat, Nat.reduceMul, List.getElem?_cons_succ, List.getElem?_cons_zero, false_implies, true_implies, forall_const, implies_true, Nat.lt_add_one, Nat.min_eq_left, Nat.le_add_right, qc, fillA, evParts, repCells, splice, partA, List.length_cons, List.length_nil, List.take_succ_cons, List.take_zero, List.drop_succ_cons, List.drop_zero, List.cons_append, Option.bind_some, Nat.add_zero, Nat.zero_add, List.drop_nil, List.take_nil, Nat.le_refl, Nat.min_self, qv, qu, pureStep, memStep, WC_look, condQ_true, condQ_false, WO_gd, gdQ_tt, gdQ_ff, gdQ_tf, gdQ_ft, gdQ_u, resOf, resAll, resA, wp_some, kv_none, ↓reduceIte, Nat.reduceEqDiff, reduceCtorEq, decide_true, decide_false, Bool.not_true, Bool.not_false, List.map_cons, List.map_nil, List.nil_append, List.append_nil, Option.map_some, Option.map_none, if_true, if_false, true_and, and_true, Int.reduceEq, Int.reduceLT, Int.reduceLE, Int.reduceNeg, Nat.reduceAdd, Nat.reduceLeDiff, Bool.true_eq_false, Bool.false_eq_true, beq_self_eq_true, nilckA, bne, Bool.not_eq_true']
          refine WC_ndec (fun g => ?_) (fun g => ?_)
          · simp (disch := first | omega | assumption | (simp only [List.length_cons, List.length_nil, len_newRow, len_set] <;> omega) | fail) only [eq_self, if_pos, if_neg, binStr_eql, binStr_neq, dec_t, dec_f, w64, wu64, wu8, Int.toNat_natCast, rQ_ret, rQ_norm, rngQ_norm, rngQ_ret, rngQ_exit, Nat.mul_one, loadA_new_eq, loadA_new_ne, loadA_set_eq, loadA_set_ne, hOf_new_eq, hOf_new_ne, hOf_set_eq, hOf_set_ne, wrRow_new_eq, wrRow_new_ne, lower_ge, lower_none, len_newRow, len_set, AV.undef, unA, qs, qb, qe, qi, Int.reduceToNat, Nat.reduceMul, List.getElem?_cons_succ, List.getElem?_cons_zero, false_implies, true_implies, forall_const, implies_true, Nat.lt_add_one, Nat.min_eq_left, Nat.le_add_right, qc, fillA, evParts, repCells, splice, partA, List.length_cons, List.length_nil, List.take_succ_cons, List.take_zero, List.drop_succ_cons, List.drop_zero, List.cons_append, Option.bind_some, Nat.add_zero, Nat.zero_add, List.drop_nil, List.take_nil, Nat.le_refl, Nat.min_self, qv, qu, pureStep, memStep, WC_look, condQ_true, condQ_false, WO_gd, gdQ_tt, gdQ_ff, gdQ_tf, gdQ_ft, gdQ_u, resOf, resAll, resA, wp_some, kv_none, ↓reduceIte, Nat.reduceEqDiff, reduceCtorEq, decide_true, decide_false, Bool.not_true, Bool.not_false, List.map_cons, List.map_nil, List.nil_append, List.append_nil, Option.map_some, Option.map_none, if_true, if_false, true_and, and_true, Int.reduceEq, Int.reduceLT, Int.reduceLE, Int.reduceNeg, Nat.reduceAdd, Nat.reduceLeDiff, Bool.true_eq_false, Bool.false_eq_true, beq_self_eq_true, nilckA, bne, Bool.not_eq_true']
            refine ⟨hx, ?_⟩
            have : m.l ≠ k.l := fun e => by rw [e, hy] at hx1; exact g (Option.some.inj hx1).symm
            simp [this]
          · simp (disch := first | omega | assumption | (simp only [List.length_cons, List.length_nil, len_newRow, len_set] <;> omega) | fail) only [k2, k3, k5, eq_self, if_pos, if_neg, binStr_eql, binStr_neq, dec_t, dec_f, w64, wu64, wu8, Int.toNat_natCast, rQ_ret, rQ_norm, rngQ_norm, rngQ_ret, rngQ_exit, Nat.mul_one, loadA_new_eq, loadA_new_ne, loadA_set_eq, loadA_set_ne, hOf_new_eq, hOf_new_ne, hOf_set_eq, hOf_set_ne, wrRow_new_eq, wrRow_new_ne, lower_ge, lower_none, len_newRow, len_set, AV.undef, unA, qs, qb, qe, qi, Int.reduceToNat, Nat.reduceMul, List.getElem?_cons_succ, List.getElem?_cons_zero, false_implies, true_implies, forall_const, implies_true, Nat.lt_add_one, Nat.min_eq_left, Nat.le_add_right, qc, fillA, evParts, repCells, splice, partA, List.length_cons, List.length_nil, List.take_succ_cons, List.take_zero, List.drop_succ_cons, List.drop_zero, List.cons_append, Option.bind_some, Nat.add_zero, Nat.zero_add, List.drop_nil, List.take_nil, Nat.le_refl, Nat.min_self, qv, qu, pureStep, memStep, WC_look, condQ_true, condQ_false, WO_gd, gdQ_tt, gdQ_ff, gdQ_tf, gdQ_ft, gdQ_u, resOf, resAll, resA, wp_some, kv_none, ↓reduceIte, Nat.reduceEqDiff, reduceCtorEq, decide_true, decide_false, Bool.not_true, Bool.not_false, List.map_cons, List.map_nil, List.nil_append, List.append_nil, Option.map_some, Option.map_none, if_true, if_false, true_and, and_true, Int.reduceEq, Int.reduceLT, Int.reduceLE, Int.reduceNeg, Nat.reduceAdd, Nat.reduceLeDiff, Bool.true_eq_false, Bool.false_eq_true, beq_self_eq_true, nilckA, bne, Bool.not_eq_true']
            exact ⟨_, by omega, j + 1, rfl, by omega, rfl, by rw [List.take_add_one, List.take_add_one, hx1, hy, ht, g]⟩
        · have hjn : j = k.l.length := by omega
          subst hjn
          simp (disch := first | omega | assumption | (simp only [List.length_cons, List.length_nil, len_newRow, len_set] <;> omega) | fail) only [k2, k3, k5, l1, l2, eq_self, if_pos, if_neg, binStr_eql, binStr_neq, dec_t, dec_f, w64, wu64, wu8, Int.toNat_natCast, rQ_ret, rQ_norm, rngQ_norm, rngQ_ret, rngQ_exit, Nat.mul_one, loadA_new_eq, loadA_new_ne, loadA_set_eq, loadA_set_ne, hOf_new_eq, hOf_new_ne, hOf_set_eq, hOf_set_ne, wrRow_new_eq, wrRow_new_ne, lower_ge, lower_none, len_newRow, len_set, AV.undef, unA, qs, qb, qe, qi, Int.reduceToNat, Nat.reduceMul, List.getElem?_cons_succ, List.getElem?_cons_zero, false_implies, true_implies, forall_const, implies_true, Nat.lt_add_one, Nat.min_eq_left, Nat.le_add_right, qc, fillA, evParts, repCells, splice, partA, List.length_cons, List.length_nil, List.take_succ_cons, List.take_zero, List.drop_succ_cons, List.drop_zero, List.cons_append, Option.bind_some, Nat.add_zero, Nat.zero_add, List.drop_nil, List.take_nil, Nat.le_refl, Nat.min_self, qv, qu, pureStep, memStep, WC_look, condQ_true, condQ_false, WO_gd, gdQ_tt, gdQ_ff, gdQ_tf, gdQ_ft, gdQ_u, resOf, resAll, resA, wp_some, kv_none, ↓reduceIte, Nat.reduceEqDiff, reduceCtorEq, decide_true, decide_false, Bool.not_true, Bool.not_false, List.map_cons, List.map_nil, List.nil_append, List.append_nil, Option.map_some, Option.map_none, if_true, if_false, true_and, and_true, Int.reduceEq, Int.reduceLT, Int.reduceLE, Int.reduceNeg, Nat.reduceAdd, Nat.reduceLeDiff, Bool.true_eq_false, Bool.false_eq_true, beq_self_eq_true, nilckA, bne, Bool.not_eq_true']
          refine ⟨hx, ?_⟩
          rw [List.take_length, ← h3, List.take_length] at ht
          simp [ht]
      · have h3' : ¬ ((m.l.length : Nat) : Int) = ((k.l.length : Nat) : Int) := by omega
        simp (disch := first | omega | assumption | (simp only [List.length_cons, List.length_nil, len_newRow, len_set] <;> omega) | fail) only [h1, h2, h3', eq_self, if_pos, if_neg, binStr_eql, binStr_neq, dec_t, dec_f, w64, wu64, wu8, Int.toNat_natCast, rQ_ret, rQ_norm, rngQ_norm, rngQ_ret, rngQ_exit, Nat.mul_one, loadA_new_eq, loadA_new_ne, loadA_set_eq, loadA_set_ne, hOf_new_eq, hOf_new_ne, hOf_set_eq, hOf_set_ne, wrRow_new_eq, wrRow_new_ne, lower_ge, lower_none, len_newRow, len_set, AV.undef, unA, qs, qb, qe, qi, Int.reduceToNat, Nat.reduceMul, List.getElem?_cons_succ, List.getElem?_cons_zero, false_implies, true_implies, forall_const, implies_true, Nat.lt_add_one, Nat.min_eq_left, Nat.le_add_right, qc, fillA, evParts, repCells, splice, partA, List.length_cons, List.length_nil, List.take_succ_cons, List.take_zero, List.drop_succ_cons, List.drop_zero, List.cons_append, Option.bind_some, Nat.add_zero, Nat.zero_add, List.drop_nil, List.take_nil, Nat.le_refl, Nat.min_self, qv, qu, pureStep, memStep, WC_look, condQ_true, condQ_false, WO_gd, gdQ_tt, gdQ_ff, gdQ_tf, gdQ_ft, gdQ_u, resOf, resAll, resA, wp_some, kv_none, ↓reduceIte, Nat.reduceEqDiff, reduceCtorEq, decide_true, decide_false, Bool.not_true, Bool.not_false, List.map_cons, List.map_nil, List.nil_append, List.append_nil, Option.map_some, Option.map_none, if_true, if_false, true_and, and_true, Int.reduceEq, Int.reduceLT, Int.reduceLE, Int.reduceNeg, Nat.reduceAdd, Nat.reduceLeDiff, Bool.true_eq_false, Bool.false_eq_true, beq_self_eq_true, nilckA, bne, Bool.not_eq_true']
        refine ⟨(Ext.refl _).nr.nr, ?_⟩
        have : m.l ≠ k.l := fun e => h3 (by rw [e])
        simp [this]
    · simp (disch := first | omega | assumption | (simp only [List.length_cons, List.length_nil, len_newRow, len_set] <;> omega) | fail) only [h1, h2, eq_self, if_pos, if_neg, binStr_eql, binStr_neq, dec_t, dec_f, w64, wu64, wu8, Int.toNat_natCast, rQ_ret, rQ_norm, rngQ_norm, rngQ_ret, rngQ_exit, Nat.mul_one, loadA_new_eq, loadA_new_ne, loadA_set_eq, loadA_set_ne, hOf_new_eq, hOf_new_ne, hOf_set_eq, hOf_set_ne, wrRow_new_eq, wrRow_new_ne, lower_ge, lower_none, len_newRow, len_set, AV.undef, unA, qs, qb, qe, qi, Int.reduceToNat, Nat.reduceMul, List.getElem?_cons_succ, List.getElem?_cons_zero, false_implies, true_implies, forall_const, implies_true, Nat.lt_add_one, Nat.min_eq_left, Nat.le_add_right, qc, fillA, evParts, repCells, splice, partA, List.length_cons, List.length_nil, List.take_succ_cons, List.take_zero, List.drop_succ_cons, List.drop_zero, List.cons_append, Option.bind_some, Nat.add_zero, Nat.zero_add, List.drop_nil, List.take_nil, Nat.le_refl, Nat.min_self, qv, qu, pureStep, memStep, WC_look, condQ_true, condQ_false, WO_gd, gdQ_tt, gdQ_ff, gdQ_tf, gdQ_ft, gdQ_u, resOf, resAll, resA, wp_some, kv_none, ↓reduceIte, Nat.reduceEqDiff, reduceCtorEq, decide_true, decide_false, Bool.not_true, Bool.not_false, List.map_cons, List.map_nil, List.nil_append, List.append_nil, Option.map_some, Option.map_none, if_true, if_false, true_and, and_true, Int.reduceEq, Int.reduceLT, Int.reduceLE, Int.reduceNeg, Nat.reduceAdd, Nat.reduceLeDiff, Bool.true_eq_false, Bool.false_eq_true, beq_self_eq_true, nilckA, bne, Bool.not_eq_true']
      exact ⟨(Ext.refl _).nr.nr, by simp⟩
  · simp (disch := first | omega | assumption | (simp only [List.length_cons, List.length_nil, len_newRow, len_set] <;> omega) | fail) only [h1, eq_self, if_pos, if_neg, binStr_eql, binStr_neq, dec_t, dec_f, w64, wu64, wu8, Int.toNat_natCast, rQ_ret, rQ_norm, rngQ_norm, rngQ_ret, rngQ_exit, Nat.mul_one, loadA_new_eq, loadA_new_ne, loadA_set_eq, loadA_set_ne, hOf_new_eq, hOf_new_ne, hOf_set_eq, hOf_set_ne, wrRow_new_eq, wrRow_new_ne, lower_ge, lower_none, len_newRow, len_set, AV.undef, unA, qs, qb, qe, qi, Int.reduceToNat, Nat.reduceMul, List.getElem?_cons_succ, List.getElem?_cons_zero, false_implies, true_implies, forall_const, implies_true, Nat.lt_add_one, Nat.min_eq_left, Nat.le_add_right, qc, fillA, evParts, repCells, splice, partA, List.length_cons, List.length_nil, List.take_succ_cons, List.take_zero, List.drop_succ_cons, List.drop_zero, List.cons_append, Option.bind_some, Nat.add_zero, Nat.zero_add, List.drop_nil, List.take_nil, Nat.le_refl, Nat.min_self, qv, qu, pureStep, memStep, WC_look, condQ_true, condQ_false, WO_gd, gdQ_tt, gdQ_ff, gdQ_tf, gdQ_ft, gdQ_u, resOf, resAll, resA, wp_some, kv_none, ↓reduceIte, Nat.reduceEqDiff, reduceCtorEq, decide_true, decide_false, Bool.not_true, Bool.not_false, List.map_cons, List.map_nil, List.nil_append, List.append_nil, Option.map_some, Option.map_none, if_true, if_false, true_and, and_true, Int.reduceEq, Int.reduceLT, Int.reduceLE, Int.reduceNeg, Nat.reduceAdd, Nat.reduceLeDiff, Bool.true_eq_false, Bool.false_eq_true, beq_self_eq_true, nilckA, bne, Bool.not_eq_true']
    exact ⟨(Ext.refl _).nr.nr, by simp⟩
end Go.Proofs.Qq.Qqd

namespace Go.Proofs.Qq.Qqd
open Go.Proofs.Qq

theorem se_text {H : AHeap} {a : Option (Nat × Nat)} {n : Nat} {c : Option Nat} {bs : List UInt8} (h : SE eByte H a n c bs) : b2sA H (.slice a n c) = some (.str bs) := by
  have hb : ∀ xs : List UInt8, bytesOfA (eByte.cs xs) = some xs := by
    intro xs
    induction xs with
    | nil => rfl
    | cons x xs ih =>
      rw [Flat.cs_cons]
      show bytesOfA (.int .u8 x.toNat :: eByte.cs xs) = _
      simp only [bytesOfA, byteOfA, ih]
      simp
  obtain rfl := h.n
  have hsrc := h.src
  cases a with
  | none =>
    have : eByte.cs bs = [] := h.at_
    have h0 : bs = [] := by
      apply List.eq_nil_of_length_eq_zero
      have := eByte.cs_len bs
      simp_all [eByte]
    rw [h0]; rfl
  | some p =>
    have e : srcCells H 1 bs.length (.slice (some p) bs.length c) = some (eByte.cs bs) := hsrc
    unfold b2sA
    simp only [e, hb]

/-- What decoding comes to, as values: the kind, the slice, the text, the error. -/
theorem decOut_val {lo : Nat} {H : AHeap} {r : AV} {o : Option Msg} (h : decOut lo H r o) : ∃ (m : Msg) (a : Option (Nat × Nat)) (e : Int), r = .tup [.agg [.int .i64 m.kind, .slice a m.l.length none, .str m.text], .int .i64 e] ∧ Own eInt lo H (.slice a m.l.length none) m.l ∧
    ((o = some m ∧ e = 0) ∨ (o = none ∧ m = ⟨0, [], []⟩ ∧ e = 2)) := by
  cases o with
  | none =>
    simp only [decOut] at h
    exact ⟨⟨0, [], []⟩, none, 2, h, Own.nil _ _ _, .inr ⟨rfl, rfl, rfl⟩⟩
  | some m =>
    obtain ⟨sl, h1, h2⟩ := h
    obtain ⟨a, rfl, _⟩ := h2.se
    exact ⟨m, a, 0, h1, h2, .inl ⟨rfl, rfl⟩⟩

/-- Its owner writes over the numbers. -/
theorem spoil_step {lo : Nat} {H : AHeap} {a : Option (Nat × Nat)} {xs : List Int} (h : Own eInt lo H (.slice a xs.length none) xs) {k : Nat} (hk : k < xs.length) :
    ∃ i, a = some (i, 0) ∧ lo ≤ i ∧ i < H.length ∧ ∃ x, wrRow H i k [.int .i64 (-7)] = some (List.set H i (.row x)) ∧ ∃ ys : List Int, ys.length = xs.length ∧ Own eInt lo (List.set H i (.row x)) (.slice a ys.length none) ys := by
  rcases h with ⟨h1, h2⟩ | ⟨i, tail, h1, h2, h3⟩
  · subst h2; simp at hk
  · cases h1
    have hcl : (eInt.cs xs).length = xs.length := by rw [eInt.cs_len]; simp [eInt]
    have hl := hOf_is_lt h3
    refine ⟨i, rfl, h2, hl, _, wr_at h3 rfl k _ (by simp [hcl]; omega), xs.set k (-7), by simp, .inr ⟨i, tail, rfl, h2, ?_⟩⟩
    rw [hOf_set_eq rfl hl]
    congr 2
    unfold splice
    have hset : ∀ (ys : List Int) (k : Nat), eInt.cs (ys.set k (-7)) = (eInt.cs ys).set k (.int .i64 (-7)) := by
      intro ys
      induction ys with
      | nil => intro k; rfl
      | cons y ys ih =>
        intro k
        cases k with
        | zero => rfl
        | succ k => rw [List.set_cons_succ, Flat.cs_cons, ih]; rfl
    rw [hset, List.set_eq_take_append_cons_drop, if_pos (by omega), List.take_append_of_le_length (by omega)]
    simp only [List.length_cons, List.length_nil, List.append_assoc, List.cons_append, List.nil_append]
    rw [List.drop_append_of_le_length (by omega)]

theorem decM_len {bs : List UInt8} {m : Msg} (h : decM bs = some m) : m.l.length ≤ 10 := by
  cases bs with
  | nil => cases h
  | cons b bs' =>
    cases hr : rdInts (b :: bs') (msgSize b.toNat).1.toNat 1 with
    | none => rw [decM_none b bs' hr] at h; cases h
    | some q =>
      obtain ⟨l, q⟩ := q
      rw [decM_some b bs' l q hr] at h
      split at h
      · simp only [Option.some.injEq] at h; subst h
        have := rdInts_range _ _ _ _ _ (by simp; omega) hr
        have := msgSize_le (b.toNat : Int)
        simp only []
        omega
      · cases h

set_option maxHeartbeats 4000000 in
/-- barrowlaw12.MessageReads -/
theorem p3 {H : AHeap} {a : Option (Nat × Nat)} {c : Option Nat} {bs : List UInt8} (h : SE eByte H a bs.length c bs) (hl : bs.length ≤ maxLen) : PF T 3 [.slice a bs.length c] H fun r _ => r = .bool true := by
  refine PF_code rfl _ _ _ ?_
  simp only [a3]
  simp (disch := first | omega | assumption | (simp only [List.length_cons, List.length_nil, len_newRow, len_set] <;> omega) | fail) only [eq_self, if_pos, if_neg, binStr_eql, binStr_neq, dec_t, dec_f, w64, wu64, wu8, Int.toNat_natCast, rQ_ret, rQ_norm, rngQ_norm, rngQ_ret, rngQ_exit, Nat.mul_one, loadA_new_eq, loadA_new_ne, loadA_set_eq, loadA_set_ne, hOf_new_eq, hOf_new_ne, hOf_set_eq, hOf_set_ne, wrRow_new_eq, wrRow_new_ne, lower_ge, lower_none, len_newRow, len_set, AV.undef, unA, qs, qb, qe, qi, Int.reduceToNat, Nat.reduceMul, List.getElem?_cons_succ, List.getElem?_cons_zero, false_implies, true_implies, forall_const, implies_true, Nat.lt_add_one, Nat.min_eq_left, Nat.le_add_right, qc, fillA, evParts, repCells, splice, partA, List.length_cons, List.length_nil, List.take_succ_cons, List.take_zero, List.drop_succ_cons, List.drop_zero, List.cons_append, Option.bind_some, Nat.add_zero, Nat.zero_add, List.drop_nil, List.take_nil, Nat.le_refl, Nat.min_self, qv, qu, pureStep, memStep, WC_look, condQ_true, condQ_false, WO_gd, gdQ_tt, gdQ_ff, gdQ_tf, gdQ_ft, gdQ_u, resOf, resAll, resA, wp_some, kv_none, ↓reduceIte, Nat.reduceEqDiff, reduceCtorEq, decide_true, decide_false, Bool.not_true, Bool.not_false, List.map_cons, List.map_nil, List.nil_append, List.append_nil, Option.map_some, Option.map_none, if_true, if_false, true_and, and_true, Int.reduceEq, Int.reduceLT, Int.reduceLE, Int.reduceNeg, Nat.reduceAdd, Nat.reduceLeDiff, Bool.true_eq_false, Bool.false_eq_true, beq_self_eq_true, nilckA, bne, Bool.not_eq_true']
  refine WO_callP rfl (Ext.refl _) (closed_run rfl _) ?_
  rintro v _ _ _ ⟨rfl, rfl⟩
  simp (disch := first | omega | assumption | (simp only [List.length_cons, List.length_nil, len_newRow, len_set] <;> omega) | fail) only [eq_self, if_pos, if_neg, binStr_eql, binStr_neq, dec_t, dec_f, w64, wu64, wu8, Int.toNat_natCast, rQ_ret, rQ_norm, rngQ_norm, rngQ_ret, rngQ_exit, Nat.mul_one, loadA_new_eq, loadA_new_ne, loadA_set_eq, loadA_set_ne, hOf_new_eq, hOf_new_ne, hOf_set_eq, hOf_set_ne, wrRow_new_eq, wrRow_new_ne, lower_ge, lower_none, len_newRow, len_set, AV.undef, unA, qs, qb, qe, qi, Int.reduceToNat, Nat.reduceMul, List.getElem?_cons_succ, List.getElem?_cons_zero, false_implies, true_implies, forall_const, implies_true, Nat.lt_add_one, Nat.min_eq_left, Nat.le_add_right, qc, fillA, evParts, repCells, splice, partA, List.length_cons, List.length_nil, List.take_succ_cons, List.take_zero, List.drop_succ_cons, List.drop_zero, List.cons_append, Option.bind_some, Nat.add_zero, Nat.zero_add, List.drop_nil, List.take_nil, Nat.le_refl, Nat.min_self, qv, qu, pureStep, memStep, WC_look, condQ_true, condQ_false, WO_gd, gdQ_tt, gdQ_ff, gdQ_tf, gdQ_ft, gdQ_u, resOf, resAll, resA, wp_some, kv_none, ↓reduceIte, Nat.reduceEqDiff, reduceCtorEq, decide_true, decide_false, Bool.not_true, Bool.not_false, List.map_cons, List.map_nil, List.nil_append, List.append_nil, Option.map_some, Option.map_none, if_true, if_false, true_and, and_true, Int.reduceEq, Int.reduceLT, Int.reduceLE, Int.reduceNeg, Nat.reduceAdd, Nat.reduceLeDiff, Bool.true_eq_false, Bool.false_eq_true, beq_self_eq_true, nilckA, bne, Bool.not_eq_true']
  refine WC_dec (fun g => ?_) (fun g => ?_)
  · simp (disch := first | omega | assumption | (simp only [List.length_cons, List.length_nil, len_newRow, len_set] <;> omega) | fail) only [eq_self, if_pos, if_neg, binStr_eql, binStr_neq, dec_t, dec_f, w64, wu64, wu8, Int.toNat_natCast, rQ_ret, rQ_norm, rngQ_norm, rngQ_ret, rngQ_exit, Nat.mul_one, loadA_new_eq, loadA_new_ne, loadA_set_eq, loadA_set_ne, hOf_new_eq, hOf_new_ne, hOf_set_eq, hOf_set_ne, wrRow_new_eq, wrRow_new_ne, lower_ge, lower_none, len_newRow, len_set, AV.undef, unA, qs, qb, qe, qi, Int.reduceToNat, Nat.reduceMul, List.getElem?_cons_succ, List.getElem?_cons_zero, false_implies, true_implies, forall_const, implies_true, Nat.lt_add_one, Nat.min_eq_left, Nat.le_add_right, qc, fillA, evParts, repCells, splice, partA, List.length_cons, List.length_nil, List.take_succ_cons, List.take_zero, List.drop_succ_cons, List.drop_zero, List.cons_append, Option.bind_some, Nat.add_zero, Nat.zero_add, List.drop_nil, List.take_nil, Nat.le_refl, Nat.min_self, qv, qu, pureStep, memStep, WC_look, condQ_true, condQ_false, WO_gd, gdQ_tt, gdQ_ff, gdQ_tf, gdQ_ft, gdQ_u, resOf, resAll, resA, wp_some, kv_none, ↓reduceIte, Nat.reduceEqDiff, reduceCtorEq, decide_true, decide_false, Bool.not_true, Bool.not_false, List.map_cons, List.map_nil, List.nil_append, List.append_nil, Option.map_some, Option.map_none, if_true, if_false, true_and, and_true, Int.reduceEq, Int.reduceLT, Int.reduceLE, Int.reduceNeg, Nat.reduceAdd, Nat.reduceLeDiff, Bool.true_eq_false, Bool.false_eq_true, beq_self_eq_true, nilckA, bne, Bool.not_eq_true']
    exact Ext.refl _
  have hl2 : bs.length ≤ 2048 := by omega
  simp (disch := first | omega | assumption | (simp only [List.length_cons, List.length_nil, len_newRow, len_set] <;> omega) | fail) only [eq_self, if_pos, if_neg, binStr_eql, binStr_neq, dec_t, dec_f, w64, wu64, wu8, Int.toNat_natCast, rQ_ret, rQ_norm, rngQ_norm, rngQ_ret, rngQ_exit, Nat.mul_one, loadA_new_eq, loadA_new_ne, loadA_set_eq, loadA_set_ne, hOf_new_eq, hOf_new_ne, hOf_set_eq, hOf_set_ne, wrRow_new_eq, wrRow_new_ne, lower_ge, lower_none, len_newRow, len_set, AV.undef, unA, qs, qb, qe, qi, Int.reduceToNat, Nat.reduceMul, List.getElem?_cons_succ, List.getElem?_cons_zero, false_implies, true_implies, forall_const, implies_true, Nat.lt_add_one, Nat.min_eq_left, Nat.le_add_right, qc, fillA, evParts, repCells, splice, partA, List.length_cons, List.length_nil, List.take_succ_cons, List.take_zero, List.drop_succ_cons, List.drop_zero, List.cons_append, Option.bind_some, Nat.add_zero, Nat.zero_add, List.drop_nil, List.take_nil, Nat.le_refl, Nat.min_self, qv, qu, pureStep, memStep, WC_look, condQ_true, condQ_false, WO_gd, gdQ_tt, gdQ_ff, gdQ_tf, gdQ_ft, gdQ_u, resOf, resAll, resA, wp_some, kv_none, ↓reduceIte, Nat.reduceEqDiff, reduceCtorEq, decide_true, decide_false, Bool.not_true, Bool.not_false, List.map_cons, List.map_nil, List.nil_append, List.append_nil, Option.map_some, Option.map_none, if_true, if_false, true_and, and_true, Int.reduceEq, Int.reduceLT, Int.reduceLE, Int.reduceNeg, Nat.reduceAdd, Nat.reduceLeDiff, Bool.true_eq_false, Bool.false_eq_true, beq_self_eq_true, nilckA, bne, Bool.not_eq_true']
  refine WO_callP rfl (Ext.refl _) (p12 h (by omega)) ?_
  rintro v H1 hx1 _ hb
  obtain ⟨mb, ab, eb, rfl, ob, hbo⟩ := decOut_val hb
  have hlen1 := hx1.len
  simp (disch := first | omega | assumption | (simp only [List.length_cons, List.length_nil, len_newRow, len_set] <;> omega) | fail) only [eq_self, if_pos, if_neg, binStr_eql, binStr_neq, dec_t, dec_f, w64, wu64, wu8, Int.toNat_natCast, rQ_ret, rQ_norm, rngQ_norm, rngQ_ret, rngQ_exit, Nat.mul_one, loadA_new_eq, loadA_new_ne, loadA_set_eq, loadA_set_ne, hOf_new_eq, hOf_new_ne, hOf_set_eq, hOf_set_ne, wrRow_new_eq, wrRow_new_ne, lower_ge, lower_none, len_newRow, len_set, AV.undef, unA, qs, qb, qe, qi, Int.reduceToNat, Nat.reduceMul, List.getElem?_cons_succ, List.getElem?_cons_zero, false_implies, true_implies, forall_const, implies_true, Nat.lt_add_one, Nat.min_eq_left, Nat.le_add_right, qc, fillA, evParts, repCells, splice, partA, List.length_cons, List.length_nil, List.take_succ_cons, List.take_zero, List.drop_succ_cons, List.drop_zero, List.cons_append, Option.bind_some, Nat.add_zero, Nat.zero_add, List.drop_nil, List.take_nil, Nat.le_refl, Nat.min_self, qv, qu, pureStep, memStep, WC_look, condQ_true, condQ_false, WO_gd, gdQ_tt, gdQ_ff, gdQ_tf, gdQ_ft, gdQ_u, resOf, resAll, resA, wp_some, kv_none, ↓reduceIte, Nat.reduceEqDiff, reduceCtorEq, decide_true, decide_false, Bool.not_true, Bool.not_false, List.map_cons, List.map_nil, List.nil_append, List.append_nil, Option.map_some, Option.map_none, if_true, if_false, true_and, and_true, Int.reduceEq, Int.reduceLT, Int.reduceLE, Int.reduceNeg, Nat.reduceAdd, Nat.reduceLeDiff, Bool.true_eq_false, Bool.false_eq_true, beq_self_eq_true, nilckA, bne, Bool.not_eq_true']
  have hx2 : Ext H (newRow H1 [.int .i64 mb.kind, .slice ab mb.l.length none, .str mb.text] 0) := hx1.nr
  obtain ⟨ab', e', sb⟩ := (ob.ext (Ext.newRow H1 [.int .i64 mb.kind, .slice ab mb.l.length none, .str mb.text] 0)).se
  cases e'
  have rb : hOf (newRow H1 [.int .i64 mb.kind, .slice ab mb.l.length none, .str mb.text] 0) H1.length = some _ := hOf_new_eq rfl _ _
  generalize newRow H1 [.int .i64 mb.kind, .slice ab mb.l.length none, .str mb.text] 0 = H2 at hx2 sb rb
  refine WC_loop (fun n s => ∃ j, n = 2 - j ∧ j ≤ 2 ∧ s.env 0 = .slice a bs.length c ∧ s.env 3 = .bool true ∧ s.env 4 = .ptr (some (H1.length, 0)) ∧ s.env 5 = .int .i64 eb ∧ s.env 6 = .int .i64 ((j : Nat) : Int) ∧ Ext H2 s.heap ∧ s.low = H.length) ?_ 2 _ ⟨0, rfl, by omega, rfl, rfl, rfl, rfl, rfl, Ext.refl _, rfl⟩
  rintro n ⟨e, H', lw⟩ ⟨j, hn, hj, k0, k3, k4, k5, k6, hx, rfl⟩
  simp only [] at k0 k3 k4 k5 k6 hx
  have hxH := hx2.trans hx
  by_cases hlt : j < 2
  · -- in
    have hin0 : Own eByte H'.length (newRow H' [] 1) (.slice (some (H'.length, 0)) 0 none) ([] : List UInt8) := Own.fresh eByte (Nat.le_refl _) []
    obtain ⟨vin, H3, w, e1, o1, a1⟩ := append_own (x := .slice a bs.length c) (ys := bs) (bytes := 1) hin0 (by rw [len_newRow]; omega) rfl (h.ext (hxH.addRow [] 1)).src (by decide) (by simp [room]; omega)
    have hx3 : Ext H' H3 := a1.ext (Ext.newRow H' [] 1) (fun i o n c e => hin0.ge i o n c e)
    have elo := a1.lower (l := H.length) hxH.len
    obtain ⟨ain, rfl, sin⟩ := o1.se
    rw [List.nil_append] at sin e1 o1
    change appendA 1 1 _ _ _ = _ at e1
    simp (disch := first | omega | assumption | (simp only [List.length_cons, List.length_nil, len_newRow, len_set] <;> omega) | fail) only [k0, k3, k4, k5, k6, e1, elo, eq_self, if_pos, if_neg, binStr_eql, binStr_neq, dec_t, dec_f, w64, wu64, wu8, Int.toNat_natCast, rQ_ret, rQ_norm, rngQ_norm, rngQ_ret, rngQ_exit, Nat.mul_one, loadA_new_eq, loadA_new_ne, loadA_set_eq, loadA_set_ne, hOf_new_eq, hOf_new_ne, hOf_set_eq, hOf_set_ne, wrRow_new_eq, wrRow_new_ne, lower_ge, lower_none, len_newRow, len_set, AV.undef, unA, qs, qb, qe, qi, Int.reduceToNat, Nat.reduceMul, List.getElem?_cons_succ, List.getElem?_cons_zero, false_implies, true_implies, forall_const, implies_true, Nat.lt_add_one, Nat.min_eq_left, Nat.le_add_right, qc, fillA, evParts, repCells, splice, partA, List.length_cons, List.length_nil, List.take_succ_cons, List.take_zero, List.drop_succ_cons, List.drop_zero, List.cons_append, Option.bind_some, Nat.add_zero, Nat.zero_add, List.drop_nil, List.take_nil, Nat.le_refl, Nat.min_self, qv, qu, pureStep, memStep, WC_look, condQ_true, condQ_false, WO_gd, gdQ_tt, gdQ_ff, gdQ_tf, gdQ_ft, gdQ_u, resOf, resAll, resA, wp_some, kv_none, ↓reduceIte, Nat.reduceEqDiff, reduceCtorEq, decide_true, decide_false, Bool.not_true, Bool.not_false, List.map_cons, List.map_nil, List.nil_append, List.append_nil, Option.map_some, Option.map_none, if_true, if_false, true_and, and_true, Int.reduceEq, Int.reduceLT, Int.reduceLE, Int.reduceNeg, Nat.reduceAdd, Nat.reduceLeDiff, Bool.true_eq_false, Bool.false_eq_true, beq_self_eq_true, nilckA, bne, Bool.not_eq_true']
    refine WO_callP rfl (hxH.trans hx3) (p13 sin (by omega)) ?_
    rintro v H4 hx4 hx5 ha
    obtain ⟨ma, aa, ea, rfl, oa, hao⟩ := decOut_val ha
    have hEq : ma = mb ∧ ea = eb := by
      rcases hao with ⟨q1, q2⟩ | ⟨q1, q2, q3⟩ <;> rcases hbo with ⟨z1, z2⟩ | ⟨z1, z2, z3⟩
      · rw [q1] at z1; cases z1; exact ⟨rfl, by rw [q2, z2]⟩
      · rw [q1] at z1; cases z1
      · rw [q1] at z1; cases z1
      · exact ⟨by rw [q2, z2], by rw [q3, z3]⟩
    obtain ⟨rfl, rfl⟩ := hEq
    have hml : ma.l.length ≤ 10 := by
      rcases hao with ⟨q1, _⟩ | ⟨_, q2, _⟩
      · exact decM_len q1
      · rw [q2]; simp
    have hlen4 := hx4.len
    simp (disch := first | omega | assumption | (simp only [List.length_cons, List.length_nil, len_newRow, len_set] <;> omega) | fail) only [eq_self, if_pos, if_neg, binStr_eql, binStr_neq, dec_t, dec_f, w64, wu64, wu8, Int.toNat_natCast, rQ_ret, rQ_norm, rngQ_norm, rngQ_ret, rngQ_exit, Nat.mul_one, loadA_new_eq, loadA_new_ne, loadA_set_eq, loadA_set_ne, hOf_new_eq, hOf_new_ne, hOf_set_eq, hOf_set_ne, wrRow_new_eq, wrRow_new_ne, lower_ge, lower_none, len_newRow, len_set, AV.undef, unA, qs, qb, qe, qi, Int.reduceToNat, Nat.reduceMul, List.getElem?_cons_succ, List.getElem?_cons_zero, false_implies, true_implies, forall_const, implies_true, Nat.lt_add_one, Nat.min_eq_left, Nat.le_add_right, qc, fillA, evParts, repCells, splice, partA, List.length_cons, List.length_nil, List.take_succ_cons, List.take_zero, List.drop_succ_cons, List.drop_zero, List.cons_append, Option.bind_some, Nat.add_zero, Nat.zero_add, List.drop_nil, List.take_nil, Nat.le_refl, Nat.min_self, qv, qu, pureStep, memStep, WC_look, condQ_true, condQ_false, WO_gd, gdQ_tt, gdQ_ff, gdQ_tf, gdQ_ft, gdQ_u, resOf, resAll, resA, wp_some, kv_none, ↓reduceIte, Nat.reduceEqDiff, reduceCtorEq, decide_true, decide_false, Bool.not_true, Bool.not_false, List.map_cons, List.map_nil, List.nil_append, List.append_nil, Option.map_some, Option.map_none, if_true, if_false, true_and, and_true, Int.reduceEq, Int.reduceLT, Int.reduceLE, Int.reduceNeg, Nat.reduceAdd, Nat.reduceLeDiff, Bool.true_eq_false, Bool.false_eq_true, beq_self_eq_true, nilckA, bne, Bool.not_eq_true']
    have hx6 : Ext H3 (newRow H4 [.int .i64 ma.kind, .slice aa ma.l.length none, .str ma.text] 0) := hx5.nr
    have hx7 := hx.trans (hx3.trans hx6)
    have rb7 := hx7.row _ _ rb
    have ra : hOf (newRow H4 [.int .i64 ma.kind, .slice aa ma.l.length none, .str ma.text] 0) H4.length = some _ := hOf_new_eq rfl _ _
    have oa7 := oa.ext (Ext.newRow H4 [.int .i64 ma.kind, .slice aa ma.l.length none, .str ma.text] 0)
    have h34 := hx5.len
    have aH4 : ∀ i o n c, AV.slice aa ma.l.length none = .slice (some (i, o)) n c → i < H4.length := by
      rintro i o n c e
      rcases oa with ⟨q, _⟩ | ⟨i', tl, q, _, q3⟩
      · rw [q] at e; cases e
      · rw [q] at e; cases e; exact hOf_is_lt q3
    generalize newRow H4 [.int .i64 ma.kind, .slice aa ma.l.length none, .str ma.text] 0 = H5 at hx6 hx7 rb7 ra oa7
    have la := load_row ra
    have lb := load_row rb7
    simp (disch := first | omega | assumption | (simp only [List.length_cons, List.length_nil, len_newRow, len_set] <;> omega) | fail) only [k4, la, lb, eq_self, if_pos, if_neg, binStr_eql, binStr_neq, dec_t, dec_f, w64, wu64, wu8, Int.toNat_natCast, rQ_ret, rQ_norm, rngQ_norm, rngQ_ret, rngQ_exit, Nat.mul_one, loadA_new_eq, loadA_new_ne, loadA_set_eq, loadA_set_ne, hOf_new_eq, hOf_new_ne, hOf_set_eq, hOf_set_ne, wrRow_new_eq, wrRow_new_ne, lower_ge, lower_none, len_newRow, len_set, AV.undef, unA, qs, qb, qe, qi, Int.reduceToNat, Nat.reduceMul, List.getElem?_cons_succ, List.getElem?_cons_zero, false_implies, true_implies, forall_const, implies_true, Nat.lt_add_one, Nat.min_eq_left, Nat.le_add_right, qc, fillA, evParts, repCells, splice, partA, List.length_cons, List.length_nil, List.take_succ_cons, List.take_zero, List.drop_succ_cons, List.drop_zero, List.cons_append, Option.bind_some, Nat.add_zero, Nat.zero_add, List.drop_nil, List.take_nil, Nat.le_refl, Nat.min_self, qv, qu, pureStep, memStep, WC_look, condQ_true, condQ_false, WO_gd, gdQ_tt, gdQ_ff, gdQ_tf, gdQ_ft, gdQ_u, resOf, resAll, resA, wp_some, kv_none, ↓reduceIte, Nat.reduceEqDiff, reduceCtorEq, decide_true, decide_false, Bool.not_true, Bool.not_false, List.map_cons, List.map_nil, List.nil_append, List.append_nil, Option.map_some, Option.map_none, if_true, if_false, true_and, and_true, Int.reduceEq, Int.reduceLT, Int.reduceLE, Int.reduceNeg, Nat.reduceAdd, Nat.reduceLeDiff, Bool.true_eq_false, Bool.false_eq_true, beq_self_eq_true, nilckA, bne, Bool.not_eq_true']
    obtain ⟨aa', e', sa⟩ := oa7.se
    cases e'
    refine WO_callP rfl (hx2.trans hx7) (p14 (m := ma) (k := ma) ⟨_, _, _, rfl, sa⟩ ⟨_, _, _, rfl, sb.ext hx7⟩ (by omega)) ?_
    rintro v H6 hx8 hx9 rfl
    simp (disch := first | omega | assumption | (simp only [List.length_cons, List.length_nil, len_newRow, len_set] <;> omega) | fail) only [eq_self, if_pos, if_neg, binStr_eql, binStr_neq, dec_t, dec_f, w64, wu64, wu8, Int.toNat_natCast, rQ_ret, rQ_norm, rngQ_norm, rngQ_ret, rngQ_exit, Nat.mul_one, loadA_new_eq, loadA_new_ne, loadA_set_eq, loadA_set_ne, hOf_new_eq, hOf_new_ne, hOf_set_eq, hOf_set_ne, wrRow_new_eq, wrRow_new_ne, lower_ge, lower_none, len_newRow, len_set, AV.undef, unA, qs, qb, qe, qi, Int.reduceToNat, Nat.reduceMul, List.getElem?_cons_succ, List.getElem?_cons_zero, false_implies, true_implies, forall_const, implies_true, Nat.lt_add_one, Nat.min_eq_left, Nat.le_add_right, qc, fillA, evParts, repCells, splice, partA, List.length_cons, List.length_nil, List.take_succ_cons, List.take_zero, List.drop_succ_cons, List.drop_zero, List.cons_append, Option.bind_some, Nat.add_zero, Nat.zero_add, List.drop_nil, List.take_nil, Nat.le_refl, Nat.min_self, qv, qu, pureStep, memStep, WC_look, condQ_true, condQ_false, WO_gd, gdQ_tt, gdQ_ff, gdQ_tf, gdQ_ft, gdQ_u, resOf, resAll, resA, wp_some, kv_none, ↓reduceIte, Nat.reduceEqDiff, reduceCtorEq, decide_true, decide_false, Bool.not_true, Bool.not_false, List.map_cons, List.map_nil, List.nil_append, List.append_nil, Option.map_some, Option.map_none, if_true, if_false, true_and, and_true, Int.reduceEq, Int.reduceLT, Int.reduceLE, Int.reduceNeg, Nat.reduceAdd, Nat.reduceLeDiff, Bool.true_eq_false, Bool.false_eq_true, beq_self_eq_true, nilckA, bne, Bool.not_eq_true']
    have hx10 : Ext H3 H6 := hx6.trans hx9
    refine WC_loop (fun n s => ∃ k, ∃ ys : List Int, n = ma.l.length - k ∧ k ≤ ma.l.length ∧ ys.length = ma.l.length ∧ s.env 0 = .slice a bs.length c ∧ s.env 3 = .bool true ∧ s.env 4 = .ptr (some (H1.length, 0)) ∧ s.env 5 = .int .i64 ea ∧ s.env 6 = .int .i64 ((j : Nat) : Int) ∧
      s.env 7 = .slice ain bs.length none ∧ s.env 8 = .ptr (some (H4.length, 0)) ∧ s.env 9 = .int .i64 ea ∧ s.env 10 = .bool true ∧ s.env 11 = .int .i64 (k : Int) ∧ Ext H3 s.heap ∧ s.low = H.length ∧
      hOf s.heap H4.length = some ⟨[.int .i64 ma.kind, .slice aa ma.l.length none, .str ma.text], true, 0⟩ ∧ Own eInt H3.length s.heap (.slice aa ys.length none) ys) ?_ ma.l.length _
      ⟨0, ma.l, rfl, by omega, rfl, k0, k3, k4, k5, k6, rfl, rfl, rfl, rfl, rfl, hx10, rfl, hx9.row _ _ ra, oa7.ext hx9⟩
    rintro n ⟨e, Hc, lw⟩ ⟨k, ys, hn, hk, hyl, k0, k3, k4, k5, k6, k7, k8, k9, k10, k11, hxc, rfl, rac, oac⟩
    simp only [] at k0 k3 k4 k5 k6 k7 k8 k9 k10 k11 hxc rac oac
    have lac := load_row rac
    by_cases hkl : k < ma.l.length
    · obtain ⟨i, rfl, g1, g2, x, g3, ys', g4, g5⟩ := spoil_step oac (k := k) (by omega)
      have hi4 := aH4 i 0 _ _ rfl
      have hlac := hOf_is_lt rac
      have hxl := hxH.len
      have h33 := hx3.len
      simp (disch := first | omega | assumption | (simp only [List.length_cons, List.length_nil, len_newRow, len_set] <;> omega) | fail) only [k0, k3, k4, k5, k6, k7, k8, k9, k10, k11, lac, g3, eq_self, if_pos, if_neg, binStr_eql, binStr_neq, dec_t, dec_f, w64, wu64, wu8, Int.toNat_natCast, rQ_ret, rQ_norm, rngQ_norm, rngQ_ret, rngQ_exit, Nat.mul_one, loadA_new_eq, loadA_new_ne, loadA_set_eq, loadA_set_ne, hOf_new_eq, hOf_new_ne, hOf_set_eq, hOf_set_ne, wrRow_new_eq, wrRow_new_ne, lower_ge, lower_none, len_newRow, len_set, AV.undef, unA, qs, qb, qe, qi, Int.reduceToNat, Nat.reduceMul, List.getElem?_cons_succ, List.getElem?_cons_zero, false_implies, true_implies, forall_const, implies_true, Nat.lt_add_one, Nat.min_eq_left, Nat.le_add_right, qc, fillA, evParts, repCells, splice, partA, List.length_cons, List.length_nil, List.take_succ_cons, List.take_zero, List.drop_succ_cons, List.drop_zero, List.cons_append, Option.bind_some, Nat.add_zero, Nat.zero_add, List.drop_nil, List.take_nil, Nat.le_refl, Nat.min_self, qv, qu, pureStep, memStep, WC_look, condQ_true, condQ_false, WO_gd, gdQ_tt, gdQ_ff, gdQ_tf, gdQ_ft, gdQ_u, resOf, resAll, resA, wp_some, kv_none, ↓reduceIte, Nat.reduceEqDiff, reduceCtorEq, decide_true, decide_false, Bool.not_true, Bool.not_false, List.map_cons, List.map_nil, List.nil_append, List.append_nil, Option.map_some, Option.map_none, if_true, if_false, true_and, and_true, Int.reduceEq, Int.reduceLT, Int.reduceLE, Int.reduceNeg, Nat.reduceAdd, Nat.reduceLeDiff, Bool.true_eq_false, Bool.false_eq_true, beq_self_eq_true, nilckA, bne, Bool.not_eq_true']
      refine ⟨_, by omega, k + 1, ys', rfl, by omega, by omega, rfl, hxc.set g1 _, rac, g5⟩
    · have hxcH := hxH.trans (hx3.trans hxc)
      have t1 := se_text (sin.ext hxc)
      have t2 := se_text (h.ext hxcH)
      simp (disch := first | omega | assumption | (simp only [List.length_cons, List.length_nil, len_newRow, len_set] <;> omega) | fail) only [k0, k3, k4, k5, k6, k7, k8, k9, k10, k11, lac, t1, t2, eq_self, if_pos, if_neg, binStr_eql, binStr_neq, dec_t, dec_f, w64, wu64, wu8, Int.toNat_natCast, rQ_ret, rQ_norm, rngQ_norm, rngQ_ret, rngQ_exit, Nat.mul_one, loadA_new_eq, loadA_new_ne, loadA_set_eq, loadA_set_ne, hOf_new_eq, hOf_new_ne, hOf_set_eq, hOf_set_ne, wrRow_new_eq, wrRow_new_ne, lower_ge, lower_none, len_newRow, len_set, AV.undef, unA, qs, qb, qe, qi, Int.reduceToNat, Nat.reduceMul, List.getElem?_cons_succ, List.getElem?_cons_zero, false_implies, true_implies, forall_const, implies_true, Nat.lt_add_one, Nat.min_eq_left, Nat.le_add_right, qc, fillA, evParts, repCells, splice, partA, List.length_cons, List.length_nil, List.take_succ_cons, List.take_zero, List.drop_succ_cons, List.drop_zero, List.cons_append, Option.bind_some, Nat.add_zero, Nat.zero_add, List.drop_nil, List.take_nil, Nat.le_refl, Nat.min_self, qv, qu, pureStep, memStep, WC_look, condQ_true, condQ_false, WO_gd, gdQ_tt, gdQ_ff, gdQ_tf, gdQ_ft, gdQ_u, resOf, resAll, resA, wp_some, kv_none, ↓reduceIte, Nat.reduceEqDiff, reduceCtorEq, decide_true, decide_false, Bool.not_true, Bool.not_false, List.map_cons, List.map_nil, List.nil_append, List.append_nil, Option.map_some, Option.map_none, if_true, if_false, true_and, and_true, Int.reduceEq, Int.reduceLT, Int.reduceLE, Int.reduceNeg, Nat.reduceAdd, Nat.reduceLeDiff, Bool.true_eq_false, Bool.false_eq_true, beq_self_eq_true, nilckA, bne, Bool.not_eq_true']
      exact ⟨_, by omega, j + 1, rfl, by omega, rfl, hx.trans (hx3.trans hxc)⟩
  · simp (disch := first | omega | assumption | (simp only [List.length_cons, List.length_nil, len_newRow, len_set] <;> omega) | fail) only [k0, k3, k4, k5, k6, eq_self, if_pos, if_neg, binStr_eql, binStr_neq, dec_t, dec_f, w64, wu64, wu8, Int.toNat_natCast, rQ_ret, rQ_norm, rngQ_norm, rngQ_ret, rngQ_exit, Nat.mul_one, loadA_new_eq, loadA_new_ne, loadA_set_eq, loadA_set_ne, hOf_new_eq, hOf_new_ne, hOf_set_eq, hOf_set_ne, wrRow_new_eq, wrRow_new_ne, lower_ge, lower_none, len_newRow, len_set, AV.undef, unA, qs, qb, qe, qi, Int.reduceToNat, Nat.reduceMul, List.getElem?_cons_succ, List.getElem?_cons_zero, false_implies, true_implies, forall_const, implies_true, Nat.lt_add_one, Nat.min_eq_left, Nat.le_add_right, qc, fillA, evParts, repCells, splice, partA, List.length_cons, List.length_nil, List.take_succ_cons, List.take_zero, List.drop_succ_cons, List.drop_zero, List.cons_append, Option.bind_some, Nat.add_zero, Nat.zero_add, List.drop_nil, List.take_nil, Nat.le_refl, Nat.min_self, qv, qu, pureStep, memStep, WC_look, condQ_true, condQ_false, WO_gd, gdQ_tt, gdQ_ff, gdQ_tf, gdQ_ft, gdQ_u, resOf, resAll, resA, wp_some, kv_none, ↓reduceIte, Nat.reduceEqDiff, reduceCtorEq, decide_true, decide_false, Bool.not_true, Bool.not_false, List.map_cons, List.map_nil, List.nil_append, List.append_nil, Option.map_some, Option.map_none, if_true, if_false, true_and, and_true, Int.reduceEq, Int.reduceLT, Int.reduceLE, Int.reduceNeg, Nat.reduceAdd, Nat.reduceLeDiff, Bool.true_eq_false, Bool.false_eq_true, beq_self_eq_true, nilckA, bne, Bool.not_eq_true']
    exact hxH
end Go.Proofs.Qq.Qqd

/- PRINTED BY A PROGRAM (seat.py): the resolved code stands for the loaded code. -/
namespace Go.Proofs.Qq.Qqd
open Go.Proofs.Qq
theorem ok2 : okFun Tryd.prog Tryd.f2 a2 = true := by kernel_rfl
theorem ok3 : okFun Tryd.prog Tryd.f3 a3 = true := by kernel_rfl
theorem ok4 : okFun Tryd.prog Tryd.f4 a4 = true := by kernel_rfl
theorem ok5 : okFun Tryd.prog Tryd.f5 a5 = true := by kernel_rfl
theorem ok6 : okFun Tryd.prog Tryd.f6 a6 = true := by kernel_rfl
theorem ok7 : okFun Tryd.prog Tryd.f7 a7 = true := by kernel_rfl
theorem ok8 : okFun Tryd.prog Tryd.f8 a8 = true := by kernel_rfl
theorem ok9 : okFun Tryd.prog Tryd.f9 a9 = true := by kernel_rfl
theorem ok10 : okFun Tryd.prog Tryd.f10 a10 = true := by kernel_rfl
theorem ok11 : okFun Tryd.prog Tryd.f11 a11 = true := by kernel_rfl
theorem ok12 : okFun Tryd.prog Tryd.f12 a12 = true := by kernel_rfl
theorem ok13 : okFun Tryd.prog Tryd.f13 a13 = true := by kernel_rfl
theorem ok14 : okFun Tryd.prog Tryd.f14 a14 = true := by kernel_rfl
theorem ok15 : okFun Tryd.prog Tryd.f15 a15 = true := by kernel_rfl
theorem ok16 : okFun Tryd.prog Tryd.f16 a16 = true := by kernel_rfl
theorem ok17 : okFun Tryd.prog Tryd.f17 a17 = true := by kernel_rfl
theorem ok18 : okFun Tryd.prog Tryd.f18 a18 = true := by kernel_rfl
theorem ok19 : okFun Tryd.prog Tryd.f19 a19 = true := by kernel_rfl
theorem ok20 : okFun Tryd.prog Tryd.f20 a20 = true := by kernel_rfl
theorem ok21 : okFun Tryd.prog Tryd.f21 a21 = true := by kernel_rfl
theorem ok22 : okFun Tryd.prog Tryd.f22 a22 = true := by kernel_rfl
end Go.Proofs.Qq.Qqd

/- PRINTED BY A PROGRAM (seat.py): the resolved code stands for the loaded code. -/
namespace Go.Proofs.Qq.Qqd
open Go.Proofs.Qq
theorem ok23 : okFun Tryd.prog Tryd.f23 a23 = true := by kernel_rfl
theorem ok24 : okFun Tryd.prog Tryd.f24 a24 = true := by kernel_rfl
theorem ok25 : okFun Tryd.prog Tryd.f25 a25 = true := by kernel_rfl
theorem ok26 : okFun Tryd.prog Tryd.f26 a26 = true := by kernel_rfl
theorem ok27 : okFun Tryd.prog Tryd.f27 a27 = true := by kernel_rfl
theorem ok28 : okFun Tryd.prog Tryd.f28 a28 = true := by kernel_rfl
theorem ok29 : okFun Tryd.prog Tryd.f29 a29 = true := by kernel_rfl
theorem ok30 : okFun Tryd.prog Tryd.f30 a30 = true := by kernel_rfl
theorem ok31 : okFun Tryd.prog Tryd.f31 a31 = true := by kernel_rfl
theorem ok32 : okFun Tryd.prog Tryd.f32 a32 = true := by kernel_rfl
theorem ok33 : okFun Tryd.prog Tryd.f33 a33 = true := by kernel_rfl
theorem ok34 : okFun Tryd.prog Tryd.f34 a34 = true := by kernel_rfl
theorem ok35 : okFun Tryd.prog Tryd.f35 a35 = true := by kernel_rfl
theorem ok36 : okFun Tryd.prog Tryd.f36 a36 = true := by kernel_rfl
theorem ok37 : okFun Tryd.prog Tryd.f37 a37 = true := by kernel_rfl
theorem ok38 : okFun Tryd.prog Tryd.f38 a38 = true := by kernel_rfl
theorem ok39 : okFun Tryd.prog Tryd.f39 a39 = true := by kernel_rfl
theorem ok40 : okFun Tryd.prog Tryd.f40 a40 = true := by kernel_rfl
theorem ok41 : okFun Tryd.prog Tryd.f41 a41 = true := by kernel_rfl
theorem ok42 : okFun Tryd.prog Tryd.f42 a42 = true := by kernel_rfl
theorem ok43 : okFun Tryd.prog Tryd.f43 a43 = true := by kernel_rfl
theorem ok44 : okFun Tryd.prog Tryd.f44 a44 = true := by kernel_rfl
theorem ok45 : okFun Tryd.prog Tryd.f45 a45 = true := by kernel_rfl
theorem ok46 : okFun Tryd.prog Tryd.f46 a46 = true := by kernel_rfl
theorem ok47 : okFun Tryd.prog Tryd.f47 a47 = true := by kernel_rfl
theorem ok48 : okFun Tryd.prog Tryd.f48 a48 = true := by kernel_rfl
theorem ok49 : okFun Tryd.prog Tryd.f49 a49 = true := by kernel_rfl
theorem ok50 : okFun Tryd.prog Tryd.f50 a50 = true := by kernel_rfl
theorem ok51 : okFun Tryd.prog Tryd.f51 a51 = true := by kernel_rfl
theorem ok52 : okFun Tryd.prog Tryd.f52 a52 = true := by kernel_rfl
theorem ok53 : okFun Tryd.prog Tryd.f53 a53 = true := by kernel_rfl
theorem ok54 : okFun Tryd.prog Tryd.f54 a54 = true := by kernel_rfl
theorem ok55 : okFun Tryd.prog Tryd.f55 a55 = true := by kernel_rfl
theorem ok56 : okFun Tryd.prog Tryd.f56 a56 = true := by kernel_rfl
theorem ok57 : okFun Tryd.prog Tryd.f57 a57 = true := by kernel_rfl
theorem ok58 : okFun Tryd.prog Tryd.f58 a58 = true := by kernel_rfl
theorem ok59 : okFun Tryd.prog Tryd.f59 a59 = true := by kernel_rfl
theorem ok60 : okFun Tryd.prog Tryd.f60 a60 = true := by kernel_rfl
theorem ok61 : okFun Tryd.prog Tryd.f61 a61 = true := by kernel_rfl
theorem ok63 : okFun Tryd.prog Tryd.f63 a63 = true := by kernel_rfl
theorem ok64 : okFun Tryd.prog Tryd.f64 a64 = true := by kernel_rfl
theorem ok65 : okFun Tryd.prog Tryd.f65 a65 = true := by kernel_rfl
theorem ok66 : okFun Tryd.prog Tryd.f66 a66 = true := by kernel_rfl
theorem ok67 : okFun Tryd.prog Tryd.f67 a67 = true := by kernel_rfl
theorem ok68 : okFun Tryd.prog Tryd.f68 a68 = true := by kernel_rfl
theorem ok69 : okFun Tryd.prog Tryd.f69 a69 = true := by kernel_rfl
end Go.Proofs.Qq.Qqd

/- PRINTED BY A PROGRAM (seat.py): the resolved code stands for the loaded code. -/
namespace Go.Proofs.Qq.Qqd
open Go.Proofs.Qq
theorem ok70 : okFun Tryd.prog Tryd.f70 a70 = true := by kernel_rfl
theorem ok71 : okFun Tryd.prog Tryd.f71 a71 = true := by kernel_rfl
theorem ok72 : okFun Tryd.prog Tryd.f72 a72 = true := by kernel_rfl
theorem ok73 : okFun Tryd.prog Tryd.f73 a73 = true := by kernel_rfl
theorem ok74 : okFun Tryd.prog Tryd.f74 a74 = true := by kernel_rfl
theorem ok75 : okFun Tryd.prog Tryd.f75 a75 = true := by kernel_rfl
theorem ok76 : okFun Tryd.prog Tryd.f76 a76 = true := by kernel_rfl
theorem ok77 : okFun Tryd.prog Tryd.f77 a77 = true := by kernel_rfl
theorem ok78 : okFun Tryd.prog Tryd.f78 a78 = true := by kernel_rfl
theorem ok79 : okFun Tryd.prog Tryd.f79 a79 = true := by kernel_rfl
theorem ok80 : okFun Tryd.prog Tryd.f80 a80 = true := by kernel_rfl
theorem ok81 : okFun Tryd.prog Tryd.f81 a81 = true := by kernel_rfl
theorem ok82 : okFun Tryd.prog Tryd.f82 a82 = true := by kernel_rfl
theorem ok83 : okFun Tryd.prog Tryd.f83 a83 = true := by kernel_rfl
theorem ok84 : okFun Tryd.prog Tryd.f84 a84 = true := by kernel_rfl
theorem ok85 : okFun Tryd.prog Tryd.f85 a85 = true := by kernel_rfl
theorem ok86 : okFun Tryd.prog Tryd.f86 a86 = true := by kernel_rfl
theorem ok87 : okFun Tryd.prog Tryd.f87 a87 = true := by kernel_rfl
theorem ok88 : okFun Tryd.prog Tryd.f88 a88 = true := by kernel_rfl
theorem ok89 : okFun Tryd.prog Tryd.f89 a89 = true := by kernel_rfl
theorem ok90 : okFun Tryd.prog Tryd.f90 a90 = true := by kernel_rfl
theorem ok91 : okFun Tryd.prog Tryd.f91 a91 = true := by kernel_rfl
theorem ok92 : okFun Tryd.prog Tryd.f92 a92 = true := by kernel_rfl
theorem ok93 : okFun Tryd.prog Tryd.f93 a93 = true := by kernel_rfl
theorem ok94 : okFun Tryd.prog Tryd.f94 a94 = true := by kernel_rfl
theorem ok96 : okFun Tryd.prog Tryd.f96 a96 = true := by kernel_rfl
theorem ok97 : okFun Tryd.prog Tryd.f97 a97 = true := by kernel_rfl
theorem ok98 : okFun Tryd.prog Tryd.f98 a98 = true := by kernel_rfl
theorem ok99 : okFun Tryd.prog Tryd.f99 a99 = true := by kernel_rfl
theorem ok100 : okFun Tryd.prog Tryd.f100 a100 = true := by kernel_rfl
theorem ok101 : okFun Tryd.prog Tryd.f101 a101 = true := by kernel_rfl
theorem ok102 : okFun Tryd.prog Tryd.f102 a102 = true := by kernel_rfl
theorem ok103 : okFun Tryd.prog Tryd.f103 a103 = true := by kernel_rfl
theorem ok104 : okFun Tryd.prog Tryd.f104 a104 = true := by kernel_rfl
theorem ok105 : okFun Tryd.prog Tryd.f105 a105 = true := by kernel_rfl
theorem ok106 : okFun Tryd.prog Tryd.f106 a106 = true := by kernel_rfl
theorem ok107 : okFun Tryd.prog Tryd.f107 a107 = true := by kernel_rfl
theorem ok108 : okFun Tryd.prog Tryd.f108 a108 = true := by kernel_rfl
theorem ok109 : okFun Tryd.prog Tryd.f109 a109 = true := by kernel_rfl
theorem ok110 : okFun Tryd.prog Tryd.f110 a110 = true := by kernel_rfl
theorem ok111 : okFun Tryd.prog Tryd.f111 a111 = true := by kernel_rfl
theorem ok113 : okFun Tryd.prog Tryd.f113 a113 = true := by kernel_rfl
theorem ok114 : okFun Tryd.prog Tryd.f114 a114 = true := by kernel_rfl
theorem ok115 : okFun Tryd.prog Tryd.f115 a115 = true := by kernel_rfl
theorem ok116 : okFun Tryd.prog Tryd.f116 a116 = true := by kernel_rfl
theorem ok117 : okFun Tryd.prog Tryd.f117 a117 = true := by kernel_rfl
theorem ok118 : okFun Tryd.prog Tryd.f118 a118 = true := by kernel_rfl
theorem ok119 : okFun Tryd.prog Tryd.f119 a119 = true := by kernel_rfl
theorem ok120 : okFun Tryd.prog Tryd.f120 a120 = true := by kernel_rfl
theorem ok122 : okFun Tryd.prog Tryd.f122 a122 = true := by kernel_rfl
theorem ok123 : okFun Tryd.prog Tryd.f123 a123 = true := by kernel_rfl
theorem ok126 : okFun Tryd.prog Tryd.f126 a126 = true := by kernel_rfl
theorem ok127 : okFun Tryd.prog Tryd.f127 a127 = true := by kernel_rfl
theorem ok128 : okFun Tryd.prog Tryd.f128 a128 = true := by kernel_rfl
theorem ok129 : okFun Tryd.prog Tryd.f129 a129 = true := by kernel_rfl
theorem ok130 : okFun Tryd.prog Tryd.f130 a130 = true := by kernel_rfl
theorem ok132 : okFun Tryd.prog Tryd.f132 a132 = true := by kernel_rfl
theorem ok133 : okFun Tryd.prog Tryd.f133 a133 = true := by kernel_rfl
end Go.Proofs.Qq.Qqd

/- PRINTED BY A PROGRAM (seat.py): the table stands for the loaded functions; the closed calls. -/
namespace Go.Proofs.Qq.Qqd
open Go.Proofs.Qq
theorem okTab : OkFrom Tryd.prog 0 (tab prims) :=
  ⟨trivial,
   trivial,
   ⟨_, Tryd.func2, ok2⟩,
   ⟨_, Tryd.func3, ok3⟩,
   ⟨_, Tryd.func4, ok4⟩,
   ⟨_, Tryd.func5, ok5⟩,
   ⟨_, Tryd.func6, ok6⟩,
   ⟨_, Tryd.func7, ok7⟩,
   ⟨_, Tryd.func8, ok8⟩,
   ⟨_, Tryd.func9, ok9⟩,
   ⟨_, Tryd.func10, ok10⟩,
   ⟨_, Tryd.func11, ok11⟩,
   ⟨_, Tryd.func12, ok12⟩,
   ⟨_, Tryd.func13, ok13⟩,
   ⟨_, Tryd.func14, ok14⟩,
   ⟨_, Tryd.func15, ok15⟩,
   ⟨_, Tryd.func16, ok16⟩,
   ⟨_, Tryd.func17, ok17⟩,
   ⟨_, Tryd.func18, ok18⟩,
   ⟨_, Tryd.func19, ok19⟩,
   ⟨_, Tryd.func20, ok20⟩,
   ⟨_, Tryd.func21, ok21⟩,
   ⟨_, Tryd.func22, ok22⟩,
   ⟨_, Tryd.func23, ok23⟩,
   ⟨_, Tryd.func24, ok24⟩,
   ⟨_, Tryd.func25, ok25⟩,
   ⟨_, Tryd.func26, ok26⟩,
   ⟨_, Tryd.func27, ok27⟩,
   ⟨_, Tryd.func28, ok28⟩,
   ⟨_, Tryd.func29, ok29⟩,
   ⟨_, Tryd.func30, ok30⟩,
   ⟨_, Tryd.func31, ok31⟩,
   ⟨_, Tryd.func32, ok32⟩,
   ⟨_, Tryd.func33, ok33⟩,
   ⟨_, Tryd.func34, ok34⟩,
   ⟨_, Tryd.func35, ok35⟩,
   ⟨_, Tryd.func36, ok36⟩,
   ⟨_, Tryd.func37, ok37⟩,
   ⟨_, Tryd.func38, ok38⟩,
   ⟨_, Tryd.func39, ok39⟩,
   ⟨_, Tryd.func40, ok40⟩,
   ⟨_, Tryd.func41, ok41⟩,
   ⟨_, Tryd.func42, ok42⟩,
   ⟨_, Tryd.func43, ok43⟩,
   ⟨_, Tryd.func44, ok44⟩,
   ⟨_, Tryd.func45, ok45⟩,
   ⟨_, Tryd.func46, ok46⟩,
   ⟨_, Tryd.func47, ok47⟩,
   ⟨_, Tryd.func48, ok48⟩,
   ⟨_, Tryd.func49, ok49⟩,
   ⟨_, Tryd.func50, ok50⟩,
   ⟨_, Tryd.func51, ok51⟩,
   ⟨_, Tryd.func52, ok52⟩,
   ⟨_, Tryd.func53, ok53⟩,
   ⟨_, Tryd.func54, ok54⟩,
   ⟨_, Tryd.func55, ok55⟩,
   ⟨_, Tryd.func56, ok56⟩,
   ⟨_, Tryd.func57, ok57⟩,
   ⟨_, Tryd.func58, ok58⟩,
   ⟨_, Tryd.func59, ok59⟩,
   ⟨_, Tryd.func60, ok60⟩,
   ⟨_, Tryd.func61, ok61⟩,
   trivial,
   ⟨_, Tryd.func63, ok63⟩,
   ⟨_, Tryd.func64, ok64⟩,
   ⟨_, Tryd.func65, ok65⟩,
   ⟨_, Tryd.func66, ok66⟩,
   ⟨_, Tryd.func67, ok67⟩,
   ⟨_, Tryd.func68, ok68⟩,
   ⟨_, Tryd.func69, ok69⟩,
   ⟨_, Tryd.func70, ok70⟩,
   ⟨_, Tryd.func71, ok71⟩,
   ⟨_, Tryd.func72, ok72⟩,
   ⟨_, Tryd.func73, ok73⟩,
   ⟨_, Tryd.func74, ok74⟩,
   ⟨_, Tryd.func75, ok75⟩,
   ⟨_, Tryd.func76, ok76⟩,
   ⟨_, Tryd.func77, ok77⟩,
   ⟨_, Tryd.func78, ok78⟩,
   ⟨_, Tryd.func79, ok79⟩,
   ⟨_, Tryd.func80, ok80⟩,
   ⟨_, Tryd.func81, ok81⟩,
   ⟨_, Tryd.func82, ok82⟩,
   ⟨_, Tryd.func83, ok83⟩,
   ⟨_, Tryd.func84, ok84⟩,
   ⟨_, Tryd.func85, ok85⟩,
   ⟨_, Tryd.func86, ok86⟩,
   ⟨_, Tryd.func87, ok87⟩,
   ⟨_, Tryd.func88, ok88⟩,
   ⟨_, Tryd.func89, ok89⟩,
   ⟨_, Tryd.func90, ok90⟩,
   ⟨_, Tryd.func91, ok91⟩,
   ⟨_, Tryd.func92, ok92⟩,
   ⟨_, Tryd.func93, ok93⟩,
   ⟨_, Tryd.func94, ok94⟩,
   trivial,
   ⟨_, Tryd.func96, ok96⟩,
   ⟨_, Tryd.func97, ok97⟩,
   ⟨_, Tryd.func98, ok98⟩,
   ⟨_, Tryd.func99, ok99⟩,
   ⟨_, Tryd.func100, ok100⟩,
   ⟨_, Tryd.func101, ok101⟩,
   ⟨_, Tryd.func102, ok102⟩,
   ⟨_, Tryd.func103, ok103⟩,
   ⟨_, Tryd.func104, ok104⟩,
   ⟨_, Tryd.func105, ok105⟩,
   ⟨_, Tryd.func106, ok106⟩,
   ⟨_, Tryd.func107, ok107⟩,
   ⟨_, Tryd.func108, ok108⟩,
   ⟨_, Tryd.func109, ok109⟩,
   ⟨_, Tryd.func110, ok110⟩,
   ⟨_, Tryd.func111, ok111⟩,
   trivial,
   ⟨_, Tryd.func113, ok113⟩,
   ⟨_, Tryd.func114, ok114⟩,
   ⟨_, Tryd.func115, ok115⟩,
   ⟨_, Tryd.func116, ok116⟩,
   ⟨_, Tryd.func117, ok117⟩,
   ⟨_, Tryd.func118, ok118⟩,
   ⟨_, Tryd.func119, ok119⟩,
   ⟨_, Tryd.func120, ok120⟩,
   trivial,
   ⟨_, Tryd.func122, ok122⟩,
   ⟨_, Tryd.func123, ok123⟩,
   trivial,
   trivial,
   ⟨_, Tryd.func126, ok126⟩,
   ⟨_, Tryd.func127, ok127⟩,
   ⟨_, Tryd.func128, ok128⟩,
   ⟨_, Tryd.func129, ok129⟩,
   ⟨_, Tryd.func130, ok130⟩,
   trivial,
   ⟨_, Tryd.func132, ok132⟩,
   ⟨_, Tryd.func133, ok133⟩, trivial⟩
theorem mixed : Tryd.prog.follows .mixedOrders = true := by kernel_rfl
theorem closed11 : isTrueRes (aCall (tabT (tab prims)) 400 11 [] []) = true := by kernel_rfl
theorem tabOk : TableOk Tryd.prog T := ovr_ok mixed (tableOk_of okTab) (fun f hf => by
  simp only [closed, List.mem_cons, List.not_mem_nil, or_false] at hf
  rcases hf with rfl
  · exact ⟨_, closed11⟩
  )
end Go.Proofs.Qq.Qqd

