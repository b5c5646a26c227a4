/-
  Part of the proof: the abstract machine, its soundness, contracts of functions.
-/
import Derived.Test.YthnpngefpbijkaaDoorQ6
import Derived.Test.YthnpngefpbijkaaDoorQ0
import Derived.Test.YthnpngefpbijkaaDoorQ3
import Derived.Test.YthnpngefpbijkaaDoorChecked
import Derived.KernelRfl
import Derived.Test.YthnpngefpbijkaaDoorQ4
import Derived.Test.YthnpngefpbijkaaDoorQ5
set_option linter.all false
namespace Go.Proofs.Qq.Qqd
open Go.Proofs.Qq

theorem clone_byte {H : AHeap} {a : Option (Nat × Nat)} {n : Nat} {c : Option Nat} {bs : List UInt8} (h : SE eByte H a n c bs) (hl : bs.length ≤ 1000000) : PF T 90 [.slice a n c] H fun r H' => Own eByte H.length H' r bs :=
  clone_ok (E := eByte) (bytes := 1) (zero := [.int .u8 0]) rfl (by decide) h (by simp [room]; omega)

/-- pack.Int -/
theorem p56 {H : AHeap} {a : Option (Nat × Nat)} {n : Nat} {c : Option Nat} {bs : List UInt8} (h : SE eByte H a n c bs) (hl : bs.length ≤ 1000000) (k : Int) (hk : I64 k) : PF T 56 [.slice a n c, .int .i64 k] H fun r H' => Own eByte H.length H' r (bs ++ putL (zig k)) := by
  refine PF_code rfl _ _ _ ?_
  simp only [a56]
  simp (disch := first | omega | assumption | (simp only [List.length_cons, List.length_nil, len_newRow, len_set] <;> omega) | fail) only [eq_self, if_pos, if_neg, binStr_eql, binStr_neq, dec_t, dec_f, w64, wu64, wu8, Int.toNat_natCast, rQ_ret, rQ_norm, wQ_ret, wQ_norm, cutQ_norm, cutQ_exit, cutQ_ret, rngQ_norm, rngQ_ret, rngQ_exit, Nat.mul_one, loadA_new_eq, loadA_new_ne, loadA_set_eq, loadA_set_ne, hOf_new_eq, hOf_new_ne, hOf_set_eq, hOf_set_ne, wrRow_new_eq, wrRow_new_ne, lower_ge, lower_none, len_newRow, len_set, AV.undef, unA, qs, qb, qe, qi, Int.reduceToNat, Nat.reduceMul, List.getElem?_cons_succ, List.getElem?_cons_zero, false_implies, true_implies, forall_const, implies_true, Nat.lt_add_one, Nat.min_eq_left, Nat.le_add_right, qc, fillA, evParts, repCells, splice, partA, List.length_cons, List.length_nil, List.take_succ_cons, List.take_zero, List.drop_succ_cons, List.drop_zero, List.cons_append, Option.bind_some, Nat.add_zero, Nat.zero_add, List.drop_nil, List.take_nil, Nat.le_refl, Nat.min_self, qv, qu, pureStep, memStep, WC_look, condQ_true, condQ_false, WO_gd, gdQ_tt, gdQ_ff, gdQ_tf, gdQ_ft, gdQ_u, resOf, resAll, resA, wp_some, kv_none, ↓reduceIte, Nat.reduceEqDiff, reduceCtorEq, decide_true, decide_false, Bool.not_true, Bool.not_false, List.map_cons, List.map_nil, List.nil_append, List.append_nil, Option.map_some, Option.map_none, if_true, if_false, true_and, and_true, Int.reduceEq, Int.reduceLT, Int.reduceLE, Int.reduceNeg, Nat.reduceAdd, Nat.reduceLeDiff, Bool.true_eq_false, Bool.false_eq_true, beq_self_eq_true, nilckA, bne, Bool.not_eq_true']
  refine WO_callP rfl (Ext.refl _) (clone_byte h hl) ?_
  rintro v H1 hx1 hx2 ho
  obtain ⟨b, rfl, _⟩ := ho.se
  simp (disch := first | omega | assumption | (simp only [List.length_cons, List.length_nil, len_newRow, len_set] <;> omega) | fail) only [eq_self, if_pos, if_neg, binStr_eql, binStr_neq, dec_t, dec_f, w64, wu64, wu8, Int.toNat_natCast, rQ_ret, rQ_norm, wQ_ret, wQ_norm, cutQ_norm, cutQ_exit, cutQ_ret, rngQ_norm, rngQ_ret, rngQ_exit, Nat.mul_one, loadA_new_eq, loadA_new_ne, loadA_set_eq, loadA_set_ne, hOf_new_eq, hOf_new_ne, hOf_set_eq, hOf_set_ne, wrRow_new_eq, wrRow_new_ne, lower_ge, lower_none, len_newRow, len_set, AV.undef, unA, qs, qb, qe, qi, Int.reduceToNat, Nat.reduceMul, List.getElem?_cons_succ, List.getElem?_cons_zero, false_implies, true_implies, forall_const, implies_true, Nat.lt_add_one, Nat.min_eq_left, Nat.le_add_right, qc, fillA, evParts, repCells, splice, partA, List.length_cons, List.length_nil, List.take_succ_cons, List.take_zero, List.drop_succ_cons, List.drop_zero, List.cons_append, Option.bind_some, Nat.add_zero, Nat.zero_add, List.drop_nil, List.take_nil, Nat.le_refl, Nat.min_self, qv, qu, pureStep, memStep, WC_look, condQ_true, condQ_false, WO_gd, gdQ_tt, gdQ_ff, gdQ_tf, gdQ_ft, gdQ_u, resOf, resAll, resA, wp_some, kv_none, ↓reduceIte, Nat.reduceEqDiff, reduceCtorEq, decide_true, decide_false, Bool.not_true, Bool.not_false, List.map_cons, List.map_nil, List.nil_append, List.append_nil, Option.map_some, Option.map_none, if_true, if_false, true_and, and_true, Int.reduceEq, Int.reduceLT, Int.reduceLE, Int.reduceNeg, Nat.reduceAdd, Nat.reduceLeDiff, Bool.true_eq_false, Bool.false_eq_true, beq_self_eq_true, nilckA, bne, Bool.not_eq_true']
  refine WO_callP rfl hx1 (p91 k hk _) ?_
  rintro v _ _ _ ⟨rfl, rfl⟩
  simp (disch := first | omega | assumption | (simp only [List.length_cons, List.length_nil, len_newRow, len_set] <;> omega) | fail) only [eq_self, if_pos, if_neg, binStr_eql, binStr_neq, dec_t, dec_f, w64, wu64, wu8, Int.toNat_natCast, rQ_ret, rQ_norm, wQ_ret, wQ_norm, cutQ_norm, cutQ_exit, cutQ_ret, rngQ_norm, rngQ_ret, rngQ_exit, Nat.mul_one, loadA_new_eq, loadA_new_ne, loadA_set_eq, loadA_set_ne, hOf_new_eq, hOf_new_ne, hOf_set_eq, hOf_set_ne, wrRow_new_eq, wrRow_new_ne, lower_ge, lower_none, len_newRow, len_set, AV.undef, unA, qs, qb, qe, qi, Int.reduceToNat, Nat.reduceMul, List.getElem?_cons_succ, List.getElem?_cons_zero, false_implies, true_implies, forall_const, implies_true, Nat.lt_add_one, Nat.min_eq_left, Nat.le_add_right, qc, fillA, evParts, repCells, splice, partA, List.length_cons, List.length_nil, List.take_succ_cons, List.take_zero, List.drop_succ_cons, List.drop_zero, List.cons_append, Option.bind_some, Nat.add_zero, Nat.zero_add, List.drop_nil, List.take_nil, Nat.le_refl, Nat.min_self, qv, qu, pureStep, memStep, WC_look, condQ_true, condQ_false, WO_gd, gdQ_tt, gdQ_ff, gdQ_tf, gdQ_ft, gdQ_u, resOf, resAll, resA, wp_some, kv_none, ↓reduceIte, Nat.reduceEqDiff, reduceCtorEq, decide_true, decide_false, Bool.not_true, Bool.not_false, List.map_cons, List.map_nil, List.nil_append, List.append_nil, Option.map_some, Option.map_none, if_true, if_false, true_and, and_true, Int.reduceEq, Int.reduceLT, Int.reduceLE, Int.reduceNeg, Nat.reduceAdd, Nat.reduceLeDiff, Bool.true_eq_false, Bool.false_eq_true, beq_self_eq_true, nilckA, bne, Bool.not_eq_true']
  refine WO_callW rfl hx1 (p89 ho hx1.len (zig k) (zig_lt hk) hl) (Nat.le_refl _) ho.ge ?_
  rintro v H2 hx3 _ ho2
  simp (disch := first | omega | assumption | (simp only [List.length_cons, List.length_nil, len_newRow, len_set] <;> omega) | fail) only [eq_self, if_pos, if_neg, binStr_eql, binStr_neq, dec_t, dec_f, w64, wu64, wu8, Int.toNat_natCast, rQ_ret, rQ_norm, wQ_ret, wQ_norm, cutQ_norm, cutQ_exit, cutQ_ret, rngQ_norm, rngQ_ret, rngQ_exit, Nat.mul_one, loadA_new_eq, loadA_new_ne, loadA_set_eq, loadA_set_ne, hOf_new_eq, hOf_new_ne, hOf_set_eq, hOf_set_ne, wrRow_new_eq, wrRow_new_ne, lower_ge, lower_none, len_newRow, len_set, AV.undef, unA, qs, qb, qe, qi, Int.reduceToNat, Nat.reduceMul, List.getElem?_cons_succ, List.getElem?_cons_zero, false_implies, true_implies, forall_const, implies_true, Nat.lt_add_one, Nat.min_eq_left, Nat.le_add_right, qc, fillA, evParts, repCells, splice, partA, List.length_cons, List.length_nil, List.take_succ_cons, List.take_zero, List.drop_succ_cons, List.drop_zero, List.cons_append, Option.bind_some, Nat.add_zero, Nat.zero_add, List.drop_nil, List.take_nil, Nat.le_refl, Nat.min_self, qv, qu, pureStep, memStep, WC_look, condQ_true, condQ_false, WO_gd, gdQ_tt, gdQ_ff, gdQ_tf, gdQ_ft, gdQ_u, resOf, resAll, resA, wp_some, kv_none, ↓reduceIte, Nat.reduceEqDiff, reduceCtorEq, decide_true, decide_false, Bool.not_true, Bool.not_false, List.map_cons, List.map_nil, List.nil_append, List.append_nil, Option.map_some, Option.map_none, if_true, if_false, true_and, and_true, Int.reduceEq, Int.reduceLT, Int.reduceLE, Int.reduceNeg, Nat.reduceAdd, Nat.reduceLeDiff, Bool.true_eq_false, Bool.false_eq_true, beq_self_eq_true, nilckA, bne, Bool.not_eq_true']
  exact ⟨hx3, ho2⟩

/-- pack.Uint -/
theorem p57 {H : AHeap} {a : Option (Nat × Nat)} {n : Nat} {c : Option Nat} {bs : List UInt8} (h : SE eByte H a n c bs) (hl : bs.length ≤ 1000000) (k : Nat) (hk : k ≤ 9223372036854775807) : PF T 57 [.slice a n c, .int .i64 k] H fun r H' => Own eByte H.length H' r (bs ++ putL k) := by
  refine PF_code rfl _ _ _ ?_
  simp only [a57]
  simp (disch := first | omega | assumption | (simp only [List.length_cons, List.length_nil, len_newRow, len_set] <;> omega) | fail) only [eq_self, if_pos, if_neg, binStr_eql, binStr_neq, dec_t, dec_f, w64, wu64, wu8, Int.toNat_natCast, rQ_ret, rQ_norm, wQ_ret, wQ_norm, cutQ_norm, cutQ_exit, cutQ_ret, rngQ_norm, rngQ_ret, rngQ_exit, Nat.mul_one, loadA_new_eq, loadA_new_ne, loadA_set_eq, loadA_set_ne, hOf_new_eq, hOf_new_ne, hOf_set_eq, hOf_set_ne, wrRow_new_eq, wrRow_new_ne, lower_ge, lower_none, len_newRow, len_set, AV.undef, unA, qs, qb, qe, qi, Int.reduceToNat, Nat.reduceMul, List.getElem?_cons_succ, List.getElem?_cons_zero, false_implies, true_implies, forall_const, implies_true, Nat.lt_add_one, Nat.min_eq_left, Nat.le_add_right, qc, fillA, evParts, repCells, splice, partA, List.length_cons, List.length_nil, List.take_succ_cons, List.take_zero, List.drop_succ_cons, List.drop_zero, List.cons_append, Option.bind_some, Nat.add_zero, Nat.zero_add, List.drop_nil, List.take_nil, Nat.le_refl, Nat.min_self, qv, qu, pureStep, memStep, WC_look, condQ_true, condQ_false, WO_gd, gdQ_tt, gdQ_ff, gdQ_tf, gdQ_ft, gdQ_u, resOf, resAll, resA, wp_some, kv_none, ↓reduceIte, Nat.reduceEqDiff, reduceCtorEq, decide_true, decide_false, Bool.not_true, Bool.not_false, List.map_cons, List.map_nil, List.nil_append, List.append_nil, Option.map_some, Option.map_none, if_true, if_false, true_and, and_true, Int.reduceEq, Int.reduceLT, Int.reduceLE, Int.reduceNeg, Nat.reduceAdd, Nat.reduceLeDiff, Bool.true_eq_false, Bool.false_eq_true, beq_self_eq_true, nilckA, bne, Bool.not_eq_true']
  refine WO_callP rfl (Ext.refl _) (clone_byte h hl) ?_
  rintro v H1 hx1 hx2 ho
  obtain ⟨b, rfl, _⟩ := ho.se
  have e1 : foldMM true (.int .i64 (k : Int)) [.int .i64 0] = some (.int .i64 (k : Int)) := by
    simp only [foldMM, minmax2, if_true]
    rw [if_neg (by omega)]
  simp (disch := first | omega | assumption | (simp only [List.length_cons, List.length_nil, len_newRow, len_set] <;> omega) | fail) only [e1, eq_self, if_pos, if_neg, binStr_eql, binStr_neq, dec_t, dec_f, w64, wu64, wu8, Int.toNat_natCast, rQ_ret, rQ_norm, wQ_ret, wQ_norm, cutQ_norm, cutQ_exit, cutQ_ret, rngQ_norm, rngQ_ret, rngQ_exit, Nat.mul_one, loadA_new_eq, loadA_new_ne, loadA_set_eq, loadA_set_ne, hOf_new_eq, hOf_new_ne, hOf_set_eq, hOf_set_ne, wrRow_new_eq, wrRow_new_ne, lower_ge, lower_none, len_newRow, len_set, AV.undef, unA, qs, qb, qe, qi, Int.reduceToNat, Nat.reduceMul, List.getElem?_cons_succ, List.getElem?_cons_zero, false_implies, true_implies, forall_const, implies_true, Nat.lt_add_one, Nat.min_eq_left, Nat.le_add_right, qc, fillA, evParts, repCells, splice, partA, List.length_cons, List.length_nil, List.take_succ_cons, List.take_zero, List.drop_succ_cons, List.drop_zero, List.cons_append, Option.bind_some, Nat.add_zero, Nat.zero_add, List.drop_nil, List.take_nil, Nat.le_refl, Nat.min_self, qv, qu, pureStep, memStep, WC_look, condQ_true, condQ_false, WO_gd, gdQ_tt, gdQ_ff, gdQ_tf, gdQ_ft, gdQ_u, resOf, resAll, resA, wp_some, kv_none, ↓reduceIte, Nat.reduceEqDiff, reduceCtorEq, decide_true, decide_false, Bool.not_true, Bool.not_false, List.map_cons, List.map_nil, List.nil_append, List.append_nil, Option.map_some, Option.map_none, if_true, if_false, true_and, and_true, Int.reduceEq, Int.reduceLT, Int.reduceLE, Int.reduceNeg, Nat.reduceAdd, Nat.reduceLeDiff, Bool.true_eq_false, Bool.false_eq_true, beq_self_eq_true, nilckA, bne, Bool.not_eq_true']
  refine WO_callW rfl hx1 (p89 ho hx1.len k (by omega) hl) (Nat.le_refl _) ho.ge ?_
  rintro v H2 hx3 _ ho2
  simp (disch := first | omega | assumption | (simp only [List.length_cons, List.length_nil, len_newRow, len_set] <;> omega) | fail) only [eq_self, if_pos, if_neg, binStr_eql, binStr_neq, dec_t, dec_f, w64, wu64, wu8, Int.toNat_natCast, rQ_ret, rQ_norm, wQ_ret, wQ_norm, cutQ_norm, cutQ_exit, cutQ_ret, rngQ_norm, rngQ_ret, rngQ_exit, Nat.mul_one, loadA_new_eq, loadA_new_ne, loadA_set_eq, loadA_set_ne, hOf_new_eq, hOf_new_ne, hOf_set_eq, hOf_set_ne, wrRow_new_eq, wrRow_new_ne, lower_ge, lower_none, len_newRow, len_set, AV.undef, unA, qs, qb, qe, qi, Int.reduceToNat, Nat.reduceMul, List.getElem?_cons_succ, List.getElem?_cons_zero, false_implies, true_implies, forall_const, implies_true, Nat.lt_add_one, Nat.min_eq_left, Nat.le_add_right, qc, fillA, evParts, repCells, splice, partA, List.length_cons, List.length_nil, List.take_succ_cons, List.take_zero, List.drop_succ_cons, List.drop_zero, List.cons_append, Option.bind_some, Nat.add_zero, Nat.zero_add, List.drop_nil, List.take_nil, Nat.le_refl, Nat.min_self, qv, qu, pureStep, memStep, WC_look, condQ_true, condQ_false, WO_gd, gdQ_tt, gdQ_ff, gdQ_tf, gdQ_ft, gdQ_u, resOf, resAll, resA, wp_some, kv_none, ↓reduceIte, Nat.reduceEqDiff, reduceCtorEq, decide_true, decide_false, Bool.not_true, Bool.not_false, List.map_cons, List.map_nil, List.nil_append, List.append_nil, Option.map_some, Option.map_none, if_true, if_false, true_and, and_true, Int.reduceEq, Int.reduceLT, Int.reduceLE, Int.reduceNeg, Nat.reduceAdd, Nat.reduceLeDiff, Bool.true_eq_false, Bool.false_eq_true, beq_self_eq_true, nilckA, bne, Bool.not_eq_true']
  exact ⟨hx3, ho2⟩

/-- frame.Wrap -/
theorem p18 {H : AHeap} {a : Option (Nat × Nat)} {c : Option Nat} {bs : List UInt8} (h : SE eByte H a bs.length c bs) (hl : bs.length ≤ 4096) : PF T 18 [.slice a bs.length c] H fun r H' => ∃ v, r = .tup [v, .int .i64 0] ∧ Own eByte H.length H' v (putL bs.length ++ bs) := by
  refine PF_code rfl _ _ _ ?_
  simp only [a18]
  simp (disch := first | omega | assumption | (simp only [List.length_cons, List.length_nil, len_newRow, len_set] <;> omega) | fail) only [eq_self, if_pos, if_neg, binStr_eql, binStr_neq, dec_t, dec_f, w64, wu64, wu8, Int.toNat_natCast, rQ_ret, rQ_norm, wQ_ret, wQ_norm, cutQ_norm, cutQ_exit, cutQ_ret, rngQ_norm, rngQ_ret, rngQ_exit, Nat.mul_one, loadA_new_eq, loadA_new_ne, loadA_set_eq, loadA_set_ne, hOf_new_eq, hOf_new_ne, hOf_set_eq, hOf_set_ne, wrRow_new_eq, wrRow_new_ne, lower_ge, lower_none, len_newRow, len_set, AV.undef, unA, qs, qb, qe, qi, Int.reduceToNat, Nat.reduceMul, List.getElem?_cons_succ, List.getElem?_cons_zero, false_implies, true_implies, forall_const, implies_true, Nat.lt_add_one, Nat.min_eq_left, Nat.le_add_right, qc, fillA, evParts, repCells, splice, partA, List.length_cons, List.length_nil, List.take_succ_cons, List.take_zero, List.drop_succ_cons, List.drop_zero, List.cons_append, Option.bind_some, Nat.add_zero, Nat.zero_add, List.drop_nil, List.take_nil, Nat.le_refl, Nat.min_self, qv, qu, pureStep, memStep, WC_look, condQ_true, condQ_false, WO_gd, gdQ_tt, gdQ_ff, gdQ_tf, gdQ_ft, gdQ_u, resOf, resAll, resA, wp_some, kv_none, ↓reduceIte, Nat.reduceEqDiff, reduceCtorEq, decide_true, decide_false, Bool.not_true, Bool.not_false, List.map_cons, List.map_nil, List.nil_append, List.append_nil, Option.map_some, Option.map_none, if_true, if_false, true_and, and_true, Int.reduceEq, Int.reduceLT, Int.reduceLE, Int.reduceNeg, Nat.reduceAdd, Nat.reduceLeDiff, Bool.true_eq_false, Bool.false_eq_true, beq_self_eq_true, nilckA, bne, Bool.not_eq_true']
  refine WO_callP rfl (Ext.refl _) (p57 (SE.nil eByte H) (by simp) bs.length (by omega)) ?_
  rintro v H1 hx1 hx2 ho
  rw [List.nil_append] at ho
  have hp := putL_len64 (show bs.length < 18446744073709551616 by omega)
  obtain ⟨v', H2, w, e1, o1, a1⟩ := append_own (x := .slice a bs.length c) (ys := bs) (bytes := 1) ho hx1.len rfl (h.ext hx1).src (by decide) (by simp [room]; omega)
  change appendA 1 1 _ _ _ = _ at e1
  have elo := a1.lower (Nat.le_refl H.length)
  simp (disch := first | omega | assumption | (simp only [List.length_cons, List.length_nil, len_newRow, len_set] <;> omega) | fail) only [e1, elo, eq_self, if_pos, if_neg, binStr_eql, binStr_neq, dec_t, dec_f, w64, wu64, wu8, Int.toNat_natCast, rQ_ret, rQ_norm, wQ_ret, wQ_norm, cutQ_norm, cutQ_exit, cutQ_ret, rngQ_norm, rngQ_ret, rngQ_exit, Nat.mul_one, loadA_new_eq, loadA_new_ne, loadA_set_eq, loadA_set_ne, hOf_new_eq, hOf_new_ne, hOf_set_eq, hOf_set_ne, wrRow_new_eq, wrRow_new_ne, lower_ge, lower_none, len_newRow, len_set, AV.undef, unA, qs, qb, qe, qi, Int.reduceToNat, Nat.reduceMul, List.getElem?_cons_succ, List.getElem?_cons_zero, false_implies, true_implies, forall_const, implies_true, Nat.lt_add_one, Nat.min_eq_left, Nat.le_add_right, qc, fillA, evParts, repCells, splice, partA, List.length_cons, List.length_nil, List.take_succ_cons, List.take_zero, List.drop_succ_cons, List.drop_zero, List.cons_append, Option.bind_some, Nat.add_zero, Nat.zero_add, List.drop_nil, List.take_nil, Nat.le_refl, Nat.min_self, qv, qu, pureStep, memStep, WC_look, condQ_true, condQ_false, WO_gd, gdQ_tt, gdQ_ff, gdQ_tf, gdQ_ft, gdQ_u, resOf, resAll, resA, wp_some, kv_none, ↓reduceIte, Nat.reduceEqDiff, reduceCtorEq, decide_true, decide_false, Bool.not_true, Bool.not_false, List.map_cons, List.map_nil, List.nil_append, List.append_nil, Option.map_some, Option.map_none, if_true, if_false, true_and, and_true, Int.reduceEq, Int.reduceLT, Int.reduceLE, Int.reduceNeg, Nat.reduceAdd, Nat.reduceLeDiff, Bool.true_eq_false, Bool.false_eq_true, beq_self_eq_true, nilckA, bne, Bool.not_eq_true']
  exact ⟨a1.ext hx1 ho.ge, _, rfl, o1⟩

theorem encInts_len (l : List Int) (h : ∀ n, n ∈ l → I64 n) : (encInts l).length ≤ 10 * l.length := by
  induction l with
  | nil => simp [encInts]
  | cons n l ih =>
    rw [encInts_cons, List.length_append, List.length_cons]
    have := putL_len64 (zig_lt (h n List.mem_cons_self))
    have := ih (fun m hm => h m (List.mem_cons_of_mem _ hm))
    omega

def encOut (lo : Nat) (H : AHeap) (r : AV) (m : Msg) : Prop :=
  if mright m = true then ∃ v, r = .tup [v, .int .i64 0] ∧ Own eByte lo H v (encM m) else r = .tup [.slice none 0 none, .int .i64 1]

set_option maxHeartbeats 1000000 in
/-- message.Encode -/
theorem p16 {H : AHeap} {v : AV} {m : Msg} (h : MV H v m) (hl : m.text.length ≤ 1000000) (hI : ∀ n, n ∈ m.l → I64 n) : PF T 16 [v] H fun r H' => encOut H.length H' r m := by
  have hmv := h
  obtain ⟨a, n, c, rfl, hs⟩ := h.ex
  obtain rfl := hs.n
  refine PF_code rfl _ _ _ ?_
  simp only [a16]
  simp (disch := first | omega | assumption | (simp only [List.length_cons, List.length_nil, len_newRow, len_set] <;> omega) | fail) only [eq_self, if_pos, if_neg, binStr_eql, binStr_neq, dec_t, dec_f, w64, wu64, wu8, Int.toNat_natCast, rQ_ret, rQ_norm, wQ_ret, wQ_norm, cutQ_norm, cutQ_exit, cutQ_ret, rngQ_norm, rngQ_ret, rngQ_exit, Nat.mul_one, loadA_new_eq, loadA_new_ne, loadA_set_eq, loadA_set_ne, hOf_new_eq, hOf_new_ne, hOf_set_eq, hOf_set_ne, wrRow_new_eq, wrRow_new_ne, lower_ge, lower_none, len_newRow, len_set, AV.undef, unA, qs, qb, qe, qi, Int.reduceToNat, Nat.reduceMul, List.getElem?_cons_succ, List.getElem?_cons_zero, false_implies, true_implies, forall_const, implies_true, Nat.lt_add_one, Nat.min_eq_left, Nat.le_add_right, qc, fillA, evParts, repCells, splice, partA, List.length_cons, List.length_nil, List.take_succ_cons, List.take_zero, List.drop_succ_cons, List.drop_zero, List.cons_append, Option.bind_some, Nat.add_zero, Nat.zero_add, List.drop_nil, List.take_nil, Nat.le_refl, Nat.min_self, qv, qu, pureStep, memStep, WC_look, condQ_true, condQ_false, WO_gd, gdQ_tt, gdQ_ff, gdQ_tf, gdQ_ft, gdQ_u, resOf, resAll, resA, wp_some, kv_none, ↓reduceIte, Nat.reduceEqDiff, reduceCtorEq, decide_true, decide_false, Bool.not_true, Bool.not_false, List.map_cons, List.map_nil, List.nil_append, List.append_nil, Option.map_some, Option.map_none, if_true, if_false, true_and, and_true, Int.reduceEq, Int.reduceLT, Int.reduceLE, Int.reduceNeg, Nat.reduceAdd, Nat.reduceLeDiff, Bool.true_eq_false, Bool.false_eq_true, beq_self_eq_true, nilckA, bne, Bool.not_eq_true']
  refine WO_callP rfl (Ext.refl _).nr (p17 (hmv.ext (Ext.refl _).nr) (by omega)) ?_
  rintro v H1 hx1 hx2 rfl
  have r1 : hOf H1 H.length = some ⟨[.int .i64 m.kind, .slice a m.l.length c, .str m.text], true, 0⟩ := hx2.row _ _ (hOf_new_eq rfl _ _)
  have l1 := load_row r1
  have hlt1 := hOf_is_lt r1
  simp (disch := first | omega | assumption | (simp only [List.length_cons, List.length_nil, len_newRow, len_set] <;> omega) | fail) only [eq_self, if_pos, if_neg, binStr_eql, binStr_neq, dec_t, dec_f, w64, wu64, wu8, Int.toNat_natCast, rQ_ret, rQ_norm, wQ_ret, wQ_norm, cutQ_norm, cutQ_exit, cutQ_ret, rngQ_norm, rngQ_ret, rngQ_exit, Nat.mul_one, loadA_new_eq, loadA_new_ne, loadA_set_eq, loadA_set_ne, hOf_new_eq, hOf_new_ne, hOf_set_eq, hOf_set_ne, wrRow_new_eq, wrRow_new_ne, lower_ge, lower_none, len_newRow, len_set, AV.undef, unA, qs, qb, qe, qi, Int.reduceToNat, Nat.reduceMul, List.getElem?_cons_succ, List.getElem?_cons_zero, false_implies, true_implies, forall_const, implies_true, Nat.lt_add_one, Nat.min_eq_left, Nat.le_add_right, qc, fillA, evParts, repCells, splice, partA, List.length_cons, List.length_nil, List.take_succ_cons, List.take_zero, List.drop_succ_cons, List.drop_zero, List.cons_append, Option.bind_some, Nat.add_zero, Nat.zero_add, List.drop_nil, List.take_nil, Nat.le_refl, Nat.min_self, qv, qu, pureStep, memStep, WC_look, condQ_true, condQ_false, WO_gd, gdQ_tt, gdQ_ff, gdQ_tf, gdQ_ft, gdQ_u, resOf, resAll, resA, wp_some, kv_none, ↓reduceIte, Nat.reduceEqDiff, reduceCtorEq, decide_true, decide_false, Bool.not_true, Bool.not_false, List.map_cons, List.map_nil, List.nil_append, List.append_nil, Option.map_some, Option.map_none, if_true, if_false, true_and, and_true, Int.reduceEq, Int.reduceLT, Int.reduceLE, Int.reduceNeg, Nat.reduceAdd, Nat.reduceLeDiff, Bool.true_eq_false, Bool.false_eq_true, beq_self_eq_true, nilckA, bne, Bool.not_eq_true']
  unfold encOut
  cases hr : mright m with
  | false =>
    simp (disch := first | omega | assumption | (simp only [List.length_cons, List.length_nil, len_newRow, len_set] <;> omega) | fail) only [eq_self, if_pos, if_neg, binStr_eql, binStr_neq, dec_t, dec_f, w64, wu64, wu8, Int.toNat_natCast, rQ_ret, rQ_norm, wQ_ret, wQ_norm, cutQ_norm, cutQ_exit, cutQ_ret, rngQ_norm, rngQ_ret, rngQ_exit, Nat.mul_one, loadA_new_eq, loadA_new_ne, loadA_set_eq, loadA_set_ne, hOf_new_eq, hOf_new_ne, hOf_set_eq, hOf_set_ne, wrRow_new_eq, wrRow_new_ne, lower_ge, lower_none, len_newRow, len_set, AV.undef, unA, qs, qb, qe, qi, Int.reduceToNat, Nat.reduceMul, List.getElem?_cons_succ, List.getElem?_cons_zero, false_implies, true_implies, forall_const, implies_true, Nat.lt_add_one, Nat.min_eq_left, Nat.le_add_right, qc, fillA, evParts, repCells, splice, partA, List.length_cons, List.length_nil, List.take_succ_cons, List.take_zero, List.drop_succ_cons, List.drop_zero, List.cons_append, Option.bind_some, Nat.add_zero, Nat.zero_add, List.drop_nil, List.take_nil, Nat.le_refl, Nat.min_self, qv, qu, pureStep, memStep, WC_look, condQ_true, condQ_false, WO_gd, gdQ_tt, gdQ_ff, gdQ_tf, gdQ_ft, gdQ_u, resOf, resAll, resA, wp_some, kv_none, ↓reduceIte, Nat.reduceEqDiff, reduceCtorEq, decide_true, decide_false, Bool.not_true, Bool.not_false, List.map_cons, List.map_nil, List.nil_append, List.append_nil, Option.map_some, Option.map_none, if_true, if_false, true_and, and_true, Int.reduceEq, Int.reduceLT, Int.reduceLE, Int.reduceNeg, Nat.reduceAdd, Nat.reduceLeDiff, Bool.true_eq_false, Bool.false_eq_true, beq_self_eq_true, nilckA, bne, Bool.not_eq_true']
    first | exact ⟨hx1, rfl⟩ | simpa using hx1
  | true =>
    obtain ⟨q1, q2, q3⟩ := mright_iff m hr
    have hk := msgSize_kind q1
    have hms := msgSize_le m.kind
    have e8 : IntKind.u8.wrap m.kind = ((UInt8.ofNat m.kind.toNat).toNat : Int) := by rw [u8_nat (by omega), wu8 (by omega) (by omega)]; omega
    simp (disch := first | omega | assumption | (simp only [List.length_cons, List.length_nil, len_newRow, len_set] <;> omega) | fail) only [l1, e8, eq_self, if_pos, if_neg, binStr_eql, binStr_neq, dec_t, dec_f, w64, wu64, wu8, Int.toNat_natCast, rQ_ret, rQ_norm, wQ_ret, wQ_norm, cutQ_norm, cutQ_exit, cutQ_ret, rngQ_norm, rngQ_ret, rngQ_exit, Nat.mul_one, loadA_new_eq, loadA_new_ne, loadA_set_eq, loadA_set_ne, hOf_new_eq, hOf_new_ne, hOf_set_eq, hOf_set_ne, wrRow_new_eq, wrRow_new_ne, lower_ge, lower_none, len_newRow, len_set, AV.undef, unA, qs, qb, qe, qi, Int.reduceToNat, Nat.reduceMul, List.getElem?_cons_succ, List.getElem?_cons_zero, false_implies, true_implies, forall_const, implies_true, Nat.lt_add_one, Nat.min_eq_left, Nat.le_add_right, qc, fillA, evParts, repCells, splice, partA, List.length_cons, List.length_nil, List.take_succ_cons, List.take_zero, List.drop_succ_cons, List.drop_zero, List.cons_append, Option.bind_some, Nat.add_zero, Nat.zero_add, List.drop_nil, List.take_nil, Nat.le_refl, Nat.min_self, qv, qu, pureStep, memStep, WC_look, condQ_true, condQ_false, WO_gd, gdQ_tt, gdQ_ff, gdQ_tf, gdQ_ft, gdQ_u, resOf, resAll, resA, wp_some, kv_none, ↓reduceIte, Nat.reduceEqDiff, reduceCtorEq, decide_true, decide_false, Bool.not_true, Bool.not_false, List.map_cons, List.map_nil, List.nil_append, List.append_nil, Option.map_some, Option.map_none, if_true, if_false, true_and, and_true, Int.reduceEq, Int.reduceLT, Int.reduceLE, Int.reduceNeg, Nat.reduceAdd, Nat.reduceLeDiff, Bool.true_eq_false, Bool.false_eq_true, beq_self_eq_true, nilckA, bne, Bool.not_eq_true']
    have ho0 : Own eByte H.length (newRow H1 [.int .u8 ((UInt8.ofNat m.kind.toNat).toNat : Int)] 1) (.slice (some (H1.length, 0)) 1 none) [UInt8.ofNat m.kind.toNat] := Own.fresh eByte hx1.len [UInt8.ofNat m.kind.toNat]
    have r2 : hOf (newRow H1 [.int .u8 ((UInt8.ofNat m.kind.toNat).toNat : Int)] 1) H.length = some _ := (Ext.newRow H1 _ _).row _ _ r1
    have hx3 : Ext H (newRow H1 [.int .u8 ((UInt8.ofNat m.kind.toNat).toNat : Int)] 1) := hx1.nr
    have lb := load_row r2
    refine WC_range m.l.length (by omega) (by decide) (by decide) (by decide) (by decide) (by decide) (fun j e H' l => ∃ b bs, e 1 = .ptr (some (H.length, 0)) ∧ e 15 = .slice a m.l.length c ∧ e 4 = .slice b bs.length none ∧ bs = UInt8.ofNat m.kind.toNat :: encInts (m.l.take j) ∧ Own eByte H.length H' (.slice b bs.length none) bs ∧ Ext H H' ∧ l = H.length ∧ hOf H' H.length = some ⟨[.int .i64 m.kind, .slice a m.l.length c, .str m.text], true, 0⟩) _ _ _ rfl rfl
      ⟨some (H1.length, 0), [UInt8.ofNat m.kind.toNat], rfl, rfl, rfl, rfl, ho0, hx3, rfl, r2⟩ ?_ ?_
    · rintro j e H' l hj hi hn ⟨b, bs, k1, k15, k4, hbs, ho, hx, rfl, hrow⟩
      obtain ⟨x, hx1⟩ : ∃ x, m.l[j]? = some x := ⟨m.l[j], List.getElem?_eq_getElem hj⟩
      obtain ⟨i, o, rfl, _, lx⟩ := (hs.ext hx).at1 rfl hx1 rfl
      have hIx := hI x (List.mem_of_getElem? hx1)
      have htl : (encInts (m.l.take j)).length ≤ 10 * (m.l.take j).length := encInts_len _ (fun n hn => hI n (List.mem_of_mem_take hn))
      have hbl : bs.length ≤ 1000 := by
        rw [hbs, List.length_cons]
        rw [List.length_take] at htl; omega
      obtain ⟨b', e', sb⟩ := ho.se
      cases e'
      simp (disch := first | omega | assumption | (simp only [List.length_cons, List.length_nil, len_newRow, len_set] <;> omega) | fail) only [hi, hn, k1, k15, k4, lx, eq_self, if_pos, if_neg, binStr_eql, binStr_neq, dec_t, dec_f, w64, wu64, wu8, Int.toNat_natCast, rQ_ret, rQ_norm, wQ_ret, wQ_norm, cutQ_norm, cutQ_exit, cutQ_ret, rngQ_norm, rngQ_ret, rngQ_exit, Nat.mul_one, loadA_new_eq, loadA_new_ne, loadA_set_eq, loadA_set_ne, hOf_new_eq, hOf_new_ne, hOf_set_eq, hOf_set_ne, wrRow_new_eq, wrRow_new_ne, lower_ge, lower_none, len_newRow, len_set, AV.undef, unA, qs, qb, qe, qi, Int.reduceToNat, Nat.reduceMul, List.getElem?_cons_succ, List.getElem?_cons_zero, false_implies, true_implies, forall_const, implies_true, Nat.lt_add_one, Nat.min_eq_left, Nat.le_add_right, qc, fillA, evParts, repCells, splice, partA, List.length_cons, List.length_nil, List.take_succ_cons, List.take_zero, List.drop_succ_cons, List.drop_zero, List.cons_append, Option.bind_some, Nat.add_zero, Nat.zero_add, List.drop_nil, List.take_nil, Nat.le_refl, Nat.min_self, qv, qu, pureStep, memStep, WC_look, condQ_true, condQ_false, WO_gd, gdQ_tt, gdQ_ff, gdQ_tf, gdQ_ft, gdQ_u, resOf, resAll, resA, wp_some, kv_none, ↓reduceIte, Nat.reduceEqDiff, reduceCtorEq, decide_true, decide_false, Bool.not_true, Bool.not_false, List.map_cons, List.map_nil, List.nil_append, List.append_nil, Option.map_some, Option.map_none, if_true, if_false, true_and, and_true, Int.reduceEq, Int.reduceLT, Int.reduceLE, Int.reduceNeg, Nat.reduceAdd, Nat.reduceLeDiff, Bool.true_eq_false, Bool.false_eq_true, beq_self_eq_true, nilckA, bne, Bool.not_eq_true']
      refine WO_callP rfl hx (p56 sb (by omega) x hIx) ?_
      rintro v H2 hx4 hx5 ho2
      obtain ⟨b2, rfl, _⟩ := ho2.se
      simp (disch := first | omega | assumption | (simp only [List.length_cons, List.length_nil, len_newRow, len_set] <;> omega) | fail) only [hi, hn, k1, k15, eq_self, if_pos, if_neg, binStr_eql, binStr_neq, dec_t, dec_f, w64, wu64, wu8, Int.toNat_natCast, rQ_ret, rQ_norm, wQ_ret, wQ_norm, cutQ_norm, cutQ_exit, cutQ_ret, rngQ_norm, rngQ_ret, rngQ_exit, Nat.mul_one, loadA_new_eq, loadA_new_ne, loadA_set_eq, loadA_set_ne, hOf_new_eq, hOf_new_ne, hOf_set_eq, hOf_set_ne, wrRow_new_eq, wrRow_new_ne, lower_ge, lower_none, len_newRow, len_set, AV.undef, unA, qs, qb, qe, qi, Int.reduceToNat, Nat.reduceMul, List.getElem?_cons_succ, List.getElem?_cons_zero, false_implies, true_implies, forall_const, implies_true, Nat.lt_add_one, Nat.min_eq_left, Nat.le_add_right, qc, fillA, evParts, repCells, splice, partA, List.length_cons, List.length_nil, List.take_succ_cons, List.take_zero, List.drop_succ_cons, List.drop_zero, List.cons_append, Option.bind_some, Nat.add_zero, Nat.zero_add, List.drop_nil, List.take_nil, Nat.le_refl, Nat.min_self, qv, qu, pureStep, memStep, WC_look, condQ_true, condQ_false, WO_gd, gdQ_tt, gdQ_ff, gdQ_tf, gdQ_ft, gdQ_u, resOf, resAll, resA, wp_some, kv_none, ↓reduceIte, Nat.reduceEqDiff, reduceCtorEq, decide_true, decide_false, Bool.not_true, Bool.not_false, List.map_cons, List.map_nil, List.nil_append, List.append_nil, Option.map_some, Option.map_none, if_true, if_false, true_and, and_true, Int.reduceEq, Int.reduceLT, Int.reduceLE, Int.reduceNeg, Nat.reduceAdd, Nat.reduceLeDiff, Bool.true_eq_false, Bool.false_eq_true, beq_self_eq_true, nilckA, bne, Bool.not_eq_true']
      refine ⟨b2, bs ++ putL (zig x), rfl, ?_, ho2.lo hx.len, hx4, hx5.row _ _ hrow⟩
      rw [hbs, List.take_add_one, hx1]
      simp [encInts]
    · rintro e H' l hi hn ⟨b, bs, k1, k15, k4, hbs, ho, hx, rfl, hrow⟩
      have lrow := load_row hrow
      rw [List.take_length] at hbs
      have htl := encInts_len _ hI
      have hbl : bs.length ≤ 1000 := by rw [hbs, List.length_cons]; omega
      obtain ⟨v', H2, w, e1, o1, a1⟩ := append_own (x := .str m.text) (ys := m.text) (bytes := 1) ho hx.len rfl (by simp [srcCells, eByte_cs]; rfl) (by decide) (by simp [room]; omega)
      change appendA 1 1 _ _ _ = _ at e1
      have elo := a1.lower (Nat.le_refl H.length)
      simp (disch := first | omega | assumption | (simp only [List.length_cons, List.length_nil, len_newRow, len_set] <;> omega) | fail) only [hi, hn, k1, k15, k4, lrow, e1, elo, eq_self, if_pos, if_neg, binStr_eql, binStr_neq, dec_t, dec_f, w64, wu64, wu8, Int.toNat_natCast, rQ_ret, rQ_norm, wQ_ret, wQ_norm, cutQ_norm, cutQ_exit, cutQ_ret, rngQ_norm, rngQ_ret, rngQ_exit, Nat.mul_one, loadA_new_eq, loadA_new_ne, loadA_set_eq, loadA_set_ne, hOf_new_eq, hOf_new_ne, hOf_set_eq, hOf_set_ne, wrRow_new_eq, wrRow_new_ne, lower_ge, lower_none, len_newRow, len_set, AV.undef, unA, qs, qb, qe, qi, Int.reduceToNat, Nat.reduceMul, List.getElem?_cons_succ, List.getElem?_cons_zero, false_implies, true_implies, forall_const, implies_true, Nat.lt_add_one, Nat.min_eq_left, Nat.le_add_right, qc, fillA, evParts, repCells, splice, partA, List.length_cons, List.length_nil, List.take_succ_cons, List.take_zero, List.drop_succ_cons, List.drop_zero, List.cons_append, Option.bind_some, Nat.add_zero, Nat.zero_add, List.drop_nil, List.take_nil, Nat.le_refl, Nat.min_self, qv, qu, pureStep, memStep, WC_look, condQ_true, condQ_false, WO_gd, gdQ_tt, gdQ_ff, gdQ_tf, gdQ_ft, gdQ_u, resOf, resAll, resA, wp_some, kv_none, ↓reduceIte, Nat.reduceEqDiff, reduceCtorEq, decide_true, decide_false, Bool.not_true, Bool.not_false, List.map_cons, List.map_nil, List.nil_append, List.append_nil, Option.map_some, Option.map_none, if_true, if_false, true_and, and_true, Int.reduceEq, Int.reduceLT, Int.reduceLE, Int.reduceNeg, Nat.reduceAdd, Nat.reduceLeDiff, Bool.true_eq_false, Bool.false_eq_true, beq_self_eq_true, nilckA, bne, Bool.not_eq_true']
      refine ⟨a1.ext hx ho.ge, v', rfl, ?_⟩
      rw [hbs] at o1; exact o1
end Go.Proofs.Qq.Qqd

namespace Go.Proofs.Qq.Qqd
open Go.Proofs.Qq

theorem se_text {H : AHeap} {a : Option (Nat × Nat)} {n : Nat} {c : Option Nat} {bs : List UInt8} (h : SE eByte H a n c bs) : b2sA H (.slice a n c) = some (.str bs) := by
  have hb : ∀ xs : List UInt8, bytesOfA (eByte.cs xs) = some xs := by
    intro xs
    induction xs with
    | nil => rfl
    | cons x xs ih =>
      rw [Flat.cs_cons]
      show bytesOfA (.int .u8 x.toNat :: eByte.cs xs) = _
      simp only [bytesOfA, byteOfA, ih]
      simp
  obtain rfl := h.n
  have hsrc := h.src
  cases a with
  | none =>
    have : eByte.cs bs = [] := h.at_
    have h0 : bs = [] := by
      apply List.eq_nil_of_length_eq_zero
      have := eByte.cs_len bs
      simp_all [eByte]
    rw [h0]; rfl
  | some p =>
    have e : srcCells H 1 bs.length (.slice (some p) bs.length c) = some (eByte.cs bs) := hsrc
    unfold b2sA
    simp only [e, hb]

/-- What decoding comes to, as values: the kind, the slice, the text, the error. -/
theorem decOut_val {lo : Nat} {H : AHeap} {r : AV} {o : Option Msg} (h : decOut lo H r o) : ∃ (m : Msg) (a : Option (Nat × Nat)) (e : Int), r = .tup [.agg [.int .i64 m.kind, .slice a m.l.length none, .str m.text], .int .i64 e] ∧ Own eInt lo H (.slice a m.l.length none) m.l ∧
    ((o = some m ∧ e = 0) ∨ (o = none ∧ m = ⟨0, [], []⟩ ∧ e = 2)) := by
  cases o with
  | none =>
    simp only [decOut] at h
    exact ⟨⟨0, [], []⟩, none, 2, h, Own.nil _ _ _, .inr ⟨rfl, rfl, rfl⟩⟩
  | some m =>
    obtain ⟨sl, h1, h2⟩ := h
    obtain ⟨a, rfl, _⟩ := h2.se
    exact ⟨m, a, 0, h1, h2, .inl ⟨rfl, rfl⟩⟩

/-- Its owner writes over the numbers. -/
theorem spoil_step {lo : Nat} {H : AHeap} {a : Option (Nat × Nat)} {xs : List Int} (h : Own eInt lo H (.slice a xs.length none) xs) {k : Nat} (hk : k < xs.length) :
    ∃ i, a = some (i, 0) ∧ lo ≤ i ∧ i < H.length ∧ ∃ x, wrRow H i k [.int .i64 (-7)] = some (List.set H i (.row x)) ∧ ∃ ys : List Int, ys.length = xs.length ∧ Own eInt lo (List.set H i (.row x)) (.slice a ys.length none) ys := by
  rcases h with ⟨h1, h2⟩ | ⟨i, tail, h1, h2, h3⟩
  · subst h2; simp at hk
  · cases h1
    have hcl : (eInt.cs xs).length = xs.length := by rw [eInt.cs_len]; simp [eInt]
    have hl := hOf_is_lt h3
    refine ⟨i, rfl, h2, hl, _, wr_at h3 rfl k _ (by simp [hcl]; omega), xs.set k (-7), by simp, .inr ⟨i, tail, rfl, h2, ?_⟩⟩
    rw [hOf_set_eq rfl hl]
    congr 2
    unfold splice
    have hset : ∀ (ys : List Int) (k : Nat), eInt.cs (ys.set k (-7)) = (eInt.cs ys).set k (.int .i64 (-7)) := by
      intro ys
      induction ys with
      | nil => intro k; rfl
      | cons y ys ih =>
        intro k
        cases k with
        | zero => rfl
        | succ k => rw [List.set_cons_succ, Flat.cs_cons, ih]; rfl
    rw [hset, List.set_eq_take_append_cons_drop, if_pos (by omega), List.take_append_of_le_length (by omega)]
    simp only [List.length_cons, List.length_nil, List.append_assoc, List.cons_append, List.nil_append]
    rw [List.drop_append_of_le_length (by omega)]

theorem decM_len {bs : List UInt8} {m : Msg} (h : decM bs = some m) : m.l.length ≤ 10 := by
  cases bs with
  | nil => cases h
  | cons b bs' =>
    cases hr : rdInts (b :: bs') (msgSize b.toNat).1.toNat 1 with
    | none => rw [decM_none b bs' hr] at h; cases h
    | some q =>
      obtain ⟨l, q⟩ := q
      rw [decM_some b bs' l q hr] at h
      split at h
      · simp only [Option.some.injEq] at h; subst h
        have := rdInts_range _ _ _ _ _ (by simp; omega) hr
        have := msgSize_le (b.toNat : Int)
        simp only []
        omega
      · cases h

set_option maxHeartbeats 4000000 in
/-- barrowlaw12.MessageReads -/
theorem p3 {H : AHeap} {a : Option (Nat × Nat)} {c : Option Nat} {bs : List UInt8} (h : SE eByte H a bs.length c bs) (hl : bs.length ≤ maxLen) : PF T 3 [.slice a bs.length c] H fun r _ => r = .bool true := by
  refine PF_code rfl _ _ _ ?_
  simp only [a3]
  simp (disch := first | omega | assumption | (simp only [List.length_cons, List.length_nil, len_newRow, len_set] <;> omega) | fail) only [eq_self, if_pos, if_neg, binStr_eql, binStr_neq, dec_t, dec_f, w64, wu64, wu8, Int.toNat_natCast, rQ_ret, rQ_norm, wQ_ret, wQ_norm, cutQ_norm, cutQ_exit, cutQ_ret, rngQ_norm, rngQ_ret, rngQ_exit, Nat.mul_one, loadA_new_eq, loadA_new_ne, loadA_set_eq, loadA_set_ne, hOf_new_eq, hOf_new_ne, hOf_set_eq, hOf_set_ne, wrRow_new_eq, wrRow_new_ne, lower_ge, lower_none, len_newRow, len_set, AV.undef, unA, qs, qb, qe, qi, Int.reduceToNat, Nat.reduceMul, List.getElem?_cons_succ, List.getElem?_cons_zero, false_implies, true_implies, forall_const, implies_true, Nat.lt_add_one, Nat.min_eq_left, Nat.le_add_right, qc, fillA, evParts, repCells, splice, partA, List.length_cons, List.length_nil, List.take_succ_cons, List.take_zero, List.drop_succ_cons, List.drop_zero, List.cons_append, Option.bind_some, Nat.add_zero, Nat.zero_add, List.drop_nil, List.take_nil, Nat.le_refl, Nat.min_self, qv, qu, pureStep, memStep, WC_look, condQ_true, condQ_false, WO_gd, gdQ_tt, gdQ_ff, gdQ_tf, gdQ_ft, gdQ_u, resOf, resAll, resA, wp_some, kv_none, ↓reduceIte, Nat.reduceEqDiff, reduceCtorEq, decide_true, decide_false, Bool.not_true, Bool.not_false, List.map_cons, List.map_nil, List.nil_append, List.append_nil, Option.map_some, Option.map_none, if_true, if_false, true_and, and_true, Int.reduceEq, Int.reduceLT, Int.reduceLE, Int.reduceNeg, Nat.reduceAdd, Nat.reduceLeDiff, Bool.true_eq_false, Bool.false_eq_true, beq_self_eq_true, nilckA, bne, Bool.not_eq_true']
  refine WO_callP rfl (Ext.refl _) (closed_run rfl _) ?_
  rintro v _ _ _ ⟨rfl, rfl⟩
  simp (disch := first | omega | assumption | (simp only [List.length_cons, List.length_nil, len_newRow, len_set] <;> omega) | fail) only [eq_self, if_pos, if_neg, binStr_eql, binStr_neq, dec_t, dec_f, w64, wu64, wu8, Int.toNat_natCast, rQ_ret, rQ_norm, wQ_ret, wQ_norm, cutQ_norm, cutQ_exit, cutQ_ret, rngQ_norm, rngQ_ret, rngQ_exit, Nat.mul_one, loadA_new_eq, loadA_new_ne, loadA_set_eq, loadA_set_ne, hOf_new_eq, hOf_new_ne, hOf_set_eq, hOf_set_ne, wrRow_new_eq, wrRow_new_ne, lower_ge, lower_none, len_newRow, len_set, AV.undef, unA, qs, qb, qe, qi, Int.reduceToNat, Nat.reduceMul, List.getElem?_cons_succ, List.getElem?_cons_zero, false_implies, true_implies, forall_const, implies_true, Nat.lt_add_one, Nat.min_eq_left, Nat.le_add_right, qc, fillA, evParts, repCells, splice, partA, List.length_cons, List.length_nil, List.take_succ_cons, List.take_zero, List.drop_succ_cons, List.drop_zero, List.cons_append, Option.bind_some, Nat.add_zero, Nat.zero_add, List.drop_nil, List.take_nil, Nat.le_refl, Nat.min_self, qv, qu, pureStep, memStep, WC_look, condQ_true, condQ_false, WO_gd, gdQ_tt, gdQ_ff, gdQ_tf, gdQ_ft, gdQ_u, resOf, resAll, resA, wp_some, kv_none, ↓reduceIte, Nat.reduceEqDiff, reduceCtorEq, decide_true, decide_false, Bool.not_true, Bool.not_false, List.map_cons, List.map_nil, List.nil_append, List.append_nil, Option.map_some, Option.map_none, if_true, if_false, true_and, and_true, Int.reduceEq, Int.reduceLT, Int.reduceLE, Int.reduceNeg, Nat.reduceAdd, Nat.reduceLeDiff, Bool.true_eq_false, Bool.false_eq_true, beq_self_eq_true, nilckA, bne, Bool.not_eq_true']
  refine WC_dec (fun g => ?_) (fun g => ?_)
  · simp (disch := first | omega | assumption | (simp only [List.length_cons, List.length_nil, len_newRow, len_set] <;> omega) | fail) only [eq_self, if_pos, if_neg, binStr_eql, binStr_neq, dec_t, dec_f, w64, wu64, wu8, Int.toNat_natCast, rQ_ret, rQ_norm, wQ_ret, wQ_norm, cutQ_norm, cutQ_exit, cutQ_ret, rngQ_norm, rngQ_ret, rngQ_exit, Nat.mul_one, loadA_new_eq, loadA_new_ne, loadA_set_eq, loadA_set_ne, hOf_new_eq, hOf_new_ne, hOf_set_eq, hOf_set_ne, wrRow_new_eq, wrRow_new_ne, lower_ge, lower_none, len_newRow, len_set, AV.undef, unA, qs, qb, qe, qi, Int.reduceToNat, Nat.reduceMul, List.getElem?_cons_succ, List.getElem?_cons_zero, false_implies, true_implies, forall_const, implies_true, Nat.lt_add_one, Nat.min_eq_left, Nat.le_add_right, qc, fillA, evParts, repCells, splice, partA, List.length_cons, List.length_nil, List.take_succ_cons, List.take_zero, List.drop_succ_cons, List.drop_zero, List.cons_append, Option.bind_some, Nat.add_zero, Nat.zero_add, List.drop_nil, List.take_nil, Nat.le_refl, Nat.min_self, qv, qu, pureStep, memStep, WC_look, condQ_true, condQ_false, WO_gd, gdQ_tt, gdQ_ff, gdQ_tf, gdQ_ft, gdQ_u, resOf, resAll, resA, wp_some, kv_none, ↓reduceIte, Nat.reduceEqDiff, reduceCtorEq, decide_true, decide_false, Bool.not_true, Bool.not_false, List.map_cons, List.map_nil, List.nil_append, List.append_nil, Option.map_some, Option.map_none, if_true, if_false, true_and, and_true, Int.reduceEq, Int.reduceLT, Int.reduceLE, Int.reduceNeg, Nat.reduceAdd, Nat.reduceLeDiff, Bool.true_eq_false, Bool.false_eq_true, beq_self_eq_true, nilckA, bne, Bool.not_eq_true']
    exact Ext.refl _
  have hl2 : bs.length ≤ 2048 := by omega
  simp (disch := first | omega | assumption | (simp only [List.length_cons, List.length_nil, len_newRow, len_set] <;> omega) | fail) only [eq_self, if_pos, if_neg, binStr_eql, binStr_neq, dec_t, dec_f, w64, wu64, wu8, Int.toNat_natCast, rQ_ret, rQ_norm, wQ_ret, wQ_norm, cutQ_norm, cutQ_exit, cutQ_ret, rngQ_norm, rngQ_ret, rngQ_exit, Nat.mul_one, loadA_new_eq, loadA_new_ne, loadA_set_eq, loadA_set_ne, hOf_new_eq, hOf_new_ne, hOf_set_eq, hOf_set_ne, wrRow_new_eq, wrRow_new_ne, lower_ge, lower_none, len_newRow, len_set, AV.undef, unA, qs, qb, qe, qi, Int.reduceToNat, Nat.reduceMul, List.getElem?_cons_succ, List.getElem?_cons_zero, false_implies, true_implies, forall_const, implies_true, Nat.lt_add_one, Nat.min_eq_left, Nat.le_add_right, qc, fillA, evParts, repCells, splice, partA, List.length_cons, List.length_nil, List.take_succ_cons, List.take_zero, List.drop_succ_cons, List.drop_zero, List.cons_append, Option.bind_some, Nat.add_zero, Nat.zero_add, List.drop_nil, List.take_nil, Nat.le_refl, Nat.min_self, qv, qu, pureStep, memStep, WC_look, condQ_true, condQ_false, WO_gd, gdQ_tt, gdQ_ff, gdQ_tf, gdQ_ft, gdQ_u, resOf, resAll, resA, wp_some, kv_none, ↓reduceIte, Nat.reduceEqDiff, reduceCtorEq, decide_true, decide_false, Bool.not_true, Bool.not_false, List.map_cons, List.map_nil, List.nil_append, List.append_nil, Option.map_some, Option.map_none, if_true, if_false, true_and, and_true, Int.reduceEq, Int.reduceLT, Int.reduceLE, Int.reduceNeg, Nat.reduceAdd, Nat.reduceLeDiff, Bool.true_eq_false, Bool.false_eq_true, beq_self_eq_true, nilckA, bne, Bool.not_eq_true']
  refine WO_callP rfl (Ext.refl _) (p12 h (by omega)) ?_
  rintro v H1 hx1 _ hb
  obtain ⟨mb, ab, eb, rfl, ob, hbo⟩ := decOut_val hb
  have hlen1 := hx1.len
  simp (disch := first | omega | assumption | (simp only [List.length_cons, List.length_nil, len_newRow, len_set] <;> omega) | fail) only [eq_self, if_pos, if_neg, binStr_eql, binStr_neq, dec_t, dec_f, w64, wu64, wu8, Int.toNat_natCast, rQ_ret, rQ_norm, wQ_ret, wQ_norm, cutQ_norm, cutQ_exit, cutQ_ret, rngQ_norm, rngQ_ret, rngQ_exit, Nat.mul_one, loadA_new_eq, loadA_new_ne, loadA_set_eq, loadA_set_ne, hOf_new_eq, hOf_new_ne, hOf_set_eq, hOf_set_ne, wrRow_new_eq, wrRow_new_ne, lower_ge, lower_none, len_newRow, len_set, AV.undef, unA, qs, qb, qe, qi, Int.reduceToNat, Nat.reduceMul, List.getElem?_cons_succ, List.getElem?_cons_zero, false_implies, true_implies, forall_const, implies_true, Nat.lt_add_one, Nat.min_eq_left, Nat.le_add_right, qc, fillA, evParts, repCells, splice, partA, List.length_cons, List.length_nil, List.take_succ_cons, List.take_zero, List.drop_succ_cons, List.drop_zero, List.cons_append, Option.bind_some, Nat.add_zero, Nat.zero_add, List.drop_nil, List.take_nil, Nat.le_refl, Nat.min_self, qv, qu, pureStep, memStep, WC_look, condQ_true, condQ_false, WO_gd, gdQ_tt, gdQ_ff, gdQ_tf, gdQ_ft, gdQ_u, resOf, resAll, resA, wp_some, kv_none, ↓reduceIte, Nat.reduceEqDiff, reduceCtorEq, decide_true, decide_false, Bool.not_true, Bool.not_false, List.map_cons, List.map_nil, List.nil_append, List.append_nil, Option.map_some, Option.map_none, if_true, if_false, true_and, and_true, Int.reduceEq, Int.reduceLT, Int.reduceLE, Int.reduceNeg, Nat.reduceAdd, Nat.reduceLeDiff, Bool.true_eq_false, Bool.false_eq_true, beq_self_eq_true, nilckA, bne, Bool.not_eq_true']
  have hx2 : Ext H (newRow H1 [.int .i64 mb.kind, .slice ab mb.l.length none, .str mb.text] 0) := hx1.nr
  obtain ⟨ab', e', sb⟩ := (ob.ext (Ext.newRow H1 [.int .i64 mb.kind, .slice ab mb.l.length none, .str mb.text] 0)).se
  cases e'
  have rb : hOf (newRow H1 [.int .i64 mb.kind, .slice ab mb.l.length none, .str mb.text] 0) H1.length = some _ := hOf_new_eq rfl _ _
  generalize newRow H1 [.int .i64 mb.kind, .slice ab mb.l.length none, .str mb.text] 0 = H2 at hx2 sb rb
  refine WC_loop (fun n s => ∃ j, n = 2 - j ∧ j ≤ 2 ∧ s.env 0 = .slice a bs.length c ∧ s.env 3 = .bool true ∧ s.env 4 = .ptr (some (H1.length, 0)) ∧ s.env 5 = .int .i64 eb ∧ s.env 6 = .int .i64 ((j : Nat) : Int) ∧ Ext H2 s.heap ∧ s.low = H.length) ?_ 2 _ ⟨0, rfl, by omega, rfl, rfl, rfl, rfl, rfl, Ext.refl _, rfl⟩
  rintro n ⟨e, H', lw⟩ ⟨j, hn, hj, k0, k3, k4, k5, k6, hx, rfl⟩
  simp only [] at k0 k3 k4 k5 k6 hx
  have hxH := hx2.trans hx
  by_cases hlt : j < 2
  · -- in
    have hin0 : Own eByte H'.length (newRow H' [] 1) (.slice (some (H'.length, 0)) 0 none) ([] : List UInt8) := Own.fresh eByte (Nat.le_refl _) []
    obtain ⟨vin, H3, w, e1, o1, a1⟩ := append_own (x := .slice a bs.length c) (ys := bs) (bytes := 1) hin0 (by rw [len_newRow]; omega) rfl (h.ext (hxH.addRow [] 1)).src (by decide) (by simp [room]; omega)
    have hx3 : Ext H' H3 := a1.ext (Ext.newRow H' [] 1) (fun i o n c e => hin0.ge i o n c e)
    have elo := a1.lower (l := H.length) hxH.len
    obtain ⟨ain, rfl, sin⟩ := o1.se
    rw [List.nil_append] at sin e1 o1
    change appendA 1 1 _ _ _ = _ at e1
    simp (disch := first | omega | assumption | (simp only [List.length_cons, List.length_nil, len_newRow, len_set] <;> omega) | fail) only [k0, k3, k4, k5, k6, e1, elo, eq_self, if_pos, if_neg, binStr_eql, binStr_neq, dec_t, dec_f, w64, wu64, wu8, Int.toNat_natCast, rQ_ret, rQ_norm, wQ_ret, wQ_norm, cutQ_norm, cutQ_exit, cutQ_ret, rngQ_norm, rngQ_ret, rngQ_exit, Nat.mul_one, loadA_new_eq, loadA_new_ne, loadA_set_eq, loadA_set_ne, hOf_new_eq, hOf_new_ne, hOf_set_eq, hOf_set_ne, wrRow_new_eq, wrRow_new_ne, lower_ge, lower_none, len_newRow, len_set, AV.undef, unA, qs, qb, qe, qi, Int.reduceToNat, Nat.reduceMul, List.getElem?_cons_succ, List.getElem?_cons_zero, false_implies, true_implies, forall_const, implies_true, Nat.lt_add_one, Nat.min_eq_left, Nat.le_add_right, qc, fillA, evParts, repCells, splice, partA, List.length_cons, List.length_nil, List.take_succ_cons, List.take_zero, List.drop_succ_cons, List.drop_zero, List.cons_append, Option.bind_some, Nat.add_zero, Nat.zero_add, List.drop_nil, List.take_nil, Nat.le_refl, Nat.min_self, qv, qu, pureStep, memStep, WC_look, condQ_true, condQ_false, WO_gd, gdQ_tt, gdQ_ff, gdQ_tf, gdQ_ft, gdQ_u, resOf, resAll, resA, wp_some, kv_none, ↓reduceIte, Nat.reduceEqDiff, reduceCtorEq, decide_true, decide_false, Bool.not_true, Bool.not_false, List.map_cons, List.map_nil, List.nil_append, List.append_nil, Option.map_some, Option.map_none, if_true, if_false, true_and, and_true, Int.reduceEq, Int.reduceLT, Int.reduceLE, Int.reduceNeg, Nat.reduceAdd, Nat.reduceLeDiff, Bool.true_eq_false, Bool.false_eq_true, beq_self_eq_true, nilckA, bne, Bool.not_eq_true']
    refine WO_callP rfl (hxH.trans hx3) (p13 sin (by omega)) ?_
    rintro v H4 hx4 hx5 ha
    obtain ⟨ma, aa, ea, rfl, oa, hao⟩ := decOut_val ha
    have hEq : ma = mb ∧ ea = eb := by
      rcases hao with ⟨q1, q2⟩ | ⟨q1, q2, q3⟩ <;> rcases hbo with ⟨z1, z2⟩ | ⟨z1, z2, z3⟩
      · rw [q1] at z1; cases z1; exact ⟨rfl, by rw [q2, z2]⟩
      · rw [q1] at z1; cases z1
      · rw [q1] at z1; cases z1
      · exact ⟨by rw [q2, z2], by rw [q3, z3]⟩
    obtain ⟨rfl, rfl⟩ := hEq
    have hml : ma.l.length ≤ 10 := by
      rcases hao with ⟨q1, _⟩ | ⟨_, q2, _⟩
      · exact decM_len q1
      · rw [q2]; simp
    have hlen4 := hx4.len
    simp (disch := first | omega | assumption | (simp only [List.length_cons, List.length_nil, len_newRow, len_set] <;> omega) | fail) only [eq_self, if_pos, if_neg, binStr_eql, binStr_neq, dec_t, dec_f, w64, wu64, wu8, Int.toNat_natCast, rQ_ret, rQ_norm, wQ_ret, wQ_norm, cutQ_norm, cutQ_exit, cutQ_ret, rngQ_norm, rngQ_ret, rngQ_exit, Nat.mul_one, loadA_new_eq, loadA_new_ne, loadA_set_eq, loadA_set_ne, hOf_new_eq, hOf_new_ne, hOf_set_eq, hOf_set_ne, wrRow_new_eq, wrRow_new_ne, lower_ge, lower_none, len_newRow, len_set, AV.undef, unA, qs, qb, qe, qi, Int.reduceToNat, Nat.reduceMul, List.getElem?_cons_succ, List.getElem?_cons_zero, false_implies, true_implies, forall_const, implies_true, Nat.lt_add_one, Nat.min_eq_left, Nat.le_add_right, qc, fillA, evParts, repCells, splice, partA, List.length_cons, List.length_nil, List.take_succ_cons, List.take_zero, List.drop_succ_cons, List.drop_zero, List.cons_append, Option.bind_some, Nat.add_zero, Nat.zero_add, List.drop_nil, List.take_nil, Nat.le_refl, Nat.min_self, qv, qu, pureStep, memStep, WC_look, condQ_true, condQ_false, WO_gd, gdQ_tt, gdQ_ff, gdQ_tf, gdQ_ft, gdQ_u, resOf, resAll, resA, wp_some, kv_none, ↓reduceIte, Nat.reduceEqDiff, reduceCtorEq, decide_true, decide_false, Bool.not_true, Bool.not_false, List.map_cons, List.map_nil, List.nil_append, List.append_nil, Option.map_some, Option.map_none, if_true, if_false, true_and, and_true, Int.reduceEq, Int.reduceLT, Int.reduceLE, Int.reduceNeg, Nat.reduceAdd, Nat.reduceLeDiff, Bool.true_eq_false, Bool.false_eq_true, beq_self_eq_true, nilckA, bne, Bool.not_eq_true']
    have hx6 : Ext H3 (newRow H4 [.int .i64 ma.kind, .slice aa ma.l.length none, .str ma.text] 0) := hx5.nr
    have hx7 := hx.trans (hx3.trans hx6)
    have rb7 := hx7.row _ _ rb
    have ra : hOf (newRow H4 [.int .i64 ma.kind, .slice aa ma.l.length none, .str ma.text] 0) H4.length = some _ := hOf_new_eq rfl _ _
    have oa7 := oa.ext (Ext.newRow H4 [.int .i64 ma.kind, .slice aa ma.l.length none, .str ma.text] 0)
    have h34 := hx5.len
    have aH4 : ∀ i o n c, AV.slice aa ma.l.length none = .slice (some (i, o)) n c → i < H4.length := by
      rintro i o n c e
      rcases oa with ⟨q, _⟩ | ⟨i', tl, q, _, q3⟩
      · rw [q] at e; cases e
      · rw [q] at e; cases e; exact hOf_is_lt q3
    generalize newRow H4 [.int .i64 ma.kind, .slice aa ma.l.length none, .str ma.text] 0 = H5 at hx6 hx7 rb7 ra oa7
    have la := load_row ra
    have lb := load_row rb7
    simp (disch := first | omega | assumption | (simp only [List.length_cons, List.length_nil, len_newRow, len_set] <;> omega) | fail) only [k4, la, lb, eq_self, if_pos, if_neg, binStr_eql, binStr_neq, dec_t, dec_f, w64, wu64, wu8, Int.toNat_natCast, rQ_ret, rQ_norm, wQ_ret, wQ_norm, cutQ_norm, cutQ_exit, cutQ_ret, rngQ_norm, rngQ_ret, rngQ_exit, Nat.mul_one, loadA_new_eq, loadA_new_ne, loadA_set_eq, loadA_set_ne, hOf_new_eq, hOf_new_ne, hOf_set_eq, hOf_set_ne, wrRow_new_eq, wrRow_new_ne, lower_ge, lower_none, len_newRow, len_set, AV.undef, unA, qs, qb, qe, qi, Int.reduceToNat, Nat.reduceMul, List.getElem?_cons_succ, List.getElem?_cons_zero, false_implies, true_implies, forall_const, implies_true, Nat.lt_add_one, Nat.min_eq_left, Nat.le_add_right, qc, fillA, evParts, repCells, splice, partA, List.length_cons, List.length_nil, List.take_succ_cons, List.take_zero, List.drop_succ_cons, List.drop_zero, List.cons_append, Option.bind_some, Nat.add_zero, Nat.zero_add, List.drop_nil, List.take_nil, Nat.le_refl, Nat.min_self, qv, qu, pureStep, memStep, WC_look, condQ_true, condQ_false, WO_gd, gdQ_tt, gdQ_ff, gdQ_tf, gdQ_ft, gdQ_u, resOf, resAll, resA, wp_some, kv_none, ↓reduceIte, Nat.reduceEqDiff, reduceCtorEq, decide_true, decide_false, Bool.not_true, Bool.not_false, List.map_cons, List.map_nil, List.nil_append, List.append_nil, Option.map_some, Option.map_none, if_true, if_false, true_and, and_true, Int.reduceEq, Int.reduceLT, Int.reduceLE, Int.reduceNeg, Nat.reduceAdd, Nat.reduceLeDiff, Bool.true_eq_false, Bool.false_eq_true, beq_self_eq_true, nilckA, bne, Bool.not_eq_true']
    obtain ⟨aa', e', sa⟩ := oa7.se
    cases e'
    refine WO_callP rfl (hx2.trans hx7) (p14 (m := ma) (k := ma) ⟨_, _, _, rfl, sa⟩ ⟨_, _, _, rfl, sb.ext hx7⟩ (by omega)) ?_
    rintro v H6 hx8 hx9 rfl
    simp (disch := first | omega | assumption | (simp only [List.length_cons, List.length_nil, len_newRow, len_set] <;> omega) | fail) only [eq_self, if_pos, if_neg, binStr_eql, binStr_neq, dec_t, dec_f, w64, wu64, wu8, Int.toNat_natCast, rQ_ret, rQ_norm, wQ_ret, wQ_norm, cutQ_norm, cutQ_exit, cutQ_ret, rngQ_norm, rngQ_ret, rngQ_exit, Nat.mul_one, loadA_new_eq, loadA_new_ne, loadA_set_eq, loadA_set_ne, hOf_new_eq, hOf_new_ne, hOf_set_eq, hOf_set_ne, wrRow_new_eq, wrRow_new_ne, lower_ge, lower_none, len_newRow, len_set, AV.undef, unA, qs, qb, qe, qi, Int.reduceToNat, Nat.reduceMul, List.getElem?_cons_succ, List.getElem?_cons_zero, false_implies, true_implies, forall_const, implies_true, Nat.lt_add_one, Nat.min_eq_left, Nat.le_add_right, qc, fillA, evParts, repCells, splice, partA, List.length_cons, List.length_nil, List.take_succ_cons, List.take_zero, List.drop_succ_cons, List.drop_zero, List.cons_append, Option.bind_some, Nat.add_zero, Nat.zero_add, List.drop_nil, List.take_nil, Nat.le_refl, Nat.min_self, qv, qu, pureStep, memStep, WC_look, condQ_true, condQ_false, WO_gd, gdQ_tt, gdQ_ff, gdQ_tf, gdQ_ft, gdQ_u, resOf, resAll, resA, wp_some, kv_none, ↓reduceIte, Nat.reduceEqDiff, reduceCtorEq, decide_true, decide_false, Bool.not_true, Bool.not_false, List.map_cons, List.map_nil, List.nil_append, List.append_nil, Option.map_some, Option.map_none, if_true, if_false, true_and, and_true, Int.reduceEq, Int.reduceLT, Int.reduceLE, Int.reduceNeg, Nat.reduceAdd, Nat.reduceLeDiff, Bool.true_eq_false, Bool.false_eq_true, beq_self_eq_true, nilckA, bne, Bool.not_eq_true']
    have hx10 : Ext H3 H6 := hx6.trans hx9
    refine WC_loop (fun n s => ∃ k, ∃ ys : List Int, n = ma.l.length - k ∧ k ≤ ma.l.length ∧ ys.length = ma.l.length ∧ s.env 0 = .slice a bs.length c ∧ s.env 3 = .bool true ∧ s.env 4 = .ptr (some (H1.length, 0)) ∧ s.env 5 = .int .i64 ea ∧ s.env 6 = .int .i64 ((j : Nat) : Int) ∧
      s.env 7 = .slice ain bs.length none ∧ s.env 8 = .ptr (some (H4.length, 0)) ∧ s.env 9 = .int .i64 ea ∧ s.env 10 = .bool true ∧ s.env 11 = .int .i64 (k : Int) ∧ Ext H3 s.heap ∧ s.low = H.length ∧
      hOf s.heap H4.length = some ⟨[.int .i64 ma.kind, .slice aa ma.l.length none, .str ma.text], true, 0⟩ ∧ Own eInt H3.length s.heap (.slice aa ys.length none) ys) ?_ ma.l.length _
      ⟨0, ma.l, rfl, by omega, rfl, k0, k3, k4, k5, k6, rfl, rfl, rfl, rfl, rfl, hx10, rfl, hx9.row _ _ ra, oa7.ext hx9⟩
    rintro n ⟨e, Hc, lw⟩ ⟨k, ys, hn, hk, hyl, k0, k3, k4, k5, k6, k7, k8, k9, k10, k11, hxc, rfl, rac, oac⟩
    simp only [] at k0 k3 k4 k5 k6 k7 k8 k9 k10 k11 hxc rac oac
    have lac := load_row rac
    by_cases hkl : k < ma.l.length
    · obtain ⟨i, rfl, g1, g2, x, g3, ys', g4, g5⟩ := spoil_step oac (k := k) (by omega)
      have hi4 := aH4 i 0 _ _ rfl
      have hlac := hOf_is_lt rac
      have hxl := hxH.len
      have h33 := hx3.len
      simp (disch := first | omega | assumption | (simp only [List.length_cons, List.length_nil, len_newRow, len_set] <;> omega) | fail) only [k0, k3, k4, k5, k6, k7, k8, k9, k10, k11, lac, g3, eq_self, if_pos, if_neg, binStr_eql, binStr_neq, dec_t, dec_f, w64, wu64, wu8, Int.toNat_natCast, rQ_ret, rQ_norm, wQ_ret, wQ_norm, cutQ_norm, cutQ_exit, cutQ_ret, rngQ_norm, rngQ_ret, rngQ_exit, Nat.mul_one, loadA_new_eq, loadA_new_ne, loadA_set_eq, loadA_set_ne, hOf_new_eq, hOf_new_ne, hOf_set_eq, hOf_set_ne, wrRow_new_eq, wrRow_new_ne, lower_ge, lower_none, len_newRow, len_set, AV.undef, unA, qs, qb, qe, qi, Int.reduceToNat, Nat.reduceMul, List.getElem?_cons_succ, List.getElem?_cons_zero, false_implies, true_implies, forall_const, implies_true, Nat.lt_add_one, Nat.min_eq_left, Nat.le_add_right, qc, fillA, evParts, repCells, splice, partA, List.length_cons, List.length_nil, List.take_succ_cons, List.take_zero, List.drop_succ_cons, List.drop_zero, List.cons_append, Option.bind_some, Nat.add_zero, Nat.zero_add, List.drop_nil, List.take_nil, Nat.le_refl, Nat.min_self, qv, qu, pureStep, memStep, WC_look, condQ_true, condQ_false, WO_gd, gdQ_tt, gdQ_ff, gdQ_tf, gdQ_ft, gdQ_u, resOf, resAll, resA, wp_some, kv_none, ↓reduceIte, Nat.reduceEqDiff, reduceCtorEq, decide_true, decide_false, Bool.not_true, Bool.not_false, List.map_cons, List.map_nil, List.nil_append, List.append_nil, Option.map_some, Option.map_none, if_true, if_false, true_and, and_true, Int.reduceEq, Int.reduceLT, Int.reduceLE, Int.reduceNeg, Nat.reduceAdd, Nat.reduceLeDiff, Bool.true_eq_false, Bool.false_eq_true, beq_self_eq_true, nilckA, bne, Bool.not_eq_true']
      refine ⟨_, by omega, k + 1, ys', rfl, by omega, by omega, rfl, hxc.set g1 _, rac, g5⟩
    · have hxcH := hxH.trans (hx3.trans hxc)
      have t1 := se_text (sin.ext hxc)
      have t2 := se_text (h.ext hxcH)
      simp (disch := first | omega | assumption | (simp only [List.length_cons, List.length_nil, len_newRow, len_set] <;> omega) | fail) only [k0, k3, k4, k5, k6, k7, k8, k9, k10, k11, lac, t1, t2, eq_self, if_pos, if_neg, binStr_eql, binStr_neq, dec_t, dec_f, w64, wu64, wu8, Int.toNat_natCast, rQ_ret, rQ_norm, wQ_ret, wQ_norm, cutQ_norm, cutQ_exit, cutQ_ret, rngQ_norm, rngQ_ret, rngQ_exit, Nat.mul_one, loadA_new_eq, loadA_new_ne, loadA_set_eq, loadA_set_ne, hOf_new_eq, hOf_new_ne, hOf_set_eq, hOf_set_ne, wrRow_new_eq, wrRow_new_ne, lower_ge, lower_none, len_newRow, len_set, AV.undef, unA, qs, qb, qe, qi, Int.reduceToNat, Nat.reduceMul, List.getElem?_cons_succ, List.getElem?_cons_zero, false_implies, true_implies, forall_const, implies_true, Nat.lt_add_one, Nat.min_eq_left, Nat.le_add_right, qc, fillA, evParts, repCells, splice, partA, List.length_cons, List.length_nil, List.take_succ_cons, List.take_zero, List.drop_succ_cons, List.drop_zero, List.cons_append, Option.bind_some, Nat.add_zero, Nat.zero_add, List.drop_nil, List.take_nil, Nat.le_refl, Nat.min_self, qv, qu, pureStep, memStep, WC_look, condQ_true, condQ_false, WO_gd, gdQ_tt, gdQ_ff, gdQ_tf, gdQ_ft, gdQ_u, resOf, resAll, resA, wp_some, kv_none, ↓reduceIte, Nat.reduceEqDiff, reduceCtorEq, decide_true, decide_false, Bool.not_true, Bool.not_false, List.map_cons, List.map_nil, List.nil_append, List.append_nil, Option.map_some, Option.map_none, if_true, if_false, true_and, and_true, Int.reduceEq, Int.reduceLT, Int.reduceLE, Int.reduceNeg, Nat.reduceAdd, Nat.reduceLeDiff, Bool.true_eq_false, Bool.false_eq_true, beq_self_eq_true, nilckA, bne, Bool.not_eq_true']
      exact ⟨_, by omega, j + 1, rfl, by omega, rfl, hx.trans (hx3.trans hxc)⟩
  · simp (disch := first | omega | assumption | (simp only [List.length_cons, List.length_nil, len_newRow, len_set] <;> omega) | fail) only [k0, k3, k4, k5, k6, eq_self, if_pos, if_neg, binStr_eql, binStr_neq, dec_t, dec_f, w64, wu64, wu8, Int.toNat_natCast, rQ_ret, rQ_norm, wQ_ret, wQ_norm, cutQ_norm, cutQ_exit, cutQ_ret, rngQ_norm, rngQ_ret, rngQ_exit, Nat.mul_one, loadA_new_eq, loadA_new_ne, loadA_set_eq, loadA_set_ne, hOf_new_eq, hOf_new_ne, hOf_set_eq, hOf_set_ne, wrRow_new_eq, wrRow_new_ne, lower_ge, lower_none, len_newRow, len_set, AV.undef, unA, qs, qb, qe, qi, Int.reduceToNat, Nat.reduceMul, List.getElem?_cons_succ, List.getElem?_cons_zero, false_implies, true_implies, forall_const, implies_true, Nat.lt_add_one, Nat.min_eq_left, Nat.le_add_right, qc, fillA, evParts, repCells, splice, partA, List.length_cons, List.length_nil, List.take_succ_cons, List.take_zero, List.drop_succ_cons, List.drop_zero, List.cons_append, Option.bind_some, Nat.add_zero, Nat.zero_add, List.drop_nil, List.take_nil, Nat.le_refl, Nat.min_self, qv, qu, pureStep, memStep, WC_look, condQ_true, condQ_false, WO_gd, gdQ_tt, gdQ_ff, gdQ_tf, gdQ_ft, gdQ_u, resOf, resAll, resA, wp_some, kv_none, ↓reduceIte, Nat.reduceEqDiff, reduceCtorEq, decide_true, decide_false, Bool.not_true, Bool.not_false, List.map_cons, List.map_nil, List.nil_append, List.append_nil, Option.map_some, Option.map_none, if_true, if_false, true_and, and_true, Int.reduceEq, Int.reduceLT, Int.reduceLE, Int.reduceNeg, Nat.reduceAdd, Nat.reduceLeDiff, Bool.true_eq_false, Bool.false_eq_true, beq_self_eq_true, nilckA, bne, Bool.not_eq_true']
    exact hxH
end Go.Proofs.Qq.Qqd

namespace Go.Proofs.Qq.Qqd
open Go.Proofs.Qq

theorem mright_len {m : Msg} (h : mright m = true) : m.l.length ≤ 10 ∧ m.text.length ≤ 24 := by
  obtain ⟨q1, q2, q3⟩ := mright_iff m h
  have hms := msgSize_le m.kind
  refine ⟨by omega, ?_⟩
  rcases q3 with q | q
  · rw [q]; simp
  · unfold nameOk at q
    simp only [Bool.and_eq_true, decide_eq_true_iff] at q
    exact q.2

theorem encM_len {m : Msg} (h : mright m = true) (hI : ∀ n, n ∈ m.l → I64 n) : (encM m).length ≤ 2000 := by
  have := mright_len h
  have := encInts_len _ hI
  unfold encM
  rw [List.length_cons, List.length_append]; omega

theorem zag_I64 {u : Nat} (h : u < 18446744073709551616) : I64 (zag u) := by
  unfold zag I64
  split <;> omega
theorem rdInts_I64 (bs : List UInt8) : ∀ (k : Nat) (p : Int) (l : List Int) (q : Int), rdInts bs k p = some (l, q) → ∀ n, n ∈ l → I64 n
  | 0, p, l, q, h, n, hn => by simp [rdInts] at h; obtain ⟨rfl, rfl⟩ := h; cases hn
  | k + 1, p, l, q, h, n, hn => by
    rw [rdInts] at h
    split at h
    · split at h
      · rename_i l' q' h'
        simp only [Option.some.injEq, Prod.mk.injEq] at h
        obtain ⟨rfl, rfl⟩ := h
        rcases List.mem_cons.1 hn with rfl | hn
        · exact zag_I64 (rdU_lt bs p)
        · exact rdInts_I64 bs k _ l' q' h' n hn
      · cases h
    · cases h
theorem decM_I64 {bs : List UInt8} {m : Msg} (h : decM bs = some m) : ∀ n, n ∈ m.l → I64 n := by
  cases bs with
  | nil => cases h
  | cons b bs' =>
    cases hr : rdInts (b :: bs') (msgSize b.toNat).1.toNat 1 with
    | none => rw [decM_none b bs' hr] at h; cases h
    | some q =>
      obtain ⟨l, q⟩ := q
      rw [decM_some b bs' l q hr] at h
      split at h
      · simp only [Option.some.injEq] at h; subst h
        exact rdInts_I64 _ _ _ _ _ hr
      · cases h

theorem mv_row {H : AHeap} {lo : Nat} {m : Msg} {a : Option (Nat × Nat)} (h : Own eInt lo H (.slice a m.l.length none) m.l) : MV H (.agg [.int .i64 m.kind, .slice a m.l.length none, .str m.text]) m := by
  obtain ⟨a', e, s⟩ := h.se
  cases e
  exact ⟨_, _, _, rfl, s⟩

def tail4 : ACode := lcR (lcR (lcR (lcR (lcR (lcR (lcR a4.body))))))
def body4 : ACode := a4.body
theorem bodyE4 : a4.body = .seq (lfR a4.body) (.seq (lfR (lcR a4.body)) (.seq (lfR (lcR (lcR a4.body))) (.seq (lfR (lcR (lcR (lcR a4.body)))) (.seq (lfR (lcR (lcR (lcR (lcR a4.body))))) (.seq (lfR (lcR (lcR (lcR (lcR (lcR a4.body)))))) (.seq (lfR (lcR (lcR (lcR (lcR (lcR (lcR a4.body))))))) tail4)))))) := rfl

set_option maxHeartbeats 4000000 in
/-- barrowlaw12.MessageBack -/
theorem p4 {H : AHeap} {v : AV} {m : Msg} (hm : MV H v m) (hI : ∀ n, n ∈ m.l → I64 n) {a : Option (Nat × Nat)} {c : Option Nat} {bs : List UInt8} (h : SE eByte H a bs.length c bs) (hl : bs.length ≤ maxLen) :
    PF T 4 [v, .slice a bs.length c] H fun r _ => r = .bool true := by
  have hmv := hm
  obtain ⟨am, nm, cm, rfl, hms⟩ := hm.ex
  obtain rfl := hms.n
  refine PF_code rfl _ _ _ ?_
  rw [bodyE4]
  simp only [a4, lfR, lcR]
  simp (disch := first | omega | assumption | (simp only [List.length_cons, List.length_nil, len_newRow, len_set] <;> omega) | fail) only [eq_self, if_pos, if_neg, binStr_eql, binStr_neq, dec_t, dec_f, w64, wu64, wu8, Int.toNat_natCast, rQ_ret, rQ_norm, wQ_ret, wQ_norm, cutQ_norm, cutQ_exit, cutQ_ret, rngQ_norm, rngQ_ret, rngQ_exit, Nat.mul_one, loadA_new_eq, loadA_new_ne, loadA_set_eq, loadA_set_ne, hOf_new_eq, hOf_new_ne, hOf_set_eq, hOf_set_ne, wrRow_new_eq, wrRow_new_ne, lower_ge, lower_none, len_newRow, len_set, AV.undef, unA, qs, qb, qe, qi, Int.reduceToNat, Nat.reduceMul, List.getElem?_cons_succ, List.getElem?_cons_zero, false_implies, true_implies, forall_const, implies_true, Nat.lt_add_one, Nat.min_eq_left, Nat.le_add_right, qc, fillA, evParts, repCells, splice, partA, List.length_cons, List.length_nil, List.take_succ_cons, List.take_zero, List.drop_succ_cons, List.drop_zero, List.cons_append, Option.bind_some, Nat.add_zero, Nat.zero_add, List.drop_nil, List.take_nil, Nat.le_refl, Nat.min_self, qv, qu, pureStep, memStep, WC_look, condQ_true, condQ_false, WO_gd, gdQ_tt, gdQ_ff, gdQ_tf, gdQ_ft, gdQ_u, resOf, resAll, resA, wp_some, kv_none, ↓reduceIte, Nat.reduceEqDiff, reduceCtorEq, decide_true, decide_false, Bool.not_true, Bool.not_false, List.map_cons, List.map_nil, List.nil_append, List.append_nil, Option.map_some, Option.map_none, if_true, if_false, true_and, and_true, Int.reduceEq, Int.reduceLT, Int.reduceLE, Int.reduceNeg, Nat.reduceAdd, Nat.reduceLeDiff, Bool.true_eq_false, Bool.false_eq_true, beq_self_eq_true, nilckA, bne, Bool.not_eq_true']
  have hx0 : Ext H (newRow H [.int .i64 m.kind, .slice am m.l.length cm, .str m.text] 0) := (Ext.refl _).nr
  have r0 : hOf (newRow H [.int .i64 m.kind, .slice am m.l.length cm, .str m.text] 0) H.length = some ⟨[.int .i64 m.kind, .slice am m.l.length cm, .str m.text], true, 0⟩ := hOf_new_eq rfl _ _
  generalize newRow H [.int .i64 m.kind, .slice am m.l.length cm, .str m.text] 0 = K0 at hx0 r0
  refine WO_callP rfl hx0 (closed_run rfl _) ?_
  rintro v _ _ _ ⟨rfl, rfl⟩
  have l0 := load_row r0
  simp (disch := first | omega | assumption | (simp only [List.length_cons, List.length_nil, len_newRow, len_set] <;> omega) | fail) only [l0, eq_self, if_pos, if_neg, binStr_eql, binStr_neq, dec_t, dec_f, w64, wu64, wu8, Int.toNat_natCast, rQ_ret, rQ_norm, wQ_ret, wQ_norm, cutQ_norm, cutQ_exit, cutQ_ret, rngQ_norm, rngQ_ret, rngQ_exit, Nat.mul_one, loadA_new_eq, loadA_new_ne, loadA_set_eq, loadA_set_ne, hOf_new_eq, hOf_new_ne, hOf_set_eq, hOf_set_ne, wrRow_new_eq, wrRow_new_ne, lower_ge, lower_none, len_newRow, len_set, AV.undef, unA, qs, qb, qe, qi, Int.reduceToNat, Nat.reduceMul, List.getElem?_cons_succ, List.getElem?_cons_zero, false_implies, true_implies, forall_const, implies_true, Nat.lt_add_one, Nat.min_eq_left, Nat.le_add_right, qc, fillA, evParts, repCells, splice, partA, List.length_cons, List.length_nil, List.take_succ_cons, List.take_zero, List.drop_succ_cons, List.drop_zero, List.cons_append, Option.bind_some, Nat.add_zero, Nat.zero_add, List.drop_nil, List.take_nil, Nat.le_refl, Nat.min_self, qv, qu, pureStep, memStep, WC_look, condQ_true, condQ_false, WO_gd, gdQ_tt, gdQ_ff, gdQ_tf, gdQ_ft, gdQ_u, resOf, resAll, resA, wp_some, kv_none, ↓reduceIte, Nat.reduceEqDiff, reduceCtorEq, decide_true, decide_false, Bool.not_true, Bool.not_false, List.map_cons, List.map_nil, List.nil_append, List.append_nil, Option.map_some, Option.map_none, if_true, if_false, true_and, and_true, Int.reduceEq, Int.reduceLT, Int.reduceLE, Int.reduceNeg, Nat.reduceAdd, Nat.reduceLeDiff, Bool.true_eq_false, Bool.false_eq_true, beq_self_eq_true, nilckA, bne, Bool.not_eq_true']
  refine WO_callP rfl hx0 (p15 (hmv.ext hx0)) ?_
  rintro v H1 hx1 hx2 rfl
  cases hf : (decide (m.l.length ≤ 100) && decide (m.text.length ≤ 1024)) with
  | false =>
    simp (disch := first | omega | assumption | (simp only [List.length_cons, List.length_nil, len_newRow, len_set] <;> omega) | fail) only [eq_self, if_pos, if_neg, binStr_eql, binStr_neq, dec_t, dec_f, w64, wu64, wu8, Int.toNat_natCast, rQ_ret, rQ_norm, wQ_ret, wQ_norm, cutQ_norm, cutQ_exit, cutQ_ret, rngQ_norm, rngQ_ret, rngQ_exit, Nat.mul_one, loadA_new_eq, loadA_new_ne, loadA_set_eq, loadA_set_ne, hOf_new_eq, hOf_new_ne, hOf_set_eq, hOf_set_ne, wrRow_new_eq, wrRow_new_ne, lower_ge, lower_none, len_newRow, len_set, AV.undef, unA, qs, qb, qe, qi, Int.reduceToNat, Nat.reduceMul, List.getElem?_cons_succ, List.getElem?_cons_zero, false_implies, true_implies, forall_const, implies_true, Nat.lt_add_one, Nat.min_eq_left, Nat.le_add_right, qc, fillA, evParts, repCells, splice, partA, List.length_cons, List.length_nil, List.take_succ_cons, List.take_zero, List.drop_succ_cons, List.drop_zero, List.cons_append, Option.bind_some, Nat.add_zero, Nat.zero_add, List.drop_nil, List.take_nil, Nat.le_refl, Nat.min_self, qv, qu, pureStep, memStep, WC_look, condQ_true, condQ_false, WO_gd, gdQ_tt, gdQ_ff, gdQ_tf, gdQ_ft, gdQ_u, resOf, resAll, resA, wp_some, kv_none, ↓reduceIte, Nat.reduceEqDiff, reduceCtorEq, decide_true, decide_false, Bool.not_true, Bool.not_false, List.map_cons, List.map_nil, List.nil_append, List.append_nil, Option.map_some, Option.map_none, if_true, if_false, true_and, and_true, Int.reduceEq, Int.reduceLT, Int.reduceLE, Int.reduceNeg, Nat.reduceAdd, Nat.reduceLeDiff, Bool.true_eq_false, Bool.false_eq_true, beq_self_eq_true, nilckA, bne, Bool.not_eq_true']
    exact hx1
  | true =>
  simp (disch := first | omega | assumption | (simp only [List.length_cons, List.length_nil, len_newRow, len_set] <;> omega) | fail) only [eq_self, if_pos, if_neg, binStr_eql, binStr_neq, dec_t, dec_f, w64, wu64, wu8, Int.toNat_natCast, rQ_ret, rQ_norm, wQ_ret, wQ_norm, cutQ_norm, cutQ_exit, cutQ_ret, rngQ_norm, rngQ_ret, rngQ_exit, Nat.mul_one, loadA_new_eq, loadA_new_ne, loadA_set_eq, loadA_set_ne, hOf_new_eq, hOf_new_ne, hOf_set_eq, hOf_set_ne, wrRow_new_eq, wrRow_new_ne, lower_ge, lower_none, len_newRow, len_set, AV.undef, unA, qs, qb, qe, qi, Int.reduceToNat, Nat.reduceMul, List.getElem?_cons_succ, List.getElem?_cons_zero, false_implies, true_implies, forall_const, implies_true, Nat.lt_add_one, Nat.min_eq_left, Nat.le_add_right, qc, fillA, evParts, repCells, splice, partA, List.length_cons, List.length_nil, List.take_succ_cons, List.take_zero, List.drop_succ_cons, List.drop_zero, List.cons_append, Option.bind_some, Nat.add_zero, Nat.zero_add, List.drop_nil, List.take_nil, Nat.le_refl, Nat.min_self, qv, qu, pureStep, memStep, WC_look, condQ_true, condQ_false, WO_gd, gdQ_tt, gdQ_ff, gdQ_tf, gdQ_ft, gdQ_u, resOf, resAll, resA, wp_some, kv_none, ↓reduceIte, Nat.reduceEqDiff, reduceCtorEq, decide_true, decide_false, Bool.not_true, Bool.not_false, List.map_cons, List.map_nil, List.nil_append, List.append_nil, Option.map_some, Option.map_none, if_true, if_false, true_and, and_true, Int.reduceEq, Int.reduceLT, Int.reduceLE, Int.reduceNeg, Nat.reduceAdd, Nat.reduceLeDiff, Bool.true_eq_false, Bool.false_eq_true, beq_self_eq_true, nilckA, bne, Bool.not_eq_true']
  refine WC_dec (fun g => ?_) (fun g => ?_)
  · simp (disch := first | omega | assumption | (simp only [List.length_cons, List.length_nil, len_newRow, len_set] <;> omega) | fail) only [eq_self, if_pos, if_neg, binStr_eql, binStr_neq, dec_t, dec_f, w64, wu64, wu8, Int.toNat_natCast, rQ_ret, rQ_norm, wQ_ret, wQ_norm, cutQ_norm, cutQ_exit, cutQ_ret, rngQ_norm, rngQ_ret, rngQ_exit, Nat.mul_one, loadA_new_eq, loadA_new_ne, loadA_set_eq, loadA_set_ne, hOf_new_eq, hOf_new_ne, hOf_set_eq, hOf_set_ne, wrRow_new_eq, wrRow_new_ne, lower_ge, lower_none, len_newRow, len_set, AV.undef, unA, qs, qb, qe, qi, Int.reduceToNat, Nat.reduceMul, List.getElem?_cons_succ, List.getElem?_cons_zero, false_implies, true_implies, forall_const, implies_true, Nat.lt_add_one, Nat.min_eq_left, Nat.le_add_right, qc, fillA, evParts, repCells, splice, partA, List.length_cons, List.length_nil, List.take_succ_cons, List.take_zero, List.drop_succ_cons, List.drop_zero, List.cons_append, Option.bind_some, Nat.add_zero, Nat.zero_add, List.drop_nil, List.take_nil, Nat.le_refl, Nat.min_self, qv, qu, pureStep, memStep, WC_look, condQ_true, condQ_false, WO_gd, gdQ_tt, gdQ_ff, gdQ_tf, gdQ_ft, gdQ_u, resOf, resAll, resA, wp_some, kv_none, ↓reduceIte, Nat.reduceEqDiff, reduceCtorEq, decide_true, decide_false, Bool.not_true, Bool.not_false, List.map_cons, List.map_nil, List.nil_append, List.append_nil, Option.map_some, Option.map_none, if_true, if_false, true_and, and_true, Int.reduceEq, Int.reduceLT, Int.reduceLE, Int.reduceNeg, Nat.reduceAdd, Nat.reduceLeDiff, Bool.true_eq_false, Bool.false_eq_true, beq_self_eq_true, nilckA, bne, Bool.not_eq_true']
    exact hx1
  have hl2 : bs.length ≤ 2048 := by omega
  have hmt : m.text.length ≤ 1024 := by simp only [Bool.and_eq_true, decide_eq_true_iff] at hf; exact hf.2
  have hml : m.l.length ≤ 100 := by simp only [Bool.and_eq_true, decide_eq_true_iff] at hf; exact hf.1
  have r1 := hx2.row _ _ r0
  have l1 := load_row r1
  simp (disch := first | omega | assumption | (simp only [List.length_cons, List.length_nil, len_newRow, len_set] <;> omega) | fail) only [l1, eq_self, if_pos, if_neg, binStr_eql, binStr_neq, dec_t, dec_f, w64, wu64, wu8, Int.toNat_natCast, rQ_ret, rQ_norm, wQ_ret, wQ_norm, cutQ_norm, cutQ_exit, cutQ_ret, rngQ_norm, rngQ_ret, rngQ_exit, Nat.mul_one, loadA_new_eq, loadA_new_ne, loadA_set_eq, loadA_set_ne, hOf_new_eq, hOf_new_ne, hOf_set_eq, hOf_set_ne, wrRow_new_eq, wrRow_new_ne, lower_ge, lower_none, len_newRow, len_set, AV.undef, unA, qs, qb, qe, qi, Int.reduceToNat, Nat.reduceMul, List.getElem?_cons_succ, List.getElem?_cons_zero, false_implies, true_implies, forall_const, implies_true, Nat.lt_add_one, Nat.min_eq_left, Nat.le_add_right, qc, fillA, evParts, repCells, splice, partA, List.length_cons, List.length_nil, List.take_succ_cons, List.take_zero, List.drop_succ_cons, List.drop_zero, List.cons_append, Option.bind_some, Nat.add_zero, Nat.zero_add, List.drop_nil, List.take_nil, Nat.le_refl, Nat.min_self, qv, qu, pureStep, memStep, WC_look, condQ_true, condQ_false, WO_gd, gdQ_tt, gdQ_ff, gdQ_tf, gdQ_ft, gdQ_u, resOf, resAll, resA, wp_some, kv_none, ↓reduceIte, Nat.reduceEqDiff, reduceCtorEq, decide_true, decide_false, Bool.not_true, Bool.not_false, List.map_cons, List.map_nil, List.nil_append, List.append_nil, Option.map_some, Option.map_none, if_true, if_false, true_and, and_true, Int.reduceEq, Int.reduceLT, Int.reduceLE, Int.reduceNeg, Nat.reduceAdd, Nat.reduceLeDiff, Bool.true_eq_false, Bool.false_eq_true, beq_self_eq_true, nilckA, bne, Bool.not_eq_true']
  refine WO_callP rfl hx1 (p16 (hmv.ext hx1) (by omega) hI) ?_
  rintro v H2 hx3 hx4 he
  have r2 := hx4.row _ _ r1
  have l2 := load_row r2
  -- the second part, from any state
  have tail : ∀ (e : Env) (K : AHeap), Ext H K → e 1 = .slice a bs.length c → e 5 = .bool true → WC T tail4 ⟨e, K, H.length⟩ (rQ a4.results H fun r _ => r = .bool true) := by
    intro e K hxk k1 k5
    simp (disch := first | omega | assumption | (simp only [List.length_cons, List.length_nil, len_newRow, len_set] <;> omega) | fail) only [tail4, a4, lcR, k1, k5, eq_self, if_pos, if_neg, binStr_eql, binStr_neq, dec_t, dec_f, w64, wu64, wu8, Int.toNat_natCast, rQ_ret, rQ_norm, wQ_ret, wQ_norm, cutQ_norm, cutQ_exit, cutQ_ret, rngQ_norm, rngQ_ret, rngQ_exit, Nat.mul_one, loadA_new_eq, loadA_new_ne, loadA_set_eq, loadA_set_ne, hOf_new_eq, hOf_new_ne, hOf_set_eq, hOf_set_ne, wrRow_new_eq, wrRow_new_ne, lower_ge, lower_none, len_newRow, len_set, AV.undef, unA, qs, qb, qe, qi, Int.reduceToNat, Nat.reduceMul, List.getElem?_cons_succ, List.getElem?_cons_zero, false_implies, true_implies, forall_const, implies_true, Nat.lt_add_one, Nat.min_eq_left, Nat.le_add_right, qc, fillA, evParts, repCells, splice, partA, List.length_cons, List.length_nil, List.take_succ_cons, List.take_zero, List.drop_succ_cons, List.drop_zero, List.cons_append, Option.bind_some, Nat.add_zero, Nat.zero_add, List.drop_nil, List.take_nil, Nat.le_refl, Nat.min_self, qv, qu, pureStep, memStep, WC_look, condQ_true, condQ_false, WO_gd, gdQ_tt, gdQ_ff, gdQ_tf, gdQ_ft, gdQ_u, resOf, resAll, resA, wp_some, kv_none, ↓reduceIte, Nat.reduceEqDiff, reduceCtorEq, decide_true, decide_false, Bool.not_true, Bool.not_false, List.map_cons, List.map_nil, List.nil_append, List.append_nil, Option.map_some, Option.map_none, if_true, if_false, true_and, and_true, Int.reduceEq, Int.reduceLT, Int.reduceLE, Int.reduceNeg, Nat.reduceAdd, Nat.reduceLeDiff, Bool.true_eq_false, Bool.false_eq_true, beq_self_eq_true, nilckA, bne, Bool.not_eq_true']
    refine WO_callP rfl hxk (p13 (h.ext hxk) (by omega)) ?_
    rintro v K2 hy2 hy3 hd
    obtain ⟨md, ad, ed, rfl, od, hdo⟩ := decOut_val hd
    have hlk := hy2.len
    simp (disch := first | omega | assumption | (simp only [List.length_cons, List.length_nil, len_newRow, len_set] <;> omega) | fail) only [k1, k5, eq_self, if_pos, if_neg, binStr_eql, binStr_neq, dec_t, dec_f, w64, wu64, wu8, Int.toNat_natCast, rQ_ret, rQ_norm, wQ_ret, wQ_norm, cutQ_norm, cutQ_exit, cutQ_ret, rngQ_norm, rngQ_ret, rngQ_exit, Nat.mul_one, loadA_new_eq, loadA_new_ne, loadA_set_eq, loadA_set_ne, hOf_new_eq, hOf_new_ne, hOf_set_eq, hOf_set_ne, wrRow_new_eq, wrRow_new_ne, lower_ge, lower_none, len_newRow, len_set, AV.undef, unA, qs, qb, qe, qi, Int.reduceToNat, Nat.reduceMul, List.getElem?_cons_succ, List.getElem?_cons_zero, false_implies, true_implies, forall_const, implies_true, Nat.lt_add_one, Nat.min_eq_left, Nat.le_add_right, qc, fillA, evParts, repCells, splice, partA, List.length_cons, List.length_nil, List.take_succ_cons, List.take_zero, List.drop_succ_cons, List.drop_zero, List.cons_append, Option.bind_some, Nat.add_zero, Nat.zero_add, List.drop_nil, List.take_nil, Nat.le_refl, Nat.min_self, qv, qu, pureStep, memStep, WC_look, condQ_true, condQ_false, WO_gd, gdQ_tt, gdQ_ff, gdQ_tf, gdQ_ft, gdQ_u, resOf, resAll, resA, wp_some, kv_none, ↓reduceIte, Nat.reduceEqDiff, reduceCtorEq, decide_true, decide_false, Bool.not_true, Bool.not_false, List.map_cons, List.map_nil, List.nil_append, List.append_nil, Option.map_some, Option.map_none, if_true, if_false, true_and, and_true, Int.reduceEq, Int.reduceLT, Int.reduceLE, Int.reduceNeg, Nat.reduceAdd, Nat.reduceLeDiff, Bool.true_eq_false, Bool.false_eq_true, beq_self_eq_true, nilckA, bne, Bool.not_eq_true']
    rcases hdo with ⟨q1, rfl⟩ | ⟨q1, rfl, rfl⟩
    · have hI2 := decM_I64 q1
      obtain ⟨b1, b2⟩ := enc_dec q1
      have hln := mright_len b2
      simp (disch := first | omega | assumption | (simp only [List.length_cons, List.length_nil, len_newRow, len_set] <;> omega) | fail) only [k1, k5, eq_self, if_pos, if_neg, binStr_eql, binStr_neq, dec_t, dec_f, w64, wu64, wu8, Int.toNat_natCast, rQ_ret, rQ_norm, wQ_ret, wQ_norm, cutQ_norm, cutQ_exit, cutQ_ret, rngQ_norm, rngQ_ret, rngQ_exit, Nat.mul_one, loadA_new_eq, loadA_new_ne, loadA_set_eq, loadA_set_ne, hOf_new_eq, hOf_new_ne, hOf_set_eq, hOf_set_ne, wrRow_new_eq, wrRow_new_ne, lower_ge, lower_none, len_newRow, len_set, AV.undef, unA, qs, qb, qe, qi, Int.reduceToNat, Nat.reduceMul, List.getElem?_cons_succ, List.getElem?_cons_zero, false_implies, true_implies, forall_const, implies_true, Nat.lt_add_one, Nat.min_eq_left, Nat.le_add_right, qc, fillA, evParts, repCells, splice, partA, List.length_cons, List.length_nil, List.take_succ_cons, List.take_zero, List.drop_succ_cons, List.drop_zero, List.cons_append, Option.bind_some, Nat.add_zero, Nat.zero_add, List.drop_nil, List.take_nil, Nat.le_refl, Nat.min_self, qv, qu, pureStep, memStep, WC_look, condQ_true, condQ_false, WO_gd, gdQ_tt, gdQ_ff, gdQ_tf, gdQ_ft, gdQ_u, resOf, resAll, resA, wp_some, kv_none, ↓reduceIte, Nat.reduceEqDiff, reduceCtorEq, decide_true, decide_false, Bool.not_true, Bool.not_false, List.map_cons, List.map_nil, List.nil_append, List.append_nil, Option.map_some, Option.map_none, if_true, if_false, true_and, and_true, Int.reduceEq, Int.reduceLT, Int.reduceLE, Int.reduceNeg, Nat.reduceAdd, Nat.reduceLeDiff, Bool.true_eq_false, Bool.false_eq_true, beq_self_eq_true, nilckA, bne, Bool.not_eq_true']
      refine WO_callP rfl hy2.nr (p16 ((mv_row od).ext (Ext.newRow _ _ _)) (by omega) hI2) ?_
      rintro v K3 hy4 hy5 he2
      unfold encOut at he2
      rw [if_pos b2, b1] at he2
      obtain ⟨w, rfl, ow⟩ := he2
      obtain ⟨aw, rfl, sw⟩ := ow.se
      have t1 := se_text sw
      have t2 := se_text (h.ext hy4)
      simp (disch := first | omega | assumption | (simp only [List.length_cons, List.length_nil, len_newRow, len_set] <;> omega) | fail) only [k1, k5, t1, t2, eq_self, if_pos, if_neg, binStr_eql, binStr_neq, dec_t, dec_f, w64, wu64, wu8, Int.toNat_natCast, rQ_ret, rQ_norm, wQ_ret, wQ_norm, cutQ_norm, cutQ_exit, cutQ_ret, rngQ_norm, rngQ_ret, rngQ_exit, Nat.mul_one, loadA_new_eq, loadA_new_ne, loadA_set_eq, loadA_set_ne, hOf_new_eq, hOf_new_ne, hOf_set_eq, hOf_set_ne, wrRow_new_eq, wrRow_new_ne, lower_ge, lower_none, len_newRow, len_set, AV.undef, unA, qs, qb, qe, qi, Int.reduceToNat, Nat.reduceMul, List.getElem?_cons_succ, List.getElem?_cons_zero, false_implies, true_implies, forall_const, implies_true, Nat.lt_add_one, Nat.min_eq_left, Nat.le_add_right, qc, fillA, evParts, repCells, splice, partA, List.length_cons, List.length_nil, List.take_succ_cons, List.take_zero, List.drop_succ_cons, List.drop_zero, List.cons_append, Option.bind_some, Nat.add_zero, Nat.zero_add, List.drop_nil, List.take_nil, Nat.le_refl, Nat.min_self, qv, qu, pureStep, memStep, WC_look, condQ_true, condQ_false, WO_gd, gdQ_tt, gdQ_ff, gdQ_tf, gdQ_ft, gdQ_u, resOf, resAll, resA, wp_some, kv_none, ↓reduceIte, Nat.reduceEqDiff, reduceCtorEq, decide_true, decide_false, Bool.not_true, Bool.not_false, List.map_cons, List.map_nil, List.nil_append, List.append_nil, Option.map_some, Option.map_none, if_true, if_false, true_and, and_true, Int.reduceEq, Int.reduceLT, Int.reduceLE, Int.reduceNeg, Nat.reduceAdd, Nat.reduceLeDiff, Bool.true_eq_false, Bool.false_eq_true, beq_self_eq_true, nilckA, bne, Bool.not_eq_true']
      exact hy4
    · simp (disch := first | omega | assumption | (simp only [List.length_cons, List.length_nil, len_newRow, len_set] <;> omega) | fail) only [k1, k5, eq_self, if_pos, if_neg, binStr_eql, binStr_neq, dec_t, dec_f, w64, wu64, wu8, Int.toNat_natCast, rQ_ret, rQ_norm, wQ_ret, wQ_norm, cutQ_norm, cutQ_exit, cutQ_ret, rngQ_norm, rngQ_ret, rngQ_exit, Nat.mul_one, loadA_new_eq, loadA_new_ne, loadA_set_eq, loadA_set_ne, hOf_new_eq, hOf_new_ne, hOf_set_eq, hOf_set_ne, wrRow_new_eq, wrRow_new_ne, lower_ge, lower_none, len_newRow, len_set, AV.undef, unA, qs, qb, qe, qi, Int.reduceToNat, Nat.reduceMul, List.getElem?_cons_succ, List.getElem?_cons_zero, false_implies, true_implies, forall_const, implies_true, Nat.lt_add_one, Nat.min_eq_left, Nat.le_add_right, qc, fillA, evParts, repCells, splice, partA, List.length_cons, List.length_nil, List.take_succ_cons, List.take_zero, List.drop_succ_cons, List.drop_zero, List.cons_append, Option.bind_some, Nat.add_zero, Nat.zero_add, List.drop_nil, List.take_nil, Nat.le_refl, Nat.min_self, qv, qu, pureStep, memStep, WC_look, condQ_true, condQ_false, WO_gd, gdQ_tt, gdQ_ff, gdQ_tf, gdQ_ft, gdQ_u, resOf, resAll, resA, wp_some, kv_none, ↓reduceIte, Nat.reduceEqDiff, reduceCtorEq, decide_true, decide_false, Bool.not_true, Bool.not_false, List.map_cons, List.map_nil, List.nil_append, List.append_nil, Option.map_some, Option.map_none, if_true, if_false, true_and, and_true, Int.reduceEq, Int.reduceLT, Int.reduceLE, Int.reduceNeg, Nat.reduceAdd, Nat.reduceLeDiff, Bool.true_eq_false, Bool.false_eq_true, beq_self_eq_true, nilckA, bne, Bool.not_eq_true']
      refine WO_callP rfl hy2.nr (p19 (m := ⟨0, [], []⟩) (k := ⟨0, [], []⟩) ((mv_row od).ext (Ext.newRow _ _ _)) ⟨none, 0, none, rfl, SE.nil _ _⟩ (by simp)) ?_
      rintro v K3 hy4 hy5 rfl
      simp (disch := first | omega | assumption | (simp only [List.length_cons, List.length_nil, len_newRow, len_set] <;> omega) | fail) only [eq_self, if_pos, if_neg, binStr_eql, binStr_neq, dec_t, dec_f, w64, wu64, wu8, Int.toNat_natCast, rQ_ret, rQ_norm, wQ_ret, wQ_norm, cutQ_norm, cutQ_exit, cutQ_ret, rngQ_norm, rngQ_ret, rngQ_exit, Nat.mul_one, loadA_new_eq, loadA_new_ne, loadA_set_eq, loadA_set_ne, hOf_new_eq, hOf_new_ne, hOf_set_eq, hOf_set_ne, wrRow_new_eq, wrRow_new_ne, lower_ge, lower_none, len_newRow, len_set, AV.undef, unA, qs, qb, qe, qi, Int.reduceToNat, Nat.reduceMul, List.getElem?_cons_succ, List.getElem?_cons_zero, false_implies, true_implies, forall_const, implies_true, Nat.lt_add_one, Nat.min_eq_left, Nat.le_add_right, qc, fillA, evParts, repCells, splice, partA, List.length_cons, List.length_nil, List.take_succ_cons, List.take_zero, List.drop_succ_cons, List.drop_zero, List.cons_append, Option.bind_some, Nat.add_zero, Nat.zero_add, List.drop_nil, List.take_nil, Nat.le_refl, Nat.min_self, qv, qu, pureStep, memStep, WC_look, condQ_true, condQ_false, WO_gd, gdQ_tt, gdQ_ff, gdQ_tf, gdQ_ft, gdQ_u, resOf, resAll, resA, wp_some, kv_none, ↓reduceIte, Nat.reduceEqDiff, reduceCtorEq, decide_true, decide_false, Bool.not_true, Bool.not_false, List.map_cons, List.map_nil, List.nil_append, List.append_nil, Option.map_some, Option.map_none, if_true, if_false, true_and, and_true, Int.reduceEq, Int.reduceLT, Int.reduceLE, Int.reduceNeg, Nat.reduceAdd, Nat.reduceLeDiff, Bool.true_eq_false, Bool.false_eq_true, beq_self_eq_true, nilckA, bne, Bool.not_eq_true']
      exact hy4
  unfold encOut at he
  cases hr : mright m with
  | false =>
    rw [hr] at he
    simp only [Bool.false_eq_true, if_false] at he
    subst he
    simp (disch := first | omega | assumption | (simp only [List.length_cons, List.length_nil, len_newRow, len_set] <;> omega) | fail) only [l2, eq_self, if_pos, if_neg, binStr_eql, binStr_neq, dec_t, dec_f, w64, wu64, wu8, Int.toNat_natCast, rQ_ret, rQ_norm, wQ_ret, wQ_norm, cutQ_norm, cutQ_exit, cutQ_ret, rngQ_norm, rngQ_ret, rngQ_exit, Nat.mul_one, loadA_new_eq, loadA_new_ne, loadA_set_eq, loadA_set_ne, hOf_new_eq, hOf_new_ne, hOf_set_eq, hOf_set_ne, wrRow_new_eq, wrRow_new_ne, lower_ge, lower_none, len_newRow, len_set, AV.undef, unA, qs, qb, qe, qi, Int.reduceToNat, Nat.reduceMul, List.getElem?_cons_succ, List.getElem?_cons_zero, false_implies, true_implies, forall_const, implies_true, Nat.lt_add_one, Nat.min_eq_left, Nat.le_add_right, qc, fillA, evParts, repCells, splice, partA, List.length_cons, List.length_nil, List.take_succ_cons, List.take_zero, List.drop_succ_cons, List.drop_zero, List.cons_append, Option.bind_some, Nat.add_zero, Nat.zero_add, List.drop_nil, List.take_nil, Nat.le_refl, Nat.min_self, qv, qu, pureStep, memStep, WC_look, condQ_true, condQ_false, WO_gd, gdQ_tt, gdQ_ff, gdQ_tf, gdQ_ft, gdQ_u, resOf, resAll, resA, wp_some, kv_none, ↓reduceIte, Nat.reduceEqDiff, reduceCtorEq, decide_true, decide_false, Bool.not_true, Bool.not_false, List.map_cons, List.map_nil, List.nil_append, List.append_nil, Option.map_some, Option.map_none, if_true, if_false, true_and, and_true, Int.reduceEq, Int.reduceLT, Int.reduceLE, Int.reduceNeg, Nat.reduceAdd, Nat.reduceLeDiff, Bool.true_eq_false, Bool.false_eq_true, beq_self_eq_true, nilckA, bne, Bool.not_eq_true']
    refine WO_callP rfl hx3 (p17 (hmv.ext hx3) (by omega)) ?_
    rintro v H3 hx5 hx6 rfl
    rw [hr]
    simp (disch := first | omega | assumption | (simp only [List.length_cons, List.length_nil, len_newRow, len_set] <;> omega) | fail) only [eqA, eq_self, if_pos, if_neg, binStr_eql, binStr_neq, dec_t, dec_f, w64, wu64, wu8, Int.toNat_natCast, rQ_ret, rQ_norm, wQ_ret, wQ_norm, cutQ_norm, cutQ_exit, cutQ_ret, rngQ_norm, rngQ_ret, rngQ_exit, Nat.mul_one, loadA_new_eq, loadA_new_ne, loadA_set_eq, loadA_set_ne, hOf_new_eq, hOf_new_ne, hOf_set_eq, hOf_set_ne, wrRow_new_eq, wrRow_new_ne, lower_ge, lower_none, len_newRow, len_set, AV.undef, unA, qs, qb, qe, qi, Int.reduceToNat, Nat.reduceMul, List.getElem?_cons_succ, List.getElem?_cons_zero, false_implies, true_implies, forall_const, implies_true, Nat.lt_add_one, Nat.min_eq_left, Nat.le_add_right, qc, fillA, evParts, repCells, splice, partA, List.length_cons, List.length_nil, List.take_succ_cons, List.take_zero, List.drop_succ_cons, List.drop_zero, List.cons_append, Option.bind_some, Nat.add_zero, Nat.zero_add, List.drop_nil, List.take_nil, Nat.le_refl, Nat.min_self, qv, qu, pureStep, memStep, WC_look, condQ_true, condQ_false, WO_gd, gdQ_tt, gdQ_ff, gdQ_tf, gdQ_ft, gdQ_u, resOf, resAll, resA, wp_some, kv_none, ↓reduceIte, Nat.reduceEqDiff, reduceCtorEq, decide_true, decide_false, Bool.not_true, Bool.not_false, List.map_cons, List.map_nil, List.nil_append, List.append_nil, Option.map_some, Option.map_none, if_true, if_false, true_and, and_true, Int.reduceEq, Int.reduceLT, Int.reduceLE, Int.reduceNeg, Nat.reduceAdd, Nat.reduceLeDiff, Bool.true_eq_false, Bool.false_eq_true, beq_self_eq_true, nilckA, bne, Bool.not_eq_true']
    exact tail _ H3 hx5 rfl rfl
  | true =>
    have hlm := mright_len hr
    rw [if_pos hr] at he
    obtain ⟨w, rfl, ow⟩ := he
    obtain ⟨aw, rfl, sw⟩ := ow.se
    have hel := encM_len hr hI
    have hdm := dec_enc hr hI
    simp (disch := first | omega | assumption | (simp only [List.length_cons, List.length_nil, len_newRow, len_set] <;> omega) | fail) only [l2, eq_self, if_pos, if_neg, binStr_eql, binStr_neq, dec_t, dec_f, w64, wu64, wu8, Int.toNat_natCast, rQ_ret, rQ_norm, wQ_ret, wQ_norm, cutQ_norm, cutQ_exit, cutQ_ret, rngQ_norm, rngQ_ret, rngQ_exit, Nat.mul_one, loadA_new_eq, loadA_new_ne, loadA_set_eq, loadA_set_ne, hOf_new_eq, hOf_new_ne, hOf_set_eq, hOf_set_ne, wrRow_new_eq, wrRow_new_ne, lower_ge, lower_none, len_newRow, len_set, AV.undef, unA, qs, qb, qe, qi, Int.reduceToNat, Nat.reduceMul, List.getElem?_cons_succ, List.getElem?_cons_zero, false_implies, true_implies, forall_const, implies_true, Nat.lt_add_one, Nat.min_eq_left, Nat.le_add_right, qc, fillA, evParts, repCells, splice, partA, List.length_cons, List.length_nil, List.take_succ_cons, List.take_zero, List.drop_succ_cons, List.drop_zero, List.cons_append, Option.bind_some, Nat.add_zero, Nat.zero_add, List.drop_nil, List.take_nil, Nat.le_refl, Nat.min_self, qv, qu, pureStep, memStep, WC_look, condQ_true, condQ_false, WO_gd, gdQ_tt, gdQ_ff, gdQ_tf, gdQ_ft, gdQ_u, resOf, resAll, resA, wp_some, kv_none, ↓reduceIte, Nat.reduceEqDiff, reduceCtorEq, decide_true, decide_false, Bool.not_true, Bool.not_false, List.map_cons, List.map_nil, List.nil_append, List.append_nil, Option.map_some, Option.map_none, if_true, if_false, true_and, and_true, Int.reduceEq, Int.reduceLT, Int.reduceLE, Int.reduceNeg, Nat.reduceAdd, Nat.reduceLeDiff, Bool.true_eq_false, Bool.false_eq_true, beq_self_eq_true, nilckA, bne, Bool.not_eq_true']
    refine WO_callP rfl hx3 (p17 (hmv.ext hx3) (by omega)) ?_
    rintro v H3 hx5 hx6 rfl
    rw [hr]
    simp (disch := first | omega | assumption | (simp only [List.length_cons, List.length_nil, len_newRow, len_set] <;> omega) | fail) only [eqA, eq_self, if_pos, if_neg, binStr_eql, binStr_neq, dec_t, dec_f, w64, wu64, wu8, Int.toNat_natCast, rQ_ret, rQ_norm, wQ_ret, wQ_norm, cutQ_norm, cutQ_exit, cutQ_ret, rngQ_norm, rngQ_ret, rngQ_exit, Nat.mul_one, loadA_new_eq, loadA_new_ne, loadA_set_eq, loadA_set_ne, hOf_new_eq, hOf_new_ne, hOf_set_eq, hOf_set_ne, wrRow_new_eq, wrRow_new_ne, lower_ge, lower_none, len_newRow, len_set, AV.undef, unA, qs, qb, qe, qi, Int.reduceToNat, Nat.reduceMul, List.getElem?_cons_succ, List.getElem?_cons_zero, false_implies, true_implies, forall_const, implies_true, Nat.lt_add_one, Nat.min_eq_left, Nat.le_add_right, qc, fillA, evParts, repCells, splice, partA, List.length_cons, List.length_nil, List.take_succ_cons, List.take_zero, List.drop_succ_cons, List.drop_zero, List.cons_append, Option.bind_some, Nat.add_zero, Nat.zero_add, List.drop_nil, List.take_nil, Nat.le_refl, Nat.min_self, qv, qu, pureStep, memStep, WC_look, condQ_true, condQ_false, WO_gd, gdQ_tt, gdQ_ff, gdQ_tf, gdQ_ft, gdQ_u, resOf, resAll, resA, wp_some, kv_none, ↓reduceIte, Nat.reduceEqDiff, reduceCtorEq, decide_true, decide_false, Bool.not_true, Bool.not_false, List.map_cons, List.map_nil, List.nil_append, List.append_nil, Option.map_some, Option.map_none, if_true, if_false, true_and, and_true, Int.reduceEq, Int.reduceLT, Int.reduceLE, Int.reduceNeg, Nat.reduceAdd, Nat.reduceLeDiff, Bool.true_eq_false, Bool.false_eq_true, beq_self_eq_true, nilckA, bne, Bool.not_eq_true']
    refine WO_callP rfl hx5 (p13 (sw.ext hx6) (by omega)) ?_
    rintro v H4 hx7 hx8 hd
    rw [hdm] at hd
    obtain ⟨sl, rfl, od⟩ := hd
    obtain ⟨ad, rfl, sd⟩ := od.se
    have r4 := hx8.row _ _ (hx6.row _ _ r2)
    have hl4 := hx7.len
    have hl44 := hOf_is_lt r4
    have hx9 : Ext H (newRow H4 [.int .i64 m.kind, .slice ad m.l.length none, .str m.text] 0) := hx7.nr
    have r5 : hOf (newRow H4 [.int .i64 m.kind, .slice ad m.l.length none, .str m.text] 0) H4.length = some ⟨[.int .i64 m.kind, .slice ad m.l.length none, .str m.text], true, 0⟩ := hOf_new_eq rfl _ _
    have r45 := (Ext.newRow H4 [.int .i64 m.kind, .slice ad m.l.length none, .str m.text] 0).row _ _ r4
    have od5 := od.ext (Ext.newRow H4 [.int .i64 m.kind, .slice ad m.l.length none, .str m.text] 0)
    have sw5 := (sw.ext hx6).ext (hx8.nr (c := [.int .i64 m.kind, .slice ad m.l.length none, .str m.text]) (sz := 0))
    simp (disch := first | omega | assumption | (simp only [List.length_cons, List.length_nil, len_newRow, len_set] <;> omega) | fail) only [eq_self, if_pos, if_neg, binStr_eql, binStr_neq, dec_t, dec_f, w64, wu64, wu8, Int.toNat_natCast, rQ_ret, rQ_norm, wQ_ret, wQ_norm, cutQ_norm, cutQ_exit, cutQ_ret, rngQ_norm, rngQ_ret, rngQ_exit, Nat.mul_one, loadA_new_eq, loadA_new_ne, loadA_set_eq, loadA_set_ne, hOf_new_eq, hOf_new_ne, hOf_set_eq, hOf_set_ne, wrRow_new_eq, wrRow_new_ne, lower_ge, lower_none, len_newRow, len_set, AV.undef, unA, qs, qb, qe, qi, Int.reduceToNat, Nat.reduceMul, List.getElem?_cons_succ, List.getElem?_cons_zero, false_implies, true_implies, forall_const, implies_true, Nat.lt_add_one, Nat.min_eq_left, Nat.le_add_right, qc, fillA, evParts, repCells, splice, partA, List.length_cons, List.length_nil, List.take_succ_cons, List.take_zero, List.drop_succ_cons, List.drop_zero, List.cons_append, Option.bind_some, Nat.add_zero, Nat.zero_add, List.drop_nil, List.take_nil, Nat.le_refl, Nat.min_self, qv, qu, pureStep, memStep, WC_look, condQ_true, condQ_false, WO_gd, gdQ_tt, gdQ_ff, gdQ_tf, gdQ_ft, gdQ_u, resOf, resAll, resA, wp_some, kv_none, ↓reduceIte, Nat.reduceEqDiff, reduceCtorEq, decide_true, decide_false, Bool.not_true, Bool.not_false, List.map_cons, List.map_nil, List.nil_append, List.append_nil, Option.map_some, Option.map_none, if_true, if_false, true_and, and_true, Int.reduceEq, Int.reduceLT, Int.reduceLE, Int.reduceNeg, Nat.reduceAdd, Nat.reduceLeDiff, Bool.true_eq_false, Bool.false_eq_true, beq_self_eq_true, nilckA, bne, Bool.not_eq_true']
    generalize newRow H4 [.int .i64 m.kind, .slice ad m.l.length none, .str m.text] 0 = K5 at hx9 r5 r45 od5 sw5
    refine WO_callP rfl hx9 (p18 sw5 (by omega)) ?_
    rintro v H6 hx10 hx11 ⟨y, rfl, oy⟩
    obtain ⟨ay, rfl, sy⟩ := oy.se
    have r6 := hx11.row _ _ r5
    have r46 := hx11.row _ _ r45
    have l6 := load_row r6
    have l46 := load_row r46
    have hly : ((putL (encM m).length ++ encM m).length : Int) = ((putL (encM m).length).length : Int) + ((encM m).length : Int) := by rw [List.length_append]; omega
    have hpp := putL_pos (encM m).length
    simp (disch := first | omega | assumption | (simp only [List.length_cons, List.length_nil, len_newRow, len_set] <;> omega) | fail) only [l6, l46, eq_self, if_pos, if_neg, binStr_eql, binStr_neq, dec_t, dec_f, w64, wu64, wu8, Int.toNat_natCast, rQ_ret, rQ_norm, wQ_ret, wQ_norm, cutQ_norm, cutQ_exit, cutQ_ret, rngQ_norm, rngQ_ret, rngQ_exit, Nat.mul_one, loadA_new_eq, loadA_new_ne, loadA_set_eq, loadA_set_ne, hOf_new_eq, hOf_new_ne, hOf_set_eq, hOf_set_ne, wrRow_new_eq, wrRow_new_ne, lower_ge, lower_none, len_newRow, len_set, AV.undef, unA, qs, qb, qe, qi, Int.reduceToNat, Nat.reduceMul, List.getElem?_cons_succ, List.getElem?_cons_zero, false_implies, true_implies, forall_const, implies_true, Nat.lt_add_one, Nat.min_eq_left, Nat.le_add_right, qc, fillA, evParts, repCells, splice, partA, List.length_cons, List.length_nil, List.take_succ_cons, List.take_zero, List.drop_succ_cons, List.drop_zero, List.cons_append, Option.bind_some, Nat.add_zero, Nat.zero_add, List.drop_nil, List.take_nil, Nat.le_refl, Nat.min_self, qv, qu, pureStep, memStep, WC_look, condQ_true, condQ_false, WO_gd, gdQ_tt, gdQ_ff, gdQ_tf, gdQ_ft, gdQ_u, resOf, resAll, resA, wp_some, kv_none, ↓reduceIte, Nat.reduceEqDiff, reduceCtorEq, decide_true, decide_false, Bool.not_true, Bool.not_false, List.map_cons, List.map_nil, List.nil_append, List.append_nil, Option.map_some, Option.map_none, if_true, if_false, true_and, and_true, Int.reduceEq, Int.reduceLT, Int.reduceLE, Int.reduceNeg, Nat.reduceAdd, Nat.reduceLeDiff, Bool.true_eq_false, Bool.false_eq_true, beq_self_eq_true, nilckA, bne, Bool.not_eq_true']
    refine WO_callP rfl hx10 (p19 (mv_row (od5.ext hx11)) (hmv.ext hx10) (by omega)) ?_
    rintro v H7 hx12 hx13 rfl
    simp (disch := first | omega | assumption | (simp only [List.length_cons, List.length_nil, len_newRow, len_set] <;> omega) | fail) only [hly, eq_self, if_pos, if_neg, binStr_eql, binStr_neq, dec_t, dec_f, w64, wu64, wu8, Int.toNat_natCast, rQ_ret, rQ_norm, wQ_ret, wQ_norm, cutQ_norm, cutQ_exit, cutQ_ret, rngQ_norm, rngQ_ret, rngQ_exit, Nat.mul_one, loadA_new_eq, loadA_new_ne, loadA_set_eq, loadA_set_ne, hOf_new_eq, hOf_new_ne, hOf_set_eq, hOf_set_ne, wrRow_new_eq, wrRow_new_ne, lower_ge, lower_none, len_newRow, len_set, AV.undef, unA, qs, qb, qe, qi, Int.reduceToNat, Nat.reduceMul, List.getElem?_cons_succ, List.getElem?_cons_zero, false_implies, true_implies, forall_const, implies_true, Nat.lt_add_one, Nat.min_eq_left, Nat.le_add_right, qc, fillA, evParts, repCells, splice, partA, List.length_cons, List.length_nil, List.take_succ_cons, List.take_zero, List.drop_succ_cons, List.drop_zero, List.cons_append, Option.bind_some, Nat.add_zero, Nat.zero_add, List.drop_nil, List.take_nil, Nat.le_refl, Nat.min_self, qv, qu, pureStep, memStep, WC_look, condQ_true, condQ_false, WO_gd, gdQ_tt, gdQ_ff, gdQ_tf, gdQ_ft, gdQ_u, resOf, resAll, resA, wp_some, kv_none, ↓reduceIte, Nat.reduceEqDiff, reduceCtorEq, decide_true, decide_false, Bool.not_true, Bool.not_false, List.map_cons, List.map_nil, List.nil_append, List.append_nil, Option.map_some, Option.map_none, if_true, if_false, true_and, and_true, Int.reduceEq, Int.reduceLT, Int.reduceLE, Int.reduceNeg, Nat.reduceAdd, Nat.reduceLeDiff, Bool.true_eq_false, Bool.false_eq_true, beq_self_eq_true, nilckA, bne, Bool.not_eq_true']
    exact tail _ H7 hx12 rfl rfl
end Go.Proofs.Qq.Qqd

namespace Go.Proofs.Qq.Qqd
open Go.Proofs.Qq

theorem ty_msg {P : Program} {tm ti tl ts : TypeId} (hf : fieldsOf P tm = some [(0, ti, 1), (1, tl, 1), (2, ts, 1)]) (hn : P.cellsOf tm = 3) (hi : P.underlying ti = some (.int .i64)) (hc : P.cellsOf ti = 1) (hl : P.underlying tl = some (.slice ti)) (hs : P.underlying ts = some .string)
    {H : AHeap} {cs : List AV} (h : TyA P H tm cs) : ∃ m, MV H (.agg cs) m ∧ (∀ n, n ∈ m.l → I64 n) ∧ m.text.length ≤ maxLen ∧ m.l.length ≤ maxLen ∧ I64 m.kind := by
  obtain ⟨h1, h2⟩ := ty_fields hf hn h
  match cs, h1 with
  | [x, y, z], _ =>
    obtain ⟨k, e1, w1⟩ := ty_int hi (h2 _ (List.mem_cons_self))
    obtain ⟨a, n, c, xs, e2, s2, l2, o2⟩ := ty_slice (E := eInt) hl (isFlat_int hi hc) (h2 (1, tl, 1) (by simp))
    obtain ⟨s, e3, l3⟩ := ty_str hs (h2 (2, ts, 1) (by simp))
    simp at e1 e2 e3
    subst e1; subst e3
    exact ⟨⟨k, xs, s⟩, ⟨a, n, c, by rw [e2], s2⟩, fun n hn => I64_of (o2 n hn), l3, l2, I64_of w1⟩
end Go.Proofs.Qq.Qqd

/- PRINTED BY A PROGRAM (seat.py): the resolved code stands for the loaded code. -/
namespace Go.Proofs.Qq.Qqd
open Go.Proofs.Qq
theorem ok2 : okFun Tryd.prog Tryd.f2 a2 = true := by kernel_rfl
theorem ok3 : okFun Tryd.prog Tryd.f3 a3 = true := by kernel_rfl
theorem ok4 : okFun Tryd.prog Tryd.f4 a4 = true := by kernel_rfl
theorem ok5 : okFun Tryd.prog Tryd.f5 a5 = true := by kernel_rfl
theorem ok6 : okFun Tryd.prog Tryd.f6 a6 = true := by kernel_rfl
theorem ok7 : okFun Tryd.prog Tryd.f7 a7 = true := by kernel_rfl
theorem ok8 : okFun Tryd.prog Tryd.f8 a8 = true := by kernel_rfl
theorem ok9 : okFun Tryd.prog Tryd.f9 a9 = true := by kernel_rfl
theorem ok10 : okFun Tryd.prog Tryd.f10 a10 = true := by kernel_rfl
theorem ok11 : okFun Tryd.prog Tryd.f11 a11 = true := by kernel_rfl
theorem ok12 : okFun Tryd.prog Tryd.f12 a12 = true := by kernel_rfl
theorem ok13 : okFun Tryd.prog Tryd.f13 a13 = true := by kernel_rfl
theorem ok14 : okFun Tryd.prog Tryd.f14 a14 = true := by kernel_rfl
theorem ok15 : okFun Tryd.prog Tryd.f15 a15 = true := by kernel_rfl
theorem ok16 : okFun Tryd.prog Tryd.f16 a16 = true := by kernel_rfl
theorem ok17 : okFun Tryd.prog Tryd.f17 a17 = true := by kernel_rfl
theorem ok18 : okFun Tryd.prog Tryd.f18 a18 = true := by kernel_rfl
theorem ok19 : okFun Tryd.prog Tryd.f19 a19 = true := by kernel_rfl
theorem ok20 : okFun Tryd.prog Tryd.f20 a20 = true := by kernel_rfl
theorem ok21 : okFun Tryd.prog Tryd.f21 a21 = true := by kernel_rfl
theorem ok22 : okFun Tryd.prog Tryd.f22 a22 = true := by kernel_rfl
end Go.Proofs.Qq.Qqd

/- PRINTED BY A PROGRAM (seat.py): the resolved code stands for the loaded code. -/
namespace Go.Proofs.Qq.Qqd
open Go.Proofs.Qq
theorem ok23 : okFun Tryd.prog Tryd.f23 a23 = true := by kernel_rfl
theorem ok24 : okFun Tryd.prog Tryd.f24 a24 = true := by kernel_rfl
theorem ok25 : okFun Tryd.prog Tryd.f25 a25 = true := by kernel_rfl
theorem ok26 : okFun Tryd.prog Tryd.f26 a26 = true := by kernel_rfl
theorem ok27 : okFun Tryd.prog Tryd.f27 a27 = true := by kernel_rfl
theorem ok28 : okFun Tryd.prog Tryd.f28 a28 = true := by kernel_rfl
theorem ok29 : okFun Tryd.prog Tryd.f29 a29 = true := by kernel_rfl
theorem ok30 : okFun Tryd.prog Tryd.f30 a30 = true := by kernel_rfl
theorem ok31 : okFun Tryd.prog Tryd.f31 a31 = true := by kernel_rfl
theorem ok32 : okFun Tryd.prog Tryd.f32 a32 = true := by kernel_rfl
theorem ok33 : okFun Tryd.prog Tryd.f33 a33 = true := by kernel_rfl
theorem ok34 : okFun Tryd.prog Tryd.f34 a34 = true := by kernel_rfl
theorem ok35 : okFun Tryd.prog Tryd.f35 a35 = true := by kernel_rfl
theorem ok36 : okFun Tryd.prog Tryd.f36 a36 = true := by kernel_rfl
theorem ok37 : okFun Tryd.prog Tryd.f37 a37 = true := by kernel_rfl
theorem ok38 : okFun Tryd.prog Tryd.f38 a38 = true := by kernel_rfl
theorem ok39 : okFun Tryd.prog Tryd.f39 a39 = true := by kernel_rfl
theorem ok40 : okFun Tryd.prog Tryd.f40 a40 = true := by kernel_rfl
theorem ok41 : okFun Tryd.prog Tryd.f41 a41 = true := by kernel_rfl
theorem ok42 : okFun Tryd.prog Tryd.f42 a42 = true := by kernel_rfl
theorem ok43 : okFun Tryd.prog Tryd.f43 a43 = true := by kernel_rfl
theorem ok44 : okFun Tryd.prog Tryd.f44 a44 = true := by kernel_rfl
theorem ok45 : okFun Tryd.prog Tryd.f45 a45 = true := by kernel_rfl
theorem ok46 : okFun Tryd.prog Tryd.f46 a46 = true := by kernel_rfl
theorem ok47 : okFun Tryd.prog Tryd.f47 a47 = true := by kernel_rfl
theorem ok48 : okFun Tryd.prog Tryd.f48 a48 = true := by kernel_rfl
theorem ok49 : okFun Tryd.prog Tryd.f49 a49 = true := by kernel_rfl
theorem ok50 : okFun Tryd.prog Tryd.f50 a50 = true := by kernel_rfl
theorem ok51 : okFun Tryd.prog Tryd.f51 a51 = true := by kernel_rfl
theorem ok52 : okFun Tryd.prog Tryd.f52 a52 = true := by kernel_rfl
theorem ok53 : okFun Tryd.prog Tryd.f53 a53 = true := by kernel_rfl
theorem ok54 : okFun Tryd.prog Tryd.f54 a54 = true := by kernel_rfl
theorem ok55 : okFun Tryd.prog Tryd.f55 a55 = true := by kernel_rfl
theorem ok56 : okFun Tryd.prog Tryd.f56 a56 = true := by kernel_rfl
theorem ok57 : okFun Tryd.prog Tryd.f57 a57 = true := by kernel_rfl
theorem ok58 : okFun Tryd.prog Tryd.f58 a58 = true := by kernel_rfl
theorem ok59 : okFun Tryd.prog Tryd.f59 a59 = true := by kernel_rfl
theorem ok60 : okFun Tryd.prog Tryd.f60 a60 = true := by kernel_rfl
theorem ok61 : okFun Tryd.prog Tryd.f61 a61 = true := by kernel_rfl
theorem ok63 : okFun Tryd.prog Tryd.f63 a63 = true := by kernel_rfl
theorem ok64 : okFun Tryd.prog Tryd.f64 a64 = true := by kernel_rfl
theorem ok65 : okFun Tryd.prog Tryd.f65 a65 = true := by kernel_rfl
theorem ok66 : okFun Tryd.prog Tryd.f66 a66 = true := by kernel_rfl
theorem ok67 : okFun Tryd.prog Tryd.f67 a67 = true := by kernel_rfl
theorem ok68 : okFun Tryd.prog Tryd.f68 a68 = true := by kernel_rfl
theorem ok69 : okFun Tryd.prog Tryd.f69 a69 = true := by kernel_rfl
end Go.Proofs.Qq.Qqd

/- PRINTED BY A PROGRAM (seat.py): the resolved code stands for the loaded code. -/
namespace Go.Proofs.Qq.Qqd
open Go.Proofs.Qq
theorem ok70 : okFun Tryd.prog Tryd.f70 a70 = true := by kernel_rfl
theorem ok71 : okFun Tryd.prog Tryd.f71 a71 = true := by kernel_rfl
theorem ok72 : okFun Tryd.prog Tryd.f72 a72 = true := by kernel_rfl
theorem ok73 : okFun Tryd.prog Tryd.f73 a73 = true := by kernel_rfl
theorem ok74 : okFun Tryd.prog Tryd.f74 a74 = true := by kernel_rfl
theorem ok75 : okFun Tryd.prog Tryd.f75 a75 = true := by kernel_rfl
theorem ok76 : okFun Tryd.prog Tryd.f76 a76 = true := by kernel_rfl
theorem ok77 : okFun Tryd.prog Tryd.f77 a77 = true := by kernel_rfl
theorem ok78 : okFun Tryd.prog Tryd.f78 a78 = true := by kernel_rfl
theorem ok79 : okFun Tryd.prog Tryd.f79 a79 = true := by kernel_rfl
theorem ok80 : okFun Tryd.prog Tryd.f80 a80 = true := by kernel_rfl
theorem ok81 : okFun Tryd.prog Tryd.f81 a81 = true := by kernel_rfl
theorem ok82 : okFun Tryd.prog Tryd.f82 a82 = true := by kernel_rfl
theorem ok83 : okFun Tryd.prog Tryd.f83 a83 = true := by kernel_rfl
theorem ok84 : okFun Tryd.prog Tryd.f84 a84 = true := by kernel_rfl
theorem ok85 : okFun Tryd.prog Tryd.f85 a85 = true := by kernel_rfl
theorem ok86 : okFun Tryd.prog Tryd.f86 a86 = true := by kernel_rfl
theorem ok87 : okFun Tryd.prog Tryd.f87 a87 = true := by kernel_rfl
theorem ok88 : okFun Tryd.prog Tryd.f88 a88 = true := by kernel_rfl
theorem ok89 : okFun Tryd.prog Tryd.f89 a89 = true := by kernel_rfl
theorem ok90 : okFun Tryd.prog Tryd.f90 a90 = true := by kernel_rfl
theorem ok91 : okFun Tryd.prog Tryd.f91 a91 = true := by kernel_rfl
theorem ok92 : okFun Tryd.prog Tryd.f92 a92 = true := by kernel_rfl
theorem ok93 : okFun Tryd.prog Tryd.f93 a93 = true := by kernel_rfl
theorem ok94 : okFun Tryd.prog Tryd.f94 a94 = true := by kernel_rfl
theorem ok96 : okFun Tryd.prog Tryd.f96 a96 = true := by kernel_rfl
theorem ok97 : okFun Tryd.prog Tryd.f97 a97 = true := by kernel_rfl
theorem ok98 : okFun Tryd.prog Tryd.f98 a98 = true := by kernel_rfl
theorem ok99 : okFun Tryd.prog Tryd.f99 a99 = true := by kernel_rfl
theorem ok100 : okFun Tryd.prog Tryd.f100 a100 = true := by kernel_rfl
theorem ok101 : okFun Tryd.prog Tryd.f101 a101 = true := by kernel_rfl
theorem ok102 : okFun Tryd.prog Tryd.f102 a102 = true := by kernel_rfl
theorem ok103 : okFun Tryd.prog Tryd.f103 a103 = true := by kernel_rfl
theorem ok104 : okFun Tryd.prog Tryd.f104 a104 = true := by kernel_rfl
theorem ok105 : okFun Tryd.prog Tryd.f105 a105 = true := by kernel_rfl
theorem ok106 : okFun Tryd.prog Tryd.f106 a106 = true := by kernel_rfl
theorem ok107 : okFun Tryd.prog Tryd.f107 a107 = true := by kernel_rfl
theorem ok108 : okFun Tryd.prog Tryd.f108 a108 = true := by kernel_rfl
theorem ok109 : okFun Tryd.prog Tryd.f109 a109 = true := by kernel_rfl
theorem ok110 : okFun Tryd.prog Tryd.f110 a110 = true := by kernel_rfl
theorem ok111 : okFun Tryd.prog Tryd.f111 a111 = true := by kernel_rfl
theorem ok113 : okFun Tryd.prog Tryd.f113 a113 = true := by kernel_rfl
theorem ok114 : okFun Tryd.prog Tryd.f114 a114 = true := by kernel_rfl
theorem ok115 : okFun Tryd.prog Tryd.f115 a115 = true := by kernel_rfl
theorem ok116 : okFun Tryd.prog Tryd.f116 a116 = true := by kernel_rfl
theorem ok117 : okFun Tryd.prog Tryd.f117 a117 = true := by kernel_rfl
theorem ok118 : okFun Tryd.prog Tryd.f118 a118 = true := by kernel_rfl
theorem ok119 : okFun Tryd.prog Tryd.f119 a119 = true := by kernel_rfl
theorem ok120 : okFun Tryd.prog Tryd.f120 a120 = true := by kernel_rfl
theorem ok122 : okFun Tryd.prog Tryd.f122 a122 = true := by kernel_rfl
theorem ok123 : okFun Tryd.prog Tryd.f123 a123 = true := by kernel_rfl
theorem ok126 : okFun Tryd.prog Tryd.f126 a126 = true := by kernel_rfl
theorem ok127 : okFun Tryd.prog Tryd.f127 a127 = true := by kernel_rfl
theorem ok128 : okFun Tryd.prog Tryd.f128 a128 = true := by kernel_rfl
theorem ok129 : okFun Tryd.prog Tryd.f129 a129 = true := by kernel_rfl
theorem ok130 : okFun Tryd.prog Tryd.f130 a130 = true := by kernel_rfl
theorem ok132 : okFun Tryd.prog Tryd.f132 a132 = true := by kernel_rfl
theorem ok133 : okFun Tryd.prog Tryd.f133 a133 = true := by kernel_rfl
end Go.Proofs.Qq.Qqd

/- PRINTED BY A PROGRAM (seat.py): the table stands for the loaded functions; the closed calls. -/
namespace Go.Proofs.Qq.Qqd
open Go.Proofs.Qq
theorem okTab : OkFrom Tryd.prog 0 (tab prims) :=
  ⟨trivial,
   trivial,
   ⟨_, Tryd.func2, ok2⟩,
   ⟨_, Tryd.func3, ok3⟩,
   ⟨_, Tryd.func4, ok4⟩,
   ⟨_, Tryd.func5, ok5⟩,
   ⟨_, Tryd.func6, ok6⟩,
   ⟨_, Tryd.func7, ok7⟩,
   ⟨_, Tryd.func8, ok8⟩,
   ⟨_, Tryd.func9, ok9⟩,
   ⟨_, Tryd.func10, ok10⟩,
   ⟨_, Tryd.func11, ok11⟩,
   ⟨_, Tryd.func12, ok12⟩,
   ⟨_, Tryd.func13, ok13⟩,
   ⟨_, Tryd.func14, ok14⟩,
   ⟨_, Tryd.func15, ok15⟩,
   ⟨_, Tryd.func16, ok16⟩,
   ⟨_, Tryd.func17, ok17⟩,
   ⟨_, Tryd.func18, ok18⟩,
   ⟨_, Tryd.func19, ok19⟩,
   ⟨_, Tryd.func20, ok20⟩,
   ⟨_, Tryd.func21, ok21⟩,
   ⟨_, Tryd.func22, ok22⟩,
   ⟨_, Tryd.func23, ok23⟩,
   ⟨_, Tryd.func24, ok24⟩,
   ⟨_, Tryd.func25, ok25⟩,
   ⟨_, Tryd.func26, ok26⟩,
   ⟨_, Tryd.func27, ok27⟩,
   ⟨_, Tryd.func28, ok28⟩,
   ⟨_, Tryd.func29, ok29⟩,
   ⟨_, Tryd.func30, ok30⟩,
   ⟨_, Tryd.func31, ok31⟩,
   ⟨_, Tryd.func32, ok32⟩,
   ⟨_, Tryd.func33, ok33⟩,
   ⟨_, Tryd.func34, ok34⟩,
   ⟨_, Tryd.func35, ok35⟩,
   ⟨_, Tryd.func36, ok36⟩,
   ⟨_, Tryd.func37, ok37⟩,
   ⟨_, Tryd.func38, ok38⟩,
   ⟨_, Tryd.func39, ok39⟩,
   ⟨_, Tryd.func40, ok40⟩,
   ⟨_, Tryd.func41, ok41⟩,
   ⟨_, Tryd.func42, ok42⟩,
   ⟨_, Tryd.func43, ok43⟩,
   ⟨_, Tryd.func44, ok44⟩,
   ⟨_, Tryd.func45, ok45⟩,
   ⟨_, Tryd.func46, ok46⟩,
   ⟨_, Tryd.func47, ok47⟩,
   ⟨_, Tryd.func48, ok48⟩,
   ⟨_, Tryd.func49, ok49⟩,
   ⟨_, Tryd.func50, ok50⟩,
   ⟨_, Tryd.func51, ok51⟩,
   ⟨_, Tryd.func52, ok52⟩,
   ⟨_, Tryd.func53, ok53⟩,
   ⟨_, Tryd.func54, ok54⟩,
   ⟨_, Tryd.func55, ok55⟩,
   ⟨_, Tryd.func56, ok56⟩,
   ⟨_, Tryd.func57, ok57⟩,
   ⟨_, Tryd.func58, ok58⟩,
   ⟨_, Tryd.func59, ok59⟩,
   ⟨_, Tryd.func60, ok60⟩,
   ⟨_, Tryd.func61, ok61⟩,
   trivial,
   ⟨_, Tryd.func63, ok63⟩,
   ⟨_, Tryd.func64, ok64⟩,
   ⟨_, Tryd.func65, ok65⟩,
   ⟨_, Tryd.func66, ok66⟩,
   ⟨_, Tryd.func67, ok67⟩,
   ⟨_, Tryd.func68, ok68⟩,
   ⟨_, Tryd.func69, ok69⟩,
   ⟨_, Tryd.func70, ok70⟩,
   ⟨_, Tryd.func71, ok71⟩,
   ⟨_, Tryd.func72, ok72⟩,
   ⟨_, Tryd.func73, ok73⟩,
   ⟨_, Tryd.func74, ok74⟩,
   ⟨_, Tryd.func75, ok75⟩,
   ⟨_, Tryd.func76, ok76⟩,
   ⟨_, Tryd.func77, ok77⟩,
   ⟨_, Tryd.func78, ok78⟩,
   ⟨_, Tryd.func79, ok79⟩,
   ⟨_, Tryd.func80, ok80⟩,
   ⟨_, Tryd.func81, ok81⟩,
   ⟨_, Tryd.func82, ok82⟩,
   ⟨_, Tryd.func83, ok83⟩,
   ⟨_, Tryd.func84, ok84⟩,
   ⟨_, Tryd.func85, ok85⟩,
   ⟨_, Tryd.func86, ok86⟩,
   ⟨_, Tryd.func87, ok87⟩,
   ⟨_, Tryd.func88, ok88⟩,
   ⟨_, Tryd.func89, ok89⟩,
   ⟨_, Tryd.func90, ok90⟩,
   ⟨_, Tryd.func91, ok91⟩,
   ⟨_, Tryd.func92, ok92⟩,
   ⟨_, Tryd.func93, ok93⟩,
   ⟨_, Tryd.func94, ok94⟩,
   trivial,
   ⟨_, Tryd.func96, ok96⟩,
   ⟨_, Tryd.func97, ok97⟩,
   ⟨_, Tryd.func98, ok98⟩,
   ⟨_, Tryd.func99, ok99⟩,
   ⟨_, Tryd.func100, ok100⟩,
   ⟨_, Tryd.func101, ok101⟩,
   ⟨_, Tryd.func102, ok102⟩,
   ⟨_, Tryd.func103, ok103⟩,
   ⟨_, Tryd.func104, ok104⟩,
   ⟨_, Tryd.func105, ok105⟩,
   ⟨_, Tryd.func106, ok106⟩,
   ⟨_, Tryd.func107, ok107⟩,
   ⟨_, Tryd.func108, ok108⟩,
   ⟨_, Tryd.func109, ok109⟩,
   ⟨_, Tryd.func110, ok110⟩,
   ⟨_, Tryd.func111, ok111⟩,
   trivial,
   ⟨_, Tryd.func113, ok113⟩,
   ⟨_, Tryd.func114, ok114⟩,
   ⟨_, Tryd.func115, ok115⟩,
   ⟨_, Tryd.func116, ok116⟩,
   ⟨_, Tryd.func117, ok117⟩,
   ⟨_, Tryd.func118, ok118⟩,
   ⟨_, Tryd.func119, ok119⟩,
   ⟨_, Tryd.func120, ok120⟩,
   trivial,
   ⟨_, Tryd.func122, ok122⟩,
   ⟨_, Tryd.func123, ok123⟩,
   trivial,
   trivial,
   ⟨_, Tryd.func126, ok126⟩,
   ⟨_, Tryd.func127, ok127⟩,
   ⟨_, Tryd.func128, ok128⟩,
   ⟨_, Tryd.func129, ok129⟩,
   ⟨_, Tryd.func130, ok130⟩,
   trivial,
   ⟨_, Tryd.func132, ok132⟩,
   ⟨_, Tryd.func133, ok133⟩, trivial⟩
theorem mixed : Tryd.prog.follows .mixedOrders = true := by kernel_rfl
theorem closed11 : isTrueRes (aCall (tabT (tab prims)) 400 11 [] []) = true := by kernel_rfl
theorem tabOk : TableOk Tryd.prog T := ovr_ok mixed (tableOk_of okTab) (fun f hf => by
  simp only [closed, List.mem_cons, List.not_mem_nil, or_false] at hf
  rcases hf with rfl
  · exact ⟨_, closed11⟩
  )
end Go.Proofs.Qq.Qqd

