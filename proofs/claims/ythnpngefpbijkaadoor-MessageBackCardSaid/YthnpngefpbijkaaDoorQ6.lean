/-
  Part of the proof: the abstract machine, its soundness, contracts of functions.
-/
import Derived.Test.YthnpngefpbijkaaDoorQ1
import Derived.Test.YthnpngefpbijkaaDoorQ5
set_option linter.all false
namespace Go.Proofs.Qq.Qqd
open Go.Proofs.Qq

/-- A set of letters in memory. -/
def SetAt (H : AHeap) (i : Nat) (P : UInt8 → Bool) : Prop := ∃ r, hOf H i = some r ∧ ∀ b : UInt8, r.cells[b.toNat]? = some (.bool (P b))
theorem SetAt.ext {H H' : AHeap} {i : Nat} {P : UInt8 → Bool} (h : SetAt H i P) (hx : Ext H H') : SetAt H' i P := let ⟨r, h1, h2⟩ := h; ⟨r, hx.row _ _ h1, h2⟩

/-- (*strings.asciiSet).contains -/
theorem p117 (H : AHeap) (i : Nat) (P : UInt8 → Bool) (hs : SetAt H i P) (b : UInt8) : PF T 117 [.ptr (some (i, 0)), .int .u8 (b.toNat : Int)] H fun r H' => r = .bool (P b) ∧ H = H' := by
  refine PF_code rfl _ _ _ ?_
  obtain ⟨r, hr, hc⟩ := hs
  have h256 : b.toNat < 256 := b.toNat_lt
  have hl : loadA false 1 H (.ptr (some (i, b.toNat))) = some (.bool (P b)) := by rw [loadA_ptr, hr]; exact hc b
  simp only [a117]
  simp (disch := first | omega | assumption | (simp only [List.length_cons, List.length_nil, len_newRow, len_set] <;> omega) | fail) only [hl, eq_self, if_pos, if_neg, binStr_eql, binStr_neq, dec_t, dec_f, w64, wu64, wu8, Int.toNat_natCast, rQ_ret, rQ_norm, wQ_ret, wQ_norm, cutQ_norm, cutQ_exit, cutQ_ret, rngQ_norm, rngQ_ret, rngQ_exit, Nat.mul_one, loadA_new_eq, loadA_new_ne, loadA_set_eq, loadA_set_ne, hOf_new_eq, hOf_new_ne, hOf_set_eq, hOf_set_ne, wrRow_new_eq, wrRow_new_ne, lower_ge, lower_none, len_newRow, len_set, AV.undef, unA, qs, qb, qe, qi, Int.reduceToNat, Nat.reduceMul, List.getElem?_cons_succ, List.getElem?_cons_zero, false_implies, true_implies, forall_const, implies_true, Nat.lt_add_one, Nat.min_eq_left, Nat.le_add_right, qc, fillA, evParts, repCells, splice, partA, List.length_cons, List.length_nil, List.take_succ_cons, List.take_zero, List.drop_succ_cons, List.drop_zero, List.cons_append, Option.bind_some, Nat.add_zero, Nat.zero_add, List.drop_nil, List.take_nil, Nat.le_refl, Nat.min_self, qv, qu, pureStep, memStep, WC_look, condQ_true, condQ_false, WO_gd, gdQ_tt, gdQ_ff, gdQ_tf, gdQ_ft, gdQ_u, resOf, resAll, resA, wp_some, kv_none, ↓reduceIte, Nat.reduceEqDiff, reduceCtorEq, decide_true, decide_false, Bool.not_true, Bool.not_false, List.map_cons, List.map_nil, List.nil_append, List.append_nil, Option.map_some, Option.map_none, if_true, if_false, true_and, and_true, Int.reduceEq, Int.reduceLT, Int.reduceLE, Int.reduceNeg, Nat.reduceAdd, Nat.reduceLeDiff, Bool.true_eq_false, Bool.false_eq_true, beq_self_eq_true, nilckA, bne, Bool.not_eq_true']
  exact Ext.refl _

def setL (L : List UInt8) : UInt8 → Bool := fun b => L.contains b

theorem setL_take {L : List UInt8} {j : Nat} {x : UInt8} (h : L[j]? = some x) (b : UInt8) : setL (L.take (j + 1)) b = (setL (L.take j) b || b == x) := by
  unfold setL; rw [List.take_add_one, h]; simp only [Option.toList_some, List.contains_eq_any_beq, List.any_append, List.any_cons, List.any_nil, Bool.or_false]

theorem rep1_len (v : AV) : ∀ n, (repCells [v] n).length = n
  | 0 => rfl
  | n + 1 => by rw [repCells, List.length_append, rep1_len v n, List.length_cons, List.length_nil]; omega

/-- strings.makeASCIISet -/
theorem p100 (L : List UInt8) (hL : ∀ x, x ∈ L → x.toNat < 128) (hlen : L.length ≤ 1000) (H : AHeap) : PF T 100 [.str L] H fun r _ => ∃ cs, r = .tup [.agg cs, .bool true] ∧ cs.length = 256 ∧ ∀ b : UInt8, cs[b.toNat]? = some (.bool (setL L b)) := by
  refine PF_code rfl _ _ _ ?_
  simp only [a100]
  generalize hz : repCells [AV.bool false] 256 = z
  have hz1 : z.length = 256 := by rw [← hz]; exact rep1_len _ 256
  have hz2 : ∀ b : UInt8, z[b.toNat]? = some (.bool false) := by
    intro b
    have : ∀ n, n < 256 → (repCells [AV.bool false] 256)[n]? = some (.bool false) := by
      have h : ∀ m n, n < m → (repCells [AV.bool false] m)[n]? = some (.bool false) := by
        intro m
        induction m with
        | zero => intro n h; omega
        | succ m ih =>
          intro n h
          cases n with
          | zero => rfl
          | succ n => exact ih n (by omega)
      exact h 256
    rw [← hz]; exact this _ b.toNat_lt
  simp (disch := first | omega | assumption | (simp only [List.length_cons, List.length_nil, len_newRow, len_set] <;> omega) | fail) only [eq_self, if_pos, if_neg, binStr_eql, binStr_neq, dec_t, dec_f, w64, wu64, wu8, Int.toNat_natCast, rQ_ret, rQ_norm, wQ_ret, wQ_norm, cutQ_norm, cutQ_exit, cutQ_ret, rngQ_norm, rngQ_ret, rngQ_exit, Nat.mul_one, loadA_new_eq, loadA_new_ne, loadA_set_eq, loadA_set_ne, hOf_new_eq, hOf_new_ne, hOf_set_eq, hOf_set_ne, wrRow_new_eq, wrRow_new_ne, lower_ge, lower_none, len_newRow, len_set, AV.undef, unA, qs, qb, qe, qi, Int.reduceToNat, Nat.reduceMul, List.getElem?_cons_succ, List.getElem?_cons_zero, false_implies, true_implies, forall_const, implies_true, Nat.lt_add_one, Nat.min_eq_left, Nat.le_add_right, qc, fillA, evParts, repCells, splice, partA, List.length_cons, List.length_nil, List.take_succ_cons, List.take_zero, List.drop_succ_cons, List.drop_zero, List.cons_append, Option.bind_some, Nat.add_zero, Nat.zero_add, List.drop_nil, List.take_nil, Nat.le_refl, Nat.min_self, qv, qu, pureStep, memStep, WC_look, condQ_true, condQ_false, WO_gd, gdQ_tt, gdQ_ff, gdQ_tf, gdQ_ft, gdQ_u, resOf, resAll, resA, wp_some, kv_none, ↓reduceIte, Nat.reduceEqDiff, reduceCtorEq, decide_true, decide_false, Bool.not_true, Bool.not_false, List.map_cons, List.map_nil, List.nil_append, List.append_nil, Option.map_some, Option.map_none, if_true, if_false, true_and, and_true, Int.reduceEq, Int.reduceLT, Int.reduceLE, Int.reduceNeg, Nat.reduceAdd, Nat.reduceLeDiff, Bool.true_eq_false, Bool.false_eq_true, beq_self_eq_true, nilckA, bne, Bool.not_eq_true']
  refine WC_loop (fun m s => ∃ j cs, m = L.length - j ∧ j ≤ L.length ∧ s.env 0 = .str L ∧ s.env 2 = .ptr (some (H.length, 0)) ∧ s.env 4 = .int .i64 (j : Int) ∧ s.heap = newRow H cs 0 ∧ s.low = H.length ∧ cs.length = 256 ∧ ∀ b : UInt8, cs[b.toNat]? = some (.bool (setL (L.take j) b))) ?_ L.length _ ⟨0, z, rfl, by omega, rfl, rfl, rfl, rfl, rfl, hz1, fun b => by rw [hz2]; rfl⟩
  rintro m ⟨e, H', l⟩ ⟨j, cs, hm, hj, k0, k2, k4, rfl, rfl, hcl, hcs⟩
  simp only [] at k0 k2 k4
  by_cases hlt : j < L.length
  · obtain ⟨x, hx⟩ : ∃ x, L[j]? = some x := ⟨L[j], List.getElem?_eq_getElem hlt⟩
    have h128 := hL x (List.mem_of_getElem? hx)
    have c1 : ¬ (128 : Int) ≤ (x.toNat : Int) := by omega
    simp (disch := first | omega | assumption | (simp only [List.length_cons, List.length_nil, len_newRow, len_set] <;> omega) | fail) only [k0, k2, k4, hx, c1, eq_self, if_pos, if_neg, binStr_eql, binStr_neq, dec_t, dec_f, w64, wu64, wu8, Int.toNat_natCast, rQ_ret, rQ_norm, wQ_ret, wQ_norm, cutQ_norm, cutQ_exit, cutQ_ret, rngQ_norm, rngQ_ret, rngQ_exit, Nat.mul_one, loadA_new_eq, loadA_new_ne, loadA_set_eq, loadA_set_ne, hOf_new_eq, hOf_new_ne, hOf_set_eq, hOf_set_ne, wrRow_new_eq, wrRow_new_ne, lower_ge, lower_none, len_newRow, len_set, AV.undef, unA, qs, qb, qe, qi, Int.reduceToNat, Nat.reduceMul, List.getElem?_cons_succ, List.getElem?_cons_zero, false_implies, true_implies, forall_const, implies_true, Nat.lt_add_one, Nat.min_eq_left, Nat.le_add_right, qc, fillA, evParts, repCells, splice, partA, List.length_cons, List.length_nil, List.take_succ_cons, List.take_zero, List.drop_succ_cons, List.drop_zero, List.cons_append, Option.bind_some, Nat.add_zero, Nat.zero_add, List.drop_nil, List.take_nil, Nat.le_refl, Nat.min_self, qv, qu, pureStep, memStep, WC_look, condQ_true, condQ_false, WO_gd, gdQ_tt, gdQ_ff, gdQ_tf, gdQ_ft, gdQ_u, resOf, resAll, resA, wp_some, kv_none, ↓reduceIte, Nat.reduceEqDiff, reduceCtorEq, decide_true, decide_false, Bool.not_true, Bool.not_false, List.map_cons, List.map_nil, List.nil_append, List.append_nil, Option.map_some, Option.map_none, if_true, if_false, true_and, and_true, Int.reduceEq, Int.reduceLT, Int.reduceLE, Int.reduceNeg, Nat.reduceAdd, Nat.reduceLeDiff, Bool.true_eq_false, Bool.false_eq_true, beq_self_eq_true, nilckA, bne, Bool.not_eq_true']
    refine ⟨_, ?_, j + 1, _, rfl, by omega, rfl, rfl, ?_, ?_⟩
    · omega
    · simp only [List.length_append, List.length_take, List.length_drop, List.length_cons, List.length_nil]; omega
    · intro b
      rw [setL_take hx]
      by_cases hb : b = x
      · subst hb
        rw [List.append_assoc, List.getElem?_append_right (by rw [List.length_take]; omega), List.length_take, Nat.min_eq_left (by omega), Nat.sub_self]
        simp
      · have hn : b.toNat ≠ x.toNat := fun e => hb (UInt8.toNat_inj.1 e)
        have : (b == x) = false := by simpa using hb
        rw [this, Bool.or_false, ← hcs b]
        rcases Nat.lt_or_gt_of_ne hn with h | h
        · rw [List.append_assoc, List.getElem?_append_left (by simp; omega), List.getElem?_take, if_pos h]
        · rw [List.getElem?_append_right (by simp; omega), List.getElem?_drop]
          simp only [List.length_append, List.length_take, List.length_cons, List.length_nil]
          congr 1; omega
  · have hj' : j = L.length := by omega
    subst hj'
    rw [List.take_length] at hcs
    have ht : cs.take 256 = cs := List.take_of_length_le (by omega)
    have hd : cs.drop 256 = [] := List.drop_eq_nil_of_le (by omega)
    simp (disch := first | omega | assumption | (simp only [List.length_cons, List.length_nil, len_newRow, len_set] <;> omega) | fail) only [k0, k2, k4, hcl, ht, hd, eq_self, if_pos, if_neg, binStr_eql, binStr_neq, dec_t, dec_f, w64, wu64, wu8, Int.toNat_natCast, rQ_ret, rQ_norm, wQ_ret, wQ_norm, cutQ_norm, cutQ_exit, cutQ_ret, rngQ_norm, rngQ_ret, rngQ_exit, Nat.mul_one, loadA_new_eq, loadA_new_ne, loadA_set_eq, loadA_set_ne, hOf_new_eq, hOf_new_ne, hOf_set_eq, hOf_set_ne, wrRow_new_eq, wrRow_new_ne, lower_ge, lower_none, len_newRow, len_set, AV.undef, unA, qs, qb, qe, qi, Int.reduceToNat, Nat.reduceMul, List.getElem?_cons_succ, List.getElem?_cons_zero, false_implies, true_implies, forall_const, implies_true, Nat.lt_add_one, Nat.min_eq_left, Nat.le_add_right, qc, fillA, evParts, repCells, splice, partA, List.length_cons, List.length_nil, List.take_succ_cons, List.take_zero, List.drop_succ_cons, List.drop_zero, List.cons_append, Option.bind_some, Nat.add_zero, Nat.zero_add, List.drop_nil, List.take_nil, Nat.le_refl, Nat.min_self, qv, qu, pureStep, memStep, WC_look, condQ_true, condQ_false, WO_gd, gdQ_tt, gdQ_ff, gdQ_tf, gdQ_ft, gdQ_u, resOf, resAll, resA, wp_some, kv_none, ↓reduceIte, Nat.reduceEqDiff, reduceCtorEq, decide_true, decide_false, Bool.not_true, Bool.not_false, List.map_cons, List.map_nil, List.nil_append, List.append_nil, Option.map_some, Option.map_none, if_true, if_false, true_and, and_true, Int.reduceEq, Int.reduceLT, Int.reduceLE, Int.reduceNeg, Nat.reduceAdd, Nat.reduceLeDiff, Bool.true_eq_false, Bool.false_eq_true, beq_self_eq_true, nilckA, bne, Bool.not_eq_true']
    exact ⟨(Ext.refl H).nr, cs, rfl, hcl, hcs⟩

def TrInv (s : List UInt8) (P : UInt8 → Bool) (i : Nat) (H : AHeap) (n : Nat) (st : AS) : Prop :=
  ∃ cur suf : List UInt8, n = cur.length ∧ s = cur ++ suf ∧ suf.all P = true ∧ st.env 0 = .str cur ∧ st.env 1 = .ptr (some (i, 0)) ∧ st.heap = H ∧ st.low = H.length

/-- strings.trimRightASCII -/
theorem p102 (H : AHeap) (i : Nat) (P : UInt8 → Bool) (hs : SetAt H i P) (s : List UInt8) (hlen : s.length ≤ 9223372036854775806) :
    PF T 102 [.str s, .ptr (some (i, 0))] H fun r _ => ∃ cur suf, r = .str cur ∧ s = cur ++ suf ∧ suf.all P = true ∧ (cur = [] ∨ ∃ ini b, cur = ini ++ [b] ∧ P b = false) := by
  refine PF_code rfl _ _ _ ?_
  simp only [a102]
  simp (disch := first | omega | assumption | (simp only [List.length_cons, List.length_nil, len_newRow, len_set] <;> omega) | fail) only [eq_self, if_pos, if_neg, binStr_eql, binStr_neq, dec_t, dec_f, w64, wu64, wu8, Int.toNat_natCast, rQ_ret, rQ_norm, wQ_ret, wQ_norm, cutQ_norm, cutQ_exit, cutQ_ret, rngQ_norm, rngQ_ret, rngQ_exit, Nat.mul_one, loadA_new_eq, loadA_new_ne, loadA_set_eq, loadA_set_ne, hOf_new_eq, hOf_new_ne, hOf_set_eq, hOf_set_ne, wrRow_new_eq, wrRow_new_ne, lower_ge, lower_none, len_newRow, len_set, AV.undef, unA, qs, qb, qe, qi, Int.reduceToNat, Nat.reduceMul, List.getElem?_cons_succ, List.getElem?_cons_zero, false_implies, true_implies, forall_const, implies_true, Nat.lt_add_one, Nat.min_eq_left, Nat.le_add_right, qc, fillA, evParts, repCells, splice, partA, List.length_cons, List.length_nil, List.take_succ_cons, List.take_zero, List.drop_succ_cons, List.drop_zero, List.cons_append, Option.bind_some, Nat.add_zero, Nat.zero_add, List.drop_nil, List.take_nil, Nat.le_refl, Nat.min_self, qv, qu, pureStep, memStep, WC_look, condQ_true, condQ_false, WO_gd, gdQ_tt, gdQ_ff, gdQ_tf, gdQ_ft, gdQ_u, resOf, resAll, resA, wp_some, kv_none, ↓reduceIte, Nat.reduceEqDiff, reduceCtorEq, decide_true, decide_false, Bool.not_true, Bool.not_false, List.map_cons, List.map_nil, List.nil_append, List.append_nil, Option.map_some, Option.map_none, if_true, if_false, true_and, and_true, Int.reduceEq, Int.reduceLT, Int.reduceLE, Int.reduceNeg, Nat.reduceAdd, Nat.reduceLeDiff, Bool.true_eq_false, Bool.false_eq_true, beq_self_eq_true, nilckA, bne, Bool.not_eq_true']
  refine WC_loop (TrInv s P i H) ?_ s.length _ ⟨s, [], rfl, by simp, rfl, rfl, rfl, rfl, rfl⟩
  rintro n ⟨e, H', lw⟩ ⟨cur, suf, hn, hsc, hsuf, k0, k1, kH, kL⟩
  simp only [] at k0 k1 kH kL
  subst kH; subst kL
  have hcl : cur.length ≤ s.length := by rw [hsc]; simp
  rcases List.eq_nil_or_concat cur with hcur | ⟨ini, b, hcur⟩
  · subst hcur
    have c1 : ¬ (0 : Int) < (([] : List UInt8).length : Int) := by simp
    simp (disch := first | omega | assumption | (simp only [List.length_cons, List.length_nil, len_newRow, len_set] <;> omega) | fail) only [k0, k1, c1, eq_self, if_pos, if_neg, binStr_eql, binStr_neq, dec_t, dec_f, w64, wu64, wu8, Int.toNat_natCast, rQ_ret, rQ_norm, wQ_ret, wQ_norm, cutQ_norm, cutQ_exit, cutQ_ret, rngQ_norm, rngQ_ret, rngQ_exit, Nat.mul_one, loadA_new_eq, loadA_new_ne, loadA_set_eq, loadA_set_ne, hOf_new_eq, hOf_new_ne, hOf_set_eq, hOf_set_ne, wrRow_new_eq, wrRow_new_ne, lower_ge, lower_none, len_newRow, len_set, AV.undef, unA, qs, qb, qe, qi, Int.reduceToNat, Nat.reduceMul, List.getElem?_cons_succ, List.getElem?_cons_zero, false_implies, true_implies, forall_const, implies_true, Nat.lt_add_one, Nat.min_eq_left, Nat.le_add_right, qc, fillA, evParts, repCells, splice, partA, List.length_cons, List.length_nil, List.take_succ_cons, List.take_zero, List.drop_succ_cons, List.drop_zero, List.cons_append, Option.bind_some, Nat.add_zero, Nat.zero_add, List.drop_nil, List.take_nil, Nat.le_refl, Nat.min_self, qv, qu, pureStep, memStep, WC_look, condQ_true, condQ_false, WO_gd, gdQ_tt, gdQ_ff, gdQ_tf, gdQ_ft, gdQ_u, resOf, resAll, resA, wp_some, kv_none, ↓reduceIte, Nat.reduceEqDiff, reduceCtorEq, decide_true, decide_false, Bool.not_true, Bool.not_false, List.map_cons, List.map_nil, List.nil_append, List.append_nil, Option.map_some, Option.map_none, if_true, if_false, true_and, and_true, Int.reduceEq, Int.reduceLT, Int.reduceLE, Int.reduceNeg, Nat.reduceAdd, Nat.reduceLeDiff, Bool.true_eq_false, Bool.false_eq_true, beq_self_eq_true, nilckA, bne, Bool.not_eq_true']
    exact ⟨Ext.refl _, [], suf, rfl, hsc, hsuf, .inl rfl⟩
  · have hl : cur.length = ini.length + 1 := by rw [hcur]; simp
    have c1 : (0 : Int) < (cur.length : Int) := by omega
    have e1 : IntKind.i64.wrap ((cur.length : Int) - 1) = ((ini.length : Nat) : Int) := by rw [w64 (by omega) (by omega)]; omega
    have c2 : (0 : Int) ≤ ((ini.length : Nat) : Int) := by omega
    have hb : cur[ini.length]? = some b := by rw [hcur]; simp
    simp (disch := first | omega | assumption | (simp only [List.length_cons, List.length_nil, len_newRow, len_set] <;> omega) | fail) only [k0, k1, c1, c2, e1, hb, eq_self, if_pos, if_neg, binStr_eql, binStr_neq, dec_t, dec_f, w64, wu64, wu8, Int.toNat_natCast, rQ_ret, rQ_norm, wQ_ret, wQ_norm, cutQ_norm, cutQ_exit, cutQ_ret, rngQ_norm, rngQ_ret, rngQ_exit, Nat.mul_one, loadA_new_eq, loadA_new_ne, loadA_set_eq, loadA_set_ne, hOf_new_eq, hOf_new_ne, hOf_set_eq, hOf_set_ne, wrRow_new_eq, wrRow_new_ne, lower_ge, lower_none, len_newRow, len_set, AV.undef, unA, qs, qb, qe, qi, Int.reduceToNat, Nat.reduceMul, List.getElem?_cons_succ, List.getElem?_cons_zero, false_implies, true_implies, forall_const, implies_true, Nat.lt_add_one, Nat.min_eq_left, Nat.le_add_right, qc, fillA, evParts, repCells, splice, partA, List.length_cons, List.length_nil, List.take_succ_cons, List.take_zero, List.drop_succ_cons, List.drop_zero, List.cons_append, Option.bind_some, Nat.add_zero, Nat.zero_add, List.drop_nil, List.take_nil, Nat.le_refl, Nat.min_self, qv, qu, pureStep, memStep, WC_look, condQ_true, condQ_false, WO_gd, gdQ_tt, gdQ_ff, gdQ_tf, gdQ_ft, gdQ_u, resOf, resAll, resA, wp_some, kv_none, ↓reduceIte, Nat.reduceEqDiff, reduceCtorEq, decide_true, decide_false, Bool.not_true, Bool.not_false, List.map_cons, List.map_nil, List.nil_append, List.append_nil, Option.map_some, Option.map_none, if_true, if_false, true_and, and_true, Int.reduceEq, Int.reduceLT, Int.reduceLE, Int.reduceNeg, Nat.reduceAdd, Nat.reduceLeDiff, Bool.true_eq_false, Bool.false_eq_true, beq_self_eq_true, nilckA, bne, Bool.not_eq_true']
    refine WO_callP rfl (Ext.refl _) (p117 _ i P hs b) ?_
    rintro v _ _ _ ⟨rfl, rfl⟩
    simp (disch := first | omega | assumption | (simp only [List.length_cons, List.length_nil, len_newRow, len_set] <;> omega) | fail) only [eq_self, if_pos, if_neg, binStr_eql, binStr_neq, dec_t, dec_f, w64, wu64, wu8, Int.toNat_natCast, rQ_ret, rQ_norm, wQ_ret, wQ_norm, cutQ_norm, cutQ_exit, cutQ_ret, rngQ_norm, rngQ_ret, rngQ_exit, Nat.mul_one, loadA_new_eq, loadA_new_ne, loadA_set_eq, loadA_set_ne, hOf_new_eq, hOf_new_ne, hOf_set_eq, hOf_set_ne, wrRow_new_eq, wrRow_new_ne, lower_ge, lower_none, len_newRow, len_set, AV.undef, unA, qs, qb, qe, qi, Int.reduceToNat, Nat.reduceMul, List.getElem?_cons_succ, List.getElem?_cons_zero, false_implies, true_implies, forall_const, implies_true, Nat.lt_add_one, Nat.min_eq_left, Nat.le_add_right, qc, fillA, evParts, repCells, splice, partA, List.length_cons, List.length_nil, List.take_succ_cons, List.take_zero, List.drop_succ_cons, List.drop_zero, List.cons_append, Option.bind_some, Nat.add_zero, Nat.zero_add, List.drop_nil, List.take_nil, Nat.le_refl, Nat.min_self, qv, qu, pureStep, memStep, WC_look, condQ_true, condQ_false, WO_gd, gdQ_tt, gdQ_ff, gdQ_tf, gdQ_ft, gdQ_u, resOf, resAll, resA, wp_some, kv_none, ↓reduceIte, Nat.reduceEqDiff, reduceCtorEq, decide_true, decide_false, Bool.not_true, Bool.not_false, List.map_cons, List.map_nil, List.nil_append, List.append_nil, Option.map_some, Option.map_none, if_true, if_false, true_and, and_true, Int.reduceEq, Int.reduceLT, Int.reduceLE, Int.reduceNeg, Nat.reduceAdd, Nat.reduceLeDiff, Bool.true_eq_false, Bool.false_eq_true, beq_self_eq_true, nilckA, bne, Bool.not_eq_true']
    refine WC_split (fun g => ?_) (fun g => ?_)
    · simp (disch := first | omega | assumption | (simp only [List.length_cons, List.length_nil, len_newRow, len_set] <;> omega) | fail) only [k0, k1, eq_self, if_pos, if_neg, binStr_eql, binStr_neq, dec_t, dec_f, w64, wu64, wu8, Int.toNat_natCast, rQ_ret, rQ_norm, wQ_ret, wQ_norm, cutQ_norm, cutQ_exit, cutQ_ret, rngQ_norm, rngQ_ret, rngQ_exit, Nat.mul_one, loadA_new_eq, loadA_new_ne, loadA_set_eq, loadA_set_ne, hOf_new_eq, hOf_new_ne, hOf_set_eq, hOf_set_ne, wrRow_new_eq, wrRow_new_ne, lower_ge, lower_none, len_newRow, len_set, AV.undef, unA, qs, qb, qe, qi, Int.reduceToNat, Nat.reduceMul, List.getElem?_cons_succ, List.getElem?_cons_zero, false_implies, true_implies, forall_const, implies_true, Nat.lt_add_one, Nat.min_eq_left, Nat.le_add_right, qc, fillA, evParts, repCells, splice, partA, List.length_cons, List.length_nil, List.take_succ_cons, List.take_zero, List.drop_succ_cons, List.drop_zero, List.cons_append, Option.bind_some, Nat.add_zero, Nat.zero_add, List.drop_nil, List.take_nil, Nat.le_refl, Nat.min_self, qv, qu, pureStep, memStep, WC_look, condQ_true, condQ_false, WO_gd, gdQ_tt, gdQ_ff, gdQ_tf, gdQ_ft, gdQ_u, resOf, resAll, resA, wp_some, kv_none, ↓reduceIte, Nat.reduceEqDiff, reduceCtorEq, decide_true, decide_false, Bool.not_true, Bool.not_false, List.map_cons, List.map_nil, List.nil_append, List.append_nil, Option.map_some, Option.map_none, if_true, if_false, true_and, and_true, Int.reduceEq, Int.reduceLT, Int.reduceLE, Int.reduceNeg, Nat.reduceAdd, Nat.reduceLeDiff, Bool.true_eq_false, Bool.false_eq_true, beq_self_eq_true, nilckA, bne, Bool.not_eq_true']
      exact ⟨Ext.refl _, cur, suf, rfl, hsc, hsuf, .inr ⟨ini, b, by rw [hcur]; simp, by simpa using g⟩⟩
    · have c3 : (0 : Int) ≤ ((ini.length : Nat) : Int) ∧ ((ini.length : Nat) : Int) ≤ (cur.length : Int) := by omega
      have e2 : (cur.take ini.length).drop 0 = ini := by rw [hcur]; simp
      have hP : P b = true := by simpa using g
      simp (disch := first | omega | assumption | (simp only [List.length_cons, List.length_nil, len_newRow, len_set] <;> omega) | fail) only [k0, k1, c3, e1, e2, hiA, loA, boundA, eq_self, if_pos, if_neg, binStr_eql, binStr_neq, dec_t, dec_f, w64, wu64, wu8, Int.toNat_natCast, rQ_ret, rQ_norm, wQ_ret, wQ_norm, cutQ_norm, cutQ_exit, cutQ_ret, rngQ_norm, rngQ_ret, rngQ_exit, Nat.mul_one, loadA_new_eq, loadA_new_ne, loadA_set_eq, loadA_set_ne, hOf_new_eq, hOf_new_ne, hOf_set_eq, hOf_set_ne, wrRow_new_eq, wrRow_new_ne, lower_ge, lower_none, len_newRow, len_set, AV.undef, unA, qs, qb, qe, qi, Int.reduceToNat, Nat.reduceMul, List.getElem?_cons_succ, List.getElem?_cons_zero, false_implies, true_implies, forall_const, implies_true, Nat.lt_add_one, Nat.min_eq_left, Nat.le_add_right, qc, fillA, evParts, repCells, splice, partA, List.length_cons, List.length_nil, List.take_succ_cons, List.take_zero, List.drop_succ_cons, List.drop_zero, List.cons_append, Option.bind_some, Nat.add_zero, Nat.zero_add, List.drop_nil, List.take_nil, Nat.le_refl, Nat.min_self, qv, qu, pureStep, memStep, WC_look, condQ_true, condQ_false, WO_gd, gdQ_tt, gdQ_ff, gdQ_tf, gdQ_ft, gdQ_u, resOf, resAll, resA, wp_some, kv_none, ↓reduceIte, Nat.reduceEqDiff, reduceCtorEq, decide_true, decide_false, Bool.not_true, Bool.not_false, List.map_cons, List.map_nil, List.nil_append, List.append_nil, Option.map_some, Option.map_none, if_true, if_false, true_and, and_true, Int.reduceEq, Int.reduceLT, Int.reduceLE, Int.reduceNeg, Nat.reduceAdd, Nat.reduceLeDiff, Bool.true_eq_false, Bool.false_eq_true, beq_self_eq_true, nilckA, bne, Bool.not_eq_true']
      exact ⟨_, by omega, ini, b :: suf, rfl, by rw [hsc, hcur]; simp, by rw [List.all_cons, hP, hsuf]; rfl, by simp only [AV.undef, unA, qs, qb, qe, qi, Int.reduceToNat, Nat.reduceMul, List.getElem?_cons_succ, List.getElem?_cons_zero, false_implies, true_implies, forall_const, implies_true, Nat.lt_add_one, Nat.min_eq_left, Nat.le_add_right, qc, fillA, evParts, repCells, splice, partA, List.length_cons, List.length_nil, List.take_succ_cons, List.take_zero, List.drop_succ_cons, List.drop_zero, List.cons_append, Option.bind_some, Nat.add_zero, Nat.zero_add, List.drop_nil, List.take_nil, Nat.le_refl, Nat.min_self, qv, qu, pureStep, memStep, WC_look, condQ_true, condQ_false, WO_gd, gdQ_tt, gdQ_ff, gdQ_tf, gdQ_ft, gdQ_u, resOf, resAll, resA, wp_some, kv_none, ↓reduceIte, Nat.reduceEqDiff, reduceCtorEq, decide_true, decide_false, Bool.not_true, Bool.not_false, List.map_cons, List.map_nil, List.nil_append, List.append_nil, Option.map_some, Option.map_none, if_true, if_false, true_and, and_true, Int.reduceEq, Int.reduceLT, Int.reduceLE, Int.reduceNeg, Nat.reduceAdd, Nat.reduceLeDiff, Bool.true_eq_false, Bool.false_eq_true, beq_self_eq_true, nilckA, bne, Bool.not_eq_true'], by simp only [k1, AV.undef, unA, qs, qb, qe, qi, Int.reduceToNat, Nat.reduceMul, List.getElem?_cons_succ, List.getElem?_cons_zero, false_implies, true_implies, forall_const, implies_true, Nat.lt_add_one, Nat.min_eq_left, Nat.le_add_right, qc, fillA, evParts, repCells, splice, partA, List.length_cons, List.length_nil, List.take_succ_cons, List.take_zero, List.drop_succ_cons, List.drop_zero, List.cons_append, Option.bind_some, Nat.add_zero, Nat.zero_add, List.drop_nil, List.take_nil, Nat.le_refl, Nat.min_self, qv, qu, pureStep, memStep, WC_look, condQ_true, condQ_false, WO_gd, gdQ_tt, gdQ_ff, gdQ_tf, gdQ_ft, gdQ_u, resOf, resAll, resA, wp_some, kv_none, ↓reduceIte, Nat.reduceEqDiff, reduceCtorEq, decide_true, decide_false, Bool.not_true, Bool.not_false, List.map_cons, List.map_nil, List.nil_append, List.append_nil, Option.map_some, Option.map_none, if_true, if_false, true_and, and_true, Int.reduceEq, Int.reduceLT, Int.reduceLE, Int.reduceNeg, Nat.reduceAdd, Nat.reduceLeDiff, Bool.true_eq_false, Bool.false_eq_true, beq_self_eq_true, nilckA, bne, Bool.not_eq_true'], rfl, rfl⟩

/-- strings.trimLeftASCII -/
theorem p101 (H : AHeap) (i : Nat) (P : UInt8 → Bool) (hs : SetAt H i P) (s : List UInt8) (hlen : s.length ≤ 9223372036854775806) :
    PF T 101 [.str s, .ptr (some (i, 0))] H fun r _ => ∃ pre cur, r = .str cur ∧ s = pre ++ cur ∧ pre.all P = true ∧ (cur = [] ∨ ∃ b tl, cur = b :: tl ∧ P b = false) := by
  refine PF_code rfl _ _ _ ?_
  simp only [a101]
  simp (disch := first | omega | assumption | (simp only [List.length_cons, List.length_nil, len_newRow, len_set] <;> omega) | fail) only [eq_self, if_pos, if_neg, binStr_eql, binStr_neq, dec_t, dec_f, w64, wu64, wu8, Int.toNat_natCast, rQ_ret, rQ_norm, wQ_ret, wQ_norm, cutQ_norm, cutQ_exit, cutQ_ret, rngQ_norm, rngQ_ret, rngQ_exit, Nat.mul_one, loadA_new_eq, loadA_new_ne, loadA_set_eq, loadA_set_ne, hOf_new_eq, hOf_new_ne, hOf_set_eq, hOf_set_ne, wrRow_new_eq, wrRow_new_ne, lower_ge, lower_none, len_newRow, len_set, AV.undef, unA, qs, qb, qe, qi, Int.reduceToNat, Nat.reduceMul, List.getElem?_cons_succ, List.getElem?_cons_zero, false_implies, true_implies, forall_const, implies_true, Nat.lt_add_one, Nat.min_eq_left, Nat.le_add_right, qc, fillA, evParts, repCells, splice, partA, List.length_cons, List.length_nil, List.take_succ_cons, List.take_zero, List.drop_succ_cons, List.drop_zero, List.cons_append, Option.bind_some, Nat.add_zero, Nat.zero_add, List.drop_nil, List.take_nil, Nat.le_refl, Nat.min_self, qv, qu, pureStep, memStep, WC_look, condQ_true, condQ_false, WO_gd, gdQ_tt, gdQ_ff, gdQ_tf, gdQ_ft, gdQ_u, resOf, resAll, resA, wp_some, kv_none, ↓reduceIte, Nat.reduceEqDiff, reduceCtorEq, decide_true, decide_false, Bool.not_true, Bool.not_false, List.map_cons, List.map_nil, List.nil_append, List.append_nil, Option.map_some, Option.map_none, if_true, if_false, true_and, and_true, Int.reduceEq, Int.reduceLT, Int.reduceLE, Int.reduceNeg, Nat.reduceAdd, Nat.reduceLeDiff, Bool.true_eq_false, Bool.false_eq_true, beq_self_eq_true, nilckA, bne, Bool.not_eq_true']
  refine WC_loop (fun n st => ∃ pre cur : List UInt8, n = cur.length ∧ s = pre ++ cur ∧ pre.all P = true ∧ st.env 0 = .str cur ∧ st.env 1 = .ptr (some (i, 0)) ∧ st.heap = H ∧ st.low = H.length) ?_ s.length _ ⟨[], s, rfl, rfl, rfl, rfl, rfl, rfl, rfl⟩
  rintro n ⟨e, H', lw⟩ ⟨pre, cur, hn, hsc, hpre, k0, k1, kH, kL⟩
  simp only [] at k0 k1 kH kL
  subst kH; subst kL
  have hcl : cur.length ≤ s.length := by rw [hsc]; simp
  cases cur with
  | nil =>
    have c1 : ¬ (0 : Int) < (([] : List UInt8).length : Int) := by simp
    simp (disch := first | omega | assumption | (simp only [List.length_cons, List.length_nil, len_newRow, len_set] <;> omega) | fail) only [k0, k1, c1, eq_self, if_pos, if_neg, binStr_eql, binStr_neq, dec_t, dec_f, w64, wu64, wu8, Int.toNat_natCast, rQ_ret, rQ_norm, wQ_ret, wQ_norm, cutQ_norm, cutQ_exit, cutQ_ret, rngQ_norm, rngQ_ret, rngQ_exit, Nat.mul_one, loadA_new_eq, loadA_new_ne, loadA_set_eq, loadA_set_ne, hOf_new_eq, hOf_new_ne, hOf_set_eq, hOf_set_ne, wrRow_new_eq, wrRow_new_ne, lower_ge, lower_none, len_newRow, len_set, AV.undef, unA, qs, qb, qe, qi, Int.reduceToNat, Nat.reduceMul, List.getElem?_cons_succ, List.getElem?_cons_zero, false_implies, true_implies, forall_const, implies_true, Nat.lt_add_one, Nat.min_eq_left, Nat.le_add_right, qc, fillA, evParts, repCells, splice, partA, List.length_cons, List.length_nil, List.take_succ_cons, List.take_zero, List.drop_succ_cons, List.drop_zero, List.cons_append, Option.bind_some, Nat.add_zero, Nat.zero_add, List.drop_nil, List.take_nil, Nat.le_refl, Nat.min_self, qv, qu, pureStep, memStep, WC_look, condQ_true, condQ_false, WO_gd, gdQ_tt, gdQ_ff, gdQ_tf, gdQ_ft, gdQ_u, resOf, resAll, resA, wp_some, kv_none, ↓reduceIte, Nat.reduceEqDiff, reduceCtorEq, decide_true, decide_false, Bool.not_true, Bool.not_false, List.map_cons, List.map_nil, List.nil_append, List.append_nil, Option.map_some, Option.map_none, if_true, if_false, true_and, and_true, Int.reduceEq, Int.reduceLT, Int.reduceLE, Int.reduceNeg, Nat.reduceAdd, Nat.reduceLeDiff, Bool.true_eq_false, Bool.false_eq_true, beq_self_eq_true, nilckA, bne, Bool.not_eq_true']
    exact ⟨Ext.refl _, pre, [], rfl, hsc, hpre, .inl rfl⟩
  | cons b tl =>
    have c1 : (0 : Int) < ((b :: tl).length : Int) := by rw [List.length_cons]; omega
    have hb : (b :: tl)[(0 : Nat)]? = some b := rfl
    have hl : (b :: tl).length = tl.length + 1 := rfl
    have q2 : (0 : Int) ≤ 1 ∧ (1 : Int) ≤ (((tl.length + 1 : Nat)) : Int) := by omega
    have q3 : ((b :: tl).take (tl.length + 1)).drop 1 = tl := by rw [← hl, List.take_length]; rfl
    simp (disch := first | omega | assumption | (simp only [List.length_cons, List.length_nil, len_newRow, len_set] <;> omega) | fail) only [k0, k1, c1, hb, Int.reduceToNat, eq_self, if_pos, if_neg, binStr_eql, binStr_neq, dec_t, dec_f, w64, wu64, wu8, Int.toNat_natCast, rQ_ret, rQ_norm, wQ_ret, wQ_norm, cutQ_norm, cutQ_exit, cutQ_ret, rngQ_norm, rngQ_ret, rngQ_exit, Nat.mul_one, loadA_new_eq, loadA_new_ne, loadA_set_eq, loadA_set_ne, hOf_new_eq, hOf_new_ne, hOf_set_eq, hOf_set_ne, wrRow_new_eq, wrRow_new_ne, lower_ge, lower_none, len_newRow, len_set, AV.undef, unA, qs, qb, qe, qi, Int.reduceToNat, Nat.reduceMul, List.getElem?_cons_succ, List.getElem?_cons_zero, false_implies, true_implies, forall_const, implies_true, Nat.lt_add_one, Nat.min_eq_left, Nat.le_add_right, qc, fillA, evParts, repCells, splice, partA, List.length_cons, List.length_nil, List.take_succ_cons, List.take_zero, List.drop_succ_cons, List.drop_zero, List.cons_append, Option.bind_some, Nat.add_zero, Nat.zero_add, List.drop_nil, List.take_nil, Nat.le_refl, Nat.min_self, qv, qu, pureStep, memStep, WC_look, condQ_true, condQ_false, WO_gd, gdQ_tt, gdQ_ff, gdQ_tf, gdQ_ft, gdQ_u, resOf, resAll, resA, wp_some, kv_none, ↓reduceIte, Nat.reduceEqDiff, reduceCtorEq, decide_true, decide_false, Bool.not_true, Bool.not_false, List.map_cons, List.map_nil, List.nil_append, List.append_nil, Option.map_some, Option.map_none, if_true, if_false, true_and, and_true, Int.reduceEq, Int.reduceLT, Int.reduceLE, Int.reduceNeg, Nat.reduceAdd, Nat.reduceLeDiff, Bool.true_eq_false, Bool.false_eq_true, beq_self_eq_true, nilckA, bne, Bool.not_eq_true']
    refine WO_callP rfl (Ext.refl _) (p117 _ i P hs b) ?_
    rintro v _ _ _ ⟨rfl, rfl⟩
    simp (disch := first | omega | assumption | (simp only [List.length_cons, List.length_nil, len_newRow, len_set] <;> omega) | fail) only [eq_self, if_pos, if_neg, binStr_eql, binStr_neq, dec_t, dec_f, w64, wu64, wu8, Int.toNat_natCast, rQ_ret, rQ_norm, wQ_ret, wQ_norm, cutQ_norm, cutQ_exit, cutQ_ret, rngQ_norm, rngQ_ret, rngQ_exit, Nat.mul_one, loadA_new_eq, loadA_new_ne, loadA_set_eq, loadA_set_ne, hOf_new_eq, hOf_new_ne, hOf_set_eq, hOf_set_ne, wrRow_new_eq, wrRow_new_ne, lower_ge, lower_none, len_newRow, len_set, AV.undef, unA, qs, qb, qe, qi, Int.reduceToNat, Nat.reduceMul, List.getElem?_cons_succ, List.getElem?_cons_zero, false_implies, true_implies, forall_const, implies_true, Nat.lt_add_one, Nat.min_eq_left, Nat.le_add_right, qc, fillA, evParts, repCells, splice, partA, List.length_cons, List.length_nil, List.take_succ_cons, List.take_zero, List.drop_succ_cons, List.drop_zero, List.cons_append, Option.bind_some, Nat.add_zero, Nat.zero_add, List.drop_nil, List.take_nil, Nat.le_refl, Nat.min_self, qv, qu, pureStep, memStep, WC_look, condQ_true, condQ_false, WO_gd, gdQ_tt, gdQ_ff, gdQ_tf, gdQ_ft, gdQ_u, resOf, resAll, resA, wp_some, kv_none, ↓reduceIte, Nat.reduceEqDiff, reduceCtorEq, decide_true, decide_false, Bool.not_true, Bool.not_false, List.map_cons, List.map_nil, List.nil_append, List.append_nil, Option.map_some, Option.map_none, if_true, if_false, true_and, and_true, Int.reduceEq, Int.reduceLT, Int.reduceLE, Int.reduceNeg, Nat.reduceAdd, Nat.reduceLeDiff, Bool.true_eq_false, Bool.false_eq_true, beq_self_eq_true, nilckA, bne, Bool.not_eq_true']
    refine WC_not (fun g => ?_) (fun g => ?_)
    · simp (disch := first | omega | assumption | (simp only [List.length_cons, List.length_nil, len_newRow, len_set] <;> omega) | fail) only [k0, k1, eq_self, if_pos, if_neg, binStr_eql, binStr_neq, dec_t, dec_f, w64, wu64, wu8, Int.toNat_natCast, rQ_ret, rQ_norm, wQ_ret, wQ_norm, cutQ_norm, cutQ_exit, cutQ_ret, rngQ_norm, rngQ_ret, rngQ_exit, Nat.mul_one, loadA_new_eq, loadA_new_ne, loadA_set_eq, loadA_set_ne, hOf_new_eq, hOf_new_ne, hOf_set_eq, hOf_set_ne, wrRow_new_eq, wrRow_new_ne, lower_ge, lower_none, len_newRow, len_set, AV.undef, unA, qs, qb, qe, qi, Int.reduceToNat, Nat.reduceMul, List.getElem?_cons_succ, List.getElem?_cons_zero, false_implies, true_implies, forall_const, implies_true, Nat.lt_add_one, Nat.min_eq_left, Nat.le_add_right, qc, fillA, evParts, repCells, splice, partA, List.length_cons, List.length_nil, List.take_succ_cons, List.take_zero, List.drop_succ_cons, List.drop_zero, List.cons_append, Option.bind_some, Nat.add_zero, Nat.zero_add, List.drop_nil, List.take_nil, Nat.le_refl, Nat.min_self, qv, qu, pureStep, memStep, WC_look, condQ_true, condQ_false, WO_gd, gdQ_tt, gdQ_ff, gdQ_tf, gdQ_ft, gdQ_u, resOf, resAll, resA, wp_some, kv_none, ↓reduceIte, Nat.reduceEqDiff, reduceCtorEq, decide_true, decide_false, Bool.not_true, Bool.not_false, List.map_cons, List.map_nil, List.nil_append, List.append_nil, Option.map_some, Option.map_none, if_true, if_false, true_and, and_true, Int.reduceEq, Int.reduceLT, Int.reduceLE, Int.reduceNeg, Nat.reduceAdd, Nat.reduceLeDiff, Bool.true_eq_false, Bool.false_eq_true, beq_self_eq_true, nilckA, bne, Bool.not_eq_true']
      exact ⟨Ext.refl _, pre, b :: tl, rfl, hsc, hpre, .inr ⟨b, tl, rfl, g⟩⟩
    · simp (disch := first | omega | assumption | (simp only [List.length_cons, List.length_nil, len_newRow, len_set] <;> omega) | fail) only [k0, k1, hl, q2, q3, hiA, loA, boundA, eq_self, if_pos, if_neg, binStr_eql, binStr_neq, dec_t, dec_f, w64, wu64, wu8, Int.toNat_natCast, rQ_ret, rQ_norm, wQ_ret, wQ_norm, cutQ_norm, cutQ_exit, cutQ_ret, rngQ_norm, rngQ_ret, rngQ_exit, Nat.mul_one, loadA_new_eq, loadA_new_ne, loadA_set_eq, loadA_set_ne, hOf_new_eq, hOf_new_ne, hOf_set_eq, hOf_set_ne, wrRow_new_eq, wrRow_new_ne, lower_ge, lower_none, len_newRow, len_set, AV.undef, unA, qs, qb, qe, qi, Int.reduceToNat, Nat.reduceMul, List.getElem?_cons_succ, List.getElem?_cons_zero, false_implies, true_implies, forall_const, implies_true, Nat.lt_add_one, Nat.min_eq_left, Nat.le_add_right, qc, fillA, evParts, repCells, splice, partA, List.length_cons, List.length_nil, List.take_succ_cons, List.take_zero, List.drop_succ_cons, List.drop_zero, List.cons_append, Option.bind_some, Nat.add_zero, Nat.zero_add, List.drop_nil, List.take_nil, Nat.le_refl, Nat.min_self, qv, qu, pureStep, memStep, WC_look, condQ_true, condQ_false, WO_gd, gdQ_tt, gdQ_ff, gdQ_tf, gdQ_ft, gdQ_u, resOf, resAll, resA, wp_some, kv_none, ↓reduceIte, Nat.reduceEqDiff, reduceCtorEq, decide_true, decide_false, Bool.not_true, Bool.not_false, List.map_cons, List.map_nil, List.nil_append, List.append_nil, Option.map_some, Option.map_none, if_true, if_false, true_and, and_true, Int.reduceEq, Int.reduceLT, Int.reduceLE, Int.reduceNeg, Nat.reduceAdd, Nat.reduceLeDiff, Bool.true_eq_false, Bool.false_eq_true, beq_self_eq_true, nilckA, bne, Bool.not_eq_true']
      exact ⟨_, by omega, pre ++ [b], tl, rfl, by rw [hsc]; simp, by rw [List.all_append, hpre]; simp [g], by rw [List.take_length]⟩

/-- strings.Trim's emptiness, for letters below 128. -/
theorem p73 (L s : List UInt8) (hL : ∀ x, x ∈ L → x.toNat < 128) (h2 : 2 ≤ L.length) (hlen : L.length ≤ 1000) (hs : s.length ≤ 9223372036854775806) (H : AHeap) :
    PF T 73 [.str s, .str L] H fun r _ => ∃ t, r = .str t ∧ (t = [] ↔ s.all (setL L) = true) := by
  refine PF_code rfl _ _ _ ?_
  simp only [a73]
  have es : binStr .eql s [] = some (.bool (decide (s = []))) := by unfold binStr; cases s <;> rfl
  have eL : binStr .eql L [] = some (.bool false) := by
    unfold binStr; cases L with
    | nil => simp at h2
    | cons x xs => rfl
  generalize hz : repCells [AV.bool false] 256 = z
  have hz1 : z.length = 256 := by rw [← hz]; exact rep1_len _ 256
  by_cases h0 : s = []
  · subst h0
    simp (disch := first | omega | assumption | (simp only [List.length_cons, List.length_nil, len_newRow, len_set] <;> omega) | fail) only [es, eL, eq_self, if_pos, if_neg, binStr_eql, binStr_neq, dec_t, dec_f, w64, wu64, wu8, Int.toNat_natCast, rQ_ret, rQ_norm, wQ_ret, wQ_norm, cutQ_norm, cutQ_exit, cutQ_ret, rngQ_norm, rngQ_ret, rngQ_exit, Nat.mul_one, loadA_new_eq, loadA_new_ne, loadA_set_eq, loadA_set_ne, hOf_new_eq, hOf_new_ne, hOf_set_eq, hOf_set_ne, wrRow_new_eq, wrRow_new_ne, lower_ge, lower_none, len_newRow, len_set, AV.undef, unA, qs, qb, qe, qi, Int.reduceToNat, Nat.reduceMul, List.getElem?_cons_succ, List.getElem?_cons_zero, false_implies, true_implies, forall_const, implies_true, Nat.lt_add_one, Nat.min_eq_left, Nat.le_add_right, qc, fillA, evParts, repCells, splice, partA, List.length_cons, List.length_nil, List.take_succ_cons, List.take_zero, List.drop_succ_cons, List.drop_zero, List.cons_append, Option.bind_some, Nat.add_zero, Nat.zero_add, List.drop_nil, List.take_nil, Nat.le_refl, Nat.min_self, qv, qu, pureStep, memStep, WC_look, condQ_true, condQ_false, WO_gd, gdQ_tt, gdQ_ff, gdQ_tf, gdQ_ft, gdQ_u, resOf, resAll, resA, wp_some, kv_none, ↓reduceIte, Nat.reduceEqDiff, reduceCtorEq, decide_true, decide_false, Bool.not_true, Bool.not_false, List.map_cons, List.map_nil, List.nil_append, List.append_nil, Option.map_some, Option.map_none, if_true, if_false, true_and, and_true, Int.reduceEq, Int.reduceLT, Int.reduceLE, Int.reduceNeg, Nat.reduceAdd, Nat.reduceLeDiff, Bool.true_eq_false, Bool.false_eq_true, beq_self_eq_true, nilckA, bne, Bool.not_eq_true']
    exact ⟨Ext.refl _, [], rfl, by simp⟩
  rw [decide_eq_false h0] at es
  have c1 : ¬ (L.length : Int) = 1 := by omega
  simp (disch := first | omega | assumption | (simp only [List.length_cons, List.length_nil, len_newRow, len_set] <;> omega) | fail) only [es, eL, c1, eq_self, if_pos, if_neg, binStr_eql, binStr_neq, dec_t, dec_f, w64, wu64, wu8, Int.toNat_natCast, rQ_ret, rQ_norm, wQ_ret, wQ_norm, cutQ_norm, cutQ_exit, cutQ_ret, rngQ_norm, rngQ_ret, rngQ_exit, Nat.mul_one, loadA_new_eq, loadA_new_ne, loadA_set_eq, loadA_set_ne, hOf_new_eq, hOf_new_ne, hOf_set_eq, hOf_set_ne, wrRow_new_eq, wrRow_new_ne, lower_ge, lower_none, len_newRow, len_set, AV.undef, unA, qs, qb, qe, qi, Int.reduceToNat, Nat.reduceMul, List.getElem?_cons_succ, List.getElem?_cons_zero, false_implies, true_implies, forall_const, implies_true, Nat.lt_add_one, Nat.min_eq_left, Nat.le_add_right, qc, fillA, evParts, repCells, splice, partA, List.length_cons, List.length_nil, List.take_succ_cons, List.take_zero, List.drop_succ_cons, List.drop_zero, List.cons_append, Option.bind_some, Nat.add_zero, Nat.zero_add, List.drop_nil, List.take_nil, Nat.le_refl, Nat.min_self, qv, qu, pureStep, memStep, WC_look, condQ_true, condQ_false, WO_gd, gdQ_tt, gdQ_ff, gdQ_tf, gdQ_ft, gdQ_u, resOf, resAll, resA, wp_some, kv_none, ↓reduceIte, Nat.reduceEqDiff, reduceCtorEq, decide_true, decide_false, Bool.not_true, Bool.not_false, List.map_cons, List.map_nil, List.nil_append, List.append_nil, Option.map_some, Option.map_none, if_true, if_false, true_and, and_true, Int.reduceEq, Int.reduceLT, Int.reduceLE, Int.reduceNeg, Nat.reduceAdd, Nat.reduceLeDiff, Bool.true_eq_false, Bool.false_eq_true, beq_self_eq_true, nilckA, bne, Bool.not_eq_true']
  refine WO_callP rfl (Ext.refl _) (p100 L hL hlen H) ?_
  rintro v H1 hx1 _ ⟨cs, rfl, hcl, hcs⟩
  have ht : z.take 0 ++ cs ++ z.drop 256 = cs := by simp [List.drop_eq_nil_of_le (show z.length ≤ 256 by omega)]
  have hlen1 := hx1.len
  have hd : z.drop 256 = [] := List.drop_eq_nil_of_le (by omega)
  simp (disch := first | omega | assumption | (simp only [List.length_cons, List.length_nil, len_newRow, len_set] <;> omega) | fail) only [hcl, hd, eq_self, if_pos, if_neg, binStr_eql, binStr_neq, dec_t, dec_f, w64, wu64, wu8, Int.toNat_natCast, rQ_ret, rQ_norm, wQ_ret, wQ_norm, cutQ_norm, cutQ_exit, cutQ_ret, rngQ_norm, rngQ_ret, rngQ_exit, Nat.mul_one, loadA_new_eq, loadA_new_ne, loadA_set_eq, loadA_set_ne, hOf_new_eq, hOf_new_ne, hOf_set_eq, hOf_set_ne, wrRow_new_eq, wrRow_new_ne, lower_ge, lower_none, len_newRow, len_set, AV.undef, unA, qs, qb, qe, qi, Int.reduceToNat, Nat.reduceMul, List.getElem?_cons_succ, List.getElem?_cons_zero, false_implies, true_implies, forall_const, implies_true, Nat.lt_add_one, Nat.min_eq_left, Nat.le_add_right, qc, fillA, evParts, repCells, splice, partA, List.length_cons, List.length_nil, List.take_succ_cons, List.take_zero, List.drop_succ_cons, List.drop_zero, List.cons_append, Option.bind_some, Nat.add_zero, Nat.zero_add, List.drop_nil, List.take_nil, Nat.le_refl, Nat.min_self, qv, qu, pureStep, memStep, WC_look, condQ_true, condQ_false, WO_gd, gdQ_tt, gdQ_ff, gdQ_tf, gdQ_ft, gdQ_u, resOf, resAll, resA, wp_some, kv_none, ↓reduceIte, Nat.reduceEqDiff, reduceCtorEq, decide_true, decide_false, Bool.not_true, Bool.not_false, List.map_cons, List.map_nil, List.nil_append, List.append_nil, Option.map_some, Option.map_none, if_true, if_false, true_and, and_true, Int.reduceEq, Int.reduceLT, Int.reduceLE, Int.reduceNeg, Nat.reduceAdd, Nat.reduceLeDiff, Bool.true_eq_false, Bool.false_eq_true, beq_self_eq_true, nilckA, bne, Bool.not_eq_true']
  have hset : SetAt (newRow H1 cs 0) H1.length (setL L) := ⟨_, by rw [hOf_newRow, if_pos rfl], hcs⟩
  refine WO_callP rfl hx1.nr (p102 _ _ _ hset s hs) ?_
  rintro v H2 hx2 hx3 ⟨cur, suf, rfl, hsc, hsuf, hcur⟩
  have hcl2 : cur.length ≤ s.length := by rw [hsc]; simp
  simp (disch := first | omega | assumption | (simp only [List.length_cons, List.length_nil, len_newRow, len_set] <;> omega) | fail) only [eq_self, if_pos, if_neg, binStr_eql, binStr_neq, dec_t, dec_f, w64, wu64, wu8, Int.toNat_natCast, rQ_ret, rQ_norm, wQ_ret, wQ_norm, cutQ_norm, cutQ_exit, cutQ_ret, rngQ_norm, rngQ_ret, rngQ_exit, Nat.mul_one, loadA_new_eq, loadA_new_ne, loadA_set_eq, loadA_set_ne, hOf_new_eq, hOf_new_ne, hOf_set_eq, hOf_set_ne, wrRow_new_eq, wrRow_new_ne, lower_ge, lower_none, len_newRow, len_set, AV.undef, unA, qs, qb, qe, qi, Int.reduceToNat, Nat.reduceMul, List.getElem?_cons_succ, List.getElem?_cons_zero, false_implies, true_implies, forall_const, implies_true, Nat.lt_add_one, Nat.min_eq_left, Nat.le_add_right, qc, fillA, evParts, repCells, splice, partA, List.length_cons, List.length_nil, List.take_succ_cons, List.take_zero, List.drop_succ_cons, List.drop_zero, List.cons_append, Option.bind_some, Nat.add_zero, Nat.zero_add, List.drop_nil, List.take_nil, Nat.le_refl, Nat.min_self, qv, qu, pureStep, memStep, WC_look, condQ_true, condQ_false, WO_gd, gdQ_tt, gdQ_ff, gdQ_tf, gdQ_ft, gdQ_u, resOf, resAll, resA, wp_some, kv_none, ↓reduceIte, Nat.reduceEqDiff, reduceCtorEq, decide_true, decide_false, Bool.not_true, Bool.not_false, List.map_cons, List.map_nil, List.nil_append, List.append_nil, Option.map_some, Option.map_none, if_true, if_false, true_and, and_true, Int.reduceEq, Int.reduceLT, Int.reduceLE, Int.reduceNeg, Nat.reduceAdd, Nat.reduceLeDiff, Bool.true_eq_false, Bool.false_eq_true, beq_self_eq_true, nilckA, bne, Bool.not_eq_true']
  refine WO_callP rfl hx2 (p101 _ _ _ (hset.ext hx3) cur (by omega)) ?_
  rintro v H3 hx4 hx5 ⟨pre, cu2, rfl, hsc2, hpre, hcur2⟩
  simp (disch := first | omega | assumption | (simp only [List.length_cons, List.length_nil, len_newRow, len_set] <;> omega) | fail) only [eq_self, if_pos, if_neg, binStr_eql, binStr_neq, dec_t, dec_f, w64, wu64, wu8, Int.toNat_natCast, rQ_ret, rQ_norm, wQ_ret, wQ_norm, cutQ_norm, cutQ_exit, cutQ_ret, rngQ_norm, rngQ_ret, rngQ_exit, Nat.mul_one, loadA_new_eq, loadA_new_ne, loadA_set_eq, loadA_set_ne, hOf_new_eq, hOf_new_ne, hOf_set_eq, hOf_set_ne, wrRow_new_eq, wrRow_new_ne, lower_ge, lower_none, len_newRow, len_set, AV.undef, unA, qs, qb, qe, qi, Int.reduceToNat, Nat.reduceMul, List.getElem?_cons_succ, List.getElem?_cons_zero, false_implies, true_implies, forall_const, implies_true, Nat.lt_add_one, Nat.min_eq_left, Nat.le_add_right, qc, fillA, evParts, repCells, splice, partA, List.length_cons, List.length_nil, List.take_succ_cons, List.take_zero, List.drop_succ_cons, List.drop_zero, List.cons_append, Option.bind_some, Nat.add_zero, Nat.zero_add, List.drop_nil, List.take_nil, Nat.le_refl, Nat.min_self, qv, qu, pureStep, memStep, WC_look, condQ_true, condQ_false, WO_gd, gdQ_tt, gdQ_ff, gdQ_tf, gdQ_ft, gdQ_u, resOf, resAll, resA, wp_some, kv_none, ↓reduceIte, Nat.reduceEqDiff, reduceCtorEq, decide_true, decide_false, Bool.not_true, Bool.not_false, List.map_cons, List.map_nil, List.nil_append, List.append_nil, Option.map_some, Option.map_none, if_true, if_false, true_and, and_true, Int.reduceEq, Int.reduceLT, Int.reduceLE, Int.reduceNeg, Nat.reduceAdd, Nat.reduceLeDiff, Bool.true_eq_false, Bool.false_eq_true, beq_self_eq_true, nilckA, bne, Bool.not_eq_true']
  refine ⟨hx4, cu2, rfl, ?_⟩
  rw [hsc, List.all_append, hsuf, Bool.and_true]
  constructor
  · rintro rfl
    rw [hsc2, List.append_nil]; exact hpre
  · intro hall
    rcases hcur with rfl | ⟨ini, b, rfl, hb⟩
    · cases pre with
      | nil => simpa using hsc2.symm
      | cons _ _ => simp at hsc2
    · rw [List.all_append] at hall
      simp [hb] at hall

def letters : List UInt8 := [97, 98, 99, 100, 101, 102, 103, 104, 105, 106, 107, 108, 109, 110, 111, 112, 113, 114, 115, 116, 117, 118, 119, 120, 121, 122, 65, 66, 67, 68, 69, 70, 71, 72, 73, 74, 75, 76, 77, 78, 79, 80, 81, 82, 83, 84, 85, 86, 87, 88, 89, 90, 48, 49, 50, 51, 52, 53, 54, 55, 56, 57, 45]
theorem letters_lt : ∀ x, x ∈ letters → x.toNat < 128 := by
  have : letters.all (fun x => decide (x.toNat < 128)) = true := by decide +kernel
  intro x hx
  simpa using List.all_eq_true.1 this x hx
theorem letters_nm : ∀ b : UInt8, setL letters b = isNm b := by
  have : ∀ n, n < 256 → setL letters (UInt8.ofNat n) = isNm (UInt8.ofNat n) := by decide +kernel
  intro b
  have h := this b.toNat b.toNat_lt
  simpa using h

/-- command.Name -/
theorem p37 (s : List UInt8) (hs : s.length ≤ 9223372036854775806) (H : AHeap) : PF T 37 [.str s] H fun r _ => r = .bool (nameOk s) := by
  refine PF_code rfl _ _ _ ?_
  simp only [a37]
  have es : binStr .neq s [] = some (.bool (!decide (s = []))) := by unfold binStr; cases s <;> rfl
  unfold nameOk
  by_cases h0 : s = []
  · subst h0
    simp (disch := first | omega | assumption | (simp only [List.length_cons, List.length_nil, len_newRow, len_set] <;> omega) | fail) only [es, eq_self, if_pos, if_neg, binStr_eql, binStr_neq, dec_t, dec_f, w64, wu64, wu8, Int.toNat_natCast, rQ_ret, rQ_norm, wQ_ret, wQ_norm, cutQ_norm, cutQ_exit, cutQ_ret, rngQ_norm, rngQ_ret, rngQ_exit, Nat.mul_one, loadA_new_eq, loadA_new_ne, loadA_set_eq, loadA_set_ne, hOf_new_eq, hOf_new_ne, hOf_set_eq, hOf_set_ne, wrRow_new_eq, wrRow_new_ne, lower_ge, lower_none, len_newRow, len_set, AV.undef, unA, qs, qb, qe, qi, Int.reduceToNat, Nat.reduceMul, List.getElem?_cons_succ, List.getElem?_cons_zero, false_implies, true_implies, forall_const, implies_true, Nat.lt_add_one, Nat.min_eq_left, Nat.le_add_right, qc, fillA, evParts, repCells, splice, partA, List.length_cons, List.length_nil, List.take_succ_cons, List.take_zero, List.drop_succ_cons, List.drop_zero, List.cons_append, Option.bind_some, Nat.add_zero, Nat.zero_add, List.drop_nil, List.take_nil, Nat.le_refl, Nat.min_self, qv, qu, pureStep, memStep, WC_look, condQ_true, condQ_false, WO_gd, gdQ_tt, gdQ_ff, gdQ_tf, gdQ_ft, gdQ_u, resOf, resAll, resA, wp_some, kv_none, ↓reduceIte, Nat.reduceEqDiff, reduceCtorEq, decide_true, decide_false, Bool.not_true, Bool.not_false, List.map_cons, List.map_nil, List.nil_append, List.append_nil, Option.map_some, Option.map_none, if_true, if_false, true_and, and_true, Int.reduceEq, Int.reduceLT, Int.reduceLE, Int.reduceNeg, Nat.reduceAdd, Nat.reduceLeDiff, Bool.true_eq_false, Bool.false_eq_true, beq_self_eq_true, nilckA, bne, Bool.not_eq_true']
    exact ⟨Ext.refl _, rfl⟩
  rw [decide_eq_false h0] at es
  have h1 : 1 ≤ s.length := by cases s with | nil => exact absurd rfl h0 | cons _ _ => simp
  by_cases h24 : s.length ≤ 24
  · have c1 : (s.length : Int) ≤ 24 := by omega
    simp (disch := first | omega | assumption | (simp only [List.length_cons, List.length_nil, len_newRow, len_set] <;> omega) | fail) only [es, c1, eq_self, if_pos, if_neg, binStr_eql, binStr_neq, dec_t, dec_f, w64, wu64, wu8, Int.toNat_natCast, rQ_ret, rQ_norm, wQ_ret, wQ_norm, cutQ_norm, cutQ_exit, cutQ_ret, rngQ_norm, rngQ_ret, rngQ_exit, Nat.mul_one, loadA_new_eq, loadA_new_ne, loadA_set_eq, loadA_set_ne, hOf_new_eq, hOf_new_ne, hOf_set_eq, hOf_set_ne, wrRow_new_eq, wrRow_new_ne, lower_ge, lower_none, len_newRow, len_set, AV.undef, unA, qs, qb, qe, qi, Int.reduceToNat, Nat.reduceMul, List.getElem?_cons_succ, List.getElem?_cons_zero, false_implies, true_implies, forall_const, implies_true, Nat.lt_add_one, Nat.min_eq_left, Nat.le_add_right, qc, fillA, evParts, repCells, splice, partA, List.length_cons, List.length_nil, List.take_succ_cons, List.take_zero, List.drop_succ_cons, List.drop_zero, List.cons_append, Option.bind_some, Nat.add_zero, Nat.zero_add, List.drop_nil, List.take_nil, Nat.le_refl, Nat.min_self, qv, qu, pureStep, memStep, WC_look, condQ_true, condQ_false, WO_gd, gdQ_tt, gdQ_ff, gdQ_tf, gdQ_ft, gdQ_u, resOf, resAll, resA, wp_some, kv_none, ↓reduceIte, Nat.reduceEqDiff, reduceCtorEq, decide_true, decide_false, Bool.not_true, Bool.not_false, List.map_cons, List.map_nil, List.nil_append, List.append_nil, Option.map_some, Option.map_none, if_true, if_false, true_and, and_true, Int.reduceEq, Int.reduceLT, Int.reduceLE, Int.reduceNeg, Nat.reduceAdd, Nat.reduceLeDiff, Bool.true_eq_false, Bool.false_eq_true, beq_self_eq_true, nilckA, bne, Bool.not_eq_true']
    refine WO_callP rfl (Ext.refl _) (p73 letters s letters_lt (by decide) (by decide) hs H) ?_
    rintro v H1 hx1 _ ⟨t, rfl, ht⟩
    have et : binStr .eql t [] = some (.bool (decide (t = []))) := by unfold binStr; cases t <;> rfl
    simp (disch := first | omega | assumption | (simp only [List.length_cons, List.length_nil, len_newRow, len_set] <;> omega) | fail) only [et, eq_self, if_pos, if_neg, binStr_eql, binStr_neq, dec_t, dec_f, w64, wu64, wu8, Int.toNat_natCast, rQ_ret, rQ_norm, wQ_ret, wQ_norm, cutQ_norm, cutQ_exit, cutQ_ret, rngQ_norm, rngQ_ret, rngQ_exit, Nat.mul_one, loadA_new_eq, loadA_new_ne, loadA_set_eq, loadA_set_ne, hOf_new_eq, hOf_new_ne, hOf_set_eq, hOf_set_ne, wrRow_new_eq, wrRow_new_ne, lower_ge, lower_none, len_newRow, len_set, AV.undef, unA, qs, qb, qe, qi, Int.reduceToNat, Nat.reduceMul, List.getElem?_cons_succ, List.getElem?_cons_zero, false_implies, true_implies, forall_const, implies_true, Nat.lt_add_one, Nat.min_eq_left, Nat.le_add_right, qc, fillA, evParts, repCells, splice, partA, List.length_cons, List.length_nil, List.take_succ_cons, List.take_zero, List.drop_succ_cons, List.drop_zero, List.cons_append, Option.bind_some, Nat.add_zero, Nat.zero_add, List.drop_nil, List.take_nil, Nat.le_refl, Nat.min_self, qv, qu, pureStep, memStep, WC_look, condQ_true, condQ_false, WO_gd, gdQ_tt, gdQ_ff, gdQ_tf, gdQ_ft, gdQ_u, resOf, resAll, resA, wp_some, kv_none, ↓reduceIte, Nat.reduceEqDiff, reduceCtorEq, decide_true, decide_false, Bool.not_true, Bool.not_false, List.map_cons, List.map_nil, List.nil_append, List.append_nil, Option.map_some, Option.map_none, if_true, if_false, true_and, and_true, Int.reduceEq, Int.reduceLT, Int.reduceLE, Int.reduceNeg, Nat.reduceAdd, Nat.reduceLeDiff, Bool.true_eq_false, Bool.false_eq_true, beq_self_eq_true, nilckA, bne, Bool.not_eq_true']
    refine ⟨hx1, ?_⟩
    congr 1
    have : setL letters = isNm := funext letters_nm
    rw [this] at ht
    simp only [decide_eq_true h1, decide_eq_true h24, Bool.and_true]
    rw [Bool.eq_iff_iff, decide_eq_true_iff, ht]
  · have c1 : ¬ (s.length : Int) ≤ 24 := by omega
    simp (disch := first | omega | assumption | (simp only [List.length_cons, List.length_nil, len_newRow, len_set] <;> omega) | fail) only [es, c1, eq_self, if_pos, if_neg, binStr_eql, binStr_neq, dec_t, dec_f, w64, wu64, wu8, Int.toNat_natCast, rQ_ret, rQ_norm, wQ_ret, wQ_norm, cutQ_norm, cutQ_exit, cutQ_ret, rngQ_norm, rngQ_ret, rngQ_exit, Nat.mul_one, loadA_new_eq, loadA_new_ne, loadA_set_eq, loadA_set_ne, hOf_new_eq, hOf_new_ne, hOf_set_eq, hOf_set_ne, wrRow_new_eq, wrRow_new_ne, lower_ge, lower_none, len_newRow, len_set, AV.undef, unA, qs, qb, qe, qi, Int.reduceToNat, Nat.reduceMul, List.getElem?_cons_succ, List.getElem?_cons_zero, false_implies, true_implies, forall_const, implies_true, Nat.lt_add_one, Nat.min_eq_left, Nat.le_add_right, qc, fillA, evParts, repCells, splice, partA, List.length_cons, List.length_nil, List.take_succ_cons, List.take_zero, List.drop_succ_cons, List.drop_zero, List.cons_append, Option.bind_some, Nat.add_zero, Nat.zero_add, List.drop_nil, List.take_nil, Nat.le_refl, Nat.min_self, qv, qu, pureStep, memStep, WC_look, condQ_true, condQ_false, WO_gd, gdQ_tt, gdQ_ff, gdQ_tf, gdQ_ft, gdQ_u, resOf, resAll, resA, wp_some, kv_none, ↓reduceIte, Nat.reduceEqDiff, reduceCtorEq, decide_true, decide_false, Bool.not_true, Bool.not_false, List.map_cons, List.map_nil, List.nil_append, List.append_nil, Option.map_some, Option.map_none, if_true, if_false, true_and, and_true, Int.reduceEq, Int.reduceLT, Int.reduceLE, Int.reduceNeg, Nat.reduceAdd, Nat.reduceLeDiff, Bool.true_eq_false, Bool.false_eq_true, beq_self_eq_true, nilckA, bne, Bool.not_eq_true']
    refine ⟨Ext.refl _, ?_⟩
    simp [h24]
end Go.Proofs.Qq.Qqd

namespace Go.Proofs.Qq.Qqd
open Go.Proofs.Qq

/-- A message: its kind, its numbers, its text. -/
structure Msg where
  kind : Int
  l : List Int
  text : List UInt8
  deriving DecidableEq

structure MV (H : AHeap) (v : AV) (m : Msg) : Prop where
  ex : ∃ a n c, v = .agg [.int .i64 m.kind, .slice a n c, .str m.text] ∧ SE eInt H a n c m.l

theorem MV.ext {H H' : AHeap} {v : AV} {m : Msg} (h : MV H v m) (hx : Ext H H') : MV H' v m := let ⟨a, n, c, h1, h2⟩ := h.ex; ⟨a, n, c, h1, h2.ext hx⟩

def mright (m : Msg) : Bool := rightM m.kind m.l.length m.text

theorem p54 {H : AHeap} {v : AV} {m : Msg} (h : MV H v m) (hl : m.text.length ≤ 9223372036854775806) : PF T 54 [v] H fun r _ => r = .bool (mright m) := by
  obtain ⟨a, n, c, rfl, hs⟩ := h.ex
  obtain rfl := hs.n
  exact run54 _ _ _ _ _ hl H _ fun H' hx => ⟨rfl, hx, rfl⟩

theorem p51 (k : Int) (H : AHeap) : PF T 51 [.int .i64 k] H fun r _ => r = .tup [.int .i64 (msgSize k).1, .bool (msgSize k).2] :=
  run51 k H _ fun H' hx => ⟨rfl, hx, rfl⟩
theorem p52 (k : Int) (H : AHeap) : PF T 52 [.int .i64 k] H fun r _ => r = .tup [.int .i64 (msgSize k).1, .bool (msgSize k).2] :=
  run52 k H _ ⟨rfl, Ext.refl _, rfl⟩

/-- message.Right -/
theorem p17 {H : AHeap} {v : AV} {m : Msg} (h : MV H v m) (hl : m.text.length ≤ 9223372036854775806) : PF T 17 [v] H fun r _ => r = .bool (mright m) := by
  obtain ⟨a, n, c, rfl, hs⟩ := h.ex
  obtain rfl := hs.n
  refine PF_code rfl _ _ _ ?_
  simp only [a17]
  simp (disch := first | omega | assumption | (simp only [List.length_cons, List.length_nil, len_newRow, len_set] <;> omega) | fail) only [eq_self, if_pos, if_neg, binStr_eql, binStr_neq, dec_t, dec_f, w64, wu64, wu8, Int.toNat_natCast, rQ_ret, rQ_norm, wQ_ret, wQ_norm, cutQ_norm, cutQ_exit, cutQ_ret, rngQ_norm, rngQ_ret, rngQ_exit, Nat.mul_one, loadA_new_eq, loadA_new_ne, loadA_set_eq, loadA_set_ne, hOf_new_eq, hOf_new_ne, hOf_set_eq, hOf_set_ne, wrRow_new_eq, wrRow_new_ne, lower_ge, lower_none, len_newRow, len_set, AV.undef, unA, qs, qb, qe, qi, Int.reduceToNat, Nat.reduceMul, List.getElem?_cons_succ, List.getElem?_cons_zero, false_implies, true_implies, forall_const, implies_true, Nat.lt_add_one, Nat.min_eq_left, Nat.le_add_right, qc, fillA, evParts, repCells, splice, partA, List.length_cons, List.length_nil, List.take_succ_cons, List.take_zero, List.drop_succ_cons, List.drop_zero, List.cons_append, Option.bind_some, Nat.add_zero, Nat.zero_add, List.drop_nil, List.take_nil, Nat.le_refl, Nat.min_self, qv, qu, pureStep, memStep, WC_look, condQ_true, condQ_false, WO_gd, gdQ_tt, gdQ_ff, gdQ_tf, gdQ_ft, gdQ_u, resOf, resAll, resA, wp_some, kv_none, ↓reduceIte, Nat.reduceEqDiff, reduceCtorEq, decide_true, decide_false, Bool.not_true, Bool.not_false, List.map_cons, List.map_nil, List.nil_append, List.append_nil, Option.map_some, Option.map_none, if_true, if_false, true_and, and_true, Int.reduceEq, Int.reduceLT, Int.reduceLE, Int.reduceNeg, Nat.reduceAdd, Nat.reduceLeDiff, Bool.true_eq_false, Bool.false_eq_true, beq_self_eq_true, nilckA, bne, Bool.not_eq_true']
  refine WO_callP rfl (Ext.refl _).nr (p51 m.kind _) ?_
  rintro v H1 hx1 hx2 rfl
  have hlen1 := hx2.len
  rw [len_newRow] at hlen1
  obtain ⟨r, hr⟩ : ∃ r : Row, hOf H1 H.length = some ⟨[.int .i64 m.kind, .slice a m.l.length c, .str m.text], true, 0⟩ := ⟨⟨[], true, 0⟩, hx2.row _ _ (by rw [hOf_newRow, if_pos rfl])⟩
  have l0 : loadA false 1 H1 (.ptr (some (H.length, 0))) = some (.int .i64 m.kind) := by rw [loadA_ptr, hr]; rfl
  have l1 : loadA false 1 H1 (.ptr (some (H.length, 1))) = some (.slice a m.l.length c) := by rw [loadA_ptr, hr]; rfl
  have l2 : loadA false 1 H1 (.ptr (some (H.length, 2))) = some (.str m.text) := by rw [loadA_ptr, hr]; rfl
  unfold mright rightM
  generalize msgSize m.kind = z
  obtain ⟨zn, zb⟩ := z
  simp (disch := first | omega | assumption | (simp only [List.length_cons, List.length_nil, len_newRow, len_set] <;> omega) | fail) only [eq_self, if_pos, if_neg, binStr_eql, binStr_neq, dec_t, dec_f, w64, wu64, wu8, Int.toNat_natCast, rQ_ret, rQ_norm, wQ_ret, wQ_norm, cutQ_norm, cutQ_exit, cutQ_ret, rngQ_norm, rngQ_ret, rngQ_exit, Nat.mul_one, loadA_new_eq, loadA_new_ne, loadA_set_eq, loadA_set_ne, hOf_new_eq, hOf_new_ne, hOf_set_eq, hOf_set_ne, wrRow_new_eq, wrRow_new_ne, lower_ge, lower_none, len_newRow, len_set, AV.undef, unA, qs, qb, qe, qi, Int.reduceToNat, Nat.reduceMul, List.getElem?_cons_succ, List.getElem?_cons_zero, false_implies, true_implies, forall_const, implies_true, Nat.lt_add_one, Nat.min_eq_left, Nat.le_add_right, qc, fillA, evParts, repCells, splice, partA, List.length_cons, List.length_nil, List.take_succ_cons, List.take_zero, List.drop_succ_cons, List.drop_zero, List.cons_append, Option.bind_some, Nat.add_zero, Nat.zero_add, List.drop_nil, List.take_nil, Nat.le_refl, Nat.min_self, qv, qu, pureStep, memStep, WC_look, condQ_true, condQ_false, WO_gd, gdQ_tt, gdQ_ff, gdQ_tf, gdQ_ft, gdQ_u, resOf, resAll, resA, wp_some, kv_none, ↓reduceIte, Nat.reduceEqDiff, reduceCtorEq, decide_true, decide_false, Bool.not_true, Bool.not_false, List.map_cons, List.map_nil, List.nil_append, List.append_nil, Option.map_some, Option.map_none, if_true, if_false, true_and, and_true, Int.reduceEq, Int.reduceLT, Int.reduceLE, Int.reduceNeg, Nat.reduceAdd, Nat.reduceLeDiff, Bool.true_eq_false, Bool.false_eq_true, beq_self_eq_true, nilckA, bne, Bool.not_eq_true']
  cases zb with
  | false =>
    simp (disch := first | omega | assumption | (simp only [List.length_cons, List.length_nil, len_newRow, len_set] <;> omega) | fail) only [eq_self, if_pos, if_neg, binStr_eql, binStr_neq, dec_t, dec_f, w64, wu64, wu8, Int.toNat_natCast, rQ_ret, rQ_norm, wQ_ret, wQ_norm, cutQ_norm, cutQ_exit, cutQ_ret, rngQ_norm, rngQ_ret, rngQ_exit, Nat.mul_one, loadA_new_eq, loadA_new_ne, loadA_set_eq, loadA_set_ne, hOf_new_eq, hOf_new_ne, hOf_set_eq, hOf_set_ne, wrRow_new_eq, wrRow_new_ne, lower_ge, lower_none, len_newRow, len_set, AV.undef, unA, qs, qb, qe, qi, Int.reduceToNat, Nat.reduceMul, List.getElem?_cons_succ, List.getElem?_cons_zero, false_implies, true_implies, forall_const, implies_true, Nat.lt_add_one, Nat.min_eq_left, Nat.le_add_right, qc, fillA, evParts, repCells, splice, partA, List.length_cons, List.length_nil, List.take_succ_cons, List.take_zero, List.drop_succ_cons, List.drop_zero, List.cons_append, Option.bind_some, Nat.add_zero, Nat.zero_add, List.drop_nil, List.take_nil, Nat.le_refl, Nat.min_self, qv, qu, pureStep, memStep, WC_look, condQ_true, condQ_false, WO_gd, gdQ_tt, gdQ_ff, gdQ_tf, gdQ_ft, gdQ_u, resOf, resAll, resA, wp_some, kv_none, ↓reduceIte, Nat.reduceEqDiff, reduceCtorEq, decide_true, decide_false, Bool.not_true, Bool.not_false, List.map_cons, List.map_nil, List.nil_append, List.append_nil, Option.map_some, Option.map_none, if_true, if_false, true_and, and_true, Int.reduceEq, Int.reduceLT, Int.reduceLE, Int.reduceNeg, Nat.reduceAdd, Nat.reduceLeDiff, Bool.true_eq_false, Bool.false_eq_true, beq_self_eq_true, nilckA, bne, Bool.not_eq_true']
    exact ⟨hx1, rfl⟩
  | true =>
    simp (disch := first | omega | assumption | (simp only [List.length_cons, List.length_nil, len_newRow, len_set] <;> omega) | fail) only [l1, eq_self, if_pos, if_neg, binStr_eql, binStr_neq, dec_t, dec_f, w64, wu64, wu8, Int.toNat_natCast, rQ_ret, rQ_norm, wQ_ret, wQ_norm, cutQ_norm, cutQ_exit, cutQ_ret, rngQ_norm, rngQ_ret, rngQ_exit, Nat.mul_one, loadA_new_eq, loadA_new_ne, loadA_set_eq, loadA_set_ne, hOf_new_eq, hOf_new_ne, hOf_set_eq, hOf_set_ne, wrRow_new_eq, wrRow_new_ne, lower_ge, lower_none, len_newRow, len_set, AV.undef, unA, qs, qb, qe, qi, Int.reduceToNat, Nat.reduceMul, List.getElem?_cons_succ, List.getElem?_cons_zero, false_implies, true_implies, forall_const, implies_true, Nat.lt_add_one, Nat.min_eq_left, Nat.le_add_right, qc, fillA, evParts, repCells, splice, partA, List.length_cons, List.length_nil, List.take_succ_cons, List.take_zero, List.drop_succ_cons, List.drop_zero, List.cons_append, Option.bind_some, Nat.add_zero, Nat.zero_add, List.drop_nil, List.take_nil, Nat.le_refl, Nat.min_self, qv, qu, pureStep, memStep, WC_look, condQ_true, condQ_false, WO_gd, gdQ_tt, gdQ_ff, gdQ_tf, gdQ_ft, gdQ_u, resOf, resAll, resA, wp_some, kv_none, ↓reduceIte, Nat.reduceEqDiff, reduceCtorEq, decide_true, decide_false, Bool.not_true, Bool.not_false, List.map_cons, List.map_nil, List.nil_append, List.append_nil, Option.map_some, Option.map_none, if_true, if_false, true_and, and_true, Int.reduceEq, Int.reduceLT, Int.reduceLE, Int.reduceNeg, Nat.reduceAdd, Nat.reduceLeDiff, Bool.true_eq_false, Bool.false_eq_true, beq_self_eq_true, nilckA, bne, Bool.not_eq_true']
    refine WC_ndec (fun g => ?_) (fun g => ?_)
    · simp (disch := first | omega | assumption | (simp only [List.length_cons, List.length_nil, len_newRow, len_set] <;> omega) | fail) only [eq_self, if_pos, if_neg, binStr_eql, binStr_neq, dec_t, dec_f, w64, wu64, wu8, Int.toNat_natCast, rQ_ret, rQ_norm, wQ_ret, wQ_norm, cutQ_norm, cutQ_exit, cutQ_ret, rngQ_norm, rngQ_ret, rngQ_exit, Nat.mul_one, loadA_new_eq, loadA_new_ne, loadA_set_eq, loadA_set_ne, hOf_new_eq, hOf_new_ne, hOf_set_eq, hOf_set_ne, wrRow_new_eq, wrRow_new_ne, lower_ge, lower_none, len_newRow, len_set, AV.undef, unA, qs, qb, qe, qi, Int.reduceToNat, Nat.reduceMul, List.getElem?_cons_succ, List.getElem?_cons_zero, false_implies, true_implies, forall_const, implies_true, Nat.lt_add_one, Nat.min_eq_left, Nat.le_add_right, qc, fillA, evParts, repCells, splice, partA, List.length_cons, List.length_nil, List.take_succ_cons, List.take_zero, List.drop_succ_cons, List.drop_zero, List.cons_append, Option.bind_some, Nat.add_zero, Nat.zero_add, List.drop_nil, List.take_nil, Nat.le_refl, Nat.min_self, qv, qu, pureStep, memStep, WC_look, condQ_true, condQ_false, WO_gd, gdQ_tt, gdQ_ff, gdQ_tf, gdQ_ft, gdQ_u, resOf, resAll, resA, wp_some, kv_none, ↓reduceIte, Nat.reduceEqDiff, reduceCtorEq, decide_true, decide_false, Bool.not_true, Bool.not_false, List.map_cons, List.map_nil, List.nil_append, List.append_nil, Option.map_some, Option.map_none, if_true, if_false, true_and, and_true, Int.reduceEq, Int.reduceLT, Int.reduceLE, Int.reduceNeg, Nat.reduceAdd, Nat.reduceLeDiff, Bool.true_eq_false, Bool.false_eq_true, beq_self_eq_true, nilckA, bne, Bool.not_eq_true']
      exact ⟨hx1, by simp [g]⟩
    · have g2 : decide (((m.l.length : Nat) : Int) = zn) = true := decide_eq_true g
      simp (disch := first | omega | assumption | (simp only [List.length_cons, List.length_nil, len_newRow, len_set] <;> omega) | fail) only [l2, eq_self, if_pos, if_neg, binStr_eql, binStr_neq, dec_t, dec_f, w64, wu64, wu8, Int.toNat_natCast, rQ_ret, rQ_norm, wQ_ret, wQ_norm, cutQ_norm, cutQ_exit, cutQ_ret, rngQ_norm, rngQ_ret, rngQ_exit, Nat.mul_one, loadA_new_eq, loadA_new_ne, loadA_set_eq, loadA_set_ne, hOf_new_eq, hOf_new_ne, hOf_set_eq, hOf_set_ne, wrRow_new_eq, wrRow_new_ne, lower_ge, lower_none, len_newRow, len_set, AV.undef, unA, qs, qb, qe, qi, Int.reduceToNat, Nat.reduceMul, List.getElem?_cons_succ, List.getElem?_cons_zero, false_implies, true_implies, forall_const, implies_true, Nat.lt_add_one, Nat.min_eq_left, Nat.le_add_right, qc, fillA, evParts, repCells, splice, partA, List.length_cons, List.length_nil, List.take_succ_cons, List.take_zero, List.drop_succ_cons, List.drop_zero, List.cons_append, Option.bind_some, Nat.add_zero, Nat.zero_add, List.drop_nil, List.take_nil, Nat.le_refl, Nat.min_self, qv, qu, pureStep, memStep, WC_look, condQ_true, condQ_false, WO_gd, gdQ_tt, gdQ_ff, gdQ_tf, gdQ_ft, gdQ_u, resOf, resAll, resA, wp_some, kv_none, ↓reduceIte, Nat.reduceEqDiff, reduceCtorEq, decide_true, decide_false, Bool.not_true, Bool.not_false, List.map_cons, List.map_nil, List.nil_append, List.append_nil, Option.map_some, Option.map_none, if_true, if_false, true_and, and_true, Int.reduceEq, Int.reduceLT, Int.reduceLE, Int.reduceNeg, Nat.reduceAdd, Nat.reduceLeDiff, Bool.true_eq_false, Bool.false_eq_true, beq_self_eq_true, nilckA, bne, Bool.not_eq_true']
      by_cases h0 : m.text = []
      · simp (disch := first | omega | assumption | (simp only [List.length_cons, List.length_nil, len_newRow, len_set] <;> omega) | fail) only [h0, l2, eq_self, if_pos, if_neg, binStr_eql, binStr_neq, dec_t, dec_f, w64, wu64, wu8, Int.toNat_natCast, rQ_ret, rQ_norm, wQ_ret, wQ_norm, cutQ_norm, cutQ_exit, cutQ_ret, rngQ_norm, rngQ_ret, rngQ_exit, Nat.mul_one, loadA_new_eq, loadA_new_ne, loadA_set_eq, loadA_set_ne, hOf_new_eq, hOf_new_ne, hOf_set_eq, hOf_set_ne, wrRow_new_eq, wrRow_new_ne, lower_ge, lower_none, len_newRow, len_set, AV.undef, unA, qs, qb, qe, qi, Int.reduceToNat, Nat.reduceMul, List.getElem?_cons_succ, List.getElem?_cons_zero, false_implies, true_implies, forall_const, implies_true, Nat.lt_add_one, Nat.min_eq_left, Nat.le_add_right, qc, fillA, evParts, repCells, splice, partA, List.length_cons, List.length_nil, List.take_succ_cons, List.take_zero, List.drop_succ_cons, List.drop_zero, List.cons_append, Option.bind_some, Nat.add_zero, Nat.zero_add, List.drop_nil, List.take_nil, Nat.le_refl, Nat.min_self, qv, qu, pureStep, memStep, WC_look, condQ_true, condQ_false, WO_gd, gdQ_tt, gdQ_ff, gdQ_tf, gdQ_ft, gdQ_u, resOf, resAll, resA, wp_some, kv_none, ↓reduceIte, Nat.reduceEqDiff, reduceCtorEq, decide_true, decide_false, Bool.not_true, Bool.not_false, List.map_cons, List.map_nil, List.nil_append, List.append_nil, Option.map_some, Option.map_none, if_true, if_false, true_and, and_true, Int.reduceEq, Int.reduceLT, Int.reduceLE, Int.reduceNeg, Nat.reduceAdd, Nat.reduceLeDiff, Bool.true_eq_false, Bool.false_eq_true, beq_self_eq_true, nilckA, bne, Bool.not_eq_true']
        exact ⟨hx1, by simp [g]⟩
      · simp (disch := first | omega | assumption | (simp only [List.length_cons, List.length_nil, len_newRow, len_set] <;> omega) | fail) only [h0, l0, l2, eq_self, if_pos, if_neg, binStr_eql, binStr_neq, dec_t, dec_f, w64, wu64, wu8, Int.toNat_natCast, rQ_ret, rQ_norm, wQ_ret, wQ_norm, cutQ_norm, cutQ_exit, cutQ_ret, rngQ_norm, rngQ_ret, rngQ_exit, Nat.mul_one, loadA_new_eq, loadA_new_ne, loadA_set_eq, loadA_set_ne, hOf_new_eq, hOf_new_ne, hOf_set_eq, hOf_set_ne, wrRow_new_eq, wrRow_new_ne, lower_ge, lower_none, len_newRow, len_set, AV.undef, unA, qs, qb, qe, qi, Int.reduceToNat, Nat.reduceMul, List.getElem?_cons_succ, List.getElem?_cons_zero, false_implies, true_implies, forall_const, implies_true, Nat.lt_add_one, Nat.min_eq_left, Nat.le_add_right, qc, fillA, evParts, repCells, splice, partA, List.length_cons, List.length_nil, List.take_succ_cons, List.take_zero, List.drop_succ_cons, List.drop_zero, List.cons_append, Option.bind_some, Nat.add_zero, Nat.zero_add, List.drop_nil, List.take_nil, Nat.le_refl, Nat.min_self, qv, qu, pureStep, memStep, WC_look, condQ_true, condQ_false, WO_gd, gdQ_tt, gdQ_ff, gdQ_tf, gdQ_ft, gdQ_u, resOf, resAll, resA, wp_some, kv_none, ↓reduceIte, Nat.reduceEqDiff, reduceCtorEq, decide_true, decide_false, Bool.not_true, Bool.not_false, List.map_cons, List.map_nil, List.nil_append, List.append_nil, Option.map_some, Option.map_none, if_true, if_false, true_and, and_true, Int.reduceEq, Int.reduceLT, Int.reduceLE, Int.reduceNeg, Nat.reduceAdd, Nat.reduceLeDiff, Bool.true_eq_false, Bool.false_eq_true, beq_self_eq_true, nilckA, bne, Bool.not_eq_true']
        by_cases h4 : m.kind = 4
        · simp (disch := first | omega | assumption | (simp only [List.length_cons, List.length_nil, len_newRow, len_set] <;> omega) | fail) only [h4, l2, eq_self, if_pos, if_neg, binStr_eql, binStr_neq, dec_t, dec_f, w64, wu64, wu8, Int.toNat_natCast, rQ_ret, rQ_norm, wQ_ret, wQ_norm, cutQ_norm, cutQ_exit, cutQ_ret, rngQ_norm, rngQ_ret, rngQ_exit, Nat.mul_one, loadA_new_eq, loadA_new_ne, loadA_set_eq, loadA_set_ne, hOf_new_eq, hOf_new_ne, hOf_set_eq, hOf_set_ne, wrRow_new_eq, wrRow_new_ne, lower_ge, lower_none, len_newRow, len_set, AV.undef, unA, qs, qb, qe, qi, Int.reduceToNat, Nat.reduceMul, List.getElem?_cons_succ, List.getElem?_cons_zero, false_implies, true_implies, forall_const, implies_true, Nat.lt_add_one, Nat.min_eq_left, Nat.le_add_right, qc, fillA, evParts, repCells, splice, partA, List.length_cons, List.length_nil, List.take_succ_cons, List.take_zero, List.drop_succ_cons, List.drop_zero, List.cons_append, Option.bind_some, Nat.add_zero, Nat.zero_add, List.drop_nil, List.take_nil, Nat.le_refl, Nat.min_self, qv, qu, pureStep, memStep, WC_look, condQ_true, condQ_false, WO_gd, gdQ_tt, gdQ_ff, gdQ_tf, gdQ_ft, gdQ_u, resOf, resAll, resA, wp_some, kv_none, ↓reduceIte, Nat.reduceEqDiff, reduceCtorEq, decide_true, decide_false, Bool.not_true, Bool.not_false, List.map_cons, List.map_nil, List.nil_append, List.append_nil, Option.map_some, Option.map_none, if_true, if_false, true_and, and_true, Int.reduceEq, Int.reduceLT, Int.reduceLE, Int.reduceNeg, Nat.reduceAdd, Nat.reduceLeDiff, Bool.true_eq_false, Bool.false_eq_true, beq_self_eq_true, nilckA, bne, Bool.not_eq_true']
          refine WO_callP rfl hx1 (p37 m.text hl _) ?_
          rintro v H2 hx3 hx4 rfl
          simp (disch := first | omega | assumption | (simp only [List.length_cons, List.length_nil, len_newRow, len_set] <;> omega) | fail) only [eq_self, if_pos, if_neg, binStr_eql, binStr_neq, dec_t, dec_f, w64, wu64, wu8, Int.toNat_natCast, rQ_ret, rQ_norm, wQ_ret, wQ_norm, cutQ_norm, cutQ_exit, cutQ_ret, rngQ_norm, rngQ_ret, rngQ_exit, Nat.mul_one, loadA_new_eq, loadA_new_ne, loadA_set_eq, loadA_set_ne, hOf_new_eq, hOf_new_ne, hOf_set_eq, hOf_set_ne, wrRow_new_eq, wrRow_new_ne, lower_ge, lower_none, len_newRow, len_set, AV.undef, unA, qs, qb, qe, qi, Int.reduceToNat, Nat.reduceMul, List.getElem?_cons_succ, List.getElem?_cons_zero, false_implies, true_implies, forall_const, implies_true, Nat.lt_add_one, Nat.min_eq_left, Nat.le_add_right, qc, fillA, evParts, repCells, splice, partA, List.length_cons, List.length_nil, List.take_succ_cons, List.take_zero, List.drop_succ_cons, List.drop_zero, List.cons_append, Option.bind_some, Nat.add_zero, Nat.zero_add, List.drop_nil, List.take_nil, Nat.le_refl, Nat.min_self, qv, qu, pureStep, memStep, WC_look, condQ_true, condQ_false, WO_gd, gdQ_tt, gdQ_ff, gdQ_tf, gdQ_ft, gdQ_u, resOf, resAll, resA, wp_some, kv_none, ↓reduceIte, Nat.reduceEqDiff, reduceCtorEq, decide_true, decide_false, Bool.not_true, Bool.not_false, List.map_cons, List.map_nil, List.nil_append, List.append_nil, Option.map_some, Option.map_none, if_true, if_false, true_and, and_true, Int.reduceEq, Int.reduceLT, Int.reduceLE, Int.reduceNeg, Nat.reduceAdd, Nat.reduceLeDiff, Bool.true_eq_false, Bool.false_eq_true, beq_self_eq_true, nilckA, bne, Bool.not_eq_true']
          exact ⟨hx3, by simp [g]⟩
        · simp (disch := first | omega | assumption | (simp only [List.length_cons, List.length_nil, len_newRow, len_set] <;> omega) | fail) only [h4, l2, eq_self, if_pos, if_neg, binStr_eql, binStr_neq, dec_t, dec_f, w64, wu64, wu8, Int.toNat_natCast, rQ_ret, rQ_norm, wQ_ret, wQ_norm, cutQ_norm, cutQ_exit, cutQ_ret, rngQ_norm, rngQ_ret, rngQ_exit, Nat.mul_one, loadA_new_eq, loadA_new_ne, loadA_set_eq, loadA_set_ne, hOf_new_eq, hOf_new_ne, hOf_set_eq, hOf_set_ne, wrRow_new_eq, wrRow_new_ne, lower_ge, lower_none, len_newRow, len_set, AV.undef, unA, qs, qb, qe, qi, Int.reduceToNat, Nat.reduceMul, List.getElem?_cons_succ, List.getElem?_cons_zero, false_implies, true_implies, forall_const, implies_true, Nat.lt_add_one, Nat.min_eq_left, Nat.le_add_right, qc, fillA, evParts, repCells, splice, partA, List.length_cons, List.length_nil, List.take_succ_cons, List.take_zero, List.drop_succ_cons, List.drop_zero, List.cons_append, Option.bind_some, Nat.add_zero, Nat.zero_add, List.drop_nil, List.take_nil, Nat.le_refl, Nat.min_self, qv, qu, pureStep, memStep, WC_look, condQ_true, condQ_false, WO_gd, gdQ_tt, gdQ_ff, gdQ_tf, gdQ_ft, gdQ_u, resOf, resAll, resA, wp_some, kv_none, ↓reduceIte, Nat.reduceEqDiff, reduceCtorEq, decide_true, decide_false, Bool.not_true, Bool.not_false, List.map_cons, List.map_nil, List.nil_append, List.append_nil, Option.map_some, Option.map_none, if_true, if_false, true_and, and_true, Int.reduceEq, Int.reduceLT, Int.reduceLE, Int.reduceNeg, Nat.reduceAdd, Nat.reduceLeDiff, Bool.true_eq_false, Bool.false_eq_true, beq_self_eq_true, nilckA, bne, Bool.not_eq_true']
          exact ⟨hx1, by simp [g]⟩
end Go.Proofs.Qq.Qqd

namespace Go.Proofs.Qq.Qqd
open Go.Proofs.Qq

/-- Some numbers are read, from a place on. -/
def rdInts (bs : List UInt8) : Nat → Int → Option (List Int × Int)
  | 0, p => some ([], p)
  | k + 1, p =>
    if (rdU bs p).2.2 = 0 then
      match rdInts bs k (rdU bs p).2.1 with
      | some (l, q) => some (zag (rdU bs p).1 :: l, q)
      | none => none
    else none

/-- The message that bytes are. -/
def decM (bs : List UInt8) : Option Msg :=
  match bs with
  | [] => none
  | b :: _ =>
    match rdInts bs (msgSize b.toNat).1.toNat 1 with
    | none => none
    | some (l, q) => if mright ⟨b.toNat, l, bs.drop q.toNat⟩ then some ⟨b.toNat, l, bs.drop q.toNat⟩ else none

theorem rdU_range (bs : List UInt8) (p : Int) (h : (rdU bs p).2.2 = 0) : p < (rdU bs p).2.1 ∧ (rdU bs p).2.1 ≤ bs.length := by
  unfold rdU at h ⊢
  split at h
  · simp at h
  · rename_i hn
    rw [if_neg hn]
    split at h
    · rename_i v n hv
      have := vrL_pos _ _ _ _ _ hv
      rw [List.length_drop] at this
      simp only []
      omega
    · simp at h

def decOut (lo : Nat) (H : AHeap) (r : AV) : Option Msg → Prop
  | none => r = .tup [.agg [.int .i64 0, .slice none 0 none, .str []], .int .i64 2]
  | some m => ∃ sl, r = .tup [.agg [.int .i64 m.kind, sl, .str m.text], .int .i64 0] ∧ Own eInt lo H sl m.l

/-- A slice of bytes from a place on, as a text. -/
theorem rest_text {H : AHeap} {a : Option (Nat × Nat)} {c : Option Nat} {bs : List UInt8} (h : SE eByte H a bs.length c bs) {l : Nat} (hl : l ≤ bs.length) :
    ∃ a' c', sliceOf 1 a bs.length c (some (.int .i64 (l : Int))) none none = some (.slice a' (bs.length - l) c') ∧ b2sA H (.slice a' (bs.length - l) c') = some (.str (bs.drop l)) := by
  have hat := h.at_
  rw [eByte_cs] at hat
  obtain ⟨a', c', e1, e2, e3⟩ := slice_rest hat (c := c) (l := l) (by simpa [bytesA_len] using h.cap) (by rw [bytesA_len]; exact hl) .i64
  rw [bytesA_len] at e1
  refine ⟨a', c', e1, ?_⟩
  rw [bytesA_drop, ← eByte_cs] at e2
  have hs : SE eByte H a' (bs.length - l) c' (bs.drop l) := ⟨by simp, e2, by simpa [bytesA_len] using e3⟩
  have hsrc := hs.src
  rw [List.length_drop] at hsrc
  have hb : ∀ xs : List UInt8, bytesOfA (eByte.cs xs) = some xs := by
    intro xs
    induction xs with
    | nil => rfl
    | cons x xs ih =>
      rw [Flat.cs_cons]
      show bytesOfA (.int .u8 x.toNat :: eByte.cs xs) = _
      simp only [bytesOfA, byteOfA, ih]
      simp
  cases a' with
  | none =>
    have : eByte.cs (bs.drop l) = [] := hs.at_
    have h0 : bs.drop l = [] := by
      apply List.eq_nil_of_length_eq_zero
      have := eByte.cs_len (bs.drop l)
      simp_all [eByte]
    rw [h0]; rfl
  | some p =>
    have e : srcCells H 1 (bs.length - l) (.slice (some p) (bs.length - l) c') = some (eByte.cs (bs.drop l)) := hsrc
    unfold b2sA
    simp only [e, hb]

theorem p53 {H : AHeap} {a : Option (Nat × Nat)} {c : Option Nat} {bs : List UInt8} (h : SE eByte H a bs.length c bs) (hl : bs.length ≤ 9223372036854775806) (p : Int) (hp : p ≤ 9223372036854775806) :
    PF T 53 [.slice a bs.length c, .int .i64 p] H fun r _ => r = .tup [.int .i64 (zag (rdU bs p).1), .int .i64 (rdU bs p).2.1, .int .i64 (rdU bs p).2.2] :=
  run53 bs hl a c H (eByte_cs bs ▸ h.at_) p hp _ ⟨rfl, Ext.refl _, rfl⟩
theorem p55 {H : AHeap} {a : Option (Nat × Nat)} {c : Option Nat} {bs : List UInt8} (h : SE eByte H a bs.length c bs) (hl : bs.length ≤ 9223372036854775806) (p : Int) :
    PF T 55 [.slice a bs.length c, .int .i64 p] H fun r _ => r = .tup [.int .i64 (zag (rdU bs p).1), .int .i64 (rdU bs p).2.1, .int .i64 (rdU bs p).2.2] :=
  run55 bs (by omega) a c H (eByte_cs bs ▸ h.at_) h.cap p _ ⟨rfl, Ext.refl _, rfl⟩

theorem rdInts_none (bs : List UInt8) (k : Nat) (p : Int) (h : ¬ (rdU bs p).2.2 = 0) : rdInts bs (k + 1) p = none := by rw [rdInts, if_neg h]
theorem rdInts_range (bs : List UInt8) : ∀ (k : Nat) (p : Int) (l : List Int) (q : Int), p ≤ bs.length → rdInts bs k p = some (l, q) → p ≤ q ∧ q ≤ bs.length ∧ l.length = k
  | 0, p, l, q, hp, h => by simp [rdInts] at h; obtain ⟨rfl, rfl⟩ := h; exact ⟨Int.le_refl _, hp, rfl⟩
  | k + 1, p, l, q, hp, h => by
    rw [rdInts] at h
    split at h
    · rename_i h0
      have hr := rdU_range bs p h0
      split at h
      · rename_i l' q' h'
        simp only [Option.some.injEq, Prod.mk.injEq] at h
        obtain ⟨rfl, rfl⟩ := h
        have := rdInts_range bs k _ l' q' hr.2 h'
        exact ⟨by omega, this.2.1, by simp [this.2.2]⟩
      · cases h
    · cases h

/-- What is known while numbers are read: the row of the message and that of the result. -/
structure RdSt (H : AHeap) (kind : Int) (H' : AHeap) (sl : AV) (xs : List Int) : Prop where
  ext : Ext H H'
  res : hOf H' H.length = some ⟨[.int .i64 0, .slice none 0 none, .str []], true, 0⟩
  row : hOf H' (H.length + 1) = some ⟨[.int .i64 kind, sl, .str []], true, 0⟩
  own : Own eInt (H.length + 2) H' sl xs

/-- One number more. -/
theorem RdSt.add {H : AHeap} {kind : Int} {H' : AHeap} {sl : AV} {xs : List Int} (h : RdSt H kind H' sl xs) (n : Int) (hn : xs.length ≤ 1000000) :
    ∃ sl' H2 w, appendA 1 8 (newRow H' [.int .i64 n] 1) sl (.slice (some (H'.length, 0)) 1 none) = some (sl', H2, w) ∧ hOf H2 (H.length + 1) = some ⟨[.int .i64 kind, sl, .str []], true, 0⟩ ∧ lower H.length w = H.length ∧
      RdSt H kind (List.set H2 (H.length + 1) (.row ⟨[.int .i64 kind, sl', .str []], true, 0⟩)) sl' (xs ++ [n]) := by
  have hlen := hOf_is_lt h.row
  have hown := h.own.ext (Ext.newRow H' [.int .i64 n] 1)
  obtain ⟨sl', H2, w, e1, o1, a1⟩ := append_own (x := .slice (some (H'.length, 0)) 1 none) (ys := [n]) (bytes := 8) hown (by rw [len_newRow]; omega) rfl
    (SE.src (E := eInt) (H := newRow H' [.int .i64 n] 1) (a := some (H'.length, 0)) (n := 1) (c := none) (xs := [n]) ⟨rfl, ⟨_, by rw [hOf_newRow, if_pos rfl], by simp, rfl⟩, fun k h => by cases h⟩) (by decide) (by simp [room]; omega)
  have hge := hown.ge
  have keep : ∀ i r, i < H.length + 2 → hOf H' i = some r → hOf H2 i = some r := fun i r hi hr =>
    a1.row i r (fun o n c e => by have := hge i o n c e; omega) ((Ext.newRow H' _ 1).row i r hr)
  have hl2 : H'.length + 1 ≤ H2.length := by have := a1.len; rwa [len_newRow] at this
  refine ⟨sl', H2, w, e1, keep _ _ (by omega) h.row, a1.lower (by omega), ?_, ?_, ?_, ?_⟩
  · exact (a1.ext h.ext.nr (fun i o n c e => by have := hge i o n c e; omega)).set (by omega) _
  · rw [hOf_set_ne (by omega)]; exact keep _ _ (by omega) h.res
  · rw [hOf_set_eq rfl (by omega)]
  · exact o1.set (by omega) _

theorem msgSize_le (k : Int) : 0 ≤ (msgSize k).1 ∧ (msgSize k).1 ≤ 10 := by
  unfold msgSize
  repeat' (first | (split; decide) | split | decide)

structure DecInv (bs : List UInt8) (H : AHeap) (kind : Int) (N : Nat) (j : Nat) (p : Int) (H' : AHeap) (sl : AV) (xs : List Int) : Prop where
  st : RdSt H kind H' sl xs
  xl : xs.length = j
  p1 : 1 ≤ p
  p2 : p ≤ bs.length
  tot : (rdInts bs (N - j) p).map (fun q => (xs ++ q.1, q.2)) = rdInts bs N 1

/-- One number read: all goes on, or there is none. -/
theorem DecInv.next {bs : List UInt8} {H : AHeap} {kind : Int} {N j : Nat} {p : Int} {H' : AHeap} {sl : AV} {xs : List Int} (h : DecInv bs H kind N j p H' sl xs) (hj : j < N) :
    (¬ (rdU bs p).2.2 = 0 → rdInts bs N 1 = none) ∧ ((rdU bs p).2.2 = 0 → (rdInts bs (N - (j + 1)) (rdU bs p).2.1).map (fun q => (xs ++ [zag (rdU bs p).1] ++ q.1, q.2)) = rdInts bs N 1) := by
  have ht := h.tot
  obtain ⟨k, hk⟩ : ∃ k, N - j = k + 1 := ⟨N - j - 1, by omega⟩
  have hk2 : N - (j + 1) = k := by omega
  rw [hk] at ht
  rw [hk2]
  constructor
  · intro h0
    rw [rdInts_none bs k p h0] at ht
    exact ht.symm
  · intro h0
    rw [← ht, rdInts, if_pos h0]
    cases rdInts bs k (rdU bs p).2.1 with
    | none => rfl
    | some q => simp

/-- message.Decode's end: from the numbers to the message. -/
theorem decM_none (b : UInt8) (bs : List UInt8) (h : rdInts (b :: bs) (msgSize b.toNat).1.toNat 1 = none) : decM (b :: bs) = none := by simp only [decM, h]
theorem decM_some (b : UInt8) (bs : List UInt8) (l : List Int) (q : Int) (h : rdInts (b :: bs) (msgSize b.toNat).1.toNat 1 = some (l, q)) :
    decM (b :: bs) = if mright ⟨b.toNat, l, (b :: bs).drop q.toNat⟩ then some ⟨b.toNat, l, (b :: bs).drop q.toNat⟩ else none := by simp only [decM, h]

set_option maxHeartbeats 4000000 in
/-- barrowref12.Decode -/
theorem p12 {H : AHeap} {a : Option (Nat × Nat)} {c : Option Nat} {bs : List UInt8} (h : SE eByte H a bs.length c bs) (hl : bs.length ≤ 1000000) :
    PF T 12 [.slice a bs.length c] H fun r H' => decOut H.length H' r (decM bs) := by
  refine PF_code rfl _ _ _ ?_
  simp only [a12]
  cases bs with
  | nil =>
    simp (disch := first | omega | assumption | (simp only [List.length_cons, List.length_nil, len_newRow, len_set] <;> omega) | fail) only [eq_self, if_pos, if_neg, binStr_eql, binStr_neq, dec_t, dec_f, w64, wu64, wu8, Int.toNat_natCast, rQ_ret, rQ_norm, wQ_ret, wQ_norm, cutQ_norm, cutQ_exit, cutQ_ret, rngQ_norm, rngQ_ret, rngQ_exit, Nat.mul_one, loadA_new_eq, loadA_new_ne, loadA_set_eq, loadA_set_ne, hOf_new_eq, hOf_new_ne, hOf_set_eq, hOf_set_ne, wrRow_new_eq, wrRow_new_ne, lower_ge, lower_none, len_newRow, len_set, AV.undef, unA, qs, qb, qe, qi, Int.reduceToNat, Nat.reduceMul, List.getElem?_cons_succ, List.getElem?_cons_zero, false_implies, true_implies, forall_const, implies_true, Nat.lt_add_one, Nat.min_eq_left, Nat.le_add_right, qc, fillA, evParts, repCells, splice, partA, List.length_cons, List.length_nil, List.take_succ_cons, List.take_zero, List.drop_succ_cons, List.drop_zero, List.cons_append, Option.bind_some, Nat.add_zero, Nat.zero_add, List.drop_nil, List.take_nil, Nat.le_refl, Nat.min_self, qv, qu, pureStep, memStep, WC_look, condQ_true, condQ_false, WO_gd, gdQ_tt, gdQ_ff, gdQ_tf, gdQ_ft, gdQ_u, resOf, resAll, resA, wp_some, kv_none, ↓reduceIte, Nat.reduceEqDiff, reduceCtorEq, decide_true, decide_false, Bool.not_true, Bool.not_false, List.map_cons, List.map_nil, List.nil_append, List.append_nil, Option.map_some, Option.map_none, if_true, if_false, true_and, and_true, Int.reduceEq, Int.reduceLT, Int.reduceLE, Int.reduceNeg, Nat.reduceAdd, Nat.reduceLeDiff, Bool.true_eq_false, Bool.false_eq_true, beq_self_eq_true, nilckA, bne, Bool.not_eq_true']
    exact ⟨(Ext.refl _).nr, rfl⟩
  | cons b bs' =>
    generalize hbs : b :: bs' = bs at h hl ⊢
    have h0 : bs[0]? = some b := by rw [← hbs]; rfl
    have hpos : 0 < bs.length := by rw [← hbs]; simp
    obtain ⟨i, o, rfl, hi, l1⟩ := h.at1 rfl h0 rfl
    rw [Nat.add_zero] at l1
    have c0 : ¬ (bs.length : Int) = 0 := by omega
    have hb256 : b.toNat < 256 := b.toNat_lt
    simp (disch := first | omega | assumption | (simp only [List.length_cons, List.length_nil, len_newRow, len_set] <;> omega) | fail) only [c0, l1, Int.reduceToNat, Nat.zero_mul, eq_self, if_pos, if_neg, binStr_eql, binStr_neq, dec_t, dec_f, w64, wu64, wu8, Int.toNat_natCast, rQ_ret, rQ_norm, wQ_ret, wQ_norm, cutQ_norm, cutQ_exit, cutQ_ret, rngQ_norm, rngQ_ret, rngQ_exit, Nat.mul_one, loadA_new_eq, loadA_new_ne, loadA_set_eq, loadA_set_ne, hOf_new_eq, hOf_new_ne, hOf_set_eq, hOf_set_ne, wrRow_new_eq, wrRow_new_ne, lower_ge, lower_none, len_newRow, len_set, AV.undef, unA, qs, qb, qe, qi, Int.reduceToNat, Nat.reduceMul, List.getElem?_cons_succ, List.getElem?_cons_zero, false_implies, true_implies, forall_const, implies_true, Nat.lt_add_one, Nat.min_eq_left, Nat.le_add_right, qc, fillA, evParts, repCells, splice, partA, List.length_cons, List.length_nil, List.take_succ_cons, List.take_zero, List.drop_succ_cons, List.drop_zero, List.cons_append, Option.bind_some, Nat.add_zero, Nat.zero_add, List.drop_nil, List.take_nil, Nat.le_refl, Nat.min_self, qv, qu, pureStep, memStep, WC_look, condQ_true, condQ_false, WO_gd, gdQ_tt, gdQ_ff, gdQ_tf, gdQ_ft, gdQ_u, resOf, resAll, resA, wp_some, kv_none, ↓reduceIte, Nat.reduceEqDiff, reduceCtorEq, decide_true, decide_false, Bool.not_true, Bool.not_false, List.map_cons, List.map_nil, List.nil_append, List.append_nil, Option.map_some, Option.map_none, if_true, if_false, true_and, and_true, Int.reduceEq, Int.reduceLT, Int.reduceLE, Int.reduceNeg, Nat.reduceAdd, Nat.reduceLeDiff, Bool.true_eq_false, Bool.false_eq_true, beq_self_eq_true, nilckA, bne, Bool.not_eq_true']
    refine WO_callP rfl (Ext.refl _).nr.nr (p52 _ _) ?_
    rintro v H1 hx1 hx2 rfl
    have hN := msgSize_le (b.toNat : Int)
    have hdm1 : rdInts bs (msgSize b.toNat).1.toNat 1 = none → decM bs = none := by rw [← hbs]; exact decM_none b bs'
    have hdm2 : ∀ l q, rdInts bs (msgSize b.toNat).1.toNat 1 = some (l, q) → decM bs = if mright ⟨b.toNat, l, bs.drop q.toNat⟩ then some ⟨b.toNat, l, bs.drop q.toNat⟩ else none := by rw [← hbs]; exact decM_some b bs'
    obtain ⟨N, hNe⟩ : ∃ N : Nat, (msgSize b.toNat).1 = (N : Int) := ⟨(msgSize b.toNat).1.toNat, by omega⟩
    rw [hNe] at hN hdm1 hdm2
    rw [Int.toNat_natCast] at hdm1 hdm2
    simp (disch := first | omega | assumption | (simp only [List.length_cons, List.length_nil, len_newRow, len_set] <;> omega) | fail) only [hNe, eq_self, if_pos, if_neg, binStr_eql, binStr_neq, dec_t, dec_f, w64, wu64, wu8, Int.toNat_natCast, rQ_ret, rQ_norm, wQ_ret, wQ_norm, cutQ_norm, cutQ_exit, cutQ_ret, rngQ_norm, rngQ_ret, rngQ_exit, Nat.mul_one, loadA_new_eq, loadA_new_ne, loadA_set_eq, loadA_set_ne, hOf_new_eq, hOf_new_ne, hOf_set_eq, hOf_set_ne, wrRow_new_eq, wrRow_new_ne, lower_ge, lower_none, len_newRow, len_set, AV.undef, unA, qs, qb, qe, qi, Int.reduceToNat, Nat.reduceMul, List.getElem?_cons_succ, List.getElem?_cons_zero, false_implies, true_implies, forall_const, implies_true, Nat.lt_add_one, Nat.min_eq_left, Nat.le_add_right, qc, fillA, evParts, repCells, splice, partA, List.length_cons, List.length_nil, List.take_succ_cons, List.take_zero, List.drop_succ_cons, List.drop_zero, List.cons_append, Option.bind_some, Nat.add_zero, Nat.zero_add, List.drop_nil, List.take_nil, Nat.le_refl, Nat.min_self, qv, qu, pureStep, memStep, WC_look, condQ_true, condQ_false, WO_gd, gdQ_tt, gdQ_ff, gdQ_tf, gdQ_ft, gdQ_u, resOf, resAll, resA, wp_some, kv_none, ↓reduceIte, Nat.reduceEqDiff, reduceCtorEq, decide_true, decide_false, Bool.not_true, Bool.not_false, List.map_cons, List.map_nil, List.nil_append, List.append_nil, Option.map_some, Option.map_none, if_true, if_false, true_and, and_true, Int.reduceEq, Int.reduceLT, Int.reduceLE, Int.reduceNeg, Nat.reduceAdd, Nat.reduceLeDiff, Bool.true_eq_false, Bool.false_eq_true, beq_self_eq_true, nilckA, bne, Bool.not_eq_true']
    refine WC_loop (fun m s => ∃ j p sl xs, m = N - j ∧ j ≤ N ∧ s.env 0 = .slice (some (i, o)) bs.length c ∧ s.env 2 = .ptr (some (H.length, 0)) ∧ s.env 4 = .ptr (some (H.length + 1, 0)) ∧ s.env 5 = .int .i64 (N : Int) ∧ s.env 7 = .int .i64 p ∧ s.env 8 = .int .i64 (j : Int) ∧ s.low = H.length ∧ DecInv bs H b.toNat N j p s.heap sl xs) ?_ N _
      ⟨0, 1, .slice none 0 none, [], rfl, by omega, rfl, rfl, rfl, rfl, rfl, rfl, rfl, ⟨⟨hx1, ?_, ?_, Own.nil _ _ _⟩, rfl, by omega, by omega, by simp⟩⟩
    · rintro m ⟨e, H', lw⟩ ⟨j, p, sl, xs, hm, hj, k0, k2, k4, k5, k7, k8, kL, hI⟩
      simp only [] at k0 k2 k4 k5 k7 k8 kL hI
      subst kL
      have hp1 := hI.p1
      have hp2 := hI.p2
      have hxl := hI.xl
      have hst := hI.st
      by_cases hlt : j < N
      · simp (disch := first | omega | assumption | (simp only [List.length_cons, List.length_nil, len_newRow, len_set] <;> omega) | fail) only [k0, k2, k4, k5, k7, k8, eq_self, if_pos, if_neg, binStr_eql, binStr_neq, dec_t, dec_f, w64, wu64, wu8, Int.toNat_natCast, rQ_ret, rQ_norm, wQ_ret, wQ_norm, cutQ_norm, cutQ_exit, cutQ_ret, rngQ_norm, rngQ_ret, rngQ_exit, Nat.mul_one, loadA_new_eq, loadA_new_ne, loadA_set_eq, loadA_set_ne, hOf_new_eq, hOf_new_ne, hOf_set_eq, hOf_set_ne, wrRow_new_eq, wrRow_new_ne, lower_ge, lower_none, len_newRow, len_set, AV.undef, unA, qs, qb, qe, qi, Int.reduceToNat, Nat.reduceMul, List.getElem?_cons_succ, List.getElem?_cons_zero, false_implies, true_implies, forall_const, implies_true, Nat.lt_add_one, Nat.min_eq_left, Nat.le_add_right, qc, fillA, evParts, repCells, splice, partA, List.length_cons, List.length_nil, List.take_succ_cons, List.take_zero, List.drop_succ_cons, List.drop_zero, List.cons_append, Option.bind_some, Nat.add_zero, Nat.zero_add, List.drop_nil, List.take_nil, Nat.le_refl, Nat.min_self, qv, qu, pureStep, memStep, WC_look, condQ_true, condQ_false, WO_gd, gdQ_tt, gdQ_ff, gdQ_tf, gdQ_ft, gdQ_u, resOf, resAll, resA, wp_some, kv_none, ↓reduceIte, Nat.reduceEqDiff, reduceCtorEq, decide_true, decide_false, Bool.not_true, Bool.not_false, List.map_cons, List.map_nil, List.nil_append, List.append_nil, Option.map_some, Option.map_none, if_true, if_false, true_and, and_true, Int.reduceEq, Int.reduceLT, Int.reduceLE, Int.reduceNeg, Nat.reduceAdd, Nat.reduceLeDiff, Bool.true_eq_false, Bool.false_eq_true, beq_self_eq_true, nilckA, bne, Bool.not_eq_true']
        refine WO_callP rfl hst.ext (p53 (h.ext hst.ext) (by omega) p (by omega)) ?_
        rintro v H2 hx3 hx4 rfl
        simp (disch := first | omega | assumption | (simp only [List.length_cons, List.length_nil, len_newRow, len_set] <;> omega) | fail) only [eq_self, if_pos, if_neg, binStr_eql, binStr_neq, dec_t, dec_f, w64, wu64, wu8, Int.toNat_natCast, rQ_ret, rQ_norm, wQ_ret, wQ_norm, cutQ_norm, cutQ_exit, cutQ_ret, rngQ_norm, rngQ_ret, rngQ_exit, Nat.mul_one, loadA_new_eq, loadA_new_ne, loadA_set_eq, loadA_set_ne, hOf_new_eq, hOf_new_ne, hOf_set_eq, hOf_set_ne, wrRow_new_eq, wrRow_new_ne, lower_ge, lower_none, len_newRow, len_set, AV.undef, unA, qs, qb, qe, qi, Int.reduceToNat, Nat.reduceMul, List.getElem?_cons_succ, List.getElem?_cons_zero, false_implies, true_implies, forall_const, implies_true, Nat.lt_add_one, Nat.min_eq_left, Nat.le_add_right, qc, fillA, evParts, repCells, splice, partA, List.length_cons, List.length_nil, List.take_succ_cons, List.take_zero, List.drop_succ_cons, List.drop_zero, List.cons_append, Option.bind_some, Nat.add_zero, Nat.zero_add, List.drop_nil, List.take_nil, Nat.le_refl, Nat.min_self, qv, qu, pureStep, memStep, WC_look, condQ_true, condQ_false, WO_gd, gdQ_tt, gdQ_ff, gdQ_tf, gdQ_ft, gdQ_u, resOf, resAll, resA, wp_some, kv_none, ↓reduceIte, Nat.reduceEqDiff, reduceCtorEq, decide_true, decide_false, Bool.not_true, Bool.not_false, List.map_cons, List.map_nil, List.nil_append, List.append_nil, Option.map_some, Option.map_none, if_true, if_false, true_and, and_true, Int.reduceEq, Int.reduceLT, Int.reduceLE, Int.reduceNeg, Nat.reduceAdd, Nat.reduceLeDiff, Bool.true_eq_false, Bool.false_eq_true, beq_self_eq_true, nilckA, bne, Bool.not_eq_true']
        have hnx := hI.next hlt
        have hrow := hx4.row _ _ hst.row
        have hres := hx4.row _ _ hst.res
        have hl2 := hOf_is_lt hrow
        refine WC_ndec (fun g => ?_) (fun g => ?_)
        · have hd := hdm1 (hnx.1 g)
          have lres := load_row hres true 3 0
          have wres := wr_at hres rfl 0
          simp (disch := first | omega | assumption | (simp only [List.length_cons, List.length_nil, len_newRow, len_set] <;> omega) | fail) only [k0, k2, k4, k5, k7, k8, wres, eq_self, if_pos, if_neg, binStr_eql, binStr_neq, dec_t, dec_f, w64, wu64, wu8, Int.toNat_natCast, rQ_ret, rQ_norm, wQ_ret, wQ_norm, cutQ_norm, cutQ_exit, cutQ_ret, rngQ_norm, rngQ_ret, rngQ_exit, Nat.mul_one, loadA_new_eq, loadA_new_ne, loadA_set_eq, loadA_set_ne, hOf_new_eq, hOf_new_ne, hOf_set_eq, hOf_set_ne, wrRow_new_eq, wrRow_new_ne, lower_ge, lower_none, len_newRow, len_set, AV.undef, unA, qs, qb, qe, qi, Int.reduceToNat, Nat.reduceMul, List.getElem?_cons_succ, List.getElem?_cons_zero, false_implies, true_implies, forall_const, implies_true, Nat.lt_add_one, Nat.min_eq_left, Nat.le_add_right, qc, fillA, evParts, repCells, splice, partA, List.length_cons, List.length_nil, List.take_succ_cons, List.take_zero, List.drop_succ_cons, List.drop_zero, List.cons_append, Option.bind_some, Nat.add_zero, Nat.zero_add, List.drop_nil, List.take_nil, Nat.le_refl, Nat.min_self, qv, qu, pureStep, memStep, WC_look, condQ_true, condQ_false, WO_gd, gdQ_tt, gdQ_ff, gdQ_tf, gdQ_ft, gdQ_u, resOf, resAll, resA, wp_some, kv_none, ↓reduceIte, Nat.reduceEqDiff, reduceCtorEq, decide_true, decide_false, Bool.not_true, Bool.not_false, List.map_cons, List.map_nil, List.nil_append, List.append_nil, Option.map_some, Option.map_none, if_true, if_false, true_and, and_true, Int.reduceEq, Int.reduceLT, Int.reduceLE, Int.reduceNeg, Nat.reduceAdd, Nat.reduceLeDiff, Bool.true_eq_false, Bool.false_eq_true, beq_self_eq_true, nilckA, bne, Bool.not_eq_true']
          exact ⟨hx3.set (Nat.le_refl _) _, by rw [hd]; rfl⟩
        · have hr := rdU_range bs p g
          have lrow := load_row hrow false 1 1
          obtain ⟨sl', H3, w, e1, hrow3, elo, hst3⟩ := RdSt.add ⟨hx3, hres, hrow, hst.own.ext hx4⟩ (zag (rdU bs p).1) (by omega)
          obtain ⟨a2, rfl, hse2⟩ := hst3.own.se
          have wrow := wr_at hrow3 rfl 1
          simp (disch := first | omega | assumption | (simp only [List.length_cons, List.length_nil, len_newRow, len_set] <;> omega) | fail) only [k0, k2, k4, k5, k7, k8, lrow, e1, elo, wrow, eq_self, if_pos, if_neg, binStr_eql, binStr_neq, dec_t, dec_f, w64, wu64, wu8, Int.toNat_natCast, rQ_ret, rQ_norm, wQ_ret, wQ_norm, cutQ_norm, cutQ_exit, cutQ_ret, rngQ_norm, rngQ_ret, rngQ_exit, Nat.mul_one, loadA_new_eq, loadA_new_ne, loadA_set_eq, loadA_set_ne, hOf_new_eq, hOf_new_ne, hOf_set_eq, hOf_set_ne, wrRow_new_eq, wrRow_new_ne, lower_ge, lower_none, len_newRow, len_set, AV.undef, unA, qs, qb, qe, qi, Int.reduceToNat, Nat.reduceMul, List.getElem?_cons_succ, List.getElem?_cons_zero, false_implies, true_implies, forall_const, implies_true, Nat.lt_add_one, Nat.min_eq_left, Nat.le_add_right, qc, fillA, evParts, repCells, splice, partA, List.length_cons, List.length_nil, List.take_succ_cons, List.take_zero, List.drop_succ_cons, List.drop_zero, List.cons_append, Option.bind_some, Nat.add_zero, Nat.zero_add, List.drop_nil, List.take_nil, Nat.le_refl, Nat.min_self, qv, qu, pureStep, memStep, WC_look, condQ_true, condQ_false, WO_gd, gdQ_tt, gdQ_ff, gdQ_tf, gdQ_ft, gdQ_u, resOf, resAll, resA, wp_some, kv_none, ↓reduceIte, Nat.reduceEqDiff, reduceCtorEq, decide_true, decide_false, Bool.not_true, Bool.not_false, List.map_cons, List.map_nil, List.nil_append, List.append_nil, Option.map_some, Option.map_none, if_true, if_false, true_and, and_true, Int.reduceEq, Int.reduceLT, Int.reduceLE, Int.reduceNeg, Nat.reduceAdd, Nat.reduceLeDiff, Bool.true_eq_false, Bool.false_eq_true, beq_self_eq_true, nilckA, bne, Bool.not_eq_true']
          exact ⟨_, by omega, j + 1, _, _, _, rfl, by omega, rfl, rfl, ⟨hst3, by simp [hxl], by omega, hr.2, hnx.2 g⟩⟩
      · have hjN : j = N := by omega
        subst hjN
        obtain ⟨q, rfl⟩ : ∃ q : Nat, p = q := ⟨p.toNat, by omega⟩
        have htot := hI.tot
        rw [Nat.sub_self, rdInts] at htot
        simp only [Option.map_some, List.append_nil] at htot
        have hdm := hdm2 _ _ htot.symm
        rw [Int.toNat_natCast] at hdm
        obtain ⟨a', c', t1, t2⟩ := rest_text (h.ext hst.ext) (l := q) (by omega)
        have lrow := load_row hst.row
        have hl2 := hOf_is_lt hst.row
        have wrow := wr_at hst.row rfl 2
        simp (disch := first | omega | assumption | (simp only [List.length_cons, List.length_nil, len_newRow, len_set] <;> omega) | fail) only [k0, k2, k4, k5, k7, k8, t1, t2, wrow, eq_self, if_pos, if_neg, binStr_eql, binStr_neq, dec_t, dec_f, w64, wu64, wu8, Int.toNat_natCast, rQ_ret, rQ_norm, wQ_ret, wQ_norm, cutQ_norm, cutQ_exit, cutQ_ret, rngQ_norm, rngQ_ret, rngQ_exit, Nat.mul_one, loadA_new_eq, loadA_new_ne, loadA_set_eq, loadA_set_ne, hOf_new_eq, hOf_new_ne, hOf_set_eq, hOf_set_ne, wrRow_new_eq, wrRow_new_ne, lower_ge, lower_none, len_newRow, len_set, AV.undef, unA, qs, qb, qe, qi, Int.reduceToNat, Nat.reduceMul, List.getElem?_cons_succ, List.getElem?_cons_zero, false_implies, true_implies, forall_const, implies_true, Nat.lt_add_one, Nat.min_eq_left, Nat.le_add_right, qc, fillA, evParts, repCells, splice, partA, List.length_cons, List.length_nil, List.take_succ_cons, List.take_zero, List.drop_succ_cons, List.drop_zero, List.cons_append, Option.bind_some, Nat.add_zero, Nat.zero_add, List.drop_nil, List.take_nil, Nat.le_refl, Nat.min_self, qv, qu, pureStep, memStep, WC_look, condQ_true, condQ_false, WO_gd, gdQ_tt, gdQ_ff, gdQ_tf, gdQ_ft, gdQ_u, resOf, resAll, resA, wp_some, kv_none, ↓reduceIte, Nat.reduceEqDiff, reduceCtorEq, decide_true, decide_false, Bool.not_true, Bool.not_false, List.map_cons, List.map_nil, List.nil_append, List.append_nil, Option.map_some, Option.map_none, if_true, if_false, true_and, and_true, Int.reduceEq, Int.reduceLT, Int.reduceLE, Int.reduceNeg, Nat.reduceAdd, Nat.reduceLeDiff, Bool.true_eq_false, Bool.false_eq_true, beq_self_eq_true, nilckA, bne, Bool.not_eq_true']
        obtain ⟨a2, rfl, hse⟩ := hst.own.se
        have hown2 := hst.own.set (b := H.length + 1) (by omega) (.row ⟨[.int .i64 b.toNat, .slice a2 xs.length none, .str (bs.drop q)], true, 0⟩)
        have hext2 := hst.ext.set (i := H.length + 1) (by omega) (.row ⟨[.int .i64 b.toNat, .slice a2 xs.length none, .str (bs.drop q)], true, 0⟩)
        have hrow2 : hOf (List.set H' (H.length + 1) (.row ⟨[.int .i64 b.toNat, .slice a2 xs.length none, .str (bs.drop q)], true, 0⟩)) (H.length + 1) = some _ := hOf_set_eq rfl hl2 _
        have hres2 : hOf (List.set H' (H.length + 1) (.row ⟨[.int .i64 b.toNat, .slice a2 xs.length none, .str (bs.drop q)], true, 0⟩)) H.length = some _ := (hOf_set_ne (by omega) _).trans hst.res
        obtain ⟨a3, e3, hse2⟩ := hown2.se
        cases e3
        refine WO_callP rfl hext2 (p54 (m := ⟨b.toNat, xs, bs.drop q⟩) ⟨_, _, _, rfl, hse2⟩ (by simp; omega)) ?_
        rintro v H2 hx3 hx4 rfl
        have hrow3 := hx4.row _ _ hrow2
        have hres3 := hx4.row _ _ hres2
        have lrow3 := load_row hrow3 true 3 0
        have wres3 := wr_at hres3 rfl 0
        have hl3 := hOf_is_lt hres3
        simp (disch := first | omega | assumption | (simp only [List.length_cons, List.length_nil, len_newRow, len_set] <;> omega) | fail) only [eq_self, if_pos, if_neg, binStr_eql, binStr_neq, dec_t, dec_f, w64, wu64, wu8, Int.toNat_natCast, rQ_ret, rQ_norm, wQ_ret, wQ_norm, cutQ_norm, cutQ_exit, cutQ_ret, rngQ_norm, rngQ_ret, rngQ_exit, Nat.mul_one, loadA_new_eq, loadA_new_ne, loadA_set_eq, loadA_set_ne, hOf_new_eq, hOf_new_ne, hOf_set_eq, hOf_set_ne, wrRow_new_eq, wrRow_new_ne, lower_ge, lower_none, len_newRow, len_set, AV.undef, unA, qs, qb, qe, qi, Int.reduceToNat, Nat.reduceMul, List.getElem?_cons_succ, List.getElem?_cons_zero, false_implies, true_implies, forall_const, implies_true, Nat.lt_add_one, Nat.min_eq_left, Nat.le_add_right, qc, fillA, evParts, repCells, splice, partA, List.length_cons, List.length_nil, List.take_succ_cons, List.take_zero, List.drop_succ_cons, List.drop_zero, List.cons_append, Option.bind_some, Nat.add_zero, Nat.zero_add, List.drop_nil, List.take_nil, Nat.le_refl, Nat.min_self, qv, qu, pureStep, memStep, WC_look, condQ_true, condQ_false, WO_gd, gdQ_tt, gdQ_ff, gdQ_tf, gdQ_ft, gdQ_u, resOf, resAll, resA, wp_some, kv_none, ↓reduceIte, Nat.reduceEqDiff, reduceCtorEq, decide_true, decide_false, Bool.not_true, Bool.not_false, List.map_cons, List.map_nil, List.nil_append, List.append_nil, Option.map_some, Option.map_none, if_true, if_false, true_and, and_true, Int.reduceEq, Int.reduceLT, Int.reduceLE, Int.reduceNeg, Nat.reduceAdd, Nat.reduceLeDiff, Bool.true_eq_false, Bool.false_eq_true, beq_self_eq_true, nilckA, bne, Bool.not_eq_true']
        refine WC_not (fun g => ?_) (fun g => ?_)
        · simp (disch := first | omega | assumption | (simp only [List.length_cons, List.length_nil, len_newRow, len_set] <;> omega) | fail) only [k2, k4, wres3, lrow3, eq_self, if_pos, if_neg, binStr_eql, binStr_neq, dec_t, dec_f, w64, wu64, wu8, Int.toNat_natCast, rQ_ret, rQ_norm, wQ_ret, wQ_norm, cutQ_norm, cutQ_exit, cutQ_ret, rngQ_norm, rngQ_ret, rngQ_exit, Nat.mul_one, loadA_new_eq, loadA_new_ne, loadA_set_eq, loadA_set_ne, hOf_new_eq, hOf_new_ne, hOf_set_eq, hOf_set_ne, wrRow_new_eq, wrRow_new_ne, lower_ge, lower_none, len_newRow, len_set, AV.undef, unA, qs, qb, qe, qi, Int.reduceToNat, Nat.reduceMul, List.getElem?_cons_succ, List.getElem?_cons_zero, false_implies, true_implies, forall_const, implies_true, Nat.lt_add_one, Nat.min_eq_left, Nat.le_add_right, qc, fillA, evParts, repCells, splice, partA, List.length_cons, List.length_nil, List.take_succ_cons, List.take_zero, List.drop_succ_cons, List.drop_zero, List.cons_append, Option.bind_some, Nat.add_zero, Nat.zero_add, List.drop_nil, List.take_nil, Nat.le_refl, Nat.min_self, qv, qu, pureStep, memStep, WC_look, condQ_true, condQ_false, WO_gd, gdQ_tt, gdQ_ff, gdQ_tf, gdQ_ft, gdQ_u, resOf, resAll, resA, wp_some, kv_none, ↓reduceIte, Nat.reduceEqDiff, reduceCtorEq, decide_true, decide_false, Bool.not_true, Bool.not_false, List.map_cons, List.map_nil, List.nil_append, List.append_nil, Option.map_some, Option.map_none, if_true, if_false, true_and, and_true, Int.reduceEq, Int.reduceLT, Int.reduceLE, Int.reduceNeg, Nat.reduceAdd, Nat.reduceLeDiff, Bool.true_eq_false, Bool.false_eq_true, beq_self_eq_true, nilckA, bne, Bool.not_eq_true']
          exact ⟨hx3.set (Nat.le_refl _) _, by rw [hdm, g]; rfl⟩
        · simp (disch := first | omega | assumption | (simp only [List.length_cons, List.length_nil, len_newRow, len_set] <;> omega) | fail) only [k2, k4, wres3, lrow3, eq_self, if_pos, if_neg, binStr_eql, binStr_neq, dec_t, dec_f, w64, wu64, wu8, Int.toNat_natCast, rQ_ret, rQ_norm, wQ_ret, wQ_norm, cutQ_norm, cutQ_exit, cutQ_ret, rngQ_norm, rngQ_ret, rngQ_exit, Nat.mul_one, loadA_new_eq, loadA_new_ne, loadA_set_eq, loadA_set_ne, hOf_new_eq, hOf_new_ne, hOf_set_eq, hOf_set_ne, wrRow_new_eq, wrRow_new_ne, lower_ge, lower_none, len_newRow, len_set, AV.undef, unA, qs, qb, qe, qi, Int.reduceToNat, Nat.reduceMul, List.getElem?_cons_succ, List.getElem?_cons_zero, false_implies, true_implies, forall_const, implies_true, Nat.lt_add_one, Nat.min_eq_left, Nat.le_add_right, qc, fillA, evParts, repCells, splice, partA, List.length_cons, List.length_nil, List.take_succ_cons, List.take_zero, List.drop_succ_cons, List.drop_zero, List.cons_append, Option.bind_some, Nat.add_zero, Nat.zero_add, List.drop_nil, List.take_nil, Nat.le_refl, Nat.min_self, qv, qu, pureStep, memStep, WC_look, condQ_true, condQ_false, WO_gd, gdQ_tt, gdQ_ff, gdQ_tf, gdQ_ft, gdQ_u, resOf, resAll, resA, wp_some, kv_none, ↓reduceIte, Nat.reduceEqDiff, reduceCtorEq, decide_true, decide_false, Bool.not_true, Bool.not_false, List.map_cons, List.map_nil, List.nil_append, List.append_nil, Option.map_some, Option.map_none, if_true, if_false, true_and, and_true, Int.reduceEq, Int.reduceLT, Int.reduceLE, Int.reduceNeg, Nat.reduceAdd, Nat.reduceLeDiff, Bool.true_eq_false, Bool.false_eq_true, beq_self_eq_true, nilckA, bne, Bool.not_eq_true']
          refine ⟨hx3.set (Nat.le_refl _) _, ?_⟩
          rw [hdm, g]
          exact ⟨_, rfl, ((hown2.ext hx4).set (by omega) _).lo (by omega)⟩
    · exact hx2.row _ _ (by rw [hOf_new_ne (by rw [len_newRow]; omega), hOf_new_eq rfl])
    · exact hx2.row _ _ (by rw [hOf_new_eq (by rw [len_newRow])])
end Go.Proofs.Qq.Qqd

namespace Go.Proofs.Qq.Qqd
open Go.Proofs.Qq

set_option maxHeartbeats 4000000 in
/-- message.Decode -/
theorem p13 {H : AHeap} {a : Option (Nat × Nat)} {c : Option Nat} {bs : List UInt8} (h : SE eByte H a bs.length c bs) (hl : bs.length ≤ 1000000) :
    PF T 13 [.slice a bs.length c] H fun r H' => decOut H.length H' r (decM bs) := by
  refine PF_code rfl _ _ _ ?_
  simp only [a13]
  cases bs with
  | nil =>
    simp (disch := first | omega | assumption | (simp only [List.length_cons, List.length_nil, len_newRow, len_set] <;> omega) | fail) only [eq_self, if_pos, if_neg, binStr_eql, binStr_neq, dec_t, dec_f, w64, wu64, wu8, Int.toNat_natCast, rQ_ret, rQ_norm, wQ_ret, wQ_norm, cutQ_norm, cutQ_exit, cutQ_ret, rngQ_norm, rngQ_ret, rngQ_exit, Nat.mul_one, loadA_new_eq, loadA_new_ne, loadA_set_eq, loadA_set_ne, hOf_new_eq, hOf_new_ne, hOf_set_eq, hOf_set_ne, wrRow_new_eq, wrRow_new_ne, lower_ge, lower_none, len_newRow, len_set, AV.undef, unA, qs, qb, qe, qi, Int.reduceToNat, Nat.reduceMul, List.getElem?_cons_succ, List.getElem?_cons_zero, false_implies, true_implies, forall_const, implies_true, Nat.lt_add_one, Nat.min_eq_left, Nat.le_add_right, qc, fillA, evParts, repCells, splice, partA, List.length_cons, List.length_nil, List.take_succ_cons, List.take_zero, List.drop_succ_cons, List.drop_zero, List.cons_append, Option.bind_some, Nat.add_zero, Nat.zero_add, List.drop_nil, List.take_nil, Nat.le_refl, Nat.min_self, qv, qu, pureStep, memStep, WC_look, condQ_true, condQ_false, WO_gd, gdQ_tt, gdQ_ff, gdQ_tf, gdQ_ft, gdQ_u, resOf, resAll, resA, wp_some, kv_none, ↓reduceIte, Nat.reduceEqDiff, reduceCtorEq, decide_true, decide_false, Bool.not_true, Bool.not_false, List.map_cons, List.map_nil, List.nil_append, List.append_nil, Option.map_some, Option.map_none, if_true, if_false, true_and, and_true, Int.reduceEq, Int.reduceLT, Int.reduceLE, Int.reduceNeg, Nat.reduceAdd, Nat.reduceLeDiff, Bool.true_eq_false, Bool.false_eq_true, beq_self_eq_true, nilckA, bne, Bool.not_eq_true']
    exact ⟨(Ext.refl _).nr, rfl⟩
  | cons b bs' =>
    generalize hbs : b :: bs' = bs at h hl ⊢
    have h0 : bs[0]? = some b := by rw [← hbs]; rfl
    have hpos : 0 < bs.length := by rw [← hbs]; simp
    obtain ⟨i, o, rfl, hi, l1⟩ := h.at1 rfl h0 rfl
    rw [Nat.add_zero] at l1
    have c0 : ¬ (bs.length : Int) = 0 := by omega
    have hb256 : b.toNat < 256 := b.toNat_lt
    simp (disch := first | omega | assumption | (simp only [List.length_cons, List.length_nil, len_newRow, len_set] <;> omega) | fail) only [c0, l1, Int.reduceToNat, Nat.zero_mul, eq_self, if_pos, if_neg, binStr_eql, binStr_neq, dec_t, dec_f, w64, wu64, wu8, Int.toNat_natCast, rQ_ret, rQ_norm, wQ_ret, wQ_norm, cutQ_norm, cutQ_exit, cutQ_ret, rngQ_norm, rngQ_ret, rngQ_exit, Nat.mul_one, loadA_new_eq, loadA_new_ne, loadA_set_eq, loadA_set_ne, hOf_new_eq, hOf_new_ne, hOf_set_eq, hOf_set_ne, wrRow_new_eq, wrRow_new_ne, lower_ge, lower_none, len_newRow, len_set, AV.undef, unA, qs, qb, qe, qi, Int.reduceToNat, Nat.reduceMul, List.getElem?_cons_succ, List.getElem?_cons_zero, false_implies, true_implies, forall_const, implies_true, Nat.lt_add_one, Nat.min_eq_left, Nat.le_add_right, qc, fillA, evParts, repCells, splice, partA, List.length_cons, List.length_nil, List.take_succ_cons, List.take_zero, List.drop_succ_cons, List.drop_zero, List.cons_append, Option.bind_some, Nat.add_zero, Nat.zero_add, List.drop_nil, List.take_nil, Nat.le_refl, Nat.min_self, qv, qu, pureStep, memStep, WC_look, condQ_true, condQ_false, WO_gd, gdQ_tt, gdQ_ff, gdQ_tf, gdQ_ft, gdQ_u, resOf, resAll, resA, wp_some, kv_none, ↓reduceIte, Nat.reduceEqDiff, reduceCtorEq, decide_true, decide_false, Bool.not_true, Bool.not_false, List.map_cons, List.map_nil, List.nil_append, List.append_nil, Option.map_some, Option.map_none, if_true, if_false, true_and, and_true, Int.reduceEq, Int.reduceLT, Int.reduceLE, Int.reduceNeg, Nat.reduceAdd, Nat.reduceLeDiff, Bool.true_eq_false, Bool.false_eq_true, beq_self_eq_true, nilckA, bne, Bool.not_eq_true']
    refine WO_callP rfl (Ext.refl _).nr.nr (p51 _ _) ?_
    rintro v H1 hx1 hx2 rfl
    have hN := msgSize_le (b.toNat : Int)
    have hdm1 : rdInts bs (msgSize b.toNat).1.toNat 1 = none → decM bs = none := by rw [← hbs]; exact decM_none b bs'
    have hdm2 : ∀ l q, rdInts bs (msgSize b.toNat).1.toNat 1 = some (l, q) → decM bs = if mright ⟨b.toNat, l, bs.drop q.toNat⟩ then some ⟨b.toNat, l, bs.drop q.toNat⟩ else none := by rw [← hbs]; exact decM_some b bs'
    obtain ⟨N, hNe⟩ : ∃ N : Nat, (msgSize b.toNat).1 = (N : Int) := ⟨(msgSize b.toNat).1.toNat, by omega⟩
    rw [hNe] at hN hdm1 hdm2
    rw [Int.toNat_natCast] at hdm1 hdm2
    simp (disch := first | omega | assumption | (simp only [List.length_cons, List.length_nil, len_newRow, len_set] <;> omega) | fail) only [hNe, eq_self, if_pos, if_neg, binStr_eql, binStr_neq, dec_t, dec_f, w64, wu64, wu8, Int.toNat_natCast, rQ_ret, rQ_norm, wQ_ret, wQ_norm, cutQ_norm, cutQ_exit, cutQ_ret, rngQ_norm, rngQ_ret, rngQ_exit, Nat.mul_one, loadA_new_eq, loadA_new_ne, loadA_set_eq, loadA_set_ne, hOf_new_eq, hOf_new_ne, hOf_set_eq, hOf_set_ne, wrRow_new_eq, wrRow_new_ne, lower_ge, lower_none, len_newRow, len_set, AV.undef, unA, qs, qb, qe, qi, Int.reduceToNat, Nat.reduceMul, List.getElem?_cons_succ, List.getElem?_cons_zero, false_implies, true_implies, forall_const, implies_true, Nat.lt_add_one, Nat.min_eq_left, Nat.le_add_right, qc, fillA, evParts, repCells, splice, partA, List.length_cons, List.length_nil, List.take_succ_cons, List.take_zero, List.drop_succ_cons, List.drop_zero, List.cons_append, Option.bind_some, Nat.add_zero, Nat.zero_add, List.drop_nil, List.take_nil, Nat.le_refl, Nat.min_self, qv, qu, pureStep, memStep, WC_look, condQ_true, condQ_false, WO_gd, gdQ_tt, gdQ_ff, gdQ_tf, gdQ_ft, gdQ_u, resOf, resAll, resA, wp_some, kv_none, ↓reduceIte, Nat.reduceEqDiff, reduceCtorEq, decide_true, decide_false, Bool.not_true, Bool.not_false, List.map_cons, List.map_nil, List.nil_append, List.append_nil, Option.map_some, Option.map_none, if_true, if_false, true_and, and_true, Int.reduceEq, Int.reduceLT, Int.reduceLE, Int.reduceNeg, Nat.reduceAdd, Nat.reduceLeDiff, Bool.true_eq_false, Bool.false_eq_true, beq_self_eq_true, nilckA, bne, Bool.not_eq_true']
    refine WC_range N (by omega) (by decide) (by decide) (by decide) (by decide) (by decide) (fun j e H' l => ∃ p sl xs, e 0 = .slice (some (i, o)) bs.length c ∧ e 2 = .ptr (some (H.length, 0)) ∧ e 4 = .ptr (some (H.length + 1, 0)) ∧ e 7 = .int .i64 p ∧ l = H.length ∧ DecInv bs H b.toNat N j p H' sl xs) _ _ _ rfl rfl
      ⟨1, .slice none 0 none, [], rfl, rfl, rfl, rfl, rfl, ⟨⟨hx1, ?_, ?_, Own.nil _ _ _⟩, rfl, by omega, by omega, by simp⟩⟩ ?_ ?_
    rotate_left 2
    · rintro j e H' lw hlt k8 k5 ⟨p, sl, xs, k0, k2, k4, k7, rfl, hI⟩
      have hp1 := hI.p1
      have hp2 := hI.p2
      have hxl := hI.xl
      have hst := hI.st
      · simp (disch := first | omega | assumption | (simp only [List.length_cons, List.length_nil, len_newRow, len_set] <;> omega) | fail) only [k0, k2, k4, k5, k7, k8, eq_self, if_pos, if_neg, binStr_eql, binStr_neq, dec_t, dec_f, w64, wu64, wu8, Int.toNat_natCast, rQ_ret, rQ_norm, wQ_ret, wQ_norm, cutQ_norm, cutQ_exit, cutQ_ret, rngQ_norm, rngQ_ret, rngQ_exit, Nat.mul_one, loadA_new_eq, loadA_new_ne, loadA_set_eq, loadA_set_ne, hOf_new_eq, hOf_new_ne, hOf_set_eq, hOf_set_ne, wrRow_new_eq, wrRow_new_ne, lower_ge, lower_none, len_newRow, len_set, AV.undef, unA, qs, qb, qe, qi, Int.reduceToNat, Nat.reduceMul, List.getElem?_cons_succ, List.getElem?_cons_zero, false_implies, true_implies, forall_const, implies_true, Nat.lt_add_one, Nat.min_eq_left, Nat.le_add_right, qc, fillA, evParts, repCells, splice, partA, List.length_cons, List.length_nil, List.take_succ_cons, List.take_zero, List.drop_succ_cons, List.drop_zero, List.cons_append, Option.bind_some, Nat.add_zero, Nat.zero_add, List.drop_nil, List.take_nil, Nat.le_refl, Nat.min_self, qv, qu, pureStep, memStep, WC_look, condQ_true, condQ_false, WO_gd, gdQ_tt, gdQ_ff, gdQ_tf, gdQ_ft, gdQ_u, resOf, resAll, resA, wp_some, kv_none, ↓reduceIte, Nat.reduceEqDiff, reduceCtorEq, decide_true, decide_false, Bool.not_true, Bool.not_false, List.map_cons, List.map_nil, List.nil_append, List.append_nil, Option.map_some, Option.map_none, if_true, if_false, true_and, and_true, Int.reduceEq, Int.reduceLT, Int.reduceLE, Int.reduceNeg, Nat.reduceAdd, Nat.reduceLeDiff, Bool.true_eq_false, Bool.false_eq_true, beq_self_eq_true, nilckA, bne, Bool.not_eq_true']
        refine WO_callP rfl hst.ext (p55 (h.ext hst.ext) (by omega) p) ?_
        rintro v H2 hx3 hx4 rfl
        simp (disch := first | omega | assumption | (simp only [List.length_cons, List.length_nil, len_newRow, len_set] <;> omega) | fail) only [eq_self, if_pos, if_neg, binStr_eql, binStr_neq, dec_t, dec_f, w64, wu64, wu8, Int.toNat_natCast, rQ_ret, rQ_norm, wQ_ret, wQ_norm, cutQ_norm, cutQ_exit, cutQ_ret, rngQ_norm, rngQ_ret, rngQ_exit, Nat.mul_one, loadA_new_eq, loadA_new_ne, loadA_set_eq, loadA_set_ne, hOf_new_eq, hOf_new_ne, hOf_set_eq, hOf_set_ne, wrRow_new_eq, wrRow_new_ne, lower_ge, lower_none, len_newRow, len_set, AV.undef, unA, qs, qb, qe, qi, Int.reduceToNat, Nat.reduceMul, List.getElem?_cons_succ, List.getElem?_cons_zero, false_implies, true_implies, forall_const, implies_true, Nat.lt_add_one, Nat.min_eq_left, Nat.le_add_right, qc, fillA, evParts, repCells, splice, partA, List.length_cons, List.length_nil, List.take_succ_cons, List.take_zero, List.drop_succ_cons, List.drop_zero, List.cons_append, Option.bind_some, Nat.add_zero, Nat.zero_add, List.drop_nil, List.take_nil, Nat.le_refl, Nat.min_self, qv, qu, pureStep, memStep, WC_look, condQ_true, condQ_false, WO_gd, gdQ_tt, gdQ_ff, gdQ_tf, gdQ_ft, gdQ_u, resOf, resAll, resA, wp_some, kv_none, ↓reduceIte, Nat.reduceEqDiff, reduceCtorEq, decide_true, decide_false, Bool.not_true, Bool.not_false, List.map_cons, List.map_nil, List.nil_append, List.append_nil, Option.map_some, Option.map_none, if_true, if_false, true_and, and_true, Int.reduceEq, Int.reduceLT, Int.reduceLE, Int.reduceNeg, Nat.reduceAdd, Nat.reduceLeDiff, Bool.true_eq_false, Bool.false_eq_true, beq_self_eq_true, nilckA, bne, Bool.not_eq_true']
        have hnx := hI.next hlt
        have hrow := hx4.row _ _ hst.row
        have hres := hx4.row _ _ hst.res
        have hl2 := hOf_is_lt hrow
        refine WC_ndec (fun g => ?_) (fun g => ?_)
        · have hd := hdm1 (hnx.1 g)
          have lres := load_row hres true 3 0
          have wres := wr_at hres rfl 0
          simp (disch := first | omega | assumption | (simp only [List.length_cons, List.length_nil, len_newRow, len_set] <;> omega) | fail) only [k0, k2, k4, k5, k7, k8, wres, eq_self, if_pos, if_neg, binStr_eql, binStr_neq, dec_t, dec_f, w64, wu64, wu8, Int.toNat_natCast, rQ_ret, rQ_norm, wQ_ret, wQ_norm, cutQ_norm, cutQ_exit, cutQ_ret, rngQ_norm, rngQ_ret, rngQ_exit, Nat.mul_one, loadA_new_eq, loadA_new_ne, loadA_set_eq, loadA_set_ne, hOf_new_eq, hOf_new_ne, hOf_set_eq, hOf_set_ne, wrRow_new_eq, wrRow_new_ne, lower_ge, lower_none, len_newRow, len_set, AV.undef, unA, qs, qb, qe, qi, Int.reduceToNat, Nat.reduceMul, List.getElem?_cons_succ, List.getElem?_cons_zero, false_implies, true_implies, forall_const, implies_true, Nat.lt_add_one, Nat.min_eq_left, Nat.le_add_right, qc, fillA, evParts, repCells, splice, partA, List.length_cons, List.length_nil, List.take_succ_cons, List.take_zero, List.drop_succ_cons, List.drop_zero, List.cons_append, Option.bind_some, Nat.add_zero, Nat.zero_add, List.drop_nil, List.take_nil, Nat.le_refl, Nat.min_self, qv, qu, pureStep, memStep, WC_look, condQ_true, condQ_false, WO_gd, gdQ_tt, gdQ_ff, gdQ_tf, gdQ_ft, gdQ_u, resOf, resAll, resA, wp_some, kv_none, ↓reduceIte, Nat.reduceEqDiff, reduceCtorEq, decide_true, decide_false, Bool.not_true, Bool.not_false, List.map_cons, List.map_nil, List.nil_append, List.append_nil, Option.map_some, Option.map_none, if_true, if_false, true_and, and_true, Int.reduceEq, Int.reduceLT, Int.reduceLE, Int.reduceNeg, Nat.reduceAdd, Nat.reduceLeDiff, Bool.true_eq_false, Bool.false_eq_true, beq_self_eq_true, nilckA, bne, Bool.not_eq_true']
          exact ⟨hx3.set (Nat.le_refl _) _, by rw [hd]; rfl⟩
        · have hr := rdU_range bs p g
          have lrow := load_row hrow false 1 1
          obtain ⟨sl', H3, w, e1, hrow3, elo, hst3⟩ := RdSt.add ⟨hx3, hres, hrow, hst.own.ext hx4⟩ (zag (rdU bs p).1) (by omega)
          obtain ⟨a2, rfl, hse2⟩ := hst3.own.se
          have wrow := wr_at hrow3 rfl 1
          simp (disch := first | omega | assumption | (simp only [List.length_cons, List.length_nil, len_newRow, len_set] <;> omega) | fail) only [k0, k2, k4, k5, k7, k8, lrow, e1, elo, wrow, eq_self, if_pos, if_neg, binStr_eql, binStr_neq, dec_t, dec_f, w64, wu64, wu8, Int.toNat_natCast, rQ_ret, rQ_norm, wQ_ret, wQ_norm, cutQ_norm, cutQ_exit, cutQ_ret, rngQ_norm, rngQ_ret, rngQ_exit, Nat.mul_one, loadA_new_eq, loadA_new_ne, loadA_set_eq, loadA_set_ne, hOf_new_eq, hOf_new_ne, hOf_set_eq, hOf_set_ne, wrRow_new_eq, wrRow_new_ne, lower_ge, lower_none, len_newRow, len_set, AV.undef, unA, qs, qb, qe, qi, Int.reduceToNat, Nat.reduceMul, List.getElem?_cons_succ, List.getElem?_cons_zero, false_implies, true_implies, forall_const, implies_true, Nat.lt_add_one, Nat.min_eq_left, Nat.le_add_right, qc, fillA, evParts, repCells, splice, partA, List.length_cons, List.length_nil, List.take_succ_cons, List.take_zero, List.drop_succ_cons, List.drop_zero, List.cons_append, Option.bind_some, Nat.add_zero, Nat.zero_add, List.drop_nil, List.take_nil, Nat.le_refl, Nat.min_self, qv, qu, pureStep, memStep, WC_look, condQ_true, condQ_false, WO_gd, gdQ_tt, gdQ_ff, gdQ_tf, gdQ_ft, gdQ_u, resOf, resAll, resA, wp_some, kv_none, ↓reduceIte, Nat.reduceEqDiff, reduceCtorEq, decide_true, decide_false, Bool.not_true, Bool.not_false, List.map_cons, List.map_nil, List.nil_append, List.append_nil, Option.map_some, Option.map_none, if_true, if_false, true_and, and_true, Int.reduceEq, Int.reduceLT, Int.reduceLE, Int.reduceNeg, Nat.reduceAdd, Nat.reduceLeDiff, Bool.true_eq_false, Bool.false_eq_true, beq_self_eq_true, nilckA, bne, Bool.not_eq_true']
          exact ⟨_, _, _, rfl, ⟨hst3, by simp [hxl], by omega, hr.2, hnx.2 g⟩⟩
    · rintro e H' lw k8 k5 ⟨p, sl, xs, k0, k2, k4, k7, rfl, hI⟩
      have hp1 := hI.p1
      have hp2 := hI.p2
      have hxl := hI.xl
      have hst := hI.st
      generalize hjN : N = j at hI hxl
      · subst hjN
        obtain ⟨q, rfl⟩ : ∃ q : Nat, p = q := ⟨p.toNat, by omega⟩
        have htot := hI.tot
        rw [Nat.sub_self, rdInts] at htot
        simp only [Option.map_some, List.append_nil] at htot
        have hdm := hdm2 _ _ htot.symm
        rw [Int.toNat_natCast] at hdm
        obtain ⟨a', c', t1, t2⟩ := rest_text (h.ext hst.ext) (l := q) (by omega)
        have lrow := load_row hst.row
        have hl2 := hOf_is_lt hst.row
        have wrow := wr_at hst.row rfl 2
        simp (disch := first | omega | assumption | (simp only [List.length_cons, List.length_nil, len_newRow, len_set] <;> omega) | fail) only [k0, k2, k4, k5, k7, k8, t1, t2, wrow, eq_self, if_pos, if_neg, binStr_eql, binStr_neq, dec_t, dec_f, w64, wu64, wu8, Int.toNat_natCast, rQ_ret, rQ_norm, wQ_ret, wQ_norm, cutQ_norm, cutQ_exit, cutQ_ret, rngQ_norm, rngQ_ret, rngQ_exit, Nat.mul_one, loadA_new_eq, loadA_new_ne, loadA_set_eq, loadA_set_ne, hOf_new_eq, hOf_new_ne, hOf_set_eq, hOf_set_ne, wrRow_new_eq, wrRow_new_ne, lower_ge, lower_none, len_newRow, len_set, AV.undef, unA, qs, qb, qe, qi, Int.reduceToNat, Nat.reduceMul, List.getElem?_cons_succ, List.getElem?_cons_zero, false_implies, true_implies, forall_const, implies_true, Nat.lt_add_one, Nat.min_eq_left, Nat.le_add_right, qc, fillA, evParts, repCells, splice, partA, List.length_cons, List.length_nil, List.take_succ_cons, List.take_zero, List.drop_succ_cons, List.drop_zero, List.cons_append, Option.bind_some, Nat.add_zero, Nat.zero_add, List.drop_nil, List.take_nil, Nat.le_refl, Nat.min_self, qv, qu, pureStep, memStep, WC_look, condQ_true, condQ_false, WO_gd, gdQ_tt, gdQ_ff, gdQ_tf, gdQ_ft, gdQ_u, resOf, resAll, resA, wp_some, kv_none, ↓reduceIte, Nat.reduceEqDiff, reduceCtorEq, decide_true, decide_false, Bool.not_true, Bool.not_false, List.map_cons, List.map_nil, List.nil_append, List.append_nil, Option.map_some, Option.map_none, if_true, if_false, true_and, and_true, Int.reduceEq, Int.reduceLT, Int.reduceLE, Int.reduceNeg, Nat.reduceAdd, Nat.reduceLeDiff, Bool.true_eq_false, Bool.false_eq_true, beq_self_eq_true, nilckA, bne, Bool.not_eq_true']
        obtain ⟨a2, rfl, hse⟩ := hst.own.se
        have hown2 := hst.own.set (b := H.length + 1) (by omega) (.row ⟨[.int .i64 b.toNat, .slice a2 xs.length none, .str (bs.drop q)], true, 0⟩)
        have hext2 := hst.ext.set (i := H.length + 1) (by omega) (.row ⟨[.int .i64 b.toNat, .slice a2 xs.length none, .str (bs.drop q)], true, 0⟩)
        have hrow2 : hOf (List.set H' (H.length + 1) (.row ⟨[.int .i64 b.toNat, .slice a2 xs.length none, .str (bs.drop q)], true, 0⟩)) (H.length + 1) = some _ := hOf_set_eq rfl hl2 _
        have hres2 : hOf (List.set H' (H.length + 1) (.row ⟨[.int .i64 b.toNat, .slice a2 xs.length none, .str (bs.drop q)], true, 0⟩)) H.length = some _ := (hOf_set_ne (by omega) _).trans hst.res
        obtain ⟨a3, e3, hse2⟩ := hown2.se
        cases e3
        refine WO_callP rfl hext2 (p17 (m := ⟨b.toNat, xs, bs.drop q⟩) ⟨_, _, _, rfl, hse2⟩ (by simp; omega)) ?_
        rintro v H2 hx3 hx4 rfl
        have hrow3 := hx4.row _ _ hrow2
        have hres3 := hx4.row _ _ hres2
        have lrow3 := load_row hrow3 true 3 0
        have wres3 := wr_at hres3 rfl 0
        have hl3 := hOf_is_lt hres3
        simp (disch := first | omega | assumption | (simp only [List.length_cons, List.length_nil, len_newRow, len_set] <;> omega) | fail) only [eq_self, if_pos, if_neg, binStr_eql, binStr_neq, dec_t, dec_f, w64, wu64, wu8, Int.toNat_natCast, rQ_ret, rQ_norm, wQ_ret, wQ_norm, cutQ_norm, cutQ_exit, cutQ_ret, rngQ_norm, rngQ_ret, rngQ_exit, Nat.mul_one, loadA_new_eq, loadA_new_ne, loadA_set_eq, loadA_set_ne, hOf_new_eq, hOf_new_ne, hOf_set_eq, hOf_set_ne, wrRow_new_eq, wrRow_new_ne, lower_ge, lower_none, len_newRow, len_set, AV.undef, unA, qs, qb, qe, qi, Int.reduceToNat, Nat.reduceMul, List.getElem?_cons_succ, List.getElem?_cons_zero, false_implies, true_implies, forall_const, implies_true, Nat.lt_add_one, Nat.min_eq_left, Nat.le_add_right, qc, fillA, evParts, repCells, splice, partA, List.length_cons, List.length_nil, List.take_succ_cons, List.take_zero, List.drop_succ_cons, List.drop_zero, List.cons_append, Option.bind_some, Nat.add_zero, Nat.zero_add, List.drop_nil, List.take_nil, Nat.le_refl, Nat.min_self, qv, qu, pureStep, memStep, WC_look, condQ_true, condQ_false, WO_gd, gdQ_tt, gdQ_ff, gdQ_tf, gdQ_ft, gdQ_u, resOf, resAll, resA, wp_some, kv_none, ↓reduceIte, Nat.reduceEqDiff, reduceCtorEq, decide_true, decide_false, Bool.not_true, Bool.not_false, List.map_cons, List.map_nil, List.nil_append, List.append_nil, Option.map_some, Option.map_none, if_true, if_false, true_and, and_true, Int.reduceEq, Int.reduceLT, Int.reduceLE, Int.reduceNeg, Nat.reduceAdd, Nat.reduceLeDiff, Bool.true_eq_false, Bool.false_eq_true, beq_self_eq_true, nilckA, bne, Bool.not_eq_true']
        refine WC_not (fun g => ?_) (fun g => ?_)
        · simp (disch := first | omega | assumption | (simp only [List.length_cons, List.length_nil, len_newRow, len_set] <;> omega) | fail) only [k2, k4, wres3, lrow3, eq_self, if_pos, if_neg, binStr_eql, binStr_neq, dec_t, dec_f, w64, wu64, wu8, Int.toNat_natCast, rQ_ret, rQ_norm, wQ_ret, wQ_norm, cutQ_norm, cutQ_exit, cutQ_ret, rngQ_norm, rngQ_ret, rngQ_exit, Nat.mul_one, loadA_new_eq, loadA_new_ne, loadA_set_eq, loadA_set_ne, hOf_new_eq, hOf_new_ne, hOf_set_eq, hOf_set_ne, wrRow_new_eq, wrRow_new_ne, lower_ge, lower_none, len_newRow, len_set, AV.undef, unA, qs, qb, qe, qi, Int.reduceToNat, Nat.reduceMul, List.getElem?_cons_succ, List.getElem?_cons_zero, false_implies, true_implies, forall_const, implies_true, Nat.lt_add_one, Nat.min_eq_left, Nat.le_add_right, qc, fillA, evParts, repCells, splice, partA, List.length_cons, List.length_nil, List.take_succ_cons, List.take_zero, List.drop_succ_cons, List.drop_zero, List.cons_append, Option.bind_some, Nat.add_zero, Nat.zero_add, List.drop_nil, List.take_nil, Nat.le_refl, Nat.min_self, qv, qu, pureStep, memStep, WC_look, condQ_true, condQ_false, WO_gd, gdQ_tt, gdQ_ff, gdQ_tf, gdQ_ft, gdQ_u, resOf, resAll, resA, wp_some, kv_none, ↓reduceIte, Nat.reduceEqDiff, reduceCtorEq, decide_true, decide_false, Bool.not_true, Bool.not_false, List.map_cons, List.map_nil, List.nil_append, List.append_nil, Option.map_some, Option.map_none, if_true, if_false, true_and, and_true, Int.reduceEq, Int.reduceLT, Int.reduceLE, Int.reduceNeg, Nat.reduceAdd, Nat.reduceLeDiff, Bool.true_eq_false, Bool.false_eq_true, beq_self_eq_true, nilckA, bne, Bool.not_eq_true']
          exact ⟨hx3.set (Nat.le_refl _) _, by rw [hdm, g]; rfl⟩
        · simp (disch := first | omega | assumption | (simp only [List.length_cons, List.length_nil, len_newRow, len_set] <;> omega) | fail) only [k2, k4, wres3, lrow3, eq_self, if_pos, if_neg, binStr_eql, binStr_neq, dec_t, dec_f, w64, wu64, wu8, Int.toNat_natCast, rQ_ret, rQ_norm, wQ_ret, wQ_norm, cutQ_norm, cutQ_exit, cutQ_ret, rngQ_norm, rngQ_ret, rngQ_exit, Nat.mul_one, loadA_new_eq, loadA_new_ne, loadA_set_eq, loadA_set_ne, hOf_new_eq, hOf_new_ne, hOf_set_eq, hOf_set_ne, wrRow_new_eq, wrRow_new_ne, lower_ge, lower_none, len_newRow, len_set, AV.undef, unA, qs, qb, qe, qi, Int.reduceToNat, Nat.reduceMul, List.getElem?_cons_succ, List.getElem?_cons_zero, false_implies, true_implies, forall_const, implies_true, Nat.lt_add_one, Nat.min_eq_left, Nat.le_add_right, qc, fillA, evParts, repCells, splice, partA, List.length_cons, List.length_nil, List.take_succ_cons, List.take_zero, List.drop_succ_cons, List.drop_zero, List.cons_append, Option.bind_some, Nat.add_zero, Nat.zero_add, List.drop_nil, List.take_nil, Nat.le_refl, Nat.min_self, qv, qu, pureStep, memStep, WC_look, condQ_true, condQ_false, WO_gd, gdQ_tt, gdQ_ff, gdQ_tf, gdQ_ft, gdQ_u, resOf, resAll, resA, wp_some, kv_none, ↓reduceIte, Nat.reduceEqDiff, reduceCtorEq, decide_true, decide_false, Bool.not_true, Bool.not_false, List.map_cons, List.map_nil, List.nil_append, List.append_nil, Option.map_some, Option.map_none, if_true, if_false, true_and, and_true, Int.reduceEq, Int.reduceLT, Int.reduceLE, Int.reduceNeg, Nat.reduceAdd, Nat.reduceLeDiff, Bool.true_eq_false, Bool.false_eq_true, beq_self_eq_true, nilckA, bne, Bool.not_eq_true']
          refine ⟨hx3.set (Nat.le_refl _) _, ?_⟩
          rw [hdm, g]
          exact ⟨_, rfl, ((hown2.ext hx4).set (by omega) _).lo (by omega)⟩
    · exact hx2.row _ _ (by rw [hOf_new_ne (by rw [len_newRow]; omega), hOf_new_eq rfl])
    · exact hx2.row _ _ (by rw [hOf_new_eq (by rw [len_newRow])])

end Go.Proofs.Qq.Qqd

namespace Go.Proofs.Qq.Qqd
open Go.Proofs.Qq

theorem msg_eq (m k : Msg) : decide (m = k) = (decide (m.kind = k.kind) && (decide (m.text = k.text) && decide (m.l = k.l))) := by
  rw [Bool.eq_iff_iff]
  simp only [Bool.and_eq_true, decide_eq_true_iff]
  constructor
  · rintro rfl; exact ⟨rfl, rfl, rfl⟩
  · rintro ⟨h1, h2, h3⟩
    cases m; cases k; simp_all

/-- message.Same -/
theorem p19 {H : AHeap} {v w : AV} {m k : Msg} (h : MV H v m) (h' : MV H w k) (hl : m.l.length ≤ 9223372036854775806) : PF T 19 [v, w] H fun r _ => r = .bool (decide (m = k)) := by
  obtain ⟨a, n, c, rfl, hs⟩ := h.ex
  obtain ⟨a', n', c', rfl, hs'⟩ := h'.ex
  refine PF_code rfl _ _ _ ?_
  rw [msg_eq]
  simp only [a19]
  by_cases h1 : m.kind = k.kind
  · by_cases h2 : m.text = k.text
    · simp (disch := first | omega | assumption | (simp only [List.length_cons, List.length_nil, len_newRow, len_set] <;> omega) | fail) only [h1, h2, eq_self, if_pos, if_neg, binStr_eql, binStr_neq, dec_t, dec_f, w64, wu64, wu8, Int.toNat_natCast, rQ_ret, rQ_norm, wQ_ret, wQ_norm, cutQ_norm, cutQ_exit, cutQ_ret, rngQ_norm, rngQ_ret, rngQ_exit, Nat.mul_one, loadA_new_eq, loadA_new_ne, loadA_set_eq, loadA_set_ne, hOf_new_eq, hOf_new_ne, hOf_set_eq, hOf_set_ne, wrRow_new_eq, wrRow_new_ne, lower_ge, lower_none, len_newRow, len_set, AV.undef, unA, qs, qb, qe, qi, Int.reduceToNat, Nat.reduceMul, List.getElem?_cons_succ, List.getElem?_cons_zero, false_implies, true_implies, forall_const, implies_true, Nat.lt_add_one, Nat.min_eq_left, Nat.le_add_right, qc, fillA, evParts, repCells, splice, partA, List.length_cons, List.length_nil, List.take_succ_cons, List.take_zero, List.drop_succ_cons, List.drop_zero, List.cons_append, Option.bind_some, Nat.add_zero, Nat.zero_add, List.drop_nil, List.take_nil, Nat.le_refl, Nat.min_self, qv, qu, pureStep, memStep, WC_look, condQ_true, condQ_false, WO_gd, gdQ_tt, gdQ_ff, gdQ_tf, gdQ_ft, gdQ_u, resOf, resAll, resA, wp_some, kv_none, ↓reduceIte, Nat.reduceEqDiff, reduceCtorEq, decide_true, decide_false, Bool.not_true, Bool.not_false, List.map_cons, List.map_nil, List.nil_append, List.append_nil, Option.map_some, Option.map_none, if_true, if_false, true_and, and_true, Int.reduceEq, Int.reduceLT, Int.reduceLE, Int.reduceNeg, Nat.reduceAdd, Nat.reduceLeDiff, Bool.true_eq_false, Bool.false_eq_true, beq_self_eq_true, nilckA, bne, Bool.not_eq_true']
      refine WO_callP rfl (Ext.refl _).nr.nr (equal_ok (E := eInt) (xs := m.l) (ys := k.l) (f := 58) rfl cmpInt (hs.ext (Ext.refl _).nr.nr) (hs'.ext (Ext.refl _).nr.nr) hl) ?_
      rintro v H1 hx1 hx2 rfl
      simp (disch := first | omega | assumption | (simp only [List.length_cons, List.length_nil, len_newRow, len_set] <;> omega) | fail) only [eq_self, if_pos, if_neg, binStr_eql, binStr_neq, dec_t, dec_f, w64, wu64, wu8, Int.toNat_natCast, rQ_ret, rQ_norm, wQ_ret, wQ_norm, cutQ_norm, cutQ_exit, cutQ_ret, rngQ_norm, rngQ_ret, rngQ_exit, Nat.mul_one, loadA_new_eq, loadA_new_ne, loadA_set_eq, loadA_set_ne, hOf_new_eq, hOf_new_ne, hOf_set_eq, hOf_set_ne, wrRow_new_eq, wrRow_new_ne, lower_ge, lower_none, len_newRow, len_set, AV.undef, unA, qs, qb, qe, qi, Int.reduceToNat, Nat.reduceMul, List.getElem?_cons_succ, List.getElem?_cons_zero, false_implies, true_implies, forall_const, implies_true, Nat.lt_add_one, Nat.min_eq_left, Nat.le_add_right, qc, fillA, evParts, repCells, splice, partA, List.length_cons, List.length_nil, List.take_succ_cons, List.take_zero, List.drop_succ_cons, List.drop_zero, List.cons_append, Option.bind_some, Nat.add_zero, Nat.zero_add, List.drop_nil, List.take_nil, Nat.le_refl, Nat.min_self, qv, qu, pureStep, memStep, WC_look, condQ_true, condQ_false, WO_gd, gdQ_tt, gdQ_ff, gdQ_tf, gdQ_ft, gdQ_u, resOf, resAll, resA, wp_some, kv_none, ↓reduceIte, Nat.reduceEqDiff, reduceCtorEq, decide_true, decide_false, Bool.not_true, Bool.not_false, List.map_cons, List.map_nil, List.nil_append, List.append_nil, Option.map_some, Option.map_none, if_true, if_false, true_and, and_true, Int.reduceEq, Int.reduceLT, Int.reduceLE, Int.reduceNeg, Nat.reduceAdd, Nat.reduceLeDiff, Bool.true_eq_false, Bool.false_eq_true, beq_self_eq_true, nilckA, bne, Bool.not_eq_true']
      exact ⟨hx1, by simp⟩
    · simp (disch := first | omega | assumption | (simp only [List.length_cons, List.length_nil, len_newRow, len_set] <;> omega) | fail) only [h1, h2, eq_self, if_pos, if_neg, binStr_eql, binStr_neq, dec_t, dec_f, w64, wu64, wu8, Int.toNat_natCast, rQ_ret, rQ_norm, wQ_ret, wQ_norm, cutQ_norm, cutQ_exit, cutQ_ret, rngQ_norm, rngQ_ret, rngQ_exit, Nat.mul_one, loadA_new_eq, loadA_new_ne, loadA_set_eq, loadA_set_ne, hOf_new_eq, hOf_new_ne, hOf_set_eq, hOf_set_ne, wrRow_new_eq, wrRow_new_ne, lower_ge, lower_none, len_newRow, len_set, AV.undef, unA, qs, qb, qe, qi, Int.reduceToNat, Nat.reduceMul, List.getElem?_cons_succ, List.getElem?_cons_zero, false_implies, true_implies, forall_const, implies_true, Nat.lt_add_one, Nat.min_eq_left, Nat.le_add_right, qc, fillA, evParts, repCells, splice, partA, List.length_cons, List.length_nil, List.take_succ_cons, List.take_zero, List.drop_succ_cons, List.drop_zero, List.cons_append, Option.bind_some, Nat.add_zero, Nat.zero_add, List.drop_nil, List.take_nil, Nat.le_refl, Nat.min_self, qv, qu, pureStep, memStep, WC_look, condQ_true, condQ_false, WO_gd, gdQ_tt, gdQ_ff, gdQ_tf, gdQ_ft, gdQ_u, resOf, resAll, resA, wp_some, kv_none, ↓reduceIte, Nat.reduceEqDiff, reduceCtorEq, decide_true, decide_false, Bool.not_true, Bool.not_false, List.map_cons, List.map_nil, List.nil_append, List.append_nil, Option.map_some, Option.map_none, if_true, if_false, true_and, and_true, Int.reduceEq, Int.reduceLT, Int.reduceLE, Int.reduceNeg, Nat.reduceAdd, Nat.reduceLeDiff, Bool.true_eq_false, Bool.false_eq_true, beq_self_eq_true, nilckA, bne, Bool.not_eq_true']
      exact ⟨(Ext.refl _).nr.nr, by simp⟩
  · simp (disch := first | omega | assumption | (simp only [List.length_cons, List.length_nil, len_newRow, len_set] <;> omega) | fail) only [h1, eq_self, if_pos, if_neg, binStr_eql, binStr_neq, dec_t, dec_f, w64, wu64, wu8, Int.toNat_natCast, rQ_ret, rQ_norm, wQ_ret, wQ_norm, cutQ_norm, cutQ_exit, cutQ_ret, rngQ_norm, rngQ_ret, rngQ_exit, Nat.mul_one, loadA_new_eq, loadA_new_ne, loadA_set_eq, loadA_set_ne, hOf_new_eq, hOf_new_ne, hOf_set_eq, hOf_set_ne, wrRow_new_eq, wrRow_new_ne, lower_ge, lower_none, len_newRow, len_set, AV.undef, unA, qs, qb, qe, qi, Int.reduceToNat, Nat.reduceMul, List.getElem?_cons_succ, List.getElem?_cons_zero, false_implies, true_implies, forall_const, implies_true, Nat.lt_add_one, Nat.min_eq_left, Nat.le_add_right, qc, fillA, evParts, repCells, splice, partA, List.length_cons, List.length_nil, List.take_succ_cons, List.take_zero, List.drop_succ_cons, List.drop_zero, List.cons_append, Option.bind_some, Nat.add_zero, Nat.zero_add, List.drop_nil, List.take_nil, Nat.le_refl, Nat.min_self, qv, qu, pureStep, memStep, WC_look, condQ_true, condQ_false, WO_gd, gdQ_tt, gdQ_ff, gdQ_tf, gdQ_ft, gdQ_u, resOf, resAll, resA, wp_some, kv_none, ↓reduceIte, Nat.reduceEqDiff, reduceCtorEq, decide_true, decide_false, Bool.not_true, Bool.not_false, List.map_cons, List.map_nil, List.nil_append, List.append_nil, Option.map_some, Option.map_none, if_true, if_false, true_and, and_true, Int.reduceEq, Int.reduceLT, Int.reduceLE, Int.reduceNeg, Nat.reduceAdd, Nat.reduceLeDiff, Bool.true_eq_false, Bool.false_eq_true, beq_self_eq_true, nilckA, bne, Bool.not_eq_true']
    exact ⟨(Ext.refl _).nr.nr, by simp⟩

/-- barrowlaw12.few -/
theorem p15 {H : AHeap} {v : AV} {m : Msg} (h : MV H v m) : PF T 15 [v] H fun r _ => r = .bool (decide (m.l.length ≤ 100) && decide (m.text.length ≤ 1024)) := by
  obtain ⟨a, n, c, rfl, hs⟩ := h.ex
  obtain rfl := hs.n
  refine PF_code rfl _ _ _ ?_
  simp only [a15]
  by_cases h1 : m.l.length ≤ 100
  · by_cases h2 : m.text.length ≤ 1024
    · simp (disch := first | omega | assumption | (simp only [List.length_cons, List.length_nil, len_newRow, len_set] <;> omega) | fail) only [eq_self, if_pos, if_neg, binStr_eql, binStr_neq, dec_t, dec_f, w64, wu64, wu8, Int.toNat_natCast, rQ_ret, rQ_norm, wQ_ret, wQ_norm, cutQ_norm, cutQ_exit, cutQ_ret, rngQ_norm, rngQ_ret, rngQ_exit, Nat.mul_one, loadA_new_eq, loadA_new_ne, loadA_set_eq, loadA_set_ne, hOf_new_eq, hOf_new_ne, hOf_set_eq, hOf_set_ne, wrRow_new_eq, wrRow_new_ne, lower_ge, lower_none, len_newRow, len_set, AV.undef, unA, qs, qb, qe, qi, Int.reduceToNat, Nat.reduceMul, List.getElem?_cons_succ, List.getElem?_cons_zero, false_implies, true_implies, forall_const, implies_true, Nat.lt_add_one, Nat.min_eq_left, Nat.le_add_right, qc, fillA, evParts, repCells, splice, partA, List.length_cons, List.length_nil, List.take_succ_cons, List.take_zero, List.drop_succ_cons, List.drop_zero, List.cons_append, Option.bind_some, Nat.add_zero, Nat.zero_add, List.drop_nil, List.take_nil, Nat.le_refl, Nat.min_self, qv, qu, pureStep, memStep, WC_look, condQ_true, condQ_false, WO_gd, gdQ_tt, gdQ_ff, gdQ_tf, gdQ_ft, gdQ_u, resOf, resAll, resA, wp_some, kv_none, ↓reduceIte, Nat.reduceEqDiff, reduceCtorEq, decide_true, decide_false, Bool.not_true, Bool.not_false, List.map_cons, List.map_nil, List.nil_append, List.append_nil, Option.map_some, Option.map_none, if_true, if_false, true_and, and_true, Int.reduceEq, Int.reduceLT, Int.reduceLE, Int.reduceNeg, Nat.reduceAdd, Nat.reduceLeDiff, Bool.true_eq_false, Bool.false_eq_true, beq_self_eq_true, nilckA, bne, Bool.not_eq_true']
      exact ⟨(Ext.refl _).nr, by simp [h1, h2]⟩
    · simp (disch := first | omega | assumption | (simp only [List.length_cons, List.length_nil, len_newRow, len_set] <;> omega) | fail) only [eq_self, if_pos, if_neg, binStr_eql, binStr_neq, dec_t, dec_f, w64, wu64, wu8, Int.toNat_natCast, rQ_ret, rQ_norm, wQ_ret, wQ_norm, cutQ_norm, cutQ_exit, cutQ_ret, rngQ_norm, rngQ_ret, rngQ_exit, Nat.mul_one, loadA_new_eq, loadA_new_ne, loadA_set_eq, loadA_set_ne, hOf_new_eq, hOf_new_ne, hOf_set_eq, hOf_set_ne, wrRow_new_eq, wrRow_new_ne, lower_ge, lower_none, len_newRow, len_set, AV.undef, unA, qs, qb, qe, qi, Int.reduceToNat, Nat.reduceMul, List.getElem?_cons_succ, List.getElem?_cons_zero, false_implies, true_implies, forall_const, implies_true, Nat.lt_add_one, Nat.min_eq_left, Nat.le_add_right, qc, fillA, evParts, repCells, splice, partA, List.length_cons, List.length_nil, List.take_succ_cons, List.take_zero, List.drop_succ_cons, List.drop_zero, List.cons_append, Option.bind_some, Nat.add_zero, Nat.zero_add, List.drop_nil, List.take_nil, Nat.le_refl, Nat.min_self, qv, qu, pureStep, memStep, WC_look, condQ_true, condQ_false, WO_gd, gdQ_tt, gdQ_ff, gdQ_tf, gdQ_ft, gdQ_u, resOf, resAll, resA, wp_some, kv_none, ↓reduceIte, Nat.reduceEqDiff, reduceCtorEq, decide_true, decide_false, Bool.not_true, Bool.not_false, List.map_cons, List.map_nil, List.nil_append, List.append_nil, Option.map_some, Option.map_none, if_true, if_false, true_and, and_true, Int.reduceEq, Int.reduceLT, Int.reduceLE, Int.reduceNeg, Nat.reduceAdd, Nat.reduceLeDiff, Bool.true_eq_false, Bool.false_eq_true, beq_self_eq_true, nilckA, bne, Bool.not_eq_true']
      exact ⟨(Ext.refl _).nr, by simp [h1, h2]⟩
  · simp (disch := first | omega | assumption | (simp only [List.length_cons, List.length_nil, len_newRow, len_set] <;> omega) | fail) only [eq_self, if_pos, if_neg, binStr_eql, binStr_neq, dec_t, dec_f, w64, wu64, wu8, Int.toNat_natCast, rQ_ret, rQ_norm, wQ_ret, wQ_norm, cutQ_norm, cutQ_exit, cutQ_ret, rngQ_norm, rngQ_ret, rngQ_exit, Nat.mul_one, loadA_new_eq, loadA_new_ne, loadA_set_eq, loadA_set_ne, hOf_new_eq, hOf_new_ne, hOf_set_eq, hOf_set_ne, wrRow_new_eq, wrRow_new_ne, lower_ge, lower_none, len_newRow, len_set, AV.undef, unA, qs, qb, qe, qi, Int.reduceToNat, Nat.reduceMul, List.getElem?_cons_succ, List.getElem?_cons_zero, false_implies, true_implies, forall_const, implies_true, Nat.lt_add_one, Nat.min_eq_left, Nat.le_add_right, qc, fillA, evParts, repCells, splice, partA, List.length_cons, List.length_nil, List.take_succ_cons, List.take_zero, List.drop_succ_cons, List.drop_zero, List.cons_append, Option.bind_some, Nat.add_zero, Nat.zero_add, List.drop_nil, List.take_nil, Nat.le_refl, Nat.min_self, qv, qu, pureStep, memStep, WC_look, condQ_true, condQ_false, WO_gd, gdQ_tt, gdQ_ff, gdQ_tf, gdQ_ft, gdQ_u, resOf, resAll, resA, wp_some, kv_none, ↓reduceIte, Nat.reduceEqDiff, reduceCtorEq, decide_true, decide_false, Bool.not_true, Bool.not_false, List.map_cons, List.map_nil, List.nil_append, List.append_nil, Option.map_some, Option.map_none, if_true, if_false, true_and, and_true, Int.reduceEq, Int.reduceLT, Int.reduceLE, Int.reduceNeg, Nat.reduceAdd, Nat.reduceLeDiff, Bool.true_eq_false, Bool.false_eq_true, beq_self_eq_true, nilckA, bne, Bool.not_eq_true']
    exact ⟨(Ext.refl _).nr, by simp [h1]⟩

set_option maxHeartbeats 1000000 in
/-- barrowref12.Same -/
theorem p14 {H : AHeap} {v w : AV} {m k : Msg} (h : MV H v m) (h' : MV H w k) (hl : m.l.length ≤ 9223372036854775806) : PF T 14 [v, w] H fun r _ => r = .bool (decide (m = k)) := by
  obtain ⟨a, n, c, rfl, hs⟩ := h.ex
  obtain ⟨a', n', c', rfl, hs'⟩ := h'.ex
  obtain rfl := hs.n
  obtain rfl := hs'.n
  refine PF_code rfl _ _ _ ?_
  rw [msg_eq]
  simp only [a14]
  by_cases h1 : m.kind = k.kind
  · by_cases h2 : m.text = k.text
    · by_cases h3 : m.l.length = k.l.length
      · simp (disch := first | omega | assumption | (simp only [List.length_cons, List.length_nil, len_newRow, len_set] <;> omega) | fail) only [h1, h2, h3, eq_self, if_pos, if_neg, binStr_eql, binStr_neq, dec_t, dec_f, w64, wu64, wu8, Int.toNat_natCast, rQ_ret, rQ_norm, wQ_ret, wQ_norm, cutQ_norm, cutQ_exit, cutQ_ret, rngQ_norm, rngQ_ret, rngQ_exit, Nat.mul_one, loadA_new_eq, loadA_new_ne, loadA_set_eq, loadA_set_ne, hOf_new_eq, hOf_new_ne, hOf_set_eq, hOf_set_ne, wrRow_new_eq, wrRow_new_ne, lower_ge, lower_none, len_newRow, len_set, AV.undef, unA, qs, qb, qe, qi, Int.reduceToNat, Nat.reduceMul, List.getElem?_cons_succ, List.getElem?_cons_zero, false_implies, true_implies, forall_const, implies_true, Nat.lt_add_one, Nat.min_eq_left, Nat.le_add_right, qc, fillA, evParts, repCells, splice, partA, List.length_cons, List.length_nil, List.take_succ_cons, List.take_zero, List.drop_succ_cons, List.drop_zero, List.cons_append, Option.bind_some, Nat.add_zero, Nat.zero_add, List.drop_nil, List.take_nil, Nat.le_refl, Nat.min_self, qv, qu, pureStep, memStep, WC_look, condQ_true, condQ_false, WO_gd, gdQ_tt, gdQ_ff, gdQ_tf, gdQ_ft, gdQ_u, resOf, resAll, resA, wp_some, kv_none, ↓reduceIte, Nat.reduceEqDiff, reduceCtorEq, decide_true, decide_false, Bool.not_true, Bool.not_false, List.map_cons, List.map_nil, List.nil_append, List.append_nil, Option.map_some, Option.map_none, if_true, if_false, true_and, and_true, Int.reduceEq, Int.reduceLT, Int.reduceLE, Int.reduceNeg, Nat.reduceAdd, Nat.reduceLeDiff, Bool.true_eq_false, Bool.false_eq_true, beq_self_eq_true, nilckA, bne, Bool.not_eq_true']
        generalize hH : newRow (newRow H [.int .i64 k.kind, .slice a k.l.length c, .str k.text] 0) [.int .i64 k.kind, .slice a' k.l.length c', .str k.text] 0 = H1
        have hx : Ext H H1 := hH ▸ (Ext.refl _).nr.nr
        have r1 : hOf H1 H.length = some ⟨[.int .i64 k.kind, .slice a k.l.length c, .str k.text], true, 0⟩ := by rw [← hH, hOf_new_ne (by rw [len_newRow]; omega), hOf_new_eq rfl]
        have r2 : hOf H1 (H.length + 1) = some ⟨[.int .i64 k.kind, .slice a' k.l.length c', .str k.text], true, 0⟩ := by rw [← hH, hOf_new_eq (by rw [len_newRow])]
        have l1 := load_row r1
        have l2 := load_row r2
        refine WC_loop (fun n s => ∃ j, n = k.l.length - j ∧ j ≤ k.l.length ∧ s.env 2 = .ptr (some (H.length, 0)) ∧ s.env 3 = .ptr (some (H.length + 1, 0)) ∧ s.env 5 = .int .i64 (j : Int) ∧ s.heap = H1 ∧ s.low = H.length ∧ m.l.take j = k.l.take j) ?_ k.l.length _ ⟨0, rfl, by omega, rfl, rfl, rfl, rfl, rfl, rfl⟩
        rintro n ⟨e, H', lw⟩ ⟨j, hn, hj, k2, k3, k5, rfl, rfl, ht⟩
        simp only [] at k2 k3 k5
        by_cases hlt : j < k.l.length
        · obtain ⟨x, hx1⟩ : ∃ x, m.l[j]? = some x := ⟨m.l[j]'(by omega), List.getElem?_eq_getElem (by omega)⟩
          obtain ⟨y, hy⟩ : ∃ x, k.l[j]? = some x := ⟨k.l[j], List.getElem?_eq_getElem hlt⟩
          obtain ⟨i, o, rfl, _, q1⟩ := (hs.ext hx).at1 rfl hx1 rfl
          obtain ⟨i', o', rfl, _, q2⟩ := (hs'.ext hx).at1 rfl hy rfl
          simp (disch := first | omega | assumption | (simp only [List.length_cons, List.length_nil, len_newRow, len_set] <;> omega) | fail) only [k2, k3, k5, l1, l2, q1, q2, eq_self, if_pos, if_neg, binStr_eql, binStr_neq, dec_t, dec_f, w64, wu64, wu8, Int.toNat_natCast, rQ_ret, rQ_norm, wQ_ret, wQ_norm, cutQ_norm, cutQ_exit, cutQ_ret, rngQ_norm, rngQ_ret, rngQ_exit, Nat.mul_one, loadA_new_eq, loadA_new_ne, loadA_set_eq, loadA_set_ne, hOf_new_eq, hOf_new_ne, hOf_set_eq, hOf_set_ne, wrRow_new_eq, wrRow_new_ne, lower_ge, lower_none, len_newRow, len_set, AV.undef, unA, qs, qb, qe, qi, Int.reduceToNat, Nat.reduceMul, List.getElem?_cons_succ, List.getElem?_cons_zero, false_implies, true_implies, forall_const, implies_true, Nat.lt_add_one, Nat.min_eq_left, Nat.le_add_right, qc, fillA, evParts, repCells, splice, partA, List.length_cons, List.length_nil, List.take_succ_cons, List.take_zero, List.drop_succ_cons, List.drop_zero, List.cons_append, Option.bind_some, Nat.add_zero, Nat.zero_add, List.drop_nil, List.take_nil, Nat.le_refl, Nat.min_self, qv, qu, pureStep, memStep, WC_look, condQ_true, condQ_false, WO_gd, gdQ_tt, gdQ_ff, gdQ_tf, gdQ_ft, gdQ_u, resOf, resAll, resA, wp_some, kv_none, ↓reduceIte, Nat.reduceEqDiff, reduceCtorEq, decide_true, decide_false, Bool.not_true, Bool.not_false, List.map_cons, List.map_nil, List.nil_append, List.append_nil, Option.map_some, Option.map_none, if_true, if_false, true_and, and_true, Int.reduceEq, Int.reduceLT, Int.reduceLE, Int.reduceNeg, Nat.reduceAdd, Nat.reduceLeDiff, Bool.true_eq_false, Bool.false_eq_true, beq_self_eq_true, nilckA, bne, Bool.not_eq_true']
          refine WC_ndec (fun g => ?_) (fun g => ?_)
          · simp (disch := first | omega | assumption | (simp only [List.length_cons, List.length_nil, len_newRow, len_set] <;> omega) | fail) only [eq_self, if_pos, if_neg, binStr_eql, binStr_neq, dec_t, dec_f, w64, wu64, wu8, Int.toNat_natCast, rQ_ret, rQ_norm, wQ_ret, wQ_norm, cutQ_norm, cutQ_exit, cutQ_ret, rngQ_norm, rngQ_ret, rngQ_exit, Nat.mul_one, loadA_new_eq, loadA_new_ne, loadA_set_eq, loadA_set_ne, hOf_new_eq, hOf_new_ne, hOf_set_eq, hOf_set_ne, wrRow_new_eq, wrRow_new_ne, lower_ge, lower_none, len_newRow, len_set, AV.undef, unA, qs, qb, qe, qi, Int.reduceToNat, Nat.reduceMul, List.getElem?_cons_succ, List.getElem?_cons_zero, false_implies, true_implies, forall_const, implies_true, Nat.lt_add_one, Nat.min_eq_left, Nat.le_add_right, qc, fillA, evParts, repCells, splice, partA, List.length_cons, List.length_nil, List.take_succ_cons, List.take_zero, List.drop_succ_cons, List.drop_zero, List.cons_append, Option.bind_some, Nat.add_zero, Nat.zero_add, List.drop_nil, List.take_nil, Nat.le_refl, Nat.min_self, qv, qu, pureStep, memStep, WC_look, condQ_true, condQ_false, WO_gd, gdQ_tt, gdQ_ff, gdQ_tf, gdQ_ft, gdQ_u, resOf, resAll, resA, wp_some, kv_none, ↓reduceIte, Nat.reduceEqDiff, reduceCtorEq, decide_true, decide_false, Bool.not_true, Bool.not_false, List.map_cons, List.map_nil, List.nil_append, List.append_nil, Option.map_some, Option.map_none, if_true, if_false, true_and, and_true, Int.reduceEq, Int.reduceLT, Int.reduceLE, Int.reduceNeg, Nat.reduceAdd, Nat.reduceLeDiff, Bool.true_eq_false, Bool.false_eq_true, beq_self_eq_true, nilckA, bne, Bool.not_eq_true']
            refine ⟨hx, ?_⟩
            have : m.l ≠ k.l := fun e => by rw [e, hy] at hx1; exact g (Option.some.inj hx1).symm
            simp [this]
          · simp (disch := first | omega | assumption | (simp only [List.length_cons, List.length_nil, len_newRow, len_set] <;> omega) | fail) only [k2, k3, k5, eq_self, if_pos, if_neg, binStr_eql, binStr_neq, dec_t, dec_f, w64, wu64, wu8, Int.toNat_natCast, rQ_ret, rQ_norm, wQ_ret, wQ_norm, cutQ_norm, cutQ_exit, cutQ_ret, rngQ_norm, rngQ_ret, rngQ_exit, Nat.mul_one, loadA_new_eq, loadA_new_ne, loadA_set_eq, loadA_set_ne, hOf_new_eq, hOf_new_ne, hOf_set_eq, hOf_set_ne, wrRow_new_eq, wrRow_new_ne, lower_ge, lower_none, len_newRow, len_set, AV.undef, unA, qs, qb, qe, qi, Int.reduceToNat, Nat.reduceMul, List.getElem?_cons_succ, List.getElem?_cons_zero, false_implies, true_implies, forall_const, implies_true, Nat.lt_add_one, Nat.min_eq_left, Nat.le_add_right, qc, fillA, evParts, repCells, splice, partA, List.length_cons, List.length_nil, List.take_succ_cons, List.take_zero, List.drop_succ_cons, List.drop_zero, List.cons_append, Option.bind_some, Nat.add_zero, Nat.zero_add, List.drop_nil, List.take_nil, Nat.le_refl, Nat.min_self, qv, qu, pureStep, memStep, WC_look, condQ_true, condQ_false, WO_gd, gdQ_tt, gdQ_ff, gdQ_tf, gdQ_ft, gdQ_u, resOf, resAll, resA, wp_some, kv_none, ↓reduceIte, Nat.reduceEqDiff, reduceCtorEq, decide_true, decide_false, Bool.not_true, Bool.not_false, List.map_cons, List.map_nil, List.nil_append, List.append_nil, Option.map_some, Option.map_none, if_true, if_false, true_and, and_true, Int.reduceEq, Int.reduceLT, Int.reduceLE, Int.reduceNeg, Nat.reduceAdd, Nat.reduceLeDiff, Bool.true_eq_false, Bool.false_eq_true, beq_self_eq_true, nilckA, bne, Bool.not_eq_true']
            exact ⟨_, by omega, j + 1, rfl, by omega, rfl, by rw [List.take_add_one, List.take_add_one, hx1, hy, ht, g]⟩
        · have hjn : j = k.l.length := by omega
          subst hjn
          simp (disch := first | omega | assumption | (simp only [List.length_cons, List.length_nil, len_newRow, len_set] <;> omega) | fail) only [k2, k3, k5, l1, l2, eq_self, if_pos, if_neg, binStr_eql, binStr_neq, dec_t, dec_f, w64, wu64, wu8, Int.toNat_natCast, rQ_ret, rQ_norm, wQ_ret, wQ_norm, cutQ_norm, cutQ_exit, cutQ_ret, rngQ_norm, rngQ_ret, rngQ_exit, Nat.mul_one, loadA_new_eq, loadA_new_ne, loadA_set_eq, loadA_set_ne, hOf_new_eq, hOf_new_ne, hOf_set_eq, hOf_set_ne, wrRow_new_eq, wrRow_new_ne, lower_ge, lower_none, len_newRow, len_set, AV.undef, unA, qs, qb, qe, qi, Int.reduceToNat, Nat.reduceMul, List.getElem?_cons_succ, List.getElem?_cons_zero, false_implies, true_implies, forall_const, implies_true, Nat.lt_add_one, Nat.min_eq_left, Nat.le_add_right, qc, fillA, evParts, repCells, splice, partA, List.length_cons, List.length_nil, List.take_succ_cons, List.take_zero, List.drop_succ_cons, List.drop_zero, List.cons_append, Option.bind_some, Nat.add_zero, Nat.zero_add, List.drop_nil, List.take_nil, Nat.le_refl, Nat.min_self, qv, qu, pureStep, memStep, WC_look, condQ_true, condQ_false, WO_gd, gdQ_tt, gdQ_ff, gdQ_tf, gdQ_ft, gdQ_u, resOf, resAll, resA, wp_some, kv_none, ↓reduceIte, Nat.reduceEqDiff, reduceCtorEq, decide_true, decide_false, Bool.not_true, Bool.not_false, List.map_cons, List.map_nil, List.nil_append, List.append_nil, Option.map_some, Option.map_none, if_true, if_false, true_and, and_true, Int.reduceEq, Int.reduceLT, Int.reduceLE, Int.reduceNeg, Nat.reduceAdd, Nat.reduceLeDiff, Bool.true_eq_false, Bool.false_eq_true, beq_self_eq_true, nilckA, bne, Bool.not_eq_true']
          refine ⟨hx, ?_⟩
          rw [List.take_length, ← h3, List.take_length] at ht
          simp [ht]
      · have h3' : ¬ ((m.l.length : Nat) : Int) = ((k.l.length : Nat) : Int) := by omega
        simp (disch := first | omega | assumption | (simp only [List.length_cons, List.length_nil, len_newRow, len_set] <;> omega) | fail) only [h1, h2, h3', eq_self, if_pos, if_neg, binStr_eql, binStr_neq, dec_t, dec_f, w64, wu64, wu8, Int.toNat_natCast, rQ_ret, rQ_norm, wQ_ret, wQ_norm, cutQ_norm, cutQ_exit, cutQ_ret, rngQ_norm, rngQ_ret, rngQ_exit, Nat.mul_one, loadA_new_eq, loadA_new_ne, loadA_set_eq, loadA_set_ne, hOf_new_eq, hOf_new_ne, hOf_set_eq, hOf_set_ne, wrRow_new_eq, wrRow_new_ne, lower_ge, lower_none, len_newRow, len_set, AV.undef, unA, qs, qb, qe, qi, Int.reduceToNat, Nat.reduceMul, List.getElem?_cons_succ, List.getElem?_cons_zero, false_implies, true_implies, forall_const, implies_true, Nat.lt_add_one, Nat.min_eq_left, Nat.le_add_right, qc, fillA, evParts, repCells, splice, partA, List.length_cons, List.length_nil, List.take_succ_cons, List.take_zero, List.drop_succ_cons, List.drop_zero, List.cons_append, Option.bind_some, Nat.add_zero, Nat.zero_add, List.drop_nil, List.take_nil, Nat.le_refl, Nat.min_self, qv, qu, pureStep, memStep, WC_look, condQ_true, condQ_false, WO_gd, gdQ_tt, gdQ_ff, gdQ_tf, gdQ_ft, gdQ_u, resOf, resAll, resA, wp_some, kv_none, ↓reduceIte, Nat.reduceEqDiff, reduceCtorEq, decide_true, decide_false, Bool.not_true, Bool.not_false, List.map_cons, List.map_nil, List.nil_append, List.append_nil, Option.map_some, Option.map_none, if_true, if_false, true_and, and_true, Int.reduceEq, Int.reduceLT, Int.reduceLE, Int.reduceNeg, Nat.reduceAdd, Nat.reduceLeDiff, Bool.true_eq_false, Bool.false_eq_true, beq_self_eq_true, nilckA, bne, Bool.not_eq_true']
        refine ⟨(Ext.refl _).nr.nr, ?_⟩
        have : m.l ≠ k.l := fun e => h3 (by rw [e])
        simp [this]
    · simp (disch := first | omega | assumption | (simp only [List.length_cons, List.length_nil, len_newRow, len_set] <;> omega) | fail) only [h1, h2, eq_self, if_pos, if_neg, binStr_eql, binStr_neq, dec_t, dec_f, w64, wu64, wu8, Int.toNat_natCast, rQ_ret, rQ_norm, wQ_ret, wQ_norm, cutQ_norm, cutQ_exit, cutQ_ret, rngQ_norm, rngQ_ret, rngQ_exit, Nat.mul_one, loadA_new_eq, loadA_new_ne, loadA_set_eq, loadA_set_ne, hOf_new_eq, hOf_new_ne, hOf_set_eq, hOf_set_ne, wrRow_new_eq, wrRow_new_ne, lower_ge, lower_none, len_newRow, len_set, AV.undef, unA, qs, qb, qe, qi, Int.reduceToNat, Nat.reduceMul, List.getElem?_cons_succ, List.getElem?_cons_zero, false_implies, true_implies, forall_const, implies_true, Nat.lt_add_one, Nat.min_eq_left, Nat.le_add_right, qc, fillA, evParts, repCells, splice, partA, List.length_cons, List.length_nil, List.take_succ_cons, List.take_zero, List.drop_succ_cons, List.drop_zero, List.cons_append, Option.bind_some, Nat.add_zero, Nat.zero_add, List.drop_nil, List.take_nil, Nat.le_refl, Nat.min_self, qv, qu, pureStep, memStep, WC_look, condQ_true, condQ_false, WO_gd, gdQ_tt, gdQ_ff, gdQ_tf, gdQ_ft, gdQ_u, resOf, resAll, resA, wp_some, kv_none, ↓reduceIte, Nat.reduceEqDiff, reduceCtorEq, decide_true, decide_false, Bool.not_true, Bool.not_false, List.map_cons, List.map_nil, List.nil_append, List.append_nil, Option.map_some, Option.map_none, if_true, if_false, true_and, and_true, Int.reduceEq, Int.reduceLT, Int.reduceLE, Int.reduceNeg, Nat.reduceAdd, Nat.reduceLeDiff, Bool.true_eq_false, Bool.false_eq_true, beq_self_eq_true, nilckA, bne, Bool.not_eq_true']
      exact ⟨(Ext.refl _).nr.nr, by simp⟩
  · simp (disch := first | omega | assumption | (simp only [List.length_cons, List.length_nil, len_newRow, len_set] <;> omega) | fail) only [h1, eq_self, if_pos, if_neg, binStr_eql, binStr_neq, dec_t, dec_f, w64, wu64, wu8, Int.toNat_natCast, rQ_ret, rQ_norm, wQ_ret, wQ_norm, cutQ_norm, cutQ_exit, cutQ_ret, rngQ_norm, rngQ_ret, rngQ_exit, Nat.mul_one, loadA_new_eq, loadA_new_ne, loadA_set_eq, loadA_set_ne, hOf_new_eq, hOf_new_ne, hOf_set_eq, hOf_set_ne, wrRow_new_eq, wrRow_new_ne, lower_ge, lower_none, len_newRow, len_set, AV.undef, unA, qs, qb, qe, qi, Int.reduceToNat, Nat.reduceMul, List.getElem?_cons_succ, List.getElem?_cons_zero, false_implies, true_implies, forall_const, implies_true, Nat.lt_add_one, Nat.min_eq_left, Nat.le_add_right, qc, fillA, evParts, repCells, splice, partA, List.length_cons, List.length_nil, List.take_succ_cons, List.take_zero, List.drop_succ_cons, List.drop_zero, List.cons_append, Option.bind_some, Nat.add_zero, Nat.zero_add, List.drop_nil, List.take_nil, Nat.le_refl, Nat.min_self, qv, qu, pureStep, memStep, WC_look, condQ_true, condQ_false, WO_gd, gdQ_tt, gdQ_ff, gdQ_tf, gdQ_ft, gdQ_u, resOf, resAll, resA, wp_some, kv_none, ↓reduceIte, Nat.reduceEqDiff, reduceCtorEq, decide_true, decide_false, Bool.not_true, Bool.not_false, List.map_cons, List.map_nil, List.nil_append, List.append_nil, Option.map_some, Option.map_none, if_true, if_false, true_and, and_true, Int.reduceEq, Int.reduceLT, Int.reduceLE, Int.reduceNeg, Nat.reduceAdd, Nat.reduceLeDiff, Bool.true_eq_false, Bool.false_eq_true, beq_self_eq_true, nilckA, bne, Bool.not_eq_true']
    exact ⟨(Ext.refl _).nr.nr, by simp⟩
end Go.Proofs.Qq.Qqd

namespace Go.Proofs.Qq.Qqd
open Go.Proofs.Qq

/-- A number's bytes. -/
def putL (n : Nat) : List UInt8 := if h : n < 128 then [UInt8.ofNat n] else UInt8.ofNat (n % 128 + 128) :: putL (n / 128)
termination_by n
decreasing_by omega

theorem putL_lt {n : Nat} (h : n < 128) : putL n = [UInt8.ofNat n] := by rw [putL, dif_pos h]
theorem putL_ge {n : Nat} (h : 128 ≤ n) : putL n = UInt8.ofNat (n % 128 + 128) :: putL (n / 128) := by rw [putL, dif_neg (by omega)]
theorem u8_nat {n : Nat} (h : n < 256) : (UInt8.ofNat n).toNat = n := by rw [UInt8.toNat_ofNat']; omega

/-- Signs. -/
def zig (n : Int) : Nat := if 0 ≤ n then (2 * n).toNat else (-2 * n - 1).toNat
theorem zag_zig (n : Int) : zag (zig n) = n := by
  unfold zag zig
  split <;> split <;> omega
theorem zig_zag (u : Nat) : zig (zag u) = u := by
  unfold zag zig
  split <;> split <;> omega
theorem zig_lt {n : Int} (h : I64 n) : zig n < 18446744073709551616 := by
  unfold zig; unfold I64 at h
  split <;> omega

theorem putL_len (n : Nat) : ∀ k, n < 128 ^ (k + 1) → (putL n).length ≤ k + 1 := by
  intro k
  induction k generalizing n with
  | zero => intro h; rw [putL_lt (by simpa using h)]; simp
  | succ k ih =>
    intro h
    by_cases hn : n < 128
    · rw [putL_lt hn]; simp
    · rw [putL_ge (by omega), List.length_cons]
      have := ih (n / 128) (by rw [Nat.pow_succ] at h; omega)
      omega
theorem putL_len64 {n : Nat} (h : n < 18446744073709551616) : (putL n).length ≤ 10 := putL_len n 9 (by omega)
theorem putL_pos (n : Nat) : 1 ≤ (putL n).length := by
  rw [putL]; split <;> simp

/-- Written and read. -/
theorem vrL_putL (rest : List UInt8) : ∀ (v i acc : Nat), v * 128 ^ i < 18446744073709551616 → (0 < i → 0 < v) → vrL (putL v ++ rest) i acc = some (acc + v * 128 ^ i, i + (putL v).length) := by
  intro v
  induction v using Nat.strongRecOn with
  | _ v ih =>
    intro i acc hlt h0
    have hi : i < 10 := by
      apply Nat.lt_of_not_le
      intro hge
      have hv := h0 (by omega)
      have h1 : (128 : Nat) ^ 10 ≤ 128 ^ i := Nat.pow_le_pow_right (by decide) hge
      have h2 : 1 * 128 ^ i ≤ v * 128 ^ i := Nat.mul_le_mul_right _ hv
      have h3 : (128 : Nat) ^ 10 = 1180591620717411303424 := by decide
      omega
    by_cases hv : v < 128
    · rw [putL_lt hv]
      simp only [List.cons_append, List.nil_append, vrL, u8_nat (show v < 256 by omega), List.length_cons, List.length_nil]
      rw [if_neg (by omega), if_neg (by omega), if_neg]
      · rintro (⟨h1, h2⟩ | ⟨rfl, h2⟩)
        · have := h0 h2; omega
        · have h3 : (128 : Nat) ^ 9 = 9223372036854775808 := by decide
          rw [h3] at hlt; omega
    · rw [putL_ge (by omega)]
      simp only [List.cons_append, vrL, u8_nat (show v % 128 + 128 < 256 by omega), List.length_cons]
      rw [if_neg (by omega), if_pos (by omega)]
      have hs : v / 128 * 128 ^ (i + 1) ≤ v * 128 ^ i := by
        rw [Nat.pow_succ, Nat.mul_comm (128 ^ i), ← Nat.mul_assoc]
        exact Nat.mul_le_mul_right _ (Nat.div_mul_le_self v 128)
      rw [ih (v / 128) (by omega) (i + 1) _ (by omega) (fun _ => by omega)]
      have e : (v % 128 + 128 - 128) * 128 ^ i + v / 128 * 128 ^ (i + 1) = v * 128 ^ i := by
        rw [Nat.pow_succ, Nat.mul_comm (128 ^ i) 128, ← Nat.mul_assoc, ← Nat.add_mul]
        congr 1; omega
      rw [Nat.add_assoc, e]
      congr 2; omega

/-- Read: then it was written so. -/
theorem vrL_back : ∀ (bs : List UInt8) (i acc w n : Nat), vrL bs i acc = some (w, n) → ∃ v, w = acc + v * 128 ^ i ∧ bs = putL v ++ bs.drop (n - i) ∧ n = i + (putL v).length ∧ (0 < i → 0 < v)
  | [], i, acc, w, n, h => by simp [vrL] at h
  | b :: r, i, acc, w, n, h => by
    have hb := b.toNat_lt
    rw [vrL] at h
    split at h
    · cases h
    · split at h
      · rename_i h128
        obtain ⟨v, h1, h2, h3, h4⟩ := vrL_back r _ _ _ _ h
        have hv := h4 (by omega)
        refine ⟨b.toNat - 128 + 128 * v, ?_, ?_, ?_, fun _ => by omega⟩
        · rw [h1, Nat.pow_succ, Nat.add_mul, Nat.add_assoc]
          congr 2
          rw [Nat.mul_comm (128 ^ i) 128, ← Nat.mul_assoc, Nat.mul_comm v 128]
        · rw [putL_ge (by omega), show (b.toNat - 128 + 128 * v) % 128 + 128 = b.toNat by omega, show (b.toNat - 128 + 128 * v) / 128 = v by omega, UInt8.ofNat_toNat]
          have : n - i = (n - (i + 1)) + 1 := by have := putL_pos v; omega
          rw [this, List.drop_succ_cons, List.cons_append, ← h2]
        · rw [putL_ge (by omega), show (b.toNat - 128 + 128 * v) / 128 = v by omega, List.length_cons, h3]; omega
      · split at h
        · cases h
        · rename_i h128 hbad
          simp only [Option.some.injEq, Prod.mk.injEq] at h
          refine ⟨b.toNat, h.1.symm, ?_, ?_, fun hi => ?_⟩
          · rw [putL_lt (by omega), UInt8.ofNat_toNat, ← h.2, show i + 1 - i = 1 by omega]; rfl
          · rw [putL_lt (by omega), ← h.2]; rfl
          · apply Nat.pos_of_ne_zero; intro h0; exact hbad (.inl ⟨h0, hi⟩)

def encInts (l : List Int) : List UInt8 := l.flatMap fun n => putL (zig n)
theorem encInts_cons (n : Int) (l : List Int) : encInts (n :: l) = putL (zig n) ++ encInts l := rfl
theorem encInts_app (a b : List Int) : encInts (a ++ b) = encInts a ++ encInts b := by simp [encInts]

theorem rdU_put (bs rest : List UInt8) (p : Nat) (u : Nat) (hu : u < 18446744073709551616) (h : bs.drop p = putL u ++ rest) (hp : p ≤ bs.length) : rdU bs p = (u, (p : Int) + (putL u).length, 0) := by
  unfold rdU
  rw [if_neg (by omega), Int.toNat_natCast, h, vrL_putL rest u 0 0 (by simpa using hu) (by omega)]
  simp

theorem rdInts_put (bs rest : List UInt8) : ∀ (l : List Int) (p : Nat), (∀ n, n ∈ l → I64 n) → bs.drop p = encInts l ++ rest → p ≤ bs.length → rdInts bs l.length p = some (l, (p : Int) + (encInts l).length)
  | [], p, _, _, _ => by simp [rdInts, encInts]
  | n :: l, p, hI, h, hp => by
    rw [encInts_cons, List.append_assoc] at h
    have hr := rdU_put bs _ p (zig n) (zig_lt (hI n List.mem_cons_self)) h hp
    have hlen := congrArg List.length h
    rw [List.length_drop, List.length_append] at hlen
    have h2 : bs.drop (p + (putL (zig n)).length) = encInts l ++ rest := by
      rw [← List.drop_drop, h, List.drop_left]
    rw [List.length_cons, rdInts, hr]
    simp only [if_true]
    have := rdInts_put bs rest l (p + (putL (zig n)).length) (fun m hm => hI m (List.mem_cons_of_mem _ hm)) h2 (by omega)
    rw [show ((p : Int) + ((putL (zig n)).length : Int)) = ((p + (putL (zig n)).length : Nat) : Int) by omega, this]
    simp only [zag_zig, encInts_cons, List.length_append]
    congr 2; omega

theorem rdInts_back (bs : List UInt8) : ∀ (k : Nat) (p : Nat) (l : List Int) (q : Int), p ≤ bs.length → rdInts bs k p = some (l, q) → bs.drop p = encInts l ++ bs.drop q.toNat
  | 0, p, l, q, _, h => by simp [rdInts] at h; obtain ⟨rfl, rfl⟩ := h; simp [encInts]
  | k + 1, p, l, q, hp, h => by
    rw [rdInts] at h
    split at h
    · rename_i h0
      have hrg := rdU_range bs p h0
      split at h
      · rename_i l' q' h'
        simp only [Option.some.injEq, Prod.mk.injEq] at h
        obtain ⟨rfl, rfl⟩ := h
        unfold rdU at h0 hrg h' ⊢
        rw [if_neg (by omega), Int.toNat_natCast] at h0 hrg h' ⊢
        cases hv : vrL (bs.drop p) 0 0 with
        | none => simp only [hv] at h0; cases h0
        | some r =>
          obtain ⟨w, n⟩ := r
          simp only [hv] at h' hrg ⊢
          obtain ⟨v, h1, h2, h3, _⟩ := vrL_back _ _ _ _ _ hv
          simp only [Nat.zero_add, Nat.pow_zero, Nat.mul_one, Nat.sub_zero] at h1 h2 h3
          rw [show (p : Int) + (n : Int) = ((p + n : Nat) : Int) by omega] at h'
          have := rdInts_back bs k (p + n) l' q' (by omega) h'
          show bs.drop p = encInts (zag w :: l') ++ bs.drop q'.toNat
          rw [encInts_cons, h1, zig_zag, List.append_assoc, ← this, ← List.drop_drop]
          exact h2
      · cases h
    · cases h

/-- A message's bytes. -/
def encM (m : Msg) : List UInt8 := UInt8.ofNat m.kind.toNat :: (encInts m.l ++ m.text)

theorem msgSize_kind {k : Int} (h : (msgSize k).2 = true) : 1 ≤ k ∧ k ≤ 10 := by
  unfold msgSize at h
  repeat' (first | (split at h; · omega) | (split at h) | (simp at h))

theorem mright_iff (m : Msg) : mright m = true → (msgSize m.kind).2 = true ∧ (m.l.length : Int) = (msgSize m.kind).1 ∧ (m.text = [] ∨ nameOk m.text = true) := by
  unfold mright rightM
  simp only [Bool.and_eq_true, Bool.or_eq_true, decide_eq_true_iff]
  rintro ⟨⟨h1, h2⟩, h3⟩
  exact ⟨h1, h2, h3.imp id And.right⟩

theorem dec_enc {m : Msg} (h : mright m = true) (hI : ∀ n, n ∈ m.l → I64 n) : decM (encM m) = some m := by
  obtain ⟨h1, h2, h3⟩ := mright_iff m h
  have hk := msgSize_kind h1
  have hb : ((UInt8.ofNat m.kind.toNat).toNat : Int) = m.kind := by rw [u8_nat (by omega)]; omega
  unfold encM
  have hr := rdInts_put (UInt8.ofNat m.kind.toNat :: (encInts m.l ++ m.text)) m.text m.l 1 hI rfl (by simp)
  rw [decM_some _ _ m.l ((1 : Nat) + (encInts m.l).length : Int) (by rw [hb, ← h2, Int.toNat_natCast]; exact hr)]
  have ht : (UInt8.ofNat m.kind.toNat :: (encInts m.l ++ m.text)).drop (((1 : Nat) : Int) + ((encInts m.l).length : Int)).toNat = m.text := by
    rw [show (((1 : Nat) : Int) + ((encInts m.l).length : Int)).toNat = (encInts m.l).length + 1 by omega, List.drop_succ_cons, List.drop_left]
  rw [hb, ht, if_pos h]

theorem enc_dec {bs : List UInt8} {m : Msg} (h : decM bs = some m) : encM m = bs ∧ mright m = true := by
  cases bs with
  | nil => cases h
  | cons b bs' =>
    cases hr : rdInts (b :: bs') (msgSize b.toNat).1.toNat 1 with
    | none => rw [decM_none b bs' hr] at h; cases h
    | some q =>
      obtain ⟨l, q⟩ := q
      rw [decM_some b bs' l q hr] at h
      split at h
      · rename_i hm
        simp only [Option.some.injEq] at h; subst h
        refine ⟨?_, hm⟩
        have := rdInts_back (b :: bs') _ 1 l q (by simp) hr
        unfold encM
        simp only [Int.toNat_natCast, UInt8.ofNat_toNat]
        rw [← this]; rfl
      · cases h
end Go.Proofs.Qq.Qqd

namespace Go.Proofs.Qq.Qqd
open Go.Proofs.Qq

/-- pack.fold -/
theorem p91 (n : Int) (hn : I64 n) (H : AHeap) : PF T 91 [.int .i64 n] H fun r H' => r = .int .u64 (zig n : Int) ∧ H = H' := by
  refine PF_code rfl _ _ _ ?_
  unfold I64 at hn
  simp only [a91]
  by_cases h0 : 0 ≤ n
  · have e1 : binShift true .u64 n 1 = some (.int .u64 (2 * n)) := by
      unfold binShift
      rw [if_neg (by decide), if_pos rfl]
      congr 2
      show IntKind.u64.wrap (n * 2 ^ 1) = _
      rw [wu64 (by omega) (by omega)]; omega
    have e2 : binShift false .i64 n 63 = some (.int .i64 0) := by
      unfold binShift
      rw [if_neg (by decide), if_neg (by decide)]
      congr 2
      show n.fdiv (2 ^ 63) = 0
      rw [Int.fdiv_eq_ediv_of_nonneg _ (by decide)]; omega
    have e3 : ixor .u64 (2 * n) 0 = 2 * n := by
      obtain ⟨k, hk⟩ : ∃ k : Nat, 2 * n = k := ⟨(2 * n).toNat, by omega⟩
      rw [hk]
      have : (BitVec.ofInt (IntKind.bits .u64) (k : Int) ^^^ BitVec.ofInt (IntKind.bits .u64) 0).toNat = k := by
        show (BitVec.ofInt 64 (k : Int) ^^^ BitVec.ofInt 64 0).toNat = _
        have e : BitVec.ofInt 64 (k : Int) ^^^ BitVec.ofInt 64 0 = BitVec.ofNat 64 k := by rw [ofNat_bits]; simp
        rw [e, BitVec.toNat_ofNat, Nat.mod_eq_of_lt (by omega)]
      unfold ixor
      rw [this]
      exact wu64 (by omega) (by omega)
    simp (disch := first | omega | assumption | (simp only [List.length_cons, List.length_nil, len_newRow, len_set] <;> omega) | fail) only [e1, e2, e3, eq_self, if_pos, if_neg, binStr_eql, binStr_neq, dec_t, dec_f, w64, wu64, wu8, Int.toNat_natCast, rQ_ret, rQ_norm, wQ_ret, wQ_norm, cutQ_norm, cutQ_exit, cutQ_ret, rngQ_norm, rngQ_ret, rngQ_exit, Nat.mul_one, loadA_new_eq, loadA_new_ne, loadA_set_eq, loadA_set_ne, hOf_new_eq, hOf_new_ne, hOf_set_eq, hOf_set_ne, wrRow_new_eq, wrRow_new_ne, lower_ge, lower_none, len_newRow, len_set, AV.undef, unA, qs, qb, qe, qi, Int.reduceToNat, Nat.reduceMul, List.getElem?_cons_succ, List.getElem?_cons_zero, false_implies, true_implies, forall_const, implies_true, Nat.lt_add_one, Nat.min_eq_left, Nat.le_add_right, qc, fillA, evParts, repCells, splice, partA, List.length_cons, List.length_nil, List.take_succ_cons, List.take_zero, List.drop_succ_cons, List.drop_zero, List.cons_append, Option.bind_some, Nat.add_zero, Nat.zero_add, List.drop_nil, List.take_nil, Nat.le_refl, Nat.min_self, qv, qu, pureStep, memStep, WC_look, condQ_true, condQ_false, WO_gd, gdQ_tt, gdQ_ff, gdQ_tf, gdQ_ft, gdQ_u, resOf, resAll, resA, wp_some, kv_none, ↓reduceIte, Nat.reduceEqDiff, reduceCtorEq, decide_true, decide_false, Bool.not_true, Bool.not_false, List.map_cons, List.map_nil, List.nil_append, List.append_nil, Option.map_some, Option.map_none, if_true, if_false, true_and, and_true, Int.reduceEq, Int.reduceLT, Int.reduceLE, Int.reduceNeg, Nat.reduceAdd, Nat.reduceLeDiff, Bool.true_eq_false, Bool.false_eq_true, beq_self_eq_true, nilckA, bne, Bool.not_eq_true']
    refine ⟨Ext.refl _, ?_⟩
    unfold zig; rw [if_pos h0]; congr 1; omega
  · have e0 : IntKind.u64.wrap n = n + 18446744073709551616 := by rw [wu64_mod]; omega
    have e1 : binShift true .u64 (n + 18446744073709551616) 1 = some (.int .u64 (2 * n + 18446744073709551616)) := by
      unfold binShift
      rw [if_neg (by decide), if_pos rfl]
      congr 2
      show IntKind.u64.wrap ((n + 18446744073709551616) * 2 ^ 1) = _
      rw [wu64_mod]; omega
    have e2 : binShift false .i64 n 63 = some (.int .i64 (-1)) := by
      unfold binShift
      rw [if_neg (by decide), if_neg (by decide)]
      congr 2
      show n.fdiv (2 ^ 63) = -1
      rw [Int.fdiv_eq_ediv_of_nonneg _ (by decide)]; omega
    have e4 : IntKind.u64.wrap (-1) = 18446744073709551615 := by decide
    have e3 : ixor .u64 (2 * n + 18446744073709551616) 18446744073709551615 = -2 * n - 1 := by
      obtain ⟨k, hk⟩ : ∃ k : Nat, 2 * n + 18446744073709551616 = k := ⟨(2 * n + 18446744073709551616).toNat, by omega⟩
      rw [hk]
      have : (BitVec.ofInt (IntKind.bits .u64) (k : Int) ^^^ BitVec.ofInt (IntKind.bits .u64) 18446744073709551615).toNat = 18446744073709551615 - k := by
        show (BitVec.ofInt 64 (k : Int) ^^^ BitVec.ofInt 64 18446744073709551615).toNat = _
        rw [ofNat_bits, show BitVec.ofInt 64 18446744073709551615 = BitVec.allOnes 64 by decide, BitVec.xor_allOnes, BitVec.toNat_not, BitVec.toNat_ofNat, Nat.mod_eq_of_lt (by omega)]
      unfold ixor
      rw [this, wu64 (by omega) (by omega)]
      omega
    simp (disch := first | omega | assumption | (simp only [List.length_cons, List.length_nil, len_newRow, len_set] <;> omega) | fail) only [e0, e1, e2, e3, e4, eq_self, if_pos, if_neg, binStr_eql, binStr_neq, dec_t, dec_f, w64, wu64, wu8, Int.toNat_natCast, rQ_ret, rQ_norm, wQ_ret, wQ_norm, cutQ_norm, cutQ_exit, cutQ_ret, rngQ_norm, rngQ_ret, rngQ_exit, Nat.mul_one, loadA_new_eq, loadA_new_ne, loadA_set_eq, loadA_set_ne, hOf_new_eq, hOf_new_ne, hOf_set_eq, hOf_set_ne, wrRow_new_eq, wrRow_new_ne, lower_ge, lower_none, len_newRow, len_set, AV.undef, unA, qs, qb, qe, qi, Int.reduceToNat, Nat.reduceMul, List.getElem?_cons_succ, List.getElem?_cons_zero, false_implies, true_implies, forall_const, implies_true, Nat.lt_add_one, Nat.min_eq_left, Nat.le_add_right, qc, fillA, evParts, repCells, splice, partA, List.length_cons, List.length_nil, List.take_succ_cons, List.take_zero, List.drop_succ_cons, List.drop_zero, List.cons_append, Option.bind_some, Nat.add_zero, Nat.zero_add, List.drop_nil, List.take_nil, Nat.le_refl, Nat.min_self, qv, qu, pureStep, memStep, WC_look, condQ_true, condQ_false, WO_gd, gdQ_tt, gdQ_ff, gdQ_tf, gdQ_ft, gdQ_u, resOf, resAll, resA, wp_some, kv_none, ↓reduceIte, Nat.reduceEqDiff, reduceCtorEq, decide_true, decide_false, Bool.not_true, Bool.not_false, List.map_cons, List.map_nil, List.nil_append, List.append_nil, Option.map_some, Option.map_none, if_true, if_false, true_and, and_true, Int.reduceEq, Int.reduceLT, Int.reduceLE, Int.reduceNeg, Nat.reduceAdd, Nat.reduceLeDiff, Bool.true_eq_false, Bool.false_eq_true, beq_self_eq_true, nilckA, bne, Bool.not_eq_true']
    refine ⟨Ext.refl _, ?_⟩
    unfold zig; rw [if_neg h0]; congr 1; omega

theorem or128 : ∀ x : Nat, x < 256 → (BitVec.ofInt 8 (x : Int) ||| BitVec.ofInt 8 128).toNat = x % 128 + 128 := by decide +kernel
theorem ior128 (x : Nat) (h : x < 256) : ior .u8 (x : Int) 128 = ((x % 128 + 128 : Nat) : Int) := by
  have : (BitVec.ofInt (IntKind.bits .u8) (x : Int) ||| BitVec.ofInt (IntKind.bits .u8) 128).toNat = x % 128 + 128 := or128 x h
  unfold ior; rw [this]; exact wu8 (by omega) (by omega)

set_option maxHeartbeats 1000000 in
/-- pack.put -/
theorem p89 {lo : Nat} {H : AHeap} {a : Option (Nat × Nat)} {xs : List UInt8} (h : Own eByte lo H (.slice a xs.length none) xs) (hlo : lo ≤ H.length) (n : Nat) (hn : n < 18446744073709551616) (hx : xs.length ≤ 1000000) :
    PW T 89 [.slice a xs.length none, .int .u64 n] H lo (.slice a xs.length none) fun r H' => Own eByte lo H' r (xs ++ putL n) := by
  refine PW_code rfl _ _ _ _ _ ?_
  simp only [a89]
  have hp10 := putL_len64 hn
  simp (disch := first | omega | assumption | (simp only [List.length_cons, List.length_nil, len_newRow, len_set] <;> omega) | fail) only [eq_self, if_pos, if_neg, binStr_eql, binStr_neq, dec_t, dec_f, w64, wu64, wu8, Int.toNat_natCast, rQ_ret, rQ_norm, wQ_ret, wQ_norm, cutQ_norm, cutQ_exit, cutQ_ret, rngQ_norm, rngQ_ret, rngQ_exit, Nat.mul_one, loadA_new_eq, loadA_new_ne, loadA_set_eq, loadA_set_ne, hOf_new_eq, hOf_new_ne, hOf_set_eq, hOf_set_ne, wrRow_new_eq, wrRow_new_ne, lower_ge, lower_none, len_newRow, len_set, AV.undef, unA, qs, qb, qe, qi, Int.reduceToNat, Nat.reduceMul, List.getElem?_cons_succ, List.getElem?_cons_zero, false_implies, true_implies, forall_const, implies_true, Nat.lt_add_one, Nat.min_eq_left, Nat.le_add_right, qc, fillA, evParts, repCells, splice, partA, List.length_cons, List.length_nil, List.take_succ_cons, List.take_zero, List.drop_succ_cons, List.drop_zero, List.cons_append, Option.bind_some, Nat.add_zero, Nat.zero_add, List.drop_nil, List.take_nil, Nat.le_refl, Nat.min_self, qv, qu, pureStep, memStep, WC_look, condQ_true, condQ_false, WO_gd, gdQ_tt, gdQ_ff, gdQ_tf, gdQ_ft, gdQ_u, resOf, resAll, resA, wp_some, kv_none, ↓reduceIte, Nat.reduceEqDiff, reduceCtorEq, decide_true, decide_false, Bool.not_true, Bool.not_false, List.map_cons, List.map_nil, List.nil_append, List.append_nil, Option.map_some, Option.map_none, if_true, if_false, true_and, and_true, Int.reduceEq, Int.reduceLT, Int.reduceLE, Int.reduceNeg, Nat.reduceAdd, Nat.reduceLeDiff, Bool.true_eq_false, Bool.false_eq_true, beq_self_eq_true, nilckA, bne, Bool.not_eq_true']
  refine WC_loop (fun m s => ∃ (k : Nat) (ys : List UInt8) (b : Option (Nat × Nat)), m = k ∧ k < 18446744073709551616 ∧ s.env 0 = .slice b ys.length none ∧ s.env 1 = .int .u64 (k : Int) ∧ Own eByte lo s.heap (.slice b ys.length none) ys ∧ Apds (.slice a xs.length none) H (.slice b ys.length none) s.heap ∧ lo ≤ s.low ∧ xs ++ putL n = ys ++ putL k) ?_ n _
    ⟨n, xs, a, rfl, hn, rfl, rfl, h, Apds.refl _ _, hlo, rfl⟩
  rintro m ⟨e, H', l⟩ ⟨k, ys, b, hmk, hk, k0, k1, ho, hap, hl, he⟩
  simp only [] at k0 k1 ho hap hl
  have hyl : ys.length ≤ 1000010 := by
    have := congrArg List.length he
    rw [List.length_append, List.length_append] at this
    omega
  have hlo' : lo ≤ H'.length := Nat.le_trans hlo hap.len
  by_cases h128 : k < 128
  · have c1 : ¬ (127 : Int) < (k : Int) := by omega
    have e8 : IntKind.u8.wrap (k : Int) = ((UInt8.ofNat k).toNat : Int) := by rw [u8_nat (by omega), wu8 (by omega) (by omega)]
    obtain ⟨v', H2, w, e1, o1, a1, w1, _⟩ := append_lit [UInt8.ofNat k] ho hlo' (bytes := 1) (by decide) (by simp [room]; omega)
    change appendA 1 1 (newRow H' [.int .u8 ((UInt8.ofNat k).toNat : Int)] 1) _ (.slice (some (H'.length, 0)) 1 none) = _ at e1
    simp (disch := first | omega | assumption | (simp only [List.length_cons, List.length_nil, len_newRow, len_set] <;> omega) | fail) only [k0, k1, c1, e8, e1, eq_self, if_pos, if_neg, binStr_eql, binStr_neq, dec_t, dec_f, w64, wu64, wu8, Int.toNat_natCast, rQ_ret, rQ_norm, wQ_ret, wQ_norm, cutQ_norm, cutQ_exit, cutQ_ret, rngQ_norm, rngQ_ret, rngQ_exit, Nat.mul_one, loadA_new_eq, loadA_new_ne, loadA_set_eq, loadA_set_ne, hOf_new_eq, hOf_new_ne, hOf_set_eq, hOf_set_ne, wrRow_new_eq, wrRow_new_ne, lower_ge, lower_none, len_newRow, len_set, AV.undef, unA, qs, qb, qe, qi, Int.reduceToNat, Nat.reduceMul, List.getElem?_cons_succ, List.getElem?_cons_zero, false_implies, true_implies, forall_const, implies_true, Nat.lt_add_one, Nat.min_eq_left, Nat.le_add_right, qc, fillA, evParts, repCells, splice, partA, List.length_cons, List.length_nil, List.take_succ_cons, List.take_zero, List.drop_succ_cons, List.drop_zero, List.cons_append, Option.bind_some, Nat.add_zero, Nat.zero_add, List.drop_nil, List.take_nil, Nat.le_refl, Nat.min_self, qv, qu, pureStep, memStep, WC_look, condQ_true, condQ_false, WO_gd, gdQ_tt, gdQ_ff, gdQ_tf, gdQ_ft, gdQ_u, resOf, resAll, resA, wp_some, kv_none, ↓reduceIte, Nat.reduceEqDiff, reduceCtorEq, decide_true, decide_false, Bool.not_true, Bool.not_false, List.map_cons, List.map_nil, List.nil_append, List.append_nil, Option.map_some, Option.map_none, if_true, if_false, true_and, and_true, Int.reduceEq, Int.reduceLT, Int.reduceLE, Int.reduceNeg, Nat.reduceAdd, Nat.reduceLeDiff, Bool.true_eq_false, Bool.false_eq_true, beq_self_eq_true, nilckA, bne, Bool.not_eq_true']
    refine ⟨w1 l hl, hap.trans a1, ?_⟩
    rw [he, putL_lt h128]; exact o1
  · have c1 : (127 : Int) < (k : Int) := by omega
    have e8 : ior .u8 (IntKind.u8.wrap (k : Int)) 128 = ((UInt8.ofNat (k % 128 + 128)).toNat : Int) := by
      rw [u8_nat (by omega), wu8_mod, show (k : Int) % 256 = ((k % 256 : Nat) : Int) by omega, ior128 _ (by omega)]
      congr 1; omega
    have e7 : binShift false .u64 (k : Int) 7 = some (.int .u64 ((k / 128 : Nat) : Int)) := by
      unfold binShift
      rw [if_neg (by decide), if_neg (by decide)]
      congr 2
      show (k : Int).fdiv (2 ^ 7) = _
      rw [Int.fdiv_eq_ediv_of_nonneg _ (by decide)]; omega
    obtain ⟨v', H2, w, e1, o1, a1, w1, _⟩ := append_lit [UInt8.ofNat (k % 128 + 128)] ho hlo' (bytes := 1) (by decide) (by simp [room]; omega)
    change appendA 1 1 (newRow H' [.int .u8 ((UInt8.ofNat (k % 128 + 128)).toNat : Int)] 1) _ (.slice (some (H'.length, 0)) 1 none) = _ at e1
    obtain ⟨b', rfl, _⟩ := o1.se
    simp (disch := first | omega | assumption | (simp only [List.length_cons, List.length_nil, len_newRow, len_set] <;> omega) | fail) only [k0, k1, c1, e8, e7, e1, eq_self, if_pos, if_neg, binStr_eql, binStr_neq, dec_t, dec_f, w64, wu64, wu8, Int.toNat_natCast, rQ_ret, rQ_norm, wQ_ret, wQ_norm, cutQ_norm, cutQ_exit, cutQ_ret, rngQ_norm, rngQ_ret, rngQ_exit, Nat.mul_one, loadA_new_eq, loadA_new_ne, loadA_set_eq, loadA_set_ne, hOf_new_eq, hOf_new_ne, hOf_set_eq, hOf_set_ne, wrRow_new_eq, wrRow_new_ne, lower_ge, lower_none, len_newRow, len_set, AV.undef, unA, qs, qb, qe, qi, Int.reduceToNat, Nat.reduceMul, List.getElem?_cons_succ, List.getElem?_cons_zero, false_implies, true_implies, forall_const, implies_true, Nat.lt_add_one, Nat.min_eq_left, Nat.le_add_right, qc, fillA, evParts, repCells, splice, partA, List.length_cons, List.length_nil, List.take_succ_cons, List.take_zero, List.drop_succ_cons, List.drop_zero, List.cons_append, Option.bind_some, Nat.add_zero, Nat.zero_add, List.drop_nil, List.take_nil, Nat.le_refl, Nat.min_self, qv, qu, pureStep, memStep, WC_look, condQ_true, condQ_false, WO_gd, gdQ_tt, gdQ_ff, gdQ_tf, gdQ_ft, gdQ_u, resOf, resAll, resA, wp_some, kv_none, ↓reduceIte, Nat.reduceEqDiff, reduceCtorEq, decide_true, decide_false, Bool.not_true, Bool.not_false, List.map_cons, List.map_nil, List.nil_append, List.append_nil, Option.map_some, Option.map_none, if_true, if_false, true_and, and_true, Int.reduceEq, Int.reduceLT, Int.reduceLE, Int.reduceNeg, Nat.reduceAdd, Nat.reduceLeDiff, Bool.true_eq_false, Bool.false_eq_true, beq_self_eq_true, nilckA, bne, Bool.not_eq_true']
    exact ⟨_, by omega, k / 128, ys ++ [UInt8.ofNat (k % 128 + 128)], b', rfl, by omega, rfl, rfl, o1, hap.trans a1, w1 l hl, by rw [he, putL_ge (by omega)]; simp⟩
end Go.Proofs.Qq.Qqd

