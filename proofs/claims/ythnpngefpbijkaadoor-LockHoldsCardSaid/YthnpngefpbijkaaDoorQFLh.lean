/-
  Proved: barrowlaw37.LockHolds returns true for every row, name, foe and times (the tied card): a right row stays right, who is locked is so until the time and not from then on, and Clean does not turn that. Conditions: those of the given row alone.
-/
import Derived.Test.YthnpngefpbijkaaDoorQ7
import Derived.Test.YthnpngefpbijkaaDoorCards
import Derived.Test.YthnpngefpbijkaaDoorTie
import Derived.SevenTiedAt
import Derived.Lay
import Derived.MakeChecks
set_option linter.all false
namespace Go.Proofs.YthnpngefpbijkaaDoor
open Go Go.ChangeShapes Go.WideShapes Go.ChangeAt Go.RowKit
open Go.Proofs.Qq

theorem Tryd.own : ownKnob Tryd.prog.godebug = none := by kernel_rfl

noncomputable abbrev laid : List (String × DataW Unit) := [("unicode/utf8.acceptRanges", Rows.laid_unicode_utf8_acceptRanges), ("unicode/utf8.first", Rows.laid_unicode_utf8_first)]

set_option maxRecDepth 100000 in
theorem lockHolds_runs : LawRuns Tryd.prog Qq.Qqd.T 6 Tryd.f6.params.toList := by
  intro H vs _ hty
  have hp : Tryd.f6.params.toList = [37, 9, 3, 3, 3] := by rw [Tryd.params6]
  rw [hp] at hty
  obtain ⟨v0, us, rfl, h0, hty⟩ := tyVs_cons hty
  obtain ⟨v1, us, rfl, h1, hty⟩ := tyVs_cons hty
  obtain ⟨v2, us, rfl, h2, hty⟩ := tyVs_cons hty
  obtain ⟨v3, us, rfl, h3, hty⟩ := tyVs_cons hty
  obtain ⟨v4, us, rfl, h4, hty⟩ := tyVs_cons hty
  obtain rfl := tyVs_nil hty
  have h0 := tyV_one (show isAggB (Tryd.prog.underlying 37) = false by kernel_rfl) h0
  have h1 := tyV_one (show isAggB (Tryd.prog.underlying 9) = false by kernel_rfl) h1
  have h2 := tyV_one (show isAggB (Tryd.prog.underlying 3) = false by kernel_rfl) h2
  have h3 := tyV_one (show isAggB (Tryd.prog.underlying 3) = false by kernel_rfl) h3
  have h4 := tyV_one (show isAggB (Tryd.prog.underlying 3) = false by kernel_rfl) h4
  have hF := Qq.Qqd.isFlat_lock (show fieldsOf Tryd.prog 39 = some [(0, 9, 1), (1, 3, 1), (2, 3, 1)] by kernel_rfl) (show Tryd.prog.cellsOf 39 = 3 by kernel_rfl) (show Tryd.prog.underlying 3 = some (.int .i64) by kernel_rfl) (show Tryd.prog.underlying 9 = some .string by kernel_rfl)
  obtain ⟨a, n, c, l, rfl, hs, _, hw⟩ := ty_slice (E := Qq.Qqd.eLock) (show Tryd.prog.underlying 37 = some (.slice 39) by kernel_rfl) hF h0
  obtain ⟨s, e1, hl⟩ := ty_str (show Tryd.prog.underlying 9 = some .string by kernel_rfl) h1
  obtain ⟨k2, e2, w2⟩ := ty_int (show Tryd.prog.underlying 3 = some (.int .i64) by kernel_rfl) h2
  obtain ⟨k3, e3, w3⟩ := ty_int (show Tryd.prog.underlying 3 = some (.int .i64) by kernel_rfl) h3
  obtain ⟨k4, e4, _⟩ := ty_int (show Tryd.prog.underlying 3 = some (.int .i64) by kernel_rfl) h4
  cases e1; cases e2; cases e3; cases e4
  obtain ⟨r, hr, _, _, e⟩ := Qq.Qqd.p6 hs hw ⟨s, k2, k3⟩ ⟨I64_of w2, I64_of w3⟩ hl k4
  exact ⟨r.2.1, r.2.2, by rw [hr, ← e]⟩

set_option maxRecDepth 100000 in
theorem lockHolds_lifted (os : Os) (started : os.Started) (H : Type) (enc : TypeId × Value → H) :
    ReturnsInHanded {} Tryd.checked os 6 .any (fun w args => (Rows.lockHoldsSpec.pre enc Tryd.prog Tryd.f6 Rows.lockHoldsRow.domain false w args ∧ laidMetH Tryd.prog laid w) ∧ sizedMet enc Tryd.prog Tryd.f6 (OpenSpec.ofChange Rows.lockHoldsSpec) false w args)
      (Rows.lockHoldsSpec.post enc Tryd.prog Tryd.f6 false true false false) := by
  refine returnsInHanded_of_change_and (C := Tryd.checked) (X := fun w _ => laidMetH Tryd.prog laid w) (fun _ _ _ hh h => h.of_heap hh) Tryd.own started (by kernel_rfl) Tryd.func6
    (ChangeSpec.witness_shaped (enc := enc) (C := Tryd.checked) (os := os) (X := fun w _ => laidMetH Tryd.prog laid w) false (World.laidAll Tryd.prog os laid) #[.slice none 0 0, .string ⟨#[]⟩, .int .i64 0, .int .i64 0, .int .i64 0] 8 (World.laidAll_os _ _ _)
      (World.shaped_of_ZipB (by kernel_rfl) (by kernel_rfl)) (by kernel_rfl) (by kernel_rfl) (by kernel_rfl)
      (by rw [MakeChecks.laidMetH_plain _ _ _ (by kernel_rfl)]; exact laidMet_laidAll _ (by kernel_rfl) (by kernel_rfl))) ?_
  intro W base args ds gs before hval hW _ _ _ _
  exact law_contract (P := Tryd.prog) (T := Qq.Qqd.T) (fn := Tryd.f6) (s := Rows.lockHoldsSpec) 8 Qq.Qqd.tabOk (by kernel_rfl) lockHolds_runs rfl (fun ds hd => by
    match ds, hd with
    | [d0, d1, d2, d3, d4], _ => rfl) hval hW

theorem lockHolds_holds : Rows.LockHoldsSaid :=
  OpenClaim.holds_of_wide 6 Tryd.f6 rfl rfl rfl rfl rfl rfl rfl ⟨rfl, rfl, rfl, rfl, rfl⟩ rfl rfl rfl rfl rfl (by kernel_rfl) Tryd.func6 (by kernel_rfl)
    (of_decide_eq_true (by kernel_rfl)) (by unfold Func.isWrapper; first | (rw [if_pos (by decide +kernel)]; kernel_rfl) | (rw [if_neg (by decide +kernel)]; exact ⟨rfl, rfl⟩))
    (fun os started H enc _ => lockHolds_lifted os started H enc)

theorem lockHolds_card_holds : Rows.LockHoldsCardSaid :=
  Claim7.holds_tied_plain_at .later [] [.data, .pinned] true (true, "d96623db5fd51c46e378b473ed02856678037baba6cc78c948336f7605278a1e") false
    lockHolds_holds (fun _ h => by cases h) (by kernel_rfl) (fun _ h => by cases h) lockHolds_row_tie rfl ⟨rfl, rfl⟩ (by kernel_rfl) rfl
    (fun f fn hf hfn => by
      obtain rfl : f = 6 := Option.some.inj ((show Tryd.prog.funcNamed "barrow/barrowlaw37.LockHolds" = some 6 by kernel_rfl).symm.trans hf) |>.symm
      obtain rfl : fn = Tryd.f6 := (Option.some.inj (Tryd.func6.symm.trans hfn)).symm
      exact ⟨by kernel_rfl, fun j t ht => by
        rw [Tryd.params6] at ht
        rcases j with _ | j
        · obtain rfl : t = 37 := by simpa using ht.symm
          exact (show Tryd.prog.wantsStandIn 37 = false by kernel_rfl)
        rcases j with _ | j
        · obtain rfl : t = 9 := by simpa using ht.symm
          exact (show Tryd.prog.wantsStandIn 9 = false by kernel_rfl)
        rcases j with _ | j
        · obtain rfl : t = 3 := by simpa using ht.symm
          exact (show Tryd.prog.wantsStandIn 3 = false by kernel_rfl)
        rcases j with _ | j
        · obtain rfl : t = 3 := by simpa using ht.symm
          exact (show Tryd.prog.wantsStandIn 3 = false by kernel_rfl)
        rcases j with _ | j
        · obtain rfl : t = 3 := by simpa using ht.symm
          exact (show Tryd.prog.wantsStandIn 3 = false by kernel_rfl)
        simp at ht⟩)
    (by kernel_rfl)
#print axioms lockHolds_card_holds
end Go.Proofs.YthnpngefpbijkaaDoor

