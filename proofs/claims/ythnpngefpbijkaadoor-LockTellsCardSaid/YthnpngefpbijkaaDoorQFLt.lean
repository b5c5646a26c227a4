/-
  Proved: barrowlaw37.LockTells returns true for every row, lock, time and names (the tied card): the program's answers about rows of locks and the document's agree, and what is answered is its owner's. Conditions: those of the given row alone.
-/
import Derived.Test.YthnpngefpbijkaaDoorQ7
import Derived.Test.YthnpngefpbijkaaDoorCards
import Derived.Test.YthnpngefpbijkaaDoorTie
import Derived.SevenTiedAt
import Derived.Lay
import Derived.MakeChecks
set_option linter.all false
namespace Go.Proofs.YthnpngefpbijkaaDoor
open Go Go.ChangeShapes Go.WideShapes Go.ChangeAt Go.RowKit
open Go.Proofs.Qq

theorem Tryd.own : ownKnob Tryd.prog.godebug = none := by kernel_rfl

noncomputable abbrev laid : List (String × DataW Unit) := [("unicode/utf8.acceptRanges", Rows.laid_unicode_utf8_acceptRanges), ("unicode/utf8.first", Rows.laid_unicode_utf8_first)]

set_option maxRecDepth 100000 in
theorem lockTells_runs : LawRuns Tryd.prog Qq.Qqd.T 5 Tryd.f5.params.toList := by
  intro H vs _ hty
  have hp : Tryd.f5.params.toList = [37, 39, 3, 40] := by rw [Tryd.params5]
  rw [hp] at hty
  obtain ⟨v0, us, rfl, h0, hty⟩ := tyVs_cons hty
  obtain ⟨v1, us, rfl, h1, hty⟩ := tyVs_cons hty
  obtain ⟨v2, us, rfl, h2, hty⟩ := tyVs_cons hty
  obtain ⟨v3, us, rfl, h3, hty⟩ := tyVs_cons hty
  obtain rfl := tyVs_nil hty
  have h0 := tyV_one (show isAggB (Tryd.prog.underlying 37) = false by kernel_rfl) h0
  obtain ⟨cs, rfl, g1⟩ := tyV_agg (show isAggB (Tryd.prog.underlying 39) = true by kernel_rfl) h1
  have h2 := tyV_one (show isAggB (Tryd.prog.underlying 3) = false by kernel_rfl) h2
  have h3 := tyV_one (show isAggB (Tryd.prog.underlying 40) = false by kernel_rfl) h3
  have hF := Qq.Qqd.isFlat_lock (show fieldsOf Tryd.prog 39 = some [(0, 9, 1), (1, 3, 1), (2, 3, 1)] by kernel_rfl) (show Tryd.prog.cellsOf 39 = 3 by kernel_rfl) (show Tryd.prog.underlying 3 = some (.int .i64) by kernel_rfl) (show Tryd.prog.underlying 9 = some .string by kernel_rfl)
  obtain ⟨a, n, c, l, rfl, hs, _, hw⟩ := ty_slice (E := Qq.Qqd.eLock) (show Tryd.prog.underlying 37 = some (.slice 39) by kernel_rfl) hF h0
  obtain ⟨x, ex, hx⟩ := hF.2 _ _ g1
  obtain ⟨k2, e2, _⟩ := ty_int (show Tryd.prog.underlying 3 = some (.int .i64) by kernel_rfl) h2
  obtain ⟨b, n', d, names, rfl, hs', hl', _⟩ := ty_slice (E := eStr) (show Tryd.prog.underlying 40 = some (.slice 9) by kernel_rfl) (isFlat_str (show Tryd.prog.underlying 9 = some .string by kernel_rfl) (by kernel_rfl)) h3
  cases e2
  obtain ⟨r, hr, _, _, e⟩ := Qq.Qqd.p5 hs hw x hx k2 hs' hl'
  subst ex
  exact ⟨r.2.1, r.2.2, by rw [← e]; exact hr⟩

set_option maxRecDepth 100000 in
theorem lockTells_lifted (os : Os) (started : os.Started) (H : Type) (enc : TypeId × Value → H) :
    ReturnsInHanded {} Tryd.checked os 5 .any (fun w args => (Rows.lockTellsSpec.pre enc Tryd.prog Tryd.f5 Rows.lockTellsRow.domain false w args ∧ laidMetH Tryd.prog laid w) ∧ sizedMet enc Tryd.prog Tryd.f5 (OpenSpec.ofChange Rows.lockTellsSpec) false w args)
      (Rows.lockTellsSpec.post enc Tryd.prog Tryd.f5 false true false false) := by
  refine returnsInHanded_of_change_and (C := Tryd.checked) (X := fun w _ => laidMetH Tryd.prog laid w) (fun _ _ _ hh h => h.of_heap hh) Tryd.own started (by kernel_rfl) Tryd.func5
    (ChangeSpec.witness_shaped (enc := enc) (C := Tryd.checked) (os := os) (X := fun w _ => laidMetH Tryd.prog laid w) false (World.laidAll Tryd.prog os laid) #[.slice none 0 0, .agg #[.string ⟨#[]⟩, .int .i64 0, .int .i64 0], .int .i64 0, .slice none 0 0] 8 (World.laidAll_os _ _ _)
      (World.shaped_of_ZipB (by kernel_rfl) (by kernel_rfl)) (by kernel_rfl) (by kernel_rfl) (by kernel_rfl)
      (by rw [MakeChecks.laidMetH_plain _ _ _ (by kernel_rfl)]; exact laidMet_laidAll _ (by kernel_rfl) (by kernel_rfl))) ?_
  intro W base args ds gs before hval hW _ _ _ _
  exact law_contract (P := Tryd.prog) (T := Qq.Qqd.T) (fn := Tryd.f5) (s := Rows.lockTellsSpec) 8 Qq.Qqd.tabOk (by kernel_rfl) lockTells_runs rfl (fun ds hd => by
    match ds, hd with
    | [d0, d1, d2, d3], _ => rfl) hval hW

theorem lockTells_holds : Rows.LockTellsSaid :=
  OpenClaim.holds_of_wide 5 Tryd.f5 rfl rfl rfl rfl rfl rfl rfl ⟨rfl, rfl, rfl, rfl, rfl⟩ rfl rfl rfl rfl rfl (by kernel_rfl) Tryd.func5 (by kernel_rfl)
    (of_decide_eq_true (by kernel_rfl)) (by unfold Func.isWrapper; first | (rw [if_pos (by decide +kernel)]; kernel_rfl) | (rw [if_neg (by decide +kernel)]; exact ⟨rfl, rfl⟩))
    (fun os started H enc _ => lockTells_lifted os started H enc)

theorem lockTells_card_holds : Rows.LockTellsCardSaid :=
  Claim7.holds_tied_plain_at .later [] [.data, .pinned] true (true, "d96623db5fd51c46e378b473ed02856678037baba6cc78c948336f7605278a1e") false
    lockTells_holds (fun _ h => by cases h) (by kernel_rfl) (fun _ h => by cases h) lockTells_row_tie rfl ⟨rfl, rfl⟩ (by kernel_rfl) rfl
    (fun f fn hf hfn => by
      obtain rfl : f = 5 := Option.some.inj ((show Tryd.prog.funcNamed "barrow/barrowlaw37.LockTells" = some 5 by kernel_rfl).symm.trans hf) |>.symm
      obtain rfl : fn = Tryd.f5 := (Option.some.inj (Tryd.func5.symm.trans hfn)).symm
      exact ⟨by kernel_rfl, fun j t ht => by
        rw [Tryd.params5] at ht
        rcases j with _ | j
        · obtain rfl : t = 37 := by simpa using ht.symm
          exact (show Tryd.prog.wantsStandIn 37 = false by kernel_rfl)
        rcases j with _ | j
        · obtain rfl : t = 39 := by simpa using ht.symm
          exact (show Tryd.prog.wantsStandIn 39 = false by kernel_rfl)
        rcases j with _ | j
        · obtain rfl : t = 3 := by simpa using ht.symm
          exact (show Tryd.prog.wantsStandIn 3 = false by kernel_rfl)
        rcases j with _ | j
        · obtain rfl : t = 40 := by simpa using ht.symm
          exact (show Tryd.prog.wantsStandIn 40 = false by kernel_rfl)
        simp at ht⟩)
    (by kernel_rfl)
#print axioms lockTells_card_holds
end Go.Proofs.YthnpngefpbijkaaDoor

