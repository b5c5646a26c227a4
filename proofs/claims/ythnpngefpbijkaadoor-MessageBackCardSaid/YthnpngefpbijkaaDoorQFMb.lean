/-
  Proved: barrowlaw12.MessageBack returns true for every message and every load (the tied card): right messages and their loads are each other's, and each fits into a frame. Conditions: those of the given row alone.
-/
import Derived.Test.YthnpngefpbijkaaDoorQ7
import Derived.Test.YthnpngefpbijkaaDoorCards
import Derived.Test.YthnpngefpbijkaaDoorTie
import Derived.SevenTiedAt
import Derived.Lay
import Derived.MakeChecks
set_option linter.all false
namespace Go.Proofs.YthnpngefpbijkaaDoor
open Go Go.ChangeShapes Go.WideShapes Go.ChangeAt Go.RowKit
open Go.Proofs.Qq

theorem Tryd.own : ownKnob Tryd.prog.godebug = none := by kernel_rfl

noncomputable abbrev laid : List (String × DataW Unit) := [("unicode/utf8.acceptRanges", Rows.laid_unicode_utf8_acceptRanges), ("unicode/utf8.first", Rows.laid_unicode_utf8_first)]

set_option maxRecDepth 100000 in
theorem messageBack_runs : LawRuns Tryd.prog Qq.Qqd.T 4 Tryd.f4.params.toList := by
  intro H vs _ hty
  have hp : Tryd.f4.params.toList = [26, 22] := by rw [Tryd.params4]
  rw [hp] at hty
  obtain ⟨v0, us, rfl, h0, hty⟩ := tyVs_cons hty
  obtain ⟨v1, us, rfl, h1, hty⟩ := tyVs_cons hty
  obtain rfl := tyVs_nil hty
  obtain ⟨cs, rfl, g0⟩ := tyV_agg (show isAggB (Tryd.prog.underlying 26) = true by kernel_rfl) h0
  have h1 := tyV_one (show isAggB (Tryd.prog.underlying 22) = false by kernel_rfl) h1
  obtain ⟨m, hm, hI, hml, hll, _⟩ := Qq.Qqd.ty_msg (show fieldsOf Tryd.prog 26 = some [(0, 3, 1), (1, 24, 1), (2, 9, 1)] by kernel_rfl) (by kernel_rfl) (show Tryd.prog.underlying 3 = some (.int .i64) by kernel_rfl) (by kernel_rfl) (show Tryd.prog.underlying 24 = some (.slice 3) by kernel_rfl) (show Tryd.prog.underlying 9 = some .string by kernel_rfl) g0
  obtain ⟨a, n, c, bs, rfl, hs, hl, _⟩ := ty_slice (E := eByte) (show Tryd.prog.underlying 22 = some (.slice 5) by kernel_rfl) (isFlat_byte (show Tryd.prog.underlying 5 = some (.int .u8) by kernel_rfl) (by kernel_rfl)) h1
  obtain rfl := hs.n
  obtain ⟨r, hr, _, _, e⟩ := Qq.Qqd.p4 hm hI hs hl
  exact ⟨r.2.1, r.2.2, by rw [hr, ← e]⟩

set_option maxRecDepth 100000 in
theorem messageBack_lifted (os : Os) (started : os.Started) (H : Type) (enc : TypeId × Value → H) :
    ReturnsInHanded {} Tryd.checked os 4 .any (fun w args => (Rows.messageBackSpec.pre enc Tryd.prog Tryd.f4 Rows.messageBackRow.domain false w args ∧ laidMetH Tryd.prog laid w) ∧ sizedMet enc Tryd.prog Tryd.f4 (OpenSpec.ofChange Rows.messageBackSpec) false w args)
      (Rows.messageBackSpec.post enc Tryd.prog Tryd.f4 false true false false) := by
  refine returnsInHanded_of_change_and (C := Tryd.checked) (X := fun w _ => laidMetH Tryd.prog laid w) (fun _ _ _ hh h => h.of_heap hh) Tryd.own started (by kernel_rfl) Tryd.func4
    (ChangeSpec.witness_shaped (enc := enc) (C := Tryd.checked) (os := os) (X := fun w _ => laidMetH Tryd.prog laid w) false (World.laidAll Tryd.prog os laid) #[.agg #[.int .i64 0, .slice none 0 0, .string ⟨#[]⟩], .slice none 0 0] 8 (World.laidAll_os _ _ _)
      (World.shaped_of_ZipB (by kernel_rfl) (by kernel_rfl)) (by kernel_rfl) (by kernel_rfl) (by kernel_rfl)
      (by rw [MakeChecks.laidMetH_plain _ _ _ (by kernel_rfl)]; exact laidMet_laidAll _ (by kernel_rfl) (by kernel_rfl))) ?_
  intro W base args ds gs before hval hW _ _ _ _
  exact law_contract (P := Tryd.prog) (T := Qq.Qqd.T) (fn := Tryd.f4) (s := Rows.messageBackSpec) 8 Qq.Qqd.tabOk (by kernel_rfl) messageBack_runs rfl (fun ds hd => by
    match ds, hd with
    | [d0, d1], _ => rfl) hval hW

theorem messageBack_holds : Rows.MessageBackSaid :=
  OpenClaim.holds_of_wide 4 Tryd.f4 rfl rfl rfl rfl rfl rfl rfl ⟨rfl, rfl, rfl, rfl, rfl⟩ rfl rfl rfl rfl rfl (by kernel_rfl) Tryd.func4 (by kernel_rfl)
    (of_decide_eq_true (by kernel_rfl)) (by unfold Func.isWrapper; first | (rw [if_pos (by decide +kernel)]; kernel_rfl) | (rw [if_neg (by decide +kernel)]; exact ⟨rfl, rfl⟩))
    (fun os started H enc _ => messageBack_lifted os started H enc)

theorem messageBack_card_holds : Rows.MessageBackCardSaid :=
  Claim7.holds_tied_plain_at .later [] [.data, .pinned] true (true, "d96623db5fd51c46e378b473ed02856678037baba6cc78c948336f7605278a1e") false
    messageBack_holds (fun _ h => by cases h) (by kernel_rfl) (fun _ h => by cases h) messageBack_row_tie rfl ⟨rfl, rfl⟩ (by kernel_rfl) rfl
    (fun f fn hf hfn => by
      obtain rfl : f = 4 := Option.some.inj ((show Tryd.prog.funcNamed "barrow/barrowlaw12.MessageBack" = some 4 by kernel_rfl).symm.trans hf) |>.symm
      obtain rfl : fn = Tryd.f4 := (Option.some.inj (Tryd.func4.symm.trans hfn)).symm
      exact ⟨by kernel_rfl, fun j t ht => by
        rw [Tryd.params4] at ht
        rcases j with _ | j
        · obtain rfl : t = 26 := by simpa using ht.symm
          exact (show Tryd.prog.wantsStandIn 26 = false by kernel_rfl)
        rcases j with _ | j
        · obtain rfl : t = 22 := by simpa using ht.symm
          exact (show Tryd.prog.wantsStandIn 22 = false by kernel_rfl)
        simp at ht⟩)
    (by kernel_rfl)
#print axioms messageBack_card_holds
end Go.Proofs.YthnpngefpbijkaaDoor

