/-
  Part of the proof: the abstract machine, its soundness, contracts of functions.
-/
import Derived.Test.YthnpngefpbijkaaDoorQ2
import Derived.Test.YthnpngefpbijkaaDoorQ4
import Derived.Test.YthnpngefpbijkaaDoorQ1
set_option linter.all false
/-
  slices.Insert of one element, taken as a whole: what it does to rows, and that the model's call does so (out of three walks).
-/
namespace Go.Proofs.Qq

variable {P : Program}

/-- slices.Insert(s, k, x) on a slice of one's own (or nil). -/
def insA (sz bytes : Nat) (args : List AV) (H : AHeap) : Option (AV × AHeap × Nat) :=
  match args with
  | [.slice a n none, .int .i64 k, .slice (some (j, 0)) 1 none] =>
    match hOf H j with
    | some rj =>
      if rj.own = true ∧ sz ≤ rj.cells.length ∧ 0 ≤ k ∧ k ≤ n ∧ (n + 1) * bytes ≤ room ∧ n + 1 ≤ room then
        match a with
        | none => if n = 0 then some (.slice (some (H.length, 0)) 1 none, newRow H (rj.cells.take sz) sz, H.length) else none
        | some (i, o) =>
          match hOf H i with
          | some r =>
            if r.own = true ∧ o = 0 ∧ r.sz = sz ∧ n * sz ≤ r.cells.length ∧ i ≠ j then
              some (.slice (some (H.length, 0)) (n + 1) none, newRow (H.set i .dead) (r.cells.take (k.toNat * sz) ++ rj.cells.take sz ++ (r.cells.take (n * sz)).drop (k.toNat * sz)) sz, min H.length i)
            else none
          | none => none
      else none
    | none => none
  | _ => none

/-- What the world is behind it. -/
structure InsOut (w w' : World) (b : Option Nat) (q : Value) (n sz : Nat) (xs : List Value) : Prop where
  ex : ∃ g cp Z te, q = .slice (some ⟨g, 0, none⟩) n cp ∧ n ≤ cp ∧ w'.heap[g]? = some (.cells Z te (0, 0)) ∧ Z.size = cp * sz ∧ Z.toList.take (n * sz) = xs ∧ (w.heap.size ≤ g ∨ b = some g)
  frame : ∀ j, j < w.heap.size → b ≠ some j → w'.heap[j]? = w.heap[j]?
  size : w.heap.size ≤ w'.heap.size
  os : w'.os = w.os
  tape : w'.tape = w.tape
  output : w'.output = w.output

theorem RowOk.firsts {ι : IM} {r : Row} {l : Loc} {w : World} (h : RowOk ι r l w) (ho : r.own = true) (hs : 0 < r.sz) : ∃ cs te, w.heap[l.b]? = some (.cells cs te (0, 0)) ∧ l.base = 0 ∧ cs.size = l.cap * r.sz ∧ r.cells.length ≤ cs.size ∧
    VRelL ι r.cells (cs.toList.take r.cells.length) ∧ Ones (cs.toList.take r.cells.length) := by
  obtain ⟨cs, e, fr, h1, h2, h3, h4, h5⟩ := h
  obtain ⟨hb, hfr, hc⟩ := h5 ho
  subst hfr
  rw [hb] at h2 h3 h4
  simp only [Nat.zero_add, List.drop_zero] at h2 h3 h4
  exact ⟨cs, e, h1, hb, hc hs, h2, h3, h4⟩
theorem RowOk.own0 {ι : IM} {r : Row} {l : Loc} {w : World} (h : RowOk ι r l w) (ho : r.own = true) : ∃ cs te, w.heap[l.b]? = some (.cells cs te (0, 0)) ∧ l.base = 0 ∧ r.cells.length ≤ cs.size ∧
    VRelL ι r.cells (cs.toList.take r.cells.length) ∧ Ones (cs.toList.take r.cells.length) := by
  obtain ⟨cs, e, fr, h1, h2, h3, h4, h5⟩ := h
  obtain ⟨hb, hfr, hc⟩ := h5 ho
  subst hfr
  rw [hb] at h2 h3 h4
  simp only [Nat.zero_add, List.drop_zero] at h2 h3 h4
  exact ⟨cs, e, h1, hb, h2, h3, h4⟩

theorem Ones.sub {a b : List Value} (h : Ones b) (hs : ∀ v, v ∈ a → v ∈ b) : Ones a := fun v hv => h v (hs v hv)

/-- Append, as a whole: where the elements lie behind it. -/
theorem append_out {t e : TypeId} {i : TypeInfo} {z : Value} (hu : P.underlying t = some (.slice e)) (hi : P.info? e = some i) (hz : i.zero = some z) (hzs : z.cells.size = i.size) (hsz : 0 < i.size) (hby : 0 < i.bytes) {w : World} {n C vb vc : Nat} {V : Array Value} {tV : TypeId}
    (hV : w.heap[vb]? = some (.cells V tV (0, 0))) (hVs : i.size ≤ V.size) (h1V : Ones (V.toList.take i.size)) (hb : (n + 1) * i.bytes ≤ room) (base : Option Addr)
    (hbase : (base = none ∧ n = 0 ∧ C = 0) ∨ ∃ b B tB, base = some ⟨b, 0, none⟩ ∧ n ≤ C ∧ w.heap[b]? = some (.cells B tB (0, 0)) ∧ B.size = C * i.size ∧ Ones (B.toList.take (n * i.size))) :
    ∃ q w', (∀ ty, (Builtin.append_ #[t, t] ty #[.slice base n C, .slice (some ⟨vb, 0, none⟩) 1 vc]).run P w = .ok q w') ∧
      ∀ olds, ((base = none ∧ olds = []) ∨ ∃ b B tB, base = some ⟨b, 0, none⟩ ∧ w.heap[b]? = some (.cells B tB (0, 0)) ∧ olds = B.toList.take (n * i.size)) → InsOut w w' (base.map (·.block)) q (n + 1) i.size (olds ++ V.toList.take i.size) := by
  have hsi : sizeIs P e i.size = true := by simp [sizeIs, hi]
  have hni : noInt (P.underlying t) = true := by rw [hu]; rfl
  have hfirst : ∀ (w' : World), w'.heap = w.heap → (Builtin.firstCells i.size 1 (.slice (some ⟨vb, 0, none⟩) 1 vc)).run P w' = .ok (V.toList.take i.size).toArray w' := by
    intro w' hw'
    have hc : ∀ j, w'.cell? ⟨vb, j, none⟩ = V[j]? := fun j => cell_of_row w' vb j V tV (0, 0) (by rw [hw']; exact hV)
    refine run_firstCells_some w' i.size 1 ⟨vb, 0, none⟩ 1 vc (V.toList.take i.size) (by simp; omega) (fun j v hj => ?_)
    rw [Addr.add_lit, Nat.zero_add, hc]
    rw [List.getElem?_take] at hj
    split at hj
    · simpa using hj
    · cases hj
  have hVl : (V.toList.take i.size).length = i.size := by simp; omega
  have grow : ∀ (olds : List Value), olds.length = n * i.size → C < n + 1 → (∀ w', w'.heap = w.heap → (Builtin.firstCells i.size n (.slice base n C)).run P w' = .ok olds.toArray w') →
      ∃ q w', (∀ ty, (Builtin.append_ #[t, t] ty #[.slice base n C, .slice (some ⟨vb, 0, none⟩) 1 vc]).run P w = .ok q w') ∧ InsOut w w' (base.map (·.block)) q (n + 1) i.size (olds ++ V.toList.take i.size) := by
    intro olds hol hC hof
    have hr := fun ty => app_grow (P := P) (w := w) (n := 1) hu hi hz hni rfl hfirst base n C hof hC hb hby ty
    have hge := grownCap_ge w (n + 1) C e
    refine ⟨_, _, hr, ⟨⟨w.heap.size, _, (olds.toArray ++ (V.toList.take i.size).toArray ++ Builtin.zeroCells z.cells (grownCap w (n + 1) C e - (n + 1))), e, rfl, hge, heap_alloc_new w.drew _, ?_, ?_, .inl (Nat.le_refl _)⟩, fun j hj _ => ?_, by simp, rfl, rfl, rfl⟩⟩
    · simp only [Array.size_append, List.size_toArray, zc_len, hzs, hol, hVl]
      have : grownCap w (n + 1) C e = (n + 1) + (grownCap w (n + 1) C e - (n + 1)) := by omega
      generalize grownCap w (n + 1) C e - (n + 1) = d at this ⊢
      rw [this, Nat.add_mul, Nat.add_mul, Nat.one_mul]
    · simp only [Array.toList_append]
      exact List.take_left' (by rw [List.length_append, hol, hVl, Nat.add_mul, Nat.one_mul])
    · show (w.heap.push _)[j]? = w.heap[j]?
      rw [Array.getElem?_push, if_neg (by omega)]
  rcases hbase with ⟨rfl, rfl, rfl⟩ | ⟨b, B, tB, rfl, hnC, hB, hBs, h1B⟩
  · obtain ⟨q, w', h1, h2⟩ := grow [] (by simp) (by omega) (fun w' _ => by simp [Builtin.firstCells])
    refine ⟨q, w', h1, fun olds ho => ?_⟩
    rcases ho with ⟨_, rfl⟩ | ⟨b, B, tB, h, _⟩
    · exact h2
    · cases h
  · have hfB : ∀ w', w'.heap = w.heap → (Builtin.firstCells i.size n (.slice (some ⟨b, 0, none⟩) n C)).run P w' = .ok (B.toList.take (n * i.size)).toArray w' := by
      intro w' hw'
      have hc : ∀ j, w'.cell? ⟨b, j, none⟩ = B[j]? := fun j => cell_of_row w' b j B tB (0, 0) (by rw [hw']; exact hB)
      refine run_firstCells_some w' i.size n ⟨b, 0, none⟩ n C (B.toList.take (n * i.size)) ?_ (fun j v hj => ?_)
      · have := Nat.mul_le_mul_right i.size hnC
        simp; omega
      · rw [Addr.add_lit, Nat.zero_add, hc]
        rw [List.getElem?_take] at hj
        split at hj
        · simpa using hj
        · cases hj
    have hfit := Nat.mul_le_mul_right i.size hnC
    have hol : (B.toList.take (n * i.size)).length = n * i.size := by simp; omega
    have holds : ∀ olds, ((some (⟨b, 0, none⟩ : Addr) = none ∧ olds = []) ∨ ∃ b' B' tB', some (⟨b, 0, none⟩ : Addr) = some ⟨b', 0, none⟩ ∧ w.heap[b']? = some (.cells B' tB' (0, 0)) ∧ olds = B'.toList.take (n * i.size)) → olds = B.toList.take (n * i.size) := by
      intro olds ho
      rcases ho with ⟨h, _⟩ | ⟨b', B', tB', h1, h2, h3⟩
      · cases h
      · cases h1
        rw [hB] at h2; cases h2; exact h3
    by_cases hroom : n + 1 ≤ C
    · have hr := fun ty => app_room (P := P) (w := w) (n := 1) hu hsi hni rfl (hfirst w rfl) (some ⟨b, 0, none⟩) n C hroom ty
      have hfit2 := Nat.mul_le_mul_right i.size hroom
      rw [Nat.add_mul, Nat.one_mul] at hfit2
      have hst := run_storeCells_at P b (n * i.size) tB (V.toList.take i.size) 0 B w hB (by rw [hVl]; omega) h1V
      simp only [Nat.add_zero] at hst
      refine ⟨.slice (some ⟨b, 0, none⟩) (n + 1) C, w.setRow b (B.toList.take (n * i.size) ++ V.toList.take i.size ++ B.toList.drop (n * i.size + (V.toList.take i.size).length)).toArray, fun ty => ?_, fun olds ho => ?_⟩
      · rw [hr]
        simp only [Addr.add_lit, Nat.zero_add, hst, Result.andThen_ok]
      · rw [holds olds ho]
        refine ⟨⟨b, C, _, tB, rfl, hroom, setRow_heap w b B _ tB (0, 0) hB, ?_, ?_, .inr rfl⟩, fun j hj hne => setRow_other w b j _ (fun e => hne (by rw [e]; rfl)), by simp, rfl, rfl, rfl⟩
        · simp only [List.size_toArray, List.length_append, List.length_drop, hol, hVl, Array.length_toList]; omega
        · simp only []
          exact List.take_left' (by rw [List.length_append, hol, hVl, Nat.add_mul, Nat.one_mul])
    · obtain ⟨q, w', h1, h2⟩ := grow _ hol (by omega) hfB
      exact ⟨q, w', h1, fun olds ho => by rw [holds olds ho]; exact h2⟩

theorem InsOut.fin {ι : IM} {H : AHeap} {w w' : World} {i : Nat} {r : Row} {m : Loc} {q : Value} {n sz : Nat} {xs : List Value} {cs : List AV} (h : InsOut w w' (some m.b) q n sz xs) (hr : hOf H i = some r) (ho : r.own = true) (hm : ι i = some m) (hι : ι H.length = none)
    (hv : VRelL ι cs xs) (h1 : Ones xs) (hn : xs.length = n * sz) : ∃ ι', VRel ι' (.slice (some (H.length, 0)) n none) q ∧ MStep ι ι' H (newRow (H.set i .dead) cs sz) (some i) w w' := by
  obtain ⟨g, cp, Z, te, rfl, hcp, hZ, hZs, hZt, hg⟩ := h.ex
  have hcl : cs.length = n * sz := by rw [hv.1, hn]
  refine ⟨updM ι H.length ⟨g, 0, cp⟩, ?_, MStep.grow (q := ⟨cs, true, sz⟩) (l := ⟨g, 0, cp⟩) hr ho hm hι ?_ ?_ ?_ h.size h.os h.tape h.output⟩
  · exact .slice H.length 0 n ⟨g, 0, cp⟩ cp (by simp [updM]) hcp (fun _ => rfl)
  · rcases hg with hg | hg
    · exact .inl hg
    · exact .inr (Option.some.inj hg)
  · refine ⟨Z, te, (0, 0), hZ, ?_, ?_, ?_, fun _ => ⟨rfl, rfl, fun _ => hZs⟩⟩
    · have := Nat.mul_le_mul_right sz hcp
      show 0 + cs.length ≤ Z.size
      rw [hcl, hZs]; omega
    · show VRelL _ cs ((Z.toList.drop 0).take cs.length)
      rw [List.drop_zero, hcl, hZt]; exact hv.mono (updM_ext hι)
    · show Ones ((Z.toList.drop 0).take cs.length)
      rw [List.drop_zero, hcl, hZt]; exact h1
  · intro b hb hne
    exact h.frame b hb (fun e => hne (Option.some.inj e))

theorem InsOut.finN {ι : IM} {H : AHeap} {w w' : World} {q : Value} {n sz : Nat} {xs : List Value} {cs : List AV} (h : InsOut w w' none q n sz xs) (hι : ι H.length = none)
    (hv : VRelL ι cs xs) (h1 : Ones xs) (hn : xs.length = n * sz) : ∃ ι', VRel ι' (.slice (some (H.length, 0)) n none) q ∧ MStep ι ι' H (newRow H cs sz) none w w' := by
  obtain ⟨g, cp, Z, te, rfl, hcp, hZ, hZs, hZt, hg⟩ := h.ex
  have hcl : cs.length = n * sz := by rw [hv.1, hn]
  have hgw : w.heap.size ≤ g := by
    rcases hg with hg | hg
    · exact hg
    · cases hg
  have hx := updM_ext (l := ⟨g, 0, cp⟩) hι
  refine ⟨updM ι H.length ⟨g, 0, cp⟩, .slice H.length 0 n ⟨g, 0, cp⟩ cp (by simp [updM]) hcp (fun _ => rfl), hx, ?_, ?_, ?_, fun _ h => (by cases h), fun _ _ h => (by cases h), fun i hi _ => List.getElem?_append_left hi, by simp [newRow], by simp [newRow], fun b hb _ => h.frame b hb (fun e => by cases e), h.size, h.os, h.tape, h.output⟩
  · intro i l hl
    unfold updM at hl
    split at hl
    · rename_i hi; subst hi
      simp only [Option.some.injEq] at hl; subst hl
      exact .inr ⟨hι, Nat.le_refl _, by simp [newRow], .inl hgw⟩
    · exact .inl hl
  · intro i x hx' hi l hl
    rcases hi with hi | hi
    · have hlt := hOf_lt hx'
      rw [len_newRow] at hlt
      have : i = H.length := by omega
      subst this
      rw [hOf_newRow, if_pos rfl] at hx'
      simp only [Option.some.injEq] at hx'; subst hx'
      simp only [updM, if_true, Option.some.injEq] at hl; subst hl
      refine ⟨Z, te, (0, 0), hZ, ?_, ?_, ?_, fun _ => ⟨rfl, rfl, fun _ => hZs⟩⟩
      · have := Nat.mul_le_mul_right sz hcp
        show 0 + cs.length ≤ Z.size
        rw [hcl, hZs]; omega
      · show VRelL _ cs ((Z.toList.drop 0).take cs.length)
        rw [List.drop_zero, hcl, hZt]; exact hv.mono hx
      · show Ones ((Z.toList.drop 0).take cs.length)
        rw [List.drop_zero, hcl, hZt]; exact h1
    · cases hi
  · intro i x hx' hi
    have hlt := hOf_lt hx'
    rw [len_newRow] at hlt
    have : i = H.length := by omega
    subst this
    exact ⟨_, by simp [updM]; rfl⟩

/-- The three walks' statements. -/
def WalkEnd (P : Program) (f : Nat) (t : TypeId) : Prop := ∀ (base : Option Addr) (n c : Nat) (v : Addr) (vc : Nat) (w w' : World) (q : Value), n ≤ c → n + 1 ≤ 9223372036854775807 →
  (∀ ty, (Builtin.append_ #[t, t] ty #[.slice base n c, .slice (some v) 1 vc]).run P w = .ok q w') → Calls P f #[.slice base n c, .int .i64 n, .slice (some v) 1 vc] w fun e w2 => e = .returned q ∧ w2 = w'
def WalkRoom (P : Program) (f sz : Nat) : Prop := ∀ (b n c k vb vc : Nat) (w : World) (B V : Array Value) (tB tV : TypeId), k < n → n + 1 ≤ c → n + 1 ≤ 9223372036854775807 → vb ≠ b →
  w.heap[b]? = some (.cells B tB (0, 0)) → B.size = c * sz → w.heap[vb]? = some (.cells V tV (0, 0)) → sz ≤ V.size → Ones (B.toList.take (n * sz)) → Ones (V.toList.take sz) →
  Calls P f #[.slice (some ⟨b, 0, none⟩) n c, .int .i64 k, .slice (some ⟨vb, 0, none⟩) 1 vc] w fun e w' =>
    e = .returned (.slice (some ⟨b, 0, none⟩) (n + 1) c) ∧ ∃ B1 B2 : Array Value, B1 = (B.toList.take ((k + 1) * sz) ++ ((B.toList.drop (k * sz)).take ((n - k) * sz)) ++ B.toList.drop ((n + 1) * sz)).toArray ∧
      B2 = (B1.toList.take (k * sz) ++ V.toList.take sz ++ B1.toList.drop ((k + 1) * sz)).toArray ∧ w' = (w.drew.setRow b B1).setRow b B2
def WalkGrow (P : Program) (f : Nat) (te : TypeId) (sz bytes : Nat) : Prop := ∀ (b n c k vb vc : Nat) (w : World) (B V : Array Value) (tB tV : TypeId), k < n → n ≤ c → c < n + 1 → (n + 1) * bytes ≤ 140737488355328 → vb ≠ b →
  w.heap[b]? = some (.cells B tB (0, 0)) → B.size = c * sz → w.heap[vb]? = some (.cells V tV (0, 0)) → sz ≤ V.size → Ones (B.toList.take (n * sz)) → Ones (V.toList.take sz) →
  Calls P f #[.slice (some ⟨b, 0, none⟩) n c, .int .i64 k, .slice (some ⟨vb, 0, none⟩) 1 vc] w fun e w' =>
    ∃ (G : Nat) (R R1 R2 : Array Value), e = .returned (.slice (some ⟨w.heap.size, 0, none⟩) (n + 1) G) ∧ n + 1 ≤ G ∧ R.size = G * sz ∧ R.toList.take (k * sz) = B.toList.take (k * sz) ∧
      R1 = (R.toList.take (k * sz) ++ V.toList.take sz ++ R.toList.drop ((k + 1) * sz)).toArray ∧ R2 = (R1.toList.take ((k + 1) * sz) ++ ((B.toList.drop (k * sz)).take ((n - k) * sz)) ++ R1.toList.drop ((n + 1) * sz)).toArray ∧
      w' = ((((w.alloc (.cells R te)).drew).setRow w.heap.size R1).drew).setRow w.heap.size R2

/-- The lists of the two roads. -/
theorem lists_room {α : Type} (B V : List α) (n k sz c : Nat) (hk : k < n) (hc : n + 1 ≤ c) (hB : B.length = c * sz) (hV : sz ≤ V.length) (B1 : List α) (h1 : B1 = B.take ((k + 1) * sz) ++ (B.drop (k * sz)).take ((n - k) * sz) ++ B.drop ((n + 1) * sz)) :
    (B1.take (k * sz) ++ V.take sz ++ B1.drop ((k + 1) * sz)).length = c * sz ∧
    (B1.take (k * sz) ++ V.take sz ++ B1.drop ((k + 1) * sz)).take ((n + 1) * sz) = (B.take (n * sz)).take (k * sz) ++ V.take sz ++ (B.take (n * sz)).drop (k * sz) := by
  have e1 : (k + 1) * sz = k * sz + sz := by rw [Nat.add_mul, Nat.one_mul]
  have e2 : (n + 1) * sz = n * sz + sz := by rw [Nat.add_mul, Nat.one_mul]
  have e3 : n * sz = k * sz + (n - k) * sz := by rw [← Nat.add_mul]; congr 1; omega
  have e4 := Nat.mul_le_mul_right sz hc
  have hl : B1.length = c * sz := by rw [h1]; simp; omega
  have t1 : B1.take (k * sz) = B.take (k * sz) := by
    rw [h1, List.append_assoc, List.take_append_of_le_length (by simp; omega), List.take_take, Nat.min_eq_left (by omega)]
  have t2 : B1.drop ((k + 1) * sz) = (B.drop (k * sz)).take ((n - k) * sz) ++ B.drop ((n + 1) * sz) := by
    rw [h1, List.append_assoc, List.drop_left' (by simp; omega)]
  refine ⟨by simp; omega, ?_⟩
  rw [t1, t2, List.take_take, Nat.min_eq_left (by omega), ← List.append_assoc, List.take_append_of_le_length (by simp; omega), List.take_of_length_le (by simp; omega)]
  congr 1
  rw [List.drop_take]
  congr 1; omega

theorem lists_grow {α : Type} (B V R : List α) (n k sz G : Nat) (hk : k < n) (hG : n + 1 ≤ G) (hR : R.length = G * sz) (hV : sz ≤ V.length) (hB : n * sz ≤ B.length) (ht : R.take (k * sz) = B.take (k * sz)) (R1 : List α) (h1 : R1 = R.take (k * sz) ++ V.take sz ++ R.drop ((k + 1) * sz)) :
    (R1.take ((k + 1) * sz) ++ (B.drop (k * sz)).take ((n - k) * sz) ++ R1.drop ((n + 1) * sz)).length = G * sz ∧
    (R1.take ((k + 1) * sz) ++ (B.drop (k * sz)).take ((n - k) * sz) ++ R1.drop ((n + 1) * sz)).take ((n + 1) * sz) = (B.take (n * sz)).take (k * sz) ++ V.take sz ++ (B.take (n * sz)).drop (k * sz) := by
  have e1 : (k + 1) * sz = k * sz + sz := by rw [Nat.add_mul, Nat.one_mul]
  have e2 : (n + 1) * sz = n * sz + sz := by rw [Nat.add_mul, Nat.one_mul]
  have e3 : n * sz = k * sz + (n - k) * sz := by rw [← Nat.add_mul]; congr 1; omega
  have e4 := Nat.mul_le_mul_right sz hG
  have hl : R1.length = G * sz := by rw [h1]; simp; omega
  have t1 : R1.take ((k + 1) * sz) = B.take (k * sz) ++ V.take sz := by
    rw [h1, List.take_left' (by simp; omega), ht]
  refine ⟨by simp; omega, ?_⟩
  rw [t1, List.take_append_of_le_length (by simp; omega), List.take_of_length_le (by simp; omega), List.take_take, Nat.min_eq_left (by omega)]
  congr 1
  rw [List.drop_take]
  congr 1; omega

set_option maxHeartbeats 1000000 in
theorem ins_sound {f sz bytes : Nat} {t e : TypeId} {i : TypeInfo} {z : Value} (hfn : ∃ fn, P.funcs[f]? = some fn ∧ fn.body.isSome = true ∧ fn.name ≠ "runtime.NumGoroutine") (hu : P.underlying t = some (.slice e)) (hi : P.info? e = some i) (hz : i.zero = some z) (hzs : z.cells.size = i.size)
    (hs : i.size = sz) (hb : i.bytes = bytes) (hsz : 0 < sz) (hby : 0 < bytes) (we : WalkEnd P f t) (wr : WalkRoom P f sz) (wg : WalkGrow P f e sz bytes) : PrimSound P f (insA sz bytes) := by
  intro args H res H' lo h
  unfold insA at h
  split at h
  · rename_i a n k j
    split at h
    · rename_i rj hrj
      split at h
      · rename_i hc
        obtain ⟨hjo, hjl, hk0, hkn, hroom, hn63⟩ := hc
        obtain ⟨k, rfl⟩ : ∃ k' : Nat, k = k' := ⟨k.toNat, by omega⟩
        have hn1 : n + 1 ≤ 9223372036854775807 := by unfold room at hn63; omega
        split at h
        · split at h
          · rename_i hn0
            subst hn0
            simp only [Option.some.injEq, Prod.mk.injEq] at h
            obtain ⟨rfl, rfl, rfl⟩ := h
            refine ⟨(WrMono.new H _).mono (fun j h => by cases h), fun ι vargs w hv hS hι => ⟨hfn, ?_⟩⟩
            obtain ⟨vs⟩ := vargs
            match vs, hv with
            | [S, K, V], hv =>
              have v0 := hv.head; have v1 := hv.tail.head; have v2 := hv.tail.tail.head
              cases v1
              obtain rfl : k = 0 := by omega
              cases v0
              cases v2 with
              | slice _ _ _ lj cj hlj hcj _ =>
                obtain ⟨V, tV, g1, g2, g3, g4, g5⟩ := (hS.1 j rj hrj lj hlj).own0 hjo
                have hat : lj.at 0 = ⟨lj.b, 0, none⟩ := by unfold Loc.at; rw [g2]
                have h1V : Ones (V.toList.take sz) := g5.sub (fun v hv => by
                  have : V.toList.take sz = (V.toList.take rj.cells.length).take sz := by rw [List.take_take, Nat.min_eq_left hjl]
                  rw [this] at hv; exact List.mem_of_mem_take hv)
                have hrV : VRelL ι (rj.cells.take sz) (V.toList.take sz) := by
                  have := g4.take sz
                  rwa [List.take_take, Nat.min_eq_left hjl] at this
                subst hs; subst hb
                obtain ⟨q, w', hr, ho⟩ := append_out (n := 0) (C := 0) (vc := cj) hu hi hz hzs hsz hby g1 (by omega) h1V (by omega) none (.inl ⟨rfl, rfl, rfl⟩)
                have hio := ho [] (.inl ⟨rfl, rfl⟩)
                rw [List.nil_append] at hio
                rw [hat]
                obtain ⟨ι', f1, f2⟩ := InsOut.finN (H := H) hio (hι H.length (Nat.le_refl _) (by rw [len_newRow]; omega)) hrV h1V (by simp; omega)
                refine (we none 0 0 ⟨lj.b, 0, none⟩ cj w w' q (Nat.le_refl _) (by omega) hr).mono ?_
                rintro e' w2 ⟨rfl, rfl⟩
                exact ⟨ι', q, rfl, f1, f2.sim hS hι, f2.tr hι (fun j h => by cases h)⟩
          · cases h
        · rename_i i' o
          split at h
          · rename_i r hr
            split at h
            · rename_i hcc
              obtain ⟨hro, rfl, hrs, hrl, hij⟩ := hcc
              simp only [Option.some.injEq, Prod.mk.injEq] at h
              obtain ⟨rfl, rfl, rfl⟩ := h
              have hil := hOf_is_lt hr
              refine ⟨(WrMono.dead hr _).mono (fun j h => by cases h; exact Nat.min_le_right _ _), fun ι vargs w hv hS hι => ⟨hfn, ?_⟩⟩
              obtain ⟨vs⟩ := vargs
              match vs, hv with
              | [S, K, V], hv =>
                have v0 := hv.head; have v1 := hv.tail.head; have v2 := hv.tail.tail.head
                cases v1
                cases v0 with
                | slice _ _ _ l c hl hnc hcl =>
                obtain rfl : c = l.cap := hcl rfl
                cases v2 with
                | slice _ _ _ lj cj hlj hcj _ =>
                obtain ⟨V, tV, g1, g2, g3, g4, g5⟩ := (hS.1 j rj hrj lj hlj).own0 hjo
                obtain ⟨B, tB, b1, b2, b3, b4, b5, b6⟩ := (hS.1 i' r hr l hl).firsts hro (by omega)
                rw [hrs] at b3
                have hne : lj.b ≠ l.b := hS.2 j rj i' r hrj hjo hr (fun e => hij e.symm) lj l hlj hl
                have hat : lj.at 0 = ⟨lj.b, 0, none⟩ := by unfold Loc.at; rw [g2]
                have hatl : l.at 0 = ⟨l.b, 0, none⟩ := by unfold Loc.at; rw [b2]
                have h1V : Ones (V.toList.take sz) := g5.sub (fun v hv => by
                  have : V.toList.take sz = (V.toList.take rj.cells.length).take sz := by rw [List.take_take, Nat.min_eq_left hjl]
                  rw [this] at hv; exact List.mem_of_mem_take hv)
                have hrV : VRelL ι (rj.cells.take sz) (V.toList.take sz) := by
                  have := g4.take sz
                  rwa [List.take_take, Nat.min_eq_left hjl] at this
                have h1B : Ones (B.toList.take (n * sz)) := b6.sub (fun v hv => by
                  have : B.toList.take (n * sz) = (B.toList.take r.cells.length).take (n * sz) := by rw [List.take_take, Nat.min_eq_left hrl]
                  rw [this] at hv; exact List.mem_of_mem_take hv)
                have hrB : VRelL ι (r.cells.take (n * sz)) (B.toList.take (n * sz)) := by
                  have := b5.take (n * sz)
                  rwa [List.take_take, Nat.min_eq_left hrl] at this
                have hkk := Nat.mul_le_mul_right sz (show k ≤ n by omega)
                have hnsz : (n + 1) * sz = n * sz + sz := by rw [Nat.add_mul, Nat.one_mul]
                have hBl : (B.toList.take (n * sz)).length = n * sz := by simp; omega
                have hVl : (V.toList.take sz).length = sz := by simp; omega
                have hrel : VRelL ι (r.cells.take ((k : Int).toNat * sz) ++ rj.cells.take sz ++ (r.cells.take (n * sz)).drop ((k : Int).toNat * sz)) ((B.toList.take (n * sz)).take (k * sz) ++ V.toList.take sz ++ (B.toList.take (n * sz)).drop (k * sz)) := by
                  rw [Int.toNat_natCast]
                  have h1 := hrB.take (k * sz)
                  rw [List.take_take, Nat.min_eq_left hkk] at h1
                  exact (h1.append hrV).append (hrB.drop (k * sz))
                have hones : Ones ((B.toList.take (n * sz)).take (k * sz) ++ V.toList.take sz ++ (B.toList.take (n * sz)).drop (k * sz)) :=
                  ((h1B.sub (fun v hv => List.mem_of_mem_take hv)).append h1V).append (h1B.sub (fun v hv => List.mem_of_mem_drop hv))
                have hlen : ((B.toList.take (n * sz)).take (k * sz) ++ V.toList.take sz ++ (B.toList.take (n * sz)).drop (k * sz)).length = (n + 1) * sz := by
                  rw [List.length_append, List.length_append, List.length_take, List.length_drop, hBl, hVl]; omega
                have fin : ∀ (e' : Ending) (w2 : World) (q : Value), e' = .returned q → InsOut w w2 (some l.b) q (n + 1) sz ((B.toList.take (n * sz)).take (k * sz) ++ V.toList.take sz ++ (B.toList.take (n * sz)).drop (k * sz)) →
                    ∃ ι' v, e' = .returned v ∧ VRel ι' (.slice (some (H.length, 0)) (n + 1) none) v ∧ Sim ι' (newRow (H.set i' .dead) (r.cells.take ((k : Int).toNat * sz) ++ rj.cells.take sz ++ (r.cells.take (n * sz)).drop ((k : Int).toNat * sz)) sz) w2 ∧
                      Tr ι ι' H (newRow (H.set i' .dead) (r.cells.take ((k : Int).toNat * sz) ++ rj.cells.take sz ++ (r.cells.take (n * sz)).drop ((k : Int).toNat * sz)) sz) (min H.length i') w w2 := by
                  intro e' w2 q he hio
                  obtain ⟨ι', f1, f2⟩ := hio.fin hr hro hl (hι H.length (Nat.le_refl _) (by rw [len_newRow]; simp)) hrel hones hlen
                  exact ⟨ι', q, he, f1, f2.sim hS hι, f2.tr hι (fun j h => by cases h; exact Nat.min_le_right _ _)⟩
                rw [hat, hatl]
                by_cases hkn' : k = n
                · subst hkn'
                  subst hs; subst hb
                  obtain ⟨q, w', hrun, ho⟩ := append_out (n := k) (C := l.cap) (vc := cj) hu hi hz hzs hsz hby g1 (by omega) h1V (by omega) (some ⟨l.b, 0, none⟩) (.inr ⟨l.b, B, tB, rfl, hnc, b1, b3, h1B⟩)
                  have hio := ho _ (.inr ⟨l.b, B, tB, rfl, b1, rfl⟩)
                  refine (we (some ⟨l.b, 0, none⟩) k l.cap ⟨lj.b, 0, none⟩ cj w w' q hnc hn1 hrun).mono ?_
                  rintro e' w2 ⟨rfl, rfl⟩
                  refine fin _ _ q rfl ?_
                  rw [List.take_of_length_le (by omega), List.drop_eq_nil_of_le (by omega), List.append_nil]
                  exact hio
                · by_cases hrm : n + 1 ≤ l.cap
                  · refine (wr l.b n l.cap k lj.b cj w B V tB tV (by omega) hrm hn1 hne b1 b3 g1 (by omega) h1B h1V).mono ?_
                    rintro e' w2 ⟨rfl, B1, B2, hB1, hB2, rfl⟩
                    obtain ⟨q1, q2⟩ := lists_room B.toList V.toList n k sz l.cap (by omega) hrm (by simpa using b3) (by simp; omega) B1.toList (by rw [hB1])
                    refine fin _ _ _ rfl ⟨⟨l.b, l.cap, B2, tB, rfl, hrm, setRow_heap _ _ _ _ _ _ (setRow_heap w.drew l.b B B1 tB (0, 0) b1), ?_, ?_, .inr rfl⟩, fun j hj hne => ?_, by simp, rfl, rfl, rfl⟩
                    · rw [hB2]; simpa using q1
                    · rw [hB2]; exact q2
                    · have hjb : j ≠ l.b := fun e => hne (by rw [e])
                      exact (setRow_other _ _ _ _ hjb).trans (setRow_other _ _ _ _ hjb)
                  · refine (wg l.b n l.cap k lj.b cj w B V tB tV (by omega) hnc (by omega) (by unfold room at hroom; omega) hne b1 b3 g1 (by omega) h1B h1V).mono ?_
                    rintro e' w2 ⟨G, R, R1, R2, rfl, hGn, hRs, hRt, hR1, hR2, rfl⟩
                    have hmul := Nat.mul_le_mul_right sz hnc
                    obtain ⟨q1, q2⟩ := lists_grow B.toList V.toList R.toList n k sz G (by omega) hGn (by simpa using hRs) (by simp; omega) (by simp; omega) hRt R1.toList (by rw [hR1])
                    have hA1 : ((w.alloc (.cells R e)).drew).heap[w.heap.size]? = some (.cells R e (0, 0)) := heap_alloc_new w _
                    refine fin _ _ _ rfl ⟨⟨w.heap.size, G, R2, e, rfl, hGn, setRow_heap _ _ _ _ _ _ (setRow_heap ((w.alloc (.cells R e)).drew) w.heap.size R R1 e (0, 0) hA1), ?_, ?_, .inl (Nat.le_refl _)⟩, fun j hj _ => ?_, by simp, rfl, rfl, rfl⟩
                    · rw [hR2]; simpa using q1
                    · rw [hR2]; exact q2
                    · have hjb : j ≠ w.heap.size := by omega
                      refine (setRow_other _ _ _ _ hjb).trans ((setRow_other _ _ _ _ hjb).trans ?_)
                      show (w.heap.push _)[j]? = w.heap[j]?
                      rw [Array.getElem?_push, if_neg (by omega)]
            · cases h
          · cases h
      · cases h
    · cases h
  · cases h


variable {T : Nat → Option AFn}
theorem ins_run {α : Type} {E : Flat α} {f bytes : Nat} (hf : T f = some (.prim (insA E.sz bytes))) {lo : Nat} {H : AHeap} {a : Option (Nat × Nat)} {xs : List α} (h : Own E lo H (.slice a xs.length none) xs) (hlo : lo ≤ H.length) {j : Nat} {x : α} (hj : hOf H j = some ⟨E.enc x, true, E.sz⟩)
    (hij : ∀ i o, a = some (i, o) → i ≠ j) {k : Nat} (hk : k ≤ xs.length) (hb : (xs.length + 1) * bytes ≤ room) (hn : xs.length + 1 ≤ room) :
    PW T f [.slice a xs.length none, .int .i64 (k : Int), .slice (some (j, 0)) 1 none] H lo (.slice a xs.length none) fun r H' => Own E lo H' r (xs.take k ++ x :: xs.drop k) := by
  have hen := E.len x
  have hte : (E.enc x).take E.sz = E.enc x := List.take_of_length_le (by omega)
  unfold PW WF
  rw [EC_prim hf]
  unfold insA
  simp only [hj]
  rw [if_pos ⟨trivial, by omega, by omega, by omega, hb, hn⟩]
  have hcs : E.cs (xs.take k ++ x :: xs.drop k) = E.cs (xs.take k) ++ E.enc x ++ E.cs (xs.drop k) := by rw [E.cs_app, Flat.cs_cons, List.append_assoc]
  have hln : (xs.take k ++ x :: xs.drop k).length = xs.length + 1 := by simp; omega
  rcases h with ⟨h1, h2⟩ | ⟨i, tail, h1, h2, h3⟩
  · subst h2
    cases h1
    obtain rfl : k = 0 := by simpa using hk
    simp only [List.length_nil, if_true, hte]
    refine ⟨_, rfl, hlo, ⟨fun i r _ hr => (Ext.newRow _ _ _).row i r hr, fun i o n c e => .inr (by cases e; exact Nat.le_refl _), by rw [len_newRow]; omega⟩, ?_⟩
    exact .inr ⟨H.length, [], rfl, hlo, by rw [hOf_newRow, if_pos rfl]; simp [Flat.cs]⟩
  · cases h1
    simp only [h3]
    have hcl := E.cs_len xs
    rw [if_pos ⟨trivial, trivial, trivial, by simp [hcl], hij i 0 rfl⟩]
    have hmul := Nat.mul_le_mul_right E.sz hk
    have hil := hOf_is_lt h3
    refine ⟨_, rfl, Nat.le_min.2 ⟨hlo, h2⟩, ⟨fun q r hn hr => ?_, fun q o n c e => .inr (by cases e; exact Nat.le_refl _), by rw [len_newRow]; simp⟩, ?_⟩
    · have hqi : q ≠ i := fun e => by subst e; exact hn _ _ _ rfl
      have hql := hOf_is_lt hr
      rw [hOf_newRow, if_neg (by simp; omega)]
      unfold hOf at hr ⊢
      rwa [List.getElem?_set_ne (fun e => hqi e.symm)]
    · refine .inr ⟨H.length, [], by rw [hln], hlo, ?_⟩
      rw [hOf_newRow, if_pos (by simp), List.append_nil, hcs, Int.toNat_natCast, hte]
      have t1 : (E.cs xs ++ tail).take (k * E.sz) = E.cs (xs.take k) := by rw [List.take_append_of_le_length (by omega), E.cs_take]
      have t2 : ((E.cs xs ++ tail).take (xs.length * E.sz)).drop (k * E.sz) = E.cs (xs.drop k) := by
        rw [List.take_append_of_le_length (by omega), List.take_of_length_le (by omega), E.cs_drop]
      rw [t1, t2]

end Go.Proofs.Qq

namespace Go.Proofs.Qq.Qqd
open Go.Proofs.Qq
/-- What is taken as a whole. -/
def prims : Nat → Option AFn := fun f => if f = 62 then some (.prim (insA 3 32)) else if f = 112 then some (.prim (insA 11 96)) else none
end Go.Proofs.Qq.Qqd

namespace Go.Proofs.Qq.Qqd
open Go.Proofs.Qq

/-- The calls on nothing that a law begins with. -/
abbrev closed : List Nat := [11, 20, 42]
abbrev T := ovr (tab prims) closed

/-- How many numbers a message of a kind has. -/
def msgSize (k : Int) : Int × Bool :=
  if k = 3 then (0, true) else if k = 10 then (0, true) else if k = 2 then (1, true) else if k = 5 then (1, true) else if k = 1 then (2, true) else if k = 9 then (2, true)
  else if k = 6 then (3, true) else if k = 8 then (3, true) else if k = 7 then (5, true) else if k = 4 then (10, true) else (0, false)

set_option maxHeartbeats 4000000 in
/-- barrowref12.Size -/
theorem run52 (k : Int) (H : AHeap) (Q : AV → AHeap → Nat → Prop) (h : Q (.tup [.int .i64 (msgSize k).1, .bool (msgSize k).2]) H H.length) : WF T 52 [.int .i64 k] H Q := by
  refine (WF_code (fn := a52) rfl _ _ _).2 ?_
  by_cases h3 : k = 3
  · subst h3; simp only [a52, AV.undef, unA, qs, qb, qe, qi, qp, qm, qh, set_newRow_at, Int.reduceToNat, Nat.reduceMul, List.getElem?_cons_succ, List.getElem?_cons_zero, false_implies, true_implies, forall_const, implies_true, set_newRow_lt, Nat.lt_add_one, Nat.min_eq_left, Nat.le_add_right, qc, fillA, evParts, repCells, wrRow_eq, splice, partA, List.length_cons, List.length_nil, List.take_succ_cons, List.take_zero, List.drop_succ_cons, List.drop_zero, List.cons_append, Option.bind_some, Nat.add_zero, Nat.zero_add, List.drop_nil, List.take_nil, Nat.le_refl, Nat.min_self, WO_pure, WO_mem, pureStep, memStep, WC_true, WC_false, WO_guardq, qg, retQ, resOf, resAll, resA, wp_some, kv_ite, km_ite, kv_none, ↓reduceIte, Nat.reduceEqDiff, reduceCtorEq, decide_true, decide_false, Bool.not_true, Bool.not_false, List.map_cons, List.map_nil, List.nil_append, List.append_nil, Option.map_some, Option.map_none, if_true, if_false, true_and, and_true, Int.reduceEq, Int.reduceLT, Int.reduceLE, Int.reduceNeg, Nat.reduceAdd, Nat.reduceLeDiff, Bool.true_eq_false, Bool.false_eq_true, beq_self_eq_true]; exact h
  by_cases h10 : k = 10
  · subst h10; simp only [a52, AV.undef, unA, qs, qb, qe, qi, qp, qm, qh, set_newRow_at, Int.reduceToNat, Nat.reduceMul, List.getElem?_cons_succ, List.getElem?_cons_zero, false_implies, true_implies, forall_const, implies_true, set_newRow_lt, Nat.lt_add_one, Nat.min_eq_left, Nat.le_add_right, qc, fillA, evParts, repCells, wrRow_eq, splice, partA, List.length_cons, List.length_nil, List.take_succ_cons, List.take_zero, List.drop_succ_cons, List.drop_zero, List.cons_append, Option.bind_some, Nat.add_zero, Nat.zero_add, List.drop_nil, List.take_nil, Nat.le_refl, Nat.min_self, WO_pure, WO_mem, pureStep, memStep, WC_true, WC_false, WO_guardq, qg, retQ, resOf, resAll, resA, wp_some, kv_ite, km_ite, kv_none, ↓reduceIte, Nat.reduceEqDiff, reduceCtorEq, decide_true, decide_false, Bool.not_true, Bool.not_false, List.map_cons, List.map_nil, List.nil_append, List.append_nil, Option.map_some, Option.map_none, if_true, if_false, true_and, and_true, Int.reduceEq, Int.reduceLT, Int.reduceLE, Int.reduceNeg, Nat.reduceAdd, Nat.reduceLeDiff, Bool.true_eq_false, Bool.false_eq_true, beq_self_eq_true]; exact h
  by_cases h2 : k = 2
  · subst h2; simp only [a52, AV.undef, unA, qs, qb, qe, qi, qp, qm, qh, set_newRow_at, Int.reduceToNat, Nat.reduceMul, List.getElem?_cons_succ, List.getElem?_cons_zero, false_implies, true_implies, forall_const, implies_true, set_newRow_lt, Nat.lt_add_one, Nat.min_eq_left, Nat.le_add_right, qc, fillA, evParts, repCells, wrRow_eq, splice, partA, List.length_cons, List.length_nil, List.take_succ_cons, List.take_zero, List.drop_succ_cons, List.drop_zero, List.cons_append, Option.bind_some, Nat.add_zero, Nat.zero_add, List.drop_nil, List.take_nil, Nat.le_refl, Nat.min_self, WO_pure, WO_mem, pureStep, memStep, WC_true, WC_false, WO_guardq, qg, retQ, resOf, resAll, resA, wp_some, kv_ite, km_ite, kv_none, ↓reduceIte, Nat.reduceEqDiff, reduceCtorEq, decide_true, decide_false, Bool.not_true, Bool.not_false, List.map_cons, List.map_nil, List.nil_append, List.append_nil, Option.map_some, Option.map_none, if_true, if_false, true_and, and_true, Int.reduceEq, Int.reduceLT, Int.reduceLE, Int.reduceNeg, Nat.reduceAdd, Nat.reduceLeDiff, Bool.true_eq_false, Bool.false_eq_true, beq_self_eq_true]; exact h
  by_cases h5 : k = 5
  · subst h5; simp only [a52, AV.undef, unA, qs, qb, qe, qi, qp, qm, qh, set_newRow_at, Int.reduceToNat, Nat.reduceMul, List.getElem?_cons_succ, List.getElem?_cons_zero, false_implies, true_implies, forall_const, implies_true, set_newRow_lt, Nat.lt_add_one, Nat.min_eq_left, Nat.le_add_right, qc, fillA, evParts, repCells, wrRow_eq, splice, partA, List.length_cons, List.length_nil, List.take_succ_cons, List.take_zero, List.drop_succ_cons, List.drop_zero, List.cons_append, Option.bind_some, Nat.add_zero, Nat.zero_add, List.drop_nil, List.take_nil, Nat.le_refl, Nat.min_self, WO_pure, WO_mem, pureStep, memStep, WC_true, WC_false, WO_guardq, qg, retQ, resOf, resAll, resA, wp_some, kv_ite, km_ite, kv_none, ↓reduceIte, Nat.reduceEqDiff, reduceCtorEq, decide_true, decide_false, Bool.not_true, Bool.not_false, List.map_cons, List.map_nil, List.nil_append, List.append_nil, Option.map_some, Option.map_none, if_true, if_false, true_and, and_true, Int.reduceEq, Int.reduceLT, Int.reduceLE, Int.reduceNeg, Nat.reduceAdd, Nat.reduceLeDiff, Bool.true_eq_false, Bool.false_eq_true, beq_self_eq_true]; exact h
  by_cases h1 : k = 1
  · subst h1; simp only [a52, AV.undef, unA, qs, qb, qe, qi, qp, qm, qh, set_newRow_at, Int.reduceToNat, Nat.reduceMul, List.getElem?_cons_succ, List.getElem?_cons_zero, false_implies, true_implies, forall_const, implies_true, set_newRow_lt, Nat.lt_add_one, Nat.min_eq_left, Nat.le_add_right, qc, fillA, evParts, repCells, wrRow_eq, splice, partA, List.length_cons, List.length_nil, List.take_succ_cons, List.take_zero, List.drop_succ_cons, List.drop_zero, List.cons_append, Option.bind_some, Nat.add_zero, Nat.zero_add, List.drop_nil, List.take_nil, Nat.le_refl, Nat.min_self, WO_pure, WO_mem, pureStep, memStep, WC_true, WC_false, WO_guardq, qg, retQ, resOf, resAll, resA, wp_some, kv_ite, km_ite, kv_none, ↓reduceIte, Nat.reduceEqDiff, reduceCtorEq, decide_true, decide_false, Bool.not_true, Bool.not_false, List.map_cons, List.map_nil, List.nil_append, List.append_nil, Option.map_some, Option.map_none, if_true, if_false, true_and, and_true, Int.reduceEq, Int.reduceLT, Int.reduceLE, Int.reduceNeg, Nat.reduceAdd, Nat.reduceLeDiff, Bool.true_eq_false, Bool.false_eq_true, beq_self_eq_true]; exact h
  by_cases h9 : k = 9
  · subst h9; simp only [a52, AV.undef, unA, qs, qb, qe, qi, qp, qm, qh, set_newRow_at, Int.reduceToNat, Nat.reduceMul, List.getElem?_cons_succ, List.getElem?_cons_zero, false_implies, true_implies, forall_const, implies_true, set_newRow_lt, Nat.lt_add_one, Nat.min_eq_left, Nat.le_add_right, qc, fillA, evParts, repCells, wrRow_eq, splice, partA, List.length_cons, List.length_nil, List.take_succ_cons, List.take_zero, List.drop_succ_cons, List.drop_zero, List.cons_append, Option.bind_some, Nat.add_zero, Nat.zero_add, List.drop_nil, List.take_nil, Nat.le_refl, Nat.min_self, WO_pure, WO_mem, pureStep, memStep, WC_true, WC_false, WO_guardq, qg, retQ, resOf, resAll, resA, wp_some, kv_ite, km_ite, kv_none, ↓reduceIte, Nat.reduceEqDiff, reduceCtorEq, decide_true, decide_false, Bool.not_true, Bool.not_false, List.map_cons, List.map_nil, List.nil_append, List.append_nil, Option.map_some, Option.map_none, if_true, if_false, true_and, and_true, Int.reduceEq, Int.reduceLT, Int.reduceLE, Int.reduceNeg, Nat.reduceAdd, Nat.reduceLeDiff, Bool.true_eq_false, Bool.false_eq_true, beq_self_eq_true]; exact h
  by_cases h6 : k = 6
  · subst h6; simp only [a52, AV.undef, unA, qs, qb, qe, qi, qp, qm, qh, set_newRow_at, Int.reduceToNat, Nat.reduceMul, List.getElem?_cons_succ, List.getElem?_cons_zero, false_implies, true_implies, forall_const, implies_true, set_newRow_lt, Nat.lt_add_one, Nat.min_eq_left, Nat.le_add_right, qc, fillA, evParts, repCells, wrRow_eq, splice, partA, List.length_cons, List.length_nil, List.take_succ_cons, List.take_zero, List.drop_succ_cons, List.drop_zero, List.cons_append, Option.bind_some, Nat.add_zero, Nat.zero_add, List.drop_nil, List.take_nil, Nat.le_refl, Nat.min_self, WO_pure, WO_mem, pureStep, memStep, WC_true, WC_false, WO_guardq, qg, retQ, resOf, resAll, resA, wp_some, kv_ite, km_ite, kv_none, ↓reduceIte, Nat.reduceEqDiff, reduceCtorEq, decide_true, decide_false, Bool.not_true, Bool.not_false, List.map_cons, List.map_nil, List.nil_append, List.append_nil, Option.map_some, Option.map_none, if_true, if_false, true_and, and_true, Int.reduceEq, Int.reduceLT, Int.reduceLE, Int.reduceNeg, Nat.reduceAdd, Nat.reduceLeDiff, Bool.true_eq_false, Bool.false_eq_true, beq_self_eq_true]; exact h
  by_cases h8 : k = 8
  · subst h8; simp only [a52, AV.undef, unA, qs, qb, qe, qi, qp, qm, qh, set_newRow_at, Int.reduceToNat, Nat.reduceMul, List.getElem?_cons_succ, List.getElem?_cons_zero, false_implies, true_implies, forall_const, implies_true, set_newRow_lt, Nat.lt_add_one, Nat.min_eq_left, Nat.le_add_right, qc, fillA, evParts, repCells, wrRow_eq, splice, partA, List.length_cons, List.length_nil, List.take_succ_cons, List.take_zero, List.drop_succ_cons, List.drop_zero, List.cons_append, Option.bind_some, Nat.add_zero, Nat.zero_add, List.drop_nil, List.take_nil, Nat.le_refl, Nat.min_self, WO_pure, WO_mem, pureStep, memStep, WC_true, WC_false, WO_guardq, qg, retQ, resOf, resAll, resA, wp_some, kv_ite, km_ite, kv_none, ↓reduceIte, Nat.reduceEqDiff, reduceCtorEq, decide_true, decide_false, Bool.not_true, Bool.not_false, List.map_cons, List.map_nil, List.nil_append, List.append_nil, Option.map_some, Option.map_none, if_true, if_false, true_and, and_true, Int.reduceEq, Int.reduceLT, Int.reduceLE, Int.reduceNeg, Nat.reduceAdd, Nat.reduceLeDiff, Bool.true_eq_false, Bool.false_eq_true, beq_self_eq_true]; exact h
  by_cases h7 : k = 7
  · subst h7; simp only [a52, AV.undef, unA, qs, qb, qe, qi, qp, qm, qh, set_newRow_at, Int.reduceToNat, Nat.reduceMul, List.getElem?_cons_succ, List.getElem?_cons_zero, false_implies, true_implies, forall_const, implies_true, set_newRow_lt, Nat.lt_add_one, Nat.min_eq_left, Nat.le_add_right, qc, fillA, evParts, repCells, wrRow_eq, splice, partA, List.length_cons, List.length_nil, List.take_succ_cons, List.take_zero, List.drop_succ_cons, List.drop_zero, List.cons_append, Option.bind_some, Nat.add_zero, Nat.zero_add, List.drop_nil, List.take_nil, Nat.le_refl, Nat.min_self, WO_pure, WO_mem, pureStep, memStep, WC_true, WC_false, WO_guardq, qg, retQ, resOf, resAll, resA, wp_some, kv_ite, km_ite, kv_none, ↓reduceIte, Nat.reduceEqDiff, reduceCtorEq, decide_true, decide_false, Bool.not_true, Bool.not_false, List.map_cons, List.map_nil, List.nil_append, List.append_nil, Option.map_some, Option.map_none, if_true, if_false, true_and, and_true, Int.reduceEq, Int.reduceLT, Int.reduceLE, Int.reduceNeg, Nat.reduceAdd, Nat.reduceLeDiff, Bool.true_eq_false, Bool.false_eq_true, beq_self_eq_true]; exact h
  by_cases h4 : k = 4
  · subst h4; simp only [a52, AV.undef, unA, qs, qb, qe, qi, qp, qm, qh, set_newRow_at, Int.reduceToNat, Nat.reduceMul, List.getElem?_cons_succ, List.getElem?_cons_zero, false_implies, true_implies, forall_const, implies_true, set_newRow_lt, Nat.lt_add_one, Nat.min_eq_left, Nat.le_add_right, qc, fillA, evParts, repCells, wrRow_eq, splice, partA, List.length_cons, List.length_nil, List.take_succ_cons, List.take_zero, List.drop_succ_cons, List.drop_zero, List.cons_append, Option.bind_some, Nat.add_zero, Nat.zero_add, List.drop_nil, List.take_nil, Nat.le_refl, Nat.min_self, WO_pure, WO_mem, pureStep, memStep, WC_true, WC_false, WO_guardq, qg, retQ, resOf, resAll, resA, wp_some, kv_ite, km_ite, kv_none, ↓reduceIte, Nat.reduceEqDiff, reduceCtorEq, decide_true, decide_false, Bool.not_true, Bool.not_false, List.map_cons, List.map_nil, List.nil_append, List.append_nil, Option.map_some, Option.map_none, if_true, if_false, true_and, and_true, Int.reduceEq, Int.reduceLT, Int.reduceLE, Int.reduceNeg, Nat.reduceAdd, Nat.reduceLeDiff, Bool.true_eq_false, Bool.false_eq_true, beq_self_eq_true]; exact h
  simp only [msgSize, h3, h10, h2, h5, h1, h9, h6, h8, h7, h4, if_false] at h
  simp only [a52, h3, h10, h2, h5, h1, h9, h6, h8, h7, h4, AV.undef, unA, qs, qb, qe, qi, qp, qm, qh, set_newRow_at, Int.reduceToNat, Nat.reduceMul, List.getElem?_cons_succ, List.getElem?_cons_zero, false_implies, true_implies, forall_const, implies_true, set_newRow_lt, Nat.lt_add_one, Nat.min_eq_left, Nat.le_add_right, qc, fillA, evParts, repCells, wrRow_eq, splice, partA, List.length_cons, List.length_nil, List.take_succ_cons, List.take_zero, List.drop_succ_cons, List.drop_zero, List.cons_append, Option.bind_some, Nat.add_zero, Nat.zero_add, List.drop_nil, List.take_nil, Nat.le_refl, Nat.min_self, WO_pure, WO_mem, pureStep, memStep, WC_true, WC_false, WO_guardq, qg, retQ, resOf, resAll, resA, wp_some, kv_ite, km_ite, kv_none, ↓reduceIte, Nat.reduceEqDiff, reduceCtorEq, decide_true, decide_false, Bool.not_true, Bool.not_false, List.map_cons, List.map_nil, List.nil_append, List.append_nil, Option.map_some, Option.map_none, if_true, if_false, true_and, and_true, Int.reduceEq, Int.reduceLT, Int.reduceLE, Int.reduceNeg, Nat.reduceAdd, Nat.reduceLeDiff, Bool.true_eq_false, Bool.false_eq_true, beq_self_eq_true]
  exact h

/-- message.sizes -/
def sizesA : List AV := [.int .i64 (-1), .int .i64 2, .int .i64 1, .int .i64 0, .int .i64 10, .int .i64 1, .int .i64 3, .int .i64 5, .int .i64 3, .int .i64 2, .int .i64 0]
theorem run85 (H : AHeap) (Q : AV → AHeap → Nat → Prop) (h : Q (.agg sizesA) (newRow H sizesA 0) H.length) : WF T 85 [] H Q := by
  refine (WF_code (fn := a85) rfl _ _ _).2 ?_
  simp only [a85, AV.undef, unA, qs, qb, qe, qi, qp, qm, qh, set_newRow_at, Int.reduceToNat, Nat.reduceMul, List.getElem?_cons_succ, List.getElem?_cons_zero, false_implies, true_implies, forall_const, implies_true, set_newRow_lt, Nat.lt_add_one, Nat.min_eq_left, Nat.le_add_right, qc, fillA, evParts, repCells, wrRow_eq, splice, partA, List.length_cons, List.length_nil, List.take_succ_cons, List.take_zero, List.drop_succ_cons, List.drop_zero, List.cons_append, Option.bind_some, Nat.add_zero, Nat.zero_add, List.drop_nil, List.take_nil, Nat.le_refl, Nat.min_self, WO_pure, WO_mem, pureStep, memStep, WC_true, WC_false, WO_guardq, qg, retQ, resOf, resAll, resA, wp_some, kv_ite, km_ite, kv_none, ↓reduceIte, Nat.reduceEqDiff, reduceCtorEq, decide_true, decide_false, Bool.not_true, Bool.not_false, List.map_cons, List.map_nil, List.nil_append, List.append_nil, Option.map_some, Option.map_none, if_true, if_false, true_and, and_true, Int.reduceEq, Int.reduceLT, Int.reduceLE, Int.reduceNeg, Nat.reduceAdd, Nat.reduceLeDiff, Bool.true_eq_false, Bool.false_eq_true, beq_self_eq_true]
  exact h

theorem len_sizesA : sizesA.length = 11 := rfl
theorem drop_sizesA (n : Nat) : List.drop 11 (repCells [.int .i64 n] 11) = [] := rfl

set_option maxHeartbeats 4000000 in
/-- message.Size -/
theorem run51 (k : Int) (H : AHeap) (Q : AV → AHeap → Nat → Prop) (h : ∀ H', Ext H H' → Q (.tup [.int .i64 (msgSize k).1, .bool (msgSize k).2]) H' H.length) : WF T 51 [.int .i64 k] H Q := by
  refine (WF_code (fn := a51) rfl _ _ _).2 ?_
  simp only [a51, AV.undef, unA, qs, qb, qe, qi, qp, qm, qh, set_newRow_at, Int.reduceToNat, Nat.reduceMul, List.getElem?_cons_succ, List.getElem?_cons_zero, false_implies, true_implies, forall_const, implies_true, set_newRow_lt, Nat.lt_add_one, Nat.min_eq_left, Nat.le_add_right, qc, fillA, evParts, repCells, wrRow_eq, splice, partA, List.length_cons, List.length_nil, List.take_succ_cons, List.take_zero, List.drop_succ_cons, List.drop_zero, List.cons_append, Option.bind_some, Nat.add_zero, Nat.zero_add, List.drop_nil, List.take_nil, Nat.le_refl, Nat.min_self, WO_pure, WO_mem, pureStep, memStep, WC_true, WC_false, WO_guardq, qg, retQ, resOf, resAll, resA, wp_some, kv_ite, km_ite, kv_none, ↓reduceIte, Nat.reduceEqDiff, reduceCtorEq, decide_true, decide_false, Bool.not_true, Bool.not_false, List.map_cons, List.map_nil, List.nil_append, List.append_nil, Option.map_some, Option.map_none, if_true, if_false, true_and, and_true, Int.reduceEq, Int.reduceLT, Int.reduceLE, Int.reduceNeg, Nat.reduceAdd, Nat.reduceLeDiff, Bool.true_eq_false, Bool.false_eq_true, beq_self_eq_true]
  refine WO_call rfl (run85 _ _ ?_)
  have h' := h (newRow (newRow H sizesA 0) sizesA 0) (((Ext.refl H).addRow _ _).addRow _ _)
  simp only [len_sizesA, AV.undef, unA, qs, qb, qe, qi, qp, qm, qh, set_newRow_at, Int.reduceToNat, Nat.reduceMul, List.getElem?_cons_succ, List.getElem?_cons_zero, false_implies, true_implies, forall_const, implies_true, set_newRow_lt, Nat.lt_add_one, Nat.min_eq_left, Nat.le_add_right, qc, fillA, evParts, repCells, wrRow_eq, splice, partA, List.length_cons, List.length_nil, List.take_succ_cons, List.take_zero, List.drop_succ_cons, List.drop_zero, List.cons_append, Option.bind_some, Nat.add_zero, Nat.zero_add, List.drop_nil, List.take_nil, Nat.le_refl, Nat.min_self, WO_pure, WO_mem, pureStep, memStep, WC_true, WC_false, WO_guardq, qg, retQ, resOf, resAll, resA, wp_some, kv_ite, km_ite, kv_none, ↓reduceIte, Nat.reduceEqDiff, reduceCtorEq, decide_true, decide_false, Bool.not_true, Bool.not_false, List.map_cons, List.map_nil, List.nil_append, List.append_nil, Option.map_some, Option.map_none, if_true, if_false, true_and, and_true, Int.reduceEq, Int.reduceLT, Int.reduceLE, Int.reduceNeg, Nat.reduceAdd, Nat.reduceLeDiff, Bool.true_eq_false, Bool.false_eq_true, beq_self_eq_true]
  by_cases hk : k ≤ 0
  · simp only [hk, AV.undef, unA, qs, qb, qe, qi, qp, qm, qh, set_newRow_at, Int.reduceToNat, Nat.reduceMul, List.getElem?_cons_succ, List.getElem?_cons_zero, false_implies, true_implies, forall_const, implies_true, set_newRow_lt, Nat.lt_add_one, Nat.min_eq_left, Nat.le_add_right, qc, fillA, evParts, repCells, wrRow_eq, splice, partA, List.length_cons, List.length_nil, List.take_succ_cons, List.take_zero, List.drop_succ_cons, List.drop_zero, List.cons_append, Option.bind_some, Nat.add_zero, Nat.zero_add, List.drop_nil, List.take_nil, Nat.le_refl, Nat.min_self, WO_pure, WO_mem, pureStep, memStep, WC_true, WC_false, WO_guardq, qg, retQ, resOf, resAll, resA, wp_some, kv_ite, km_ite, kv_none, ↓reduceIte, Nat.reduceEqDiff, reduceCtorEq, decide_true, decide_false, Bool.not_true, Bool.not_false, List.map_cons, List.map_nil, List.nil_append, List.append_nil, Option.map_some, Option.map_none, if_true, if_false, true_and, and_true, Int.reduceEq, Int.reduceLT, Int.reduceLE, Int.reduceNeg, Nat.reduceAdd, Nat.reduceLeDiff, Bool.true_eq_false, Bool.false_eq_true, beq_self_eq_true]
    have e : msgSize k = (0, false) := by
      unfold msgSize
      repeat rw [if_neg (by omega)]
    rw [e] at h'
    exact h'
  by_cases hk' : 11 ≤ k
  · simp only [hk, hk', AV.undef, unA, qs, qb, qe, qi, qp, qm, qh, set_newRow_at, Int.reduceToNat, Nat.reduceMul, List.getElem?_cons_succ, List.getElem?_cons_zero, false_implies, true_implies, forall_const, implies_true, set_newRow_lt, Nat.lt_add_one, Nat.min_eq_left, Nat.le_add_right, qc, fillA, evParts, repCells, wrRow_eq, splice, partA, List.length_cons, List.length_nil, List.take_succ_cons, List.take_zero, List.drop_succ_cons, List.drop_zero, List.cons_append, Option.bind_some, Nat.add_zero, Nat.zero_add, List.drop_nil, List.take_nil, Nat.le_refl, Nat.min_self, WO_pure, WO_mem, pureStep, memStep, WC_true, WC_false, WO_guardq, qg, retQ, resOf, resAll, resA, wp_some, kv_ite, km_ite, kv_none, ↓reduceIte, Nat.reduceEqDiff, reduceCtorEq, decide_true, decide_false, Bool.not_true, Bool.not_false, List.map_cons, List.map_nil, List.nil_append, List.append_nil, Option.map_some, Option.map_none, if_true, if_false, true_and, and_true, Int.reduceEq, Int.reduceLT, Int.reduceLE, Int.reduceNeg, Nat.reduceAdd, Nat.reduceLeDiff, Bool.true_eq_false, Bool.false_eq_true, beq_self_eq_true]
    have e : msgSize k = (0, false) := by
      unfold msgSize
      repeat rw [if_neg (by omega)]
    rw [e] at h'
    exact h'
  simp only [hk, hk', AV.undef, unA, qs, qb, qe, qi, qp, qm, qh, set_newRow_at, Int.reduceToNat, Nat.reduceMul, List.getElem?_cons_succ, List.getElem?_cons_zero, false_implies, true_implies, forall_const, implies_true, set_newRow_lt, Nat.lt_add_one, Nat.min_eq_left, Nat.le_add_right, qc, fillA, evParts, repCells, wrRow_eq, splice, partA, List.length_cons, List.length_nil, List.take_succ_cons, List.take_zero, List.drop_succ_cons, List.drop_zero, List.cons_append, Option.bind_some, Nat.add_zero, Nat.zero_add, List.drop_nil, List.take_nil, Nat.le_refl, Nat.min_self, WO_pure, WO_mem, pureStep, memStep, WC_true, WC_false, WO_guardq, qg, retQ, resOf, resAll, resA, wp_some, kv_ite, km_ite, kv_none, ↓reduceIte, Nat.reduceEqDiff, reduceCtorEq, decide_true, decide_false, Bool.not_true, Bool.not_false, List.map_cons, List.map_nil, List.nil_append, List.append_nil, Option.map_some, Option.map_none, if_true, if_false, true_and, and_true, Int.reduceEq, Int.reduceLT, Int.reduceLE, Int.reduceNeg, Nat.reduceAdd, Nat.reduceLeDiff, Bool.true_eq_false, Bool.false_eq_true, beq_self_eq_true]
  rcases (by omega : k = 1 ∨ k = 2 ∨ k = 3 ∨ k = 4 ∨ k = 5 ∨ k = 6 ∨ k = 7 ∨ k = 8 ∨ k = 9 ∨ k = 10) with h1 | h1 | h1 | h1 | h1 | h1 | h1 | h1 | h1 | h1
  · subst h1; simp only [sizesA, AV.undef, unA, qs, qb, qe, qi, qp, qm, qh, set_newRow_at, Int.reduceToNat, Nat.reduceMul, List.getElem?_cons_succ, List.getElem?_cons_zero, false_implies, true_implies, forall_const, implies_true, set_newRow_lt, Nat.lt_add_one, Nat.min_eq_left, Nat.le_add_right, qc, fillA, evParts, repCells, wrRow_eq, splice, partA, List.length_cons, List.length_nil, List.take_succ_cons, List.take_zero, List.drop_succ_cons, List.drop_zero, List.cons_append, Option.bind_some, Nat.add_zero, Nat.zero_add, List.drop_nil, List.take_nil, Nat.le_refl, Nat.min_self, WO_pure, WO_mem, pureStep, memStep, WC_true, WC_false, WO_guardq, qg, retQ, resOf, resAll, resA, wp_some, kv_ite, km_ite, kv_none, ↓reduceIte, Nat.reduceEqDiff, reduceCtorEq, decide_true, decide_false, Bool.not_true, Bool.not_false, List.map_cons, List.map_nil, List.nil_append, List.append_nil, Option.map_some, Option.map_none, if_true, if_false, true_and, and_true, Int.reduceEq, Int.reduceLT, Int.reduceLE, Int.reduceNeg, Nat.reduceAdd, Nat.reduceLeDiff, Bool.true_eq_false, Bool.false_eq_true, beq_self_eq_true]; exact ⟨by decide, h'⟩
  · subst h1; simp only [sizesA, AV.undef, unA, qs, qb, qe, qi, qp, qm, qh, set_newRow_at, Int.reduceToNat, Nat.reduceMul, List.getElem?_cons_succ, List.getElem?_cons_zero, false_implies, true_implies, forall_const, implies_true, set_newRow_lt, Nat.lt_add_one, Nat.min_eq_left, Nat.le_add_right, qc, fillA, evParts, repCells, wrRow_eq, splice, partA, List.length_cons, List.length_nil, List.take_succ_cons, List.take_zero, List.drop_succ_cons, List.drop_zero, List.cons_append, Option.bind_some, Nat.add_zero, Nat.zero_add, List.drop_nil, List.take_nil, Nat.le_refl, Nat.min_self, WO_pure, WO_mem, pureStep, memStep, WC_true, WC_false, WO_guardq, qg, retQ, resOf, resAll, resA, wp_some, kv_ite, km_ite, kv_none, ↓reduceIte, Nat.reduceEqDiff, reduceCtorEq, decide_true, decide_false, Bool.not_true, Bool.not_false, List.map_cons, List.map_nil, List.nil_append, List.append_nil, Option.map_some, Option.map_none, if_true, if_false, true_and, and_true, Int.reduceEq, Int.reduceLT, Int.reduceLE, Int.reduceNeg, Nat.reduceAdd, Nat.reduceLeDiff, Bool.true_eq_false, Bool.false_eq_true, beq_self_eq_true]; exact ⟨by decide, h'⟩
  · subst h1; simp only [sizesA, AV.undef, unA, qs, qb, qe, qi, qp, qm, qh, set_newRow_at, Int.reduceToNat, Nat.reduceMul, List.getElem?_cons_succ, List.getElem?_cons_zero, false_implies, true_implies, forall_const, implies_true, set_newRow_lt, Nat.lt_add_one, Nat.min_eq_left, Nat.le_add_right, qc, fillA, evParts, repCells, wrRow_eq, splice, partA, List.length_cons, List.length_nil, List.take_succ_cons, List.take_zero, List.drop_succ_cons, List.drop_zero, List.cons_append, Option.bind_some, Nat.add_zero, Nat.zero_add, List.drop_nil, List.take_nil, Nat.le_refl, Nat.min_self, WO_pure, WO_mem, pureStep, memStep, WC_true, WC_false, WO_guardq, qg, retQ, resOf, resAll, resA, wp_some, kv_ite, km_ite, kv_none, ↓reduceIte, Nat.reduceEqDiff, reduceCtorEq, decide_true, decide_false, Bool.not_true, Bool.not_false, List.map_cons, List.map_nil, List.nil_append, List.append_nil, Option.map_some, Option.map_none, if_true, if_false, true_and, and_true, Int.reduceEq, Int.reduceLT, Int.reduceLE, Int.reduceNeg, Nat.reduceAdd, Nat.reduceLeDiff, Bool.true_eq_false, Bool.false_eq_true, beq_self_eq_true]; exact ⟨by decide, h'⟩
  · subst h1; simp only [sizesA, AV.undef, unA, qs, qb, qe, qi, qp, qm, qh, set_newRow_at, Int.reduceToNat, Nat.reduceMul, List.getElem?_cons_succ, List.getElem?_cons_zero, false_implies, true_implies, forall_const, implies_true, set_newRow_lt, Nat.lt_add_one, Nat.min_eq_left, Nat.le_add_right, qc, fillA, evParts, repCells, wrRow_eq, splice, partA, List.length_cons, List.length_nil, List.take_succ_cons, List.take_zero, List.drop_succ_cons, List.drop_zero, List.cons_append, Option.bind_some, Nat.add_zero, Nat.zero_add, List.drop_nil, List.take_nil, Nat.le_refl, Nat.min_self, WO_pure, WO_mem, pureStep, memStep, WC_true, WC_false, WO_guardq, qg, retQ, resOf, resAll, resA, wp_some, kv_ite, km_ite, kv_none, ↓reduceIte, Nat.reduceEqDiff, reduceCtorEq, decide_true, decide_false, Bool.not_true, Bool.not_false, List.map_cons, List.map_nil, List.nil_append, List.append_nil, Option.map_some, Option.map_none, if_true, if_false, true_and, and_true, Int.reduceEq, Int.reduceLT, Int.reduceLE, Int.reduceNeg, Nat.reduceAdd, Nat.reduceLeDiff, Bool.true_eq_false, Bool.false_eq_true, beq_self_eq_true]; exact ⟨by decide, h'⟩
  · subst h1; simp only [sizesA, AV.undef, unA, qs, qb, qe, qi, qp, qm, qh, set_newRow_at, Int.reduceToNat, Nat.reduceMul, List.getElem?_cons_succ, List.getElem?_cons_zero, false_implies, true_implies, forall_const, implies_true, set_newRow_lt, Nat.lt_add_one, Nat.min_eq_left, Nat.le_add_right, qc, fillA, evParts, repCells, wrRow_eq, splice, partA, List.length_cons, List.length_nil, List.take_succ_cons, List.take_zero, List.drop_succ_cons, List.drop_zero, List.cons_append, Option.bind_some, Nat.add_zero, Nat.zero_add, List.drop_nil, List.take_nil, Nat.le_refl, Nat.min_self, WO_pure, WO_mem, pureStep, memStep, WC_true, WC_false, WO_guardq, qg, retQ, resOf, resAll, resA, wp_some, kv_ite, km_ite, kv_none, ↓reduceIte, Nat.reduceEqDiff, reduceCtorEq, decide_true, decide_false, Bool.not_true, Bool.not_false, List.map_cons, List.map_nil, List.nil_append, List.append_nil, Option.map_some, Option.map_none, if_true, if_false, true_and, and_true, Int.reduceEq, Int.reduceLT, Int.reduceLE, Int.reduceNeg, Nat.reduceAdd, Nat.reduceLeDiff, Bool.true_eq_false, Bool.false_eq_true, beq_self_eq_true]; exact ⟨by decide, h'⟩
  · subst h1; simp only [sizesA, AV.undef, unA, qs, qb, qe, qi, qp, qm, qh, set_newRow_at, Int.reduceToNat, Nat.reduceMul, List.getElem?_cons_succ, List.getElem?_cons_zero, false_implies, true_implies, forall_const, implies_true, set_newRow_lt, Nat.lt_add_one, Nat.min_eq_left, Nat.le_add_right, qc, fillA, evParts, repCells, wrRow_eq, splice, partA, List.length_cons, List.length_nil, List.take_succ_cons, List.take_zero, List.drop_succ_cons, List.drop_zero, List.cons_append, Option.bind_some, Nat.add_zero, Nat.zero_add, List.drop_nil, List.take_nil, Nat.le_refl, Nat.min_self, WO_pure, WO_mem, pureStep, memStep, WC_true, WC_false, WO_guardq, qg, retQ, resOf, resAll, resA, wp_some, kv_ite, km_ite, kv_none, ↓reduceIte, Nat.reduceEqDiff, reduceCtorEq, decide_true, decide_false, Bool.not_true, Bool.not_false, List.map_cons, List.map_nil, List.nil_append, List.append_nil, Option.map_some, Option.map_none, if_true, if_false, true_and, and_true, Int.reduceEq, Int.reduceLT, Int.reduceLE, Int.reduceNeg, Nat.reduceAdd, Nat.reduceLeDiff, Bool.true_eq_false, Bool.false_eq_true, beq_self_eq_true]; exact ⟨by decide, h'⟩
  · subst h1; simp only [sizesA, AV.undef, unA, qs, qb, qe, qi, qp, qm, qh, set_newRow_at, Int.reduceToNat, Nat.reduceMul, List.getElem?_cons_succ, List.getElem?_cons_zero, false_implies, true_implies, forall_const, implies_true, set_newRow_lt, Nat.lt_add_one, Nat.min_eq_left, Nat.le_add_right, qc, fillA, evParts, repCells, wrRow_eq, splice, partA, List.length_cons, List.length_nil, List.take_succ_cons, List.take_zero, List.drop_succ_cons, List.drop_zero, List.cons_append, Option.bind_some, Nat.add_zero, Nat.zero_add, List.drop_nil, List.take_nil, Nat.le_refl, Nat.min_self, WO_pure, WO_mem, pureStep, memStep, WC_true, WC_false, WO_guardq, qg, retQ, resOf, resAll, resA, wp_some, kv_ite, km_ite, kv_none, ↓reduceIte, Nat.reduceEqDiff, reduceCtorEq, decide_true, decide_false, Bool.not_true, Bool.not_false, List.map_cons, List.map_nil, List.nil_append, List.append_nil, Option.map_some, Option.map_none, if_true, if_false, true_and, and_true, Int.reduceEq, Int.reduceLT, Int.reduceLE, Int.reduceNeg, Nat.reduceAdd, Nat.reduceLeDiff, Bool.true_eq_false, Bool.false_eq_true, beq_self_eq_true]; exact ⟨by decide, h'⟩
  · subst h1; simp only [sizesA, AV.undef, unA, qs, qb, qe, qi, qp, qm, qh, set_newRow_at, Int.reduceToNat, Nat.reduceMul, List.getElem?_cons_succ, List.getElem?_cons_zero, false_implies, true_implies, forall_const, implies_true, set_newRow_lt, Nat.lt_add_one, Nat.min_eq_left, Nat.le_add_right, qc, fillA, evParts, repCells, wrRow_eq, splice, partA, List.length_cons, List.length_nil, List.take_succ_cons, List.take_zero, List.drop_succ_cons, List.drop_zero, List.cons_append, Option.bind_some, Nat.add_zero, Nat.zero_add, List.drop_nil, List.take_nil, Nat.le_refl, Nat.min_self, WO_pure, WO_mem, pureStep, memStep, WC_true, WC_false, WO_guardq, qg, retQ, resOf, resAll, resA, wp_some, kv_ite, km_ite, kv_none, ↓reduceIte, Nat.reduceEqDiff, reduceCtorEq, decide_true, decide_false, Bool.not_true, Bool.not_false, List.map_cons, List.map_nil, List.nil_append, List.append_nil, Option.map_some, Option.map_none, if_true, if_false, true_and, and_true, Int.reduceEq, Int.reduceLT, Int.reduceLE, Int.reduceNeg, Nat.reduceAdd, Nat.reduceLeDiff, Bool.true_eq_false, Bool.false_eq_true, beq_self_eq_true]; exact ⟨by decide, h'⟩
  · subst h1; simp only [sizesA, AV.undef, unA, qs, qb, qe, qi, qp, qm, qh, set_newRow_at, Int.reduceToNat, Nat.reduceMul, List.getElem?_cons_succ, List.getElem?_cons_zero, false_implies, true_implies, forall_const, implies_true, set_newRow_lt, Nat.lt_add_one, Nat.min_eq_left, Nat.le_add_right, qc, fillA, evParts, repCells, wrRow_eq, splice, partA, List.length_cons, List.length_nil, List.take_succ_cons, List.take_zero, List.drop_succ_cons, List.drop_zero, List.cons_append, Option.bind_some, Nat.add_zero, Nat.zero_add, List.drop_nil, List.take_nil, Nat.le_refl, Nat.min_self, WO_pure, WO_mem, pureStep, memStep, WC_true, WC_false, WO_guardq, qg, retQ, resOf, resAll, resA, wp_some, kv_ite, km_ite, kv_none, ↓reduceIte, Nat.reduceEqDiff, reduceCtorEq, decide_true, decide_false, Bool.not_true, Bool.not_false, List.map_cons, List.map_nil, List.nil_append, List.append_nil, Option.map_some, Option.map_none, if_true, if_false, true_and, and_true, Int.reduceEq, Int.reduceLT, Int.reduceLE, Int.reduceNeg, Nat.reduceAdd, Nat.reduceLeDiff, Bool.true_eq_false, Bool.false_eq_true, beq_self_eq_true]; exact ⟨by decide, h'⟩
  · subst h1; simp only [sizesA, AV.undef, unA, qs, qb, qe, qi, qp, qm, qh, set_newRow_at, Int.reduceToNat, Nat.reduceMul, List.getElem?_cons_succ, List.getElem?_cons_zero, false_implies, true_implies, forall_const, implies_true, set_newRow_lt, Nat.lt_add_one, Nat.min_eq_left, Nat.le_add_right, qc, fillA, evParts, repCells, wrRow_eq, splice, partA, List.length_cons, List.length_nil, List.take_succ_cons, List.take_zero, List.drop_succ_cons, List.drop_zero, List.cons_append, Option.bind_some, Nat.add_zero, Nat.zero_add, List.drop_nil, List.take_nil, Nat.le_refl, Nat.min_self, WO_pure, WO_mem, pureStep, memStep, WC_true, WC_false, WO_guardq, qg, retQ, resOf, resAll, resA, wp_some, kv_ite, km_ite, kv_none, ↓reduceIte, Nat.reduceEqDiff, reduceCtorEq, decide_true, decide_false, Bool.not_true, Bool.not_false, List.map_cons, List.map_nil, List.nil_append, List.append_nil, Option.map_some, Option.map_none, if_true, if_false, true_and, and_true, Int.reduceEq, Int.reduceLT, Int.reduceLE, Int.reduceNeg, Nat.reduceAdd, Nat.reduceLeDiff, Bool.true_eq_false, Bool.false_eq_true, beq_self_eq_true]; exact ⟨by decide, h'⟩
end Go.Proofs.Qq.Qqd

namespace Go.Proofs.Qq.Qqd
open Go.Proofs.Qq

/-- pack.unfold -/
theorem run88 (u : Nat) (hu : u < 18446744073709551616) (H : AHeap) (Q : AV → AHeap → Nat → Prop) (h : Q (.int .i64 (zag u)) H H.length) : WF T 88 [.int .u64 u] H Q := by
  refine (WF_code (fn := a88) rfl _ _ _).2 ?_
  have e1 : binShift false .u64 (u : Int) 1 = some (.int .u64 ((u / 2 : Nat) : Int)) := by
    unfold binShift
    rw [if_neg (by decide), if_neg (by decide)]
    congr 2
    show (u : Int).fdiv (2 ^ 1) = _
    rw [Int.fdiv_eq_ediv_of_nonneg _ (by decide)]; omega
  have e2 : IntKind.i64.wrap ((u / 2 : Nat) : Int) = ((u / 2 : Nat) : Int) := w64 (by omega) (by omega)
  have e3 : IntKind.u64.wrap ((u % 2 : Nat) : Int) = ((u % 2 : Nat) : Int) := wu64 (by omega) (by omega)
  have e4 : IntKind.i64.wrap ((u % 2 : Nat) : Int) = ((u % 2 : Nat) : Int) := w64 (by omega) (by omega)
  have e5 : IntKind.i64.wrap (0 - ((u % 2 : Nat) : Int)) = 0 - ((u % 2 : Nat) : Int) := w64 (by omega) (by omega)
  simp only [a88, unA, e1, e2, iand1 u hu, e4, e5, AV.undef, unA, qs, qb, qe, qi, qp, qm, qh, set_newRow_at, Int.reduceToNat, Nat.reduceMul, List.getElem?_cons_succ, List.getElem?_cons_zero, false_implies, true_implies, forall_const, implies_true, set_newRow_lt, Nat.lt_add_one, Nat.min_eq_left, Nat.le_add_right, qc, fillA, evParts, repCells, wrRow_eq, splice, partA, List.length_cons, List.length_nil, List.take_succ_cons, List.take_zero, List.drop_succ_cons, List.drop_zero, List.cons_append, Option.bind_some, Nat.add_zero, Nat.zero_add, List.drop_nil, List.take_nil, Nat.le_refl, Nat.min_self, WO_pure, WO_mem, pureStep, memStep, WC_true, WC_false, WO_guardq, qg, retQ, resOf, resAll, resA, wp_some, kv_ite, km_ite, kv_none, ↓reduceIte, Nat.reduceEqDiff, reduceCtorEq, decide_true, decide_false, Bool.not_true, Bool.not_false, List.map_cons, List.map_nil, List.nil_append, List.append_nil, Option.map_some, Option.map_none, if_true, if_false, true_and, and_true, Int.reduceEq, Int.reduceLT, Int.reduceLE, Int.reduceNeg, Nat.reduceAdd, Nat.reduceLeDiff, Bool.true_eq_false, Bool.false_eq_true, beq_self_eq_true]
  rcases Nat.mod_two_eq_zero_or_one u with hm | hm
  · rw [hm]
    have ez : (0 - ((0 : Nat) : Int)) = 0 := rfl
    rw [ez, ixor_zero (u / 2) (by omega)]
    unfold zag at h; rw [if_pos hm] at h; exact h
  · rw [hm]
    have ez : (0 - ((1 : Nat) : Int)) = -1 := rfl
    rw [ez, ixor_ones (u / 2) (by omega)]
    unfold zag at h; rw [if_neg (by omega)] at h; exact h
/-- A number in groups of seven bits. -/
def vrL : List UInt8 → Nat → Nat → Option (Nat × Nat)
  | [], _, _ => none
  | b :: r, i, acc =>
    if 10 ≤ i then none
    else if 128 ≤ b.toNat then vrL r (i + 1) (acc + (b.toNat - 128) * 128 ^ i)
    else if (b.toNat = 0 ∧ 0 < i) ∨ (i = 9 ∧ 1 < b.toNat) then none
    else some (acc + b.toNat * 128 ^ i, i + 1)

def vrOut : Option (Nat × Nat) → AV
  | some (v, n) => .tup [.int .u64 v, .int .i64 n]
  | none => .tup [.int .u64 0, .int .i64 0]

def TakeInv (bs : List UInt8) (a : Option (Nat × Nat)) (c : Option Nat) (H : AHeap) (n : Nat) (s : AS) : Prop :=
  ∃ j acc u : Nat, n = min bs.length 10 - j ∧ j ≤ min bs.length 10 ∧ s.env 0 = .slice a bs.length c ∧ s.env 9 = .int .i64 ((min bs.length 10 : Nat) : Int) ∧ s.env 10 = .int .i64 (j : Int) ∧
    s.env 4 = .int .u64 (u : Int) ∧ (j ≤ 9 → u = acc ∧ acc < 128 ^ j) ∧ vrL (bs.drop j) j acc = vrL bs 0 0 ∧ s.heap = H ∧ s.low = H.length

set_option maxHeartbeats 4000000 in
/-- pack.take -/
theorem run113 (bs : List UInt8) (hlen : bs.length ≤ 9223372036854775807) (a : Option (Nat × Nat)) (c : Option Nat) (H : AHeap) (ha : At H a (bytesA bs)) (Q : AV → AHeap → Nat → Prop) (h : Q (vrOut (vrL bs 0 0)) H H.length) :
    WF T 113 [.slice a bs.length c] H Q := by
  refine (WF_code (fn := a113) rfl _ _ _).2 ?_
  simp only [a113, rangeCode, foldMM, minmax2, AV.undef, unA, qs, qb, qe, qi, qp, qm, qh, set_newRow_at, Int.reduceToNat, Nat.reduceMul, List.getElem?_cons_succ, List.getElem?_cons_zero, false_implies, true_implies, forall_const, implies_true, set_newRow_lt, Nat.lt_add_one, Nat.min_eq_left, Nat.le_add_right, qc, fillA, evParts, repCells, wrRow_eq, splice, partA, List.length_cons, List.length_nil, List.take_succ_cons, List.take_zero, List.drop_succ_cons, List.drop_zero, List.cons_append, Option.bind_some, Nat.add_zero, Nat.zero_add, List.drop_nil, List.take_nil, Nat.le_refl, Nat.min_self, WO_pure, WO_mem, pureStep, memStep, WC_true, WC_false, WO_guardq, qg, retQ, resOf, resAll, resA, wp_some, kv_ite, km_ite, kv_none, ↓reduceIte, Nat.reduceEqDiff, reduceCtorEq, decide_true, decide_false, Bool.not_true, Bool.not_false, List.map_cons, List.map_nil, List.nil_append, List.append_nil, Option.map_some, Option.map_none, if_true, if_false, true_and, and_true, Int.reduceEq, Int.reduceLT, Int.reduceLE, Int.reduceNeg, Nat.reduceAdd, Nat.reduceLeDiff, Bool.true_eq_false, Bool.false_eq_true, beq_self_eq_true]
  have hmin : (if (10 : Int) < (bs.length : Int) then (10 : Int) else (bs.length : Int)) = ((min bs.length 10 : Nat) : Int) := by
    split <;> omega
  simp only [Bool.false_eq_true, if_false, hmin]
  refine WC_loop (TakeInv bs a c H) ?_ (min bs.length 10) _ ⟨0, 0, 0, by omega, by omega, ?_⟩
  · rintro n ⟨e, H', l⟩ ⟨j, acc, u, hn, hj, h0, h9, h10, h4, hu, hv, hH, hL⟩
    simp only [] at h0 h9 h10 h4 hH hL
    subst hH; subst hL
    by_cases hjl : j < min bs.length 10
    · have c1 : (j : Int) < ((min bs.length 10 : Nat) : Int) := by omega
      obtain ⟨b, hb⟩ : ∃ b, bs[j]? = some b := ⟨bs[j]'(by omega), List.getElem?_eq_getElem (by omega)⟩
      obtain ⟨i, o, rfl⟩ := ha.some_of (j := j) (by rw [bytesA_len]; omega)
      have hld := ha.load (bytesA_get hb)
      have hb256 : b.toNat < 256 := b.toNat_lt
      have c2 : (0 : Int) ≤ (j : Int) ∧ (j : Int) < (bs.length : Int) := by omega
      have e1 : IntKind.u64.wrap (b.toNat : Int) = (b.toNat : Int) := wu64 (by omega) (by omega)
      have e2 : IntKind.i64.wrap (7 * (j : Int)) = ((7 * j : Nat) : Int) := by rw [w64 (by omega) (by omega)]; omega
      obtain ⟨hu1, hu2⟩ := hu (by omega)
      subst hu1
      obtain ⟨w, hw, hw2⟩ := group_in u (b.toNat % 128) j (by omega) (by omega) hu2
      have hdrop : bs.drop j = b :: bs.drop (j + 1) := by rw [List.drop_eq_getElem_cons (by omega)]; congr 1; have := List.getElem?_eq_getElem (l := bs) (i := j) (by omega); rw [hb] at this; exact (Option.some.inj this).symm
      rw [hdrop] at hv
      have hpow : 128 ^ (j + 1) = 128 ^ j * 128 := Nat.pow_succ ..
      simp only [h0, h9, h10, h4, c1, c2, hld, e1, e2, Int.toNat_natCast, iand127 b.toNat (by omega), shl_u64 (b.toNat % 128) (7 * j) (by omega), hw, AV.undef, unA, qs, qb, qe, qi, qp, qm, qh, set_newRow_at, Int.reduceToNat, Nat.reduceMul, List.getElem?_cons_succ, List.getElem?_cons_zero, false_implies, true_implies, forall_const, implies_true, set_newRow_lt, Nat.lt_add_one, Nat.min_eq_left, Nat.le_add_right, qc, fillA, evParts, repCells, wrRow_eq, splice, partA, List.length_cons, List.length_nil, List.take_succ_cons, List.take_zero, List.drop_succ_cons, List.drop_zero, List.cons_append, Option.bind_some, Nat.add_zero, Nat.zero_add, List.drop_nil, List.take_nil, Nat.le_refl, Nat.min_self, WO_pure, WO_mem, pureStep, memStep, WC_true, WC_false, WO_guardq, qg, retQ, resOf, resAll, resA, wp_some, kv_ite, km_ite, kv_none, ↓reduceIte, Nat.reduceEqDiff, reduceCtorEq, decide_true, decide_false, Bool.not_true, Bool.not_false, List.map_cons, List.map_nil, List.nil_append, List.append_nil, Option.map_some, Option.map_none, if_true, if_false, true_and, and_true, Int.reduceEq, Int.reduceLT, Int.reduceLE, Int.reduceNeg, Nat.reduceAdd, Nat.reduceLeDiff, Bool.true_eq_false, Bool.false_eq_true, beq_self_eq_true]
      by_cases h128 : 128 ≤ b.toNat
      · have c3 : (128 : Int) ≤ (b.toNat : Int) := by omega
        have e4 : IntKind.i64.wrap ((j : Int) + 1) = ((j + 1 : Nat) : Int) := by rw [w64 (by omega) (by omega)]; omega
        simp only [c3, h0, h9, h10, e4, AV.undef, unA, qs, qb, qe, qi, qp, qm, qh, set_newRow_at, Int.reduceToNat, Nat.reduceMul, List.getElem?_cons_succ, List.getElem?_cons_zero, false_implies, true_implies, forall_const, implies_true, set_newRow_lt, Nat.lt_add_one, Nat.min_eq_left, Nat.le_add_right, qc, fillA, evParts, repCells, wrRow_eq, splice, partA, List.length_cons, List.length_nil, List.take_succ_cons, List.take_zero, List.drop_succ_cons, List.drop_zero, List.cons_append, Option.bind_some, Nat.add_zero, Nat.zero_add, List.drop_nil, List.take_nil, Nat.le_refl, Nat.min_self, WO_pure, WO_mem, pureStep, memStep, WC_true, WC_false, WO_guardq, qg, retQ, resOf, resAll, resA, wp_some, kv_ite, km_ite, kv_none, ↓reduceIte, Nat.reduceEqDiff, reduceCtorEq, decide_true, decide_false, Bool.not_true, Bool.not_false, List.map_cons, List.map_nil, List.nil_append, List.append_nil, Option.map_some, Option.map_none, if_true, if_false, true_and, and_true, Int.reduceEq, Int.reduceLT, Int.reduceLE, Int.reduceNeg, Nat.reduceAdd, Nat.reduceLeDiff, Bool.true_eq_false, Bool.false_eq_true, beq_self_eq_true]
        refine ⟨_, by omega, j + 1, u + (b.toNat - 128) * 128 ^ j, w, rfl, by omega, ?_⟩
        simp only [h0, h9, AV.undef, unA, qs, qb, qe, qi, qp, qm, qh, set_newRow_at, Int.reduceToNat, Nat.reduceMul, List.getElem?_cons_succ, List.getElem?_cons_zero, false_implies, true_implies, forall_const, implies_true, set_newRow_lt, Nat.lt_add_one, Nat.min_eq_left, Nat.le_add_right, qc, fillA, evParts, repCells, wrRow_eq, splice, partA, List.length_cons, List.length_nil, List.take_succ_cons, List.take_zero, List.drop_succ_cons, List.drop_zero, List.cons_append, Option.bind_some, Nat.add_zero, Nat.zero_add, List.drop_nil, List.take_nil, Nat.le_refl, Nat.min_self, WO_pure, WO_mem, pureStep, memStep, WC_true, WC_false, WO_guardq, qg, retQ, resOf, resAll, resA, wp_some, kv_ite, km_ite, kv_none, ↓reduceIte, Nat.reduceEqDiff, reduceCtorEq, decide_true, decide_false, Bool.not_true, Bool.not_false, List.map_cons, List.map_nil, List.nil_append, List.append_nil, Option.map_some, Option.map_none, if_true, if_false, true_and, and_true, Int.reduceEq, Int.reduceLT, Int.reduceLE, Int.reduceNeg, Nat.reduceAdd, Nat.reduceLeDiff, Bool.true_eq_false, Bool.false_eq_true, beq_self_eq_true]
        refine ⟨fun hj9 => ?_, ?_⟩
        · have := hw2 (.inl (by omega))
          have e5 : b.toNat % 128 = b.toNat - 128 := by omega
          rw [e5] at this
          refine ⟨this.1, ?_⟩
          have h6 : (b.toNat - 128) * 128 ^ j ≤ 127 * 128 ^ j := Nat.mul_le_mul_right _ (by omega)
          rw [hpow]; omega
        · rw [← hv, vrL, if_neg (by omega), if_pos h128]
      · have c3 : ¬ (128 : Int) ≤ (b.toNat : Int) := by omega
        have e5 : b.toNat % 128 = b.toNat := by omega
        rw [vrL, if_neg (by omega), if_neg h128] at hv
        rw [e5] at hw2
        by_cases hbad : (b.toNat = 0 ∧ 0 < j) ∨ (j = 9 ∧ 1 < b.toNat)
        · rw [if_pos hbad] at hv
          rw [← hv] at h
          rcases hbad with ⟨hz, hj0⟩ | ⟨hj9, h1⟩
          · have z : (b.toNat : Int) = 0 := by omega
            have z1 : (0 : Int) < (j : Int) := by omega
            simp only [c3, z, z1, AV.undef, unA, qs, qb, qe, qi, qp, qm, qh, set_newRow_at, Int.reduceToNat, Nat.reduceMul, List.getElem?_cons_succ, List.getElem?_cons_zero, false_implies, true_implies, forall_const, implies_true, set_newRow_lt, Nat.lt_add_one, Nat.min_eq_left, Nat.le_add_right, qc, fillA, evParts, repCells, wrRow_eq, splice, partA, List.length_cons, List.length_nil, List.take_succ_cons, List.take_zero, List.drop_succ_cons, List.drop_zero, List.cons_append, Option.bind_some, Nat.add_zero, Nat.zero_add, List.drop_nil, List.take_nil, Nat.le_refl, Nat.min_self, WO_pure, WO_mem, pureStep, memStep, WC_true, WC_false, WO_guardq, qg, retQ, resOf, resAll, resA, wp_some, kv_ite, km_ite, kv_none, ↓reduceIte, Nat.reduceEqDiff, reduceCtorEq, decide_true, decide_false, Bool.not_true, Bool.not_false, List.map_cons, List.map_nil, List.nil_append, List.append_nil, Option.map_some, Option.map_none, if_true, if_false, true_and, and_true, Int.reduceEq, Int.reduceLT, Int.reduceLE, Int.reduceNeg, Nat.reduceAdd, Nat.reduceLeDiff, Bool.true_eq_false, Bool.false_eq_true, beq_self_eq_true]
            exact h
          · have z : ¬ (b.toNat : Int) = 0 := by omega
            have z1 : (j : Int) = 9 := by omega
            have z2 : (1 : Int) < (b.toNat : Int) := by omega
            simp only [c3, z, z1, z2, AV.undef, unA, qs, qb, qe, qi, qp, qm, qh, set_newRow_at, Int.reduceToNat, Nat.reduceMul, List.getElem?_cons_succ, List.getElem?_cons_zero, false_implies, true_implies, forall_const, implies_true, set_newRow_lt, Nat.lt_add_one, Nat.min_eq_left, Nat.le_add_right, qc, fillA, evParts, repCells, wrRow_eq, splice, partA, List.length_cons, List.length_nil, List.take_succ_cons, List.take_zero, List.drop_succ_cons, List.drop_zero, List.cons_append, Option.bind_some, Nat.add_zero, Nat.zero_add, List.drop_nil, List.take_nil, Nat.le_refl, Nat.min_self, WO_pure, WO_mem, pureStep, memStep, WC_true, WC_false, WO_guardq, qg, retQ, resOf, resAll, resA, wp_some, kv_ite, km_ite, kv_none, ↓reduceIte, Nat.reduceEqDiff, reduceCtorEq, decide_true, decide_false, Bool.not_true, Bool.not_false, List.map_cons, List.map_nil, List.nil_append, List.append_nil, Option.map_some, Option.map_none, if_true, if_false, true_and, and_true, Int.reduceEq, Int.reduceLT, Int.reduceLE, Int.reduceNeg, Nat.reduceAdd, Nat.reduceLeDiff, Bool.true_eq_false, Bool.false_eq_true, beq_self_eq_true]
            exact h
        · rw [if_neg hbad] at hv
          rw [← hv] at h
          have hwv := (hw2 (by omega)).1
          have e4 : IntKind.i64.wrap ((j : Int) + 1) = ((j + 1 : Nat) : Int) := by rw [w64 (by omega) (by omega)]; omega
          rw [← hwv] at h
          by_cases hz : b.toNat = 0
          · have z : (b.toNat : Int) = 0 := by omega
            have z1 : ¬ (0 : Int) < (j : Int) := by omega
            have z2 : ¬ (j : Int) = 9 := by omega
            simp only [c3, z, z1, z2, e4, AV.undef, unA, qs, qb, qe, qi, qp, qm, qh, set_newRow_at, Int.reduceToNat, Nat.reduceMul, List.getElem?_cons_succ, List.getElem?_cons_zero, false_implies, true_implies, forall_const, implies_true, set_newRow_lt, Nat.lt_add_one, Nat.min_eq_left, Nat.le_add_right, qc, fillA, evParts, repCells, wrRow_eq, splice, partA, List.length_cons, List.length_nil, List.take_succ_cons, List.take_zero, List.drop_succ_cons, List.drop_zero, List.cons_append, Option.bind_some, Nat.add_zero, Nat.zero_add, List.drop_nil, List.take_nil, Nat.le_refl, Nat.min_self, WO_pure, WO_mem, pureStep, memStep, WC_true, WC_false, WO_guardq, qg, retQ, resOf, resAll, resA, wp_some, kv_ite, km_ite, kv_none, ↓reduceIte, Nat.reduceEqDiff, reduceCtorEq, decide_true, decide_false, Bool.not_true, Bool.not_false, List.map_cons, List.map_nil, List.nil_append, List.append_nil, Option.map_some, Option.map_none, if_true, if_false, true_and, and_true, Int.reduceEq, Int.reduceLT, Int.reduceLE, Int.reduceNeg, Nat.reduceAdd, Nat.reduceLeDiff, Bool.true_eq_false, Bool.false_eq_true, beq_self_eq_true]
            exact h
          · have z : ¬ (b.toNat : Int) = 0 := by omega
            by_cases hj9 : j = 9
            · have z1 : (j : Int) = 9 := by omega
              have z2 : ¬ (1 : Int) < (b.toNat : Int) := by omega
              rw [z1] at e4
              simp only [c3, z, z1, z2, e4, AV.undef, unA, qs, qb, qe, qi, qp, qm, qh, set_newRow_at, Int.reduceToNat, Nat.reduceMul, List.getElem?_cons_succ, List.getElem?_cons_zero, false_implies, true_implies, forall_const, implies_true, set_newRow_lt, Nat.lt_add_one, Nat.min_eq_left, Nat.le_add_right, qc, fillA, evParts, repCells, wrRow_eq, splice, partA, List.length_cons, List.length_nil, List.take_succ_cons, List.take_zero, List.drop_succ_cons, List.drop_zero, List.cons_append, Option.bind_some, Nat.add_zero, Nat.zero_add, List.drop_nil, List.take_nil, Nat.le_refl, Nat.min_self, WO_pure, WO_mem, pureStep, memStep, WC_true, WC_false, WO_guardq, qg, retQ, resOf, resAll, resA, wp_some, kv_ite, km_ite, kv_none, ↓reduceIte, Nat.reduceEqDiff, reduceCtorEq, decide_true, decide_false, Bool.not_true, Bool.not_false, List.map_cons, List.map_nil, List.nil_append, List.append_nil, Option.map_some, Option.map_none, if_true, if_false, true_and, and_true, Int.reduceEq, Int.reduceLT, Int.reduceLE, Int.reduceNeg, Nat.reduceAdd, Nat.reduceLeDiff, Bool.true_eq_false, Bool.false_eq_true, beq_self_eq_true]
              exact h
            · have z1 : ¬ (j : Int) = 9 := by omega
              simp only [c3, z, z1, e4, AV.undef, unA, qs, qb, qe, qi, qp, qm, qh, set_newRow_at, Int.reduceToNat, Nat.reduceMul, List.getElem?_cons_succ, List.getElem?_cons_zero, false_implies, true_implies, forall_const, implies_true, set_newRow_lt, Nat.lt_add_one, Nat.min_eq_left, Nat.le_add_right, qc, fillA, evParts, repCells, wrRow_eq, splice, partA, List.length_cons, List.length_nil, List.take_succ_cons, List.take_zero, List.drop_succ_cons, List.drop_zero, List.cons_append, Option.bind_some, Nat.add_zero, Nat.zero_add, List.drop_nil, List.take_nil, Nat.le_refl, Nat.min_self, WO_pure, WO_mem, pureStep, memStep, WC_true, WC_false, WO_guardq, qg, retQ, resOf, resAll, resA, wp_some, kv_ite, km_ite, kv_none, ↓reduceIte, Nat.reduceEqDiff, reduceCtorEq, decide_true, decide_false, Bool.not_true, Bool.not_false, List.map_cons, List.map_nil, List.nil_append, List.append_nil, Option.map_some, Option.map_none, if_true, if_false, true_and, and_true, Int.reduceEq, Int.reduceLT, Int.reduceLE, Int.reduceNeg, Nat.reduceAdd, Nat.reduceLeDiff, Bool.true_eq_false, Bool.false_eq_true, beq_self_eq_true]
              exact h
    · have c1 : ¬ (j : Int) < ((min bs.length 10 : Nat) : Int) := by omega
      have e : vrL bs 0 0 = none := by
        rw [← hv]
        by_cases hl : bs.length ≤ j
        · rw [List.drop_eq_nil_of_le hl]; rfl
        · have : j = 10 := by omega
          subst this
          cases bs.drop 10 with
          | nil => rfl
          | cons x r => simp [vrL]
      rw [e] at h
      simp only [h0, h9, h10, h4, c1, AV.undef, unA, qs, qb, qe, qi, qp, qm, qh, set_newRow_at, Int.reduceToNat, Nat.reduceMul, List.getElem?_cons_succ, List.getElem?_cons_zero, false_implies, true_implies, forall_const, implies_true, set_newRow_lt, Nat.lt_add_one, Nat.min_eq_left, Nat.le_add_right, qc, fillA, evParts, repCells, wrRow_eq, splice, partA, List.length_cons, List.length_nil, List.take_succ_cons, List.take_zero, List.drop_succ_cons, List.drop_zero, List.cons_append, Option.bind_some, Nat.add_zero, Nat.zero_add, List.drop_nil, List.take_nil, Nat.le_refl, Nat.min_self, WO_pure, WO_mem, pureStep, memStep, WC_true, WC_false, WO_guardq, qg, retQ, resOf, resAll, resA, wp_some, kv_ite, km_ite, kv_none, ↓reduceIte, Nat.reduceEqDiff, reduceCtorEq, decide_true, decide_false, Bool.not_true, Bool.not_false, List.map_cons, List.map_nil, List.nil_append, List.append_nil, Option.map_some, Option.map_none, if_true, if_false, true_and, and_true, Int.reduceEq, Int.reduceLT, Int.reduceLE, Int.reduceNeg, Nat.reduceAdd, Nat.reduceLeDiff, Bool.true_eq_false, Bool.false_eq_true, beq_self_eq_true]
      exact h
  · exact ⟨rfl, rfl, rfl, rfl, fun _ => ⟨rfl, by decide⟩, by rw [List.drop_zero], rfl, rfl⟩
end Go.Proofs.Qq.Qqd

namespace Go.Proofs.Qq.Qqd
open Go.Proofs.Qq

theorem vrL_pos : ∀ (bs : List UInt8) (i acc v n : Nat), vrL bs i acc = some (v, n) → i < n ∧ n ≤ i + bs.length
  | [], i, acc, v, n, h => by simp [vrL] at h
  | b :: r, i, acc, v, n, h => by
    rw [vrL] at h
    split at h
    · cases h
    · split at h
      · have := vrL_pos r _ _ _ _ h
        simp only [List.length_cons]; omega
      · split at h
        · cases h
        · simp only [Option.some.injEq, Prod.mk.injEq] at h
          simp only [List.length_cons]; omega

theorem vrL_lt : ∀ (bs : List UInt8) (i acc v n : Nat), acc < 128 ^ i → vrL bs i acc = some (v, n) → v < 18446744073709551616
  | [], i, acc, v, n, _, h => by simp [vrL] at h
  | b :: r, i, acc, v, n, ha, h => by
    have hb : b.toNat < 256 := b.toNat_lt
    rw [vrL] at h
    split at h
    · cases h
    · rename_i hi
      split at h
      · refine vrL_lt r _ _ _ _ ?_ h
        have h6 : (b.toNat - 128) * 128 ^ i ≤ 127 * 128 ^ i := Nat.mul_le_mul_right _ (by omega)
        rw [Nat.pow_succ]; omega
      · rename_i h128
        split at h
        · cases h
        · rename_i hbad
          simp only [Option.some.injEq, Prod.mk.injEq] at h
          rw [← h.1]
          by_cases hc : i ≤ 8
          · have h1 : 128 ^ i ≤ 128 ^ 8 := Nat.pow_le_pow_right (by decide) hc
            have h2 : b.toNat * 128 ^ i ≤ 127 * 128 ^ 8 := Nat.mul_le_mul (by omega) h1
            have h3 : (128 : Nat) ^ 8 = 72057594037927936 := by decide
            omega
          · have h1 : 128 ^ i ≤ 128 ^ 9 := Nat.pow_le_pow_right (by decide) (by omega)
            have h2 : b.toNat * 128 ^ i ≤ 1 * 128 ^ 9 := Nat.mul_le_mul (by omega) h1
            have h3 : (128 : Nat) ^ 9 = 9223372036854775808 := by decide
            omega

/-- What reading a number at a place comes to: the number, the place behind, whether it is none. -/
def rdU (bs : List UInt8) (at_ : Int) : Nat × Int × Int :=
  if at_ < 0 ∨ (bs.length : Int) < at_ then (0, at_, 2)
  else match vrL (bs.drop at_.toNat) 0 0 with
    | some (v, n) => (v, at_ + n, 0)
    | none => (0, at_, 2)

set_option maxHeartbeats 4000000 in
/-- pack.read -/
theorem run87 (bs : List UInt8) (hlen : bs.length ≤ 9223372036854775807) (a : Option (Nat × Nat)) (c : Option Nat) (H : AHeap) (ha : At H a (bytesA bs)) (hc : ∀ k, c = some k → bs.length ≤ k) (p : Int) (Q : AV → AHeap → Nat → Prop)
    (h : Q (.tup [.int .u64 (rdU bs p).1, .int .i64 (rdU bs p).2.1, .int .i64 (rdU bs p).2.2]) H H.length) : WF T 87 [.slice a bs.length c, .int .i64 p] H Q := by
  refine (WF_code (fn := a87) rfl _ _ _).2 ?_
  unfold rdU at h
  by_cases h1 : p < 0
  · rw [if_pos (.inl h1)] at h
    simp only [a87, h1, AV.undef, unA, qs, qb, qe, qi, qp, qm, qh, set_newRow_at, Int.reduceToNat, Nat.reduceMul, List.getElem?_cons_succ, List.getElem?_cons_zero, false_implies, true_implies, forall_const, implies_true, set_newRow_lt, Nat.lt_add_one, Nat.min_eq_left, Nat.le_add_right, qc, fillA, evParts, repCells, wrRow_eq, splice, partA, List.length_cons, List.length_nil, List.take_succ_cons, List.take_zero, List.drop_succ_cons, List.drop_zero, List.cons_append, Option.bind_some, Nat.add_zero, Nat.zero_add, List.drop_nil, List.take_nil, Nat.le_refl, Nat.min_self, WO_pure, WO_mem, pureStep, memStep, WC_true, WC_false, WO_guardq, qg, retQ, resOf, resAll, resA, wp_some, kv_ite, km_ite, kv_none, ↓reduceIte, Nat.reduceEqDiff, reduceCtorEq, decide_true, decide_false, Bool.not_true, Bool.not_false, List.map_cons, List.map_nil, List.nil_append, List.append_nil, Option.map_some, Option.map_none, if_true, if_false, true_and, and_true, Int.reduceEq, Int.reduceLT, Int.reduceLE, Int.reduceNeg, Nat.reduceAdd, Nat.reduceLeDiff, Bool.true_eq_false, Bool.false_eq_true, beq_self_eq_true]
    exact h
  by_cases h2 : (bs.length : Int) < p
  · rw [if_pos (.inr h2)] at h
    simp only [a87, h1, h2, AV.undef, unA, qs, qb, qe, qi, qp, qm, qh, set_newRow_at, Int.reduceToNat, Nat.reduceMul, List.getElem?_cons_succ, List.getElem?_cons_zero, false_implies, true_implies, forall_const, implies_true, set_newRow_lt, Nat.lt_add_one, Nat.min_eq_left, Nat.le_add_right, qc, fillA, evParts, repCells, wrRow_eq, splice, partA, List.length_cons, List.length_nil, List.take_succ_cons, List.take_zero, List.drop_succ_cons, List.drop_zero, List.cons_append, Option.bind_some, Nat.add_zero, Nat.zero_add, List.drop_nil, List.take_nil, Nat.le_refl, Nat.min_self, WO_pure, WO_mem, pureStep, memStep, WC_true, WC_false, WO_guardq, qg, retQ, resOf, resAll, resA, wp_some, kv_ite, km_ite, kv_none, ↓reduceIte, Nat.reduceEqDiff, reduceCtorEq, decide_true, decide_false, Bool.not_true, Bool.not_false, List.map_cons, List.map_nil, List.nil_append, List.append_nil, Option.map_some, Option.map_none, if_true, if_false, true_and, and_true, Int.reduceEq, Int.reduceLT, Int.reduceLE, Int.reduceNeg, Nat.reduceAdd, Nat.reduceLeDiff, Bool.true_eq_false, Bool.false_eq_true, beq_self_eq_true]
    exact h
  rw [if_neg (by omega)] at h
  obtain ⟨l, rfl⟩ : ∃ l : Nat, p = l := ⟨p.toNat, by omega⟩
  obtain ⟨a', c', hs, hat, hc'⟩ := slice_rest ha (c := c) (l := l) (by simpa [bytesA_len] using hc) (by rw [bytesA_len]; omega) .i64
  rw [bytesA_len] at hs hc'
  rw [bytesA_drop] at hat
  have hdl : bs.length - l = (bs.drop l).length := by simp
  rw [hdl] at hs
  rw [Int.toNat_natCast] at h
  simp only [a87, h1, h2, hs, AV.undef, unA, qs, qb, qe, qi, qp, qm, qh, set_newRow_at, Int.reduceToNat, Nat.reduceMul, List.getElem?_cons_succ, List.getElem?_cons_zero, false_implies, true_implies, forall_const, implies_true, set_newRow_lt, Nat.lt_add_one, Nat.min_eq_left, Nat.le_add_right, qc, fillA, evParts, repCells, wrRow_eq, splice, partA, List.length_cons, List.length_nil, List.take_succ_cons, List.take_zero, List.drop_succ_cons, List.drop_zero, List.cons_append, Option.bind_some, Nat.add_zero, Nat.zero_add, List.drop_nil, List.take_nil, Nat.le_refl, Nat.min_self, WO_pure, WO_mem, pureStep, memStep, WC_true, WC_false, WO_guardq, qg, retQ, resOf, resAll, resA, wp_some, kv_ite, km_ite, kv_none, ↓reduceIte, Nat.reduceEqDiff, reduceCtorEq, decide_true, decide_false, Bool.not_true, Bool.not_false, List.map_cons, List.map_nil, List.nil_append, List.append_nil, Option.map_some, Option.map_none, if_true, if_false, true_and, and_true, Int.reduceEq, Int.reduceLT, Int.reduceLE, Int.reduceNeg, Nat.reduceAdd, Nat.reduceLeDiff, Bool.true_eq_false, Bool.false_eq_true, beq_self_eq_true]
  refine WO_call rfl (run113 (bs.drop l) (by rw [List.length_drop]; omega) a' c' H hat _ ?_)
  cases hv : vrL (bs.drop l) 0 0 with
  | none =>
    rw [hv] at h
    simp only [vrOut, AV.undef, unA, qs, qb, qe, qi, qp, qm, qh, set_newRow_at, Int.reduceToNat, Nat.reduceMul, List.getElem?_cons_succ, List.getElem?_cons_zero, false_implies, true_implies, forall_const, implies_true, set_newRow_lt, Nat.lt_add_one, Nat.min_eq_left, Nat.le_add_right, qc, fillA, evParts, repCells, wrRow_eq, splice, partA, List.length_cons, List.length_nil, List.take_succ_cons, List.take_zero, List.drop_succ_cons, List.drop_zero, List.cons_append, Option.bind_some, Nat.add_zero, Nat.zero_add, List.drop_nil, List.take_nil, Nat.le_refl, Nat.min_self, WO_pure, WO_mem, pureStep, memStep, WC_true, WC_false, WO_guardq, qg, retQ, resOf, resAll, resA, wp_some, kv_ite, km_ite, kv_none, ↓reduceIte, Nat.reduceEqDiff, reduceCtorEq, decide_true, decide_false, Bool.not_true, Bool.not_false, List.map_cons, List.map_nil, List.nil_append, List.append_nil, Option.map_some, Option.map_none, if_true, if_false, true_and, and_true, Int.reduceEq, Int.reduceLT, Int.reduceLE, Int.reduceNeg, Nat.reduceAdd, Nat.reduceLeDiff, Bool.true_eq_false, Bool.false_eq_true, beq_self_eq_true]
    exact h
  | some r =>
    obtain ⟨v, n⟩ := r
    rw [hv] at h
    have hp := vrL_pos _ _ _ _ _ hv
    rw [List.length_drop] at hp
    have z : ¬ (n : Int) = 0 := by omega
    have e4 : IntKind.i64.wrap ((l : Int) + (n : Int)) = (l : Int) + (n : Int) := w64 (by omega) (by omega)
    simp only [vrOut, z, e4, AV.undef, unA, qs, qb, qe, qi, qp, qm, qh, set_newRow_at, Int.reduceToNat, Nat.reduceMul, List.getElem?_cons_succ, List.getElem?_cons_zero, false_implies, true_implies, forall_const, implies_true, set_newRow_lt, Nat.lt_add_one, Nat.min_eq_left, Nat.le_add_right, qc, fillA, evParts, repCells, wrRow_eq, splice, partA, List.length_cons, List.length_nil, List.take_succ_cons, List.take_zero, List.drop_succ_cons, List.drop_zero, List.cons_append, Option.bind_some, Nat.add_zero, Nat.zero_add, List.drop_nil, List.take_nil, Nat.le_refl, Nat.min_self, WO_pure, WO_mem, pureStep, memStep, WC_true, WC_false, WO_guardq, qg, retQ, resOf, resAll, resA, wp_some, kv_ite, km_ite, kv_none, ↓reduceIte, Nat.reduceEqDiff, reduceCtorEq, decide_true, decide_false, Bool.not_true, Bool.not_false, List.map_cons, List.map_nil, List.nil_append, List.append_nil, Option.map_some, Option.map_none, if_true, if_false, true_and, and_true, Int.reduceEq, Int.reduceLT, Int.reduceLE, Int.reduceNeg, Nat.reduceAdd, Nat.reduceLeDiff, Bool.true_eq_false, Bool.false_eq_true, beq_self_eq_true]
    exact h
end Go.Proofs.Qq.Qqd

namespace Go.Proofs.Qq.Qqd
open Go.Proofs.Qq

theorem rdU_lt (bs : List UInt8) (p : Int) : (rdU bs p).1 < 18446744073709551616 := by
  unfold rdU
  split
  · simp
  · cases h : vrL (bs.drop p.toNat) 0 0 with
    | none => simp
    | some r =>
      obtain ⟨v, n⟩ := r
      exact vrL_lt _ _ _ _ _ (by decide) h

set_option maxHeartbeats 4000000 in
/-- pack.ReadInt -/
theorem run55 (bs : List UInt8) (hlen : bs.length ≤ 9223372036854775807) (a : Option (Nat × Nat)) (c : Option Nat) (H : AHeap) (ha : At H a (bytesA bs)) (hc : ∀ k, c = some k → bs.length ≤ k) (p : Int) (Q : AV → AHeap → Nat → Prop)
    (h : Q (.tup [.int .i64 (zag (rdU bs p).1), .int .i64 (rdU bs p).2.1, .int .i64 (rdU bs p).2.2]) H H.length) : WF T 55 [.slice a bs.length c, .int .i64 p] H Q := by
  refine (WF_code (fn := a55) rfl _ _ _).2 ?_
  simp only [a55, AV.undef, unA, qs, qb, qe, qi, qp, qm, qh, set_newRow_at, Int.reduceToNat, Nat.reduceMul, List.getElem?_cons_succ, List.getElem?_cons_zero, false_implies, true_implies, forall_const, implies_true, set_newRow_lt, Nat.lt_add_one, Nat.min_eq_left, Nat.le_add_right, qc, fillA, evParts, repCells, wrRow_eq, splice, partA, List.length_cons, List.length_nil, List.take_succ_cons, List.take_zero, List.drop_succ_cons, List.drop_zero, List.cons_append, Option.bind_some, Nat.add_zero, Nat.zero_add, List.drop_nil, List.take_nil, Nat.le_refl, Nat.min_self, WO_pure, WO_mem, pureStep, memStep, WC_true, WC_false, WO_guardq, qg, retQ, resOf, resAll, resA, wp_some, kv_ite, km_ite, kv_none, ↓reduceIte, Nat.reduceEqDiff, reduceCtorEq, decide_true, decide_false, Bool.not_true, Bool.not_false, List.map_cons, List.map_nil, List.nil_append, List.append_nil, Option.map_some, Option.map_none, if_true, if_false, true_and, and_true, Int.reduceEq, Int.reduceLT, Int.reduceLE, Int.reduceNeg, Nat.reduceAdd, Nat.reduceLeDiff, Bool.true_eq_false, Bool.false_eq_true, beq_self_eq_true]
  refine WO_call rfl (run87 bs hlen a c H ha hc p _ ?_)
  simp only [AV.undef, unA, qs, qb, qe, qi, qp, qm, qh, set_newRow_at, Int.reduceToNat, Nat.reduceMul, List.getElem?_cons_succ, List.getElem?_cons_zero, false_implies, true_implies, forall_const, implies_true, set_newRow_lt, Nat.lt_add_one, Nat.min_eq_left, Nat.le_add_right, qc, fillA, evParts, repCells, wrRow_eq, splice, partA, List.length_cons, List.length_nil, List.take_succ_cons, List.take_zero, List.drop_succ_cons, List.drop_zero, List.cons_append, Option.bind_some, Nat.add_zero, Nat.zero_add, List.drop_nil, List.take_nil, Nat.le_refl, Nat.min_self, WO_pure, WO_mem, pureStep, memStep, WC_true, WC_false, WO_guardq, qg, retQ, resOf, resAll, resA, wp_some, kv_ite, km_ite, kv_none, ↓reduceIte, Nat.reduceEqDiff, reduceCtorEq, decide_true, decide_false, Bool.not_true, Bool.not_false, List.map_cons, List.map_nil, List.nil_append, List.append_nil, Option.map_some, Option.map_none, if_true, if_false, true_and, and_true, Int.reduceEq, Int.reduceLT, Int.reduceLE, Int.reduceNeg, Nat.reduceAdd, Nat.reduceLeDiff, Bool.true_eq_false, Bool.false_eq_true, beq_self_eq_true]
  refine WO_call rfl (run88 _ (rdU_lt bs p) H _ ?_)
  simp only [AV.undef, unA, qs, qb, qe, qi, qp, qm, qh, set_newRow_at, Int.reduceToNat, Nat.reduceMul, List.getElem?_cons_succ, List.getElem?_cons_zero, false_implies, true_implies, forall_const, implies_true, set_newRow_lt, Nat.lt_add_one, Nat.min_eq_left, Nat.le_add_right, qc, fillA, evParts, repCells, wrRow_eq, splice, partA, List.length_cons, List.length_nil, List.take_succ_cons, List.take_zero, List.drop_succ_cons, List.drop_zero, List.cons_append, Option.bind_some, Nat.add_zero, Nat.zero_add, List.drop_nil, List.take_nil, Nat.le_refl, Nat.min_self, WO_pure, WO_mem, pureStep, memStep, WC_true, WC_false, WO_guardq, qg, retQ, resOf, resAll, resA, wp_some, kv_ite, km_ite, kv_none, ↓reduceIte, Nat.reduceEqDiff, reduceCtorEq, decide_true, decide_false, Bool.not_true, Bool.not_false, List.map_cons, List.map_nil, List.nil_append, List.append_nil, Option.map_some, Option.map_none, if_true, if_false, true_and, and_true, Int.reduceEq, Int.reduceLT, Int.reduceLE, Int.reduceNeg, Nat.reduceAdd, Nat.reduceLeDiff, Bool.true_eq_false, Bool.false_eq_true, beq_self_eq_true]
  exact h

/-- Groups of seven bits, the lowest first. -/
def hsum : List UInt8 → Nat
  | [] => 0
  | x :: xs => x.toNat % 128 + 128 * hsum xs

theorem hsum_app (b : UInt8) : ∀ l : List UInt8, hsum (l ++ [b]) = hsum l + (b.toNat % 128) * 128 ^ l.length
  | [] => by simp [hsum]
  | x :: xs => by
    rw [List.cons_append, hsum, hsum_app b xs, hsum, List.length_cons, Nat.pow_succ, Nat.mul_add, Nat.add_assoc]
    congr 1
    rw [Nat.mul_comm (128 ^ xs.length) 128, ← Nat.mul_assoc, ← Nat.mul_assoc, Nat.mul_comm 128 (b.toNat % 128)]

theorem vrL_run (rest : List UInt8) : ∀ (pre : List UInt8) (i acc : Nat), (∀ x, x ∈ pre → 128 ≤ x.toNat) → i + pre.length ≤ 10 → vrL (pre ++ rest) i acc = vrL rest (i + pre.length) (acc + 128 ^ i * hsum pre)
  | [], i, acc, _, _ => by simp [hsum]
  | x :: xs, i, acc, h, hl => by
    have hx := h x List.mem_cons_self
    have h256 : x.toNat < 256 := x.toNat_lt
    simp only [List.length_cons] at hl
    rw [List.cons_append, vrL, if_neg (by omega), if_pos hx, vrL_run rest xs (i + 1) _ (fun y hy => h y (List.mem_cons_of_mem _ hy)) (by omega), hsum, List.length_cons]
    have e1 : x.toNat % 128 = x.toNat - 128 := by omega
    rw [e1, Nat.pow_succ, Nat.mul_add, Nat.mul_comm (128 ^ i) (x.toNat - 128), Nat.mul_assoc (128 ^ i)]
    congr 1
    · omega
    · rw [Nat.add_assoc]

theorem vrL_long (rest : List UInt8) : ∀ (pre : List UInt8) (i acc : Nat), (∀ x, x ∈ pre → 128 ≤ x.toNat) → 10 < i + pre.length → vrL (pre ++ rest) i acc = none ∨ pre = []
  | [], i, acc, _, _ => .inr rfl
  | x :: xs, i, acc, h, hl => by
    left
    simp only [List.length_cons] at hl
    rw [List.cons_append, vrL]
    by_cases h10 : 10 ≤ i
    · rw [if_pos h10]
    · rw [if_neg h10, if_pos (h x List.mem_cons_self)]
      rcases vrL_long rest xs (i + 1) (acc + (x.toNat - 128) * 128 ^ i) (fun y hy => h y (List.mem_cons_of_mem _ hy)) (by omega) with h1 | h1
      · exact h1
      · subst h1; simp at hl; omega

/-- A number's bytes: those that go on, and the last. -/
theorem vrL_parts (pre : List UInt8) (b : UInt8) (rest : List UInt8) (h : ∀ x, x ∈ pre → 128 ≤ x.toNat) (hb : b.toNat < 128) :
    vrL (pre ++ b :: rest) 0 0 = if 9 < pre.length ∨ (0 < pre.length ∧ b.toNat = 0) ∨ (pre.length = 9 ∧ 1 < b.toNat) then none else some (hsum (pre ++ [b]), pre.length + 1) := by
  by_cases hl : pre.length ≤ 10
  · rw [vrL_run _ pre 0 0 h (by omega), vrL]
    simp only [Nat.zero_add, Nat.pow_zero, Nat.one_mul]
    by_cases h9 : 10 ≤ pre.length
    · rw [if_pos h9, if_pos (by omega)]
    · rw [if_neg h9, if_neg (by omega)]
      by_cases hbad : (b.toNat = 0 ∧ 0 < pre.length) ∨ (pre.length = 9 ∧ 1 < b.toNat)
      · rw [if_pos hbad, if_pos (by omega)]
      · rw [if_neg hbad, if_neg (by omega), hsum_app, Nat.mod_eq_of_lt hb]
  · rw [if_pos (by omega)]
    rcases vrL_long (b :: rest) pre 0 0 h (by omega) with h1 | h1
    · exact h1
    · subst h1; simp at hl

theorem vrL_none : ∀ (l : List UInt8) (i acc : Nat), (∀ x, x ∈ l → 128 ≤ x.toNat) → vrL l i acc = none
  | [], _, _, _ => rfl
  | x :: xs, i, acc, h => by
    rw [vrL]
    split
    · rfl
    · rw [if_pos (h x List.mem_cons_self)]; exact vrL_none xs _ _ (fun y hy => h y (List.mem_cons_of_mem _ hy))

/-- Where the groups that go on end. -/
def Goes (bs : List UInt8) (l i : Nat) : Prop := ∀ k, l ≤ k → k < i → ∃ b, bs[k]? = some b ∧ 128 ≤ b.toNat

def ScanInv (bs : List UInt8) (a : Option (Nat × Nat)) (c : Option Nat) (H : AHeap) (l n : Nat) (s : AS) : Prop :=
  ∃ i : Nat, n = bs.length - i ∧ l ≤ i ∧ (i ≤ bs.length ∨ i = l) ∧ s.env 0 = .slice a bs.length c ∧ s.env 1 = .int .i64 (l : Int) ∧ s.env 7 = .int .i64 (i : Int) ∧ Goes bs l i ∧ s.heap = H ∧ s.low = H.length

def HornInv (bs ws : List UInt8) (a : Option (Nat × Nat)) (c : Option Nat) (H : AHeap) (l i n : Nat) (s : AS) : Prop :=
  ∃ j : Nat, n = j ∧ l ≤ j ∧ j ≤ i + 1 ∧ s.env 0 = .slice a bs.length c ∧ s.env 1 = .int .i64 (l : Int) ∧ s.env 7 = .int .i64 (i : Int) ∧ s.env 9 = .int .i64 ((j : Int) - 1) ∧
    s.env 8 = .int .u64 ((hsum (ws.drop (j - l)) : Nat) : Int) ∧ s.heap = H ∧ s.low = H.length

theorem hsum_drop : ∀ (xs : List UInt8) (k : Nat), hsum (xs.drop k) ≤ hsum xs
  | [], k => by simp
  | x :: xs, 0 => by simp
  | x :: xs, k + 1 => by
    rw [List.drop_succ_cons, hsum]
    have := hsum_drop xs k
    omega

/-- Parts of code. -/
def lc : ACode → ACode
  | .seq a _ => a
  | .block _ b => b
  | c => c
def rc : ACode → ACode
  | .seq _ b => b
  | c => c

set_option maxHeartbeats 8000000 in
/-- barrowref03.read's second loop, and what stands behind it. -/
theorem horn86 (bs ws : List UInt8) (a : Option (Nat × Nat)) (c : Option Nat) (H : AHeap) (ha : At H a (bytesA bs)) (l i : Nat) (hi : i < bs.length) (hli : l ≤ i) (hw : ws = (bs.drop l).take (i + 1 - l)) (hlen : bs.length ≤ 9223372036854775806)
    (hV : hsum ws < 18446744073709551616) (Q : AV → AHeap → Nat → Prop) (h : Q (.tup [.int .u64 ((hsum ws : Nat) : Int), .int .i64 ((i : Int) + 1), .bool true]) H H.length)
    (e : Env) (k0 : e 0 = .slice a bs.length c) (k1 : e 1 = .int .i64 (l : Int)) (k7 : e 7 = .int .i64 (i : Int)) (k9 : e 9 = .int .i64 (i : Int)) (k8 : e 8 = .int .u64 0) :
    WC T (lc (rc (lc (rc (rc (rc (rc (rc (rc a86.body))))))))) ⟨e, H, H.length⟩ (blkQ 2 (seqQ T (rc (rc (rc (rc (rc (rc (rc a86.body))))))) (retQ a86.results Q))) := by
  have hwl : ws.length = i + 1 - l := by rw [hw, List.length_take, List.length_drop]; omega
  refine WC_loop (HornInv bs ws a c H l i) ?_ (i + 1) _ ⟨i + 1, rfl, by omega, by omega, k0, k1, k7, ?_, ?_, rfl, rfl⟩
  · rintro n ⟨e2, H2, lw2⟩ ⟨j, hn2, hlj, hji, k0, k1, k7, k9, k8, kH, kL⟩
    simp only [] at k0 k1 k7 k9 k8 kH kL
    subst kH; subst kL
    by_cases hgt : l < j
    · obtain ⟨b, hb⟩ : ∃ b, bs[j - 1]? = some b := ⟨bs[j - 1]'(by omega), List.getElem?_eq_getElem (by omega)⟩
      obtain ⟨ri, ro, rfl⟩ := ha.some_of (j := j - 1) (by rw [bytesA_len]; omega)
      have hld := ha.load (bytesA_get hb)
      have hb256 : b.toNat < 256 := b.toNat_lt
      have q1 : (l : Int) ≤ (j : Int) - 1 := by omega
      have q2 : (0 : Int) ≤ (j : Int) - 1 ∧ (j : Int) - 1 < (bs.length : Int) := by omega
      have q3 : ((j : Int) - 1).toNat = j - 1 := by omega
      have q4 : IntKind.i64.wrap ((j : Int) - 1 - 1) = ((j - 1 : Nat) : Int) - 1 := by rw [w64 (by omega) (by omega)]; omega
      have hx : ws.drop (j - 1 - l) = b :: ws.drop (j - l) := by
        have hlt : j - 1 - l < ws.length := by omega
        rw [List.drop_eq_getElem_cons hlt, show j - 1 - l + 1 = j - l by omega]
        congr 1
        have : ws[j - 1 - l]? = some b := by
          rw [hw, List.getElem?_take, if_pos (by omega), List.getElem?_drop, show l + (j - 1 - l) = j - 1 by omega]; exact hb
        rw [List.getElem?_eq_getElem hlt] at this; exact Option.some.inj this
      have hle := hsum_drop ws (j - 1 - l)
      have hs1 : hsum (ws.drop (j - 1 - l)) = b.toNat % 128 + 128 * hsum (ws.drop (j - l)) := by rw [hx, hsum]
      have q5 : IntKind.u64.wrap (128 * ((hsum (ws.drop (j - l)) : Nat) : Int)) = 128 * ((hsum (ws.drop (j - l)) : Nat) : Int) := wu64 (by omega) (by omega)
      have q6 : (b.toNat : Int).tmod 128 = ((b.toNat % 128 : Nat) : Int) := rfl
      have q7 : IntKind.u64.wrap ((b.toNat % 128 : Nat) : Int) = ((b.toNat % 128 : Nat) : Int) := wu64 (by omega) (by omega)
      have q8 : IntKind.u64.wrap (128 * ((hsum (ws.drop (j - l)) : Nat) : Int) + ((b.toNat % 128 : Nat) : Int)) = ((hsum (ws.drop (j - 1 - l)) : Nat) : Int) := by rw [wu64 (by omega) (by omega)]; omega
      simp only [a86, lc, rc, k0, k1, k7, k9, k8, q1, q2, q3, q4, q5, q6, q7, q8, hld, AV.undef, unA, qs, qb, qe, qi, qp, qm, qh, set_newRow_at, Int.reduceToNat, Nat.reduceMul, List.getElem?_cons_succ, List.getElem?_cons_zero, false_implies, true_implies, forall_const, implies_true, set_newRow_lt, Nat.lt_add_one, Nat.min_eq_left, Nat.le_add_right, qc, fillA, evParts, repCells, wrRow_eq, splice, partA, List.length_cons, List.length_nil, List.take_succ_cons, List.take_zero, List.drop_succ_cons, List.drop_zero, List.cons_append, Option.bind_some, Nat.add_zero, Nat.zero_add, List.drop_nil, List.take_nil, Nat.le_refl, Nat.min_self, WO_pure, WO_mem, pureStep, memStep, WC_true, WC_false, WO_guardq, qg, retQ, resOf, resAll, resA, wp_some, kv_ite, km_ite, kv_none, ↓reduceIte, Nat.reduceEqDiff, reduceCtorEq, decide_true, decide_false, Bool.not_true, Bool.not_false, List.map_cons, List.map_nil, List.nil_append, List.append_nil, Option.map_some, Option.map_none, if_true, if_false, true_and, and_true, Int.reduceEq, Int.reduceLT, Int.reduceLE, Int.reduceNeg, Nat.reduceAdd, Nat.reduceLeDiff, Bool.true_eq_false, Bool.false_eq_true, beq_self_eq_true]
      refine ⟨_, by omega, j - 1, rfl, by omega, by omega, ?_, ?_, ?_, ?_, ?_, rfl, rfl⟩ <;> simp only [k0, k1, k7, AV.undef, unA, qs, qb, qe, qi, qp, qm, qh, set_newRow_at, Int.reduceToNat, Nat.reduceMul, List.getElem?_cons_succ, List.getElem?_cons_zero, false_implies, true_implies, forall_const, implies_true, set_newRow_lt, Nat.lt_add_one, Nat.min_eq_left, Nat.le_add_right, qc, fillA, evParts, repCells, wrRow_eq, splice, partA, List.length_cons, List.length_nil, List.take_succ_cons, List.take_zero, List.drop_succ_cons, List.drop_zero, List.cons_append, Option.bind_some, Nat.add_zero, Nat.zero_add, List.drop_nil, List.take_nil, Nat.le_refl, Nat.min_self, WO_pure, WO_mem, pureStep, memStep, WC_true, WC_false, WO_guardq, qg, retQ, resOf, resAll, resA, wp_some, kv_ite, km_ite, kv_none, ↓reduceIte, Nat.reduceEqDiff, reduceCtorEq, decide_true, decide_false, Bool.not_true, Bool.not_false, List.map_cons, List.map_nil, List.nil_append, List.append_nil, Option.map_some, Option.map_none, if_true, if_false, true_and, and_true, Int.reduceEq, Int.reduceLT, Int.reduceLE, Int.reduceNeg, Nat.reduceAdd, Nat.reduceLeDiff, Bool.true_eq_false, Bool.false_eq_true, beq_self_eq_true]
    · have hjl : j = l := by omega
      subst hjl
      have q1 : ¬ (j : Int) ≤ (j : Int) - 1 := by omega
      have q4 : IntKind.i64.wrap ((i : Int) + 1) = (i : Int) + 1 := w64 (by omega) (by omega)
      rw [Nat.sub_self, List.drop_zero] at k8
      simp only [a86, lc, rc, k0, k1, k7, k9, k8, q1, q4, AV.undef, unA, qs, qb, qe, qi, qp, qm, qh, set_newRow_at, Int.reduceToNat, Nat.reduceMul, List.getElem?_cons_succ, List.getElem?_cons_zero, false_implies, true_implies, forall_const, implies_true, set_newRow_lt, Nat.lt_add_one, Nat.min_eq_left, Nat.le_add_right, qc, fillA, evParts, repCells, wrRow_eq, splice, partA, List.length_cons, List.length_nil, List.take_succ_cons, List.take_zero, List.drop_succ_cons, List.drop_zero, List.cons_append, Option.bind_some, Nat.add_zero, Nat.zero_add, List.drop_nil, List.take_nil, Nat.le_refl, Nat.min_self, WO_pure, WO_mem, pureStep, memStep, WC_true, WC_false, WO_guardq, qg, retQ, resOf, resAll, resA, wp_some, kv_ite, km_ite, kv_none, ↓reduceIte, Nat.reduceEqDiff, reduceCtorEq, decide_true, decide_false, Bool.not_true, Bool.not_false, List.map_cons, List.map_nil, List.nil_append, List.append_nil, Option.map_some, Option.map_none, if_true, if_false, true_and, and_true, Int.reduceEq, Int.reduceLT, Int.reduceLE, Int.reduceNeg, Nat.reduceAdd, Nat.reduceLeDiff, Bool.true_eq_false, Bool.false_eq_true, beq_self_eq_true]
      exact h
  · simp only [k9]; congr 1; omega
  · simp only [k8]
    rw [List.drop_eq_nil_of_le (by omega)]; rfl

def refOut (r : Nat × Int × Int) : AV := .tup [.int .u64 (r.1 : Int), .int .i64 r.2.1, .bool (decide (r.2.2 = 0))]

set_option maxHeartbeats 8000000 in
/-- barrowref03.read -/
theorem run86 (bs : List UInt8) (hlen : bs.length ≤ 9223372036854775806) (a : Option (Nat × Nat)) (c : Option Nat) (H : AHeap) (ha : At H a (bytesA bs)) (p : Int) (hp : p ≤ 9223372036854775806) (Q : AV → AHeap → Nat → Prop)
    (h : Q (refOut (rdU bs p)) H H.length) : WF T 86 [.slice a bs.length c, .int .i64 p] H Q := by
  refine (WF_code (fn := a86) rfl _ _ _).2 ?_
  by_cases h1 : p < 0
  · have : rdU bs p = (0, p, 2) := by unfold rdU; rw [if_pos (.inl h1)]
    rw [this] at h
    simp only [a86, h1, AV.undef, unA, qs, qb, qe, qi, qp, qm, qh, set_newRow_at, Int.reduceToNat, Nat.reduceMul, List.getElem?_cons_succ, List.getElem?_cons_zero, false_implies, true_implies, forall_const, implies_true, set_newRow_lt, Nat.lt_add_one, Nat.min_eq_left, Nat.le_add_right, qc, fillA, evParts, repCells, wrRow_eq, splice, partA, List.length_cons, List.length_nil, List.take_succ_cons, List.take_zero, List.drop_succ_cons, List.drop_zero, List.cons_append, Option.bind_some, Nat.add_zero, Nat.zero_add, List.drop_nil, List.take_nil, Nat.le_refl, Nat.min_self, WO_pure, WO_mem, pureStep, memStep, WC_true, WC_false, WO_guardq, qg, retQ, resOf, resAll, resA, wp_some, kv_ite, km_ite, kv_none, ↓reduceIte, Nat.reduceEqDiff, reduceCtorEq, decide_true, decide_false, Bool.not_true, Bool.not_false, List.map_cons, List.map_nil, List.nil_append, List.append_nil, Option.map_some, Option.map_none, if_true, if_false, true_and, and_true, Int.reduceEq, Int.reduceLT, Int.reduceLE, Int.reduceNeg, Nat.reduceAdd, Nat.reduceLeDiff, Bool.true_eq_false, Bool.false_eq_true, beq_self_eq_true]
    exact h
  obtain ⟨l, rfl⟩ : ∃ l : Nat, p = l := ⟨p.toNat, by omega⟩
  simp only [a86, h1, AV.undef, unA, qs, qb, qe, qi, qp, qm, qh, set_newRow_at, Int.reduceToNat, Nat.reduceMul, List.getElem?_cons_succ, List.getElem?_cons_zero, false_implies, true_implies, forall_const, implies_true, set_newRow_lt, Nat.lt_add_one, Nat.min_eq_left, Nat.le_add_right, qc, fillA, evParts, repCells, wrRow_eq, splice, partA, List.length_cons, List.length_nil, List.take_succ_cons, List.take_zero, List.drop_succ_cons, List.drop_zero, List.cons_append, Option.bind_some, Nat.add_zero, Nat.zero_add, List.drop_nil, List.take_nil, Nat.le_refl, Nat.min_self, WO_pure, WO_mem, pureStep, memStep, WC_true, WC_false, WO_guardq, qg, retQ, resOf, resAll, resA, wp_some, kv_ite, km_ite, kv_none, ↓reduceIte, Nat.reduceEqDiff, reduceCtorEq, decide_true, decide_false, Bool.not_true, Bool.not_false, List.map_cons, List.map_nil, List.nil_append, List.append_nil, Option.map_some, Option.map_none, if_true, if_false, true_and, and_true, Int.reduceEq, Int.reduceLT, Int.reduceLE, Int.reduceNeg, Nat.reduceAdd, Nat.reduceLeDiff, Bool.true_eq_false, Bool.false_eq_true, beq_self_eq_true]
  refine WC_loop (ScanInv bs a c H l) ?_ (bs.length - l) _ ⟨l, rfl, Nat.le_refl _, .inr rfl, rfl, rfl, rfl, (fun k h1 h2 => by omega), rfl, rfl⟩
  rintro n ⟨e, H', lw⟩ ⟨i, hn, hli, hil, h0, h1', h7, hg, hH, hL⟩
  simp only [] at h0 h1' h7 hH hL
  subst hH; subst hL
  by_cases hcont : ∃ b, bs[i]? = some b ∧ 128 ≤ b.toNat
  · obtain ⟨b, hb, h128⟩ := hcont
    have hilt : i < bs.length := (List.getElem?_eq_some_iff.1 hb).1
    obtain ⟨ri, ro, rfl⟩ := ha.some_of (j := i) (by rw [bytesA_len]; omega)
    have hld := ha.load (bytesA_get hb)
    have c1 : (i : Int) < (bs.length : Int) := by omega
    have c2 : (0 : Int) ≤ (i : Int) ∧ (i : Int) < (bs.length : Int) := by omega
    have c3 : (128 : Int) ≤ (b.toNat : Int) := by omega
    have e4 : IntKind.i64.wrap ((i : Int) + 1) = ((i + 1 : Nat) : Int) := by rw [w64 (by omega) (by omega)]; omega
    simp only [h0, h1', h7, c1, c2, c3, hld, e4, Int.toNat_natCast, AV.undef, unA, qs, qb, qe, qi, qp, qm, qh, set_newRow_at, Int.reduceToNat, Nat.reduceMul, List.getElem?_cons_succ, List.getElem?_cons_zero, false_implies, true_implies, forall_const, implies_true, set_newRow_lt, Nat.lt_add_one, Nat.min_eq_left, Nat.le_add_right, qc, fillA, evParts, repCells, wrRow_eq, splice, partA, List.length_cons, List.length_nil, List.take_succ_cons, List.take_zero, List.drop_succ_cons, List.drop_zero, List.cons_append, Option.bind_some, Nat.add_zero, Nat.zero_add, List.drop_nil, List.take_nil, Nat.le_refl, Nat.min_self, WO_pure, WO_mem, pureStep, memStep, WC_true, WC_false, WO_guardq, qg, retQ, resOf, resAll, resA, wp_some, kv_ite, km_ite, kv_none, ↓reduceIte, Nat.reduceEqDiff, reduceCtorEq, decide_true, decide_false, Bool.not_true, Bool.not_false, List.map_cons, List.map_nil, List.nil_append, List.append_nil, Option.map_some, Option.map_none, if_true, if_false, true_and, and_true, Int.reduceEq, Int.reduceLT, Int.reduceLE, Int.reduceNeg, Nat.reduceAdd, Nat.reduceLeDiff, Bool.true_eq_false, Bool.false_eq_true, beq_self_eq_true]
    refine ⟨_, by omega, i + 1, rfl, by omega, by omega, by simp only [h0, AV.undef, unA, qs, qb, qe, qi, qp, qm, qh, set_newRow_at, Int.reduceToNat, Nat.reduceMul, List.getElem?_cons_succ, List.getElem?_cons_zero, false_implies, true_implies, forall_const, implies_true, set_newRow_lt, Nat.lt_add_one, Nat.min_eq_left, Nat.le_add_right, qc, fillA, evParts, repCells, wrRow_eq, splice, partA, List.length_cons, List.length_nil, List.take_succ_cons, List.take_zero, List.drop_succ_cons, List.drop_zero, List.cons_append, Option.bind_some, Nat.add_zero, Nat.zero_add, List.drop_nil, List.take_nil, Nat.le_refl, Nat.min_self, WO_pure, WO_mem, pureStep, memStep, WC_true, WC_false, WO_guardq, qg, retQ, resOf, resAll, resA, wp_some, kv_ite, km_ite, kv_none, ↓reduceIte, Nat.reduceEqDiff, reduceCtorEq, decide_true, decide_false, Bool.not_true, Bool.not_false, List.map_cons, List.map_nil, List.nil_append, List.append_nil, Option.map_some, Option.map_none, if_true, if_false, true_and, and_true, Int.reduceEq, Int.reduceLT, Int.reduceLE, Int.reduceNeg, Nat.reduceAdd, Nat.reduceLeDiff, Bool.true_eq_false, Bool.false_eq_true, beq_self_eq_true], by simp only [h1', AV.undef, unA, qs, qb, qe, qi, qp, qm, qh, set_newRow_at, Int.reduceToNat, Nat.reduceMul, List.getElem?_cons_succ, List.getElem?_cons_zero, false_implies, true_implies, forall_const, implies_true, set_newRow_lt, Nat.lt_add_one, Nat.min_eq_left, Nat.le_add_right, qc, fillA, evParts, repCells, wrRow_eq, splice, partA, List.length_cons, List.length_nil, List.take_succ_cons, List.take_zero, List.drop_succ_cons, List.drop_zero, List.cons_append, Option.bind_some, Nat.add_zero, Nat.zero_add, List.drop_nil, List.take_nil, Nat.le_refl, Nat.min_self, WO_pure, WO_mem, pureStep, memStep, WC_true, WC_false, WO_guardq, qg, retQ, resOf, resAll, resA, wp_some, kv_ite, km_ite, kv_none, ↓reduceIte, Nat.reduceEqDiff, reduceCtorEq, decide_true, decide_false, Bool.not_true, Bool.not_false, List.map_cons, List.map_nil, List.nil_append, List.append_nil, Option.map_some, Option.map_none, if_true, if_false, true_and, and_true, Int.reduceEq, Int.reduceLT, Int.reduceLE, Int.reduceNeg, Nat.reduceAdd, Nat.reduceLeDiff, Bool.true_eq_false, Bool.false_eq_true, beq_self_eq_true], by simp only [AV.undef, unA, qs, qb, qe, qi, qp, qm, qh, set_newRow_at, Int.reduceToNat, Nat.reduceMul, List.getElem?_cons_succ, List.getElem?_cons_zero, false_implies, true_implies, forall_const, implies_true, set_newRow_lt, Nat.lt_add_one, Nat.min_eq_left, Nat.le_add_right, qc, fillA, evParts, repCells, wrRow_eq, splice, partA, List.length_cons, List.length_nil, List.take_succ_cons, List.take_zero, List.drop_succ_cons, List.drop_zero, List.cons_append, Option.bind_some, Nat.add_zero, Nat.zero_add, List.drop_nil, List.take_nil, Nat.le_refl, Nat.min_self, WO_pure, WO_mem, pureStep, memStep, WC_true, WC_false, WO_guardq, qg, retQ, resOf, resAll, resA, wp_some, kv_ite, km_ite, kv_none, ↓reduceIte, Nat.reduceEqDiff, reduceCtorEq, decide_true, decide_false, Bool.not_true, Bool.not_false, List.map_cons, List.map_nil, List.nil_append, List.append_nil, Option.map_some, Option.map_none, if_true, if_false, true_and, and_true, Int.reduceEq, Int.reduceLT, Int.reduceLE, Int.reduceNeg, Nat.reduceAdd, Nat.reduceLeDiff, Bool.true_eq_false, Bool.false_eq_true, beq_self_eq_true], ?_, rfl, rfl⟩
    intro k hk1 hk2
    by_cases hki : k = i
    · subst hki; exact ⟨b, hb, h128⟩
    · exact hg k hk1 (by omega)
  by_cases hilt : i < bs.length
  · obtain ⟨b, hb⟩ : ∃ b, bs[i]? = some b := ⟨bs[i], List.getElem?_eq_getElem hilt⟩
    have h128 : b.toNat < 128 := by
      apply Nat.lt_of_not_le
      intro hge; exact hcont ⟨b, hb, hge⟩
    obtain ⟨ri, ro, rfl⟩ := ha.some_of (j := i) (by rw [bytesA_len]; omega)
    have hld := ha.load (bytesA_get hb)
    have c1 : (i : Int) < (bs.length : Int) := by omega
    have c1' : ¬ (bs.length : Int) ≤ (i : Int) := by omega
    have c2 : (0 : Int) ≤ (i : Int) ∧ (i : Int) < (bs.length : Int) := by omega
    have c3 : ¬ (128 : Int) ≤ (b.toNat : Int) := by omega
    have e5 : IntKind.i64.wrap ((i : Int) - (l : Int)) = ((i - l : Nat) : Int) := by rw [w64 (by omega) (by omega)]; omega
    -- the parts of the text
    have hdl : bs.drop l = (bs.drop l).take (i - l) ++ b :: bs.drop (i + 1) := by
      have e1 : (bs.drop l).drop (i - l) = b :: bs.drop (i + 1) := by
        rw [List.drop_drop, show l + (i - l) = i by omega, List.drop_eq_getElem_cons hilt]
        congr 1
        rw [List.getElem?_eq_getElem hilt] at hb; exact Option.some.inj hb
      rw [← e1, List.take_append_drop]
    have hpl : ((bs.drop l).take (i - l)).length = i - l := by rw [List.length_take, List.length_drop]; omega
    have hpre : ∀ x, x ∈ (bs.drop l).take (i - l) → 128 ≤ x.toNat := by
      intro x hx
      obtain ⟨k, hk⟩ := List.getElem?_of_mem hx
      rw [List.getElem?_take] at hk
      split at hk
      · rename_i hkl
        rw [List.getElem?_drop] at hk
        obtain ⟨y, hy1, hy2⟩ := hg (l + k) (by omega) (by omega)
        rw [hk] at hy1; cases hy1; exact hy2
      · cases hk
    have hws : (bs.drop l).take (i + 1 - l) = (bs.drop l).take (i - l) ++ [b] := by
      rw [show i + 1 - l = (i - l) + 1 by omega, List.take_add_one, List.getElem?_drop, show l + (i - l) = i by omega, hb]; rfl
    have hv := vrL_parts _ b (bs.drop (i + 1)) hpre h128
    rw [← hdl, hpl, ← hws] at hv
    have hr : rdU bs l = match vrL (bs.drop l) 0 0 with | some (v, n) => (v, (l : Int) + n, 0) | none => (0, (l : Int), 2) := by
      unfold rdU; rw [if_neg (by omega), Int.toNat_natCast]; try rfl
    have hV : rdU bs l = (match some (hsum ((bs.drop l).take (i + 1 - l)), i - l + 1) with | some (v, n) => (v, (l : Int) + (n : Int), 0) | none => (0, (l : Int), 2)) → hsum ((bs.drop l).take (i + 1 - l)) < 18446744073709551616 := by
      intro hq
      have := rdU_lt bs l
      rw [hq] at this; exact this
    have hfin : rdU bs l = (match some (hsum ((bs.drop l).take (i + 1 - l)), i - l + 1) with | some (v, n) => (v, (l : Int) + (n : Int), 0) | none => (0, (l : Int), 2)) → Q (.tup [.int .u64 ((hsum ((bs.drop l).take (i + 1 - l)) : Nat) : Int), .int .i64 ((i : Int) + 1), .bool true]) H' H'.length := by
      intro hq
      rw [hq] at h
      have e9 : (l : Int) + ((i - l + 1 : Nat) : Int) = (i : Int) + 1 := by omega
      simp only [refOut, e9] at h
      exact h
    rw [hv] at hr
    by_cases g1 : 9 < i - l
    · rw [if_pos (.inl g1)] at hr
      rw [hr] at h
      have d1 : (9 : Int) < ((i - l : Nat) : Int) := by omega
      simp only [h0, h1', h7, c1, c1', c2, c3, e5, hld, d1, Int.toNat_natCast, AV.undef, unA, qs, qb, qe, qi, qp, qm, qh, set_newRow_at, Int.reduceToNat, Nat.reduceMul, List.getElem?_cons_succ, List.getElem?_cons_zero, false_implies, true_implies, forall_const, implies_true, set_newRow_lt, Nat.lt_add_one, Nat.min_eq_left, Nat.le_add_right, qc, fillA, evParts, repCells, wrRow_eq, splice, partA, List.length_cons, List.length_nil, List.take_succ_cons, List.take_zero, List.drop_succ_cons, List.drop_zero, List.cons_append, Option.bind_some, Nat.add_zero, Nat.zero_add, List.drop_nil, List.take_nil, Nat.le_refl, Nat.min_self, WO_pure, WO_mem, pureStep, memStep, WC_true, WC_false, WO_guardq, qg, retQ, resOf, resAll, resA, wp_some, kv_ite, km_ite, kv_none, ↓reduceIte, Nat.reduceEqDiff, reduceCtorEq, decide_true, decide_false, Bool.not_true, Bool.not_false, List.map_cons, List.map_nil, List.nil_append, List.append_nil, Option.map_some, Option.map_none, if_true, if_false, true_and, and_true, Int.reduceEq, Int.reduceLT, Int.reduceLE, Int.reduceNeg, Nat.reduceAdd, Nat.reduceLeDiff, Bool.true_eq_false, Bool.false_eq_true, beq_self_eq_true]
      exact h
    have d1 : ¬ (9 : Int) < ((i - l : Nat) : Int) := by omega
    by_cases g2 : 0 < i - l
    · have d2 : (l : Int) < (i : Int) := by omega
      by_cases g3 : b.toNat = 0
      · rw [if_pos (.inr (.inl ⟨g2, g3⟩))] at hr
        rw [hr] at h
        have d3 : (b.toNat : Int) = 0 := by omega
        simp only [h0, h1', h7, c1, c1', c2, c3, e5, hld, d1, d2, d3, Int.toNat_natCast, AV.undef, unA, qs, qb, qe, qi, qp, qm, qh, set_newRow_at, Int.reduceToNat, Nat.reduceMul, List.getElem?_cons_succ, List.getElem?_cons_zero, false_implies, true_implies, forall_const, implies_true, set_newRow_lt, Nat.lt_add_one, Nat.min_eq_left, Nat.le_add_right, qc, fillA, evParts, repCells, wrRow_eq, splice, partA, List.length_cons, List.length_nil, List.take_succ_cons, List.take_zero, List.drop_succ_cons, List.drop_zero, List.cons_append, Option.bind_some, Nat.add_zero, Nat.zero_add, List.drop_nil, List.take_nil, Nat.le_refl, Nat.min_self, WO_pure, WO_mem, pureStep, memStep, WC_true, WC_false, WO_guardq, qg, retQ, resOf, resAll, resA, wp_some, kv_ite, km_ite, kv_none, ↓reduceIte, Nat.reduceEqDiff, reduceCtorEq, decide_true, decide_false, Bool.not_true, Bool.not_false, List.map_cons, List.map_nil, List.nil_append, List.append_nil, Option.map_some, Option.map_none, if_true, if_false, true_and, and_true, Int.reduceEq, Int.reduceLT, Int.reduceLE, Int.reduceNeg, Nat.reduceAdd, Nat.reduceLeDiff, Bool.true_eq_false, Bool.false_eq_true, beq_self_eq_true]
        exact h
      have d3 : ¬ (b.toNat : Int) = 0 := by omega
      by_cases g4 : i - l = 9
      · have d4 : ((i - l : Nat) : Int) = 9 := by omega
        by_cases g5 : 1 < b.toNat
        · rw [if_pos (.inr (.inr ⟨g4, g5⟩))] at hr
          rw [hr] at h
          have d5 : (1 : Int) < (b.toNat : Int) := by omega
          simp only [h0, h1', h7, c1, c1', c2, c3, e5, hld, d2, d3, d4, d5, Int.toNat_natCast, AV.undef, unA, qs, qb, qe, qi, qp, qm, qh, set_newRow_at, Int.reduceToNat, Nat.reduceMul, List.getElem?_cons_succ, List.getElem?_cons_zero, false_implies, true_implies, forall_const, implies_true, set_newRow_lt, Nat.lt_add_one, Nat.min_eq_left, Nat.le_add_right, qc, fillA, evParts, repCells, wrRow_eq, splice, partA, List.length_cons, List.length_nil, List.take_succ_cons, List.take_zero, List.drop_succ_cons, List.drop_zero, List.cons_append, Option.bind_some, Nat.add_zero, Nat.zero_add, List.drop_nil, List.take_nil, Nat.le_refl, Nat.min_self, WO_pure, WO_mem, pureStep, memStep, WC_true, WC_false, WO_guardq, qg, retQ, resOf, resAll, resA, wp_some, kv_ite, km_ite, kv_none, ↓reduceIte, Nat.reduceEqDiff, reduceCtorEq, decide_true, decide_false, Bool.not_true, Bool.not_false, List.map_cons, List.map_nil, List.nil_append, List.append_nil, Option.map_some, Option.map_none, if_true, if_false, true_and, and_true, Int.reduceEq, Int.reduceLT, Int.reduceLE, Int.reduceNeg, Nat.reduceAdd, Nat.reduceLeDiff, Bool.true_eq_false, Bool.false_eq_true, beq_self_eq_true]
          exact h
        · rw [if_neg (by omega)] at hr
          have d5 : ¬ (1 : Int) < (b.toNat : Int) := by omega
          simp only [h0, h1', h7, c1, c1', c2, c3, e5, hld, d2, d3, d4, d5, Int.toNat_natCast, AV.undef, unA, qs, qb, qe, qi, qp, qm, qh, set_newRow_at, Int.reduceToNat, Nat.reduceMul, List.getElem?_cons_succ, List.getElem?_cons_zero, false_implies, true_implies, forall_const, implies_true, set_newRow_lt, Nat.lt_add_one, Nat.min_eq_left, Nat.le_add_right, qc, fillA, evParts, repCells, wrRow_eq, splice, partA, List.length_cons, List.length_nil, List.take_succ_cons, List.take_zero, List.drop_succ_cons, List.drop_zero, List.cons_append, Option.bind_some, Nat.add_zero, Nat.zero_add, List.drop_nil, List.take_nil, Nat.le_refl, Nat.min_self, WO_pure, WO_mem, pureStep, memStep, WC_true, WC_false, WO_guardq, qg, retQ, resOf, resAll, resA, wp_some, kv_ite, km_ite, kv_none, ↓reduceIte, Nat.reduceEqDiff, reduceCtorEq, decide_true, decide_false, Bool.not_true, Bool.not_false, List.map_cons, List.map_nil, List.nil_append, List.append_nil, Option.map_some, Option.map_none, if_true, if_false, true_and, and_true, Int.reduceEq, Int.reduceLT, Int.reduceLE, Int.reduceNeg, Nat.reduceAdd, Nat.reduceLeDiff, Bool.true_eq_false, Bool.false_eq_true, beq_self_eq_true]
          refine horn86 bs ((bs.drop l).take (i + 1 - l)) _ c _ ha l i hilt hli rfl hlen (hV hr) Q (hfin hr) _ ?_ ?_ ?_ ?_ ?_ <;> simp only [h0, h1', h7, AV.undef, unA, qs, qb, qe, qi, qp, qm, qh, set_newRow_at, Int.reduceToNat, Nat.reduceMul, List.getElem?_cons_succ, List.getElem?_cons_zero, false_implies, true_implies, forall_const, implies_true, set_newRow_lt, Nat.lt_add_one, Nat.min_eq_left, Nat.le_add_right, qc, fillA, evParts, repCells, wrRow_eq, splice, partA, List.length_cons, List.length_nil, List.take_succ_cons, List.take_zero, List.drop_succ_cons, List.drop_zero, List.cons_append, Option.bind_some, Nat.add_zero, Nat.zero_add, List.drop_nil, List.take_nil, Nat.le_refl, Nat.min_self, WO_pure, WO_mem, pureStep, memStep, WC_true, WC_false, WO_guardq, qg, retQ, resOf, resAll, resA, wp_some, kv_ite, km_ite, kv_none, ↓reduceIte, Nat.reduceEqDiff, reduceCtorEq, decide_true, decide_false, Bool.not_true, Bool.not_false, List.map_cons, List.map_nil, List.nil_append, List.append_nil, Option.map_some, Option.map_none, if_true, if_false, true_and, and_true, Int.reduceEq, Int.reduceLT, Int.reduceLE, Int.reduceNeg, Nat.reduceAdd, Nat.reduceLeDiff, Bool.true_eq_false, Bool.false_eq_true, beq_self_eq_true]
      · rw [if_neg (by omega)] at hr
        have d4 : ¬ ((i - l : Nat) : Int) = 9 := by omega
        simp only [h0, h1', h7, c1, c1', c2, c3, e5, hld, d1, d2, d3, d4, Int.toNat_natCast, AV.undef, unA, qs, qb, qe, qi, qp, qm, qh, set_newRow_at, Int.reduceToNat, Nat.reduceMul, List.getElem?_cons_succ, List.getElem?_cons_zero, false_implies, true_implies, forall_const, implies_true, set_newRow_lt, Nat.lt_add_one, Nat.min_eq_left, Nat.le_add_right, qc, fillA, evParts, repCells, wrRow_eq, splice, partA, List.length_cons, List.length_nil, List.take_succ_cons, List.take_zero, List.drop_succ_cons, List.drop_zero, List.cons_append, Option.bind_some, Nat.add_zero, Nat.zero_add, List.drop_nil, List.take_nil, Nat.le_refl, Nat.min_self, WO_pure, WO_mem, pureStep, memStep, WC_true, WC_false, WO_guardq, qg, retQ, resOf, resAll, resA, wp_some, kv_ite, km_ite, kv_none, ↓reduceIte, Nat.reduceEqDiff, reduceCtorEq, decide_true, decide_false, Bool.not_true, Bool.not_false, List.map_cons, List.map_nil, List.nil_append, List.append_nil, Option.map_some, Option.map_none, if_true, if_false, true_and, and_true, Int.reduceEq, Int.reduceLT, Int.reduceLE, Int.reduceNeg, Nat.reduceAdd, Nat.reduceLeDiff, Bool.true_eq_false, Bool.false_eq_true, beq_self_eq_true]
        refine horn86 bs ((bs.drop l).take (i + 1 - l)) _ c _ ha l i hilt hli rfl hlen (hV hr) Q (hfin hr) _ ?_ ?_ ?_ ?_ ?_ <;> simp only [h0, h1', h7, AV.undef, unA, qs, qb, qe, qi, qp, qm, qh, set_newRow_at, Int.reduceToNat, Nat.reduceMul, List.getElem?_cons_succ, List.getElem?_cons_zero, false_implies, true_implies, forall_const, implies_true, set_newRow_lt, Nat.lt_add_one, Nat.min_eq_left, Nat.le_add_right, qc, fillA, evParts, repCells, wrRow_eq, splice, partA, List.length_cons, List.length_nil, List.take_succ_cons, List.take_zero, List.drop_succ_cons, List.drop_zero, List.cons_append, Option.bind_some, Nat.add_zero, Nat.zero_add, List.drop_nil, List.take_nil, Nat.le_refl, Nat.min_self, WO_pure, WO_mem, pureStep, memStep, WC_true, WC_false, WO_guardq, qg, retQ, resOf, resAll, resA, wp_some, kv_ite, km_ite, kv_none, ↓reduceIte, Nat.reduceEqDiff, reduceCtorEq, decide_true, decide_false, Bool.not_true, Bool.not_false, List.map_cons, List.map_nil, List.nil_append, List.append_nil, Option.map_some, Option.map_none, if_true, if_false, true_and, and_true, Int.reduceEq, Int.reduceLT, Int.reduceLE, Int.reduceNeg, Nat.reduceAdd, Nat.reduceLeDiff, Bool.true_eq_false, Bool.false_eq_true, beq_self_eq_true]
    · rw [if_neg (by omega)] at hr
      have d2 : ¬ (l : Int) < (i : Int) := by omega
      have d4 : ¬ ((i - l : Nat) : Int) = 9 := by omega
      simp only [h0, h1', h7, c1, c1', c2, c3, e5, hld, d1, d2, d4, Int.toNat_natCast, AV.undef, unA, qs, qb, qe, qi, qp, qm, qh, set_newRow_at, Int.reduceToNat, Nat.reduceMul, List.getElem?_cons_succ, List.getElem?_cons_zero, false_implies, true_implies, forall_const, implies_true, set_newRow_lt, Nat.lt_add_one, Nat.min_eq_left, Nat.le_add_right, qc, fillA, evParts, repCells, wrRow_eq, splice, partA, List.length_cons, List.length_nil, List.take_succ_cons, List.take_zero, List.drop_succ_cons, List.drop_zero, List.cons_append, Option.bind_some, Nat.add_zero, Nat.zero_add, List.drop_nil, List.take_nil, Nat.le_refl, Nat.min_self, WO_pure, WO_mem, pureStep, memStep, WC_true, WC_false, WO_guardq, qg, retQ, resOf, resAll, resA, wp_some, kv_ite, km_ite, kv_none, ↓reduceIte, Nat.reduceEqDiff, reduceCtorEq, decide_true, decide_false, Bool.not_true, Bool.not_false, List.map_cons, List.map_nil, List.nil_append, List.append_nil, Option.map_some, Option.map_none, if_true, if_false, true_and, and_true, Int.reduceEq, Int.reduceLT, Int.reduceLE, Int.reduceNeg, Nat.reduceAdd, Nat.reduceLeDiff, Bool.true_eq_false, Bool.false_eq_true, beq_self_eq_true]
      refine horn86 bs ((bs.drop l).take (i + 1 - l)) _ c _ ha l i hilt hli rfl hlen (hV hr) Q (hfin hr) _ ?_ ?_ ?_ ?_ ?_ <;> simp only [h0, h1', h7, AV.undef, unA, qs, qb, qe, qi, qp, qm, qh, set_newRow_at, Int.reduceToNat, Nat.reduceMul, List.getElem?_cons_succ, List.getElem?_cons_zero, false_implies, true_implies, forall_const, implies_true, set_newRow_lt, Nat.lt_add_one, Nat.min_eq_left, Nat.le_add_right, qc, fillA, evParts, repCells, wrRow_eq, splice, partA, List.length_cons, List.length_nil, List.take_succ_cons, List.take_zero, List.drop_succ_cons, List.drop_zero, List.cons_append, Option.bind_some, Nat.add_zero, Nat.zero_add, List.drop_nil, List.take_nil, Nat.le_refl, Nat.min_self, WO_pure, WO_mem, pureStep, memStep, WC_true, WC_false, WO_guardq, qg, retQ, resOf, resAll, resA, wp_some, kv_ite, km_ite, kv_none, ↓reduceIte, Nat.reduceEqDiff, reduceCtorEq, decide_true, decide_false, Bool.not_true, Bool.not_false, List.map_cons, List.map_nil, List.nil_append, List.append_nil, Option.map_some, Option.map_none, if_true, if_false, true_and, and_true, Int.reduceEq, Int.reduceLT, Int.reduceLE, Int.reduceNeg, Nat.reduceAdd, Nat.reduceLeDiff, Bool.true_eq_false, Bool.false_eq_true, beq_self_eq_true]
  · have hrd : rdU bs l = (0, (l : Int), 2) := by
      unfold rdU
      split
      · rfl
      · rw [vrL_none]
        intro x hx
        rw [Int.toNat_natCast] at hx
        obtain ⟨k, hk⟩ := List.getElem?_of_mem hx
        rw [List.getElem?_drop] at hk
        have := (List.getElem?_eq_some_iff.1 hk).1
        obtain ⟨y, hy1, hy2⟩ := hg (l + k) (by omega) (by omega)
        rw [hk] at hy1; cases hy1; exact hy2
    rw [hrd] at h
    have c1 : ¬ (i : Int) < (bs.length : Int) := by omega
    have c1' : (bs.length : Int) ≤ (i : Int) := by omega
    simp only [h0, h1', h7, c1, c1', AV.undef, unA, qs, qb, qe, qi, qp, qm, qh, set_newRow_at, Int.reduceToNat, Nat.reduceMul, List.getElem?_cons_succ, List.getElem?_cons_zero, false_implies, true_implies, forall_const, implies_true, set_newRow_lt, Nat.lt_add_one, Nat.min_eq_left, Nat.le_add_right, qc, fillA, evParts, repCells, wrRow_eq, splice, partA, List.length_cons, List.length_nil, List.take_succ_cons, List.take_zero, List.drop_succ_cons, List.drop_zero, List.cons_append, Option.bind_some, Nat.add_zero, Nat.zero_add, List.drop_nil, List.take_nil, Nat.le_refl, Nat.min_self, WO_pure, WO_mem, pureStep, memStep, WC_true, WC_false, WO_guardq, qg, retQ, resOf, resAll, resA, wp_some, kv_ite, km_ite, kv_none, ↓reduceIte, Nat.reduceEqDiff, reduceCtorEq, decide_true, decide_false, Bool.not_true, Bool.not_false, List.map_cons, List.map_nil, List.nil_append, List.append_nil, Option.map_some, Option.map_none, if_true, if_false, true_and, and_true, Int.reduceEq, Int.reduceLT, Int.reduceLE, Int.reduceNeg, Nat.reduceAdd, Nat.reduceLeDiff, Bool.true_eq_false, Bool.false_eq_true, beq_self_eq_true]
    exact h
end Go.Proofs.Qq.Qqd

namespace Go.Proofs.Qq.Qqd
open Go.Proofs.Qq

theorem rdU_err (bs : List UInt8) (p : Int) : (rdU bs p).2.2 = 0 ∨ rdU bs p = (0, p, 2) := by
  unfold rdU
  split
  · exact .inr rfl
  · cases vrL (bs.drop p.toNat) 0 0 with
    | none => exact .inr rfl
    | some r => exact .inl rfl

set_option maxHeartbeats 4000000 in
/-- barrowref03.ReadInt -/
theorem run53 (bs : List UInt8) (hlen : bs.length ≤ 9223372036854775806) (a : Option (Nat × Nat)) (c : Option Nat) (H : AHeap) (ha : At H a (bytesA bs)) (p : Int) (hp : p ≤ 9223372036854775806) (Q : AV → AHeap → Nat → Prop)
    (h : Q (.tup [.int .i64 (zag (rdU bs p).1), .int .i64 (rdU bs p).2.1, .int .i64 (rdU bs p).2.2]) H H.length) : WF T 53 [.slice a bs.length c, .int .i64 p] H Q := by
  refine (WF_code (fn := a53) rfl _ _ _).2 ?_
  have hlt := rdU_lt bs p
  simp only [a53, AV.undef, unA, qs, qb, qe, qi, qp, qm, qh, set_newRow_at, Int.reduceToNat, Nat.reduceMul, List.getElem?_cons_succ, List.getElem?_cons_zero, false_implies, true_implies, forall_const, implies_true, set_newRow_lt, Nat.lt_add_one, Nat.min_eq_left, Nat.le_add_right, qc, fillA, evParts, repCells, wrRow_eq, splice, partA, List.length_cons, List.length_nil, List.take_succ_cons, List.take_zero, List.drop_succ_cons, List.drop_zero, List.cons_append, Option.bind_some, Nat.add_zero, Nat.zero_add, List.drop_nil, List.take_nil, Nat.le_refl, Nat.min_self, WO_pure, WO_mem, pureStep, memStep, WC_true, WC_false, WO_guardq, qg, retQ, resOf, resAll, resA, wp_some, kv_ite, km_ite, kv_none, ↓reduceIte, Nat.reduceEqDiff, reduceCtorEq, decide_true, decide_false, Bool.not_true, Bool.not_false, List.map_cons, List.map_nil, List.nil_append, List.append_nil, Option.map_some, Option.map_none, if_true, if_false, true_and, and_true, Int.reduceEq, Int.reduceLT, Int.reduceLE, Int.reduceNeg, Nat.reduceAdd, Nat.reduceLeDiff, Bool.true_eq_false, Bool.false_eq_true, beq_self_eq_true]
  refine WO_call rfl (run86 bs hlen a c H ha p hp _ ?_)
  rcases rdU_err bs p with he | he
  · generalize rdU bs p = r at h hlt he
    obtain ⟨u, q, z⟩ := r
    simp only [] at h hlt he
    subst he
    have e1 : (u : Int).tmod 2 = ((u % 2 : Nat) : Int) := rfl
    have e2 : IntKind.u64.wrap ((u : Int).tdiv 2) = ((u / 2 : Nat) : Int) := wu64 (n := ((u / 2 : Nat) : Int)) (by omega) (by omega)
    have e3 : IntKind.i64.wrap ((u / 2 : Nat) : Int) = ((u / 2 : Nat) : Int) := w64 (by omega) (by omega)
    by_cases hm : u % 2 = 0
    · have d : ¬ ((u % 2 : Nat) : Int) = 1 := by omega
      unfold zag at h; rw [if_pos hm] at h
      simp only [refOut, e1, e2, e3, d, AV.undef, unA, qs, qb, qe, qi, qp, qm, qh, set_newRow_at, Int.reduceToNat, Nat.reduceMul, List.getElem?_cons_succ, List.getElem?_cons_zero, false_implies, true_implies, forall_const, implies_true, set_newRow_lt, Nat.lt_add_one, Nat.min_eq_left, Nat.le_add_right, qc, fillA, evParts, repCells, wrRow_eq, splice, partA, List.length_cons, List.length_nil, List.take_succ_cons, List.take_zero, List.drop_succ_cons, List.drop_zero, List.cons_append, Option.bind_some, Nat.add_zero, Nat.zero_add, List.drop_nil, List.take_nil, Nat.le_refl, Nat.min_self, WO_pure, WO_mem, pureStep, memStep, WC_true, WC_false, WO_guardq, qg, retQ, resOf, resAll, resA, wp_some, kv_ite, km_ite, kv_none, ↓reduceIte, Nat.reduceEqDiff, reduceCtorEq, decide_true, decide_false, Bool.not_true, Bool.not_false, List.map_cons, List.map_nil, List.nil_append, List.append_nil, Option.map_some, Option.map_none, if_true, if_false, true_and, and_true, Int.reduceEq, Int.reduceLT, Int.reduceLE, Int.reduceNeg, Nat.reduceAdd, Nat.reduceLeDiff, Bool.true_eq_false, Bool.false_eq_true, beq_self_eq_true]
      exact h
    · have d : ((u % 2 : Nat) : Int) = 1 := by omega
      have e4 : IntKind.i64.wrap (0 - ((u / 2 : Nat) : Int)) = -((u / 2 : Nat) : Int) := by rw [w64 (by omega) (by omega)]; omega
      have e5 : IntKind.i64.wrap (-((u / 2 : Nat) : Int) - 1) = -((u / 2 : Nat) : Int) - 1 := w64 (by omega) (by omega)
      unfold zag at h; rw [if_neg hm] at h
      simp only [refOut, e1, e2, e3, d, e4, e5, AV.undef, unA, qs, qb, qe, qi, qp, qm, qh, set_newRow_at, Int.reduceToNat, Nat.reduceMul, List.getElem?_cons_succ, List.getElem?_cons_zero, false_implies, true_implies, forall_const, implies_true, set_newRow_lt, Nat.lt_add_one, Nat.min_eq_left, Nat.le_add_right, qc, fillA, evParts, repCells, wrRow_eq, splice, partA, List.length_cons, List.length_nil, List.take_succ_cons, List.take_zero, List.drop_succ_cons, List.drop_zero, List.cons_append, Option.bind_some, Nat.add_zero, Nat.zero_add, List.drop_nil, List.take_nil, Nat.le_refl, Nat.min_self, WO_pure, WO_mem, pureStep, memStep, WC_true, WC_false, WO_guardq, qg, retQ, resOf, resAll, resA, wp_some, kv_ite, km_ite, kv_none, ↓reduceIte, Nat.reduceEqDiff, reduceCtorEq, decide_true, decide_false, Bool.not_true, Bool.not_false, List.map_cons, List.map_nil, List.nil_append, List.append_nil, Option.map_some, Option.map_none, if_true, if_false, true_and, and_true, Int.reduceEq, Int.reduceLT, Int.reduceLE, Int.reduceNeg, Nat.reduceAdd, Nat.reduceLeDiff, Bool.true_eq_false, Bool.false_eq_true, beq_self_eq_true]
      exact h
  · have z0 : zag 0 = 0 := by unfold zag; rw [if_pos (by decide)]; rfl
    rw [he] at h ⊢
    simp only [z0] at h
    simp only [refOut, AV.undef, unA, qs, qb, qe, qi, qp, qm, qh, set_newRow_at, Int.reduceToNat, Nat.reduceMul, List.getElem?_cons_succ, List.getElem?_cons_zero, false_implies, true_implies, forall_const, implies_true, set_newRow_lt, Nat.lt_add_one, Nat.min_eq_left, Nat.le_add_right, qc, fillA, evParts, repCells, wrRow_eq, splice, partA, List.length_cons, List.length_nil, List.take_succ_cons, List.take_zero, List.drop_succ_cons, List.drop_zero, List.cons_append, Option.bind_some, Nat.add_zero, Nat.zero_add, List.drop_nil, List.take_nil, Nat.le_refl, Nat.min_self, WO_pure, WO_mem, pureStep, memStep, WC_true, WC_false, WO_guardq, qg, retQ, resOf, resAll, resA, wp_some, kv_ite, km_ite, kv_none, ↓reduceIte, Nat.reduceEqDiff, reduceCtorEq, decide_true, decide_false, Bool.not_true, Bool.not_false, List.map_cons, List.map_nil, List.nil_append, List.append_nil, Option.map_some, Option.map_none, if_true, if_false, true_and, and_true, Int.reduceEq, Int.reduceLT, Int.reduceLE, Int.reduceNeg, Nat.reduceAdd, Nat.reduceLeDiff, Bool.true_eq_false, Bool.false_eq_true, beq_self_eq_true]
    exact h
end Go.Proofs.Qq.Qqd

namespace Go.Proofs.Qq.Qqd
open Go.Proofs.Qq

/-- The letters of a name. -/
def isNm (b : UInt8) : Bool := b.toNat == 45 || (decide (48 ≤ b.toNat) && decide (b.toNat ≤ 57)) || (decide (65 ≤ b.toNat) && decide (b.toNat ≤ 90)) || (decide (97 ≤ b.toNat) && decide (b.toNat ≤ 122))
def nameOk (s : List UInt8) : Bool := s.all isNm && decide (1 ≤ s.length) && decide (s.length ≤ 24)

def NmInv (s : List UInt8) (H : AHeap) (n : Nat) (st : AS) : Prop :=
  ∃ i : Nat, n = s.length - i ∧ i ≤ s.length ∧ st.env 0 = .str s ∧ st.env 3 = .int .i64 (i : Int) ∧ (s.take i).all isNm = true ∧ st.heap = H ∧ st.low = H.length

set_option maxHeartbeats 8000000 in
/-- barrowref11.Name -/
theorem run63 (s : List UInt8) (hlen : s.length ≤ 9223372036854775806) (H : AHeap) (Q : AV → AHeap → Nat → Prop) (h : Q (.bool (nameOk s)) H H.length) : WF T 63 [.str s] H Q := by
  refine (WF_code (fn := a63) rfl _ _ _).2 ?_
  simp only [a63, AV.undef, unA, qs, qb, qe, qi, qp, qm, qh, set_newRow_at, Int.reduceToNat, Nat.reduceMul, List.getElem?_cons_succ, List.getElem?_cons_zero, false_implies, true_implies, forall_const, implies_true, set_newRow_lt, Nat.lt_add_one, Nat.min_eq_left, Nat.le_add_right, qc, fillA, evParts, repCells, wrRow_eq, splice, partA, List.length_cons, List.length_nil, List.take_succ_cons, List.take_zero, List.drop_succ_cons, List.drop_zero, List.cons_append, Option.bind_some, Nat.add_zero, Nat.zero_add, List.drop_nil, List.take_nil, Nat.le_refl, Nat.min_self, WO_pure, WO_mem, pureStep, memStep, WC_true, WC_false, WO_guardq, qg, retQ, resOf, resAll, resA, wp_some, kv_ite, km_ite, kv_none, ↓reduceIte, Nat.reduceEqDiff, reduceCtorEq, decide_true, decide_false, Bool.not_true, Bool.not_false, List.map_cons, List.map_nil, List.nil_append, List.append_nil, Option.map_some, Option.map_none, if_true, if_false, true_and, and_true, Int.reduceEq, Int.reduceLT, Int.reduceLE, Int.reduceNeg, Nat.reduceAdd, Nat.reduceLeDiff, Bool.true_eq_false, Bool.false_eq_true, beq_self_eq_true]
  refine WC_loop (NmInv s H) ?_ s.length _ ⟨0, rfl, by omega, rfl, rfl, by simp, rfl, rfl⟩
  rintro n ⟨e, H', lw⟩ ⟨i, hn, hi, k0, k3, hall, kH, kL⟩
  simp only [] at k0 k3 kH kL
  subst kH; subst kL
  by_cases hlt : i < s.length
  · obtain ⟨b, hb⟩ : ∃ b, s[i]? = some b := ⟨s[i], List.getElem?_eq_getElem hlt⟩
    have c1 : (i : Int) < (s.length : Int) := by omega
    have c2 : (0 : Int) ≤ (i : Int) := by omega
    have e4 : IntKind.i64.wrap ((i : Int) + 1) = ((i + 1 : Nat) : Int) := by rw [w64 (by omega) (by omega)]; omega
    have hb256 : b.toNat < 256 := b.toNat_lt
    have hbad : isNm b = false → nameOk s = false := by
      intro hf
      have : s.all isNm = false := by
        rw [List.all_eq_false]
        exact ⟨b, List.mem_of_getElem? hb, by rw [hf]; decide⟩
      unfold nameOk; rw [this]; rfl
    have hgood : isNm b = true → (s.take (i + 1)).all isNm = true := by
      intro ht
      rw [List.take_add_one, hb, List.all_append, hall]
      simp [ht]
    rcases (by omega : (b.toNat = 45) ∨ (b.toNat < 48 ∧ b.toNat ≠ 45) ∨ (48 ≤ b.toNat ∧ b.toNat ≤ 57) ∨ (58 ≤ b.toNat ∧ b.toNat ≤ 64) ∨ (65 ≤ b.toNat ∧ b.toNat ≤ 90) ∨ (91 ≤ b.toNat ∧ b.toNat ≤ 96) ∨ (97 ≤ b.toNat ∧ b.toNat ≤ 122) ∨ (122 < b.toNat)) with hc | hc | hc | hc | hc | hc | hc | hc
    · have f1 : (b.toNat : Int) = 45 := by omega
      have hg : isNm b = true := by unfold isNm; simp; omega
      simp only [k0, k3, c1, c2, e4, hb, Int.toNat_natCast, f1, AV.undef, unA, qs, qb, qe, qi, qp, qm, qh, set_newRow_at, Int.reduceToNat, Nat.reduceMul, List.getElem?_cons_succ, List.getElem?_cons_zero, false_implies, true_implies, forall_const, implies_true, set_newRow_lt, Nat.lt_add_one, Nat.min_eq_left, Nat.le_add_right, qc, fillA, evParts, repCells, wrRow_eq, splice, partA, List.length_cons, List.length_nil, List.take_succ_cons, List.take_zero, List.drop_succ_cons, List.drop_zero, List.cons_append, Option.bind_some, Nat.add_zero, Nat.zero_add, List.drop_nil, List.take_nil, Nat.le_refl, Nat.min_self, WO_pure, WO_mem, pureStep, memStep, WC_true, WC_false, WO_guardq, qg, retQ, resOf, resAll, resA, wp_some, kv_ite, km_ite, kv_none, ↓reduceIte, Nat.reduceEqDiff, reduceCtorEq, decide_true, decide_false, Bool.not_true, Bool.not_false, List.map_cons, List.map_nil, List.nil_append, List.append_nil, Option.map_some, Option.map_none, if_true, if_false, true_and, and_true, Int.reduceEq, Int.reduceLT, Int.reduceLE, Int.reduceNeg, Nat.reduceAdd, Nat.reduceLeDiff, Bool.true_eq_false, Bool.false_eq_true, beq_self_eq_true]
      exact ⟨_, by omega, i + 1, rfl, by omega, by simp only [k0, AV.undef, unA, qs, qb, qe, qi, qp, qm, qh, set_newRow_at, Int.reduceToNat, Nat.reduceMul, List.getElem?_cons_succ, List.getElem?_cons_zero, false_implies, true_implies, forall_const, implies_true, set_newRow_lt, Nat.lt_add_one, Nat.min_eq_left, Nat.le_add_right, qc, fillA, evParts, repCells, wrRow_eq, splice, partA, List.length_cons, List.length_nil, List.take_succ_cons, List.take_zero, List.drop_succ_cons, List.drop_zero, List.cons_append, Option.bind_some, Nat.add_zero, Nat.zero_add, List.drop_nil, List.take_nil, Nat.le_refl, Nat.min_self, WO_pure, WO_mem, pureStep, memStep, WC_true, WC_false, WO_guardq, qg, retQ, resOf, resAll, resA, wp_some, kv_ite, km_ite, kv_none, ↓reduceIte, Nat.reduceEqDiff, reduceCtorEq, decide_true, decide_false, Bool.not_true, Bool.not_false, List.map_cons, List.map_nil, List.nil_append, List.append_nil, Option.map_some, Option.map_none, if_true, if_false, true_and, and_true, Int.reduceEq, Int.reduceLT, Int.reduceLE, Int.reduceNeg, Nat.reduceAdd, Nat.reduceLeDiff, Bool.true_eq_false, Bool.false_eq_true, beq_self_eq_true], by simp only [AV.undef, unA, qs, qb, qe, qi, qp, qm, qh, set_newRow_at, Int.reduceToNat, Nat.reduceMul, List.getElem?_cons_succ, List.getElem?_cons_zero, false_implies, true_implies, forall_const, implies_true, set_newRow_lt, Nat.lt_add_one, Nat.min_eq_left, Nat.le_add_right, qc, fillA, evParts, repCells, wrRow_eq, splice, partA, List.length_cons, List.length_nil, List.take_succ_cons, List.take_zero, List.drop_succ_cons, List.drop_zero, List.cons_append, Option.bind_some, Nat.add_zero, Nat.zero_add, List.drop_nil, List.take_nil, Nat.le_refl, Nat.min_self, WO_pure, WO_mem, pureStep, memStep, WC_true, WC_false, WO_guardq, qg, retQ, resOf, resAll, resA, wp_some, kv_ite, km_ite, kv_none, ↓reduceIte, Nat.reduceEqDiff, reduceCtorEq, decide_true, decide_false, Bool.not_true, Bool.not_false, List.map_cons, List.map_nil, List.nil_append, List.append_nil, Option.map_some, Option.map_none, if_true, if_false, true_and, and_true, Int.reduceEq, Int.reduceLT, Int.reduceLE, Int.reduceNeg, Nat.reduceAdd, Nat.reduceLeDiff, Bool.true_eq_false, Bool.false_eq_true, beq_self_eq_true], hgood hg, rfl, rfl⟩
    · have f1 : ¬ ((b.toNat : Int) = 45) := by omega
      have f2 : (b.toNat : Int) < 48 := by omega
      have f3 : ¬ ((57 : Int) < (b.toNat : Int)) := by omega
      have f4 : (b.toNat : Int) < 65 := by omega
      have f5 : ¬ ((90 : Int) < (b.toNat : Int)) := by omega
      have f6 : (b.toNat : Int) < 97 := by omega
      have f7 : ¬ ((122 : Int) < (b.toNat : Int)) := by omega
      have hg : isNm b = false := by unfold isNm; simp; omega
      rw [hbad hg] at h
      simp only [k0, k3, c1, c2, e4, hb, Int.toNat_natCast, f1, f2, f3, f4, f5, f6, f7, AV.undef, unA, qs, qb, qe, qi, qp, qm, qh, set_newRow_at, Int.reduceToNat, Nat.reduceMul, List.getElem?_cons_succ, List.getElem?_cons_zero, false_implies, true_implies, forall_const, implies_true, set_newRow_lt, Nat.lt_add_one, Nat.min_eq_left, Nat.le_add_right, qc, fillA, evParts, repCells, wrRow_eq, splice, partA, List.length_cons, List.length_nil, List.take_succ_cons, List.take_zero, List.drop_succ_cons, List.drop_zero, List.cons_append, Option.bind_some, Nat.add_zero, Nat.zero_add, List.drop_nil, List.take_nil, Nat.le_refl, Nat.min_self, WO_pure, WO_mem, pureStep, memStep, WC_true, WC_false, WO_guardq, qg, retQ, resOf, resAll, resA, wp_some, kv_ite, km_ite, kv_none, ↓reduceIte, Nat.reduceEqDiff, reduceCtorEq, decide_true, decide_false, Bool.not_true, Bool.not_false, List.map_cons, List.map_nil, List.nil_append, List.append_nil, Option.map_some, Option.map_none, if_true, if_false, true_and, and_true, Int.reduceEq, Int.reduceLT, Int.reduceLE, Int.reduceNeg, Nat.reduceAdd, Nat.reduceLeDiff, Bool.true_eq_false, Bool.false_eq_true, beq_self_eq_true]
      exact h
    · have f1 : ¬ ((b.toNat : Int) = 45) := by omega
      have f2 : ¬ ((b.toNat : Int) < 48) := by omega
      have f3 : ¬ ((57 : Int) < (b.toNat : Int)) := by omega
      have f4 : (b.toNat : Int) < 65 := by omega
      have f5 : ¬ ((90 : Int) < (b.toNat : Int)) := by omega
      have f6 : (b.toNat : Int) < 97 := by omega
      have f7 : ¬ ((122 : Int) < (b.toNat : Int)) := by omega
      have hg : isNm b = true := by unfold isNm; simp; omega
      simp only [k0, k3, c1, c2, e4, hb, Int.toNat_natCast, f1, f2, f3, f4, f5, f6, f7, AV.undef, unA, qs, qb, qe, qi, qp, qm, qh, set_newRow_at, Int.reduceToNat, Nat.reduceMul, List.getElem?_cons_succ, List.getElem?_cons_zero, false_implies, true_implies, forall_const, implies_true, set_newRow_lt, Nat.lt_add_one, Nat.min_eq_left, Nat.le_add_right, qc, fillA, evParts, repCells, wrRow_eq, splice, partA, List.length_cons, List.length_nil, List.take_succ_cons, List.take_zero, List.drop_succ_cons, List.drop_zero, List.cons_append, Option.bind_some, Nat.add_zero, Nat.zero_add, List.drop_nil, List.take_nil, Nat.le_refl, Nat.min_self, WO_pure, WO_mem, pureStep, memStep, WC_true, WC_false, WO_guardq, qg, retQ, resOf, resAll, resA, wp_some, kv_ite, km_ite, kv_none, ↓reduceIte, Nat.reduceEqDiff, reduceCtorEq, decide_true, decide_false, Bool.not_true, Bool.not_false, List.map_cons, List.map_nil, List.nil_append, List.append_nil, Option.map_some, Option.map_none, if_true, if_false, true_and, and_true, Int.reduceEq, Int.reduceLT, Int.reduceLE, Int.reduceNeg, Nat.reduceAdd, Nat.reduceLeDiff, Bool.true_eq_false, Bool.false_eq_true, beq_self_eq_true]
      exact ⟨_, by omega, i + 1, rfl, by omega, by simp only [k0, AV.undef, unA, qs, qb, qe, qi, qp, qm, qh, set_newRow_at, Int.reduceToNat, Nat.reduceMul, List.getElem?_cons_succ, List.getElem?_cons_zero, false_implies, true_implies, forall_const, implies_true, set_newRow_lt, Nat.lt_add_one, Nat.min_eq_left, Nat.le_add_right, qc, fillA, evParts, repCells, wrRow_eq, splice, partA, List.length_cons, List.length_nil, List.take_succ_cons, List.take_zero, List.drop_succ_cons, List.drop_zero, List.cons_append, Option.bind_some, Nat.add_zero, Nat.zero_add, List.drop_nil, List.take_nil, Nat.le_refl, Nat.min_self, WO_pure, WO_mem, pureStep, memStep, WC_true, WC_false, WO_guardq, qg, retQ, resOf, resAll, resA, wp_some, kv_ite, km_ite, kv_none, ↓reduceIte, Nat.reduceEqDiff, reduceCtorEq, decide_true, decide_false, Bool.not_true, Bool.not_false, List.map_cons, List.map_nil, List.nil_append, List.append_nil, Option.map_some, Option.map_none, if_true, if_false, true_and, and_true, Int.reduceEq, Int.reduceLT, Int.reduceLE, Int.reduceNeg, Nat.reduceAdd, Nat.reduceLeDiff, Bool.true_eq_false, Bool.false_eq_true, beq_self_eq_true], by simp only [AV.undef, unA, qs, qb, qe, qi, qp, qm, qh, set_newRow_at, Int.reduceToNat, Nat.reduceMul, List.getElem?_cons_succ, List.getElem?_cons_zero, false_implies, true_implies, forall_const, implies_true, set_newRow_lt, Nat.lt_add_one, Nat.min_eq_left, Nat.le_add_right, qc, fillA, evParts, repCells, wrRow_eq, splice, partA, List.length_cons, List.length_nil, List.take_succ_cons, List.take_zero, List.drop_succ_cons, List.drop_zero, List.cons_append, Option.bind_some, Nat.add_zero, Nat.zero_add, List.drop_nil, List.take_nil, Nat.le_refl, Nat.min_self, WO_pure, WO_mem, pureStep, memStep, WC_true, WC_false, WO_guardq, qg, retQ, resOf, resAll, resA, wp_some, kv_ite, km_ite, kv_none, ↓reduceIte, Nat.reduceEqDiff, reduceCtorEq, decide_true, decide_false, Bool.not_true, Bool.not_false, List.map_cons, List.map_nil, List.nil_append, List.append_nil, Option.map_some, Option.map_none, if_true, if_false, true_and, and_true, Int.reduceEq, Int.reduceLT, Int.reduceLE, Int.reduceNeg, Nat.reduceAdd, Nat.reduceLeDiff, Bool.true_eq_false, Bool.false_eq_true, beq_self_eq_true], hgood hg, rfl, rfl⟩
    · have f1 : ¬ ((b.toNat : Int) = 45) := by omega
      have f2 : ¬ ((b.toNat : Int) < 48) := by omega
      have f3 : (57 : Int) < (b.toNat : Int) := by omega
      have f4 : (b.toNat : Int) < 65 := by omega
      have f5 : ¬ ((90 : Int) < (b.toNat : Int)) := by omega
      have f6 : (b.toNat : Int) < 97 := by omega
      have f7 : ¬ ((122 : Int) < (b.toNat : Int)) := by omega
      have hg : isNm b = false := by unfold isNm; simp; omega
      rw [hbad hg] at h
      simp only [k0, k3, c1, c2, e4, hb, Int.toNat_natCast, f1, f2, f3, f4, f5, f6, f7, AV.undef, unA, qs, qb, qe, qi, qp, qm, qh, set_newRow_at, Int.reduceToNat, Nat.reduceMul, List.getElem?_cons_succ, List.getElem?_cons_zero, false_implies, true_implies, forall_const, implies_true, set_newRow_lt, Nat.lt_add_one, Nat.min_eq_left, Nat.le_add_right, qc, fillA, evParts, repCells, wrRow_eq, splice, partA, List.length_cons, List.length_nil, List.take_succ_cons, List.take_zero, List.drop_succ_cons, List.drop_zero, List.cons_append, Option.bind_some, Nat.add_zero, Nat.zero_add, List.drop_nil, List.take_nil, Nat.le_refl, Nat.min_self, WO_pure, WO_mem, pureStep, memStep, WC_true, WC_false, WO_guardq, qg, retQ, resOf, resAll, resA, wp_some, kv_ite, km_ite, kv_none, ↓reduceIte, Nat.reduceEqDiff, reduceCtorEq, decide_true, decide_false, Bool.not_true, Bool.not_false, List.map_cons, List.map_nil, List.nil_append, List.append_nil, Option.map_some, Option.map_none, if_true, if_false, true_and, and_true, Int.reduceEq, Int.reduceLT, Int.reduceLE, Int.reduceNeg, Nat.reduceAdd, Nat.reduceLeDiff, Bool.true_eq_false, Bool.false_eq_true, beq_self_eq_true]
      exact h
    · have f1 : ¬ ((b.toNat : Int) = 45) := by omega
      have f2 : ¬ ((b.toNat : Int) < 48) := by omega
      have f3 : (57 : Int) < (b.toNat : Int) := by omega
      have f4 : ¬ ((b.toNat : Int) < 65) := by omega
      have f5 : ¬ ((90 : Int) < (b.toNat : Int)) := by omega
      have f6 : (b.toNat : Int) < 97 := by omega
      have f7 : ¬ ((122 : Int) < (b.toNat : Int)) := by omega
      have hg : isNm b = true := by unfold isNm; simp; omega
      simp only [k0, k3, c1, c2, e4, hb, Int.toNat_natCast, f1, f2, f3, f4, f5, f6, f7, AV.undef, unA, qs, qb, qe, qi, qp, qm, qh, set_newRow_at, Int.reduceToNat, Nat.reduceMul, List.getElem?_cons_succ, List.getElem?_cons_zero, false_implies, true_implies, forall_const, implies_true, set_newRow_lt, Nat.lt_add_one, Nat.min_eq_left, Nat.le_add_right, qc, fillA, evParts, repCells, wrRow_eq, splice, partA, List.length_cons, List.length_nil, List.take_succ_cons, List.take_zero, List.drop_succ_cons, List.drop_zero, List.cons_append, Option.bind_some, Nat.add_zero, Nat.zero_add, List.drop_nil, List.take_nil, Nat.le_refl, Nat.min_self, WO_pure, WO_mem, pureStep, memStep, WC_true, WC_false, WO_guardq, qg, retQ, resOf, resAll, resA, wp_some, kv_ite, km_ite, kv_none, ↓reduceIte, Nat.reduceEqDiff, reduceCtorEq, decide_true, decide_false, Bool.not_true, Bool.not_false, List.map_cons, List.map_nil, List.nil_append, List.append_nil, Option.map_some, Option.map_none, if_true, if_false, true_and, and_true, Int.reduceEq, Int.reduceLT, Int.reduceLE, Int.reduceNeg, Nat.reduceAdd, Nat.reduceLeDiff, Bool.true_eq_false, Bool.false_eq_true, beq_self_eq_true]
      exact ⟨_, by omega, i + 1, rfl, by omega, by simp only [k0, AV.undef, unA, qs, qb, qe, qi, qp, qm, qh, set_newRow_at, Int.reduceToNat, Nat.reduceMul, List.getElem?_cons_succ, List.getElem?_cons_zero, false_implies, true_implies, forall_const, implies_true, set_newRow_lt, Nat.lt_add_one, Nat.min_eq_left, Nat.le_add_right, qc, fillA, evParts, repCells, wrRow_eq, splice, partA, List.length_cons, List.length_nil, List.take_succ_cons, List.take_zero, List.drop_succ_cons, List.drop_zero, List.cons_append, Option.bind_some, Nat.add_zero, Nat.zero_add, List.drop_nil, List.take_nil, Nat.le_refl, Nat.min_self, WO_pure, WO_mem, pureStep, memStep, WC_true, WC_false, WO_guardq, qg, retQ, resOf, resAll, resA, wp_some, kv_ite, km_ite, kv_none, ↓reduceIte, Nat.reduceEqDiff, reduceCtorEq, decide_true, decide_false, Bool.not_true, Bool.not_false, List.map_cons, List.map_nil, List.nil_append, List.append_nil, Option.map_some, Option.map_none, if_true, if_false, true_and, and_true, Int.reduceEq, Int.reduceLT, Int.reduceLE, Int.reduceNeg, Nat.reduceAdd, Nat.reduceLeDiff, Bool.true_eq_false, Bool.false_eq_true, beq_self_eq_true], by simp only [AV.undef, unA, qs, qb, qe, qi, qp, qm, qh, set_newRow_at, Int.reduceToNat, Nat.reduceMul, List.getElem?_cons_succ, List.getElem?_cons_zero, false_implies, true_implies, forall_const, implies_true, set_newRow_lt, Nat.lt_add_one, Nat.min_eq_left, Nat.le_add_right, qc, fillA, evParts, repCells, wrRow_eq, splice, partA, List.length_cons, List.length_nil, List.take_succ_cons, List.take_zero, List.drop_succ_cons, List.drop_zero, List.cons_append, Option.bind_some, Nat.add_zero, Nat.zero_add, List.drop_nil, List.take_nil, Nat.le_refl, Nat.min_self, WO_pure, WO_mem, pureStep, memStep, WC_true, WC_false, WO_guardq, qg, retQ, resOf, resAll, resA, wp_some, kv_ite, km_ite, kv_none, ↓reduceIte, Nat.reduceEqDiff, reduceCtorEq, decide_true, decide_false, Bool.not_true, Bool.not_false, List.map_cons, List.map_nil, List.nil_append, List.append_nil, Option.map_some, Option.map_none, if_true, if_false, true_and, and_true, Int.reduceEq, Int.reduceLT, Int.reduceLE, Int.reduceNeg, Nat.reduceAdd, Nat.reduceLeDiff, Bool.true_eq_false, Bool.false_eq_true, beq_self_eq_true], hgood hg, rfl, rfl⟩
    · have f1 : ¬ ((b.toNat : Int) = 45) := by omega
      have f2 : ¬ ((b.toNat : Int) < 48) := by omega
      have f3 : (57 : Int) < (b.toNat : Int) := by omega
      have f4 : ¬ ((b.toNat : Int) < 65) := by omega
      have f5 : (90 : Int) < (b.toNat : Int) := by omega
      have f6 : (b.toNat : Int) < 97 := by omega
      have f7 : ¬ ((122 : Int) < (b.toNat : Int)) := by omega
      have hg : isNm b = false := by unfold isNm; simp; omega
      rw [hbad hg] at h
      simp only [k0, k3, c1, c2, e4, hb, Int.toNat_natCast, f1, f2, f3, f4, f5, f6, f7, AV.undef, unA, qs, qb, qe, qi, qp, qm, qh, set_newRow_at, Int.reduceToNat, Nat.reduceMul, List.getElem?_cons_succ, List.getElem?_cons_zero, false_implies, true_implies, forall_const, implies_true, set_newRow_lt, Nat.lt_add_one, Nat.min_eq_left, Nat.le_add_right, qc, fillA, evParts, repCells, wrRow_eq, splice, partA, List.length_cons, List.length_nil, List.take_succ_cons, List.take_zero, List.drop_succ_cons, List.drop_zero, List.cons_append, Option.bind_some, Nat.add_zero, Nat.zero_add, List.drop_nil, List.take_nil, Nat.le_refl, Nat.min_self, WO_pure, WO_mem, pureStep, memStep, WC_true, WC_false, WO_guardq, qg, retQ, resOf, resAll, resA, wp_some, kv_ite, km_ite, kv_none, ↓reduceIte, Nat.reduceEqDiff, reduceCtorEq, decide_true, decide_false, Bool.not_true, Bool.not_false, List.map_cons, List.map_nil, List.nil_append, List.append_nil, Option.map_some, Option.map_none, if_true, if_false, true_and, and_true, Int.reduceEq, Int.reduceLT, Int.reduceLE, Int.reduceNeg, Nat.reduceAdd, Nat.reduceLeDiff, Bool.true_eq_false, Bool.false_eq_true, beq_self_eq_true]
      exact h
    · have f1 : ¬ ((b.toNat : Int) = 45) := by omega
      have f2 : ¬ ((b.toNat : Int) < 48) := by omega
      have f3 : (57 : Int) < (b.toNat : Int) := by omega
      have f4 : ¬ ((b.toNat : Int) < 65) := by omega
      have f5 : (90 : Int) < (b.toNat : Int) := by omega
      have f6 : ¬ ((b.toNat : Int) < 97) := by omega
      have f7 : ¬ ((122 : Int) < (b.toNat : Int)) := by omega
      have hg : isNm b = true := by unfold isNm; simp; omega
      simp only [k0, k3, c1, c2, e4, hb, Int.toNat_natCast, f1, f2, f3, f4, f5, f6, f7, AV.undef, unA, qs, qb, qe, qi, qp, qm, qh, set_newRow_at, Int.reduceToNat, Nat.reduceMul, List.getElem?_cons_succ, List.getElem?_cons_zero, false_implies, true_implies, forall_const, implies_true, set_newRow_lt, Nat.lt_add_one, Nat.min_eq_left, Nat.le_add_right, qc, fillA, evParts, repCells, wrRow_eq, splice, partA, List.length_cons, List.length_nil, List.take_succ_cons, List.take_zero, List.drop_succ_cons, List.drop_zero, List.cons_append, Option.bind_some, Nat.add_zero, Nat.zero_add, List.drop_nil, List.take_nil, Nat.le_refl, Nat.min_self, WO_pure, WO_mem, pureStep, memStep, WC_true, WC_false, WO_guardq, qg, retQ, resOf, resAll, resA, wp_some, kv_ite, km_ite, kv_none, ↓reduceIte, Nat.reduceEqDiff, reduceCtorEq, decide_true, decide_false, Bool.not_true, Bool.not_false, List.map_cons, List.map_nil, List.nil_append, List.append_nil, Option.map_some, Option.map_none, if_true, if_false, true_and, and_true, Int.reduceEq, Int.reduceLT, Int.reduceLE, Int.reduceNeg, Nat.reduceAdd, Nat.reduceLeDiff, Bool.true_eq_false, Bool.false_eq_true, beq_self_eq_true]
      exact ⟨_, by omega, i + 1, rfl, by omega, by simp only [k0, AV.undef, unA, qs, qb, qe, qi, qp, qm, qh, set_newRow_at, Int.reduceToNat, Nat.reduceMul, List.getElem?_cons_succ, List.getElem?_cons_zero, false_implies, true_implies, forall_const, implies_true, set_newRow_lt, Nat.lt_add_one, Nat.min_eq_left, Nat.le_add_right, qc, fillA, evParts, repCells, wrRow_eq, splice, partA, List.length_cons, List.length_nil, List.take_succ_cons, List.take_zero, List.drop_succ_cons, List.drop_zero, List.cons_append, Option.bind_some, Nat.add_zero, Nat.zero_add, List.drop_nil, List.take_nil, Nat.le_refl, Nat.min_self, WO_pure, WO_mem, pureStep, memStep, WC_true, WC_false, WO_guardq, qg, retQ, resOf, resAll, resA, wp_some, kv_ite, km_ite, kv_none, ↓reduceIte, Nat.reduceEqDiff, reduceCtorEq, decide_true, decide_false, Bool.not_true, Bool.not_false, List.map_cons, List.map_nil, List.nil_append, List.append_nil, Option.map_some, Option.map_none, if_true, if_false, true_and, and_true, Int.reduceEq, Int.reduceLT, Int.reduceLE, Int.reduceNeg, Nat.reduceAdd, Nat.reduceLeDiff, Bool.true_eq_false, Bool.false_eq_true, beq_self_eq_true], by simp only [AV.undef, unA, qs, qb, qe, qi, qp, qm, qh, set_newRow_at, Int.reduceToNat, Nat.reduceMul, List.getElem?_cons_succ, List.getElem?_cons_zero, false_implies, true_implies, forall_const, implies_true, set_newRow_lt, Nat.lt_add_one, Nat.min_eq_left, Nat.le_add_right, qc, fillA, evParts, repCells, wrRow_eq, splice, partA, List.length_cons, List.length_nil, List.take_succ_cons, List.take_zero, List.drop_succ_cons, List.drop_zero, List.cons_append, Option.bind_some, Nat.add_zero, Nat.zero_add, List.drop_nil, List.take_nil, Nat.le_refl, Nat.min_self, WO_pure, WO_mem, pureStep, memStep, WC_true, WC_false, WO_guardq, qg, retQ, resOf, resAll, resA, wp_some, kv_ite, km_ite, kv_none, ↓reduceIte, Nat.reduceEqDiff, reduceCtorEq, decide_true, decide_false, Bool.not_true, Bool.not_false, List.map_cons, List.map_nil, List.nil_append, List.append_nil, Option.map_some, Option.map_none, if_true, if_false, true_and, and_true, Int.reduceEq, Int.reduceLT, Int.reduceLE, Int.reduceNeg, Nat.reduceAdd, Nat.reduceLeDiff, Bool.true_eq_false, Bool.false_eq_true, beq_self_eq_true], hgood hg, rfl, rfl⟩
    · have f1 : ¬ ((b.toNat : Int) = 45) := by omega
      have f2 : ¬ ((b.toNat : Int) < 48) := by omega
      have f3 : (57 : Int) < (b.toNat : Int) := by omega
      have f4 : ¬ ((b.toNat : Int) < 65) := by omega
      have f5 : (90 : Int) < (b.toNat : Int) := by omega
      have f6 : ¬ ((b.toNat : Int) < 97) := by omega
      have f7 : (122 : Int) < (b.toNat : Int) := by omega
      have hg : isNm b = false := by unfold isNm; simp; omega
      rw [hbad hg] at h
      simp only [k0, k3, c1, c2, e4, hb, Int.toNat_natCast, f1, f2, f3, f4, f5, f6, f7, AV.undef, unA, qs, qb, qe, qi, qp, qm, qh, set_newRow_at, Int.reduceToNat, Nat.reduceMul, List.getElem?_cons_succ, List.getElem?_cons_zero, false_implies, true_implies, forall_const, implies_true, set_newRow_lt, Nat.lt_add_one, Nat.min_eq_left, Nat.le_add_right, qc, fillA, evParts, repCells, wrRow_eq, splice, partA, List.length_cons, List.length_nil, List.take_succ_cons, List.take_zero, List.drop_succ_cons, List.drop_zero, List.cons_append, Option.bind_some, Nat.add_zero, Nat.zero_add, List.drop_nil, List.take_nil, Nat.le_refl, Nat.min_self, WO_pure, WO_mem, pureStep, memStep, WC_true, WC_false, WO_guardq, qg, retQ, resOf, resAll, resA, wp_some, kv_ite, km_ite, kv_none, ↓reduceIte, Nat.reduceEqDiff, reduceCtorEq, decide_true, decide_false, Bool.not_true, Bool.not_false, List.map_cons, List.map_nil, List.nil_append, List.append_nil, Option.map_some, Option.map_none, if_true, if_false, true_and, and_true, Int.reduceEq, Int.reduceLT, Int.reduceLE, Int.reduceNeg, Nat.reduceAdd, Nat.reduceLeDiff, Bool.true_eq_false, Bool.false_eq_true, beq_self_eq_true]
      exact h
  · have c1 : ¬ (i : Int) < (s.length : Int) := by omega
    rw [List.take_of_length_le (by omega)] at hall
    unfold nameOk at h
    rw [hall] at h
    by_cases g1 : 1 ≤ s.length
    · have d1 : (1 : Int) ≤ (s.length : Int) := by omega
      by_cases g2 : s.length ≤ 24
      · have d2 : (s.length : Int) ≤ 24 := by omega
        simp only [g1, g2, Bool.true_and, decide_true] at h
        simp only [k0, k3, c1, d1, d2, AV.undef, unA, qs, qb, qe, qi, qp, qm, qh, set_newRow_at, Int.reduceToNat, Nat.reduceMul, List.getElem?_cons_succ, List.getElem?_cons_zero, false_implies, true_implies, forall_const, implies_true, set_newRow_lt, Nat.lt_add_one, Nat.min_eq_left, Nat.le_add_right, qc, fillA, evParts, repCells, wrRow_eq, splice, partA, List.length_cons, List.length_nil, List.take_succ_cons, List.take_zero, List.drop_succ_cons, List.drop_zero, List.cons_append, Option.bind_some, Nat.add_zero, Nat.zero_add, List.drop_nil, List.take_nil, Nat.le_refl, Nat.min_self, WO_pure, WO_mem, pureStep, memStep, WC_true, WC_false, WO_guardq, qg, retQ, resOf, resAll, resA, wp_some, kv_ite, km_ite, kv_none, ↓reduceIte, Nat.reduceEqDiff, reduceCtorEq, decide_true, decide_false, Bool.not_true, Bool.not_false, List.map_cons, List.map_nil, List.nil_append, List.append_nil, Option.map_some, Option.map_none, if_true, if_false, true_and, and_true, Int.reduceEq, Int.reduceLT, Int.reduceLE, Int.reduceNeg, Nat.reduceAdd, Nat.reduceLeDiff, Bool.true_eq_false, Bool.false_eq_true, beq_self_eq_true]
        exact h
      · have d2 : ¬ (s.length : Int) ≤ 24 := by omega
        simp only [g1, g2, Bool.true_and, decide_true, decide_false] at h
        simp only [k0, k3, c1, d1, d2, AV.undef, unA, qs, qb, qe, qi, qp, qm, qh, set_newRow_at, Int.reduceToNat, Nat.reduceMul, List.getElem?_cons_succ, List.getElem?_cons_zero, false_implies, true_implies, forall_const, implies_true, set_newRow_lt, Nat.lt_add_one, Nat.min_eq_left, Nat.le_add_right, qc, fillA, evParts, repCells, wrRow_eq, splice, partA, List.length_cons, List.length_nil, List.take_succ_cons, List.take_zero, List.drop_succ_cons, List.drop_zero, List.cons_append, Option.bind_some, Nat.add_zero, Nat.zero_add, List.drop_nil, List.take_nil, Nat.le_refl, Nat.min_self, WO_pure, WO_mem, pureStep, memStep, WC_true, WC_false, WO_guardq, qg, retQ, resOf, resAll, resA, wp_some, kv_ite, km_ite, kv_none, ↓reduceIte, Nat.reduceEqDiff, reduceCtorEq, decide_true, decide_false, Bool.not_true, Bool.not_false, List.map_cons, List.map_nil, List.nil_append, List.append_nil, Option.map_some, Option.map_none, if_true, if_false, true_and, and_true, Int.reduceEq, Int.reduceLT, Int.reduceLE, Int.reduceNeg, Nat.reduceAdd, Nat.reduceLeDiff, Bool.true_eq_false, Bool.false_eq_true, beq_self_eq_true]
        exact h
    · have d1 : ¬ (1 : Int) ≤ (s.length : Int) := by omega
      simp only [g1, Bool.true_and, Bool.false_and, decide_false] at h
      simp only [k0, k3, c1, d1, AV.undef, unA, qs, qb, qe, qi, qp, qm, qh, set_newRow_at, Int.reduceToNat, Nat.reduceMul, List.getElem?_cons_succ, List.getElem?_cons_zero, false_implies, true_implies, forall_const, implies_true, set_newRow_lt, Nat.lt_add_one, Nat.min_eq_left, Nat.le_add_right, qc, fillA, evParts, repCells, wrRow_eq, splice, partA, List.length_cons, List.length_nil, List.take_succ_cons, List.take_zero, List.drop_succ_cons, List.drop_zero, List.cons_append, Option.bind_some, Nat.add_zero, Nat.zero_add, List.drop_nil, List.take_nil, Nat.le_refl, Nat.min_self, WO_pure, WO_mem, pureStep, memStep, WC_true, WC_false, WO_guardq, qg, retQ, resOf, resAll, resA, wp_some, kv_ite, km_ite, kv_none, ↓reduceIte, Nat.reduceEqDiff, reduceCtorEq, decide_true, decide_false, Bool.not_true, Bool.not_false, List.map_cons, List.map_nil, List.nil_append, List.append_nil, Option.map_some, Option.map_none, if_true, if_false, true_and, and_true, Int.reduceEq, Int.reduceLT, Int.reduceLE, Int.reduceNeg, Nat.reduceAdd, Nat.reduceLeDiff, Bool.true_eq_false, Bool.false_eq_true, beq_self_eq_true]
      exact h
end Go.Proofs.Qq.Qqd

namespace Go.Proofs.Qq.Qqd
open Go.Proofs.Qq

/-- What makes a message right: its kind, how many numbers, its text. -/
def rightM (k : Int) (n : Nat) (s : List UInt8) : Bool := (msgSize k).2 && decide ((n : Int) = (msgSize k).1) && (decide (s = []) || (decide (k = 4) && nameOk s))

set_option maxHeartbeats 8000000 in
/-- barrowref12.Right -/
theorem run54 (k : Int) (a : Option (Nat × Nat)) (n : Nat) (c : Option Nat) (s : List UInt8) (hlen : s.length ≤ 9223372036854775806) (H : AHeap) (Q : AV → AHeap → Nat → Prop)
    (h : ∀ H', Ext H H' → Q (.bool (rightM k n s)) H' H.length) : WF T 54 [.agg [.int .i64 k, .slice a n c, .str s]] H Q := by
  refine (WF_code (fn := a54) rfl _ _ _).2 ?_
  have h' := h _ ((Ext.refl H).addRow [.int .i64 k, .slice a n c, .str s] 0)
  simp only [a54, AV.undef, unA, qs, qb, qe, qi, qp, qm, qh, set_newRow_at, Int.reduceToNat, Nat.reduceMul, List.getElem?_cons_succ, List.getElem?_cons_zero, false_implies, true_implies, forall_const, implies_true, set_newRow_lt, Nat.lt_add_one, Nat.min_eq_left, Nat.le_add_right, qc, fillA, evParts, repCells, wrRow_eq, splice, partA, List.length_cons, List.length_nil, List.take_succ_cons, List.take_zero, List.drop_succ_cons, List.drop_zero, List.cons_append, Option.bind_some, Nat.add_zero, Nat.zero_add, List.drop_nil, List.take_nil, Nat.le_refl, Nat.min_self, WO_pure, WO_mem, pureStep, memStep, WC_true, WC_false, WO_guardq, qg, retQ, resOf, resAll, resA, wp_some, kv_ite, km_ite, kv_none, ↓reduceIte, Nat.reduceEqDiff, reduceCtorEq, decide_true, decide_false, Bool.not_true, Bool.not_false, List.map_cons, List.map_nil, List.nil_append, List.append_nil, Option.map_some, Option.map_none, if_true, if_false, true_and, and_true, Int.reduceEq, Int.reduceLT, Int.reduceLE, Int.reduceNeg, Nat.reduceAdd, Nat.reduceLeDiff, Bool.true_eq_false, Bool.false_eq_true, beq_self_eq_true]
  refine WO_call rfl (run52 k _ _ ?_)
  simp only [AV.undef, unA, qs, qb, qe, qi, qp, qm, qh, set_newRow_at, Int.reduceToNat, Nat.reduceMul, List.getElem?_cons_succ, List.getElem?_cons_zero, false_implies, true_implies, forall_const, implies_true, set_newRow_lt, Nat.lt_add_one, Nat.min_eq_left, Nat.le_add_right, qc, fillA, evParts, repCells, wrRow_eq, splice, partA, List.length_cons, List.length_nil, List.take_succ_cons, List.take_zero, List.drop_succ_cons, List.drop_zero, List.cons_append, Option.bind_some, Nat.add_zero, Nat.zero_add, List.drop_nil, List.take_nil, Nat.le_refl, Nat.min_self, WO_pure, WO_mem, pureStep, memStep, WC_true, WC_false, WO_guardq, qg, retQ, resOf, resAll, resA, wp_some, kv_ite, km_ite, kv_none, ↓reduceIte, Nat.reduceEqDiff, reduceCtorEq, decide_true, decide_false, Bool.not_true, Bool.not_false, List.map_cons, List.map_nil, List.nil_append, List.append_nil, Option.map_some, Option.map_none, if_true, if_false, true_and, and_true, Int.reduceEq, Int.reduceLT, Int.reduceLE, Int.reduceNeg, Nat.reduceAdd, Nat.reduceLeDiff, Bool.true_eq_false, Bool.false_eq_true, beq_self_eq_true]
  refine WO_call rfl (run63 s hlen _ _ ?_)
  unfold rightM at h'
  generalize msgSize k = z at h'
  obtain ⟨zn, zb⟩ := z
  simp only [] at h'
  have es : binStr .eql s [] = some (.bool (decide (s = []))) := by
    unfold binStr; cases s <;> rfl
  cases zb with
  | false =>
    simp only [Bool.false_and] at h'
    simp only [AV.undef, unA, qs, qb, qe, qi, qp, qm, qh, set_newRow_at, Int.reduceToNat, Nat.reduceMul, List.getElem?_cons_succ, List.getElem?_cons_zero, false_implies, true_implies, forall_const, implies_true, set_newRow_lt, Nat.lt_add_one, Nat.min_eq_left, Nat.le_add_right, qc, fillA, evParts, repCells, wrRow_eq, splice, partA, List.length_cons, List.length_nil, List.take_succ_cons, List.take_zero, List.drop_succ_cons, List.drop_zero, List.cons_append, Option.bind_some, Nat.add_zero, Nat.zero_add, List.drop_nil, List.take_nil, Nat.le_refl, Nat.min_self, WO_pure, WO_mem, pureStep, memStep, WC_true, WC_false, WO_guardq, qg, retQ, resOf, resAll, resA, wp_some, kv_ite, km_ite, kv_none, ↓reduceIte, Nat.reduceEqDiff, reduceCtorEq, decide_true, decide_false, Bool.not_true, Bool.not_false, List.map_cons, List.map_nil, List.nil_append, List.append_nil, Option.map_some, Option.map_none, if_true, if_false, true_and, and_true, Int.reduceEq, Int.reduceLT, Int.reduceLE, Int.reduceNeg, Nat.reduceAdd, Nat.reduceLeDiff, Bool.true_eq_false, Bool.false_eq_true, beq_self_eq_true]
    exact h'
  | true =>
    by_cases hn : (n : Int) = zn
    · by_cases hs : s = []
      · simp only [hn, decide_eq_true hs, decide_true, Bool.true_and, Bool.true_or] at h'
        rw [decide_eq_true hs] at es
        simp only [hn, es, AV.undef, unA, qs, qb, qe, qi, qp, qm, qh, set_newRow_at, Int.reduceToNat, Nat.reduceMul, List.getElem?_cons_succ, List.getElem?_cons_zero, false_implies, true_implies, forall_const, implies_true, set_newRow_lt, Nat.lt_add_one, Nat.min_eq_left, Nat.le_add_right, qc, fillA, evParts, repCells, wrRow_eq, splice, partA, List.length_cons, List.length_nil, List.take_succ_cons, List.take_zero, List.drop_succ_cons, List.drop_zero, List.cons_append, Option.bind_some, Nat.add_zero, Nat.zero_add, List.drop_nil, List.take_nil, Nat.le_refl, Nat.min_self, WO_pure, WO_mem, pureStep, memStep, WC_true, WC_false, WO_guardq, qg, retQ, resOf, resAll, resA, wp_some, kv_ite, km_ite, kv_none, ↓reduceIte, Nat.reduceEqDiff, reduceCtorEq, decide_true, decide_false, Bool.not_true, Bool.not_false, List.map_cons, List.map_nil, List.nil_append, List.append_nil, Option.map_some, Option.map_none, if_true, if_false, true_and, and_true, Int.reduceEq, Int.reduceLT, Int.reduceLE, Int.reduceNeg, Nat.reduceAdd, Nat.reduceLeDiff, Bool.true_eq_false, Bool.false_eq_true, beq_self_eq_true]
        exact h'
      · rw [decide_eq_false hs] at es
        by_cases hk : k = 4
        · simp only [hn, hs, hk, decide_true, decide_false, Bool.true_and, Bool.false_or] at h'
          simp only [hn, es, hk, AV.undef, unA, qs, qb, qe, qi, qp, qm, qh, set_newRow_at, Int.reduceToNat, Nat.reduceMul, List.getElem?_cons_succ, List.getElem?_cons_zero, false_implies, true_implies, forall_const, implies_true, set_newRow_lt, Nat.lt_add_one, Nat.min_eq_left, Nat.le_add_right, qc, fillA, evParts, repCells, wrRow_eq, splice, partA, List.length_cons, List.length_nil, List.take_succ_cons, List.take_zero, List.drop_succ_cons, List.drop_zero, List.cons_append, Option.bind_some, Nat.add_zero, Nat.zero_add, List.drop_nil, List.take_nil, Nat.le_refl, Nat.min_self, WO_pure, WO_mem, pureStep, memStep, WC_true, WC_false, WO_guardq, qg, retQ, resOf, resAll, resA, wp_some, kv_ite, km_ite, kv_none, ↓reduceIte, Nat.reduceEqDiff, reduceCtorEq, decide_true, decide_false, Bool.not_true, Bool.not_false, List.map_cons, List.map_nil, List.nil_append, List.append_nil, Option.map_some, Option.map_none, if_true, if_false, true_and, and_true, Int.reduceEq, Int.reduceLT, Int.reduceLE, Int.reduceNeg, Nat.reduceAdd, Nat.reduceLeDiff, Bool.true_eq_false, Bool.false_eq_true, beq_self_eq_true]
          exact h'
        · simp only [hn, hs, hk, decide_true, decide_false, Bool.true_and, Bool.false_or, Bool.false_and] at h'
          simp only [hn, es, hk, AV.undef, unA, qs, qb, qe, qi, qp, qm, qh, set_newRow_at, Int.reduceToNat, Nat.reduceMul, List.getElem?_cons_succ, List.getElem?_cons_zero, false_implies, true_implies, forall_const, implies_true, set_newRow_lt, Nat.lt_add_one, Nat.min_eq_left, Nat.le_add_right, qc, fillA, evParts, repCells, wrRow_eq, splice, partA, List.length_cons, List.length_nil, List.take_succ_cons, List.take_zero, List.drop_succ_cons, List.drop_zero, List.cons_append, Option.bind_some, Nat.add_zero, Nat.zero_add, List.drop_nil, List.take_nil, Nat.le_refl, Nat.min_self, WO_pure, WO_mem, pureStep, memStep, WC_true, WC_false, WO_guardq, qg, retQ, resOf, resAll, resA, wp_some, kv_ite, km_ite, kv_none, ↓reduceIte, Nat.reduceEqDiff, reduceCtorEq, decide_true, decide_false, Bool.not_true, Bool.not_false, List.map_cons, List.map_nil, List.nil_append, List.append_nil, Option.map_some, Option.map_none, if_true, if_false, true_and, and_true, Int.reduceEq, Int.reduceLT, Int.reduceLE, Int.reduceNeg, Nat.reduceAdd, Nat.reduceLeDiff, Bool.true_eq_false, Bool.false_eq_true, beq_self_eq_true]
          exact h'
    · simp only [hn, decide_false, Bool.true_and, Bool.false_and] at h'
      simp only [hn, AV.undef, unA, qs, qb, qe, qi, qp, qm, qh, set_newRow_at, Int.reduceToNat, Nat.reduceMul, List.getElem?_cons_succ, List.getElem?_cons_zero, false_implies, true_implies, forall_const, implies_true, set_newRow_lt, Nat.lt_add_one, Nat.min_eq_left, Nat.le_add_right, qc, fillA, evParts, repCells, wrRow_eq, splice, partA, List.length_cons, List.length_nil, List.take_succ_cons, List.take_zero, List.drop_succ_cons, List.drop_zero, List.cons_append, Option.bind_some, Nat.add_zero, Nat.zero_add, List.drop_nil, List.take_nil, Nat.le_refl, Nat.min_self, WO_pure, WO_mem, pureStep, memStep, WC_true, WC_false, WO_guardq, qg, retQ, resOf, resAll, resA, wp_some, kv_ite, km_ite, kv_none, ↓reduceIte, Nat.reduceEqDiff, reduceCtorEq, decide_true, decide_false, Bool.not_true, Bool.not_false, List.map_cons, List.map_nil, List.nil_append, List.append_nil, Option.map_some, Option.map_none, if_true, if_false, true_and, and_true, Int.reduceEq, Int.reduceLT, Int.reduceLE, Int.reduceNeg, Nat.reduceAdd, Nat.reduceLeDiff, Bool.true_eq_false, Bool.false_eq_true, beq_self_eq_true]
      exact h'
end Go.Proofs.Qq.Qqd

namespace Go.Proofs.Qq.Qqd
open Go.Proofs.Qq

/-- A set of letters in memory. -/
def SetAt (H : AHeap) (i : Nat) (P : UInt8 → Bool) : Prop := ∃ r, hOf H i = some r ∧ ∀ b : UInt8, r.cells[b.toNat]? = some (.bool (P b))
theorem SetAt.ext {H H' : AHeap} {i : Nat} {P : UInt8 → Bool} (h : SetAt H i P) (hx : Ext H H') : SetAt H' i P := let ⟨r, h1, h2⟩ := h; ⟨r, hx.row _ _ h1, h2⟩

/-- (*strings.asciiSet).contains -/
theorem p117 (H : AHeap) (i : Nat) (P : UInt8 → Bool) (hs : SetAt H i P) (b : UInt8) : PF T 117 [.ptr (some (i, 0)), .int .u8 (b.toNat : Int)] H fun r H' => r = .bool (P b) ∧ H = H' := by
  refine PF_code rfl _ _ _ ?_
  obtain ⟨r, hr, hc⟩ := hs
  have h256 : b.toNat < 256 := b.toNat_lt
  have hl : loadA false 1 H (.ptr (some (i, b.toNat))) = some (.bool (P b)) := by rw [loadA_ptr, hr]; exact hc b
  simp only [a117]
  simp (disch := first | omega | assumption | (simp only [zl] <;> omega) | fail) only [hl, zd, zs, seval, AV.undef, unA, fillA, evParts, repCells, splice, partA, pureStep, memStep, resOf, resAll, resA, nilckA, bne, ↓reduceIte, Nat.reduceEqDiff, reduceCtorEq, Int.reduceToNat, Int.reduceNeg, Nat.reduceLeDiff]
  exact Ext.refl _

def setL (L : List UInt8) : UInt8 → Bool := fun b => L.contains b

theorem setL_take {L : List UInt8} {j : Nat} {x : UInt8} (h : L[j]? = some x) (b : UInt8) : setL (L.take (j + 1)) b = (setL (L.take j) b || b == x) := by
  unfold setL; rw [List.take_add_one, h]; simp only [Option.toList_some, List.contains_eq_any_beq, List.any_append, List.any_cons, List.any_nil, Bool.or_false]

theorem rep1_len (v : AV) : ∀ n, (repCells [v] n).length = n
  | 0 => rfl
  | n + 1 => by rw [repCells, List.length_append, rep1_len v n, List.length_cons, List.length_nil]; omega

/-- strings.makeASCIISet -/
theorem p100 (L : List UInt8) (hL : ∀ x, x ∈ L → x.toNat < 128) (hlen : L.length ≤ 1000) (H : AHeap) : PF T 100 [.str L] H fun r _ => ∃ cs, r = .tup [.agg cs, .bool true] ∧ cs.length = 256 ∧ ∀ b : UInt8, cs[b.toNat]? = some (.bool (setL L b)) := by
  refine PF_code rfl _ _ _ ?_
  simp only [a100]
  generalize hz : repCells [AV.bool false] 256 = z
  have hz1 : z.length = 256 := by rw [← hz]; exact rep1_len _ 256
  have hz2 : ∀ b : UInt8, z[b.toNat]? = some (.bool false) := by
    intro b
    have : ∀ n, n < 256 → (repCells [AV.bool false] 256)[n]? = some (.bool false) := by
      have h : ∀ m n, n < m → (repCells [AV.bool false] m)[n]? = some (.bool false) := by
        intro m
        induction m with
        | zero => intro n h; omega
        | succ m ih =>
          intro n h
          cases n with
          | zero => rfl
          | succ n => exact ih n (by omega)
      exact h 256
    rw [← hz]; exact this _ b.toNat_lt
  simp (disch := first | omega | assumption | (simp only [zl] <;> omega) | fail) only [zd, zs, seval, AV.undef, unA, fillA, evParts, repCells, splice, partA, pureStep, memStep, resOf, resAll, resA, nilckA, bne, ↓reduceIte, Nat.reduceEqDiff, reduceCtorEq, Int.reduceToNat, Int.reduceNeg, Nat.reduceLeDiff]
  refine WC_loop (fun m s => ∃ j cs, m = L.length - j ∧ j ≤ L.length ∧ s.env 0 = .str L ∧ s.env 2 = .ptr (some (H.length, 0)) ∧ s.env 4 = .int .i64 (j : Int) ∧ s.heap = newRow H cs 0 ∧ s.low = H.length ∧ cs.length = 256 ∧ ∀ b : UInt8, cs[b.toNat]? = some (.bool (setL (L.take j) b))) ?_ L.length _ ⟨0, z, rfl, by omega, rfl, rfl, rfl, rfl, rfl, hz1, fun b => by rw [hz2]; rfl⟩
  rintro m ⟨e, H', l⟩ ⟨j, cs, hm, hj, k0, k2, k4, rfl, rfl, hcl, hcs⟩
  simp only [] at k0 k2 k4
  by_cases hlt : j < L.length
  · obtain ⟨x, hx⟩ : ∃ x, L[j]? = some x := ⟨L[j], List.getElem?_eq_getElem hlt⟩
    have h128 := hL x (List.mem_of_getElem? hx)
    have c1 : ¬ (128 : Int) ≤ (x.toNat : Int) := by omega
    simp (disch := first | omega | assumption | (simp only [zl] <;> omega) | fail) only [k0, k2, k4, hx, c1, zd, zs, seval, AV.undef, unA, fillA, evParts, repCells, splice, partA, pureStep, memStep, resOf, resAll, resA, nilckA, bne, ↓reduceIte, Nat.reduceEqDiff, reduceCtorEq, Int.reduceToNat, Int.reduceNeg, Nat.reduceLeDiff]
    refine ⟨_, ?_, j + 1, _, rfl, by omega, rfl, rfl, ?_, ?_⟩
    · omega
    · simp only [List.length_append, List.length_take, List.length_drop, List.length_cons, List.length_nil]; omega
    · intro b
      rw [setL_take hx]
      by_cases hb : b = x
      · subst hb
        rw [List.append_assoc, List.getElem?_append_right (by rw [List.length_take]; omega), List.length_take, Nat.min_eq_left (by omega), Nat.sub_self]
        simp
      · have hn : b.toNat ≠ x.toNat := fun e => hb (UInt8.toNat_inj.1 e)
        have : (b == x) = false := by simpa using hb
        rw [this, Bool.or_false, ← hcs b]
        rcases Nat.lt_or_gt_of_ne hn with h | h
        · rw [List.append_assoc, List.getElem?_append_left (by simp; omega), List.getElem?_take, if_pos h]
        · rw [List.getElem?_append_right (by simp; omega), List.getElem?_drop]
          simp only [List.length_append, List.length_take, List.length_cons, List.length_nil]
          congr 1; omega
  · have hj' : j = L.length := by omega
    subst hj'
    rw [List.take_length] at hcs
    have ht : cs.take 256 = cs := List.take_of_length_le (by omega)
    have hd : cs.drop 256 = [] := List.drop_eq_nil_of_le (by omega)
    simp (disch := first | omega | assumption | (simp only [zl] <;> omega) | fail) only [k0, k2, k4, hcl, ht, hd, zd, zs, seval, AV.undef, unA, fillA, evParts, repCells, splice, partA, pureStep, memStep, resOf, resAll, resA, nilckA, bne, ↓reduceIte, Nat.reduceEqDiff, reduceCtorEq, Int.reduceToNat, Int.reduceNeg, Nat.reduceLeDiff]
    exact ⟨(Ext.refl H).nr, cs, rfl, hcl, hcs⟩

def TrInv (s : List UInt8) (P : UInt8 → Bool) (i : Nat) (H : AHeap) (n : Nat) (st : AS) : Prop :=
  ∃ cur suf : List UInt8, n = cur.length ∧ s = cur ++ suf ∧ suf.all P = true ∧ st.env 0 = .str cur ∧ st.env 1 = .ptr (some (i, 0)) ∧ st.heap = H ∧ st.low = H.length

/-- strings.trimRightASCII -/
theorem p102 (H : AHeap) (i : Nat) (P : UInt8 → Bool) (hs : SetAt H i P) (s : List UInt8) (hlen : s.length ≤ 9223372036854775806) :
    PF T 102 [.str s, .ptr (some (i, 0))] H fun r _ => ∃ cur suf, r = .str cur ∧ s = cur ++ suf ∧ suf.all P = true ∧ (cur = [] ∨ ∃ ini b, cur = ini ++ [b] ∧ P b = false) := by
  refine PF_code rfl _ _ _ ?_
  simp only [a102]
  simp (disch := first | omega | assumption | (simp only [zl] <;> omega) | fail) only [zd, zs, seval, AV.undef, unA, fillA, evParts, repCells, splice, partA, pureStep, memStep, resOf, resAll, resA, nilckA, bne, ↓reduceIte, Nat.reduceEqDiff, reduceCtorEq, Int.reduceToNat, Int.reduceNeg, Nat.reduceLeDiff]
  refine WC_loop (TrInv s P i H) ?_ s.length _ ⟨s, [], rfl, by simp, rfl, rfl, rfl, rfl, rfl⟩
  rintro n ⟨e, H', lw⟩ ⟨cur, suf, hn, hsc, hsuf, k0, k1, kH, kL⟩
  simp only [] at k0 k1 kH kL
  subst kH; subst kL
  have hcl : cur.length ≤ s.length := by rw [hsc]; simp
  rcases List.eq_nil_or_concat cur with hcur | ⟨ini, b, hcur⟩
  · subst hcur
    have c1 : ¬ (0 : Int) < (([] : List UInt8).length : Int) := by simp
    simp (disch := first | omega | assumption | (simp only [zl] <;> omega) | fail) only [k0, k1, c1, zd, zs, seval, AV.undef, unA, fillA, evParts, repCells, splice, partA, pureStep, memStep, resOf, resAll, resA, nilckA, bne, ↓reduceIte, Nat.reduceEqDiff, reduceCtorEq, Int.reduceToNat, Int.reduceNeg, Nat.reduceLeDiff]
    exact ⟨Ext.refl _, [], suf, rfl, hsc, hsuf, .inl rfl⟩
  · have hl : cur.length = ini.length + 1 := by rw [hcur]; simp
    have c1 : (0 : Int) < (cur.length : Int) := by omega
    have e1 : IntKind.i64.wrap ((cur.length : Int) - 1) = ((ini.length : Nat) : Int) := by rw [w64 (by omega) (by omega)]; omega
    have c2 : (0 : Int) ≤ ((ini.length : Nat) : Int) := by omega
    have hb : cur[ini.length]? = some b := by rw [hcur]; simp
    simp (disch := first | omega | assumption | (simp only [zl] <;> omega) | fail) only [k0, k1, c1, c2, e1, hb, zd, zs, seval, AV.undef, unA, fillA, evParts, repCells, splice, partA, pureStep, memStep, resOf, resAll, resA, nilckA, bne, ↓reduceIte, Nat.reduceEqDiff, reduceCtorEq, Int.reduceToNat, Int.reduceNeg, Nat.reduceLeDiff]
    refine WO_callP rfl (Ext.refl _) (p117 _ i P hs b) ?_
    rintro v _ _ _ ⟨rfl, rfl⟩
    simp (disch := first | omega | assumption | (simp only [zl] <;> omega) | fail) only [zd, zs, seval, AV.undef, unA, fillA, evParts, repCells, splice, partA, pureStep, memStep, resOf, resAll, resA, nilckA, bne, ↓reduceIte, Nat.reduceEqDiff, reduceCtorEq, Int.reduceToNat, Int.reduceNeg, Nat.reduceLeDiff]
    refine WC_split (fun g => ?_) (fun g => ?_)
    · simp (disch := first | omega | assumption | (simp only [zl] <;> omega) | fail) only [k0, k1, zd, zs, seval, AV.undef, unA, fillA, evParts, repCells, splice, partA, pureStep, memStep, resOf, resAll, resA, nilckA, bne, ↓reduceIte, Nat.reduceEqDiff, reduceCtorEq, Int.reduceToNat, Int.reduceNeg, Nat.reduceLeDiff]
      exact ⟨Ext.refl _, cur, suf, rfl, hsc, hsuf, .inr ⟨ini, b, by rw [hcur]; simp, by simpa using g⟩⟩
    · have c3 : (0 : Int) ≤ ((ini.length : Nat) : Int) ∧ ((ini.length : Nat) : Int) ≤ (cur.length : Int) := by omega
      have e2 : (cur.take ini.length).drop 0 = ini := by rw [hcur]; simp
      have hP : P b = true := by simpa using g
      simp (disch := first | omega | assumption | (simp only [zl] <;> omega) | fail) only [k0, k1, c3, e1, e2, hiA, loA, boundA, zd, zs, seval, AV.undef, unA, fillA, evParts, repCells, splice, partA, pureStep, memStep, resOf, resAll, resA, nilckA, bne, ↓reduceIte, Nat.reduceEqDiff, reduceCtorEq, Int.reduceToNat, Int.reduceNeg, Nat.reduceLeDiff]
      exact ⟨_, by omega, ini, b :: suf, rfl, by rw [hsc, hcur]; simp, by rw [List.all_cons, hP, hsuf]; rfl, by simp only [zs, seval, AV.undef, unA, fillA, evParts, repCells, splice, partA, pureStep, memStep, resOf, resAll, resA, nilckA, bne, ↓reduceIte, Nat.reduceEqDiff, reduceCtorEq, Int.reduceToNat, Int.reduceNeg, Nat.reduceLeDiff], by simp only [k1, zs, seval, AV.undef, unA, fillA, evParts, repCells, splice, partA, pureStep, memStep, resOf, resAll, resA, nilckA, bne, ↓reduceIte, Nat.reduceEqDiff, reduceCtorEq, Int.reduceToNat, Int.reduceNeg, Nat.reduceLeDiff], rfl, rfl⟩

/-- strings.trimLeftASCII -/
theorem p101 (H : AHeap) (i : Nat) (P : UInt8 → Bool) (hs : SetAt H i P) (s : List UInt8) (hlen : s.length ≤ 9223372036854775806) :
    PF T 101 [.str s, .ptr (some (i, 0))] H fun r _ => ∃ pre cur, r = .str cur ∧ s = pre ++ cur ∧ pre.all P = true ∧ (cur = [] ∨ ∃ b tl, cur = b :: tl ∧ P b = false) := by
  refine PF_code rfl _ _ _ ?_
  simp only [a101]
  simp (disch := first | omega | assumption | (simp only [zl] <;> omega) | fail) only [zd, zs, seval, AV.undef, unA, fillA, evParts, repCells, splice, partA, pureStep, memStep, resOf, resAll, resA, nilckA, bne, ↓reduceIte, Nat.reduceEqDiff, reduceCtorEq, Int.reduceToNat, Int.reduceNeg, Nat.reduceLeDiff]
  refine WC_loop (fun n st => ∃ pre cur : List UInt8, n = cur.length ∧ s = pre ++ cur ∧ pre.all P = true ∧ st.env 0 = .str cur ∧ st.env 1 = .ptr (some (i, 0)) ∧ st.heap = H ∧ st.low = H.length) ?_ s.length _ ⟨[], s, rfl, rfl, rfl, rfl, rfl, rfl, rfl⟩
  rintro n ⟨e, H', lw⟩ ⟨pre, cur, hn, hsc, hpre, k0, k1, kH, kL⟩
  simp only [] at k0 k1 kH kL
  subst kH; subst kL
  have hcl : cur.length ≤ s.length := by rw [hsc]; simp
  cases cur with
  | nil =>
    have c1 : ¬ (0 : Int) < (([] : List UInt8).length : Int) := by simp
    simp (disch := first | omega | assumption | (simp only [zl] <;> omega) | fail) only [k0, k1, c1, zd, zs, seval, AV.undef, unA, fillA, evParts, repCells, splice, partA, pureStep, memStep, resOf, resAll, resA, nilckA, bne, ↓reduceIte, Nat.reduceEqDiff, reduceCtorEq, Int.reduceToNat, Int.reduceNeg, Nat.reduceLeDiff]
    exact ⟨Ext.refl _, pre, [], rfl, hsc, hpre, .inl rfl⟩
  | cons b tl =>
    have c1 : (0 : Int) < ((b :: tl).length : Int) := by rw [List.length_cons]; omega
    have hb : (b :: tl)[(0 : Nat)]? = some b := rfl
    have hl : (b :: tl).length = tl.length + 1 := rfl
    have q2 : (0 : Int) ≤ 1 ∧ (1 : Int) ≤ (((tl.length + 1 : Nat)) : Int) := by omega
    have q3 : ((b :: tl).take (tl.length + 1)).drop 1 = tl := by rw [← hl, List.take_length]; rfl
    simp (disch := first | omega | assumption | (simp only [zl] <;> omega) | fail) only [k0, k1, c1, hb, Int.reduceToNat, zd, zs, seval, AV.undef, unA, fillA, evParts, repCells, splice, partA, pureStep, memStep, resOf, resAll, resA, nilckA, bne, ↓reduceIte, Nat.reduceEqDiff, reduceCtorEq, Int.reduceToNat, Int.reduceNeg, Nat.reduceLeDiff]
    refine WO_callP rfl (Ext.refl _) (p117 _ i P hs b) ?_
    rintro v _ _ _ ⟨rfl, rfl⟩
    simp (disch := first | omega | assumption | (simp only [zl] <;> omega) | fail) only [zd, zs, seval, AV.undef, unA, fillA, evParts, repCells, splice, partA, pureStep, memStep, resOf, resAll, resA, nilckA, bne, ↓reduceIte, Nat.reduceEqDiff, reduceCtorEq, Int.reduceToNat, Int.reduceNeg, Nat.reduceLeDiff]
    refine WC_not (fun g => ?_) (fun g => ?_)
    · simp (disch := first | omega | assumption | (simp only [zl] <;> omega) | fail) only [k0, k1, zd, zs, seval, AV.undef, unA, fillA, evParts, repCells, splice, partA, pureStep, memStep, resOf, resAll, resA, nilckA, bne, ↓reduceIte, Nat.reduceEqDiff, reduceCtorEq, Int.reduceToNat, Int.reduceNeg, Nat.reduceLeDiff]
      exact ⟨Ext.refl _, pre, b :: tl, rfl, hsc, hpre, .inr ⟨b, tl, rfl, g⟩⟩
    · simp (disch := first | omega | assumption | (simp only [zl] <;> omega) | fail) only [k0, k1, hl, q2, q3, hiA, loA, boundA, zd, zs, seval, AV.undef, unA, fillA, evParts, repCells, splice, partA, pureStep, memStep, resOf, resAll, resA, nilckA, bne, ↓reduceIte, Nat.reduceEqDiff, reduceCtorEq, Int.reduceToNat, Int.reduceNeg, Nat.reduceLeDiff]
      exact ⟨_, by omega, pre ++ [b], tl, rfl, by rw [hsc]; simp, by rw [List.all_append, hpre]; simp [g], by rw [List.take_length]⟩

/-- strings.Trim's emptiness, for letters below 128. -/
theorem p73 (L s : List UInt8) (hL : ∀ x, x ∈ L → x.toNat < 128) (h2 : 2 ≤ L.length) (hlen : L.length ≤ 1000) (hs : s.length ≤ 9223372036854775806) (H : AHeap) :
    PF T 73 [.str s, .str L] H fun r _ => ∃ t, r = .str t ∧ (t = [] ↔ s.all (setL L) = true) := by
  refine PF_code rfl _ _ _ ?_
  simp only [a73]
  have es : binStr .eql s [] = some (.bool (decide (s = []))) := by unfold binStr; cases s <;> rfl
  have eL : binStr .eql L [] = some (.bool false) := by
    unfold binStr; cases L with
    | nil => simp at h2
    | cons x xs => rfl
  generalize hz : repCells [AV.bool false] 256 = z
  have hz1 : z.length = 256 := by rw [← hz]; exact rep1_len _ 256
  by_cases h0 : s = []
  · subst h0
    simp (disch := first | omega | assumption | (simp only [zl] <;> omega) | fail) only [es, eL, zd, zs, seval, AV.undef, unA, fillA, evParts, repCells, splice, partA, pureStep, memStep, resOf, resAll, resA, nilckA, bne, ↓reduceIte, Nat.reduceEqDiff, reduceCtorEq, Int.reduceToNat, Int.reduceNeg, Nat.reduceLeDiff]
    exact ⟨Ext.refl _, [], rfl, by simp⟩
  rw [decide_eq_false h0] at es
  have c1 : ¬ (L.length : Int) = 1 := by omega
  simp (disch := first | omega | assumption | (simp only [zl] <;> omega) | fail) only [es, eL, c1, zd, zs, seval, AV.undef, unA, fillA, evParts, repCells, splice, partA, pureStep, memStep, resOf, resAll, resA, nilckA, bne, ↓reduceIte, Nat.reduceEqDiff, reduceCtorEq, Int.reduceToNat, Int.reduceNeg, Nat.reduceLeDiff]
  refine WO_callP rfl (Ext.refl _) (p100 L hL hlen H) ?_
  rintro v H1 hx1 _ ⟨cs, rfl, hcl, hcs⟩
  have ht : z.take 0 ++ cs ++ z.drop 256 = cs := by simp [List.drop_eq_nil_of_le (show z.length ≤ 256 by omega)]
  have hlen1 := hx1.len
  have hd : z.drop 256 = [] := List.drop_eq_nil_of_le (by omega)
  simp (disch := first | omega | assumption | (simp only [zl] <;> omega) | fail) only [hcl, hd, zd, zs, seval, AV.undef, unA, fillA, evParts, repCells, splice, partA, pureStep, memStep, resOf, resAll, resA, nilckA, bne, ↓reduceIte, Nat.reduceEqDiff, reduceCtorEq, Int.reduceToNat, Int.reduceNeg, Nat.reduceLeDiff]
  have hset : SetAt (newRow H1 cs 0) H1.length (setL L) := ⟨_, by rw [hOf_newRow, if_pos rfl], hcs⟩
  refine WO_callP rfl hx1.nr (p102 _ _ _ hset s hs) ?_
  rintro v H2 hx2 hx3 ⟨cur, suf, rfl, hsc, hsuf, hcur⟩
  have hcl2 : cur.length ≤ s.length := by rw [hsc]; simp
  simp (disch := first | omega | assumption | (simp only [zl] <;> omega) | fail) only [zd, zs, seval, AV.undef, unA, fillA, evParts, repCells, splice, partA, pureStep, memStep, resOf, resAll, resA, nilckA, bne, ↓reduceIte, Nat.reduceEqDiff, reduceCtorEq, Int.reduceToNat, Int.reduceNeg, Nat.reduceLeDiff]
  refine WO_callP rfl hx2 (p101 _ _ _ (hset.ext hx3) cur (by omega)) ?_
  rintro v H3 hx4 hx5 ⟨pre, cu2, rfl, hsc2, hpre, hcur2⟩
  simp (disch := first | omega | assumption | (simp only [zl] <;> omega) | fail) only [zd, zs, seval, AV.undef, unA, fillA, evParts, repCells, splice, partA, pureStep, memStep, resOf, resAll, resA, nilckA, bne, ↓reduceIte, Nat.reduceEqDiff, reduceCtorEq, Int.reduceToNat, Int.reduceNeg, Nat.reduceLeDiff]
  refine ⟨hx4, cu2, rfl, ?_⟩
  rw [hsc, List.all_append, hsuf, Bool.and_true]
  constructor
  · rintro rfl
    rw [hsc2, List.append_nil]; exact hpre
  · intro hall
    rcases hcur with rfl | ⟨ini, b, rfl, hb⟩
    · cases pre with
      | nil => simpa using hsc2.symm
      | cons _ _ => simp at hsc2
    · rw [List.all_append] at hall
      simp [hb] at hall

def letters : List UInt8 := [97, 98, 99, 100, 101, 102, 103, 104, 105, 106, 107, 108, 109, 110, 111, 112, 113, 114, 115, 116, 117, 118, 119, 120, 121, 122, 65, 66, 67, 68, 69, 70, 71, 72, 73, 74, 75, 76, 77, 78, 79, 80, 81, 82, 83, 84, 85, 86, 87, 88, 89, 90, 48, 49, 50, 51, 52, 53, 54, 55, 56, 57, 45]
theorem letters_lt : ∀ x, x ∈ letters → x.toNat < 128 := by
  have : letters.all (fun x => decide (x.toNat < 128)) = true := by decide +kernel
  intro x hx
  simpa using List.all_eq_true.1 this x hx
theorem letters_nm : ∀ b : UInt8, setL letters b = isNm b := by
  have : ∀ n, n < 256 → setL letters (UInt8.ofNat n) = isNm (UInt8.ofNat n) := by decide +kernel
  intro b
  have h := this b.toNat b.toNat_lt
  simpa using h

/-- command.Name -/
theorem p37 (s : List UInt8) (hs : s.length ≤ 9223372036854775806) (H : AHeap) : PF T 37 [.str s] H fun r _ => r = .bool (nameOk s) := by
  refine PF_code rfl _ _ _ ?_
  simp only [a37]
  have es : binStr .neq s [] = some (.bool (!decide (s = []))) := by unfold binStr; cases s <;> rfl
  unfold nameOk
  by_cases h0 : s = []
  · subst h0
    simp (disch := first | omega | assumption | (simp only [zl] <;> omega) | fail) only [es, zd, zs, seval, AV.undef, unA, fillA, evParts, repCells, splice, partA, pureStep, memStep, resOf, resAll, resA, nilckA, bne, ↓reduceIte, Nat.reduceEqDiff, reduceCtorEq, Int.reduceToNat, Int.reduceNeg, Nat.reduceLeDiff]
    exact ⟨Ext.refl _, rfl⟩
  rw [decide_eq_false h0] at es
  have h1 : 1 ≤ s.length := by cases s with | nil => exact absurd rfl h0 | cons _ _ => simp
  by_cases h24 : s.length ≤ 24
  · have c1 : (s.length : Int) ≤ 24 := by omega
    simp (disch := first | omega | assumption | (simp only [zl] <;> omega) | fail) only [es, c1, zd, zs, seval, AV.undef, unA, fillA, evParts, repCells, splice, partA, pureStep, memStep, resOf, resAll, resA, nilckA, bne, ↓reduceIte, Nat.reduceEqDiff, reduceCtorEq, Int.reduceToNat, Int.reduceNeg, Nat.reduceLeDiff]
    refine WO_callP rfl (Ext.refl _) (p73 letters s letters_lt (by decide) (by decide) hs H) ?_
    rintro v H1 hx1 _ ⟨t, rfl, ht⟩
    have et : binStr .eql t [] = some (.bool (decide (t = []))) := by unfold binStr; cases t <;> rfl
    simp (disch := first | omega | assumption | (simp only [zl] <;> omega) | fail) only [et, zd, zs, seval, AV.undef, unA, fillA, evParts, repCells, splice, partA, pureStep, memStep, resOf, resAll, resA, nilckA, bne, ↓reduceIte, Nat.reduceEqDiff, reduceCtorEq, Int.reduceToNat, Int.reduceNeg, Nat.reduceLeDiff]
    refine ⟨hx1, ?_⟩
    congr 1
    have : setL letters = isNm := funext letters_nm
    rw [this] at ht
    simp only [decide_eq_true h1, decide_eq_true h24, Bool.and_true]
    rw [Bool.eq_iff_iff, decide_eq_true_iff, ht]
  · have c1 : ¬ (s.length : Int) ≤ 24 := by omega
    simp (disch := first | omega | assumption | (simp only [zl] <;> omega) | fail) only [es, c1, zd, zs, seval, AV.undef, unA, fillA, evParts, repCells, splice, partA, pureStep, memStep, resOf, resAll, resA, nilckA, bne, ↓reduceIte, Nat.reduceEqDiff, reduceCtorEq, Int.reduceToNat, Int.reduceNeg, Nat.reduceLeDiff]
    refine ⟨Ext.refl _, ?_⟩
    simp [h24]
end Go.Proofs.Qq.Qqd

