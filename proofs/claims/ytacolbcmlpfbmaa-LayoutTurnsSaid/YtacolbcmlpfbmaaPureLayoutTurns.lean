/- A stripe's shards lie on unlike disks, all of them, and each disk's shard is the one that lies there: LayoutTurns, for every input. -/
import Derived.Test.YtacolbcmlpfbmaaPAllx8
import Derived.Test.YtacolbcmlpfbmaaLayA
namespace Go.Proofs.Ytacolbcmlpfbmaa.Pure
open Go.RowKit Go.Proofs.Ytacolbcmlpfbmaa.PAll Go.Proofs.YtacolbcmlpfbmaaW.PrintWords Go.Proofs.YtacolbcmlpfbmaaW.PrintLast Go.Proofs.Ytacolbcmlpfbmaa.LayA
set_option linter.unusedVariables false

theorem turns (K M Z T L O : Int) (hK : R K) (hM : R M) (hg : LayA.Good K M Z T L O) (s : Int) (hs : 0 ≤ s ∧ s < T) (r : Nat) : ∀ (i : Int) (used : List Bool), used.length = 32 → 0 ≤ i → i + r = K + M →
    (∀ j, i ≤ j → j < K + M → rdOf false used ((j + s) % (K + M)) = false) → Ev (fun k => aumbrylaw14_LayoutTurns.l0 k s true (K + M) used i K M Z T L O) true := by
  have hg' := hg
  unfold LayA.Good at hg'
  induction r with
  | zero =>
    intro i used hl hi hr hno
    refine Ev.step (fun k => by rw [aumbrylaw14_LayoutTurns.l0]) (ev_neg (by omega) ?_)
    refine Ev.step (fun k => by rw [aumbrylaw14_LayoutTurns.j2]) (ev_neg (by decide) (Ev.now _))
  | succ r ih =>
    intro i used hl hi hr hno
    have m0 := Int.emod_nonneg (i + s) (show K + M ≠ 0 by omega)
    have m1 := Int.emod_lt_of_pos (i + s) (show 0 < K + M by omega)
    have e1 : dsk K M Z T L O s i = (i + s) % (K + M) := by unfold dsk; rw [if_pos ⟨hg, hs, by omega, by omega⟩]
    have e2 : shd K M Z T L O s ((i + s) % (K + M)) = i := by
      unfold shd
      rw [if_pos ⟨hg, hs, m0, m1⟩]
      exact (shard_of (by omega) ⟨by omega, by omega⟩ ⟨m0, m1⟩).1 rfl
    refine Ev.step (fun k => by rw [aumbrylaw14_LayoutTurns.l0]) (ev_pos (by omega) ?_)
    rw [decide_eq_true (by omega)]
    refine Ev.step (fun k => by rw [aumbrylaw14_LayoutTurns.j2]) (ev_pos rfl (Ev.bind (disk K M Z T L O hK hM s i) ?_))
    rw [e1]
    refine ev_neg (by omega) (ev_neg (by omega) (ev_pos (by omega) (ev_pos (by omega) (ev_neg (by rw [hno i (Int.le_refl _) (by omega)]; decide) (Ev.bind (shard K M Z T L O hK hM s _) ?_)))))
    rw [e2, show (i != i) = false from by simp]
    refine Ev.step (fun k => by rw [aumbrylaw14_LayoutTurns.j3]) (ev_neg (by decide) (ev_pos (by omega) (ev_pos (by omega) ?_)))
    rw [w64 (by omega) (by omega)]
    refine ih (i + 1) _ (by simp [hl]) (by omega) (by omega) (fun j h1 h2 => ?_)
    have h3 := hno j (by omega) h2
    have n0 := Int.emod_nonneg (j + s) (show K + M ≠ 0 by omega)
    have n1 := Int.emod_lt_of_pos (j + s) (show 0 < K + M by omega)
    have h4 : (j + s) % (K + M) ≠ (i + s) % (K + M) := by
      intro h
      have h5 := (shard_of (s := s) (by omega) ⟨by omega, h2⟩ ⟨n0, n1⟩).1 rfl
      rw [h] at h5
      have h6 := (shard_of (s := s) (n := K + M) (i := i) (by omega) ⟨by omega, by omega⟩ ⟨m0, m1⟩).1 rfl
      omega
    unfold rdOf at h3 ⊢
    rw [List.getD_eq_getElem?_getD, List.getElem?_set_ne (by omega), ← List.getD_eq_getElem?_getD]
    exact h3
theorem LayoutTurns : ∀ (a0_0 : Int) (a0_1 : Int) (a0_2 : Int) (a0_3 : Int) (a0_4 : Int) (a0_5 : Int) (a1 : Int), ((Lit.int .i64 a0_0).wf = true) → ((Lit.int .i64 a0_1).wf = true) → ((Lit.int .i64 a0_2).wf = true) → ((Lit.int .i64 a0_3).wf = true) → ((Lit.int .i64 a0_4).wf = true) → ((Lit.int .i64 a0_5).wf = true) → ((Lit.int .i64 a1).wf = true) → ∃ k, aumbrylaw14_LayoutTurns.f k a0_0 a0_1 a0_2 a0_3 a0_4 a0_5 a1 = some true := by
  intro K M Z T L O s w0 w1 w2 w3 w4 w5 w6
  apply Ev.rounds
  have hK := of_wf w0
  have hM := of_wf w1
  unfold aumbrylaw14_LayoutTurns.f
  refine Ev.bind LayA.awake (Ev.bind (check K M Z T L O hK hM) ?_)
  have short : Ev (fun k => aumbrylaw14_LayoutTurns.j0 k s true true K M Z T L O) true := ev_succ fun k => by rw [aumbrylaw14_LayoutTurns.j0, if_pos rfl]
  unfold chk
  by_cases hg : LayA.Good K M Z T L O
  · rw [if_pos hg]
    have hg' := hg
    unfold LayA.Good at hg'
    refine ev_pos rfl ?_
    by_cases h1 : s < 0
    · exact ev_pos h1 short
    · refine ev_neg h1 ?_
      by_cases h2 : s ≥ T
      · rw [decide_eq_true h2]; exact short
      · rw [decide_eq_false h2]
        refine Ev.step (fun k => by rw [aumbrylaw14_LayoutTurns.j0]) (ev_neg (by decide) (ev_pos (by decide) ?_))
        rw [w64 (by omega) (by omega)]
        refine turns K M Z T L O hK hM hg s (by omega) (K + M).toNat 0 _ (by simp) (by omega) (by omega) (fun j _ _ => ?_)
        unfold rdOf
        rw [List.getD_eq_getElem?_getD, List.getElem?_replicate]
        split <;> rfl
  · rw [if_neg hg]
    exact ev_neg (by decide) short

end Go.Proofs.Ytacolbcmlpfbmaa.Pure
