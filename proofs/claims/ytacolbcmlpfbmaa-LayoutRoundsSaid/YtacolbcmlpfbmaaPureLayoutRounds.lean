/- The next stripe's shards lie one disk on, and as many stripes on as there are disks they lie alike: LayoutRounds, for every input. -/
import Derived.Test.YtacolbcmlpfbmaaPAllx10
import Derived.Test.YtacolbcmlpfbmaaLayA
namespace Go.Proofs.Ytacolbcmlpfbmaa.Pure
open Go.RowKit Go.Proofs.Ytacolbcmlpfbmaa.PAll Go.Proofs.YtacolbcmlpfbmaaW.PrintWords Go.Proofs.YtacolbcmlpfbmaaW.PrintLast Go.Proofs.Ytacolbcmlpfbmaa.LayA
set_option linter.unusedVariables false

theorem LayoutRounds : ∀ (a0_0 : Int) (a0_1 : Int) (a0_2 : Int) (a0_3 : Int) (a0_4 : Int) (a0_5 : Int) (a1 : Int) (a2 : Int), ((Lit.int .i64 a0_0).wf = true) → ((Lit.int .i64 a0_1).wf = true) → ((Lit.int .i64 a0_2).wf = true) → ((Lit.int .i64 a0_3).wf = true) → ((Lit.int .i64 a0_4).wf = true) → ((Lit.int .i64 a0_5).wf = true) → ((Lit.int .i64 a1).wf = true) → ((Lit.int .i64 a2).wf = true) → ∃ k, aumbrylaw14_LayoutRounds.f k a0_0 a0_1 a0_2 a0_3 a0_4 a0_5 a1 a2 = some true := by
  intro K M Z T L O s h w0 w1 w2 w3 w4 w5 w6 w7
  apply Ev.rounds
  have hK := of_wf w0
  have hM := of_wf w1
  unfold aumbrylaw14_LayoutRounds.f
  refine Ev.bind LayA.awake (Ev.bind (check K M Z T L O hK hM) ?_)
  have short : ∀ n, Ev (fun k => aumbrylaw14_LayoutRounds.j0 k s h true n true K M Z T L O) true := fun n => ev_succ fun k => by rw [aumbrylaw14_LayoutRounds.j0, if_pos rfl]
  unfold chk
  by_cases hg : LayA.Good K M Z T L O
  · rw [if_pos hg]
    have hg' := hg
    unfold LayA.Good at hg'
    refine ev_pos rfl ?_
    rw [w64 (i := K + M) (by omega) (by omega)]
    by_cases h1 : s < 0
    · exact ev_pos h1 (short _)
    · refine ev_neg h1 ?_
      by_cases h2 : s ≥ T
      · exact ev_pos h2 (short _)
      · refine ev_neg h2 ?_
        by_cases h3 : h < 0
        · exact ev_pos h3 (short _)
        · refine ev_neg h3 ?_
          by_cases h4 : h ≥ K + M
          · rw [decide_eq_true h4]; exact short _
          · rw [decide_eq_false h4]
            have ed : ∀ x, 0 ≤ x → x < T → dsk K M Z T L O x h = (h + x) % (K + M) := fun x ha hb => by unfold dsk; rw [if_pos ⟨hg, ⟨ha, hb⟩, by omega, by omega⟩]
            have m0 := Int.emod_nonneg (h + s) (show K + M ≠ 0 by omega)
            have m1 := Int.emod_lt_of_pos (h + s) (show 0 < K + M by omega)
            have last : Ev (fun k => aumbrylaw14_LayoutRounds.j2 k s h true false K M Z T L O) true := by
              refine Ev.step (fun k => by rw [aumbrylaw14_LayoutRounds.j2]) (ev_neg (by decide) (ev_pos rfl (Ev.bind (disk K M Z T L O hK hM 0 h) ?_)))
              rw [ed 0 (by omega) (by omega), Int.add_zero, Int.emod_eq_of_lt (by omega) (by omega)]
              refine ev_pos rfl (Ev.bind (stripe K M Z T L O hK hM s) (Ev.bind (stripe K M Z T L O hK hM 0) (ev_eq (Ev.now _) ?_)))
              unfold stri
              rw [if_pos ⟨hg, by omega, by omega⟩, if_pos ⟨hg, by omega, by omega⟩, w64 (by omega) (by omega), beq_iff_eq]
              omega
            have mid : Ev (fun k => aumbrylaw14_LayoutRounds.j1 k s h true (K + M) ((h + s) % (K + M)) false K M Z T L O) true := by
              refine Ev.step (fun k => by rw [aumbrylaw14_LayoutRounds.j1]) (ev_neg (by decide) ?_)
              rw [w64 (i := s + 1) (by omega) (by omega)]
              by_cases h5 : s + 1 < T
              · refine ev_pos h5 (Ev.bind (disk K M Z T L O hK hM (s + 1) h) (ev_neg (by omega) ?_))
                rw [ed (s + 1) (by omega) h5, w64 (by omega) (by omega), Int.tmod_eq_emod_of_nonneg (by omega), Int.emod_add_emod]
                rw [show h + (s + 1) = h + s + 1 from by omega, show (((h + s + 1) % (K + M)) != ((h + s + 1) % (K + M))) = false from by simp]
                exact last
              · exact ev_neg h5 last
            refine Ev.step (fun k => by rw [aumbrylaw14_LayoutRounds.j0]) (ev_neg (by decide) (Ev.bind (disk K M Z T L O hK hM s h) ?_))
            rw [ed s (by omega) (by omega), w64 (i := s + (K + M)) (by omega) (by omega)]
            by_cases h6 : s + (K + M) < T
            · refine ev_pos h6 (Ev.bind (disk K M Z T L O hK hM (s + (K + M)) h) ?_)
              rw [ed _ (by omega) h6, ← Int.add_assoc, Int.add_emod_right, show (((h + s) % (K + M)) != ((h + s) % (K + M))) = false from by simp]
              exact mid
            · exact ev_neg h6 mid
  · rw [if_neg hg]
    exact ev_neg (by decide) (short _)

end Go.Proofs.Ytacolbcmlpfbmaa.Pure
