/- Stripes that are needed hold all bytes, and one less would not: LayoutNeeds, for every input. -/
import Derived.Test.YtacolbcmlpfbmaaPAllx9
import Derived.Test.YtacolbcmlpfbmaaLayA
namespace Go.Proofs.Ytacolbcmlpfbmaa.Pure
open Go.RowKit Go.Proofs.Ytacolbcmlpfbmaa.PAll Go.Proofs.YtacolbcmlpfbmaaW.PrintWords Go.Proofs.YtacolbcmlpfbmaaW.PrintLast Go.Proofs.Ytacolbcmlpfbmaa.LayA
set_option linter.unusedVariables false

theorem LayoutNeeds : ∀ (a0_0 : Int) (a0_1 : Int) (a0_2 : Int) (a0_3 : Int) (a0_4 : Int) (a0_5 : Int) (a1 : Int), ((Lit.int .i64 a0_0).wf = true) → ((Lit.int .i64 a0_1).wf = true) → ((Lit.int .i64 a0_2).wf = true) → ((Lit.int .i64 a0_3).wf = true) → ((Lit.int .i64 a0_4).wf = true) → ((Lit.int .i64 a0_5).wf = true) → ((Lit.int .i64 a1).wf = true) → ∃ k, aumbrylaw14_LayoutNeeds.f k a0_0 a0_1 a0_2 a0_3 a0_4 a0_5 a1 = some true := by
  intro K M Z T L O b w0 w1 w2 w3 w4 w5 w6
  apply Ev.rounds
  have hK := of_wf w0
  have hM := of_wf w1
  have hb := of_wf w6
  unfold aumbrylaw14_LayoutNeeds.f
  refine Ev.bind LayA.awake (Ev.bind (check K M Z T L O hK hM) ?_)
  have short : Ev (fun k => aumbrylaw14_LayoutNeeds.j0 k b true true K M Z T L O) true := ev_succ fun k => by rw [aumbrylaw14_LayoutNeeds.j0, if_pos rfl]
  unfold chk
  by_cases hg : LayA.Good K M Z T L O
  · rw [if_pos hg]
    refine ev_pos rfl ?_
    by_cases h1 : b > 1000000000
    · rw [decide_eq_true h1]; exact short
    · rw [decide_eq_false h1]
      refine Ev.step (fun k => by rw [aumbrylaw14_LayoutNeeds.j0]) (ev_neg (by decide) (Ev.bind (needs K M Z T L O hK hM b hb) ?_))
      unfold nee
      by_cases h2 : b < 1
      · rw [if_neg (show ¬ (LayA.Good K M Z T L O ∧ 1 ≤ b) from fun h => by omega)]
        exact ev_pos h2 (ev_pos rfl (Ev.now _))
      · rw [if_pos (show LayA.Good K M Z T L O ∧ 1 ≤ b from ⟨hg, by omega⟩)]
        have hp := prod K M Z T L O hg
        rw [w64 (i := K * Z) (by omega) (by omega)]
        generalize K * Z = q at hp
        have h3 : (b - 1) / q ≤ b - 1 := Int.ediv_le_self _ (by omega)
        have h4 : 0 ≤ (b - 1) / q := Int.ediv_nonneg (by omega) (by omega)
        have h5 := Int.mul_ediv_add_emod (b - 1) q
        have h6 := Int.emod_nonneg (b - 1) (show q ≠ 0 by omega)
        have h7 := Int.emod_lt_of_pos (b - 1) (show 0 < q by omega)
        have h8 : ((b - 1) / q + 1) * q = q * ((b - 1) / q) + q := by rw [Int.add_mul, Int.mul_comm]; omega
        have h9 : ((b - 1) / q + 1 - 1) * q = q * ((b - 1) / q) := by rw [Int.add_sub_cancel, Int.mul_comm]
        refine ev_neg h2 (ev_pos rfl (ev_pos (by omega) (ev_pos (by omega) ?_)))
        rw [w64 (i := (b - 1) / q + 1 - 1) (by omega) (by omega), h8, h9, w64 (by omega) (by omega), w64 (by omega) (by omega)]
        refine ev_pos (by omega) (ev_eq (Ev.now _) (decide_eq_true (by omega)))
  · rw [if_neg hg]
    exact ev_neg (by decide) short

end Go.Proofs.Ytacolbcmlpfbmaa.Pure
