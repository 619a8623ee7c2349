/- Whether any geometry may be, and where things lie in it, are the reference's: LayoutTells, for every input. -/
import Derived.Test.YtacolbcmlpfbmaaPAllx6
import Derived.Test.YtacolbcmlpfbmaaLayA
namespace Go.Proofs.Ytacolbcmlpfbmaa.Pure
open Go.RowKit Go.Proofs.Ytacolbcmlpfbmaa.PAll Go.Proofs.YtacolbcmlpfbmaaW.PrintWords Go.Proofs.YtacolbcmlpfbmaaW.PrintLast Go.Proofs.Ytacolbcmlpfbmaa.LayA
set_option linter.unusedVariables false

theorem LayoutTells : ∀ (a0_0 : Int) (a0_1 : Int) (a0_2 : Int) (a0_3 : Int) (a0_4 : Int) (a0_5 : Int) (a1 : Int) (a2 : Int) (a3 : Int), ((Lit.int .i64 a0_0).wf = true) → ((Lit.int .i64 a0_1).wf = true) → ((Lit.int .i64 a0_2).wf = true) → ((Lit.int .i64 a0_3).wf = true) → ((Lit.int .i64 a0_4).wf = true) → ((Lit.int .i64 a0_5).wf = true) → ((Lit.int .i64 a1).wf = true) → ((Lit.int .i64 a2).wf = true) → ((Lit.int .i64 a3).wf = true) → ∃ k, aumbrylaw14_LayoutTells.f k a0_0 a0_1 a0_2 a0_3 a0_4 a0_5 a1 a2 a3 = some true := by
  intro K M Z T L O i k b w0 w1 w2 w3 w4 w5 w6 w7 w8
  apply Ev.rounds
  have hK := of_wf w0
  have hM := of_wf w1
  have hb := of_wf w8
  unfold aumbrylaw14_LayoutTells.f
  refine Ev.bind LayA.awake (Ev.bind (check K M Z T L O hK hM) (Ev.bind (rcheck K M Z T L O hK hM) (ev_pos rfl ?_)))
  refine Ev.bind (sectors K M Z T L O hK hM) (Ev.bind (rsectors K M Z T L O hK hM) (ev_pos rfl ?_))
  refine Ev.bind (area K M Z T L O hK hM i k) (Ev.bind (rarea K M Z T L O hK hM i k) ?_)
  rw [BEq.rfl]
  refine Ev.step (fun k => by rw [aumbrylaw14_LayoutTells.j0]) ?_
  refine Ev.bind (slot K M Z T L O hK hM i) (Ev.bind (rslot K M Z T L O hK hM i) (ev_pos rfl ?_))
  refine Ev.bind (stripe K M Z T L O hK hM i) (Ev.bind (rstripe K M Z T L O hK hM i) ?_)
  rw [BEq.rfl]
  refine Ev.step (fun k => by rw [aumbrylaw14_LayoutTells.j1]) ?_
  refine Ev.bind (disk K M Z T L O hK hM i k) (Ev.bind (rdisk K M Z T L O hK hM i k) (ev_pos rfl ?_))
  refine Ev.bind (shard K M Z T L O hK hM i k) (Ev.bind (rshard K M Z T L O hK hM i k) ?_)
  rw [BEq.rfl]
  refine Ev.step (fun k => by rw [aumbrylaw14_LayoutTells.j2]) (ev_pos rfl (ev_pos rfl (ev_pos rfl (ev_pos rfl ?_))))
  refine Ev.bind (needs K M Z T L O hK hM b hb) (Ev.bind (rneeds K M Z T L O hK hM b hb) (ev_eq (Ev.now _) ?_))
  rw [BEq.rfl]

end Go.Proofs.Ytacolbcmlpfbmaa.Pure
