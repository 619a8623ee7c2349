/- The check sum of two lists, one behind the other, is made of the first one's: CrcJoins, for every input. -/
import Derived.Test.YtamlcdillkohhaaPAllx1
import Derived.Test.YtamlcdillkohhaaCrcA
namespace Go.Proofs.Ytamlcdillkohhaa.Pure
open Go.RowKit Go.Proofs.Ytamlcdillkohhaa.PAll Go.Proofs.YtamlcdillkohhaaW.PrintWords Go.Proofs.YtamlcdillkohhaaW.PrintLast Go.Proofs.Ytamlcdillkohhaa.CrcA
set_option linter.unusedVariables false

theorem CrcJoins : aumbrylaw04_CrcJoins.Pure := by
  intro a0 l1 l2 h0 h1 h2 h3 h4 h5 h6
  apply Ev.rounds
  unfold aumbrylaw04_CrcJoins.f
  refine Ev.bind awake ?_
  have short : Ev (fun k => aumbrylaw04_CrcJoins.j0 k a0 l1 l2 true true) true := Ev.step (f := fun _ => some true) (fun k => by rw [aumbrylaw04_CrcJoins.j0, if_pos rfl]) (Ev.now _)
  by_cases hl : (l1.length : Int) > 2000
  · exact ev_pos hl short
  · refine ev_neg hl ?_
    by_cases hm : (l2.length : Int) > 2000
    · rw [decide_eq_true hm]; exact short
    · rw [decide_eq_false hm]
      obtain ⟨S, rfl⟩ := of_u32 h0
      refine Ev.step (fun k => by rw [aumbrylaw04_CrcJoins.j0]) ?_
      refine ev_neg (by decide) (ev_some (ev_pos (by simp; omega) (ev_some (ev_pos (by simp; omega) (ev_some (ev_pos rfl ?_))))))
      rw [List.nil_append]
      have hle : (l1 ++ l2).length ≤ 4611686018427387904 := by simp; omega
      refine Ev.bind (CrcA.crc_Sum l1 (by omega)) (Ev.bind (CrcA.crc_More _ l2 (by omega)) (Ev.bind (CrcA.crc_Sum (l1 ++ l2) hle) (ev_pos (by rw [val_append]) ?_)))
      refine Ev.bind (CrcA.crc_More S l1 (by omega)) (Ev.bind (CrcA.crc_More _ l2 (by omega)) (Ev.bind (CrcA.crc_More S (l1 ++ l2) hle) (ev_pos (by rw [val_append]) ?_)))
      refine Ev.bind (CrcA.crc_More S [] (by decide)) ?_
      rw [val_nil]
      simp only [BEq.rfl]
      exact Ev.now _

end Go.Proofs.Ytamlcdillkohhaa.Pure
