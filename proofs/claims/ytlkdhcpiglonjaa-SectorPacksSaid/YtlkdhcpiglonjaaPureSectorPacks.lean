/- Any data's sector, and what any bytes are at a place, are the reference's: SectorPacks, for every input. -/
import Derived.Test.YtlkdhcpiglonjaaPAllx5
import Derived.Test.YtlkdhcpiglonjaaSecA
namespace Go.Proofs.Ytlkdhcpiglonjaa.Pure
open Go.RowKit Go.Proofs.Ytlkdhcpiglonjaa.PAll Go.Proofs.YtlkdhcpiglonjaaW.PrintWords Go.Proofs.YtlkdhcpiglonjaaW.PrintLast Go.Proofs.Ytlkdhcpiglonjaa.CrcA Go.Proofs.Ytlkdhcpiglonjaa.SecA
set_option linter.unusedVariables false

theorem SectorPacks : aumbrylaw11_SectorPacks.Pure := by
  intro a e l b w0 w1 w2 w3 w4 w5 w6 w7
  apply Ev.rounds
  unfold aumbrylaw11_SectorPacks.f
  refine Ev.bind SecA.awake ?_
  have short : Ev (fun k => aumbrylaw11_SectorPacks.j0 k a e l b true true) true := ev_succ fun k => by rw [aumbrylaw11_SectorPacks.j0, if_pos rfl]
  by_cases h1 : (l.length : Int) > 5000
  · exact ev_pos h1 short
  · refine ev_neg h1 ?_
    by_cases h2 : (b.length : Int) > 5000
    · rw [decide_eq_true h2]; exact short
    · rw [decide_eq_false h2]
      have hb : Bytes b := fun x hx => byte_of (w7 x hx)
      refine Ev.step (fun k => by rw [aumbrylaw11_SectorPacks.j0]) (ev_neg (by decide) ?_)
      refine Ev.bind (pack a e l) (Ev.bind (rpack a e l) (Ev.bind (unpack a b hb (by omega)) (Ev.bind (runpack a b hb (by omega)) ?_)))
      have hl1 : (packM a e l).1.length ≤ 100000 := by
        unfold packM
        split
        · show (sect a e l).length ≤ _
          rw [sect_len]; omega
        · simp
      have hl2 : (unpackM a b).2.1.length ≤ 100000 := by
        unfold unpackM
        split
        · simp; omega
        · simp
      refine Ev.bind (same _ _ hl1) (Ev.bind (same _ _ hl2) ?_)
      rw [decide_eq_true rfl, decide_eq_true rfl]
      refine ev_pos rfl (ev_pos rfl (ev_pos rfl (ev_pos rfl (ev_pos rfl (ev_eq (Ev.now _) ?_)))))
      rw [BEq.rfl]

end Go.Proofs.Ytlkdhcpiglonjaa.Pure
