/- Sectors that are alike are of one place, one epoch and the same data, and are twelve bytes longer than that: SectorApart, for every input. -/
import Derived.Test.YtlkdhcpiglonjaaPAllx7
import Derived.Test.YtlkdhcpiglonjaaSecA
namespace Go.Proofs.Ytlkdhcpiglonjaa.Pure
open Go.RowKit Go.Proofs.Ytlkdhcpiglonjaa.PAll Go.Proofs.YtlkdhcpiglonjaaW.PrintWords Go.Proofs.YtlkdhcpiglonjaaW.PrintLast Go.Proofs.Ytlkdhcpiglonjaa.CrcA Go.Proofs.Ytlkdhcpiglonjaa.SecA
set_option linter.unusedVariables false

theorem SectorApart : aumbrylaw11_SectorApart.Pure := by
  intro a e l a' e' l' w0 w1 w2 w3 w4 w5 w6 w7 w8 w9
  apply Ev.rounds
  unfold aumbrylaw11_SectorApart.f
  refine Ev.bind SecA.awake ?_
  have short : Ev (fun k => aumbrylaw11_SectorApart.j0 k a e l a' e' l' true true) true := ev_succ fun k => by rw [aumbrylaw11_SectorApart.j0, if_pos rfl]
  by_cases h1 : (l.length : Int) > 3000
  · exact ev_pos h1 short
  · refine ev_neg h1 ?_
    by_cases h2 : (l'.length : Int) > 3000
    · rw [decide_eq_true h2]; exact short
    · rw [decide_eq_false h2]
      refine Ev.step (fun k => by rw [aumbrylaw11_SectorApart.j0]) (ev_neg (by decide) (Ev.bind (pack a e l) (Ev.bind (pack a' e' l') ?_)))
      by_cases hm : May a e l
      · have hpm : packM a e l = (sect a e l, 0) := if_pos hm
        rw [hpm]
        refine ev_pos rfl ?_
        by_cases hm' : May a' e' l'
        · have hpm' : packM a' e' l' = (sect a' e' l', 0) := if_pos hm'
          rw [hpm']
          refine Ev.step (fun k => by rw [aumbrylaw11_SectorApart.j1]) ?_
          refine ev_neg (show ¬ (((0 : Int) != 0) = true) from by decide) ?_
          refine Ev.bind (same _ _ (by show (sect a e l).length ≤ _; rw [sect_len]; omega)) (Ev.bind (same l l' (by omega)) (ev_pos rfl ?_))
          have hlen : (((sect a e l).length : Int) == (wrap64 ((l.length : Int) + 12))) = true := by
            rw [sect_len, wrap_in (by omega) (by omega), beq_iff_eq]; omega
          have hx := hm
          have hx' := hm'
          unfold May Num at hx hx'
          show Ev (fun n => if a = a' then _ else _) true
          rw [hlen]
          by_cases ha : a = a'
          · subst ha
            refine ev_pos rfl ?_
            by_cases he : e = e'
            · subst he
              refine ev_pos rfl (ev_pos ?_ (Ev.now _))
              rw [beq_iff_eq, decide_eq_decide]
              constructor
              · intro h
                have hl : l.length = l'.length := by
                  have := congrArg List.length h
                  change (sect a e l).length = (sect a e l').length at this
                  rw [sect_len, sect_len] at this
                  omega
                have h3 := congrArg (fun x : List Int => (x.take (x.length - 4)).drop 8) h
                change ((sect a e l).take ((sect a e l).length - 4)).drop 8 = ((sect a e l').take ((sect a e l').length - 4)).drop 8 at h3
                rw [sect_take, sect_take, body_data, body_data] at h3
                exact h3
              · intro h; rw [h]
            · refine ev_neg he (ev_pos ?_ (Ev.now _))
              rw [beq_iff_eq, decide_eq_false_iff_not]
              intro h
              have h3 := congrArg (fun x : List Int => (x.take 8).drop 4) h
              exact he (four_inj (by omega) (by omega) h3)
          · refine ev_neg ha (ev_pos ?_ (Ev.now _))
            rw [beq_iff_eq, decide_eq_false_iff_not]
            intro h
            have h3 := congrArg (fun x : List Int => x.take 4) h
            exact ha (four_inj (by omega) (by omega) h3)
        · have hpm' : packM a' e' l' = ([], 1) := if_neg hm'
          rw [hpm']
          refine Ev.step (fun k => by rw [aumbrylaw11_SectorApart.j1]) ?_
          exact ev_pos (show (((1 : Int) != 0) = true) from by decide) (ev_pos rfl (ev_pos rfl (Ev.now _)))
      · have hpm : packM a e l = ([], 1) := if_neg hm
        rw [hpm]
        refine ev_neg (show ¬ ((1 : Int) = 0) from by decide) ?_
        refine Ev.step (fun k => by rw [aumbrylaw11_SectorApart.j1]) ?_
        exact ev_pos rfl (ev_pos rfl (ev_neg (show ¬ ((1 : Int) = 0) from by decide) (Ev.now _)))

end Go.Proofs.Ytlkdhcpiglonjaa.Pure
