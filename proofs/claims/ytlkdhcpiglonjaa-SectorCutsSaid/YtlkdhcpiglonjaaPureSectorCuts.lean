/- No beginning of a sector is one of data that is not the beginning of its own: SectorCuts, for every input. -/
import Derived.Test.YtlkdhcpiglonjaaPAllx6
import Derived.Test.YtlkdhcpiglonjaaSecA
namespace Go.Proofs.Ytlkdhcpiglonjaa.Pure
open Go.RowKit Go.Proofs.Ytlkdhcpiglonjaa.PAll Go.Proofs.YtlkdhcpiglonjaaW.PrintWords Go.Proofs.YtlkdhcpiglonjaaW.PrintLast Go.Proofs.Ytlkdhcpiglonjaa.CrcA Go.Proofs.Ytlkdhcpiglonjaa.SecA
set_option linter.unusedVariables false

theorem SectorCuts : aumbrylaw11_SectorCuts.Pure := by
  intro a e l n w0 w1 w2 w3 w4 w5
  apply Ev.rounds
  unfold aumbrylaw11_SectorCuts.f
  refine Ev.bind SecA.awake (Ev.bind (pack a e l) ?_)
  have short : ∀ x, Ev (fun k => aumbrylaw11_SectorCuts.j0 k a e l n true x true) true := fun x => ev_succ fun k => by rw [aumbrylaw11_SectorCuts.j0, if_pos rfl]
  by_cases hm : May a e l
  · have hpm : packM a e l = (sect a e l, 0) := if_pos hm
    rw [hpm]
    refine ev_pos rfl ?_
    by_cases h1 : (l.length : Int) > 3000
    · exact ev_pos h1 (short _)
    · refine ev_neg h1 ?_
      have hsl := sect_len a e l
      rw [show (((sect a e l).length : Int) == 0) = false from by rw [hsl, beq_eq_false_iff_ne]; omega]
      have hn : -9223372036854775808 ≤ n ∧ n ≤ 9223372036854775807 := by
        simp [Lit.wf, IntKind.min, IntKind.max, IntKind.signed, IntKind.bits] at w5
        exact w5
      have hd : Bytes l := fun x hx => byte_of (w4 x hx)
      have main : ∀ m : Int, 0 ≤ m → Ev (fun k => aumbrylaw11_SectorCuts.j1 k a e l m true (sect a e l)) true := by
        intro m hm0
        refine Ev.step (fun k => by rw [aumbrylaw11_SectorCuts.j1]) (ev_neg (by omega) ?_)
        rw [Int.tmod_eq_emod_of_nonneg hm0]
        have q0 := Int.emod_nonneg m (show ((sect a e l).length : Int) ≠ 0 by omega)
        have q1 := Int.emod_lt_of_pos m (show 0 < ((sect a e l).length : Int) by omega)
        obtain ⟨j, hj⟩ := Int.eq_ofNat_of_zero_le q0
        rw [hj] at q1 ⊢
        refine ev_pos (by omega) (ev_pos (by omega) ?_)
        rw [Int.toNat_natCast]
        have hcl : ((sect a e l).take j).length = j := by rw [List.length_take]; omega
        refine Ev.bind (unpack a _ (bytes_take (sect_bytes a e hd) j) (by omega)) ?_
        by_cases hi : Is a ((sect a e l).take j)
        · have hu : unpackM a ((sect a e l).take j) = (nbr ((((sect a e l).take j).take 8).drop 4), (((sect a e l).take j).take (j - 4)).drop 8, 0) := by
            unfold unpackM; rw [if_pos hi, hcl]
          rw [hu]
          have hj12 : 12 ≤ j := by have := hi.1.1; omega
          have e1 : (((sect a e l).take j).take 8).drop 4 = fourL e := by
            rw [List.take_take, show min 8 j = 8 from by omega, sect_mid]
          have e2 : (((sect a e l).take j).take (j - 4)).drop 8 = l.take (j - 12) := by
            rw [List.take_take, show min (j - 4) j = j - 4 from by omega]
            have : (sect a e l).take (j - 4) = (packL a e l).take (j - 4) := by
              unfold sect
              rw [List.take_append_of_le_length (by rw [body_len]; omega)]
            rw [this, List.drop_take, body_data]
            congr 1
          rw [e1, e2]
          have hx := hm
          unfold May Num at hx
          rw [nbr_four (by omega) (by omega)]
          have hll : (l.take (j - 12)).length = j - 12 := by rw [List.length_take]; omega
          refine ev_pos rfl (ev_neg (by show ¬ (((l.take (j - 12)).length : Int) > (l.length : Int)); omega) ?_)
          rw [show (e != e) = false from by simp]
          refine Ev.step (fun k => by rw [aumbrylaw11_SectorCuts.j2]) ?_
          refine (ev_neg (by decide) (ev_pos (show (0 : Int) ≤ ((l.take (j - 12)).length : Int) from by omega) (ev_pos (show ((l.take (j - 12)).length : Int) ≤ (l.length : Int) from by omega) ?_)))
          rw [show (((e, l.take (j - 12), (0 : Int)).2.1.length : Int)).toNat = j - 12 from by show (((l.take (j - 12)).length : Int)).toNat = j - 12; omega]
          refine Ev.bind (same _ _ (show (l.take (j - 12)).length ≤ 100000 from by omega)) (ev_pos rfl (ev_eq (Ev.now _) (decide_eq_true rfl)))
        · have hu : unpackM a ((sect a e l).take j) = (0, [], 110) := if_neg hi
          rw [hu]
          exact ev_neg (by decide) (ev_pos rfl (Ev.now _))
      refine Ev.step (fun k => by rw [aumbrylaw11_SectorCuts.j0]) (ev_neg (by decide) ?_)
      by_cases h0 : n < 0
      · refine ev_pos h0 ?_
        rw [wrap_in (i := n + 1) (by omega) (by omega), wrap_in (by omega) (by omega)]
        exact main _ (by omega)
      · exact ev_neg h0 (main _ (by omega))
  · have hpm : packM a e l = ([], 1) := if_neg hm
    rw [hpm]
    exact ev_neg (by decide) (short _)

end Go.Proofs.Ytlkdhcpiglonjaa.Pure
