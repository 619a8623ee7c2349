/- What is packed is unpacked, at its place alone, and what is unpacked is packed as it was: SectorBack, for every input. -/
import Derived.Test.YtlkdhcpiglonjaaPAllx5
import Derived.Test.YtlkdhcpiglonjaaSecA
namespace Go.Proofs.Ytlkdhcpiglonjaa.Pure
open Go.RowKit Go.Proofs.Ytlkdhcpiglonjaa.PAll Go.Proofs.YtlkdhcpiglonjaaW.PrintWords Go.Proofs.YtlkdhcpiglonjaaW.PrintLast Go.Proofs.Ytlkdhcpiglonjaa.CrcA Go.Proofs.Ytlkdhcpiglonjaa.SecA
set_option linter.unusedVariables false

theorem SectorBack : aumbrylaw11_SectorBack.Pure := by
  intro a e l o b w0 w1 w2 w3 w4 w5 w6 w7 w8
  apply Ev.rounds
  unfold aumbrylaw11_SectorBack.f
  refine Ev.bind SecA.awake ?_
  have short : Ev (fun k => aumbrylaw11_SectorBack.j0 k a e l o b true true) true := ev_succ fun k => by rw [aumbrylaw11_SectorBack.j0, if_pos rfl]
  by_cases h1 : (l.length : Int) > 5000
  · exact ev_pos h1 short
  · refine ev_neg h1 ?_
    by_cases h2 : (b.length : Int) > 5000
    · rw [decide_eq_true h2]; exact short
    · rw [decide_eq_false h2]
      have hb : Bytes b := fun x hx => byte_of (w8 x hx)
      have hd : Bytes l := fun x hx => byte_of (w4 x hx)
      have last : Ev (fun k => aumbrylaw11_SectorBack.j2 k a b true) true := by
        refine Ev.step (fun k => by rw [aumbrylaw11_SectorBack.j2]) (Ev.bind (unpack a b hb (by omega)) ?_)
        by_cases hi : Is a b
        · have hu : unpackM a b = (nbr ((b.take 8).drop 4), (b.take (b.length - 4)).drop 8, 0) := if_pos hi
          rw [hu]
          have hg := again hb hi
          have hp := pack a (nbr ((b.take 8).drop 4)) ((b.take (b.length - 4)).drop 8)
          rw [show packM a (nbr ((b.take 8).drop 4)) ((b.take (b.length - 4)).drop 8) = (b, 0) from by unfold packM; rw [if_pos hg.1, hg.2]] at hp
          refine ev_pos rfl (Ev.bind hp (Ev.bind (same b b (by omega)) ?_))
          rw [decide_eq_true rfl]
          exact ev_pos rfl (ev_pos rfl (Ev.now _))
        · have hu : unpackM a b = (0, [], 110) := if_neg hi
          rw [hu]
          exact ev_neg (by decide) (ev_pos rfl (ev_pos rfl (Ev.now _)))
      have mid : Ev (fun k => aumbrylaw11_SectorBack.j1 k a b true false) true := Ev.step (fun k => by rw [aumbrylaw11_SectorBack.j1]) (ev_neg (by decide) last)
      refine Ev.step (fun k => by rw [aumbrylaw11_SectorBack.j0]) (ev_neg (by decide) (Ev.bind (pack a e l) ?_))
      by_cases hm : May a e l
      · have hpm : packM a e l = (sect a e l, 0) := if_pos hm
        rw [hpm]
        have hsb := sect_bytes a e hd
        have hsl : (sect a e l).length ≤ 5000 := by have := hm.2.2; rw [sect_len]; omega
        have hu := unpack a (sect a e l) hsb hsl
        rw [back hm] at hu
        refine ev_pos rfl (Ev.bind hu (Ev.bind (same l l (by omega)) (Ev.bind (unpack o (sect a e l) hsb hsl) (ev_pos rfl ?_))))
        rw [decide_eq_true rfl]
        refine ev_pos rfl (ev_pos rfl ?_)
        by_cases ho : o = a
        · exact ev_pos ho mid
        · refine ev_neg ho ?_
          rw [other hm ho]
          exact mid
      · have hpm : packM a e l = ([], 1) := if_neg hm
        rw [hpm]
        exact ev_neg (by decide) last

end Go.Proofs.Ytlkdhcpiglonjaa.Pure
