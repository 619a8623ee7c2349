/- A byte more is one step more, and unlike check sums stay unlike behind the same bytes: CrcBytes, for every input. -/
import Derived.Test.YtamlcdillkohhaaPAllx3
import Derived.Test.YtamlcdillkohhaaCrcA
namespace Go.Proofs.Ytamlcdillkohhaa.Pure
open Go.RowKit Go.Proofs.Ytamlcdillkohhaa.PAll Go.Proofs.YtamlcdillkohhaaW.PrintWords Go.Proofs.YtamlcdillkohhaaW.PrintLast Go.Proofs.Ytamlcdillkohhaa.CrcA
set_option linter.unusedVariables false

theorem CrcBytes : aumbrylaw04_CrcBytes.Pure := by
  intro a0 a1 l2 a3 h0 h1 h2 h3 h4 h5
  apply Ev.rounds
  unfold aumbrylaw04_CrcBytes.f
  refine Ev.bind awake ?_
  by_cases hl : (l2.length : Int) > 2000
  · exact ev_pos hl (Ev.now _)
  · obtain ⟨S, rfl⟩ := of_u32 h0
    obtain ⟨T, rfl⟩ := of_u32 h1
    refine ev_neg hl (Ev.bind (CrcA.crc_More S l2 (by omega)) (Ev.bind (CrcA.crc_More T l2 (by omega)) (ev_pos rfl ?_)))
    have e : (((((val S l2).toNat : Nat) : Int) == (((val T l2).toNat : Nat) : Int)) == (((S.toNat : Nat) : Int) == ((T.toNat : Nat) : Int))) = true := by
      rw [beq_iff_eq, Bool.eq_iff_iff, beq_iff_eq, beq_iff_eq]
      constructor
      · intro h
        have : val S l2 = val T l2 := BitVec.eq_of_toNat_eq (by omega)
        rw [val_inj this]
      · intro h
        have : S = T := BitVec.eq_of_toNat_eq (by omega)
        rw [this]
    refine ev_pos e ?_
    refine Ev.bind (CrcA.crc_More (val S l2) [a3] (by simp)) (Ev.bind (CrcA.ref_More (val S l2) [a3] (by simp)) (ev_pos rfl ?_))
    refine ev_some (ev_pos (by simp; omega) (ev_some (ev_pos (by simp; omega) ?_)))
    rw [List.nil_append]
    refine Ev.bind (CrcA.crc_More S (l2 ++ [a3]) (by simp; omega)) (Ev.bind (CrcA.crc_More (val S l2) [a3] (by simp)) ?_)
    rw [val_append]
    simp only [BEq.rfl]
    exact Ev.now _

end Go.Proofs.Ytamlcdillkohhaa.Pure
