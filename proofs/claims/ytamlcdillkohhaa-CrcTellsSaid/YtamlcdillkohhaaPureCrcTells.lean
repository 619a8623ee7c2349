/- One byte that is another one changes the check sum, wherever it is: CrcTells, for every input. -/
import Derived.Test.YtamlcdillkohhaaPAllx2
import Derived.Test.YtamlcdillkohhaaCrcA
namespace Go.Proofs.Ytamlcdillkohhaa.Pure
open Go.RowKit Go.Proofs.Ytamlcdillkohhaa.PAll Go.Proofs.YtamlcdillkohhaaW.PrintWords Go.Proofs.YtamlcdillkohhaaW.PrintLast Go.Proofs.Ytamlcdillkohhaa.CrcA
set_option linter.unusedVariables false

theorem tell (l : List Int) (hl : l.length ≤ 2000) (hw : ∀ x ∈ l, (Lit.int .u8 x).wf = true) (b : Int) (hb : (Lit.int .u8 b).wf = true) (h0 : b ≠ 0) (j : Int) (hj0 : 0 ≤ j) (hj : j < l.length) :
    Ev (fun k => (some (([] : List Int) : List Int)).bind fun y139 => (if y139.length + l.length < 140737488355328 then ((some (y139 ++ l : List Int)).bind fun y142 => (if 0 ≤ j then (if j < (y142.length : Int) then (if true = true then ((PAll.crc_Sum.f k (y142.set (j : Int).toNat (Go.bits .xor .u8 (rd y142 j) b))).bind fun t147 => ((PAll.crc_Sum.f k l).bind fun t148 => (some (t147 != t148)))) else (some false)) else (none)) else (none))) else (none))) true := by
  refine ev_some (ev_pos (by simp; omega) (ev_some ?_))
  rw [List.nil_append]
  refine ev_pos hj0 (ev_pos hj (ev_pos rfl ?_))
  refine Ev.bind (CrcA.crc_Sum (l.set j.toNat (Go.bits .xor .u8 (rd l j) b)) (by simp; omega)) (Ev.bind (CrcA.crc_Sum l (by omega)) ?_)
  have hjn : j.toNat < l.length := by omega
  have hne : val 0#32 (l.set j.toNat (Go.bits .xor .u8 (rd l j) b)) ≠ val 0#32 l := by
    intro h
    have h2 := inv_inj h
    rw [List.set_eq_take_append_cons_drop, if_pos hjn] at h2
    have h3 : l = l.take j.toNat ++ rd l j :: l.drop (j.toNat + 1) := by
      have := drop_rd hjn
      rw [show ((j.toNat : Nat) : Int) = j from by omega] at this
      rw [← this, List.take_append_drop]
    have h4 : run (inv 0#32) l = run (inv 0#32) (l.take j.toNat ++ rd l j :: l.drop (j.toNat + 1)) := by rw [← h3]
    rw [h4, run_append, run_append] at h2
    generalize run (inv 0#32) (l.take j.toNat) = S at h2
    have h5 : stp S (Go.bits .xor .u8 (rd l j) b) = stp S (rd l j) := run_inj h2
    have h6 := half8_inj h5
    have h7 := congrArg (S ^^^ ·) h6
    simp only [← BitVec.xor_assoc, BitVec.xor_self, BitVec.zero_xor] at h7
    refine xor8_ne (hw (rd l j) ?_) hb h0 h7
    unfold rd
    rw [List.getD_eq_getElem?_getD, List.getElem?_eq_getElem hjn]
    exact List.getElem_mem hjn
  have e : ((((val 0#32 (l.set j.toNat (Go.bits .xor .u8 (rd l j) b))).toNat : Nat) : Int) != (((val 0#32 l).toNat : Nat) : Int)) = true := by
    rw [bne_iff_ne]
    intro h
    exact hne (BitVec.eq_of_toNat_eq (by omega))
  rw [e]
  exact Ev.now _

theorem tmod_in (x : Int) (n : Nat) (hx : 0 ≤ x) (hn : 0 < n) : 0 ≤ Int.tmod x (n : Int) ∧ Int.tmod x (n : Int) < n := by
  rw [Int.tmod_eq_emod_of_nonneg hx]
  exact ⟨Int.emod_nonneg _ (by omega), Int.emod_lt_of_pos _ (by omega)⟩

theorem CrcTells : aumbrylaw04_CrcTells.Pure := by
  intro l0 a1 a2 h0 h1 h2 h3 h4
  apply Ev.rounds
  unfold aumbrylaw04_CrcTells.f
  refine Ev.bind awake ?_
  have short : Ev (fun k => aumbrylaw04_CrcTells.j0 k l0 a1 a2 true true) true := Ev.step (f := fun _ => some true) (fun k => by rw [aumbrylaw04_CrcTells.j0, if_pos rfl]) (Ev.now _)
  by_cases hl : (l0.length : Int) > 2000
  · exact ev_pos hl short
  · refine ev_neg hl ?_
    by_cases hz : (l0.length : Int) = 0
    · exact ev_pos hz short
    · refine ev_neg hz ?_
      by_cases hb : a2 = 0
      · rw [show (a2 == 0) = true from by simp [hb]]; exact short
      · rw [show (a2 == 0) = false from by simp [hb]]
        have hw : -9223372036854775808 ≤ a1 ∧ a1 ≤ 9223372036854775807 := by
          simp [Lit.wf, IntKind.min, IntKind.max, IntKind.signed, IntKind.bits] at h3
          omega
        refine Ev.step (fun k => by rw [aumbrylaw04_CrcTells.j0]) ?_
        refine ev_neg (by decide) ?_
        by_cases hn : a1 < 0
        · refine ev_pos hn (ev_neg hz ?_)
          have e : wrap64 (-(wrap64 (a1 + 1))) = -(a1 + 1) := by rw [wrap_in (i := a1 + 1) (by omega) (by omega), wrap_in (by omega) (by omega)]
          rw [e]
          have := tmod_in (-(a1 + 1)) l0.length (by omega) (by omega)
          exact tell l0 (by omega) h2 a2 h4 hb _ this.1 this.2
        · refine ev_neg hn (ev_neg hz ?_)
          have := tmod_in a1 l0.length (by omega) (by omega)
          exact tell l0 (by omega) h2 a2 h4 hb _ this.1 this.2

end Go.Proofs.Ytamlcdillkohhaa.Pure
