/- Whether any record may be, its bytes, and the record that any bytes are, are what the document's answer says: RecordTells, for every record and all bytes. -/
import Derived.Test.YtoeegdpkmdgkdaaPAllx13
import Derived.Test.YtoeegdpkmdgkdaaRecR
namespace Go.Proofs.Ytoeegdpkmdgkdaa.Pure
open Go.RowKit Go.Proofs.Ytoeegdpkmdgkdaa.PAll Go.Proofs.YtoeegdpkmdgkdaaW.PrintWords Go.Proofs.YtoeegdpkmdgkdaaW.PrintLast Go.Proofs.YtoeegdpkmdgkdaaW.PrintMore Go.Proofs.Ytoeegdpkmdgkdaa.RecA Go.Proofs.Ytoeegdpkmdgkdaa.RecB
set_option linter.unusedVariables false
set_option linter.unusedSimpArgs false

theorem tells_out (kd : Int) (key : ByteArray) (len : Int) (st b : List Int) : Ev (fun k => aumbrylaw16_RecordTells.j0 k b true true kd key len st) true := ev_succ fun k => by rw [aumbrylaw16_RecordTells.j0, if_pos rfl]
theorem tells_in (kd : Int) (key : ByteArray) (len : Int) (st b : List Int) (hs : st.length ≤ 300) (hb : Bytes b) (hl : b.length ≤ 1000) : Ev (fun k => aumbrylaw16_RecordTells.j0 k b true false kd key len st) true := by
  refine Ev.step (fun k => by rw [aumbrylaw16_RecordTells.j0]) (ev_neg (by decide) ?_)
  have hx : (encM kd key len st).1.length ≤ 1000000000 := by
    unfold encM
    by_cases h : Ok kd key len st
    · rw [if_pos h]
      have := h.2.1
      show (encL kd key len st).length ≤ _
      rw [enc_len]
      omega
    · rw [if_neg h]
      simp
  have hd : (decM b).2.2.2.1.length ≤ 1000000000 := by
    unfold decM
    by_cases h : OkOf b ∧ (recOf b).2.2.2.2.length = 0
    · rw [if_pos h]
      have := h.1.2.2.2.2.1
      show (recOf b).2.2.2.1.length ≤ _
      omega
    · rw [if_neg h]
      simp
  refine Ev.bind (RecB.encode kd key len st (by omega)) (Ev.bind (rencode kd key len st (by omega)) (Ev.bind (RecB.decode b hb (by omega)) (Ev.bind (rdecode b hb (by omega)) ?_)))
  refine Ev.bind (same _ _ hx) (Ev.bind (rsame _ _ _ _ _ _ _ _ hd) ?_)
  refine ev_pos rfl (ev_pos (decide_eq_true rfl) (ev_pos rfl (ev_pos (decide_eq_true ⟨rfl, rfl, rfl, rfl⟩) (ev_pos rfl ?_))))
  refine Ev.bind (check kd key len st (by omega)) (Ev.bind (qcheck kd key len st (by omega)) (ev_eq (Ev.now _) ?_))
  exact beq_self_eq_true _

theorem RecordTells : ∀ (a0_0 : Int) (a0_1 : ByteArray) (a0_2 : Int) (l0_3 : (List Int)) (l1 : (List Int)), ((Lit.int .i64 a0_0).wf = true) → (a0_1.size ≤ maxLen) → ((Lit.int .i64 a0_2).wf = true) → ((∀ l0_3e ∈ l0_3, (Lit.int .i64 l0_3e).wf = true)) → ((∀ l1e ∈ l1, (Lit.int .u8 l1e).wf = true)) → ∃ k, aumbrylaw16_RecordTells.f k a0_0 a0_1 a0_2 l0_3 l1 = some true := by
  intro kd key len st b _ _ _ _ hb
  have hb : Bytes b := bytes_of hb
  show ∃ k, (fun k => aumbrylaw16_RecordTells.f k kd key len st b) k = some true
  refine Ev.rounds ?_
  unfold aumbrylaw16_RecordTells.f
  rw [awake]
  refine ev_some ?_
  rw [few]
  refine ev_some ?_
  by_cases hf : key.size ≤ 300 ∧ st.length ≤ 300
  · refine ev_pos (decide_eq_true hf) ?_
    by_cases h : (b.length : Int) > 1000
    · rw [decide_eq_true h]
      exact tells_out _ _ _ _ _
    · rw [decide_eq_false h]
      exact tells_in _ _ _ _ _ hf.2 hb (by omega)
  · exact ev_neg (by rw [decide_eq_true_eq]; exact hf) (tells_out _ _ _ _ _)

end Go.Proofs.Ytoeegdpkmdgkdaa.Pure
