/- A record's bytes are eight, its key's, and two for each stripe, they begin with its kind, and unlike records have unlike bytes: RecordSizes, for any two records. -/
import Derived.Test.YtoeegdpkmdgkdaaPAllx20
import Derived.Test.YtoeegdpkmdgkdaaRecB
namespace Go.Proofs.Ytoeegdpkmdgkdaa.Pure
open Go.RowKit Go.Proofs.Ytoeegdpkmdgkdaa.PAll Go.Proofs.YtoeegdpkmdgkdaaW.PrintWords Go.Proofs.YtoeegdpkmdgkdaaW.PrintLast Go.Proofs.YtoeegdpkmdgkdaaW.PrintMore Go.Proofs.Ytoeegdpkmdgkdaa.RecA Go.Proofs.Ytoeegdpkmdgkdaa.RecB
set_option linter.unusedVariables false
set_option linter.unusedSimpArgs false

theorem enc_inj (kd : Int) (key : ByteArray) (len : Int) (st : List Int) (kd' : Int) (key' : ByteArray) (len' : Int) (st' : List Int) (h : Ok kd key len st) (h' : Ok kd' key' len' st') :
    encL kd key len st = encL kd' key' len' st' ↔ EqR kd key len st kd' key' len' st' := by
  constructor
  · intro he
    have h1 := (rec_enc kd key len st [] h).2
    have h2 := (rec_enc kd' key' len' st' [] h').2
    rw [List.append_nil] at h1 h2
    rw [he, h2] at h1
    simp only [Prod.mk.injEq, and_true] at h1
    obtain ⟨rfl, rfl, rfl, rfl⟩ := h1
    exact ⟨rfl, rfl, rfl, rfl⟩
  · rintro ⟨rfl, rfl, hk, rfl⟩
    rw [str_inj hk]
theorem sizes_out (kd : Int) (key : ByteArray) (len : Int) (st : List Int) (kd' : Int) (key' : ByteArray) (len' : Int) (st' : List Int) : Ev (fun k => aumbrylaw16_RecordSizes.j0 k true true kd key len st kd' key' len' st') true := ev_succ fun k => by rw [aumbrylaw16_RecordSizes.j0, if_pos rfl]
theorem sizes_in (kd : Int) (key : ByteArray) (len : Int) (st : List Int) (kd' : Int) (key' : ByteArray) (len' : Int) (st' : List Int) (hs : st.length ≤ 300) (hs' : st'.length ≤ 300) : Ev (fun k => aumbrylaw16_RecordSizes.j0 k true false kd key len st kd' key' len' st') true := by
  refine Ev.step (fun k => by rw [aumbrylaw16_RecordSizes.j0]) (ev_neg (by decide) ?_)
  refine Ev.bind (RecB.encode kd key len st (by omega)) (Ev.bind (RecB.encode kd' key' len' st' (by omega)) ?_)
  unfold encM
  by_cases h : Ok kd key len st
  · rw [if_pos h]
    refine ev_pos rfl ?_
    by_cases h' : Ok kd' key' len' st'
    · rw [if_pos h']
      have h1 := h.2.1
      have hk := h.1
      have hel := enc_len kd key len st
      refine Ev.step (fun k => by rw [aumbrylaw16_RecordSizes.j1]) ?_
      refine ev_neg (by simp) ?_
      refine Ev.bind (same _ _ (by dsimp only; omega)) (Ev.bind (rsame _ _ _ _ _ _ _ _ (by omega)) ?_)
      refine ev_pos rfl (ev_pos ?_ (ev_pos (by dsimp only; omega) (ev_pos (by dsimp only; omega) (ev_pos ?_ (ev_eq (Ev.now _) ?_)))))
      · rw [wrap_in (i := 8 + (key.size : Int)) (by omega) (by omega), wrap_in (i := 2 * (st.length : Int)) (by omega) (by omega), wrap_in (by omega) (by omega)]
        dsimp only
        omega
      · show wrap64 (kd % 256) = kd
        rw [wrap_in (by omega) (by omega)]
        omega
      · rw [decide_eq_decide.2 (enc_inj kd key len st kd' key' len' st' h h')]
        exact beq_self_eq_true _
    · rw [if_neg h']
      refine Ev.step (fun k => by rw [aumbrylaw16_RecordSizes.j1]) ?_
      exact ev_pos rfl (ev_pos rfl (ev_pos rfl (Ev.now _)))
  · rw [if_neg h]
    refine ev_neg (by decide) ?_
    refine Ev.step (fun k => by rw [aumbrylaw16_RecordSizes.j1]) ?_
    exact ev_pos rfl (ev_pos rfl (ev_neg (by decide) (Ev.now _)))

theorem RecordSizes : ∀ (a0_0 : Int) (a0_1 : ByteArray) (a0_2 : Int) (l0_3 : (List Int)) (a1_0 : Int) (a1_1 : ByteArray) (a1_2 : Int) (l1_3 : (List Int)), ((Lit.int .i64 a0_0).wf = true) → (a0_1.size ≤ maxLen) → ((Lit.int .i64 a0_2).wf = true) → ((∀ l0_3e ∈ l0_3, (Lit.int .i64 l0_3e).wf = true)) → ((Lit.int .i64 a1_0).wf = true) → (a1_1.size ≤ maxLen) → ((Lit.int .i64 a1_2).wf = true) → ((∀ l1_3e ∈ l1_3, (Lit.int .i64 l1_3e).wf = true)) → ∃ k, aumbrylaw16_RecordSizes.f k a0_0 a0_1 a0_2 l0_3 a1_0 a1_1 a1_2 l1_3 = some true := by
  intro kd key len st kd' key' len' st' _ _ _ _ _ _ _ _
  show ∃ k, (fun k => aumbrylaw16_RecordSizes.f k kd key len st kd' key' len' st') k = some true
  refine Ev.rounds ?_
  unfold aumbrylaw16_RecordSizes.f
  rw [awake]
  refine ev_some ?_
  rw [few]
  refine ev_some ?_
  by_cases hf : key.size ≤ 300 ∧ st.length ≤ 300
  · refine ev_pos (decide_eq_true hf) ?_
    rw [few]
    refine ev_some ?_
    by_cases hf' : key'.size ≤ 300 ∧ st'.length ≤ 300
    · rw [decide_eq_true hf']
      exact sizes_in _ _ _ _ _ _ _ _ hf.2 hf'.2
    · rw [decide_eq_false hf']
      exact sizes_out _ _ _ _ _ _ _ _
  · exact ev_neg (by rw [decide_eq_true_eq]; exact hf) (sizes_out _ _ _ _ _ _ _ _)

end Go.Proofs.Ytoeegdpkmdgkdaa.Pure
