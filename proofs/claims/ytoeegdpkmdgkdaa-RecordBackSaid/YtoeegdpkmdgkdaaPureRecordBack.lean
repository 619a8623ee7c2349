/- A record that may be is decoded from its bytes as itself, what is decoded is encoded as it was, and a byte less, or more, is no record: RecordBack, for every record and all bytes. -/
import Derived.Test.YtoeegdpkmdgkdaaPAllx14
import Derived.Test.YtoeegdpkmdgkdaaRecB
namespace Go.Proofs.Ytoeegdpkmdgkdaa.Pure
open Go.RowKit Go.Proofs.Ytoeegdpkmdgkdaa.PAll Go.Proofs.YtoeegdpkmdgkdaaW.PrintWords Go.Proofs.YtoeegdpkmdgkdaaW.PrintLast Go.Proofs.YtoeegdpkmdgkdaaW.PrintMore Go.Proofs.Ytoeegdpkmdgkdaa.RecA Go.Proofs.Ytoeegdpkmdgkdaa.RecB
set_option linter.unusedVariables false
set_option linter.unusedSimpArgs false

theorem dec_enc (kd : Int) (key : ByteArray) (len : Int) (st : List Int) (h : Ok kd key len st) : decM (encL kd key len st) = (kd, key, len, st, 0) := by
  have hr := rec_enc kd key len st [] h
  rw [List.append_nil] at hr
  have hp : OkOf (encL kd key len st) ∧ (recOf (encL kd key len st)).2.2.2.2.length = 0 := ⟨⟨hr.1, by rw [hr.2]; exact h⟩, by rw [hr.2]; rfl⟩
  unfold decM
  rw [if_pos hp, hr.2]
theorem dec_more (kd : Int) (key : ByteArray) (len : Int) (st : List Int) (h : Ok kd key len st) : (decM (encL kd key len st ++ [0])).2.2.2.2 = 160 := by
  have hr := rec_enc kd key len st [0] h
  unfold decM
  rw [if_neg (by rw [hr.2]; exact fun h => absurd h.2 (by simp))]
theorem dec_less (kd : Int) (key : ByteArray) (len : Int) (st : List Int) (h : Ok kd key len st) (n : Nat) (hn : n < (encL kd key len st).length) : (decM ((encL kd key len st).take n)).2.2.2.2 = 160 := by
  have hr := rec_enc kd key len st [] h
  rw [List.append_nil] at hr
  unfold decM
  by_cases hp : OkOf ((encL kd key len st).take n) ∧ (recOf ((encL kd key len st).take n)).2.2.2.2.length = 0
  · exfalso
    have he := enc_rec _ (bytes_take (enc_bytes kd key len st) n) hp.1
    rw [List.eq_nil_of_length_eq_zero hp.2, List.append_nil] at he
    have h2 := rec_enc _ _ _ _ ((encL kd key len st).drop n) hp.1.2
    rw [he, List.take_append_drop, hr.2] at h2
    have h3 : [] = (encL kd key len st).drop n := congrArg (fun x => x.2.2.2.2) h2.2
    have h4 := congrArg List.length h3
    rw [List.length_drop, List.length_nil] at h4
    omega
  · rw [if_neg hp]
theorem back_out (kd : Int) (key : ByteArray) (len : Int) (st b : List Int) : Ev (fun k => aumbrylaw16_RecordBack.j0 k b true true kd key len st) true := ev_succ fun k => by rw [aumbrylaw16_RecordBack.j0, if_pos rfl]
theorem back_j3 (b : List Int) (e : Int) (he : e = 0 ∨ e = 1) (hb : Bytes b) (hl : b.length ≤ 1000) : Ev (fun k => aumbrylaw16_RecordBack.j3 k b true e) true := by
  refine Ev.step (fun k => by rw [aumbrylaw16_RecordBack.j3]) ?_
  refine Ev.bind (RecB.decode b hb (by omega)) ?_
  unfold decM
  by_cases h : OkOf b ∧ (recOf b).2.2.2.2.length = 0
  · rw [if_pos h]
    have he2 := enc_rec b hb h.1
    rw [List.eq_nil_of_length_eq_zero h.2, List.append_nil] at he2
    have hst := h.1.2.2.2.2.1
    refine ev_pos rfl (Ev.bind (RecB.encode _ _ _ _ (by dsimp only; omega)) ?_)
    unfold encM
    rw [if_pos h.1.2]
    refine Ev.bind (same _ _ (by dsimp only; rw [he2]; omega)) (ev_pos rfl (ev_pos (decide_eq_true he2) (Ev.now _)))
  · rw [if_neg h]
    refine ev_neg (by simp) (ev_pos rfl (ev_pos rfl ?_))
    rcases he with rfl | rfl
    · exact ev_pos rfl (Ev.now _)
    · exact ev_neg (by decide) (Ev.now _)
theorem back_in (kd : Int) (key : ByteArray) (len : Int) (st b : List Int) (hs : st.length ≤ 300) (hb : Bytes b) (hl : b.length ≤ 1000) : Ev (fun k => aumbrylaw16_RecordBack.j0 k b true false kd key len st) true := by
  refine Ev.step (fun k => by rw [aumbrylaw16_RecordBack.j0]) (ev_neg (by decide) ?_)
  refine Ev.bind (RecB.encode kd key len st (by omega)) ?_
  unfold encM
  by_cases h : Ok kd key len st
  · rw [if_pos h]
    have h1 := h.2.1
    have hel := enc_len kd key len st
    have heb := enc_bytes kd key len st
    refine ev_pos rfl (Ev.bind (RecB.decode _ heb (by dsimp only; omega)) ?_)
    rw [dec_enc kd key len st h]
    refine Ev.bind (rsame _ _ _ _ _ _ _ _ (by dsimp only; omega)) (ev_pos (decide_eq_true ⟨rfl, rfl, rfl, rfl⟩) (ev_pos rfl ?_))
    dsimp only
    rw [show (((encL kd key len st).length : Int) == 0) = false from by rw [beq_eq_false_iff_ne]; omega]
    refine Ev.step (fun k => by rw [aumbrylaw16_RecordBack.j1]) (ev_neg (by decide) ?_)
    rw [wrap_in (by omega) (by omega)]
    refine ev_pos (by omega) (ev_pos (by omega) ?_)
    refine Ev.bind (RecB.decode _ (bytes_take heb _) (by rw [List.length_take]; omega)) ?_
    refine ev_some (ev_pos (by simp; omega) (ev_some (ev_pos (by simp; omega) ?_)))
    have hb0 : Bytes [0] := by intro x hx; simp at hx; omega
    rw [List.nil_append]
    refine Ev.bind (RecB.decode _ (bytes_app heb hb0) (by simp; omega)) ?_
    refine ev_pos (dec_less kd key len st h _ (by omega)) ?_
    rw [dec_more kd key len st h]
    refine Ev.step (fun k => by rw [aumbrylaw16_RecordBack.j2]) (ev_neg (by decide) ?_)
    exact back_j3 b 0 (.inl rfl) hb hl
  · rw [if_neg h]
    exact ev_neg (by decide) (back_j3 b 1 (.inr rfl) hb hl)

theorem RecordBack : ∀ (a0_0 : Int) (a0_1 : ByteArray) (a0_2 : Int) (l0_3 : (List Int)) (l1 : (List Int)), ((Lit.int .i64 a0_0).wf = true) → (a0_1.size ≤ maxLen) → ((Lit.int .i64 a0_2).wf = true) → ((∀ l0_3e ∈ l0_3, (Lit.int .i64 l0_3e).wf = true)) → ((∀ l1e ∈ l1, (Lit.int .u8 l1e).wf = true)) → ∃ k, aumbrylaw16_RecordBack.f k a0_0 a0_1 a0_2 l0_3 l1 = some true := by
  intro kd key len st b _ _ _ _ hb
  have hb : Bytes b := bytes_of hb
  show ∃ k, (fun k => aumbrylaw16_RecordBack.f k kd key len st b) k = some true
  refine Ev.rounds ?_
  unfold aumbrylaw16_RecordBack.f
  rw [awake]
  refine ev_some ?_
  rw [few]
  refine ev_some ?_
  by_cases hf : key.size ≤ 300 ∧ st.length ≤ 300
  · refine ev_pos (decide_eq_true hf) ?_
    by_cases h : (b.length : Int) > 1000
    · rw [decide_eq_true h]
      exact back_out _ _ _ _ _
    · rw [decide_eq_false h]
      exact back_in _ _ _ _ _ hf.2 hb (by omega)
  · exact ev_neg (by rw [decide_eq_true_eq]; exact hf) (back_out _ _ _ _ _)

end Go.Proofs.Ytoeegdpkmdgkdaa.Pure
