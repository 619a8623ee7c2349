/- What the document's answers for Check, Encode and Decode of package record are, as functions on lists, for all records and bytes. -/
import Derived.Test.YtoeegdpkmdgkdaaRecB
import Derived.Test.YtoeegdpkmdgkdaaPAllx9
import Derived.Test.YtoeegdpkmdgkdaaPAllx10
import Derived.Test.YtoeegdpkmdgkdaaPAllx11
namespace Go.Proofs.Ytoeegdpkmdgkdaa.RecB
open Go.RowKit Go.Proofs.Ytoeegdpkmdgkdaa.PAll Go.Proofs.YtoeegdpkmdgkdaaW.PrintWords Go.Proofs.YtoeegdpkmdgkdaaW.PrintLast Go.Proofs.YtoeegdpkmdgkdaaW.PrintMore Go.Proofs.Ytoeegdpkmdgkdaa.RecA
set_option linter.unusedVariables false
set_option linter.unusedSimpArgs false

theorem qc_j3 (b : Bool) : Ev (fun k => aumbryref16_Check.j3 k b) (if b = true then 1 else 0) := ev_succ fun k => by rw [aumbryref16_Check.j3]; cases b <;> rfl
theorem qc_l0 (kd : Int) (key : ByteArray) (len : Int) (st : List Int) (hs : st.length ≤ 1000000000) : ∀ (d i : Nat), i + d = st.length →
    Ev (fun k => aumbryref16_Check.l0 k (i : Int) kd key len st) (if Late kd len st i then 0 else 1)
  | 0, i, hi => by
    refine Ev.step (fun k => by rw [aumbryref16_Check.l0]) (ev_neg (by omega) ?_)
    have hd : st.drop i = [] := List.drop_of_length_le (by omega)
    by_cases h2 : kd = 2
    · refine ev_pos h2 ?_
      by_cases h3 : len = 0
      · refine ev_pos h3 (ev_eq (qc_j3 _) ?_)
        by_cases h4 : st.length = 0
        · rw [if_neg (by rw [decide_eq_true_eq]; omega), if_pos]
          exact ⟨by rw [hd]; simp, fun _ => ⟨h3, h4⟩⟩
        · rw [if_pos (by rw [decide_eq_true_eq]; omega), if_neg]
          exact fun h => h4 (h.2 h2).2
      · refine ev_neg h3 (ev_eq (qc_j3 _) ?_)
        rw [if_pos rfl, if_neg]
        exact fun h => h3 (h.2 h2).1
    · refine ev_neg h2 (ev_eq (qc_j3 _) ?_)
      rw [if_neg (by decide), if_pos]
      exact ⟨by rw [hd]; simp, fun h => absurd h h2⟩
  | d + 1, i, hi => by
    have hlt : i < st.length := by omega
    have ih := qc_l0 kd key len st hs d (i + 1) (by omega)
    have ej : Ev (fun k => aumbryref16_Check.j2 k (i : Int) true kd key len st) 1 := ev_succ fun k => by rw [aumbryref16_Check.j2, if_pos rfl]
    refine Ev.step (fun k => by rw [aumbryref16_Check.l0]) (ev_pos (by omega) (ev_pos (by omega) ?_))
    by_cases h1 : rd st (i : Int) < 0
    · refine ev_pos h1 (ev_eq ej ?_)
      rw [if_neg]
      exact fun h => by have := ((late_succ hlt).1 h).1; omega
    · refine ev_neg h1 ?_
      by_cases h2 : rd st (i : Int) ≥ 256
      · rw [decide_eq_true h2]
        refine ev_eq ej ?_
        rw [if_neg]
        exact fun h => by have := ((late_succ hlt).1 h).1; omega
      · rw [decide_eq_false h2]
        refine Ev.step (fun k => by rw [aumbryref16_Check.j2]) (ev_neg (by decide) ?_)
        rw [wrap_in (by omega) (by omega), show ((i : Int) + 1) = ((i + 1 : Nat) : Int) from by omega]
        refine ev_eq ih (ite_iff ?_ _ _)
        rw [late_succ hlt]
        exact ⟨fun h => ⟨by omega, h⟩, fun h => h.2⟩
theorem qcheck (kd : Int) (key : ByteArray) (len : Int) (st : List Int) (hs : st.length ≤ 1000000000) : Ev (fun k => aumbryref16_Check.f k kd key len st) (chk kd key len st) := by
  have bad : ¬ Ok kd key len st → Ev (fun k => aumbryref16_Check.j0 k true kd key len st) (chk kd key len st) := fun h => ev_eq (r := 1) (ev_succ fun k => by rw [aumbryref16_Check.j0, if_pos rfl]) (by unfold chk; rw [if_neg h])
  have rest : (kd = 1 ∨ kd = 2) → Ev (fun k => if (key.size : Int) < 1 then (aumbryref16_Check.j0 k true kd key len st) else (if (key.size : Int) > 64 then (aumbryref16_Check.j0 k true kd key len st) else (if len < 0 then (aumbryref16_Check.j0 k true kd key len st) else (if len > 2147483647 then (aumbryref16_Check.j0 k true kd key len st) else (aumbryref16_Check.j0 k (decide ((st.length : Int) > 256)) kd key len st))))) (chk kd key len st) := by
    intro hk
    by_cases h1 : (key.size : Int) < 1
    · exact ev_pos h1 (bad (by unfold Ok; omega))
    · refine ev_neg h1 ?_
      by_cases h2 : (key.size : Int) > 64
      · exact ev_pos h2 (bad (by unfold Ok; omega))
      · refine ev_neg h2 ?_
        by_cases h3 : len < 0
        · exact ev_pos h3 (bad (by unfold Ok; omega))
        · refine ev_neg h3 ?_
          by_cases h4 : len > 2147483647
          · exact ev_pos h4 (bad (by unfold Ok; omega))
          · refine ev_neg h4 ?_
            by_cases h5 : (st.length : Int) > 256
            · rw [decide_eq_true h5]
              exact bad (by unfold Ok; omega)
            · rw [decide_eq_false h5]
              refine Ev.step (f := fun k => aumbryref16_Check.l0 k ((0 : Nat) : Int) kd key len st) (fun k => by rw [aumbryref16_Check.j0, if_neg (by decide)]; rfl) (ev_eq (qc_l0 kd key len st hs st.length 0 (by omega)) ?_)
              unfold chk
              by_cases h6 : Late kd len st 0
              · rw [if_pos h6, if_pos]
                exact ⟨hk, by omega, by omega, by omega, h6.1, h6.2⟩
              · rw [if_neg h6, if_neg]
                exact fun h => h6 ⟨h.2.2.2.2.1, h.2.2.2.2.2⟩
  unfold aumbryref16_Check.f
  by_cases h1 : kd = 1
  · exact ev_pos h1 (rest (.inl h1))
  · refine ev_neg h1 ?_
    by_cases h2 : kd = 2
    · exact ev_pos h2 (rest (.inr h2))
    · exact ev_neg h2 (bad (fun h => by have := h.1; omega))
theorem rfour (n : Int) (h0 : 0 ≤ n) (h1 : n < 4294967296) : aumbryref11_Four.f (n % 4294967296) = some (four n) := by
  unfold aumbryref11_Four.f
  rw [Int.emod_eq_of_lt h0 h1]
  rfl
theorem rtwo (n : Int) (h0 : 0 ≤ n) (h1 : n < 4294967296) : aumbryref16_two.f n = some (two n) := by
  unfold aumbryref16_two.f
  rw [Int.tdiv_eq_ediv_of_nonneg h0, Int.tmod_eq_emod_of_nonneg h0, wrap_in (by omega) (by omega)]
  unfold two
  congr 3
  omega
theorem renc_l0 (kd : Int) (key : ByteArray) (len : Int) (st : List Int) (hs : st.length ≤ 1000000) (hb : ∀ x ∈ st, 0 ≤ x ∧ x < 256) : ∀ (d i : Nat) (l : List Int), i + d = st.length → l.length + 2 * d ≤ 100000000 →
    Ev (fun k => aumbryref16_Encode.l0 k l (i : Int) kd key len st) (l ++ pairs (st.drop i), 0)
  | 0, i, l, hi, hl => by
    refine Ev.step (fun k => by rw [aumbryref16_Encode.l0]) (ev_neg (by omega) (ev_eq (Ev.now _) ?_))
    rw [List.drop_of_length_le (by omega)]
    exact congrArg (·, 0) (List.append_nil l).symm
  | d + 1, i, l, hi, hl => by
    have hlt : i < st.length := by omega
    have hr : 0 ≤ rd st (i : Int) ∧ rd st (i : Int) < 256 := hb _ (by
      have := drop_rd hlt
      have h2 : rd st (i : Int) ∈ st.drop i := by rw [this]; simp
      exact List.mem_of_mem_drop h2)
    refine Ev.step (fun k => by rw [aumbryref16_Encode.l0]) (ev_pos (by omega) (ev_pos (by omega) ?_))
    rw [rtwo _ hr.1 (by omega)]
    refine ev_some (ev_pos (by rw [two_len]; omega) ?_)
    rw [wrap_in (by omega) (by omega), show ((i : Int) + 1) = ((i + 1 : Nat) : Int) from by omega]
    refine ev_eq (renc_l0 kd key len st hs hb d (i + 1) _ (by omega) (by rw [List.length_append, two_len]; omega)) ?_
    rw [drop_rd hlt, List.append_assoc]
    rfl
theorem rencode (kd : Int) (key : ByteArray) (len : Int) (st : List Int) (hs : st.length ≤ 1000000) : Ev (fun k => aumbryref16_Encode.f k kd key len st) (encM kd key len st) := by
  unfold aumbryref16_Encode.f
  refine Ev.bind (qcheck kd key len st (by omega)) ?_
  unfold chk encM
  by_cases h : Ok kd key len st
  · rw [if_pos h, if_pos h]
    have h1 := h.2.1
    have h2 := h.2.2.1
    refine ev_pos rfl (ev_some (ev_pos (by simp; omega) (ev_some ?_)))
    rw [rfour len h2.1 (by omega)]
    have e1 : ([kd % 256, (key.size : Int) % 256] ++ bytesOf key).length = 2 + key.size := by simp [bytesOf_length]; omega
    refine ev_some (ev_pos (by rw [e1, four_len]; omega) (ev_some ?_))
    rw [rtwo _ (by omega) (by omega)]
    have e2 : ([kd % 256, (key.size : Int) % 256] ++ bytesOf key ++ four len).length = 6 + key.size := by rw [List.length_append, e1, four_len]; omega
    refine ev_some (ev_pos (by rw [e2, two_len]; omega) ?_)
    refine ev_eq (renc_l0 kd key len st hs h.2.2.2.2.1 st.length 0 _ (by omega) (by rw [List.length_append, e2, two_len]; omega)) ?_
    rw [List.drop_zero]
    rfl
  · rw [if_neg h, if_neg h]
    exact ev_neg (by decide) (Ev.now _)

theorem rdec_bad (kd : Int) (key : ByteArray) (len : Int) (st : List Int) : Ev (fun k => aumbryref16_Decode.j0 k true kd key len st) (0, ⟨#[]⟩, 0, [], 160) := ev_succ fun k => by rw [aumbryref16_Decode.j0, if_pos rfl]
/-- aumbryref16.next: a record there, and what is behind it. -/
theorem next_ok (b : List Int) (hb : Bytes b) (hl : b.length ≤ 1000000) (h : OkOf b) : Ev (fun k => aumbryref16_next.f k b) ((recOf b).1, (recOf b).2.1, (recOf b).2.2.1, (recOf b).2.2.2.1, (recOf b).2.2.2.2, true) := by
  unfold aumbryref16_next.f
  refine ev_pos ⟨hl, okB_of hb⟩ (ev_pos ⟨h.1, h.2.2.2.1.2⟩ ?_)
  have hs := rec_st_len b h.1
  refine Ev.bind (qcheck _ _ _ _ (by omega)) ?_
  unfold chk
  rw [if_pos h.2]
  exact Ev.now _
theorem next_no (b : List Int) (hb : Bytes b) (hl : b.length ≤ 1000000) (h : ¬ OkOf b) : ∃ r, r.2.2.2.2.2 = false ∧ Ev (fun k => aumbryref16_next.f k b) r := by
  unfold aumbryref16_next.f
  by_cases hf : fits b = true ∧ (recOf b).2.2.1 ≤ 2147483647
  · have hs := rec_st_len b hf.1
    refine ⟨((recOf b).1, (recOf b).2.1, (recOf b).2.2.1, (recOf b).2.2.2.1, (recOf b).2.2.2.2, false), rfl, ?_⟩
    refine ev_pos ⟨hl, okB_of hb⟩ (ev_pos hf (Ev.bind (qcheck _ _ _ _ (by omega)) ?_))
    unfold chk
    rw [if_neg (fun ho => h ⟨hf.1, ho⟩)]
    exact Ev.now _
  · exact ⟨_, rfl, ev_pos ⟨hl, okB_of hb⟩ (ev_neg hf (Ev.now _))⟩
theorem rdecode (b : List Int) (hb : Bytes b) (hl : b.length ≤ 1000000) : Ev (fun k => aumbryref16_Decode.f k b) (decM b) := by
  unfold aumbryref16_Decode.f decM
  by_cases ho : OkOf b
  · refine Ev.bind (next_ok b hb hl ho) (ev_pos rfl ?_)
    dsimp only
    by_cases hr : (recOf b).2.2.2.2.length = 0
    · have hp : OkOf b ∧ (recOf b).2.2.2.2.length = 0 := ⟨ho, hr⟩
      rw [if_pos hp, decide_eq_false (p := ((recOf b).2.2.2.2.length : Int) > 0) (by omega)]
      exact ev_succ fun k => by rw [aumbryref16_Decode.j0, if_neg (by decide)]
    · have hp : ¬ (OkOf b ∧ (recOf b).2.2.2.2.length = 0) := fun h => hr h.2
      rw [if_neg hp, decide_eq_true (p := ((recOf b).2.2.2.2.length : Int) > 0) (by omega)]
      exact rdec_bad _ _ _ _
  · have hp : ¬ (OkOf b ∧ (recOf b).2.2.2.2.length = 0) := fun h => ho h.1
    rw [if_neg hp]
    obtain ⟨r, hr, he⟩ := next_no b hb hl ho
    exact Ev.bind he (ev_neg (by rw [hr]; decide) (rdec_bad _ _ _ _))

end Go.Proofs.Ytoeegdpkmdgkdaa.RecB
