/- What Check of package record answers, as functions on lists, for all records and bytes. -/
import Derived.Test.YtoeegdpkmdgkdaaPAllx1
namespace Go.Proofs.Ytoeegdpkmdgkdaa.RecA
open Go.RowKit Go.Proofs.Ytoeegdpkmdgkdaa.PAll Go.Proofs.YtoeegdpkmdgkdaaW.PrintWords Go.Proofs.YtoeegdpkmdgkdaaW.PrintLast Go.Proofs.YtoeegdpkmdgkdaaW.PrintMore
set_option linter.unusedVariables false
set_option linter.unusedSimpArgs false

section
variable {α β : Type} {g f : Nat → Option α} {r r' : α} {c : Prop} [Decidable c]
theorem ev_eq (h : Ev g r) (e : r = r') : Ev g r' := e ▸ h
theorem ev_succ (h : ∀ k, g (k + 1) = some r) : Ev g r := Ev.step (f := fun _ => some r) h (Ev.now r)
theorem ev_pos (hc : c) (h : Ev g r) : Ev (fun k => if c then g k else f k) r := Ev.congr (fun k => if_pos hc) h
theorem ev_neg (hc : ¬ c) (h : Ev f r) : Ev (fun k => if c then g k else f k) r := Ev.congr (fun k => if_neg hc) h
theorem ev_some {a : β} {f : Nat → β → Option α} (h : Ev (fun k => f k a) r) : Ev (fun k => (some a).bind (f k)) r := Ev.congr (fun k => Option.bind_some _ _) h
end
theorem ite_iff {p q : Prop} [Decidable p] [Decidable q] (h : p ↔ q) (a b : Int) : (if p then a else b) = if q then a else b := by
  by_cases hp : p
  · rw [if_pos hp, if_pos (h.1 hp)]
  · rw [if_neg hp, if_neg (fun hq => hp (h.2 hq))]
theorem wrap_in {i : Int} (h0 : -9223372036854775808 ≤ i) (h1 : i ≤ 9223372036854775807) : wrap64 i = i := by unfold wrap64; omega

/-! ### Check -/
def Ok (kd : Int) (key : ByteArray) (len : Int) (st : List Int) : Prop :=
  (kd = 1 ∨ kd = 2) ∧ (1 ≤ key.size ∧ key.size ≤ 64) ∧ (0 ≤ len ∧ len ≤ 2147483647) ∧ st.length ≤ 256 ∧ (∀ x ∈ st, 0 ≤ x ∧ x < 256) ∧ (kd = 2 → len = 0 ∧ st.length = 0)
instance (kd : Int) (key : ByteArray) (len : Int) (st : List Int) : Decidable (Ok kd key len st) := by unfold Ok; infer_instance
def chk (kd : Int) (key : ByteArray) (len : Int) (st : List Int) : Int := if Ok kd key len st then 0 else 1
/-- What the loop over stripes still has to see. -/
def Late (kd len : Int) (st : List Int) (i : Nat) : Prop := (∀ x ∈ st.drop i, 0 ≤ x ∧ x < 256) ∧ (kd = 2 → len = 0 ∧ st.length = 0)
instance (kd len : Int) (st : List Int) (i : Nat) : Decidable (Late kd len st i) := by unfold Late; infer_instance
theorem drop_rd {l : List Int} {i : Nat} (h : i < l.length) : l.drop i = rd l (i : Int) :: l.drop (i + 1) := by
  rw [List.drop_eq_getElem_cons h]
  congr 1
  simp [rd, h]
theorem late_succ {kd len : Int} {st : List Int} {i : Nat} (h : i < st.length) : Late kd len st i ↔ (0 ≤ rd st (i : Int) ∧ rd st (i : Int) < 256) ∧ Late kd len st (i + 1) := by
  unfold Late
  rw [drop_rd h]
  simp only [List.mem_cons, forall_eq_or_imp, and_assoc]
theorem rc_j2 (b : Bool) : Ev (fun k => record_Check.j2 k b) (if b = true then 1 else 0) := ev_succ fun k => by rw [record_Check.j2]; cases b <;> rfl
theorem rc_l0 (kd : Int) (key : ByteArray) (len : Int) (st : List Int) (hs : st.length ≤ 1000000000) : ∀ (d i : Nat) (b : Bool), i + d = st.length →
    Ev (fun k => record_Check.l0 k b st (st.length : Int) (i : Int) kd key len st) (if b = true ∨ ¬ Late kd len st i then 1 else 0)
  | 0, i, b, hi => by
    refine Ev.step (fun k => by rw [record_Check.l0]) (ev_neg (by omega) ?_)
    have hd : st.drop i = [] := List.drop_of_length_le (by omega)
    cases b
    · refine ev_neg (by decide) ?_
      by_cases h2 : kd = 2
      · refine ev_pos h2 ?_
        by_cases h3 : len = 0
        · refine ev_pos h3 (ev_eq (rc_j2 _) ?_)
          by_cases h4 : st.length = 0
          · rw [if_neg (by rw [decide_eq_true_eq]; omega), if_neg]
            rintro (h | h)
            · cases h
            · exact h ⟨by rw [hd]; simp, fun _ => ⟨h3, h4⟩⟩
          · rw [if_pos (by rw [decide_eq_true_eq]; omega), if_pos]
            exact .inr (fun h => h4 (h.2 h2).2)
        · refine ev_neg h3 (ev_eq (rc_j2 _) ?_)
          rw [if_pos rfl, if_pos]
          exact .inr (fun h => h3 (h.2 h2).1)
      · refine ev_neg h2 (ev_eq (rc_j2 _) ?_)
        rw [if_neg (by decide), if_neg]
        rintro (h | h)
        · cases h
        · exact h ⟨by rw [hd]; simp, fun h => absurd h h2⟩
    · exact ev_pos rfl (ev_eq (rc_j2 _) (by rw [if_pos rfl, if_pos (.inl rfl)]))
  | d + 1, i, b, hi => by
    have hlt : i < st.length := by omega
    have ih := rc_l0 kd key len st hs d (i + 1)
    refine Ev.step (fun k => by rw [record_Check.l0]) (ev_pos (by omega) (ev_pos (by omega) (ev_pos (by omega) ?_)))
    rw [wrap_in (by omega) (by omega), show ((i : Int) + 1) = ((i + 1 : Nat) : Int) from by omega]
    cases b
    · refine ev_neg (by decide) ?_
      by_cases h1 : rd st (i : Int) < 0
      · refine ev_pos h1 (ev_eq (ih true (by omega)) ?_)
        rw [if_pos (.inl rfl), if_pos]
        exact .inr (fun h => by have := ((late_succ hlt).1 h).1; omega)
      · refine ev_neg h1 (ev_eq (ih _ (by omega)) ?_)
        by_cases h2 : rd st (i : Int) ≥ 256
        · rw [if_pos (.inl (decide_eq_true h2)), if_pos]
          exact .inr (fun h => by have := ((late_succ hlt).1 h).1; omega)
        · rw [decide_eq_false h2]
          refine ite_iff (or_congr Iff.rfl (not_congr ?_)) _ _
          rw [late_succ hlt]
          exact ⟨fun h => ⟨by omega, h⟩, fun h => h.2⟩
    · exact ev_pos rfl (ev_eq (ih true (by omega)) (by rw [if_pos (.inl rfl), if_pos (.inl rfl)]))
theorem rc_j0 (kd : Int) (key : ByteArray) (len : Int) (st : List Int) (hs : st.length ≤ 1000000000) (b : Bool) : Ev (fun k => record_Check.j0 k b kd key len st) (if b = true ∨ ¬ Late kd len st 0 then 1 else 0) :=
  Ev.step (fun k => by rw [record_Check.j0]; rfl) (rc_l0 kd key len st hs st.length 0 b (by omega))
theorem check (kd : Int) (key : ByteArray) (len : Int) (st : List Int) (hs : st.length ≤ 1000000000) : Ev (fun k => record_Check.f k kd key len st) (chk kd key len st) := by
  have bad : ¬ Ok kd key len st → Ev (fun k => record_Check.j0 k true kd key len st) (chk kd key len st) := fun h => ev_eq (rc_j0 kd key len st hs true) (by rw [if_pos (.inl rfl)]; unfold chk; rw [if_neg h])
  have rest : (kd = 1 ∨ kd = 2) → Ev (fun k => if (key.size : Int) < 1 then (record_Check.j0 k true kd key len st) else (if (key.size : Int) > 64 then (record_Check.j0 k true kd key len st) else (if len < 0 then (record_Check.j0 k true kd key len st) else (if len > 2147483647 then (record_Check.j0 k true kd key len st) else (record_Check.j0 k (decide ((st.length : Int) > 256)) kd key len st))))) (chk kd key len st) := by
    intro hk
    by_cases h1 : (key.size : Int) < 1
    · exact ev_pos h1 (bad (by unfold Ok; omega))
    · refine ev_neg h1 ?_
      by_cases h2 : (key.size : Int) > 64
      · exact ev_pos h2 (bad (by unfold Ok; omega))
      · refine ev_neg h2 ?_
        by_cases h3 : len < 0
        · exact ev_pos h3 (bad (by unfold Ok; omega))
        · refine ev_neg h3 ?_
          by_cases h4 : len > 2147483647
          · exact ev_pos h4 (bad (by unfold Ok; omega))
          · refine ev_neg h4 ?_
            by_cases h5 : (st.length : Int) > 256
            · rw [decide_eq_true h5]
              exact bad (by unfold Ok; omega)
            · rw [decide_eq_false h5]
              refine ev_eq (rc_j0 kd key len st hs false) ?_
              unfold chk
              by_cases h6 : Late kd len st 0
              · rw [if_neg (by simp [h6]), if_pos]
                exact ⟨hk, by omega, by omega, by omega, h6.1, h6.2⟩
              · rw [if_pos (.inr h6), if_neg]
                exact fun h => h6 ⟨h.2.2.2.2.1, h.2.2.2.2.2⟩
  unfold record_Check.f
  by_cases h1 : kd = 1
  · exact ev_pos h1 (rest (.inl h1))
  · refine ev_neg h1 ?_
    by_cases h2 : kd = 2
    · exact ev_pos h2 (rest (.inr h2))
    · exact ev_neg h2 (bad (fun h => by have := h.1; omega))
end Go.Proofs.Ytoeegdpkmdgkdaa.RecA
