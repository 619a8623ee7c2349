/- What the document's Parts, Objects, and the guards little and short, answer, for lists that are alike and for all lists. -/
import Derived.Test.YtoeegdpkmdgkdaaRecS
namespace Go.Proofs.Ytoeegdpkmdgkdaa.RecS
open Go.RowKit Go.Proofs.Ytoeegdpkmdgkdaa.PAll Go.Proofs.YtoeegdpkmdgkdaaW.PrintWords Go.Proofs.YtoeegdpkmdgkdaaW.PrintLast Go.Proofs.YtoeegdpkmdgkdaaW.PrintMore Go.Proofs.Ytoeegdpkmdgkdaa.RecA Go.Proofs.Ytoeegdpkmdgkdaa.RecB
set_option linter.unusedVariables false
set_option linter.unusedSimpArgs false

theorem rd_memL {l : List (List Int)} {j : Nat} (h : j < l.length) : rd_L2 l (j : Int) ∈ l := by
  unfold rd_L2
  rw [Int.toNat_natCast, List.getD_eq_getElem?_getD, List.getElem?_eq_getElem h]
  exact List.getElem_mem h
theorem parts_l0 (l : List (List Int)) (hl : l.length ≤ 1000000) (hp : ∀ p ∈ l, p.length ≤ 1000000) : ∀ (d i : Nat), i + d = l.length → Ev (fun k => aumbryref16_Parts.l0 k l l (i : Int)) true
  | 0, i, hi => Ev.step (f := fun _ => some true) (fun k => by rw [aumbryref16_Parts.l0, if_neg (by omega)]) (Ev.now _)
  | d + 1, i, hi => by
    have hlt : i < l.length := by omega
    refine Ev.step (fun k => by rw [aumbryref16_Parts.l0]) (ev_pos (by omega) (ev_pos (by omega) (ev_pos (by omega) ?_)))
    refine Ev.bind (same _ _ (by have := hp _ (rd_memL hlt); omega)) (ev_pos (decide_eq_true rfl) ?_)
    rw [wrap_in (by omega) (by omega), show ((i : Int) + 1) = ((i + 1 : Nat) : Int) from by omega]
    exact parts_l0 l hl hp d (i + 1) (by omega)
theorem parts (l : List (List Int)) (hl : l.length ≤ 1000000) (hp : ∀ p ∈ l, p.length ≤ 1000000) : Ev (fun k => aumbryref16_Parts.f k l l) true := by
  unfold aumbryref16_Parts.f
  exact ev_pos rfl (parts_l0 l hl hp l.length 0 (by omega))
theorem objects_l0 (l : List S61) (hs : Small l) : ∀ (d i : Nat), i + d = l.length → Ev (fun k => aumbryref16_Objects.l0 k l l (i : Int)) true
  | 0, i, hi => Ev.step (f := fun _ => some true) (fun k => by rw [aumbryref16_Objects.l0, if_neg (by omega)]) (Ev.now _)
  | d + 1, i, hi => by
    have hlt : i < l.length := by omega
    have hL := hs.1
    have hst := hs.2 _ (rd_mem hlt)
    refine Ev.step (fun k => by rw [aumbryref16_Objects.l0]) (ev_pos (by omega) (ev_pos (by omega) ?_))
    unfold aumbryref16_put.f
    refine ev_some (ev_pos (by omega) (ev_some (Ev.bind (rsame _ _ _ _ _ _ _ _ (by dsimp only; omega)) (ev_pos (decide_eq_true ⟨rfl, rfl, rfl, rfl⟩) ?_))))
    rw [show ((rd_T61 l (i : Int)).f2 != (rd_T61 l (i : Int)).f2) = false from bne_self_eq_false _]
    refine Ev.step (fun k => by rw [aumbryref16_Objects.j1]) (ev_neg (by decide) ?_)
    rw [wrap_in (by omega) (by omega), show ((i : Int) + 1) = ((i + 1 : Nat) : Int) from by omega]
    exact objects_l0 l hs d (i + 1) (by omega)
theorem objects (l : List S61) (hs : Small l) : Ev (fun k => aumbryref16_Objects.f k l l) true := by
  unfold aumbryref16_Objects.f
  exact ev_pos rfl (objects_l0 l hs l.length 0 (by omega))

/-! ### the guards -/
theorem short_l0 (l : List (List Int)) (hl : l.length ≤ 1000000) : ∀ (d i : Nat), i + d = l.length → ∃ b, Ev (fun k => aumbrylaw16_short.l0 k l (i : Int)) b ∧ (b = true → ∀ j, i ≤ j → j < l.length → (rd_L2 l (j : Int)).length ≤ 5000)
  | 0, i, hi => ⟨true, Ev.step (f := fun _ => some true) (fun k => by rw [aumbrylaw16_short.l0, if_neg (by omega)]) (Ev.now _), fun _ j h1 h2 => absurd h2 (by omega)⟩
  | d + 1, i, hi => by
    have hlt : i < l.length := by omega
    obtain ⟨b, h1, h2⟩ := short_l0 l hl d (i + 1) (by omega)
    by_cases h : ((rd_L2 l (i : Int)).length : Int) > 5000
    · exact ⟨false, Ev.step (fun k => by rw [aumbrylaw16_short.l0]) (ev_pos (by omega) (ev_pos (by omega) (ev_pos h (Ev.now _)))), fun hb => by cases hb⟩
    · refine ⟨b, Ev.step (fun k => by rw [aumbrylaw16_short.l0]) (ev_pos (by omega) (ev_pos (by omega) (ev_neg h ?_))), fun hb j hj hjl => ?_⟩
      · rw [wrap_in (by omega) (by omega), show ((i : Int) + 1) = ((i + 1 : Nat) : Int) from by omega]
        exact h1
      · rcases Nat.eq_or_lt_of_le hj with rfl | hlt2
        · omega
        · exact h2 hb j hlt2 hjl
theorem short (l : List (List Int)) : ∃ b, Ev (fun k => aumbrylaw16_short.f k l) b ∧ (b = true → l.length ≤ 5 ∧ ∀ p ∈ l, p.length ≤ 5000) := by
  unfold aumbrylaw16_short.f
  by_cases h : (l.length : Int) > 5
  · exact ⟨false, ev_pos h (Ev.now _), fun hb => by cases hb⟩
  · obtain ⟨b, h1, h2⟩ := short_l0 l (by omega) l.length 0 (by omega)
    refine ⟨b, ev_neg h h1, fun hb => ⟨by omega, fun p hp => ?_⟩⟩
    obtain ⟨j, hj, rfl⟩ := List.getElem_of_mem hp
    have := h2 hb j (Nat.zero_le _) hj
    unfold rd_L2 at this
    rw [Int.toNat_natCast, List.getD_eq_getElem?_getD, List.getElem?_eq_getElem hj] at this
    exact this
theorem little_l0 (l : List S61) (hl : l.length ≤ 1000000) : ∀ (d i : Nat), i + d = l.length → ∃ b, Ev (fun k => aumbrylaw16_little.l0 k l (i : Int)) b ∧ (b = true → ∀ j, i ≤ j → j < l.length → (rd_T61 l (j : Int)).f3.length ≤ 300)
  | 0, i, hi => ⟨true, Ev.step (f := fun _ => some true) (fun k => by rw [aumbrylaw16_little.l0, if_neg (by omega)]) (Ev.now _), fun _ j h1 h2 => absurd h2 (by omega)⟩
  | d + 1, i, hi => by
    have hlt : i < l.length := by omega
    obtain ⟨b, h1, h2⟩ := little_l0 l hl d (i + 1) (by omega)
    have bad : Ev (fun k => aumbrylaw16_little.j1 k l (i : Int) true) false := ev_succ fun k => by rw [aumbrylaw16_little.j1, if_pos rfl]
    by_cases h0 : ((rd_T61 l (i : Int)).f0.size : Int) > 100
    · exact ⟨false, Ev.step (fun k => by rw [aumbrylaw16_little.l0]) (ev_pos (by omega) (ev_pos (by omega) (ev_pos h0 bad))), fun hb => by cases hb⟩
    by_cases h : ((rd_T61 l (i : Int)).f3.length : Int) > 300
    · refine ⟨false, Ev.step (fun k => by rw [aumbrylaw16_little.l0]) (ev_pos (by omega) (ev_pos (by omega) (ev_neg h0 ?_))), fun hb => by cases hb⟩
      rw [decide_eq_true h]
      exact bad
    · refine ⟨b, Ev.step (fun k => by rw [aumbrylaw16_little.l0]) (ev_pos (by omega) (ev_pos (by omega) (ev_neg h0 ?_))), fun hb j hj hjl => ?_⟩
      · rw [decide_eq_false h]
        refine Ev.step (fun k => by rw [aumbrylaw16_little.j1]) (ev_neg (by decide) ?_)
        rw [wrap_in (by omega) (by omega), show ((i : Int) + 1) = ((i + 1 : Nat) : Int) from by omega]
        exact h1
      · rcases Nat.eq_or_lt_of_le hj with rfl | hlt2
        · omega
        · exact h2 hb j hlt2 hjl
theorem little (l : List S61) : ∃ b, Ev (fun k => aumbrylaw16_little.f k l) b ∧ (b = true → Small l) := by
  unfold aumbrylaw16_little.f
  by_cases h : (l.length : Int) > 70
  · exact ⟨false, ev_pos h (Ev.now _), fun hb => by cases hb⟩
  · obtain ⟨b, h1, h2⟩ := little_l0 l (by omega) l.length 0 (by omega)
    refine ⟨b, ev_neg h h1, fun hb => ⟨by omega, fun o ho => ?_⟩⟩
    obtain ⟨j, hj, rfl⟩ := List.getElem_of_mem ho
    have := h2 hb j (Nat.zero_le _) hj
    unfold rd_T61 at this
    rw [Int.toNat_natCast, List.getD_eq_getElem?_getD, List.getElem?_eq_getElem hj] at this
    exact Nat.le_trans this (by decide)
theorem parts_of {l : List (List Int)} (h : l.length ≤ 5 ∧ ∀ p ∈ l, p.length ≤ 5000) (hb : ∀ p ∈ l, ∀ x ∈ p, (Lit.int .u8 x).wf = true) : Parts l :=
  ⟨by omega, fun p hp => ⟨by have := h.2 p hp; omega, bytes_of (hb p hp)⟩⟩
theorem cut_parts {l : List S61} (h : mayB l = true) : Parts (cutB (body l)) := by
  refine ⟨by simp [cutB], fun p hp => ?_⟩
  unfold cutB at hp
  rcases List.mem_cons.1 hp with rfl | hp
  · exact ⟨by rw [List.length_take]; omega, bytes_take (body_bytes l) _⟩
  · have : p = ((body l).drop 4096).take 4096 := by simpa using hp
    subst this
    exact ⟨by rw [List.length_take]; omega, bytes_take (bytes_drop (body_bytes l) _) _⟩
theorem cut_lens (b : List Int) : (cutB b).length ≤ 1000000 ∧ ∀ p ∈ cutB b, p.length ≤ 4096 := by
  refine ⟨by simp [cutB], fun p hp => ?_⟩
  unfold cutB at hp
  rcases List.mem_cons.1 hp with rfl | hp
  · rw [List.length_take]; omega
  · have : p = (b.drop 4096).take 4096 := by simpa using hp
    subst this
    rw [List.length_take]; omega
theorem uns_small (ps : List (List Int)) (h : Parts ps) : Small (unsM ps).1 := by
  have hz : Small [] := ⟨by simp, fun o ho => absurd ho (by simp)⟩
  unfold unsM
  by_cases hb : badUpTo ps ps.length = true
  · rw [if_pos hb]; exact hz
  · rw [if_neg hb]
    by_cases h2 : ps.flatten.length < 2
    · rw [if_pos h2]; exact hz
    · rw [if_neg h2]
      cases ho : objsM (beN (ps.flatten.take 2)).toNat [] (ps.flatten.drop 2) with
      | none => exact hz
      | some x =>
        obtain ⟨os, rest⟩ := x
        unfold endM
        dsimp only
        by_cases he : rest.length = 0 ∧ mayB os = true
        · rw [if_pos he]
          exact objsM_small ho (cnt_le (flat_bytes h))
        · rw [if_neg he]; exact hz
end Go.Proofs.Ytoeegdpkmdgkdaa.RecS
