/- What the document's May, Snap and Unsnap answer, as functions on lists, for all objects and parts. -/
import Derived.Test.YtoeegdpkmdgkdaaRecT
import Derived.Test.YtoeegdpkmdgkdaaRecR
import Derived.Test.YtoeegdpkmdgkdaaPAllx16
import Derived.Test.YtoeegdpkmdgkdaaPAllx17
namespace Go.Proofs.Ytoeegdpkmdgkdaa.RecS
open Go.RowKit Go.Proofs.Ytoeegdpkmdgkdaa.PAll Go.Proofs.YtoeegdpkmdgkdaaW.PrintWords Go.Proofs.YtoeegdpkmdgkdaaW.PrintLast Go.Proofs.YtoeegdpkmdgkdaaW.PrintMore Go.Proofs.Ytoeegdpkmdgkdaa.RecA Go.Proofs.Ytoeegdpkmdgkdaa.RecB
set_option linter.unusedVariables false
set_option linter.unusedSimpArgs false

section
open Classical
theorem qmay_l0 (l : List S61) (hs : Small l) : ∀ (d i x : Nat), i + d = l.length → x ≤ 256 * i → Ev (fun k => aumbryref16_May.l0 k l (x : Int) (i : Int)) (decide (From l x i))
  | 0, i, x, hi, hx => by
    refine Ev.step (fun k => by rw [aumbryref16_May.l0]) (ev_neg (by omega) (ev_eq (Ev.now _) ?_))
    rw [decide_eq_decide, from_end (by omega)]
    omega
  | d + 1, i, x, hi, hx => by
    have hlt : i < l.length := by omega
    have hL := hs.1
    have hst := hs.2 _ (rd_mem hlt)
    refine Ev.step (fun k => by rw [aumbryref16_May.l0]) (ev_pos (by omega) (ev_pos (by omega) ?_))
    unfold aumbryref16_put.f
    refine ev_some (Ev.bind (qcheck _ _ _ _ (by dsimp only; omega)) ?_)
    dsimp only
    have bad : ¬ OkAt l i → Ev (fun k => aumbryref16_May.j1 k l (x : Int) (i : Int) true) (decide (From l x i)) := fun hn =>
      ev_eq (r := false) (ev_succ fun k => by rw [aumbryref16_May.j1, if_pos rfl]) (by symm; rw [decide_eq_false_iff_not]; exact fun h => from_no hlt hn h)
    have good : OkAt l i → Ev (fun k => aumbryref16_May.j1 k l (x : Int) (i : Int) false) (decide (From l x i)) := by
      intro hok
      have h256 : (rd_T61 l (i : Int)).f3.length ≤ 256 := hok.1.1.2.2.2.1
      refine Ev.step (fun k => by rw [aumbryref16_May.j1]) (ev_neg (by decide) (ev_pos (by omega) (ev_pos (by omega) ?_)))
      rw [wrap_in (i := (i : Int) + 1) (by omega) (by omega), wrap_in (by omega) (by omega), show ((i : Int) + 1) = ((i + 1 : Nat) : Int) from by omega, show ((x : Int) + ((rd_T61 l (i : Int)).f3.length : Int)) = ((x + (rd_T61 l (i : Int)).f3.length : Nat) : Int) from by omega]
      refine ev_eq (qmay_l0 l hs d (i + 1) _ (by omega) (by omega)) ?_
      rw [decide_eq_decide, from_succ hlt hok]
    generalize ho : rd_T61 l (i : Int) = o at *
    unfold chk
    by_cases h1 : Ok 1 o.f0 o.f1 o.f3
    · rw [if_pos h1]
      refine ev_pos rfl ?_
      by_cases h2 : o.f2 < 0
      · exact ev_pos h2 (bad (fun h => by have := h.1.2; rw [ho] at this; omega))
      · refine ev_neg h2 ?_
        by_cases h3 : o.f2 > 2147483647
        · exact ev_pos h3 (bad (fun h => by have := h.1.2; rw [ho] at this; omega))
        · refine ev_neg h3 ?_
          have hoo : OkO o := ⟨h1, by omega, by omega⟩
          by_cases h4 : (i : Int) > 0
          · refine ev_pos h4 ?_
            rw [wrap_in (by omega) (by omega), show ((i : Int) - 1) = ((i - 1 : Nat) : Int) from by omega]
            refine ev_pos (by omega) (ev_pos (by omega) ?_)
            show Ev (fun k => aumbryref16_May.j1 k l (x : Int) (i : Int) (leq o.f0 (rd_T61 l ((i - 1 : Nat) : Int)).f0)) _
            cases h5 : leq o.f0 (rd_T61 l ((i - 1 : Nat) : Int)).f0 with
            | true => exact bad (fun h => by have := h.2 (by omega); rw [ho, h5] at this; cases this)
            | false => exact good ⟨by rw [ho]; exact hoo, fun _ => by rw [ho]; exact h5⟩
          · exact ev_neg h4 (good ⟨by rw [ho]; exact hoo, fun h => absurd h (by omega)⟩)
    · rw [if_neg h1]
      exact ev_neg (by decide) (bad (fun h => h1 (by have := h.1.1; rw [ho] at this; exact this)))
theorem qmay (l : List S61) (hs : Small l) : Ev (fun k => aumbryref16_May.f k l) (mayB l) := by
  unfold aumbryref16_May.f
  by_cases h : (l.length : Int) > 64
  · refine ev_pos h (ev_eq (Ev.now _) ?_)
    symm
    rw [Bool.eq_false_iff]
    exact fun hm => by have := ((mayB_iff l).1 hm).1; omega
  · refine ev_neg h (ev_eq (qmay_l0 l hs l.length 0 0 (by omega) (by omega)) ?_)
    rw [Bool.eq_iff_iff, mayB_iff, decide_eq_true_iff]
    exact ⟨fun hf => ⟨by omega, hf⟩, fun hf => hf.2⟩
end
theorem qsnap_l1 (b : List Int) : Ev (fun k => aumbryref16_Snap.l1 k b [] 0) (cutB b, 0) := by
  have step : ∀ (c : List Int) (acc : List (List Int)) (n : Int) (r : List (List Int) × Int), n < 2 → acc.length < 10 → Ev (fun k => aumbryref16_Snap.l1 k (c.drop 4096) (acc ++ [c.take 4096]) (wrap64 (n + 1))) r → Ev (fun k => aumbryref16_Snap.l1 k c acc n) r := by
    intro c acc n r hn ha h
    refine Ev.step (fun k => by rw [aumbryref16_Snap.l1]) (ev_pos hn ?_)
    by_cases hc : (c.length : Int) > 4096
    · exact ev_pos hc (ev_pos (by omega) (ev_pos (by omega) h))
    · refine ev_neg hc (ev_pos (by omega) (ev_pos (by omega) (ev_pos (by omega) ?_)))
      rw [Int.toNat_natCast, List.drop_of_length_le (Nat.le_refl _), List.take_of_length_le (Nat.le_refl _)]
      rw [List.drop_of_length_le (by omega), List.take_of_length_le (by omega)] at h
      exact h
  refine step b [] 0 _ (by decide) (by decide) ?_
  rw [wrap_in (by omega) (by omega)]
  refine step _ _ _ _ (by decide) (by simp) ?_
  rw [wrap_in (by omega) (by omega)]
  refine Ev.step (fun k => by rw [aumbryref16_Snap.l1]) ?_
  exact ev_neg (by decide) (Ev.now _)
theorem qsnap_l0 (l : List S61) (hl : l.length ≤ 64) (ho : ∀ o ∈ l, OkO o) : ∀ (d i : Nat) (b : List Int), i + d = l.length → b.length ≤ 588 * i + 2 →
    Ev (fun k => aumbryref16_Snap.l0 k l b (i : Int)) (cutB (b ++ objs (l.drop i)), 0)
  | 0, i, b, hi, hb => by
    refine Ev.step (fun k => by rw [aumbryref16_Snap.l0]) (ev_neg (by omega) (ev_eq (qsnap_l1 b) ?_))
    rw [List.drop_of_length_le (by omega)]
    simp [objs]
  | d + 1, i, b, hi, hb => by
    have hlt : i < l.length := by omega
    have hoo := ho _ (rd_mem hlt)
    have h1 := hoo.1.2.1
    have h2 := hoo.1.2.2.2.1
    have h3 := hoo.2
    refine Ev.step (fun k => by rw [aumbryref16_Snap.l0]) (ev_pos (by omega) (ev_pos (by omega) ?_))
    unfold aumbryref16_put.f
    refine ev_some (Ev.bind (rencode _ _ _ _ (by dsimp only; omega)) ?_)
    dsimp only
    rw [rfour _ h3.1 (by omega)]
    unfold encM
    rw [if_pos hoo.1]
    refine ev_some (ev_pos (by rw [four_len]; omega) (ev_some (ev_pos (by rw [List.length_append, four_len, enc_len]; omega) ?_)))
    rw [wrap_in (by omega) (by omega), show ((i : Int) + 1) = ((i + 1 : Nat) : Int) from by omega]
    refine ev_eq (qsnap_l0 l hl ho d (i + 1) _ (by omega) (by rw [List.length_append, List.length_append, four_len, enc_len]; omega)) ?_
    rw [drop_rd61 hlt]
    congr 2
    simp only [objs, List.flatMap_cons, bytesO, List.append_assoc]
theorem qsnap (l : List S61) (hs : Small l) : Ev (fun k => aumbryref16_Snap.f k l) (snapM l) := by
  unfold aumbryref16_Snap.f snapM
  refine Ev.bind (qmay l hs) ?_
  cases h : mayB l with
  | false => exact ev_neg (by decide) (Ev.now _)
  | true =>
    obtain ⟨h1, h2, h3⟩ := may_ok h
    refine ev_pos rfl ?_
    rw [rtwo _ (by omega) (by omega)]
    refine ev_some ?_
    exact ev_eq (qsnap_l0 l h1 h2 l.length 0 _ (by omega) (by rw [two_len]; omega)) rfl

/-! ### Unsnap -/
theorem qnumber (l : List Int) (h : 4 ≤ l.length) (hb : Bytes l) : aumbryref11_Number.f l = some (beN (l.take 4)) := by
  match l, h with
  | a :: b :: c :: d :: t, _ =>
    have h1 := hb a (by simp)
    have h2 := hb b (by simp)
    have h3 := hb c (by simp)
    have h4 := hb d (by simp)
    unfold aumbryref11_Number.f
    rw [if_pos (by simp; omega), if_pos (by simp; omega), if_pos (by simp; omega), if_pos (by simp; omega)]
    rw [show rd (a :: b :: c :: d :: t) 0 = a from rfl, show rd (a :: b :: c :: d :: t) 1 = b from rfl, show rd (a :: b :: c :: d :: t) 2 = c from rfl, show rd (a :: b :: c :: d :: t) 3 = d from rfl]
    simp only [List.take_succ_cons, List.take_zero, beN, List.foldl_cons, List.foldl_nil]
    congr 1
    omega
theorem beN4_range {l : List Int} (h : 4 ≤ l.length) (hb : Bytes l) : 0 ≤ beN (l.take 4) ∧ beN (l.take 4) < 4294967296 := by
  have h1 := beN_lt (l.take 4) (bytes_take hb 4)
  have h2 : (l.take 4).length = 4 := by rw [List.length_take]; omega
  rw [h2] at h1
  exact ⟨h1.1, by have := h1.2; omega⟩
/-- An object whose epoch may not be: whatever follows, they are none. -/
theorem end_late (n : Nat) (acc : List S61) (l : List Int) (h : ∃ o ∈ acc, ¬ OkO o) : endM (objsM n acc l) = ([], 160) := by
  cases ho : objsM n acc l with
  | none => rfl
  | some x =>
    obtain ⟨os, rest⟩ := x
    obtain ⟨new, rfl, _⟩ := objsM_acc n acc l os rest ho
    unfold endM
    dsimp only
    rw [if_neg]
    intro hm
    obtain ⟨o, h1, h2⟩ := h
    exact h2 ((may_ok hm.2).2.1 o (List.mem_append_left _ h1))
theorem q_bad3 (n x7 : Int) (acc : List S61) (e : Int) (r : List Int) (kd : Int) (key : ByteArray) (len : Int) (st : List Int) : Ev (fun k => aumbryref16_Unsnap.j3 k n acc x7 e r true kd key len st) ([], 160) := ev_succ fun k => by rw [aumbryref16_Unsnap.j3, if_pos rfl]
theorem q_end (acc : List S61) (l : List Int) (hs : Small acc) : Ev (fun k => (aumbryref16_May.f k acc).bind fun t431 => if t431 = true then aumbryref16_Unsnap.j4 k acc (decide ((l.length : Int) > 0)) else aumbryref16_Unsnap.j4 k acc true) (endM (some (acc, l))) := by
  refine Ev.bind (qmay acc hs) ?_
  have bad : Ev (fun k => aumbryref16_Unsnap.j4 k acc true) ([], 160) := ev_succ fun k => by rw [aumbryref16_Unsnap.j4, if_pos rfl]
  unfold endM
  dsimp only
  cases hm : mayB acc with
  | false =>
    refine ev_neg (by decide) (ev_eq bad ?_)
    rw [if_neg (fun h => by cases h.2)]
  | true =>
    refine ev_pos rfl ?_
    by_cases h : (l.length : Int) > 0
    · rw [decide_eq_true h]
      refine ev_eq bad ?_
      rw [if_neg (fun h2 => by omega)]
    · rw [decide_eq_false h]
      refine ev_eq (r := (acc, 0)) (ev_succ fun k => by rw [aumbryref16_Unsnap.j4, if_neg (by decide)]) ?_
      rw [if_pos ⟨by omega, rfl⟩]
theorem quns_l1 (cnt : Nat) (hc : cnt ≤ 65535) : ∀ (n i : Nat) (acc : List S61) (l : List Int), i + n = cnt → acc.length = i → (∀ o ∈ acc, OkO o) → Bytes l → l.length ≤ 1000000 →
    Ev (fun k => aumbryref16_Unsnap.l1 k l (cnt : Int) acc (i : Int)) (endM (objsM n acc l))
  | 0, i, acc, l, hi, ha, hao, hb, hl => by
    refine Ev.step (fun k => by rw [aumbryref16_Unsnap.l1]) (ev_neg (by omega) ?_)
    exact q_end acc l ⟨by omega, fun o ho => by have := (hao o ho).1.2.2.2.1; omega⟩
  | n + 1, i, acc, l, hi, ha, hao, hb, hl => by
    refine Ev.step (fun k => by rw [aumbryref16_Unsnap.l1]) (ev_pos (by omega) ?_)
    unfold objsM
    by_cases h4 : l.length < 4
    · refine ev_pos (by omega) (ev_eq (Ev.now _) ?_)
      have hp : ¬ (4 ≤ l.length ∧ OkOf (l.drop 4) ∧ (recOf (l.drop 4)).1 = 1) := fun h => by omega
      rw [if_neg hp]
      rfl
    · refine ev_neg (by omega) ?_
      rw [qnumber l (by omega) hb]
      refine ev_some (ev_pos (by omega) ?_)
      have hr := beN4_range (show 4 ≤ l.length by omega) hb
      have hd : (l.drop 4).length ≤ 1000000 := by rw [List.length_drop]; omega
      have hbd := bytes_drop hb 4
      by_cases ho : OkOf (l.drop 4)
      · refine Ev.bind (next_ok _ hbd hd ho) (ev_pos rfl ?_)
        dsimp only
        by_cases hk : (recOf (l.drop 4)).1 = 1
        · have hp : 4 ≤ l.length ∧ OkOf (l.drop 4) ∧ (recOf (l.drop 4)).1 = 1 := ⟨by omega, ho, hk⟩
          rw [if_pos hp]
          have hok := ho.2
          rw [hk] at hok
          by_cases he : beN (l.take 4) > 2147483647
          · refine ev_pos he (ev_eq (q_bad3 _ _ _ _ _ _ _ _ _) ?_)
            refine (end_late n _ _ ⟨_, List.mem_append_right _ (List.mem_singleton.2 rfl), fun h => ?_⟩).symm
            have h2 := h.2.2
            dsimp only at h2
            omega
          · refine ev_neg he ?_
            rw [show ((recOf (l.drop 4)).1 != 1) = false from by rw [hk]; rfl]
            refine Ev.step (fun k => by rw [aumbryref16_Unsnap.j3]) (ev_neg (by decide) (ev_pos (by omega) ?_))
            rw [wrap_in (i := (i : Int) + 1) (by omega) (by omega), wrap_in (i := beN (l.take 4)) (by omega) (by omega), show ((i : Int) + 1) = ((i + 1 : Nat) : Int) from by omega]
            refine quns_l1 cnt hc n (i + 1) _ _ (by omega) (by rw [List.length_append, ha]; rfl) (fun o hoo => ?_) (rec_rest_bytes hbd) (Nat.le_trans (rec_rest_len _) hd)
            rcases List.mem_append.1 hoo with hoo | hoo
            · exact hao o hoo
            · rw [List.mem_singleton] at hoo
              subst hoo
              exact ⟨hok, hr.1, by dsimp only; omega⟩
        · have hp : ¬ (4 ≤ l.length ∧ OkOf (l.drop 4) ∧ (recOf (l.drop 4)).1 = 1) := fun h => hk h.2.2
          rw [if_neg hp]
          by_cases he : beN (l.take 4) > 2147483647
          · exact ev_pos he (q_bad3 _ _ _ _ _ _ _ _ _)
          · refine ev_neg he ?_
            rw [show ((recOf (l.drop 4)).1 != 1) = true from by rw [bne_iff_ne]; exact hk]
            exact q_bad3 _ _ _ _ _ _ _ _ _
      · have hp : ¬ (4 ≤ l.length ∧ OkOf (l.drop 4) ∧ (recOf (l.drop 4)).1 = 1) := fun h => ho h.2.1
        rw [if_neg hp]
        obtain ⟨r, hr1, hr2⟩ := next_no _ hbd hd ho
        exact Ev.bind hr2 (ev_neg (by rw [hr1]; decide) (q_bad3 _ _ _ _ _ _ _ _ _))
theorem qunsnap (parts : List (List Int)) (h : Parts parts) : Ev (fun k => aumbryref16_Unsnap.f k parts) (unsM parts) := by
  unfold aumbryref16_Unsnap.f unsM
  by_cases h2 : parts.length = 2
  · refine ev_pos (by omega) ?_
    match parts, h2 with
    | [p, q], _ =>
      have hfb := flat_bytes h
      have hfs := flat_small h
      have hp := h.2 p (by simp)
      have hq := h.2 q (by simp)
      have bad : ∀ x i, Ev (fun k => aumbryref16_Unsnap.j1 k [p, q] x i true) ([], 160) := fun x i => ev_succ fun k => by rw [aumbryref16_Unsnap.j1, if_pos rfl]
      have hbt := bad_two p q
      have hl0 : (0 : Int) < (([p, q].length : Nat) : Int) := by simp
      have hl1 : (0 + 1 : Int) < (([p, q].length : Nat) : Int) := by simp
      have hl2 : (0 + 1 - 1 : Int) < (([p, q].length : Nat) : Int) := by simp
      show Ev _ (if badUpTo [p, q] 2 = true then _ else _)
      refine Ev.step (fun k => by rw [aumbryref16_Unsnap.l0]) ?_
      refine ev_pos (by decide) (ev_pos (by decide) (ev_pos hl0 ?_))
      rw [show rd_L2 [p, q] 0 = p from rfl]
      by_cases g1 : (p.length : Int) > 4096
      · refine ev_pos g1 (ev_eq (bad _ _) ?_)
        rw [if_pos (hbt.2 (.inl (by omega)))]
      refine ev_neg g1 (ev_neg (by decide) ?_)
      refine Ev.step (fun k => by rw [aumbryref16_Unsnap.j1]) ?_
      refine ev_neg (by decide) (ev_pos (by decide) (ev_pos hl0 ?_))
      rw [show rd_L2 [p, q] 0 = p from rfl, wrap_in (i := 0 + 1) (by omega) (by omega)]
      refine ev_pos (by simp; omega) ?_
      refine Ev.step (fun k => by rw [aumbryref16_Unsnap.l0]) ?_
      refine ev_pos (by decide) (ev_pos (by decide) (ev_pos hl1 ?_))
      rw [show rd_L2 [p, q] (0 + 1) = q from rfl]
      by_cases g2 : (q.length : Int) > 4096
      · refine ev_pos g2 (ev_eq (bad _ _) ?_)
        rw [if_pos (hbt.2 (.inr (.inl (by omega))))]
      refine ev_neg g2 (ev_pos (by decide) ?_)
      have good : ¬ (0 < q.length ∧ p.length < 4096) → Ev (fun k => aumbryref16_Unsnap.j1 k [p, q] ([] ++ p) (0 + 1) false) (if badUpTo [p, q] 2 = true then ([], 160) else if [p, q].flatten.length < 2 then ([], 160) else endM (objsM (beN ([p, q].flatten.take 2)).toNat [] ([p, q].flatten.drop 2))) := by
        intro g3
        rw [if_neg (fun hb => by have := hbt.1 hb; omega)]
        refine Ev.step (fun k => by rw [aumbryref16_Unsnap.j1]) ?_
        refine ev_neg (by decide) (ev_pos (by decide) (ev_pos hl1 ?_))
        rw [show rd_L2 [p, q] (0 + 1) = q from rfl, wrap_in (i := 0 + 1 + 1) (by omega) (by omega), List.nil_append]
        refine ev_pos (by omega) ?_
        have ef : [p, q].flatten = p ++ q := by simp
        rw [ef] at hfb hfs ⊢
        refine Ev.step (fun k => by rw [aumbryref16_Unsnap.l0]) ?_
        refine ev_neg (by decide) ?_
        by_cases g4 : (p ++ q).length < 2
        · rw [if_pos g4]
          exact ev_pos (by omega) (Ev.now _)
        · rw [if_neg g4]
          refine ev_neg (by omega) (ev_pos (by omega) (ev_pos (by omega) (ev_pos (by omega) ?_)))
          have hcl := cnt_le hfb
          generalize p ++ q = b at *
          match b, g4 with
          | [], g4 => exact absurd (show ([] : List Int).length < 2 by decide) g4
          | [x], g4 => exact absurd (show [x].length < 2 from Nat.lt_succ_self 1) g4
          | x :: y :: t, _ =>
            have hx := hfb x (by simp)
            have hy := hfb y (by simp)
            have ec : beN ((x :: y :: t).take 2) = 256 * x + y := by
              simp only [List.take_succ_cons, List.take_zero, beN, List.foldl_cons, List.foldl_nil]
              omega
            rw [show rd (x :: y :: t) 0 = x from rfl, show rd (x :: y :: t) 1 = y from rfl, wrap_in (i := x) (by omega) (by omega), wrap_in (i := y) (by omega) (by omega), wrap_in (i := 256 * x) (by omega) (by omega), wrap_in (by omega) (by omega), ← ec]
            have he := quns_l1 _ hcl (beN ((x :: y :: t).take 2)).toNat 0 [] ((x :: y :: t).drop 2) (by omega) rfl (fun o ho => absurd ho (by simp)) (bytes_drop hfb 2) (by rw [List.length_drop]; omega)
            rw [show (((beN ((x :: y :: t).take 2)).toNat : Nat) : Int) = beN ((x :: y :: t).take 2) from by rw [ec]; omega] at he
            exact he
      by_cases g3 : (q.length : Int) > 0
      · refine ev_pos g3 ?_
        rw [wrap_in (i := 0 + 1 - 1) (by omega) (by omega)]
        refine ev_pos (by decide) (ev_pos hl2 ?_)
        rw [show rd_L2 [p, q] (0 + 1 - 1) = p from rfl]
        by_cases g4 : (p.length : Int) < 4096
        · rw [decide_eq_true g4]
          refine ev_eq (bad _ _) ?_
          rw [if_pos (hbt.2 (.inr (.inr (by omega))))]
        · rw [decide_eq_false g4]
          exact good (by omega)
      · exact ev_neg g3 (good (by omega))
  · refine ev_neg (by omega) (ev_eq (Ev.now _) ?_)
    have : ∀ n, badUpTo parts n = true := by
      intro n
      induction n with
      | zero => simpa [badUpTo] using h2
      | succ n ih => rw [badUpTo, ih]; rfl
    rw [if_pos (this _)]
end Go.Proofs.Ytoeegdpkmdgkdaa.RecS
