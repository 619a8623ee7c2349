/- What may, Snap and Unsnap of package record answer, as functions on lists, for all objects and parts; that Snap and Unsnap are each other's way back. -/
import Derived.Test.YtoeegdpkmdgkdaaPAllx5
import Derived.Test.YtoeegdpkmdgkdaaPAllx6
import Derived.Test.YtoeegdpkmdgkdaaPAllx7
import Derived.Test.YtoeegdpkmdgkdaaPAllx15
import Derived.Test.YtoeegdpkmdgkdaaPAllx18
import Derived.Test.YtoeegdpkmdgkdaaRecB
namespace Go.Proofs.Ytoeegdpkmdgkdaa.RecS
open Go.RowKit Go.Proofs.Ytoeegdpkmdgkdaa.PAll Go.Proofs.YtoeegdpkmdgkdaaW.PrintWords Go.Proofs.YtoeegdpkmdgkdaaW.PrintLast Go.Proofs.YtoeegdpkmdgkdaaW.PrintMore Go.Proofs.Ytoeegdpkmdgkdaa.RecA Go.Proofs.Ytoeegdpkmdgkdaa.RecB
set_option linter.unusedVariables false
set_option linter.unusedSimpArgs false

/-! ### may -/
def OkO (o : S61) : Prop := Ok 1 o.f0 o.f1 o.f3 ∧ 0 ≤ o.f2 ∧ o.f2 ≤ 2147483647
def leq (a b : ByteArray) : Bool := Op.bytesLess a.toList b.toList || a.toList == b.toList
def OkAt (l : List S61) (j : Nat) : Prop := OkO (rd_T61 l (j : Int)) ∧ (0 < j → leq (rd_T61 l (j : Int)).f0 (rd_T61 l ((j - 1 : Nat) : Int)).f0 = false)
def stripes (l : List S61) : Nat := (l.map fun o => o.f3.length).sum
def From (l : List S61) (x i : Nat) : Prop := (∀ j, i ≤ j → j < l.length → OkAt l j) ∧ x + stripes (l.drop i) ≤ 256
open Classical in
noncomputable def mayB (l : List S61) : Bool := decide (l.length ≤ 64 ∧ From l 0 0)
open Classical in
theorem mayB_iff (l : List S61) : mayB l = true ↔ l.length ≤ 64 ∧ From l 0 0 := by
  unfold mayB
  exact decide_eq_true_iff
/-- Rows that machines hold. -/
def Small (l : List S61) : Prop := l.length ≤ 1000000 ∧ ∀ o ∈ l, o.f3.length ≤ 1000000
theorem rd_mem {l : List S61} {j : Nat} (h : j < l.length) : rd_T61 l (j : Int) ∈ l := by
  unfold rd_T61
  rw [Int.toNat_natCast, List.getD_eq_getElem?_getD, List.getElem?_eq_getElem h]
  exact List.getElem_mem h
theorem drop_rd61 {l : List S61} {i : Nat} (h : i < l.length) : l.drop i = rd_T61 l (i : Int) :: l.drop (i + 1) := by
  rw [List.drop_eq_getElem_cons h]
  congr 1
  unfold rd_T61
  rw [Int.toNat_natCast, List.getD_eq_getElem?_getD, List.getElem?_eq_getElem h]
  rfl
theorem from_no {l : List S61} {x i : Nat} (h : i < l.length) (hn : ¬ OkAt l i) : ¬ From l x i := fun hf => hn (hf.1 i (Nat.le_refl _) h)
theorem from_succ {l : List S61} {x i : Nat} (h : i < l.length) (ho : OkAt l i) : From l x i ↔ From l (x + (rd_T61 l (i : Int)).f3.length) (i + 1) := by
  unfold From
  rw [drop_rd61 h]
  have e : stripes (rd_T61 l (i : Int) :: l.drop (i + 1)) = (rd_T61 l (i : Int)).f3.length + stripes (l.drop (i + 1)) := by simp [stripes]
  rw [e]
  constructor
  · intro hf
    exact ⟨fun j hj hl => hf.1 j (by omega) hl, by omega⟩
  · intro hf
    refine ⟨fun j hj hl => ?_, by omega⟩
    rcases Nat.eq_or_lt_of_le hj with rfl | hlt
    · exact ho
    · exact hf.1 j hlt hl
theorem from_end {l : List S61} {x i : Nat} (h : l.length ≤ i) : From l x i ↔ x ≤ 256 := by
  unfold From
  rw [List.drop_of_length_le h]
  constructor
  · intro hf
    have := hf.2
    simpa [stripes] using this
  · intro hx
    exact ⟨fun j hj hl => absurd hl (by omega), by simpa [stripes] using hx⟩
section
open Classical
theorem may_l0 (l : List S61) (hs : Small l) : ∀ (d i x : Nat), i + d = l.length → x ≤ 256 * i → Ev (fun k => record_may.l0 k l (x : Int) l (l.length : Int) (i : Int)) (decide (l.length ≤ 64 ∧ From l x i))
  | 0, i, x, hi, hx => by
    refine Ev.step (fun k => by rw [record_may.l0]) (ev_neg (by omega) ?_)
    by_cases h : (x : Int) ≤ 256
    · refine ev_pos h (ev_eq (Ev.now _) ?_)
      rw [decide_eq_decide, from_end (by omega)]
      omega
    · refine ev_neg h (ev_eq (Ev.now _) ?_)
      symm
      rw [decide_eq_false_iff_not, from_end (by omega)]
      omega
  | d + 1, i, x, hi, hx => by
    have hlt : i < l.length := by omega
    have hL := hs.1
    have hst := hs.2 _ (rd_mem hlt)
    refine Ev.step (fun k => by rw [record_may.l0]) (ev_pos (by omega) (ev_pos (by omega) (ev_pos (by omega) ?_)))
    unfold record_put.f
    refine ev_some (Ev.bind (check _ _ _ _ (by dsimp only; omega)) ?_)
    dsimp only
    generalize ho : rd_T61 l (i : Int) = o at *
    have bad : ¬ OkAt l i → Ev (fun k => record_may.j1 k l (x : Int) l (l.length : Int) (i : Int) true o.f0 o.f1 o.f2 o.f3) (decide (l.length ≤ 64 ∧ From l x i)) := fun hn =>
      ev_eq (r := false) (ev_succ fun k => by rw [record_may.j1, if_pos rfl]) (by symm; rw [decide_eq_false_iff_not]; exact fun h => from_no hlt hn h.2)
    have good : OkAt l i → Ev (fun k => record_may.j1 k l (x : Int) l (l.length : Int) (i : Int) false o.f0 o.f1 o.f2 o.f3) (decide (l.length ≤ 64 ∧ From l x i)) := by
      intro hok
      have h256 : o.f3.length ≤ 256 := by rw [← ho]; exact hok.1.1.2.2.2.1
      refine Ev.step (fun k => by rw [record_may.j1]) (ev_neg (by decide) ?_)
      rw [wrap_in (i := (i : Int) + 1) (by omega) (by omega), wrap_in (by omega) (by omega), show ((i : Int) + 1) = ((i + 1 : Nat) : Int) from by omega, show ((x : Int) + (o.f3.length : Int)) = ((x + o.f3.length : Nat) : Int) from by omega]
      refine ev_eq (may_l0 l hs d (i + 1) (x + o.f3.length) (by omega) (by omega)) ?_
      rw [decide_eq_decide, from_succ hlt hok, ho]
    unfold chk
    by_cases h1 : Ok 1 o.f0 o.f1 o.f3
    · rw [if_pos h1]
      refine ev_pos rfl ?_
      by_cases h2 : o.f2 < 0
      · exact ev_pos h2 (bad (fun h => by have := h.1.2; rw [ho] at this; omega))
      · refine ev_neg h2 ?_
        by_cases h3 : o.f2 > 2147483647
        · exact ev_pos h3 (bad (fun h => by have := h.1.2; rw [ho] at this; omega))
        · refine ev_neg h3 ?_
          have hoo : OkO o := ⟨h1, by omega, by omega⟩
          by_cases h4 : (i : Int) > 0
          · refine ev_pos h4 ?_
            rw [wrap_in (by omega) (by omega), show ((i : Int) - 1) = ((i - 1 : Nat) : Int) from by omega]
            refine ev_pos (by omega) (ev_pos (by omega) ?_)
            show Ev (fun k => record_may.j1 k l (x : Int) l (l.length : Int) (i : Int) (leq o.f0 (rd_T61 l ((i - 1 : Nat) : Int)).f0) o.f0 o.f1 o.f2 o.f3) _
            cases h5 : leq o.f0 (rd_T61 l ((i - 1 : Nat) : Int)).f0 with
            | true => exact bad (fun h => by have := h.2 (by omega); rw [ho, h5] at this; cases this)
            | false => exact good ⟨by rw [ho]; exact hoo, fun _ => by rw [ho]; exact h5⟩
          · exact ev_neg h4 (good ⟨by rw [ho]; exact hoo, fun h => absurd h (by omega)⟩)
    · rw [if_neg h1]
      exact ev_neg (by decide) (bad (fun h => h1 (by have := h.1.1; rw [ho] at this; exact this)))
end
theorem may (l : List S61) (hs : Small l) : Ev (fun k => record_may.f k l) (mayB l) :=
  Ev.congr (fun k => rfl) (may_l0 l hs l.length 0 0 (by omega) (by omega))
theorem may_ok {l : List S61} (h : mayB l = true) : l.length ≤ 64 ∧ (∀ o ∈ l, OkO o) ∧ stripes l ≤ 256 := by
  rw [mayB_iff] at h
  refine ⟨h.1, fun o ho => ?_, by have := h.2.2; simpa using this⟩
  obtain ⟨j, hj, rfl⟩ := List.getElem_of_mem ho
  have := (h.2.1 j (Nat.zero_le _) hj).1
  unfold rd_T61 at this
  rw [Int.toNat_natCast, List.getD_eq_getElem?_getD, List.getElem?_eq_getElem hj] at this
  exact this

/-! ### Snap -/
def bytesO (o : S61) : List Int := four o.f2 ++ encL 1 o.f0 o.f1 o.f3
def objs (l : List S61) : List Int := l.flatMap bytesO
def body (l : List S61) : List Int := two l.length ++ objs l
def cutB (b : List Int) : List (List Int) := [b.take 4096, (b.drop 4096).take 4096]
noncomputable def snapM (l : List S61) : List (List Int) × Int := if mayB l = true then (cutB (body l), 0) else ([], 1)
theorem bytesO_len (o : S61) : (bytesO o).length = 12 + o.f0.size + 2 * o.f3.length := by
  unfold bytesO
  rw [List.length_append, four_len, enc_len]
  omega
theorem objs_len {l : List S61} (h : ∀ o ∈ l, OkO o) : (objs l).length ≤ 76 * l.length + 2 * stripes l := by
  induction l with
  | nil => simp [objs]
  | cons o l ih =>
    have h1 := (h o (by simp)).1.2.1
    have h2 := ih (fun x hx => h x (by simp [hx]))
    have e : stripes (o :: l) = o.f3.length + stripes l := by simp [stripes]
    unfold objs at h2 ⊢
    rw [List.flatMap_cons, List.length_append, bytesO_len, e, List.length_cons]
    omega
theorem body_len {l : List S61} (h : mayB l = true) : (body l).length ≤ 5378 := by
  obtain ⟨h1, h2, h3⟩ := may_ok h
  have := objs_len h2
  unfold body
  rw [List.length_append, two_len]
  omega
theorem objs_bytes (l : List S61) : Bytes (objs l) := by
  intro x hx
  unfold objs at hx
  rw [List.mem_flatMap] at hx
  obtain ⟨o, _, h⟩ := hx
  exact bytes_app (four_bytes _) (enc_bytes _ _ _ _) x h
theorem body_bytes (l : List S61) : Bytes (body l) := bytes_app (two_bytes _) (objs_bytes l)
theorem mn_take (b : List Int) : b.take (mn (b.length : Int) 4096).toNat = b.take 4096 ∧ b.drop (mn (b.length : Int) 4096).toNat = b.drop 4096 := by
  rcases Nat.lt_or_ge b.length 4096 with h | h
  · have e : (mn (b.length : Int) 4096).toNat = b.length := by unfold mn; split <;> omega
    rw [e, List.take_of_length_le (Nat.le_refl _), List.take_of_length_le (by omega), List.drop_of_length_le (Nat.le_refl _), List.drop_of_length_le (by omega)]
    exact ⟨rfl, rfl⟩
  · have e : (mn (b.length : Int) 4096).toNat = 4096 := by unfold mn; split <;> omega
    rw [e]
    exact ⟨rfl, rfl⟩
theorem mn_in (b : List Int) : 0 ≤ mn (b.length : Int) 4096 ∧ mn (b.length : Int) 4096 ≤ (b.length : Int) := by unfold mn; split <;> omega
theorem snap_l1 (b : List Int) : Ev (fun k => record_Snap.l1 k b [] 0) (cutB b, 0) := by
  refine Ev.step (fun k => by rw [record_Snap.l1]) (ev_pos (by decide) (ev_pos (mn_in b).1 (ev_pos (mn_in b).2 (ev_pos (by decide) ?_))))
  rw [(mn_take b).1, (mn_take b).2, wrap_in (i := 0 + 1) (by omega) (by omega)]
  refine Ev.step (fun k => by rw [record_Snap.l1]) (ev_pos (by decide) (ev_pos (mn_in _).1 (ev_pos (mn_in _).2 (ev_pos (by simp) ?_))))
  rw [(mn_take _).1, (mn_take _).2, wrap_in (i := 0 + 1 + 1) (by omega) (by omega)]
  refine Ev.step (fun k => by rw [record_Snap.l1]) ?_
  exact ev_neg (by decide) (Ev.now _)
theorem snap_l0 (l : List S61) (hl : l.length ≤ 64) (ho : ∀ o ∈ l, OkO o) : ∀ (d i : Nat) (b : List Int), i + d = l.length → b.length ≤ 588 * i + 2 →
    Ev (fun k => record_Snap.l0 k b l (l.length : Int) (i : Int)) (cutB (b ++ objs (l.drop i)), 0)
  | 0, i, b, hi, hb => by
    refine Ev.step (fun k => by rw [record_Snap.l0]) (ev_neg (by omega) (ev_eq (snap_l1 b) ?_))
    rw [List.drop_of_length_le (by omega)]
    simp [objs]
  | d + 1, i, b, hi, hb => by
    have hlt : i < l.length := by omega
    have hoo := ho _ (rd_mem hlt)
    have h1 := hoo.1.2.1
    have h2 := hoo.1.2.2.2.1
    refine Ev.step (fun k => by rw [record_Snap.l0]) (ev_pos (by omega) (ev_pos (by omega) (ev_pos (by omega) ?_)))
    refine Ev.bind (num4 b _ (by omega)) ?_
    unfold record_put.f
    refine ev_some (Ev.bind (encoded _ _ _ _ _ (by rw [List.length_append, four_len]; omega) (by dsimp only; omega) (by dsimp only; omega)) ?_)
    rw [wrap_in (by omega) (by omega), show ((i : Int) + 1) = ((i + 1 : Nat) : Int) from by omega]
    refine ev_eq (snap_l0 l hl ho d (i + 1) _ (by omega) (by rw [List.length_append, List.length_append, four_len, enc_len]; dsimp only; omega)) ?_
    rw [drop_rd61 hlt]
    congr 2
    simp only [objs, List.flatMap_cons, bytesO, List.append_assoc]
theorem snap (l : List S61) (hs : Small l) : Ev (fun k => record_Snap.f k l) (snapM l) := by
  unfold record_Snap.f snapM
  refine Ev.bind (may l hs) ?_
  cases h : mayB l with
  | false => exact ev_neg (by decide) (Ev.now _)
  | true =>
    obtain ⟨h1, h2, h3⟩ := may_ok h
    refine ev_pos rfl (Ev.bind (num2 [] _ (by simp)) ?_)
    rw [List.nil_append]
    exact ev_eq (snap_l0 l h1 h2 l.length 0 _ (by omega) (by rw [two_len]; omega)) rfl

/-! ### Unsnap -/
def objsM : Nat → List S61 → List Int → Option (List S61 × List Int)
  | 0, acc, l => some (acc, l)
  | n + 1, acc, l => if 4 ≤ l.length ∧ OkOf (l.drop 4) ∧ (recOf (l.drop 4)).1 = 1 then objsM n (acc ++ [(⟨(recOf (l.drop 4)).2.1, (recOf (l.drop 4)).2.2.1, beN (l.take 4), (recOf (l.drop 4)).2.2.2.1⟩ : S61)]) (recOf (l.drop 4)).2.2.2.2 else none
noncomputable def endM : Option (List S61 × List Int) → List S61 × Int
  | none => ([], 160)
  | some (os, rest) => if rest.length = 0 ∧ mayB os = true then (os, 0) else ([], 160)
noncomputable def unsM (parts : List (List Int)) : List S61 × Int :=
  if badUpTo parts parts.length = true then ([], 160) else if parts.flatten.length < 2 then ([], 160) else endM (objsM (beN (parts.flatten.take 2)).toNat [] (parts.flatten.drop 2))
theorem rec_rest_len (b : List Int) : (recOf b).2.2.2.2.length ≤ b.length := recOf_len b
theorem rec_rest_bytes {b : List Int} (h : Bytes b) : Bytes (recOf b).2.2.2.2 := fun x hx => h x (recOf_mem b x hx)
theorem objsA_ev : ∀ (n : Nat) (acc : List S61) (l : List Int), Bytes l → l.length ≤ 1000000 → Ev (fun k => objsA k n acc l) (objsM n acc l)
  | 0, acc, l, _, _ => Ev.now _
  | n + 1, acc, l, hb, hl => by
    unfold objsA objsM
    by_cases h4 : l.length < 4
    · refine ev_pos h4 (ev_eq (Ev.now _) ?_)
      rw [if_neg (fun h => by omega)]
    · refine ev_neg h4 ?_
      have hd : (l.drop 4).length ≤ 1000000 := by rw [List.length_drop]; omega
      by_cases hf : fits (l.drop 4) = true
      · refine ev_pos hf ?_
        have hs := rec_st_len (l.drop 4) hf
        refine Ev.bind (check _ _ _ _ (by omega)) ?_
        unfold chk
        by_cases ho : Ok (recOf (l.drop 4)).1 (recOf (l.drop 4)).2.1 (recOf (l.drop 4)).2.2.1 (recOf (l.drop 4)).2.2.2.1
        · rw [if_pos ho]
          by_cases hk : (recOf (l.drop 4)).1 = 1
          · refine ev_pos ⟨rfl, hk⟩ (ev_eq (objsA_ev n _ _ (rec_rest_bytes (bytes_drop hb 4)) (Nat.le_trans (rec_rest_len _) hd)) ?_)
            have hp : 4 ≤ l.length ∧ OkOf (l.drop 4) ∧ (recOf (l.drop 4)).1 = 1 := ⟨by omega, ⟨hf, ho⟩, hk⟩
            rw [if_pos hp]
          · refine ev_neg (fun h => hk h.2) (ev_eq (Ev.now _) ?_)
            have hp : ¬ (4 ≤ l.length ∧ OkOf (l.drop 4) ∧ (recOf (l.drop 4)).1 = 1) := fun h => hk h.2.2
            rw [if_neg hp]
        · rw [if_neg ho]
          refine ev_neg (fun h => by cases h.1) (ev_eq (Ev.now _) ?_)
          have hp : ¬ (4 ≤ l.length ∧ OkOf (l.drop 4) ∧ (recOf (l.drop 4)).1 = 1) := fun h => ho h.2.1.2
          rw [if_neg hp]
      · refine ev_neg hf (ev_eq (Ev.now _) ?_)
        have hp : ¬ (4 ≤ l.length ∧ OkOf (l.drop 4) ∧ (recOf (l.drop 4)).1 = 1) := fun h => hf h.2.1.1
        rw [if_neg hp]
/-- What is read on: the objects so far stay ahead, each new one is one that a record may be, and so many more there are. -/
theorem objsM_acc : ∀ (n : Nat) (acc : List S61) (l : List Int) (os : List S61) (rest : List Int), objsM n acc l = some (os, rest) → ∃ new, os = acc ++ new ∧ new.length = n ∧ ∀ o ∈ new, Ok 1 o.f0 o.f1 o.f3
  | 0, acc, l, os, rest, h => by
    simp only [objsM, Option.some.injEq, Prod.mk.injEq] at h
    exact ⟨[], by rw [List.append_nil]; exact h.1.symm, rfl, fun o ho => absurd ho (by simp)⟩
  | n + 1, acc, l, os, rest, h => by
    unfold objsM at h
    by_cases hp : 4 ≤ l.length ∧ OkOf (l.drop 4) ∧ (recOf (l.drop 4)).1 = 1
    · rw [if_pos hp] at h
      obtain ⟨new, h1, h2, h3⟩ := objsM_acc n _ _ _ _ h
      refine ⟨_ :: new, by rw [h1, List.append_assoc, List.singleton_append], by rw [List.length_cons, h2], fun o ho => ?_⟩
      rcases List.mem_cons.1 ho with rfl | ho
      · have := hp.2.1.2
        rw [hp.2.2] at this
        exact this
      · exact h3 o ho
    · rw [if_neg hp] at h
      cases h
theorem objsM_small {n : Nat} {l : List Int} {os : List S61} {rest : List Int} (h : objsM n [] l = some (os, rest)) (hn : n ≤ 65535) : Small os := by
  obtain ⟨new, h1, h2, h3⟩ := objsM_acc n [] l os rest h
  rw [List.nil_append] at h1
  subst h1
  exact ⟨by omega, fun o ho => by have := (h3 o ho).2.2.2.1; omega⟩
theorem unsEnd_ev (o : Option (List S61 × List Int)) (hs : ∀ os rest, o = some (os, rest) → Small os) : Ev (fun k => unsEnd k o) (endM o) := by
  rcases o with _ | ⟨os, rest⟩
  · exact Ev.now _
  · unfold unsEnd endM
    dsimp only
    by_cases h : rest.length > 0
    · refine ev_pos h (ev_eq (Ev.now _) ?_)
      rw [if_neg (fun h2 => by omega)]
    · refine ev_neg h (Ev.bind (may os (hs os rest rfl)) ?_)
      cases hm : mayB os with
      | true =>
        refine ev_pos rfl (ev_eq (Ev.now _) ?_)
        rw [if_pos ⟨by omega, rfl⟩]
      | false =>
        refine ev_neg (by decide) (ev_eq (Ev.now _) ?_)
        rw [if_neg (fun h2 => by cases h2.2)]
/-- Parts that machines hold. -/
def Parts (parts : List (List Int)) : Prop := parts.length ≤ 100 ∧ ∀ p ∈ parts, p.length ≤ 10000 ∧ Bytes p
theorem flat_bytes {parts : List (List Int)} (h : Parts parts) : Bytes parts.flatten := by
  intro x hx
  rw [List.mem_flatten] at hx
  obtain ⟨p, hp, hx⟩ := hx
  exact (h.2 p hp).2 x hx
theorem flat_small {parts : List (List Int)} (h : Parts parts) : parts.flatten.length ≤ 1000000 := by
  have h1 := flat_len 10000 parts (fun p hp => (h.2 p hp).1)
  have h2 := Nat.mul_le_mul_right 10000 h.1
  omega
theorem cnt_le {b : List Int} (h : Bytes b) : (beN (b.take 2)).toNat ≤ 65535 := by
  have h1 := beN_lt (b.take 2) (bytes_take h 2)
  have h2 : (b.take 2).length ≤ 2 := by rw [List.length_take]; omega
  have h3 : (256 : Int) ^ (b.take 2).length ≤ 65536 := by
    generalize (b.take 2).length = z at h2
    rcases z with _ | _ | _ | z
    all_goals first | decide | omega
  omega
theorem unsnap (parts : List (List Int)) (h : Parts parts) : Ev (fun k => record_Unsnap.f k parts) (unsM parts) := by
  unfold record_Unsnap.f unsM
  refine ev_pos ⟨h.1, fun p hp => ⟨(h.2 p hp).1, okB_of (h.2 p hp).2⟩⟩ ?_
  by_cases hb : badUpTo parts parts.length = true
  · rw [if_pos hb]
    exact ev_pos hb (Ev.now _)
  · rw [if_neg hb]
    refine ev_neg hb ?_
    by_cases h2 : parts.flatten.length < 2
    · rw [if_pos h2]
      exact ev_pos h2 (Ev.now _)
    · rw [if_neg h2]
      refine ev_neg h2 (Ev.bind (objsA_ev _ _ _ (bytes_drop (flat_bytes h) 2) (by rw [List.length_drop]; have := flat_small h; omega)) ?_)
      exact unsEnd_ev _ (fun os rest he => objsM_small he (cnt_le (flat_bytes h)))

/-! ### there and back -/
theorem objsM_objs (l : List S61) : ∀ (acc : List S61), (∀ o ∈ l, OkO o) → objsM l.length acc (objs l) = some (acc ++ l, []) := by
  induction l with
  | nil => intro acc _; simp [objsM, objs]
  | cons o l ih =>
    intro acc h
    have ho := h o (by simp)
    have e : objs (o :: l) = four o.f2 ++ (encL 1 o.f0 o.f1 o.f3 ++ objs l) := by simp only [objs, List.flatMap_cons, bytesO, List.append_assoc]
    have e4 : (objs (o :: l)).drop 4 = encL 1 o.f0 o.f1 o.f3 ++ objs l := by rw [e]; exact List.drop_left' (four_len _)
    have t4 : (objs (o :: l)).take 4 = four o.f2 := by rw [e]; exact List.take_left' (four_len _)
    have hr := rec_enc 1 o.f0 o.f1 o.f3 (objs l) ho.1
    have hp : 4 ≤ (objs (o :: l)).length ∧ OkOf ((objs (o :: l)).drop 4) ∧ (recOf ((objs (o :: l)).drop 4)).1 = 1 := by
      rw [e4]
      refine ⟨by rw [e, List.length_append, four_len]; omega, ⟨hr.1, ?_⟩, by rw [hr.2]⟩
      rw [hr.2]
      exact ho.1
    rw [List.length_cons, objsM, if_pos hp, e4, hr.2, t4, beN_four ho.2.1 (by have := ho.2.2; omega)]
    dsimp only
    rw [ih (acc ++ [o]) (fun x hx => h x (by simp [hx])), List.append_assoc, List.singleton_append]
theorem objsM_back : ∀ (n : Nat) (acc : List S61) (l : List Int) (os : List S61) (rest : List Int), Bytes l → objsM n acc l = some (acc ++ os, rest) → l = objs os ++ rest
  | 0, acc, l, os, rest, hb, h => by
    simp only [objsM, Option.some.injEq, Prod.mk.injEq] at h
    have : os = [] := List.append_cancel_left (by rw [List.append_nil]; exact h.1.symm)
    subst this
    simpa [objs] using h.2
  | n + 1, acc, l, os, rest, hb, h => by
    obtain ⟨new, h1, h2, h3⟩ := objsM_acc (n + 1) acc l _ rest h
    have := List.append_cancel_left h1
    subst this
    unfold objsM at h
    by_cases hp : 4 ≤ l.length ∧ OkOf (l.drop 4) ∧ (recOf (l.drop 4)).1 = 1
    · rw [if_pos hp] at h
      obtain ⟨new, g1, g2, g3⟩ := objsM_acc n _ _ _ _ h
      rw [List.append_assoc, List.singleton_append] at g1
      have g4 := List.append_cancel_left g1
      subst g4
      rw [show acc ++ (_ :: new) = (acc ++ [_]) ++ new from by rw [List.append_assoc, List.singleton_append]] at h
      have ih := objsM_back n _ _ new rest (rec_rest_bytes (bytes_drop hb 4)) h
      have he := enc_rec (l.drop 4) (bytes_drop hb 4) hp.2.1
      have e : objs ((⟨(recOf (l.drop 4)).2.1, (recOf (l.drop 4)).2.2.1, beN (l.take 4), (recOf (l.drop 4)).2.2.2.1⟩ : S61) :: new) = four (beN (l.take 4)) ++ (encL 1 (recOf (l.drop 4)).2.1 (recOf (l.drop 4)).2.2.1 (recOf (l.drop 4)).2.2.2.1 ++ objs new) := by simp only [objs, List.flatMap_cons, bytesO, List.append_assoc]
      rw [hp.2.2, ih] at he
      rw [e, four_beN (by rw [List.length_take]; omega) (bytes_take hb 4), List.append_assoc, List.append_assoc, he, List.take_append_drop]
    · rw [if_neg hp] at h
      cases h
theorem cut_flat {b : List Int} (h : b.length ≤ 8192) : (cutB b).flatten = b := by
  unfold cutB
  rw [List.flatten_cons, List.flatten_cons, List.flatten_nil, List.append_nil, List.take_of_length_le (l := b.drop 4096) (by rw [List.length_drop]; omega), List.take_append_drop]
theorem bad_two (p q : List Int) : badUpTo [p, q] 2 = true ↔ 4096 < p.length ∨ 4096 < q.length ∨ (0 < q.length ∧ p.length < 4096) := by
  simp only [badUpTo, badAt, Bool.or_eq_true, Bool.and_eq_true, decide_eq_true_eq, List.length_cons, List.length_nil, List.getD_cons_zero, List.getD_cons_succ]
  constructor
  · rintro ((h | h | h) | h | h)
    · omega
    · omega
    · exact absurd h.1.1 (by omega)
    · exact .inr (.inl h)
    · exact .inr (.inr ⟨h.1.2, h.2⟩)
  · rintro (h | h | h)
    · exact .inl (.inr (.inl h))
    · exact .inr (.inl h)
    · exact .inr (.inr ⟨⟨by omega, h.1⟩, h.2⟩)
theorem cut_good (b : List Int) : ¬ badUpTo (cutB b) (cutB b).length = true := by
  show ¬ badUpTo [b.take 4096, (b.drop 4096).take 4096] 2 = true
  rw [bad_two]
  simp only [List.length_take, List.length_drop]
  omega
theorem flat_cut {p q : List Int} (h : ¬ badUpTo [p, q] 2 = true) : cutB (p ++ q) = [p, q] := by
  rw [bad_two] at h
  unfold cutB
  rcases Nat.eq_zero_or_pos q.length with h0 | h0
  · have : q = [] := List.eq_nil_of_length_eq_zero h0
    subst this
    rw [List.append_nil, List.take_of_length_le (by omega), List.drop_of_length_le (by omega), List.take_nil]
  · rw [List.take_left' (by omega), List.drop_left' (by omega), List.take_of_length_le (by omega)]
theorem uns_snap {l : List S61} (h : mayB l = true) : unsM (cutB (body l)) = (l, 0) := by
  obtain ⟨h1, h2, h3⟩ := may_ok h
  have hl := body_len h
  unfold unsM
  rw [if_neg (cut_good _), cut_flat (by omega), if_neg (by unfold body; rw [List.length_append, two_len]; omega)]
  have e1 : (body l).take 2 = two l.length := List.take_left' (two_len _)
  have e2 : (body l).drop 2 = objs l := List.drop_left' (two_len _)
  rw [e1, e2, beN_two (by omega) (by omega), Int.toNat_natCast, objsM_objs l [] h2]
  unfold endM
  dsimp only
  rw [if_pos ⟨rfl, by rw [List.nil_append]; exact h⟩, List.nil_append]
theorem snap_uns {parts : List (List Int)} (hp : Parts parts) (h : (unsM parts).2 = 0) : mayB (unsM parts).1 = true ∧ cutB (body (unsM parts).1) = parts := by
  unfold unsM at h ⊢
  by_cases hb : badUpTo parts parts.length = true
  · rw [if_pos hb] at h
    cases h
  · rw [if_neg hb] at h ⊢
    by_cases h2 : parts.flatten.length < 2
    · rw [if_pos h2] at h
      cases h
    · rw [if_neg h2] at h ⊢
      cases ho : objsM (beN (parts.flatten.take 2)).toNat [] (parts.flatten.drop 2) with
      | none => rw [ho] at h; cases h
      | some x =>
        obtain ⟨os, rest⟩ := x
        rw [ho] at h
        unfold endM at h ⊢
        dsimp only at h ⊢
        by_cases he : rest.length = 0 ∧ mayB os = true
        · rw [if_pos he]
          refine ⟨he.2, ?_⟩
          have hfb := flat_bytes hp
          have hbk := objsM_back _ [] _ os rest (bytes_drop hfb 2) (by rw [List.nil_append]; exact ho)
          rw [List.eq_nil_of_length_eq_zero he.1, List.append_nil] at hbk
          obtain ⟨new, g1, g2, g3⟩ := objsM_acc _ _ _ _ _ ho
          rw [List.nil_append] at g1
          subst g1
          have hc := (beN_lt (parts.flatten.take 2) (bytes_take hfb 2)).1
          have e : body os = parts.flatten := by
            unfold body
            rw [g2, show (((beN (parts.flatten.take 2)).toNat : Nat) : Int) = beN (parts.flatten.take 2) from by omega, two_beN (by rw [List.length_take]; omega) (bytes_take hfb 2), ← hbk, List.take_append_drop]
          show cutB (body os) = parts
          rw [e]
          have hlen : parts.length = 2 := by
            rcases parts with _ | ⟨p, _ | ⟨q, _ | ⟨r, t⟩⟩⟩
            · simp [badUpTo] at hb
            · simp [badUpTo] at hb
            · rfl
            · exfalso
              apply hb
              have : ∀ n, badUpTo (p :: q :: r :: t) n = true := by
                intro n
                induction n with
                | zero => simp [badUpTo]
                | succ n ih => rw [badUpTo, ih]; rfl
              exact this _
          match parts, hlen with
          | [p, q], _ =>
            rw [List.flatten_cons, List.flatten_cons, List.flatten_nil, List.append_nil]
            exact flat_cut hb
        · rw [if_neg he] at h
          cases h
theorem uns_bad {parts : List (List Int)} (h : (unsM parts).2 ≠ 0) : unsM parts = ([], 160) := by
  unfold unsM endM at h ⊢
  by_cases hb : badUpTo parts parts.length = true
  · rw [if_pos hb]
  · rw [if_neg hb] at h ⊢
    by_cases h2 : parts.flatten.length < 2
    · rw [if_pos h2]
    · rw [if_neg h2] at h ⊢
      cases ho : objsM (beN (parts.flatten.take 2)).toNat [] (parts.flatten.drop 2) with
      | none => rfl
      | some x =>
        obtain ⟨os, rest⟩ := x
        rw [ho] at h
        by_cases he : rest.length = 0 ∧ mayB os = true
        · dsimp only at h
          rw [if_pos he] at h
          exact absurd rfl h
        · exact if_neg he
end Go.Proofs.Ytoeegdpkmdgkdaa.RecS
