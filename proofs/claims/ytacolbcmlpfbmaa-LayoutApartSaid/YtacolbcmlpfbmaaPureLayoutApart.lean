/- No two things lie at one place, and all lie within a disk: LayoutApart, for every input. -/
import Derived.Test.YtacolbcmlpfbmaaPAllx7
import Derived.Test.YtacolbcmlpfbmaaLayA
namespace Go.Proofs.Ytacolbcmlpfbmaa.Pure
open Go.RowKit Go.Proofs.Ytacolbcmlpfbmaa.PAll Go.Proofs.YtacolbcmlpfbmaaW.PrintWords Go.Proofs.YtacolbcmlpfbmaaW.PrintLast Go.Proofs.Ytacolbcmlpfbmaa.LayA
set_option linter.unusedVariables false

def seq (m : Nat) : List Int := (List.range m).map fun i : Nat => 1 + (i : Int)
theorem seq_succ (m : Nat) : seq (m + 1) = seq m ++ [1 + (m : Int)] := by unfold seq; rw [List.range_succ, List.map_append]; rfl
theorem seq_len (m : Nat) : (seq m).length = m := by simp [seq]
theorem seq_rd {m : Nat} {i : Int} (h0 : 0 ≤ i) (h1 : i < m) : rd (seq m) i = 1 + i := by
  unfold rd seq
  rw [List.getD_eq_getElem?_getD, List.getElem?_map, List.getElem?_range (by omega)]
  simp
  omega
section
variable (K M Z T L O : Int) (hK : R K) (hM : R M) (hg : LayA.Good K M Z T L O)
theorem loop3 (n : Int) (m : Nat) (hm : (m : Int) + 1 = n) (hn : n ≤ 1000) (r : Nat) : ∀ (i : Int) (used : List Bool), used.length = 1000 → 0 ≤ i → i + r = m → (∀ j, i ≤ j → j < 999 → rdOf false used (1 + j) = false) →
    Ev (fun k => aumbrylaw14_LayoutApart.l3 k true n used (seq m) i) true := by
  induction r with
  | zero =>
    intro i used hl hi hr hno
    refine Ev.step (fun k => by rw [aumbrylaw14_LayoutApart.l3]) (ev_neg (by rw [seq_len]; omega) (ev_pos rfl (ev_eq (Ev.now _) ?_)))
    rw [seq_len, w64 (by omega) (by omega), beq_iff_eq]
    omega
  | succ r ih =>
    intro i used hl hi hr hno
    refine Ev.step (fun k => by rw [aumbrylaw14_LayoutApart.l3]) (ev_pos (by rw [seq_len]; omega) (ev_pos hi ?_))
    rw [seq_rd hi (by omega)]
    refine ev_neg (by omega) (ev_neg (by omega) (ev_neg (by omega) (ev_pos (by omega) (ev_pos (by omega) ?_))))
    rw [hno i (Int.le_refl _) (by omega)]
    refine Ev.step (fun k => by rw [aumbrylaw14_LayoutApart.j6]) (ev_neg (by decide) (ev_pos hi (ev_pos (by rw [seq_len]; omega) ?_)))
    rw [seq_rd hi (by omega)]
    refine ev_pos (by omega) (ev_pos (by omega) ?_)
    rw [w64 (by omega) (by omega)]
    refine ih (i + 1) _ (by simp [hl]) (by omega) (by omega) (fun j h1 h2 => ?_)
    have h3 := hno j (by omega) h2
    unfold rdOf at h3 ⊢
    rw [List.getD_eq_getElem?_getD, List.getElem?_set_ne (by omega), ← List.getD_eq_getElem?_getD]
    exact h3
include hK hM hg
theorem loop2 (used : List Bool) (hl : used.length = 1000) (hno : ∀ j, 0 ≤ j → j < 999 → rdOf false used (1 + j) = false) (r : Nat) : ∀ (i : Nat), (i : Int) + r = T →
    Ev (fun k => aumbrylaw14_LayoutApart.l2 k true (5 + L + T) used (seq (4 + L.toNat + i)) (i : Int) K M Z T L O) true := by
  have hg' := hg
  unfold LayA.Good at hg'
  induction r with
  | zero =>
    intro i hr
    refine Ev.step (fun k => by rw [aumbrylaw14_LayoutApart.l2]) (ev_neg (by omega) ?_)
    refine Ev.step (fun k => by rw [aumbrylaw14_LayoutApart.j4]) (ev_neg (by decide) ?_)
    exact loop3 (5 + L + T) _ (by omega) (by omega) (4 + L.toNat + i) 0 used hl (by omega) (by omega) hno
  | succ r ih =>
    intro i hr
    refine Ev.step (fun k => by rw [aumbrylaw14_LayoutApart.l2]) (ev_pos (by omega) ?_)
    rw [decide_eq_true (by omega)]
    refine Ev.step (fun k => by rw [aumbrylaw14_LayoutApart.j4]) (ev_pos rfl (Ev.bind (stripe K M Z T L O hK hM i) (ev_pos (show (seq (4 + L.toNat + i)).length < 17592186044416 from by rw [seq_len]; omega) ?_)))
    have e : stri K M Z T L O (i : Int) = 1 + ((4 + L.toNat + i : Nat) : Int) := by unfold stri; rw [if_pos ⟨hg, by omega, by omega⟩]; omega
    rw [e, ← seq_succ, w64 (by omega) (by omega)]
    exact ih (i + 1) (by omega)
theorem loop1 (used : List Bool) (hl : used.length = 1000) (hno : ∀ j, 0 ≤ j → j < 999 → rdOf false used (1 + j) = false) (r : Nat) : ∀ (i : Nat), (i : Int) + r = L →
    Ev (fun k => aumbrylaw14_LayoutApart.l1 k true (5 + L + T) used (seq (4 + i)) (i : Int) K M Z T L O) true := by
  have hg' := hg
  unfold LayA.Good at hg'
  induction r with
  | zero =>
    intro i hr
    refine Ev.step (fun k => by rw [aumbrylaw14_LayoutApart.l1]) (ev_neg (by omega) ?_)
    refine Ev.step (fun k => by rw [aumbrylaw14_LayoutApart.j2]) (ev_neg (by decide) ?_)
    have h := loop2 K M Z T L O hK hM hg used hl hno T.toNat 0 (by omega)
    rw [show 4 + i = 4 + L.toNat + 0 from by omega]
    exact h
  | succ r ih =>
    intro i hr
    refine Ev.step (fun k => by rw [aumbrylaw14_LayoutApart.l1]) (ev_pos (by omega) ?_)
    rw [decide_eq_true (by omega)]
    refine Ev.step (fun k => by rw [aumbrylaw14_LayoutApart.j2]) (ev_pos rfl (Ev.bind (slot K M Z T L O hK hM i) (ev_pos (show (seq (4 + i)).length < 17592186044416 from by rw [seq_len]; omega) ?_)))
    have e : slo K M Z T L O (i : Int) = 1 + ((4 + i : Nat) : Int) := by unfold slo; rw [if_pos ⟨hg, by omega, by omega⟩]; omega
    rw [e, ← seq_succ, w64 (by omega) (by omega)]
    exact ih (i + 1) (by omega)
theorem loop0 (used : List Bool) (hl : used.length = 1000) (hno : ∀ j, 0 ≤ j → j < 999 → rdOf false used (1 + j) = false) (r : Nat) : ∀ (i : Nat), i + r = 4 →
    Ev (fun k => aumbrylaw14_LayoutApart.l0 k true (5 + L + T) used (seq i) (i : Int) K M Z T L O) true := by
  have hg' := hg
  unfold LayA.Good at hg'
  induction r with
  | zero =>
    intro i hr
    refine Ev.step (fun k => by rw [aumbrylaw14_LayoutApart.l0]) (ev_neg (by omega) ?_)
    obtain rfl : i = 4 := by omega
    exact loop1 K M Z T L O hK hM hg used hl hno L.toNat 0 (by omega)
  | succ r ih =>
    intro i hr
    refine Ev.step (fun k => by rw [aumbrylaw14_LayoutApart.l0]) (ev_pos (by omega) ?_)
    rw [Int.tdiv_eq_ediv_of_nonneg (by omega), Int.tmod_eq_emod_of_nonneg (by omega), w64 (i := (i : Int) / 2) (by omega) (by omega)]
    refine Ev.bind (area K M Z T L O hK hM _ _) (ev_pos (show (seq i).length < 17592186044416 from by rw [seq_len]; omega) ?_)
    have e : are K M Z T L O ((i : Int) / 2) ((i : Int) % 2) = 1 + (i : Int) := by unfold are; rw [if_pos ⟨hg, by omega, by omega⟩]; omega
    rw [e, ← seq_succ, w64 (by omega) (by omega)]
    exact ih (i + 1) (by omega)
end
theorem LayoutApart : ∀ (a0_0 : Int) (a0_1 : Int) (a0_2 : Int) (a0_3 : Int) (a0_4 : Int) (a0_5 : Int), ((Lit.int .i64 a0_0).wf = true) → ((Lit.int .i64 a0_1).wf = true) → ((Lit.int .i64 a0_2).wf = true) → ((Lit.int .i64 a0_3).wf = true) → ((Lit.int .i64 a0_4).wf = true) → ((Lit.int .i64 a0_5).wf = true) → ∃ k, aumbrylaw14_LayoutApart.f k a0_0 a0_1 a0_2 a0_3 a0_4 a0_5 = some true := by
  intro K M Z T L O w0 w1 w2 w3 w4 w5
  apply Ev.rounds
  have hK := of_wf w0
  have hM := of_wf w1
  unfold aumbrylaw14_LayoutApart.f
  refine Ev.bind LayA.awake (Ev.bind (check K M Z T L O hK hM) ?_)
  unfold chk
  by_cases hg : LayA.Good K M Z T L O
  · rw [if_pos hg]
    have hg' := hg
    unfold LayA.Good at hg'
    refine ev_pos rfl (Ev.bind (sectors K M Z T L O hK hM) (ev_pos (by decide) (ev_some (ev_pos (by rw [List.length_replicate]; decide) ?_))))
    have e : sec K M Z T L O = 5 + L + T := by unfold sec; rw [if_pos hg]
    rw [e]
    refine loop0 K M Z T L O hK hM hg _ (by rw [List.length_set, List.length_replicate]) ?_ 4 0 (by omega)
    intro j h0 h1
    unfold rdOf
    rw [List.getD_eq_getElem?_getD, List.getElem?_set_ne (by omega), List.getElem?_replicate]
    split <;> rfl
  · rw [if_neg hg]
    refine ev_neg (by decide) (ev_pos rfl (Ev.bind (sectors K M Z T L O hK hM) (ev_eq (Ev.now _) ?_)))
    unfold sec
    rw [if_neg hg]
    rfl

end Go.Proofs.Ytacolbcmlpfbmaa.Pure
