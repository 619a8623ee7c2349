/- What each function of package layout, and each of its reference, answers, as a formula over whole numbers, for every geometry of int's range. -/
import Derived.Test.YtacolbcmlpfbmaaPAllx5
namespace Go.Proofs.Ytacolbcmlpfbmaa.LayA
open Go.RowKit Go.Proofs.Ytacolbcmlpfbmaa.PAll Go.Proofs.YtacolbcmlpfbmaaW.PrintWords Go.Proofs.YtacolbcmlpfbmaaW.PrintLast
set_option linter.unusedVariables false

def R (x : Int) : Prop := -9223372036854775808 ≤ x ∧ x ≤ 9223372036854775807
theorem of_wf {x : Int} (h : (Lit.int .i64 x).wf = true) : R x := by
  simp [Lit.wf, IntKind.min, IntKind.max, IntKind.signed, IntKind.bits] at h
  exact h
theorem w64 {i : Int} (h0 : -9223372036854775808 ≤ i) (h : i ≤ 9223372036854775807) : wrap64 i = i := by unfold wrap64; omega
theorem ev_pos {α : Type} {c : Prop} [Decidable c] {f g : Nat → Option α} {r : α} (h : c) (hE : Ev f r) : Ev (fun k => if c then f k else g k) r := Ev.congr (fun _ => if_pos h) hE
theorem ev_neg {α : Type} {c : Prop} [Decidable c] {f g : Nat → Option α} {r : α} (h : ¬ c) (hE : Ev g r) : Ev (fun k => if c then f k else g k) r := Ev.congr (fun _ => if_neg h) hE
theorem ev_some {α β : Type} {f : Nat → α → Option β} {a : α} {r : β} (hE : Ev (fun k => f k a) r) : Ev (fun k => (some a).bind (f k)) r := hE
theorem ev_eq {α : Type} {g : Nat → Option α} {r r' : α} (h : Ev g r) (e : r = r') : Ev g r' := e ▸ h
theorem ev_succ {α : Type} {g : Nat → Option α} {r : α} (h : ∀ k, g (k + 1) = some r) : Ev g r := Ev.step (f := fun _ => some r) h (Ev.now r)

def Good (K M Z T L O : Int) : Prop := 1 ≤ K ∧ 0 ≤ M ∧ K + M ≤ 32 ∧ 1 ≤ Z ∧ Z ≤ 4096 ∧ 1 ≤ T ∧ T ≤ 256 ∧ 1 ≤ L ∧ L ≤ 64 ∧ 1 ≤ O ∧ O ≤ 64
instance (K M Z T L O : Int) : Decidable (Good K M Z T L O) := by unfold Good; infer_instance

section
variable (K M Z T L O : Int)
theorem cauchy (hK : R K) (hM : R M) : Ev (fun k => cauchy_Check.f k K M) (if 1 ≤ K ∧ 0 ≤ M ∧ K + M ≤ 256 then 0 else 50) := by
  unfold R at hK hM
  refine ev_succ fun k => ?_
  unfold cauchy_Check.f
  by_cases h1 : K < 1
  · rw [if_pos h1, cauchy_Check.j0, if_pos rfl, if_neg (by omega)]
  · rw [if_neg h1]
    by_cases h2 : M < 0
    · rw [if_pos h2, cauchy_Check.j0, if_pos rfl, if_neg (by omega)]
    · rw [if_neg h2]
      by_cases h3 : K > 256
      · rw [if_pos h3, cauchy_Check.j0, if_pos rfl, if_neg (by omega)]
      · rw [if_neg h3, cauchy_Check.j0, w64 (by omega) (by omega)]
        by_cases h4 : M > 256 - K
        · rw [if_pos (decide_eq_true h4), if_neg (by omega)]
        · rw [if_neg (by rw [decide_eq_false h4]; decide), if_pos (by omega)]
theorem lj0 (b : Bool) : Ev (fun k => layout_Check.j0 k b) (if b = true then 50 else 0) := by
  refine ev_succ fun k => ?_
  rw [layout_Check.j0]
  cases b <;> rfl
theorem one (a b : Int) : layout_Check_1.f a b = some (decide (1 ≤ a ∧ a ≤ b)) := by
  unfold layout_Check_1.f
  by_cases h : a ≥ 1
  · rw [if_pos h]; congr 1; rw [decide_eq_decide]; omega
  · rw [if_neg h]; congr 1; symm; rw [decide_eq_false_iff_not]; omega
def chk : Int := if Good K M Z T L O then 0 else 50
theorem check (hK : R K) (hM : R M) : Ev (fun k => layout_Check.f k K M Z T L O) (chk K M Z T L O) := by
  have hc := cauchy K M hK hM
  unfold R at hK hM
  unfold layout_Check.f chk
  refine Ev.bind hc ?_
  by_cases h0 : 1 ≤ K ∧ 0 ≤ M ∧ K + M ≤ 256
  · rw [if_pos h0]
    refine ev_pos rfl ?_
    simp only [one, Option.bind_some]
    rw [w64 (by omega) (by omega)]
    by_cases h1 : 1 ≤ K + M ∧ K + M ≤ 32
    · refine ev_pos (decide_eq_true h1) ?_
      by_cases h2 : 1 ≤ Z ∧ Z ≤ 4096
      · refine ev_pos (decide_eq_true h2) ?_
        by_cases h3 : 1 ≤ T ∧ T ≤ 256
        · refine ev_pos (decide_eq_true h3) ?_
          by_cases h4 : 1 ≤ L ∧ L ≤ 64
          · refine ev_pos (decide_eq_true h4) (ev_eq (lj0 _) ?_)
            by_cases h5 : 1 ≤ O ∧ O ≤ 64
            · rw [decide_eq_true h5, if_neg (show ¬ ((!true) = true) from by decide), if_pos (show Good K M Z T L O from by unfold Good; omega)]
            · rw [decide_eq_false h5, if_pos (show ((!false) = true) from rfl), if_neg (show ¬ Good K M Z T L O from by unfold Good; omega)]
          · exact ev_neg (by rw [decide_eq_false h4]; decide) (ev_eq (lj0 _) (by rw [if_neg (show ¬ Good K M Z T L O from by unfold Good; omega)]; rfl))
        · exact ev_neg (by rw [decide_eq_false h3]; decide) (ev_eq (lj0 _) (by rw [if_neg (show ¬ Good K M Z T L O from by unfold Good; omega)]; rfl))
      · exact ev_neg (by rw [decide_eq_false h2]; decide) (ev_eq (lj0 _) (by rw [if_neg (show ¬ Good K M Z T L O from by unfold Good; omega)]; rfl))
    · exact ev_neg (by rw [decide_eq_false h1]; decide) (ev_eq (lj0 _) (by rw [if_neg (show ¬ Good K M Z T L O from by unfold Good; omega)]; rfl))
  · rw [if_neg h0]
    exact ev_neg (by decide) (ev_eq (lj0 _) (by rw [if_neg (show ¬ Good K M Z T L O from by unfold Good; omega)]; rfl))

def add1 (a x : Int) : Int := wrap64 (a + x)
theorem drop_rd {l : List Int} {j : Nat} (h : j < l.length) : l.drop j = rd l (j : Int) :: l.drop (j + 1) := by
  rw [List.drop_eq_getElem_cons h]
  unfold rd
  simp [List.getD_eq_getElem?_getD, h]
theorem place_l (l : List Int) (hl : l.length ≤ 100) (d : Nat) : ∀ (j : Nat) (x : Int), j + d = l.length → Ev (fun k => layout_place.l0 k x l (l.length : Int) (j : Int)) ((l.drop j).foldl add1 x) := by
  induction d with
  | zero =>
    intro j x h
    rw [List.drop_of_length_le (by omega)]
    refine ev_succ fun k => ?_
    rw [layout_place.l0, if_neg (by omega)]; rfl
  | succ d ih =>
    intro j x h
    rw [drop_rd (by omega)]
    refine Ev.step (f := fun k => layout_place.l0 k (add1 x (rd l (j : Int))) l (l.length : Int) ((j + 1 : Nat) : Int)) (fun k => ?_) (ih (j + 1) _ (by omega))
    rw [layout_place.l0, if_pos (by omega), if_pos (by omega), if_pos (by omega), w64 (i := (j : Int) + 1) (by omega) (by omega)]
    rfl
theorem place_j (i : Int) (l : List Int) (hl : l.length ≤ 100) (b : Bool) : Ev (fun k => layout_place.j0 k i l b) (if b = true then 0 else l.foldl add1 (wrap64 (1 + i))) := by
  refine Ev.step (fun k => by rw [layout_place.j0]) ?_
  cases b
  · exact ev_neg (by decide) (place_l l hl l.length 0 _ (by omega))
  · exact ev_pos rfl (Ev.now _)
def plc (i n : Int) (l : List Int) : Int := if Good K M Z T L O ∧ 0 ≤ i ∧ i < n then l.foldl add1 (wrap64 (1 + i)) else 0
theorem place (hK : R K) (hM : R M) (i n : Int) (l : List Int) (hl : l.length ≤ 100) : Ev (fun k => layout_place.f k K M Z T L O i n l) (plc K M Z T L O i n l) := by
  unfold layout_place.f plc
  refine Ev.bind (check K M Z T L O hK hM) ?_
  unfold chk
  by_cases hg : Good K M Z T L O
  · rw [if_pos hg]
    refine ev_pos rfl ?_
    by_cases h0 : i < 0
    · exact ev_pos h0 (ev_eq (place_j i l hl true) (by rw [if_pos rfl, if_neg (by omega)]))
    · refine ev_neg h0 (ev_eq (place_j i l hl _) ?_)
      by_cases h1 : i ≥ n
      · rw [if_pos (decide_eq_true h1), if_neg (by omega)]
      · rw [if_neg (by rw [decide_eq_false h1]; decide), if_pos ⟨hg, by omega⟩]
  · rw [if_neg hg]
    exact ev_neg (by decide) (ev_eq (place_j i l hl true) (by rw [if_pos rfl, if_neg (fun h => hg h.1)]))
def sec : Int := if Good K M Z T L O then 5 + L + T else 0
theorem sectors (hK : R K) (hM : R M) : Ev (fun k => layout_Sectors.f k K M Z T L O) (sec K M Z T L O) := by
  unfold layout_Sectors.f
  refine Ev.bind (place K M Z T L O hK hM 0 1 [4, L, T] (by simp)) (ev_eq (Ev.now _) ?_)
  unfold plc sec
  by_cases hg : Good K M Z T L O
  · rw [if_pos hg, if_pos ⟨hg, by omega⟩]
    unfold Good at hg
    simp only [List.foldl, add1]
    rw [w64 (i := 1 + 0) (by omega) (by omega), w64 (i := 1 + 0 + 4) (by omega) (by omega), w64 (i := 1 + 0 + 4 + L) (by omega) (by omega), w64 (by omega) (by omega)]
    omega
  · rw [if_neg hg, if_neg (fun h => hg h.1)]
def are (i j : Int) : Int := if Good K M Z T L O ∧ (0 ≤ i ∧ i < 2) ∧ (0 ≤ j ∧ j < 2) then 1 + i * 2 + j else 0
theorem area (hK : R K) (hM : R M) (i j : Int) : Ev (fun k => layout_Area.f k K M Z T L O i j) (are K M Z T L O i j) := by
  unfold layout_Area.f
  refine Ev.bind (place K M Z T L O hK hM i 2 [] (by decide)) ?_
  unfold plc are
  by_cases h0 : Good K M Z T L O ∧ 0 ≤ i ∧ i < 2
  · rw [if_pos h0]
    simp only [List.foldl]
    rw [w64 (i := 1 + i) (by omega) (by omega)]
    refine ev_neg (by omega) (Ev.bind (place K M Z T L O hK hM j 2 [wrap64 (i * 2)] (by simp)) (ev_eq (Ev.now _) ?_))
    unfold plc
    by_cases h1 : 0 ≤ j ∧ j < 2
    · rw [if_pos ⟨h0.1, h1⟩, if_pos ⟨h0.1, h0.2, h1⟩]
      simp only [List.foldl, add1]
      rw [w64 (i := 1 + j) (by omega) (by omega), w64 (i := i * 2) (by omega) (by omega), w64 (by omega) (by omega)]
      omega
    · rw [if_neg (fun h => h1 h.2), if_neg (fun h => h1 h.2.2)]
  · rw [if_neg h0, if_neg (fun h => h0 ⟨h.1, h.2.1⟩)]
    exact ev_pos rfl (Ev.now _)
def slo (i : Int) : Int := if Good K M Z T L O ∧ (0 ≤ i ∧ i < L) then 5 + i else 0
theorem slot (hK : R K) (hM : R M) (i : Int) : Ev (fun k => layout_Slot.f k K M Z T L O i) (slo K M Z T L O i) := by
  unfold layout_Slot.f
  refine Ev.bind (place K M Z T L O hK hM i L [4] (by decide)) (ev_eq (Ev.now _) ?_)
  unfold plc slo
  by_cases h0 : Good K M Z T L O ∧ 0 ≤ i ∧ i < L
  · rw [if_pos h0, if_pos h0]
    have hg := h0.1
    unfold Good at hg
    simp only [List.foldl, add1]
    rw [w64 (i := 1 + i) (by omega) (by omega), w64 (by omega) (by omega)]
    omega
  · rw [if_neg h0, if_neg h0]
def stri (i : Int) : Int := if Good K M Z T L O ∧ (0 ≤ i ∧ i < T) then 5 + L + i else 0
theorem stripe (hK : R K) (hM : R M) (i : Int) : Ev (fun k => layout_Stripe.f k K M Z T L O i) (stri K M Z T L O i) := by
  unfold layout_Stripe.f
  refine Ev.bind (place K M Z T L O hK hM i T [4, L] (by simp)) (ev_eq (Ev.now _) ?_)
  unfold plc stri
  by_cases h0 : Good K M Z T L O ∧ 0 ≤ i ∧ i < T
  · rw [if_pos h0, if_pos h0]
    have hg := h0.1
    unfold Good at hg
    simp only [List.foldl, add1]
    rw [w64 (i := 1 + i) (by omega) (by omega), w64 (i := 1 + i + 4) (by omega) (by omega), w64 (by omega) (by omega)]
    omega
  · rw [if_neg h0, if_neg h0]
def dsk (s h : Int) : Int := if Good K M Z T L O ∧ (0 ≤ s ∧ s < T) ∧ (0 ≤ h ∧ h < K + M) then (h + s) % (K + M) else 0
theorem disk (hK : R K) (hM : R M) (s h : Int) : Ev (fun k => layout_Disk.f k K M Z T L O s h) (dsk K M Z T L O s h) := by
  unfold layout_Disk.f
  refine Ev.bind (place K M Z T L O hK hM s T [] (by decide)) ?_
  unfold plc dsk
  by_cases h0 : Good K M Z T L O ∧ 0 ≤ s ∧ s < T
  · rw [if_pos h0]
    have hg := h0.1
    unfold Good at hg
    simp only [List.foldl]
    rw [w64 (i := 1 + s) (by omega) (by omega), w64 (i := K + M) (by omega) (by omega)]
    refine ev_neg (by omega) (Ev.bind (place K M Z T L O hK hM h (K + M) [] (by decide)) ?_)
    unfold plc
    simp only [List.foldl]
    by_cases h1 : 0 ≤ h ∧ h < K + M
    · rw [if_pos ⟨h0.1, h1⟩, if_pos ⟨h0.1, h0.2, h1⟩]
      rw [w64 (i := 1 + h) (by omega) (by omega), show (1 + h == 0) = false from by rw [beq_eq_false_iff_ne]; omega]
      refine ev_succ fun k => ?_
      rw [layout_Disk.j0, if_neg (by decide), w64 (i := K + M) (by omega) (by omega), if_neg (by omega), w64 (i := h + s) (by omega) (by omega), Int.tmod_eq_emod_of_nonneg (by omega)]
    · rw [if_neg (fun z => h1 z.2), if_neg (fun z => h1 z.2.2)]
      refine ev_succ fun k => ?_
      rw [layout_Disk.j0, if_pos (by decide)]
  · rw [if_neg h0, if_neg (fun z => h0 ⟨z.1, z.2.1⟩)]
    refine ev_pos rfl (ev_succ fun k => ?_)
    rw [layout_Disk.j0, if_pos rfl]
def shd (s d : Int) : Int := if Good K M Z T L O ∧ (0 ≤ s ∧ s < T) ∧ (0 ≤ d ∧ d < K + M) then (d - s) % (K + M) else 0
theorem twice (x n : Int) (hn : 0 < n) : Int.tmod (Int.tmod x n + n) n = x % n := by
  have h1 := Int.tmod_def x n
  have h2 := Int.emod_nonneg x (by omega : n ≠ 0)
  have h3 := Int.emod_lt_of_pos x hn
  by_cases hx : 0 ≤ x
  · rw [Int.tmod_eq_emod_of_nonneg hx, Int.tmod_eq_emod_of_nonneg (by omega), Int.add_emod_right, Int.emod_emod]
  · have h4 : Int.tmod x n = - Int.tmod (-x) n := by rw [Int.neg_tmod, Int.neg_neg]
    have h5 : Int.tmod (-x) n = (-x) % n := Int.tmod_eq_emod_of_nonneg (by omega)
    have h6 := Int.emod_nonneg (-x) (by omega : n ≠ 0)
    have h7 := Int.emod_lt_of_pos (-x) hn
    rw [h4, h5, Int.tmod_eq_emod_of_nonneg (by omega), Int.add_emod_right]
    have h8 := Int.mul_ediv_add_emod (-x) n
    have h9 : x = -(-x % n) + n * (-((-x) / n)) := by rw [Int.mul_neg]; omega
    conv => rhs; rw [h9, Int.add_mul_emod_self_left]
theorem shard_j (s d n : Int) (b : Bool) (hn : 0 < n) (hn2 : n ≤ 32) (hs : 0 ≤ s ∧ s < 256) (h : b = false → 0 ≤ d ∧ d < n) : Ev (fun k => layout_Shard.j0 k s d n b) (if b = true then 0 else (d - s) % n) := by
  refine ev_succ fun k => ?_
  rw [layout_Shard.j0]
  cases b
  · have := h rfl
    rw [if_neg (by decide), if_neg (by omega), if_neg (by decide), w64 (i := d - s) (by omega) (by omega)]
    have h1 := Int.tmod_lt_of_pos (d - s) hn
    have h2 : -n < Int.tmod (d - s) n := by
      have := Int.tmod_lt_of_pos (-(d - s)) hn
      rw [Int.neg_tmod] at this
      omega
    rw [w64 (i := Int.tmod (d - s) n + n) (by omega) (by omega), twice _ _ hn]
  · rw [if_pos rfl, if_pos rfl]
theorem shard (hK : R K) (hM : R M) (s d : Int) : Ev (fun k => layout_Shard.f k K M Z T L O s d) (shd K M Z T L O s d) := by
  unfold layout_Shard.f
  refine Ev.bind (place K M Z T L O hK hM s T [] (by decide)) ?_
  unfold plc shd
  by_cases h0 : Good K M Z T L O ∧ 0 ≤ s ∧ s < T
  · rw [if_pos h0]
    have hg := h0.1
    unfold Good at hg
    simp only [List.foldl]
    rw [w64 (i := 1 + s) (by omega) (by omega), w64 (i := K + M) (by omega) (by omega)]
    refine ev_neg (by omega) (Ev.bind (place K M Z T L O hK hM d (K + M) [] (by decide)) ?_)
    unfold plc
    simp only [List.foldl]
    by_cases h1 : 0 ≤ d ∧ d < K + M
    · rw [if_pos ⟨h0.1, h1⟩, if_pos ⟨h0.1, h0.2, h1⟩]
      rw [w64 (i := 1 + d) (by omega) (by omega), show (1 + d == 0) = false from by rw [beq_eq_false_iff_ne]; omega]
      exact shard_j s d _ false (by omega) (by omega) (by omega) (fun _ => h1)
    · rw [if_neg (fun z => h1 z.2), if_neg (fun z => h1 z.2.2)]
      exact shard_j s d _ true (by omega) (by omega) (by omega) (fun h => by cases h)
  · rw [if_neg h0, if_neg (fun z => h0 ⟨z.1, z.2.1⟩)]
    refine ev_pos rfl (ev_succ fun k => ?_)
    rw [layout_Shard.j0, if_pos rfl]
def nee (b : Int) : Int := if Good K M Z T L O ∧ 1 ≤ b then (b - 1) / (K * Z) + 1 else 0
theorem prod (hg : Good K M Z T L O) : 1 ≤ K * Z ∧ K * Z ≤ 131072 := by
  unfold Good at hg
  have h1 : 1 * 1 ≤ K * Z := Int.mul_le_mul (by omega) (by omega) (by omega) (by omega)
  have h2 : K * Z ≤ 32 * 4096 := Int.mul_le_mul (by omega) (by omega) (by omega) (by omega)
  omega
theorem needs (hK : R K) (hM : R M) (b : Int) (hb : R b) : Ev (fun k => layout_Needs.f k K M Z T L O b) (nee K M Z T L O b) := by
  unfold layout_Needs.f
  refine Ev.bind (check K M Z T L O hK hM) ?_
  unfold chk nee
  by_cases hg : Good K M Z T L O
  · rw [if_pos hg]
    have hp := prod K M Z T L O hg
    unfold R at hb
    refine ev_pos rfl (ev_succ fun k => ?_)
    rw [layout_Needs.j0]
    by_cases h1 : b < 1
    · rw [if_pos (decide_eq_true h1), if_neg (by omega)]
    · rw [if_neg (by rw [decide_eq_false h1]; decide), if_pos (show Good K M Z T L O ∧ 1 ≤ b from ⟨hg, by omega⟩)]
      rw [w64 (i := K * Z) (by omega) (by omega), if_neg (by omega), w64 (i := b - 1) (by omega) (by omega), Int.tdiv_eq_ediv_of_nonneg (by omega)]
      have h2 : (b - 1) / (K * Z) ≤ b - 1 := Int.ediv_le_self _ (by omega)
      have h3 : 0 ≤ (b - 1) / (K * Z) := Int.ediv_nonneg (by omega) (by omega)
      rw [w64 (i := (b - 1) / (K * Z)) (by omega) (by omega), w64 (by omega) (by omega)]
  · rw [if_neg hg, if_neg (fun h => hg h.1)]
    refine ev_neg (by decide) (ev_succ fun k => ?_)
    rw [layout_Needs.j0, if_pos rfl]

/-! ### the reference -/
theorem ref05 (hK : R K) (hM : R M) : Ev (fun k => aumbryref05_Check.f k K M) (if 1 ≤ K ∧ 0 ≤ M ∧ K + M ≤ 256 then 0 else 50) := by
  unfold R at hK hM
  refine ev_succ fun k => ?_
  unfold aumbryref05_Check.f
  by_cases h1 : K < 1
  · rw [if_pos h1, aumbryref05_Check.j0, if_pos rfl, if_neg (by omega)]
  · rw [if_neg h1]
    by_cases h2 : K > 256
    · rw [if_pos h2, aumbryref05_Check.j0, if_pos rfl, if_neg (by omega)]
    · rw [if_neg h2]
      by_cases h3 : M < 0
      · rw [if_pos h3, aumbryref05_Check.j0, if_pos rfl, if_neg (by omega)]
      · rw [if_neg h3]
        by_cases h4 : M > 256
        · rw [if_pos h4, aumbryref05_Check.j0, if_pos rfl, if_neg (by omega)]
        · rw [if_neg h4, aumbryref05_Check.j0, w64 (by omega) (by omega)]
          by_cases h5 : K + M > 256
          · rw [if_pos (decide_eq_true h5), if_neg (by omega)]
          · rw [if_neg (by rw [decide_eq_false h5]; decide), if_pos (by omega)]
theorem r1 (b : Bool) : Ev (fun k => aumbryref14_Check.j1 k b) (if b = true then 50 else 0) := by
  refine ev_succ fun k => ?_
  rw [aumbryref14_Check.j1]
  cases b <;> rfl
theorem r0 (b : Bool) : Ev (fun k => aumbryref14_Check.j0 k b K M Z T L O) (if b = true ∨ ¬ (1 ≤ L ∧ L ≤ 64 ∧ 1 ≤ O ∧ O ≤ 64) then 50 else 0) := by
  refine Ev.step (fun k => by rw [aumbryref14_Check.j0]) ?_
  cases b
  · refine ev_neg (by decide) ?_
    by_cases h1 : L < 1
    · exact ev_pos h1 (ev_eq (r1 true) (by rw [if_pos rfl, if_pos (by omega)]))
    · refine ev_neg h1 ?_
      by_cases h2 : L > 64
      · exact ev_pos h2 (ev_eq (r1 true) (by rw [if_pos rfl, if_pos (by omega)]))
      · refine ev_neg h2 ?_
        by_cases h3 : O < 1
        · exact ev_pos h3 (ev_eq (r1 true) (by rw [if_pos rfl, if_pos (by omega)]))
        · refine ev_neg h3 (ev_eq (r1 _) ?_)
          by_cases h4 : O > 64
          · rw [if_pos (decide_eq_true h4), if_pos (by omega)]
          · rw [if_neg (by rw [decide_eq_false h4]; decide), if_neg (by simp; omega)]
  · exact ev_pos rfl (ev_eq (Ev.now _) (by rw [if_pos (.inl rfl)]))
theorem rcheck (hK : R K) (hM : R M) : Ev (fun k => aumbryref14_Check.f k K M Z T L O) (chk K M Z T L O) := by
  have hc := ref05 K M hK hM
  unfold R at hK hM
  unfold aumbryref14_Check.f chk
  refine Ev.bind hc ?_
  by_cases h0 : 1 ≤ K ∧ 0 ≤ M ∧ K + M ≤ 256
  · rw [if_pos h0]
    refine ev_pos rfl ?_
    rw [w64 (by omega) (by omega)]
    have bad : ¬ Good K M Z T L O → Ev (fun k => aumbryref14_Check.j0 k true K M Z T L O) (if Good K M Z T L O then 0 else 50) := fun h => ev_eq (r0 K M Z T L O true) (by rw [if_pos (.inl rfl), if_neg h])
    by_cases h1 : K + M > 32
    · exact ev_pos h1 (bad (by unfold Good; omega))
    · refine ev_neg h1 ?_
      by_cases h2 : Z < 1
      · exact ev_pos h2 (bad (by unfold Good; omega))
      · refine ev_neg h2 ?_
        by_cases h3 : Z > 4096
        · exact ev_pos h3 (bad (by unfold Good; omega))
        · refine ev_neg h3 ?_
          by_cases h4 : T < 1
          · exact ev_pos h4 (bad (by unfold Good; omega))
          · refine ev_neg h4 (ev_eq (r0 K M Z T L O _) ?_)
            by_cases h5 : T > 256
            · rw [if_pos (.inl (decide_eq_true h5)), if_neg (by unfold Good; omega)]
            · by_cases h6 : 1 ≤ L ∧ L ≤ 64 ∧ 1 ≤ O ∧ O ≤ 64
              · rw [if_neg (by rw [decide_eq_false h5]; simp; omega), if_pos (by unfold Good; omega)]
              · rw [if_pos (.inr h6), if_neg (by unfold Good; omega)]
  · rw [if_neg h0]
    exact ev_neg (by decide) (ev_eq (r0 K M Z T L O true) (by rw [if_pos (.inl rfl), if_neg (by unfold Good; omega)]))
theorem rsectors (hK : R K) (hM : R M) : Ev (fun k => aumbryref14_Sectors.f k K M Z T L O) (sec K M Z T L O) := by
  unfold aumbryref14_Sectors.f
  refine Ev.bind (rcheck K M Z T L O hK hM) ?_
  unfold chk sec
  by_cases hg : Good K M Z T L O
  · rw [if_pos hg, if_pos hg]
    unfold Good at hg
    rw [w64 (i := 5 + L) (by omega) (by omega), w64 (by omega) (by omega)]
    exact ev_pos rfl (Ev.now _)
  · rw [if_neg hg, if_neg hg]
    exact ev_neg (by decide) (Ev.now _)
theorem rmay (hK : R K) (hM : R M) (i n : Int) : Ev (fun k => aumbryref14_may.f k K M Z T L O i n) (decide (Good K M Z T L O ∧ 0 ≤ i ∧ i < n)) := by
  unfold aumbryref14_may.f
  refine Ev.bind (rcheck K M Z T L O hK hM) ?_
  unfold chk
  by_cases hg : Good K M Z T L O
  · rw [if_pos hg]
    refine ev_pos rfl ?_
    by_cases h0 : i ≥ 0
    · refine ev_pos h0 (ev_eq (Ev.now _) ?_)
      rw [decide_eq_decide]
      exact ⟨fun h => ⟨hg, h0, h⟩, fun h => h.2.2⟩
    · refine ev_neg h0 (ev_eq (Ev.now _) ?_)
      symm; rw [decide_eq_false_iff_not]
      exact fun h => h0 h.2.1
  · rw [if_neg hg]
    refine ev_neg (by decide) (ev_eq (Ev.now _) ?_)
    symm; rw [decide_eq_false_iff_not]
    exact fun h => hg h.1
theorem rarea (hK : R K) (hM : R M) (i j : Int) : Ev (fun k => aumbryref14_Area.f k K M Z T L O i j) (are K M Z T L O i j) := by
  unfold aumbryref14_Area.f
  refine Ev.bind (rmay K M Z T L O hK hM i 2) (Ev.bind (rmay K M Z T L O hK hM j 2) ?_)
  unfold are
  by_cases h0 : Good K M Z T L O ∧ 0 ≤ i ∧ i < 2
  · refine ev_pos (decide_eq_true h0) (ev_succ fun k => ?_)
    rw [aumbryref14_Area.j0]
    by_cases h1 : 0 ≤ j ∧ j < 2
    · rw [decide_eq_true (show Good K M Z T L O ∧ 0 ≤ j ∧ j < 2 from ⟨h0.1, h1⟩), if_neg (by decide), if_pos ⟨h0.1, h0.2, h1⟩]
      rw [w64 (i := i * 2) (by omega) (by omega), w64 (i := 1 + i * 2) (by omega) (by omega), w64 (by omega) (by omega)]
    · rw [decide_eq_false (show ¬ (Good K M Z T L O ∧ 0 ≤ j ∧ j < 2) from fun h => h1 h.2), if_pos (by decide), if_neg (fun h => h1 h.2.2)]
  · refine ev_neg (by rw [decide_eq_false h0]; decide) (ev_succ fun k => ?_)
    rw [aumbryref14_Area.j0, if_pos rfl, if_neg (fun h => h0 ⟨h.1, h.2.1⟩)]
theorem rslot (hK : R K) (hM : R M) (i : Int) : Ev (fun k => aumbryref14_Slot.f k K M Z T L O i) (slo K M Z T L O i) := by
  unfold aumbryref14_Slot.f
  refine Ev.bind (rmay K M Z T L O hK hM i L) ?_
  unfold slo
  by_cases h0 : Good K M Z T L O ∧ 0 ≤ i ∧ i < L
  · have hg := h0.1
    unfold Good at hg
    rw [if_pos h0, w64 (by omega) (by omega)]
    exact ev_pos (decide_eq_true h0) (Ev.now _)
  · rw [if_neg h0]
    exact ev_neg (by rw [decide_eq_false h0]; decide) (Ev.now _)
theorem rstripe (hK : R K) (hM : R M) (i : Int) : Ev (fun k => aumbryref14_Stripe.f k K M Z T L O i) (stri K M Z T L O i) := by
  unfold aumbryref14_Stripe.f
  refine Ev.bind (rmay K M Z T L O hK hM i T) ?_
  unfold stri
  by_cases h0 : Good K M Z T L O ∧ 0 ≤ i ∧ i < T
  · have hg := h0.1
    unfold Good at hg
    rw [if_pos h0, w64 (i := 5 + L) (by omega) (by omega), w64 (by omega) (by omega)]
    exact ev_pos (decide_eq_true h0) (Ev.now _)
  · rw [if_neg h0]
    exact ev_neg (by rw [decide_eq_false h0]; decide) (Ev.now _)
theorem rdisk_bad (s h : Int) : Ev (fun k => aumbryref14_Disk.j0 k s h true K M Z T L O) 0 := ev_succ fun k => by rw [aumbryref14_Disk.j0, if_pos rfl]
theorem rdisk (hK : R K) (hM : R M) (s h : Int) : Ev (fun k => aumbryref14_Disk.f k K M Z T L O s h) (dsk K M Z T L O s h) := by
  unfold aumbryref14_Disk.f
  refine Ev.bind (rmay K M Z T L O hK hM s T) ?_
  unfold dsk
  by_cases h0 : Good K M Z T L O ∧ 0 ≤ s ∧ s < T
  · have hg := h0.1
    unfold Good at hg
    refine ev_pos (decide_eq_true h0) ?_
    by_cases h1 : h < 0
    · rw [if_neg (by omega)]
      exact ev_pos h1 (rdisk_bad K M Z T L O s h)
    · refine ev_neg h1 (ev_succ fun k => ?_)
      rw [aumbryref14_Disk.j0, w64 (i := K + M) (by omega) (by omega)]
      by_cases h2 : h ≥ K + M
      · rw [if_pos (decide_eq_true h2), if_neg (by omega)]
      · rw [if_neg (by rw [decide_eq_false h2]; decide), if_neg (by omega), w64 (i := h + s) (by omega) (by omega), Int.tmod_eq_emod_of_nonneg (by omega), if_pos ⟨h0.1, h0.2, by omega, by omega⟩]
  · rw [if_neg (fun z => h0 ⟨z.1, z.2.1⟩)]
    exact ev_neg (by rw [decide_eq_false h0]; decide) (rdisk_bad K M Z T L O s h)
theorem rneeds (hK : R K) (hM : R M) (b : Int) (hb : R b) : Ev (fun k => aumbryref14_Needs.f k K M Z T L O b) (nee K M Z T L O b) := by
  unfold aumbryref14_Needs.f
  refine Ev.bind (rcheck K M Z T L O hK hM) ?_
  unfold chk nee
  by_cases hg : Good K M Z T L O
  · rw [if_pos hg]
    have hp := prod K M Z T L O hg
    unfold R at hb
    refine ev_pos rfl (ev_succ fun k => ?_)
    rw [aumbryref14_Needs.j0]
    by_cases h1 : b < 1
    · rw [if_pos (decide_eq_true h1), if_neg (by omega)]
    · rw [if_neg (by rw [decide_eq_false h1]; decide), if_pos (show Good K M Z T L O ∧ 1 ≤ b from ⟨hg, by omega⟩)]
      rw [w64 (i := K * Z) (by omega) (by omega), if_neg (by omega), Int.tdiv_eq_ediv_of_nonneg (by omega), Int.tmod_eq_emod_of_nonneg (by omega)]
      generalize K * Z = q at hp
      have h2 : b / q ≤ b := Int.ediv_le_self _ (by omega)
      have h3 : 0 ≤ b / q := Int.ediv_nonneg (by omega) (by omega)
      have h4 := Int.mul_ediv_add_emod b q
      have h5 := Int.emod_nonneg b (show q ≠ 0 by omega)
      have h6 := Int.emod_lt_of_pos b (show 0 < q by omega)
      by_cases h7 : b % q > 0
      · have e : (b - 1) / q = b / q := by
          rw [show b - 1 = (b % q - 1) + q * (b / q) from by omega, Int.add_mul_ediv_left _ _ (by omega), Int.ediv_eq_zero_of_lt (by omega) (by omega)]
          omega
        have h8 : b / q ≤ b - 1 := by rw [← e]; exact Int.ediv_le_self _ (by omega)
        rw [if_pos h7, w64 (i := b / q) (by omega) (by omega), w64 (by omega) (by omega), e]
      · have e : (b - 1) / q = b / q - 1 := by
          rw [show b - 1 = (q - 1) + q * (b / q - 1) from by rw [Int.mul_sub]; omega, Int.add_mul_ediv_left _ _ (by omega), Int.ediv_eq_zero_of_lt (by omega) (by omega)]
          omega
        rw [if_neg h7, w64 (i := b / q) (by omega) (by omega), e]
        congr 1
        omega
  · rw [if_neg hg, if_neg (fun h => hg h.1)]
    refine ev_neg (by decide) (ev_succ fun k => ?_)
    rw [aumbryref14_Needs.j0, if_pos rfl]
/-- The shard that lies on a disk: there is one, and no other. -/
theorem shard_of {n s i d : Int} (hn : 0 < n) (hi : 0 ≤ i ∧ i < n) (hd : 0 ≤ d ∧ d < n) : (i + s) % n = d ↔ (d - s) % n = i := by
  constructor
  · intro h
    rw [← h, Int.emod_sub_emod, Int.add_sub_cancel, Int.emod_eq_of_lt hi.1 hi.2]
  · intro h
    rw [← h, Int.emod_add_emod, Int.sub_add_cancel, Int.emod_eq_of_lt hd.1 hd.2]
theorem rshard_l (hK : R K) (hM : R M) (s d : Int) (hg : Good K M Z T L O) (hs : 0 ≤ s ∧ s < T) (r : Nat) : ∀ (i : Int), 0 ≤ i → i + r = K + M → (∀ j, 0 ≤ j → j < i → dsk K M Z T L O s j ≠ d) →
    Ev (fun k => aumbryref14_Shard.l0 k s d true i K M Z T L O) (shd K M Z T L O s d) := by
  have hg' := hg
  unfold Good at hg'
  induction r with
  | zero =>
    intro i hi hr hno
    refine Ev.step (fun k => by rw [aumbryref14_Shard.l0]) (ev_pos rfl ?_)
    rw [w64 (i := K + M) (by omega) (by omega), decide_eq_false (by omega)]
    refine ev_succ fun k => ?_
    rw [aumbryref14_Shard.j1, if_neg (by decide)]
    unfold shd
    by_cases hd : 0 ≤ d ∧ d < K + M
    · exfalso
      have h1 := Int.emod_nonneg (d - s) (show K + M ≠ 0 by omega)
      have h2 := Int.emod_lt_of_pos (d - s) (show 0 < K + M by omega)
      refine hno ((d - s) % (K + M)) h1 (by omega) ?_
      unfold dsk
      rw [if_pos ⟨hg, hs, h1, h2⟩]
      exact (shard_of (by omega) ⟨h1, h2⟩ hd).2 rfl
    · rw [if_neg (fun z => hd z.2.2)]
  | succ r ih =>
    intro i hi hr hno
    refine Ev.step (fun k => by rw [aumbryref14_Shard.l0]) (ev_pos rfl ?_)
    rw [w64 (i := K + M) (by omega) (by omega), decide_eq_true (by omega)]
    refine Ev.step (fun k => by rw [aumbryref14_Shard.j1]) (ev_pos rfl (Ev.bind (rdisk K M Z T L O hK hM s i) ?_))
    have e : dsk K M Z T L O s i = (i + s) % (K + M) := by unfold dsk; rw [if_pos ⟨hg, hs, by omega, by omega⟩]
    by_cases hd : dsk K M Z T L O s i = d
    · refine ev_pos hd (ev_eq (Ev.now _) ?_)
      have h1 := Int.emod_nonneg (i + s) (show K + M ≠ 0 by omega)
      have h2 := Int.emod_lt_of_pos (i + s) (show 0 < K + M by omega)
      rw [e] at hd
      unfold shd
      rw [if_pos ⟨hg, hs, by omega, by omega⟩]
      exact ((shard_of (by omega) ⟨by omega, by omega⟩ ⟨by omega, by omega⟩).1 hd).symm
    · refine ev_neg hd ?_
      rw [w64 (by omega) (by omega)]
      refine ih (i + 1) (by omega) (by omega) fun j h1 h2 => ?_
      by_cases h3 : j = i
      · subst h3; exact hd
      · exact hno j h1 (by omega)
theorem rshard (hK : R K) (hM : R M) (s d : Int) : Ev (fun k => aumbryref14_Shard.f k K M Z T L O s d) (shd K M Z T L O s d) := by
  unfold aumbryref14_Shard.f
  refine Ev.bind (rmay K M Z T L O hK hM s T) ?_
  by_cases h0 : Good K M Z T L O ∧ 0 ≤ s ∧ s < T
  · rw [decide_eq_true h0]
    have hg := h0.1
    unfold Good at hg
    exact rshard_l K M Z T L O hK hM s d h0.1 h0.2 (K + M).toNat 0 (by omega) (by omega) (fun j h1 h2 => by omega)
  · rw [decide_eq_false h0]
    refine Ev.step (fun k => by rw [aumbryref14_Shard.l0]) (ev_neg (by decide) (ev_succ fun k => ?_))
    rw [aumbryref14_Shard.j1, if_neg (by decide)]
    unfold shd
    rw [if_neg (fun z => h0 ⟨z.1, z.2.1⟩)]
end
theorem awake : Ev (fun k => aumbrylaw14_awake.f k) true := by
  have hR2 : R 2 := by unfold R; omega
  have hR1 : R 1 := by unfold R; omega
  have hR0 : R 0 := by unfold R; omega
  have hR9 : R 9 := by unfold R; omega
  unfold aumbrylaw14_awake.f
  refine Ev.bind (check 2 1 4 5 3 2 hR2 hR1) (ev_pos (by decide) ?_)
  refine Ev.bind (sectors 2 1 4 5 3 2 hR2 hR1) (ev_pos (by decide) ?_)
  refine Ev.bind (area 2 1 4 5 3 2 hR2 hR1 1 0) (ev_pos (by decide) ?_)
  refine Ev.bind (slot 2 1 4 5 3 2 hR2 hR1 2) ?_
  rw [show (slo 2 1 4 5 3 2 2 == 7) = true from by decide]
  refine Ev.step (fun k => by rw [aumbrylaw14_awake.j0]) ?_
  refine Ev.bind (stripe 2 1 4 5 3 2 hR2 hR1 0) (ev_pos (by decide) ?_)
  refine Ev.bind (disk 2 1 4 5 3 2 hR2 hR1 4 2) (ev_pos (by decide) ?_)
  refine Ev.bind (shard 2 1 4 5 3 2 hR2 hR1 4 0) (ev_pos (by decide) ?_)
  refine Ev.bind (needs 2 1 4 5 3 2 hR2 hR1 9 hR9) (ev_pos rfl (ev_pos (by decide) ?_))
  refine Ev.bind (check 0 0 0 0 0 0 hR0 hR0) (ev_eq (Ev.now _) (by decide))
end Go.Proofs.Ytacolbcmlpfbmaa.LayA
