-- LAID BY A PROGRAM OF THIS SESSION (wip/tools: the kit's print with changes of our own)
import Derived.Test.YtoeegdpkmdgkdaaPAllx0
import Derived.Test.YtoeegdpkmdgkdaaPAllx12
import Derived.Test.YtoeegdpkmdgkdaaPAllx15
namespace Go.Proofs.Ytoeegdpkmdgkdaa.PAll
open Go.RowKit Go.Proofs.YtoeegdpkmdgkdaaW.PrintWords Go.Proofs.YtoeegdpkmdgkdaaW.PrintLast Go.Proofs.YtoeegdpkmdgkdaaW.PrintMore
attribute [local go_sem] min2_int min_two   -- for this text's walks alone
set_option linter.unusedVariables false
set_option linter.unusedSimpArgs false

/-! ### aumbryref16_Objects: function 26 -/
mutual
def aumbryref16_Objects.l0 : Nat → List (S61) → List (S61) → Int → Option (Bool)
 | 0, _, _, _ => none
 | k + 1, x0, x1, x5 => if x5 < (x0.length : Int) then (if 0 ≤ x5 then ((aumbryref16_put.f ((rd_T61 x0 x5).f0) ((rd_T61 x0 x5).f1) ((rd_T61 x0 x5).f2) ((rd_T61 x0 x5).f3)).bind fun bt433 => (if x5 < (x1.length : Int) then ((aumbryref16_put.f ((rd_T61 x1 x5).f0) ((rd_T61 x1 x5).f1) ((rd_T61 x1 x5).f2) ((rd_T61 x1 x5).f3)).bind fun bt440 => ((aumbryref16_Same.f k bt433.1 bt433.2.1 bt433.2.2.1 bt433.2.2.2 bt440.1 bt440.2.1 bt440.2.2.1 bt440.2.2.2).bind fun t446 => (if t446 = true then (aumbryref16_Objects.j1 k x0 x1 x5 (((rd_T61 x0 x5).f2) != ((rd_T61 x1 x5).f2))) else (aumbryref16_Objects.j1 k x0 x1 x5 true)))) else (none))) else (none)) else (some true)
def aumbryref16_Objects.j1 : Nat → List (S61) → List (S61) → Int → Bool → Option (Bool)
 | 0, _, _, _, _ => none
 | k + 1, x0, x1, x5, x43 => if x43 = true then (some false) else (aumbryref16_Objects.l0 k x0 x1 (wrap64 (x5 + 1)))
end
def aumbryref16_Objects.f (k : Nat) (l0 : List (S61)) (l1 : List (S61)) : Option (Bool) := if (l0.length : Int) = (l1.length : Int) then (aumbryref16_Objects.l0 k l0 l1 0) else (some false)
theorem aumbryref16_Objects.mono_l : ∀ k, (∀ y0 y1 y2, LeO (aumbryref16_Objects.l0 k y0 y1 y2) (aumbryref16_Objects.l0 (k + 1) y0 y1 y2)) ∧ (∀ y0 y1 y2 y3, LeO (aumbryref16_Objects.j1 k y0 y1 y2 y3) (aumbryref16_Objects.j1 (k + 1) y0 y1 y2 y3))
 | 0 => ⟨fun _ _ _ r h => by simp [aumbryref16_Objects.l0] at h, fun _ _ _ _ r h => by simp [aumbryref16_Objects.j1] at h⟩
 | k + 1 => by
  obtain ⟨ih0, ih1⟩ := aumbryref16_Objects.mono_l k
  refine ⟨?_, ?_⟩
  ·intro y0 y1 y2
   unfold aumbryref16_Objects.l0
   repeat' first
   | (with_reducible exact ih0 _ _ _)
   | (with_reducible exact ih1 _ _ _ _)
   | (with_reducible exact aumbryref16_Same.mono _ _ _ _ _ _ _ _ _)
   | (with_reducible exact LeO.refl _)
   | (with_reducible exact LeO.none _)
   | (with_reducible refine LeO.ite ?_ ?_)
   | (with_reducible refine LeO.bind ?_ (fun _ => ?_))
   | exact ih0 _ _ _
   | exact ih1 _ _ _ _
   | exact aumbryref16_Same.mono _ _ _ _ _ _ _ _ _
   | exact LeO.none _
   | refine LeO.ite ?_ ?_
   | refine LeO.bind ?_ (fun _ => ?_)
  ·intro y0 y1 y2 y3
   unfold aumbryref16_Objects.j1
   repeat' first
   | (with_reducible exact ih0 _ _ _)
   | (with_reducible exact ih1 _ _ _ _)
   | (with_reducible exact aumbryref16_Same.mono _ _ _ _ _ _ _ _ _)
   | (with_reducible exact LeO.refl _)
   | (with_reducible exact LeO.none _)
   | (with_reducible refine LeO.ite ?_ ?_)
   | (with_reducible refine LeO.bind ?_ (fun _ => ?_))
   | exact ih0 _ _ _
   | exact ih1 _ _ _ _
   | exact aumbryref16_Same.mono _ _ _ _ _ _ _ _ _
   | exact LeO.none _
   | refine LeO.ite ?_ ?_
   | refine LeO.bind ?_ (fun _ => ?_)
theorem aumbryref16_Objects.mono : ∀ a0 a1 k, LeO (aumbryref16_Objects.f k a0 a1) (aumbryref16_Objects.f (k + 1) a0 a1) := by
 intro a0 a1 k
 obtain ⟨ih0, ih1⟩ := aumbryref16_Objects.mono_l k
 unfold aumbryref16_Objects.f
 repeat' first
   | (with_reducible exact ih0 _ _ _)
   | (with_reducible exact ih1 _ _ _ _)
   | (with_reducible exact aumbryref16_Same.mono _ _ _ _ _ _ _ _ _)
   | (with_reducible exact LeO.refl _)
   | (with_reducible exact LeO.none _)
   | (with_reducible refine LeO.ite ?_ ?_)
   | (with_reducible refine LeO.bind ?_ (fun _ => ?_))
   | exact ih0 _ _ _
   | exact ih1 _ _ _ _
   | exact aumbryref16_Same.mono _ _ _ _ _ _ _ _ _
   | exact LeO.none _
   | refine LeO.ite ?_ ?_
   | refine LeO.bind ?_ (fun _ => ?_)
def aumbryref16_Objects.T6 : Bool × List (List Nat × List Nat) := (true, [([], []), ([], []), ([0, 1], [0, 1]), ([2], [2]), ([3], [3]), ([], []), ([], []), ([5, 6], [5, 6]), ([7], [7]), ([8, 4], [8]), ([4, 9, 9], [4, 9]), ([10, 10, 0, 1, 2, 3, 4, 5, 6, 7, 8, 9, 10], [10])])
def aumbryref16_Objects.B6 : List Nat := [0, 0, 3, 7, 15, 0, 0, 96, 224, 511, 1023, 2047]
theorem aumbryref16_Objects.tab6 : rtab .any (opsOf Try.f26 6) = aumbryref16_Objects.T6 := by kernel_rfl
theorem aumbryref16_Objects.bits6 : waitsOk aumbryref16_Objects.T6.2 aumbryref16_Objects.B6 = true := by kernel_rfl
def aumbryref16_Objects.T7 : Bool × List (List Nat × List Nat) := (true, [([], []), ([0], [0]), ([1], [1]), ([2], [2]), ([2], [2]), ([3, 4, 2], [2, 3, 4]), ([5, 2], [2, 5]), ([6, 2], [2, 6]), ([2], [2]), ([2], [2]), ([8, 9, 2], [2, 8, 9]), ([10, 2], [2, 10]), ([11, 2], [2, 11]), ([7, 12, 2], [2, 7, 12]), ([2, 13], [2, 13])])
def aumbryref16_Objects.B7 : List Nat := [0, 1, 3, 7, 7, 31, 63, 127, 7, 7, 775, 1799, 3847, 8191, 16383]
theorem aumbryref16_Objects.tab7 : rtab .any (opsOf Try.f26 7) = aumbryref16_Objects.T7 := by kernel_rfl
theorem aumbryref16_Objects.bits7 : waitsOk aumbryref16_Objects.T7.2 aumbryref16_Objects.B7 = true := by kernel_rfl
set_option maxHeartbeats 8000000 in
set_option maxRecDepth 100000 in
theorem aumbryref16_Objects.calls (k : Nat) (A0 : Option Addr) (c0 : Nat) (l0 : List (S61)) (A1 : Option Addr) (c1 : Nat) (l1 : List (S61)) (r : Bool) (w : World) (hr0 : Kd.C k61 w A0 l0.length l0) (hc0 : l0.length ≤ c0) (hr1 : Kd.C k61 w A1 l1.length l1) (hc1 : l1.length ≤ c1) (h : aumbryref16_Objects.f k l0 l1 = some r) :
  Calls Try.prog 26 #[.slice A0 l0.length c0, .slice A1 l1.length c1] w fun e w' => e = .returned (.bool r) ∧ Below w.heap.size w w' := by
 have hu61 := Try.underlying61
 have HR0 := Aside0.mk hr0
 have HC0 := Aside0.mk hc0
 clear hr0 hc0
 have HR1 := Aside0.mk hr1
 have HC1 := Aside0.mk hc1
 clear hr1 hc1
 have HB := Aside0.mk (Below.refl w.heap.size w)
 have H : (if (l0.length : Int) = (l1.length : Int) then (aumbryref16_Objects.l0 k l0 l1 0) else (some false)) = some r := h
 clear h
 by_cases c3 : (l0.length : Int) = (l1.length : Int)
 ·rw [if_pos c3] at H
  have c3b0 : ((l0.length : Int) == (l1.length : Int)) = true := beq_iff_eq.mpr c3
  have c3b1 : ((l0.length : Int) != (l1.length : Int)) = false := bne_eq_false_iff_eq.mpr c3
  have c3b2 : (l0.length == l1.length) = true := by first | simpa using c3 | (simp at c3 ⊢; omega)
  clear c3
  have H' := Aside0.mk H
  clear H
  go_enter Try.func26, Try.ntmps26
  go_wp2
  go_loopg [5] k (fun kq v5 w' => ∃ (x5_1 : Int), v5 = .int .i64 x5_1 ∧ Aside0 (aumbryref16_Objects.l0 kq l0 l1 x5_1 = some r) ∧ Aside0 (kq ≤ k) ∧ Aside0 (Below w.heap.size w w'))
  case atStart => exact ⟨(0), (by first | rfl | (simp; done) | (simp [*]; done)), H', ⟨Nat.le_refl _⟩, ⟨by repeat (first | (with_reducible first | exact HB.out | apply below_alloc | apply pw_below_drewN | apply below_drew1) | exact HB.out)⟩⟩
  case round =>
   clear H'
   try clear c1
   try clear c2
   try clear p2
   try clear c3
   try clear c3b0
   try clear c3b1
   try clear c3b2
   obtain ⟨x5_1, rfl, HA, HK1, HB⟩ := hrel
   cases gk with
   | zero => exact absurd HA.out (by simp [aumbryref16_Objects.l0])
   | succ k1 =>
    have H := HA.out
    clear HA
    simp only [aumbryref16_Objects.l0] at H
    by_cases c4 : x5_1 < (l0.length : Int)
    ·rw [if_pos c4] at H
     have c4b0 : decide (x5_1 < (l0.length : Int)) = true := decide_eq_true c4
     clear c4
     by_cases c5 : 0 ≤ x5_1
     ·rw [if_pos c5] at H
      have c5b0 : decide (0 ≤ x5_1) = true := decide_eq_true c5
      clear c5
      replace H := Option.bind_eq_some_iff.mp H
      obtain ⟨⟨t433, t434, t435, t436⟩, A60, H⟩ := H
      replace H : (if x5_1 < (l1.length : Int) then ((aumbryref16_put.f ((rd_T61 l1 x5_1).f0) ((rd_T61 l1 x5_1).f1) ((rd_T61 l1 x5_1).f2) ((rd_T61 l1 x5_1).f3)).bind fun bt440 => ((aumbryref16_Same.f k1 t433 t434 t435 t436 bt440.1 bt440.2.1 bt440.2.2.1 bt440.2.2.2).bind fun t446 => (if t446 = true then (aumbryref16_Objects.j1 k1 l0 l1 x5_1 (((rd_T61 l0 x5_1).f2) != ((rd_T61 l1 x5_1).f2))) else (aumbryref16_Objects.j1 k1 l0 l1 x5_1 true)))) else (none)) = some r := H
      have A6 := Aside0.mk A60
      clear A60
      by_cases c7 : x5_1 < (l1.length : Int)
      ·rw [if_pos c7] at H
       have c7b0 : decide (x5_1 < (l1.length : Int)) = true := decide_eq_true c7
       clear c7
       replace H := Option.bind_eq_some_iff.mp H
       obtain ⟨⟨t440, t441, t442, t443⟩, A80, H⟩ := H
       replace H : ((aumbryref16_Same.f k1 t433 t434 t435 t436 t440 t441 t442 t443).bind fun t446 => (if t446 = true then (aumbryref16_Objects.j1 k1 l0 l1 x5_1 (((rd_T61 l0 x5_1).f2) != ((rd_T61 l1 x5_1).f2))) else (aumbryref16_Objects.j1 k1 l0 l1 x5_1 true))) = some r := H
       have A8 := Aside0.mk A80
       clear A80
       replace H := Option.bind_eq_some_iff.mp H
       obtain ⟨t446, A90, H⟩ := H
       replace H : (if t446 = true then (aumbryref16_Objects.j1 k1 l0 l1 x5_1 (((rd_T61 l0 x5_1).f2) != ((rd_T61 l1 x5_1).f2))) else (aumbryref16_Objects.j1 k1 l0 l1 x5_1 true)) = some r := H
       have A9 := Aside0.mk A90
       clear A90
       have HC10 := Aside0.mk H
       clear H
       try go_wp2
       have n0_ := Aside0.mk (below_drew1 HB.out)
       clear HB
       have HB := n0_
       clear n0_
       have p432 : 0 ≤ (x5_1 : Int) := of_decide_eq_true (by first | (with_reducible assumption) | assumption)
       have q432 : x5_1 < (l0.length : Int) := of_decide_eq_true (by first | (with_reducible assumption) | assumption)
       obtain ⟨ad432, A432_3, c432_3, e432, hx432_0, hx432_1, hx432_2, hx432_3, hl432_3, hi432_3⟩ := at_T61 HR0.out x5_1 p432 q432
       have hw432_3 := hx432_3
       have hw432_2 := hx432_2
       have hw432_1 := hx432_1
       have hw432_0 := hx432_0
       cases e432
       replace hx432_0 := (HB.out.cell (World.block_lt_of_cell? w _ hx432_0)).trans hx432_0
       replace hx432_1 := (HB.out.cell (World.block_lt_of_cell? w _ hx432_1)).trans hx432_1
       replace hx432_2 := (HB.out.cell (World.block_lt_of_cell? w _ hx432_2)).trans hx432_2
       replace hx432_3 := (HB.out.cell (World.block_lt_of_cell? w _ hx432_3)).trans hx432_3
       have HR432_3 := Aside0.mk hi432_3
       have HC432_3 := Aside0.mk hl432_3
       clear hi432_3 hl432_3
       replace p432 := eq_true p432
       replace q432 := eq_true q432
       have p439 : 0 ≤ (x5_1 : Int) := of_decide_eq_true (by first | (with_reducible assumption) | assumption)
       have q439 : x5_1 < (l1.length : Int) := of_decide_eq_true (by first | (with_reducible assumption) | assumption)
       obtain ⟨ad439, A439_3, c439_3, e439, hx439_0, hx439_1, hx439_2, hx439_3, hl439_3, hi439_3⟩ := at_T61 HR1.out x5_1 p439 q439
       have hw439_3 := hx439_3
       have hw439_2 := hx439_2
       have hw439_1 := hx439_1
       have hw439_0 := hx439_0
       cases e439
       replace hx439_0 := (HB.out.cell (World.block_lt_of_cell? w _ hx439_0)).trans hx439_0
       replace hx439_1 := (HB.out.cell (World.block_lt_of_cell? w _ hx439_1)).trans hx439_1
       replace hx439_2 := (HB.out.cell (World.block_lt_of_cell? w _ hx439_2)).trans hx439_2
       replace hx439_3 := (HB.out.cell (World.block_lt_of_cell? w _ hx439_3)).trans hx439_3
       have HR439_3 := Aside0.mk hi439_3
       have HC439_3 := Aside0.mk hl439_3
       clear hi439_3 hl439_3
       replace p439 := eq_true p439
       replace q439 := eq_true q439
       refine start_ (n := 12) (S := fun w' => w'.cell? (ad432.add ((x5_1).toNat * 4)) = some (.string ((rd_T61 l0 x5_1).f0)) ∧ w'.cell? ⟨(ad432.add ((x5_1).toNat * 4)).block, (ad432.add ((x5_1).toNat * 4)).off + 1, none⟩ = some (.int .i64 ((rd_T61 l0 x5_1).f1)) ∧ w'.cell? ⟨(ad432.add ((x5_1).toNat * 4)).block, (ad432.add ((x5_1).toNat * 4)).off + 2, none⟩ = some (.int .i64 ((rd_T61 l0 x5_1).f2)) ∧ w'.cell? ⟨(ad432.add ((x5_1).toNat * 4)).block, (ad432.add ((x5_1).toNat * 4)).off + 3, none⟩ = some (.slice A432_3 ((rd_T61 l0 x5_1).f3).length c432_3) ∧ w'.cell? (ad439.add ((x5_1).toNat * 4)) = some (.string ((rd_T61 l1 x5_1).f0)) ∧ w'.cell? ⟨(ad439.add ((x5_1).toNat * 4)).block, (ad439.add ((x5_1).toNat * 4)).off + 1, none⟩ = some (.int .i64 ((rd_T61 l1 x5_1).f1)) ∧ w'.cell? ⟨(ad439.add ((x5_1).toNat * 4)).block, (ad439.add ((x5_1).toNat * 4)).off + 2, none⟩ = some (.int .i64 ((rd_T61 l1 x5_1).f2)) ∧ w'.cell? ⟨(ad439.add ((x5_1).toNat * 4)).block, (ad439.add ((x5_1).toNat * 4)).off + 3, none⟩ = some (.slice A439_3 ((rd_T61 l1 x5_1).f3).length c439_3)) (ds := []) #[false, false, false, false, false, false, false, false, false, false, false, false] (by kernel_rfl) rfl rfl ⟨((HB.out.cell (World.block_lt_of_cell? w _ hw432_0)).trans hw432_0), ((HB.out.cell (World.block_lt_of_cell? w _ hw432_1)).trans hw432_1), ((HB.out.cell (World.block_lt_of_cell? w _ hw432_2)).trans hw432_2), ((HB.out.cell (World.block_lt_of_cell? w _ hw432_3)).trans hw432_3), ((HB.out.cell (World.block_lt_of_cell? w _ hw439_0)).trans hw439_0), ((HB.out.cell (World.block_lt_of_cell? w _ hw439_1)).trans hw439_1), ((HB.out.cell (World.block_lt_of_cell? w _ hw439_2)).trans hw439_2), ((HB.out.cell (World.block_lt_of_cell? w _ hw439_3)).trans hw439_3)⟩ (fun hHeld => ?_); refine with_tabW aumbryref16_Objects.tab6 aumbryref16_Objects.bits6 (fun HT_ HW_ => ?_)
       generalize wr.drew = w11 at HB HR432_3 HR439_3 hx432_0 hx432_1 hx432_2 hx432_3 hx439_0 hx439_1 hx439_2 hx439_3 hHeld ⊢
       refine pure_ (i := 0) (N := some 18) (v := ?_) (a' := ?_) #[true, false, false, false, false, false, false, false, false, false, false, false] rfl rfl (any_of HT_.out (by kernel_rfl)) (fun _ _ _ h => h) (Or.inl ⟨by rfl, ?_⟩) ?_ ?_
       rotate_left
       ·intro w'
        go_simp
        with_reducible rfl
       rotate_left
       ·simp only [Act.put, List.setIfInBounds_toArray, List.set_cons_zero, List.set_cons_succ, i64_w, i32_w]
        rfl
       refine pure_ (i := 1) (N := some 19) (v := ?_) (a' := ?_) #[true, true, false, false, false, false, false, false, false, false, false, false] rfl rfl (any_of HT_.out (by kernel_rfl)) (fun _ _ _ h => h) (Or.inl ⟨by rfl, ?_⟩) ?_ ?_
       rotate_left
       ·intro w'
        go_simp
        with_reducible rfl
       rotate_left
       ·simp only [Act.put, List.setIfInBounds_toArray, List.set_cons_zero, List.set_cons_succ, i64_w, i32_w]
        rfl
       refine pure_ (i := 2) (N := some 20) (v := ?_) (a' := ?_) #[true, true, true, false, false, false, false, false, false, false, false, false] rfl rfl (any_of HT_.out (by kernel_rfl)) (fun _ _ _ h => h) (Or.inl ⟨by rfl, ?_⟩) ?_ ?_
       rotate_left
       ·intro w'
        go_simp
        with_reducible rfl
       rotate_left
       ·simp only [Act.put, List.setIfInBounds_toArray, List.set_cons_zero, List.set_cons_succ, i64_w, i32_w]
        rfl
       refine pure_ (i := 5) (N := some 23) (v := ?_) (a' := ?_) #[true, true, true, false, false, true, false, false, false, false, false, false] rfl rfl (any_of HT_.out (by kernel_rfl)) (fun _ _ _ h => h) (Or.inl ⟨by rfl, ?_⟩) ?_ ?_
       rotate_left
       ·intro w'
        go_simp
        with_reducible rfl
       rotate_left
       ·simp only [Act.put, List.setIfInBounds_toArray, List.set_cons_zero, List.set_cons_succ, i64_w, i32_w]
        rfl
       refine pure_ (i := 6) (N := some 24) (v := ?_) (a' := ?_) #[true, true, true, false, false, true, true, false, false, false, false, false] rfl rfl (any_of HT_.out (by kernel_rfl)) (fun _ _ _ h => h) (Or.inl ⟨by rfl, ?_⟩) ?_ ?_
       rotate_left
       ·intro w'
        go_simp
        with_reducible rfl
       rotate_left
       ·simp only [Act.put, List.setIfInBounds_toArray, List.set_cons_zero, List.set_cons_succ, i64_w, i32_w]
        rfl
       refine pure_ (i := 7) (N := some 25) (v := ?_) (a' := ?_) #[true, true, true, false, false, true, true, true, false, false, false, false] rfl rfl (any_of HT_.out (by kernel_rfl)) (fun _ _ _ h => h) (Or.inl ⟨by rfl, ?_⟩) ?_ ?_
       rotate_left
       ·intro w'
        go_simp
        with_reducible rfl
       rotate_left
       ·simp only [Act.put, List.setIfInBounds_toArray, List.set_cons_zero, List.set_cons_succ, i64_w, i32_w]
        rfl
       refine take_ (i := 3) (N := some 21) (v := ?_) (a' := ?_) #[true, true, true, true, false, true, true, true, false, false, false, false] rfl rfl (take_ofW HT_.out HW_.out (by kernel_rfl)) (fun _ _ _ h => h) (Or.inl ⟨by rfl, ?_⟩) hHeld ?_ ?_
       rotate_left
       ·rintro w' ⟨s0, s1, s2, s3, s4, s5, s6, s7⟩
        go_simp
        with_reducible rfl
       rotate_left
       ·simp only [Act.put, List.setIfInBounds_toArray, List.set_cons_zero, List.set_cons_succ, i64_w, i32_w]
        rfl
       refine take_ (i := 8) (N := some 26) (v := ?_) (a' := ?_) #[true, true, true, true, false, true, true, true, true, false, false, false] rfl rfl (take_ofW HT_.out HW_.out (by kernel_rfl)) (fun _ _ _ h => h) (Or.inl ⟨by rfl, ?_⟩) hHeld ?_ ?_
       rotate_left
       ·rintro w' ⟨s0, s1, s2, s3, s4, s5, s6, s7⟩
        go_simp
        with_reducible rfl
       rotate_left
       ·simp only [Act.put, List.setIfInBounds_toArray, List.set_cons_zero, List.set_cons_succ, i64_w, i32_w]
        rfl
       refine one_ (i := 4) (N := some 22) #[true, true, true, true, true, true, true, true, true, false, false, false] rfl rfl (one_of HT_.out (by kernel_rfl)) (by decide) (fun K hK => ?_)
       refine goes_ Try.func39 (by kernel_rfl) rfl #[.agg #[.string ((rd_T61 l0 x5_1).f0), .int .i64 ((rd_T61 l0 x5_1).f1), .int .i64 ((rd_T61 l0 x5_1).f2), .slice A432_3 ((rd_T61 l0 x5_1).f3).length c432_3]] (by rfl) rfl rfl (by (try simp only [List.map_toArray, List.map_cons, List.map_nil]); first | done | rfl | (simp only [List.length_drop, List.length_take]; rfl)) ?_
       with_reducible refine (aumbryref16_put.calls ((rd_T61 l0 x5_1).f0) ((rd_T61 l0 x5_1).f1) ((rd_T61 l0 x5_1).f2) (fun k_ => k_ < w.heap.size) _ _ ((rd_T61 l0 x5_1).f3) t433 t434 t435 t436 _ ?side1 A6.out).mono ?_
       (case side1 => exact Kd.V_mk HC432_3.out (Kd.F_below (Kd.C_F (Kd.heap_int .i64) HR432_3.out) (by repeat (first | (with_reducible first | exact HB.out | apply below_alloc | apply pw_below_drewN | apply below_drew1) | exact HB.out))))
       rintro e w12 ⟨v437, rfl, ho0, hb⟩
       refine ⟨_, rfl, ?_⟩
       have n0_ := Aside0.mk (Kd.V_lower (Kd.V_mono (ok' := fun k_ => True) ho0 (fun k_ hk_ => trivial)) (below_size (by repeat (first | (with_reducible first | exact HB.out | apply below_alloc | apply pw_below_drewN | apply below_drew1) | exact HB.out))))
       have n1_ := Aside0.mk (below_step (by repeat (first | (with_reducible first | exact HB.out | apply below_alloc | apply pw_below_drewN | apply below_drew1) | exact HB.out)) hb)
       clear HB
       have HO438 := n0_
       have HB := n1_
       clear n0_ n1_
       (try clear hb)
       (try clear hb2)
       (try clear hk)
       (try clear hi)
       (try clear ho0)
       refine hK.out _ _ ⟨((HB.out.cell (World.block_lt_of_cell? w _ hw432_0)).trans hw432_0), ((HB.out.cell (World.block_lt_of_cell? w _ hw432_1)).trans hw432_1), ((HB.out.cell (World.block_lt_of_cell? w _ hw432_2)).trans hw432_2), ((HB.out.cell (World.block_lt_of_cell? w _ hw432_3)).trans hw432_3), ((HB.out.cell (World.block_lt_of_cell? w _ hw439_0)).trans hw439_0), ((HB.out.cell (World.block_lt_of_cell? w _ hw439_1)).trans hw439_1), ((HB.out.cell (World.block_lt_of_cell? w _ hw439_2)).trans hw439_2), ((HB.out.cell (World.block_lt_of_cell? w _ hw439_3)).trans hw439_3)⟩ (fun hHeld => ?_)
       clear hK K
       refine norm_ (a' := ?_) ?_ ?_
       rotate_left
       ·show Act.put _ (some 22) _ = _
        simp only [Act.put, List.setIfInBounds_toArray, List.set_cons_zero, List.set_cons_succ, i64_w, i32_w]
        rfl
       refine one_ (i := 9) (N := some 27) #[true, true, true, true, true, true, true, true, true, true, false, false] rfl rfl (one_of HT_.out (by kernel_rfl)) (by decide) (fun K hK => ?_)
       refine goes_ Try.func39 (by kernel_rfl) rfl #[.agg #[.string ((rd_T61 l1 x5_1).f0), .int .i64 ((rd_T61 l1 x5_1).f1), .int .i64 ((rd_T61 l1 x5_1).f2), .slice A439_3 ((rd_T61 l1 x5_1).f3).length c439_3]] (by rfl) rfl rfl (by (try simp only [List.map_toArray, List.map_cons, List.map_nil]); first | done | rfl | (simp only [List.length_drop, List.length_take]; rfl)) ?_
       with_reducible refine (aumbryref16_put.calls ((rd_T61 l1 x5_1).f0) ((rd_T61 l1 x5_1).f1) ((rd_T61 l1 x5_1).f2) (fun k_ => k_ < w.heap.size) _ _ ((rd_T61 l1 x5_1).f3) t440 t441 t442 t443 _ ?side1 A8.out).mono ?_
       (case side1 => exact Kd.V_mk HC439_3.out (Kd.F_below (Kd.C_F (Kd.heap_int .i64) HR439_3.out) (by repeat (first | (with_reducible first | exact HB.out | apply below_alloc | apply pw_below_drewN | apply below_drew1) | exact HB.out))))
       rintro e w13 ⟨v444, rfl, ho0, hb⟩
       refine ⟨_, rfl, ?_⟩
       have n0_ := Aside0.mk (Kd.V_below (by (with_reducible repeat (first | apply Kd.V_alloc | apply Kd.V_drewN | apply Kd.V_drew)); exact HO438.out) hb)
       have n1_ := Aside0.mk (Kd.V_lower (Kd.V_mono (ok' := fun k_ => True) ho0 (fun k_ hk_ => trivial)) (below_size (by repeat (first | (with_reducible first | exact HB.out | apply below_alloc | apply pw_below_drewN | apply below_drew1) | exact HB.out))))
       have n2_ := Aside0.mk (below_step (by repeat (first | (with_reducible first | exact HB.out | apply below_alloc | apply pw_below_drewN | apply below_drew1) | exact HB.out)) hb)
       clear HO438
       clear HB
       have HO438 := n0_
       have HO445 := n1_
       have HB := n2_
       clear n0_ n1_ n2_
       (try clear hb)
       (try clear hb2)
       (try clear hk)
       (try clear hi)
       (try clear ho0)
       obtain ⟨Ao14, co14, eo14⟩ := Kd.V_slice HO438.out
       (first | subst eo14 | (injection eo14 with f1_ f2_ f3_; have f4_ := f1_.symm; have f5_ := f3_.symm; clear f1_ f2_ f3_; subst f4_; subst f5_))
       obtain ⟨Ao15, co15, eo15⟩ := Kd.V_slice HO445.out
       (first | subst eo15 | (injection eo15 with f1_ f2_ f3_; have f4_ := f1_.symm; have f5_ := f3_.symm; clear f1_ f2_ f3_; subst f4_; subst f5_))
       refine hK.out _ _ ⟨((HB.out.cell (World.block_lt_of_cell? w _ hw432_0)).trans hw432_0), ((HB.out.cell (World.block_lt_of_cell? w _ hw432_1)).trans hw432_1), ((HB.out.cell (World.block_lt_of_cell? w _ hw432_2)).trans hw432_2), ((HB.out.cell (World.block_lt_of_cell? w _ hw432_3)).trans hw432_3), ((HB.out.cell (World.block_lt_of_cell? w _ hw439_0)).trans hw439_0), ((HB.out.cell (World.block_lt_of_cell? w _ hw439_1)).trans hw439_1), ((HB.out.cell (World.block_lt_of_cell? w _ hw439_2)).trans hw439_2), ((HB.out.cell (World.block_lt_of_cell? w _ hw439_3)).trans hw439_3)⟩ (fun hHeld => ?_)
       clear hK K
       refine norm_ (a' := ?_) ?_ ?_
       rotate_left
       ·show Act.put _ (some 27) _ = _
        simp only [Act.put, List.setIfInBounds_toArray, List.set_cons_zero, List.set_cons_succ, i64_w, i32_w]
        rfl
       refine one_ (i := 10) (N := some 28) #[true, true, true, true, true, true, true, true, true, true, true, false] rfl rfl (one_of HT_.out (by kernel_rfl)) (by decide) (fun K hK => ?_)
       refine goes_ Try.func16 (by kernel_rfl) rfl #[.agg #[.int .i64 t433, .string t434, .int .i64 t435, .slice Ao14 t436.length co14], .agg #[.int .i64 t440, .string t441, .int .i64 t442, .slice Ao15 t443.length co15]] (by rfl) rfl rfl (by (try simp only [List.map_toArray, List.map_cons, List.map_nil]); first | done | rfl | (simp only [List.length_drop, List.length_take]; rfl)) ?_
       with_reducible refine (aumbryref16_Same.calls k1 t433 t434 t435 _ _ t436 t440 t441 t442 _ _ t443 t446 _ ?side1 ?side2 ?side3 ?side4 A9.out).mono ?_
       (case side1 => repeat (first | exact (Kd.V_reads' HO438.out).2.2 | (with_reducible refine Kd.C_alloc ?_ _) | (with_reducible refine Kd.C_drewN ?_ _) | (with_reducible refine Kd.C_drew ?_)))
       (case side2 => exact (Kd.V_reads' HO438.out).2.1)
       (case side3 => repeat (first | exact (Kd.V_reads' HO445.out).2.2 | (with_reducible refine Kd.C_alloc ?_ _) | (with_reducible refine Kd.C_drewN ?_ _) | (with_reducible refine Kd.C_drew ?_)))
       (case side4 => exact (Kd.V_reads' HO445.out).2.1)
       rintro e w16 ⟨rfl, hb⟩
       refine ⟨_, rfl, ?_⟩
       have n0_ := Aside0.mk (Kd.V_below (by (with_reducible repeat (first | apply Kd.V_alloc | apply Kd.V_drewN | apply Kd.V_drew)); exact HO438.out) hb)
       have n1_ := Aside0.mk (Kd.V_below (by (with_reducible repeat (first | apply Kd.V_alloc | apply Kd.V_drewN | apply Kd.V_drew)); exact HO445.out) hb)
       have n2_ := Aside0.mk (below_step (by repeat (first | (with_reducible first | exact HB.out | apply below_alloc | apply pw_below_drewN | apply below_drew1) | exact HB.out)) hb)
       clear HO438
       clear HO445
       clear HB
       have HO438 := n0_
       have HO445 := n1_
       have HB := n2_
       clear n0_ n1_ n2_
       (try clear hb)
       (try clear hb2)
       (try clear hk)
       (try clear hi)
       refine hK.out _ _ ⟨((HB.out.cell (World.block_lt_of_cell? w _ hw432_0)).trans hw432_0), ((HB.out.cell (World.block_lt_of_cell? w _ hw432_1)).trans hw432_1), ((HB.out.cell (World.block_lt_of_cell? w _ hw432_2)).trans hw432_2), ((HB.out.cell (World.block_lt_of_cell? w _ hw432_3)).trans hw432_3), ((HB.out.cell (World.block_lt_of_cell? w _ hw439_0)).trans hw439_0), ((HB.out.cell (World.block_lt_of_cell? w _ hw439_1)).trans hw439_1), ((HB.out.cell (World.block_lt_of_cell? w _ hw439_2)).trans hw439_2), ((HB.out.cell (World.block_lt_of_cell? w _ hw439_3)).trans hw439_3)⟩ (fun hHeld => ?_)
       clear hK K
       refine norm_ (a' := ?_) ?_ ?_
       rotate_left
       ·show Act.put _ (some 28) _ = _
        simp only [Act.put, List.setIfInBounds_toArray, List.set_cons_zero, List.set_cons_succ, i64_w, i32_w]
        rfl
       refine pure_ (i := 11) (N := some 6) (v := ?_) (a' := ?_) #[true, true, true, true, true, true, true, true, true, true, true, true] rfl rfl (any_of HT_.out (by kernel_rfl)) (fun _ _ _ h => h) (Or.inl ⟨by rfl, ?_⟩) ?_ ?_
       rotate_left
       ·intro w'
        go_simp
        with_reducible rfl
       rotate_left
       ·simp only [Act.put, List.setIfInBounds_toArray, List.set_cons_zero, List.set_cons_succ, i64_w, i32_w]
        rfl
       refine done_ (done_of HT_.out (by kernel_rfl)) ?_
       go_upto_region 7 with (fail)
       go_cut [43] (fun v43 wc => ∃ (kq : Nat) (x43_9 : Bool), v43 = .bool x43_9 ∧ Aside0 (aumbryref16_Objects.j1 kq l0 l1 x5_1 x43_9 = some r) ∧ Aside0 (kq ≤ k1) ∧ Aside0 (Below w.heap.size w wc))
       case first =>
        have H := HC10.out
        clear HC10
        by_cases c17 : t446 = true
        ·subst c17
         have H1 : (aumbryref16_Objects.j1 k1 l0 l1 x5_1 (((rd_T61 l0 x5_1).f2) != ((rd_T61 l1 x5_1).f2))) = some r := by rw [if_pos rfl] at H; exact H
         clear H
         have H := H1
         clear H1
         have H' := Aside0.mk H
         clear H
         try go_wp2
         have n0_ := Aside0.mk (Kd.V_drew HO438.out)
         have n1_ := Aside0.mk (Kd.V_drew HO445.out)
         have n2_ := Aside0.mk (below_drew1 HB.out)
         clear HO438
         clear HO445
         clear HB
         have HO438 := n0_
         have HO445 := n1_
         have HB := n2_
         clear n0_ n1_ n2_
         have p447 : 0 ≤ (x5_1 : Int) := of_decide_eq_true (by first | (with_reducible assumption) | assumption)
         have q447 : x5_1 < (l0.length : Int) := of_decide_eq_true (by first | (with_reducible assumption) | assumption)
         obtain ⟨ad447, A447_3, c447_3, e447, hx447_0, hx447_1, hx447_2, hx447_3, hl447_3, hi447_3⟩ := at_T61 HR0.out x5_1 p447 q447
         have hw447_3 := hx447_3
         have hw447_2 := hx447_2
         have hw447_1 := hx447_1
         have hw447_0 := hx447_0
         obtain rfl : ad432 = ad447 := (by injection e447)
         replace hx447_0 := (HB.out.cell (World.block_lt_of_cell? w _ hx447_0)).trans hx447_0
         replace hx447_1 := (HB.out.cell (World.block_lt_of_cell? w _ hx447_1)).trans hx447_1
         replace hx447_2 := (HB.out.cell (World.block_lt_of_cell? w _ hx447_2)).trans hx447_2
         replace hx447_3 := (HB.out.cell (World.block_lt_of_cell? w _ hx447_3)).trans hx447_3
         have HR447_3 := Aside0.mk hi447_3
         have HC447_3 := Aside0.mk hl447_3
         clear hi447_3 hl447_3
         replace p447 := eq_true p447
         replace q447 := eq_true q447
         have p448 : 0 ≤ (x5_1 : Int) := of_decide_eq_true (by first | (with_reducible assumption) | assumption)
         have q448 : x5_1 < (l1.length : Int) := of_decide_eq_true (by first | (with_reducible assumption) | assumption)
         obtain ⟨ad448, A448_3, c448_3, e448, hx448_0, hx448_1, hx448_2, hx448_3, hl448_3, hi448_3⟩ := at_T61 HR1.out x5_1 p448 q448
         have hw448_3 := hx448_3
         have hw448_2 := hx448_2
         have hw448_1 := hx448_1
         have hw448_0 := hx448_0
         obtain rfl : ad439 = ad448 := (by injection e448)
         replace hx448_0 := (HB.out.cell (World.block_lt_of_cell? w _ hx448_0)).trans hx448_0
         replace hx448_1 := (HB.out.cell (World.block_lt_of_cell? w _ hx448_1)).trans hx448_1
         replace hx448_2 := (HB.out.cell (World.block_lt_of_cell? w _ hx448_2)).trans hx448_2
         replace hx448_3 := (HB.out.cell (World.block_lt_of_cell? w _ hx448_3)).trans hx448_3
         have HR448_3 := Aside0.mk hi448_3
         have HC448_3 := Aside0.mk hl448_3
         clear hi448_3 hl448_3
         replace p448 := eq_true p448
         replace q448 := eq_true q448
         refine start_ (n := 15) (S := fun w' => w'.cell? (ad432.add ((x5_1).toNat * 4)) = some (.string ((rd_T61 l0 x5_1).f0)) ∧ w'.cell? ⟨(ad432.add ((x5_1).toNat * 4)).block, (ad432.add ((x5_1).toNat * 4)).off + 1, none⟩ = some (.int .i64 ((rd_T61 l0 x5_1).f1)) ∧ w'.cell? ⟨(ad432.add ((x5_1).toNat * 4)).block, (ad432.add ((x5_1).toNat * 4)).off + 2, none⟩ = some (.int .i64 ((rd_T61 l0 x5_1).f2)) ∧ w'.cell? ⟨(ad432.add ((x5_1).toNat * 4)).block, (ad432.add ((x5_1).toNat * 4)).off + 3, none⟩ = some (.slice A447_3 ((rd_T61 l0 x5_1).f3).length c447_3) ∧ w'.cell? (ad439.add ((x5_1).toNat * 4)) = some (.string ((rd_T61 l1 x5_1).f0)) ∧ w'.cell? ⟨(ad439.add ((x5_1).toNat * 4)).block, (ad439.add ((x5_1).toNat * 4)).off + 1, none⟩ = some (.int .i64 ((rd_T61 l1 x5_1).f1)) ∧ w'.cell? ⟨(ad439.add ((x5_1).toNat * 4)).block, (ad439.add ((x5_1).toNat * 4)).off + 2, none⟩ = some (.int .i64 ((rd_T61 l1 x5_1).f2)) ∧ w'.cell? ⟨(ad439.add ((x5_1).toNat * 4)).block, (ad439.add ((x5_1).toNat * 4)).off + 3, none⟩ = some (.slice A448_3 ((rd_T61 l1 x5_1).f3).length c448_3)) (ds := []) #[false, false, false, false, false, false, false, false, false, false, false, false, false, false, false] (by kernel_rfl) rfl rfl ⟨((HB.out.cell (World.block_lt_of_cell? w _ hw447_0)).trans hw447_0), ((HB.out.cell (World.block_lt_of_cell? w _ hw447_1)).trans hw447_1), ((HB.out.cell (World.block_lt_of_cell? w _ hw447_2)).trans hw447_2), ((HB.out.cell (World.block_lt_of_cell? w _ hw447_3)).trans hw447_3), ((HB.out.cell (World.block_lt_of_cell? w _ hw448_0)).trans hw448_0), ((HB.out.cell (World.block_lt_of_cell? w _ hw448_1)).trans hw448_1), ((HB.out.cell (World.block_lt_of_cell? w _ hw448_2)).trans hw448_2), ((HB.out.cell (World.block_lt_of_cell? w _ hw448_3)).trans hw448_3)⟩ (fun hHeld => ?_); refine with_tabW aumbryref16_Objects.tab7 aumbryref16_Objects.bits7 (fun HT_ HW_ => ?_)
         generalize w16.drew = w18 at HO438 HO445 HB HR447_3 HR448_3 hx447_0 hx447_1 hx447_2 hx447_3 hx448_0 hx448_1 hx448_2 hx448_3 hHeld ⊢
         refine pure_ (i := 0) (N := some 29) (v := ?_) (a' := ?_) #[true, false, false, false, false, false, false, false, false, false, false, false, false, false, false] rfl rfl (any_of HT_.out (by kernel_rfl)) (fun _ _ _ h => h) (Or.inl ⟨by rfl, ?_⟩) ?_ ?_
         rotate_left
         ·intro w'
          go_simp
          with_reducible rfl
         rotate_left
         ·simp only [Act.put, List.setIfInBounds_toArray, List.set_cons_zero, List.set_cons_succ, i64_w, i32_w]
          rfl
         refine pure_ (i := 1) (N := some 30) (v := ?_) (a' := ?_) #[true, true, false, false, false, false, false, false, false, false, false, false, false, false, false] rfl rfl (any_of HT_.out (by kernel_rfl)) (fun _ _ _ h => h) (Or.inl ⟨by rfl, ?_⟩) ?_ ?_
         rotate_left
         ·intro w'
          go_simp
          with_reducible rfl
         rotate_left
         ·simp only [Act.put, List.setIfInBounds_toArray, List.set_cons_zero, List.set_cons_succ, i64_w, i32_w]
          rfl
         refine pure_ (i := 2) (N := some 31) (v := ?_) (a' := ?_) #[true, true, true, false, false, false, false, false, false, false, false, false, false, false, false] rfl rfl (any_of HT_.out (by kernel_rfl)) (fun _ _ _ h => h) (Or.inl ⟨by rfl, ?_⟩) ?_ ?_
         rotate_left
         ·intro w'
          go_simp
          with_reducible rfl
         rotate_left
         ·simp only [Act.put, List.setIfInBounds_toArray, List.set_cons_zero, List.set_cons_succ, i64_w, i32_w]
          rfl
         refine pure_ (i := 3) (N := some 32) (v := ?_) (a' := ?_) #[true, true, true, true, false, false, false, false, false, false, false, false, false, false, false] rfl rfl (any_of HT_.out (by kernel_rfl)) (fun _ _ _ h => h) (Or.inl ⟨by rfl, ?_⟩) ?_ ?_
         rotate_left
         ·intro w'
          go_simp
          with_reducible rfl
         rotate_left
         ·simp only [Act.put, List.setIfInBounds_toArray, List.set_cons_zero, List.set_cons_succ, i64_w, i32_w]
          rfl
         refine pure_ (i := 4) (N := some 33) (v := ?_) (a' := ?_) #[true, true, true, true, true, false, false, false, false, false, false, false, false, false, false] rfl rfl (any_of HT_.out (by kernel_rfl)) (fun _ _ _ h => h) (Or.inl ⟨by rfl, ?_⟩) ?_ ?_
         rotate_left
         ·intro w'
          go_simp
          with_reducible rfl
         rotate_left
         ·simp only [Act.put, List.setIfInBounds_toArray, List.set_cons_zero, List.set_cons_succ, i64_w, i32_w]
          rfl
         refine pure_ (i := 5) (N := some 34) (v := ?_) (a' := ?_) #[true, true, true, true, true, true, false, false, false, false, false, false, false, false, false] rfl rfl (any_of HT_.out (by kernel_rfl)) (fun _ _ _ h => h) (Or.inl ⟨by rfl, ?_⟩) ?_ ?_
         rotate_left
         ·intro w'
          go_simp
          with_reducible rfl
         rotate_left
         ·simp only [Act.put, List.setIfInBounds_toArray, List.set_cons_zero, List.set_cons_succ, i64_w, i32_w]
          rfl
         refine pure_ (i := 6) (N := some 35) (v := ?_) (a' := ?_) #[true, true, true, true, true, true, true, false, false, false, false, false, false, false, false] rfl rfl (any_of HT_.out (by kernel_rfl)) (fun _ _ _ h => h) (Or.inl ⟨by rfl, ?_⟩) ?_ ?_
         rotate_left
         ·intro w'
          go_simp
          with_reducible rfl
         rotate_left
         ·simp only [Act.put, List.setIfInBounds_toArray, List.set_cons_zero, List.set_cons_succ, i64_w, i32_w]
          rfl
         refine pure_ (i := 8) (N := some 37) (v := ?_) (a' := ?_) #[true, true, true, true, true, true, true, false, true, false, false, false, false, false, false] rfl rfl (any_of HT_.out (by kernel_rfl)) (fun _ _ _ h => h) (Or.inl ⟨by rfl, ?_⟩) ?_ ?_
         rotate_left
         ·intro w'
          go_simp
          with_reducible rfl
         rotate_left
         ·simp only [Act.put, List.setIfInBounds_toArray, List.set_cons_zero, List.set_cons_succ, i64_w, i32_w]
          rfl
         refine pure_ (i := 9) (N := some 38) (v := ?_) (a' := ?_) #[true, true, true, true, true, true, true, false, true, true, false, false, false, false, false] rfl rfl (any_of HT_.out (by kernel_rfl)) (fun _ _ _ h => h) (Or.inl ⟨by rfl, ?_⟩) ?_ ?_
         rotate_left
         ·intro w'
          go_simp
          with_reducible rfl
         rotate_left
         ·simp only [Act.put, List.setIfInBounds_toArray, List.set_cons_zero, List.set_cons_succ, i64_w, i32_w]
          rfl
         refine pure_ (i := 10) (N := some 39) (v := ?_) (a' := ?_) #[true, true, true, true, true, true, true, false, true, true, true, false, false, false, false] rfl rfl (any_of HT_.out (by kernel_rfl)) (fun _ _ _ h => h) (Or.inl ⟨by rfl, ?_⟩) ?_ ?_
         rotate_left
         ·intro w'
          go_simp
          with_reducible rfl
         rotate_left
         ·simp only [Act.put, List.setIfInBounds_toArray, List.set_cons_zero, List.set_cons_succ, i64_w, i32_w]
          rfl
         refine pure_ (i := 11) (N := some 40) (v := ?_) (a' := ?_) #[true, true, true, true, true, true, true, false, true, true, true, true, false, false, false] rfl rfl (any_of HT_.out (by kernel_rfl)) (fun _ _ _ h => h) (Or.inl ⟨by rfl, ?_⟩) ?_ ?_
         rotate_left
         ·intro w'
          go_simp
          with_reducible rfl
         rotate_left
         ·simp only [Act.put, List.setIfInBounds_toArray, List.set_cons_zero, List.set_cons_succ, i64_w, i32_w]
          rfl
         refine take_ (i := 7) (N := some 36) (v := ?_) (a' := ?_) #[true, true, true, true, true, true, true, true, true, true, true, true, false, false, false] rfl rfl (take_ofW HT_.out HW_.out (by kernel_rfl)) (fun _ _ _ h => h) (Or.inl ⟨by rfl, ?_⟩) hHeld ?_ ?_
         rotate_left
         ·rintro w' ⟨s0, s1, s2, s3, s4, s5, s6, s7⟩
          go_simp
          with_reducible rfl
         rotate_left
         ·simp only [Act.put, List.setIfInBounds_toArray, List.set_cons_zero, List.set_cons_succ, i64_w, i32_w]
          rfl
         refine take_ (i := 12) (N := some 41) (v := ?_) (a' := ?_) #[true, true, true, true, true, true, true, true, true, true, true, true, true, false, false] rfl rfl (take_ofW HT_.out HW_.out (by kernel_rfl)) (fun _ _ _ h => h) (Or.inl ⟨by rfl, ?_⟩) hHeld ?_ ?_
         rotate_left
         ·rintro w' ⟨s0, s1, s2, s3, s4, s5, s6, s7⟩
          go_simp
          with_reducible rfl
         rotate_left
         ·simp only [Act.put, List.setIfInBounds_toArray, List.set_cons_zero, List.set_cons_succ, i64_w, i32_w]
          rfl
         refine pure_ (i := 13) (N := some 42) (v := ?_) (a' := ?_) #[true, true, true, true, true, true, true, true, true, true, true, true, true, true, false] rfl rfl (any_of HT_.out (by kernel_rfl)) (fun _ _ _ h => h) (Or.inl ⟨by rfl, ?_⟩) ?_ ?_
         rotate_left
         ·intro w'
          go_simp
          with_reducible rfl
         rotate_left
         ·simp only [Act.put, List.setIfInBounds_toArray, List.set_cons_zero, List.set_cons_succ, i64_w, i32_w]
          rfl
         refine pure_ (i := 14) (N := some 43) (v := ?_) (a' := ?_) #[true, true, true, true, true, true, true, true, true, true, true, true, true, true, true] rfl rfl (any_of HT_.out (by kernel_rfl)) (fun _ _ _ h => h) (Or.inl ⟨by rfl, ?_⟩) ?_ ?_
         rotate_left
         ·intro w'
          go_simp
          with_reducible rfl
         rotate_left
         ·simp only [Act.put, List.setIfInBounds_toArray, List.set_cons_zero, List.set_cons_succ, i64_w, i32_w]
          rfl
         refine done_ (done_of HT_.out (by kernel_rfl)) ?_
         try go_wp2
         go_meet
         case rel => exact ⟨_, ((((rd_T61 l0 x5_1).f2) != ((rd_T61 l1 x5_1).f2))), (by first | rfl | (simp; done) | (simp [*]; done)), H', ⟨by have := HK1.out; first | omega | exact Nat.le_refl _⟩, ⟨by repeat (first | (with_reducible first | exact HB.out | apply below_alloc | apply pw_below_drewN | apply below_drew1) | exact HB.out)⟩⟩
        ·replace c17 := Bool.eq_false_iff.mpr c17
         subst c17
         have H1 : (aumbryref16_Objects.j1 k1 l0 l1 x5_1 true) = some r := by rw [if_neg (show ¬ (false = true) by decide)] at H; exact H
         clear H
         have H := H1
         clear H1
         have H' := Aside0.mk H
         clear H
         try go_wp2
         have n0_ := Aside0.mk (Kd.V_drew HO438.out)
         have n1_ := Aside0.mk (Kd.V_drew HO445.out)
         have n2_ := Aside0.mk (below_drew1 HB.out)
         clear HO438
         clear HO445
         clear HB
         have HO438 := n0_
         have HO445 := n1_
         have HB := n2_
         clear n0_ n1_ n2_
         refine start_ (n := 15) (S := fun w' => True) (ds := []) #[false, false, false, false, false, false, false, false, false, false, false, false, false, false, false] (by kernel_rfl) rfl rfl trivial (fun hHeld => ?_); refine with_tabW aumbryref16_Objects.tab7 aumbryref16_Objects.bits7 (fun HT_ HW_ => ?_)
         generalize w16.drew = w19 at HO438 HO445 HB hHeld ⊢
         refine pure_ (i := 0) (N := some 29) (v := ?_) (a' := ?_) #[true, false, false, false, false, false, false, false, false, false, false, false, false, false, false] rfl rfl (any_of HT_.out (by kernel_rfl)) (fun _ _ _ h => h) (Or.inl ⟨by rfl, ?_⟩) ?_ ?_
         rotate_left
         ·intro w'
          go_simp
          with_reducible rfl
         rotate_left
         ·simp only [Act.put, List.setIfInBounds_toArray, List.set_cons_zero, List.set_cons_succ, i64_w, i32_w]
          rfl
         refine pure_ (i := 1) (N := some 30) (v := ?_) (a' := ?_) #[true, true, false, false, false, false, false, false, false, false, false, false, false, false, false] rfl rfl (any_of HT_.out (by kernel_rfl)) (fun _ _ _ h => h) (Or.inl ⟨by rfl, ?_⟩) ?_ ?_
         rotate_left
         ·intro w'
          go_simp
          with_reducible rfl
         rotate_left
         ·simp only [Act.put, List.setIfInBounds_toArray, List.set_cons_zero, List.set_cons_succ, i64_w, i32_w]
          rfl
         refine pure_ (i := 2) (N := some 31) (v := ?_) (a' := ?_) #[true, true, true, false, false, false, false, false, false, false, false, false, false, false, false] rfl rfl (any_of HT_.out (by kernel_rfl)) (fun _ _ _ h => h) (Or.inl ⟨by rfl, ?_⟩) ?_ ?_
         rotate_left
         ·intro w'
          go_simp
          with_reducible rfl
         rotate_left
         ·simp only [Act.put, List.setIfInBounds_toArray, List.set_cons_zero, List.set_cons_succ, i64_w, i32_w]
          rfl
         refine pure_ (i := 3) (N := some 32) (v := undef) (a' := ?_) #[true, true, true, true, false, false, false, false, false, false, false, false, false, false, false] rfl rfl (any_of HT_.out (by kernel_rfl)) (fun _ _ _ h => h) (Or.inr ⟨by rfl, rfl⟩) ?_ ?_
         rotate_left
         ·simp only [Act.put, List.setIfInBounds_toArray, List.set_cons_zero, List.set_cons_succ, i64_w, i32_w]
          rfl
         refine pure_ (i := 4) (N := some 33) (v := undef) (a' := ?_) #[true, true, true, true, true, false, false, false, false, false, false, false, false, false, false] rfl rfl (any_of HT_.out (by kernel_rfl)) (fun _ _ _ h => h) (Or.inr ⟨by rfl, rfl⟩) ?_ ?_
         rotate_left
         ·simp only [Act.put, List.setIfInBounds_toArray, List.set_cons_zero, List.set_cons_succ, i64_w, i32_w]
          rfl
         refine pure_ (i := 5) (N := some 34) (v := undef) (a' := ?_) #[true, true, true, true, true, true, false, false, false, false, false, false, false, false, false] rfl rfl (any_of HT_.out (by kernel_rfl)) (fun _ _ _ h => h) (Or.inr ⟨by rfl, rfl⟩) ?_ ?_
         rotate_left
         ·simp only [Act.put, List.setIfInBounds_toArray, List.set_cons_zero, List.set_cons_succ, i64_w, i32_w]
          rfl
         refine pure_ (i := 6) (N := some 35) (v := undef) (a' := ?_) #[true, true, true, true, true, true, true, false, false, false, false, false, false, false, false] rfl rfl (any_of HT_.out (by kernel_rfl)) (fun _ _ _ h => h) (Or.inr ⟨by rfl, rfl⟩) ?_ ?_
         rotate_left
         ·simp only [Act.put, List.setIfInBounds_toArray, List.set_cons_zero, List.set_cons_succ, i64_w, i32_w]
          rfl
         refine pure_ (i := 7) (N := some 36) (v := undef) (a' := ?_) #[true, true, true, true, true, true, true, true, false, false, false, false, false, false, false] rfl rfl (any_of HT_.out (by kernel_rfl)) (fun _ _ _ h => h) (Or.inr ⟨by rfl, rfl⟩) ?_ ?_
         rotate_left
         ·simp only [Act.put, List.setIfInBounds_toArray, List.set_cons_zero, List.set_cons_succ, i64_w, i32_w]
          rfl
         refine pure_ (i := 8) (N := some 37) (v := undef) (a' := ?_) #[true, true, true, true, true, true, true, true, true, false, false, false, false, false, false] rfl rfl (any_of HT_.out (by kernel_rfl)) (fun _ _ _ h => h) (Or.inr ⟨by rfl, rfl⟩) ?_ ?_
         rotate_left
         ·simp only [Act.put, List.setIfInBounds_toArray, List.set_cons_zero, List.set_cons_succ, i64_w, i32_w]
          rfl
         refine pure_ (i := 9) (N := some 38) (v := undef) (a' := ?_) #[true, true, true, true, true, true, true, true, true, true, false, false, false, false, false] rfl rfl (any_of HT_.out (by kernel_rfl)) (fun _ _ _ h => h) (Or.inr ⟨by rfl, rfl⟩) ?_ ?_
         rotate_left
         ·simp only [Act.put, List.setIfInBounds_toArray, List.set_cons_zero, List.set_cons_succ, i64_w, i32_w]
          rfl
         refine pure_ (i := 10) (N := some 39) (v := undef) (a' := ?_) #[true, true, true, true, true, true, true, true, true, true, true, false, false, false, false] rfl rfl (any_of HT_.out (by kernel_rfl)) (fun _ _ _ h => h) (Or.inr ⟨by rfl, rfl⟩) ?_ ?_
         rotate_left
         ·simp only [Act.put, List.setIfInBounds_toArray, List.set_cons_zero, List.set_cons_succ, i64_w, i32_w]
          rfl
         refine pure_ (i := 11) (N := some 40) (v := undef) (a' := ?_) #[true, true, true, true, true, true, true, true, true, true, true, true, false, false, false] rfl rfl (any_of HT_.out (by kernel_rfl)) (fun _ _ _ h => h) (Or.inr ⟨by rfl, rfl⟩) ?_ ?_
         rotate_left
         ·simp only [Act.put, List.setIfInBounds_toArray, List.set_cons_zero, List.set_cons_succ, i64_w, i32_w]
          rfl
         refine pure_ (i := 12) (N := some 41) (v := undef) (a' := ?_) #[true, true, true, true, true, true, true, true, true, true, true, true, true, false, false] rfl rfl (any_of HT_.out (by kernel_rfl)) (fun _ _ _ h => h) (Or.inr ⟨by rfl, rfl⟩) ?_ ?_
         rotate_left
         ·simp only [Act.put, List.setIfInBounds_toArray, List.set_cons_zero, List.set_cons_succ, i64_w, i32_w]
          rfl
         refine pure_ (i := 13) (N := some 42) (v := undef) (a' := ?_) #[true, true, true, true, true, true, true, true, true, true, true, true, true, true, false] rfl rfl (any_of HT_.out (by kernel_rfl)) (fun _ _ _ h => h) (Or.inr ⟨by rfl, rfl⟩) ?_ ?_
         rotate_left
         ·simp only [Act.put, List.setIfInBounds_toArray, List.set_cons_zero, List.set_cons_succ, i64_w, i32_w]
          rfl
         refine pure_ (i := 14) (N := some 43) (v := ?_) (a' := ?_) #[true, true, true, true, true, true, true, true, true, true, true, true, true, true, true] rfl rfl (any_of HT_.out (by kernel_rfl)) (fun _ _ _ h => h) (Or.inl ⟨by rfl, ?_⟩) ?_ ?_
         rotate_left
         ·intro w'
          go_simp
          with_reducible rfl
         rotate_left
         ·simp only [Act.put, List.setIfInBounds_toArray, List.set_cons_zero, List.set_cons_succ, i64_w, i32_w]
          rfl
         refine done_ (done_of HT_.out (by kernel_rfl)) ?_
         try go_wp2
         go_meet
         case rel => exact ⟨_, (true), (by first | rfl | (simp; done) | (simp [*]; done)), H', ⟨by have := HK1.out; first | omega | exact Nat.le_refl _⟩, ⟨by repeat (first | (with_reducible first | exact HB.out | apply below_alloc | apply pw_below_drewN | apply below_drew1) | exact HB.out)⟩⟩
       case rest =>
        clear HC10
        try clear c1
        try clear c2
        try clear p2
        try clear c3
        try clear c3b0
        try clear c3b1
        try clear c3b2
        try clear c4
        try clear c4b0
        try clear p4
        try clear q4
        try clear hx4
        try clear c5
        try clear c5b0
        try clear c7
        try clear c7b0
        try clear c16
        try clear c17
        try clear hx432_0
        try clear hx432_1
        try clear hx432_2
        try clear hx432_3
        try clear hx439_0
        try clear hx439_1
        try clear hx439_2
        try clear hx439_3
        try clear hx447_0
        try clear hx447_1
        try clear hx447_2
        try clear hx447_3
        try clear hx448_0
        try clear hx448_1
        try clear hx448_2
        try clear hx448_3
        try clear p2
        try clear p432
        try clear p439
        try clear p447
        try clear p448
        try clear q432
        try clear q439
        try clear q447
        try clear q448
        obtain ⟨kq, x43_9, rfl, HA, HJ9, HB⟩ := hcut
        cases kq with
        | zero => exact absurd HA.out (by simp [aumbryref16_Objects.j1])
        | succ kj9 =>
         have H := HA.out
         clear HA
         simp only [aumbryref16_Objects.j1] at H
         by_cases c20 : x43_9 = true
         ·subst c20
          have H1 : (some false) = some r := by rw [if_pos rfl] at H; exact H
          clear H
          have H := H1
          clear H1
          obtain rfl := Option.some.inj H
          go_wp2
          go_ret
          exact ⟨by first | rfl | (simp [errW_none, errW_some] <;> rfl) | (simp [*, errW_none, errW_some] <;> rfl), by repeat (first | (with_reducible first | exact HB.out | apply below_alloc | apply pw_below_drewN | apply below_drew1) | exact HB.out)⟩
         ·replace c20 := Bool.eq_false_iff.mpr c20
          subst c20
          have H1 : (aumbryref16_Objects.l0 kj9 l0 l1 (wrap64 (x5_1 + 1))) = some r := by rw [if_neg (show ¬ (false = true) by decide)] at H; exact H
          clear H
          have H := H1
          clear H1
          have H' := Aside0.mk H
          clear H
          go_wp2
          go_roundg kj9
          case measure => have := HK1.out; have := HJ9.out; omega
          case rel => exact ⟨(wrap64 (x5_1 + 1)), (by first | rfl | (simp; done) | (simp [*]; done)), H', ⟨by have := HK1.out; have := HJ9.out; omega⟩, ⟨by repeat (first | (with_reducible first | exact HB.out | apply below_alloc | apply pw_below_drewN | apply below_drew1) | exact HB.out)⟩⟩
      ·rw [if_neg c7] at H
       exact absurd H (by simp)
     ·rw [if_neg c5] at H
      exact absurd H (by simp)
    ·rw [if_neg c4] at H
     have c4b0 : decide (x5_1 < (l0.length : Int)) = false := decide_eq_false c4
     clear c4
     obtain rfl := Option.some.inj H
     go_wp2
     go_ret
     exact ⟨by first | rfl | (simp [errW_none, errW_some] <;> rfl) | (simp [*, errW_none, errW_some] <;> rfl), by repeat (first | (with_reducible first | exact HB.out | apply below_alloc | apply pw_below_drewN | apply below_drew1) | exact HB.out)⟩
 ·rw [if_neg c3] at H
  have c3b0 : ((l0.length : Int) == (l1.length : Int)) = false := beq_eq_false_iff_ne.mpr c3
  have c3b1 : ((l0.length : Int) != (l1.length : Int)) = true := bne_iff_ne.mpr c3
  have c3b2 : (l0.length == l1.length) = false := by first | simpa using c3 | (simp at c3 ⊢; omega)
  obtain rfl := Option.some.inj H
  go_enter Try.func26, Try.ntmps26
  go_wp2
  go_ret
  exact ⟨by first | rfl | (simp [errW_none, errW_some] <;> rfl) | (simp [*, errW_none, errW_some] <;> rfl), by repeat (first | (with_reducible first | exact HB.out | apply below_alloc | apply pw_below_drewN | apply below_drew1) | exact HB.out)⟩

end Go.Proofs.Ytoeegdpkmdgkdaa.PAll
