-- LAID BY A PROGRAM OF THIS SESSION (wip/tools: the kit's print with changes of our own)
import Derived.Test.YtlkdhcpiglonjaaPAllx0
import Derived.Test.YtlkdhcpiglonjaaPAllx3
namespace Go.Proofs.Ytlkdhcpiglonjaa.PAll
open Go.RowKit Go.Proofs.YtlkdhcpiglonjaaW.PrintWords Go.Proofs.YtlkdhcpiglonjaaW.PrintLast Go.Proofs.YtlkdhcpiglonjaaW.PrintMore
attribute [local go_sem] max2_int min2_int max_two min_two max_three min_three max_four min_four   -- for this text's walks alone
set_option linter.unusedVariables false
set_option linter.unusedSimpArgs false

/-! ### aumbryref11_Unpack: function 13 -/
mutual
def aumbryref11_Unpack.j0 : Nat → Int → List Int → Int → Bool → Option (Int × List Int × Int)
  | 0, _, _, _, _ => none
  | k + 1, x0, x1, x7, x25 => if x25 = true then (some (0, ([] : List Int), 110)) else (if 4 ≤ 8 then (if 8 ≤ (x1.length : Int) then ((aumbryref11_Number.f ((x1.take 8).drop 4)).bind fun t172 => (if 0 ≤ x7 then (if x7 ≤ (x1.length : Int) then ((aumbryref11_Number.f (x1.drop (x7 : Int).toNat)).bind fun t178 => ((aumbryref04_Sum.f k (x1.take (x7 : Int).toNat)).bind fun t184 => (if t178 = t184 then (if 4 ≤ (x1.length : Int) then ((aumbryref11_Number.f (x1.take 4)).bind fun t190 => (if t190 = ((x0) % 4294967296) then (aumbryref11_Unpack.j1 k x1 x7 t172 (decide (t172 > 2147483647))) else (aumbryref11_Unpack.j1 k x1 x7 t172 true))) else (none)) else (aumbryref11_Unpack.j1 k x1 x7 t172 true)))) else (none)) else (none))) else (none)) else (none))
def aumbryref11_Unpack.j1 : Nat → List Int → Int → Int → Bool → Option (Int × List Int × Int)
  | 0, _, _, _, _ => none
  | k + 1, x1, x7, x8, x49 => if x49 = true then (some (0, ([] : List Int), 110)) else (if 8 ≤ x7 then (if x7 ≤ (x1.length : Int) then (some (wrap64 (x8), ((x1.take (x7 : Int).toNat).drop 8), 0)) else (none)) else (none))
end
def aumbryref11_Unpack.f (k : Nat) (a0 : Int) (l1 : List Int) : Option (Int × List Int × Int) := if (wrap64 ((l1.length : Int) - 4)) < 8 then (aumbryref11_Unpack.j0 k a0 l1 (wrap64 ((l1.length : Int) - 4)) true) else (if (wrap64 ((l1.length : Int) - 4)) > 4104 then (aumbryref11_Unpack.j0 k a0 l1 (wrap64 ((l1.length : Int) - 4)) true) else (if a0 < 0 then (aumbryref11_Unpack.j0 k a0 l1 (wrap64 ((l1.length : Int) - 4)) true) else (aumbryref11_Unpack.j0 k a0 l1 (wrap64 ((l1.length : Int) - 4)) (decide (a0 > 2147483647)))))
theorem aumbryref11_Unpack.mono_l : ∀ k, (∀ y0 y1 y2 y3, LeO (aumbryref11_Unpack.j0 k y0 y1 y2 y3) (aumbryref11_Unpack.j0 (k + 1) y0 y1 y2 y3)) ∧ (∀ y0 y1 y2 y3, LeO (aumbryref11_Unpack.j1 k y0 y1 y2 y3) (aumbryref11_Unpack.j1 (k + 1) y0 y1 y2 y3))
  | 0 => ⟨fun _ _ _ _ r h => by simp [aumbryref11_Unpack.j0] at h, fun _ _ _ _ r h => by simp [aumbryref11_Unpack.j1] at h⟩
  | k + 1 => by
    obtain ⟨ih0, ih1⟩ := aumbryref11_Unpack.mono_l k
    refine ⟨?_, ?_⟩
    · intro y0 y1 y2 y3
      unfold aumbryref11_Unpack.j0
      repeat' first
      | (with_reducible exact ih0 _ _ _ _)
      | (with_reducible exact ih1 _ _ _ _)
      | (with_reducible exact aumbryref04_Sum.mono _ _)
      | (with_reducible exact LeO.refl _)
      | (with_reducible exact LeO.none _)
      | (with_reducible refine LeO.ite ?_ ?_)
      | (with_reducible refine LeO.bind ?_ (fun _ => ?_))
      | exact ih0 _ _ _ _
      | exact ih1 _ _ _ _
      | exact aumbryref04_Sum.mono _ _
      | exact LeO.none _
      | refine LeO.ite ?_ ?_
      | refine LeO.bind ?_ (fun _ => ?_)
    · intro y0 y1 y2 y3
      unfold aumbryref11_Unpack.j1
      repeat' first
      | (with_reducible exact ih0 _ _ _ _)
      | (with_reducible exact ih1 _ _ _ _)
      | (with_reducible exact aumbryref04_Sum.mono _ _)
      | (with_reducible exact LeO.refl _)
      | (with_reducible exact LeO.none _)
      | (with_reducible refine LeO.ite ?_ ?_)
      | (with_reducible refine LeO.bind ?_ (fun _ => ?_))
      | exact ih0 _ _ _ _
      | exact ih1 _ _ _ _
      | exact aumbryref04_Sum.mono _ _
      | exact LeO.none _
      | refine LeO.ite ?_ ?_
      | refine LeO.bind ?_ (fun _ => ?_)
theorem aumbryref11_Unpack.mono : ∀ a0 a1 k, LeO (aumbryref11_Unpack.f k a0 a1) (aumbryref11_Unpack.f (k + 1) a0 a1) := by
  intro a0 a1 k
  obtain ⟨ih0, ih1⟩ := aumbryref11_Unpack.mono_l k
  unfold aumbryref11_Unpack.f
  repeat' first
      | (with_reducible exact ih0 _ _ _ _)
      | (with_reducible exact ih1 _ _ _ _)
      | (with_reducible exact aumbryref04_Sum.mono _ _)
      | (with_reducible exact LeO.refl _)
      | (with_reducible exact LeO.none _)
      | (with_reducible refine LeO.ite ?_ ?_)
      | (with_reducible refine LeO.bind ?_ (fun _ => ?_))
      | exact ih0 _ _ _ _
      | exact ih1 _ _ _ _
      | exact aumbryref04_Sum.mono _ _
      | exact LeO.none _
      | refine LeO.ite ?_ ?_
      | refine LeO.bind ?_ (fun _ => ?_)
set_option maxHeartbeats 8000000 in
set_option maxRecDepth 100000 in
theorem aumbryref11_Unpack.calls (k : Nat) (a0 : Int) (P1_ : Nat → Prop) (A1 : Option Addr) (c1 : Nat) (l1 : List Int) (r1 : Int) (r2 : List Int) (r3 : Int) (w : World) (hs1 : Kd.V (Kd.int .u8) 5 w w.heap.size (fun k_ => P1_ k_) (.slice A1 l1.length c1) l1) (h : aumbryref11_Unpack.f k a0 l1 = some (r1, r2, r3)) :
    Calls Try.prog 13 #[.int .i64 a0, .slice A1 l1.length c1] w fun e w' => ∃ v1_ : Value, e = .returned (.tuple #[.int .i64 r1, v1_, .int .i64 r3]) ∧ Kd.V (Kd.int .u8) 5 w' w.heap.size (fun k_ => (P1_ k_ ∨ w.heap.size ≤ k_)) v1_ r2 ∧ Below w.heap.size w w' := by
  have HO1 := Aside0.mk (show Kd.V (Kd.int .u8) 5 w w.heap.size (fun k_ => (P1_ k_ ∨ w.heap.size ≤ k_)) (.slice A1 l1.length c1) l1 from Kd.V_mono hs1 (fun k_ hk => .inl hk))
  have HB := Aside0.mk (Below.refl w.heap.size w)
  have H : (if (wrap64 ((l1.length : Int) - 4)) < 8 then (aumbryref11_Unpack.j0 k a0 l1 (wrap64 ((l1.length : Int) - 4)) true) else (if (wrap64 ((l1.length : Int) - 4)) > 4104 then (aumbryref11_Unpack.j0 k a0 l1 (wrap64 ((l1.length : Int) - 4)) true) else (if a0 < 0 then (aumbryref11_Unpack.j0 k a0 l1 (wrap64 ((l1.length : Int) - 4)) true) else (aumbryref11_Unpack.j0 k a0 l1 (wrap64 ((l1.length : Int) - 4)) (decide (a0 > 2147483647)))))) = some (r1, r2, r3) := h
  clear h
  have HC3 := Aside0.mk H
  clear H
  go_enter Try.func13, Try.ntmps13
  go_upto_region 2 with (fail)
  repeat (go_quiet (fail); go_upto_region 2 with (fail))
  go_cut [25] (fun v25 wc => ∃ (kq : Nat) (x25_2 : Bool), v25 = .bool x25_2 ∧ Aside0 (aumbryref11_Unpack.j0 kq a0 l1 (wrap64 ((l1.length : Int) - 4)) x25_2 = some (r1, r2, r3)) ∧ Aside0 (kq ≤ k) ∧ Aside0 (Kd.V (Kd.int .u8) 5 wc w.heap.size (fun k_ => (P1_ k_ ∨ w.heap.size ≤ k_)) (.slice A1 l1.length c1) l1) ∧ Aside0 (Below w.heap.size w wc))
  case first =>
    have H := HC3.out
    clear HC3
    by_cases c4 : (wrap64 ((l1.length : Int) - 4)) < 8
    · rw [if_pos c4] at H
      have c4b0 : decide ((wrap64 ((l1.length : Int) - 4)) < 8) = true := decide_eq_true c4
      clear c4
      (first | rw [c4b0] | (simp only [i64_w, i32_w]; rw [c4b0]) | skip)
      have H' := Aside0.mk H
      clear H
      go_wp2
      repeat (go_quiet (fail); try go_wp2)
      go_meet
      case rel => exact ⟨_, (true), (by first | rfl | (simp; done) | (simp [*]; done)), H', ⟨by first | omega | exact Nat.le_refl _⟩, ⟨by (with_reducible repeat (first | apply Kd.V_alloc | apply Kd.V_drewN | apply Kd.V_drew)); exact HO1.out⟩, ⟨by repeat (first | (with_reducible first | exact HB.out | apply below_alloc | apply pw_below_drewN | apply below_drew1) | exact HB.out)⟩⟩
    · rw [if_neg c4] at H
      have c4b0 : decide ((wrap64 ((l1.length : Int) - 4)) < 8) = false := decide_eq_false c4
      clear c4
      (first | rw [c4b0] | (simp only [i64_w, i32_w]; rw [c4b0]) | skip)
      by_cases c5 : (wrap64 ((l1.length : Int) - 4)) > 4104
      · rw [if_pos c5] at H
        have c5b0 : decide (4104 < (wrap64 ((l1.length : Int) - 4))) = true := decide_eq_true c5
        clear c5
        have H' := Aside0.mk H
        clear H
        go_wp2
        repeat (go_quiet (fail); try go_wp2)
        go_meet
        case rel => exact ⟨_, (true), (by first | rfl | (simp; done) | (simp [*]; done)), H', ⟨by first | omega | exact Nat.le_refl _⟩, ⟨by (with_reducible repeat (first | apply Kd.V_alloc | apply Kd.V_drewN | apply Kd.V_drew)); exact HO1.out⟩, ⟨by repeat (first | (with_reducible first | exact HB.out | apply below_alloc | apply pw_below_drewN | apply below_drew1) | exact HB.out)⟩⟩
      · rw [if_neg c5] at H
        have c5b0 : decide (4104 < (wrap64 ((l1.length : Int) - 4))) = false := decide_eq_false c5
        clear c5
        by_cases c6 : a0 < 0
        · rw [if_pos c6] at H
          have c6b0 : decide (a0 < 0) = true := decide_eq_true c6
          clear c6
          have H' := Aside0.mk H
          clear H
          go_wp2
          repeat (go_quiet (fail); try go_wp2)
          go_meet
          case rel => exact ⟨_, (true), (by first | rfl | (simp; done) | (simp [*]; done)), H', ⟨by first | omega | exact Nat.le_refl _⟩, ⟨by (with_reducible repeat (first | apply Kd.V_alloc | apply Kd.V_drewN | apply Kd.V_drew)); exact HO1.out⟩, ⟨by repeat (first | (with_reducible first | exact HB.out | apply below_alloc | apply pw_below_drewN | apply below_drew1) | exact HB.out)⟩⟩
        · rw [if_neg c6] at H
          have c6b0 : decide (a0 < 0) = false := decide_eq_false c6
          clear c6
          have H' := Aside0.mk H
          clear H
          go_wp2
          repeat (go_quiet (fail); try go_wp2)
          go_meet
          case rel => exact ⟨_, (decide (a0 > 2147483647)), (by first | rfl | (simp; done) | (simp [*]; done)), H', ⟨by first | omega | exact Nat.le_refl _⟩, ⟨by (with_reducible repeat (first | apply Kd.V_alloc | apply Kd.V_drewN | apply Kd.V_drew)); exact HO1.out⟩, ⟨by repeat (first | (with_reducible first | exact HB.out | apply below_alloc | apply pw_below_drewN | apply below_drew1) | exact HB.out)⟩⟩
  case rest =>
    clear HC3
    try clear c1
    try clear p2
    try clear c4
    try clear c4b0
    try clear c5
    try clear c5b0
    try clear c6
    try clear c6b0
    try clear p6
    obtain ⟨kq, x25_2, rfl, HA, HJ2, HO_1, HB⟩ := hcut
    cases kq with
    | zero => exact absurd HA.out (by simp [aumbryref11_Unpack.j0])
    | succ kj2 =>
      have H := HA.out
      clear HA
      simp only [aumbryref11_Unpack.j0] at H
      by_cases c7 : x25_2 = true
      · subst c7
        have H1 : (some (0, ([] : List Int), 110)) = some (r1, r2, r3) := by rw [if_pos rfl] at H; exact H
        clear H
        have H := H1
        clear H1
        simp only [Option.some.injEq, Prod.mk.injEq] at H
        obtain ⟨rfl, rfl, rfl⟩ := H
        go_wp2
        repeat (go_quiet (fail); try go_wp2)
        go_ret3
        exact ⟨_, by first | rfl | (simp [errW_none, errW_some] <;> rfl) | (simp [*, errW_none, errW_some] <;> rfl), Kd.V_nil _ _ _ _ _, by repeat (first | (with_reducible first | exact HB.out | apply below_alloc | apply pw_below_drewN | apply below_drew1) | exact HB.out)⟩
      · replace c7 := Bool.eq_false_iff.mpr c7
        subst c7
        have H1 : (if 4 ≤ 8 then (if 8 ≤ (l1.length : Int) then ((aumbryref11_Number.f ((l1.take 8).drop 4)).bind fun t172 => (if 0 ≤ (wrap64 ((l1.length : Int) - 4)) then (if (wrap64 ((l1.length : Int) - 4)) ≤ (l1.length : Int) then ((aumbryref11_Number.f (l1.drop ((wrap64 ((l1.length : Int) - 4)) : Int).toNat)).bind fun t178 => ((aumbryref04_Sum.f kj2 (l1.take ((wrap64 ((l1.length : Int) - 4)) : Int).toNat)).bind fun t184 => (if t178 = t184 then (if 4 ≤ (l1.length : Int) then ((aumbryref11_Number.f (l1.take 4)).bind fun t190 => (if t190 = ((a0) % 4294967296) then (aumbryref11_Unpack.j1 kj2 l1 (wrap64 ((l1.length : Int) - 4)) t172 (decide (t172 > 2147483647))) else (aumbryref11_Unpack.j1 kj2 l1 (wrap64 ((l1.length : Int) - 4)) t172 true))) else (none)) else (aumbryref11_Unpack.j1 kj2 l1 (wrap64 ((l1.length : Int) - 4)) t172 true)))) else (none)) else (none))) else (none)) else (none)) = some (r1, r2, r3) := by rw [if_neg (show ¬ (false = true) by decide)] at H; exact H
        clear H
        have H := H1
        clear H1
        by_cases c8 : 4 ≤ 8
        · rw [if_pos c8] at H
          have c8b0 := eq_true c8
          have c8b1 : decide (4 ≤ 8) = true := decide_eq_true c8
          clear c8
          by_cases c9 : 8 ≤ (l1.length : Int)
          · rw [if_pos c9] at H
            have c9b0 := eq_true c9
            have c9b1 : decide (8 ≤ (l1.length : Int)) = true := decide_eq_true c9
            clear c9
            obtain ⟨y167, hy167⟩ : ∃ y_ : List Int, y_ = ((l1.take 8).drop 4) := ⟨_, rfl⟩
            replace H : ((aumbryref11_Number.f y167).bind fun t172 => (if 0 ≤ (wrap64 ((l1.length : Int) - 4)) then (if (wrap64 ((l1.length : Int) - 4)) ≤ (l1.length : Int) then ((aumbryref11_Number.f (l1.drop ((wrap64 ((l1.length : Int) - 4)) : Int).toNat)).bind fun t178 => ((aumbryref04_Sum.f kj2 (l1.take ((wrap64 ((l1.length : Int) - 4)) : Int).toNat)).bind fun t184 => (if t178 = t184 then (if 4 ≤ (l1.length : Int) then ((aumbryref11_Number.f (l1.take 4)).bind fun t190 => (if t190 = ((a0) % 4294967296) then (aumbryref11_Unpack.j1 kj2 l1 (wrap64 ((l1.length : Int) - 4)) t172 (decide (t172 > 2147483647))) else (aumbryref11_Unpack.j1 kj2 l1 (wrap64 ((l1.length : Int) - 4)) t172 true))) else (none)) else (aumbryref11_Unpack.j1 kj2 l1 (wrap64 ((l1.length : Int) - 4)) t172 true)))) else (none)) else (none))) = some (r1, r2, r3) := by first | (rw [hy167]; with_reducible exact H) | (have H2_ := (Option.bind_some _ _).symm.trans H; rw [hy167]; with_reducible exact H2_) | (have H2_ := (Option.bind_some _ _).symm.trans H; with_reducible exact H2_) | with_reducible exact H | (rw [hy167]; exact H) | exact H
            have Ny167 := Aside0.mk hy167
            clear hy167
            replace H := Option.bind_eq_some_iff.mp H
            obtain ⟨t172, A100, H⟩ := H
            replace H : (if 0 ≤ (wrap64 ((l1.length : Int) - 4)) then (if (wrap64 ((l1.length : Int) - 4)) ≤ (l1.length : Int) then ((aumbryref11_Number.f (l1.drop ((wrap64 ((l1.length : Int) - 4)) : Int).toNat)).bind fun t178 => ((aumbryref04_Sum.f kj2 (l1.take ((wrap64 ((l1.length : Int) - 4)) : Int).toNat)).bind fun t184 => (if t178 = t184 then (if 4 ≤ (l1.length : Int) then ((aumbryref11_Number.f (l1.take 4)).bind fun t190 => (if t190 = ((a0) % 4294967296) then (aumbryref11_Unpack.j1 kj2 l1 (wrap64 ((l1.length : Int) - 4)) t172 (decide (t172 > 2147483647))) else (aumbryref11_Unpack.j1 kj2 l1 (wrap64 ((l1.length : Int) - 4)) t172 true))) else (none)) else (aumbryref11_Unpack.j1 kj2 l1 (wrap64 ((l1.length : Int) - 4)) t172 true)))) else (none)) else (none)) = some (r1, r2, r3) := H
            have A10 := Aside0.mk A100
            clear A100
            have HC11 := Aside0.mk H
            clear H
            have q12 : (8 : Int) ≤ ((l1.length : Int) : Int) := of_decide_eq_true (by first | (with_reducible assumption) | assumption)
            obtain ⟨i012, hi012, _, hsz12, _⟩ := info_parts info5
            have hroom12 : l1.length ≤ c1 := (Kd.V_reads' HO_1.out).2.1
            have hC12 : Kd.F (Kd.int .u8) _ _ A1 l1.length l1 := (Kd.V_at (base := w.heap.size) HO_1.out).2.2
            have ql12 : (4 : Int) ≤ (8 : Int) := (by omega)
            have hcut12 := cut_mid (P := Try.prog) 23 5 .i64 .i64 Try.underlying23 hi012 1 hsz12 A1 l1.length c1 4 8 (by omega) ql12 q12 hroom12
            have hr12 := Kd.F_mid (lo := (4 : Int).toNat) (hi := (8 : Int).toNat) (c := c1) hC12 (by omega) (by omega) hroom12
            obtain ⟨A12, hA12⟩ : ∃ Aq_, Aq_ = (if c1 = (4 : Int).toNat then A1 else (A1 : Option Addr).map (·.add ((4 : Int).toNat * 1))) := ⟨_, rfl⟩
            obtain ⟨c12, hc12⟩ : ∃ cq_, cq_ = c1 - (4 : Int).toNat := ⟨_, rfl⟩
            have hy12 : y167.length = (8 : Int).toNat - (4 : Int).toNat := (by rw [Ny167.out, List.length_drop, List.length_take] <;> omega)
            rw [show ((l1).take (8 : Int).toNat).drop (4 : Int).toNat = y167 from Ny167.out.symm] at hr12
            replace hr12 : Kd.F (Kd.int .u8) _ _ A12 y167.length y167 := (by rw [hA12]; exact hr12)
            rw [← hy12, ← hA12, ← hc12] at hcut12
            have HO171 := Aside0.mk (show Kd.V (Kd.int .u8) 5 _ w.heap.size _ (.slice A12 y167.length c12) y167 from Kd.V_mk (by rw [hy12, hc12]; exact Nat.sub_le_sub_right (Nat.le_trans (by omega) hroom12) _) hr12)
            have HC171 := Aside0.mk (show y167.length ≤ c12 from by rw [hy12, hc12]; exact Nat.sub_le_sub_right (Nat.le_trans (by omega) hroom12) _)
            clear hr12 hC12 hroom12 hi012 hsz12 hc12
            have KY12 := Aside0.mk hy12
            have KA12 := Aside0.mk hA12
            clear hy12 hA12
            replace q12 := eq_true q12
            go_upto_region 5 with (first | (go_at_call 23; (with_reducible refine (aumbryref11_Number.calls _ _ y167 t172 _ ?side1 ?side2 A10.out).mono ?_); (case side1 => repeat (first | exact (Kd.V_reads' HO171.out).2.2 | (with_reducible refine Kd.C_alloc ?_ _) | (with_reducible refine Kd.C_drewN ?_ _) | (with_reducible refine Kd.C_drew ?_))); (case side2 => exact (Kd.V_reads' HO171.out).2.1); rintro e w' ⟨rfl, ⟨nd, rfl⟩⟩; (try first | exact ⟨rfl, _, World.drewN_drewN _ _ _⟩ | exact ⟨rfl, _, Eq.trans (World.drewN_drewN _ _ _) (congrArg (World.drewN _) (Nat.add_assoc _ _ _))⟩)))
            repeat (go_quiet (first | (go_at_call 23; (with_reducible refine (aumbryref11_Number.calls _ _ y167 t172 _ ?side1 ?side2 A10.out).mono ?_); (case side1 => repeat (first | exact (Kd.V_reads' HO171.out).2.2 | (with_reducible refine Kd.C_alloc ?_ _) | (with_reducible refine Kd.C_drewN ?_ _) | (with_reducible refine Kd.C_drew ?_))); (case side2 => exact (Kd.V_reads' HO171.out).2.1); rintro e w' ⟨rfl, ⟨nd, rfl⟩⟩; (try first | exact ⟨rfl, _, World.drewN_drewN _ _ _⟩ | exact ⟨rfl, _, Eq.trans (World.drewN_drewN _ _ _) (congrArg (World.drewN _) (Nat.add_assoc _ _ _))⟩))); go_upto_region 5 with (first | (go_at_call 23; (with_reducible refine (aumbryref11_Number.calls _ _ y167 t172 _ ?side1 ?side2 A10.out).mono ?_); (case side1 => repeat (first | exact (Kd.V_reads' HO171.out).2.2 | (with_reducible refine Kd.C_alloc ?_ _) | (with_reducible refine Kd.C_drewN ?_ _) | (with_reducible refine Kd.C_drew ?_))); (case side2 => exact (Kd.V_reads' HO171.out).2.1); rintro e w' ⟨rfl, ⟨nd, rfl⟩⟩; (try first | exact ⟨rfl, _, World.drewN_drewN _ _ _⟩ | exact ⟨rfl, _, Eq.trans (World.drewN_drewN _ _ _) (congrArg (World.drewN _) (Nat.add_assoc _ _ _))⟩))))
            (try simp only [Act.put, List.setIfInBounds_toArray, List.set_cons_zero, List.set_cons_succ])
            go_cut [49] (fun v49 wc => ∃ (kq : Nat) (x49_10 : Bool), v49 = .bool x49_10 ∧ Aside0 (aumbryref11_Unpack.j1 kq l1 (wrap64 ((l1.length : Int) - 4)) t172 x49_10 = some (r1, r2, r3)) ∧ Aside0 (kq ≤ kj2) ∧ Aside0 (Kd.V (Kd.int .u8) 5 wc w.heap.size (fun k_ => (P1_ k_ ∨ w.heap.size ≤ k_)) (.slice A1 l1.length c1) l1) ∧ Aside0 (Below w.heap.size w wc))
            case first =>
              have H := HC11.out
              clear HC11
              obtain ⟨ji13, hji13⟩ : ∃ j_ : Int, (wrap64 ((l1.length : Int) - 4)) = j_ := ⟨_, rfl⟩
              replace H : (if 0 ≤ (ji13) then (if (ji13) ≤ (l1.length : Int) then ((aumbryref11_Number.f (l1.drop ((ji13) : Int).toNat)).bind fun t178 => ((aumbryref04_Sum.f kj2 (l1.take ((ji13) : Int).toNat)).bind fun t184 => (if t178 = t184 then (if 4 ≤ (l1.length : Int) then ((aumbryref11_Number.f (l1.take 4)).bind fun t190 => (if t190 = ((a0) % 4294967296) then (aumbryref11_Unpack.j1 kj2 l1 (ji13) t172 (decide (t172 > 2147483647))) else (aumbryref11_Unpack.j1 kj2 l1 (ji13) t172 true))) else (none)) else (aumbryref11_Unpack.j1 kj2 l1 (ji13) t172 true)))) else (none)) else (none)) = some (r1, r2, r3) := by first | (rw [hji13] at H; exact H) | (simp only [hji13] at H ⊢; exact H)
              have hji13w : (IntKind.i64.wrap ((l1.length : Int) - 4)) = ji13 := (i64_w _).trans hji13
              by_cases c14 : 0 ≤ (ji13)
              · rw [if_pos c14] at H
                have c14b0 := eq_true c14
                have c14b1 : decide (0 ≤ (ji13)) = true := decide_eq_true c14
                clear c14
                by_cases c15 : (ji13) ≤ (l1.length : Int)
                · rw [if_pos c15] at H
                  have c15b0 := eq_true c15
                  have c15b1 : decide ((ji13) ≤ (l1.length : Int)) = true := decide_eq_true c15
                  clear c15
                  obtain ⟨y173, hy173⟩ : ∃ y_ : List Int, y_ = (l1.drop ((ji13) : Int).toNat) := ⟨_, rfl⟩
                  replace H : ((aumbryref11_Number.f y173).bind fun t178 => ((aumbryref04_Sum.f kj2 (l1.take ((ji13) : Int).toNat)).bind fun t184 => (if t178 = t184 then (if 4 ≤ (l1.length : Int) then ((aumbryref11_Number.f (l1.take 4)).bind fun t190 => (if t190 = ((a0) % 4294967296) then (aumbryref11_Unpack.j1 kj2 l1 (ji13) t172 (decide (t172 > 2147483647))) else (aumbryref11_Unpack.j1 kj2 l1 (ji13) t172 true))) else (none)) else (aumbryref11_Unpack.j1 kj2 l1 (ji13) t172 true)))) = some (r1, r2, r3) := by first | (rw [hy173]; with_reducible exact H) | (have H2_ := (Option.bind_some _ _).symm.trans H; rw [hy173]; with_reducible exact H2_) | (have H2_ := (Option.bind_some _ _).symm.trans H; with_reducible exact H2_) | with_reducible exact H | (rw [hy173]; exact H) | exact H
                  have Ny173 := Aside0.mk hy173
                  clear hy173
                  replace H := Option.bind_eq_some_iff.mp H
                  obtain ⟨t178, A160, H⟩ := H
                  replace H : ((aumbryref04_Sum.f kj2 (l1.take ((ji13) : Int).toNat)).bind fun t184 => (if t178 = t184 then (if 4 ≤ (l1.length : Int) then ((aumbryref11_Number.f (l1.take 4)).bind fun t190 => (if t190 = ((a0) % 4294967296) then (aumbryref11_Unpack.j1 kj2 l1 (ji13) t172 (decide (t172 > 2147483647))) else (aumbryref11_Unpack.j1 kj2 l1 (ji13) t172 true))) else (none)) else (aumbryref11_Unpack.j1 kj2 l1 (ji13) t172 true))) = some (r1, r2, r3) := H
                  have A16 := Aside0.mk A160
                  clear A160
                  have c17b0 := eq_true (of_decide_eq_true (by first | (with_reducible assumption) | assumption) : 0 ≤ (ji13))
                  have c18b0 := eq_true (of_decide_eq_true (by first | (with_reducible assumption) | assumption) : (ji13) ≤ (l1.length : Int))
                  obtain ⟨y179, hy179⟩ : ∃ y_ : List Int, y_ = (l1.take ((ji13) : Int).toNat) := ⟨_, rfl⟩
                  replace H : ((aumbryref04_Sum.f kj2 y179).bind fun t184 => (if t178 = t184 then (if 4 ≤ (l1.length : Int) then ((aumbryref11_Number.f (l1.take 4)).bind fun t190 => (if t190 = ((a0) % 4294967296) then (aumbryref11_Unpack.j1 kj2 l1 (ji13) t172 (decide (t172 > 2147483647))) else (aumbryref11_Unpack.j1 kj2 l1 (ji13) t172 true))) else (none)) else (aumbryref11_Unpack.j1 kj2 l1 (ji13) t172 true))) = some (r1, r2, r3) := by first | (rw [hy179]; with_reducible exact H) | (have H2_ := (Option.bind_some _ _).symm.trans H; rw [hy179]; with_reducible exact H2_) | (have H2_ := (Option.bind_some _ _).symm.trans H; with_reducible exact H2_) | with_reducible exact H | (rw [hy179]; exact H) | exact H
                  have Ny179 := Aside0.mk hy179
                  clear hy179
                  replace H := Option.bind_eq_some_iff.mp H
                  obtain ⟨t184, A190, H⟩ := H
                  replace H : (if t178 = t184 then (if 4 ≤ (l1.length : Int) then ((aumbryref11_Number.f (l1.take 4)).bind fun t190 => (if t190 = ((a0) % 4294967296) then (aumbryref11_Unpack.j1 kj2 l1 (ji13) t172 (decide (t172 > 2147483647))) else (aumbryref11_Unpack.j1 kj2 l1 (ji13) t172 true))) else (none)) else (aumbryref11_Unpack.j1 kj2 l1 (ji13) t172 true)) = some (r1, r2, r3) := H
                  have A19 := Aside0.mk A190
                  clear A190
                  by_cases c20 : t178 = t184
                  · rw [if_pos c20] at H
                    have c20b0 : (t178 == t184) = true := beq_iff_eq.mpr c20
                    have c20b1 : (t178 != t184) = false := bne_eq_false_iff_eq.mpr c20
                    clear c20
                    (first | rw [c20b0] | (simp only [i64_w, i32_w]; rw [c20b0]) | skip)
                    by_cases c21 : 4 ≤ (l1.length : Int)
                    · rw [if_pos c21] at H
                      have c21b0 := eq_true c21
                      have c21b1 : decide (4 ≤ (l1.length : Int)) = true := decide_eq_true c21
                      clear c21
                      obtain ⟨y185, hy185⟩ : ∃ y_ : List Int, y_ = (l1.take 4) := ⟨_, rfl⟩
                      replace H : ((aumbryref11_Number.f y185).bind fun t190 => (if t190 = ((a0) % 4294967296) then (aumbryref11_Unpack.j1 kj2 l1 (ji13) t172 (decide (t172 > 2147483647))) else (aumbryref11_Unpack.j1 kj2 l1 (ji13) t172 true))) = some (r1, r2, r3) := by first | (rw [hy185]; with_reducible exact H) | (have H2_ := (Option.bind_some _ _).symm.trans H; rw [hy185]; with_reducible exact H2_) | (have H2_ := (Option.bind_some _ _).symm.trans H; with_reducible exact H2_) | with_reducible exact H | (rw [hy185]; exact H) | exact H
                      have Ny185 := Aside0.mk hy185
                      clear hy185
                      replace H := Option.bind_eq_some_iff.mp H
                      obtain ⟨t190, A220, H⟩ := H
                      replace H : (if t190 = ((a0) % 4294967296) then (aumbryref11_Unpack.j1 kj2 l1 (ji13) t172 (decide (t172 > 2147483647))) else (aumbryref11_Unpack.j1 kj2 l1 (ji13) t172 true)) = some (r1, r2, r3) := H
                      have A22 := Aside0.mk A220
                      clear A220
                      by_cases c23 : t190 = ((a0) % 4294967296)
                      · rw [if_pos c23] at H
                        have c23b0 : (t190 == ((a0) % 4294967296)) = true := beq_iff_eq.mpr c23
                        have c23b1 : (t190 != ((a0) % 4294967296)) = false := bne_eq_false_iff_eq.mpr c23
                        clear c23
                        have H' := Aside0.mk H
                        clear H
                        have q24 : ((ji13) : Int) ≤ ((l1.length : Int) : Int) := of_decide_eq_true (by first | (with_reducible assumption) | assumption)
                        obtain ⟨i024, hi024, _, hsz24, _⟩ := info_parts info5
                        have hroom24 : l1.length ≤ c1 := (Kd.V_reads' HO_1.out).2.1
                        have hC24 : Kd.F (Kd.int .u8) _ _ A1 l1.length l1 := (Kd.V_at (base := w.heap.size) HO_1.out).2.2
                        have q024 : (0 : Int) ≤ ((ji13) : Int) := of_decide_eq_true (by first | (with_reducible assumption) | assumption)
                        have hcut24 := cut_from (P := Try.prog) 23 5 .i64 Try.underlying23 hi024 1 hsz24 A1 l1.length c1 (ji13) q024 q24
                        have hr24 := Kd.F_cut (m := ((ji13) : Int).toNat) (c := c1) hC24 (by omega) hroom24
                        obtain ⟨A24, hA24⟩ : ∃ Aq_, Aq_ = (if c1 = ((ji13) : Int).toNat then A1 else (A1 : Option Addr).map (·.add (((ji13) : Int).toNat * 1))) := ⟨_, rfl⟩
                        obtain ⟨c24, hc24⟩ : ∃ cq_, cq_ = c1 - ((ji13) : Int).toNat := ⟨_, rfl⟩
                        have hy24 : y173.length = l1.length - ((ji13) : Int).toNat := (by rw [Ny173.out, List.length_drop] <;> omega)
                        rw [show (l1).drop ((ji13) : Int).toNat = y173 from Ny173.out.symm] at hr24
                        replace hr24 : Kd.F (Kd.int .u8) _ _ A24 y173.length y173 := (by rw [hA24]; exact hr24)
                        rw [← hy24, ← hA24, ← hc24] at hcut24
                        have HO177 := Aside0.mk (show Kd.V (Kd.int .u8) 5 _ w.heap.size _ (.slice A24 y173.length c24) y173 from Kd.V_mk (by rw [hy24, hc24]; exact Nat.sub_le_sub_right hroom24 _) hr24)
                        have HC177 := Aside0.mk (show y173.length ≤ c24 from by rw [hy24, hc24]; exact Nat.sub_le_sub_right hroom24 _)
                        clear hr24 hC24 hroom24 hi024 hsz24 hc24
                        have KY24 := Aside0.mk hy24
                        have KA24 := Aside0.mk hA24
                        clear hy24 hA24
                        replace q24 := eq_true q24
                        have q25 : ((ji13) : Int) ≤ ((l1.length : Int) : Int) := of_decide_eq_true (by first | (with_reducible assumption) | assumption)
                        obtain ⟨i025, hi025, _, hsz25, _⟩ := info_parts info5
                        have hroom25 : l1.length ≤ c1 := (Kd.V_reads' HO_1.out).2.1
                        have hC25 : Kd.F (Kd.int .u8) _ _ A1 l1.length l1 := (Kd.V_at (base := w.heap.size) HO_1.out).2.2
                        have hcut25 := cut_to (P := Try.prog) 23 5 .i64 Try.underlying23 hi025 A1 l1.length c1 (ji13) (of_decide_eq_true (by first | (with_reducible assumption) | assumption)) q25 hroom25
                        have hr25 := Kd.F_take (m := ((ji13) : Int).toNat) hC25 (by omega)
                        have hy25 : y179.length = ((ji13) : Int).toNat := (by rw [Ny179.out, List.length_take]; omega)
                        rw [← Ny179.out] at hr25
                        rw [← hy25] at hcut25
                        have HO183 := Aside0.mk (show Kd.V (Kd.int .u8) 5 _ w.heap.size _ (.slice A1 y179.length c1) y179 from Kd.V_mk (by omega) hr25)
                        have HC183 := Aside0.mk (show y179.length ≤ c1 from by omega)
                        clear hr25 hC25 hroom25 hi025 hsz25
                        have KY25 := Aside0.mk hy25
                        clear hy25
                        replace q25 := eq_true q25
                        have q26 : (4 : Int) ≤ ((l1.length : Int) : Int) := of_decide_eq_true (by first | (with_reducible assumption) | assumption)
                        obtain ⟨i026, hi026, _, hsz26, _⟩ := info_parts info5
                        have hroom26 : l1.length ≤ c1 := (Kd.V_reads' HO_1.out).2.1
                        have hC26 : Kd.F (Kd.int .u8) _ _ A1 l1.length l1 := (Kd.V_at (base := w.heap.size) HO_1.out).2.2
                        have hcut26 := cut_to (P := Try.prog) 23 5 .i64 Try.underlying23 hi026 A1 l1.length c1 4 (by omega) q26 hroom26
                        have hr26 := Kd.F_take (m := 4) hC26 (by omega)
                        have hy26 : y185.length = (4 : Int).toNat := (by rw [Ny185.out, List.length_take]; omega)
                        rw [← Ny185.out] at hr26
                        rw [← hy26] at hcut26
                        have HO189 := Aside0.mk (show Kd.V (Kd.int .u8) 5 _ w.heap.size _ (.slice A1 y185.length c1) y185 from Kd.V_mk (by omega) hr26)
                        have HC189 := Aside0.mk (show y185.length ≤ c1 from by omega)
                        clear hr26 hC26 hroom26 hi026 hsz26
                        have KY26 := Aside0.mk hy26
                        clear hy26
                        replace q26 := eq_true q26
                        go_wp2_with (first | (go_at_call 23; (with_reducible refine (aumbryref11_Number.calls _ _ y173 t178 _ ?side1 ?side2 A16.out).mono ?_); (case side1 => repeat (first | exact (Kd.V_reads' HO177.out).2.2 | (with_reducible refine Kd.C_alloc ?_ _) | (with_reducible refine Kd.C_drewN ?_ _) | (with_reducible refine Kd.C_drew ?_))); (case side2 => exact (Kd.V_reads' HO177.out).2.1); rintro e w' ⟨rfl, ⟨nd, rfl⟩⟩; (try first | exact ⟨rfl, _, World.drewN_drewN _ _ _⟩ | exact ⟨rfl, _, Eq.trans (World.drewN_drewN _ _ _) (congrArg (World.drewN _) (Nat.add_assoc _ _ _))⟩)) | (go_at_call 20; (with_reducible refine (aumbryref04_Sum.calls kj2 _ _ y179 t184 _ ?side1 ?side2 A19.out).mono ?_); (case side1 => repeat (first | exact (Kd.V_reads' HO183.out).2.2 | (with_reducible refine Kd.C_alloc ?_ _) | (with_reducible refine Kd.C_drewN ?_ _) | (with_reducible refine Kd.C_drew ?_))); (case side2 => exact (Kd.V_reads' HO183.out).2.1); rintro e w' ⟨rfl, ⟨nd, rfl⟩⟩; (try first | exact ⟨rfl, _, World.drewN_drewN _ _ _⟩ | exact ⟨rfl, _, Eq.trans (World.drewN_drewN _ _ _) (congrArg (World.drewN _) (Nat.add_assoc _ _ _))⟩)) | (go_at_call 23; (with_reducible refine (aumbryref11_Number.calls _ _ y185 t190 _ ?side1 ?side2 A22.out).mono ?_); (case side1 => repeat (first | exact (Kd.V_reads' HO189.out).2.2 | (with_reducible refine Kd.C_alloc ?_ _) | (with_reducible refine Kd.C_drewN ?_ _) | (with_reducible refine Kd.C_drew ?_))); (case side2 => exact (Kd.V_reads' HO189.out).2.1); rintro e w' ⟨rfl, ⟨nd, rfl⟩⟩; (try first | exact ⟨rfl, _, World.drewN_drewN _ _ _⟩ | exact ⟨rfl, _, Eq.trans (World.drewN_drewN _ _ _) (congrArg (World.drewN _) (Nat.add_assoc _ _ _))⟩)))
                        repeat (go_quiet (first | (go_at_call 23; (with_reducible refine (aumbryref11_Number.calls _ _ y173 t178 _ ?side1 ?side2 A16.out).mono ?_); (case side1 => repeat (first | exact (Kd.V_reads' HO177.out).2.2 | (with_reducible refine Kd.C_alloc ?_ _) | (with_reducible refine Kd.C_drewN ?_ _) | (with_reducible refine Kd.C_drew ?_))); (case side2 => exact (Kd.V_reads' HO177.out).2.1); rintro e w' ⟨rfl, ⟨nd, rfl⟩⟩; (try first | exact ⟨rfl, _, World.drewN_drewN _ _ _⟩ | exact ⟨rfl, _, Eq.trans (World.drewN_drewN _ _ _) (congrArg (World.drewN _) (Nat.add_assoc _ _ _))⟩)) | (go_at_call 20; (with_reducible refine (aumbryref04_Sum.calls kj2 _ _ y179 t184 _ ?side1 ?side2 A19.out).mono ?_); (case side1 => repeat (first | exact (Kd.V_reads' HO183.out).2.2 | (with_reducible refine Kd.C_alloc ?_ _) | (with_reducible refine Kd.C_drewN ?_ _) | (with_reducible refine Kd.C_drew ?_))); (case side2 => exact (Kd.V_reads' HO183.out).2.1); rintro e w' ⟨rfl, ⟨nd, rfl⟩⟩; (try first | exact ⟨rfl, _, World.drewN_drewN _ _ _⟩ | exact ⟨rfl, _, Eq.trans (World.drewN_drewN _ _ _) (congrArg (World.drewN _) (Nat.add_assoc _ _ _))⟩)) | (go_at_call 23; (with_reducible refine (aumbryref11_Number.calls _ _ y185 t190 _ ?side1 ?side2 A22.out).mono ?_); (case side1 => repeat (first | exact (Kd.V_reads' HO189.out).2.2 | (with_reducible refine Kd.C_alloc ?_ _) | (with_reducible refine Kd.C_drewN ?_ _) | (with_reducible refine Kd.C_drew ?_))); (case side2 => exact (Kd.V_reads' HO189.out).2.1); rintro e w' ⟨rfl, ⟨nd, rfl⟩⟩; (try first | exact ⟨rfl, _, World.drewN_drewN _ _ _⟩ | exact ⟨rfl, _, Eq.trans (World.drewN_drewN _ _ _) (congrArg (World.drewN _) (Nat.add_assoc _ _ _))⟩))); try go_wp2_with (first | (go_at_call 23; (with_reducible refine (aumbryref11_Number.calls _ _ y173 t178 _ ?side1 ?side2 A16.out).mono ?_); (case side1 => repeat (first | exact (Kd.V_reads' HO177.out).2.2 | (with_reducible refine Kd.C_alloc ?_ _) | (with_reducible refine Kd.C_drewN ?_ _) | (with_reducible refine Kd.C_drew ?_))); (case side2 => exact (Kd.V_reads' HO177.out).2.1); rintro e w' ⟨rfl, ⟨nd, rfl⟩⟩; (try first | exact ⟨rfl, _, World.drewN_drewN _ _ _⟩ | exact ⟨rfl, _, Eq.trans (World.drewN_drewN _ _ _) (congrArg (World.drewN _) (Nat.add_assoc _ _ _))⟩)) | (go_at_call 20; (with_reducible refine (aumbryref04_Sum.calls kj2 _ _ y179 t184 _ ?side1 ?side2 A19.out).mono ?_); (case side1 => repeat (first | exact (Kd.V_reads' HO183.out).2.2 | (with_reducible refine Kd.C_alloc ?_ _) | (with_reducible refine Kd.C_drewN ?_ _) | (with_reducible refine Kd.C_drew ?_))); (case side2 => exact (Kd.V_reads' HO183.out).2.1); rintro e w' ⟨rfl, ⟨nd, rfl⟩⟩; (try first | exact ⟨rfl, _, World.drewN_drewN _ _ _⟩ | exact ⟨rfl, _, Eq.trans (World.drewN_drewN _ _ _) (congrArg (World.drewN _) (Nat.add_assoc _ _ _))⟩)) | (go_at_call 23; (with_reducible refine (aumbryref11_Number.calls _ _ y185 t190 _ ?side1 ?side2 A22.out).mono ?_); (case side1 => repeat (first | exact (Kd.V_reads' HO189.out).2.2 | (with_reducible refine Kd.C_alloc ?_ _) | (with_reducible refine Kd.C_drewN ?_ _) | (with_reducible refine Kd.C_drew ?_))); (case side2 => exact (Kd.V_reads' HO189.out).2.1); rintro e w' ⟨rfl, ⟨nd, rfl⟩⟩; (try first | exact ⟨rfl, _, World.drewN_drewN _ _ _⟩ | exact ⟨rfl, _, Eq.trans (World.drewN_drewN _ _ _) (congrArg (World.drewN _) (Nat.add_assoc _ _ _))⟩))))
                        try subst hji13
                        go_meet
                        case rel => exact ⟨_, (decide (t172 > 2147483647)), (by first | rfl | (simp; done) | (simp [*]; done)), H', ⟨by have := HJ2.out; first | omega | exact Nat.le_refl _⟩, ⟨by (with_reducible repeat (first | apply Kd.V_alloc | apply Kd.V_drewN | apply Kd.V_drew)); exact HO_1.out⟩, ⟨by repeat (first | (with_reducible first | exact HB.out | apply below_alloc | apply pw_below_drewN | apply below_drew1) | exact HB.out)⟩⟩
                      · rw [if_neg c23] at H
                        have c23b0 : (t190 == ((a0) % 4294967296)) = false := beq_eq_false_iff_ne.mpr c23
                        have c23b1 : (t190 != ((a0) % 4294967296)) = true := bne_iff_ne.mpr c23
                        have H' := Aside0.mk H
                        clear H
                        have q27 : ((ji13) : Int) ≤ ((l1.length : Int) : Int) := of_decide_eq_true (by first | (with_reducible assumption) | assumption)
                        obtain ⟨i027, hi027, _, hsz27, _⟩ := info_parts info5
                        have hroom27 : l1.length ≤ c1 := (Kd.V_reads' HO_1.out).2.1
                        have hC27 : Kd.F (Kd.int .u8) _ _ A1 l1.length l1 := (Kd.V_at (base := w.heap.size) HO_1.out).2.2
                        have q027 : (0 : Int) ≤ ((ji13) : Int) := of_decide_eq_true (by first | (with_reducible assumption) | assumption)
                        have hcut27 := cut_from (P := Try.prog) 23 5 .i64 Try.underlying23 hi027 1 hsz27 A1 l1.length c1 (ji13) q027 q27
                        have hr27 := Kd.F_cut (m := ((ji13) : Int).toNat) (c := c1) hC27 (by omega) hroom27
                        obtain ⟨A27, hA27⟩ : ∃ Aq_, Aq_ = (if c1 = ((ji13) : Int).toNat then A1 else (A1 : Option Addr).map (·.add (((ji13) : Int).toNat * 1))) := ⟨_, rfl⟩
                        obtain ⟨c27, hc27⟩ : ∃ cq_, cq_ = c1 - ((ji13) : Int).toNat := ⟨_, rfl⟩
                        have hy27 : y173.length = l1.length - ((ji13) : Int).toNat := (by rw [Ny173.out, List.length_drop] <;> omega)
                        rw [show (l1).drop ((ji13) : Int).toNat = y173 from Ny173.out.symm] at hr27
                        replace hr27 : Kd.F (Kd.int .u8) _ _ A27 y173.length y173 := (by rw [hA27]; exact hr27)
                        rw [← hy27, ← hA27, ← hc27] at hcut27
                        have HO177 := Aside0.mk (show Kd.V (Kd.int .u8) 5 _ w.heap.size _ (.slice A27 y173.length c27) y173 from Kd.V_mk (by rw [hy27, hc27]; exact Nat.sub_le_sub_right hroom27 _) hr27)
                        have HC177 := Aside0.mk (show y173.length ≤ c27 from by rw [hy27, hc27]; exact Nat.sub_le_sub_right hroom27 _)
                        clear hr27 hC27 hroom27 hi027 hsz27 hc27
                        have KY27 := Aside0.mk hy27
                        have KA27 := Aside0.mk hA27
                        clear hy27 hA27
                        replace q27 := eq_true q27
                        have q28 : ((ji13) : Int) ≤ ((l1.length : Int) : Int) := of_decide_eq_true (by first | (with_reducible assumption) | assumption)
                        obtain ⟨i028, hi028, _, hsz28, _⟩ := info_parts info5
                        have hroom28 : l1.length ≤ c1 := (Kd.V_reads' HO_1.out).2.1
                        have hC28 : Kd.F (Kd.int .u8) _ _ A1 l1.length l1 := (Kd.V_at (base := w.heap.size) HO_1.out).2.2
                        have hcut28 := cut_to (P := Try.prog) 23 5 .i64 Try.underlying23 hi028 A1 l1.length c1 (ji13) (of_decide_eq_true (by first | (with_reducible assumption) | assumption)) q28 hroom28
                        have hr28 := Kd.F_take (m := ((ji13) : Int).toNat) hC28 (by omega)
                        have hy28 : y179.length = ((ji13) : Int).toNat := (by rw [Ny179.out, List.length_take]; omega)
                        rw [← Ny179.out] at hr28
                        rw [← hy28] at hcut28
                        have HO183 := Aside0.mk (show Kd.V (Kd.int .u8) 5 _ w.heap.size _ (.slice A1 y179.length c1) y179 from Kd.V_mk (by omega) hr28)
                        have HC183 := Aside0.mk (show y179.length ≤ c1 from by omega)
                        clear hr28 hC28 hroom28 hi028 hsz28
                        have KY28 := Aside0.mk hy28
                        clear hy28
                        replace q28 := eq_true q28
                        have q29 : (4 : Int) ≤ ((l1.length : Int) : Int) := of_decide_eq_true (by first | (with_reducible assumption) | assumption)
                        obtain ⟨i029, hi029, _, hsz29, _⟩ := info_parts info5
                        have hroom29 : l1.length ≤ c1 := (Kd.V_reads' HO_1.out).2.1
                        have hC29 : Kd.F (Kd.int .u8) _ _ A1 l1.length l1 := (Kd.V_at (base := w.heap.size) HO_1.out).2.2
                        have hcut29 := cut_to (P := Try.prog) 23 5 .i64 Try.underlying23 hi029 A1 l1.length c1 4 (by omega) q29 hroom29
                        have hr29 := Kd.F_take (m := 4) hC29 (by omega)
                        have hy29 : y185.length = (4 : Int).toNat := (by rw [Ny185.out, List.length_take]; omega)
                        rw [← Ny185.out] at hr29
                        rw [← hy29] at hcut29
                        have HO189 := Aside0.mk (show Kd.V (Kd.int .u8) 5 _ w.heap.size _ (.slice A1 y185.length c1) y185 from Kd.V_mk (by omega) hr29)
                        have HC189 := Aside0.mk (show y185.length ≤ c1 from by omega)
                        clear hr29 hC29 hroom29 hi029 hsz29
                        have KY29 := Aside0.mk hy29
                        clear hy29
                        replace q29 := eq_true q29
                        go_wp2_with (first | (go_at_call 23; (with_reducible refine (aumbryref11_Number.calls _ _ y173 t178 _ ?side1 ?side2 A16.out).mono ?_); (case side1 => repeat (first | exact (Kd.V_reads' HO177.out).2.2 | (with_reducible refine Kd.C_alloc ?_ _) | (with_reducible refine Kd.C_drewN ?_ _) | (with_reducible refine Kd.C_drew ?_))); (case side2 => exact (Kd.V_reads' HO177.out).2.1); rintro e w' ⟨rfl, ⟨nd, rfl⟩⟩; (try first | exact ⟨rfl, _, World.drewN_drewN _ _ _⟩ | exact ⟨rfl, _, Eq.trans (World.drewN_drewN _ _ _) (congrArg (World.drewN _) (Nat.add_assoc _ _ _))⟩)) | (go_at_call 20; (with_reducible refine (aumbryref04_Sum.calls kj2 _ _ y179 t184 _ ?side1 ?side2 A19.out).mono ?_); (case side1 => repeat (first | exact (Kd.V_reads' HO183.out).2.2 | (with_reducible refine Kd.C_alloc ?_ _) | (with_reducible refine Kd.C_drewN ?_ _) | (with_reducible refine Kd.C_drew ?_))); (case side2 => exact (Kd.V_reads' HO183.out).2.1); rintro e w' ⟨rfl, ⟨nd, rfl⟩⟩; (try first | exact ⟨rfl, _, World.drewN_drewN _ _ _⟩ | exact ⟨rfl, _, Eq.trans (World.drewN_drewN _ _ _) (congrArg (World.drewN _) (Nat.add_assoc _ _ _))⟩)) | (go_at_call 23; (with_reducible refine (aumbryref11_Number.calls _ _ y185 t190 _ ?side1 ?side2 A22.out).mono ?_); (case side1 => repeat (first | exact (Kd.V_reads' HO189.out).2.2 | (with_reducible refine Kd.C_alloc ?_ _) | (with_reducible refine Kd.C_drewN ?_ _) | (with_reducible refine Kd.C_drew ?_))); (case side2 => exact (Kd.V_reads' HO189.out).2.1); rintro e w' ⟨rfl, ⟨nd, rfl⟩⟩; (try first | exact ⟨rfl, _, World.drewN_drewN _ _ _⟩ | exact ⟨rfl, _, Eq.trans (World.drewN_drewN _ _ _) (congrArg (World.drewN _) (Nat.add_assoc _ _ _))⟩)))
                        repeat (go_quiet (first | (go_at_call 23; (with_reducible refine (aumbryref11_Number.calls _ _ y173 t178 _ ?side1 ?side2 A16.out).mono ?_); (case side1 => repeat (first | exact (Kd.V_reads' HO177.out).2.2 | (with_reducible refine Kd.C_alloc ?_ _) | (with_reducible refine Kd.C_drewN ?_ _) | (with_reducible refine Kd.C_drew ?_))); (case side2 => exact (Kd.V_reads' HO177.out).2.1); rintro e w' ⟨rfl, ⟨nd, rfl⟩⟩; (try first | exact ⟨rfl, _, World.drewN_drewN _ _ _⟩ | exact ⟨rfl, _, Eq.trans (World.drewN_drewN _ _ _) (congrArg (World.drewN _) (Nat.add_assoc _ _ _))⟩)) | (go_at_call 20; (with_reducible refine (aumbryref04_Sum.calls kj2 _ _ y179 t184 _ ?side1 ?side2 A19.out).mono ?_); (case side1 => repeat (first | exact (Kd.V_reads' HO183.out).2.2 | (with_reducible refine Kd.C_alloc ?_ _) | (with_reducible refine Kd.C_drewN ?_ _) | (with_reducible refine Kd.C_drew ?_))); (case side2 => exact (Kd.V_reads' HO183.out).2.1); rintro e w' ⟨rfl, ⟨nd, rfl⟩⟩; (try first | exact ⟨rfl, _, World.drewN_drewN _ _ _⟩ | exact ⟨rfl, _, Eq.trans (World.drewN_drewN _ _ _) (congrArg (World.drewN _) (Nat.add_assoc _ _ _))⟩)) | (go_at_call 23; (with_reducible refine (aumbryref11_Number.calls _ _ y185 t190 _ ?side1 ?side2 A22.out).mono ?_); (case side1 => repeat (first | exact (Kd.V_reads' HO189.out).2.2 | (with_reducible refine Kd.C_alloc ?_ _) | (with_reducible refine Kd.C_drewN ?_ _) | (with_reducible refine Kd.C_drew ?_))); (case side2 => exact (Kd.V_reads' HO189.out).2.1); rintro e w' ⟨rfl, ⟨nd, rfl⟩⟩; (try first | exact ⟨rfl, _, World.drewN_drewN _ _ _⟩ | exact ⟨rfl, _, Eq.trans (World.drewN_drewN _ _ _) (congrArg (World.drewN _) (Nat.add_assoc _ _ _))⟩))); try go_wp2_with (first | (go_at_call 23; (with_reducible refine (aumbryref11_Number.calls _ _ y173 t178 _ ?side1 ?side2 A16.out).mono ?_); (case side1 => repeat (first | exact (Kd.V_reads' HO177.out).2.2 | (with_reducible refine Kd.C_alloc ?_ _) | (with_reducible refine Kd.C_drewN ?_ _) | (with_reducible refine Kd.C_drew ?_))); (case side2 => exact (Kd.V_reads' HO177.out).2.1); rintro e w' ⟨rfl, ⟨nd, rfl⟩⟩; (try first | exact ⟨rfl, _, World.drewN_drewN _ _ _⟩ | exact ⟨rfl, _, Eq.trans (World.drewN_drewN _ _ _) (congrArg (World.drewN _) (Nat.add_assoc _ _ _))⟩)) | (go_at_call 20; (with_reducible refine (aumbryref04_Sum.calls kj2 _ _ y179 t184 _ ?side1 ?side2 A19.out).mono ?_); (case side1 => repeat (first | exact (Kd.V_reads' HO183.out).2.2 | (with_reducible refine Kd.C_alloc ?_ _) | (with_reducible refine Kd.C_drewN ?_ _) | (with_reducible refine Kd.C_drew ?_))); (case side2 => exact (Kd.V_reads' HO183.out).2.1); rintro e w' ⟨rfl, ⟨nd, rfl⟩⟩; (try first | exact ⟨rfl, _, World.drewN_drewN _ _ _⟩ | exact ⟨rfl, _, Eq.trans (World.drewN_drewN _ _ _) (congrArg (World.drewN _) (Nat.add_assoc _ _ _))⟩)) | (go_at_call 23; (with_reducible refine (aumbryref11_Number.calls _ _ y185 t190 _ ?side1 ?side2 A22.out).mono ?_); (case side1 => repeat (first | exact (Kd.V_reads' HO189.out).2.2 | (with_reducible refine Kd.C_alloc ?_ _) | (with_reducible refine Kd.C_drewN ?_ _) | (with_reducible refine Kd.C_drew ?_))); (case side2 => exact (Kd.V_reads' HO189.out).2.1); rintro e w' ⟨rfl, ⟨nd, rfl⟩⟩; (try first | exact ⟨rfl, _, World.drewN_drewN _ _ _⟩ | exact ⟨rfl, _, Eq.trans (World.drewN_drewN _ _ _) (congrArg (World.drewN _) (Nat.add_assoc _ _ _))⟩))))
                        try subst hji13
                        go_meet
                        case rel => exact ⟨_, (true), (by first | rfl | (simp; done) | (simp [*]; done)), H', ⟨by have := HJ2.out; first | omega | exact Nat.le_refl _⟩, ⟨by (with_reducible repeat (first | apply Kd.V_alloc | apply Kd.V_drewN | apply Kd.V_drew)); exact HO_1.out⟩, ⟨by repeat (first | (with_reducible first | exact HB.out | apply below_alloc | apply pw_below_drewN | apply below_drew1) | exact HB.out)⟩⟩
                    · rw [if_neg c21] at H
                      exact absurd H (by simp)
                  · rw [if_neg c20] at H
                    have c20b0 : (t178 == t184) = false := beq_eq_false_iff_ne.mpr c20
                    have c20b1 : (t178 != t184) = true := bne_iff_ne.mpr c20
                    (first | rw [c20b0] | (simp only [i64_w, i32_w]; rw [c20b0]) | skip)
                    have H' := Aside0.mk H
                    clear H
                    have q30 : ((ji13) : Int) ≤ ((l1.length : Int) : Int) := of_decide_eq_true (by first | (with_reducible assumption) | assumption)
                    obtain ⟨i030, hi030, _, hsz30, _⟩ := info_parts info5
                    have hroom30 : l1.length ≤ c1 := (Kd.V_reads' HO_1.out).2.1
                    have hC30 : Kd.F (Kd.int .u8) _ _ A1 l1.length l1 := (Kd.V_at (base := w.heap.size) HO_1.out).2.2
                    have q030 : (0 : Int) ≤ ((ji13) : Int) := of_decide_eq_true (by first | (with_reducible assumption) | assumption)
                    have hcut30 := cut_from (P := Try.prog) 23 5 .i64 Try.underlying23 hi030 1 hsz30 A1 l1.length c1 (ji13) q030 q30
                    have hr30 := Kd.F_cut (m := ((ji13) : Int).toNat) (c := c1) hC30 (by omega) hroom30
                    obtain ⟨A30, hA30⟩ : ∃ Aq_, Aq_ = (if c1 = ((ji13) : Int).toNat then A1 else (A1 : Option Addr).map (·.add (((ji13) : Int).toNat * 1))) := ⟨_, rfl⟩
                    obtain ⟨c30, hc30⟩ : ∃ cq_, cq_ = c1 - ((ji13) : Int).toNat := ⟨_, rfl⟩
                    have hy30 : y173.length = l1.length - ((ji13) : Int).toNat := (by rw [Ny173.out, List.length_drop] <;> omega)
                    rw [show (l1).drop ((ji13) : Int).toNat = y173 from Ny173.out.symm] at hr30
                    replace hr30 : Kd.F (Kd.int .u8) _ _ A30 y173.length y173 := (by rw [hA30]; exact hr30)
                    rw [← hy30, ← hA30, ← hc30] at hcut30
                    have HO177 := Aside0.mk (show Kd.V (Kd.int .u8) 5 _ w.heap.size _ (.slice A30 y173.length c30) y173 from Kd.V_mk (by rw [hy30, hc30]; exact Nat.sub_le_sub_right hroom30 _) hr30)
                    have HC177 := Aside0.mk (show y173.length ≤ c30 from by rw [hy30, hc30]; exact Nat.sub_le_sub_right hroom30 _)
                    clear hr30 hC30 hroom30 hi030 hsz30 hc30
                    have KY30 := Aside0.mk hy30
                    have KA30 := Aside0.mk hA30
                    clear hy30 hA30
                    replace q30 := eq_true q30
                    have q31 : ((ji13) : Int) ≤ ((l1.length : Int) : Int) := of_decide_eq_true (by first | (with_reducible assumption) | assumption)
                    obtain ⟨i031, hi031, _, hsz31, _⟩ := info_parts info5
                    have hroom31 : l1.length ≤ c1 := (Kd.V_reads' HO_1.out).2.1
                    have hC31 : Kd.F (Kd.int .u8) _ _ A1 l1.length l1 := (Kd.V_at (base := w.heap.size) HO_1.out).2.2
                    have hcut31 := cut_to (P := Try.prog) 23 5 .i64 Try.underlying23 hi031 A1 l1.length c1 (ji13) (of_decide_eq_true (by first | (with_reducible assumption) | assumption)) q31 hroom31
                    have hr31 := Kd.F_take (m := ((ji13) : Int).toNat) hC31 (by omega)
                    have hy31 : y179.length = ((ji13) : Int).toNat := (by rw [Ny179.out, List.length_take]; omega)
                    rw [← Ny179.out] at hr31
                    rw [← hy31] at hcut31
                    have HO183 := Aside0.mk (show Kd.V (Kd.int .u8) 5 _ w.heap.size _ (.slice A1 y179.length c1) y179 from Kd.V_mk (by omega) hr31)
                    have HC183 := Aside0.mk (show y179.length ≤ c1 from by omega)
                    clear hr31 hC31 hroom31 hi031 hsz31
                    have KY31 := Aside0.mk hy31
                    clear hy31
                    replace q31 := eq_true q31
                    go_wp2_with (first | (go_at_call 23; (with_reducible refine (aumbryref11_Number.calls _ _ y173 t178 _ ?side1 ?side2 A16.out).mono ?_); (case side1 => repeat (first | exact (Kd.V_reads' HO177.out).2.2 | (with_reducible refine Kd.C_alloc ?_ _) | (with_reducible refine Kd.C_drewN ?_ _) | (with_reducible refine Kd.C_drew ?_))); (case side2 => exact (Kd.V_reads' HO177.out).2.1); rintro e w' ⟨rfl, ⟨nd, rfl⟩⟩; (try first | exact ⟨rfl, _, World.drewN_drewN _ _ _⟩ | exact ⟨rfl, _, Eq.trans (World.drewN_drewN _ _ _) (congrArg (World.drewN _) (Nat.add_assoc _ _ _))⟩)) | (go_at_call 20; (with_reducible refine (aumbryref04_Sum.calls kj2 _ _ y179 t184 _ ?side1 ?side2 A19.out).mono ?_); (case side1 => repeat (first | exact (Kd.V_reads' HO183.out).2.2 | (with_reducible refine Kd.C_alloc ?_ _) | (with_reducible refine Kd.C_drewN ?_ _) | (with_reducible refine Kd.C_drew ?_))); (case side2 => exact (Kd.V_reads' HO183.out).2.1); rintro e w' ⟨rfl, ⟨nd, rfl⟩⟩; (try first | exact ⟨rfl, _, World.drewN_drewN _ _ _⟩ | exact ⟨rfl, _, Eq.trans (World.drewN_drewN _ _ _) (congrArg (World.drewN _) (Nat.add_assoc _ _ _))⟩)))
                    repeat (go_quiet (first | (go_at_call 23; (with_reducible refine (aumbryref11_Number.calls _ _ y173 t178 _ ?side1 ?side2 A16.out).mono ?_); (case side1 => repeat (first | exact (Kd.V_reads' HO177.out).2.2 | (with_reducible refine Kd.C_alloc ?_ _) | (with_reducible refine Kd.C_drewN ?_ _) | (with_reducible refine Kd.C_drew ?_))); (case side2 => exact (Kd.V_reads' HO177.out).2.1); rintro e w' ⟨rfl, ⟨nd, rfl⟩⟩; (try first | exact ⟨rfl, _, World.drewN_drewN _ _ _⟩ | exact ⟨rfl, _, Eq.trans (World.drewN_drewN _ _ _) (congrArg (World.drewN _) (Nat.add_assoc _ _ _))⟩)) | (go_at_call 20; (with_reducible refine (aumbryref04_Sum.calls kj2 _ _ y179 t184 _ ?side1 ?side2 A19.out).mono ?_); (case side1 => repeat (first | exact (Kd.V_reads' HO183.out).2.2 | (with_reducible refine Kd.C_alloc ?_ _) | (with_reducible refine Kd.C_drewN ?_ _) | (with_reducible refine Kd.C_drew ?_))); (case side2 => exact (Kd.V_reads' HO183.out).2.1); rintro e w' ⟨rfl, ⟨nd, rfl⟩⟩; (try first | exact ⟨rfl, _, World.drewN_drewN _ _ _⟩ | exact ⟨rfl, _, Eq.trans (World.drewN_drewN _ _ _) (congrArg (World.drewN _) (Nat.add_assoc _ _ _))⟩))); try go_wp2_with (first | (go_at_call 23; (with_reducible refine (aumbryref11_Number.calls _ _ y173 t178 _ ?side1 ?side2 A16.out).mono ?_); (case side1 => repeat (first | exact (Kd.V_reads' HO177.out).2.2 | (with_reducible refine Kd.C_alloc ?_ _) | (with_reducible refine Kd.C_drewN ?_ _) | (with_reducible refine Kd.C_drew ?_))); (case side2 => exact (Kd.V_reads' HO177.out).2.1); rintro e w' ⟨rfl, ⟨nd, rfl⟩⟩; (try first | exact ⟨rfl, _, World.drewN_drewN _ _ _⟩ | exact ⟨rfl, _, Eq.trans (World.drewN_drewN _ _ _) (congrArg (World.drewN _) (Nat.add_assoc _ _ _))⟩)) | (go_at_call 20; (with_reducible refine (aumbryref04_Sum.calls kj2 _ _ y179 t184 _ ?side1 ?side2 A19.out).mono ?_); (case side1 => repeat (first | exact (Kd.V_reads' HO183.out).2.2 | (with_reducible refine Kd.C_alloc ?_ _) | (with_reducible refine Kd.C_drewN ?_ _) | (with_reducible refine Kd.C_drew ?_))); (case side2 => exact (Kd.V_reads' HO183.out).2.1); rintro e w' ⟨rfl, ⟨nd, rfl⟩⟩; (try first | exact ⟨rfl, _, World.drewN_drewN _ _ _⟩ | exact ⟨rfl, _, Eq.trans (World.drewN_drewN _ _ _) (congrArg (World.drewN _) (Nat.add_assoc _ _ _))⟩))))
                    try subst hji13
                    go_meet
                    case rel => exact ⟨_, (true), (by first | rfl | (simp; done) | (simp [*]; done)), H', ⟨by have := HJ2.out; first | omega | exact Nat.le_refl _⟩, ⟨by (with_reducible repeat (first | apply Kd.V_alloc | apply Kd.V_drewN | apply Kd.V_drew)); exact HO_1.out⟩, ⟨by repeat (first | (with_reducible first | exact HB.out | apply below_alloc | apply pw_below_drewN | apply below_drew1) | exact HB.out)⟩⟩
                · rw [if_neg c15] at H
                  exact absurd H (by simp)
              · rw [if_neg c14] at H
                exact absurd H (by simp)
            case rest =>
              clear HC11
              try clear c1
              try clear q1
              try clear c2
              try clear p2
              try clear q2
              try clear c3
              try clear q3
              try clear c4
              try clear c4b0
              try clear c5
              try clear c5b0
              try clear c6
              try clear c6b0
              try clear p6
              try clear c7
              try clear c8
              try clear c8b0
              try clear c8b1
              try clear c9
              try clear c9b0
              try clear c9b1
              try clear c12
              try clear q12
              try clear c13
              try clear c14
              try clear c14b0
              try clear c14b1
              try clear c15
              try clear c15b0
              try clear c15b1
              try clear c17
              try clear c17b0
              try clear c18
              try clear c18b0
              try clear c20
              try clear c20b0
              try clear c20b1
              try clear c21
              try clear c21b0
              try clear c21b1
              try clear c23
              try clear c23b0
              try clear c23b1
              try clear c24
              try clear q24
              try clear q25
              try clear q26
              try clear c27
              try clear q27
              try clear q28
              try clear q29
              try clear c30
              try clear q30
              try clear q31
              try clear p2
              try clear p6
              try clear q024
              try clear q027
              try clear q030
              try clear q12
              try clear q24
              try clear q25
              try clear q26
              try clear q27
              try clear q28
              try clear q29
              try clear q30
              try clear q31
              obtain ⟨kq, x49_10, rfl, HA, HJ10, HO_1, HB⟩ := hcut
              cases kq with
              | zero => exact absurd HA.out (by simp [aumbryref11_Unpack.j1])
              | succ kj10 =>
                have H := HA.out
                clear HA
                simp only [aumbryref11_Unpack.j1] at H
                by_cases c32 : x49_10 = true
                · subst c32
                  have H1 : (some (0, ([] : List Int), 110)) = some (r1, r2, r3) := by rw [if_pos rfl] at H; exact H
                  clear H
                  have H := H1
                  clear H1
                  simp only [Option.some.injEq, Prod.mk.injEq] at H
                  obtain ⟨rfl, rfl, rfl⟩ := H
                  go_wp2
                  repeat (go_quiet (fail); try go_wp2)
                  go_ret3
                  exact ⟨_, by first | rfl | (simp [errW_none, errW_some] <;> rfl) | (simp [*, errW_none, errW_some] <;> rfl), Kd.V_nil _ _ _ _ _, by repeat (first | (with_reducible first | exact HB.out | apply below_alloc | apply pw_below_drewN | apply below_drew1) | exact HB.out)⟩
                · replace c32 := Bool.eq_false_iff.mpr c32
                  subst c32
                  have H1 : (if 8 ≤ (wrap64 ((l1.length : Int) - 4)) then (if (wrap64 ((l1.length : Int) - 4)) ≤ (l1.length : Int) then (some (wrap64 (t172), ((l1.take ((wrap64 ((l1.length : Int) - 4)) : Int).toNat).drop 8), 0)) else (none)) else (none)) = some (r1, r2, r3) := by rw [if_neg (show ¬ (false = true) by decide)] at H; exact H
                  clear H
                  have H := H1
                  clear H1
                  by_cases c33 : 8 ≤ (wrap64 ((l1.length : Int) - 4))
                  · rw [if_pos c33] at H
                    have c33b0 := eq_true c33
                    have c33b1 : decide (8 ≤ (wrap64 ((l1.length : Int) - 4))) = true := decide_eq_true c33
                    clear c33
                    by_cases c34 : (wrap64 ((l1.length : Int) - 4)) ≤ (l1.length : Int)
                    · rw [if_pos c34] at H
                      have c34b0 := eq_true c34
                      have c34b1 : decide ((wrap64 ((l1.length : Int) - 4)) ≤ (l1.length : Int)) = true := decide_eq_true c34
                      clear c34
                      obtain ⟨y191, hy191⟩ : ∃ y_ : List Int, y_ = ((l1.take ((wrap64 ((l1.length : Int) - 4)) : Int).toNat).drop 8) := ⟨_, rfl⟩
                      replace H : (some (wrap64 (t172), y191, 0)) = some (r1, r2, r3) := by first | (rw [hy191]; with_reducible exact H) | (have H2_ := (Option.bind_some _ _).symm.trans H; rw [hy191]; with_reducible exact H2_) | (have H2_ := (Option.bind_some _ _).symm.trans H; with_reducible exact H2_) | with_reducible exact H | (rw [hy191]; exact H) | exact H
                      have Ny191 := Aside0.mk hy191
                      clear hy191
                      simp only [Option.some.injEq, Prod.mk.injEq] at H
                      obtain ⟨rfl, rfl, rfl⟩ := H
                      have q35 : ((wrap64 ((l1.length : Int) - 4)) : Int) ≤ ((l1.length : Int) : Int) := of_decide_eq_true (by first | (with_reducible assumption) | assumption)
                      obtain ⟨i035, hi035, _, hsz35, _⟩ := info_parts info5
                      have hroom35 : l1.length ≤ c1 := (Kd.V_reads' HO_1.out).2.1
                      have hC35 : Kd.F (Kd.int .u8) _ _ A1 l1.length l1 := (Kd.V_at (base := w.heap.size) HO_1.out).2.2
                      have ql35 : (8 : Int) ≤ ((wrap64 ((l1.length : Int) - 4)) : Int) := of_decide_eq_true (by first | (with_reducible assumption) | assumption)
                      have hcut35 := cut_mid (P := Try.prog) 23 5 .i64 .i64 Try.underlying23 hi035 1 hsz35 A1 l1.length c1 8 (wrap64 ((l1.length : Int) - 4)) (by omega) ql35 q35 hroom35
                      have hr35 := Kd.F_mid (lo := (8 : Int).toNat) (hi := ((wrap64 ((l1.length : Int) - 4)) : Int).toNat) (c := c1) hC35 (by omega) (by omega) hroom35
                      obtain ⟨A35, hA35⟩ : ∃ Aq_, Aq_ = (if c1 = (8 : Int).toNat then A1 else (A1 : Option Addr).map (·.add ((8 : Int).toNat * 1))) := ⟨_, rfl⟩
                      obtain ⟨c35, hc35⟩ : ∃ cq_, cq_ = c1 - (8 : Int).toNat := ⟨_, rfl⟩
                      have hy35 : y191.length = ((wrap64 ((l1.length : Int) - 4)) : Int).toNat - (8 : Int).toNat := (by rw [Ny191.out, List.length_drop, List.length_take] <;> omega)
                      rw [show ((l1).take ((wrap64 ((l1.length : Int) - 4)) : Int).toNat).drop (8 : Int).toNat = y191 from Ny191.out.symm] at hr35
                      replace hr35 : Kd.F (Kd.int .u8) _ _ A35 y191.length y191 := (by rw [hA35]; exact hr35)
                      rw [← hy35, ← hA35, ← hc35] at hcut35
                      have HO195 := Aside0.mk (show Kd.V (Kd.int .u8) 5 _ w.heap.size _ (.slice A35 y191.length c35) y191 from Kd.V_mk (by rw [hy35, hc35]; exact Nat.sub_le_sub_right (Nat.le_trans (by omega) hroom35) _) hr35)
                      have HC195 := Aside0.mk (show y191.length ≤ c35 from by rw [hy35, hc35]; exact Nat.sub_le_sub_right (Nat.le_trans (by omega) hroom35) _)
                      clear hr35 hC35 hroom35 hi035 hsz35 hc35
                      have KY35 := Aside0.mk hy35
                      have KA35 := Aside0.mk hA35
                      clear hy35 hA35
                      replace q35 := eq_true q35
                      go_wp2
                      repeat (go_quiet (fail); try go_wp2)
                      go_ret3
                      exact ⟨_, by first | rfl | (simp [errW_none, errW_some] <;> rfl) | (simp [*, errW_none, errW_some] <;> rfl), by (with_reducible repeat (first | apply Kd.V_alloc | apply Kd.V_drewN | apply Kd.V_drew)); exact HO195.out, by repeat (first | (with_reducible first | exact HB.out | apply below_alloc | apply pw_below_drewN | apply below_drew1) | exact HB.out)⟩
                    · rw [if_neg c34] at H
                      exact absurd H (by simp)
                  · rw [if_neg c33] at H
                    exact absurd H (by simp)
          · rw [if_neg c9] at H
            exact absurd H (by simp)
        · rw [if_neg c8] at H
          exact absurd H (by simp)

/-! ### aumbryref02_Same: function 14 -/
def aumbryref02_Same.l0 : Nat → List Int → List Int → Int → Option (Bool)
  | 0, _, _, _ => none
  | k + 1, x0, x1, x5 => if x5 < (x0.length : Int) then (if 0 ≤ x5 then (if x5 < (x1.length : Int) then (if (rd x0 x5) = (rd x1 x5) then (aumbryref02_Same.l0 k x0 x1 (wrap64 (x5 + 1))) else (some false)) else (none)) else (none)) else (some true)
def aumbryref02_Same.f (k : Nat) (l0 : List Int) (l1 : List Int) : Option (Bool) := if (l0.length : Int) = (l1.length : Int) then (aumbryref02_Same.l0 k l0 l1 0) else (some false)
theorem aumbryref02_Same.mono_l : ∀ k, (∀ y0 y1 y2, LeO (aumbryref02_Same.l0 k y0 y1 y2) (aumbryref02_Same.l0 (k + 1) y0 y1 y2))
  | 0 => fun _ _ _ r h => by simp [aumbryref02_Same.l0] at h
  | k + 1 => by
    have ih0 := aumbryref02_Same.mono_l k
    · intro y0 y1 y2
      unfold aumbryref02_Same.l0
      repeat' first
      | (with_reducible exact ih0 _ _ _)
      | (with_reducible exact LeO.refl _)
      | (with_reducible exact LeO.none _)
      | (with_reducible refine LeO.ite ?_ ?_)
      | (with_reducible refine LeO.bind ?_ (fun _ => ?_))
      | exact ih0 _ _ _
      | exact LeO.none _
      | refine LeO.ite ?_ ?_
      | refine LeO.bind ?_ (fun _ => ?_)
theorem aumbryref02_Same.mono : ∀ a0 a1 k, LeO (aumbryref02_Same.f k a0 a1) (aumbryref02_Same.f (k + 1) a0 a1) := by
  intro a0 a1 k
  have ih0 := aumbryref02_Same.mono_l k
  unfold aumbryref02_Same.f
  repeat' first
      | (with_reducible exact ih0 _ _ _)
      | (with_reducible exact LeO.refl _)
      | (with_reducible exact LeO.none _)
      | (with_reducible refine LeO.ite ?_ ?_)
      | (with_reducible refine LeO.bind ?_ (fun _ => ?_))
      | exact ih0 _ _ _
      | exact LeO.none _
      | refine LeO.ite ?_ ?_
      | refine LeO.bind ?_ (fun _ => ?_)
set_option maxHeartbeats 8000000 in
set_option maxRecDepth 100000 in
theorem aumbryref02_Same.calls (k : Nat) (A0 : Option Addr) (c0 : Nat) (l0 : List Int) (A1 : Option Addr) (c1 : Nat) (l1 : List Int) (r : Bool) (w : World) (hr0 : Kd.C (Kd.int .u8) w A0 l0.length l0) (hc0 : l0.length ≤ c0) (hr1 : Kd.C (Kd.int .u8) w A1 l1.length l1) (hc1 : l1.length ≤ c1) (h : aumbryref02_Same.f k l0 l1 = some r) :
    Calls Try.prog 14 #[.slice A0 l0.length c0, .slice A1 l1.length c1] w fun e w' => e = .returned (.bool r) ∧ Drawn0 w w' := by
  have HR0 := Aside0.mk hr0
  have HC0 := Aside0.mk hc0
  clear hr0 hc0
  have HR1 := Aside0.mk hr1
  have HC1 := Aside0.mk hc1
  clear hr1 hc1
  have H : (if (l0.length : Int) = (l1.length : Int) then (aumbryref02_Same.l0 k l0 l1 0) else (some false)) = some r := h
  clear h
  by_cases c3 : (l0.length : Int) = (l1.length : Int)
  · rw [if_pos c3] at H
    have c3b0 : ((l0.length : Int) == (l1.length : Int)) = true := beq_iff_eq.mpr c3
    have c3b1 : ((l0.length : Int) != (l1.length : Int)) = false := bne_eq_false_iff_eq.mpr c3
    have c3b2 : (l0.length == l1.length) = true := by first | simpa using c3 | (simp at c3 ⊢; omega)
    clear c3
    have H' := Aside0.mk H
    clear H
    go_enter Try.func14, Try.ntmps14
    go_wp2
    repeat (go_quiet (fail); try go_wp2)
    go_loopg [5] k (fun kq v5 w' => ∃ (x5_1 : Int), v5 = .int .i64 x5_1 ∧ Aside0 (aumbryref02_Same.l0 kq l0 l1 x5_1 = some r) ∧ Aside0 (kq ≤ k) ∧ Drawn0 w w')
    case atStart => exact ⟨(0), (by first | rfl | (simp; done) | (simp [*]; done)), H', ⟨Nat.le_refl _⟩, by repeat (first | exact Drawn0.refl _ | apply Drawn0.step)⟩
    case round =>
      clear H'
      try clear c1
      try clear p2
      try clear c3
      try clear c3b0
      try clear c3b1
      try clear c3b2
      obtain ⟨x5_1, rfl, HA, HK1, ⟨m1, rfl⟩⟩ := hrel
      cases gk with
      | zero => exact absurd HA.out (by simp [aumbryref02_Same.l0])
      | succ k1 =>
        have H := HA.out
        clear HA
        simp only [aumbryref02_Same.l0] at H
        by_cases c4 : x5_1 < (l0.length : Int)
        · rw [if_pos c4] at H
          have c4b0 : decide (x5_1 < (l0.length : Int)) = true := decide_eq_true c4
          clear c4
          by_cases c5 : 0 ≤ x5_1
          · rw [if_pos c5] at H
            have c5b0 : decide (0 ≤ x5_1) = true := decide_eq_true c5
            clear c5
            by_cases c6 : x5_1 < (l1.length : Int)
            · rw [if_pos c6] at H
              have c6b0 : decide (x5_1 < (l1.length : Int)) = true := decide_eq_true c6
              clear c6
              by_cases c7 : (rd l0 x5_1) = (rd l1 x5_1)
              · rw [if_pos c7] at H
                have c7b0 : ((rd l0 x5_1) == (rd l1 x5_1)) = true := beq_iff_eq.mpr c7
                have c7b1 : ((rd l0 x5_1) != (rd l1 x5_1)) = false := bne_eq_false_iff_eq.mpr c7
                clear c7
                have H' := Aside0.mk H
                clear H
                have p196 : 0 ≤ (x5_1 : Int) := of_decide_eq_true (by first | (with_reducible assumption) | assumption)
                have q196 : x5_1 < (l0.length : Int) := of_decide_eq_true (by first | (with_reducible assumption) | assumption)
                obtain ⟨ad196, e196, hx196_0⟩ := Kd.at_int HR0.out x5_1 p196 q196
                cases e196
                replace p196 := eq_true p196
                replace q196 := eq_true q196
                have p197 : 0 ≤ (x5_1 : Int) := of_decide_eq_true (by first | (with_reducible assumption) | assumption)
                have q197 : x5_1 < (l1.length : Int) := of_decide_eq_true (by first | (with_reducible assumption) | assumption)
                obtain ⟨ad197, e197, hx197_0⟩ := Kd.at_int HR1.out x5_1 p197 q197
                cases e197
                replace p197 := eq_true p197
                replace q197 := eq_true q197
                go_wp2
                repeat (go_quiet (fail); try go_wp2)
                go_roundg k1
                case measure => have := HK1.out; omega
                case rel => exact ⟨(wrap64 (x5_1 + 1)), (by first | rfl | (simp; done) | (simp [*]; done)), H', ⟨by have := HK1.out; omega⟩, by repeat (first | exact Drawn0.refl _ | apply Drawn0.step)⟩
              · rw [if_neg c7] at H
                have c7b0 : ((rd l0 x5_1) == (rd l1 x5_1)) = false := beq_eq_false_iff_ne.mpr c7
                have c7b1 : ((rd l0 x5_1) != (rd l1 x5_1)) = true := bne_iff_ne.mpr c7
                obtain rfl := Option.some.inj H
                have p196 : 0 ≤ (x5_1 : Int) := of_decide_eq_true (by first | (with_reducible assumption) | assumption)
                have q196 : x5_1 < (l0.length : Int) := of_decide_eq_true (by first | (with_reducible assumption) | assumption)
                obtain ⟨ad196, e196, hx196_0⟩ := Kd.at_int HR0.out x5_1 p196 q196
                cases e196
                replace p196 := eq_true p196
                replace q196 := eq_true q196
                have p197 : 0 ≤ (x5_1 : Int) := of_decide_eq_true (by first | (with_reducible assumption) | assumption)
                have q197 : x5_1 < (l1.length : Int) := of_decide_eq_true (by first | (with_reducible assumption) | assumption)
                obtain ⟨ad197, e197, hx197_0⟩ := Kd.at_int HR1.out x5_1 p197 q197
                cases e197
                replace p197 := eq_true p197
                replace q197 := eq_true q197
                go_wp2
                repeat (go_quiet (fail); try go_wp2)
                go_ret
                exact ⟨by first | rfl | (simp; done) | (simp [*]; done), by repeat (first | exact Drawn0.refl _ | apply Drawn0.step)⟩
            · rw [if_neg c6] at H
              exact absurd H (by simp)
          · rw [if_neg c5] at H
            exact absurd H (by simp)
        · rw [if_neg c4] at H
          have c4b0 : decide (x5_1 < (l0.length : Int)) = false := decide_eq_false c4
          clear c4
          obtain rfl := Option.some.inj H
          go_wp2
          repeat (go_quiet (fail); try go_wp2)
          go_ret
          exact ⟨by first | rfl | (simp; done) | (simp [*]; done), by repeat (first | exact Drawn0.refl _ | apply Drawn0.step)⟩
  · rw [if_neg c3] at H
    have c3b0 : ((l0.length : Int) == (l1.length : Int)) = false := beq_eq_false_iff_ne.mpr c3
    have c3b1 : ((l0.length : Int) != (l1.length : Int)) = true := bne_iff_ne.mpr c3
    have c3b2 : (l0.length == l1.length) = false := by first | simpa using c3 | (simp at c3 ⊢; omega)
    obtain rfl := Option.some.inj H
    go_enter Try.func14, Try.ntmps14
    go_wp2
    repeat (go_quiet (fail); try go_wp2)
    go_ret
    exact ⟨by first | rfl | (simp; done) | (simp [*]; done), by repeat (first | exact Drawn0.refl _ | apply Drawn0.step)⟩

end Go.Proofs.Ytlkdhcpiglonjaa.PAll
