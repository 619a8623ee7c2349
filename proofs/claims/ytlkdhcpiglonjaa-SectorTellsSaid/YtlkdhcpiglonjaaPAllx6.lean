-- LAID BY A PROGRAM OF THIS SESSION (wip/tools: the kit's print with changes of our own)
import Derived.Test.YtlkdhcpiglonjaaPAllx0
import Derived.Test.YtlkdhcpiglonjaaPAllx1
import Derived.Test.YtlkdhcpiglonjaaPAllx2
import Derived.Test.YtlkdhcpiglonjaaPAllx4
namespace Go.Proofs.Ytlkdhcpiglonjaa.PAll
open Go.RowKit Go.Proofs.YtlkdhcpiglonjaaW.PrintWords Go.Proofs.YtlkdhcpiglonjaaW.PrintLast Go.Proofs.YtlkdhcpiglonjaaW.PrintMore
attribute [local go_sem] max2_int min2_int max_two min_two max_three min_three max_four min_four   -- for this text's walks alone
set_option linter.unusedVariables false
set_option linter.unusedSimpArgs false

/-! ### aumbrylaw11_SectorTells: function 6 -/
def aumbrylaw11_SectorTells.j0 : Nat → Int → Int → Int → Bool → List Int → Bool → Option (Bool)
  | 0, _, _, _, _, _, _ => none
  | k + 1, x0, x3, x4, x11, x12, x41 => if x41 = true then (some x11) else (if x3 < 0 then (if (x12.length : Int) = 0 then (none) else ((some (([] : List Int) : List Int)).bind fun y250 => (if y250.length + x12.length < 140737488355328 then ((some (y250 ++ x12 : List Int)).bind fun y253 => (if 0 ≤ (Int.tmod (wrap64 (-(wrap64 (x3 + 1)))) (x12.length : Int)) then (if (Int.tmod (wrap64 (-(wrap64 (x3 + 1)))) (x12.length : Int)) < (y253.length : Int) then ((sector_Unpack.f k x0 (y253.set ((Int.tmod (wrap64 (-(wrap64 (x3 + 1)))) (x12.length : Int)) : Int).toNat (Go.bits .xor .u8 (rd y253 (Int.tmod (wrap64 (-(wrap64 (x3 + 1)))) (x12.length : Int))) x4))).bind fun bt258 => (if x11 = true then (some (bt258.2.2 == 110)) else (some false))) else (none)) else (none))) else (none)))) else (if (x12.length : Int) = 0 then (none) else ((some (([] : List Int) : List Int)).bind fun y263 => (if y263.length + x12.length < 140737488355328 then ((some (y263 ++ x12 : List Int)).bind fun y266 => (if 0 ≤ (Int.tmod x3 (x12.length : Int)) then (if (Int.tmod x3 (x12.length : Int)) < (y266.length : Int) then ((sector_Unpack.f k x0 (y266.set ((Int.tmod x3 (x12.length : Int)) : Int).toNat (Go.bits .xor .u8 (rd y266 (Int.tmod x3 (x12.length : Int))) x4))).bind fun bt271 => (if x11 = true then (some (bt271.2.2 == 110)) else (some false))) else (none)) else (none))) else (none)))))
def aumbrylaw11_SectorTells.f (k : Nat) (a0 : Int) (a1 : Int) (l2 : List Int) (a3 : Int) (a4 : Int) : Option (Bool) := (aumbrylaw11_awake.f k).bind fun t245 => ((sector_Pack.f k a0 a1 l2).bind fun bt246 => (if bt246.2 = 0 then (if (l2.length : Int) > 3000 then (aumbrylaw11_SectorTells.j0 k a0 a3 a4 t245 bt246.1 true) else (if a4 = 0 then (aumbrylaw11_SectorTells.j0 k a0 a3 a4 t245 bt246.1 true) else (aumbrylaw11_SectorTells.j0 k a0 a3 a4 t245 bt246.1 ((bt246.1.length : Int) == 0)))) else (aumbrylaw11_SectorTells.j0 k a0 a3 a4 t245 bt246.1 true)))
theorem aumbrylaw11_SectorTells.mono_l : ∀ k, (∀ y0 y1 y2 y3 y4 y5, LeO (aumbrylaw11_SectorTells.j0 k y0 y1 y2 y3 y4 y5) (aumbrylaw11_SectorTells.j0 (k + 1) y0 y1 y2 y3 y4 y5))
  | 0 => fun _ _ _ _ _ _ r h => by simp [aumbrylaw11_SectorTells.j0] at h
  | k + 1 => by
    have ih0 := aumbrylaw11_SectorTells.mono_l k
    · intro y0 y1 y2 y3 y4 y5
      unfold aumbrylaw11_SectorTells.j0
      repeat' first
      | (with_reducible exact ih0 _ _ _ _ _ _)
      | (with_reducible exact aumbrylaw11_awake.mono _)
      | (with_reducible exact sector_Pack.mono _ _ _ _)
      | (with_reducible exact sector_Unpack.mono _ _ _)
      | (with_reducible exact LeO.refl _)
      | (with_reducible exact LeO.none _)
      | (with_reducible refine LeO.ite ?_ ?_)
      | (with_reducible refine LeO.bind ?_ (fun _ => ?_))
      | exact ih0 _ _ _ _ _ _
      | exact aumbrylaw11_awake.mono _
      | exact sector_Pack.mono _ _ _ _
      | exact sector_Unpack.mono _ _ _
      | exact LeO.none _
      | refine LeO.ite ?_ ?_
      | refine LeO.bind ?_ (fun _ => ?_)
theorem aumbrylaw11_SectorTells.mono : ∀ a0 a1 a2 a3 a4 k, LeO (aumbrylaw11_SectorTells.f k a0 a1 a2 a3 a4) (aumbrylaw11_SectorTells.f (k + 1) a0 a1 a2 a3 a4) := by
  intro a0 a1 a2 a3 a4 k
  have ih0 := aumbrylaw11_SectorTells.mono_l k
  unfold aumbrylaw11_SectorTells.f
  repeat' first
      | (with_reducible exact ih0 _ _ _ _ _ _)
      | (with_reducible exact aumbrylaw11_awake.mono _)
      | (with_reducible exact sector_Pack.mono _ _ _ _)
      | (with_reducible exact sector_Unpack.mono _ _ _)
      | (with_reducible exact LeO.refl _)
      | (with_reducible exact LeO.none _)
      | (with_reducible refine LeO.ite ?_ ?_)
      | (with_reducible refine LeO.bind ?_ (fun _ => ?_))
      | exact ih0 _ _ _ _ _ _
      | exact aumbrylaw11_awake.mono _
      | exact sector_Pack.mono _ _ _ _
      | exact sector_Unpack.mono _ _ _
      | exact LeO.none _
      | refine LeO.ite ?_ ?_
      | refine LeO.bind ?_ (fun _ => ?_)
set_option maxHeartbeats 8000000 in
set_option maxRecDepth 100000 in
theorem aumbrylaw11_SectorTells.calls (k : Nat) (a0 : Int) (a1 : Int) (A2 : Option Addr) (c2 : Nat) (l2 : List Int) (a3 : Int) (a4 : Int) (r : Bool) (w : World) (hr2 : Kd.C (Kd.int .u8) w A2 l2.length l2) (hc2 : l2.length ≤ c2) (h : aumbrylaw11_SectorTells.f k a0 a1 l2 a3 a4 = some r) :
    Calls Try.prog 6 #[.int .i64 a0, .int .i64 a1, .slice A2 l2.length c2, .int .i64 a3, .int .u8 a4] w fun e w' => e = .returned (.bool r) ∧ Below w.heap.size w w' := by
  have HR2 := Aside0.mk hr2
  have HC2 := Aside0.mk hc2
  clear hr2 hc2
  have HB := Aside0.mk (Below.refl w.heap.size w)
  have H : ((aumbrylaw11_awake.f k).bind fun t245 => ((sector_Pack.f k a0 a1 l2).bind fun bt246 => (if bt246.2 = 0 then (if (l2.length : Int) > 3000 then (aumbrylaw11_SectorTells.j0 k a0 a3 a4 t245 bt246.1 true) else (if a4 = 0 then (aumbrylaw11_SectorTells.j0 k a0 a3 a4 t245 bt246.1 true) else (aumbrylaw11_SectorTells.j0 k a0 a3 a4 t245 bt246.1 ((bt246.1.length : Int) == 0)))) else (aumbrylaw11_SectorTells.j0 k a0 a3 a4 t245 bt246.1 true)))) = some r := h
  clear h
  replace H := Option.bind_eq_some_iff.mp H
  obtain ⟨t245, A60, H⟩ := H
  replace H : ((sector_Pack.f k a0 a1 l2).bind fun bt246 => (if bt246.2 = 0 then (if (l2.length : Int) > 3000 then (aumbrylaw11_SectorTells.j0 k a0 a3 a4 t245 bt246.1 true) else (if a4 = 0 then (aumbrylaw11_SectorTells.j0 k a0 a3 a4 t245 bt246.1 true) else (aumbrylaw11_SectorTells.j0 k a0 a3 a4 t245 bt246.1 ((bt246.1.length : Int) == 0)))) else (aumbrylaw11_SectorTells.j0 k a0 a3 a4 t245 bt246.1 true))) = some r := H
  have A6 := Aside0.mk A60
  clear A60
  replace H := Option.bind_eq_some_iff.mp H
  obtain ⟨⟨t246, t247⟩, A70, H⟩ := H
  replace H : (if t247 = 0 then (if (l2.length : Int) > 3000 then (aumbrylaw11_SectorTells.j0 k a0 a3 a4 t245 t246 true) else (if a4 = 0 then (aumbrylaw11_SectorTells.j0 k a0 a3 a4 t245 t246 true) else (aumbrylaw11_SectorTells.j0 k a0 a3 a4 t245 t246 ((t246.length : Int) == 0)))) else (aumbrylaw11_SectorTells.j0 k a0 a3 a4 t245 t246 true)) = some r := H
  have A7 := Aside0.mk A70
  clear A70
  have HC8 := Aside0.mk H
  clear H
  go_enter Try.func6, Try.ntmps6
  go_upto_region 3 with (first | ((with_reducible refine gate_callee (f := 9) rfl ?_); refine goesL_ (some 18) rfl rfl Try.func9 (by kernel_rfl) rfl #[] rfl (by (try simp only [List.map_toArray, List.map_cons, List.map_nil]); first | done | rfl | (simp only [List.length_drop, List.length_take]; rfl)) ?_; (with_reducible refine (aumbrylaw11_awake.calls k  t245 _ A6.out).mono ?_); rintro e w9 ⟨rfl, hb⟩; refine ⟨_, rfl, ?_⟩; have n0_ := Aside0.mk (below_step (by repeat (first | (with_reducible first | exact HB.out | apply below_alloc | apply pw_below_drewN | apply below_drew1) | exact HB.out)) hb); clear HB; have HB := n0_; clear n0_; (try clear hb); (try clear hb2); (try clear hk); (try clear hi)) | ((with_reducible refine gate_callee (f := 10) rfl ?_); refine goesL_ (some 23) rfl rfl Try.func10 (by kernel_rfl) rfl #[.int .i64 a0, .int .i64 a1, .slice A2 l2.length c2] rfl (by (try simp only [List.map_toArray, List.map_cons, List.map_nil]); first | done | rfl | (simp only [List.length_drop, List.length_take]; rfl)) ?_; (with_reducible refine (sector_Pack.calls k a0 a1 _ _ l2 t246 t247 _ ?side1 ?side2 A7.out).mono ?_); (case side1 => repeat (first | exact (Kd.C_below HR2.out HB.out) | (with_reducible refine Kd.C_alloc ?_ _) | (with_reducible refine Kd.C_drewN ?_ _) | (with_reducible refine Kd.C_drew ?_))); (case side2 => exact HC2.out); rintro e w10 ⟨v248, rfl, ho0, hb⟩; refine ⟨_, rfl, ?_⟩; have n0_ := Aside0.mk (Kd.R_lower ho0 (below_size (by repeat (first | (with_reducible first | exact HB.out | apply below_alloc | apply pw_below_drewN | apply below_drew1) | exact HB.out)))); have n1_ := Aside0.mk (below_step (by repeat (first | (with_reducible first | exact HB.out | apply below_alloc | apply pw_below_drewN | apply below_drew1) | exact HB.out)) hb); clear HB; have HO249 := n0_; have HB := n1_; clear n0_ n1_; (try clear hb); (try clear hb2); (try clear hk); (try clear hi); (try clear ho0)))
  (try simp only [Act.put, List.setIfInBounds_toArray, List.set_cons_zero, List.set_cons_succ])
  go_cut [41] (fun v41 wc => ∃ (kq : Nat) (x41_7 : Bool), v41 = .bool x41_7 ∧ Aside0 (aumbrylaw11_SectorTells.j0 kq a0 a3 a4 t245 t246 x41_7 = some r) ∧ Aside0 (kq ≤ k) ∧ Aside0 (Kd.R (Kd.int .u8) 5 wc w.heap.size (fun _ => True) v248 t246) ∧ Aside0 (Below w.heap.size w wc))
  case first =>
    have H := HC8.out
    clear HC8
    by_cases c11 : t247 = 0
    · rw [if_pos c11] at H
      have c11b0 : (t247 == 0) = true := beq_iff_eq.mpr c11
      have c11b1 : (t247 != 0) = false := bne_eq_false_iff_eq.mpr c11
      clear c11
      (first | rw [c11b0] | (simp only [i64_w, i32_w]; rw [c11b0]) | skip)
      by_cases c12 : (l2.length : Int) > 3000
      · rw [if_pos c12] at H
        have c12b0 : decide (3000 < (l2.length : Int)) = true := decide_eq_true c12
        have c12b1 : decide (3000 < l2.length) = true := decide_eq_true (by omega)
        clear c12
        have H' := Aside0.mk H
        clear H
        go_wp2
        go_meet
        case rel => exact ⟨_, (true), (by first | rfl | (simp; done) | (simp [*]; done)), H', ⟨by first | omega | exact Nat.le_refl _⟩, ⟨by (with_reducible repeat (first | apply Kd.R_alloc | apply Kd.R_drewN | apply Kd.R_drew)); exact HO249.out⟩, ⟨by repeat (first | (with_reducible first | exact HB.out | apply below_alloc | apply pw_below_drewN | apply below_drew1) | exact HB.out)⟩⟩
      · rw [if_neg c12] at H
        have c12b0 : decide (3000 < (l2.length : Int)) = false := decide_eq_false c12
        have c12b1 : decide (3000 < l2.length) = false := decide_eq_false (by omega)
        clear c12
        by_cases c13 : a4 = 0
        · rw [if_pos c13] at H
          have c13b0 : (a4 == 0) = true := beq_iff_eq.mpr c13
          have c13b1 : (a4 != 0) = false := bne_eq_false_iff_eq.mpr c13
          clear c13
          have H' := Aside0.mk H
          clear H
          go_wp2
          go_meet
          case rel => exact ⟨_, (true), (by first | rfl | (simp; done) | (simp [*]; done)), H', ⟨by first | omega | exact Nat.le_refl _⟩, ⟨by (with_reducible repeat (first | apply Kd.R_alloc | apply Kd.R_drewN | apply Kd.R_drew)); exact HO249.out⟩, ⟨by repeat (first | (with_reducible first | exact HB.out | apply below_alloc | apply pw_below_drewN | apply below_drew1) | exact HB.out)⟩⟩
        · rw [if_neg c13] at H
          have c13b0 : (a4 == 0) = false := beq_eq_false_iff_ne.mpr c13
          have c13b1 : (a4 != 0) = true := bne_iff_ne.mpr c13
          have H' := Aside0.mk H
          clear H
          obtain ⟨Ao14, co14, eo14⟩ := Kd.R_slice HO249.out
          subst eo14
          go_wp2
          go_meet
          case rel => exact ⟨_, (((t246.length : Int) == 0)), (by first | rfl | (simp; done) | (simp [*]; done)), H', ⟨by first | omega | exact Nat.le_refl _⟩, ⟨by (with_reducible repeat (first | apply Kd.R_alloc | apply Kd.R_drewN | apply Kd.R_drew)); exact HO249.out⟩, ⟨by repeat (first | (with_reducible first | exact HB.out | apply below_alloc | apply pw_below_drewN | apply below_drew1) | exact HB.out)⟩⟩
    · rw [if_neg c11] at H
      have c11b0 : (t247 == 0) = false := beq_eq_false_iff_ne.mpr c11
      have c11b1 : (t247 != 0) = true := bne_iff_ne.mpr c11
      (first | rw [c11b0] | (simp only [i64_w, i32_w]; rw [c11b0]) | skip)
      have H' := Aside0.mk H
      clear H
      go_wp2
      go_meet
      case rel => exact ⟨_, (true), (by first | rfl | (simp; done) | (simp [*]; done)), H', ⟨by first | omega | exact Nat.le_refl _⟩, ⟨by (with_reducible repeat (first | apply Kd.R_alloc | apply Kd.R_drewN | apply Kd.R_drew)); exact HO249.out⟩, ⟨by repeat (first | (with_reducible first | exact HB.out | apply below_alloc | apply pw_below_drewN | apply below_drew1) | exact HB.out)⟩⟩
  case rest =>
    clear HC8
    try clear c1
    try clear c2
    try clear p2
    try clear c6
    try clear c9
    try clear c10
    try clear c11
    try clear c11b0
    try clear c11b1
    try clear c12
    try clear c12b0
    try clear c12b1
    try clear c13
    try clear c13b0
    try clear c13b1
    obtain ⟨kq, x41_7, rfl, HA, HJ7, HO_12, HB⟩ := hcut
    cases kq with
    | zero => exact absurd HA.out (by simp [aumbrylaw11_SectorTells.j0])
    | succ kj7 =>
      have H := HA.out
      clear HA
      simp only [aumbrylaw11_SectorTells.j0] at H
      by_cases c15 : x41_7 = true
      · subst c15
        have H1 : (some t245) = some r := by rw [if_pos rfl] at H; exact H
        clear H
        have H := H1
        clear H1
        obtain rfl := Option.some.inj H
        go_wp2
        go_ret
        exact ⟨by first | rfl | (simp [errW_none, errW_some] <;> rfl) | (simp [*, errW_none, errW_some] <;> rfl), by repeat (first | (with_reducible first | exact HB.out | apply below_alloc | apply pw_below_drewN | apply below_drew1) | exact HB.out)⟩
      · replace c15 := Bool.eq_false_iff.mpr c15
        subst c15
        have H1 : (if a3 < 0 then (if (t246.length : Int) = 0 then (none) else ((some (([] : List Int) : List Int)).bind fun y250 => (if y250.length + t246.length < 140737488355328 then ((some (y250 ++ t246 : List Int)).bind fun y253 => (if 0 ≤ (Int.tmod (wrap64 (-(wrap64 (a3 + 1)))) (t246.length : Int)) then (if (Int.tmod (wrap64 (-(wrap64 (a3 + 1)))) (t246.length : Int)) < (y253.length : Int) then ((sector_Unpack.f kj7 a0 (y253.set ((Int.tmod (wrap64 (-(wrap64 (a3 + 1)))) (t246.length : Int)) : Int).toNat (Go.bits .xor .u8 (rd y253 (Int.tmod (wrap64 (-(wrap64 (a3 + 1)))) (t246.length : Int))) a4))).bind fun bt258 => (if t245 = true then (some (bt258.2.2 == 110)) else (some false))) else (none)) else (none))) else (none)))) else (if (t246.length : Int) = 0 then (none) else ((some (([] : List Int) : List Int)).bind fun y263 => (if y263.length + t246.length < 140737488355328 then ((some (y263 ++ t246 : List Int)).bind fun y266 => (if 0 ≤ (Int.tmod a3 (t246.length : Int)) then (if (Int.tmod a3 (t246.length : Int)) < (y266.length : Int) then ((sector_Unpack.f kj7 a0 (y266.set ((Int.tmod a3 (t246.length : Int)) : Int).toNat (Go.bits .xor .u8 (rd y266 (Int.tmod a3 (t246.length : Int))) a4))).bind fun bt271 => (if t245 = true then (some (bt271.2.2 == 110)) else (some false))) else (none)) else (none))) else (none))))) = some r := by rw [if_neg (show ¬ (false = true) by decide)] at H; exact H
        clear H
        have H := H1
        clear H1
        by_cases c16 : a3 < 0
        · rw [if_pos c16] at H
          have c16b0 : decide (a3 < 0) = true := decide_eq_true c16
          clear c16
          by_cases c17 : (t246.length : Int) = 0
          · rw [if_pos c17] at H
            exact absurd H (by simp)
          · rw [if_neg c17] at H
            have c17b0 : ((t246.length : Int) == 0) = false := beq_eq_false_iff_ne.mpr c17
            have c17b1 : ((t246.length : Int) != 0) = true := bne_iff_ne.mpr c17
            have c17b2 : ¬ (t246 = []) := fun h_ => c17 (by rw [h_]; rfl)
            obtain ⟨y250, hy250⟩ : ∃ y_ : List Int, y_ = (([] : List Int)) := ⟨_, rfl⟩
            replace H : (if y250.length + t246.length < 140737488355328 then ((some (y250 ++ t246 : List Int)).bind fun y253 => (if 0 ≤ (Int.tmod (wrap64 (-(wrap64 (a3 + 1)))) (t246.length : Int)) then (if (Int.tmod (wrap64 (-(wrap64 (a3 + 1)))) (t246.length : Int)) < (y253.length : Int) then ((sector_Unpack.f kj7 a0 (y253.set ((Int.tmod (wrap64 (-(wrap64 (a3 + 1)))) (t246.length : Int)) : Int).toNat (Go.bits .xor .u8 (rd y253 (Int.tmod (wrap64 (-(wrap64 (a3 + 1)))) (t246.length : Int))) a4))).bind fun bt258 => (if t245 = true then (some (bt258.2.2 == 110)) else (some false))) else (none)) else (none))) else (none)) = some r := by first | (rw [hy250]; with_reducible exact H) | (have H2_ := (Option.bind_some _ _).symm.trans H; rw [hy250]; with_reducible exact H2_) | (have H2_ := (Option.bind_some _ _).symm.trans H; with_reducible exact H2_) | with_reducible exact H | (rw [hy250]; exact H) | exact H
            have Ny250 := Aside0.mk hy250
            clear hy250
            by_cases c18 : y250.length + t246.length < 140737488355328
            · rw [if_pos c18] at H
              have LMc18 := Aside0.mk c18
              clear c18
              obtain ⟨y253, hy253⟩ : ∃ y_ : List Int, y_ = (y250 ++ t246) := ⟨_, rfl⟩
              replace H : (if 0 ≤ (Int.tmod (wrap64 (-(wrap64 (a3 + 1)))) (t246.length : Int)) then (if (Int.tmod (wrap64 (-(wrap64 (a3 + 1)))) (t246.length : Int)) < (y253.length : Int) then ((sector_Unpack.f kj7 a0 (y253.set ((Int.tmod (wrap64 (-(wrap64 (a3 + 1)))) (t246.length : Int)) : Int).toNat (Go.bits .xor .u8 (rd y253 (Int.tmod (wrap64 (-(wrap64 (a3 + 1)))) (t246.length : Int))) a4))).bind fun bt258 => (if t245 = true then (some (bt258.2.2 == 110)) else (some false))) else (none)) else (none)) = some r := by first | (rw [hy253]; with_reducible exact H) | (have H2_ := (Option.bind_some _ _).symm.trans H; rw [hy253]; with_reducible exact H2_) | (have H2_ := (Option.bind_some _ _).symm.trans H; with_reducible exact H2_) | with_reducible exact H | (rw [hy253]; exact H) | exact H
              have Ny253 := Aside0.mk hy253
              clear hy253
              obtain ⟨ji19, hji19⟩ : ∃ j_ : Int, (Int.tmod (wrap64 (-(wrap64 (a3 + 1)))) (t246.length : Int)) = j_ := ⟨_, rfl⟩
              replace H : (if 0 ≤ (ji19) then (if (ji19) < (y253.length : Int) then ((sector_Unpack.f kj7 a0 (y253.set ((ji19) : Int).toNat (Go.bits .xor .u8 (rd y253 (ji19)) a4))).bind fun bt258 => (if t245 = true then (some (bt258.2.2 == 110)) else (some false))) else (none)) else (none)) = some r := by first | (rw [hji19] at H; exact H) | (simp only [hji19] at H ⊢; exact H)
              by_cases c20 : 0 ≤ (ji19)
              · rw [if_pos c20] at H
                have c20b0 : decide (0 ≤ (ji19)) = true := decide_eq_true c20
                clear c20
                by_cases c21 : (ji19) < (y253.length : Int)
                · rw [if_pos c21] at H
                  have c21b0 : decide ((ji19) < (y253.length : Int)) = true := decide_eq_true c21
                  clear c21
                  obtain ⟨y257, hy257⟩ : ∃ y_ : List Int, y_ = (y253.set ((ji19) : Int).toNat (Go.bits .xor .u8 (rd y253 (ji19)) a4)) := ⟨_, rfl⟩
                  replace H : ((sector_Unpack.f kj7 a0 y257).bind fun bt258 => (if t245 = true then (some (bt258.2.2 == 110)) else (some false))) = some r := by first | (rw [hy257]; with_reducible exact H) | (have H2_ := (Option.bind_some _ _).symm.trans H; rw [hy257]; with_reducible exact H2_) | (have H2_ := (Option.bind_some _ _).symm.trans H; with_reducible exact H2_) | with_reducible exact H | (rw [hy257]; exact H) | exact H
                  have Ny257 := Aside0.mk hy257
                  clear hy257
                  replace H := Option.bind_eq_some_iff.mp H
                  obtain ⟨⟨t258, t259, t260⟩, A230, H⟩ := H
                  replace H : (if t245 = true then (some (t260 == 110)) else (some false)) = some r := H
                  have A23 := Aside0.mk A230
                  clear A230
                  by_cases c24 : t245 = true
                  · subst c24
                    have H1 : (some (t260 == 110)) = some r := by rw [if_pos rfl] at H; exact H
                    clear H
                    have H := H1
                    clear H1
                    obtain rfl := Option.some.inj H
                    obtain ⟨Ao25, co25, eo25⟩ := Kd.R_slice HO_12.out
                    subst eo25
                    go_wp2_with (first | ((with_reducible refine gate_dst (N := 52) rfl ?_); (try (refine gate_guard (by rfl) ?_; dsimp only)); refine Kd.R_lit (Kd.int .u8) _ 5 ?hg (N := 52) ?hd (xs := ([] : List Int)) (inner := []) (ok := fun _ => True) (okp := fun _ => True) ?hr ?hp (fun _ hk => hk) trivial (Below.refl _ _) (Nat.le_refl _) (by simp) ?_; (case hd => rfl); (case hg => rfl); (case hr => first | (go_simp; done) | (go_simp; rfl)); (case hp => exact (Reps.none _ _)); intro v251 w26 ho27 hb hg_ hnew_; clear hg_ hnew_; (first | rw [← Ny250.out] at ho27 | (simp only [Int.reduceToNat] at ho27; rw [← Ny250.out] at ho27)); have n0_ := Aside0.mk (Kd.R_elder' (by (with_reducible repeat (first | apply Kd.R_alloc | apply Kd.R_drewN | apply Kd.R_drew)); exact HO_12.out) (Kd.R_base ho27) hb); have n1_ := Aside0.mk (Kd.R_lower (Kd.R_new' ho27 (Kd.R_lt (by (with_reducible repeat (first | apply Kd.R_alloc | apply Kd.R_drewN | apply Kd.R_drew)); exact HO_12.out))) (below_size (by repeat (first | (with_reducible first | exact HB.out | apply below_alloc | apply pw_below_drewN | apply below_drew1) | exact HB.out)))); have n2_ := Aside0.mk (below_step (by repeat (first | (with_reducible first | exact HB.out | apply below_alloc | apply pw_below_drewN | apply below_drew1) | exact HB.out)) hb); clear HO_12; clear HB; have HO_12 := n0_; have HO252 := n1_; have HB := n2_; clear n0_ n1_ n2_; clear hb ho27) | ((with_reducible refine gate_builtin (b := .append) (xs := #[.tmp 52, .tmp 53]) rfl ?_); (try (refine gate_guard (by rfl) ?_; dsimp only)); at_builtin; refine Kd.R_append_rows (Kd.int .u8) (w0 := w) w.heap.size rfl (.tmp 52) (.tmp 53) 23 5 (.int .u8 0) 1 rfl Try.underlying23 info5 rfl (by decide) (by omega) v251 y250 t246 _ _ _ (fun k_ => some k_ ≠ (.slice Ao25 t246.length co25 : Value).ownBlock) (fun _ => False) rfl rfl ?aO ?aR (fun _ _ h => h) (fun _ h => h.elim) ?aF ?aB ?aS ?aL ?_; (case aR => repeat (first | exact (Kd.R_reads' HO_12.out).2.2 | (with_reducible refine Kd.C_alloc ?_ _) | (with_reducible refine Kd.C_drewN ?_ _) | (with_reducible refine Kd.C_drew ?_))); (case aB => exact (by repeat (first | (with_reducible first | exact HB.out | apply below_alloc | apply pw_below_drewN | apply below_drew1) | exact HB.out))); (case aF => exact (fun k_ hk => Kd.fresh' (Kd.R_lt (by (with_reducible repeat (first | apply Kd.R_alloc | apply Kd.R_drewN | apply Kd.R_drew)); exact HO_12.out)) k_ hk)); (case aO => exact (by (with_reducible repeat (first | apply Kd.R_alloc | apply Kd.R_drewN | apply Kd.R_drew)); exact Kd.R_mono HO252.out (fun _ hk => hk.2))); (case aS => exact (below_size (by repeat (first | (with_reducible first | exact HB.out | apply below_alloc | apply pw_below_drewN | apply below_drew1) | exact HB.out)))); (case aL => have := LMc18.out; omega); intro v254 w28 ho hb hg hat; rw [← Ny253.out] at ho; have n0_ := Aside0.mk (Kd.R_after (ok := (fun _ => True)) (by (with_reducible repeat (first | apply Kd.R_alloc | apply Kd.R_drewN | apply Kd.R_drew)); exact HO_12.out) hg hat); have n1_ := Aside0.mk (hb); have n2_ := Aside0.mk (ho); clear HO_12; clear HB; clear HO252; have HO_12 := n0_; have HB := n1_; have HO255 := n2_; clear n0_ n1_ n2_; clear ho hb hg hat; obtain ⟨Ao29, co29, eo29⟩ := Kd.R_slice HO255.out; subst eo29; have p256 : 0 ≤ ((ji19) : Int) := of_decide_eq_true (by first | (with_reducible assumption) | assumption); have q256 : (ji19) < (y253.length : Int) := of_decide_eq_true (by first | (with_reducible assumption) | assumption); obtain ⟨ad256, e256, hx256_0⟩ := Kd.at_int (Kd.R_reads' HO255.out).2.2 (ji19) p256 q256; cases e256; replace p256 := eq_true p256; replace q256 := eq_true q256; have p22 : 0 ≤ ((ji19) : Int) := of_decide_eq_true (by first | (with_reducible assumption) | assumption); have q22 : ((ji19) : Int) < ((y253.length : Int) : Int) := of_decide_eq_true (by first | (with_reducible assumption) | assumption); obtain ⟨go22, co22, eo22, gb22, gl22, cl22, HG22⟩ := Kd.R_form HO255.out (by omega); (first | cases eo22 | (injection eo22 with ea_ en_ ec_; (first | subst ea_ | (injection ea_ with ea_; subst ea_)); subst ec_; clear en_)); have GB22 := Aside0.mk gb22; have GG22 := Aside0.mk HG22; clear gb22 gl22 HG22; (first | simp only [add_plain] at hx256_0 | skip); obtain ⟨hx22_0, hf22_0⟩ := Kd.R_celln 0 HO255.out ((ji19) : Int) p22 q22; replace p22 := eq_true p22; replace q22 := eq_true q22; obtain ⟨hy30_, hz30_⟩ := Kd.R_celln 0 HO255.out ((ji19) : Int) (of_decide_eq_true (by first | (with_reducible assumption) | assumption)) (of_decide_eq_true (by first | (with_reducible assumption) | assumption)); have HP30 := Kd.R_putg HO255.out ((ji19) : Int) (Go.bits .xor .u8 (rd y253 (ji19)) a4)) | ((with_reducible refine gate_store (t := 5) (p := 63) rfl ?_); refine store_event (t := 5) (p := 63) (v := ?vo_w31) (w1 := (w28.setCell ⟨go22, ((ji19) : Int).toNat, none⟩ (.int .u8 (Go.bits .xor .u8 (rd y253 (ji19)) a4)))) ?hg ?ho ?hn ?hr ?_; (case ho => rfl); (case hg => rfl); (case hn => rfl); (case hr => first | (go_simp; done) | (go_simp; rfl)); intro w31 hw; have hg : w28.grownBy w31 (some go22) := (by rw [hw]; exact HP30.2); have hp_ : Kd.R (Kd.int .u8) 5 w31 w.heap.size (fun k_ => some k_ ≠ (.slice Ao25 t246.length co25 : Value).ownBlock) (.slice (some ⟨go22, 0, none⟩) y253.length co29) y257 := (by rw [hw, Ny257.out]; exact HP30.1); clear HP30; have n0_ := Aside0.mk (Kd.R_after (v := (.slice (some ⟨go22, 0, none⟩) y253.length co29)) (v1 := (.slice (some ⟨go22, 0, none⟩) y253.length co29)) (ok := (fun _ => True)) (by (with_reducible repeat (first | apply Kd.R_alloc | apply Kd.R_drewN | apply Kd.R_drew)); exact HO_12.out) hg (.inl rfl)); have n1_ := Aside0.mk (hp_); have n2_ := Aside0.mk ((by rw [hw]; exact below_set (HB.out) GB22.out : Below w.heap.size w w31)); clear HO_12; clear HO255; clear HB; have HO_12 := n0_; have HO255 := n1_; have HB := n2_; clear n0_ n1_ n2_; clear hg hw hp_) | ((with_reducible refine gate_callee (f := 12) rfl ?_); refine goesL_ (some 67) rfl rfl Try.func12 (by kernel_rfl) rfl #[.int .i64 a0, .slice (some ⟨go22, 0, none⟩) y257.length co29] rfl (by (try simp only [List.map_toArray, List.map_cons, List.map_nil]); first | done | (rw [show y257.length = y253.length from (Kd.R_reads' HO255.out).1.symm] <;> rfl) | rfl | (simp only [List.length_drop, List.length_take]; rfl)) ?_; (with_reducible refine (sector_Unpack.calls kj7 a0 _ _ y257 t258 t259 t260 _ ?side1 ?side2 A23.out).mono ?_); (case side1 => repeat (first | exact (Kd.R_reads' HO255.out).2.2 | (with_reducible refine Kd.C_alloc ?_ _) | (with_reducible refine Kd.C_drewN ?_ _) | (with_reducible refine Kd.C_drew ?_))); (case side2 => rw [show y257.length = y253.length from (Kd.R_reads' HO255.out).1.symm]; exact (Kd.R_reads' HO255.out).2.1); rintro e w32 ⟨v261, rfl, ho0, hb⟩; refine ⟨_, rfl, ?_⟩; have n0_ := Aside0.mk (Kd.R_elder' (by (with_reducible repeat (first | apply Kd.R_alloc | apply Kd.R_drewN | apply Kd.R_drew)); exact HO_12.out) (Kd.R_base ho0) hb); have n1_ := Aside0.mk (Kd.R_elder' (by (with_reducible repeat (first | apply Kd.R_alloc | apply Kd.R_drewN | apply Kd.R_drew)); exact HO255.out) (Kd.R_base ho0) hb); have n2_ := Aside0.mk (Kd.R_lower (Kd.R_new' (Kd.R_new' ho0 (Kd.R_lt (by (with_reducible repeat (first | apply Kd.R_alloc | apply Kd.R_drewN | apply Kd.R_drew)); exact HO_12.out))) (Kd.R_lt (by (with_reducible repeat (first | apply Kd.R_alloc | apply Kd.R_drewN | apply Kd.R_drew)); exact HO255.out))) (below_size (by repeat (first | (with_reducible first | exact HB.out | apply below_alloc | apply pw_below_drewN | apply below_drew1) | exact HB.out)))); have n3_ := Aside0.mk (below_step (by repeat (first | (with_reducible first | exact HB.out | apply below_alloc | apply pw_below_drewN | apply below_drew1) | exact HB.out)) hb); clear HO_12; clear HO255; clear HB; have HO_12 := n0_; have HO255 := n1_; have HO262 := n2_; have HB := n3_; clear n0_ n1_ n2_ n3_; (try clear hb); (try clear hb2); (try clear hk); (try clear hi); (try clear ho0)))
                    go_ret
                    exact ⟨by first | rfl | (simp [errW_none, errW_some] <;> rfl) | (simp only [← hji19]; first | rfl | (simp [errW_none, errW_some] <;> rfl)) | (simp [*, errW_none, errW_some] <;> rfl), by repeat (first | (with_reducible first | exact HB.out | apply below_alloc | apply pw_below_drewN | apply below_drew1) | exact HB.out)⟩
                  · replace c24 := Bool.eq_false_iff.mpr c24
                    subst c24
                    have H1 : (some false) = some r := by rw [if_neg (show ¬ (false = true) by decide)] at H; exact H
                    clear H
                    have H := H1
                    clear H1
                    obtain rfl := Option.some.inj H
                    obtain ⟨Ao33, co33, eo33⟩ := Kd.R_slice HO_12.out
                    subst eo33
                    go_wp2_with (first | ((with_reducible refine gate_dst (N := 52) rfl ?_); (try (refine gate_guard (by rfl) ?_; dsimp only)); refine Kd.R_lit (Kd.int .u8) _ 5 ?hg (N := 52) ?hd (xs := ([] : List Int)) (inner := []) (ok := fun _ => True) (okp := fun _ => True) ?hr ?hp (fun _ hk => hk) trivial (Below.refl _ _) (Nat.le_refl _) (by simp) ?_; (case hd => rfl); (case hg => rfl); (case hr => first | (go_simp; done) | (go_simp; rfl)); (case hp => exact (Reps.none _ _)); intro v251 w34 ho35 hb hg_ hnew_; clear hg_ hnew_; (first | rw [← Ny250.out] at ho35 | (simp only [Int.reduceToNat] at ho35; rw [← Ny250.out] at ho35)); have n0_ := Aside0.mk (Kd.R_elder' (by (with_reducible repeat (first | apply Kd.R_alloc | apply Kd.R_drewN | apply Kd.R_drew)); exact HO_12.out) (Kd.R_base ho35) hb); have n1_ := Aside0.mk (Kd.R_lower (Kd.R_new' ho35 (Kd.R_lt (by (with_reducible repeat (first | apply Kd.R_alloc | apply Kd.R_drewN | apply Kd.R_drew)); exact HO_12.out))) (below_size (by repeat (first | (with_reducible first | exact HB.out | apply below_alloc | apply pw_below_drewN | apply below_drew1) | exact HB.out)))); have n2_ := Aside0.mk (below_step (by repeat (first | (with_reducible first | exact HB.out | apply below_alloc | apply pw_below_drewN | apply below_drew1) | exact HB.out)) hb); clear HO_12; clear HB; have HO_12 := n0_; have HO252 := n1_; have HB := n2_; clear n0_ n1_ n2_; clear hb ho35) | ((with_reducible refine gate_builtin (b := .append) (xs := #[.tmp 52, .tmp 53]) rfl ?_); (try (refine gate_guard (by rfl) ?_; dsimp only)); at_builtin; refine Kd.R_append_rows (Kd.int .u8) (w0 := w) w.heap.size rfl (.tmp 52) (.tmp 53) 23 5 (.int .u8 0) 1 rfl Try.underlying23 info5 rfl (by decide) (by omega) v251 y250 t246 _ _ _ (fun k_ => some k_ ≠ (.slice Ao33 t246.length co33 : Value).ownBlock) (fun _ => False) rfl rfl ?aO ?aR (fun _ _ h => h) (fun _ h => h.elim) ?aF ?aB ?aS ?aL ?_; (case aR => repeat (first | exact (Kd.R_reads' HO_12.out).2.2 | (with_reducible refine Kd.C_alloc ?_ _) | (with_reducible refine Kd.C_drewN ?_ _) | (with_reducible refine Kd.C_drew ?_))); (case aB => exact (by repeat (first | (with_reducible first | exact HB.out | apply below_alloc | apply pw_below_drewN | apply below_drew1) | exact HB.out))); (case aF => exact (fun k_ hk => Kd.fresh' (Kd.R_lt (by (with_reducible repeat (first | apply Kd.R_alloc | apply Kd.R_drewN | apply Kd.R_drew)); exact HO_12.out)) k_ hk)); (case aO => exact (by (with_reducible repeat (first | apply Kd.R_alloc | apply Kd.R_drewN | apply Kd.R_drew)); exact Kd.R_mono HO252.out (fun _ hk => hk.2))); (case aS => exact (below_size (by repeat (first | (with_reducible first | exact HB.out | apply below_alloc | apply pw_below_drewN | apply below_drew1) | exact HB.out)))); (case aL => have := LMc18.out; omega); intro v254 w36 ho hb hg hat; rw [← Ny253.out] at ho; have n0_ := Aside0.mk (Kd.R_after (ok := (fun _ => True)) (by (with_reducible repeat (first | apply Kd.R_alloc | apply Kd.R_drewN | apply Kd.R_drew)); exact HO_12.out) hg hat); have n1_ := Aside0.mk (hb); have n2_ := Aside0.mk (ho); clear HO_12; clear HB; clear HO252; have HO_12 := n0_; have HB := n1_; have HO255 := n2_; clear n0_ n1_ n2_; clear ho hb hg hat; obtain ⟨Ao37, co37, eo37⟩ := Kd.R_slice HO255.out; subst eo37; have p256 : 0 ≤ ((ji19) : Int) := of_decide_eq_true (by first | (with_reducible assumption) | assumption); have q256 : (ji19) < (y253.length : Int) := of_decide_eq_true (by first | (with_reducible assumption) | assumption); obtain ⟨ad256, e256, hx256_0⟩ := Kd.at_int (Kd.R_reads' HO255.out).2.2 (ji19) p256 q256; cases e256; replace p256 := eq_true p256; replace q256 := eq_true q256; have p22 : 0 ≤ ((ji19) : Int) := of_decide_eq_true (by first | (with_reducible assumption) | assumption); have q22 : ((ji19) : Int) < ((y253.length : Int) : Int) := of_decide_eq_true (by first | (with_reducible assumption) | assumption); obtain ⟨go22, co22, eo22, gb22, gl22, cl22, HG22⟩ := Kd.R_form HO255.out (by omega); (first | cases eo22 | (injection eo22 with ea_ en_ ec_; (first | subst ea_ | (injection ea_ with ea_; subst ea_)); subst ec_; clear en_)); have GB22 := Aside0.mk gb22; have GG22 := Aside0.mk HG22; clear gb22 gl22 HG22; (first | simp only [add_plain] at hx256_0 | skip); obtain ⟨hx22_0, hf22_0⟩ := Kd.R_celln 0 HO255.out ((ji19) : Int) p22 q22; replace p22 := eq_true p22; replace q22 := eq_true q22; obtain ⟨hy38_, hz38_⟩ := Kd.R_celln 0 HO255.out ((ji19) : Int) (of_decide_eq_true (by first | (with_reducible assumption) | assumption)) (of_decide_eq_true (by first | (with_reducible assumption) | assumption)); have HP38 := Kd.R_putg HO255.out ((ji19) : Int) (Go.bits .xor .u8 (rd y253 (ji19)) a4)) | ((with_reducible refine gate_store (t := 5) (p := 63) rfl ?_); refine store_event (t := 5) (p := 63) (v := ?vo_w39) (w1 := (w36.setCell ⟨go22, ((ji19) : Int).toNat, none⟩ (.int .u8 (Go.bits .xor .u8 (rd y253 (ji19)) a4)))) ?hg ?ho ?hn ?hr ?_; (case ho => rfl); (case hg => rfl); (case hn => rfl); (case hr => first | (go_simp; done) | (go_simp; rfl)); intro w39 hw; have hg : w36.grownBy w39 (some go22) := (by rw [hw]; exact HP38.2); have hp_ : Kd.R (Kd.int .u8) 5 w39 w.heap.size (fun k_ => some k_ ≠ (.slice Ao33 t246.length co33 : Value).ownBlock) (.slice (some ⟨go22, 0, none⟩) y253.length co37) y257 := (by rw [hw, Ny257.out]; exact HP38.1); clear HP38; have n0_ := Aside0.mk (Kd.R_after (v := (.slice (some ⟨go22, 0, none⟩) y253.length co37)) (v1 := (.slice (some ⟨go22, 0, none⟩) y253.length co37)) (ok := (fun _ => True)) (by (with_reducible repeat (first | apply Kd.R_alloc | apply Kd.R_drewN | apply Kd.R_drew)); exact HO_12.out) hg (.inl rfl)); have n1_ := Aside0.mk (hp_); have n2_ := Aside0.mk ((by rw [hw]; exact below_set (HB.out) GB22.out : Below w.heap.size w w39)); clear HO_12; clear HO255; clear HB; have HO_12 := n0_; have HO255 := n1_; have HB := n2_; clear n0_ n1_ n2_; clear hg hw hp_) | ((with_reducible refine gate_callee (f := 12) rfl ?_); refine goesL_ (some 67) rfl rfl Try.func12 (by kernel_rfl) rfl #[.int .i64 a0, .slice (some ⟨go22, 0, none⟩) y257.length co37] rfl (by (try simp only [List.map_toArray, List.map_cons, List.map_nil]); first | done | (rw [show y257.length = y253.length from (Kd.R_reads' HO255.out).1.symm] <;> rfl) | rfl | (simp only [List.length_drop, List.length_take]; rfl)) ?_; (with_reducible refine (sector_Unpack.calls kj7 a0 _ _ y257 t258 t259 t260 _ ?side1 ?side2 A23.out).mono ?_); (case side1 => repeat (first | exact (Kd.R_reads' HO255.out).2.2 | (with_reducible refine Kd.C_alloc ?_ _) | (with_reducible refine Kd.C_drewN ?_ _) | (with_reducible refine Kd.C_drew ?_))); (case side2 => rw [show y257.length = y253.length from (Kd.R_reads' HO255.out).1.symm]; exact (Kd.R_reads' HO255.out).2.1); rintro e w40 ⟨v261, rfl, ho0, hb⟩; refine ⟨_, rfl, ?_⟩; have n0_ := Aside0.mk (Kd.R_elder' (by (with_reducible repeat (first | apply Kd.R_alloc | apply Kd.R_drewN | apply Kd.R_drew)); exact HO_12.out) (Kd.R_base ho0) hb); have n1_ := Aside0.mk (Kd.R_elder' (by (with_reducible repeat (first | apply Kd.R_alloc | apply Kd.R_drewN | apply Kd.R_drew)); exact HO255.out) (Kd.R_base ho0) hb); have n2_ := Aside0.mk (Kd.R_lower (Kd.R_new' (Kd.R_new' ho0 (Kd.R_lt (by (with_reducible repeat (first | apply Kd.R_alloc | apply Kd.R_drewN | apply Kd.R_drew)); exact HO_12.out))) (Kd.R_lt (by (with_reducible repeat (first | apply Kd.R_alloc | apply Kd.R_drewN | apply Kd.R_drew)); exact HO255.out))) (below_size (by repeat (first | (with_reducible first | exact HB.out | apply below_alloc | apply pw_below_drewN | apply below_drew1) | exact HB.out)))); have n3_ := Aside0.mk (below_step (by repeat (first | (with_reducible first | exact HB.out | apply below_alloc | apply pw_below_drewN | apply below_drew1) | exact HB.out)) hb); clear HO_12; clear HO255; clear HB; have HO_12 := n0_; have HO255 := n1_; have HO262 := n2_; have HB := n3_; clear n0_ n1_ n2_ n3_; (try clear hb); (try clear hb2); (try clear hk); (try clear hi); (try clear ho0)))
                    go_ret
                    exact ⟨by first | rfl | (simp [errW_none, errW_some] <;> rfl) | (simp only [← hji19]; first | rfl | (simp [errW_none, errW_some] <;> rfl)) | (simp [*, errW_none, errW_some] <;> rfl), by repeat (first | (with_reducible first | exact HB.out | apply below_alloc | apply pw_below_drewN | apply below_drew1) | exact HB.out)⟩
                · rw [if_neg c21] at H
                  exact absurd H (by simp)
              · rw [if_neg c20] at H
                exact absurd H (by simp)
            · rw [if_neg c18] at H
              exact absurd H (by simp)
        · rw [if_neg c16] at H
          have c16b0 : decide (a3 < 0) = false := decide_eq_false c16
          clear c16
          by_cases c41 : (t246.length : Int) = 0
          · rw [if_pos c41] at H
            exact absurd H (by simp)
          · rw [if_neg c41] at H
            have c41b0 : ((t246.length : Int) == 0) = false := beq_eq_false_iff_ne.mpr c41
            have c41b1 : ((t246.length : Int) != 0) = true := bne_iff_ne.mpr c41
            have c41b2 : ¬ (t246 = []) := fun h_ => c41 (by rw [h_]; rfl)
            obtain ⟨y263, hy263⟩ : ∃ y_ : List Int, y_ = (([] : List Int)) := ⟨_, rfl⟩
            replace H : (if y263.length + t246.length < 140737488355328 then ((some (y263 ++ t246 : List Int)).bind fun y266 => (if 0 ≤ (Int.tmod a3 (t246.length : Int)) then (if (Int.tmod a3 (t246.length : Int)) < (y266.length : Int) then ((sector_Unpack.f kj7 a0 (y266.set ((Int.tmod a3 (t246.length : Int)) : Int).toNat (Go.bits .xor .u8 (rd y266 (Int.tmod a3 (t246.length : Int))) a4))).bind fun bt271 => (if t245 = true then (some (bt271.2.2 == 110)) else (some false))) else (none)) else (none))) else (none)) = some r := by first | (rw [hy263]; with_reducible exact H) | (have H2_ := (Option.bind_some _ _).symm.trans H; rw [hy263]; with_reducible exact H2_) | (have H2_ := (Option.bind_some _ _).symm.trans H; with_reducible exact H2_) | with_reducible exact H | (rw [hy263]; exact H) | exact H
            have Ny263 := Aside0.mk hy263
            clear hy263
            by_cases c42 : y263.length + t246.length < 140737488355328
            · rw [if_pos c42] at H
              have LMc42 := Aside0.mk c42
              clear c42
              obtain ⟨y266, hy266⟩ : ∃ y_ : List Int, y_ = (y263 ++ t246) := ⟨_, rfl⟩
              replace H : (if 0 ≤ (Int.tmod a3 (t246.length : Int)) then (if (Int.tmod a3 (t246.length : Int)) < (y266.length : Int) then ((sector_Unpack.f kj7 a0 (y266.set ((Int.tmod a3 (t246.length : Int)) : Int).toNat (Go.bits .xor .u8 (rd y266 (Int.tmod a3 (t246.length : Int))) a4))).bind fun bt271 => (if t245 = true then (some (bt271.2.2 == 110)) else (some false))) else (none)) else (none)) = some r := by first | (rw [hy266]; with_reducible exact H) | (have H2_ := (Option.bind_some _ _).symm.trans H; rw [hy266]; with_reducible exact H2_) | (have H2_ := (Option.bind_some _ _).symm.trans H; with_reducible exact H2_) | with_reducible exact H | (rw [hy266]; exact H) | exact H
              have Ny266 := Aside0.mk hy266
              clear hy266
              obtain ⟨ji43, hji43⟩ : ∃ j_ : Int, (Int.tmod a3 (t246.length : Int)) = j_ := ⟨_, rfl⟩
              replace H : (if 0 ≤ (ji43) then (if (ji43) < (y266.length : Int) then ((sector_Unpack.f kj7 a0 (y266.set ((ji43) : Int).toNat (Go.bits .xor .u8 (rd y266 (ji43)) a4))).bind fun bt271 => (if t245 = true then (some (bt271.2.2 == 110)) else (some false))) else (none)) else (none)) = some r := by first | (rw [hji43] at H; exact H) | (simp only [hji43] at H ⊢; exact H)
              by_cases c44 : 0 ≤ (ji43)
              · rw [if_pos c44] at H
                have c44b0 : decide (0 ≤ (ji43)) = true := decide_eq_true c44
                clear c44
                by_cases c45 : (ji43) < (y266.length : Int)
                · rw [if_pos c45] at H
                  have c45b0 : decide ((ji43) < (y266.length : Int)) = true := decide_eq_true c45
                  clear c45
                  obtain ⟨y270, hy270⟩ : ∃ y_ : List Int, y_ = (y266.set ((ji43) : Int).toNat (Go.bits .xor .u8 (rd y266 (ji43)) a4)) := ⟨_, rfl⟩
                  replace H : ((sector_Unpack.f kj7 a0 y270).bind fun bt271 => (if t245 = true then (some (bt271.2.2 == 110)) else (some false))) = some r := by first | (rw [hy270]; with_reducible exact H) | (have H2_ := (Option.bind_some _ _).symm.trans H; rw [hy270]; with_reducible exact H2_) | (have H2_ := (Option.bind_some _ _).symm.trans H; with_reducible exact H2_) | with_reducible exact H | (rw [hy270]; exact H) | exact H
                  have Ny270 := Aside0.mk hy270
                  clear hy270
                  replace H := Option.bind_eq_some_iff.mp H
                  obtain ⟨⟨t271, t272, t273⟩, A470, H⟩ := H
                  replace H : (if t245 = true then (some (t273 == 110)) else (some false)) = some r := H
                  have A47 := Aside0.mk A470
                  clear A470
                  by_cases c48 : t245 = true
                  · subst c48
                    have H1 : (some (t273 == 110)) = some r := by rw [if_pos rfl] at H; exact H
                    clear H
                    have H := H1
                    clear H1
                    obtain rfl := Option.some.inj H
                    obtain ⟨Ao49, co49, eo49⟩ := Kd.R_slice HO_12.out
                    subst eo49
                    go_wp2_with (first | ((with_reducible refine gate_dst (N := 52) rfl ?_); (try (refine gate_guard (by rfl) ?_; dsimp only)); refine Kd.R_lit (Kd.int .u8) _ 5 ?hg (N := 52) ?hd (xs := ([] : List Int)) (inner := []) (ok := fun _ => True) (okp := fun _ => True) ?hr ?hp (fun _ hk => hk) trivial (Below.refl _ _) (Nat.le_refl _) (by simp) ?_; (case hd => rfl); (case hg => rfl); (case hr => first | (go_simp; done) | (go_simp; rfl)); (case hp => exact (Reps.none _ _)); intro v264 w50 ho51 hb hg_ hnew_; clear hg_ hnew_; (first | rw [← Ny263.out] at ho51 | (simp only [Int.reduceToNat] at ho51; rw [← Ny263.out] at ho51)); have n0_ := Aside0.mk (Kd.R_elder' (by (with_reducible repeat (first | apply Kd.R_alloc | apply Kd.R_drewN | apply Kd.R_drew)); exact HO_12.out) (Kd.R_base ho51) hb); have n1_ := Aside0.mk (Kd.R_lower (Kd.R_new' ho51 (Kd.R_lt (by (with_reducible repeat (first | apply Kd.R_alloc | apply Kd.R_drewN | apply Kd.R_drew)); exact HO_12.out))) (below_size (by repeat (first | (with_reducible first | exact HB.out | apply below_alloc | apply pw_below_drewN | apply below_drew1) | exact HB.out)))); have n2_ := Aside0.mk (below_step (by repeat (first | (with_reducible first | exact HB.out | apply below_alloc | apply pw_below_drewN | apply below_drew1) | exact HB.out)) hb); clear HO_12; clear HB; have HO_12 := n0_; have HO265 := n1_; have HB := n2_; clear n0_ n1_ n2_; clear hb ho51) | ((with_reducible refine gate_builtin (b := .append) (xs := #[.tmp 52, .tmp 53]) rfl ?_); (try (refine gate_guard (by rfl) ?_; dsimp only)); at_builtin; refine Kd.R_append_rows (Kd.int .u8) (w0 := w) w.heap.size rfl (.tmp 52) (.tmp 53) 23 5 (.int .u8 0) 1 rfl Try.underlying23 info5 rfl (by decide) (by omega) v264 y263 t246 _ _ _ (fun k_ => some k_ ≠ (.slice Ao49 t246.length co49 : Value).ownBlock) (fun _ => False) rfl rfl ?aO ?aR (fun _ _ h => h) (fun _ h => h.elim) ?aF ?aB ?aS ?aL ?_; (case aR => repeat (first | exact (Kd.R_reads' HO_12.out).2.2 | (with_reducible refine Kd.C_alloc ?_ _) | (with_reducible refine Kd.C_drewN ?_ _) | (with_reducible refine Kd.C_drew ?_))); (case aB => exact (by repeat (first | (with_reducible first | exact HB.out | apply below_alloc | apply pw_below_drewN | apply below_drew1) | exact HB.out))); (case aF => exact (fun k_ hk => Kd.fresh' (Kd.R_lt (by (with_reducible repeat (first | apply Kd.R_alloc | apply Kd.R_drewN | apply Kd.R_drew)); exact HO_12.out)) k_ hk)); (case aO => exact (by (with_reducible repeat (first | apply Kd.R_alloc | apply Kd.R_drewN | apply Kd.R_drew)); exact Kd.R_mono HO265.out (fun _ hk => hk.2))); (case aS => exact (below_size (by repeat (first | (with_reducible first | exact HB.out | apply below_alloc | apply pw_below_drewN | apply below_drew1) | exact HB.out)))); (case aL => have := LMc42.out; omega); intro v267 w52 ho hb hg hat; rw [← Ny266.out] at ho; have n0_ := Aside0.mk (Kd.R_after (ok := (fun _ => True)) (by (with_reducible repeat (first | apply Kd.R_alloc | apply Kd.R_drewN | apply Kd.R_drew)); exact HO_12.out) hg hat); have n1_ := Aside0.mk (hb); have n2_ := Aside0.mk (ho); clear HO_12; clear HB; clear HO265; have HO_12 := n0_; have HB := n1_; have HO268 := n2_; clear n0_ n1_ n2_; clear ho hb hg hat; obtain ⟨Ao53, co53, eo53⟩ := Kd.R_slice HO268.out; subst eo53; have p269 : 0 ≤ ((ji43) : Int) := of_decide_eq_true (by first | (with_reducible assumption) | assumption); have q269 : (ji43) < (y266.length : Int) := of_decide_eq_true (by first | (with_reducible assumption) | assumption); obtain ⟨ad269, e269, hx269_0⟩ := Kd.at_int (Kd.R_reads' HO268.out).2.2 (ji43) p269 q269; cases e269; replace p269 := eq_true p269; replace q269 := eq_true q269; have p46 : 0 ≤ ((ji43) : Int) := of_decide_eq_true (by first | (with_reducible assumption) | assumption); have q46 : ((ji43) : Int) < ((y266.length : Int) : Int) := of_decide_eq_true (by first | (with_reducible assumption) | assumption); obtain ⟨go46, co46, eo46, gb46, gl46, cl46, HG46⟩ := Kd.R_form HO268.out (by omega); (first | cases eo46 | (injection eo46 with ea_ en_ ec_; (first | subst ea_ | (injection ea_ with ea_; subst ea_)); subst ec_; clear en_)); have GB46 := Aside0.mk gb46; have GG46 := Aside0.mk HG46; clear gb46 gl46 HG46; (first | simp only [add_plain] at hx269_0 | skip); obtain ⟨hx46_0, hf46_0⟩ := Kd.R_celln 0 HO268.out ((ji43) : Int) p46 q46; replace p46 := eq_true p46; replace q46 := eq_true q46; obtain ⟨hy54_, hz54_⟩ := Kd.R_celln 0 HO268.out ((ji43) : Int) (of_decide_eq_true (by first | (with_reducible assumption) | assumption)) (of_decide_eq_true (by first | (with_reducible assumption) | assumption)); have HP54 := Kd.R_putg HO268.out ((ji43) : Int) (Go.bits .xor .u8 (rd y266 (ji43)) a4)) | ((with_reducible refine gate_store (t := 5) (p := 63) rfl ?_); refine store_event (t := 5) (p := 63) (v := ?vo_w55) (w1 := (w52.setCell ⟨go46, ((ji43) : Int).toNat, none⟩ (.int .u8 (Go.bits .xor .u8 (rd y266 (ji43)) a4)))) ?hg ?ho ?hn ?hr ?_; (case ho => rfl); (case hg => rfl); (case hn => rfl); (case hr => first | (go_simp; done) | (go_simp; rfl)); intro w55 hw; have hg : w52.grownBy w55 (some go46) := (by rw [hw]; exact HP54.2); have hp_ : Kd.R (Kd.int .u8) 5 w55 w.heap.size (fun k_ => some k_ ≠ (.slice Ao49 t246.length co49 : Value).ownBlock) (.slice (some ⟨go46, 0, none⟩) y266.length co53) y270 := (by rw [hw, Ny270.out]; exact HP54.1); clear HP54; have n0_ := Aside0.mk (Kd.R_after (v := (.slice (some ⟨go46, 0, none⟩) y266.length co53)) (v1 := (.slice (some ⟨go46, 0, none⟩) y266.length co53)) (ok := (fun _ => True)) (by (with_reducible repeat (first | apply Kd.R_alloc | apply Kd.R_drewN | apply Kd.R_drew)); exact HO_12.out) hg (.inl rfl)); have n1_ := Aside0.mk (hp_); have n2_ := Aside0.mk ((by rw [hw]; exact below_set (HB.out) GB46.out : Below w.heap.size w w55)); clear HO_12; clear HO268; clear HB; have HO_12 := n0_; have HO268 := n1_; have HB := n2_; clear n0_ n1_ n2_; clear hg hw hp_) | ((with_reducible refine gate_callee (f := 12) rfl ?_); refine goesL_ (some 67) rfl rfl Try.func12 (by kernel_rfl) rfl #[.int .i64 a0, .slice (some ⟨go46, 0, none⟩) y270.length co53] rfl (by (try simp only [List.map_toArray, List.map_cons, List.map_nil]); first | done | (rw [show y270.length = y266.length from (Kd.R_reads' HO268.out).1.symm] <;> rfl) | rfl | (simp only [List.length_drop, List.length_take]; rfl)) ?_; (with_reducible refine (sector_Unpack.calls kj7 a0 _ _ y270 t271 t272 t273 _ ?side1 ?side2 A47.out).mono ?_); (case side1 => repeat (first | exact (Kd.R_reads' HO268.out).2.2 | (with_reducible refine Kd.C_alloc ?_ _) | (with_reducible refine Kd.C_drewN ?_ _) | (with_reducible refine Kd.C_drew ?_))); (case side2 => rw [show y270.length = y266.length from (Kd.R_reads' HO268.out).1.symm]; exact (Kd.R_reads' HO268.out).2.1); rintro e w56 ⟨v274, rfl, ho0, hb⟩; refine ⟨_, rfl, ?_⟩; have n0_ := Aside0.mk (Kd.R_elder' (by (with_reducible repeat (first | apply Kd.R_alloc | apply Kd.R_drewN | apply Kd.R_drew)); exact HO_12.out) (Kd.R_base ho0) hb); have n1_ := Aside0.mk (Kd.R_elder' (by (with_reducible repeat (first | apply Kd.R_alloc | apply Kd.R_drewN | apply Kd.R_drew)); exact HO268.out) (Kd.R_base ho0) hb); have n2_ := Aside0.mk (Kd.R_lower (Kd.R_new' (Kd.R_new' ho0 (Kd.R_lt (by (with_reducible repeat (first | apply Kd.R_alloc | apply Kd.R_drewN | apply Kd.R_drew)); exact HO_12.out))) (Kd.R_lt (by (with_reducible repeat (first | apply Kd.R_alloc | apply Kd.R_drewN | apply Kd.R_drew)); exact HO268.out))) (below_size (by repeat (first | (with_reducible first | exact HB.out | apply below_alloc | apply pw_below_drewN | apply below_drew1) | exact HB.out)))); have n3_ := Aside0.mk (below_step (by repeat (first | (with_reducible first | exact HB.out | apply below_alloc | apply pw_below_drewN | apply below_drew1) | exact HB.out)) hb); clear HO_12; clear HO268; clear HB; have HO_12 := n0_; have HO268 := n1_; have HO275 := n2_; have HB := n3_; clear n0_ n1_ n2_ n3_; (try clear hb); (try clear hb2); (try clear hk); (try clear hi); (try clear ho0)))
                    go_ret
                    exact ⟨by first | rfl | (simp [errW_none, errW_some] <;> rfl) | (simp only [← hji43]; first | rfl | (simp [errW_none, errW_some] <;> rfl)) | (simp [*, errW_none, errW_some] <;> rfl), by repeat (first | (with_reducible first | exact HB.out | apply below_alloc | apply pw_below_drewN | apply below_drew1) | exact HB.out)⟩
                  · replace c48 := Bool.eq_false_iff.mpr c48
                    subst c48
                    have H1 : (some false) = some r := by rw [if_neg (show ¬ (false = true) by decide)] at H; exact H
                    clear H
                    have H := H1
                    clear H1
                    obtain rfl := Option.some.inj H
                    obtain ⟨Ao57, co57, eo57⟩ := Kd.R_slice HO_12.out
                    subst eo57
                    go_wp2_with (first | ((with_reducible refine gate_dst (N := 52) rfl ?_); (try (refine gate_guard (by rfl) ?_; dsimp only)); refine Kd.R_lit (Kd.int .u8) _ 5 ?hg (N := 52) ?hd (xs := ([] : List Int)) (inner := []) (ok := fun _ => True) (okp := fun _ => True) ?hr ?hp (fun _ hk => hk) trivial (Below.refl _ _) (Nat.le_refl _) (by simp) ?_; (case hd => rfl); (case hg => rfl); (case hr => first | (go_simp; done) | (go_simp; rfl)); (case hp => exact (Reps.none _ _)); intro v264 w58 ho59 hb hg_ hnew_; clear hg_ hnew_; (first | rw [← Ny263.out] at ho59 | (simp only [Int.reduceToNat] at ho59; rw [← Ny263.out] at ho59)); have n0_ := Aside0.mk (Kd.R_elder' (by (with_reducible repeat (first | apply Kd.R_alloc | apply Kd.R_drewN | apply Kd.R_drew)); exact HO_12.out) (Kd.R_base ho59) hb); have n1_ := Aside0.mk (Kd.R_lower (Kd.R_new' ho59 (Kd.R_lt (by (with_reducible repeat (first | apply Kd.R_alloc | apply Kd.R_drewN | apply Kd.R_drew)); exact HO_12.out))) (below_size (by repeat (first | (with_reducible first | exact HB.out | apply below_alloc | apply pw_below_drewN | apply below_drew1) | exact HB.out)))); have n2_ := Aside0.mk (below_step (by repeat (first | (with_reducible first | exact HB.out | apply below_alloc | apply pw_below_drewN | apply below_drew1) | exact HB.out)) hb); clear HO_12; clear HB; have HO_12 := n0_; have HO265 := n1_; have HB := n2_; clear n0_ n1_ n2_; clear hb ho59) | ((with_reducible refine gate_builtin (b := .append) (xs := #[.tmp 52, .tmp 53]) rfl ?_); (try (refine gate_guard (by rfl) ?_; dsimp only)); at_builtin; refine Kd.R_append_rows (Kd.int .u8) (w0 := w) w.heap.size rfl (.tmp 52) (.tmp 53) 23 5 (.int .u8 0) 1 rfl Try.underlying23 info5 rfl (by decide) (by omega) v264 y263 t246 _ _ _ (fun k_ => some k_ ≠ (.slice Ao57 t246.length co57 : Value).ownBlock) (fun _ => False) rfl rfl ?aO ?aR (fun _ _ h => h) (fun _ h => h.elim) ?aF ?aB ?aS ?aL ?_; (case aR => repeat (first | exact (Kd.R_reads' HO_12.out).2.2 | (with_reducible refine Kd.C_alloc ?_ _) | (with_reducible refine Kd.C_drewN ?_ _) | (with_reducible refine Kd.C_drew ?_))); (case aB => exact (by repeat (first | (with_reducible first | exact HB.out | apply below_alloc | apply pw_below_drewN | apply below_drew1) | exact HB.out))); (case aF => exact (fun k_ hk => Kd.fresh' (Kd.R_lt (by (with_reducible repeat (first | apply Kd.R_alloc | apply Kd.R_drewN | apply Kd.R_drew)); exact HO_12.out)) k_ hk)); (case aO => exact (by (with_reducible repeat (first | apply Kd.R_alloc | apply Kd.R_drewN | apply Kd.R_drew)); exact Kd.R_mono HO265.out (fun _ hk => hk.2))); (case aS => exact (below_size (by repeat (first | (with_reducible first | exact HB.out | apply below_alloc | apply pw_below_drewN | apply below_drew1) | exact HB.out)))); (case aL => have := LMc42.out; omega); intro v267 w60 ho hb hg hat; rw [← Ny266.out] at ho; have n0_ := Aside0.mk (Kd.R_after (ok := (fun _ => True)) (by (with_reducible repeat (first | apply Kd.R_alloc | apply Kd.R_drewN | apply Kd.R_drew)); exact HO_12.out) hg hat); have n1_ := Aside0.mk (hb); have n2_ := Aside0.mk (ho); clear HO_12; clear HB; clear HO265; have HO_12 := n0_; have HB := n1_; have HO268 := n2_; clear n0_ n1_ n2_; clear ho hb hg hat; obtain ⟨Ao61, co61, eo61⟩ := Kd.R_slice HO268.out; subst eo61; have p269 : 0 ≤ ((ji43) : Int) := of_decide_eq_true (by first | (with_reducible assumption) | assumption); have q269 : (ji43) < (y266.length : Int) := of_decide_eq_true (by first | (with_reducible assumption) | assumption); obtain ⟨ad269, e269, hx269_0⟩ := Kd.at_int (Kd.R_reads' HO268.out).2.2 (ji43) p269 q269; cases e269; replace p269 := eq_true p269; replace q269 := eq_true q269; have p46 : 0 ≤ ((ji43) : Int) := of_decide_eq_true (by first | (with_reducible assumption) | assumption); have q46 : ((ji43) : Int) < ((y266.length : Int) : Int) := of_decide_eq_true (by first | (with_reducible assumption) | assumption); obtain ⟨go46, co46, eo46, gb46, gl46, cl46, HG46⟩ := Kd.R_form HO268.out (by omega); (first | cases eo46 | (injection eo46 with ea_ en_ ec_; (first | subst ea_ | (injection ea_ with ea_; subst ea_)); subst ec_; clear en_)); have GB46 := Aside0.mk gb46; have GG46 := Aside0.mk HG46; clear gb46 gl46 HG46; (first | simp only [add_plain] at hx269_0 | skip); obtain ⟨hx46_0, hf46_0⟩ := Kd.R_celln 0 HO268.out ((ji43) : Int) p46 q46; replace p46 := eq_true p46; replace q46 := eq_true q46; obtain ⟨hy62_, hz62_⟩ := Kd.R_celln 0 HO268.out ((ji43) : Int) (of_decide_eq_true (by first | (with_reducible assumption) | assumption)) (of_decide_eq_true (by first | (with_reducible assumption) | assumption)); have HP62 := Kd.R_putg HO268.out ((ji43) : Int) (Go.bits .xor .u8 (rd y266 (ji43)) a4)) | ((with_reducible refine gate_store (t := 5) (p := 63) rfl ?_); refine store_event (t := 5) (p := 63) (v := ?vo_w63) (w1 := (w60.setCell ⟨go46, ((ji43) : Int).toNat, none⟩ (.int .u8 (Go.bits .xor .u8 (rd y266 (ji43)) a4)))) ?hg ?ho ?hn ?hr ?_; (case ho => rfl); (case hg => rfl); (case hn => rfl); (case hr => first | (go_simp; done) | (go_simp; rfl)); intro w63 hw; have hg : w60.grownBy w63 (some go46) := (by rw [hw]; exact HP62.2); have hp_ : Kd.R (Kd.int .u8) 5 w63 w.heap.size (fun k_ => some k_ ≠ (.slice Ao57 t246.length co57 : Value).ownBlock) (.slice (some ⟨go46, 0, none⟩) y266.length co61) y270 := (by rw [hw, Ny270.out]; exact HP62.1); clear HP62; have n0_ := Aside0.mk (Kd.R_after (v := (.slice (some ⟨go46, 0, none⟩) y266.length co61)) (v1 := (.slice (some ⟨go46, 0, none⟩) y266.length co61)) (ok := (fun _ => True)) (by (with_reducible repeat (first | apply Kd.R_alloc | apply Kd.R_drewN | apply Kd.R_drew)); exact HO_12.out) hg (.inl rfl)); have n1_ := Aside0.mk (hp_); have n2_ := Aside0.mk ((by rw [hw]; exact below_set (HB.out) GB46.out : Below w.heap.size w w63)); clear HO_12; clear HO268; clear HB; have HO_12 := n0_; have HO268 := n1_; have HB := n2_; clear n0_ n1_ n2_; clear hg hw hp_) | ((with_reducible refine gate_callee (f := 12) rfl ?_); refine goesL_ (some 67) rfl rfl Try.func12 (by kernel_rfl) rfl #[.int .i64 a0, .slice (some ⟨go46, 0, none⟩) y270.length co61] rfl (by (try simp only [List.map_toArray, List.map_cons, List.map_nil]); first | done | (rw [show y270.length = y266.length from (Kd.R_reads' HO268.out).1.symm] <;> rfl) | rfl | (simp only [List.length_drop, List.length_take]; rfl)) ?_; (with_reducible refine (sector_Unpack.calls kj7 a0 _ _ y270 t271 t272 t273 _ ?side1 ?side2 A47.out).mono ?_); (case side1 => repeat (first | exact (Kd.R_reads' HO268.out).2.2 | (with_reducible refine Kd.C_alloc ?_ _) | (with_reducible refine Kd.C_drewN ?_ _) | (with_reducible refine Kd.C_drew ?_))); (case side2 => rw [show y270.length = y266.length from (Kd.R_reads' HO268.out).1.symm]; exact (Kd.R_reads' HO268.out).2.1); rintro e w64 ⟨v274, rfl, ho0, hb⟩; refine ⟨_, rfl, ?_⟩; have n0_ := Aside0.mk (Kd.R_elder' (by (with_reducible repeat (first | apply Kd.R_alloc | apply Kd.R_drewN | apply Kd.R_drew)); exact HO_12.out) (Kd.R_base ho0) hb); have n1_ := Aside0.mk (Kd.R_elder' (by (with_reducible repeat (first | apply Kd.R_alloc | apply Kd.R_drewN | apply Kd.R_drew)); exact HO268.out) (Kd.R_base ho0) hb); have n2_ := Aside0.mk (Kd.R_lower (Kd.R_new' (Kd.R_new' ho0 (Kd.R_lt (by (with_reducible repeat (first | apply Kd.R_alloc | apply Kd.R_drewN | apply Kd.R_drew)); exact HO_12.out))) (Kd.R_lt (by (with_reducible repeat (first | apply Kd.R_alloc | apply Kd.R_drewN | apply Kd.R_drew)); exact HO268.out))) (below_size (by repeat (first | (with_reducible first | exact HB.out | apply below_alloc | apply pw_below_drewN | apply below_drew1) | exact HB.out)))); have n3_ := Aside0.mk (below_step (by repeat (first | (with_reducible first | exact HB.out | apply below_alloc | apply pw_below_drewN | apply below_drew1) | exact HB.out)) hb); clear HO_12; clear HO268; clear HB; have HO_12 := n0_; have HO268 := n1_; have HO275 := n2_; have HB := n3_; clear n0_ n1_ n2_ n3_; (try clear hb); (try clear hb2); (try clear hk); (try clear hi); (try clear ho0)))
                    go_ret
                    exact ⟨by first | rfl | (simp [errW_none, errW_some] <;> rfl) | (simp only [← hji43]; first | rfl | (simp [errW_none, errW_some] <;> rfl)) | (simp [*, errW_none, errW_some] <;> rfl), by repeat (first | (with_reducible first | exact HB.out | apply below_alloc | apply pw_below_drewN | apply below_drew1) | exact HB.out)⟩
                · rw [if_neg c45] at H
                  exact absurd H (by simp)
              · rw [if_neg c44] at H
                exact absurd H (by simp)
            · rw [if_neg c42] at H
              exact absurd H (by simp)

/-- THE ONE PURE STATEMENT of aumbrylaw11_SectorTells: yours. -/
def aumbrylaw11_SectorTells.Pure : Prop := ∀ (a0 : Int) (a1 : Int) (l2 : List Int) (a3 : Int) (a4 : Int), (Lit.int .i64 a0).wf = true → (Lit.int .i64 a1).wf = true → l2.length ≤ maxLen → l2.length * 1 ≤ 140737488351232 → (∀ x ∈ l2, (Lit.int .u8 x).wf = true) → (Lit.int .i64 a3).wf = true → (Lit.int .u8 a4).wf = true → ∃ k, aumbrylaw11_SectorTells.f k a0 a1 l2 a3 a4 = some true
theorem aumbrylaw11_SectorTells.walk (P : aumbrylaw11_SectorTells.Pure) (a0 : Int) (a1 : Int) (a2 : Option Addr) (len2 cap2 : Nat) (z2 : List Int) (a3 : Int) (a4 : Int) (w : World) (w0 : (Lit.int .i64 a0).wf = true) (w1 : (Lit.int .i64 a1).wf = true) (w2 : (a2 = none ∧ len2 = 0 ∧ cap2 = 0 ∧ z2 = []) ∨ ∃ x, a2 = some x ∧ len2 ≤ cap2 ∧ cap2 ≤ maxLen ∧ z2.length = cap2 ∧ (∀ i, i < z2.length → w.cell? (x.add i) = some (.int .u8 (z2.getD i 0))) ∧ ∀ n ∈ z2, (Lit.int .u8 n).wf = true) (y2 : len2 * 1 ≤ 140737488351232) (w3 : (Lit.int .i64 a3).wf = true) (w4 : (Lit.int .u8 a4).wf = true) :
    Calls Try.prog 6 #[.int .i64 a0, .int .i64 a1, .slice a2 len2 cap2, .int .i64 a3, .int .u8 a4] w fun e w' => e = .returned (.bool true) ∧ Below w.heap.size w w' := by
  obtain ⟨l2, rfl, hr2, hm2, hw2, hc2⟩ := ReadsInt.ofRowC w2
  obtain ⟨k, h⟩ := P a0 a1 l2 a3 a4 w0 w1 hm2 y2 hw2 w3 w4
  refine (aumbrylaw11_SectorTells.calls k a0 a1 _ _ l2 a3 a4 true w (Kd.C_of_reads (d := (0 : Int)) (h1 := fun _ => rfl) hr2) hc2 h).mono ?_
  rintro e w' ⟨rfl, hd⟩
  exact ⟨rfl, hd⟩

/-! ### aumbrylaw11_SectorCuts: function 7 -/
mutual
def aumbrylaw11_SectorCuts.j0 : Nat → Int → Int → List Int → Int → Bool → List Int → Bool → Option (Bool)
  | 0, _, _, _, _, _, _, _ => none
  | k + 1, x0, x1, x2, x3, x9, x10, x35 => if x35 = true then (some x9) else (if x3 < 0 then (aumbrylaw11_SectorCuts.j1 k x0 x1 x2 (wrap64 (-(wrap64 (x3 + 1)))) x9 x10) else (aumbrylaw11_SectorCuts.j1 k x0 x1 x2 x3 x9 x10))
def aumbrylaw11_SectorCuts.j1 : Nat → Int → Int → List Int → Int → Bool → List Int → Option (Bool)
  | 0, _, _, _, _, _, _ => none
  | k + 1, x0, x1, x2, x3, x9, x10 => if (x10.length : Int) = 0 then (none) else (if 0 ≤ (Int.tmod x3 (x10.length : Int)) then (if (Int.tmod x3 (x10.length : Int)) ≤ (x10.length : Int) then ((sector_Unpack.f k x0 (x10.take ((Int.tmod x3 (x10.length : Int)) : Int).toNat)).bind fun bt285 => (if bt285.2.2 = 0 then (if (bt285.2.1.length : Int) > (x2.length : Int) then (aumbrylaw11_SectorCuts.j2 k x2 x9 bt285.2.1 true) else (aumbrylaw11_SectorCuts.j2 k x2 x9 bt285.2.1 (bt285.1 != x1))) else (if x9 = true then (some (bt285.2.2 == 110)) else (some false)))) else (none)) else (none))
def aumbrylaw11_SectorCuts.j2 : Nat → List Int → Bool → List Int → Bool → Option (Bool)
  | 0, _, _, _, _ => none
  | k + 1, x2, x9, x13, x71 => if x71 = true then (some false) else (if 0 ≤ (x13.length : Int) then (if (x13.length : Int) ≤ (x2.length : Int) then ((aumbryref02_Same.f k x13 (x2.take ((x13.length : Int) : Int).toNat)).bind fun t291 => (if x9 = true then (some t291) else (some false))) else (none)) else (none))
end
def aumbrylaw11_SectorCuts.f (k : Nat) (a0 : Int) (a1 : Int) (l2 : List Int) (a3 : Int) : Option (Bool) := (aumbrylaw11_awake.f k).bind fun t276 => ((sector_Pack.f k a0 a1 l2).bind fun bt277 => (if bt277.2 = 0 then (if (l2.length : Int) > 3000 then (aumbrylaw11_SectorCuts.j0 k a0 a1 l2 a3 t276 bt277.1 true) else (aumbrylaw11_SectorCuts.j0 k a0 a1 l2 a3 t276 bt277.1 ((bt277.1.length : Int) == 0))) else (aumbrylaw11_SectorCuts.j0 k a0 a1 l2 a3 t276 bt277.1 true)))
theorem aumbrylaw11_SectorCuts.mono_l : ∀ k, (∀ y0 y1 y2 y3 y4 y5 y6, LeO (aumbrylaw11_SectorCuts.j0 k y0 y1 y2 y3 y4 y5 y6) (aumbrylaw11_SectorCuts.j0 (k + 1) y0 y1 y2 y3 y4 y5 y6)) ∧ (∀ y0 y1 y2 y3 y4 y5, LeO (aumbrylaw11_SectorCuts.j1 k y0 y1 y2 y3 y4 y5) (aumbrylaw11_SectorCuts.j1 (k + 1) y0 y1 y2 y3 y4 y5)) ∧ (∀ y0 y1 y2 y3, LeO (aumbrylaw11_SectorCuts.j2 k y0 y1 y2 y3) (aumbrylaw11_SectorCuts.j2 (k + 1) y0 y1 y2 y3))
  | 0 => ⟨fun _ _ _ _ _ _ _ r h => by simp [aumbrylaw11_SectorCuts.j0] at h, fun _ _ _ _ _ _ r h => by simp [aumbrylaw11_SectorCuts.j1] at h, fun _ _ _ _ r h => by simp [aumbrylaw11_SectorCuts.j2] at h⟩
  | k + 1 => by
    obtain ⟨ih0, ih1, ih2⟩ := aumbrylaw11_SectorCuts.mono_l k
    refine ⟨?_, ?_, ?_⟩
    · intro y0 y1 y2 y3 y4 y5 y6
      unfold aumbrylaw11_SectorCuts.j0
      repeat' first
      | (with_reducible exact ih0 _ _ _ _ _ _ _)
      | (with_reducible exact ih1 _ _ _ _ _ _)
      | (with_reducible exact ih2 _ _ _ _)
      | (with_reducible exact aumbrylaw11_awake.mono _)
      | (with_reducible exact aumbryref02_Same.mono _ _ _)
      | (with_reducible exact sector_Pack.mono _ _ _ _)
      | (with_reducible exact sector_Unpack.mono _ _ _)
      | (with_reducible exact LeO.refl _)
      | (with_reducible exact LeO.none _)
      | (with_reducible refine LeO.ite ?_ ?_)
      | (with_reducible refine LeO.bind ?_ (fun _ => ?_))
      | exact ih0 _ _ _ _ _ _ _
      | exact ih1 _ _ _ _ _ _
      | exact ih2 _ _ _ _
      | exact aumbrylaw11_awake.mono _
      | exact aumbryref02_Same.mono _ _ _
      | exact sector_Pack.mono _ _ _ _
      | exact sector_Unpack.mono _ _ _
      | exact LeO.none _
      | refine LeO.ite ?_ ?_
      | refine LeO.bind ?_ (fun _ => ?_)
    · intro y0 y1 y2 y3 y4 y5
      unfold aumbrylaw11_SectorCuts.j1
      repeat' first
      | (with_reducible exact ih0 _ _ _ _ _ _ _)
      | (with_reducible exact ih1 _ _ _ _ _ _)
      | (with_reducible exact ih2 _ _ _ _)
      | (with_reducible exact aumbrylaw11_awake.mono _)
      | (with_reducible exact aumbryref02_Same.mono _ _ _)
      | (with_reducible exact sector_Pack.mono _ _ _ _)
      | (with_reducible exact sector_Unpack.mono _ _ _)
      | (with_reducible exact LeO.refl _)
      | (with_reducible exact LeO.none _)
      | (with_reducible refine LeO.ite ?_ ?_)
      | (with_reducible refine LeO.bind ?_ (fun _ => ?_))
      | exact ih0 _ _ _ _ _ _ _
      | exact ih1 _ _ _ _ _ _
      | exact ih2 _ _ _ _
      | exact aumbrylaw11_awake.mono _
      | exact aumbryref02_Same.mono _ _ _
      | exact sector_Pack.mono _ _ _ _
      | exact sector_Unpack.mono _ _ _
      | exact LeO.none _
      | refine LeO.ite ?_ ?_
      | refine LeO.bind ?_ (fun _ => ?_)
    · intro y0 y1 y2 y3
      unfold aumbrylaw11_SectorCuts.j2
      repeat' first
      | (with_reducible exact ih0 _ _ _ _ _ _ _)
      | (with_reducible exact ih1 _ _ _ _ _ _)
      | (with_reducible exact ih2 _ _ _ _)
      | (with_reducible exact aumbrylaw11_awake.mono _)
      | (with_reducible exact aumbryref02_Same.mono _ _ _)
      | (with_reducible exact sector_Pack.mono _ _ _ _)
      | (with_reducible exact sector_Unpack.mono _ _ _)
      | (with_reducible exact LeO.refl _)
      | (with_reducible exact LeO.none _)
      | (with_reducible refine LeO.ite ?_ ?_)
      | (with_reducible refine LeO.bind ?_ (fun _ => ?_))
      | exact ih0 _ _ _ _ _ _ _
      | exact ih1 _ _ _ _ _ _
      | exact ih2 _ _ _ _
      | exact aumbrylaw11_awake.mono _
      | exact aumbryref02_Same.mono _ _ _
      | exact sector_Pack.mono _ _ _ _
      | exact sector_Unpack.mono _ _ _
      | exact LeO.none _
      | refine LeO.ite ?_ ?_
      | refine LeO.bind ?_ (fun _ => ?_)
theorem aumbrylaw11_SectorCuts.mono : ∀ a0 a1 a2 a3 k, LeO (aumbrylaw11_SectorCuts.f k a0 a1 a2 a3) (aumbrylaw11_SectorCuts.f (k + 1) a0 a1 a2 a3) := by
  intro a0 a1 a2 a3 k
  obtain ⟨ih0, ih1, ih2⟩ := aumbrylaw11_SectorCuts.mono_l k
  unfold aumbrylaw11_SectorCuts.f
  repeat' first
      | (with_reducible exact ih0 _ _ _ _ _ _ _)
      | (with_reducible exact ih1 _ _ _ _ _ _)
      | (with_reducible exact ih2 _ _ _ _)
      | (with_reducible exact aumbrylaw11_awake.mono _)
      | (with_reducible exact aumbryref02_Same.mono _ _ _)
      | (with_reducible exact sector_Pack.mono _ _ _ _)
      | (with_reducible exact sector_Unpack.mono _ _ _)
      | (with_reducible exact LeO.refl _)
      | (with_reducible exact LeO.none _)
      | (with_reducible refine LeO.ite ?_ ?_)
      | (with_reducible refine LeO.bind ?_ (fun _ => ?_))
      | exact ih0 _ _ _ _ _ _ _
      | exact ih1 _ _ _ _ _ _
      | exact ih2 _ _ _ _
      | exact aumbrylaw11_awake.mono _
      | exact aumbryref02_Same.mono _ _ _
      | exact sector_Pack.mono _ _ _ _
      | exact sector_Unpack.mono _ _ _
      | exact LeO.none _
      | refine LeO.ite ?_ ?_
      | refine LeO.bind ?_ (fun _ => ?_)
set_option maxHeartbeats 8000000 in
set_option maxRecDepth 100000 in
theorem aumbrylaw11_SectorCuts.calls (k : Nat) (a0 : Int) (a1 : Int) (A2 : Option Addr) (c2 : Nat) (l2 : List Int) (a3 : Int) (r : Bool) (w : World) (hr2 : Kd.C (Kd.int .u8) w A2 l2.length l2) (hc2 : l2.length ≤ c2) (h : aumbrylaw11_SectorCuts.f k a0 a1 l2 a3 = some r) :
    Calls Try.prog 7 #[.int .i64 a0, .int .i64 a1, .slice A2 l2.length c2, .int .i64 a3] w fun e w' => e = .returned (.bool r) ∧ Below w.heap.size w w' := by
  have HR2 := Aside0.mk hr2
  have HC2 := Aside0.mk hc2
  clear hr2 hc2
  have HB := Aside0.mk (Below.refl w.heap.size w)
  have H : ((aumbrylaw11_awake.f k).bind fun t276 => ((sector_Pack.f k a0 a1 l2).bind fun bt277 => (if bt277.2 = 0 then (if (l2.length : Int) > 3000 then (aumbrylaw11_SectorCuts.j0 k a0 a1 l2 a3 t276 bt277.1 true) else (aumbrylaw11_SectorCuts.j0 k a0 a1 l2 a3 t276 bt277.1 ((bt277.1.length : Int) == 0))) else (aumbrylaw11_SectorCuts.j0 k a0 a1 l2 a3 t276 bt277.1 true)))) = some r := h
  clear h
  replace H := Option.bind_eq_some_iff.mp H
  obtain ⟨t276, A50, H⟩ := H
  replace H : ((sector_Pack.f k a0 a1 l2).bind fun bt277 => (if bt277.2 = 0 then (if (l2.length : Int) > 3000 then (aumbrylaw11_SectorCuts.j0 k a0 a1 l2 a3 t276 bt277.1 true) else (aumbrylaw11_SectorCuts.j0 k a0 a1 l2 a3 t276 bt277.1 ((bt277.1.length : Int) == 0))) else (aumbrylaw11_SectorCuts.j0 k a0 a1 l2 a3 t276 bt277.1 true))) = some r := H
  have A5 := Aside0.mk A50
  clear A50
  replace H := Option.bind_eq_some_iff.mp H
  obtain ⟨⟨t277, t278⟩, A60, H⟩ := H
  replace H : (if t278 = 0 then (if (l2.length : Int) > 3000 then (aumbrylaw11_SectorCuts.j0 k a0 a1 l2 a3 t276 t277 true) else (aumbrylaw11_SectorCuts.j0 k a0 a1 l2 a3 t276 t277 ((t277.length : Int) == 0))) else (aumbrylaw11_SectorCuts.j0 k a0 a1 l2 a3 t276 t277 true)) = some r := H
  have A6 := Aside0.mk A60
  clear A60
  have HC7 := Aside0.mk H
  clear H
  go_enter Try.func7, Try.ntmps7
  go_upto_region 3 with (first | ((with_reducible refine gate_callee (f := 9) rfl ?_); refine goesL_ (some 16) rfl rfl Try.func9 (by kernel_rfl) rfl #[] rfl (by (try simp only [List.map_toArray, List.map_cons, List.map_nil]); first | done | rfl | (simp only [List.length_drop, List.length_take]; rfl)) ?_; (with_reducible refine (aumbrylaw11_awake.calls k  t276 _ A5.out).mono ?_); rintro e w8 ⟨rfl, hb⟩; refine ⟨_, rfl, ?_⟩; have n0_ := Aside0.mk (below_step (by repeat (first | (with_reducible first | exact HB.out | apply below_alloc | apply pw_below_drewN | apply below_drew1) | exact HB.out)) hb); clear HB; have HB := n0_; clear n0_; (try clear hb); (try clear hb2); (try clear hk); (try clear hi)) | ((with_reducible refine gate_callee (f := 10) rfl ?_); refine goesL_ (some 21) rfl rfl Try.func10 (by kernel_rfl) rfl #[.int .i64 a0, .int .i64 a1, .slice A2 l2.length c2] rfl (by (try simp only [List.map_toArray, List.map_cons, List.map_nil]); first | done | rfl | (simp only [List.length_drop, List.length_take]; rfl)) ?_; (with_reducible refine (sector_Pack.calls k a0 a1 _ _ l2 t277 t278 _ ?side1 ?side2 A6.out).mono ?_); (case side1 => repeat (first | exact (Kd.C_below HR2.out HB.out) | (with_reducible refine Kd.C_alloc ?_ _) | (with_reducible refine Kd.C_drewN ?_ _) | (with_reducible refine Kd.C_drew ?_))); (case side2 => exact HC2.out); rintro e w9 ⟨v279, rfl, ho0, hb⟩; refine ⟨_, rfl, ?_⟩; have n0_ := Aside0.mk (Kd.R_lower ho0 (below_size (by repeat (first | (with_reducible first | exact HB.out | apply below_alloc | apply pw_below_drewN | apply below_drew1) | exact HB.out)))); have n1_ := Aside0.mk (below_step (by repeat (first | (with_reducible first | exact HB.out | apply below_alloc | apply pw_below_drewN | apply below_drew1) | exact HB.out)) hb); clear HB; have HO280 := n0_; have HB := n1_; clear n0_ n1_; (try clear hb); (try clear hb2); (try clear hk); (try clear hi); (try clear ho0)))
  (try simp only [Act.put, List.setIfInBounds_toArray, List.set_cons_zero, List.set_cons_succ])
  go_cut [35] (fun v35 wc => ∃ (kq : Nat) (x35_6 : Bool), v35 = .bool x35_6 ∧ Aside0 (aumbrylaw11_SectorCuts.j0 kq a0 a1 l2 a3 t276 t277 x35_6 = some r) ∧ Aside0 (kq ≤ k) ∧ Aside0 (Kd.R (Kd.int .u8) 5 wc w.heap.size (fun _ => True) v279 t277) ∧ Aside0 (Below w.heap.size w wc))
  case first =>
    have H := HC7.out
    clear HC7
    by_cases c10 : t278 = 0
    · rw [if_pos c10] at H
      have c10b0 : (t278 == 0) = true := beq_iff_eq.mpr c10
      have c10b1 : (t278 != 0) = false := bne_eq_false_iff_eq.mpr c10
      clear c10
      (first | rw [c10b0] | (simp only [i64_w, i32_w]; rw [c10b0]) | skip)
      by_cases c11 : (l2.length : Int) > 3000
      · rw [if_pos c11] at H
        have c11b0 : decide (3000 < (l2.length : Int)) = true := decide_eq_true c11
        have c11b1 : decide (3000 < l2.length) = true := decide_eq_true (by omega)
        clear c11
        have H' := Aside0.mk H
        clear H
        go_wp2
        go_meet
        case rel => exact ⟨_, (true), (by first | rfl | (simp; done) | (simp [*]; done)), H', ⟨by first | omega | exact Nat.le_refl _⟩, ⟨by (with_reducible repeat (first | apply Kd.R_alloc | apply Kd.R_drewN | apply Kd.R_drew)); exact HO280.out⟩, ⟨by repeat (first | (with_reducible first | exact HB.out | apply below_alloc | apply pw_below_drewN | apply below_drew1) | exact HB.out)⟩⟩
      · rw [if_neg c11] at H
        have c11b0 : decide (3000 < (l2.length : Int)) = false := decide_eq_false c11
        have c11b1 : decide (3000 < l2.length) = false := decide_eq_false (by omega)
        clear c11
        have H' := Aside0.mk H
        clear H
        obtain ⟨Ao12, co12, eo12⟩ := Kd.R_slice HO280.out
        subst eo12
        go_wp2
        go_meet
        case rel => exact ⟨_, (((t277.length : Int) == 0)), (by first | rfl | (simp; done) | (simp [*]; done)), H', ⟨by first | omega | exact Nat.le_refl _⟩, ⟨by (with_reducible repeat (first | apply Kd.R_alloc | apply Kd.R_drewN | apply Kd.R_drew)); exact HO280.out⟩, ⟨by repeat (first | (with_reducible first | exact HB.out | apply below_alloc | apply pw_below_drewN | apply below_drew1) | exact HB.out)⟩⟩
    · rw [if_neg c10] at H
      have c10b0 : (t278 == 0) = false := beq_eq_false_iff_ne.mpr c10
      have c10b1 : (t278 != 0) = true := bne_iff_ne.mpr c10
      (first | rw [c10b0] | (simp only [i64_w, i32_w]; rw [c10b0]) | skip)
      have H' := Aside0.mk H
      clear H
      go_wp2
      go_meet
      case rel => exact ⟨_, (true), (by first | rfl | (simp; done) | (simp [*]; done)), H', ⟨by first | omega | exact Nat.le_refl _⟩, ⟨by (with_reducible repeat (first | apply Kd.R_alloc | apply Kd.R_drewN | apply Kd.R_drew)); exact HO280.out⟩, ⟨by repeat (first | (with_reducible first | exact HB.out | apply below_alloc | apply pw_below_drewN | apply below_drew1) | exact HB.out)⟩⟩
  case rest =>
    clear HC7
    try clear c1
    try clear c2
    try clear p2
    try clear c7
    try clear c9
    try clear c10
    try clear c10b0
    try clear c10b1
    try clear c11
    try clear c11b0
    try clear c11b1
    obtain ⟨kq, x35_6, rfl, HA, HJ6, HO_10, HB⟩ := hcut
    cases kq with
    | zero => exact absurd HA.out (by simp [aumbrylaw11_SectorCuts.j0])
    | succ kj6 =>
      have H := HA.out
      clear HA
      simp only [aumbrylaw11_SectorCuts.j0] at H
      by_cases c13 : x35_6 = true
      · subst c13
        have H1 : (some t276) = some r := by rw [if_pos rfl] at H; exact H
        clear H
        have H := H1
        clear H1
        obtain rfl := Option.some.inj H
        go_wp2
        go_ret
        exact ⟨by first | rfl | (simp [errW_none, errW_some] <;> rfl) | (simp [*, errW_none, errW_some] <;> rfl), by repeat (first | (with_reducible first | exact HB.out | apply below_alloc | apply pw_below_drewN | apply below_drew1) | exact HB.out)⟩
      · replace c13 := Bool.eq_false_iff.mpr c13
        subst c13
        have H1 : (if a3 < 0 then (aumbrylaw11_SectorCuts.j1 kj6 a0 a1 l2 (wrap64 (-(wrap64 (a3 + 1)))) t276 t277) else (aumbrylaw11_SectorCuts.j1 kj6 a0 a1 l2 a3 t276 t277)) = some r := by rw [if_neg (show ¬ (false = true) by decide)] at H; exact H
        clear H
        have H := H1
        clear H1
        have HC14 := Aside0.mk H
        clear H
        go_upto_if 38 with (fail)
        go_cut [3] (fun v3 wc => ∃ (kq : Nat) (x3_13 : Int), v3 = .int .i64 x3_13 ∧ Aside0 (aumbrylaw11_SectorCuts.j1 kq a0 a1 l2 x3_13 t276 t277 = some r) ∧ Aside0 (kq ≤ kj6) ∧ Aside0 (Kd.R (Kd.int .u8) 5 wc w.heap.size (fun _ => True) v279 t277) ∧ Aside0 (Below w.heap.size w wc))
        case first =>
          have H := HC14.out
          clear HC14
          by_cases c15 : a3 < 0
          · rw [if_pos c15] at H
            have c15b0 : decide (a3 < 0) = true := decide_eq_true c15
            clear c15
            (first | rw [c15b0] | (simp only [i64_w, i32_w]; rw [c15b0]) | skip)
            have H' := Aside0.mk H
            clear H
            go_wp2
            go_meet
            case rel => exact ⟨_, (wrap64 (-(wrap64 (a3 + 1)))), (by first | rfl | (simp; done) | (simp [*]; done)), H', ⟨by have := HJ6.out; first | omega | exact Nat.le_refl _⟩, ⟨by (with_reducible repeat (first | apply Kd.R_alloc | apply Kd.R_drewN | apply Kd.R_drew)); exact HO_10.out⟩, ⟨by repeat (first | (with_reducible first | exact HB.out | apply below_alloc | apply pw_below_drewN | apply below_drew1) | exact HB.out)⟩⟩
          · rw [if_neg c15] at H
            have c15b0 : decide (a3 < 0) = false := decide_eq_false c15
            clear c15
            (first | rw [c15b0] | (simp only [i64_w, i32_w]; rw [c15b0]) | skip)
            have H' := Aside0.mk H
            clear H
            go_wp2
            go_meet
            case rel => exact ⟨_, (a3), (by first | rfl | (simp; done) | (simp [*]; done)), H', ⟨by have := HJ6.out; first | omega | exact Nat.le_refl _⟩, ⟨by (with_reducible repeat (first | apply Kd.R_alloc | apply Kd.R_drewN | apply Kd.R_drew)); exact HO_10.out⟩, ⟨by repeat (first | (with_reducible first | exact HB.out | apply below_alloc | apply pw_below_drewN | apply below_drew1) | exact HB.out)⟩⟩
        case rest =>
          clear HC14
          try clear c1
          try clear c2
          try clear p2
          try clear p6
          try clear c7
          try clear c9
          try clear c10
          try clear c10b0
          try clear c10b1
          try clear c11
          try clear c11b0
          try clear c11b1
          try clear c13
          try clear c15
          try clear c15b0
          try clear p2
          obtain ⟨kq, x3_13, rfl, HA, HJ13, HO_10, HB⟩ := hcut
          cases kq with
          | zero => exact absurd HA.out (by simp [aumbrylaw11_SectorCuts.j1])
          | succ kj13 =>
            have H := HA.out
            clear HA
            simp only [aumbrylaw11_SectorCuts.j1] at H
            by_cases c16 : (t277.length : Int) = 0
            · rw [if_pos c16] at H
              exact absurd H (by simp)
            · rw [if_neg c16] at H
              have c16b0 : ((t277.length : Int) == 0) = false := beq_eq_false_iff_ne.mpr c16
              have c16b1 : ((t277.length : Int) != 0) = true := bne_iff_ne.mpr c16
              have c16b2 : ¬ (t277 = []) := fun h_ => c16 (by rw [h_]; rfl)
              obtain ⟨ji17, hji17⟩ : ∃ j_ : Int, (Int.tmod x3_13 (t277.length : Int)) = j_ := ⟨_, rfl⟩
              replace H : (if 0 ≤ (ji17) then (if (ji17) ≤ (t277.length : Int) then ((sector_Unpack.f kj13 a0 (t277.take ((ji17) : Int).toNat)).bind fun bt285 => (if bt285.2.2 = 0 then (if (bt285.2.1.length : Int) > (l2.length : Int) then (aumbrylaw11_SectorCuts.j2 kj13 l2 t276 bt285.2.1 true) else (aumbrylaw11_SectorCuts.j2 kj13 l2 t276 bt285.2.1 (bt285.1 != a1))) else (if t276 = true then (some (bt285.2.2 == 110)) else (some false)))) else (none)) else (none)) = some r := by first | (rw [hji17] at H; exact H) | (simp only [hji17] at H ⊢; exact H)
              by_cases c18 : 0 ≤ (ji17)
              · rw [if_pos c18] at H
                have c18b0 := eq_true c18
                have c18b1 : decide (0 ≤ (ji17)) = true := decide_eq_true c18
                clear c18
                by_cases c19 : (ji17) ≤ (t277.length : Int)
                · rw [if_pos c19] at H
                  have c19b0 := eq_true c19
                  have c19b1 : decide ((ji17) ≤ (t277.length : Int)) = true := decide_eq_true c19
                  clear c19
                  obtain ⟨y281, hy281⟩ : ∃ y_ : List Int, y_ = (t277.take ((ji17) : Int).toNat) := ⟨_, rfl⟩
                  replace H : ((sector_Unpack.f kj13 a0 y281).bind fun bt285 => (if bt285.2.2 = 0 then (if (bt285.2.1.length : Int) > (l2.length : Int) then (aumbrylaw11_SectorCuts.j2 kj13 l2 t276 bt285.2.1 true) else (aumbrylaw11_SectorCuts.j2 kj13 l2 t276 bt285.2.1 (bt285.1 != a1))) else (if t276 = true then (some (bt285.2.2 == 110)) else (some false)))) = some r := by first | (rw [hy281]; with_reducible exact H) | (have H2_ := (Option.bind_some _ _).symm.trans H; rw [hy281]; with_reducible exact H2_) | (have H2_ := (Option.bind_some _ _).symm.trans H; with_reducible exact H2_) | with_reducible exact H | (rw [hy281]; exact H) | exact H
                  have Ny281 := Aside0.mk hy281
                  clear hy281
                  replace H := Option.bind_eq_some_iff.mp H
                  obtain ⟨⟨t285, t286, t287⟩, A200, H⟩ := H
                  replace H : (if t287 = 0 then (if (t286.length : Int) > (l2.length : Int) then (aumbrylaw11_SectorCuts.j2 kj13 l2 t276 t286 true) else (aumbrylaw11_SectorCuts.j2 kj13 l2 t276 t286 (t285 != a1))) else (if t276 = true then (some (t287 == 110)) else (some false))) = some r := H
                  have A20 := Aside0.mk A200
                  clear A200
                  by_cases c21 : t287 = 0
                  · rw [if_pos c21] at H
                    have c21b0 : (t287 == 0) = true := beq_iff_eq.mpr c21
                    have c21b1 : (t287 != 0) = false := bne_eq_false_iff_eq.mpr c21
                    clear c21
                    have HC22 := Aside0.mk H
                    clear H
                    obtain ⟨Ao23, co23, eo23⟩ := Kd.R_slice HO_10.out
                    subst eo23
                    have q24 : ((ji17) : Int) ≤ ((t277.length : Int) : Int) := of_decide_eq_true (by first | (with_reducible assumption) | assumption)
                    obtain ⟨i024, hi024, _, hsz24, _⟩ := info_parts info5
                    have hroom24 : t277.length ≤ co23 := (Kd.R_reads' HO_10.out).2.1
                    have hC24 : Kd.C (Kd.int .u8) _ Ao23 t277.length t277 := (Kd.R_reads' HO_10.out).2.2
                    have hcut24 := cut_to (P := Try.prog) 23 5 .i64 Try.underlying23 hi024 Ao23 t277.length co23 (ji17) (of_decide_eq_true (by first | (with_reducible assumption) | assumption)) q24 hroom24
                    have hr24 := Kd.C_take (m := ((ji17) : Int).toNat) hC24 (by omega)
                    have hy24 : y281.length = ((ji17) : Int).toNat := (by rw [Ny281.out, List.length_take]; omega)
                    rw [← Ny281.out] at hr24
                    rw [← hy24] at hcut24
                    have HR284 := Aside0.mk hr24
                    have HC284 := Aside0.mk (show y281.length ≤ co23 from by omega)
                    clear hr24 hC24 hroom24 hi024 hsz24
                    have KY24 := Aside0.mk hy24
                    clear hy24
                    have KL24 := Aside0.mk (show ((ji17) : Int).toNat ≤ t277.length from by omega)
                    replace q24 := eq_true q24
                    go_upto_region 11 with (first | ((with_reducible refine gate_callee (f := 12) rfl ?_); refine goesL_ (some 51) rfl rfl Try.func12 (by kernel_rfl) rfl #[.int .i64 a0, .slice Ao23 y281.length co23] rfl (by (try simp only [List.map_toArray, List.map_cons, List.map_nil]); first | done | rfl | (simp only [List.length_drop, List.length_take]; rfl)) ?_; (with_reducible refine (sector_Unpack.calls kj13 a0 _ _ y281 t285 t286 t287 _ ?side1 ?side2 A20.out).mono ?_); (case side1 => repeat (first | exact (by repeat (first | (with_reducible exact HR284.out) | (with_reducible refine Kd.C_alloc ?_ _) | (with_reducible refine Kd.C_drewN ?_ _) | (with_reducible refine Kd.C_drew ?_) | exact HR284.out)) | (with_reducible refine Kd.C_alloc ?_ _) | (with_reducible refine Kd.C_drewN ?_ _) | (with_reducible refine Kd.C_drew ?_))); (case side2 => exact HC284.out); rintro e w25 ⟨v288, rfl, ho0, hb⟩; refine ⟨_, rfl, ?_⟩; have n0_ := Aside0.mk (Kd.R_elder' (by (with_reducible repeat (first | apply Kd.R_alloc | apply Kd.R_drewN | apply Kd.R_drew)); exact HO_10.out) (Kd.R_base ho0) hb); have n1_ := Aside0.mk (Kd.R_lower (Kd.R_new' ho0 (Kd.R_lt (by (with_reducible repeat (first | apply Kd.R_alloc | apply Kd.R_drewN | apply Kd.R_drew)); exact HO_10.out))) (below_size (by repeat (first | (with_reducible first | exact HB.out | apply below_alloc | apply pw_below_drewN | apply below_drew1) | exact HB.out)))); have n2_ := Aside0.mk (Kd.C_below (by repeat (first | (with_reducible exact HR284.out) | (with_reducible refine Kd.C_alloc ?_ _) | (with_reducible refine Kd.C_drewN ?_ _) | (with_reducible refine Kd.C_drew ?_) | exact HR284.out)) hb); have n3_ := Aside0.mk (below_step (by repeat (first | (with_reducible first | exact HB.out | apply below_alloc | apply pw_below_drewN | apply below_drew1) | exact HB.out)) hb); clear HO_10; clear HR284; clear HB; have HO_10 := n0_; have HO289 := n1_; have HR284 := n2_; have HB := n3_; clear n0_ n1_ n2_ n3_; (try clear hb); (try clear hb2); (try clear hk); (try clear hi); (try clear ho0)))
                    (try simp only [Act.put, List.setIfInBounds_toArray, List.set_cons_zero, List.set_cons_succ])
                    go_cut [71] (fun v71 wc => ∃ (kq : Nat) (x71_21 : Bool), v71 = .bool x71_21 ∧ Aside0 (aumbrylaw11_SectorCuts.j2 kq l2 t276 t286 x71_21 = some r) ∧ Aside0 (kq ≤ kj13) ∧ Aside0 (Kd.R (Kd.int .u8) 5 wc w.heap.size (fun _ => True) v288 t286) ∧ Aside0 (Kd.C (Kd.int .u8) wc Ao23 y281.length y281) ∧ Aside0 (Below w.heap.size w wc))
                    case first =>
                      have H := HC22.out
                      clear HC22
                      by_cases c26 : (t286.length : Int) > (l2.length : Int)
                      · rw [if_pos c26] at H
                        have c26b0 : decide ((l2.length : Int) < (t286.length : Int)) = true := decide_eq_true c26
                        have c26b1 : decide (l2.length < t286.length) = true := decide_eq_true (Int.ofNat_lt.mp c26)
                        clear c26
                        (first | rw [c26b0] | (simp only [i64_w, i32_w]; rw [c26b0]) | skip)
                        have H' := Aside0.mk H
                        clear H
                        obtain ⟨Ao27, co27, eo27⟩ := Kd.R_slice HO289.out
                        subst eo27
                        go_wp2
                        try subst hji17
                        go_meet
                        case rel => exact ⟨_, (true), (by first | rfl | (simp; done) | (simp [*]; done)), H', ⟨by have := HJ6.out; have := HJ13.out; first | omega | exact Nat.le_refl _⟩, ⟨by (with_reducible repeat (first | apply Kd.R_alloc | apply Kd.R_drewN | apply Kd.R_drew)); exact Kd.R_mono HO289.out (fun _ hk => trivial)⟩, ⟨by repeat (first | (with_reducible exact HR284.out) | (with_reducible refine Kd.C_alloc ?_ _) | (with_reducible refine Kd.C_drewN ?_ _) | (with_reducible refine Kd.C_drew ?_) | exact HR284.out)⟩, ⟨by repeat (first | (with_reducible first | exact HB.out | apply below_alloc | apply pw_below_drewN | apply below_drew1) | exact HB.out)⟩⟩
                      · rw [if_neg c26] at H
                        have c26b0 : decide ((l2.length : Int) < (t286.length : Int)) = false := decide_eq_false c26
                        have c26b1 : decide (l2.length < t286.length) = false := decide_eq_false (fun h => c26 (Int.ofNat_lt.mpr h))
                        clear c26
                        (first | rw [c26b0] | (simp only [i64_w, i32_w]; rw [c26b0]) | skip)
                        have H' := Aside0.mk H
                        clear H
                        obtain ⟨Ao28, co28, eo28⟩ := Kd.R_slice HO289.out
                        subst eo28
                        go_wp2
                        try subst hji17
                        go_meet
                        case rel => exact ⟨_, ((t285 != a1)), (by first | rfl | (simp; done) | (simp [*]; done)), H', ⟨by have := HJ6.out; have := HJ13.out; first | omega | exact Nat.le_refl _⟩, ⟨by (with_reducible repeat (first | apply Kd.R_alloc | apply Kd.R_drewN | apply Kd.R_drew)); exact Kd.R_mono HO289.out (fun _ hk => trivial)⟩, ⟨by repeat (first | (with_reducible exact HR284.out) | (with_reducible refine Kd.C_alloc ?_ _) | (with_reducible refine Kd.C_drewN ?_ _) | (with_reducible refine Kd.C_drew ?_) | exact HR284.out)⟩, ⟨by repeat (first | (with_reducible first | exact HB.out | apply below_alloc | apply pw_below_drewN | apply below_drew1) | exact HB.out)⟩⟩
                    case rest =>
                      clear HC22
                      try clear c1
                      try clear c2
                      try clear p2
                      try clear q2
                      try clear p6
                      try clear c7
                      try clear c9
                      try clear c10
                      try clear c10b0
                      try clear c10b1
                      try clear c11
                      try clear c11b0
                      try clear c11b1
                      try clear c12
                      try clear c13
                      try clear c15
                      try clear c15b0
                      try clear c16
                      try clear c16b0
                      try clear c16b1
                      try clear c16b2
                      try clear c18
                      try clear c18b0
                      try clear c18b1
                      try clear c19
                      try clear c19b0
                      try clear c19b1
                      try clear c21
                      try clear c21b0
                      try clear c21b1
                      try clear q24
                      try clear c26
                      try clear c26b0
                      try clear c26b1
                      try clear p2
                      try clear p6
                      try clear q24
                      obtain ⟨kq, x71_21, rfl, HA, HJ21, HO_13, HR284, HB⟩ := hcut
                      cases kq with
                      | zero => exact absurd HA.out (by simp [aumbrylaw11_SectorCuts.j2])
                      | succ kj21 =>
                        have H := HA.out
                        clear HA
                        simp only [aumbrylaw11_SectorCuts.j2] at H
                        by_cases c29 : x71_21 = true
                        · subst c29
                          have H1 : (some false) = some r := by rw [if_pos rfl] at H; exact H
                          clear H
                          have H := H1
                          clear H1
                          obtain rfl := Option.some.inj H
                          go_wp2
                          go_ret
                          exact ⟨by first | rfl | (simp [errW_none, errW_some] <;> rfl) | (simp only [← hji17]; first | rfl | (simp [errW_none, errW_some] <;> rfl)) | (simp [*, errW_none, errW_some] <;> rfl), by repeat (first | (with_reducible first | exact HB.out | apply below_alloc | apply pw_below_drewN | apply below_drew1) | exact HB.out)⟩
                        · replace c29 := Bool.eq_false_iff.mpr c29
                          subst c29
                          have H1 : (if 0 ≤ (t286.length : Int) then (if (t286.length : Int) ≤ (l2.length : Int) then ((aumbryref02_Same.f kj21 t286 (l2.take ((t286.length : Int) : Int).toNat)).bind fun t291 => (if t276 = true then (some t291) else (some false))) else (none)) else (none)) = some r := by rw [if_neg (show ¬ (false = true) by decide)] at H; exact H
                          clear H
                          have H := H1
                          clear H1
                          by_cases c30 : 0 ≤ (t286.length : Int)
                          · rw [if_pos c30] at H
                            have c30b0 := eq_true c30
                            have c30b1 : decide (0 ≤ (t286.length : Int)) = true := decide_eq_true c30
                            clear c30
                            by_cases c31 : (t286.length : Int) ≤ (l2.length : Int)
                            · rw [if_pos c31] at H
                              have c31b0 := eq_true c31
                              have c31b1 : decide ((t286.length : Int) ≤ (l2.length : Int)) = true := decide_eq_true c31
                              clear c31
                              replace H := Option.bind_eq_some_iff.mp H
                              obtain ⟨t291, A320, H⟩ := H
                              replace H : (if t276 = true then (some t291) else (some false)) = some r := H
                              have A32 := Aside0.mk A320
                              clear A320
                              by_cases c33 : t276 = true
                              · subst c33
                                have H1 : (some t291) = some r := by rw [if_pos rfl] at H; exact H
                                clear H
                                have H := H1
                                clear H1
                                obtain rfl := Option.some.inj H
                                obtain ⟨Ao34, co34, eo34⟩ := Kd.R_slice HO_13.out
                                subst eo34
                                obtain ⟨i035, hi035, _, hsz35, _⟩ := info_parts info5
                                obtain ⟨hcut35, hA35, hC35⟩ := print_take_of (P := Try.prog) (Value.int .u8) 0 23 5 .i64 Try.underlying23 hi035 hsz35 A2 c2 l2 (t286.length : Int) (of_decide_eq_true (by first | (with_reducible assumption) | assumption)) (of_decide_eq_true (by first | (with_reducible assumption) | assumption)) HC2.out
                                have HR290 := Aside0.mk (Kd.C_of_reads (h1 := fun _ => rfl) (hA35 _ (Kd.reads_of_C HR2.out)))
                                have HC290 := Aside0.mk hC35
                                clear hA35 hC35 hi035 hsz35
                                go_wp2_with (first | ((with_reducible refine gate_callee (f := 14) rfl ?_); refine goesL_ (some 77) rfl rfl Try.func14 (by kernel_rfl) rfl #[.slice Ao34 t286.length co34, .slice A2 (l2.take ((t286.length : Int) : Int).toNat).length c2] rfl (by (try simp only [List.map_toArray, List.map_cons, List.map_nil]); first | done | (rw [show (l2.take ((t286.length : Int) : Int).toNat).length = (t286.length : Int).toNat from (by rw [List.length_take]; have h_ : ((t286.length : Int) : Int) ≤ (l2.length : Int) := of_decide_eq_true (by first | (with_reducible assumption) | assumption); omega)] <;> rfl) | rfl | (simp only [List.length_drop, List.length_take]; rfl)) ?_; (with_reducible refine (aumbryref02_Same.calls kj21 _ _ t286 _ _ (l2.take ((t286.length : Int) : Int).toNat) t291 _ ?side1 ?side2 ?side3 ?side4 A32.out).mono ?_); (case side1 => repeat (first | exact (Kd.R_reads' HO_13.out).2.2 | (with_reducible refine Kd.C_alloc ?_ _) | (with_reducible refine Kd.C_drewN ?_ _) | (with_reducible refine Kd.C_drew ?_))); (case side2 => exact (Kd.R_reads' HO_13.out).2.1); (case side3 => repeat (first | exact (Kd.C_below HR290.out HB.out) | (with_reducible refine Kd.C_alloc ?_ _) | (with_reducible refine Kd.C_drewN ?_ _) | (with_reducible refine Kd.C_drew ?_))); (case side4 => exact HC290.out); rintro e w' ⟨rfl, ⟨nd, rfl⟩⟩; refine ⟨_, rfl, ?_⟩))
                                go_ret
                                exact ⟨by first | rfl | (simp [errW_none, errW_some] <;> rfl) | (simp only [← hji17]; first | rfl | (simp [errW_none, errW_some] <;> rfl)) | (simp [*, errW_none, errW_some] <;> rfl), by repeat (first | (with_reducible first | exact HB.out | apply below_alloc | apply pw_below_drewN | apply below_drew1) | exact HB.out)⟩
                              · replace c33 := Bool.eq_false_iff.mpr c33
                                subst c33
                                have H1 : (some false) = some r := by rw [if_neg (show ¬ (false = true) by decide)] at H; exact H
                                clear H
                                have H := H1
                                clear H1
                                obtain rfl := Option.some.inj H
                                obtain ⟨Ao36, co36, eo36⟩ := Kd.R_slice HO_13.out
                                subst eo36
                                obtain ⟨i037, hi037, _, hsz37, _⟩ := info_parts info5
                                obtain ⟨hcut37, hA37, hC37⟩ := print_take_of (P := Try.prog) (Value.int .u8) 0 23 5 .i64 Try.underlying23 hi037 hsz37 A2 c2 l2 (t286.length : Int) (of_decide_eq_true (by first | (with_reducible assumption) | assumption)) (of_decide_eq_true (by first | (with_reducible assumption) | assumption)) HC2.out
                                have HR290 := Aside0.mk (Kd.C_of_reads (h1 := fun _ => rfl) (hA37 _ (Kd.reads_of_C HR2.out)))
                                have HC290 := Aside0.mk hC37
                                clear hA37 hC37 hi037 hsz37
                                go_wp2_with (first | ((with_reducible refine gate_callee (f := 14) rfl ?_); refine goesL_ (some 77) rfl rfl Try.func14 (by kernel_rfl) rfl #[.slice Ao36 t286.length co36, .slice A2 (l2.take ((t286.length : Int) : Int).toNat).length c2] rfl (by (try simp only [List.map_toArray, List.map_cons, List.map_nil]); first | done | (rw [show (l2.take ((t286.length : Int) : Int).toNat).length = (t286.length : Int).toNat from (by rw [List.length_take]; have h_ : ((t286.length : Int) : Int) ≤ (l2.length : Int) := of_decide_eq_true (by first | (with_reducible assumption) | assumption); omega)] <;> rfl) | rfl | (simp only [List.length_drop, List.length_take]; rfl)) ?_; (with_reducible refine (aumbryref02_Same.calls kj21 _ _ t286 _ _ (l2.take ((t286.length : Int) : Int).toNat) t291 _ ?side1 ?side2 ?side3 ?side4 A32.out).mono ?_); (case side1 => repeat (first | exact (Kd.R_reads' HO_13.out).2.2 | (with_reducible refine Kd.C_alloc ?_ _) | (with_reducible refine Kd.C_drewN ?_ _) | (with_reducible refine Kd.C_drew ?_))); (case side2 => exact (Kd.R_reads' HO_13.out).2.1); (case side3 => repeat (first | exact (Kd.C_below HR290.out HB.out) | (with_reducible refine Kd.C_alloc ?_ _) | (with_reducible refine Kd.C_drewN ?_ _) | (with_reducible refine Kd.C_drew ?_))); (case side4 => exact HC290.out); rintro e w' ⟨rfl, ⟨nd, rfl⟩⟩; refine ⟨_, rfl, ?_⟩))
                                go_ret
                                exact ⟨by first | rfl | (simp [errW_none, errW_some] <;> rfl) | (simp only [← hji17]; first | rfl | (simp [errW_none, errW_some] <;> rfl)) | (simp [*, errW_none, errW_some] <;> rfl), by repeat (first | (with_reducible first | exact HB.out | apply below_alloc | apply pw_below_drewN | apply below_drew1) | exact HB.out)⟩
                            · rw [if_neg c31] at H
                              exact absurd H (by simp)
                          · rw [if_neg c30] at H
                            exact absurd H (by simp)
                  · rw [if_neg c21] at H
                    have c21b0 : (t287 == 0) = false := beq_eq_false_iff_ne.mpr c21
                    have c21b1 : (t287 != 0) = true := bne_iff_ne.mpr c21
                    by_cases c38 : t276 = true
                    · subst c38
                      have H1 : (some (t287 == 110)) = some r := by rw [if_pos rfl] at H; exact H
                      clear H
                      have H := H1
                      clear H1
                      obtain rfl := Option.some.inj H
                      obtain ⟨Ao39, co39, eo39⟩ := Kd.R_slice HO_10.out
                      subst eo39
                      have q40 : ((ji17) : Int) ≤ ((t277.length : Int) : Int) := of_decide_eq_true (by first | (with_reducible assumption) | assumption)
                      obtain ⟨i040, hi040, _, hsz40, _⟩ := info_parts info5
                      have hroom40 : t277.length ≤ co39 := (Kd.R_reads' HO_10.out).2.1
                      have hC40 : Kd.C (Kd.int .u8) _ Ao39 t277.length t277 := (Kd.R_reads' HO_10.out).2.2
                      have hcut40 := cut_to (P := Try.prog) 23 5 .i64 Try.underlying23 hi040 Ao39 t277.length co39 (ji17) (of_decide_eq_true (by first | (with_reducible assumption) | assumption)) q40 hroom40
                      have hr40 := Kd.C_take (m := ((ji17) : Int).toNat) hC40 (by omega)
                      have hy40 : y281.length = ((ji17) : Int).toNat := (by rw [Ny281.out, List.length_take]; omega)
                      rw [← Ny281.out] at hr40
                      rw [← hy40] at hcut40
                      have HR284 := Aside0.mk hr40
                      have HC284 := Aside0.mk (show y281.length ≤ co39 from by omega)
                      clear hr40 hC40 hroom40 hi040 hsz40
                      have KY40 := Aside0.mk hy40
                      clear hy40
                      have KL40 := Aside0.mk (show ((ji17) : Int).toNat ≤ t277.length from by omega)
                      replace q40 := eq_true q40
                      go_wp2_with (first | ((with_reducible refine gate_callee (f := 12) rfl ?_); refine goesL_ (some 51) rfl rfl Try.func12 (by kernel_rfl) rfl #[.int .i64 a0, .slice Ao39 y281.length co39] rfl (by (try simp only [List.map_toArray, List.map_cons, List.map_nil]); first | done | rfl | (simp only [List.length_drop, List.length_take]; rfl)) ?_; (with_reducible refine (sector_Unpack.calls kj13 a0 _ _ y281 t285 t286 t287 _ ?side1 ?side2 A20.out).mono ?_); (case side1 => repeat (first | exact (by repeat (first | (with_reducible exact HR284.out) | (with_reducible refine Kd.C_alloc ?_ _) | (with_reducible refine Kd.C_drewN ?_ _) | (with_reducible refine Kd.C_drew ?_) | exact HR284.out)) | (with_reducible refine Kd.C_alloc ?_ _) | (with_reducible refine Kd.C_drewN ?_ _) | (with_reducible refine Kd.C_drew ?_))); (case side2 => exact HC284.out); rintro e w41 ⟨v288, rfl, ho0, hb⟩; refine ⟨_, rfl, ?_⟩; have n0_ := Aside0.mk (Kd.R_elder' (by (with_reducible repeat (first | apply Kd.R_alloc | apply Kd.R_drewN | apply Kd.R_drew)); exact HO_10.out) (Kd.R_base ho0) hb); have n1_ := Aside0.mk (Kd.R_lower (Kd.R_new' ho0 (Kd.R_lt (by (with_reducible repeat (first | apply Kd.R_alloc | apply Kd.R_drewN | apply Kd.R_drew)); exact HO_10.out))) (below_size (by repeat (first | (with_reducible first | exact HB.out | apply below_alloc | apply pw_below_drewN | apply below_drew1) | exact HB.out)))); have n2_ := Aside0.mk (Kd.C_below (by repeat (first | (with_reducible exact HR284.out) | (with_reducible refine Kd.C_alloc ?_ _) | (with_reducible refine Kd.C_drewN ?_ _) | (with_reducible refine Kd.C_drew ?_) | exact HR284.out)) hb); have n3_ := Aside0.mk (below_step (by repeat (first | (with_reducible first | exact HB.out | apply below_alloc | apply pw_below_drewN | apply below_drew1) | exact HB.out)) hb); clear HO_10; clear HR284; clear HB; have HO_10 := n0_; have HO289 := n1_; have HR284 := n2_; have HB := n3_; clear n0_ n1_ n2_ n3_; (try clear hb); (try clear hb2); (try clear hk); (try clear hi); (try clear ho0)))
                      go_ret
                      exact ⟨by first | rfl | (simp [errW_none, errW_some] <;> rfl) | (simp only [← hji17]; first | rfl | (simp [errW_none, errW_some] <;> rfl)) | (simp [*, errW_none, errW_some] <;> rfl), by repeat (first | (with_reducible first | exact HB.out | apply below_alloc | apply pw_below_drewN | apply below_drew1) | exact HB.out)⟩
                    · replace c38 := Bool.eq_false_iff.mpr c38
                      subst c38
                      have H1 : (some false) = some r := by rw [if_neg (show ¬ (false = true) by decide)] at H; exact H
                      clear H
                      have H := H1
                      clear H1
                      obtain rfl := Option.some.inj H
                      obtain ⟨Ao42, co42, eo42⟩ := Kd.R_slice HO_10.out
                      subst eo42
                      have q43 : ((ji17) : Int) ≤ ((t277.length : Int) : Int) := of_decide_eq_true (by first | (with_reducible assumption) | assumption)
                      obtain ⟨i043, hi043, _, hsz43, _⟩ := info_parts info5
                      have hroom43 : t277.length ≤ co42 := (Kd.R_reads' HO_10.out).2.1
                      have hC43 : Kd.C (Kd.int .u8) _ Ao42 t277.length t277 := (Kd.R_reads' HO_10.out).2.2
                      have hcut43 := cut_to (P := Try.prog) 23 5 .i64 Try.underlying23 hi043 Ao42 t277.length co42 (ji17) (of_decide_eq_true (by first | (with_reducible assumption) | assumption)) q43 hroom43
                      have hr43 := Kd.C_take (m := ((ji17) : Int).toNat) hC43 (by omega)
                      have hy43 : y281.length = ((ji17) : Int).toNat := (by rw [Ny281.out, List.length_take]; omega)
                      rw [← Ny281.out] at hr43
                      rw [← hy43] at hcut43
                      have HR284 := Aside0.mk hr43
                      have HC284 := Aside0.mk (show y281.length ≤ co42 from by omega)
                      clear hr43 hC43 hroom43 hi043 hsz43
                      have KY43 := Aside0.mk hy43
                      clear hy43
                      have KL43 := Aside0.mk (show ((ji17) : Int).toNat ≤ t277.length from by omega)
                      replace q43 := eq_true q43
                      go_wp2_with (first | ((with_reducible refine gate_callee (f := 12) rfl ?_); refine goesL_ (some 51) rfl rfl Try.func12 (by kernel_rfl) rfl #[.int .i64 a0, .slice Ao42 y281.length co42] rfl (by (try simp only [List.map_toArray, List.map_cons, List.map_nil]); first | done | rfl | (simp only [List.length_drop, List.length_take]; rfl)) ?_; (with_reducible refine (sector_Unpack.calls kj13 a0 _ _ y281 t285 t286 t287 _ ?side1 ?side2 A20.out).mono ?_); (case side1 => repeat (first | exact (by repeat (first | (with_reducible exact HR284.out) | (with_reducible refine Kd.C_alloc ?_ _) | (with_reducible refine Kd.C_drewN ?_ _) | (with_reducible refine Kd.C_drew ?_) | exact HR284.out)) | (with_reducible refine Kd.C_alloc ?_ _) | (with_reducible refine Kd.C_drewN ?_ _) | (with_reducible refine Kd.C_drew ?_))); (case side2 => exact HC284.out); rintro e w44 ⟨v288, rfl, ho0, hb⟩; refine ⟨_, rfl, ?_⟩; have n0_ := Aside0.mk (Kd.R_elder' (by (with_reducible repeat (first | apply Kd.R_alloc | apply Kd.R_drewN | apply Kd.R_drew)); exact HO_10.out) (Kd.R_base ho0) hb); have n1_ := Aside0.mk (Kd.R_lower (Kd.R_new' ho0 (Kd.R_lt (by (with_reducible repeat (first | apply Kd.R_alloc | apply Kd.R_drewN | apply Kd.R_drew)); exact HO_10.out))) (below_size (by repeat (first | (with_reducible first | exact HB.out | apply below_alloc | apply pw_below_drewN | apply below_drew1) | exact HB.out)))); have n2_ := Aside0.mk (Kd.C_below (by repeat (first | (with_reducible exact HR284.out) | (with_reducible refine Kd.C_alloc ?_ _) | (with_reducible refine Kd.C_drewN ?_ _) | (with_reducible refine Kd.C_drew ?_) | exact HR284.out)) hb); have n3_ := Aside0.mk (below_step (by repeat (first | (with_reducible first | exact HB.out | apply below_alloc | apply pw_below_drewN | apply below_drew1) | exact HB.out)) hb); clear HO_10; clear HR284; clear HB; have HO_10 := n0_; have HO289 := n1_; have HR284 := n2_; have HB := n3_; clear n0_ n1_ n2_ n3_; (try clear hb); (try clear hb2); (try clear hk); (try clear hi); (try clear ho0)))
                      go_ret
                      exact ⟨by first | rfl | (simp [errW_none, errW_some] <;> rfl) | (simp only [← hji17]; first | rfl | (simp [errW_none, errW_some] <;> rfl)) | (simp [*, errW_none, errW_some] <;> rfl), by repeat (first | (with_reducible first | exact HB.out | apply below_alloc | apply pw_below_drewN | apply below_drew1) | exact HB.out)⟩
                · rw [if_neg c19] at H
                  exact absurd H (by simp)
              · rw [if_neg c18] at H
                exact absurd H (by simp)

/-- THE ONE PURE STATEMENT of aumbrylaw11_SectorCuts: yours. -/
def aumbrylaw11_SectorCuts.Pure : Prop := ∀ (a0 : Int) (a1 : Int) (l2 : List Int) (a3 : Int), (Lit.int .i64 a0).wf = true → (Lit.int .i64 a1).wf = true → l2.length ≤ maxLen → l2.length * 1 ≤ 140737488351232 → (∀ x ∈ l2, (Lit.int .u8 x).wf = true) → (Lit.int .i64 a3).wf = true → ∃ k, aumbrylaw11_SectorCuts.f k a0 a1 l2 a3 = some true
theorem aumbrylaw11_SectorCuts.walk (P : aumbrylaw11_SectorCuts.Pure) (a0 : Int) (a1 : Int) (a2 : Option Addr) (len2 cap2 : Nat) (z2 : List Int) (a3 : Int) (w : World) (w0 : (Lit.int .i64 a0).wf = true) (w1 : (Lit.int .i64 a1).wf = true) (w2 : (a2 = none ∧ len2 = 0 ∧ cap2 = 0 ∧ z2 = []) ∨ ∃ x, a2 = some x ∧ len2 ≤ cap2 ∧ cap2 ≤ maxLen ∧ z2.length = cap2 ∧ (∀ i, i < z2.length → w.cell? (x.add i) = some (.int .u8 (z2.getD i 0))) ∧ ∀ n ∈ z2, (Lit.int .u8 n).wf = true) (y2 : len2 * 1 ≤ 140737488351232) (w3 : (Lit.int .i64 a3).wf = true) :
    Calls Try.prog 7 #[.int .i64 a0, .int .i64 a1, .slice a2 len2 cap2, .int .i64 a3] w fun e w' => e = .returned (.bool true) ∧ Below w.heap.size w w' := by
  obtain ⟨l2, rfl, hr2, hm2, hw2, hc2⟩ := ReadsInt.ofRowC w2
  obtain ⟨k, h⟩ := P a0 a1 l2 a3 w0 w1 hm2 y2 hw2 w3
  refine (aumbrylaw11_SectorCuts.calls k a0 a1 _ _ l2 a3 true w (Kd.C_of_reads (d := (0 : Int)) (h1 := fun _ => rfl) hr2) hc2 h).mono ?_
  rintro e w' ⟨rfl, hd⟩
  exact ⟨rfl, hd⟩

end Go.Proofs.Ytlkdhcpiglonjaa.PAll
