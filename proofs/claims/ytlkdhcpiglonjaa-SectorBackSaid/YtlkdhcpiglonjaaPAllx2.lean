-- LAID BY A PROGRAM OF THIS SESSION (wip/tools: the kit's print with changes of our own)
import Derived.Test.YtlkdhcpiglonjaaPAllx0
import Derived.Test.YtlkdhcpiglonjaaPAllx1
namespace Go.Proofs.Ytlkdhcpiglonjaa.PAll
open Go.RowKit Go.Proofs.YtlkdhcpiglonjaaW.PrintWords Go.Proofs.YtlkdhcpiglonjaaW.PrintLast Go.Proofs.YtlkdhcpiglonjaaW.PrintMore
attribute [local go_sem] max2_int min2_int max_two min_two max_three min_three max_four min_four   -- for this text's walks alone
set_option linter.unusedVariables false
set_option linter.unusedSimpArgs false

/-! ### sector_Unpack: function 12 -/
mutual
def sector_Unpack.j0 : Nat → Int → List Int → Int → Bool → Option (Int × List Int × Int)
  | 0, _, _, _, _ => none
  | k + 1, x0, x1, x7, x22 => if x22 = true then (some (0, ([] : List Int), 110)) else (if 4 ≤ 8 then (if 8 ≤ (x1.length : Int) then ((sector_number.f k ((x1.take 8).drop 4)).bind fun t106 => (if 0 ≤ x7 then (if x7 ≤ (x1.length : Int) then ((sector_number.f k (x1.drop (x7 : Int).toNat)).bind fun t108 => ((crc_Sum.f k (x1.take (x7 : Int).toNat)).bind fun t110 => (if t108 = t110 then (if 4 ≤ (x1.length : Int) then ((sector_number.f k (x1.take 4)).bind fun t112 => (if t112 = ((x0) % 4294967296) then (sector_Unpack.j1 k x1 x7 t106 (decide (t106 > 2147483647))) else (sector_Unpack.j1 k x1 x7 t106 true))) else (none)) else (sector_Unpack.j1 k x1 x7 t106 true)))) else (none)) else (none))) else (none)) else (none))
def sector_Unpack.j1 : Nat → List Int → Int → Int → Bool → Option (Int × List Int × Int)
  | 0, _, _, _, _ => none
  | k + 1, x1, x7, x8, x46 => if x46 = true then (some (0, ([] : List Int), 110)) else (if 8 ≤ x7 then (if x7 ≤ (x1.length : Int) then ((bytes_Clone.f ((x1.take (x7 : Int).toNat).drop 8)).bind fun t114 => (some (wrap64 (x8), t114, 0))) else (none)) else (none))
end
def sector_Unpack.f (k : Nat) (a0 : Int) (l1 : List Int) : Option (Int × List Int × Int) := if (wrap64 ((l1.length : Int) - 4)) < 8 then (sector_Unpack.j0 k a0 l1 (wrap64 ((l1.length : Int) - 4)) true) else (if (wrap64 ((l1.length : Int) - 4)) > 4104 then (sector_Unpack.j0 k a0 l1 (wrap64 ((l1.length : Int) - 4)) true) else ((sector_fits.f a0).bind fun t104 => (sector_Unpack.j0 k a0 l1 (wrap64 ((l1.length : Int) - 4)) (!t104))))
theorem sector_Unpack.mono_l : ∀ k, (∀ y0 y1 y2 y3, LeO (sector_Unpack.j0 k y0 y1 y2 y3) (sector_Unpack.j0 (k + 1) y0 y1 y2 y3)) ∧ (∀ y0 y1 y2 y3, LeO (sector_Unpack.j1 k y0 y1 y2 y3) (sector_Unpack.j1 (k + 1) y0 y1 y2 y3))
  | 0 => ⟨fun _ _ _ _ r h => by simp [sector_Unpack.j0] at h, fun _ _ _ _ r h => by simp [sector_Unpack.j1] at h⟩
  | k + 1 => by
    obtain ⟨ih0, ih1⟩ := sector_Unpack.mono_l k
    refine ⟨?_, ?_⟩
    · intro y0 y1 y2 y3
      unfold sector_Unpack.j0
      repeat' first
      | (with_reducible exact ih0 _ _ _ _)
      | (with_reducible exact ih1 _ _ _ _)
      | (with_reducible exact crc_Sum.mono _ _)
      | (with_reducible exact sector_number.mono _ _)
      | (with_reducible exact LeO.refl _)
      | (with_reducible exact LeO.none _)
      | (with_reducible refine LeO.ite ?_ ?_)
      | (with_reducible refine LeO.bind ?_ (fun _ => ?_))
      | exact ih0 _ _ _ _
      | exact ih1 _ _ _ _
      | exact crc_Sum.mono _ _
      | exact sector_number.mono _ _
      | exact LeO.none _
      | refine LeO.ite ?_ ?_
      | refine LeO.bind ?_ (fun _ => ?_)
    · intro y0 y1 y2 y3
      unfold sector_Unpack.j1
      repeat' first
      | (with_reducible exact ih0 _ _ _ _)
      | (with_reducible exact ih1 _ _ _ _)
      | (with_reducible exact crc_Sum.mono _ _)
      | (with_reducible exact sector_number.mono _ _)
      | (with_reducible exact LeO.refl _)
      | (with_reducible exact LeO.none _)
      | (with_reducible refine LeO.ite ?_ ?_)
      | (with_reducible refine LeO.bind ?_ (fun _ => ?_))
      | exact ih0 _ _ _ _
      | exact ih1 _ _ _ _
      | exact crc_Sum.mono _ _
      | exact sector_number.mono _ _
      | exact LeO.none _
      | refine LeO.ite ?_ ?_
      | refine LeO.bind ?_ (fun _ => ?_)
theorem sector_Unpack.mono : ∀ a0 a1 k, LeO (sector_Unpack.f k a0 a1) (sector_Unpack.f (k + 1) a0 a1) := by
  intro a0 a1 k
  obtain ⟨ih0, ih1⟩ := sector_Unpack.mono_l k
  unfold sector_Unpack.f
  repeat' first
      | (with_reducible exact ih0 _ _ _ _)
      | (with_reducible exact ih1 _ _ _ _)
      | (with_reducible exact crc_Sum.mono _ _)
      | (with_reducible exact sector_number.mono _ _)
      | (with_reducible exact LeO.refl _)
      | (with_reducible exact LeO.none _)
      | (with_reducible refine LeO.ite ?_ ?_)
      | (with_reducible refine LeO.bind ?_ (fun _ => ?_))
      | exact ih0 _ _ _ _
      | exact ih1 _ _ _ _
      | exact crc_Sum.mono _ _
      | exact sector_number.mono _ _
      | exact LeO.none _
      | refine LeO.ite ?_ ?_
      | refine LeO.bind ?_ (fun _ => ?_)
set_option maxHeartbeats 8000000 in
set_option maxRecDepth 100000 in
theorem sector_Unpack.calls (k : Nat) (a0 : Int) (A1 : Option Addr) (c1 : Nat) (l1 : List Int) (r1 : Int) (r2 : List Int) (r3 : Int) (w : World) (hr1 : Kd.C (Kd.int .u8) w A1 l1.length l1) (hc1 : l1.length ≤ c1) (h : sector_Unpack.f k a0 l1 = some (r1, r2, r3)) :
    Calls Try.prog 12 #[.int .i64 a0, .slice A1 l1.length c1] w fun e w' => ∃ v1_ : Value, e = .returned (.tuple #[.int .i64 r1, v1_, .int .i64 r3]) ∧ Kd.R (Kd.int .u8) 5 w' w.heap.size (fun _ => True) v1_ r2 ∧ Below w.heap.size w w' := by
  have HR1 := Aside0.mk hr1
  have HC1 := Aside0.mk hc1
  clear hr1 hc1
  have HB := Aside0.mk (Below.refl w.heap.size w)
  have H : (if (wrap64 ((l1.length : Int) - 4)) < 8 then (sector_Unpack.j0 k a0 l1 (wrap64 ((l1.length : Int) - 4)) true) else (if (wrap64 ((l1.length : Int) - 4)) > 4104 then (sector_Unpack.j0 k a0 l1 (wrap64 ((l1.length : Int) - 4)) true) else ((sector_fits.f a0).bind fun t104 => (sector_Unpack.j0 k a0 l1 (wrap64 ((l1.length : Int) - 4)) (!t104))))) = some (r1, r2, r3) := h
  clear h
  have HC3 := Aside0.mk H
  clear H
  go_enter Try.func12, Try.ntmps12
  go_upto_region 2 with (fail)
  repeat (go_quiet (fail); go_upto_region 2 with (fail))
  go_cut [22] (fun v22 wc => ∃ (kq : Nat) (x22_2 : Bool), v22 = .bool x22_2 ∧ Aside0 (sector_Unpack.j0 kq a0 l1 (wrap64 ((l1.length : Int) - 4)) x22_2 = some (r1, r2, r3)) ∧ Aside0 (kq ≤ k) ∧ Aside0 (Below w.heap.size w wc))
  case first =>
    have H := HC3.out
    clear HC3
    by_cases c4 : (wrap64 ((l1.length : Int) - 4)) < 8
    · rw [if_pos c4] at H
      have c4b0 : decide ((wrap64 ((l1.length : Int) - 4)) < 8) = true := decide_eq_true c4
      clear c4
      (first | rw [c4b0] | (simp only [i64_w, i32_w]; rw [c4b0]) | skip)
      have H' := Aside0.mk H
      clear H
      go_wp2
      repeat (go_quiet (fail); try go_wp2)
      go_meet
      case rel => exact ⟨_, (true), (by first | rfl | (simp; done) | (simp [*]; done)), H', ⟨by first | omega | exact Nat.le_refl _⟩, ⟨by repeat (first | (with_reducible first | exact HB.out | apply below_alloc | apply pw_below_drewN | apply below_drew1) | exact HB.out)⟩⟩
    · rw [if_neg c4] at H
      have c4b0 : decide ((wrap64 ((l1.length : Int) - 4)) < 8) = false := decide_eq_false c4
      clear c4
      (first | rw [c4b0] | (simp only [i64_w, i32_w]; rw [c4b0]) | skip)
      by_cases c5 : (wrap64 ((l1.length : Int) - 4)) > 4104
      · rw [if_pos c5] at H
        have c5b0 : decide (4104 < (wrap64 ((l1.length : Int) - 4))) = true := decide_eq_true c5
        clear c5
        have H' := Aside0.mk H
        clear H
        go_wp2
        repeat (go_quiet (fail); try go_wp2)
        go_meet
        case rel => exact ⟨_, (true), (by first | rfl | (simp; done) | (simp [*]; done)), H', ⟨by first | omega | exact Nat.le_refl _⟩, ⟨by repeat (first | (with_reducible first | exact HB.out | apply below_alloc | apply pw_below_drewN | apply below_drew1) | exact HB.out)⟩⟩
      · rw [if_neg c5] at H
        have c5b0 : decide (4104 < (wrap64 ((l1.length : Int) - 4))) = false := decide_eq_false c5
        clear c5
        replace H := Option.bind_eq_some_iff.mp H
        obtain ⟨t104, A60, H⟩ := H
        replace H : (sector_Unpack.j0 k a0 l1 (wrap64 ((l1.length : Int) - 4)) (!t104)) = some (r1, r2, r3) := H
        have A6 := Aside0.mk A60
        clear A60
        have H' := Aside0.mk H
        clear H
        go_wp2_with (first | (go_at_call 15; (with_reducible refine (sector_fits.calls a0 t104 _ A6.out).mono ?_); rintro e w' ⟨rfl, ⟨nd, rfl⟩⟩; (try first | exact ⟨rfl, _, World.drewN_drewN _ _ _⟩ | exact ⟨rfl, _, Eq.trans (World.drewN_drewN _ _ _) (congrArg (World.drewN _) (Nat.add_assoc _ _ _))⟩)))
        repeat (go_quiet (first | (go_at_call 15; (with_reducible refine (sector_fits.calls a0 t104 _ A6.out).mono ?_); rintro e w' ⟨rfl, ⟨nd, rfl⟩⟩; (try first | exact ⟨rfl, _, World.drewN_drewN _ _ _⟩ | exact ⟨rfl, _, Eq.trans (World.drewN_drewN _ _ _) (congrArg (World.drewN _) (Nat.add_assoc _ _ _))⟩))); try go_wp2_with (first | (go_at_call 15; (with_reducible refine (sector_fits.calls a0 t104 _ A6.out).mono ?_); rintro e w' ⟨rfl, ⟨nd, rfl⟩⟩; (try first | exact ⟨rfl, _, World.drewN_drewN _ _ _⟩ | exact ⟨rfl, _, Eq.trans (World.drewN_drewN _ _ _) (congrArg (World.drewN _) (Nat.add_assoc _ _ _))⟩))))
        go_meet
        case rel => exact ⟨_, (!t104), (by first | rfl | (simp; done) | (simp [*]; done)), H', ⟨by first | omega | exact Nat.le_refl _⟩, ⟨by repeat (first | (with_reducible first | exact HB.out | apply below_alloc | apply pw_below_drewN | apply below_drew1) | exact HB.out)⟩⟩
  case rest =>
    clear HC3
    try clear c1
    try clear p2
    try clear c4
    try clear c4b0
    try clear c5
    try clear c5b0
    try clear p6
    obtain ⟨kq, x22_2, rfl, HA, HJ2, HB⟩ := hcut
    cases kq with
    | zero => exact absurd HA.out (by simp [sector_Unpack.j0])
    | succ kj2 =>
      have H := HA.out
      clear HA
      simp only [sector_Unpack.j0] at H
      by_cases c7 : x22_2 = true
      · subst c7
        have H1 : (some (0, ([] : List Int), 110)) = some (r1, r2, r3) := by rw [if_pos rfl] at H; exact H
        clear H
        have H := H1
        clear H1
        simp only [Option.some.injEq, Prod.mk.injEq] at H
        obtain ⟨rfl, rfl, rfl⟩ := H
        go_wp2
        repeat (go_quiet (fail); try go_wp2)
        go_ret3
        exact ⟨_, by first | rfl | (simp [errW_none, errW_some] <;> rfl) | (simp [*, errW_none, errW_some] <;> rfl), by first | exact Kd.R_nil _ _ _ _ _ | exact Kd.N_nil _ _ _ _ _ | exact Kd.V_nil _ _ _ _ _ | exact Kd.Q_nil _ _ _ _ _ | exact Kd.S_nil _ _ _ _ _, by repeat (first | (with_reducible first | exact HB.out | apply below_alloc | apply pw_below_drewN | apply below_drew1) | exact HB.out)⟩
      · replace c7 := Bool.eq_false_iff.mpr c7
        subst c7
        have H1 : (if 4 ≤ 8 then (if 8 ≤ (l1.length : Int) then ((sector_number.f kj2 ((l1.take 8).drop 4)).bind fun t106 => (if 0 ≤ (wrap64 ((l1.length : Int) - 4)) then (if (wrap64 ((l1.length : Int) - 4)) ≤ (l1.length : Int) then ((sector_number.f kj2 (l1.drop ((wrap64 ((l1.length : Int) - 4)) : Int).toNat)).bind fun t108 => ((crc_Sum.f kj2 (l1.take ((wrap64 ((l1.length : Int) - 4)) : Int).toNat)).bind fun t110 => (if t108 = t110 then (if 4 ≤ (l1.length : Int) then ((sector_number.f kj2 (l1.take 4)).bind fun t112 => (if t112 = ((a0) % 4294967296) then (sector_Unpack.j1 kj2 l1 (wrap64 ((l1.length : Int) - 4)) t106 (decide (t106 > 2147483647))) else (sector_Unpack.j1 kj2 l1 (wrap64 ((l1.length : Int) - 4)) t106 true))) else (none)) else (sector_Unpack.j1 kj2 l1 (wrap64 ((l1.length : Int) - 4)) t106 true)))) else (none)) else (none))) else (none)) else (none)) = some (r1, r2, r3) := by rw [if_neg (show ¬ (false = true) by decide)] at H; exact H
        clear H
        have H := H1
        clear H1
        by_cases c8 : 4 ≤ 8
        · rw [if_pos c8] at H
          have c8b0 := eq_true c8
          have c8b1 : decide (4 ≤ 8) = true := decide_eq_true c8
          clear c8
          by_cases c9 : 8 ≤ (l1.length : Int)
          · rw [if_pos c9] at H
            have c9b0 := eq_true c9
            have c9b1 : decide (8 ≤ (l1.length : Int)) = true := decide_eq_true c9
            clear c9
            replace H := Option.bind_eq_some_iff.mp H
            obtain ⟨t106, A100, H⟩ := H
            replace H : (if 0 ≤ (wrap64 ((l1.length : Int) - 4)) then (if (wrap64 ((l1.length : Int) - 4)) ≤ (l1.length : Int) then ((sector_number.f kj2 (l1.drop ((wrap64 ((l1.length : Int) - 4)) : Int).toNat)).bind fun t108 => ((crc_Sum.f kj2 (l1.take ((wrap64 ((l1.length : Int) - 4)) : Int).toNat)).bind fun t110 => (if t108 = t110 then (if 4 ≤ (l1.length : Int) then ((sector_number.f kj2 (l1.take 4)).bind fun t112 => (if t112 = ((a0) % 4294967296) then (sector_Unpack.j1 kj2 l1 (wrap64 ((l1.length : Int) - 4)) t106 (decide (t106 > 2147483647))) else (sector_Unpack.j1 kj2 l1 (wrap64 ((l1.length : Int) - 4)) t106 true))) else (none)) else (sector_Unpack.j1 kj2 l1 (wrap64 ((l1.length : Int) - 4)) t106 true)))) else (none)) else (none)) = some (r1, r2, r3) := H
            have A10 := Aside0.mk A100
            clear A100
            have HC11 := Aside0.mk H
            clear H
            obtain ⟨i012, hi012, _, hsz12, _⟩ := info_parts info5
            obtain ⟨A12, hcut12, hA12, hC12⟩ := print_mid_of (P := Try.prog) (Value.int .u8) 0 23 5 .i64 .i64 Try.underlying23 hi012 hsz12 A1 c1 l1 4 8 (by omega) (by first | omega | exact of_decide_eq_true (by first | (with_reducible assumption) | assumption)) (of_decide_eq_true (by first | (with_reducible assumption) | assumption)) HC1.out
            have HR105 := Aside0.mk (Kd.C_of_reads (h1 := fun _ => rfl) (hA12 _ (Kd.reads_of_C HR1.out)))
            have HC105 := Aside0.mk hC12
            clear hA12 hC12 hi012 hsz12
            go_upto_region 5 with (first | (go_at_call 21; refine calls_of_args (args' := #[.slice A12 ((l1.take 8).drop 4).length (c1 - 4)]) (by first | (simp only [List.length_drop, List.length_take]; done) | (simp only [List.length_drop, List.length_take]; rfl) | rfl | (rw [show ((l1.take 8).drop 4).length = (8 - 4) from (by rw [List.length_drop, List.length_take]; have h_ : (8 : Int) ≤ (l1.length : Int) := of_decide_eq_true (by first | (with_reducible assumption) | assumption); omega)] <;> rfl) | rfl) ?_; (with_reducible refine (sector_number.calls kj2 _ _ ((l1.take 8).drop 4) t106 _ ?side1 ?side2 A10.out).mono ?_); (case side1 => repeat (first | exact (Kd.C_below HR105.out HB.out) | (with_reducible refine Kd.C_alloc ?_ _) | (with_reducible refine Kd.C_drewN ?_ _) | (with_reducible refine Kd.C_drew ?_))); (case side2 => exact HC105.out); rintro e w' ⟨rfl, ⟨nd, rfl⟩⟩; (try first | exact ⟨rfl, _, World.drewN_drewN _ _ _⟩ | exact ⟨rfl, _, Eq.trans (World.drewN_drewN _ _ _) (congrArg (World.drewN _) (Nat.add_assoc _ _ _))⟩)))
            repeat (go_quiet (first | (go_at_call 21; refine calls_of_args (args' := #[.slice A12 ((l1.take 8).drop 4).length (c1 - 4)]) (by first | (simp only [List.length_drop, List.length_take]; done) | (simp only [List.length_drop, List.length_take]; rfl) | rfl | (rw [show ((l1.take 8).drop 4).length = (8 - 4) from (by rw [List.length_drop, List.length_take]; have h_ : (8 : Int) ≤ (l1.length : Int) := of_decide_eq_true (by first | (with_reducible assumption) | assumption); omega)] <;> rfl) | rfl) ?_; (with_reducible refine (sector_number.calls kj2 _ _ ((l1.take 8).drop 4) t106 _ ?side1 ?side2 A10.out).mono ?_); (case side1 => repeat (first | exact (Kd.C_below HR105.out HB.out) | (with_reducible refine Kd.C_alloc ?_ _) | (with_reducible refine Kd.C_drewN ?_ _) | (with_reducible refine Kd.C_drew ?_))); (case side2 => exact HC105.out); rintro e w' ⟨rfl, ⟨nd, rfl⟩⟩; (try first | exact ⟨rfl, _, World.drewN_drewN _ _ _⟩ | exact ⟨rfl, _, Eq.trans (World.drewN_drewN _ _ _) (congrArg (World.drewN _) (Nat.add_assoc _ _ _))⟩))); go_upto_region 5 with (first | (go_at_call 21; refine calls_of_args (args' := #[.slice A12 ((l1.take 8).drop 4).length (c1 - 4)]) (by first | (simp only [List.length_drop, List.length_take]; done) | (simp only [List.length_drop, List.length_take]; rfl) | rfl | (rw [show ((l1.take 8).drop 4).length = (8 - 4) from (by rw [List.length_drop, List.length_take]; have h_ : (8 : Int) ≤ (l1.length : Int) := of_decide_eq_true (by first | (with_reducible assumption) | assumption); omega)] <;> rfl) | rfl) ?_; (with_reducible refine (sector_number.calls kj2 _ _ ((l1.take 8).drop 4) t106 _ ?side1 ?side2 A10.out).mono ?_); (case side1 => repeat (first | exact (Kd.C_below HR105.out HB.out) | (with_reducible refine Kd.C_alloc ?_ _) | (with_reducible refine Kd.C_drewN ?_ _) | (with_reducible refine Kd.C_drew ?_))); (case side2 => exact HC105.out); rintro e w' ⟨rfl, ⟨nd, rfl⟩⟩; (try first | exact ⟨rfl, _, World.drewN_drewN _ _ _⟩ | exact ⟨rfl, _, Eq.trans (World.drewN_drewN _ _ _) (congrArg (World.drewN _) (Nat.add_assoc _ _ _))⟩))))
            (try simp only [Act.put, List.setIfInBounds_toArray, List.set_cons_zero, List.set_cons_succ])
            go_cut [46] (fun v46 wc => ∃ (kq : Nat) (x46_10 : Bool), v46 = .bool x46_10 ∧ Aside0 (sector_Unpack.j1 kq l1 (wrap64 ((l1.length : Int) - 4)) t106 x46_10 = some (r1, r2, r3)) ∧ Aside0 (kq ≤ kj2) ∧ Aside0 (Below w.heap.size w wc))
            case first =>
              have H := HC11.out
              clear HC11
              obtain ⟨ji13, hji13⟩ : ∃ j_ : Int, (wrap64 ((l1.length : Int) - 4)) = j_ := ⟨_, rfl⟩
              replace H : (if 0 ≤ (ji13) then (if (ji13) ≤ (l1.length : Int) then ((sector_number.f kj2 (l1.drop ((ji13) : Int).toNat)).bind fun t108 => ((crc_Sum.f kj2 (l1.take ((ji13) : Int).toNat)).bind fun t110 => (if t108 = t110 then (if 4 ≤ (l1.length : Int) then ((sector_number.f kj2 (l1.take 4)).bind fun t112 => (if t112 = ((a0) % 4294967296) then (sector_Unpack.j1 kj2 l1 (ji13) t106 (decide (t106 > 2147483647))) else (sector_Unpack.j1 kj2 l1 (ji13) t106 true))) else (none)) else (sector_Unpack.j1 kj2 l1 (ji13) t106 true)))) else (none)) else (none)) = some (r1, r2, r3) := by first | (rw [hji13] at H; exact H) | (simp only [hji13] at H ⊢; exact H)
              have hji13w : (IntKind.i64.wrap ((l1.length : Int) - 4)) = ji13 := (i64_w _).trans hji13
              by_cases c14 : 0 ≤ (ji13)
              · rw [if_pos c14] at H
                have c14b0 := eq_true c14
                have c14b1 : decide (0 ≤ (ji13)) = true := decide_eq_true c14
                clear c14
                by_cases c15 : (ji13) ≤ (l1.length : Int)
                · rw [if_pos c15] at H
                  have c15b0 := eq_true c15
                  have c15b1 : decide ((ji13) ≤ (l1.length : Int)) = true := decide_eq_true c15
                  clear c15
                  replace H := Option.bind_eq_some_iff.mp H
                  obtain ⟨t108, A160, H⟩ := H
                  replace H : ((crc_Sum.f kj2 (l1.take ((ji13) : Int).toNat)).bind fun t110 => (if t108 = t110 then (if 4 ≤ (l1.length : Int) then ((sector_number.f kj2 (l1.take 4)).bind fun t112 => (if t112 = ((a0) % 4294967296) then (sector_Unpack.j1 kj2 l1 (ji13) t106 (decide (t106 > 2147483647))) else (sector_Unpack.j1 kj2 l1 (ji13) t106 true))) else (none)) else (sector_Unpack.j1 kj2 l1 (ji13) t106 true))) = some (r1, r2, r3) := H
                  have A16 := Aside0.mk A160
                  clear A160
                  have c17b0 := eq_true (of_decide_eq_true (by first | (with_reducible assumption) | assumption) : 0 ≤ (ji13))
                  have c18b0 := eq_true (of_decide_eq_true (by first | (with_reducible assumption) | assumption) : (ji13) ≤ (l1.length : Int))
                  replace H := Option.bind_eq_some_iff.mp H
                  obtain ⟨t110, A190, H⟩ := H
                  replace H : (if t108 = t110 then (if 4 ≤ (l1.length : Int) then ((sector_number.f kj2 (l1.take 4)).bind fun t112 => (if t112 = ((a0) % 4294967296) then (sector_Unpack.j1 kj2 l1 (ji13) t106 (decide (t106 > 2147483647))) else (sector_Unpack.j1 kj2 l1 (ji13) t106 true))) else (none)) else (sector_Unpack.j1 kj2 l1 (ji13) t106 true)) = some (r1, r2, r3) := H
                  have A19 := Aside0.mk A190
                  clear A190
                  by_cases c20 : t108 = t110
                  · rw [if_pos c20] at H
                    have c20b0 : (t108 == t110) = true := beq_iff_eq.mpr c20
                    have c20b1 : (t108 != t110) = false := bne_eq_false_iff_eq.mpr c20
                    clear c20
                    (first | rw [c20b0] | (simp only [i64_w, i32_w]; rw [c20b0]) | skip)
                    by_cases c21 : 4 ≤ (l1.length : Int)
                    · rw [if_pos c21] at H
                      have c21b0 := eq_true c21
                      have c21b1 : decide (4 ≤ (l1.length : Int)) = true := decide_eq_true c21
                      clear c21
                      replace H := Option.bind_eq_some_iff.mp H
                      obtain ⟨t112, A220, H⟩ := H
                      replace H : (if t112 = ((a0) % 4294967296) then (sector_Unpack.j1 kj2 l1 (ji13) t106 (decide (t106 > 2147483647))) else (sector_Unpack.j1 kj2 l1 (ji13) t106 true)) = some (r1, r2, r3) := H
                      have A22 := Aside0.mk A220
                      clear A220
                      by_cases c23 : t112 = ((a0) % 4294967296)
                      · rw [if_pos c23] at H
                        have c23b0 : (t112 == ((a0) % 4294967296)) = true := beq_iff_eq.mpr c23
                        have c23b1 : (t112 != ((a0) % 4294967296)) = false := bne_eq_false_iff_eq.mpr c23
                        clear c23
                        have H' := Aside0.mk H
                        clear H
                        obtain ⟨i024, hi024, _, hsz24, _⟩ := info_parts info5
                        obtain ⟨A24, hcut24, hA24, hC24⟩ := print_drop_of (P := Try.prog) (Value.int .u8) 0 23 5 .i64 Try.underlying23 hi024 hsz24 A1 c1 l1 (ji13) (of_decide_eq_true (by first | (with_reducible assumption) | assumption)) (of_decide_eq_true (by first | (with_reducible assumption) | assumption)) HC1.out
                        have HR107 := Aside0.mk (Kd.C_of_reads (h1 := fun _ => rfl) (hA24 _ (Kd.reads_of_C HR1.out)))
                        have HC107 := Aside0.mk hC24
                        clear hA24 hC24 hi024 hsz24
                        obtain ⟨i025, hi025, _, hsz25, _⟩ := info_parts info5
                        obtain ⟨hcut25, hA25, hC25⟩ := print_take_of (P := Try.prog) (Value.int .u8) 0 23 5 .i64 Try.underlying23 hi025 hsz25 A1 c1 l1 (ji13) (of_decide_eq_true (by first | (with_reducible assumption) | assumption)) (of_decide_eq_true (by first | (with_reducible assumption) | assumption)) HC1.out
                        have HR109 := Aside0.mk (Kd.C_of_reads (h1 := fun _ => rfl) (hA25 _ (Kd.reads_of_C HR1.out)))
                        have HC109 := Aside0.mk hC25
                        clear hA25 hC25 hi025 hsz25
                        obtain ⟨i026, hi026, _, hsz26, _⟩ := info_parts info5
                        obtain ⟨hcut26, hA26, hC26⟩ := print_take_of (P := Try.prog) (Value.int .u8) 0 23 5 .i64 Try.underlying23 hi026 hsz26 A1 c1 l1 4 (by omega) (of_decide_eq_true (by first | (with_reducible assumption) | assumption)) HC1.out
                        have HR111 := Aside0.mk (Kd.C_of_reads (h1 := fun _ => rfl) (hA26 _ (Kd.reads_of_C HR1.out)))
                        have HC111 := Aside0.mk hC26
                        clear hA26 hC26 hi026 hsz26
                        go_wp2_with (first | (go_at_call 21; refine calls_of_args (args' := #[.slice A24 (l1.drop ((ji13) : Int).toNat).length (c1 - (ji13).toNat)]) (by first | (simp only [List.length_drop, List.length_take]; done) | (simp only [List.length_drop, List.length_take]; rfl) | rfl | (rw [show (l1.drop ((ji13) : Int).toNat).length = (l1.length - (ji13).toNat) from List.length_drop] <;> rfl) | rfl) ?_; (with_reducible refine (sector_number.calls kj2 _ _ (l1.drop ((ji13) : Int).toNat) t108 _ ?side1 ?side2 A16.out).mono ?_); (case side1 => repeat (first | exact (Kd.C_below HR107.out HB.out) | (with_reducible refine Kd.C_alloc ?_ _) | (with_reducible refine Kd.C_drewN ?_ _) | (with_reducible refine Kd.C_drew ?_))); (case side2 => exact HC107.out); rintro e w' ⟨rfl, ⟨nd, rfl⟩⟩; (try first | exact ⟨rfl, _, World.drewN_drewN _ _ _⟩ | exact ⟨rfl, _, Eq.trans (World.drewN_drewN _ _ _) (congrArg (World.drewN _) (Nat.add_assoc _ _ _))⟩)) | (go_at_call 18; refine calls_of_args (args' := #[.slice A1 (l1.take ((ji13) : Int).toNat).length c1]) (by first | (simp only [List.length_drop, List.length_take]; done) | (simp only [List.length_drop, List.length_take]; rfl) | rfl | (rw [show (l1.take ((ji13) : Int).toNat).length = (ji13).toNat from (by rw [List.length_take]; have h_ : ((ji13) : Int) ≤ (l1.length : Int) := of_decide_eq_true (by first | (with_reducible assumption) | assumption); omega)] <;> rfl) | rfl) ?_; (with_reducible refine (crc_Sum.calls kj2 _ _ (l1.take ((ji13) : Int).toNat) t110 _ ?side1 ?side2 A19.out).mono ?_); (case side1 => repeat (first | exact (Kd.C_below HR109.out (by repeat (first | (with_reducible first | exact HB.out | apply below_alloc | apply pw_below_drewN | apply below_drew1) | exact HB.out))) | (with_reducible refine Kd.C_alloc ?_ _) | (with_reducible refine Kd.C_drewN ?_ _) | (with_reducible refine Kd.C_drew ?_))); (case side2 => exact HC109.out); rintro e w' ⟨rfl, ⟨nd, rfl⟩⟩; (try first | exact ⟨rfl, _, World.drewN_drewN _ _ _⟩ | exact ⟨rfl, _, Eq.trans (World.drewN_drewN _ _ _) (congrArg (World.drewN _) (Nat.add_assoc _ _ _))⟩)) | (go_at_call 21; refine calls_of_args (args' := #[.slice A1 (l1.take 4).length c1]) (by first | (simp only [List.length_drop, List.length_take]; done) | (simp only [List.length_drop, List.length_take]; rfl) | rfl | (rw [show (l1.take 4).length = 4 from (by rw [List.length_take]; have h_ : (4 : Int) ≤ (l1.length : Int) := of_decide_eq_true (by first | (with_reducible assumption) | assumption); omega)] <;> rfl) | rfl) ?_; (with_reducible refine (sector_number.calls kj2 _ _ (l1.take 4) t112 _ ?side1 ?side2 A22.out).mono ?_); (case side1 => repeat (first | exact (Kd.C_below HR111.out (by repeat (first | (with_reducible first | exact HB.out | apply below_alloc | apply pw_below_drewN | apply below_drew1) | exact HB.out))) | (with_reducible refine Kd.C_alloc ?_ _) | (with_reducible refine Kd.C_drewN ?_ _) | (with_reducible refine Kd.C_drew ?_))); (case side2 => exact HC111.out); rintro e w' ⟨rfl, ⟨nd, rfl⟩⟩; (try first | exact ⟨rfl, _, World.drewN_drewN _ _ _⟩ | exact ⟨rfl, _, Eq.trans (World.drewN_drewN _ _ _) (congrArg (World.drewN _) (Nat.add_assoc _ _ _))⟩)))
                        repeat (go_quiet (first | (go_at_call 21; refine calls_of_args (args' := #[.slice A24 (l1.drop ((ji13) : Int).toNat).length (c1 - (ji13).toNat)]) (by first | (simp only [List.length_drop, List.length_take]; done) | (simp only [List.length_drop, List.length_take]; rfl) | rfl | (rw [show (l1.drop ((ji13) : Int).toNat).length = (l1.length - (ji13).toNat) from List.length_drop] <;> rfl) | rfl) ?_; (with_reducible refine (sector_number.calls kj2 _ _ (l1.drop ((ji13) : Int).toNat) t108 _ ?side1 ?side2 A16.out).mono ?_); (case side1 => repeat (first | exact (Kd.C_below HR107.out HB.out) | (with_reducible refine Kd.C_alloc ?_ _) | (with_reducible refine Kd.C_drewN ?_ _) | (with_reducible refine Kd.C_drew ?_))); (case side2 => exact HC107.out); rintro e w' ⟨rfl, ⟨nd, rfl⟩⟩; (try first | exact ⟨rfl, _, World.drewN_drewN _ _ _⟩ | exact ⟨rfl, _, Eq.trans (World.drewN_drewN _ _ _) (congrArg (World.drewN _) (Nat.add_assoc _ _ _))⟩)) | (go_at_call 18; refine calls_of_args (args' := #[.slice A1 (l1.take ((ji13) : Int).toNat).length c1]) (by first | (simp only [List.length_drop, List.length_take]; done) | (simp only [List.length_drop, List.length_take]; rfl) | rfl | (rw [show (l1.take ((ji13) : Int).toNat).length = (ji13).toNat from (by rw [List.length_take]; have h_ : ((ji13) : Int) ≤ (l1.length : Int) := of_decide_eq_true (by first | (with_reducible assumption) | assumption); omega)] <;> rfl) | rfl) ?_; (with_reducible refine (crc_Sum.calls kj2 _ _ (l1.take ((ji13) : Int).toNat) t110 _ ?side1 ?side2 A19.out).mono ?_); (case side1 => repeat (first | exact (Kd.C_below HR109.out (by repeat (first | (with_reducible first | exact HB.out | apply below_alloc | apply pw_below_drewN | apply below_drew1) | exact HB.out))) | (with_reducible refine Kd.C_alloc ?_ _) | (with_reducible refine Kd.C_drewN ?_ _) | (with_reducible refine Kd.C_drew ?_))); (case side2 => exact HC109.out); rintro e w' ⟨rfl, ⟨nd, rfl⟩⟩; (try first | exact ⟨rfl, _, World.drewN_drewN _ _ _⟩ | exact ⟨rfl, _, Eq.trans (World.drewN_drewN _ _ _) (congrArg (World.drewN _) (Nat.add_assoc _ _ _))⟩)) | (go_at_call 21; refine calls_of_args (args' := #[.slice A1 (l1.take 4).length c1]) (by first | (simp only [List.length_drop, List.length_take]; done) | (simp only [List.length_drop, List.length_take]; rfl) | rfl | (rw [show (l1.take 4).length = 4 from (by rw [List.length_take]; have h_ : (4 : Int) ≤ (l1.length : Int) := of_decide_eq_true (by first | (with_reducible assumption) | assumption); omega)] <;> rfl) | rfl) ?_; (with_reducible refine (sector_number.calls kj2 _ _ (l1.take 4) t112 _ ?side1 ?side2 A22.out).mono ?_); (case side1 => repeat (first | exact (Kd.C_below HR111.out (by repeat (first | (with_reducible first | exact HB.out | apply below_alloc | apply pw_below_drewN | apply below_drew1) | exact HB.out))) | (with_reducible refine Kd.C_alloc ?_ _) | (with_reducible refine Kd.C_drewN ?_ _) | (with_reducible refine Kd.C_drew ?_))); (case side2 => exact HC111.out); rintro e w' ⟨rfl, ⟨nd, rfl⟩⟩; (try first | exact ⟨rfl, _, World.drewN_drewN _ _ _⟩ | exact ⟨rfl, _, Eq.trans (World.drewN_drewN _ _ _) (congrArg (World.drewN _) (Nat.add_assoc _ _ _))⟩))); try go_wp2_with (first | (go_at_call 21; refine calls_of_args (args' := #[.slice A24 (l1.drop ((ji13) : Int).toNat).length (c1 - (ji13).toNat)]) (by first | (simp only [List.length_drop, List.length_take]; done) | (simp only [List.length_drop, List.length_take]; rfl) | rfl | (rw [show (l1.drop ((ji13) : Int).toNat).length = (l1.length - (ji13).toNat) from List.length_drop] <;> rfl) | rfl) ?_; (with_reducible refine (sector_number.calls kj2 _ _ (l1.drop ((ji13) : Int).toNat) t108 _ ?side1 ?side2 A16.out).mono ?_); (case side1 => repeat (first | exact (Kd.C_below HR107.out HB.out) | (with_reducible refine Kd.C_alloc ?_ _) | (with_reducible refine Kd.C_drewN ?_ _) | (with_reducible refine Kd.C_drew ?_))); (case side2 => exact HC107.out); rintro e w' ⟨rfl, ⟨nd, rfl⟩⟩; (try first | exact ⟨rfl, _, World.drewN_drewN _ _ _⟩ | exact ⟨rfl, _, Eq.trans (World.drewN_drewN _ _ _) (congrArg (World.drewN _) (Nat.add_assoc _ _ _))⟩)) | (go_at_call 18; refine calls_of_args (args' := #[.slice A1 (l1.take ((ji13) : Int).toNat).length c1]) (by first | (simp only [List.length_drop, List.length_take]; done) | (simp only [List.length_drop, List.length_take]; rfl) | rfl | (rw [show (l1.take ((ji13) : Int).toNat).length = (ji13).toNat from (by rw [List.length_take]; have h_ : ((ji13) : Int) ≤ (l1.length : Int) := of_decide_eq_true (by first | (with_reducible assumption) | assumption); omega)] <;> rfl) | rfl) ?_; (with_reducible refine (crc_Sum.calls kj2 _ _ (l1.take ((ji13) : Int).toNat) t110 _ ?side1 ?side2 A19.out).mono ?_); (case side1 => repeat (first | exact (Kd.C_below HR109.out (by repeat (first | (with_reducible first | exact HB.out | apply below_alloc | apply pw_below_drewN | apply below_drew1) | exact HB.out))) | (with_reducible refine Kd.C_alloc ?_ _) | (with_reducible refine Kd.C_drewN ?_ _) | (with_reducible refine Kd.C_drew ?_))); (case side2 => exact HC109.out); rintro e w' ⟨rfl, ⟨nd, rfl⟩⟩; (try first | exact ⟨rfl, _, World.drewN_drewN _ _ _⟩ | exact ⟨rfl, _, Eq.trans (World.drewN_drewN _ _ _) (congrArg (World.drewN _) (Nat.add_assoc _ _ _))⟩)) | (go_at_call 21; refine calls_of_args (args' := #[.slice A1 (l1.take 4).length c1]) (by first | (simp only [List.length_drop, List.length_take]; done) | (simp only [List.length_drop, List.length_take]; rfl) | rfl | (rw [show (l1.take 4).length = 4 from (by rw [List.length_take]; have h_ : (4 : Int) ≤ (l1.length : Int) := of_decide_eq_true (by first | (with_reducible assumption) | assumption); omega)] <;> rfl) | rfl) ?_; (with_reducible refine (sector_number.calls kj2 _ _ (l1.take 4) t112 _ ?side1 ?side2 A22.out).mono ?_); (case side1 => repeat (first | exact (Kd.C_below HR111.out (by repeat (first | (with_reducible first | exact HB.out | apply below_alloc | apply pw_below_drewN | apply below_drew1) | exact HB.out))) | (with_reducible refine Kd.C_alloc ?_ _) | (with_reducible refine Kd.C_drewN ?_ _) | (with_reducible refine Kd.C_drew ?_))); (case side2 => exact HC111.out); rintro e w' ⟨rfl, ⟨nd, rfl⟩⟩; (try first | exact ⟨rfl, _, World.drewN_drewN _ _ _⟩ | exact ⟨rfl, _, Eq.trans (World.drewN_drewN _ _ _) (congrArg (World.drewN _) (Nat.add_assoc _ _ _))⟩))))
                        try subst hji13
                        go_meet
                        case rel => exact ⟨_, (decide (t106 > 2147483647)), (by first | rfl | (simp; done) | (simp [*]; done)), H', ⟨by have := HJ2.out; first | omega | exact Nat.le_refl _⟩, ⟨by repeat (first | (with_reducible first | exact HB.out | apply below_alloc | apply pw_below_drewN | apply below_drew1) | exact HB.out)⟩⟩
                      · rw [if_neg c23] at H
                        have c23b0 : (t112 == ((a0) % 4294967296)) = false := beq_eq_false_iff_ne.mpr c23
                        have c23b1 : (t112 != ((a0) % 4294967296)) = true := bne_iff_ne.mpr c23
                        have H' := Aside0.mk H
                        clear H
                        obtain ⟨i027, hi027, _, hsz27, _⟩ := info_parts info5
                        obtain ⟨A27, hcut27, hA27, hC27⟩ := print_drop_of (P := Try.prog) (Value.int .u8) 0 23 5 .i64 Try.underlying23 hi027 hsz27 A1 c1 l1 (ji13) (of_decide_eq_true (by first | (with_reducible assumption) | assumption)) (of_decide_eq_true (by first | (with_reducible assumption) | assumption)) HC1.out
                        have HR107 := Aside0.mk (Kd.C_of_reads (h1 := fun _ => rfl) (hA27 _ (Kd.reads_of_C HR1.out)))
                        have HC107 := Aside0.mk hC27
                        clear hA27 hC27 hi027 hsz27
                        obtain ⟨i028, hi028, _, hsz28, _⟩ := info_parts info5
                        obtain ⟨hcut28, hA28, hC28⟩ := print_take_of (P := Try.prog) (Value.int .u8) 0 23 5 .i64 Try.underlying23 hi028 hsz28 A1 c1 l1 (ji13) (of_decide_eq_true (by first | (with_reducible assumption) | assumption)) (of_decide_eq_true (by first | (with_reducible assumption) | assumption)) HC1.out
                        have HR109 := Aside0.mk (Kd.C_of_reads (h1 := fun _ => rfl) (hA28 _ (Kd.reads_of_C HR1.out)))
                        have HC109 := Aside0.mk hC28
                        clear hA28 hC28 hi028 hsz28
                        obtain ⟨i029, hi029, _, hsz29, _⟩ := info_parts info5
                        obtain ⟨hcut29, hA29, hC29⟩ := print_take_of (P := Try.prog) (Value.int .u8) 0 23 5 .i64 Try.underlying23 hi029 hsz29 A1 c1 l1 4 (by omega) (of_decide_eq_true (by first | (with_reducible assumption) | assumption)) HC1.out
                        have HR111 := Aside0.mk (Kd.C_of_reads (h1 := fun _ => rfl) (hA29 _ (Kd.reads_of_C HR1.out)))
                        have HC111 := Aside0.mk hC29
                        clear hA29 hC29 hi029 hsz29
                        go_wp2_with (first | (go_at_call 21; refine calls_of_args (args' := #[.slice A27 (l1.drop ((ji13) : Int).toNat).length (c1 - (ji13).toNat)]) (by first | (simp only [List.length_drop, List.length_take]; done) | (simp only [List.length_drop, List.length_take]; rfl) | rfl | (rw [show (l1.drop ((ji13) : Int).toNat).length = (l1.length - (ji13).toNat) from List.length_drop] <;> rfl) | rfl) ?_; (with_reducible refine (sector_number.calls kj2 _ _ (l1.drop ((ji13) : Int).toNat) t108 _ ?side1 ?side2 A16.out).mono ?_); (case side1 => repeat (first | exact (Kd.C_below HR107.out HB.out) | (with_reducible refine Kd.C_alloc ?_ _) | (with_reducible refine Kd.C_drewN ?_ _) | (with_reducible refine Kd.C_drew ?_))); (case side2 => exact HC107.out); rintro e w' ⟨rfl, ⟨nd, rfl⟩⟩; (try first | exact ⟨rfl, _, World.drewN_drewN _ _ _⟩ | exact ⟨rfl, _, Eq.trans (World.drewN_drewN _ _ _) (congrArg (World.drewN _) (Nat.add_assoc _ _ _))⟩)) | (go_at_call 18; refine calls_of_args (args' := #[.slice A1 (l1.take ((ji13) : Int).toNat).length c1]) (by first | (simp only [List.length_drop, List.length_take]; done) | (simp only [List.length_drop, List.length_take]; rfl) | rfl | (rw [show (l1.take ((ji13) : Int).toNat).length = (ji13).toNat from (by rw [List.length_take]; have h_ : ((ji13) : Int) ≤ (l1.length : Int) := of_decide_eq_true (by first | (with_reducible assumption) | assumption); omega)] <;> rfl) | rfl) ?_; (with_reducible refine (crc_Sum.calls kj2 _ _ (l1.take ((ji13) : Int).toNat) t110 _ ?side1 ?side2 A19.out).mono ?_); (case side1 => repeat (first | exact (Kd.C_below HR109.out (by repeat (first | (with_reducible first | exact HB.out | apply below_alloc | apply pw_below_drewN | apply below_drew1) | exact HB.out))) | (with_reducible refine Kd.C_alloc ?_ _) | (with_reducible refine Kd.C_drewN ?_ _) | (with_reducible refine Kd.C_drew ?_))); (case side2 => exact HC109.out); rintro e w' ⟨rfl, ⟨nd, rfl⟩⟩; (try first | exact ⟨rfl, _, World.drewN_drewN _ _ _⟩ | exact ⟨rfl, _, Eq.trans (World.drewN_drewN _ _ _) (congrArg (World.drewN _) (Nat.add_assoc _ _ _))⟩)) | (go_at_call 21; refine calls_of_args (args' := #[.slice A1 (l1.take 4).length c1]) (by first | (simp only [List.length_drop, List.length_take]; done) | (simp only [List.length_drop, List.length_take]; rfl) | rfl | (rw [show (l1.take 4).length = 4 from (by rw [List.length_take]; have h_ : (4 : Int) ≤ (l1.length : Int) := of_decide_eq_true (by first | (with_reducible assumption) | assumption); omega)] <;> rfl) | rfl) ?_; (with_reducible refine (sector_number.calls kj2 _ _ (l1.take 4) t112 _ ?side1 ?side2 A22.out).mono ?_); (case side1 => repeat (first | exact (Kd.C_below HR111.out (by repeat (first | (with_reducible first | exact HB.out | apply below_alloc | apply pw_below_drewN | apply below_drew1) | exact HB.out))) | (with_reducible refine Kd.C_alloc ?_ _) | (with_reducible refine Kd.C_drewN ?_ _) | (with_reducible refine Kd.C_drew ?_))); (case side2 => exact HC111.out); rintro e w' ⟨rfl, ⟨nd, rfl⟩⟩; (try first | exact ⟨rfl, _, World.drewN_drewN _ _ _⟩ | exact ⟨rfl, _, Eq.trans (World.drewN_drewN _ _ _) (congrArg (World.drewN _) (Nat.add_assoc _ _ _))⟩)))
                        repeat (go_quiet (first | (go_at_call 21; refine calls_of_args (args' := #[.slice A27 (l1.drop ((ji13) : Int).toNat).length (c1 - (ji13).toNat)]) (by first | (simp only [List.length_drop, List.length_take]; done) | (simp only [List.length_drop, List.length_take]; rfl) | rfl | (rw [show (l1.drop ((ji13) : Int).toNat).length = (l1.length - (ji13).toNat) from List.length_drop] <;> rfl) | rfl) ?_; (with_reducible refine (sector_number.calls kj2 _ _ (l1.drop ((ji13) : Int).toNat) t108 _ ?side1 ?side2 A16.out).mono ?_); (case side1 => repeat (first | exact (Kd.C_below HR107.out HB.out) | (with_reducible refine Kd.C_alloc ?_ _) | (with_reducible refine Kd.C_drewN ?_ _) | (with_reducible refine Kd.C_drew ?_))); (case side2 => exact HC107.out); rintro e w' ⟨rfl, ⟨nd, rfl⟩⟩; (try first | exact ⟨rfl, _, World.drewN_drewN _ _ _⟩ | exact ⟨rfl, _, Eq.trans (World.drewN_drewN _ _ _) (congrArg (World.drewN _) (Nat.add_assoc _ _ _))⟩)) | (go_at_call 18; refine calls_of_args (args' := #[.slice A1 (l1.take ((ji13) : Int).toNat).length c1]) (by first | (simp only [List.length_drop, List.length_take]; done) | (simp only [List.length_drop, List.length_take]; rfl) | rfl | (rw [show (l1.take ((ji13) : Int).toNat).length = (ji13).toNat from (by rw [List.length_take]; have h_ : ((ji13) : Int) ≤ (l1.length : Int) := of_decide_eq_true (by first | (with_reducible assumption) | assumption); omega)] <;> rfl) | rfl) ?_; (with_reducible refine (crc_Sum.calls kj2 _ _ (l1.take ((ji13) : Int).toNat) t110 _ ?side1 ?side2 A19.out).mono ?_); (case side1 => repeat (first | exact (Kd.C_below HR109.out (by repeat (first | (with_reducible first | exact HB.out | apply below_alloc | apply pw_below_drewN | apply below_drew1) | exact HB.out))) | (with_reducible refine Kd.C_alloc ?_ _) | (with_reducible refine Kd.C_drewN ?_ _) | (with_reducible refine Kd.C_drew ?_))); (case side2 => exact HC109.out); rintro e w' ⟨rfl, ⟨nd, rfl⟩⟩; (try first | exact ⟨rfl, _, World.drewN_drewN _ _ _⟩ | exact ⟨rfl, _, Eq.trans (World.drewN_drewN _ _ _) (congrArg (World.drewN _) (Nat.add_assoc _ _ _))⟩)) | (go_at_call 21; refine calls_of_args (args' := #[.slice A1 (l1.take 4).length c1]) (by first | (simp only [List.length_drop, List.length_take]; done) | (simp only [List.length_drop, List.length_take]; rfl) | rfl | (rw [show (l1.take 4).length = 4 from (by rw [List.length_take]; have h_ : (4 : Int) ≤ (l1.length : Int) := of_decide_eq_true (by first | (with_reducible assumption) | assumption); omega)] <;> rfl) | rfl) ?_; (with_reducible refine (sector_number.calls kj2 _ _ (l1.take 4) t112 _ ?side1 ?side2 A22.out).mono ?_); (case side1 => repeat (first | exact (Kd.C_below HR111.out (by repeat (first | (with_reducible first | exact HB.out | apply below_alloc | apply pw_below_drewN | apply below_drew1) | exact HB.out))) | (with_reducible refine Kd.C_alloc ?_ _) | (with_reducible refine Kd.C_drewN ?_ _) | (with_reducible refine Kd.C_drew ?_))); (case side2 => exact HC111.out); rintro e w' ⟨rfl, ⟨nd, rfl⟩⟩; (try first | exact ⟨rfl, _, World.drewN_drewN _ _ _⟩ | exact ⟨rfl, _, Eq.trans (World.drewN_drewN _ _ _) (congrArg (World.drewN _) (Nat.add_assoc _ _ _))⟩))); try go_wp2_with (first | (go_at_call 21; refine calls_of_args (args' := #[.slice A27 (l1.drop ((ji13) : Int).toNat).length (c1 - (ji13).toNat)]) (by first | (simp only [List.length_drop, List.length_take]; done) | (simp only [List.length_drop, List.length_take]; rfl) | rfl | (rw [show (l1.drop ((ji13) : Int).toNat).length = (l1.length - (ji13).toNat) from List.length_drop] <;> rfl) | rfl) ?_; (with_reducible refine (sector_number.calls kj2 _ _ (l1.drop ((ji13) : Int).toNat) t108 _ ?side1 ?side2 A16.out).mono ?_); (case side1 => repeat (first | exact (Kd.C_below HR107.out HB.out) | (with_reducible refine Kd.C_alloc ?_ _) | (with_reducible refine Kd.C_drewN ?_ _) | (with_reducible refine Kd.C_drew ?_))); (case side2 => exact HC107.out); rintro e w' ⟨rfl, ⟨nd, rfl⟩⟩; (try first | exact ⟨rfl, _, World.drewN_drewN _ _ _⟩ | exact ⟨rfl, _, Eq.trans (World.drewN_drewN _ _ _) (congrArg (World.drewN _) (Nat.add_assoc _ _ _))⟩)) | (go_at_call 18; refine calls_of_args (args' := #[.slice A1 (l1.take ((ji13) : Int).toNat).length c1]) (by first | (simp only [List.length_drop, List.length_take]; done) | (simp only [List.length_drop, List.length_take]; rfl) | rfl | (rw [show (l1.take ((ji13) : Int).toNat).length = (ji13).toNat from (by rw [List.length_take]; have h_ : ((ji13) : Int) ≤ (l1.length : Int) := of_decide_eq_true (by first | (with_reducible assumption) | assumption); omega)] <;> rfl) | rfl) ?_; (with_reducible refine (crc_Sum.calls kj2 _ _ (l1.take ((ji13) : Int).toNat) t110 _ ?side1 ?side2 A19.out).mono ?_); (case side1 => repeat (first | exact (Kd.C_below HR109.out (by repeat (first | (with_reducible first | exact HB.out | apply below_alloc | apply pw_below_drewN | apply below_drew1) | exact HB.out))) | (with_reducible refine Kd.C_alloc ?_ _) | (with_reducible refine Kd.C_drewN ?_ _) | (with_reducible refine Kd.C_drew ?_))); (case side2 => exact HC109.out); rintro e w' ⟨rfl, ⟨nd, rfl⟩⟩; (try first | exact ⟨rfl, _, World.drewN_drewN _ _ _⟩ | exact ⟨rfl, _, Eq.trans (World.drewN_drewN _ _ _) (congrArg (World.drewN _) (Nat.add_assoc _ _ _))⟩)) | (go_at_call 21; refine calls_of_args (args' := #[.slice A1 (l1.take 4).length c1]) (by first | (simp only [List.length_drop, List.length_take]; done) | (simp only [List.length_drop, List.length_take]; rfl) | rfl | (rw [show (l1.take 4).length = 4 from (by rw [List.length_take]; have h_ : (4 : Int) ≤ (l1.length : Int) := of_decide_eq_true (by first | (with_reducible assumption) | assumption); omega)] <;> rfl) | rfl) ?_; (with_reducible refine (sector_number.calls kj2 _ _ (l1.take 4) t112 _ ?side1 ?side2 A22.out).mono ?_); (case side1 => repeat (first | exact (Kd.C_below HR111.out (by repeat (first | (with_reducible first | exact HB.out | apply below_alloc | apply pw_below_drewN | apply below_drew1) | exact HB.out))) | (with_reducible refine Kd.C_alloc ?_ _) | (with_reducible refine Kd.C_drewN ?_ _) | (with_reducible refine Kd.C_drew ?_))); (case side2 => exact HC111.out); rintro e w' ⟨rfl, ⟨nd, rfl⟩⟩; (try first | exact ⟨rfl, _, World.drewN_drewN _ _ _⟩ | exact ⟨rfl, _, Eq.trans (World.drewN_drewN _ _ _) (congrArg (World.drewN _) (Nat.add_assoc _ _ _))⟩))))
                        try subst hji13
                        go_meet
                        case rel => exact ⟨_, (true), (by first | rfl | (simp; done) | (simp [*]; done)), H', ⟨by have := HJ2.out; first | omega | exact Nat.le_refl _⟩, ⟨by repeat (first | (with_reducible first | exact HB.out | apply below_alloc | apply pw_below_drewN | apply below_drew1) | exact HB.out)⟩⟩
                    · rw [if_neg c21] at H
                      exact absurd H (by simp)
                  · rw [if_neg c20] at H
                    have c20b0 : (t108 == t110) = false := beq_eq_false_iff_ne.mpr c20
                    have c20b1 : (t108 != t110) = true := bne_iff_ne.mpr c20
                    (first | rw [c20b0] | (simp only [i64_w, i32_w]; rw [c20b0]) | skip)
                    have H' := Aside0.mk H
                    clear H
                    obtain ⟨i030, hi030, _, hsz30, _⟩ := info_parts info5
                    obtain ⟨A30, hcut30, hA30, hC30⟩ := print_drop_of (P := Try.prog) (Value.int .u8) 0 23 5 .i64 Try.underlying23 hi030 hsz30 A1 c1 l1 (ji13) (of_decide_eq_true (by first | (with_reducible assumption) | assumption)) (of_decide_eq_true (by first | (with_reducible assumption) | assumption)) HC1.out
                    have HR107 := Aside0.mk (Kd.C_of_reads (h1 := fun _ => rfl) (hA30 _ (Kd.reads_of_C HR1.out)))
                    have HC107 := Aside0.mk hC30
                    clear hA30 hC30 hi030 hsz30
                    obtain ⟨i031, hi031, _, hsz31, _⟩ := info_parts info5
                    obtain ⟨hcut31, hA31, hC31⟩ := print_take_of (P := Try.prog) (Value.int .u8) 0 23 5 .i64 Try.underlying23 hi031 hsz31 A1 c1 l1 (ji13) (of_decide_eq_true (by first | (with_reducible assumption) | assumption)) (of_decide_eq_true (by first | (with_reducible assumption) | assumption)) HC1.out
                    have HR109 := Aside0.mk (Kd.C_of_reads (h1 := fun _ => rfl) (hA31 _ (Kd.reads_of_C HR1.out)))
                    have HC109 := Aside0.mk hC31
                    clear hA31 hC31 hi031 hsz31
                    go_wp2_with (first | (go_at_call 21; refine calls_of_args (args' := #[.slice A30 (l1.drop ((ji13) : Int).toNat).length (c1 - (ji13).toNat)]) (by first | (simp only [List.length_drop, List.length_take]; done) | (simp only [List.length_drop, List.length_take]; rfl) | rfl | (rw [show (l1.drop ((ji13) : Int).toNat).length = (l1.length - (ji13).toNat) from List.length_drop] <;> rfl) | rfl) ?_; (with_reducible refine (sector_number.calls kj2 _ _ (l1.drop ((ji13) : Int).toNat) t108 _ ?side1 ?side2 A16.out).mono ?_); (case side1 => repeat (first | exact (Kd.C_below HR107.out HB.out) | (with_reducible refine Kd.C_alloc ?_ _) | (with_reducible refine Kd.C_drewN ?_ _) | (with_reducible refine Kd.C_drew ?_))); (case side2 => exact HC107.out); rintro e w' ⟨rfl, ⟨nd, rfl⟩⟩; (try first | exact ⟨rfl, _, World.drewN_drewN _ _ _⟩ | exact ⟨rfl, _, Eq.trans (World.drewN_drewN _ _ _) (congrArg (World.drewN _) (Nat.add_assoc _ _ _))⟩)) | (go_at_call 18; refine calls_of_args (args' := #[.slice A1 (l1.take ((ji13) : Int).toNat).length c1]) (by first | (simp only [List.length_drop, List.length_take]; done) | (simp only [List.length_drop, List.length_take]; rfl) | rfl | (rw [show (l1.take ((ji13) : Int).toNat).length = (ji13).toNat from (by rw [List.length_take]; have h_ : ((ji13) : Int) ≤ (l1.length : Int) := of_decide_eq_true (by first | (with_reducible assumption) | assumption); omega)] <;> rfl) | rfl) ?_; (with_reducible refine (crc_Sum.calls kj2 _ _ (l1.take ((ji13) : Int).toNat) t110 _ ?side1 ?side2 A19.out).mono ?_); (case side1 => repeat (first | exact (Kd.C_below HR109.out (by repeat (first | (with_reducible first | exact HB.out | apply below_alloc | apply pw_below_drewN | apply below_drew1) | exact HB.out))) | (with_reducible refine Kd.C_alloc ?_ _) | (with_reducible refine Kd.C_drewN ?_ _) | (with_reducible refine Kd.C_drew ?_))); (case side2 => exact HC109.out); rintro e w' ⟨rfl, ⟨nd, rfl⟩⟩; (try first | exact ⟨rfl, _, World.drewN_drewN _ _ _⟩ | exact ⟨rfl, _, Eq.trans (World.drewN_drewN _ _ _) (congrArg (World.drewN _) (Nat.add_assoc _ _ _))⟩)))
                    repeat (go_quiet (first | (go_at_call 21; refine calls_of_args (args' := #[.slice A30 (l1.drop ((ji13) : Int).toNat).length (c1 - (ji13).toNat)]) (by first | (simp only [List.length_drop, List.length_take]; done) | (simp only [List.length_drop, List.length_take]; rfl) | rfl | (rw [show (l1.drop ((ji13) : Int).toNat).length = (l1.length - (ji13).toNat) from List.length_drop] <;> rfl) | rfl) ?_; (with_reducible refine (sector_number.calls kj2 _ _ (l1.drop ((ji13) : Int).toNat) t108 _ ?side1 ?side2 A16.out).mono ?_); (case side1 => repeat (first | exact (Kd.C_below HR107.out HB.out) | (with_reducible refine Kd.C_alloc ?_ _) | (with_reducible refine Kd.C_drewN ?_ _) | (with_reducible refine Kd.C_drew ?_))); (case side2 => exact HC107.out); rintro e w' ⟨rfl, ⟨nd, rfl⟩⟩; (try first | exact ⟨rfl, _, World.drewN_drewN _ _ _⟩ | exact ⟨rfl, _, Eq.trans (World.drewN_drewN _ _ _) (congrArg (World.drewN _) (Nat.add_assoc _ _ _))⟩)) | (go_at_call 18; refine calls_of_args (args' := #[.slice A1 (l1.take ((ji13) : Int).toNat).length c1]) (by first | (simp only [List.length_drop, List.length_take]; done) | (simp only [List.length_drop, List.length_take]; rfl) | rfl | (rw [show (l1.take ((ji13) : Int).toNat).length = (ji13).toNat from (by rw [List.length_take]; have h_ : ((ji13) : Int) ≤ (l1.length : Int) := of_decide_eq_true (by first | (with_reducible assumption) | assumption); omega)] <;> rfl) | rfl) ?_; (with_reducible refine (crc_Sum.calls kj2 _ _ (l1.take ((ji13) : Int).toNat) t110 _ ?side1 ?side2 A19.out).mono ?_); (case side1 => repeat (first | exact (Kd.C_below HR109.out (by repeat (first | (with_reducible first | exact HB.out | apply below_alloc | apply pw_below_drewN | apply below_drew1) | exact HB.out))) | (with_reducible refine Kd.C_alloc ?_ _) | (with_reducible refine Kd.C_drewN ?_ _) | (with_reducible refine Kd.C_drew ?_))); (case side2 => exact HC109.out); rintro e w' ⟨rfl, ⟨nd, rfl⟩⟩; (try first | exact ⟨rfl, _, World.drewN_drewN _ _ _⟩ | exact ⟨rfl, _, Eq.trans (World.drewN_drewN _ _ _) (congrArg (World.drewN _) (Nat.add_assoc _ _ _))⟩))); try go_wp2_with (first | (go_at_call 21; refine calls_of_args (args' := #[.slice A30 (l1.drop ((ji13) : Int).toNat).length (c1 - (ji13).toNat)]) (by first | (simp only [List.length_drop, List.length_take]; done) | (simp only [List.length_drop, List.length_take]; rfl) | rfl | (rw [show (l1.drop ((ji13) : Int).toNat).length = (l1.length - (ji13).toNat) from List.length_drop] <;> rfl) | rfl) ?_; (with_reducible refine (sector_number.calls kj2 _ _ (l1.drop ((ji13) : Int).toNat) t108 _ ?side1 ?side2 A16.out).mono ?_); (case side1 => repeat (first | exact (Kd.C_below HR107.out HB.out) | (with_reducible refine Kd.C_alloc ?_ _) | (with_reducible refine Kd.C_drewN ?_ _) | (with_reducible refine Kd.C_drew ?_))); (case side2 => exact HC107.out); rintro e w' ⟨rfl, ⟨nd, rfl⟩⟩; (try first | exact ⟨rfl, _, World.drewN_drewN _ _ _⟩ | exact ⟨rfl, _, Eq.trans (World.drewN_drewN _ _ _) (congrArg (World.drewN _) (Nat.add_assoc _ _ _))⟩)) | (go_at_call 18; refine calls_of_args (args' := #[.slice A1 (l1.take ((ji13) : Int).toNat).length c1]) (by first | (simp only [List.length_drop, List.length_take]; done) | (simp only [List.length_drop, List.length_take]; rfl) | rfl | (rw [show (l1.take ((ji13) : Int).toNat).length = (ji13).toNat from (by rw [List.length_take]; have h_ : ((ji13) : Int) ≤ (l1.length : Int) := of_decide_eq_true (by first | (with_reducible assumption) | assumption); omega)] <;> rfl) | rfl) ?_; (with_reducible refine (crc_Sum.calls kj2 _ _ (l1.take ((ji13) : Int).toNat) t110 _ ?side1 ?side2 A19.out).mono ?_); (case side1 => repeat (first | exact (Kd.C_below HR109.out (by repeat (first | (with_reducible first | exact HB.out | apply below_alloc | apply pw_below_drewN | apply below_drew1) | exact HB.out))) | (with_reducible refine Kd.C_alloc ?_ _) | (with_reducible refine Kd.C_drewN ?_ _) | (with_reducible refine Kd.C_drew ?_))); (case side2 => exact HC109.out); rintro e w' ⟨rfl, ⟨nd, rfl⟩⟩; (try first | exact ⟨rfl, _, World.drewN_drewN _ _ _⟩ | exact ⟨rfl, _, Eq.trans (World.drewN_drewN _ _ _) (congrArg (World.drewN _) (Nat.add_assoc _ _ _))⟩))))
                    try subst hji13
                    go_meet
                    case rel => exact ⟨_, (true), (by first | rfl | (simp; done) | (simp [*]; done)), H', ⟨by have := HJ2.out; first | omega | exact Nat.le_refl _⟩, ⟨by repeat (first | (with_reducible first | exact HB.out | apply below_alloc | apply pw_below_drewN | apply below_drew1) | exact HB.out)⟩⟩
                · rw [if_neg c15] at H
                  exact absurd H (by simp)
              · rw [if_neg c14] at H
                exact absurd H (by simp)
            case rest =>
              clear HC11
              try clear c1
              try clear c2
              try clear p2
              try clear c4
              try clear c4b0
              try clear c5
              try clear c5b0
              try clear p6
              try clear c7
              try clear c8
              try clear c8b0
              try clear c8b1
              try clear c9
              try clear c9b0
              try clear c9b1
              try clear c12
              try clear c14
              try clear c14b0
              try clear c14b1
              try clear c15
              try clear c15b0
              try clear c15b1
              try clear c17
              try clear c17b0
              try clear c18
              try clear c18b0
              try clear c20
              try clear c20b0
              try clear c20b1
              try clear c21
              try clear c21b0
              try clear c21b1
              try clear c23
              try clear c23b0
              try clear c23b1
              try clear p2
              try clear p6
              obtain ⟨kq, x46_10, rfl, HA, HJ10, HB⟩ := hcut
              cases kq with
              | zero => exact absurd HA.out (by simp [sector_Unpack.j1])
              | succ kj10 =>
                have H := HA.out
                clear HA
                simp only [sector_Unpack.j1] at H
                by_cases c32 : x46_10 = true
                · subst c32
                  have H1 : (some (0, ([] : List Int), 110)) = some (r1, r2, r3) := by rw [if_pos rfl] at H; exact H
                  clear H
                  have H := H1
                  clear H1
                  simp only [Option.some.injEq, Prod.mk.injEq] at H
                  obtain ⟨rfl, rfl, rfl⟩ := H
                  go_wp2
                  repeat (go_quiet (fail); try go_wp2)
                  go_ret3
                  exact ⟨_, by first | rfl | (simp [errW_none, errW_some] <;> rfl) | (simp [*, errW_none, errW_some] <;> rfl), by first | exact Kd.R_nil _ _ _ _ _ | exact Kd.N_nil _ _ _ _ _ | exact Kd.V_nil _ _ _ _ _ | exact Kd.Q_nil _ _ _ _ _ | exact Kd.S_nil _ _ _ _ _, by repeat (first | (with_reducible first | exact HB.out | apply below_alloc | apply pw_below_drewN | apply below_drew1) | exact HB.out)⟩
                · replace c32 := Bool.eq_false_iff.mpr c32
                  subst c32
                  have H1 : (if 8 ≤ (wrap64 ((l1.length : Int) - 4)) then (if (wrap64 ((l1.length : Int) - 4)) ≤ (l1.length : Int) then ((bytes_Clone.f ((l1.take ((wrap64 ((l1.length : Int) - 4)) : Int).toNat).drop 8)).bind fun t114 => (some (wrap64 (t106), t114, 0))) else (none)) else (none)) = some (r1, r2, r3) := by rw [if_neg (show ¬ (false = true) by decide)] at H; exact H
                  clear H
                  have H := H1
                  clear H1
                  by_cases c33 : 8 ≤ (wrap64 ((l1.length : Int) - 4))
                  · rw [if_pos c33] at H
                    have c33b0 := eq_true c33
                    have c33b1 : decide (8 ≤ (wrap64 ((l1.length : Int) - 4))) = true := decide_eq_true c33
                    clear c33
                    by_cases c34 : (wrap64 ((l1.length : Int) - 4)) ≤ (l1.length : Int)
                    · rw [if_pos c34] at H
                      have c34b0 := eq_true c34
                      have c34b1 : decide ((wrap64 ((l1.length : Int) - 4)) ≤ (l1.length : Int)) = true := decide_eq_true c34
                      clear c34
                      replace H := Option.bind_eq_some_iff.mp H
                      obtain ⟨t114, A350, H⟩ := H
                      replace H : (some (wrap64 (t106), t114, 0)) = some (r1, r2, r3) := H
                      have A35 := Aside0.mk A350
                      clear A350
                      simp only [Option.some.injEq, Prod.mk.injEq] at H
                      obtain ⟨rfl, rfl, rfl⟩ := H
                      obtain ⟨i036, hi036, _, hsz36, _⟩ := info_parts info5
                      obtain ⟨A36, hcut36, hA36, hC36⟩ := print_mid_of (P := Try.prog) (Value.int .u8) 0 23 5 .i64 .i64 Try.underlying23 hi036 hsz36 A1 c1 l1 8 (wrap64 ((l1.length : Int) - 4)) (by omega) (by first | omega | exact of_decide_eq_true (by first | (with_reducible assumption) | assumption)) (of_decide_eq_true (by first | (with_reducible assumption) | assumption)) HC1.out
                      have HR113 := Aside0.mk (Kd.C_of_reads (h1 := fun _ => rfl) (hA36 _ (Kd.reads_of_C HR1.out)))
                      have HC113 := Aside0.mk hC36
                      clear hA36 hC36 hi036 hsz36
                      go_wp2_with (first | (go_at_call 22; refine calls_of_args (args' := #[.slice A36 ((l1.take ((wrap64 ((l1.length : Int) - 4)) : Int).toNat).drop 8).length (c1 - 8)]) (by first | (simp only [List.length_drop, List.length_take]; done) | (simp only [List.length_drop, List.length_take]; rfl) | rfl | (rw [show ((l1.take ((wrap64 ((l1.length : Int) - 4)) : Int).toNat).drop 8).length = ((wrap64 ((l1.length : Int) - 4)).toNat - 8) from (by rw [List.length_drop, List.length_take]; have h_ : ((wrap64 ((l1.length : Int) - 4)) : Int) ≤ (l1.length : Int) := of_decide_eq_true (by first | (with_reducible assumption) | assumption); omega)] <;> rfl) | rfl) ?_; (with_reducible refine (bytes_Clone.calls _ _ ((l1.take ((wrap64 ((l1.length : Int) - 4)) : Int).toNat).drop 8) t114 _ ?side1 ?side2 A35.out).mono ?_); (case side1 => repeat (first | exact (Kd.C_below HR113.out HB.out) | (with_reducible refine Kd.C_alloc ?_ _) | (with_reducible refine Kd.C_drewN ?_ _) | (with_reducible refine Kd.C_drew ?_))); (case side2 => exact HC113.out); rintro e w37 ⟨v115, rfl, ho0, hb⟩; have n0_ := Aside0.mk (Kd.R_lower ho0 (below_size (by repeat (first | (with_reducible first | exact HB.out | apply below_alloc | apply pw_below_drewN | apply below_drew1) | exact HB.out)))); have n1_ := Aside0.mk (below_step (by repeat (first | (with_reducible first | exact HB.out | apply below_alloc | apply pw_below_drewN | apply below_drew1) | exact HB.out)) hb); clear HB; have HO116 := n0_; have HB := n1_; clear n0_ n1_; (try clear hb); (try clear hb2); (try clear hk); (try clear hi); (try clear ho0)))
                      repeat (go_quiet (first | (go_at_call 22; refine calls_of_args (args' := #[.slice A36 ((l1.take ((wrap64 ((l1.length : Int) - 4)) : Int).toNat).drop 8).length (c1 - 8)]) (by first | (simp only [List.length_drop, List.length_take]; done) | (simp only [List.length_drop, List.length_take]; rfl) | rfl | (rw [show ((l1.take ((wrap64 ((l1.length : Int) - 4)) : Int).toNat).drop 8).length = ((wrap64 ((l1.length : Int) - 4)).toNat - 8) from (by rw [List.length_drop, List.length_take]; have h_ : ((wrap64 ((l1.length : Int) - 4)) : Int) ≤ (l1.length : Int) := of_decide_eq_true (by first | (with_reducible assumption) | assumption); omega)] <;> rfl) | rfl) ?_; (with_reducible refine (bytes_Clone.calls _ _ ((l1.take ((wrap64 ((l1.length : Int) - 4)) : Int).toNat).drop 8) t114 _ ?side1 ?side2 A35.out).mono ?_); (case side1 => repeat (first | exact (Kd.C_below HR113.out HB.out) | (with_reducible refine Kd.C_alloc ?_ _) | (with_reducible refine Kd.C_drewN ?_ _) | (with_reducible refine Kd.C_drew ?_))); (case side2 => exact HC113.out); rintro e w37 ⟨v115, rfl, ho0, hb⟩; have n0_ := Aside0.mk (Kd.R_lower ho0 (below_size (by repeat (first | (with_reducible first | exact HB.out | apply below_alloc | apply pw_below_drewN | apply below_drew1) | exact HB.out)))); have n1_ := Aside0.mk (below_step (by repeat (first | (with_reducible first | exact HB.out | apply below_alloc | apply pw_below_drewN | apply below_drew1) | exact HB.out)) hb); clear HB; have HO116 := n0_; have HB := n1_; clear n0_ n1_; (try clear hb); (try clear hb2); (try clear hk); (try clear hi); (try clear ho0))); try go_wp2_with (first | (go_at_call 22; refine calls_of_args (args' := #[.slice A36 ((l1.take ((wrap64 ((l1.length : Int) - 4)) : Int).toNat).drop 8).length (c1 - 8)]) (by first | (simp only [List.length_drop, List.length_take]; done) | (simp only [List.length_drop, List.length_take]; rfl) | rfl | (rw [show ((l1.take ((wrap64 ((l1.length : Int) - 4)) : Int).toNat).drop 8).length = ((wrap64 ((l1.length : Int) - 4)).toNat - 8) from (by rw [List.length_drop, List.length_take]; have h_ : ((wrap64 ((l1.length : Int) - 4)) : Int) ≤ (l1.length : Int) := of_decide_eq_true (by first | (with_reducible assumption) | assumption); omega)] <;> rfl) | rfl) ?_; (with_reducible refine (bytes_Clone.calls _ _ ((l1.take ((wrap64 ((l1.length : Int) - 4)) : Int).toNat).drop 8) t114 _ ?side1 ?side2 A35.out).mono ?_); (case side1 => repeat (first | exact (Kd.C_below HR113.out HB.out) | (with_reducible refine Kd.C_alloc ?_ _) | (with_reducible refine Kd.C_drewN ?_ _) | (with_reducible refine Kd.C_drew ?_))); (case side2 => exact HC113.out); rintro e w37 ⟨v115, rfl, ho0, hb⟩; have n0_ := Aside0.mk (Kd.R_lower ho0 (below_size (by repeat (first | (with_reducible first | exact HB.out | apply below_alloc | apply pw_below_drewN | apply below_drew1) | exact HB.out)))); have n1_ := Aside0.mk (below_step (by repeat (first | (with_reducible first | exact HB.out | apply below_alloc | apply pw_below_drewN | apply below_drew1) | exact HB.out)) hb); clear HB; have HO116 := n0_; have HB := n1_; clear n0_ n1_; (try clear hb); (try clear hb2); (try clear hk); (try clear hi); (try clear ho0))))
                      go_ret3
                      exact ⟨_, by first | rfl | (simp [errW_none, errW_some] <;> rfl) | (simp [*, errW_none, errW_some] <;> rfl), by (with_reducible repeat (first | apply Kd.R_alloc | apply Kd.R_drewN | apply Kd.R_drew)); exact HO116.out, by repeat (first | (with_reducible first | exact HB.out | apply below_alloc | apply pw_below_drewN | apply below_drew1) | exact HB.out)⟩
                    · rw [if_neg c34] at H
                      exact absurd H (by simp)
                  · rw [if_neg c33] at H
                    exact absurd H (by simp)
          · rw [if_neg c9] at H
            exact absurd H (by simp)
        · rw [if_neg c8] at H
          exact absurd H (by simp)

/-! ### aumbrylaw11_awake: function 9 -/
def aumbrylaw11_awake.j0 : Nat → List Int → Int → Int → List Int → Int → Int → Bool → Option (Bool)
  | 0, _, _, _, _, _, _, _ => none
  | k + 1, x1, x2, x3, x4, x5, x8, x33 => if x33 = true then (some false) else (if 3 < (x1.length : Int) then (if (rd x1 3) = 1 then (if 7 < (x1.length : Int) then (if (rd x1 7) = 2 then (if x2 = 0 then (if x3 = 2 then (if 0 < (x4.length : Int) then (if (rd x4 0) = 7 then (if x5 = 0 then (some (x8 == 110)) else (some false)) else (some false)) else (none)) else (some false)) else (some false)) else (some false)) else (none)) else (some false)) else (none))
def aumbrylaw11_awake.f (k : Nat)  : Option (Bool) := (sector_Pack.f k 1 2 (([7] : List Int))).bind fun bt120 => ((sector_Unpack.f k 1 bt120.1).bind fun bt124 => ((sector_Unpack.f k 2 bt120.1).bind fun bt129 => (if (bt120.1.length : Int) = 13 then (aumbrylaw11_awake.j0 k bt120.1 bt120.2 bt124.1 bt124.2.1 bt124.2.2 bt129.2.2 ((bt124.2.1.length : Int) != 1)) else (aumbrylaw11_awake.j0 k bt120.1 bt120.2 bt124.1 bt124.2.1 bt124.2.2 bt129.2.2 true))))
theorem aumbrylaw11_awake.mono_l : ∀ k, (∀ y0 y1 y2 y3 y4 y5 y6, LeO (aumbrylaw11_awake.j0 k y0 y1 y2 y3 y4 y5 y6) (aumbrylaw11_awake.j0 (k + 1) y0 y1 y2 y3 y4 y5 y6))
  | 0 => fun _ _ _ _ _ _ _ r h => by simp [aumbrylaw11_awake.j0] at h
  | k + 1 => by
    have ih0 := aumbrylaw11_awake.mono_l k
    · intro y0 y1 y2 y3 y4 y5 y6
      unfold aumbrylaw11_awake.j0
      repeat' first
      | (with_reducible exact ih0 _ _ _ _ _ _ _)
      | (with_reducible exact sector_Pack.mono _ _ _ _)
      | (with_reducible exact sector_Unpack.mono _ _ _)
      | (with_reducible exact LeO.refl _)
      | (with_reducible exact LeO.none _)
      | (with_reducible refine LeO.ite ?_ ?_)
      | (with_reducible refine LeO.bind ?_ (fun _ => ?_))
      | exact ih0 _ _ _ _ _ _ _
      | exact sector_Pack.mono _ _ _ _
      | exact sector_Unpack.mono _ _ _
      | exact LeO.none _
      | refine LeO.ite ?_ ?_
      | refine LeO.bind ?_ (fun _ => ?_)
theorem aumbrylaw11_awake.mono : ∀ k, LeO (aumbrylaw11_awake.f k ) (aumbrylaw11_awake.f (k + 1) ) := by
  intro  k
  have ih0 := aumbrylaw11_awake.mono_l k
  unfold aumbrylaw11_awake.f
  repeat' first
      | (with_reducible exact ih0 _ _ _ _ _ _ _)
      | (with_reducible exact sector_Pack.mono _ _ _ _)
      | (with_reducible exact sector_Unpack.mono _ _ _)
      | (with_reducible exact LeO.refl _)
      | (with_reducible exact LeO.none _)
      | (with_reducible refine LeO.ite ?_ ?_)
      | (with_reducible refine LeO.bind ?_ (fun _ => ?_))
      | exact ih0 _ _ _ _ _ _ _
      | exact sector_Pack.mono _ _ _ _
      | exact sector_Unpack.mono _ _ _
      | exact LeO.none _
      | refine LeO.ite ?_ ?_
      | refine LeO.bind ?_ (fun _ => ?_)
set_option maxHeartbeats 8000000 in
set_option maxRecDepth 100000 in
theorem aumbrylaw11_awake.calls (k : Nat)  (r : Bool) (w : World) (h : aumbrylaw11_awake.f k  = some r) :
    Calls Try.prog 9 #[] w fun e w' => e = .returned (.bool r) ∧ Below w.heap.size w w' := by
  have HB := Aside0.mk (Below.refl w.heap.size w)
  have H : ((sector_Pack.f k 1 2 (([7] : List Int))).bind fun bt120 => ((sector_Unpack.f k 1 bt120.1).bind fun bt124 => ((sector_Unpack.f k 2 bt120.1).bind fun bt129 => (if (bt120.1.length : Int) = 13 then (aumbrylaw11_awake.j0 k bt120.1 bt120.2 bt124.1 bt124.2.1 bt124.2.2 bt129.2.2 ((bt124.2.1.length : Int) != 1)) else (aumbrylaw11_awake.j0 k bt120.1 bt120.2 bt124.1 bt124.2.1 bt124.2.2 bt129.2.2 true))))) = some r := h
  clear h
  obtain ⟨y117, hy117⟩ : ∃ y_ : List Int, y_ = (([7] : List Int)) := ⟨_, rfl⟩
  replace H : ((sector_Pack.f k 1 2 y117).bind fun bt120 => ((sector_Unpack.f k 1 bt120.1).bind fun bt124 => ((sector_Unpack.f k 2 bt120.1).bind fun bt129 => (if (bt120.1.length : Int) = 13 then (aumbrylaw11_awake.j0 k bt120.1 bt120.2 bt124.1 bt124.2.1 bt124.2.2 bt129.2.2 ((bt124.2.1.length : Int) != 1)) else (aumbrylaw11_awake.j0 k bt120.1 bt120.2 bt124.1 bt124.2.1 bt124.2.2 bt129.2.2 true))))) = some r := by first | (rw [hy117]; with_reducible exact H) | (have H2_ := (Option.bind_some _ _).symm.trans H; rw [hy117]; with_reducible exact H2_) | (have H2_ := (Option.bind_some _ _).symm.trans H; with_reducible exact H2_) | with_reducible exact H | (rw [hy117]; exact H) | exact H
  have Ny117 := Aside0.mk hy117
  clear hy117
  replace H := Option.bind_eq_some_iff.mp H
  obtain ⟨⟨t120, t121⟩, A10, H⟩ := H
  replace H : ((sector_Unpack.f k 1 t120).bind fun bt124 => ((sector_Unpack.f k 2 t120).bind fun bt129 => (if (t120.length : Int) = 13 then (aumbrylaw11_awake.j0 k t120 t121 bt124.1 bt124.2.1 bt124.2.2 bt129.2.2 ((bt124.2.1.length : Int) != 1)) else (aumbrylaw11_awake.j0 k t120 t121 bt124.1 bt124.2.1 bt124.2.2 bt129.2.2 true)))) = some r := H
  have A1 := Aside0.mk A10
  clear A10
  replace H := Option.bind_eq_some_iff.mp H
  obtain ⟨⟨t124, t125, t126⟩, A20, H⟩ := H
  replace H : ((sector_Unpack.f k 2 t120).bind fun bt129 => (if (t120.length : Int) = 13 then (aumbrylaw11_awake.j0 k t120 t121 t124 t125 t126 bt129.2.2 ((t125.length : Int) != 1)) else (aumbrylaw11_awake.j0 k t120 t121 t124 t125 t126 bt129.2.2 true))) = some r := H
  have A2 := Aside0.mk A20
  clear A20
  replace H := Option.bind_eq_some_iff.mp H
  obtain ⟨⟨t129, t130, t131⟩, A30, H⟩ := H
  replace H : (if (t120.length : Int) = 13 then (aumbrylaw11_awake.j0 k t120 t121 t124 t125 t126 t131 ((t125.length : Int) != 1)) else (aumbrylaw11_awake.j0 k t120 t121 t124 t125 t126 t131 true)) = some r := H
  have A3 := Aside0.mk A30
  clear A30
  have HC4 := Aside0.mk H
  clear H
  go_enter Try.func9, Try.ntmps9
  go_upto_region 4 with (first | ((with_reducible refine gate_dst (N := 10) rfl ?_); (try (refine gate_guard (by rfl) ?_; dsimp only)); refine Kd.R_lit (Kd.int .u8) _ 5 ?hg (N := 10) ?hd (xs := ([7] : List Int)) (inner := [.int .u8 7]) (ok := fun _ => True) (okp := fun _ => True) ?hr ?hp (fun _ hk => hk) trivial (Below.refl _ _) (Nat.le_refl _) (by simp) ?_; (case hd => rfl); (case hg => rfl); (case hr => first | (go_simp; done) | (go_simp; rfl)); (case hp => exact (Reps.one (show Kd.M (Kd.int .u8) _ _ _ 7 [.int .u8 7] from rfl) (Reps.none _ _))); intro v118 w5 ho6 hb hg_ hnew_; clear hg_ hnew_; (first | rw [← Ny117.out] at ho6 | (simp only [Int.reduceToNat] at ho6; rw [← Ny117.out] at ho6)); have n0_ := Aside0.mk (Kd.R_lower ho6 (below_size (by repeat (first | (with_reducible first | exact HB.out | apply below_alloc | apply pw_below_drewN | apply below_drew1) | exact HB.out)))); have n1_ := Aside0.mk (below_step (by repeat (first | (with_reducible first | exact HB.out | apply below_alloc | apply pw_below_drewN | apply below_drew1) | exact HB.out)) hb); clear HB; have HO119 := n0_; have HB := n1_; clear n0_ n1_; clear hb ho6; obtain ⟨Ao7, co7, eo7⟩ := Kd.R_slice HO119.out; subst eo7) | ((with_reducible refine gate_callee (f := 10) rfl ?_); refine goesL_ (some 11) rfl rfl Try.func10 (by kernel_rfl) rfl #[.int .i64 1, .int .i64 2, .slice Ao7 y117.length co7] rfl (by (try simp only [List.map_toArray, List.map_cons, List.map_nil]); first | done | rfl | (simp only [List.length_drop, List.length_take]; rfl)) ?_; (with_reducible refine (sector_Pack.calls k 1 2 _ _ y117 t120 t121 _ ?side1 ?side2 A1.out).mono ?_); (case side1 => repeat (first | exact (Kd.R_reads' HO119.out).2.2 | (with_reducible refine Kd.C_alloc ?_ _) | (with_reducible refine Kd.C_drewN ?_ _) | (with_reducible refine Kd.C_drew ?_))); (case side2 => exact (Kd.R_reads' HO119.out).2.1); rintro e w8 ⟨v122, rfl, ho0, hb⟩; refine ⟨_, rfl, ?_⟩; have n0_ := Aside0.mk (Kd.R_elder' (by (with_reducible repeat (first | apply Kd.R_alloc | apply Kd.R_drewN | apply Kd.R_drew)); exact HO119.out) (Kd.R_base ho0) hb); have n1_ := Aside0.mk (Kd.R_lower (Kd.R_new' ho0 (Kd.R_lt (by (with_reducible repeat (first | apply Kd.R_alloc | apply Kd.R_drewN | apply Kd.R_drew)); exact HO119.out))) (below_size (by repeat (first | (with_reducible first | exact HB.out | apply below_alloc | apply pw_below_drewN | apply below_drew1) | exact HB.out)))); have n2_ := Aside0.mk (below_step (by repeat (first | (with_reducible first | exact HB.out | apply below_alloc | apply pw_below_drewN | apply below_drew1) | exact HB.out)) hb); clear HO119; clear HB; have HO119 := n0_; have HO123 := n1_; have HB := n2_; clear n0_ n1_ n2_; (try clear hb); (try clear hb2); (try clear hk); (try clear hi); (try clear ho0); obtain ⟨Ao9, co9, eo9⟩ := Kd.R_slice HO123.out; subst eo9) | ((with_reducible refine gate_callee (f := 12) rfl ?_); refine goesL_ (some 16) rfl rfl Try.func12 (by kernel_rfl) rfl #[.int .i64 1, .slice Ao9 t120.length co9] rfl (by (try simp only [List.map_toArray, List.map_cons, List.map_nil]); first | done | rfl | (simp only [List.length_drop, List.length_take]; rfl)) ?_; (with_reducible refine (sector_Unpack.calls k 1 _ _ t120 t124 t125 t126 _ ?side1 ?side2 A2.out).mono ?_); (case side1 => repeat (first | exact (Kd.R_reads' HO123.out).2.2 | (with_reducible refine Kd.C_alloc ?_ _) | (with_reducible refine Kd.C_drewN ?_ _) | (with_reducible refine Kd.C_drew ?_))); (case side2 => exact (Kd.R_reads' HO123.out).2.1); rintro e w10 ⟨v127, rfl, ho0, hb⟩; refine ⟨_, rfl, ?_⟩; have n0_ := Aside0.mk (Kd.R_elder' (by (with_reducible repeat (first | apply Kd.R_alloc | apply Kd.R_drewN | apply Kd.R_drew)); exact HO119.out) (Kd.R_base ho0) hb); have n1_ := Aside0.mk (Kd.R_elder' (by (with_reducible repeat (first | apply Kd.R_alloc | apply Kd.R_drewN | apply Kd.R_drew)); exact HO123.out) (Kd.R_base ho0) hb); have n2_ := Aside0.mk (Kd.R_lower (Kd.R_new' (Kd.R_new' ho0 (Kd.R_lt (by (with_reducible repeat (first | apply Kd.R_alloc | apply Kd.R_drewN | apply Kd.R_drew)); exact HO119.out))) (Kd.R_lt (by (with_reducible repeat (first | apply Kd.R_alloc | apply Kd.R_drewN | apply Kd.R_drew)); exact HO123.out))) (below_size (by repeat (first | (with_reducible first | exact HB.out | apply below_alloc | apply pw_below_drewN | apply below_drew1) | exact HB.out)))); have n3_ := Aside0.mk (below_step (by repeat (first | (with_reducible first | exact HB.out | apply below_alloc | apply pw_below_drewN | apply below_drew1) | exact HB.out)) hb); clear HO119; clear HO123; clear HB; have HO119 := n0_; have HO123 := n1_; have HO128 := n2_; have HB := n3_; clear n0_ n1_ n2_ n3_; (try clear hb); (try clear hb2); (try clear hk); (try clear hi); (try clear ho0)) | ((with_reducible refine gate_callee (f := 12) rfl ?_); refine goesL_ (some 22) rfl rfl Try.func12 (by kernel_rfl) rfl #[.int .i64 2, .slice Ao9 t120.length co9] rfl (by (try simp only [List.map_toArray, List.map_cons, List.map_nil]); first | done | rfl | (simp only [List.length_drop, List.length_take]; rfl)) ?_; (with_reducible refine (sector_Unpack.calls k 2 _ _ t120 t129 t130 t131 _ ?side1 ?side2 A3.out).mono ?_); (case side1 => repeat (first | exact (Kd.R_reads' HO123.out).2.2 | (with_reducible refine Kd.C_alloc ?_ _) | (with_reducible refine Kd.C_drewN ?_ _) | (with_reducible refine Kd.C_drew ?_))); (case side2 => exact (Kd.R_reads' HO123.out).2.1); rintro e w11 ⟨v132, rfl, ho0, hb⟩; refine ⟨_, rfl, ?_⟩; have n0_ := Aside0.mk (Kd.R_elder' (by (with_reducible repeat (first | apply Kd.R_alloc | apply Kd.R_drewN | apply Kd.R_drew)); exact HO119.out) (Kd.R_base ho0) hb); have n1_ := Aside0.mk (Kd.R_elder' (by (with_reducible repeat (first | apply Kd.R_alloc | apply Kd.R_drewN | apply Kd.R_drew)); exact HO123.out) (Kd.R_base ho0) hb); have n2_ := Aside0.mk (Kd.R_elder' (by (with_reducible repeat (first | apply Kd.R_alloc | apply Kd.R_drewN | apply Kd.R_drew)); exact HO128.out) (Kd.R_base ho0) hb); have n3_ := Aside0.mk (Kd.R_lower (Kd.R_new' (Kd.R_new' (Kd.R_new' ho0 (Kd.R_lt (by (with_reducible repeat (first | apply Kd.R_alloc | apply Kd.R_drewN | apply Kd.R_drew)); exact HO119.out))) (Kd.R_lt (by (with_reducible repeat (first | apply Kd.R_alloc | apply Kd.R_drewN | apply Kd.R_drew)); exact HO123.out))) (Kd.R_lt (by (with_reducible repeat (first | apply Kd.R_alloc | apply Kd.R_drewN | apply Kd.R_drew)); exact HO128.out))) (below_size (by repeat (first | (with_reducible first | exact HB.out | apply below_alloc | apply pw_below_drewN | apply below_drew1) | exact HB.out)))); have n4_ := Aside0.mk (below_step (by repeat (first | (with_reducible first | exact HB.out | apply below_alloc | apply pw_below_drewN | apply below_drew1) | exact HB.out)) hb); clear HO119; clear HO123; clear HO128; clear HB; have HO119 := n0_; have HO123 := n1_; have HO128 := n2_; have HO133 := n3_; have HB := n4_; clear n0_ n1_ n2_ n3_ n4_; (try clear hb); (try clear hb2); (try clear hk); (try clear hi); (try clear ho0)))
  (try simp only [Act.put, List.setIfInBounds_toArray, List.set_cons_zero, List.set_cons_succ])
  go_cut [33] (fun v33 wc => ∃ (kq : Nat) (x33_3 : Bool), v33 = .bool x33_3 ∧ Aside0 (aumbrylaw11_awake.j0 kq t120 t121 t124 t125 t126 t131 x33_3 = some r) ∧ Aside0 (kq ≤ k) ∧ Aside0 (Kd.R (Kd.int .u8) 5 wc w.heap.size (fun k_ => some k_ ≠ (v127 : Value).ownBlock) (.slice Ao9 t120.length co9) t120) ∧ Aside0 (Kd.R (Kd.int .u8) 5 wc w.heap.size (fun k_ => some k_ ≠ ((.slice Ao9 t120.length co9) : Value).ownBlock) v127 t125) ∧ Aside0 (Below w.heap.size w wc))
  case first =>
    have H := HC4.out
    clear HC4
    by_cases c12 : (t120.length : Int) = 13
    · rw [if_pos c12] at H
      have c12b0 : ((t120.length : Int) == 13) = true := beq_iff_eq.mpr c12
      have c12b1 : ((t120.length : Int) != 13) = false := bne_eq_false_iff_eq.mpr c12
      clear c12
      (first | rw [c12b0] | (simp only [i64_w, i32_w]; rw [c12b0]) | skip)
      have H' := Aside0.mk H
      clear H
      obtain ⟨Ao13, co13, eo13⟩ := Kd.R_slice HO128.out
      subst eo13
      go_wp2
      go_meet
      case rel => exact ⟨_, (((t125.length : Int) != 1)), (by first | rfl | (simp; done) | (simp [*]; done)), H', ⟨by first | omega | exact Nat.le_refl _⟩, ⟨by (with_reducible repeat (first | apply Kd.R_alloc | apply Kd.R_drewN | apply Kd.R_drew)); exact Kd.R_mono HO123.out (fun _ hk => hk.1.2)⟩, ⟨by (with_reducible repeat (first | apply Kd.R_alloc | apply Kd.R_drewN | apply Kd.R_drew)); exact Kd.R_mono HO128.out (fun _ hk => hk.1.2)⟩, ⟨by repeat (first | (with_reducible first | exact HB.out | apply below_alloc | apply pw_below_drewN | apply below_drew1) | exact HB.out)⟩⟩
    · rw [if_neg c12] at H
      have c12b0 : ((t120.length : Int) == 13) = false := beq_eq_false_iff_ne.mpr c12
      have c12b1 : ((t120.length : Int) != 13) = true := bne_iff_ne.mpr c12
      (first | rw [c12b0] | (simp only [i64_w, i32_w]; rw [c12b0]) | skip)
      have H' := Aside0.mk H
      clear H
      go_wp2
      go_meet
      case rel => exact ⟨_, (true), (by first | rfl | (simp; done) | (simp [*]; done)), H', ⟨by first | omega | exact Nat.le_refl _⟩, ⟨by (with_reducible repeat (first | apply Kd.R_alloc | apply Kd.R_drewN | apply Kd.R_drew)); exact Kd.R_mono HO123.out (fun _ hk => hk.1.2)⟩, ⟨by (with_reducible repeat (first | apply Kd.R_alloc | apply Kd.R_drewN | apply Kd.R_drew)); exact Kd.R_mono HO128.out (fun _ hk => hk.1.2)⟩, ⟨by repeat (first | (with_reducible first | exact HB.out | apply below_alloc | apply pw_below_drewN | apply below_drew1) | exact HB.out)⟩⟩
  case rest =>
    clear HC4
    try clear c1
    try clear p2
    try clear c9
    try clear c10
    try clear c12
    try clear c12b0
    try clear c12b1
    obtain ⟨kq, x33_3, rfl, HA, HJ3, HO_1, HO_4, HB⟩ := hcut
    cases kq with
    | zero => exact absurd HA.out (by simp [aumbrylaw11_awake.j0])
    | succ kj3 =>
      have H := HA.out
      clear HA
      simp only [aumbrylaw11_awake.j0] at H
      by_cases c14 : x33_3 = true
      · subst c14
        have H1 : (some false) = some r := by rw [if_pos rfl] at H; exact H
        clear H
        have H := H1
        clear H1
        obtain rfl := Option.some.inj H
        go_wp2
        go_ret
        exact ⟨by first | rfl | (simp [errW_none, errW_some] <;> rfl) | (simp [*, errW_none, errW_some] <;> rfl), by repeat (first | (with_reducible first | exact HB.out | apply below_alloc | apply pw_below_drewN | apply below_drew1) | exact HB.out)⟩
      · replace c14 := Bool.eq_false_iff.mpr c14
        subst c14
        have H1 : (if 3 < (t120.length : Int) then (if (rd t120 3) = 1 then (if 7 < (t120.length : Int) then (if (rd t120 7) = 2 then (if t121 = 0 then (if t124 = 2 then (if 0 < (t125.length : Int) then (if (rd t125 0) = 7 then (if t126 = 0 then (some (t131 == 110)) else (some false)) else (some false)) else (none)) else (some false)) else (some false)) else (some false)) else (none)) else (some false)) else (none)) = some r := by rw [if_neg (show ¬ (false = true) by decide)] at H; exact H
        clear H
        have H := H1
        clear H1
        by_cases c15 : 3 < (t120.length : Int)
        · rw [if_pos c15] at H
          have c15b0 : decide (3 < (t120.length : Int)) = true := decide_eq_true c15
          have c15b1 : decide (3 < t120.length) = true := decide_eq_true (by omega)
          clear c15
          by_cases c16 : (rd t120 3) = 1
          · rw [if_pos c16] at H
            have c16b0 : ((rd t120 3) == 1) = true := beq_iff_eq.mpr c16
            have c16b1 : ((rd t120 3) != 1) = false := bne_eq_false_iff_eq.mpr c16
            clear c16
            by_cases c17 : 7 < (t120.length : Int)
            · rw [if_pos c17] at H
              have c17b0 : decide (7 < (t120.length : Int)) = true := decide_eq_true c17
              have c17b1 : decide (7 < t120.length) = true := decide_eq_true (by omega)
              clear c17
              by_cases c18 : (rd t120 7) = 2
              · rw [if_pos c18] at H
                have c18b0 : ((rd t120 7) == 2) = true := beq_iff_eq.mpr c18
                have c18b1 : ((rd t120 7) != 2) = false := bne_eq_false_iff_eq.mpr c18
                clear c18
                by_cases c19 : t121 = 0
                · rw [if_pos c19] at H
                  have c19b0 : (t121 == 0) = true := beq_iff_eq.mpr c19
                  have c19b1 : (t121 != 0) = false := bne_eq_false_iff_eq.mpr c19
                  clear c19
                  by_cases c20 : t124 = 2
                  · rw [if_pos c20] at H
                    have c20b0 : (t124 == 2) = true := beq_iff_eq.mpr c20
                    have c20b1 : (t124 != 2) = false := bne_eq_false_iff_eq.mpr c20
                    clear c20
                    by_cases c21 : 0 < (t125.length : Int)
                    · rw [if_pos c21] at H
                      have c21b0 : decide (0 < (t125.length : Int)) = true := decide_eq_true c21
                      have c21b1 : decide (0 < t125.length) = true := decide_eq_true (by omega)
                      clear c21
                      by_cases c22 : (rd t125 0) = 7
                      · rw [if_pos c22] at H
                        have c22b0 : ((rd t125 0) == 7) = true := beq_iff_eq.mpr c22
                        have c22b1 : ((rd t125 0) != 7) = false := bne_eq_false_iff_eq.mpr c22
                        clear c22
                        by_cases c23 : t126 = 0
                        · rw [if_pos c23] at H
                          have c23b0 : (t126 == 0) = true := beq_iff_eq.mpr c23
                          have c23b1 : (t126 != 0) = false := bne_eq_false_iff_eq.mpr c23
                          clear c23
                          obtain rfl := Option.some.inj H
                          have p134 : 0 ≤ (3 : Int) := (by omega)
                          have q134 : 3 < (t120.length : Int) := of_decide_eq_true (by first | (with_reducible assumption) | assumption)
                          obtain ⟨ad134, e134, hx134_0⟩ := Kd.at_int (Kd.R_reads' HO_1.out).2.2 3 p134 q134
                          cases e134
                          (try simp only [show (3 : Int).toNat = 3 from rfl, Nat.reduceMul, Nat.reduceEqDiff, Go.Addr.add, ↓reduceIte] at hx134_0)
                          have qi134 : (3 < t120.length) = True := eq_true (by omega)
                          (try rw [show ((3 : Int)).toNat = 3 from rfl] at hx134_0)
                          replace p134 := eq_true p134
                          replace q134 := eq_true q134
                          have p135 : 0 ≤ (7 : Int) := (by omega)
                          have q135 : 7 < (t120.length : Int) := of_decide_eq_true (by first | (with_reducible assumption) | assumption)
                          obtain ⟨ad135, e135, hx135_0⟩ := Kd.at_int (Kd.R_reads' HO_1.out).2.2 7 p135 q135
                          obtain rfl : ad134 = ad135 := (by injection e135)
                          (try simp only [show (7 : Int).toNat = 7 from rfl, Nat.reduceMul, Nat.reduceEqDiff, Go.Addr.add, ↓reduceIte] at hx135_0)
                          have qi135 : (7 < t120.length) = True := eq_true (by omega)
                          (try rw [show ((7 : Int)).toNat = 7 from rfl] at hx135_0)
                          replace p135 := eq_true p135
                          replace q135 := eq_true q135
                          obtain ⟨Ao24, co24, eo24⟩ := Kd.R_slice HO_4.out
                          subst eo24
                          have p136 : 0 ≤ (0 : Int) := (by omega)
                          have q136 : 0 < (t125.length : Int) := of_decide_eq_true (by first | (with_reducible assumption) | assumption)
                          obtain ⟨ad136, e136, hx136_0⟩ := Kd.at_int (Kd.R_reads' HO_4.out).2.2 0 p136 q136
                          cases e136
                          have qi136 : (0 < t125.length) = True := eq_true (by omega)
                          (try rw [show ((0 : Int)).toNat = 0 from rfl] at hx136_0)
                          (try rw [Addr.add_zero'] at hx136_0)
                          replace p136 := eq_true p136
                          replace q136 := eq_true q136
                          go_wp2
                          go_ret
                          exact ⟨by first | rfl | (simp [errW_none, errW_some] <;> rfl) | (simp [*, errW_none, errW_some] <;> rfl), by repeat (first | (with_reducible first | exact HB.out | apply below_alloc | apply pw_below_drewN | apply below_drew1) | exact HB.out)⟩
                        · rw [if_neg c23] at H
                          have c23b0 : (t126 == 0) = false := beq_eq_false_iff_ne.mpr c23
                          have c23b1 : (t126 != 0) = true := bne_iff_ne.mpr c23
                          obtain rfl := Option.some.inj H
                          have p134 : 0 ≤ (3 : Int) := (by omega)
                          have q134 : 3 < (t120.length : Int) := of_decide_eq_true (by first | (with_reducible assumption) | assumption)
                          obtain ⟨ad134, e134, hx134_0⟩ := Kd.at_int (Kd.R_reads' HO_1.out).2.2 3 p134 q134
                          cases e134
                          (try simp only [show (3 : Int).toNat = 3 from rfl, Nat.reduceMul, Nat.reduceEqDiff, Go.Addr.add, ↓reduceIte] at hx134_0)
                          have qi134 : (3 < t120.length) = True := eq_true (by omega)
                          (try rw [show ((3 : Int)).toNat = 3 from rfl] at hx134_0)
                          replace p134 := eq_true p134
                          replace q134 := eq_true q134
                          have p135 : 0 ≤ (7 : Int) := (by omega)
                          have q135 : 7 < (t120.length : Int) := of_decide_eq_true (by first | (with_reducible assumption) | assumption)
                          obtain ⟨ad135, e135, hx135_0⟩ := Kd.at_int (Kd.R_reads' HO_1.out).2.2 7 p135 q135
                          obtain rfl : ad134 = ad135 := (by injection e135)
                          (try simp only [show (7 : Int).toNat = 7 from rfl, Nat.reduceMul, Nat.reduceEqDiff, Go.Addr.add, ↓reduceIte] at hx135_0)
                          have qi135 : (7 < t120.length) = True := eq_true (by omega)
                          (try rw [show ((7 : Int)).toNat = 7 from rfl] at hx135_0)
                          replace p135 := eq_true p135
                          replace q135 := eq_true q135
                          obtain ⟨Ao25, co25, eo25⟩ := Kd.R_slice HO_4.out
                          subst eo25
                          have p136 : 0 ≤ (0 : Int) := (by omega)
                          have q136 : 0 < (t125.length : Int) := of_decide_eq_true (by first | (with_reducible assumption) | assumption)
                          obtain ⟨ad136, e136, hx136_0⟩ := Kd.at_int (Kd.R_reads' HO_4.out).2.2 0 p136 q136
                          cases e136
                          have qi136 : (0 < t125.length) = True := eq_true (by omega)
                          (try rw [show ((0 : Int)).toNat = 0 from rfl] at hx136_0)
                          (try rw [Addr.add_zero'] at hx136_0)
                          replace p136 := eq_true p136
                          replace q136 := eq_true q136
                          go_wp2
                          go_ret
                          exact ⟨by first | rfl | (simp [errW_none, errW_some] <;> rfl) | (simp [*, errW_none, errW_some] <;> rfl), by repeat (first | (with_reducible first | exact HB.out | apply below_alloc | apply pw_below_drewN | apply below_drew1) | exact HB.out)⟩
                      · rw [if_neg c22] at H
                        have c22b0 : ((rd t125 0) == 7) = false := beq_eq_false_iff_ne.mpr c22
                        have c22b1 : ((rd t125 0) != 7) = true := bne_iff_ne.mpr c22
                        obtain rfl := Option.some.inj H
                        have p134 : 0 ≤ (3 : Int) := (by omega)
                        have q134 : 3 < (t120.length : Int) := of_decide_eq_true (by first | (with_reducible assumption) | assumption)
                        obtain ⟨ad134, e134, hx134_0⟩ := Kd.at_int (Kd.R_reads' HO_1.out).2.2 3 p134 q134
                        cases e134
                        (try simp only [show (3 : Int).toNat = 3 from rfl, Nat.reduceMul, Nat.reduceEqDiff, Go.Addr.add, ↓reduceIte] at hx134_0)
                        have qi134 : (3 < t120.length) = True := eq_true (by omega)
                        (try rw [show ((3 : Int)).toNat = 3 from rfl] at hx134_0)
                        replace p134 := eq_true p134
                        replace q134 := eq_true q134
                        have p135 : 0 ≤ (7 : Int) := (by omega)
                        have q135 : 7 < (t120.length : Int) := of_decide_eq_true (by first | (with_reducible assumption) | assumption)
                        obtain ⟨ad135, e135, hx135_0⟩ := Kd.at_int (Kd.R_reads' HO_1.out).2.2 7 p135 q135
                        obtain rfl : ad134 = ad135 := (by injection e135)
                        (try simp only [show (7 : Int).toNat = 7 from rfl, Nat.reduceMul, Nat.reduceEqDiff, Go.Addr.add, ↓reduceIte] at hx135_0)
                        have qi135 : (7 < t120.length) = True := eq_true (by omega)
                        (try rw [show ((7 : Int)).toNat = 7 from rfl] at hx135_0)
                        replace p135 := eq_true p135
                        replace q135 := eq_true q135
                        obtain ⟨Ao26, co26, eo26⟩ := Kd.R_slice HO_4.out
                        subst eo26
                        have p136 : 0 ≤ (0 : Int) := (by omega)
                        have q136 : 0 < (t125.length : Int) := of_decide_eq_true (by first | (with_reducible assumption) | assumption)
                        obtain ⟨ad136, e136, hx136_0⟩ := Kd.at_int (Kd.R_reads' HO_4.out).2.2 0 p136 q136
                        cases e136
                        have qi136 : (0 < t125.length) = True := eq_true (by omega)
                        (try rw [show ((0 : Int)).toNat = 0 from rfl] at hx136_0)
                        (try rw [Addr.add_zero'] at hx136_0)
                        replace p136 := eq_true p136
                        replace q136 := eq_true q136
                        go_wp2
                        go_ret
                        exact ⟨by first | rfl | (simp [errW_none, errW_some] <;> rfl) | (simp [*, errW_none, errW_some] <;> rfl), by repeat (first | (with_reducible first | exact HB.out | apply below_alloc | apply pw_below_drewN | apply below_drew1) | exact HB.out)⟩
                    · rw [if_neg c21] at H
                      exact absurd H (by simp)
                  · rw [if_neg c20] at H
                    have c20b0 : (t124 == 2) = false := beq_eq_false_iff_ne.mpr c20
                    have c20b1 : (t124 != 2) = true := bne_iff_ne.mpr c20
                    obtain rfl := Option.some.inj H
                    have p134 : 0 ≤ (3 : Int) := (by omega)
                    have q134 : 3 < (t120.length : Int) := of_decide_eq_true (by first | (with_reducible assumption) | assumption)
                    obtain ⟨ad134, e134, hx134_0⟩ := Kd.at_int (Kd.R_reads' HO_1.out).2.2 3 p134 q134
                    cases e134
                    (try simp only [show (3 : Int).toNat = 3 from rfl, Nat.reduceMul, Nat.reduceEqDiff, Go.Addr.add, ↓reduceIte] at hx134_0)
                    have qi134 : (3 < t120.length) = True := eq_true (by omega)
                    (try rw [show ((3 : Int)).toNat = 3 from rfl] at hx134_0)
                    replace p134 := eq_true p134
                    replace q134 := eq_true q134
                    have p135 : 0 ≤ (7 : Int) := (by omega)
                    have q135 : 7 < (t120.length : Int) := of_decide_eq_true (by first | (with_reducible assumption) | assumption)
                    obtain ⟨ad135, e135, hx135_0⟩ := Kd.at_int (Kd.R_reads' HO_1.out).2.2 7 p135 q135
                    obtain rfl : ad134 = ad135 := (by injection e135)
                    (try simp only [show (7 : Int).toNat = 7 from rfl, Nat.reduceMul, Nat.reduceEqDiff, Go.Addr.add, ↓reduceIte] at hx135_0)
                    have qi135 : (7 < t120.length) = True := eq_true (by omega)
                    (try rw [show ((7 : Int)).toNat = 7 from rfl] at hx135_0)
                    replace p135 := eq_true p135
                    replace q135 := eq_true q135
                    go_wp2
                    go_ret
                    exact ⟨by first | rfl | (simp [errW_none, errW_some] <;> rfl) | (simp [*, errW_none, errW_some] <;> rfl), by repeat (first | (with_reducible first | exact HB.out | apply below_alloc | apply pw_below_drewN | apply below_drew1) | exact HB.out)⟩
                · rw [if_neg c19] at H
                  have c19b0 : (t121 == 0) = false := beq_eq_false_iff_ne.mpr c19
                  have c19b1 : (t121 != 0) = true := bne_iff_ne.mpr c19
                  obtain rfl := Option.some.inj H
                  have p134 : 0 ≤ (3 : Int) := (by omega)
                  have q134 : 3 < (t120.length : Int) := of_decide_eq_true (by first | (with_reducible assumption) | assumption)
                  obtain ⟨ad134, e134, hx134_0⟩ := Kd.at_int (Kd.R_reads' HO_1.out).2.2 3 p134 q134
                  cases e134
                  (try simp only [show (3 : Int).toNat = 3 from rfl, Nat.reduceMul, Nat.reduceEqDiff, Go.Addr.add, ↓reduceIte] at hx134_0)
                  have qi134 : (3 < t120.length) = True := eq_true (by omega)
                  (try rw [show ((3 : Int)).toNat = 3 from rfl] at hx134_0)
                  replace p134 := eq_true p134
                  replace q134 := eq_true q134
                  have p135 : 0 ≤ (7 : Int) := (by omega)
                  have q135 : 7 < (t120.length : Int) := of_decide_eq_true (by first | (with_reducible assumption) | assumption)
                  obtain ⟨ad135, e135, hx135_0⟩ := Kd.at_int (Kd.R_reads' HO_1.out).2.2 7 p135 q135
                  obtain rfl : ad134 = ad135 := (by injection e135)
                  (try simp only [show (7 : Int).toNat = 7 from rfl, Nat.reduceMul, Nat.reduceEqDiff, Go.Addr.add, ↓reduceIte] at hx135_0)
                  have qi135 : (7 < t120.length) = True := eq_true (by omega)
                  (try rw [show ((7 : Int)).toNat = 7 from rfl] at hx135_0)
                  replace p135 := eq_true p135
                  replace q135 := eq_true q135
                  go_wp2
                  go_ret
                  exact ⟨by first | rfl | (simp [errW_none, errW_some] <;> rfl) | (simp [*, errW_none, errW_some] <;> rfl), by repeat (first | (with_reducible first | exact HB.out | apply below_alloc | apply pw_below_drewN | apply below_drew1) | exact HB.out)⟩
              · rw [if_neg c18] at H
                have c18b0 : ((rd t120 7) == 2) = false := beq_eq_false_iff_ne.mpr c18
                have c18b1 : ((rd t120 7) != 2) = true := bne_iff_ne.mpr c18
                obtain rfl := Option.some.inj H
                have p134 : 0 ≤ (3 : Int) := (by omega)
                have q134 : 3 < (t120.length : Int) := of_decide_eq_true (by first | (with_reducible assumption) | assumption)
                obtain ⟨ad134, e134, hx134_0⟩ := Kd.at_int (Kd.R_reads' HO_1.out).2.2 3 p134 q134
                cases e134
                (try simp only [show (3 : Int).toNat = 3 from rfl, Nat.reduceMul, Nat.reduceEqDiff, Go.Addr.add, ↓reduceIte] at hx134_0)
                have qi134 : (3 < t120.length) = True := eq_true (by omega)
                (try rw [show ((3 : Int)).toNat = 3 from rfl] at hx134_0)
                replace p134 := eq_true p134
                replace q134 := eq_true q134
                have p135 : 0 ≤ (7 : Int) := (by omega)
                have q135 : 7 < (t120.length : Int) := of_decide_eq_true (by first | (with_reducible assumption) | assumption)
                obtain ⟨ad135, e135, hx135_0⟩ := Kd.at_int (Kd.R_reads' HO_1.out).2.2 7 p135 q135
                obtain rfl : ad134 = ad135 := (by injection e135)
                (try simp only [show (7 : Int).toNat = 7 from rfl, Nat.reduceMul, Nat.reduceEqDiff, Go.Addr.add, ↓reduceIte] at hx135_0)
                have qi135 : (7 < t120.length) = True := eq_true (by omega)
                (try rw [show ((7 : Int)).toNat = 7 from rfl] at hx135_0)
                replace p135 := eq_true p135
                replace q135 := eq_true q135
                go_wp2
                go_ret
                exact ⟨by first | rfl | (simp [errW_none, errW_some] <;> rfl) | (simp [*, errW_none, errW_some] <;> rfl), by repeat (first | (with_reducible first | exact HB.out | apply below_alloc | apply pw_below_drewN | apply below_drew1) | exact HB.out)⟩
            · rw [if_neg c17] at H
              exact absurd H (by simp)
          · rw [if_neg c16] at H
            have c16b0 : ((rd t120 3) == 1) = false := beq_eq_false_iff_ne.mpr c16
            have c16b1 : ((rd t120 3) != 1) = true := bne_iff_ne.mpr c16
            obtain rfl := Option.some.inj H
            have p134 : 0 ≤ (3 : Int) := (by omega)
            have q134 : 3 < (t120.length : Int) := of_decide_eq_true (by first | (with_reducible assumption) | assumption)
            obtain ⟨ad134, e134, hx134_0⟩ := Kd.at_int (Kd.R_reads' HO_1.out).2.2 3 p134 q134
            cases e134
            (try simp only [show (3 : Int).toNat = 3 from rfl, Nat.reduceMul, Nat.reduceEqDiff, Go.Addr.add, ↓reduceIte] at hx134_0)
            have qi134 : (3 < t120.length) = True := eq_true (by omega)
            (try rw [show ((3 : Int)).toNat = 3 from rfl] at hx134_0)
            replace p134 := eq_true p134
            replace q134 := eq_true q134
            go_wp2
            go_ret
            exact ⟨by first | rfl | (simp [errW_none, errW_some] <;> rfl) | (simp [*, errW_none, errW_some] <;> rfl), by repeat (first | (with_reducible first | exact HB.out | apply below_alloc | apply pw_below_drewN | apply below_drew1) | exact HB.out)⟩
        · rw [if_neg c15] at H
          exact absurd H (by simp)

/-! ### aumbrylaw11_SectorNames: function 3 -/
def aumbrylaw11_SectorNames.f (k : Nat)  : Option (Bool) := (aumbrylaw11_awake.f k).bind fun t137 => (if t137 = true then (some true) else (some false))
theorem aumbrylaw11_SectorNames.mono : ∀ k, LeO (aumbrylaw11_SectorNames.f k ) (aumbrylaw11_SectorNames.f (k + 1) ) := by
  intro  k
  unfold aumbrylaw11_SectorNames.f
  repeat' first
      | (with_reducible exact aumbrylaw11_awake.mono _)
      | (with_reducible exact LeO.refl _)
      | (with_reducible exact LeO.none _)
      | (with_reducible refine LeO.ite ?_ ?_)
      | (with_reducible refine LeO.bind ?_ (fun _ => ?_))
      | exact aumbrylaw11_awake.mono _
      | exact LeO.none _
      | refine LeO.ite ?_ ?_
      | refine LeO.bind ?_ (fun _ => ?_)
set_option maxHeartbeats 8000000 in
set_option maxRecDepth 100000 in
theorem aumbrylaw11_SectorNames.calls (k : Nat)  (r : Bool) (w : World) (h : aumbrylaw11_SectorNames.f k  = some r) :
    Calls Try.prog 3 #[] w fun e w' => e = .returned (.bool r) ∧ Below w.heap.size w w' := by
  have HB := Aside0.mk (Below.refl w.heap.size w)
  have H : ((aumbrylaw11_awake.f k).bind fun t137 => (if t137 = true then (some true) else (some false))) = some r := h
  clear h
  replace H := Option.bind_eq_some_iff.mp H
  obtain ⟨t137, A10, H⟩ := H
  replace H : (if t137 = true then (some true) else (some false)) = some r := H
  have A1 := Aside0.mk A10
  clear A10
  by_cases c2 : t137 = true
  · subst c2
    have H1 : (some true) = some r := by rw [if_pos rfl] at H; exact H
    clear H
    have H := H1
    clear H1
    obtain rfl := Option.some.inj H
    go_enter Try.func3, Try.ntmps3
    go_wp2_with (first | ((with_reducible refine gate_callee (f := 9) rfl ?_); refine goesL_ (some 2) rfl rfl Try.func9 (by kernel_rfl) rfl #[] rfl (by (try simp only [List.map_toArray, List.map_cons, List.map_nil]); first | done | rfl | (simp only [List.length_drop, List.length_take]; rfl)) ?_; (with_reducible refine (aumbrylaw11_awake.calls k  true _ A1.out).mono ?_); rintro e w3 ⟨rfl, hb⟩; refine ⟨_, rfl, ?_⟩; have n0_ := Aside0.mk (below_step (by repeat (first | (with_reducible first | exact HB.out | apply below_alloc | apply pw_below_drewN | apply below_drew1) | exact HB.out)) hb); clear HB; have HB := n0_; clear n0_; (try clear hb); (try clear hb2); (try clear hk); (try clear hi)))
    go_ret
    exact ⟨by first | rfl | (simp [errW_none, errW_some] <;> rfl) | (simp [*, errW_none, errW_some] <;> rfl), by repeat (first | (with_reducible first | exact HB.out | apply below_alloc | apply pw_below_drewN | apply below_drew1) | exact HB.out)⟩
  · replace c2 := Bool.eq_false_iff.mpr c2
    subst c2
    have H1 : (some false) = some r := by rw [if_neg (show ¬ (false = true) by decide)] at H; exact H
    clear H
    have H := H1
    clear H1
    obtain rfl := Option.some.inj H
    go_enter Try.func3, Try.ntmps3
    go_wp2_with (first | ((with_reducible refine gate_callee (f := 9) rfl ?_); refine goesL_ (some 2) rfl rfl Try.func9 (by kernel_rfl) rfl #[] rfl (by (try simp only [List.map_toArray, List.map_cons, List.map_nil]); first | done | rfl | (simp only [List.length_drop, List.length_take]; rfl)) ?_; (with_reducible refine (aumbrylaw11_awake.calls k  false _ A1.out).mono ?_); rintro e w4 ⟨rfl, hb⟩; refine ⟨_, rfl, ?_⟩; have n0_ := Aside0.mk (below_step (by repeat (first | (with_reducible first | exact HB.out | apply below_alloc | apply pw_below_drewN | apply below_drew1) | exact HB.out)) hb); clear HB; have HB := n0_; clear n0_; (try clear hb); (try clear hb2); (try clear hk); (try clear hi)))
    go_ret
    exact ⟨by first | rfl | (simp [errW_none, errW_some] <;> rfl) | (simp [*, errW_none, errW_some] <;> rfl), by repeat (first | (with_reducible first | exact HB.out | apply below_alloc | apply pw_below_drewN | apply below_drew1) | exact HB.out)⟩

/-- THE ONE PURE STATEMENT of aumbrylaw11_SectorNames: yours. -/
def aumbrylaw11_SectorNames.Pure : Prop := ∃ k, aumbrylaw11_SectorNames.f k  = some true
theorem aumbrylaw11_SectorNames.walk (P : aumbrylaw11_SectorNames.Pure)  (w : World)  :
    Calls Try.prog 3 #[] w fun e w' => e = .returned (.bool true) ∧ Below w.heap.size w w' := by
  obtain ⟨k, h⟩ := P  
  refine (aumbrylaw11_SectorNames.calls k  true w h).mono ?_
  rintro e w' ⟨rfl, hd⟩
  exact ⟨rfl, hd⟩

/-! ### aumbryref11_Four: function 19 -/
def aumbryref11_Four.f (a0 : Int) : Option (List Int) := some (([(a0 / 16777216) % 256, (a0 / 65536) % 256, (a0 / 256) % 256, (a0) % 256] : List Int))
set_option maxHeartbeats 8000000 in
set_option maxRecDepth 100000 in
theorem aumbryref11_Four.calls (a0 : Int) (r : List Int) (w : World) (h : aumbryref11_Four.f a0 = some r) :
    Calls Try.prog 19 #[.int .u32 a0] w fun e w' => ∃ v0_ : Value, e = .returned (v0_) ∧ Kd.R (Kd.int .u8) 5 w' w.heap.size (fun _ => True) v0_ r ∧ Below w.heap.size w w' := by
  have HB := Aside0.mk (Below.refl w.heap.size w)
  have H : (some (([(a0 / 16777216) % 256, (a0 / 65536) % 256, (a0 / 256) % 256, (a0) % 256] : List Int))) = some r := h
  clear h
  obtain ⟨y138, hy138⟩ : ∃ y_ : List Int, y_ = (([(a0 / 16777216) % 256, (a0 / 65536) % 256, (a0 / 256) % 256, (a0) % 256] : List Int)) := ⟨_, rfl⟩
  replace H : (some y138) = some r := by first | (rw [hy138]; with_reducible exact H) | (have H2_ := (Option.bind_some _ _).symm.trans H; rw [hy138]; with_reducible exact H2_) | (have H2_ := (Option.bind_some _ _).symm.trans H; with_reducible exact H2_) | with_reducible exact H | (rw [hy138]; exact H) | exact H
  have Ny138 := Aside0.mk hy138
  clear hy138
  obtain rfl := Option.some.inj H
  go_enter Try.func19, Try.ntmps19
  go_wp2_with (first | ((with_reducible refine gate_dst (N := 14) rfl ?_); refine Kd.R_lit (Kd.int .u8) _ 5 ?hg (N := 14) ?hd (xs := ([(a0 / 16777216) % 256, (a0 / 65536) % 256, (a0 / 256) % 256, (a0) % 256] : List Int)) (inner := [.int .u8 ((a0 / 16777216) % 256), .int .u8 ((a0 / 65536) % 256), .int .u8 ((a0 / 256) % 256), .int .u8 ((a0) % 256)]) (ok := fun _ => True) (okp := fun _ => True) ?hr ?hp (fun _ hk => hk) trivial (Below.refl _ _) (Nat.le_refl _) (by simp) ?_; (case hd => rfl); (case hg => rfl); (case hr => first | (go_simp; done) | (go_simp; rfl)); (case hp => exact (Reps.one (show Kd.M (Kd.int .u8) _ _ _ ((a0 / 16777216) % 256) [.int .u8 ((a0 / 16777216) % 256)] from rfl) (Reps.one (show Kd.M (Kd.int .u8) _ _ _ ((a0 / 65536) % 256) [.int .u8 ((a0 / 65536) % 256)] from rfl) (Reps.one (show Kd.M (Kd.int .u8) _ _ _ ((a0 / 256) % 256) [.int .u8 ((a0 / 256) % 256)] from rfl) (Reps.one (show Kd.M (Kd.int .u8) _ _ _ ((a0) % 256) [.int .u8 ((a0) % 256)] from rfl) (Reps.none _ _)))))); intro v139 w2 ho3 hb hg_ hnew_; clear hg_ hnew_; (first | rw [← Ny138.out] at ho3 | (simp only [Int.reduceToNat] at ho3; rw [← Ny138.out] at ho3)); have n0_ := Aside0.mk (Kd.R_lower ho3 (below_size (by repeat (first | (with_reducible first | exact HB.out | apply below_alloc | apply pw_below_drewN | apply below_drew1) | exact HB.out)))); have n1_ := Aside0.mk (below_step (by repeat (first | (with_reducible first | exact HB.out | apply below_alloc | apply pw_below_drewN | apply below_drew1) | exact HB.out)) hb); clear HB; have HO140 := n0_; have HB := n1_; clear n0_ n1_; clear hb ho3))
  go_ret
  exact ⟨_, by first | rfl | (simp [errW_none, errW_some] <;> rfl) | (simp [*, errW_none, errW_some] <;> rfl), by (with_reducible repeat (first | apply Kd.R_alloc | apply Kd.R_drewN | apply Kd.R_drew)); exact HO140.out, by repeat (first | (with_reducible first | exact HB.out | apply below_alloc | apply pw_below_drewN | apply below_drew1) | exact HB.out)⟩

end Go.Proofs.Ytlkdhcpiglonjaa.PAll
