-- LAID BY A PROGRAM OF THIS SESSION (wip/tools: the kit's print with changes of our own)
import Derived.Test.YtoeegdpkmdgkdaaPAllx0
import Derived.Test.YtoeegdpkmdgkdaaPAllx6
import Derived.Test.YtoeegdpkmdgkdaaPAllx7
import Derived.Test.YtoeegdpkmdgkdaaPAllx8
import Derived.Test.YtoeegdpkmdgkdaaPAllx15
import Derived.Test.YtoeegdpkmdgkdaaPAllx16
import Derived.Test.YtoeegdpkmdgkdaaPAllx17
import Derived.Test.YtoeegdpkmdgkdaaPAllx18
namespace Go.Proofs.Ytoeegdpkmdgkdaa.PAll
open Go.RowKit Go.Proofs.YtoeegdpkmdgkdaaW.PrintWords Go.Proofs.YtoeegdpkmdgkdaaW.PrintLast Go.Proofs.YtoeegdpkmdgkdaaW.PrintMore
attribute [local go_sem] min2_int min_two   -- for this text's walks alone
set_option linter.unusedVariables false
set_option linter.unusedSimpArgs false

/-! ### aumbrylaw16_RecordSnaps: function 6 -/
def aumbrylaw16_RecordSnaps.j0 : Nat → List (S61) → List (List Int) → Bool → Bool → Option (Bool)
 | 0, _, _, _, _ => none
 | k + 1, x0, x1, x5, x24 => if x24 = true then (some x5) else ((record_Snap.f k x0).bind fun bt452 => ((aumbryref16_Snap.f k x0).bind fun bt456 => ((record_Unsnap.f k x1).bind fun bt460 => ((aumbryref16_Unsnap.f k x1).bind fun bt464 => ((aumbryref16_Parts.f k bt452.1 bt456.1).bind fun t468 => ((aumbryref16_Objects.f k bt460.1 bt464.1).bind fun t469 => (if x5 = true then (if t468 = true then (if bt452.2 = bt456.2 then (if t469 = true then (some (bt460.2 == bt464.2)) else (some false)) else (some false)) else (some false)) else (some false))))))))
def aumbrylaw16_RecordSnaps.f (k : Nat) (l0 : List (S61)) (l1 : List (List Int)) : Option (Bool) := (aumbrylaw16_awake.f).bind fun t449 => ((aumbrylaw16_little.f k l0).bind fun t450 => (if t450 = true then ((aumbrylaw16_short.f k l1).bind fun t451 => (aumbrylaw16_RecordSnaps.j0 k l0 l1 t449 (!t451))) else (aumbrylaw16_RecordSnaps.j0 k l0 l1 t449 true)))
theorem aumbrylaw16_RecordSnaps.mono_l : ∀ k, (∀ y0 y1 y2 y3, LeO (aumbrylaw16_RecordSnaps.j0 k y0 y1 y2 y3) (aumbrylaw16_RecordSnaps.j0 (k + 1) y0 y1 y2 y3))
 | 0 => fun _ _ _ _ r h => by simp [aumbrylaw16_RecordSnaps.j0] at h
 | k + 1 => by
  have ih0 := aumbrylaw16_RecordSnaps.mono_l k
  ·intro y0 y1 y2 y3
   unfold aumbrylaw16_RecordSnaps.j0
   repeat' first
   | (with_reducible exact ih0 _ _ _ _)
   | (with_reducible exact aumbrylaw16_little.mono _ _)
   | (with_reducible exact aumbrylaw16_short.mono _ _)
   | (with_reducible exact aumbryref16_Objects.mono _ _ _)
   | (with_reducible exact aumbryref16_Parts.mono _ _ _)
   | (with_reducible exact aumbryref16_Snap.mono _ _)
   | (with_reducible exact aumbryref16_Unsnap.mono _ _)
   | (with_reducible exact record_Snap.mono _ _)
   | (with_reducible exact record_Unsnap.mono _ _)
   | (with_reducible exact LeO.refl _)
   | (with_reducible exact LeO.none _)
   | (with_reducible refine LeO.ite ?_ ?_)
   | (with_reducible refine LeO.bind ?_ (fun _ => ?_))
   | exact ih0 _ _ _ _
   | exact aumbrylaw16_little.mono _ _
   | exact aumbrylaw16_short.mono _ _
   | exact aumbryref16_Objects.mono _ _ _
   | exact aumbryref16_Parts.mono _ _ _
   | exact aumbryref16_Snap.mono _ _
   | exact aumbryref16_Unsnap.mono _ _
   | exact record_Snap.mono _ _
   | exact record_Unsnap.mono _ _
   | exact LeO.none _
   | refine LeO.ite ?_ ?_
   | refine LeO.bind ?_ (fun _ => ?_)
theorem aumbrylaw16_RecordSnaps.mono : ∀ a0 a1 k, LeO (aumbrylaw16_RecordSnaps.f k a0 a1) (aumbrylaw16_RecordSnaps.f (k + 1) a0 a1) := by
 intro a0 a1 k
 have ih0 := aumbrylaw16_RecordSnaps.mono_l k
 unfold aumbrylaw16_RecordSnaps.f
 repeat' first
   | (with_reducible exact ih0 _ _ _ _)
   | (with_reducible exact aumbrylaw16_little.mono _ _)
   | (with_reducible exact aumbrylaw16_short.mono _ _)
   | (with_reducible exact aumbryref16_Objects.mono _ _ _)
   | (with_reducible exact aumbryref16_Parts.mono _ _ _)
   | (with_reducible exact aumbryref16_Snap.mono _ _)
   | (with_reducible exact aumbryref16_Unsnap.mono _ _)
   | (with_reducible exact record_Snap.mono _ _)
   | (with_reducible exact record_Unsnap.mono _ _)
   | (with_reducible exact LeO.refl _)
   | (with_reducible exact LeO.none _)
   | (with_reducible refine LeO.ite ?_ ?_)
   | (with_reducible refine LeO.bind ?_ (fun _ => ?_))
   | exact ih0 _ _ _ _
   | exact aumbrylaw16_little.mono _ _
   | exact aumbrylaw16_short.mono _ _
   | exact aumbryref16_Objects.mono _ _ _
   | exact aumbryref16_Parts.mono _ _ _
   | exact aumbryref16_Snap.mono _ _
   | exact aumbryref16_Unsnap.mono _ _
   | exact record_Snap.mono _ _
   | exact record_Unsnap.mono _ _
   | exact LeO.none _
   | refine LeO.ite ?_ ?_
   | refine LeO.bind ?_ (fun _ => ?_)
set_option maxHeartbeats 8000000 in
set_option maxRecDepth 100000 in
theorem aumbrylaw16_RecordSnaps.calls (k : Nat) (A0 : Option Addr) (c0 : Nat) (l0 : List (S61)) (A1 : Option Addr) (c1 : Nat) (l1 : List (List Int)) (r : Bool) (hrt : Aside0 (r = true)) (w : World) (hr0 : Kd.C k61 w A0 l0.length l0) (hc0 : l0.length ≤ c0) (hr1 : Kd.C (Kd.slice 5 (Kd.int .u8)) w A1 l1.length l1) (hc1 : l1.length ≤ c1) (h : aumbrylaw16_RecordSnaps.f k l0 l1 = some r) :
  Calls Try.prog 6 #[.slice A0 l0.length c0, .slice A1 l1.length c1] w fun e w' => e = .returned (.bool r) ∧ Below w.heap.size w w' := by
 have HR0 := Aside0.mk hr0
 have HC0 := Aside0.mk hc0
 clear hr0 hc0
 have HR1 := Aside0.mk hr1
 have HC1 := Aside0.mk hc1
 clear hr1 hc1
 have HB := Aside0.mk (Below.refl w.heap.size w)
 have H : ((aumbrylaw16_awake.f).bind fun t449 => ((aumbrylaw16_little.f k l0).bind fun t450 => (if t450 = true then ((aumbrylaw16_short.f k l1).bind fun t451 => (aumbrylaw16_RecordSnaps.j0 k l0 l1 t449 (!t451))) else (aumbrylaw16_RecordSnaps.j0 k l0 l1 t449 true)))) = some r := h
 clear h
 replace H := Option.bind_eq_some_iff.mp H
 obtain ⟨t449, A30, H⟩ := H
 replace H : ((aumbrylaw16_little.f k l0).bind fun t450 => (if t450 = true then ((aumbrylaw16_short.f k l1).bind fun t451 => (aumbrylaw16_RecordSnaps.j0 k l0 l1 t449 (!t451))) else (aumbrylaw16_RecordSnaps.j0 k l0 l1 t449 true))) = some r := H
 have A3 := Aside0.mk A30
 clear A30
 have HC4 := Aside0.mk H
 clear H
 go_enter Try.func6, Try.ntmps6
 go_upto_region 2 with (first | ((with_reducible refine gate_callee (f := 9) rfl ?_); refine goesL_ (some 16) rfl rfl Try.func9 (by kernel_rfl) rfl #[] rfl (by (try simp only [List.map_toArray, List.map_cons, List.map_nil]); first | done | rfl | (simp only [List.length_drop, List.length_take]; rfl)) ?_; (with_reducible refine (aumbrylaw16_awake.calls  t449 _ A3.out).mono ?_); rintro e w5 ⟨rfl, hb⟩; refine ⟨_, rfl, ?_⟩; have n0_ := Aside0.mk (below_step (by repeat (first | (with_reducible first | exact HB.out | apply below_alloc | apply pw_below_drewN | apply below_drew1) | exact HB.out)) hb); clear HB; have HB := n0_; clear n0_; (try clear hb); (try clear hb2); (try clear hk); (try clear hi)))
 (try simp only [Act.put, List.setIfInBounds_toArray, List.set_cons_zero, List.set_cons_succ])
 go_cut [24] (fun v24 wc => ∃ (kq : Nat) (x24_3 : Bool), v24 = .bool x24_3 ∧ Aside0 (aumbrylaw16_RecordSnaps.j0 kq l0 l1 t449 x24_3 = some r) ∧ Aside0 (kq ≤ k) ∧ Aside0 (Below w.heap.size w wc))
 case first =>
  have H := HC4.out
  clear HC4
  replace H := Option.bind_eq_some_iff.mp H
  obtain ⟨t450, A60, H⟩ := H
  replace H : (if t450 = true then ((aumbrylaw16_short.f k l1).bind fun t451 => (aumbrylaw16_RecordSnaps.j0 k l0 l1 t449 (!t451))) else (aumbrylaw16_RecordSnaps.j0 k l0 l1 t449 true)) = some r := H
  have A6 := Aside0.mk A60
  clear A60
  by_cases c7 : t450 = true
  ·subst c7
   have H1 : ((aumbrylaw16_short.f k l1).bind fun t451 => (aumbrylaw16_RecordSnaps.j0 k l0 l1 t449 (!t451))) = some r := by rw [if_pos rfl] at H; exact H
   clear H
   have H := H1
   clear H1
   replace H := Option.bind_eq_some_iff.mp H
   obtain ⟨t451, A80, H⟩ := H
   replace H : (aumbrylaw16_RecordSnaps.j0 k l0 l1 t449 (!t451)) = some r := H
   have A8 := Aside0.mk A80
   clear A80
   have H' := Aside0.mk H
   clear H
   go_wp2_with (first | ((with_reducible refine gate_callee (f := 19) rfl ?_); refine goesL_ (some 18) rfl rfl Try.func19 (by kernel_rfl) rfl #[.slice A0 l0.length c0] rfl (by (try simp only [List.map_toArray, List.map_cons, List.map_nil]); first | done | rfl | (simp only [List.length_drop, List.length_take]; rfl)) ?_; (with_reducible refine (aumbrylaw16_little.calls k _ _ l0 true _ ?side1 ?side2 A6.out).mono ?_); (case side1 => repeat (first | exact (Kd.C_below HR0.out HB.out) | (with_reducible refine Kd.C_alloc ?_ _) | (with_reducible refine Kd.C_drewN ?_ _) | (with_reducible refine Kd.C_drew ?_))); (case side2 => exact HC0.out); rintro e w' ⟨rfl, ⟨nd, rfl⟩⟩; refine ⟨_, rfl, ?_⟩) | (go_at_call 20; (with_reducible refine (aumbrylaw16_short.calls k _ _ l1 t451 _ ?side1 ?side2 A8.out).mono ?_); (case side1 => repeat (first | exact (Kd.C_below HR1.out (by repeat (first | (with_reducible first | exact HB.out | apply below_alloc | apply pw_below_drewN | apply below_drew1) | exact HB.out))) | (with_reducible refine Kd.C_alloc ?_ _) | (with_reducible refine Kd.C_drewN ?_ _) | (with_reducible refine Kd.C_drew ?_))); (case side2 => exact HC1.out); rintro e w' ⟨rfl, ⟨nd, rfl⟩⟩))
   go_meet
   case rel => exact ⟨_, (!t451), (by first | rfl | (simp; done) | (simp [*]; done)), H', ⟨by first | omega | exact Nat.le_refl _⟩, ⟨by repeat (first | (with_reducible first | exact HB.out | apply below_alloc | apply pw_below_drewN | apply below_drew1) | exact HB.out)⟩⟩
  ·replace c7 := Bool.eq_false_iff.mpr c7
   subst c7
   have H1 : (aumbrylaw16_RecordSnaps.j0 k l0 l1 t449 true) = some r := by rw [if_neg (show ¬ (false = true) by decide)] at H; exact H
   clear H
   have H := H1
   clear H1
   have H' := Aside0.mk H
   clear H
   go_wp2_with (first | ((with_reducible refine gate_callee (f := 19) rfl ?_); refine goesL_ (some 18) rfl rfl Try.func19 (by kernel_rfl) rfl #[.slice A0 l0.length c0] rfl (by (try simp only [List.map_toArray, List.map_cons, List.map_nil]); first | done | rfl | (simp only [List.length_drop, List.length_take]; rfl)) ?_; (with_reducible refine (aumbrylaw16_little.calls k _ _ l0 false _ ?side1 ?side2 A6.out).mono ?_); (case side1 => repeat (first | exact (Kd.C_below HR0.out HB.out) | (with_reducible refine Kd.C_alloc ?_ _) | (with_reducible refine Kd.C_drewN ?_ _) | (with_reducible refine Kd.C_drew ?_))); (case side2 => exact HC0.out); rintro e w' ⟨rfl, ⟨nd, rfl⟩⟩; refine ⟨_, rfl, ?_⟩))
   go_meet
   case rel => exact ⟨_, (true), (by first | rfl | (simp; done) | (simp [*]; done)), H', ⟨by first | omega | exact Nat.le_refl _⟩, ⟨by repeat (first | (with_reducible first | exact HB.out | apply below_alloc | apply pw_below_drewN | apply below_drew1) | exact HB.out)⟩⟩
 case rest =>
  clear HC4
  try clear c1
  try clear p2
  try clear c6
  try clear c7
  obtain ⟨kq, x24_3, rfl, HA, HJ3, HB⟩ := hcut
  cases kq with
  | zero => exact absurd HA.out (by simp [aumbrylaw16_RecordSnaps.j0])
  | succ kj3 =>
   have H := HA.out
   clear HA
   simp only [aumbrylaw16_RecordSnaps.j0] at H
   by_cases c9 : x24_3 = true
   ·subst c9
    have H1 : (some t449) = some r := by rw [if_pos rfl] at H; exact H
    clear H
    have H := H1
    clear H1
    obtain rfl := Option.some.inj H
    go_wp2
    go_ret
    exact ⟨by first | rfl | (simp [errW_none, errW_some] <;> rfl) | (simp [*, errW_none, errW_some] <;> rfl), by repeat (first | (with_reducible first | exact HB.out | apply below_alloc | apply pw_below_drewN | apply below_drew1) | exact HB.out)⟩
   ·replace c9 := Bool.eq_false_iff.mpr c9
    subst c9
    have H1 : ((record_Snap.f kj3 l0).bind fun bt452 => ((aumbryref16_Snap.f kj3 l0).bind fun bt456 => ((record_Unsnap.f kj3 l1).bind fun bt460 => ((aumbryref16_Unsnap.f kj3 l1).bind fun bt464 => ((aumbryref16_Parts.f kj3 bt452.1 bt456.1).bind fun t468 => ((aumbryref16_Objects.f kj3 bt460.1 bt464.1).bind fun t469 => (if t449 = true then (if t468 = true then (if bt452.2 = bt456.2 then (if t469 = true then (some (bt460.2 == bt464.2)) else (some false)) else (some false)) else (some false)) else (some false)))))))) = some r := by rw [if_neg (show ¬ (false = true) by decide)] at H; exact H
    clear H
    have H := H1
    clear H1
    replace H := Option.bind_eq_some_iff.mp H
    obtain ⟨⟨t452, t455⟩, A100, H⟩ := H
    replace H : ((aumbryref16_Snap.f kj3 l0).bind fun bt456 => ((record_Unsnap.f kj3 l1).bind fun bt460 => ((aumbryref16_Unsnap.f kj3 l1).bind fun bt464 => ((aumbryref16_Parts.f kj3 t452 bt456.1).bind fun t468 => ((aumbryref16_Objects.f kj3 bt460.1 bt464.1).bind fun t469 => (if t449 = true then (if t468 = true then (if t455 = bt456.2 then (if t469 = true then (some (bt460.2 == bt464.2)) else (some false)) else (some false)) else (some false)) else (some false))))))) = some r := H
    have A10 := Aside0.mk A100
    clear A100
    replace H := Option.bind_eq_some_iff.mp H
    obtain ⟨⟨t456, t459⟩, A110, H⟩ := H
    replace H : ((record_Unsnap.f kj3 l1).bind fun bt460 => ((aumbryref16_Unsnap.f kj3 l1).bind fun bt464 => ((aumbryref16_Parts.f kj3 t452 t456).bind fun t468 => ((aumbryref16_Objects.f kj3 bt460.1 bt464.1).bind fun t469 => (if t449 = true then (if t468 = true then (if t455 = t459 then (if t469 = true then (some (bt460.2 == bt464.2)) else (some false)) else (some false)) else (some false)) else (some false)))))) = some r := H
    have A11 := Aside0.mk A110
    clear A110
    replace H := Option.bind_eq_some_iff.mp H
    obtain ⟨⟨t460, t463⟩, A120, H⟩ := H
    replace H : ((aumbryref16_Unsnap.f kj3 l1).bind fun bt464 => ((aumbryref16_Parts.f kj3 t452 t456).bind fun t468 => ((aumbryref16_Objects.f kj3 t460 bt464.1).bind fun t469 => (if t449 = true then (if t468 = true then (if t455 = t459 then (if t469 = true then (some (t463 == bt464.2)) else (some false)) else (some false)) else (some false)) else (some false))))) = some r := H
    have A12 := Aside0.mk A120
    clear A120
    replace H := Option.bind_eq_some_iff.mp H
    obtain ⟨⟨t464, t467⟩, A130, H⟩ := H
    replace H : ((aumbryref16_Parts.f kj3 t452 t456).bind fun t468 => ((aumbryref16_Objects.f kj3 t460 t464).bind fun t469 => (if t449 = true then (if t468 = true then (if t455 = t459 then (if t469 = true then (some (t463 == t467)) else (some false)) else (some false)) else (some false)) else (some false)))) = some r := H
    have A13 := Aside0.mk A130
    clear A130
    replace H := Option.bind_eq_some_iff.mp H
    obtain ⟨t468, A140, H⟩ := H
    replace H : ((aumbryref16_Objects.f kj3 t460 t464).bind fun t469 => (if t449 = true then (if t468 = true then (if t455 = t459 then (if t469 = true then (some (t463 == t467)) else (some false)) else (some false)) else (some false)) else (some false))) = some r := H
    have A14 := Aside0.mk A140
    clear A140
    replace H := Option.bind_eq_some_iff.mp H
    obtain ⟨t469, A150, H⟩ := H
    replace H : (if t449 = true then (if t468 = true then (if t455 = t459 then (if t469 = true then (some (t463 == t467)) else (some false)) else (some false)) else (some false)) else (some false)) = some r := H
    have A15 := Aside0.mk A150
    clear A150
    by_cases c16 : t449 = true
    ·subst c16
     have H1 : (if t468 = true then (if t455 = t459 then (if t469 = true then (some (t463 == t467)) else (some false)) else (some false)) else (some false)) = some r := by rw [if_pos rfl] at H; exact H
     clear H
     have H := H1
     clear H1
     by_cases c17 : t468 = true
     ·subst c17
      have H1 : (if t455 = t459 then (if t469 = true then (some (t463 == t467)) else (some false)) else (some false)) = some r := by rw [if_pos rfl] at H; exact H
      clear H
      have H := H1
      clear H1
      by_cases c18 : t455 = t459
      ·rw [if_pos c18] at H
       have c18b0 : (t455 == t459) = true := beq_iff_eq.mpr c18
       have c18b1 : (t455 != t459) = false := bne_eq_false_iff_eq.mpr c18
       clear c18
       by_cases c19 : t469 = true
       ·subst c19
        have H1 : (some (t463 == t467)) = some r := by rw [if_pos rfl] at H; exact H
        clear H
        have H := H1
        clear H1
        obtain rfl := Option.some.inj H
        go_wp2_with (first | ((with_reducible refine gate_callee (f := 21) rfl ?_); refine goesL_ (some 28) rfl rfl Try.func21 (by kernel_rfl) rfl #[.slice A0 l0.length c0] rfl (by (try simp only [List.map_toArray, List.map_cons, List.map_nil]); first | done | rfl | (simp only [List.length_drop, List.length_take]; rfl)) ?_; (with_reducible refine (record_Snap.calls kj3 (fun k_ => k_ < w.heap.size) _ _ l0 t452 t455 _ ?side1 A10.out).mono ?_); (case side1 => exact Kd.V_mk HC0.out (Kd.F_below (Kd.C_F k61_heap HR0.out) (by repeat (first | (with_reducible first | exact HB.out | apply below_alloc | apply pw_below_drewN | apply below_drew1) | exact HB.out)))); rintro e w20 ⟨v453, rfl, ho0, hb⟩; refine ⟨_, rfl, ?_⟩; have n0_ := Aside0.mk (Kd.N_lower (Kd.N_mono (ok' := fun k_ => True) ho0 (fun k_ hk_ => trivial)) (below_size (by repeat (first | (with_reducible first | exact HB.out | apply below_alloc | apply pw_below_drewN | apply below_drew1) | exact HB.out)))); have n1_ := Aside0.mk (below_step (by repeat (first | (with_reducible first | exact HB.out | apply below_alloc | apply pw_below_drewN | apply below_drew1) | exact HB.out)) hb); clear HB; have HO454 := n0_; have HB := n1_; clear n0_ n1_; (try clear hb); (try clear hb2); (try clear hk); (try clear hi); (try clear ho0)) | ((with_reducible refine gate_callee (f := 22) rfl ?_); refine goesL_ (some 33) rfl rfl Try.func22 (by kernel_rfl) rfl #[.slice A0 l0.length c0] rfl (by (try simp only [List.map_toArray, List.map_cons, List.map_nil]); first | done | rfl | (simp only [List.length_drop, List.length_take]; rfl)) ?_; (with_reducible refine (aumbryref16_Snap.calls kj3 (fun k_ => k_ < w.heap.size) _ _ l0 t456 t459 _ ?side1 A11.out).mono ?_); (case side1 => exact Kd.V_mk HC0.out (Kd.F_below (Kd.C_F k61_heap HR0.out) (by repeat (first | (with_reducible first | exact HB.out | apply below_alloc | apply pw_below_drewN | apply below_drew1) | exact HB.out)))); rintro e w21 ⟨v457, rfl, ho0, hb⟩; refine ⟨_, rfl, ?_⟩; have n0_ := Aside0.mk (Kd.N_elder' (by (with_reducible repeat (first | apply Kd.N_alloc | apply Kd.N_drewN | apply Kd.N_drew)); exact HO454.out) (Kd.N_base ho0) hb); have n1_ := Aside0.mk (Kd.N_lower (Kd.N_mono (ok' := fun k_ => some k_ ≠ (v453 : Value).ownBlock) ho0 (fun k_ hk_ => Or.elim hk_ (fun hs_ => fun e_ => Nat.not_le.2 hs_ (Kd.N_base HO454.out k_ e_.symm)) (fun hn_ => (Kd.fresh' (Kd.N_lt (by (with_reducible repeat (first | apply Kd.N_alloc | apply Kd.N_drewN | apply Kd.N_drew)); exact HO454.out)) k_ hn_)))) (below_size (by repeat (first | (with_reducible first | exact HB.out | apply below_alloc | apply pw_below_drewN | apply below_drew1) | exact HB.out)))); have n2_ := Aside0.mk (below_step (by repeat (first | (with_reducible first | exact HB.out | apply below_alloc | apply pw_below_drewN | apply below_drew1) | exact HB.out)) hb); clear HO454; clear HB; have HO454 := n0_; have HO458 := n1_; have HB := n2_; clear n0_ n1_ n2_; (try clear hb); (try clear hb2); (try clear hk); (try clear hi); (try clear ho0)) | ((with_reducible refine gate_callee (f := 23) rfl ?_); refine goesL_ (some 38) rfl rfl Try.func23 (by kernel_rfl) rfl #[.slice A1 l1.length c1] rfl (by (try simp only [List.map_toArray, List.map_cons, List.map_nil]); first | done | rfl | (simp only [List.length_drop, List.length_take]; rfl)) ?_; (with_reducible refine (record_Unsnap.calls kj3 _ _ l1 t460 t463 _ ?side1 ?side2 A12.out).mono ?_); (case side1 => repeat (first | exact (Kd.C_below HR1.out HB.out) | (with_reducible refine Kd.C_alloc ?_ _) | (with_reducible refine Kd.C_drewN ?_ _) | (with_reducible refine Kd.C_drew ?_))); (case side2 => exact HC1.out); rintro e w22 ⟨v461, rfl, ho0, hb⟩; refine ⟨_, rfl, ?_⟩; have n0_ := Aside0.mk (Kd.N_below (by (with_reducible repeat (first | apply Kd.N_alloc | apply Kd.N_drewN | apply Kd.N_drew)); exact HO454.out) hb); have n1_ := Aside0.mk (Kd.N_below (by (with_reducible repeat (first | apply Kd.N_alloc | apply Kd.N_drewN | apply Kd.N_drew)); exact HO458.out) hb); have n2_ := Aside0.mk (Kd.V_lower (Kd.V_mono (ok' := fun k_ => some k_ ≠ (v453 : Value).ownBlock ∧ some k_ ≠ (v457 : Value).ownBlock) ho0 (fun k_ hk_ => ⟨(Kd.fresh' (Kd.N_lt (by (with_reducible repeat (first | apply Kd.N_alloc | apply Kd.N_drewN | apply Kd.N_drew)); exact HO454.out)) k_ hk_), (Kd.fresh' (Kd.N_lt (by (with_reducible repeat (first | apply Kd.N_alloc | apply Kd.N_drewN | apply Kd.N_drew)); exact HO458.out)) k_ hk_)⟩)) (below_size (by repeat (first | (with_reducible first | exact HB.out | apply below_alloc | apply pw_below_drewN | apply below_drew1) | exact HB.out)))); have n3_ := Aside0.mk (below_step (by repeat (first | (with_reducible first | exact HB.out | apply below_alloc | apply pw_below_drewN | apply below_drew1) | exact HB.out)) hb); clear HO454; clear HO458; clear HB; have HO454 := n0_; have HO458 := n1_; have HO462 := n2_; have HB := n3_; clear n0_ n1_ n2_ n3_; (try clear hb); (try clear hb2); (try clear hk); (try clear hi); (try clear ho0)) | ((with_reducible refine gate_callee (f := 24) rfl ?_); refine goesL_ (some 43) rfl rfl Try.func24 (by kernel_rfl) rfl #[.slice A1 l1.length c1] rfl (by (try simp only [List.map_toArray, List.map_cons, List.map_nil]); first | done | rfl | (simp only [List.length_drop, List.length_take]; rfl)) ?_; (with_reducible refine (aumbryref16_Unsnap.calls kj3 _ _ l1 t464 t467 _ ?side1 ?side2 A13.out).mono ?_); (case side1 => repeat (first | exact (Kd.C_below HR1.out HB.out) | (with_reducible refine Kd.C_alloc ?_ _) | (with_reducible refine Kd.C_drewN ?_ _) | (with_reducible refine Kd.C_drew ?_))); (case side2 => exact HC1.out); rintro e w23 ⟨v465, rfl, ho0, hb⟩; refine ⟨_, rfl, ?_⟩; have n0_ := Aside0.mk (Kd.N_elder' (by (with_reducible repeat (first | apply Kd.N_alloc | apply Kd.N_drewN | apply Kd.N_drew)); exact HO454.out) (Kd.N_base ho0) hb); have n1_ := Aside0.mk (Kd.N_elder' (by (with_reducible repeat (first | apply Kd.N_alloc | apply Kd.N_drewN | apply Kd.N_drew)); exact HO458.out) (Kd.N_base ho0) hb); have n2_ := Aside0.mk (Kd.V_elder' (by (with_reducible repeat (first | apply Kd.V_alloc | apply Kd.V_drewN | apply Kd.V_drew)); exact HO462.out) (Kd.N_base ho0) hb); have n3_ := Aside0.mk (Kd.N_lower (Kd.N_mono (ok' := fun k_ => some k_ ≠ (v453 : Value).ownBlock ∧ some k_ ≠ (v457 : Value).ownBlock) ho0 (fun k_ hk_ => ⟨(Kd.fresh' (Kd.N_lt (by (with_reducible repeat (first | apply Kd.N_alloc | apply Kd.N_drewN | apply Kd.N_drew)); exact HO454.out)) k_ hk_), (Kd.fresh' (Kd.N_lt (by (with_reducible repeat (first | apply Kd.N_alloc | apply Kd.N_drewN | apply Kd.N_drew)); exact HO458.out)) k_ hk_)⟩)) (below_size (by repeat (first | (with_reducible first | exact HB.out | apply below_alloc | apply pw_below_drewN | apply below_drew1) | exact HB.out)))); have n4_ := Aside0.mk (below_step (by repeat (first | (with_reducible first | exact HB.out | apply below_alloc | apply pw_below_drewN | apply below_drew1) | exact HB.out)) hb); clear HO454; clear HO458; clear HO462; clear HB; have HO454 := n0_; have HO458 := n1_; have HO462 := n2_; have HO466 := n3_; have HB := n4_; clear n0_ n1_ n2_ n3_ n4_; (try clear hb); (try clear hb2); (try clear hk); (try clear hi); (try clear ho0); obtain ⟨Ao24, co24, eo24⟩ := Kd.N_slice HO454.out; subst eo24; obtain ⟨Ao25, co25, eo25⟩ := Kd.N_slice HO458.out; subst eo25) | ((with_reducible refine gate_callee (f := 25) rfl ?_); refine goesL_ (some 48) rfl rfl Try.func25 (by kernel_rfl) rfl #[.slice Ao24 t452.length co24, .slice Ao25 t456.length co25] rfl (by (try simp only [List.map_toArray, List.map_cons, List.map_nil]); first | done | rfl | (simp only [List.length_drop, List.length_take]; rfl)) ?_; (with_reducible refine (aumbryref16_Parts.calls kj3 _ _ t452 _ _ t456 true _ ?side1 ?side2 ?side3 ?side4 A14.out).mono ?_); (case side1 => repeat (first | exact (Kd.N_reads' HO454.out).2.2 | (with_reducible refine Kd.C_alloc ?_ _) | (with_reducible refine Kd.C_drewN ?_ _) | (with_reducible refine Kd.C_drew ?_))); (case side2 => exact (Kd.N_reads' HO454.out).2.1); (case side3 => repeat (first | exact (Kd.N_reads' HO458.out).2.2 | (with_reducible refine Kd.C_alloc ?_ _) | (with_reducible refine Kd.C_drewN ?_ _) | (with_reducible refine Kd.C_drew ?_))); (case side4 => exact (Kd.N_reads' HO458.out).2.1); rintro e w' ⟨rfl, ⟨nd, rfl⟩⟩; refine ⟨_, rfl, ?_⟩; obtain ⟨Ao26, co26, eo26⟩ := Kd.V_slice HO462.out; subst eo26; obtain ⟨Ao27, co27, eo27⟩ := Kd.N_slice HO466.out; subst eo27) | ((with_reducible refine gate_callee (f := 26) rfl ?_); refine goesL_ (some 51) rfl rfl Try.func26 (by kernel_rfl) rfl #[.slice Ao26 t460.length co26, .slice Ao27 t464.length co27] rfl (by (try simp only [List.map_toArray, List.map_cons, List.map_nil]); first | done | rfl | (simp only [List.length_drop, List.length_take]; rfl)) ?_; (with_reducible refine (aumbryref16_Objects.calls kj3 _ _ t460 _ _ t464 true _ ?side1 ?side2 ?side3 ?side4 A15.out).mono ?_); (case side1 => repeat (first | exact (Kd.V_reads' HO462.out).2.2 | (with_reducible refine Kd.C_alloc ?_ _) | (with_reducible refine Kd.C_drewN ?_ _) | (with_reducible refine Kd.C_drew ?_))); (case side2 => exact (Kd.V_reads' HO462.out).2.1); (case side3 => repeat (first | exact (Kd.N_reads' HO466.out).2.2 | (with_reducible refine Kd.C_alloc ?_ _) | (with_reducible refine Kd.C_drewN ?_ _) | (with_reducible refine Kd.C_drew ?_))); (case side4 => exact (Kd.N_reads' HO466.out).2.1); rintro e w28 ⟨rfl, hb⟩; refine ⟨_, rfl, ?_⟩; have n0_ := Aside0.mk (Kd.N_below (by (with_reducible repeat (first | apply Kd.N_alloc | apply Kd.N_drewN | apply Kd.N_drew)); exact HO454.out) hb); have n1_ := Aside0.mk (Kd.N_below (by (with_reducible repeat (first | apply Kd.N_alloc | apply Kd.N_drewN | apply Kd.N_drew)); exact HO458.out) hb); have n2_ := Aside0.mk (Kd.V_below (by (with_reducible repeat (first | apply Kd.V_alloc | apply Kd.V_drewN | apply Kd.V_drew)); exact HO462.out) hb); have n3_ := Aside0.mk (Kd.N_below (by (with_reducible repeat (first | apply Kd.N_alloc | apply Kd.N_drewN | apply Kd.N_drew)); exact HO466.out) hb); have n4_ := Aside0.mk (below_step (by repeat (first | (with_reducible first | exact HB.out | apply below_alloc | apply pw_below_drewN | apply below_drew1) | exact HB.out)) hb); clear HO454; clear HO458; clear HO462; clear HO466; clear HB; have HO454 := n0_; have HO458 := n1_; have HO462 := n2_; have HO466 := n3_; have HB := n4_; clear n0_ n1_ n2_ n3_ n4_; (try clear hb); (try clear hb2); (try clear hk); (try clear hi)))
        go_ret
        exact ⟨by first | rfl | (simp [errW_none, errW_some] <;> rfl) | (simp [*, errW_none, errW_some] <;> rfl), by repeat (first | (with_reducible first | exact HB.out | apply below_alloc | apply pw_below_drewN | apply below_drew1) | exact HB.out)⟩
       ·replace c19 := Bool.eq_false_iff.mpr c19
        subst c19
        have H1 : (some false) = some r := by rw [if_neg (show ¬ (false = true) by decide)] at H; exact H
        clear H
        have H := H1
        clear H1
        exact absurd (H.trans (congrArg some hrt.out)) (by decide)
      ·rw [if_neg c18] at H
       have c18b0 : (t455 == t459) = false := beq_eq_false_iff_ne.mpr c18
       have c18b1 : (t455 != t459) = true := bne_iff_ne.mpr c18
       exact absurd (H.trans (congrArg some hrt.out)) (by decide)
     ·replace c17 := Bool.eq_false_iff.mpr c17
      subst c17
      have H1 : (some false) = some r := by rw [if_neg (show ¬ (false = true) by decide)] at H; exact H
      clear H
      have H := H1
      clear H1
      exact absurd (H.trans (congrArg some hrt.out)) (by decide)
    ·replace c16 := Bool.eq_false_iff.mpr c16
     subst c16
     have H1 : (some false) = some r := by rw [if_neg (show ¬ (false = true) by decide)] at H; exact H
     clear H
     have H := H1
     clear H1
     exact absurd (H.trans (congrArg some hrt.out)) (by decide)

/-! ### aumbrylaw16_RecordSnapsBack: function 7 -/
mutual
def aumbrylaw16_RecordSnapsBack.j0 : Nat → List (S61) → List (List Int) → Bool → Bool → Option (Bool)
 | 0, _, _, _, _ => none
 | k + 1, x0, x1, x5, x24 => if x24 = true then (some x5) else ((record_Snap.f k x0).bind fun bt473 => (if bt473.2 = 0 then ((record_Unsnap.f k bt473.1).bind fun bt477 => ((aumbryref16_Objects.f k bt477.1 x0).bind fun t481 => (if t481 = true then (if bt477.2 = 0 then (if (bt473.1.length : Int) = 2 then (if 0 < (bt473.1.length : Int) then (if ((rd_L2 bt473.1 0).length : Int) > 4096 then (aumbrylaw16_RecordSnapsBack.j1 k x1 x5 true) else (if 1 < (bt473.1.length : Int) then (aumbrylaw16_RecordSnapsBack.j1 k x1 x5 (decide (((rd_L2 bt473.1 1).length : Int) > 4096))) else (none))) else (none)) else (aumbrylaw16_RecordSnapsBack.j1 k x1 x5 true)) else (aumbrylaw16_RecordSnapsBack.j1 k x1 x5 true)) else (aumbrylaw16_RecordSnapsBack.j1 k x1 x5 true)))) else (aumbrylaw16_RecordSnapsBack.j2 k x1 x5)))
def aumbrylaw16_RecordSnapsBack.j2 : Nat → List (List Int) → Bool → Option (Bool)
 | 0, _, _ => none
 | k + 1, x1, x5 => (record_Unsnap.f k x1).bind fun bt484 => (if bt484.2 = 0 then ((record_Snap.f k bt484.1).bind fun bt488 => ((aumbryref16_Parts.f k bt488.1 x1).bind fun t492 => (if x5 = true then (if t492 = true then (some (bt488.2 == 0)) else (some false)) else (some false)))) else (if x5 = true then (some ((bt484.1.length : Int) == 0)) else (some false)))
def aumbrylaw16_RecordSnapsBack.j1 : Nat → List (List Int) → Bool → Bool → Option (Bool)
 | 0, _, _, _ => none
 | k + 1, x1, x5, x65 => if x65 = true then (some false) else (aumbrylaw16_RecordSnapsBack.j2 k x1 x5)
end
def aumbrylaw16_RecordSnapsBack.f (k : Nat) (l0 : List (S61)) (l1 : List (List Int)) : Option (Bool) := (aumbrylaw16_awake.f).bind fun t470 => ((aumbrylaw16_little.f k l0).bind fun t471 => (if t471 = true then ((aumbrylaw16_short.f k l1).bind fun t472 => (aumbrylaw16_RecordSnapsBack.j0 k l0 l1 t470 (!t472))) else (aumbrylaw16_RecordSnapsBack.j0 k l0 l1 t470 true)))
theorem aumbrylaw16_RecordSnapsBack.mono_l : ∀ k, (∀ y0 y1 y2 y3, LeO (aumbrylaw16_RecordSnapsBack.j0 k y0 y1 y2 y3) (aumbrylaw16_RecordSnapsBack.j0 (k + 1) y0 y1 y2 y3)) ∧ (∀ y0 y1, LeO (aumbrylaw16_RecordSnapsBack.j2 k y0 y1) (aumbrylaw16_RecordSnapsBack.j2 (k + 1) y0 y1)) ∧ (∀ y0 y1 y2, LeO (aumbrylaw16_RecordSnapsBack.j1 k y0 y1 y2) (aumbrylaw16_RecordSnapsBack.j1 (k + 1) y0 y1 y2))
 | 0 => ⟨fun _ _ _ _ r h => by simp [aumbrylaw16_RecordSnapsBack.j0] at h, fun _ _ r h => by simp [aumbrylaw16_RecordSnapsBack.j2] at h, fun _ _ _ r h => by simp [aumbrylaw16_RecordSnapsBack.j1] at h⟩
 | k + 1 => by
  obtain ⟨ih0, ih1, ih2⟩ := aumbrylaw16_RecordSnapsBack.mono_l k
  refine ⟨?_, ?_, ?_⟩
  ·intro y0 y1 y2 y3
   unfold aumbrylaw16_RecordSnapsBack.j0
   repeat' first
   | (with_reducible exact ih0 _ _ _ _)
   | (with_reducible exact ih1 _ _)
   | (with_reducible exact ih2 _ _ _)
   | (with_reducible exact aumbrylaw16_little.mono _ _)
   | (with_reducible exact aumbrylaw16_short.mono _ _)
   | (with_reducible exact aumbryref16_Objects.mono _ _ _)
   | (with_reducible exact aumbryref16_Parts.mono _ _ _)
   | (with_reducible exact record_Snap.mono _ _)
   | (with_reducible exact record_Unsnap.mono _ _)
   | (with_reducible exact LeO.refl _)
   | (with_reducible exact LeO.none _)
   | (with_reducible refine LeO.ite ?_ ?_)
   | (with_reducible refine LeO.bind ?_ (fun _ => ?_))
   | exact ih0 _ _ _ _
   | exact ih1 _ _
   | exact ih2 _ _ _
   | exact aumbrylaw16_little.mono _ _
   | exact aumbrylaw16_short.mono _ _
   | exact aumbryref16_Objects.mono _ _ _
   | exact aumbryref16_Parts.mono _ _ _
   | exact record_Snap.mono _ _
   | exact record_Unsnap.mono _ _
   | exact LeO.none _
   | refine LeO.ite ?_ ?_
   | refine LeO.bind ?_ (fun _ => ?_)
  ·intro y0 y1
   unfold aumbrylaw16_RecordSnapsBack.j2
   repeat' first
   | (with_reducible exact ih0 _ _ _ _)
   | (with_reducible exact ih1 _ _)
   | (with_reducible exact ih2 _ _ _)
   | (with_reducible exact aumbrylaw16_little.mono _ _)
   | (with_reducible exact aumbrylaw16_short.mono _ _)
   | (with_reducible exact aumbryref16_Objects.mono _ _ _)
   | (with_reducible exact aumbryref16_Parts.mono _ _ _)
   | (with_reducible exact record_Snap.mono _ _)
   | (with_reducible exact record_Unsnap.mono _ _)
   | (with_reducible exact LeO.refl _)
   | (with_reducible exact LeO.none _)
   | (with_reducible refine LeO.ite ?_ ?_)
   | (with_reducible refine LeO.bind ?_ (fun _ => ?_))
   | exact ih0 _ _ _ _
   | exact ih1 _ _
   | exact ih2 _ _ _
   | exact aumbrylaw16_little.mono _ _
   | exact aumbrylaw16_short.mono _ _
   | exact aumbryref16_Objects.mono _ _ _
   | exact aumbryref16_Parts.mono _ _ _
   | exact record_Snap.mono _ _
   | exact record_Unsnap.mono _ _
   | exact LeO.none _
   | refine LeO.ite ?_ ?_
   | refine LeO.bind ?_ (fun _ => ?_)
  ·intro y0 y1 y2
   unfold aumbrylaw16_RecordSnapsBack.j1
   repeat' first
   | (with_reducible exact ih0 _ _ _ _)
   | (with_reducible exact ih1 _ _)
   | (with_reducible exact ih2 _ _ _)
   | (with_reducible exact aumbrylaw16_little.mono _ _)
   | (with_reducible exact aumbrylaw16_short.mono _ _)
   | (with_reducible exact aumbryref16_Objects.mono _ _ _)
   | (with_reducible exact aumbryref16_Parts.mono _ _ _)
   | (with_reducible exact record_Snap.mono _ _)
   | (with_reducible exact record_Unsnap.mono _ _)
   | (with_reducible exact LeO.refl _)
   | (with_reducible exact LeO.none _)
   | (with_reducible refine LeO.ite ?_ ?_)
   | (with_reducible refine LeO.bind ?_ (fun _ => ?_))
   | exact ih0 _ _ _ _
   | exact ih1 _ _
   | exact ih2 _ _ _
   | exact aumbrylaw16_little.mono _ _
   | exact aumbrylaw16_short.mono _ _
   | exact aumbryref16_Objects.mono _ _ _
   | exact aumbryref16_Parts.mono _ _ _
   | exact record_Snap.mono _ _
   | exact record_Unsnap.mono _ _
   | exact LeO.none _
   | refine LeO.ite ?_ ?_
   | refine LeO.bind ?_ (fun _ => ?_)
theorem aumbrylaw16_RecordSnapsBack.mono : ∀ a0 a1 k, LeO (aumbrylaw16_RecordSnapsBack.f k a0 a1) (aumbrylaw16_RecordSnapsBack.f (k + 1) a0 a1) := by
 intro a0 a1 k
 obtain ⟨ih0, ih1, ih2⟩ := aumbrylaw16_RecordSnapsBack.mono_l k
 unfold aumbrylaw16_RecordSnapsBack.f
 repeat' first
   | (with_reducible exact ih0 _ _ _ _)
   | (with_reducible exact ih1 _ _)
   | (with_reducible exact ih2 _ _ _)
   | (with_reducible exact aumbrylaw16_little.mono _ _)
   | (with_reducible exact aumbrylaw16_short.mono _ _)
   | (with_reducible exact aumbryref16_Objects.mono _ _ _)
   | (with_reducible exact aumbryref16_Parts.mono _ _ _)
   | (with_reducible exact record_Snap.mono _ _)
   | (with_reducible exact record_Unsnap.mono _ _)
   | (with_reducible exact LeO.refl _)
   | (with_reducible exact LeO.none _)
   | (with_reducible refine LeO.ite ?_ ?_)
   | (with_reducible refine LeO.bind ?_ (fun _ => ?_))
   | exact ih0 _ _ _ _
   | exact ih1 _ _
   | exact ih2 _ _ _
   | exact aumbrylaw16_little.mono _ _
   | exact aumbrylaw16_short.mono _ _
   | exact aumbryref16_Objects.mono _ _ _
   | exact aumbryref16_Parts.mono _ _ _
   | exact record_Snap.mono _ _
   | exact record_Unsnap.mono _ _
   | exact LeO.none _
   | refine LeO.ite ?_ ?_
   | refine LeO.bind ?_ (fun _ => ?_)
set_option maxHeartbeats 8000000 in
set_option maxRecDepth 100000 in
theorem aumbrylaw16_RecordSnapsBack.calls (k : Nat) (A0 : Option Addr) (c0 : Nat) (l0 : List (S61)) (A1 : Option Addr) (c1 : Nat) (l1 : List (List Int)) (r : Bool) (hrt : Aside0 (r = true)) (w : World) (hr0 : Kd.C k61 w A0 l0.length l0) (hc0 : l0.length ≤ c0) (hr1 : Kd.C (Kd.slice 5 (Kd.int .u8)) w A1 l1.length l1) (hc1 : l1.length ≤ c1) (h : aumbrylaw16_RecordSnapsBack.f k l0 l1 = some r) :
  Calls Try.prog 7 #[.slice A0 l0.length c0, .slice A1 l1.length c1] w fun e w' => e = .returned (.bool r) ∧ Below w.heap.size w w' := by
 have HR0 := Aside0.mk hr0
 have HC0 := Aside0.mk hc0
 clear hr0 hc0
 have HR1 := Aside0.mk hr1
 have HC1 := Aside0.mk hc1
 clear hr1 hc1
 have HB := Aside0.mk (Below.refl w.heap.size w)
 have H : ((aumbrylaw16_awake.f).bind fun t470 => ((aumbrylaw16_little.f k l0).bind fun t471 => (if t471 = true then ((aumbrylaw16_short.f k l1).bind fun t472 => (aumbrylaw16_RecordSnapsBack.j0 k l0 l1 t470 (!t472))) else (aumbrylaw16_RecordSnapsBack.j0 k l0 l1 t470 true)))) = some r := h
 clear h
 replace H := Option.bind_eq_some_iff.mp H
 obtain ⟨t470, A30, H⟩ := H
 replace H : ((aumbrylaw16_little.f k l0).bind fun t471 => (if t471 = true then ((aumbrylaw16_short.f k l1).bind fun t472 => (aumbrylaw16_RecordSnapsBack.j0 k l0 l1 t470 (!t472))) else (aumbrylaw16_RecordSnapsBack.j0 k l0 l1 t470 true))) = some r := H
 have A3 := Aside0.mk A30
 clear A30
 have HC4 := Aside0.mk H
 clear H
 go_enter Try.func7, Try.ntmps7
 go_upto_region 2 with (first | ((with_reducible refine gate_callee (f := 9) rfl ?_); refine goesL_ (some 16) rfl rfl Try.func9 (by kernel_rfl) rfl #[] rfl (by (try simp only [List.map_toArray, List.map_cons, List.map_nil]); first | done | rfl | (simp only [List.length_drop, List.length_take]; rfl)) ?_; (with_reducible refine (aumbrylaw16_awake.calls  t470 _ A3.out).mono ?_); rintro e w5 ⟨rfl, hb⟩; refine ⟨_, rfl, ?_⟩; have n0_ := Aside0.mk (below_step (by repeat (first | (with_reducible first | exact HB.out | apply below_alloc | apply pw_below_drewN | apply below_drew1) | exact HB.out)) hb); clear HB; have HB := n0_; clear n0_; (try clear hb); (try clear hb2); (try clear hk); (try clear hi)))
 (try simp only [Act.put, List.setIfInBounds_toArray, List.set_cons_zero, List.set_cons_succ])
 go_cut [24] (fun v24 wc => ∃ (kq : Nat) (x24_3 : Bool), v24 = .bool x24_3 ∧ Aside0 (aumbrylaw16_RecordSnapsBack.j0 kq l0 l1 t470 x24_3 = some r) ∧ Aside0 (kq ≤ k) ∧ Aside0 (Below w.heap.size w wc))
 case first =>
  have H := HC4.out
  clear HC4
  replace H := Option.bind_eq_some_iff.mp H
  obtain ⟨t471, A60, H⟩ := H
  replace H : (if t471 = true then ((aumbrylaw16_short.f k l1).bind fun t472 => (aumbrylaw16_RecordSnapsBack.j0 k l0 l1 t470 (!t472))) else (aumbrylaw16_RecordSnapsBack.j0 k l0 l1 t470 true)) = some r := H
  have A6 := Aside0.mk A60
  clear A60
  by_cases c7 : t471 = true
  ·subst c7
   have H1 : ((aumbrylaw16_short.f k l1).bind fun t472 => (aumbrylaw16_RecordSnapsBack.j0 k l0 l1 t470 (!t472))) = some r := by rw [if_pos rfl] at H; exact H
   clear H
   have H := H1
   clear H1
   replace H := Option.bind_eq_some_iff.mp H
   obtain ⟨t472, A80, H⟩ := H
   replace H : (aumbrylaw16_RecordSnapsBack.j0 k l0 l1 t470 (!t472)) = some r := H
   have A8 := Aside0.mk A80
   clear A80
   have H' := Aside0.mk H
   clear H
   go_wp2_with (first | ((with_reducible refine gate_callee (f := 19) rfl ?_); refine goesL_ (some 18) rfl rfl Try.func19 (by kernel_rfl) rfl #[.slice A0 l0.length c0] rfl (by (try simp only [List.map_toArray, List.map_cons, List.map_nil]); first | done | rfl | (simp only [List.length_drop, List.length_take]; rfl)) ?_; (with_reducible refine (aumbrylaw16_little.calls k _ _ l0 true _ ?side1 ?side2 A6.out).mono ?_); (case side1 => repeat (first | exact (Kd.C_below HR0.out HB.out) | (with_reducible refine Kd.C_alloc ?_ _) | (with_reducible refine Kd.C_drewN ?_ _) | (with_reducible refine Kd.C_drew ?_))); (case side2 => exact HC0.out); rintro e w' ⟨rfl, ⟨nd, rfl⟩⟩; refine ⟨_, rfl, ?_⟩) | (go_at_call 20; (with_reducible refine (aumbrylaw16_short.calls k _ _ l1 t472 _ ?side1 ?side2 A8.out).mono ?_); (case side1 => repeat (first | exact (Kd.C_below HR1.out (by repeat (first | (with_reducible first | exact HB.out | apply below_alloc | apply pw_below_drewN | apply below_drew1) | exact HB.out))) | (with_reducible refine Kd.C_alloc ?_ _) | (with_reducible refine Kd.C_drewN ?_ _) | (with_reducible refine Kd.C_drew ?_))); (case side2 => exact HC1.out); rintro e w' ⟨rfl, ⟨nd, rfl⟩⟩))
   go_meet
   case rel => exact ⟨_, (!t472), (by first | rfl | (simp; done) | (simp [*]; done)), H', ⟨by first | omega | exact Nat.le_refl _⟩, ⟨by repeat (first | (with_reducible first | exact HB.out | apply below_alloc | apply pw_below_drewN | apply below_drew1) | exact HB.out)⟩⟩
  ·replace c7 := Bool.eq_false_iff.mpr c7
   subst c7
   have H1 : (aumbrylaw16_RecordSnapsBack.j0 k l0 l1 t470 true) = some r := by rw [if_neg (show ¬ (false = true) by decide)] at H; exact H
   clear H
   have H := H1
   clear H1
   have H' := Aside0.mk H
   clear H
   go_wp2_with (first | ((with_reducible refine gate_callee (f := 19) rfl ?_); refine goesL_ (some 18) rfl rfl Try.func19 (by kernel_rfl) rfl #[.slice A0 l0.length c0] rfl (by (try simp only [List.map_toArray, List.map_cons, List.map_nil]); first | done | rfl | (simp only [List.length_drop, List.length_take]; rfl)) ?_; (with_reducible refine (aumbrylaw16_little.calls k _ _ l0 false _ ?side1 ?side2 A6.out).mono ?_); (case side1 => repeat (first | exact (Kd.C_below HR0.out HB.out) | (with_reducible refine Kd.C_alloc ?_ _) | (with_reducible refine Kd.C_drewN ?_ _) | (with_reducible refine Kd.C_drew ?_))); (case side2 => exact HC0.out); rintro e w' ⟨rfl, ⟨nd, rfl⟩⟩; refine ⟨_, rfl, ?_⟩))
   go_meet
   case rel => exact ⟨_, (true), (by first | rfl | (simp; done) | (simp [*]; done)), H', ⟨by first | omega | exact Nat.le_refl _⟩, ⟨by repeat (first | (with_reducible first | exact HB.out | apply below_alloc | apply pw_below_drewN | apply below_drew1) | exact HB.out)⟩⟩
 case rest =>
  clear HC4
  try clear c1
  try clear p2
  try clear c7
  obtain ⟨kq, x24_3, rfl, HA, HJ3, HB⟩ := hcut
  cases kq with
  | zero => exact absurd HA.out (by simp [aumbrylaw16_RecordSnapsBack.j0])
  | succ kj3 =>
   have H := HA.out
   clear HA
   simp only [aumbrylaw16_RecordSnapsBack.j0] at H
   by_cases c9 : x24_3 = true
   ·subst c9
    have H1 : (some t470) = some r := by rw [if_pos rfl] at H; exact H
    clear H
    have H := H1
    clear H1
    obtain rfl := Option.some.inj H
    go_wp2
    go_ret
    exact ⟨by first | rfl | (simp [errW_none, errW_some] <;> rfl) | (simp [*, errW_none, errW_some] <;> rfl), by repeat (first | (with_reducible first | exact HB.out | apply below_alloc | apply pw_below_drewN | apply below_drew1) | exact HB.out)⟩
   ·replace c9 := Bool.eq_false_iff.mpr c9
    subst c9
    have H1 : ((record_Snap.f kj3 l0).bind fun bt473 => (if bt473.2 = 0 then ((record_Unsnap.f kj3 bt473.1).bind fun bt477 => ((aumbryref16_Objects.f kj3 bt477.1 l0).bind fun t481 => (if t481 = true then (if bt477.2 = 0 then (if (bt473.1.length : Int) = 2 then (if 0 < (bt473.1.length : Int) then (if ((rd_L2 bt473.1 0).length : Int) > 4096 then (aumbrylaw16_RecordSnapsBack.j1 kj3 l1 t470 true) else (if 1 < (bt473.1.length : Int) then (aumbrylaw16_RecordSnapsBack.j1 kj3 l1 t470 (decide (((rd_L2 bt473.1 1).length : Int) > 4096))) else (none))) else (none)) else (aumbrylaw16_RecordSnapsBack.j1 kj3 l1 t470 true)) else (aumbrylaw16_RecordSnapsBack.j1 kj3 l1 t470 true)) else (aumbrylaw16_RecordSnapsBack.j1 kj3 l1 t470 true)))) else (aumbrylaw16_RecordSnapsBack.j2 kj3 l1 t470))) = some r := by rw [if_neg (show ¬ (false = true) by decide)] at H; exact H
    clear H
    have H := H1
    clear H1
    replace H := Option.bind_eq_some_iff.mp H
    obtain ⟨⟨t473, t476⟩, A100, H⟩ := H
    replace H : (if t476 = 0 then ((record_Unsnap.f kj3 t473).bind fun bt477 => ((aumbryref16_Objects.f kj3 bt477.1 l0).bind fun t481 => (if t481 = true then (if bt477.2 = 0 then (if (t473.length : Int) = 2 then (if 0 < (t473.length : Int) then (if ((rd_L2 t473 0).length : Int) > 4096 then (aumbrylaw16_RecordSnapsBack.j1 kj3 l1 t470 true) else (if 1 < (t473.length : Int) then (aumbrylaw16_RecordSnapsBack.j1 kj3 l1 t470 (decide (((rd_L2 t473 1).length : Int) > 4096))) else (none))) else (none)) else (aumbrylaw16_RecordSnapsBack.j1 kj3 l1 t470 true)) else (aumbrylaw16_RecordSnapsBack.j1 kj3 l1 t470 true)) else (aumbrylaw16_RecordSnapsBack.j1 kj3 l1 t470 true)))) else (aumbrylaw16_RecordSnapsBack.j2 kj3 l1 t470)) = some r := H
    have A10 := Aside0.mk A100
    clear A100
    have HC11 := Aside0.mk H
    clear H
    go_upto_if 32 with (first | ((with_reducible refine gate_callee (f := 21) rfl ?_); refine goesL_ (some 28) rfl rfl Try.func21 (by kernel_rfl) rfl #[.slice A0 l0.length c0] rfl (by (try simp only [List.map_toArray, List.map_cons, List.map_nil]); first | done | rfl | (simp only [List.length_drop, List.length_take]; rfl)) ?_; (with_reducible refine (record_Snap.calls kj3 (fun k_ => k_ < w.heap.size) _ _ l0 t473 t476 _ ?side1 A10.out).mono ?_); (case side1 => exact Kd.V_mk HC0.out (Kd.F_below (Kd.C_F k61_heap HR0.out) (by repeat (first | (with_reducible first | exact HB.out | apply below_alloc | apply pw_below_drewN | apply below_drew1) | exact HB.out)))); rintro e w12 ⟨v474, rfl, ho0, hb⟩; refine ⟨_, rfl, ?_⟩; have n0_ := Aside0.mk (Kd.N_lower (Kd.N_mono (ok' := fun k_ => True) ho0 (fun k_ hk_ => trivial)) (below_size (by repeat (first | (with_reducible first | exact HB.out | apply below_alloc | apply pw_below_drewN | apply below_drew1) | exact HB.out)))); have n1_ := Aside0.mk (below_step (by repeat (first | (with_reducible first | exact HB.out | apply below_alloc | apply pw_below_drewN | apply below_drew1) | exact HB.out)) hb); clear HB; have HO475 := n0_; have HB := n1_; clear n0_ n1_; (try clear hb); (try clear hb2); (try clear hk); (try clear hi); (try clear ho0)))
    (try simp only [Act.put, List.setIfInBounds_toArray, List.set_cons_zero, List.set_cons_succ])
    go_cut [] (fun wc => ∃ (kq : Nat), Aside0 (aumbrylaw16_RecordSnapsBack.j2 kq l1 t470 = some r) ∧ Aside0 (kq ≤ kj3) ∧ Aside0 (Below w.heap.size w wc))
    case first =>
     have H := HC11.out
     clear HC11
     by_cases c13 : t476 = 0
     ·rw [if_pos c13] at H
      have c13b0 : (t476 == 0) = true := beq_iff_eq.mpr c13
      have c13b1 : (t476 != 0) = false := bne_eq_false_iff_eq.mpr c13
      clear c13
      (first | rw [c13b0] | (simp only [i64_w, i32_w]; rw [c13b0]) | skip)
      replace H := Option.bind_eq_some_iff.mp H
      obtain ⟨⟨t477, t480⟩, A140, H⟩ := H
      replace H : ((aumbryref16_Objects.f kj3 t477 l0).bind fun t481 => (if t481 = true then (if t480 = 0 then (if (t473.length : Int) = 2 then (if 0 < (t473.length : Int) then (if ((rd_L2 t473 0).length : Int) > 4096 then (aumbrylaw16_RecordSnapsBack.j1 kj3 l1 t470 true) else (if 1 < (t473.length : Int) then (aumbrylaw16_RecordSnapsBack.j1 kj3 l1 t470 (decide (((rd_L2 t473 1).length : Int) > 4096))) else (none))) else (none)) else (aumbrylaw16_RecordSnapsBack.j1 kj3 l1 t470 true)) else (aumbrylaw16_RecordSnapsBack.j1 kj3 l1 t470 true)) else (aumbrylaw16_RecordSnapsBack.j1 kj3 l1 t470 true))) = some r := H
      have A14 := Aside0.mk A140
      clear A140
      replace H := Option.bind_eq_some_iff.mp H
      obtain ⟨t481, A150, H⟩ := H
      replace H : (if t481 = true then (if t480 = 0 then (if (t473.length : Int) = 2 then (if 0 < (t473.length : Int) then (if ((rd_L2 t473 0).length : Int) > 4096 then (aumbrylaw16_RecordSnapsBack.j1 kj3 l1 t470 true) else (if 1 < (t473.length : Int) then (aumbrylaw16_RecordSnapsBack.j1 kj3 l1 t470 (decide (((rd_L2 t473 1).length : Int) > 4096))) else (none))) else (none)) else (aumbrylaw16_RecordSnapsBack.j1 kj3 l1 t470 true)) else (aumbrylaw16_RecordSnapsBack.j1 kj3 l1 t470 true)) else (aumbrylaw16_RecordSnapsBack.j1 kj3 l1 t470 true)) = some r := H
      have A15 := Aside0.mk A150
      clear A150
      have HC16 := Aside0.mk H
      clear H
      obtain ⟨Ao17, co17, eo17⟩ := Kd.N_slice HO475.out
      subst eo17
      go_upto_region 8 with (first | ((with_reducible refine gate_callee (f := 23) rfl ?_); refine goesL_ (some 35) rfl rfl Try.func23 (by kernel_rfl) rfl #[.slice Ao17 t473.length co17] rfl (by (try simp only [List.map_toArray, List.map_cons, List.map_nil]); first | done | rfl | (simp only [List.length_drop, List.length_take]; rfl)) ?_; (with_reducible refine (record_Unsnap.calls kj3 _ _ t473 t477 t480 _ ?side1 ?side2 A14.out).mono ?_); (case side1 => repeat (first | exact (Kd.N_reads' HO475.out).2.2 | (with_reducible refine Kd.C_alloc ?_ _) | (with_reducible refine Kd.C_drewN ?_ _) | (with_reducible refine Kd.C_drew ?_))); (case side2 => exact (Kd.N_reads' HO475.out).2.1); rintro e w18 ⟨v478, rfl, ho0, hb⟩; refine ⟨_, rfl, ?_⟩; have n0_ := Aside0.mk (Kd.N_below (by (with_reducible repeat (first | apply Kd.N_alloc | apply Kd.N_drewN | apply Kd.N_drew)); exact HO475.out) hb); have n1_ := Aside0.mk (Kd.V_lower (Kd.V_mono (ok' := fun k_ => some k_ ≠ (.slice Ao17 t473.length co17 : Value).ownBlock) ho0 (fun k_ hk_ => (Kd.fresh' (Kd.N_lt (by (with_reducible repeat (first | apply Kd.N_alloc | apply Kd.N_drewN | apply Kd.N_drew)); exact HO475.out)) k_ hk_))) (below_size (by repeat (first | (with_reducible first | exact HB.out | apply below_alloc | apply pw_below_drewN | apply below_drew1) | exact HB.out)))); have n2_ := Aside0.mk (below_step (by repeat (first | (with_reducible first | exact HB.out | apply below_alloc | apply pw_below_drewN | apply below_drew1) | exact HB.out)) hb); clear HO475; clear HB; have HO475 := n0_; have HO479 := n1_; have HB := n2_; clear n0_ n1_ n2_; (try clear hb); (try clear hb2); (try clear hk); (try clear hi); (try clear ho0); obtain ⟨Ao19, co19, eo19⟩ := Kd.V_slice HO479.out; subst eo19) | ((with_reducible refine gate_callee (f := 26) rfl ?_); refine goesL_ (some 40) rfl rfl Try.func26 (by kernel_rfl) rfl #[.slice Ao19 t477.length co19, .slice A0 l0.length c0] rfl (by (try simp only [List.map_toArray, List.map_cons, List.map_nil]); first | done | rfl | (simp only [List.length_drop, List.length_take]; rfl)) ?_; (with_reducible refine (aumbryref16_Objects.calls kj3 _ _ t477 _ _ l0 t481 _ ?side1 ?side2 ?side3 ?side4 A15.out).mono ?_); (case side1 => repeat (first | exact (Kd.V_reads' HO479.out).2.2 | (with_reducible refine Kd.C_alloc ?_ _) | (with_reducible refine Kd.C_drewN ?_ _) | (with_reducible refine Kd.C_drew ?_))); (case side2 => exact (Kd.V_reads' HO479.out).2.1); (case side3 => repeat (first | exact (Kd.C_below HR0.out HB.out) | (with_reducible refine Kd.C_alloc ?_ _) | (with_reducible refine Kd.C_drewN ?_ _) | (with_reducible refine Kd.C_drew ?_))); (case side4 => exact HC0.out); rintro e w20 ⟨rfl, hb⟩; refine ⟨_, rfl, ?_⟩; have n0_ := Aside0.mk (Kd.N_below (by (with_reducible repeat (first | apply Kd.N_alloc | apply Kd.N_drewN | apply Kd.N_drew)); exact HO475.out) hb); have n1_ := Aside0.mk (Kd.V_below (by (with_reducible repeat (first | apply Kd.V_alloc | apply Kd.V_drewN | apply Kd.V_drew)); exact HO479.out) hb); have n2_ := Aside0.mk (below_step (by repeat (first | (with_reducible first | exact HB.out | apply below_alloc | apply pw_below_drewN | apply below_drew1) | exact HB.out)) hb); clear HO475; clear HO479; clear HB; have HO475 := n0_; have HO479 := n1_; have HB := n2_; clear n0_ n1_ n2_; (try clear hb); (try clear hb2); (try clear hk); (try clear hi)))
      (try simp only [Act.put, List.setIfInBounds_toArray, List.set_cons_zero, List.set_cons_succ])
      go_cut [65] (fun v65 wc => ∃ (kq : Nat) (x65_15 : Bool), v65 = .bool x65_15 ∧ Aside0 (aumbrylaw16_RecordSnapsBack.j1 kq l1 t470 x65_15 = some r) ∧ Aside0 (kq ≤ kj3) ∧ Aside0 (Below w.heap.size w wc))
      case first =>
       have H := HC16.out
       clear HC16
       by_cases c21 : t481 = true
       ·subst c21
        have H1 : (if t480 = 0 then (if (t473.length : Int) = 2 then (if 0 < (t473.length : Int) then (if ((rd_L2 t473 0).length : Int) > 4096 then (aumbrylaw16_RecordSnapsBack.j1 kj3 l1 t470 true) else (if 1 < (t473.length : Int) then (aumbrylaw16_RecordSnapsBack.j1 kj3 l1 t470 (decide (((rd_L2 t473 1).length : Int) > 4096))) else (none))) else (none)) else (aumbrylaw16_RecordSnapsBack.j1 kj3 l1 t470 true)) else (aumbrylaw16_RecordSnapsBack.j1 kj3 l1 t470 true)) = some r := by rw [if_pos rfl] at H; exact H
        clear H
        have H := H1
        clear H1
        by_cases c22 : t480 = 0
        ·rw [if_pos c22] at H
         have c22b0 : (t480 == 0) = true := beq_iff_eq.mpr c22
         have c22b1 : (t480 != 0) = false := bne_eq_false_iff_eq.mpr c22
         clear c22
         (first | rw [c22b0] | (simp only [i64_w, i32_w]; rw [c22b0]) | skip)
         by_cases c23 : (t473.length : Int) = 2
         ·rw [if_pos c23] at H
          have c23b0 : ((t473.length : Int) == 2) = true := beq_iff_eq.mpr c23
          have c23b1 : ((t473.length : Int) != 2) = false := bne_eq_false_iff_eq.mpr c23
          clear c23
          by_cases c24 : 0 < (t473.length : Int)
          ·rw [if_pos c24] at H
           have c24b0 : decide (0 < (t473.length : Int)) = true := decide_eq_true c24
           have c24b1 : decide (0 < t473.length) = true := decide_eq_true (by omega)
           clear c24
           by_cases c25 : ((rd_L2 t473 0).length : Int) > 4096
           ·rw [if_pos c25] at H
            have c25b0 : decide (4096 < ((rd_L2 t473 0).length : Int)) = true := decide_eq_true c25
            have c25b1 : decide (4096 < (rd_L2 t473 0).length) = true := decide_eq_true (by omega)
            clear c25
            have H' := Aside0.mk H
            clear H
            have p482 : 0 ≤ (0 : Int) := (by omega)
            have q482 : 0 < (t473.length : Int) := of_decide_eq_true (by first | (with_reducible assumption) | assumption)
            obtain ⟨ad482, A482_0, c482_0, e482, hx482_0, hl482_0, hi482_0⟩ := at_L2 (Kd.N_reads' HO475.out).2.2 0 p482 q482
            cases e482
            obtain ⟨ce482, hce482, hMe482, hcc482⟩ := Kd.N_get HO475.out [] 0 p482 (by first | exact q482 | exact of_decide_eq_true (by first | (with_reducible assumption) | assumption) | (have e_ := (Kd.N_reads' HO475.out).1; omega))
            obtain ⟨ua482_0, uc482_0, rfl, ul482_0, ge482_0⟩ := Kd.FK_slice_open hMe482
            have hv482_0 := hcc482 0 _ rfl
            rw [Nat.add_zero, show ((Kd.slice 5 (Kd.int .u8))).sz = 1 from rfl, Nat.mul_one] at hv482_0
            replace hv482_0 := Option.some.inj (hv482_0.symm.trans hx482_0)
            injection hv482_0 with hva_ hvn_ hvc_
            rw [hva_] at ge482_0
            rw [hvc_] at ul482_0
            have HL482_0 := Aside0.mk (show Kd.V (Kd.int .u8) 5 _ w.heap.size _ _ (rd_L2 t473 0) from Kd.V_mk ul482_0 ge482_0)
            clear hva_ hvn_ hvc_ ge482_0 ul482_0
            clear hcc482 hce482
            have qi482 : (0 < t473.length) = True := eq_true (by omega)
            (try rw [show ((0 : Int)).toNat = 0 from rfl] at hx482_0)
            (try rw [Addr.add_zero'] at hx482_0)
            have HR482_0 := Aside0.mk hi482_0
            have HC482_0 := Aside0.mk hl482_0
            clear hi482_0 hl482_0
            replace p482 := eq_true p482
            replace q482 := eq_true q482
            go_wp2
            go_meet
            case rel => exact ⟨_, (true), (by first | rfl | (simp; done) | (simp [*]; done)), H', ⟨by have := HJ3.out; first | omega | exact Nat.le_refl _⟩, ⟨by repeat (first | (with_reducible first | exact HB.out | apply below_alloc | apply pw_below_drewN | apply below_drew1) | exact HB.out)⟩⟩
           ·rw [if_neg c25] at H
            have c25b0 : decide (4096 < ((rd_L2 t473 0).length : Int)) = false := decide_eq_false c25
            have c25b1 : decide (4096 < (rd_L2 t473 0).length) = false := decide_eq_false (by omega)
            clear c25
            by_cases c26 : 1 < (t473.length : Int)
            ·rw [if_pos c26] at H
             have c26b0 : decide (1 < (t473.length : Int)) = true := decide_eq_true c26
             have c26b1 : decide (1 < t473.length) = true := decide_eq_true (by omega)
             clear c26
             have H' := Aside0.mk H
             clear H
             have p482 : 0 ≤ (0 : Int) := (by omega)
             have q482 : 0 < (t473.length : Int) := of_decide_eq_true (by first | (with_reducible assumption) | assumption)
             obtain ⟨ad482, A482_0, c482_0, e482, hx482_0, hl482_0, hi482_0⟩ := at_L2 (Kd.N_reads' HO475.out).2.2 0 p482 q482
             cases e482
             obtain ⟨ce482, hce482, hMe482, hcc482⟩ := Kd.N_get HO475.out [] 0 p482 (by first | exact q482 | exact of_decide_eq_true (by first | (with_reducible assumption) | assumption) | (have e_ := (Kd.N_reads' HO475.out).1; omega))
             obtain ⟨ua482_0, uc482_0, rfl, ul482_0, ge482_0⟩ := Kd.FK_slice_open hMe482
             have hv482_0 := hcc482 0 _ rfl
             rw [Nat.add_zero, show ((Kd.slice 5 (Kd.int .u8))).sz = 1 from rfl, Nat.mul_one] at hv482_0
             replace hv482_0 := Option.some.inj (hv482_0.symm.trans hx482_0)
             injection hv482_0 with hva_ hvn_ hvc_
             rw [hva_] at ge482_0
             rw [hvc_] at ul482_0
             have HL482_0 := Aside0.mk (show Kd.V (Kd.int .u8) 5 _ w.heap.size _ _ (rd_L2 t473 0) from Kd.V_mk ul482_0 ge482_0)
             clear hva_ hvn_ hvc_ ge482_0 ul482_0
             clear hcc482 hce482
             have qi482 : (0 < t473.length) = True := eq_true (by omega)
             (try rw [show ((0 : Int)).toNat = 0 from rfl] at hx482_0)
             (try rw [Addr.add_zero'] at hx482_0)
             have HR482_0 := Aside0.mk hi482_0
             have HC482_0 := Aside0.mk hl482_0
             clear hi482_0 hl482_0
             replace p482 := eq_true p482
             replace q482 := eq_true q482
             have p483 : 0 ≤ (1 : Int) := (by omega)
             have q483 : 1 < (t473.length : Int) := of_decide_eq_true (by first | (with_reducible assumption) | assumption)
             obtain ⟨ad483, A483_0, c483_0, e483, hx483_0, hl483_0, hi483_0⟩ := at_L2 (Kd.N_reads' HO475.out).2.2 1 p483 q483
             obtain rfl : ad482 = ad483 := (by injection e483)
             obtain ⟨ce483, hce483, hMe483, hcc483⟩ := Kd.N_get HO475.out [] 1 p483 (by first | exact q483 | exact of_decide_eq_true (by first | (with_reducible assumption) | assumption) | (have e_ := (Kd.N_reads' HO475.out).1; omega))
             obtain ⟨ua483_0, uc483_0, rfl, ul483_0, ge483_0⟩ := Kd.FK_slice_open hMe483
             have hv483_0 := hcc483 0 _ rfl
             rw [Nat.add_zero, show ((Kd.slice 5 (Kd.int .u8))).sz = 1 from rfl, Nat.mul_one] at hv483_0
             replace hv483_0 := Option.some.inj (hv483_0.symm.trans hx483_0)
             injection hv483_0 with hva_ hvn_ hvc_
             rw [hva_] at ge483_0
             rw [hvc_] at ul483_0
             have HL483_0 := Aside0.mk (show Kd.V (Kd.int .u8) 5 _ w.heap.size _ _ (rd_L2 t473 1) from Kd.V_mk ul483_0 ge483_0)
             clear hva_ hvn_ hvc_ ge483_0 ul483_0
             clear hcc483 hce483
             (try simp only [show (1 : Int).toNat = 1 from rfl, Nat.reduceMul, Nat.reduceEqDiff, Go.Addr.add, ↓reduceIte] at hx483_0)
             have qi483 : (1 < t473.length) = True := eq_true (by omega)
             (try rw [show ((1 : Int)).toNat = 1 from rfl] at hx483_0)
             have HR483_0 := Aside0.mk hi483_0
             have HC483_0 := Aside0.mk hl483_0
             clear hi483_0 hl483_0
             replace p483 := eq_true p483
             replace q483 := eq_true q483
             go_wp2
             go_meet
             case rel => exact ⟨_, (decide (((rd_L2 t473 1).length : Int) > 4096)), (by first | rfl | (simp; done) | (simp [*]; done)), H', ⟨by have := HJ3.out; first | omega | exact Nat.le_refl _⟩, ⟨by repeat (first | (with_reducible first | exact HB.out | apply below_alloc | apply pw_below_drewN | apply below_drew1) | exact HB.out)⟩⟩
            ·rw [if_neg c26] at H
             exact absurd H (by simp)
          ·rw [if_neg c24] at H
           exact absurd H (by simp)
         ·rw [if_neg c23] at H
          have c23b0 : ((t473.length : Int) == 2) = false := beq_eq_false_iff_ne.mpr c23
          have c23b1 : ((t473.length : Int) != 2) = true := bne_iff_ne.mpr c23
          have H' := Aside0.mk H
          clear H
          go_wp2
          go_meet
          case rel => exact ⟨_, (true), (by first | rfl | (simp; done) | (simp [*]; done)), H', ⟨by have := HJ3.out; first | omega | exact Nat.le_refl _⟩, ⟨by repeat (first | (with_reducible first | exact HB.out | apply below_alloc | apply pw_below_drewN | apply below_drew1) | exact HB.out)⟩⟩
        ·rw [if_neg c22] at H
         have c22b0 : (t480 == 0) = false := beq_eq_false_iff_ne.mpr c22
         have c22b1 : (t480 != 0) = true := bne_iff_ne.mpr c22
         (first | rw [c22b0] | (simp only [i64_w, i32_w]; rw [c22b0]) | skip)
         have H' := Aside0.mk H
         clear H
         go_wp2
         go_meet
         case rel => exact ⟨_, (true), (by first | rfl | (simp; done) | (simp [*]; done)), H', ⟨by have := HJ3.out; first | omega | exact Nat.le_refl _⟩, ⟨by repeat (first | (with_reducible first | exact HB.out | apply below_alloc | apply pw_below_drewN | apply below_drew1) | exact HB.out)⟩⟩
       ·replace c21 := Bool.eq_false_iff.mpr c21
        subst c21
        have H1 : (aumbrylaw16_RecordSnapsBack.j1 kj3 l1 t470 true) = some r := by rw [if_neg (show ¬ (false = true) by decide)] at H; exact H
        clear H
        have H := H1
        clear H1
        have H' := Aside0.mk H
        clear H
        go_wp2
        go_meet
        case rel => exact ⟨_, (true), (by first | rfl | (simp; done) | (simp [*]; done)), H', ⟨by have := HJ3.out; first | omega | exact Nat.le_refl _⟩, ⟨by repeat (first | (with_reducible first | exact HB.out | apply below_alloc | apply pw_below_drewN | apply below_drew1) | exact HB.out)⟩⟩
      case rest =>
       clear HC16
       try clear c1
       try clear c2
       try clear p2
       try clear c4
       try clear p4
       try clear q4
       try clear hx4
       try clear qi4
       try clear c7
       try clear c9
       try clear c13
       try clear c13b0
       try clear c13b1
       try clear c19
       try clear c21
       try clear c22
       try clear c22b0
       try clear c22b1
       try clear c23
       try clear c23b0
       try clear c23b1
       try clear c24
       try clear c24b0
       try clear c24b1
       try clear c25
       try clear c25b0
       try clear c25b1
       try clear c26
       try clear c26b0
       try clear c26b1
       try clear hx482_0
       try clear hx483_0
       try clear p2
       try clear p482
       try clear p483
       try clear q482
       try clear q483
       obtain ⟨kq, x65_15, rfl, HA, HJ15, HB⟩ := hcut
       cases kq with
       | zero => exact absurd HA.out (by simp [aumbrylaw16_RecordSnapsBack.j1])
       | succ kj15 =>
        have H := HA.out
        clear HA
        simp only [aumbrylaw16_RecordSnapsBack.j1] at H
        by_cases c27 : x65_15 = true
        ·subst c27
         have H1 : (some false) = some r := by rw [if_pos rfl] at H; exact H
         clear H
         have H := H1
         clear H1
         exact absurd (H.trans (congrArg some hrt.out)) (by decide)
        ·replace c27 := Bool.eq_false_iff.mpr c27
         subst c27
         have H1 : (aumbrylaw16_RecordSnapsBack.j2 kj15 l1 t470) = some r := by rw [if_neg (show ¬ (false = true) by decide)] at H; exact H
         clear H
         have H := H1
         clear H1
         have H' := Aside0.mk H
         clear H
         go_wp2
         go_meet
         case rel => exact ⟨_, H', ⟨by have := HJ3.out; have := HJ15.out; first | omega | exact Nat.le_refl _⟩, ⟨by repeat (first | (with_reducible first | exact HB.out | apply below_alloc | apply pw_below_drewN | apply below_drew1) | exact HB.out)⟩⟩
     ·rw [if_neg c13] at H
      have c13b0 : (t476 == 0) = false := beq_eq_false_iff_ne.mpr c13
      have c13b1 : (t476 != 0) = true := bne_iff_ne.mpr c13
      (first | rw [c13b0] | (simp only [i64_w, i32_w]; rw [c13b0]) | skip)
      have H' := Aside0.mk H
      clear H
      go_wp2
      go_meet
      case rel => exact ⟨_, H', ⟨by have := HJ3.out; first | omega | exact Nat.le_refl _⟩, ⟨by repeat (first | (with_reducible first | exact HB.out | apply below_alloc | apply pw_below_drewN | apply below_drew1) | exact HB.out)⟩⟩
    case rest =>
     clear HC11
     try clear c1
     try clear c2
     try clear p2
     try clear c4
     try clear p4
     try clear q4
     try clear hx4
     try clear qi4
     try clear c7
     try clear c9
     try clear c13
     try clear c13b0
     try clear c13b1
     try clear c19
     try clear c21
     try clear c22
     try clear c22b0
     try clear c22b1
     try clear c23
     try clear c23b0
     try clear c23b1
     try clear c24
     try clear c24b0
     try clear c24b1
     try clear c25
     try clear c25b0
     try clear c25b1
     try clear c26
     try clear c26b0
     try clear c26b1
     try clear c27
     try clear hx482_0
     try clear hx483_0
     try clear p2
     try clear p4
     try clear p482
     try clear p483
     try clear q4
     try clear q482
     try clear q483
     obtain ⟨kq, HA, HJ10, HB⟩ := hcut
     cases kq with
     | zero => exact absurd HA.out (by simp [aumbrylaw16_RecordSnapsBack.j2])
     | succ kj10 =>
      have H := HA.out
      clear HA
      simp only [aumbrylaw16_RecordSnapsBack.j2] at H
      replace H := Option.bind_eq_some_iff.mp H
      obtain ⟨⟨t484, t487⟩, A280, H⟩ := H
      replace H : (if t487 = 0 then ((record_Snap.f kj10 t484).bind fun bt488 => ((aumbryref16_Parts.f kj10 bt488.1 l1).bind fun t492 => (if t470 = true then (if t492 = true then (some (bt488.2 == 0)) else (some false)) else (some false)))) else (if t470 = true then (some ((t484.length : Int) == 0)) else (some false))) = some r := H
      have A28 := Aside0.mk A280
      clear A280
      by_cases c29 : t487 = 0
      ·rw [if_pos c29] at H
       have c29b0 : (t487 == 0) = true := beq_iff_eq.mpr c29
       have c29b1 : (t487 != 0) = false := bne_eq_false_iff_eq.mpr c29
       clear c29
       replace H := Option.bind_eq_some_iff.mp H
       obtain ⟨⟨t488, t491⟩, A300, H⟩ := H
       replace H : ((aumbryref16_Parts.f kj10 t488 l1).bind fun t492 => (if t470 = true then (if t492 = true then (some (t491 == 0)) else (some false)) else (some false))) = some r := H
       have A30 := Aside0.mk A300
       clear A300
       replace H := Option.bind_eq_some_iff.mp H
       obtain ⟨t492, A310, H⟩ := H
       replace H : (if t470 = true then (if t492 = true then (some (t491 == 0)) else (some false)) else (some false)) = some r := H
       have A31 := Aside0.mk A310
       clear A310
       by_cases c32 : t470 = true
       ·subst c32
        have H1 : (if t492 = true then (some (t491 == 0)) else (some false)) = some r := by rw [if_pos rfl] at H; exact H
        clear H
        have H := H1
        clear H1
        by_cases c33 : t492 = true
        ·subst c33
         have H1 : (some (t491 == 0)) = some r := by rw [if_pos rfl] at H; exact H
         clear H
         have H := H1
         clear H1
         obtain rfl := Option.some.inj H
         go_wp2_with (first | ((with_reducible refine gate_callee (f := 23) rfl ?_); refine goesL_ (some 68) rfl rfl Try.func23 (by kernel_rfl) rfl #[.slice A1 l1.length c1] rfl (by (try simp only [List.map_toArray, List.map_cons, List.map_nil]); first | done | rfl | (simp only [List.length_drop, List.length_take]; rfl)) ?_; (with_reducible refine (record_Unsnap.calls kj10 _ _ l1 t484 t487 _ ?side1 ?side2 A28.out).mono ?_); (case side1 => repeat (first | exact (Kd.C_below HR1.out HB.out) | (with_reducible refine Kd.C_alloc ?_ _) | (with_reducible refine Kd.C_drewN ?_ _) | (with_reducible refine Kd.C_drew ?_))); (case side2 => exact HC1.out); rintro e w34 ⟨v485, rfl, ho0, hb⟩; refine ⟨_, rfl, ?_⟩; have n0_ := Aside0.mk (Kd.V_lower (Kd.V_mono (ok' := fun k_ => True) ho0 (fun k_ hk_ => trivial)) (below_size (by repeat (first | (with_reducible first | exact HB.out | apply below_alloc | apply pw_below_drewN | apply below_drew1) | exact HB.out)))); have n1_ := Aside0.mk (below_step (by repeat (first | (with_reducible first | exact HB.out | apply below_alloc | apply pw_below_drewN | apply below_drew1) | exact HB.out)) hb); clear HB; have HO486 := n0_; have HB := n1_; clear n0_ n1_; (try clear hb); (try clear hb2); (try clear hk); (try clear hi); (try clear ho0); obtain ⟨Ao35, co35, eo35⟩ := Kd.V_slice HO486.out; subst eo35) | ((with_reducible refine gate_callee (f := 21) rfl ?_); refine goesL_ (some 81) rfl rfl Try.func21 (by kernel_rfl) rfl #[.slice Ao35 t484.length co35] rfl (by (try simp only [List.map_toArray, List.map_cons, List.map_nil]); first | done | rfl | (simp only [List.length_drop, List.length_take]; rfl)) ?_; (with_reducible refine (record_Snap.calls kj10 (fun k_ => True) _ _ t484 t488 t491 _ ?side1 A30.out).mono ?_); (case side1 => exact HO486.out); rintro e w36 ⟨v489, rfl, ho0, hb⟩; refine ⟨_, rfl, ?_⟩; have n0_ := Aside0.mk (Kd.V_elder' (by (with_reducible repeat (first | apply Kd.V_alloc | apply Kd.V_drewN | apply Kd.V_drew)); exact HO486.out) (Kd.N_base ho0) hb); have n1_ := Aside0.mk (Kd.N_lower (Kd.N_mono (ok' := fun k_ => True) ho0 (fun k_ hk_ => trivial)) (below_size (by repeat (first | (with_reducible first | exact HB.out | apply below_alloc | apply pw_below_drewN | apply below_drew1) | exact HB.out)))); have n2_ := Aside0.mk (below_step (by repeat (first | (with_reducible first | exact HB.out | apply below_alloc | apply pw_below_drewN | apply below_drew1) | exact HB.out)) hb); clear HO486; clear HB; have HO486 := n0_; have HO490 := n1_; have HB := n2_; clear n0_ n1_ n2_; (try clear hb); (try clear hb2); (try clear hk); (try clear hi); (try clear ho0); obtain ⟨Ao37, co37, eo37⟩ := Kd.N_slice HO490.out; subst eo37) | ((with_reducible refine gate_callee (f := 25) rfl ?_); refine goesL_ (some 86) rfl rfl Try.func25 (by kernel_rfl) rfl #[.slice Ao37 t488.length co37, .slice A1 l1.length c1] rfl (by (try simp only [List.map_toArray, List.map_cons, List.map_nil]); first | done | rfl | (simp only [List.length_drop, List.length_take]; rfl)) ?_; (with_reducible refine (aumbryref16_Parts.calls kj10 _ _ t488 _ _ l1 true _ ?side1 ?side2 ?side3 ?side4 A31.out).mono ?_); (case side1 => repeat (first | exact (Kd.N_reads' HO490.out).2.2 | (with_reducible refine Kd.C_alloc ?_ _) | (with_reducible refine Kd.C_drewN ?_ _) | (with_reducible refine Kd.C_drew ?_))); (case side2 => exact (Kd.N_reads' HO490.out).2.1); (case side3 => repeat (first | exact (Kd.C_below HR1.out HB.out) | (with_reducible refine Kd.C_alloc ?_ _) | (with_reducible refine Kd.C_drewN ?_ _) | (with_reducible refine Kd.C_drew ?_))); (case side4 => exact HC1.out); rintro e w' ⟨rfl, ⟨nd, rfl⟩⟩; refine ⟨_, rfl, ?_⟩))
         go_ret
         exact ⟨by first | rfl | (simp [errW_none, errW_some] <;> rfl) | (simp [*, errW_none, errW_some] <;> rfl), by repeat (first | (with_reducible first | exact HB.out | apply below_alloc | apply pw_below_drewN | apply below_drew1) | exact HB.out)⟩
        ·replace c33 := Bool.eq_false_iff.mpr c33
         subst c33
         have H1 : (some false) = some r := by rw [if_neg (show ¬ (false = true) by decide)] at H; exact H
         clear H
         have H := H1
         clear H1
         exact absurd (H.trans (congrArg some hrt.out)) (by decide)
       ·replace c32 := Bool.eq_false_iff.mpr c32
        subst c32
        have H1 : (some false) = some r := by rw [if_neg (show ¬ (false = true) by decide)] at H; exact H
        clear H
        have H := H1
        clear H1
        exact absurd (H.trans (congrArg some hrt.out)) (by decide)
      ·rw [if_neg c29] at H
       have c29b0 : (t487 == 0) = false := beq_eq_false_iff_ne.mpr c29
       have c29b1 : (t487 != 0) = true := bne_iff_ne.mpr c29
       by_cases c46 : t470 = true
       ·subst c46
        have H1 : (some ((t484.length : Int) == 0)) = some r := by rw [if_pos rfl] at H; exact H
        clear H
        have H := H1
        clear H1
        obtain rfl := Option.some.inj H
        go_wp2_with (first | ((with_reducible refine gate_callee (f := 23) rfl ?_); refine goesL_ (some 68) rfl rfl Try.func23 (by kernel_rfl) rfl #[.slice A1 l1.length c1] rfl (by (try simp only [List.map_toArray, List.map_cons, List.map_nil]); first | done | rfl | (simp only [List.length_drop, List.length_take]; rfl)) ?_; (with_reducible refine (record_Unsnap.calls kj10 _ _ l1 t484 t487 _ ?side1 ?side2 A28.out).mono ?_); (case side1 => repeat (first | exact (Kd.C_below HR1.out HB.out) | (with_reducible refine Kd.C_alloc ?_ _) | (with_reducible refine Kd.C_drewN ?_ _) | (with_reducible refine Kd.C_drew ?_))); (case side2 => exact HC1.out); rintro e w47 ⟨v485, rfl, ho0, hb⟩; refine ⟨_, rfl, ?_⟩; have n0_ := Aside0.mk (Kd.V_lower (Kd.V_mono (ok' := fun k_ => True) ho0 (fun k_ hk_ => trivial)) (below_size (by repeat (first | (with_reducible first | exact HB.out | apply below_alloc | apply pw_below_drewN | apply below_drew1) | exact HB.out)))); have n1_ := Aside0.mk (below_step (by repeat (first | (with_reducible first | exact HB.out | apply below_alloc | apply pw_below_drewN | apply below_drew1) | exact HB.out)) hb); clear HB; have HO486 := n0_; have HB := n1_; clear n0_ n1_; (try clear hb); (try clear hb2); (try clear hk); (try clear hi); (try clear ho0); obtain ⟨Ao48, co48, eo48⟩ := Kd.V_slice HO486.out; subst eo48))
        go_ret
        exact ⟨by first | rfl | (simp [errW_none, errW_some] <;> rfl) | (simp [*, errW_none, errW_some] <;> rfl), by repeat (first | (with_reducible first | exact HB.out | apply below_alloc | apply pw_below_drewN | apply below_drew1) | exact HB.out)⟩
       ·replace c46 := Bool.eq_false_iff.mpr c46
        subst c46
        have H1 : (some false) = some r := by rw [if_neg (show ¬ (false = true) by decide)] at H; exact H
        clear H
        have H := H1
        clear H1
        exact absurd (H.trans (congrArg some hrt.out)) (by decide)

end Go.Proofs.Ytoeegdpkmdgkdaa.PAll
