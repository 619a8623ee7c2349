-- LAID BY A PROGRAM OF THIS SESSION (wip/tools: the kit's print with changes of our own)
import Derived.Test.YtoeegdpkmdgkdaaPAllx0
import Derived.Test.YtoeegdpkmdgkdaaPAllx9
namespace Go.Proofs.Ytoeegdpkmdgkdaa.PAll
open Go.RowKit Go.Proofs.YtoeegdpkmdgkdaaW.PrintWords Go.Proofs.YtoeegdpkmdgkdaaW.PrintLast Go.Proofs.YtoeegdpkmdgkdaaW.PrintMore
attribute [local go_sem] min2_int min_two   -- for this text's walks alone
set_option linter.unusedVariables false
set_option linter.unusedSimpArgs false

/-! ### aumbrylaw16_little: function 19 -/
mutual
def aumbrylaw16_little.l0 : Nat → List (S61) → Int → Option (Bool)
 | 0, _, _ => none
 | k + 1, x0, x3 => if x3 < (x0.length : Int) then (if 0 ≤ x3 then (if (((rd_T61 x0 x3).f0).size : Int) > 100 then (aumbrylaw16_little.j1 k x0 x3 true) else (aumbrylaw16_little.j1 k x0 x3 (decide ((((rd_T61 x0 x3).f3).length : Int) > 300)))) else (none)) else (some true)
def aumbrylaw16_little.j1 : Nat → List (S61) → Int → Bool → Option (Bool)
 | 0, _, _, _ => none
 | k + 1, x0, x3, x28 => if x28 = true then (some false) else (aumbrylaw16_little.l0 k x0 (wrap64 (x3 + 1)))
end
def aumbrylaw16_little.f (k : Nat) (l0 : List (S61)) : Option (Bool) := if (l0.length : Int) > 70 then (some false) else (aumbrylaw16_little.l0 k l0 0)
theorem aumbrylaw16_little.mono_l : ∀ k, (∀ y0 y1, LeO (aumbrylaw16_little.l0 k y0 y1) (aumbrylaw16_little.l0 (k + 1) y0 y1)) ∧ (∀ y0 y1 y2, LeO (aumbrylaw16_little.j1 k y0 y1 y2) (aumbrylaw16_little.j1 (k + 1) y0 y1 y2))
 | 0 => ⟨fun _ _ r h => by simp [aumbrylaw16_little.l0] at h, fun _ _ _ r h => by simp [aumbrylaw16_little.j1] at h⟩
 | k + 1 => by
  obtain ⟨ih0, ih1⟩ := aumbrylaw16_little.mono_l k
  refine ⟨?_, ?_⟩
  ·intro y0 y1
   unfold aumbrylaw16_little.l0
   repeat' first
   | (with_reducible exact ih0 _ _)
   | (with_reducible exact ih1 _ _ _)
   | (with_reducible exact LeO.refl _)
   | (with_reducible exact LeO.none _)
   | (with_reducible refine LeO.ite ?_ ?_)
   | (with_reducible refine LeO.bind ?_ (fun _ => ?_))
   | exact ih0 _ _
   | exact ih1 _ _ _
   | exact LeO.none _
   | refine LeO.ite ?_ ?_
   | refine LeO.bind ?_ (fun _ => ?_)
  ·intro y0 y1 y2
   unfold aumbrylaw16_little.j1
   repeat' first
   | (with_reducible exact ih0 _ _)
   | (with_reducible exact ih1 _ _ _)
   | (with_reducible exact LeO.refl _)
   | (with_reducible exact LeO.none _)
   | (with_reducible refine LeO.ite ?_ ?_)
   | (with_reducible refine LeO.bind ?_ (fun _ => ?_))
   | exact ih0 _ _
   | exact ih1 _ _ _
   | exact LeO.none _
   | refine LeO.ite ?_ ?_
   | refine LeO.bind ?_ (fun _ => ?_)
theorem aumbrylaw16_little.mono : ∀ a0 k, LeO (aumbrylaw16_little.f k a0) (aumbrylaw16_little.f (k + 1) a0) := by
 intro a0 k
 obtain ⟨ih0, ih1⟩ := aumbrylaw16_little.mono_l k
 unfold aumbrylaw16_little.f
 repeat' first
   | (with_reducible exact ih0 _ _)
   | (with_reducible exact ih1 _ _ _)
   | (with_reducible exact LeO.refl _)
   | (with_reducible exact LeO.none _)
   | (with_reducible refine LeO.ite ?_ ?_)
   | (with_reducible refine LeO.bind ?_ (fun _ => ?_))
   | exact ih0 _ _
   | exact ih1 _ _ _
   | exact LeO.none _
   | refine LeO.ite ?_ ?_
   | refine LeO.bind ?_ (fun _ => ?_)
set_option maxHeartbeats 8000000 in
set_option maxRecDepth 100000 in
theorem aumbrylaw16_little.calls (k : Nat) (A0 : Option Addr) (c0 : Nat) (l0 : List (S61)) (r : Bool) (w : World) (hr0 : Kd.C k61 w A0 l0.length l0) (hc0 : l0.length ≤ c0) (h : aumbrylaw16_little.f k l0 = some r) :
  Calls Try.prog 19 #[.slice A0 l0.length c0] w fun e w' => e = .returned (.bool r) ∧ Drawn0 w w' := by
 have HR0 := Aside0.mk hr0
 have HC0 := Aside0.mk hc0
 clear hr0 hc0
 have H : (if (l0.length : Int) > 70 then (some false) else (aumbrylaw16_little.l0 k l0 0)) = some r := h
 clear h
 by_cases c2 : (l0.length : Int) > 70
 ·rw [if_pos c2] at H
  have c2b0 : decide (70 < (l0.length : Int)) = true := decide_eq_true c2
  have c2b1 : decide (70 < l0.length) = true := decide_eq_true (by omega)
  clear c2
  obtain rfl := Option.some.inj H
  go_enter Try.func19, Try.ntmps19
  go_wp2
  go_ret
  exact ⟨by first | rfl | (simp; done) | (simp [*]; done), by repeat (first | exact Drawn0.refl _ | apply Drawn0.step)⟩
 ·rw [if_neg c2] at H
  have c2b0 : decide (70 < (l0.length : Int)) = false := decide_eq_false c2
  have c2b1 : decide (70 < l0.length) = false := decide_eq_false (by omega)
  clear c2
  have H' := Aside0.mk H
  clear H
  go_enter Try.func19, Try.ntmps19
  go_wp2
  go_loopg [3] k (fun kq v3 w' => ∃ (x3_1 : Int), v3 = .int .i64 x3_1 ∧ Aside0 (aumbrylaw16_little.l0 kq l0 x3_1 = some r) ∧ Aside0 (kq ≤ k) ∧ Drawn0 w w')
  case atStart => exact ⟨(0), (by first | rfl | (simp; done) | (simp [*]; done)), H', ⟨Nat.le_refl _⟩, by repeat (first | exact Drawn0.refl _ | apply Drawn0.step)⟩
  case round =>
   clear H'
   try clear c1
   try clear c2
   try clear c2b0
   try clear c2b1
   try clear p2
   obtain ⟨x3_1, rfl, HA, HK1, ⟨m1, rfl⟩⟩ := hrel
   cases gk with
   | zero => exact absurd HA.out (by simp [aumbrylaw16_little.l0])
   | succ k1 =>
    have H := HA.out
    clear HA
    simp only [aumbrylaw16_little.l0] at H
    by_cases c3 : x3_1 < (l0.length : Int)
    ·rw [if_pos c3] at H
     have c3b0 : decide (x3_1 < (l0.length : Int)) = true := decide_eq_true c3
     clear c3
     have HC4 := Aside0.mk H
     clear H
     go_upto_region 6 with (fail)
     go_cut [28] (fun v28 wc => ∃ (kq : Nat) (x28_3 : Bool), v28 = .bool x28_3 ∧ Aside0 (aumbrylaw16_little.j1 kq l0 x3_1 x28_3 = some r) ∧ Aside0 (kq ≤ k1) ∧ Drawn0 w wc)
     case first =>
      have H := HC4.out
      clear HC4
      by_cases c5 : 0 ≤ x3_1
      ·rw [if_pos c5] at H
       have c5b0 : decide (0 ≤ x3_1) = true := decide_eq_true c5
       clear c5
       (first | rw [c5b0] | (simp only [i64_w, i32_w]; rw [c5b0]) | skip)
       by_cases c6 : (((rd_T61 l0 x3_1).f0).size : Int) > 100
       ·rw [if_pos c6] at H
        have c6b0 : decide (100 < (((rd_T61 l0 x3_1).f0).size : Int)) = true := decide_eq_true c6
        have c6b1 : decide (100 < ((rd_T61 l0 x3_1).f0).size) = true := decide_eq_true (by omega)
        clear c6
        have H' := Aside0.mk H
        clear H
        have p328 : 0 ≤ (x3_1 : Int) := of_decide_eq_true (by first | (with_reducible assumption) | assumption)
        have q328 : x3_1 < (l0.length : Int) := of_decide_eq_true (by first | (with_reducible assumption) | assumption)
        obtain ⟨ad328, A328_3, c328_3, e328, hx328_0, hx328_1, hx328_2, hx328_3, hl328_3, hi328_3⟩ := at_T61 HR0.out x3_1 p328 q328
        cases e328
        have HR328_3 := Aside0.mk hi328_3
        have HC328_3 := Aside0.mk hl328_3
        clear hi328_3 hl328_3
        replace p328 := eq_true p328
        replace q328 := eq_true q328
        go_wp2
        go_meet
        case rel => exact ⟨_, (true), (by first | rfl | (simp; done) | (simp [*]; done)), H', ⟨by have := HK1.out; first | omega | exact Nat.le_refl _⟩, by repeat (first | exact Drawn0.refl _ | apply Drawn0.step)⟩
       ·rw [if_neg c6] at H
        have c6b0 : decide (100 < (((rd_T61 l0 x3_1).f0).size : Int)) = false := decide_eq_false c6
        have c6b1 : decide (100 < ((rd_T61 l0 x3_1).f0).size) = false := decide_eq_false (by omega)
        clear c6
        have H' := Aside0.mk H
        clear H
        have p328 : 0 ≤ (x3_1 : Int) := of_decide_eq_true (by first | (with_reducible assumption) | assumption)
        have q328 : x3_1 < (l0.length : Int) := of_decide_eq_true (by first | (with_reducible assumption) | assumption)
        obtain ⟨ad328, A328_3, c328_3, e328, hx328_0, hx328_1, hx328_2, hx328_3, hl328_3, hi328_3⟩ := at_T61 HR0.out x3_1 p328 q328
        cases e328
        have HR328_3 := Aside0.mk hi328_3
        have HC328_3 := Aside0.mk hl328_3
        clear hi328_3 hl328_3
        replace p328 := eq_true p328
        replace q328 := eq_true q328
        have p329 : 0 ≤ (x3_1 : Int) := of_decide_eq_true (by first | (with_reducible assumption) | assumption)
        have q329 : x3_1 < (l0.length : Int) := of_decide_eq_true (by first | (with_reducible assumption) | assumption)
        obtain ⟨ad329, A329_3, c329_3, e329, hx329_0, hx329_1, hx329_2, hx329_3, hl329_3, hi329_3⟩ := at_T61 HR0.out x3_1 p329 q329
        obtain rfl : ad328 = ad329 := (by injection e329)
        have HR329_3 := Aside0.mk hi329_3
        have HC329_3 := Aside0.mk hl329_3
        clear hi329_3 hl329_3
        replace p329 := eq_true p329
        replace q329 := eq_true q329
        have ea_ := Option.some.inj (hx328_3.symm.trans hx329_3)
        injection ea_ with ea_ en_ ec_
        subst ea_
        subst ec_
        clear en_
        go_wp2
        go_meet
        case rel => exact ⟨_, (decide ((((rd_T61 l0 x3_1).f3).length : Int) > 300)), (by first | rfl | (simp; done) | (simp [*]; done)), H', ⟨by have := HK1.out; first | omega | exact Nat.le_refl _⟩, by repeat (first | exact Drawn0.refl _ | apply Drawn0.step)⟩
      ·rw [if_neg c5] at H
       exact absurd H (by simp)
     case rest =>
      clear HC4
      try clear c1
      try clear c2
      try clear c2b0
      try clear c2b1
      try clear p2
      try clear c3
      try clear c3b0
      try clear p3
      try clear q3
      try clear hx3
      try clear c5
      try clear c5b0
      try clear c6
      try clear c6b0
      try clear c6b1
      try clear hx328_0
      try clear hx328_1
      try clear hx328_2
      try clear hx328_3
      try clear hx329_0
      try clear hx329_1
      try clear hx329_2
      try clear hx329_3
      try clear p2
      try clear p328
      try clear p329
      try clear q328
      try clear q329
      obtain ⟨kq, x28_3, rfl, HA, HJ3, ⟨mc3, rfl⟩⟩ := hcut
      cases kq with
      | zero => exact absurd HA.out (by simp [aumbrylaw16_little.j1])
      | succ kj3 =>
       have H := HA.out
       clear HA
       simp only [aumbrylaw16_little.j1] at H
       by_cases c7 : x28_3 = true
       ·subst c7
        have H1 : (some false) = some r := by rw [if_pos rfl] at H; exact H
        clear H
        have H := H1
        clear H1
        obtain rfl := Option.some.inj H
        go_wp2
        go_ret
        exact ⟨by first | rfl | (simp; done) | (simp [*]; done), by repeat (first | exact Drawn0.refl _ | apply Drawn0.step)⟩
       ·replace c7 := Bool.eq_false_iff.mpr c7
        subst c7
        have H1 : (aumbrylaw16_little.l0 kj3 l0 (wrap64 (x3_1 + 1))) = some r := by rw [if_neg (show ¬ (false = true) by decide)] at H; exact H
        clear H
        have H := H1
        clear H1
        have H' := Aside0.mk H
        clear H
        go_wp2
        go_roundg kj3
        case measure => have := HK1.out; have := HJ3.out; omega
        case rel => exact ⟨(wrap64 (x3_1 + 1)), (by first | rfl | (simp; done) | (simp [*]; done)), H', ⟨by have := HK1.out; have := HJ3.out; omega⟩, by repeat (first | exact Drawn0.refl _ | apply Drawn0.step)⟩
    ·rw [if_neg c3] at H
     have c3b0 : decide (x3_1 < (l0.length : Int)) = false := decide_eq_false c3
     clear c3
     obtain rfl := Option.some.inj H
     go_wp2
     go_ret
     exact ⟨by first | rfl | (simp; done) | (simp [*]; done), by repeat (first | exact Drawn0.refl _ | apply Drawn0.step)⟩

/-! ### aumbrylaw16_short: function 20 -/
def aumbrylaw16_short.l0 : Nat → List (List Int) → Int → Option (Bool)
 | 0, _, _ => none
 | k + 1, x0, x3 => if x3 < (x0.length : Int) then (if 0 ≤ x3 then (if ((rd_L2 x0 x3).length : Int) > 5000 then (some false) else (aumbrylaw16_short.l0 k x0 (wrap64 (x3 + 1)))) else (none)) else (some true)
def aumbrylaw16_short.f (k : Nat) (l0 : List (List Int)) : Option (Bool) := if (l0.length : Int) > 5 then (some false) else (aumbrylaw16_short.l0 k l0 0)
theorem aumbrylaw16_short.mono_l : ∀ k, (∀ y0 y1, LeO (aumbrylaw16_short.l0 k y0 y1) (aumbrylaw16_short.l0 (k + 1) y0 y1))
 | 0 => fun _ _ r h => by simp [aumbrylaw16_short.l0] at h
 | k + 1 => by
  have ih0 := aumbrylaw16_short.mono_l k
  ·intro y0 y1
   unfold aumbrylaw16_short.l0
   repeat' first
   | (with_reducible exact ih0 _ _)
   | (with_reducible exact LeO.refl _)
   | (with_reducible exact LeO.none _)
   | (with_reducible refine LeO.ite ?_ ?_)
   | (with_reducible refine LeO.bind ?_ (fun _ => ?_))
   | exact ih0 _ _
   | exact LeO.none _
   | refine LeO.ite ?_ ?_
   | refine LeO.bind ?_ (fun _ => ?_)
theorem aumbrylaw16_short.mono : ∀ a0 k, LeO (aumbrylaw16_short.f k a0) (aumbrylaw16_short.f (k + 1) a0) := by
 intro a0 k
 have ih0 := aumbrylaw16_short.mono_l k
 unfold aumbrylaw16_short.f
 repeat' first
   | (with_reducible exact ih0 _ _)
   | (with_reducible exact LeO.refl _)
   | (with_reducible exact LeO.none _)
   | (with_reducible refine LeO.ite ?_ ?_)
   | (with_reducible refine LeO.bind ?_ (fun _ => ?_))
   | exact ih0 _ _
   | exact LeO.none _
   | refine LeO.ite ?_ ?_
   | refine LeO.bind ?_ (fun _ => ?_)
set_option maxHeartbeats 8000000 in
set_option maxRecDepth 100000 in
theorem aumbrylaw16_short.calls (k : Nat) (A0 : Option Addr) (c0 : Nat) (l0 : List (List Int)) (r : Bool) (w : World) (hr0 : Kd.C (Kd.slice 5 (Kd.int .u8)) w A0 l0.length l0) (hc0 : l0.length ≤ c0) (h : aumbrylaw16_short.f k l0 = some r) :
  Calls Try.prog 20 #[.slice A0 l0.length c0] w fun e w' => e = .returned (.bool r) ∧ Drawn0 w w' := by
 have HR0 := Aside0.mk hr0
 have HC0 := Aside0.mk hc0
 clear hr0 hc0
 have H : (if (l0.length : Int) > 5 then (some false) else (aumbrylaw16_short.l0 k l0 0)) = some r := h
 clear h
 by_cases c2 : (l0.length : Int) > 5
 ·rw [if_pos c2] at H
  have c2b0 : decide (5 < (l0.length : Int)) = true := decide_eq_true c2
  have c2b1 : decide (5 < l0.length) = true := decide_eq_true (by omega)
  clear c2
  obtain rfl := Option.some.inj H
  go_enter Try.func20, Try.ntmps20
  go_wp2
  go_ret
  exact ⟨by first | rfl | (simp; done) | (simp [*]; done), by repeat (first | exact Drawn0.refl _ | apply Drawn0.step)⟩
 ·rw [if_neg c2] at H
  have c2b0 : decide (5 < (l0.length : Int)) = false := decide_eq_false c2
  have c2b1 : decide (5 < l0.length) = false := decide_eq_false (by omega)
  clear c2
  have H' := Aside0.mk H
  clear H
  go_enter Try.func20, Try.ntmps20
  go_wp2
  go_loopg [3] k (fun kq v3 w' => ∃ (x3_1 : Int), v3 = .int .i64 x3_1 ∧ Aside0 (aumbrylaw16_short.l0 kq l0 x3_1 = some r) ∧ Aside0 (kq ≤ k) ∧ Drawn0 w w')
  case atStart => exact ⟨(0), (by first | rfl | (simp; done) | (simp [*]; done)), H', ⟨Nat.le_refl _⟩, by repeat (first | exact Drawn0.refl _ | apply Drawn0.step)⟩
  case round =>
   clear H'
   try clear c2
   try clear c2b0
   try clear c2b1
   try clear p2
   obtain ⟨x3_1, rfl, HA, HK1, ⟨m1, rfl⟩⟩ := hrel
   cases gk with
   | zero => exact absurd HA.out (by simp [aumbrylaw16_short.l0])
   | succ k1 =>
    have H := HA.out
    clear HA
    simp only [aumbrylaw16_short.l0] at H
    by_cases c3 : x3_1 < (l0.length : Int)
    ·rw [if_pos c3] at H
     have c3b0 : decide (x3_1 < (l0.length : Int)) = true := decide_eq_true c3
     clear c3
     by_cases c4 : 0 ≤ x3_1
     ·rw [if_pos c4] at H
      have c4b0 : decide (0 ≤ x3_1) = true := decide_eq_true c4
      clear c4
      by_cases c5 : ((rd_L2 l0 x3_1).length : Int) > 5000
      ·rw [if_pos c5] at H
       have c5b0 : decide (5000 < ((rd_L2 l0 x3_1).length : Int)) = true := decide_eq_true c5
       have c5b1 : decide (5000 < (rd_L2 l0 x3_1).length) = true := decide_eq_true (by omega)
       clear c5
       obtain rfl := Option.some.inj H
       have p330 : 0 ≤ (x3_1 : Int) := of_decide_eq_true (by first | (with_reducible assumption) | assumption)
       have q330 : x3_1 < (l0.length : Int) := of_decide_eq_true (by first | (with_reducible assumption) | assumption)
       obtain ⟨ad330, A330_0, c330_0, e330, hx330_0, hl330_0, hi330_0⟩ := at_L2 HR0.out x3_1 p330 q330
       cases e330
       have HR330_0 := Aside0.mk hi330_0
       have HC330_0 := Aside0.mk hl330_0
       clear hi330_0 hl330_0
       replace p330 := eq_true p330
       replace q330 := eq_true q330
       go_wp2
       go_ret
       exact ⟨by first | rfl | (simp; done) | (simp [*]; done), by repeat (first | exact Drawn0.refl _ | apply Drawn0.step)⟩
      ·rw [if_neg c5] at H
       have c5b0 : decide (5000 < ((rd_L2 l0 x3_1).length : Int)) = false := decide_eq_false c5
       have c5b1 : decide (5000 < (rd_L2 l0 x3_1).length) = false := decide_eq_false (by omega)
       clear c5
       have H' := Aside0.mk H
       clear H
       have p330 : 0 ≤ (x3_1 : Int) := of_decide_eq_true (by first | (with_reducible assumption) | assumption)
       have q330 : x3_1 < (l0.length : Int) := of_decide_eq_true (by first | (with_reducible assumption) | assumption)
       obtain ⟨ad330, A330_0, c330_0, e330, hx330_0, hl330_0, hi330_0⟩ := at_L2 HR0.out x3_1 p330 q330
       cases e330
       have HR330_0 := Aside0.mk hi330_0
       have HC330_0 := Aside0.mk hl330_0
       clear hi330_0 hl330_0
       replace p330 := eq_true p330
       replace q330 := eq_true q330
       go_wp2
       go_roundg k1
       case measure => have := HK1.out; omega
       case rel => exact ⟨(wrap64 (x3_1 + 1)), (by first | rfl | (simp; done) | (simp [*]; done)), H', ⟨by have := HK1.out; omega⟩, by repeat (first | exact Drawn0.refl _ | apply Drawn0.step)⟩
     ·rw [if_neg c4] at H
      exact absurd H (by simp)
    ·rw [if_neg c3] at H
     have c3b0 : decide (x3_1 < (l0.length : Int)) = false := decide_eq_false c3
     clear c3
     obtain rfl := Option.some.inj H
     go_wp2
     go_ret
     exact ⟨by first | rfl | (simp; done) | (simp [*]; done), by repeat (first | exact Drawn0.refl _ | apply Drawn0.step)⟩

/-! ### aumbryref16_put: function 39 -/
def aumbryref16_put.f (a0_0 : ByteArray) (a0_1 : Int) (a0_2 : Int) (l0_3 : List Int) : Option (Int × ByteArray × Int × List Int) := some (1, a0_0, a0_1, l0_3)
set_option maxHeartbeats 8000000 in
set_option maxRecDepth 100000 in
theorem aumbryref16_put.calls (a0_0 : ByteArray) (a0_1 : Int) (a0_2 : Int) (P0_3_ : Nat → Prop) (A0_3 : Option Addr) (c0_3 : Nat) (l0_3 : List Int) (r1 : Int) (r2 : ByteArray) (r3 : Int) (r4 : List Int) (w : World) (hs0_3 : Kd.V (Kd.int .i64) 3 w w.heap.size (fun k_ => P0_3_ k_) (.slice A0_3 l0_3.length c0_3) l0_3) (h : aumbryref16_put.f a0_0 a0_1 a0_2 l0_3 = some (r1, r2, r3, r4)) :
  Calls Try.prog 39 #[.agg #[.string a0_0, .int .i64 a0_1, .int .i64 a0_2, .slice A0_3 l0_3.length c0_3]] w fun e w' => ∃ v3_ : Value, e = .returned (.agg #[.int .i64 r1, .string r2, .int .i64 r3, v3_]) ∧ Kd.V (Kd.int .i64) 3 w' w.heap.size (fun k_ => (P0_3_ k_ ∨ w.heap.size ≤ k_)) v3_ r4 ∧ Below w.heap.size w w' := by
 have hu61 := Try.underlying61
 have hu25 := Try.underlying25
 have HO0_3 := Aside0.mk (show Kd.V (Kd.int .i64) 3 w w.heap.size (fun k_ => (P0_3_ k_ ∨ w.heap.size ≤ k_)) (.slice A0_3 l0_3.length c0_3) l0_3 from Kd.V_mono hs0_3 (fun k_ hk => .inl hk))
 have HB := Aside0.mk (Below.refl w.heap.size w)
 have H : (some (1, a0_0, a0_1, l0_3)) = some (r1, r2, r3, r4) := h
 clear h
 simp only [Option.some.injEq, Prod.mk.injEq] at H
 obtain ⟨rfl, rfl, rfl, rfl⟩ := H
 go_enter Try.func39, Try.ntmps39
 go_wp2_with (first | ((with_reducible refine gate_dst (N := 1) rfl ?_); refine box_event ?hg (N := 1) ?hd (cs := #[.string a0_0, .int .i64 a0_1, .int .i64 a0_2, .slice A0_3 l0_3.length c0_3]) (t := 61) ?hr ?_; (case hd => rfl); (case hg => rfl); (case hr => first | (go_simp; done) | (go_simp; rfl)); intro gb331 hg w2 hbox hb; have n0_ := Aside0.mk (Kd.V_below (Kd.V_elderB (by (with_reducible repeat (first | apply Kd.V_alloc | apply Kd.V_drewN | apply Kd.V_drew)); exact HO0_3.out) gb331 (Nat.le_of_eq hg.symm)) hb); have n1_ := Aside0.mk (below_step (by repeat (first | (with_reducible first | exact HB.out | apply below_alloc | apply pw_below_drewN | apply below_drew1) | exact HB.out)) hb); have n2_ := Aside0.mk (hbox); have n3_ := Aside0.mk ((by rw [hg]; exact (below_size (by repeat (first | (with_reducible first | exact HB.out | apply below_alloc | apply pw_below_drewN | apply below_drew1) | exact HB.out))) : w.heap.size ≤ gb331)); have n4_ := Aside0.mk ((by rw [hg]; exact (below_size (by repeat (first | (with_reducible first | exact HB.out | apply below_alloc | apply pw_below_drewN | apply below_drew1) | exact HB.out))) : w.heap.size ≤ gb331)); clear HO0_3; clear HB; have HO0_3 := n0_; have HB := n1_; have BK331 := n2_; have GW331 := n3_; have GE331 := n4_; clear n0_ n1_ n2_ n3_ n4_; clear hb hbox hg) | ((with_reducible refine gate_dst (N := 2) rfl ?_); refine box_event ?hg (N := 2) ?hd (cs := #[.int .i64 0, .string (⟨#[]⟩ : ByteArray), .int .i64 0, .slice none 0 0]) (t := 25) ?hr ?_; (case hd => rfl); (case hg => rfl); (case hr => first | (go_simp; done) | (go_simp; rfl)); intro gb332 hg w3 hbox hb; have n0_ := Aside0.mk (Kd.V_below (Kd.V_elderB (by (with_reducible repeat (first | apply Kd.V_alloc | apply Kd.V_drewN | apply Kd.V_drew)); exact HO0_3.out) gb332 (Nat.le_of_eq hg.symm)) hb); have n1_ := Aside0.mk (blk_below (g := gb331) (o := .cells #[.string a0_0, .int .i64 a0_1, .int .i64 a0_2, .slice A0_3 l0_3.length c0_3] 61 (0, 0)) (by (with_reducible repeat (first | refine blk_drewN ?_ _ | refine blk_drew ?_ | refine blk_alloc ?_ _)); exact BK331.out) hb); have n2_ := Aside0.mk (below_step (by repeat (first | (with_reducible first | exact HB.out | apply below_alloc | apply pw_below_drewN | apply below_drew1 | refine below_set ?_ GE331.out) | exact HB.out)) hb); have n3_ := Aside0.mk (hbox); have n4_ := Aside0.mk ((by rw [hg]; exact (below_size (by repeat (first | (with_reducible first | exact HB.out | apply below_alloc | apply pw_below_drewN | apply below_drew1 | refine below_set ?_ GE331.out) | exact HB.out))) : w.heap.size ≤ gb332)); have n5_ := Aside0.mk ((by rw [hg]; exact (below_size (by repeat (first | (with_reducible first | exact HB.out | apply below_alloc | apply pw_below_drewN | apply below_drew1 | refine below_set ?_ GE331.out) | exact HB.out))) : w.heap.size ≤ gb332)); have n6_ := Aside0.mk ((by rw [hg]; exact Nat.ne_of_lt (blk_lt (g := gb331) (o := .cells #[.string a0_0, .int .i64 a0_1, .int .i64 a0_2, .slice A0_3 l0_3.length c0_3] 61 (0, 0)) (by (with_reducible repeat (first | refine blk_drewN ?_ _ | refine blk_drew ?_ | refine blk_alloc ?_ _)); exact BK331.out)) : gb331 ≠ gb332)); have n7_ := Aside0.mk ((by rw [hg]; exact Nat.ne_of_gt (blk_lt (g := gb331) (o := .cells #[.string a0_0, .int .i64 a0_1, .int .i64 a0_2, .slice A0_3 l0_3.length c0_3] 61 (0, 0)) (by (with_reducible repeat (first | refine blk_drewN ?_ _ | refine blk_drew ?_ | refine blk_alloc ?_ _)); exact BK331.out)) : gb332 ≠ gb331)); clear HO0_3; clear BK331; clear HB; have HO0_3 := n0_; have BK331 := n1_; have HB := n2_; have BK332 := n3_; have GW332 := n4_; have GE332 := n5_; have NB331_332 := n6_; have NB332_331 := n7_; clear n0_ n1_ n2_ n3_ n4_ n5_ n6_ n7_; clear hb hbox hg; have hnb4 := NB331_332.out; have hnc4 := NB332_331.out; have hcz5_0 : w3.cell? ⟨gb331, 0, none⟩ = some (.string a0_0) := (blk_cell BK331.out 0).trans rfl; have hcz5_1 : w3.cell? ⟨gb331, 1, none⟩ = some (.int .i64 a0_1) := (blk_cell BK331.out 1).trans rfl; have hcz5_2 : w3.cell? ⟨gb331, 2, none⟩ = some (.int .i64 a0_2) := (blk_cell BK331.out 2).trans rfl; have hcz5_3 : w3.cell? ⟨gb331, 3, none⟩ = some (.slice A0_3 l0_3.length c0_3) := (blk_cell BK331.out 3).trans rfl; have hfz5_0 := blk_frozen BK331.out 0; have hfz5_1 := blk_frozen BK331.out 1; have hfz5_2 := blk_frozen BK331.out 2; have hfz5_3 := blk_frozen BK331.out 3; have hcz6_0 : w3.cell? ⟨gb332, 0, none⟩ = some (.int .i64 0) := (blk_cell BK332.out 0).trans rfl; have hcz6_1 : w3.cell? ⟨gb332, 1, none⟩ = some (.string (⟨#[]⟩ : ByteArray)) := (blk_cell BK332.out 1).trans rfl; have hcz6_2 : w3.cell? ⟨gb332, 2, none⟩ = some (.int .i64 0) := (blk_cell BK332.out 2).trans rfl; have hcz6_3 : w3.cell? ⟨gb332, 3, none⟩ = some (.slice none 0 0) := (blk_cell BK332.out 3).trans rfl; have hfz6_0 := blk_frozen BK332.out 0; have hfz6_1 := blk_frozen BK332.out 1; have hfz6_2 := blk_frozen BK332.out 2; have hfz6_3 := blk_frozen BK332.out 3))
 refine bodyPost_ret (results_cell_row rfl _ _ gb332 25 #[.int .i64 1, .string a0_0, .int .i64 a0_1, .slice A0_3 l0_3.length c0_3] (0, 0) _ rfl (by (with_reducible repeat (first | refine blk_drewN ?_ _ | refine blk_drew ?_ | refine blk_alloc ?_ _)); refine blk_put (cs := #[.int .i64 1, .string a0_0, .int .i64 a0_1, .slice none 0 0]) ?_ 3 _ rfl; (with_reducible repeat (first | refine blk_drewN ?_ _ | refine blk_drew ?_ | refine blk_alloc ?_ _)); refine blk_put (cs := #[.int .i64 1, .string a0_0, .int .i64 0, .slice none 0 0]) ?_ 2 _ rfl; (with_reducible repeat (first | refine blk_drewN ?_ _ | refine blk_drew ?_ | refine blk_alloc ?_ _)); refine blk_put (cs := #[.int .i64 1, .string (⟨#[]⟩ : ByteArray), .int .i64 0, .slice none 0 0]) ?_ 1 _ rfl; (with_reducible repeat (first | refine blk_drewN ?_ _ | refine blk_drew ?_ | refine blk_alloc ?_ _)); refine blk_put (cs := #[.int .i64 0, .string (⟨#[]⟩ : ByteArray), .int .i64 0, .slice none 0 0]) ?_ 0 _ rfl; (with_reducible repeat (first | refine blk_drewN ?_ _ | refine blk_drew ?_ | refine blk_alloc ?_ _)); exact BK332.out) Try.underlying25 rfl (by kernel_rfl)) rfl ?_
 exact ⟨_, by first | rfl | (simp [errW_none, errW_some] <;> rfl) | (simp [*, errW_none, errW_some] <;> rfl), by (with_reducible repeat (first | apply Kd.V_alloc | apply Kd.V_drewN | apply Kd.V_drew)); exact Kd.V_mono (Kd.V_far (p := ⟨gb332, 3, none⟩) (Kd.V_far (p := ⟨gb332, 2, none⟩) (Kd.V_far (p := ⟨gb332, 1, none⟩) (Kd.V_far (p := ⟨gb332, 0, none⟩) (Kd.V_mono HO0_3.out (fun k_ hk => (⟨hk, hk.2⟩ : _ ∧ k_ ≠ gb332))) (fun _ hk => hk.2) (.int .i64 1)) (fun _ hk => hk.2) (.string a0_0)) (fun _ hk => hk.2) (.int .i64 a0_1)) (fun _ hk => hk.2) (.slice A0_3 l0_3.length c0_3)) (fun _ hk => hk.1.1.1), by repeat (first | (with_reducible first | exact HB.out | apply below_alloc | apply pw_below_drewN | apply below_drew1 | refine below_set ?_ GE331.out | refine below_set ?_ GE332.out) | exact HB.out)⟩

/-! ### aumbryref16_May: function 38 -/
mutual
def aumbryref16_May.l0 : Nat → List (S61) → Int → Int → Option (Bool)
 | 0, _, _, _ => none
 | k + 1, x0, x3, x4 => if x4 < (x0.length : Int) then (if 0 ≤ x4 then ((aumbryref16_put.f ((rd_T61 x0 x4).f0) ((rd_T61 x0 x4).f1) ((rd_T61 x0 x4).f2) ((rd_T61 x0 x4).f3)).bind fun bt334 => ((aumbryref16_Check.f k bt334.1 bt334.2.1 bt334.2.2.1 bt334.2.2.2).bind fun t340 => (if t340 = 0 then (if ((rd_T61 x0 x4).f2) < 0 then (aumbryref16_May.j1 k x0 x3 x4 true) else (if ((rd_T61 x0 x4).f2) > 2147483647 then (aumbryref16_May.j1 k x0 x3 x4 true) else (if x4 > 0 then (if 0 ≤ (wrap64 (x4 - 1)) then (if (wrap64 (x4 - 1)) < (x0.length : Int) then (aumbryref16_May.j1 k x0 x3 x4 (Op.bytesLess (((rd_T61 x0 x4).f0).toList) (((rd_T61 x0 (wrap64 (x4 - 1))).f0).toList) || (((rd_T61 x0 x4).f0).toList) == (((rd_T61 x0 (wrap64 (x4 - 1))).f0).toList))) else (none)) else (none)) else (aumbryref16_May.j1 k x0 x3 x4 false)))) else (aumbryref16_May.j1 k x0 x3 x4 true)))) else (none)) else (some (decide (x3 ≤ 256)))
def aumbryref16_May.j1 : Nat → List (S61) → Int → Int → Bool → Option (Bool)
 | 0, _, _, _, _ => none
 | k + 1, x0, x3, x4, x56 => if x56 = true then (some false) else (if 0 ≤ x4 then (if x4 < (x0.length : Int) then (aumbryref16_May.l0 k x0 (wrap64 (x3 + (((rd_T61 x0 x4).f3).length : Int))) (wrap64 (x4 + 1))) else (none)) else (none))
end
def aumbryref16_May.f (k : Nat) (l0 : List (S61)) : Option (Bool) := if (l0.length : Int) > 64 then (some false) else (aumbryref16_May.l0 k l0 0 0)
theorem aumbryref16_May.mono_l : ∀ k, (∀ y0 y1 y2, LeO (aumbryref16_May.l0 k y0 y1 y2) (aumbryref16_May.l0 (k + 1) y0 y1 y2)) ∧ (∀ y0 y1 y2 y3, LeO (aumbryref16_May.j1 k y0 y1 y2 y3) (aumbryref16_May.j1 (k + 1) y0 y1 y2 y3))
 | 0 => ⟨fun _ _ _ r h => by simp [aumbryref16_May.l0] at h, fun _ _ _ _ r h => by simp [aumbryref16_May.j1] at h⟩
 | k + 1 => by
  obtain ⟨ih0, ih1⟩ := aumbryref16_May.mono_l k
  refine ⟨?_, ?_⟩
  ·intro y0 y1 y2
   unfold aumbryref16_May.l0
   repeat' first
   | (with_reducible exact ih0 _ _ _)
   | (with_reducible exact ih1 _ _ _ _)
   | (with_reducible exact aumbryref16_Check.mono _ _ _ _ _)
   | (with_reducible exact LeO.refl _)
   | (with_reducible exact LeO.none _)
   | (with_reducible refine LeO.ite ?_ ?_)
   | (with_reducible refine LeO.bind ?_ (fun _ => ?_))
   | exact ih0 _ _ _
   | exact ih1 _ _ _ _
   | exact aumbryref16_Check.mono _ _ _ _ _
   | exact LeO.none _
   | refine LeO.ite ?_ ?_
   | refine LeO.bind ?_ (fun _ => ?_)
  ·intro y0 y1 y2 y3
   unfold aumbryref16_May.j1
   repeat' first
   | (with_reducible exact ih0 _ _ _)
   | (with_reducible exact ih1 _ _ _ _)
   | (with_reducible exact aumbryref16_Check.mono _ _ _ _ _)
   | (with_reducible exact LeO.refl _)
   | (with_reducible exact LeO.none _)
   | (with_reducible refine LeO.ite ?_ ?_)
   | (with_reducible refine LeO.bind ?_ (fun _ => ?_))
   | exact ih0 _ _ _
   | exact ih1 _ _ _ _
   | exact aumbryref16_Check.mono _ _ _ _ _
   | exact LeO.none _
   | refine LeO.ite ?_ ?_
   | refine LeO.bind ?_ (fun _ => ?_)
theorem aumbryref16_May.mono : ∀ a0 k, LeO (aumbryref16_May.f k a0) (aumbryref16_May.f (k + 1) a0) := by
 intro a0 k
 obtain ⟨ih0, ih1⟩ := aumbryref16_May.mono_l k
 unfold aumbryref16_May.f
 repeat' first
   | (with_reducible exact ih0 _ _ _)
   | (with_reducible exact ih1 _ _ _ _)
   | (with_reducible exact aumbryref16_Check.mono _ _ _ _ _)
   | (with_reducible exact LeO.refl _)
   | (with_reducible exact LeO.none _)
   | (with_reducible refine LeO.ite ?_ ?_)
   | (with_reducible refine LeO.bind ?_ (fun _ => ?_))
   | exact ih0 _ _ _
   | exact ih1 _ _ _ _
   | exact aumbryref16_Check.mono _ _ _ _ _
   | exact LeO.none _
   | refine LeO.ite ?_ ?_
   | refine LeO.bind ?_ (fun _ => ?_)
set_option maxHeartbeats 8000000 in
set_option maxRecDepth 100000 in
theorem aumbryref16_May.calls (k : Nat) (A0 : Option Addr) (c0 : Nat) (l0 : List (S61)) (r : Bool) (w : World) (hr0 : Kd.C k61 w A0 l0.length l0) (hc0 : l0.length ≤ c0) (h : aumbryref16_May.f k l0 = some r) :
  Calls Try.prog 38 #[.slice A0 l0.length c0] w fun e w' => e = .returned (.bool r) ∧ Below w.heap.size w w' := by
 have hu61 := Try.underlying61
 have HR0 := Aside0.mk hr0
 have HC0 := Aside0.mk hc0
 clear hr0 hc0
 have HB := Aside0.mk (Below.refl w.heap.size w)
 have H : (if (l0.length : Int) > 64 then (some false) else (aumbryref16_May.l0 k l0 0 0)) = some r := h
 clear h
 by_cases c2 : (l0.length : Int) > 64
 ·rw [if_pos c2] at H
  have c2b0 : decide (64 < (l0.length : Int)) = true := decide_eq_true c2
  have c2b1 : decide (64 < l0.length) = true := decide_eq_true (by omega)
  clear c2
  obtain rfl := Option.some.inj H
  go_enter Try.func38, Try.ntmps38
  go_wp2
  repeat (go_quiet (fail); try go_wp2)
  go_ret
  exact ⟨by first | rfl | (simp [errW_none, errW_some] <;> rfl) | (simp [*, errW_none, errW_some] <;> rfl), by repeat (first | (with_reducible first | exact HB.out | apply below_alloc | apply pw_below_drewN | apply below_drew1) | exact HB.out)⟩
 ·rw [if_neg c2] at H
  have c2b0 : decide (64 < (l0.length : Int)) = false := decide_eq_false c2
  have c2b1 : decide (64 < l0.length) = false := decide_eq_false (by omega)
  clear c2
  have H' := Aside0.mk H
  clear H
  go_enter Try.func38, Try.ntmps38
  go_wp2
  repeat (go_quiet (fail); try go_wp2)
  go_loopg [3, 4] k (fun kq v3 v4 w' => ∃ (x3_1 : Int) (x4_1 : Int), v3 = .int .i64 x3_1 ∧ v4 = .int .i64 x4_1 ∧ Aside0 (aumbryref16_May.l0 kq l0 x3_1 x4_1 = some r) ∧ Aside0 (kq ≤ k) ∧ Aside0 (Below w.heap.size w w'))
  case atStart => exact ⟨(0), (0), (by first | rfl | (simp; done) | (simp [*]; done)), (by first | rfl | (simp; done) | (simp [*]; done)), H', ⟨Nat.le_refl _⟩, ⟨by repeat (first | (with_reducible first | exact HB.out | apply below_alloc | apply pw_below_drewN | apply below_drew1) | exact HB.out)⟩⟩
  case round =>
   clear H'
   try clear c2
   try clear c2b0
   try clear c2b1
   try clear p2
   obtain ⟨x3_1, x4_1, rfl, rfl, HA, HK1, HB⟩ := hrel
   cases gk with
   | zero => exact absurd HA.out (by simp [aumbryref16_May.l0])
   | succ k1 =>
    have H := HA.out
    clear HA
    simp only [aumbryref16_May.l0] at H
    by_cases c3 : x4_1 < (l0.length : Int)
    ·rw [if_pos c3] at H
     have c3b0 : decide (x4_1 < (l0.length : Int)) = true := decide_eq_true c3
     clear c3
     by_cases c4 : 0 ≤ x4_1
     ·rw [if_pos c4] at H
      have c4b0 : decide (0 ≤ x4_1) = true := decide_eq_true c4
      clear c4
      replace H := Option.bind_eq_some_iff.mp H
      obtain ⟨⟨t334, t335, t336, t337⟩, A50, H⟩ := H
      replace H : ((aumbryref16_Check.f k1 t334 t335 t336 t337).bind fun t340 => (if t340 = 0 then (if ((rd_T61 l0 x4_1).f2) < 0 then (aumbryref16_May.j1 k1 l0 x3_1 x4_1 true) else (if ((rd_T61 l0 x4_1).f2) > 2147483647 then (aumbryref16_May.j1 k1 l0 x3_1 x4_1 true) else (if x4_1 > 0 then (if 0 ≤ (wrap64 (x4_1 - 1)) then (if (wrap64 (x4_1 - 1)) < (l0.length : Int) then (aumbryref16_May.j1 k1 l0 x3_1 x4_1 (Op.bytesLess (((rd_T61 l0 x4_1).f0).toList) (((rd_T61 l0 (wrap64 (x4_1 - 1))).f0).toList) || (((rd_T61 l0 x4_1).f0).toList) == (((rd_T61 l0 (wrap64 (x4_1 - 1))).f0).toList))) else (none)) else (none)) else (aumbryref16_May.j1 k1 l0 x3_1 x4_1 false)))) else (aumbryref16_May.j1 k1 l0 x3_1 x4_1 true))) = some r := H
      have A5 := Aside0.mk A50
      clear A50
      replace H := Option.bind_eq_some_iff.mp H
      obtain ⟨t340, A60, H⟩ := H
      replace H : (if t340 = 0 then (if ((rd_T61 l0 x4_1).f2) < 0 then (aumbryref16_May.j1 k1 l0 x3_1 x4_1 true) else (if ((rd_T61 l0 x4_1).f2) > 2147483647 then (aumbryref16_May.j1 k1 l0 x3_1 x4_1 true) else (if x4_1 > 0 then (if 0 ≤ (wrap64 (x4_1 - 1)) then (if (wrap64 (x4_1 - 1)) < (l0.length : Int) then (aumbryref16_May.j1 k1 l0 x3_1 x4_1 (Op.bytesLess (((rd_T61 l0 x4_1).f0).toList) (((rd_T61 l0 (wrap64 (x4_1 - 1))).f0).toList) || (((rd_T61 l0 x4_1).f0).toList) == (((rd_T61 l0 (wrap64 (x4_1 - 1))).f0).toList))) else (none)) else (none)) else (aumbryref16_May.j1 k1 l0 x3_1 x4_1 false)))) else (aumbryref16_May.j1 k1 l0 x3_1 x4_1 true)) = some r := H
      have A6 := Aside0.mk A60
      clear A60
      have HC7 := Aside0.mk H
      clear H
      have p333 : 0 ≤ (x4_1 : Int) := of_decide_eq_true (by first | (with_reducible assumption) | assumption)
      have q333 : x4_1 < (l0.length : Int) := of_decide_eq_true (by first | (with_reducible assumption) | assumption)
      obtain ⟨ad333, A333_3, c333_3, e333, hx333_0, hx333_1, hx333_2, hx333_3, hl333_3, hi333_3⟩ := at_T61 HR0.out x4_1 p333 q333
      cases e333
      replace hx333_0 := (HB.out.cell (World.block_lt_of_cell? w _ hx333_0)).trans hx333_0
      replace hx333_1 := (HB.out.cell (World.block_lt_of_cell? w _ hx333_1)).trans hx333_1
      replace hx333_2 := (HB.out.cell (World.block_lt_of_cell? w _ hx333_2)).trans hx333_2
      replace hx333_3 := (HB.out.cell (World.block_lt_of_cell? w _ hx333_3)).trans hx333_3
      have HR333_3 := Aside0.mk hi333_3
      have HC333_3 := Aside0.mk hl333_3
      clear hi333_3 hl333_3
      replace p333 := eq_true p333
      replace q333 := eq_true q333
      go_upto_region 8 with (first | (go_at_call 39; (with_reducible refine (aumbryref16_put.calls ((rd_T61 l0 x4_1).f0) ((rd_T61 l0 x4_1).f1) ((rd_T61 l0 x4_1).f2) (fun k_ => k_ < w.heap.size) _ _ ((rd_T61 l0 x4_1).f3) t334 t335 t336 t337 _ ?side1 A5.out).mono ?_); (case side1 => exact Kd.V_mk HC333_3.out (Kd.F_below (Kd.C_F (Kd.heap_int .i64) HR333_3.out) (by repeat (first | (with_reducible first | exact HB.out | apply below_alloc | apply pw_below_drewN | apply below_drew1) | exact HB.out)))); rintro e w8 ⟨v338, rfl, ho0, hb⟩; have n0_ := Aside0.mk (Kd.V_lower (Kd.V_mono (ok' := fun k_ => True) ho0 (fun k_ hk_ => trivial)) (below_size (by repeat (first | (with_reducible first | exact HB.out | apply below_alloc | apply pw_below_drewN | apply below_drew1) | exact HB.out)))); have n1_ := Aside0.mk (below_step (by repeat (first | (with_reducible first | exact HB.out | apply below_alloc | apply pw_below_drewN | apply below_drew1) | exact HB.out)) hb); clear HB; have HO339 := n0_; have HB := n1_; clear n0_ n1_; (try clear hb); (try clear hb2); (try clear hk); (try clear hi); (try clear ho0); obtain ⟨Ao9, co9, eo9⟩ := Kd.V_slice HO339.out; subst eo9) | (go_at_call 18; (with_reducible refine (aumbryref16_Check.calls k1 t334 t335 t336 _ _ t337 t340 _ ?side1 ?side2 A6.out).mono ?_); (case side1 => repeat (first | exact (Kd.V_reads' HO339.out).2.2 | (with_reducible refine Kd.C_alloc ?_ _) | (with_reducible refine Kd.C_drewN ?_ _) | (with_reducible refine Kd.C_drew ?_))); (case side2 => exact (Kd.V_reads' HO339.out).2.1); rintro e w10 ⟨rfl, hb⟩; have n0_ := Aside0.mk (Kd.V_below (by (with_reducible repeat (first | apply Kd.V_alloc | apply Kd.V_drewN | apply Kd.V_drew)); exact HO339.out) hb); have n1_ := Aside0.mk (below_step (by repeat (first | (with_reducible first | exact HB.out | apply below_alloc | apply pw_below_drewN | apply below_drew1) | exact HB.out)) hb); clear HO339; clear HB; have HO339 := n0_; have HB := n1_; clear n0_ n1_; (try clear hb); (try clear hb2); (try clear hk); (try clear hi)))
      repeat (go_quiet (first | (go_at_call 39; (with_reducible refine (aumbryref16_put.calls ((rd_T61 l0 x4_1).f0) ((rd_T61 l0 x4_1).f1) ((rd_T61 l0 x4_1).f2) (fun k_ => k_ < w.heap.size) _ _ ((rd_T61 l0 x4_1).f3) t334 t335 t336 t337 _ ?side1 A5.out).mono ?_); (case side1 => exact Kd.V_mk HC333_3.out (Kd.F_below (Kd.C_F (Kd.heap_int .i64) HR333_3.out) (by repeat (first | (with_reducible first | exact HB.out | apply below_alloc | apply pw_below_drewN | apply below_drew1) | exact HB.out)))); rintro e w8 ⟨v338, rfl, ho0, hb⟩; have n0_ := Aside0.mk (Kd.V_lower (Kd.V_mono (ok' := fun k_ => True) ho0 (fun k_ hk_ => trivial)) (below_size (by repeat (first | (with_reducible first | exact HB.out | apply below_alloc | apply pw_below_drewN | apply below_drew1) | exact HB.out)))); have n1_ := Aside0.mk (below_step (by repeat (first | (with_reducible first | exact HB.out | apply below_alloc | apply pw_below_drewN | apply below_drew1) | exact HB.out)) hb); clear HB; have HO339 := n0_; have HB := n1_; clear n0_ n1_; (try clear hb); (try clear hb2); (try clear hk); (try clear hi); (try clear ho0); obtain ⟨Ao9, co9, eo9⟩ := Kd.V_slice HO339.out; subst eo9) | (go_at_call 18; (with_reducible refine (aumbryref16_Check.calls k1 t334 t335 t336 _ _ t337 t340 _ ?side1 ?side2 A6.out).mono ?_); (case side1 => repeat (first | exact (Kd.V_reads' HO339.out).2.2 | (with_reducible refine Kd.C_alloc ?_ _) | (with_reducible refine Kd.C_drewN ?_ _) | (with_reducible refine Kd.C_drew ?_))); (case side2 => exact (Kd.V_reads' HO339.out).2.1); rintro e w10 ⟨rfl, hb⟩; have n0_ := Aside0.mk (Kd.V_below (by (with_reducible repeat (first | apply Kd.V_alloc | apply Kd.V_drewN | apply Kd.V_drew)); exact HO339.out) hb); have n1_ := Aside0.mk (below_step (by repeat (first | (with_reducible first | exact HB.out | apply below_alloc | apply pw_below_drewN | apply below_drew1) | exact HB.out)) hb); clear HO339; clear HB; have HO339 := n0_; have HB := n1_; clear n0_ n1_; (try clear hb); (try clear hb2); (try clear hk); (try clear hi))); go_upto_region 8 with (first | (go_at_call 39; (with_reducible refine (aumbryref16_put.calls ((rd_T61 l0 x4_1).f0) ((rd_T61 l0 x4_1).f1) ((rd_T61 l0 x4_1).f2) (fun k_ => k_ < w.heap.size) _ _ ((rd_T61 l0 x4_1).f3) t334 t335 t336 t337 _ ?side1 A5.out).mono ?_); (case side1 => exact Kd.V_mk HC333_3.out (Kd.F_below (Kd.C_F (Kd.heap_int .i64) HR333_3.out) (by repeat (first | (with_reducible first | exact HB.out | apply below_alloc | apply pw_below_drewN | apply below_drew1) | exact HB.out)))); rintro e w8 ⟨v338, rfl, ho0, hb⟩; have n0_ := Aside0.mk (Kd.V_lower (Kd.V_mono (ok' := fun k_ => True) ho0 (fun k_ hk_ => trivial)) (below_size (by repeat (first | (with_reducible first | exact HB.out | apply below_alloc | apply pw_below_drewN | apply below_drew1) | exact HB.out)))); have n1_ := Aside0.mk (below_step (by repeat (first | (with_reducible first | exact HB.out | apply below_alloc | apply pw_below_drewN | apply below_drew1) | exact HB.out)) hb); clear HB; have HO339 := n0_; have HB := n1_; clear n0_ n1_; (try clear hb); (try clear hb2); (try clear hk); (try clear hi); (try clear ho0); obtain ⟨Ao9, co9, eo9⟩ := Kd.V_slice HO339.out; subst eo9) | (go_at_call 18; (with_reducible refine (aumbryref16_Check.calls k1 t334 t335 t336 _ _ t337 t340 _ ?side1 ?side2 A6.out).mono ?_); (case side1 => repeat (first | exact (Kd.V_reads' HO339.out).2.2 | (with_reducible refine Kd.C_alloc ?_ _) | (with_reducible refine Kd.C_drewN ?_ _) | (with_reducible refine Kd.C_drew ?_))); (case side2 => exact (Kd.V_reads' HO339.out).2.1); rintro e w10 ⟨rfl, hb⟩; have n0_ := Aside0.mk (Kd.V_below (by (with_reducible repeat (first | apply Kd.V_alloc | apply Kd.V_drewN | apply Kd.V_drew)); exact HO339.out) hb); have n1_ := Aside0.mk (below_step (by repeat (first | (with_reducible first | exact HB.out | apply below_alloc | apply pw_below_drewN | apply below_drew1) | exact HB.out)) hb); clear HO339; clear HB; have HO339 := n0_; have HB := n1_; clear n0_ n1_; (try clear hb); (try clear hb2); (try clear hk); (try clear hi))))
      (try simp only [Act.put, List.setIfInBounds_toArray, List.set_cons_zero, List.set_cons_succ])
      go_cut [56] (fun v56 wc => ∃ (kq : Nat) (x56_6 : Bool), v56 = .bool x56_6 ∧ Aside0 (aumbryref16_May.j1 kq l0 x3_1 x4_1 x56_6 = some r) ∧ Aside0 (kq ≤ k1) ∧ Aside0 (Below w.heap.size w wc))
      case first =>
       have H := HC7.out
       clear HC7
       by_cases c11 : t340 = 0
       ·rw [if_pos c11] at H
        have c11b0 : (t340 == 0) = true := beq_iff_eq.mpr c11
        have c11b1 : (t340 != 0) = false := bne_eq_false_iff_eq.mpr c11
        clear c11
        (first | rw [c11b0] | (simp only [i64_w, i32_w]; rw [c11b0]) | skip)
        by_cases c12 : ((rd_T61 l0 x4_1).f2) < 0
        ·rw [if_pos c12] at H
         have c12b0 : decide (((rd_T61 l0 x4_1).f2) < 0) = true := decide_eq_true c12
         clear c12
         have H' := Aside0.mk H
         clear H
         have p341 : 0 ≤ (x4_1 : Int) := of_decide_eq_true (by first | (with_reducible assumption) | assumption)
         have q341 : x4_1 < (l0.length : Int) := of_decide_eq_true (by first | (with_reducible assumption) | assumption)
         obtain ⟨ad341, A341_3, c341_3, e341, hx341_0, hx341_1, hx341_2, hx341_3, hl341_3, hi341_3⟩ := at_T61 HR0.out x4_1 p341 q341
         obtain rfl : ad333 = ad341 := (by injection e341)
         replace hx341_0 := (HB.out.cell (World.block_lt_of_cell? w _ hx341_0)).trans hx341_0
         replace hx341_1 := (HB.out.cell (World.block_lt_of_cell? w _ hx341_1)).trans hx341_1
         replace hx341_2 := (HB.out.cell (World.block_lt_of_cell? w _ hx341_2)).trans hx341_2
         replace hx341_3 := (HB.out.cell (World.block_lt_of_cell? w _ hx341_3)).trans hx341_3
         have HR341_3 := Aside0.mk hi341_3
         have HC341_3 := Aside0.mk hl341_3
         clear hi341_3 hl341_3
         replace p341 := eq_true p341
         replace q341 := eq_true q341
         go_wp2
         repeat (go_quiet (fail); try go_wp2)
         go_meet
         case rel => exact ⟨_, (true), (by first | rfl | (simp; done) | (simp [*]; done)), H', ⟨by have := HK1.out; first | omega | exact Nat.le_refl _⟩, ⟨by repeat (first | (with_reducible first | exact HB.out | apply below_alloc | apply pw_below_drewN | apply below_drew1) | exact HB.out)⟩⟩
        ·rw [if_neg c12] at H
         have c12b0 : decide (((rd_T61 l0 x4_1).f2) < 0) = false := decide_eq_false c12
         clear c12
         by_cases c13 : ((rd_T61 l0 x4_1).f2) > 2147483647
         ·rw [if_pos c13] at H
          have c13b0 : decide (2147483647 < ((rd_T61 l0 x4_1).f2)) = true := decide_eq_true c13
          clear c13
          have H' := Aside0.mk H
          clear H
          have p341 : 0 ≤ (x4_1 : Int) := of_decide_eq_true (by first | (with_reducible assumption) | assumption)
          have q341 : x4_1 < (l0.length : Int) := of_decide_eq_true (by first | (with_reducible assumption) | assumption)
          obtain ⟨ad341, A341_3, c341_3, e341, hx341_0, hx341_1, hx341_2, hx341_3, hl341_3, hi341_3⟩ := at_T61 HR0.out x4_1 p341 q341
          obtain rfl : ad333 = ad341 := (by injection e341)
          replace hx341_0 := (HB.out.cell (World.block_lt_of_cell? w _ hx341_0)).trans hx341_0
          replace hx341_1 := (HB.out.cell (World.block_lt_of_cell? w _ hx341_1)).trans hx341_1
          replace hx341_2 := (HB.out.cell (World.block_lt_of_cell? w _ hx341_2)).trans hx341_2
          replace hx341_3 := (HB.out.cell (World.block_lt_of_cell? w _ hx341_3)).trans hx341_3
          have HR341_3 := Aside0.mk hi341_3
          have HC341_3 := Aside0.mk hl341_3
          clear hi341_3 hl341_3
          replace p341 := eq_true p341
          replace q341 := eq_true q341
          have p342 : 0 ≤ (x4_1 : Int) := of_decide_eq_true (by first | (with_reducible assumption) | assumption)
          have q342 : x4_1 < (l0.length : Int) := of_decide_eq_true (by first | (with_reducible assumption) | assumption)
          obtain ⟨ad342, A342_3, c342_3, e342, hx342_0, hx342_1, hx342_2, hx342_3, hl342_3, hi342_3⟩ := at_T61 HR0.out x4_1 p342 q342
          obtain rfl : ad333 = ad342 := (by injection e342)
          replace hx342_0 := (HB.out.cell (World.block_lt_of_cell? w _ hx342_0)).trans hx342_0
          replace hx342_1 := (HB.out.cell (World.block_lt_of_cell? w _ hx342_1)).trans hx342_1
          replace hx342_2 := (HB.out.cell (World.block_lt_of_cell? w _ hx342_2)).trans hx342_2
          replace hx342_3 := (HB.out.cell (World.block_lt_of_cell? w _ hx342_3)).trans hx342_3
          have HR342_3 := Aside0.mk hi342_3
          have HC342_3 := Aside0.mk hl342_3
          clear hi342_3 hl342_3
          replace p342 := eq_true p342
          replace q342 := eq_true q342
          have ea_ := Option.some.inj (hx341_3.symm.trans hx342_3)
          injection ea_ with ea_ en_ ec_
          subst ea_
          subst ec_
          clear en_
          go_wp2
          repeat (go_quiet (fail); try go_wp2)
          go_meet
          case rel => exact ⟨_, (true), (by first | rfl | (simp; done) | (simp [*]; done)), H', ⟨by have := HK1.out; first | omega | exact Nat.le_refl _⟩, ⟨by repeat (first | (with_reducible first | exact HB.out | apply below_alloc | apply pw_below_drewN | apply below_drew1) | exact HB.out)⟩⟩
         ·rw [if_neg c13] at H
          have c13b0 : decide (2147483647 < ((rd_T61 l0 x4_1).f2)) = false := decide_eq_false c13
          clear c13
          by_cases c14 : x4_1 > 0
          ·rw [if_pos c14] at H
           have c14b0 : decide (0 < x4_1) = true := decide_eq_true c14
           clear c14
           obtain ⟨ji15, hji15⟩ : ∃ j_ : Int, (wrap64 (x4_1 - 1)) = j_ := ⟨_, rfl⟩
           replace H : (if 0 ≤ (ji15) then (if (ji15) < (l0.length : Int) then (aumbryref16_May.j1 k1 l0 x3_1 x4_1 (Op.bytesLess (((rd_T61 l0 x4_1).f0).toList) (((rd_T61 l0 (ji15)).f0).toList) || (((rd_T61 l0 x4_1).f0).toList) == (((rd_T61 l0 (ji15)).f0).toList))) else (none)) else (none)) = some r := by first | (rw [hji15] at H; exact H) | (simp only [hji15] at H ⊢; exact H)
           have hji15w : (IntKind.i64.wrap (x4_1 - 1)) = ji15 := (i64_w _).trans hji15
           by_cases c16 : 0 ≤ (ji15)
           ·rw [if_pos c16] at H
            have c16b0 : decide (0 ≤ (ji15)) = true := decide_eq_true c16
            clear c16
            by_cases c17 : (ji15) < (l0.length : Int)
            ·rw [if_pos c17] at H
             have c17b0 : decide ((ji15) < (l0.length : Int)) = true := decide_eq_true c17
             clear c17
             have H' := Aside0.mk H
             clear H
             have p341 : 0 ≤ (x4_1 : Int) := of_decide_eq_true (by first | (with_reducible assumption) | assumption)
             have q341 : x4_1 < (l0.length : Int) := of_decide_eq_true (by first | (with_reducible assumption) | assumption)
             obtain ⟨ad341, A341_3, c341_3, e341, hx341_0, hx341_1, hx341_2, hx341_3, hl341_3, hi341_3⟩ := at_T61 HR0.out x4_1 p341 q341
             obtain rfl : ad333 = ad341 := (by injection e341)
             replace hx341_0 := (HB.out.cell (World.block_lt_of_cell? w _ hx341_0)).trans hx341_0
             replace hx341_1 := (HB.out.cell (World.block_lt_of_cell? w _ hx341_1)).trans hx341_1
             replace hx341_2 := (HB.out.cell (World.block_lt_of_cell? w _ hx341_2)).trans hx341_2
             replace hx341_3 := (HB.out.cell (World.block_lt_of_cell? w _ hx341_3)).trans hx341_3
             have HR341_3 := Aside0.mk hi341_3
             have HC341_3 := Aside0.mk hl341_3
             clear hi341_3 hl341_3
             replace p341 := eq_true p341
             replace q341 := eq_true q341
             have p342 : 0 ≤ (x4_1 : Int) := of_decide_eq_true (by first | (with_reducible assumption) | assumption)
             have q342 : x4_1 < (l0.length : Int) := of_decide_eq_true (by first | (with_reducible assumption) | assumption)
             obtain ⟨ad342, A342_3, c342_3, e342, hx342_0, hx342_1, hx342_2, hx342_3, hl342_3, hi342_3⟩ := at_T61 HR0.out x4_1 p342 q342
             obtain rfl : ad333 = ad342 := (by injection e342)
             replace hx342_0 := (HB.out.cell (World.block_lt_of_cell? w _ hx342_0)).trans hx342_0
             replace hx342_1 := (HB.out.cell (World.block_lt_of_cell? w _ hx342_1)).trans hx342_1
             replace hx342_2 := (HB.out.cell (World.block_lt_of_cell? w _ hx342_2)).trans hx342_2
             replace hx342_3 := (HB.out.cell (World.block_lt_of_cell? w _ hx342_3)).trans hx342_3
             have HR342_3 := Aside0.mk hi342_3
             have HC342_3 := Aside0.mk hl342_3
             clear hi342_3 hl342_3
             replace p342 := eq_true p342
             replace q342 := eq_true q342
             have ea_ := Option.some.inj (hx341_3.symm.trans hx342_3)
             injection ea_ with ea_ en_ ec_
             subst ea_
             subst ec_
             clear en_
             have p343 : 0 ≤ (x4_1 : Int) := of_decide_eq_true (by first | (with_reducible assumption) | assumption)
             have q343 : x4_1 < (l0.length : Int) := of_decide_eq_true (by first | (with_reducible assumption) | assumption)
             obtain ⟨ad343, A343_3, c343_3, e343, hx343_0, hx343_1, hx343_2, hx343_3, hl343_3, hi343_3⟩ := at_T61 HR0.out x4_1 p343 q343
             obtain rfl : ad333 = ad343 := (by injection e343)
             replace hx343_0 := (HB.out.cell (World.block_lt_of_cell? w _ hx343_0)).trans hx343_0
             replace hx343_1 := (HB.out.cell (World.block_lt_of_cell? w _ hx343_1)).trans hx343_1
             replace hx343_2 := (HB.out.cell (World.block_lt_of_cell? w _ hx343_2)).trans hx343_2
             replace hx343_3 := (HB.out.cell (World.block_lt_of_cell? w _ hx343_3)).trans hx343_3
             have HR343_3 := Aside0.mk hi343_3
             have HC343_3 := Aside0.mk hl343_3
             clear hi343_3 hl343_3
             replace p343 := eq_true p343
             replace q343 := eq_true q343
             have ea_ := Option.some.inj (hx341_3.symm.trans hx343_3)
             injection ea_ with ea_ en_ ec_
             subst ea_
             subst ec_
             clear en_
             have p344 : 0 ≤ ((ji15) : Int) := of_decide_eq_true (by first | (with_reducible assumption) | assumption)
             have q344 : (ji15) < (l0.length : Int) := of_decide_eq_true (by first | (with_reducible assumption) | assumption)
             obtain ⟨ad344, A344_3, c344_3, e344, hx344_0, hx344_1, hx344_2, hx344_3, hl344_3, hi344_3⟩ := at_T61 HR0.out (ji15) p344 q344
             obtain rfl : ad333 = ad344 := (by injection e344)
             replace hx344_0 := (HB.out.cell (World.block_lt_of_cell? w _ hx344_0)).trans hx344_0
             replace hx344_1 := (HB.out.cell (World.block_lt_of_cell? w _ hx344_1)).trans hx344_1
             replace hx344_2 := (HB.out.cell (World.block_lt_of_cell? w _ hx344_2)).trans hx344_2
             replace hx344_3 := (HB.out.cell (World.block_lt_of_cell? w _ hx344_3)).trans hx344_3
             have HR344_3 := Aside0.mk hi344_3
             have HC344_3 := Aside0.mk hl344_3
             clear hi344_3 hl344_3
             replace p344 := eq_true p344
             replace q344 := eq_true q344
             go_wp2
             repeat (go_quiet (fail); try go_wp2)
             try subst hji15
             go_meet
             case rel => exact ⟨_, ((Op.bytesLess (((rd_T61 l0 x4_1).f0).toList) (((rd_T61 l0 (((wrap64 (x4_1 - 1))))).f0).toList) || (((rd_T61 l0 x4_1).f0).toList) == (((rd_T61 l0 (((wrap64 (x4_1 - 1))))).f0).toList))), (by first | rfl | (simp; done) | (simp only [← hji15] <;> (first | rfl | simp)) | (simp [*]; done)), H', ⟨by have := HK1.out; first | omega | exact Nat.le_refl _⟩, ⟨by repeat (first | (with_reducible first | exact HB.out | apply below_alloc | apply pw_below_drewN | apply below_drew1) | exact HB.out)⟩⟩
            ·rw [if_neg c17] at H
             exact absurd H (by simp)
           ·rw [if_neg c16] at H
            exact absurd H (by simp)
          ·rw [if_neg c14] at H
           have c14b0 : decide (0 < x4_1) = false := decide_eq_false c14
           clear c14
           have H' := Aside0.mk H
           clear H
           have p341 : 0 ≤ (x4_1 : Int) := of_decide_eq_true (by first | (with_reducible assumption) | assumption)
           have q341 : x4_1 < (l0.length : Int) := of_decide_eq_true (by first | (with_reducible assumption) | assumption)
           obtain ⟨ad341, A341_3, c341_3, e341, hx341_0, hx341_1, hx341_2, hx341_3, hl341_3, hi341_3⟩ := at_T61 HR0.out x4_1 p341 q341
           obtain rfl : ad333 = ad341 := (by injection e341)
           replace hx341_0 := (HB.out.cell (World.block_lt_of_cell? w _ hx341_0)).trans hx341_0
           replace hx341_1 := (HB.out.cell (World.block_lt_of_cell? w _ hx341_1)).trans hx341_1
           replace hx341_2 := (HB.out.cell (World.block_lt_of_cell? w _ hx341_2)).trans hx341_2
           replace hx341_3 := (HB.out.cell (World.block_lt_of_cell? w _ hx341_3)).trans hx341_3
           have HR341_3 := Aside0.mk hi341_3
           have HC341_3 := Aside0.mk hl341_3
           clear hi341_3 hl341_3
           replace p341 := eq_true p341
           replace q341 := eq_true q341
           have p342 : 0 ≤ (x4_1 : Int) := of_decide_eq_true (by first | (with_reducible assumption) | assumption)
           have q342 : x4_1 < (l0.length : Int) := of_decide_eq_true (by first | (with_reducible assumption) | assumption)
           obtain ⟨ad342, A342_3, c342_3, e342, hx342_0, hx342_1, hx342_2, hx342_3, hl342_3, hi342_3⟩ := at_T61 HR0.out x4_1 p342 q342
           obtain rfl : ad333 = ad342 := (by injection e342)
           replace hx342_0 := (HB.out.cell (World.block_lt_of_cell? w _ hx342_0)).trans hx342_0
           replace hx342_1 := (HB.out.cell (World.block_lt_of_cell? w _ hx342_1)).trans hx342_1
           replace hx342_2 := (HB.out.cell (World.block_lt_of_cell? w _ hx342_2)).trans hx342_2
           replace hx342_3 := (HB.out.cell (World.block_lt_of_cell? w _ hx342_3)).trans hx342_3
           have HR342_3 := Aside0.mk hi342_3
           have HC342_3 := Aside0.mk hl342_3
           clear hi342_3 hl342_3
           replace p342 := eq_true p342
           replace q342 := eq_true q342
           have ea_ := Option.some.inj (hx341_3.symm.trans hx342_3)
           injection ea_ with ea_ en_ ec_
           subst ea_
           subst ec_
           clear en_
           go_wp2
           repeat (go_quiet (fail); try go_wp2)
           try subst hji15
           go_meet
           case rel => exact ⟨_, (false), (by first | rfl | (simp; done) | (simp [*]; done)), H', ⟨by have := HK1.out; first | omega | exact Nat.le_refl _⟩, ⟨by repeat (first | (with_reducible first | exact HB.out | apply below_alloc | apply pw_below_drewN | apply below_drew1) | exact HB.out)⟩⟩
       ·rw [if_neg c11] at H
        have c11b0 : (t340 == 0) = false := beq_eq_false_iff_ne.mpr c11
        have c11b1 : (t340 != 0) = true := bne_iff_ne.mpr c11
        (first | rw [c11b0] | (simp only [i64_w, i32_w]; rw [c11b0]) | skip)
        have H' := Aside0.mk H
        clear H
        go_wp2
        repeat (go_quiet (fail); try go_wp2)
        try subst hji15
        go_meet
        case rel => exact ⟨_, (true), (by first | rfl | (simp; done) | (simp [*]; done)), H', ⟨by have := HK1.out; first | omega | exact Nat.le_refl _⟩, ⟨by repeat (first | (with_reducible first | exact HB.out | apply below_alloc | apply pw_below_drewN | apply below_drew1) | exact HB.out)⟩⟩
      case rest =>
       clear HC7
       try clear c1
       try clear c2
       try clear c2b0
       try clear c2b1
       try clear p2
       try clear c3
       try clear c3b0
       try clear p3
       try clear q3
       try clear hx3
       try clear c4
       try clear c4b0
       try clear p6
       try clear c11
       try clear c11b0
       try clear c11b1
       try clear c12
       try clear c12b0
       try clear c13
       try clear c13b0
       try clear c14
       try clear c14b0
       try clear c16
       try clear c16b0
       try clear c17
       try clear c17b0
       try clear hx333_0
       try clear hx333_1
       try clear hx333_2
       try clear hx333_3
       try clear hx341_0
       try clear hx341_1
       try clear hx341_2
       try clear hx341_3
       try clear hx342_0
       try clear hx342_1
       try clear hx342_2
       try clear hx342_3
       try clear hx343_0
       try clear hx343_1
       try clear hx343_2
       try clear hx343_3
       try clear hx344_0
       try clear hx344_1
       try clear hx344_2
       try clear hx344_3
       try clear p2
       try clear p333
       try clear p341
       try clear p342
       try clear p343
       try clear p344
       try clear q333
       try clear q341
       try clear q342
       try clear q343
       try clear q344
       obtain ⟨kq, x56_6, rfl, HA, HJ6, HB⟩ := hcut
       cases kq with
       | zero => exact absurd HA.out (by simp [aumbryref16_May.j1])
       | succ kj6 =>
        have H := HA.out
        clear HA
        simp only [aumbryref16_May.j1] at H
        by_cases c18 : x56_6 = true
        ·subst c18
         have H1 : (some false) = some r := by rw [if_pos rfl] at H; exact H
         clear H
         have H := H1
         clear H1
         obtain rfl := Option.some.inj H
         go_wp2
         repeat (go_quiet (fail); try go_wp2)
         go_ret
         exact ⟨by first | rfl | (simp [errW_none, errW_some] <;> rfl) | (simp [*, errW_none, errW_some] <;> rfl), by repeat (first | (with_reducible first | exact HB.out | apply below_alloc | apply pw_below_drewN | apply below_drew1) | exact HB.out)⟩
        ·replace c18 := Bool.eq_false_iff.mpr c18
         subst c18
         have H1 : (if 0 ≤ x4_1 then (if x4_1 < (l0.length : Int) then (aumbryref16_May.l0 kj6 l0 (wrap64 (x3_1 + (((rd_T61 l0 x4_1).f3).length : Int))) (wrap64 (x4_1 + 1))) else (none)) else (none)) = some r := by rw [if_neg (show ¬ (false = true) by decide)] at H; exact H
         clear H
         have H := H1
         clear H1
         by_cases c19 : 0 ≤ x4_1
         ·rw [if_pos c19] at H
          have c19b0 : decide (0 ≤ x4_1) = true := decide_eq_true c19
          clear c19
          by_cases c20 : x4_1 < (l0.length : Int)
          ·rw [if_pos c20] at H
           have c20b0 : decide (x4_1 < (l0.length : Int)) = true := decide_eq_true c20
           clear c20
           have H' := Aside0.mk H
           clear H
           have p345 : 0 ≤ (x4_1 : Int) := of_decide_eq_true (by first | (with_reducible assumption) | assumption)
           have q345 : x4_1 < (l0.length : Int) := of_decide_eq_true (by first | (with_reducible assumption) | assumption)
           obtain ⟨ad345, A345_3, c345_3, e345, hx345_0, hx345_1, hx345_2, hx345_3, hl345_3, hi345_3⟩ := at_T61 HR0.out x4_1 p345 q345
           obtain rfl : ad333 = ad345 := (by injection e345)
           replace hx345_0 := (HB.out.cell (World.block_lt_of_cell? w _ hx345_0)).trans hx345_0
           replace hx345_1 := (HB.out.cell (World.block_lt_of_cell? w _ hx345_1)).trans hx345_1
           replace hx345_2 := (HB.out.cell (World.block_lt_of_cell? w _ hx345_2)).trans hx345_2
           replace hx345_3 := (HB.out.cell (World.block_lt_of_cell? w _ hx345_3)).trans hx345_3
           have HR345_3 := Aside0.mk hi345_3
           have HC345_3 := Aside0.mk hl345_3
           clear hi345_3 hl345_3
           replace p345 := eq_true p345
           replace q345 := eq_true q345
           go_wp2
           repeat (go_quiet (fail); try go_wp2)
           go_roundg kj6
           case measure => have := HK1.out; have := HJ6.out; omega
           case rel => exact ⟨(wrap64 (x3_1 + (((rd_T61 l0 x4_1).f3).length : Int))), (wrap64 (x4_1 + 1)), (by first | rfl | (simp; done) | (simp [*]; done)), (by first | rfl | (simp; done) | (simp [*]; done)), H', ⟨by have := HK1.out; have := HJ6.out; omega⟩, ⟨by repeat (first | (with_reducible first | exact HB.out | apply below_alloc | apply pw_below_drewN | apply below_drew1) | exact HB.out)⟩⟩
          ·rw [if_neg c20] at H
           exact absurd H (by simp)
         ·rw [if_neg c19] at H
          exact absurd H (by simp)
     ·rw [if_neg c4] at H
      exact absurd H (by simp)
    ·rw [if_neg c3] at H
     have c3b0 : decide (x4_1 < (l0.length : Int)) = false := decide_eq_false c3
     clear c3
     obtain rfl := Option.some.inj H
     go_wp2
     repeat (go_quiet (fail); try go_wp2)
     go_ret
     exact ⟨by first | rfl | (simp [errW_none, errW_some] <;> rfl) | (simp [*, errW_none, errW_some] <;> rfl), by repeat (first | (with_reducible first | exact HB.out | apply below_alloc | apply pw_below_drewN | apply below_drew1) | exact HB.out)⟩

end Go.Proofs.Ytoeegdpkmdgkdaa.PAll
