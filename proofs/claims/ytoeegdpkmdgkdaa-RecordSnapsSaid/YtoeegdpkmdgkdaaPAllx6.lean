-- LAID BY A PROGRAM OF THIS SESSION (wip/tools: the kit's print with changes of our own)
import Derived.Test.YtoeegdpkmdgkdaaPAllx0
import Derived.Test.YtoeegdpkmdgkdaaPAllx2
import Derived.Test.YtoeegdpkmdgkdaaPAllx4
import Derived.Test.YtoeegdpkmdgkdaaPAllx5
namespace Go.Proofs.Ytoeegdpkmdgkdaa.PAll
open Go.RowKit Go.Proofs.YtoeegdpkmdgkdaaW.PrintWords Go.Proofs.YtoeegdpkmdgkdaaW.PrintLast Go.Proofs.YtoeegdpkmdgkdaaW.PrintMore
attribute [local go_sem] min2_int min_two   -- for this text's walks alone
set_option linter.unusedVariables false
set_option linter.unusedSimpArgs false

/-! ### record_Snap: function 21 -/
mutual
def record_Snap.l0 : Nat → List Int → List (S61) → Int → Int → Option ((List (List Int)) × Int)
 | 0, _, _, _, _ => none
 | k + 1, x4, x15, x16, x17 => if x17 < x16 then (if 0 ≤ x17 then (if x17 < (x15.length : Int) then ((record_number.f k x4 ((rd_T61 x15 x17).f2) 4).bind fun t152 => ((record_put.f ((rd_T61 x15 x17).f0) ((rd_T61 x15 x17).f1) ((rd_T61 x15 x17).f2) ((rd_T61 x15 x17).f3)).bind fun bt155 => ((record_encoded.f k t152 bt155.1 bt155.2.1 bt155.2.2.1 bt155.2.2.2).bind fun t161 => (record_Snap.l0 k t161 x15 x16 (wrap64 (x17 + 1)))))) else (none)) else (none)) else (record_Snap.l1 k x4 ([] : List (List Int)) 0)
def record_Snap.l1 : Nat → List Int → List (List Int) → Int → Option ((List (List Int)) × Int)
 | 0, _, _, _ => none
 | k + 1, x4, x7, x29 => if x29 < 2 then (if 0 ≤ (mn (x4.length : Int) 4096) then (if (mn (x4.length : Int) 4096) ≤ (x4.length : Int) then (if x7.length < 5864062014805 then (record_Snap.l1 k (x4.drop ((mn (x4.length : Int) 4096) : Int).toNat) (x7 ++ [(x4.take ((mn (x4.length : Int) 4096) : Int).toNat)]) (wrap64 (x29 + 1))) else (none)) else (none)) else (none)) else (some (x7, 0))
end
def record_Snap.f (k : Nat) (l0 : List (S61)) : Option ((List (List Int)) × Int) := (record_may.f k l0).bind fun t146 => (if t146 = true then ((record_number.f k ([] : List Int) (l0.length : Int) 2).bind fun t147 => (record_Snap.l0 k t147 l0 (l0.length : Int) 0)) else (some (([] : List (List Int)), 1)))
theorem record_Snap.mono_l : ∀ k, (∀ y0 y1 y2 y3, LeO (record_Snap.l0 k y0 y1 y2 y3) (record_Snap.l0 (k + 1) y0 y1 y2 y3)) ∧ (∀ y0 y1 y2, LeO (record_Snap.l1 k y0 y1 y2) (record_Snap.l1 (k + 1) y0 y1 y2))
 | 0 => ⟨fun _ _ _ _ r h => by simp [record_Snap.l0] at h, fun _ _ _ r h => by simp [record_Snap.l1] at h⟩
 | k + 1 => by
  obtain ⟨ih0, ih1⟩ := record_Snap.mono_l k
  refine ⟨?_, ?_⟩
  ·intro y0 y1 y2 y3
   unfold record_Snap.l0
   repeat' first
   | (with_reducible exact ih0 _ _ _ _)
   | (with_reducible exact ih1 _ _ _)
   | (with_reducible exact record_encoded.mono _ _ _ _ _ _)
   | (with_reducible exact record_may.mono _ _)
   | (with_reducible exact record_number.mono _ _ _ _)
   | (with_reducible exact LeO.refl _)
   | (with_reducible exact LeO.none _)
   | (with_reducible refine LeO.ite ?_ ?_)
   | (with_reducible refine LeO.bind ?_ (fun _ => ?_))
   | exact ih0 _ _ _ _
   | exact ih1 _ _ _
   | exact record_encoded.mono _ _ _ _ _ _
   | exact record_may.mono _ _
   | exact record_number.mono _ _ _ _
   | exact LeO.none _
   | refine LeO.ite ?_ ?_
   | refine LeO.bind ?_ (fun _ => ?_)
  ·intro y0 y1 y2
   unfold record_Snap.l1
   repeat' first
   | (with_reducible exact ih0 _ _ _ _)
   | (with_reducible exact ih1 _ _ _)
   | (with_reducible exact record_encoded.mono _ _ _ _ _ _)
   | (with_reducible exact record_may.mono _ _)
   | (with_reducible exact record_number.mono _ _ _ _)
   | (with_reducible exact LeO.refl _)
   | (with_reducible exact LeO.none _)
   | (with_reducible refine LeO.ite ?_ ?_)
   | (with_reducible refine LeO.bind ?_ (fun _ => ?_))
   | exact ih0 _ _ _ _
   | exact ih1 _ _ _
   | exact record_encoded.mono _ _ _ _ _ _
   | exact record_may.mono _ _
   | exact record_number.mono _ _ _ _
   | exact LeO.none _
   | refine LeO.ite ?_ ?_
   | refine LeO.bind ?_ (fun _ => ?_)
theorem record_Snap.mono : ∀ a0 k, LeO (record_Snap.f k a0) (record_Snap.f (k + 1) a0) := by
 intro a0 k
 obtain ⟨ih0, ih1⟩ := record_Snap.mono_l k
 unfold record_Snap.f
 repeat' first
   | (with_reducible exact ih0 _ _ _ _)
   | (with_reducible exact ih1 _ _ _)
   | (with_reducible exact record_encoded.mono _ _ _ _ _ _)
   | (with_reducible exact record_may.mono _ _)
   | (with_reducible exact record_number.mono _ _ _ _)
   | (with_reducible exact LeO.refl _)
   | (with_reducible exact LeO.none _)
   | (with_reducible refine LeO.ite ?_ ?_)
   | (with_reducible refine LeO.bind ?_ (fun _ => ?_))
   | exact ih0 _ _ _ _
   | exact ih1 _ _ _
   | exact record_encoded.mono _ _ _ _ _ _
   | exact record_may.mono _ _
   | exact record_number.mono _ _ _ _
   | exact LeO.none _
   | refine LeO.ite ?_ ?_
   | refine LeO.bind ?_ (fun _ => ?_)
def record_Snap.T7 : Bool × List (List Nat × List Nat) := (true, [([], []), ([], []), ([1], [1]), ([0, 2], [0, 2]), ([], []), ([4, 3], [4]), ([3, 5, 5], [3, 5]), ([6, 6, 0, 1, 2, 3, 4, 5, 6], [0, 6])])
def record_Snap.B7 : List Nat := [0, 0, 2, 7, 0, 31, 63, 127]
theorem record_Snap.tab7 : rtab .any (opsOf Try.f21 7) = record_Snap.T7 := by kernel_rfl
theorem record_Snap.bits7 : waitsOk record_Snap.T7.2 record_Snap.B7 = true := by kernel_rfl
set_option maxHeartbeats 8000000 in
set_option maxRecDepth 100000 in
theorem record_Snap.calls (k : Nat) (P0_ : Nat → Prop) (A0 : Option Addr) (c0 : Nat) (l0 : List (S61)) (r1 : List (List Int)) (r2 : Int) (w : World) (hs0 : Kd.V k61 61 w w.heap.size (fun k_ => P0_ k_) (.slice A0 l0.length c0) l0) (h : record_Snap.f k l0 = some (r1, r2)) :
  Calls Try.prog 21 #[.slice A0 l0.length c0] w fun e w' => ∃ v0_ : Value, e = .returned (.tuple #[v0_, .int .i64 r2]) ∧ Kd.N (Kd.slice 5 (Kd.int .u8)) 26 w' w.heap.size (fun k_ => (P0_ k_ ∨ w.heap.size ≤ k_)) v0_ r1 ∧ Below w.heap.size w w' := by
 have hu61 := Try.underlying61
 have HO0 := Aside0.mk (show Kd.V k61 61 w w.heap.size (fun k_ => (P0_ k_ ∨ w.heap.size ≤ k_)) (.slice A0 l0.length c0) l0 from Kd.V_mono hs0 (fun k_ hk => .inl hk))
 have HB := Aside0.mk (Below.refl w.heap.size w)
 have H : ((record_may.f k l0).bind fun t146 => (if t146 = true then ((record_number.f k ([] : List Int) (l0.length : Int) 2).bind fun t147 => (record_Snap.l0 k t147 l0 (l0.length : Int) 0)) else (some (([] : List (List Int)), 1)))) = some (r1, r2) := h
 clear h
 replace H := Option.bind_eq_some_iff.mp H
 obtain ⟨t146, A20, H⟩ := H
 replace H : (if t146 = true then ((record_number.f k ([] : List Int) (l0.length : Int) 2).bind fun t147 => (record_Snap.l0 k t147 l0 (l0.length : Int) 0)) else (some (([] : List (List Int)), 1))) = some (r1, r2) := H
 have A2 := Aside0.mk A20
 clear A20
 by_cases c3 : t146 = true
 ·subst c3
  have H1 : ((record_number.f k ([] : List Int) (l0.length : Int) 2).bind fun t147 => (record_Snap.l0 k t147 l0 (l0.length : Int) 0)) = some (r1, r2) := by rw [if_pos rfl] at H; exact H
  clear H
  have H := H1
  clear H1
  replace H := Option.bind_eq_some_iff.mp H
  obtain ⟨t147, A40, H⟩ := H
  replace H : (record_Snap.l0 k t147 l0 (l0.length : Int) 0) = some (r1, r2) := H
  have A4 := Aside0.mk A40
  clear A40
  have H' := Aside0.mk H
  clear H
  go_enter Try.func21, Try.ntmps21
  go_wp2_with (first | ((with_reducible refine gate_callee (f := 35) rfl ?_); refine goesL_ (some 10) rfl rfl Try.func35 (by kernel_rfl) rfl #[.slice A0 l0.length c0] rfl (by (try simp only [List.map_toArray, List.map_cons, List.map_nil]); first | done | rfl | (simp only [List.length_drop, List.length_take]; rfl)) ?_; (with_reducible refine (record_may.calls k _ _ l0 true _ ?side1 ?side2 A2.out).mono ?_); (case side1 => repeat (first | exact (Kd.V_reads' HO0.out).2.2 | (with_reducible refine Kd.C_alloc ?_ _) | (with_reducible refine Kd.C_drewN ?_ _) | (with_reducible refine Kd.C_drew ?_))); (case side2 => exact (Kd.V_reads' HO0.out).2.1); rintro e w5 ⟨rfl, hb⟩; refine ⟨_, rfl, ?_⟩; have n0_ := Aside0.mk (Kd.V_below (by (with_reducible repeat (first | apply Kd.V_alloc | apply Kd.V_drewN | apply Kd.V_drew)); exact HO0.out) hb); have n1_ := Aside0.mk (below_step (by repeat (first | (with_reducible first | exact HB.out | apply below_alloc | apply pw_below_drewN | apply below_drew1) | exact HB.out)) hb); clear HO0; clear HB; have HO0 := n0_; have HB := n1_; clear n0_ n1_; (try clear hb); (try clear hb2); (try clear hk); (try clear hi)) | ((with_reducible refine gate_callee (f := 36) rfl ?_); refine goesL_ (some 14) rfl rfl Try.func36 (by kernel_rfl) rfl #[.slice none 0 0, .int .i64 (l0.length : Int), .int .i64 2] rfl (by (try simp only [List.map_toArray, List.map_cons, List.map_nil]); first | done | rfl | (simp only [List.length_drop, List.length_take]; rfl)) ?_; (refine (record_number.calls k (fun k_ => some k_ = (.slice none 0 0 : Value).ownBlock) (.slice none 0 0) ([] : List Int) (l0.length : Int) 2 t147 w _ ?side1 ?side2 A4.out).mono ?_); (case side1 => repeat (first | (with_reducible first | exact HB.out | apply below_alloc | apply pw_below_drewN | apply below_drew1) | exact HB.out)); (case side2 => exact Kd.R_nil _ _ _ _ _); rintro e w6 ⟨v148, rfl, ho0, hb, hkp⟩; refine ⟨_, rfl, ?_⟩; have n0_ := Aside0.mk (Kd.V_mono (ok' := fun k_ => (P0_ k_ ∨ w.heap.size ≤ k_) ∧ some k_ ≠ (v148 : Value).ownBlock) (Kd.V_keptB (HO0.out) hkp (fun k_ hk_ hs_ => (fun e_ => by simp [Value.ownBlock] at e_) hs_)) (fun k_ hk_ => ⟨hk_.1, fun e_ => Or.elim (ho0.1 k_ e_.symm) (fun hs_ => hk_.2.1 hs_) (fun hn_ => Nat.not_le.2 hk_.2.2 hn_)⟩)); have n1_ := Aside0.mk (Kd.R_mono (ok' := fun k_ => (w.heap.size ≤ k_)) ho0 (fun k_ hk_ => Or.elim hk_ (fun hs_ => absurd hs_ (by simp [Value.ownBlock])) (fun hn_ => (Nat.le_trans (below_size (by repeat (first | (with_reducible first | exact HB.out | apply below_alloc | apply pw_below_drewN | apply below_drew1) | exact HB.out))) hn_)))); have n2_ := Aside0.mk (hb); clear HO0; clear HB; have HO0 := n0_; have HO149 := n1_; have HB := n2_; clear n0_ n1_ n2_; (try clear hb); (try clear hkp); (try clear ho0)))
  go_loopg [4, 17] k (fun kq v4 v17 w' => ∃ (x4_1 : List Int) (x17_1 : Int), v17 = .int .i64 x17_1 ∧ Aside0 (record_Snap.l0 kq x4_1 l0 (l0.length : Int) x17_1 = some (r1, r2)) ∧ Aside0 (kq ≤ k) ∧ Aside0 (Kd.R (Kd.int .u8) 5 w' w.heap.size (fun k_ => (w.heap.size ≤ k_)) v4 x4_1) ∧ Aside0 (Kd.V k61 61 w' w.heap.size (fun k_ => (P0_ k_ ∨ w.heap.size ≤ k_) ∧ some k_ ≠ (v4 : Value).ownBlock) (.slice A0 l0.length c0) l0) ∧ Aside0 (Below w.heap.size w w'))
  case atStart => exact ⟨(t147), (0), (by first | rfl | (simp; done) | (simp [*]; done)), H', ⟨Nat.le_refl _⟩, ⟨by (with_reducible repeat (first | apply Kd.R_alloc | apply Kd.R_drewN | apply Kd.R_drew)); exact HO149.out⟩, ⟨by (with_reducible repeat (first | apply Kd.V_alloc | apply Kd.V_drewN | apply Kd.V_drew)); exact HO0.out⟩, ⟨by repeat (first | (with_reducible first | exact HB.out | apply below_alloc | apply pw_below_drewN | apply below_drew1) | exact HB.out)⟩⟩
  case round =>
   clear H'
   try clear c2
   try clear p2
   try clear c3
   obtain ⟨x4_1, x17_1, rfl, HA, HK1, HO_4, HO_15, HB⟩ := hrel
   cases gk with
   | zero => exact absurd HA.out (by simp [record_Snap.l0])
   | succ k1 =>
    have H := HA.out
    clear HA
    simp only [record_Snap.l0] at H
    by_cases c7 : x17_1 < (l0.length : Int)
    ·rw [if_pos c7] at H
     have c7b0 : decide (x17_1 < (l0.length : Int)) = true := decide_eq_true c7
     clear c7
     by_cases c8 : 0 ≤ x17_1
     ·rw [if_pos c8] at H
      have c8b0 : decide (0 ≤ x17_1) = true := decide_eq_true c8
      clear c8
      by_cases c9 : x17_1 < (l0.length : Int)
      ·rw [if_pos c9] at H
       have c9b0 : decide (x17_1 < (l0.length : Int)) = true := decide_eq_true c9
       clear c9
       replace H := Option.bind_eq_some_iff.mp H
       obtain ⟨t152, A100, H⟩ := H
       replace H : ((record_put.f ((rd_T61 l0 x17_1).f0) ((rd_T61 l0 x17_1).f1) ((rd_T61 l0 x17_1).f2) ((rd_T61 l0 x17_1).f3)).bind fun bt155 => ((record_encoded.f k1 t152 bt155.1 bt155.2.1 bt155.2.2.1 bt155.2.2.2).bind fun t161 => (record_Snap.l0 k1 t161 l0 (l0.length : Int) (wrap64 (x17_1 + 1))))) = some (r1, r2) := H
       have A10 := Aside0.mk A100
       clear A100
       replace H := Option.bind_eq_some_iff.mp H
       obtain ⟨⟨t155, t156, t157, t158⟩, A110, H⟩ := H
       replace H : ((record_encoded.f k1 t152 t155 t156 t157 t158).bind fun t161 => (record_Snap.l0 k1 t161 l0 (l0.length : Int) (wrap64 (x17_1 + 1)))) = some (r1, r2) := H
       have A11 := Aside0.mk A110
       clear A110
       replace H := Option.bind_eq_some_iff.mp H
       obtain ⟨t161, A120, H⟩ := H
       replace H : (record_Snap.l0 k1 t161 l0 (l0.length : Int) (wrap64 (x17_1 + 1))) = some (r1, r2) := H
       have A12 := Aside0.mk A120
       clear A120
       have H' := Aside0.mk H
       clear H
       have p150 : 0 ≤ (x17_1 : Int) := of_decide_eq_true (by first | (with_reducible assumption) | assumption)
       have q150 : x17_1 < (l0.length : Int) := of_decide_eq_true (by first | (with_reducible assumption) | assumption)
       obtain ⟨ad150, A150_3, c150_3, e150, hx150_0, hx150_1, hx150_2, hx150_3, hl150_3, hi150_3⟩ := at_T61 (Kd.V_reads' HO_15.out).2.2 x17_1 p150 q150
       cases e150
       obtain ⟨ce150, hce150, hMe150, hcc150⟩ := Kd.V_get HO_15.out z61 x17_1 p150 (by first | exact q150 | exact of_decide_eq_true (by first | (with_reducible assumption) | assumption) | (have e_ := (Kd.V_reads' HO_15.out).1; omega))
       obtain ⟨ua150_3, uc150_3, rfl, ul150_3, ge150_3⟩ := k61_openF hMe150
       have hv150_3 := hcc150 3 _ rfl
       rw [add_field _ _ 3 (by omega)] at hv150_3
       replace hv150_3 := Option.some.inj (hv150_3.symm.trans hx150_3)
       injection hv150_3 with hva_ hvn_ hvc_
       rw [hva_] at ge150_3
       rw [hvc_] at ul150_3
       have HL150_3 := Aside0.mk (show Kd.V (Kd.int .i64) 3 _ w.heap.size _ _ ((rd_T61 l0 x17_1).f3) from Kd.V_mk ul150_3 ge150_3)
       clear hva_ hvn_ hvc_ ge150_3 ul150_3
       clear hcc150 hce150
       have HR150_3 := Aside0.mk hi150_3
       have HC150_3 := Aside0.mk hl150_3
       clear hi150_3 hl150_3
       replace p150 := eq_true p150
       replace q150 := eq_true q150
       try go_wp2_with (first | ((with_reducible refine gate_dst (N := 6) rfl ?_); refine box_event ?hg (N := 6) ?hd (cs := #[.string (⟨#[]⟩ : ByteArray), .int .i64 0, .int .i64 0, .slice none 0 0]) (t := 61) ?hr ?_; (case hd => rfl); (case hg => rfl); (case hr => first | (go_simp; done) | (go_simp; rfl)); intro gb151 hg w13 hbox hb; have n0_ := Aside0.mk (Kd.R_below (by (with_reducible repeat (first | apply Kd.R_alloc | apply Kd.R_drewN | apply Kd.R_drew)); exact HO_4.out) hb); have n1_ := Aside0.mk (Kd.V_below (Kd.V_elderB (by (with_reducible repeat (first | apply Kd.V_alloc | apply Kd.V_drewN | apply Kd.V_drew)); exact HO_15.out) gb151 (Nat.le_of_eq hg.symm)) hb); have n2_ := Aside0.mk (Kd.V_below (Kd.V_elderB (by (with_reducible repeat (first | apply Kd.V_alloc | apply Kd.V_drewN | apply Kd.V_drew)); exact HL150_3.out) gb151 (Nat.le_of_eq hg.symm)) hb); have n3_ := Aside0.mk (Kd.C_below (by repeat (first | (with_reducible exact HR150_3.out) | (with_reducible refine Kd.C_alloc ?_ _) | (with_reducible refine Kd.C_drewN ?_ _) | (with_reducible refine Kd.C_drew ?_) | exact HR150_3.out)) hb); have n4_ := Aside0.mk (below_step (by repeat (first | (with_reducible first | exact HB.out | apply below_alloc | apply pw_below_drewN | apply below_drew1) | exact HB.out)) hb); have n5_ := Aside0.mk (hbox); have n6_ := Aside0.mk ((by rw [hg]; exact (below_size (by repeat (first | (with_reducible first | exact HB.out | apply below_alloc | apply pw_below_drewN | apply below_drew1) | exact HB.out))) : w.heap.size ≤ gb151)); have n7_ := Aside0.mk ((by rw [hg]; exact (below_size (by repeat (first | (with_reducible first | exact HB.out | apply below_alloc | apply pw_below_drewN | apply below_drew1) | exact HB.out))) : w.heap.size ≤ gb151)); clear HO_4; clear HO_15; clear HL150_3; clear HR150_3; clear HB; have HO_4 := n0_; have HO_15 := n1_; have HL150_3 := n2_; have HR150_3 := n3_; have HB := n4_; have BK151 := n5_; have GW151 := n6_; have GE151 := n7_; clear n0_ n1_ n2_ n3_ n4_ n5_ n6_ n7_; clear hb hbox hg; have hcz14_0 : w13.cell? ⟨gb151, 0, none⟩ = some (.string (⟨#[]⟩ : ByteArray)) := (blk_cell BK151.out 0).trans rfl; have hcz14_1 : w13.cell? ⟨gb151, 1, none⟩ = some (.int .i64 0) := (blk_cell BK151.out 1).trans rfl; have hcz14_2 : w13.cell? ⟨gb151, 2, none⟩ = some (.int .i64 0) := (blk_cell BK151.out 2).trans rfl; have hcz14_3 : w13.cell? ⟨gb151, 3, none⟩ = some (.slice none 0 0) := (blk_cell BK151.out 3).trans rfl; have hfz14_0 := blk_frozen BK151.out 0; have hfz14_1 := blk_frozen BK151.out 1; have hfz14_2 := blk_frozen BK151.out 2; have hfz14_3 := blk_frozen BK151.out 3))
       have n0_ : Aside0 (Kd.R (Kd.int .u8) 5 ((((w13.setCell ⟨gb151, 0, none⟩ (.string ((rd_T61 l0 x17_1).f0))).setCell ⟨gb151, 1, none⟩ (.int .i64 ((rd_T61 l0 x17_1).f1))).setCell ⟨gb151, 2, none⟩ (.int .i64 ((rd_T61 l0 x17_1).f2))).setCell ⟨gb151, 3, none⟩ (.slice A150_3 ((rd_T61 l0 x17_1).f3).length c150_3)) w.heap.size (fun k_ => (w.heap.size ≤ k_)) u4 x4_1) := ⟨by (with_reducible repeat (first | apply Kd.R_alloc | apply Kd.R_drewN | apply Kd.R_drew)); exact Kd.R_mono (Kd.R_far (p := ⟨gb151, 3, none⟩) (Kd.R_far (p := ⟨gb151, 2, none⟩) (Kd.R_far (p := ⟨gb151, 1, none⟩) (Kd.R_far (p := ⟨gb151, 0, none⟩) (Kd.R_types HO_4.out BK151.out (by decide)) (fun _ hk => hk.2) (.string ((rd_T61 l0 x17_1).f0))) (fun _ hk => hk.2) (.int .i64 ((rd_T61 l0 x17_1).f1))) (fun _ hk => hk.2) (.int .i64 ((rd_T61 l0 x17_1).f2))) (fun _ hk => hk.2) (.slice A150_3 ((rd_T61 l0 x17_1).f3).length c150_3)) (fun _ hk => hk.1)⟩
       have n1_ : Aside0 (Kd.V k61 61 ((((w13.setCell ⟨gb151, 0, none⟩ (.string ((rd_T61 l0 x17_1).f0))).setCell ⟨gb151, 1, none⟩ (.int .i64 ((rd_T61 l0 x17_1).f1))).setCell ⟨gb151, 2, none⟩ (.int .i64 ((rd_T61 l0 x17_1).f2))).setCell ⟨gb151, 3, none⟩ (.slice A150_3 ((rd_T61 l0 x17_1).f3).length c150_3)) w.heap.size (fun k_ => (P0_ k_ ∨ w.heap.size ≤ k_) ∧ some k_ ≠ (u4 : Value).ownBlock ∧ k_ ≠ gb151) (.slice (some ad150) l0.length c0) l0) := ⟨by (with_reducible repeat (first | apply Kd.V_alloc | apply Kd.V_drewN | apply Kd.V_drew)); exact Kd.V_mono (Kd.V_far (p := ⟨gb151, 3, none⟩) (Kd.V_far (p := ⟨gb151, 2, none⟩) (Kd.V_far (p := ⟨gb151, 1, none⟩) (Kd.V_far (p := ⟨gb151, 0, none⟩) (Kd.V_mono HO_15.out (fun k_ hk => (⟨hk, hk.2⟩ : _ ∧ k_ ≠ gb151))) (fun _ hk => hk.2) (.string ((rd_T61 l0 x17_1).f0))) (fun _ hk => hk.2) (.int .i64 ((rd_T61 l0 x17_1).f1))) (fun _ hk => hk.2) (.int .i64 ((rd_T61 l0 x17_1).f2))) (fun _ hk => hk.2) (.slice A150_3 ((rd_T61 l0 x17_1).f3).length c150_3)) (fun _ hk => ⟨hk.1.1.1, ⟨hk.1.1.2, hk.1.2⟩⟩)⟩
       have n2_ : Aside0 (Kd.V (Kd.int .i64) 3 ((((w13.setCell ⟨gb151, 0, none⟩ (.string ((rd_T61 l0 x17_1).f0))).setCell ⟨gb151, 1, none⟩ (.int .i64 ((rd_T61 l0 x17_1).f1))).setCell ⟨gb151, 2, none⟩ (.int .i64 ((rd_T61 l0 x17_1).f2))).setCell ⟨gb151, 3, none⟩ (.slice A150_3 ((rd_T61 l0 x17_1).f3).length c150_3)) w.heap.size (fun k_ => (P0_ k_ ∨ w.heap.size ≤ k_) ∧ some k_ ≠ (u4 : Value).ownBlock ∧ k_ ≠ gb151) (.slice A150_3 ((rd_T61 l0 x17_1).f3).length c150_3) ((rd_T61 l0 x17_1).f3)) := ⟨by (with_reducible repeat (first | apply Kd.V_alloc | apply Kd.V_drewN | apply Kd.V_drew)); exact Kd.V_mono (Kd.V_far (p := ⟨gb151, 3, none⟩) (Kd.V_far (p := ⟨gb151, 2, none⟩) (Kd.V_far (p := ⟨gb151, 1, none⟩) (Kd.V_far (p := ⟨gb151, 0, none⟩) (Kd.V_mono HL150_3.out (fun k_ hk => (⟨hk, hk.2⟩ : _ ∧ k_ ≠ gb151))) (fun _ hk => hk.2) (.string ((rd_T61 l0 x17_1).f0))) (fun _ hk => hk.2) (.int .i64 ((rd_T61 l0 x17_1).f1))) (fun _ hk => hk.2) (.int .i64 ((rd_T61 l0 x17_1).f2))) (fun _ hk => hk.2) (.slice A150_3 ((rd_T61 l0 x17_1).f3).length c150_3)) (fun _ hk => ⟨hk.1.1.1, ⟨hk.1.1.2, hk.1.2⟩⟩)⟩
       have n3_ : Aside0 (((((w13.setCell ⟨gb151, 0, none⟩ (.string ((rd_T61 l0 x17_1).f0))).setCell ⟨gb151, 1, none⟩ (.int .i64 ((rd_T61 l0 x17_1).f1))).setCell ⟨gb151, 2, none⟩ (.int .i64 ((rd_T61 l0 x17_1).f2))).setCell ⟨gb151, 3, none⟩ (.slice A150_3 ((rd_T61 l0 x17_1).f3).length c150_3)).heap[gb151]? = some (.cells #[.string ((rd_T61 l0 x17_1).f0), .int .i64 ((rd_T61 l0 x17_1).f1), .int .i64 ((rd_T61 l0 x17_1).f2), .slice A150_3 ((rd_T61 l0 x17_1).f3).length c150_3] 61 (0, 0))) := ⟨by (with_reducible repeat (first | refine blk_drewN ?_ _ | refine blk_drew ?_ | refine blk_alloc ?_ _)); refine blk_put (cs := #[.string ((rd_T61 l0 x17_1).f0), .int .i64 ((rd_T61 l0 x17_1).f1), .int .i64 ((rd_T61 l0 x17_1).f2), .slice none 0 0]) ?_ 3 _ rfl; (with_reducible repeat (first | refine blk_drewN ?_ _ | refine blk_drew ?_ | refine blk_alloc ?_ _)); refine blk_put (cs := #[.string ((rd_T61 l0 x17_1).f0), .int .i64 ((rd_T61 l0 x17_1).f1), .int .i64 0, .slice none 0 0]) ?_ 2 _ rfl; (with_reducible repeat (first | refine blk_drewN ?_ _ | refine blk_drew ?_ | refine blk_alloc ?_ _)); refine blk_put (cs := #[.string ((rd_T61 l0 x17_1).f0), .int .i64 0, .int .i64 0, .slice none 0 0]) ?_ 1 _ rfl; (with_reducible repeat (first | refine blk_drewN ?_ _ | refine blk_drew ?_ | refine blk_alloc ?_ _)); refine blk_put (cs := #[.string (⟨#[]⟩ : ByteArray), .int .i64 0, .int .i64 0, .slice none 0 0]) ?_ 0 _ rfl; (with_reducible repeat (first | refine blk_drewN ?_ _ | refine blk_drew ?_ | refine blk_alloc ?_ _)); exact BK151.out⟩
       have n4_ : Aside0 (Below w.heap.size w ((((w13.setCell ⟨gb151, 0, none⟩ (.string ((rd_T61 l0 x17_1).f0))).setCell ⟨gb151, 1, none⟩ (.int .i64 ((rd_T61 l0 x17_1).f1))).setCell ⟨gb151, 2, none⟩ (.int .i64 ((rd_T61 l0 x17_1).f2))).setCell ⟨gb151, 3, none⟩ (.slice A150_3 ((rd_T61 l0 x17_1).f3).length c150_3))) := ⟨by repeat (first | (with_reducible first | exact HB.out | apply below_alloc | apply pw_below_drewN | apply below_drew1 | refine below_set ?_ GE151.out) | exact HB.out)⟩
       (try clear HO_4)
       (try clear HO_15)
       (try clear HL150_3)
       (try clear BK151)
       (try clear HB)
       generalize ((((w13.setCell ⟨gb151, 0, none⟩ (.string ((rd_T61 l0 x17_1).f0))).setCell ⟨gb151, 1, none⟩ (.int .i64 ((rd_T61 l0 x17_1).f1))).setCell ⟨gb151, 2, none⟩ (.int .i64 ((rd_T61 l0 x17_1).f2))).setCell ⟨gb151, 3, none⟩ (.slice A150_3 ((rd_T61 l0 x17_1).f3).length c150_3)) = w15 at n0_ n1_ n2_ n3_ n4_ ⊢
       have HO_4 := n0_
       have HO_15 := n1_
       have HL150_3 := n2_
       have BK151 := n3_
       have HB := n4_
       clear n0_ n1_ n2_ n3_ n4_
       have n0_ := Aside0.mk (Kd.R_drew HO_4.out)
       have n1_ := Aside0.mk (Kd.V_drew HO_15.out)
       have n2_ := Aside0.mk (Kd.V_drew HL150_3.out)
       have n3_ := Aside0.mk (blk_drew BK151.out)
       have n4_ := Aside0.mk (below_drew1 HB.out)
       clear HO_4
       clear HO_15
       clear HL150_3
       clear BK151
       clear HB
       have HO_4 := n0_
       have HO_15 := n1_
       have HL150_3 := n2_
       have BK151 := n3_
       have HB := n4_
       clear n0_ n1_ n2_ n3_ n4_
       obtain ⟨Ao17, co17, eo17⟩ := Kd.R_slice HO_4.out
       (first | subst eo17 | (injection eo17 with f1_ f2_ f3_; have f4_ := f1_.symm; have f5_ := f3_.symm; clear f1_ f2_ f3_; subst f4_; subst f5_))
       refine start_ (n := 8) (S := fun w' => w'.cell? ⟨gb151, 0, none⟩ = some (.string ((rd_T61 l0 x17_1).f0)) ∧ w'.cell? ⟨gb151, 1, none⟩ = some (.int .i64 ((rd_T61 l0 x17_1).f1)) ∧ w'.cell? ⟨gb151, 2, none⟩ = some (.int .i64 ((rd_T61 l0 x17_1).f2)) ∧ w'.cell? ⟨gb151, 3, none⟩ = some (.slice A150_3 ((rd_T61 l0 x17_1).f3).length c150_3)) (ds := []) #[false, false, false, false, false, false, false, false] (by kernel_rfl) rfl rfl ⟨(blk_cell BK151.out 0).trans rfl, (blk_cell BK151.out 1).trans rfl, (blk_cell BK151.out 2).trans rfl, (blk_cell BK151.out 3).trans rfl⟩ (fun hHeld => ?_); refine with_tabW record_Snap.tab7 record_Snap.bits7 (fun HT_ HW_ => ?_)
       generalize w15.drew = w16 at HO_4 HO_15 HL150_3 BK151 HB hHeld ⊢
       refine pure_ (i := 0) (N := some 21) (v := ?_) (a' := ?_) #[true, false, false, false, false, false, false, false] rfl rfl (any_of HT_.out (by kernel_rfl)) (fun _ _ _ h => h) (Or.inl ⟨by rfl, ?_⟩) ?_ ?_
       rotate_left
       ·intro w'
        go_simp
        with_reducible rfl
       rotate_left
       ·simp only [Act.put, List.setIfInBounds_toArray, List.set_cons_zero, List.set_cons_succ, i64_w, i32_w]
        rfl
       refine pure_ (i := 1) (N := some 22) (v := ?_) (a' := ?_) #[true, true, false, false, false, false, false, false] rfl rfl (any_of HT_.out (by kernel_rfl)) (fun _ _ _ h => h) (Or.inl ⟨by rfl, ?_⟩) ?_ ?_
       rotate_left
       ·intro w'
        go_simp
        with_reducible rfl
       rotate_left
       ·simp only [Act.put, List.setIfInBounds_toArray, List.set_cons_zero, List.set_cons_succ, i64_w, i32_w]
        rfl
       refine take_ (i := 2) (N := some 23) (v := ?_) (a' := ?_) #[true, true, true, false, false, false, false, false] rfl rfl (take_ofW HT_.out HW_.out (by kernel_rfl)) (fun _ _ _ h => h) (Or.inl ⟨by rfl, ?_⟩) hHeld ?_ ?_
       rotate_left
       ·rintro w' ⟨s0, s1, s2, s3⟩
        go_simp
        with_reducible rfl
       rotate_left
       ·simp only [Act.put, List.setIfInBounds_toArray, List.set_cons_zero, List.set_cons_succ, i64_w, i32_w]
        rfl
       refine take_ (i := 4) (N := some 25) (v := ?_) (a' := ?_) #[true, true, true, false, true, false, false, false] rfl rfl (take_ofW HT_.out HW_.out (by kernel_rfl)) (fun _ _ _ h => h) (Or.inl ⟨by rfl, ?_⟩) hHeld ?_ ?_
       rotate_left
       ·rintro w' ⟨s0, s1, s2, s3⟩
        go_simp
        with_reducible rfl
       rotate_left
       ·simp only [Act.put, List.setIfInBounds_toArray, List.set_cons_zero, List.set_cons_succ, i64_w, i32_w]
        rfl
       refine one_ (i := 3) (N := some 24) #[true, true, true, true, true, false, false, false] rfl rfl (one_of HT_.out (by kernel_rfl)) (by decide) (fun K hK => ?_)
       refine goes_ Try.func36 (by kernel_rfl) rfl #[.slice Ao17 x4_1.length co17, .int .i64 ((rd_T61 l0 x17_1).f2), .int .i64 4] (by rfl) rfl rfl (by (try simp only [List.map_toArray, List.map_cons, List.map_nil]); first | done | rfl | (simp only [List.length_drop, List.length_take]; rfl)) ?_
       with_reducible refine (record_number.calls k1 (fun k_ => some k_ = (.slice Ao17 x4_1.length co17 : Value).ownBlock) (.slice Ao17 x4_1.length co17) x4_1 ((rd_T61 l0 x17_1).f2) 4 t152 w _ ?side1 ?side2 A10.out).mono ?_
       (case side1 => repeat (first | (with_reducible first | exact HB.out | apply below_alloc | apply pw_below_drewN | apply below_drew1 | refine below_set ?_ GE151.out) | exact HB.out))
       (case side2 => exact Kd.R_tight rfl HO_4.out)
       rintro e w18 ⟨v153, rfl, ho0, hb, hkp⟩
       refine ⟨_, rfl, ?_⟩
       have n0_ := Aside0.mk (Kd.V_mono (ok' := fun k_ => (P0_ k_ ∨ w.heap.size ≤ k_) ∧ k_ ≠ gb151 ∧ some k_ ≠ (v153 : Value).ownBlock) (Kd.V_keptB (HO_15.out) hkp (fun k_ hk_ hs_ => (hk_.2.1) hs_)) (fun k_ hk_ => ⟨hk_.1.1, hk_.1.2.2, fun e_ => Or.elim (ho0.1 k_ e_.symm) (fun hs_ => hk_.2.1 hs_) (fun hn_ => Nat.not_le.2 hk_.2.2 hn_)⟩))
       have n1_ := Aside0.mk (Kd.V_mono (ok' := fun k_ => (P0_ k_ ∨ w.heap.size ≤ k_) ∧ k_ ≠ gb151 ∧ some k_ ≠ (v153 : Value).ownBlock) (Kd.V_keptB (HL150_3.out) hkp (fun k_ hk_ hs_ => (hk_.2.1) hs_)) (fun k_ hk_ => ⟨hk_.1.1, hk_.1.2.2, fun e_ => Or.elim (ho0.1 k_ e_.symm) (fun hs_ => hk_.2.1 hs_) (fun hn_ => Nat.not_le.2 hk_.2.2 hn_)⟩))
       have n2_ := Aside0.mk (blk_kept (by (with_reducible repeat (first | refine blk_drewN ?_ _ | refine blk_drew ?_ | refine blk_alloc ?_ _)); exact BK151.out) hkp (fun hs_ => (fun e_ => (Kd.R_ne HO_4.out BK151.out (by decide)) e_) hs_))
       have n3_ := Aside0.mk (Kd.R_mono (ok' := fun k_ => (w.heap.size ≤ k_)) ho0 (fun k_ hk_ => Or.elim hk_ (fun hs_ => (HO_4.out.1 k_ (hs_).symm)) (fun hn_ => (Nat.le_trans (below_size (by repeat (first | (with_reducible first | exact HB.out | apply below_alloc | apply pw_below_drewN | apply below_drew1 | refine below_set ?_ GE151.out) | exact HB.out))) hn_))))
       have n4_ := Aside0.mk (hb)
       clear HO_15
       clear HL150_3
       clear BK151
       clear HB
       clear HO_4
       have HO_15 := n0_
       have HL150_3 := n1_
       have BK151 := n2_
       have HO154 := n3_
       have HB := n4_
       clear n0_ n1_ n2_ n3_ n4_
       (try clear hb)
       (try clear hkp)
       (try clear ho0)
       refine hK.out _ _ ⟨(blk_cell BK151.out 0).trans rfl, (blk_cell BK151.out 1).trans rfl, (blk_cell BK151.out 2).trans rfl, (blk_cell BK151.out 3).trans rfl⟩ (fun hHeld => ?_)
       clear hK K
       refine norm_ (a' := ?_) ?_ ?_
       rotate_left
       ·show Act.put _ (some 24) _ = _
        simp only [Act.put, List.setIfInBounds_toArray, List.set_cons_zero, List.set_cons_succ, i64_w, i32_w]
        rfl
       refine one_ (i := 5) (N := some 26) #[true, true, true, true, true, true, false, false] rfl rfl (one_of HT_.out (by kernel_rfl)) (by decide) (fun K hK => ?_)
       refine goes_ Try.func37 (by kernel_rfl) rfl #[.agg #[.string ((rd_T61 l0 x17_1).f0), .int .i64 ((rd_T61 l0 x17_1).f1), .int .i64 ((rd_T61 l0 x17_1).f2), .slice A150_3 ((rd_T61 l0 x17_1).f3).length c150_3]] (by rfl) rfl rfl (by (try simp only [List.map_toArray, List.map_cons, List.map_nil]); first | done | rfl | (simp only [List.length_drop, List.length_take]; rfl)) ?_
       with_reducible refine (record_put.calls ((rd_T61 l0 x17_1).f0) ((rd_T61 l0 x17_1).f1) ((rd_T61 l0 x17_1).f2) (fun k_ => ((P0_ k_ ∨ w.heap.size ≤ k_) ∧ (k_ ≠ gb151 ∧ some k_ ≠ (v153 : Value).ownBlock))) _ _ ((rd_T61 l0 x17_1).f3) t155 t156 t157 t158 _ ?side1 A11.out).mono ?_
       (case side1 => exact HL150_3.out)
       rintro e w19 ⟨v159, rfl, ho0, hb⟩
       refine ⟨_, rfl, ?_⟩
       have n0_ := Aside0.mk (Kd.V_below (by (with_reducible repeat (first | apply Kd.V_alloc | apply Kd.V_drewN | apply Kd.V_drew)); exact HO_15.out) hb)
       have n1_ := Aside0.mk (Kd.V_below (by (with_reducible repeat (first | apply Kd.V_alloc | apply Kd.V_drewN | apply Kd.V_drew)); exact HL150_3.out) hb)
       have n2_ := Aside0.mk (Kd.R_below (by (with_reducible repeat (first | apply Kd.R_alloc | apply Kd.R_drewN | apply Kd.R_drew)); exact HO154.out) hb)
       have n3_ := Aside0.mk (Kd.V_lower (Kd.V_mono (ok' := fun k_ => (P0_ k_ ∨ w.heap.size ≤ k_) ∧ some k_ ≠ (v153 : Value).ownBlock ∧ k_ ≠ gb151) ho0 (fun k_ hk_ => ⟨Or.elim hk_ (fun hs_ => hs_.1) (fun hn_ => (.inr (Nat.le_trans (below_size (by repeat (first | (with_reducible first | exact HB.out | apply below_alloc | apply pw_below_drewN | apply below_drew1 | refine below_set ?_ GE151.out) | exact HB.out))) hn_))), Or.elim hk_ (fun hs_ => hs_.2.2) (fun hn_ => (Kd.fresh' (Kd.R_lt (by (with_reducible repeat (first | apply Kd.R_alloc | apply Kd.R_drewN | apply Kd.R_drew)); exact HO154.out)) k_ hn_)), Or.elim hk_ (fun hs_ => hs_.2.1) (fun hn_ => (Kd.freshB (g := gb151) (o := .cells #[.string ((rd_T61 l0 x17_1).f0), .int .i64 ((rd_T61 l0 x17_1).f1), .int .i64 ((rd_T61 l0 x17_1).f2), .slice A150_3 ((rd_T61 l0 x17_1).f3).length c150_3] 61 (0, 0)) (by (with_reducible repeat (first | refine blk_drewN ?_ _ | refine blk_drew ?_ | refine blk_alloc ?_ _)); exact BK151.out) k_ hn_))⟩)) (below_size (by repeat (first | (with_reducible first | exact HB.out | apply below_alloc | apply pw_below_drewN | apply below_drew1 | refine below_set ?_ GE151.out) | exact HB.out))))
       have n4_ := Aside0.mk (blk_below (g := gb151) (o := .cells #[.string ((rd_T61 l0 x17_1).f0), .int .i64 ((rd_T61 l0 x17_1).f1), .int .i64 ((rd_T61 l0 x17_1).f2), .slice A150_3 ((rd_T61 l0 x17_1).f3).length c150_3] 61 (0, 0)) (by (with_reducible repeat (first | refine blk_drewN ?_ _ | refine blk_drew ?_ | refine blk_alloc ?_ _)); exact BK151.out) hb)
       have n5_ := Aside0.mk (below_step (by repeat (first | (with_reducible first | exact HB.out | apply below_alloc | apply pw_below_drewN | apply below_drew1 | refine below_set ?_ GE151.out) | exact HB.out)) hb)
       clear HO_15
       clear HL150_3
       clear HO154
       clear BK151
       clear HB
       have HO_15 := n0_
       have HL150_3 := n1_
       have HO154 := n2_
       have HO160 := n3_
       have BK151 := n4_
       have HB := n5_
       clear n0_ n1_ n2_ n3_ n4_ n5_
       (try clear hb)
       (try clear hb2)
       (try clear hk)
       (try clear hi)
       (try clear ho0)
       obtain ⟨Ao20, co20, eo20⟩ := Kd.R_slice HO154.out
       (first | subst eo20 | (injection eo20 with f1_ f2_ f3_; have f4_ := f1_.symm; have f5_ := f3_.symm; clear f1_ f2_ f3_; subst f4_; subst f5_))
       obtain ⟨Ao21, co21, eo21⟩ := Kd.V_slice HO160.out
       (first | subst eo21 | (injection eo21 with f1_ f2_ f3_; have f4_ := f1_.symm; have f5_ := f3_.symm; clear f1_ f2_ f3_; subst f4_; subst f5_))
       refine hK.out _ _ ⟨(blk_cell BK151.out 0).trans rfl, (blk_cell BK151.out 1).trans rfl, (blk_cell BK151.out 2).trans rfl, (blk_cell BK151.out 3).trans rfl⟩ (fun hHeld => ?_)
       clear hK K
       refine norm_ (a' := ?_) ?_ ?_
       rotate_left
       ·show Act.put _ (some 26) _ = _
        simp only [Act.put, List.setIfInBounds_toArray, List.set_cons_zero, List.set_cons_succ, i64_w, i32_w]
        rfl
       refine one_ (i := 6) (N := some 27) #[true, true, true, true, true, true, true, false] rfl rfl (one_of HT_.out (by kernel_rfl)) (by decide) (fun K hK => ?_)
       refine goes_ Try.func27 (by kernel_rfl) rfl #[.slice Ao20 t152.length co20, .agg #[.int .i64 t155, .string t156, .int .i64 t157, .slice Ao21 t158.length co21]] (by rfl) rfl rfl (by (try simp only [List.map_toArray, List.map_cons, List.map_nil]); first | done | rfl | (simp only [List.length_drop, List.length_take]; rfl)) ?_
       with_reducible refine (record_encoded.calls k1 (fun k_ => some k_ = (.slice Ao20 t152.length co20 : Value).ownBlock) (.slice Ao20 t152.length co20) t152 t155 t156 t157 _ _ t158 t161 w _ ?side1 ?side2 ?side3 ?side4 A12.out).mono ?_
       (case side1 => repeat (first | (with_reducible first | exact HB.out | apply below_alloc | apply pw_below_drewN | apply below_drew1 | refine below_set ?_ GE151.out) | exact HB.out))
       (case side2 => exact Kd.R_tight rfl HO154.out)
       (case side3 => exact Kd.C_kept_ownV (HO160.out) (fun k_ hk_ hs_ => (hk_.2.1) hs_))
       (case side4 => exact (Kd.V_reads' HO160.out).2.1)
       rintro e w22 ⟨v162, rfl, ho0, hb, hkp⟩
       refine ⟨_, rfl, ?_⟩
       have n0_ := Aside0.mk (Kd.V_mono (ok' := fun k_ => (P0_ k_ ∨ w.heap.size ≤ k_) ∧ k_ ≠ gb151 ∧ some k_ ≠ (v162 : Value).ownBlock) (Kd.V_keptB (HO_15.out) hkp (fun k_ hk_ hs_ => (hk_.2.2) hs_)) (fun k_ hk_ => ⟨hk_.1.1, hk_.1.2.1, fun e_ => Or.elim (ho0.1 k_ e_.symm) (fun hs_ => hk_.2.1 hs_) (fun hn_ => Nat.not_le.2 hk_.2.2 hn_)⟩))
       have n1_ := Aside0.mk (Kd.V_mono (ok' := fun k_ => (P0_ k_ ∨ w.heap.size ≤ k_) ∧ k_ ≠ gb151 ∧ some k_ ≠ (v162 : Value).ownBlock) (Kd.V_keptB (HL150_3.out) hkp (fun k_ hk_ hs_ => (hk_.2.2) hs_)) (fun k_ hk_ => ⟨hk_.1.1, hk_.1.2.1, fun e_ => Or.elim (ho0.1 k_ e_.symm) (fun hs_ => hk_.2.1 hs_) (fun hn_ => Nat.not_le.2 hk_.2.2 hn_)⟩))
       have n2_ := Aside0.mk (blk_kept (by (with_reducible repeat (first | refine blk_drewN ?_ _ | refine blk_drew ?_ | refine blk_alloc ?_ _)); exact BK151.out) hkp (fun hs_ => (fun e_ => (Kd.R_ne HO154.out BK151.out (by decide)) e_) hs_))
       have n3_ := Aside0.mk (Kd.V_mono (ok' := fun k_ => (P0_ k_ ∨ w.heap.size ≤ k_) ∧ k_ ≠ gb151 ∧ some k_ ≠ (v162 : Value).ownBlock) (Kd.V_keptB (HO160.out) hkp (fun k_ hk_ hs_ => (hk_.2.1) hs_)) (fun k_ hk_ => ⟨hk_.1.1, hk_.1.2.2, fun e_ => Or.elim (ho0.1 k_ e_.symm) (fun hs_ => hk_.2.1 hs_) (fun hn_ => Nat.not_le.2 hk_.2.2 hn_)⟩))
       have n4_ := Aside0.mk (Kd.R_mono (ok' := fun k_ => (w.heap.size ≤ k_)) ho0 (fun k_ hk_ => Or.elim hk_ (fun hs_ => (HO154.out.1 k_ (hs_).symm)) (fun hn_ => (Nat.le_trans (below_size (by repeat (first | (with_reducible first | exact HB.out | apply below_alloc | apply pw_below_drewN | apply below_drew1 | refine below_set ?_ GE151.out) | exact HB.out))) hn_))))
       have n5_ := Aside0.mk (hb)
       clear HO_15
       clear HL150_3
       clear BK151
       clear HO160
       clear HB
       clear HO154
       have HO_15 := n0_
       have HL150_3 := n1_
       have BK151 := n2_
       have HO160 := n3_
       have HO163 := n4_
       have HB := n5_
       clear n0_ n1_ n2_ n3_ n4_ n5_
       (try clear hb)
       (try clear hkp)
       (try clear ho0)
       refine hK.out _ _ ⟨(blk_cell BK151.out 0).trans rfl, (blk_cell BK151.out 1).trans rfl, (blk_cell BK151.out 2).trans rfl, (blk_cell BK151.out 3).trans rfl⟩ (fun hHeld => ?_)
       clear hK K
       refine norm_ (a' := ?_) ?_ ?_
       rotate_left
       ·show Act.put _ (some 27) _ = _
        simp only [Act.put, List.setIfInBounds_toArray, List.set_cons_zero, List.set_cons_succ, i64_w, i32_w]
        rfl
       refine pure_ (i := 7) (N := some 4) (v := ?_) (a' := ?_) #[true, true, true, true, true, true, true, true] rfl rfl (any_of HT_.out (by kernel_rfl)) (fun _ _ _ h => h) (Or.inl ⟨by rfl, ?_⟩) ?_ ?_
       rotate_left
       ·intro w'
        go_simp
        with_reducible rfl
       rotate_left
       ·simp only [Act.put, List.setIfInBounds_toArray, List.set_cons_zero, List.set_cons_succ, i64_w, i32_w]
        rfl
       refine done_ (done_of HT_.out (by kernel_rfl)) ?_
       try go_wp2
       go_roundg k1
       case measure => have := HK1.out; omega
       case rel => exact ⟨(t161), (wrap64 (x17_1 + 1)), (by first | rfl | (simp; done) | (simp [*]; done)), H', ⟨by have := HK1.out; omega⟩, ⟨by (with_reducible repeat (first | apply Kd.R_alloc | apply Kd.R_drewN | apply Kd.R_drew)); exact HO163.out⟩, ⟨by (with_reducible repeat (first | apply Kd.V_alloc | apply Kd.V_drewN | apply Kd.V_drew)); exact Kd.V_mono HO_15.out (fun _ hk => ⟨hk.1, hk.2.2⟩)⟩, ⟨by repeat (first | (with_reducible first | exact HB.out | apply below_alloc | apply pw_below_drewN | apply below_drew1 | refine below_set ?_ GE151.out) | exact HB.out)⟩⟩
      ·rw [if_neg c9] at H
       exact absurd H (by simp)
     ·rw [if_neg c8] at H
      exact absurd H (by simp)
    ·rw [if_neg c7] at H
     have c7b0 : decide (x17_1 < (l0.length : Int)) = false := decide_eq_false c7
     clear c7
     have H' := Aside0.mk H
     clear H
     go_wp2
     go_loopg [4, 7, 29] k1 (fun kq v4 v7 v29 w' => ∃ (x4_2 : List Int) (x7_2 : List (List Int)) (x29_2 : Int), v29 = .int .i64 x29_2 ∧ Aside0 (record_Snap.l1 kq x4_2 x7_2 x29_2 = some (r1, r2)) ∧ Aside0 (kq ≤ k1) ∧ Aside0 (Kd.V (Kd.int .u8) 5 w' w.heap.size (fun k_ => (P0_ k_ ∨ w.heap.size ≤ k_) ∧ some k_ ≠ (v7 : Value).ownBlock) v4 x4_2) ∧ Aside0 (Kd.N (Kd.slice 5 (Kd.int .u8)) 26 w' w.heap.size (fun k_ => (P0_ k_ ∨ w.heap.size ≤ k_)) v7 x7_2) ∧ Aside0 (Below w.heap.size w w'))
     case atStart => exact ⟨(x4_1), (([] : List (List Int))), (0), (by first | rfl | (simp; done) | (simp [*]; done)), H', ⟨Nat.le_refl _⟩, ⟨Kd.V_mono (Kd.R_V (by (with_reducible repeat (first | apply Kd.R_alloc | apply Kd.R_drewN | apply Kd.R_drew)); exact HO_4.out)) (fun k_ hk => by first | exact ⟨(.inr (hk)), (by simp [Value.ownBlock])⟩ | exact (.inr (hk)))⟩, ⟨by first | exact Kd.S_nil _ _ _ _ _ | exact Kd.N_nil _ _ _ _ _ | exact Kd.V_nil _ _ _ _ _ | exact Kd.Q_nil _ _ _ _ _ | exact Kd.R_nil _ _ _ _ _⟩, ⟨by repeat (first | (with_reducible first | exact HB.out | apply below_alloc | apply pw_below_drewN | apply below_drew1) | exact HB.out)⟩⟩
     case round =>
      clear H'
      try clear c1
      try clear p1
      try clear q1
      try clear hx1
      try clear c2
      try clear p2
      try clear c3
      try clear p6
      try clear c7
      try clear c7b0
      try clear c8
      try clear c8b0
      try clear c9
      try clear c9b0
      try clear c15
      try clear p15
      try clear q15
      try clear hx15
      try clear c21
      try clear hcz14_0
      try clear hcz14_1
      try clear hcz14_2
      try clear hcz14_3
      try clear hfz14_0
      try clear hfz14_1
      try clear hfz14_2
      try clear hfz14_3
      try clear hx150_0
      try clear hx150_1
      try clear hx150_2
      try clear hx150_3
      try clear p150
      try clear p2
      try clear q150
      obtain ⟨x4_2, x7_2, x29_2, rfl, HA, HK2, HO_4, HO_7, HB⟩ := hrel
      cases gk with
      | zero => exact absurd HA.out (by simp [record_Snap.l1])
      | succ k2 =>
       have H := HA.out
       clear HA
       simp only [record_Snap.l1] at H
       by_cases c23 : x29_2 < 2
       ·rw [if_pos c23] at H
        have c23b0 : decide (x29_2 < 2) = true := decide_eq_true c23
        clear c23
        obtain ⟨ji24, hji24⟩ : ∃ j_ : Int, (mn (x4_2.length : Int) 4096) = j_ := ⟨_, rfl⟩
        replace H : (if 0 ≤ (ji24) then (if (ji24) ≤ (x4_2.length : Int) then (if x7_2.length < 5864062014805 then (record_Snap.l1 k2 (x4_2.drop ((ji24) : Int).toNat) (x7_2 ++ [(x4_2.take ((ji24) : Int).toNat)]) (wrap64 (x29_2 + 1))) else (none)) else (none)) else (none)) = some (r1, r2) := by first | (rw [hji24] at H; exact H) | (simp only [hji24] at H ⊢; exact H)
        have hji24_ : (if 4096 < (x4_2.length : Int) then 4096 else (x4_2.length : Int)) = ji24 := hji24
        by_cases c25 : 0 ≤ (ji24)
        ·rw [if_pos c25] at H
         have c25b0 := eq_true c25
         have c25b1 : decide (0 ≤ (ji24)) = true := decide_eq_true c25
         clear c25
         by_cases c26 : (ji24) ≤ (x4_2.length : Int)
         ·rw [if_pos c26] at H
          have c26b0 := eq_true c26
          have c26b1 : decide ((ji24) ≤ (x4_2.length : Int)) = true := decide_eq_true c26
          clear c26
          obtain ⟨y164, hy164⟩ : ∃ y_ : List Int, y_ = (x4_2.take ((ji24) : Int).toNat) := ⟨_, rfl⟩
          replace H : (if x7_2.length < 5864062014805 then (record_Snap.l1 k2 (x4_2.drop ((ji24) : Int).toNat) (x7_2 ++ [y164]) (wrap64 (x29_2 + 1))) else (none)) = some (r1, r2) := by first | (rw [hy164]; with_reducible exact H) | (have H2_ := (Option.bind_some _ _).symm.trans H; rw [hy164]; with_reducible exact H2_) | (have H2_ := (Option.bind_some _ _).symm.trans H; with_reducible exact H2_) | with_reducible exact H | (rw [hy164]; exact H) | exact H
          have Ny164 := Aside0.mk hy164
          clear hy164
          by_cases c27 : x7_2.length < 5864062014805
          ·rw [if_pos c27] at H
           have LMc27 := Aside0.mk c27
           clear c27
           obtain ⟨y169, hy169⟩ : ∃ y_ : List (List Int), y_ = (x7_2 ++ [y164]) := ⟨_, rfl⟩
           replace H : (record_Snap.l1 k2 (x4_2.drop ((ji24) : Int).toNat) y169 (wrap64 (x29_2 + 1))) = some (r1, r2) := by first | (rw [hy169]; with_reducible exact H) | (have H2_ := (Option.bind_some _ _).symm.trans H; rw [hy169]; with_reducible exact H2_) | (have H2_ := (Option.bind_some _ _).symm.trans H; with_reducible exact H2_) | with_reducible exact H | (rw [hy169]; exact H) | exact H
           have Ny169 := Aside0.mk hy169
           clear hy169
           have c28b0 := eq_true (of_decide_eq_true (by first | (with_reducible assumption) | assumption) : 0 ≤ (ji24))
           have c29b0 := eq_true (of_decide_eq_true (by first | (with_reducible assumption) | assumption) : (ji24) ≤ (x4_2.length : Int))
           obtain ⟨y172, hy172⟩ : ∃ y_ : List Int, y_ = (x4_2.drop ((ji24) : Int).toNat) := ⟨_, rfl⟩
           replace H : (record_Snap.l1 k2 y172 y169 (wrap64 (x29_2 + 1))) = some (r1, r2) := by first | (rw [hy172]; with_reducible exact H) | (have H2_ := (Option.bind_some _ _).symm.trans H; rw [hy172]; with_reducible exact H2_) | (have H2_ := (Option.bind_some _ _).symm.trans H; with_reducible exact H2_) | with_reducible exact H | (rw [hy172]; exact H) | exact H
           have Ny172 := Aside0.mk hy172
           clear hy172
           have H' := Aside0.mk H
           clear H
           obtain ⟨Ao30, co30, eo30⟩ := Kd.V_slice HO_4.out
           subst eo30
           have q31 : ((ji24) : Int) ≤ ((x4_2.length : Int) : Int) := of_decide_eq_true (by first | (with_reducible assumption) | assumption)
           obtain ⟨i031, hi031, _, hsz31, _⟩ := info_parts info5
           have hroom31 : x4_2.length ≤ co30 := (Kd.V_reads' HO_4.out).2.1
           have hC31 : Kd.F (Kd.int .u8) _ _ Ao30 x4_2.length x4_2 := (Kd.V_at (base := w.heap.size) HO_4.out).2.2
           have hcut31 := hand_cut_to3 (P := Try.prog) 26 5 .i64 Try.underlying26 hi031 Ao30 x4_2.length co30 (ji24) (of_decide_eq_true (by first | (with_reducible assumption) | assumption)) q31 hroom31
           have hr31 := Kd.F_take (m := ((ji24) : Int).toNat) hC31 (by omega)
           have hy31 : y164.length = ((ji24) : Int).toNat := (by rw [Ny164.out, List.length_take]; omega)
           rw [← Ny164.out] at hr31
           rw [← hy31] at hcut31
           have HO168 := Aside0.mk (show Kd.V (Kd.int .u8) 5 _ w.heap.size _ (.slice Ao30 y164.length y164.length) y164 from Kd.V_mk (by omega) hr31)
           have HC168 := Aside0.mk (show y164.length ≤ y164.length from by omega)
           clear hr31 hC31 hroom31 hi031 hsz31
           have KY31 := Aside0.mk hy31
           clear hy31
           replace q31 := eq_true q31
           go_wp2_with (first | ((with_reducible refine gate_builtin (b := .append) (xs := #[.tmp 34, .tmp 39]) rfl ?_); at_builtin; refine Kd.N_append (Kd.slice 5 (Kd.int .u8)) (w0 := w) w.heap.size rfl (.tmp 34) (.tmp 39) 38 26 (.slice none 0 0) 24 rfl Try.underlying38 info26 rfl (by decide) (by omega) u7 x7_2 y164 [.slice Ao30 y164.length y164.length] (fun k_ => (P0_ k_ ∨ w.heap.size ≤ k_)) (fun k_ => ((fun k_ => (P0_ k_ ∨ w.heap.size ≤ k_))) k_ ∧ some k_ ≠ (u7 : Value).ownBlock) rfl rfl ?aP (fun _ hk => hk) ?aF ?aO ?aB ?aS ?aL ?_; (case aP => exact (Kd.FK_slice_mk (Kd.V_reads' (Kd.V_mono (ok' := (fun k_ => ((fun k_ => (P0_ k_ ∨ w.heap.size ≤ k_))) k_ ∧ some k_ ≠ (u7 : Value).ownBlock)) (HO168.out) (fun k_ hk => ⟨hk.1, hk.2⟩))).2.1 (Kd.V_F (Kd.V_mono (ok' := (fun k_ => ((fun k_ => (P0_ k_ ∨ w.heap.size ≤ k_))) k_ ∧ some k_ ≠ (u7 : Value).ownBlock)) (HO168.out) (fun k_ hk => ⟨hk.1, hk.2⟩))))); (case aB => exact (by repeat (first | (with_reducible first | exact HB.out | apply below_alloc | apply pw_below_drewN | apply below_drew1) | exact HB.out))); (case aF => exact (fun k_ hk => (.inr (Nat.le_trans (below_size (by repeat (first | (with_reducible first | exact HB.out | apply below_alloc | apply pw_below_drewN | apply below_drew1) | exact HB.out))) hk)))); (case aO => exact (by (with_reducible repeat (first | apply Kd.N_alloc | apply Kd.N_drewN | apply Kd.N_drew)); exact HO_7.out)); (case aS => exact (below_size (by repeat (first | (with_reducible first | exact HB.out | apply below_alloc | apply pw_below_drewN | apply below_drew1) | exact HB.out)))); (case aL => have := LMc27.out; omega); intro v170 w32 ho hb hg hat; rw [← Ny169.out] at ho; have n0_ := Aside0.mk (Kd.V_afterv (ok := (fun k_ => (P0_ k_ ∨ w.heap.size ≤ k_))) (by (with_reducible repeat (first | apply Kd.V_alloc | apply Kd.V_drewN | apply Kd.V_drew)); exact HO_4.out) hg hat); have n1_ := Aside0.mk (Kd.V_afterv (ok := (fun k_ => (P0_ k_ ∨ w.heap.size ≤ k_))) (by (with_reducible repeat (first | apply Kd.V_alloc | apply Kd.V_drewN | apply Kd.V_drew)); exact HO168.out) hg hat); have n2_ := Aside0.mk (hb); have n3_ := Aside0.mk (ho); clear HO_4; clear HO168; clear HB; clear HO_7; have HO_4 := n0_; have HO168 := n1_; have HB := n2_; have HO171 := n3_; clear n0_ n1_ n2_ n3_; clear ho hb hg hat; have q33 : ((ji24) : Int) ≤ ((x4_2.length : Int) : Int) := of_decide_eq_true (by first | (with_reducible assumption) | assumption); obtain ⟨i033, hi033, _, hsz33, _⟩ := info_parts info5; have hroom33 : x4_2.length ≤ co30 := (Kd.V_reads' HO_4.out).2.1; have hC33 : Kd.F (Kd.int .u8) _ _ Ao30 x4_2.length x4_2 := (Kd.V_at (base := w.heap.size) HO_4.out).2.2; have q033 : (0 : Int) ≤ ((ji24) : Int) := of_decide_eq_true (by first | (with_reducible assumption) | assumption); have hcut33 := cut_from (P := Try.prog) 26 5 .i64 Try.underlying26 hi033 1 hsz33 Ao30 x4_2.length co30 (ji24) q033 q33; have hr33 := Kd.F_cut (m := ((ji24) : Int).toNat) (c := co30) hC33 (by omega) hroom33; obtain ⟨A33, hA33⟩ : ∃ Aq_, Aq_ = (if co30 = ((ji24) : Int).toNat then Ao30 else (Ao30 : Option Addr).map (·.add (((ji24) : Int).toNat * 1))) := ⟨_, rfl⟩; obtain ⟨c33, hc33⟩ : ∃ cq_, cq_ = co30 - ((ji24) : Int).toNat := ⟨_, rfl⟩; have hy33 : y172.length = x4_2.length - ((ji24) : Int).toNat := (by rw [Ny172.out, List.length_drop] <;> omega); rw [show (x4_2).drop ((ji24) : Int).toNat = y172 from Ny172.out.symm] at hr33; replace hr33 : Kd.F (Kd.int .u8) _ _ A33 y172.length y172 := (by rw [hA33]; exact hr33); rw [← hy33, ← hA33, ← hc33] at hcut33; have HO176 := Aside0.mk (show Kd.V (Kd.int .u8) 5 _ w.heap.size _ (.slice A33 y172.length c33) y172 from Kd.V_mk (by rw [hy33, hc33]; exact Nat.sub_le_sub_right hroom33 _) hr33); have HC176 := Aside0.mk (show y172.length ≤ c33 from by rw [hy33, hc33]; exact Nat.sub_le_sub_right hroom33 _); clear hr33 hC33 hroom33 hi033 hsz33 hc33; have KY33 := Aside0.mk hy33; have KA33 := Aside0.mk hA33; clear hy33 hA33; replace q33 := eq_true q33))
           go_roundg k2
           case measure => have := HK1.out; have := HK2.out; omega
           case rel => exact ⟨(y172), (y169), (wrap64 (x29_2 + 1)), (by first | rfl | (simp; done) | (simp [*]; done)), H', ⟨by have := HK1.out; have := HK2.out; omega⟩, ⟨by (with_reducible repeat (first | apply Kd.V_alloc | apply Kd.V_drewN | apply Kd.V_drew)); exact HO176.out⟩, ⟨by (with_reducible repeat (first | apply Kd.N_alloc | apply Kd.N_drewN | apply Kd.N_drew)); exact HO171.out⟩, ⟨by repeat (first | (with_reducible first | exact HB.out | apply below_alloc | apply pw_below_drewN | apply below_drew1) | exact HB.out)⟩⟩
          ·rw [if_neg c27] at H
           exact absurd H (by simp)
         ·rw [if_neg c26] at H
          exact absurd H (by simp)
        ·rw [if_neg c25] at H
         exact absurd H (by simp)
       ·rw [if_neg c23] at H
        have c23b0 : decide (x29_2 < 2) = false := decide_eq_false c23
        clear c23
        simp only [Option.some.injEq, Prod.mk.injEq] at H
        obtain ⟨rfl, rfl⟩ := H
        go_wp2
        go_ret2
        exact ⟨_, by first | rfl | (simp [errW_none, errW_some] <;> rfl) | (simp [*, errW_none, errW_some] <;> rfl), by (with_reducible repeat (first | apply Kd.N_alloc | apply Kd.N_drewN | apply Kd.N_drew)); exact HO_7.out, by repeat (first | (with_reducible first | exact HB.out | apply below_alloc | apply pw_below_drewN | apply below_drew1) | exact HB.out)⟩
 ·replace c3 := Bool.eq_false_iff.mpr c3
  subst c3
  have H1 : (some (([] : List (List Int)), 1)) = some (r1, r2) := by rw [if_neg (show ¬ (false = true) by decide)] at H; exact H
  clear H
  have H := H1
  clear H1
  simp only [Option.some.injEq, Prod.mk.injEq] at H
  obtain ⟨rfl, rfl⟩ := H
  go_enter Try.func21, Try.ntmps21
  go_wp2_with (first | ((with_reducible refine gate_callee (f := 35) rfl ?_); refine goesL_ (some 10) rfl rfl Try.func35 (by kernel_rfl) rfl #[.slice A0 l0.length c0] rfl (by (try simp only [List.map_toArray, List.map_cons, List.map_nil]); first | done | rfl | (simp only [List.length_drop, List.length_take]; rfl)) ?_; (with_reducible refine (record_may.calls k _ _ l0 false _ ?side1 ?side2 A2.out).mono ?_); (case side1 => repeat (first | exact (Kd.V_reads' HO0.out).2.2 | (with_reducible refine Kd.C_alloc ?_ _) | (with_reducible refine Kd.C_drewN ?_ _) | (with_reducible refine Kd.C_drew ?_))); (case side2 => exact (Kd.V_reads' HO0.out).2.1); rintro e w34 ⟨rfl, hb⟩; refine ⟨_, rfl, ?_⟩; have n0_ := Aside0.mk (Kd.V_below (by (with_reducible repeat (first | apply Kd.V_alloc | apply Kd.V_drewN | apply Kd.V_drew)); exact HO0.out) hb); have n1_ := Aside0.mk (below_step (by repeat (first | (with_reducible first | exact HB.out | apply below_alloc | apply pw_below_drewN | apply below_drew1) | exact HB.out)) hb); clear HO0; clear HB; have HO0 := n0_; have HB := n1_; clear n0_ n1_; (try clear hb); (try clear hb2); (try clear hk); (try clear hi)))
  go_ret2
  exact ⟨_, by first | rfl | (simp [errW_none, errW_some] <;> rfl) | (simp [*, errW_none, errW_some] <;> rfl), by first | exact Kd.S_nil _ _ _ _ _ | exact Kd.N_nil _ _ _ _ _ | exact Kd.V_nil _ _ _ _ _ | exact Kd.Q_nil _ _ _ _ _ | exact Kd.R_nil _ _ _ _ _, by repeat (first | (with_reducible first | exact HB.out | apply below_alloc | apply pw_below_drewN | apply below_drew1) | exact HB.out)⟩

-- NOT PRINTED: function 40 (record_Unsnap_1)

end Go.Proofs.Ytoeegdpkmdgkdaa.PAll
