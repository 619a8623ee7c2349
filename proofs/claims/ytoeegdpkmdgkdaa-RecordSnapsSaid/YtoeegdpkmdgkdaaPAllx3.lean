-- LAID BY A PROGRAM OF THIS SESSION (wip/tools: the kit's print with changes of our own)
import Derived.Test.YtoeegdpkmdgkdaaPAllx0
import Derived.Test.YtoeegdpkmdgkdaaPAllx1
namespace Go.Proofs.Ytoeegdpkmdgkdaa.PAll
open Go.RowKit Go.Proofs.YtoeegdpkmdgkdaaW.PrintWords Go.Proofs.YtoeegdpkmdgkdaaW.PrintLast Go.Proofs.YtoeegdpkmdgkdaaW.PrintMore
attribute [local go_sem] min2_int min_two   -- for this text's walks alone
set_option linter.unusedVariables false
set_option linter.unusedSimpArgs false

/-! ### record_Decode: function 13 -/
section
set_option maxHeartbeats 2000000 in
theorem take_run (g n c : Nat) (A A1 : Option Addr) (j : Int) (w : World) (hg : w.heap[g]? = some (.cells #[.slice A n c] 55 (0, 0))) (h0 : 0 ≤ j) (h1 : j ≤ n) (hc : n ≤ c) (hA : (if c = j.toNat then A else A.map (·.add (j.toNat * 1))) = A1) (n2 c2 n1 : Nat) (hn2 : n - j.toNat = n2) (hc2 : c - j.toNat = c2) (hn1 : j.toNat = n1) :
  Calls Try.prog 43 #[.pointer (some ⟨g, 0, none⟩), .int .i64 j] w fun e w' => e = .returned (.slice A n1 c) ∧ w' = w.setCell ⟨g, 0, none⟩ (.slice A1 n2 c2) := by
 have hcell : w.cell? ⟨g, 0, none⟩ = some (.slice A n c) := by simp [World.cell?, hg]
 have hfr : w.frozen? ⟨g, 0, none⟩ = false := by simp [World.frozen?, hg]
 obtain ⟨i0, hi0, _, hsz, _⟩ := info_parts info5
 have hcut := cut_to (P := Try.prog) 26 5 .i64 Try.underlying26 hi0 A n c j h0 h1 hc
 have hcut2 := cut_from (P := Try.prog) 26 5 .i64 Try.underlying26 hi0 1 hsz A n c j h0 h1
 rw [hA, hn2, hc2] at hcut2
 rw [hn1] at hcut
 have hng : ¬ (n : Int) < j := by omega
 clear hg hA hn2 hc2 hn1
 go_enter Try.func43, Try.ntmps43
 go_wp2
 exact bodyPost_ret (results_tmp rfl _ _ _) rfl ⟨rfl, rfl⟩
theorem take_ok (g : Nat) (l : List Int) (A : Option Addr) (c : Nat) (j : Int) (w0 w : World) {S : World → Prop} (R : RdAt S w0 w g l A c) (h0 : 0 ≤ j) (h1 : j ≤ l.length) :
  Calls Try.prog 43 #[.pointer (some ⟨g, 0, none⟩), .int .i64 j] w fun e w' => e = .returned (.slice A (l.take j.toNat).length c) ∧ (l.take j.toNat).length ≤ c ∧ w.grownBy w' (some g) ∧ (∃ A' c', RdAt S w0 w' g (l.drop j.toNat) A' c') ∧ ∀ W, w0.grownBy W (some g) → (Kd.int .u8).C W A (l.take j.toNat).length (l.take j.toNat) := by
 have hl1 : (l.take j.toNat).length = j.toNat := by rw [List.length_take]; omega
 have hl2 : l.length - j.toNat = (l.drop j.toNat).length := by rw [List.length_drop]
 have hroom := R.room
 refine (take_run g l.length c A _ j w R.cell h0 h1 R.room rfl _ _ _ hl2 rfl hl1.symm).mono ?_
 rintro e w' ⟨rfl, rfl⟩
 have hgr := grown_cell w g 0 (.slice (if c = j.toNat then A else A.map (·.add (j.toNat * 1))) (l.drop j.toNat).length (c - j.toNat))
 refine ⟨rfl, by omega, hgr, ⟨(if c = j.toNat then A else A.map (·.add (j.toNat * 1))), c - j.toNat, R.grown.trans hgr, R.ltg, ?_, by omega, fun W hW => ?_, R.imp⟩, fun W hW => ?_⟩
 ·have := (Array.getElem?_eq_some_iff.1 R.cell).1
  simp [World.setCell, Array.getElem?_modify, R.cell]
 ·exact Kd.C_drop (R.row W hW) (by omega) R.room
 ·exact Kd.C_take (m := j.toNat) (R.row W (R.imp W hW)) (by omega)
theorem take_no (g : Nat) (l : List Int) (A : Option Addr) (c : Nat) (j : Int) (w0 w : World) {S : World → Prop} (R : RdAt S w0 w g l A c) (h1 : l.length < j) :
  Calls Try.prog 43 #[.pointer (some ⟨g, 0, none⟩), .int .i64 j] w fun e w' => e = .panicked failed ∧ w' = w := by
 obtain ⟨n, hn⟩ : ∃ n, l.length = n := ⟨_, rfl⟩
 have hg := R.cell
 rw [hn] at hg h1
 clear R
 have hcell : w.cell? ⟨g, 0, none⟩ = some (.slice A n c) := by simp [World.cell?, hg]
 have hlt : (n : Int) < j := h1
 go_enter Try.func43, Try.ntmps43
 go_wp2
 exact ⟨rfl, rfl, rfl⟩
set_option maxHeartbeats 4000000 in
theorem number_ok (g : Nat) (l : List Int) (A : Option Addr) (c : Nat) (m : Nat) (w0 w : World) {S : World → Prop} (R : RdAt S w0 w g l A c) (h1 : m ≤ l.length) (hm : m ≤ 4) (hb : ∀ x ∈ l.take m, 0 ≤ x ∧ x ≤ 255) :
  Calls Try.prog 41 #[.pointer (some ⟨g, 0, none⟩), .int .i64 m] w fun e w' => e = .returned (.int .i64 (beN (l.take m))) ∧ w.grownBy w' (some g) ∧ (∃ A' c', RdAt S w0 w' g (l.drop m) A' c') := by
 have HR := Aside0.mk R
 have HM := Aside0.mk h1
 have HB := Aside0.mk hb
 have HM4 := Aside0.mk hm
 clear R h1 hb hm
 go_enter Try.func41, Try.ntmps41
 go_wp2_with (go_at_call 43; refine (take_ok g l A c (m : Int) w0 _ HR.out (by omega) (by have := HM.out; omega)).mono ?_; rintro e w1 ⟨rfl, hc1, hg1, hr1, hrow1⟩)
 obtain ⟨ys, hys⟩ : ∃ ys, l.take m = ys := ⟨_, rfl⟩
 have hm0 : (m : Int).toNat = m := by omega
 have hlen : ys.length = m := by rw [← hys, List.length_take]; have := HM.out; omega
 rw [hm0] at hr1 hrow1 hc1
 rw [hys] at hrow1 hc1
 have HBY := Aside0.mk (show ∀ x ∈ ys, 0 ≤ x ∧ x ≤ 255 from by rw [← hys]; exact HB.out)
 have HLY := Aside0.mk hlen
 have HM4 := HM4
 have hmin : min m l.length = ys.length := by rw [← hys, List.length_take]
 rw [hmin]
 have HROW := Aside0.mk (hrow1 w1 (HR.out.grown.trans hg1))
 have HR1 := Aside0.mk hr1
 have HG1 := Aside0.mk hg1
 have HC1 := Aside0.mk hc1
 clear hrow1 hr1 hg1 hlen hmin hc1
 go_loopg [5, 12] m (fun kq v5 v12 w' => ∃ i : Nat, v5 = .int .i64 (beN (ys.take i)) ∧ v12 = .int .i64 i ∧ Aside0 (i + kq = m) ∧ Aside0 (w' = w1))
 case atStart => exact ⟨0, rfl, rfl, ⟨by omega⟩, ⟨rfl⟩⟩
 case round =>
  obtain ⟨i, rfl, rfl, HI, HW⟩ := hrel
  obtain ⟨rfl⟩ := HW
  by_cases hi : i < m
  ·have p : (0 : Int) ≤ (i : Int) := by omega
   have q : (i : Int) < (ys.length : Int) := by have := HLY.out; omega
   obtain ⟨ad, e1, hx⟩ := Kd.at_int HROW.out (i : Int) p q
   cases e1
   simp only [Int.toNat_natCast] at hx
   have hi2 : i < ys.length := by omega

   obtain ⟨N, hN⟩ : ∃ N, beN (ys.take i) = N := ⟨_, rfl⟩
   obtain ⟨X, hX⟩ : ∃ X, rd ys (i : Int) = X := ⟨_, rfl⟩
   rw [hN]
   rw [hX] at hx
   have hbX : 0 ≤ X ∧ X ≤ 255 := by rw [← hX]; exact byte_at HBY.out hi2
   have hbN : 0 ≤ N ∧ N < 4294967296 := by rw [← hN]; exact beN_take_lt HBY.out i (by have := HM4.out; omega)
   have hor := or_byte N X hbN.1 hbN.2 hbX.1 hbX.2
   have hsucc : beN (ys.take (i + 1)) = N * 256 + X := by rw [take_succ_rd hi2, beN_snoc, hN, hX]
   have HS := Aside0.mk hsucc
   have HI2 := Aside0.mk hi2
   clear hsucc hbX hbN hX hN
   go_wp2
   go_roundg (gk - 1)
   case measure => have := HI.out; omega
   case rel => exact ⟨i + 1, by rw [HS.out], by have := HI.out; have := HM4.out; simp [wrap64]; omega, ⟨by have := HI.out; omega⟩, ⟨rfl⟩⟩
  ·have hi2 : ¬ i < ys.length := by have := HLY.out; omega
   have hN : beN (ys.take i) = beN ys := by rw [List.take_of_length_le (by omega)]
   rw [hN]
   obtain ⟨N, hN2⟩ : ∃ N, beN ys = N := ⟨_, rfl⟩
   rw [hN2]
   have HNN := Aside0.mk (show beN (l.take m) = N from by rw [hys, hN2])
   clear hN hN2
   go_wp2
   exact bodyPost_ret (results_tmp rfl _ _ _) rfl ⟨by rw [HNN.out]; rfl, HG1.out, HR1.out⟩
theorem number_no (g : Nat) (l : List Int) (A : Option Addr) (c : Nat) (m : Nat) (w0 w : World) {S : World → Prop} (R : RdAt S w0 w g l A c) (h1 : l.length < m) :
  Calls Try.prog 41 #[.pointer (some ⟨g, 0, none⟩), .int .i64 m] w fun e w' => e = .panicked failed ∧ w' = w := by
 have HR := Aside0.mk R
 have HM := Aside0.mk h1
 clear R h1
 go_enter Try.func41, Try.ntmps41
 go_wp2_with (go_at_call 43; refine (take_no g l A c (m : Int) w0 _ HR.out (by have := HM.out; omega)).mono ?_; rintro e w1 ⟨rfl, rfl⟩)
 exact ⟨rfl, rfl, rfl⟩

theorem info3h : (Try.prog.info? 3).map (fun i => (i.zero, i.size, i.bytes)) = some (some (.int .i64 0), 1, 8) := by kernel_rfl
set_option maxHeartbeats 8000000 in
theorem record_reads (k : Nat) (g : Nat) (kd sz : Int) (t : List Int) (A : Option Addr) (c : Nat) (w0 w : World) {S : World → Prop} (R : RdAt S w0 w g (kd :: sz :: t) A c) (hb : ∀ x ∈ (kd :: sz :: t : List Int), 0 ≤ x ∧ x ≤ 255) (hl : t.length ≤ 1000000)
  (h1 : sz.toNat + 6 ≤ t.length) (key : ByteArray) (hkey : strOfNums (t.take sz.toNat) = key) (u : List Int) (hu : t.drop sz.toNat = u) (len : Int) (hlen : beN (u.take 4) = len) (cnt : Nat) (hcn : beN ((u.drop 4).take 2) = cnt) (body : List Int) (hbody : u.drop 6 = body)
  (h2 : 2 * cnt ≤ body.length) (r : Int) (hch : record_Check.f k kd key len (pairsN cnt body) = some r) :
  Calls Try.prog 32 #[.pointer (some ⟨g, 0, none⟩)] w fun e w' => w.grownBy w' (some g) ∧ ((r = 0 ∧ ∃ v, e = .returned (.agg #[.int .i64 kd, .string key, .int .i64 len, v]) ∧
   Kd.R (Kd.int .i64) 3 w' w.heap.size (fun _ => True) v (pairsN cnt body) ∧ ∃ A' c', RdAt S w0 w' g (body.drop (2 * cnt)) A' c') ∨ (r ≠ 0 ∧ e = .panicked failed)) := by
 have HR := Aside0.mk R
 have HCH := Aside0.mk hch
 have HB := Aside0.mk hb
 clear R hch
 have hsz := hb sz (by simp)
 go_enter Try.func32, Try.ntmps32
 go_wp2_with fail
 have hb1 := below_alloc (Below.refl w.heap.size w) zero25
 refine (number_ok g _ A c 1 w0 _ (HR.out.below hb1) (by simp) (by omega) (fun x hx => HB.out x (List.mem_of_mem_take hx))).mono ?_
 rintro e W2 ⟨rfl, hg2, hr2⟩
 have e1 : beN (List.take 1 (kd :: sz :: t)) = kd := by simp [beN]
 rw [e1]
 simp only [List.drop_succ_cons, List.drop_zero] at hr2
 have hz2 : W2.heap[w.heap.size]? = some zero25 := by
  have h5 := HR.out.ltg
  have h6 := HR.out.grown.size
  rw [hg2.block w.heap.size (by simp) (by simp; omega)]
  exact heap_alloc_new _ _
 have T3 := fun kd => Rec.made (b2 := w.heap.size) HR.out.grown.size ((grown_below hb1 _).trans hg2) hz2 (Nat.le_refl _) hr2 kd
 obtain ⟨b2, hb2⟩ : ∃ b2, w.heap.size = b2 := ⟨_, rfl⟩
 rw [hb2] at T3 ⊢
 have HT3 := Aside0.mk (T3 kd)
 have HB2 := Aside0.mk hb2
 clear T3 hz2 hr2 hg2 hb1 hb2 e1
 go_wp2_with fail
 obtain ⟨b3, hb3⟩ : ∃ b3, W2.heap.size = b3 := ⟨_, rfl⟩
 obtain ⟨W3, hW3⟩ : ∃ W3, (W2.alloc (.cells #[.int .i64 kd, .string ⟨#[]⟩, .int .i64 0, .slice none 0 0] 25)) = W3 := ⟨_, rfl⟩
 have hT3 := HT3.out
 rw [hW3, hb3] at hT3
 rw [hW3, hb3]
 clear HT3 hW3 hb3
 obtain ⟨A3, c3, hr3⟩ := hT3.rd
 refine (number_ok g _ A3 c3 1 w0 _ hr3 (by simp) (by omega) (fun x hx => HB.out x (List.mem_cons_of_mem _ (List.mem_of_mem_take hx)))).mono ?_
 rintro e W4 ⟨rfl, hg4, hr4⟩
 have e1 : beN (List.take 1 (sz :: t)) = sz := by simp [beN]
 rw [e1]
 simp only [List.drop_succ_cons, List.drop_zero] at hr4
 have T4 := hT3.read hg4 hr4
 clear hT3 hr3 hg4 hr4 e1
 have HT4 := Aside0.mk T4
 clear T4
 go_wp2_with fail
 obtain ⟨A4, c4, hr4⟩ := HT4.out.rd
 refine (take_ok g _ A4 c4 sz w0 _ hr4 (by omega) (by omega)).mono ?_
 rintro e W5 ⟨rfl, hc5, hg5, hr5, hrow5⟩
 have T5 := HT4.out.read hg5 hr5
 clear HT4
 have hcv := Kd.C_string (P := Try.prog) (src := 26) (dst := 9) (e := 5) (c := c4) Try.underlying26 (by kernel_rfl) Try.underlying9 (hrow5 W5 (hr4.grown.trans hg5))
 clear hrow5 hr5 hr4 hg5 hc5
 have hcl := T5.cells.2.1
 have hfr := T5.free 1
 have HT5 := Aside0.mk T5
 clear T5
 have HCV := Aside0.mk hcv
 obtain ⟨n5, hn5⟩ : ∃ n5, (List.take sz.toNat t).length = n5 := ⟨_, rfl⟩
 rw [hn5] at hcv ⊢
 go_wp2_with fail
 have T5s := HT5.out.store 1 (.string (strOfNums (t.take sz.toNat))) (strOfNums (t.take sz.toNat)) 0 (.slice none 0 0) rfl [] (Kd.R_nil _ _ _ _ _)
 have hul : u.length + sz.toNat = t.length := by rw [← hu, List.length_drop]; omega
 have HBU := Aside0.mk (show ∀ x ∈ u, 0 ≤ x ∧ x ≤ 255 from fun x hx => HB.out x (by rw [← hu] at hx; exact List.mem_cons_of_mem _ (List.mem_cons_of_mem _ (List.mem_of_mem_drop hx))))
 have hch := HCH.out
 clear HCH HT5 hcv HCV hcl hfr
 rw [hkey] at T5s
 rw [hu] at T5s
 obtain ⟨W6, hW6⟩ : ∃ W6, W5.setCell ⟨b3, 1, none⟩ (.string key) = W6 := ⟨_, rfl⟩
 rw [hW6] at T5s ⊢
 obtain ⟨A6, c6, hr6⟩ := T5s.rd
 clear hW6
 refine (number_ok g u A6 c6 4 w0 _ hr6 (by omega) (by omega) (fun x hx => HBU.out x (List.mem_of_mem_take hx))).mono ?_
 rintro e W7 ⟨rfl, hg7, hr7⟩
 have T7 := T5s.read hg7 hr7
 clear T5s hr6 hg7 hr7
 try rw [hlen]
 have HCH := Aside0.mk hch
 have hcl := T7.cells.2.2.1
 have hfr := T7.free 2
 have HT7 := Aside0.mk T7
 clear T7 hch
 go_wp2_with fail
 have T8 := HT7.out.store 2 (.int .i64 len) key len (.slice none 0 0) rfl [] (Kd.R_nil _ _ _ _ _)
 obtain ⟨W8, hW8⟩ : ∃ W8, W7.setCell ⟨b3, 2, none⟩ (.int .i64 len) = W8 := ⟨_, rfl⟩
 rw [hW8] at T8 ⊢
 obtain ⟨A8, c8, hr8⟩ := T8.rd
 clear hW8 HT7 hcl hfr
 refine (number_ok g _ A8 c8 2 w0 _ hr8 (by rw [List.length_drop]; omega) (by omega) (fun x hx => HBU.out x (List.mem_of_mem_drop (List.mem_of_mem_take hx)))).mono ?_
 rintro e W9 ⟨rfl, hg9, hr9⟩
 have T9 := T8.read hg9 hr9
 clear T8 hr8 hg9 hr9
 have hdd : (u.drop 4).drop 2 = u.drop 6 := by rw [List.drop_drop]
 rw [hdd] at T9
 have HBB := Aside0.mk (show ∀ x ∈ body, 0 ≤ x ∧ x ≤ 255 from fun x hx => HBU.out x (by rw [← hbody] at hx; exact List.mem_of_mem_drop hx))
 have hch := HCH.out
 clear HCH
 rw [hbody] at T9
 try rw [hcn]
 have HCH := Aside0.mk hch
 have HT9 := Aside0.mk T9
 have H2 := Aside0.mk h2
 have HBL := Aside0.mk (show body.length ≤ 1000000 from by rw [← hbody, List.length_drop]; omega)
 clear hch T9 h2 hdd hcn hlen hkey hu hul hbody h1 hsz hn5
 go_wp2_with fail
 go_loopg [20] cnt (fun kq v20 w' => ∃ (i : Nat) (v : Value), v20 = .int .i64 i ∧ Aside0 (i + kq = cnt) ∧ Aside0 (Rec S w0 w w' g b2 b3 kd key len v (pairsN i body) (body.drop (2 * i))))
 case atStart => exact ⟨0, _, rfl, ⟨by omega⟩, ⟨by simpa [pairsN] using HT9.out⟩⟩
 case round =>
  obtain ⟨i, v, rfl, HI, HT⟩ := hrel
  by_cases hi : i < cnt
  ·have hx := HT.out.cells.2.2.2
   have hfz := HT.out.free 3
   have hi2 : (i : Int) < (cnt : Int) := by omega
   have HI2 := Aside0.mk hi
   clear hi
   go_wp2_with fail
   have TD := HT.out.below (below_drew1 (Below.refl _ _))
   clear HT
   have HT := Aside0.mk TD
   clear TD
   obtain ⟨A1, c1, hr1⟩ := HT.out.rd
   have hlb : 2 ≤ (body.drop (2 * i)).length := by rw [List.length_drop]; have := H2.out; have := HI2.out; omega
   have HLB := Aside0.mk hlb
   have HR1 := Aside0.mk hr1
   obtain ⟨X, hX⟩ : ∃ X, beN ((body.drop (2 * i)).take 2) = X := ⟨_, rfl⟩
   have HX := Aside0.mk hX
   clear hlb hr1 hX
   have HXX := Aside0.mk hx
   go_region_law (first
    | (go_simp; go_at_call 41; refine (number_ok g _ A1 c1 2 w0 _ HR1.out HLB.out (by omega) (fun x hx => HBB.out x (List.mem_of_mem_drop (List.mem_of_mem_take hx)))).mono ?_; rintro e W10 ⟨rfl, hg10, hr10⟩; rw [HX.out]; have T10 := HT.out.read hg10 hr10; clear hg10 hr10 hx; have HT10 := Aside0.mk T10; have hx10 := T10.cells.2.2.2; have hx11 : ∀ o, (W10.alloc o).cell? ⟨b3, 3, none⟩ = some v := fun o => (T10.below (below_alloc (Below.refl _ _) o)).cells.2.2.2; clear T10)
    | (refine Kd.R_append_step (Kd.int .i64) (w0 := W10) w.heap.size (by rfl) (.tmp 23) (.tmp 26) 23 3 (.int .i64 0) 8 rfl Try.underlying23 info3h rfl (by decide) (by omega) v (pairsN i body) X [.int .i64 X] (fun _ => True) (fun _ => False) rfl rfl rfl (fun _ h => h.elim) (fun _ _ => trivial) ?aO (Below.refl _ _) ?aS ?aL ?_; (case aO => exact HT10.out.own); (case aS => exact HT10.out.grown.size); (case aL => rw [pairsN_length]; have := H2.out; have := HBL.out; have := HI2.out; omega); intro v12 W12 ho12 hb12 hg12 hat12; obtain ⟨A12, c12, rfl⟩ := Kd.R_slice ho12; have T12 := HT10.out.over hg12 _ _ ho12; have hc12 : W12.cell? ⟨b3, 3, none⟩ = some v := (World.cell?_of_block (a := ⟨b3, 3, none⟩) T12.1).trans HT10.out.cells.2.2.2; have hf12 : W12.frozen? ⟨b3, 3, none⟩ = false := (World.frozen?_of_block (a := ⟨b3, 3, none⟩) T12.1).trans (HT10.out.free 3); have HT12 := Aside0.mk T12.2; clear T12 ho12 hb12 hg12 hat12))
   all_goals
    go_wp2_with fail
    go_roundg (gk - 1)
    case measure => have := HI.out; omega
    case rel =>
     have hi1 := HI.out
     have hi3 := HI2.out
     have h9 := HT12.out
     have e12 : (pairsN i body ++ [X]).length = (pairsN i body).length + 1 := by simp
     rw [e12, ← HX.out, ← pairsN_succ, List.drop_drop, show 2 * i + 2 = 2 * (i + 1) from by omega] at h9
     exact ⟨i + 1, .slice A12 ((pairsN i body).length + 1) c12, by have := HBL.out; have := H2.out; simp [wrap64]; omega, ⟨by omega⟩, ⟨h9⟩⟩
  ·have hi9 : i = cnt := by have := HI.out; omega
   subst hi9
   have hx := HT.out.cells
   obtain ⟨A9, c9, rfl⟩ := Kd.R_slice HT.out.own
   have hrd := Kd.R_reads' HT.out.own
   have HRD := Aside0.mk hrd
   clear hrd
   obtain ⟨hx0, hx1, hx2, hx3⟩ := hx
   have HN := Aside0.mk HI.out
   clear HI
   obtain ⟨n9, hn9⟩ : ∃ n9, (pairsN i body).length = n9 := ⟨_, rfl⟩
   have HN9 := Aside0.mk hn9
   rw [hn9] at hx3
   clear hi hn9
   go_wp2_with fail
   have hchk := record_Check.calls k kd key len A9 c9 (pairsN i body) r wr HRD.out.2.2 HRD.out.2.1 HCH.out
   rw [HN9.out] at hchk
   refine hchk.mono ?_
   rintro e W13 ⟨rfl, hb13⟩
   have T13 := HT.out.below hb13
   have hx := T13.cells
   obtain ⟨hx0, hx1, hx2, hx3⟩ := hx
   rw [HN9.out] at hx3
   have hy0 : W13.cell? ⟨b2, 0, none⟩ = some (.int .i64 0) := by simp [World.cell?, T13.res, zero25]
   have hy1 : W13.cell? ⟨b2, 1, none⟩ = some (.string ⟨#[]⟩) := by simp [World.cell?, T13.res, zero25]
   have hy2 : W13.cell? ⟨b2, 2, none⟩ = some (.int .i64 0) := by simp [World.cell?, T13.res, zero25]
   have hy3 : W13.cell? ⟨b2, 3, none⟩ = some (.slice none 0 0) := by simp [World.cell?, T13.res, zero25]
   have hz : ∀ j, W13.frozen? ⟨b2, j, none⟩ = false := by intro j; simp [World.frozen?, T13.res, zero25]
   have hz0 := hz 0
   have hz1 := hz 1
   have hz2 := hz 2
   have hz3 := hz 3
   have HT13 := Aside0.mk T13
   clear T13 HT hz hchk hb13
   by_cases hr0 : r = 0
   ·subst hr0
    go_wp2_with fail
    have F := HT13.out.fin (((grown_cell W13 b2 0 (.int .i64 kd)).trans (grown_cell _ b2 1 (.string key))).trans ((grown_cell _ b2 2 (.int .i64 len)).trans (grown_cell _ b2 3 (.slice A9 n9 c9))))
    have h4 := four_cells W13 b2 (.int .i64 kd) (.string key) (.int .i64 len) (.slice A9 n9 c9) _ _ _ _ HT13.out.res
    obtain ⟨W14, hW14⟩ : ∃ W14, ((((W13.setCell ⟨b2, 0, none⟩ (.int .i64 kd)).setCell ⟨b2, 1, none⟩ (.string key)).setCell ⟨b2, 2, none⟩ (.int .i64 len)).setCell ⟨b2, 3, none⟩ (.slice A9 n9 c9)) = W14 := ⟨_, rfl⟩
    rw [hW14] at F h4 ⊢
    have q0 : W14.cell? ⟨b2, 0, none⟩ = some (.int .i64 kd) := by simp [World.cell?, h4]
    have q1 : W14.cell? ⟨b2, 1, none⟩ = some (.string key) := by simp [World.cell?, h4]
    have q2 : W14.cell? ⟨b2, 2, none⟩ = some (.int .i64 len) := by simp [World.cell?, h4]
    have q3 : W14.cell? ⟨b2, 3, none⟩ = some (.slice A9 n9 c9) := by simp [World.cell?, h4]
    refine bodyPost_ret (v := .agg #[.int .i64 kd, .string key, .int .i64 len, .slice A9 n9 c9]) ?_ rfl ⟨F.1, .slice A9 n9 c9, rfl, by have := F.2.1; rw [HN9.out] at this; exact this, F.2.2⟩
    simp [results, Try.results32, go_sem, q0, q1, q2, q3]
   ·have HR0 := Aside0.mk hr0
    go_wp2_with fail
    exact ⟨rfl, HT13.out.grown, .inr ⟨HR0.out, rfl⟩⟩

set_option maxHeartbeats 8000000 in
theorem record_fails (g : Nat) (l : List Int) (A : Option Addr) (c : Nat) (w0 w : World) {S : World → Prop} (R : RdAt S w0 w g l A c) (hb : ∀ x ∈ l, 0 ≤ x ∧ x ≤ 255) (hl : l.length ≤ 1000000) (hf : fits l = false) :
  Calls Try.prog 32 #[.pointer (some ⟨g, 0, none⟩)] w fun e w' => w.grownBy w' (some g) ∧ e = .panicked failed := by
 have HR := Aside0.mk R
 clear R
 go_enter Try.func32, Try.ntmps32
 go_wp2_with fail
 have hb1 := below_alloc (Below.refl w.heap.size w) zero25
 rcases l with _ | ⟨kd, l1⟩
 ·refine (number_no g _ A c 1 w0 _ (HR.out.below hb1) (by simp)).mono ?_
  rintro e w1 ⟨rfl, rfl⟩
  exact ⟨rfl, grown_below hb1 _, rfl⟩
 refine (number_ok g _ A c 1 w0 _ (HR.out.below hb1) (by simp) (by omega) (fun x hx => hb x (List.mem_of_mem_take hx))).mono ?_
 rintro e W2 ⟨rfl, hg2, hr2⟩
 have e1 : beN (List.take 1 (kd :: l1)) = kd := by simp [beN]
 rw [e1]
 simp only [List.drop_succ_cons, List.drop_zero] at hr2
 have hz2 : W2.heap[w.heap.size]? = some zero25 := by
  have h5 := HR.out.ltg
  have h6 := HR.out.grown.size
  rw [hg2.block w.heap.size (by simp) (by simp; omega)]
  exact heap_alloc_new _ _
 have T3 := fun kd => Rec.made (b2 := w.heap.size) HR.out.grown.size ((grown_below hb1 _).trans hg2) hz2 (Nat.le_refl _) hr2 kd
 obtain ⟨b2, hb2⟩ : ∃ b2, w.heap.size = b2 := ⟨_, rfl⟩
 rw [hb2] at T3 ⊢
 have HT3 := Aside0.mk (T3 kd)
 have HB2 := Aside0.mk hb2
 clear T3 hz2 hr2 hg2 hb1 hb2 e1
 go_wp2_with fail
 obtain ⟨b3, hb3⟩ : ∃ b3, W2.heap.size = b3 := ⟨_, rfl⟩
 obtain ⟨W3, hW3⟩ : ∃ W3, (W2.alloc (.cells #[.int .i64 kd, .string ⟨#[]⟩, .int .i64 0, .slice none 0 0] 25)) = W3 := ⟨_, rfl⟩
 have hT3 := HT3.out
 rw [hW3, hb3] at hT3
 rw [hW3, hb3]
 clear HT3 hW3 hb3
 obtain ⟨A3, c3, hr3⟩ := hT3.rd
 rcases l1 with _ | ⟨sz, t⟩
 ·refine (number_no g _ A3 c3 1 w0 _ hr3 (by simp)).mono ?_
  rintro e w1 ⟨rfl, rfl⟩
  exact ⟨rfl, hT3.grown, rfl⟩
 have HB := Aside0.mk hb
 have hsz := hb sz (by simp)
 have HF := Aside0.mk hf
 have HL := Aside0.mk hl
 clear hb hf hl
 refine (number_ok g _ A3 c3 1 w0 _ hr3 (by simp) (by omega) (fun x hx => HB.out x (List.mem_cons_of_mem _ (List.mem_of_mem_take hx)))).mono ?_
 rintro e W4 ⟨rfl, hg4, hr4⟩
 have e1 : beN (List.take 1 (sz :: t)) = sz := by simp [beN]
 rw [e1]
 simp only [List.drop_succ_cons, List.drop_zero] at hr4
 have T4 := hT3.read hg4 hr4
 clear hT3 hr3 hg4 hr4 e1
 have HT4 := Aside0.mk T4
 clear T4
 go_wp2_with fail
 obtain ⟨A4, c4, hr4⟩ := HT4.out.rd
 by_cases h1 : sz.toNat ≤ t.length
 case neg =>
  refine (take_no g _ A4 c4 sz w0 _ hr4 (by omega)).mono ?_
  rintro e w1 ⟨rfl, rfl⟩
  exact ⟨rfl, HT4.out.grown, rfl⟩
 refine (take_ok g _ A4 c4 sz w0 _ hr4 (by omega) (by omega)).mono ?_
 rintro e W5 ⟨rfl, hc5, hg5, hr5, hrow5⟩
 have T5 := HT4.out.read hg5 hr5
 clear HT4
 have hcv := Kd.C_string (P := Try.prog) (src := 26) (dst := 9) (e := 5) (c := c4) Try.underlying26 (by kernel_rfl) Try.underlying9 (hrow5 W5 (hr4.grown.trans hg5))
 clear hrow5 hr5 hr4 hg5 hc5
 have hcl := T5.cells.2.1
 have hfr := T5.free 1
 have HT5 := Aside0.mk T5
 clear T5
 have HCV := Aside0.mk hcv
 obtain ⟨n5, hn5⟩ : ∃ n5, (List.take sz.toNat t).length = n5 := ⟨_, rfl⟩
 rw [hn5] at hcv ⊢
 go_wp2_with fail
 obtain ⟨key, hkey⟩ : ∃ key, strOfNums (t.take sz.toNat) = key := ⟨_, rfl⟩
 obtain ⟨u, hu⟩ : ∃ u, t.drop sz.toNat = u := ⟨_, rfl⟩
 have T5s := HT5.out.store 1 (.string (strOfNums (t.take sz.toNat))) (strOfNums (t.take sz.toNat)) 0 (.slice none 0 0) rfl [] (Kd.R_nil _ _ _ _ _)
 have hul : u.length + sz.toNat = t.length := by rw [← hu, List.length_drop]; omega
 have HBU := Aside0.mk (show ∀ x ∈ u, 0 ≤ x ∧ x ≤ 255 from fun x hx => HB.out x (by rw [← hu] at hx; exact List.mem_cons_of_mem _ (List.mem_cons_of_mem _ (List.mem_of_mem_drop hx))))
 clear HT5 hcv HCV hcl hfr
 rw [hkey] at T5s
 rw [hu] at T5s
 obtain ⟨W6, hW6⟩ : ∃ W6, W5.setCell ⟨b3, 1, none⟩ (.string key) = W6 := ⟨_, rfl⟩
 rw [hkey]
 rw [hW6] at T5s ⊢
 obtain ⟨A6, c6, hr6⟩ := T5s.rd
 clear hW6
 by_cases hu4 : 4 ≤ u.length
 case neg =>
  refine (number_no g u A6 c6 4 w0 _ hr6 (by omega)).mono ?_
  rintro e w1 ⟨rfl, rfl⟩
  exact ⟨rfl, T5s.grown, rfl⟩
 refine (number_ok g u A6 c6 4 w0 _ hr6 (by omega) (by omega) (fun x hx => HBU.out x (List.mem_of_mem_take hx))).mono ?_
 rintro e W7 ⟨rfl, hg7, hr7⟩
 have T7 := T5s.read hg7 hr7
 clear T5s hr6 hg7 hr7
 obtain ⟨len, hlen⟩ : ∃ len, beN (u.take 4) = len := ⟨_, rfl⟩
 rw [hlen]
 have hcl := T7.cells.2.2.1
 have hfr := T7.free 2
 have HT7 := Aside0.mk T7
 clear T7
 go_wp2_with fail
 have T8 := HT7.out.store 2 (.int .i64 len) key len (.slice none 0 0) rfl [] (Kd.R_nil _ _ _ _ _)
 obtain ⟨W8, hW8⟩ : ∃ W8, W7.setCell ⟨b3, 2, none⟩ (.int .i64 len) = W8 := ⟨_, rfl⟩
 rw [hW8] at T8 ⊢
 obtain ⟨A8, c8, hr8⟩ := T8.rd
 clear hW8 HT7 hcl hfr
 by_cases hu6 : 2 ≤ (u.drop 4).length
 case neg =>
  refine (number_no g _ A8 c8 2 w0 _ hr8 (by omega)).mono ?_
  rintro e w1 ⟨rfl, rfl⟩
  exact ⟨rfl, T8.grown, rfl⟩
 refine (number_ok g _ A8 c8 2 w0 _ hr8 hu6 (by omega) (fun x hx => HBU.out x (List.mem_of_mem_drop (List.mem_of_mem_take hx)))).mono ?_
 rintro e W9 ⟨rfl, hg9, hr9⟩
 have T9 := T8.read hg9 hr9
 clear T8 hr8 hg9 hr9
 have hdd : (u.drop 4).drop 2 = u.drop 6 := by rw [List.drop_drop]
 rw [hdd] at T9
 obtain ⟨body, hbody⟩ : ∃ body, u.drop 6 = body := ⟨_, rfl⟩
 have HBB := Aside0.mk (show ∀ x ∈ body, 0 ≤ x ∧ x ≤ 255 from fun x hx => HBU.out x (by rw [← hbody] at hx; exact List.mem_of_mem_drop hx))
 have hcnt := beN_lt ((u.drop 4).take 2) (fun x hx => HBU.out x (List.mem_of_mem_drop (List.mem_of_mem_take hx)))
 obtain ⟨cnt, hcn⟩ : ∃ cnt : Nat, beN ((u.drop 4).take 2) = cnt := ⟨_, (Int.toNat_of_nonneg hcnt.1).symm⟩
 have hcb : cnt < 65536 := by
  have h5 := hcnt.2
  have h6 : ((u.drop 4).take 2).length = 2 := by rw [List.length_take]; exact Nat.min_eq_left hu6
  rw [h6, hcn] at h5
  omega
 have H2 := Aside0.mk (show body.length < 2 * cnt from by
  have hf := HF.out
  simp only [fits, hu, hcn, hbody, Bool.and_eq_false_iff, decide_eq_false_iff_not] at hf
  rw [List.length_drop] at hu6
  rcases hf with hf | hf <;> omega)
 have HCB := Aside0.mk hcb
 rw [hbody] at T9
 rw [hcn]
 have HT9 := Aside0.mk T9
 clear T9 hdd hcn hlen hkey hu hul hbody h1 hsz hn5 hcnt hcb hu4 hu6
 go_wp2_with fail
 go_loopg [20] cnt (fun kq v20 w' => ∃ (i : Nat) (v : Value), v20 = .int .i64 i ∧ Aside0 (i + kq = cnt) ∧ Aside0 (2 * i ≤ body.length) ∧ Aside0 (Rec S w0 w w' g b2 b3 kd key len v (pairsN i body) (body.drop (2 * i))))
 case atStart => exact ⟨0, _, rfl, ⟨by omega⟩, ⟨by omega⟩, ⟨by simpa [pairsN] using HT9.out⟩⟩
 case round =>
  obtain ⟨i, v, rfl, HI, HLI, HT⟩ := hrel
  by_cases hi : i < cnt
  ·have hx := HT.out.cells.2.2.2
   have hfz := HT.out.free 3
   have hi2 : (i : Int) < (cnt : Int) := by omega
   have HI2 := Aside0.mk hi
   clear hi
   go_wp2_with fail
   have TD := HT.out.below (below_drew1 (Below.refl _ _))
   clear HT
   have HT := Aside0.mk TD
   clear TD
   obtain ⟨A1, c1, hr1⟩ := HT.out.rd
   by_cases hlb : 2 ≤ (body.drop (2 * i)).length
   case neg =>
    have hno := hlb
    clear hlb
    go_region_dies
    all_goals
     refine (number_no g _ A1 c1 2 w0 _ hr1 (by omega)).mono ?_
     rintro e w1 ⟨rfl, rfl⟩
     exact ⟨rfl, HT.out.grown, rfl⟩
   have HLB := Aside0.mk hlb
   have HR1 := Aside0.mk hr1
   obtain ⟨X, hX⟩ : ∃ X, beN ((body.drop (2 * i)).take 2) = X := ⟨_, rfl⟩
   have HX := Aside0.mk hX
   clear hlb hr1 hX
   have HXX := Aside0.mk hx
   go_region_law (first
    | (go_simp; go_at_call 41; refine (number_ok g _ A1 c1 2 w0 _ HR1.out HLB.out (by omega) (fun x hx => HBB.out x (List.mem_of_mem_drop (List.mem_of_mem_take hx)))).mono ?_; rintro e W10 ⟨rfl, hg10, hr10⟩; rw [HX.out]; have T10 := HT.out.read hg10 hr10; clear hg10 hr10 hx; have HT10 := Aside0.mk T10; have hx10 := T10.cells.2.2.2; have hx11 : ∀ o, (W10.alloc o).cell? ⟨b3, 3, none⟩ = some v := fun o => (T10.below (below_alloc (Below.refl _ _) o)).cells.2.2.2; clear T10)
    | (refine Kd.R_append_step (Kd.int .i64) (w0 := W10) w.heap.size (by rfl) (.tmp 23) (.tmp 26) 23 3 (.int .i64 0) 8 rfl Try.underlying23 info3h rfl (by decide) (by omega) v (pairsN i body) X [.int .i64 X] (fun _ => True) (fun _ => False) rfl rfl rfl (fun _ h => h.elim) (fun _ _ => trivial) ?aO (Below.refl _ _) ?aS ?aL ?_; (case aO => exact HT10.out.own); (case aS => exact HT10.out.grown.size); (case aL => rw [pairsN_length]; have := HCB.out; have := HI2.out; omega); intro v12 W12 ho12 hb12 hg12 hat12; obtain ⟨A12, c12, rfl⟩ := Kd.R_slice ho12; have T12 := HT10.out.over hg12 _ _ ho12; have hc12 : W12.cell? ⟨b3, 3, none⟩ = some v := (World.cell?_of_block (a := ⟨b3, 3, none⟩) T12.1).trans HT10.out.cells.2.2.2; have hf12 : W12.frozen? ⟨b3, 3, none⟩ = false := (World.frozen?_of_block (a := ⟨b3, 3, none⟩) T12.1).trans (HT10.out.free 3); have HT12 := Aside0.mk T12.2; clear T12 ho12 hb12 hg12 hat12))
   all_goals
    go_wp2_with fail
    go_roundg (gk - 1)
    case measure => have := HI.out; omega
    case rel =>
     have hi1 := HI.out
     have hi3 := HI2.out
     have h9 := HT12.out
     have e12 : (pairsN i body ++ [X]).length = (pairsN i body).length + 1 := by simp
     rw [e12, ← HX.out, ← pairsN_succ, List.drop_drop, show 2 * i + 2 = 2 * (i + 1) from by omega] at h9
     exact ⟨i + 1, .slice A12 ((pairsN i body).length + 1) c12, by have := HCB.out; simp [wrap64]; omega, ⟨by omega⟩, ⟨by have h8 := HLB.out; rw [List.length_drop] at h8; have := HLI.out; omega⟩, ⟨h9⟩⟩
  ·have h5 := HI.out
   have h6 := HLI.out
   have h7 := H2.out
   omega

set_option maxHeartbeats 2000000 in
theorem caught_nil (w : World) : Calls Try.prog 31 #[.nilIface] w fun e w' => e = .returned (.int .i64 0) ∧ w' = w := by
 go_enter Try.func31, Try.ntmps31
 go_wp2
 exact bodyPost_ret (results_tmp rfl _ _ _) rfl ⟨rfl, rfl⟩
theorem assert_hit (w : World) : (Instr.typeAssert (.iface 28 (.int .i64 160)) 20 28 true).run Try.prog w = .ok (.tuple #[.int .i64 160, .bool true]) w := by kernel_rfl
set_option maxHeartbeats 2000000 in
theorem caught_err (w : World) : Calls Try.prog 31 #[.iface 28 (.int .i64 160)] w fun e w' => e = .returned (.int .i64 160) ∧ w' = w := by
 have hta := assert_hit
 go_enter Try.func31, Try.ntmps31
 go_wp2
 exact bodyPost_ret (results_tmp rfl _ _ _) rfl ⟨rfl, rfl⟩
set_option maxHeartbeats 2000000 in
theorem decode_catch (pe po : Nat) (x : Int) (x0 y0 z0 u0 : Value) (older : List PanicEntry) (w : World) (he : w.heap[pe]? = some (.cells #[.int .i64 x] 28 (0, 0))) (ho : w.heap[po]? = some (.cells #[x0, y0, z0, u0] 25 (0, 0))) (hne : pe ≠ po) :
  CallsD Try.prog 30 #[.pointer (some ⟨pe, 0, none⟩), .pointer (some ⟨po, 0, none⟩)] (.panicking ({ v := .iface 28 (.int .i64 160), recovered := false } :: older)) w fun e u' w' =>
   e = .returned (.tuple #[]) ∧ u' = .panicking ({ v := .iface 28 (.int .i64 160), recovered := true } :: older) ∧ w'.heap[pe]? = some (.cells #[.int .i64 160] 28 (0, 0)) ∧ w'.heap[po]? = some zero25 ∧ ∀ B, B ≤ pe → B ≤ po → Below B w w' := by
 have c0 : w.cell? ⟨pe, 0, none⟩ = some (.int .i64 x) := by simp [World.cell?, he]
 have z0' : w.frozen? ⟨pe, 0, none⟩ = false := by simp [World.frozen?, he]
 obtain ⟨w1, hw1⟩ : ∃ w1, w.setCell ⟨pe, 0, none⟩ (.int .i64 160) = w1 := ⟨_, rfl⟩
 have he1 : w1.heap[pe]? = some (.cells #[.int .i64 160] 28 (0, 0)) := by rw [← hw1]; simp [World.setCell, Array.getElem?_modify, he]
 have ho1 : w1.heap[po]? = some (.cells #[x0, y0, z0, u0] 25 (0, 0)) := by
  rw [← hw1, (grown_cell w pe 0 _).block po (Array.getElem?_eq_some_iff.1 ho).1 (by simp; omega)]
  exact ho
 have c1 : w1.cell? ⟨pe, 0, none⟩ = some (.int .i64 160) := by simp [World.cell?, he1]
 have d0 : w1.cell? ⟨po, 0, none⟩ = some x0 := by simp [World.cell?, ho1]
 have d1 : w1.cell? ⟨po, 1, none⟩ = some y0 := by simp [World.cell?, ho1]
 have d2 : w1.cell? ⟨po, 2, none⟩ = some z0 := by simp [World.cell?, ho1]
 have d3 : w1.cell? ⟨po, 3, none⟩ = some u0 := by simp [World.cell?, ho1]
 have f0 : ∀ j, w1.frozen? ⟨po, j, none⟩ = false := by intro j; simp [World.frozen?, ho1]
 have hbl : ∀ B, B ≤ pe → Below B w w1 := fun B hB => by rw [← hw1]; exact below_cell w pe 0 _ hB
 refine callsD_of_wpS Try.func30 rfl fun c₀ cs hu => ?_
 apply wpS_seq
 apply wpS_region
 simp [wpOpsS, go_sem, recoverD, hu, Try.ntmps30, Exit.thenS]
 refine (caught_err w).mono ?_
 rintro e w' ⟨rfl, rfl⟩
 simp [go_sem, c0, z0', hw1]
 apply wpS_seq
 apply wpS_region
 simp [wpOpsS, go_sem, c1, Exit.thenS]
 refine wpS_cond (t := true) (by simp [Act.eval, Array.replicate]) ?_
 simp only [if_true]
 apply wpS_region
 simp [wpOpsS, go_sem, d0, d1, d2, d3, f0, bodyPostS, results, Try.results30]
 have hgr := (((grown_cell w1 po 0 (.int .i64 0)).trans (grown_cell _ po 1 (.string ⟨#[]⟩))).trans ((grown_cell _ po 2 (.int .i64 0)).trans (grown_cell _ po 3 (.slice none 0 0))))
 refine ⟨?_, four_cells w1 po _ _ _ _ _ _ _ _ ho1, fun B h1 h2 => ?_⟩
 ·rw [hgr.block pe (Array.getElem?_eq_some_iff.1 he1).1 (by simp; omega)]
  exact he1
 ·have hb := hbl B h1
  refine hb.trans ⟨hgr.os, hgr.tape, hgr.output, hgr.size, fun k hk => ?_⟩
  rcases Nat.lt_or_ge k w1.heap.size with hlt | hge
  ·exact hgr.block k hlt (by simp; omega)
  ·rw [Array.getElem?_eq_none hge, Array.getElem?_eq_none (by simp [World.setCell]; exact hge)]
set_option maxHeartbeats 2000000 in
theorem decode_idle (pe po : Nat) (x : Int) (w : World) (he : w.heap[pe]? = some (.cells #[.int .i64 x] 28 (0, 0))) :
  CallsD Try.prog 30 #[.pointer (some ⟨pe, 0, none⟩), .pointer (some ⟨po, 0, none⟩)] .returning w fun e u' w' =>
   e = .returned (.tuple #[]) ∧ u' = .returning ∧ w' = w.setCell ⟨pe, 0, none⟩ (.int .i64 0) := by
 have c0 : w.cell? ⟨pe, 0, none⟩ = some (.int .i64 x) := by simp [World.cell?, he]
 have z0' : w.frozen? ⟨pe, 0, none⟩ = false := by simp [World.frozen?, he]
 obtain ⟨w1, hw1⟩ : ∃ w1, w.setCell ⟨pe, 0, none⟩ (.int .i64 0) = w1 := ⟨_, rfl⟩
 have he1 : w1.heap[pe]? = some (.cells #[.int .i64 0] 28 (0, 0)) := by rw [← hw1]; simp [World.setCell, Array.getElem?_modify, he]
 have c1 : w1.cell? ⟨pe, 0, none⟩ = some (.int .i64 0) := by simp [World.cell?, he1]
 refine callsD_of_wpS Try.func30 rfl fun c₀ cs hu => ?_
 apply wpS_seq
 apply wpS_region
 simp [wpOpsS, go_sem, recoverD, hu, Try.ntmps30, Exit.thenS]
 refine (caught_nil w).mono ?_
 rintro e w' ⟨rfl, rfl⟩
 simp [go_sem, c0, z0', hw1]
 apply wpS_seq
 apply wpS_region
 simp [wpOpsS, go_sem, c1, Exit.thenS]
 refine wpS_cond (t := false) (by simp [Act.eval, Array.replicate]) ?_
 simp only [Bool.false_eq_true, if_false]
 refine wpS_of_wp (wp_skip ?_)
 cases c₀
 simp_all [bodyPostS, results, Try.results30]
/-- reader.record, whatever the bytes. -/
theorem record_calls (k : Nat) (g : Nat) (l : List Int) (A : Option Addr) (c : Nat) (w0 w : World) {S : World → Prop} (R : RdAt S w0 w g l A c) (hb : ∀ x ∈ l, 0 ≤ x ∧ x ≤ 255) (hl : l.length ≤ 1000000) (r : Int)
  (hch : fits l = true → record_Check.f k (recOf l).1 (recOf l).2.1 (recOf l).2.2.1 (recOf l).2.2.2.1 = some r) :
  Calls Try.prog 32 #[.pointer (some ⟨g, 0, none⟩)] w fun e w' => w.grownBy w' (some g) ∧ ((fits l = true ∧ r = 0 ∧ ∃ v, e = .returned (.agg #[.int .i64 (recOf l).1, .string (recOf l).2.1, .int .i64 (recOf l).2.2.1, v]) ∧
   Kd.R (Kd.int .i64) 3 w' w.heap.size (fun _ => True) v (recOf l).2.2.2.1 ∧ ∃ A' c', RdAt S w0 w' g (recOf l).2.2.2.2 A' c') ∨ ((fits l = false ∨ r ≠ 0) ∧ e = .panicked failed)) := by
 cases hf : fits l with
 | false =>
  refine (record_fails g l A c w0 w R hb hl hf).mono ?_
  rintro e w' ⟨h1, h2⟩
  exact ⟨h1, .inr ⟨.inl rfl, h2⟩⟩
 | true =>
  have hch := hch hf
  rcases l with _ | ⟨kd, _ | ⟨sz, t⟩⟩
  ·simp [fits] at hf
  ·simp [fits] at hf
  ·simp only [fits, Bool.and_eq_true, decide_eq_true_eq] at hf
   have hcnt := beN_lt (((t.drop sz.toNat).drop 4).take 2) (fun x hx => hb x (List.mem_cons_of_mem _ (List.mem_cons_of_mem _ (List.mem_of_mem_drop (List.mem_of_mem_drop (List.mem_of_mem_take hx))))))
   refine (record_reads k g kd sz t A c w0 w R hb (by simp at hl; omega) hf.1 _ rfl _ rfl _ rfl _ (Int.toNat_of_nonneg hcnt.1).symm _ rfl hf.2 r hch).mono ?_
   rintro e w' ⟨h1, ⟨h2, v, h3, h4, h5⟩ | ⟨h2, h3⟩⟩
   ·exact ⟨h1, .inl ⟨rfl, h2, v, h3, h4, h5⟩⟩
   ·exact ⟨h1, .inr ⟨.inr h2, h3⟩⟩

def record_Decode.f (k : Nat) (l0 : List Int) : Option (Int × ByteArray × Int × List Int × Int) :=
 if l0.length ≤ 1000000 ∧ okB l0 = true then (if fits l0 = true then ((record_Check.f k (recOf l0).1 (recOf l0).2.1 (recOf l0).2.2.1 (recOf l0).2.2.2.1).bind fun r => if r = 0 ∧ (recOf l0).2.2.2.2.length = 0 then some ((recOf l0).1, (recOf l0).2.1, (recOf l0).2.2.1, (recOf l0).2.2.2.1, 0) else some (0, ⟨#[]⟩, 0, [], 160)) else some (0, ⟨#[]⟩, 0, [], 160)) else none
theorem record_Decode.mono : ∀ a0 k, LeO (record_Decode.f k a0) (record_Decode.f (k + 1) a0) := by
 intro a0 k
 unfold record_Decode.f
 refine LeO.ite ?_ (LeO.refl _)
 refine LeO.ite ?_ (LeO.refl _)
 exact LeO.bind (record_Check.mono _ _ _ _ _) (fun _ => LeO.refl _)
set_option maxHeartbeats 4000000 in
theorem decode_run (k : Nat) (A0 : Option Addr) (c0 : Nat) (l0 : List Int) (w : World) (hr0 : Kd.C (Kd.int .u8) w A0 l0.length l0) (hc0 : l0.length ≤ c0) (hl : l0.length ≤ 1000000) (hb : okB l0 = true) (r : Int)
  (hch : fits l0 = true → record_Check.f k (recOf l0).1 (recOf l0).2.1 (recOf l0).2.2.1 (recOf l0).2.2.2.1 = some r) :
  Calls Try.prog 13 #[.slice A0 l0.length c0] w fun e w' => ∃ v3_ : Value, ((fits l0 = true ∧ r = 0 ∧ (recOf l0).2.2.2.2.length = 0 ∧ e = .returned (.tuple #[.agg #[.int .i64 (recOf l0).1, .string (recOf l0).2.1, .int .i64 (recOf l0).2.2.1, v3_], .int .i64 0]) ∧ Kd.R (Kd.int .i64) 3 w' w.heap.size (fun _ => True) v3_ (recOf l0).2.2.2.1) ∨
   (¬ (fits l0 = true ∧ r = 0 ∧ (recOf l0).2.2.2.2.length = 0) ∧ e = .returned (.tuple #[.agg #[.int .i64 0, .string ⟨#[]⟩, .int .i64 0, .slice none 0 0], .int .i64 160]))) ∧ Below w.heap.size w w' := by
 have HC := Aside0.mk hr0
 have HCH := Aside0.mk hch
 have HB := Aside0.mk (okB_iff hb)
 have HL := Aside0.mk hl
 have HR := Aside0.mk hc0
 clear hr0 hch hb hl hc0
 have hmf : ∀ (fn : Fn) (first cap : Array Value) (w : World), (Instr.makeFunc fn first cap).run Try.prog w = .ok (.func fn first cap) w := fun _ _ _ _ => rfl
 go_enter_defers Try.func13, Try.ntmps13
 go_wp2_with fail
 obtain ⟨po, hpo⟩ : ∃ po, w.heap.size = po := ⟨_, rfl⟩
 obtain ⟨W0, hW0⟩ : ∃ W0, (((w.alloc zero25).alloc (.cells #[.int .i64 0] 28)).alloc (.cells #[.slice A0 l0.length c0] 55)) = W0 := ⟨_, rfl⟩
 have hb0 : Below w.heap.size w W0 := by rw [← hW0]; exact below_alloc (below_alloc (below_alloc (Below.refl _ _) _) _) _
 have hs0 : W0.heap.size = po + 3 := by rw [← hW0, ← hpo]; simp
 have ho0 : W0.heap[po]? = some zero25 := by
  rw [← hW0, ← hpo, heap_alloc_old _ _ (by simp; omega), heap_alloc_old _ _ (by simp)]
  exact heap_alloc_new _ _
 have he0 : W0.heap[po + 1]? = some (.cells #[.int .i64 0] 28 (0, 0)) := by
  rw [← hW0, ← hpo, heap_alloc_old _ _ (by simp)]
  have := heap_alloc_new (w.alloc zero25) (.cells #[.int .i64 0] 28)
  rw [show (w.alloc zero25).heap.size = w.heap.size + 1 from by simp] at this
  exact this
 have hg0 : W0.heap[po + 1 + 1]? = some (.cells #[.slice A0 l0.length c0] 55 (0, 0)) := by
  rw [← hW0, ← hpo]
  have := heap_alloc_new ((w.alloc zero25).alloc (.cells #[.int .i64 0] 28)) (.cells #[.slice A0 l0.length c0] 55)
  rw [show ((w.alloc zero25).alloc (.cells #[.int .i64 0] 28)).heap.size = w.heap.size + 1 + 1 from by simp] at this
  exact this
 have hrd : RdAt (fun W => W0.grownBy W (some (po + 1 + 1))) W0 W0 (po + 1 + 1) l0 A0 c0 := ⟨⟨rfl, rfl, rfl, Nat.le_refl _, fun _ _ _ => rfl⟩, by omega, hg0, HR.out, fun W hW => Kd.C_below HC.out (hb0.trans ⟨hW.os, hW.tape, hW.output, hW.size, fun k hk => hW.block k (by omega) (by simp; omega)⟩), fun _ h => h⟩
 have hcall := record_calls k (po + 1 + 1) l0 A0 c0 W0 W0 hrd HB.out HL.out r HCH.out
 rw [hpo]
 simp only [zero25] at hW0
 rw [hW0]
 have HB0 := Aside0.mk hb0
 have HPO := Aside0.mk hpo
 have HS0 := Aside0.mk hs0
 have HO0 := Aside0.mk ho0
 have HE0 := Aside0.mk he0
 obtain ⟨pe, hpe⟩ : ∃ pe, po + 1 = pe := ⟨_, rfl⟩
 obtain ⟨pg, hpg⟩ : ∃ pg, pe + 1 = pg := ⟨_, rfl⟩
 rw [hpe] at HE0 hcall ⊢
 rw [hpg] at hcall ⊢
 have n1 : ¬ pg = po := by omega
 have n2 : ¬ pg = pe := by omega
 have n3 : ¬ pe = po := by omega
 have HPE := Aside0.mk hpe
 have HPG := Aside0.mk hpg
 clear hb0 hpo hs0 ho0 he0 hg0 hrd hW0 hpe hpg
 refine hcall.mono ?_
 rintro e W1 ⟨hg1, ⟨hf, hr, v, rfl, hv, A1, c1, hrd1⟩ | ⟨hbad, rfl⟩⟩
 ·clear hcall
  obtain ⟨rec, hrec⟩ : ∃ rec, recOf l0 = rec := ⟨_, rfl⟩
  rw [hrec] at hv hrd1
  obtain ⟨kd, key, len, st, rest⟩ := rec
  simp only at hv hrd1
  rw [hrec]
  simp only
  have ho1 : W1.heap[po]? = some zero25 := by rw [hg1.block po (by have := HS0.out; omega) (by simp; omega)]; exact HO0.out
  have d0 : W1.cell? ⟨po, 0, none⟩ = some (.int .i64 0) := by simp [World.cell?, ho1, zero25]
  have d1 : W1.cell? ⟨po, 1, none⟩ = some (.string ⟨#[]⟩) := by simp [World.cell?, ho1, zero25]
  have d2 : W1.cell? ⟨po, 2, none⟩ = some (.int .i64 0) := by simp [World.cell?, ho1, zero25]
  have d3 : W1.cell? ⟨po, 3, none⟩ = some (.slice none 0 0) := by simp [World.cell?, ho1, zero25]
  have f0 : ∀ j, W1.frozen? ⟨po, j, none⟩ = false := by intro j; simp [World.frozen?, ho1, zero25]
  obtain ⟨Av, cv, rfl⟩ := Kd.R_slice hv
  have HV := Aside0.mk hv
  have HRD1 := Aside0.mk hrd1
  have HG1 := Aside0.mk hg1
  have HO1 := Aside0.mk ho1
  have HF := Aside0.mk hf
  have HRR := Aside0.mk hr
  have HREC := Aside0.mk hrec
  clear hv hrd1 hg1 ho1 hf hr hrec
  have f00 := f0 0
  have f01 := f0 1
  have f02 := f0 2
  have f03 := f0 3
  clear f0
  have g1 : W1.cell? ⟨pg, 0, none⟩ = some (.slice A1 rest.length c1) := by simp [World.cell?, HRD1.out.cell]
  obtain ⟨nv, hnv⟩ : ∃ nv, st.length = nv := ⟨_, rfl⟩
  rw [hnv]
  have HNV := Aside0.mk hnv
  clear hnv
  go_upto_region 4 with fail
  have hgr := (((grown_cell W1 po 0 (.int .i64 kd)).trans (grown_cell _ po 1 (.string key))).trans ((grown_cell _ po 2 (.int .i64 len)).trans (grown_cell _ po 3 (.slice Av nv cv))))
  have h4 := four_cells W1 po (.int .i64 kd) (.string key) (.int .i64 len) (.slice Av nv cv) _ _ _ _ HO1.out
  obtain ⟨W2, hW2⟩ : ∃ W2, ((((W1.setCell ⟨po, 0, none⟩ (.int .i64 kd)).setCell ⟨po, 1, none⟩ (.string key)).setCell ⟨po, 2, none⟩ (.int .i64 len)).setCell ⟨po, 3, none⟩ (.slice Av nv cv)) = W2 := ⟨_, rfl⟩
  rw [hW2] at hgr h4 ⊢
  clear hW2 d0 d1 d2 d3 f00 f01 f02 f03
  have g2 : W2.cell? ⟨pg, 0, none⟩ = some (.slice A1 rest.length c1) := (World.cell?_of_block (a := ⟨pg, 0, none⟩) (hgr.block pg HRD1.out.lt (by simp; omega))).trans g1
  have he2 : W2.heap[pe]? = some (.cells #[.int .i64 0] 28 (0, 0)) := by
   rw [hgr.block pe (Nat.lt_of_lt_of_le (by have := HS0.out; have := HPE.out; omega) HG1.out.size) (by simp; omega), HG1.out.block pe (by have := HS0.out; have := HPE.out; omega) (by simp; omega)]
   exact HE0.out
  have d0 : W2.cell? ⟨po, 0, none⟩ = some (.int .i64 kd) := by simp [World.cell?, h4]
  have d1 : W2.cell? ⟨po, 1, none⟩ = some (.string key) := by simp [World.cell?, h4]
  have d2 : W2.cell? ⟨po, 2, none⟩ = some (.int .i64 len) := by simp [World.cell?, h4]
  have d3 : W2.cell? ⟨po, 3, none⟩ = some (.slice Av nv cv) := by simp [World.cell?, h4]
  have f0 : ∀ j, W2.frozen? ⟨po, j, none⟩ = false := by intro j; simp [World.frozen?, h4]
  have H4 := Aside0.mk h4
  have HGR := Aside0.mk hgr
  have HE2 := Aside0.mk he2
  clear h4 hgr g1 he2
  by_cases hrest : rest.length = 0
  ·have hr2 : ¬ (0 : Int) < (rest.length : Int) := by omega
   have HRL := Aside0.mk hrest
   clear hrest
   obtain ⟨nr, hnr⟩ : ∃ nr, rest.length = nr := ⟨_, rfl⟩
   rw [hnr] at g2 hr2
   go_upto_region 6 with fail
   have e2 : W2.cell? ⟨pe, 0, none⟩ = some (.int .i64 0) := by simp [World.cell?, HE2.out]
   have fe : W2.frozen? ⟨pe, 0, none⟩ = false := by simp [World.frozen?, HE2.out]
   have f00 := f0 0
   have f01 := f0 1
   have f02 := f0 2
   have f03 := f0 3
   have n4 : ¬ po = pe := by omega
   clear g2 hr2 f0
   go_wp2_with fail
   have hg3 := (((grown_cell W2 po 0 (.int .i64 kd)).trans (grown_cell _ po 1 (.string key))).trans ((grown_cell _ po 2 (.int .i64 len)).trans (grown_cell _ po 3 (.slice Av nv cv))))
   have h43 := four_cells W2 po (.int .i64 kd) (.string key) (.int .i64 len) (.slice Av nv cv) _ _ _ _ H4.out
   obtain ⟨W3, hW3⟩ : ∃ W3, ((((W2.setCell ⟨po, 0, none⟩ (.int .i64 kd)).setCell ⟨po, 1, none⟩ (.string key)).setCell ⟨po, 2, none⟩ (.int .i64 len)).setCell ⟨po, 3, none⟩ (.slice Av nv cv)) = W3 := ⟨_, rfl⟩
   rw [hW3] at hg3 h43 ⊢
   have he3 : W3.heap[pe]? = some (.cells #[.int .i64 0] 28 (0, 0)) := by
    rw [hg3.block pe (Array.getElem?_eq_some_iff.1 HE2.out).1 (by simp; omega)]
    exact HE2.out
   have he4 : (W3.setCell ⟨pe, 0, none⟩ (.int .i64 0)).heap[pe]? = some (.cells #[.int .i64 0] 28 (0, 0)) := by simp [World.setCell, Array.getElem?_modify, he3]
   have hg4 := grown_cell W3 pe 0 (.int .i64 0)
   have ho4 := hg4.block po (Array.getElem?_eq_some_iff.1 h43).1 (by simp; omega)
   rw [h43] at ho4
   obtain ⟨W4, hW4⟩ : ∃ W4, W3.setCell ⟨pe, 0, none⟩ (.int .i64 0) = W4 := ⟨_, rfl⟩
   rw [hW4] at he4 hg4 ho4 ⊢
   refine leaves_cons (f := 30) (args := #[.pointer (some ⟨pe, 0, none⟩), .pointer (some ⟨po, 0, none⟩)]) (by simp) (by simp [go_sem]) ?_
   refine (decode_idle pe po 0 W4 he4).mono ?_
   rintro e u' w'' ⟨rfl, rfl, rfl⟩
   have hg5 := grown_cell W4 pe 0 (.int .i64 0)
   have he5 : (W4.setCell ⟨pe, 0, none⟩ (.int .i64 0)).heap[pe]? = some (.cells #[.int .i64 0] 28 (0, 0)) := by simp [World.setCell, Array.getElem?_modify, he4]
   have ho5 := hg5.block po (Array.getElem?_eq_some_iff.1 ho4).1 (by simp; omega)
   rw [ho4] at ho5
   obtain ⟨W5, hW5⟩ : ∃ W5, W4.setCell ⟨pe, 0, none⟩ (.int .i64 0) = W5 := ⟨_, rfl⟩
   rw [hW5] at he5 hg5 ho5 ⊢
   have q0 : W5.cell? ⟨po, 0, none⟩ = some (.int .i64 kd) := by simp [World.cell?, ho5]
   have q1 : W5.cell? ⟨po, 1, none⟩ = some (.string key) := by simp [World.cell?, ho5]
   have q2 : W5.cell? ⟨po, 2, none⟩ = some (.int .i64 len) := by simp [World.cell?, ho5]
   have q3 : W5.cell? ⟨po, 3, none⟩ = some (.slice Av nv cv) := by simp [World.cell?, ho5]
   have q4 : W5.cell? ⟨pe, 0, none⟩ = some (.int .i64 0) := by simp [World.cell?, he5]
   have hsz := HS0.out
   have hpo1 := HPO.out
   have hpe1 := HPE.out
   have hpg1 := HPG.out
   have hlow : ∀ k, k < po → W5.heap[k]? = W0.heap[k]? := by
    intro k hk
    have a1 := HG1.out.size
    have a2 := HGR.out.size
    have a3 := hg3.size
    have a4 := hg4.size
    rw [hg5.block k (by omega) (by simp; omega), hg4.block k (by omega) (by simp; omega), hg3.block k (by omega) (by simp; omega), HGR.out.block k (by omega) (by simp; omega), HG1.out.block k (by omega) (by simp; omega)]
   have hbel : Below w.heap.size w W5 := by
    have b := HB0.out
    have a1 := HG1.out
    have a2 := HGR.out
    refine b.trans ⟨hg5.os.trans (hg4.os.trans (hg3.os.trans (a2.os.trans a1.os))), hg5.tape.trans (hg4.tape.trans (hg3.tape.trans (a2.tape.trans a1.tape))), hg5.output.trans (hg4.output.trans (hg3.output.trans (a2.output.trans a1.output))), Nat.le_trans a1.size (Nat.le_trans a2.size (Nat.le_trans hg3.size (Nat.le_trans hg4.size hg5.size))), fun k hk => hlow k (by omega)⟩
   have hown : Kd.R (Kd.int .i64) 3 W5 w.heap.size (fun _ => True) (.slice Av nv cv) st := by
    have v0 := HV.out
    rw [HNV.out] at v0
    have v2 := Kd.R_grown2 v0 rfl HGR.out (fun k hk e => by cases hk; exact Kd.R_ne v0 HO1.out (by decide) e)
    have v3 := Kd.R_grown2 v2 rfl hg3 (fun k hk e => by cases hk; exact Kd.R_ne v2 H4.out (by decide) e)
    have v4 := Kd.R_grown2 v3 rfl hg4 (fun k hk e => by cases hk; exact Kd.R_ne v3 he3 (by decide) e)
    have v5 := Kd.R_grown2 v4 rfl hg5 (fun k hk e => by cases hk; exact Kd.R_ne v4 he4 (by decide) e)
    exact Kd.R_lower v5 HB0.out.size
   simp [Leaves, settle, results, Try.results13, go_sem, q0, q1, q2, q3, q4]
   rw [HREC.out]
   exact ⟨⟨HF.out, HRR.out, List.eq_nil_of_length_eq_zero HRL.out, _, ⟨rfl, rfl, rfl, rfl⟩, hown⟩, hbel⟩
  ·have hr2 : (0 : Int) < (rest.length : Int) := by omega
   have HRL := Aside0.mk hrest
   clear hrest
   obtain ⟨nr, hnr⟩ : ∃ nr, rest.length = nr := ⟨_, rfl⟩
   rw [hnr] at g2 hr2
   go_wp2_with fail
   refine leaves_cons (f := 30) (args := #[.pointer (some ⟨pe, 0, none⟩), .pointer (some ⟨po, 0, none⟩)]) (by simp) (by simp [go_sem]) ?_
   refine (decode_catch pe po 0 _ _ _ _ [] W2 HE2.out H4.out n3).mono ?_
   rintro e u' w'' ⟨rfl, rfl, he3, ho3, hb3⟩
   have q0 : w''.cell? ⟨po, 0, none⟩ = some (.int .i64 0) := by simp [World.cell?, ho3, zero25]
   have q1 : w''.cell? ⟨po, 1, none⟩ = some (.string ⟨#[]⟩) := by simp [World.cell?, ho3, zero25]
   have q2 : w''.cell? ⟨po, 2, none⟩ = some (.int .i64 0) := by simp [World.cell?, ho3, zero25]
   have q3 : w''.cell? ⟨po, 3, none⟩ = some (.slice none 0 0) := by simp [World.cell?, ho3, zero25]
   have q4 : w''.cell? ⟨pe, 0, none⟩ = some (.int .i64 160) := by simp [World.cell?, he3]
   simp [Leaves, settle, results, Try.results13, go_sem, q0, q1, q2, q3, q4]
   have hsz := HS0.out
   have hpo1 := HPO.out
   have hpe1 := HPE.out
   have hpg1 := HPG.out
   refine ⟨fun _ _ h => ?_, ?_⟩
   ·rw [HREC.out] at h
    have h' : rest = [] := h
    exact HRL.out (by rw [h']; rfl)
   ·have b := HB0.out
    have a1 := HG1.out
    have a2 := HGR.out
    have a3 := hb3 po (by omega) (Nat.le_refl _)
    refine b.trans ⟨a3.os.trans (a2.os.trans a1.os), a3.tape.trans (a2.tape.trans a1.tape), a3.output.trans (a2.output.trans a1.output), Nat.le_trans a1.size (Nat.le_trans a2.size a3.size), fun k hk => ?_⟩
    have s1 := a1.size
    rw [a3.block k (by omega), a2.block k (by omega) (by simp; omega), a1.block k (by omega) (by simp; omega)]
 ·have ho1 : W1.heap[po]? = some zero25 := by rw [hg1.block po (by have := HS0.out; omega) (by simp; omega)]; exact HO0.out
  have he1 : W1.heap[pe]? = some (.cells #[.int .i64 0] 28 (0, 0)) := by rw [hg1.block pe (by have := HS0.out; have := HPE.out; omega) (by simp; omega)]; exact HE0.out
  have HG1 := Aside0.mk hg1
  have HO1 := Aside0.mk ho1
  have HE1 := Aside0.mk he1
  have HBAD := Aside0.mk hbad
  clear hcall hg1 ho1 he1 hbad
  go_wp2_with fail
  refine leaves_cons (f := 30) (args := #[.pointer (some ⟨pe, 0, none⟩), .pointer (some ⟨po, 0, none⟩)]) (by simp) (by simp [go_sem]) ?_
  refine (decode_catch pe po 0 _ _ _ _ [] W1 HE1.out HO1.out n3).mono ?_
  rintro e u' w'' ⟨rfl, rfl, he3, ho3, hb3⟩
  have q0 : w''.cell? ⟨po, 0, none⟩ = some (.int .i64 0) := by simp [World.cell?, ho3, zero25]
  have q1 : w''.cell? ⟨po, 1, none⟩ = some (.string ⟨#[]⟩) := by simp [World.cell?, ho3, zero25]
  have q2 : w''.cell? ⟨po, 2, none⟩ = some (.int .i64 0) := by simp [World.cell?, ho3, zero25]
  have q3 : w''.cell? ⟨po, 3, none⟩ = some (.slice none 0 0) := by simp [World.cell?, ho3, zero25]
  have q4 : w''.cell? ⟨pe, 0, none⟩ = some (.int .i64 160) := by simp [World.cell?, he3]
  simp [Leaves, settle, results, Try.results13, go_sem, q0, q1, q2, q3, q4]
  have hsz := HS0.out
  have hpo1 := HPO.out
  have hpe1 := HPE.out
  have hpg1 := HPG.out
  refine ⟨fun h1 h2 => ?_, ?_⟩
  ·rcases HBAD.out with h3 | h3
   ·rw [h1] at h3
    cases h3
   ·exact absurd h2 h3
  ·have b := HB0.out
   have a1 := HG1.out
   have a3 := hb3 po (by omega) (Nat.le_refl _)
   refine b.trans ⟨a3.os.trans a1.os, a3.tape.trans a1.tape, a3.output.trans a1.output, Nat.le_trans a1.size a3.size, fun k hk => ?_⟩
   rw [a3.block k (by omega), a1.block k (by omega) (by simp; omega)]
theorem record_Decode.calls (k : Nat) (A0 : Option Addr) (c0 : Nat) (l0 : List Int) (r1 : Int) (r2 : ByteArray) (r3 : Int) (r4 : List Int) (r5 : Int) (w : World) (hr0 : Kd.C (Kd.int .u8) w A0 l0.length l0) (hc0 : l0.length ≤ c0) (h : record_Decode.f k l0 = some (r1, r2, r3, r4, r5)) :
  Calls Try.prog 13 #[.slice A0 l0.length c0] w fun e w' => ∃ v3_ : Value, e = .returned (.tuple #[.agg #[.int .i64 r1, .string r2, .int .i64 r3, v3_], .int .i64 r5]) ∧ Kd.R (Kd.int .i64) 3 w' w.heap.size (fun _ => True) v3_ r4 ∧ Below w.heap.size w w' := by
 unfold record_Decode.f at h
 by_cases h0 : l0.length ≤ 1000000 ∧ okB l0 = true
 case neg => rw [if_neg h0] at h; cases h
 rw [if_pos h0] at h
 by_cases hf : fits l0 = true
 ·rw [if_pos hf] at h
  obtain ⟨r, hr, h⟩ := Option.bind_eq_some_iff.mp h
  refine (decode_run k A0 c0 l0 w hr0 hc0 h0.1 h0.2 r (fun _ => hr)).mono ?_
  rintro e w' ⟨v, ⟨_, h1, h2, rfl, h3⟩ | ⟨h1, rfl⟩, hb⟩
  ·rw [if_pos ⟨h1, h2⟩] at h
   simp only [Option.some.injEq, Prod.mk.injEq] at h
   obtain ⟨rfl, rfl, rfl, rfl, rfl⟩ := h
   exact ⟨v, rfl, h3, hb⟩
  ·rw [if_neg (fun h2 => h1 ⟨hf, h2.1, h2.2⟩)] at h
   simp only [Option.some.injEq, Prod.mk.injEq] at h
   obtain ⟨rfl, rfl, rfl, rfl, rfl⟩ := h
   exact ⟨_, rfl, Kd.R_nil _ _ _ _ _, hb⟩
 ·rw [if_neg hf] at h
  simp only [Option.some.injEq, Prod.mk.injEq] at h
  obtain ⟨rfl, rfl, rfl, rfl, rfl⟩ := h
  refine (decode_run k A0 c0 l0 w hr0 hc0 h0.1 h0.2 0 (fun h => absurd h hf)).mono ?_
  rintro e w' ⟨v, ⟨h1, _⟩ | ⟨_, rfl⟩, hb⟩
  ·exact absurd h1 hf
  ·exact ⟨_, rfl, Kd.R_nil _ _ _ _ _, hb⟩
end

end Go.Proofs.Ytoeegdpkmdgkdaa.PAll
