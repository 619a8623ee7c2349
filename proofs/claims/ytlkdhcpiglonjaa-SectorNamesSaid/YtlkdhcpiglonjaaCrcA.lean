/- The check sum as a fold over bit vectors: what one step does, that steps are linear and one to one. -/
import Derived.Test.YtlkdhcpiglonjaaPAllx1
import Derived.Test.YtlkdhcpiglonjaaPAllx3
namespace Go.Proofs.Ytlkdhcpiglonjaa.CrcA
open Go.RowKit Go.Proofs.Ytlkdhcpiglonjaa.PAll Go.Proofs.YtlkdhcpiglonjaaW.PrintWords Go.Proofs.YtlkdhcpiglonjaaW.PrintLast

def poly : BitVec 32 := 0x82F63B78#32
def half (x : BitVec 32) : BitVec 32 := (x >>> 1) ^^^ (if x.getLsbD 0 then poly else 0#32)
def half8 (x : BitVec 32) : BitVec 32 := half (half (half (half (half (half (half (half x)))))))
def stp (x : BitVec 32) (b : Int) : BitVec 32 := half8 (x ^^^ BitVec.ofInt 32 b)
def run (x : BitVec 32) (l : List Int) : BitVec 32 := l.foldl stp x

theorem bits_xor (X Y : BitVec 32) : Go.bits .xor .u32 (X.toNat : Int) (Y.toNat : Int) = ((X ^^^ Y).toNat : Int) := by
  have h := (X ^^^ Y).isLt
  show IntKind.u32.wrap (((BitVec.ofInt 32 (X.toNat : Int)) ^^^ (BitVec.ofInt 32 (Y.toNat : Int))).toNat : Int) = _
  rw [BitVec.ofInt_natCast, BitVec.ofInt_natCast, BitVec.ofNat_toNat, BitVec.ofNat_toNat, BitVec.setWidth_eq, BitVec.setWidth_eq]
  generalize (X ^^^ Y).toNat = n at *
  simp only [IntKind.wrap, IntKind.signed, IntKind.bits, Bool.false_and, Bool.false_eq_true, if_false]
  omega
theorem bits_and (X Y : BitVec 32) : Go.bits .and .u32 (X.toNat : Int) (Y.toNat : Int) = ((X &&& Y).toNat : Int) := by
  have h := (X &&& Y).isLt
  show IntKind.u32.wrap (((BitVec.ofInt 32 (X.toNat : Int)) &&& (BitVec.ofInt 32 (Y.toNat : Int))).toNat : Int) = _
  rw [BitVec.ofInt_natCast, BitVec.ofInt_natCast, BitVec.ofNat_toNat, BitVec.ofNat_toNat, BitVec.setWidth_eq, BitVec.setWidth_eq]
  generalize (X &&& Y).toNat = n at *
  simp only [IntKind.wrap, IntKind.signed, IntKind.bits, Bool.false_and, Bool.false_eq_true, if_false]
  omega

theorem toNat_half (X : BitVec 32) : ((X.toNat : Int) / (2 : Int)) = ((X >>> 1).toNat : Int) := by
  rw [BitVec.toNat_ushiftRight, Nat.shiftRight_eq_div_pow]
  rfl
theorem and_one (X : BitVec 32) : X &&& 1#32 = if X.getLsbD 0 then 1#32 else 0#32 := by
  apply BitVec.eq_of_getLsbD_eq
  intro i hi
  by_cases h : i = 0
  · subst h
    rw [BitVec.getLsbD_and]
    cases hx : X.getLsbD 0 <;> simp
  · cases hx : X.getLsbD 0 <;> simp [h, BitVec.getLsbD_one]

theorem half_ref (X : BitVec 32) : (if (Go.bits .and .u32 (X.toNat : Int) 1) = 1 then (Go.bits .xor .u32 ((X.toNat : Int) / 2) 2197175160) else ((X.toNat : Int) / 2)) = ((half X).toNat : Int) := by
  have h1 := bits_and X 1#32
  have h2 := bits_xor (X >>> 1) poly
  rw [toNat_half]
  rw [show ((1#32).toNat : Int) = 1 from rfl] at h1
  rw [show (poly.toNat : Int) = 2197175160 from rfl] at h2
  rw [h1, h2, and_one]
  unfold half
  cases hx : X.getLsbD 0 <;> simp
theorem half_crc (X : BitVec 32) : (Go.bits .xor .u32 ((X.toNat : Int) / 2) (Go.bits .and .u32 2197175160 ((-(Go.bits .and .u32 (X.toNat : Int) 1)) % 4294967296))) = ((half X).toNat : Int) := by
  have h1 := bits_and X 1#32
  rw [show ((1#32).toNat : Int) = 1 from rfl] at h1
  rw [toNat_half, h1, and_one]
  unfold half
  cases hx : X.getLsbD 0
  · have h3 := bits_and poly 0#32
    have h4 := bits_xor (X >>> 1) (poly &&& 0#32)
    rw [← h3] at h4
    exact h4.trans (by simp)
  · have h3 := bits_and poly 4294967295#32
    have h4 := bits_xor (X >>> 1) (poly &&& 4294967295#32)
    rw [← h3] at h4
    exact h4.trans (by rw [show poly &&& 4294967295#32 = poly from by decide]; rfl)

theorem half_xor (X Y : BitVec 32) : half (X ^^^ Y) = half X ^^^ half Y := by
  unfold half
  rw [BitVec.getLsbD_xor, BitVec.ushiftRight_xor_distrib]
  generalize X >>> 1 = A
  generalize Y >>> 1 = B
  cases X.getLsbD 0 <;> cases Y.getLsbD 0 <;> (apply BitVec.eq_of_getLsbD_eq; intro i hi; simp only [Bool.xor_self, Bool.xor_false, Bool.false_xor, Bool.false_eq_true, if_true, if_false, BitVec.getLsbD_xor, BitVec.getLsbD_zero]; try (cases A.getLsbD i <;> cases B.getLsbD i <;> cases poly.getLsbD i <;> rfl))
theorem half_zero {Z : BitVec 32} (h : half Z = 0#32) : Z = 0#32 := by
  unfold half at h
  cases hz : Z.getLsbD 0
  · rw [hz] at h
    simp at h
    have h2 := congrArg BitVec.toNat h
    simp [BitVec.toNat_ushiftRight, Nat.shiftRight_eq_div_pow] at h2
    have h3 : Z.toNat % 2 = 0 := by
      simpa [BitVec.getLsbD, Nat.testBit_zero] using hz
    apply BitVec.eq_of_toNat_eq
    simp
    omega
  · rw [hz] at h
    simp at h
    have h1 : Z >>> 1 = poly := by
      have := congrArg (· ^^^ poly) h
      simpa [BitVec.xor_assoc] using this
    have h2 := congrArg BitVec.toNat h1
    simp [BitVec.toNat_ushiftRight, Nat.shiftRight_eq_div_pow, poly] at h2
    have := Z.isLt
    omega
theorem half_inj {X Y : BitVec 32} (h : half X = half Y) : X = Y := by
  have h1 : half (X ^^^ Y) = 0#32 := by rw [half_xor, h]; simp
  have h2 := half_zero h1
  have := congrArg (· ^^^ Y) h2
  simpa [BitVec.xor_assoc] using this
theorem half8_xor (X Y : BitVec 32) : half8 (X ^^^ Y) = half8 X ^^^ half8 Y := by unfold half8; simp only [half_xor]
theorem half8_inj {X Y : BitVec 32} (h : half8 X = half8 Y) : X = Y := half_inj (half_inj (half_inj (half_inj (half_inj (half_inj (half_inj (half_inj h)))))))
theorem half_even {X : BitVec 32} (h : X.toNat % 2 = 0) : (half X).toNat = X.toNat / 2 := by
  unfold half
  have hx : X.getLsbD 0 = false := by simpa [BitVec.getLsbD, Nat.testBit_zero] using h
  rw [hx]
  simp [BitVec.toNat_ushiftRight, Nat.shiftRight_eq_div_pow]
theorem half8_even {X : BitVec 32} (h : X.toNat % 256 = 0) : (half8 X).toNat = X.toNat / 256 := by
  unfold half8
  have e1 := half_even (X := X) (by omega)
  have e2 := half_even (X := half X) (by omega)
  have e3 := half_even (X := half (half X)) (by omega)
  have e4 := half_even (X := half (half (half X))) (by omega)
  have e5 := half_even (X := half (half (half (half X)))) (by omega)
  have e6 := half_even (X := half (half (half (half (half X))))) (by omega)
  have e7 := half_even (X := half (half (half (half (half (half X)))))) (by omega)
  have e8 := half_even (X := half (half (half (half (half (half (half X))))))) (by omega)
  omega

theorem stp_inj {X Y : BitVec 32} {b : Int} (h : stp X b = stp Y b) : X = Y := by
  have := half8_inj h
  have := congrArg (· ^^^ BitVec.ofInt 32 b) this
  simpa [BitVec.xor_assoc] using this
theorem run_inj {l : List Int} : ∀ {X Y : BitVec 32}, run X l = run Y l → X = Y := by
  induction l with
  | nil => intro X Y h; exact h
  | cons b l ih => intro X Y h; exact stp_inj (ih h)
theorem run_append (X : BitVec 32) (a b : List Int) : run X (a ++ b) = run (run X a) b := by simp [run]

/-! ### the program's functions -/
theorem wrap_in {i : Int} (h0 : -9223372036854775808 ≤ i) (h : i ≤ 9223372036854775807) : wrap64 i = i := by unfold wrap64; omega

theorem ref_l0 (d : Nat) : ∀ (i : Int) (X : BitVec 32), i + d = 8 → 0 ≤ i → Ev (fun k => aumbryref04_step.l0 k (X.toNat : Int) i) (((Nat.repeat half d X).toNat : Nat) : Int) := by
  induction d with
  | zero =>
    intro i X h h0
    refine Ev.step (f := fun _ => some (X.toNat : Int)) (fun k => ?_) (Ev.now _)
    rw [aumbryref04_step.l0, if_neg (by omega)]
  | succ d ih =>
    intro i X h h0
    have e := half_ref X
    refine Ev.step (f := fun k => aumbryref04_step.l0 k ((half X).toNat : Int) (i + 1)) (fun k => ?_) ?_
    · rw [aumbryref04_step.l0, if_pos (by omega), wrap_in (by omega) (by omega), ← e]
      split <;> rfl
    · have := ih (i + 1) (half X) (by omega) (by omega)
      rw [show Nat.repeat half (d + 1) X = Nat.repeat half d (half X) from ?_]
      · exact this
      · clear this ih e h
        induction d with
        | zero => rfl
        | succ d ih2 => show half _ = half _; exact congrArg half ih2

theorem crc_l1 (l : List Int) (n j : Int) (d : Nat) : ∀ (i : Int) (X : BitVec 32) (r : Int), i + d = 8 → 0 ≤ i → Ev (fun k => crc_More.l0 k (((Nat.repeat half d X).toNat : Nat) : Int) l n (wrap64 (j + 1))) r → Ev (fun k => crc_More.l1 k (X.toNat : Int) l n j i) r := by
  induction d with
  | zero =>
    intro i X r h h0 hE
    refine Ev.step (fun k => ?_) hE
    show crc_More.l1 (k + 1) _ _ _ _ _ = _
    rw [crc_More.l1, if_neg (by omega)]; rfl
  | succ d ih =>
    intro i X r h h0 hE
    have e := half_crc X
    refine Ev.step (f := fun k => crc_More.l1 k ((half X).toNat : Int) l n j (i + 1)) (fun k => ?_) ?_
    · show crc_More.l1 (k + 1) _ _ _ _ _ = _
      rw [crc_More.l1, if_pos (by omega), wrap_in (i := i + 1) (by omega) (by omega), e]
    · refine ih (i + 1) (half X) r (by omega) (by omega) ?_
      rw [show Nat.repeat half d (half X) = Nat.repeat half (d + 1) X from ?_]
      · exact hE
      · clear hE ih e h
        induction d with
        | zero => rfl
        | succ d ih2 => show half _ = half _; exact congrArg half ih2

theorem ofInt_mod (b : Int) : b % 4294967296 = ((BitVec.ofInt 32 b).toNat : Int) := by
  rw [BitVec.toNat_ofInt]
  have : 0 ≤ b % 4294967296 := Int.emod_nonneg _ (by decide)
  show _ = (((b % 4294967296).toNat : Nat) : Int)
  omega
theorem ref_step (X : BitVec 32) (b : Int) : Ev (fun k => aumbryref04_step.f k (X.toNat : Int) b) ((stp X b).toNat : Int) := by
  have h := ref_l0 8 0 (X ^^^ BitVec.ofInt 32 b) (by omega) (by omega)
  refine Ev.congr (fun k => ?_) h
  unfold aumbryref04_step.f
  rw [ofInt_mod, bits_xor]
def inv (X : BitVec 32) : BitVec 32 := 4294967295#32 ^^^ X
theorem bits_inv (X : BitVec 32) : Go.bits .xor .u32 4294967295 (X.toNat : Int) = ((inv X).toNat : Int) := bits_xor 4294967295#32 X
theorem inv_inv (X : BitVec 32) : inv (inv X) = X := by
  unfold inv
  rw [← BitVec.xor_assoc, BitVec.xor_self]
  simp
theorem inv_inj {X Y : BitVec 32} (h : inv X = inv Y) : X = Y := by rw [← inv_inv X, h, inv_inv]
theorem drop_rd {l : List Int} {j : Nat} (h : j < l.length) : l.drop j = rd l (j : Int) :: l.drop (j + 1) := by
  rw [List.drop_eq_getElem_cons h]
  unfold rd
  simp [List.getD_eq_getElem?_getD, h]
theorem ref_more (l : List Int) (hl : l.length ≤ 4611686018427387904) (d : Nat) : ∀ (j : Nat) (X : BitVec 32), j + d = l.length → Ev (fun k => aumbryref04_More.l0 k l (X.toNat : Int) (j : Int)) ((inv (run X (l.drop j))).toNat : Int) := by
  induction d with
  | zero =>
    intro j X h
    rw [List.drop_of_length_le (by omega)]
    refine Ev.step (f := fun _ => some ((inv X).toNat : Int)) (fun k => ?_) (Ev.now _)
    rw [aumbryref04_More.l0, if_neg (by omega), bits_inv]
  | succ d ih =>
    intro j X h
    rw [drop_rd (by omega)]
    refine Ev.step (f := fun k => (aumbryref04_step.f k (X.toNat : Int) (rd l (j : Int))).bind fun t => aumbryref04_More.l0 k l t ((j : Int) + 1)) (fun k => ?_) ?_
    · rw [aumbryref04_More.l0, if_pos (by omega), if_pos (by omega), wrap_in (i := (j : Int) + 1) (by omega) (by omega)]
    · refine Ev.bind (f := fun k t => aumbryref04_More.l0 k l t ((j : Int) + 1)) (ref_step X _) ?_
      exact ih (j + 1) (stp X (rd l (j : Int))) (by omega)
def val (S : BitVec 32) (l : List Int) : BitVec 32 := inv (run (inv S) l)
theorem ref_More (S : BitVec 32) (l : List Int) (hl : l.length ≤ 4611686018427387904) : Ev (fun k => aumbryref04_More.f k (S.toNat : Int) l) ((val S l).toNat : Int) := by
  refine Ev.congr (fun k => ?_) (ref_more l hl l.length 0 (inv S) (by omega))
  unfold aumbryref04_More.f
  rw [bits_inv]; rfl
theorem ref_Sum (l : List Int) (hl : l.length ≤ 4611686018427387904) : Ev (fun k => aumbryref04_Sum.f k l) ((val 0#32 l).toNat : Int) := by
  unfold aumbryref04_Sum.f
  exact Ev.bind (ref_More 0#32 l hl) (Ev.now _)
theorem and_255 (X : BitVec 32) : Go.bits .and .u32 (X.toNat : Int) 255 = ((X.toNat % 256 : Nat) : Int) := by
  have h := bits_and X 255#32
  rw [show ((255#32).toNat : Int) = 255 from rfl] at h
  rw [h, BitVec.toNat_and, show (255#32 : BitVec 32).toNat = 2 ^ 8 - 1 from rfl, Nat.and_two_pow_sub_one_eq_mod]
theorem crc_more (l : List Int) (hl : l.length ≤ 4611686018427387904) (d : Nat) : ∀ (j : Nat) (X : BitVec 32), j + d = l.length → Ev (fun k => crc_More.l0 k (X.toNat : Int) l (l.length : Int) (j : Int)) ((inv (run X (l.drop j))).toNat : Int) := by
  induction d with
  | zero =>
    intro j X h
    rw [List.drop_of_length_le (by omega)]
    refine Ev.step (f := fun _ => some ((inv X).toNat : Int)) (fun k => ?_) (Ev.now _)
    rw [crc_More.l0, if_neg (by omega), bits_inv]
  | succ d ih =>
    intro j X h
    rw [drop_rd (by omega)]
    have hE := ih (j + 1) (stp X (rd l (j : Int))) (by omega)
    by_cases h0 : (X ^^^ BitVec.ofInt 32 (rd l (j : Int))).toNat % 256 = 0
    · refine Ev.step (f := fun k => crc_More.l0 k ((stp X (rd l (j : Int))).toNat : Int) l (l.length : Int) ((j + 1 : Nat) : Int)) (fun k => ?_) hE
      rw [crc_More.l0, if_pos (by omega), if_pos (by omega), if_pos (by omega), ofInt_mod, bits_xor, and_255, if_pos (by omega), wrap_in (i := (j : Int) + 1) (by omega) (by omega)]
      unfold stp
      rw [half8_even h0]
      rfl
    · refine Ev.step (f := fun k => crc_More.l1 k ((X ^^^ BitVec.ofInt 32 (rd l (j : Int))).toNat : Int) l (l.length : Int) (j : Int) 0) (fun k => ?_) ?_
      · rw [crc_More.l0, if_pos (by omega), if_pos (by omega), if_pos (by omega), ofInt_mod, bits_xor, and_255, if_neg (by omega)]
      · refine crc_l1 l _ _ 8 0 _ _ (by omega) (by omega) ?_
        rw [wrap_in (i := (j : Int) + 1) (by omega) (by omega)]
        exact hE
theorem crc_More (S : BitVec 32) (l : List Int) (hl : l.length ≤ 4611686018427387904) : Ev (fun k => crc_More.f k (S.toNat : Int) l) ((val S l).toNat : Int) := by
  refine Ev.congr (fun k => ?_) (crc_more l hl l.length 0 (inv S) (by omega))
  unfold crc_More.f
  rw [bits_inv]; rfl
theorem crc_Sum (l : List Int) (hl : l.length ≤ 4611686018427387904) : Ev (fun k => crc_Sum.f k l) ((val 0#32 l).toNat : Int) := by
  unfold crc_Sum.f
  exact Ev.bind (crc_More 0#32 l hl) (Ev.now _)
theorem val_inj {S T : BitVec 32} {l : List Int} (h : val S l = val T l) : S = T := inv_inj (run_inj (inv_inj h))
theorem val_append (S : BitVec 32) (a b : List Int) : val (val S a) b = val S (a ++ b) := by unfold val; rw [inv_inv, run_append]
theorem val_nil (S : BitVec 32) : val S [] = S := inv_inv S
theorem of_u32 {x : Int} (h : (Lit.int .u32 x).wf = true) : ∃ X : BitVec 32, x = (X.toNat : Int) := by
  refine ⟨BitVec.ofInt 32 x, ?_⟩
  rw [← ofInt_mod]
  simp [Lit.wf, IntKind.min, IntKind.max, IntKind.signed, IntKind.bits] at h
  omega
theorem ev_pos {α : Type} {c : Prop} [Decidable c] {f g : Nat → Option α} {r : α} (h : c) (hE : Ev f r) : Ev (fun k => if c then f k else g k) r := Ev.congr (fun _ => if_pos h) hE
theorem ev_neg {α : Type} {c : Prop} [Decidable c] {f g : Nat → Option α} {r : α} (h : ¬ c) (hE : Ev g r) : Ev (fun k => if c then f k else g k) r := Ev.congr (fun _ => if_neg h) hE
theorem ev_some {α β : Type} {f : Nat → α → Option β} {a : α} {r : β} (hE : Ev (fun k => f k a) r) : Ev (fun k => (some a).bind (f k)) r := hE
theorem wf_byte {x : Int} (h : (Lit.int .u8 x).wf = true) : ∃ X : BitVec 8, x = (X.toNat : Int) := by
  simp [Lit.wf, IntKind.min, IntKind.max, IntKind.signed, IntKind.bits] at h
  refine ⟨BitVec.ofNat 8 x.toNat, ?_⟩
  rw [BitVec.toNat_ofNat]
  omega
theorem bits8 (X Y : BitVec 8) : Go.bits .xor .u8 (X.toNat : Int) (Y.toNat : Int) = ((X ^^^ Y).toNat : Int) := by
  have h := (X ^^^ Y).isLt
  show IntKind.u8.wrap (((BitVec.ofInt 8 (X.toNat : Int)) ^^^ (BitVec.ofInt 8 (Y.toNat : Int))).toNat : Int) = _
  rw [BitVec.ofInt_natCast, BitVec.ofInt_natCast, BitVec.ofNat_toNat, BitVec.ofNat_toNat, BitVec.setWidth_eq, BitVec.setWidth_eq]
  generalize (X ^^^ Y).toNat = n at *
  simp only [IntKind.wrap, IntKind.signed, IntKind.bits, Bool.false_and, Bool.false_eq_true, if_false]
  omega
theorem xor8 {a b : Int} (ha : (Lit.int .u8 a).wf = true) (hb : (Lit.int .u8 b).wf = true) : BitVec.ofInt 32 (Go.bits .xor .u8 a b) = BitVec.ofInt 32 a ^^^ BitVec.ofInt 32 b := by
  obtain ⟨A, rfl⟩ := wf_byte ha
  obtain ⟨B, rfl⟩ := wf_byte hb
  rw [bits8, BitVec.ofInt_natCast, BitVec.ofInt_natCast, BitVec.ofInt_natCast, BitVec.ofNat_toNat, BitVec.ofNat_toNat, BitVec.ofNat_toNat, BitVec.setWidth_xor]
theorem xor8_ne {a b : Int} (ha : (Lit.int .u8 a).wf = true) (hb : (Lit.int .u8 b).wf = true) (h0 : b ≠ 0) : BitVec.ofInt 32 (Go.bits .xor .u8 a b) ≠ BitVec.ofInt 32 a := by
  rw [xor8 ha hb]
  intro h
  have h1 := congrArg (BitVec.ofInt 32 a ^^^ ·) h
  simp only [← BitVec.xor_assoc, BitVec.xor_self, BitVec.zero_xor] at h1
  obtain ⟨B, rfl⟩ := wf_byte hb
  have h2 := congrArg BitVec.toNat h1
  rw [BitVec.ofInt_natCast, BitVec.toNat_ofNat] at h2
  have := B.isLt
  simp at h2
  omega
theorem run_zip : ∀ (a b : List Int) (X Y : BitVec 32), a.length = b.length → (∀ x ∈ a, (Lit.int .u8 x).wf = true) → (∀ x ∈ b, (Lit.int .u8 x).wf = true) → run (X ^^^ Y) (List.zipWith (Go.bits .xor .u8) a b) = run X a ^^^ run Y b
  | [], [], X, Y, _, _, _ => rfl
  | x :: a, y :: b, X, Y, hl, ha, hb => by
    show run (stp (X ^^^ Y) (Go.bits .xor .u8 x y)) (List.zipWith (Go.bits .xor .u8) a b) = run (stp X x) a ^^^ run (stp Y y) b
    rw [← run_zip a b _ _ (by simpa using hl) (fun z hz => ha z (List.mem_cons_of_mem _ hz)) (fun z hz => hb z (List.mem_cons_of_mem _ hz))]
    congr 1
    unfold stp
    rw [xor8 (ha x (List.mem_cons_self ..)) (hb y (List.mem_cons_self ..)), ← half8_xor]
    congr 1
    ac_rfl

end Go.Proofs.Ytlkdhcpiglonjaa.CrcA
