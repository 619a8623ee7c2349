/- What Encode and Decode of package record, and the document's Same, answer, as functions on lists; that they are each other's way back. -/
import Derived.Test.YtoeegdpkmdgkdaaRecA
import Derived.Test.YtoeegdpkmdgkdaaPAllx2
import Derived.Test.YtoeegdpkmdgkdaaPAllx3
import Derived.Test.YtoeegdpkmdgkdaaPAllx4
import Derived.Test.YtoeegdpkmdgkdaaPAllx8
import Derived.Test.YtoeegdpkmdgkdaaPAllx12
namespace Go.Proofs.Ytoeegdpkmdgkdaa.RecB
open Go.RowKit Go.Proofs.Ytoeegdpkmdgkdaa.PAll Go.Proofs.YtoeegdpkmdgkdaaW.PrintWords Go.Proofs.YtoeegdpkmdgkdaaW.PrintLast Go.Proofs.YtoeegdpkmdgkdaaW.PrintMore Go.Proofs.Ytoeegdpkmdgkdaa.RecA
set_option linter.unusedVariables false
set_option linter.unusedSimpArgs false

/-! ### numbers -/
def two (n : Int) : List Int := [n / 256 % 256, n % 256]
def four (n : Int) : List Int := [n / 16777216 % 256, n / 65536 % 256, n / 256 % 256, n % 256]
theorem sh0 (n : Int) : shr .i64 n 0 = n := by
  unfold shr
  rw [show min (0 : Int).toNat IntKind.i64.bits = 0 from rfl]
  simp
theorem sh8 (n : Int) : shr .i64 n 8 = n / 256 := by
  unfold shr
  rw [show min (8 : Int).toNat IntKind.i64.bits = 8 from rfl]
  simp
theorem sh16 (n : Int) : shr .i64 n 16 = n / 65536 := by
  unfold shr
  rw [show min (16 : Int).toNat IntKind.i64.bits = 16 from rfl]
  simp
theorem sh24 (n : Int) : shr .i64 n 24 = n / 16777216 := by
  unfold shr
  rw [show min (24 : Int).toNat IntKind.i64.bits = 24 from rfl]
  simp
theorem num2 (l : List Int) (n : Int) (hl : l.length ≤ 1000000000) : Ev (fun k => record_number.f k l n 2) (l ++ two n) := by
  unfold record_number.f
  rw [wrap_in (i := 2 - 1) (by omega) (by omega), show (2 - 1 : Int) = 1 from rfl]
  refine Ev.step (fun k => by rw [record_number.l0]) (ev_pos (by decide) (ev_pos (by rw [wrap_in (by omega) (by omega)]; decide) (ev_pos (by first | omega | (simp; omega)) ?_)))
  rw [wrap_in (i := 1 - 1) (by omega) (by omega), wrap_in (i := 8 * 1) (by omega) (by omega), show (1 - 1 : Int) = 0 from rfl, show (8 * 1 : Int) = 8 from rfl, sh8]
  refine Ev.step (fun k => by rw [record_number.l0]) (ev_pos (by decide) (ev_pos (by rw [wrap_in (by omega) (by omega)]; decide) (ev_pos (by first | omega | (simp; omega)) ?_)))
  rw [wrap_in (i := 0 - 1) (by omega) (by omega), wrap_in (i := 8 * 0) (by omega) (by omega), show (0 - 1 : Int) = -1 from rfl, show (8 * 0 : Int) = 0 from rfl, sh0]
  refine Ev.step (fun k => by rw [record_number.l0]) (ev_neg (by decide) (ev_eq (Ev.now _) ?_))
  simp only [List.append_assoc]
  rfl
theorem num4 (l : List Int) (n : Int) (hl : l.length ≤ 1000000000) : Ev (fun k => record_number.f k l n 4) (l ++ four n) := by
  unfold record_number.f
  rw [wrap_in (i := 4 - 1) (by omega) (by omega), show (4 - 1 : Int) = 3 from rfl]
  refine Ev.step (fun k => by rw [record_number.l0]) (ev_pos (by decide) (ev_pos (by rw [wrap_in (by omega) (by omega)]; decide) (ev_pos (by first | omega | (simp; omega)) ?_)))
  rw [wrap_in (i := 3 - 1) (by omega) (by omega), wrap_in (i := 8 * 3) (by omega) (by omega), show (3 - 1 : Int) = 2 from rfl, show (8 * 3 : Int) = 24 from rfl, sh24]
  refine Ev.step (fun k => by rw [record_number.l0]) (ev_pos (by decide) (ev_pos (by rw [wrap_in (by omega) (by omega)]; decide) (ev_pos (by first | omega | (simp; omega)) ?_)))
  rw [wrap_in (i := 2 - 1) (by omega) (by omega), wrap_in (i := 8 * 2) (by omega) (by omega), show (2 - 1 : Int) = 1 from rfl, show (8 * 2 : Int) = 16 from rfl, sh16]
  refine Ev.step (fun k => by rw [record_number.l0]) (ev_pos (by decide) (ev_pos (by rw [wrap_in (by omega) (by omega)]; decide) (ev_pos (by first | omega | (simp; omega)) ?_)))
  rw [wrap_in (i := 1 - 1) (by omega) (by omega), wrap_in (i := 8 * 1) (by omega) (by omega), show (1 - 1 : Int) = 0 from rfl, show (8 * 1 : Int) = 8 from rfl, sh8]
  refine Ev.step (fun k => by rw [record_number.l0]) (ev_pos (by decide) (ev_pos (by rw [wrap_in (by omega) (by omega)]; decide) (ev_pos (by first | omega | (simp; omega)) ?_)))
  rw [wrap_in (i := 0 - 1) (by omega) (by omega), wrap_in (i := 8 * 0) (by omega) (by omega), show (0 - 1 : Int) = -1 from rfl, show (8 * 0 : Int) = 0 from rfl, sh0]
  refine Ev.step (fun k => by rw [record_number.l0]) (ev_neg (by decide) (ev_eq (Ev.now _) ?_))
  simp only [List.append_assoc]
  rfl
theorem two_len (n : Int) : (two n).length = 2 := rfl
theorem four_len (n : Int) : (four n).length = 4 := rfl
def Bytes (l : List Int) : Prop := ∀ x ∈ l, 0 ≤ x ∧ x ≤ 255
theorem okB_of {l : List Int} (h : Bytes l) : okB l = true := by
  unfold okB
  rw [List.all_eq_true]
  intro x hx
  have := h x hx
  simp; omega
theorem bytes_app {l m : List Int} (h : Bytes l) (h2 : Bytes m) : Bytes (l ++ m) := fun x hx => (List.mem_append.1 hx).elim (h x) (h2 x)
theorem bytes_drop {l : List Int} (h : Bytes l) (n : Nat) : Bytes (l.drop n) := fun x hx => h x (List.mem_of_mem_drop hx)
theorem bytes_take {l : List Int} (h : Bytes l) (n : Nat) : Bytes (l.take n) := fun x hx => h x (List.mem_of_mem_take hx)
theorem two_bytes (n : Int) : Bytes (two n) := by
  intro x hx
  simp only [two, List.mem_cons, List.not_mem_nil, or_false] at hx
  omega
theorem four_bytes (n : Int) : Bytes (four n) := by
  intro x hx
  simp only [four, List.mem_cons, List.not_mem_nil, or_false] at hx
  omega
theorem str_bytes (s : ByteArray) : Bytes (bytesOf s) := by
  intro x hx
  unfold bytesOf at hx
  rw [List.mem_map] at hx
  obtain ⟨b, _, rfl⟩ := hx
  have := b.toNat_lt
  omega
theorem beN_two {n : Int} (h0 : 0 ≤ n) (h1 : n < 65536) : beN (two n) = n := by
  simp only [beN, two, List.foldl_cons, List.foldl_nil]
  omega
theorem beN_four {n : Int} (h0 : 0 ≤ n) (h1 : n < 4294967296) : beN (four n) = n := by
  simp only [beN, four, List.foldl_cons, List.foldl_nil]
  omega
theorem two_beN {l : List Int} (h : l.length = 2) (hb : Bytes l) : two (beN l) = l := by
  match l, h with
  | [a, b], _ =>
    have h1 := hb a (by simp)
    have h2 := hb b (by simp)
    simp only [beN, two, List.foldl_cons, List.foldl_nil, List.cons.injEq, and_true]
    omega
theorem four_beN {l : List Int} (h : l.length = 4) (hb : Bytes l) : four (beN l) = l := by
  match l, h with
  | [a, b, c, d], _ =>
    have h1 := hb a (by simp)
    have h2 := hb b (by simp)
    have h3 := hb c (by simp)
    have h4 := hb d (by simp)
    simp only [beN, four, List.foldl_cons, List.foldl_nil, List.cons.injEq, and_true]
    omega
theorem str_of (s : ByteArray) : strOfNums (bytesOf s) = s := by
  unfold strOfNums bytesOf
  rw [List.map_map]
  have : ((fun n : Int => UInt8.ofNat n.toNat) ∘ fun b : UInt8 => (b.toNat : Int)) = id := by
    funext b
    simp
  rw [this, List.map_id]
theorem of_str {l : List Int} (h : Bytes l) : bytesOf (strOfNums l) = l := by
  unfold strOfNums bytesOf
  simp only [List.toList_toArray, List.map_map]
  conv => rhs; rw [← List.map_id l]
  refine List.map_congr_left (fun x hx => ?_)
  have := h x hx
  simp only [Function.comp_apply, id_eq, UInt8.toNat_ofNat']
  omega
theorem str_size {l : List Int} : (strOfNums l).size = l.length := by
  unfold strOfNums
  show Array.size _ = _
  simp

/-! ### Encode -/
def pairs (st : List Int) : List Int := st.flatMap two
def encL (kd : Int) (key : ByteArray) (len : Int) (st : List Int) : List Int := [kd % 256, (key.size : Int) % 256] ++ bytesOf key ++ four len ++ two st.length ++ pairs st
theorem pairs_len (st : List Int) : (pairs st).length = 2 * st.length := by
  induction st with
  | nil => rfl
  | cons x l ih => unfold pairs at ih ⊢; rw [List.flatMap_cons, List.length_append, ih, two_len, List.length_cons]; omega
theorem enc_len (kd : Int) (key : ByteArray) (len : Int) (st : List Int) : (encL kd key len st).length = 8 + key.size + 2 * st.length := by
  unfold encL
  simp only [List.length_append, bytesOf_length, four_len, two_len, pairs_len, List.length_cons, List.length_nil]
  omega
theorem pairs_bytes (st : List Int) : Bytes (pairs st) := by
  intro x hx
  unfold pairs at hx
  rw [List.mem_flatMap] at hx
  obtain ⟨a, _, h⟩ := hx
  exact two_bytes a x h
theorem enc_bytes (kd : Int) (key : ByteArray) (len : Int) (st : List Int) : Bytes (encL kd key len st) := by
  refine bytes_app (bytes_app (bytes_app (bytes_app ?_ (str_bytes key)) (four_bytes _)) (two_bytes _)) (pairs_bytes st)
  intro x hx
  simp only [List.mem_cons, List.not_mem_nil, or_false] at hx
  omega
theorem enc_l0 (st : List Int) (hs : st.length ≤ 1000000) : ∀ (d i : Nat) (l : List Int), i + d = st.length → l.length + 2 * d ≤ 100000000 →
    Ev (fun k => record_encoded.l0 k l st (st.length : Int) (i : Int)) (l ++ pairs (st.drop i))
  | 0, i, l, hi, hl => by
    refine Ev.step (fun k => by rw [record_encoded.l0]) (ev_neg (by omega) (ev_eq (Ev.now _) ?_))
    rw [List.drop_of_length_le (by omega)]
    exact (List.append_nil l).symm
  | d + 1, i, l, hi, hl => by
    refine Ev.step (fun k => by rw [record_encoded.l0]) (ev_pos (by omega) (ev_pos (by omega) (ev_pos (by omega) ?_)))
    refine Ev.bind (num2 l _ (by omega)) ?_
    rw [wrap_in (by omega) (by omega), show ((i : Int) + 1) = ((i + 1 : Nat) : Int) from by omega]
    refine ev_eq (enc_l0 st hs d (i + 1) _ (by omega) (by rw [List.length_append, two_len]; omega)) ?_
    rw [drop_rd (show i < st.length by omega), List.append_assoc]
    rfl
theorem encoded (l : List Int) (kd : Int) (key : ByteArray) (len : Int) (st : List Int) (hl : l.length ≤ 10000000) (hk : key.size ≤ 1000000) (hs : st.length ≤ 1000000) : Ev (fun k => record_encoded.f k l kd key len st) (l ++ encL kd key len st) := by
  unfold record_encoded.f
  refine ev_some (ev_pos (by simp; omega) (ev_some (ev_pos (by first | omega | (simp; omega)) ?_)))
  have e1 : (l ++ [kd % 256, (key.size : Int) % 256] ++ bytesOf key).length = l.length + 2 + key.size := by simp [bytesOf_length]; omega
  refine Ev.bind (num4 _ _ (by rw [e1]; omega)) (Ev.bind (num2 _ _ (by rw [List.length_append, e1, four_len]; omega)) ?_)
  refine ev_eq (enc_l0 st hs st.length 0 _ (by omega) (by rw [List.length_append, List.length_append, e1, four_len, two_len]; omega)) ?_
  unfold encL
  simp only [List.append_assoc, List.drop_zero]
def encM (kd : Int) (key : ByteArray) (len : Int) (st : List Int) : List Int × Int := if Ok kd key len st then (encL kd key len st, 0) else ([], 1)
theorem encode (kd : Int) (key : ByteArray) (len : Int) (st : List Int) (hs : st.length ≤ 1000000) : Ev (fun k => record_Encode.f k kd key len st) (encM kd key len st) := by
  unfold record_Encode.f
  refine Ev.bind (check kd key len st (by omega)) ?_
  unfold chk encM
  by_cases h : Ok kd key len st
  · rw [if_pos h, if_pos h]
    have h1 := h.2.1
    exact ev_pos rfl (Ev.bind (encoded [] kd key len st (by simp) (by omega) hs) (Ev.now _))
  · rw [if_neg h, if_neg h]
    exact ev_neg (by decide) (Ev.now _)
/-! ### Decode -/
def OkOf (b : List Int) : Prop := fits b = true ∧ Ok (recOf b).1 (recOf b).2.1 (recOf b).2.2.1 (recOf b).2.2.2.1
instance (b : List Int) : Decidable (OkOf b) := by unfold OkOf; infer_instance
def decM (b : List Int) : Int × ByteArray × Int × List Int × Int :=
  if OkOf b ∧ (recOf b).2.2.2.2.length = 0 then ((recOf b).1, (recOf b).2.1, (recOf b).2.2.1, (recOf b).2.2.2.1, 0) else (0, ⟨#[]⟩, 0, [], 160)
theorem rec_st_len (b : List Int) (h : fits b = true) : (recOf b).2.2.2.1.length ≤ b.length := by
  rcases b with _ | ⟨kd, _ | ⟨sz, t⟩⟩
  · simp [recOf]
  · simp [recOf]
  · simp only [fits, Bool.and_eq_true, decide_eq_true_eq] at h
    simp only [recOf, pairsN_length, List.length_cons]
    have h2 := h.2
    rw [List.length_drop, List.length_drop] at h2
    omega
theorem decode (b : List Int) (hb : Bytes b) (hl : b.length ≤ 1000000) : Ev (fun k => record_Decode.f k b) (decM b) := by
  unfold record_Decode.f decM
  refine ev_pos ⟨hl, okB_of hb⟩ ?_
  by_cases hf : fits b = true
  · refine ev_pos hf ?_
    have hs := rec_st_len b hf
    refine Ev.bind (check _ _ _ _ (by omega)) ?_
    by_cases ho : Ok (recOf b).1 (recOf b).2.1 (recOf b).2.2.1 (recOf b).2.2.2.1
    · by_cases hr : (recOf b).2.2.2.2.length = 0
      · have hp : OkOf b ∧ (recOf b).2.2.2.2.length = 0 := ⟨⟨hf, ho⟩, hr⟩
        rw [if_pos hp]
        exact ev_pos ⟨by unfold chk; rw [if_pos ho], hr⟩ (Ev.now _)
      · have hp : ¬ (OkOf b ∧ (recOf b).2.2.2.2.length = 0) := fun h => hr h.2
        rw [if_neg hp]
        exact ev_neg (fun h => hr h.2) (Ev.now _)
    · have hp : ¬ (OkOf b ∧ (recOf b).2.2.2.2.length = 0) := fun h => ho h.1.2
      rw [if_neg hp]
      refine ev_neg (fun h => ?_) (Ev.now _)
      have := h.1
      unfold chk at this
      rw [if_neg ho] at this
      cases this
  · have hp : ¬ (OkOf b ∧ (recOf b).2.2.2.2.length = 0) := fun h => hf h.1.1
    rw [if_neg hp]
    exact ev_neg hf (Ev.now _)
/-! ### Same -/
theorem drop_eq {x y : List Int} {i : Nat} (h : i < x.length) (h' : x.length = y.length) : x.drop i = y.drop i ↔ rd x (i : Int) = rd y (i : Int) ∧ x.drop (i + 1) = y.drop (i + 1) := by
  rw [drop_rd (l := x) h, drop_rd (l := y) (i := i) (by omega), List.cons.injEq]
theorem same_l0 (x y : List Int) (hx : x.length = y.length) (hl : x.length ≤ 1000000000) : ∀ (d i : Nat), i + d = x.length → Ev (fun k => aumbryref02_Same.l0 k x y (i : Int)) (decide (x.drop i = y.drop i))
  | 0, i, hi => by
    refine Ev.step (fun k => by rw [aumbryref02_Same.l0]) (ev_neg (by omega) (ev_eq (Ev.now _) ?_))
    rw [List.drop_of_length_le (by omega), List.drop_of_length_le (by omega)]
    simp
  | d + 1, i, hi => by
    refine Ev.step (fun k => by rw [aumbryref02_Same.l0]) (ev_pos (by omega) (ev_pos (by omega) (ev_pos (by omega) ?_)))
    have hd := drop_eq (show i < x.length by omega) hx
    by_cases h : rd x (i : Int) = rd y (i : Int)
    · refine ev_pos h ?_
      rw [wrap_in (by omega) (by omega), show ((i : Int) + 1) = ((i + 1 : Nat) : Int) from by omega]
      refine ev_eq (same_l0 x y hx hl d (i + 1) (by omega)) ?_
      rw [decide_eq_decide, hd]
      exact ⟨fun h2 => ⟨h, h2⟩, fun h2 => h2.2⟩
    · refine ev_neg h (ev_eq (Ev.now _) ?_)
      symm
      rw [decide_eq_false_iff_not, hd]
      exact fun h2 => h h2.1
theorem same (x y : List Int) (hl : x.length ≤ 1000000000) : Ev (fun k => aumbryref02_Same.f k x y) (decide (x = y)) := by
  unfold aumbryref02_Same.f
  by_cases h : x.length = y.length
  · exact ev_pos (by omega) (same_l0 x y h hl x.length 0 (by omega))
  · refine ev_neg (by omega) (ev_eq (Ev.now _) ?_)
    symm
    rw [decide_eq_false_iff_not]
    exact fun h2 => h (by rw [h2])
theorem ints_l0 (x y : List Int) (hx : x.length = y.length) (hl : x.length ≤ 1000000000) : ∀ (d i : Nat), i + d = x.length → Ev (fun k => aumbryref10_Ints.l0 k x y (i : Int)) (decide (x.drop i = y.drop i))
  | 0, i, hi => by
    refine Ev.step (fun k => by rw [aumbryref10_Ints.l0]) (ev_neg (by omega) (ev_eq (Ev.now _) ?_))
    rw [List.drop_of_length_le (by omega), List.drop_of_length_le (by omega)]
    simp
  | d + 1, i, hi => by
    refine Ev.step (fun k => by rw [aumbryref10_Ints.l0]) (ev_pos (by omega) (ev_pos (by omega) (ev_pos (by omega) ?_)))
    have hd := drop_eq (show i < x.length by omega) hx
    by_cases h : rd x (i : Int) = rd y (i : Int)
    · refine ev_pos h ?_
      rw [wrap_in (by omega) (by omega), show ((i : Int) + 1) = ((i + 1 : Nat) : Int) from by omega]
      refine ev_eq (ints_l0 x y hx hl d (i + 1) (by omega)) ?_
      rw [decide_eq_decide, hd]
      exact ⟨fun h2 => ⟨h, h2⟩, fun h2 => h2.2⟩
    · refine ev_neg h (ev_eq (Ev.now _) ?_)
      symm
      rw [decide_eq_false_iff_not, hd]
      exact fun h2 => h h2.1
theorem ints (x y : List Int) (hl : x.length ≤ 1000000000) : Ev (fun k => aumbryref10_Ints.f k x y) (decide (x = y)) := by
  unfold aumbryref10_Ints.f
  by_cases h : x.length = y.length
  · exact ev_pos (by omega) (ints_l0 x y h hl x.length 0 (by omega))
  · refine ev_neg (by omega) (ev_eq (Ev.now _) ?_)
    symm
    rw [decide_eq_false_iff_not]
    exact fun h2 => h (by rw [h2])
theorem str_inj {a b : ByteArray} (h : a.toList = b.toList) : a = b := by
  rw [ByteArray.toList_eq, ByteArray.toList_eq] at h
  obtain ⟨⟨a⟩⟩ := a
  obtain ⟨⟨b⟩⟩ := b
  simp only at h
  rw [h]
def EqR (kd : Int) (key : ByteArray) (len : Int) (st : List Int) (kd' : Int) (key' : ByteArray) (len' : Int) (st' : List Int) : Prop := st = st' ∧ kd = kd' ∧ key.toList = key'.toList ∧ len = len'
instance (kd : Int) (key : ByteArray) (len : Int) (st : List Int) (kd' : Int) (key' : ByteArray) (len' : Int) (st' : List Int) : Decidable (EqR kd key len st kd' key' len' st') := by unfold EqR; infer_instance
theorem rsame (kd : Int) (key : ByteArray) (len : Int) (st : List Int) (kd' : Int) (key' : ByteArray) (len' : Int) (st' : List Int) (hl : st.length ≤ 1000000000) :
    Ev (fun k => aumbryref16_Same.f k kd key len st kd' key' len' st') (decide (EqR kd key len st kd' key' len' st')) := by
  unfold aumbryref16_Same.f
  refine Ev.bind (ints st st' hl) ?_
  have no : ¬ EqR kd key len st kd' key' len' st' → Ev (fun _ => some false) (decide (EqR kd key len st kd' key' len' st')) := fun h => ev_eq (Ev.now _) (decide_eq_false h).symm
  by_cases h1 : st = st'
  · refine ev_pos (decide_eq_true h1) ?_
    by_cases h2 : kd = kd'
    · refine ev_pos h2 ?_
      by_cases h3 : key.toList = key'.toList
      · refine ev_pos h3 (ev_eq (Ev.now _) ?_)
        by_cases h4 : len = len'
        · rw [decide_eq_true (show EqR kd key len st kd' key' len' st' from ⟨h1, h2, h3, h4⟩)]
          exact beq_iff_eq.2 h4
        · rw [decide_eq_false (fun h => h4 h.2.2.2)]
          exact beq_eq_false_iff_ne.2 h4
      · exact ev_neg h3 (no fun h => h3 h.2.2.1)
    · exact ev_neg h2 (no fun h => h2 h.2.1)
  · exact ev_neg (by simpa using h1) (no fun h => h1 h.1)

/-! ### there and back -/
theorem pairsN_pairs (st tail : List Int) (h : ∀ x ∈ st, 0 ≤ x ∧ x < 256) : pairsN st.length (pairs st ++ tail) = st := by
  induction st with
  | nil => rfl
  | cons x l ih =>
    have hx := h x (by simp)
    have e : pairs (x :: l) ++ tail = two x ++ (pairs l ++ tail) := by unfold pairs; rw [List.flatMap_cons, List.append_assoc]
    rw [List.length_cons, pairsN, e, List.take_left' (two_len x), List.drop_left' (two_len x), beN_two hx.1 (by omega), ih (fun y hy => h y (by simp [hy]))]
theorem pairs_pairsN : ∀ (n : Nat) (l : List Int), 2 * n ≤ l.length → Bytes l → pairs (pairsN n l) = l.take (2 * n)
  | 0, l, _, _ => by simp [pairsN, pairs]
  | n + 1, l, hn, hb => by
    have e : pairs (pairsN (n + 1) l) = two (beN (l.take 2)) ++ pairs (pairsN n (l.drop 2)) := by rw [pairsN]; unfold pairs; rw [List.flatMap_cons]
    rw [e, two_beN (by rw [List.length_take]; omega) (bytes_take hb 2), pairs_pairsN n (l.drop 2) (by rw [List.length_drop]; omega) (bytes_drop hb 2)]
    rw [show 2 * (n + 1) = 2 + 2 * n from by omega, List.take_add]
theorem enc_cons (kd : Int) (key : ByteArray) (len : Int) (st tail : List Int) : encL kd key len st ++ tail = (kd % 256) :: ((key.size : Int) % 256) :: (bytesOf key ++ (four len ++ (two st.length ++ (pairs st ++ tail)))) := by
  unfold encL
  simp only [List.append_assoc, List.cons_append, List.nil_append]
theorem rec_enc (kd : Int) (key : ByteArray) (len : Int) (st tail : List Int) (h : Ok kd key len st) : fits (encL kd key len st ++ tail) = true ∧ recOf (encL kd key len st ++ tail) = (kd, key, len, st, tail) := by
  rw [enc_cons]
  have h1 := h.1
  have h2 := h.2.1
  have h3 := h.2.2.1
  have h4 := h.2.2.2.1
  have e1 : kd % 256 = kd := by omega
  have e2 : ((key.size : Int) % 256).toNat = key.size := by omega
  have e3 : ∀ m : List Int, (bytesOf key ++ m).drop key.size = m := fun m => List.drop_left' (bytesOf_length key)
  have e4 : ∀ m : List Int, (bytesOf key ++ m).take key.size = bytesOf key := fun m => List.take_left' (bytesOf_length key)
  have e5 : ∀ m : List Int, (four len ++ m).drop 4 = m := fun m => List.drop_left' (four_len len)
  have e6 : ∀ m : List Int, (four len ++ m).take 4 = four len := fun m => List.take_left' (four_len len)
  have e7 : ∀ m : List Int, (two (st.length : Int) ++ m).take 2 = two st.length := fun m => List.take_left' (two_len _)
  have e8 : ∀ m : List Int, (two (st.length : Int) ++ m).drop 2 = m := fun m => List.drop_left' (two_len _)
  have e9 : ∀ m : List Int, (four len ++ (two (st.length : Int) ++ m)).drop 6 = m := fun m => by rw [show 6 = 4 + 2 from rfl, ← List.drop_drop, e5, e8]
  have e10 : (beN (two (st.length : Int))).toNat = st.length := by rw [beN_two (by omega) (by omega)]; omega
  constructor
  · simp only [fits, e2, e3, e5, e7, e9, e10, Bool.and_eq_true, decide_eq_true_eq, List.length_append, bytesOf_length, four_len, two_len, pairs_len]
    omega
  · simp only [recOf, e1, e2, e3, e4, e5, e6, e7, e9, e10, str_of, beN_four h3.1 (show len < 4294967296 by omega), pairsN_pairs st tail h.2.2.2.2.1]
    rw [List.drop_left' (by rw [pairs_len])]
theorem enc_rec (b : List Int) (hb : Bytes b) (h : OkOf b) : encL (recOf b).1 (recOf b).2.1 (recOf b).2.2.1 (recOf b).2.2.2.1 ++ (recOf b).2.2.2.2 = b := by
  obtain ⟨hf, ho⟩ := h
  rw [enc_cons]
  have h1 := ho.1
  have h2 := ho.2.1
  have h4 := ho.2.2.2.1
  rcases b with _ | ⟨kd, _ | ⟨sz, t⟩⟩
  · simp [fits] at hf
  · simp [fits] at hf
  · simp only [fits, Bool.and_eq_true, decide_eq_true_eq] at hf
    simp only [recOf] at h1 h2 h4 ⊢
    have hkd := hb kd (by simp)
    have hsz := hb sz (by simp)
    have ht : Bytes t := fun x hx => hb x (by simp [hx])
    generalize hu : t.drop sz.toNat = u at *
    have hbu : Bytes u := by rw [← hu]; exact bytes_drop ht _
    have hul : u.length + sz.toNat = t.length := by rw [← hu, List.length_drop]; omega
    have hcnt : 0 ≤ beN ((u.drop 4).take 2) := (beN_lt _ (bytes_take (bytes_drop hbu 4) 2)).1
    have l1 : (t.take sz.toNat).length = sz.toNat := by rw [List.length_take]; omega
    rw [pairsN_length] at h4 ⊢
    rw [str_size, l1] at h2 ⊢
    rw [of_str (bytes_take ht _), pairs_pairsN _ _ hf.2 (bytes_drop hbu 6), List.take_append_drop]
    rw [show ((beN ((u.drop 4).take 2)).toNat : Int) = beN ((u.drop 4).take 2) from by omega]
    rw [two_beN (by rw [List.length_take, List.length_drop]; omega) (bytes_take (bytes_drop hbu 4) 2), four_beN (by rw [List.length_take]; omega) (bytes_take hbu 4)]
    rw [show u.drop 6 = (u.drop 4).drop 2 from by rw [List.drop_drop], List.take_append_drop, List.take_append_drop, ← hu, List.take_append_drop]
    rw [show kd % 256 = kd from by omega, show (sz.toNat : Int) % 256 = sz from by omega]

/-! ### what all statements begin with -/
theorem awake : aumbrylaw16_awake.f = some true := rfl
theorem few (kd : Int) (key : ByteArray) (len : Int) (st : List Int) : aumbrylaw16_few.f kd key len st = some (decide (key.size ≤ 300 ∧ st.length ≤ 300)) := by
  unfold aumbrylaw16_few.f
  by_cases h : (key.size : Int) ≤ 300
  · rw [if_pos h]
    congr 1
    rw [decide_eq_decide]
    omega
  · rw [if_neg h]
    congr 1
    symm
    rw [decide_eq_false_iff_not]
    omega
theorem bytes_of {l : List Int} (h : ∀ x ∈ l, (Lit.int .u8 x).wf = true) : Bytes l := by
  intro x hx
  have := h x hx
  simp [Lit.wf, IntKind.min, IntKind.max, IntKind.signed, IntKind.bits] at this
  exact this
end Go.Proofs.Ytoeegdpkmdgkdaa.RecB
