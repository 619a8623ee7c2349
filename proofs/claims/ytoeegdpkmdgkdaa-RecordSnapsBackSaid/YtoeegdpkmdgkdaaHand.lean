-- Small laws of this session's own, beside the print's words (record seat).
import Derived.Test.YtoeegdpkmdgkdaaKeep
import Derived.Lib.AppendStr
import Derived.WalkLawsBesides
import Derived.Recover
import Derived.Lib.ConvBytes
namespace Go.Proofs.YtoeegdpkmdgkdaaW.PrintMore
open Go Go.RowKit Go.Proofs.YtoeegdpkmdgkdaaW.PrintWords
variable {P : Program} {ops : Array Oper} {rest : List Oper} {o : Oper} {a : Act} {Q : Exit → Act → World → Prop}
/-- A string's bytes appended to an owned row: and where the row lies then. -/
theorem hand_append_str_at {w : World} (base : Nat) (t u ty e : TypeId) (i : TypeInfo) (ht : P.underlying t = some (.slice e)) (hu : P.underlying u = some .string) (hi : P.info? e = some i) (hz : i.zero = some (.int .u8 0))
    (hsize : i.size = 1) (hby : i.bytes = 1) (v : Value) (n : Nat) (xs : List Value) (hown : w.ownsRow base e 1 v n xs) (s : ByteArray) (hbytes : n + s.size ≤ 140737488355328) (hbase : base ≤ w.heap.size) :
    ∃ v' w', (Builtin.append_ #[t, u] ty #[v, .string s]).run P w = .ok v' w' ∧ w'.ownsRow base e 1 v' (n + s.size) (xs ++ Lib.strCells s) ∧ w.grownBy w' v.ownBlock ∧ (v'.ownBlock = v.ownBlock ∨ ∃ b, v'.ownBlock = some b ∧ w.heap.size ≤ b) := by
  have h63 : n + s.size ≤ maxLen := by simp only [maxLen]; omega
  obtain ⟨v', w', hr, ho, hg, _⟩ := Lib.run_append_own_string (P := P) w base t u ty e i ht hu hi hz hsize hby v n xs hown s h63 hbytes hbase
  refine ⟨v', w', hr, ho, hg, ?_⟩
  rcases hown.2 with ⟨hv, hn⟩ | ⟨g, cap, cur, hv, hbg, hgc, hnc, hcm, hcs, htake⟩
  · have hown2 : w.ownsRow w.heap.size e 1 v n xs := ⟨hown.1, .inl ⟨hv, hn⟩⟩
    obtain ⟨v2, w2, hr2, ho2, _, _⟩ := Lib.run_append_own_string (P := P) w w.heap.size t u ty e i ht hu hi hz hsize hby v n xs hown2 s h63 hbytes (Nat.le_refl _)
    rw [hr] at hr2
    injection hr2 with e1 e2
    subst e1
    rcases ho2.2 with ⟨hv2, _⟩ | ⟨g2, c2, _, hv2, hb2, _⟩
    · exact .inl (by rw [hv2, hv])
    · exact .inr ⟨g2, by rw [hv2]; simp [Value.ownBlock], hb2⟩
  · subst hv
    have hcs' : cur.size = cap := by simpa using hcs
    by_cases hroom : n + s.size ≤ cap
    · have hr2 := Lib.run_append_room_string (P := P) w t u ty e i ht hu hi hsize g n cap cur hgc s hroom (by omega)
      rw [hr] at hr2
      injection hr2 with e1 e2
      exact .inl (by rw [e1]; simp [Value.ownBlock])
    · have hxl : xs.length = n := by simpa using hown.1
      have holds : ∀ j u, xs[j]? = some u → w.cell? ((⟨g, 0, none⟩ : Addr).add j) = some u := hown.cells (g := g) rfl
      have hr2 := Lib.run_append_grow_string (P := P) w t u ty e i (.int .u8 0) ht hu hi hz ⟨g, 0, none⟩ n cap xs (by rw [hsize]; simpa using hxl) holds s (by omega) (by omega) (by rw [hby]; exact growslice_fits (by omega) (by omega))
      rw [hr] at hr2
      injection hr2 with e1 e2
      exact .inr ⟨w.heap.size, by rw [e1]; simp [Value.ownBlock], Nat.le_refl _⟩
theorem hand_append_str {w0 W : World} (base : Nat) (hgd : o.guard = none) (s x : Operand) (t u e : TypeId)
    (ho : o.op = .call { callee := .builtin .append, args := #[s, x], argTypes := #[t, u] })
    (ht : P.underlying t = some (.slice e)) (hu : P.underlying u = some .string) (hinfo : (P.info? e).map (fun i => (i.zero, i.size, i.bytes)) = some (some (.int .u8 0), 1, 1))
    (v : Value) (xs : List Int) (y : ByteArray) (ok : Nat → Prop) (hs : a.eval s = v) (hx : a.eval x = .string y) (hfresh : ∀ k, W.heap.size ≤ k → ok k)
    (HO : Kd.R (Kd.int .u8) e W base ok v xs) (HB : Below base w0 W) (hbase : base ≤ W.heap.size) (hl : xs.length + y.size ≤ 140737488355328)
    (h : ∀ v1 w1, Kd.R (Kd.int .u8) e w1 base ok v1 (xs ++ bytesOf y) → Below base w0 w1 → W.grownBy w1 v.ownBlock → (v1.ownBlock = v.ownBlock ∨ ∃ b, v1.ownBlock = some b ∧ W.heap.size ≤ b) → wpList P ops Q rest (a.put o.dst v1) w1) :
    wpList P ops Q (o :: rest) a W := by
  obtain ⟨i0, hi, hzz⟩ := Option.map_eq_some_iff.1 hinfo
  simp only [Prod.mk.injEq] at hzz
  obtain ⟨hz0, hz1, hz2⟩ := hzz
  have HO2 : W.ownsRow base e 1 v xs.length (nums .u8 xs) := Kd.own_of_R HO
  obtain ⟨v1, w1, hr, hown, hg, hat⟩ := hand_append_str_at (P := P) base t u o.type e i0 ht hu hi hz0 hz1 hz2 v xs.length (nums .u8 xs) HO2 y hl hbase
  refine Kd.event_run hgd (v := v1) (w1 := w1) ?_ ?_
  · unfold execOp
    simp only [ho, resolve, invoke, builtin, Sem.run_bind, Sem.run_pure, Result.andThen_ok, List.map_toArray, List.map_cons, List.map_nil, hs, hx, hr]
  · have hl2 : (xs ++ bytesOf y).length = xs.length + y.size := by rw [List.length_append, bytesOf_length]
    have hc : nums .u8 (xs ++ bytesOf y) = nums .u8 xs ++ Lib.strCells y := by
      rw [nums_append]
      congr 1
      simp [nums, bytesOf, Lib.strCells]
    refine h v1 w1 (Kd.R_of_own (h1 := fun _ => rfl) (by show w1.ownsRow base e 1 v1 (xs ++ bytesOf y).length (nums .u8 (xs ++ bytesOf y)); rw [hl2, hc]; exact hown) (fun k hk => ?_)) (HB.grown hg hbase (own_base HO2)) hg hat
    rcases hat with e1 | ⟨b, e1, hbb⟩
    · exact HO.1 k (by rw [← e1]; exact hk)
    · rw [e1] at hk
      injection hk with hk
      subst hk
      exact hfresh _ hbb
theorem bytesWorld_below (w : World) (e : TypeId) (s : ByteArray) : Below w.heap.size w (Lib.bytesWorld w e s) where
  os := by simp [Lib.bytesWorld, World.freeze, World.alloc, World.drew, -World.alloc_eq, -World.drew_eq]
  tape := by simp [Lib.bytesWorld, World.freeze, World.alloc, World.drew, -World.alloc_eq, -World.drew_eq]
  output := by simp [Lib.bytesWorld, World.freeze, World.alloc, World.drew, -World.alloc_eq, -World.drew_eq]
  size := by rw [Lib.bytesWorld_size]; omega
  block := fun i hi => Lib.bytesWorld_at_old w e s i hi
theorem bytesWorld_C (w : World) (e : TypeId) (s : ByteArray) (hs : s.size ≤ 140737488355328) : (Kd.int .u8).C (Lib.bytesWorld w e s) (some ⟨w.heap.size, 0, none⟩) s.size (bytesOf s) := by
  have hl : (bytesOf s).length = s.size := bytesOf_length s
  refine Kd.C_of_reads (d := 0) ⟨hl, by omega, fun _ => ⟨_, rfl, fun j hj => ?_⟩⟩
  rw [add_plain]
  have hj2 : j < s.size := by omega
  have := Lib.bytesWorld_cell w e s j hj2
  rw [this]
  have h3 : j < s.data.size := hj2
  have h4 : s.data[j]? = some s.data[j] := Array.getElem?_eq_getElem h3
  simp [bytesOf, List.getD, h4]
/-- '[]byte(s)' and the append of what it gives, one behind the other. -/
theorem hand_append_conv {w0 W : World} {o2 : Oper} (base : Nat) (hgd : o.guard = none) (hgd2 : o2.guard = none) (s x : Operand) (t u e : TypeId) (N : Tmp)
    (hop : o.op = .convert u t x) (hN : o.dst = some N) (ho : o2.op = .call { callee := .builtin .append, args := #[s, .tmp N], argTypes := #[t, t] })
    (ht : P.underlying t = some (.slice e)) (hu : P.underlying u = some .string) (he : P.underlying e = some (.int .u8)) (hinfo : (P.info? e).map (fun i => (i.zero, i.size, i.bytes)) = some (some (.int .u8 0), 1, 1))
    (v : Value) (xs : List Int) (y : ByteArray) (ok : Nat → Prop) (hx : a.eval x = .string y) (hs : ∀ c, (a.put (some N) c).eval s = v) (hx2 : ∀ c, (a.put (some N) c).eval (.tmp N) = c) (hfresh : ∀ k, W.heap.size ≤ k → ok k)
    (HO : Kd.R (Kd.int .u8) e W base ok v xs) (HB : Below base w0 W) (hbase : base ≤ W.heap.size) (hl : xs.length + y.size ≤ 140737488355328)
    (h : ∀ v0 v1 w1, Kd.R (Kd.int .u8) e w1 base ok v1 (xs ++ bytesOf y) → Below base w0 w1 → W.grownBy w1 v.ownBlock → (v1.ownBlock = v.ownBlock ∨ ∃ b, v1.ownBlock = some b ∧ W.heap.size ≤ b) → wpList P ops Q rest ((a.put (some N) v0).put o2.dst v1) w1) :
    wpList P ops Q (o :: o2 :: rest) a W := by
  have hb1 := bytesWorld_below W e y
  have hHO1 : Kd.R (Kd.int .u8) e (Lib.bytesWorld W e y) base ok v xs := Kd.R_below HO hb1
  refine Kd.event_run hgd (v := .slice (some ⟨W.heap.size, 0, none⟩) y.size (grownCap W y.size 0 e)) (w1 := Lib.bytesWorld W e y) ?_ ?_
  · unfold execOp
    simp only [hop, hx]
    have := Lib.run_convert_string_bytes (P := P) W u t e y hu ht he
    simp [this, Result.andThen]
  rw [hN]
  refine Kd.R_append_row (w0 := w0) (W := Lib.bytesWorld W e y) (Value.int .u8) 0 (h1 := fun _ => rfl) base hgd2 s (.tmp N) t e (.int .u8 0) 1 ho ht hinfo rfl (by omega) v xs (bytesOf y) (some ⟨W.heap.size, 0, none⟩) y.size (grownCap W y.size 0 e) ok (hs _) (hx2 _) (fun k hk => hfresh k (Nat.le_trans hb1.size hk)) hHO1 (bytesWorld_C W e y (by omega)) (HB.trans ⟨hb1.os, hb1.tape, hb1.output, hb1.size, fun i hi => hb1.block i (Nat.lt_of_lt_of_le hi hbase)⟩) (Nat.le_trans hbase hb1.size) (by omega) ?_
  intro v1 w1 h1 h2 h3 h4
  refine h _ v1 w1 h1 h2 ⟨h3.os.trans hb1.os, h3.tape.trans hb1.tape, h3.output.trans hb1.output, Nat.le_trans hb1.size h3.size, fun k hk hne => (h3.block k (Nat.lt_of_lt_of_le hk hb1.size) hne).trans (hb1.block k hk)⟩ ?_
  rcases h4 with h4 | ⟨b, hb, hbb⟩
  · exact .inl h4
  · exact .inr ⟨b, hb, Nat.le_trans hb1.size hbb⟩
/-- 'x[:j:j]'. -/
theorem hand_cut_to3 (t e : TypeId) (kh : IntKind) {i : TypeInfo} (ht : P.underlying t = some (.slice e)) (hi : P.info? e = some i) (A : Option Addr) (n c : Nat) (j : Int) (h0 : 0 ≤ j) (hm : j ≤ n) (hc : n ≤ c) :
    ∀ W : World, (Instr.slice t (.slice A n c) none (some (.int kh j)) (some (.int kh j))).run P W = .ok (.slice A j.toNat j.toNat) W := by
  intro W
  have hel : P.elem t = e := by simp [Program.elem, ht]
  have hu : P.underlying t = some (.slice (P.elem t)) := by rw [hel]; exact ht
  have ha : (A.map fun x => x.add 0) = A := by cases A <;> simp [Addr.add]
  rw [run_slice_hm W t A n c hu kh kh j j h0 (by omega) (by omega), hel]
  simp [sizeOf, typeInfo, hi, sliced, Result.andThen, ha]
section

def failed : List PanicEntry := [{ v := .iface 28 (.int .i64 160), recovered := false }]
theorem grown_cell (w : World) (g o : Nat) (v : Value) : w.grownBy (w.setCell ⟨g, o, none⟩ v) (some g) := by
  refine ⟨rfl, rfl, rfl, by simp [World.setCell], fun k hk hne => ?_⟩
  have : g ≠ k := fun e => hne (by rw [e])
  simp [World.setCell, Array.getElem?_modify, this]
/-- What stands while bytes are read: the variable that holds what is left, and the bytes, as they lay at an earlier world. -/
structure RdAt (S : World → Prop) (w0 w : World) (g : Nat) (l : List Int) (A : Option Addr) (c : Nat) : Prop where
  grown : w0.grownBy w (some g)
  ltg : g < w0.heap.size
  cell : w.heap[g]? = some (.cells #[.slice A l.length c] 55 (0, 0))
  room : l.length ≤ c
  row : ∀ W, S W → (Kd.int .u8).C W A l.length l
  imp : ∀ W, w0.grownBy W (some g) → S W
theorem RdAt.keep {S : World → Prop} {w0 w W : World} {g : Nat} {l : List Int} {A : Option Addr} {c : Nat} (h : RdAt S w0 w g l A c) (hg : w0.grownBy W (some g)) (hc : W.heap[g]? = w.heap[g]?) : RdAt S w0 W g l A c := ⟨hg, h.ltg, by rw [hc]; exact h.cell, h.room, h.row, h.imp⟩
theorem RdAt.lt {S : World → Prop} {w0 w : World} {g : Nat} {l : List Int} {A : Option Addr} {c : Nat} (h : RdAt S w0 w g l A c) : g < w.heap.size := (Array.getElem?_eq_some_iff.1 h.cell).1
theorem RdAt.below {S : World → Prop} {w0 w W : World} {g : Nat} {l : List Int} {A : Option Addr} {c : Nat} (h : RdAt S w0 w g l A c) (hb : Below w.heap.size w W) : RdAt S w0 W g l A c :=
  h.keep (h.grown.trans ⟨hb.os, hb.tape, hb.output, hb.size, fun k hk _ => hb.block k hk⟩) (hb.block g h.lt)
theorem grown_below {w W : World} (hb : Below w.heap.size w W) (r : Option Nat) : w.grownBy W r := ⟨hb.os, hb.tape, hb.output, hb.size, fun k hk _ => hb.block k hk⟩
/-- A number's bytes, the greatest first. -/
def beN (l : List Int) : Int := l.foldl (fun n x => n * 256 + x) 0
theorem beN_snoc (l : List Int) (x : Int) : beN (l ++ [x]) = beN l * 256 + x := by simp [beN]
theorem beN_aux : ∀ (l : List Int) (n : Int) (B : Int), 0 ≤ n → n < B → (∀ x ∈ l, 0 ≤ x ∧ x ≤ 255) → 0 ≤ l.foldl (fun n x => n * 256 + x) n ∧ l.foldl (fun n x => n * 256 + x) n < B * 256 ^ l.length
  | [], n, B, h0, h1, _ => by simpa using ⟨h0, h1⟩
  | y :: l, n, B, h0, h1, h => by
    have hy := h y (by simp)
    have := beN_aux l (n * 256 + y) (B * 256) (by omega) (by omega) (fun z hz => h z (by simp [hz]))
    refine ⟨this.1, ?_⟩
    have e : B * 256 * 256 ^ l.length = B * 256 ^ (l.length + 1) := by rw [Int.pow_succ, Int.mul_assoc, Int.mul_comm 256]
    rw [e] at this
    exact this.2
theorem beN_lt (l : List Int) (h : ∀ x ∈ l, 0 ≤ x ∧ x ≤ 255) : 0 ≤ beN l ∧ beN l < 256 ^ l.length := by
  have := beN_aux l 0 1 (by omega) (by omega) h
  rw [Int.one_mul] at this
  exact this
theorem or_byte (N X : Int) (h0 : 0 ≤ N) (h1 : N < 4294967296) (hx0 : 0 ≤ X) (hx1 : X ≤ 255) : bits .or .i64 (wrap64 (N * 256)) (wrap64 X) = N * 256 + X := by
  have e1 : wrap64 (N * 256) = N * 256 := by unfold wrap64; omega
  have e2 : wrap64 X = X := by unfold wrap64; omega
  rw [e1, e2]
  exact bits_join .i64 63 (by decide) (fun n h0 h1 => by rw [IntKind.wrap_i64]; omega) 8 (N * 256) X (by omega) (by omega) (by omega) (by omega) (by omega) (by omega)
theorem byte_at {ys : List Int} (h : ∀ x ∈ ys, 0 ≤ x ∧ x ≤ 255) {i : Nat} (hi : i < ys.length) : 0 ≤ rd ys (i : Int) ∧ rd ys (i : Int) ≤ 255 := by
  have : rd ys (i : Int) = ys[i] := by simp [rd, hi]
  rw [this]
  exact h _ (List.getElem_mem hi)
theorem take_succ_rd {ys : List Int} {i : Nat} (hi : i < ys.length) : ys.take (i + 1) = ys.take i ++ [rd ys (i : Int)] := by
  have : rd ys (i : Int) = ys[i] := by simp [rd, hi]
  rw [this, List.take_succ_eq_append_getElem hi]
theorem beN_take_lt {ys : List Int} (h : ∀ x ∈ ys, 0 ≤ x ∧ x ≤ 255) (i : Nat) (hi : i ≤ 4) : 0 ≤ beN (ys.take i) ∧ beN (ys.take i) < 4294967296 := by
  have h1 := beN_lt (ys.take i) (fun x hx => h x (List.mem_of_mem_take hx))
  have h2 : (ys.take i).length ≤ 4 := by rw [List.length_take]; omega
  have h3 : (256 : Int) ^ (ys.take i).length ≤ 256 ^ 4 := by
    generalize (ys.take i).length = z at h2 ⊢
    rcases z with _ | _ | _ | _ | _ | z
    all_goals first | decide | omega
  omega
/-- One number more for a record's row of stripes. -/
def pairsN : Nat → List Int → List Int
  | 0, _ => []
  | n + 1, l => beN (l.take 2) :: pairsN n (l.drop 2)
theorem pairsN_succ : ∀ (n : Nat) (l : List Int), pairsN (n + 1) l = pairsN n l ++ [beN ((l.drop (2 * n)).take 2)]
  | 0, l => by simp [pairsN]
  | n + 1, l => by
    rw [pairsN, pairsN_succ n (l.drop 2), List.drop_drop, pairsN, show 2 + 2 * n = 2 * (n + 1) from by omega]
    rfl
theorem pairsN_length : ∀ (n : Nat) (l : List Int), (pairsN n l).length = n
  | 0, _ => rfl
  | n + 1, l => by simp [pairsN, pairsN_length n]
def zero25 : Obj := .cells #[.int .i64 0, .string ⟨#[]⟩, .int .i64 0, .slice none 0 0] 25 (0, 0)
/-- What stands while a record is read. -/
structure Rec (S : World → Prop) (w0 w W : World) (g b2 b3 : Nat) (kd : Int) (key : ByteArray) (len : Int) (v : Value) (st : List Int) (l : List Int) : Prop where
  le0 : w0.heap.size ≤ w.heap.size
  grown : w.grownBy W (some g)
  out : W.heap[b3]? = some (.cells #[.int .i64 kd, .string key, .int .i64 len, v] 25 (0, 0))
  res : W.heap[b2]? = some zero25
  ge2 : w.heap.size ≤ b2
  ge3 : w.heap.size ≤ b3
  ne : b2 ≠ b3
  own : Kd.R (Kd.int .i64) 3 W w.heap.size (fun _ => True) v st
  rd : ∃ A c, RdAt S w0 W g l A c
variable {S : World → Prop} {w0 w W W' : World} {g b2 b3 : Nat} {kd : Int} {key : ByteArray} {len : Int} {v : Value} {st l l' : List Int}
theorem Rec.ltg (h : Rec S w0 w W g b2 b3 kd key len v st l) : g < w0.heap.size := by
  obtain ⟨A, c, hr⟩ := h.rd
  exact hr.ltg
theorem Rec.read (h : Rec S w0 w W g b2 b3 kd key len v st l) (hg : W.grownBy W' (some g)) (hr : ∃ A c, RdAt S w0 W' g l' A c) : Rec S w0 w W' g b2 b3 kd key len v st l' where
  le0 := h.le0
  grown := h.grown.trans hg
  out := by
    have h1 := h.ge3
    have h2 := h.ltg
    have h3 := h.le0
    rw [hg.block b3 (Array.getElem?_eq_some_iff.1 h.out).1 (by simp; omega)]
    exact h.out
  res := by
    have h1 := h.ge2
    have h2 := h.ltg
    have h3 := h.le0
    rw [hg.block b2 (Array.getElem?_eq_some_iff.1 h.res).1 (by simp; omega)]
    exact h.res
  ge2 := h.ge2
  ge3 := h.ge3
  ne := h.ne
  own := by
    have h2 := h.ltg
    have h4 := h.le0
    refine Kd.R_grown2 h.own rfl hg (fun k hk e => ?_)
    have h3 := Kd.R_base h.own k e.symm
    simp at hk
    omega
  rd := hr
theorem Rec.cells (h : Rec S w0 w W g b2 b3 kd key len v st l) :
    W.cell? ⟨b3, 0, none⟩ = some (.int .i64 kd) ∧ W.cell? ⟨b3, 1, none⟩ = some (.string key) ∧ W.cell? ⟨b3, 2, none⟩ = some (.int .i64 len) ∧ W.cell? ⟨b3, 3, none⟩ = some v := by
  simp [World.cell?, h.out]
theorem Rec.free (h : Rec S w0 w W g b2 b3 kd key len v st l) (j : Nat) :
    W.frozen? ⟨b3, j, none⟩ = false := by
  simp [World.frozen?, h.out]
/-- A field of the record is stored. -/
theorem Rec.store (h : Rec S w0 w W g b2 b3 kd key len v st l) (j : Nat) (u : Value) (key' : ByteArray) (len' : Int) (v' : Value)
    (hj : [.int .i64 kd, .string key, .int .i64 len, v].set j u = [.int .i64 kd, .string key', .int .i64 len', v']) (st' : List Int) (ho : Kd.R (Kd.int .i64) 3 W w.heap.size (fun _ => True) v' st') : Rec S w0 w (W.setCell ⟨b3, j, none⟩ u) g b2 b3 kd key' len' v' st' l where
  le0 := h.le0
  grown := by
    have h1 := h.ge3
    have hgr := grown_cell W b3 j u
    exact ⟨h.grown.os, h.grown.tape, h.grown.output, Nat.le_trans h.grown.size hgr.size, fun k hk hne => by rw [hgr.block k (Nat.lt_of_lt_of_le hk h.grown.size) (by simp; omega)]; exact h.grown.block k hk hne⟩
  out := by
    simp [World.setCell, Array.getElem?_modify, h.out]
    exact hj
  res := by
    have := (grown_cell W b3 j u).block b2 (Array.getElem?_eq_some_iff.1 h.res).1 (by have := h.ne; simp; omega)
    rw [this]
    exact h.res
  ge2 := h.ge2
  ge3 := h.ge3
  ne := h.ne
  own := Kd.R_grown2 ho rfl (grown_cell W b3 j u) (fun k hk e => by
    cases hk
    exact Kd.R_ne ho h.out (by decide) e)
  rd := by
    obtain ⟨A, c, hr⟩ := h.rd
    have h1 := h.ge3
    have h2 := h.ltg
    have h3 := h.le0
    have hgr := grown_cell W b3 j u
    refine ⟨A, c, hr.keep ⟨hr.grown.os, hr.grown.tape, hr.grown.output, Nat.le_trans hr.grown.size hgr.size, fun k hk hne => by rw [hgr.block k (Nat.lt_of_lt_of_le hk hr.grown.size) (by simp; omega)]; exact hr.grown.block k hk hne⟩ (hgr.block g hr.lt (by simp; omega))⟩
/-- New things are made. -/
theorem Rec.below (h : Rec S w0 w W g b2 b3 kd key len v st l) (hb : Below W.heap.size W W') : Rec S w0 w W' g b2 b3 kd key len v st l := by
  obtain ⟨A, c, hr⟩ := h.rd
  exact h.read (grown_below hb _) ⟨A, c, hr.below hb⟩
/-- A stripe more: the row grows, and lies in the record's variable. -/
theorem Rec.over (h : Rec S w0 w W g b2 b3 kd key len v st l) (hg : W.grownBy W' v.ownBlock) (v' : Value) (st' : List Int) (ho : Kd.R (Kd.int .i64) 3 W' w.heap.size (fun _ => True) v' st') : W'.heap[b3]? = W.heap[b3]? ∧ Rec S w0 w (W'.setCell ⟨b3, 3, none⟩ v') g b2 b3 kd key len v' st' l := by
  have h1 := h.ge3
  have h2 := h.ltg
  have h3 := h.le0
  have hlt3 := (Array.getElem?_eq_some_iff.1 h.out).1
  have hlt2 := (Array.getElem?_eq_some_iff.1 h.res).1
  have e3 : W'.heap[b3]? = W.heap[b3]? := hg.block b3 hlt3 (Kd.R_ne h.own h.out (by decide))
  have e2 : W'.heap[b2]? = W.heap[b2]? := hg.block b2 hlt2 (Kd.R_ne h.own h.res (by decide))
  have hgr := grown_cell W' b3 3 v'
  have hold : ∀ k, k < w.heap.size → W'.heap[k]? = W.heap[k]? := fun k hk => hg.block k (Nat.lt_of_lt_of_le hk h.grown.size) (fun e => by have := Kd.R_base h.own k e.symm; omega)
  have hmid : ∀ k, k < w.heap.size → (W'.setCell ⟨b3, 3, none⟩ v').heap[k]? = W.heap[k]? := fun k hk => by
    rw [hgr.block k (Nat.lt_of_lt_of_le hk (Nat.le_trans h.grown.size hg.size)) (by simp; omega)]
    exact hold k hk
  refine ⟨e3, h.le0, ⟨hg.os.trans h.grown.os, hg.tape.trans h.grown.tape, hg.output.trans h.grown.output, Nat.le_trans h.grown.size (Nat.le_trans hg.size hgr.size), fun k hk hne => (hmid k hk).trans (h.grown.block k hk hne)⟩, ?_, ?_, h.ge2, h.ge3, h.ne, ?_, ?_⟩
  · have := h.out
    rw [← e3] at this
    simp [World.setCell, Array.getElem?_modify, this]
  · rw [hgr.block b2 (Nat.lt_of_lt_of_le hlt2 hg.size) (by have := h.ne; simp; omega), e2]
    exact h.res
  · have ho3 := h.out
    rw [← e3] at ho3
    exact Kd.R_grown2 ho rfl hgr (fun k hk e => by
      cases hk
      exact Kd.R_ne ho ho3 (by decide) e)
  · obtain ⟨A, c, hr⟩ := h.rd
    exact ⟨A, c, hr.keep ⟨hg.os.trans hr.grown.os, hg.tape.trans hr.grown.tape, hg.output.trans hr.grown.output, Nat.le_trans hr.grown.size (Nat.le_trans hg.size hgr.size), fun k hk hne => (hmid k (Nat.lt_of_lt_of_le hk h3)).trans (hr.grown.block k hk hne)⟩ (hmid g (by omega))⟩
/-- The record is handed back: only the result's variable turns. -/
theorem Rec.fin (h : Rec S w0 w W g b2 b3 kd key len v st l) (hg : W.grownBy W' (some b2)) : w.grownBy W' (some g) ∧ Kd.R (Kd.int .i64) 3 W' w.heap.size (fun _ => True) v st ∧ ∃ A c, RdAt S w0 W' g l A c := by
  have h1 := h.ge2
  have h2 := h.ltg
  have h3 := h.le0
  have hmid : ∀ k, k < w.heap.size → W'.heap[k]? = W.heap[k]? := fun k hk => hg.block k (Nat.lt_of_lt_of_le hk h.grown.size) (by simp; omega)
  refine ⟨⟨hg.os.trans h.grown.os, hg.tape.trans h.grown.tape, hg.output.trans h.grown.output, Nat.le_trans h.grown.size hg.size, fun k hk hne => (hmid k hk).trans (h.grown.block k hk hne)⟩, Kd.R_grown2 h.own rfl hg (fun k hk e => by cases hk; exact Kd.R_ne h.own h.res (by decide) e), ?_⟩
  obtain ⟨A, c, hr⟩ := h.rd
  exact ⟨A, c, hr.keep ⟨hg.os.trans hr.grown.os, hg.tape.trans hr.grown.tape, hg.output.trans hr.grown.output, Nat.le_trans hr.grown.size hg.size, fun k hk hne => (hmid k (Nat.lt_of_lt_of_le hk h3)).trans (hr.grown.block k hk hne)⟩ (hmid g (by omega))⟩
theorem four_cells (W : World) (b : Nat) (x y z u x0 y0 z0 u0 : Value) (h : W.heap[b]? = some (.cells #[x0, y0, z0, u0] 25 (0, 0))) :
    ((((W.setCell ⟨b, 0, none⟩ x).setCell ⟨b, 1, none⟩ y).setCell ⟨b, 2, none⟩ z).setCell ⟨b, 3, none⟩ u).heap[b]? = some (.cells #[x, y, z, u] 25 (0, 0)) := by
  simp [World.setCell, Array.getElem?_modify, h]
/-- A record's variable is made. -/
theorem Rec.made {W2 : World} (hle : w0.heap.size ≤ w.heap.size) (h1 : w.grownBy W2 (some g)) (h2 : W2.heap[b2]? = some zero25) (h3 : w.heap.size ≤ b2) (hr : ∃ A c, RdAt S w0 W2 g l A c) (kd : Int) :
    Rec S w0 w (W2.alloc (.cells #[.int .i64 kd, .string ⟨#[]⟩, .int .i64 0, .slice none 0 0] 25)) g b2 W2.heap.size kd ⟨#[]⟩ 0 (.slice none 0 0) [] l := by
  have hb : Below W2.heap.size W2 (W2.alloc (.cells #[.int .i64 kd, .string ⟨#[]⟩, .int .i64 0, .slice none 0 0] 25)) := below_alloc (Below.refl _ _) _
  obtain ⟨A, c, hr⟩ := hr
  refine ⟨hle, h1.trans (grown_below hb _), heap_alloc_new _ _, ?_, h3, h1.size, ?_, Kd.R_nil _ _ _ _ _, ⟨A, c, hr.below hb⟩⟩
  · rw [heap_alloc_old _ _ (Array.getElem?_eq_some_iff.1 h2).1]
    exact h2
  · have := (Array.getElem?_eq_some_iff.1 h2).1
    omega
/-- Do bytes begin with a record's form. -/
def fits : List Int → Bool
  | _ :: sz :: t => decide (sz.toNat + 6 ≤ t.length) && decide (2 * (beN (((t.drop sz.toNat).drop 4).take 2)).toNat ≤ ((t.drop sz.toNat).drop 6).length)
  | _ => false
theorem below_cell {B : Nat} (w : World) (g o : Nat) (v : Value) (h : B ≤ g) : Below B w (w.setCell ⟨g, o, none⟩ v) := by
  have := grown_cell w g o v
  refine ⟨rfl, rfl, rfl, this.size, fun k hk => ?_⟩
  have hne : g ≠ k := by omega
  simp [World.setCell, Array.getElem?_modify, hne]
def okB (l : List Int) : Bool := l.all fun x => decide (0 ≤ x) && decide (x ≤ 255)
theorem okB_iff {l : List Int} (h : okB l = true) : ∀ x ∈ l, 0 ≤ x ∧ x ≤ 255 := by
  intro x hx
  have := List.all_eq_true.1 h x hx
  simpa using this
def recOf : List Int → Int × ByteArray × Int × List Int × List Int
  | kd :: sz :: t => (kd, strOfNums (t.take sz.toNat), beN ((t.drop sz.toNat).take 4), pairsN (beN (((t.drop sz.toNat).drop 4).take 2)).toNat ((t.drop sz.toNat).drop 6), ((t.drop sz.toNat).drop 6).drop (2 * (beN (((t.drop sz.toNat).drop 4).take 2)).toNat))
  | _ => (0, ⟨#[]⟩, 0, [], [])
end
end Go.Proofs.YtoeegdpkmdgkdaaW.PrintMore
