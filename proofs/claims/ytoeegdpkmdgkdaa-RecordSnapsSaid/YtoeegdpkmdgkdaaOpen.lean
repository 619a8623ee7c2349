/- Every argument that reads as data is made of values of its kind (whole numbers in their range, strings, rows, structs): what a law's row needs to come from its reading to the printed contract. No condition beside the reading. -/
import Derived.Test.YtoeegdpkmdgkdaaKeep
import Derived.Deep.Fields
import Derived.ChangeSame
namespace Go.Proofs.Ytoeegdpkmdgkdaa.Open
open Go.ChangeShapes Go.WideShapes Go.Deep Go.Proofs.YtoeegdpkmdgkdaaW.PrintWords
section
variable {H : Type} {P : Program} {w : World} {base : Nat} {spare : Nat → Bool} {held : Bool} {α : Type}
def Opens (enc : TypeId × Value → H) (P : Program) (w : World) (base : Nat) (spare : Nat → Bool) (held : Bool) (t : TypeId) (d : Kd α) (ok : α → Prop) : Prop :=
  ∀ fuel cs x, DataW.trod enc P w base spare held fuel t cs = some x → ∃ a, d.K w a cs ∧ ok a
variable {enc : TypeId × Value → H}
theorem opens_int {t : TypeId} {k : IntKind} (ht : P.underlying t = some (.int k)) : Opens enc P w base spare held t (Kd.int k) (fun n => (Lit.int k n).wf = true) := by
  intro fuel cs x h
  obtain ⟨n, rfl, _, hw⟩ := DataW.trod_int ht h
  exact ⟨n, rfl, hw⟩
theorem opens_bool {t : TypeId} (ht : P.underlying t = some .bool) : Opens enc P w base spare held t Kd.bool (fun _ => True) := by
  intro fuel cs x h
  obtain ⟨n, rfl, _⟩ := DataW.trod_bool ht h
  exact ⟨n, rfl, trivial⟩
theorem opens_string {t : TypeId} (ht : P.underlying t = some .string) : Opens enc P w base spare held t Kd.string (fun s => s.size ≤ maxLen) := by
  intro fuel cs x h
  obtain ⟨n, rfl, _, hm⟩ := DataW.trod_string ht h
  exact ⟨n, rfl, hm⟩
theorem opens_slice {t e : TypeId} {d : Kd α} {ok : α → Prop} (ht : P.underlying t = some (.slice e)) (hC : P.cellsOf e = d.sz) (hd : Opens enc P w base spare held e d ok) (z : α) :
    Opens enc P w base spare held t (Kd.slice e d) (fun l => ∀ a ∈ l, ok a) := by
  intro fuel cs x h
  rcases open_slice ht h with ⟨rfl, _⟩ | ⟨a, len, cap, m, n, D, Pl, rfl, hb, hl, hm, hmm, _, hx⟩
  · exact ⟨[], ⟨none, 0, rfl, Nat.le_refl _, Kd.C_nil _ _⟩, by simp⟩
  · have hlm : len ≤ m := by rw [hmm]; split <;> omega
    have hel : ∀ i, ∃ b : α, i < len → ok b ∧ ∃ c : List Value, c.length = d.sz ∧ d.K w b c ∧ ∀ j u, c[j]? = some u → w.cell? (a.add (i * d.sz + j)) = some u := by
      intro i
      by_cases hi : i < len
      · obtain ⟨cs', h1, h2⟩ := hx i (by omega)
        obtain ⟨b, hb1, hb2⟩ := hd _ _ _ h2
        obtain ⟨_, hlen, hat⟩ := World.cells?_some h1
        refine ⟨b, fun _ => ⟨hb2, cs', by rw [hlen, hC], hb1, fun j u hj => ?_⟩⟩
        have hjl : j < cs'.length := (List.getElem?_eq_some_iff.1 hj).1
        rw [← hj, ← hat j (by omega), Go.Deep.add_add, hC]
      · exact ⟨z, fun h => absurd h hi⟩
    let f : Nat → α := fun i => Classical.choose (hel i)
    have hf : ∀ i, i < len → ok (f i) ∧ ∃ c : List Value, c.length = d.sz ∧ d.K w (f i) c ∧ ∀ j u, c[j]? = some u → w.cell? (a.add (i * d.sz + j)) = some u := fun i => Classical.choose_spec (hel i)
    have hll : ((List.range len).map f).length = len := by simp
    refine ⟨(List.range len).map f, ⟨some a, cap, by rw [hll], by rw [hll]; exact hl, ?_⟩, ?_⟩
    · rw [hll]
      unfold maxLen at hm
      refine ⟨hll, by omega, fun _ => ⟨a, rfl, fun j p hj => ?_⟩⟩
      have hj2 : j < len := by have := (List.getElem?_eq_some_iff.1 hj).1; omega
      rw [List.getElem?_map, List.getElem?_range hj2] at hj
      obtain rfl : f j = p := by simpa using hj
      exact (hf j hj2).2
    · intro b hb'
      obtain ⟨i, hi, rfl⟩ := List.mem_map.1 hb'
      exact (hf i (List.mem_range.1 hi)).1
theorem fields_of {t : TypeId} {fs : Array Field} {fuel : Nat} {cs : List Value} {x : DataW H × List MemPlace} (hs : P.underlying t = some (.struct fs)) (hone : oneCellFields P fs = true) (hC : P.cellsOf t = fs.size)
    (h : DataW.trod enc P w base spare held fuel t cs = some x) : cs.length = fs.size ∧ ∃ n, ∀ (j : Nat) (f : Field), fs[j]? = some f → ∃ v y, cs[j]? = some v ∧ DataW.trod enc P w base spare held n f.type [v] = some y := by
  obtain ⟨ys, n, hn', hy, hlen, hyl, hf⟩ := DataW.trod_struct hs h
  refine ⟨hlen.trans hC, n, fun j f hj => ?_⟩
  obtain ⟨ho, hk⟩ := hone_of hone j f hj
  have hjl : j < fs.size := (Array.getElem?_eq_some_iff.1 hj).1
  have hv : cs[j]? = some (cs[j]'(by omega)) := List.getElem?_eq_getElem (by omega)
  have h1 := hf j f hj
  rw [ho, hk] at h1
  have hone' : (cs.drop j).take 1 = [cs[j]'(by omega)] := by
    rw [List.drop_eq_getElem_cons (by omega)]
    rfl
  rw [hone'] at h1
  have hys : ys[j]? = some (ys[j]'(by omega)) := List.getElem?_eq_getElem (by omega)
  exact ⟨_, _, hv, h1.trans hys⟩
/-- A field's value, opened. -/
theorem field_at {ft : TypeId} {n j : Nat} {cs : List Value} {d : Kd α} {ok : α → Prop} {fs : Array Field} (f : Field) (hfs : fs[j]? = some f) (hft : f.type = ft) (hd : Opens enc P w base spare held ft d ok)
    (hf : ∀ (j : Nat) (f : Field), fs[j]? = some f → ∃ v y, cs[j]? = some v ∧ DataW.trod enc P w base spare held n f.type [v] = some y) : ∃ v a, cs[j]? = some v ∧ d.K w a [v] ∧ ok a := by
  obtain ⟨v, y, h1, h2⟩ := hf j f hfs
  subst hft
  obtain ⟨a, h3, h4⟩ := hd _ _ _ h2
  exact ⟨v, a, h1, h3, h4⟩
end
end Go.Proofs.Ytoeegdpkmdgkdaa.Open
