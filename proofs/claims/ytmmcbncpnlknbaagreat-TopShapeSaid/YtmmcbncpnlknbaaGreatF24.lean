import Derived.Test.YtmmcbncpnlknbaaGreatF23
import Derived.StringKeys
import Derived.StillTailTactics
set_option linter.unusedVariables false
set_option linter.unusedSimpArgs false
namespace Go.Proofs.YtmmcbncpnlknbaaGreat.Top
open Go Go.RowKit Go.Proofs.YtmmcbncpnlknbaaGreatW.PrintWords Go.Proofs.YtmmcbncpnlknbaaGreatW.PrintLast Go.Proofs.YtmmcbncpnlknbaaGreatW.PrintMore
abbrev Ob:=PAll.S139
def kb (s:ByteArray):List UInt8:=s.data.toList
theorem kb_inj {a b:ByteArray} (h:kb a=kb b):a=b:=by
 unfold kb at h
 cases a;cases b
 congr 1
 exact Array.toList_inj.1 h
def offS (S:List Ob) (k:ByteArray):List Ob:=S.filter fun o=>!(kb o.f0 == kb k)
def inS (x:Ob):List Ob->List Ob
 | []=>[x]
 | y :: r=>if bytesBefore (kb x.f0) (kb y.f0) then x :: y :: r else y :: inS x r
def putS (S:List Ob) (o:Ob):List Ob:=inS o (offS S o.f0)
def findS (S:List Ob) (k:ByteArray):Option Ob:=S.find? fun o=>kb o.f0 == kb k
def obV (o:Ob) (v:Value):Value:=.agg #[.string o.f0,.int .i64 o.f1,.int .i64 o.f2,v]
def entS (ad:ByteArray->Value) (o:Ob):Lit×DataW Value:=(.string (kb o.f0),.held (obV o (ad o.f0)))
theorem mem_inS (x o:Ob):∀ S:List Ob,o ∈ inS x S↔o=x∨o ∈ S
 | []=>by simp [inS]
 | y :: r=>by
  unfold inS
  split
  ·simp
  ·simp only [List.mem_cons,mem_inS x o r]
   constructor
   ·rintro (h|h|h)
    ·exact .inr (.inl h)
    ·exact .inl h
    ·exact .inr (.inr h)
   ·rintro (h|h|h)
    ·exact .inr (.inl h)
    ·exact .inl h
    ·exact .inr (.inr h)
theorem perm_inS (x:Ob):∀ S:List Ob,(inS x S).Perm (x :: S)
 | []=>.refl _
 | y :: r=>by
  unfold inS
  split
  ·exact .refl _
  ·exact ((perm_inS x r).cons y).trans (.swap x y r)
theorem mem_offS {S:List Ob} {k:ByteArray} {o:Ob}:o ∈ offS S k↔o ∈ S/\o.f0≠k:=by
 unfold offS
 rw [List.mem_filter]
 constructor
 ·rintro ⟨h1,h2⟩
  exact ⟨h1,fun e=>by subst e;simp at h2⟩
 ·rintro ⟨h1,h2⟩
  refine ⟨h1,?_⟩
  simp only [Bool.not_eq_true',beq_eq_false_iff_ne,ne_eq]
  exact fun e=>h2 (kb_inj e)
theorem mem_putS {S:List Ob} {x o:Ob}:o ∈ putS S x↔o=x∨(o ∈ S/\o.f0≠x.f0):=by
 unfold putS
 rw [mem_inS,mem_offS]
theorem findS_some {S:List Ob} {k:ByteArray} {o:Ob} (h:findS S k=some o):o ∈ S/\o.f0=k:=by
 have h1:=List.mem_of_find?_eq_some h
 have h2:=List.find?_some h
 exact ⟨h1,kb_inj (by simpa using h2)⟩
theorem findS_none {S:List Ob} {k:ByteArray} (h:findS S k=none):∀ o ∈ S,o.f0≠k:=by
 intro o ho e
 have:=List.find?_eq_none.1 h o ho
 subst e
 simp at this
theorem ins_map (ad:ByteArray->Value) (x:Ob):∀ S:List Ob,DataW.insert (entS ad x) (S.map (entS ad))=(inS x S).map (entS ad)
 | []=>rfl
 | y :: r=>by
  unfold inS
  rw [List.map_cons]
  unfold DataW.insert
  rw [show (entS ad x).1.before (entS ad y).1=bytesBefore (kb x.f0) (kb y.f0) from rfl]
  split
  ·rfl
  ·rw [ins_map ad x r];rfl
theorem off_map (ad:ByteArray->Value) (k:ByteArray) (S:List Ob):(S.map (entS ad)).filter (fun p=>!p.1.sameKey (.string (kb k)))=(offS S k).map (entS ad):=by
 unfold offS
 rw [List.filter_map]
 rfl
theorem map_congr {ad ad':ByteArray->Value} {S:List Ob} (h:∀ o ∈ S,ad o.f0=ad' o.f0):S.map (entS ad)=S.map (entS ad') :=
 List.map_congr_left fun o ho=>by unfold entS;rw [h o ho]
def Ms (w:World) (b:Nat) (S:List Ob) (ad:ByteArray->Value):Prop:=∃ n,w.ownsMap Tryz.prog 9 rv b n (.map (S.map (entS ad)))
theorem ks:Maps.Keyed Tryz.prog 9:=Maps.string_keyed Tryz.underlying9
theorem key_str {k:ByteArray} (h:k.size<=1000000):keyOf Tryz.prog 9 (.string k)=some (.string (kb k)):=Go.WideMaps.keyOf_string_mk Tryz.underlying9 (by unfold maxLen;omega)
theorem at_map (ad:ByteArray->Value) (S:List Ob) (k:ByteArray) (zd:DataW Value):(DataW.map (S.map (entS ad))).atKey (.string (kb k)) zd=((findS S k).map fun o=>DataW.held (obV o (ad o.f0))).getD zd:=by
 have e:(S.map (entS ad)).find? (fun p=>p.1.sameKey (.string (kb k)))=(findS S k).map (entS ad):=by
  rw [List.find?_map]
  rfl
 unfold DataW.atKey
 simp only [e]
 cases findS S k <;> rfl
section
variable {w:World} {b:Nat} {S:List Ob} {ad:ByteArray->Value}
theorem Ms.lt (h:Ms w b S ad):b < w.heap.size:=by
 obtain ⟨n,h⟩:=h
 exact h.lt
theorem Ms.keep (h:Ms w b S ad) {W:World} (hb:W.heap[b]?=w.heap[b]?):Ms W b S ad:=by
 obtain ⟨n,⟨es,clock,h1,h2⟩⟩:=h
 exact ⟨n,⟨es,clock,hb.trans h1,h2⟩⟩
theorem Ms.made (w:World) (ad:ByteArray->Value):Ms (w.alloc (.map #[] 0)) w.heap.size [] ad:=⟨0,World.ownsMap_made w _ _ _⟩
theorem Ms.tight (h:Ms w b S ad):w.ownsMap Tryz.prog 9 rv b S.length (.map (S.map (entS ad))):=by
 obtain ⟨n,⟨es,clock,h1,h2,h3,h4⟩⟩:=h
 refine ⟨es,clock,h1,h2,?_,h4⟩
 injection h4 with h5
 have h6:=length_read (P:=Tryz.prog) (k:=9) (R0:=rv) es
 rw [<- h5,List.length_map] at h6
 omega
theorem Ms.look (h:Ms w b S ad) {t e:TypeId} (ht:Tryz.prog.underlying t=some (.map 9 e)) {z:Value} (hz:(zeroValue e).run Tryz.prog w=.ok z w) {k:ByteArray} (hk:k.size<=1000000) :
  (Instr.lookup t (.map (some b)) (.string k) true).run Tryz.prog w=.ok (.tuple #[((findS S k).map fun o=>obV o (ad o.f0)).getD z,.bool (findS S k).isSome]) w:=by
 obtain ⟨n,⟨es,clock,hb,F,hs,hD⟩⟩:=h
 have hf:∀ zd,(DataW.map (S.map (entS ad))).atKey (.string (kb k)) zd=((findS S k).map fun o=>DataW.held (obV o (ad o.f0))).getD zd:=by
  intro zd
  exact at_map ad S k zd
 rcases Maps.fit_look true ks ht hz hb F (key_str hk) with ⟨hrun,_,hat⟩|⟨e0,y,_,_,hrun,hRv,hat,_⟩
 ·rw [hrun]
  have e1:=hat .nil
  have e2:=hat (.lit (.bool true))
  rw [<- hD,hf] at e1 e2
  cases hc:findS S k with
  | none=>rfl
  | some o=>rw [hc] at e1;cases e1
 ·rw [hrun]
  have e1:=hat .nil
  have e2:=hat (.lit (.bool true))
  rw [<- hD,hf] at e1 e2
  cases hc:findS S k with
  | none=>rw [hc] at e1 e2;simp only [Option.map_none,Option.getD_none] at e1 e2;rw [<- e1] at e2;cases e2
  | some o =>
   rw [hc] at e1
   simp only [Option.map_some,Option.getD_some] at e1
   simp only [rv,Option.some.injEq] at hRv
   rw [<- hRv] at e1
   simp only [DataW.held.injEq] at e1
   simp [e1]
theorem Ms.look1 (h:Ms w b S ad) {t e:TypeId} (ht:Tryz.prog.underlying t=some (.map 9 e)) {z:Value} (hz:(zeroValue e).run Tryz.prog w=.ok z w) {k:ByteArray} (hk:k.size<=1000000) :
  (Instr.lookup t (.map (some b)) (.string k) false).run Tryz.prog w=.ok (((findS S k).map fun o=>obV o (ad o.f0)).getD z) w:=by
 obtain ⟨n,⟨es,clock,hb,F,hs,hD⟩⟩:=h
 have hf:∀ zd,(DataW.map (S.map (entS ad))).atKey (.string (kb k)) zd=((findS S k).map fun o=>DataW.held (obV o (ad o.f0))).getD zd:=by
  intro zd
  exact at_map ad S k zd
 rcases Maps.fit_look false ks ht hz hb F (key_str hk) with ⟨hrun,_,hat⟩|⟨e0,y,_,_,hrun,hRv,hat,_⟩
 ·rw [hrun]
  have e1:=hat .nil
  rw [<- hD,hf] at e1
  cases hc:findS S k with
  | none=>rfl
  | some o=>rw [hc] at e1;cases e1
 ·rw [hrun]
  have e1:=hat .nil
  have e2:=hat (.lit (.bool true))
  rw [<- hD,hf] at e1 e2
  cases hc:findS S k with
  | none=>rw [hc] at e1 e2;simp only [Option.map_none,Option.getD_none] at e1 e2;rw [<- e1] at e2;cases e2
  | some o =>
   rw [hc] at e1
   simp only [Option.map_some,Option.getD_some] at e1
   simp only [rv,Option.some.injEq] at hRv
   rw [<- hRv] at e1
   simp only [DataW.held.injEq] at e1
   simp [e1]
theorem Ms.len (h:Ms w b S ad) {t e:TypeId} (ht:Tryz.prog.underlying t=some (.map 9 e)) (ty:TypeId):(Builtin.len_ #[t] ty #[.map (some b)]).run Tryz.prog w=.ok (.int .i64 S.length) w:=by
 obtain ⟨n,h⟩:=h
 rw [h.len ht ty]
 simp [Maps.size]
theorem Ms.put (h:Ms w b S ad) {t e:TypeId} (ht:Tryz.prog.underlying t=some (.map 9 e)) (hn:S.length<=1000000) (o:Ob) (hk:o.f0.size<=1000000) (v:Value) :
  ∃ w',(Instr.mapUpdate t (.map (some b)) (.string o.f0) (obV o v)).run Tryz.prog w=.ok () w'/\Ms w' b (putS S o) (fun k=>if k=o.f0 then v else ad k)/\w.grownBy w' (some b)/\w'.heap.size=w.heap.size:=by
 obtain ⟨w',hrun,h2,h3⟩:=h.tight.store ks ht (by unfold maxLen;omega) (key_str hk) (val:=obV o v) (d:=.held (obV o v)) (ps:=[]) rfl
 refine ⟨w',hrun,?_,h3.grown,?_⟩
 ·have e:DataW.put (.map (S.map (entS ad))) (.string (kb o.f0)) (.held (obV o v))=.map ((putS S o).map (entS (fun k=>if k=o.f0 then v else ad k))):=by
   show DataW.map (DataW.insert _ ((S.map (entS ad)).filter _))=_
   rw [off_map,map_congr (ad':=fun k=>if k=o.f0 then v else ad k) (fun p hp=>(if_neg (mem_offS.1 hp).2).symm)]
   rw [show ((Lit.string (kb o.f0),DataW.held (obV o v)):Lit×DataW Value)=entS (fun k=>if k=o.f0 then v else ad k) o from by unfold entS;simp only [if_true],ins_map]
   rfl
  exact ⟨_,e ▸ h2⟩
 ·obtain ⟨es,clock,es',clock',_,rfl⟩:=h3
  simp [Go.ChangeMaps.setBlock]
theorem Ms.drop (h:Ms w b S ad) {t e:TypeId} (ht:Tryz.prog.underlying t=some (.map 9 e)) {k:ByteArray} (hk:k.size<=1000000) (ty:TypeId) :
  ∃ w',(Builtin.delete_ #[t,9] ty #[.map (some b),.string k]).run Tryz.prog w=.ok (.tuple #[]) w'/\Ms w' b (offS S k) ad/\w.grownBy w' (some b)/\w'.heap.size=w.heap.size:=by
 obtain ⟨n,h⟩:=h
 obtain ⟨w',hrun,h2,h3⟩:=h.drop ks ht (key_str hk) ty
 refine ⟨w',hrun,?_,h3.grown,?_⟩
 ·have e:DataW.del (.map (S.map (entS ad))) (.string (kb k))=.map ((offS S k).map (entS ad)):=by
   show DataW.map ((S.map (entS ad)).filter _)=_
   rw [off_map]
  exact ⟨_,e ▸ h2⟩
 ·obtain ⟨es,clock,es',clock',_,rfl⟩:=h3
  simp [Go.ChangeMaps.setBlock]
end
def Mo (w:World) (b:Nat) (m:Int->Bool) (c:Nat):Prop:=∃ n D,w.ownsMap Tryz.prog 3 rv b n D/\(∀ a,I64 a->Maps.has D (.int .i64 a)=m a)/\Maps.size D=c
section
variable {w:World} {b c:Nat} {m:Int->Bool}
theorem Mo.lt (h:Mo w b m c):b < w.heap.size:=by
 obtain ⟨n,D,h,_⟩:=h
 exact h.lt
theorem Mo.keep (h:Mo w b m c) {W:World} (hb:W.heap[b]?=w.heap[b]?):Mo W b m c:=by
 obtain ⟨n,D,⟨es,clock,h1,h2⟩,h3⟩:=h
 exact ⟨n,D,⟨es,clock,hb.trans h1,h2⟩,h3⟩
theorem Mo.made (w:World):Mo (w.alloc (.map #[] 0)) w.heap.size (fun _=>false) 0:=⟨_,_,World.ownsMap_made w _ _ _,fun a _=>rfl,rfl⟩
theorem Mo.congr (h:Mo w b m c) {m':Int->Bool} {c':Nat} (hm:∀ a,I64 a->m a=m' a) (hc:c=c'):Mo w b m' c':=by
 obtain ⟨n,D,h1,h2,h3⟩:=h
 exact ⟨n,D,h1,fun a ha=>(h2 a ha).trans (hm a ha),h3.trans hc⟩
theorem Mo.look (h:Mo w b m c) {t e:TypeId} (ht:Tryz.prog.underlying t=some (.map 3 e)) {z:Value} (hz:(zeroValue e).run Tryz.prog w=.ok z w) {a:Int} (ha:I64 a) :
  ∃ v,(Instr.lookup t (.map (some b)) (.int .i64 a) true).run Tryz.prog w=.ok (.tuple #[v,.bool (m a)]) w:=by
 obtain ⟨n,D,h,hm,_⟩:=h
 obtain ⟨v,ps,hrun,hv⟩:=h.look_ok ki ht hz (zd:=.held z) (zp:=[]) rfl (key_int ha)
 exact ⟨v,by rw [hrun,hm a ha]⟩
theorem Mo.len (h:Mo w b m c) {t e:TypeId} (ht:Tryz.prog.underlying t=some (.map 3 e)) (ty:TypeId):(Builtin.len_ #[t] ty #[.map (some b)]).run Tryz.prog w=.ok (.int .i64 c) w:=by
 obtain ⟨n,D,h,_,hc⟩:=h
 rw [h.len ht ty,hc]
theorem Mo.put (h:Mo w b m c) {t e:TypeId} (ht:Tryz.prog.underlying t=some (.map 3 e)) (hn:c<=1000000) {a:Int} (ha:I64 a) (hf:m a=false) (v:Value) :
  ∃ w',(Instr.mapUpdate t (.map (some b)) (.int .i64 a) v).run Tryz.prog w=.ok () w'/\Mo w' b (fun x=>m x || decide (x=a)) (c+1)/\w.grownBy w' (some b)/\w'.heap.size=w.heap.size:=by
 obtain ⟨n,D,⟨es,clock,h1,h2,h3,h4⟩,hm,hc⟩:=h
 have h6:=length_read (P:=Tryz.prog) (k:=3) (R0:=rv) es
 have h':w.ownsMap Tryz.prog 3 rv b es.size D:=⟨es,clock,h1,h2,Nat.le_refl _,h4⟩
 have h5:es.size=c:=by rw [<- hc,h4];exact h6.symm
 obtain ⟨w',hrun,h7,h8⟩:=h'.store ki ht (by unfold maxLen;omega) (key_int ha) (val:=v) (d:=.held v) (ps:=[]) rfl
 refine ⟨w',hrun,⟨_,_,h7,fun x hx=>?_,?_⟩,h8.grown,?_⟩
 ·by_cases hxa:x=a
  ·subst hxa
   rw [Maps.has_put_same h'.isMap (ki.key (key_int hx))]
   simp
  ·rw [Maps.has_put_other (lit_ne hxa),hm x hx]
   simp [hxa]
 ·rw [Maps.size_put (h'.tidy ki),hm a ha,hf,hc]
  rfl
 ·obtain ⟨es,clock,es',clock',_,rfl⟩:=h8
  simp [Go.ChangeMaps.setBlock]
theorem Mo.drop (h:Mo w b m c) {t e:TypeId} (ht:Tryz.prog.underlying t=some (.map 3 e)) {a:Int} (ha:I64 a) (hf:m a=true) (ty:TypeId) :
  ∃ w',(Builtin.delete_ #[t,3] ty #[.map (some b),.int .i64 a]).run Tryz.prog w=.ok (.tuple #[]) w'/\Mo w' b (fun x=>m x && !decide (x=a)) (c - 1)/\w.grownBy w' (some b)/\w'.heap.size=w.heap.size:=by
 obtain ⟨n,D,h,hm,hc⟩:=h
 obtain ⟨w',hrun,h2,h3⟩:=h.drop ki ht (key_int ha) ty
 refine ⟨w',hrun,⟨_,_,h2,fun x hx=>?_,?_⟩,h3.grown,?_⟩
 ·by_cases hxa:x=a
  ·subst hxa
   rw [Maps.has_del_same]
   simp
  ·rw [Maps.has_del_other (lit_ne hxa),hm x hx]
   simp [hxa]
 ·have:=Maps.size_del (k:=.int .i64 a) (h.tidy ki)
  rw [hm a ha,hf,hc] at this
  simp at this
  omega
 ·obtain ⟨es,clock,es',clock',_,rfl⟩:=h3
  simp [Go.ChangeMaps.setBlock]
end
theorem zero139 (w:World):(zeroValue 139).run Tryz.prog w=.ok (.agg #[.string ⟨#[]⟩,.int .i64 0,.int .i64 0,.slice none 0 0]) w:=by kernel_rfl
theorem zero9 (w:World):(zeroValue 9).run Tryz.prog w=.ok (.string ⟨#[]⟩) w:=by kernel_rfl
def catC (K M Z T L O:Int) (b1 b2:Nat):Array Value:=#[.int .i64 K,.int .i64 M,.int .i64 Z,.int .i64 T,.int .i64 L,.int .i64 O,.map (some b1),.map (some b2)]
def T3 (w:World) (k:Nat):Prop:=∃ cells,w.heap[k]?=some (.cells cells 3 (0,0))
def Rt (w:World) (A:Option Addr) (l:List Int):Prop:=(Kd.int .i64).C w A l.length l/\∀ a,A=some a->0 < l.length->T3 w a.block
theorem add_block (a:Addr) (j:Nat):(a.add j).block=a.block:=by unfold Addr.add;split <;> rfl
theorem Rt.gs {w W:World} {A:Option Addr} {l:List Int} (h:Rt w A l) {Q:Nat->Prop} (hg:Gs Q w W) (hQ:∀ k,Q k->¬ T3 w k):Rt W A l:=by
 obtain ⟨hC,hT⟩:=h
 obtain ⟨h1,h2,h3⟩:=Kd.reads_of_C (d:=(0:Int)) hC
 have hb:∀ a,A=some a->0 < l.length->W.heap[a.block]?=w.heap[a.block]? :=fun a ha hp=>by
  obtain ⟨cells,hc⟩:=hT a ha hp
  exact hg.block _ (blk_lt hc) (fun hq=>hQ _ hq ⟨cells,hc⟩)
 refine ⟨Kd.C_of_reads (d:=0) ⟨h1,h2,fun hp=>?_⟩,fun a ha hp=>?_⟩
 ·obtain ⟨a,ha,hc⟩:=h3 hp
  refine ⟨a,ha,fun j hj=>?_⟩
  have h4:=hc j hj
  unfold World.cell? at h4 ⊢
  rw [add_block,hb a ha hp,<- add_block a j]
  exact h4
 ·obtain ⟨cells,hc⟩:=hT a ha hp
  exact ⟨cells,(hb a ha hp).trans hc⟩
theorem Rt.of_R {w:World} {base:Nat} {ok:Nat->Prop} {A:Option Addr} {c:Nat} {l:List Int} (h:Kd.R (Kd.int .i64) 3 w base ok (.slice A l.length c) l):Rt w A l:=by
 refine ⟨(Kd.R_reads' h).2.2,fun a ha hp=>?_⟩
 subst ha
 obtain ⟨_,inner,ho,_⟩:=h
 exact own_typed ho a.block rfl
structure Cat (w:World) (c:Nat) (K M Z T L O:Int) (b1 b2:Nat) (S:List Ob) (ad:ByteArray->Value) (m:Int->Bool) (n:Nat):Prop where
 box:w.heap[c]?=some (.cells (catC K M Z T L O b1 b2) 137 (0,0))
 objs:Ms w b1 S ad
 own:Mo w b2 m n
 rows:∀ o ∈ S,∃ A cc,ad o.f0=.slice A o.f3.length cc/\o.f3.length<=cc/\Rt w A o.f3
 ne:b1≠b2
theorem cat_cells {w:World} {c b1 b2:Nat} {K M Z T L O:Int} (h:w.heap[c]?=some (.cells (catC K M Z T L O b1 b2) 137 (0,0))) :
  w.cell? ⟨c,0,none⟩=some (.int .i64 K)/\w.cell? ⟨c,1,none⟩=some (.int .i64 M)/\w.cell? ⟨c,2,none⟩=some (.int .i64 Z)/\w.cell? ⟨c,3,none⟩=some (.int .i64 T)/\w.cell? ⟨c,4,none⟩=some (.int .i64 L)/\w.cell? ⟨c,5,none⟩=some (.int .i64 O)/\w.cell? ⟨c,6,none⟩=some (.map (some b1))/\w.cell? ⟨c,7,none⟩=some (.map (some b2)):=by
 simp only [World.cell?,h,catC]
 exact ⟨rfl,rfl,rfl,rfl,rfl,rfl,rfl,rfl⟩
section
variable {w:World} {c b1 b2 n:Nat} {K M Z T L O:Int} {S:List Ob} {ad:ByteArray->Value} {m:Int->Bool}
theorem Cat.lt (h:Cat w c K M Z T L O b1 b2 S ad m n):c < w.heap.size:=blk_lt h.box
theorem Cat.gs (h:Cat w c K M Z T L O b1 b2 S ad m n) {W:World} {Q:Nat->Prop} (hb:Gs Q w W) (h0:¬ Q c) (h1:¬ Q b1) (h2:¬ Q b2) (h3:∀ k,Q k->¬ T3 w k):Cat W c K M Z T L O b1 b2 S ad m n :=
 ⟨(hb.block c h.lt h0).trans h.box,h.objs.keep (hb.block b1 h.objs.lt h1),h.own.keep (hb.block b2 h.own.lt h2),fun o ho=>by
  obtain ⟨A,cc,q1,q2,q3⟩:=h.rows o ho
  exact ⟨A,cc,q1,q2,q3.gs hb h3⟩,h.ne⟩
theorem Cat.below (h:Cat w c K M Z T L O b1 b2 S ad m n) {W:World} (hb:Below w.heap.size w W):Cat W c K M Z T L O b1 b2 S ad m n :=
 h.gs (Gs.of_below (S:=fun _=>False) hb) (fun h=>h) (fun h=>h) (fun h=>h) (fun _ h=>h.elim)
set_option maxHeartbeats 1000000 in
theorem full_ok (h:Cat w c K M Z T L O b1 b2 S ad m n) (k:ByteArray) (hk:k.size<=1000000) :
  Calls Tryz.prog 119 #[.pointer (some ⟨c,0,none⟩),.string k] w fun e w'=>e=.returned (.bool (!(findS S k).isSome && decide (O<=(S.length:Int))))/\Below w.heap.size w w':=by
 obtain ⟨_,_,_,_,_,c5,c6,_⟩:=cat_cells h.box
 have hc:=h.lt
 have ll:=h.objs.look Tryz.underlying134 (zero139 w) hk
 have hl:∀ W:World,W.heap[b1]?=w.heap[b1]?->∀ ty,(Builtin.len_ #[134] ty #[.map (some b1)]).run Tryz.prog W=.ok (.int .i64 S.length) W:=fun W hb ty=>(h.objs.keep hb).len Tryz.underlying134 ty
 have hb1:=h.objs.lt
 have hr:=h.rows
 cases hf:findS S k with
 | some o =>
  obtain ⟨A,cc,hA,_,_⟩:=hr o (findS_some hf).1
  rw [hf] at ll
  simp only [Option.map_some,Option.getD_some,Option.isSome_some,obV,hA] at ll ⊢
  clear hf h hr hl
  go_enter Tryz.func119,Tryz.ntmps119
  go_wp2
  go_quiet (fail)
  go_wp2
  go_ret
  exact ⟨rfl,by first|exact pw_below_drewN (below_alloc (Below.refl _ _) _) _|exact below_alloc (Below.refl _ _) _⟩
 | none =>
  rw [hf] at ll
  simp only [Option.map_none,Option.getD_none,Option.isSome_none,Bool.not_false,Bool.true_and] at ll ⊢
  have h1:∀ o q ty,(Builtin.len_ #[134] ty #[.map (some b1)]).run Tryz.prog ((w.alloc o).drewN q)=.ok (.int .i64 S.length) ((w.alloc o).drewN q):=fun o q ty=>hl ((w.alloc o).drewN q) (show (w.alloc o).heap[b1]?=_ from (below_alloc (Below.refl w.heap.size w) o).block b1 hb1) ty
  have h2:∀ o ty,(Builtin.len_ #[134] ty #[.map (some b1)]).run Tryz.prog (w.alloc o)=.ok (.int .i64 S.length) (w.alloc o):=fun o ty=>hl (w.alloc o) ((below_alloc (Below.refl w.heap.size w) o).block b1 hb1) ty
  clear hf h hr hl
  obtain ⟨q,hq⟩:∃ q,decide (O<=(S.length:Int))=q:=⟨_,rfl⟩
  go_enter Tryz.func119,Tryz.ntmps119
  go_wp2
  go_quiet (fail)
  go_wp2
  go_ret
  exact ⟨by rw [hq];rfl,by first|exact pw_below_drewN (below_alloc (Below.refl _ _) _) _|exact below_alloc (Below.refl _ _) _⟩
end
set_option maxHeartbeats 2000000 in
set_option maxRecDepth 100000 in
theorem clone88 (A0:Option Addr) (c0:Nat) (l0:List Int) (w:World) (hr0:Kd.C (Kd.int .i64) w A0 l0.length l0) (hc0:l0.length<=c0) (hbig:l0.length<=1000000) :
  Calls Tryz.prog 88 #[.slice A0 l0.length c0] w fun e w'=>∃ v0_:Value,e=.returned (v0_)/\Kd.R (Kd.int .i64) 3 w' w.heap.size (fun _=>True) v0_ l0/\Below w.heap.size w w':=by
 ·skip
  have q:∀ (w:World) (a:Option Addr) (n c n' c':Nat),(binOp .eql 98 (.slice a n c) (.slice none n' c')).run Tryz.prog w=.ok (.bool a.isNone) w:=fun w a n c n' c'=>Lib.run_eql_slice_nil w _ _ a n c n' c' Tryz.underlying98
  cases A0 with
  | none =>
   have hz:l0=[]:=by
    cases l0 with
    | nil=>rfl
    | cons x t=>obtain ⟨_,_,h3⟩:=hr0;obtain ⟨ad,e,_⟩:=h3 (by simp);cases e
   subst hz
   clear hr0
   go_enter Tryz.func88,Tryz.ntmps88
   go_wp2
   go_ret
   exact ⟨_,rfl,Kd.R_nil _ _ _ _ _,Below.refl _ _⟩
  | some a =>
   obtain ⟨i0,hi,hz0,hz1,hz2⟩:=info_parts (show (Tryz.prog.info? 3).map (fun i=>(i.zero,i.size,i.bytes))=some (some (.int .i64 0),1,8) from by kernel_rfl)
   have hcell:∀ i,i < l0.length->w.cell? (a.add i)=some (.int .i64 (l0.getD i 0)):=by
    intro i hi
    obtain ⟨ad,e,h3⟩:=Kd.at_int hr0 i (by omega) (by omega)
    obtain rfl:=Option.some.inj e
    simpa [rd] using h3
   have A:Aside0 (∀ i,i < l0.length->w.cell? (a.add i)=some (.int .i64 (l0.getD i 0))):=⟨hcell⟩
   clear hcell hr0 hc0
   go_enter Tryz.func88,Tryz.ntmps88
   go_wp2_with (at_builtin;refine wpList_append_own _ rfl _ _ 98 rfl w.heap.size 3 i0 (.int .i64 0) 1 8 Tryz.underlying98 hi hz0 hz1 hz2 rfl (by decide) _ _ _ rfl (World.ownsRow_made w #[] 0 (Nat.le_refl _) (Nat.zero_le _) rfl) a l0.length c0 (l0.map (Value.int .i64)) rfl ?qc1 ?qc2 ?qc3 ?qc4 ?qc5 ?qc6 ?_)
   case qc1=>simp
   case qc2 =>
    intro j u hj
    have hjn:j < l0.length:=by
     have:=(List.getElem?_eq_some_iff.1 hj).1
     simp at this
     omega
    refine Lib.cell?_alloc_some _ ?_
    rw [A.out j hjn]
    have e:(l0.map (Value.int .i64))[j]?=some (Value.int .i64 (l0.getD j 0)):=by simp [List.getD,List.getElem?_eq_getElem (show j < l0.length by omega)]
    rw [e] at hj
    exact hj
   case qc3=>intro u hu;obtain ⟨x,_,rfl⟩:=List.mem_map.1 hu;rfl
   case qc4=>unfold maxLen;omega
   case qc5=>omega
   case qc6=>simp
   intro v' w1 hown hgrow hnil
   go_wp2
   go_ret
   refine ⟨v',rfl,?_,((Below.refl _ w).alloc (Nat.le_refl _) _).grown hgrow (by simp) (by intro k hk;simp [Value.ownBlock] at hk;omega)⟩
   exact Kd.R_of_own (h1:=fun _=>rfl) (by simpa [encs] using hown) (fun _ _=>trivial)
section
variable {w:World} {c b1 b2 n:Nat} {K M Z T L O:Int} {S:List Ob} {ad:ByteArray->Value} {m:Int->Bool}
set_option maxHeartbeats 1000000 in
theorem free_ok (h:Cat w c K M Z T L O b1 b2 S ad m n) (hT:(0:Int)<=T/\T<=1000000/\(n:Int)<=T) :
  Calls Tryz.prog 120 #[.pointer (some ⟨c,0,none⟩)] w fun e w'=>e=.returned (.int .i64 (T - n))/\Drawn0 w w':=by
 obtain ⟨_,_,_,c3,_,_,_,c7⟩:=cat_cells h.box
 have hl:=fun ty=>h.own.len Tryz.underlying135 ty
 have hl2:∀ q ty,(Builtin.len_ #[135] ty #[.map (some b2)]).run Tryz.prog (w.drewN q)=.ok (.int .i64 n) (w.drewN q):=fun q ty=>(h.own.keep (W:=w.drewN q) rfl).len Tryz.underlying135 ty
 have gw:wrap64 (T - n)=T - n:=w64 _ (by omega)
 clear h
 go_enter Tryz.func120,Tryz.ntmps120
 go_wp2
 go_quiet (fail)
 go_wp2
 go_ret
 exact ⟨by simp [gw],⟨_,rfl⟩⟩
end
structure Rw (w:World) (A:Option Addr) (l:List Int):Prop where
 at_:∀ j,j < l.length->∃ a,A=some a/\w.cell? (a.add j)=some (.int .i64 (l.getD j 0))
theorem Rw.of_C {w:World} {A:Option Addr} {l:List Int} (h:(Kd.int .i64).C w A l.length l):Rw w A l:=⟨fun j hj=>by
 obtain ⟨h1,h2,h3⟩:=Kd.reads_of_C (d:=(0:Int)) h
 obtain ⟨a,ha,hc⟩:=h3 (by omega)
 exact ⟨a,ha,hc j hj⟩⟩
theorem cell_blk {w:World} {a:Addr} {v:Value} (h:w.cell? a=some v):∃ cells t f,w.heap[a.block]?=some (.cells cells t f):=by
 unfold World.cell? at h
 split at h
 ·rename_i cells t f heq
  exact ⟨_,_,_,heq⟩
 ·cases h
theorem Mo.mapb {w:World} {b c:Nat} {m:Int->Bool} (h:Mo w b m c):∃ es cl,w.heap[b]?=some (.map es cl):=by
 obtain ⟨n,D,⟨es,clock,h1,h2⟩,h3⟩:=h
 exact ⟨es,clock,h1⟩
theorem Ms.mapb {w:World} {b:Nat} {S:List Ob} {ad:ByteArray->Value} (h:Ms w b S ad):∃ es cl,w.heap[b]?=some (.map es cl):=by
 obtain ⟨n,⟨es,clock,h1,h2⟩⟩:=h
 exact ⟨es,clock,h1⟩
theorem Rw.maps {w W:World} {A:Option Addr} {l:List Int} (h:Rw w A l) {Q:Nat->Prop} (hg:Gs Q w W) (hQ:∀ k,Q k->∃ es cl,w.heap[k]?=some (.map es cl)):Rw W A l:=⟨fun j hj=>by
 obtain ⟨a,ha,hc⟩:=h.at_ j hj
 refine ⟨a,ha,?_⟩
 obtain ⟨cells,t,f,hb⟩:=cell_blk hc
 have e:W.heap[(a.add j).block]?=w.heap[(a.add j).block]? :=hg.block _ (Array.getElem?_eq_some_iff.1 hb).1 (fun hq=>by
  obtain ⟨es,cl,h2⟩:=hQ _ hq
  rw [hb] at h2
  cases h2)
 unfold World.cell? at hc ⊢
 rw [e]
 exact hc⟩
theorem no_T3 {w:World} {Q:Nat->Prop} (hQ:∀ k,Q k->∃ es cl,w.heap[k]?=some (.map es cl)):∀ k,Q k->¬ T3 w k:=fun k hk ⟨cells,hc⟩=>by
 obtain ⟨es,cl,h⟩:=hQ k hk
 rw [hc] at h
 cases h
theorem fld139 (w:World) (a:ByteArray) (b c:Int) (A:Option Addr) (n m:Nat):(Instr.field 139 (.agg #[.string a,.int .i64 b,.int .i64 c,.slice A n m]) 3).run Tryz.prog w=.ok (.slice A n m) w:=by kernel_rfl
section
variable {w:World} {c b1 b2 n:Nat} {K M Z T L O:Int} {S:List Ob} {ad:ByteArray->Value} {m:Int->Bool}
def strOf (S:List Ob) (k:ByteArray):List Int:=((findS S k).map fun o=>o.f3).getD []
theorem look_row (h:Cat w c K M Z T L O b1 b2 S ad m n) {k:ByteArray} (hk:k.size<=1000000):∃ x0 x1 x2 A cc,(Instr.lookup 134 (.map (some b1)) (.string k) false).run Tryz.prog w=.ok (.agg #[.string x0,.int .i64 x1,.int .i64 x2,.slice A (strOf S k).length cc]) w/\Rw w A (strOf S k):=by
 have ll:=h.objs.look1 Tryz.underlying134 (zero139 w) hk
 unfold strOf
 cases hf:findS S k with
 | none =>
  rw [hf] at ll
  exact ⟨_,_,_,none,0,ll,⟨fun j hj=>by simp at hj⟩⟩
 | some o =>
  rw [hf] at ll
  obtain ⟨A,cc,hA,_,hC⟩:=h.rows o (findS_some hf).1
  simp only [Option.map_some,Option.getD_some,obV,hA] at ll ⊢
  exact ⟨_,_,_,A,cc,ll,Rw.of_C hC.1⟩
theorem Cat.mapQ (h:Cat w c K M Z T L O b1 b2 S ad m n):∀ k,(k=b1∨k=b2)->∃ es cl,w.heap[k]?=some (.map es cl):=by
 rintro k (rfl|rfl)
 ·exact h.objs.mapb
 ·exact h.own.mapb
theorem Cat.c_ne (h:Cat w c K M Z T L O b1 b2 S ad m n):¬ (c=b1∨c=b2):=fun hq=>by
 obtain ⟨es,cl,h2⟩:=h.mapQ c hq
 rw [h.box] at h2
 cases h2
set_option maxRecDepth 100000 in
set_option maxHeartbeats 2000000 in
theorem drop_ok (h:Cat w c K M Z T L O b1 b2 S ad m n) {k:ByteArray} (hk:k.size<=1000000) (hl:(strOf S k).length<=1000) (hI:∀ x ∈ strOf S k,I64 x/\m x=true) (hN:(strOf S k).Nodup) :
  Calls Tryz.prog 87 #[.pointer (some ⟨c,0,none⟩),.string k] w fun e w'=>e=.returned (.tuple #[])/\Cat w' c K M Z T L O b1 b2 (offS S k) ad (fun a=>m a && !decide (a ∈ strOf S k)) (n - (strOf S k).length)/\Gs (fun j=>j=b1∨j=b2) w w':=by
 obtain ⟨x0,x1,x2,A,cc,ll,hR⟩:=look_row h hk
 obtain ⟨_,_,_,_,_,_,c6,_⟩:=cat_cells h.box
 obtain ⟨l,hle⟩:∃ l,strOf S k=l:=⟨_,rfl⟩
 rw [hle] at ll hR hl hI hN ⊢
 clear hle
 have HH:=Aside0.mk (And.intro h (And.intro hR (And.intro hI (And.intro hN hk))))
 clear h hR hI hN
 have hfld:=fld139 w x0 x1 x2 A l.length cc
 go_enter Tryz.func87,Tryz.ntmps87
 go_wp2
 go_loopg [14] l.length (fun kq x wr=>∃ i:Nat,x=.int .i64 i/\i+kq=l.length/\Aside0 (Mo wr b2 (fun a=>m a && !decide (a ∈ l.take i)) (n - i)/\Gs (fun j=>j=b2) w wr))
 case atStart=>exact ⟨0,rfl,by omega,⟨HH.out.1.own.congr (fun a _=>by simp) (by omega),Gs.refl _ _⟩⟩
 case round =>
  obtain ⟨i,rfl,hik,HX⟩:=hrel
  have hQ:∀ k,k=b2->∃ es cl,w.heap[k]?=some (.map es cl):=fun k hq=>HH.out.1.mapQ k (.inr hq)
  have e1:wr.heap[c]?=some (.cells (catC K M Z T L O b1 b2) 137 (0,0)):=(HX.out.2.block c HH.out.1.lt (fun e=>HH.out.1.c_ne (.inr e))).trans HH.out.1.box
  obtain ⟨_,_,_,_,_,_,d6,d7⟩:=cat_cells e1
  clear e1
  by_cases hin:i < l.length
  ·have g1:(i:Int) < (l.length:Int):=by omega
   have g3:(0:Int)<=(i:Int):=by omega
   obtain ⟨a,hA,hc⟩:=(HH.out.2.1.maps HX.out.2 hQ).at_ i hin
   subst hA
   have hmem:l.getD i 0 ∈ l:=by rw [List.getD_eq_getElem?_getD,List.getElem?_eq_getElem hin];exact List.getElem_mem hin
   have hnt:¬ l.getD i 0 ∈ l.take i:=by
    rw [List.getD_eq_getElem?_getD,List.getElem?_eq_getElem hin,Option.getD_some]
    intro hm
    obtain ⟨j,hj,he⟩:=List.mem_take_iff_getElem.1 hm
    have:=(List.getElem_inj HH.out.2.2.2.1).1 he
    omega
   obtain ⟨xv,hxv⟩:∃ xv,l.getD i 0=xv:=⟨_,rfl⟩
   rw [hxv] at hc hmem hnt
   obtain ⟨w2,hdel,hmo,hg2,hs2⟩:=HX.out.1.drop Tryz.underlying135 (HH.out.2.2.1 _ hmem).1 (by simp only [(HH.out.2.2.1 _ hmem).2,hnt,decide_false,Bool.not_false,Bool.and_true]) 0
   have H2:=Aside0.mk (And.intro hmo (And.intro hg2 (And.intro hs2 hxv)))
   clear hmo hg2 hs2 hmem hnt hxv
   have gw:wrap64 ((i:Int)+1)=(i:Int)+1:=w64 _ (by omega)
   go_wp2
   go_roundg (l.length - (i+1))
   case measure=>exact meas5 hin hik
   case rel =>
    refine ⟨i+1,by simp [gw],meas4 hin,⟨H2.out.1.congr (fun x _=>?_) (by omega),HX.out.2.trans (Gs.of_grown H2.out.2.1 (fun k hk _=>(Option.some.inj hk).symm))⟩⟩
    have e3:l[i]=xv:=by rw [<- H2.out.2.2.2,List.getD_eq_getElem?_getD,List.getElem?_eq_getElem hin,Option.getD_some]
    rw [List.take_add_one,List.getElem?_eq_getElem hin,e3]
    simp only [Option.toList_some,List.mem_append,List.mem_singleton,Bool.decide_or,Bool.not_or,Bool.and_assoc]
  ·have g1:¬ (i:Int) < (l.length:Int):=by omega
   obtain ⟨w2,hdel,hms,hg2,hs2⟩:=(HH.out.1.objs.keep (HX.out.2.block b1 HH.out.1.objs.lt HH.out.1.ne)).drop Tryz.underlying134 hk 0
   have e0:i=l.length:=by omega
   subst e0
   have hG:Gs (fun j=>j=b1∨j=b2) w w2:=(HX.out.2.mono (fun k _ h=>.inr h)).trans (Gs.of_grown hg2 (fun k hk _=>.inl (Option.some.inj hk).symm))
   have H2:=Aside0.mk (And.intro hms (And.intro hg2 hG))
   clear hms hg2 hs2 hG
   go_wp2
   refine bodyPost_end (results_none rfl _ _ _) rfl ?_
   refine ⟨rfl,?_,H2.out.2.2⟩
   have hQ2:∀ k,(k=b1∨k=b2)->∃ es cl,w.heap[k]?=some (.map es cl):=HH.out.1.mapQ
   refine ⟨(H2.out.2.2.block c HH.out.1.lt HH.out.1.c_ne).trans HH.out.1.box,H2.out.1,?_,fun o ho=>?_,HH.out.1.ne⟩
   ·refine (HX.out.1.congr (fun x _=>by rw [List.take_length]) rfl).keep (H2.out.2.1.block b2 HX.out.1.lt (by simp;exact fun e=>HH.out.1.ne e.symm))
   ·obtain ⟨A',cc',h1,h2,h3⟩:=HH.out.1.rows o (mem_offS.1 ho).1
    exact ⟨A',cc',h1,h2,h3.gs H2.out.2.2 (no_T3 hQ2)⟩
end
def obC (k:ByteArray) (l e:Int) (A:Option Addr) (n c:Nat):Array Value:=#[.string k,.int .i64 l,.int .i64 e,.slice A n c]
theorem ob_cells {w:World} {g:Nat} {k:ByteArray} {l e:Int} {A:Option Addr} {n c:Nat} (h:w.heap[g]?=some (.cells (obC k l e A n c) 139 (0,0))) :
  w.cell? ⟨g,0,none⟩=some (.string k)/\w.cell? ⟨g,1,none⟩=some (.int .i64 l)/\w.cell? ⟨g,2,none⟩=some (.int .i64 e)/\w.cell? ⟨g,3,none⟩=some (.slice A n c):=by
 simp only [World.cell?,h,obC]
 exact ⟨rfl,rfl,rfl,rfl⟩
section
variable {w:World} {c b1 b2 n:Nat} {K M Z T L O:Int} {S:List Ob} {ad:ByteArray->Value} {m:Int->Bool}
def orL (m:Int->Bool) (l:List Int):Int->Bool:=fun a=>m a || decide (a ∈ l)
def offL (m:Int->Bool) (l:List Int):Int->Bool:=fun a=>m a && !decide (a ∈ l)
theorem set_cells {w:World} {g:Nat} {cells:Array Value} {t:TypeId} (h:w.heap[g]?=some (.cells cells t (0,0))) (i:Nat) (v:Value):(w.setCell ⟨g,i,none⟩ v).heap[g]?=some (.cells (cells.setIfInBounds i v) t (0,0)):=by
 simp [World.setCell,Array.getElem?_modify,h]
theorem gs_new {Q Q':Nat->Prop} {w w1 w2:World} (h:Gs Q w w1) (h2:Gs Q' w1 w2) (hq:∀ k,Q' k->w.heap.size<=k∨Q k):Gs Q w w2 :=
 ⟨h2.os.trans h.os,h2.tape.trans h.tape,h2.output.trans h.output,Nat.le_trans h.size h2.size,fun k hk hn=>(h2.block k (Nat.lt_of_lt_of_le hk h.size) (fun e=>(hq k e).elim (fun e2=>by omega) hn)).trans (h.block k hk hn)⟩
theorem cput_mid {w2:World} {g:Nat} {o:Ob} {A A2:Option Addr} {cc c2:Nat} (h:Cat w c K M Z T L O b1 b2 (offS S o.f0) ad m n) (hb:Below w.heap.size w w2) (hg:w.heap[g]?=some (.cells (obC o.f0 o.f1 o.f2 A o.f3.length cc) 139 (0,0)))
  (hR:Kd.R (Kd.int .i64) 3 w2 w.heap.size (fun _=>True) (.slice A2 o.f3.length c2) o.f3) (hS:S.length<=1000) (hk:o.f0.size<=1000000) (hg1:g≠c) (hg2:g≠b1) (hg3:g≠b2) :
  ∃ w3 ad',(Instr.mapUpdate 134 (.map (some b1)) (.string o.f0) (.agg #[.string o.f0,.int .i64 o.f1,.int .i64 o.f2,.slice A2 o.f3.length c2])).run Tryz.prog ((w2.setCell ⟨g,3,none⟩ (.slice A2 o.f3.length c2)).drew)=.ok () w3/\Cat w3 c K M Z T L O b1 b2 (putS S o) ad' m n/\w3.heap[g]?=some (.cells (obC o.f0 o.f1 o.f2 A2 o.f3.length c2) 139 (0,0))/\Rt w3 A2 o.f3/\Gs (fun j=>j=b1∨j=g) w w3:=by
 have h2:=h.below hb
 have hx2:=(hb.block _ (blk_lt hg)).trans hg
 obtain ⟨W,hW⟩:∃ W,(w2.setCell ⟨g,3,none⟩ (.slice A2 o.f3.length c2)).drew=W:=⟨_,rfl⟩
 have hWb:∀ k,k≠g->W.heap[k]?=w2.heap[k]? :=fun k hk=>by rw [<- hW];exact Below.heap_setCell w2 _ _ k hk
 have hWg:W.heap[g]?=some (.cells (obC o.f0 o.f1 o.f2 A2 o.f3.length c2) 139 (0,0)):=by rw [<- hW];exact set_cells hx2 3 _
 have hG:Gs (fun j=>j=b1∨j=g) w2 W:=by
  rw [<- hW]
  exact ((Gs.refl _ w2).step (grown_setCell w2 g 3 _) (fun k hk=>.inr (.inr (Option.some.inj hk).symm))).step (grown_drew _) (fun k hk=>by cases hk)
 obtain ⟨w3,hput,hm3,hg3',hs3⟩:=(h2.objs.keep (hWb b1 (fun e=>hg2 e.symm))).put Tryz.underlying134 (Nat.le_trans (List.length_filter_le _ _) (by omega)) o hk (.slice A2 o.f3.length c2)
 have hG2:Gs (fun j=>j=b1∨j=g) w2 w3:=hG.step hg3' (fun k hk=>.inr (.inl (Option.some.inj hk).symm))
 have hT:∀ k,(k=b1∨k=g)->¬ T3 w2 k:=by
  rintro k (rfl|rfl) ⟨cells,hc⟩
  ·obtain ⟨es,cl,h4⟩:=h2.objs.mapb
   rw [hc] at h4
   cases h4
  ·rw [hx2] at hc
   cases hc
 have hcn:=h2.c_ne
 rw [hW]
 have hoff:putS (offS S o.f0) o=putS S o:=by
  unfold putS offS
  rw [List.filter_filter]
  simp
 rw [hoff] at hm3
 refine ⟨w3,_,by simpa only [obV] using hput,⟨(hG2.block c h2.lt (by rintro (e|e);exact hcn (.inl e);exact hg1 e.symm)).trans h2.box,hm3,h2.own.keep (hG2.block b2 h2.own.lt (by rintro (e|e);exact h2.ne e.symm;exact hg3 e.symm)),fun x hx=>?_,h2.ne⟩,(hg3'.block g (blk_lt hWg) (by simp;exact hg2)).trans hWg,(Rt.of_R hR).gs hG2 hT,(Gs.of_below hb).trans hG2⟩
 rcases mem_putS.1 hx with rfl|⟨hx1,hx2⟩
 ·exact ⟨A2,c2,if_pos rfl,(Kd.R_reads' hR).2.1,(Rt.of_R hR).gs hG2 hT⟩
 ·obtain ⟨A',cc',q1,q2,q3⟩:=h2.rows x (mem_offS.2 ⟨hx1,hx2⟩)
  exact ⟨A',cc',(if_neg hx2).trans q1,q2,q3.gs hG2 hT⟩
set_option maxRecDepth 100000 in
set_option maxHeartbeats 2000000 in
theorem cput_ok (h:Cat w c K M Z T L O b1 b2 S ad m n) (o:Ob) {A:Option Addr} {cc:Nat} (hA:Rt w A o.f3) (hcc:o.f3.length<=cc) (hk:o.f0.size<=1000000) (hl:(strOf S o.f0).length<=1000) (hI:∀ x ∈ strOf S o.f0,I64 x/\m x=true) (hN:(strOf S o.f0).Nodup)
  (hS:S.length<=1000) (hn:n<=1000) (ho:o.f3.length<=1000) (hoI:∀ x ∈ o.f3,I64 x/\offL m (strOf S o.f0) x=false) (hoN:o.f3.Nodup) :
  Calls Tryz.prog 61 #[.pointer (some ⟨c,0,none⟩),obV o (.slice A o.f3.length cc)] w fun e w'=>e=.returned (.tuple #[])/\(∃ ad',Cat w' c K M Z T L O b1 b2 (putS S o) ad' (orL (offL m (strOf S o.f0)) o.f3) (n - (strOf S o.f0).length+o.f3.length))/\Gs (fun j=>j=b1∨j=b2) w w':=by
 have HD:=Aside0.mk (fun (W:World) (hb:Below w.heap.size w W)=>drop_ok (h.below hb) hk hl hI hN)
 have HC:=Aside0.mk (fun (W:World) (hb:Gs (fun j=>j=b1∨j=b2) w W)=>clone88 A cc o.f3 W (hA.gs hb (no_T3 h.mapQ)).1 hcc (by omega))
 have HH:=Aside0.mk (And.intro h (And.intro hS (And.intro hn (And.intro ho (And.intro hoI (And.intro hoN hk))))))
 unfold obV
 have HB:=Aside0.mk (Below.refl w.heap.size w)
 have hl1:=h.objs.lt
 have hl2:=h.own.lt
 have hl0:=h.lt
 clear h hA hcc hl hI hN hS hn ho hoI hoN hk
 go_enter Tryz.func61,Tryz.ntmps61
 go_wp2_with (first|(go_at_call 88;go_loud (refine (HC.out _ H1.out.2.1).mono ?_;rintro e2 w2 ⟨v2,rfl,hR2,hb2⟩;obtain ⟨A2,c2,rfl⟩:=Kd.R_slice hR2;have hbx2:=(hb2.block _ (blk_lt H1.out.2.2)).trans H1.out.2.2;have hfz:w2.frozen? ⟨w.heap.size,3,none⟩=false:=(by simp [World.frozen?,hbx2]);obtain ⟨q0,q1,q2,q3⟩:=ob_cells hbx2;obtain ⟨t0,t1,t2,t3⟩:=ob_cells (show (w2.setCell ⟨w.heap.size,3,none⟩ (.slice A2 o.f3.length c2)).heap[w.heap.size]?=some (.cells (obC o.f0 o.f1 o.f2 A2 o.f3.length c2) 139 (0,0)) from set_cells hbx2 3 _);have hne:w.heap.size≠c:=(by omega);have hne1:w.heap.size≠b1:=(by omega);obtain ⟨_,_,_,_,_,_,t6,_⟩:=cat_cells (show (w2.setCell ⟨w.heap.size,3,none⟩ (.slice A2 o.f3.length c2)).heap[c]?=_ from (Below.heap_setCell w2 _ _ c hne.symm).trans (H1.out.1.below hb2).box);obtain ⟨w3,ad3,hput,hc3,hbx3,hr3,hg3⟩:=cput_mid H1.out.1 hb2 H1.out.2.2 hR2 HH.out.2.1 HH.out.2.2.2.2.2.2 hne hne1 (by omega);obtain ⟨s0,s1,s2,s3⟩:=ob_cells hbx3;obtain ⟨_,_,_,_,_,_,_,r7⟩:=cat_cells hc3.box;have H3:=Aside0.mk (And.intro hc3 (And.intro hbx3 (And.intro hr3 (gs_new H1.out.2.1 hg3 (fun k h=>h.elim (fun e=>.inr (.inl e)) (fun e=>.inl (Nat.le_of_eq e.symm)))))));clear hR2 hb2 hbx2 hc3 hbx3 hr3 hg3))|(go_at_call 87;go_loud (refine (HD.out _ (below_alloc HB.out _)).mono ?_;rintro e1 w1 ⟨rfl,hc1,hg1⟩;have hbx:w1.heap[w.heap.size]?=some (.cells (obC o.f0 o.f1 o.f2 A o.f3.length cc) 139 (0,0)):=(hg1.block _ (by simp) (by omega)).trans (heap_alloc_new w _);obtain ⟨p0,p1,p2,p3⟩:=ob_cells hbx;have H1:=Aside0.mk (And.intro hc1 (And.intro ((Gs.of_below (below_alloc HB.out _)).trans hg1) hbx));clear hc1 hg1 hbx)))
 generalize w2.setCell ⟨w.heap.size,3,none⟩ (.slice A2 o.f3.length c2)=W at *
 go_still_tail 7,(by kernel_rfl)
 change wpList _ _ _ _ _ W.drew
 generalize W.drew=W2 at *
 go_wp2
 go_loopg [24] o.f3.length (fun kq x wr=>∃ i:Nat,x=.int .i64 i/\i+kq=o.f3.length/\Aside0 (Mo wr b2 (orL (offL m (strOf S o.f0)) (o.f3.take i)) (n - (strOf S o.f0).length+i)/\Gs (fun j=>j=b2) w3 wr))
 case atStart=>exact ⟨0,rfl,by omega,⟨H3.out.1.own.congr (fun a _=>by simp [orL,offL]) (by omega),Gs.refl _ _⟩⟩
 case round =>
  obtain ⟨i,rfl,hik,HX⟩:=hrel
  have hQ:∀ k,k=b2->∃ es cl,w3.heap[k]?=some (.map es cl):=fun k hq=>H3.out.1.mapQ k (.inr hq)
  have hcn:=H3.out.1.c_ne
  have e1:wr.heap[c]?=some (.cells (catC K M Z T L O b1 b2) 137 (0,0)):=(HX.out.2.block c H3.out.1.lt (fun e=>hcn (.inr e))).trans H3.out.1.box
  have e2:wr.heap[w.heap.size]?=some (.cells (obC o.f0 o.f1 o.f2 A2 o.f3.length c2) 139 (0,0)):=(HX.out.2.block _ (blk_lt H3.out.2.1) (by omega)).trans H3.out.2.1
  obtain ⟨_,_,_,_,_,_,_,d7⟩:=cat_cells e1
  obtain ⟨d0,_,_,_⟩:=ob_cells e2
  clear e1 e2
  by_cases hin:i < o.f3.length
  ·have g1:(i:Int) < (o.f3.length:Int):=by omega
   have g3:(0:Int)<=(i:Int):=by omega
   obtain ⟨a,hA,hc⟩:=((Rw.of_C H3.out.2.2.1.1).maps HX.out.2 hQ).at_ i hin
   have hmem:o.f3.getD i 0 ∈ o.f3:=by rw [List.getD_eq_getElem?_getD,List.getElem?_eq_getElem hin];exact List.getElem_mem hin
   have hnt:¬ o.f3.getD i 0 ∈ o.f3.take i:=by
    rw [List.getD_eq_getElem?_getD,List.getElem?_eq_getElem hin,Option.getD_some]
    intro hm
    obtain ⟨j,hj,he⟩:=List.mem_take_iff_getElem.1 hm
    have:=(List.getElem_inj HH.out.2.2.2.2.2.1).1 he
    omega
   subst hA
   obtain ⟨xv,hxv⟩:∃ xv,o.f3.getD i 0=xv:=⟨_,rfl⟩
   rw [hxv] at hc hmem hnt
   obtain ⟨w4,hput4,hmo,hg4,hs4⟩:=(HX.out.1.keep (W:=wr.drew) rfl).put Tryz.underlying135 (by have:=HH.out.2.2.1;have:=HH.out.2.2.2.1;omega) (HH.out.2.2.2.2.1 _ hmem).1 (by simp only [orL,(HH.out.2.2.2.2.1 _ hmem).2,hnt,decide_false,Bool.or_false]) (.string o.f0)
   have H4:=Aside0.mk (And.intro hmo (And.intro hg4 (And.intro hxv (Gs.of_below (S:=fun j=>j=b2) (below_drew1 (Below.refl wr.heap.size wr))))))
   clear hmo hg4 hs4 hmem hnt hxv
   have gw:wrap64 ((i:Int)+1)=(i:Int)+1:=w64 _ (by have:=HH.out.2.2.2.1;omega)
   go_wp2
   go_still_tail 7,(by kernel_rfl)
   change wpList _ _ _ _ _ wr.drew
   generalize wr.drew=W4 at *
   go_wp2
   go_roundg (o.f3.length - (i+1))
   case measure=>exact meas5 hin hik
   case rel =>
    refine ⟨i+1,by simp [gw],meas4 hin,⟨H4.out.1.congr (fun x _=>?_) (by omega),(HX.out.2.trans H4.out.2.2.2).trans (Gs.of_grown H4.out.2.1 (fun k hk _=>(Option.some.inj hk).symm))⟩⟩
    have e3:o.f3[i]=xv:=by rw [<- H4.out.2.2.1,List.getD_eq_getElem?_getD,List.getElem?_eq_getElem hin,Option.getD_some]
    unfold orL
    rw [List.take_add_one,List.getElem?_eq_getElem hin,e3]
    simp only [Option.toList_some,List.mem_append,List.mem_singleton,Bool.decide_or,Bool.or_assoc]
  ·have g1:¬ (i:Int) < (o.f3.length:Int):=by omega
   have e0:i=o.f3.length:=by omega
   subst e0
   go_wp2
   refine bodyPost_end (results_none rfl _ _ _) rfl ?_
   refine ⟨rfl,⟨ad3,?_⟩,H3.out.2.2.2.trans (HX.out.2.mono (fun k _ h=>.inr h))⟩
   refine ⟨(HX.out.2.block c H3.out.1.lt (fun e=>hcn (.inr e))).trans H3.out.1.box,H3.out.1.objs.keep (HX.out.2.block b1 H3.out.1.objs.lt H3.out.1.ne),HX.out.1.congr (fun x _=>by rw [List.take_length]) rfl,fun x hx=>?_,H3.out.1.ne⟩
   obtain ⟨A',cc',q1,q2,q3⟩:=H3.out.1.rows x hx
   exact ⟨A',cc',q1,q2,q3.gs HX.out.2 (no_T3 hQ)⟩
end
end Go.Proofs.YtmmcbncpnlknbaaGreat.Top
