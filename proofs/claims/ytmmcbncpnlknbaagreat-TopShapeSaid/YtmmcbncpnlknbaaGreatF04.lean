import Derived.Test.YtmmcbncpnlknbaaGreatF03
import Derived.Test.YtmmcbncpnlknbaaGreatProg
import Derived.Maps.RangeWalk
import Derived.Maps.OwnSet
import Derived.Lib.SliceRun
import Derived.Deep.RegionLaw
import Derived.RegionDies
import Derived.Recover
import Derived.Defers
import Derived.Carry
set_option linter.unusedVariables false
set_option linter.unusedSimpArgs false
namespace Go.Proofs.YtmmcbncpnlknbaaGreat.Top
open Go Go.RowKit Go.Proofs.YtmmcbncpnlknbaaGreatW.PrintWords Go.Proofs.YtmmcbncpnlknbaaGreatW.PrintLast Go.Proofs.YtmmcbncpnlknbaaGreatW.PrintMore
def rv (v:Value):Option (DataW Value×List MemPlace):=some (.held v,[])
def I64 (a:Int):Prop:=(Lit.int .i64 a).wf=true
theorem i64_of {a:Int} (h0:-9223372036854775808<=a) (h1:a<=9223372036854775807):I64 a:=by
 unfold I64
 simp [Lit.wf,IntKind.min,IntKind.max,IntKind.signed,IntKind.bits]
 omega
def Mi (w:World) (b n:Nat) (m:Int->Option Value):Prop :=
 ∃ D,w.ownsMap Tryz.prog 3 rv b n D/\∀ a,I64 a->Maps.has D (.int .i64 a)=(m a).isSome/\∀ v zd,m a=some v->D.atKey (.int .i64 a) zd=.held v
theorem ki:Maps.Keyed Tryz.prog 3:=Maps.int_keyed Tryz.underlying3
theorem key_int {a:Int} (h:I64 a):keyOf Tryz.prog 3 (.int .i64 a)=some (.int .i64 a):=Maps.keyOf_int_mk Tryz.underlying3 h
theorem lit_ne {a b:Int} (h:a≠b):(Lit.int .i64 a)≠(Lit.int .i64 b):=fun e=>h (by injection e)
section
variable {w:World} {b n r cnt:Nat} {m:Int->Option Value} {l:Int->Bool}
theorem Mi.lt (h:Mi w b n m):b < w.heap.size:=by
 obtain ⟨D,h,_⟩:=h
 exact h.lt
theorem Mi.mono (h:Mi w b n m) {n':Nat} (hn:n<=n'):Mi w b n' m:=by
 obtain ⟨D,h,hm⟩:=h
 exact ⟨D,h.mono hn,hm⟩
theorem Mi.keep (h:Mi w b n m) {W:World} (hb:W.heap[b]?=w.heap[b]?):Mi W b n m:=by
 obtain ⟨D,⟨es,clock,h1,h2⟩,hm⟩:=h
 exact ⟨D,⟨es,clock,hb.trans h1,h2⟩,hm⟩
theorem Mi.made (w:World):Mi (w.alloc (.map #[] 0)) w.heap.size 0 (fun _=>none) :=
 ⟨_,World.ownsMap_made w _ _ _,fun a _=>⟨rfl,fun v zd hv=>by cases hv⟩⟩
theorem Mi.look (h:Mi w b n m) {t e:TypeId} (ht:Tryz.prog.underlying t=some (.map 3 e)) {z:Value} (hz:(zeroValue e).run Tryz.prog w=.ok z w) {a:Int} (ha:I64 a) :
  (Instr.lookup t (.map (some b)) (.int .i64 a) true).run Tryz.prog w=.ok (.tuple #[(m a).getD z,.bool (m a).isSome]) w:=by
 obtain ⟨D,h,hm⟩:=h
 obtain ⟨v,ps,hrun,hv⟩:=h.look_ok ki ht hz (zd:=.held z) (zp:=[]) rfl (key_int ha)
 obtain ⟨h1,h2⟩:=hm a ha
 rw [hrun,h1]
 cases hma:m a with
 | none =>
  rw [hma] at h1
  rw [Maps.atKey_of_not_has h1] at hv
  simp only [rv,Option.some.injEq,Prod.mk.injEq,DataW.held.injEq] at hv
  simp [hv.1]
 | some x =>
  rw [h2 x (.held z) hma] at hv
  simp only [rv,Option.some.injEq,Prod.mk.injEq,DataW.held.injEq] at hv
  simp [hv.1]
theorem Mi.look1 (h:Mi w b n m) {t e:TypeId} (ht:Tryz.prog.underlying t=some (.map 3 e)) {z:Value} (hz:(zeroValue e).run Tryz.prog w=.ok z w) {a:Int} (ha:I64 a) :
  (Instr.lookup t (.map (some b)) (.int .i64 a) false).run Tryz.prog w=.ok ((m a).getD z) w:=by
 obtain ⟨D,⟨es,clock,hb,F,hs,rfl⟩,hm⟩:=h
 obtain ⟨h1,h2⟩:=hm a ha
 rcases Maps.fit_look false ki ht hz hb F (key_int ha) with ⟨hrun,_,hat⟩|⟨e0,y,_,_,hrun,hRv,hat,_⟩
 ·rw [Maps.has_false_of_atKey hat] at h1
  cases hma:m a with
  | none=>rw [hrun];rfl
  | some x=>rw [hma] at h1;cases h1
 ·rw [Maps.has_true_of_atKey hat] at h1
  cases hma:m a with
  | none=>rw [hma] at h1;cases h1
  | some x =>
   have h3:=h2 x (.held x) hma
   rw [hat] at h3
   simp only [rv,Option.some.injEq] at hRv
   rw [<- hRv] at h3
   simp only [DataW.held.injEq] at h3
   rw [hrun,h3]
   rfl
def upd (m:Int->Option Value) (a:Int) (v:Value):Int->Option Value:=fun x=>if x=a then some v else m x
theorem Mi.put (h:Mi w b n m) {t e:TypeId} (ht:Tryz.prog.underlying t=some (.map 3 e)) (hn:n < maxLen) {a:Int} (ha:I64 a) (v:Value) :
  ∃ w',(Instr.mapUpdate t (.map (some b)) (.int .i64 a) v).run Tryz.prog w=.ok () w'/\Mi w' b (n+1) (upd m a v)/\w.grownBy w' (some b)/\w'.heap.size=w.heap.size:=by
 obtain ⟨D,h,hm⟩:=h
 obtain ⟨w',hrun,h2,h3⟩:=h.store ki ht hn (key_int ha) (d:=.held v) (ps:=[]) rfl
 refine ⟨w',hrun,⟨_,h2,fun x hx=>?_⟩,h3.grown,?_⟩
 ·unfold upd
  by_cases hxa:x=a
  ·subst hxa
   rw [if_pos rfl]
   refine ⟨Maps.has_put_same h.isMap (ki.key (key_int hx)) _,fun v' zd hv=>?_⟩
   cases hv
   exact Maps.atKey_put_same h.isMap (ki.key (key_int hx)) _ _
  ·rw [if_neg hxa,Maps.has_put_other (lit_ne hxa)]
   exact ⟨(hm x hx).1,fun v' zd hv=>by rw [Maps.atKey_put_other (lit_ne hxa)];exact (hm x hx).2 v' zd hv⟩
 ·obtain ⟨es,clock,es',clock',_,rfl⟩:=h3
  simp [Go.ChangeMaps.setBlock]
theorem Mi.clear (h:Mi w b n m) {t e:TypeId} (ht:Tryz.prog.underlying t=some (.map 3 e)) (ty:TypeId) :
  ∃ w',(Builtin.clear_ #[t] ty #[.map (some b)]).run Tryz.prog w=.ok (.tuple #[]) w'/\Mi w' b 0 (fun _=>none)/\w.grownBy w' (some b)/\w'.heap.size=w.heap.size:=by
 obtain ⟨D,⟨es,clock,hb,F,hs,rfl⟩,hm⟩:=h
 refine ⟨Go.ChangeMaps.setBlock w b (.map #[] clock),?_,⟨.map [],⟨#[],clock,?_,?_,by simp,rfl⟩,fun a _=>⟨rfl,fun v zd hv=>by cases hv⟩⟩,?_,by simp [Go.ChangeMaps.setBlock]⟩
 ·simp [Builtin.clear_,run_underlying ht,MapKept.run_getObj_map hb,MapKept.run_setObj_map _ hb,Result.andThen,Go.ChangeMaps.setBlock]
 ·exact Go.ChangeMaps.heap_setBlock_same hb _
 ·exact ⟨by simp [maxLen],⟨by simp,by simp,by simp⟩,by simp⟩
 ·refine ⟨rfl,rfl,rfl,by simp [Go.ChangeMaps.setBlock],fun k hk hne=>?_⟩
  have:b≠k:=fun e=>hne (by rw [e])
  simp [Go.ChangeMaps.setBlock,Array.getElem?_setIfInBounds,this]
def Rg (w:World) (b r n:Nat) (m:Int->Option Value) (left:Int->Bool) (cnt:Nat):Prop :=
 ∃ D l,w.ranges Tryz.prog 3 rv b r n D l cnt/\(∀ a,I64 a->Maps.has D (.int .i64 a)=(m a).isSome/\∀ v zd,m a=some v->D.atKey (.int .i64 a) zd=.held v)/\(∀ a,I64 a->l (.int .i64 a)=left a)/\∀ a,left a=true->(m a).isSome=true
theorem Rg.map (h:Rg w b r n m l cnt):Mi w b n m:=by
 obtain ⟨D,l,h,hm,_⟩:=h
 exact ⟨D,h.owns,hm⟩
theorem Rg.keep (h:Rg w b r n m l cnt) {W:World} (hb:W.heap[b]?=w.heap[b]?) (hr:W.heap[r]?=w.heap[r]?):Rg W b r n m l cnt:=by
 obtain ⟨D,l,⟨es,clock,since,seen,c0,h1,h2,h3,h4,h5,h6⟩,hm⟩:=h
 exact ⟨D,l,⟨es,clock,since,seen,c0,hb.trans h1,h2,h3,h4,hr.trans h5,h6⟩,hm⟩
theorem Rg.ne (h:Rg w b r n m l cnt):r≠b:=by
 obtain ⟨D,l,h,_⟩:=h
 exact h.ne
theorem Rg.lt (h:Rg w b r n m l cnt):r < w.heap.size:=by
 obtain ⟨D,l,h,_⟩:=h
 exact h.lt
theorem Rg.iter (h:Rg w b r n m l cnt):∃ x y z u,w.heap[r]?=some (.mapIter x y z u):=by
 obtain ⟨D,l,⟨es,clock,since,seen,c0,h1,h2,h3,h4,h5,h6⟩,hm⟩:=h
 exact ⟨_,_,_,_,h5⟩
theorem Mi.range (h:Mi w b n m) (hI:∀ a,(m a).isSome=true->I64 a) {t e:TypeId} (ht:Tryz.prog.underlying t=some (.map 3 e)) :
  ∃ w' cnt,(Instr.range t (.map (some b))).run Tryz.prog w=.ok (.pointer (some ⟨w.heap.size,0,none⟩)) w'/\Rg w' b w.heap.size n m (fun a=>(m a).isSome) cnt/\w.grownBy w' none/\w'.heap.size=w.heap.size+1/\cnt<=n:=by
 obtain ⟨D,h,hm⟩:=h
 have hle:=h.size_le
 obtain ⟨w',hrun,hr,hg,hs⟩:=h.range ki ht
 exact ⟨w',_,hrun,⟨D,_,hr,hm,fun a ha=>(hm a ha).1,fun a ha=>ha⟩,hg,hs,hle⟩
theorem Rg.next (h:Rg w b r n m l cnt) (hI:∀ a,l a=true->I64 a) (ty:TypeId) :
  (cnt=0/\(∀ a,l a=false)/\(Instr.next (.pointer (some ⟨r,0,none⟩)) false ty).run Tryz.prog w=.ok (.tuple #[.bool false]) w) ∨
  ∃ a v w' cnt',l a=true/\m a=some v/\(Instr.next (.pointer (some ⟨r,0,none⟩)) false ty).run Tryz.prog w=.ok (.tuple #[.bool true,.int .i64 a,v]) w' /\
   Rg w' b r n m (fun x=>l x && !decide (x=a)) cnt'/\cnt' < cnt/\w.grownBy w' (some r)/\w'.heap.size=w.heap.size/\(Instr.entry (.pointer (some ⟨r,0,none⟩))).run Tryz.prog w'=.ok (.tuple #[.int .i64 a,v]) w':=by
 obtain ⟨D,ll,h,hm,hl,hlm⟩:=h
 rcases h.next ki ty with ⟨h0,hn,hrun⟩|⟨key,v,kl,y,w',cnt',hkey,hleft,hv,hat,hrun,hr,hlt,hg,hs,hen⟩
 ·refine .inl ⟨h0,fun a=>?_,hrun⟩
  cases ha:l a with
  | false=>rfl
  | true=>rw [<- hl a (hI a ha),hn] at ha;cases ha
 ·obtain ⟨a,rfl,rfl,ha⟩:=Maps.keyOf_int_inv Tryz.underlying3 hkey
  have hla:=(hl a ha).symm.trans hleft
  have hma:=hlm a hla
  obtain ⟨x,hx⟩:=Option.isSome_iff_exists.1 hma
  have h3:=(hm a ha).2 x (.held x) hx
  rw [hat] at h3
  simp only [rv,Option.some.injEq] at hv
  rw [<- hv] at h3
  simp only [DataW.held.injEq] at h3
  subst h3
  refine .inr ⟨a,v,w',cnt',hla,hx,hrun,⟨D,_,hr,hm,fun z hz=>?_,fun z hz=>?_⟩,hlt,hg,hs,hen⟩
  ·show (ll (.int .i64 z) && !(Lit.int .i64 z).sameKey (.int .i64 a))=_
   have e:(Lit.int .i64 z).sameKey (.int .i64 a)=decide (z=a):=by
    by_cases hza:z=a
    ·rw [decide_eq_true hza,hza]
     exact WideAt.sameKey_self (ki.key (key_int ha))
    ·rw [decide_eq_false hza]
     exact Maps.sameKey_ne (lit_ne hza)
   rw [hl z hz,e]
  ·rw [Bool.and_eq_true] at hz
   exact hlm z hz.1
end
def Fz (w:World) (k:Nat):Prop:=∃ cells t,w.heap[k]?=some (.cells cells t (0,0))/\t ∉ ([119,95,90,110,63,43,30]:List Nat)
structure Fr (B:Nat) (w W:World):Prop where
 os:W.os=w.os
 tape:W.tape=w.tape
 output:W.output=w.output
 size:w.heap.size<=W.heap.size
 block:∀ k,k < w.heap.size->(k < B∨Fz w k)->W.heap[k]?=w.heap[k]?
theorem Fr.refl (B:Nat) (w:World):Fr B w w:=⟨rfl,rfl,rfl,Nat.le_refl _,fun _ _ _=>rfl⟩
theorem Fr.fz {B:Nat} {w W:World} (h:Fr B w W) {k:Nat} (hk:k < w.heap.size) (hf:k < B∨Fz w k):k < B∨Fz W k:=by
 rcases hf with hf|⟨cells,t,h1,h2⟩
 ·exact .inl hf
 ·exact .inr ⟨cells,t,(h.block k hk (.inr ⟨cells,t,h1,h2⟩)).trans h1,h2⟩
theorem Fr.trans {B:Nat} {a b c:World} (h:Fr B a b) (k:Fr B b c):Fr B a c :=
 ⟨k.os.trans h.os,k.tape.trans h.tape,k.output.trans h.output,Nat.le_trans h.size k.size,fun i hi hf=>(k.block i (Nat.lt_of_lt_of_le hi h.size) (h.fz hi hf)).trans (h.block i hi hf)⟩
theorem Fr.of_below {B:Nat} {w W:World} (h:Below w.heap.size w W):Fr B w W:=⟨h.os,h.tape,h.output,h.size,fun k hk _=>h.block k hk⟩
theorem Fr.of_grown {B:Nat} {w W:World} {b:Nat} (h:w.grownBy W (some b)) (hB:B<=b) (hb:¬ Fz w b):Fr B w W :=
 ⟨h.os,h.tape,h.output,h.size,fun k hk hf=>h.block k hk (fun e=>by
  cases e
  rcases hf with hf|hf
  ·omega
  ·exact hb hf)⟩
theorem Fr.of_grown0 {B:Nat} {w W:World} (h:w.grownBy W none):Fr B w W:=⟨h.os,h.tape,h.output,h.size,fun k hk _=>h.block k hk (by simp)⟩
theorem Fr.below {B:Nat} {w W:World} (h:Fr B w W) (hB:B<=w.heap.size):Below B w W:=⟨h.os,h.tape,h.output,h.size,fun k hk=>h.block k (Nat.lt_of_lt_of_le hk hB) (.inl hk)⟩
structure Gs (S:Nat->Prop) (w W:World):Prop where
 os:W.os=w.os
 tape:W.tape=w.tape
 output:W.output=w.output
 size:w.heap.size<=W.heap.size
 block:∀ k,k < w.heap.size->¬ S k->W.heap[k]?=w.heap[k]?
theorem Gs.refl (S:Nat->Prop) (w:World):Gs S w w:=⟨rfl,rfl,rfl,Nat.le_refl _,fun _ _ _=>rfl⟩
theorem Gs.trans {S:Nat->Prop} {a b c:World} (h:Gs S a b) (k:Gs S b c):Gs S a c :=
 ⟨k.os.trans h.os,k.tape.trans h.tape,k.output.trans h.output,Nat.le_trans h.size k.size,fun i hi hf=>(k.block i (Nat.lt_of_lt_of_le hi h.size) hf).trans (h.block i hi hf)⟩
theorem Gs.mono {S S':Nat->Prop} {a b:World} (h:Gs S a b) (hs:∀ k,k < a.heap.size->S k->S' k):Gs S' a b:=⟨h.os,h.tape,h.output,h.size,fun k hk hn=>h.block k hk (fun e=>hn (hs k hk e))⟩
theorem Gs.of_below {S:Nat->Prop} {w W:World} (h:Below w.heap.size w W):Gs S w W:=⟨h.os,h.tape,h.output,h.size,fun k hk _=>h.block k hk⟩
theorem Gs.of_grown {S:Nat->Prop} {w W:World} {r:Option Nat} (h:w.grownBy W r) (hS:∀ k,r=some k->k < w.heap.size->S k):Gs S w W :=
 ⟨h.os,h.tape,h.output,h.size,fun k hk hn=>h.block k hk (fun e=>hn (hS k e.symm hk))⟩
theorem Gs.step {S:Nat->Prop} {a b c:World} {r:Option Nat} (h:Gs S a b) (k:b.grownBy c r) (hr:∀ j,r=some j->a.heap.size<=j∨S j):Gs S a c :=
 ⟨k.os.trans h.os,k.tape.trans h.tape,k.output.trans h.output,Nat.le_trans h.size k.size,fun i hi hn=>(k.block i (Nat.lt_of_lt_of_le hi h.size) (fun e=>by
  rcases hr i e.symm with h1|h1
  ·omega
  ·exact hn h1)).trans (h.block i hi hn)⟩
theorem iter_nfz {w:World} {r:Nat} (h:∃ x y z u,w.heap[r]?=some (.mapIter x y z u)):¬ Fz w r:=by
 rintro ⟨cells,t,h1,_⟩
 obtain ⟨x,y,z,u,h⟩:=h
 rw [h] at h1
 cases h1
theorem Gs.fr {S:Nat->Prop} {B:Nat} {w W:World} (h:Gs S w W) (hS:∀ k,k < w.heap.size->S k->B<=k/\¬ Fz w k):Fr B w W :=
 ⟨h.os,h.tape,h.output,h.size,fun k hk hf=>h.block k hk (fun e=>by
  obtain ⟨h1,h2⟩:=hS k hk e
  rcases hf with hf|hf
  ·omega
  ·exact h2 hf)⟩
theorem map_nfz {w:World} {b:Nat} {es:Array MapEntry} {c:Nat} (h:w.heap[b]?=some (.map es c)):¬ Fz w b:=by
 rintro ⟨cells,t,h1,_⟩
 rw [h] at h1
 cases h1
theorem Mi.nfz {w:World} {b n:Nat} {m:Int->Option Value} (h:Mi w b n m):¬ Fz w b:=by
 obtain ⟨D,⟨es,clock,hb,_⟩,_⟩:=h
 exact map_nfz hb
def Im (B:Nat) (w:World) (v:Value) (l:List Int):Prop:=Kd.V (Kd.int .u8) 5 w 0 (fun k=>k < B∨Fz w k) v l
theorem Im.fr {B:Nat} {w W:World} {v:Value} {l:List Int} (h:Im B w v l) (hf:Fr B w W):Im B W v l:=by
 obtain ⟨A,c,rfl,hl,h⟩:=h
 refine ⟨A,c,rfl,hl,fun W2 hW=>h W2 (fun k hk hlt=>?_)⟩
 exact (hW k (hf.fz hlt hk) (Nat.lt_of_lt_of_le hlt hf.size)).trans (hf.block k hlt hk)
theorem Im.nil (B:Nat) (w:World):Im B w (.slice none 0 0) []:=Kd.V_nil _ _ _ _ _
theorem Im.slice {B:Nat} {w:World} {v:Value} {l:List Int} (h:Im B w v l):∃ A c,v=.slice A l.length c/\l.length<=c/\(Kd.int .u8).C w A l.length l:=by
 obtain ⟨A,c,rfl,hl,h⟩:=h
 exact ⟨A,c,rfl,hl,Kd.F_now h⟩
theorem Im.of_R {B base:Nat} {w:World} {ok:Nat->Prop} {v:Value} {l:List Int} (h:Kd.R (Kd.int .u8) 5 w base ok v l):Im B w v l:=by
 have h2:Kd.R (Kd.int .u8) 5 w base (fun k=>k < B∨Fz w k) v l:=Kd.R_flat (fun hm=>hm) h (fun k hk _=>by
  obtain ⟨cells,hc⟩:=Kd.R_typed h k hk
  exact .inr ⟨cells,5,hc,by decide⟩)
 exact Kd.R_V h2
def Mr (B:Nat) (w:World) (b n:Nat) (f:Int->Option (List Int)):Prop :=
 B<=b/\∃ m,Mi w b n m/\∀ a,(∀ v,m a=some v->I64 a/\∃ x,f a=some x/\Im B w v x)/\(m a=none->f a=none)
theorem Mr.fr {B:Nat} {w W:World} {b n:Nat} {f:Int->Option (List Int)} (h:Mr B w b n f) (hf:Fr B w W) (hb:W.heap[b]?=w.heap[b]?):Mr B W b n f:=by
 obtain ⟨hB,m,hm,h⟩:=h
 refine ⟨hB,m,hm.keep hb,fun a=>⟨fun v hv=>?_,(h a).2⟩⟩
 obtain ⟨h1,x,h2,h3⟩:=(h a).1 v hv
 exact ⟨h1,x,h2,h3.fr hf⟩
def updR (f:Int->Option (List Int)) (a:Int) (x:List Int):Int->Option (List Int):=fun y=>if y=a then some x else f y
def eff (fl fw:Int->Option (List Int)) (a:Int):List Int:=((fw a).or (fl a)).getD []
structure Dk (B:Nat) (w:World) (d bl bw:Nat) (sec:Int) (nl nw:Nat) (dead:Bool) (fl fw:Int->Option (List Int)):Prop where
 geB:B<=d
 cell:w.heap[d]?=some (.cells #[.int .i64 sec,.map (some bl),.map (some bw),.bool dead] 119 (0,0))
 ml:Mr B w bl nl fl
 mw:Mr B w bw nw fw
 ne:bl≠bw
set_option maxHeartbeats 2000000 in
set_option maxRecDepth 100000 in
theorem clone (A0:Option Addr) (c0:Nat) (l0:List Int) (w:World) (hr0:Kd.C (Kd.int .u8) w A0 l0.length l0) (hc0:l0.length<=c0) (hbig:l0.length < 140737488355328) :
  Calls Tryz.prog 112 #[.slice A0 l0.length c0] w fun e w'=>∃ v0_:Value,e=.returned (v0_)/\Kd.R (Kd.int .u8) 5 w' w.heap.size (fun _=>True) v0_ l0/\Below w.heap.size w w':=by
 ·skip
  have q:∀ (w:World) (a:Option Addr) (n c n' c':Nat),(binOp .eql 36 (.slice a n c) (.slice none n' c')).run Tryz.prog w=.ok (.bool a.isNone) w:=fun w a n c n' c'=>Lib.run_eql_slice_nil w _ _ a n c n' c' Tryz.underlying36
  cases A0 with
  | none =>
   have hz:l0=[]:=by
    cases l0 with
    | nil=>rfl
    | cons x t=>obtain ⟨_,_,h3⟩:=hr0;obtain ⟨ad,e,_⟩:=h3 (by simp);cases e
   subst hz
   clear hr0
   go_enter Tryz.func112,Tryz.ntmps112
   go_wp2
   go_ret
   exact ⟨_,rfl,Kd.R_nil _ _ _ _ _,Below.refl _ _⟩
  | some a =>
   obtain ⟨i0,hi,hz0,hz1,hz2⟩:=info_parts (show (Tryz.prog.info? 5).map (fun i=>(i.zero,i.size,i.bytes))=some (some (.int .u8 0),1,1) from by kernel_rfl)
   have hcell:∀ i,i < l0.length->w.cell? (a.add i)=some (.int .u8 (l0.getD i 0)):=by
    intro i hi
    obtain ⟨ad,e,h3⟩:=Kd.at_int hr0 i (by omega) (by omega)
    obtain rfl:=Option.some.inj e
    simpa [rd] using h3
   have A:Aside0 (∀ i,i < l0.length->w.cell? (a.add i)=some (.int .u8 (l0.getD i 0))):=⟨hcell⟩
   clear hcell hr0 hc0
   go_enter Tryz.func112,Tryz.ntmps112
   go_wp2_with (at_builtin;refine wpList_append_own _ rfl _ _ 36 rfl w.heap.size 5 i0 (.int .u8 0) 1 1 Tryz.underlying36 hi hz0 hz1 hz2 rfl (by decide) _ _ _ rfl (World.ownsRow_made w #[] 0 (Nat.le_refl _) (Nat.zero_le _) rfl) a l0.length c0 (l0.map (Value.int .u8)) rfl ?qc1 ?qc2 ?qc3 ?qc4 ?qc5 ?qc6 ?_)
   case qc1=>simp
   case qc2 =>
    intro j u hj
    have hjn:j < l0.length:=by
     have:=(List.getElem?_eq_some_iff.1 hj).1
     simp at this
     omega
    refine Lib.cell?_alloc_some _ ?_
    rw [A.out j hjn]
    have e:(l0.map (Value.int .u8))[j]?=some (Value.int .u8 (l0.getD j 0)):=by simp [List.getD,List.getElem?_eq_getElem (show j < l0.length by omega)]
    rw [e] at hj
    exact hj
   case qc3=>intro u hu;obtain ⟨x,_,rfl⟩:=List.mem_map.1 hu;rfl
   case qc4=>unfold maxLen;omega
   case qc5=>omega
   case qc6=>simp
   intro v' w1 hown hgrow hnil
   go_wp2
   go_ret
   refine ⟨v',rfl,?_,((Below.refl _ w).alloc (Nat.le_refl _) _).grown hgrow (by simp) (by intro k hk;simp [Value.ownBlock] at hk;omega)⟩
   exact Kd.R_of_own (h1:=fun _=>rfl) (by simpa [encs] using hown) (fun _ _=>trivial)
section
variable {B:Nat} {w:World} {d bl bw nl nw:Nat} {sec:Int} {dead:Bool} {fl fw:Int->Option (List Int)}
theorem Dk.lt (h:Dk B w d bl bw sec nl nw dead fl fw):d < w.heap.size:=(Array.getElem?_eq_some_iff.1 h.cell).1
theorem Dk.nfd (h:Dk B w d bl bw sec nl nw dead fl fw):¬ Fz w d:=by
 rintro ⟨cells,t,h1,h2⟩
 rw [h.cell] at h1
 injection h1 with h1
 injection h1 with _ h1
 exact h2 (by rw [<- h1];decide)
theorem Dk.cells (h:Dk B w d bl bw sec nl nw dead fl fw):w.cell? ⟨d,0,none⟩=some (.int .i64 sec)/\w.cell? ⟨d,1,none⟩=some (.map (some bl))/\w.cell? ⟨d,2,none⟩=some (.map (some bw))/\w.cell? ⟨d,3,none⟩=some (.bool dead):=by
 simp [World.cell?,h.cell]
set_option maxHeartbeats 1000000 in
theorem fault_ok (h:Dk B w d bl bw sec nl nw false fl fw) (a:Int) (h0:0<=a) (h1:a < sec) :
  Calls Tryz.prog 110 #[.pointer (some ⟨d,0,none⟩),.int .i64 a] w fun e w'=>e=.returned (.int .i64 0)/\w'=w:=by
 obtain ⟨c0,c1,c2,c3⟩:=h.cells
 have n0:¬ a < 0:=by omega
 have n1:¬ a ≥ sec:=by omega
 clear h
 go_enter Tryz.func110,Tryz.ntmps110
 go_wp2
 exact bodyPost_ret (results_tmp rfl _ _ _) rfl ⟨rfl,rfl⟩
set_option maxHeartbeats 1000000 in
theorem fault_dead (h:Dk B w d bl bw sec nl nw true fl fw) (a:Int) :
  Calls Tryz.prog 110 #[.pointer (some ⟨d,0,none⟩),.int .i64 a] w fun e w'=>e=.returned (.int .i64 120)/\w'=w:=by
 obtain ⟨c0,c1,c2,c3⟩:=h.cells
 clear h
 go_enter Tryz.func110,Tryz.ntmps110
 go_wp2
 exact bodyPost_ret (results_tmp rfl _ _ _) rfl ⟨rfl,rfl⟩
end
section
variable {B:Nat} {w:World} {d bl bw nl nw:Nat} {sec:Int} {dead:Bool} {fl fw:Int->Option (List Int)}
theorem zero36 (w:World):(zeroValue 36).run Tryz.prog w=.ok (.slice none 0 0) w:=by kernel_rfl
theorem Dk.fr (h:Dk B w d bl bw sec nl nw dead fl fw) {W:World} (hf:Fr B w W) (hd:W.heap[d]?=w.heap[d]?) (hl:W.heap[bl]?=w.heap[bl]?) (hw:W.heap[bw]?=w.heap[bw]?):Dk B W d bl bw sec nl nw dead fl fw :=
 ⟨h.geB,hd.trans h.cell,h.ml.fr hf hl,h.mw.fr hf hw,h.ne⟩
theorem Mr.lt {b n:Nat} {f:Int->Option (List Int)} (h:Mr B w b n f):b < w.heap.size:=by
 obtain ⟨_,m,hm,_⟩:=h
 exact hm.lt
theorem Dk.below (h:Dk B w d bl bw sec nl nw dead fl fw) {W:World} (hb:Below w.heap.size w W):Dk B W d bl bw sec nl nw dead fl fw :=
 h.fr (Fr.of_below hb) (hb.block d h.lt) (hb.block bl h.ml.lt) (hb.block bw h.mw.lt)
theorem eff_w {f g:Int->Option (List Int)} {a:Int} {x:List Int} (h:g a=some x):eff f g a=x:=by simp [eff,h]
theorem eff_l {f g:Int->Option (List Int)} {a:Int} (h:g a=none):eff f g a=(f a).getD []:=by simp [eff,h]
set_option maxHeartbeats 1000000 in
theorem at_ok (h:Dk B w d bl bw sec nl nw dead fl fw) (a:Int) (ha:I64 a) :
  Calls Tryz.prog 111 #[.pointer (some ⟨d,0,none⟩),.int .i64 a] w fun e w'=>∃ v m,e=.returned (.tuple #[v,m])/\Im B w' v (eff fl fw a)/\Below w.heap.size w w':=by
 obtain ⟨c0,c1,c2,c3⟩:=h.cells
 obtain ⟨_,mw,hmw,hw⟩:=h.mw
 obtain ⟨_,ml,hml,hl⟩:=h.ml
 have lw:=hmw.look Tryz.underlying117 (zero36 w) ha
 have ll:=hml.look1 Tryz.underlying117 (zero36 w) ha
 have ll2:∀ q,(Instr.lookup 117 (.map (some bl)) (.int .i64 a) false).run Tryz.prog (w.drewN q)=.ok ((ml a).getD (.slice none 0 0)) (w.drewN q):=fun q=>(hml.keep (W:=w.drewN q) rfl).look1 Tryz.underlying117 (zero36 _) ha
 have HW:=Aside0.mk (hw a)
 have HL:=Aside0.mk (hl a)
 clear h hmw hml hw hl
 cases hc:mw a with
 | some x =>
  rw [hc] at lw
  simp only [Option.getD_some,Option.isSome_some] at lw
  obtain ⟨_,y,h1,h2⟩:=HW.out.1 x hc
  have HH:=Aside0.mk (And.intro h1 h2)
  clear hc ll ll2 h1 h2 HW HL
  go_enter Tryz.func111,Tryz.ntmps111
  go_wp2
  repeat (go_quiet (fail);try go_wp2)
  go_ret2
  exact ⟨_,_,rfl,by rw [eff_w HH.out.1];exact HH.out.2.fr (Fr.of_below (pw_below_drewN (Below.refl _ _) _)),pw_below_drewN (Below.refl _ _) _⟩
 | none =>
  rw [hc] at lw
  simp only [Option.getD_none,Option.isSome_none] at lw
  have hn:=HW.out.2 hc
  obtain ⟨v,hv⟩:∃ v,(ml a).getD (.slice none 0 0)=v:=⟨_,rfl⟩
  rw [hv] at ll
  have hi:Im B w v (eff fl fw a):=by
   rw [eff_l hn]
   cases hm:ml a with
   | some x =>
    obtain ⟨_,y,h1,h2⟩:=HL.out.1 x hm
    rw [hm] at hv
    simp only [Option.getD_some] at hv
    subst hv
    rw [h1]
    exact h2
   | none =>
    rw [hm] at hv
    simp only [Option.getD_none] at hv
    subst hv
    rw [HL.out.2 hm]
    exact Im.nil B w
  have ll3:∀ q,(Instr.lookup 117 (.map (some bl)) (.int .i64 a) false).run Tryz.prog (w.drewN q)=.ok v (w.drewN q):=fun q=>by rw [ll2 q,hv]
  have HH:=Aside0.mk hi
  clear hc ll2 HW HL hi hv hn
  go_enter Tryz.func111,Tryz.ntmps111
  go_wp2
  repeat (go_quiet (fail);try go_wp2)
  go_ret2
  exact ⟨_,_,rfl,HH.out.fr (Fr.of_below (pw_below_drewN (Below.refl _ _) _)),pw_below_drewN (Below.refl _ _) _⟩
set_option maxHeartbeats 1000000 in
theorem read_ok (h:Dk B w d bl bw sec nl nw false fl fw) (a:Int) (h0:0<=a) (h1:a < sec) (hs:sec<=4096) (hn:(eff fl fw a).length<=100000) :
  Calls Tryz.prog 162 #[.pointer (some ⟨d,0,none⟩),.int .i64 a] w fun e w'=>∃ v,e=.returned (.tuple #[v,.int .i64 0])/\Kd.R (Kd.int .u8) 5 w' w.heap.size (fun _=>True) v (eff fl fw a)/\Below w.heap.size w w':=by
 have H:=Aside0.mk h
 have HN:=Aside0.mk hn
 have HA:=Aside0.mk (And.intro h0 h1)
 have HS:=Aside0.mk hs
 clear h hn h0 h1 hs
 go_enter Tryz.func162,Tryz.ntmps162
 go_wp2_with (first|(go_at_call 110;refine (fault_ok H.out a HA.out.1 HA.out.2).mono ?_;rintro e w1 ⟨rfl,rfl⟩)|(go_at_call 111;refine (at_ok H.out a (i64_of (by have:=HA.out;omega) (by have:=HA.out;have:=HS.out;omega))).mono ?_;rintro e w1 ⟨v,m,rfl,hv,hb⟩;obtain ⟨A,c,rfl,hl,hC⟩:=hv.slice;have HV:=Aside0.mk (And.intro hl hC);have HB:=Aside0.mk hb;clear hv hb hl hC)|(go_at_call 112;refine (clone A c _ _ HV.out.2 HV.out.1 (by have:=HN.out;omega)).mono ?_;rintro e w2 ⟨v2,rfl,hr,hb2⟩;have HR:=Aside0.mk hr;have HB2:=Aside0.mk hb2;clear hr hb2))
 go_ret2
 exact ⟨_,rfl,Kd.R_lower HR.out HB.out.size,below_step HB.out HB2.out⟩
set_option maxHeartbeats 1000000 in
theorem read_dead (h:Dk B w d bl bw sec nl nw true fl fw) (a:Int) :
  Calls Tryz.prog 162 #[.pointer (some ⟨d,0,none⟩),.int .i64 a] w fun e w'=>e=.returned (.tuple #[.slice none 0 0,.int .i64 120])/\w'=w:=by
 have H:=Aside0.mk h
 clear h
 go_enter Tryz.func162,Tryz.ntmps162
 go_wp2_with (first|(go_at_call 110;refine (fault_dead H.out a).mono ?_;rintro e w1 ⟨rfl,rfl⟩))
 go_ret2
 exact ⟨rfl,rfl⟩
set_option maxHeartbeats 1000000 in
theorem dead_ok (h:Dk B w d bl bw sec nl nw dead fl fw) :
  Calls Tryz.prog 74 #[.pointer (some ⟨d,0,none⟩)] w fun e w'=>e=.returned (.bool dead)/\w'=w:=by
 obtain ⟨c0,c1,c2,c3⟩:=h.cells
 clear h
 go_enter Tryz.func74,Tryz.ntmps74
 go_wp2
 go_ret
 exact ⟨rfl,rfl⟩
end
section
variable {B:Nat} {w:World} {d bl bw nl nw:Nat} {sec:Int} {dead:Bool} {fl fw:Int->Option (List Int)}
theorem Mr.mono {b n n':Nat} {f:Int->Option (List Int)} (h:Mr B w b n f) (hn:n<=n'):Mr B w b n' f:=by
 obtain ⟨hB,m,hm,h⟩:=h
 exact ⟨hB,m,hm.mono hn,h⟩
theorem Mr.congr {b n:Nat} {f g:Int->Option (List Int)} (h:Mr B w b n f) (hg:∀ a,f a=g a):Mr B w b n g:=by
 have:f=g:=funext hg
 rwa [<- this]
theorem Mr.nfz {b n:Nat} {f:Int->Option (List Int)} (h:Mr B w b n f):¬ Fz w b:=by
 obtain ⟨hB,m,hm,h⟩:=h
 exact hm.nfz
theorem Mr.put {b n:Nat} {f:Int->Option (List Int)} (h:Mr B w b n f) (hn:n < maxLen) {a:Int} (ha:I64 a) {v:Value} {x:List Int} (hv:Im B w v x) :
  ∃ w',(Instr.mapUpdate 117 (.map (some b)) (.int .i64 a) v).run Tryz.prog w=.ok () w'/\Mr B w' b (n+1) (updR f a x)/\w.grownBy w' (some b)/\w'.heap.size=w.heap.size/\Fr B w w':=by
 obtain ⟨hB,m,hm,h⟩:=h
 obtain ⟨w',hrun,hm',hg,hs⟩:=hm.put Tryz.underlying117 hn ha v
 have hf:Fr B w w':=Fr.of_grown hg hB hm.nfz
 refine ⟨w',hrun,⟨hB,_,hm',fun y=>?_⟩,hg,hs,hf⟩
 unfold upd updR
 by_cases hy:y=a
 ·rw [if_pos hy,if_pos hy]
  refine ⟨fun v' hv'=>?_,fun he=>by cases he⟩
  cases hv'
  exact ⟨by rw [hy];exact ha,x,rfl,hv.fr hf⟩
 ·rw [if_neg hy,if_neg hy]
  refine ⟨fun v' hv'=>?_,(h y).2⟩
  obtain ⟨h1,z,h2,h3⟩:=(h y).1 v' hv'
  exact ⟨h1,z,h2,h3.fr hf⟩
theorem Dk.dne (h:Dk B w d bl bw sec nl nw dead fl fw):d≠bl/\d≠bw:=by
 constructor
 ·rintro rfl
  obtain ⟨_,m,⟨D,⟨es,clock,hb,_⟩,_⟩,_⟩:=h.ml
  rw [h.cell] at hb
  cases hb
 ·rintro rfl
  obtain ⟨_,m,⟨D,⟨es,clock,hb,_⟩,_⟩,_⟩:=h.mw
  rw [h.cell] at hb
  cases hb
set_option maxHeartbeats 4000000 in
theorem write_ok (h:Dk B w d bl bw sec nl nw false fl fw) (hn:nw < maxLen) (a:Int) (h0:0<=a) (h1:a < sec) (hs:sec<=4096) (A:Option Addr) (c:Nat) (l:List Int) (hc:l.length<=c) (hl:(Kd.int .u8).C w A l.length l) (l0:1<=l.length) (l1:l.length<=4108) :
  Calls Tryz.prog 76 #[.pointer (some ⟨d,0,none⟩),.int .i64 a,.slice A l.length c] w fun e w'=>e=.returned (.int .i64 0)/\Dk B w' d bl bw sec nl (nw+1) false fl (updR fw a l)/\Gs (fun k=>k=bw) w w':=by
 have H:=Aside0.mk h
 have HN:=Aside0.mk hn
 have HA:=Aside0.mk (And.intro h0 h1)
 have HS:=Aside0.mk hs
 have HI:Aside0 (I64 a):=⟨i64_of (by omega) (by omega)⟩
 have HL:=Aside0.mk (And.intro hc hl)
 have HLL:=Aside0.mk (And.intro l0 l1)
 obtain ⟨nl,hnl⟩:∃ nl,l.length=nl:=⟨_,rfl⟩
 have HNL:=Aside0.mk hnl
 rw [hnl]
 have n1:¬ (nl:Int) < 1:=by omega
 have n2:¬ (nl:Int) > 4108:=by omega
 have n3:¬ (4108:Int) < (nl:Int):=by omega
 obtain ⟨c0,c1,c2,c3⟩:=h.cells
 clear h hn h0 h1 hs hc hl l0 l1 hnl
 go_enter Tryz.func76,Tryz.ntmps76
 go_wp2_with (first|(go_at_call 110;refine (fault_ok H.out a HA.out.1 HA.out.2).mono ?_;rintro e w1 ⟨rfl,rfl⟩))
 go_region_law (first
  | (go_simp;go_at_call 112;rw [<- HNL.out];refine (clone A c l _ (Kd.C_below HL.out.2 (below_drew1 (Below.refl _ _))) HL.out.1 (by have:=HLL.out;omega)).mono ?_;rintro e w2 ⟨v2,rfl,hr2,hb2⟩;have hb3:=below_step (below_drew1 (Below.refl _ _)) hb2;have D2:=H.out.below hb3;obtain ⟨c0',c1',c2',c3'⟩:=D2.cells;obtain ⟨w3,hput,hm3,hg3,hs3,hf3⟩:=D2.mw.put HN.out HI.out (Im.of_R hr2);have H3:=Aside0.mk (And.intro hm3 (And.intro hg3 (And.intro hf3 D2)));have HB3:=Aside0.mk hb3;clear hm3 hg3 hf3 D2 hb3 hr2 hb2))
 all_goals
  go_wp2
  go_ret
  obtain ⟨hm3,hg3,hf3,D2⟩:=H3.out
  exact ⟨rfl,⟨D2.geB,(hg3.block d D2.lt (by simp;exact D2.dne.2)).trans D2.cell,D2.ml.fr hf3 (hg3.block bl D2.ml.lt (by simp;exact D2.ne)),hm3,D2.ne⟩,(Gs.of_below HB3.out).trans (Gs.of_grown hg3 (fun k hk _=>by cases hk;rfl))⟩
set_option maxHeartbeats 4000000 in
theorem copy_ok {n1 n2:Nat} (hl:Mr B w bl n1 fl) (hw:Mr B w bw n2 fw) (hne:bl≠bw) (hn:n1+n2 < maxLen) :
  Calls Tryz.prog 117 #[.map (some bl),.map (some bw)] w fun e w'=>e=.returned (.tuple #[])/\(∃ n',n'<=n1+n2/\Mr B w' bl n' (fun a=>(fw a).or (fl a)))/\Mr B w' bw n2 fw/\Gs (fun k=>k=bl) w w':=by
 obtain ⟨hBw,m,hm,hmf⟩:=hw
 have hI:∀ a,(m a).isSome=true->I64 a:=fun a ha=>by
  obtain ⟨v,hv⟩:=Option.isSome_iff_exists.1 ha
  exact ((hmf a).1 v hv).1
 obtain ⟨w1,cnt,hrun,hrg,hg1,hs1,hcn⟩:=hm.range hI Tryz.underlying117
 have HCN:=Aside0.mk hcn
 clear hcn
 have HL:=Aside0.mk hl
 have HM:=Aside0.mk hm
 have HMF:=Aside0.mk hmf
 have HNE:=Aside0.mk hne
 have HN:=Aside0.mk hn
 have HI:=Aside0.mk hI
 have HRG:=Aside0.mk hrg
 have HG1:=Aside0.mk hg1
 have HBW:=Aside0.mk hBw
 clear hl hm hmf hne hn hI hrg hg1 hBw
 go_enter Tryz.func117,Tryz.ntmps117
 go_wp2
 have hBB:=Aside0.mk HL.out.1
 go_loopg [] cnt (fun kq w'=>∃ (l:Int->Bool) (nn:Nat),Aside0 (Rg w' bw w.heap.size n2 m l kq)/\Aside0 (∀ a,l a=true->(m a).isSome=true)/\Aside0 (nn+kq<=n1+cnt/\Mr B w' bl nn (fun a=>if l a=true then fl a else (fw a).or (fl a)))/\Aside0 (Gs (fun k=>k=bl) w w'))
 case atStart =>
  refine ⟨_,n1,HRG,⟨fun a ha=>ha⟩,⟨Nat.le_refl _,?_⟩,⟨Gs.of_grown HG1.out (by simp)⟩⟩
  refine ((HL.out.fr (Fr.of_grown0 HG1.out) (HG1.out.block bl HL.out.lt (by simp)))).congr (fun a=>?_)
  by_cases ha:(m a).isSome=true
  ·rw [if_pos ha]
  ·rw [if_neg ha]
   have:m a=none:=by simpa using ha
   rw [(HMF.out a).2 this]
   rfl
 case round =>
  obtain ⟨l,nn,HR,HLS,HMM,HG⟩:=hrel
  have hfr:Fr B w wr:=HG.out.fr (fun k hk e=>by rw [e];exact ⟨hBB.out,HL.out.nfz⟩)
  have HFR:=Aside0.mk hfr
  clear hfr
  have hBw:B<=w.heap.size:=Nat.le_of_lt (Nat.lt_of_le_of_lt HBW.out HM.out.lt)
  rcases HR.out.next (fun a ha=>HI.out a (HLS.out a ha)) 0 with ⟨h0,hn,hrun2⟩|⟨a,v,w2,cnt',hla,hma,hrun2,hrg2,hlt2,hg2,hs2,hen⟩
  ·have HH:=Aside0.mk (And.intro h0 hn)
   clear h0 hn hBw
   go_wp2
   go_end0
   refine ⟨rfl,⟨nn,by have:=HMM.out.1;have:=HCN.out;omega,HMM.out.2.congr (fun a=>by rw [HH.out.2 a];rfl)⟩,⟨HBW.out,m,HR.out.map,fun a=>⟨fun v hv=>?_,(HMF.out a).2⟩⟩,HG.out⟩
   obtain ⟨h1,x,h2,h3⟩:=(HMF.out a).1 v hv
   exact ⟨h1,x,h2,h3.fr HFR.out⟩
  ·obtain ⟨hIa,x,hx,hi⟩:=(HMF.out a).1 v hma
   have hf2:Fr B wr w2:=Fr.of_grown hg2 hBw (iter_nfz HR.out.iter)
   have hne2:w.heap.size≠bl:=fun e=>by have:=HL.out.lt;omega
   obtain ⟨w3,hput,hm3,hg3,hs3,hf3⟩:=((HMM.out.2.fr hf2 (hg2.block bl HMM.out.2.lt (by simp;exact fun e=>hne2 e.symm))).put (by have:=HMM.out.1;have:=HN.out;have:=HCN.out;omega) hIa ((hi.fr HFR.out).fr hf2))
   have hrg3:=hrg2.keep (hg3.block bw hrg2.map.lt (by simp;exact fun e=>HNE.out e.symm)) (hg3.block w.heap.size hrg2.lt (by simp;exact hne2))
   have HH:=Aside0.mk (And.intro hm3 (And.intro hrg3 (And.intro hlt2 (And.intro hla hx))))
   have HG3:=Aside0.mk ((HG.out.step hg2 (fun j hj=>by cases hj;exact .inl (Nat.le_refl _))).step hg3 (fun j hj=>by cases hj;exact .inr rfl))
   clear hIa hx hi hf2 hne2 hm3 hg3 hs3 hf3 hrg3 hrg2 hlt2 hg2 hs2 hla hma hBw
   go_wp2
   go_roundg cnt'
   case measure=>exact HH.out.2.2.1
   case rel =>
    obtain ⟨hm3,hrg3,hlt2,hla,hx⟩:=HH.out
    refine ⟨_,nn+1,⟨hrg3⟩,⟨fun z hz=>?_⟩,⟨by have:=HMM.out.1;omega,hm3.congr (fun z=>?_)⟩,HG3⟩
    ·rw [Bool.and_eq_true] at hz
     exact HLS.out z hz.1
    ·unfold updR
     by_cases hz:z=a
     ·subst hz
      rw [if_pos rfl,if_neg (by simp),hx]
      rfl
     ·rw [if_neg hz]
      simp [hz]
end
theorem grown_setCell (w:World) (b i:Nat) (v:Value):w.grownBy (w.setCell ⟨b,i,none⟩ v) (some b) :=
 ⟨rfl,rfl,rfl,by simp [World.setCell],fun k _ hk=>Below.heap_setCell _ _ _ _ (fun e=>hk (by simp [e]))⟩
section
variable {B:Nat} {w:World} {d bl bw nl nw:Nat} {sec:Int} {dead:Bool} {fl fw:Int->Option (List Int)}
theorem Mr.clear {b n:Nat} {f:Int->Option (List Int)} (h:Mr B w b n f) (ty:TypeId) :
  ∃ w',(Builtin.clear_ #[117] ty #[.map (some b)]).run Tryz.prog w=.ok (.tuple #[]) w'/\Mr B w' b 0 (fun _=>none)/\w.grownBy w' (some b)/\w'.heap.size=w.heap.size:=by
 obtain ⟨hB,m,hm,h⟩:=h
 obtain ⟨w',hrun,hm',hg,hs⟩:=hm.clear Tryz.underlying117 ty
 exact ⟨w',hrun,⟨hB,_,hm',fun a=>⟨fun v hv=>(by cases hv),fun _=>rfl⟩⟩,hg,hs⟩
set_option maxHeartbeats 4000000 in
theorem flush_ok (h:Dk B w d bl bw sec nl nw false fl fw) (hn:nl+nw < maxLen) (hs:0 < sec) :
  Calls Tryz.prog 78 #[.pointer (some ⟨d,0,none⟩)] w fun e w'=>e=.returned (.int .i64 0)/\Dk B w' d bl bw sec (nl+nw) 0 false (fun a=>(fw a).or (fl a)) (fun _=>none)/\Gs (fun k=>k=bl∨k=bw) w w':=by
 obtain ⟨c0,c1,c2,c3⟩:=h.cells
 have H:=Aside0.mk h
 have HN:=Aside0.mk hn
 have HS:=Aside0.mk hs
 clear h hn hs
 go_enter Tryz.func78,Tryz.ntmps78
 go_wp2_with (first|(go_at_call 110;refine (fault_ok H.out 0 (by omega) HS.out).mono ?_;rintro e w1 ⟨rfl,hw1⟩;obtain rfl:=hw1.symm))
 have D1:=H.out.below (below_drew1 (Below.refl w.heap.size w))
 have HD1:=Aside0.mk D1
 clear D1
 go_region_law (first
  | (go_simp;go_at_call 117;refine (copy_ok HD1.out.ml HD1.out.mw HD1.out.ne HN.out).mono ?_;rintro e w2 ⟨rfl,⟨n2,hn2,hm1⟩,hm2,hg2⟩;have H2:=Aside0.mk (And.intro hn2 (And.intro hm1 (And.intro hm2 hg2)));clear hn2 hm1 hm2 hg2))
 all_goals
  obtain ⟨hn2,hm1,hm2,hg2⟩:=H2.out
  have hgd:=hg2.block d HD1.out.lt HD1.out.dne.1
  have e2:w2.cell? ⟨d,2,none⟩=some (.map (some bw)):=(World.cell?_of_block (a:=⟨d,2,none⟩) hgd).trans HD1.out.cells.2.2.1
  obtain ⟨w3,hcl,hm3,hg3,hs3⟩:=hm2.clear 0
  have H3:=Aside0.mk (And.intro hm3 hg3)
  clear hn2 hm1 hm2 hg2 hm3 hg3 hs3 hgd
  go_wp2
  obtain ⟨hn2,hm1,hm2,hg2⟩:=H2.out
  obtain ⟨hm3,hg3⟩:=H3.out
  have hfr:=hg2.fr (B:=B) (fun k hk e=>by rw [e];exact ⟨HD1.out.ml.1,HD1.out.ml.nfz⟩)
  go_ret
  refine ⟨rfl,⟨HD1.out.geB,(hg3.block d (Nat.lt_of_lt_of_le HD1.out.lt hg2.size) (by simp;exact HD1.out.dne.2)).trans ((hg2.block d HD1.out.lt HD1.out.dne.1).trans HD1.out.cell),(hm1.mono hn2).fr (Fr.of_grown hg3 hm2.1 hm2.nfz) (hg3.block bl hm1.lt (by simp;exact HD1.out.ne)),hm3,HD1.out.ne⟩,?_⟩
  exact (((Gs.of_below (below_drew1 (Below.refl _ _))).trans (hg2.mono (fun k _ e=>.inl e))).step hg3 (fun j hj=>by cases hj;exact .inr (.inr rfl)))
def MadeD (B:Nat) (w w':World) (d:Nat) (sec:Int):Prop:=∃ bl bw,w.heap.size<=d/\w.heap.size<=bl/\w.heap.size<=bw/\Dk B w' d bl bw sec 0 0 false (fun _=>none) (fun _=>none)/\Below w.heap.size w w'
set_option maxHeartbeats 1000000 in
theorem new_ok (B:Nat) (w:World) (hB:B<=w.heap.size) (sec:Int) (h0:1<=sec) (h1:sec<=4096) :
  Calls Tryz.prog 33 #[.int .i64 sec] w fun e w'=>∃ d,e=.returned (.tuple #[.pointer (some ⟨d,0,none⟩),.int .i64 0])/\MadeD B w w' d sec:=by
 have HB:=Aside0.mk hB
 have n0:¬ sec < 1:=by omega
 have n1:¬ sec > 4096:=by omega
 clear hB
 have hmm:=@run_makeMap Tryz.prog
 go_enter Tryz.func33,Tryz.ntmps33
 go_wp2
 go_ret2
 obtain ⟨w1,hw1⟩:∃ w1,w.alloc (.map #[] 0)=w1:=⟨_,rfl⟩
 obtain ⟨w2,hw2⟩:∃ w2,w1.alloc (.map #[] 0)=w2:=⟨_,rfl⟩
 have s1:w1.heap.size=w.heap.size+1:=by rw [<- hw1];simp
 have s2:w2.heap.size=w.heap.size+2:=by rw [<- hw2];simp [s1]
 have m1:Mi w1 w.heap.size 0 (fun _=>none):=by rw [<- hw1];exact Mi.made w
 have m2:Mi w2 w1.heap.size 0 (fun _=>none):=by rw [<- hw2];exact Mi.made w1
 have b1:Below w.heap.size w w1:=by rw [<- hw1];exact below_alloc (Below.refl _ _) _
 have b2:Below w1.heap.size w1 w2:=by rw [<- hw2];exact below_alloc (Below.refl _ _) _
 have b3:Below w2.heap.size w2 (w2.alloc (.cells #[.int .i64 sec,.map (some w.heap.size),.map (some w1.heap.size),.bool false] 119)):=below_alloc (Below.refl _ _) _
 have emp:∀ (W:World) (b:Nat),B<=b->Mi W b 0 (fun _=>none)->Mr B W b 0 (fun _=>none):=fun W b hb hm=>⟨hb,_,hm,fun a=>⟨fun v hv=>(by cases hv),fun _=>rfl⟩⟩
 refine ⟨w2.heap.size,by simp [s2],w.heap.size,w1.heap.size,by omega,Nat.le_refl _,by omega,?_⟩
 have e1:w.heap.size+1=w1.heap.size:=s1.symm
 simp only [e1,hw1,hw2]
 exact ⟨⟨by have:=HB.out;omega,heap_alloc_new _ _,emp _ _ HB.out ((m1.keep (b2.block _ (by omega))).keep (b3.block _ (by omega))),emp _ _ (by have:=HB.out;omega) (m2.keep (b3.block _ (by omega))),by omega⟩,below_step (below_step b1 b2) b3⟩
set_option maxHeartbeats 1000000 in
theorem empty_ok (h:Dk B w d bl bw sec nl nw dead fl fw) (x:Bool) :
  Calls Tryz.prog 109 #[.pointer (some ⟨d,0,none⟩),.bool x] w fun e w'=>e=.returned (.tuple #[])/\Dk B w' d bl bw sec 0 0 x (fun _=>none) (fun _=>none)/\Gs (fun k=>k=d∨k=bl∨k=bw) w w':=by
 have H:=Aside0.mk h
 have hfr:w.frozen? ⟨d,3,none⟩=false:=by simp [World.frozen?,h.cell]
 obtain ⟨c0,c1,c2,c3⟩:=h.cells
 have hg:=grown_setCell w d 3 (.bool x)
 have hcell:(w.setCell ⟨d,3,none⟩ (.bool x)).heap[d]?=some (.cells #[.int .i64 sec,.map (some bl),.map (some bw),.bool x] 119 (0,0)):=by simp [World.setCell,Array.getElem?_modify,h.cell]
 obtain ⟨w1,hw1⟩:∃ w1,w.setCell ⟨d,3,none⟩ (.bool x)=w1:=⟨_,rfl⟩
 rw [hw1] at hg hcell
 have fr1:Fr B w w1:=Fr.of_grown hg h.geB h.nfd
 have D1:Dk B w1 d bl bw sec nl nw x fl fw:=⟨h.geB,hcell,h.ml.fr fr1 (hg.block bl h.ml.lt (by simp;exact fun e=>h.dne.1 e.symm)),h.mw.fr fr1 (hg.block bw h.mw.lt (by simp;exact fun e=>h.dne.2 e.symm)),h.ne⟩
 obtain ⟨w2,hc2,hm2,hg2,hs2⟩:=D1.ml.clear 0
 have fr2:Fr B w1 w2:=Fr.of_grown hg2 D1.ml.1 D1.ml.nfz
 have hd2:=hg2.block d D1.lt (by simp;exact D1.dne.1)
 have hmw2:=D1.mw.fr fr2 (hg2.block bw D1.mw.lt (by simp;exact fun e=>D1.ne e.symm))
 obtain ⟨w3,hc3,hm3,hg3,hs3⟩:=hmw2.clear 0
 have fr3:Fr B w2 w3:=Fr.of_grown hg3 hmw2.1 hmw2.nfz
 have D3:Dk B w3 d bl bw sec 0 0 x (fun _=>none) (fun _=>none):=⟨h.geB,((hg3.block d (by rw [hs2];exact D1.lt) (by simp;exact D1.dne.2)).trans hd2).trans hcell,hm2.fr fr3 (hg3.block bl hm2.lt (by simp;exact D1.ne)),hm3,h.ne⟩
 have G3:Gs (fun k=>k=d∨k=bl∨k=bw) w w3:=((Gs.of_grown hg (fun k hk _=>by cases hk;exact .inl rfl)).step hg2 (fun j hj=>by cases hj;exact .inr (.inr (.inl rfl)))).step hg3 (fun j hj=>by cases hj;exact .inr (.inr (.inr rfl)))
 have HD3:=Aside0.mk (And.intro D3 G3)
 have x1:w1.cell? ⟨d,1,none⟩=some (.map (some bl)):=D1.cells.2.1
 have x2:w2.cell? ⟨d,2,none⟩=some (.map (some bw)):=(World.cell?_of_block (a:=⟨d,2,none⟩) hd2).trans D1.cells.2.2.1
 clear h hg hcell fr1 D1 hm2 hg2 hs2 fr2 hd2 hmw2 hm3 hg3 hs3 fr3 D3 G3
 go_enter Tryz.func109,Tryz.ntmps109
 go_wp2
 go_end0
 exact ⟨rfl,HD3.out⟩
theorem fail_ok (h:Dk B w d bl bw sec nl nw dead fl fw) :
  Calls Tryz.prog 71 #[.pointer (some ⟨d,0,none⟩)] w fun e w'=>e=.returned (.tuple #[])/\Dk B w' d bl bw sec 0 0 true (fun _=>none) (fun _=>none)/\Gs (fun k=>k=d∨k=bl∨k=bw) w w':=by
 have H:=Aside0.mk h
 clear h
 go_enter Tryz.func71,Tryz.ntmps71
 go_wp2_with (first|(go_at_call 109;refine (empty_ok H.out true).mono ?_;rintro e w1 ⟨rfl,h1⟩;have H1:=Aside0.mk h1;clear h1))
 go_end0
 exact ⟨rfl,H1.out⟩
end
end Go.Proofs.YtmmcbncpnlknbaaGreat.Top
