import Derived.Test.YtmmcbncpnlknbaaGreatF05
set_option linter.unusedVariables false
set_option linter.unusedSimpArgs false
namespace Go.Proofs.YtmmcbncpnlknbaaGreat.Top
open Go Go.RowKit Go.Proofs.YtmmcbncpnlknbaaGreatW.PrintWords Go.Proofs.YtmmcbncpnlknbaaGreatW.PrintLast Go.Proofs.YtmmcbncpnlknbaaGreatW.PrintMore
structure Ax (B:Nat) (w:World) (a:Nat) (S:Nat->Prop) (sec:Int) (n T:Nat) (dead:Nat->Bool) (E:Nat->Int->List Int) (cl:Bool):Prop where
 ex:∃ mb D C,Ar B w a mb sec n T D C/\(∀ k,S k↔(k=a∨k=mb∨Ds n D k))/\∀ i,i < n->(C i).dead=dead i/\(∀ y,eff (C i).fl (C i).fw y=E i y)/\(cl=true->∀ y,(C i).fw y=none)
 len:∀ i,i < n->∀ y,(E i y).length<=4108
 sec1:1<=sec
 sec2:sec<=4096
 n32:n<=32
 tM:T<=1000000
def updE (E:Nat->Int->List Int) (i:Nat) (ad:Int) (l:List Int):Nat->Int->List Int:=fun j y=>if j=i/\y=ad then l else E j y
theorem eff_upd (fl fw:Int->Option (List Int)) (a y:Int) (l:List Int):eff fl (updR fw a l) y=if y=a then l else eff fl fw y:=by
 unfold eff updR
 by_cases h:y=a
 ·simp [h]
 ·simp [h]
section
variable {B:Nat} {w:World} {a n T:Nat} {S:Nat->Prop} {sec:Int} {dead:Nat->Bool} {E:Nat->Int->List Int} {cl:Bool}
theorem Ax.S_ge (h:Ax B w a S sec n T dead E cl) {k:Nat} (hk:S k):B<=k/\¬ Fz w k/\k < w.heap.size:=by
 obtain ⟨mb,D,C,ha,hS,hC⟩:=h.ex
 obtain ⟨cc,hcc,hca⟩:=ha.cellA
 obtain ⟨cs,hcs,hcm⟩:=ha.cellM
 rcases (hS k).1 hk with rfl|rfl|⟨i,hi,hk⟩
 ·refine ⟨ha.geA,?_,(Array.getElem?_eq_some_iff.1 hca).1⟩
  rintro ⟨cells,t,h1,h2⟩
  rw [hca] at h1
  injection h1 with h1
  injection h1 with _ h1
  exact h2 (by rw [<- h1];decide)
 ·refine ⟨ha.geM,?_,(Array.getElem?_eq_some_iff.1 hcs).1⟩
  rintro ⟨cells,t,h1,h2⟩
  rw [hcs] at h1
  injection h1 with h1
  injection h1 with _ h1
  exact h2 (by rw [<- h1];decide)
 ·exact ⟨(ha.dk i hi).ge hk,(ha.dk i hi).nfz hk,(ha.dk i hi).lt hk⟩
theorem Ax.fr (h:Ax B w a S sec n T dead E cl) {W:World} (hg:Gs S w W):Fr B w W:=hg.fr (fun k _ hk=>⟨(h.S_ge hk).1,(h.S_ge hk).2.1⟩)
theorem Ax.below (h:Ax B w a S sec n T dead E cl) {W:World} (hb:Below w.heap.size w W):Ax B W a S sec n T dead E cl:=by
 obtain ⟨mb,D,C,ha,hS,hC⟩:=h.ex
 exact ⟨⟨mb,D,C,ha.below hb,hS,hC⟩,h.len,h.sec1,h.sec2,h.n32,h.tM⟩
theorem Ar.keep {mb:Nat} {D:Nat->Dn} {C:Nat->Dc} (h:Ar B w a mb sec n T D C) {W:World} (hf:Fr B w W) (ha:W.heap[a]?=w.heap[a]?) (hm:W.heap[mb]?=w.heap[mb]?) (hd:∀ k,Ds n D k->W.heap[k]?=w.heap[k]?):Ar B W a mb sec n T D C:=by
 obtain ⟨cc,hcc,hca⟩:=h.cellA
 obtain ⟨cs,hcs,hcm⟩:=h.cellM
 exact ⟨h.geA,h.geM,⟨cc,hcc,ha.trans hca⟩,⟨cs,hm.trans hcs,hcm⟩,fun j hj=>(h.dk j hj).keep hf (fun k hk=>hd k ⟨j,hj,hk⟩),h.apart⟩
theorem Ax.keep (h:Ax B w a S sec n T dead E cl) {W:World} (hf:Fr B w W) (hS2:∀ k,S k->W.heap[k]?=w.heap[k]?):Ax B W a S sec n T dead E cl:=by
 obtain ⟨mb,D,C,ha,hS,hC⟩:=h.ex
 exact ⟨⟨mb,D,C,ha.keep hf (hS2 a ((hS a).2 (.inl rfl))) (hS2 mb ((hS mb).2 (.inr (.inl rfl)))) (fun k hk=>hS2 k ((hS k).2 (.inr (.inr hk)))),hS,hC⟩,h.len,h.sec1,h.sec2,h.n32,h.tM⟩
theorem Ax.cellA (h:Ax B w a S sec n T dead E cl):∃ mb c,w.cell? ⟨a,0,none⟩=some (.slice (some ⟨mb,0,none⟩) n c)/\w.cell? ⟨a,1,none⟩=some (.int .i64 (-1))/\w.cell? ⟨a,2,none⟩=some (.bool false):=by
 obtain ⟨mb,D,C,ha,hS,hC⟩:=h.ex
 obtain ⟨c,_,h1⟩:=ha.cells
 exact ⟨mb,c,h1⟩
theorem Ax.read (h:Ax B w a S sec n T dead E cl) (i:Nat) (hi:i < n) (hl:dead i=false) (ad:Int) (h0:0<=ad) (h1:ad < sec) :
  Calls Tryz.prog 135 #[.pointer (some ⟨a,0,none⟩),.int .i64 i,.int .i64 ad] w fun e w'=>∃ v,e=.returned (.tuple #[v,.int .i64 0])/\Kd.R (Kd.int .u8) 5 w' w.heap.size (fun _=>True) v (E i ad)/\Below w.heap.size w w':=by
 obtain ⟨mb,D,C,ha,hS,hC⟩:=h.ex
 obtain ⟨q1,q2,q3⟩:=hC i hi
 have:=h.len i hi ad
 rw [<- q2 ad] at this ⊢
 exact aread_ok ha i hi (q1.trans hl) ad h0 h1 h.sec2 (by omega)
theorem Ax.read_dead (h:Ax B w a S sec n T dead E cl) (i:Nat) (hi:i < n) (hl:dead i=true) (ad:Int) :
  Calls Tryz.prog 135 #[.pointer (some ⟨a,0,none⟩),.int .i64 i,.int .i64 ad] w fun e w'=>e=.returned (.tuple #[.slice none 0 0,.int .i64 120])/\w'=w:=by
 obtain ⟨mb,D,C,ha,hS,hC⟩:=h.ex
 exact aread_dead ha i hi ((hC i hi).1.trans hl) ad
theorem Ax.write (h:Ax B w a S sec n T dead E cl) (i:Nat) (hi:i < n) (hl:dead i=false) (hT:T+1<=1000000) (ad:Int) (h0:0<=ad) (h1:ad < sec) (A:Option Addr) (c:Nat) (l:List Int) (hc:l.length<=c) (hCC:(Kd.int .u8).C w A l.length l) (l0:1<=l.length) (l1:l.length<=4108) :
  Calls Tryz.prog 51 #[.pointer (some ⟨a,0,none⟩),.int .i64 i,.int .i64 ad,.slice A l.length c] w fun e w'=>e=.returned (.int .i64 0)/\Ax B w' a S sec n (T+1) dead (updE E i ad l) false/\Gs S w w':=by
 obtain ⟨mb,D,C,ha,hS,hC⟩:=h.ex
 obtain ⟨q1,q2,q3⟩:=hC i hi
 refine (awrite_ok ha i hi (q1.trans hl) (by simp only [maxLen];omega) ad h0 h1 h.sec2 A c l hc hCC l0 l1).mono ?_
 rintro e w' ⟨rfl,ha2,hg2⟩
 refine ⟨rfl,⟨⟨mb,D,_,ha2,hS,fun j hj=>?_⟩,fun j hj y=>?_,h.sec1,h.sec2,h.n32,hT⟩,hg2.mono (fun k _ hk=>(hS k).2 (.inr (.inr ⟨i,hi,hk⟩)))⟩
 ·obtain ⟨p1,p2,p3⟩:=hC j hj
  unfold setC updE
  by_cases hji:j=i
  ·subst hji
   rw [if_pos rfl]
   refine ⟨hl.symm,fun y=>?_,fun e=>by cases e⟩
   rw [eff_upd]
   by_cases hy:y=ad
   ·rw [if_pos hy,if_pos ⟨rfl,hy⟩]
   ·rw [if_neg hy,if_neg (fun e=>hy e.2)]
    exact p2 y
  ·rw [if_neg hji]
   refine ⟨p1,fun y=>?_,fun e=>by cases e⟩
   rw [if_neg (fun e=>hji e.1)]
   exact p2 y
 ·unfold updE
  split
  ·exact l1
  ·exact h.len j hj y
theorem Ax.flush (h:Ax B w a S sec n T dead E cl) (hd:∀ i,i < n->dead i=true->∀ y,E i y=[]) :
  Calls Tryz.prog 53 #[.pointer (some ⟨a,0,none⟩)] w fun e w'=>e=.returned (.int .i64 0)/\Ax B w' a S sec n T dead E (cl || true && decide (∀ i,i < n->dead i=false))/\Gs S w w':=by
 obtain ⟨mb,D,C,ha,hS,hC⟩:=h.ex
 have:=h.sec1
 have:=h.n32
 have:=h.tM
 refine (aflush_ok ha (by simp only [maxLen];omega) (by omega) (by omega)).mono ?_
 rintro e w' ⟨rfl,ha2,hg2⟩
 refine ⟨rfl,⟨⟨mb,D,_,ha2,hS,fun j hj=>?_⟩,h.len,h.sec1,h.sec2,h.n32,h.tM⟩,hg2.mono (fun k _ hk=>(hS k).2 (.inr (.inr hk)))⟩
 obtain ⟨p1,p2,p3⟩:=hC j hj
 simp only [if_pos hj]
 unfold flushC
 cases hdd:(C j).dead with
 | true =>
  rw [if_pos rfl]
  refine ⟨p1,p2,fun e y=>?_⟩
  rw [Bool.or_eq_true] at e
  rcases e with e|e
  ·exact p3 e y
  ·simp at e
   rw [e j hj,hdd] at p1
   cases p1
 | false =>
  rw [if_neg (by simp)]
  refine ⟨by rw [<- p1,hdd],fun y=>?_,fun _ y=>rfl⟩
  rw [<- p2 y]
  simp [eff]
theorem Ax.live (h:Ax B w a S sec n T dead E cl) :
  Calls Tryz.prog 50 #[.pointer (some ⟨a,0,none⟩)] w fun e w'=>∃ v,e=.returned v/\Kd.R Kd.bool 4 w' w.heap.size (fun _=>True) v ((List.range n).map (fun i=>!dead i))/\Below w.heap.size w w':=by
 obtain ⟨mb,D,C,ha,hS,hC⟩:=h.ex
 have:=h.n32
 have e:(List.range n).map (fun i=>!(C i).dead)=(List.range n).map (fun i=>!dead i):=List.map_congr_left (fun i hi=>by rw [(hC i (by simpa using hi)).1])
 rw [<- e]
 exact live_ok ha (by omega)
theorem Ax.fail (h:Ax B w a S sec n T dead E cl) (i:Nat) (hi:i < n) :
  Calls Tryz.prog 45 #[.pointer (some ⟨a,0,none⟩),.int .i64 i] w fun e w'=>e=.returned (.int .i64 0)/\Ax B w' a S sec n T (fun j=>if j=i then true else dead j) (fun j y=>if j=i then [] else E j y) cl/\Gs S w w':=by
 obtain ⟨mb,D,C,ha,hS,hC⟩:=h.ex
 refine (afail_ok ha i hi).mono ?_
 rintro e w' ⟨rfl,ha2,hg2⟩
 refine ⟨rfl,⟨⟨mb,D,_,ha2,hS,fun j hj=>?_⟩,fun j hj y=>?_,h.sec1,h.sec2,h.n32,h.tM⟩,hg2.mono (fun k _ hk=>(hS k).2 (hk.elim (fun e=>.inr (.inl e)) (fun e=>.inr (.inr ⟨i,hi,e⟩))))⟩
 ·obtain ⟨p1,p2,p3⟩:=hC j hj
  unfold setC
  by_cases hji:j=i
  ·subst hji
   simp [eff]
  ·simp only [if_neg hji]
   exact ⟨p1,p2,p3⟩
 ·split
  ·simp
  ·exact h.len j hj y
theorem Ax.restart (h:Ax B w a S sec n T dead E true) :
  Calls Tryz.prog 68 #[.pointer (some ⟨a,0,none⟩),.slice none 0 0] w fun e w'=>e=.returned (.tuple #[])/\Ax B w' a S sec n T dead E true/\Gs S w w':=by
 obtain ⟨mb,D,C,ha,hS,hC⟩:=h.ex
 have:=h.n32
 have:=h.tM
 refine (restart_ok ha (fun i hi=>(hC i hi).2.2 rfl) (by simp only [maxLen];omega) (by omega)).mono ?_
 rintro e w' ⟨rfl,ha2,hg2⟩
 exact ⟨rfl,⟨⟨mb,D,C,ha2,hS,hC⟩,h.len,h.sec1,h.sec2,h.n32,h.tM⟩,hg2.mono (fun k _ hk=>(hS k).2 (hk.elim .inl (fun e=>.inr (.inr e))))⟩
end
theorem Ax.new (w:World) (n:Nat) (hn:n<=32) (hn1:1<=n) (sec:Int) (h0:1<=sec) (h1:sec<=4096) :
  Calls Tryz.prog 18 #[.int .i64 n,.int .i64 sec] w fun e w'=>e=.returned (.tuple #[.pointer (some ⟨w.heap.size,0,none⟩),.int .i64 0])/\(∃ S,Ax w.heap.size w' w.heap.size S sec n 0 (fun _=>false) (fun _ _=>[]) true)/\Below w.heap.size w w':=by
 refine (anew_ok w n hn hn1 sec h0 h1).mono ?_
 rintro e w' ⟨rfl,mb,D,ha,hb⟩
 exact ⟨rfl,⟨_,⟨⟨mb,D,_,ha,fun k=>Iff.rfl,fun i hi=>⟨rfl,fun y=>rfl,fun _ y=>rfl⟩⟩,fun i _ y=>by simp,h0,h1,hn,by omega⟩⟩,hb⟩
def dbl (x:Nat):Nat:=if 2*x > 255 then (2*x) ^^^ 285 else 2*x
def exL:List Nat:=(List.range 255).foldl (fun l _=>l ++ [dbl (l.getLastD 0)]) [1]
def lgL:List Nat:=(List.range 256).map (fun x=>exL.idxOf x)
def exn (i:Nat):Nat:=exL.getD (i % 255) 0
def ex (i:Nat):Int:=exn i
def lg (x:Nat):Nat:=lgL.getD x 0
structure Fd (w:World) (f:Nat):Prop where
 cells:∃ cells:Array Value,w.heap[f]?=some (.cells cells 85 (0,0))/\(∀ i,i < 510->cells[i]?=some (.int .u8 (ex i)))/\∀ x,1<=x->x<=255->cells[510+x]?=some (.int .i64 (lg x))
theorem Fd.keep {w W:World} {f:Nat} (h:Fd w f) (hf:W.heap[f]?=w.heap[f]?):Fd W f:=by
 obtain ⟨c,h1,h2⟩:=h.cells
 exact ⟨c,hf.trans h1,h2⟩
theorem Fd.lt {w:World} {f:Nat} (h:Fd w f):f < w.heap.size:=by
 obtain ⟨c,h1,h2⟩:=h.cells
 exact (Array.getElem?_eq_some_iff.1 h1).1
theorem Fd.below {w W:World} {f:Nat} (h:Fd w f) (hb:Below w.heap.size w W):Fd W f:=h.keep (hb.block f h.lt)
theorem Fd.fr {w W:World} {f B:Nat} (h:Fd w f) (hb:Fr B w W):Fd W f:=by
 obtain ⟨c,h1,h2⟩:=h.cells
 exact h.keep (hb.block f h.lt (.inr ⟨c,85,h1,by decide⟩))
theorem Fd.ex {w:World} {f:Nat} (h:Fd w f) (i:Nat) (hi:i < 510):w.cell? ⟨f,i,none⟩=some (.int .u8 (ex i)):=by
 obtain ⟨c,h1,h2,h3⟩:=h.cells
 simp [World.cell?,h1,h2 i hi]
theorem Fd.lg {w:World} {f:Nat} (h:Fd w f) (x:Nat) (h0:1<=x) (h1:x<=255):w.cell? ⟨f,510+x,none⟩=some (.int .i64 (lg x)):=by
 obtain ⟨c,h2,h3,h4⟩:=h.cells
 simp [World.cell?,h2,h4 x h0 h1]
theorem lg_le:∀ x,1<=x->x<=255->lg x<=254:=by
 have h:∀ x ∈ List.range 256,1<=x->lg x<=254:=by decide +kernel
 intro x h0 h1
 exact h x (by simp;omega) h0
attribute [irreducible] lg ex exn exL lgL
def gm (a b:Int):Int:=if a=0∨b=0 then 0 else ex (lg a.toNat+lg b.toNat)
set_option maxRecDepth 100000 in
set_option maxHeartbeats 1000000 in
theorem mul_ok {w:World} {f:Nat} (h:Fd w f) (a b:Int) (a0:0<=a) (a1:a<=255) (b0:0<=b) (b1:b<=255) :
  Calls Tryz.prog 173 #[.pointer (some ⟨f,0,none⟩),.int .u8 a,.int .u8 b] w fun e w'=>e=.returned (.int .u8 (gm a b))/\Drawn0 w w':=by
 obtain ⟨r,hr⟩:∃ r,gm a b=r:=⟨_,rfl⟩
 rw [hr]
 by_cases ha:a=0
 ·subst ha
  have hr0:r=0:=by rw [<- hr];simp [gm]
  subst hr0
  clear h hr
  go_enter Tryz.func173,Tryz.ntmps173
  go_wp2
  go_ret
  exact ⟨rfl,0,rfl⟩
 by_cases hb:b=0
 ·subst hb
  have hr0:r=0:=by rw [<- hr];simp [gm]
  subst hr0
  clear h hr
  go_enter Tryz.func173,Tryz.ntmps173
  go_wp2
  go_ret
  exact ⟨rfl,0,rfl⟩
 unfold gm at hr
 rw [if_neg (by simp [ha,hb])] at hr
 have l1:=h.lg a.toNat (by omega) (by omega)
 have l2:=h.lg b.toNat (by omega) (by omega)
 have q1:=lg_le a.toNat (by omega) (by omega)
 have q2:=lg_le b.toNat (by omega) (by omega)
 have l3:=h.ex (lg a.toNat+lg b.toNat) (by omega)
 rw [hr] at l3
 obtain ⟨x,hx⟩:∃ x,lg a.toNat=x:=⟨_,rfl⟩
 obtain ⟨y,hy⟩:∃ y,lg b.toNat=y:=⟨_,rfl⟩
 rw [hx] at l1 l3 q1
 rw [hy] at l2 l3 q2
 clear h hr hx hy
 have ea:(a == 0)=false:=by simp [ha]
 have ga:¬ a < 0:=by omega
 have eb:(b == 0)=false:=by simp [hb]
 have ga2:a < 256:=by omega
 have gb:¬ b < 0:=by omega
 have gb2:b < 256:=by omega
 have ga3:a.toNat < 256:=by omega
 have gb3:b.toNat < 256:=by omega
 have gw:wrap64 ((x:Int)+y)=((x+y:Nat):Int):=by rw [w64 _ (by omega)];omega
 have gx:((x+y:Nat):Int) < 510:=by omega
 have gx2:¬ ((x+y:Nat):Int) < 0:=by omega
 go_enter Tryz.func173,Tryz.ntmps173
 go_wp2
 repeat (go_quiet (fail);try go_wp2)
 go_ret
 exact ⟨rfl,_,rfl⟩
def gi (a:Int):Int:=ex ((lg a.toNat*254) % 255)
set_option maxRecDepth 100000 in
set_option maxHeartbeats 1000000 in
theorem pow_ok {w:World} {f:Nat} (h:Fd w f) (a:Int) (a0:1<=a) (a1:a<=255) :
  Calls Tryz.prog 237 #[.pointer (some ⟨f,0,none⟩),.int .u8 a,.int .i64 (-1)] w fun e w'=>e=.returned (.tuple #[.int .u8 (gi a),.int .i64 0])/\Drawn0 w w':=by
 obtain ⟨r,hr⟩:∃ r,gi a=r:=⟨_,rfl⟩
 rw [hr]
 have ha:¬ a=0:=by omega
 unfold gi at hr
 have l1:=h.lg a.toNat (by omega) (by omega)
 have q1:=lg_le a.toNat (by omega) (by omega)
 have l3:=h.ex ((lg a.toNat*254) % 255) (by omega)
 rw [hr] at l3
 obtain ⟨x,hx⟩:∃ x,lg a.toNat=x:=⟨_,rfl⟩
 rw [hx] at l1 l3 q1
 clear h hr hx
 have ga:¬ a < 0:=by omega
 have ga2:a < 256:=by omega
 have ga3:a.toNat < 256:=by omega
 obtain ⟨m,hm⟩:∃ m:Nat,m=x*254:=⟨_,rfl⟩
 have gw:IntKind.i64.wrap ((x:Int)*254)=(m:Int):=by
  rw [IntKind.wrap_i64]
  omega
 obtain ⟨z,hz⟩:∃ z,x*254 % 255=z:=⟨_,rfl⟩
 rw [hz] at l3
 have gz:Int.tmod (m:Int) 255=(z:Int):=by rw [Int.tmod_eq_emod_of_nonneg (by omega)];omega
 have gx:(z:Int) < 510:=by omega
 have gx2:¬ (z:Int) < 0:=by omega
 clear hz hm
 go_enter Tryz.func237,Tryz.ntmps237
 go_wp2
 repeat (go_quiet (fail);try go_wp2)
 go_ret2
 exact ⟨rfl,_,rfl⟩
set_option maxRecDepth 100000 in
theorem inv_ok {w:World} {f:Nat} (h:Fd w f) (a:Int) (a0:1<=a) (a1:a<=255) :
  Calls Tryz.prog 212 #[.pointer (some ⟨f,0,none⟩),.int .u8 a] w fun e w'=>e=.returned (.tuple #[.int .u8 (gi a),.int .i64 0])/\Drawn0 w w':=by
 have H:=Aside0.mk h
 obtain ⟨r,hr⟩:∃ r,gi a=r:=⟨_,rfl⟩
 have HR:=Aside0.mk hr
 have HA:=Aside0.mk (And.intro a0 a1)
 rw [hr]
 clear h hr a0 a1
 go_enter Tryz.func212,Tryz.ntmps212
 go_wp2_with (first|(go_at_call 237;refine (pow_ok H.out a HA.out.1 HA.out.2).mono ?_;rintro e w1 ⟨rfl,nd,rfl⟩;rw [HR.out]))
 go_ret2
 exact ⟨rfl,nd,rfl⟩
theorem setc {w:World} {f:Nat} {cells:Array Value} {t:TypeId} (hc:w.heap[f]?=some (.cells cells t (0,0))) (i:Nat) (u:Value):(w.setCell ⟨f,i,none⟩ u).heap[f]?=some (.cells (cells.setIfInBounds i u) t (0,0)):=by
 simp [World.setCell,Array.getElem?_modify,hc]
set_option maxRecDepth 100000 in
set_option maxHeartbeats 4000000 in
theorem put_ok {w:World} {f b:Nat} {cells:Array Value} (hc:w.heap[f]?=some (.cells cells 85 (0,0))) (hs:cells.size=766) (hb:w.cell? ⟨b,0,none⟩=some (.pointer (some ⟨f,0,none⟩))) (hbf:b≠f) (i x:Nat) (hi:i < 255) (hx:x < 256) :
  Calls Tryz.prog 32 #[.int .i64 i,.int .i64 x,.pointer (some ⟨b,0,none⟩)] w fun e w'=>e=.returned (.tuple #[])/\w'.heap[f]?=some (.cells (((cells.setIfInBounds i (.int .u8 x)).setIfInBounds (i+255) (.int .u8 x)).setIfInBounds (510+x) (.int .i64 i)) 85 (0,0))/\w.grownBy w' (some f)/\w'.heap.size=w.heap.size:=by
 obtain ⟨m,hm⟩:∃ m:Nat,m=i+255:=⟨_,rfl⟩
 have hcc:∀ j,j < 766->∃ v,w.cell? ⟨f,j,none⟩=some v:=fun j hj=>⟨cells[j]'(by omega),by simp [World.cell?,hc]⟩
 have h1:=setc hc i (.int .u8 x)
 have h2:=setc (w:=(w.setCell ⟨f,i,none⟩ (.int .u8 x)).drew) h1 m (.int .u8 x)
 have h3:=setc h2 (510+x) (.int .i64 i)
 obtain ⟨v1,c1⟩:=hcc i (by omega)
 obtain ⟨v2,c2⟩:=hcc m (by omega)
 obtain ⟨v3,c3⟩:=hcc (510+x) (by omega)
 have c2':(w.setCell ⟨f,i,none⟩ (.int .u8 x)).cell? ⟨f,m,none⟩=some v2:=by
  rw [<- c2]
  simp [World.cell?,h1,hc,Array.getElem?_setIfInBounds_ne (show i≠m by omega)]
 have c3':((w.setCell ⟨f,i,none⟩ (.int .u8 x)).drew.setCell ⟨f,m,none⟩ (.int .u8 x)).cell? ⟨f,510+x,none⟩=some v3:=by
  rw [<- c3]
  simp [World.cell?,h2,hc,Array.getElem?_setIfInBounds_ne (show i≠510+x by omega),Array.getElem?_setIfInBounds_ne (show m≠510+x by omega)]
 have fz:∀ j,w.frozen? ⟨f,j,none⟩=false:=fun j=>by simp [World.frozen?,hc]
 have f1:=fz i
 have f2:=fz m
 have f3:=fz (510+x)
 have gx:IntKind.u8.wrap (x:Int)=(x:Int):=by rw [IntKind.wrap_u8];omega
 have g3:IntKind.i64.wrap ((i:Int)+255)=(m:Int):=by rw [IntKind.wrap_i64];omega
 have g1:(i:Int) < 510:=by omega
 have g2:¬ (i:Int) < 0:=by omega
 have g4:(m:Int) < 510:=by omega
 have g5:(x:Int) < 256:=by omega
 have g6:(0:Int)<=m:=by omega
 have g7:(0:Int)<=x:=by omega
 have hb2:((w.setCell ⟨f,i,none⟩ (.int .u8 x)).drew.setCell ⟨f,m,none⟩ (.int .u8 x)).cell? ⟨b,0,none⟩=some (.pointer (some ⟨f,0,none⟩)):=(World.cell?_setCell_far _ _ _ _ (by simpa using fun e=>hbf e.symm)).trans ((World.cell?_setCell_far w _ _ _ (by simpa using fun e=>hbf e.symm)).trans hb)
 have f3':((w.setCell ⟨f,i,none⟩ (.int .u8 x)).drew.setCell ⟨f,m,none⟩ (.int .u8 x)).frozen? ⟨f,510+x,none⟩=false:=by simp [World.frozen?,h2]
 have H3:=Aside0.mk h3
 clear fz hcc h1 h2 h3
 have HC:=Aside0.mk hc
 have HS:=Aside0.mk hs
 have HM:=Aside0.mk hm
 clear hc hs hm
 go_enter Tryz.func32,Tryz.ntmps32
 go_wp2
 go_region_law (fail)
 all_goals go_wp2
 all_goals go_end0
 all_goals refine ⟨rfl,by rw [<- HM.out];exact H3.out,⟨rfl,rfl,rfl,by simp [World.setCell],fun k hk hne=>?_⟩,by simp [World.setCell]⟩
 all_goals
  have hkf:k≠f:=fun e=>hne (by rw [e])
  exact (Below.heap_setCell _ _ _ k hkf).trans ((Below.heap_setCell _ _ _ k hkf).trans (Below.heap_setCell w _ _ k hkf))
def Zc:Array Value:=(List.replicate 510 (Value.int .u8 0) ++ List.replicate 256 (Value.int .i64 0)).toArray
theorem Zc_size:Zc.size=766:=by kernel_rfl
theorem build85 (ev:Operand->Value) (w:World) (o:Oper) (ho:o.op=.build 85 #[]):(execOp ev o).run Tryz.prog w=.ok (.value (.agg Zc)) w:=by
 unfold execOp
 rw [ho]
 kernel_rfl
attribute [irreducible] Zc
def pw (i:Nat):Nat:=exL.getD i 0
theorem pw0:pw 0=1:=by decide +kernel
theorem pw_all:∀ i ∈ List.range 255,1<=pw i/\pw i<=255/\pw (i+1)=dbl (pw i)/\lgL.getD (pw i) 0=i:=by unfold pw;unfold exL lgL;decide +kernel
theorem xor285:∀ z ∈ List.range 512,bits .xor .i64 (z:Int) 285=((z ^^^ 285:Nat):Int):=by decide +kernel
theorem pw_lg {i:Nat} (h:i < 255):lg (pw i)=i:=by
 unfold lg
 exact (pw_all i (by simpa using h)).2.2.2
structure FC (i:Nat) (cells:Array Value):Prop where
 size:cells.size=766
 lo:∀ j,j < i->cells[j]?=some (.int .u8 (pw j))
 hi:∀ j,j < i->cells[j+255]?=some (.int .u8 (pw j))
 lg:∀ j,j < i->cells[510+pw j]?=some (.int .i64 j)
theorem pw_inj {i j:Nat} (hi:i < 255) (hj:j < 255) (h:pw i=pw j):i=j:=by
 rw [<- pw_lg hi,<- pw_lg hj,h]
theorem cell_lt {w:World} {b j:Nat} {v:Value} (h:w.cell? ⟨b,j,none⟩=some v):b < w.heap.size:=by
 by_cases hb:b < w.heap.size
 ·exact hb
 ·simp [World.cell?,Array.getElem?_eq_none (show w.heap.size<=b by omega)] at h
theorem ex_pw:∀ i ∈ List.range 510,exn i=pw (i % 255):=by unfold exn pw;intros;rfl
theorem pw_sur:∀ x ∈ List.range 256,1<=x->lgL.getD x 0 < 255/\exL.getD (lgL.getD x 0) 0=x:=by unfold lgL exL;decide +kernel
theorem FC.fd {w:World} {f:Nat} {cells:Array Value} (h:FC 255 cells) (hc:w.heap[f]?=some (.cells cells 85 (0,0))):Fd w f:=by
 refine ⟨⟨cells,hc,fun i hi=>?_,fun x h0 h1=>?_⟩⟩
 ·have e:ex i=(pw (i % 255):Int):=by unfold ex;rw [ex_pw i (by simpa using hi)]
  rw [e]
  by_cases h2:i < 255
  ·rw [Nat.mod_eq_of_lt h2]
   exact h.lo i h2
  ·have:=h.hi (i - 255) (by omega)
   rw [show i - 255+255=i by omega] at this
   rw [this,show i % 255=i - 255 by omega]
 ·obtain ⟨h2,h3⟩:=pw_sur x (by simp;omega) h0
  have:=h.lg (lgL.getD x 0) h2
  have e:pw (lgL.getD x 0)=x:=h3
  rw [e] at this
  have e2:Top.lg x=lgL.getD x 0:=by unfold Top.lg;rfl
  rw [this,e2]
theorem FC.next {i:Nat} {cells:Array Value} (h:FC i cells) (hi:i < 255):FC (i+1) (((cells.setIfInBounds i (.int .u8 (pw i))).setIfInBounds (i+255) (.int .u8 (pw i))).setIfInBounds (510+pw i) (.int .i64 i)):=by
 have hs:=h.size
 have hp:=pw_all i (by simpa using hi)
 refine ⟨by simp [hs],fun j hj=>?_,fun j hj=>?_,fun j hj=>?_⟩
 ·rw [Array.getElem?_setIfInBounds_ne (by omega),Array.getElem?_setIfInBounds_ne (by omega)]
  by_cases hji:j=i
  ·subst hji
   rw [Array.getElem?_setIfInBounds_self_of_lt (by omega)]
  ·rw [Array.getElem?_setIfInBounds_ne (by omega)]
   exact h.lo j (by omega)
 ·rw [Array.getElem?_setIfInBounds_ne (by omega)]
  by_cases hji:j=i
  ·subst hji
   rw [Array.getElem?_setIfInBounds_self_of_lt (by simp;omega)]
  ·rw [Array.getElem?_setIfInBounds_ne (by omega),Array.getElem?_setIfInBounds_ne (by omega)]
   exact h.hi j (by omega)
 ·by_cases hji:j=i
  ·subst hji
   rw [Array.getElem?_setIfInBounds_self_of_lt (by simp;omega)]
  ·have hpj:=pw_all j (by simp;omega)
   have hne:pw i≠pw j:=fun e=>hji (pw_inj (by omega) hi e.symm)
   rw [Array.getElem?_setIfInBounds_ne (by omega),Array.getElem?_setIfInBounds_ne (by omega),Array.getElem?_setIfInBounds_ne (by omega)]
   exact h.lg j (by omega)
set_option maxRecDepth 100000 in
set_option maxHeartbeats 4000000 in
theorem fnew_ok (w:World) :
  Calls Tryz.prog 17 #[] w fun e w'=>e=.returned (.pointer (some ⟨w.heap.size,0,none⟩))/\Fd w' w.heap.size/\Below w.heap.size w w':=by
 go_enter Tryz.func17,Tryz.ntmps17
 go_wp2_with (first|((with_reducible refine gate_dst (N:=5) rfl ?_);go_loud (refine Kd.event_run (v:=.agg Zc) (w1:=w) rfl (build85 _ _ _ rfl) ?_)))
 go_loopg [3,8] 255 (fun kq x p wr=>∃ (i:Nat) (cells:Array Value),p=.int .i64 i/\x=.int .i64 (pw i)/\i+kq=255/\Aside0 (wr.heap[w.heap.size]?=some (.cells cells 85 (0,0))/\FC i cells)/\Aside0 (wr.cell? ⟨w.heap.size+1,0,none⟩=some (.pointer (some ⟨w.heap.size,0,none⟩))/\Below w.heap.size w wr))
 case atStart =>
  refine ⟨0,Zc,rfl,by rw [pw0];rfl,rfl,⟨?_,Zc_size,fun j hj=>by omega,fun j hj=>by omega,fun j hj=>by omega⟩,⟨?_,?_⟩⟩
  ·rw [heap_alloc_old _ _ (by simp)]
   exact heap_alloc_new _ _
  ·have e:(w.alloc (Obj.cells Zc 85)).heap.size=w.heap.size+1:=by simp
   have h:=heap_alloc_new (w.alloc (Obj.cells Zc 85)) (Obj.cells #[Value.pointer (some { block:=w.heap.size,off:=0 })] 57)
   rw [e] at h
   unfold World.cell?
   rw [h]
   rfl
  ·exact below_alloc (below_alloc (Below.refl _ _) _) _
 case round =>
  obtain ⟨i,cells,rfl,rfl,hk,HC,HB⟩:=hrel
  by_cases hi:i < 255
  ·have g1:(i:Int) < 255:=by omega
   have hp:=pw_all i (by simpa using hi)
   obtain ⟨z,hz⟩:∃ z,pw i*2=z:=⟨_,rfl⟩
   have gz:wrap64 ((pw i:Int)*2)=(z:Int):=by rw [w64 _ (by omega)];omega
   have gx:bits .xor .i64 (z:Int) 285=((z ^^^ 285:Nat):Int):=xor285 z (by simp;omega)
   have HZ:=Aside0.mk (And.intro hz hp)
   have gi:wrap64 ((i:Int)+1)=(i:Int)+1:=w64 _ (by omega)
   clear hp hz
   by_cases hz:z > 255
   ·have g2:(255:Int) < (z:Int):=by omega
    go_wp2_with (first|(go_at_call 32;refine (put_ok HC.out.1 HC.out.2.size HB.out.1 (by omega) i (pw i) hi (by have:=HZ.out;omega)).mono ?_;rintro e w2 ⟨rfl,hc2,hg2,hs2⟩;have H2:=Aside0.mk (And.intro hc2 (And.intro hg2 hs2));clear hc2 hg2 hs2))
    go_roundg (255 - (i+1))
    case measure=>omega
    case rel =>
     obtain ⟨hc2,hg2,hs2⟩:=H2.out
     have h2:=(World.cell?_of_block (a:=⟨w.heap.size+1,0,none⟩) (hg2.block (w.heap.size+1) (cell_lt HB.out.1) (by simp))).trans HB.out.1
     refine ⟨i+1,_,by simp,?_,by omega,⟨hc2,HC.out.2.next hi⟩,⟨h2,?_⟩⟩
     ·have:=HZ.out.2.2.2.1
      rw [this,dbl,if_pos (by have:=HZ.out.1;omega),show 2*pw i=z by have:=HZ.out.1;omega]
     ·exact ⟨hg2.os.trans HB.out.2.os,hg2.tape.trans HB.out.2.tape,hg2.output.trans HB.out.2.output,Nat.le_trans HB.out.2.size hg2.size,fun k hk=>(hg2.block k (Nat.lt_of_lt_of_le hk HB.out.2.size) (by simp;omega)).trans (HB.out.2.block k hk)⟩
   ·have g2:¬ (255:Int) < (z:Int):=by omega
    go_wp2_with (first|(go_at_call 32;refine (put_ok HC.out.1 HC.out.2.size HB.out.1 (by omega) i (pw i) hi (by have:=HZ.out;omega)).mono ?_;rintro e w2 ⟨rfl,hc2,hg2,hs2⟩;have H2:=Aside0.mk (And.intro hc2 (And.intro hg2 hs2));clear hc2 hg2 hs2))
    go_roundg (255 - (i+1))
    case measure=>omega
    case rel =>
     obtain ⟨hc2,hg2,hs2⟩:=H2.out
     have h2:=(World.cell?_of_block (a:=⟨w.heap.size+1,0,none⟩) (hg2.block (w.heap.size+1) (cell_lt HB.out.1) (by simp))).trans HB.out.1
     refine ⟨i+1,_,by simp,?_,by omega,⟨hc2,HC.out.2.next hi⟩,⟨h2,?_⟩⟩
     ·have:=HZ.out.2.2.2.1
      rw [this,dbl,if_neg (by have:=HZ.out.1;omega),show 2*pw i=z by have:=HZ.out.1;omega,gz]
     ·exact ⟨hg2.os.trans HB.out.2.os,hg2.tape.trans HB.out.2.tape,hg2.output.trans HB.out.2.output,Nat.le_trans HB.out.2.size hg2.size,fun k hk=>(hg2.block k (Nat.lt_of_lt_of_le hk HB.out.2.size) (by simp;omega)).trans (HB.out.2.block k hk)⟩
  ·have g1:¬ (i:Int) < 255:=by omega
   have hb:=HB.out.1
   go_wp2
   go_ret
   have e:i=255:=by omega
   subst e
   exact ⟨rfl,HC.out.2.fd HC.out.1,HB.out.2⟩
theorem xor8:∀ a ∈ List.range 8,∀ b ∈ List.range 8,a≠b->bits .xor .i64 (a:Int) (b:Int)=((a ^^^ b:Nat):Int)/\1<=a ^^^ b/\a ^^^ b<=7:=by decide +kernel
def btw (a b:Nat):Int:=gi ((a ^^^ b:Nat):Int)
set_option maxRecDepth 100000 in
theorem between_ok {w:World} {f:Nat} (h:Fd w f) (a b:Nat) (ha:a < 8) (hb:b < 8) (hab:a≠b) :
  Calls Tryz.prog 189 #[.pointer (some ⟨f,0,none⟩),.int .i64 a,.int .i64 b] w fun e w'=>e=.returned (.int .u8 (btw a b))/\Drawn0 w w':=by
 obtain ⟨h1,h2,h3⟩:=xor8 a (by simpa using ha) b (by simpa using hb) hab
 obtain ⟨r,hr⟩:∃ r,btw a b=r:=⟨_,rfl⟩
 unfold btw at hr
 obtain ⟨x,hx⟩:∃ x,a ^^^ b=x:=⟨_,rfl⟩
 rw [hx] at h1 h2 h3 hr
 have hr2:btw a b=r:=by unfold btw;rw [hx];exact hr
 rw [hr2]
 have g1:IntKind.u8.wrap (x:Int)=(x:Int):=by rw [IntKind.wrap_u8];omega
 have H:=Aside0.mk h
 have HR:=Aside0.mk hr
 have HX:=Aside0.mk (And.intro h2 h3)
 clear h hr h2 h3 ha hb hab hx hr2
 go_enter Tryz.func189,Tryz.ntmps189
 go_wp2_with (first|(go_at_call 212;refine (inv_ok H.out x (by have:=HX.out;omega) (by have:=HX.out;omega)).mono ?_;rintro e w1 ⟨rfl,nd,rfl⟩;rw [HR.out]))
 go_ret
 exact ⟨rfl,nd,rfl⟩
set_option maxRecDepth 100000 in
theorem parity1_ok {w:World} {f p q:Nat} (h:Fd w f) (k r c:Nat) (hp:w.cell? ⟨p,0,none⟩=some (.pointer (some ⟨f,0,none⟩))) (hq:w.cell? ⟨q,0,none⟩=some (.int .i64 k)) (hk:k+r < 8) (hc:c < k) :
  Calls Tryz.prog 188 #[.int .i64 r,.int .i64 c,.pointer (some ⟨p,0,none⟩),.pointer (some ⟨q,0,none⟩)] w fun e w'=>e=.returned (.int .u8 (btw (k+r) c))/\Drawn0 w w':=by
 obtain ⟨x,hx⟩:∃ x,k+r=x:=⟨_,rfl⟩
 have gx:wrap64 ((k:Int)+r)=(x:Int):=by rw [w64 _ (by omega)];omega
 rw [hx]
 have H:=Aside0.mk h
 have HX:=Aside0.mk (show x < 8/\c < 8/\x≠c from by omega)
 clear h hk hc hx
 go_enter Tryz.func188,Tryz.ntmps188
 go_wp2_with (first|(go_at_call 189;refine (between_ok H.out x c HX.out.1 HX.out.2.1 HX.out.2.2).mono ?_;rintro e w1 ⟨rfl,nd,rfl⟩))
 go_ret
 exact ⟨rfl,nd,rfl⟩
end Go.Proofs.YtmmcbncpnlknbaaGreat.Top
