import Derived.Test.YtmmcbncpnlknbaaGreatF35
set_option linter.unusedVariables false
set_option linter.unusedSimpArgs false
namespace Go.Proofs.YtmmcbncpnlknbaaGreat.Top
open Go Go.RowKit Go.Proofs.YtmmcbncpnlknbaaGreatW.PrintWords Go.Proofs.YtmmcbncpnlknbaaGreatW.PrintLast Go.Proofs.YtmmcbncpnlknbaaGreatW.PrintMore
def Cl (w:World) (A:Option Addr) (n:Nat) (v:Nat->Value):Prop:=∀ i,i < n->∃ ad,A=some ad/\w.cell? (ad.add i)=some (v i)
theorem Cl.below {w W:World} {A:Option Addr} {n:Nat} {v:Nat->Value} (h:Cl w A n v) (hb:Below w.heap.size w W):Cl W A n v:=fun i hi=>by
 obtain ⟨ad,h1,h2⟩:=h i hi
 exact ⟨ad,h1,(hb.cell (World.block_lt_of_cell? _ _ h2)).trans h2⟩
theorem Im.cl {B:Nat} {w:World} {A:Option Addr} {n c:Nat} {l:List Int} (h:Im B w (.slice A n c) l):n=l.length/\Cl w A n (fun i=>.int .u8 (rd l i)):=by
 obtain ⟨A',c',e,_,hC⟩:=h.slice
 cases e
 exact ⟨rfl,fun i hi=>Bs.at hC i hi⟩
theorem ImS.cl {B:Nat} {w:World} {A:Option Addr} {n c:Nat} {l:List ByteArray} (h:ImS B w (.slice A n c) l):n=l.length/\Cl w A n (fun i=>.string (l.getD i ⟨#[]⟩)):=by
 obtain ⟨A',c',e,_,hC⟩:=h
 cases e
 refine ⟨rfl,fun i hi=>?_⟩
 obtain ⟨g,h1,_,h2⟩:=hC i hi
 exact ⟨_,h1,by rw [add_plain];exact h2⟩
set_option maxRecDepth 100000 in
set_option maxHeartbeats 2000000 in
theorem same48 {w:World} {A A':Option Addr} {n c c':Nat} {v:Nat->Int} (h:Cl w A n (fun i=>.int .u8 (v i))) (h':Cl w A' n (fun i=>.int .u8 (v i))) (hn:n<=1000000) :
  Calls Tryz.prog 48 #[.slice A n c,.slice A' n c'] w fun e w'=>e=.returned (.bool true)/\Below w.heap.size w w':=by
 have H:=Aside0.mk (And.intro h (And.intro h' hn))
 clear h h' hn
 go_enter Tryz.func48,Tryz.ntmps48
 go_wp2
 go_loopg [5] n (fun kq x5 wr=>∃ i:Nat,x5=.int .i64 i/\i+kq=n/\Aside0 (Below w.heap.size w wr))
 case atStart=>exact ⟨0,rfl,by omega,⟨Below.refl _ _⟩⟩
 case round =>
  obtain ⟨i,rfl,hik,HX⟩:=hrel
  by_cases hin:i < n
  ·have f1:(i:Int) < (n:Int):=by omega
   have f0:(0:Int)<=i:=by omega
   have GW:=Aside0.mk (show wrap64 ((i:Int)+1)=(i:Int)+1 from w64 _ (by have:=H.out.2.2;omega))
   have HN9:=Aside0.mk (And.intro hin hik)
   obtain ⟨ad,rfl,y0⟩:=(H.out.1.below HX.out) i hin
   obtain ⟨ad',rfl,y1⟩:=(H.out.2.1.below HX.out) i hin
   go_wp2
   repeat (go_quiet (fail);try go_wp2)
   go_roundg (n - (i+1))
   case measure=>exact meas5 HN9.out.1 HN9.out.2
   case rel=>exact ⟨i+1,by simp [GW.out],meas4 HN9.out.1,⟨below_step HX.out (pw_below_drewN (Below.refl _ _) _)⟩⟩
  ·have f1:¬ (i:Int) < (n:Int):=by omega
   go_wp2
   go_ret
   exact ⟨rfl,HX.out⟩
set_option maxRecDepth 100000 in
set_option maxHeartbeats 2000000 in
theorem same49 {w:World} {A A':Option Addr} {n c c':Nat} {v:Nat->ByteArray} (h:Cl w A n (fun i=>.string (v i))) (h':Cl w A' n (fun i=>.string (v i))) (hn:n<=1000000) :
  Calls Tryz.prog 49 #[.slice A n c,.slice A' n c'] w fun e w'=>e=.returned (.bool true)/\Below w.heap.size w w':=by
 have H:=Aside0.mk (And.intro h (And.intro h' hn))
 clear h h' hn
 go_enter Tryz.func49,Tryz.ntmps49
 go_wp2
 go_loopg [5] n (fun kq x5 wr=>∃ i:Nat,x5=.int .i64 i/\i+kq=n/\Aside0 (Below w.heap.size w wr))
 case atStart=>exact ⟨0,rfl,by omega,⟨Below.refl _ _⟩⟩
 case round =>
  obtain ⟨i,rfl,hik,HX⟩:=hrel
  by_cases hin:i < n
  ·have f1:(i:Int) < (n:Int):=by omega
   have f0:(0:Int)<=i:=by omega
   have GW:=Aside0.mk (show wrap64 ((i:Int)+1)=(i:Int)+1 from w64 _ (by have:=H.out.2.2;omega))
   have HN9:=Aside0.mk (And.intro hin hik)
   obtain ⟨ad,rfl,y0⟩:=(H.out.1.below HX.out) i hin
   obtain ⟨ad',rfl,y1⟩:=(H.out.2.1.below HX.out) i hin
   go_wp2
   repeat (go_quiet (fail);try go_wp2)
   go_roundg (n - (i+1))
   case measure=>exact meas5 HN9.out.1 HN9.out.2
   case rel=>exact ⟨i+1,by simp [GW.out],meas4 HN9.out.1,⟨below_step HX.out (pw_below_drewN (Below.refl _ _) _)⟩⟩
  ·have f1:¬ (i:Int) < (n:Int):=by omega
   go_wp2
   go_ret
   exact ⟨rfl,HX.out⟩
structure S2 (w W:World) (c1 c2:Array Value):Prop where
 x1:W.heap[w.heap.size]?=some (.cells c1 43 (0,0))
 x2:W.heap[w.heap.size+1]?=some (.cells c2 43 (0,0))
 bl:Below w.heap.size w W
section
variable {B B':Nat} {w W W':World} {e l:Int} {A1 A2 A3 A4:Option Addr} {n c1 c2 m c3 c4:Nat}
theorem S2.step {x y:Array Value} (h:S2 w W x y) (hb:Below W.heap.size W W'):S2 w W' x y:=⟨(hb.block _ (blk_lt h.x1)).trans h.x1,(hb.block _ (blk_lt h.x2)).trans h.x2,below_step h.bl hb⟩
theorem S2.all (h:S2 w W (ansC e (.slice A1 n c1) l (.slice A3 m c3)) (ansC e (.slice A2 n c2) l (.slice A4 m c4))) :
  W.cell? ⟨w.heap.size,0,none⟩=some (.int .i64 e)/\W.cell? ⟨w.heap.size,1,none⟩=some (.slice A1 n c1)/\W.cell? ⟨w.heap.size,2,none⟩=some (.int .i64 l)/\W.cell? ⟨w.heap.size,3,none⟩=some (.slice A3 m c3)/\W.cell? ⟨w.heap.size,4,none⟩=some (.int .i64 0)/\W.cell? ⟨w.heap.size,5,none⟩=some (.bool false)/\W.cell? ⟨w.heap.size+1,0,none⟩=some (.int .i64 e)/\W.cell? ⟨w.heap.size+1,1,none⟩=some (.slice A2 n c2)/\W.cell? ⟨w.heap.size+1,2,none⟩=some (.int .i64 l)/\W.cell? ⟨w.heap.size+1,3,none⟩=some (.slice A4 m c4)/\W.cell? ⟨w.heap.size+1,4,none⟩=some (.int .i64 0)/\W.cell? ⟨w.heap.size+1,5,none⟩=some (.bool false):=by
 simp [World.cell?,h.x1,h.x2,ansC]
set_option maxRecDepth 100000 in
set_option maxHeartbeats 2000000 in
theorem sameone {a:Ans} {vd vd' vk vk':Value} (hd:Im B w vd a.data) (hd':Im B' w vd' a.data) (hk:ImS B w vk a.keys) (hk':ImS B' w vk' a.keys) (hl:a.data.length<=1000000/\a.keys.length<=1000000) :
  Calls Tryz.prog 23 #[.agg (ansC a.err vd a.len vk),.agg (ansC a.err vd' a.len vk')] w fun e w'=>e=.returned (.bool true)/\Below w.heap.size w w':=by
 obtain ⟨A1,c1,rfl,_,_⟩:=hd.slice
 obtain ⟨A2,c2,rfl,_,_⟩:=hd'.slice
 have hk2:=hk
 have hk3:=hk'
 obtain ⟨A3,c3,rfl,_,_⟩:=hk2
 obtain ⟨A4,c4,rfl,_,_⟩:=hk3
 have H0:=Aside0.mk (show S2 w ((w.alloc (.cells (ansC a.err (.slice A1 a.data.length c1) a.len (.slice A3 a.keys.length c3)) 43)).alloc (.cells (ansC a.err (.slice A2 a.data.length c2) a.len (.slice A4 a.keys.length c4)) 43)) (ansC a.err (.slice A1 a.data.length c1) a.len (.slice A3 a.keys.length c3)) (ansC a.err (.slice A2 a.data.length c2) a.len (.slice A4 a.keys.length c4)) from ⟨two0 w _ _,two1 w _ _,below_alloc (below_alloc (Below.refl _ _) _) _⟩)
 have HD:=Aside0.mk (fun (W:World) (hb:Below w.heap.size w W)=>same48 (w:=W) (c:=c1) (c':=c2) (hd.cl.2.below hb) (hd'.cl.2.below hb) hl.1)
 have HK:=Aside0.mk (fun (W:World) (hb:Below w.heap.size w W)=>same49 (w:=W) (c:=c3) (c':=c4) (hk.cl.2.below hb) (hk'.cl.2.below hb) hl.2)
 unfold ansC at H0 ⊢
 clear hd hd' hk hk' hl
 go_enter Tryz.func23,Tryz.ntmps23
 go_upto_region 1 with (fail)
 obtain ⟨x0,x1,x2,x3,x4,x5,x6,x7,x8,x9,x10,x11⟩:=H0.out.all
 go_upto_region 2 with (first|(go_at_call 48;go_loud (refine (HD.out _ H0.out.bl).mono ?_;rintro e1 w1 ⟨rfl,hb1⟩;have H1:=Aside0.mk (H0.out.step hb1);clear hb1)))
 obtain ⟨y0,y1,y2,y3,y4,y5,y6,y7,y8,y9,y10,y11⟩:=H1.out.all
 go_upto_region 3 with (first|(go_at_call 49;go_loud (refine (HK.out _ H1.out.bl).mono ?_;rintro e2 w2 ⟨rfl,hb2⟩;have H2:=Aside0.mk (H1.out.step hb2);clear hb2)))
 obtain ⟨z0,z1,z2,z3,z4,z5,z6,z7,z8,z9,z10,z11⟩:=H2.out.all
 go_wp2
 go_ret
 exact ⟨rfl,H2.out.bl⟩
end
theorem getD_flatMap6 (L:List An3) (i j:Nat) (hj:j < 6) (q:An3) (hq:L[i]?=some q):(L.flatMap anCells)[i*6+j]?=(anCells q)[j]? :=by
 induction L generalizing i with
 | nil=>cases hq
 | cons x L ih =>
  cases i with
  | zero =>
   cases hq
   rw [List.flatMap_cons,List.getElem?_append_left (by simp [anCells];omega)]
   simp
  | succ i =>
   rw [List.flatMap_cons,List.getElem?_append_right (by simp [anCells];omega)]
   rw [show (i+1)*6+j - (anCells x).length=i*6+j by simp [anCells];omega]
   exact ih i hq
def Row6 (w:World) (g i:Nat) (q:An3):Prop:=w.cell? ⟨g,i*6,none⟩=some (.int .i64 q.2.2.err)/\w.cell? ⟨g,i*6+1,none⟩=some q.1/\w.cell? ⟨g,i*6+2,none⟩=some (.int .i64 q.2.2.len)/\w.cell? ⟨g,i*6+3,none⟩=some q.2.1/\w.cell? ⟨g,i*6+4,none⟩=some (.int .i64 0)/\w.cell? ⟨g,i*6+5,none⟩=some (.bool false)
section
variable {B B':Nat} {w W:World} {base base':Nat}
theorem Az.row6 {A:Option Addr} {n c:Nat} {L:List An3} (h:Az B w base (.slice A n c) L) (hb:Below w.heap.size w W) {i:Nat} {q:An3} (hq:L[i]?=some q):∃ g,A=some ⟨g,0,none⟩/\Row6 W g i q:=by
 have hi:i < L.length:=(List.getElem?_eq_some_iff.1 hq).1
 obtain ⟨A',c',e,_⟩:=own_slice2 h.own
 cases e
 obtain ⟨g,rfl⟩:∃ g,A=some ⟨g,0,none⟩:=by
  rcases h.own.2 with ⟨_,h0⟩|⟨g,cap,cur,he,_⟩
  ·omega
  ·injection he with he1
   exact ⟨g,he1⟩
 have ho:=own_move h.own (fun k hk=>hb.block k (own_lt h.own k hk))
 have hc:∀ j,j < 6->W.cell? ⟨g,i*6+j,none⟩=(anCells q)[j]? :=fun j hj=>by
  have h0:=ho.cellAt (i*6+j) (by omega)
  rw [h0]
  exact getD_flatMap6 L i j hj q hq
 exact ⟨g,rfl,hc 0 (by omega),hc 1 (by omega),hc 2 (by omega),hc 3 (by omega),hc 4 (by omega),hc 5 (by omega)⟩
set_option maxRecDepth 100000 in
set_option maxHeartbeats 2000000 in
theorem same8 {v v':Value} {L L':List An3} (h:Az B w base v L) (h':Az B' w base' v' L') (he:L.map (fun q=>q.2.2)=L'.map (fun q=>q.2.2)) (hL:L.length<=1000) (hs:∀ q ∈ L,q.2.2.data.length<=1000000/\q.2.2.keys.length<=1000000) :
  Calls Tryz.prog 8 #[v,v'] w fun e w'=>e=.returned (.bool true)/\Below w.heap.size w w':=by
 obtain ⟨A1,c1,rfl,_⟩:=own_slice2 h.own
 obtain ⟨A2,c2,rfl,_⟩:=own_slice2 h'.own
 have hlen:L'.length=L.length:=by have:=congrArg List.length he;simpa using this.symm
 obtain ⟨n,hn⟩:∃ n,L.length=n:=⟨_,rfl⟩
 have H:=Aside0.mk (And.intro h (And.intro h' (And.intro he (And.intro hL hs))))
 have HN:=Aside0.mk (And.intro hn (hlen.trans hn))
 rw [hlen,hn]
 clear h h' he hL hs hn hlen
 go_enter Tryz.func8,Tryz.ntmps8
 go_wp2
 go_loopg [5,6] n (fun kq x5 x6 wr=>∃ i:Nat,x5=.int .i64 i/\i+kq=n/\Aside0 (Below w.heap.size w wr))
 case atStart=>exact ⟨0,rfl,by omega,⟨Below.refl _ _⟩⟩
 case round =>
  obtain ⟨i,rfl,hik,HX⟩:=hrel
  by_cases hin:i < n
  ·have f1:(i:Int) < (n:Int):=by omega
   have f0:(0:Int)<=i:=by omega
   have GW:=Aside0.mk (show wrap64 ((i:Int)+1)=(i:Int)+1 from w64 _ (by have:=HN.out;have:=H.out.2.2.2.1;omega))
   have HN9:=Aside0.mk (And.intro hin hik)
   obtain ⟨q,hq⟩:∃ q,L[i]?=some q:=⟨_,List.getElem?_eq_getElem (by have:=HN.out;omega)⟩
   obtain ⟨q',hq'⟩:∃ q,L'[i]?=some q:=⟨_,List.getElem?_eq_getElem (by have:=HN.out;omega)⟩
   have hqe:q.2.2=q'.2.2:=by
    have h1:=congrArg (fun l=>l[i]?) H.out.2.2.1
    simp only [List.getElem?_map,hq,hq',Option.map_some] at h1
    injection h1
   have hrow:=fun (W:World) (hb:Below w.heap.size w W)=>H.out.1.row6 hb hq
   have hrow':=fun (W:World) (hb:Below w.heap.size w W)=>H.out.2.1.row6 hb hq'
   obtain ⟨g,rfl,_⟩:=hrow wr HX.out
   obtain ⟨g',rfl,_⟩:=hrow' wr HX.out
   have him:=H.out.1.row _ (List.mem_of_getElem? hq)
   have him':=H.out.2.1.row _ (List.mem_of_getElem? hq')
   have hsz:=H.out.2.2.2.2 _ (List.mem_of_getElem? hq)
   obtain ⟨vd,vk,an⟩:=q
   obtain ⟨vd',vk',an'⟩:=q'
   obtain rfl:an=an':=hqe
   change Im B w vd an.data/\ImS B w vk an.keys at him
   change Im B' w vd' an.data/\ImS B' w vk' an.keys at him'
   change an.data.length<=1000000/\an.keys.length<=1000000 at hsz
   obtain ⟨A5,c5,e5,_,_⟩:=him.1.slice
   have hk6:=him.2
   obtain ⟨A6,c6,e6,_,_⟩:=hk6
   obtain ⟨A7,c7,e7,_,_⟩:=him'.1.slice
   have hk8:=him'.2
   obtain ⟨A8,c8,e8,_,_⟩:=hk8
   subst e5 e6 e7 e8
   have HR:=Aside0.mk (fun (W:World) (hb:Below w.heap.size w W)=>show (W.cell? ⟨g,i*6,none⟩=some (.int .i64 an.err)/\W.cell? ⟨g,i*6+1,none⟩=some (.slice A5 an.data.length c5)/\W.cell? ⟨g,i*6+2,none⟩=some (.int .i64 an.len)/\W.cell? ⟨g,i*6+3,none⟩=some (.slice A6 an.keys.length c6)/\W.cell? ⟨g,i*6+4,none⟩=some (.int .i64 0)/\W.cell? ⟨g,i*6+5,none⟩=some (.bool false))/\W.cell? ⟨g',i*6,none⟩=some (.int .i64 an.err)/\W.cell? ⟨g',i*6+1,none⟩=some (.slice A7 an.data.length c7)/\W.cell? ⟨g',i*6+2,none⟩=some (.int .i64 an.len)/\W.cell? ⟨g',i*6+3,none⟩=some (.slice A8 an.keys.length c8)/\W.cell? ⟨g',i*6+4,none⟩=some (.int .i64 0)/\W.cell? ⟨g',i*6+5,none⟩=some (.bool false) from by
    obtain ⟨_,e1,h1⟩:=hrow W hb
    obtain ⟨_,e2,h2⟩:=hrow' W hb
    cases e1
    cases e2
    exact ⟨h1,h2⟩)
   have HC:=Aside0.mk (fun (W:World) (hb:Below w.heap.size w W)=>sameone (w:=W) (him.1.fr (Fr.of_below hb)) (him'.1.fr (Fr.of_below hb)) (him.2.fr (Fr.of_below hb)) (him'.2.fr (Fr.of_below hb)) hsz)
   have HX2:=Aside0.mk (below_drew1 HX.out)
   unfold ansC at HC
   obtain ⟨⟨x0,x1,x2,x3,x4,x5⟩,x6,x7,x8,x9,x10,x11⟩:=HR.out _ HX2.out
   clear hrow hrow' him him' hsz hq hq'
   go_upto_region 6 with (fail)
   go_region_held3 (fun W=>(W.cell? ⟨g,i*6,none⟩=some (.int .i64 an.err)/\W.cell? ⟨g,i*6+1,none⟩=some (.slice A5 an.data.length c5)/\W.cell? ⟨g,i*6+2,none⟩=some (.int .i64 an.len)/\W.cell? ⟨g,i*6+3,none⟩=some (.slice A6 an.keys.length c6)/\W.cell? ⟨g,i*6+4,none⟩=some (.int .i64 0)/\W.cell? ⟨g,i*6+5,none⟩=some (.bool false))/\W.cell? ⟨g',i*6,none⟩=some (.int .i64 an.err)/\W.cell? ⟨g',i*6+1,none⟩=some (.slice A7 an.data.length c7)/\W.cell? ⟨g',i*6+2,none⟩=some (.int .i64 an.len)/\W.cell? ⟨g',i*6+3,none⟩=some (.slice A8 an.keys.length c8)/\W.cell? ⟨g',i*6+4,none⟩=some (.int .i64 0)/\W.cell? ⟨g',i*6+5,none⟩=some (.bool false)) (first|with_reducible exact HR.out _ HX2.out|with_reducible exact HR.out _ H1.out) (first|(go_at_call 23;go_loud (refine (HC.out _ HX2.out).mono ?_;rintro e1 w1 ⟨rfl,hb1⟩;have H1:=Aside0.mk (below_step HX2.out hb1);clear hb1)))
   go_wp2
   go_roundg (n - (i+1))
   case measure=>exact meas5 HN9.out.1 HN9.out.2
   case rel=>exact ⟨i+1,by simp [GW.out],meas4 HN9.out.1,⟨H1.out⟩⟩
  ·have f1:¬ (i:Int) < (n:Int):=by omega
   go_wp2
   go_ret
   exact ⟨rfl,HX.out⟩
end
section
variable {w:World} {K M Z T L O:Int}
theorem gcheck_all (hK:LayA.R K) (hM:LayA.R M) (w:World) :
  Calls Tryz.prog 12 #[geoV K M Z T L O] w fun e w'=>e=.returned (.int .i64 (LayA.chk K M Z T L O))/\Below w.heap.size w w':=gchk_ok hK hM w
def smallB (K M Z T L O:Int):Bool:=!decide (LayA.Good K M Z T L O) || (decide (K+M<=7) && decide (Z<=8) && decide (T<=20))
set_option maxHeartbeats 2000000 in
theorem small_ok (hK:LayA.R K) (hM:LayA.R M) (w:World) :
  Calls Tryz.prog 11 #[geoV K M Z T L O] w fun e w'=>e=.returned (.bool (smallB K M Z T L O))/\Below w.heap.size w w':=by
 have hb0:Below w.heap.size w (w.alloc (.cells (geoC K M Z T L O) 23)):=below_alloc (Below.refl _ _) _
 have H0:=Aside0.mk (show Gb w (w.alloc (.cells (geoC K M Z T L O) 23)) w.heap.size K M Z T L O from ⟨heap_alloc_new w _,hb0⟩)
 have HC:=Aside0.mk (fun W=>gcheck_all (Z:=Z) (T:=T) (L:=L) (O:=O) hK hM W)
 obtain ⟨x0,x1,x2,x3,x4,x5⟩:=geo_cells H0.out.1
 unfold geoC at H0 x0 x1 x2 x3 x4 x5
 unfold geoV at HC ⊢
 clear hK hM hb0
 by_cases hG:LayA.Good K M Z T L O
 ·have hc:LayA.chk K M Z T L O=0:=if_pos hG
  rw [hc] at HC
  have hg':=hG
  unfold LayA.Good at hg'
  have hw:wrap64 (K+M)=K+M:=w64 _ (by omega)
  have he:smallB K M Z T L O=(decide (K+M<=7) && decide (Z<=8) && decide (T<=20)):=by simp [smallB,hG]
  have HE:=Aside0.mk he
  have HW:=Aside0.mk hw
  clear hc hg' hG he hw
  go_enter Tryz.func11,Tryz.ntmps11
  go_upto_region 1 with (fail)
  have q1:wrap64 (K+M)=K+M:=HW.out
  by_cases p1:K+M<=7 <;> by_cases p2:Z<=8 <;> by_cases p3:T<=20
  all_goals
   go_wp2_with (first|(go_at_call 12;go_loud (refine (HC.out _).mono ?_;rintro e1 w1 ⟨rfl,hb1⟩;have H1:=Aside0.mk (H0.out.step hb1);obtain ⟨y0,y1,y2,y3,y4,y5⟩:=geo_cells H1.out.1;clear hb1)))
   refine bodyPost_ret (results_single (r:=.tmp 2) rfl (.tmp .nil)) rfl ⟨?_,H1.out.2⟩
   rw [HE.out]
   simp [p1,p2,p3]
 ·have hc:LayA.chk K M Z T L O=50:=if_neg hG
  rw [hc] at HC
  have HE:=Aside0.mk (show smallB K M Z T L O=true by simp [smallB,hG])
  clear hc hG
  go_enter Tryz.func11,Tryz.ntmps11
  go_wp2_with (first|(go_at_call 12;go_loud (refine (HC.out _).mono ?_;rintro e1 w1 ⟨rfl,hb1⟩;have H1:=Aside0.mk (H0.out.step hb1);obtain ⟨y0,y1,y2,y3,y4,y5⟩:=geo_cells H1.out.1;clear hb1)))
  refine bodyPost_ret (results_single (r:=.tmp 2) rfl (.tmp .nil)) rfl ⟨?_,H1.out.2⟩
  rw [HE.out]
  rfl
def fitB (K M Z T L O:Int) (n:Nat):Bool:=smallB K M Z T L O && decide (LayA.Good K M Z T L O) && decide (n<=500)
set_option maxHeartbeats 2000000 in
theorem fits5_ok (hK:LayA.R K) (hM:LayA.R M) (w:World) (A:Option Addr) (n c:Nat) :
  Calls Tryz.prog 5 #[geoV K M Z T L O,.slice A n c] w fun e w'=>e=.returned (.bool (fitB K M Z T L O n))/\Below w.heap.size w w':=by
 have hb0:Below w.heap.size w (w.alloc (.cells (geoC K M Z T L O) 23)):=below_alloc (Below.refl _ _) _
 have H0:=Aside0.mk (show Gb w (w.alloc (.cells (geoC K M Z T L O) 23)) w.heap.size K M Z T L O from ⟨heap_alloc_new w _,hb0⟩)
 have HC:=Aside0.mk (fun W=>gcheck_all (Z:=Z) (T:=T) (L:=L) (O:=O) hK hM W)
 have HS:=Aside0.mk (fun W=>small_ok (Z:=Z) (T:=T) (L:=L) (O:=O) hK hM W)
 obtain ⟨x0,x1,x2,x3,x4,x5⟩:=geo_cells H0.out.1
 unfold geoC at H0 x0 x1 x2 x3 x4 x5
 unfold geoV at HC HS ⊢
 clear hK hM hb0
 obtain ⟨b,hb⟩:∃ b,smallB K M Z T L O=b:=⟨_,rfl⟩
 obtain ⟨x,hx⟩:∃ x,LayA.chk K M Z T L O=x:=⟨_,rfl⟩
 have HE:=Aside0.mk (show fitB K M Z T L O n=(b && decide (LayA.Good K M Z T L O) && decide (n<=500)) by rw [<- hb];rfl)
 have HX:=Aside0.mk (show (x=0/\LayA.Good K M Z T L O)∨(x=50/\¬ LayA.Good K M Z T L O) by
  rw [<- hx]
  by_cases hG:LayA.Good K M Z T L O
  ·exact .inl ⟨if_pos hG,hG⟩
  ·exact .inr ⟨if_neg hG,hG⟩)
 rw [hb] at HS
 rw [hx] at HC
 clear hb hx
 go_enter Tryz.func5,Tryz.ntmps5
 go_upto_region 1 with (fail)
 cases b
 ·go_wp2_with (first|(go_at_call 11;go_loud (refine (HS.out _).mono ?_;rintro e1 w1 ⟨rfl,hb1⟩;have H1:=Aside0.mk (H0.out.step hb1);obtain ⟨y0,y1,y2,y3,y4,y5⟩:=geo_cells H1.out.1;clear hb1)))
  refine bodyPost_ret (results_single (r:=.tmp 4) rfl (.tmp .nil)) rfl ⟨?_,H1.out.2⟩
  rw [HE.out]
  rfl
 ·by_cases p1:n<=500
  all_goals
   rcases HX.out with ⟨rfl,hG⟩|⟨rfl,hG⟩
   all_goals
    have HG:=Aside0.mk hG
    have q1:((n:Int)<=500)↔n<=500:=by omega
    clear hG
    go_wp2_with (first|(go_at_call 12;go_loud (refine (HC.out _).mono ?_;rintro e2 w2 ⟨rfl,hb2⟩;have H2:=Aside0.mk (H1.out.step hb2);clear hb2))|(go_at_call 11;go_loud (refine (HS.out _).mono ?_;rintro e1 w1 ⟨rfl,hb1⟩;have H1:=Aside0.mk (H0.out.step hb1);obtain ⟨y0,y1,y2,y3,y4,y5⟩:=geo_cells H1.out.1;clear hb1)))
    refine bodyPost_ret (results_single (r:=.tmp 4) rfl (.tmp .nil)) rfl ⟨?_,H2.out.2⟩
    rw [HE.out]
    simp [p1,q1,HG.out]
end
section
variable {w:World} {kd:Int} {k:ByteArray} {A:Option Addr} {n c:Nat} {d1 d2 d3 d4:Int} {A':Option Addr} {n' c':Nat}
theorem op_cells {W:World} {g:Nat} {v:Value} (h:W.heap[g]?=some (.cells (opC kd k A n c d1 d2 d3 d4 v) 39 (0,0))) :
  W.cell? ⟨g,0,none⟩=some (.int .i64 kd)/\W.cell? ⟨g,1,none⟩=some (.string k)/\W.cell? ⟨g,2,none⟩=some (.slice A n c)/\W.cell? ⟨g,3,none⟩=some (.int .i64 d1)/\W.cell? ⟨g,4,none⟩=some (.int .i64 d2)/\W.cell? ⟨g,5,none⟩=some (.int .i64 d3)/\W.cell? ⟨g,6,none⟩=some (.int .u8 d4)/\W.cell? ⟨g,7,none⟩=some v:=by
 simp [World.cell?,h,opC]
theorem client14 (w:World) :
  Calls Tryz.prog 14 #[.agg (opC kd k A n c d1 d2 d3 d4 (.slice A' n' c'))] w fun e w'=>e=.returned (.bool (decide (1<=kd) && decide (kd<=5)))/\Below w.heap.size w w':=by
 have hb0:Below w.heap.size w (w.alloc (.cells (opC kd k A n c d1 d2 d3 d4 (.slice A' n' c')) 39)):=below_alloc (Below.refl _ _) _
 obtain ⟨x0,x1,x2,x3,x4,x5,x6,x7⟩:=op_cells (heap_alloc_new w (.cells (opC kd k A n c d1 d2 d3 d4 (.slice A' n' c')) 39))
 unfold opC at hb0 x0 x1 x2 x3 x4 x5 x6 x7 ⊢
 have HB:=Aside0.mk hb0
 clear hb0
 go_enter Tryz.func14,Tryz.ntmps14
 rcases (show (1<=kd/\kd<=5)∨(1<=kd/\¬ kd<=5)∨(¬ 1<=kd/\kd<=5) by omega) with ⟨p1,p2⟩|⟨p1,p2⟩|⟨p1,p2⟩
 all_goals
  go_wp2
  go_ret
  exact ⟨by simp [p1,p2],HB.out⟩
def calC (kd:Int) (k:ByteArray) (A:Option Addr) (n c:Nat):Array Value:=#[.int .i64 kd,.string k,.slice A n c,.slice none 0 0,.int .i64 0,.int .i64 0,.int .i64 0,.int .i64 0,.int .u8 0,.slice none 0 0,.slice none 0 0]
theorem call16 (w:World) :
  Calls Tryz.prog 16 #[.agg (opC kd k A n c d1 d2 d3 d4 (.slice A' n' c'))] w fun e w'=>e=.returned (.agg (calC kd k A n c))/\Below w.heap.size w w':=by
 have hb0:Below w.heap.size w (w.alloc (.cells (opC kd k A n c d1 d2 d3 d4 (.slice A' n' c')) 39)):=below_alloc (Below.refl _ _) _
 obtain ⟨x0,x1,x2,x3,x4,x5,x6,x7⟩:=op_cells (heap_alloc_new w (.cells (opC kd k A n c d1 d2 d3 d4 (.slice A' n' c')) 39))
 unfold opC at hb0 x0 x1 x2 x3 x4 x5 x6 x7 ⊢
 have HB:=Aside0.mk hb0
 clear hb0
 go_enter Tryz.func16,Tryz.ntmps16
 go_wp2
 exact bodyPost_ret (results_single (r:=.cell 2 54) rfl (.cell (w.heap.size+1) 54 _ (0,0) _ rfl (two1 w _ _) Tryz.underlying54 rfl (by kernel_rfl) .nil)) rfl ⟨rfl,below_alloc HB.out _⟩
end
end Go.Proofs.YtmmcbncpnlknbaaGreat.Top
