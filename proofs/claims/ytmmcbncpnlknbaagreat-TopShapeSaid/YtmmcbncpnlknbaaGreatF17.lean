import Derived.Test.YtmmcbncpnlknbaaGreatF16
set_option linter.unusedVariables false
set_option linter.unusedSimpArgs false
namespace Go.Proofs.YtmmcbncpnlknbaaGreat.Top
open Go Go.RowKit Go.Proofs.YtmmcbncpnlknbaaGreatW.PrintWords Go.Proofs.YtmmcbncpnlknbaaGreatW.PrintLast Go.Proofs.YtmmcbncpnlknbaaGreatW.PrintMore
def Rs (w:World) (v:Value) (l:List (List Int)):Prop:=∃ A c,v=.slice A l.length c/\l.length<=c/\(Kd.slice 5 (Kd.int .u8)).C w A l.length l
theorem Rs.below {w W:World} {v:Value} {l:List (List Int)} (h:Rs w v l) (hb:Below w.heap.size w W):Rs W v l:=by
 obtain ⟨A,c,h1,h2,h3⟩:=h
 exact ⟨A,c,h1,h2,Kd.C_below h3 hb⟩
theorem Rs.at {w:World} {A:Option Addr} {l:List (List Int)} (h:(Kd.slice 5 (Kd.int .u8)).C w A l.length l) (i:Nat) (hi:i < l.length):∃ ad v,A=some ad/\w.cell? (ad.add i)=some v/\Bs w v (l.getD i []):=by
 obtain ⟨ad,c,e,hl,hK,hc⟩:=Kd.C_get h [] (i:Int) (by omega) (by omega)
 obtain ⟨A2,c2,hcs,hle,hC⟩:=hK
 subst hcs
 have h2:=hc 0 _ rfl
 rw [Int.toNat_natCast] at h2
 exact ⟨ad,_,e,by simpa [show (Kd.slice 5 (Kd.int .u8)).sz=1 from rfl] using h2,A2,c2,by simp,by simpa using hle,by simpa using hC⟩
def anyB (l:List Bool):Nat->Bool
 | 0=>false
 | i+1=>anyB l i || rb l i
def szv (l:List Bool) (L i:Nat):Int:=if anyB l i=true then (L:Int) else -1
theorem szv_there (l:List Bool) (L i:Nat) (h:rb l i=true):szv l L (i+1)=L:=by simp [szv,anyB,h]
theorem szv_lost (l:List Bool) (L i:Nat) (h:rb l i=false):szv l L (i+1)=szv l L i:=by simp [szv,anyB,h]
theorem szv_or (l:List Bool) (L i:Nat):szv l L i=L∨szv l L i=-1:=by unfold szv;split <;> simp
set_option maxRecDepth 100000 in
set_option maxHeartbeats 1000000 in
theorem size_ok (w:World) (k m L:Nat) (has:List Bool) (shs:List (List Int)) (v u:Value) (hv:Bo w v has) (hu:Rs w u shs) (hh:has.length=k+m) (hs:shs.length=k+m) (hL:∀ i,rb has i=true->(shs.getD i []).length=L) (hkm:k+m<=7) :
  Calls Tryz.prog 176 #[.int .i64 k,.int .i64 m,v,u] w fun e w'=>e=.returned (.int .i64 (szv has L (k+m)))/\w'=w:=by
 obtain ⟨A,cc,rfl,hcc,hC⟩:=hv
 obtain ⟨A2,c2,rfl,hc2,hC2⟩:=hu
 obtain ⟨N,hN⟩:∃ N,k+m=N:=⟨_,rfl⟩
 have gN:wrap64 ((k:Int)+m)=(N:Int):=by rw [w64 _ (by omega)];omega
 have H:=Aside0.mk (And.intro hC (And.intro hC2 (And.intro hL (And.intro hh hs))))
 have HN:=Aside0.mk (show N<=7 by omega)
 have HN2:=Aside0.mk hN
 rw [hh,hs,hN]
 clear hcc hC hc2 hC2 hL hh hs hkm hN
 go_enter Tryz.func176,Tryz.ntmps176
 go_wp2
 simp only [gN]
 go_loopg [9,28] N (fun kq x y wr=>∃ i:Nat,x=.int .i64 (szv has L i)/\y=.int .i64 i/\i+kq=N/\wr=w)
 case atStart=>exact ⟨0,rfl,rfl,by omega,rfl⟩
 case round =>
  obtain ⟨i,rfl,rfl,hi,rfl⟩:=hrel
  by_cases hin:i < N
  ·have g1:(i:Int) < (N:Int):=by omega
   have g0:(0:Int)<=i:=by omega
   have hi7:i < 7:=by have:=HN.out;omega
   have gw:wrap64 ((i:Int)+1)=(i:Int)+1:=w64 _ (by omega)
   obtain ⟨ad,ea2,hx0⟩:=Bo.at H.out.1 i (by have:=H.out;have:=HN2.out;omega)
   subst ea2
   obtain ⟨ad2,v2,ea3,hx1,hb1⟩:=Rs.at H.out.2.1 i (by have:=H.out;have:=HN2.out;omega)
   subst ea3
   obtain ⟨A3,c3,rfl,hc3,hC3⟩:=hb1
   clear hc3 hC3
   cases hmi:rb has i with
   | true =>
    rw [H.out.2.2.1 i hmi] at hx1
    have hst:=szv_there has L i hmi
    rw [hmi] at hx0
    have HS:=Aside0.mk hst
    clear hst hmi
    rcases szv_or has L i with hz|hz
    ·rw [hz]
     have g2:¬ ((L:Int) < 0):=by omega
     clear hz
     go_wp2
     go_roundg (N - (i+1))
     case measure=>omega
     case rel=>exact ⟨i+1,by rw [HS.out],by simp [gw],by omega,rfl⟩
    ·rw [hz]
     clear hz
     go_wp2
     go_roundg (N - (i+1))
     case measure=>omega
     case rel=>exact ⟨i+1,by rw [HS.out],by simp [gw],by omega,rfl⟩
   | false =>
    have hst:=szv_lost has L i hmi
    rw [hmi] at hx0
    have HS:=Aside0.mk hst
    obtain ⟨Z,hZ⟩:∃ Z,szv has L i=Z:=⟨_,rfl⟩
    have HZ:=Aside0.mk hZ
    rw [hZ]
    clear hst hmi hZ
    go_wp2
    go_roundg (N - (i+1))
    case measure=>omega
    case rel=>exact ⟨i+1,by rw [HS.out,HZ.out],by simp [gw],by omega,rfl⟩
  ·have g1:¬ (i:Int) < (N:Int):=by omega
   have e:i=N:=by omega
   subst e
   go_wp2
   go_ret
   exact ⟨rfl,rfl⟩
structure Rwo (w:World) (base go N:Nat) (ow:Nat->Nat) (rows:Nat->List Int):Prop where
 ex:∃ vs:Nat->Value,w.heap[go]?=some (.cells ((List.range N).map vs).toArray 36 (0,0))/\∀ i,i < N->Kd.R (Kd.int .u8) 5 w base (fun k=>ow k=i) (vs i) (rows i)
theorem Rwo.step {w W:World} {base go N:Nat} {ow:Nat->Nat} {rows:Nat->List Int} (h:Rwo w base go N ow rows) (hgo:W.heap[go]?=w.heap[go]?) (hm:∀ k cells,k < w.heap.size->ow k < N->w.heap[k]?=some (.cells cells 5 (0,0))->W.heap[k]?=w.heap[k]?):Rwo W base go N ow rows:=by
 obtain ⟨vs,h1,h2⟩:=h
 refine ⟨vs,hgo.trans h1,fun i hi=>?_⟩
 refine Kd.R_mono (Kd.R_move (Kd.R_bound (h2 i hi)) (fun k hk=>?_)) (fun k hk=>hk.1)
 obtain ⟨h3,h4,h5,q,hq,cells,hc⟩:=hk
 have e:q=5:=by simpa [Kd.int,Kd.scalar] using hq
 subst e
 exact hm k cells h5 (by omega) hc
theorem Rwo.below {w W:World} {base go N:Nat} {ow:Nat->Nat} {rows:Nat->List Int} (h:Rwo w base go N ow rows) (hb:Below w.heap.size w W):Rwo W base go N ow rows:=by
 obtain ⟨vs,h1,h2⟩:=h.ex
 exact h.step (hb.block go (blk_lt h1)) (fun k _ hk _ _=>hb.block k hk)
theorem Rwo.nobody {w:World} {base go N:Nat} {ow:Nat->Nat} {rows:Nat->List Int} (h:Rwo w base go N ow rows):Rwo w base go N (fun k=>if k=go then N+1 else if k < w.heap.size then ow k else N) rows:=by
 obtain ⟨vs,h1,h2⟩:=h
 refine ⟨vs,h1,fun i hi=>Kd.R_mono (Kd.R_bound (h2 i hi)) (fun k hk=>?_)⟩
 obtain ⟨h3,h4,h5,q,hq,cells,hc⟩:=hk
 have e:q=5:=by simpa [Kd.int,Kd.scalar] using hq
 subst e
 have hne:k≠go:=fun e=>by
  rw [e,h1] at hc
  injection hc with hc
  injection hc with _ hc
  cases hc
 simp [hne,h5,h3]
theorem Rwo.get {w:World} {base go N:Nat} {ow:Nat->Nat} {rows:Nat->List Int} (h:Rwo w base go N ow rows) {i:Nat} (hi:i < N) :
  ∃ v,w.cell? ⟨go,i,none⟩=some v/\w.frozen? ⟨go,i,none⟩=false/\Kd.R (Kd.int .u8) 5 w base (fun k=>ow k=i) v (rows i):=by
 obtain ⟨vs,h1,h2⟩:=h
 refine ⟨vs i,?_,blk_frozen h1 i,h2 i hi⟩
 rw [blk_cell h1 i]
 simp [hi]
def updF (rows:Nat->List Int) (i:Nat) (l:List Int):Nat->List Int:=fun j=>if j=i then l else rows j
def owN (ow:Nat->Nat) (s i:Nat):Nat->Nat:=fun k=>if k < s then ow k else i
theorem Rwo.put {W w1:World} {base go N:Nat} {ow:Nat->Nat} {rows:Nat->List Int} (h:Rwo W base go N ow rows) {i:Nat} (hi:i < N) {v v1:Value} {l:List Int}
  (hv:∀ k,v.ownBlock=some k->ow k=i) (hgo:ow go=N+1) (hg:W.grownBy w1 v.ownBlock) (hr:Kd.R (Kd.int .u8) 5 w1 base (fun k=>owN ow W.heap.size i k=i) v1 l) :
  Rwo (w1.setCell ⟨go,i,none⟩ v1) base go N (owN ow W.heap.size i) (updF rows i l):=by
 obtain ⟨vs,h1,h2⟩:=h
 have hgl:go < W.heap.size:=blk_lt h1
 have hne:some go≠v.ownBlock:=fun e=>by have:=hv go e.symm;omega
 have h3:w1.heap[go]?=some (.cells ((List.range N).map vs).toArray 36 (0,0)):=(hg.block go hgl hne).trans h1
 refine ⟨fun j=>if j=i then v1 else vs j,?_,fun j hj=>?_⟩
 ·rw [setc h3]
  congr 2
  apply Array.ext'
  rw [Array.toList_setIfInBounds]
  simp only []
  apply List.ext_getElem
  ·simp
  ·intro a ha hb
   simp only [List.getElem_set,List.getElem_map,List.getElem_range]
   by_cases hai:i=a
   ·subst hai;simp
   ·rw [if_neg hai,if_neg (fun e=>hai e.symm)]
 ·have hset:∀ {ok:Nat->Prop} {u:Value} {x:List Int},Kd.R (Kd.int .u8) 5 w1 base ok u x->Kd.R (Kd.int .u8) 5 (w1.setCell ⟨go,i,none⟩ v1) base ok u x:=fun hx=>Kd.R_set hx h3 (by decide) i v1
  by_cases hji:j=i
  ·subst hji
   simp only [updF,if_pos rfl]
   exact hset hr
  ·simp only [updF,if_neg hji]
   refine hset (Kd.R_grown (Kd.R_mono (Kd.R_bound (h2 j hj)) (fun k hk=>?_)) hg (fun k hk e=>?_))
   ·show owN ow W.heap.size i k=j
    rw [owN,if_pos hk.2.2.1]
    exact hk.1
   ·have h4:=hv k e.symm
    have:owN ow W.heap.size i k=i:=by
     unfold owN
     split
     ·exact h4
     ·rfl
    omega
theorem Bf.put {W w1:World} {go N:Nat} {ow:Nat->Nat} {u:Value} {x:List Int} (h:Bf (fun k=>ow k=N) W u x) {i:Nat} (hi:i < N) {v v1:Value}
  (hv:∀ k,v.ownBlock=some k->ow k=i) (hgo:ow go=N+1) (hgl:go < W.heap.size) (hg:W.grownBy w1 v.ownBlock):Bf (fun k=>owN ow W.heap.size i k=N) (w1.setCell ⟨go,i,none⟩ v1) u x:=by
 have h2:Bf (fun k=>ow k=N/\k < W.heap.size) W u x:=Kd.V_bound h
 have h3:Bf (fun k=>ow k=N/\k < W.heap.size) w1 u x:=Kd.V_grown h2 hg (fun k hk e=>by have:=hv k e.symm;omega)
 refine (h3.set (g:=go) (fun k hk e=>by rw [e] at hk;omega) i v1).mono (fun k hk=>?_)
 show owN ow W.heap.size i k=N
 rw [owN,if_pos hk.2]
 exact hk.1
attribute [local irreducible] mulRows PAll.poly_sum.f PAll.poly_Norm.f PAll.poly_Deriv.f
def Kt (w W:World):Prop:=∀ (j:Nat) (cells:Array Value) (t:TypeId),w.heap[j]?=some (.cells cells t (0,0))->t≠4->t≠5->t≠36->W.heap[j]?=w.heap[j]?
theorem Kt.refl (w:World):Kt w w:=fun _ _ _ _ _ _ _=>rfl
theorem Kt.trans {a b c:World} (h:Kt a b) (k:Kt b c):Kt a c:=fun j cells t hj h1 h2 h3=>(k j cells t ((h j cells t hj h1 h2 h3).trans hj) h1 h2 h3).trans (h j cells t hj h1 h2 h3)
theorem Kt.below {a b:World} (h:Below a.heap.size a b):Kt a b:=fun j cells t hj _ _ _=>h.block j (blk_lt hj)
theorem Kt.set {w:World} {g:Nat} {cells:Array Value} {t:TypeId} (hg:w.heap[g]?=some (.cells cells t (0,0))) (ht:t=4∨t=5∨t=36) (i:Nat) (u:Value):Kt w (w.setCell ⟨g,i,none⟩ u):=fun j c2 t2 hj h1 h2 h3=>Below.heap_setCell _ _ _ j (fun e=>by
 have e:j=g:=e
 rw [e,hg] at hj
 injection hj with hj
 injection hj with _ hj
 subst hj
 rcases ht with e1|e1|e1
 ·exact h1 e1
 ·exact h2 e1
 ·exact h3 e1)
theorem Kt.grown {w W:World} {r:Option Nat} (h:w.grownBy W r) (hr:∀ k,r=some k->∃ cells,w.heap[k]?=some (.cells cells 5 (0,0))):Kt w W:=fun j c2 t2 hj h1 h2 h3=>h.block j (blk_lt hj) (fun e=>by
 obtain ⟨cells,hc⟩:=hr j e.symm
 rw [hc] at hj
 injection hj with hj
 injection hj with _ hj
 exact h2 hj.symm)
theorem Gs.bel {S:Nat->Prop} {w W:World} {B:Nat} (h:Gs S w W) (hB:B<=w.heap.size) (hS:∀ k,S k->B<=k):Below B w W:=⟨h.os,h.tape,h.output,h.size,fun k hk=>h.block k (Nat.lt_of_lt_of_le hk hB) (fun e=>by have:=hS k e;omega)⟩
theorem Gs.kt {g:Nat} {w W:World} {cells:Array Value} {t:TypeId} (h:Gs (fun k=>k=g) w W) (hg:w.heap[g]?=some (.cells cells t (0,0))) (ht:t=4∨t=5∨t=36):Kt w W:=fun j c2 t2 hj h1 h2 h3=>h.block j (blk_lt hj) (fun e=>by
 subst e
 rw [hg] at hj
 injection hj with hj
 injection hj with _ hj
 subst hj
 rcases ht with e1|e1|e1
 ·exact h1 e1
 ·exact h2 e1
 ·exact h3 e1)
theorem Gs.set {g:Nat} {S:Nat->Prop} {w W:World} (h:Gs S w W) (hg:w.heap.size<=g∨S g) (i:Nat) (u:Value):Gs S w (W.setCell ⟨g,i,none⟩ u):=h.step (grown_setCell W g i u) (fun j e=>by cases e;exact hg)
theorem Rwo.gs {w W:World} {base go N g:Nat} {ow:Nat->Nat} {rows:Nat->List Int} (h:Rwo w base go N ow rows) {cells:Array Value} (hg:w.heap[g]?=some (.cells cells 4 (0,0))) (hs:Gs (fun k=>k=g) w W):Rwo W base go N ow rows:=by
 obtain ⟨vs,h1,h2⟩:=h.ex
 refine h.step (hs.block go (blk_lt h1) (fun e=>?_)) (fun k c hk _ hc=>hs.block k hk (fun e=>?_))
 ·subst e
  rw [h1] at hg
  injection hg with hg
  injection hg with _ hg
  cases hg
 ·subst e
  rw [hc] at hg
  injection hg with hg
  injection hg with _ hg
  cases hg
structure Cs (B:Nat) (w:World) (f k m N bk bm bh bi bs bf bo bw gm go:Nat) (vh vs:Value):Prop where
 ck:w.heap[bk]?=some (.cells #[.int .i64 k] 3 (0,0))
 cm:w.heap[bm]?=some (.cells #[.int .i64 m] 3 (0,0))
 ch:w.heap[bh]?=some (.cells #[vh] 120 (0,0))
 ci:w.heap[bi]?=some (.cells #[.slice (some ⟨gm,0,none⟩) N N] 120 (0,0))
 cs:w.heap[bs]?=some (.cells #[vs] 125 (0,0))
 cf:w.heap[bf]?=some (.cells #[.pointer (some ⟨f,0,none⟩)] 57 (0,0))
 co:w.heap[bo]?=some (.cells #[.slice (some ⟨go,0,none⟩) N N] 125 (0,0))
 cw:w.heap[bw]?=some (.cells #[.slice none 0 0] 98 (0,0))
 ge:B<=gm/\B<=go/\B<=bw
theorem Cs.step {B:Nat} {w W:World} {f k m N bk bm bh bi bs bf bo bw gm go:Nat} {vh vs:Value} (h:Cs B w f k m N bk bm bh bi bs bf bo bw gm go vh vs) (hk:Kt w W):Cs B W f k m N bk bm bh bi bs bf bo bw gm go vh vs :=
 ⟨(hk _ _ _ h.ck (by decide) (by decide) (by decide)).trans h.ck,(hk _ _ _ h.cm (by decide) (by decide) (by decide)).trans h.cm,(hk _ _ _ h.ch (by decide) (by decide) (by decide)).trans h.ch,(hk _ _ _ h.ci (by decide) (by decide) (by decide)).trans h.ci,(hk _ _ _ h.cs (by decide) (by decide) (by decide)).trans h.cs,(hk _ _ _ h.cf (by decide) (by decide) (by decide)).trans h.cf,(hk _ _ _ h.co (by decide) (by decide) (by decide)).trans h.co,(hk _ _ _ h.cw (by decide) (by decide) (by decide)).trans h.cw,h.ge⟩
def wdF (has:List Bool) (shs:List (List Int)) (n:Nat) (i:Nat):Int:=if rb has i=true then rd (shs.getD i []) (n:Int) else 0
def msF (has:List Bool) (i:Nat):Bool:=!rb has i
def mixB (ml:List Bool) (has:List Bool) (N i:Nat):List Bool:=(List.range N).map (fun (j:Nat)=>if j < i then msF has j else rb ml j)
theorem mixB_zero {ml:List Bool} (has:List Bool) {N:Nat} (h:ml.length=N):mixB ml has N 0=ml:=by
 apply List.ext_getElem
 ·simp [mixB,h]
 ·intro i h1 h2
  simp [mixB,rb,List.getD,h2]
theorem mixB_set (ml has:List Bool) (N i:Nat) (hi:i < N):(mixB ml has N i).set i (msF has i)=mixB ml has N (i+1):=by
 apply List.ext_getElem
 ·simp [mixB]
 ·intro j h1 h2
  rw [List.getElem_set]
  simp only [mixB,List.getElem_map,List.getElem_range]
  by_cases hj:i=j
  ·subst hj;simp
  ·rw [if_neg hj]
   by_cases hlt:j < i
   ·rw [if_pos hlt,if_pos (by omega)]
   ·rw [if_neg hlt,if_neg (by omega)]
theorem mixB_all (ml has:List Bool) (N:Nat):mixB ml has N N=(List.range N).map (msF has):=by
 unfold mixB
 refine List.map_congr_left (fun j hj=>?_)
 rw [if_pos (by simpa using hj)]
theorem fillR_skip (f:Nat->Int) {N i:Nat} (h:i < N) (hf:f i=0):fillR f N (i+1)=fillR f N i:=by
 unfold fillR
 rw [List.range_succ,List.map_append,List.append_assoc]
 congr 1
 rw [show N - i=(N - (i+1))+1 by omega,List.replicate_succ]
 simp [hf]
theorem Bo.of_R {w:World} {base:Nat} {ok:Nat->Prop} {v:Value} {l:List Bool} (h:Kd.R Kd.bool 4 w base ok v l):Bo w v l:=by
 obtain ⟨A,c,h1,h2,h3⟩:=Kd.R_reads h
 exact ⟨A,c,h1,h2,h3⟩
theorem cellb {w:World} {b:Nat} {v:Value} {t:TypeId} (h:w.heap[b]?=some (.cells #[v] t (0,0))):w.cell? ⟨b,0,none⟩=some v:=by simp [World.cell?,h]
def addR (rows:Nat->List Int) (X:List Int) (j:Nat):Nat->List Int:=fun a=>if a < j then rows a ++ [rd X (a:Int)] else rows a
theorem addR_upd (rows:Nat->List Int) (X:List Int) (j:Nat):updF (addR rows X j) j (rows j ++ [rd X (j:Int)])=addR rows X (j+1):=by
 funext a
 unfold updF addR
 by_cases h:a=j
 ·subst h;simp
 ·rw [if_neg h]
  by_cases h2:a < j
  ·rw [if_pos h2,if_pos (by omega)]
  ·rw [if_neg h2,if_neg (by omega)]
theorem addR_zero (rows:Nat->List Int) (X:List Int):addR rows X 0=rows:=by funext a;simp [addR]
theorem Rwo.congr {w:World} {base go N:Nat} {ow:Nat->Nat} {rows rows':Nat->List Int} (h:Rwo w base go N ow rows) (he:∀ i,i < N->rows i=rows' i):Rwo w base go N ow rows':=by
 obtain ⟨vs,h1,h2⟩:=h
 exact ⟨vs,h1,fun i hi=>by rw [<- he i hi];exact h2 i hi⟩
attribute [local go_sem] calloc_old cset_ne
set_option maxRecDepth 100000 in
set_option maxHeartbeats 2000000 in
theorem sh1_ok {B:Nat} {w wb:World} {f k m N bk bm bh bi bs bf bo bw gm go:Nat} {vh vs:Value} (C:Cs B w f k m N bk bm bh bi bs bf bo bw gm go vh vs) {ow:Nat->Nat} {rows:Nat->List Int} (hR:Rwo w B go N ow rows) {ml:List Bool} (hM:Kd.R Kd.bool 4 w B (fun k=>k=gm) (.slice (some ⟨gm,0,none⟩) N N) ml)
  (hB:wb.heap.size=B) (hwb:Below B wb w) (hf:Fd wb f) {has:List Bool} {shs:List (List Int)} (hh:Bo wb vh has) (hs:Rs wb vs shs) (hl:has.length=N/\shs.length=N/\k+m=N/\N<=7) (n:Nat) (hn:n < 10000)
  (hin:∀ i,i < N->rb has i=true->n < (shs.getD i []).length) {loc:Nat->List Int} {s g p high p2 o full slope:List Int} {e:Nat} (F:WordF k m ((List.range N).map (wdF has shs n)) ((List.range N).map (msF has)) loc s g p high p2 o full slope e) (X:List Int) (hX:X=outs k m (out0 ((List.range N).map (wdF has shs n)) ((List.range N).map (msF has)) (k+m) (k+m)) full o slope (k+m)) (hrl:∀ i,(rows i).length<=10000) :
  Calls Tryz.prog 177 #[.int .i64 n,.pointer (some ⟨bk,0,none⟩),.pointer (some ⟨bm,0,none⟩),.pointer (some ⟨bh,0,none⟩),.pointer (some ⟨bi,0,none⟩),.pointer (some ⟨bs,0,none⟩),.pointer (some ⟨bf,0,none⟩),.pointer (some ⟨bo,0,none⟩),.pointer (some ⟨bw,0,none⟩)] w fun e w'=>e=.returned (.int .i64 0)/\Cs B w' f k m N bk bm bh bi bs bf bo bw gm go vh vs/\(∃ ow',Rwo w' B go N ow' (fun i=>rows i ++ [rd X (i:Int)]))/\Kd.R Kd.bool 4 w' B (fun k=>k=gm) (.slice (some ⟨gm,0,none⟩) N N) ((List.range N).map (msF has))/\Below B w w':=by
 have HC:=Aside0.mk C
 have HR:=Aside0.mk hR
 have HM:=Aside0.mk hM
 have HF:=Aside0.mk F
 have HW:=Aside0.mk (And.intro hB (And.intro hwb (And.intro hf (And.intro hh hs))))
 have HL:=Aside0.mk (And.intro hl (And.intro hn (And.intro hin (And.intro hX hrl))))
 have q1:=cellb C.ck
 have q2:=cellb C.cm
 have q3:=cellb C.ch
 have gN:wrap64 ((k:Int)+m)=(N:Int):=by rw [w64 _ (by omega)];omega
 have hml:ml.length=N:=(Kd.R_reads' hM).1.symm
 have HML:=Aside0.mk hml
 have hhas:=hh
 obtain ⟨Ah,ch,rfl,hch,hCh⟩:=hhas
 have hshs:=hs
 obtain ⟨As,cs,rfl,hcs,hCs⟩:=hshs
 have HH:=Aside0.mk (And.intro hCh hCs)
 rw [hl.1] at q3
 obtain ⟨gmc,hgm⟩:=Kd.R_typed hM gm rfl
 have HGM:=Aside0.mk hgm
 clear hcs hCs hgm
 clear C hR hM F hB hwb hf hh hs hl hn hin hX hrl hml hch hCh
 go_enter Tryz.func177,Tryz.ntmps177
 go_wp2_with (first|((with_reducible refine gate_dst (N:=22) rfl ?_);go_loud (refine Kd.R_make (Kd.int .u8) (w0:=w) w.heap.size 5 rfl (N:=22) rfl 36 _ _ rfl (N:Int) (congrArg (Value.int .i64) gN) (congrArg (Value.int .i64) gN) Tryz.underlying36 (.int .u8 0) 1 info5' rfl (by decide) (by decide) 0 (ok:=fun _=>True) (okp:=fun _=>True) rfl (fun _ hk=>hk) trivial (by omega) (by have:=HL.out.1;omega) (Below.refl _ _) (Nat.le_refl _) ?_;intro v4 w4 ho4 hb4 hg4 hnew4;rw [Int.toNat_natCast,<- fillR_zero (wdF has shs n) N] at ho4;have q3:=cell_of hb4 q3;have HO4:=Aside0.mk ho4;have HB4:=Aside0.mk hb4;clear ho4 hb4 hg4 hnew4)))
 obtain ⟨gw,co,eo,gb,gl,cl,hcl⟩:=Kd.R_form HO4.out (by rw [fillR_len _ (Nat.zero_le _)];have:=HL.out.1;have:=HF.out.hk;omega)
 subst eo
 have hO5:Kd.R (Kd.int .u8) 5 w4 w.heap.size (fun k=>k=gw) (.slice (some ⟨gw,0,none⟩) (fillR (wdF has shs n) N 0).length co) (fillR (wdF has shs n) N 0):=Kd.R_flat (fun hm=>hm) HO4.out (fun k hk _=>by simp [Value.ownBlock] at hk;exact hk.symm)
 rw [fillR_len _ (Nat.zero_le _)] at hO5 ⊢
 have HO5:=Aside0.mk hO5
 have HG:=Aside0.mk (And.intro gb gl)
 have hBw:B<=w.heap.size:=by rw [<- HW.out.1];exact HW.out.2.1.size
 have HBw:=Aside0.mk hBw
 have hM4:=Kd.R_below HM.out HB4.out
 rw [<- mixB_zero has HML.out] at hM4
 have HM4:=Aside0.mk hM4
 clear gb gl hcl cl hO5 hBw hM4
 go_loopg [25] N (fun kq x wr=>∃ i:Nat,x=.int .i64 i/\i+kq=N/\Aside0 (Gs (fun k=>k=gm) w wr)/\Aside0 (Kd.R Kd.bool 4 wr B (fun k=>k=gm) (.slice (some ⟨gm,0,none⟩) N N) (mixB ml has N i))/\Aside0 (Kd.R (Kd.int .u8) 5 wr w.heap.size (fun k=>k=gw) (.slice (some ⟨gw,0,none⟩) N co) (fillR (wdF has shs n) N i)))
 case atStart=>exact ⟨0,rfl,by omega,⟨Gs.of_below HB4.out⟩,HM4,HO5⟩
 case round =>
  obtain ⟨i,rfl,hi,HGs,HMr,HOr⟩:=hrel
  by_cases hin:i < N
  ·have g1:(i:Int) < (N:Int):=by omega
   have g0:(0:Int)<=i:=by omega
   have gn0:(0:Int)<=n:=by omega
   have hi7:i < 7:=by have:=HL.out.1;omega
   have gw':wrap64 ((i:Int)+1)=(i:Int)+1:=w64 _ (by omega)
   have hbr:Below wb.heap.size wb wr:=by rw [HW.out.1];exact HW.out.2.1.trans (HGs.out.bel HBw.out (fun k hk=>by rw [hk];exact HC.out.ge.1))
   obtain ⟨ad,ea2,hx0⟩:=Bo.at HH.out.1 i (by have:=HL.out.1;omega)
   subst ea2
   replace hx0:=cell_of hbr hx0
   have ci:=cellb (HC.out.step (HGs.out.kt HGM.out (.inl rfl))).ci
   obtain ⟨xm,fm⟩:=Kd.R_celln false HMr.out (i:Int) g0 g1
   rw [Int.toNat_natCast] at xm fm
   have hputm:=(Kd.R_putg HMr.out (i:Int) (msF has i)).1
   rw [Int.toNat_natCast,mixB_set ml has N i hin] at hputm
   have hGs2:=HGs.out.set (g:=gm) (.inr rfl) i (.bool (msF has i))
   have hne:gm≠gw:=by have:=HG.out.1;have:=blk_lt HGM.out;omega
   have hOr2:=Kd.R_far (p:=⟨gm,i,none⟩) HOr.out (fun k hk=>by rw [hk];exact fun e=>hne e.symm) (.bool (msF has i))
   cases hmi:rb has i with
   | true =>
    have hms:msF has i=false:=by simp [msF,hmi]
    have hwd:wdF has shs n i=rd (shs.getD i []) (n:Int):=by simp [wdF,hmi]
    rw [hms] at hputm hGs2 hOr2
    rw [hmi] at hx0
    have hbr2:Below wb.heap.size wb (wr.setCell ⟨gm,i,none⟩ (.bool false)):=by rw [HW.out.1];exact HW.out.2.1.trans (hGs2.bel HBw.out (fun k hk=>by rw [hk];exact HC.out.ge.1))
    have cs2:=cellb (HC.out.step (hGs2.kt HGM.out (.inl rfl))).cs
    rw [HL.out.1.2.1] at cs2
    obtain ⟨ad2,v2,ea3,hx1,hb1⟩:=Rs.at HH.out.2 i (by have:=HL.out.1;omega)
    subst ea3
    obtain ⟨A3,c3,rfl,hc3,hC3⟩:=hb1
    have hnl:=HL.out.2.2.1 i hin hmi
    obtain ⟨ad3,ea4,hx2⟩:=Bs.at hC3 n hnl
    subst ea4
    replace hx1:=cell_of hbr2 hx1
    replace hx2:=cell_of hbr2 hx2
    obtain ⟨B0,hB0⟩:∃ B0,rd (shs.getD i []) (n:Int)=B0:=⟨_,rfl⟩
    rw [hB0] at hx2 hwd
    obtain ⟨LL,hLL⟩:∃ LL,(shs.getD i []).length=LL:=⟨_,rfl⟩
    rw [hLL] at hx1 hnl
    have gnl:(n:Int) < (LL:Int):=by omega
    obtain ⟨xo,fo⟩:=Kd.R_celln 0 hOr2 (i:Int) g0 g1
    rw [Int.toNat_natCast] at xo fo
    have hputo:=(Kd.R_putg hOr2 (i:Int) B0).1
    rw [Int.toNat_natCast,<- hwd,fillR_set _ hin,hwd] at hputo
    have hputm2:=Kd.R_far (p:=⟨gw,i,none⟩) hputm (fun k hk=>by rw [hk];exact hne) (.int .u8 B0)
    have HX:=Aside0.mk (And.intro hputo (And.intro hputm2 (hGs2.set (g:=gw) (.inl HG.out.1) i (.int .u8 B0))))
    clear hputo hputm2 hGs2 hputm hOr2 hbr hbr2 hmi hms hwd hc3 hC3 hB0 hLL hne hnl
    go_wp2
    go_roundg (N - (i+1))
    case measure=>omega
    case rel=>exact ⟨i+1,by simp [gw'],by omega,⟨HX.out.2.2⟩,⟨HX.out.2.1⟩,⟨HX.out.1⟩⟩
   | false =>
    have hms:msF has i=true:=by simp [msF,hmi]
    have hwd:wdF has shs n i=0:=by simp [wdF,hmi]
    rw [hms] at hputm hGs2 hOr2
    rw [hmi] at hx0
    have HX:=Aside0.mk (And.intro hputm (And.intro hGs2 (And.intro hOr2 (fillR_skip _ hin hwd))))
    clear hputm hGs2 hOr2 hms hwd hmi hne hbr
    go_wp2
    go_roundg (N - (i+1))
    case measure=>omega
    case rel=>exact ⟨i+1,by simp [gw'],by omega,⟨HX.out.2.1⟩,⟨HX.out.1⟩,⟨by rw [HX.out.2.2.2];exact HX.out.2.2.1⟩⟩
  ·have g1:¬ (i:Int) < (N:Int):=by omega
   have e1:i=N:=by omega
   subst e1
   have hkt:=HGs.out.kt HGM.out (.inl rfl)
   have hCr:=HC.out.step hkt
   have b1:=cellb hCr.ck
   have b2:=cellb hCr.cm
   have b3:=cellb hCr.ci
   have b4:=cellb hCr.cf
   have hbr:Below wb.heap.size wb wr:=by rw [HW.out.1];exact HW.out.2.1.trans (HGs.out.bel HBw.out (fun k hk=>by rw [hk];exact HC.out.ge.1))
   have hMa:=HMr.out
   rw [mixB_all] at hMa
   have hOa:=HOr.out
   rw [fillR_all] at hOa
   have hcall:=word_ok (HW.out.2.2.1.below hbr) HF.out _ _ (Bs.of_R hOa) (Bo.of_R hMa)
   rw [<- HL.out.2.2.2.1] at hcall
   have hXl:X.length=i:=by rw [HL.out.2.2.2.1,outs_len,out0_len];exact HL.out.1.2.2.1
   have hgr:go < wr.heap.size:=by
    obtain ⟨vs,h1,_⟩:=(HR.out.gs HGM.out HGs.out).ex
    exact blk_lt h1
   have HRr:=Aside0.mk (HR.out.gs HGM.out HGs.out).nobody
   have HCALL:=Aside0.mk (And.intro hcall (And.intro hXl (And.intro hMa hgr)))
   clear hkt hCr hbr hMa hOa hcall hXl hgr
   go_wp2_with (first|(go_at_call 178;go_loud (refine HCALL.out.1.mono ?_;rintro e1 w5 ⟨x5,rfl,hr5,hb5⟩;obtain ⟨A5,c5,rfl⟩:=Kd.R_slice hr5;rw [HCALL.out.2.1] at hr5 ⊢;have H5:=Aside0.mk (And.intro hr5 hb5);clear hr5 hb5 b1 b2 b3 b4)))
   have hM5:=Kd.R_below HCALL.out.2.2.1 H5.out.2
   have hR5:=HRr.out.below H5.out.2
   have hx5:Bf (fun k=>(fun k=>if k=go then i+1 else if k < wr.heap.size then ow k else i) k=i) w5 (.slice A5 i c5) X:=Bf.of_R (by rw [<- HCALL.out.2.1] at *;exact H5.out.1) (fun k hk _=>by
    have:=HCALL.out.2.2.2
    show (if k=go then i+1 else if k < wr.heap.size then ow k else i)=i
    rw [if_neg (by omega),if_neg (by omega)])
   have hk5:Kt w w5:=(HGs.out.kt HGM.out (.inl rfl)).trans (Kt.below H5.out.2)
   have hb5:Below B w w5:=(HGs.out.bel HBw.out (fun k hk=>by rw [hk];exact HC.out.ge.1)).trans (H5.out.2.mono (by have:=HGs.out.size;have:=HBw.out;omega))
   have HS5:=Aside0.mk (And.intro hR5 (And.intro hx5 (And.intro hk5 (And.intro hb5 hM5))))
   clear hM5 hR5 hx5 hk5 hb5
   go_loopg [59] i (fun kq x wq=>∃ j:Nat,x=.int .i64 j/\j+kq=i/\Aside0 (∃ ow2,Rwo wq B go i ow2 (addR rows X j)/\ow2 go=i+1/\Bf (fun k=>ow2 k=i) wq (.slice A5 i c5) X)/\Aside0 (Kt w wq/\Below B w wq)/\Aside0 (Kd.R Kd.bool 4 wq B (fun k=>k=gm) (.slice (some ⟨gm,0,none⟩) i i) ((List.range i).map (msF has))))
   case atStart=>exact ⟨0,rfl,by omega,⟨⟨_,by rw [addR_zero];exact HS5.out.1,by simp,HS5.out.2.1⟩⟩,⟨HS5.out.2.2.1,HS5.out.2.2.2.1⟩,⟨HS5.out.2.2.2.2⟩⟩
   case round =>
    obtain ⟨j,rfl,hj,⟨ow2,hRq,hgo2,hXq⟩,HKq,HMq⟩:=hrel
    by_cases hji:j < i
    ·have g2:(j:Int) < (i:Int):=by omega
     have g0:(0:Int)<=j:=by omega
     have hi7:i<=7:=HL.out.1.2.2.2
     have gw':wrap64 ((j:Int)+1)=(j:Int)+1:=w64 _ (by omega)
     obtain ⟨Ax,cx,ex,hlx,hCx⟩:=hXq.bs
     injection ex with ex1 ex2 ex3
     subst ex1
     obtain ⟨adx,eax,hxx⟩:=Bs.at hCx j (by rw [HCALL.out.2.1];exact hji)
     subst eax
     obtain ⟨B0,hB0⟩:∃ B0,rd X (j:Int)=B0:=⟨_,rfl⟩
     rw [hB0] at hxx
     have c1:=cellb (HC.out.step HKq.out.1).co
     obtain ⟨v,hv1,hv2,hv3⟩:=hRq.get hji
     have haj:addR rows X j j=rows j:=by simp [addR]
     rw [haj] at hv3
     obtain ⟨Av,cv,ev⟩:=Kd.R_slice hv3
     subst ev
     have hlr:=HL.out.2.2.2.2 j
     obtain ⟨RL,hRL⟩:∃ RL,(rows j).length=RL:=⟨_,rfl⟩
     rw [hRL] at hv1 hv3 hlr
     have hv4:=Kd.R_mono (Kd.R_bound hv3) (ok':=fun k=>owN ow2 wr.heap.size j k=j) (fun k hk=>by
      show owN ow2 wr.heap.size j k=j
      rw [owN,if_pos hk.2.2.1]
      exact hk.1)
     have HV:=Aside0.mk (And.intro hRq (And.intro hgo2 (And.intro hXq (And.intro hv3 (And.intro hv4 (And.intro hB0 (And.intro hRL (And.intro hlr hv1))))))))
     have hgl0:=cell_lt hv1
     have hbl0:=cell_lt c1
     have hqs:B<=wr.heap.size:=by have:=HKq.out.2.size;have:=HBw.out;omega
     have HQS:=Aside0.mk hqs
     clear hRq hgo2 hXq hv3 hv4 hB0 hRL hlr haj ex2 ex3 hlx hCx hqs
     go_wp2
     go_region_law (first|(go_loud (refine Kd.R_append_step (Kd.int .u8) (w0:=wr) (W:=wr.drew) B (by rfl) (.tmp 69) (.tmp 71) 36 5 (.int .u8 0) 1 rfl Tryz.underlying36 info5' rfl (by decide) (by decide) (.slice Av RL cv) (rows j) B0 [.int .u8 B0] (fun k=>owN ow2 wr.heap.size j k=j) (fun _=>False) rfl rfl rfl (fun _ h=>h.elim) (fun k hk=>by show owN ow2 wr.heap.size j k=j;rw [owN,if_neg (by have hk2:wr.heap.size<=k:=hk;omega)]) ?aO ?aB ?aS ?aL ?_;(case aO=>(with_reducible repeat (first|apply Kd.R_alloc|apply Kd.R_drewN|apply Kd.R_drew));exact HV.out.2.2.2.2.1);(case aB=>(repeat (first|(with_reducible first|exact Below.refl _ _|apply below_drew)|exact Below.refl _ _)));(case aS=>exact HQS.out);(case aL=>(have:=HV.out.2.2.2.2.2.2.2.1;have:=HV.out.2.2.2.2.2.2.1;omega));intro v3 w3 ho3 hb3 hg3 hat3;have hgq:wr.grownBy w3 (Value.slice Av RL cv).ownBlock:=⟨hg3.os,hg3.tape,hg3.output,hg3.size,hg3.block⟩;have hgo3:some go≠(Value.slice Av RL cv).ownBlock:=(fun e=>by have h1:=HV.out.2.2.2.1.1 go e.symm;have:=HV.out.2.1;omega);have hv13:=(World.cell?_of_block (a:=⟨go,j,none⟩) (hgq.block go (cell_lt hv1) hgo3)).trans hv1;have hv23:=(World.frozen?_of_block (a:=⟨go,j,none⟩) (hgq.block go (cell_lt hv1) hgo3)).trans hv2;have hk3:=HKq.out.1.trans (Kt.grown hgq (fun k hk=>Kd.R_typed HV.out.2.2.2.1 k hk));have c13:=cellb (HC.out.step hk3).co;obtain ⟨A3,c3,rfl⟩:=Kd.R_slice ho3;rw [show (rows j ++ [B0]).length=RL+1 from (by rw [List.length_append,List.length_singleton,HV.out.2.2.2.2.2.2.1])] at ho3 ⊢;have H3:=Aside0.mk (And.intro ho3 (And.intro hb3 (And.intro hgq hk3)));clear ho3 hb3 hg3 hat3 hgq hk3 hgo3)))
     all_goals
      go_wp2
      go_roundg (i - (j+1))
      case measure=>omega
      case rel =>
       have hri:=HV.out.1.put hji HV.out.2.2.2.1.1 HV.out.2.1 H3.out.2.2.1 (H3.out.1)
       rw [<- HV.out.2.2.2.2.2.1,addR_upd] at hri
       have hgl:=cell_lt hv1
       have hxi:=HV.out.2.2.1.put hji HV.out.2.2.2.1.1 HV.out.2.1 hgl H3.out.2.2.1 (v1:=.slice A3 (RL+1) c3)
       obtain ⟨cg,hcg⟩:∃ cg,w3.heap[go]?=some (.cells cg 36 (0,0)):=by
        obtain ⟨vs,h1,_⟩:=HV.out.1.ex
        exact ⟨_,(H3.out.2.2.1.block go hgl (fun e=>by have h1:=HV.out.2.2.2.1.1 go e.symm;have:=HV.out.2.1;omega)).trans h1⟩
       have hmn:∀ k,k=gm->some k≠(Value.slice Av RL cv).ownBlock:=fun k hk e=>by
        obtain ⟨c5,hc5⟩:=Kd.R_typed HV.out.2.2.2.1 k e.symm
        obtain ⟨c4,hc4⟩:=Kd.R_typed HMq.out gm rfl
        rw [hk,hc4] at hc5
        injection hc5 with hc5
        injection hc5 with _ hc5
        cases hc5
       have hm3:=Kd.R_grown HMq.out H3.out.2.2.1 hmn
       have hmg:gm≠go:=fun e=>by
        obtain ⟨c4,hc4⟩:=Kd.R_typed hm3 gm rfl
        rw [e,hcg] at hc4
        injection hc4 with hc4
        injection hc4 with _ hc4
        cases hc4
       exact ⟨j+1,by simp [gw'],by omega,⟨⟨_,hri,by rw [owN,if_pos hgl];exact HV.out.2.1,hxi⟩⟩,⟨H3.out.2.2.2.trans (Kt.set hcg (.inr (.inr rfl)) j _),HKq.out.2.trans (H3.out.2.1.trans (Below.setCell (Below.refl _ _) HC.out.ge.2.1 _))⟩,⟨Kd.R_far (p:=⟨go,j,none⟩) hm3 (fun k hk=>by rw [hk];exact hmg) _⟩⟩
    ·have g2:¬ (j:Int) < (i:Int):=by omega
     have e1:j=i:=by omega
     subst e1
     have cw:=cellb (HC.out.step HKq.out.1).cw
     have fw:wr.frozen? ⟨bw,0,none⟩=false:=by simp [World.frozen?,(HC.out.step HKq.out.1).cw]
     go_wp2
     go_ret
     have hset:∀ jj,jj≠bw->(wr.setCell ⟨bw,0,none⟩ (.slice none 0 0)).heap[jj]?=wr.heap[jj]? :=fun jj hne=>Below.heap_setCell _ _ _ jj hne
     have hCw:=HC.out.step HKq.out.1
     have hwb:(wr.setCell ⟨bw,0,none⟩ (.slice none 0 0)).heap[bw]?=wr.heap[bw]? :=by
      rw [setc hCw.cw 0 (.slice none 0 0),hCw.cw]
      rfl
     have hall:∀ jj,(wr.setCell ⟨bw,0,none⟩ (.slice none 0 0)).heap[jj]?=wr.heap[jj]? :=fun jj=>by
      by_cases hne:jj=bw
      ·rw [hne];exact hwb
      ·exact hset jj hne
     refine ⟨rfl,hCw.step (fun jj _ _ _ _ _ _=>hall jj),⟨ow2,(hRq.step (hall go) (fun jj _ _ _ _=>hall jj)).congr (fun a ha=>by simp [addR,ha])⟩,Kd.R_step HMq.out (fun jj _ _=>hall jj),HKq.out.2.trans ⟨rfl,rfl,rfl,by simp [World.setCell],fun jj _=>hall jj⟩⟩
end Go.Proofs.YtmmcbncpnlknbaaGreat.Top
namespace Go.Proofs.YtmmcbncpnlknbaaGreat.Top
open Go Go.RowKit Go.Proofs.YtmmcbncpnlknbaaGreatW.PrintWords Go.Proofs.YtmmcbncpnlknbaaGreatW.PrintLast Go.Proofs.YtmmcbncpnlknbaaGreatW.PrintMore
theorem hal (w:World) (o:Obj) (k:Nat):(w.alloc o).heap[k]?=if k=w.heap.size then some o else w.heap[k]? :=by
 by_cases h:k=w.heap.size
 ·rw [if_pos h,h];exact heap_alloc_new w o
 ·rw [if_neg h]
  rcases Nat.lt_or_ge k w.heap.size with h2|h2
  ·exact heap_alloc_old _ _ h2
  ·rw [Array.getElem?_eq_none h2,Array.getElem?_eq_none (by simp;omega)]
theorem hsz (w:World) (o:Obj):(w.alloc o).heap.size=w.heap.size+1:=by simp
theorem hdr (w:World) (n k:Nat):(w.drewN n).heap[k]?=w.heap[k]? :=rfl
theorem info4':(Tryz.prog.info? 4).map (fun i=>(i.zero,i.size,i.bytes))=some (some (.bool false),1,1):=by kernel_rfl
theorem mk_run125 (n:Nat) (hn:n<=100000):∀ W:World,(Instr.makeSlice 125 (.int .i64 (n:Int)) (.int .i64 (n:Int))).run Tryz.prog W=.ok (.slice (some ⟨W.heap.size,0,none⟩) n n) (W.alloc (.cells (madeCells #[.slice none 0 0] n) 36)):=fun W=>by
 obtain ⟨i0,hi,hz0,hz1,hz2⟩:=info_parts info36'
 have h:=run_make (P:=Tryz.prog) (w:=W) 125 36 i0 (.slice none 0 0) Tryz.underlying125 hi hz0 .i64 .i64 (n:Int) (n:Int) (by omega) (by omega) (by rw [hz2];omega) (by omega)
 rw [hz1] at h
 simp at h
 exact h
theorem mk_run120 (n:Nat) (hn:n<=100000):∀ W:World,(Instr.makeSlice 120 (.int .i64 (n:Int)) (.int .i64 (n:Int))).run Tryz.prog W=.ok (.slice (some ⟨W.heap.size,0,none⟩) n n) (W.alloc (.cells (madeCells #[.bool false] n) 4)):=fun W=>by
 obtain ⟨i0,hi,hz0,hz1,hz2⟩:=info_parts info4'
 have h:=run_make (P:=Tryz.prog) (w:=W) 120 4 i0 (.bool false) Tryz.underlying120 hi hz0 .i64 .i64 (n:Int) (n:Int) (by omega) (by omega) (by rw [hz2];omega) (by omega)
 rw [hz1] at h
 simp at h
 exact h
theorem made_nil (n:Nat):madeCells #[Value.slice none 0 0] n=((List.range n).map (fun _=>Value.slice none 0 0)).toArray:=by
 unfold madeCells
 apply Array.ext'
 simp [Nat.mod_one,Array.toList_range]
theorem Rwo.rs {w:World} {base go N:Nat} {ow:Nat->Nat} {rows:Nat->List Int} (h:Rwo w base go N ow rows) (hN:N<=1000):Rs w (.slice (some ⟨go,0,none⟩) N N) ((List.range N).map rows):=by
 refine ⟨some ⟨go,0,none⟩,N,by simp,by simp,?_,?_,fun _=>⟨_,rfl,fun j p hj=>?_⟩⟩
 ·simp
 ·simp [maxLen];omega
 ·obtain ⟨hj1,hj2⟩:=List.getElem?_eq_some_iff.1 hj
  have hjN:j < N:=by simpa using hj1
  obtain ⟨v,h1,h2,h3⟩:=h.get hjN
  obtain ⟨A,c,rfl,hc,hC⟩:=Kd.R_reads h3
  have e:p=rows j:=by rw [<- hj2];simp
  refine ⟨[_],rfl,⟨A,c,by rw [e],by rw [e];exact hc,by rw [e];exact hC⟩,fun i u hu=>?_⟩
  cases i with
  | zero =>
   have hu:Value.slice A (rows j).length c=u:=by simpa using hu
   rw [<- hu,add_plain]
   simpa [show (Kd.slice 5 (Kd.int .u8)).sz=1 from rfl] using h1
  | succ i=>simp at hu
end Go.Proofs.YtmmcbncpnlknbaaGreat.Top
