import Derived.Test.YtmmcbncpnlknbaaGreatF29
import Derived.Laws.CopyRow
set_option linter.unusedVariables false
set_option linter.unusedSimpArgs false
namespace Go.Proofs.YtmmcbncpnlknbaaGreat.Top
open Go Go.RowKit Go.Proofs.YtmmcbncpnlknbaaGreatW.PrintWords Go.Proofs.YtmmcbncpnlknbaaGreatW.PrintLast Go.Proofs.YtmmcbncpnlknbaaGreatW.PrintMore
section
variable {B:Nat} {w W:World} {s c b1 b2 a f:Nat} {K M Z T L O:Nat} {Q:Nat->Prop} {Tk:Nat} {dead:Nat->Bool} {E:Nat->Int->List Int} {cl:Bool} {ar ba ct:Nat} {S:List Ob}
def RC (W:World) (s g c a f:Nat) (K M Z T L O ar ba ct:Int) (kd:Int) (k:ByteArray) (l:Int) (A:Option Addr) (n cc:Nat):Prop:=W.heap[s]?=some (.cells (stC c a f K M Z T L O ar ba ct) 110 (0,0))/\W.heap[g]?=some (.cells (recC kd k l A n cc) 160 (0,0))
theorem RC.all {W:World} {s g c a f:Nat} {K M Z T L O ar ba ct:Int} {kd:Int} {k:ByteArray} {l:Int} {A:Option Addr} {n cc:Nat} (h:RC W s g c a f K M Z T L O ar ba ct kd k l A n cc) :
  W.cell? ⟨s,0,none⟩=some (.pointer (some ⟨c,0,none⟩))/\W.cell? ⟨s,1,none⟩=some (.pointer (some ⟨a,0,none⟩))/\W.cell? ⟨s,3,none⟩=some (.int .i64 K)/\W.cell? ⟨s,4,none⟩=some (.int .i64 M)/\W.cell? ⟨s,5,none⟩=some (.int .i64 Z)/\W.cell? ⟨s,6,none⟩=some (.int .i64 T)/\W.cell? ⟨s,7,none⟩=some (.int .i64 L)/\W.cell? ⟨s,8,none⟩=some (.int .i64 O)/\W.cell? ⟨s,10,none⟩=some (.int .i64 ba)/\W.cell? ⟨s,11,none⟩=some (.int .i64 ct)/\W.cell? ⟨g,0,none⟩=some (.int .i64 kd)/\W.cell? ⟨g,1,none⟩=some (.string k)/\W.cell? ⟨g,2,none⟩=some (.int .i64 l)/\W.cell? ⟨g,3,none⟩=some (.slice A n cc):=by
 obtain ⟨h0,h1,_,h3,h4,h5,h6,h7,h8,h9,h10,h11,_⟩:=st_cells h.1
 obtain ⟨r0,r1,r2,r3⟩:=rec_cells h.2
 exact ⟨h0,h1,h3,h4,h5,h6,h7,h8,h10,h11,r0,r1,r2,r3⟩
theorem RC.gs {W W':World} {s g c a f:Nat} {K M Z T L O ar ba ct:Int} {kd:Int} {k:ByteArray} {l:Int} {A:Option Addr} {n cc:Nat} (h:RC W s g c a f K M Z T L O ar ba ct kd k l A n cc) {S:Nat->Prop} (hg:Gs S W W') (h1:¬ S s) (h2:¬ S g):RC W' s g c a f K M Z T L O ar ba ct kd k l A n cc :=
 ⟨(hg.block _ (blk_lt h.1) h1).trans h.1,(hg.block _ (blk_lt h.2) h2).trans h.2⟩
theorem RC.nomap {W:World} {k b1 b2:Nat} {cells:Array Value} {t:TypeId} (h:W.heap[k]?=some (.cells cells t (0,0))) (hm:∀ k,(k=b1∨k=b2)->∃ es cl,W.heap[k]?=some (.map es cl)):¬ (k=b1∨k=b2):=fun e=>by
 obtain ⟨es,cl,h1⟩:=hm k e
 rw [h] at h1
 cases h1
set_option maxRecDepth 100000 in
set_option maxHeartbeats 2000000 in
theorem rec_core (h:Sb B w s c b1 b2 a f K M Z T L O Q Tk (fun _=>false) E cl ar ba ct S) (hg:LayA.Good K M Z T L O) (hct:ct < L) (hep:ba+ct+1<=1000) (hT:Tk+(K+M)<=1000000)
  {kd:Int} {key:ByteArray} {len:Int} {st:List Int} (hok:RecA.Ok kd key len st) {A:Option Addr} {cc:Nat} (hA:Rt w A st) (hcc:st.length<=cc) {S':List Ob}
  (hAp:∀ W ad,Cat W c K M Z T L O b1 b2 S ad (ownM S) (cntM S)->Rt W A st->Calls Tryz.prog 107 #[.pointer (some ⟨c,0,none⟩),.agg #[.int .i64 kd,.string key,.int .i64 len,.slice A st.length cc],.int .i64 ((ba+ct+1:Nat):Int)] W fun e w'=>e=.returned (.int .i64 0)/\(∃ ad',Cat w' c K M Z T L O b1 b2 S' ad' (ownM S') (cntM S'))/\Gs (fun j=>j=b1∨j=b2) W w') :
  Calls Tryz.prog 96 #[.pointer (some ⟨s,0,none⟩),.agg #[.int .i64 kd,.string key,.int .i64 len,.slice A st.length cc]] w fun e w'=>e=.returned (.int .i64 0)/\Sb B w' s c b1 b2 a f K M Z T L O Q (Tk+(K+M)) (fun _=>false) (allE E (5+(ct:Int)) (SecA.sect (5+(ct:Int)) ((ba:Int)+ct+1) (RecB.encL kd key len st)) (K+M)) true ar ba (ct+1) S'/\Gs (fun k=>Q k∨k=s∨k=b1∨k=b2) w w':=by
 have hg':=hg
 unfold LayA.Good at hg'
 have hQ:∀ k,Q k->k < w.heap.size:=fun k hk=>(h.ax.S_ge hk).2.2
 obtain ⟨q1,q2,q3⟩:=h.qc
 have H0:=Aside0.mk (show RC (w.alloc (.cells (recC kd key len A st.length cc) 160)).drew s w.heap.size c a f K M Z T L O ar ba ct kd key len A st.length cc from ⟨((below_alloc (Below.refl w.heap.size w) _).block _ (blk_lt h.box)).trans h.box,heap_alloc_new w _⟩)
 have hb0:Below w.heap.size w (w.alloc (.cells (recC kd key len A st.length cc) 160)).drew:=below_drew1 (below_alloc (Below.refl _ _) _)
 have hRt:Rt (w.alloc (.cells (recC kd key len A st.length cc) 160)).drew A st:=hA.gs (Gs.of_below (S:=fun _=>False) hb0) (fun _ hk=>hk.elim)
 have HP:=Aside0.mk (append_ok (h.below hb0).ax (fun _ _=>rfl) hT (by omega) hg (bs:=(ba:Int)) (ct:=(ct:Int)) (by omega) (by omega) (by omega) hok hRt hcc)
 obtain ⟨E',hE'⟩:∃ E',allE E (5+(ct:Int)) (SecA.sect (5+(ct:Int)) ((ba:Int)+ct+1) (RecB.encL kd key len st)) (K+M)=E':=⟨_,rfl⟩
 have hEb:EByte E':=by rw [<- hE'];exact h.eb.all _ _ (bytesL (RecB.enc_bytes _ _ _ _)) _
 rw [hE'] at HP ⊢
 have HH:=Aside0.mk (And.intro (h.below hb0) (And.intro hEb (And.intro hRt (And.intro hb0 (And.intro hQ hAp)))))
 have GW:wrap64 ((ct:Int)+1)=((ct+1:Nat):Int)/\wrap64 ((ba:Int)+((ct+1:Nat):Int))=((ba+ct+1:Nat):Int):=⟨by rw [w64 _ (by omega)];simp,by rw [w64 _ (by omega)];omega⟩
 obtain ⟨gw1,gw2⟩:=GW
 obtain ⟨ct1,hct1⟩:∃ q,ct+1=q:=⟨_,rfl⟩
 obtain ⟨ep1,hep1⟩:∃ q,ba+ct+1=q:=⟨_,rfl⟩
 rw [hct1] at gw1 gw2 ⊢
 rw [hep1] at gw2 HH
 have HC:=Aside0.mk (And.intro hct1 hep1)
 have gw3:IntKind.i64.wrap ((ba:Int)+(ct1:Int))=(ep1:Int):=(i64_w _).trans gw2
 unfold geoV at HP
 unfold recC at H0
 clear h hg hg' hct hep hT hok hA hcc hAp hb0 hRt hE' hEb hQ q1 q2 q3 hct1 hep1
 go_enter Tryz.func96,Tryz.ntmps96
 go_wp2
 go_region_held3 (fun W=>W.cell? ⟨s,0,none⟩=some (.pointer (some ⟨c,0,none⟩))/\W.cell? ⟨s,1,none⟩=some (.pointer (some ⟨a,0,none⟩))/\W.cell? ⟨s,3,none⟩=some (.int .i64 K)/\W.cell? ⟨s,4,none⟩=some (.int .i64 M)/\W.cell? ⟨s,5,none⟩=some (.int .i64 Z)/\W.cell? ⟨s,6,none⟩=some (.int .i64 T)/\W.cell? ⟨s,7,none⟩=some (.int .i64 L)/\W.cell? ⟨s,8,none⟩=some (.int .i64 O)/\W.cell? ⟨s,10,none⟩=some (.int .i64 ba)/\W.cell? ⟨s,11,none⟩=some (.int .i64 ct)/\W.cell? ⟨w.heap.size,0,none⟩=some (.int .i64 kd)/\W.cell? ⟨w.heap.size,1,none⟩=some (.string key)/\W.cell? ⟨w.heap.size,2,none⟩=some (.int .i64 len)/\W.cell? ⟨w.heap.size,3,none⟩=some (.slice A st.length cc)) (first|with_reducible exact H1.out.1.all|with_reducible exact H0.out.all) (first|(go_at_call 127;go_loud (refine HP.out.mono ?_;rintro e1 w1 ⟨rfl,hx1,hg1⟩;have H1:=Aside0.mk (And.intro (H0.out.gs hg1 HH.out.1.nq.1 (fun e=>Nat.lt_irrefl _ (HH.out.2.2.2.2.1 _ e))) (And.intro hx1 hg1));clear hx1 hg1)))
 obtain ⟨p0,p1,p3,p4,p5,p6,p7,p8,p10,p11,r0,r1,r2,r3⟩:=H1.out.1.all
 have fz11:w1.frozen? ⟨s,11,none⟩=false:=by simp [World.frozen?,H1.out.1.1]
 have hs1:=HH.out.1.disk H1.out.2.2 H1.out.2.1 HH.out.2.1
 obtain ⟨h2,g2⟩:=hs1.set 11 (.int .i64 (ct1:Int)) (ar':=ar) (ba':=ba) (ct':=ct1) rfl
 have hne:s≠w.heap.size:=fun e=>by
  have h3:=H1.out.1.1
  rw [e,H1.out.1.2] at h3
  cases h3
 have H2:=Aside0.mk (show RC (w1.setCell ⟨s,11,none⟩ (.int .i64 (ct1:Int))).drew s w.heap.size c a f K M Z T L O ar ba ct1 kd key len A st.length cc from ⟨h2.box,(g2.block _ (blk_lt H1.out.1.2) (fun e=>hne e.symm)).trans H1.out.1.2⟩)
 have HS2:=Aside0.mk (And.intro (h2.below (below_drew1 (Below.refl _ _))) (g2.trans (Gs.of_below (below_drew1 (Below.refl _ _)))))
 have hR2:Rt (w1.setCell ⟨s,11,none⟩ (.int .i64 (ct1:Int))).drew A st:=by
  have h3:=HH.out.2.2.1.gs H1.out.2.2 HH.out.1.qc.2.1
  have h4:=h3.gs g2 (fun k e=>by
   subst e
   rintro ⟨cells,h5⟩
   rw [H1.out.1.1] at h5
   cases h5)
  exact h4.gs (Gs.of_below (S:=fun _=>False) (below_drew1 (Below.refl _ _))) (fun _ hk=>hk.elim)
 obtain ⟨ad2,hc2⟩:=(h2.below (below_drew1 (Below.refl _ _))).cat
 have HA2:=Aside0.mk (And.intro (HH.out.2.2.2.2.2 _ ad2 hc2 hR2) hc2.mapQ)
 clear hs1 h2 g2 hne hR2 hc2
 go_wp2
 go_region_held3 (fun W=>W.cell? ⟨s,0,none⟩=some (.pointer (some ⟨c,0,none⟩))/\W.cell? ⟨s,1,none⟩=some (.pointer (some ⟨a,0,none⟩))/\W.cell? ⟨s,3,none⟩=some (.int .i64 K)/\W.cell? ⟨s,4,none⟩=some (.int .i64 M)/\W.cell? ⟨s,5,none⟩=some (.int .i64 Z)/\W.cell? ⟨s,6,none⟩=some (.int .i64 T)/\W.cell? ⟨s,7,none⟩=some (.int .i64 L)/\W.cell? ⟨s,8,none⟩=some (.int .i64 O)/\W.cell? ⟨s,10,none⟩=some (.int .i64 ba)/\W.cell? ⟨s,11,none⟩=some (.int .i64 ct1)/\W.cell? ⟨w.heap.size,0,none⟩=some (.int .i64 kd)/\W.cell? ⟨w.heap.size,1,none⟩=some (.string key)/\W.cell? ⟨w.heap.size,2,none⟩=some (.int .i64 len)/\W.cell? ⟨w.heap.size,3,none⟩=some (.slice A st.length cc)) (first|with_reducible exact H3.out.1.all|with_reducible exact H2.out.all) (first|(go_at_call 107;go_loud (refine HA2.out.1.mono ?_;rintro e3 w3 ⟨rfl,⟨ad3,hc3⟩,hg3⟩;have H3:=Aside0.mk (And.intro (H2.out.gs hg3 (RC.nomap H2.out.1 HA2.out.2) (RC.nomap H2.out.2 HA2.out.2)) (And.intro (HS2.out.1.turn hg3 hc3) hg3));clear hc3 hg3)))
 go_wp2
 go_ret
 refine ⟨rfl,H3.out.2.1,?_⟩
 refine (((Gs.of_below HH.out.2.2.2.1).trans (H1.out.2.2.mono (fun k _ e=>.inl e))).trans (HS2.out.2.mono (fun k _ e=>.inr (.inl e)))).trans (H3.out.2.2.mono (fun k _ e=>.inr (.inr e)))
theorem Cat.congr {w:World} {c b1 b2 n n':Nat} {K M Z T L O:Int} {S:List Ob} {ad:ByteArray->Value} {m m':Int->Bool} (h:Cat w c K M Z T L O b1 b2 S ad m n) (hm:∀ a,m a=m' a) (hn:n=n'):Cat w c K M Z T L O b1 b2 S ad m' n' :=
 ⟨h.box,h.objs,h.own.congr (fun a _=>hm a) hn,h.rows,h.ne⟩
def RecP (B:Nat) (w w':World) (s c b1 b2 a f:Nat) (K M Z T L O:Nat) (Q:Nat->Prop) (Tk:Nat) (E:Nat->Int->List Int) (ar ba ct:Nat) (S':List Ob) (l:List Int):Prop :=
 Sb B w' s c b1 b2 a f K M Z T L O Q (Tk+(K+M)) (fun _=>false) (allE E (5+(ct:Int)) (SecA.sect (5+(ct:Int)) ((ba:Int)+ct+1) l) (K+M)) true ar ba (ct+1) S'/\Gs (fun k=>Q k∨k=s∨k=b1∨k=b2) w w'
theorem record_put (h:Sb B w s c b1 b2 a f K M Z T L O Q Tk (fun _=>false) E cl ar ba ct S) (hg:LayA.Good K M Z T L O) (hw:WfS S T O) (hct:ct < L) (hep:ba+ct+1<=1000) (hT:Tk+(K+M)<=1000000)
  (o:Ob) (he:o.f2=((ba+ct+1:Nat):Int)) {A:Option Addr} {cc len:Nat} (hA:Rt w A o.f3) (hcc:o.f3.length<=cc) (hok:RecA.Ok 1 o.f0 o.f1 o.f3) (hle:o.f1=len) (hnd:o.f3.length=needN (K*Z) len)
  (hm:∀ x ∈ o.f3,ownM S x=false/\x < T) (hN:o.f3.Nodup) (hfull:(!(findS S o.f0).isSome && decide ((O:Int)<=(S.length:Int)))=false) :
  Calls Tryz.prog 96 #[.pointer (some ⟨s,0,none⟩),.agg #[.int .i64 1,.string o.f0,.int .i64 o.f1,.slice A o.f3.length cc]] w fun e w'=>e=.returned (.int .i64 0)/\RecP B w w' s c b1 b2 a f K M Z T L O Q Tk E ar ba ct (putS S o) (RecB.encL 1 o.f0 o.f1 o.f3):=by
 have hg':=hg
 unfold LayA.Good at hg'
 obtain ⟨s1,s2,s3⟩:=strOf_own hw o.f0
 refine rec_core h hg hct hep hT hok hA hcc (S':=putS S o) (fun W ad hc hR=>?_)
 have hlen:=hw.len
 have hcnt:=hw.cnt
 have h1:=capply_put hc hg o hR hcc hok (by omega) hle hnd hm hN hfull (by omega) (fun x hx=>(s1 x hx).1) s2 (by omega) (by omega)
 rw [he] at h1
 refine h1.mono ?_
 rintro e w' ⟨rfl,⟨ad',h2⟩,h3⟩
 exact ⟨rfl,⟨ad',h2.congr (ownM_put hw o) (cnt_put hw o)⟩,h3⟩
theorem record_del (h:Sb B w s c b1 b2 a f K M Z T L O Q Tk (fun _=>false) E cl ar ba ct S) (hg:LayA.Good K M Z T L O) (hw:WfS S T O) (hct:ct < L) (hep:ba+ct+1<=1000) (hT:Tk+(K+M)<=1000000)
  {k:ByteArray} (hk:1<=k.size/\k.size<=64) (hf:(findS S k).isSome=true) :
  Calls Tryz.prog 96 #[.pointer (some ⟨s,0,none⟩),.agg #[.int .i64 2,.string k,.int .i64 0,.slice none 0 0]] w fun e w'=>e=.returned (.int .i64 0)/\RecP B w w' s c b1 b2 a f K M Z T L O Q Tk E ar ba ct (offS S k) (RecB.encL 2 k 0 []):=by
 obtain ⟨s1,s2,s3⟩:=strOf_own hw k
 refine rec_core (st:=[]) (cc:=0) h hg hct hep hT (by unfold RecA.Ok;simp;omega) ⟨Kd.C_nil _ _,fun a ha=>by cases ha⟩ (Nat.le_refl _) (S':=offS S k) (fun W ad hc hR=>?_)
 refine (capply_del hc k hk _ hf (by omega) (fun x hx=>(s1 x hx).1) s2).mono ?_
 rintro e w' ⟨rfl,h2,h3⟩
 exact ⟨rfl,⟨ad,h2.congr (ownM_off hw k) (cnt_del hw k)⟩,h3⟩
end
set_option maxRecDepth 100000 in
set_option maxHeartbeats 2000000 in
theorem cfirst_ok {w:World} {n:Nat} (hn:n<=10) {g c:Nat} (F:Nat->Nat×Array Value×Array Value) (P:Nat->World->Prop) (h0:P 0 w) (hcell:∀ i,i < n->∀ W,P i W->W.cell? ⟨g,i,none⟩=some (.func (.func (F i).1) (F i).2.1 (F i).2.2))
  (hent:∀ i,i < n->∀ xs W,Sem.run Tryz.prog (callFunc (F i).1 xs) W=.ok (.enter (F i).1 xs) W) (hF:∀ i,i < n->∀ W,P i W->Calls Tryz.prog (F i).1 ((F i).2.1 ++ (F i).2.2) W fun e w'=>e=.returned (.int .i64 0)/\P (i+1) w') :
  Calls Tryz.prog 36 #[.slice (some ⟨g,0,none⟩) n c] w fun e w'=>e=.returned (.int .i64 0)/\P n w':=by
 have HH:=Aside0.mk (And.intro h0 (And.intro hcell (And.intro hF hent)))
 clear h0 hcell hF hent
 go_enter Tryz.func36,Tryz.ntmps36
 go_wp2
 go_loopg [8] n (fun kq x wr=>∃ i:Nat,x=.int .i64 i/\i+kq=n/\Aside0 (P i wr))
 case atStart=>exact ⟨0,rfl,by omega,⟨HH.out.1⟩⟩
 case round =>
  obtain ⟨i,rfl,hik,HX⟩:=hrel
  by_cases hin:i < n
  ·have f1:(i:Int) < (n:Int):=by omega
   have f2:(0:Int)<=(i:Int):=by omega
   have hc:=HH.out.2.1 i hin wr HX.out
   have hF:=HH.out.2.2.1 i hin wr HX.out
   have hen:=HH.out.2.2.2 i hin
   obtain ⟨⟨id,bo,fr⟩,he⟩:∃ q,F i=q:=⟨_,rfl⟩
   rw [he] at hc hF hen
   simp only at hen
   have HF:=Aside0.mk hF
   clear hF he
   have gw:wrap64 ((i:Int)+1)=(i:Int)+1:=w64 _ (by omega)
   go_wp2_with (refine HF.out.mono ?_;rintro e1 w1 ⟨rfl,h1⟩;have H1:=Aside0.mk h1;clear h1)
   go_roundg (n - (i+1))
   case measure=>exact meas5 hin hik
   case rel=>exact ⟨i+1,by simp [gw],meas4 hin,⟨H1.out⟩⟩
  ·have f1:¬ (i:Int) < (n:Int):=by omega
   have e1:i=n:=by omega
   subst e1
   go_wp2
   go_ret
   exact ⟨rfl,HX.out⟩
def pieceL (d:List Int) (P i:Nat):List Int:=(d.drop (i*P)).take P ++ List.replicate (P - ((d.drop (i*P)).take P).length) 0
theorem piece_len (d:List Int) (P i:Nat):(pieceL d P i).length=P:=by
 unfold pieceL
 rw [List.length_append,List.length_replicate]
 have:((d.drop (i*P)).take P).length<=P:=List.length_take_le _ _
 omega
theorem piece_byte {d:List Int} (h:byteL d) (P i:Nat):byteL (pieceL d P i):=by
 intro x hx
 unfold pieceL at hx
 rcases List.mem_append.1 hx with hx|hx
 ·exact h x (List.mem_of_mem_drop (List.mem_of_mem_take hx))
 ·rw [List.eq_of_mem_replicate hx];omega
theorem C_of_cells {W:World} {g:Nat} {q:List Int} (hq:q.length<=1000000) (h:W.heap[g]?=some (.cells (q.map (Value.int .u8)).toArray 5 (0,0))):(Kd.int .u8).C W (some ⟨g,0,none⟩) q.length q:=by
 refine Kd.C_of_reads (d:=0) ⟨rfl,by omega,fun _=>⟨_,rfl,fun j hj=>?_⟩⟩
 rw [add_plain]
 have e:W.cell? ⟨g,j,none⟩=(q.map (Value.int .u8))[j]? :=by
  unfold World.cell?
  rw [h]
  simp
 rw [e,List.getElem?_map,List.getElem?_eq_getElem hj,List.getD_eq_getElem?_getD,List.getElem?_eq_getElem hj]
 rfl
theorem copy_new {W0:World} {P:Nat} (hP:P<=100000) {ad:Addr} {n c:Nat} {l:List Int} (hl:l.length=n) (hn:n<=100000) (hC:(Kd.int .u8).C W0 (some ad) l.length l) :
  ∃ W',(Builtin.copy_ #[36,36] 3 #[.slice (some ⟨W0.heap.size,0,none⟩) P P,.slice (some ad) n c]).run Tryz.prog (W0.alloc (.cells (madeCells #[.int .u8 0] P) 5))=.ok (.int .i64 (min n P:Nat)) W'/\Below W0.heap.size W0 W'/\(Kd.int .u8).C W' (some ⟨W0.heap.size,0,none⟩) P (l.take P ++ List.replicate (P - (l.take P).length) 0):=by
 have hb:=below_alloc (Below.refl W0.heap.size W0) (Obj.cells (madeCells #[.int .u8 0] P) 5)
 have hC1:=Kd.C_below hC hb
 have hlen:(l.take P).length=min n P:=by rw [List.length_take,hl];exact Nat.min_comm _ _
 have hs:∀ j v,((l.take P).map (Value.int .u8))[j]?=some v->(W0.alloc (.cells (madeCells #[.int .u8 0] P) 5)).cell? (ad.add j)=some v:=by
  intro j v hj
  have hjl:j < (l.take P).length:=by have:=(List.getElem?_eq_some_iff.1 hj).1;simpa using this
  have hjl2:j < l.length:=by rw [hlen] at hjl;omega
  obtain ⟨ad',e',h⟩:=Kd.at_int hC1 (j:Int) (by omega) (by omega)
  obtain rfl:=Option.some.inj e'
  rw [Int.toNat_natCast] at h
  rw [h,<- hj,List.getElem?_map,List.getElem?_take,if_pos (by rw [hlen] at hjl;omega)]
  unfold rd
  simp [List.getD_eq_getElem?_getD,hjl2]
 have hg:=heap_alloc_new W0 (Obj.cells (madeCells #[.int .u8 0] P) 5)
 have hmk:(madeCells #[.int .u8 0] P:Array Value)=(List.replicate P (Value.int .u8 0)).toArray:=by
  apply Array.ext
  ·simp [madeCells]
  ·intro i h1 h2
   simp [madeCells,Nat.mod_one]
 rw [hmk] at hg hs hb ⊢
 have hrun:=run_copy_row (P:=Tryz.prog) (W0.alloc (.cells (List.replicate P (Value.int .u8 0)).toArray 5)) 36 36 3 5 W0.heap.size 0 P P ad n c (List.replicate P (Value.int .u8 0)).toArray 5 ((l.take P).map (Value.int .u8)) Tryz.underlying36 (by kernel_rfl) hg (by rw [List.length_map,hlen]) hs (by simp;omega) (by intro v hv;obtain ⟨x,_,rfl⟩:=List.mem_map.1 hv;rfl)
 have hcur:=setRow_heap (W0.alloc (.cells (List.replicate P (Value.int .u8 0)).toArray 5)) W0.heap.size _ ((List.replicate P (Value.int .u8 0)).toArray.toList.take 0 ++ (l.take P).map (Value.int .u8) ++ (List.replicate P (Value.int .u8 0)).toArray.toList.drop (0+((l.take P).map (Value.int .u8)).length)).toArray 5 (0,0) hg
 rw [List.length_map,hlen] at hrun
 refine ⟨_,hrun,?_,?_⟩
 ·exact ⟨hb.os,hb.tape,hb.output,Nat.le_trans hb.size (by simp [World.setRow]),fun k hk=>(setRow_other _ _ _ _ (by omega)).trans (hb.block k hk)⟩
 ·have hle:(l.take P).length<=P:=List.length_take_le _ _
  have e1:(l.take P ++ List.replicate (P - (l.take P).length) 0).length=P:=by rw [List.length_append,List.length_replicate];omega
  have e3:(List.replicate P (Value.int .u8 0)).toArray.toList.take 0 ++ (l.take P).map (Value.int .u8) ++ (List.replicate P (Value.int .u8 0)).toArray.toList.drop (0+((l.take P).map (Value.int .u8)).length)=(l.take P ++ List.replicate (P - (l.take P).length) 0).map (Value.int .u8):=by simp
  rw [e3] at hcur
  have h9:=C_of_cells (by rw [e1];omega) hcur
  rw [e1] at h9
  rw [List.length_map,hlen,<- hlen] at *
  simpa using h9
def putE (E:Nat->Int->List Int) (K M Z L:Nat) (ep:Int) (d plan:List Int):Nat->Nat->Int->List Int
 | 0=>E
 | i+1=>wrE (putE E K M Z L ep d plan i) (K+M) (plan.getD i 0) (5+(L:Int)+plan.getD i 0) ep (encA K M Z ((List.range K).map (part (pieceL d (K*Z) i) Z)) K) (K+M)
section
variable {E:Nat->Int->List Int} {K M Z L:Nat} {ep:Int} {d plan:List Int}
theorem putE_byte (h:EByte E) (hb:byteL d):∀ i,EByte (putE E K M Z L ep d plan i)
 | 0=>h
 | i+1=>(putE_byte h hb i).wr _ _ _ _ (fun j=>encA_bytes _ _ _ _ (fun q=>parts_bytes (piece_byte hb _ _) K Z q) K j) _
theorem putE_far {y:Int} (a:Nat):∀ i,(∀ j,j < i->y≠5+(L:Int)+plan.getD j 0)->putE E K M Z L ep d plan i a y=E a y
 | 0,_=>rfl
 | i+1,h=>by
  rw [putE,wrE_other _ _ _ _ _ _ (h i (Nat.lt_succ_self i))]
  exact putE_far a i (fun j hj=>h j (Nat.lt_succ_of_lt hj))
theorem putE_str (hK:1<=K) (hn:plan.Nodup):∀ i,i<=plan.length->∀ j,j < i->Str (putE E K M Z L ep d plan i) K M Z (plan.getD j 0) (5+(L:Int)+plan.getD j 0) ep (pieceL d (K*Z) j)
 | 0,_,j,h=>by omega
 | i+1,hi,j,hj=>by
  rw [putE]
  by_cases hji:j=i
  ·subst hji
   exact Str.new _ hK _
  ·refine (putE_str hK hn i (by omega) j (by omega)).other (fun e=>hji ?_) _
   have e1:plan.getD j 0=plan.getD i 0:=by omega
   rw [List.getD_eq_getElem?_getD,List.getD_eq_getElem?_getD,List.getElem?_eq_getElem (by omega:j < plan.length),List.getElem?_eq_getElem (by omega:i < plan.length)] at e1
   exact (List.getElem_inj hn).1 (by simpa using e1)
end
section
variable {B:Nat} {w W:World} {s c b1 b2 a f:Nat} {K M Z T L O:Nat} {Q:Nat->Prop} {Tk:Nat} {dead:Nat->Bool} {E:Nat->Int->List Int} {cl:Bool} {ar ba ct:Nat} {S:List Ob}
theorem Sb.weak (h:Sb B w s c b1 b2 a f K M Z T L O Q Tk dead E cl ar ba ct S):Sb B w s c b1 b2 a f K M Z T L O Q Tk dead E false ar ba ct S:=⟨h.box,h.cat,h.ax.weak,h.fd,h.eb,h.nq,h.ge⟩
structure P3 (W:World) (bs bp bd s:Nat) (A:Option Addr) (n cc:Nat) (A':Option Addr) (m c':Nat):Prop where
 xs:W.heap[bs]?=some (.cells #[.pointer (some ⟨s,0,none⟩)] 59 (0,0))
 xp:W.heap[bp]?=some (.cells #[.slice A n cc] 98 (0,0))
 xd:W.heap[bd]?=some (.cells #[.slice A' m c'] 36 (0,0))
theorem P3.gs {bs bp bd s:Nat} {A:Option Addr} {n cc:Nat} {A':Option Addr} {m c':Nat} (h:P3 W bs bp bd s A n cc A' m c') {W':World} {S:Nat->Prop} (hg:Gs S W W') (hS:¬ S bs/\¬ S bp/\¬ S bd):P3 W' bs bp bd s A n cc A' m c' :=
 ⟨(hg.block _ (blk_lt h.xs) hS.1).trans h.xs,(hg.block _ (blk_lt h.xp) hS.2.1).trans h.xp,(hg.block _ (blk_lt h.xd) hS.2.2).trans h.xd⟩
theorem P3.all {bs bp bd s:Nat} {A:Option Addr} {n cc:Nat} {A':Option Addr} {m c':Nat} (h:P3 W bs bp bd s A n cc A' m c'):W.cell? ⟨bs,0,none⟩=some (.pointer (some ⟨s,0,none⟩))/\W.cell? ⟨bp,0,none⟩=some (.slice A n cc)/\W.cell? ⟨bd,0,none⟩=some (.slice A' m c'):=by
 simp [World.cell?,h.xs,h.xp,h.xd]
theorem st_nine {W:World} {bs s c a f:Nat} {K M Z T L O ar ba ct:Int} (h2:W.cell? ⟨bs,0,none⟩=some (.pointer (some ⟨s,0,none⟩))) (h:W.heap[s]?=some (.cells (stC c a f K M Z T L O ar ba ct) 110 (0,0))) :
  W.cell? ⟨bs,0,none⟩=some (.pointer (some ⟨s,0,none⟩))/\W.cell? ⟨s,1,none⟩=some (.pointer (some ⟨a,0,none⟩))/\W.cell? ⟨s,2,none⟩=some (.pointer (some ⟨f,0,none⟩))/\W.cell? ⟨s,3,none⟩=some (.int .i64 K)/\W.cell? ⟨s,4,none⟩=some (.int .i64 M)/\W.cell? ⟨s,5,none⟩=some (.int .i64 Z)/\W.cell? ⟨s,6,none⟩=some (.int .i64 T)/\W.cell? ⟨s,7,none⟩=some (.int .i64 L)/\W.cell? ⟨s,8,none⟩=some (.int .i64 O)/\W.cell? ⟨s,10,none⟩=some (.int .i64 ba)/\W.cell? ⟨s,11,none⟩=some (.int .i64 ct):=by
 obtain ⟨h0,h1,h2',h3,h4,h5,h6,h7,h8,h9,h10,h11,_⟩:=st_cells h
 exact ⟨h2,h1,h2',h3,h4,h5,h6,h7,h8,h10,h11⟩
theorem getD_mem {l:List Int} {i:Nat} (h:i < l.length):l.getD i 0 ∈ l:=by
 rw [List.getD_eq_getElem?_getD,List.getElem?_eq_getElem h]
 exact List.getElem_mem h
theorem make_bytes {P:Nat} (hP:P<=100000) (W:World):(Instr.makeSlice 36 (.int .i64 (P:Int)) (.int .i64 (P:Int))).run Tryz.prog W=.ok (.slice (some ⟨W.heap.size,0,none⟩) P P) (W.alloc (.cells (madeCells #[.int .u8 0] P) 5)):=by
 obtain ⟨i,hi,hz0,hz1,hz2⟩:=info_parts info5
 have h:=run_make (P:=Tryz.prog) W 36 5 i (.int .u8 0) Tryz.underlying36 hi hz0 .i64 .i64 (P:Int) (P:Int) (by omega) (by omega) (by rw [hz2];omega) (by omega)
 rw [h,hz1]
 simp
 rfl
theorem plan_cell {w:World} {A:Option Addr} {l:List Int} (h:(Kd.int .i64).C w A l.length l) {i:Nat} (hi:i < l.length):∃ ad,A=some ad/\w.cell? (ad.add i)=some (.int .i64 (l.getD i 0)):=(Rw.of_C h).at_ i hi
set_option maxRecDepth 100000 in
set_option maxHeartbeats 2000000 in
theorem put1_ok (h:Sb B w s c b1 b2 a f K M Z T L O Q Tk (fun _=>false) E cl ar ba ct S) (hg:LayA.Good K M Z T L O) (h7:K+M<=7) (hZ:Z<=4096) (hep:ba+ct+1<=1000)
  {bs bp bd:Nat} {plan d:List Int} {A A':Option Addr} {cc c':Nat} (hB:P3 w bs bp bd s A plan.length cc A' d.length c') (hnB:¬ Q bs/\¬ Q bp/\¬ Q bd)
  (hpl:∀ W,Gs Q w W->(Kd.int .i64).C W A plan.length plan) (hd:∀ W,Gs Q w W->Bs W (.slice A' d.length c') d) (hdb:byteL d) (hdl:d.length<=1000)
  (hn:plan.length=needN (K*Z) d.length) (hr:∀ x ∈ plan,0<=x/\x < T) (hT:Tk+plan.length*(K+M)<=1000000) :
  Calls Tryz.prog 91 #[.pointer (some ⟨bs,0,none⟩),.pointer (some ⟨bp,0,none⟩),.pointer (some ⟨bd,0,none⟩)] w fun e w'=>e=.returned (.int .i64 0)/\Sb B w' s c b1 b2 a f K M Z T L O Q (Tk+plan.length*(K+M)) (fun _=>false) (putE E K M Z L ((ba:Int)+ct+1) d plan plan.length) true ar ba ct S/\Gs Q w w':=by
 have hg':=hg
 unfold LayA.Good at hg'
 have hKZ:K*Z<=7*4096:=Nat.mul_le_mul (by omega) hZ
 have hP1:1<=K*Z:=Nat.mul_pos (by omega) (by omega)
 obtain ⟨P,hP⟩:∃ P,K*Z=P:=⟨_,rfl⟩
 have hi:∀ i,i < plan.length->i*P < d.length:=fun i hi=>by
  rw [hn,hP] at hi
  unfold needN at hi
  split at hi
  ·omega
  ·have h1:i<=(d.length - 1) / P:=by omega
   have h2:i*P<=(d.length - 1) / P*P:=Nat.mul_le_mul_right P h1
   have h3:=Nat.div_mul_le_self (d.length - 1) P
   omega
 have hpn:plan.length<=1000:=by
  rcases Nat.eq_zero_or_pos plan.length with h0|h0
  ·omega
  ·have h1:=hi (plan.length - 1) (by omega)
   have h2:(plan.length - 1)*1<=(plan.length - 1)*P:=Nat.mul_le_mul_left _ (by omega)
   omega
 have H0:=Aside0.mk (And.intro h.weak (And.intro hB hg))
 have HH:=Aside0.mk (And.intro hnB (And.intro hpl (And.intro hd (And.intro hdb (And.intro hr (And.intro hT hi))))))
 have HN:=Aside0.mk (And.intro hP (And.intro hP1 (And.intro h7 (And.intro hZ (And.intro hep (And.intro hpn hdl))))))
 obtain ⟨k0,kp,kd⟩:=hB.all
 have H1:=Aside0.mk (st_nine (W:=w.drew) k0 h.box)
 have gP:wrap64 ((K:Int)*Z)=(P:Int):=by rw [w64 _ (by rw [<- Int.natCast_mul,hP];omega),<- Int.natCast_mul,hP]
 have gP2:IntKind.i64.wrap ((K:Int)*Z)=(P:Int):=(i64_w _).trans gP
 clear h hg hg' hB hnB hpl hd hdb hdl hn hr hT hi hKZ hP hP1 h7 hZ hep hpn
 go_enter Tryz.func91,Tryz.ntmps91
 go_wp2
 go_region_held3 (fun W=>W.cell? ⟨bs,0,none⟩=some (.pointer (some ⟨s,0,none⟩))/\W.cell? ⟨s,3,none⟩=some (.int .i64 K)/\W.cell? ⟨s,5,none⟩=some (.int .i64 Z)) (exact ⟨H1.out.1,H1.out.2.2.2.1,H1.out.2.2.2.2.2.1⟩) (fail)
 go_wp2
 clear gP gP2
 go_loopg [22] plan.length (fun kq x22 wr=>∃ i:Nat,x22=.int .i64 i/\i+kq=plan.length/\Aside0 (Sb B wr s c b1 b2 a f K M Z T L O Q (Tk+i*(K+M)) (fun _=>false) (putE E K M Z L ((ba:Int)+ct+1) d plan i) false ar ba ct S/\Gs Q w wr))
 case atStart=>exact ⟨0,rfl,by omega,⟨by simpa [putE] using H0.out.1.below (below_drew1 (Below.refl _ _)),Gs.of_below (below_drew1 (Below.refl _ _))⟩⟩
 case round =>
  obtain ⟨i,rfl,hik,HX⟩:=hrel
  by_cases hin:i < plan.length
  ·have f1:(i:Int) < (plan.length:Int):=by omega
   have f2:(0:Int)<=(i:Int):=by omega
   have hx:=plan_cell (HH.out.2.1 wr HX.out.2) hin
   obtain ⟨ad,rfl,hx⟩:=hx
   obtain ⟨x,hxe⟩:∃ x,plan.getD i 0=x:=⟨_,rfl⟩
   rw [hxe] at hx
   have hB:=H0.out.2.1.gs HX.out.2 HH.out.1
   obtain ⟨k0,kp,kd⟩:=hB.all
   have him:=HH.out.2.2.2.2.2.2 i hin
   have hPb:P<=28672:=by have:=HN.out.1;have:=HN.out.2.2.1;have:=HN.out.2.2.2.1;have h9:K*Z<=7*4096:=Nat.mul_le_mul (by omega) (by omega);omega
   have hdl:=HN.out.2.2.2.2.2.2
   have f3:(0:Int)<=(P:Int):=by omega
   have f4:(P:Int)<=28672:=by omega
   obtain ⟨m,hm⟩:∃ m,i*P=m:=⟨_,rfl⟩
   have hmk:=make_bytes (P:=P) (by omega) wr
   obtain ⟨A2,c2,e2,hc2,hC2⟩:=HH.out.2.2.1 wr HX.out.2
   injection e2 with e2 e3 e4
   subst e2 e4
   rw [hm] at him
   obtain ⟨ad',e5,_⟩:=Kd.at_int hC2 0 (by omega) (by omega)
   subst e5
   have hcut:=cut_off (A:=some ad') (n:=d.length) (c:=c') (m:=m) (by omega) hc2 wr
   have hcut2:=cut_off (A:=some ad') (n:=d.length) (c:=c') (m:=m) (by omega) hc2 (wr.alloc (.cells (madeCells #[.int .u8 0] P) 5))
   have hC3:=Kd.C_drop (c:=c') (m:=m) hC2 (by omega) hc2
   rw [if_neg (by omega)] at hcut2 hC3
   have hC4:(Kd.int .u8).C wr (some (ad'.add m)) (d.drop m).length (d.drop m):=by
    rw [show m*(Kd.int .u8).sz=m from Nat.mul_one m] at hC3
    exact hC3
   obtain ⟨n8,hn8⟩:∃ n8,d.length - m=n8:=⟨_,rfl⟩
   obtain ⟨c8,hc8⟩:∃ c8,c' - m=c8:=⟨_,rfl⟩
   obtain ⟨W2,hcp,hbW,hCW⟩:=copy_new (W0:=wr) (P:=P) (by omega) (n:=n8) (c:=c8) (by rw [List.length_drop,hn8]) (by omega) hC4
   rw [hn8,hc8] at hcut2
   have hcut3:(Instr.slice 36 (.slice (some ad') d.length c') (some (.int .i64 (m:Int))) none none).run Tryz.prog (wr.alloc (.cells (madeCells #[.int .u8 0] P) 5))=.ok (.slice (some (ad'.add m)) n8 c8) (wr.alloc (.cells (madeCells #[.int .u8 0] P) 5)):=hcut2
   have kd2:(wr.alloc (.cells (madeCells #[.int .u8 0] P) 5)).cell? ⟨bd,0,none⟩=some (.slice (some ad') d.length c'):=(calloc_old (blk_lt hB.xd)).trans kd
   have hpc:(d.drop m).take P ++ List.replicate (P - ((d.drop m).take P).length) 0=pieceL d P i:=by rw [<- hm];rfl
   rw [hpc] at hCW
   have HW:=Aside0.mk (And.intro hbW hCW)
   have hmul:wrap64 ((i:Int)*(P:Int))=(m:Int):=by rw [w64 _ (by rw [<- Int.natCast_mul,hm];omega),<- Int.natCast_mul,hm]
   have HV:=Aside0.mk (And.intro hxe (And.intro hB (And.intro him (And.intro hPb hdl))))
   clear hxe hB him hPb hdl hbW hCW hC4 hC3 hcut hcut2 hpc hC2 hm hn8 hc8
   go_upto_region 7 with (fail)
   have hSb:=HX.out.1.below (below_step HW.out.1 (below_drew1 (Below.refl _ _)))
   have hBd:=HV.out.2.1.gs (Gs.of_below (S:=fun _=>False) (below_step HW.out.1 (below_drew1 (Below.refl _ _)))) ⟨id,id,id⟩
   have hw:=sw_ok (w:=W2.drew) (st:=x) (ep:=(ba:Int)+ct+1) hSb.ax hSb.fd H0.out.2.2 rfl HN.out.2.2.1 HN.out.2.2.2.1 (by rw [<- HV.out.1];exact HH.out.2.2.2.2.1 _ (getD_mem hin)) (by have:=HN.out.2.2.2.2.1;omega) (fun _ _=>rfl) (by
    have h1:=HH.out.2.2.2.2.2.1
    have h2:(i+1)*(K+M)<=plan.length*(K+M):=Nat.mul_le_mul_right _ hin
    rw [Nat.succ_mul] at h2
    omega) (by have:=HH.out.2.2.2.2.1 _ (getD_mem hin);rw [HV.out.1] at this;omega) ⟨wr.heap.size,0,none⟩ P (pieceL d P i) (by rw [piece_len,HN.out.1]) (by rw [piece_len];exact Nat.le_refl _) (by rw [piece_len];exact Kd.C_below HW.out.2 (below_drew1 (Below.refl _ _))) (piece_byte HH.out.2.2.2.1 _ _)
   rw [piece_len] at hw
   have HS:=Aside0.mk hw
   have HB2:=Aside0.mk (And.intro hSb hBd)
   have H2:=Aside0.mk (st_nine hBd.all.1 hSb.box)
   have gw:wrap64 ((i:Int)+1)=(i:Int)+1/\IntKind.i64.wrap ((ba:Int)+(ct:Int))=(ba:Int)+ct/\IntKind.i64.wrap ((ba:Int)+(ct:Int)+1)=(ba:Int)+ct+1:=by
    have:=HN.out.2.2.2.2.1
    have:=HN.out.2.2.2.2.2.1
    exact ⟨w64 _ (by omega),(i64_w _).trans (w64 _ (by omega)),(i64_w _).trans (w64 _ (by omega))⟩
   obtain ⟨gw1,gw2,gw3⟩:=gw
   unfold geoV at HS
   clear hSb hBd hw hmul hcut3 hcp hmk
   go_wp2
   go_region_held3 (fun W=>W.cell? ⟨bs,0,none⟩=some (.pointer (some ⟨s,0,none⟩))/\W.cell? ⟨s,1,none⟩=some (.pointer (some ⟨a,0,none⟩))/\W.cell? ⟨s,2,none⟩=some (.pointer (some ⟨f,0,none⟩))/\W.cell? ⟨s,3,none⟩=some (.int .i64 K)/\W.cell? ⟨s,4,none⟩=some (.int .i64 M)/\W.cell? ⟨s,5,none⟩=some (.int .i64 Z)/\W.cell? ⟨s,6,none⟩=some (.int .i64 T)/\W.cell? ⟨s,7,none⟩=some (.int .i64 L)/\W.cell? ⟨s,8,none⟩=some (.int .i64 O)/\W.cell? ⟨s,10,none⟩=some (.int .i64 ba)/\W.cell? ⟨s,11,none⟩=some (.int .i64 ct)) (first|with_reducible exact H5.out|with_reducible exact H2.out) (first|(go_at_call 92;go_loud (refine HS.out.mono ?_;rintro e5 w5 ⟨rfl,hx5,hg5⟩;have H6:=Aside0.mk (And.intro hx5 hg5);have H5:=Aside0.mk (st_nine ((HB2.out.2.gs hg5 HH.out.1).all.1) ((hg5.block _ (blk_lt HB2.out.1.box) HB2.out.1.nq.1).trans HB2.out.1.box));clear hx5 hg5)))
   go_wp2
   go_roundg (plan.length - (i+1))
   case measure=>exact meas5 hin hik
   case rel=>exact ⟨i+1,by simp [gw1],meas4 hin,⟨by
    have h1:=HB2.out.1.disk H6.out.2 H6.out.1 (by
     have h2:=putE_byte (K:=K) (M:=M) (Z:=Z) (L:=L) (ep:=(ba:Int)+ct+1) (plan:=plan) H0.out.1.eb HH.out.2.2.2.1 (i+1)
     rw [putE,HV.out.1,HN.out.1] at h2
     exact h2)
    rw [show Tk+i*(K+M)+(K+M)=Tk+(i+1)*(K+M) by rw [Nat.succ_mul];omega] at h1
    rw [putE,HV.out.1,HN.out.1]
    exact h1,(HX.out.2.trans (Gs.of_below (below_step HW.out.1 (below_drew1 (Below.refl _ _))))).trans H6.out.2⟩⟩
  ·have f1:¬ (i:Int) < (plan.length:Int):=by omega
   have e1:i=plan.length:=by omega
   have hB:=H0.out.2.1.gs HX.out.2 HH.out.1
   obtain ⟨k0,_,_⟩:=hB.all
   obtain ⟨_,j1,_⟩:=st_nine k0 HX.out.1.box
   have HE:=Aside0.mk e1
   clear e1 hB
   go_wp2_with (first|(go_at_call 53;go_loud (refine (aflushed HX.out.1.ax (fun _ _=>rfl)).mono ?_;rintro e6 w6 ⟨rfl,hx6,hg6⟩;have H6:=Aside0.mk (And.intro hx6 hg6);clear hx6 hg6)))
   go_ret
   have h1:=HX.out.1.disk H6.out.2 H6.out.1 HX.out.1.eb
   rw [HE.out] at h1
   exact ⟨rfl,h1,HX.out.2.trans H6.out.2⟩
end
theorem key_empty {k:ByteArray} (h:k.size=0):k.toList.isEmpty=true:=by
 rw [ByteArray.toList_eq,List.isEmpty_iff]
 have e4:k.size=k.data.toList.length:=rfl
 exact List.eq_nil_of_length_eq_zero (by omega)
set_option maxRecDepth 100000 in
set_option maxHeartbeats 2000000 in
theorem fault_bad {s c a f:Nat} {K M Z T L O area base count:Int} {w:World} (h:w.heap[s]?=some (.cells (stC c a f K M Z T L O area base count) 110 (0,0))) (k:ByteArray) (hk:¬ (1<=k.size/\k.size<=64)) :
  Calls Tryz.prog 89 #[.pointer (some ⟨s,0,none⟩),.string k] w fun e w'=>e=.returned (.int .i64 190)/\w'=w:=by
 have h12:w.cell? ⟨s,12,none⟩=some (.bool false):=by simp only [World.cell?,h,stC];rfl
 clear h
 by_cases h0:k.size=0
 ·have hke:=key_empty h0
  clear hk
  go_enter Tryz.func89,Tryz.ntmps89
  go_wp2
  go_ret
  exact ⟨rfl,rfl⟩
 ·have hke:=key_ne (k:=k) (by omega)
  have hl2:(64:Int) < (k.size:Int):=by omega
  clear hk
  go_enter Tryz.func89,Tryz.ntmps89
  go_wp2
  go_ret
  exact ⟨rfl,rfl⟩
theorem fault_ok2 {s c a f:Nat} {K M Z T L O area base count:Int} {w:World} (h:w.heap[s]?=some (.cells (stC c a f K M Z T L O area base count) 110 (0,0))) (k:ByteArray) :
  Calls Tryz.prog 89 #[.pointer (some ⟨s,0,none⟩),.string k] w fun e w'=>e=.returned (.int .i64 (if okK k=true then 0 else 190))/\w'=w:=by
 unfold okK
 by_cases hk:1<=k.size/\k.size<=64
 ·rw [if_pos (decide_eq_true hk)]
  exact fault_st h k hk
 ·rw [if_neg (by rw [decide_eq_false hk];simp)]
  exact fault_bad h k hk
section
variable {B:Nat} {w W:World} {s c b1 b2 a f:Nat} {K M Z T L O:Nat} {Q:Nat->Prop} {Tk:Nat} {dead:Nat->Bool} {E:Nat->Int->List Int} {cl:Bool} {ar ba ct:Nat} {S:List Ob}
set_option maxRecDepth 100000 in
set_option maxHeartbeats 2000000 in
theorem put2_ok (h:Sb B w s c b1 b2 a f K M Z T L O Q Tk (fun _=>false) E cl ar ba ct S) (hg:LayA.Good K M Z T L O) (hw:WfS S T O) (hct:ct < L) (hep:ba+ct+1<=1000) (hT:Tk+(K+M)<=1000000)
  {bs bk bd bp:Nat} {o:Ob} (he:o.f2=((ba+ct+1:Nat):Int)) {A A':Option Addr} {cc len c':Nat} (hB:P3 w bs bp bd s A o.f3.length cc A' len c') (hk:w.heap[bk]?=some (.cells #[.string o.f0] 9 (0,0))) (hA:Rt w A o.f3) (hcc:o.f3.length<=cc) (hok:RecA.Ok 1 o.f0 o.f1 o.f3) (hle:o.f1=len) (hnd:o.f3.length=needN (K*Z) len)
  (hm:∀ x ∈ o.f3,ownM S x=false/\x < T) (hN:o.f3.Nodup) (hfull:(!(findS S o.f0).isSome && decide ((O:Int)<=(S.length:Int)))=false) :
  Calls Tryz.prog 95 #[.pointer (some ⟨bs,0,none⟩),.pointer (some ⟨bk,0,none⟩),.pointer (some ⟨bd,0,none⟩),.pointer (some ⟨bp,0,none⟩)] w fun e w'=>e=.returned (.int .i64 0)/\RecP B w w' s c b1 b2 a f K M Z T L O Q Tk E ar ba ct (putS S o) (RecB.encL 1 o.f0 o.f1 o.f3):=by
 have HR:=Aside0.mk (record_put h hg hw hct hep hT o he hA hcc hok hle hnd hm hN hfull)
 rw [hle] at HR
 obtain ⟨k0,k1,k2⟩:=hB.all
 have k3:w.cell? ⟨bk,0,none⟩=some (.string o.f0):=by simp [World.cell?,hk]
 rw [hle]
 clear h hg hw hB hk hA hcc hok hnd hm hN hfull he hle
 go_enter Tryz.func95,Tryz.ntmps95
 go_wp2_with (first|(go_at_call 96;go_loud (refine HR.out.mono ?_;rintro e1 w1 ⟨rfl,h1⟩;have H1:=Aside0.mk h1;clear h1)))
 go_ret
 exact ⟨rfl,H1.out⟩
set_option maxRecDepth 100000 in
set_option maxHeartbeats 2000000 in
theorem del1_ok (h:Sb B w s c b1 b2 a f K M Z T L O Q Tk (fun _=>false) E cl ar ba ct S) (hg:LayA.Good K M Z T L O) (hw:WfS S T O) (hct:ct < L) (hep:ba+ct+1<=1000) (hT:Tk+(K+M)<=1000000)
  {bs bk:Nat} {k:ByteArray} (hbs:w.heap[bs]?=some (.cells #[.pointer (some ⟨s,0,none⟩)] 59 (0,0))) (hbk:w.heap[bk]?=some (.cells #[.string k] 9 (0,0))) (hk:1<=k.size/\k.size<=64) (hf:(findS S k).isSome=true) :
  Calls Tryz.prog 99 #[.pointer (some ⟨bs,0,none⟩),.pointer (some ⟨bk,0,none⟩)] w fun e w'=>e=.returned (.int .i64 0)/\RecP B w w' s c b1 b2 a f K M Z T L O Q Tk E ar ba ct (offS S k) (RecB.encL 2 k 0 []):=by
 have HR:=Aside0.mk (record_del h hg hw hct hep hT hk hf)
 have k0:w.cell? ⟨bs,0,none⟩=some (.pointer (some ⟨s,0,none⟩)):=by simp [World.cell?,hbs]
 have k3:w.cell? ⟨bk,0,none⟩=some (.string k):=by simp [World.cell?,hbk]
 clear h hg hw hbs hbk hk hf
 go_enter Tryz.func99,Tryz.ntmps99
 go_wp2_with (first|(go_at_call 96;go_loud (refine HR.out.mono ?_;rintro e1 w1 ⟨rfl,h1⟩;have H1:=Aside0.mk h1;clear h1)))
 go_ret
 exact ⟨rfl,H1.out⟩
end
def fmt1 (n:Nat):Nat->Int->List Int:=allE (fun _ _=>[]) 0 (SecA.sect 0 0 [76]) n
def fmtE (n:Nat):Nat->Int->List Int:=savE (fmt1 n) 0 0 (partsL []) n 2
def Lg (n:Nat) (E:Nat->Int->List Int) (ba ct:Nat) (S:List Ob):Prop :=
 (0 < ba+ct->0 < ct)/\(ba=0->ct<=1->(∀ i y,y < 5->E i y=fmtE n i y)/\(ct=0->S=[])/\(ct=1->∀ o,S=[o]->∀ i,i < n->E i 5=SecA.sect 5 1 (RecB.encL 1 o.f0 o.f1 o.f3)))
structure St (B:Nat) (w:World) (s c b1 b2 a f:Nat) (K M Z T L O:Nat) (Q:Nat->Prop) (Tk:Nat) (E:Nat->Int->List Int) (ar ba ct:Nat) (p:Pst):Prop where
 sb:Sb B w s c b1 b2 a f K M Z T L O Q Tk (fun _=>false) E true ar ba ct p.S
 wf:WfP (K*Z) T O p
 str:∀ o ∈ p.S,∀ i,i < o.f3.length->Str E K M Z (o.f3.getD i 0) (5+(L:Int)+o.f3.getD i 0) o.f2 (pieceL (p.dat o.f0) (K*Z) i)
 ep:ba+ct=p.ep/\ct<=L/\ar<=1
 lg:Lg (K+M) E ba ct p.S
structure Geo (K M Z T L O:Nat):Prop where
 good:LayA.Good K M Z T L O
 n7:K+M<=7
 z:Z<=4096
theorem St.below {B:Nat} {w W:World} {s c b1 b2 a f:Nat} {K M Z T L O:Nat} {Q:Nat->Prop} {Tk:Nat} {E:Nat->Int->List Int} {ar ba ct:Nat} {p:Pst} (h:St B w s c b1 b2 a f K M Z T L O Q Tk E ar ba ct p) (hb:Below w.heap.size w W):St B W s c b1 b2 a f K M Z T L O Q Tk E ar ba ct p:=⟨h.sb.below hb,h.wf,h.str,h.ep,h.lg⟩
def Us (Q:Nat->Prop) (s b1 b2:Nat):Nat->Prop:=fun k=>Q k∨k=s∨k=b1∨k=b2
end Go.Proofs.YtmmcbncpnlknbaaGreat.Top
