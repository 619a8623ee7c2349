import Derived.Test.YtmmcbncpnlknbaaGreatF21
set_option linter.unusedVariables false
set_option linter.unusedSimpArgs false
namespace Go.Proofs.YtmmcbncpnlknbaaGreat.Top
open Go Go.RowKit Go.Proofs.YtmmcbncpnlknbaaGreatW.PrintWords Go.Proofs.YtmmcbncpnlknbaaGreatW.PrintLast Go.Proofs.YtmmcbncpnlknbaaGreatW.PrintMore
set_option maxRecDepth 100000 in
theorem vwrite_ok {B n T a:Nat} {w:World} {S:Nat->Prop} {sec:Int} {dead:Nat->Bool} {E:Nat->Int->List Int} {cl:Bool} (h:Ax B w a S sec n T dead E cl) (hd:∀ i,i < n->dead i=false) (hT:T+n<=1000000) (ad ep:Int) (h1:ad < sec) {l:List Int} (hm:SecA.May ad ep l) (hb:byteL l) {v:Value} (hv:Bs w v l) :
  Calls Tryz.prog 58 #[.pointer (some ⟨a,0,none⟩),.int .i64 ad,.int .i64 ep,v] w fun e w'=>e=.returned (.tuple #[.int .i64 n,.int .i64 0])/\Ax B w' a S sec n (T+n) dead (allE E ad (SecA.sect ad ep l) n) false/\Gs S w w':=by
 obtain ⟨A,c,rfl,hc,hC⟩:=hv
 have hcv:=Kd.C_string (src:=36) (dst:=9) Tryz.underlying36 Tryz.underlying5 Tryz.underlying9 (c:=c) hC
 have HP:=Aside0.mk (vput_ok h hd hT ad ep h1 hm hb)
 clear h hd hT h1 hm hb hc hC
 go_enter Tryz.func58,Tryz.ntmps58
 go_wp2_with (first|(go_at_call 83;go_loud (refine HP.out.mono ?_;rintro e1 w1 ⟨rfl,hx1,hg1⟩;have H1:=Aside0.mk (And.intro hx1 hg1);clear hx1 hg1)))
 go_ret2
 exact ⟨rfl,H1.out⟩
theorem vput0_ok {B n T a:Nat} {w:World} {S:Nat->Prop} {sec:Int} {dead:Nat->Bool} {E:Nat->Int->List Int} {cl:Bool} (h:Ax B w a S sec n T dead E cl) (ad ep:Int) {l:List Int} (hm:SecA.May ad ep l) (hb:byteL l) (lb:Array Value)
  (hw:∀ W i,Below w.heap.size w W->i < n->Calls Tryz.prog 169 (#[.int .i64 i] ++ lb) W fun e w'=>e=.returned (.bool false)/\Below W.heap.size W w') :
  Calls Tryz.prog 83 #[.pointer (some ⟨a,0,none⟩),.int .i64 ad,.agg #[.int .i64 ep,.string (strOfNums l)],.func (.func 169) #[] lb] w fun e w'=>e=.returned (.tuple #[.int .i64 0,.int .i64 0])/\Below w.heap.size w w':=by
 have hn:=h.n32
 have kb:=fun W=>print_bytes (P:=Tryz.prog) 9 36 5 Tryz.underlying9 Tryz.underlying36 Tryz.underlying5 (strOfNums l) W
 have hl5:l.length<=5000:=by have:=hm.2.2;omega
 have hz1:(w.alloc (.cells #[.int .i64 ep,.string (strOfNums l)] 165)).heap.size=w.heap.size+1:=by simp
 have hbs:=bs_of_str (w.alloc (.cells #[.int .i64 ep,.string (strOfNums l)] 165)) hb hl5 (grownCap_ge (w.alloc (.cells #[.int .i64 ep,.string (strOfNums l)] 165)) (strOfNums l).size 0 5) rfl
 rw [hz1] at hbs
 have hb5:=bytes_below (below_alloc (Below.refl _ w) (.cells #[.int .i64 ep,.string (strOfNums l)] 165)) (below_alloc (Below.refl _ w) (.cells #[.int .i64 ep,.string (strOfNums l)] 165)).size 5 (strOfNums l)
 have hp:=hbs.pack hm
 have HH:=Aside0.mk (And.intro h (And.intro hp (And.intro hb5 hw)))
 clear h hm hb hl5 hz1 hbs hb5 hp hw
 go_enter Tryz.func83,Tryz.ntmps83
 go_wp2_with (first|(go_at_call 50;go_loud (refine ((HH.out.1.below H1.out).live).mono ?_;rintro e2 w2 ⟨v2,rfl,hv2,hb2⟩;obtain ⟨A2,c2,rfl⟩:=Kd.R_slice hv2;rw [List.length_map,List.length_range];have H2:=Aside0.mk (below_step H1.out hb2);clear hb2 hv2))|(go_at_call 77;go_loud (refine HH.out.2.1.mono ?_;rintro e1 w1 ⟨v1,rfl,hr1,hb1⟩;have H1:=Aside0.mk (below_step HH.out.2.2.1 hb1);clear hr1 hb1)))
 go_loopg [32,12] n (fun kq x y wr=>∃ i:Nat,x=.int .i64 i/\y=.int .i64 0/\i+kq=n/\Aside0 (Below w.heap.size w wr))
 case atStart=>exact ⟨0,rfl,rfl,by omega,⟨H2.out⟩⟩
 case round =>
  obtain ⟨i,rfl,rfl,hik,HX⟩:=hrel
  by_cases hin:i < n
  ·have g1:(i:Int) < (n:Int):=by omega
   have HW:=Aside0.mk (HH.out.2.2.2 wr i HX.out hin)
   have gw:wrap64 ((i:Int)+1)=(i:Int)+1:=w64 _ (by omega)
   go_wp2_with (first|(go_at_call 169;go_loud (refine HW.out.mono ?_;rintro e4 w4 ⟨rfl,hb4⟩;have H4:=Aside0.mk hb4;clear hb4)))
   go_roundg (n - (i+1))
   case measure=>exact meas5 hin hik
   case rel=>exact ⟨i+1,by simp [gw],rfl,meas4 hin,⟨below_step HX.out H4.out⟩⟩
  ·have g1:¬ (i:Int) < (n:Int):=by omega
   have e1:i=n:=by omega
   subst e1
   go_wp2
   go_ret2
   exact ⟨rfl,HX.out⟩
theorem eqi165 (w:World) {e:Int} {s:ByteArray} (h:I64 e) (hs:s.size<=maxLen):(Op.equalIn 10000 165 (.agg #[.int .i64 e,.string s]) (.agg #[.int .i64 e,.string s])).run Tryz.prog w=.ok true w:=by
 obtain ⟨l,hl⟩:=key165 h hs
 obtain ⟨r,hr,hi⟩:=run_equal_deep (P:=Tryz.prog) w (m:=3) (by omega) (k:=165) (by kernel_rfl) (by rw [Tryz.underlying165]) hl hl
 rw [hi.2 rfl] at hr
 exact hr
theorem eq165 (w:World) {e:Int} {s:ByteArray} (h:I64 e) (hs:s.size<=maxLen):(binOp .eql 165 (.agg #[.int .i64 e,.string s]) (.agg #[.int .i64 e,.string s])).run Tryz.prog w=.ok (.bool true) w:=by
 rw [run_eql_struct,eqi165 w h hs]
 rfl
set_option maxRecDepth 100000 in
set_option maxHeartbeats 1000000 in
theorem mend1_ok {W:World} {n bl bs bb g:Nat} {vl:Value} {c:Nat} {lv:List Bool} {f:Nat->Sd} {e0:Int} {s0:ByteArray} (hbl:W.heap[bl]?=some (.cells #[vl] 120 (0,0))) (hbs:W.heap[bs]?=some (.cells #[.slice (some ⟨g,0,none⟩) n c] 263 (0,0))) (hbb:W.heap[bb]?=some (.cells #[.int .i64 e0,.string s0] 165 (0,0)))
  (hl:Bo W vl lv) (hlen:lv.length=n) (hS:Sr W g n f) (h0:I64 e0) (hs:s0.size<=maxLen) (i:Nat) (hi:i < n) (hw:rb lv i=true->(f i).is=true/\(f i).e=e0/\(f i).s=s0) :
  Calls Tryz.prog 169 #[.int .i64 i,.pointer (some ⟨bl,0,none⟩),.pointer (some ⟨bs,0,none⟩),.pointer (some ⟨bb,0,none⟩)] W fun e w'=>e=.returned (.bool false)/\Below W.heap.size W w':=by
 obtain ⟨A,cl,rfl,hcl,hC⟩:=hl
 obtain ⟨ak,rfl,hck⟩:=Bo.at hC i (by omega)
 rw [hlen] at hbl
 have x0:W.cell? ⟨bl,0,none⟩=some (.slice (some ak) n cl):=by simp [World.cell?,hbl]
 have x1:W.cell? ⟨bs,0,none⟩=some (.slice (some ⟨g,0,none⟩) n c):=by simp [World.cell?,hbs]
 obtain ⟨y0,y1,_,_⟩:=bx165 hbb
 obtain ⟨c0,c1,c2,c3⟩:=hS.at_ i hi
 have g1:(i:Int) < (n:Int):=by omega
 have g3:(0:Int)<=(i:Int):=by omega
 have q1:=fun W=>eq165 W h0 hs
 have q2:=fun W=>eqi165 W h0 hs
 cases hr:rb lv i with
 | false =>
  rw [hr] at hck
  clear hC hbl hbs hbb hS hw hcl
  go_enter Tryz.func169,Tryz.ntmps169
  go_wp2
  go_quiet (fail)
  go_wp2
  go_ret
  exact ⟨rfl,pw_below_drewN (Below.refl _ _) _⟩
 | true =>
  rw [hr] at hck
  obtain ⟨e1,e2,e3⟩:=hw hr
  rw [e1] at c2
  rw [e2] at c0
  rw [e3] at c1
  clear hC hbl hbs hbb hS hw hcl e1 e2 e3
  go_enter Tryz.func169,Tryz.ntmps169
  go_wp2
  go_quiet (fail)
  go_wp2
  go_ret
  exact ⟨rfl,pw_below_drewN (Below.refl _ _) _⟩
attribute [local go_sem] calloc_old
set_option maxRecDepth 100000 in
set_option maxHeartbeats 2000000 in
theorem vmend_ok {B n T a:Nat} {w:World} {S:Nat->Prop} {sec:Int} {dead:Nat->Bool} {E:Nat->Int->List Int} {cl:Bool} (h:Ax B w a S sec n T dead E cl) (hn:1<=n) (ad:Int) (h0:0<=ad) (h1:ad < sec) (hb:∀ i,i < n->SecA.Bytes (rdL dead E ad i))
  (vk:Value) {e0:Int} {l0:List Int} (he0:0<=e0) (hw:I64 e0) (hl0:byteL l0) (hm:SecA.May ad e0 l0) (hall:∀ i,i < n->(sdOf dead E ad i).is=true->(sdOf dead E ad i).e=e0/\(sdOf dead E ad i).s=strOfNums l0)
  (hlv:∀ i,i < n->dead i=false->(sdOf dead E ad i).is=true) (hc:0 < cntS (sdOf dead E ad) n) :
  Calls Tryz.prog 141 #[.pointer (some ⟨a,0,none⟩),vk,.int .i64 ad] w fun e w'=>e=.returned (.tuple #[.int .i64 0,.int .i64 0])/\Below w.heap.size w w':=by
 have ho:=Ax.n32 h
 have hs:(strOfNums l0).size<=maxLen:=by rw [strOfNums_size];have:=hm.2.2;simp only [maxLen];omega
 obtain ⟨f,hf⟩:∃ f,sdOf dead E ad=f:=⟨_,rfl⟩
 have hask:=ask_ok h ad h0 h1 hb
 rw [hf] at hall hlv hc hask
 have HA:=Aside0.mk hask
 have HC:=Aside0.mk (fun (W:World) (g c:Nat) (hS:Sr W g n f)=>count_ok (c:=c) hS ho he0 hw (s0:=strOfNums l0) hs hall)
 have hbest:bestV (cntS f n) e0 (strOfNums l0)=.agg #[.int .i64 e0,.string (strOfNums l0)]:=by simp [bestV,Nat.ne_of_gt hc]
 have hcI:(0:Int) < (cntS f n:Int):=by omega
 have hcz:¬ ((cntS f n:Int)=0):=by omega
 have HH:=Aside0.mk (And.intro hn (And.intro h (And.intro hw (And.intro hl0 (And.intro hm (And.intro hall (And.intro hlv hs)))))))
 clear hask h hn h0 h1 hb he0 hw hl0 hm hall hlv hs hc hf
 go_enter Tryz.func141,Tryz.ntmps141
 go_wp2_with (first|(go_at_call 83;go_loud (refine (vput0_ok (HH.out.2.1.below (below_alloc H3.out.2.2 _)) ad e0 HH.out.2.2.2.2.1 HH.out.2.2.2.1 _ (fun W i hW hi=>?qw)).mono ?_;(case qw =>
   have hk:=H3.out.2.1
   rw [List.length_map,List.length_range] at hk
   have hz:=H3.out.2.2.size
   have hlt1:=H1.out.1.lt
   have hz1:=H1.out.2.1.size
   have hz2:=H2.out.1.size
   have hWb:Below w3.heap.size w3 W:=(below_alloc (Below.refl _ w3) _).trans (hW.mono (by simp))
   have hz3:=H3.out.2.2
   obtain ⟨hS3,hbs3,hbb3⟩:=H3.out.1
   exact mend1_ok ((hW.block _ (by simp)).trans (heap_alloc_new w3 _)) ((hWb.block _ (blk_lt hbs3)).trans hbs3) ((hWb.block _ (blk_lt hbb3)).trans hbb3) (hk.below hWb) (by simp) (hS3.below hWb) HH.out.2.2.1 HH.out.2.2.2.2.2.2.2 i hi (fun hr=>by
    have hd:dead i=false:=by
     have h:=hr
     simp [rb,List.getD,hi] at h
     exact h
    have his:=HH.out.2.2.2.2.2.2.1 i hi hd
    exact ⟨his,HH.out.2.2.2.2.2.1 i hi his⟩));rintro e4 w4 ⟨rfl,hb4⟩;have H4:=Aside0.mk (below_step (below_alloc H3.out.2.2 _) hb4);clear hb4))|(go_at_call 50;go_loud (refine ((HH.out.2.1.below (below_alloc H2.out.2 _)).live).mono ?_;rintro e3 w3 ⟨v3,rfl,hv3,hb3⟩;have hv3':=Bo.of_R hv3;obtain ⟨A3,c3,rfl⟩:=Kd.R_slice hv3;have hy:=below_step (below_alloc (Below.refl _ _) _) hb3;have h3:Sr w3 g n f/\w3.heap[w1.heap.size]?=some (.cells #[.slice (some ⟨g,0,none⟩) n c] 263 (0,0))/\w3.heap[w2.heap.size]?=some (.cells #[.int .i64 e0,.string (strOfNums l0)] 165 (0,0)):=⟨((H1.out.1.below (below_alloc (Below.refl _ _) _)).below H2.out.1).below hy,(hy.block _ (by have:=H2.out.1.size;simp at this;omega)).trans ((H2.out.1.block _ (by simp)).trans (heap_alloc_new w1 _)),(hb3.block _ (by simp)).trans (heap_alloc_new w2 _)⟩;obtain ⟨x0,x1,_,_⟩:=bx165 h3.2.2;have hl3:w2.heap.size < w3.heap.size:=blk_lt h3.2.2;have H3:=Aside0.mk (And.intro h3 (And.intro hv3' (below_step (below_alloc H2.out.2 _) hb3)));clear hb3 hv3 hv3' hy h3))|(go_at_call 165;go_loud (refine (HC.out _ _ _ (H1.out.1.below (below_alloc (Below.refl _ _) _))).mono ?_;rintro e2 w2 ⟨rfl,hb2⟩;rw [hbest];have H2:=Aside0.mk (And.intro hb2 (below_step H1.out.2.1 (below_step (below_alloc (Below.refl _ _) _) hb2)));clear hb2))|(go_at_call 164;go_loud (refine HA.out.mono ?_;rintro e1 w1 ⟨v1,rfl,hp1⟩;obtain ⟨g,c,rfl,hcc,hbg,hsr⟩:=Sr.of_own hp1.1 HH.out.1;have H1:=Aside0.mk (And.intro hsr (And.intro hp1.2 hbg));clear hsr hp1 hbg hcc)))
 go_ret2
 exact ⟨rfl,H4.out⟩
end Go.Proofs.YtmmcbncpnlknbaaGreat.Top
namespace Go.Proofs.YtmmcbncpnlknbaaGreat.Top
open Go Go.RowKit Go.Proofs.YtmmcbncpnlknbaaGreatW.PrintWords Go.Proofs.YtmmcbncpnlknbaaGreatW.PrintLast Go.Proofs.YtmmcbncpnlknbaaGreatW.PrintMore
theorem hdrw (w:World) (k:Nat):w.drew.heap[k]?=w.heap[k]? :=rfl
def dkN (K M:Nat) (st:Int) (i:Nat):Nat:=(((i:Int)+st) % ((K+M:Nat):Int)).toNat
def hasC (N i:Nat) (al:Nat->Bool):Array Value:=((List.range N).map (fun j=>Value.bool (decide (j < i) && al j))).toArray
def shR (i:Nat) (al:Nat->Bool) (rows:Nat->List Int) (j:Nat):List Int:=if (decide (j < i) && al j)=true then rows j else []
theorem Rwo.fresh {w:World} {base go N:Nat} {ow:Nat->Nat} {rows:Nat->List Int} (h:Rwo w base go N ow rows) (i:Nat):Rwo w base go N (owN ow w.heap.size i) rows:=by
 obtain ⟨vs,h1,h2⟩:=h.ex
 refine ⟨vs,h1,fun j hj=>Kd.R_mono (Kd.R_bound (h2 j hj)) (fun k hk=>?_)⟩
 show owN ow w.heap.size i k=j
 rw [owN,if_pos hk.2.2.1]
 exact hk.1
theorem Rwo.congr2 {w:World} {base go N:Nat} {ow:Nat->Nat} {rows rows':Nat->List Int} (h:Rwo w base go N ow rows) (he:∀ i,i < N->rows i=rows' i):Rwo w base go N ow rows':=by
 obtain ⟨vs,h1,h2⟩:=h.ex
 exact ⟨vs,h1,fun j hj=>by rw [<- he j hj];exact h2 j hj⟩
structure Lr (w wr:World) (a f:Nat) (K M Z T L O st ep:Int) (gh gs N i:Nat) (al:Nat->Bool) (rows:Nat->List Int):Prop where
 bx:Lh w wr a f K M Z T L O st ep
 hs:wr.heap[gh]?=some (.cells (hasC N i al) 4 (0,0))
 rs:∃ ow,ow gs=N+1/\Rwo wr w.heap.size gs N ow (shR i al rows)
 ge:w.heap.size < gh/\w.heap.size < gs/\gh≠gs
section
variable {w wr W:World} {a f:Nat} {K M Z T L O st ep:Int} {gh gs N i:Nat} {al:Nat->Bool} {rows:Nat->List Int}
theorem Lr.below (h:Lr w wr a f K M Z T L O st ep gh gs N i al rows) (hb:Below wr.heap.size wr W):Lr w W a f K M Z T L O st ep gh gs N i al rows:=by
 obtain ⟨ow,h1,h2⟩:=h.rs
 exact ⟨h.bx.step hb,(hb.block _ (blk_lt h.hs)).trans h.hs,⟨ow,h1,h2.below hb⟩,h.ge⟩
theorem Lr.skip (h:Lr w wr a f K M Z T L O st ep gh gs N i al rows) (ha:al i=false):Lr w wr a f K M Z T L O st ep gh gs N (i+1) al rows:=by
 have e:∀ j,(decide (j < i) && al j)=(decide (j < i+1) && al j):=fun j=>by
  by_cases hj:j=i
  ·subst hj;simp [ha]
  ·by_cases h1:j < i
   ·simp [h1,show j < i+1 by omega]
   ·simp [h1,show ¬ j < i+1 by omega]
 obtain ⟨ow,h1,h2⟩:=h.rs
 refine ⟨h.bx,?_,⟨ow,h1,h2.congr2 (fun j _=>by unfold shR;rw [e])⟩,h.ge⟩
 have:=h.hs
 unfold hasC at this ⊢
 simp only [<- e]
 exact this
theorem hasC_set (hi:i < N) (ha:al i=true):(hasC N i al).setIfInBounds i (.bool true)=hasC N (i+1) al:=by
 unfold hasC
 apply Array.ext'
 rw [Array.toList_setIfInBounds]
 simp only []
 apply List.ext_getElem
 ·simp
 ·intro j h1 h2
  simp only [List.getElem_set,List.getElem_map,List.getElem_range]
  by_cases hj:i=j
  ·subst hj;simp [ha]
  ·rw [if_neg hj]
   by_cases h1:j < i
   ·simp [h1,show j < i+1 by omega]
   ·simp [h1,show ¬ j < i+1 by omega]
theorem Lr.put (h:Lr w wr a f K M Z T L O st ep gh gs N i al rows) (hi:i < N) (ha:al i=true) (hb:Below wr.heap.size wr W) {u:Value} {W0:World} (hW0:wr.heap.size<=W0.heap.size) (hu:Kd.R (Kd.int .u8) 5 W W0.heap.size (fun _=>True) u (rows i)) :
  Lr w ((W.setCell ⟨gh,i,none⟩ (.bool true)).setCell ⟨gs,i,none⟩ u) a f K M Z T L O st ep gh gs N (i+1) al rows:=by
 obtain ⟨ow,h1,h2⟩:=h.rs
 obtain ⟨g1,g2,g3⟩:=h.ge
 obtain ⟨vs,hvs,_⟩:=h2.ex
 have hgsl:=blk_lt hvs
 have hghl:=blk_lt h.hs
 have hsz:=hb.size
 have r1:=(h2.fresh i).below hb
 have hs1:=(hb.block gh hghl).trans h.hs
 have key:∀ k,k≠gh->(W.setCell ⟨gh,i,none⟩ (.bool true)).heap[k]?=W.heap[k]? :=fun k hk=>Below.heap_setCell W _ _ k (by exact hk)
 have key2:∀ k,k≠gs->((W.setCell ⟨gh,i,none⟩ (.bool true)).setCell ⟨gs,i,none⟩ u).heap[k]?=(W.setCell ⟨gh,i,none⟩ (.bool true)).heap[k]? :=fun k hk=>Below.heap_setCell _ _ _ k (by exact hk)
 have hzz:(W.setCell ⟨gh,i,none⟩ (.bool true)).heap.size=W.heap.size:=by simp [World.setCell]
 have r2:=r1.step (key gs g3.symm) (fun k cells hk _ hc=>key k (fun e=>by
  rw [e,hs1] at hc
  injection hc with hc
  injection hc with _ hc
  cases hc))
 have r3:=r2.put (i:=i) hi (v:=.slice none 0 0) (v1:=u) (l:=rows i) (fun k hk=>by simp [Value.ownBlock] at hk) (by rw [owN,if_pos hgsl];exact h1) (w1:=W.setCell ⟨gh,i,none⟩ (.bool true)) (by exact ⟨rfl,rfl,rfl,Nat.le_refl _,fun _ _ _=>rfl⟩) (by
  have hu2:=Kd.R_lower (Kd.R_mono (Kd.R_bound (Kd.R_set (g:=gh) hu hs1 (by decide) i (.bool true))) (ok':=fun k=>owN (owN ow wr.heap.size i) (W.setCell ⟨gh,i,none⟩ (.bool true)).heap.size i k=i) (fun k hk=>by
   show owN (owN ow wr.heap.size i) (W.setCell ⟨gh,i,none⟩ (.bool true)).heap.size i k=i
   have h3:=hk.2.1
   unfold owN
   split
   ·rw [if_neg (by omega)]
   ·rfl)) (show w.heap.size<=W0.heap.size by have:=h.bx.2.size;omega)
  exact hu2)
 refine ⟨⟨?_,?_⟩,?_,⟨_,?_,r3.congr2 (fun j hj=>?_)⟩,h.ge⟩
 ·rw [key2 _ (by omega),key _ (by omega)]
  exact (h.bx.step hb).1
 ·exact below_grown2 (below_grown2 (h.bx.step hb).2 (grown_setCell W gh i (.bool true)) (by omega) (h.bx.step hb).2.size) (grown_setCell _ gs i u) (by omega) (by rw [hzz];exact (h.bx.step hb).2.size)
 ·rw [key2 _ g3]
  rw [setc hs1,hasC_set hi ha]
 ·rw [owN,if_pos (by rw [hzz];omega),owN,if_pos hgsl]
  exact h1
 ·unfold updF shR
  by_cases hj:j=i
  ·subst hj;simp [ha]
  ·rw [if_neg hj]
   by_cases h1:j < i
   ·simp [h1,show j < i+1 by omega]
   ·simp [h1,show ¬ j < i+1 by omega]
theorem Lr.slots (h:Lr w wr a f K M Z T L O st ep gh gs N i al rows) {j:Nat} (hj:j < N):∃ v,wr.cell? ⟨gh,j,none⟩=some v/\wr.frozen? ⟨gh,j,none⟩=false/\(∃ v2,wr.cell? ⟨gs,j,none⟩=some v2/\wr.frozen? ⟨gs,j,none⟩=false):=by
 obtain ⟨ow,h1,h2⟩:=h.rs
 obtain ⟨v,h3,h4,_⟩:=h2.get hj
 refine ⟨.bool (decide (j < i) && al j),?_,blk_frozen h.hs j,v,h3,h4⟩
 rw [blk_cell h.hs j]
 unfold hasC
 simp [hj]
theorem Lr.start (hb:Lh w wr a f K M Z T L O st ep) (h1:wr.heap[gh]?=some (.cells (madeCells #[.bool false] N) 4 (0,0))) (h2:wr.heap[gs]?=some (.cells (madeCells #[.slice none 0 0] N) 36 (0,0))) (hge:w.heap.size < gh/\w.heap.size < gs/\gh≠gs):Lr w wr a f K M Z T L O st ep gh gs N 0 al rows:=by
 refine ⟨hb,?_,⟨fun _=>N+1,rfl,⟨fun _=>.slice none 0 0,by rw [<- made_nil];exact h2,fun i hi=>?_⟩⟩,hge⟩
 ·have e:madeCells #[.bool false] N=hasC N 0 al:=by
   unfold hasC madeCells
   apply Array.ext'
   simp [Nat.mod_one,Array.toList_range]
  rw [<- e]
  exact h1
 ·simp only [shR,Nat.not_lt_zero,decide_false,Bool.false_and,if_neg Bool.false_ne_true]
  exact Kd.R_nil _ _ _ _ _
theorem Lr.has (h:Lr w wr a f K M Z T L O st ep gh gs N N al rows) (hN:N<=1000):Bo wr (.slice (some ⟨gh,0,none⟩) N N) ((List.range N).map al):=by
 have h2:=h.hs
 have e:hasC N N al=(((List.range N).map al).map Value.bool).toArray:=by
  unfold hasC
  congr 1
  rw [List.map_map]
  apply List.map_congr_left
  intro j hj
  have:j < N:=by simpa using hj
  simp [this]
 rw [e] at h2
 have ho:wr.ownsRow w.heap.size 4 1 (.slice (some ⟨gh,0,none⟩) N N) ((List.range N).map al).length (((List.range N).map al).map Value.bool):=by
  refine ⟨by simp,.inr ⟨gh,N,_,by simp,Nat.le_of_lt h.ge.1,h2,by simp,by simp only [maxLen];omega,by simp,?_⟩⟩
  rw [List.take_of_length_le (by simp)]
 exact Bo.of_R (Kd.R_of_own (h1:=fun _=>rfl) (by simpa [encs] using ho) (fun _ _=>trivial))
theorem Lr.shs (h:Lr w wr a f K M Z T L O st ep gh gs N N al rows) (hN:N<=1000):Rs wr (.slice (some ⟨gs,0,none⟩) N N) ((List.range N).map (fun j=>if al j=true then rows j else [])):=by
 obtain ⟨ow,h1,h2⟩:=h.rs
 exact (h2.congr2 (rows':=fun j=>if al j=true then rows j else []) (fun j hj=>by unfold shR;simp [hj])).rs hN
end
theorem contains0 (W:World) (i:Int):Calls Tryz.prog 86 #[.slice none 0 0,.int .i64 i] W fun e w'=>e=.returned (.bool false)/\Below W.heap.size W w':=by
 refine (PAll.slices_Contains_int_int.calls 1 none 0 [] i false W (Kd.C_nil _ _) (by simp) (by simp [PAll.slices_Contains_int_int.f,PAll.slices_Index_int_int.f,PAll.slices_Index_int_int.l0])).mono ?_
 rintro e w' ⟨h1,h2⟩
 exact ⟨h1,h2.below⟩
def ReadP (w w':World) (e:Ending) (er:Int) (P:World->Value->Prop):Prop :=
 ((er=0/\∃ v,e=.returned (.tuple #[v,.slice none 0 0,.int .i64 0])/\P w' v)∨(er≠0/\e=.returned (.tuple #[.slice none 0 0,.slice none 0 0,.int .i64 150])))/\Below w.heap.size w w'
attribute [local go_sem] cset_ne
set_option maxRecDepth 100000 in
set_option maxHeartbeats 2000000 in
theorem lread_core {K M Z:Nat} {T L O st ep:Int} {B Tk:Nat} {w:World} {a f:Nat} {S:Nat->Prop} {sec:Int} {dead:Nat->Bool} {E:Nat->Int->List Int} {cl:Bool} (hx:Ax B w a S sec (K+M) Tk dead E cl) (hg:LayA.Good K M Z T L O)
  (hn7:K+M<=7) (hs:0<=st/\st < T) (he:0<=ep/\ep<=2147483647) (hsec:5+L+st < sec) (rows:Nat->List Int)
  (hrow:∀ i,i < K+M->dead (dkN K M st i)=false->E (dkN K M st i) (5+L+st)=SecA.sect (5+L+st) ep (rows i)) (hb:∀ i,byteL (rows i)) (hl:∀ i,i < K+M->(rows i).length=Z) (hZ:Z<=4096)
  (er:Int) (P:World->Value->Prop) (hP:∀ W W' v,P W v->Below W.heap.size W W'->P W' v)
  (hSh:∀ W vh vs,Below w.heap.size w W->Bo W vh ((List.range (K+M)).map (fun i=>!dead (dkN K M st i)))->Rs W vs ((List.range (K+M)).map (fun i=>if (!dead (dkN K M st i))=true then rows i else []))->Calls Tryz.prog 152 #[.pointer (some ⟨f,0,none⟩),.int .i64 K,.int .i64 M,vh,vs] W fun e w'=>∃ v,e=.returned (.tuple #[v,.slice none 0 0,.int .i64 er])/\(er=0->P w' v)/\Below W.heap.size W w') :
  Calls Tryz.prog 128 #[lineV a f K M Z T L O st ep] w fun e w'=>ReadP w w' e er P:=by
 have hg':=hg
 unfold LayA.Good at hg'
 have hK1:1<=K:=by omega
 have HA:=Aside0.mk (fun W=>lat_ok (O:=O) (Z:=Z) (ep:=ep) a f hg hs W)
 have HD:=Aside0.mk (fun W (i:Nat) (hi:i < K+M)=>disk_ok (O:=O) (Z:=Z) (h:=i) hg hs ⟨by omega,by omega⟩ W)
 have HH:=Aside0.mk (And.intro hx (And.intro hg (And.intro hn7 (And.intro hs (And.intro he (And.intro hsec (And.intro hrow (And.intro hb (And.intro hl (And.intro hZ (And.intro hP (And.intro hSh hK1))))))))))))
 obtain ⟨N,hN⟩:∃ N,K+M=N:=⟨_,rfl⟩
 have hm1:=mk_run125 N (by omega)
 have hm2:=mk_run120 N (by omega)
 have gN:(K:Int)+M=(N:Int):=by omega
 have hN7:N<=7:=by omega
 have HN:=Aside0.mk hN
 clear hN
 unfold lineV lineC at HA ⊢
 unfold geoV at HD
 clear hx hg hn7 hs he hsec hrow hb hl hZ hP hSh hg' hK1
 go_enter Tryz.func128,Tryz.ntmps128
 go_wp2
 go_step3
 go_wp2
 go_cut [6,7] from 200 to 200 (fun x6 x7 wx=>∃ gh gs:Nat,x6=.slice (some ⟨gh,0,none⟩) N N/\x7=.slice (some ⟨gs,0,none⟩) N N/\Lr w wx a f K M Z T L O st ep gh gs N 0 (fun i=>!dead (dkN K M st i)) rows)
 case first =>
  go_region_law (fail)
  all_goals (
   go_wp2
   go_meet
   refine ⟨_,_,rfl,rfl,Lr.start ⟨?_,?_⟩ ?_ ?_ (by omega)⟩
   ·simp only [hdrw,hal,hsz]
    repeat (first|rw [if_pos trivial]|rw [if_pos (by omega)]|rw [if_neg (by omega)])
    rfl
   ·exact below_drew1 (below_alloc (below_alloc (below_alloc (Below.refl _ _) _) _) _)
   ·simp only [hdrw,hal,hsz]
    repeat (first|rw [if_pos trivial]|rw [if_pos (by omega)]|rw [if_neg (by omega)])
   ·simp only [hdrw,hal,hsz]
    repeat (first|rw [if_pos trivial]|rw [if_pos (by omega)]|rw [if_neg (by omega)]))
 case rest =>
  obtain ⟨gh,gs,rfl,rfl,hL⟩:=hcut
  have HL:=Aside0.mk hL
  clear hL
  go_wp2
  go_step3
  go_wp2
  go_loopg [32] N (fun kq x wr=>∃ i:Nat,x=.int .i64 i/\i+kq=N/\Aside0 (Lr w wr a f K M Z T L O st ep gh gs N i (fun i=>!dead (dkN K M st i)) rows))
  case atStart=>exact ⟨0,rfl,by omega,HL⟩
  case round =>
   obtain ⟨i,rfl,hik,HX⟩:=hrel
   by_cases hin:i < N
   ·have g1:(i:Int) < (N:Int):=by omega
    have g3:(0:Int)<=(i:Int):=by omega
    have hg':=HH.out.2.1
    unfold LayA.Good at hg'
    have hKM:=HN.out
    have hmod:=dk_mod (K:=K) (M:=M) i st HH.out.2.2.2.2.2.2.2.2.2.2.2.2
    have hmlt:=dk_lt (K:=K) (M:=M) i st HH.out.2.2.2.2.2.2.2.2.2.2.2.2
    have hrw:=HH.out.2.2.2.2.2.2.1 i (by omega)
    obtain ⟨d,hd⟩:∃ d,dkN K M st i=d:=⟨_,rfl⟩
    have hd':=hd
    unfold dkN at hd'
    rw [hd'] at hmod hmlt
    rw [hd] at hrw
    have HL0:=Aside0.mk (And.intro (HX.out.bx.step (below_drew1 (Below.refl wr.heap.size wr))) (below_drew1 (Below.refl wr.heap.size wr)))
    have hst:=HH.out.2.2.2.1
    have HDi:=Aside0.mk (fun W=>by have h:=HD.out W i (by omega);rw [hmod] at h;exact h)
    have HRd:=Aside0.mk (fun W (hW:Below w.heap.size w W)=>aread1 (HH.out.1.below hW) d hmlt (5+L+st) (by omega) HH.out.2.2.2.2.2.1)
    have HRW:=Aside0.mk (And.intro hrw hd)
    clear hg' hmod hst hmlt hKM hrw hd hd'
    have gw:wrap64 ((i:Int)+1)=(i:Int)+1:=w64 _ (by omega)
    cases hdd:dead d with
    | true =>
     rw [hdd] at HRd
     go_wp2
     go_region_held3 (fun W=>W.cell? ⟨w.heap.size,0,none⟩=some (.pointer (some ⟨a,0,none⟩))/\W.cell? ⟨w.heap.size,1,none⟩=some (.pointer (some ⟨f,0,none⟩))/\W.cell? ⟨w.heap.size,2,none⟩=some (.int .i64 K)/\W.cell? ⟨w.heap.size,3,none⟩=some (.int .i64 M)/\W.cell? ⟨w.heap.size,4,none⟩=some (.int .i64 Z)/\W.cell? ⟨w.heap.size,5,none⟩=some (.int .i64 T)/\W.cell? ⟨w.heap.size,6,none⟩=some (.int .i64 L)/\W.cell? ⟨w.heap.size,7,none⟩=some (.int .i64 O)/\W.cell? ⟨w.heap.size,8,none⟩=some (.int .i64 st)/\W.cell? ⟨w.heap.size,9,none⟩=some (.int .i64 ep)/\Below w.heap.size w W) (first|exact HL3.out.1.all|exact HL2.out.1.all|exact HL1.out.1.all|exact HL0.out.1.all) (first|(go_at_call 135;go_loud (refine (HRd.out _ HL2.out.1.2).mono ?_;rintro e3 w3 ⟨v3,rfl,hv3,hb3⟩;have HL3:=Aside0.mk (And.intro (HL2.out.1.step hb3) (below_step HL2.out.2 hb3));clear hb3 hv3))|(go_at_call 148;go_loud (refine (HA.out _).mono ?_;rintro e2 w2 ⟨rfl,hb2⟩;have HL2:=Aside0.mk (And.intro (HL1.out.1.step hb2) (below_step HL1.out.2 hb2));clear hb2))|(go_at_call 149;go_loud (refine (HDi.out _).mono ?_;rintro e1 w1 ⟨rfl,hb1⟩;have HL1:=Aside0.mk (And.intro (HL0.out.1.step hb1) (below_step HL0.out.2 hb1));clear hb1)))
     go_wp2
     go_roundg (N - (i+1))
     case measure=>exact meas5 hin hik
     case rel=>exact ⟨i+1,by simp,meas4 hin,⟨(HX.out.below HL3.out.2).skip (by rw [HRW.out.2,hdd];rfl)⟩⟩
    | false =>
     rw [hdd] at HRd
     have hrd:rdL dead E (5+L+st) d=SecA.sect (5+L+st) ep (rows i):=by
      unfold rdL
      rw [hdd]
      exact HRW.out.1 hdd
     have hsl:=SecA.sect_len (5+L+st) ep (rows i)
     have hli:=HH.out.2.2.2.2.2.2.2.2.1 i (by have:=HN.out;omega)
     have hgg:=HH.out.2.1
     unfold LayA.Good at hgg
     have hmy:SecA.May (5+L+st) ep (rows i):=⟨⟨by have:=HH.out.2.2.2.1;omega,by have:=HH.out.2.2.2.1;omega⟩,HH.out.2.2.2.2.1,by have:=HH.out.2.2.2.2.2.2.2.2.2.1;omega⟩
     have hun:=fun (W:World) (u:Value) (hu:Bs W u (SecA.sect (5+L+st) ep (rows i)))=>unpack_ok (w:=W) (5+L+st) (SecA.sect_bytes _ _ (HH.out.2.2.2.2.2.2.2.1 i)) (by have:=hmy.2.2;omega) hu
     rw [SecA.back hmy] at hun
     have HU:=Aside0.mk hun
     clear hun hmy hgg hsl
     obtain ⟨_,_,hne⟩:=HX.out.ge
     have hne2:=hne.symm
     go_wp2
     go_region_held3 (fun W=>W.cell? ⟨w.heap.size,0,none⟩=some (.pointer (some ⟨a,0,none⟩))/\W.cell? ⟨w.heap.size,1,none⟩=some (.pointer (some ⟨f,0,none⟩))/\W.cell? ⟨w.heap.size,2,none⟩=some (.int .i64 K)/\W.cell? ⟨w.heap.size,3,none⟩=some (.int .i64 M)/\W.cell? ⟨w.heap.size,4,none⟩=some (.int .i64 Z)/\W.cell? ⟨w.heap.size,5,none⟩=some (.int .i64 T)/\W.cell? ⟨w.heap.size,6,none⟩=some (.int .i64 L)/\W.cell? ⟨w.heap.size,7,none⟩=some (.int .i64 O)/\W.cell? ⟨w.heap.size,8,none⟩=some (.int .i64 st)/\W.cell? ⟨w.heap.size,9,none⟩=some (.int .i64 ep)/\Below w.heap.size w W) (first|exact HL3.out.1.all|exact HL2.out.1.all|exact HL1.out.1.all|exact HL0.out.1.all) (first|(go_at_call 135;go_loud (refine (HRd.out _ HL2.out.1.2).mono ?_;rintro e3 w3 ⟨v3,rfl,hv3,hb3⟩;rw [hrd] at hv3;obtain ⟨A3,c3,hv3e,hc3,hC3⟩:=hv3;subst hv3e;have h3:=HL2.out.1.step hb3;obtain ⟨z0,z1,z2,z3,z4,z5,z6,z7,z8,z9⟩:=ln_cells h3.1;have HL3:=Aside0.mk (And.intro h3 (And.intro (below_step HL2.out.2 hb3) (show Bs w3 _ (SecA.sect (5+L+st) ep (rows i)) from ⟨A3,c3,rfl,hc3,hC3⟩)));clear hb3 hc3 hC3 h3))|(go_at_call 148;go_loud (refine (HA.out _).mono ?_;rintro e2 w2 ⟨rfl,hb2⟩;have HL2:=Aside0.mk (And.intro (HL1.out.1.step hb2) (below_step HL1.out.2 hb2));clear hb2))|(go_at_call 149;go_loud (refine (HDi.out _).mono ?_;rintro e1 w1 ⟨rfl,hb1⟩;have HL1:=Aside0.mk (And.intro (HL0.out.1.step hb1) (below_step HL0.out.2 hb1));clear hb1)))
     go_wp2_with (first|(go_at_call 151;go_loud (refine (HU.out _ _ (HL3.out.2.2.below H4.out)).mono ?_;rintro e5 w5 ⟨u5,rfl,hu5,hb5⟩;obtain ⟨A5,c5,rfl⟩:=Kd.R_slice hu5;rw [hli];have hb35:=below_step H4.out hb5;have h5:=HL3.out.1.step hb35;obtain ⟨y0,y1,y2,y3,y4,y5,y6,y7,y8,y9⟩:=ln_cells h5.1;have hL5:=HX.out.below (below_step HL3.out.2.1 hb35);obtain ⟨q1,p1,p2,q2,p3,p4⟩:=hL5.slots hin;have H5:=Aside0.mk (And.intro hu5 (And.intro hb35 H4.out.size));clear hu5 hb5 hb35 h5 hL5))|(go_at_call 148;go_loud (refine (HA.out _).mono ?_;rintro e4 w4 ⟨rfl,hb4⟩;have H4:=Aside0.mk hb4;clear hb4)))
     go_roundg (N - (i+1))
     case measure=>exact meas5 hin hik
     case rel =>
      have hu5:=H5.out.1
      rw [hli] at hu5
      have hput:=HX.out.put hin (by rw [HRW.out.2,hdd];rfl) (below_step HL3.out.2.1 H5.out.2.1) (Nat.le_trans HL3.out.2.1.size H5.out.2.2) hu5
      exact ⟨i+1,by simp,meas4 hin,⟨hput⟩⟩
   ·have g1:¬ (i:Int) < (N:Int):=by omega
    have e1:i=N:=by omega
    subst e1
    obtain ⟨z0,z1,z2,z3,z4,z5,z6,z7,z8,z9⟩:=ln_cells HX.out.bx.1
    have hKM:=HN.out
    have hsh:=HH.out.2.2.2.2.2.2.2.2.2.2.2.1 wr _ _ HX.out.bx.2 (by rw [hKM];exact HX.out.has (by omega)) (by rw [hKM];exact HX.out.shs (by omega))
    have HS:=Aside0.mk hsh
    clear hsh hKM
    by_cases her:er=0
    ·subst her
     go_wp2_with (first|(go_at_call 50;go_loud (refine ((HH.out.1.below H1.out.2.2.2).live).mono ?_;rintro e2 w2 ⟨v2,rfl,hv2,hb2⟩;obtain ⟨A2,c2,hv2e,hc2,hC2⟩:=Bo.of_R hv2;subst hv2e;have H2:=Aside0.mk (And.intro hC2 hb2);rw [List.length_map,List.length_range,HN.out];clear hv2 hb2 hc2 hC2))|(go_at_call 152;go_loud (refine HS.out.mono ?_;rintro e1 w1 ⟨v1,rfl,hv1,hb1⟩;have h1:=HX.out.bx.step hb1;obtain ⟨y0,y1,y2,y3,y4,y5,y6,y7,y8,y9⟩:=ln_cells h1.1;have H1:=Aside0.mk (And.intro hv1 (And.intro hb1 h1));clear hv1 hb1 h1)))
     have hal:∀ j,j < i->rb ((List.range (K+M)).map (fun q=>!dead q)) j=!dead j:=fun j hj=>rb_map _ (by rw [HN.out];exact hj)
     have HL2:=Aside0.mk (And.intro ((HX.out.below H1.out.2.1).below H2.out.2) (And.intro H2.out.1 (HH.out.2.2.2.2.2.2.2.2.2.2.1 _ _ _ (H1.out.1 trivial) H2.out.2)))
     have HAL:=Aside0.mk hal
     clear hal
     go_loopg [108,17] i (fun kq x y wq=>∃ j:Nat,x=.int .i64 j/\y=.slice none 0 0/\j+kq=i/\Aside0 (Lr w wq a f K M Z T L O st ep gh gs i i (fun i=>!dead (dkN K M st i)) rows/\Kd.bool.C wq A2 ((List.range (K+M)).map (fun q=>!dead q)).length ((List.range (K+M)).map (fun q=>!dead q))/\P wq v1))
     case atStart=>exact ⟨0,rfl,rfl,by omega,HL2⟩
     case round =>
      obtain ⟨j,rfl,rfl,hjk,HY⟩:=hrel
      by_cases hjn:j < i
      ·have g4:(j:Int) < (i:Int):=by omega
       have g5:(0:Int)<=(j:Int):=by omega
       have hKM:=HN.out
       have hmod:=dk_mod (K:=K) (M:=M) j st HH.out.2.2.2.2.2.2.2.2.2.2.2.2
       have hmlt:=dk_lt (K:=K) (M:=M) j st HH.out.2.2.2.2.2.2.2.2.2.2.2.2
       obtain ⟨d,hd⟩:∃ d,dkN K M st j=d:=⟨_,rfl⟩
       have hd':=hd
       unfold dkN at hd'
       rw [hd'] at hmod hmlt
       have hdi:d < i:=by omega
       have HDi:=Aside0.mk (fun W=>by have h:=HD.out W j (by omega);rw [hmod] at h;exact h)
       obtain ⟨ak,rfl,hck⟩:=Bo.at HY.out.2.1 d (by simp;omega)
       rw [HAL.out d hdi] at hck
       have hch:wr.cell? ⟨gh,j,none⟩=some (.bool (!dead d)):=by
        rw [blk_cell HY.out.1.hs j]
        unfold hasC
        simp [hjn,hd]
       have g6:(d:Int) < (i:Int):=by omega
       have g7:(0:Int)<=(d:Int):=by omega
       have gw:wrap64 ((j:Int)+1)=(j:Int)+1:=w64 _ (by omega)
       obtain ⟨y0,y1,y2,y3,y4,y5,y6,y7,y8,y9⟩:=ln_cells HY.out.1.bx.1
       clear hmod hmlt hKM hd hd' hdi
       cases hdd:dead d with
       | true =>
        rw [hdd] at hck hch
        go_wp2_with (first|(go_at_call 86;go_loud (refine (contains0 _ _).mono ?_;rintro e4 w4 ⟨rfl,hb4⟩;have H4:=Aside0.mk (below_step H3.out hb4);clear hb4))|(go_at_call 149;go_loud (refine (HDi.out _).mono ?_;rintro e3 w3 ⟨rfl,hb3⟩;have H3:=Aside0.mk hb3;have hch3:=cell_of hb3 hch;have hck3:w3.cell? (ak.add d)=some (.bool false):=cell_of hb3 hck;clear hb3)))
        go_roundg (i - (j+1))
        case measure=>exact meas5 hjn hjk
        case rel=>exact ⟨j+1,by simp,rfl,meas4 hjn,⟨HY.out.1.below H3.out,Kd.C_below HY.out.2.1 H3.out,HH.out.2.2.2.2.2.2.2.2.2.2.1 _ _ _ HY.out.2.2 H3.out⟩⟩
       | false =>
        rw [hdd] at hck hch
        go_wp2_with (first|(go_at_call 86;go_loud (refine (contains0 _ _).mono ?_;rintro e4 w4 ⟨rfl,hb4⟩;have H4:=Aside0.mk (below_step H3.out hb4);clear hb4))|(go_at_call 149;go_loud (refine (HDi.out _).mono ?_;rintro e3 w3 ⟨rfl,hb3⟩;have H3:=Aside0.mk hb3;have hch3:=cell_of hb3 hch;have hck3:w3.cell? (ak.add d)=some (.bool true):=cell_of hb3 hck;clear hb3)))
        go_roundg (i - (j+1))
        case measure=>exact meas5 hjn hjk
        case rel=>exact ⟨j+1,by simp,rfl,meas4 hjn,⟨HY.out.1.below H4.out,Kd.C_below HY.out.2.1 H4.out,HH.out.2.2.2.2.2.2.2.2.2.2.1 _ _ _ HY.out.2.2 H4.out⟩⟩
      ·have g4:¬ (j:Int) < (i:Int):=by omega
       go_wp2
       go_ret3
       exact ⟨.inl ⟨rfl,_,rfl,HY.out.2.2⟩,HY.out.1.bx.2⟩
    ·have her2:(er == 0)=false:=by simp [her]
     go_wp2_with (first|(go_at_call 152;go_loud (refine HS.out.mono ?_;rintro e1 w1 ⟨v1,rfl,hv1,hb1⟩;have h1:=HX.out.bx.step hb1;obtain ⟨y0,y1,y2,y3,y4,y5,y6,y7,y8,y9⟩:=ln_cells h1.1;have H1:=Aside0.mk (And.intro hv1 (And.intro hb1 h1));clear hv1 hb1 h1)))
     rw [Exit.noGoto_ret]
     go_ret3
     exact ⟨.inr ⟨her,rfl⟩,H1.out.2.2.2⟩
end Go.Proofs.YtmmcbncpnlknbaaGreat.Top
