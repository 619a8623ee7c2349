import Derived.Test.YtmmcbncpnlknbaaGreatF26
set_option linter.unusedVariables false
set_option linter.unusedSimpArgs false
namespace Go.Proofs.YtmmcbncpnlknbaaGreat.Top
open Go Go.RowKit Go.Proofs.YtmmcbncpnlknbaaGreatW.PrintWords Go.Proofs.YtmmcbncpnlknbaaGreatW.PrintLast Go.Proofs.YtmmcbncpnlknbaaGreatW.PrintMore
theorem rnum {w0 w:World} {g:Nat} {v:Value} {l l':List Int} {n k:Int} (hB:Below w0.heap.size w0 w) (hg:g < w.heap.size) (h:Kd.R (Kd.int .u8) 5 w w0.heap.size (fun k=>k≠g) v l) (he:Ev (fun q=>PAll.record_number.f q l n k) l') :
  Calls Tryz.prog 80 #[v,.int .i64 n,.int .i64 k] w fun e w'=>∃ u,e=.returned u/\Kd.R (Kd.int .u8) 5 w' w0.heap.size (fun k=>k≠g) u l'/\Below w0.heap.size w0 w'/\w'.heap[g]?=w.heap[g]? :=by
 obtain ⟨q,hq⟩:=he
 refine (PAll.record_number.calls q (fun k=>k≠g) v l n k l' w0 w hB h (hq q (Nat.le_refl _))).mono ?_
 rintro e w' ⟨u,rfl,h1,h2,h3⟩
 exact ⟨u,rfl,Kd.R_mono h1 (fun k hk=>hk.elim id (fun hk2=>by omega)),h2,h3.2 g hg (fun hn=>hn rfl)⟩
structure Eb (w0 W:World) (g:Nat) (u:Value) (l:List Int) (kd:Int) (key:ByteArray) (len:Int) (A:Option Addr) (n c:Nat):Prop where
 box:W.heap[g]?=some (.cells (recC kd key len A n c) 160 (0,0))
 row:Kd.R (Kd.int .u8) 5 W w0.heap.size (fun k=>k≠g) u l
 bl:Below w0.heap.size w0 W
theorem Eb.app {w0 W W1:World} {g:Nat} {v v1:Value} {m:Nat} {xs:List Value} {l1:List Int} {kd:Int} {key:ByteArray} {len:Int} {A:Option Addr} {n c:Nat} (hbx:W.heap[g]?=some (.cells (recC kd key len A n c) 160 (0,0))) (hb:Below w0.heap.size w0 W) (hown:W.ownsRow w0.heap.size 5 1 v m xs) (hgr:W.grownBy W1 v.ownBlock) (hown1:W1.ownsRow w0.heap.size 5 1 v1 l1.length (l1.map (Value.int .u8))):Eb w0 W1 g v1 l1 kd key len A n c:=by
 have hne:some g≠v.ownBlock:=fun e=>by
  obtain ⟨cells,h⟩:=own_typed hown g e.symm
  rw [hbx] at h
  cases h
 have hbx1:=(hgr.block g (blk_lt hbx) hne).trans hbx
 refine ⟨hbx1,Kd.R_of_own (h1:=fun _=>rfl) (by simpa [encs] using hown1) (fun k hk e=>?_),below_of_gs (Q:=fun k=>v.ownBlock=some k) hb (Gs.of_grown hgr (fun k hk _=>hk)) (fun k hk=>own_base hown k hk)⟩
 subst e
 obtain ⟨cells,h⟩:=own_typed hown1 k hk
 rw [hbx1] at h
 cases h
theorem Eb.own {w0 W:World} {g:Nat} {u:Value} {l:List Int} {kd:Int} {key:ByteArray} {len:Int} {A:Option Addr} {n c:Nat} (h:Eb w0 W g u l kd key len A n c):W.ownsRow w0.heap.size 5 1 u l.length (l.map (Value.int .u8)):=by simpa [encs] using Kd.own_of_R h.row
theorem bytes_map (l:List Int) (s:ByteArray):(l ++ bytesOf s).map (Value.int .u8)=l.map (Value.int .u8) ++ Lib.strCells s:=by
 rw [List.map_append]
 congr 1
 simp [bytesOf,Lib.strCells]
theorem info5:(Tryz.prog.info? 5).map (fun i=>(i.zero,i.size,i.bytes))=some (some (.int .u8 0),1,1):=by kernel_rfl
theorem two_new {W:World} {g:Nat} (hg:g=W.heap.size) (a b:Value) (ty:TypeId):∀ j u,[a,b][j]?=some u->(W.alloc (.cells #[a,b] ty)).cell? ((⟨g,0,none⟩:Addr).add j)=some u:=by
 subst hg
 intro j u h
 have h9:=heap_alloc_new W (Obj.cells #[a,b] ty)
 rw [add_plain]
 unfold World.cell?
 simp only [h9]
 simpa using h
set_option maxRecDepth 100000 in
set_option maxHeartbeats 2000000 in
theorem encoded_ok {w0 w:World} {v:Value} {l:List Int} (hB:Below w0.heap.size w0 w) (hR:Kd.R (Kd.int .u8) 5 w w0.heap.size (fun _=>True) v l) (kd:Int) (key:ByteArray) (len:Int) {st:List Int} {A:Option Addr} {c:Nat} (hA:Rt w0 A st) (hc:st.length<=c)
  (hs:st.length<=256) (hk:key.size<=64) (hl:l.length<=100000) :
  Calls Tryz.prog 81 #[v,.agg #[.int .i64 kd,.string key,.int .i64 len,.slice A st.length c]] w fun e w'=>∃ u,e=.returned u/\Kd.R (Kd.int .u8) 5 w' w0.heap.size (fun _=>True) u (l ++ RecB.encL kd key len st)/\Below w0.heap.size w0 w':=by
 obtain ⟨A9,c9,rfl⟩:=Kd.R_slice hR
 obtain ⟨i0,hi,hz0,hz1,hz2⟩:=info_parts info5
 have HI:=Aside0.mk hi
 have hbs:=hB.size
 have HO:Aside0 (∀ a b:Obj,((w.alloc a).alloc b).ownsRow w0.heap.size 5 1 (.slice A9 l.length c9) l.length (l.map (Value.int .u8))):=⟨fun a b=>own_move (by simpa [encs] using Kd.own_of_R hR) (fun k hk=>(below_alloc (below_alloc (Below.refl _ _) a) b).block k (own_lt (Kd.own_of_R hR) k hk))⟩
 have HH:=Aside0.mk (And.intro hB (And.intro hR (And.intro hA (And.intro hc (And.intro hs (And.intro hk hl))))))
 clear hB hR hA hc hi
 go_enter Tryz.func81,Tryz.ntmps81
 go_wp2_with (first|(go_at_call 80;go_loud (first|(refine (rnum H3.out.bl (blk_lt H3.out.box) H3.out.row (RecB.num2 _ _ ?_)).mono ?_;(simp only [List.length_append,List.length_cons,List.length_nil,bytesOf_length,RecB.four_len];omega);rintro e4 w4 ⟨u4,rfl,hR4,hb4,hg4⟩;have H4:Aside0 (Eb w0 w4 w.heap.size u4 _ kd key len A st.length c):=⟨⟨hg4.trans H3.out.box,hR4,hb4⟩⟩;obtain ⟨s0,s1,s2,s3⟩:=rec_cells H4.out.box;clear hR4 hb4 hg4)|(refine (rnum H2.out.bl (blk_lt H2.out.box) H2.out.row (RecB.num4 _ _ ?_)).mono ?_;(simp only [List.length_append,List.length_cons,List.length_nil,bytesOf_length];omega);rintro e3 w3 ⟨u3,rfl,hR3,hb3,hg3⟩;have H3:Aside0 (Eb w0 w3 w.heap.size u3 _ kd key len A st.length c):=⟨⟨hg3.trans H2.out.box,hR3,hb3⟩⟩;obtain ⟨r0,r1,r2,r3⟩:=rec_cells H3.out.box;clear hR3 hb3 hg3)))|(at_builtin;go_loud (refine Lib.wpList_append_own_string _ rfl _ _ 36 9 rfl w0.heap.size 5 i0 Tryz.underlying36 Tryz.underlying9 HI.out hz0 hz1 hz2 _ _ _ rfl H1.out.own key rfl (by simp only [maxLen];simp;omega) (by simp;omega) H1.out.bl.size ?_;intro v2 w2 hown2 hgrow2 _;have H2:=Aside0.mk (Eb.app (l1:=(l ++ [kd % 256,(key.size:Int)]) ++ bytesOf key) H1.out.box H1.out.bl H1.out.own hgrow2 (by rw [bytes_map,List.length_append,bytesOf_length];exact hown2));obtain ⟨p0,p1,p2,p3⟩:=rec_cells H2.out.box;clear hown2 hgrow2))|(at_builtin;go_loud (refine wpList_append_own _ rfl _ _ 36 rfl w0.heap.size 5 i0 (.int .u8 0) 1 1 Tryz.underlying36 HI.out hz0 hz1 hz2 rfl (by decide) _ _ _ rfl (HO.out _ _) ⟨w.heap.size+1,0,none⟩ 2 2 _ rfl rfl (two_new (hsz _ _).symm _ _ _) (by simp [Value.oneCell']) (by simp only [maxLen];omega) (by omega) (by simp;omega) ?_;intro v1 w1 hown1 hgrow1 _;have H1:=Aside0.mk (Eb.app (l1:=l ++ [kd % 256,(key.size:Int)]) (two0 w _ _) (below_alloc (below_alloc HH.out.1 _) _) (HO.out _ _) hgrow1 (by simpa using hown1));obtain ⟨q0,q1,q2,q3⟩:=rec_cells H1.out.box;clear hown1 hgrow1)))
 have hst:(256:Int)*1 ≥ st.length:=by omega
 go_loopg [0,33] st.length (fun kq x0 x33 wr=>∃ i:Nat,x33=.int .i64 i/\i+kq=st.length/\Aside0 (Eb w0 wr w.heap.size x0 ((((l ++ [kd % 256,(key.size:Int)]) ++ bytesOf key) ++ RecB.four len) ++ RecB.two st.length ++ RecB.pairs (st.take i)) kd key len A st.length c))
 case atStart=>exact ⟨0,rfl,by omega,⟨by simpa [RecB.pairs] using H4.out⟩⟩
 case round =>
  obtain ⟨i,rfl,hik,HX⟩:=hrel
  by_cases hin:i < st.length
  ·have f1:(i:Int) < (st.length:Int):=by omega
   have f2:(0:Int)<=(i:Int):=by omega
   obtain ⟨a,hA2,hcl⟩:=(Rw.of_C (HH.out.2.2.1.gs (Gs.of_below (S:=fun _=>False) HX.out.bl) (fun _ hk=>hk.elim)).1).at_ i hin
   subst hA2
   obtain ⟨xv,hxv⟩:∃ xv,st.getD i 0=xv:=⟨_,rfl⟩
   rw [hxv] at hcl
   have HV:=Aside0.mk hxv
   clear hxv
   have gw:wrap64 ((i:Int)+1)=(i:Int)+1:=w64 _ (by omega)
   go_wp2_with (go_at_call 80;go_loud (refine (rnum HX.out.bl (blk_lt HX.out.box) HX.out.row (RecB.num2 _ _ ?_)).mono ?_;(simp only [List.length_append,List.length_cons,List.length_nil,bytesOf_length,RecB.four_len,RecB.two_len,RecB.pairs_len,List.length_take];omega);rintro e5 w5 ⟨u5,rfl,hR5,hb5,hg5⟩;have H5:Aside0 (Eb w0 w5 w.heap.size u5 _ kd key len _ st.length c):=⟨⟨hg5.trans HX.out.box,hR5,hb5⟩⟩;clear hR5 hb5 hg5))
   go_roundg (st.length - (i+1))
   case measure=>exact meas5 hin hik
   case rel =>
    refine ⟨i+1,by simp [gw],meas4 hin,⟨?_⟩⟩
    have e3:RecB.pairs (st.take (i+1))=RecB.pairs (st.take i) ++ RecB.two xv:=by
     rw [List.take_add_one,List.getElem?_eq_getElem hin,show st[i]=xv from by rw [<- HV.out,List.getD_eq_getElem?_getD,List.getElem?_eq_getElem hin,Option.getD_some]]
     simp [RecB.pairs]
    rw [e3,<- List.append_assoc]
    exact H5.out
  ·have f1:¬ (i:Int) < (st.length:Int):=by omega
   have e0:i=st.length:=by omega
   have HE:=Aside0.mk e0
   clear e0
   go_wp2
   go_ret
   refine ⟨_,rfl,?_,HX.out.bl⟩
   have h9:=Kd.R_mono HX.out.row (ok':=fun _=>True) (fun _ _=>trivial)
   rw [HE.out,List.take_length] at h9
   have e9:l ++ RecB.encL kd key len st=(((l ++ [kd % 256,(key.size:Int)]) ++ bytesOf key) ++ RecB.four len) ++ RecB.two st.length ++ RecB.pairs st:=by
    unfold RecB.encL
    rw [show (key.size:Int) % 256=key.size from by omega]
    simp only [List.append_assoc]
   rw [e9]
   exact h9
theorem results_160 {fn:Func} {p:Tmp} (h:fn.results=#[.cell p 160]) (tmps:Array Value) (w:World) (g:Nat) (cs:Array Value)
  (hp:tmps.getD p undef=.pointer (some ⟨g,0,none⟩)) (hg:w.heap[g]?=some (.cells cs 160 (0,0))) (hi:(Tryz.prog.info? 160).map (·.size)=some cs.size) :
  (results fn tmps).run Tryz.prog w=.ok (.agg cs) w:=by
 have hp':tmps[p]?.getD undef=.pointer (some ⟨g,0,none⟩):=by simpa using hp
 simp [results,h,hp',asAddr,run_loadVar_row w g 160 160 cs (0,0) _ hg Tryz.underlying160 rfl hi]
set_option maxRecDepth 100000 in
set_option maxHeartbeats 2000000 in
theorem rencode_ok {kd:Int} {key:ByteArray} {len:Int} {st:List Int} (hok:RecA.Ok kd key len st) {A:Option Addr} {c:Nat} (w:World) (hA:Rt w A st) (hc:st.length<=c) :
  Calls Tryz.prog 150 #[.agg #[.int .i64 kd,.string key,.int .i64 len,.slice A st.length c]] w fun e w'=>∃ u,e=.returned (.tuple #[u,.int .i64 0])/\Kd.R (Kd.int .u8) 5 w' w.heap.size (fun _=>True) u (RecB.encL kd key len st)/\Below w.heap.size w w':=by
 have hok':=hok
 unfold RecA.Ok at hok'
 have HB:=Aside0.mk (Below.refl w.heap.size w)
 have HC:=Aside0.mk (fun (W:World) (hb:Below w.heap.size w W)=>rcheck hok (hA.gs (Gs.of_below (S:=fun _=>False) hb) (fun _ hk=>hk.elim)) hc)
 have HE:=Aside0.mk (fun (W:World) (hb:Below w.heap.size w W)=>encoded_ok (w0:=w) (w:=W) hb (Kd.R_nil (Kd.int .u8) 5 W w.heap.size (fun _=>True)) kd key len hA hc hok'.2.2.2.1 hok'.2.1.2 (by simp))
 clear hok hok' hA hc
 simp only [List.nil_append] at HE
 go_enter Tryz.func150,Tryz.ntmps150
 go_wp2_with (first|(go_at_call 81;go_loud (refine (HE.out _ H1.out).mono ?_;rintro e2 w2 ⟨u2,rfl,hR2,hb2⟩;have H2:=Aside0.mk (And.intro hR2 hb2);clear hR2 hb2))|(go_at_call 85;go_loud (refine (HC.out _ (below_alloc HB.out _)).mono ?_;rintro e1 w1 ⟨rfl,hb1⟩;obtain ⟨q0,q1,q2,q3⟩:=rec_cells ((hb1.block _ (by simp)).trans (heap_alloc_new w (Obj.cells (recC kd key len A st.length c) 160)));have H1:=Aside0.mk (below_step (below_alloc HB.out _) hb1);clear hb1)))
 go_ret2
 exact ⟨_,rfl,H2.out.1,H2.out.2⟩
set_option maxRecDepth 100000 in
set_option maxHeartbeats 2000000 in
theorem rput_ok (key:ByteArray) (len ep:Int) (A:Option Addr) (n c:Nat) (w:World) :
  Calls Tryz.prog 82 #[.agg #[.string key,.int .i64 len,.int .i64 ep,.slice A n c]] w fun e w'=>e=.returned (.agg #[.int .i64 1,.string key,.int .i64 len,.slice A n c])/\Below w.heap.size w w':=by
 have HB:=Aside0.mk (Below.refl w.heap.size w)
 go_enter Tryz.func82,Tryz.ntmps82
 go_wp2
 exact bodyPost_ret (results_160 rfl _ _ (w.heap.size+1) (recC 1 key len A n c) rfl (two1 w _ _) (by kernel_rfl)) rfl ⟨rfl,below_alloc (below_alloc HB.out _) _⟩
theorem bytesL {l:List Int} (h:RecB.Bytes l):byteL l:=h
set_option maxRecDepth 100000 in
set_option maxHeartbeats 2000000 in
theorem append_ok {B n Tk a:Nat} {w:World} {S:Nat->Prop} {sec:Int} {dead:Nat->Bool} {E:Nat->Int->List Int} {cl:Bool} {K M Z T L O:Int} (hx:Ax B w a S sec n Tk dead E cl) (hd:∀ i,i < n->dead i=false) (hT:Tk+n<=1000000) (hn0:0 < n) (hg:LayA.Good K M Z T L O) {bs ct:Int} (hb:0<=bs/\bs<=1000) (hc:0<=ct/\ct < L) (hsec:5+ct < sec)
  {kd:Int} {key:ByteArray} {len:Int} {st:List Int} (hok:RecA.Ok kd key len st) {A:Option Addr} {c:Nat} (hA:Rt w A st) (hcc:st.length<=c) :
  Calls Tryz.prog 127 #[.pointer (some ⟨a,0,none⟩),geoV K M Z T L O,.int .i64 bs,.int .i64 ct,.agg #[.int .i64 kd,.string key,.int .i64 len,.slice A st.length c]] w fun e w'=>e=.returned (.int .i64 0)/\Ax B w' a S sec n (Tk+n) dead (allE E (5+ct) (SecA.sect (5+ct) (bs+ct+1) (RecB.encL kd key len st)) n) true/\Gs S w w':=by
 have hg':=hg
 unfold LayA.Good at hg'
 have hok':=hok
 unfold RecA.Ok at hok'
 have hmay:SecA.May (5+ct) (bs+ct+1) (RecB.encL kd key len st):=by
  have:=RecB.enc_len kd key len st
  unfold SecA.May
  refine ⟨?_,?_,?_⟩ <;> first|omega|(constructor <;> omega)
 have H0:=Aside0.mk (show Gb w ((w.alloc (.cells (geoC K M Z T L O) 23)).alloc (.cells (recC kd key len A st.length c) 160)) w.heap.size K M Z T L O from ⟨two0 w _ _,below_alloc (below_alloc (Below.refl w.heap.size w) _) _⟩)
 have HE:=Aside0.mk (fun (W:World) (hb:Below w.heap.size w W)=>rencode_ok hok W (hA.gs (Gs.of_below (S:=fun _=>False) hb) (fun _ hk=>hk.elim)) hcc)
 have HM:=Aside0.mk (fun W=>mcheck_ok a hg W)
 have HS:=Aside0.mk (fun W=>slot_ok hg hc W)
 have HW:=Aside0.mk (fun (W:World) (hb:Below w.heap.size w W) (v:Value) (hv:Bs W v (RecB.encL kd key len st))=>vwrite_ok (hx.below hb) hd hT (5+ct) (bs+ct+1) hsec hmay (bytesL (RecB.enc_bytes _ _ _ _)) hv)
 have HD:=Aside0.mk hd
 have g1:(0:Int)<=bs:=hb.1
 have g2:(0:Int)<=ct:=hc.1
 have g3:bs<=2147483547:=by omega
 have g4:ct < L:=hc.2
 have g5:(0:Int) < (n:Int):=by omega
 have gw1:wrap64 (bs+ct)=bs+ct:=w64 _ (by omega)
 have gw2:wrap64 (bs+ct+1)=bs+ct+1:=w64 _ (by omega)
 unfold geoV at HM HS ⊢
 unfold geoC recC at H0
 clear hx hd hg hg' hok hok' hmay hA hcc hb hc
 go_enter Tryz.func127,Tryz.ntmps127
 go_upto_region 10 with (first|(go_at_call 55;go_loud (refine (mfirst3 _).mono ?_;rintro e3 w3 ⟨rfl,hb3⟩;have H3:=Aside0.mk ((H2.out.step (below_alloc (Below.refl _ _) _)).step hb3);have HB3:=Aside0.mk (below_step (below_alloc HB2.out _) hb3);obtain ⟨s0,s1,s2,s3,s4,s5,_⟩:=((H2.out.step (below_alloc (Below.refl _ _) _)).step hb3).all;clear hb3))|(go_at_call 58;go_loud (refine (HW.out _ H4.out.2 _ ((Bs.of_R H1.out.1).below HB4.out)).mono ?_;rintro e5 w5 ⟨rfl,hx5,hg5⟩;have H5:=Aside0.mk (And.intro hx5 ((Gs.of_below H4.out.2).trans hg5));clear hx5 hg5))|(go_at_call 139;go_loud (refine (HS.out _).mono ?_;rintro e4 w4 ⟨rfl,hb4⟩;have H4:=Aside0.mk (H3.out.step hb4);have HB4:=Aside0.mk (below_step HB3.out hb4);clear hb4))|(go_at_call 57;go_loud (refine (munless_ok _ _).mono ?_;rintro e9 w9 ⟨rfl,rfl⟩))|(go_at_call 56;go_loud (refine (HM.out _).mono ?_;rintro e2 w2 ⟨rfl,hb2⟩;have H2:=Aside0.mk (H1.out.2.step hb2);have HB2:=Aside0.mk hb2;obtain ⟨r0,r1,r2,r3,r4,r5,_⟩:=(H1.out.2.step hb2).all;clear hb2))|(go_at_call 150;go_loud (refine (HE.out _ H0.out.2).mono ?_;rintro e1 w1 ⟨u1,rfl,hR1,hb1⟩;have H1:=Aside0.mk (And.intro hR1 (H0.out.step hb1));obtain ⟨q0,q1,q2,q3,q4,q5,_⟩:=(H0.out.step hb1).all;clear hR1 hb1)))
 go_wp2_with (first|(go_at_call 55;go_loud (refine (mfirst2 _).mono ?_;rintro e7 w7 ⟨rfl,hb7⟩;have H7:=Aside0.mk (below_step (below_alloc (Below.refl _ _) _) hb7);clear hb7))|(go_at_call 53;go_loud (refine (aflushed H5.out.1 HD.out).mono ?_;rintro e6 w6 ⟨rfl,hx6,hg6⟩;have H6:=Aside0.mk (And.intro hx6 (H5.out.2.trans hg6));clear hx6 hg6))|(go_at_call 57;go_loud (refine (munless_ok _ _).mono ?_;rintro e9 w9 ⟨rfl,rfl⟩)))
 go_ret
 exact ⟨rfl,H6.out.1.below H7.out,H6.out.2.trans (Gs.of_below H7.out)⟩
def stC (c a f:Nat) (K M Z T L O area base count:Int):Array Value:=#[.pointer (some ⟨c,0,none⟩),.pointer (some ⟨a,0,none⟩),.pointer (some ⟨f,0,none⟩),.int .i64 K,.int .i64 M,.int .i64 Z,.int .i64 T,.int .i64 L,.int .i64 O,.int .i64 area,.int .i64 base,.int .i64 count,.bool false]
set_option maxRecDepth 100000 in
set_option maxHeartbeats 2000000 in
theorem fault_st {s c a f:Nat} {K M Z T L O area base count:Int} {w:World} (h:w.heap[s]?=some (.cells (stC c a f K M Z T L O area base count) 110 (0,0))) (k:ByteArray) (hk:1<=k.size/\k.size<=64) :
  Calls Tryz.prog 89 #[.pointer (some ⟨s,0,none⟩),.string k] w fun e w'=>e=.returned (.int .i64 0)/\w'=w:=by
 have h12:w.cell? ⟨s,12,none⟩=some (.bool false):=by simp only [World.cell?,h,stC];rfl
 have hke:=key_ne hk.1
 have hl2:¬ (64:Int) < (k.size:Int):=by omega
 clear h
 go_enter Tryz.func89,Tryz.ntmps89
 go_wp2
 go_ret
 exact ⟨rfl,rfl⟩
set_option maxRecDepth 100000 in
set_option maxHeartbeats 2000000 in
theorem end_st {s c a f:Nat} {K M Z T L O area base count:Int} {w:World} (h:w.heap[s]?=some (.cells (stC c a f K M Z T L O area base count) 110 (0,0))) (x:Int) (hx:x≠130) :
  Calls Tryz.prog 93 #[.pointer (some ⟨s,0,none⟩),.int .i64 x] w fun e w'=>e=.returned (.int .i64 x)/\w'.heap[s]?=some (.cells (stC c a f K M Z T L O area base count) 110 (0,0))/\Gs (fun k=>k=s) w w':=by
 have h12:w.cell? ⟨s,12,none⟩=some (.bool false):=by simp only [World.cell?,h,stC];rfl
 have hf:w.frozen? ⟨s,12,none⟩=false:=by simp [World.frozen?,h]
 have hd:(x == 130)=false:=by simp [hx]
 have hd2:decide (x=130)=false:=by simp [hx]
 have H:=Aside0.mk h
 clear h
 go_enter Tryz.func93,Tryz.ntmps93
 go_wp2
 go_ret
 exact ⟨rfl,set_cells H.out 12 _,(Gs.refl (fun k=>k=s) w).set (.inr rfl) 12 _⟩
def ownM (S:List Ob):Int->Bool:=fun a=>S.any fun o=>decide (a ∈ o.f3)
def cntM (S:List Ob):Nat:=(S.map fun o=>o.f3.length).sum
structure WfS (S:List Ob) (T O:Nat):Prop where
 key:S.Pairwise fun o p=>o.f0≠p.f0
 ok:∀ o ∈ S,RecA.Ok 1 o.f0 o.f1 o.f3/\0<=o.f2/\o.f2<=1000
 rng:∀ o ∈ S,∀ x ∈ o.f3,0<=x/\x < T
 nod:∀ o ∈ S,o.f3.Nodup
 dis:S.Pairwise fun o p=>∀ x ∈ o.f3,x ∉ p.f3
 len:S.length<=O
theorem pw_mem {α:Type} {R:α->α->Prop}:∀ {S:List α},S.Pairwise R->∀ o ∈ S,∀ p ∈ S,o=p∨R o p∨R p o
 | [],_,o,ho,_,_=>nomatch ho
 | x :: r,h,o,ho,p,hp=>by
  rw [List.pairwise_cons] at h
  rcases List.mem_cons.1 ho with e1|ho1
  ·rcases List.mem_cons.1 hp with e2|hp1
   ·exact .inl (e1.trans e2.symm)
   ·exact .inr (.inl (e1 ▸ h.1 p hp1))
  ·rcases List.mem_cons.1 hp with e2|hp1
   ·exact .inr (.inr (e2 ▸ h.1 o ho1))
   ·exact pw_mem h.2 o ho1 p hp1
theorem pig:∀ (l l':List Int),l.Nodup->(∀ x ∈ l,x ∈ l')->l.length<=l'.length
 | [],l',_,_=>Nat.zero_le _
 | x :: l,l',h,hs=>by
  rw [List.nodup_cons] at h
  have hx:=hs x List.mem_cons_self
  have h1:=pig l (l'.erase x) h.2 (fun y hy=>(List.mem_erase_of_ne (fun e=>h.1 (by rw [<- e];exact hy))).2 (hs y (List.mem_cons_of_mem _ hy)))
  rw [List.length_erase_of_mem hx] at h1
  have h2:=List.length_pos_of_mem hx
  rw [List.length_cons]
  omega
section
variable {S:List Ob} {T O:Nat}
theorem ownM_iff {a:Int}:ownM S a=true↔∃ o ∈ S,a ∈ o.f3:=by simp [ownM]
theorem WfS.one (h:WfS S T O) {o p:Ob} (ho:o ∈ S) (hp:p ∈ S) (e:o.f0=p.f0):o=p:=by
 rcases pw_mem h.key o ho p hp with h1|h1|h1
 ·exact h1
 ·exact absurd e h1
 ·exact absurd e.symm h1
theorem WfS.two (h:WfS S T O) {o p:Ob} (ho:o ∈ S) (hp:p ∈ S) (e:o.f0≠p.f0) {x:Int} (h1:x ∈ o.f3) (h2:x ∈ p.f3):False:=by
 rcases pw_mem h.dis o ho p hp with rfl|h3|h3
 ·exact e rfl
 ·exact h3 x h1 h2
 ·exact h3 x h2 h1
theorem strOf_some {k:ByteArray} {o:Ob} (h:findS S k=some o):strOf S k=o.f3:=by simp [strOf,h]
theorem strOf_none {k:ByteArray} (h:findS S k=none):strOf S k=[]:=by simp [strOf,h]
theorem findS_eq (h:WfS S T O) {o:Ob} (ho:o ∈ S):findS S o.f0=some o:=by
 cases hf:findS S o.f0 with
 | none=>exact absurd rfl (findS_none hf o ho)
 | some p=>rw [h.one (findS_some hf).1 ho (findS_some hf).2]
theorem strOf_own (h:WfS S T O) (k:ByteArray):(∀ x ∈ strOf S k,(I64 x/\ownM S x=true)/\0<=x/\x < T)/\(strOf S k).Nodup/\(strOf S k).length<=256:=by
 cases hf:findS S k with
 | none=>rw [strOf_none hf];simp
 | some o =>
  rw [strOf_some hf]
  have ho:=(findS_some hf).1
  have h1:=(h.ok o ho).1
  unfold RecA.Ok at h1
  refine ⟨fun x hx=>⟨⟨?_,ownM_iff.2 ⟨o,ho,hx⟩⟩,h.rng o ho x hx⟩,h.nod o ho,h1.2.2.2.1⟩
  have h2:=h1.2.2.2.2.1 x hx
  exact i64_of (by omega) (by omega)
theorem flat_nodup:∀ {S:List Ob},(∀ o ∈ S,o.f3.Nodup)->S.Pairwise (fun o p=>∀ x ∈ o.f3,x ∉ p.f3)->(S.flatMap fun o=>o.f3).Nodup
 | [],_,_=>List.nodup_nil
 | x :: r,h1,h2=>by
  rw [List.pairwise_cons] at h2
  rw [List.flatMap_cons,List.nodup_append]
  refine ⟨h1 x List.mem_cons_self,flat_nodup (fun o ho=>h1 o (List.mem_cons_of_mem _ ho)) h2.2,fun a ha b hb e=>?_⟩
  subst e
  obtain ⟨o,ho,h3⟩:=List.mem_flatMap.1 hb
  exact h2.1 o ho a ha h3
theorem flat_len2:∀ (S:List Ob),(S.flatMap fun o=>o.f3).length=cntM S
 | []=>rfl
 | x :: r=>by rw [List.flatMap_cons,List.length_append,flat_len2 r];simp [cntM]
def intsN (T:Nat):List Int:=(List.range T).map fun i:Nat=>(i:Int)
theorem mem_intsN {T:Nat} {x:Int}:x ∈ intsN T↔0<=x/\x < T:=by
 unfold intsN
 rw [List.mem_map]
 constructor
 ·rintro ⟨i,hi,rfl⟩
  rw [List.mem_range] at hi
  omega
 ·intro h
  exact ⟨x.toNat,by rw [List.mem_range];omega,by omega⟩
theorem WfS.cnt (h:WfS S T O):cntM S<=T:=by
 rw [<- flat_len2]
 have:=pig _ (intsN T) (flat_nodup h.nod h.dis) (fun x hx=>by
  obtain ⟨o,ho,h3⟩:=List.mem_flatMap.1 hx
  exact mem_intsN.2 (h.rng o ho x h3))
 simpa [intsN] using this
theorem WfS.off (h:WfS S T O) (k:ByteArray):WfS (offS S k) T O :=
 ⟨h.key.filter _,fun o ho=>h.ok o (mem_offS.1 ho).1,fun o ho=>h.rng o (mem_offS.1 ho).1,fun o ho=>h.nod o (mem_offS.1 ho).1,h.dis.filter _,Nat.le_trans (List.length_filter_le _ _) h.len⟩
theorem ownM_off (h:WfS S T O) (k:ByteArray) (a:Int):offL (ownM S) (strOf S k) a=ownM (offS S k) a:=by
 rw [Bool.eq_iff_iff,ownM_iff]
 unfold offL
 rw [Bool.and_eq_true,ownM_iff]
 constructor
 ·rintro ⟨⟨o,ho,h1⟩,h2⟩
  refine ⟨o,mem_offS.2 ⟨ho,fun e=>?_⟩,h1⟩
  subst e
  rw [strOf_some (findS_eq h ho)] at h2
  simp [h1] at h2
 ·rintro ⟨o,ho,h1⟩
  obtain ⟨ho1,hk⟩:=mem_offS.1 ho
  refine ⟨⟨o,ho1,h1⟩,?_⟩
  cases hf:findS S k with
  | none=>rw [strOf_none hf];simp
  | some p =>
   rw [strOf_some hf]
   obtain ⟨hp,rfl⟩:=findS_some hf
   simp only [Bool.not_eq_true',decide_eq_false_iff_not]
   exact fun h3=>h.two ho1 hp hk h1 h3
theorem kb_beq {a b:ByteArray}:(kb a == kb b)=decide (a=b):=by
 rw [Bool.eq_iff_iff,beq_iff_eq,decide_eq_true_iff]
 exact ⟨kb_inj,fun e=>e ▸ rfl⟩
theorem off_none:∀ {S:List Ob} {k:ByteArray},(∀ o ∈ S,o.f0≠k)->offS S k=S:=by
 intro S k h
 unfold offS
 rw [List.filter_eq_self]
 intro o ho
 rw [kb_beq,decide_eq_false (h o ho)]
 rfl
theorem cnt_off:∀ {S:List Ob} (k:ByteArray),S.Pairwise (fun o p=>o.f0≠p.f0)->cntM (offS S k)+(strOf S k).length=cntM S
 | [],k,_=>rfl
 | x :: r,k,h=>by
  rw [List.pairwise_cons] at h
  by_cases hk:x.f0=k
  ·subst hk
   have h1:offS (x :: r) x.f0=r:=by
    have h2:offS (x :: r) x.f0=offS r x.f0:=by simp [offS]
    rw [h2,off_none (fun o ho e=>h.1 o ho e.symm)]
   have h3:findS (x :: r) x.f0=some x:=by simp [findS]
   rw [h1,strOf_some h3]
   simp [cntM]
   omega
  ·have h1:offS (x :: r) k=x :: offS r k:=by
    unfold offS
    rw [List.filter_cons,kb_beq,decide_eq_false hk]
    rfl
   have h3:strOf (x :: r) k=strOf r k:=by
    unfold strOf findS
    rw [List.find?_cons,kb_beq,decide_eq_false hk]
   have:=cnt_off k h.2
   rw [h1,h3]
   simp only [cntM,List.map_cons,List.sum_cons] at this ⊢
   omega
theorem cnt_ins (x:Ob):∀ S:List Ob,cntM (inS x S)=cntM S+x.f3.length
 | []=>by simp [inS,cntM]
 | y :: r=>by
  unfold inS
  split
  ·simp [cntM];omega
  ·have:=cnt_ins x r
   simp only [cntM,List.map_cons,List.sum_cons] at this ⊢
   omega
theorem cnt_put (h:WfS S T O) (o:Ob):cntM S - (strOf S o.f0).length+o.f3.length=cntM (putS S o):=by
 have:=cnt_off o.f0 h.key
 unfold putS
 rw [cnt_ins]
 omega
theorem cnt_del (h:WfS S T O) (k:ByteArray):cntM S - (strOf S k).length=cntM (offS S k):=by
 have:=cnt_off k h.key
 omega
theorem ownM_put (h:WfS S T O) (o:Ob) (a:Int):orL (offL (ownM S) (strOf S o.f0)) o.f3 a=ownM (putS S o) a:=by
 rw [Bool.eq_iff_iff,ownM_iff]
 unfold orL
 rw [ownM_off h,Bool.or_eq_true,ownM_iff]
 constructor
 ·rintro (⟨p,hp,h1⟩|h1)
  ·exact ⟨p,mem_putS.2 (.inr (mem_offS.1 hp)),h1⟩
  ·exact ⟨o,mem_putS.2 (.inl rfl),by simpa using h1⟩
 ·rintro ⟨p,hp,h1⟩
  rcases mem_putS.1 hp with rfl|hp
  ·exact .inr (by simpa using h1)
  ·exact .inl ⟨p,mem_offS.2 hp,h1⟩
theorem inS_pw {R:Ob->Ob->Prop} (hs:∀ a b,R a b->R b a) {x:Ob} {S:List Ob} (h:S.Pairwise R) (hx:∀ o ∈ S,R x o):(inS x S).Pairwise R:=by
 have h1:(x :: S).Pairwise R:=List.pairwise_cons.2 ⟨hx,h⟩
 exact ((perm_inS x S).pairwise_iff (fun {a b}=>hs a b)).2 h1
theorem WfS.put (h:WfS S T O) (o:Ob) (hok:RecA.Ok 1 o.f0 o.f1 o.f3) (he:0<=o.f2/\o.f2<=1000) (hr:∀ x ∈ o.f3,0<=x/\x < T) (hn:o.f3.Nodup) (hm:∀ x ∈ o.f3,ownM S x=false) (hl:(!(findS S o.f0).isSome && decide ((O:Int)<=(S.length:Int)))=false):WfS (putS S o) T O:=by
 have ho:=h.off o.f0
 have hd:∀ p ∈ offS S o.f0,∀ x ∈ o.f3,x ∉ p.f3:=fun p hp x hx h1=>by
  have:=hm x hx
  rw [ownM_iff.2 ⟨p,(mem_offS.1 hp).1,h1⟩] at this
  cases this
 refine ⟨inS_pw (fun a b h e=>h e.symm) ho.key (fun p hp e=>(mem_offS.1 hp).2 e.symm),?_,?_,?_,inS_pw (fun a b h x h1 h2=>h x h2 h1) ho.dis (fun p hp=>hd p hp),?_⟩
 ·intro p hp
  rcases mem_putS.1 hp with rfl|hp
  ·exact ⟨hok,he⟩
  ·exact h.ok p hp.1
 ·intro p hp
  rcases mem_putS.1 hp with rfl|hp
  ·exact hr
  ·exact h.rng p hp.1
 ·intro p hp
  rcases mem_putS.1 hp with rfl|hp
  ·exact hn
  ·exact h.nod p hp.1
 ·unfold putS
  rw [(perm_inS o _).length_eq,List.length_cons]
  cases hf:findS S o.f0 with
  | none =>
   rw [hf] at hl
   simp at hl
   have:=List.length_filter_le (fun p:Ob=>!(kb p.f0 == kb o.f0)) S
   unfold offS
   omega
  | some p =>
   have h1:(offS S o.f0).length < S.length:=by
    unfold offS
    rw [List.length_filter_lt_length_iff_exists]
    exact ⟨p,(findS_some hf).1,by rw [kb_beq,decide_eq_true (findS_some hf).2];simp⟩
   have:=h.len
   omega
def frN (m:Int->Bool):Nat->Nat
 | 0=>0
 | s+1=>frN m s+if m s then 0 else 1
def tkL (m:Int->Bool):Nat->List Int
 | 0=>[]
 | s+1=>if m s then (s:Int) :: tkL m s else tkL m s
theorem fr_tk (m:Int->Bool):∀ s,frN m s+(tkL m s).length=s
 | 0=>rfl
 | s+1=>by
  have:=fr_tk m s
  unfold frN tkL
  cases m s <;> simp <;> omega
theorem tkL_mem (m:Int->Bool):∀ s,∀ x ∈ tkL m s,m x=true/\x < s
 | 0,x,h=>nomatch h
 | s+1,x,h=>by
  unfold tkL at h
  split at h
  ·rcases List.mem_cons.1 h with rfl|h
   ·exact ⟨by assumption,by omega⟩
   ·have:=tkL_mem m s x h
    exact ⟨this.1,by omega⟩
  ·have:=tkL_mem m s x h
   exact ⟨this.1,by omega⟩
theorem tkL_nodup (m:Int->Bool):∀ s,(tkL m s).Nodup
 | 0=>List.nodup_nil
 | s+1=>by
  unfold tkL
  split
  ·exact List.nodup_cons.2 ⟨fun h=>by have:=(tkL_mem m s _ h).2;omega,tkL_nodup m s⟩
  ·exact tkL_nodup m s
theorem WfS.fr (h:WfS S T O):T - cntM S<=frN (ownM S) T:=by
 have h1:=fr_tk (ownM S) T
 have h2:=pig (tkL (ownM S) T) (S.flatMap fun o=>o.f3) (tkL_nodup _ _) (fun x hx=>by
  obtain ⟨o,ho,h3⟩:=ownM_iff.1 (tkL_mem _ _ x hx).1
  exact List.mem_flatMap.2 ⟨o,ho,h3⟩)
 rw [flat_len2] at h2
 omega
theorem planL_mem (m:Int->Bool) (n:Nat):∀ s,(∀ x ∈ planL m n s,m x=false/\0<=x/\x < s)/\(planL m n s).Nodup/\(planL m n s).length=min n (frN m s)
 | 0=>by simp [planL,frN]
 | s+1=>by
  obtain ⟨h1,h2,h3⟩:=planL_mem m n s
  have hs:(s:Int) ∉ planL m n s:=fun h=>by have:=(h1 _ h).2.2;omega
  unfold planL planS frN
  cases hm:m s with
  | true =>
   refine ⟨fun x hx=>?_,by simpa [hm] using h2,by simpa [hm] using h3⟩
   have:=h1 x (by simpa [hm] using hx)
   exact ⟨this.1,this.2.1,by omega⟩
  | false =>
   by_cases hl:(planL m n s).length < n
   ·simp only [hm,Bool.not_false,Bool.true_and,decide_eq_true hl,if_true]
    refine ⟨fun x hx=>?_,?_,?_⟩
    ·rcases List.mem_append.1 hx with hx|hx
     ·have:=h1 x hx
      exact ⟨this.1,this.2.1,by omega⟩
     ·obtain rfl:=List.mem_singleton.1 hx
      exact ⟨hm,by omega,by omega⟩
    ·rw [List.nodup_append]
     exact ⟨h2,by simp,fun a ha b hb e=>by rw [List.mem_singleton.1 hb] at e;exact hs (e ▸ ha)⟩
    ·simp
     omega
   ·simp only [hm,Bool.not_false,Bool.true_and,decide_eq_false hl,if_false,Bool.false_eq_true]
    refine ⟨fun x hx=>?_,h2,?_⟩
    ·have:=h1 x hx
     exact ⟨this.1,this.2.1,by omega⟩
    ·omega
end
section
variable {S:List Ob} {T O:Nat}
theorem keysS_perm (S:List Ob):(keysS S).Perm (S.map fun o=>kb o.f0):=List.mergeSort_perm _ _
theorem allS_perm (h:WfS S T O):(allS S).Perm S:=by
 unfold allS
 refine ((keysS_perm S).map _).trans ?_
 rw [List.map_map]
 have e:S.map ((fun x=>(findS S (keyB x)).getD ob0) ∘ fun o=>kb o.f0)=S.map id:=List.map_congr_left (fun o ho=>by
  show (findS S (keyB (kb o.f0))).getD ob0=o
  rw [keyB_kb,findS_eq h ho]
  rfl)
 rw [e,List.map_id]
theorem keysS_lt (h:WfS S T O):(keysS S).Pairwise (· < ·):=by
 have ht:∀ x y z:List UInt8,decide (x<=y)=true->decide (y<=z)=true->decide (x<=z)=true:=fun x y z h1 h2=>by
  simp only [decide_eq_true_eq] at *
  exact List.le_trans h1 h2
 have hT:∀ x y:List UInt8,(decide (x<=y) || decide (y<=x))=true:=fun x y=>by
  simp only [Bool.or_eq_true,decide_eq_true_eq]
  exact List.le_total x y
 have h1:(keysS S).Pairwise (fun x y=>decide (x<=y)=true):=List.pairwise_mergeSort ht hT _
 have h2:(S.map fun o=>kb o.f0).Pairwise (·≠·):=by
  rw [List.pairwise_map]
  exact h.key.imp (fun e1 e2=>e1 (kb_inj e2))
 have h3:(keysS S).Pairwise (·≠·):=((keysS_perm S).pairwise_iff (fun {a b} e=>e.symm)).2 h2
 refine (h1.and h3).imp (fun {a b} h=>?_)
 obtain ⟨h4,h5⟩:=h
 simp only [decide_eq_true_eq] at h4
 by_cases h6:a < b
 ·exact h6
 ·exact absurd (List.le_antisymm h4 (List.not_lt.1 h6)) h5
theorem allS_key (S:List Ob):(allS S).map (fun o=>kb o.f0)=keysS S:=by
 refine List.ext_getElem (by simp [allS_len,keysS_len]) (fun i h1 h2=>?_)
 rw [keysS_len] at h2
 obtain ⟨x,hx,o,ho,_,_,hk⟩:=allS_get h2
 rw [List.getElem_map]
 obtain ⟨h3,h4⟩:=List.getElem?_eq_some_iff.1 ho
 obtain ⟨h5,h6⟩:=List.getElem?_eq_some_iff.1 hx
 rw [h4,h6,hk,kb_keyB]
structure MayO (L:List Ob):Prop where
 ok:∀ o ∈ L,RecA.Ok 1 o.f0 o.f1 o.f3/\0<=o.f2/\o.f2<=2147483647
 ord:∀ i p q,L[i]?=some p->L[i+1]?=some q->(Op.bytesLess q.f0.toList p.f0.toList || q.f0.toList == p.f0.toList)=false
 len:L.length<=64
 sum:(L.map fun p=>p.f3.length).sum<=256
theorem sum_perm {a b:List Nat} (h:a.Perm b):a.sum=b.sum:=by
 induction h with
 | nil=>rfl
 | cons x _ ih=>simp [ih]
 | swap x y l=>simp;omega
 | trans _ _ i1 i2=>exact i1.trans i2
theorem allS_may (h:WfS S T O) (hT:T<=256) (hO:O<=64):MayO (allS S):=by
 refine ⟨fun o ho=>?_,fun i p q hp hq=>?_,?_,?_⟩
 ·obtain ⟨h1,h2,h3⟩:=h.ok o ((allS_perm h).mem_iff.1 ho)
  exact ⟨h1,h2,by omega⟩
 ·have h1:=keysS_lt h
  rw [<- allS_key S,List.pairwise_map] at h1
  obtain ⟨i1,e1⟩:=List.getElem?_eq_some_iff.1 hp
  obtain ⟨i2,e2⟩:=List.getElem?_eq_some_iff.1 hq
  have h2:=List.pairwise_iff_getElem.1 h1 i (i+1) i1 i2 (by omega)
  rw [e1,e2] at h2
  have ek:∀ k:ByteArray,k.toList=kb k:=fun k=>ByteArray.toList_eq k
  rw [ek,ek,bytesLess_eq]
  have h3:¬ kb q.f0 < kb p.f0:=fun h=>List.lt_irrefl _ (List.lt_trans h2 h)
  have h4:¬ kb q.f0=kb p.f0:=fun e=>by rw [e] at h2;exact List.lt_irrefl _ h2
  rw [decide_eq_false h3,Bool.false_or]
  simpa using h4
 ·rw [allS_len]
  exact Nat.le_trans h.len hO
 ·rw [sum_perm ((allS_perm h).map _)]
  exact Nat.le_trans h.cnt hT
def snapL (L:List Ob):List Int:=RecB.two L.length ++ L.flatMap fun o=>RecB.four o.f2 ++ RecB.encL 1 o.f0 o.f1 o.f3
theorem snap_bytes (L:List Ob):RecB.Bytes (snapL L):=by
 unfold snapL
 refine RecB.bytes_app (RecB.two_bytes _) (fun x hx=>?_)
 obtain ⟨o,ho,h1⟩:=List.mem_flatMap.1 hx
 exact RecB.bytes_app (RecB.four_bytes _) (RecB.enc_bytes _ _ _ _) x h1
theorem flat_le:∀ L:List Ob,(∀ o ∈ L,o.f0.size<=64)->(L.flatMap fun o=>RecB.four o.f2 ++ RecB.encL 1 o.f0 o.f1 o.f3).length<=76*L.length+2*(L.map fun p=>p.f3.length).sum
 | [],_=>by simp
 | x :: r,h=>by
  have h1:=flat_le r (fun o ho=>h o (List.mem_cons_of_mem _ ho))
  have h2:=h x List.mem_cons_self
  rw [List.flatMap_cons,List.length_append,List.length_append,RecB.four_len,RecB.enc_len]
  simp only [List.map_cons,List.sum_cons,List.length_cons]
  omega
theorem snap_len {L:List Ob} (h:MayO L):(snapL L).length<=6000:=by
 unfold snapL
 have h1:=flat_le L (fun o ho=>by have:=(h.ok o ho).1;unfold RecA.Ok at this;exact this.2.1.2)
 have h2:=h.len
 have h3:=h.sum
 rw [List.length_append,RecB.two_len]
 omega
end
structure Pst where
 S:List Ob
 dat:ByteArray->List Int
 ep:Nat
structure Ans where
 err:Int
 data:List Int
 len:Int
 keys:List ByteArray
def okK (k:ByteArray):Bool:=decide (1<=k.size/\k.size<=64)
def putP (P T O:Nat) (s:Pst) (k:ByteArray) (d:List Int):Pst×Int :=
 if okK k=false then (s,190)
 else if (!(findS s.S k).isSome && decide ((O:Int)<=(s.S.length:Int)))=true then (s,191)
 else if T - cntM s.S < needN P d.length then (s,192)
 else (⟨putS s.S ⟨k,d.length,s.ep+1,planL (ownM s.S) (needN P d.length) T⟩,fun x=>if x=k then d else s.dat x,s.ep+1⟩,0)
def delP (s:Pst) (k:ByteArray):Pst×Int :=
 if okK k=false then (s,190)
 else match findS s.S k with
  | none=>(s,193)
  | some _=>(⟨offS s.S k,s.dat,s.ep+1⟩,0)
structure WfP (P T O:Nat) (s:Pst):Prop where
 wf:WfS s.S T O
 row:∀ o ∈ s.S,o.f1=((s.dat o.f0).length:Int)/\o.f3.length=needN P (s.dat o.f0).length/\o.f2<=s.ep
 byt:∀ o ∈ s.S,byteL (s.dat o.f0)/\(s.dat o.f0).length<=1000
def pst0:Pst:=⟨[],fun _=>[],0⟩
theorem WfP.zero (P T O:Nat):WfP P T O pst0 :=
 ⟨⟨List.Pairwise.nil,(fun o ho=>nomatch ho),(fun o ho=>nomatch ho),(fun o ho=>nomatch ho),List.Pairwise.nil,Nat.zero_le _⟩,(fun o ho=>nomatch ho),(fun o ho=>nomatch ho)⟩
theorem WfP.off {P T O:Nat} {s:Pst} (h:WfP P T O s) (k:ByteArray):WfP P T O ⟨offS s.S k,s.dat,s.ep+1⟩ :=
 ⟨h.wf.off k,fun o ho=>by
  obtain ⟨h1,h2,h3⟩:=h.row o (mem_offS.1 ho).1
  exact ⟨h1,h2,by simp only [Int.natCast_add];omega⟩,fun o ho=>h.byt o (mem_offS.1 ho).1⟩
theorem WfP.plan {P T O:Nat} {s:Pst} (h:WfP P T O s) {n:Nat} (hn:¬ T - cntM s.S < needN P n):(∀ x ∈ planL (ownM s.S) (needN P n) T,ownM s.S x=false/\0<=x/\x < T)/\(planL (ownM s.S) (needN P n) T).Nodup/\(planL (ownM s.S) (needN P n) T).length=needN P n:=by
 obtain ⟨h1,h2,h3⟩:=planL_mem (ownM s.S) (needN P n) T
 have:=h.wf.fr
 exact ⟨h1,h2,by omega⟩
theorem WfP.put {P T O:Nat} {s:Pst} (h:WfP P T O s) {k:ByteArray} {d:List Int} (hk:okK k=true) (hf:(!(findS s.S k).isSome && decide ((O:Int)<=(s.S.length:Int)))=false) (hn:¬ T - cntM s.S < needN P d.length) (hT:T<=256) (hb:byteL d) (hl:d.length<=1000) (he:s.ep+1<=1000) :
  WfP P T O ⟨putS s.S ⟨k,d.length,s.ep+1,planL (ownM s.S) (needN P d.length) T⟩,fun x=>if x=k then d else s.dat x,s.ep+1⟩:=by
 obtain ⟨h1,h2,h3⟩:=h.plan hn
 unfold okK at hk
 rw [decide_eq_true_iff] at hk
 have h4:=planL_len (ownM s.S) (needN P d.length) T
 refine ⟨h.wf.put _ ?_ ?_ (fun x hx=>(h1 x hx).2) h2 (fun x hx=>(h1 x hx).1) hf,fun o ho=>?_,fun o ho=>?_⟩
 ·unfold RecA.Ok
  exact ⟨.inl rfl,hk,by simp only;omega,by simp only;omega,fun x hx=>by have:=(h1 x hx).2;omega,fun e=>by omega⟩
 ·simp only
  omega
 ·rcases mem_putS.1 ho with rfl|⟨ho,hne⟩
  ·simp only [if_true]
   exact ⟨trivial,h3,by omega⟩
  ·simp only at hne ⊢
   rw [if_neg hne]
   obtain ⟨h5,h6,h7⟩:=h.row o ho
   exact ⟨h5,h6,by omega⟩
 ·rcases mem_putS.1 ho with rfl|⟨ho,hne⟩
  ·simp only [if_true]
   exact ⟨hb,hl⟩
  ·simp only at hne ⊢
   rw [if_neg hne]
   exact h.byt o ho
end Go.Proofs.YtmmcbncpnlknbaaGreat.Top
