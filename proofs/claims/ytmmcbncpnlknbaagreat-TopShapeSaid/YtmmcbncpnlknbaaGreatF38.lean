import Derived.Test.YtmmcbncpnlknbaaGreatF37
set_option linter.unusedVariables false
set_option linter.unusedSimpArgs false
namespace Go.Proofs.YtmmcbncpnlknbaaGreat.Top.Rd
open Go Go.RowKit Go.Proofs.YtmmcbncpnlknbaaGreatW.PrintWords Go.Proofs.YtmmcbncpnlknbaaGreatW.PrintLast Go.Proofs.YtmmcbncpnlknbaaGreatW.PrintMore
set_option maxRecDepth 100000
set_option maxHeartbeats 2000000 in
theorem caught_nil (w:World):Calls Tryz.prog 167 #[.nilIface] w fun e w'=>e=.returned (.int .i64 0)/\w'=w:=by
 go_enter Tryz.func167,Tryz.ntmps167
 go_wp2
 exact bodyPost_ret (results_tmp rfl _ _ _) rfl ⟨rfl,rfl⟩
theorem assert_hit (w:World):(Instr.typeAssert (.iface 31 (.int .i64 160)) 20 31 true).run Tryz.prog w=.ok (.tuple #[.int .i64 160,.bool true]) w:=by kernel_rfl
set_option maxHeartbeats 2000000 in
theorem caught_err (w:World):Calls Tryz.prog 167 #[.iface 31 (.int .i64 160)] w fun e w'=>e=.returned (.int .i64 160)/\w'=w:=by
 have hta:=assert_hit
 go_enter Tryz.func167,Tryz.ntmps167
 go_wp2
 exact bodyPost_ret (results_tmp rfl _ _ _) rfl ⟨rfl,rfl⟩
set_option maxHeartbeats 2000000 in
theorem decode_idle (pe po:Nat) (x:Int) (w:World) (he:w.heap[pe]?=some (.cells #[.int .i64 x] 31 (0,0))) :
  CallsD Tryz.prog 166 #[.pointer (some ⟨pe,0,none⟩),.pointer (some ⟨po,0,none⟩)] .returning w fun e u' w' =>
   e=.returned (.tuple #[])/\u'=.returning/\w'=w.setCell ⟨pe,0,none⟩ (.int .i64 0):=by
 have c0:w.cell? ⟨pe,0,none⟩=some (.int .i64 x):=by simp [World.cell?,he]
 have z0':w.frozen? ⟨pe,0,none⟩=false:=by simp [World.frozen?,he]
 obtain ⟨w1,hw1⟩:∃ w1,w.setCell ⟨pe,0,none⟩ (.int .i64 0)=w1:=⟨_,rfl⟩
 have he1:w1.heap[pe]?=some (.cells #[.int .i64 0] 31 (0,0)):=by rw [<- hw1];simp [World.setCell,Array.getElem?_modify,he]
 have c1:w1.cell? ⟨pe,0,none⟩=some (.int .i64 0):=by simp [World.cell?,he1]
 refine callsD_of_wpS Tryz.func166 rfl fun c₀ cs hu=>?_
 apply wpS_seq
 apply wpS_region
 simp [wpOpsS,go_sem,recoverD,hu,Tryz.ntmps166,Exit.thenS]
 refine (caught_nil w).mono ?_
 rintro e w' ⟨rfl,rfl⟩
 simp [go_sem,c0,z0',hw1]
 apply wpS_seq
 apply wpS_region
 simp [wpOpsS,go_sem,c1,Exit.thenS]
 refine wpS_cond (t:=false) (by simp [Act.eval,Array.replicate]) ?_
 simp only [Bool.false_eq_true,if_false]
 refine wpS_of_wp (wp_skip ?_)
 cases c₀
 simp_all [bodyPostS,results,Tryz.results166]
set_option maxHeartbeats 4000000 in
theorem decode_run (A0:Option Addr) (c0:Nat) (kd sz:Int) (t l0:List Int) (hl0:(kd :: sz :: t)=l0) (w:World) (hr0:Kd.C (Kd.int .u8) w A0 l0.length l0) (hc0:l0.length<=c0) (hb:∀ x ∈ l0,0<=x/\x<=255) (hl:t.length<=1000000)
  (h1:sz.toNat+6<=t.length) (key:ByteArray) (hkey:strOfNums (t.take sz.toNat)=key) (u:List Int) (hu:t.drop sz.toNat=u) (len:Int) (hlen:beN (u.take 4)=len) (cnt:Nat) (hcn:beN ((u.drop 4).take 2)=cnt) (body:List Int) (hbody:u.drop 6=body)
  (h2:2*cnt=body.length) (hch:RecA.Ok kd key len (pairsN cnt body)) :
  Calls Tryz.prog 140 #[.slice A0 l0.length c0] w fun e w'=>∃ v3_:Value,e=.returned (.tuple #[.agg #[.int .i64 kd,.string key,.int .i64 len,v3_],.int .i64 0])/\Kd.R (Kd.int .i64) 3 w' w.heap.size (fun _=>True) v3_ (pairsN cnt body)/\Below w.heap.size w w':=by
 have HC:=Aside0.mk hr0
 have HB:=Aside0.mk (fun {S:World->Prop} (g:Nat) (A:Option Addr) (c:Nat) (w0 w:World) (R:RdAt S w0 w g l0 A c)=>record_reads g kd sz t A c w0 w (by rw [hl0];exact R) (by rw [hl0];exact hb) hl h1 key hkey u hu len hlen cnt hcn body hbody (by omega) hch)
 obtain ⟨st,hst⟩:∃ q,pairsN cnt body=q:=⟨_,rfl⟩
 obtain ⟨rest,hrs⟩:∃ q,body.drop (2*cnt)=q:=⟨_,rfl⟩
 have HRL:=Aside0.mk (show rest.length=0 by rw [<- hrs,List.length_drop];omega)
 rw [hst,hrs] at HB
 rw [hst]
 have HR:=Aside0.mk hc0
 clear hr0 hch hb hl hc0 h1 hkey hu hlen hcn hbody h2 hst hrs hl0
 have hmf:∀ (fn:Fn) (first cap:Array Value) (w:World),(Instr.makeFunc fn first cap).run Tryz.prog w=.ok (.func fn first cap) w:=fun _ _ _ _=>rfl
 go_enter_defers Tryz.func140,Tryz.ntmps140
 go_wp2_with fail
 obtain ⟨po,hpo⟩:∃ po,w.heap.size=po:=⟨_,rfl⟩
 obtain ⟨W0,hW0⟩:∃ W0,(((w.alloc zero160).alloc (.cells #[.int .i64 0] 31)).alloc (.cells #[.slice A0 l0.length c0] 273))=W0:=⟨_,rfl⟩
 have hb0:Below w.heap.size w W0:=by rw [<- hW0];exact below_alloc (below_alloc (below_alloc (Below.refl _ _) _) _) _
 have hs0:W0.heap.size=po+3:=by rw [<- hW0,<- hpo];simp
 have ho0:W0.heap[po]?=some zero160:=by
  rw [<- hW0,<- hpo,heap_alloc_old _ _ (by simp;omega),heap_alloc_old _ _ (by simp)]
  exact heap_alloc_new _ _
 have he0:W0.heap[po+1]?=some (.cells #[.int .i64 0] 31 (0,0)):=by
  rw [<- hW0,<- hpo,heap_alloc_old _ _ (by simp)]
  have:=heap_alloc_new (w.alloc zero160) (.cells #[.int .i64 0] 31)
  rw [show (w.alloc zero160).heap.size=w.heap.size+1 from by simp] at this
  exact this
 have hg0:W0.heap[po+1+1]?=some (.cells #[.slice A0 l0.length c0] 273 (0,0)):=by
  rw [<- hW0,<- hpo]
  have:=heap_alloc_new ((w.alloc zero160).alloc (.cells #[.int .i64 0] 31)) (.cells #[.slice A0 l0.length c0] 273)
  rw [show ((w.alloc zero160).alloc (.cells #[.int .i64 0] 31)).heap.size=w.heap.size+1+1 from by simp] at this
  exact this
 have hrd:RdAt (fun W=>W0.grownBy W (some (po+1+1))) W0 W0 (po+1+1) l0 A0 c0:=⟨⟨rfl,rfl,rfl,Nat.le_refl _,fun _ _ _=>rfl⟩,by omega,hg0,HR.out,fun W hW=>Kd.C_below HC.out (hb0.trans ⟨hW.os,hW.tape,hW.output,hW.size,fun k hk=>hW.block k (by omega) (by simp;omega)⟩),fun _ h=>h⟩
 have hcall:=HB.out (po+1+1) A0 c0 W0 W0 hrd
 rw [hpo]
 simp only [zero160] at hW0
 rw [hW0]
 have HB0:=Aside0.mk hb0
 have HPO:=Aside0.mk hpo
 have HS0:=Aside0.mk hs0
 have HO0:=Aside0.mk ho0
 have HE0:=Aside0.mk he0
 obtain ⟨pe,hpe⟩:∃ pe,po+1=pe:=⟨_,rfl⟩
 obtain ⟨pg,hpg⟩:∃ pg,pe+1=pg:=⟨_,rfl⟩
 rw [hpe] at HE0 hcall ⊢
 rw [hpg] at hcall ⊢
 have n1:¬ pg=po:=by omega
 have n2:¬ pg=pe:=by omega
 have n3:¬ pe=po:=by omega
 have HPE:=Aside0.mk hpe
 have HPG:=Aside0.mk hpg
 clear hb0 hpo hs0 ho0 he0 hg0 hrd hW0 hpe hpg
 refine hcall.mono ?_
 rintro e W1 ⟨hg1,v,rfl,hv,A1,c1,hrd1⟩
 clear hcall
 have ho1:W1.heap[po]?=some zero160:=by rw [hg1.block po (by have:=HS0.out;omega) (by simp;omega)];exact HO0.out
 have d0:W1.cell? ⟨po,0,none⟩=some (.int .i64 0):=by simp [World.cell?,ho1,zero160]
 have d1:W1.cell? ⟨po,1,none⟩=some (.string ⟨#[]⟩):=by simp [World.cell?,ho1,zero160]
 have d2:W1.cell? ⟨po,2,none⟩=some (.int .i64 0):=by simp [World.cell?,ho1,zero160]
 have d3:W1.cell? ⟨po,3,none⟩=some (.slice none 0 0):=by simp [World.cell?,ho1,zero160]
 have f0:∀ j,W1.frozen? ⟨po,j,none⟩=false:=by intro j;simp [World.frozen?,ho1,zero160]
 obtain ⟨Av,cv,rfl⟩:=Kd.R_slice hv
 have HV:=Aside0.mk hv
 have HRD1:=Aside0.mk hrd1
 have HG1:=Aside0.mk hg1
 have HO1:=Aside0.mk ho1
 clear hv hrd1 hg1 ho1
 have f00:=f0 0
 have f01:=f0 1
 have f02:=f0 2
 have f03:=f0 3
 clear f0
 have g1:W1.cell? ⟨pg,0,none⟩=some (.slice A1 rest.length c1):=by simp [World.cell?,HRD1.out.cell]
 obtain ⟨nv,hnv⟩:∃ nv,st.length=nv:=⟨_,rfl⟩
 rw [hnv]
 have HNV:=Aside0.mk hnv
 clear hnv
 go_upto_region 4 with fail
 have hgr:=(((grown_cell W1 po 0 (.int .i64 kd)).trans (grown_cell _ po 1 (.string key))).trans ((grown_cell _ po 2 (.int .i64 len)).trans (grown_cell _ po 3 (.slice Av nv cv))))
 have h4:=four_cells W1 po (.int .i64 kd) (.string key) (.int .i64 len) (.slice Av nv cv) _ _ _ _ HO1.out
 obtain ⟨W2,hW2⟩:∃ W2,((((W1.setCell ⟨po,0,none⟩ (.int .i64 kd)).setCell ⟨po,1,none⟩ (.string key)).setCell ⟨po,2,none⟩ (.int .i64 len)).setCell ⟨po,3,none⟩ (.slice Av nv cv))=W2:=⟨_,rfl⟩
 rw [hW2] at hgr h4 ⊢
 clear hW2 d0 d1 d2 d3 f00 f01 f02 f03
 have g2:W2.cell? ⟨pg,0,none⟩=some (.slice A1 rest.length c1):=(World.cell?_of_block (a:=⟨pg,0,none⟩) (hgr.block pg HRD1.out.lt (by simp;omega))).trans g1
 have he2:W2.heap[pe]?=some (.cells #[.int .i64 0] 31 (0,0)):=by
  rw [hgr.block pe (Nat.lt_of_lt_of_le (by have:=HS0.out;have:=HPE.out;omega) HG1.out.size) (by simp;omega),HG1.out.block pe (by have:=HS0.out;have:=HPE.out;omega) (by simp;omega)]
  exact HE0.out
 have d0:W2.cell? ⟨po,0,none⟩=some (.int .i64 kd):=by simp [World.cell?,h4]
 have d1:W2.cell? ⟨po,1,none⟩=some (.string key):=by simp [World.cell?,h4]
 have d2:W2.cell? ⟨po,2,none⟩=some (.int .i64 len):=by simp [World.cell?,h4]
 have d3:W2.cell? ⟨po,3,none⟩=some (.slice Av nv cv):=by simp [World.cell?,h4]
 have f0:∀ j,W2.frozen? ⟨po,j,none⟩=false:=by intro j;simp [World.frozen?,h4]
 have H4:=Aside0.mk h4
 have HGR:=Aside0.mk hgr
 have HE2:=Aside0.mk he2
 clear h4 hgr g1 he2
 have hr2:¬ (0:Int) < (rest.length:Int):=by have:=HRL.out;omega
 obtain ⟨nr,hnr⟩:∃ nr,rest.length=nr:=⟨_,rfl⟩
 rw [hnr] at g2 hr2
 go_upto_region 6 with fail
 have e2:W2.cell? ⟨pe,0,none⟩=some (.int .i64 0):=by simp [World.cell?,HE2.out]
 have fe:W2.frozen? ⟨pe,0,none⟩=false:=by simp [World.frozen?,HE2.out]
 have f00:=f0 0
 have f01:=f0 1
 have f02:=f0 2
 have f03:=f0 3
 have n4:¬ po=pe:=by omega
 clear g2 hr2 f0
 go_wp2_with fail
 have hg3:=(((grown_cell W2 po 0 (.int .i64 kd)).trans (grown_cell _ po 1 (.string key))).trans ((grown_cell _ po 2 (.int .i64 len)).trans (grown_cell _ po 3 (.slice Av nv cv))))
 have h43:=four_cells W2 po (.int .i64 kd) (.string key) (.int .i64 len) (.slice Av nv cv) _ _ _ _ H4.out
 obtain ⟨W3,hW3⟩:∃ W3,((((W2.setCell ⟨po,0,none⟩ (.int .i64 kd)).setCell ⟨po,1,none⟩ (.string key)).setCell ⟨po,2,none⟩ (.int .i64 len)).setCell ⟨po,3,none⟩ (.slice Av nv cv))=W3:=⟨_,rfl⟩
 rw [hW3] at hg3 h43 ⊢
 have he3:W3.heap[pe]?=some (.cells #[.int .i64 0] 31 (0,0)):=by
  rw [hg3.block pe (Array.getElem?_eq_some_iff.1 HE2.out).1 (by simp;omega)]
  exact HE2.out
 have he4:(W3.setCell ⟨pe,0,none⟩ (.int .i64 0)).heap[pe]?=some (.cells #[.int .i64 0] 31 (0,0)):=by simp [World.setCell,Array.getElem?_modify,he3]
 have hg4:=grown_cell W3 pe 0 (.int .i64 0)
 have ho4:=hg4.block po (Array.getElem?_eq_some_iff.1 h43).1 (by simp;omega)
 rw [h43] at ho4
 obtain ⟨W4,hW4⟩:∃ W4,W3.setCell ⟨pe,0,none⟩ (.int .i64 0)=W4:=⟨_,rfl⟩
 rw [hW4] at he4 hg4 ho4 ⊢
 refine leaves_cons (f:=166) (args:=#[.pointer (some ⟨pe,0,none⟩),.pointer (some ⟨po,0,none⟩)]) (by simp) (by simp [go_sem]) ?_
 refine (decode_idle pe po 0 W4 he4).mono ?_
 rintro e u' w'' ⟨rfl,rfl,rfl⟩
 have hg5:=grown_cell W4 pe 0 (.int .i64 0)
 have he5:(W4.setCell ⟨pe,0,none⟩ (.int .i64 0)).heap[pe]?=some (.cells #[.int .i64 0] 31 (0,0)):=by simp [World.setCell,Array.getElem?_modify,he4]
 have ho5:=hg5.block po (Array.getElem?_eq_some_iff.1 ho4).1 (by simp;omega)
 rw [ho4] at ho5
 obtain ⟨W5,hW5⟩:∃ W5,W4.setCell ⟨pe,0,none⟩ (.int .i64 0)=W5:=⟨_,rfl⟩
 rw [hW5] at he5 hg5 ho5 ⊢
 have q0:W5.cell? ⟨po,0,none⟩=some (.int .i64 kd):=by simp [World.cell?,ho5]
 have q1:W5.cell? ⟨po,1,none⟩=some (.string key):=by simp [World.cell?,ho5]
 have q2:W5.cell? ⟨po,2,none⟩=some (.int .i64 len):=by simp [World.cell?,ho5]
 have q3:W5.cell? ⟨po,3,none⟩=some (.slice Av nv cv):=by simp [World.cell?,ho5]
 have q4:W5.cell? ⟨pe,0,none⟩=some (.int .i64 0):=by simp [World.cell?,he5]
 have hsz:=HS0.out
 have hpo1:=HPO.out
 have hpe1:=HPE.out
 have hpg1:=HPG.out
 have hlow:∀ k,k < po->W5.heap[k]?=W0.heap[k]? :=by
  intro k hk
  have a1:=HG1.out.size
  have a2:=HGR.out.size
  have a3:=hg3.size
  have a4:=hg4.size
  rw [hg5.block k (by omega) (by simp;omega),hg4.block k (by omega) (by simp;omega),hg3.block k (by omega) (by simp;omega),HGR.out.block k (by omega) (by simp;omega),HG1.out.block k (by omega) (by simp;omega)]
 have hbel:Below w.heap.size w W5:=by
  have b:=HB0.out
  have a1:=HG1.out
  have a2:=HGR.out
  refine b.trans ⟨hg5.os.trans (hg4.os.trans (hg3.os.trans (a2.os.trans a1.os))),hg5.tape.trans (hg4.tape.trans (hg3.tape.trans (a2.tape.trans a1.tape))),hg5.output.trans (hg4.output.trans (hg3.output.trans (a2.output.trans a1.output))),Nat.le_trans a1.size (Nat.le_trans a2.size (Nat.le_trans hg3.size (Nat.le_trans hg4.size hg5.size))),fun k hk=>hlow k (by omega)⟩
 have hown:Kd.R (Kd.int .i64) 3 W5 w.heap.size (fun _=>True) (.slice Av nv cv) st:=by
  have v0:=HV.out
  rw [HNV.out] at v0
  have v2:=Kd.R_grown2 v0 rfl HGR.out (fun k hk e=>by cases hk;exact Kd.R_ne v0 HO1.out (by decide) e)
  have v3:=Kd.R_grown2 v2 rfl hg3 (fun k hk e=>by cases hk;exact Kd.R_ne v2 H4.out (by decide) e)
  have v4:=Kd.R_grown2 v3 rfl hg4 (fun k hk e=>by cases hk;exact Kd.R_ne v3 he3 (by decide) e)
  have v5:=Kd.R_grown2 v4 rfl hg5 (fun k hk e=>by cases hk;exact Kd.R_ne v4 he4 (by decide) e)
  exact Kd.R_lower v5 HB0.out.size
 simp [Leaves,settle,results,Tryz.results140,go_sem,q0,q1,q2,q3,q4]
 exact ⟨hown,hbel⟩
theorem decodeA (A0:Option Addr) (c0:Nat) (w:World) (hr0:Kd.C (Kd.int .u8) w A0 11 [1,1,97,0,0,0,1,0,1,0,0]) (hc0:11<=c0) :
  Calls Tryz.prog 140 #[.slice A0 11 c0] w fun e w'=>∃ v:Value,e=.returned (.tuple #[.agg #[.int .i64 1,.string ⟨#[97]⟩,.int .i64 1,v],.int .i64 0])/\Kd.R (Kd.int .i64) 3 w' w.heap.size (fun _=>True) v [0]/\Below w.heap.size w w' :=
 decode_run A0 c0 1 1 [97,0,0,0,1,0,1,0,0] [1,1,97,0,0,0,1,0,1,0,0] rfl w hr0 hc0 (by decide) (by decide) (by decide) ⟨#[97]⟩ rfl [0,0,0,1,0,1,0,0] rfl 1 (by decide) 1 (by decide) [0,0] rfl rfl (by decide)
set_option maxHeartbeats 2000000 in
theorem unsnap_catch (pe po:Nat) (x:Int) (x0:Value) (older:List PanicEntry) (w:World) (he:w.heap[pe]?=some (.cells #[.int .i64 x] 31 (0,0))) (ho:w.heap[po]?=some (.cells #[x0] 103 (0,0))) (hne:pe≠po) :
  CallsD Tryz.prog 184 #[.pointer (some ⟨pe,0,none⟩),.pointer (some ⟨po,0,none⟩)] (.panicking ({ v:=.iface 31 (.int .i64 160),recovered:=false } :: older)) w fun e u' w' =>
   e=.returned (.tuple #[])/\u'=.panicking ({ v:=.iface 31 (.int .i64 160),recovered:=true } :: older)/\w'.heap[pe]?=some (.cells #[.int .i64 160] 31 (0,0))/\w'.heap[po]?=some (.cells #[.slice none 0 0] 103 (0,0))/\∀ B,B<=pe->B<=po->Below B w w':=by
 have c0:w.cell? ⟨pe,0,none⟩=some (.int .i64 x):=by simp [World.cell?,he]
 have z0':w.frozen? ⟨pe,0,none⟩=false:=by simp [World.frozen?,he]
 obtain ⟨w1,hw1⟩:∃ w1,w.setCell ⟨pe,0,none⟩ (.int .i64 160)=w1:=⟨_,rfl⟩
 have he1:w1.heap[pe]?=some (.cells #[.int .i64 160] 31 (0,0)):=by rw [<- hw1];simp [World.setCell,Array.getElem?_modify,he]
 have ho1:w1.heap[po]?=some (.cells #[x0] 103 (0,0)):=by
  rw [<- hw1,(grown_cell w pe 0 _).block po (Array.getElem?_eq_some_iff.1 ho).1 (by simp;omega)]
  exact ho
 have c1:w1.cell? ⟨pe,0,none⟩=some (.int .i64 160):=by simp [World.cell?,he1]
 have d0:w1.cell? ⟨po,0,none⟩=some x0:=by simp [World.cell?,ho1]
 have f0:∀ j,w1.frozen? ⟨po,j,none⟩=false:=by intro j;simp [World.frozen?,ho1]
 have hbl:∀ B,B<=pe->Below B w w1:=fun B hB=>by rw [<- hw1];exact below_cell w pe 0 _ hB
 refine callsD_of_wpS Tryz.func184 rfl fun c₀ cs hu=>?_
 apply wpS_seq
 apply wpS_region
 simp [wpOpsS,go_sem,recoverD,hu,Tryz.ntmps184,Exit.thenS]
 refine (caught_err w).mono ?_
 rintro e w' ⟨rfl,rfl⟩
 simp [go_sem,c0,z0',hw1]
 apply wpS_seq
 apply wpS_region
 simp [wpOpsS,go_sem,c1,Exit.thenS]
 refine wpS_cond (t:=true) (by simp [Act.eval,Array.replicate]) ?_
 simp only [if_true]
 apply wpS_region
 simp [wpOpsS,go_sem,d0,f0,bodyPostS,results,Tryz.results184]
 have hgr:=grown_cell w1 po 0 (.slice none 0 0)
 refine ⟨?_,?_,fun B h1 h2=>(hbl B h1).trans (below_cell w1 po 0 _ h2)⟩
 ·rw [hgr.block pe (Array.getElem?_eq_some_iff.1 he1).1 (by simp;omega)]
  exact he1
 ·simp [World.setCell,Array.getElem?_modify,ho1]
set_option maxHeartbeats 2000000 in
theorem unsnap_idle (pe po:Nat) (x:Int) (w:World) (he:w.heap[pe]?=some (.cells #[.int .i64 x] 31 (0,0))) :
  CallsD Tryz.prog 184 #[.pointer (some ⟨pe,0,none⟩),.pointer (some ⟨po,0,none⟩)] .returning w fun e u' w' =>
   e=.returned (.tuple #[])/\u'=.returning/\w'=w.setCell ⟨pe,0,none⟩ (.int .i64 0):=by
 have c0:w.cell? ⟨pe,0,none⟩=some (.int .i64 x):=by simp [World.cell?,he]
 have z0':w.frozen? ⟨pe,0,none⟩=false:=by simp [World.frozen?,he]
 obtain ⟨w1,hw1⟩:∃ w1,w.setCell ⟨pe,0,none⟩ (.int .i64 0)=w1:=⟨_,rfl⟩
 have he1:w1.heap[pe]?=some (.cells #[.int .i64 0] 31 (0,0)):=by rw [<- hw1];simp [World.setCell,Array.getElem?_modify,he]
 have c1:w1.cell? ⟨pe,0,none⟩=some (.int .i64 0):=by simp [World.cell?,he1]
 refine callsD_of_wpS Tryz.func184 rfl fun c₀ cs hu=>?_
 apply wpS_seq
 apply wpS_region
 simp [wpOpsS,go_sem,recoverD,hu,Tryz.ntmps184,Exit.thenS]
 refine (caught_nil w).mono ?_
 rintro e w' ⟨rfl,rfl⟩
 simp [go_sem,c0,z0',hw1]
 apply wpS_seq
 apply wpS_region
 simp [wpOpsS,go_sem,c1,Exit.thenS]
 refine wpS_cond (t:=false) (by simp [Act.eval,Array.replicate]) ?_
 simp only [Bool.false_eq_true,if_false]
 refine wpS_of_wp (wp_skip ?_)
 cases c₀
 simp_all [bodyPostS,results,Tryz.results184]
structure Us (w W:World) (po pe pg:Nat) (u:Value) (b:List Int):Prop where
 below:Below w.heap.size w W
 out:W.heap[po]?=some (.cells #[.slice none 0 0] 103 (0,0))
 err:W.heap[pe]?=some (.cells #[.int .i64 0] 31 (0,0))
 rdr:W.heap[pg]?=some (.cells #[u] 273 (0,0))
 geo:w.heap.size<=po
 gee:w.heap.size<=pe
 geg:w.heap.size<=pg
 n1:pe≠po
 n2:pg≠po
 n3:pg≠pe
 own:Kd.R (Kd.int .u8) 5 W w.heap.size (fun _=>True) u b
theorem Us.over {w W W':World} {po pe pg:Nat} {u:Value} {b:List Int} (h:Us w W po pe pg u b) (hg:W.grownBy W' u.ownBlock) (u':Value) (b':List Int) (ho:Kd.R (Kd.int .u8) 5 W' w.heap.size (fun _=>True) u' b'):W'.heap[pg]?=W.heap[pg]?/\Us w (W'.setCell ⟨pg,0,none⟩ u') po pe pg u' b':=by
 have hl1:=(Array.getElem?_eq_some_iff.1 h.out).1
 have hl2:=(Array.getElem?_eq_some_iff.1 h.err).1
 have hl3:=(Array.getElem?_eq_some_iff.1 h.rdr).1
 have e1:W'.heap[po]?=W.heap[po]? :=hg.block po hl1 (Kd.R_ne h.own h.out (by decide))
 have e2:W'.heap[pe]?=W.heap[pe]? :=hg.block pe hl2 (Kd.R_ne h.own h.err (by decide))
 have e3:W'.heap[pg]?=W.heap[pg]? :=hg.block pg hl3 (Kd.R_ne h.own h.rdr (by decide))
 have hgr:=grown_cell W' pg 0 u'
 have hold:∀ k,k < w.heap.size->W'.heap[k]?=W.heap[k]? :=fun k hk=>hg.block k (Nat.lt_of_lt_of_le hk h.below.size) (fun e=>by have:=Kd.R_base h.own k e.symm;omega)
 refine ⟨e3,(h.below.trans ⟨hg.os,hg.tape,hg.output,hg.size,hold⟩).trans (below_cell W' pg 0 u' h.geg),?_,?_,?_,h.geo,h.gee,h.geg,h.n1,h.n2,h.n3,?_⟩
 ·rw [hgr.block po (Nat.lt_of_lt_of_le hl1 hg.size) (by have:=h.n2;simp;omega),e1]
  exact h.out
 ·rw [hgr.block pe (Nat.lt_of_lt_of_le hl2 hg.size) (by have:=h.n3;simp;omega),e2]
  exact h.err
 ·have:=h.rdr
  rw [<- e3] at this
  simp [World.setCell,Array.getElem?_modify,this]
 ·have ho3:=h.rdr
  rw [<- e3] at ho3
  exact Kd.R_grown2 ho rfl hgr (fun k hk e=>by
   cases hk
   exact Kd.R_ne ho ho3 (by decide) e)
theorem Us.rows {w W:World} {po pe pg:Nat} {u:Value} {b:List Int} (h:Us w W po pe pg u b):∃ A c,u=.slice A b.length c/\RdAt (fun W'=>∀ k,some k=u.ownBlock->W'.heap[k]?=W.heap[k]?) W W pg b A c:=by
 obtain ⟨A,c,rfl⟩:=Kd.R_slice h.own
 have h1:=Kd.R_reads' h.own
 refine ⟨A,c,rfl,⟨rfl,rfl,rfl,Nat.le_refl _,fun _ _ _=>rfl⟩,(Array.getElem?_eq_some_iff.1 h.rdr).1,h.rdr,h1.2.1,fun W' hW=>?_,fun W' hW k hk=>?_⟩
 ·have hfl:Kd.R (Kd.int .u8) 5 W w.heap.size (fun k=>some k=(Value.slice A b.length c).ownBlock) (.slice A b.length c) b:=Kd.R_flat (fun hm=>hm) h.own (fun k hk _=>hk.symm)
  exact Kd.F_now (Kd.F_step (Kd.R_F hfl) (fun k hk _=>hW k hk))
 ·refine hW.block k (Kd.R_lt h.own k hk.symm) (fun e=>?_)
  cases e
  exact Kd.R_ne h.own h.rdr (by decide) hk
theorem unsnap_idle2 (pe po:Nat) {w W:World} {u:Value} (h:W.heap[po]?=some (.cells #[.slice none 0 0] 103 (0,0))/\W.heap[pe]?=some (.cells #[.int .i64 0] 31 (0,0))/\Below w.heap.size w W) (hge:w.heap.size<=po/\w.heap.size<=pe) (hne:pe≠po) (b:Nat) (hb:b=po∨b=pe) (hv:b=po->u=.slice none 0 0) (hv2:b=pe->u=.int .i64 0) :
  (W.setCell ⟨b,0,none⟩ u).heap[po]?=some (.cells #[.slice none 0 0] 103 (0,0))/\(W.setCell ⟨b,0,none⟩ u).heap[pe]?=some (.cells #[.int .i64 0] 31 (0,0))/\Below w.heap.size w (W.setCell ⟨b,0,none⟩ u):=by
 rcases hb with rfl|rfl
 ·obtain rfl:=hv rfl
  exact ⟨set_cells h.1 0 _,((grown_cell W b 0 _).block pe (blk_lt h.2.1) (by simp;omega)).trans h.2.1,h.2.2.trans (below_cell W b 0 _ hge.1)⟩
 ·obtain rfl:=hv2 rfl
  exact ⟨((grown_cell W b 0 _).block po (blk_lt h.1) (by simp;omega)).trans h.1,set_cells h.2.1 0 _,h.2.2.trans (below_cell W b 0 _ hge.2)⟩
def UnsP (w w':World) (e:Ending) (r:Int):Prop:=e=.returned (.tuple #[.slice none 0 0,.int .i64 r])/\Below w.heap.size w w'
set_option maxHeartbeats 4000000 in
theorem unsnap_run {ga c0:Nat} {d0:List Int} {r:Int} (hd:(d0=[0,0]/\r=0)∨(d0=[]/\r=160)) (w:World) (hr:Rs w (.slice (some ⟨ga,0,none⟩) 2 c0) [d0,[]]) :
  Calls Tryz.prog 163 #[.slice (some ⟨ga,0,none⟩) 2 c0] w fun e w'=>UnsP w w' e r:=by
 have hC:(Kd.slice 5 (Kd.int .u8)).C w (some ⟨ga,0,none⟩) 2 [d0,[]]:=by
  obtain ⟨A,c,e,_,h⟩:=hr
  cases e
  exact h
 have HC:=Aside0.mk hC
 have HD:=Aside0.mk hd
 clear hr hC hd
 have hmf:∀ (fn:Fn) (first cap:Array Value) (w:World),(Instr.makeFunc fn first cap).run Tryz.prog w=.ok (.func fn first cap) w:=fun _ _ _ _=>rfl
 go_enter_defers Tryz.func163,Tryz.ntmps163
 go_upto_region 3 with fail
 obtain ⟨po,hpo⟩:∃ po,w.heap.size=po:=⟨_,rfl⟩
 obtain ⟨pe,hpe⟩:∃ pe,po+1=pe:=⟨_,rfl⟩
 obtain ⟨pg,hpg⟩:∃ pg,pe+1=pg:=⟨_,rfl⟩
 have U0:Us w (((w.alloc (.cells #[.slice none 0 0] 103)).alloc (.cells #[.int .i64 0] 31)).alloc (.cells #[.slice none 0 0] 273)) po pe pg (.slice none 0 0) []:=by
  refine ⟨below_alloc (below_alloc (below_alloc (Below.refl _ _) _) _) _,?_,?_,?_,by omega,by omega,by omega,by omega,by omega,by omega,Kd.R_nil _ _ _ _ _⟩
  all_goals
   simp only [hal,hsz]
   repeat (first|rw [if_pos (by omega)]|rw [if_neg (by omega)])
 obtain ⟨W0,hW0⟩:∃ W0,(((w.alloc (.cells #[.slice none 0 0] 103)).alloc (.cells #[.int .i64 0] 31)).alloc (.cells #[.slice none 0 0] 273))=W0:=⟨_,rfl⟩
 rw [hW0] at U0 ⊢
 rw [hpo,hpe,hpg]
 have HU:=Aside0.mk U0
 have HPO:=Aside0.mk hpo
 clear U0 hW0 hpo hpe hpg
 go_wp2_with fail
 go_loopg [5,18] 2 (fun kq v5 v18 w'=>∃ (i:Nat) (u:Value),v5=.bool false/\v18=.int .i64 i/\Aside0 (i+kq=2)/\Aside0 (Us w w' po pe pg u (if i=0 then [] else d0)))
 case atStart=>exact ⟨0,.slice none 0 0,rfl,rfl,⟨by omega⟩,⟨by simpa using HU.out⟩⟩
 case round =>
  obtain ⟨i,u,rfl,rfl,HI,HT⟩:=hrel
  have hi:=HI.out
  have hcases:(i=0/\gk=2)∨(i=1/\gk=1)∨(i=2/\gk=0):=by omega
  have HCw:=Aside0.mk (Kd.C_below HC.out HT.out.below)
  have hxg:wr.cell? ⟨pg,0,none⟩=some u:=by simp [World.cell?,HT.out.rdr]
  clear hi HI
  rcases hcases with ⟨rfl,hgk⟩|⟨rfl,hgk⟩|⟨rfl,hgk⟩
  ·rw [if_pos rfl] at HT
   obtain ⟨ad,v0,ea,hx0,Ap,cp,rfl,hcp,hCp⟩:=Rs.at HCw.out 0 (by simp)
   cases ea
   rw [add_plain] at hx0
   obtain ⟨np,hnp⟩:∃ np,d0.length=np:=⟨_,rfl⟩
   rw [show ([d0,[]]:List (List Int)).getD 0 []=d0 from rfl] at hCp hx0
   have hn2:np<=2:=by rcases HD.out with ⟨e,_⟩|⟨e,_⟩ <;> (rw [e] at hnp;simp at hnp;omega)
   rw [hnp] at hx0 hCp
   have HP:=Aside0.mk (And.intro hCp hn2)
   have f1:¬ (4096:Int) < (np:Int):=by omega
   have HG:=Aside0.mk (And.intro hgk hnp)
   clear hCp hn2 hcp hnp hgk
   go_wp2_with (at_builtin;refine Kd.R_append_row (Value.int .u8) 0 (h1:=fun _=>rfl) (w0:=wr) w.heap.size rfl (.tmp 51) (.tmp 52) 36 5 (.int .u8 0) 1 rfl Tryz.underlying36 info5 rfl (by omega) u [] d0 Ap np cp (fun _=>True) rfl rfl (fun _ _=>trivial) ?aO ?aR (Below.refl _ _) ?aS ?aL ?_;(case aO=>exact HT.out.own);(case aR=>exact HP.out.1);(case aS=>exact HT.out.below.size);(case aL=>(have:=HP.out.2;simp;omega));intro v12 W12 ho12 hb12 hg12 hat12;obtain ⟨A12,c12,rfl⟩:=Kd.R_slice ho12;have T12:=HT.out.over hg12 _ _ ho12;have hc12:W12.cell? ⟨pg,0,none⟩=some u:=(World.cell?_of_block (a:=⟨pg,0,none⟩) T12.1).trans hxg;have hf12:W12.frozen? ⟨pg,0,none⟩=false:=(by rw [World.frozen?_of_block (a:=⟨pg,0,none⟩) T12.1];simp [World.frozen?,HT.out.rdr]);have HT12:=Aside0.mk T12.2;clear T12 ho12 hb12 hg12 hat12)
   go_roundg 1
   case measure=>have:=HG.out.1;omega
   case rel=>exact ⟨1,.slice A12 d0.length c12,rfl,rfl,⟨rfl⟩,⟨by simpa using HT12.out⟩⟩
  ·rw [if_neg (by decide)] at HT
   obtain ⟨ad,v0,ea,hx0,Ap,cp,rfl,hcp,hCp⟩:=Rs.at HCw.out 1 (by simp)
   cases ea
   rw [add_plain] at hx0
   rw [show ([d0,[]]:List (List Int)).getD 1 []=[] from rfl] at hCp hx0
   obtain ⟨np,hnp⟩:∃ np,([]:List Int).length=np:=⟨_,rfl⟩
   rw [hnp] at hx0 hCp
   have HP:=Aside0.mk (And.intro hCp (show d0.length<=2 by rcases HD.out with ⟨e,_⟩|⟨e,_⟩ <;> simp [e]))
   have f1:¬ (4096:Int) < (np:Int):=by simp at hnp;omega
   have f2:¬ (0:Int) < (np:Int):=by simp at hnp;omega
   have HG:=Aside0.mk (And.intro hgk hnp)
   clear hCp hcp hnp hgk
   go_wp2_with (at_builtin;refine Kd.R_append_row (Value.int .u8) 0 (h1:=fun _=>rfl) (w0:=wr) w.heap.size rfl (.tmp 51) (.tmp 52) 36 5 (.int .u8 0) 1 rfl Tryz.underlying36 info5 rfl (by omega) u d0 [] Ap np cp (fun _=>True) rfl rfl (fun _ _=>trivial) ?aO ?aR (Below.refl _ _) ?aS ?aL ?_;(case aO=>exact HT.out.own);(case aR=>exact HP.out.1);(case aS=>exact HT.out.below.size);(case aL=>(have:=HP.out.2;simp;omega));intro v12 W12 ho12 hb12 hg12 hat12;obtain ⟨A12,c12,rfl⟩:=Kd.R_slice ho12;have T12:=HT.out.over hg12 _ _ ho12;have hc12:W12.cell? ⟨pg,0,none⟩=some u:=(World.cell?_of_block (a:=⟨pg,0,none⟩) T12.1).trans hxg;have hf12:W12.frozen? ⟨pg,0,none⟩=false:=(by rw [World.frozen?_of_block (a:=⟨pg,0,none⟩) T12.1];simp [World.frozen?,HT.out.rdr]);have HT12:=Aside0.mk T12.2;clear T12 ho12 hb12 hg12 hat12)
   go_roundg 0
   case measure=>have:=HG.out.1;omega
   case rel=>exact ⟨2,.slice A12 d0.length c12,rfl,rfl,⟨rfl⟩,⟨by simpa using HT12.out⟩⟩
  ·rw [if_neg (by decide)] at HT
   obtain ⟨Ar,cr,rfl,hrd⟩:=HT.out.rows
   have HRD:=Aside0.mk hrd
   have HH:=Aside0.mk HT.out
   clear hrd hxg hgk HT
   rcases HD.out with ⟨rfl,rfl⟩|⟨rfl,rfl⟩
   ·have hnum:Calls Tryz.prog 185 #[.pointer (some ⟨pg,0,none⟩),.int .i64 2] wr fun e w'=>e=.returned (.int .i64 0)/\wr.grownBy w' (some pg)/\∃ A' c',w'.heap[pg]?=some (.cells #[.slice A' 0 c'] 273 (0,0)):=(number_ok pg [0,0] Ar cr 2 wr wr HRD.out (by decide) (by decide) (by decide)).mono (by rintro e w' ⟨rfl,h1,A',c',h2⟩;exact ⟨rfl,h1,A',c',h2.cell⟩)
    have HNU:=Aside0.mk hnum
    have HMY:=Aside0.mk (fun (W:World)=>may_ok (w:=W) (base:=0) (v:=.slice none 0 0) (L:=[]) ⟨World.ownsRow_nil _ _ _ _,fun _ h=>nomatch h⟩ ⟨fun _ h=>(by simp at h),fun _ _ _ h=>(by simp at h),by simp,by simp⟩)
    clear hnum HCw
    go_wp2_with (go_at_call 185;refine HNU.out.mono ?_;rintro e w1 ⟨rfl,hg1,A1,c1,hc1⟩;have HB:=Aside0.mk hg1;have k0:w1.cell? ⟨pg,0,none⟩=some (.slice A1 0 c1):=(by simp [World.cell?,hc1]);clear hg1 hc1)
    go_loopg [61] 0 (fun kq v61 w'=>v61=.int .i64 0/\w1=w')
    case atStart=>exact ⟨rfl,rfl⟩
    case round =>
     obtain ⟨rfl,rfl⟩:=hrel
     have g1:¬ (0:Int) < 0:=by omega
     have hU:w1.heap[po]?=some (.cells #[.slice none 0 0] 103 (0,0))/\w1.heap[pe]?=some (.cells #[.int .i64 0] 31 (0,0))/\Below w.heap.size w w1:=⟨(HB.out.block po (blk_lt HH.out.out) (by have:=HH.out.n2;simp;omega)).trans HH.out.out,(HB.out.block pe (blk_lt HH.out.err) (by have:=HH.out.n3;simp;omega)).trans HH.out.err,HH.out.below.trans ⟨HB.out.os,HB.out.tape,HB.out.output,HB.out.size,fun k hk=>HB.out.block k (Nat.lt_of_lt_of_le hk HH.out.below.size) (by have:=HH.out.geg;simp;omega)⟩⟩
     have x0:w1.cell? ⟨po,0,none⟩=some (.slice none 0 0):=by simp [World.cell?,hU.1]
     have HUU:=Aside0.mk hU
     have n1:¬ po=pe:=fun e=>HH.out.n1 e.symm
     have n9:¬ pe=po:=HH.out.n1
     clear hU
     go_wp2_with (go_at_call 79;refine (HMY.out _).mono ?_;rintro e w2 ⟨rfl,hb2⟩;have H2:=Aside0.mk (show w2.heap[po]?=some (.cells #[.slice none 0 0] 103 (0,0))/\w2.heap[pe]?=some (.cells #[.int .i64 0] 31 (0,0))/\Below w.heap.size w w2 from ⟨(hb2.block _ (blk_lt HUU.out.1)).trans HUU.out.1,(hb2.block _ (blk_lt HUU.out.2.1)).trans HUU.out.2.1,below_step HUU.out.2.2 hb2⟩);have y0:w2.cell? ⟨po,0,none⟩=some (.slice none 0 0):=(by simp [World.cell?,H2.out.1]);have z0:w2.frozen? ⟨po,0,none⟩=false:=(by simp [World.frozen?,H2.out.1]);have y1:w2.cell? ⟨pe,0,none⟩=some (.int .i64 0):=(by simp [World.cell?,H2.out.2.1]);have z1:w2.frozen? ⟨pe,0,none⟩=false:=(by simp [World.frozen?,H2.out.2.1]);clear hb2)
     have h3:=unsnap_idle2 pe po (unsnap_idle2 pe po H2.out ⟨HH.out.geo,HH.out.gee⟩ HH.out.n1 po (.inl rfl) (fun _=>rfl) (fun e=>absurd e n1)) ⟨HH.out.geo,HH.out.gee⟩ HH.out.n1 pe (.inr rfl) (fun e=>absurd e n9) (fun _=>rfl)
     obtain ⟨W3,hW3⟩:∃ q,(w2.setCell ⟨po,0,none⟩ (.slice none 0 0)).setCell ⟨pe,0,none⟩ (.int .i64 0)=q:=⟨_,rfl⟩
     rw [hW3] at h3 ⊢
     refine leaves_cons (f:=184) (args:=#[.pointer (some ⟨pe,0,none⟩),.pointer (some ⟨po,0,none⟩)]) (by simp) (by simp [go_sem]) ?_
     refine (unsnap_idle pe po 0 W3 h3.2.1).mono ?_
     rintro e u' w'' ⟨rfl,rfl,rfl⟩
     have h4:=unsnap_idle2 pe po h3 ⟨HH.out.geo,HH.out.gee⟩ HH.out.n1 pe (.inr rfl) (fun e=>absurd e n9) (fun _=>rfl)
     obtain ⟨W4,hW4⟩:∃ q,W3.setCell ⟨pe,0,none⟩ (.int .i64 0)=q:=⟨_,rfl⟩
     rw [hW4] at h4 ⊢
     have q0:W4.cell? ⟨po,0,none⟩=some (.slice none 0 0):=by simp [World.cell?,h4.1]
     have q4:W4.cell? ⟨pe,0,none⟩=some (.int .i64 0):=by simp [World.cell?,h4.2.1]
     simp [Leaves,settle,results,Tryz.results163,go_sem,q0,q4]
     exact ⟨rfl,h4.2.2⟩
   ·have HNU:=Aside0.mk (number_no pg [] Ar cr 2 wr wr HRD.out (by decide))
    clear HCw
    go_wp2_with (go_at_call 185;refine HNU.out.mono ?_;rintro e w1 ⟨rfl,hw1⟩;obtain rfl:=hw1.symm)
    refine leaves_cons (f:=184) (args:=#[.pointer (some ⟨pe,0,none⟩),.pointer (some ⟨po,0,none⟩)]) (by simp) (by simp [go_sem]) ?_
    refine (unsnap_catch pe po 0 (.slice none 0 0) [] wr HH.out.err HH.out.out HH.out.n1).mono ?_
    rintro e u' w'' ⟨rfl,rfl,he3,ho3,hb3⟩
    have q0:w''.cell? ⟨po,0,none⟩=some (.slice none 0 0):=by simp [World.cell?,ho3]
    have q4:w''.cell? ⟨pe,0,none⟩=some (.int .i64 160):=by simp [World.cell?,he3]
    simp [Leaves,settle,results,Tryz.results163,go_sem,q0,q4]
    exact ⟨rfl,HH.out.below.trans (hb3 _ HH.out.gee HH.out.geo)⟩
end Go.Proofs.YtmmcbncpnlknbaaGreat.Top.Rd
namespace Go.Proofs.YtmmcbncpnlknbaaGreat.Top
open Go Go.RowKit Go.Proofs.YtmmcbncpnlknbaaGreatW.PrintWords Go.Proofs.YtmmcbncpnlknbaaGreatW.PrintLast Go.Proofs.YtmmcbncpnlknbaaGreatW.PrintMore
set_option maxRecDepth 100000
theorem equal_ok {w:World} {v1 v2:Value} {l:List Int} (h1:Bs w v1 l) (h2:Bs w v2 l):Calls Tryz.prog 136 #[v1,v2] w fun e w'=>e=.returned (.bool true)/\w'=w:=by
 obtain ⟨A1,c1,rfl,hc1,hC1⟩:=h1
 obtain ⟨A2,c2,rfl,hc2,hC2⟩:=h2
 have k1:=Kd.C_string (P:=Tryz.prog) (src:=36) (dst:=9) (e:=5) (c:=c1) Tryz.underlying36 (by kernel_rfl) Tryz.underlying9 hC1
 have k2:=Kd.C_string (P:=Tryz.prog) (src:=36) (dst:=9) (e:=5) (c:=c2) Tryz.underlying36 (by kernel_rfl) Tryz.underlying9 hC2
 obtain ⟨s,hs⟩:∃ s,strOfNums l=s:=⟨_,rfl⟩
 obtain ⟨n,hn⟩:∃ n,l.length=n:=⟨_,rfl⟩
 rw [hs,hn] at k1 k2
 rw [hn]
 clear hc1 hC1 hc2 hC2 hs hn
 go_enter Tryz.func136,Tryz.ntmps136
 go_wp2
 go_ret
 simp
set_option maxHeartbeats 2000000 in
theorem knows_ok {B n T a:Nat} {w:World} {S:Nat->Prop} {sec:Int} {dead:Nat->Bool} {E:Nat->Int->List Int} {cl:Bool} (h:Ax B w a S sec n T dead E cl) (h1:0 < sec) (hE:∀ i,i < n->dead i=false->E i 0=SecA.sect 0 0 [76]) :
  Calls Tryz.prog 104 #[.pointer (some ⟨a,0,none⟩)] w fun e w'=>∃ v,e=.returned (.tuple #[v,.int .i64 0])/\Bo w' v ((List.range n).map fun i=>!dead i)/\Below w.heap.size w w':=by
 have hn:=h.n32
 have HH:=Aside0.mk (And.intro h (And.intro h1 hE))
 clear h h1 hE
 go_enter Tryz.func104,Tryz.ntmps104
 go_wp2_with (first|(go_at_call 50;go_loud (refine HH.out.1.live.mono ?_;rintro e1 w1 ⟨v1,rfl,hv1,hb1⟩;obtain ⟨A1,c1,rfl⟩:=Kd.R_slice hv1;have H1:=Aside0.mk hb1;rw [List.length_map,List.length_range];clear hv1 hb1)))
 go_loopg [4,13] n (fun kq v p wr=>∃ i:Nat,p=.int .i64 i/\i+kq=n/\Aside0 (Kd.R Kd.bool 4 wr w.heap.size (fun _=>True) v ((List.range i).map fun i=>!dead i)/\Below w.heap.size w wr))
 case atStart=>exact ⟨0,rfl,by omega,⟨Kd.R_nil _ _ _ _ _,H1.out⟩⟩
 case round =>
  obtain ⟨i,rfl,hik,HX⟩:=hrel
  by_cases hin:i < n
  ·have g1:(i:Int) < (n:Int):=by omega
   have gw:wrap64 ((i:Int)+1)=(i:Int)+1:=w64 _ (by omega)
   have hx:=HX.out.1
   obtain ⟨A2,c2,rfl⟩:=Kd.R_slice hx
   rw [List.length_map,List.length_range]
   have HR:=Aside0.mk (aread1 (HH.out.1.below HX.out.2) i hin 0 (Int.le_refl 0) HH.out.2.1)
   have hEi:=HH.out.2.2 i hin
   clear hx
   cases hdd:dead i with
   | true =>
    rw [hdd] at HR
    have hd2:(!dead i)=false:=by simp [hdd]
    have HD:=Aside0.mk hd2
    clear hd2
    go_wp2_with (first|(go_at_call 135;go_loud (refine HR.out.mono ?_;rintro e1 w2 ⟨v2,rfl,hv2,hb2⟩;have H2:=Aside0.mk hb2;clear hv2 hb2))|(at_builtin;go_loud (refine Kd.R_append Kd.bool (w0:=w) w.heap.size rfl (.tmp 25) (.tmp 33) 120 4 (.bool false) 1 rfl Tryz.underlying120 info4 rfl (by decide) (by decide) (.slice A2 i c2) ((List.range i).map (fun i=>!dead i)) false [.bool false] (fun _=>True) (fun k=>some k≠(Value.slice A2 i c2).ownBlock) rfl rfl rfl (fun _ hk=>⟨trivial,hk⟩) (fun _ _=>trivial) (by have:=Kd.R_below HX.out.1 H2.out;rw [List.length_map,List.length_range] at this;exact this) (below_step HX.out.2 H2.out) (below_step HX.out.2 H2.out).size (by simp;omega) ?_;intro v3 w3 ho3 hb3 hg3 hat3;have HO3:=Aside0.mk ho3;have HB3:=Aside0.mk hb3;clear ho3 hb3 hg3 hat3)))
    go_roundg (n - (i+1))
    case measure=>exact meas5 hin hik
    case rel=>exact ⟨i+1,by simp [gw],meas4 hin,⟨by rw [List.range_succ,List.map_append,List.map_singleton,HD.out];exact HO3.out,HB3.out⟩⟩
   | false =>
    rw [hdd] at HR
    have hd2:(!dead i)=true:=by simp [hdd]
    have hrd:rdL dead E 0 i=SecA.sect 0 0 [76]:=by
     unfold rdL
     rw [hdd]
     exact hEi hdd
    rw [hrd] at HR
    have HD:=Aside0.mk hd2
    clear hd2 hrd
    go_wp2_with (first|(go_at_call 136;go_loud (refine (equal_ok (H2.out.2.below H4.out.2) H4.out.1).mono ?_;rintro e1 w5 ⟨rfl,hw5⟩;obtain rfl:=hw5.symm;clear hw5))|(go_at_call 52;go_loud (refine (label_ok _).mono ?_;rintro e4 w4 ⟨v4,rfl,hv4,hb4⟩;have H4:=Aside0.mk (And.intro (Bs.of_R hv4) hb4);clear hv4 hb4))|(go_at_call 135;go_loud (refine HR.out.mono ?_;rintro e1 w2 ⟨v2,rfl,hv2,hb2⟩;have H2:=Aside0.mk (And.intro hb2 hv2);clear hv2 hb2))|(at_builtin;go_loud (refine Kd.R_append Kd.bool (w0:=w) w.heap.size rfl (.tmp 25) (.tmp 33) 120 4 (.bool false) 1 rfl Tryz.underlying120 info4 rfl (by decide) (by decide) (.slice A2 i c2) ((List.range i).map (fun i=>!dead i)) true [.bool true] (fun _=>True) (fun k=>some k≠(Value.slice A2 i c2).ownBlock) rfl rfl rfl (fun _ hk=>⟨trivial,hk⟩) (fun _ _=>trivial) (by have:=Kd.R_below HX.out.1 (below_step H2.out.1 H4.out.2);rw [List.length_map,List.length_range] at this;exact this) (below_step HX.out.2 (below_step H2.out.1 H4.out.2)) (below_step HX.out.2 (below_step H2.out.1 H4.out.2)).size (by simp;omega) ?_;intro v3 w3 ho3 hb3 hg3 hat3;have HO3:=Aside0.mk ho3;have HB3:=Aside0.mk hb3;clear ho3 hb3 hg3 hat3)))
    go_roundg (n - (i+1))
    case measure=>exact meas5 hin hik
    case rel=>exact ⟨i+1,by simp [gw],meas4 hin,⟨by rw [List.range_succ,List.map_append,List.map_singleton,HD.out];exact HO3.out,HB3.out⟩⟩
  ·have g1:¬ (i:Int) < (n:Int):=by omega
   have e1:i=n:=by omega
   subst e1
   obtain ⟨A2,c2,rfl⟩:=Kd.R_slice HX.out.1
   rw [List.length_map,List.length_range]
   go_wp2
   go_ret2
   exact ⟨_,rfl,by have:=Bo.of_R HX.out.1;rw [List.length_map,List.length_range] at this;exact this,HX.out.2⟩
end Go.Proofs.YtmmcbncpnlknbaaGreat.Top
