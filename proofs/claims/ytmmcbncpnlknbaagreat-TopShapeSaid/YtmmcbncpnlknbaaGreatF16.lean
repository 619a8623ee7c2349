import Derived.Test.YtmmcbncpnlknbaaGreatF15
set_option linter.unusedVariables false
set_option linter.unusedSimpArgs false
namespace Go.Proofs.YtmmcbncpnlknbaaGreat.Top
open Go Go.RowKit Go.Proofs.YtmmcbncpnlknbaaGreatW.PrintWords Go.Proofs.YtmmcbncpnlknbaaGreatW.PrintLast Go.Proofs.YtmmcbncpnlknbaaGreatW.PrintMore
def bestE (c:Nat) (e0:Int):Int:=if c=0 then 0 else e0
def bestS (c:Nat) (s0:ByteArray):ByteArray:=if c=0 then ⟨#[]⟩ else s0
theorem bestV_eq (c:Nat) (e0:Int) (s0:ByteArray):bestV c e0 s0=.agg #[.int .i64 (bestE c e0),.string (bestS c s0)]:=by
 unfold bestV bestE bestS
 split <;> rfl
def witL (kn:List Bool) (f:Nat->Sd):Nat->Bool
 | 0=>false
 | i+1=>witL kn f i || (rb kn i && ((f i).is || (f i).no))
structure Vr (w wr:World) (g12 gd:Nat) (has:Bool) (be:Int) (vd:Value) (d:List Int) (cnt:Nat) (wit:Bool) (g n:Nat) (f:Nat->Sd):Prop where
 b6:wr.heap[w.heap.size]?=some (.cells #[.bool false,.int .i64 0,.slice none 0 0,.int .i64 0,.bool false] 231 (0,0))
 b12:wr.heap[g12]?=some (.cells #[.bool has,.int .i64 be,vd,.int .i64 cnt,.bool wit] 231 (0,0))
 below:Below w.heap.size w wr
 sr:Sr wr g n f
 dat:∀ W:World,W.heap[gd]?=wr.heap[gd]?->Bs W vd d
 lt6:w.heap.size < gd
 ltd:gd < g12
 gne:g≠g12
section
variable {w wr:World} {g12 gd:Nat} {has:Bool} {be:Int} {vd:Value} {d:List Int} {cnt:Nat} {wit:Bool} {g n:Nat} {f:Nat->Sd}
theorem Vr.lt (h:Vr w wr g12 gd has be vd d cnt wit g n f):g12 < wr.heap.size:=blk_lt h.b12
theorem Vr.alloc (h:Vr w wr g12 gd has be vd d cnt wit g n f) (o:Obj):Vr w (wr.alloc o) g12 gd has be vd d cnt wit g n f :=
 ⟨blk_alloc h.b6 o,blk_alloc h.b12 o,below_alloc h.below o,h.sr.below (below_alloc (Below.refl _ _) o),fun W hW=>h.dat W (hW.trans (Below.heap_alloc wr o gd (by have:=h.lt;have:=h.ltd;omega))),h.lt6,h.ltd,h.gne⟩
theorem Vr.set (h:Vr w wr g12 gd has be vd d cnt wit g n f):Vr w (wr.setCell ⟨g12,4,none⟩ (.bool true)) g12 gd has be vd d cnt true g n f:=by
 have h6:=h.lt6
 have hd:=h.ltd
 have key:∀ k,k≠g12->(wr.setCell ⟨g12,4,none⟩ (.bool true)).heap[k]?=wr.heap[k]? :=fun k hk=>Below.heap_setCell wr _ _ k (by exact hk)
 have hc:∀ j,(wr.setCell ⟨g12,4,none⟩ (.bool true)).cell? ⟨g,j,none⟩=wr.cell? ⟨g,j,none⟩:=fun j=>by simp only [World.cell?,key g h.gne]
 refine ⟨(key _ (by omega)).trans h.b6,?_,?_,⟨by simp [World.setCell];exact h.sr.lt,fun i hi=>?_⟩,fun W hW=>h.dat W (hW.trans (key gd (by omega))),h.lt6,h.ltd,h.gne⟩
 ·simp [World.setCell,Array.getElem?_modify,h.b12]
 ·exact below_grown2 h.below (grown_setCell wr g12 4 (.bool true)) (by omega) h.below.size
 ·rw [hc,hc,hc,hc]
  exact h.sr.at_ i hi
end
theorem bytesOf_str {d:List Int} (h:byteL d):bytesOf (strOfNums d)=d:=by
 unfold bytesOf
 rw [strOfNums_data,List.map_map]
 conv=>rhs;rw [<- List.map_id d]
 apply List.map_congr_left
 intro x hx
 have:=h x hx
 simp only [Function.comp,UInt8.toNat_ofNat',id]
 omega
theorem bs_of_str (W3:World) {d:List Int} {cg:Nat} (hb:byteL d) (hl:d.length<=5000) (hc:(strOfNums d).size<=cg) {W:World} (hW:W.heap[W3.heap.size]?=(Lib.bytesWorld W3 5 (strOfNums d)).heap[W3.heap.size]?):Bs W (.slice (some ⟨W3.heap.size,0,none⟩) (strOfNums d).size cg) d:=by
 have h:=bytes_reads W3 5 (strOfNums d) (by rw [strOfNums_size];omega)
 rw [bytesOf_str hb,strOfNums_size] at h
 rw [strOfNums_size] at hc ⊢
 refine ⟨_,_,rfl,hc,Kd.C_of_reads (d:=0) ⟨h.1,h.2.1,fun hp=>?_⟩⟩
 obtain ⟨ad,e,hcell⟩:=h.2.2 hp
 injection e with e
 subst e
 refine ⟨_,rfl,fun j hj=>?_⟩
 have:=hcell j hj
 rw [add_plain] at this ⊢
 unfold World.cell? at this ⊢
 rw [hW]
 exact this
theorem bx231 {w:World} {b:Nat} {v0 v1 v2 v3 v4:Value} (h:w.heap[b]?=some (.cells #[v0,v1,v2,v3,v4] 231 (0,0))):w.cell? ⟨b,0,none⟩=some v0/\w.cell? ⟨b,1,none⟩=some v1/\w.cell? ⟨b,2,none⟩=some v2/\w.cell? ⟨b,3,none⟩=some v3/\w.cell? ⟨b,4,none⟩=some v4:=by
 simp [World.cell?,h]
theorem bx231f {w:World} {b:Nat} {v0 v1 v2 v3 v4:Value} (h:w.heap[b]?=some (.cells #[v0,v1,v2,v3,v4] 231 (0,0))):w.cell? ⟨b,0,none⟩=some v0/\w.cell? ⟨b,1,none⟩=some v1/\w.cell? ⟨b,2,none⟩=some v2/\w.cell? ⟨b,3,none⟩=some v3/\w.cell? ⟨b,4,none⟩=some v4/\w.frozen? ⟨b,0,none⟩=false/\w.frozen? ⟨b,1,none⟩=false/\w.frozen? ⟨b,2,none⟩=false/\w.frozen? ⟨b,3,none⟩=false/\w.frozen? ⟨b,4,none⟩=false:=by
 simp [World.cell?,World.frozen?,h]
theorem bx_set5 {w:World} {b:Nat} {x0 x1 x2 x3 x4:Value} (h:w.heap[b]?=some (.cells #[x0,x1,x2,x3,x4] 231 (0,0))) (v0 v1 v2 v3 v4:Value):(((((w.setCell ⟨b,0,none⟩ v0).setCell ⟨b,1,none⟩ v1).setCell ⟨b,2,none⟩ v2).setCell ⟨b,3,none⟩ v3).setCell ⟨b,4,none⟩ v4).heap[b]?=some (.cells #[v0,v1,v2,v3,v4] 231 (0,0)):=by
 simp [World.setCell,Array.getElem?_modify,h]
theorem set_below {w w2:World} (h:Below w.heap.size w w2) (o:Nat) (v:Value):Below w.heap.size w (w2.setCell ⟨w.heap.size,o,none⟩ v):=below_grown2 h (grown_setCell w2 w.heap.size o v) (Nat.le_refl _) h.size
theorem set5_below {w w2:World} (h:Below w.heap.size w w2) (v0 v1 v2 v3 v4:Value):Below w.heap.size w (((((w2.setCell ⟨w.heap.size,0,none⟩ v0).setCell ⟨w.heap.size,1,none⟩ v1).setCell ⟨w.heap.size,2,none⟩ v2).setCell ⟨w.heap.size,3,none⟩ v3).setCell ⟨w.heap.size,4,none⟩ v4):=set_below (set_below (set_below (set_below (set_below h 0 v0) 1 v1) 2 v2) 3 v3) 4 v4
def VrP (w w':World) (e:Ending) (kn:List Bool) (f:Nat->Sd) (n:Nat) (e0:Int) (l0:List Int):Prop :=
 ∃ vd,e=.returned (.tuple #[.agg #[.bool (decide (0 < cntS f n)),.int .i64 (bestE (cntS f n) e0),vd,.int .i64 (cntS f n),.bool (witL kn f n)],.int .i64 0])/\Bs w' vd (if cntS f n=0 then [] else l0)/\Below w.heap.size w w'
attribute [local go_sem] calloc_old
set_option maxRecDepth 100000 in
set_option maxHeartbeats 2000000 in
theorem vread_ok {B n T a:Nat} {w:World} {S:Nat->Prop} {sec:Int} {dead:Nat->Bool} {E:Nat->Int->List Int} {cl:Bool} (h:Ax B w a S sec n T dead E cl) (hn:1<=n) (ad:Int) (h0:0<=ad) (h1:ad < sec) (hb:∀ i,i < n->SecA.Bytes (rdL dead E ad i))
  {kn:List Bool} {vk:Value} (hk:Bo w vk kn) (hkn:kn.length=n) {e0:Int} {l0:List Int} (he0:0<=e0) (hw:I64 e0) (hl0:byteL l0) (hs:l0.length<=5000) (hall:∀ i,i < n->(sdOf dead E ad i).is=true->(sdOf dead E ad i).e=e0/\(sdOf dead E ad i).s=strOfNums l0) :
  Calls Tryz.prog 138 #[.pointer (some ⟨a,0,none⟩),vk,.int .i64 ad] w fun e w'=>VrP w w' e kn (sdOf dead E ad) n e0 l0:=by
 have ho:=Ax.n32 h
 obtain ⟨Ak,ck,rfl,hck,hCk⟩:=hk
 rw [hkn] at hck ⊢
 obtain ⟨f,hf⟩:∃ f,sdOf dead E ad=f:=⟨_,rfl⟩
 have hask:=fun W (hW:Below w.heap.size w W)=>ask_ok (h.below hW) ad h0 h1 hb
 rw [hf] at hall ⊢
 simp only [hf] at hask
 have HA:=Aside0.mk hask
 have HC:=Aside0.mk (fun (W:World) (g c:Nat) (hS:Sr W g n f)=>count_ok (c:=c) hS ho he0 hw (s0:=strOfNums l0) (by rw [strOfNums_size];simp only [maxLen];omega) hall)
 have kb:=fun W=>print_bytes (P:=Tryz.prog) 9 36 5 Tryz.underlying9 Tryz.underlying36 Tryz.underlying5 (bestS (cntS f n) (strOfNums l0)) W
 have HH:=Aside0.mk (And.intro hn (And.intro hCk (And.intro hl0 hs)))
 clear hask h h0 h1 hb hck hCk he0 hw hl0 hs hall
 go_enter Tryz.func138,Tryz.ntmps138
 go_wp2_with (first|(go_at_call 165;go_loud (refine (HC.out _ _ _ H1.out.1).mono ?_;rintro e2 w2 ⟨rfl,hb2⟩;rw [bestV_eq];have H2:=Aside0.mk hb2;clear hb2))|(go_at_call 164;go_loud (refine (HA.out _ (below_alloc (Below.refl _ _) _)).mono ?_;rintro e1 w1 ⟨v1,rfl,hp1⟩;obtain ⟨g,c,rfl,hcc,hbg,hsr⟩:=Sr.of_own hp1.1 HH.out.1;have H1:=Aside0.mk (And.intro hsr (And.intro hp1.2 hbg));clear hsr hp1 hbg hcc)))
 obtain ⟨cn,hcn⟩:∃ cn,cntS f n=cn:=⟨_,rfl⟩
 have hcle:=cntS_le f n
 rw [hcn] at hcle kb ⊢
 obtain ⟨d,hd⟩:∃ d,(if cn=0 then [] else l0)=d:=⟨_,rfl⟩
 have hbd:byteL d/\d.length<=5000:=by
  rw [<- hd]
  split
  ·exact ⟨fun x hx=>by simp at hx,by simp⟩
  ·exact ⟨HH.out.2.2.1,HH.out.2.2.2⟩
 have hsd:bestS cn (strOfNums l0)=strOfNums d:=by
  rw [<- hd]
  unfold bestS
  split <;> rfl
 obtain ⟨W3,hW3⟩:∃ W3,w2.alloc (.cells #[.int .i64 (bestE cn e0),.string (bestS cn (strOfNums l0))] 165)=W3:=⟨_,rfl⟩
 rw [hW3,hsd]
 have hz3:W3.heap.size=w2.heap.size+1:=by rw [<- hW3];simp
 have hb3:Below w2.heap.size w2 W3:=by rw [<- hW3];exact below_alloc (Below.refl _ _) _
 obtain ⟨W5,hW5⟩:∃ W5,Lib.bytesWorld W3 5 (strOfNums d)=W5:=⟨_,rfl⟩
 have hcap:(strOfNums d).size<=grownCap W3 (strOfNums d).size 0 5:=grownCap_ge _ _ _ _
 obtain ⟨cg,hcg⟩:∃ cg,grownCap W3 (strOfNums d).size 0 5=cg:=⟨_,rfl⟩
 obtain ⟨vd,hvd⟩:∃ vd,Value.slice (some ⟨w2.heap.size+1,0,none⟩) (strOfNums d).size cg=vd:=⟨_,rfl⟩
 rw [hcg] at hcap
 have hdat:∀ W:World,W.heap[w2.heap.size+1]?=W5.heap[w2.heap.size+1]?->Bs W vd d:=fun W hW=>by
  rw [<- hvd,<- hz3]
  rw [<- hz3,<- hW5] at hW
  exact bs_of_str W3 hbd.1 hbd.2 hcap hW
 have hb5:Below W3.heap.size W3 W5:=by rw [<- hW5];exact bytes_below (Below.refl _ _) (Nat.le_refl _) 5 _
 have hz5:W5.heap.size=w2.heap.size+2:=by rw [<- hW5,Lib.bytesWorld_size];omega
 rw [hW5,hcg,hvd]
 have hz1:w.heap.size+1<=w1.heap.size:=by have:=H1.out.2.1.size;simpa using this
 have hz2:=H2.out.size
 have hbw5:Below w1.heap.size w1 W5:=(H2.out.trans (hb3.mono hz2)).trans (hb5.mono (by omega))
 have hgl:=H1.out.1.lt
 have hV:Vr w (W5.alloc (.cells #[.bool (decide (0 < cn)),.int .i64 (bestE cn e0),vd,.int .i64 cn,.bool false] 231)) W5.heap.size (w2.heap.size+1) (decide (0 < cn)) (bestE cn e0) vd d cn false g n f :=
  ⟨blk_alloc ((hbw5.block _ (by omega)).trans ((H1.out.2.1.block _ (by simp)).trans (heap_alloc_new _ _))) _,heap_alloc_new _ _,below_alloc (below_step (below_step (below_alloc (Below.refl _ _) _) H1.out.2.1) hbw5) _,H1.out.1.below (below_alloc hbw5 _),fun W hW=>hdat W (hW.trans (Below.heap_alloc _ _ _ (by omega))),by omega,by omega,by omega⟩
 have HV:=Aside0.mk hV
 obtain ⟨av,lv,cv,hv2⟩:∃ av lv cv,vd=.slice av lv cv:=⟨_,_,_,hvd.symm⟩
 subst hv2
 obtain ⟨G12,hG⟩:∃ G12,W5.heap.size=G12:=⟨_,rfl⟩
 rw [hG] at HV ⊢
 have HN:=Aside0.mk (And.intro hcn (And.intro hd (And.intro hkn ho)))
 clear hdat hb5 hz5 hz1 hz2 hbw5 hgl hV hb3 hz3 hW3 hW5 hcg hvd hcap hsd hbd hcle kb hcn hd hG
 go_loopg [41] n (fun kq x wr=>∃ i:Nat,x=.int .i64 i/\i+kq=n/\Aside0 (Vr w wr G12 (w2.heap.size+1) (decide (0 < cn)) (bestE cn e0) (.slice av lv cv) d cn (witL kn f i) g n f/\Kd.bool.C wr Ak kn.length kn))
 case atStart=>exact ⟨0,rfl,by omega,⟨HV.out,Kd.C_below HH.out.2.1 HV.out.below⟩⟩
 case round =>
  obtain ⟨i,rfl,hik,HX⟩:=hrel
  by_cases hin:i < n
  ·have g1:(i:Int) < (n:Int):=by omega
   have g3:(0:Int)<=(i:Int):=by omega
   obtain ⟨c0,c1,c2,c3⟩:=HX.out.1.sr.at_ i hin
   obtain ⟨ak,rfl,hck⟩:=Bo.at HX.out.2 i (by omega)
   have hl12:=HX.out.1.lt
   obtain ⟨f4⟩:wr.frozen? ⟨G12,4,none⟩=false/\True:=⟨by simp [World.frozen?,HX.out.1.b12],trivial⟩
   have x4:wr.cell? ⟨G12,4,none⟩=some (.bool (witL kn f i)):=by simp [World.cell?,HX.out.1.b12]
   have gw:wrap64 ((i:Int)+1)=(i:Int)+1:=w64 _ (by have:=HN.out.2.2.2;omega)
   have hck1:∀ o:Obj,(wr.alloc o).cell? (ak.add i)=some (.bool (rb kn i)):=fun o=>Lib.cell?_alloc_some o hck
   cases hkb:rb kn i with
   | false =>
    rw [hkb] at hck1
    clear hck
    go_wp2
    go_roundg (n - (i+1))
    case measure=>exact meas5 hin hik
    case rel =>
     have hV:=HX.out.1.alloc (.cells #[.int .i64 (f i).e,.string (f i).s,.bool (f i).is,.bool (f i).no] 269)
     exact ⟨i+1,by simp,meas4 hin,⟨by rw [witL,hkb];simpa using hV,Kd.C_below HH.out.2.1 hV.below⟩⟩
   | true =>
    rw [hkb] at hck1
    clear hck
    cases his:(f i).is with
    | true =>
     rw [his] at c2
     go_wp2
     go_roundg (n - (i+1))
     case measure=>exact meas5 hin hik
     case rel =>
      have hV:=HX.out.1.set.alloc (.cells #[.int .i64 (f i).e,.string (f i).s,.bool true,.bool (f i).no] 269)
      exact ⟨i+1,by simp,meas4 hin,⟨by rw [witL,hkb,his];simpa using hV,Kd.C_below HH.out.2.1 hV.below⟩⟩
    | false =>
     rw [his] at c2
     cases hno:(f i).no with
     | true =>
      rw [hno] at c3
      go_wp2
      go_roundg (n - (i+1))
      case measure=>exact meas5 hin hik
      case rel =>
       have hV:=HX.out.1.set.alloc (.cells #[.int .i64 (f i).e,.string (f i).s,.bool false,.bool true] 269)
       exact ⟨i+1,by simp,meas4 hin,⟨by rw [witL,hkb,his,hno];simpa using hV,Kd.C_below HH.out.2.1 hV.below⟩⟩
     | false =>
      rw [hno] at c3
      go_wp2
      go_roundg (n - (i+1))
      case measure=>exact meas5 hin hik
      case rel =>
       have hV:=HX.out.1.alloc (.cells #[.int .i64 (f i).e,.string (f i).s,.bool false,.bool false] 269)
       exact ⟨i+1,by simp,meas4 hin,⟨by rw [witL,hkb,his,hno];simpa using hV,Kd.C_below HH.out.2.1 hV.below⟩⟩
  ·have g1:¬ (i:Int) < (n:Int):=by omega
   have e1:i=n:=by omega
   subst e1
   have hl12:=HX.out.1.lt
   obtain ⟨x0,x1,x2,x3,x4⟩:=bx231 HX.out.1.b12
   have hlt6:w.heap.size < wr.heap.size:=blk_lt HX.out.1.b6
   obtain ⟨y0,y1,y2,y3,y4,f0,f1,f2,f3,f4⟩:=bx231f HX.out.1.b6
   have HE:=Aside0.mk (And.intro HX.out.1 (set5_below HX.out.1.below (.bool (decide (0 < cn))) (.int .i64 (bestE cn e0)) (.slice av lv cv) (.int .i64 cn) (.bool (witL kn f i))))
   clear hlt6 hl12
   go_wp2
   refine bodyPost_ret (results_ct rfl _ _ w.heap.size 231 #[.bool (decide (0 < cn)),.int .i64 (bestE cn e0),.slice av lv cv,.int .i64 cn,.bool (witL kn f i)] (0,0) _ rfl (bx_set5 HE.out.1.b6 _ _ _ _ _) Tryz.underlying231 rfl (by kernel_rfl)) rfl ?_
   obtain ⟨hcn,hd,_,_⟩:=HN.out
   unfold VrP
   rw [hcn,hd]
   refine ⟨_,rfl,HE.out.1.dat _ ?_,HE.out.2⟩
   have h6:=HE.out.1.lt6
   simp only [World.setCell,Array.getElem?_modify]
   simp [show ¬ w.heap.size=w2.heap.size+1 by omega]
end Go.Proofs.YtmmcbncpnlknbaaGreat.Top
namespace Go.Proofs.YtmmcbncpnlknbaaGreat.Top
open Go Go.RowKit Go.Proofs.YtmmcbncpnlknbaaGreatW.PrintWords Go.Proofs.YtmmcbncpnlknbaaGreatW.PrintLast Go.Proofs.YtmmcbncpnlknbaaGreatW.PrintMore
attribute [local irreducible] mulRows PAll.poly_sum.f PAll.poly_Norm.f PAll.poly_Deriv.f
theorem cf0_ok (w:World):Calls Tryz.prog 199 #[.int .u8 0] w fun e w'=>e=.returned (.bool false)/\Drawn0 w w':=PAll.errdec_Word_1.calls 0 false w (by rfl)
set_option maxRecDepth 100000 in
set_option maxHeartbeats 1000000 in
theorem index_ok (w:World) (A:Option Addr) (c n:Nat) (h:(Kd.int .u8).C w A n (List.replicate n 0)) (hn:n<=100) :
  Calls Tryz.prog 221 #[.slice A n c,.func (.func 199) #[] #[]] w fun e w'=>e=.returned (.int .i64 (-1))/\Drawn0 w w':=by
 have H:=Aside0.mk h
 clear h
 go_enter Tryz.func221,Tryz.ntmps221
 go_wp2
 go_loopg [8] n (fun kq x wr=>∃ (i q:Nat),x=.int .i64 i/\i+kq=n/\wr=w.drewN q)
 case atStart=>exact ⟨0,0,rfl,by omega,rfl⟩
 case round =>
  obtain ⟨i,q,rfl,hi,hw⟩:=hrel
  by_cases hin:i < n
  ·have g1:(i:Int) < (n:Int):=by omega
   have g0:(0:Int)<=i:=by omega
   have h2:=H.out
   have hx:=Kd.at_int h2 (i:Int) g0 g1
   obtain ⟨ad,ea,hx⟩:=hx
   subst ea
   rw [Int.toNat_natCast,show rd (List.replicate n 0) (i:Int)=0 from by simp [rd,List.getD,hin]] at hx
   have hx2:wr.cell? (ad.add i)=some (.int .u8 0):=by rw [hw];exact hx
   clear hx h2
   have HW:=Aside0.mk hw
   clear hw
   go_wp2_with (first|(go_at_call 199;go_loud (refine (cf0_ok wr).mono ?_;rintro e w1 ⟨rfl,nd,rfl⟩)))
   go_roundg (n - (i+1))
   case measure=>omega
   case rel=>exact ⟨i+1,q+nd,by simp [w64 _ (show -9223372036854775808<=(i:Int)+1/\(i:Int)+1<=9223372036854775807 from by omega)],by omega,by rw [HW.out,World.drewN_drewN]⟩
  ·have g1:¬ (i:Int) < (n:Int):=by omega
   have HW:=Aside0.mk hw
   clear hw
   go_wp2
   go_ret
   exact ⟨rfl,q,HW.out⟩
set_option maxRecDepth 100000 in
theorem cont_ok (w:World) (A:Option Addr) (c n:Nat) (h:(Kd.int .u8).C w A n (List.replicate n 0)) (hn:n<=100) :
  Calls Tryz.prog 198 #[.slice A n c,.func (.func 199) #[] #[]] w fun e w'=>e=.returned (.bool false)/\Drawn0 w w':=by
 have HC:=Aside0.mk (index_ok w A c n h hn)
 clear h
 go_enter Tryz.func198,Tryz.ntmps198
 go_wp2_with (first|(go_at_call 221;go_loud (refine HC.out.mono ?_;rintro e w1 ⟨rfl,nd,rfl⟩)))
 go_ret
 exact ⟨rfl,_,rfl⟩
end Go.Proofs.YtmmcbncpnlknbaaGreat.Top
namespace Go.Proofs.YtmmcbncpnlknbaaGreat.Top
open Go Go.RowKit Go.Proofs.YtmmcbncpnlknbaaGreatW.PrintWords Go.Proofs.YtmmcbncpnlknbaaGreatW.PrintLast Go.Proofs.YtmmcbncpnlknbaaGreatW.PrintMore
attribute [local irreducible] mulRows PAll.poly_sum.f PAll.poly_Norm.f PAll.poly_Deriv.f
theorem deriv_ok {w:World} {v:Value} {l r:List Int} (h:Bs w v l) (hr:PAll.poly_Deriv.f 100 l=some r):Calls Tryz.prog 195 #[v] w fun e w'=>∃ u,e=.returned u/\Kd.R (Kd.int .u8) 5 w' w.heap.size (fun _=>True) u r/\Below w.heap.size w w':=by
 obtain ⟨A,c,rfl,hc,hC⟩:=h
 exact PAll.poly_Deriv.calls 100 A c l r w hC hc hr
theorem acc_zero {k m n:Nat} {l:List Int} (h:∀ i,i < m->acc k m l n i=0):(List.range m).map (acc k m l n)=List.replicate m 0:=by
 apply List.ext_getElem
 ·simp
 ·intro i h1 h2
  simp at h2
  simp [h i h2]
set_option maxRecDepth 100000 in
set_option maxHeartbeats 1500000 in
theorem word_ok {w:World} {f:Nat} (h:Fd w f) {k m:Nat} {word:List Int} {miss:List Bool} {loc:Nat->List Int} {s g p high p2 o full slope:List Int} {e:Nat} (F:WordF k m word miss loc s g p high p2 o full slope e) (v u:Value) (hv:Bs w v word) (hu:Bo w u miss) :
  Calls Tryz.prog 178 #[.pointer (some ⟨f,0,none⟩),.int .i64 k,.int .i64 m,v,u] w fun e w'=>∃ x,e=.returned (.tuple #[x,.slice none 0 0,.int .i64 0])/\Kd.R (Kd.int .u8) 5 w' w.heap.size (fun _=>True) x (outs k m (out0 word miss (k+m) (k+m)) full o slope (k+m))/\Below w.heap.size w w':=by
 have hv':=hv
 obtain ⟨A,cc,rfl,hcc,hC⟩:=hv
 obtain ⟨A2,c2,rfl,hc2,hC2⟩:=hu
 have H:=Aside0.mk h
 have HF:=Aside0.mk F
 have HV:=Aside0.mk hv'
 obtain ⟨N,hN⟩:∃ N,k+m=N:=⟨_,rfl⟩
 have hkm:=F.hkm
 have gN:wrap64 ((k:Int)+m)=(N:Int):=by rw [w64 _ (by omega)];omega
 have hM:=hC2
 rw [F.lm,hN] at hM
 have HM:=Aside0.mk hM
 have HN:=Aside0.mk (show k+m=N/\1<=k/\N<=7 from ⟨hN,F.hk,by omega⟩)
 rw [F.lw,hN] at HV
 rw [F.lw,F.lm,hN]
 clear h F hv' hcc hC hc2 hC2 hM hkm
 go_enter Tryz.func178,Tryz.ntmps178
 go_wp2_with (first|(go_at_call 190;go_loud (refine (weights_ok H.out k m HN.out.2.1 (by have:=HN.out;omega)).mono ?_;rintro e1 w1 ⟨v1,rfl,hr1,hb1⟩;rw [HN.out.1] at hr1;obtain ⟨A1,c1,rfl⟩:=Kd.R_slice hr1;rw [List.length_map,List.length_range] at *;have HR1:=Aside0.mk hr1;have HB1:=Aside0.mk hb1;have HV1:=Aside0.mk (HV.out.below hb1);clear hr1 hb1))|(go_at_call 171;go_loud (refine (Bs.clone HV1.out (by have:=HF.out.lw;have:=HN.out;omega)).mono ?_;rintro e1 w2 ⟨x2,rfl,hr2,hb2⟩;have HR2:=Aside0.mk hr2;have HB2:=Aside0.mk hb2;clear hr2 hb2)))
 have hl2:word.length=N:=by have:=HF.out.lw;have:=HN.out;omega
 obtain ⟨go,co,eo,gb,gl,cl,hcl⟩:=Kd.R_form HR2.out (by rw [hl2];have:=HN.out;omega)
 subst eo
 have hfl:Kd.R (Kd.int .u8) 5 w2 w.heap.size (fun k=>k=go) (.slice (some ⟨go,0,none⟩) word.length co) word:=Kd.R_lower (Kd.R_flat (fun hm=>hm) HR2.out (fun k hk _=>by simp [Value.ownBlock] at hk;exact hk.symm)) HB1.out.size
 rw [<- out0_zero word miss] at hfl
 rw [out0_len,hl2] at hfl
 rw [hl2]
 have HO2:=Aside0.mk hfl
 have HW2:=Aside0.mk ((Bf.of_R (P:=fun k=>k < go) HR1.out (fun k _ hk=>by omega)).below HB2.out)
 have HG:=Aside0.mk (And.intro gb gl)
 have HB12:=Aside0.mk (below_step HB1.out HB2.out)
 clear hfl gb gl hcl cl hl2
 go_loopg [17,61] N (fun kq x y wr=>∃ (i:Nat) (v:Value),v=x/\y=.int .i64 i/\i+kq=N/\Aside0 (Kd.R (Kd.int .u8) 5 wr w.heap.size (fun k=>k=go) (.slice (some ⟨go,0,none⟩) N co) (out0 word miss N i))/\Aside0 (Kd.R (Kd.int .u8) 5 wr w2.heap.size (fun k=>k≠go) v (known miss i))/\Aside0 (Bf (fun k=>k < go) wr (.slice A1 N c1) ((List.range N).map (wgt k m)))/\Aside0 (Below w.heap.size w wr/\w2.heap.size<=wr.heap.size))
 case atStart =>
  exact ⟨0,_,rfl,rfl,by omega,HO2,⟨Kd.R_nil _ _ _ _ _⟩,HW2,⟨HB12.out,Nat.le_refl _⟩⟩
 case round =>
  obtain ⟨i,v,rfl,rfl,hi,HO,HKn,HWt,HBr⟩:=hrel
  by_cases hin:i < N
  ·have g1:(i:Int) < (N:Int):=by omega
   have g0:(0:Int)<=i:=by omega
   have hi7:i < 7:=by have:=HN.out;omega
   obtain ⟨ad,ea2,hx0⟩:=Bo.at (l:=miss) (by rw [HF.out.lm,HN.out.1];exact HM.out) i (by rw [HF.out.lm,HN.out.1];exact hin)
   subst ea2
   replace hx0:=cell_of HBr.out.1 hx0
   cases hmi:rb miss i with
   | true =>
    rw [hmi] at hx0
    obtain ⟨x0,f0⟩:=Kd.R_celln 0 HO.out (i:Int) g0 g1
    rw [Int.toNat_natCast] at x0 f0
    have hput:=(Kd.R_putg HO.out (i:Int) 0).1
    rw [Int.toNat_natCast,out0_lost word miss N i hin hmi] at hput
    have hkn:=Kd.R_far (p:=⟨go,i,none⟩) HKn.out (fun k hk=>hk) (.int .u8 0)
    have hwt:=HWt.out.set (g:=go) (fun k hk=>by omega) i (.int .u8 0)
    have hbr:=below_set (j:=i) (v:=.int .u8 0) HBr.out.1 (show w.heap.size<=go by have:=HG.out.1;have:=HB1.out.size;omega)
    have HX:=Aside0.mk (And.intro hput (And.intro hkn (And.intro hwt (And.intro hbr hmi))))
    have hlk:=known_len miss i
    clear hput hkn hwt hbr hmi
    have gwi:IntKind.u8.wrap (i:Int)=(i:Int):=by rw [IntKind.wrap_u8];omega
    go_wp2_with (first|((with_reducible refine gate_builtin (b:=.append) (xs:=#[.tmp 70,.tmp 73]) rfl ?_);at_builtin;go_loud (refine Kd.R_append (Kd.int .u8) (w0:=wr.setCell ⟨go,i,none⟩ (.int .u8 0)) (W:=wr.setCell ⟨go,i,none⟩ (.int .u8 0)) w2.heap.size rfl (.tmp 70) (.tmp 73) 36 5 (.int .u8 0) 1 rfl Tryz.underlying36 info5' rfl (by decide) (by decide) v (known miss i) (i:Int) [.int .u8 (i:Int)] (fun k=>k≠go) (fun _=>False) rfl (by rw [show (wr.setCell ⟨go,i,none⟩ (.int .u8 0)).heap.size=wr.heap.size from by simp [World.setCell]];rfl) rfl (fun _ hk=>hk.elim) (fun k hk=>by have:=HG.out.2;have:=HBr.out.2;simp [World.setCell] at hk;omega) HX.out.2.1 (Below.refl _ _) (by have:=HBr.out.2;simp [World.setCell];exact this) (by omega) ?_;intro v3 w3 ho3 hb3 hg3 hat3;have H3:=Aside0.mk (And.intro ho3 (And.intro hb3 hg3));clear ho3 hb3 hg3 hat3)))
    go_roundg (N - (i+1))
    case measure=>omega
    case rel =>
     have hgr:=H3.out.2.2
     have hsz2:w2.heap.size<=(wr.setCell ⟨go,i,none⟩ (.int .u8 0)).heap.size:=by have:=HBr.out.2;simp [World.setCell];exact this
     exact ⟨i+1,_,rfl,by simp [w64 _ (show -9223372036854775808<=(i:Int)+1/\(i:Int)+1<=9223372036854775807 from by omega)],by omega,⟨Kd.R_grown HX.out.1 hgr (fun k hk e=>HX.out.2.1.1 k e.symm hk)⟩,⟨by rw [<- known_lost _ _ HX.out.2.2.2.2];exact H3.out.1⟩,⟨Kd.V_grown HX.out.2.2.1 hgr (fun k hk e=>by have:=Kd.R_base HX.out.2.1 k e.symm;have:=HG.out.2;omega)⟩,⟨HX.out.2.2.2.1.trans (H3.out.2.1.mono HB12.out.size),Nat.le_trans hsz2 H3.out.2.1.size⟩⟩
   | false =>
    rw [hmi] at hx0
    have hku:=known_there miss i hmi
    have hou:=out0_there word miss N i hmi
    have HU:=Aside0.mk (And.intro hku hou)
    clear hku hou hmi
    go_wp2
    go_roundg (N - (i+1))
    case measure=>omega
    case rel=>exact ⟨i+1,_,rfl,by simp [w64 _ (show -9223372036854775808<=(i:Int)+1/\(i:Int)+1<=9223372036854775807 from by omega)],by omega,⟨by rw [HU.out.2];exact HO.out⟩,⟨by rw [HU.out.1];exact HKn.out⟩,HWt,HBr⟩
  ·have g1:¬ (i:Int) < (N:Int):=by omega
   have e1:i=N:=by omega
   subst e1
   have HFr:=Aside0.mk (H.out.below HBr.out.1)
   have ho1:=Kd.R_reads' HO.out
   rw [out0_len] at ho1
   have hof:=of_ok HFr.out k m HN.out.2.1 (by have:=HN.out;omega) (some ⟨go,0,none⟩) co (out0 word miss i i) (by rw [out0_len];exact HN.out.1.symm) (by rw [out0_len];exact ho1.2.1) (by rw [out0_len];exact ho1.2.2) (out0_byte miss i i HF.out.bw)
   rw [out0_len] at hof
   have hsd:=HF.out.hs
   rw [HN.out.1] at hsd
   rw [HN.out.1,<- hsd] at hof
   have HOF:=Aside0.mk hof
   have hkn:=Kd.R_reads HKn.out
   obtain ⟨A5,c5,e5,hl5,hC5⟩:=hkn
   subst e5
   have hkl:=HF.out.kn
   rw [HN.out.1] at hkl
   have HK5:=Aside0.mk (show Bs wr (.slice A5 (known miss i).length c5) (known miss i) from ⟨A5,c5,rfl,hl5,hC5⟩)
   obtain ⟨KL,hKL⟩:∃ KL,(known miss i).length=KL:=⟨_,rfl⟩
   rw [hKL] at hkl HK5
   rw [hKL]
   have gkl:¬ ((KL:Int) > (m:Int)):=by omega
   have HKL:=Aside0.mk hKL
   have hsol:=HF.out.sol
   have hmul:=HF.out.mul
   have hls:=HF.out.ls
   have hlb:=HF.out.lb
   rw [HN.out.1] at hsol hmul hls hlb
   have HSOL:=Aside0.mk (And.intro hsol (And.intro hmul (And.intro hls hlb)))
   clear ho1 hof hsd hl5 hC5 hkl hKL hsol hmul hls hlb
   go_wp2_with (first|(go_at_call 191;go_loud (refine HOF.out.mono ?_;rintro e1 w5 ⟨x5,rfl,hr5,hb5⟩;have H5:=Aside0.mk (And.intro (Bs.of_R hr5) hb5);clear hr5 hb5))|(go_at_call 192;go_loud (refine (loc_ok (HFr.out.below H5.out.2) _ (known miss i) (HK5.out.below H5.out.2) (known_byte miss i (by have:=HN.out;omega)) loc HF.out.l0 HSOL.out.2.2.1 HSOL.out.2.2.2 (by have:=HKL.out;have:=known_len miss i;have:=HN.out;omega)).mono ?_;rintro e1 w6 ⟨x6,rfl,hr6,hb6⟩;have H6:=Aside0.mk (And.intro (Bs.of_R hr6) (below_step H5.out.2 hb6));have H56:=Aside0.mk (H5.out.1.below hb6);clear hr6 hb6))|(go_at_call 193;go_loud (refine (solve_ok (HFr.out.below H6.out.2) x5 x6 s _ g p high p2 o e H56.out H6.out.1 HSOL.out.1).mono ?_;rintro e1 w7 ⟨x7,y7,rfl,hr7,ho7,hb7⟩;have H7:=Aside0.mk (And.intro hr7 (And.intro ho7 (below_step H6.out.2 hb7)));have H67:=Aside0.mk (H6.out.1.below hb7);clear hr7 ho7 hb7))|(go_at_call 194;go_loud (refine (pmul_ok (HFr.out.below H7.out.2.2) x7 x6 [1] _ full H7.out.1 H67.out (by intro x hx;simp at hx;omega) (HSOL.out.2.2.2 _ (Nat.le_refl _)).1 (by simp) (HSOL.out.2.2.2 _ (Nat.le_refl _)).2 HSOL.out.2.1).mono ?_;rintro e1 w8 ⟨x8,rfl,hr8,hb8⟩;obtain ⟨A8,c8,rfl⟩:=Kd.R_slice hr8;have H8:=Aside0.mk (And.intro hr8 (below_step H7.out.2.2 hb8));have HO8:=Aside0.mk (H7.out.2.1.below hb8);clear hr8 hb8))|(go_at_call 195;go_loud (refine (deriv_ok (Bs.of_R H8.out.1) HF.out.der).mono ?_;rintro e1 w9 ⟨x9,rfl,hr9,hb9⟩;have H9:=Aside0.mk (And.intro hr9 (below_step H8.out.2 hb9));have HO9:=Aside0.mk (HO8.out.below hb9);have H89:=Aside0.mk (Kd.R_below H8.out.1 hb9);clear hr9 hb9)))
   have hgw:go < wr.heap.size:=Nat.lt_of_lt_of_le HG.out.2 HBr.out.2
   have hs6:=H6.out.2.size
   have hs7:=H7.out.2.2.size
   have hs8:=H8.out.2.size
   have HF9:=Aside0.mk (And.intro (Bf.of_R (P:=fun k=>k≠go) H89.out (fun k hk _=>by omega)) (And.intro (HO9.out.mono (Q:=fun k=>k≠go) (fun k hk=>by omega)) (And.intro (Bf.of_R (P:=fun k=>k≠go) H9.out.1 (fun k hk _=>by omega)) (HWt.out.below H9.out.2))))
   have HO9':=Aside0.mk (Kd.R_below HO.out H9.out.2)
   have HB9:=Aside0.mk (below_step HBr.out.1 H9.out.2)
   obtain ⟨FL,hFL⟩:∃ FL,full.length=FL:=⟨_,rfl⟩
   have HFL:=Aside0.mk hFL
   rw [hFL] at HF9 ⊢
   clear hgw hs6 hs7 hs8 hFL
   go_loopg [27,28,109] i (fun kq x y z wq=>∃ j:Nat,x=.slice none 0 0/\y=.int .i64 (rts full j)/\z=.int .i64 j/\j+kq=i/\Aside0 (Kd.R (Kd.int .u8) 5 wq w.heap.size (fun k=>k=go) (.slice (some ⟨go,0,none⟩) i co) (outs k m (out0 word miss i i) full o slope j))/\Aside0 (Bf (fun k=>k≠go) wq (.slice A8 FL c8) full/\Bf (fun k=>k≠go) wq y7 o/\Bf (fun k=>k≠go) wq x9 slope/\Bf (fun k=>k < go) wq (.slice A1 i c1) ((List.range i).map (wgt k m)))/\Aside0 (Below w.heap.size w wq))
   case atStart=>exact ⟨0,rfl,rfl,rfl,by omega,HO9',HF9,HB9⟩
   case round =>
    obtain ⟨j,rfl,rfl,rfl,hj,HOq,HFq,HBq⟩:=hrel
    by_cases hji:j < i
    ·have g2:(j:Int) < (i:Int):=by omega
     have g0:(0:Int)<=j:=by omega
     have hi7:i<=7:=HN.out.2.2
     have hr8:=rts_le full j
     have gwj:IntKind.u8.wrap (j:Int)=(j:Int):=by rw [IntKind.wrap_u8];omega
     have HFd:=Aside0.mk (H.out.below HBq.out)
     have HE:=Aside0.mk (eval_ok HFd.out _ full HFq.out.1.bs HF.out.bf (j:Int) g0 (by omega) HF.out.lf)
     by_cases hE:evL full (j:Int)=0
     ·obtain ⟨hmi,hP1⟩:=HF.out.root j (by have:=HN.out;omega) hE
      have hou:outs k m (out0 word miss i i) full o slope (j+1)=(outs k m (out0 word miss i i) full o slope j).set j (bx (rd (outs k m (out0 word miss i i) full o slope j) (j:Int)) (gm (evL o (j:Int)) (gi (gm (evL slope (j:Int)) (wgt k m j))))):=by rw [outs,if_pos hE]
      have hrt:rts full (j+1)=rts full j+1:=by rw [rts,if_pos hE]
      have HX:=Aside0.mk (And.intro hmi (And.intro hP1 (And.intro hou (And.intro hrt hE))))
      rw [hE] at HE
      clear hmi hP1 hou hrt hE
      go_wp2_with (first|(go_at_call 196;go_loud (refine HE.out.mono ?_;rintro e1 wz ⟨rfl,hz⟩;have HZ:=Aside0.mk hz;clear hz)))
      have gwr:wrap64 ((rts full j:Int)+1)=((rts full j:Nat):Int)+1:=w64 _ (by omega)
      have hbz:=HZ.out.below
      have hFz:=HFd.out.below hbz
      have hFn:=fun n=>hFz.below (pw_below_drewN (Below.refl wz.heap.size wz) n)
      have hon:=fun n=>((HFq.out.2.1.below hbz).below (pw_below_drewN (Below.refl wz.heap.size wz) n)).bs
      have hsn:=fun n=>((HFq.out.2.2.1.below hbz).below (pw_below_drewN (Below.refl wz.heap.size wz) n)).bs
      obtain ⟨EO,hEO⟩:∃ EO,evL o (j:Int)=EO:=⟨_,rfl⟩
      obtain ⟨ES,hES⟩:∃ ES,evL slope (j:Int)=ES:=⟨_,rfl⟩
      obtain ⟨WJ,hWJ⟩:∃ WJ,wgt k m j=WJ:=⟨_,rfl⟩
      obtain ⟨P,hP⟩:∃ P,gm ES WJ=P:=⟨_,rfl⟩
      obtain ⟨X,hX⟩:∃ X,gm EO (gi P)=X:=⟨_,rfl⟩
      have hP1:=HX.out.2.1
      rw [hES,hWJ,hP] at hP1
      have hEOb:=evL_byte (j:Int) o
      have hESb:=evL_byte (j:Int) slope
      have hWb:1<=wgt k m j/\wgt k m j<=255:=gi_pos _
      have hPb:=gm_byte ES WJ
      have hGb:=gi_pos P
      rw [hEO] at hEOb
      rw [hES] at hESb
      rw [hWJ] at hWb
      rw [hP] at hPb
      have c1:=fun n=>eval_ok (hFn n) _ o (hon n) HF.out.bo (j:Int) g0 (by omega) HF.out.lo
      have c2:=fun n=>eval_ok (hFn n) _ slope (hsn n) HF.out.bsl (j:Int) g0 (by omega) HF.out.lsl
      have c3:=fun n=>mul_ok (hFn n) ES WJ hESb.1 hESb.2 (by omega) hWb.2
      have c4:=fun n=>div_ok (hFn n) EO P hEOb.1 hEOb.2 hP1 hPb.2
      rw [hEO] at c1
      rw [hES] at c2
      rw [hP] at c3
      rw [hX] at c4
      have HCs:=Aside0.mk (And.intro c1 (And.intro c2 (And.intro c3 c4)))
      have HC1:=Aside0.mk c1
      have HC2:=Aside0.mk c2
      have hwq:=(HFq.out.2.2.2.below hbz)
      obtain ⟨Aw,cw,ew,hlw,hFw⟩:=hwq
      injection ew with ew1 ew2 ew3
      subst ew1
      obtain ⟨adw,eaw,hxw⟩:=Bs.at (Kd.F_now hFw) j (by simp;exact hji)
      subst eaw
      rw [show rd ((List.range i).map (wgt k m)) (j:Int)=wgt k m j from by simp [rd,List.getD,hji],hWJ] at hxw
      have hHz:=Kd.R_below HOq.out hbz
      have hlo:(outs k m (out0 word miss i i) full o slope j).length=i:=by rw [outs_len,out0_len]
      obtain ⟨x0,f0⟩:=Kd.R_celln 0 hHz (j:Int) g0 g2
      rw [Int.toNat_natCast] at x0 f0
      obtain ⟨D,hD⟩:∃ D,rd (outs k m (out0 word miss i i) full o slope j) (j:Int)=D:=⟨_,rfl⟩
      rw [show rdOf 0 (outs k m (out0 word miss i i) full o slope j) (j:Int)=D from hD] at x0
      obtain ⟨adm,eam,hxm⟩:=Bo.at (l:=miss) (by rw [HF.out.lm,HN.out.1];exact HM.out) j (by rw [HF.out.lm,HN.out.1];exact hji)
      subst eam
      rw [HX.out.1] at hxm
      have hbw:=below_step HBq.out hbz
      have hxm2:=fun n=>cell_of (below_set (g:=go) (j:=j) (v:=.int .u8 (bits .xor .u8 D X)) (pw_below_drewN hbw n) (by have:=HG.out.1;have:=HB1.out.size;omega)) hxm
      have HEq:=Aside0.mk (And.intro hEO (And.intro hES (And.intro hWJ (And.intro hP (And.intro hX hD)))))
      have HHz:=Aside0.mk hHz
      have HBz:=Aside0.mk hbz
      have HBW:=Aside0.mk hbw
      clear hbz hFz hFn hon hsn hP1 hEOb hESb hWb hPb hGb c1 c2 c3 c4 hlw hFw hHz hlo hbw hEO hES hWJ hP hX hD hxm ew2 ew3
      go_wp2
      go_quiet (first|(go_at_call 173;exact quiet_drawn HCs.out.2.2.1)|(go_at_call 197;exact quiet_drawn HCs.out.2.2.2)|(go_at_call 196;with_reducible exact quiet_drawn HC1.out)|(go_at_call 196;with_reducible exact quiet_drawn HC2.out))
      go_wp2
      go_roundg (i - (j+1))
      case measure=>omega
      case rel =>
       have hput:=(Kd.R_putg (Kd.R_drewN HHz.out nq) (j:Int) (bits .xor .u8 D X)).1
       rw [Int.toNat_natCast] at hput
       have hset:(outs k m (out0 word miss i i) full o slope j).set j (bits .xor .u8 D X)=outs k m (out0 word miss i i) full o slope (j+1):=by
        rw [HX.out.2.2.1,HEq.out.1,HEq.out.2.1,HEq.out.2.2.1,HEq.out.2.2.2.1,HEq.out.2.2.2.2.1,HEq.out.2.2.2.2.2]
        rfl
       rw [hset] at hput
       have hbn:=below_step HBz.out (pw_below_drewN (Below.refl wz.heap.size wz) nq)
       exact ⟨j+1,rfl,by rw [HX.out.2.2.2.1];simp,by simp [w64 _ (show -9223372036854775808<=(j:Int)+1/\(j:Int)+1<=9223372036854775807 from by omega)],by omega,⟨hput⟩,⟨(HFq.out.1.below hbn).set (fun _ hk=>hk) _ _,(HFq.out.2.1.below hbn).set (fun _ hk=>hk) _ _,(HFq.out.2.2.1.below hbn).set (fun _ hk=>hk) _ _,(HFq.out.2.2.2.below hbn).set (fun k hk=>by omega) _ _⟩,⟨below_set (pw_below_drewN HBW.out nq) (by have:=HG.out.1;have:=HB1.out.size;omega)⟩⟩
     ·have hrt:rts full (j+1)=rts full j:=by rw [rts,if_neg hE]
      have hou:outs k m (out0 word miss i i) full o slope (j+1)=outs k m (out0 word miss i i) full o slope j:=by rw [outs,if_neg hE]
      have HX:=Aside0.mk (And.intro hou hrt)
      obtain ⟨E,hE2⟩:∃ E,evL full (j:Int)=E:=⟨_,rfl⟩
      rw [hE2] at HE hE
      have hEb:(E == 0)=false:=by simp [hE]
      clear hrt hou hE2
      go_wp2_with (first|(go_at_call 196;go_loud (refine HE.out.mono ?_;rintro e1 wz ⟨rfl,hz⟩;have HZ:=Aside0.mk hz.below;clear hz)))
      go_roundg (i - (j+1))
      case measure=>omega
      case rel=>exact ⟨j+1,rfl,by rw [HX.out.2],by simp [w64 _ (show -9223372036854775808<=(j:Int)+1/\(j:Int)+1<=9223372036854775807 from by omega)],by omega,⟨by rw [HX.out.1];exact Kd.R_below HOq.out HZ.out⟩,⟨HFq.out.1.below HZ.out,HFq.out.2.1.below HZ.out,HFq.out.2.2.1.below HZ.out,HFq.out.2.2.2.below HZ.out⟩,⟨below_step HBq.out HZ.out⟩⟩
    ·have g2:¬ (j:Int) < (i:Int):=by omega
     have e1:j=i:=by omega
     subst e1
     have hoq:=Kd.R_reads' HOq.out
     rw [outs_len,out0_len] at hoq
     have hof:=of_ok (H.out.below HBq.out) k m HN.out.2.1 (by have:=HN.out;omega) (some ⟨go,0,none⟩) co (outs k m (out0 word miss j j) full o slope j) (by rw [outs_len,out0_len];exact HN.out.1.symm) (by rw [outs_len,out0_len];exact hoq.2.1) (by rw [outs_len,out0_len];exact hoq.2.2) (outs_byte k m full o slope (out0_byte miss j j HF.out.bw) j)
     have hfin:=HF.out.fin
     rw [HN.out.1] at hfin
     rw [outs_len,out0_len,HN.out.1,acc_zero hfin] at hof
     have hrt:=HF.out.rtn
     rw [HN.out.1,HFL.out] at hrt
     have gfl:wrap64 ((FL:Int) - 1)=(rts full j:Int):=by rw [w64 _ (by have:=HN.out;have:=rts_le full j;omega)];omega
     have HOf:=Aside0.mk hof
     clear hoq hof hfin hrt
     go_wp2_with (first|(go_at_call 191;go_loud (refine HOf.out.mono ?_;rintro e1 wa ⟨xa,rfl,hra,hba⟩;obtain ⟨Aa,ca,rfl⟩:=Kd.R_slice hra;rw [List.length_replicate];have HA:=Aside0.mk (And.intro (Kd.R_reads' hra).2.2 hba);clear hra hba))|(go_at_call 198;go_loud (refine (cont_ok wa Aa ca m (by have:=HA.out.1;rw [List.length_replicate] at this;exact this) (by have:=HN.out;omega)).mono ?_;rintro e1 wb ⟨rfl,hb⟩;have HBb:=Aside0.mk hb.below;clear hb)))
     go_ret3
     have hb:=below_step HA.out.2 HBb.out
     refine ⟨_,rfl,?_,below_step HBq.out hb⟩
     have h2:=Kd.R_below HOq.out hb
     exact Kd.R_mono h2 (fun _ _=>trivial)
end Go.Proofs.YtmmcbncpnlknbaaGreat.Top
namespace Go.Proofs.YtmmcbncpnlknbaaGreat.Top
open Go Go.RowKit Go.Proofs.YtmmcbncpnlknbaaGreatW.PrintWords Go.Proofs.YtmmcbncpnlknbaaGreatW.PrintLast Go.Proofs.YtmmcbncpnlknbaaGreatW.PrintMore
set_option maxRecDepth 100000 in
theorem ins0 (w:World):Calls Tryz.prog 222 #[.slice none 0 0,.int .i64 0,.int .i64 0] w fun e w'=>e=.returned (.tuple #[])/\Drawn0 w w':=by
 go_enter Tryz.func222,Tryz.ntmps222
 go_wp2
 go_loopg [6] 1 (fun kq x wr=>kq=1/\x=.int .i64 1/\wr=w)
 case atStart=>exact ⟨rfl,by simp,rfl⟩
 case round =>
  obtain ⟨rfl,rfl,rfl⟩:=hrel
  go_wp2
  go_end0
  exact ⟨rfl,0,rfl⟩
set_option maxRecDepth 100000 in
theorem pdq0 (w:World):Calls Tryz.prog 200 #[.slice none 0 0,.int .i64 0,.int .i64 0,.int .i64 0] w fun e w'=>e=.returned (.tuple #[])/\Drawn0 w w':=by
 go_enter Tryz.func200,Tryz.ntmps200
 go_wp2
 go_loopg [1,2,3] 1 (fun kq x y z wr=>kq=1/\x=.int .i64 0/\y=.int .i64 0/\wr=w)
 case atStart=>exact ⟨rfl,rfl,rfl,rfl⟩
 case round =>
  obtain ⟨rfl,rfl,rfl,rfl⟩:=hrel
  go_wp2_with (first|(go_at_call 222;go_loud (refine (ins0 _).mono ?_;rintro e1 w1 ⟨rfl,nd,rfl⟩)))
  exact bodyPost_ret (results_none rfl _ _ _) rfl ⟨rfl,_,rfl⟩
set_option maxRecDepth 100000 in
theorem len64 (w:World):Calls Tryz.prog 211 #[.int .u64 0] w fun e w'=>e=.returned (.int .i64 0)/\Drawn0 w w':=by
 go_enter Tryz.func211,Tryz.ntmps211
 go_wp2
 go_ret
 exact ⟨by kernel_rfl,0,rfl⟩
set_option maxRecDepth 100000 in
theorem len0 (w:World):Calls Tryz.prog 183 #[.int .u64 0] w fun e w'=>e=.returned (.int .i64 0)/\Drawn0 w w':=by
 go_enter Tryz.func183,Tryz.ntmps183
 go_wp2_with (first|(go_at_call 211;go_loud (refine (len64 _).mono ?_;rintro e1 w1 ⟨rfl,nd,rfl⟩)))
 go_ret
 exact ⟨rfl,_,rfl⟩
set_option maxRecDepth 100000 in
theorem sort0 (w:World):Calls Tryz.prog 179 #[.slice none 0 0] w fun e w'=>e=.returned (.tuple #[])/\Drawn0 w w':=by
 go_enter Tryz.func179,Tryz.ntmps179
 go_wp2_with (first|(go_at_call 183;go_loud (refine (len0 _).mono ?_;rintro e1 w1 ⟨rfl,nd0,rfl⟩))|(go_at_call 200;go_loud (refine (pdq0 _).mono ?_;rintro e1 w1 ⟨rfl,nd,rfl⟩)))
 go_end0
 exact ⟨rfl,_,rfl⟩
set_option maxRecDepth 100000 in
theorem compact0 (w:World):Calls Tryz.prog 180 #[.slice none 0 0] w fun e w'=>e=.returned (.slice none 0 0)/\Drawn0 w w':=by
 go_enter Tryz.func180,Tryz.ntmps180
 go_wp2
 go_ret
 exact ⟨rfl,0,rfl⟩
end Go.Proofs.YtmmcbncpnlknbaaGreat.Top
