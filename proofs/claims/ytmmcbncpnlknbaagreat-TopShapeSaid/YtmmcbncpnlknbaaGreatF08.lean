import Derived.Test.YtmmcbncpnlknbaaGreatF06
import Derived.Test.YtmmcbncpnlknbaaGreatF07
import Derived.WalkMore
import Derived.Lib.SmallJoins
import Derived.Laws.BitsAllLaws
import Derived.Laws.Closers25b
set_option linter.unusedVariables false
set_option linter.unusedSimpArgs false
namespace Go.Proofs.YtmmcbncpnlknbaaGreat.PAll
open Go.RowKit Go.Proofs.YtmmcbncpnlknbaaGreatW.PrintWords Go.Proofs.YtmmcbncpnlknbaaGreatW.PrintLast Go.Proofs.YtmmcbncpnlknbaaGreatW.PrintMore
def errW:Option Int->Value
 | none=>.nilIface
 | some c=>.iface 0 (.int .i64 c)
theorem errW_none:errW none=.nilIface:=rfl
theorem errW_some (c:Int):errW (some c)=.iface 0 (.int .i64 c):=rfl
theorem info5:(Tryz.prog.info? 5).map (fun i=>(i.zero,i.size,i.bytes))=some (some (.int .u8 0),1,1):=by kernel_rfl
theorem info39:(Tryz.prog.info? 39).map (fun i=>(i.zero,i.size,i.bytes))=some (some (.agg #[(.int .i64 0),(.string ⟨#[]⟩),(.slice none 0 0),(.int .i64 0),(.int .i64 0),(.int .i64 0),(.int .u8 0),(.slice none 0 0)]),8,104):=by kernel_rfl
def rd_L3 (xs:List (List Int)) (i:Int):(List Int):=xs.getD i.toNat ([]:List Int)
theorem at_L3 {w:World} {A:Option Addr} {n:Nat} {xs:List (List Int)} (h:Kd.C (Kd.slice 3 (Kd.int .i64)) w A n xs) (i:Int) (h0:0<=i) (h1:i < n):∃ ad A0 c0,A=some ad/\w.cell? (ad.add i.toNat)=some (.slice A0 (rd_L3 xs i).length c0)/\(rd_L3 xs i).length<=c0/\(Kd.int .i64).C w A0 (rd_L3 xs i).length (rd_L3 xs i):=by
 obtain ⟨ad,c,e,_,hK,hc0⟩:=Kd.C_get h ([]:List Int) i h0 h1
 have hc:∀ j u,c[j]?=some u->w.cell? (ad.add (i.toNat*1+j))=some u:=hc0
 obtain ⟨A0,c0,rfl,l0,g0⟩:=hK
 exact ⟨ad,A0,c0,e,by have hq:=hc 0 _ rfl;rwa [Nat.mul_one,Nat.add_zero] at hq,l0,g0⟩
structure S139 where
 f0:ByteArray
 f1:Int
 f2:Int
 f3:(List Int)
def rd_L5 (xs:List (List Int)) (i:Int):(List Int):=xs.getD i.toNat ([]:List Int)
theorem at_L5 {w:World} {A:Option Addr} {n:Nat} {xs:List (List Int)} (h:Kd.C (Kd.slice 5 (Kd.int .u8)) w A n xs) (i:Int) (h0:0<=i) (h1:i < n):∃ ad A0 c0,A=some ad/\w.cell? (ad.add i.toNat)=some (.slice A0 (rd_L5 xs i).length c0)/\(rd_L5 xs i).length<=c0/\(Kd.int .u8).C w A0 (rd_L5 xs i).length (rd_L5 xs i):=by
 obtain ⟨ad,c,e,_,hK,hc0⟩:=Kd.C_get h ([]:List Int) i h0 h1
 have hc:∀ j u,c[j]?=some u->w.cell? (ad.add (i.toNat*1+j))=some u:=hc0
 obtain ⟨A0,c0,rfl,l0,g0⟩:=hK
 exact ⟨ad,A0,c0,e,by have hq:=hc 0 _ rfl;rwa [Nat.mul_one,Nat.add_zero] at hq,l0,g0⟩
structure S39 where
 f0:Int
 f1:ByteArray
 f2:(List Int)
 f3:Int
 f4:Int
 f5:Int
 f6:Int
 f7:(List (List Int))
def z39:S39:=⟨(0:Int),(⟨#[]⟩:ByteArray),([]:List Int),(0:Int),(0:Int),(0:Int),(0:Int),([]:List (List Int))⟩
def k39:Kd S39:=Kd.iso (Kd.pair (Kd.int .i64) (Kd.pair Kd.string (Kd.pair (Kd.slice 5 (Kd.int .u8)) (Kd.pair (Kd.int .i64) (Kd.pair (Kd.int .i64) (Kd.pair (Kd.int .i64) (Kd.pair (Kd.int .u8) (Kd.slice 98 (Kd.slice 3 (Kd.int .i64)))))))))) (fun x:S39=>(x.f0,x.f1,x.f2,x.f3,x.f4,x.f5,x.f6,x.f7))
theorem k39_heap:Kd.Heap k39:=Kd.heap_iso _ (Kd.heap_pair (Kd.heap_int .i64) (Kd.heap_pair Kd.heap_string (Kd.heap_pair (Kd.heap_slice 5 (Kd.heap_int .u8)) (Kd.heap_pair (Kd.heap_int .i64) (Kd.heap_pair (Kd.heap_int .i64) (Kd.heap_pair (Kd.heap_int .i64) (Kd.heap_pair (Kd.heap_int .u8) (Kd.heap_slice 98 (Kd.heap_slice 3 (Kd.heap_int .i64))))))))))
theorem k39_open {w:World} {x:S39} {cs:List Value} (h:k39.K w x cs):∃ A2 c2 A7 c7,cs=[.int .i64 x.f0,.string x.f1,.slice A2 x.f2.length c2,.int .i64 x.f3,.int .i64 x.f4,.int .i64 x.f5,.int .u8 x.f6,.slice A7 x.f7.length c7]/\x.f2.length<=c2/\(Kd.int .u8).C w A2 x.f2.length x.f2/\x.f7.length<=c7/\(Kd.slice 3 (Kd.int .i64)).C w A7 x.f7.length x.f7:=by
 obtain ⟨_,_,rfl,rfl,⟨_,_,rfl,rfl,⟨_,_,rfl,⟨A2,c2,rfl,l2,g2⟩,⟨_,_,rfl,rfl,⟨_,_,rfl,rfl,⟨_,_,rfl,rfl,⟨_,_,rfl,rfl,⟨A7,c7,rfl,l7,g7⟩⟩⟩⟩⟩⟩⟩⟩:=h
 exact ⟨A2,c2,A7,c7,rfl,l2,g2,l7,g7⟩
def rd_T39 (xs:List S39) (i:Int):S39:=xs.getD i.toNat z39
theorem at_T39 {w:World} {A:Option Addr} {n:Nat} {xs:List S39} (h:Kd.C k39 w A n xs) (i:Int) (h0:0<=i) (h1:i < n):∃ ad A2 c2 A7 c7,A=some ad/\w.cell? (ad.add (i.toNat*8))=some (.int .i64 (rd_T39 xs i).f0)/\w.cell? ⟨(ad.add (i.toNat*8)).block,(ad.add (i.toNat*8)).off+1,none⟩=some (.string (rd_T39 xs i).f1)/\w.cell? ⟨(ad.add (i.toNat*8)).block,(ad.add (i.toNat*8)).off+2,none⟩=some (.slice A2 (rd_T39 xs i).f2.length c2)/\w.cell? ⟨(ad.add (i.toNat*8)).block,(ad.add (i.toNat*8)).off+3,none⟩=some (.int .i64 (rd_T39 xs i).f3)/\w.cell? ⟨(ad.add (i.toNat*8)).block,(ad.add (i.toNat*8)).off+4,none⟩=some (.int .i64 (rd_T39 xs i).f4)/\w.cell? ⟨(ad.add (i.toNat*8)).block,(ad.add (i.toNat*8)).off+5,none⟩=some (.int .i64 (rd_T39 xs i).f5)/\w.cell? ⟨(ad.add (i.toNat*8)).block,(ad.add (i.toNat*8)).off+6,none⟩=some (.int .u8 (rd_T39 xs i).f6)/\w.cell? ⟨(ad.add (i.toNat*8)).block,(ad.add (i.toNat*8)).off+7,none⟩=some (.slice A7 (rd_T39 xs i).f7.length c7)/\(rd_T39 xs i).f2.length<=c2/\(Kd.int .u8).C w A2 (rd_T39 xs i).f2.length (rd_T39 xs i).f2/\(rd_T39 xs i).f7.length<=c7/\(Kd.slice 3 (Kd.int .i64)).C w A7 (rd_T39 xs i).f7.length (rd_T39 xs i).f7:=by
 obtain ⟨ad,c,e,_,hK,hc0⟩:=Kd.C_get h z39 i h0 h1
 have hc:∀ j u,c[j]?=some u->w.cell? (ad.add (i.toNat*8+j))=some u:=hc0
 obtain ⟨A2,c2,A7,c7,rfl,l2,g2,l7,g7⟩:=k39_open hK
 exact ⟨ad,A2,c2,A7,c7,e,hc 0 _ rfl,by rw [<- add_field _ _ 1 (by omega)];exact hc 1 _ rfl,by rw [<- add_field _ _ 2 (by omega)];exact hc 2 _ rfl,by rw [<- add_field _ _ 3 (by omega)];exact hc 3 _ rfl,by rw [<- add_field _ _ 4 (by omega)];exact hc 4 _ rfl,by rw [<- add_field _ _ 5 (by omega)];exact hc 5 _ rfl,by rw [<- add_field _ _ 6 (by omega)];exact hc 6 _ rfl,by rw [<- add_field _ _ 7 (by omega)];exact hc 7 _ rfl,l2,g2,l7,g7⟩
end Go.Proofs.YtmmcbncpnlknbaaGreat.PAll
namespace Go.Proofs.YtmmcbncpnlknbaaGreat.Top
open Go Go.RowKit Go.Proofs.YtmmcbncpnlknbaaGreatW.PrintWords Go.Proofs.YtmmcbncpnlknbaaGreatW.PrintLast Go.Proofs.YtmmcbncpnlknbaaGreatW.PrintMore
def parL (k r:Nat):List Int:=(List.range r).flatMap (fun i=>(List.range k).map (fun c=>btw (k+i) c))
theorem parL_succ (k r:Nat):parL k (r+1)=parL k r ++ (List.range k).map (fun c=>btw (k+r) c):=by
 unfold parL
 rw [List.range_succ,List.flatMap_append]
 simp
theorem parL_len (k:Nat):∀ r,(parL k r).length=r*k
 | 0=>by simp [parL]
 | r+1=>by rw [parL_succ,List.length_append,parL_len k r];simp [Nat.add_mul]
set_option maxHeartbeats 1000000 in
theorem ccheck_ok (w:World) (k m:Nat) (hk:1<=k) (hkm:k+m<=256) :
  Calls Tryz.prog 25 #[.int .i64 k,.int .i64 m] w fun e w'=>e=.returned (.int .i64 0)/\Drawn0 w w':=by
 have g1:¬ (k:Int) < 1:=by omega
 have g2:¬ (m:Int) < 0:=by omega
 have g3:¬ (k:Int) > 256:=by omega
 have g4:¬ (m:Int) > wrap64 (256 - (k:Int)):=by rw [w64 _ (by omega)];omega
 go_enter Tryz.func25,Tryz.ntmps25
 go_wp2
 repeat (go_quiet (fail);try go_wp2)
 go_ret
 exact ⟨rfl,0,rfl⟩
theorem info5':(Tryz.prog.info? 5).map (fun i=>(i.zero,i.size,i.bytes))=some (some (.int .u8 0),1,1):=by kernel_rfl
theorem results_cr {fn:Func} {p u:Tmp} {ty:TypeId} (h:fn.results=#[.cell p ty,.tmp u]) (tmps:Array Value) (w:World) (g:Nat) (cs:Array Value)
  (hp:tmps.getD p undef=.pointer (some ⟨g,0,none⟩)) (hl:(loadVar ty ⟨g,0,none⟩).run Tryz.prog w=.ok (.agg cs) w) :
  (results fn tmps).run Tryz.prog w=.ok (.tuple #[.agg cs,tmps.getD u undef]) w:=by
 rw [results_cell_tmp h,hp]
 simp [asAddr,hl]
structure MI (w wr:World) (m k:Int) (v:Value) (L:List Int):Prop where
 c12:wr.heap[w.heap.size]?=some (.cells #[.int .i64 0,.int .i64 0,.slice none 0 0] 241 (0,0))
 c15:wr.heap[w.heap.size+1]?=some (.cells #[.int .i64 m,.int .i64 k,v] 241 (0,0))
 row:Kd.R (Kd.int .u8) 5 wr w.heap.size (fun _=>True) v L
 below:Below w.heap.size w wr
theorem MI.ne {w wr:World} {m k:Int} {v:Value} {L:List Int} (h:MI w wr m k v L) (j:Nat) (c:Array Value) (hj:wr.heap[j]?=some (.cells c 241 (0,0))):some j≠v.ownBlock:=fun e=>by
 obtain ⟨cells,hc⟩:=Kd.R_typed h.row j e.symm
 rw [hj] at hc
 injection hc with hc
 injection hc with _ hc
 cases hc
theorem MI.below' {w wr W:World} {m k:Int} {v:Value} {L:List Int} (h:MI w wr m k v L) (hb:Below wr.heap.size wr W):MI w W m k v L :=
 ⟨(hb.block _ (Array.getElem?_eq_some_iff.1 h.c12).1).trans h.c12,(hb.block _ (Array.getElem?_eq_some_iff.1 h.c15).1).trans h.c15,Kd.R_below h.row hb,below_step h.below hb⟩
theorem MI.push {w W w1:World} {m k:Int} {v v1:Value} {L L1:List Int} (h:MI w W m k v L) (row:Kd.R (Kd.int .u8) 5 w1 w.heap.size (fun _=>True) v1 L1) (hg:W.grownBy w1 v.ownBlock) (hB:Below w.heap.size w w1) :
  MI w (w1.setCell ⟨w.heap.size+1,2,none⟩ v1) m k v1 L1/\w1.cell? ⟨w.heap.size+1,2,none⟩=some v/\w1.frozen? ⟨w.heap.size+1,2,none⟩=false:=by
 have e12:=(hg.block _ (Array.getElem?_eq_some_iff.1 h.c12).1 (h.ne _ _ h.c12)).trans h.c12
 have e15:=(hg.block _ (Array.getElem?_eq_some_iff.1 h.c15).1 (h.ne _ _ h.c15)).trans h.c15
 refine ⟨⟨(Below.heap_setCell _ _ _ _ (by simp)).trans e12,?_,?_,⟨hB.os,hB.tape,hB.output,by simp [World.setCell];exact hB.size,fun j hj=>(Below.heap_setCell _ _ _ _ (by simp;omega)).trans (hB.block j hj)⟩⟩,by simp [World.cell?,e15],by simp [World.frozen?,e15]⟩
 ·have:=setc e15 2 v1
  simpa using this
 ·exact Kd.R_mono (Kd.R_far (Kd.R_types row e15 (by decide)) (p:=⟨w.heap.size+1,2,none⟩) (fun j hj=>hj.2) v1) (fun _ _=>trivial)
set_option maxRecDepth 100000 in
set_option maxHeartbeats 4000000 in
theorem made_ok {w:World} {f p q:Nat} (h:Fd w f) (k m:Nat) (hp:w.cell? ⟨p,0,none⟩=some (.pointer (some ⟨f,0,none⟩))) (hq:w.cell? ⟨q,0,none⟩=some (.int .i64 k)) (hk:1<=k) (hkm:k+m<=7) :
  Calls Tryz.prog 187 #[.pointer (some ⟨f,0,none⟩),.int .i64 k,.int .i64 m,.int .i64 m,.int .i64 k,.func (.func 188) #[] #[.pointer (some ⟨p,0,none⟩),.pointer (some ⟨q,0,none⟩)]] w fun e w'=>∃ v,e=.returned (.tuple #[.agg #[.int .i64 m,.int .i64 k,v],.int .i64 0])/\Kd.R (Kd.int .u8) 5 w' w.heap.size (fun _=>True) v (parL k m)/\Below w.heap.size w w':=by
 have H:=Aside0.mk h
 have HP:=Aside0.mk (And.intro hp hq)
 have HK:=Aside0.mk (And.intro hk hkm)
 clear h hp hq hk hkm
 go_enter Tryz.func187,Tryz.ntmps187
 go_wp2_with (first|(go_at_call 25;refine (ccheck_ok _ k m HK.out.1 (by have:=HK.out;omega)).mono ?_;rintro e w1 ⟨rfl,nd,rfl⟩))
 go_loopg [32] m (fun kq x wr=>∃ (i:Nat) (v:Value),x=.int .i64 i/\i+kq=m/\Aside0 (MI w wr m k v (parL k i)))
 case atStart =>
  have b1:Below (w.heap.size+1) (w.alloc (Obj.cells #[.int .i64 0,.int .i64 0,.slice none 0 0] 241)) (((w.alloc (Obj.cells #[.int .i64 0,.int .i64 0,.slice none 0 0] 241)).drewN nd).alloc (Obj.cells #[.int .i64 m,.int .i64 k,.slice none 0 0] 241)):=by
   have e:w.heap.size+1=(w.alloc (Obj.cells #[.int .i64 0,.int .i64 0,.slice none 0 0] 241)).heap.size:=by simp
   rw [e]
   exact below_alloc (pw_below_drewN (Below.refl _ _) _) _
  refine ⟨0,.slice none 0 0,rfl,by omega,⟨(b1.block _ (by omega)).trans (heap_alloc_new _ _),?_,Kd.R_nil _ _ _ _ _,below_alloc (pw_below_drewN (below_alloc (Below.refl _ _) _) _) _⟩⟩
  have h:=heap_alloc_new ((w.alloc (Obj.cells #[.int .i64 0,.int .i64 0,.slice none 0 0] 241)).drewN nd) (Obj.cells #[.int .i64 m,.int .i64 k,.slice none 0 0] 241)
  rwa [show ((w.alloc (Obj.cells #[.int .i64 0,.int .i64 0,.slice none 0 0] 241)).drewN nd).heap.size=w.heap.size+1 from by simp] at h
 case round =>
  obtain ⟨i,v,rfl,hi,HM⟩:=hrel
  by_cases him:i < m
  ·have g1:(i:Int) < (m:Int):=by omega
   go_wp2
   go_loopg [36] k (fun kq x wq=>∃ (j:Nat) (v:Value),x=.int .i64 j/\j+kq=k/\Aside0 (MI w wq m k v (parL k i ++ (List.range j).map (fun c=>btw (k+i) c))))
   case atStart =>
    exact ⟨0,v,rfl,by omega,⟨by simpa using HM.out⟩⟩
   case round =>
    obtain ⟨j,u,rfl,hj,HN⟩:=hrel
    by_cases hjk:j < k
    ·have g2:(j:Int) < (k:Int):=by omega
     have u0:wr.cell? ⟨w.heap.size+1,2,none⟩=some u:=by simp [World.cell?,HN.out.c15]
     have ua:∀ n o,((wr.drewN n).alloc o).cell? ⟨w.heap.size+1,2,none⟩=some u:=fun n o=>Lib.cell?_alloc_some _ u0
     have HP2:=Aside0.mk (And.intro ((World.cell?_of_block (a:=⟨p,0,none⟩) (HN.out.below.block p (cell_lt HP.out.1))).trans HP.out.1) (And.intro ((World.cell?_of_block (a:=⟨q,0,none⟩) (HN.out.below.block q (cell_lt HP.out.2))).trans HP.out.2) (show Fd wr f from H.out.keep (HN.out.below.block f H.out.lt))))
     have hlen:(parL k i ++ (List.range j).map (fun c=>btw (k+i) c)).length<=1000:=by
      rw [List.length_append,parL_len]
      have h1:i*k<=7*7:=Nat.mul_le_mul (by have:=HK.out;omega) (by have:=HK.out;omega)
      simp
      have:=HK.out
      omega
     have HLE:=Aside0.mk hlen
     obtain ⟨X,hX⟩:∃ X,parL k i ++ (List.range j).map (fun c=>btw (k+i) c) ++ [btw (k+i) j]=X:=⟨_,rfl⟩
     have HX:=Aside0.mk hX
     clear hX
     clear hlen
     go_wp2
     go_region_law (first
      | (go_simp;go_at_call 188;go_loud (refine (parity1_ok (w:=wr.drew) (HP2.out.2.2.below (below_drew1 (Below.refl _ _))) k i j HP2.out.1 HP2.out.2.1 (by have:=HK.out;omega) hjk).mono ?_;rintro e w1 ⟨rfl,nd2,rfl⟩))
      | (refine Kd.R_append_step (Kd.int .u8) (w0:=w) w.heap.size (by rfl) (.tmp 40) (.tmp 45) 36 5 (.int .u8 0) 1 rfl Tryz.underlying36 info5' rfl (by decide) (by decide) u (parL k i ++ (List.range j).map (fun c=>btw (k+i) c)) (btw (k+i) j) [.int .u8 (btw (k+i) j)] (fun _=>True) (fun _=>False) rfl rfl rfl (fun _ h=>h.elim) (fun _ _=>trivial) ?aO ?aB ?aS ?aL ?_;(case aO=>(with_reducible repeat (first|apply Kd.R_alloc|apply Kd.R_drewN|apply Kd.R_drew));exact HN.out.row);(case aB=>(repeat (first|(with_reducible first|exact HN.out.below|apply below_alloc|apply pw_below_drewN|apply below_drew1)|exact HN.out.below)));(case aS=>exact below_size (by repeat (first|(with_reducible first|exact HN.out.below|apply below_alloc|apply pw_below_drewN|apply below_drew1)|exact HN.out.below)));(case aL=>(have:=HLE.out;omega));intro v3 w3 ho3 hb3 hg3 hat3;rw [HX.out] at ho3;obtain ⟨A3,c3,rfl⟩:=Kd.R_slice ho3;obtain ⟨hm3,hc3,hf3⟩:=(HN.out.below' (by repeat (first|(with_reducible first|exact Below.refl _ _|apply below_alloc|apply pw_below_drewN|apply below_drew1)|exact Below.refl _ _))).push ho3 hg3 hb3;have HM3:=Aside0.mk hm3;clear hm3 ho3 hb3 hg3 hat3))
     all_goals
      go_wp2
      go_roundg (k - (j+1))
      case measure=>omega
      case rel =>
       exact ⟨j+1,_,by simp [w64 _ (show -9223372036854775808<=(j:Int)+1/\(j:Int)+1<=9223372036854775807 from by have:=HK.out;omega)],by omega,⟨by rw [show parL k i ++ (List.range (j+1)).map (fun c=>btw (k+i) c)=X from by rw [<- HX.out,List.range_succ,List.map_append,<- List.append_assoc];rfl];exact HM3.out⟩⟩
    ·have g2:¬ (j:Int) < (k:Int):=by omega
     go_wp2
     go_roundg (m - (i+1))
     case measure=>omega
     case rel =>
      have e:j=k:=by omega
      subst e
      exact ⟨i+1,u,by simp [w64 _ (show -9223372036854775808<=(i:Int)+1/\(i:Int)+1<=9223372036854775807 from by have:=HK.out;omega)],by omega,⟨by rw [parL_succ];exact HN.out⟩⟩
  ·have g1:¬ (i:Int) < (m:Int):=by omega
   have e:i=m:=by omega
   subst e
   obtain ⟨A,c,rfl⟩:=Kd.R_slice HM.out.row
   obtain ⟨x0,x1,x2⟩:wr.cell? ⟨w.heap.size+1,0,none⟩=some (.int .i64 i)/\wr.cell? ⟨w.heap.size+1,1,none⟩=some (.int .i64 k)/\wr.cell? ⟨w.heap.size+1,2,none⟩=some (.slice A (parL k i).length c):=by simp [World.cell?,HM.out.c15]
   obtain ⟨y0,y1,y2⟩:wr.cell? ⟨w.heap.size,0,none⟩=some (.int .i64 0)/\wr.cell? ⟨w.heap.size,1,none⟩=some (.int .i64 0)/\wr.cell? ⟨w.heap.size,2,none⟩=some (.slice none 0 0):=by simp [World.cell?,HM.out.c12]
   have fz:∀ j,wr.frozen? ⟨w.heap.size,j,none⟩=false:=fun j=>by simp [World.frozen?,HM.out.c12]
   have f0:=fz 0
   have f1:=fz 1
   have f2:=fz 2
   clear fz
   have e0:=setc HM.out.c12 0 (.int .i64 i)
   have e1:=setc e0 1 (.int .i64 k)
   have e2:=setc e1 2 (.slice A (parL k i).length c)
   have E2:=Aside0.mk e2
   clear e0 e1 e2
   go_wp2
   refine bodyPost_ret (results_cr rfl _ _ w.heap.size _ rfl (run_loadVar_row _ _ _ _ _ _ _ E2.out Tryz.underlying241 rfl (by kernel_rfl))) rfl ⟨_,rfl,?_,?_⟩
   ·exact Kd.R_mono (Kd.R_far (Kd.R_far (Kd.R_far (Kd.R_types HM.out.row HM.out.c12 (by decide)) (p:=⟨w.heap.size,0,none⟩) (fun j hj=>hj.2) _) (p:=⟨w.heap.size,1,none⟩) (fun j hj=>hj.2) _) (p:=⟨w.heap.size,2,none⟩) (fun j hj=>hj.2) _) (fun _ _=>trivial)
   ·exact ⟨HM.out.below.os,HM.out.below.tape,HM.out.below.output,by simp [World.setCell];exact HM.out.below.size,fun j hj=>(Below.heap_setCell _ _ _ j (by simp;omega)).trans ((Below.heap_setCell _ _ _ j (by simp;omega)).trans ((Below.heap_setCell _ _ _ j (by simp;omega)).trans (HM.out.below.block j hj)))⟩
theorem three (w:World) (a b c:Obj):∃ W,((w.alloc a).alloc b).alloc c=W/\W.heap[w.heap.size]?=some a/\W.heap[w.heap.size+1]?=some b/\W.heap[w.heap.size+2]?=some c/\W.heap.size=w.heap.size+3/\Below w.heap.size w W:=by
 refine ⟨_,rfl,?_,?_,?_,by simp,below_alloc (below_alloc (below_alloc (Below.refl _ _) _) _) _⟩
 ·rw [heap_alloc_old _ _ (by simp;omega),heap_alloc_old _ _ (by simp)]
  exact heap_alloc_new _ _
 ·rw [heap_alloc_old _ _ (by simp)]
  have:=heap_alloc_new (w.alloc a) b
  simpa using this
 ·have:=heap_alloc_new ((w.alloc a).alloc b) c
  simpa using this
set_option maxRecDepth 100000 in
set_option maxHeartbeats 4000000 in
theorem parity_ok {w:World} {f:Nat} (h:Fd w f) (k m:Nat) (hk:1<=k) (hkm:k+m<=7) :
  Calls Tryz.prog 170 #[.pointer (some ⟨f,0,none⟩),.int .i64 k,.int .i64 m] w fun e w'=>∃ v,e=.returned (.tuple #[.agg #[.int .i64 m,.int .i64 k,v],.int .i64 0])/\Kd.R (Kd.int .u8) 5 w' w.heap.size (fun _=>True) v (parL k m)/\Below w.heap.size w w':=by
 have H:=Aside0.mk h
 have HK:=Aside0.mk (And.intro hk hkm)
 clear h hk hkm
 obtain ⟨W,hW,q0,q1,q2,qs,qb⟩:=three w (.cells #[.pointer (some ⟨f,0,none⟩)] 57) (.cells #[.int .i64 k] 3) (.cells #[.int .i64 0,.int .i64 0,.slice none 0 0] 241)
 have hf:Fd W f:=H.out.below qb
 have HW:=Aside0.mk (And.intro hW (And.intro q0 (And.intro q1 (And.intro q2 (And.intro qs (And.intro qb hf))))))
 clear hW q0 q1 q2 qs qb hf
 go_enter Tryz.func170,Tryz.ntmps170
 go_wp2_with (first|(go_at_call 187;rw [HW.out.1];refine (made_ok HW.out.2.2.2.2.2.2 k m (p:=w.heap.size) (q:=w.heap.size+1) (by simp [World.cell?,HW.out.2.1]) (by simp [World.cell?,HW.out.2.2.1]) HK.out.1 HK.out.2).mono ?_;rintro e w2 ⟨v,rfl,hr,hb⟩;obtain ⟨A,c,rfl⟩:=Kd.R_slice hr;have e2:=(hb.block (w.heap.size+2) (by have:=HW.out.2.2.2.2.1;omega)).trans HW.out.2.2.2.1;obtain ⟨y0,y1,y2⟩:w2.cell? ⟨w.heap.size+2,0,none⟩=some (.int .i64 0)/\w2.cell? ⟨w.heap.size+2,1,none⟩=some (.int .i64 0)/\w2.cell? ⟨w.heap.size+2,2,none⟩=some (.slice none 0 0):=(by simp [World.cell?,e2]);have fz:∀ j,w2.frozen? ⟨w.heap.size+2,j,none⟩=false:=(fun j=>by simp [World.frozen?,e2]);have f0:=fz 0;have f1:=fz 1;have f2:=fz 2;have E2:=Aside0.mk e2;have HR:=Aside0.mk (And.intro hr hb);clear hr hb e2 fz))
 have e2:=setc (setc (setc E2.out 0 (.int .i64 m)) 1 (.int .i64 k)) 2 (.slice A (parL k m).length c)
 refine bodyPost_ret (results_cr rfl _ _ (w.heap.size+2) _ rfl (run_loadVar_row _ _ _ _ _ _ _ e2 Tryz.underlying241 rfl (by kernel_rfl))) rfl ⟨_,rfl,?_,?_⟩
 ·exact Kd.R_lower (Kd.R_mono (Kd.R_far (Kd.R_far (Kd.R_far (Kd.R_types HR.out.1 E2.out (by decide)) (p:=⟨w.heap.size+2,0,none⟩) (fun j hj=>hj.2) _) (p:=⟨w.heap.size+2,1,none⟩) (fun j hj=>hj.2) _) (p:=⟨w.heap.size+2,2,none⟩) (fun j hj=>hj.2) _) (fun _ _=>trivial)) (by have:=HW.out.2.2.2.2.1;omega)
 ·have hb:=below_step HW.out.2.2.2.2.2.1 HR.out.2
  exact ⟨hb.os,hb.tape,hb.output,by simp [World.setCell];exact hb.size,fun j hj=>(Below.heap_setCell _ _ _ j (by simp;omega)).trans ((Below.heap_setCell _ _ _ j (by simp;omega)).trans ((Below.heap_setCell _ _ _ j (by simp;omega)).trans (hb.block j hj)))⟩
theorem ex_pos (i:Nat):1<=ex i/\ex i<=255:=by
 have h:∀ i ∈ List.range 255,1<=pw i/\pw i<=255:=fun i hi=>⟨(pw_all i hi).1,(pw_all i hi).2.1⟩
 have e:ex i=(pw (i % 255):Int):=by unfold ex exn pw;rfl
 have:=h (i % 255) (by simp;omega)
 rw [e]
 omega
theorem gm_pos {a b:Int} (ha:1<=a) (hb:1<=b):1<=gm a b/\gm a b<=255:=by
 unfold gm
 rw [if_neg (by omega)]
 exact ex_pos _
theorem gm_byte (a b:Int):0<=gm a b/\gm a b<=255:=by
 unfold gm
 split
 ·omega
 ·have:=ex_pos (lg a.toNat+lg b.toNat)
  omega
theorem gi_pos (a:Int):1<=gi a/\gi a<=255:=ex_pos _
def wp (k i:Nat):Nat->Int
 | 0=>1
 | n+1=>if k+n=i then wp k i n else gm (wp k i n) (((k+n) ^^^ i:Nat):Int)
theorem wp_pos (k i:Nat):∀ n,k+n < 9->i < 8->1<=wp k i n/\wp k i n<=255
 | 0,_,_=>by simp [wp]
 | n+1,h,hi=>by
  unfold wp
  split
  ·exact wp_pos k i n (by omega) hi
  ·rename_i hne
   exact gm_pos (wp_pos k i n (by omega) hi).1 (by have:=(xor8 (k+n) (by simp;omega) i (by simpa using hi) hne).2;omega)
def wgt (k m i:Nat):Int:=gi (wp k i m)
set_option maxRecDepth 100000 in
set_option maxHeartbeats 4000000 in
theorem weight_ok {w:World} {f p q s:Nat} (h:Fd w f) (k m i:Nat) (hs:w.cell? ⟨s,0,none⟩=some (.pointer (some ⟨f,0,none⟩))) (hp:w.cell? ⟨p,0,none⟩=some (.int .i64 k)) (hq:w.cell? ⟨q,0,none⟩=some (.int .i64 m)) (hkm:k+m<=7) (hi:i < 7) :
  Calls Tryz.prog 213 #[.int .i64 i,.pointer (some ⟨p,0,none⟩),.pointer (some ⟨q,0,none⟩),.pointer (some ⟨s,0,none⟩)] w fun e w'=>e=.returned (.int .u8 (wgt k m i))/\Drawn0 w w':=by
 have H:=Aside0.mk h
 have HK:=Aside0.mk (And.intro hkm hi)
 have gkm:wrap64 ((k:Int)+m)=((k+m:Nat):Int):=by rw [w64 _ (by omega)];omega
 clear h hkm hi
 go_enter Tryz.func213,Tryz.ntmps213
 go_wp2
 go_loopg [6,7] m (fun kq P x wr=>∃ n nd:Nat,x=.int .i64 (k+n:Nat)/\P=.int .u8 (wp k i n)/\n+kq=m/\wr=w.drewN nd)
 case atStart =>
  exact ⟨0,0,rfl,rfl,by omega,rfl⟩
 case round =>
  obtain ⟨n,nd,rfl,rfl,hn,rfl⟩:=hrel
  obtain ⟨y,hy⟩:∃ y,k+n=y:=⟨_,rfl⟩
  have hwp:=wp_pos k i n (by have:=HK.out;omega) (by have:=HK.out;omega)
  by_cases hnm:n < m
  ·have g1:(y:Int) < ((k+m:Nat):Int):=by omega
   have gi1:wrap64 ((y:Int)+1)=((k+(n+1):Nat):Int):=by rw [w64 _ (by have:=HK.out;omega)];omega
   by_cases hyi:y=i
   ·have g2:(y:Int)=(i:Int):=by omega
    have ew:wp k i (n+1)=wp k i n:=by rw [wp,if_pos (by omega)]
    have HE:=Aside0.mk ew
    have HY:=Aside0.mk hy
    rw [hy]
    clear hwp ew hy
    go_wp2
    go_roundg (m - (n+1))
    case measure=>omega
    case rel=>exact ⟨n+1,nd,by rw [<- gi1,hyi],by rw [HE.out],by omega,rfl⟩
   ·have g2:¬ (y:Int)=(i:Int):=by omega
    obtain ⟨x1,x2,x3⟩:=xor8 y (by have:=HK.out;simp;omega) i (by have:=HK.out;simp;omega) hyi
    obtain ⟨z,hz⟩:∃ z,y ^^^ i=z:=⟨_,rfl⟩
    rw [hz] at x1 x2 x3
    have g3:IntKind.u8.wrap (z:Int)=(z:Int):=by rw [IntKind.wrap_u8];omega
    have ew:wp k i (n+1)=gm (wp k i n) (z:Int):=by rw [wp,if_neg (by omega),hy,hz]
    have HE:=Aside0.mk ew
    have HX:=Aside0.mk (And.intro x2 (And.intro x3 hwp))
    have HY:=Aside0.mk hy
    rw [hy]
    obtain ⟨P,hP⟩:∃ P,wp k i n=P:=⟨_,rfl⟩
    have HP:=Aside0.mk hP
    rw [hP]
    clear x2 x3 hwp ew hz hy hP
    go_wp2_with (first|(go_at_call 173;refine (mul_ok (H.out.below (pw_below_drewN (Below.refl _ _) _)) P z (by have:=HX.out;rw [HP.out] at this;omega) (by have:=HX.out;rw [HP.out] at this;omega) (by have:=HX.out;omega) (by have:=HX.out;omega)).mono ?_;rintro e w1 ⟨rfl,nd2,rfl⟩))
    go_roundg (m - (n+1))
    case measure=>omega
    case rel=>exact ⟨n+1,_,by rw [gi1],by rw [HE.out,HP.out],by omega,rfl⟩
  ·have g1:¬ (y:Int) < ((k+m:Nat):Int):=by omega
   have e:n=m:=by omega
   have HE:=Aside0.mk e
   have HX:=Aside0.mk hwp
   rw [hy]
   obtain ⟨P,hP⟩:∃ P,wp k i n=P:=⟨_,rfl⟩
   have HP:=Aside0.mk hP
   rw [hP]
   have hr:gi P=wgt k m i:=by rw [wgt,<- hP,e]
   have HR:=Aside0.mk hr
   clear hwp hy hP e hr
   go_wp2_with (first|(go_at_call 212;refine (inv_ok (H.out.below (pw_below_drewN (Below.refl _ _) _)) P (by have:=HX.out;rw [HP.out] at this;omega) (by have:=HX.out;rw [HP.out] at this;omega)).mono ?_;rintro e w1 ⟨rfl,nd2,rfl⟩;rw [HR.out]))
   go_ret
   exact ⟨rfl,_,rfl⟩
def fillR (f:Nat->Int) (N i:Nat):List Int:=(List.range i).map f ++ List.replicate (N - i) 0
theorem fillR_len (f:Nat->Int) {N i:Nat} (h:i<=N):(fillR f N i).length=N:=by simp [fillR];omega
theorem fillR_set (f:Nat->Int) {N i:Nat} (h:i < N):(fillR f N i).set i (f i)=fillR f N (i+1):=by
 unfold fillR
 rw [List.set_append_right _ _ (by simp),show N - i=(N - (i+1))+1 by omega,List.replicate_succ,List.range_succ,List.map_append]
 simp
theorem fillR_all (f:Nat->Int) (N:Nat):fillR f N N=(List.range N).map f:=by simp [fillR]
theorem fillR_zero (f:Nat->Int) (N:Nat):fillR f N 0=List.replicate N 0:=by simp [fillR]
set_option maxRecDepth 100000 in
set_option maxHeartbeats 4000000 in
theorem weights_ok {w:World} {f:Nat} (h:Fd w f) (k m:Nat) (hk:1<=k) (hkm:k+m<=7) :
  Calls Tryz.prog 190 #[.pointer (some ⟨f,0,none⟩),.int .i64 k,.int .i64 m] w fun e w'=>∃ v,e=.returned (.tuple #[v,.int .i64 0])/\Kd.R (Kd.int .u8) 5 w' w.heap.size (fun _=>True) v ((List.range (k+m)).map (wgt k m))/\Below w.heap.size w w':=by
 have H:=Aside0.mk h
 have HK:=Aside0.mk (And.intro hk hkm)
 obtain ⟨W,hW,q0,q1,q2,qs,qb⟩:=three w (.cells #[.pointer (some ⟨f,0,none⟩)] 57) (.cells #[.int .i64 k] 3) (.cells #[.int .i64 m] 3)
 have hf:Fd W f:=H.out.below qb
 have c0:W.cell? ⟨w.heap.size,0,none⟩=some (.pointer (some ⟨f,0,none⟩)):=by simp [World.cell?,q0]
 have c1:W.cell? ⟨w.heap.size+1,0,none⟩=some (.int .i64 k):=by simp [World.cell?,q1]
 have c2:W.cell? ⟨w.heap.size+2,0,none⟩=some (.int .i64 m):=by simp [World.cell?,q2]
 obtain ⟨N,hN⟩:∃ N,k+m=N:=⟨_,rfl⟩
 have HN:=Aside0.mk hN
 have gN:wrap64 ((k:Int)+m)=(N:Int):=by rw [w64 _ (by omega)];omega
 have HW:=Aside0.mk (And.intro hW (And.intro qs (And.intro qb (And.intro hf (And.intro c0 (And.intro c1 c2))))))
 rw [hN]
 clear hW q0 q1 q2 qs qb hf h hk hkm hN
 go_enter Tryz.func190,Tryz.ntmps190
 go_wp2_with (first|(go_at_call 25;rw [HW.out.1];refine (ccheck_ok W k m HK.out.1 (by have:=HK.out;omega)).mono ?_;rintro e w1 ⟨rfl,nd,rfl⟩)|((with_reducible refine gate_dst (N:=24) rfl ?_);go_loud (refine Kd.R_make (Kd.int .u8) (w0:=W) W.heap.size 5 rfl (N:=24) rfl 36 _ _ rfl (N:Int) (congrArg (Value.int .i64) gN) (congrArg (Value.int .i64) gN) Tryz.underlying36 (.int .u8 0) 1 info5' rfl (by decide) (by decide) 0 (ok:=fun _=>True) (okp:=fun _=>True) rfl (fun _ hk=>hk) trivial (by omega) (by have:=HK.out;have:=HN.out;omega) (pw_below_drewN (Below.refl _ _) _) (by simp) ?_;intro v4 w4 ho4 hb4 hg4 hnew4;rw [Int.toNat_natCast,<- fillR_zero (wgt k m) N] at ho4;obtain ⟨A4,c4,rfl⟩:=Kd.R_slice ho4;have HO4:=Aside0.mk ho4;have HB4:=Aside0.mk hb4;have HG4:=Aside0.mk hg4;clear ho4 hb4 hg4 hnew4)))
 have hl0:(fillR (wgt k m) N 0).length=N:=fillR_len _ (Nat.zero_le _)
 rw [hl0] at HO4
 simp only [hl0]
 obtain ⟨go,co,eo,gb,gl,cl,HG⟩:=Kd.R_form HO4.out (by rw [hl0];have:=HK.out;have:=HN.out;omega)
 injection eo with ea en ec
 subst ea
 subst ec
 have GB:=Aside0.mk gb
 clear gb gl HG en
 go_loopg [27] N (fun kq x wr=>∃ i:Nat,x=.int .i64 i/\i+kq=N/\Aside0 (Kd.R (Kd.int .u8) 5 wr W.heap.size (fun _=>True) (.slice (some ⟨go,0,none⟩) N c4) (fillR (wgt k m) N i))/\Aside0 (Below W.heap.size W wr))
 case atStart =>
  exact ⟨0,rfl,by omega,HO4,HB4⟩
 case round =>
  obtain ⟨i,rfl,hi,HR,HB⟩:=hrel
  by_cases hin:i < N
  ·have g1:(i:Int) < (N:Int):=by omega
   have g0:(0:Int)<=i:=by omega
   have hl:(fillR (wgt k m) N i).length=N:=fillR_len _ (by omega)
   have HL:=Aside0.mk hl
   have d0:=(HB.out.cell (cell_lt HW.out.2.2.2.2.1)).trans HW.out.2.2.2.2.1
   have d1:=(HB.out.cell (cell_lt HW.out.2.2.2.2.2.1)).trans HW.out.2.2.2.2.2.1
   have d2:=(HB.out.cell (cell_lt HW.out.2.2.2.2.2.2)).trans HW.out.2.2.2.2.2.2
   have HD:=Aside0.mk (And.intro d0 (And.intro d1 d2))
   clear hl d0 d1 d2
   obtain ⟨x0,f0⟩:=Kd.R_celln 0 HR.out (i:Int) g0 g1
   have HP:=Aside0.mk (Kd.R_putg HR.out (i:Int) (wgt k m i))
   have hgs:∀ n',(wr.drewN n').cell? ⟨go,(i:Int).toNat,none⟩=wr.cell? ⟨go,(i:Int).toNat,none⟩:=fun _=>rfl
   rw [Int.toNat_natCast] at x0 f0
   go_wp2_with (first|(go_at_call 213;refine (weight_ok (HW.out.2.2.2.1.below HB.out) k m i HD.out.1 HD.out.2.1 HD.out.2.2 HK.out.2 (by have:=HK.out;have:=HN.out;omega)).mono ?_;rintro e w1 ⟨rfl,nd2,rfl⟩))
   go_roundg (N - (i+1))
   case measure=>omega
   case rel =>
    refine ⟨i+1,by simp [w64 _ (show -9223372036854775808<=(i:Int)+1/\(i:Int)+1<=9223372036854775807 from by have:=HK.out;have:=HN.out;omega)],by omega,⟨?_⟩,⟨?_⟩⟩
    ·have h2:=(Kd.R_putg (Kd.R_below HR.out (pw_below_drewN (Below.refl _ _) nd2)) (i:Int) (wgt k m i)).1
     rw [Int.toNat_natCast,fillR_set _ hin] at h2
     exact h2
    ·exact below_set (pw_below_drewN HB.out _) GB.out
  ·have g1:¬ (i:Int) < (N:Int):=by omega
   have e:i=N:=by omega
   subst e
   go_wp2
   go_ret2
   refine ⟨_,rfl,?_,below_step HW.out.2.2.1 HB.out⟩
   rw [<- fillR_all]
   exact Kd.R_lower HR.out (by have:=HW.out.2.1;omega)
def bx (a b:Int):Int:=bits .xor .u8 a b
def xpow (x:Int) (i:Nat):Nat->Int
 | 0=>x
 | l+1=>gm (xpow x i l) (i:Int)
def acc (k m:Nat) (word:List Int):Nat->Nat->Int
 | 0,_=>0
 | i+1,l=>bx (acc k m word i l) (xpow (gm (rd word i) (wgt k m i)) i l)
def mixR (m:Nat) (f g:Nat->Int) (l:Nat):List Int:=(List.range m).map (fun j=>if j < l then g j else f j)
theorem mixR_len (m:Nat) (f g:Nat->Int) (l:Nat):(mixR m f g l).length=m:=by simp [mixR]
theorem mixR_zero (m:Nat) (f g:Nat->Int):mixR m f g 0=(List.range m).map f:=by simp [mixR]
theorem mixR_all (m:Nat) (f g:Nat->Int):mixR m f g m=(List.range m).map g:=by
 unfold mixR
 refine List.map_congr_left (fun j hj=>?_)
 rw [if_pos (by simpa using hj)]
theorem mixR_get (m:Nat) (f g:Nat->Int) (l:Nat) (h:l < m):rd (mixR m f g l) (l:Int)=f l:=by
 simp [rd,mixR,List.getD,h]
theorem mixR_set (m:Nat) (f g:Nat->Int) (l:Nat) (h:l < m):(mixR m f g l).set l (g l)=mixR m f g (l+1):=by
 apply List.ext_getElem?
 intro j
 rw [List.getElem?_set]
 unfold mixR
 by_cases hj:j < m
 ·by_cases hl:l=j
  ·subst hl
   simp [h]
  ·rw [if_neg hl]
   simp only [List.getElem?_map,List.getElem?_range hj,Option.map_some]
   by_cases h2:j < l
   ·rw [if_pos h2,if_pos (by omega)]
   ·rw [if_neg h2,if_neg (by omega)]
 ·have e:∀ F:Nat->Int,((List.range m).map F)[j]?=none:=fun F=>by rw [List.getElem?_eq_none];simp;omega
  rw [e,if_neg (by omega),e]
theorem quiet_drawn {P:Program} {f:FuncId} {args:Array Value} {w:World} {n:Nat} {v:Value} (h:∀ n,Calls P f args (w.drewN n) fun e w'=>e=.returned v/\Drawn0 (w.drewN n) w') :
  Calls P f args (w.drewN n) fun e w''=>e=.returned v/\∃ m,w''=w.drewN m :=
 (h n).mono fun _ _ ⟨he,⟨m,hm⟩⟩=>⟨he,n+m,by rw [hm,World.drewN_drewN]⟩
theorem bx_byte (a b:Int):0<=bx a b/\bx a b<=255:=⟨bits_lo_u8 .xor a b,bits_hi_u8 .xor a b⟩
def byteL (l:List Int):Prop:=∀ x ∈ l,0<=x/\x<=255
theorem byteL_rd {l:List Int} (h:byteL l) (i:Nat):0<=rd l i/\rd l i<=255:=by
 unfold rd
 simp only [Int.toNat_natCast,List.getD]
 cases hx:l[i]? with
 | none=>simp
 | some x=>exact h x (List.mem_of_getElem? hx)
theorem xpow_byte {x:Int} (hx:0<=x/\x<=255) (i:Nat):∀ l,0<=xpow x i l/\xpow x i l<=255
 | 0=>hx
 | l+1=>gm_byte _ _
set_option maxRecDepth 100000 in
set_option maxHeartbeats 8000000 in
theorem of_ok {w:World} {f:Nat} (h:Fd w f) (k m:Nat) (hk:1<=k) (hkm:k+m<=7) (A:Option Addr) (c:Nat) (l:List Int) (hl:l.length=k+m) (hc:l.length<=c) (hC:(Kd.int .u8).C w A l.length l) (hb:byteL l) :
  Calls Tryz.prog 191 #[.pointer (some ⟨f,0,none⟩),.int .i64 k,.int .i64 m,.slice A l.length c] w fun e w'=>∃ v,e=.returned (.tuple #[v,.int .i64 0])/\Kd.R (Kd.int .u8) 5 w' w.heap.size (fun _=>True) v ((List.range m).map (acc k m l (k+m)))/\Below w.heap.size w w':=by
 have H:=Aside0.mk h
 have HK:=Aside0.mk (And.intro hk hkm)
 have HC:=Aside0.mk (And.intro hl (And.intro hc (And.intro hC hb)))
 obtain ⟨N,hN⟩:∃ N,k+m=N:=⟨_,rfl⟩
 have HN:=Aside0.mk hN
 have gN:wrap64 ((k:Int)+m)=(N:Int):=by rw [w64 _ (by omega)];omega
 rw [hl,hN]
 clear h hk hkm hl hc hC hb hN
 go_enter Tryz.func191,Tryz.ntmps191
 go_wp2_with (first|(go_at_call 190;go_loud (refine (weights_ok H.out k m HK.out.1 HK.out.2).mono ?_;rintro e w1 ⟨v1,rfl,hr1,hb1⟩;rw [HN.out] at hr1;obtain ⟨A1,c1,rfl⟩:=Kd.R_slice hr1;have HR1:=Aside0.mk hr1;have HB1:=Aside0.mk hb1;clear hr1 hb1))|((with_reducible refine gate_dst (N:=35) rfl ?_);go_loud (refine Kd.R_make (Kd.int .u8) (w0:=w1) w1.heap.size 5 rfl (N:=35) rfl 36 _ _ rfl (m:Int) rfl rfl Tryz.underlying36 (.int .u8 0) 1 info5' rfl (by decide) (by decide) 0 (ok:=fun _=>True) (okp:=fun _=>True) rfl (fun _ hk=>hk) trivial (by omega) (by have:=HK.out;omega) (Below.refl _ _) (Nat.le_refl _) ?_;intro v4 w4 ho4 hb4 hg4 hnew4;obtain ⟨A4,c4,rfl⟩:=Kd.R_slice ho4;have HO4:=Aside0.mk ho4;have HB4:=Aside0.mk hb4;clear ho4 hb4 hg4 hnew4)))
 have hrep:List.replicate (m:Int).toNat (0:Int)=(List.range m).map (acc k m l 0):=by
  rw [Int.toNat_natCast]
  apply List.ext_getElem
  ·simp
  ·intro i h1 h2
   simp [acc]
 have HO5:=HO4.out
 rw [hrep] at HO5
 have hlen5:∀ F:Nat->Int,((List.range m).map F).length=m:=fun F=>by simp
 rw [hlen5] at HO5
 have HO5:=Aside0.mk HO5
 clear hrep HO4
 go_loopg [38] N (fun kq x wr=>∃ i:Nat,x=.int .i64 i/\i+kq=N/\Aside0 (Kd.R (Kd.int .u8) 5 wr w1.heap.size (fun _=>True) (.slice A4 m c4) ((List.range m).map (acc k m l i)))/\Aside0 (Below w1.heap.size w1 wr))
 case atStart =>
  exact ⟨0,rfl,by omega,HO5,HB4⟩
 case round =>
  obtain ⟨i,rfl,hi,HR,HB⟩:=hrel
  by_cases hin:i < N
  ·have g1:(i:Int) < (N:Int):=by omega
   have g0:(0:Int)<=i:=by omega
   obtain ⟨ad,ea,hx0⟩:=Kd.at_int HC.out.2.2.1 (i:Int) g0 (by rw [HC.out.1,HN.out];exact g1)
   cases ea
   obtain ⟨ad1,ea1,hx1⟩:=Kd.at_int (Kd.R_reads' HR1.out).2.2 (i:Int) g0 (by simpa using g1)
   cases ea1
   have ew:rd ((List.range N).map (wgt k m)) (i:Int)=wgt k m i:=by simp [rd,List.getD,hin]
   rw [ew] at hx1
   replace hx0:=((below_step HB1.out HB.out).cell (World.block_lt_of_cell? w _ hx0)).trans hx0
   replace hx1:=(HB.out.cell (World.block_lt_of_cell? w1 _ hx1)).trans hx1
   obtain ⟨B0,hB0⟩:∃ B0,rd l (i:Int)=B0:=⟨_,rfl⟩
   have hb0:=byteL_rd HC.out.2.2.2 i
   rw [hB0] at hx0 hb0
   obtain ⟨W0,hW0⟩:∃ W0,wgt k m i=W0:=⟨_,rfl⟩
   have hw0:1<=W0/\W0<=255:=by rw [<- hW0];exact gi_pos _
   rw [hW0] at hx1
   have HBW:=Aside0.mk (And.intro hb0 (And.intro hw0 (And.intro hB0 hW0)))
   clear ew hb0 hw0 hB0 hW0
   rw [Int.toNat_natCast] at hx0 hx1
   obtain ⟨X0,hX0⟩:∃ X0,gm B0 W0=X0:=⟨_,rfl⟩
   have hXb:0<=X0/\X0<=255:=by rw [<- hX0];exact gm_byte _ _
   have HX:=Aside0.mk (And.intro hX0 hXb)
   clear hX0 hXb
   go_wp2
   have HF:=Aside0.mk (show ∀ n,Fd (wr.drewN n) f from fun n=>(H.out.below (below_step HB1.out HB.out)).below (pw_below_drewN (Below.refl _ _) _))
   have b1:W0<=255:=HBW.out.2.1.2
   have b0:0<=W0:=by have:=HBW.out.2.1.1;omega
   have hm:=fun n=>mul_ok (HF.out n) B0 W0 HBW.out.1.1 HBW.out.1.2 b0 b1
   rw [HX.out.1] at hm
   have HM:=Aside0.mk hm
   clear hm b0 b1
   go_quiet (go_loud (go_at_call 173;exact quiet_drawn HM.out))
   have HI:=Aside0.mk (show i < 7 by have:=HK.out;have:=HN.out;omega)
   have gwi:IntKind.u8.wrap (i:Int)=(i:Int):=by rw [IntKind.wrap_u8];have:=HI.out;omega
   go_wp2
   go_loopg [14,52] m (fun kq x y wq=>∃ n:Nat,y=.int .i64 n/\x=.int .u8 (xpow X0 i n)/\n+kq=m/\Aside0 (Kd.R (Kd.int .u8) 5 wq w1.heap.size (fun _=>True) (.slice A4 m c4) (mixR m (acc k m l i) (acc k m l (i+1)) n))/\Aside0 (Below w1.heap.size w1 wq))
   case atStart =>
    exact ⟨0,rfl,rfl,by omega,⟨by rw [mixR_zero];exact HR.out⟩,⟨pw_below_drewN HB.out _⟩⟩
   case round =>
    obtain ⟨n,rfl,rfl,hn,HRq,HBq⟩:=hrel
    obtain ⟨X1,hX1⟩:∃ X1,xpow X0 i n=X1:=⟨_,rfl⟩
    have hX1b:=xpow_byte HX.out.2 i n
    rw [hX1] at hX1b
    by_cases hnm:n < m
    ·have g3:(n:Int) < (m:Int):=by omega
     have g4:(0:Int)<=n:=by omega
     obtain ⟨go,co,eo,gb,gl,cl,HG⟩:=Kd.R_form HRq.out (by rw [mixR_len];omega)
     injection eo with ea en ec
     subst ea
     subst ec
     have HRr:=HRq.out
     obtain ⟨x0,f0⟩:=Kd.R_celln 0 HRr (n:Int) g4 g3
     rw [show rdOf 0 (mixR m (acc k m l i) (acc k m l (i+1)) n) (n:Int)=acc k m l i n from mixR_get _ _ _ _ hnm,Int.toNat_natCast] at x0
     rw [Int.toNat_natCast] at f0
     obtain ⟨D0,hD0⟩:∃ D0,acc k m l i n=D0:=⟨_,rfl⟩
     rw [hD0] at x0
     have hnew:bits .xor .u8 D0 X1=acc k m l (i+1) n:=by rw [acc,HBW.out.2.2.1,HBW.out.2.2.2,HX.out.1,hX1,hD0];rfl
     have HP:=(Kd.R_putg HRr (n:Int) (bits .xor .u8 D0 X1)).1
     rw [Int.toNat_natCast,show (mixR m (acc k m l i) (acc k m l (i+1)) n).set n (bits .xor .u8 D0 X1)=mixR m (acc k m l i) (acc k m l (i+1)) (n+1) from by rw [hnew,mixR_set _ _ _ _ hnm]] at HP
     have HFq:=H.out.below (below_step HB1.out (below_set (j:=n) HBq.out gb (v:=.int .u8 (bits .xor .u8 D0 X1))))
     have HPF:=Aside0.mk (And.intro HP HFq)
     have HN:=Aside0.mk hnew
     have HX1:=Aside0.mk (And.intro hX1 hX1b)
     have GB:=Aside0.mk gb
     rw [hX1]
     clear HP HFq hnew hX1 hX1b gb hD0 HRr HG gl en
     go_wp2_with (first|(go_at_call 173;go_loud (refine (mul_ok (HPF.out.2) X1 (i:Int) HX1.out.2.1 HX1.out.2.2 (by omega) (by have:=HI.out;omega)).mono ?_;rintro e w5 ⟨rfl,nd5,rfl⟩)))
     go_roundg (m - (n+1))
     case measure=>omega
     case rel =>
      exact ⟨n+1,by simp [w64 _ (show -9223372036854775808<=(n:Int)+1/\(n:Int)+1<=9223372036854775807 from by have:=HK.out;omega)],by rw [xpow,HX1.out.1],by omega,⟨Kd.R_drewN HPF.out.1 _⟩,⟨pw_below_drewN (below_set HBq.out GB.out) _⟩⟩
    ·have g3:¬ (n:Int) < (m:Int):=by omega
     have e:n=m:=by omega
     subst e
     go_wp2
     go_roundg (N - (i+1))
     case measure=>omega
     case rel =>
      exact ⟨i+1,by simp [w64 _ (show -9223372036854775808<=(i:Int)+1/\(i:Int)+1<=9223372036854775807 from by have:=HI.out;omega)],by omega,⟨by rw [<- mixR_all n (acc k n l i)];exact HRq.out⟩,HBq⟩
  ·have g1:¬ (i:Int) < (N:Int):=by omega
   have e:i=N:=by omega
   subst e
   go_wp2
   go_ret2
   exact ⟨_,rfl,Kd.R_lower HR.out HB1.out.size,below_step HB1.out HB.out⟩
end Go.Proofs.YtmmcbncpnlknbaaGreat.Top
