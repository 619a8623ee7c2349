import Derived.Test.YtmmcbncpnlknbaaGreatF12
import Derived.WideKeyEntry
import Derived.DeepKeys3
set_option linter.unusedVariables false
set_option linter.unusedSimpArgs false
namespace Go.Proofs.YtmmcbncpnlknbaaGreat.Top
open Go Go.RowKit Go.Proofs.YtmmcbncpnlknbaaGreatW.PrintWords Go.Proofs.YtmmcbncpnlknbaaGreatW.PrintLast Go.Proofs.YtmmcbncpnlknbaaGreatW.PrintMore
theorem k165:WideMaps.KeyLaw Tryz.prog 165:=deep_law (m:=3) (by omega) (by kernel_rfl) (by kernel_rfl) (by rw [Tryz.underlying165])
theorem c165:Tryz.prog.cellsOf 165=2:=by kernel_rfl
theorem c3:Tryz.prog.cellsOf 3=1:=by kernel_rfl
theorem c9:Tryz.prog.cellsOf 9=1:=by kernel_rfl
theorem lits165 {e0:Int} {s0:ByteArray} (h:I64 e0) (hs:s0.size<=maxLen) (d:Nat):Tryz.prog.keyLits (d+2) 165 [.int .i64 e0,.string s0]=some [.int .i64 e0,.string s0.data.toList]:=by
 unfold I64 at h
 simp [Program.keyLits,Tryz.underlying165,c165,c3,c9,Tryz.underlying3,Tryz.underlying9,h,hs]
theorem key165 {e0:Int} {s0:ByteArray} (h:I64 e0) (hs:s0.size<=maxLen):∃ l,keyOf Tryz.prog 165 (.agg #[.int .i64 e0,.string s0])=some l:=by
 unfold keyOf
 rw [Tryz.underlying165]
 have hk:Tryz.prog.keyType 165=true:=by kernel_rfl
 obtain ⟨q,hq⟩:∃ q,Tryz.prog.types.size+1=q+2:=⟨Tryz.prog.types.size - 1,by have:1<=Tryz.prog.types.size:=of_decide_eq_true (by kernel_rfl);omega⟩
 have hf:(Value.agg #[.int .i64 e0,.string s0]).formed Tryz.prog 165=true:=by simp [Value.formed,Tryz.underlying165,c165]
 simp only [hk,hf,Bool.and_self,if_true,hq]
 rw [show (Value.agg #[Value.int .i64 e0,Value.string s0]).cells.toList=[.int .i64 e0,.string s0] from rfl,lits165 h hs q]
 exact ⟨_,rfl⟩
def Om1 (w:World) (b:Nat) (key:Value) (c:Int):Prop:=w.heap[b]?=some (.map #[⟨key,.int .i64 c,0⟩] 1)
def Om (w:World) (b:Nat) (key:Value) (c:Nat):Prop:=(c=0/\w.heap[b]?=some (.map #[] 0))∨(0 < c/\Om1 w b key c)
section
variable {w:World} {b:Nat} {key:Value} {kl:Lit}
theorem om_grown (w:World) (b:Nat) (o:Obj):w.grownBy (Go.ChangeMaps.setBlock w b o) (some b):=⟨rfl,rfl,rfl,by simp [Go.ChangeMaps.setBlock],fun k hk hne=>by
 have:b≠k:=fun e=>hne (by rw [e])
 simp [Go.ChangeMaps.setBlock,Array.getElem?_setIfInBounds,this]⟩
theorem find1 (hkey:keyOf Tryz.prog 165 key=some kl) (v:Value):(Instr.findKey 165 key [⟨key,v,0⟩]).run Tryz.prog w=.ok (some (0,v)) w:=by
 rcases k165.find w hkey [⟨key,v,0⟩] (fun e he=>by rw [List.mem_singleton] at he;subst he;exact ⟨_,hkey⟩) with ⟨_,h⟩|⟨j,e,h1,h2,h3⟩
 ·exact absurd rfl (h _ (List.mem_singleton.2 rfl))
 ·cases j with
  | zero=>simp at h2;subst h2;exact h1
  | succ j=>simp at h2
theorem find0 (hkey:keyOf Tryz.prog 165 key=some kl):(Instr.findKey 165 key []).run Tryz.prog w=.ok none w:=by
 rcases k165.find w hkey [] (fun e he=>by simp at he) with ⟨h,_⟩|⟨j,e,h1,h2,h3⟩
 ·exact h
 ·simp at h2
theorem om1_look (hkey:keyOf Tryz.prog 165 key=some kl) {c:Int} (h:Om1 w b key c):(Instr.lookup 283 (.map (some b)) key false).run Tryz.prog w=.ok (.int .i64 c) w:=by
 unfold Om1 at h
 simp [Instr.lookup,run_underlying Tryz.underlying283,MapKept.run_getObj_map h,k165.check w _ hkey,find1 hkey,Result.andThen]
theorem om_look (hkey:keyOf Tryz.prog 165 key=some kl) {c:Nat} (h:Om w b key c):(Instr.lookup 283 (.map (some b)) key false).run Tryz.prog w=.ok (.int .i64 c) w:=by
 rcases h with ⟨rfl,h⟩|⟨_,h⟩
 ·simp [Instr.lookup,run_underlying Tryz.underlying283,MapKept.run_getObj_map h,k165.check w _ hkey,find0 hkey,Tryz.zeroValue3,Result.andThen]
 ·exact om1_look hkey h
theorem om_ent (hkey:keyOf Tryz.prog 165 key=some kl) {c:Nat} (h:Om w b key c) :
  ∃ w',(Instr.mapEntry 283 (.map (some b)) key).run Tryz.prog w=.ok (.tuple #[.int .i64 c,.int .i64 0]) w'/\Om1 w' b key c/\w.grownBy w' (some b)/\w'.heap.size=w.heap.size:=by
 rcases h with ⟨rfl,h⟩|⟨_,h⟩
 ·refine ⟨Go.ChangeMaps.setBlock w b (.map #[⟨key,.int .i64 0,0⟩] 1),?_,Go.ChangeMaps.heap_setBlock_same h _,om_grown w b _,by simp [Go.ChangeMaps.setBlock]⟩
  simp [Instr.mapEntry,run_underlying Tryz.underlying283,MapKept.run_getObj_map h,k165.check w _ hkey,find0 hkey,Tryz.zeroValue3,MapKept.run_setObj_map _ h,Result.andThen,goInt,Go.ChangeMaps.setBlock]
 ·unfold Om1 at h
  refine ⟨Go.ChangeMaps.setBlock w b (.map #[⟨key,.int .i64 c,0⟩] 1),?_,Go.ChangeMaps.heap_setBlock_same h _,om_grown w b _,by simp [Go.ChangeMaps.setBlock]⟩
  simp [Instr.mapEntry,run_underlying Tryz.underlying283,MapKept.run_getObj_map h,k165.check w _ hkey,find1 hkey,k165.stays w hkey,MapKept.run_setObj_map _ h,Result.andThen,goInt,Go.ChangeMaps.setBlock]
theorem om_st {c:Int} (h:Om1 w b key c) (x:Int) :
  ∃ w',(Instr.entryStore 283 (.map (some b)) (.int .i64 0) (.int .i64 x)).run Tryz.prog w=.ok () w'/\Om1 w' b key x/\w.grownBy w' (some b)/\w'.heap.size=w.heap.size:=by
 unfold Om1 at h
 refine ⟨Go.ChangeMaps.setBlock w b (.map #[⟨key,.int .i64 x,0⟩] 1),?_,Go.ChangeMaps.heap_setBlock_same h _,om_grown w b _,by simp [Go.ChangeMaps.setBlock]⟩
 simp [Instr.entryStore,MapKept.run_getObj_map h,MapKept.run_setObj_map _ h,Result.andThen,asInt,asIntOf,Go.ChangeMaps.setBlock]
end
theorem info36':(Tryz.prog.info? 36).map (fun i=>(i.zero,i.size,i.bytes))=some (some (.slice none 0 0),1,24):=by kernel_rfl
def mulRows (p q:List Int) (i:Nat):List (List Int):=(List.range i).map (fun (j:Nat)=>sclL p (rd q (j:Int)) j)
theorem mulRows_succ (p q:List Int) (i:Nat):mulRows p q i ++ [sclL p (rd q (i:Int)) i]=mulRows p q (i+1):=by unfold mulRows;rw [List.range_succ,List.map_append];rfl
theorem mulRows_len (p q:List Int) (i:Nat):(mulRows p q i).length=i:=by simp [mulRows]
set_option maxRecDepth 100000 in
set_option maxHeartbeats 4000000 in
theorem pmul_ok {w:World} {f:Nat} (h:Fd w f) (v u:Value) (p q r:List Int) (hp:Bs w v p) (hq:Bs w u q) (hb:byteL p) (hb2:byteL q) (hl:p.length<=100) (hl2:q.length<=100) (hr:PAll.poly_sum.f 100 (mulRows p q q.length)=some r) :
  Calls Tryz.prog 194 #[.pointer (some ⟨f,0,none⟩),v,u] w fun e w'=>∃ x,e=.returned x/\Kd.R (Kd.int .u8) 5 w' w.heap.size (fun _=>True) x r/\Below w.heap.size w w':=by
 obtain ⟨A,cc,rfl,hcc,hC⟩:=hp
 obtain ⟨A2,c2,rfl,hc2,hC2⟩:=hq
 have H:=Aside0.mk h
 have HC:=Aside0.mk (show Bs w (.slice A p.length cc) p from ⟨A,cc,rfl,hcc,hC⟩)
 have HB:=Aside0.mk (And.intro hb (And.intro hb2 (And.intro hl hl2)))
 have HC2:=Aside0.mk (And.intro hc2 hC2)
 have HR:=Aside0.mk hr
 obtain ⟨L,hL⟩:∃ L,q.length=L:=⟨_,rfl⟩
 have HL:=Aside0.mk hL
 rw [hL]
 clear h hcc hC hc2 hC2 hb hb2 hl hl2 hr hL
 go_enter Tryz.func194,Tryz.ntmps194
 go_wp2
 go_loopg [7,12] L (fun kq x y wr=>∃ (i:Nat) (v:Value),y=.int .i64 i/\v=x/\i+kq=L/\Aside0 (Kd.R (Kd.slice 5 (Kd.int .u8)) 36 wr w.heap.size (fun _=>True) v (mulRows p q i))/\Aside0 (Below w.heap.size w wr))
 case atStart =>
  exact ⟨0,_,rfl,rfl,by omega,⟨Kd.R_nil _ _ _ _ _⟩,⟨Below.refl _ _⟩⟩
 case round =>
  obtain ⟨i,v,rfl,rfl,hi,HV,HW⟩:=hrel
  by_cases hin:i < L
  ·have g1:(i:Int) < (L:Int):=by omega
   have g0:(0:Int)<=i:=by omega
   obtain ⟨ad,ea2,hx0⟩:=Bs.at HC2.out.2 i (by have:=HL.out;omega)
   subst ea2
   replace hx0:=cell_of HW.out hx0
   have hB:=byteL_rdn HB.out.2.1 i
   obtain ⟨B0,hB0⟩:∃ B0,rd q (i:Int)=B0:=⟨_,rfl⟩
   rw [hB0] at hx0 hB
   have HX:=Aside0.mk (And.intro hB hB0)
   have HF:=Aside0.mk (H.out.below HW.out)
   have HE:=Aside0.mk (HC.out.below HW.out)
   clear hB hB0
   go_wp2_with (first|(go_at_call 219;go_loud (refine (scaled_ok HF.out _ p HE.out HB.out.1 B0 HX.out.1.1 HX.out.1.2 i (by have:=HB.out;have:=HL.out;omega) HB.out.2.2.1).mono ?_;rintro e w1 ⟨x1,rfl,hr1,hb1⟩;obtain ⟨A1,cx1,rfl⟩:=Kd.R_slice hr1;have H1:=Aside0.mk (And.intro hr1 hb1);clear hr1 hb1))|((with_reducible refine gate_builtin (b:=.append) (xs:=#[.tmp 17,.tmp 23]) rfl ?_);at_builtin;go_loud (refine Kd.R_append (Kd.slice 5 (Kd.int .u8)) (w0:=w) w.heap.size rfl (.tmp 17) (.tmp 23) 125 36 (.slice none 0 0) 24 rfl Tryz.underlying125 info36' rfl (by decide) (by omega) v (mulRows p q i) (sclL p B0 i) [_] (fun _=>True) (fun k=>wr.heap.size<=k) rfl rfl (Kd.M_row (Kd.R_lower (Kd.R_mono (Kd.R_bound H1.out.1) (fun k hk=>hk.2.1)) HW.out.size)) (fun k hk=>⟨trivial,fun e=>by have:=Kd.R_lt HV.out k e.symm;omega⟩) (fun _ _=>trivial) (Kd.R_below HV.out H1.out.2) (below_step HW.out H1.out.2) (below_step HW.out H1.out.2).size (by rw [mulRows_len];have:=HB.out;have:=HL.out;omega) ?_;intro v3 w3 ho3 hb3 hg3 hat3;have H3:=Aside0.mk (And.intro ho3 hb3);clear ho3 hb3 hg3 hat3)))
   go_roundg (L - (i+1))
   case measure=>omega
   case rel =>
    exact ⟨i+1,_,by simp [w64 _ (show -9223372036854775808<=(i:Int)+1/\(i:Int)+1<=9223372036854775807 from by have:=HB.out;have:=HL.out;omega)],rfl,by omega,⟨by rw [<- mulRows_succ,HX.out.2];exact H3.out.1⟩,⟨H3.out.2⟩⟩
  ·have g1:¬ (i:Int) < (L:Int):=by omega
   have e:i=L:=by omega
   subst e
   obtain ⟨A3,c3,e3,hl3,hC3⟩:=Kd.R_reads HV.out
   subst e3
   have hsum:PAll.poly_sum.f 100 (mulRows p q i)=some r:=by
    have h2:=HR.out
    rw [HL.out] at h2
    exact h2
   have hcall:=PAll.poly_sum.calls 100 A3 c3 (mulRows p q i) r wr hC3 hl3 hsum
   have HV3:=Aside0.mk hcall
   clear hl3 hC3 hsum hcall
   go_wp2_with (first|(go_at_call 220;go_loud (refine HV3.out.mono ?_;rintro e w1 ⟨x1,rfl,hr1,hb1⟩;have H1:=Aside0.mk (And.intro hr1 hb1);clear hr1 hb1)))
   go_ret
   exact ⟨_,rfl,Kd.R_lower H1.out.1 HW.out.size,below_step HW.out H1.out.2⟩
def evL (p:List Int) (x:Int):Int:=p.foldr (fun c a=>bx (gm a x) c) 0
theorem evL_step (p:List Int) (x:Int) (i:Nat) (h:i < p.length):bx (gm (evL (p.drop (i+1)) x) x) (rd p (i:Int))=evL (p.drop i) x:=by
 rw [List.drop_eq_getElem_cons h,evL,evL,List.foldr_cons]
 simp [rd,List.getD,h]
theorem evL_byte (x:Int):∀ p:List Int,0<=evL p x/\evL p x<=255
 | []=>by simp [evL]
 | c :: p=>bx_byte _ _
set_option maxRecDepth 100000 in
set_option maxHeartbeats 4000000 in
theorem eval_ok {w:World} {f:Nat} (h:Fd w f) (v:Value) (p:List Int) (hp:Bs w v p) (hb:byteL p) (x:Int) (x0:0<=x) (x1:x<=255) (hl:p.length<=100) :
  Calls Tryz.prog 196 #[.pointer (some ⟨f,0,none⟩),v,.int .u8 x] w fun e w'=>e=.returned (.int .u8 (evL p x))/\Drawn0 w w':=by
 obtain ⟨A,cc,rfl,hcc,hC⟩:=hp
 have H:=Aside0.mk h
 have HC:=Aside0.mk (And.intro hC (And.intro hb (And.intro hl (And.intro x0 x1))))
 obtain ⟨L,hL⟩:∃ L,p.length=L:=⟨_,rfl⟩
 have HL:=Aside0.mk hL
 have gL:wrap64 ((L:Int) - 1)=(L:Int) - 1:=w64 _ (by omega)
 rw [hL]
 clear h hcc hC hb hl hL x0 x1
 go_enter Tryz.func196,Tryz.ntmps196
 go_wp2
 go_loopg [7,8] L (fun kq a y wr=>∃ n,a=.int .u8 (evL (p.drop kq) x)/\y=.int .i64 ((kq:Int) - 1)/\kq<=L/\wr=w.drewN n)
 case atStart =>
  exact ⟨0,by rw [<- HL.out,List.drop_length];rfl,by rw [gL],Nat.le_refl _,rfl⟩
 case round =>
  obtain ⟨n,rfl,rfl,hk,hW⟩:=hrel
  cases gk with
  | zero =>
   have g1:¬ ((((0:Nat):Int) - 1) ≥ 0):=by omega
   go_wp2
   go_ret
   exact ⟨by simp,⟨n,rfl⟩⟩
  | succ i =>
   have g1:((((i+1:Nat):Int) - 1) ≥ 0):=by omega
   have e1:((i+1:Nat):Int) - 1=(i:Int):=by omega
   obtain ⟨ad,ea2,hx0⟩:=Bs.at HC.out.1 i (by have:=HL.out;omega)
   subst ea2
   obtain ⟨B0,hB0⟩:∃ B0,rd p (i:Int)=B0:=⟨_,rfl⟩
   rw [hB0] at hx0
   have g0:(0:Int)<=i:=by omega
   have g2:(i:Int) < (L:Int):=by omega
   obtain ⟨E,hE⟩:∃ E,evL (p.drop (i+1)) x=E:=⟨_,rfl⟩
   have hEb:=evL_byte x (p.drop (i+1))
   rw [hE] at hEb ⊢
   have hst:=evL_step p x i (by have:=HL.out;omega)
   rw [hE,hB0] at hst
   have hx1:wr.cell? (ad.add i)=some (.int .u8 B0):=by rw [hW];exact hx0
   have hm:=fun n=>mul_ok (w:=wr.drewN n) (by rw [hW];exact (H.out.below (pw_below_drewN (pw_below_drewN (Below.refl _ _) _) _))) E x hEb.1 hEb.2 HC.out.2.2.2.1 HC.out.2.2.2.2
   have HM:=Aside0.mk hm
   have HX:=Aside0.mk hst
   have gw:wrap64 ((i:Int) - 1)=(i:Int) - 1:=w64 _ (by have:=HC.out;have:=HL.out;omega)
   rw [e1]
   rw [e1] at g1
   have HW:=Aside0.mk hW
   clear hm hst hEb hE hB0 hx0 hW
   go_wp2
   go_quiet (go_loud (go_at_call 173;exact quiet_drawn HM.out))
   go_wp2
   go_roundg i
   case measure=>omega
   case rel =>
    exact ⟨n+nq,by rw [<- HX.out];rfl,by rw [gw],by omega,by rw [HW.out,World.drewN_drewN]⟩
set_option maxRecDepth 100000 in
theorem div_ok {w:World} {f:Nat} (h:Fd w f) (a b:Int) (a0:0<=a) (a1:a<=255) (b0:1<=b) (b1:b<=255) :
  Calls Tryz.prog 197 #[.pointer (some ⟨f,0,none⟩),.int .u8 a,.int .u8 b] w fun e w'=>e=.returned (.tuple #[.int .u8 (gm a (gi b)),.int .i64 0])/\Drawn0 w w':=by
 obtain ⟨X,hX⟩:∃ X,gi b=X:=⟨_,rfl⟩
 have hb:=gi_pos b
 rw [hX] at hb
 obtain ⟨Y,hY⟩:∃ Y,gm a X=Y:=⟨_,rfl⟩
 have HX:=Aside0.mk (And.intro hX (And.intro hb hY))
 have H:=Aside0.mk h
 rw [hX,hY]
 clear h hb hX hY
 go_enter Tryz.func197,Tryz.ntmps197
 go_wp2_with (first|(go_at_call 212;go_loud (refine (inv_ok H.out b b0 b1).mono ?_;rintro e w1 ⟨rfl,nd,rfl⟩;rw [HX.out.1]))|(go_at_call 173;go_loud (refine (mul_ok (H.out.below (pw_below_drewN (Below.refl _ _) _)) a X a0 a1 (by have:=HX.out;omega) (by have:=HX.out;omega)).mono ?_;rintro e w1 ⟨rfl,nd,rfl⟩;rw [HX.out.2.2])))
 go_ret2
 exact ⟨rfl,_,rfl⟩
end Go.Proofs.YtmmcbncpnlknbaaGreat.Top
