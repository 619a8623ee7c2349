import Derived.Test.YtmmcbncpnlknbaaGreatF22
import Derived.Shelf.SlIter.Nil
import Derived.Shelf.SortM.Plain
import Derived.Shelf.SortM.SortNone
import Derived.Shelf.Bytes.SlJoin
set_option linter.unusedVariables false
set_option linter.unusedSimpArgs false
namespace Go.Proofs.YtmmcbncpnlknbaaGreat.Top
open Go Go.RowKit Go.Maps Go.Sort Go.Shelf
def keysA_ren:Go.Shelf.Ren:=⟨fun|7=>131|10=>156|n=>n,fun|23=>134|26=>9|3=>139|28=>219|0=>0|27=>218|33=>205|4=>4|n=>n,fun|n=>n⟩
theorem keysA:Go.Proofs.SlLaysZ.n7 Tryz.prog keysA_ren where
 mixed:=by kernel_rfl
 f7:=⟨ "maps.Keys[map[string]aumbry/api.Object,string,aumbry/api.Object]",by decide,Tryz.func131.trans (congrArg some (by kernel_rfl))⟩
 f10:=⟨ "maps.Keys[map[string]aumbry/api.Object,string,aumbry/api.Object]$1",by decide,Tryz.func156.trans (congrArg some (by kernel_rfl))⟩
 t0:=Tryz.underlying0
 a0:=Tryz.isAgg0
 z0:=Tryz.sizeOf0
 v0:=Tryz.zeroValue0
 t4:=Tryz.underlying4
 a4:=Tryz.isAgg4
 z4:=Tryz.sizeOf4
 v4:=Tryz.zeroValue4
 t23:=Tryz.underlying134
 a23:=Tryz.isAgg134
 z23:=Tryz.sizeOf134
 v23:=Tryz.zeroValue134
 t26:=Tryz.underlying9
 a26:=Tryz.isAgg9
 z26:=Tryz.sizeOf9
 v26:=Tryz.zeroValue9
 t27:=Tryz.underlying218
 a27:=Tryz.isAgg218
 z27:=Tryz.sizeOf218
 v27:=Tryz.zeroValue218
 t28:=Tryz.underlying219
 a28:=Tryz.isAgg219
 z28:=Tryz.sizeOf219
 v28:=Tryz.zeroValue219
 t33:=Tryz.underlying205
 a33:=Tryz.isAgg205
 z33:=Tryz.sizeOf205
 v33:=Tryz.zeroValue205
def sortedA_ren:Go.Shelf.Ren:=⟨fun|6=>130|8=>154|9=>155|11=>181|13=>183|12=>182|23=>210|24=>211|14=>201|15=>202|16=>203|17=>204|18=>205|19=>206|20=>207|21=>208|22=>209|25=>231|26=>232|27=>233|28=>234|29=>235|30=>236|31=>242|n=>n,fun|26=>9|28=>219|24=>41|0=>0|3=>3|37=>87|48=>198|50=>310|4=>4|40=>302|39=>301|45=>257|5=>5|9=>9|51=>323|55=>327|57=>332|58=>333|33=>205|n=>n,fun|n=>n⟩
theorem sortedA:Go.Proofs.SlLaysZ.n6 Tryz.prog sortedA_ren where
 mixed:=by kernel_rfl
 f6:=⟨ "slices.Sorted[string]",by decide,Tryz.func130.trans (congrArg some (by kernel_rfl))⟩
 f8:=⟨ "slices.Collect[string]",by decide,Tryz.func154.trans (congrArg some (by kernel_rfl))⟩
 f11:=⟨ "slices.AppendSeq[[]string,string]",by decide,Tryz.func181.trans (congrArg some (by kernel_rfl))⟩
 t0:=Tryz.underlying0
 a0:=Tryz.isAgg0
 z0:=Tryz.sizeOf0
 v0:=Tryz.zeroValue0
 t24:=Tryz.underlying41
 a24:=Tryz.isAgg41
 z24:=Tryz.sizeOf41
 v24:=Tryz.zeroValue41
 t26:=Tryz.underlying9
 a26:=Tryz.isAgg9
 z26:=Tryz.sizeOf9
 v26:=Tryz.zeroValue9
 t28:=Tryz.underlying219
 a28:=Tryz.isAgg219
 z28:=Tryz.sizeOf219
 v28:=Tryz.zeroValue219
 i26:=by kernel_rfl
def sortA_ren:Go.Shelf.Ren:=⟨fun|6=>155|8=>183|9=>182|19=>210|20=>211|21=>201|22=>202|23=>203|24=>204|25=>205|26=>206|27=>207|28=>208|29=>209|36=>231|31=>232|32=>233|37=>234|38=>235|39=>236|41=>242|n=>n,fun|27=>41|29=>9|3=>3|32=>87|26=>41|0=>0|44=>198|46=>310|4=>4|36=>302|35=>301|41=>257|5=>5|9=>9|53=>323|57=>327|63=>332|64=>333|n=>n,fun|n=>n⟩
theorem sortA:Go.Proofs.SlLaysM.n6 Tryz.prog sortA_ren where
 mixed:=by kernel_rfl
 f6:=⟨ "slices.Sort[[]string,string]",by decide,Tryz.func155.trans (congrArg some (by kernel_rfl))⟩
 f8:=Tryz.func183.trans (congrArg some (by kernel_rfl))
 f9:=⟨ "slices.pdqsortOrdered[string]",by decide,Tryz.func182.trans (congrArg some (by kernel_rfl))⟩
 f19:=Tryz.func210.trans (congrArg some (by kernel_rfl))
 f20:=Tryz.func211.trans (congrArg some (by kernel_rfl))
 f21:=⟨ "slices.insertionSortOrdered[string]",by decide,Tryz.func201.trans (congrArg some (by kernel_rfl))⟩
 f22:=⟨ "slices.heapSortOrdered[string]",by decide,Tryz.func202.trans (congrArg some (by kernel_rfl))⟩
 f23:=⟨ "slices.breakPatternsOrdered[string]",by decide,Tryz.func203.trans (congrArg some (by kernel_rfl))⟩
 f24:=⟨ "slices.choosePivotOrdered[string]",by decide,Tryz.func204.trans (congrArg some (by kernel_rfl))⟩
 f25:=⟨ "slices.reverseRangeOrdered[string]",by decide,Tryz.func205.trans (congrArg some (by kernel_rfl))⟩
 f26:=⟨ "slices.partialInsertionSortOrdered[string]",by decide,Tryz.func206.trans (congrArg some (by kernel_rfl))⟩
 f27:=⟨ "cmp.Less[string]",by decide,Tryz.func207.trans (congrArg some (by kernel_rfl))⟩
 f28:=⟨ "slices.partitionEqualOrdered[string]",by decide,Tryz.func208.trans (congrArg some (by kernel_rfl))⟩
 f29:=⟨ "slices.partitionOrdered[string]",by decide,Tryz.func209.trans (congrArg some (by kernel_rfl))⟩
 f31:=Tryz.func232.trans (congrArg some (by kernel_rfl))
 f32:=Tryz.func233.trans (congrArg some (by kernel_rfl))
 f36:=⟨ "slices.siftDownOrdered[string]",by decide,Tryz.func231.trans (congrArg some (by kernel_rfl))⟩
 f37:=⟨ "slices.medianAdjacentOrdered[string]",by decide,Tryz.func234.trans (congrArg some (by kernel_rfl))⟩
 f38:=⟨ "slices.medianOrdered[string]",by decide,Tryz.func235.trans (congrArg some (by kernel_rfl))⟩
 f39:=⟨ "cmp.isNaN[string]",by decide,Tryz.func236.trans (congrArg some (by kernel_rfl))⟩
 f41:=⟨ "slices.order2Ordered[string]",by decide,Tryz.func242.trans (congrArg some (by kernel_rfl))⟩
 t0:=Tryz.underlying0
 a0:=Tryz.isAgg0
 z0:=Tryz.sizeOf0
 v0:=Tryz.zeroValue0
 t3:=Tryz.underlying3
 a3:=Tryz.isAgg3
 z3:=Tryz.sizeOf3
 v3:=Tryz.zeroValue3
 t4:=Tryz.underlying4
 a4:=Tryz.isAgg4
 z4:=Tryz.sizeOf4
 v4:=Tryz.zeroValue4
 t5:=Tryz.underlying5
 a5:=Tryz.isAgg5
 z5:=Tryz.sizeOf5
 v5:=Tryz.zeroValue5
 t9:=Tryz.underlying9
 a9:=Tryz.isAgg9
 z9:=Tryz.sizeOf9
 v9:=Tryz.zeroValue9
 t26:=Tryz.underlying41
 a26:=Tryz.isAgg41
 z26:=Tryz.sizeOf41
 v26:=Tryz.zeroValue41
 t27:=Tryz.underlying41
 a27:=Tryz.isAgg41
 z27:=Tryz.sizeOf41
 v27:=Tryz.zeroValue41
 t29:=Tryz.underlying9
 a29:=Tryz.isAgg9
 z29:=Tryz.sizeOf9
 v29:=Tryz.zeroValue9
 t32:=Tryz.underlying87
 a32:=Tryz.isAgg87
 z32:=Tryz.sizeOf87
 v32:=Tryz.zeroValue87
 t35:=Tryz.underlying301
 a35:=Tryz.isAgg301
 z35:=Tryz.sizeOf301
 v35:=Tryz.zeroValue301
 t36:=Tryz.underlying302
 a36:=Tryz.isAgg302
 z36:=Tryz.sizeOf302
 v36:=Tryz.zeroValue302
 t41:=Tryz.underlying257
 a41:=Tryz.isAgg257
 z41:=Tryz.sizeOf257
 v41:=Tryz.zeroValue257
 t44:=Tryz.underlying198
 a44:=Tryz.isAgg198
 z44:=Tryz.sizeOf198
 v44:=Tryz.zeroValue198
 t46:=Tryz.underlying310
 a46:=Tryz.isAgg310
 z46:=Tryz.sizeOf310
 v46:=Tryz.zeroValue310
 t53:=Tryz.underlying323
 a53:=Tryz.isAgg323
 z53:=Tryz.sizeOf323
 v53:=Tryz.zeroValue323
 t57:=Tryz.underlying327
 a57:=Tryz.isAgg327
 z57:=Tryz.sizeOf327
 v57:=Tryz.zeroValue327
 t63:=Tryz.underlying332
 a63:=Tryz.isAgg332
 z63:=Tryz.sizeOf332
 v63:=Tryz.zeroValue332
 t64:=Tryz.underlying333
 a64:=Tryz.isAgg333
 z64:=Tryz.sizeOf333
 v64:=Tryz.zeroValue333
def joinA_ren:Go.Shelf.Ren:=⟨fun|14=>129|15=>153|n=>n,fun|26=>125|22=>36|3=>3|4=>4|0=>0|9=>9|20=>20|5=>5|n=>n,fun|n=>n⟩
theorem joinA:Go.Proofs.SlLaysJ.n14 Tryz.prog joinA_ren where
 mixed:=by kernel_rfl
 f14:=Tryz.func129.trans (congrArg some (by kernel_rfl))
 f15:=Tryz.func153.trans (congrArg some (by kernel_rfl))
 t0:=Tryz.underlying0
 a0:=Tryz.isAgg0
 z0:=Tryz.sizeOf0
 v0:=Tryz.zeroValue0
 t3:=Tryz.underlying3
 a3:=Tryz.isAgg3
 z3:=Tryz.sizeOf3
 v3:=Tryz.zeroValue3
 t4:=Tryz.underlying4
 a4:=Tryz.isAgg4
 z4:=Tryz.sizeOf4
 v4:=Tryz.zeroValue4
 t9:=Tryz.underlying9
 a9:=Tryz.isAgg9
 z9:=Tryz.sizeOf9
 v9:=Tryz.zeroValue9
 t20:=Tryz.underlying20
 a20:=Tryz.isAgg20
 z20:=Tryz.sizeOf20
 v20:=Tryz.zeroValue20
 t22:=Tryz.underlying36
 a22:=Tryz.isAgg36
 z22:=Tryz.sizeOf36
 v22:=Tryz.zeroValue36
 t26:=Tryz.underlying125
 a26:=Tryz.isAgg125
 z26:=Tryz.sizeOf125
 v26:=Tryz.zeroValue125
 t5:=Tryz.underlying5
 z5:=Tryz.sizeOf5
 i5:=by kernel_rfl
end Go.Proofs.YtmmcbncpnlknbaaGreat.Top
namespace Go.Proofs.YtmmcbncpnlknbaaGreat.Top
open Go Go.RowKit Go.Proofs.YtmmcbncpnlknbaaGreatW.PrintWords Go.Proofs.YtmmcbncpnlknbaaGreatW.PrintLast Go.Proofs.YtmmcbncpnlknbaaGreatW.PrintMore
def U8s (l:List Int):List UInt8:=l.map fun n=>UInt8.ofNat n.toNat
theorem U8s_len (l:List Int):(U8s l).length=l.length:=by simp [U8s]
theorem U8s_back {l:List Int} (h:byteL l):(U8s l).map (fun x=>(x.toNat:Int))=l:=by
 unfold U8s
 rw [List.map_map]
 conv=>rhs;rw [<- List.map_id l]
 apply List.map_congr_left
 intro x hx
 have:=h x hx
 simp only [Function.comp,UInt8.toNat_ofNat',id]
 omega
theorem holds_of_bs {w:World} {v:Value} {l:List Int} (h:Bs w v l) (hb:byteL l):Lib.HoldsBytes w v (U8s l):=by
 obtain ⟨A,c,rfl,hc,hC⟩:=h
 refine ⟨A,c,by rw [U8s_len],fun e=>?_,fun a e i x hx=>?_⟩
 ·subst e
  cases l with
  | nil=>rfl
  | cons y t=>obtain ⟨ad,e,_⟩:=Bs.at hC 0 (by simp);cases e
 ·have hi:i < l.length:=by have:=(List.getElem?_eq_some_iff.1 hx).1;rwa [U8s_len] at this
  obtain ⟨ad,e2,h2⟩:=Bs.at hC i hi
  rw [e] at e2
  injection e2 with e2
  subst e2
  rw [h2]
  have h3:x=UInt8.ofNat (l[i]).toNat:=by
   unfold U8s at hx
   rw [List.getElem?_map,List.getElem?_eq_getElem hi] at hx
   simpa using hx.symm
  have hb2:=hb _ (List.getElem_mem hi)
  have h4:rd l (i:Int)=l[i]:=by simp [rd,List.getD,List.getElem?_eq_getElem hi]
  rw [h4,h3,UInt8.toNat_ofNat']
  congr 2
  omega
theorem bs_of_fresh {B:Nat} {w:World} {v:Value} {l:List Int} (hl:l.length<=1000000) (hb:byteL l) (h:Lib.FreshBytes B w v (U8s l)):Bs w v l:=by
 obtain ⟨g,cap,zs,rfl,hg,hc,hm,hz,hzb,hzl,hcell,_⟩:=h
 rw [U8s_len] at hc hzl ⊢
 refine ⟨_,_,rfl,hc,Kd.C_of_reads (d:=0) ⟨rfl,by omega,fun _=>⟨_,rfl,fun j hj=>?_⟩⟩⟩
 rw [add_plain,hcell j (by omega)]
 have e:(zs.take l.length)=l:=by
  have h1:=congrArg (fun q:List UInt8=>q.map (fun x=>(x.toNat:Int))) hzl
  have h2:byteL (zs.take l.length):=fun x hx=>by have:=hzb x (List.mem_of_mem_take hx);omega
  have h3:(U8s (zs.take l.length)).map (fun x=>(x.toNat:Int))=(U8s l).map (fun x=>(x.toNat:Int)):=h1
  rw [U8s_back h2,U8s_back hb] at h3
  exact h3
 have h3:l.getD j 0=zs.getD j 0:=by
  rw [<- e]
  simp [List.getD,List.getElem?_take,hj]
 rw [h3]
theorem join_flat:∀ ls:List (List UInt8),Lib.join ls []=ls.flatten
 | []=>rfl
 | x :: r=>by
  rw [Lib.join_cons,List.flatten_cons]
  unfold Lib.joinTail
  simp
theorem flat_U8s (R:List (List Int)):(R.map U8s).flatten=U8s R.flatten:=by
 unfold U8s
 rw [List.map_flatten]
theorem flat_len:∀ (R:List (List Int)) (Z:Nat),(∀ l ∈ R,l.length=Z)->R.flatten.length=R.length*Z
 | [],Z,_=>by simp
 | l :: r,Z,h=>by
  rw [List.flatten_cons,List.length_append,flat_len r Z (fun x hx=>h x (List.mem_cons_of_mem _ hx)),h l (List.mem_cons_self ..),List.length_cons,Nat.succ_mul]
  omega
theorem lens_le:∀ (R:List (List Int)) (Z:Nat),(∀ l ∈ R,l.length=Z)->Lib.lens (R.map U8s)=R.length*Z
 | [],Z,_=>by simp [Lib.lens]
 | l :: r,Z,h=>by
  rw [List.map_cons,Lib.lens_cons,lens_le r Z (fun x hx=>h x (List.mem_cons_of_mem _ hx)),U8s_len,h l (List.mem_cons_self ..),List.length_cons,Nat.succ_mul]
  omega
theorem join_ok {w:World} {g N c K Z:Nat} {R:List (List Int)} (hR:Rs w (.slice (some ⟨g,0,none⟩) N c) R) (hN:R.length=N) (hK:1<=K) (hKN:K<=N) (hK7:N<=7) (hb:∀ l ∈ R,byteL l) (hZ:∀ l ∈ R,l.length=Z) (hZ1:1<=Z/\Z<=4096) :
  Calls Tryz.prog 129 #[.slice (some ⟨g,0,none⟩) K c,.slice none 0 0] w fun e w'=>∃ v,e=.returned v/\Bs w' v (R.take K).flatten/\Below w.heap.size w w':=by
 obtain ⟨A,cc,he,hc,hC⟩:=hR
 injection he with h1 h2 h3
 subst h1
 subst h3
 have hrow:∀ i,i < N->∃ v,w.cell? ⟨g,i,none⟩=some v/\Bs w v (R.getD i []):=fun i hi=>by
  obtain ⟨ad,v,e,h4,h5⟩:=Rs.at hC i (by omega)
  injection e with e
  subst e
  rw [add_plain] at h4
  exact ⟨v,h4,h5⟩
 have hmem:∀ i,i < N->R.getD i [] ∈ R:=fun i hi=>by
  rw [List.getD_eq_getElem?_getD,List.getElem?_eq_getElem (by omega)]
  exact List.getElem_mem _
 have hbT:byteL (R.take K).flatten:=fun x hx=>by
  obtain ⟨l,hl,hx⟩:=List.mem_flatten.1 hx
  exact hb l (List.mem_of_mem_take hl) x hx
 have hlT:(R.take K).flatten.length<=1000000:=by
  rw [flat_len _ Z (fun l hl=>hZ l (List.mem_of_mem_take hl)),List.length_take]
  have:min K R.length*Z<=7*4096:=Nat.mul_le_mul (by omega) hZ1.2
  omega
 by_cases hK1:K=1
 ·subst hK1
  obtain ⟨v,h4,A5,c5,rfl,h6,h7⟩:=hrow 0 (by omega)
  have hz0:=hZ _ (hmem 0 (by omega))
  obtain ⟨ad0,e0,_⟩:=Bs.at h7 0 (by omega)
  subst e0
  obtain ⟨p,cp,e1,_,hcells⟩:=holds_of_bs ⟨_,_,rfl,h6,h7⟩ (hb _ (hmem 0 (by omega)))
  injection e1 with e1 e2 e3
  subst e1
  have hcall:=Any.bytes_Join_one joinA g 0 c ad0 c5 (U8s (R.getD 0 [])) (.slice none 0 0) w (by rw [U8s_len];exact h4) (hcells ad0 rfl) (by rw [U8s_len];omega) (by rw [U8s_len];omega)
  have et:(R.take 1).flatten=R.getD 0 []:=by
   cases R with
   | nil=>simp at hN;omega
   | cons y t=>simp
  rw [et] at hbT hlT ⊢
  refine Calls.mono hcall ?_
  rintro e w' ⟨v',rfl,hf,hb'⟩
  exact ⟨v',rfl,bs_of_fresh hlT hbT hf,hb'⟩
 ·have hP:Lib.PartsAt w ⟨g,0,none⟩ ((List.range K).map (fun i=>(w.cell? ⟨g,i,none⟩).getD undef)) ((R.take K).map U8s):=by
   refine ⟨by simp;omega,fun i v hv=>?_,fun i v l hv hl=>?_⟩
   ·have hi:i < K:=by have:=(List.getElem?_eq_some_iff.1 hv).1;simpa using this
    obtain ⟨u,h4,_⟩:=hrow i (by omega)
    rw [add_plain,h4]
    simp [hi,h4] at hv
    rw [hv]
   ·have hi:i < K:=by have:=(List.getElem?_eq_some_iff.1 hv).1;simpa using this
    obtain ⟨u,h4,h5⟩:=hrow i (by omega)
    simp [hi,h4] at hv
    have e:l=U8s (R.getD i []):=by
     rw [List.getElem?_map,List.getElem?_take,if_pos hi,List.getElem?_eq_getElem (by omega)] at hl
     simp at hl
     rw [<- hl,List.getD_eq_getElem?_getD,List.getElem?_eq_getElem (by omega)]
     rfl
    rw [e,<- hv]
    exact holds_of_bs h5 (hb _ (hmem i (by omega)))
  have hlens:Lib.lens ((R.take K).map U8s)=K*Z:=by
   rw [lens_le _ Z (fun l hl=>hZ l (List.mem_of_mem_take hl)),List.length_take]
   congr 1
   omega
  have hKZ:K*Z<=7*4096:=Nat.mul_le_mul (by omega) hZ1.2
  have hcall:=Any.bytes_Join_many joinA g 0 K c _ ((R.take K).map U8s) (.slice none 0 0) [] w (by simp;omega) (by omega) hP (by omega) ⟨none,0,rfl,fun _=>rfl,fun a e=>by cases e⟩ (by omega) (by rw [hlens];simp;omega)
  rw [join_flat,flat_U8s] at hcall
  refine Calls.mono hcall ?_
  rintro e w' ⟨v',rfl,hf,hb'⟩
  exact ⟨v',rfl,bs_of_fresh hlT hbT hf,hb'⟩
def RowsP (N:Nat) (R:List (List Int)) (W:World) (v:Value):Prop:=∃ g c,v=.slice (some ⟨g,0,none⟩) N c/\N<=c/\Rs W v R
theorem RowsP.below {N:Nat} {R:List (List Int)} (W W':World) (v:Value) (h:RowsP N R W v) (hb:Below W.heap.size W W'):RowsP N R W' v:=by
 obtain ⟨g,c,e,hc,h⟩:=h
 exact ⟨g,c,e,hc,h.below hb⟩
def SrdP (w w':World) (e:Ending) (er:Int) (d:List Int):Prop :=
 ((er=0/\∃ v,e=.returned (.tuple #[v,.slice none 0 0,.int .i64 0])/\Bs w' v d)∨(er≠0/\e=.returned (.tuple #[.slice none 0 0,.slice none 0 0,.int .i64 150])))/\Below w.heap.size w w'
attribute [local go_sem] calloc_old
set_option maxRecDepth 100000 in
set_option maxHeartbeats 2000000 in
theorem sread_core {K M Z:Nat} {T L O st ep:Int} {B Tk:Nat} {w:World} {a f:Nat} {S:Nat->Prop} {sec:Int} {dead:Nat->Bool} {E:Nat->Int->List Int} {cl:Bool} (hx:Ax B w a S sec (K+M) Tk dead E cl) (hg:LayA.Good K M Z T L O)
  (hn7:K+M<=7) (hs:0<=st/\st < T) (he:0<=ep/\ep<=2147483647) (hsec:5+L+st < sec) (rows:Nat->List Int)
  (hrow:∀ i,i < K+M->dead (dkN K M st i)=false->E (dkN K M st i) (5+L+st)=SecA.sect (5+L+st) ep (rows i)) (hb:∀ i,byteL (rows i)) (hl:∀ i,i < K+M->(rows i).length=Z) (hZ:Z<=4096)
  (er:Int) (R:List (List Int)) (hRN:R.length=K+M) (hRb:∀ l ∈ R,byteL l) (hRZ:∀ l ∈ R,l.length=Z)
  (hSh:∀ W vh vs,Below w.heap.size w W->Bo W vh ((List.range (K+M)).map (fun i=>!dead (dkN K M st i)))->Rs W vs ((List.range (K+M)).map (fun i=>if (!dead (dkN K M st i))=true then rows i else []))->Calls Tryz.prog 152 #[.pointer (some ⟨f,0,none⟩),.int .i64 K,.int .i64 M,vh,vs] W fun e w'=>∃ v,e=.returned (.tuple #[v,.slice none 0 0,.int .i64 er])/\(er=0->RowsP (K+M) R w' v)/\Below W.heap.size W w') :
  Calls Tryz.prog 98 #[.pointer (some ⟨a,0,none⟩),.pointer (some ⟨f,0,none⟩),geoV K M Z T L O,.int .i64 st,.int .i64 ep] w fun e w'=>SrdP w w' e er (R.take K).flatten:=by
 have hg':=hg
 unfold LayA.Good at hg'
 have hK1:1<=K:=by omega
 have hZ1:1<=Z:=by omega
 have HLC:=Aside0.mk (fun W=>lcheck_ok (O:=O) a f hg hs he W)
 have HRD:=Aside0.mk (fun W (hW:Below w.heap.size w W)=>lread_core (w:=W) (f:=f) (hx.below hW) hg hn7 hs he hsec rows hrow hb hl hZ er (RowsP (K+M) R) RowsP.below (fun W2 vh vs hW2 h1 h2=>hSh W2 vh vs (below_step hW hW2) h1 h2))
 have HH:=Aside0.mk (And.intro hn7 (And.intro hRN (And.intro hRb (And.intro hRZ (And.intro hK1 (And.intro hZ1 hZ))))))
 unfold geoV
 unfold lineV at HLC HRD
 clear hx hg hn7 hs he hsec hrow hb hl hZ hRN hRb hRZ hSh hg' hK1 hZ1
 have gm:∀ (g N c:Nat) (W:World),K<=c->(Instr.slice 125 (.slice (some ⟨g,0,none⟩) N c) none (some (.int .i64 K)) none).run Tryz.prog W=.ok (.slice (some ⟨g,0,none⟩) K c) W:=fun g N c W hc=>by
  obtain ⟨i0,hi,_,hz1,_⟩:=info_parts info36'
  have hel:Tryz.prog.elem 125=36:=by simp [Program.elem,Tryz.underlying125]
  rw [run_slice_h W 125 (some ⟨g,0,none⟩) N c (by rw [hel];exact Tryz.underlying125) .i64 K (by omega) (by omega),hel]
  simp [sizeOf,typeInfo,hi,hz1,sliced,Result.andThen,Addr.add]
 go_enter Tryz.func98,Tryz.ntmps98
 by_cases her:er=0
 ·subst her
  go_wp2_with (first|(go_at_call 129;go_loud (refine H2.out.2.mono ?_;rintro e3 w3 ⟨v3,rfl,hv3,hb3⟩;have H3:=Aside0.mk (And.intro hv3 (below_step H2.out.1 hb3));clear hv3 hb3))|(go_at_call 128;go_loud (refine (HRD.out _ HB1.out.below).mono ?_;rintro e2 w2 ⟨⟨_,v2,rfl,g,c,rfl,hc,hrs⟩|⟨h,_⟩,hb2⟩;rotate_left;exact absurd rfl h;have h2:=HB1.out.step hb2;have hl2:=h2.lt;have hl0:w.heap.size < w2.heap.size:=(by omega);obtain ⟨z0,z1,z2,z3,z4,z5⟩:=geo_cells h2.geo;have hcut:=gm g (K+M) c w2 (by omega);have H2:=Aside0.mk (And.intro h2.below (join_ok hrs HH.out.2.1 HH.out.2.2.2.2.1 (Nat.le_add_right K M) HH.out.1 HH.out.2.2.1 HH.out.2.2.2.1 HH.out.2.2.2.2.2));clear hb2 h2 hl2 hrs hc))|(go_at_call 122;go_loud (refine (HLC.out _).mono ?_;rintro e1 w1 ⟨rfl,hb1⟩;have h1:=(Gl.new (w:=w) (a:=a) (f:=f) (K:=K) (M:=M) (Z:=Z) (T:=T) (L:=L) (O:=O) (st:=st) (ep:=ep)).step hb1;obtain ⟨y0,y1,y2,y3,y4,y5⟩:=geo_cells h1.geo;obtain ⟨x0,x1,x2,x3,x4,x5,x6,x7,x8,x9⟩:=ln_cells h1.ln;have HB1:=Aside0.mk h1;clear hb1 h1)))
  go_ret3
  exact ⟨.inl ⟨rfl,_,rfl,H3.out.1⟩,H3.out.2⟩
 ·have her2:(er == 0)=false:=by simp [her]
  go_wp2_with (first|(go_at_call 128;go_loud (refine (HRD.out _ HB1.out.below).mono ?_;rintro e2 w2 ⟨⟨h,_⟩|⟨_,rfl⟩,hb2⟩;exact absurd h her;have H2:=Aside0.mk (HB1.out.step hb2).below;clear hb2))|(go_at_call 122;go_loud (refine (HLC.out _).mono ?_;rintro e1 w1 ⟨rfl,hb1⟩;have h1:=(Gl.new (w:=w) (a:=a) (f:=f) (K:=K) (M:=M) (Z:=Z) (T:=T) (L:=L) (O:=O) (st:=st) (ep:=ep)).step hb1;obtain ⟨y0,y1,y2,y3,y4,y5⟩:=geo_cells h1.geo;obtain ⟨x0,x1,x2,x3,x4,x5,x6,x7,x8,x9⟩:=ln_cells h1.ln;have HB1:=Aside0.mk h1;clear hb1 h1)))
  go_ret3
  exact ⟨.inr ⟨her,rfl⟩,H2.out⟩
theorem parts_flat {l:List Int} {K Z:Nat} (hl:l.length=K*Z):((List.range K).map (part l Z)).flatten=l:=by
 have key:∀ j,j<=K->((List.range j).map (part l Z)).flatten=l.take (j*Z):=fun j=>by
  induction j with
  | zero=>simp
  | succ j ih =>
   intro hj
   rw [List.range_succ,List.map_append,List.flatten_append,ih (by omega)]
   have h1:(j+1)*Z<=K*Z:=Nat.mul_le_mul_right Z hj
   rw [Nat.succ_mul] at h1 ⊢
   simp only [List.map_cons,List.map_nil,List.flatten_cons,List.flatten_nil,List.append_nil,part]
   rw [<- List.take_append_drop (j*Z) (l.take (j*Z+Z)),List.take_take]
   rw [show min (j*Z) (j*Z+Z)=j*Z by omega]
   congr 1
   rw [List.drop_append_of_le_length (by rw [List.length_take];omega)]
   rw [List.drop_take]
   simp
 rw [key K (Nat.le_refl _),<- hl,List.take_length]
def Str (E:Nat->Int->List Int) (K M Z:Nat) (st ad ep:Int) (l:List Int):Prop:=∀ i,i < K+M->E (dkN K M st i) ad=SecA.sect ad ep (encA K M Z ((List.range K).map (part l Z)) K i)
theorem encA_bytes (k m L:Nat) (D:List (List Int)) (hD:∀ j,byteL (D.getD j [])):∀ j a,byteL (encA k m L D j a)
 | 0,a=>by
  unfold encA
  split
  ·exact hD a
  ·exact byte_rep L
 | j+1,a=>by
  rw [encA,addA]
  split
  ·intro x hx
   obtain ⟨i,_,rfl⟩:=List.mem_map.1 hx
   unfold addF
   exact bx_byte _ _
  ·exact encA_bytes k m L D hD j a
theorem parts_bytes {l:List Int} (hb:byteL l) (K Z j:Nat):byteL (((List.range K).map (part l Z)).getD j []):=by
 by_cases hj:j < K
 ·rw [getD_rows _ hj]
  exact fun x hx=>hb x (List.mem_of_mem_take (List.mem_of_mem_drop hx))
 ·rw [List.getD_eq_getElem?_getD,List.getElem?_eq_none (by simp;omega)]
  exact fun x hx=>by simp at hx
theorem enc_len {K M Z:Nat} {l:List Int} (hl:l.length=K*Z) (i:Nat):(encA K M Z ((List.range K).map (part l Z)) K i).length=Z:=by
 by_cases hi:i < K
 ·rw [encA_data _ _ _ _ _ _ hi,getD_rows _ hi]
  exact part_len hl hi
 ·exact encA_len K M Z _ K i (by omega)
theorem sread_ok {K M Z:Nat} {T L O st ep:Int} {B Tk:Nat} {w:World} {a f:Nat} {S:Nat->Prop} {sec:Int} {dead:Nat->Bool} {E:Nat->Int->List Int} {cl:Bool} (hx:Ax B w a S sec (K+M) Tk dead E cl) (hf:Fd w f) (hg:LayA.Good K M Z T L O)
  (hn7:K+M<=7) (hs:0<=st/\st < T) (he:0<=ep/\ep<=2147483647) (hsec:5+L+st < sec) (hd:∀ i,i < K+M->dead i=false) (hZ:Z<=4096) {l:List Int} (hl:l.length=K*Z) (hb:byteL l) (hS:Str E K M Z st (5+L+st) ep l) :
  Calls Tryz.prog 98 #[.pointer (some ⟨a,0,none⟩),.pointer (some ⟨f,0,none⟩),geoV K M Z T L O,.int .i64 st,.int .i64 ep] w fun e w'=>∃ v,e=.returned (.tuple #[v,.slice none 0 0,.int .i64 0])/\Bs w' v l/\Below w.heap.size w w':=by
 have hg':=hg
 unfold LayA.Good at hg'
 have hD:=parts_bytes hb K Z
 have hlen:=enc_len (M:=M) hl
 have hdk:∀ i,i < K+M->dead (dkN K M st i)=false:=fun i hi=>hd _ (dk_lt i st (by omega))
 have e1:(List.range (K+M)).map (fun i=>!dead (dkN K M st i))=List.replicate (K+M) true:=by
  apply List.ext_getElem
  ·simp
  ·intro i h1 h2
   simp only [List.getElem_map,List.getElem_range,List.getElem_replicate]
   rw [hdk i (by simpa using h2)]
   rfl
 have e2:(List.range (K+M)).map (fun i=>if (!dead (dkN K M st i))=true then encA K M Z ((List.range K).map (part l Z)) K i else [])=(List.range (K+M)).map (encA K M Z ((List.range K).map (part l Z)) K):=by
  apply List.map_congr_left
  intro i hi
  rw [hdk i (by simpa using hi)]
  rfl
 have hDl:∀ j,j < K->(((List.range K).map (part l Z)).getD j []).length=Z:=fun j hj=>by rw [getD_rows _ hj];exact part_len hl hj
 have h:=sread_core hx hg hn7 hs he hsec (encA K M Z ((List.range K).map (part l Z)) K) (fun i hi _=>hS i hi) (fun i=>encA_bytes K M Z _ hD K i) (fun i _=>hlen i) hZ 0 ((List.range (K+M)).map (encA K M Z ((List.range K).map (part l Z)) K)) (by simp) (fun x hx=>by
   obtain ⟨i,_,rfl⟩:=List.mem_map.1 hx
   exact encA_bytes K M Z _ hD K i) (fun x hx=>by
   obtain ⟨i,_,rfl⟩:=List.mem_map.1 hx
   exact hlen i) (f:=f) (fun W vh vs hW h1 h2=>by
   rw [e1] at h1
   rw [e2] at h2
   have hr:=enc_right (k:=K) (m:=M) (N:=K+M) (L:=Z) (by omega) rfl hn7 _ hD hDl
   have h3:=shards_ok (hf.below hW) h1 h2 ⟨by simp,by simp,rfl,hn7⟩ (by omega) (L:=Z) (by omega) (fun i hi=>by
    by_cases hiN:i < K+M
    ·rw [getD_rows _ hiN];exact hlen i
    ·rw [rb_none (by simp;omega)] at hi;cases hi) (by
    have h0:K+M=(K+M - 1)+1:=by omega
    rw [h0,anyB]
    have:rb (List.replicate (K+M - 1+1) true) (K+M - 1)=true:=by simp [rb,List.getD]
    simp [this]) _ hr
   rw [enc_same rfl _ hDl] at h3
   refine Calls.mono h3 ?_
   rintro e w' ⟨g,c,rfl,hrs,hbb⟩
   obtain ⟨A,c',he',hc',hC'⟩:=hrs
   injection he' with q1 q2 q3
   subst q1
   subst q3
   exact ⟨_,rfl,fun _=>⟨g,c,rfl,by rw [List.length_map,List.length_range] at hc';exact hc',some ⟨g,0,none⟩,c,by simp,hc',hC'⟩,hbb⟩)
 refine Calls.mono h ?_
 rintro e w' ⟨⟨_,v,rfl,hv⟩|⟨h,_⟩,hbb⟩
 ·refine ⟨v,rfl,?_,hbb⟩
  have e3:((List.range (K+M)).map (encA K M Z ((List.range K).map (part l Z)) K)).take K=(List.range K).map (part l Z):=by
   apply List.ext_getElem
   ·simp
   ·intro i h1 h2
    have hi:i < K:=by simpa using h2
    simp only [List.getElem_take,List.getElem_map,List.getElem_range]
    rw [encA_data _ _ _ _ _ _ hi,getD_rows _ hi]
  rw [e3,parts_flat hl] at hv
  exact hv
 ·exact absurd rfl h
end Go.Proofs.YtmmcbncpnlknbaaGreat.Top
namespace Go.Proofs.YtmmcbncpnlknbaaGreat.Top
open Go Go.RowKit Go.Proofs.YtmmcbncpnlknbaaGreatW.PrintWords Go.Proofs.YtmmcbncpnlknbaaGreatW.PrintLast Go.Proofs.YtmmcbncpnlknbaaGreatW.PrintMore
theorem wrE_other (E:Nat->Int->List Int) (n:Nat) (st ad ep:Int) (rows:Nat->List Int) {y:Int} (hy:y≠ad) (d:Nat):∀ i,wrE E n st ad ep rows i d y=E d y
 | 0=>rfl
 | i+1=>by
  rw [wrE,updE,if_neg (fun e=>hy e.2)]
  exact wrE_other E n st ad ep rows hy d i
theorem dk_inj {K M:Nat} {st:Int} (hK:1<=K) {i j:Nat} (hi:i < K+M) (hj:j < K+M) (h:dkN K M st i=dkN K M st j):i=j:=by
 unfold dkN at h
 have h1:=Int.emod_nonneg ((i:Int)+st) (show ((K+M:Nat):Int)≠0 by omega)
 have h2:=Int.emod_nonneg ((j:Int)+st) (show ((K+M:Nat):Int)≠0 by omega)
 have h3:((i:Int)+st) % ((K+M:Nat):Int)=((j:Int)+st) % ((K+M:Nat):Int):=by omega
 have h4:=Int.emod_emod_of_dvd ((i:Int)+st - ((j:Int)+st)) (Int.dvd_refl ((K+M:Nat):Int))
 have h5:((i:Int)+st - ((j:Int)+st)) % ((K+M:Nat):Int)=0:=by rw [Int.sub_emod,h3];simp
 have h6:(i:Int)+st - ((j:Int)+st)=(i:Int) - j:=by omega
 rw [h6] at h5
 obtain ⟨q,hq⟩:=Int.dvd_of_emod_eq_zero h5
 have hN:(0:Int) < ((K+M:Nat):Int):=by omega
 have hq0:q=0:=by
  rcases Int.lt_trichotomy q 0 with hlt|h0|hgt
  ·have:((K+M:Nat):Int)*q<=((K+M:Nat):Int)*(-1):=Int.mul_le_mul_of_nonneg_left (by omega) (by omega)
   omega
  ·exact h0
  ·have:((K+M:Nat):Int)*1<=((K+M:Nat):Int)*q:=Int.mul_le_mul_of_nonneg_left (by omega) (by omega)
   omega
 rw [hq0] at hq
 omega
theorem wrE_own (E:Nat->Int->List Int) {K M:Nat} {st ad ep:Int} (rows:Nat->List Int) (hK:1<=K) {j:Nat} (hj:j < K+M):∀ i,i<=K+M->j < i->wrE E (K+M) st ad ep rows i (dkN K M st j) ad=SecA.sect ad ep (rows j)
 | 0,_,h=>by omega
 | i+1,hi,h=>by
  rw [wrE,updE]
  by_cases hji:j=i
  ·subst hji
   rw [if_pos ⟨rfl,rfl⟩]
  ·rw [if_neg (fun e=>hji (dk_inj hK hj (by omega) e.1))]
   exact wrE_own E rows hK hj i (by omega) (by omega)
theorem Str.new (E:Nat->Int->List Int) {K M Z:Nat} {st ad ep:Int} (hK:1<=K) (l:List Int):Str (wrE E (K+M) st ad ep (encA K M Z ((List.range K).map (part l Z)) K) (K+M)) K M Z st ad ep l :=
 fun i hi=>wrE_own E _ hK hi (K+M) (Nat.le_refl _) hi
theorem Str.other {E:Nat->Int->List Int} {K M Z n:Nat} {st ad ep st' ad' ep':Int} {l:List Int} {rows:Nat->List Int} (h:Str E K M Z st ad ep l) (hne:ad≠ad') (i:Nat):Str (wrE E n st' ad' ep' rows i) K M Z st ad ep l :=
 fun j hj=>by rw [wrE_other E n st' ad' ep' rows hne];exact h j hj
theorem Str.all {E:Nat->Int->List Int} {K M Z i:Nat} {st ad ep ad':Int} {l s:List Int} (h:Str E K M Z st ad ep l) (hne:ad≠ad'):Str (allE E ad' s i) K M Z st ad ep l :=
 fun j hj=>by unfold allE;rw [if_neg (fun e=>hne e.2)];exact h j hj
def EByte (E:Nat->Int->List Int):Prop:=∀ i y,byteL (E i y)
theorem EByte.wr {E:Nat->Int->List Int} (h:EByte E) (n:Nat) (st ad ep:Int) {rows:Nat->List Int} (hr:∀ i,byteL (rows i)):∀ i,EByte (wrE E n st ad ep rows i)
 | 0=>h
 | i+1=>fun d y=>by
  rw [wrE,updE]
  split
  ·exact SecA.sect_bytes _ _ (hr i)
  ·exact EByte.wr h n st ad ep hr i d y
theorem EByte.all {E:Nat->Int->List Int} (h:EByte E) (ad ep:Int) {l:List Int} (hl:byteL l) (i:Nat):EByte (allE E ad (SecA.sect ad ep l) i):=fun d y=>by
 unfold allE
 split
 ·exact SecA.sect_bytes _ _ hl
 ·exact h d y
def needN (P n:Nat):Nat:=if n=0 then 0 else (n - 1) / P+1
section
set_option maxRecDepth 100000
theorem kz_le {K Z:Nat} (a:K<=32) (b:Z<=4096):K*Z<=131072:=Nat.mul_le_mul a b
theorem p_rng {P:Nat} (h:P<=131072):-9223372036854775808<=(P:Int)/\(P:Int)<=9223372036854775807:=by omega
theorem need_facts {K Z n:Nat} (hK:1<=K) (hZ:1<=Z) (hK2:K<=32) (hZ2:Z<=4096) (hn:n<=2147483647) (h0:¬ n=0):∃ P q:Nat,¬ (P:Int)=0/\wrap64 ((n:Int) - 1)=(n:Int) - 1/\wrap64 ((K:Int)*Z)=(P:Int)/\((n:Int) - 1) / (P:Int)=(q:Int)/\((n:Int) - 1).tdiv (P:Int)=(q:Int)/\wrap64 (q:Int)=q/\wrap64 ((q:Int)+1)=(q:Int)+1/\((needN (K*Z) n:Nat):Int)=(q:Int)+1:=by
 have h1:1<=K*Z:=Nat.mul_pos hK hZ
 have h2:=kz_le hK2 hZ2
 have e1:(n:Int) - 1=((n - 1:Nat):Int):=by omega
 have hqn:=Nat.div_le_self (n - 1) (K*Z)
 refine ⟨K*Z,(n - 1) / (K*Z),?_,w64 _ (by omega),?_,?_,?_,?_,?_,?_⟩
 ·generalize K*Z=P at h1
  omega
 ·rw [<- Int.natCast_mul]
  exact w64 _ (p_rng h2)
 ·rw [e1,<- Int.natCast_ediv]
 ·rw [e1,Int.tdiv_eq_ediv_of_nonneg (Int.natCast_nonneg _),<- Int.natCast_ediv]
 ·generalize (n - 1) / (K*Z)=q at hqn
  exact w64 _ (by omega)
 ·generalize (n - 1) / (K*Z)=q at hqn
  exact w64 _ (by omega)
 ·unfold needN
  rw [if_neg h0]
  rfl
theorem needs_ok {K M Z:Nat} {T L O:Int} (hg:LayA.Good K M Z T L O) (n:Nat) (hn:n<=2147483647) (w:World) :
  Calls Tryz.prog 29 #[geoV K M Z T L O,.int .i64 n] w fun e w'=>e=.returned (.int .i64 (needN (K*Z) n))/\Below w.heap.size w w':=by
 have hg':=hg
 unfold LayA.Good at hg'
 have H0:=Aside0.mk (Bx23.mk0 w K M Z T L O)
 obtain ⟨p0,p1,p2,p3,p4,p5⟩:=box23 H0.out.1
 have HC:=Aside0.mk (fun W=>gchk0 hg W)
 unfold geoV
 by_cases h0:n=0
 ·subst h0
  clear hg hg'
  go_enter Tryz.func29,Tryz.ntmps29
  go_wp2_with (first|(go_at_call 12;go_loud (refine (HC.out _).mono ?_;rintro e1 w1 ⟨rfl,hb1⟩;have H1:=Aside0.mk (H0.out.step hb1);clear hb1;obtain ⟨q0,q1,q2,q3,q4,q5⟩:=box23 H1.out.1)))
  go_ret
  exact ⟨rfl,H1.out.bel⟩
 ·obtain ⟨P,q,hP1,g1,g2,g3,g4,g5,g6,HE⟩:=need_facts (show 1<=K by omega) (show 1<=Z by omega) (show K<=32 by omega) (show Z<=4096 by omega) hn h0
  have f1:¬ (n:Int) < 1:=by omega
  have HE:=Aside0.mk HE
  rw [HE.out]
  clear hg hg' h0
  go_enter Tryz.func29,Tryz.ntmps29
  go_wp2_with (first|(go_at_call 12;go_loud (refine (HC.out _).mono ?_;rintro e1 w1 ⟨rfl,hb1⟩;have H1:=Aside0.mk (H0.out.step hb1);clear hb1;obtain ⟨q0,q1,q2,q3,q4,q5⟩:=box23 H1.out.1)))
  go_ret
  exact ⟨(congrArg (fun x=>Ending.returned (Value.int .i64 x)) g6 :),H1.out.bel⟩
end
theorem zeros_C (W:World) (n:Nat) (hn:n<=10):(Kd.int .i64).C (W.alloc (.cells (Array.replicate n (.int .i64 0)) 31)) (some ⟨W.heap.size,0,none⟩) (List.replicate n (0:Int)).length (List.replicate n 0):=by
 refine Kd.C_of_reads (d:=0) ⟨by simp,by simp;omega,fun _=>⟨_,rfl,fun j hj=>?_⟩⟩
 rw [add_plain]
 have h:=heap_alloc_new W (Obj.cells (Array.replicate n (.int .i64 0)) 31)
 have hj:j < n:=by simpa using hj
 have e:(W.alloc (.cells (Array.replicate n (.int .i64 0)) 31)).cell? ⟨W.heap.size,j,none⟩=(Array.replicate n (Value.int .i64 0))[j]? :=by
  unfold World.cell?
  rw [h]
  rfl
 rw [e]
 simp [hj,List.getD]
theorem mfirst2 (W:World):Calls Tryz.prog 55 #[.slice (some ⟨W.heap.size,0,none⟩) 2 2] (W.alloc (.cells #[.int .i64 0,.int .i64 0] 31)) fun e w'=>e=.returned (.int .i64 0)/\Below (W.alloc (.cells #[.int .i64 0,.int .i64 0] 31)).heap.size (W.alloc (.cells #[.int .i64 0,.int .i64 0] 31)) w' :=
 (PAll.metalog_first.calls 100 _ 2 [0,0] 0 _ (zeros_C W 2 (by omega)) (by simp) (by decide +kernel)).mono (by rintro e w' ⟨h1,n,rfl⟩;exact ⟨h1,pw_below_drewN (Below.refl _ _) _⟩)
theorem mfirst3 (W:World):Calls Tryz.prog 55 #[.slice (some ⟨W.heap.size,0,none⟩) 3 3] (W.alloc (.cells #[.int .i64 0,.int .i64 0,.int .i64 0] 31)) fun e w'=>e=.returned (.int .i64 0)/\Below (W.alloc (.cells #[.int .i64 0,.int .i64 0,.int .i64 0] 31)).heap.size (W.alloc (.cells #[.int .i64 0,.int .i64 0,.int .i64 0] 31)) w' :=
 (PAll.metalog_first.calls 100 _ 3 [0,0,0] 0 _ (zeros_C W 3 (by omega)) (by simp) (by decide +kernel)).mono (by rintro e w' ⟨h1,n,rfl⟩;exact ⟨h1,pw_below_drewN (Below.refl _ _) _⟩)
theorem munless_ok (W:World) (x:Int):Calls Tryz.prog 57 #[.bool true,.int .i64 x] W fun e w'=>e=.returned (.int .i64 0)/\w'=W:=by
 go_enter Tryz.func57,Tryz.ntmps57
 go_wp2
 go_ret
 exact ⟨rfl,rfl⟩
def Gb (w W:World) (g:Nat) (K M Z T L O:Int):Prop:=W.heap[g]?=some (.cells (geoC K M Z T L O) 23 (0,0))/\Below w.heap.size w W
theorem Gb.step {w W W':World} {g:Nat} {K M Z T L O:Int} (h:Gb w W g K M Z T L O) (hb:Below W.heap.size W W'):Gb w W' g K M Z T L O:=⟨(hb.block _ (blk_lt h.1)).trans h.1,below_step h.2 hb⟩
theorem Gb.all {w W:World} {g:Nat} {K M Z T L O:Int} (h:Gb w W g K M Z T L O):W.cell? ⟨g,0,none⟩=some (.int .i64 K)/\W.cell? ⟨g,1,none⟩=some (.int .i64 M)/\W.cell? ⟨g,2,none⟩=some (.int .i64 Z)/\W.cell? ⟨g,3,none⟩=some (.int .i64 T)/\W.cell? ⟨g,4,none⟩=some (.int .i64 L)/\W.cell? ⟨g,5,none⟩=some (.int .i64 O)/\Below w.heap.size w W:=by
 obtain ⟨h0,h1,h2,h3,h4,h5⟩:=geo_cells h.1
 exact ⟨h0,h1,h2,h3,h4,h5,h.2⟩
set_option maxRecDepth 100000 in
set_option maxHeartbeats 2000000 in
theorem mcheck_ok {K M Z T L O:Int} (a:Nat) (hg:LayA.Good K M Z T L O) (w:World) :
  Calls Tryz.prog 56 #[.pointer (some ⟨a,0,none⟩),geoV K M Z T L O] w fun e w'=>e=.returned (.int .i64 0)/\Below w.heap.size w w':=by
 have HG:=Aside0.mk (fun W=>gcheck_ok hg W)
 have HL0:=Aside0.mk (show Gb w (w.alloc (.cells (geoC K M Z T L O) 23)).drew w.heap.size K M Z T L O from ⟨heap_alloc_new w _,below_drew1 (below_alloc (Below.refl w.heap.size w) _)⟩)
 have HF:=Aside0.mk mfirst2
 unfold geoV at HG ⊢
 unfold geoC at HL0
 clear hg
 go_enter Tryz.func56,Tryz.ntmps56
 go_wp2
 go_region_held3 (fun W=>W.cell? ⟨w.heap.size,0,none⟩=some (.int .i64 K)/\W.cell? ⟨w.heap.size,1,none⟩=some (.int .i64 M)/\W.cell? ⟨w.heap.size,2,none⟩=some (.int .i64 Z)/\W.cell? ⟨w.heap.size,3,none⟩=some (.int .i64 T)/\W.cell? ⟨w.heap.size,4,none⟩=some (.int .i64 L)/\W.cell? ⟨w.heap.size,5,none⟩=some (.int .i64 O)/\Below w.heap.size w W) (first|exact HL3.out.all|(exact (HL2.out.step (below_alloc (Below.refl _ _) _)).all)|exact HL2.out.all|exact HL1.out.all|exact HL0.out.all) (first|(go_at_call 55;go_loud (refine (HF.out _).mono ?_;rintro e3 w3 ⟨rfl,hb3⟩;have HL3:=Aside0.mk ((HL2.out.step (below_alloc (Below.refl _ _) _)).step hb3);clear hb3))|(go_at_call 12;go_loud (refine (HG.out _).mono ?_;rintro e2 w2 ⟨rfl,hb2⟩;have HL2:=Aside0.mk (HL1.out.step hb2);clear hb2))|(go_at_call 57;go_loud (refine (munless_ok _ _).mono ?_;rintro e1 w1 ⟨rfl,rfl⟩;have HL1:=Aside0.mk HL0.out)))
 go_wp2
 go_ret
 exact ⟨rfl,HL3.out.2⟩
theorem label_ok (w:World):Calls Tryz.prog 52 #[] w fun e w'=>∃ v,e=.returned v/\Kd.R (Kd.int .u8) 5 w' w.heap.size (fun _=>True) v (SecA.sect 0 0 [76])/\Below w.heap.size w w':=by
 obtain ⟨k,hk⟩:=SecA.pack 0 0 [76]
 have e:=hk k (Nat.le_refl _)
 rw [show SecA.packM 0 0 [76]=(SecA.sect 0 0 [76],0) from if_pos ⟨⟨by omega,by omega⟩,⟨by omega,by omega⟩,by simp⟩] at e
 exact PAll.metalog_label.calls k (SecA.sect 0 0 [76]) w (by unfold PAll.metalog_label.f;rw [show PAll.sector_Pack.f k 0 0 [76]=_ from e];rfl)
theorem aflushed {B n T a:Nat} {w:World} {S:Nat->Prop} {sec:Int} {dead:Nat->Bool} {E:Nat->Int->List Int} {cl:Bool} (h:Ax B w a S sec n T dead E cl) (hd:∀ i,i < n->dead i=false) :
  Calls Tryz.prog 53 #[.pointer (some ⟨a,0,none⟩)] w fun e w'=>e=.returned (.int .i64 0)/\Ax B w' a S sec n T dead E true/\Gs S w w':=by
 refine (h.flush (fun i hi e=>by rw [hd i hi] at e;cases e)).mono ?_
 rintro e w' ⟨rfl,hx,hg⟩
 have e:(cl || true && decide (∀ i,i < n->dead i=false))=true:=by simp [decide_eq_true hd]
 rw [e] at hx
 exact ⟨rfl,hx,hg⟩
set_option maxRecDepth 100000 in
set_option maxHeartbeats 2000000 in
theorem mlabel_ok {B n T a:Nat} {w:World} {S:Nat->Prop} {sec:Int} {dead:Nat->Bool} {E:Nat->Int->List Int} {cl:Bool} (h:Ax B w a S sec n T dead E cl) (hd:∀ i,i < n->dead i=false) (hT:T+n<=1000000) (h1:0 < sec) {ad:Addr} {c:Nat} (hr:∀ i,i < n->w.cell? (ad.add i)=some (.int .i64 i)) (hb:ad.block < w.heap.size/\¬ S ad.block) :
  Calls Tryz.prog 38 #[.pointer (some ⟨a,0,none⟩),.slice (some ad) n c] w fun e w'=>e=.returned (.int .i64 0)/\Ax B w' a S sec n (T+n) dead (allE E 0 (SecA.sect 0 0 [76]) n) true/\Gs S w w':=by
 have hn:=h.n32
 have hS:∀ k,S k->k < w.heap.size:=fun k hk=>(h.S_ge hk).2.2
 have HH:=Aside0.mk (And.intro h (And.intro hd (And.intro hT (And.intro h1 (And.intro hr (And.intro hb hS))))))
 clear h hd hT h1 hr hb hS
 go_enter Tryz.func38,Tryz.ntmps38
 go_wp2
 go_loopg [9] n (fun kq x wr=>∃ i:Nat,x=.int .i64 i/\i+kq=n/\Aside0 (Ax B wr a S sec n (T+i) dead (allE E 0 (SecA.sect 0 0 [76]) i) false/\Gs S w wr))
 case atStart=>exact ⟨0,rfl,by omega,⟨by rw [allE_zero];exact HH.out.1.weak,Gs.refl _ _⟩⟩
 case round =>
  obtain ⟨i,rfl,hik,HX⟩:=hrel
  by_cases hin:i < n
  ·have g1:(i:Int) < (n:Int):=by omega
   have g3:(0:Int)<=(i:Int):=by omega
   have hc:wr.cell? (ad.add i)=some (.int .i64 i):=by
    have h2:=HH.out.2.2.2.2.1 i hin
    have h3:(ad.add i).block=ad.block:=by unfold Addr.add;split <;> rfl
    unfold World.cell? at h2 ⊢
    rw [h3] at h2 ⊢
    rw [HX.out.2.block _ HH.out.2.2.2.2.2.1.1 HH.out.2.2.2.2.2.1.2]
    exact h2
   have gw:wrap64 ((i:Int)+1)=(i:Int)+1:=w64 _ (by omega)
   go_wp2_with (first|(go_at_call 51;go_loud (refine (swrite (l:=[76]) (ep:=0) (HX.out.1.below H1.out.2) hin (HH.out.2.1 i hin) (by have:=HH.out.2.2.1;omega) (Int.le_refl 0) HH.out.2.2.2.1 (by simp) H1.out.1).mono ?_;rintro e3 w3 ⟨rfl,hx3,hg3⟩;have H3:=Aside0.mk (And.intro hx3 ((Gs.of_below H1.out.2).trans hg3));clear hx3 hg3))|(go_at_call 52;go_loud (refine (label_ok _).mono ?_;rintro e1 w1 ⟨v1,rfl,hv1,hb1⟩;have H1:=Aside0.mk (And.intro (Bs.of_R hv1) hb1);clear hv1 hb1)))
   go_roundg (n - (i+1))
   case measure=>exact meas5 hin hik
   case rel=>exact ⟨i+1,by simp [gw],meas4 hin,⟨by rw [<- allE_succ];exact H3.out.1,HX.out.2.trans H3.out.2⟩⟩
  ·have g1:¬ (i:Int) < (n:Int):=by omega
   have e1:i=n:=by omega
   subst e1
   go_wp2_with (first|(go_at_call 53;go_loud (refine (aflushed HX.out.1 HH.out.2.1).mono ?_;rintro e3 w3 ⟨rfl,hx3,hg3⟩;have H3:=Aside0.mk (And.intro hx3 hg3);clear hx3 hg3)))
   go_ret
   exact ⟨rfl,H3.out.1,HX.out.2.trans H3.out.2⟩
end Go.Proofs.YtmmcbncpnlknbaaGreat.Top
