import Derived.Test.YtmmcbncpnlknbaaGreatF27
import Derived.Laws.Cover1
set_option linter.unusedVariables false
set_option linter.unusedSimpArgs false
namespace Go.Proofs.YtmmcbncpnlknbaaGreat.Top
open Go Go.RowKit Go.Proofs.YtmmcbncpnlknbaaGreatW.PrintWords Go.Proofs.YtmmcbncpnlknbaaGreatW.PrintLast Go.Proofs.YtmmcbncpnlknbaaGreatW.PrintMore
theorem flat_at:∀ (L:List (Ob×Value)) (i:Nat) (p:Ob×Value) (k:Nat),L[i]?=some p->k < 4->(L.flatMap obCells)[i*4+k]?=(obCells p)[k]?
 | [],i,p,k,h,_=>by simp at h
 | x :: L,0,p,k,h,hk=>by
  simp only [List.getElem?_cons_zero,Option.some.injEq] at h
  subst h
  rw [List.flatMap_cons,List.getElem?_append_left (by simp [obCells];omega)]
  simp
 | x :: L,i+1,p,k,h,hk=>by
  rw [List.flatMap_cons,List.getElem?_append_right (by simp [obCells];omega)]
  have e:(i+1)*4+k - (obCells x).length=i*4+k:=by simp [obCells];omega
  rw [e]
  exact flat_at L i p k (by simpa using h) hk
theorem Oz.cells {w W:World} {base g c:Nat} {L:List (Ob×Value)} (h:Oz w base (.slice (some ⟨g,0,none⟩) L.length c) L) (hb:Below w.heap.size w W) {i:Nat} {p:Ob×Value} (hp:L[i]?=some p) :
  W.cell? ⟨g,i*4,none⟩=some (.string p.1.f0)/\W.cell? ⟨g,i*4+1,none⟩=some (.int .i64 p.1.f1)/\W.cell? ⟨g,i*4+2,none⟩=some (.int .i64 p.1.f2)/\W.cell? ⟨g,i*4+3,none⟩=some p.2:=by
 have hi:i < L.length:=(List.getElem?_eq_some_iff.1 hp).1
 have ho:=own_move h.own (fun k hk=>hb.block k (own_lt h.own k hk))
 have h0:=ho.cellAt (i*4+0) (by omega)
 have h1:=ho.cellAt (i*4+1) (by omega)
 have h2:=ho.cellAt (i*4+2) (by omega)
 have h3:=ho.cellAt (i*4+3) (by omega)
 rw [flat_at L i p _ hp (by omega)] at h0 h1 h2 h3
 exact ⟨h0,h1,h2,h3⟩
structure Fx (w W:World) (g:Nat) (o:Ob) (A:Option Addr) (c:Nat):Prop where
 bx:W.heap[g]?=some (.cells (obC o.f0 o.f1 o.f2 A o.f3.length c) 139 (0,0))
 bl:Below w.heap.size w W
theorem Fx.step {w W W':World} {g:Nat} {o:Ob} {A:Option Addr} {c:Nat} (h:Fx w W g o A c) (hb:Below W.heap.size W W'):Fx w W' g o A c:=⟨(hb.block _ (blk_lt h.bx)).trans h.bx,below_step h.bl hb⟩
theorem Fx.all {w W:World} {g:Nat} {o:Ob} {A:Option Addr} {c:Nat} (h:Fx w W g o A c):W.cell? ⟨g,0,none⟩=some (.string o.f0)/\W.cell? ⟨g,1,none⟩=some (.int .i64 o.f1)/\W.cell? ⟨g,2,none⟩=some (.int .i64 o.f2)/\W.cell? ⟨g,3,none⟩=some (.slice A o.f3.length c)/\Fx w W g o A c:=by
 obtain ⟨q0,q1,q2,q3⟩:=ob_cells h.bx
 exact ⟨q0,q1,q2,q3,h⟩
set_option maxRecDepth 100000 in
set_option maxHeartbeats 4000000 in
theorem may_ok {w:World} {base:Nat} {v:Value} {L:List (Ob×Value)} (h:Oz w base v L) (hm:MayO (L.map Prod.fst)) :
  Calls Tryz.prog 79 #[v] w fun e w'=>e=.returned (.bool true)/\Below w.heap.size w w':=by
 obtain ⟨A,c,rfl,hc⟩:=own_slice2 h.own
 have hlen:=hm.len
 rw [List.length_map] at hlen
 have HH:=Aside0.mk (And.intro h hm)
 clear h hm
 go_enter Tryz.func79,Tryz.ntmps79
 go_wp2
 go_loopg [3,8] L.length (fun kq x3 x8 wr=>∃ (i s:Nat),x3=.int .i64 s/\x8=.int .i64 i/\i+kq=L.length/\Aside0 (s=((L.take i).map fun p=>p.1.f3.length).sum)/\Aside0 (Below w.heap.size w wr))
 case atStart=>exact ⟨0,0,rfl,rfl,by omega,⟨by simp⟩,⟨Below.refl _ _⟩⟩
 case round =>
  obtain ⟨i,s,rfl,rfl,hik,HS,HX⟩:=hrel
  by_cases hin:i < L.length
  ·have f1:(i:Int) < (L.length:Int):=by omega
   have f2:(0:Int)<=(i:Int):=by omega
   obtain ⟨p,hp⟩:∃ p,L[i]?=some p:=⟨_,List.getElem?_eq_getElem hin⟩
   have hpm:=List.mem_of_getElem? hp
   obtain ⟨g,hg⟩:∃ g,A=some ⟨g,0,none⟩:=by
    rcases HH.out.1.own.2 with ⟨_,h0⟩|⟨g,cap,cur,he,_⟩
    ·omega
    ·injection he with he1
     exact ⟨g,he1⟩
   subst hg
   obtain ⟨A3,c3,h3,hc3,hR3⟩:=HH.out.1.row p hpm
   obtain ⟨q0,q1,q2,q3⟩:=HH.out.1.cells HX.out hp
   rw [h3] at q3
   have hok:=HH.out.2.ok p.1 (List.mem_map_of_mem hpm)
   have hsm:((L.take i).map fun p=>p.1.f3.length).sum+p.1.f3.length<=256:=by
    have h1:=HH.out.2.sum
    rw [List.map_map] at h1
    have h2:L=L.take i ++ p :: L.drop (i+1):=by
     rw [List.getElem?_eq_getElem hin,Option.some.injEq] at hp
     rw [<- hp,<- List.drop_eq_getElem_cons hin,List.take_append_drop]
    rw [h2,List.map_append,List.sum_append,List.map_cons,List.sum_cons] at h1
    simp only [Function.comp_def] at h1
    omega
   have gs:wrap64 ((s:Int)+(p.1.f3.length:Int))=((s+p.1.f3.length:Nat):Int):=by
    have:=HS.out
    rw [w64 _ (by omega)]
    simp
   have gw:wrap64 ((i:Int)+1)=(i:Int)+1:=w64 _ (by omega)
   have d1:decide (p.1.f2 < 0)=false:=by simp;omega
   have d2:decide (2147483647 < p.1.f2)=false:=by simp;omega
   have HP:=Aside0.mk (And.intro hp (And.intro hc3 (And.intro hR3 hok)))
   have HC:=Aside0.mk (fun (W:World) (hb:Below w.heap.size w W)=>rcheck hok.1 (hR3.gs (Gs.of_below (S:=fun _=>False) hb) (fun _ hk=>hk.elim)) hc3)
   have HR:Aside0 (i+1+(L.length - (i+1))=L.length/\s+p.1.f3.length=((L.take (i+1)).map fun p=>p.1.f3.length).sum):=⟨by omega,by
    rw [List.take_add_one,List.map_append,List.sum_append,<- HS.out,hp]
    simp⟩
   clear hpm h3 hc3 hR3 hok hsm
   have H1:=Aside0.mk (show Fx w (wr.alloc (.cells (obC p.1.f0 p.1.f1 p.1.f2 A3 p.1.f3.length c3) 139)).drew wr.heap.size p.1 A3 c3 from ⟨heap_alloc_new wr _,below_drew1 (below_alloc HX.out _)⟩)
   by_cases hi0:i=0
   ·subst hi0
    clear hp
    go_wp2
    unfold obC at H1
    refine wp_region_held_drew (S:=fun W=>W.cell? ⟨wr.heap.size,0,none⟩=some (.string p.1.f0)/\W.cell? ⟨wr.heap.size,1,none⟩=some (.int .i64 p.1.f1)/\W.cell? ⟨wr.heap.size,2,none⟩=some (.int .i64 p.1.f2)/\W.cell? ⟨wr.heap.size,3,none⟩=some (.slice A3 p.1.f3.length c3)/\Fx w W wr.heap.size p.1 A3 c3) (by kernel_rfl) H1.out.all (fun hHeld=>?_)
    refine wpAnyH_take (i:=0) (v:=?_) rfl (by kernel_rfl) (by kernel_rfl) (by kernel_rfl) (fun _ _ _ h=>h) (Or.inl ⟨by rfl,?_⟩) (by assumption) ?_
    rotate_left
    ·intro W hSw
     obtain ⟨z0,z1,z2,z3,_⟩:=hSw
     go_simp
     try with_reducible rfl
    try simp only [Act.put,List.setIfInBounds_toArray,List.set_cons_zero,List.set_cons_succ,List.getElem_toArray,List.getElem_cons_succ,List.getElem_cons_zero]
    refine wpAnyH_ready (rs:=[1]) (by kernel_rfl) (by simp) ?_
    refine AllReadyH.cons rfl (fun K hK=>?_) AllReadyH.nil
    go_simp
    (go_at_call 82;go_loud (refine (rput_ok _ _ _ _ _ _ _).mono ?_;rintro e2 w2 ⟨rfl,hb2⟩;have H2:=Aside0.mk (H1.out.step hb2);clear hb2))
    refine hK.out _ _ ?_ (fun hHeld=>?_)
    ·exact H2.out.all
    clear hK K
    try simp only [Act.put,List.setIfInBounds_toArray,List.set_cons_zero,List.set_cons_succ,List.getElem_toArray,List.getElem_cons_succ,List.getElem_cons_zero]
    refine wpAnyH_ready (rs:=[2]) (by kernel_rfl) (by simp) ?_
    refine AllReadyH.cons rfl (fun K hK=>?_) AllReadyH.nil
    go_simp
    (go_at_call 85;go_loud (refine (HC.out _ H2.out.bl).mono ?_;rintro e3 w3 ⟨rfl,hb3⟩;have H3:=Aside0.mk (H2.out.step hb3);clear hb3))
    refine hK.out _ _ ?_ (fun hHeld=>?_)
    ·exact H3.out.all
    clear hK K
    try simp only [Act.put,List.setIfInBounds_toArray,List.set_cons_zero,List.set_cons_succ,List.getElem_toArray,List.getElem_cons_succ,List.getElem_cons_zero]
    refine wpAnyH_take (i:=3) (v:=?_) rfl (by kernel_rfl) (by kernel_rfl) (by kernel_rfl) (fun _ _ _ h=>h) (Or.inl ⟨by rfl,?_⟩) (by assumption) ?_
    rotate_left
    ·intro W hSw
     obtain ⟨z0,z1,z2,z3,_⟩:=hSw
     go_simp
     try with_reducible rfl
    try simp only [Act.put,List.setIfInBounds_toArray,List.set_cons_zero,List.set_cons_succ,List.getElem_toArray,List.getElem_cons_succ,List.getElem_cons_zero]
    refine wpAnyH_take (i:=4) (v:=?_) rfl (by kernel_rfl) (by kernel_rfl) (by kernel_rfl) (fun _ _ _ h=>h) (Or.inl ⟨by rfl,?_⟩) (by assumption) ?_
    rotate_left
    ·intro W hSw
     obtain ⟨z0,z1,z2,z3,_⟩:=hSw
     go_simp
     try with_reducible rfl
    try simp only [Act.put,List.setIfInBounds_toArray,List.set_cons_zero,List.set_cons_succ,List.getElem_toArray,List.getElem_cons_succ,List.getElem_cons_zero]
    refine wpAnyH_take (i:=5) (v:=?_) rfl (by kernel_rfl) (by kernel_rfl) (by kernel_rfl) (fun _ _ _ h=>h) (Or.inl ⟨by rfl,?_⟩) (by assumption) ?_
    rotate_left
    ·intro W hSw
     obtain ⟨z0,z1,z2,z3,_⟩:=hSw
     go_simp
     try with_reducible rfl
    try simp only [Act.put,List.setIfInBounds_toArray,List.set_cons_zero,List.set_cons_succ,List.getElem_toArray,List.getElem_cons_succ,List.getElem_cons_zero]
    refine wpAnyH_take (i:=6) (v:=?_) rfl (by kernel_rfl) (by kernel_rfl) (by kernel_rfl) (fun _ _ _ h=>h) (Or.inl ⟨by rfl,?_⟩) (by assumption) ?_
    rotate_left
    ·intro W hSw
     obtain ⟨z0,z1,z2,z3,_⟩:=hSw
     go_simp
     try with_reducible rfl
    try simp only [Act.put,List.setIfInBounds_toArray,List.set_cons_zero,List.set_cons_succ,List.getElem_toArray,List.getElem_cons_succ,List.getElem_cons_zero]
    refine wpAnyH_take (i:=7) (v:=?_) rfl (by kernel_rfl) (by kernel_rfl) (by kernel_rfl) (fun _ _ _ h=>h) (Or.inl ⟨by rfl,?_⟩) (by assumption) ?_
    rotate_left
    ·intro W hSw
     obtain ⟨z0,z1,z2,z3,_⟩:=hSw
     go_simp
     try with_reducible rfl
    try simp only [Act.put,List.setIfInBounds_toArray,List.set_cons_zero,List.set_cons_succ,List.getElem_toArray,List.getElem_cons_succ,List.getElem_cons_zero]
    refine wpAnyH_take (i:=8) (v:=?_) rfl (by kernel_rfl) (by kernel_rfl) (by kernel_rfl) (fun _ _ _ h=>h) (Or.inl ⟨by rfl,?_⟩) (by assumption) ?_
    rotate_left
    ·intro W hSw
     obtain ⟨z0,z1,z2,z3,_⟩:=hSw
     go_simp
     try with_reducible rfl
    try simp only [Act.put,List.setIfInBounds_toArray,List.set_cons_zero,List.set_cons_succ,List.getElem_toArray,List.getElem_cons_succ,List.getElem_cons_zero]
    refine wpAnyH_take (i:=9) (v:=?_) rfl (by kernel_rfl) (by kernel_rfl) (by kernel_rfl) (fun _ _ _ h=>h) (Or.inl ⟨by rfl,?_⟩) (by assumption) ?_
    rotate_left
    ·intro W hSw
     obtain ⟨z0,z1,z2,z3,_⟩:=hSw
     go_simp
     try with_reducible rfl
    try simp only [Act.put,List.setIfInBounds_toArray,List.set_cons_zero,List.set_cons_succ,List.getElem_toArray,List.getElem_cons_succ,List.getElem_cons_zero]
    refine wpAnyH_take (i:=10) (v:=?_) rfl (by kernel_rfl) (by kernel_rfl) (by kernel_rfl) (fun _ _ _ h=>h) (Or.inl ⟨by rfl,?_⟩) (by assumption) ?_
    rotate_left
    ·intro W hSw
     obtain ⟨z0,z1,z2,z3,_⟩:=hSw
     go_simp
     try with_reducible rfl
    try simp only [Act.put,List.setIfInBounds_toArray,List.set_cons_zero,List.set_cons_succ,List.getElem_toArray,List.getElem_cons_succ,List.getElem_cons_zero]
    refine wpAnyH_take (i:=11) (v:=?_) rfl (by kernel_rfl) (by kernel_rfl) (by kernel_rfl) (fun _ _ _ h=>h) (Or.inl ⟨by rfl,?_⟩) (by assumption) ?_
    rotate_left
    ·intro W hSw
     obtain ⟨z0,z1,z2,z3,_⟩:=hSw
     go_simp
     try with_reducible rfl
    try simp only [Act.put,List.setIfInBounds_toArray,List.set_cons_zero,List.set_cons_succ,List.getElem_toArray,List.getElem_cons_succ,List.getElem_cons_zero]
    refine wpAnyH_take (i:=12) (v:=?_) rfl (by kernel_rfl) (by kernel_rfl) (by kernel_rfl) (fun _ _ _ h=>h) (Or.inl ⟨by rfl,?_⟩) (by assumption) ?_
    rotate_left
    ·intro W hSw
     obtain ⟨z0,z1,z2,z3,_⟩:=hSw
     go_simp
     try with_reducible rfl
    try simp only [Act.put,List.setIfInBounds_toArray,List.set_cons_zero,List.set_cons_succ,List.getElem_toArray,List.getElem_cons_succ,List.getElem_cons_zero]
    refine wpAnyH_take (i:=13) (v:=?_) rfl (by kernel_rfl) (by kernel_rfl) (by kernel_rfl) (fun _ _ _ h=>h) (Or.inl ⟨by rfl,?_⟩) (by assumption) ?_
    rotate_left
    ·intro W hSw
     obtain ⟨z0,z1,z2,z3,_⟩:=hSw
     go_simp
     try with_reducible rfl
    try simp only [Act.put,List.setIfInBounds_toArray,List.set_cons_zero,List.set_cons_succ,List.getElem_toArray,List.getElem_cons_succ,List.getElem_cons_zero]
    refine wpAnyH_take (i:=14) (v:=?_) rfl (by kernel_rfl) (by kernel_rfl) (by kernel_rfl) (fun _ _ _ h=>h) (Or.inl ⟨by rfl,?_⟩) (by assumption) ?_
    rotate_left
    ·intro W hSw
     obtain ⟨z0,z1,z2,z3,_⟩:=hSw
     go_simp
     try with_reducible rfl
    try simp only [Act.put,List.setIfInBounds_toArray,List.set_cons_zero,List.set_cons_succ,List.getElem_toArray,List.getElem_cons_succ,List.getElem_cons_zero]
    refine wpAnyH_take (i:=15) (v:=?_) rfl (by kernel_rfl) (by kernel_rfl) (by kernel_rfl) (fun _ _ _ h=>h) (Or.inl ⟨by rfl,?_⟩) (by assumption) ?_
    rotate_left
    ·intro W hSw
     obtain ⟨z0,z1,z2,z3,_⟩:=hSw
     go_simp
     try with_reducible rfl
    try simp only [Act.put,List.setIfInBounds_toArray,List.set_cons_zero,List.set_cons_succ,List.getElem_toArray,List.getElem_cons_succ,List.getElem_cons_zero]
    refine wpAnyH_take (i:=16) (v:=?_) rfl (by kernel_rfl) (by kernel_rfl) (by kernel_rfl) (fun _ _ _ h=>h) (Or.inl ⟨by rfl,?_⟩) (by assumption) ?_
    rotate_left
    ·intro W hSw
     obtain ⟨z0,z1,z2,z3,_⟩:=hSw
     go_simp
     try with_reducible rfl
    try simp only [Act.put,List.setIfInBounds_toArray,List.set_cons_zero,List.set_cons_succ,List.getElem_toArray,List.getElem_cons_succ,List.getElem_cons_zero]
    refine wpAnyH_take (i:=17) (v:=?_) rfl (by kernel_rfl) (by kernel_rfl) (by kernel_rfl) (fun _ _ _ h=>h) (Or.inl ⟨by rfl,?_⟩) (by assumption) ?_
    rotate_left
    ·intro W hSw
     obtain ⟨z0,z1,z2,z3,_⟩:=hSw
     go_simp
     try with_reducible rfl
    try simp only [Act.put,List.setIfInBounds_toArray,List.set_cons_zero,List.set_cons_succ,List.getElem_toArray,List.getElem_cons_succ,List.getElem_cons_zero]
    refine wpAnyH_take (i:=18) rfl (by kernel_rfl) (by kernel_rfl) (by kernel_rfl) (fun _ _ _ h=>h) (Or.inr ⟨by rfl,rfl⟩) (by assumption) ?_
    try simp only [Act.put,List.setIfInBounds_toArray,List.set_cons_zero,List.set_cons_succ,List.getElem_toArray,List.getElem_cons_succ,List.getElem_cons_zero]
    refine wpAnyH_take (i:=19) rfl (by kernel_rfl) (by kernel_rfl) (by kernel_rfl) (fun _ _ _ h=>h) (Or.inr ⟨by rfl,rfl⟩) (by assumption) ?_
    try simp only [Act.put,List.setIfInBounds_toArray,List.set_cons_zero,List.set_cons_succ,List.getElem_toArray,List.getElem_cons_succ,List.getElem_cons_zero]
    refine wpAnyH_take (i:=20) rfl (by kernel_rfl) (by kernel_rfl) (by kernel_rfl) (fun _ _ _ h=>h) (Or.inr ⟨by rfl,rfl⟩) (by assumption) ?_
    try simp only [Act.put,List.setIfInBounds_toArray,List.set_cons_zero,List.set_cons_succ,List.getElem_toArray,List.getElem_cons_succ,List.getElem_cons_zero]
    refine wpAnyH_take (i:=21) rfl (by kernel_rfl) (by kernel_rfl) (by kernel_rfl) (fun _ _ _ h=>h) (Or.inr ⟨by rfl,rfl⟩) (by assumption) ?_
    try simp only [Act.put,List.setIfInBounds_toArray,List.set_cons_zero,List.set_cons_succ,List.getElem_toArray,List.getElem_cons_succ,List.getElem_cons_zero]
    refine wpAnyH_take (i:=22) rfl (by kernel_rfl) (by kernel_rfl) (by kernel_rfl) (fun _ _ _ h=>h) (Or.inr ⟨by rfl,rfl⟩) (by assumption) ?_
    try simp only [Act.put,List.setIfInBounds_toArray,List.set_cons_zero,List.set_cons_succ,List.getElem_toArray,List.getElem_cons_succ,List.getElem_cons_zero]
    refine wpAnyH_take (i:=23) rfl (by kernel_rfl) (by kernel_rfl) (by kernel_rfl) (fun _ _ _ h=>h) (Or.inr ⟨by rfl,rfl⟩) (by assumption) ?_
    try simp only [Act.put,List.setIfInBounds_toArray,List.set_cons_zero,List.set_cons_succ,List.getElem_toArray,List.getElem_cons_succ,List.getElem_cons_zero]
    refine wpAnyH_take (i:=24) rfl (by kernel_rfl) (by kernel_rfl) (by kernel_rfl) (fun _ _ _ h=>h) (Or.inr ⟨by rfl,rfl⟩) (by assumption) ?_
    try simp only [Act.put,List.setIfInBounds_toArray,List.set_cons_zero,List.set_cons_succ,List.getElem_toArray,List.getElem_cons_succ,List.getElem_cons_zero]
    refine wpAnyH_take (i:=25) rfl (by kernel_rfl) (by kernel_rfl) (by kernel_rfl) (fun _ _ _ h=>h) (Or.inr ⟨by rfl,rfl⟩) (by assumption) ?_
    try simp only [Act.put,List.setIfInBounds_toArray,List.set_cons_zero,List.set_cons_succ,List.getElem_toArray,List.getElem_cons_succ,List.getElem_cons_zero]
    refine wpAnyH_take (i:=26) rfl (by kernel_rfl) (by kernel_rfl) (by kernel_rfl) (fun _ _ _ h=>h) (Or.inr ⟨by rfl,rfl⟩) (by assumption) ?_
    try simp only [Act.put,List.setIfInBounds_toArray,List.set_cons_zero,List.set_cons_succ,List.getElem_toArray,List.getElem_cons_succ,List.getElem_cons_zero]
    refine wpAnyH_take (i:=27) (v:=?_) rfl (by kernel_rfl) (by kernel_rfl) (by kernel_rfl) (fun _ _ _ h=>h) (Or.inl ⟨by rfl,?_⟩) (by assumption) ?_
    rotate_left
    ·intro W hSw
     obtain ⟨z0,z1,z2,z3,_⟩:=hSw
     go_simp
     try with_reducible rfl
    try simp only [Act.put,List.setIfInBounds_toArray,List.set_cons_zero,List.set_cons_succ,List.getElem_toArray,List.getElem_cons_succ,List.getElem_cons_zero]
    refine wpAnyH_take (i:=28) (v:=?_) rfl (by kernel_rfl) (by kernel_rfl) (by kernel_rfl) (fun _ _ _ h=>h) (Or.inl ⟨by rfl,?_⟩) (by assumption) ?_
    rotate_left
    ·intro W hSw
     obtain ⟨z0,z1,z2,z3,_⟩:=hSw
     go_simp
     try with_reducible rfl
    try simp only [Act.put,List.setIfInBounds_toArray,List.set_cons_zero,List.set_cons_succ,List.getElem_toArray,List.getElem_cons_succ,List.getElem_cons_zero]
    refine wpAnyH_done (by kernel_rfl) ?_ _
    go_wp2
    go_roundg (L.length - 1)
    case measure=>exact meas5 hin hik
    case rel=>exact ⟨1,_,by rw [gs],by simp,meas4 hin,⟨HR.out.2⟩,⟨H3.out.bl⟩⟩
   ·have e1:decide (0 < i)=true:=by simp;omega
    have e2:(0:Int) < (i:Int):=by omega
    obtain ⟨j,rfl⟩:∃ j,i=j+1:=⟨i - 1,by omega⟩
    obtain ⟨r,hr⟩:∃ r,L[j]?=some r:=⟨_,List.getElem?_eq_getElem (by omega)⟩
    obtain ⟨t0,_,_,_⟩:=HH.out.1.cells HX.out hr
    have gj:wrap64 (((j+1:Nat):Int) - 1)=(j:Int):=by rw [w64 _ (by omega)];omega
    have gj2:wrap64 (j:Int)=(j:Int):=w64 _ (by omega)
    have gj4:IntKind.i64.wrap (j:Int)=(j:Int):=by
     have:=gj2
     exact (i64_w _).trans this
    have gj3:wrap64 ((j:Int)+1 - 1)=(j:Int):=by rw [w64 _ (by omega)];omega
    have gj0:(0:Int)<=(j:Int):=by omega
    have gj1:(j:Int) < (L.length:Int):=by omega
    have hlt:=HH.out.2.ord j r.1 p.1 (by rw [List.getElem?_map,hr];rfl) (by rw [List.getElem?_map,hp];rfl)
    unfold obC at H1
    have HB1:=Aside0.mk (show Below wr.heap.size wr (wr.alloc (.cells #[.string p.1.f0,.int .i64 p.1.f1,.int .i64 p.1.f2,.slice A3 p.1.f3.length c3] 139)).drew from below_drew1 (below_alloc (Below.refl _ _) _))
    have hl1:Op.bytesLess p.1.f0.toList r.1.f0.toList=false:=(Bool.or_eq_false_iff.1 hlt).1
    have hl2:(p.1.f0.toList == r.1.f0.toList)=false:=(Bool.or_eq_false_iff.1 hlt).2
    have hl3:(p.1.f0.toList=r.1.f0.toList)=False:=by simpa using hl2
    have hcell:∀ W:World,Below wr.heap.size wr W->W.cell? ⟨g,j*4,none⟩=some (.string r.1.f0):=fun W hb=>(hb.cell (p:=⟨g,j*4,none⟩) (World.block_lt_of_cell? _ _ t0)).trans t0
    have HCl:=Aside0.mk hcell
    clear hp hr hcell
    go_wp2
    go_region_held3 (fun W=>W.cell? ⟨wr.heap.size,0,none⟩=some (.string p.1.f0)/\W.cell? ⟨wr.heap.size,1,none⟩=some (.int .i64 p.1.f1)/\W.cell? ⟨wr.heap.size,2,none⟩=some (.int .i64 p.1.f2)/\W.cell? ⟨wr.heap.size,3,none⟩=some (.slice A3 p.1.f3.length c3)/\W.cell? ⟨g,j*4,none⟩=some (.string r.1.f0)) (first|exact ⟨(ob_cells H3.out.bx).1,(ob_cells H3.out.bx).2.1,(ob_cells H3.out.bx).2.2.1,(ob_cells H3.out.bx).2.2.2,HCl.out _ HB3.out⟩|exact ⟨(ob_cells H2.out.bx).1,(ob_cells H2.out.bx).2.1,(ob_cells H2.out.bx).2.2.1,(ob_cells H2.out.bx).2.2.2,HCl.out _ HB2.out⟩|exact ⟨(ob_cells H1.out.bx).1,(ob_cells H1.out.bx).2.1,(ob_cells H1.out.bx).2.2.1,(ob_cells H1.out.bx).2.2.2,HCl.out _ HB1.out⟩) (first|(go_at_call 85;go_loud (refine (HC.out _ H2.out.bl).mono ?_;rintro e3 w3 ⟨rfl,hb3⟩;have H3:=Aside0.mk (H2.out.step hb3);have HB3:=Aside0.mk (below_step HB2.out hb3);clear hb3))|(go_at_call 82;go_loud (refine (rput_ok _ _ _ _ _ _ _).mono ?_;rintro e2 w2 ⟨rfl,hb2⟩;have H2:=Aside0.mk (H1.out.step hb2);have HB2:=Aside0.mk (below_step HB1.out hb2);clear hb2)))
    obtain ⟨z0,z1,z2,z3,_⟩:=H3.out.all
    go_wp2
    go_roundg (L.length - (j+1+1))
    case measure=>exact meas5 hin hik
    case rel=>exact ⟨j+1+1,_,by rw [gs],by simp [gw],meas4 hin,⟨HR.out.2⟩,⟨H3.out.bl⟩⟩
  ·have f1:¬ (i:Int) < (L.length:Int):=by omega
   have e0:i=L.length:=by omega
   have hs:s<=256:=by
    have h1:=HH.out.2.sum
    rw [List.map_map] at h1
    have h2:=HS.out
    rw [e0,List.take_length] at h2
    rw [h2]
    exact h1
   have f3:(s:Int)<=256:=by omega
   have f4:(L.length:Int)<=64:=by omega
   clear e0
   go_wp2
   go_ret
   exact ⟨rfl,HX.out⟩
structure Sp (w0 W:World) (g:Nat) (o:Ob) (A:Option Addr) (c:Nat) (v:Value) (l:List Int):Prop where
 bx:W.heap[g]?=some (.cells (obC o.f0 o.f1 o.f2 A o.f3.length c) 139 (0,0))
 row:Kd.R (Kd.int .u8) 5 W w0.heap.size (fun k=>k≠g) v l
 bl:Below w0.heap.size w0 W
theorem Sp.all {w0 W:World} {g:Nat} {o:Ob} {A:Option Addr} {c:Nat} {v:Value} {l:List Int} (h:Sp w0 W g o A c v l):W.cell? ⟨g,0,none⟩=some (.string o.f0)/\W.cell? ⟨g,1,none⟩=some (.int .i64 o.f1)/\W.cell? ⟨g,2,none⟩=some (.int .i64 o.f2)/\W.cell? ⟨g,3,none⟩=some (.slice A o.f3.length c):=ob_cells h.bx
theorem Sp.num {w0 W:World} {g:Nat} {o:Ob} {A:Option Addr} {c:Nat} {v:Value} {l:List Int} (h:Sp w0 W g o A c v l) (hl:l.length<=100000) (n:Int) :
  Calls Tryz.prog 80 #[v,.int .i64 n,.int .i64 4] W fun e w'=>∃ u,e=.returned u/\Sp w0 w' g o A c u (l ++ RecB.four n):=by
 refine (rnum h.bl (blk_lt h.bx) h.row (RecB.num4 l n (by omega))).mono ?_
 rintro e w' ⟨u,rfl,h1,h2,h3⟩
 exact ⟨u,rfl,h3.trans h.bx,h1,h2⟩
theorem Sp.step {w0 W W':World} {g:Nat} {o:Ob} {A:Option Addr} {c:Nat} {v:Value} {l:List Int} (h:Sp w0 W g o A c v l) (hb:Below W.heap.size W W'):Sp w0 W' g o A c v l :=
 ⟨(hb.block _ (blk_lt h.bx)).trans h.bx,Kd.R_mono (Kd.R_old h.row hb) (fun _ hk=>hk.1),below_step h.bl hb⟩
theorem Sp.put {w0 W:World} {g:Nat} {o:Ob} {A:Option Addr} {c:Nat} {v:Value} {l:List Int} (h:Sp w0 W g o A c v l) :
  Calls Tryz.prog 82 #[.agg #[.string o.f0,.int .i64 o.f1,.int .i64 o.f2,.slice A o.f3.length c]] W fun e w'=>e=.returned (.agg #[.int .i64 1,.string o.f0,.int .i64 o.f1,.slice A o.f3.length c])/\Sp w0 w' g o A c v l:=by
 refine (rput_ok _ _ _ _ _ _ _).mono ?_
 rintro e w' ⟨rfl,hb⟩
 exact ⟨rfl,h.step hb⟩
theorem Sp.enc {w0 W:World} {g:Nat} {o:Ob} {A:Option Addr} {c:Nat} {v:Value} {l:List Int} (h:Sp w0 W g o A c v l) (hok:RecA.Ok 1 o.f0 o.f1 o.f3) (hA:Rt w0 A o.f3) (hc:o.f3.length<=c) (hl:l.length<=100000) :
  Calls Tryz.prog 81 #[v,.agg #[.int .i64 1,.string o.f0,.int .i64 o.f1,.slice A o.f3.length c]] W fun e w'=>∃ u,e=.returned u/\Kd.R (Kd.int .u8) 5 w' w0.heap.size (fun _=>True) u (l ++ RecB.encL 1 o.f0 o.f1 o.f3)/\Below w0.heap.size w0 w':=by
 unfold RecA.Ok at hok
 exact encoded_ok h.bl (Kd.R_mono h.row (fun _ _=>trivial)) 1 o.f0 o.f1 hA hc hok.2.2.2.1 hok.2.1.2 hl
def snapF (o:Ob):List Int:=RecB.four o.f2 ++ RecB.encL 1 o.f0 o.f1 o.f3
theorem snap_le:∀ M:List Ob,(∀ o ∈ M,o.f0.size<=64/\o.f3.length<=256)->(M.flatMap snapF).length<=600*M.length
 | [],_=>by simp
 | x :: r,h=>by
  have h1:=snap_le r (fun o ho=>h o (List.mem_cons_of_mem _ ho))
  have h2:=h x List.mem_cons_self
  rw [List.flatMap_cons,List.length_append]
  have h3:(snapF x).length=12+x.f0.size+2*x.f3.length:=by
   unfold snapF
   rw [List.length_append,RecB.four_len,RecB.enc_len]
   omega
  rw [List.length_cons]
  omega
theorem flat_take_le (L:List Ob) (hL:∀ o ∈ L,o.f0.size<=64/\o.f3.length<=256) (hl:L.length<=64) (i:Nat):(RecB.two L.length ++ (L.take i).flatMap snapF).length<=90000:=by
 have h1:=snap_le (L.take i) (fun o ho=>hL o (List.mem_of_mem_take ho))
 rw [List.length_append,RecB.two_len]
 have h2:(L.take i).length<=64:=by rw [List.length_take];omega
 omega
theorem num0 {w0 w:World} {v:Value} {l l':List Int} {n k:Int} (hB:Below w0.heap.size w0 w) (h:Kd.R (Kd.int .u8) 5 w w0.heap.size (fun _=>True) v l) (he:Ev (fun q=>PAll.record_number.f q l n k) l') :
  Calls Tryz.prog 80 #[v,.int .i64 n,.int .i64 k] w fun e w'=>∃ u,e=.returned u/\Kd.R (Kd.int .u8) 5 w' w0.heap.size (fun _=>True) u l'/\Below w0.heap.size w0 w':=by
 obtain ⟨q,hq⟩:=he
 refine (PAll.record_number.calls q (fun _=>True) v l n k l' w0 w hB h (hq q (Nat.le_refl _))).mono ?_
 rintro e w' ⟨u,rfl,h1,h2,h3⟩
 exact ⟨u,rfl,Kd.R_mono h1 (fun k hk=>trivial),h2⟩
theorem Bf.take {P:Nat->Prop} {w:World} {A:Option Addr} {n c m:Nat} {l:List Int} (h:Bf P w (.slice A n c) l) (hm:m<=l.length):Bf P w (.slice A m m) (l.take m):=by
 obtain ⟨h1,h2,h3⟩:=Kd.V_at h
 have e:(l.take m).length=m:=by rw [List.length_take];omega
 exact ⟨A,m,by rw [e],by omega,Kd.F_imp h3 (fun W hC=>Kd.C_take hC hm)⟩
theorem Bf.drop {P:Nat->Prop} {w:World} {A:Option Addr} {n c m:Nat} {l:List Int} (h:Bf P w (.slice A n c) l) (hm:m<=l.length):Bf P w (.slice (if c=m then A else A.map (·.add m)) (n - m) (c - m)) (l.drop m):=by
 obtain ⟨h1,h2,h3⟩:=Kd.V_at h
 have e:(l.drop m).length=n - m:=by rw [List.length_drop,h1]
 exact ⟨_,c - m,by rw [e],by omega,Kd.F_imp h3 (fun W hC=>by
  have h4:=Kd.C_drop (c:=c) hC hm (by omega)
  rwa [show m*(Kd.int .u8).sz=m from Nat.mul_one m] at h4)⟩
theorem rs_own {W:World} {base:Nat} {v:Value} {vs:List Value} {R:List (List Int)} (h1:1<=R.length/\R.length<=1000) (hr:W.ownsRow base 36 1 v R.length vs) (hv:∀ j,j < R.length->∃ x,vs[j]?=some x/\Bs W x (R.getD j [])):Rs W v R:=by
 obtain ⟨_,⟨rfl,h0⟩|⟨g,cap,cur,rfl,hg,hh,hcp,_,hs,ht⟩⟩:=hr
 ·omega
 ·refine ⟨some ⟨g,0,none⟩,cap,rfl,hcp,?_,?_,fun _=>⟨_,rfl,fun j p hj=>?_⟩⟩
  ·first|rfl|omega
  ·omega
  ·obtain ⟨hj1,hj2⟩:=List.getElem?_eq_some_iff.1 hj
   obtain ⟨x,h2,A,c,rfl,hc,hC⟩:=hv j hj1
   have e:R.getD j []=p:=by rw [List.getD_eq_getElem?_getD,hj];rfl
   rw [e] at hc hC
   rw [e] at h2
   have hx:cur[j]?=some (.slice A p.length c):=by
    rw [<- ht,List.getElem?_take] at h2
    split at h2
    ·simpa using h2
    ·cases h2
   refine ⟨[.slice A p.length c],rfl,⟨A,c,rfl,hc,hC⟩,fun i u hu=>?_⟩
   cases i with
   | zero =>
    have hu:Value.slice A p.length c=u:=by simpa using hu
    rw [<- hu,add_plain]
    simp [World.cell?,hh,hx,show (Kd.slice 5 (Kd.int .u8)).sz=1 from rfl]
   | succ i=>simp at hu
theorem le140 {i:Nat} (h:i < 2):(i+1)*24<=140737488355328:=by omega
theorem cut_to3 {A:Option Addr} {n c m:Nat} (hm:m<=n) (hc:n<=c):∀ W:World,(Instr.slice 36 (.slice A n c) none (some (.int .i64 m)) (some (.int .i64 m))).run Tryz.prog W=.ok (.slice A m m) W:=by
 obtain ⟨i,hi,hz0,hz1,hz2⟩:=info_parts info5
 intro W
 have hel:Tryz.prog.elem 36=5:=by simp [Program.elem,Tryz.underlying36]
 have hu:Tryz.prog.underlying 36=some (.slice (Tryz.prog.elem 36)):=by rw [hel];exact Tryz.underlying36
 have ha:(A.map fun x=>x.add 0)=A:=by cases A <;> simp [Addr.add]
 rw [run_slice_hm W 36 A n c hu .i64 .i64 m m (by omega) (by omega) (by omega),hel]
 simp [sizeOf,typeInfo,hi,sliced,Result.andThen,ha]
theorem cut_off {A:Option Addr} {n c m:Nat} (hm:m<=n) (hc:n<=c):∀ W:World,(Instr.slice 36 (.slice A n c) (some (.int .i64 m)) none none).run Tryz.prog W=.ok (.slice (if c=m then A else A.map (·.add m)) (n - m) (c - m)) W:=by
 obtain ⟨i,hi,hz0,hz1,hz2⟩:=info_parts info5
 intro W
 have hel:Tryz.prog.elem 36=5:=by simp [Program.elem,Tryz.underlying36]
 have hu:Tryz.prog.underlying 36=some (.slice (Tryz.prog.elem 36)):=by rw [hel];exact Tryz.underlying36
 rw [run_slice_l W 36 A n c hu .i64 m (by omega) (by omega),hel]
 simp [sizeOf,typeInfo,hi,sliced,Result.andThen,hz1]
def RsF (w w':World) (u:Value) (R:List (List Int)):Prop:=∀ W:World,(∀ k,w.heap.size<=k->k < w'.heap.size->W.heap[k]?=w'.heap[k]?)->Rs W u R
structure Sq (w W0 W:World) (l:List Int) (i:Nat) (b y:Value):Prop where
 bf:Bf (fun k=>w.heap.size<=k/\k < W0.heap.size) W b (l.drop (4096*i))
 own:∃ vs:List Value,vs.length=i/\W.ownsRow W0.heap.size 36 1 y i vs/\∀ j,j < i->∃ v,vs[j]?=some v/\Bf (fun k=>w.heap.size<=k/\k < W0.heap.size) W v ((l.drop (4096*j)).take 4096)
 b0:Below W0.heap.size W0 W
set_option maxRecDepth 100000 in
set_option maxHeartbeats 4000000 in
theorem snap_ok {w:World} {base:Nat} {v:Value} {L:List (Ob×Value)} (h:Oz w base v L) (hm:MayO (L.map Prod.fst)) :
  Calls Tryz.prog 54 #[v] w fun e w'=>∃ u,e=.returned (.tuple #[u,.int .i64 0])/\RsF w w' u [(snapL (L.map Prod.fst)).take 4096,((snapL (L.map Prod.fst)).drop 4096).take 4096]/\Below w.heap.size w w':=by
 obtain ⟨A,c,rfl,hc⟩:=own_slice2 h.own
 have hlen:=hm.len
 rw [List.length_map] at hlen
 have HM:=Aside0.mk (may_ok h hm)
 have HN:=Aside0.mk (fun (W:World) (hb:Below w.heap.size w W)=>num0 (w0:=w) hb (Kd.R_nil (Kd.int .u8) 5 W w.heap.size (fun _=>True)) (RecB.num2 [] (L.length:Int) (by simp)))
 have HH:=Aside0.mk (And.intro h hm)
 clear h hm
 simp only [List.nil_append] at HN
 go_enter Tryz.func54,Tryz.ntmps54
 go_wp2_with (first|(go_at_call 80;go_loud (refine (HN.out _ H1.out).mono ?_;rintro e2 w2 ⟨u2,rfl,hR2,hb2⟩;have H2:=Aside0.mk (And.intro hR2 hb2);clear hR2 hb2))|(go_at_call 79;go_loud (refine HM.out.mono ?_;rintro e1 w1 ⟨rfl,hb1⟩;have H1:=Aside0.mk hb1;clear hb1)))
 go_loopg [4,17] L.length (fun kq x4 x17 wr=>∃ (i:Nat) (b:Value),x17=.int .i64 i/\x4=b/\i+kq=L.length/\Aside0 (Kd.R (Kd.int .u8) 5 wr w.heap.size (fun _=>True) b (RecB.two L.length ++ ((L.map Prod.fst).take i).flatMap snapF)/\Below w.heap.size w wr))
 case atStart=>exact ⟨0,_,rfl,rfl,by omega,⟨by simpa using H2.out.1,H2.out.2⟩⟩
 case round =>
  obtain ⟨i,b4,rfl,rfl,hik,HX⟩:=hrel
  by_cases hin:i < L.length
  ·have f1:(i:Int) < (L.length:Int):=by omega
   have f2:(0:Int)<=(i:Int):=by omega
   obtain ⟨p,hp⟩:∃ p,L[i]?=some p:=⟨_,List.getElem?_eq_getElem hin⟩
   have hpm:=List.mem_of_getElem? hp
   obtain ⟨g,hg⟩:∃ g,A=some ⟨g,0,none⟩:=by
    rcases HH.out.1.own.2 with ⟨_,h0⟩|⟨g,cap,cur,he,_⟩
    ·omega
    ·injection he with he1
     exact ⟨g,he1⟩
   subst hg
   obtain ⟨A3,c3,h3,hc3,hR3⟩:=HH.out.1.row p hpm
   obtain ⟨q0,q1,q2,q3⟩:=HH.out.1.cells HX.out.2 hp
   rw [h3] at q3
   have hok:=HH.out.2.ok p.1 (List.mem_map_of_mem hpm)
   have hle:=flat_take_le (L.map Prod.fst) (fun o ho=>by have:=(HH.out.2.ok o ho).1;unfold RecA.Ok at this;exact ⟨this.2.1.2,this.2.2.2.1⟩) (by rw [List.length_map];exact hlen) i
   rw [List.length_map] at hle
   have gw:wrap64 ((i:Int)+1)=(i:Int)+1:=w64 _ (by omega)
   have hflat:((L.map Prod.fst).take (i+1)).flatMap snapF=((L.map Prod.fst).take i).flatMap snapF ++ snapF p.1:=by
    rw [List.take_add_one,List.getElem?_map,hp]
    simp
   obtain ⟨l0,hl0⟩:∃ l0,RecB.two L.length ++ ((L.map Prod.fst).take i).flatMap snapF=l0:=⟨_,rfl⟩
   have HF:=Aside0.mk (show RecB.two L.length ++ ((L.map Prod.fst).take (i+1)).flatMap snapF=l0 ++ RecB.four p.1.f2 ++ RecB.encL 1 p.1.f0 p.1.f1 p.1.f3 by rw [hflat,<- List.append_assoc,hl0,snapF,List.append_assoc])
   rw [hl0] at HX hle
   have H3:=Aside0.mk (show Sp w ((wr.alloc (.cells (obC p.1.f0 p.1.f1 p.1.f2 A3 p.1.f3.length c3) 139)).drew) wr.heap.size p.1 A3 c3 _ l0 from ⟨heap_alloc_new wr _,Kd.R_mono (Kd.R_old HX.out.1 (below_drew1 (below_alloc (Below.refl _ _) _))) (fun k hk=>by have:=hk.2;omega),below_drew1 (below_alloc HX.out.2 _)⟩)
   have HP:=Aside0.mk (And.intro hc3 (And.intro hR3 (And.intro hok.1 hle)))
   have hle2:(l0 ++ RecB.four p.1.f2).length<=100000:=by rw [List.length_append,RecB.four_len];omega
   have HL:=Aside0.mk hle2
   clear hp hpm h3 hc3 hR3 hok hle hflat hl0 hle2
   unfold obC at H3
   go_wp2
   obtain ⟨x0,x1,x2,x3⟩:=H3.out.all
   go_region_law (first|(go_simp;go_at_call 81;refine (H5.out.enc HP.out.2.2.1 HP.out.2.1 HP.out.1 HL.out).mono ?_;rintro e6 w6 ⟨u6,rfl,hR6,hb6⟩;have H6:=Aside0.mk (And.intro hR6 hb6);clear hR6 hb6)|(go_simp;go_at_call 82;refine H4.out.put.mono ?_;rintro e5 w5 ⟨rfl,hs5⟩;have H5:=Aside0.mk hs5;clear hs5)|(go_simp;go_at_call 80;refine (H3.out.num (by have:=HP.out.2.2.2;omega) _).mono ?_;rintro e4 w4 ⟨u4,rfl,hs4⟩;obtain ⟨y0,y1,y2,y3⟩:=hs4.all;have H4:=Aside0.mk hs4;clear hs4))
   all_goals
    go_wp2
    go_roundg (L.length - (i+1))
    case measure=>exact meas5 hin hik
    case rel=>exact ⟨i+1,_,by simp [gw],rfl,meas4 hin,⟨by rw [HF.out];exact H6.out.1,H6.out.2⟩⟩
  ·have f1:¬ (i:Int) < (L.length:Int):=by omega
   have e0:i=L.length:=by omega
   have hsn:RecB.two L.length ++ ((L.map Prod.fst).take i).flatMap snapF=snapL (L.map Prod.fst):=by
    rw [List.take_of_length_le (by rw [List.length_map];omega)]
    unfold snapL
    rw [List.length_map]
    rfl
   rw [hsn] at HX
   have hbf:=Bf.of_R (P:=fun k=>w.heap.size<=k/\k < wr.heap.size) HX.out.1 (fun k hk hk2=>⟨hk,hk2⟩)
   have HY:=Aside0.mk (And.intro hbf HX.out.2)
   have HS2:=Aside0.mk (snap_len HH.out.2)
   obtain ⟨l,hl⟩:∃ l,snapL (L.map Prod.fst)=l:=⟨_,rfl⟩
   rw [hl] at HY HS2
   have HE:=Aside0.mk hl
   clear HX hbf hsn hl e0
   obtain ⟨W0,rfl⟩:∃ W0,W0=wr:=⟨_,rfl⟩
   go_wp2
   go_loopg [4,7,8,29] 2 (fun kq x4 x7 x8 x29 W=>∃ (i:Nat) (b y:Value),x29=.int .i64 i/\x4=b/\x7=y/\i+kq=2/\Aside0 (Sq w W0 W l i b y))
   case atStart=>exact ⟨0,_,_,rfl,rfl,rfl,rfl,⟨⟨by simpa using HY.out.1,⟨[],rfl,World.ownsRow_nil _ _ _ _,fun j hj=>absurd hj (Nat.not_lt_zero _)⟩,Below.refl _ _⟩⟩⟩
   case round =>
    obtain ⟨i,b,y,rfl,rfl,rfl,hik2,HZ⟩:=hrel
    by_cases hi2:i < 2
    ·have f3:(i:Int) < (2:Int):=by omega
     have hdl:(l.drop (4096*i)).length<=6000:=by rw [List.length_drop];have:=HS2.out;omega
     obtain ⟨d,hd⟩:∃ d,l.drop (4096*i)=d:=⟨_,rfl⟩
     have hZb:=HZ.out.bf
     rw [hd] at hZb hdl
     obtain ⟨A5,c5,e5,hc5,_⟩:=hZb
     subst e5
     obtain ⟨vs,hvs,hown,hvv⟩:=HZ.out.own
     obtain ⟨A6,c6,e6,_⟩:=own_slice2 hown
     subst e6
     obtain ⟨i0,hi,hz0,hz1,hz2⟩:=info_parts info36'
     have hgm:∃ nm:Nat,min d.length 4096=nm/\min (d.length:Int) 4096=(nm:Int)/\nm<=d.length/\nm<=c5/\nm<=4096:=⟨min d.length 4096,rfl,by omega,by omega,by omega,by omega⟩
     obtain ⟨nm,hnm0,hnm,hn1,hn2,hn3⟩:=hgm
     have k1:(nm:Int)<=(c5:Int):=by omega
     have k2:(nm:Int)<=(d.length:Int):=by omega
     have k3:(0:Int)<=(nm:Int):=by omega
     have HO:=Aside0.mk hown
     have HI:=Aside0.mk hi
     have GW:=Aside0.mk (show wrap64 ((i:Int)+1)=(i:Int)+1 from w64 _ (by omega))
     have HW:=Aside0.mk (And.intro hvs (And.intro hvv (And.intro hd (And.intro hnm0 (And.intro hdl hc5)))))
     clear hown hi hvs hvv hd hnm0 hdl hc5
     have hc3:=cut_to3 (A:=A5) hn1 (show d.length<=c5 from HW.out.2.2.2.2.2)
     have hc4:=cut_off (A:=A5) hn1 (show d.length<=c5 from HW.out.2.2.2.2.2)
     have hbd:=HZ.out.bf
     rw [HW.out.2.2.1] at hbd
     have hbt:=Aside0.mk (hbd.take hn1)
     have hbd2:=hbd.drop hn1
     obtain ⟨A8,hA8⟩:∃ A8,(if c5=nm then A5 else A5.map (·.add nm))=A8:=⟨_,rfl⟩
     obtain ⟨n8,hn8⟩:∃ n8,d.length - nm=n8:=⟨_,rfl⟩
     obtain ⟨c8,hc8⟩:∃ c8,c5 - nm=c8:=⟨_,rfl⟩
     rw [hA8,hn8,hc8] at hc4 hbd2
     have hbe:=Aside0.mk hbd2
     clear hA8 hn8 hc8 hbd hbd2
     go_wp2_with (first|((with_reducible refine gate_builtin (b:=.append) (xs:=#[.tmp 34,.tmp 39]) rfl ?_);at_builtin;go_loud (refine print_append_cells (w0:=W0) W0.heap.size rfl (.tmp 34) (.tmp 39) 125 36 (.slice none 0 0) 1 24 rfl Tryz.underlying125 info36' rfl (by decide) (by decide) (.slice A6 i c6) i vs [.slice A5 nm nm] rfl rfl rfl (by simp [Value.oneCell']) HO.out HZ.out.b0 HZ.out.b0.size (le140 hi2) ?_;intro v4 w4 ho4 hb4 hg4 hat4;obtain ⟨A7,c7,h77,_⟩:=own_slice2 ho4;subst h77;have H4:=Aside0.mk (And.intro ho4 (And.intro hb4 hg4));clear ho4 hb4 hg4 hat4)))
     go_roundg (2 - (i+1))
     case measure=>exact meas5 hi2 hik2
     case rel =>
      have hbw:=H4.out.2.1
      have hW0:=HZ.out.b0.size
      have hmv:∀ {v:Value} {q:List Int},Bf (fun k=>w.heap.size<=k/\k < W0.heap.size) wr v q->Bf (fun k=>w.heap.size<=k/\k < W0.heap.size) w4 v q:=fun h=>Kd.V_step h (fun k hk hlt=>(hbw.block k hk.2).trans (HZ.out.b0.block k hk.2).symm)
      refine ⟨i+1,_,_,by simp [GW.out],rfl,rfl,meas4 hi2,⟨⟨?_,⟨vs ++ [.slice A5 nm nm],by rw [List.length_append,HW.out.1];rfl,H4.out.1,fun j hj=>?_⟩,hbw⟩⟩⟩
      ·have h1:=hmv hbe.out
       have e1:d.drop nm=l.drop (4096*(i+1)):=by
        rw [<- HW.out.2.2.1,List.drop_drop]
        have h2:=HW.out.2.2.2.1
        rw [<- HW.out.2.2.1,List.length_drop] at h2
        by_cases h3:l.length - 4096*i<=4096
        ·rw [List.drop_eq_nil_of_le (by omega),List.drop_eq_nil_of_le (by omega)]
        ·congr 1
         omega
       rwa [e1] at h1
      ·by_cases hj2:j=i
       ·subst hj2
        refine ⟨.slice A5 nm nm,by rw [List.getElem?_append_right (by rw [HW.out.1];exact Nat.le_refl _),HW.out.1];simp,?_⟩
        have h1:=hmv hbt.out
        have e1:d.take nm=(l.drop (4096*j)).take 4096:=by
         rw [HW.out.2.2.1,<- HW.out.2.2.2.1]
         by_cases h3:d.length<=4096
         ·rw [Nat.min_eq_left h3,List.take_of_length_le (Nat.le_refl _),List.take_of_length_le h3]
         ·rw [Nat.min_eq_right (by omega)]
        rwa [e1] at h1
       ·obtain ⟨v,h1,h2⟩:=HW.out.2.1 j (by omega)
        exact ⟨v,by rw [List.getElem?_append_left (by rw [HW.out.1];omega)];exact h1,hmv h2⟩
    ·have f3:¬ (i:Int) < (2:Int):=by omega
     have e2:i=2:=by omega
     subst e2
     go_wp2
     go_ret2
     obtain ⟨vs,hvs,hown,hvv⟩:=HZ.out.own
     refine ⟨_,rfl,?_,below_of_gs (Q:=fun _=>False) HY.out.2 ⟨HZ.out.b0.os,HZ.out.b0.tape,HZ.out.b0.output,HZ.out.b0.size,fun k hk _=>HZ.out.b0.block k hk⟩ (fun k hk=>hk.elim)⟩
     rw [HE.out]
     have hw0:=HY.out.2.size
     refine fun W hW=>rs_own (R:=[l.take 4096,(l.drop 4096).take 4096]) (by simp) (own_move hown (fun k hk=>hW k (Nat.le_trans hw0 (own_base hown k hk)) (own_lt hown k hk))) (fun j hj=>?_)
     obtain ⟨v,h1,h2⟩:=hvv j hj
     refine ⟨v,h1,?_⟩
     have h3:=(show Bf (fun k=>w.heap.size<=k/\k < W0.heap.size) W v _ from Kd.V_step h2 (fun k hk hlt=>hW k hk.1 hlt)).bs
     rcases j with _|_|j
     ·simpa using h3
     ·simpa using h3
     ·have h9:j+1+1 < 2:=hj
      omega
end Go.Proofs.YtmmcbncpnlknbaaGreat.Top
