import Derived.Test.YtmmcbncpnlknbaaGreatF30
set_option linter.unusedVariables false
set_option linter.unusedSimpArgs false
namespace Go.Proofs.YtmmcbncpnlknbaaGreat.Top
open Go Go.RowKit Go.Proofs.YtmmcbncpnlknbaaGreatW.PrintWords Go.Proofs.YtmmcbncpnlknbaaGreatW.PrintLast Go.Proofs.YtmmcbncpnlknbaaGreatW.PrintMore
def planX (P T O:Nat) (S:List Ob) (k:ByteArray) (len:Nat):Int:=if (!(findS S k).isSome && decide ((O:Int)<=(S.length:Int)))=true then 191 else if T - cntM S < needN P len then 192 else 0
def PutR (B:Nat) (w w':World) (s c b1 b2 a f:Nat) (K M Z T L O:Nat) (Q:Nat->Prop) (Tk:Nat) (p':Pst):Prop :=
 ∃ Tk' E' ar' ba' ct',St B w' s c b1 b2 a f K M Z T L O Q Tk' E' ar' ba' ct' p'/\Tk'<=Tk+2000/\Gs (Us Q s b1 b2) w w'
section
variable {B:Nat} {w W:World} {s c b1 b2 a f:Nat} {K M Z T L O:Nat} {Q:Nat->Prop} {Tk:Nat} {dead:Nat->Bool} {E:Nat->Int->List Int} {cl:Bool} {ar ba ct:Nat} {S:List Ob} {p:Pst}
theorem Sb.fr (h:Sb B w s c b1 b2 a f K M Z T L O Q Tk dead E cl ar ba ct S) (hg:Gs (Us Q s b1 b2) w W):Fr B w W:=by
 obtain ⟨ad,hc⟩:=h.cat
 refine hg.fr (fun k hk hu=>?_)
 rcases hu with hu|rfl|rfl|rfl
 ·exact ⟨(h.ax.S_ge hu).1,(h.ax.S_ge hu).2.1⟩
 ·refine ⟨h.ge.1,?_⟩
  rintro ⟨cells,t,h1,h2⟩
  rw [h.box] at h1
  injection h1 with h1
  injection h1 with _ h1
  exact h2 (by rw [<- h1];decide)
 ·obtain ⟨es,cl,h1⟩:=hc.objs.mapb
  exact ⟨h.ge.2.1,map_nfz h1⟩
 ·obtain ⟨es,cl,h1⟩:=hc.own.mapb
  exact ⟨h.ge.2.2,map_nfz h1⟩
theorem Fr.cells {B:Nat} {w W:World} (h:Fr B w W) {k t:Nat} {cells:Array Value} (hk:w.heap[k]?=some (.cells cells t (0,0))) (ht:t ∉ ([119,95,90,110,63,43,30]:List Nat)):W.heap[k]?=some (.cells cells t (0,0)) :=
 (h.block k (blk_lt hk) (.inr (fz_of hk ht))).trans hk
theorem Fr.p3 {bs bp bd:Nat} {A:Option Addr} {n cc:Nat} {A':Option Addr} {m c':Nat} (h:Fr B w W) (hp:P3 w bs bp bd s A n cc A' m c'):P3 W bs bp bd s A n cc A' m c':=⟨h.cells hp.xs (by decide),h.cells hp.xp (by decide),h.cells hp.xd (by decide)⟩
theorem own3_C {base:Nat} {A:Option Addr} {l:List Int} {cc:Nat} (h:w.ownsRow base 3 1 (.slice A l.length cc) l.length (l.map (Value.int .i64))):Rt w A l:=by
 have h1:Kd.R (Kd.int .i64) 3 w base (fun _=>True) (.slice A l.length cc) l:=Kd.R_of_own (h1:=fun _=>rfl) (by simpa [encs] using h) (fun _ _=>trivial)
 exact Rt.of_R h1
theorem Fr.row {base:Nat} {v:Value} {n:Nat} {xs:List Value} (h:Fr B w W) (ho:w.ownsRow base 3 1 v n xs):W.ownsRow base 3 1 v n xs :=
 own_move ho (fun k hk=>by
  obtain ⟨cells,h1⟩:=own_typed ho k hk
  exact h.block k (own_lt ho k hk) (.inr (fz_of h1 (by decide))))
theorem call_first3 {w:World} {g s bs bk bd bp:Nat} (hfn:w.heap[g]?=some (.cells #[.func (.func 94) #[.pointer (some ⟨s,0,none⟩)] #[],.func (.func 91) #[] #[.pointer (some ⟨bs,0,none⟩),.pointer (some ⟨bp,0,none⟩),.pointer (some ⟨bd,0,none⟩)],.func (.func 95) #[] #[.pointer (some ⟨bs,0,none⟩),.pointer (some ⟨bk,0,none⟩),.pointer (some ⟨bd,0,none⟩),.pointer (some ⟨bp,0,none⟩)]] 101 (0,0)))
  (Fw:World->Prop) (hF0:Fw w) (hFw:∀ W,Fw W->W.heap[g]?=w.heap[g]?) {P1 P2 P3:World->Prop} (h1f:∀ W,P1 W->Fw W) (h2f:∀ W,P2 W->Fw W)
  (c0:Calls Tryz.prog 94 #[.pointer (some ⟨s,0,none⟩)] w fun e w'=>e=.returned (.int .i64 0)/\P1 w')
  (c1:∀ W,P1 W->Calls Tryz.prog 91 #[.pointer (some ⟨bs,0,none⟩),.pointer (some ⟨bp,0,none⟩),.pointer (some ⟨bd,0,none⟩)] W fun e w'=>e=.returned (.int .i64 0)/\P2 w')
  (c2:∀ W,P2 W->Calls Tryz.prog 95 #[.pointer (some ⟨bs,0,none⟩),.pointer (some ⟨bk,0,none⟩),.pointer (some ⟨bd,0,none⟩),.pointer (some ⟨bp,0,none⟩)] W fun e w'=>e=.returned (.int .i64 0)/\P3 w') :
  Calls Tryz.prog 36 #[.slice (some ⟨g,0,none⟩) 3 3] w fun e w'=>e=.returned (.int .i64 0)/\P3 w':=by
 refine cfirst_ok (n:=3) (by omega) (fun i=>match i with
   | 0=>(94,#[.pointer (some ⟨s,0,none⟩)],#[])
   | 1=>(91,#[],#[.pointer (some ⟨bs,0,none⟩),.pointer (some ⟨bp,0,none⟩),.pointer (some ⟨bd,0,none⟩)])
   | _=>(95,#[],#[.pointer (some ⟨bs,0,none⟩),.pointer (some ⟨bk,0,none⟩),.pointer (some ⟨bd,0,none⟩),.pointer (some ⟨bp,0,none⟩)]))
  (fun i W=>match i with
   | 0=>W=w
   | 1=>P1 W
   | 2=>P2 W
   | _=>P3 W) rfl ?_ ?_ ?_
 ·intro i hi W hP
  have hg:W.heap[g]?=w.heap[g]? :=by
   match i,hi,hP with
   | 0,_,hP=>exact congrArg (fun W:World=>W.heap[g]?) hP
   | 1,_,hP=>exact hFw W (h1f W hP)
   | 2,_,hP=>exact hFw W (h2f W hP)
  match i,hi with
  | 0,_=>simp [World.cell?,hg,hfn]
  | 1,_=>simp [World.cell?,hg,hfn]
  | 2,_=>simp [World.cell?,hg,hfn]
 ·intro i hi xs W
  match i,hi with
  | 0,_=>exact Tryz.call94 xs W
  | 1,_=>exact Tryz.call91 xs W
  | 2,_=>exact Tryz.call95 xs W
 ·intro i hi W hP
  match i,hi,hP with
  | 0,_,hP=>cases hP;exact c0
  | 1,_,hP=>exact c1 W hP
  | 2,_,hP=>exact c2 W hP
theorem put_run (h:St B w s c b1 b2 a f K M Z T L O Q Tk E ar ba ct p) (hg:Geo K M Z T L O) {k:ByteArray} (hk:okK k=true) {d:List Int} {A':Option Addr} {c':Nat} (hd:Im B w (.slice A' d.length c') d) (hdb:byteL d) (hdl:d.length<=1000) (hep:p.ep+1<=1000) (hT:Tk+2000<=1000000)
  (hx:planX (K*Z) T O p.S k d.length=0) {plan:List Int} (hpl:planL (ownM p.S) (needN (K*Z) d.length) T=plan) {bs bk bd bp g base:Nat} {A:Option Addr} {cc:Nat} (hB:P3 w bs bp bd s A plan.length cc A' d.length c') (hbk:w.heap[bk]?=some (.cells #[.string k] 9 (0,0)))
  (hrow:w.ownsRow base 3 1 (.slice A plan.length cc) plan.length (plan.map (Value.int .i64)))
  (hfn:w.heap[g]?=some (.cells #[.func (.func 94) #[.pointer (some ⟨s,0,none⟩)] #[],.func (.func 91) #[] #[.pointer (some ⟨bs,0,none⟩),.pointer (some ⟨bp,0,none⟩),.pointer (some ⟨bd,0,none⟩)],.func (.func 95) #[] #[.pointer (some ⟨bs,0,none⟩),.pointer (some ⟨bk,0,none⟩),.pointer (some ⟨bd,0,none⟩),.pointer (some ⟨bp,0,none⟩)]] 101 (0,0))) :
  Calls Tryz.prog 36 #[.slice (some ⟨g,0,none⟩) 3 3] w fun e w'=>e=.returned (.int .i64 0)/\PutR B w w' s c b1 b2 a f K M Z T L O Q Tk (putP (K*Z) T O p k d).1:=by
 have hg':=hg.good
 unfold LayA.Good at hg'
 have hff:(!(findS p.S k).isSome && decide ((O:Int)<=(p.S.length:Int)))=false:=by
  unfold planX at hx
  cases hc:(!(findS p.S k).isSome && decide ((O:Int)<=(p.S.length:Int))) with
  | true=>rw [hc,if_pos rfl] at hx;cases hx
  | false=>rfl
 have hnn:¬ T - cntM p.S < needN (K*Z) d.length:=by
  intro hlt
  unfold planX at hx
  rw [hff,if_neg (by simp),if_pos hlt] at hx
  cases hx
 obtain ⟨q1,q2,q3⟩:=h.wf.plan hnn
 have hplen:=planL_len (ownM p.S) (needN (K*Z) d.length) T
 have hwf:=h.wf.put hk hff hnn (by omega) hdb hdl hep
 have hpr:(putP (K*Z) T O p k d).1=⟨putS p.S ⟨k,d.length,p.ep+1,plan⟩,fun x=>if x=k then d else p.dat x,p.ep+1⟩:=by
  unfold putP
  rw [if_neg (by rw [hk];simp),hff,if_neg (by simp),if_neg hnn,hpl]
 rw [hpr]
 rw [hpl] at q1 q2 q3 hplen hwf
 have hmul:plan.length*(K+M)<=256*7:=Nat.mul_le_mul (by omega) hg.n7
 have hep2:=h.ep
 have hQ2:∀ {A B:World},Gs Q A B->Gs (Us Q s b1 b2) A B:=fun h=>h.mono (fun k _ e=>.inl e)
 refine call_first3 hfn (fun W=>Gs (Us Q s b1 b2) w W) (Gs.refl _ _) (fun W hW=>(h.sb.fr hW).cells hfn (by decide) |>.trans hfn.symm)
  (P1:=fun W=>RoomP B w W s c b1 b2 a f K M Z T L O Q Tk E ba ct p.S)
  (P2:=fun W=>∃ (Tk1:Nat) (E1:Nat->Int->List Int) (ar1 ba1 ct1:Nat),Sb B W s c b1 b2 a f K M Z T L O Q (Tk1+plan.length*(K+M)) (fun _=>false) (putE E1 K M Z L ((ba1:Int)+ct1+1) d plan plan.length) true ar1 ba1 ct1 p.S/\Gs (Us Q s b1 b2) w W/\ct1 < L/\ba1+ct1=ba+ct/\ar1<=1/\Tk1<=Tk+2*(K+M)/\(∀ i y,5<=y->E1 i y=E i y)/\(ba1=0->E1=E))
  ?_ ?_ (room_ok h.sb hg.good h.wf.wf h.ep.2.2 h.ep.2.1 (by omega) (by omega)) (fun W hW=>?_) (fun W hW=>?_)
 ·rintro W ⟨_,_,_,_,_,_,hG,_⟩
  exact hG.mono (fun k _ e=>e.elim .inl (fun e=>.inr (.inl e)))
 ·rintro W ⟨_,_,_,_,_,_,hG,_⟩
  exact hG
 ·obtain ⟨Tk1,E1,ar1,ba1,ct1,hS1,hG1,r1,r2,r3,r4,r5,r6⟩:=hW
  have hG1':Gs (Us Q s b1 b2) w W:=hG1.mono (fun k _ e=>e.elim .inl (fun e=>.inr (.inl e)))
  have hf1:=h.sb.fr hG1'
  have hB1:=hf1.p3 hB
  have nQ:∀ {k t:Nat} {cells:Array Value},W.heap[k]?=some (.cells cells t (0,0))->t ∉ ([119,95,90,110,63,43,30]:List Nat)->¬ Q k:=fun hk ht hq=>(hS1.ax.S_ge hq).2.1 (fz_of hk ht)
  have hfQ:∀ W',Gs Q W W'->Fr B W W':=fun W' hg=>hS1.ax.fr hg
  refine (put1_ok hS1 hg.good hg.n7 hg.z (by omega) hB1 ⟨nQ hB1.xs (by decide),nQ hB1.xp (by decide),nQ hB1.xd (by decide)⟩ (fun W' hg'=>(own3_C ((hfQ W' hg').row (hf1.row hrow))).1) (fun W' hg'=>?_) hdb hdl q3 (fun x hx=>(q1 x hx).2) (by omega)).mono ?_
  ·obtain ⟨A9,c9,e9,h9,h10⟩:=((hd.fr hf1).fr (hfQ W' hg')).slice
   exact ⟨A9,c9,e9,h9,h10⟩
  ·rintro e w' ⟨rfl,hS2,hG2⟩
   exact ⟨rfl,Tk1,E1,ar1,ba1,ct1,hS2,hG1'.trans (hQ2 hG2),r1,r2,r3,r4,r5,r6⟩
 ·obtain ⟨Tk1,E1,ar1,ba1,ct1,hS1,hG1,r1,r2,r3,r4,r5,r6⟩:=hW
  have hf1:=h.sb.fr hG1
  have hB1:=hf1.p3 hB
  have hbk1:=hf1.cells hbk (by decide)
  have hrow1:=hf1.row hrow
  have hcc1:plan.length<=cc:=by
   obtain ⟨A9,c9,e9,h9⟩:=own_slice2 hrow1
   cases e9
   exact h9
  have hok:RecA.Ok 1 k (d.length:Int) plan:=((hwf.wf.ok ⟨k,d.length,p.ep+1,plan⟩ (mem_putS.2 (.inl rfl)))).1
  refine (put2_ok (o:=⟨k,d.length,p.ep+1,plan⟩) hS1 hg.good h.wf.wf r1 (by omega) (by omega) (by simp only;omega) hB1 hbk1 (own3_C hrow1) hcc1 hok rfl q3 (fun x hx=>⟨(q1 x hx).1,(q1 x hx).2.2⟩) q2 hff).mono ?_
  rintro e w' ⟨rfl,hS2,hG2⟩
  refine ⟨rfl,_,_,ar1,ba1,ct1+1,⟨hS2,hwf,fun o ho i hi=>?_,⟨by simp only;omega,by omega,r3⟩,⟨fun _=>Nat.succ_pos _,fun e1 e2=>?_⟩⟩,by omega,hG1.trans hG2⟩
  ·have hne:∀ x:Int,0<=x->(5:Int)+L+x≠5+(ct1:Int):=fun x hx=>by omega
   rcases mem_putS.1 ho with rfl|⟨ho,hko⟩
   ·simp only at hi ⊢
    rw [if_pos trivial]
    have h9:=putE_str (E:=E1) (K:=K) (M:=M) (Z:=Z) (L:=L) (ep:=(ba1:Int)+ct1+1) (d:=d) (by omega) q2 plan.length (Nat.le_refl _) i hi
    rw [show (ba1:Int)+ct1+1=(p.ep:Int)+1 by omega] at h9 ⊢
    exact h9.all (hne _ (q1 _ (getD_mem hi)).2.1)
   ·simp only at hko ⊢
    rw [if_neg hko]
    have h9:=h.str o ho i hi
    have hr9:=h.wf.wf.rng o ho _ (getD_mem hi)
    refine Str.all ?_ (hne _ hr9.1)
    intro j hj
    rw [putE_far _ _ (fun q hq e=>?_),r5 _ _ (by omega)]
    ·exact h9 j hj
    ·have e9:o.f3.getD i 0=plan.getD q 0:=by omega
     have h10:=(q1 _ (getD_mem hq)).1
     rw [<- e9,ownM_iff.2 ⟨o,ho,getD_mem hi⟩] at h10
     cases h10
  ·have h8:=h.lg.2 (by omega) (by omega)
   have hS0:=h8.2.1 (by omega)
   have c0:ct1=0:=by omega
   have hp0:p.ep=0:=by omega
   subst c0
   rw [r6 e1,e1,hS0,hp0]
   have hfar:∀ i y,y < 5->putE E K M Z L (((0:Nat):Int)+((0:Nat):Int)+1) d plan plan.length i y=E i y:=fun i y hy=>putE_far _ _ (fun q hq e=>by have:=(q1 _ (getD_mem hq)).2.1;omega)
   refine ⟨fun i y hy=>?_,fun e=>absurd e (by omega),fun _ o ho i hi=>?_⟩
   ·show (if i < K+M/\y=5+((0:Nat):Int) then _ else _)=_
    rw [if_neg (by omega),hfar _ _ hy]
    exact h8.1 i y hy
   ·simp only [putS,offS,List.filter_nil,inS,List.cons.injEq,and_true] at ho
    subst ho
    show (if i < K+M/\(5:Int)=5+((0:Nat):Int) then _ else _)=_
    rw [if_pos ⟨hi,rfl⟩]
    rfl
end
def PlnX (x:Int) (plan:List Int) (w w':World) (e:Ending):Prop :=
 (∃ A n cc,e=.returned (.tuple #[.slice A n cc,.int .i64 x])/\(x=0->n=plan.length/\w'.ownsRow w.heap.size 3 1 (.slice A n cc) plan.length (plan.map (Value.int .i64))))/\Below w.heap.size w w'
section
variable {B:Nat} {w W:World} {s c b1 b2 a f:Nat} {K M Z T L O:Nat} {Q:Nat->Prop} {Tk:Nat} {E:Nat->Int->List Int} {ar ba ct:Nat} {p:Pst}
theorem plan_x {ad:ByteArray->Value} {S:List Ob} (h:Cat w c K M Z T L O b1 b2 S ad (ownM S) (cntM S)) (hg:LayA.Good K M Z T L O) (hw:WfS S T O) {k:ByteArray} (hk:okK k=true) {len:Nat} (hlen:len<=1000) :
  Calls Tryz.prog 90 #[.pointer (some ⟨c,0,none⟩),.string k,.int .i64 len] w fun e w'=>PlnX (planX (K*Z) T O S k len) (planL (ownM S) (needN (K*Z) len) T) w w' e:=by
 unfold okK at hk
 rw [decide_eq_true_iff] at hk
 refine (cplan_ok h hg k hk len (by omega) hw.cnt).mono ?_
 rintro e w' ⟨h1,hb⟩
 refine ⟨?_,hb⟩
 unfold planX
 rcases h1 with ⟨hf,rfl⟩|⟨hf,hlt,rfl⟩|⟨hf,hle,v,rfl,ho⟩
 ·rw [if_pos hf]
  exact ⟨_,_,_,rfl,fun e=>by cases e⟩
 ·rw [hf,if_neg (by simp),if_pos hlt]
  exact ⟨_,_,_,rfl,fun e=>by cases e⟩
 ·rw [hf,if_neg (by simp),if_neg (by omega)]
  obtain ⟨A,cc,rfl,hcc⟩:=own_slice2 ho
  exact ⟨_,_,_,rfl,fun _=>⟨rfl,ho⟩⟩
structure B3 (w W:World) (s:Nat) (k:ByteArray) (A:Option Addr) (n c:Nat):Prop where
 xs:W.heap[w.heap.size]?=some (.cells #[.pointer (some ⟨s,0,none⟩)] 59 (0,0))
 xk:W.heap[w.heap.size+1]?=some (.cells #[.string k] 9 (0,0))
 xd:W.heap[w.heap.size+1+1]?=some (.cells #[.slice A n c] 36 (0,0))
 bl:Below w.heap.size w W
theorem B3.new {k:ByteArray} {A:Option Addr} {n c:Nat}:B3 w (((w.alloc (.cells #[.pointer (some ⟨s,0,none⟩)] 59)).alloc (.cells #[.string k] 9)).alloc (.cells #[.slice A n c] 36)) s k A n c:=by
 refine ⟨?_,?_,?_,below_alloc (below_alloc (below_alloc (Below.refl _ _) _) _) _⟩
 ·simp only [hal,hsz]
  rw [if_neg (by omega),if_neg (by omega),if_pos trivial]
 ·simp only [hal,hsz]
  rw [if_neg (by omega),if_pos trivial]
 ·simp only [hal,hsz]
  rw [if_pos trivial]
theorem B3.step {k:ByteArray} {A:Option Addr} {n c:Nat} (h:B3 w W s k A n c) {W':World} (hb:Below W.heap.size W W'):B3 w W' s k A n c :=
 ⟨(hb.block _ (blk_lt h.xs)).trans h.xs,(hb.block _ (blk_lt h.xk)).trans h.xk,(hb.block _ (blk_lt h.xd)).trans h.xd,below_step h.bl hb⟩
theorem B3.all {k:ByteArray} {A:Option Addr} {n c:Nat} (h:B3 w W s k A n c) {cc:Nat} (hs:w.cell? ⟨s,0,none⟩=some (.pointer (some ⟨cc,0,none⟩))) (hlt:s < w.heap.size):W.cell? ⟨w.heap.size,0,none⟩=some (.pointer (some ⟨s,0,none⟩))/\W.cell? ⟨w.heap.size+1,0,none⟩=some (.string k)/\W.cell? ⟨w.heap.size+1+1,0,none⟩=some (.slice A n c)/\W.cell? ⟨s,0,none⟩=some (.pointer (some ⟨cc,0,none⟩)):=by
 refine ⟨?_,?_,?_,(h.bl.cell (p:=⟨s,0,none⟩) hlt).trans hs⟩ <;> simp [World.cell?,h.xs,h.xk,h.xd]
theorem B3.set {k:ByteArray} {A:Option Addr} {n c:Nat} (h:B3 w W s k A n c) {g:Nat} (hg:w.heap.size+1+1 < g) (v:Value):B3 w (W.setCell ⟨g,0,none⟩ v) s k A n c:=by
 have h1:Gs (fun k=>k=g) W (W.setCell ⟨g,0,none⟩ v):=(Gs.refl (fun k=>k=g) W).set (.inr rfl) 0 v
 exact ⟨(h1.block _ (blk_lt h.xs) (by omega)).trans h.xs,(h1.block _ (blk_lt h.xk) (by omega)).trans h.xk,(h1.block _ (blk_lt h.xd) (by omega)).trans h.xd,below_of_gs h.bl h1 (fun k e=>by omega)⟩
theorem Sb.boxed {dead:Nat->Bool} {cl:Bool} {S:List Ob} (h:Sb B w s c b1 b2 a f K M Z T L O Q Tk dead E cl ar ba ct S) (hg:Gs (fun k=>k=s) w W) {ar' ba' ct':Nat} (hbx:W.heap[s]?=some (.cells (stC c a f K M Z T L O ar' ba' ct') 110 (0,0))):Sb B W s c b1 b2 a f K M Z T L O Q Tk dead E cl ar' ba' ct' S:=by
 obtain ⟨ad,hc⟩:=h.cat
 obtain ⟨cf,hf,_⟩:=h.fd.cells
 have hne:∀ {k:Nat} {o:Obj},w.heap[k]?=some o->(∀ cells,o≠.cells cells 110 (0,0))->¬ k=s:=fun hk ho e=>by
  subst e
  rw [h.box] at hk
  injection hk with hk
  exact ho _ hk.symm
 refine ⟨hbx,⟨ad,hc.gs hg (hne hc.box (fun _ e=>by cases e)) ?_ ?_ ?_⟩,?_,h.fd.keep (hg.block _ h.fd.lt (hne hf (fun _ e=>by cases e))),h.eb,h.nq,h.ge⟩
 ·obtain ⟨es,cl,h1⟩:=hc.objs.mapb
  exact hne h1 (fun _ e=>by cases e)
 ·obtain ⟨es,cl,h1⟩:=hc.own.mapb
  exact hne h1 (fun _ e=>by cases e)
 ·rintro k rfl ⟨cells,h3⟩
  rw [h.box] at h3
  cases h3
 ·refine h.ax.keep (hg.fr (fun k hk hq=>?_)) (fun k hk=>hg.block k (h.ax.S_ge hk).2.2 (fun e=>?_))
  ·subst hq
   refine ⟨h.ge.1,?_⟩
   rintro ⟨cells,t,h1,h2⟩
   rw [h.box] at h1
   injection h1 with h1
   injection h1 with _ h1
   exact h2 (by rw [<- h1];decide)
  ·subst e
   exact h.nq.1 hk
theorem PutR.boxed (h:PutR B w W s c b1 b2 a f K M Z T L O Q Tk p):∃ ar' ba' ct':Nat,W.heap[s]?=some (.cells (stC c a f K M Z T L O ar' ba' ct') 110 (0,0))/\∀ w',w'.heap[s]?=some (.cells (stC c a f K M Z T L O ar' ba' ct') 110 (0,0))->Gs (fun k=>k=s) W w'->PutR B w w' s c b1 b2 a f K M Z T L O Q Tk p:=by
 obtain ⟨Tk',E',ar',ba',ct',h1,h2,h3⟩:=h
 exact ⟨ar',ba',ct',h1.sb.box,fun w' hb hg=>⟨Tk',E',ar',ba',ct',⟨h1.sb.boxed hg hb,h1.wf,h1.str,h1.ep,h1.lg⟩,h2,h3.trans (hg.mono (fun k _ e=>.inr (.inl e)))⟩⟩
theorem PutR.below {w0:World} (h:PutR B w W s c b1 b2 a f K M Z T L O Q Tk p) (hb:Below w0.heap.size w0 w):PutR B w0 W s c b1 b2 a f K M Z T L O Q Tk p:=by
 obtain ⟨Tk',E',ar',ba',ct',h1,h2,h3⟩:=h
 exact ⟨Tk',E',ar',ba',ct',h1,h2,(Gs.of_below hb).trans h3⟩
theorem cell_gs {w w':World} {g q:Nat} {v:Value} (hg:Gs (fun k=>k=q) w w') (h:w.cell? ⟨g,0,none⟩=some v) (hne:g≠q):w'.cell? ⟨g,0,none⟩=some v:=by
 have h1:=hg.block g (World.block_lt_of_cell? _ _ h) hne
 unfold World.cell? at h ⊢
 rw [h1]
 exact h
theorem put_cell {w0:World} {Tk0:Nat} {p0:Pst} (h0:St B w0 s c b1 b2 a f K M Z T L O Q Tk E ar ba ct p0) (hb:Below w0.heap.size w0 w) (h:PutR B w W s c b1 b2 a f K M Z T L O Q Tk0 p) {v:Value} (hc:w.cell? ⟨w0.heap.size,0,none⟩=some v):W.cell? ⟨w0.heap.size,0,none⟩=some v:=by
 obtain ⟨Tk',E',ar',ba',ct',h1,h2,h3⟩:=h
 obtain ⟨ad,hcat⟩:=h0.sb.cat
 have hlt:=World.block_lt_of_cell? _ _ hc
 have h4:=h3.block w0.heap.size hlt (fun hu=>by
  have h5:∀ k,Us Q s b1 b2 k->k < w0.heap.size:=by
   rintro k (hq|rfl|rfl|rfl)
   ·exact (h0.sb.ax.S_ge hq).2.2
   ·exact blk_lt h0.sb.box
   ·exact hcat.objs.lt
   ·exact hcat.own.lt
  exact Nat.lt_irrefl _ (h5 _ hu))
 unfold World.cell? at hc ⊢
 rw [h4]
 exact hc
theorem PutR.same (h:St B w s c b1 b2 a f K M Z T L O Q Tk E ar ba ct p) {w':World} (hb:Below w.heap.size w w'):PutR B w w' s c b1 b2 a f K M Z T L O Q Tk p:=⟨Tk,E,ar,ba,ct,h.below hb,by omega,Gs.of_below hb⟩
set_option maxRecDepth 100000 in
set_option maxHeartbeats 2000000 in
theorem cput_bad (h:St B w s c b1 b2 a f K M Z T L O Q Tk E ar ba ct p) {k:ByteArray} (hk:okK k=false) (A:Option Addr) (n c':Nat) :
  Calls Tryz.prog 62 #[.pointer (some ⟨s,0,none⟩),.string k,.slice A n c'] w fun e w'=>e=.returned (.int .i64 190)/\Below w.heap.size w w':=by
 have H0:=Aside0.mk (B3.new (w:=w) (s:=s) (k:=k) (A:=A) (n:=n) (c:=c'))
 have HF:=Aside0.mk (fault_ok2 ((H0.out.bl.block _ (blk_lt h.sb.box)).trans h.sb.box) k)
 rw [hk] at HF
 simp only [Bool.false_eq_true,if_false] at HF
 clear h hk
 go_enter Tryz.func62,Tryz.ntmps62
 go_wp2_with (first|(go_at_call 89;go_loud (refine HF.out.mono ?_;rintro e1 w1 ⟨rfl,rfl⟩)))
 go_ret
 exact ⟨rfl,H0.out.bl⟩
set_option maxRecDepth 100000 in
set_option maxHeartbeats 2000000 in
theorem cput_good (h:St B w s c b1 b2 a f K M Z T L O Q Tk E ar ba ct p) (hg:Geo K M Z T L O) {k:ByteArray} (hk:okK k=true) {d:List Int} {vd:Value} (hd:Im B w vd d) (hdb:byteL d) (hdl:d.length<=1000) (hep:p.ep+1<=1000) (hT:Tk+2000<=1000000) :
  Calls Tryz.prog 62 #[.pointer (some ⟨s,0,none⟩),.string k,vd] w fun e w'=>e=.returned (.int .i64 (putP (K*Z) T O p k d).2)/\PutR B w w' s c b1 b2 a f K M Z T L O Q Tk (putP (K*Z) T O p k d).1:=by
 obtain ⟨A',c',rfl,hc',hC'⟩:=hd.slice
 have hne:(putP (K*Z) T O p k d).2=planX (K*Z) T O p.S k d.length/\(planX (K*Z) T O p.S k d.length≠0->(putP (K*Z) T O p k d).1=p):=by
  unfold putP planX
  rw [if_neg (by rw [hk];simp)]
  split
  ·exact ⟨rfl,fun _=>rfl⟩
  ·split
   ·exact ⟨rfl,fun _=>rfl⟩
   ·exact ⟨rfl,fun e=>absurd rfl e⟩
 rw [hne.1]
 obtain ⟨ad,hc⟩:=h.sb.cat
 have hst:=(st_cells h.sb.box).1
 have hlt:=blk_lt h.sb.box
 have H0:=Aside0.mk (B3.new (w:=w) (s:=s) (k:=k) (A:=A') (n:=d.length) (c:=c'))
 have HF:=Aside0.mk (fault_ok2 ((H0.out.bl.block _ hlt).trans h.sb.box) k)
 rw [hk] at HF
 simp only [if_true] at HF
 have HP:=Aside0.mk (fun (W:World) (hb:Below w.heap.size w W)=>plan_x (hc.below hb) hg.good h.wf.wf hk hdl)
 obtain ⟨x,hx⟩:∃ x,planX (K*Z) T O p.S k d.length=x:=⟨_,rfl⟩
 obtain ⟨plan,hpl⟩:∃ q,planL (ownM p.S) (needN (K*Z) d.length) T=q:=⟨_,rfl⟩
 obtain ⟨r,hr⟩:∃ r,putP (K*Z) T O p k d=r:=⟨_,rfl⟩
 rw [hx,hpl] at HP
 rw [hx] at hne ⊢
 rw [hr] at hne ⊢
 have HH:=Aside0.mk (And.intro h (And.intro hg (And.intro hk (And.intro hd (And.intro hdb (And.intro hdl (And.intro hep (And.intro hT (And.intro hne (And.intro hx (And.intro hpl hr)))))))))))
 have HA0:=Aside0.mk (fun (W:World) (hb:B3 w W s k A' d.length c')=>hb.all hst hlt)
 clear h hg hk hd hdb hdl hep hT hne hx hpl hr hc hst hlt hc' hC'
 go_enter Tryz.func62,Tryz.ntmps62
 go_upto_region 4 with (first|(go_at_call 89;go_loud (refine HF.out.mono ?_;rintro e1 w1 ⟨rfl,rfl⟩)))
 have H1:=Aside0.mk (H0.out.step (below_drew1 (Below.refl _ _)))
 go_cut [8,9] from 200 to 200 (fun x8 x9 wx=>∃ g A n cc,x8=.pointer (some ⟨g,0,none⟩)/\x9=.int .i64 x/\Aside0 (wx.heap[g]?=some (.cells #[.slice A n cc] 98 (0,0))/\w.heap.size+2 < g/\B3 w wx s k A' d.length c'/\(x=0->n=plan.length/\wx.ownsRow w.heap.size 3 1 (.slice A n cc) plan.length (plan.map (Value.int .i64)))))
 case first =>
  have H1':=Aside0.mk (show B3 w ((((w.alloc (.cells #[.pointer (some ⟨s,0,none⟩)] 59)).alloc (.cells #[.string k] 9)).alloc (.cells #[.slice A' d.length c'] 36)).alloc (.cells #[.slice none 0 0] 98)).drew s k A' d.length c' from (H0.out.step (below_alloc (Below.refl _ _) _)).step (below_drew1 (Below.refl _ _)))
  have HZ:=Aside0.mk (show ((((w.alloc (.cells #[.pointer (some ⟨s,0,none⟩)] 59)).alloc (.cells #[.string k] 9)).alloc (.cells #[.slice A' d.length c'] 36)).alloc (.cells #[.slice none 0 0] 98)).drew.heap[w.heap.size+1+1+1]?=some (.cells #[.slice none 0 0] 98 (0,0)) by
   have h9:=heap_alloc_new (((w.alloc (.cells #[.pointer (some ⟨s,0,none⟩)] 59)).alloc (.cells #[.string k] 9)).alloc (.cells #[.slice A' d.length c'] 36)) (.cells #[.slice none 0 0] 98)
   rw [hsz,hsz,hsz] at h9
   exact h9)
  go_region_held3 (fun W=>W.cell? ⟨w.heap.size,0,none⟩=some (.pointer (some ⟨s,0,none⟩))/\W.cell? ⟨w.heap.size+1,0,none⟩=some (.string k)/\W.cell? ⟨w.heap.size+1+1,0,none⟩=some (.slice A' d.length c')/\W.cell? ⟨s,0,none⟩=some (.pointer (some ⟨c,0,none⟩))) (first|with_reducible exact HA0.out _ H2.out|with_reducible exact HA0.out _ (H2.out.step (below_alloc (Below.refl _ _) _))|with_reducible exact HA0.out _ (H2.out.set (Nat.lt_succ_self _) _)|with_reducible exact HA0.out _ H1.out|with_reducible exact HA0.out _ H1'.out) (first|(go_at_call 90;go_loud (refine (HP.out _ H1.out.bl).mono ?_;rintro e2 w2 ⟨⟨A2,n2,c2,rfl,h2⟩,hb2⟩;have H2:=Aside0.mk (H1.out.step hb2);have HV2:=Aside0.mk h2;clear hb2 h2))|(go_at_call 90;go_loud (refine (HP.out _ H1'.out.bl).mono ?_;rintro e2 w2 ⟨⟨A2,n2,c2,rfl,h2⟩,hb2⟩;have H2:=Aside0.mk (H1'.out.step hb2);have HV2:=Aside0.mk h2;have hz:=(hb2.block _ (blk_lt HZ.out)).trans HZ.out;have HZ2:=Aside0.mk hz;have z0:w2.cell? ⟨w.heap.size+1+1+1,0,none⟩=some (.slice none 0 0):=(by simp [World.cell?,hz]);have z1:w2.frozen? ⟨w.heap.size+1+1+1,0,none⟩=false:=(by simp [World.frozen?,hz]);clear hz hb2 h2)))
  all_goals (go_wp2;go_meet)
  ·refine ⟨w2.heap.size,A2,n2,c2,rfl,rfl,⟨heap_alloc_new w2 _,blk_lt H2.out.xd,H2.out.step (below_alloc (Below.refl _ _) _),fun e=>?_⟩⟩
   obtain ⟨h1,h2⟩:=HV2.out e
   exact ⟨h1,ownsRow_base_a (own_move h2 (fun k hk=>(below_alloc (Below.refl _ _) _).block k (own_lt h2 k hk))) H1.out.bl.size⟩
  ·have hg2:Gs (fun k=>k=w.heap.size+1+1+1) w2 (w2.setCell ⟨w.heap.size+1+1+1,0,none⟩ (.slice A2 n2 c2)):=(Gs.refl (fun k=>k=w.heap.size+1+1+1) w2).set (.inr rfl) 0 _
   refine ⟨w.heap.size+1+1+1,A2,n2,c2,rfl,rfl,⟨set_cells HZ2.out 0 _,Nat.lt_succ_self _,H2.out.set (Nat.lt_succ_self _) _,fun e=>?_⟩⟩
   obtain ⟨h1,h2⟩:=HV2.out e
   refine ⟨h1,ownsRow_base_a (own_move h2 (fun k hk=>hg2.block k (own_lt h2 k hk) (fun e=>?_))) H1'.out.bl.size⟩
   subst e
   obtain ⟨cells,h3⟩:=own_typed h2 _ hk
   rw [HZ2.out] at h3
   cases h3
 case rest =>
  obtain ⟨g,A,n,cc,rfl,rfl,HK⟩:=hcut
  by_cases hx0:x=0
  ·subst hx0
   obtain ⟨hgx,hge,hb3,hpl⟩:=HK.out
   obtain ⟨rfl,hown⟩:=hpl rfl
   have hb4:=hb3.step (below_drew1 (Below.refl _ _))
   have HB4:=Aside0.mk hb4
   obtain ⟨k0,_,_,_⟩:=HA0.out _ hb4
   obtain ⟨WF,hWF⟩:∃ q,(wc.alloc (.cells #[.func (.func 94) #[.pointer (some ⟨s,0,none⟩)] #[],.func (.func 91) #[] #[.pointer (some ⟨w.heap.size,0,none⟩),.pointer (some ⟨g,0,none⟩),.pointer (some ⟨w.heap.size+1+1,0,none⟩)],.func (.func 95) #[] #[.pointer (some ⟨w.heap.size,0,none⟩),.pointer (some ⟨w.heap.size+1,0,none⟩),.pointer (some ⟨w.heap.size+1+1,0,none⟩),.pointer (some ⟨g,0,none⟩)]] 101)).drew=q:=⟨_,rfl⟩
   have hbW:Below wc.heap.size wc WF:=by rw [<- hWF];exact below_drew1 (below_alloc (Below.refl _ _) _)
   have hfn:WF.heap[wc.heap.size]?=some (.cells #[.func (.func 94) #[.pointer (some ⟨s,0,none⟩)] #[],.func (.func 91) #[] #[.pointer (some ⟨w.heap.size,0,none⟩),.pointer (some ⟨g,0,none⟩),.pointer (some ⟨w.heap.size+1+1,0,none⟩)],.func (.func 95) #[] #[.pointer (some ⟨w.heap.size,0,none⟩),.pointer (some ⟨w.heap.size+1,0,none⟩),.pointer (some ⟨w.heap.size+1+1,0,none⟩),.pointer (some ⟨g,0,none⟩)]] 101 (0,0)):=by rw [<- hWF];exact heap_alloc_new wc _
   have hb9:=below_step hb3.bl hbW
   have hB9:=hb3.step hbW
   have hR:=put_run (bs:=w.heap.size) (bk:=w.heap.size+1) (bd:=w.heap.size+1+1) (bp:=g) (g:=wc.heap.size) (base:=w.heap.size) (HH.out.1.below hb9) HH.out.2.1 HH.out.2.2.1 (HH.out.2.2.2.1.fr (Fr.of_below hb9)) HH.out.2.2.2.2.1 HH.out.2.2.2.2.2.1 HH.out.2.2.2.2.2.2.1 HH.out.2.2.2.2.2.2.2.1 HH.out.2.2.2.2.2.2.2.2.2.1 HH.out.2.2.2.2.2.2.2.2.2.2.1 ⟨hB9.xs,(hbW.block _ (blk_lt hgx)).trans hgx,hB9.xd⟩ hB9.xk (own_move hown (fun k hk=>hbW.block k (own_lt hown k hk))) hfn
   rw [HH.out.2.2.2.2.2.2.2.2.2.2.2] at hR
   have k9:=(HA0.out _ hB9).1
   rw [<- hWF] at hR hb9 k9
   have HR:=Aside0.mk (And.intro hR (And.intro hb9 k9))
   have k_ne:w.heap.size≠s:=fun e=>by have:=blk_lt HH.out.1.sb.box;omega
   clear hgx hown hb3 hb4 hR hbW hb9 hB9 hge HK k9 hWF hfn
   go_upto_region 8 with (fail)
   go_region_held3 (fun W=>W.cell? ⟨w.heap.size,0,none⟩=some (.pointer (some ⟨s,0,none⟩))) (first|with_reducible exact k0|with_reducible exact HR.out.2.2|with_reducible exact H5.out.2|with_reducible exact H6.out.2) (first|(go_at_call 93;go_loud (refine (HEN.out.1 0 (by decide)).mono ?_;rintro e6 w6 ⟨rfl,hbx6,hg6⟩;have H6:=Aside0.mk (And.intro (HEN.out.2 w6 hbx6 hg6) (cell_gs hg6 H5.out.2 k_ne));clear hbx6 hg6))|(go_at_call 36;go_loud (refine HR.out.1.mono ?_;rintro e5 w5 ⟨rfl,h5⟩;obtain ⟨ar9,ba9,ct9,hbx9,hto9⟩:=h5.boxed;have HEN:=Aside0.mk (And.intro (end_st hbx9) hto9);have H5:=Aside0.mk (And.intro h5 (put_cell HH.out.1 HR.out.2.1 h5 HR.out.2.2));clear h5 hbx9 hto9)))
   all_goals
    go_wp2
    go_ret
    exact ⟨rfl,H6.out.1.below HR.out.2.1⟩
  ·have hd:(x == 0)=false:=by simp [hx0]
   have hd2:decide (x=0)=false:=by simp [hx0]
   go_wp2
   go_ret
   exact ⟨rfl,by rw [HH.out.2.2.2.2.2.2.2.2.1.2 hx0];exact PutR.same HH.out.1 HK.out.2.2.1.bl⟩
theorem cput_ok2 (h:St B w s c b1 b2 a f K M Z T L O Q Tk E ar ba ct p) (hg:Geo K M Z T L O) (k:ByteArray) {d:List Int} {vd:Value} (hd:Im B w vd d) (hdb:byteL d) (hdl:d.length<=1000) (hep:p.ep+1<=1000) (hT:Tk+2000<=1000000) :
  Calls Tryz.prog 62 #[.pointer (some ⟨s,0,none⟩),.string k,vd] w fun e w'=>e=.returned (.int .i64 (putP (K*Z) T O p k d).2)/\PutR B w w' s c b1 b2 a f K M Z T L O Q Tk (putP (K*Z) T O p k d).1:=by
 cases hk:okK k with
 | true=>exact cput_good h hg hk hd hdb hdl hep hT
 | false =>
  obtain ⟨A',c',rfl,hc',hC'⟩:=hd.slice
  have e1:putP (K*Z) T O p k d=(p,190):=by unfold putP;rw [if_pos hk]
  rw [e1]
  refine (cput_bad h hk A' d.length c').mono ?_
  rintro e w' ⟨rfl,hb⟩
  exact ⟨rfl,PutR.same h hb⟩
end
end Go.Proofs.YtmmcbncpnlknbaaGreat.Top
