/- TopShape: whatever the geometry, the operations and the number, the law returns true and leaves its arguments as they read. No condition beside the given row. -/
import Derived.Test.YtmmcbncpnlknbaaGreatF43
import Derived.Test.YtmmcbncpnlknbaaGreatRows
import Derived.ProofKit
import Derived.OpenShut
import Derived.ShutString
import Derived.ChangeOld
import Derived.SizedLaws
set_option linter.unusedVariables false
set_option linter.unusedSimpArgs false
namespace Go.Proofs.YtmmcbncpnlknbaaGreat.topShape
open Go.ChangeShapes Go.WideShapes Go.ChangeAt Go.RowKit Go.Proofs.YtmmcbncpnlknbaaGreat.Open Go.Proofs.YtmmcbncpnlknbaaGreat.PAll Go.Proofs.YtmmcbncpnlknbaaGreatW.PrintWords Go.Proofs.YtmmcbncpnlknbaaGreatW.PrintLast Go.Proofs.YtmmcbncpnlknbaaGreat.Top
theorem own:ownKnob Tryz.prog.godebug=none:=by kernel_rfl
theorem laidOut:laidOutB Tryz.prog=true:=by kernel_rfl
theorem list_of6 {α:Type} {l:List α} {a0 a1 a2 a3 a4 a5:α} (hl:l.length=6) (h0:l[0]?=some a0) (h1:l[1]?=some a1) (h2:l[2]?=some a2) (h3:l[3]?=some a3) (h4:l[4]?=some a4) (h5:l[5]?=some a5):l=[a0,a1,a2,a3,a4,a5]:=by
 match l,hl with
 | [_,_,_,_,_,_],_=>simp_all
theorem list_of8 {α:Type} {l:List α} {a0 a1 a2 a3 a4 a5 a6 a7:α} (hl:l.length=8) (h0:l[0]?=some a0) (h1:l[1]?=some a1) (h2:l[2]?=some a2) (h3:l[3]?=some a3) (h4:l[4]?=some a4) (h5:l[5]?=some a5) (h6:l[6]?=some a6) (h7:l[7]?=some a7):l=[a0,a1,a2,a3,a4,a5,a6,a7]:=by
 match l,hl with
 | [_,_,_,_,_,_,_,_],_=>simp_all
theorem byte_wf {x:Int} (h:(Lit.int .u8 x).wf=true):0<=x/\x<=255:=by
 simp [Lit.wf,IntKind.min,IntKind.max,IntKind.signed,IntKind.bits] at h
 exact h
def ok39 (x:S39):Prop:=∀ y ∈ x.f2,(Lit.int .u8 y).wf=true
set_option maxRecDepth 100000 in
theorem opens_T39 {H:Type} {enc:TypeId×Value->H} {w:World} {base:Nat} {spare:Nat->Bool} {held:Bool}:Opens enc Tryz.prog w base spare held 39 k39 ok39:=by
 intro fuel cs x h
 obtain ⟨hl,n,hf⟩:=fields_of Tryz.underlying39 (by kernel_rfl) (by kernel_rfl) h
 obtain ⟨v0,a0,e0,g0,w0⟩:=field_at (j:=0) _ rfl rfl (opens_int Tryz.underlying3) hf
 obtain ⟨v1,a1,e1,g1,w1⟩:=field_at (j:=1) _ rfl rfl (opens_string Tryz.underlying9) hf
 obtain ⟨v2,a2,e2,g2,w2⟩:=field_at (j:=2) _ rfl rfl (opens_slice Tryz.underlying36 (by kernel_rfl) (opens_int Tryz.underlying5) (0:Int)) hf
 obtain ⟨v3,a3,e3,g3,w3⟩:=field_at (j:=3) _ rfl rfl (opens_int Tryz.underlying3) hf
 obtain ⟨v4,a4,e4,g4,w4⟩:=field_at (j:=4) _ rfl rfl (opens_int Tryz.underlying3) hf
 obtain ⟨v5,a5,e5,g5,w5⟩:=field_at (j:=5) _ rfl rfl (opens_int Tryz.underlying3) hf
 obtain ⟨v6,a6,e6,g6,w6⟩:=field_at (j:=6) _ rfl rfl (opens_int Tryz.underlying5) hf
 obtain ⟨v7,a7,e7,g7,w7⟩:=field_at (j:=7) _ rfl rfl (opens_slice Tryz.underlying37 (by kernel_rfl) (opens_slice Tryz.underlying98 (by kernel_rfl) (opens_int Tryz.underlying3) (0:Int)) ([]:List Int)) hf
 obtain rfl:=list_of8 hl e0 e1 e2 e3 e4 e5 e6 e7
 exact ⟨⟨a0,a1,a2,a3,a4,a5,a6,a7⟩,⟨[v0],[v1,v2,v3,v4,v5,v6,v7],rfl,g0,⟨[v1],[v2,v3,v4,v5,v6,v7],rfl,g1,⟨[v2],[v3,v4,v5,v6,v7],rfl,g2,⟨[v3],[v4,v5,v6,v7],rfl,g3,⟨[v4],[v5,v6,v7],rfl,g4,⟨[v5],[v6,v7],rfl,g5,⟨[v6],[v7],rfl,g6,g7⟩⟩⟩⟩⟩⟩⟩,w2⟩
set_option maxRecDepth 100000 in
theorem lifted (os:Os) (started:os.Started) (H:Type) (enc:TypeId×Value->H) :
  ReturnsInHanded {} Tryz.checked os 3 .any (Rows.topShapeSpec.pre6 enc Tryz.prog Tryz.f3 Rows.topShapeRow.domain false) (Rows.topShapeSpec.post enc Tryz.prog Tryz.f3 false true false false):=by
 refine returnsInHanded_of_change_sized (C:=Tryz.checked) own started (by kernel_rfl) Tryz.func3
  (ChangeSpec.witness6 (enc:=enc) (C:=Tryz.checked) false ⟨#[],#[.agg #[.int .i64 0,.int .i64 0,.int .i64 0,.int .i64 0,.int .i64 0,.int .i64 0],.slice none 0 0,.int .i64 0],[]⟩ 8 (by kernel_rfl) (by kernel_rfl) (by kernel_rfl) (by kernel_rfl)) ?_
 intro W base args ds gs before hval0 hW hcnd hsz0 _
 have hval:∀ (j:Nat) t v,Tryz.f3.params[j]?=some t->args[j]?=some v->Value.okWide Tryz.prog W .any base t v:=hval0
 have hW':=hW
 obtain ⟨p,q,hA0,hV,rfl,hfz,hnd⟩:=hW
 have hA:DataW.TrodAll enc Tryz.prog W 0 (fun _=>true) true Tryz.f3.params.toList args.toList ds p:=hA0
 rw [Tryz.params3] at hA hval
 obtain ⟨v0,vs0,d0,ds0,p0,q0,hargs,rfl,rfl,h0,r0⟩:=trodAll_cons hA
 obtain ⟨v1,vs1,d1,ds1,p1,q1,rfl,rfl,rfl,h1,r1⟩:=trodAll_cons r0
 obtain ⟨v2,vs2,d2,ds2,p2,q2,rfl,rfl,rfl,h2,r2⟩:=trodAll_cons r1
 obtain ⟨rfl,rfl,rfl⟩:=trodAll_nil r2
 obtain rfl:args=#[v0,v1,v2]:=by cases args;simp_all
 obtain ⟨rfl,rfl⟩:=trodVars_none hV
 have k0:=h0
 have lt0:∀ x ∈ p0,x.block < W.heap.size:=by obtain ⟨m,hm⟩:=k0;exact DataW.trod_lt m _ _ _ hm
 obtain ⟨cs0,rfl,hsz0⟩:=okWide_struct Tryz.underlying23 (hval 0 23 v0 rfl rfl)
 obtain ⟨fuel0,hf0⟩:=h0
 obtain ⟨hl0,n0,hff0⟩:=fields_of Tryz.underlying23 (by kernel_rfl) (by kernel_rfl) hf0
 obtain ⟨v0_0,x0_0,e0_0,g0_0,w0_0⟩:=field_at (j:=0) _ rfl rfl (opens_int Tryz.underlying3) hff0
 obtain ⟨v0_1,x0_1,e0_1,g0_1,w0_1⟩:=field_at (j:=1) _ rfl rfl (opens_int Tryz.underlying3) hff0
 obtain ⟨v0_2,x0_2,e0_2,g0_2,w0_2⟩:=field_at (j:=2) _ rfl rfl (opens_int Tryz.underlying3) hff0
 obtain ⟨v0_3,x0_3,e0_3,g0_3,w0_3⟩:=field_at (j:=3) _ rfl rfl (opens_int Tryz.underlying3) hff0
 obtain ⟨v0_4,x0_4,e0_4,g0_4,w0_4⟩:=field_at (j:=4) _ rfl rfl (opens_int Tryz.underlying3) hff0
 obtain ⟨v0_5,x0_5,e0_5,g0_5,w0_5⟩:=field_at (j:=5) _ rfl rfl (opens_int Tryz.underlying3) hff0
 obtain ⟨cl0⟩:=cs0
 have hcl0:cl0=[v0_0,v0_1,v0_2,v0_3,v0_4,v0_5]:=list_of6 (by simpa [Value.cells] using hl0) (by simpa [Value.cells] using e0_0) (by simpa [Value.cells] using e0_1) (by simpa [Value.cells] using e0_2) (by simpa [Value.cells] using e0_3) (by simpa [Value.cells] using e0_4) (by simpa [Value.cells] using e0_5)
 subst hcl0
 obtain rfl:v0_0=_:=List.head_eq_of_cons_eq g0_0
 obtain rfl:v0_1=_:=List.head_eq_of_cons_eq g0_1
 obtain rfl:v0_2=_:=List.head_eq_of_cons_eq g0_2
 obtain rfl:v0_3=_:=List.head_eq_of_cons_eq g0_3
 obtain rfl:v0_4=_:=List.head_eq_of_cons_eq g0_4
 obtain rfl:v0_5=_:=List.head_eq_of_cons_eq g0_5
 have k1:=h1
 have lt1:∀ x ∈ p1,x.block < W.heap.size:=by obtain ⟨m,hm⟩:=k1;exact DataW.trod_lt m _ _ _ hm
 obtain ⟨s1,len1,cap1,rfl⟩:=okWide_slice Tryz.underlying24 (hval 1 24 v1 rfl rfl)
 obtain ⟨fuel1,hf1⟩:=h1
 obtain ⟨l1,⟨A1,c1,e1,hc1,hr1⟩,w1⟩:=(opens_slice Tryz.underlying24 (by kernel_rfl) opens_T39 z39) _ _ _ hf1
 simp [Value.cells] at e1
 obtain ⟨rfl,rfl,rfl⟩:=e1
 obtain ⟨a2,rfl,rfl,rfl,w2⟩:=open_int Tryz.underlying3 (hval 2 3 v2 rfl rfl) h2
 clear hA0 hval0 hsz0
 refine (topshape_ok (w:=W) (LayA.of_wf w0_0) (LayA.of_wf w0_1) hr1 (fun x hx y hy=>byte_wf (w1 x hx y hy)) (LayA.of_wf w2)).mono fun e W' ⟨he,bel⟩=>?_
 subst he
 exact ⟨_,rfl,_,_,_,[],_,[],hW',trodAll_mk1 (shut_bool Tryz.underlying4 _),(trodAll_cons_mk (Below.trod laidOut (by kernel_rfl) (of_decide_eq_true (by kernel_rfl)) k0 bel lt0) (trodAll_cons_mk (Below.trod laidOut (by kernel_rfl) (of_decide_eq_true (by kernel_rfl)) k1 bel lt1) (trodAll_cons_mk (shut_int Tryz.underlying3 w2) trodAll_mk0))),rfl,bel.frame _,fun h=>by cases h⟩
theorem over:Rows.topShapeRow.holds Tryz.pinned (OpenSpec.ofChange Rows.topShapeSpec) :=
 OpenClaim.holds_of_wide 3 Tryz.f3 rfl rfl rfl rfl rfl rfl rfl ⟨rfl,rfl,rfl,rfl,rfl⟩ rfl rfl rfl rfl rfl (by kernel_rfl) Tryz.func3 (by kernel_rfl)
  (of_decide_eq_true (by kernel_rfl)) (by unfold Func.isWrapper;first|(rw [if_pos (by decide +kernel)];kernel_rfl)|(rw [if_neg (by decide +kernel)];exact ⟨rfl,rfl⟩))
  (fun os started H enc _=>lifted os started H enc)
end Go.Proofs.YtmmcbncpnlknbaaGreat.topShape
namespace Go.Proofs.YtmmcbncpnlknbaaGreat
theorem topShape_holds:Rows.TopShapeSaid:=topShape.over
#print axioms topShape_holds
end Go.Proofs.YtmmcbncpnlknbaaGreat
