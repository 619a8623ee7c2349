import Derived.Test.YtmmcbncpnlknbaaGreatF11
import Derived.RangeFuncNested
import Derived.RangeFuncBound
import Derived.RangeFuncCalls
import Derived.RangeFuncLeaves
import Derived.RangeFuncBox
import Derived.Shelf.Abstract
import Derived.Shelf.RegionOpenPlain
import Derived.OwnWalkIn
import Derived.TacticsInMore
import Derived.LoopNIn
import Derived.LoopIn
import Derived.Sort.LoopGhostIn
set_option linter.unusedVariables false
set_option linter.unusedSimpArgs false
namespace Go.Proofs.YtmmcbncpnlknbaaGreat.CrcA
open Go.RowKit Go.Proofs.YtmmcbncpnlknbaaGreat.PAll Go.Proofs.YtmmcbncpnlknbaaGreatW.PrintWords Go.Proofs.YtmmcbncpnlknbaaGreatW.PrintLast
def poly:BitVec 32:=0x82F63B78#32
def half (x:BitVec 32):BitVec 32:=(x >>> 1) ^^^ (if x.getLsbD 0 then poly else 0#32)
def half8 (x:BitVec 32):BitVec 32:=half (half (half (half (half (half (half (half x)))))))
def stp (x:BitVec 32) (b:Int):BitVec 32:=half8 (x ^^^ BitVec.ofInt 32 b)
def run (x:BitVec 32) (l:List Int):BitVec 32:=l.foldl stp x
theorem bits_xor (X Y:BitVec 32):Go.bits .xor .u32 (X.toNat:Int) (Y.toNat:Int)=((X ^^^ Y).toNat:Int):=by
 have h:=(X ^^^ Y).isLt
 show IntKind.u32.wrap (((BitVec.ofInt 32 (X.toNat:Int)) ^^^ (BitVec.ofInt 32 (Y.toNat:Int))).toNat:Int)=_
 rw [BitVec.ofInt_natCast,BitVec.ofInt_natCast,BitVec.ofNat_toNat,BitVec.ofNat_toNat,BitVec.setWidth_eq,BitVec.setWidth_eq]
 generalize (X ^^^ Y).toNat=n at *
 simp only [IntKind.wrap,IntKind.signed,IntKind.bits,Bool.false_and,Bool.false_eq_true,if_false]
 omega
theorem bits_and (X Y:BitVec 32):Go.bits .and .u32 (X.toNat:Int) (Y.toNat:Int)=((X &&& Y).toNat:Int):=by
 have h:=(X &&& Y).isLt
 show IntKind.u32.wrap (((BitVec.ofInt 32 (X.toNat:Int)) &&& (BitVec.ofInt 32 (Y.toNat:Int))).toNat:Int)=_
 rw [BitVec.ofInt_natCast,BitVec.ofInt_natCast,BitVec.ofNat_toNat,BitVec.ofNat_toNat,BitVec.setWidth_eq,BitVec.setWidth_eq]
 generalize (X &&& Y).toNat=n at *
 simp only [IntKind.wrap,IntKind.signed,IntKind.bits,Bool.false_and,Bool.false_eq_true,if_false]
 omega
theorem toNat_half (X:BitVec 32):((X.toNat:Int) / (2:Int))=((X >>> 1).toNat:Int):=by
 rw [BitVec.toNat_ushiftRight,Nat.shiftRight_eq_div_pow]
 rfl
theorem and_one (X:BitVec 32):X &&& 1#32=if X.getLsbD 0 then 1#32 else 0#32:=by
 apply BitVec.eq_of_getLsbD_eq
 intro i hi
 by_cases h:i=0
 ·subst h
  rw [BitVec.getLsbD_and]
  cases hx:X.getLsbD 0 <;> simp
 ·cases hx:X.getLsbD 0 <;> simp [h,BitVec.getLsbD_one]
theorem half_crc (X:BitVec 32):(Go.bits .xor .u32 ((X.toNat:Int) / 2) (Go.bits .and .u32 2197175160 ((-(Go.bits .and .u32 (X.toNat:Int) 1)) % 4294967296)))=((half X).toNat:Int):=by
 have h1:=bits_and X 1#32
 rw [show ((1#32).toNat:Int)=1 from rfl] at h1
 rw [toNat_half,h1,and_one]
 unfold half
 cases hx:X.getLsbD 0
 ·have h3:=bits_and poly 0#32
  have h4:=bits_xor (X >>> 1) (poly &&& 0#32)
  rw [<- h3] at h4
  exact h4.trans (by simp)
 ·have h3:=bits_and poly 4294967295#32
  have h4:=bits_xor (X >>> 1) (poly &&& 4294967295#32)
  rw [<- h3] at h4
  exact h4.trans (by rw [show poly &&& 4294967295#32=poly from by decide];rfl)
theorem half_even {X:BitVec 32} (h:X.toNat % 2=0):(half X).toNat=X.toNat / 2:=by
 unfold half
 have hx:X.getLsbD 0=false:=by simpa [BitVec.getLsbD,Nat.testBit_zero] using h
 rw [hx]
 simp [BitVec.toNat_ushiftRight,Nat.shiftRight_eq_div_pow]
theorem half8_even {X:BitVec 32} (h:X.toNat % 256=0):(half8 X).toNat=X.toNat / 256:=by
 unfold half8
 have e1:=half_even (X:=X) (by omega)
 have e2:=half_even (X:=half X) (by omega)
 have e3:=half_even (X:=half (half X)) (by omega)
 have e4:=half_even (X:=half (half (half X))) (by omega)
 have e5:=half_even (X:=half (half (half (half X)))) (by omega)
 have e6:=half_even (X:=half (half (half (half (half X))))) (by omega)
 have e7:=half_even (X:=half (half (half (half (half (half X)))))) (by omega)
 have e8:=half_even (X:=half (half (half (half (half (half (half X))))))) (by omega)
 omega
theorem wrap_in {i:Int} (h0:-9223372036854775808<=i) (h:i<=9223372036854775807):wrap64 i=i:=by unfold wrap64;omega
theorem crc_l1 (l:List Int) (n j:Int) (d:Nat):∀ (i:Int) (X:BitVec 32) (r:Int),i+d=8->0<=i->Ev (fun k=>crc_More.l0 k (((Nat.repeat half d X).toNat:Nat):Int) l n (wrap64 (j+1))) r->Ev (fun k=>crc_More.l1 k (X.toNat:Int) l n j i) r:=by
 induction d with
 | zero =>
  intro i X r h h0 hE
  refine Ev.step (fun k=>?_) hE
  show crc_More.l1 (k+1) _ _ _ _ _=_
  rw [crc_More.l1,if_neg (by omega)];rfl
 | succ d ih =>
  intro i X r h h0 hE
  have e:=half_crc X
  refine Ev.step (f:=fun k=>crc_More.l1 k ((half X).toNat:Int) l n j (i+1)) (fun k=>?_) ?_
  ·show crc_More.l1 (k+1) _ _ _ _ _=_
   rw [crc_More.l1,if_pos (by omega),wrap_in (i:=i+1) (by omega) (by omega),e]
  ·refine ih (i+1) (half X) r (by omega) (by omega) ?_
   rw [show Nat.repeat half d (half X)=Nat.repeat half (d+1) X from ?_]
   ·exact hE
   ·clear hE ih e h
    induction d with
    | zero=>rfl
    | succ d ih2=>show half _=half _;exact congrArg half ih2
theorem ofInt_mod (b:Int):b % 4294967296=((BitVec.ofInt 32 b).toNat:Int):=by
 rw [BitVec.toNat_ofInt]
 have:0<=b % 4294967296:=Int.emod_nonneg _ (by decide)
 show _=(((b % 4294967296).toNat:Nat):Int)
 omega
def inv (X:BitVec 32):BitVec 32:=4294967295#32 ^^^ X
theorem bits_inv (X:BitVec 32):Go.bits .xor .u32 4294967295 (X.toNat:Int)=((inv X).toNat:Int):=bits_xor 4294967295#32 X
theorem drop_rd {l:List Int} {j:Nat} (h:j < l.length):l.drop j=rd l (j:Int) :: l.drop (j+1):=by
 rw [List.drop_eq_getElem_cons h]
 unfold rd
 simp [List.getD_eq_getElem?_getD,h]
def val (S:BitVec 32) (l:List Int):BitVec 32:=inv (run (inv S) l)
theorem and_255 (X:BitVec 32):Go.bits .and .u32 (X.toNat:Int) 255=((X.toNat % 256:Nat):Int):=by
 have h:=bits_and X 255#32
 rw [show ((255#32).toNat:Int)=255 from rfl] at h
 rw [h,BitVec.toNat_and,show (255#32:BitVec 32).toNat=2 ^ 8 - 1 from rfl,Nat.and_two_pow_sub_one_eq_mod]
theorem crc_more (l:List Int) (hl:l.length<=4611686018427387904) (d:Nat):∀ (j:Nat) (X:BitVec 32),j+d=l.length->Ev (fun k=>crc_More.l0 k (X.toNat:Int) l (l.length:Int) (j:Int)) ((inv (run X (l.drop j))).toNat:Int):=by
 induction d with
 | zero =>
  intro j X h
  rw [List.drop_of_length_le (by omega)]
  refine Ev.step (f:=fun _=>some ((inv X).toNat:Int)) (fun k=>?_) (Ev.now _)
  rw [crc_More.l0,if_neg (by omega),bits_inv]
 | succ d ih =>
  intro j X h
  rw [drop_rd (by omega)]
  have hE:=ih (j+1) (stp X (rd l (j:Int))) (by omega)
  by_cases h0:(X ^^^ BitVec.ofInt 32 (rd l (j:Int))).toNat % 256=0
  ·refine Ev.step (f:=fun k=>crc_More.l0 k ((stp X (rd l (j:Int))).toNat:Int) l (l.length:Int) ((j+1:Nat):Int)) (fun k=>?_) hE
   rw [crc_More.l0,if_pos (by omega),if_pos (by omega),if_pos (by omega),ofInt_mod,bits_xor,and_255,if_pos (by omega),wrap_in (i:=(j:Int)+1) (by omega) (by omega)]
   unfold stp
   rw [half8_even h0]
   rfl
  ·refine Ev.step (f:=fun k=>crc_More.l1 k ((X ^^^ BitVec.ofInt 32 (rd l (j:Int))).toNat:Int) l (l.length:Int) (j:Int) 0) (fun k=>?_) ?_
   ·rw [crc_More.l0,if_pos (by omega),if_pos (by omega),if_pos (by omega),ofInt_mod,bits_xor,and_255,if_neg (by omega)]
   ·refine crc_l1 l _ _ 8 0 _ _ (by omega) (by omega) ?_
    rw [wrap_in (i:=(j:Int)+1) (by omega) (by omega)]
    exact hE
theorem crc_More (S:BitVec 32) (l:List Int) (hl:l.length<=4611686018427387904):Ev (fun k=>crc_More.f k (S.toNat:Int) l) ((val S l).toNat:Int):=by
 refine Ev.congr (fun k=>?_) (crc_more l hl l.length 0 (inv S) (by omega))
 unfold crc_More.f
 rw [bits_inv];rfl
theorem crc_Sum (l:List Int) (hl:l.length<=4611686018427387904):Ev (fun k=>crc_Sum.f k l) ((val 0#32 l).toNat:Int):=by
 unfold crc_Sum.f
 exact Ev.bind (crc_More 0#32 l hl) (Ev.now _)
theorem ev_pos {α:Type} {c:Prop} [Decidable c] {f g:Nat->Option α} {r:α} (h:c) (hE:Ev f r):Ev (fun k=>if c then f k else g k) r:=Ev.congr (fun _=>if_pos h) hE
theorem ev_neg {α:Type} {c:Prop} [Decidable c] {f g:Nat->Option α} {r:α} (h:¬ c) (hE:Ev g r):Ev (fun k=>if c then f k else g k) r:=Ev.congr (fun _=>if_neg h) hE
end Go.Proofs.YtmmcbncpnlknbaaGreat.CrcA
namespace Go.Proofs.YtmmcbncpnlknbaaGreat.SecA
open Go.RowKit Go.Proofs.YtmmcbncpnlknbaaGreat.PAll Go.Proofs.YtmmcbncpnlknbaaGreatW.PrintWords Go.Proofs.YtmmcbncpnlknbaaGreatW.PrintLast Go.Proofs.YtmmcbncpnlknbaaGreat.CrcA
theorem ev_eq {α:Type} {g:Nat->Option α} {r r':α} (h:Ev g r) (e:r=r'):Ev g r':=e ▸ h
def Byte (x:Int):Prop:=0<=x/\x<=255
def Bytes (l:List Int):Prop:=∀ x ∈ l,Byte x
def nbr:List Int->Int
 | [a,b,c,d]=>((a*256+b)*256+c)*256+d
 | _=>0
theorem four_of {l:List Int} (h:l.length=4):∃ a b c d,l=[a,b,c,d]:=by
 match l,h with
 | [a,b,c,d],_=>exact ⟨a,b,c,d,rfl⟩
theorem nbr_range {l:List Int} (h:l.length=4) (hb:Bytes l):0<=nbr l/\nbr l<=4294967295:=by
 obtain ⟨a,b,c,d,rfl⟩:=four_of h
 have h1:=hb a (by simp)
 have h2:=hb b (by simp)
 have h3:=hb c (by simp)
 have h4:=hb d (by simp)
 unfold Byte at *
 simp only [nbr]
 omega
theorem nbr_four {n:Int} (h0:0<=n) (h1:n < 4294967296):nbr (fourL n)=n:=by
 simp only [nbr,fourL]
 omega
theorem four_len (n:Int):(fourL n).length=4:=rfl
theorem four_bytes (n:Int):Bytes (fourL n):=by
 intro x hx
 simp only [fourL,List.mem_cons,List.not_mem_nil,or_false] at hx
 unfold Byte
 omega
theorem orr (x y:Int) (h0:0<=x) (h1:x < 16777216) (hy:Byte y):Go.bits .or .u32 ((x*256) % 4294967296) (y % 4294967296)=x*256+y:=by
 unfold Byte at hy
 rw [Int.emod_eq_of_lt (by omega) (by omega),Int.emod_eq_of_lt (by omega) (by omega)]
 exact bits_join .u32 32 (by decide) (fun n h0 h1=>by rw [IntKind.wrap_u32];omega) 8 (x*256) y (by omega) (by omega) (by omega) hy.1 (by omega) (by omega)
theorem number (l:List Int) (h:l.length=4) (hb:Bytes l):Ev (fun k=>sector_number.f k l) (nbr l):=by
 obtain ⟨a,b,c,d,rfl⟩:=four_of h
 have h1:=hb a (by simp)
 have h2:=hb b (by simp)
 have h3:=hb c (by simp)
 have h4:=hb d (by simp)
 have q1:=h1
 have q2:=h2
 have q3:=h3
 have q4:=h4
 unfold Byte at q1 q2 q3 q4
 unfold sector_number.f
 refine Ev.step (fun k=>by rw [sector_number.l0]) (ev_pos (by simp) (ev_pos (by simp) (ev_pos (by simp) ?_)))
 rw [show rd [a,b,c,d] 0=a from rfl,orr 0 a (by omega) (by omega) h1,wrap_in (by omega) (by omega)]
 refine Ev.step (fun k=>by rw [sector_number.l0]) (ev_pos (by simp) (ev_pos (by simp) (ev_pos (by simp) ?_)))
 rw [show rd [a,b,c,d] (0+1)=b from rfl,orr _ b (by omega) (by omega) h2,wrap_in (by omega) (by omega)]
 refine Ev.step (fun k=>by rw [sector_number.l0]) (ev_pos (by simp) (ev_pos (by simp) (ev_pos (by simp) ?_)))
 rw [show rd [a,b,c,d] (0+1+1)=c from rfl,orr _ c (by omega) (by omega) h3,wrap_in (by omega) (by omega)]
 refine Ev.step (fun k=>by rw [sector_number.l0]) (ev_pos (by simp) (ev_pos (by simp) (ev_pos (by simp) ?_)))
 rw [show rd [a,b,c,d] (0+1+1+1)=d from rfl,orr _ d (by omega) (by omega) h4,wrap_in (by omega) (by omega)]
 refine Ev.step (fun k=>by rw [sector_number.l0]) (ev_neg (by simp) (ev_eq (Ev.now _) ?_))
 simp only [nbr]
 omega
theorem bytes_sub {l m:List Int} (h:Bytes l) (hs:∀ x ∈ m,x ∈ l):Bytes m:=fun x hx=>h x (hs x hx)
theorem bytes_take {l:List Int} (h:Bytes l) (n:Nat):Bytes (l.take n):=bytes_sub h fun x hx=>List.mem_of_mem_take hx
theorem bytes_drop {l:List Int} (h:Bytes l) (n:Nat):Bytes (l.drop n):=bytes_sub h fun x hx=>List.mem_of_mem_drop hx
theorem bytes_append {l m:List Int} (h:Bytes l) (h2:Bytes m):Bytes (l ++ m):=fun x hx=>(List.mem_append.1 hx).elim (h x) (h2 x)
def sum (l:List Int):Int:=((val 0#32 l).toNat:Int)
theorem sum_range (l:List Int):0<=sum l/\sum l < 4294967296:=by
 unfold sum
 have:=(val 0#32 l).isLt
 omega
def Num (x:Int):Prop:=0<=x/\x<=2147483647
instance (x:Int):Decidable (Num x):=by unfold Num;infer_instance
def May (a e:Int) (l:List Int):Prop:=Num a/\Num e/\l.length<=4096
instance (a e:Int) (l:List Int):Decidable (May a e l):=by unfold May;infer_instance
def sect (a e:Int) (l:List Int):List Int:=packL a e l ++ fourL (sum (packL a e l))
def packM (a e:Int) (l:List Int):List Int×Int:=if May a e l then (sect a e l,0) else ([],1)
theorem body_len (a e:Int) (l:List Int):(packL a e l).length=8+l.length:=by simp [packL,fourL];omega
theorem sect_len (a e:Int) (l:List Int):(sect a e l).length=12+l.length:=by simp [sect,body_len,four_len];omega
theorem pack (a e:Int) (l:List Int):Ev (fun k=>sector_Pack.f k a e l) (packM a e l):=by
 unfold sector_Pack.f packM
 by_cases h:May a e l
 ·rw [if_pos h]
  have h':=h
  unfold May Num at h'
  refine ev_pos h' (Ev.bind (CrcA.crc_Sum _ (by rw [body_len];omega)) (ev_pos (sum_range _) (Ev.now _)))
 ·rw [if_neg h]
  exact ev_neg (fun h'=>h (by unfold May Num;exact h')) (Ev.now _)
def Is (a:Int) (b:List Int):Prop:=(12<=b.length/\b.length<=4108)/\Num a/\nbr (b.drop (b.length - 4))=sum (b.take (b.length - 4))/\nbr (b.take 4)=a/\nbr ((b.take 8).drop 4)<=2147483647
instance (a:Int) (b:List Int):Decidable (Is a b):=by unfold Is;infer_instance
def unpackM (a:Int) (b:List Int):Int×List Int×Int:=if Is a b then (nbr ((b.take 8).drop 4),(b.take (b.length - 4)).drop 8,0) else (0,[],110)
theorem fits (a:Int):sector_fits.f a=some (decide (Num a)):=by
 unfold sector_fits.f
 by_cases h:a ≥ 0
 ·rw [if_pos h];congr 1;rw [decide_eq_decide];unfold Num;omega
 ·rw [if_neg h];congr 1;symm;rw [decide_eq_false_iff_not];unfold Num;omega
theorem clone (l:List Int) (h:l.length<=5000):bytes_Clone.f l=some l:=by unfold bytes_Clone.f;rw [if_pos (by omega)]
theorem sect_bytes (a e:Int) {l:List Int} (h:Bytes l):Bytes (sect a e l):=bytes_append (bytes_append (four_bytes _) (bytes_append (four_bytes _) h)) (four_bytes _)
theorem sect_take (a e:Int) (l:List Int):(sect a e l).take ((sect a e l).length - 4)=packL a e l:=by
 rw [sect_len,show 12+l.length - 4=(packL a e l).length from by rw [body_len];omega]
 unfold sect
 rw [List.take_left]
theorem sect_drop (a e:Int) (l:List Int):(sect a e l).drop ((sect a e l).length - 4)=fourL (sum (packL a e l)):=by
 rw [sect_len,show 12+l.length - 4=(packL a e l).length from by rw [body_len];omega]
 unfold sect
 rw [List.drop_left]
theorem sect_head (a e:Int) (l:List Int):(sect a e l).take 4=fourL a:=rfl
theorem sect_mid (a e:Int) (l:List Int):((sect a e l).take 8).drop 4=fourL e:=rfl
theorem body_data (a e:Int) (l:List Int):(packL a e l).drop 8=l:=rfl
theorem back {a e:Int} {l:List Int} (h:May a e l):unpackM a (sect a e l)=(e,l,0):=by
 have h':=h
 unfold May Num at h'
 unfold unpackM
 have hs:=sum_range (packL a e l)
 rw [if_pos]
 ·rw [sect_mid,sect_take,body_data,nbr_four (by omega) (by omega)]
 ·refine ⟨by rw [sect_len];omega,h.1,?_,?_,?_⟩
  ·rw [sect_drop,sect_take,nbr_four hs.1 hs.2]
  ·rw [sect_head,nbr_four (by omega) (by omega)]
  ·rw [sect_mid,nbr_four (by omega) (by omega)];omega
end Go.Proofs.YtmmcbncpnlknbaaGreat.SecA
namespace Go.Proofs.YtmmcbncpnlknbaaGreat.Top
open Go Go.RowKit Go.Proofs.YtmmcbncpnlknbaaGreatW.PrintWords Go.Proofs.YtmmcbncpnlknbaaGreatW.PrintLast Go.Proofs.YtmmcbncpnlknbaaGreatW.PrintMore
attribute [local go_sem] Oper.semAt_some
theorem cut3 (ad:Addr) (n c lo Z:Nat) (h:lo+Z<=c) (hZ:1<=Z) (W:World):(Instr.slice 36 (.slice (some ad) n c) (some (.int .i64 lo)) (some (.int .i64 ((lo:Int)+Z))) (some (.int .i64 ((lo:Int)+Z)))).run Tryz.prog W=.ok (.slice (some (ad.add lo)) Z Z) W:=by
 obtain ⟨i0,hi,_,hz1,_⟩:=info_parts (show (Tryz.prog.info? 5).map (fun i=>(i.zero,i.size,i.bytes))=some (some (.int .u8 0),1,1) from by kernel_rfl)
 have hel:Tryz.prog.elem 36=5:=by simp [Program.elem,Tryz.underlying36]
 rw [run_slice_lhm W 36 (some ad) n c (by rw [hel];exact Tryz.underlying36) .i64 .i64 .i64 lo _ _ (by omega) (by omega) (by omega) (by omega),hel]
 have e:((lo:Int)+Z).toNat=lo+Z:=by omega
 simp [sizeOf,typeInfo,hi,hz1,sliced,Result.andThen,e]
 omega
theorem cutL (ad:Addr) (n c lo:Nat) (h:lo<=n):∃ A,∀ W:World,(Instr.slice 36 (.slice (some ad) n c) (some (.int .i64 lo)) none none).run Tryz.prog W=.ok (.slice A (n - lo) (c - lo)) W:=by
 obtain ⟨i0,hi,_,hz1,_⟩:=info_parts (show (Tryz.prog.info? 5).map (fun i=>(i.zero,i.size,i.bytes))=some (some (.int .u8 0),1,1) from by kernel_rfl)
 refine ⟨if c=lo then some ad else (some ad).map (·.add (lo*1)),fun W=>?_⟩
 have h:=cut_from (P:=Tryz.prog) 36 5 .i64 Tryz.underlying36 hi 1 hz1 (some ad) n c (lo:Int) (by omega) (by omega) W
 rw [Int.toNat_natCast] at h
 exact h
theorem grown_drew (w:World):w.grownBy w.drew none:=⟨rfl,rfl,rfl,Nat.le_refl _,fun _ _ _=>rfl⟩
theorem meas4 {k K:Nat} (h:k < K):k+1+(K - (k+1))=K:=by omega
theorem meas5 {k K q:Nat} (h:k < K) (e:k+q=K):K - (k+1) < q:=by omega
def encP (ad:Addr) (Z:Nat) (i:Nat):Array Value:=#[.slice (some (ad.add (i*Z))) Z Z]
set_option maxRecDepth 100000 in
set_option maxHeartbeats 2000000 in
theorem chunk1_in (n:Nat) (hn:1<=n) (l bA bZ:Nat) (ad:Addr) (K Z c:Nat) (hZ:1<=Z) (hK:K*Z<=100000) (hc:K*Z<=c) (J Jx:List Nat->World->Prop)
  (hY:∀ pre x W,J pre W->pre.length < K->YieldAt Fence.wide (n - 1) Tryz.prog l (encP ad Z x) W fun e W' =>
   (e=.returned (.bool true)/\J (pre ++ [x]) W'/\(W'.heap[bA]?=W.heap[bA]?/\W'.heap[bZ]?=W.heap[bZ]?))∨(e=.returned (.bool false)/\Jx (pre ++ [x]) W'))
  (W:World) (hA:W.heap[bA]?=some (.cells #[.slice (some ad) (K*Z) c] 36)) (hBZ:W.heap[bZ]?=some (.cells #[.int .i64 Z] 3)) (h0:J [] W) (hJd:AbidesFrom W.heap.size J) (hJxd:AbidesFrom W.heap.size Jx) :
  CallsIn Fence.wide n Tryz.prog 144 #[.func (.yield l) #[] #[],.pointer (some ⟨bA,0,none⟩),.pointer (some ⟨bZ,0,none⟩)] W fun e W'=>(∃ v,e=.returned v) /\
   ((∃ ys,ys=List.range K/\J ys W')∨(∃ pre,True/\Jx pre W')):=by
 refine callsIn_of_wp Tryz.func144 rfl trivial ?_ rfl
 simp only [Tryz.ntmps144,List.size_toArray,List.length_cons,List.length_nil,Nat.reduceAdd,Nat.reduceSub,Array.replicate_succ,Array.replicate_zero,List.push_toArray,List.append_toArray,List.nil_append,List.cons_append]
 have HK:=Aside0.mk (And.intro hZ (And.intro hK hc))
 clear hZ hK hc
 gi_wp2
 gi_loopg [4] K (fun kq i wr=>∃ k:Nat,k+kq=K/\i=.int .i64 (k*Z:Nat)/\J (List.range k) wr/\wr.heap[bA]?=some (.cells #[.slice (some ad) (K*Z) c] 36)/\wr.heap[bZ]?=some (.cells #[.int .i64 Z] 3))
 case atStart=>exact ⟨0,by omega,by simp,h0,hA,hBZ⟩
 case round =>
  obtain ⟨k,hk,rfl,hJs,hA,hB⟩:=hrel
  have cA:wr.cell? ⟨bA,0,none⟩=some (.slice (some ad) (K*Z) c):=by simp [World.cell?,hA]
  have cB:wr.cell? ⟨bZ,0,none⟩=some (.int .i64 Z):=by simp [World.cell?,hB]
  obtain ⟨n0,hn0⟩:∃ n0,K*Z=n0:=⟨_,rfl⟩
  obtain ⟨lo,hlo⟩:∃ lo,k*Z=lo:=⟨_,rfl⟩
  by_cases hlt:k < K
  ·have hJ2:J (List.range k) wr.drew:=hJd _ _ _ none hJs (grown_drew wr) (fun r e=>by cases e)
   obtain ⟨fn,tmps,assign,body,hy,hR⟩:=hY _ k wr.drew hJ2 (by simpa using hlt)
   have hkz:lo+Z<=n0:=by
    rw [<- hlo,<- hn0,<- Nat.succ_mul]
    exact Nat.mul_le_mul_right Z hlt
   have hlo':(k+1)*Z=lo+Z:=by rw [Nat.succ_mul,hlo]
   unfold encP at hy
   rw [hlo] at hy
   have H:=HK.out
   rw [hn0] at cA H
   rw [hlo]
   have g1:(lo:Int) < (n0:Int):=by omega
   obtain ⟨A1,hL⟩:=cutL ad n0 c lo (by omega)
   have h3:=cut3 ad n0 c lo Z (by omega) H.1
   have gw:wrap64 ((lo:Int)+Z)=(lo:Int)+Z:=w64 _ (by omega)
   have g2:¬ (n0 - lo < Z):=Nat.not_lt.2 (Nat.le_sub_of_add_le (by rw [Nat.add_comm];exact hkz))
   have HH:=Aside0.mk (And.intro hkz (And.intro hlo' (And.intro H (And.intro (show wr.drew.heap[bA]?=_ from hA) (And.intro (show wr.drew.heap[bZ]?=_ from hB) hn0)))))
   clear H hkz hY hlo' hA hB hn0 hlo hJs hJ2
   gi_wp2
   refine wpIn_wide.2 ?_
   go_region_law (fail)
   all_goals
    gi_wp2
    refine hR.mono ?_
    rintro e W3 (⟨rfl,hJ3,hk3,hk4⟩|⟨rfl,hJx3⟩)
    ·have hA3:W3.heap[bA]?=some (.cells #[.slice (some ad) n0 c] 36):=by
      have:=hk3.trans HH.out.2.2.2.1
      rwa [HH.out.2.2.2.2.2] at this
     have dA:W3.cell? ⟨bA,0,none⟩=some (.slice (some ad) n0 c):=by simp [World.cell?,hA3]
     have HA3:=Aside0.mk hA3
     clear hA3
     have dB:W3.cell? ⟨bZ,0,none⟩=some (.int .i64 Z):=by simp [World.cell?,hk4.trans HH.out.2.2.2.2.1]
     gi_wp2
     gi_roundg (K - (k+1))
     case rel=>exact ⟨k+1,meas4 hlt,by rw [HH.out.2.1];simp [gw],by rw [List.range_succ];exact hJ3,by rw [HH.out.2.2.2.2.2];exact HA3.out,hk4.trans HH.out.2.2.2.2.1⟩
     case measure=>exact meas5 hlt hk
    ·gi_wp2
     refine bodyPost_ret (results_none rfl _ _ _) rfl ?_
     exact ⟨⟨_,rfl⟩,.inr ⟨_,trivial,hJx3⟩⟩
  ·obtain rfl:k=K:=by omega
   rw [hn0] at cA
   have e:lo=n0:=hlo.symm.trans hn0
   subst e
   have g1:¬ (lo:Int) < (lo:Int):=by omega
   gi_wp2
   go_end0
   exact ⟨⟨_,rfl⟩,.inl hJs⟩
end Go.Proofs.YtmmcbncpnlknbaaGreat.Top
namespace Go.Proofs.YtmmcbncpnlknbaaGreat.Top
open Go Go.RowKit Go.Proofs.YtmmcbncpnlknbaaGreatW.PrintWords Go.Proofs.YtmmcbncpnlknbaaGreatW.PrintLast Go.Proofs.YtmmcbncpnlknbaaGreatW.PrintMore
structure Sd where
 e:Int
 s:ByteArray
 is:Bool
 no:Bool
def sdC (x:Sd):List Value:=[.int .i64 x.e,.string x.s,.bool x.is,.bool x.no]
def sdL (f:Nat->Sd):Nat->List Value
 | 0=>[]
 | i+1=>sdL f i ++ sdC (f i)
def rdL (dead:Nat->Bool) (E:Nat->Int->List Int) (ad:Int) (i:Nat):List Int:=if dead i=true then [] else E i ad
def sdOf (dead:Nat->Bool) (E:Nat->Int->List Int) (ad:Int) (i:Nat):Sd :=
 ⟨(SecA.unpackM ad (rdL dead E ad i)).1,strOfNums (SecA.unpackM ad (rdL dead E ad i)).2.1,!dead i && ((SecA.unpackM ad (rdL dead E ad i)).2.2 == 0),!dead i && (((rdL dead E ad i).length:Int) == 0)⟩
section
set_option maxRecDepth 100000
section
variable {w:World}
theorem numb_ok {A:Option Addr} {c:Nat} {l:List Int} (hC:Kd.C (Kd.int .u8) w A l.length l) (hc:l.length<=c) (h4:l.length=4) (hb:SecA.Bytes l) (n:Nat) :
  Calls Tryz.prog 175 #[.slice A 4 c] (w.drewN n) fun e w'=>e=.returned (.int .u32 (SecA.nbr l))/\Drawn0 (w.drewN n) w':=by
 obtain ⟨k,hk⟩:=SecA.number l h4 hb
 rw [<- h4]
 exact PAll.sector_number.calls k A c l _ _ (Kd.C_below hC (pw_below_drewN (Below.refl _ _) _)) hc (hk k (Nat.le_refl _))
theorem sums_ok {A:Option Addr} {m c:Nat} {l:List Int} (hC:Kd.C (Kd.int .u8) w A l.length l) (hc:l.length<=c) (hm:l.length=m) (hl:l.length<=5000) (n:Nat) :
  Calls Tryz.prog 116 #[.slice A m c] (w.drewN n) fun e w'=>e=.returned (.int .u32 (SecA.sum l))/\Drawn0 (w.drewN n) w':=by
 obtain ⟨k,hk⟩:=CrcA.crc_Sum l (by omega)
 rw [<- hm]
 exact PAll.crc_Sum.calls k A c l _ _ (Kd.C_below hC (pw_below_drewN (Below.refl _ _) _)) hc (hk k (Nat.le_refl _))
theorem mid8 {A:Option Addr} {c:Nat} {l:List Int} (hC:Kd.C (Kd.int .u8) w A l.length l) (hc:l.length<=c) {a b:Nat} (hab:a<=b) (hbl:b<=l.length) :
  ∃ A',(∀ W,(Instr.slice 36 (.slice A l.length c) (some (.int .i64 a)) (some (.int .i64 b)) none).run Tryz.prog W=.ok (.slice A' (b - a) (c - a)) W)/\Kd.C (Kd.int .u8) w A' ((l.take b).drop a).length ((l.take b).drop a)/\((l.take b).drop a).length=b - a:=by
 obtain ⟨i0,hi,_,hz1,_⟩:=info_parts PAll.info5
 obtain ⟨A1,s1,r1,_⟩:=print_mid_of (P:=Tryz.prog) (Value.int .u8) (0:Int) 36 5 .i64 .i64 Tryz.underlying36 hi hz1 A c l a b (by omega) (by omega) (by omega) hc
 have hl:((l.take b).drop a).length=b - a:=by rw [List.length_drop,List.length_take];omega
 simp only [Int.toNat_natCast,hl] at s1 r1
 exact ⟨A1,s1,Kd.C_of_reads (h1:=fun _=>rfl) (by rw [hl];exact r1 w (Kd.reads_of_C hC)),hl⟩
theorem low8 {A:Option Addr} {c:Nat} {l:List Int} (hC:Kd.C (Kd.int .u8) w A l.length l) (hc:l.length<=c) {a:Nat} (hbl:a<=l.length) :
  ∃ A',(∀ W,(Instr.slice 36 (.slice A l.length c) (some (.int .i64 a)) none none).run Tryz.prog W=.ok (.slice A' (l.length - a) (c - a)) W)/\Kd.C (Kd.int .u8) w A' (l.drop a).length (l.drop a):=by
 obtain ⟨i0,hi,_,hz1,_⟩:=info_parts PAll.info5
 obtain ⟨A1,s1,r1,_⟩:=print_drop_of (P:=Tryz.prog) (Value.int .u8) (0:Int) 36 5 .i64 Tryz.underlying36 hi hz1 A c l a (by omega) (by omega) hc
 simp only [Int.toNat_natCast,List.length_drop] at s1 r1
 exact ⟨A1,s1,Kd.C_of_reads (h1:=fun _=>rfl) (by rw [List.length_drop];exact r1 w (Kd.reads_of_C hC))⟩
theorem top8 {A:Option Addr} {c:Nat} {l:List Int} (hC:Kd.C (Kd.int .u8) w A l.length l) (hc:l.length<=c) {a:Nat} (hbl:a<=l.length) :
  (∀ W,(Instr.slice 36 (.slice A l.length c) none (some (.int .i64 a)) none).run Tryz.prog W=.ok (.slice A a c) W)/\Kd.C (Kd.int .u8) w A (l.take a).length (l.take a)/\(l.take a).length=a:=by
 obtain ⟨i0,hi,_,hz1,_⟩:=info_parts PAll.info5
 obtain ⟨s1,r1,_⟩:=print_take_of (P:=Tryz.prog) (Value.int .u8) (0:Int) 36 5 .i64 Tryz.underlying36 hi hz1 A c l a (by omega) (by omega) hc
 have hl:(l.take a).length=a:=by rw [List.length_take];omega
 simp only [Int.toNat_natCast,hl] at s1 r1
 exact ⟨s1,Kd.C_of_reads (h1:=fun _=>rfl) (by rw [hl];exact r1 w (Kd.reads_of_C hC)),hl⟩
set_option maxHeartbeats 2000000 in
theorem unpack_ok (ad:Int) {l:List Int} {v:Value} (hb:SecA.Bytes l) (hl:l.length<=5000) (hv:Bs w v l) :
  Calls Tryz.prog 151 #[.int .i64 ad,v] w fun e w'=>∃ u,e=.returned (.tuple #[.int .i64 (SecA.unpackM ad l).1,u,.int .i64 (SecA.unpackM ad l).2.2])/\Kd.R (Kd.int .u8) 5 w' w.heap.size (fun _=>True) u (SecA.unpackM ad l).2.1/\Below w.heap.size w w':=by
 obtain ⟨A,c,rfl,hc,hC⟩:=hv
 have HP:=Aside0.mk (fun W (h:SecA.unpackM ad l=(0,[],110)) (hb:Below w.heap.size w W)=>show ∃ u,Ending.returned (.tuple #[.int .i64 0,.slice none 0 0,.int .i64 110])=Ending.returned (.tuple #[.int .i64 (SecA.unpackM ad l).1,u,.int .i64 (SecA.unpackM ad l).2.2])/\Kd.R (Kd.int .u8) 5 W w.heap.size (fun _=>True) u (SecA.unpackM ad l).2.1/\Below w.heap.size w W from by rw [h];exact ⟨_,rfl,Kd.R_nil _ _ _ _ _,hb⟩)
 obtain ⟨n,hn⟩:∃ n,l.length=n:=⟨_,rfl⟩
 have gw:wrap64 ((n:Int) - 4)=(n:Int) - 4:=w64 _ (by omega)
 by_cases h1:12<=n/\n<=4108
 ·by_cases h2:SecA.Num ad
  ·have f1:¬ (n:Int) - 4 < 8:=by omega
   have f2:¬ (4104:Int) < (n:Int) - 4:=by omega
   have h2':=h2
   unfold SecA.Num at h2'
   have e4:((n - 4:Nat):Int)=(n:Int) - 4:=by omega
   obtain ⟨A1,s1,r1,k1⟩:=mid8 hC hc (show 4<=8 by omega) (show 8<=l.length by omega)
   obtain ⟨A2,s2,r2⟩:=low8 hC hc (show n - 4<=l.length by omega)
   obtain ⟨s3,r3,k3⟩:=top8 hC hc (show n - 4<=l.length by omega)
   obtain ⟨s4,r4,k4⟩:=top8 hC hc (show 4<=l.length by omega)
   obtain ⟨A5,s5,r5,k5⟩:=mid8 hC hc (show 8<=n - 4 by omega) (show n - 4<=l.length by omega)
   rw [hn] at s1 s2 s3 s4 s5
   rw [e4] at s2 s3 s5
   rw [show n - (n - 4)=4 by omega] at s2
   have hF:=Aside0.mk (fun m=>PAll.sector_fits.calls ad true (w.drewN m) (by rw [SecA.fits,decide_eq_true h2]))
   have hF0:=Aside0.mk (PAll.sector_fits.calls ad true w (by rw [SecA.fits,decide_eq_true h2]))
   have q1:=SecA.bytes_drop (SecA.bytes_take hb 8) 4
   have c1:=fun m=>numb_ok r1 (c:=c - 4) (by omega) k1 q1 m
   have c2:=fun m=>numb_ok r2 (c:=c - (n - 4)) (by rw [List.length_drop];omega) (by rw [List.length_drop];omega) (SecA.bytes_drop hb _) m
   have c3:=fun m=>sums_ok r3 (c:=c) (m:=n - 4) (by omega) k3 (by omega) m
   have c4:=fun m=>numb_ok r4 (c:=c) (by omega) k4 (SecA.bytes_take hb _) m
   have hU:SecA.unpackM ad l=if SecA.nbr (l.drop (l.length - 4))=SecA.sum (l.take (l.length - 4))/\SecA.nbr (l.take 4)=ad/\SecA.nbr ((l.take 8).drop 4)<=2147483647 then (SecA.nbr ((l.take 8).drop 4),(l.take (l.length - 4)).drop 8,0) else (0,[],110):=by
    unfold SecA.unpackM
    by_cases h:SecA.nbr (l.drop (l.length - 4))=SecA.sum (l.take (l.length - 4))/\SecA.nbr (l.take 4)=ad/\SecA.nbr ((l.take 8).drop 4)<=2147483647
    ·rw [if_pos h,if_pos (show SecA.Is ad l from ⟨by omega,h2,h⟩)]
    ·rw [if_neg h,if_neg (fun k:SecA.Is ad l=>h k.2.2)]
   rw [hn] at hU
   replace s1:∀ W,(Instr.slice 36 (.slice A n c) (some (.int .i64 4)) (some (.int .i64 8)) none).run Tryz.prog W=.ok (.slice A1 4 (c - 4)) W:=s1
   replace s4:∀ W,(Instr.slice 36 (.slice A n c) none (some (.int .i64 4)) none).run Tryz.prog W=.ok (.slice A 4 c) W:=s4
   replace s5:∀ W,(Instr.slice 36 (.slice A n c) (some (.int .i64 8)) (some (.int .i64 ((n:Int) - 4))) none).run Tryz.prog W=.ok (.slice A5 (n - 4 - 8) (c - 8)) W:=s5
   have n1:=SecA.nbr_range k1 q1
   have hm:ad % 4294967296=ad:=Int.emod_eq_of_lt (by omega) (by omega)
   have HR5:=Aside0.mk (And.intro r5 k5)
   generalize SecA.nbr ((l.take 8).drop 4)=x1 at *
   generalize SecA.nbr (l.drop (n - 4))=x2 at *
   generalize SecA.sum (l.take (n - 4))=x3 at *
   generalize SecA.nbr (l.take 4)=x4 at *
   have H1:=Aside0.mk c1
   have H2:=Aside0.mk c2
   have H3:=Aside0.mk c3
   have H4:=Aside0.mk c4
   have HU:=Aside0.mk hU
   rw [hn]
   have HC:=Aside0.mk (And.intro hC (And.intro hc (And.intro hb (And.intro h1 h2'))))
   clear hC hc hb r1 r2 r3 r4 r5 k1 k3 k4 k5 c1 c2 c3 c4 hU q1 e4 h1 h2 h2'
   go_enter Tryz.func151,Tryz.ntmps151
   go_upto_region 5 with (first|(go_at_call 113;go_loud (refine hF0.out.mono ?_;rintro e w1 ⟨rfl,m1,rfl⟩))|(go_at_call 175;go_loud (refine (H1.out _).mono ?_;rintro e w2 ⟨rfl,m2,rfl⟩)))
   have D2:=Aside0.mk (fun m=>show Calls Tryz.prog 175 #[.slice A2 4 (c - (n - 4))] ((w.drewN (m1+m2)).drewN m) fun e w'=>e=.returned (.int .u32 x2)/\Drawn0 ((w.drewN (m1+m2)).drewN m) w' by rw [World.drewN_drewN];exact H2.out _)
   have D3:=Aside0.mk (fun m=>show Calls Tryz.prog 116 #[.slice A (n - 4) c] ((w.drewN (m1+m2)).drewN m) fun e w'=>e=.returned (.int .u32 x3)/\Drawn0 ((w.drewN (m1+m2)).drewN m) w' by rw [World.drewN_drewN];exact H3.out _)
   have D4:=Aside0.mk (fun m=>show Calls Tryz.prog 175 #[.slice A 4 c] ((w.drewN (m1+m2)).drewN m) fun e w'=>e=.returned (.int .u32 x4)/\Drawn0 ((w.drewN (m1+m2)).drewN m) w' by rw [World.drewN_drewN];exact H4.out _)
   have HB:=Aside0.mk (pw_below_drewN (Below.refl w.heap.size w) (m1+m2))
   have HK:=Aside0.mk (fun W (hb:Below w.heap.size w W)=>PAll.bytes_Clone.calls A5 (c - 8) _ _ W (Kd.C_below HR5.out.1 hb) (by rw [HR5.out.2];have:=HC.out.2.1;omega) (SecA.clone _ (by rw [HR5.out.2];omega)))
   rw [HR5.out.2] at HK
   clear H1 H2 H3 H4
   generalize w.drewN (m1+m2)=wq at *
   by_cases p1:x2=x3
   ·have b1:(x2 != x3)=false:=bne_eq_false_iff_eq.mpr p1
    by_cases p2:x4=ad
    ·have b2:(x4 != ad)=false:=bne_eq_false_iff_eq.mpr p2
     by_cases p3:x1<=2147483647
     ·have b3:¬ 2147483647 < x1:=by omega
      have HE:=Aside0.mk (HU.out.trans (if_pos ⟨p1,p2,p3⟩))
      have n2:wrap64 x1=x1:=w64 _ (by omega)
      clear p1 p2 p3
      go_quiet (first|(go_at_call 175;with_reducible exact quiet_drawn D2.out)|(go_at_call 116;with_reducible exact quiet_drawn D3.out)|(go_at_call 175;with_reducible exact quiet_drawn D4.out))
      go_wp2_with (first|(go_at_call 112;go_loud (refine (HK.out _ (below_step HB.out (pw_below_drewN (Below.refl _ _) _))).mono ?_;rintro e w3 ⟨u,rfl,hr,hb3⟩;obtain ⟨A3,c3,rfl⟩:=Kd.R_slice hr;have H3:=Aside0.mk (And.intro hr (below_step (below_step HB.out (pw_below_drewN (Below.refl _ _) _)) hb3));clear hr hb3)))
      go_ret3
      rw [HE.out]
      exact ⟨_,rfl,Kd.R_lower (by have h:=H3.out.1;rw [HR5.out.2] at h;exact h) (below_step HB.out (pw_below_drewN (Below.refl _ _) _)).size,H3.out.2⟩
     ·have b3:2147483647 < x1:=by omega
      have HE:=Aside0.mk (HU.out.trans (if_neg (fun h=>p3 h.2.2)))
      clear p1 p2 p3
      go_quiet (first|(go_at_call 175;with_reducible exact quiet_drawn D2.out)|(go_at_call 116;with_reducible exact quiet_drawn D3.out)|(go_at_call 175;with_reducible exact quiet_drawn D4.out))
      go_wp2
      go_ret3
      exact HP.out _ HE.out (below_step HB.out (pw_below_drewN (Below.refl _ _) _))
    ·have b2:(x4 != ad)=true:=bne_iff_ne.mpr p2
     have HE:=Aside0.mk (HU.out.trans (if_neg (fun h=>p2 h.2.1)))
     clear p1 p2
     go_quiet (first|(go_at_call 175;with_reducible exact quiet_drawn D2.out)|(go_at_call 116;with_reducible exact quiet_drawn D3.out)|(go_at_call 175;with_reducible exact quiet_drawn D4.out))
     go_wp2
     go_ret3
     exact HP.out _ HE.out (below_step HB.out (pw_below_drewN (Below.refl _ _) _))
   ·have b1:(x2 != x3)=true:=bne_iff_ne.mpr p1
    have HE:=Aside0.mk (HU.out.trans (if_neg (fun h=>p1 h.1)))
    clear p1
    go_quiet (first|(go_at_call 175;with_reducible exact quiet_drawn D2.out)|(go_at_call 116;with_reducible exact quiet_drawn D3.out))
    go_wp2
    go_ret3
    exact HP.out _ HE.out (below_step HB.out (pw_below_drewN (Below.refl _ _) _))
  ·have HE:=Aside0.mk (show SecA.unpackM ad l=(0,[],110) by unfold SecA.unpackM;exact if_neg (fun h:SecA.Is ad l=>h2 h.2.1))
   have f1:¬ (n:Int) - 4 < 8:=by omega
   have f2:¬ (4104:Int) < (n:Int) - 4:=by omega
   have hF:=Aside0.mk (PAll.sector_fits.calls ad false w (by rw [SecA.fits,decide_eq_false h2]))
   rw [hn]
   go_enter Tryz.func151,Tryz.ntmps151
   go_wp2_with (first|(go_at_call 113;go_loud (refine hF.out.mono ?_;rintro e w1 ⟨rfl,m1,rfl⟩)))
   go_ret3
   exact HP.out _ HE.out (pw_below_drewN (Below.refl _ _) _)
 ·have HE:=Aside0.mk (show SecA.unpackM ad l=(0,[],110) by unfold SecA.unpackM;exact if_neg (fun h:SecA.Is ad l=>h1 (by have:=h.1;omega)))
  rw [hn]
  rcases (show (n:Int) - 4 < 8∨¬ (n:Int) - 4 < 8/\(4104:Int) < (n:Int) - 4 by omega) with f1|⟨f1,f2⟩
  all_goals (
   go_enter Tryz.func151,Tryz.ntmps151
   go_wp2
   go_ret3
   exact HP.out _ HE.out (Below.refl _ _))
end
end
theorem aread1 {B n T a:Nat} {w:World} {S:Nat->Prop} {sec:Int} {dead:Nat->Bool} {E:Nat->Int->List Int} {cl:Bool} (h:Ax B w a S sec n T dead E cl) (i:Nat) (hi:i < n) (ad:Int) (h0:0<=ad) (h1:ad < sec) :
  Calls Tryz.prog 135 #[.pointer (some ⟨a,0,none⟩),.int .i64 i,.int .i64 ad] w fun e w'=>∃ v,e=.returned (.tuple #[v,.int .i64 (if dead i=true then 120 else 0)])/\Bs w' v (rdL dead E ad i)/\Below w.heap.size w w':=by
 unfold rdL
 cases hd:dead i with
 | true =>
  refine (h.read_dead i hi hd ad).mono ?_
  rintro e w' ⟨rfl,rfl⟩
  exact ⟨_,rfl,Bs.nil _,Below.refl _ _⟩
 | false =>
  refine (h.read i hi hd ad h0 h1).mono ?_
  rintro e w' ⟨v,rfl,hv,hb⟩
  exact ⟨v,rfl,Bs.of_R hv,hb⟩
theorem own_below {w W:World} {base e size n:Nat} {v:Value} {xs:List Value} (h:w.ownsRow base e size v n xs) (hb:Below w.heap.size w W):W.ownsRow base e size v n xs:=own_move h (fun k hk=>hb.block k (own_lt h k hk))
theorem info269:(Tryz.prog.info? 269).map (fun i=>(i.zero,i.size,i.bytes))=some (some (.agg #[.int .i64 0,.string ⟨#[]⟩,.bool false,.bool false]),4,32):=by kernel_rfl
def AskP (w w':World) (v:Value) (n:Nat) (f:Nat->Sd):Prop:=w'.ownsRow w.heap.size 269 4 v n (sdL f n)/\Below w.heap.size w w'
set_option maxRecDepth 100000 in
set_option maxHeartbeats 2000000 in
theorem ask_ok {B n T a:Nat} {w:World} {S:Nat->Prop} {sec:Int} {dead:Nat->Bool} {E:Nat->Int->List Int} {cl:Bool} (h:Ax B w a S sec n T dead E cl) (ad:Int) (h0:0<=ad) (h1:ad < sec) (hb:∀ i,i < n->SecA.Bytes (rdL dead E ad i)) :
  Calls Tryz.prog 164 #[.pointer (some ⟨a,0,none⟩),.int .i64 ad] w fun e w'=>∃ v,e=.returned (.tuple #[v,.int .i64 0])/\AskP w w' v n (sdOf dead E ad):=by
 have HH:=Aside0.mk (And.intro h (And.intro h0 (And.intro h1 hb)))
 have h32:=h.n32
 clear h h0 h1 hb
 go_enter Tryz.func164,Tryz.ntmps164
 go_wp2_with (first|(go_at_call 50;go_loud (refine HH.out.1.live.mono ?_;rintro e1 w1 ⟨v1,rfl,hv1,hb1⟩;obtain ⟨A1,c1,rfl⟩:=Kd.R_slice hv1;rw [List.length_map,List.length_range];have HB1:=Aside0.mk hb1;clear hb1 hv1)))
 go_loopg [18,6] n (fun kq x y wr=>∃ (i:Nat) (v:Value),x=.int .i64 i/\v=y/\i+kq=n/\Aside0 (wr.ownsRow w.heap.size 269 4 v i (sdL (sdOf dead E ad) i)/\Below w.heap.size w wr))
 case atStart=>exact ⟨0,_,rfl,rfl,by omega,⟨World.ownsRow_nil _ _ _ _,HB1.out⟩⟩
 case round =>
  obtain ⟨i,v,rfl,rfl,hik,HX⟩:=hrel
  by_cases hin:i < n
  ·have g1:(i:Int) < (n:Int):=by omega
   have hrd:=aread1 (HH.out.1.below HX.out.2) i hin ad HH.out.2.1 HH.out.2.2.1
   have hlen:(rdL dead E ad i).length<=5000:=by
    unfold rdL
    split
    ·simp
    ·have:=HH.out.1.len i hin ad;omega
   obtain ⟨lr,hlr⟩:∃ lr,rdL dead E ad i=lr:=⟨_,rfl⟩
   have hsd:sdC (sdOf dead E ad i)=[.int .i64 (SecA.unpackM ad lr).1,.string (strOfNums (SecA.unpackM ad lr).2.1),.bool (!dead i && ((SecA.unpackM ad lr).2.2 == 0)),.bool (!dead i && ((lr.length:Int) == 0))]:=by
    unfold sdC sdOf
    rw [hlr]
   have hbi:=HH.out.2.2.2 i hin
   rw [hlr] at hrd hlen hbi
   have hu:=fun (W:World) (u:Value) (hu:Bs W u lr)=>unpack_ok (w:=W) ad hbi hlen hu
   obtain ⟨q,hq⟩:∃ q,SecA.unpackM ad lr=q:=⟨_,rfl⟩
   rw [hq] at hu hsd
   obtain ⟨x1,x2,x3⟩:=q
   have HU:=Aside0.mk hu
   have HR:=Aside0.mk (And.intro hrd hsd)
   clear hrd hsd hbi hlen hlr hq hu
   have gw:wrap64 ((i:Int)+1)=(i:Int)+1:=w64 _ (by omega)
   cases hdd:dead i with
   | true =>
    rw [hdd] at HR
    go_wp2_with (first|((with_reducible refine gate_builtin (b:=.append) (xs:=#[.tmp 38,.tmp 57]) rfl ?_);at_builtin;go_loud (refine print_append_cells (w0:=w) w.heap.size rfl (.tmp 38) (.tmp 57) 263 269 (.agg #[.int .i64 0,.string ⟨#[]⟩,.bool false,.bool false]) 4 32 rfl Tryz.underlying263 info269 rfl (by decide) (by decide) v i (sdL (sdOf dead E ad) i) [.int .i64 x1,.string (strOfNums x2),.bool false,.bool false] rfl rfl rfl (by simp [Value.oneCell']) (own_below (own_below HX.out.1 H1.out.2) H3.out) (below_step (below_step HX.out.2 H1.out.2) H3.out) (Nat.le_trans HX.out.2.size (Nat.le_trans H1.out.2.size H3.out.size)) (by omega) ?_;intro v4 w4 ho4 hb4 hg4 hat4;obtain ⟨A5,n5,c5,rfl⟩:=own_slice ho4;have H4:=Aside0.mk (And.intro ho4 hb4);clear ho4 hb4 hg4 hat4))|(go_at_call 151;go_loud (refine (HU.out _ _ H1.out.1).mono ?_;rintro e2 w3 ⟨u,rfl,hu3,hb3⟩;obtain ⟨A3,c3,rfl⟩:=Kd.R_slice hu3;have hcv:=Kd.C_string (src:=36) (dst:=9) Tryz.underlying36 Tryz.underlying5 Tryz.underlying9 (c:=c3) (Kd.R_reads' hu3).2.2;have H3:=Aside0.mk hb3;clear hu3 hb3))|(go_at_call 135;go_loud (refine HR.out.1.mono ?_;rintro e1 w2 ⟨u2,rfl,hv2,hb2⟩;have hv2':=hv2;obtain ⟨A2,c2,rfl,hc2,hC2⟩:=hv2';clear hc2 hC2;have H1:=Aside0.mk (And.intro hv2 hb2);clear hv2 hb2)))
    go_roundg (n - (i+1))
    case measure=>exact meas5 hin hik
    case rel=>exact ⟨i+1,_,by simp [gw],rfl,meas4 hin,⟨by rw [sdL,HR.out.2];simpa using H4.out.1,H4.out.2⟩⟩
   | false =>
    rw [hdd] at HR
    go_wp2_with (first|((with_reducible refine gate_builtin (b:=.append) (xs:=#[.tmp 38,.tmp 57]) rfl ?_);at_builtin;go_loud (refine print_append_cells (w0:=w) w.heap.size rfl (.tmp 38) (.tmp 57) 263 269 (.agg #[.int .i64 0,.string ⟨#[]⟩,.bool false,.bool false]) 4 32 rfl Tryz.underlying263 info269 rfl (by decide) (by decide) v i (sdL (sdOf dead E ad) i) [.int .i64 x1,.string (strOfNums x2),.bool (x3 == 0),.bool (((lr.length:Int) == 0))] rfl rfl rfl (by simp [Value.oneCell']) (own_below (own_below HX.out.1 H1.out.2) H3.out) (below_step (below_step HX.out.2 H1.out.2) H3.out) (Nat.le_trans HX.out.2.size (Nat.le_trans H1.out.2.size H3.out.size)) (by omega) ?_;intro v4 w4 ho4 hb4 hg4 hat4;obtain ⟨A5,n5,c5,rfl⟩:=own_slice ho4;have H4:=Aside0.mk (And.intro ho4 hb4);clear ho4 hb4 hg4 hat4))|(go_at_call 151;go_loud (refine (HU.out _ _ H1.out.1).mono ?_;rintro e2 w3 ⟨u,rfl,hu3,hb3⟩;obtain ⟨A3,c3,rfl⟩:=Kd.R_slice hu3;have hcv:=Kd.C_string (src:=36) (dst:=9) Tryz.underlying36 Tryz.underlying5 Tryz.underlying9 (c:=c3) (Kd.R_reads' hu3).2.2;have H3:=Aside0.mk hb3;clear hu3 hb3))|(go_at_call 135;go_loud (refine HR.out.1.mono ?_;rintro e1 w2 ⟨u2,rfl,hv2,hb2⟩;have hv2':=hv2;obtain ⟨A2,c2,rfl,hc2,hC2⟩:=hv2';clear hc2 hC2;have H1:=Aside0.mk (And.intro hv2 hb2);clear hv2 hb2)))
    go_roundg (n - (i+1))
    case measure=>exact meas5 hin hik
    case rel=>exact ⟨i+1,_,by simp [gw],rfl,meas4 hin,⟨by rw [sdL,HR.out.2];simpa using H4.out.1,H4.out.2⟩⟩
  ·have g1:¬ (i:Int) < (n:Int):=by omega
   have e1:i=n:=by omega
   subst e1
   go_wp2
   go_ret2
   exact ⟨_,rfl,HX.out⟩
end Go.Proofs.YtmmcbncpnlknbaaGreat.Top
