/-
 What the functions of the law give.
-/
import Derived.Test.YtpchfogcccagjaaGreatC4
set_option linter.unusedSimpArgs false
set_option linter.unusedVariables false
open List renaming mem_of_getElem? → Wa, getElem?_eq_some_iff → V9, getElem?_eq_getElem → Wb, getD_eq_getElem?_getD → Ws, mem_cons_of_mem → W3, findIdx?_eq_some_iff_getElem → Ww, mem_cons_self → WH, getElem?_eq_none → WS, any_eq_false → WY, length_set → Xx, mem_or_eq_of_mem_set → XK, findIdx?_eq_none_iff → Xe, getElem?_zip_eq_some → Xv, getElem?_replicate → XA, length_replicate → XV, length_cons → abv, getElem?_set → afz, ext_getElem → afC
open Bool renaming true_and → WZ, false_and → Xu, and_false → abu
open Int renaming toNat_natCast → WX, eq_ofNat_of_zero_le → XB, le_refl → XS
open Nat renaming add_assoc → W0
open Option renaming bind_some → abw
namespace Go.Pv
theorem jL (x:Int):IntKind.wrap .u64 x=x%18446744073709551616:=by
 show (if (false&&decide (x%(2^64:Int)≥(2^63:Int)))=true then x%(2^64:Int) - (2^64:Int) else x%(2^64:Int))=_;simp only[Bool.false_and,Bool.false_eq_true,if_false,Int.reducePow]
theorem gE {x:Int}(h1:0<=x)(h2:x<18446744073709551616):IntKind.wrap .u64 x=x:=by
 rw[jL];omega
def zz (n:Int):Int:=if 0<=n then 2*n else -2*n - 1
theorem RX {a b:Int}:zz a=zz b↔a=b:=by
 unfold zz;split<;>split<;>omega
theorem r515 (n:Int)(h:eH n):res A aA 515 [.int .i64 n]=some [.int .u64 (zz n)]:=by
 refine aw a515 rfl rfl ?_;simp only[F515,L6];obtain⟨h1,h2⟩:=h;unfold zz;simp(disch:=omega)only[go_sem];refine Br.aJ (λc=>?_) (λc=>?_)
 .have e1:=gE (x:=n) (by omega) (by omega);have e2:=gE (x:=2*n) (by omega) (by omega);simp(disch:=omega)only[go_sem,e1,e2];rw[if_pos c]
 .have e1:=gE (x:=0 - (n+1)) (by omega) (by omega);have e2:=gE (x:=2*(0 - (n+1))) (by omega) (by omega);have e3:=gE (x:=2*(0 - (n+1))+1) (by omega) (by omega);simp(disch:=omega)only[go_sem,e1,e2,e3];rw[if_neg c];congr 3;omega
theorem HD (a b:Int):cB .xor (.pv (.int .u64 a)) (.pv (.int .u64 b))=some (.pv (.int .u64 (IntKind.wrap .u64 (BitVec.ofInt 64 a^^^BitVec.ofInt 64 b).toNat))):=rfl
theorem HE (a:Int):cB .shl (.pv (.int .u64 a)) (.pv (.int .u64 1))=some (.pv (.int .u64 (IntKind.wrap .u64 (a*2)))):=rfl
theorem HF (a:Int):cB .shr (.pv (.int .i64 a)) (.pv (.int .u64 63))=some (.pv (.int .i64 (a.fdiv 9223372036854775808))):=rfl
theorem r520 (n:Int)(h:eH n):res A aA 520 [.int .i64 n]=some [.int .u64 (zz n)]:=by
 refine aw a520 rfl rfl ?_;simp only[F520,Mb];obtain⟨h1,h2⟩:=h;simp(disch:=omega)only[go_sem,HD,HE,HF];congr 3;rw[jL,jL,jL,jL];unfold zz;by_cases c:0<=n
 .have f1:n.fdiv 9223372036854775808=0:=by
   rw[Int.fdiv_eq_ediv_of_nonneg _ (by decide)];omega
  have f2:(n%18446744073709551616*2)%18446744073709551616=2*n:=by omega
  rw[if_pos c,f1,f2];have f3:BitVec.ofInt 64 (0%18446744073709551616)=0#64:=by decide
  rw[f3,BitVec.xor_zero];simp only[BitVec.toNat_ofInt];omega
 .have f1:n.fdiv 9223372036854775808= -1:=by
   rw[Int.fdiv_eq_ediv_of_nonneg _ (by decide)];omega
  have f2:(n%18446744073709551616*2)%18446744073709551616=2*n+18446744073709551616:=by omega
  rw[if_neg c,f1,f2];have f3:BitVec.ofInt 64 (-1%18446744073709551616)=BitVec.allOnes 64:=by decide
  rw[f3,BitVec.xor_allOnes,BitVec.toNat_not];simp only[BitVec.toNat_ofInt];omega
theorem r523 (n:Int):res A aA 523 [.int .u64 n]=some [.bool false]:=by
 refine aw a523 rfl rfl ?_;simp only[F523,Me];simp(disch:=omega)only[go_sem]
theorem r524 (s:ByteArray):res A aA 524 [.str s]=some [.bool false]:=by
 refine aw a524 rfl rfl ?_;simp only[F524,Mf];simp(disch:=omega)only[go_sem]
def strLt (a b:ByteArray):Bool:=Go.Op.bytesLess a.toList b.toList
@[go_sem] theorem Pe (a b:ByteArray):cB .lss (.pv (.str a)) (.pv (.str b))=some (.pv (.bool (strLt a b))):=rfl
@[go_sem] theorem Pf (a b:ByteArray):cB .gtr (.pv (.str a)) (.pv (.str b))=some (.pv (.bool (!(strLt a b||decide (a=b))))):=by simp only[cB,kI,Option.map_some,nY];rfl
theorem yO:∀l:List UInt8,Go.Op.bytesLess l l=false
 |[]=>rfl
 |a::l=>by simp[Go.Op.bytesLess,yO l]
theorem C0 (a:ByteArray):strLt a a=false:=yO _
def yP (a b:ByteArray):Int:=if strLt a b=true then -1 else if a=b then 0 else 1
theorem r519 (a b:Int):res A aA 519 [.int .u64 a,.int .u64 b]=some [.int .i64 (abU a b)]:=by
 refine aw a519 rfl rfl ?_;simp only[F519,Ma];have h1:=r523 a;have h2:=r523 b;unfold abU;simp(disch:=omega)only[go_sem,h1,h2];refine Br.aJ (λc=>?_) (λc=>?_)
 .simp(disch:=omega)only[go_sem];rw[if_pos c]
 .simp(disch:=omega)only[go_sem];refine Br.aJ (λd=>?_) (λd=>?_)
  .simp(disch:=omega)only[go_sem];rw[if_neg c,if_pos d]
  .simp(disch:=omega)only[go_sem];rw[if_neg c,if_neg d]
theorem r521 (a b:ByteArray):res A aA 521 [.str a,.str b]=some [.int .i64 (yP a b)]:=by
 refine aw a521 rfl rfl ?_;simp only[F521,Mc];have h1:=r524 a;have h2:=r524 b;unfold yP;cases hs:strLt a b with
 |true=>simp(disch:=omega)only[go_sem,h1,h2,hs,if_true]
 |false=>
  by_cases he:a=b
  .have e:decide (a=b)=true:=decide_eq_true he;simp(disch:=omega)only[go_sem,h1,h2,hs,e,Bool.or_true,Bool.not_true];rw[if_pos he]
  .have e:decide (a=b)=false:=decide_eq_false he;simp(disch:=omega)only[go_sem,h1,h2,hs,e,Bool.or_false,Bool.not_false];rw[if_neg he]
def AE (l e:Bool):Int:=if e=true then 0 else if l=true then -1 else 1
theorem r514 (l e:Bool):res A aA 514 [.bool l,.bool e]=some [.int .i64 (AE l e)]:=by
 refine aw a514 rfl rfl ?_;simp only[F514,L5];cases e<;>cases l<;>simp(disch:=omega)only[go_sem]<;>rfl
def lC (a b:dz):Int:=if a.kind≠b.kind then 0 else
 if a.kind=1 then (if a.bool=b.bool then 0 else if b.bool=true then -1 else 1)
 else if a.kind=2 then abU (zz a.int) (zz b.int)
 else if a.kind=3 then E7 [abU a.str.size b.str.size,yP a.str b.str]
 else if a.kind=4 then abU a.id b.id else 0
set_option maxHeartbeats 2000000 in
theorem r513 (a b:dz)(ha:eH a.int)(hb:eH b.int)(has:bC a.str)(hbs:bC b.str):res A aA 513 [.agg a.c,.agg b.c]=some [.int .i64 (lC a b)]:=by
 refine aw a513 rfl rfl ?_;simp only[F513,L4,dz.c];unfold bC at has hbs;have h1:=r520 a.int ha;have h2:=r520 b.int hb;have h3:=r519 (zz a.int) (zz b.int);have h4:=r60 (Pr:=aA) (by kernel_rfl) (a.str.size:Int) (b.str.size:Int);have h5:=r521 a.str b.str;have h6:=λt=>r59 (Pr:=aA) t [abU a.str.size b.str.size,yP a.str b.str] (by simp);have h7:=r60 (Pr:=aA) (by kernel_rfl) a.id b.id;unfold lC;by_cases c0:a.kind=b.kind
 .have e0:decide (a.kind=b.kind)=true:=decide_eq_true c0;rw[if_neg (by simpa using c0)];by_cases c1:a.kind=1
  .have e1:decide (a.kind=1)=true:=decide_eq_true c1;rw[if_pos c1];have b1:decide (true=false)=false:=rfl;have b2:decide (false=true)=false:=rfl;cases hab:a.bool<;>cases hbb:b.bool<;>simp(disch:=omega)only[go_sem,e0,e1,hab,hbb,b1,b2]<;>rfl
  .have e1:decide (a.kind=1)=false:=decide_eq_false c1;rw[if_neg c1];by_cases c2:a.kind=2
   .have e2:decide (a.kind=2)=true:=decide_eq_true c2;rw[if_pos c2];simp(disch:=omega)only[go_sem,e0,e1,e2,h1,h2,h3]
   .have e2:decide (a.kind=2)=false:=decide_eq_false c2;rw[if_neg c2];by_cases c3:a.kind=3
    .have e3:decide (a.kind=3)=true:=decide_eq_true c3;rw[if_pos c3];have hi:ints [abU a.str.size b.str.size,yP a.str b.str]=[[.int .i64 (abU a.str.size b.str.size)],[.int .i64 (yP a.str b.str)]]:=rfl;rw[hi]at h6;simp(disch:=omega)only[go_sem,e0,e1,e2,e3,h4,h5,h6]
    .have e3:decide (a.kind=3)=false:=decide_eq_false c3;rw[if_neg c3];by_cases c4:a.kind=4
     .have e4:decide (a.kind=4)=true:=decide_eq_true c4;rw[if_pos c4];simp(disch:=omega)only[go_sem,e0,e1,e2,e3,e4,h7]
     .have e4:decide (a.kind=4)=false:=decide_eq_false c4;rw[if_neg c4];simp(disch:=omega)only[go_sem,e0,e1,e2,e3,e4]
 .have e0:decide (a.kind=b.kind)=false:=decide_eq_false c0;rw[if_pos c0];simp(disch:=omega)only[go_sem,e0]
theorem BU (x y:Int):E7 [x,y]=if x=0 then y else x:=by
 by_cases h:x=0
 .rw[if_pos h];subst h;by_cases g:y=0
  .subst g;rfl
  .simp[E7,g]
 .rw[if_neg h];simp[E7,h]
theorem UQ (a b:ByteArray):AE (strLt a b) (decide (a=b))=yP a b:=by
 unfold AE yP;by_cases h:a=b
 .subst h;rw[C0];simp
 .simp[h]
theorem RY (a b:Int):AE (decide (a<b)) (decide (a=b))=abU a b:=by
 unfold AE abU;simp only[decide_eq_true_eq];by_cases h:a=b
 .rw[if_pos h,if_neg (by omega),if_neg (by omega)]
 .rw[if_neg h];by_cases g:a<b
  .rw[if_pos g,if_pos g]
  .rw[if_neg g,if_neg g,if_pos (by omega)]
set_option maxHeartbeats 2000000 in
theorem r509 (a b:dz)(ha:eH a.int)(hb:eH b.int)(has:bC a.str)(hbs:bC b.str):res A aA 509 [.agg a.c,.agg b.c]=some [.int .i64 (lC a b)]:=by
 refine aw a509 rfl rfl ?_;simp only[F509,LY,dz.c];unfold bC at has hbs;have h1:=r515 a.int ha;have h2:=r515 b.int hb;unfold lC;by_cases c0:a.kind=b.kind
 .have e0:decide (a.kind=b.kind)=true:=decide_eq_true c0;rw[if_neg (by simpa using c0)];by_cases c1:a.kind=1
  .have e1:decide (a.kind=1)=true:=decide_eq_true c1;rw[if_pos c1];have h3:=r514 b.bool (decide (a.bool=b.bool));simp(disch:=omega)only[go_sem,e0,e1,h3];unfold AE;cases a.bool<;>cases b.bool<;>rfl
  .have e1:decide (a.kind=1)=false:=decide_eq_false c1;rw[if_neg c1];by_cases c2:a.kind=2
   .have e2:decide (a.kind=2)=true:=decide_eq_true c2;rw[if_pos c2];have h3:=r514 (decide (zz a.int<zz b.int)) (decide (a.int=b.int));simp(disch:=omega)only[go_sem,e0,e1,e2,h1,h2,h3];unfold AE abU;simp only[decide_eq_true_eq];have:=RX (a:=a.int) (b:=b.int);congr 3;by_cases d:a.int=b.int
    .rw[if_pos d,d,if_neg (by omega),if_neg (by omega)]
    .rw[if_neg d];have d2:zz a.int≠zz b.int:=λe=>d (this.1 e);split
     .rfl
     .rw[if_pos (by omega)]
   .have e2:decide (a.kind=2)=false:=decide_eq_false c2;rw[if_neg c2];by_cases c3:a.kind=3
    .have e3:decide (a.kind=3)=true:=decide_eq_true c3;rw[if_pos c3];by_cases d:(a.str.size:Int)=(b.str.size:Int)
     .have d1:decide ((a.str.size:Int)=(b.str.size:Int))=true:=decide_eq_true d;have h3:=r514 (strLt a.str b.str) (decide (a.str=b.str));simp(disch:=omega)only[go_sem,e0,e1,e2,e3,d1,h3];have d2:abU a.str.size b.str.size=0:=by
       unfold abU;rw[if_neg (by omega),if_neg (by omega)]
      rw[BU,if_pos d2,UQ]
     .have d1:decide ((a.str.size:Int)=(b.str.size:Int))=false:=decide_eq_false d;have h3:=r514 (decide ((a.str.size:Int)<(b.str.size:Int))) false;simp(disch:=omega)only[go_sem,e0,e1,e2,e3,d1,h3];have d2:abU a.str.size b.str.size≠0:=by
       unfold abU;split
       .decide
       .rw[if_pos (by omega)];decide
      rw[BU,if_neg d2,<- RY,d1]
    .have e3:decide (a.kind=3)=false:=decide_eq_false c3;rw[if_neg c3];by_cases c4:a.kind=4
     .have e4:decide (a.kind=4)=true:=decide_eq_true c4;rw[if_pos c4];have h3:=r514 (decide (a.id<b.id)) (decide (a.id=b.id));simp(disch:=omega)only[go_sem,e0,e1,e2,e3,e4,h3];rw[RY]
     .have e4:decide (a.kind=4)=false:=decide_eq_false c4;rw[if_neg c4];simp(disch:=omega)only[go_sem,e0,e1,e2,e3,e4]
 .have e0:decide (a.kind=b.kind)=false:=decide_eq_false c0;rw[if_pos c0];simp(disch:=omega)only[go_sem,e0]
def Fc (v:dz):dz:=⟨v.kind,if v.kind=1 then v.bool else false,if v.kind=2 then v.int else 0,if v.kind=3 then v.str else ⟨#[]⟩,if v.kind=4\/v.kind=6 then v.id else 0,if v.kind=8 then v.keys else [],if 5<=v.kind then v.items else [],if v.kind=5\/v.kind=6 then v.rest else []⟩
theorem nine {k:Int}(h:1<=k/\k<=9):k=1\/k=2\/k=3\/k=4\/k=5\/k=6\/k=7\/k=8\/k=9:=by omega
theorem r516 (v:dz)(hk:1<=v.kind/\v.kind<=9):res A aA 516 [.agg v.c]=some [.agg (Fc v).c]:=by
 refine aw a516 rfl rfl ?_;simp only[F516,L7];obtain⟨kind,bool,int,str,id,keys,items,rest⟩:=v;unfold dz.c Fc;dsimp only at *;rcases nine hk with rfl|rfl|rfl|rfl|rfl|rfl|rfl|rfl|rfl<;>
 .simp(disch:=omega)only[go_sem,decide_true,decide_false,Int.reduceEq,Int.reduceLE,if_true,if_false,or_true,true_or,or_false,false_or]
  try rfl
noncomputable def km (v:dz):Bool:=by
 classical exact decide ((v.kind=1\/v.bool=false)/\(v.kind=2\/v.int=0)/\(v.kind=3\/v.str=⟨#[]⟩)/\(v.kind=4\/v.kind=6\/v.id=0)/\(v.kind=8\/v.keys=[])/\(5<=v.kind\/v.items=[])/\(v.kind=5\/v.kind=6\/v.rest=[]))
set_option maxHeartbeats 4000000 in
theorem r510 (v:dz)(hk:1<=v.kind/\v.kind<=9)(hv:bP v.keys/\bP v.items/\bP v.rest):res A aA 510 [.agg v.c]=some [.bool (km v)]:=by
 refine aw a510 rfl rfl ?_;simp only[F510,LZ];have h1:=r516 v hk;obtain⟨kind,bool,int,str,id,keys,items,rest⟩:=v;unfold dz.c Fc at h1;unfold dz.c;dsimp only at *;unfold km;have l1:((keys.length:Int)=0)=(keys=[]):=by simp
 have l2:((items.length:Int)=0)=(items=[]):=by simp
 have l3:((rest.length:Int)=0)=(rest=[]):=by simp
 rcases nine hk with rfl|rfl|rfl|rfl|rfl|rfl|rfl|rfl|rfl<;>cases bool<;>
 .simp(disch:=omega)only[go_sem,decide_true,decide_false,Int.reduceEq,Int.reduceLE,if_true,if_false,or_true,true_or,or_false,false_or]at h1;simp(disch:=omega)only[go_sem,h1,l1,l2,l3,List.length_nil,Int.reduceEq,Int.reduceLE,List.map_nil,reduceCtorEq,decide_false];clear h1 hk hv
  repeat' (refine Br.aJ (λc=>?_) (λc=>?_)<;>simp(disch:=omega)only[go_sem,c,decide_true,decide_false,reduceCtorEq])
  all_goals first|rfl|(simp;done)|(simp_all;done)
set_option maxHeartbeats 4000000 in
theorem r505 (v:dz)(hk:1<=v.kind/\v.kind<=9)(hv:bP v.keys/\bP v.items/\bP v.rest):res A aA 505 [.agg v.c]=some [.bool (km v)]:=by
 refine aw a505 rfl rfl ?_;simp only[F505,LV];obtain⟨kind,bool,int,str,id,keys,items,rest⟩:=v;unfold dz.c km;dsimp only at *;obtain⟨g1,g2,g3⟩:=hv;unfold bP at g1 g2 g3;rcases nine hk with rfl|rfl|rfl|rfl|rfl|rfl|rfl|rfl|rfl<;>cases bool<;>
 .simp(disch:=omega)only[go_sem,List.length_nil,Int.reduceEq,Int.reduceLE,List.map_nil,List.length_map,reduceCtorEq,decide_false,decide_true];clear hk
  repeat' (refine Br.aJ (λc=>?_) (λc=>?_)<;>simp(disch:=omega)only[go_sem,c,decide_true,decide_false,reduceCtorEq])
  all_goals first|rfl|(simp;done)|(simp_all;done)
theorem ju {α:Type}(l:List α)(f:α->Bool):l.all (λy=>!!f y)=l.all f:=by simp
theorem r508 (u v:Nat)(T:List (List PV))(t:Int)(l:List (List PV))(f:List PV->Bool)(hl:l.length<=2^63 - 1)(hv:∀r∈l,∃w:dz,r=w.c)(h:∀r∈l,res A aA 502 [.agg [.aq u T],.int .i64 t,.agg r,.bool true]=some [.bool (f r)]):res A aA 508 [.agg [.aq u T],.int .i64 t,.aq v l,.bool true]=some [.bool (l.all f)]:=by
 refine aw a508 rfl rfl ?_;simp only[F508,LX];simp(disch:=omega)only[go_sem];refine W.find l (λr=>!f r) (λk=>⟨[(1,.pv (.int .i64 t)),(2,.pv (.aq v l)),(3,.pv (.bool true)),(4,.ptr 4 0),(9,.pv (.int .i64 k))],⟨[(4,[.pv (.aq u T)])],[],[]⟩⟩) rfl (λk x hx hk hfd=>?_) (λhn=>?_)
 .obtain⟨w,rfl⟩:=hv x (Wa hx);have hc:=h w.c (Wa hx);have hfd:=λg=>(hfd g).all;rw[ju]at hfd;generalize f w.c=e at hc hfd |-;unfold dz.c at hc hx;simp(disch:=omega)only[go_sem];refine Br.aJ (λc=>?_) (λc=>(c (by omega)).elim);simp(disch:=omega)only[go_sem,hx,hc];refine Br.of (λg=>?_) (λg=>?_)<;>simp(disch:=omega)only[go_sem]
  .exact bB.of (by rw[g];rfl) rfl
  .rw[hfd (by rw[g];rfl)]
 .have hn:=hn.all;rw[ju]at hn;simp(disch:=omega)only[go_sem];rw[hn]
theorem r518 (u a b c:Nat)(T:List (List PV))(t:Int)(w:dz)(e:Bool)(h:res A aA 503 [.agg [.aq u T],.int .i64 t,.agg w.c,.bool true]=some [.bool e]):res A aA 518 [.agg w.c,.ro a [.aq u T],.ro b [.int .i64 t],.ro c [.bool true]]=some [.bool (!e)]:=by
 refine aw a518 rfl rfl ?_;simp only[F518,L9];unfold dz.c at h |-;simp(disch:=omega)only[go_sem,h]
theorem r522 (u v a b c:Nat)(T:List (List PV))(t:Int)(l:List (List PV))(f:List PV->Bool)(hl:l.length<=2^63 - 1)(hv:∀r∈l,∃w:dz,r=w.c)(h:∀r∈l,res A aA 503 [.agg [.aq u T],.int .i64 t,.agg r,.bool true]=some [.bool (f r)]):res A aA 522 [.aq v l,.func 518 [.ro a [.aq u T],.ro b [.int .i64 t],.ro c [.bool true]]]=some [.int .i64 (bj (λr=>!f r) l)]:=by
 refine aw a522 rfl rfl ?_;simp only[F522,Md];simp(disch:=omega)only[go_sem];refine W.find l (λr=>!f r) (λk=>⟨[(0,.pv (.aq v l)),(1,.pv (.func 518 [.ro a [.aq u T],.ro b [.int .i64 t],.ro c [.bool true]])),(7,.pv (.int .i64 l.length)),(8,.pv (.int .i64 k))],⟨[],[],[]⟩⟩) rfl (λk x hx hk hfd=>?_) (λhn=>?_)
 .obtain⟨w,rfl⟩:=hv x (Wa hx);have hc:=r518 u a b c T t w _ (h w.c (Wa hx));have hfd:=λg=>(hfd g).bj;generalize f w.c=e at hc hfd |-;unfold dz.c at hc hx;simp(disch:=omega)only[go_sem];refine Br.aJ (λc=>?_) (λc=>(c (by omega)).elim);simp(disch:=omega)only[go_sem,hx,hc];refine Br.of (λg=>?_) (λg=>?_)<;>simp(disch:=omega)only[go_sem]
  .exact bB.of (by rw[g];rfl) rfl
  .rw[hfd (by rw[g];rfl)]
 .simp(disch:=omega)only[go_sem];rw[hn.bj]
theorem AF {α:Type}(f:α->Bool)(l:List α):decide (0<=bj (λr=>!f r) l)=!l.all f:=by
 unfold bj;cases h:l.findIdx? (λr=>!f r)with
 |none=>
  have:=Xe.1 h;have h2:l.all f=true:=List.all_eq_true.2 λx hx=>by simpa using this x hx
  simp[h2]
 |some k=>
  obtain⟨hk,h2,_⟩:=Ww.1 h;have h3:l.all f=false:=List.all_eq_false.2 ⟨_,List.getElem_mem hk,by simpa using h2⟩;rw[h3];simp
theorem r512 (u v:Nat)(T:List (List PV))(t:Int)(l:List (List PV))(f:List PV->Bool)(hl:l.length<=2^63 - 1)(hv:∀r∈l,∃w:dz,r=w.c)(h:∀r∈l,res A aA 503 [.agg [.aq u T],.int .i64 t,.agg r,.bool true]=some [.bool (f r)]):res A aA 512 [.agg [.aq u T],.int .i64 t,.aq v l,.bool true]=some [.bool (l.all f)]:=by
 refine aw a512 rfl rfl ?_;simp only[F512,L3];have h517:∀a b c,res A aA 517 [.aq v l,.func 518 [.ro a [.aq u T],.ro b [.int .i64 t],.ro c [.bool true]]]=some [.bool (!l.all f)]:=by
  intro a b c;refine aw a517 rfl rfl ?_;simp only[F517,L8];have h522:=r522 u v a b c T t l f hl hv h;simp(disch:=omega)only[go_sem,h522,AF]
 simp(disch:=omega)only[go_sem,h517,Bool.not_not]
def HG:List PV->List PV->Int
 |[.int _ k,.bool b,.int _ i,.str s,.int _ id,.aq _ ks,.aq _ is,_],[.int _ k',.bool b',.int _ i',.str s',.int _ id',.aq _ ks',.aq _ is',_]=>lC ⟨k,b,i,s,id,ks,is,[]⟩ ⟨k',b',i',s',id',ks',is',[]⟩
 |_,_=>0
theorem oE (a b:dz):HG a.c b.c=lC a b:=rfl
def C1 (l:List (List PV)):Bool:=(l.zip l.tail).all λq=>decide (HG q.1 q.2<0)
def gh (rec:Int->List PV->Bool)(x:aH)(v:dz):Bool:=
 if x.kind=1 then true
 else if x.kind=2 then decide (x.low<=v.int)&&decide (v.int<=x.high)
 else if x.kind=3 then decide ((v.str.size:Int)<=x.max)
 else if x.kind=4 then decide (0<=bj (qQ v.id) x.syms)
 else if x.kind=5 then decide (v.items.length=x.bc.length)&&(x.bc.zip v.items).all λq=>rec q.1.type q.2
 else if x.kind=6 then (match x.bc.find? (qP v.id),v.items with
  |some m,[r]=>rec m.type r
  |_,_=>false)
 else if x.kind=7 then decide ((v.items.length:Int)<=x.max)&&v.items.all (rec x.elem)
 else if x.kind=8 then decide ((v.keys.length:Int)<=x.max)&&(decide (v.items.length=v.keys.length)&&(v.keys.all (rec x.key)&&(v.items.all (rec x.elem)&&C1 v.keys)))
 else decide ((v.items.length:Int)<=1)&&v.items.all (rec x.elem)
noncomputable def fa (T:List aH):Nat->Int->List PV->Bool
 |0,_,_=>false
 |n+1,t,cs=>match cs with
  |[.int _ k,.bool b,.int _ i,.str s,.int _ id,.aq _ ks,.aq _ is,.aq _ rest]=>
   (match (if t<0 then none else T[t.toNat]?)with
   |none=>false
   |some x=>decide (k=x.kind)&&(km ⟨k,b,i,s,id,ks,is,[]⟩&&(rest.isEmpty&&gh (fa T n) x ⟨k,b,i,s,id,ks,is,[]⟩)))
  |_=>false
theorem sU (T : List aH)(n : Nat)(t : Int)(v : dz) : fa T (n + 1) t v.c = (match (if t < 0 then none else T[t.toNat]?) with
   | none => false
   | some x => decide (v.kind = x.kind) && (km {v with rest := []} && (v.rest.isEmpty && gh (fa T n) x {v with rest := []}))) := by
 unfold dz.c;simp only [fa,List.isEmpty_map]
def RZ (T:List aH):Prop:=T.length<=2147483648/\(∀x∈T,x.ok)/\∀x∈T,1<=x.kind/\x.kind<=9
theorem oF {α β:Type}{l:List α}{m:List β}{k:Nat}{q:α×β}(h:(l.zip m)[k]?=some q):l[k]?=some q.1/\m[k]?=some q.2:=by
 rw[Xv]at h;exact h
theorem oG {α β:Type}{l:List α}{m:List β}(h:l.length=m.length):(l.zip m).length=l.length:=by
 rw[List.length_zip];omega
theorem oH {α:Type}(l:List α):(l.zip l.tail).length=l.length - 1:=by
 rw[List.length_zip,List.length_tail];omega
theorem mu.is {n:Nat}{w:dz}(h:mu n w.c):eH w.int/\bC w.str:=by
 cases n with
 |zero=>exact h.elim
 |succ n=>
  obtain⟨v,hv,⟨_,h2,h3,_⟩,_⟩:=h;simp only[dz.c,List.cons.injEq,PV.int.injEq,PV.str.injEq]at hv;obtain⟨_,_,⟨_,e1⟩,e2,_⟩:=hv;rw[e1,e2];exact⟨h2,h3⟩
theorem ko {α:Type}(p:α->Bool)(l:List α):(l.find? p=none/\bj p l= -1)\/∃(k:Nat)(x:α),l.find? p=some x/\l[k]?=some x/\bj p l=k:=by
 unfold bj;cases h:l.findIdx? p with
 |none=>
  left;have:=Xe.1 h;exact⟨List.find?_eq_none.2 λx hx=>by simp[this x hx],rfl⟩
 |some k=>
  right;obtain⟨hk,h1,h2⟩:=Ww.1 h;refine⟨k,l[k],?_,Wb hk,rfl⟩;rw[List.find?_eq_some_iff_getElem];exact⟨h1,k,hk,rfl,λj hj=>by simpa using h2 j hj⟩
theorem R0 (a b c d e f g h:PV):jx 8 0 [[a,b,c,d,e,f,g,h]] (some 0)=some (V.pv (.ro 0 [a,b,c,d,e,f,g,h])):=by rw[gB _ _ _ (by decide)];rfl
theorem r507 (x:aH)(v:Nat):res A aA 507 [.agg x.c,.aq v []]=some [.bool true]:=by
 refine aw a507 rfl rfl ?_;simp only[F507,LW];unfold aH.c;simp(disch:=omega)only[go_sem];refine W.fv 0 (λk=>⟨[(1,.pv (.aq v [])),(2,.ptr 2 0),(5,.pv (.int .i64 k))],⟨[(2,x.c.map .pv)],[],[]⟩⟩) (λ_=>True) rfl trivial λk hk _=>?_;simp(disch:=omega)only[go_sem];refine Br.aJ (λc=>absurd c (by omega)) (λc=>?_);simp(disch:=omega)only[go_sem]
set_option maxHeartbeats 4000000 in
theorem r502 (u:Nat)(T:List aH)(hT:RZ T):∀(n:Nat)(t:Int)(cs:List PV),mu n cs->eH t->res A aA 502 [.agg [.aq u (T.map aH.c)],.int .i64 t,.agg cs,.bool true]=some [.bool (fa T n t cs)]
 |0,_,_,h,_=>h.elim
 |n+1,t,cs,h,ht=>by
  obtain⟨v,rfl,⟨h1,h2,h3,h4⟩,⟨h5,h6,h7⟩,h8,h9,h10⟩:=h;have ih:=r502 u T hT n;rw[sU];obtain⟨ht1,ht2⟩:=ht;have hTl:=hT.1;refine aw a502 rfl rfl ?_;simp only[F502,LS];unfold dz.c;by_cases c0:t<0
  .rw[if_pos c0];have e0:decide (t<0)=true:=decide_eq_true c0;simp(disch:=omega)only[go_sem,e0]
  .rw[if_neg c0];have e0:decide (t<0)=false:=decide_eq_false c0;obtain⟨k,rfl⟩:=XB (by omega:0<=t);rw[WX];by_cases c1:(T.length:Int)<=k
   .rw[WS (by omega)];have e1:decide ((T.length:Int)<=k)=true:=decide_eq_true c1;simp(disch:=omega)only[go_sem,e0,e1]
   .obtain⟨x,hx⟩:=get_some (l:=T) (k:=k) (by omega);have e1:decide ((T.length:Int)<=k)=false:=decide_eq_false c1;have hxm:=Wa hx;have hk:=hT.2.2 x hxm;rw[hx];dsimp only;by_cases ck:v.kind=x.kind
    .have e2:decide (v.kind=x.kind)=true:=decide_eq_true ck;have h505:=r505 v (by omega) ⟨h5,h6,h7⟩;rw[e2,WZ];cases hz:km v with
     |false=>
      rw[hz]at h505;have:(km {v with rest:=[]}&&(v.rest.isEmpty&&gh (fa T n) x {v with rest:=[]}))=false:=by
       cases hr:v.rest with
       |nil=>rw[show ({v with rest:=[]}:dz)=v by rw[<- hr],hz];rfl
       |cons a b=>simp
      rw[this];simp only[dz.c]at h505;simp(disch:=omega)only[go_sem,e0,e1,e2,hx,Option.map_some,aH.c,h505]
     |true=>
      rw[hz]at h505;simp only[dz.c]at h505;cases hr:v.rest with
      |cons a b=>
       rw[hr]at h505;simp only[List.map_cons]at h505;simp(disch:=omega)only[go_sem,e0,e1,e2,hx,Option.map_some,aH.c,h505,hr];refine Br.aJ (λc=>?_) (λc=>absurd (by omega) c);simp(disch:=omega)only[go_sem,e0,e1,e2,hx,Option.map_some,aH.c,h505,hr]
      |nil=>
       rw[hr]at h505;simp only[List.map_nil]at h505;simp(disch:=omega)only[go_sem,e0,e1,e2,hx,Option.map_some,aH.c,h505,hr,List.map_nil];refine Br.aJ (λc=>absurd c (by omega)) (λc=>?_);have hvv:({v with rest:=[]}:dz)=v:=by rw[<- hr]
       rw[hvv,hz]
       try simp only[List.isEmpty_nil,Bool.true_and]
       have hxo:=hT.2.1 x hxm;obtain⟨⟨x1,x2,x3,x4,x5,x6,x7⟩,⟨x8,x9⟩,x10,x11⟩:=hxo;have h393:=r393 x v.id x8;have h391:=r391 x v.id x9;have h507:=r507 x;obtain⟨kind,name,low,high,max,syms,bc,key,elem,jO⟩:=x;have h508:∀(e:Int)(l:List (List PV)),eH e->bP l->(∀r∈l,mu n r)->res A aA 508 [.agg [.aq u (T.map aH.c)],.int .i64 e,.aq 0 l,.bool true]=some [.bool (l.all (fa T n e))]:=λe l he hl hv=>r508 u 0 _ e l (fa T n e) hl (λr hr=>(hv r hr).val) (λr hr=>ih e r (hv r hr) he);dsimp only at *;have hk5:=h508 key v.keys x6 h5 h8;have he6:=h508 elem v.items x7 h6 h9;unfold gh;dsimp only;simp only[aH.c]at h393 h391 h507;rcases nine hk with rfl|rfl|rfl|rfl|rfl|rfl|rfl|rfl|rfl
       .simp(disch:=omega)only[go_sem,aH.c,h505,decide_true,decide_false,Int.reduceEq,if_true,if_false]
       .simp(disch:=omega)only[go_sem,aH.c,h505,decide_true,decide_false,Int.reduceEq,if_true,if_false];refine Br.aJ (λc=>?_) (λc=>?_)<;>simp(disch:=omega)only[go_sem,c,decide_true,decide_false,Bool.true_and,Bool.false_and]
       .simp(disch:=omega)only[go_sem,aH.c,h505,decide_true,decide_false,Int.reduceEq,if_true,if_false]
       .simp(disch:=omega)only[go_sem,aH.c,h505,decide_true,decide_false,Int.reduceEq,if_true,if_false,h393];refine Br.aJ (λc=>?_) (λc=>?_)<;>simp(disch:=omega)only[go_sem,c,decide_true,decide_false];cases jO<;>simp(disch:=omega)only[go_sem,c,decide_false]
       .simp(disch:=omega)only[go_sem,aH.c,h505,decide_true,decide_false,Int.reduceEq,if_true,if_false,h507];refine Br.aJ (λc=>?_) (λc=>?_)<;>simp(disch:=omega)only[go_sem,c,decide_true,decide_false,Bool.true_and,Bool.false_and]
        .have h507:=h507 0;simp(disch:=omega)only[go_sem,h507];have hml:bc.length=v.items.length:=by omega
         have x9':bc.length<=9223372036854775807:=x9;rw[decide_eq_true hml.symm,WZ];refine W.find (bc.zip v.items) (λq=>!fa T n q.1.type q.2) (λk=>⟨[(3,.pv (.bool true)),(4,.ptr 4 0),(6,.ptr 6 0),(9,.ptr 9 0),(12,.pv (.int .i64 k))],⟨[(4,[.pv (.aq u (T.map aH.c))]),(6,[.pv (.int .i64 v.kind),.pv (.bool v.bool),.pv (.int .i64 v.int),.pv (.str v.str),.pv (.int .i64 v.id),.pv (.aq 0 v.keys),.pv (.aq 0 v.items),.pv (.aq 0 [])]),(9,[.pv (.int .i64 5),.pv (.str name),.pv (.int .i64 low),.pv (.int .i64 high),.pv (.int .i64 max),.pv (.aq 0 (syms.map Sym.c)),.pv (.aq 0 (bc.map Mem.c)),.pv (.int .i64 key),.pv (.int .i64 elem),.pv (.bool jO)])],[],[]⟩⟩) rfl (λk q hq hk hfd=>?_) (λhn=>?_)
         .obtain⟨g1,g2⟩:=oF hq;rw[oG hml]at hk;have hm:=x11 q.1 (Wa g1);have hv:=h9 q.2 (Wa g2);have hc:=ih q.1.type q.2 hv hm.2.2.1;have hfd:=λg=>(hfd g).all;rw[ju]at hfd;generalize fa T n q.1.type q.2=e at hc hfd |-;obtain⟨w,hw⟩:=hv.val;rw[hw]at hc g2;unfold dz.c at hc g2;simp(disch:=omega)only[go_sem];refine Br.aJ (λc=>?_) (λc=>(c (by omega)).elim);simp(disch:=omega)only[go_sem,g1,g2,Option.map_some,Mem.c,hc];refine Br.of (λg=>?_) (λg=>?_)<;>simp(disch:=omega)only[go_sem]
          .exact bB.of (by rw[g];rfl) rfl
          .rw[hfd (by rw[g];rfl)]
         .have hn:=hn.all;rw[ju]at hn;rw[oG hml,hn];simp(disch:=omega)only[go_sem,hml]
        .have:decide (v.items.length=bc.length)=false:=decide_eq_false (λe=>c (by rw[e]));rw[this,Xu]
       .simp(disch:=omega)only[go_sem,aH.c,h505,decide_true,decide_false,Int.reduceEq,if_true,if_false,h391];rcases ko (qP v.id) bc with⟨f1,f2⟩|⟨k,m,f1,f2,f3⟩
        .rw[f1];simp(disch:=omega)only[go_sem,f2];cases jO<;>simp(disch:=omega)only[go_sem,f2]
        .rw[f1];have d0:decide ((0:Int)<=(k:Int))=true:=by simp
         have d1:Max.max (k:Int) 0=(k:Int):=by omega
         simp(disch:=omega)only[go_sem,f2,f3,d0,d1];cases hi:v.items with
         |nil=>
          rw[hi]at h6;have e7:decide (((0:Nat):Int)=1)=false:=rfl;simp(disch:=omega)only[go_sem,List.length_nil,e7]
         |cons r rs=>
          cases rs with
          |cons r2 rs2=>
           have e7:decide (((rs2.length+1+1:Nat):Int)=1)=false:=decide_eq_false (by omega);simp(disch:=omega)only[go_sem,List.length_cons,e7]
          |nil=>
           have hv:=h9 r (by rw[hi];exact WH);have hm:=x11 m (Wa f2);have hc:=ih m.type r hv hm.2.2.1;obtain⟨w,hw⟩:=hv.val;dsimp only;generalize fa T n m.type r=e at hc |-;rw[hw]at hc |-;unfold dz.c at hc |-;have e7:decide (((0+1:Nat):Int)=1)=true:=rfl;have e8:decide (((0:Nat):Int)=0)=true:=rfl;simp(disch:=omega)only[go_sem,f2,Option.map_some,Mem.c,hc,List.length_cons,List.length_nil,e7,e8,R0]
       .simp(disch:=omega)only[go_sem,aH.c,h505,decide_true,decide_false,Int.reduceEq,if_true,if_false];refine Br.aJ (λc=>?_) (λc=>?_)<;>simp(disch:=omega)only[go_sem,c,decide_true,decide_false,Bool.true_and,Bool.false_and,he6]
       .simp(disch:=omega)only[go_sem,aH.c,h505,decide_true,decide_false,Int.reduceEq,if_true,if_false];refine Br.aJ (λc=>?_) (λc=>?_)
        .rw[show decide ((v.keys.length:Int)<=max)=false from decide_eq_false (by omega),Xu];simp(disch:=omega)only[go_sem,c,decide_true,decide_false]
        .rw[show decide ((v.keys.length:Int)<=max)=true from decide_eq_true (by omega),WZ];simp(disch:=omega)only[go_sem,c,decide_true,decide_false];refine Br.aJ (λd=>?_) (λd=>?_)
         .rw[show decide (v.items.length=v.keys.length)=true from decide_eq_true (by omega),WZ];generalize v.keys.all (fa T n key)=p at hk5 |-;generalize v.items.all (fa T n elem)=q at he6 |-;simp(disch:=omega)only[go_sem,d,decide_true,decide_false,hk5];cases p
          .simp(disch:=omega)only[go_sem]
          .cases q
           .simp(disch:=omega)only[go_sem,he6]
           .simp(disch:=omega)only[go_sem,he6];have h5':v.keys.length<=9223372036854775807:=h5;refine W.find (v.keys.zip v.keys.tail) (λq=>!decide (HG q.1 q.2<0)) (λk=>⟨[(6,.ptr 6 0),(15,.pv (.int .i64 (((k+1:Nat)):Int)))],⟨[(6,[.pv (.int .i64 v.kind),.pv (.bool v.bool),.pv (.int .i64 v.int),.pv (.str v.str),.pv (.int .i64 v.id),.pv (.aq 0 v.keys),.pv (.aq 0 v.items),.pv (.aq 0 [])])],[],[]⟩⟩) rfl (λk q hq hk hfd=>?_) (λhn=>?_)
            .obtain⟨g1,g2⟩:=oF hq;rw[List.getElem?_tail]at g2;have hk2:k+1<v.keys.length:=(V9.1 g2).1;have e3:(((k+1:Nat):Int)) - 1=(k:Int):=by omega
             simp(disch:=omega)only[go_sem];refine Br.aJ (λc=>?_) (λc=>(c (by omega)).elim);have hv1:=h8 q.1 (Wa g1);have hv2:=h8 q.2 (Wa g2);obtain⟨w1,hw1⟩:=hv1.val;obtain⟨w2,hw2⟩:=hv2.val;have i1:=(hw1 ▸ hv1:mu n w1.c).is;have i2:=(hw2 ▸ hv2:mu n w2.c).is;have h509:=r509 w1 w2 i1.1 i2.1 i1.2 i2.2;rw[hw1]at g1 hfd;rw[hw2]at g2 hfd;rw[hw1,hw2];have hfd:=λg=>(hfd g).all;rw[ju,oE]at hfd;rw[oE];generalize lC w1 w2=e at h509 hfd |-;unfold dz.c at h509 g1 g2;simp(disch:=omega)only[go_sem,e3,g1,g2,h509];refine Br.aJ (λg=>?_) (λg=>?_)<;>simp(disch:=omega)only[go_sem]
             .have:=hfd (by simp;omega)
              rw[show C1 v.keys=false from this]
             .exact bB.of (by simp;omega) rfl
            .have:=hn.all
             rw[ju]at this;rw[show C1 v.keys=true from this,oH];simp(disch:=omega)only[go_sem];refine Br.aJ (λc=>absurd c (by omega)) (λc=>?_);simp(disch:=omega)only[go_sem]
         .rw[show decide (v.items.length=v.keys.length)=false from decide_eq_false (by omega),Xu];simp(disch:=omega)only[go_sem,d,decide_true,decide_false]
       .simp(disch:=omega)only[go_sem,aH.c,h505,decide_true,decide_false,Int.reduceEq,if_true,if_false];refine Br.aJ (λc=>?_) (λc=>?_)<;>simp(disch:=omega)only[go_sem,c,decide_true,decide_false,Bool.true_and,Bool.false_and,he6]
    .have e2:decide (v.kind=x.kind)=false:=decide_eq_false ck;rw[e2];simp(disch:=omega)only[go_sem,e0,e1,e2,hx,Option.map_some,aH.c]
theorem jv {rec:Int->List PV->Bool}{x:aH}{v:dz}(hr:v.rest=[])(hz:km v=true):(km {v with rest:=[]}&&(v.rest.isEmpty&&gh rec x {v with rest:=[]}))=gh rec x v:=by
 rw[show ({v with rest:=[]}:dz)=v by rw[<- hr],hz,hr];rfl
theorem wD {rec:Int->List PV->Bool}{x:aH}{v:dz}{a:Raw}{b:List Raw}(hr:v.rest=a::b):(km {v with rest:=[]}&&(v.rest.isEmpty&&gh rec x {v with rest:=[]}))=false:=by
 rw[hr];simp
set_option maxHeartbeats 4000000 in
theorem r503 (u:Nat)(T:List aH)(hT:RZ T):∀(n:Nat)(t:Int)(cs:List PV),mu n cs->eH t->res A aA 503 [.agg [.aq u (T.map aH.c)],.int .i64 t,.agg cs,.bool true]=some [.bool (fa T n t cs)]
 |0,_,_,h,_=>h.elim
 |n+1,t,cs,h,ht=>by
  obtain⟨v,rfl,⟨h1,h2,h3,h4⟩,⟨h5,h6,h7⟩,h8,h9,h10⟩:=h;have ih:=r503 u T hT n;rw[sU];obtain⟨ht1,ht2⟩:=ht;have hTl:=hT.1;refine aw a503 rfl rfl ?_;simp only[F503,LU];unfold dz.c;by_cases c0:t<0
  .rw[if_pos c0];have e0:decide (t<0)=true:=decide_eq_true c0;simp(disch:=omega)only[go_sem,e0]
  .rw[if_neg c0];have e0:decide (t<0)=false:=decide_eq_false c0;obtain⟨k,rfl⟩:=XB (by omega:0<=t);rw[WX];by_cases c1:(T.length:Int)<=k
   .rw[WS (by omega)];have e1:decide ((T.length:Int)<=k)=true:=decide_eq_true c1;simp(disch:=omega)only[go_sem,e0,e1]
   .obtain⟨x,hx⟩:=get_some (l:=T) (k:=k) (by omega);have e1:decide ((T.length:Int)<=k)=false:=decide_eq_false c1;have hxm:=Wa hx;have hk:=hT.2.2 x hxm;rw[hx];dsimp only;by_cases ck:v.kind=x.kind
    .have e2:decide (v.kind=x.kind)=true:=decide_eq_true ck;have h510:=r510 v (by omega) ⟨h5,h6,h7⟩;rw[e2,WZ];cases hz:km v with
     |false=>
      rw[hz]at h510;have:(km {v with rest:=[]}&&(v.rest.isEmpty&&gh (fa T n) x {v with rest:=[]}))=false:=by
       cases hr:v.rest with
       |nil=>rw[show ({v with rest:=[]}:dz)=v by rw[<- hr],hz];rfl
       |cons a b=>simp
      rw[this];simp only[dz.c]at h510;simp(disch:=omega)only[go_sem,e0,e1,e2,hx,Option.map_some,aH.c,h510]
     |true=>
      rw[hz]at h510;simp only[dz.c]at h510;have hrest:¬(v.kind=5\/v.kind=6)->v.rest=[]:=λhn=>by
       unfold km at hz;have:=(of_decide_eq_true hz).2.2.2.2.2.2;rcases this with h|h|h
       .exact absurd (.inl h) hn
       .exact absurd (.inr h) hn
       .exact h
      have hrc:v.rest=[]\/∃a b,v.rest=a::b:=by
       cases v.rest with
       |nil=>exact .inl rfl
       |cons a b=>exact .inr ⟨a,b,rfl⟩
      have hxo:=hT.2.1 x hxm;obtain⟨⟨x1,x2,x3,x4,x5,x6,x7⟩,⟨x8,x9⟩,x10,x11⟩:=hxo;have h392:=r392 x v.id x8;have h281:=r281 x v.id x9;obtain⟨kind,name,low,high,max,syms,bc,key,elem,jO⟩:=x;have h512:∀(e:Int)(l:List (List PV)),eH e->bP l->(∀r∈l,mu n r)->res A aA 512 [.agg [.aq u (T.map aH.c)],.int .i64 e,.aq 0 l,.bool true]=some [.bool (l.all (fa T n e))]:=λe l he hl hv=>r512 u 0 _ e l (fa T n e) hl (λr hr=>(hv r hr).val) (λr hr=>ih e r (hv r hr) he);dsimp only at *;have hk5:=h512 key v.keys x6 h5 h8;have he6:=h512 elem v.items x7 h6 h9;simp only[aH.c]at h392 h281;rcases nine hk with rfl|rfl|rfl|rfl|rfl|rfl|rfl|rfl|rfl
      .have hr:=hrest (by omega);rw[jv hr hz];rw[hr]at h510;simp only[List.map_nil]at h510;unfold gh;dsimp only;simp(disch:=omega)only[go_sem,e0,e1,e2,hx,Option.map_some,aH.c,h510,decide_true,decide_false,Int.reduceEq,if_true,if_false,hr,List.map_nil]
      .have hr:=hrest (by omega);rw[jv hr hz];rw[hr]at h510;simp only[List.map_nil]at h510;unfold gh;dsimp only;simp(disch:=omega)only[go_sem,e0,e1,e2,hx,Option.map_some,aH.c,h510,decide_true,decide_false,Int.reduceEq,if_true,if_false,hr,List.map_nil];refine Br.aJ (λc=>?_) (λc=>?_)<;>simp(disch:=omega)only[go_sem,c,decide_true,decide_false,Bool.true_and,Bool.false_and]
      .have hr:=hrest (by omega);rw[jv hr hz];rw[hr]at h510;simp only[List.map_nil]at h510;unfold gh;dsimp only;simp(disch:=omega)only[go_sem,e0,e1,e2,hx,Option.map_some,aH.c,h510,decide_true,decide_false,Int.reduceEq,if_true,if_false,hr,List.map_nil]
      .have hr:=hrest (by omega);rw[jv hr hz];rw[hr]at h510;simp only[List.map_nil]at h510;unfold gh;dsimp only;simp(disch:=omega)only[go_sem,e0,e1,e2,hx,Option.map_some,aH.c,h510,decide_true,decide_false,Int.reduceEq,if_true,if_false,hr,List.map_nil,h392];refine Br.aJ (λc=>?_) (λc=>?_)<;>simp(disch:=omega)only[go_sem,c,decide_true,decide_false];cases jO<;>simp(disch:=omega)only[go_sem,c,decide_false]
      .simp(disch:=omega)only[go_sem,e0,e1,e2,hx,Option.map_some,aH.c,h510,decide_true,decide_false,Int.reduceEq,if_true,if_false];rcases hrc with hr|⟨a,b,hr⟩
       .rw[jv hr hz];unfold gh;simp only[Int.reduceEq,if_true,if_false];rw[hr];refine Br.aJ (λc=>?_) (λc=>?_)<;>simp(disch:=omega)only[go_sem,c,decide_true,decide_false,Bool.true_and,Bool.false_and,List.map_nil]
        .refine Br.aJ (λc=>absurd c (by decide)) (λ_=>?_);simp(disch:=omega)only[go_sem,List.map_nil,List.length_nil];refine W.fv 0 (λk=>⟨[(3,.pv (.bool true)),(4,.ptr 4 0),(6,.ptr 6 0),(9,.ptr 9 0),(111,.pv (.aq 0 [])),(112,.pv (.int .i64 0)),(113,.pv (.int .i64 k))],⟨[(4,[.pv (.aq u (T.map aH.c))]),(6,[.pv (.int .i64 v.kind),.pv (.bool v.bool),.pv (.int .i64 v.int),.pv (.str v.str),.pv (.int .i64 v.id),.pv (.aq 0 v.keys),.pv (.aq 0 v.items),.pv (.aq 0 [])]),(9,[.pv (.int .i64 5),.pv (.str name),.pv (.int .i64 low),.pv (.int .i64 high),.pv (.int .i64 max),.pv (.aq 0 (syms.map Sym.c)),.pv (.aq 0 (bc.map Mem.c)),.pv (.int .i64 key),.pv (.int .i64 elem),.pv (.bool jO)])],[],[]⟩⟩) (λ_=>True) rfl trivial λk hk _=>?_;simp(disch:=omega)only[go_sem];refine Br.aJ (λc=>absurd c (by omega)) (λ_=>?_);simp(disch:=omega)only[go_sem];have hml:bc.length=v.items.length:=by omega
         have x9':bc.length<=9223372036854775807:=x9;rw[decide_eq_true hml.symm,WZ];refine W.find (bc.zip v.items) (λq=>!fa T n q.1.type q.2) (λk=>⟨[(3,.pv (.bool true)),(4,.ptr 4 0),(6,.ptr 6 0),(150,.pv (.aq 0 (bc.map Mem.c))),(151,.pv (.int .i64 bc.length)),(152,.pv (.int .i64 k))],⟨[(4,[.pv (.aq u (T.map aH.c))]),(6,[.pv (.int .i64 v.kind),.pv (.bool v.bool),.pv (.int .i64 v.int),.pv (.str v.str),.pv (.int .i64 v.id),.pv (.aq 0 v.keys),.pv (.aq 0 v.items),.pv (.aq 0 [])])],[],[]⟩⟩) rfl (λk q hq hk hfd=>?_) (λhn=>?_)
         .obtain⟨g1,g2⟩:=oF hq;rw[oG hml]at hk;have hm:=x11 q.1 (Wa g1);have hv:=h9 q.2 (Wa g2);have hc:=ih q.1.type q.2 hv hm.2.2.1;have hfd:=λg=>(hfd g).all;rw[ju]at hfd;generalize fa T n q.1.type q.2=e at hc hfd |-;obtain⟨w,hw⟩:=hv.val;rw[hw]at hc g2;unfold dz.c at hc g2;simp(disch:=omega)only[go_sem];refine Br.aJ (λc=>?_) (λc=>(c (by omega)).elim);simp(disch:=omega)only[go_sem,g1,g2,Option.map_some,Mem.c,hc];refine Br.of (λg=>?_) (λg=>?_)<;>simp(disch:=omega)only[go_sem]
          .exact bB.of (by rw[g];rfl) rfl
          .rw[hfd (by rw[g];rfl)]
         .have hn:=hn.all;rw[ju]at hn;rw[oG hml,hn];simp(disch:=omega)only[go_sem,hml]
        .have:decide (v.items.length=bc.length)=false:=decide_eq_false (λe=>c (by rw[e]));rw[this,Xu]
       .rw[wD hr];rw[hr];refine Br.aJ (λc=>?_) (λc=>?_)<;>simp(disch:=omega)only[go_sem,c,List.map_cons];refine Br.aJ (λc=>?_) (λc=>absurd (by omega) c);simp(disch:=omega)only[go_sem]
      .simp(disch:=omega)only[go_sem,e0,e1,e2,hx,Option.map_some,aH.c,h510,decide_true,decide_false,Int.reduceEq,if_true,if_false,h281];rcases ko (qP v.id) bc with⟨f1,f2⟩|⟨k,m,f1,f2,f3⟩
       .simp(disch:=omega)only[go_sem,f2];have:gh (fa T n) ⟨6,name,low,high,max,syms,bc,key,elem,jO⟩ v=false:=by
         unfold gh;simp only[f1,Int.reduceEq,if_true,if_false]
        rcases hrc with hr|⟨a,b,hr⟩
        .rw[jv hr hz,this];cases jO<;>simp(disch:=omega)only[go_sem,f2]
        .rw[wD hr];cases jO<;>simp(disch:=omega)only[go_sem,f2]
       .have d0:decide ((0:Int)<=(k:Int))=true:=by simp
        have d1:Max.max (k:Int) 0=(k:Int):=by omega
        simp(disch:=omega)only[go_sem,f2,f3,d0,d1];rcases hrc with hr|⟨a,b,hr⟩
        .rw[jv hr hz];unfold gh;simp only[Int.reduceEq,if_true,if_false];rw[f1,hr];cases hi:v.items with
         |nil=>
          rw[hi]at h6;have e7:decide (((0:Nat):Int)=1)=false:=rfl;simp(disch:=omega)only[go_sem,List.map_nil,List.length_nil,e7]
         |cons r rs=>
          cases rs with
          |cons r2 rs2=>
           have e7:decide (((rs2.length+1+1:Nat):Int)=1)=false:=decide_eq_false (by omega);simp(disch:=omega)only[go_sem,List.map_nil,List.length_cons,e7]
          |nil=>
           have hv:=h9 r (by rw[hi];exact WH);have hm:=x11 m (Wa f2);have hc:=ih m.type r hv hm.2.2.1;obtain⟨w,hw⟩:=hv.val;dsimp only;generalize fa T n m.type r=e at hc |-;rw[hw]at hc |-;unfold dz.c at hc |-;have e7:decide (((0+1:Nat):Int)=1)=true:=rfl;have e8:decide (((0:Nat):Int)=0)=true:=rfl;simp(disch:=omega)only[go_sem,f2,Option.map_some,Mem.c,hc,List.map_nil,List.length_cons,List.length_nil,e7,e8,R0]
        .rw[wD hr];have e8:decide (((b.length+1:Nat):Int)=0)=false:=decide_eq_false (by omega);rw[hr];refine Br.aJ (λc=>?_) (λc=>?_)<;>simp(disch:=omega)only[go_sem,c,List.map_cons,List.length_cons,List.length_map,e8]
      .have hr:=hrest (by omega);rw[jv hr hz];rw[hr]at h510;simp only[List.map_nil]at h510;unfold gh;dsimp only;simp(disch:=omega)only[go_sem,e0,e1,e2,hx,Option.map_some,aH.c,h510,decide_true,decide_false,Int.reduceEq,if_true,if_false,hr,List.map_nil];refine Br.aJ (λc=>?_) (λc=>?_)<;>simp(disch:=omega)only[go_sem,c,decide_true,decide_false,Bool.true_and,Bool.false_and,he6]
      .have hr:=hrest (by omega);rw[jv hr hz];rw[hr]at h510;simp only[List.map_nil]at h510;unfold gh;dsimp only;simp(disch:=omega)only[go_sem,e0,e1,e2,hx,Option.map_some,aH.c,h510,decide_true,decide_false,Int.reduceEq,if_true,if_false,hr,List.map_nil];refine Br.aJ (λc=>?_) (λc=>?_)
       .rw[show decide ((v.keys.length:Int)<=max)=false from decide_eq_false (by omega),Xu];simp(disch:=omega)only[go_sem,c,decide_true,decide_false]
       .rw[show decide ((v.keys.length:Int)<=max)=true from decide_eq_true (by omega),WZ];simp(disch:=omega)only[go_sem,c,decide_true,decide_false];refine Br.aJ (λd=>?_) (λd=>?_)
        .rw[show decide (v.items.length=v.keys.length)=true from decide_eq_true (by omega),WZ];generalize v.keys.all (fa T n key)=p at hk5 |-;generalize v.items.all (fa T n elem)=q at he6 |-;simp(disch:=omega)only[go_sem,d,decide_true,decide_false,hk5];cases p
         .simp(disch:=omega)only[go_sem]
         .simp(disch:=omega)only[go_sem];have h5':v.keys.length<=9223372036854775807:=h5;rw[WZ];refine W.find (v.keys.zip v.keys.tail) (λq=>!decide (HG q.1 q.2<0)) (λk=>⟨[(3,.pv (.bool true)),(4,.ptr 4 0),(6,.ptr 6 0),(9,.ptr 9 0),(20,.pv (.int .i64 (((k+1:Nat)):Int)))],⟨[(4,[.pv (.aq u (T.map aH.c))]),(6,[.pv (.int .i64 v.kind),.pv (.bool v.bool),.pv (.int .i64 v.int),.pv (.str v.str),.pv (.int .i64 v.id),.pv (.aq 0 v.keys),.pv (.aq 0 v.items),.pv (.aq 0 [])]),(9,[.pv (.int .i64 8),.pv (.str name),.pv (.int .i64 low),.pv (.int .i64 high),.pv (.int .i64 max),.pv (.aq 0 (syms.map Sym.c)),.pv (.aq 0 (bc.map Mem.c)),.pv (.int .i64 key),.pv (.int .i64 elem),.pv (.bool jO)])],[],[]⟩⟩) rfl (λk q hq hk hfd=>?_) (λhn=>?_)
          .obtain⟨g1,g2⟩:=oF hq;rw[List.getElem?_tail]at g2;have hk2:k+1<v.keys.length:=(V9.1 g2).1;have e3:(((k+1:Nat):Int)) - 1=(k:Int):=by omega
           simp(disch:=omega)only[go_sem];refine Br.aJ (λc=>?_) (λc=>(c (by omega)).elim);have hv1:=h8 q.1 (Wa g1);have hv2:=h8 q.2 (Wa g2);obtain⟨w1,hw1⟩:=hv1.val;obtain⟨w2,hw2⟩:=hv2.val;have i1:=(hw1 ▸ hv1:mu n w1.c).is;have i2:=(hw2 ▸ hv2:mu n w2.c).is;have h513:=r513 w1 w2 i1.1 i2.1 i1.2 i2.2;rw[hw1]at g1 hfd;rw[hw2]at g2 hfd;rw[hw1,hw2];have hfd:=λg=>(hfd g).all;rw[ju,oE]at hfd;rw[oE];generalize lC w1 w2=e at h513 hfd |-;unfold dz.c at h513 g1 g2;simp(disch:=omega)only[go_sem,e3,g1,g2,h513];refine Br.aJ (λg=>?_) (λg=>?_)<;>simp(disch:=omega)only[go_sem]
           .have:=hfd (by simp;omega)
            rw[show C1 v.keys=false from this,abu]
           .exact bB.of (by simp;omega) rfl
          .have:=hn.all
           rw[ju]at this;rw[show C1 v.keys=true from this,oH,Bool.and_true];simp(disch:=omega)only[go_sem];refine Br.aJ (λc=>absurd c (by omega)) (λc=>?_);simp(disch:=omega)only[go_sem,he6]
        .rw[show decide (v.items.length=v.keys.length)=false from decide_eq_false (by omega),Xu];simp(disch:=omega)only[go_sem,d,decide_true,decide_false]
      .have hr:=hrest (by omega);rw[jv hr hz];rw[hr]at h510;simp only[List.map_nil]at h510;unfold gh;dsimp only;simp(disch:=omega)only[go_sem,e0,e1,e2,hx,Option.map_some,aH.c,h510,decide_true,decide_false,Int.reduceEq,if_true,if_false,hr,List.map_nil];refine Br.aJ (λc=>?_) (λc=>?_)<;>simp(disch:=omega)only[go_sem,c,decide_true,decide_false,Bool.true_and,Bool.false_and,he6]
    .have e2:decide (v.kind=x.kind)=false:=decide_eq_false ck;rw[e2];simp(disch:=omega)only[go_sem,e0,e1,e2,hx,Option.map_some,aH.c]
noncomputable def tZ (T:List aH)(t:Int)(cs:List PV):Bool:=by
 classical exact decide (∃n,mu n cs/\fa T n t cs=true)
theorem HH {T:List aH}(hT:RZ T){n:Nat}{t:Int}{cs:List PV}(h:mu n cs)(ht:eH t):tZ T t cs=fa T n t cs:=by
 have key:∀m,mu m cs->fa T m t cs=fa T n t cs:=λm hm=>by
  have h1:=r502 0 T hT n t cs h ht;have h2:=r502 0 T hT m t cs hm ht;rw[h1]at h2;simpa using h2.symm
 classical
 unfold tZ;cases hf:fa T n t cs with
 |true=>exact decide_eq_true ⟨n,h,hf⟩
 |false=>exact decide_eq_false λ⟨m,hm,he⟩=>by rw[key m hm,hf]at he;cases he
theorem r494 (u:Nat)(T:List aH)(hT:RZ T)(n:Nat)(t:Int)(v:dz)(h:mu n v.c)(ht:eH t):res A aA 494 [.agg [.aq u (T.map aH.c)],.int .i64 t,.agg v.c]=some [.bool (tZ T t v.c)]:=by
 have h502:=r502 u T hT n t v.c h ht;rw[HH hT h ht];generalize fa T n t v.c=e at *;refine aw a494 rfl rfl ?_;simp only[F494,aaX];unfold dz.c at h502 |-;simp(disch:=omega)only[go_sem,h502]
theorem r495 (u:Nat)(T:List aH)(hT:RZ T)(n:Nat)(t:Int)(v:dz)(h:mu n v.c)(ht:eH t):res A aA 495 [.agg [.aq u (T.map aH.c)],.int .i64 t,.agg v.c]=some [.bool (tZ T t v.c)]:=by
 have h503:=r503 u T hT n t v.c h ht;rw[HH hT h ht];generalize fa T n t v.c=e at *;refine aw a495 rfl rfl ?_;simp only[F495,LN];unfold dz.c at h503 |-;simp(disch:=omega)only[go_sem,h503]
noncomputable def ng (T:List aH)(m:Mem):Bool:=m.has&&!tZ T m.type m.ib.c
noncomputable def pR (T:List aH)(x:aH):Bool:=x.bc.any (ng T)
noncomputable def I2 (T:List aH):Int×Int×Int:=
 if cS T≠0 then (0,0,cS T) else match T.findIdx? (pR T)with
 |none=>(0,0,0)
 |some k=>(k,((T[k]?).bind λx=>(x.bc.find? (ng T)).map (·.id)).getD 0,1)
theorem Fe {T:List aH}(ho:∀t∈T,t.ok)(h:cS T=0):RZ T:=by
 have hs:=eZ h;refine⟨by have:=hs.len;omega,ho,λx hx=>?_⟩;have:=hs.own x hx;unfold dO at this;simp only[Bool.and_eq_true,decide_eq_true_eq]at this;exact this.1
set_option maxHeartbeats 2000000 in
theorem r480 (u:Nat)(T:List aH)(hl:T.length<=2147483648)(ho:∀t∈T,t.ok)(hs:∀t∈T,t.held):res A aA 480 [.agg [.aq u (T.map aH.c)]]=some [.int .i64 (I2 T).1,.int .i64 (I2 T).2.1,.int .i64 (I2 T).2.2]:=by
 have h268:=r268 u T hl ho hs;refine aw a480 rfl rfl ?_;simp only[F480,aaR];simp(disch:=omega)only[go_sem,h268];unfold I2;refine Br.aJ (λc=>?_) (λc=>?_)<;>simp(disch:=omega)only[go_sem,c,decide_true,decide_false]
 rotate_left
 .rw[if_pos c]
 rw[if_neg (by simp[c])];have hT:=Fe ho c;obtain⟨G,hG⟩:∃G:Int×Int×Int,(match T.findIdx? (pR T)with
  |none=>(0,0,0)
  |some k=>(k,((T[k]?).bind λx=>(x.bc.find? (ng T)).map (·.id)).getD 0,1))=G:=⟨_,rfl⟩
 rw[hG];refine W.find T (pR T) (λk=>⟨[(1,.ptr 1 0),(6,.pv (.int .i64 k))],⟨[(1,[.pv (.aq u (T.map aH.c))])],[],[]⟩⟩) rfl (λk x hx hk hfd=>?_) (λhn=>?_)
 .have hxm:=Wa hx;have hml:=(hs x hxm).bc;obtain⟨_,⟨_,x9⟩,_,x11⟩:=ho x hxm;simp(disch:=omega)only[go_sem];refine Br.aJ (λc=>?_) (λc=>(c (by omega)).elim);simp(disch:=omega)only[go_sem,hx,Option.map_some,aH.c];refine W.find x.bc (ng T) (λj=>⟨[(1,.ptr 1 0),(6,.pv (.int .i64 k)),(7,.pv (.aq 0 (x.bc.map Mem.c))),(8,.pv (.int .i64 j))],⟨[(1,[.pv (.aq u (T.map aH.c))])],[],[]⟩⟩) rfl (λj m hm hj hfm=>?_) (λhn=>?_)
  .obtain⟨_,_,m3,n,m4⟩:=x11 m (Wa hm);have h494:=r494 u T hT n m.type m.ib m4 m3;have hw:ng T m=(m.has&&!tZ T m.type m.ib.c):=rfl;generalize tZ T m.type m.ib.c=e at h494 hw;unfold dz.c at h494;simp(disch:=omega)only[go_sem];refine Br.aJ (λc=>?_) (λc=>(c (by omega)).elim);simp(disch:=omega)only[go_sem,hm,Option.map_some,Mem.c,h494];cases hh:m.has with
   |false=>
    rw[hh]at hw;simp(disch:=omega)only[go_sem];exact bB.of (by rw[hw];rfl) rfl
   |true=>
    rw[hh]at hw;simp(disch:=omega)only[go_sem,hm,Option.map_some,Mem.c,h494];cases e
    .have hf:=hfm (by rw[hw];rfl);have hf2:=hfd hf.any;simp(disch:=omega)only[go_sem,hm,Option.map_some,Mem.c];rw[<- hG,hf2.idx];dsimp only;rw[hx,abw,hf.find];rfl
    .simp(disch:=omega)only[go_sem];exact bB.of (by rw[hw];rfl) rfl
  .simp(disch:=omega)only[go_sem];exact bB.of hn.any rfl
 .simp(disch:=omega)only[go_sem];rw[<- hG,hn.idx]
set_option maxHeartbeats 2000000 in
theorem r484 (u:Nat)(T:List aH)(hl:T.length<=2147483648)(ho:∀t∈T,t.ok)(hs:∀t∈T,t.held):res A aA 484 [.agg [.aq u (T.map aH.c)]]=some [.int .i64 (I2 T).1,.int .i64 (I2 T).2.1,.int .i64 (I2 T).2.2]:=by
 have h267:=r267 u T hl ho hs;refine aw a484 rfl rfl ?_;simp only[F484,LD];simp(disch:=omega)only[go_sem,h267];unfold I2;refine Br.aJ (λc=>?_) (λc=>?_)<;>simp(disch:=omega)only[go_sem,c,decide_true,decide_false]
 rotate_left
 .rw[if_pos c]
 rw[if_neg (by simp[c])];have hT:=Fe ho c;obtain⟨G,hG⟩:∃G:Int×Int×Int,(match T.findIdx? (pR T)with
  |none=>(0,0,0)
  |some k=>(k,((T[k]?).bind λx=>(x.bc.find? (ng T)).map (·.id)).getD 0,1))=G:=⟨_,rfl⟩
 rw[hG];refine W.find T (pR T) (λk=>⟨[(1,.ptr 1 0),(16,.pv (.aq u (T.map aH.c))),(17,.pv (.int .i64 T.length)),(18,.pv (.int .i64 k))],⟨[(1,[.pv (.aq u (T.map aH.c))])],[],[]⟩⟩) rfl (λk x hx hk hfd=>?_) (λhn=>?_)
 .have hxm:=Wa hx;have hml:=(hs x hxm).bc;obtain⟨_,⟨_,x9⟩,_,x11⟩:=ho x hxm;simp(disch:=omega)only[go_sem];refine Br.aJ (λc=>?_) (λc=>(c (by omega)).elim);simp(disch:=omega)only[go_sem,hx,Option.map_some,aH.c];refine W.find x.bc (ng T) (λj=>⟨[(1,.ptr 1 0),(6,.pv (.int .i64 k)),(16,.pv (.aq u (T.map aH.c))),(17,.pv (.int .i64 T.length)),(18,.pv (.int .i64 k)),(24,.pv (.aq 0 (x.bc.map Mem.c))),(25,.pv (.int .i64 x.bc.length)),(26,.pv (.int .i64 j))],⟨[(1,[.pv (.aq u (T.map aH.c))])],[],[]⟩⟩) rfl (λj m hm hj hfm=>?_) (λhn=>?_)
  .obtain⟨_,_,m3,n,m4⟩:=x11 m (Wa hm);have h495:=r495 u T hT n m.type m.ib m4 m3;have hw:ng T m=(m.has&&!tZ T m.type m.ib.c):=rfl;generalize tZ T m.type m.ib.c=e at h495 hw;unfold dz.c at h495;simp(disch:=omega)only[go_sem];refine Br.aJ (λc=>?_) (λc=>(c (by omega)).elim);simp(disch:=omega)only[go_sem,hm,Option.map_some,Mem.c,h495];cases hh:m.has with
   |false=>
    rw[hh]at hw;simp(disch:=omega)only[go_sem];exact bB.of (by rw[hw];rfl) rfl
   |true=>
    rw[hh]at hw;simp(disch:=omega)only[go_sem,hm,Option.map_some,Mem.c,h495];cases e
    .have hf:=hfm (by rw[hw];rfl);have hf2:=hfd hf.any;simp(disch:=omega)only[go_sem,hm,Option.map_some,Mem.c];rw[<- hG,hf2.idx];dsimp only;rw[hx,abw,hf.find];rfl
    .simp(disch:=omega)only[go_sem];exact bB.of (by rw[hw];rfl) rfl
  .simp(disch:=omega)only[go_sem];exact bB.of hn.any rfl
 .simp(disch:=omega)only[go_sem];rw[<- hG,hn.idx]
noncomputable def gi (T:List aH):Int:=(I2 T).2.2
theorem sV {T:List aH}(h:cS T≠0):gi T=cS T:=by
 unfold gi I2;rw[if_pos h]
theorem lD {T:List aH}(h:gi T=0):cS T=0/\∀x∈T,∀m∈x.bc,m.has=true->tZ T m.type m.ib.c=true:=by
 by_cases hv:cS T=0
 .refine⟨hv,λx hx m hm hh=>?_⟩;unfold gi I2 at h;rw[if_neg (by simp[hv])]at h;cases hf:T.findIdx? (pR T)with
  |none=>
   have h1:=Xe.1 hf x hx;have h2:=WY.1 h1 m hm;unfold ng at h2;rw[hh]at h2;simpa using h2
  |some k=>
   rw[hf]at h;cases h
 .rw[sV hv]at h;exact absurd h hv
theorem r470 (u:Nat)(T:List aH)(hl:T.length<=2147483648)(ho:∀t∈T,t.ok)(hs:∀t∈T,t.held):res A aA 470 [.agg [.aq u (T.map aH.c)]]=some [.int .i64 (gi T)]:=by
 have h268:=r268 u T hl ho hs;have h480:=r480 u T hl ho hs;have hb:=sV (T:=T);unfold gi at hb |-;refine aw a470 rfl rfl ?_;simp only[F470,aaN];simp(disch:=omega)only[go_sem,h268];refine Br.aJ (λc=>?_) (λc=>?_)<;>simp(disch:=omega)only[go_sem,h480,c,decide_true,decide_false];rw[hb c]
theorem r473 (u:Nat)(T:List aH)(hl:T.length<=2147483648)(ho:∀t∈T,t.ok)(hs:∀t∈T,t.held):res A aA 473 [.agg [.aq u (T.map aH.c)]]=some [.int .i64 (gi T)]:=by
 have h267:=r267 u T hl ho hs;have h484:=r484 u T hl ho hs;have hb:=sV (T:=T);unfold gi at hb |-;refine aw a473 rfl rfl ?_;simp only[F473,Lw];simp(disch:=omega)only[go_sem,h267];refine Br.aJ (λc=>?_) (λc=>?_)<;>simp(disch:=omega)only[go_sem,h484,c,decide_true,decide_false];rw[hb c]
def X1 (n:List Int)(i:Int):Int:=n.getD i.toNat 0
def jN (b:Bool)(x:aH)(n:List Int):Int:=
 if x.kind=2 then (if x.low=x.high then 1 else 2)
 else if x.kind=3 then (if x.max=0 then 1 else 2)
 else if x.kind=4 then min 2 x.syms.length
 else if x.kind=5 then x.bc.foldl (λc m=>min 2 (c*X1 n m.type)) 1
 else if x.kind=6 then x.bc.foldl (λc m=>min 2 (c+X1 n m.type)) 0
 else if x.kind=7 then (if x.max=0\/X1 n x.elem=0 then 1 else 2)
 else if x.kind=8 then (if x.max=0\/X1 n x.elem=0\/b=true/\X1 n x.key=0 then 1 else 2)
 else if x.kind=9 then min 2 (1+X1 n x.elem)
 else 2
def yQ (n:List Int):Prop:=∀x∈n,0<=x/\x<=2
def kH (n m:List Int):Prop:=n.length=m.length/\∀k:Nat,n.getD k 0<=m.getD k 0
theorem yQ.at {n:List Int}(h:yQ n)(k:Nat):0<=n.getD k 0/\n.getD k 0<=2:=by
 rw[Ws];cases hk:n[k]? with
 |none=>simp
 |some x=>exact h x (Wa hk)
theorem kH.refl (n:List Int):kH n n:=⟨rfl,λ_=>XS _⟩
theorem kH.trans {a b c:List Int}(h:kH a b)(g:kH b c):kH a c:=⟨h.1.trans g.1,λk=>Int.le_trans (h.2 k) (g.2 k)⟩
theorem kH.Mx {a b:List Int}(h:kH a b)(g:kH b a):a=b:=by
 refine afC h.1 λk h1 h2=>?_;have e1:=h.2 k;have e2:=g.2 k;rw[Ws,Ws,Wb h1,Wb h2]at e1 e2;simp at e1 e2;omega
theorem sW {α:Type}(f:Int->α->Int)(hf:∀c a,0<=c->0<=f c a/\f c a<=2):∀(l:List α)(c:Int),0<=c->c<=2->0<=l.foldl f c/\l.foldl f c<=2
 |[],c,h1,h2=>⟨h1,h2⟩
 |a::l,c,h1,_=>sW f hf l _ (hf c a h1).1 (hf c a h1).2
theorem pS {α:Type}{l0:List α}(f g:Int->α->Int)(hf:∀c d a,a∈l0->0<=c->c<=d->0<=f c a/\f c a<=g d a):∀(l:List α)(c d:Int),(∀a∈l,a∈l0)->0<=c->c<=d->l.foldl f c<=l.foldl g d
 |[],_,_,_,_,h2=>h2
 |a::l,c,d,hl,h1,h2=>pS f g hf l _ _ (λx hx=>hl x (W3 _ hx)) (hf c d a (hl a WH) h1 h2).1 (hf c d a (hl a WH) h1 h2).2
theorem Ff {c a:Int}(h1:0<=c)(h2:0<=a):0<=min 2 (c*a)/\min 2 (c*a)<=2:=by
 have:=Int.mul_nonneg h1 h2;omega
theorem wE (b:Bool)(x:aH){n:List Int}(hn:yQ n):0<=jN b x n/\jN b x n<=2:=by
 have ha:∀i,0<=X1 n i/\X1 n i<=2:=λi=>hn.at _;unfold jN
 repeat' split
 all_goals first|decide|skip
 .omega
 .exact sW _ (λc m h=>Ff h (ha _).1) _ _ (by decide) (by decide)
 .exact sW _ (λc m h=>by have:=ha m.type;omega) _ _ (by decide) (by decide)
 .have:=ha x.elem
  omega
theorem sX (b:Bool)(x:aH){n m:List Int}(hn:yQ n)(h:kH n m):jN b x n<=jN b x m:=by
 have ha:∀i,0<=X1 n i:=λi=>(hn.at _).1;have hm:∀i,X1 n i<=X1 m i:=λi=>h.2 _;unfold jN
 repeat' split
 all_goals first|decide|omega|skip
 .refine pS (l0:=x.bc) _ _ (λc d a _ h1 h2=>?_) _ _ _ (λ_ h=>h) (by decide) (XS _);refine⟨(Ff h1 (ha _)).1,?_⟩;have:=Int.mul_le_mul h2 (hm a.type) (ha _) (by omega);omega
 .refine pS (l0:=x.bc) _ _ (λc d a _ h1 h2=>?_) _ _ _ (λ_ h=>h) (by decide) (XS _);have:=ha a.type;have:=hm a.type;omega
 .rename_i h1 h2;have e1:=ha x.elem;have e2:=hm x.elem;exact absurd (h2.imp id λh=>by omega) h1
 .rename_i h1 h2;have e1:=ha x.elem;have e2:=hm x.elem;have e3:=ha x.key;have e4:=hm x.key;exact absurd (h2.imp id λh=>h.imp (λh=>by omega) (λh=>⟨h.1,by omega⟩)) h1
 .have:=hm x.elem
  omega
theorem My (x:aH)(n:List Int)(hn:yQ n):jN true x n<=jN false x n:=by
 have ha:∀i,0<=X1 n i:=λi=>(hn.at _).1;unfold jN
 repeat' split
 all_goals first|decide|omega|skip
 rename_i h1 h2;exact absurd (h2.imp id λh=>h.imp id (λh=>⟨by simp at h,by simp at h⟩)) h1
def swp (b:Bool)(T:List aH)(n:List Int):Nat->List Int
 |0=>n
 |k+1=>match T[k]? with
  |some x=>(swp b T n k).set k (jN b x (swp b T n k))
  |none=>swp b T n k
theorem ir {n:List Int}{k:Nat}{x:Int}(i:Nat)(hk:k<n.length):(n.set k x).getD i 0=if i=k then x else n.getD i 0:=by
 rw[Ws,afz];by_cases h:k=i
 .subst h;rw[if_pos rfl,if_pos hk,if_pos rfl];rfl
 .rw[if_neg h,if_neg (λe=>h e.symm),Ws]
def BV (b:Bool)(T:List aH)(n:List Int):Prop:=n.length=T.length/\yQ n/\∀k x,T[k]?=some x->n.getD k 0<=jN b x n
theorem yQ.set {n:List Int}(h:yQ n){k:Nat}{x:Int}(hx:0<=x/\x<=2):yQ (n.set k x):=λy hy=>by
 rcases XK hy with h1|rfl
 .exact h y h1
 .exact hx
theorem kH.set {n:List Int}{k:Nat}{x:Int}(hk:k<n.length)(hx:n.getD k 0<=x):kH n (n.set k x):=by
 refine⟨(Xx ..).symm,λi=>?_⟩;rw[ir i hk];split
 .rename_i h;rw[h];exact hx
 .exact XS _
theorem BV.step {b:Bool}{T:List aH}{n:List Int}(h:BV b T n){k:Nat}{x:aH}(hx:T[k]?=some x):BV b T (n.set k (jN b x n))/\kH n (n.set k (jN b x n)):=by
 obtain⟨h1,h2,h3⟩:=h;have hk:k<n.length:=h1 ▸ (V9.1 hx).1;have hle:=kH.set hk (h3 k x hx);refine⟨⟨by rw[Xx,h1],h2.set (wE b x h2),λj y hy=>?_⟩,hle⟩;have hm:=sX b y h2 hle;rw[ir j hk];split
 .rename_i e;rw[e,hx]at hy;cases hy;exact hm
 .exact Int.le_trans (h3 j y hy) hm
theorem BV.swp {b:Bool}{T:List aH}{n:List Int}(h:BV b T n):∀k,BV b T (swp b T n k)/\kH n (swp b T n k)
 |0=>⟨h,kH.refl n⟩
 |k+1=>by
  obtain⟨h1,h2⟩:=BV.swp h k;unfold Go.Pv.swp;split
  .rename_i x hx;obtain⟨h3,h4⟩:=h1.step hx;exact⟨h3,h2.trans h4⟩
  .exact⟨h1,h2⟩
def Fix (b:Bool)(T:List aH)(n:List Int):Prop:=n.length=T.length/\yQ n/\∀k x,T[k]?=some x->n.getD k 0=jN b x n
def qz (b:Bool)(T:List aH)(n:List Int):Prop:=Fix b T n/\∀m,Fix b T m->kH n m
theorem qz.uniq {b:Bool}{T:List aH}{n m:List Int}(h:qz b T n)(g:qz b T m):n=m:=(h.2 m g.1).Mx (g.2 n h.1)
theorem AG {b:Bool}{T:List aH}{n m:List Int}(hn:yQ n)(hm:Fix b T m)(h:kH n m){k:Nat}{x:aH}(hx:T[k]?=some x):kH (n.set k (jN b x n)) m:=by
 have hk:k<n.length:=by rw[h.1,hm.1];exact(V9.1 hx).1
 refine⟨by rw[Xx,h.1],λi=>?_⟩;rw[ir i hk];split
 .rename_i e;rw[e,hm.2.2 k x hx];exact sX b x hn h
 .exact h.2 i
theorem Ya {b:Bool}{T:List aH}{n m:List Int}(hn:BV b T n)(hm:Fix b T m)(h:kH n m):∀k,kH (swp b T n k) m
 |0=>h
 |k+1=>by
  unfold swp;split
  .rename_i x hx;exact AG (hn.swp k).1.2.1 hm (Ya hn hm h k) hx
  .exact Ya hn hm h k
theorem Fg {b:Bool}{T:List aH}{n:List Int}(hn:BV b T n)(h:kH (swp b T n T.length) n):Fix b T n:=by
 have key:∀k,k<=T.length->swp b T n k=n:=λk hk=>by
  have up:∀j,kH (swp b T n k) (swp b T n (k+j)):=λj=>by
   induction j with
   |zero=>exact kH.refl _
   |succ j ih=>
    rw[<- W0];refine ih.trans ?_;show kH _ (match T[k+j]? with
     |some x=>(swp b T n (k+j)).set (k+j) (jN b x (swp b T n (k+j)))
     |none=>swp b T n (k+j))
    split
    .rename_i x hx;exact((hn.swp (k+j)).1.step hx).2
    .exact kH.refl _
  have:=up (T.length - k);rw[show k+(T.length - k)=T.length by omega]at this;exact(this.trans h).Mx (hn.swp k).2
 refine⟨hn.1,hn.2.1,λk x hx=>?_⟩;have hk:=(V9.1 hx).1;have h1:=key (k+1) hk;have h2:=key k (by omega);unfold swp at h1;rw[hx]at h1;dsimp only at h1;rw[h2]at h1;have h3:=ir (n:=n) (x:=jN b x n) k (by rw[hn.1];exact hk);rw[h1,if_pos rfl]at h3;exact h3
def pT (n:List Int):Int:=n.foldl (·+·) 0
theorem sY:∀(n:List Int)(a:Int),n.foldl (·+·) a=a+pT n
 |[],a=>by simp[pT]
 |x::n,a=>by
  show n.foldl (·+·) (a+x)=a+n.foldl (·+·) (0+x);rw[sY n (a+x),sY n (0+x)];omega
theorem pU (x:Int)(n:List Int):pT (x::n)=x+pT n:=by
 show n.foldl (·+·) (0+x)=_;rw[sY];omega
theorem wF:∀{a b:List Int},kH a b->pT a<=pT b/\(a≠b->pT a<pT b)
 |[],[],_=>⟨XS _,λh=>(h rfl).elim⟩
 |[],_::_,h=>absurd h.1 (by simp)
 |_::_,[],h=>absurd h.1 (by simp)
 |x::a,y::b,h=>by
  have h0:=h.2 0;have ht:kH a b:=⟨by have:=h.1;simpa using this,λk=>by simpa using h.2 (k+1)⟩;obtain⟨h1,h2⟩:=wF ht;simp at h0;rw[pU,pU];refine⟨by omega,λhne=>?_⟩;by_cases e:a=b
  .have:x≠y:=λe2=>hne (by rw[e,e2]);omega
  .have:=h2 e
   omega
theorem oI:∀{n:List Int},yQ n->0<=pT n/\pT n<=2*n.length
 |[],_=>by simp[pT]
 |x::n,h=>by
  have h1:=h x WH;have h2:=oI (n:=n) λy hy=>h y (W3 _ hy);rw[pU,abv];omega
def kG (b:Bool)(T:List aH):Nat->List Int
 |0=>List.replicate T.length 0
 |r+1=>swp b T (kG b T r) T.length
theorem yR (b:Bool)(T:List aH):BV b T (List.replicate T.length 0):=by
 have h2:yQ (List.replicate T.length 0):=λx hx=>by
  rw[List.mem_replicate]at hx;omega
 refine⟨XV,h2,λk x _=>?_⟩;have h1:=wE b x h2;rw[Ws,XA];split<;>simpa using h1.1
theorem gF (b:Bool)(T:List aH):∀r,BV b T (kG b T r)
 |0=>yR b T
 |r+1=>((gF b T r).swp _).1
theorem nh {b:Bool}{T:List aH}{m:List Int}(hm:Fix b T m):∀r,kH (kG b T r) m
 |0=>by
  refine⟨by rw[hm.1];exact XV,λk=>?_⟩;have h1:=hm.2.1.at k;show (List.replicate T.length (0:Int)).getD k 0<=_;rw[Ws,XA];split<;>simpa using h1.1
 |r+1=>Ya (gF b T r) hm (nh hm r) _
theorem BW {b:Bool}{T:List aH}{n:List Int}(h:Fix b T n):∀k,swp b T n k=n
 |0=>rfl
 |k+1=>by
  unfold swp;rw[BW h k];split
  .rename_i x hx;have hk:k<n.length:=by rw[h.1];exact(V9.1 hx).1
   rw[<- h.2.2 k x hx,Ws,Wb hk];simp
  .rfl
theorem ni (b:Bool)(T:List aH):qz b T (kG b T (2*T.length+1)):=by
 have key:∀r,Fix b T (kG b T r)\/(r:Int)<=pT (kG b T r):=λr=>by
  induction r with
  |zero=>exact .inr (oI (yR b T).2.1).1
  |succ r ih=>
   rcases ih with h|h
   .left;show Fix b T (swp b T (kG b T r) T.length);rw[BW h];exact h
   .have hl:=gF b T r;by_cases e:kG b T r=kG b T (r+1)
    .left;rw[<- e];exact Fg hl (by show kH (kG b T (r+1)) _;rw[<- e];exact kH.refl _)
    .right;have:=(wF (hl.swp T.length).2).2 e;have e2:kG b T (r+1)=swp b T (kG b T r) T.length:=rfl;rw[e2];omega
 refine⟨(key _).resolve_right λh=>?_,λm hm=>nh hm _⟩;have h1:=oI (gF b T (2*T.length+1)).2.1;rw[(gF b T (2*T.length+1)).1]at h1;omega
theorem C2 {T:List aH}{n:List Int}(h:qz true T n)(hk:∀x∈T,x.kind=8->X1 n x.key≠0):qz false T n:=by
 obtain⟨⟨h1,h2,h3⟩,h4⟩:=h;have hf:Fix false T n:=⟨h1,h2,λk x hx=>by
  rw[h3 k x hx];have:=hk x (Wa hx);unfold jN;by_cases c:x.kind=8
  .have:=this c
   simp[c,this]
  .simp[c]⟩
 refine⟨hf,λm hm=>?_⟩;have hr:=ni true T;have e:n=kG true T (2*T.length+1):=qz.uniq ⟨⟨h1,h2,h3⟩,h4⟩ hr;rw[e];have key:∀r,kH (kG true T r) m:=λr=>by
  induction r with
  |zero=>
   refine⟨by rw[hm.1];exact XV,λk=>?_⟩;have h1:=hm.2.1.at k;show (List.replicate T.length (0:Int)).getD k 0<=_;rw[Ws,XA];split<;>simpa using h1.1
  |succ r ih=>
   have:∀k,kH (swp true T (kG true T r) k) m:=λk=>by
    induction k with
    |zero=>exact ih
    |succ k ih2=>
     unfold swp;split
     .rename_i x hx;have hl:=((gF true T r).swp k).1.2.1;have hk:k<(swp true T (kG true T r) k).length:=by rw[ih2.1,hm.1];exact(V9.1 hx).1
      refine⟨by rw[Xx,ih2.1],λi=>?_⟩;rw[ir i hk];split
      .rename_i e;rw[e,hm.2.2 k x hx];exact Int.le_trans (My x _ hl) (sX false x hl ih2)
      .exact ih2.2 i
     .exact ih2
   exact this _
 exact key _
end Go.Pv
