/-
 What the functions of the law give.
-/
import Derived.Test.YtpchfogcccagjaaGreatC3
set_option linter.unusedSimpArgs false
set_option linter.unusedVariables false
open List renaming getElem?_eq_some_iff → Wq, mem_of_getElem? → Wr, getElem?_eq_getElem → Ws, mem_map → Wz, mem_cons_of_mem → WK, findIdx?_eq_some_iff_getElem → WM, getD_eq_getElem?_getD → WS, mem_cons_self → W1, getElem?_eq_none → W6, any_eq_false → Xc, mem_append_left → Xj, findIdx?_eq_none_iff → Xk, getElem?_zip_eq_some → Xr, foldl_cons → Xy, mem_append_right → Xz, length_set → XN, getElem?_replicate → XQ, mem_or_eq_of_mem_set → XZ, length_replicate → Yc, length_cons → Yf
open Int renaming toNat_natCast → Xb, eq_ofNat_of_zero_le → XF, le_refl → X8
open Bool renaming true_and → Xe, false_and → XL
open Nat renaming add_assoc → XD
namespace Go.Pv
theorem jO (x:Int):IntKind.wrap .u64 x=x%18446744073709551616:=by
 show (if (false&&decide (x%(2^64:Int)≥(2^63:Int)))=true then x%(2^64:Int) - (2^64:Int) else x%(2^64:Int))=_
 simp only[Bool.false_and,Bool.false_eq_true,if_false,Int.reducePow]
theorem gH {x:Int} (h1:0<=x) (h2:x<18446744073709551616):IntKind.wrap .u64 x=x:=by
 rw[jO]
 omega
def zz (n:Int):Int:=if 0<=n then 2*n else -2*n - 1
theorem Sd {a b:Int}:zz a=zz b↔a=b:=by
 unfold zz
 split<;>split<;>omega
theorem r515 (n:Int) (h:eI n):res A az 515 [.int .i64 n]=some [.int .u64 (zz n)]:=by
 refine aw a515 rfl rfl ?_
 simp only[F515,Mx]
 obtain⟨h1,h2⟩:=h
 unfold zz
 simp(disch:=omega)only[go_sem]
 refine Br.aJ (fun c=>?_) (fun c=>?_)
 .have e1:=gH (x:=n) (by omega) (by omega)
  have e2:=gH (x:=2*n) (by omega) (by omega)
  simp(disch:=omega)only[go_sem,e1,e2]
  rw[if_pos c]
 .have e1:=gH (x:=0 - (n+1)) (by omega) (by omega)
  have e2:=gH (x:=2*(0 - (n+1))) (by omega) (by omega)
  have e3:=gH (x:=2*(0 - (n+1))+1) (by omega) (by omega)
  simp(disch:=omega)only[go_sem,e1,e2,e3]
  rw[if_neg c]
  congr 3
  omega
theorem H4 (a b:Int):cA .xor (.pv (.int .u64 a)) (.pv (.int .u64 b))=some (.pv (.int .u64 (IntKind.wrap .u64 (BitVec.ofInt 64 a^^^BitVec.ofInt 64 b).toNat))):=rfl
theorem H5 (a:Int):cA .shl (.pv (.int .u64 a)) (.pv (.int .u64 1))=some (.pv (.int .u64 (IntKind.wrap .u64 (a*2)))):=rfl
theorem H6 (a:Int):cA .shr (.pv (.int .i64 a)) (.pv (.int .u64 63))=some (.pv (.int .i64 (a.fdiv 9223372036854775808))):=rfl
theorem r520 (n:Int) (h:eI n):res A az 520 [.int .i64 n]=some [.int .u64 (zz n)]:=by
 refine aw a520 rfl rfl ?_
 simp only[F520,MC]
 obtain⟨h1,h2⟩:=h
 simp(disch:=omega)only[go_sem,H4,H5,H6]
 congr 3
 rw[jO,jO,jO,jO]
 unfold zz
 by_cases c:0<=n
 .have f1:n.fdiv 9223372036854775808=0:=by
   rw[Int.fdiv_eq_ediv_of_nonneg _ (by decide)]
   omega
  have f2:(n%18446744073709551616*2)%18446744073709551616=2*n:=by omega
  rw[if_pos c,f1,f2]
  have f3:BitVec.ofInt 64 (0%18446744073709551616)=0#64:=by decide
  rw[f3,BitVec.xor_zero]
  simp only[BitVec.toNat_ofInt]
  omega
 .have f1:n.fdiv 9223372036854775808= -1:=by
   rw[Int.fdiv_eq_ediv_of_nonneg _ (by decide)]
   omega
  have f2:(n%18446744073709551616*2)%18446744073709551616=2*n+18446744073709551616:=by omega
  rw[if_neg c,f1,f2]
  have f3:BitVec.ofInt 64 (-1%18446744073709551616)=BitVec.allOnes 64:=by decide
  rw[f3,BitVec.xor_allOnes,BitVec.toNat_not]
  simp only[BitVec.toNat_ofInt]
  omega
theorem r523 (n:Int):res A az 523 [.int .u64 n]=some [.bool false]:=by
 refine aw a523 rfl rfl ?_
 simp only[F523,MF]
 simp(disch:=omega)only[go_sem]
theorem r524 (s:ByteArray):res A az 524 [.str s]=some [.bool false]:=by
 refine aw a524 rfl rfl ?_
 simp only[F524,MG]
 simp(disch:=omega)only[go_sem]
def strLt (a b:ByteArray):Bool:=Go.Op.bytesLess a.toList b.toList
@[go_sem] theorem Py (a b:ByteArray):cA .lss (.pv (.str a)) (.pv (.str b))=some (.pv (.bool (strLt a b))):=rfl
@[go_sem] theorem Pz (a b:ByteArray):cA .gtr (.pv (.str a)) (.pv (.str b))=some (.pv (.bool (!(strLt a b||decide (a=b))))):=by simp only[cA,kO,Option.map_some,oj]; rfl
theorem yW:∀l:List UInt8,Go.Op.bytesLess l l=false
 |[]=>rfl
 |a::l=>by simp[Go.Op.bytesLess,yW l]
theorem C9 (a:ByteArray):strLt a a=false:=yW _
def yX (a b:ByteArray):Int:=if strLt a b=true then -1 else if a=b then 0 else 1
theorem r519 (a b:Int):res A az 519 [.int .u64 a,.int .u64 b]=some [.int .i64 (hC a b)]:=by
 refine aw a519 rfl rfl ?_
 simp only[F519,MB]
 have h1:=r523 a
 have h2:=r523 b
 unfold hC
 simp(disch:=omega)only[go_sem,h1,h2]
 refine Br.aJ (fun c=>?_) (fun c=>?_)
 .simp(disch:=omega)only[go_sem]
  rw[if_pos c]
 .simp(disch:=omega)only[go_sem]
  refine Br.aJ (fun d=>?_) (fun d=>?_)
  .simp(disch:=omega)only[go_sem]
   rw[if_neg c,if_pos d]
  .simp(disch:=omega)only[go_sem]
   rw[if_neg c,if_neg d]
theorem r521 (a b:ByteArray):res A az 521 [.str a,.str b]=some [.int .i64 (yX a b)]:=by
 refine aw a521 rfl rfl ?_
 simp only[F521,MD]
 have h1:=r524 a
 have h2:=r524 b
 unfold yX
 cases hs:strLt a b with
 |true=>simp(disch:=omega)only[go_sem,h1,h2,hs,if_true]
 |false=>
  by_cases he:a=b
  .have e:decide (a=b)=true:=decide_eq_true he
   simp(disch:=omega)only[go_sem,h1,h2,hs,e,Bool.or_true,Bool.not_true]
   rw[if_pos he]
  .have e:decide (a=b)=false:=decide_eq_false he
   simp(disch:=omega)only[go_sem,h1,h2,hs,e,Bool.or_false,Bool.not_false]
   rw[if_neg he]
def AM (l e:Bool):Int:=if e=true then 0 else if l=true then -1 else 1
theorem r514 (l e:Bool):res A az 514 [.bool l,.bool e]=some [.int .i64 (AM l e)]:=by
 refine aw a514 rfl rfl ?_
 simp only[F514,Mw]
 cases e<;>cases l<;>simp(disch:=omega)only[go_sem]<;>rfl
def lG (a b:dw):Int:=if a.kind≠b.kind then 0 else
 if a.kind=1 then (if a.bool=b.bool then 0 else if b.bool=true then -1 else 1)
 else if a.kind=2 then hC (zz a.int) (zz b.int)
 else if a.kind=3 then Fm [hC a.str.size b.str.size,yX a.str b.str]
 else if a.kind=4 then hC a.id b.id else 0
set_option maxHeartbeats 2000000 in
theorem r513 (a b:dw) (ha:eI a.int) (hb:eI b.int) (has:bu a.str) (hbs:bu b.str):res A az 513 [.agg a.c,.agg b.c]=some [.int .i64 (lG a b)]:=by
 refine aw a513 rfl rfl ?_
 simp only[F513,Mu,dw.c]
 unfold bu at has hbs
 have h1:=r520 a.int ha
 have h2:=r520 b.int hb
 have h3:=r519 (zz a.int) (zz b.int)
 have h4:=r60 (Pr:=az) (by kernel_rfl) (a.str.size:Int) (b.str.size:Int)
 have h5:=r521 a.str b.str
 have h6:=fun t=>r59 (Pr:=az) t [hC a.str.size b.str.size,yX a.str b.str] (by simp)
 have h7:=r60 (Pr:=az) (by kernel_rfl) a.id b.id
 unfold lG
 by_cases c0:a.kind=b.kind
 .have e0:decide (a.kind=b.kind)=true:=decide_eq_true c0
  rw[if_neg (by simpa using c0)]
  by_cases c1:a.kind=1
  .have e1:decide (a.kind=1)=true:=decide_eq_true c1
   rw[if_pos c1]
   have b1:decide (true=false)=false:=rfl
   have b2:decide (false=true)=false:=rfl
   cases hab:a.bool<;>cases hbb:b.bool<;>simp(disch:=omega)only[go_sem,e0,e1,hab,hbb,b1,b2]<;>rfl
  .have e1:decide (a.kind=1)=false:=decide_eq_false c1
   rw[if_neg c1]
   by_cases c2:a.kind=2
   .have e2:decide (a.kind=2)=true:=decide_eq_true c2
    rw[if_pos c2]
    simp(disch:=omega)only[go_sem,e0,e1,e2,h1,h2,h3]
   .have e2:decide (a.kind=2)=false:=decide_eq_false c2
    rw[if_neg c2]
    by_cases c3:a.kind=3
    .have e3:decide (a.kind=3)=true:=decide_eq_true c3
     rw[if_pos c3]
     have hi:ints [hC a.str.size b.str.size,yX a.str b.str]=[[.int .i64 (hC a.str.size b.str.size)],[.int .i64 (yX a.str b.str)]]:=rfl
     rw[hi]at h6
     simp(disch:=omega)only[go_sem,e0,e1,e2,e3,h4,h5,h6]
    .have e3:decide (a.kind=3)=false:=decide_eq_false c3
     rw[if_neg c3]
     by_cases c4:a.kind=4
     .have e4:decide (a.kind=4)=true:=decide_eq_true c4
      rw[if_pos c4]
      simp(disch:=omega)only[go_sem,e0,e1,e2,e3,e4,h7]
     .have e4:decide (a.kind=4)=false:=decide_eq_false c4
      rw[if_neg c4]
      simp(disch:=omega)only[go_sem,e0,e1,e2,e3,e4]
 .have e0:decide (a.kind=b.kind)=false:=decide_eq_false c0
  rw[if_pos c0]
  simp(disch:=omega)only[go_sem,e0]
theorem B7 (x y:Int):Fm [x,y]=if x=0 then y else x:=by
 by_cases h:x=0
 .rw[if_pos h]
  subst h
  by_cases g:y=0
  .subst g
   rfl
  .simp[Fm,g]
 .rw[if_neg h]
  simp[Fm,h]
theorem U6 (a b:ByteArray):AM (strLt a b) (decide (a=b))=yX a b:=by
 unfold AM yX
 by_cases h:a=b
 .subst h
  rw[C9]
  simp
 .simp[h]
theorem Se (a b:Int):AM (decide (a<b)) (decide (a=b))=hC a b:=by
 unfold AM hC
 simp only[decide_eq_true_eq]
 by_cases h:a=b
 .rw[if_pos h,if_neg (by omega),if_neg (by omega)]
 .rw[if_neg h]
  by_cases g:a<b
  .rw[if_pos g,if_pos g]
  .rw[if_neg g,if_neg g,if_pos (by omega)]
set_option maxHeartbeats 2000000 in
theorem r509 (a b:dw) (ha:eI a.int) (hb:eI b.int) (has:bu a.str) (hbs:bu b.str):res A az 509 [.agg a.c,.agg b.c]=some [.int .i64 (lG a b)]:=by
 refine aw a509 rfl rfl ?_
 simp only[F509,Mr,dw.c]
 unfold bu at has hbs
 have h1:=r515 a.int ha
 have h2:=r515 b.int hb
 unfold lG
 by_cases c0:a.kind=b.kind
 .have e0:decide (a.kind=b.kind)=true:=decide_eq_true c0
  rw[if_neg (by simpa using c0)]
  by_cases c1:a.kind=1
  .have e1:decide (a.kind=1)=true:=decide_eq_true c1
   rw[if_pos c1]
   have h3:=r514 b.bool (decide (a.bool=b.bool))
   simp(disch:=omega)only[go_sem,e0,e1,h3]
   unfold AM
   cases a.bool<;>cases b.bool<;>rfl
  .have e1:decide (a.kind=1)=false:=decide_eq_false c1
   rw[if_neg c1]
   by_cases c2:a.kind=2
   .have e2:decide (a.kind=2)=true:=decide_eq_true c2
    rw[if_pos c2]
    have h3:=r514 (decide (zz a.int<zz b.int)) (decide (a.int=b.int))
    simp(disch:=omega)only[go_sem,e0,e1,e2,h1,h2,h3]
    unfold AM hC
    simp only[decide_eq_true_eq]
    have:=Sd (a:=a.int) (b:=b.int)
    congr 3
    by_cases d:a.int=b.int
    .rw[if_pos d,d,if_neg (by omega),if_neg (by omega)]
    .rw[if_neg d]
     have d2:zz a.int≠zz b.int:=fun e=>d (this.1 e)
     split
     .rfl
     .rw[if_pos (by omega)]
   .have e2:decide (a.kind=2)=false:=decide_eq_false c2
    rw[if_neg c2]
    by_cases c3:a.kind=3
    .have e3:decide (a.kind=3)=true:=decide_eq_true c3
     rw[if_pos c3]
     by_cases d:(a.str.size:Int)=(b.str.size:Int)
     .have d1:decide ((a.str.size:Int)=(b.str.size:Int))=true:=decide_eq_true d
      have h3:=r514 (strLt a.str b.str) (decide (a.str=b.str))
      simp(disch:=omega)only[go_sem,e0,e1,e2,e3,d1,h3]
      have d2:hC a.str.size b.str.size=0:=by
       unfold hC
       rw[if_neg (by omega),if_neg (by omega)]
      rw[B7,if_pos d2,U6]
     .have d1:decide ((a.str.size:Int)=(b.str.size:Int))=false:=decide_eq_false d
      have h3:=r514 (decide ((a.str.size:Int)<(b.str.size:Int))) false
      simp(disch:=omega)only[go_sem,e0,e1,e2,e3,d1,h3]
      have d2:hC a.str.size b.str.size≠0:=by
       unfold hC
       split
       .decide
       .rw[if_pos (by omega)]
        decide
      rw[B7,if_neg d2,<- Se,d1]
    .have e3:decide (a.kind=3)=false:=decide_eq_false c3
     rw[if_neg c3]
     by_cases c4:a.kind=4
     .have e4:decide (a.kind=4)=true:=decide_eq_true c4
      rw[if_pos c4]
      have h3:=r514 (decide (a.id<b.id)) (decide (a.id=b.id))
      simp(disch:=omega)only[go_sem,e0,e1,e2,e3,e4,h3]
      rw[Se]
     .have e4:decide (a.kind=4)=false:=decide_eq_false c4
      rw[if_neg c4]
      simp(disch:=omega)only[go_sem,e0,e1,e2,e3,e4]
 .have e0:decide (a.kind=b.kind)=false:=decide_eq_false c0
  rw[if_pos c0]
  simp(disch:=omega)only[go_sem,e0]
def Ft (v:dw):dw:=⟨v.kind,if v.kind=1 then v.bool else false,if v.kind=2 then v.int else 0,if v.kind=3 then v.str else ⟨#[]⟩,if v.kind=4\/v.kind=6 then v.id else 0,if v.kind=8 then v.keys else [],if 5<=v.kind then v.items else [],if v.kind=5\/v.kind=6 then v.rest else []⟩
theorem nine {k:Int} (h:1<=k/\k<=9):k=1\/k=2\/k=3\/k=4\/k=5\/k=6\/k=7\/k=8\/k=9:=by omega
theorem r516 (v:dw) (hk:1<=v.kind/\v.kind<=9):res A az 516 [.agg v.c]=some [.agg (Ft v).c]:=by
 refine aw a516 rfl rfl ?_
 simp only[F516,My]
 obtain⟨kind,bool,int,str,id,keys,items,rest⟩:=v
 unfold dw.c Ft
 dsimp only at *
 rcases nine hk with rfl|rfl|rfl|rfl|rfl|rfl|rfl|rfl|rfl<;>
 .simp(disch:=omega)only[go_sem,decide_true,decide_false,Int.reduceEq,Int.reduceLE,if_true,if_false,or_true,true_or,or_false,false_or]
  try rfl
noncomputable def kx (v:dw):Bool:=by
 classical exact decide ((v.kind=1\/v.bool=false)/\(v.kind=2\/v.int=0)/\(v.kind=3\/v.str=⟨#[]⟩)/\(v.kind=4\/v.kind=6\/v.id=0)/\(v.kind=8\/v.keys=[])/\(5<=v.kind\/v.items=[])/\(v.kind=5\/v.kind=6\/v.rest=[]))
set_option maxHeartbeats 4000000 in
theorem r510 (v:dw) (hk:1<=v.kind/\v.kind<=9) (hv:bN v.keys/\bN v.items/\bN v.rest):res A az 510 [.agg v.c]=some [.bool (kx v)]:=by
 refine aw a510 rfl rfl ?_
 simp only[F510,Ms]
 have h1:=r516 v hk
 obtain⟨kind,bool,int,str,id,keys,items,rest⟩:=v
 unfold dw.c Ft at h1
 unfold dw.c
 dsimp only at *
 unfold kx
 have l1:((keys.length:Int)=0)=(keys=[]):=by simp
 have l2:((items.length:Int)=0)=(items=[]):=by simp
 have l3:((rest.length:Int)=0)=(rest=[]):=by simp
 rcases nine hk with rfl|rfl|rfl|rfl|rfl|rfl|rfl|rfl|rfl<;>cases bool<;>
 .simp(disch:=omega)only[go_sem,decide_true,decide_false,Int.reduceEq,Int.reduceLE,if_true,if_false,or_true,true_or,or_false,false_or]at h1
  simp(disch:=omega)only[go_sem,h1,l1,l2,l3,List.length_nil,Int.reduceEq,Int.reduceLE,List.map_nil,reduceCtorEq,decide_false]
  clear h1 hk hv
  repeat' (refine Br.aJ (fun c=>?_) (fun c=>?_)<;>simp(disch:=omega)only[go_sem,c,decide_true,decide_false,reduceCtorEq])
  all_goals first|rfl|(simp; done)|(simp_all; done)
set_option maxHeartbeats 4000000 in
theorem r505 (v:dw) (hk:1<=v.kind/\v.kind<=9) (hv:bN v.keys/\bN v.items/\bN v.rest):res A az 505 [.agg v.c]=some [.bool (kx v)]:=by
 refine aw a505 rfl rfl ?_
 simp only[F505,Mo]
 obtain⟨kind,bool,int,str,id,keys,items,rest⟩:=v
 unfold dw.c kx
 dsimp only at *
 obtain⟨g1,g2,g3⟩:=hv
 unfold bN at g1 g2 g3
 rcases nine hk with rfl|rfl|rfl|rfl|rfl|rfl|rfl|rfl|rfl<;>cases bool<;>
 .simp(disch:=omega)only[go_sem,List.length_nil,Int.reduceEq,Int.reduceLE,List.map_nil,List.length_map,reduceCtorEq,decide_false,decide_true]
  clear hk
  repeat' (refine Br.aJ (fun c=>?_) (fun c=>?_)<;>simp(disch:=omega)only[go_sem,c,decide_true,decide_false,reduceCtorEq])
  all_goals first|rfl|(simp; done)|(simp_all; done)
theorem jt {α:Type} (l:List α) (f:α->Bool):l.all (fun y=>!!f y)=l.all f:=by simp
theorem r508 (u v:Nat) (T:List (List PV)) (t:Int) (l:List (List PV)) (f:List PV->Bool) (hl:l.length<=2^63 - 1) (hv:∀r∈l,∃w:dw,r=w.c) (h:∀r∈l,res A az 502 [.agg [.aq u T],.int .i64 t,.agg r,.bool true]=some [.bool (f r)]):res A az 508 [.agg [.aq u T],.int .i64 t,.aq v l,.bool true]=some [.bool (l.all f)]:=by
 refine aw a508 rfl rfl ?_
 simp only[F508,Mq]
 simp(disch:=omega)only[go_sem]
 refine W.find l (fun r=>!f r) (fun k=>⟨[(1,.pv (.int .i64 t)),(2,.pv (.aq v l)),(3,.pv (.bool true)),(4,.ptr 4 0),(9,.pv (.int .i64 k))],⟨[(4,[.pv (.aq u T)])],[],[]⟩⟩) rfl (fun k x hx hk hfd=>?_) (fun hn=>?_)
 .obtain⟨w,rfl⟩:=hv x (Wr hx)
  have hc:=h w.c (Wr hx)
  have hfd:=fun g=>(hfd g).all
  rw[jt]at hfd
  generalize f w.c=e at hc hfd |-
  unfold dw.c at hc hx
  simp(disch:=omega)only[go_sem]
  refine Br.aJ (fun c=>?_) (fun c=>(c (by omega)).elim)
  simp(disch:=omega)only[go_sem,hx,hc]
  refine Br.of (fun g=>?_) (fun g=>?_)<;>simp(disch:=omega)only[go_sem]
  .exact bA.of (by rw[g]; rfl) rfl
  .rw[hfd (by rw[g]; rfl)]
 .have hn:=hn.all
  rw[jt]at hn
  simp(disch:=omega)only[go_sem]
  rw[hn]
theorem r518 (u a b c:Nat) (T:List (List PV)) (t:Int) (w:dw) (e:Bool) (h:res A az 503 [.agg [.aq u T],.int .i64 t,.agg w.c,.bool true]=some [.bool e]):res A az 518 [.agg w.c,.ro a [.aq u T],.ro b [.int .i64 t],.ro c [.bool true]]=some [.bool (!e)]:=by
 refine aw a518 rfl rfl ?_
 simp only[F518,MA]
 unfold dw.c at h |-
 simp(disch:=omega)only[go_sem,h]
theorem r522 (u v a b c:Nat) (T:List (List PV)) (t:Int) (l:List (List PV)) (f:List PV->Bool) (hl:l.length<=2^63 - 1) (hv:∀r∈l,∃w:dw,r=w.c) (h:∀r∈l,res A az 503 [.agg [.aq u T],.int .i64 t,.agg r,.bool true]=some [.bool (f r)]):res A az 522 [.aq v l,.func 518 [.ro a [.aq u T],.ro b [.int .i64 t],.ro c [.bool true]]]=some [.int .i64 (bk (fun r=>!f r) l)]:=by
 refine aw a522 rfl rfl ?_
 simp only[F522,ME]
 simp(disch:=omega)only[go_sem]
 refine W.find l (fun r=>!f r) (fun k=>⟨[(0,.pv (.aq v l)),(1,.pv (.func 518 [.ro a [.aq u T],.ro b [.int .i64 t],.ro c [.bool true]])),(7,.pv (.int .i64 l.length)),(8,.pv (.int .i64 k))],⟨[],[],[]⟩⟩) rfl (fun k x hx hk hfd=>?_) (fun hn=>?_)
 .obtain⟨w,rfl⟩:=hv x (Wr hx)
  have hc:=r518 u a b c T t w _ (h w.c (Wr hx))
  have hfd:=fun g=>(hfd g).bk
  generalize f w.c=e at hc hfd |-
  unfold dw.c at hc hx
  simp(disch:=omega)only[go_sem]
  refine Br.aJ (fun c=>?_) (fun c=>(c (by omega)).elim)
  simp(disch:=omega)only[go_sem,hx,hc]
  refine Br.of (fun g=>?_) (fun g=>?_)<;>simp(disch:=omega)only[go_sem]
  .exact bA.of (by rw[g]; rfl) rfl
  .rw[hfd (by rw[g]; rfl)]
 .simp(disch:=omega)only[go_sem]
  rw[hn.bk]
theorem AN {α:Type} (f:α->Bool) (l:List α):decide (0<=bk (fun r=>!f r) l)=!l.all f:=by
 unfold bk
 cases h:l.findIdx? (fun r=>!f r)with
 |none=>
  have:=Xk.1 h
  have h2:l.all f=true:=List.all_eq_true.2 fun x hx=>by simpa using this x hx
  simp[h2]
 |some k=>
  obtain⟨hk,h2,_⟩:=WM.1 h
  have h3:l.all f=false:=List.all_eq_false.2 ⟨_,List.getElem_mem hk,by simpa using h2⟩
  rw[h3]
  simp
theorem r512 (u v:Nat) (T:List (List PV)) (t:Int) (l:List (List PV)) (f:List PV->Bool) (hl:l.length<=2^63 - 1) (hv:∀r∈l,∃w:dw,r=w.c) (h:∀r∈l,res A az 503 [.agg [.aq u T],.int .i64 t,.agg r,.bool true]=some [.bool (f r)]):res A az 512 [.agg [.aq u T],.int .i64 t,.aq v l,.bool true]=some [.bool (l.all f)]:=by
 refine aw a512 rfl rfl ?_
 simp only[F512,Mt]
 have h517:∀a b c,res A az 517 [.aq v l,.func 518 [.ro a [.aq u T],.ro b [.int .i64 t],.ro c [.bool true]]]=some [.bool (!l.all f)]:=by
  intro a b c
  refine aw a517 rfl rfl ?_
  simp only[F517,Mz]
  have h522:=r522 u v a b c T t l f hl hv h
  simp(disch:=omega)only[go_sem,h522,AN]
 simp(disch:=omega)only[go_sem,h517,Bool.not_not]
def H7:List PV->List PV->Int
 |[.int _ k,.bool b,.int _ i,.str s,.int _ id,.aq _ ks,.aq _ is,_],[.int _ k',.bool b',.int _ i',.str s',.int _ id',.aq _ ks',.aq _ is',_]=>lG ⟨k,b,i,s,id,ks,is,[]⟩ ⟨k',b',i',s',id',ks',is',[]⟩
 |_,_=>0
theorem oK (a b:dw):H7 a.c b.c=lG a b:=rfl
def Da (l:List (List PV)):Bool:=(l.zip l.tail).all fun q=>decide (H7 q.1 q.2<0)
def gj (rec:Int->List PV->Bool) (x:aI) (v:dw):Bool:=
 if x.kind=1 then true
 else if x.kind=2 then decide (x.low<=v.int)&&decide (v.int<=x.high)
 else if x.kind=3 then decide ((v.str.size:Int)<=x.max)
 else if x.kind=4 then decide (0<=bk (re v.id) x.syms)
 else if x.kind=5 then decide (v.items.length=x.bc.length)&&(x.bc.zip v.items).all fun q=>rec q.1.type q.2
 else if x.kind=6 then (match x.bc.find? (q9 v.id),v.items with
  |some m,[r]=>rec m.type r
  |_,_=>false)
 else if x.kind=7 then decide ((v.items.length:Int)<=x.max)&&v.items.all (rec x.elem)
 else if x.kind=8 then decide ((v.keys.length:Int)<=x.max)&&(decide (v.items.length=v.keys.length)&&(v.keys.all (rec x.key)&&(v.items.all (rec x.elem)&&Da v.keys)))
 else decide ((v.items.length:Int)<=1)&&v.items.all (rec x.elem)
noncomputable def fb (T:List aI):Nat->Int->List PV->Bool
 |0,_,_=>false
 |n+1,t,cs=>match cs with
  |[.int _ k,.bool b,.int _ i,.str s,.int _ id,.aq _ ks,.aq _ is,.aq _ rest]=>
   (match (if t<0 then none else T[t.toNat]?)with
   |none=>false
   |some x=>decide (k=x.kind)&&(kx ⟨k,b,i,s,id,ks,is,[]⟩&&(rest.isEmpty&&gj (fb T n) x ⟨k,b,i,s,id,ks,is,[]⟩)))
  |_=>false
theorem te (T : List aI) (n : Nat) (t : Int) (v : dw) : fb T (n + 1) t v.c = (match (if t < 0 then none else T[t.toNat]?) with
   | none => false
   | some x => decide (v.kind = x.kind) && (kx { v with rest := [] } && (v.rest.isEmpty && gj (fb T n) x { v with rest := [] }))) := by
 unfold dw.c
 simp only [fb,List.isEmpty_map]
def Sf (T:List aI):Prop:=T.length<=2147483648/\(∀x∈T,x.ok)/\∀x∈T,1<=x.kind/\x.kind<=9
theorem oL {α β:Type} {l:List α} {m:List β} {k:Nat} {q:α×β} (h:(l.zip m)[k]?=some q):l[k]?=some q.1/\m[k]?=some q.2:=by
 rw[Xr]at h
 exact h
theorem oN {α β:Type} {l:List α} {m:List β} (h:l.length=m.length):(l.zip m).length=l.length:=by
 rw[List.length_zip]
 omega
theorem oO {α:Type} (l:List α):(l.zip l.tail).length=l.length - 1:=by
 rw[List.length_zip,List.length_tail]
 omega
theorem mC.is {n:Nat} {w:dw} (h:mC n w.c):eI w.int/\bu w.str:=by
 cases n with
 |zero=>exact h.elim
 |succ n=>
  obtain⟨v,hv,⟨_,h2,h3,_⟩,_⟩:=h
  simp only[dw.c,List.cons.injEq,PV.int.injEq,PV.str.injEq]at hv
  obtain⟨_,_,⟨_,e1⟩,e2,_⟩:=hv
  rw[e1,e2]
  exact⟨h2,h3⟩
theorem ky {α:Type} (p:α->Bool) (l:List α):(l.find? p=none/\bk p l= -1)\/∃(k:Nat) (x:α),l.find? p=some x/\l[k]?=some x/\bk p l=k:=by
 unfold bk
 cases h:l.findIdx? p with
 |none=>
  left
  have:=Xk.1 h
  exact⟨List.find?_eq_none.2 fun x hx=>by simp[this x hx],rfl⟩
 |some k=>
  right
  obtain⟨hk,h1,h2⟩:=WM.1 h
  refine⟨k,l[k],?_,Ws hk,rfl⟩
  rw[List.find?_eq_some_iff_getElem]
  exact⟨h1,k,hk,rfl,fun j hj=>by simpa using h2 j hj⟩
theorem Sg (a b c d e f g h:PV):jx 8 0 [[a,b,c,d,e,f,g,h]] (some 0)=some (V.pv (.ro 0 [a,b,c,d,e,f,g,h])):=by rw[gD _ _ _ (by decide)]; rfl
theorem r507 (x:aI) (v:Nat):res A az 507 [.agg x.c,.aq v []]=some [.bool true]:=by
 refine aw a507 rfl rfl ?_
 simp only[F507,Mp]
 unfold aI.c
 simp(disch:=omega)only[go_sem]
 refine W.eG 0 (fun k=>⟨[(1,.pv (.aq v [])),(2,.ptr 2 0),(5,.pv (.int .i64 k))],⟨[(2,x.c.map .pv)],[],[]⟩⟩) (fun _=>True) rfl trivial fun k hk _=>?_
 simp(disch:=omega)only[go_sem]
 refine Br.aJ (fun c=>absurd c (by omega)) (fun c=>?_)
 simp(disch:=omega)only[go_sem]
set_option maxHeartbeats 4000000 in
theorem r502 (u:Nat) (T:List aI) (hT:Sf T):∀(n:Nat) (t:Int) (cs:List PV),mC n cs->eI t->res A az 502 [.agg [.aq u (T.map aI.c)],.int .i64 t,.agg cs,.bool true]=some [.bool (fb T n t cs)]
 |0,_,_,h,_=>h.elim
 |n+1,t,cs,h,ht=>by
  obtain⟨v,rfl,⟨h1,h2,h3,h4⟩,⟨h5,h6,h7⟩,h8,h9,h10⟩:=h
  have ih:=r502 u T hT n
  rw[te]
  obtain⟨ht1,ht2⟩:=ht
  have hTl:=hT.1
  refine aw a502 rfl rfl ?_
  simp only[F502,Mm]
  unfold dw.c
  by_cases c0:t<0
  .rw[if_pos c0]
   have e0:decide (t<0)=true:=decide_eq_true c0
   simp(disch:=omega)only[go_sem,e0]
  .rw[if_neg c0]
   have e0:decide (t<0)=false:=decide_eq_false c0
   obtain⟨k,rfl⟩:=XF (by omega:0<=t)
   rw[Xb]
   by_cases c1:(T.length:Int)<=k
   .rw[W6 (by omega)]
    have e1:decide ((T.length:Int)<=k)=true:=decide_eq_true c1
    simp(disch:=omega)only[go_sem,e0,e1]
   .obtain⟨x,hx⟩:=get_some (l:=T) (k:=k) (by omega)
    have e1:decide ((T.length:Int)<=k)=false:=decide_eq_false c1
    have hxm:=Wr hx
    have hk:=hT.2.2 x hxm
    rw[hx]
    dsimp only
    by_cases ck:v.kind=x.kind
    .have e2:decide (v.kind=x.kind)=true:=decide_eq_true ck
     have h505:=r505 v (by omega) ⟨h5,h6,h7⟩
     rw[e2,Xe]
     cases hz:kx v with
     |false=>
      rw[hz]at h505
      have:(kx { v with rest:=[] }&&(v.rest.isEmpty&&gj (fb T n) x { v with rest:=[] }))=false:=by
       cases hr:v.rest with
       |nil=>rw[show ({ v with rest:=[] }:dw)=v by rw[<- hr],hz]; rfl
       |cons a b=>simp
      rw[this]
      simp only[dw.c]at h505
      simp(disch:=omega)only[go_sem,e0,e1,e2,hx,Option.map_some,aI.c,h505]
     |true=>
      rw[hz]at h505
      simp only[dw.c]at h505
      cases hr:v.rest with
      |cons a b=>
       rw[hr]at h505
       simp only[List.map_cons]at h505
       simp(disch:=omega)only[go_sem,e0,e1,e2,hx,Option.map_some,aI.c,h505,hr]
       refine Br.aJ (fun c=>?_) (fun c=>absurd (by omega) c)
       simp(disch:=omega)only[go_sem,e0,e1,e2,hx,Option.map_some,aI.c,h505,hr]
      |nil=>
       rw[hr]at h505
       simp only[List.map_nil]at h505
       simp(disch:=omega)only[go_sem,e0,e1,e2,hx,Option.map_some,aI.c,h505,hr,List.map_nil]
       refine Br.aJ (fun c=>absurd c (by omega)) (fun c=>?_)
       have hvv:({ v with rest:=[] }:dw)=v:=by rw[<- hr]
       rw[hvv,hz]
       try simp only[List.isEmpty_nil,Bool.true_and]
       have hxo:=hT.2.1 x hxm
       obtain⟨⟨x1,x2,x3,x4,x5,x6,x7⟩,⟨x8,x9⟩,x10,x11⟩:=hxo
       have h393:=r393 x v.id x8
       have h391:=r391 x v.id x9
       have h507:=r507 x
       obtain⟨kind,name,low,high,max,syms,bc,key,elem,jR⟩:=x
       have h508:∀(e:Int) (l:List (List PV)),eI e->bN l->(∀r∈l,mC n r)->res A az 508 [.agg [.aq u (T.map aI.c)],.int .i64 e,.aq 0 l,.bool true]=some [.bool (l.all (fb T n e))]:=fun e l he hl hv=>r508 u 0 _ e l (fb T n e) hl (fun r hr=>(hv r hr).val) (fun r hr=>ih e r (hv r hr) he)
       dsimp only at *
       have hk5:=h508 key v.keys x6 h5 h8
       have he6:=h508 elem v.items x7 h6 h9
       unfold gj
       dsimp only
       simp only[aI.c]at h393 h391 h507
       rcases nine hk with rfl|rfl|rfl|rfl|rfl|rfl|rfl|rfl|rfl
       .simp(disch:=omega)only[go_sem,aI.c,h505,decide_true,decide_false,Int.reduceEq,if_true,if_false]
       .simp(disch:=omega)only[go_sem,aI.c,h505,decide_true,decide_false,Int.reduceEq,if_true,if_false]
        refine Br.aJ (fun c=>?_) (fun c=>?_)<;>simp(disch:=omega)only[go_sem,c,decide_true,decide_false,Bool.true_and,Bool.false_and]
       .simp(disch:=omega)only[go_sem,aI.c,h505,decide_true,decide_false,Int.reduceEq,if_true,if_false]
       .simp(disch:=omega)only[go_sem,aI.c,h505,decide_true,decide_false,Int.reduceEq,if_true,if_false,h393]
        refine Br.aJ (fun c=>?_) (fun c=>?_)<;>simp(disch:=omega)only[go_sem,c,decide_true,decide_false]
        cases jR<;>simp(disch:=omega)only[go_sem,c,decide_false]
       .simp(disch:=omega)only[go_sem,aI.c,h505,decide_true,decide_false,Int.reduceEq,if_true,if_false,h507]
        refine Br.aJ (fun c=>?_) (fun c=>?_)<;>simp(disch:=omega)only[go_sem,c,decide_true,decide_false,Bool.true_and,Bool.false_and]
        .have h507:=h507 0
         simp(disch:=omega)only[go_sem,h507]
         have hml:bc.length=v.items.length:=by omega
         have x9':bc.length<=9223372036854775807:=x9
         rw[decide_eq_true hml.symm,Xe]
         refine W.find (bc.zip v.items) (fun q=>!fb T n q.1.type q.2) (fun k=>⟨[(3,.pv (.bool true)),(4,.ptr 4 0),(6,.ptr 6 0),(9,.ptr 9 0),(12,.pv (.int .i64 k))],⟨[(4,[.pv (.aq u (T.map aI.c))]),(6,[.pv (.int .i64 v.kind),.pv (.bool v.bool),.pv (.int .i64 v.int),.pv (.str v.str),.pv (.int .i64 v.id),.pv (.aq 0 v.keys),.pv (.aq 0 v.items),.pv (.aq 0 [])]),(9,[.pv (.int .i64 5),.pv (.str name),.pv (.int .i64 low),.pv (.int .i64 high),.pv (.int .i64 max),.pv (.aq 0 (syms.map Sym.c)),.pv (.aq 0 (bc.map Mem.c)),.pv (.int .i64 key),.pv (.int .i64 elem),.pv (.bool jR)])],[],[]⟩⟩) rfl (fun k q hq hk hfd=>?_) (fun hn=>?_)
         .obtain⟨g1,g2⟩:=oL hq
          rw[oN hml]at hk
          have hm:=x11 q.1 (Wr g1)
          have hv:=h9 q.2 (Wr g2)
          have hc:=ih q.1.type q.2 hv hm.2.2.1
          have hfd:=fun g=>(hfd g).all
          rw[jt]at hfd
          generalize fb T n q.1.type q.2=e at hc hfd |-
          obtain⟨w,hw⟩:=hv.val
          rw[hw]at hc g2
          unfold dw.c at hc g2
          simp(disch:=omega)only[go_sem]
          refine Br.aJ (fun c=>?_) (fun c=>(c (by omega)).elim)
          simp(disch:=omega)only[go_sem,g1,g2,Option.map_some,Mem.c,hc]
          refine Br.of (fun g=>?_) (fun g=>?_)<;>simp(disch:=omega)only[go_sem]
          .exact bA.of (by rw[g]; rfl) rfl
          .rw[hfd (by rw[g]; rfl)]
         .have hn:=hn.all
          rw[jt]at hn
          rw[oN hml,hn]
          simp(disch:=omega)only[go_sem,hml]
        .have:decide (v.items.length=bc.length)=false:=decide_eq_false (fun e=>c (by rw[e]))
         rw[this,XL]
       .simp(disch:=omega)only[go_sem,aI.c,h505,decide_true,decide_false,Int.reduceEq,if_true,if_false,h391]
        rcases ky (q9 v.id) bc with⟨f1,f2⟩|⟨k,m,f1,f2,f3⟩
        .rw[f1]
         simp(disch:=omega)only[go_sem,f2]
         cases jR<;>simp(disch:=omega)only[go_sem,f2]
        .rw[f1]
         have d0:decide ((0:Int)<=(k:Int))=true:=by simp
         have d1:Max.max (k:Int) 0=(k:Int):=by omega
         simp(disch:=omega)only[go_sem,f2,f3,d0,d1]
         cases hi:v.items with
         |nil=>
          rw[hi]at h6
          have e7:decide (((0:Nat):Int)=1)=false:=rfl
          simp(disch:=omega)only[go_sem,List.length_nil,e7]
         |cons r rs=>
          cases rs with
          |cons r2 rs2=>
           have e7:decide (((rs2.length+1+1:Nat):Int)=1)=false:=decide_eq_false (by omega)
           simp(disch:=omega)only[go_sem,List.length_cons,e7]
          |nil=>
           have hv:=h9 r (by rw[hi]; exact W1)
           have hm:=x11 m (Wr f2)
           have hc:=ih m.type r hv hm.2.2.1
           obtain⟨w,hw⟩:=hv.val
           dsimp only
           generalize fb T n m.type r=e at hc |-
           rw[hw]at hc |-
           unfold dw.c at hc |-
           have e7:decide (((0+1:Nat):Int)=1)=true:=rfl
           have e8:decide (((0:Nat):Int)=0)=true:=rfl
           simp(disch:=omega)only[go_sem,f2,Option.map_some,Mem.c,hc,List.length_cons,List.length_nil,e7,e8,Sg]
       .simp(disch:=omega)only[go_sem,aI.c,h505,decide_true,decide_false,Int.reduceEq,if_true,if_false]
        refine Br.aJ (fun c=>?_) (fun c=>?_)<;>simp(disch:=omega)only[go_sem,c,decide_true,decide_false,Bool.true_and,Bool.false_and,he6]
       .simp(disch:=omega)only[go_sem,aI.c,h505,decide_true,decide_false,Int.reduceEq,if_true,if_false]
        refine Br.aJ (fun c=>?_) (fun c=>?_)
        .rw[show decide ((v.keys.length:Int)<=max)=false from decide_eq_false (by omega),XL]
         simp(disch:=omega)only[go_sem,c,decide_true,decide_false]
        .rw[show decide ((v.keys.length:Int)<=max)=true from decide_eq_true (by omega),Xe]
         simp(disch:=omega)only[go_sem,c,decide_true,decide_false]
         refine Br.aJ (fun d=>?_) (fun d=>?_)
         .rw[show decide (v.items.length=v.keys.length)=true from decide_eq_true (by omega),Xe]
          generalize v.keys.all (fb T n key)=p at hk5 |-
          generalize v.items.all (fb T n elem)=q at he6 |-
          simp(disch:=omega)only[go_sem,d,decide_true,decide_false,hk5]
          cases p
          .simp(disch:=omega)only[go_sem]
          .cases q
           .simp(disch:=omega)only[go_sem,he6]
           .simp(disch:=omega)only[go_sem,he6]
            have h5':v.keys.length<=9223372036854775807:=h5
            refine W.find (v.keys.zip v.keys.tail) (fun q=>!decide (H7 q.1 q.2<0)) (fun k=>⟨[(6,.ptr 6 0),(15,.pv (.int .i64 (((k+1:Nat)):Int)))],⟨[(6,[.pv (.int .i64 v.kind),.pv (.bool v.bool),.pv (.int .i64 v.int),.pv (.str v.str),.pv (.int .i64 v.id),.pv (.aq 0 v.keys),.pv (.aq 0 v.items),.pv (.aq 0 [])])],[],[]⟩⟩) rfl (fun k q hq hk hfd=>?_) (fun hn=>?_)
            .obtain⟨g1,g2⟩:=oL hq
             rw[List.getElem?_tail]at g2
             have hk2:k+1<v.keys.length:=(Wq.1 g2).1
             have e3:(((k+1:Nat):Int)) - 1=(k:Int):=by omega
             simp(disch:=omega)only[go_sem]
             refine Br.aJ (fun c=>?_) (fun c=>(c (by omega)).elim)
             have hv1:=h8 q.1 (Wr g1)
             have hv2:=h8 q.2 (Wr g2)
             obtain⟨w1,hw1⟩:=hv1.val
             obtain⟨w2,hw2⟩:=hv2.val
             have i1:=(hw1 ▸ hv1:mC n w1.c).is
             have i2:=(hw2 ▸ hv2:mC n w2.c).is
             have h509:=r509 w1 w2 i1.1 i2.1 i1.2 i2.2
             rw[hw1]at g1 hfd
             rw[hw2]at g2 hfd
             rw[hw1,hw2]
             have hfd:=fun g=>(hfd g).all
             rw[jt,oK]at hfd
             rw[oK]
             generalize lG w1 w2=e at h509 hfd |-
             unfold dw.c at h509 g1 g2
             simp(disch:=omega)only[go_sem,e3,g1,g2,h509]
             refine Br.aJ (fun g=>?_) (fun g=>?_)<;>simp(disch:=omega)only[go_sem]
             .have:=hfd (by simp; omega)
              rw[show Da v.keys=false from this]
             .exact bA.of (by simp; omega) rfl
            .have:=hn.all
             rw[jt]at this
             rw[show Da v.keys=true from this,oO]
             simp(disch:=omega)only[go_sem]
             refine Br.aJ (fun c=>absurd c (by omega)) (fun c=>?_)
             simp(disch:=omega)only[go_sem]
         .rw[show decide (v.items.length=v.keys.length)=false from decide_eq_false (by omega),XL]
          simp(disch:=omega)only[go_sem,d,decide_true,decide_false]
       .simp(disch:=omega)only[go_sem,aI.c,h505,decide_true,decide_false,Int.reduceEq,if_true,if_false]
        refine Br.aJ (fun c=>?_) (fun c=>?_)<;>simp(disch:=omega)only[go_sem,c,decide_true,decide_false,Bool.true_and,Bool.false_and,he6]
    .have e2:decide (v.kind=x.kind)=false:=decide_eq_false ck
     rw[e2]
     simp(disch:=omega)only[go_sem,e0,e1,e2,hx,Option.map_some,aI.c]
theorem ju {rec:Int->List PV->Bool} {x:aI} {v:dw} (hr:v.rest=[]) (hz:kx v=true):(kx { v with rest:=[] }&&(v.rest.isEmpty&&gj rec x { v with rest:=[] }))=gj rec x v:=by
 rw[show ({ v with rest:=[] }:dw)=v by rw[<- hr],hz,hr]
 rfl
theorem wN {rec:Int->List PV->Bool} {x:aI} {v:dw} {a:Raw} {b:List Raw} (hr:v.rest=a::b):(kx { v with rest:=[] }&&(v.rest.isEmpty&&gj rec x { v with rest:=[] }))=false:=by
 rw[hr]
 simp
set_option maxHeartbeats 4000000 in
theorem r503 (u:Nat) (T:List aI) (hT:Sf T):∀(n:Nat) (t:Int) (cs:List PV),mC n cs->eI t->res A az 503 [.agg [.aq u (T.map aI.c)],.int .i64 t,.agg cs,.bool true]=some [.bool (fb T n t cs)]
 |0,_,_,h,_=>h.elim
 |n+1,t,cs,h,ht=>by
  obtain⟨v,rfl,⟨h1,h2,h3,h4⟩,⟨h5,h6,h7⟩,h8,h9,h10⟩:=h
  have ih:=r503 u T hT n
  rw[te]
  obtain⟨ht1,ht2⟩:=ht
  have hTl:=hT.1
  refine aw a503 rfl rfl ?_
  simp only[F503,Mn]
  unfold dw.c
  by_cases c0:t<0
  .rw[if_pos c0]
   have e0:decide (t<0)=true:=decide_eq_true c0
   simp(disch:=omega)only[go_sem,e0]
  .rw[if_neg c0]
   have e0:decide (t<0)=false:=decide_eq_false c0
   obtain⟨k,rfl⟩:=XF (by omega:0<=t)
   rw[Xb]
   by_cases c1:(T.length:Int)<=k
   .rw[W6 (by omega)]
    have e1:decide ((T.length:Int)<=k)=true:=decide_eq_true c1
    simp(disch:=omega)only[go_sem,e0,e1]
   .obtain⟨x,hx⟩:=get_some (l:=T) (k:=k) (by omega)
    have e1:decide ((T.length:Int)<=k)=false:=decide_eq_false c1
    have hxm:=Wr hx
    have hk:=hT.2.2 x hxm
    rw[hx]
    dsimp only
    by_cases ck:v.kind=x.kind
    .have e2:decide (v.kind=x.kind)=true:=decide_eq_true ck
     have h510:=r510 v (by omega) ⟨h5,h6,h7⟩
     rw[e2,Xe]
     cases hz:kx v with
     |false=>
      rw[hz]at h510
      have:(kx { v with rest:=[] }&&(v.rest.isEmpty&&gj (fb T n) x { v with rest:=[] }))=false:=by
       cases hr:v.rest with
       |nil=>rw[show ({ v with rest:=[] }:dw)=v by rw[<- hr],hz]; rfl
       |cons a b=>simp
      rw[this]
      simp only[dw.c]at h510
      simp(disch:=omega)only[go_sem,e0,e1,e2,hx,Option.map_some,aI.c,h510]
     |true=>
      rw[hz]at h510
      simp only[dw.c]at h510
      have hrest:¬(v.kind=5\/v.kind=6)->v.rest=[]:=fun hn=>by
       unfold kx at hz
       have:=(of_decide_eq_true hz).2.2.2.2.2.2
       rcases this with h|h|h
       .exact absurd (.inl h) hn
       .exact absurd (.inr h) hn
       .exact h
      have hrc:v.rest=[]\/∃a b,v.rest=a::b:=by
       cases v.rest with
       |nil=>exact .inl rfl
       |cons a b=>exact .inr ⟨a,b,rfl⟩
      have hxo:=hT.2.1 x hxm
      obtain⟨⟨x1,x2,x3,x4,x5,x6,x7⟩,⟨x8,x9⟩,x10,x11⟩:=hxo
      have h392:=r392 x v.id x8
      have h281:=r281 x v.id x9
      obtain⟨kind,name,low,high,max,syms,bc,key,elem,jR⟩:=x
      have h512:∀(e:Int) (l:List (List PV)),eI e->bN l->(∀r∈l,mC n r)->res A az 512 [.agg [.aq u (T.map aI.c)],.int .i64 e,.aq 0 l,.bool true]=some [.bool (l.all (fb T n e))]:=fun e l he hl hv=>r512 u 0 _ e l (fb T n e) hl (fun r hr=>(hv r hr).val) (fun r hr=>ih e r (hv r hr) he)
      dsimp only at *
      have hk5:=h512 key v.keys x6 h5 h8
      have he6:=h512 elem v.items x7 h6 h9
      simp only[aI.c]at h392 h281
      rcases nine hk with rfl|rfl|rfl|rfl|rfl|rfl|rfl|rfl|rfl
      .have hr:=hrest (by omega)
       rw[ju hr hz]
       rw[hr]at h510
       simp only[List.map_nil]at h510
       unfold gj
       dsimp only
       simp(disch:=omega)only[go_sem,e0,e1,e2,hx,Option.map_some,aI.c,h510,decide_true,decide_false,Int.reduceEq,if_true,if_false,hr,List.map_nil]
      .have hr:=hrest (by omega)
       rw[ju hr hz]
       rw[hr]at h510
       simp only[List.map_nil]at h510
       unfold gj
       dsimp only
       simp(disch:=omega)only[go_sem,e0,e1,e2,hx,Option.map_some,aI.c,h510,decide_true,decide_false,Int.reduceEq,if_true,if_false,hr,List.map_nil]
       refine Br.aJ (fun c=>?_) (fun c=>?_)<;>simp(disch:=omega)only[go_sem,c,decide_true,decide_false,Bool.true_and,Bool.false_and]
      .have hr:=hrest (by omega)
       rw[ju hr hz]
       rw[hr]at h510
       simp only[List.map_nil]at h510
       unfold gj
       dsimp only
       simp(disch:=omega)only[go_sem,e0,e1,e2,hx,Option.map_some,aI.c,h510,decide_true,decide_false,Int.reduceEq,if_true,if_false,hr,List.map_nil]
      .have hr:=hrest (by omega)
       rw[ju hr hz]
       rw[hr]at h510
       simp only[List.map_nil]at h510
       unfold gj
       dsimp only
       simp(disch:=omega)only[go_sem,e0,e1,e2,hx,Option.map_some,aI.c,h510,decide_true,decide_false,Int.reduceEq,if_true,if_false,hr,List.map_nil,h392]
       refine Br.aJ (fun c=>?_) (fun c=>?_)<;>simp(disch:=omega)only[go_sem,c,decide_true,decide_false]
       cases jR<;>simp(disch:=omega)only[go_sem,c,decide_false]
      .simp(disch:=omega)only[go_sem,e0,e1,e2,hx,Option.map_some,aI.c,h510,decide_true,decide_false,Int.reduceEq,if_true,if_false]
       rcases hrc with hr|⟨a,b,hr⟩
       .rw[ju hr hz]
        unfold gj
        simp only[Int.reduceEq,if_true,if_false]
        rw[hr]
        refine Br.aJ (fun c=>?_) (fun c=>?_)<;>simp(disch:=omega)only[go_sem,c,decide_true,decide_false,Bool.true_and,Bool.false_and,List.map_nil]
        .refine Br.aJ (fun c=>absurd c (by decide)) (fun _=>?_)
         simp(disch:=omega)only[go_sem,List.map_nil,List.length_nil]
         refine W.eG 0 (fun k=>⟨[(3,.pv (.bool true)),(4,.ptr 4 0),(6,.ptr 6 0),(9,.ptr 9 0),(111,.pv (.aq 0 [])),(112,.pv (.int .i64 0)),(113,.pv (.int .i64 k))],⟨[(4,[.pv (.aq u (T.map aI.c))]),(6,[.pv (.int .i64 v.kind),.pv (.bool v.bool),.pv (.int .i64 v.int),.pv (.str v.str),.pv (.int .i64 v.id),.pv (.aq 0 v.keys),.pv (.aq 0 v.items),.pv (.aq 0 [])]),(9,[.pv (.int .i64 5),.pv (.str name),.pv (.int .i64 low),.pv (.int .i64 high),.pv (.int .i64 max),.pv (.aq 0 (syms.map Sym.c)),.pv (.aq 0 (bc.map Mem.c)),.pv (.int .i64 key),.pv (.int .i64 elem),.pv (.bool jR)])],[],[]⟩⟩) (fun _=>True) rfl trivial fun k hk _=>?_
         simp(disch:=omega)only[go_sem]
         refine Br.aJ (fun c=>absurd c (by omega)) (fun _=>?_)
         simp(disch:=omega)only[go_sem]
         have hml:bc.length=v.items.length:=by omega
         have x9':bc.length<=9223372036854775807:=x9
         rw[decide_eq_true hml.symm,Xe]
         refine W.find (bc.zip v.items) (fun q=>!fb T n q.1.type q.2) (fun k=>⟨[(3,.pv (.bool true)),(4,.ptr 4 0),(6,.ptr 6 0),(150,.pv (.aq 0 (bc.map Mem.c))),(151,.pv (.int .i64 bc.length)),(152,.pv (.int .i64 k))],⟨[(4,[.pv (.aq u (T.map aI.c))]),(6,[.pv (.int .i64 v.kind),.pv (.bool v.bool),.pv (.int .i64 v.int),.pv (.str v.str),.pv (.int .i64 v.id),.pv (.aq 0 v.keys),.pv (.aq 0 v.items),.pv (.aq 0 [])])],[],[]⟩⟩) rfl (fun k q hq hk hfd=>?_) (fun hn=>?_)
         .obtain⟨g1,g2⟩:=oL hq
          rw[oN hml]at hk
          have hm:=x11 q.1 (Wr g1)
          have hv:=h9 q.2 (Wr g2)
          have hc:=ih q.1.type q.2 hv hm.2.2.1
          have hfd:=fun g=>(hfd g).all
          rw[jt]at hfd
          generalize fb T n q.1.type q.2=e at hc hfd |-
          obtain⟨w,hw⟩:=hv.val
          rw[hw]at hc g2
          unfold dw.c at hc g2
          simp(disch:=omega)only[go_sem]
          refine Br.aJ (fun c=>?_) (fun c=>(c (by omega)).elim)
          simp(disch:=omega)only[go_sem,g1,g2,Option.map_some,Mem.c,hc]
          refine Br.of (fun g=>?_) (fun g=>?_)<;>simp(disch:=omega)only[go_sem]
          .exact bA.of (by rw[g]; rfl) rfl
          .rw[hfd (by rw[g]; rfl)]
         .have hn:=hn.all
          rw[jt]at hn
          rw[oN hml,hn]
          simp(disch:=omega)only[go_sem,hml]
        .have:decide (v.items.length=bc.length)=false:=decide_eq_false (fun e=>c (by rw[e]))
         rw[this,XL]
       .rw[wN hr]
        rw[hr]
        refine Br.aJ (fun c=>?_) (fun c=>?_)<;>simp(disch:=omega)only[go_sem,c,List.map_cons]
        refine Br.aJ (fun c=>?_) (fun c=>absurd (by omega) c)
        simp(disch:=omega)only[go_sem]
      .simp(disch:=omega)only[go_sem,e0,e1,e2,hx,Option.map_some,aI.c,h510,decide_true,decide_false,Int.reduceEq,if_true,if_false,h281]
       rcases ky (q9 v.id) bc with⟨f1,f2⟩|⟨k,m,f1,f2,f3⟩
       .simp(disch:=omega)only[go_sem,f2]
        have:gj (fb T n) ⟨6,name,low,high,max,syms,bc,key,elem,jR⟩ v=false:=by
         unfold gj
         simp only[f1,Int.reduceEq,if_true,if_false]
        rcases hrc with hr|⟨a,b,hr⟩
        .rw[ju hr hz,this]
         cases jR<;>simp(disch:=omega)only[go_sem,f2]
        .rw[wN hr]
         cases jR<;>simp(disch:=omega)only[go_sem,f2]
       .have d0:decide ((0:Int)<=(k:Int))=true:=by simp
        have d1:Max.max (k:Int) 0=(k:Int):=by omega
        simp(disch:=omega)only[go_sem,f2,f3,d0,d1]
        rcases hrc with hr|⟨a,b,hr⟩
        .rw[ju hr hz]
         unfold gj
         simp only[Int.reduceEq,if_true,if_false]
         rw[f1,hr]
         cases hi:v.items with
         |nil=>
          rw[hi]at h6
          have e7:decide (((0:Nat):Int)=1)=false:=rfl
          simp(disch:=omega)only[go_sem,List.map_nil,List.length_nil,e7]
         |cons r rs=>
          cases rs with
          |cons r2 rs2=>
           have e7:decide (((rs2.length+1+1:Nat):Int)=1)=false:=decide_eq_false (by omega)
           simp(disch:=omega)only[go_sem,List.map_nil,List.length_cons,e7]
          |nil=>
           have hv:=h9 r (by rw[hi]; exact W1)
           have hm:=x11 m (Wr f2)
           have hc:=ih m.type r hv hm.2.2.1
           obtain⟨w,hw⟩:=hv.val
           dsimp only
           generalize fb T n m.type r=e at hc |-
           rw[hw]at hc |-
           unfold dw.c at hc |-
           have e7:decide (((0+1:Nat):Int)=1)=true:=rfl
           have e8:decide (((0:Nat):Int)=0)=true:=rfl
           simp(disch:=omega)only[go_sem,f2,Option.map_some,Mem.c,hc,List.map_nil,List.length_cons,List.length_nil,e7,e8,Sg]
        .rw[wN hr]
         have e8:decide (((b.length+1:Nat):Int)=0)=false:=decide_eq_false (by omega)
         rw[hr]
         refine Br.aJ (fun c=>?_) (fun c=>?_)<;>simp(disch:=omega)only[go_sem,c,List.map_cons,List.length_cons,List.length_map,e8]
      .have hr:=hrest (by omega)
       rw[ju hr hz]
       rw[hr]at h510
       simp only[List.map_nil]at h510
       unfold gj
       dsimp only
       simp(disch:=omega)only[go_sem,e0,e1,e2,hx,Option.map_some,aI.c,h510,decide_true,decide_false,Int.reduceEq,if_true,if_false,hr,List.map_nil]
       refine Br.aJ (fun c=>?_) (fun c=>?_)<;>simp(disch:=omega)only[go_sem,c,decide_true,decide_false,Bool.true_and,Bool.false_and,he6]
      .have hr:=hrest (by omega)
       rw[ju hr hz]
       rw[hr]at h510
       simp only[List.map_nil]at h510
       unfold gj
       dsimp only
       simp(disch:=omega)only[go_sem,e0,e1,e2,hx,Option.map_some,aI.c,h510,decide_true,decide_false,Int.reduceEq,if_true,if_false,hr,List.map_nil]
       refine Br.aJ (fun c=>?_) (fun c=>?_)
       .rw[show decide ((v.keys.length:Int)<=max)=false from decide_eq_false (by omega),XL]
        simp(disch:=omega)only[go_sem,c,decide_true,decide_false]
       .rw[show decide ((v.keys.length:Int)<=max)=true from decide_eq_true (by omega),Xe]
        simp(disch:=omega)only[go_sem,c,decide_true,decide_false]
        refine Br.aJ (fun d=>?_) (fun d=>?_)
        .rw[show decide (v.items.length=v.keys.length)=true from decide_eq_true (by omega),Xe]
         generalize v.keys.all (fb T n key)=p at hk5 |-
         generalize v.items.all (fb T n elem)=q at he6 |-
         simp(disch:=omega)only[go_sem,d,decide_true,decide_false,hk5]
         cases p
         .simp(disch:=omega)only[go_sem]
         .simp(disch:=omega)only[go_sem]
          have h5':v.keys.length<=9223372036854775807:=h5
          rw[Xe]
          refine W.find (v.keys.zip v.keys.tail) (fun q=>!decide (H7 q.1 q.2<0)) (fun k=>⟨[(3,.pv (.bool true)),(4,.ptr 4 0),(6,.ptr 6 0),(9,.ptr 9 0),(20,.pv (.int .i64 (((k+1:Nat)):Int)))],⟨[(4,[.pv (.aq u (T.map aI.c))]),(6,[.pv (.int .i64 v.kind),.pv (.bool v.bool),.pv (.int .i64 v.int),.pv (.str v.str),.pv (.int .i64 v.id),.pv (.aq 0 v.keys),.pv (.aq 0 v.items),.pv (.aq 0 [])]),(9,[.pv (.int .i64 8),.pv (.str name),.pv (.int .i64 low),.pv (.int .i64 high),.pv (.int .i64 max),.pv (.aq 0 (syms.map Sym.c)),.pv (.aq 0 (bc.map Mem.c)),.pv (.int .i64 key),.pv (.int .i64 elem),.pv (.bool jR)])],[],[]⟩⟩) rfl (fun k q hq hk hfd=>?_) (fun hn=>?_)
          .obtain⟨g1,g2⟩:=oL hq
           rw[List.getElem?_tail]at g2
           have hk2:k+1<v.keys.length:=(Wq.1 g2).1
           have e3:(((k+1:Nat):Int)) - 1=(k:Int):=by omega
           simp(disch:=omega)only[go_sem]
           refine Br.aJ (fun c=>?_) (fun c=>(c (by omega)).elim)
           have hv1:=h8 q.1 (Wr g1)
           have hv2:=h8 q.2 (Wr g2)
           obtain⟨w1,hw1⟩:=hv1.val
           obtain⟨w2,hw2⟩:=hv2.val
           have i1:=(hw1 ▸ hv1:mC n w1.c).is
           have i2:=(hw2 ▸ hv2:mC n w2.c).is
           have h513:=r513 w1 w2 i1.1 i2.1 i1.2 i2.2
           rw[hw1]at g1 hfd
           rw[hw2]at g2 hfd
           rw[hw1,hw2]
           have hfd:=fun g=>(hfd g).all
           rw[jt,oK]at hfd
           rw[oK]
           generalize lG w1 w2=e at h513 hfd |-
           unfold dw.c at h513 g1 g2
           simp(disch:=omega)only[go_sem,e3,g1,g2,h513]
           refine Br.aJ (fun g=>?_) (fun g=>?_)<;>simp(disch:=omega)only[go_sem]
           .have:=hfd (by simp; omega)
            rw[show Da v.keys=false from this,Bool.and_false]
           .exact bA.of (by simp; omega) rfl
          .have:=hn.all
           rw[jt]at this
           rw[show Da v.keys=true from this,oO,Bool.and_true]
           simp(disch:=omega)only[go_sem]
           refine Br.aJ (fun c=>absurd c (by omega)) (fun c=>?_)
           simp(disch:=omega)only[go_sem,he6]
        .rw[show decide (v.items.length=v.keys.length)=false from decide_eq_false (by omega),XL]
         simp(disch:=omega)only[go_sem,d,decide_true,decide_false]
      .have hr:=hrest (by omega)
       rw[ju hr hz]
       rw[hr]at h510
       simp only[List.map_nil]at h510
       unfold gj
       dsimp only
       simp(disch:=omega)only[go_sem,e0,e1,e2,hx,Option.map_some,aI.c,h510,decide_true,decide_false,Int.reduceEq,if_true,if_false,hr,List.map_nil]
       refine Br.aJ (fun c=>?_) (fun c=>?_)<;>simp(disch:=omega)only[go_sem,c,decide_true,decide_false,Bool.true_and,Bool.false_and,he6]
    .have e2:decide (v.kind=x.kind)=false:=decide_eq_false ck
     rw[e2]
     simp(disch:=omega)only[go_sem,e0,e1,e2,hx,Option.map_some,aI.c]
noncomputable def uq (T:List aI) (t:Int) (cs:List PV):Bool:=by
 classical exact decide (∃n,mC n cs/\fb T n t cs=true)
theorem H8 {T:List aI} (hT:Sf T) {n:Nat} {t:Int} {cs:List PV} (h:mC n cs) (ht:eI t):uq T t cs=fb T n t cs:=by
 have key:∀m,mC m cs->fb T m t cs=fb T n t cs:=fun m hm=>by
  have h1:=r502 0 T hT n t cs h ht
  have h2:=r502 0 T hT m t cs hm ht
  rw[h1]at h2
  simpa using h2.symm
 classical
 unfold uq
 cases hf:fb T n t cs with
 |true=>exact decide_eq_true ⟨n,h,hf⟩
 |false=>exact decide_eq_false fun⟨m,hm,he⟩=>by rw[key m hm,hf]at he; cases he
theorem r495 (u:Nat) (T:List aI) (hT:Sf T) (n:Nat) (t:Int) (v:dw) (h:mC n v.c) (ht:eI t):res A az 495 [.agg [.aq u (T.map aI.c)],.int .i64 t,.agg v.c]=some [.bool (uq T t v.c)]:=by
 have h503:=r503 u T hT n t v.c h ht
 rw[H8 hT h ht]
 generalize fb T n t v.c=e at *
 refine aw a495 rfl rfl ?_
 simp only[F495,Mh]
 unfold dw.c at h503 |-
 simp(disch:=omega)only[go_sem,h503]
noncomputable def nk (T:List aI) (m:Mem):Bool:=m.has&&!uq T m.type m.ib.c
noncomputable def p5 (T:List aI) (x:aI):Bool:=x.bc.any (nk T)
noncomputable def Ju (T:List aI):Int×Int×Int:=
 if cP T≠0 then (0,0,cP T) else match T.findIdx? (p5 T)with
 |none=>(0,0,0)
 |some k=>(k,((T[k]?).bind fun x=>(x.bc.find? (nk T)).map (·.id)).getD 0,1)
theorem Fu {T:List aI} (ho:∀t∈T,t.ok) (h:cP T=0):Sf T:=by
 have hs:=fa h
 refine⟨by have:=hs.len; omega,ho,fun x hx=>?_⟩
 have:=hs.own x hx
 unfold dN at this
 simp only[Bool.and_eq_true,decide_eq_true_eq]at this
 exact this.1
set_option maxHeartbeats 2000000 in
theorem r484 (u:Nat) (T:List aI) (hl:T.length<=2147483648) (ho:∀t∈T,t.ok) (hs:∀t∈T,t.short):res A az 484 [.agg [.aq u (T.map aI.c)]]=some [.int .i64 (Ju T).1,.int .i64 (Ju T).2.1,.int .i64 (Ju T).2.2]:=by
 have h267:=r267 u T hl ho hs
 refine aw a484 rfl rfl ?_
 simp only[F484,L9]
 simp(disch:=omega)only[go_sem,h267]
 unfold Ju
 refine Br.aJ (fun c=>?_) (fun c=>?_)<;>simp(disch:=omega)only[go_sem,c,decide_true,decide_false]
 rotate_left
 .rw[if_pos c]
 rw[if_neg (by simp[c])]
 have hT:=Fu ho c
 obtain⟨G,hG⟩:∃G:Int×Int×Int,(match T.findIdx? (p5 T)with
  |none=>(0,0,0)
  |some k=>(k,((T[k]?).bind fun x=>(x.bc.find? (nk T)).map (·.id)).getD 0,1))=G:=⟨_,rfl⟩
 rw[hG]
 refine W.find T (p5 T) (fun k=>⟨[(1,.ptr 1 0),(16,.pv (.aq u (T.map aI.c))),(17,.pv (.int .i64 T.length)),(18,.pv (.int .i64 k))],⟨[(1,[.pv (.aq u (T.map aI.c))])],[],[]⟩⟩) rfl (fun k x hx hk hfd=>?_) (fun hn=>?_)
 .have hxm:=Wr hx
  have hml:=(hs x hxm).bc
  obtain⟨_,⟨_,x9⟩,_,x11⟩:=ho x hxm
  simp(disch:=omega)only[go_sem]
  refine Br.aJ (fun c=>?_) (fun c=>(c (by omega)).elim)
  simp(disch:=omega)only[go_sem,hx,Option.map_some,aI.c]
  refine W.find x.bc (nk T) (fun j=>⟨[(1,.ptr 1 0),(6,.pv (.int .i64 k)),(16,.pv (.aq u (T.map aI.c))),(17,.pv (.int .i64 T.length)),(18,.pv (.int .i64 k)),(24,.pv (.aq 0 (x.bc.map Mem.c))),(25,.pv (.int .i64 x.bc.length)),(26,.pv (.int .i64 j))],⟨[(1,[.pv (.aq u (T.map aI.c))])],[],[]⟩⟩) rfl (fun j m hm hj hfm=>?_) (fun hn=>?_)
  .obtain⟨_,_,m3,n,m4⟩:=x11 m (Wr hm)
   have h495:=r495 u T hT n m.type m.ib m4 m3
   have hw:nk T m=(m.has&&!uq T m.type m.ib.c):=rfl
   generalize uq T m.type m.ib.c=e at h495 hw
   unfold dw.c at h495
   simp(disch:=omega)only[go_sem]
   refine Br.aJ (fun c=>?_) (fun c=>(c (by omega)).elim)
   simp(disch:=omega)only[go_sem,hm,Option.map_some,Mem.c,h495]
   cases hh:m.has with
   |false=>
    rw[hh]at hw
    simp(disch:=omega)only[go_sem]
    exact bA.of (by rw[hw]; rfl) rfl
   |true=>
    rw[hh]at hw
    simp(disch:=omega)only[go_sem,hm,Option.map_some,Mem.c,h495]
    cases e
    .have hf:=hfm (by rw[hw]; rfl)
     have hf2:=hfd hf.any
     simp(disch:=omega)only[go_sem,hm,Option.map_some,Mem.c]
     rw[<- hG,hf2.idx]
     dsimp only
     rw[hx,Option.bind_some,hf.find]
     rfl
    .simp(disch:=omega)only[go_sem]
     exact bA.of (by rw[hw]; rfl) rfl
  .simp(disch:=omega)only[go_sem]
   exact bA.of hn.any rfl
 .simp(disch:=omega)only[go_sem]
  rw[<- hG,hn.idx]
noncomputable def gk (T:List aI):Int:=(Ju T).2.2
theorem tf {T:List aI} (h:cP T≠0):gk T=cP T:=by
 unfold gk Ju
 rw[if_pos h]
theorem lH {T:List aI} (h:gk T=0):cP T=0/\∀x∈T,∀m∈x.bc,m.has=true->uq T m.type m.ib.c=true:=by
 by_cases hv:cP T=0
 .refine⟨hv,fun x hx m hm hh=>?_⟩
  unfold gk Ju at h
  rw[if_neg (by simp[hv])]at h
  cases hf:T.findIdx? (p5 T)with
  |none=>
   have h1:=Xk.1 hf x hx
   have h2:=Xc.1 h1 m hm
   unfold nk at h2
   rw[hh]at h2
   simpa using h2
  |some k=>
   rw[hf]at h
   cases h
 .rw[tf hv]at h
  exact absurd h hv
theorem r473 (u:Nat) (T:List aI) (hl:T.length<=2147483648) (ho:∀t∈T,t.ok) (hs:∀t∈T,t.short):res A az 473 [.agg [.aq u (T.map aI.c)]]=some [.int .i64 (gk T)]:=by
 have h267:=r267 u T hl ho hs
 have h484:=r484 u T hl ho hs
 have hb:=tf (T:=T)
 unfold gk at hb |-
 refine aw a473 rfl rfl ?_
 simp only[F473,L3]
 simp(disch:=omega)only[go_sem,h267]
 refine Br.aJ (fun c=>?_) (fun c=>?_)<;>simp(disch:=omega)only[go_sem,h484,c,decide_true,decide_false]
 rw[hb c]
def kL (n:List Int) (i:Int):Int:=n.getD i.toNat 0
def jQ (b:Bool) (x:aI) (n:List Int):Int:=
 if x.kind=2 then (if x.low=x.high then 1 else 2)
 else if x.kind=3 then (if x.max=0 then 1 else 2)
 else if x.kind=4 then min 2 x.syms.length
 else if x.kind=5 then x.bc.foldl (fun c m=>min 2 (c*kL n m.type)) 1
 else if x.kind=6 then x.bc.foldl (fun c m=>min 2 (c+kL n m.type)) 0
 else if x.kind=7 then (if x.max=0\/kL n x.elem=0 then 1 else 2)
 else if x.kind=8 then (if x.max=0\/kL n x.elem=0\/b=true/\kL n x.key=0 then 1 else 2)
 else if x.kind=9 then min 2 (1+kL n x.elem)
 else 2
def yY (n:List Int):Prop:=∀x∈n,0<=x/\x<=2
def kN (n m:List Int):Prop:=n.length=m.length/\∀k:Nat,n.getD k 0<=m.getD k 0
theorem yY.at {n:List Int} (h:yY n) (k:Nat):0<=n.getD k 0/\n.getD k 0<=2:=by
 rw[WS]
 cases hk:n[k]? with
 |none=>simp
 |some x=>exact h x (Wr hk)
theorem kN.refl (n:List Int):kN n n:=⟨rfl,fun _=>X8 _⟩
theorem kN.trans {a b c:List Int} (h:kN a b) (g:kN b c):kN a c:=⟨h.1.trans g.1,fun k=>Int.le_trans (h.2 k) (g.2 k)⟩
theorem kN.MX {a b:List Int} (h:kN a b) (g:kN b a):a=b:=by
 refine List.ext_getElem h.1 fun k h1 h2=>?_
 have e1:=h.2 k
 have e2:=g.2 k
 rw[WS,WS,Ws h1,Ws h2]at e1 e2
 simp at e1 e2
 omega
theorem th {α:Type} (f:Int->α->Int) (hf:∀c a,0<=c->0<=f c a/\f c a<=2):∀(l:List α) (c:Int),0<=c->c<=2->0<=l.foldl f c/\l.foldl f c<=2
 |[],c,h1,h2=>⟨h1,h2⟩
 |a::l,c,h1,_=>th f hf l _ (hf c a h1).1 (hf c a h1).2
theorem p6 {α:Type} {l0:List α} (f g:Int->α->Int) (hf:∀c d a,a∈l0->0<=c->c<=d->0<=f c a/\f c a<=g d a):∀(l:List α) (c d:Int),(∀a∈l,a∈l0)->0<=c->c<=d->l.foldl f c<=l.foldl g d
 |[],_,_,_,_,h2=>h2
 |a::l,c,d,hl,h1,h2=>p6 f g hf l _ _ (fun x hx=>hl x (WK _ hx)) (hf c d a (hl a W1) h1 h2).1 (hf c d a (hl a W1) h1 h2).2
theorem Fv {c a:Int} (h1:0<=c) (h2:0<=a):0<=min 2 (c*a)/\min 2 (c*a)<=2:=by
 have:=Int.mul_nonneg h1 h2
 omega
theorem wO (b:Bool) (x:aI) {n:List Int} (hn:yY n):0<=jQ b x n/\jQ b x n<=2:=by
 have ha:∀i,0<=kL n i/\kL n i<=2:=fun i=>hn.at _
 unfold jQ
 repeat' split
 all_goals first|decide|skip
 .omega
 .exact th _ (fun c m h=>Fv h (ha _).1) _ _ (by decide) (by decide)
 .exact th _ (fun c m h=>by have:=ha m.type; omega) _ _ (by decide) (by decide)
 .have:=ha x.elem
  omega
theorem tj (b:Bool) (x:aI) {n m:List Int} (hn:yY n) (h:kN n m):jQ b x n<=jQ b x m:=by
 have ha:∀i,0<=kL n i:=fun i=>(hn.at _).1
 have hm:∀i,kL n i<=kL m i:=fun i=>h.2 _
 unfold jQ
 repeat' split
 all_goals first|decide|omega|skip
 .refine p6 (l0:=x.bc) _ _ (fun c d a _ h1 h2=>?_) _ _ _ (fun _ h=>h) (by decide) (X8 _)
  refine⟨(Fv h1 (ha _)).1,?_⟩
  have:=Int.mul_le_mul h2 (hm a.type) (ha _) (by omega)
  omega
 .refine p6 (l0:=x.bc) _ _ (fun c d a _ h1 h2=>?_) _ _ _ (fun _ h=>h) (by decide) (X8 _)
  have:=ha a.type
  have:=hm a.type
  omega
 .rename_i h1 h2
  have e1:=ha x.elem
  have e2:=hm x.elem
  exact absurd (h2.imp id fun h=>by omega) h1
 .rename_i h1 h2
  have e1:=ha x.elem
  have e2:=hm x.elem
  have e3:=ha x.key
  have e4:=hm x.key
  exact absurd (h2.imp id fun h=>h.imp (fun h=>by omega) (fun h=>⟨h.1,by omega⟩)) h1
 .have:=hm x.elem
  omega
theorem MY (x:aI) (n:List Int) (hn:yY n):jQ true x n<=jQ false x n:=by
 have ha:∀i,0<=kL n i:=fun i=>(hn.at _).1
 unfold jQ
 repeat' split
 all_goals first|decide|omega|skip
 rename_i h1 h2
 exact absurd (h2.imp id fun h=>h.imp id (fun h=>⟨by simp at h,by simp at h⟩)) h1
def swp (b:Bool) (T:List aI) (n:List Int):Nat->List Int
 |0=>n
 |k+1=>match T[k]? with
  |some x=>(swp b T n k).set k (jQ b x (swp b T n k))
  |none=>swp b T n k
theorem im {n:List Int} {k:Nat} {x:Int} (i:Nat) (hk:k<n.length):(n.set k x).getD i 0=if i=k then x else n.getD i 0:=by
 rw[WS,List.getElem?_set]
 by_cases h:k=i
 .subst h
  rw[if_pos rfl,if_pos hk,if_pos rfl]
  rfl
 .rw[if_neg h,if_neg (fun e=>h e.symm),WS]
def B8 (b:Bool) (T:List aI) (n:List Int):Prop:=n.length=T.length/\yY n/\∀k x,T[k]?=some x->n.getD k 0<=jQ b x n
theorem yY.set {n:List Int} (h:yY n) {k:Nat} {x:Int} (hx:0<=x/\x<=2):yY (n.set k x):=fun y hy=>by
 rcases XZ hy with h1|rfl
 .exact h y h1
 .exact hx
theorem kN.set {n:List Int} {k:Nat} {x:Int} (hk:k<n.length) (hx:n.getD k 0<=x):kN n (n.set k x):=by
 refine⟨(XN ..).symm,fun i=>?_⟩
 rw[im i hk]
 split
 .rename_i h
  rw[h]
  exact hx
 .exact X8 _
theorem B8.step {b:Bool} {T:List aI} {n:List Int} (h:B8 b T n) {k:Nat} {x:aI} (hx:T[k]?=some x):B8 b T (n.set k (jQ b x n))/\kN n (n.set k (jQ b x n)):=by
 obtain⟨h1,h2,h3⟩:=h
 have hk:k<n.length:=h1 ▸ (Wq.1 hx).1
 have hle:=kN.set hk (h3 k x hx)
 refine⟨⟨by rw[XN,h1],h2.set (wO b x h2),fun j y hy=>?_⟩,hle⟩
 have hm:=tj b y h2 hle
 rw[im j hk]
 split
 .rename_i e
  rw[e,hx]at hy
  cases hy
  exact hm
 .exact Int.le_trans (h3 j y hy) hm
theorem B8.swp {b:Bool} {T:List aI} {n:List Int} (h:B8 b T n):∀k,B8 b T (swp b T n k)/\kN n (swp b T n k)
 |0=>⟨h,kN.refl n⟩
 |k+1=>by
  obtain⟨h1,h2⟩:=B8.swp h k
  unfold Go.Pv.swp
  split
  .rename_i x hx
   obtain⟨h3,h4⟩:=h1.step hx
   exact⟨h3,h2.trans h4⟩
  .exact⟨h1,h2⟩
def Fix (b:Bool) (T:List aI) (n:List Int):Prop:=n.length=T.length/\yY n/\∀k x,T[k]?=some x->n.getD k 0=jQ b x n
def qK (b:Bool) (T:List aI) (n:List Int):Prop:=Fix b T n/\∀m,Fix b T m->kN n m
theorem qK.uniq {b:Bool} {T:List aI} {n m:List Int} (h:qK b T n) (g:qK b T m):n=m:=(h.2 m g.1).MX (g.2 n h.1)
theorem AO {b:Bool} {T:List aI} {n m:List Int} (hn:yY n) (hm:Fix b T m) (h:kN n m) {k:Nat} {x:aI} (hx:T[k]?=some x):kN (n.set k (jQ b x n)) m:=by
 have hk:k<n.length:=by rw[h.1,hm.1]; exact(Wq.1 hx).1
 refine⟨by rw[XN,h.1],fun i=>?_⟩
 rw[im i hk]
 split
 .rename_i e
  rw[e,hm.2.2 k x hx]
  exact tj b x hn h
 .exact h.2 i
theorem me {b:Bool} {T:List aI} {n m:List Int} (hn:B8 b T n) (hm:Fix b T m) (h:kN n m):∀k,kN (swp b T n k) m
 |0=>h
 |k+1=>by
  unfold swp
  split
  .rename_i x hx
   exact AO (hn.swp k).1.2.1 hm (me hn hm h k) hx
  .exact me hn hm h k
theorem Fw {b:Bool} {T:List aI} {n:List Int} (hn:B8 b T n) (h:kN (swp b T n T.length) n):Fix b T n:=by
 have key:∀k,k<=T.length->swp b T n k=n:=fun k hk=>by
  have up:∀j,kN (swp b T n k) (swp b T n (k+j)):=fun j=>by
   induction j with
   |zero=>exact kN.refl _
   |succ j ih=>
    rw[<- XD]
    refine ih.trans ?_
    show kN _ (match T[k+j]? with
     |some x=>(swp b T n (k+j)).set (k+j) (jQ b x (swp b T n (k+j)))
     |none=>swp b T n (k+j))
    split
    .rename_i x hx
     exact((hn.swp (k+j)).1.step hx).2
    .exact kN.refl _
  have:=up (T.length - k)
  rw[show k+(T.length - k)=T.length by omega]at this
  exact(this.trans h).MX (hn.swp k).2
 refine⟨hn.1,hn.2.1,fun k x hx=>?_⟩
 have hk:=(Wq.1 hx).1
 have h1:=key (k+1) hk
 have h2:=key k (by omega)
 unfold swp at h1
 rw[hx]at h1
 dsimp only at h1
 rw[h2]at h1
 have h3:=im (n:=n) (x:=jQ b x n) k (by rw[hn.1]; exact hk)
 rw[h1,if_pos rfl]at h3
 exact h3
def p7 (n:List Int):Int:=n.foldl (·+·) 0
theorem tp:∀(n:List Int) (a:Int),n.foldl (·+·) a=a+p7 n
 |[],a=>by simp[p7]
 |x::n,a=>by
  show n.foldl (·+·) (a+x)=a+n.foldl (·+·) (0+x)
  rw[tp n (a+x),tp n (0+x)]
  omega
theorem p8 (x:Int) (n:List Int):p7 (x::n)=x+p7 n:=by
 show n.foldl (·+·) (0+x)=_
 rw[tp]
 omega
theorem wP:∀{a b:List Int},kN a b->p7 a<=p7 b/\(a≠b->p7 a<p7 b)
 |[],[],_=>⟨X8 _,fun h=>(h rfl).elim⟩
 |[],_::_,h=>absurd h.1 (by simp)
 |_::_,[],h=>absurd h.1 (by simp)
 |x::a,y::b,h=>by
  have h0:=h.2 0
  have ht:kN a b:=⟨by have:=h.1; simpa using this,fun k=>by simpa using h.2 (k+1)⟩
  obtain⟨h1,h2⟩:=wP ht
  simp at h0
  rw[p8,p8]
  refine⟨by omega,fun hne=>?_⟩
  by_cases e:a=b
  .have:x≠y:=fun e2=>hne (by rw[e,e2])
   omega
  .have:=h2 e
   omega
theorem oP:∀{n:List Int},yY n->0<=p7 n/\p7 n<=2*n.length
 |[],_=>by simp[p7]
 |x::n,h=>by
  have h1:=h x W1
  have h2:=oP (n:=n) fun y hy=>h y (WK _ hy)
  rw[p8,Yf]
  omega
def kM (b:Bool) (T:List aI):Nat->List Int
 |0=>List.replicate T.length 0
 |r+1=>swp b T (kM b T r) T.length
theorem yZ (b:Bool) (T:List aI):B8 b T (List.replicate T.length 0):=by
 have h2:yY (List.replicate T.length 0):=fun x hx=>by
  rw[List.mem_replicate]at hx
  omega
 refine⟨Yc,h2,fun k x _=>?_⟩
 have h1:=wO b x h2
 rw[WS,XQ]
 split<;>simpa using h1.1
theorem gI (b:Bool) (T:List aI):∀r,B8 b T (kM b T r)
 |0=>yZ b T
 |r+1=>((gI b T r).swp _).1
theorem nn {b:Bool} {T:List aI} {m:List Int} (hm:Fix b T m):∀r,kN (kM b T r) m
 |0=>by
  refine⟨by rw[hm.1]; exact Yc,fun k=>?_⟩
  have h1:=hm.2.1.at k
  show (List.replicate T.length (0:Int)).getD k 0<=_
  rw[WS,XQ]
  split<;>simpa using h1.1
 |r+1=>me (gI b T r) hm (nn hm r) _
theorem B9 {b:Bool} {T:List aI} {n:List Int} (h:Fix b T n):∀k,swp b T n k=n
 |0=>rfl
 |k+1=>by
  unfold swp
  rw[B9 h k]
  split
  .rename_i x hx
   have hk:k<n.length:=by rw[h.1]; exact(Wq.1 hx).1
   rw[<- h.2.2 k x hx,WS,Ws hk]
   simp
  .rfl
theorem np (b:Bool) (T:List aI):qK b T (kM b T (2*T.length+1)):=by
 have key:∀r,Fix b T (kM b T r)\/(r:Int)<=p7 (kM b T r):=fun r=>by
  induction r with
  |zero=>exact .inr (oP (yZ b T).2.1).1
  |succ r ih=>
   rcases ih with h|h
   .left
    show Fix b T (swp b T (kM b T r) T.length)
    rw[B9 h]
    exact h
   .have hl:=gI b T r
    by_cases e:kM b T r=kM b T (r+1)
    .left
     rw[<- e]
     exact Fw hl (by show kN (kM b T (r+1)) _; rw[<- e]; exact kN.refl _)
    .right
     have:=(wP (hl.swp T.length).2).2 e
     have e2:kM b T (r+1)=swp b T (kM b T r) T.length:=rfl
     rw[e2]
     omega
 refine⟨(key _).resolve_right fun h=>?_,fun m hm=>nn hm _⟩
 have h1:=oP (gI b T (2*T.length+1)).2.1
 rw[(gI b T (2*T.length+1)).1]at h1
 omega
theorem Db {T:List aI} {n:List Int} (h:qK true T n) (hk:∀x∈T,x.kind=8->kL n x.key≠0):qK false T n:=by
 obtain⟨⟨h1,h2,h3⟩,h4⟩:=h
 have hf:Fix false T n:=⟨h1,h2,fun k x hx=>by
  rw[h3 k x hx]
  have:=hk x (Wr hx)
  unfold jQ
  by_cases c:x.kind=8
  .have:=this c
   simp[c,this]
  .simp[c]⟩
 refine⟨hf,fun m hm=>?_⟩
 have hr:=np true T
 have e:n=kM true T (2*T.length+1):=qK.uniq ⟨⟨h1,h2,h3⟩,h4⟩ hr
 rw[e]
 have key:∀r,kN (kM true T r) m:=fun r=>by
  induction r with
  |zero=>
   refine⟨by rw[hm.1]; exact Yc,fun k=>?_⟩
   have h1:=hm.2.1.at k
   show (List.replicate T.length (0:Int)).getD k 0<=_
   rw[WS,XQ]
   split<;>simpa using h1.1
  |succ r ih=>
   have:∀k,kN (swp true T (kM true T r) k) m:=fun k=>by
    induction k with
    |zero=>exact ih
    |succ k ih2=>
     unfold swp
     split
     .rename_i x hx
      have hl:=((gI true T r).swp k).1.2.1
      have hk:k<(swp true T (kM true T r) k).length:=by rw[ih2.1,hm.1]; exact(Wq.1 hx).1
      refine⟨by rw[XN,ih2.1],fun i=>?_⟩
      rw[im i hk]
      split
      .rename_i e
       rw[e,hm.2.2 k x hx]
       exact Int.le_trans (MY x _ hl) (tj false x hl ih2)
      .exact ih2.2 i
     .exact ih2
   exact this _
 exact key _
def Fx (x:aI) (n:List Int):Int:=
 if x.kind=4 then x.syms.length
 else if x.kind=6 then x.bc.foldl (fun c m=>c+kL n m.type) 0
 else if x.kind=9 then 1+kL n x.elem
 else jQ true x n
theorem y3 {n:List Int} (ha:∀i,0<=kL n i):∀(l:List Mem) (c:Int),0<=c->min 2 (l.foldl (fun c m=>c+kL n m.type) c)=l.foldl (fun c m=>min 2 (c+kL n m.type)) (min 2 c)
 |[],_,_=>rfl
 |m::l,c,h=>by
  have h1:=ha m.type
  rw[Xy,Xy,y3 ha l _ (by omega)]
  congr 1
  omega
theorem Fy (x:aI) {n:List Int} (hn:yY n):min 2 (Fx x n)=jQ true x n:=by
 have h:=wO true x hn
 unfold Fx
 repeat' split
 .rename_i h1
  unfold jQ
  rw[if_neg (by omega),if_neg (by omega),if_pos h1]
 .rename_i h1
  rw[y3 (fun i=>(hn.at _).1) _ _ (by decide)]
  unfold jQ
  rw[if_neg (by omega),if_neg (by omega),if_neg (by omega),if_neg (by omega),if_pos h1]
  rfl
 .rename_i h1
  unfold jQ
  rw[if_neg (by omega),if_neg (by omega),if_neg (by omega),if_neg (by omega),if_neg (by omega),if_neg (by omega),if_neg (by omega),if_pos h1]
 .omega
theorem Dc {t:Nat} {n:List Int} {i:Int} (h0:0<=i) (h:i<n.length):jx 1 t (ints n) (some i)=some (V.pv (.ro t [.int .i64 (kL n i)])):=by
 rw[gD _ _ _ h0,EP,Ws (show i.toNat<n.length by omega)]
 unfold kL
 rw[WS,Ws (show i.toNat<n.length by omega)]
 rfl
theorem H9 {c a:Int} (h1:0<=c) (h2:c<=2) (h3:0<=a) (h4:a<=2):0<=c*a/\c*a<=4:=by
 have:c=0\/c=1\/c=2:=by omega
 rcases this with rfl|rfl|rfl<;>omega
theorem y4 {x:aI} {m:Mem} (h:m∈x.bc):m.type∈cR x:=by
 unfold cR
 exact Xj _ (Xj _ (Wz.2 ⟨m,h,rfl⟩))
theorem vA {x:aI} (h:x.kind=7\/x.kind=8\/x.kind=9):x.elem∈cR x:=by
 unfold cR gN
 refine Xz _ ?_
 rcases h with h|h|h<;>simp[h]
set_option maxHeartbeats 4000000 in
theorem r485 (x:aI) (n:List Int) (t:Nat) (hk:1<=x.kind/\x.kind<=9) (hs:x.short) (hn:yY n) (hu:∀u∈cR x,0<=u/\u<n.length):res A az 485 [.agg x.c,.aq t (ints n)]=some [.int .i64 (Fx x n)]:=by
 refine aw a485 rfl rfl ?_
 simp only[F485,Ma]
 have ha:∀i,0<=kL n i/\kL n i<=2:=fun i=>hn.at _
 have hm:=fun m hm=>hu _ (y4 (x:=x) (m:=m) hm)
 have hml:=hs.bc
 have hsl:=hs.syms
 have hel:=fun h=>hu _ (vA (x:=x) h)
 have hkey:=fun h=>hu _ (oB (t:=x) h)
 unfold Fx jQ
 obtain⟨kind,name,low,high,max,syms,bc,key,elem,jR⟩:=x
 unfold aI.c
 dsimp only at *
 rcases nine hk with rfl|rfl|rfl|rfl|rfl|rfl|rfl|rfl|rfl
 .simp(disch:=omega)only[go_sem,decide_true,decide_false,Int.reduceEq,if_true,if_false]
 .simp(disch:=omega)only[go_sem,decide_true,decide_false,Int.reduceEq,if_true,if_false]
  refine Br.aJ (fun c=>?_) (fun c=>?_)<;>simp(disch:=omega)only[go_sem,c,if_true,if_false]
 .simp(disch:=omega)only[go_sem,decide_true,decide_false,Int.reduceEq,if_true,if_false]
  refine Br.aJ (fun c=>?_) (fun c=>?_)<;>simp(disch:=omega)only[go_sem,c,if_true,if_false]
 .simp(disch:=omega)only[go_sem,decide_true,decide_false,Int.reduceEq,if_true,if_false]
 .simp(disch:=omega)only[go_sem,decide_true,decide_false,Int.reduceEq,if_true,if_false]
  refine W.fold bc (fun c m=>min 2 (c*kL n m.type)) 1 (fun k acc=>⟨[(1,.pv (.aq t (ints n))),(5,.pv (.int .i64 acc)),(33,.pv (.aq 0 (bc.map Mem.c))),(34,.pv (.int .i64 bc.length)),(35,.pv (.int .i64 k))],⟨[],[],[]⟩⟩) (fun _ acc=>0<=acc/\acc<=2) rfl (by decide) (fun k m acc hm1 hk1 _ hi=>?_) (fun acc hacc hi=>?_)
  .obtain⟨u1,u2⟩:=hm m (Wr hm1)
   have he:=fun t=>Dc (t:=t) u1 u2
   obtain⟨p1,p2⟩:=H9 hi.1 hi.2 (ha m.type).1 (ha m.type).2
   generalize hp:acc*kL n m.type=p at p1 p2
   simp(disch:=omega)only[go_sem]
   refine Br.aJ (fun c=>?_) (fun c=>(c (by omega)).elim)
   simp(disch:=omega)only[go_sem,hm1,Option.map_some,Mem.c,he,hp]
   exact cV.of rfl (by omega)
  .simp(disch:=omega)only[go_sem]
   rw[<- hacc]
 .simp(disch:=omega)only[go_sem,decide_true,decide_false,Int.reduceEq,if_true,if_false]
  refine W.fold bc (fun c m=>c+kL n m.type) 0 (fun k acc=>⟨[(1,.pv (.aq t (ints n))),(8,.pv (.int .i64 acc)),(52,.pv (.aq 0 (bc.map Mem.c))),(53,.pv (.int .i64 bc.length)),(54,.pv (.int .i64 k))],⟨[],[],[]⟩⟩) (fun k acc=>0<=acc/\acc<=2*(k:Int)) rfl (by decide) (fun k m acc hm1 hk1 _ hi=>?_) (fun acc hacc hi=>?_)
  .obtain⟨u1,u2⟩:=hm m (Wr hm1)
   have he:=fun t=>Dc (t:=t) u1 u2
   have hat:=ha m.type
   simp(disch:=omega)only[go_sem]
   refine Br.aJ (fun c=>?_) (fun c=>(c (by omega)).elim)
   simp(disch:=omega)only[go_sem,hm1,Option.map_some,Mem.c,he]
   exact cV.of rfl (by omega)
  .simp(disch:=omega)only[go_sem]
   rw[<- hacc]
 .obtain⟨e1,e2⟩:=hel (by decide)
  have he:=fun t=>Dc (t:=t) e1 e2
  simp(disch:=omega)only[go_sem,decide_true,decide_false,Int.reduceEq,if_true,if_false,he]
  refine Br.aJ (fun c=>?_) (fun c=>?_)<;>simp(disch:=omega)only[go_sem,c,if_true,if_false,he]
  .rw[if_pos (.inl trivial)]
  .refine Br.aJ (fun d=>?_) (fun d=>?_)<;>simp(disch:=omega)only[go_sem,d]
   .rw[if_pos (by simp)]
   .rw[if_neg (by simp[c])]
 .obtain⟨e1,e2⟩:=hel (by decide)
  obtain⟨k1,k2⟩:=hkey (by decide)
  have he:=fun t=>Dc (t:=t) e1 e2
  have hke:=fun t=>Dc (t:=t) k1 k2
  simp(disch:=omega)only[go_sem,decide_true,decide_false,Int.reduceEq,if_true,if_false,he]
  refine Br.aJ (fun c=>?_) (fun c=>?_)<;>simp(disch:=omega)only[go_sem,c,if_true,if_false,he]
  .rw[if_pos (.inl trivial)]
  .refine Br.aJ (fun d=>?_) (fun d=>?_)<;>simp(disch:=omega)only[go_sem,d,hke]
   .rw[if_pos (by simp)]
   .refine Br.aJ (fun e=>?_) (fun e=>?_)<;>simp(disch:=omega)only[go_sem,e]
    .rw[if_pos (by simp)]
    .rw[if_neg (by simp[c,d])]
 .obtain⟨e1,e2⟩:=hel (by decide)
  have he:=fun t=>Dc (t:=t) e1 e2
  have:=ha elem
  simp(disch:=omega)only[go_sem,decide_true,decide_false,Int.reduceEq,if_true,if_false,he]
end Go.Pv
