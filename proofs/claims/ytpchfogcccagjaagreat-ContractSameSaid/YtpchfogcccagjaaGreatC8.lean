/-
 What the functions of the law give.
-/
import Derived.Test.YtpchfogcccagjaaGreatC7
set_option linter.unusedSimpArgs false
set_option linter.unusedVariables false
open List renaming mem_of_getElem? → Wa, getElem?_eq_some_iff → V9, length_map → Wg, getElem?_map → Wf, getElem?_append_left → We, mem_map → Wk, mem_cons → WG, eq_nil_of_length_eq_zero → Wp, length_range → WI, getD_eq_getElem?_getD → Ws, take_of_length_le → Wq, length_append → Wz, mem_cons_of_mem → W3, getElem?_set_self → WU, map_append → WC, all_eq_true → Wu, mem_cons_self → WH, mem_range → WJ, append_assoc → WK, take_add_one → WL, any_eq_false → WY, take_length → WV, getElem?_set_ne → Xk, ext_getElem? → WW, length_set → Xx, mem_filterMap → W4, mem_or_eq_of_mem_set → XK, getElem?_range → Xr, append_nil → Xh, range_succ → Xq, any_eq_true → Xm, mem_filter → Xl, foldl_cons → Xp, filterMap_append → XI, length_filter_le → XW, map_cons → XQ, getElem?_set → afz
open Nat renaming le_refl → Wj, le_trans → WM, not_lt_zero → Xo, mul_le_mul → abA
open Option renaming map_eq_some_iff → Wx, bind_eq_some_iff → XP
open Bool renaming true_and → WZ, eq_iff_iff → Xb, and_eq_true → XX, false_and → Xu, eq_false_iff → Xz, and_false → abu
open Int renaming toNat_natCast → WX, eq_ofNat_of_zero_le → XB, le_refl → XS
namespace Go.Pv
theorem FB {k:Nat}(h:k<3):IntKind.wrap .i32 (97+(k:Int))=97+(k:Int):=by
 rcases(show k=0\/k=1\/k=2 by omega)with rfl|rfl|rfl<;>rfl
structure Dg where
 s:List Node
 calls:List (Int×Int)
 aG:List vo
 aT:List Int
def Pj (c:Int×Int):List PV:=[.int .u8 c.1,.int .u8 c.2]
def Pk (c:Int):List PV:=[.int .u8 c]
def Dg.c (d:Dg):List PV:=[.aq 0 (d.s.map Node.cs),.aq 0 (d.calls.map Pj),.aq 0 (d.aG.map vo.c),.aq 0 (d.aT.map Pk)]
def MG (x:Int):Prop:=0<=x/\x<=255
structure Dg.ok (d:Dg):Prop where
 s:∀y∈d.s,y.ok
 sl:bP d.s
 c:∀x∈d.calls,MG x.1/\MG x.2
 cl:bP d.calls
 w:∀x∈d.aG,x.ok
 wl:bP d.aG
 t:∀x∈d.aT,MG x
 tl:bP d.aT
def eo (n:Int)(l:List (Int×Int))(k:Nat):List gX:=(List.range k).filterMap λi=>l[i]?.map λx=>⟨fX 67 i,x.1%n,x.2%n⟩
def gT (n:Int)(l:List Int)(k:Nat):List hC:=(List.range k).filterMap λi=>l[i]?.map λx=>⟨fX 84 i,x%n⟩
def fZ (T:List aH)(l:List vo)(k:Nat):List eE:=(List.range k).filterMap λi=>l[i]?.bind λs=>acN T (fX 83 i) s
theorem y8 {n:Int}{l:List (Int×Int)}{k:Nat}{x:Int×Int}(h:l[k]?=some x):eo n l (k+1)=eo n l k++[⟨fX 67 k,x.1%n,x.2%n⟩]:=by
 unfold eo;rw[Xq,XI];simp[h]
theorem AV {n:Int}{l:List Int}{k:Nat}{x:Int}(h:l[k]?=some x):gT n l (k+1)=gT n l k++[⟨fX 84 k,x%n⟩]:=by
 unfold gT;rw[Xq,XI];simp[h]
theorem AW {T:List aH}{l:List vo}{k:Nat}{x:vo}(h:l[k]?=some x):fZ T l (k+1)=fZ T l k++(acN T (fX 83 k) x).toList:=by
 unfold fZ;rw[Xq,XI];cases hs:acN T (fX 83 k) x<;>simp[h,hs]
theorem eJ {α:Type}(f:Nat->Option α)(k:Nat):((List.range k).filterMap f).length<=k:=by
 have:=List.length_filterMap_le f (List.range k);rw[WI]at this;exact this
def MH (nm:ByteArray)(d:Dg):Option ij:=if (qR d.s).2=true/\d.calls.length<=3/\d.aG.length<=2/\d.aT.length<=3 then some ⟨nm,(qR d.s).1,eo (qR d.s).1.length d.calls d.calls.length,fZ (qR d.s).1 d.aG d.aG.length,gT (qR d.s).1.length d.aT d.aT.length⟩ else none
set_option maxHeartbeats 8000000 in
theorem r419 (nm:ByteArray)(d:Dg)(hd:d.ok):res A aA 419 [.agg d.c,.str nm]=some (match MH nm d with|some v=>[.agg (lB 0 0 0 0 v),.bool true]|none=>[.agg [.str ⟨#[]⟩,.aq 0 [],.aq 0 [],.aq 0 [],.aq 0 []],.bool false]):=by
 have h279:=λt=>r279 t d.s hd.s hd.sl;refine aw a419 rfl rfl ?_;simp only[F419,Lc];unfold Dg.c MH;have hTn:(qR d.s).2=true->1<=(qR d.s).1.length/\(qR d.s).1.length<=5:=by
  unfold qR;split
  .simp
  .intro _;simp only[List.length_map,List.length_range];omega
 generalize (qR d.s).1=T at *;generalize (qR d.s).2=b at *;cases b with
 |false=>
  rw[if_neg (by simp)];simp(disch:=omega)only[go_sem,h279]
 |true=>
 obtain⟨hT1,hT5⟩:=hTn rfl;cases h1:decide ((3:Int)<d.calls.length)with
 |true=>
  have:=of_decide_eq_true h1;rw[if_neg (by omega)];simp(disch:=omega)only[go_sem,h279,h1]
 |false=>
 cases h2:decide ((2:Int)<d.aG.length)with
 |true=>
  have:=of_decide_eq_true h2;rw[if_neg (by omega)];simp(disch:=omega)only[go_sem,h279,h1,h2]
 |false=>
 cases h3:decide ((3:Int)<d.aT.length)with
 |true=>
  have:=of_decide_eq_true h3;rw[if_neg (by omega)];simp(disch:=omega)only[go_sem,h279,h1,h2,h3]
 |false=>
 have g1:=of_decide_eq_false h1;have g2:=of_decide_eq_false h2;have g3:=of_decide_eq_false h3;rw[if_pos (by refine⟨rfl,?_,?_,?_⟩<;>omega)];simp(disch:=omega)only[go_sem,h279,h1,h2,h3];refine W.fv d.calls.length (λk=>⟨[(2,.ptr 2 0),(4,.ptr 4 0),(6,.ptr 6 0),(8,.ptr 8 0),(9,.pv (.int .i64 T.length)),(10,.pv (.int .i64 k))],⟨[(2,[.pv (.aq 0 (d.s.map Node.cs)),.pv (.aq 0 (d.calls.map Pj)),.pv (.aq 0 (d.aG.map vo.c)),.pv (.aq 0 (d.aT.map Pk))]),(4,[.pv (.str ⟨#[]⟩),.tl [],.tl [],.tl [],.tl []]),(6,[.pv (.aq 0 (T.map aH.c))]),(8,[.pv (.str nm),.pv (.aq 0 (T.map aH.c)),dh 0 (ch (eo T.length d.calls k)),.tl [],.tl []])],cK 3 (ch (eo T.length d.calls k)),[]⟩⟩) (λ_=>True) rfl trivial λk hk _=>?_;simp(disch:=omega)only[go_sem];refine Br.aJ (λc=>?_) (λc=>?_)
 .obtain⟨x,hx⟩:=get_some (l:=d.calls) (k:=k) (by omega);obtain⟨⟨x1,x2⟩,x3,x4⟩:=hd.c x (Wa hx);have hR:ch (eo T.length d.calls (k+1))=ch (eo T.length d.calls k)++[[.str (fX 67 k),.int .i64 (x.1%T.length),.int .i64 (x.2%T.length)]]:=by
   rw[y8 hx];simp[ch,gX.c]
  have hRl:(ch (eo T.length d.calls k)).length<=3:=by
   rw[oj];have:=eJ (λi=>d.calls[i]?.map λx=>(⟨fX 67 i,x.1%T.length,x.2%T.length⟩:gX)) k;unfold eo;omega
  generalize ch (eo T.length d.calls k)=rows at *;have hg:∀bx mp,aK ⟨bx,cK 3 rows,mp⟩ 3 (dh 0 rows) (.tl [[.str (fX 67 k),.int .i64 (x.1%T.length),.int .i64 (x.2%T.length)]])=some (dh 0 (rows++[[.str (fX 67 k),.int .i64 (x.1%T.length),.int .i64 (x.2%T.length)]]),tM 0 3 rows [.str (fX 67 k),.int .i64 (x.1%T.length),.int .i64 (x.2%T.length)]):=λbx mp=>grow bx mp [] 3 rows _ rfl (by omega);have hw:=FB (k:=k) (by omega);have hna:=Yb (c:=67) (k:=k) (by omega);simp(disch:=omega)only[go_sem,hx,Option.map_some,Pj,hw,hna,hg];refine .of (by omega) ?_ trivial;rw[hR];rfl
 obtain rfl:k=d.calls.length:=by omega
 generalize hCe:eo T.length d.calls d.calls.length=C at *;have hCl:(ch C).length<=3:=by
  rw[oj,<- hCe];have:=eJ (λi=>d.calls[i]?.map λx=>(⟨fX 67 i,x.1%T.length,x.2%T.length⟩:gX)) d.calls.length;unfold eo;omega
 clear hk c hCe;simp(disch:=omega)only[go_sem];refine W.fv d.aG.length (λk=>⟨[(2,.ptr 2 0),(4,.ptr 4 0),(6,.ptr 6 0),(8,.ptr 8 0),(9,.pv (.int .i64 T.length)),(11,.pv (.int .i64 k))],⟨[(2,[.pv (.aq 0 (d.s.map Node.cs)),.pv (.aq 0 (d.calls.map Pj)),.pv (.aq 0 (d.aG.map vo.c)),.pv (.aq 0 (d.aT.map Pk))]),(4,[.pv (.str ⟨#[]⟩),.tl [],.tl [],.tl [],.tl []]),(6,[.pv (.aq 0 (T.map aH.c))]),(8,[.pv (.str nm),.pv (.aq 0 (T.map aH.c)),dh 0 (ch C),dh (cK 3 (ch C)).length (aG (fZ T d.aG k)),.tl []])],cK 3 (ch C)++cK 5 (aG (fZ T d.aG k)),[]⟩⟩) (λ_=>True) (by show _=(⟨_,⟨_,cK 3 (ch C)++[],[]⟩⟩:St);rw[Xh];rfl) trivial λk hk _=>?_;simp(disch:=omega)only[go_sem];refine Br.aJ (λc=>?_) (λc=>?_)
 .obtain⟨x,hx⟩:=get_some (l:=d.aG) (k:=k) (by omega);have hxo:=hd.w x (Wa hx);have h453:=λt u=>r453 t u T (fX 83 k) x hxo (by omega);have hR:aG (fZ T d.aG (k+1))=aG (fZ T d.aG k)++aG (acN T (fX 83 k) x).toList:=by
   rw[AW hx];simp[aG]
  have hRl:(aG (fZ T d.aG k)).length<=3:=by
   unfold aG;rw[Wg];have:=eJ (λi=>d.aG[i]?.bind λs=>acN T (fX 83 i) s) k;unfold fZ;omega
  have hw:=FB (k:=k) (by omega);have hna:=Yb (c:=83) (k:=k) (by omega);generalize aG (fZ T d.aG k)=rows at *;cases hs:acN T (fX 83 k) x with
  |none=>
   rw[hs]at h453 hR;simp only[Option.toList,aG,List.map_nil,List.append_nil]at hR;simp(disch:=omega)only[go_sem,hx,Option.map_some,vo.c,hw,hna,h453];refine .of (by omega) ?_ trivial;rw[<- hR];rfl
  |some w=>
   rw[hs]at h453 hR;simp only[Option.toList,aG,List.map_cons,List.map_nil,eE.c]at hR;simp only[eE.c]at h453;have hg:=λbx mp=>grow bx mp (cK 3 (ch C)) 5 rows [.str w.name,.aq 0 (w.msgs.map gI.c),.int .i64 w.auto.aj,.int .i64 w.auto.start,.aq 0 (w.auto.af.map Edge.c)] rfl (by omega);have hgt:=λbx mp=>ik bx mp (cK 3 (ch C)) 5 rows [.str w.name,.aq 0 (w.msgs.map gI.c),.int .i64 w.auto.aj,.int .i64 w.auto.start,.aq 0 (w.auto.af.map Edge.c)];simp(disch:=omega)only[go_sem,hx,Option.map_some,vo.c,hw,hna,h453,hg,hgt];refine .of (by omega) ?_ trivial;rw[show aG (fZ T d.aG (k+1))=_ from hR];rfl
 obtain rfl:k=d.aG.length:=by omega
 generalize hWe:fZ T d.aG d.aG.length=S at *;clear hk c hWe;simp(disch:=omega)only[go_sem];refine W.fv d.aT.length (λk=>⟨[(2,.ptr 2 0),(4,.ptr 4 0),(8,.ptr 8 0),(9,.pv (.int .i64 T.length)),(14,.pv (.int .i64 k))],⟨[(2,[.pv (.aq 0 (d.s.map Node.cs)),.pv (.aq 0 (d.calls.map Pj)),.pv (.aq 0 (d.aG.map vo.c)),.pv (.aq 0 (d.aT.map Pk))]),(4,[.pv (.str ⟨#[]⟩),.tl [],.tl [],.tl [],.tl []]),(8,[.pv (.str nm),.pv (.aq 0 (T.map aH.c)),dh 0 (ch C),dh (cK 3 (ch C)).length (aG S),dh (cK 3 (ch C)++cK 5 (aG S)).length (df (gT T.length d.aT k))])],cK 3 (ch C)++cK 5 (aG S)++cK 2 (df (gT T.length d.aT k)),[]⟩⟩) (λ_=>True) (by show _=(⟨_,⟨_,cK 3 (ch C)++cK 5 (aG S)++[],[]⟩⟩:St);rw[Xh];rfl) trivial λk hk _=>?_;simp(disch:=omega)only[go_sem];refine Br.aJ (λc=>?_) (λc=>?_)
 .obtain⟨x,hx⟩:=get_some (l:=d.aT) (k:=k) (by omega);obtain⟨x1,x2⟩:=hd.t x (Wa hx);have hR:df (gT T.length d.aT (k+1))=df (gT T.length d.aT k)++[[.str (fX 84 k),.int .i64 (x%T.length)]]:=by
   rw[AV hx];simp[df,hC.c]
  have hRl:(df (gT T.length d.aT k)).length<=3:=by
   rw[sG];have:=eJ (λi=>d.aT[i]?.map λx=>(⟨fX 84 i,x%T.length⟩:hC)) k;unfold gT;omega
  generalize df (gT T.length d.aT k)=rows at *;have hg:=λbx mp=>grow bx mp (cK 3 (ch C)++cK 5 (aG S)) 2 rows [.str (fX 84 k),.int .i64 (x%T.length)] rfl (by omega);have hgt:=λbx mp=>ik bx mp (cK 3 (ch C)++cK 5 (aG S)) 2 rows [.str (fX 84 k),.int .i64 (x%T.length)];simp only[List.length_append]at hg hgt;have hw:=FB (k:=k) (by omega);have hna:=Yb (c:=84) (k:=k) (by omega);simp(disch:=omega)only[go_sem,hx,Option.map_some,Pk,hw,hna,hg,hgt];refine .of (by omega) ?_ trivial;rw[hR,Wz];rfl
 obtain rfl:k=d.aT.length:=by omega
 generalize hPe:gT T.length d.aT d.aT.length=P at *;have k1:∀bx,aY ⟨bx,cK 3 (ch C)++cK 5 (aG S)++cK 2 (df P),[]⟩ 4 (dh 0 (ch C))=some (.aq 0 (ch C)):=λbx=>by
  rw[WK];exact tf bx [] [] _ 3 3 _
 have k2:∀bx,aY ⟨bx,cK 3 (ch C)++cK 5 (aG S)++cK 2 (df P),[]⟩ 4 (dh (cK 3 (ch C)).length (aG S))=some (.aq 0 (aG S)):=λbx=>by
  rw[WK];exact tf bx [] (cK 3 (ch C)) _ 5 3 _
 have k3:∀bx,aY ⟨bx,cK 3 (ch C)++cK 5 (aG S)++cK 2 (df P),[]⟩ 4 (dh (cK 3 (ch C)++cK 5 (aG S)).length (df P))=some (.aq 0 (df P)):=λbx=>sI bx [] _ 2 3 _;simp only[List.length_append]at k3;simp(disch:=omega)only[go_sem,k1,k2,k3];rfl
theorem wL {c:UInt8}{k:Nat}(h:k<3):bC (fX c k):=by
 have:(fX c k).size=2:=by
  unfold fX;rw[ByteArray.size_append,vn h];rfl
 unfold bC;omega
theorem Dh {n:Int}{l:List (Int×Int)}{k:Nat}(hk:k<=3):∀c∈eo n l k,bC c.name:=by
 intro c hc;obtain⟨i,hi,he⟩:=W4.1 hc;have:=WJ.1 hi;obtain⟨x,_,rfl⟩:=Wx.1 he;exact wL (by omega)
theorem FC {n:Int}{l:List Int}{k:Nat}(hk:k<=3):∀c∈gT n l k,bC c.name:=by
 intro c hc;obtain⟨i,hi,he⟩:=W4.1 hc;have:=WJ.1 hi;obtain⟨x,_,rfl⟩:=Wx.1 he;exact wL (by omega)
theorem y9 {T:List aH}{l:List vo}{k:Nat}(hk:k<=2)(hl:∀s∈l,s.ok):∀w∈fZ T l k,∃i s,i<2/\s∈l/\dD T T.length≠[]/\w=⟨fX 83 i,ek (dD T T.length) s,s.a.auto.trim⟩/\s.a.auto.Good:=by
 intro w hw;obtain⟨i,hi,he⟩:=W4.1 hw;have:=WJ.1 hi;obtain⟨s,hs,he⟩:=XP.1 he;unfold acN at he;split at he
 .rename_i hc;cases he;have hm:=Wa hs;exact⟨i,s,by omega,hm,hc.2,rfl,ej.vW (hl s hm).1 (s:=0) ⟨XS _,by have:=s.a.st;omega⟩⟩
 .cases he
theorem Di {nm:ByteArray}{d:Dg}{v:ij}(hn:bC nm)(hd:d.ok)(h:MH nm d=some v):iX v/\v.types.length<=5/\v.calls.length<=3/\v.aG.length<=2/\v.aT.length<=3/\∀w∈v.aG,w.msgs.length<=3/\w.auto.af.length<=100:=by
 unfold MH at h;split at h
 rotate_left
 .cases h
 rename_i hc;obtain⟨c1,c2,c3,c4⟩:=hc;cases h;have hD:¬(d.s.length<1\/5<d.s.length):=by
  intro hx;unfold qR at c1;rw[if_pos hx]at c1;cases c1
 have hT:(qR d.s).1=(List.range d.s.length).map (aS d.s):=by
  unfold qR;rw[if_neg hD]
 obtain⟨o1,o2⟩:=Mr (d:=d.s) (by omega) (by omega);rw[<- hT]at o1 o2;have hl:(qR d.s).1.length<=5:=by
  rw[hT,Wg,WI];omega
 have l1:(eo (qR d.s).1.length d.calls d.calls.length).length<=3:=WM (eJ _ _) c2;have l2:(fZ (qR d.s).1 d.aG d.aG.length).length<=2:=WM (eJ _ _) c3;have l3:(gT (qR d.s).1.length d.aT d.aT.length).length<=3:=WM (eJ _ _) c4;have hw:∀w∈fZ (qR d.s).1 d.aG d.aG.length,(bC w.name/\∀m∈w.msgs,bC m.name)/\w.msgs.length<=3/\w.auto.af.length<=100:=λw hw=>by
  obtain⟨i,s,hi,hs,_,rfl,hg⟩:=y9 (by omega) hd.w w hw;refine⟨⟨wL (by omega),λm hm=>?_⟩,Wj 3,hg.trim.len⟩;dsimp only[ek]at hm;simp only[List.mem_cons,List.not_mem_nil,or_false]at hm;rcases hm with rfl|rfl|rfl<;>exact wL (by omega)
 refine⟨⟨hn,by dsimp only;omega,o1,λt h=>(o2 t h).held,by dsimp only;omega,Dh c2,by dsimp only;omega,λw h=>?_,by dsimp only;omega,FC c4⟩,hl,l1,l2,l3,λw h=>(hw w h).2⟩;obtain⟨⟨q1,q2⟩,q3,q4⟩:=hw w h;exact⟨q1,by omega,q2,by omega⟩
def i6 (u:Int×Int):List PV:=[.int .i64 u.1,.int .i64 u.2]
def oP (l:List Mem):List (Int×Int):=l.map λm=>(m.id,m.type)
def p5 (t:aH):List (Int×Int):=oP t.bc++(if t.kind=8 then [(0,t.key)] else [])++(if 7<=t.kind then [(-1,t.elem)] else [])
theorem HO (k:Nat)(rows:List (List PV))(r1 r2:List PV)(h1:r1.length=k)(h2:r2.length=k)(hm:rows.length+2<=2147483648):
  ∃V1 T ar',(∀bx,aK ⟨bx,cK k rows,[]⟩ k (dh 0 rows) (.tl [r1,r2])=some (V1,T))/\(∀bx,T.apply ⟨bx,cK k rows,[]⟩=⟨bx,ar',[]⟩)/\V1.cells=[V1]/\V1.calm=true/\(∀b,dN b V1=V1)/\∀bx,keep ⟨bx,ar',[]⟩ false V1=some (.aq 0 (rows++[r1,r2])):=by
 cases rows with
 |nil=>exact⟨.own 0 0 0 2,{push:=[⟨0,k,.inl [r1,r2]⟩],base:=0},[⟨0,k,.inl [r1,r2]⟩],λbx=>by simp[aK,dh,cK,aW,aO,aD,h1,h2,aU,aN],λbx=>by simp[Tn.apply,cK],rfl,rfl,λ_=>rfl,λbx=>by simp[keep,dS,aB,bO,az]⟩
 |cons x q=>
  refine⟨.own 0 (q.length+1) 0 (q.length+3),{ar:=some (0,⟨q.length+1,k,.inl (x::q++[r1,r2])⟩)},[⟨q.length+1,k,.inl (x::q++[r1,r2])⟩],λbx=>?_,λbx=>by simp[Tn.apply,cK],rfl,rfl,λ_=>rfl,λbx=>?_⟩
  .have e1:aB ⟨bx,cK k (x::q),[]⟩ 0 q.length=some ⟨q.length,k,.inl (x::q)⟩:=by simp[aB,cK]
   have e2:(⟨q.length,k,.inl (x::q)⟩:aL).size=q.length+1:=rfl;simp only[List.length_cons]at hm;simp[aK,dh,aW,aO,aD,h1,h2,e1,e2,aU,az,aN];omega
  .simp[keep,dS,aB,bO,az];exact List.take_of_length_le (by simp)
set_option maxHeartbeats 4000000 in
theorem r490 (t:aH)(hs:t.short)(h9:t.kind<=9):res A aA 490 [.agg t.c]=some [.aq 0 ((p5 t).map i6)]:=by
 have hl:=hs.bc;obtain⟨k,a2,a3,a4,a5,a6,l,a8,a9,a10⟩:=t;unfold p5 aH.c;dsimp only at *;refine aw a490 rfl rfl ?_;simp only[F490,LK];simp(disch:=omega)only[go_sem];refine W.fv l.length (λj=>⟨[(1,.ptr 1 0),(3,dh 0 ((oP (l.take j)).map i6)),(7,.pv (.aq 0 (l.map Mem.c))),(8,.pv (.int .i64 l.length)),(9,.pv (.int .i64 j))],⟨[(1,[.pv (.int .i64 k),.pv (.str a2),.pv (.int .i64 a3),.pv (.int .i64 a4),.pv (.int .i64 a5),.pv (.aq 0 (a6.map Sym.c)),.pv (.aq 0 (l.map Mem.c)),.pv (.int .i64 a8),.pv (.int .i64 a9),.pv (.bool a10)])],cK 2 ((oP (l.take j)).map i6),[]⟩⟩) (λ_=>True) rfl trivial λj hj _=>?_;simp(disch:=omega)only[go_sem];refine Br.aJ (λc=>?_) (λc=>?_)
 .obtain⟨p,hp⟩:=get_some (l:=l) (k:=j) (by omega);have hR:(oP (l.take (j+1))).map i6=(oP (l.take j)).map i6++[[.int .i64 p.id,.int .i64 p.type]]:=by
   rw[WL,hp];simp[oP,i6]
  have hRl:((oP (l.take j)).map i6).length<=j:=by simp[oP];omega
  generalize (oP (l.take j)).map i6=rows at *;have hg:∀bx mp,aK ⟨bx,cK 2 rows,mp⟩ 2 (dh 0 rows) (.tl [[.int .i64 p.id,.int .i64 p.type]])=some (dh 0 (rows++[[.int .i64 p.id,.int .i64 p.type]]),tM 0 2 rows [.int .i64 p.id,.int .i64 p.type]):=λbx mp=>grow bx mp [] 2 rows _ rfl (by omega);simp(disch:=omega)only[go_sem,hp,Option.map_some,Mem.c,hg];refine .of (by omega) ?_ trivial;rw[hR];rfl
 obtain rfl:j=l.length:=by omega
 rw[WV];have hRl:((oP l).map i6).length=l.length:=by simp[oP]
 rw[WC,WC];generalize (oP l).map i6=rows at *;simp(disch:=omega)only[go_sem];obtain⟨V1,T,ar',happ,hT,hc1,hc2,hsc,hk⟩:=HO 2 rows [.int .i64 0,.int .i64 a8] [.int .i64 (-1),.int .i64 a9] rfl rfl (by omega);have hg:∀bx mp,aK ⟨bx,cK 2 rows,mp⟩ 2 (dh 0 rows) (.tl [[.int .i64 (-1),.int .i64 a9]])=some (dh 0 (rows++[[.int .i64 (-1),.int .i64 a9]]),tM 0 2 rows [.int .i64 (-1),.int .i64 a9]):=λbx mp=>grow bx mp [] 2 rows _ rfl (by omega);refine Br.aJ (λc8=>?_) (λc8=>?_)
 .rw[if_pos c8,if_pos (by omega)];simp(disch:=omega)only[go_sem,happ,hT,hc1,hc2,hsc,hk];simp[i6]
 .rw[if_neg c8];cases h7:decide (k=7)with
  |true=>
   have c7:=of_decide_eq_true h7;rw[if_pos (by omega)];simp(disch:=omega)only[go_sem,h7,hg];simp[i6]
  |false=>
   have c7:=of_decide_eq_false h7;cases h9':decide (k=9)with
   |true=>
    have c9:=of_decide_eq_true h9';rw[if_pos (by omega)];simp(disch:=omega)only[go_sem,h7,h9',hg];simp[i6]
   |false=>
    have c9:=of_decide_eq_false h9';rw[if_neg (by omega)];simp(disch:=omega)only[go_sem,h7,h9',List.append_nil]
set_option maxHeartbeats 4000000 in
theorem r504 (t:aH)(hs:t.short)(h9:t.kind<=9):res A aA 504 [.agg t.c]=some [.aq 0 ((p5 t).map i6)]:=by
 have hl:=hs.bc;obtain⟨k,a2,a3,a4,a5,a6,l,a8,a9,a10⟩:=t;unfold p5 aH.c;dsimp only at *;refine aw a504 rfl rfl ?_;simp only[F504,aa0];simp(disch:=omega)only[go_sem];refine W.fv l.length (λj=>⟨[(1,.ptr 1 0),(3,dh 0 ((oP (l.take j)).map i6)),(4,.pv (.int .i64 j))],⟨[(1,[.pv (.int .i64 k),.pv (.str a2),.pv (.int .i64 a3),.pv (.int .i64 a4),.pv (.int .i64 a5),.pv (.aq 0 (a6.map Sym.c)),.pv (.aq 0 (l.map Mem.c)),.pv (.int .i64 a8),.pv (.int .i64 a9),.pv (.bool a10)])],cK 2 ((oP (l.take j)).map i6),[]⟩⟩) (λ_=>True) rfl trivial λj hj _=>?_;simp(disch:=omega)only[go_sem];refine Br.aJ (λc=>?_) (λc=>?_)
 .obtain⟨p,hp⟩:=get_some (l:=l) (k:=j) (by omega);have hR:(oP (l.take (j+1))).map i6=(oP (l.take j)).map i6++[[.int .i64 p.id,.int .i64 p.type]]:=by
   rw[WL,hp];simp[oP,i6]
  have hRl:((oP (l.take j)).map i6).length<=j:=by simp[oP];omega
  generalize (oP (l.take j)).map i6=rows at *;have hg:∀bx mp,aK ⟨bx,cK 2 rows,mp⟩ 2 (dh 0 rows) (.tl [[.int .i64 p.id,.int .i64 p.type]])=some (dh 0 (rows++[[.int .i64 p.id,.int .i64 p.type]]),tM 0 2 rows [.int .i64 p.id,.int .i64 p.type]):=λbx mp=>grow bx mp [] 2 rows _ rfl (by omega);simp(disch:=omega)only[go_sem,hp,Option.map_some,Mem.c,hg];refine .of (by omega) ?_ trivial;rw[hR];rfl
 obtain rfl:j=l.length:=by omega
 rw[WV];have hRl:((oP l).map i6).length=l.length:=by simp[oP]
 rw[WC,WC];generalize (oP l).map i6=rows at *;have hg:∀bx mp (rows:List (List PV))(x y:Int),rows.length<=2000000->aK ⟨bx,cK 2 rows,mp⟩ 2 (dh 0 rows) (.tl [[.int .i64 x,.int .i64 y]])=some (dh 0 (rows++[[.int .i64 x,.int .i64 y]]),tM 0 2 rows [.int .i64 x,.int .i64 y]):=λbx mp rows x y h=>grow bx mp [] 2 rows _ rfl (by omega);have g1:=λbx mp x y=>hg bx mp rows x y (by omega);have g2:=λbx mp x y=>hg bx mp (rows++[[.int .i64 0,.int .i64 a8]]) x y (by rw[Wz,List.length_singleton];omega);simp(disch:=omega)only[go_sem];cases h8:decide (k=8)with
 |true=>
  have c8:=of_decide_eq_true h8;rw[if_pos c8,if_pos (by omega)];simp(disch:=omega)only[go_sem,h8,g1,g2];simp[i6]
 |false=>
  have c8:=of_decide_eq_false h8;rw[if_neg c8];cases h7:decide (k=7)with
  |true=>
   have c7:=of_decide_eq_true h7;rw[if_pos (by omega)];simp(disch:=omega)only[go_sem,h8,h7,g1];simp[i6]
  |false=>
   have c7:=of_decide_eq_false h7;cases h9':decide (k=9)with
   |true=>
    have c9:=of_decide_eq_true h9';rw[if_pos (by omega)];simp(disch:=omega)only[go_sem,h8,h7,h9',g1];simp[i6]
   |false=>
    have c9:=of_decide_eq_false h9';rw[if_neg (by omega)];simp(disch:=omega)only[go_sem,h8,h7,h9',List.append_nil,List.map_nil]
set_option maxHeartbeats 4000000 in
theorem r499:∀(n k:Nat)(cs ds:List PV),mu n cs->mu k ds->res A aA 499 [.agg cs,.agg ds]=some [.bool (eqv cs ds)]
 |0,_,_,_,h,_=>h.elim
 |_+1,0,_,_,_,h=>h.elim
 |n+1,k+1,cs,ds,h,h'=>by
  obtain⟨v,rfl,⟨h1,h2,h3,h4⟩,⟨h5,h6,h7⟩,h8,h9,h10⟩:=h;obtain⟨w,rfl,⟨g1,g2,g3,g4⟩,⟨g5,g6,g7⟩,g8,g9,g10⟩:=h';have ih:=r499 n k;unfold bP at h5 h6 h7 g5 g6 g7;have hk:=λt u=>r334g cw499 t u v.keys w.keys (by omega) (by omega) (λr hr=>(h8 r hr).val) (λr hr=>(g8 r hr).val) (λr hr q hq=>ih r q (h8 r hr) (g8 q hq));have hi:=λt u=>r334g cw499 t u v.items w.items (by omega) (by omega) (λr hr=>(h9 r hr).val) (λr hr=>(g9 r hr).val) (λr hr q hq=>ih r q (h9 r hr) (g9 q hq));have hr:=λt u=>r333 t u v.rest w.rest (by omega) (by omega);rw[oq];obtain⟨a1,a2,a3,a4,a5,a6,a7,a8⟩:=v;obtain⟨b1,b2,b3,b4,b5,b6,b7,b8⟩:=w;unfold dz.c;dsimp only at *;clear ih;refine aw a499 rfl rfl ?_;simp only[F499,LR];simp(disch:=omega)only[go_sem];have no:∀{p q:dz},p≠q->(some [PV.bool false]:Option (List PV))=some [PV.bool (eqv p q)]:=λh=>by rw[fJ h]
  refine Br.aJ (λe=>?_) (λe=>?_)<;>simp(disch:=omega)only[go_sem,e]
  rotate_left
  .exact no (λq=>e (by cases q;rfl))
  subst e;refine Br.aJ (λe=>?_) (λe=>?_)<;>simp(disch:=omega)only[go_sem,e]
  rotate_left
  .exact no (λq=>e (by cases q;rfl))
  subst e;refine Br.aJ (λe=>?_) (λe=>?_)<;>simp(disch:=omega)only[go_sem,e]
  rotate_left
  .exact no (λq=>e (by cases q;rfl))
  subst e;refine Br.aJ (λe=>?_) (λe=>?_)<;>simp(disch:=omega)only[go_sem,e]
  rotate_left
  .exact no (λq=>e (by cases q;rfl))
  subst e;refine Br.aJ (λe=>?_) (λe=>?_)<;>simp(disch:=omega)only[go_sem,e]
  rotate_left
  .exact no (λq=>e (by cases q;rfl))
  subst e;simp(disch:=omega)only[go_sem,hr];refine Br.of (λe=>?_) (λe=>?_)<;>simp(disch:=omega)only[go_sem,e]
  rotate_left
  .exact no (λq=>mW.1 e (by cases q;rfl))
  have e:=bY.1 e;subst e;simp(disch:=omega)only[go_sem,hk];refine Br.of (λe=>?_) (λe=>?_)<;>simp(disch:=omega)only[go_sem,e]
  rotate_left
  .exact no (λq=>mW.1 e (by cases q;rfl))
  have e:=bY.1 e;subst e;simp(disch:=omega)only[go_sem,hi];congr 3;rw[Xb,bY,bY];exact⟨λe=>by rw[e],λq=>by cases q;rfl⟩
def wM {α β:Type}(g:α->β->Bool)(l:List α)(m:List β):Bool:=decide (l.length=m.length)&&(l.zip m).all λq=>g q.1 q.2
theorem p6 {α β:Type}{g:α->β->Bool}{l:List α}{m:List β}(h:¬l.length=m.length):wM g l m=false:=by
 unfold wM;rw[decide_eq_false h];rfl
theorem wN {α β:Type}{g:α->β->Bool}{l:List α}{m:List β}(h:(l.zip m).any (λq=>!g q.1 q.2)=true):wM g l m=false:=by
 unfold wM;have:(l.zip m).all (λq=>g q.1 q.2)=false:=by
  rw[Xz];intro h2;obtain⟨q,hq,hn⟩:=Xm.1 h;have:=Wu.1 h2 q hq;rw[this]at hn;cases hn
 rw[this,abu]
theorem ru {α β:Type}{g:α->β->Bool}{l:List α}{m:List β}(h:l.length=m.length)(h2:(l.zip m).any (λq=>!g q.1 q.2)=false):wM g l m=true:=by
 unfold wM;rw[decide_eq_true h,WZ,Wu];intro q hq;have:=WY.1 h2 q hq;simpa using this
theorem wO {α β:Type}(k:α->β){g:α->α->Bool}(h:∀x y,g x y=eqv (k x) (k y)):∀l m:List α,wM g l m=eqv (l.map k) (m.map k)
 |[],[]=>by rw[fI];rfl
 |[],y::m=>by rw[p6 (by simp),fJ (by simp)]
 |x::l,[]=>by rw[p6 (by simp),fJ (by simp)]
 |x::l,y::m=>by
  have ih:=wO k h l m;unfold wM at ih |-;rw[List.zip_cons_cons,List.all_cons];dsimp only;rw[h x y];by_cases e:k x=k y
  .rw[e,fI,WZ,XQ,XQ,e];have e2:decide ((x::l).length=(y::m).length)=decide (l.length=m.length):=by simp
   rw[e2,ih,Xb,bY,bY];exact⟨λh=>by rw[h],λh=>List.tail_eq_of_cons_eq h⟩
  .rw[fJ e,Xu,abu,fJ];intro h2;rw[XQ,XQ]at h2;exact e (List.head_eq_of_cons_eq h2)
def tj (s:Sym):Int:=s.id
def AX (m:Mem):Int×Bool×Bool×dz:=(m.id,m.DJ,m.has,m.ib)
def HP (t:aH):(Int×Int×Int×Int×Bool)×List Int×List (Int×Bool×Bool×dz):=((t.kind,t.low,t.high,t.max,t.jO),t.syms.map tj,t.bc.map AX)
noncomputable def ep (x y:aH):Bool:=eqv (HP x) (HP y)
theorem r497 (u:Nat)(x y:Sym):res A aA 497 [.agg x.c,.agg y.c,.ro u [.bool false]]=some [.bool (eqv (tj x) (tj y))]:=by
 have e:eqv (tj x) (tj y)=decide (x.id=y.id):=by
  unfold tj eqv;simp
 rw[e];refine aw a497 rfl rfl ?_;simp only[F497,LP];unfold Sym.c;simp(disch:=omega)only[go_sem];refine Br.aJ (λc=>?_) (λc=>?_)<;>simp(disch:=omega)only[go_sem,c,decide_true,decide_false]
noncomputable def Dj (x y:Sym):Bool:=eqv (tj x) (tj y)
noncomputable def AY (x y:Mem):Bool:=eqv (AX x) (AX y)
theorem aab (x y:Sym):Dj x y=decide (x.id=y.id):=by
 unfold Dj tj eqv;simp
theorem r496 (t u w:Nat)(l m:List Sym)(hl:l.length<=2^63 - 1)(_hm:m.length<=2^63 - 1):res A aA 496 [.aq t (l.map Sym.c),.aq u (m.map Sym.c),.func 497 [.ro w [.bool false]]]=some [.bool (wM Dj l m)]:=by
 refine aw a496 rfl rfl ?_;simp only[F496,LO];simp(disch:=omega)only[go_sem];refine Br.aJ (λh=>?_) (λh=>?_)<;>simp(disch:=omega)only[go_sem]
 .refine W.find (l.zip m) (λq=>!Dj q.1 q.2) (λk=>⟨[(1,.pv (.aq u (m.map Sym.c))),(2,.pv (.func 497 [.ro w [.bool false]])),(15,.pv (.aq t (l.map Sym.c))),(16,.pv (.int .i64 l.length)),(17,.pv (.int .i64 k))],⟨[],[],[]⟩⟩) rfl (λk q hq hk hfd=>?_) (λhn=>?_)
  .obtain⟨h1,h2⟩:=jh hq;rw[dA (by omega)]at hk;have hc:=λv=>r497 v q.1 q.2;have hg:Dj q.1 q.2=eqv (tj q.1) (tj q.2):=rfl;rw[<- hg]at hc;unfold Sym.c at hc;simp(disch:=omega)only[go_sem];refine Br.aJ (λc=>?_) (λc=>(c (by omega)).elim);simp(disch:=omega)only[go_sem,h1,h2,Sym.c,hc];refine Br.of (λg=>?_) (λg=>?_)<;>simp(disch:=omega)only[go_sem]
   .exact bB.of (by rw[g];rfl) rfl
   .rw[wN (hfd (by rw[g];rfl)).any]
  .have hz:(l.zip m).length=l.length:=dA (by omega);rw[hz];simp(disch:=omega)only[go_sem];rw[ru (by omega) hn.any]
 .rw[p6 (λe=>h (by rw[e]))]
set_option maxHeartbeats 4000000 in
theorem r498 (u:Nat)(x y:Mem)(hx:x.ok)(hy:y.ok):res A aA 498 [.agg x.c,.agg y.c,.ro u [.bool false]]=some [.bool (AY x y)]:=by
 obtain⟨n,vx⟩:=hx.2.2.2;obtain⟨k,vy⟩:=hy.2.2.2;have hv:=r499 n k _ _ vx vy;rw[oq]at hv;have hg:AY x y=eqv (AX x) (AX y):=rfl;rw[hg];obtain⟨a1,a2,a3,a4,a5,v⟩:=x;obtain⟨b1,b2,b3,b4,b5,w⟩:=y;unfold Mem.c AX;unfold dz.c at hv;dsimp only at *;have no:∀{p q:Int×Bool×Bool×dz},p≠q->(some [PV.bool false]:Option (List PV))=some [PV.bool (eqv p q)]:=λh=>by rw[fJ h]
 refine aw a498 rfl rfl ?_;simp only[F498,LQ];simp(disch:=omega)only[go_sem];refine Br.aJ (λe=>?_) (λe=>?_)<;>simp(disch:=omega)only[go_sem,e]
 rotate_left
 .exact no (λq=>e (by cases q;rfl))
 subst e;refine Br.aJ (λe=>?_) (λe=>?_)<;>simp(disch:=omega)only[go_sem,e]
 rotate_left
 .exact no (λq=>e (by cases q;rfl))
 subst e;refine Br.aJ (λe=>?_) (λe=>?_)<;>simp(disch:=omega)only[go_sem,e]
 rotate_left
 .exact no (λq=>e (by cases q;rfl))
 subst e;simp(disch:=omega)only[go_sem,hv];refine Br.of (λe=>?_) (λe=>?_)<;>simp(disch:=omega)only[go_sem,e]
 rotate_left
 .exact no (λq=>mW.1 e (by cases q;rfl))
 have e:=bY.1 e;subst e;rw[fI]
theorem r318k (t u w:Nat)(l m:List Mem)(hl:l.length<=2^63 - 1)(_hm:m.length<=2^63 - 1)(vl:∀r∈l,r.ok)(vm:∀r∈m,r.ok):res A aA 318 [.aq t (l.map Mem.c),.aq u (m.map Mem.c),.func 498 [.ro w [.bool false]]]=some [.bool (wM AY l m)]:=by
 refine aw a318 rfl rfl ?_;simp only[F318,Hn];simp(disch:=omega)only[go_sem];refine Br.aJ (λh=>?_) (λh=>?_)<;>simp(disch:=omega)only[go_sem]
 .refine W.find (l.zip m) (λq=>!AY q.1 q.2) (λk=>⟨[(1,.pv (.aq u (m.map Mem.c))),(2,.pv (.func 498 [.ro w [.bool false]])),(15,.pv (.aq t (l.map Mem.c))),(16,.pv (.int .i64 l.length)),(17,.pv (.int .i64 k))],⟨[],[],[]⟩⟩) rfl (λk q hq hk hfd=>?_) (λhn=>?_)
  .obtain⟨h1,h2⟩:=jh hq;rw[dA (by omega)]at hk;have hc:=λv=>r498 v q.1 q.2 (vl q.1 (Wa h1)) (vm q.2 (Wa h2));unfold Mem.c at hc;simp(disch:=omega)only[go_sem];refine Br.aJ (λc=>?_) (λc=>(c (by omega)).elim);simp(disch:=omega)only[go_sem,h1,h2,Mem.c,hc];refine Br.of (λg=>?_) (λg=>?_)<;>simp(disch:=omega)only[go_sem]
   .exact bB.of (by rw[g];rfl) rfl
   .rw[wN (hfd (by rw[g];rfl)).any]
  .have hz:(l.zip m).length=l.length:=dA (by omega);rw[hz];simp(disch:=omega)only[go_sem];rw[ru (by omega) hn.any]
 .rw[p6 (λe=>h (by rw[e]))]
theorem Ym (x y:aH)(h:(x.kind,x.low,x.high,x.max,x.jO)=(y.kind,y.low,y.high,y.max,y.jO)):ep x y=(wM Dj x.syms y.syms&&wM AY x.bc y.bc):=by
 rw[wO tj (g:=Dj) (λ_ _=>rfl),wO AX (g:=AY) (λ_ _=>rfl)];unfold ep HP;rw[h,Xb,XX,bY,bY,bY];constructor
 .intro e;injection e with _ e;injection e with e1 e2;exact⟨e1,e2⟩
 .rintro ⟨e1,e2⟩
  rw[e1,e2]
theorem FD {x y:aH}(h:(x.kind,x.low,x.high,x.max,x.jO)≠(y.kind,y.low,y.high,y.max,y.jO)):ep x y=false:=by
 unfold ep;rw[fJ];unfold HP;intro e;injection e with e _;exact h e
set_option maxHeartbeats 8000000 in
theorem r488 (x y:aH)(hx:x.ok)(hy:y.ok):res A aA 488 [.agg x.c,.agg y.c,.bool false]=some [.bool (ep x y)]:=by
 obtain⟨_,⟨lx1,lx2⟩,_,lx3⟩:=hx;obtain⟨_,⟨ly1,ly2⟩,_,ly3⟩:=hy;unfold bP at *;have hs:=λt u w=>r496 t u w x.syms y.syms (by omega) (by omega);have hm:=λt u w=>r318k t u w x.bc y.bc (by omega) (by omega) lx3 ly3;have yes:=Ym x y;have no:(x.kind,x.low,x.high,x.max,x.jO)≠(y.kind,y.low,y.high,y.max,y.jO)->(some [PV.bool false]:Option (List PV))=some [PV.bool (ep x y)]:=λh=>by rw[FD h]
 generalize ep x y=G at *;obtain⟨a1,a2,a3,a4,a5,a6,a7,a8,a9,a10⟩:=x;obtain⟨b1,b2,b3,b4,b5,b6,b7,b8,b9,b10⟩:=y;unfold aH.c;dsimp only at *;refine aw a488 rfl rfl ?_;simp only[F488,LI];simp(disch:=omega)only[go_sem];refine Br.aJ (λe=>?_) (λe=>?_)<;>simp(disch:=omega)only[go_sem,e]
 rotate_left
 .exact no (λq=>e (by cases q;rfl))
 subst e;refine Br.aJ (λe=>?_) (λe=>?_)<;>simp(disch:=omega)only[go_sem,e]
 rotate_left
 .exact no (λq=>e (by cases q;rfl))
 subst e;refine Br.aJ (λe=>?_) (λe=>?_)<;>simp(disch:=omega)only[go_sem,e]
 rotate_left
 .exact no (λq=>e (by cases q;rfl))
 subst e;refine Br.aJ (λe=>?_) (λe=>?_)<;>simp(disch:=omega)only[go_sem,e]
 rotate_left
 .exact no (λq=>e (by cases q;rfl))
 subst e;refine Br.aJ (λe=>?_) (λe=>?_)<;>simp(disch:=omega)only[go_sem,e]
 rotate_left
 .exact no (λq=>e (by cases q;rfl))
 subst e;rw[yes rfl];generalize wM Dj a6 b6=e1 at *;generalize wM AY a7 b7=e2 at *;simp(disch:=omega)only[go_sem,hs];cases e1 with
 |false=>simp(disch:=omega)only[go_sem,Bool.false_and]
 |true=>simp(disch:=omega)only[go_sem,hm,Bool.true_and]
set_option maxHeartbeats 16000000 in
theorem r500 (x y:aH)(hx:x.ok)(hy:y.ok):res A aA 500 [.agg x.c,.agg y.c,.bool false]=some [.bool (ep x y)]:=by
 obtain⟨_,⟨lx1,lx2⟩,_,lx3⟩:=hx;obtain⟨_,⟨ly1,ly2⟩,_,ly3⟩:=hy;unfold bP at *;have yes:=Ym x y;have no:(x.kind,x.low,x.high,x.max,x.jO)≠(y.kind,y.low,y.high,y.max,y.jO)->(some [PV.bool false]:Option (List PV))=some [PV.bool (ep x y)]:=λh=>by rw[FD h]
 generalize ep x y=G at *;obtain⟨a1,a2,a3,a4,a5,a6,a7,a8,a9,a10⟩:=x;obtain⟨b1,b2,b3,b4,b5,b6,b7,b8,b9,b10⟩:=y;unfold aH.c;dsimp only at *;refine aw a500 rfl rfl ?_;simp only[F500,aaY];simp(disch:=omega)only[go_sem];refine Br.aJ (λe=>?_) (λe=>?_)<;>simp(disch:=omega)only[go_sem,e]
 rotate_left
 .exact no (λq=>e (by cases q;rfl))
 subst e;refine Br.aJ (λe=>?_) (λe=>?_)<;>simp(disch:=omega)only[go_sem,e]
 rotate_left
 .exact no (λq=>e (by cases q;rfl))
 subst e;refine Br.aJ (λe=>?_) (λe=>?_)<;>simp(disch:=omega)only[go_sem,e]
 rotate_left
 .exact no (λq=>e (by cases q;rfl))
 subst e;refine Br.aJ (λe=>?_) (λe=>?_)<;>simp(disch:=omega)only[go_sem,e]
 rotate_left
 .exact no (λq=>e (by cases q;rfl))
 subst e;refine Br.aJ (λe=>?_) (λe=>?_)<;>simp(disch:=omega)only[go_sem,e]
 rotate_left
 .exact no (λq=>e (by cases q;rfl))
 subst e;rw[yes rfl];clear yes no;refine Br.aJ (λe=>?_) (λe=>?_)<;>simp(disch:=omega)only[go_sem,e]
 rotate_left
 .rw[p6 (λh=>e (by rw[h])),Xu]
 refine Br.aJ (λe'=>?_) (λe'=>?_)<;>simp(disch:=omega)only[go_sem,e']
 rotate_left
 .rw[p6 (g:=AY) (λh=>e' (by rw[h])),abu]
 refine W.find (a6.zip b6) (λq=>!Dj q.1 q.2) (λk=>⟨[(2,.pv (.bool false)),(3,.ptr 3 0),(4,.ptr 4 0),(7,.pv (.int .i64 k))],⟨[(3,[.pv (.int .i64 a1),.pv (.str a2),.pv (.int .i64 a3),.pv (.int .i64 a4),.pv (.int .i64 a5),.pv (.aq 0 (a6.map Sym.c)),.pv (.aq 0 (a7.map Mem.c)),.pv (.int .i64 a8),.pv (.int .i64 a9),.pv (.bool a10)]),(4,[.pv (.int .i64 a1),.pv (.str b2),.pv (.int .i64 a3),.pv (.int .i64 a4),.pv (.int .i64 a5),.pv (.aq 0 (b6.map Sym.c)),.pv (.aq 0 (b7.map Mem.c)),.pv (.int .i64 b8),.pv (.int .i64 b9),.pv (.bool a10)])],[],[]⟩⟩) rfl (λk q hq hk hfd=>?_) (λhn=>?_)
 .obtain⟨h1,h2⟩:=jh hq;rw[dA (by omega)]at hk;have hg:=aab q.1 q.2;simp(disch:=omega)only[go_sem];refine Br.aJ (λc=>?_) (λc=>(c (by omega)).elim);cases hd:decide (q.1.id=q.2.id)with
  |true=>
   rw[hd]at hg;simp(disch:=omega)only[go_sem,h1,h2,Option.map_some,Sym.c,hd];exact bB.of (by rw[hg];rfl) rfl
  |false=>
   rw[hd]at hg;simp(disch:=omega)only[go_sem,h1,h2,Option.map_some,Sym.c,hd];rw[wN (hfd (by rw[hg];rfl)).any,Xu]
 have hz:(a6.zip b6).length=a6.length:=dA (by omega);rw[hz,ru (by omega) hn.any,WZ];simp(disch:=omega)only[go_sem];refine W.find (a7.zip b7) (λq=>!AY q.1 q.2) (λk=>⟨[(2,.pv (.bool false)),(3,.ptr 3 0),(4,.ptr 4 0),(8,.pv (.int .i64 k))],⟨[(3,[.pv (.int .i64 a1),.pv (.str a2),.pv (.int .i64 a3),.pv (.int .i64 a4),.pv (.int .i64 a5),.pv (.aq 0 (a6.map Sym.c)),.pv (.aq 0 (a7.map Mem.c)),.pv (.int .i64 a8),.pv (.int .i64 a9),.pv (.bool a10)]),(4,[.pv (.int .i64 a1),.pv (.str b2),.pv (.int .i64 a3),.pv (.int .i64 a4),.pv (.int .i64 a5),.pv (.aq 0 (b6.map Sym.c)),.pv (.aq 0 (b7.map Mem.c)),.pv (.int .i64 b8),.pv (.int .i64 b9),.pv (.bool a10)])],[],[]⟩⟩) rfl (λk q hq hk hfd=>?_) (λhn2=>?_)
 .obtain⟨h1,h2⟩:=jh hq;rw[dA (by omega)]at hk;obtain⟨p,r⟩:=q;have hv:=r330v (lx3 p (Wa h1)).2.2.2 (ly3 r (Wa h2)).2.2.2;rw[oq]at hv;have hg:AY p r=eqv (AX p) (AX r):=rfl;unfold AX at hg;obtain⟨c1,c2,c3,c4,c5,v⟩:=p;obtain⟨d1,d2,d3,d4,d5,w⟩:=r;dsimp only at *;generalize AY ⟨c1,c2,c3,c4,c5,v⟩ ⟨d1,d2,d3,d4,d5,w⟩=G2 at *;have no:(c1,c4,c5,v)≠(d1,d4,d5,w)->(some [PV.bool false]:Option (List PV))=some [PV.bool (wM AY a7 b7)]:=λh=>by
   rw[wN (hfd (by rw[hg,fJ h];rfl)).any]
  have yes:(c1,c4,c5,v)=(d1,d4,d5,w)->(!G2)=false:=λh=>by
   rw[hg,h,fI];rfl
  unfold dz.c at hv;simp(disch:=omega)only[go_sem];refine Br.aJ (λc=>?_) (λc=>(c (by omega)).elim);simp(disch:=omega)only[go_sem,h1,h2,Option.map_some,Mem.c];refine Br.aJ (λe=>?_) (λe=>?_)<;>simp(disch:=omega)only[go_sem,e]
  rotate_left
  .exact no (λq=>e (by cases q;rfl))
  subst e;refine Br.aJ (λe=>?_) (λe=>?_)<;>simp(disch:=omega)only[go_sem,e]
  rotate_left
  .exact no (λq=>e (by cases q;rfl))
  subst e;refine Br.aJ (λe=>?_) (λe=>?_)<;>simp(disch:=omega)only[go_sem,e]
  rotate_left
  .exact no (λq=>e (by cases q;rfl))
  subst e;simp(disch:=omega)only[go_sem,hv];refine Br.of (λe=>?_) (λe=>?_)<;>simp(disch:=omega)only[go_sem,e]
  rotate_left
  .exact no (λq=>mW.1 e (by cases q;rfl))
  have e:=bY.1 e;subst e;exact bB.of (yes rfl) rfl
 have hz2:(a7.zip b7).length=a7.length:=dA (by omega);rw[hz2,ru (by omega) hn2.any];simp(disch:=omega)only[go_sem]
def Yx (g:List Bool->Nat)(M:List (List Bool)):List (List PV):=M.map λl=>[.aq (g l) (bX l)]
@[go_sem] theorem R4 (g:List Bool->Nat)(M:List (List Bool))(i:Nat):(Yx g M)[i]?=M[i]?.map λl=>[.aq (g l) (bX l)]:=by simp[Yx]
structure mB (na nb:Nat)(M:List (List Bool)):Prop where
 len:M.length=na
 row:∀l∈M,l.length=nb
def iY (M:List (List Bool))(p q:Int):Bool:=(M.getD p.toNat []).getD q.toNat false
theorem mB.get {na nb:Nat}{M:List (List Bool)}(h:mB na nb M){p q:Int}(hp:0<=p/\p<na)(hq:0<=q/\q<nb):∃l,M[p.toNat]?=some l/\l.length=nb/\l[q.toNat]?=some (iY M p q):=by
 have hl:=h.len;obtain⟨l,hl⟩:=get_some (l:=M) (k:=p.toNat) (by omega);have hr:=h.row l (Wa hl);refine⟨l,hl,hr,?_⟩;have h4:q.toNat<l.length:=by omega
 unfold iY;simp[hl,h4]
def UU (n:Nat)(l:List (Int×Int)):Prop:=∀u∈l,0<=u.2/\u.2<n
def HQ (M:List (List Bool))(x y:aH):Bool:=wM (λu v=>iY M u.2 v.2) (p5 x) (p5 y)
theorem r491 (s v na nb:Nat)(g:List Bool->Nat)(a b:Int×Int)(M:List (List Bool))(hM:mB na nb M)(hn:na<=1000000/\nb<=1000000)(ha:0<=a.2/\a.2<na)(hb:0<=b.2/\b.2<nb):res A aA 491 [.agg (i6 a),.agg (i6 b),.ro s [.aq v (Yx g M)]]=some [.bool (iY M a.2 b.2)]:=by
 obtain⟨l,h1,h2,h3⟩:=hM.get ha hb;have h4:=hM.len;obtain⟨a0,a1⟩:=ha;obtain⟨b0,b1⟩:=hb;refine aw a491 rfl rfl ?_;simp only[F491,LM];unfold i6;simp(disch:=omega)only[go_sem,gB,h1,h3,Option.map_some]
theorem r489 (t u s v na nb:Nat)(g:List Bool->Nat)(l m:List (Int×Int))(M:List (List Bool))(hM:mB na nb M)(hn:na<=1000000/\nb<=1000000)(ha:UU na l)(hb:UU nb m)(hl:l.length<=2000000)(hm:m.length<=2000000):res A aA 489 [.aq t (l.map i6),.aq u (m.map i6),.func 491 [.ro s [.aq v (Yx g M)]]]=some [.bool (wM (λa b=>iY M a.2 b.2) l m)]:=by
 refine aw a489 rfl rfl ?_;simp only[F489,LJ];simp(disch:=omega)only[go_sem];refine Br.aJ (λh=>?_) (λh=>?_)<;>simp(disch:=omega)only[go_sem]
 .refine W.find (l.zip m) (λq=>!iY M q.1.2 q.2.2) (λk=>⟨[(1,.pv (.aq u (m.map i6))),(2,.pv (.func 491 [.ro s [.aq v (Yx g M)]])),(15,.pv (.aq t (l.map i6))),(16,.pv (.int .i64 l.length)),(17,.pv (.int .i64 k))],⟨[],[],[]⟩⟩) rfl (λk q hq hk hfd=>?_) (λhn=>?_)
  .obtain⟨h1,h2⟩:=jh hq;rw[dA (by omega)]at hk;have hc:=λs=>r491 s v na nb g q.1 q.2 M hM hn (ha _ (Wa h1)) (hb _ (Wa h2));unfold i6 at hc;simp(disch:=omega)only[go_sem];refine Br.aJ (λc=>?_) (λc=>(c (by omega)).elim);simp(disch:=omega)only[go_sem,h1,h2,Option.map_some,i6,hc];refine Br.of (λg=>?_) (λg=>?_)<;>simp(disch:=omega)only[go_sem]
   .exact bB.of (by rw[g];rfl) rfl
   .rw[wN (g:=λ(a b:Int×Int)=>iY M a.2 b.2) (hfd (by rw[g];rfl)).any]
  .have hz:(l.zip m).length=l.length:=dA (by omega);rw[hz];simp(disch:=omega)only[go_sem];rw[ru (g:=λ(a b:Int×Int)=>iY M a.2 b.2) (by omega) hn.any]
 .rw[p6 (λe=>h (by rw[e]))]
theorem zd (t:aH):(p5 t).length<=t.bc.length+2:=by
 unfold p5 oP;rw[Wz,Wz,Wg];split<;>split<;>simp<;>omega
theorem Zx {x y:aH}(h:ep x y=true):(p5 x).length=(p5 y).length:=by
 have h:=bY.1 h;unfold HP at h;injection h with h1 h;injection h with h2 h3;injection h1 with h1 _;have h3:=congrArg List.length h3;rw[Wg,Wg]at h3;unfold p5 oP;rw[Wz,Wz,Wz,Wz,Wg,Wg,h1,h3];split<;>split<;>rfl
theorem r501 (v na nb:Nat)(g:List Bool->Nat)(x y:aH)(M:List (List Bool))(hM:mB na nb M)(hn:na<=1000000/\nb<=1000000)(hx:x.short/\x.kind<=9)(hy:y.short/\y.kind<=9)(ha:UU na (p5 x))(hb:UU nb (p5 y))(hl:(p5 x).length=(p5 y).length):res A aA 501 [.agg x.c,.agg y.c,.aq v (Yx g M)]=some [.bool (HQ M x y)]:=by
 have h5:=r504 x hx.1 hx.2;have h6:=r504 y hy.1 hy.2;have h7:=zd x;have h8:=hx.1.bc;unfold HQ;generalize p5 x=l at *;generalize p5 y=m at *;refine aw a501 rfl rfl ?_;simp only[F501,aaZ];unfold aH.c at *;have hMl:=hM.len;simp(disch:=omega)only[go_sem,h5,h6];refine W.find (l.zip m) (λq=>!iY M q.1.2 q.2.2) (λk=>⟨[(2,.pv (.aq v (Yx g M))),(7,.pv (.aq 0 (l.map i6))),(8,.pv (.aq 0 (m.map i6))),(9,.pv (.int .i64 k))],⟨[],[],[]⟩⟩) rfl (λk q hq hk hfd=>?_) (λhn=>?_)
 .obtain⟨h1,h2⟩:=jh hq;rw[dA (by omega)]at hk;have qa:=ha _ (Wa h1);have qb:=hb _ (Wa h2);obtain⟨r,e1,e2,e3⟩:=hM.get qa qb;obtain⟨a0,a1⟩:=qa;obtain⟨b0,b1⟩:=qb;simp(disch:=omega)only[go_sem];refine Br.aJ (λc=>?_) (λc=>(c (by omega)).elim);simp(disch:=omega)only[go_sem,h1,h2,Option.map_some,i6,gB,e1,e3];refine Br.of (λg=>?_) (λg=>?_)<;>simp(disch:=omega)only[go_sem]
  .exact bB.of (by rw[g];rfl) rfl
  .rw[wN (g:=λ(a b:Int×Int)=>iY M a.2 b.2) (hfd (by rw[g];rfl)).any]
 have hz:(l.zip m).length=l.length:=dA (by omega);rw[hz,ru (g:=λ(a b:Int×Int)=>iY M a.2 b.2) (by omega) hn.any];simp(disch:=omega)only[go_sem]
def qT (M:List (List Bool))(p q:Nat):List (List Bool):=M.set p ((M.getD p []).set q false)
theorem B5 {na nb p q:Nat}{M:List (List Bool)}(h:mB na nb M)(hp:p<na):mB na nb (qT M p q) where
 len:=by unfold qT;rw[Xx];exact h.len
 row l hl:=by
  rcases XK hl with hl|rfl
  .exact h.row l hl
  .rw[Xx];have:M[p]?=some (M.getD p []):=by
    have:p<M.length:=by rw[h.len];exact hp
    simp[this]
   exact h.row _ (Wa this)
theorem FE {na nb p q p' q':Nat}{M:List (List Bool)}(h:mB na nb M)(hp:p<na)(hq:q<nb):iY (qT M p q) p' q'=if p=p'/\q=q' then false else iY M p' q':=by
 have hl:p<M.length:=by rw[h.len];exact hp
 have hr:(M.getD p []).length=nb:=h.row _ (by
  have:M[p]?=some (M.getD p []):=by simp[hl]
  exact Wa this)
 unfold iY qT;simp only[Int.toNat_natCast,List.getD_eq_getElem?_getD,List.getElem?_set];by_cases e:p=p'
 .subst e;simp only[List.getD_eq_getElem?_getD]at hr;by_cases e2:q=q'
  .subst e2;simp only[hl,if_true,List.getElem?_eq_getElem,Option.getD_some,if_pos,and_self];rw[afz,if_pos rfl];split<;>rfl
  .simp[hl,e2]
 .simp[e]
abbrev Rel:=List (List Bool)->Nat->Nat->Bool
def FF (R:Rel)(p:Nat)(s:List (List Bool)×Bool)(q:Nat):List (List Bool)×Bool:=if (iY s.1 p q&&!R s.1 p q)=true then (qT s.1 p q,true) else s
def FH (R:Rel)(nb:Nat)(s:List (List Bool)×Bool)(p:Nat):List (List Bool)×Bool:=(List.range nb).foldl (FF R p) s
def GD (R:Rel)(na nb:Nat)(s:List (List Bool)×Bool):List (List Bool)×Bool:=(List.range na).foldl (FH R nb) s
def wP (R:Rel)(na nb:Nat):Nat->List (List Bool)->List (List Bool)
 |0,M=>M
 |n+1,M=>if (GD R na nb (M,false)).2=true then wP R na nb n (GD R na nb (M,false)).1 else (GD R na nb (M,false)).1
def wQ (M:List (List Bool)):Nat:=(M.map λr=>r.countP id).sum
theorem HS {r:List Bool}{q:Nat}(h:r.getD q false=true):(r.set q false).countP id+1=r.countP id:=by
 induction r generalizing q with
 |nil=>simp at h
 |cons b r ih=>
  cases q with
  |zero=>
   have hb:b=true:=by simpa using h
   subst hb;simp
  |succ q=>
   have:=ih (q:=q) (by simpa using h);rw[List.set_cons_succ,List.countP_cons,List.countP_cons];omega
theorem HT {M:List (List Bool)}{p q:Nat}(h:iY M p q=true):wQ (qT M p q)+1=wQ M:=by
 unfold iY at h;simp only[Int.toNat_natCast]at h;unfold wQ qT
 induction M generalizing p with
 |nil=>simp at h
 |cons r M ih=>
  cases p with
  |zero=>
   have h:r.getD q false=true:=by simpa using h
   have:=HS h;simp only[List.getD_cons_zero,List.set_cons_zero,List.map_cons,List.sum_cons];omega
  |succ p=>
   have:=ih (p:=p) (by simpa using h);simp only[List.getD_cons_succ,List.set_cons_succ,List.map_cons,List.sum_cons];omega
def Steps (s t:List (List Bool)×Bool):Prop:=t=s\/(t.2=true/\wQ t.1<wQ s.1)
theorem Steps.trans {s t u:List (List Bool)×Bool}(h:Steps s t)(g:Steps t u):Steps s u:=by
 rcases g with rfl|⟨g1,g2⟩
 .exact h
 .rcases h with rfl|⟨_,h2⟩
  .exact .inr ⟨g1,g2⟩
  .exact .inr ⟨g1,by omega⟩
theorem Dk (R:Rel)(p:Nat)(s:List (List Bool)×Bool)(q:Nat):Steps s (FF R p s q):=by
 unfold FF;split
 .rename_i h;rw[XX]at h;have:=HT h.1;exact .inr ⟨rfl,by dsimp only;omega⟩
 .exact .inl rfl
theorem FI {α:Type}{f:List (List Bool)×Bool->α->List (List Bool)×Bool}(h:∀s a,Steps s (f s a)):∀(l:List α)(s:List (List Bool)×Bool),Steps s (l.foldl f s)
 |[],_=>.inl rfl
 |a::l,s=>(h s a).trans (FI h l _)
theorem AZ (R:Rel)(nb:Nat)(s:List (List Bool)×Bool)(p:Nat):Steps s (FH R nb s p):=FI (Dk R p) _ _
theorem vu (R:Rel)(na nb:Nat)(s:List (List Bool)×Bool):Steps s (GD R na nb s):=FI (λs p=>AZ R nb s p) _ _
theorem qE (R:Rel)(na nb:Nat):∀(n m:Nat)(M:List (List Bool)),wQ M<n->wQ M<m->wP R na nb n M=wP R na nb m M
 |0,_,_,h,_=>absurd h (Xo _)
 |_+1,0,_,_,h=>absurd h (Xo _)
 |n+1,m+1,M,h,g=>by
  unfold wP;split
  .rename_i hf;rcases vu R na nb (M,false)with e|⟨_,e⟩
   .rw[e]at hf;cases hf
   .dsimp only at e;exact qE R na nb n m _ (by omega) (by omega)
  .rfl
def Ys (R:Rel)(na nb:Nat)(M:List (List Bool)):List (List Bool):=wP R na nb (wQ M+1) M
def MI (G:List (List Bool))(R:Rel)(na nb:Nat)(s:List (List Bool)×Bool):Prop:=mB na nb s.1/\if s.2=true then Ys R na nb s.1=G else s.1=G
def FJ (s:List (List Bool)×Bool):Nat:=if s.2=true then wQ s.1+1 else 0
theorem FK {G:List (List Bool)}{R:Rel}{na nb:Nat}{M:List (List Bool)}(h:MI G R na nb (M,true))(hk:mB na nb (GD R na nb (M,false)).1):MI G R na nb (GD R na nb (M,false))/\FJ (GD R na nb (M,false))<FJ (M,true):=by
 have h2:Ys R na nb M=G:=h.2;unfold Ys wP at h2;rcases vu R na nb (M,false)with e|⟨hf,e⟩
 .rw[e]at h2 |-;rw[if_neg (by simp)]at h2;exact⟨⟨h.1,by rw[if_neg (by simp)];exact h2⟩,by unfold FJ;rw[if_neg (by simp),if_pos rfl];omega⟩
 .dsimp only at e;rw[if_pos hf]at h2;refine⟨⟨hk,?_⟩,?_⟩
  .rw[if_pos hf];unfold Ys;rw[<- h2];exact qE R na nb _ _ _ (by omega) (by omega)
  .unfold FJ;rw[if_pos hf,if_pos rfl];dsimp only;omega
theorem FL {R:Rel}{na nb p q:Nat}{s:List (List Bool)×Bool}(h:mB na nb s.1)(hp:p<na):mB na nb (FF R p s q).1:=by
 unfold FF;split
 .exact B5 h hp
 .exact h
theorem foldI {α β:Type}{f:β->α->β}{P:β->Prop}:∀(l:List α)(s:β),P s->(∀s a,a∈l->P s->P (f s a))->P (l.foldl f s)
 |[],_,h,_=>h
 |a::l,s,h,g=>foldI l _ (g s a WH h) λs b hb=>g s b (W3 _ hb)
theorem HU {R:Rel}{na nb p:Nat}{s:List (List Bool)×Bool}(h:mB na nb s.1)(hp:p<na):mB na nb (FH R nb s p).1:=foldI (P:=λs=>mB na nb s.1) _ s h λ_ _ _ h=>FL h hp
theorem MJ {R:Rel}{na nb:Nat}{s:List (List Bool)×Bool}(h:mB na nb s.1):mB na nb (GD R na nb s).1:=foldI (P:=λs=>mB na nb s.1) _ s h λ_ _ hp h=>HU h (WJ.1 hp)
theorem vw {R:Rel}{na nb:Nat}{P:List (List Bool)->Prop}(h:∀M p q,p<na->q<nb->P M->iY M p q=true->R M p q=false->P (qT M p q)):∀(n:Nat)(M:List (List Bool)),P M->P (wP R na nb n M)
 |0,_,hM=>hM
 |n+1,M,hM=>by
  have hs:P (GD R na nb (M,false)).1:=foldI (P:=λ(s:List (List Bool)×Bool)=>P s.1) _ _ hM λs p hp hs=>foldI (P:=λ(s:List (List Bool)×Bool)=>P s.1) _ _ hs λs q hq hs=>by
   unfold FF;split
   .rename_i hc;rw[XX]at hc;exact h _ p q (List.mem_range.1 hp) (List.mem_range.1 hq) hs hc.1 (by simpa using hc.2)
   .exact hs
  unfold wP;split
  .exact vw h n _ hs
  .exact hs
theorem HV {R:Rel}{na nb n:Nat}{M:List (List Bool)}(h:mB na nb M):mB na nb (wP R na nb n M):=vw (P:=mB na nb) (λ_ _ _ hp _ h _ _=>B5 h hp) n M h
theorem HW {R:Rel}{na nb:Nat}{M:List (List Bool)}(h:mB na nb M):mB na nb (Ys R na nb M):=HV h
theorem ZQ {α:Type}{f:List (List Bool)×Bool->α->List (List Bool)×Bool}(h:∀s a,Steps s (f s a)):∀(l:List α)(s:List (List Bool)×Bool),s.2=false->(l.foldl f s).2=false->∀a∈l,f s a=s
 |[],_,_,_,_,ha=>by simp at ha
 |b::l,s,h0,h1,a,ha=>by
  rw[Xp]at h1;have hb:f s b=s:=by
   rcases h s b with e|⟨e,e2⟩
   .exact e
   .rcases FI h l (f s b)with e3|⟨e3,_⟩
    .rw[e3,e]at h1;cases h1
    .rw[e3]at h1;cases h1
  rw[hb]at h1;rcases WG.1 ha with rfl|ha
  .exact hb
  .exact ZQ h l s h0 h1 a ha
theorem Yn (R:Rel)(na nb:Nat):∀(n:Nat)(M:List (List Bool)),wQ M<n->∀p q,p<na->q<nb->iY (wP R na nb n M) p q=true->R (wP R na nb n M) p q=true
 |0,_,h,_,_,_,_,_=>absurd h (Xo _)
 |n+1,M,h,p,q,hp,hq,he=>by
  have e0:wP R na nb (n+1) M=if (GD R na nb (M,false)).2=true then wP R na nb n (GD R na nb (M,false)).1 else (GD R na nb (M,false)).1:=rfl
  by_cases hf:(GD R na nb (M,false)).2=true
  .rw[if_pos hf]at e0;rw[e0]at he |-;rcases vu R na nb (M,false)with e|⟨_,e⟩
   .rw[e]at hf;cases hf
   .dsimp only at e;exact Yn R na nb n _ (by omega) p q hp hq he
  .rw[if_neg hf]at e0;have hf':(GD R na nb (M,false)).2=false:=by simpa using hf
   have hr:=ZQ (λs p=>AZ R nb s p) (List.range na) (M,false) rfl hf' p (WJ.2 hp);have hs:GD R na nb (M,false)=(M,false):=by
    rcases vu R na nb (M,false)with e|⟨e,_⟩
    .exact e
    .rw[e]at hf';cases hf'
   rw[hs]at e0;rw[e0]at he |-;have hq2:=ZQ (Dk R p) (List.range nb) (M,false) rfl (by
    have:(FH R nb (M,false) p).2=false:=by rw[hr]
    exact this) q (WJ.2 hq)
   unfold FF at hq2;split at hq2
   .cases congrArg Prod.snd hq2
   .rename_i hc;rw[XX,not_and]at hc;simpa using hc he
theorem YW (R:Rel)(na nb:Nat)(M:List (List Bool)):∀p q,p<na->q<nb->iY (Ys R na nb M) p q=true->R (Ys R na nb M) p q=true:=Yn R na nb _ M (by omega)
theorem Zc {R:Rel}{na nb:Nat}{M:List (List Bool)}{S:Nat->Nat->Prop}(hM:mB na nb M)(h0:∀p q,S p q->iY M p q=true)(h:∀M p q,(∀p q,S p q->iY M p q=true)->S p q->R M p q=true):∀p q,S p q->iY (Ys R na nb M) p q=true:=
 (vw (P:=λM=>mB na nb M/\∀p q,S p q->iY M p q=true) (λM p q hp hq hS _ hr=>⟨B5 hS.1 hp,λp' q' hs=>by
  rw[FE hS.1 hp hq];by_cases e:p=p'/\q=q'
  .obtain⟨rfl,rfl⟩:=e;have:=h M p q hS.2 hs;rw[hr]at this;cases this
  .rw[if_neg e];exact hS.2 p' q' hs⟩) _ M ⟨hM,h0⟩).2
theorem ZR {R:Rel}{na nb:Nat}{M:List (List Bool)}(hM:mB na nb M):∀p q:Nat,iY (Ys R na nb M) p q=true->iY M p q=true:=
 (vw (P:=λN=>mB na nb N/\∀p q:Nat,iY N p q=true->iY M p q=true) (λN p q hp hq hN _ _=>⟨B5 hN.1 hp,λp' q' hs=>by
  rw[FE hN.1 hp hq]at hs;split at hs
  .cases hs
  .exact hN.2 p' q' hs⟩) _ M ⟨hM,λ_ _ h=>h⟩).2
theorem A2 {α β:Type}{f:α->β}{y:β}{l:List α}{k i:Nat}{x:α}(hi:i<k)(hx:l[i]?=some x):(fM f y l k)[i]?=some (f x):=by
 unfold fM;have hl:=(V9.1 hx).1;rw[List.getElem?_append_left (by simp;omega),List.getElem?_map,List.getElem?_take,if_pos hi,hx];rfl
def aV (es:List Edge)(s:Int):List Edge:=es.filter λe=>e.fr==s
theorem lK (es:List Edge)(s:Int):(aV es s).length<=es.length:=XW _ _
theorem YO {α:Type}(p:α->Bool)(l:List α):l.foldl (λo x=>if p x=true then o++[x] else o) []=l.filter p:=by
 have:=fold_filter p id l [];simpa using this
set_option maxHeartbeats 1000000 in
@[go_sem] theorem r38 (t:Nat)(n s0 s:Int)(es:List Edge)(hl:es.length<=2000000000):res A aA 38 [.agg [.int .i64 n,.int .i64 s0,.aq t (es.map Edge.c)],.int .i64 s]=some [.aq 0 (bF (aV es s))]:=by
 refine aw a38 rfl rfl ?_;simp only[F38,c38];simp(disch:=omega)only[go_sem];refine W.fold es (λo e=>if (e.fr==s)=true then o++[e] else o) [] (λk o=>⟨[(1,.pv (.int .i64 s)),(2,.ptr 2 0),(5,dh 0 (bF o)),(6,.pv (.int .i64 k))],⟨[(2,[.pv (.int .i64 n),.pv (.int .i64 s0),.pv (.aq t (es.map Edge.c))])],cK 4 (bF o),[]⟩⟩) (λk o=>o.length<=k) rfl (Wj _) (λk e o he hk _ hi=>?_) (λo ho hi=>?_)
 .simp(disch:=omega)only[go_sem];refine Br.aJ (λh=>?_) (λh=>(h (by omega)).elim);simp(disch:=omega)only[go_sem,he];refine Br.aJ (λf=>?_) (λf=>?_)<;>simp(disch:=omega)only[go_sem,f,he]
  .have hf:(e.fr==s)=true:=by simp[f]
   refine cW.of ?_ (by rw[if_pos hf];simp;omega);show _=St.mk _ _;rw[if_pos hf];have hee:(⟨s,e.send,e.label,e.to⟩:Edge)=e:=by rw[<- f]
   rw[hee];rfl
  .have hf:(e.fr==s)=false:=by simp[f]
   refine cW.of ?_ (by rw[hf];simp;omega);show _=St.mk _ _;rw[hf];rfl
 .rw[YO]at ho;simp(disch:=omega)only[go_sem];rw[ho];rfl
def I6 (a b:List Edge)(p q:Int):Option Edge:=(aV a p).find? λe=>!(cO q e.send e.label b).isSome
def Zo:Option Edge->Bool×Int
 |some e=>(e.send,e.label)
 |none=>(false,0)
set_option maxHeartbeats 1000000 in
@[go_sem] theorem r37 (t u:Nat)(n s n' s' p q:Int)(a b:List Edge)(ha:a.length<=2000000000)(hb:b.length<=2000000000):
  res A aA 37 [.agg [.int .i64 n,.int .i64 s,.aq t (a.map Edge.c)],.agg [.int .i64 n',.int .i64 s',.aq u (b.map Edge.c)],.int .i64 p,.int .i64 q]=some [.agg [.bool (Zo (I6 a b p q)).1,.int .i64 (Zo (I6 a b p q)).2],.bool (I6 a b p q).isSome]:=by
 refine aw a37 rfl rfl ?_;simp only[F37,c37];have hel:=lK a p;have h39:=λ(d:Bool) (x:Int)=>r39 u ⟨n',s',b⟩ q d x (show b.length<=2^63 - 1 by omega);simp(disch:=omega)only[go_sem];refine W.find (aV a p) (λe=>!(cO q e.send e.label b).isSome) (λk=>⟨[(3,.pv (.int .i64 q)),(5,.ptr 5 0),(8,.ptr 8 0),(10,.pv (.aq 0 (bF (aV a p)))),(11,.pv (.int .i64 k))],⟨[(5,[.pv (.int .i64 n'),.pv (.int .i64 s'),.pv (.aq u (b.map Edge.c))]),(8,[.pv (.bool false),.pv (.int .i64 0)])],[],[]⟩⟩) rfl (λk e he hk hf=>?_) (λhno=>?_)
 .simp(disch:=omega)only[go_sem];refine Br.aJ (λh=>?_) (λh=>(h (by omega)).elim);simp(disch:=omega)only[go_sem,he,h39];refine Br.of (λf=>?_) (λf=>?_)<;>simp(disch:=omega)only[go_sem,he]
  .exact bB.of (by rw[f];rfl) rfl
  .have:=(hf (by rw[f];rfl)).find
   have hle:I6 a b p q=some e:=this;rw[hle];rfl
 .simp(disch:=omega)only[go_sem];have hle:I6 a b p q=none:=hno.find;rw[hle];rfl
def ZS (g:List Int->Nat)(M:List (List Int)):List (List PV):=M.map λl=>[.aq (g l) (ints l)]
@[go_sem] theorem aa8 (g:List Int->Nat)(M:List (List Int))(i:Nat):(ZS g M)[i]?=M[i]?.map λl=>[.aq (g l) (ints l)]:=by simp[ZS]
def UW (M:List (List Int))(p q:Int):Int:=(M.getD p.toNat []).getD q.toNat 0
def R5 (b:List Edge)(M:List (List Int))(q k:Int)(e:Edge):Bool:=match cO q e.send e.label b with
 |some n=>decide (UW M e.to n=k)
 |none=>false
def R6 (a b:List Edge)(M:List (List Int))(p q k:Int):Option Edge:=(aV a p).find? (R5 b M q k)
structure vC (na nb:Nat)(M:List (List Int)):Prop where
 len:M.length=na
 row:∀l∈M,l.length=nb
theorem vC.get {na nb:Nat}{M:List (List Int)}(h:vC na nb M){p q:Int}(hp:0<=p/\p<na)(hq:0<=q/\q<nb):∃l,M[p.toNat]?=some l/\l.length=nb/\l[q.toNat]?=some (UW M p q):=by
 have h1:p.toNat<M.length:=by rw[h.len];omega
 have h2:M[p.toNat]?=some M[p.toNat]:=by simp
 have h3:=h.row _ (Wa h2);refine⟨_,h2,h3,?_⟩;unfold UW;have h4:q.toNat<M[p.toNat].length:=by omega
 simp[h1,h4]
set_option maxHeartbeats 1000000 in
@[go_sem] theorem r41 (t u v na nb:Nat)(g:List Int->Nat)(n s n' s' p q k:Int)(a b:List Edge)(M:List (List Int))(ha:a.length<=2000000000)(hb:b.length<=2000000000)(hM:vC na nb M)(hta:∀e∈a,0<=e.to/\e.to<(na:Int))(htb:∀e∈b,0<=e.to/\e.to<(nb:Int)):
  res A aA 41 [.agg [.int .i64 n,.int .i64 s,.aq t (a.map Edge.c)],.agg [.int .i64 n',.int .i64 s',.aq u (b.map Edge.c)],.int .i64 p,.int .i64 q,.aq v (ZS g M),.int .i64 k]=some [.agg [.bool (Zo (R6 a b M p q k)).1,.int .i64 (Zo (R6 a b M p q k)).2],.bool (R6 a b M p q k).isSome]:=by
 refine aw a41 rfl rfl ?_;simp only[F41,c41];have hel:=lK a p;have hml:=hM.len;have h39:=λ(d:Bool) (x:Int)=>r39 u ⟨n',s',b⟩ q d x (show b.length<=2^63 - 1 by omega);simp(disch:=omega)only[go_sem];refine W.find (aV a p) (R5 b M q k) (λj=>⟨[(3,.pv (.int .i64 q)),(4,.pv (.aq v (ZS g M))),(5,.pv (.int .i64 k)),(7,.ptr 7 0),(12,.ptr 12 0),(14,.pv (.aq 0 (bF (aV a p)))),(15,.pv (.int .i64 j))],⟨[(7,[.pv (.int .i64 n'),.pv (.int .i64 s'),.pv (.aq u (b.map Edge.c))]),(12,[.pv (.bool false),.pv (.int .i64 0)])],[],[]⟩⟩) rfl (λj e he hj hf=>?_) (λhno=>?_)
 .obtain⟨t0,t1⟩:=hta e (Xl.1 (Wa he)).1;simp(disch:=omega)only[go_sem];refine Br.aJ (λh=>?_) (λh=>(h (by omega)).elim);simp(disch:=omega)only[go_sem,he,h39];cases hn:cO q e.send e.label b with
  |none=>
   have hp:R5 b M q k e=false:=by unfold R5;rw[hn]
   simp(disch:=omega)only[go_sem,Option.isSome_none];exact bB.of hp rfl
  |some m=>
   have hp:R5 b M q k e=decide (UW M e.to m=k):=by unfold R5;rw[hn]
   have hmb:0<=m/\m<(nb:Int):=by
    have:∀{es:List Edge},(∀e∈es,0<=e.to/\e.to<(nb:Int))->cO q e.send e.label es=some m->0<=m/\m<(nb:Int):=by
     intro es
     induction es with
     |nil=>intro _ hh;cases hh
     |cons x es ih=>
      intro hh h2;unfold cO at h2;split at h2
      .cases h2;exact hh x (by simp)
      .exact ih (λy hy=>hh y (by simp[hy])) h2
    exact this htb hn
   obtain⟨l,g1,g2,g3⟩:=hM.get (p:=e.to) (q:=m) ⟨t0,t1⟩ hmb;obtain⟨m0,m1⟩:=hmb;simp(disch:=omega)only[go_sem,he,Option.isSome_some,Option.getD_some,gB,g1,g3];refine Br.aJ (λf=>?_) (λf=>?_)<;>simp(disch:=omega)only[go_sem,he]
   .have:=(hf (by rw[hp];simp[f])).find
    have hle:R6 a b M p q k=some e:=this;rw[hle];rfl
   .exact bB.of (by rw[hp];simp[f]) rfl
 .simp(disch:=omega)only[go_sem];have hle:R6 a b M p q k=none:=hno.find;rw[hle];rfl
def ownRow (nb p:Nat):V:=.own (p+1) 0 0 nb
def X4 (na nb m:Nat):List V:=fM (ownRow nb) (.tl []) (List.range na) m
theorem X8 {na nb m:Nat}(h:m<=na):(X4 na nb m).length=na:=by
 have:=AM (ownRow nb) (.tl []) (List.range na) (k:=m) (by simpa using h);rw[WI]at this;exact this
theorem Zy (na nb:Nat):X4 na nb 0=List.replicate na (.tl []):=by
 unfold X4;rw[y5,WI]
theorem ZT {na nb m:Nat}(h:m<na):(X4 na nb m).set m (.own (m+1) 0 0 nb)=X4 na nb (m+1):=AO (f:=ownRow nb) (Xr h)
theorem YX {na nb m i:Nat}(h:i<m)(hm:m<=na):(X4 na nb m)[i]?=some (.own (i+1) 0 0 nb):=A2 (f:=ownRow nb) h (Xr (by omega))
def Zd (r:List Int):aL:=⟨0,1,.inl (ints r)⟩
def YP (M:List (List Int)):List aL:=M.map Zd
@[go_sem] theorem abe (M:List (List Int)):(YP M).length=M.length:=by simp[YP]
@[go_sem] theorem Zp (M:List (List Int))(i:Nat):(YP M)[i]?=M[i]?.map λr=>⟨0,1,.inl (ints r)⟩:=by
 unfold YP;rw[Wf];rfl
@[go_sem] theorem abf (M:List (List Int))(i:Nat)(r:List Int):(YP M).set i ⟨0,1,.inl (ints r)⟩=YP (M.set i r):=by simp[YP,Zd,List.map_set]
@[go_sem] theorem aa9 (M:List (List Int))(r:List Int):YP M++[⟨0,1,.inl (ints r)⟩]=YP (M++[r]):=by simp[YP,Zd]
theorem ZU (na nb:Nat):X4 na nb na=(List.range na).map (ownRow nb):=by
 have:=AN (ownRow nb) (.tl []) (List.range na);rw[WI]at this;exact this
theorem YY {α:Type}{na nb:Nat}{M:List (List Int)}(hM:vC na nb M)(f:V->Option α)(g:List Int->α)(hf:∀p r,M[p]?=some r->f (.own (p+1) 0 0 nb)=some (g r)):ay (ay f) (cQ (X4 na nb na))=some (M.map λr=>[g r]):=by
 rw[ZU];have key:∀(k:Nat)(N:List (List Int)),N.length=k->(∀p r,N[p]?=some r->f (.own (p+1) 0 0 nb)=some (g r))->ay (ay f) (cQ ((List.range k).map (ownRow nb)))=some (N.map λr=>[g r]):=by
  intro k
  induction k with
  |zero=>
   intro N hN _;have:N=[]:=Wp hN;subst this;rfl
  |succ k ih=>
   intro N hN hf;obtain⟨N',r,rfl⟩:∃N' r,N=N'++[r]:=⟨N.dropLast,N.getLast (by intro e;rw[e]at hN;simp at hN),(List.dropLast_concat_getLast _).symm⟩;have hl:N'.length=k:=by simpa using hN
   have h1:=ih N' hl λp r hr=>hf p r (by rw[We (V9.1 hr).1];exact hr);have h2:=hf k r (by rw[List.getElem?_append_right (by omega),hl];simp);rw[Xq,WC];have happ:∀(a b:List (List V))(ra rb:List (List α)),ay (ay f) a=some ra->ay (ay f) b=some rb->ay (ay f) (a++b)=some (ra++rb):=by
    intro a
    induction a with
    |nil=>intro b ra rb h1 h2;cases h1;exact h2
    |cons x a ih=>
     intro b ra rb h1 h2;simp only[ay]at h1;split at h1
     .rename_i y l' e1 e2;cases h1;simp only[List.cons_append,ay,e1,ih b l' rb e2 h2]
     .cases h1
   have h3:ay (ay f) (cQ [ownRow nb k])=some [[g r]]:=by
    simp[cQ,ay,ownRow,h2]
   have h4:=happ _ _ _ _ h1 h3;rw[WC];show ay (ay f) (cQ ((List.range k).map (ownRow nb)++[ownRow nb k]))=_;unfold cQ at h4 |-;rw[WC];exact h4
 exact key na M hM.len hf
theorem ZV {na nb:Nat}{M:List (List Int)}(hM:vC na nb M)(bx:List (Nat×List V))(a0:aL)(d:Nat):ay (ay (aR ⟨bx,a0::YP M,[]⟩ (d+1))) (cQ (X4 na nb na))=some (ZS (λ_=>1) M):=
 YY hM (aR ⟨bx,a0::YP M,[]⟩ (d+1)) (λr=>PV.aq 1 (ints r)) λp r hr=>by
  have h1:=hM.row r (Wa hr);have h2:(ints r).take nb=ints r:=Wq (by rw[bt];omega);simp[aR,aB,Zp,hr,az,h2]
theorem ZW {na nb:Nat}{M:List (List Int)}(hM:vC na nb M)(bx:List (Nat×List V))(a0:aL)(d:Nat):ay (ay (aY ⟨bx,a0::YP M,[]⟩ (d+1))) (cQ (X4 na nb na))=some (lls M):=
 YY hM (aY ⟨bx,a0::YP M,[]⟩ (d+1)) (λr=>PV.aq 0 (ints r)) λp r hr=>by
  have h1:=hM.row r (Wa hr);have h2:(ints r).take nb=ints r:=Wq (by rw[bt];omega);simp[dS,aB,Zp,hr,az,h2,bO]
def VM (a b:List Edge)(p q:Int):Bool:=(I6 a b p q).isSome||(I6 b a q p).isSome
def VN (c:Bool):Int:=if c=true then 1 else 0
def VO (a b:List Edge)(nb p q:Nat):List Int:=fM (λ(q:Nat)=>VN (VM a b p q)) 0 (List.range nb) q
theorem Zq {a b:List Edge}{nb p q:Nat}(h:q<=nb):(VO a b nb p q).length=nb:=by
 have:=AM (λ(q:Nat)=>VN (VM a b p q)) 0 (List.range nb) (k:=q) (by simpa using h);rw[WI]at this;exact this
theorem ZX (a b:List Edge)(nb p:Nat):VO a b nb p 0=List.replicate nb 0:=by
 unfold VO;rw[y5,WI]
theorem aac {a b:List Edge}{nb p q:Nat}(h:q<nb):(VO a b nb p q).set q (VN (VM a b p q))=VO a b nb p (q+1):=AO (f:=λ(q:Nat)=>VN (VM a b p q)) (Xr h)
theorem YZ {α β:Type}{f:α->β}{y:β}{l:List α}{k:Nat}{x:α}(h:l[k]?=some x)(hf:f x=y):fM f y l (k+1)=fM f y l k:=by
 have hk:=(V9.1 h).1;rw[<- AO h,hf];apply WW;intro i;by_cases e:k=i
 .subst e;rw[WU (by rw[AM _ _ _ (by omega)];exact hk)];unfold fM;rw[List.getElem?_append_right (by simp;omega),List.getElem?_replicate,if_pos (by simp;omega)]
 .rw[Xk e]
theorem ZY {a b:List Edge}{nb p q:Nat}(h:q<nb)(hf:VM a b p q=false):VO a b nb p (q+1)=VO a b nb p q:=YZ (f:=λ(q:Nat)=>VN (VM a b p q)) (List.getElem?_range h) (by simp[hf,VN])
def R7 (a b:List Edge)(nb m:Nat):List (List Int):=(List.range m).map λp=>VO a b nb p nb
theorem YI (a b:List Edge)(nb m:Nat):(R7 a b nb m).length=m:=by simp[R7]
theorem Ze (a b:List Edge)(nb m:Nat):R7 a b nb (m+1)=R7 a b nb m++[VO a b nb m nb]:=by simp[R7,List.range_succ]
theorem Y0 (a b:List Edge)(nb m:Nat):vC m nb (R7 a b nb m):=⟨YI a b nb m,λl hl=>by
 obtain⟨p,_,rfl⟩:=Wk.1 hl;exact Zq (Wj _)⟩
def UX (M:List (List Int))(p q:Nat)(v:Int):List (List Int):=M.set p ((M.getD p []).set q v)
theorem Zr {na nb p q:Nat}{M:List (List Int)}{v:Int}(h:vC na nb M)(hp:p<na):vC na nb (UX M p q v) where
 len:=by unfold UX;rw[Xx];exact h.len
 row l hl:=by
  rcases XK hl with hl|rfl
  .exact h.row l hl
  .rw[Xx];have:M[p]?=some (M.getD p []):=by
    have:p<M.length:=by rw[h.len];exact hp
    simp[this]
   exact h.row _ (Wa this)
def R8 (a b:List Edge)(k:Int)(p:Nat)(M:List (List Int))(q:Nat):List (List Int):=if (R6 a b M p q k).isSome=true/\UW M p q=0 then UX M p q (k+1) else M
def UY (a b:List Edge)(nb:Nat)(k:Int)(M:List (List Int))(p:Nat):List (List Int):=(List.range nb).foldl (R8 a b k p) M
def MK (a b:List Edge)(na nb:Nat)(k:Int)(M:List (List Int)):List (List Int):=(List.range na).foldl (UY a b nb k) M
def R9 (a b:List Edge)(na nb:Nat):Nat->List (List Int)
 |0=>R7 a b nb na
 |j+1=>MK a b na nb ((j+1:Nat):Int) (R9 a b na nb j)
def differ (a b:aP):List (List Int):=R9 a.af b.af a.aj.toNat b.aj.toNat (a.aj.toNat*b.aj.toNat)
set_option maxHeartbeats 8000000 in
@[go_sem] theorem r31 (t u:Nat)(a b:aP)(hga:a.Good)(hgb:b.Good):
  res A aA 31 [.agg [.int .i64 a.aj,.int .i64 a.start,.aq t (a.af.map Edge.c)],.agg [.int .i64 b.aj,.int .i64 b.start,.aq u (b.af.map Edge.c)]]=some [.aq 0 (lls (differ a b))]:=by
 refine aw a31 rfl rfl ?_;simp only[F31,c31];have hfa:∀e∈a.af,0<=e.to/\e.to<(a.aj.toNat:Int):=λe he=>by have:=fG.1 (hga.fit e he);omega
 have hfb:∀e∈b.af,0<=e.to/\e.to<(b.aj.toNat:Int):=λe he=>by have:=fG.1 (hgb.fit e he);omega
 obtain⟨sa,ma,la,_,_⟩:=hga;obtain⟨sb,mb,lb,_,_⟩:=hgb;have hd:differ a b=R9 a.af b.af a.aj.toNat b.aj.toNat (a.aj.toNat*b.aj.toNat):=rfl;rw[hd];clear hd;obtain⟨za,ast,ae⟩:=a;obtain⟨zb,bst,be⟩:=b;dsimp only at *;obtain⟨na,rfl⟩:=XB (show 0<=za by omega);obtain⟨nb,rfl⟩:=XB (show 0<=zb by omega);simp only[Int.toNat_natCast]at hfa hfb |-;have hN:(na:Int)*(nb:Int)=((na*nb:Nat):Int):=by simp
 have hNb:na*nb<=144:=abA (show na<=12 by omega) (show nb<=12 by omega);generalize hNN:na*nb=N at hN hNb;simp(disch:=omega)only[go_sem];refine W.fv na (λm=>⟨[(2,.ptr 2 0),(3,.ptr 3 0),(5,.own 0 0 0 na),(6,.pv (.int .i64 m))],⟨[(2,[.pv (.int .i64 (na:Int)),.pv (.int .i64 ast),.pv (.aq t (ae.map Edge.c))]),(3,[.pv (.int .i64 (nb:Int)),.pv (.int .i64 bst),.pv (.aq u (be.map Edge.c))])],⟨0,1,.inr (cQ (X4 na nb m))⟩::YP (R7 ae be nb m),[]⟩⟩) (λ_=>True) (by rw[Zy];rfl) trivial λm hm _=>?_;have hxl:=X8 (nb:=nb) hm;have hbl:=YI ae be nb m;simp(disch:=omega)only[go_sem];refine Br.aJ (λh=>?_) (λh=>?_)
 .have hxs:=ZT (na:=na) (nb:=nb) (m:=m) (by omega);simp(disch:=omega)only[go_sem,hbl,hxs];have hg1:∀w:List Int,(R7 ae be nb m++[w])[m]?=some w:=λw=>by rw[List.getElem?_append_right (by omega),hbl];simp
  have hg2:∀w w':List Int,(R7 ae be nb m++[w]).set m w'=R7 ae be nb m++[w']:=λw w'=>by rw[List.set_append_right _ _ (by omega),hbl];simp
  have hxg:=YX (na:=na) (nb:=nb) (m:=m+1) (i:=m) (by omega) (by omega);have hxl':=X8 (na:=na) (nb:=nb) (m:=m+1) (by omega);refine W.fv nb (λq=>⟨[(2,.ptr 2 0),(3,.ptr 3 0),(5,.own 0 0 0 na),(6,.pv (.int .i64 m)),(7,.pv (.int .i64 q))],⟨[(2,[.pv (.int .i64 (na:Int)),.pv (.int .i64 ast),.pv (.aq t (ae.map Edge.c))]),(3,[.pv (.int .i64 (nb:Int)),.pv (.int .i64 bst),.pv (.aq u (be.map Edge.c))])],⟨0,1,.inr (cQ (X4 na nb (m+1)))⟩::YP (R7 ae be nb m++[VO ae be nb m q]),[]⟩⟩) (λ_=>True) ?_ trivial λq hq _=>?_
  .rw[ZX];rfl
  have hbt:=Zq (a:=ae) (b:=be) (p:=m) hq;simp(disch:=omega)only[go_sem];refine Br.aJ (λh=>?_) (λh=>?_)
  .have hset:=aac (a:=ae) (b:=be) (p:=m) (show q<nb by omega);have hsame:=ZY (a:=ae) (b:=be) (p:=m) (show q<nb by omega);have hset1:VM ae be m q=true->(VO ae be nb m q).set q 1=VO ae be nb m (q+1):=λhc=>by rw[<- hset,hc];rfl
   have hlk:VM ae be m q=((I6 ae be m q).isSome||(I6 be ae q m).isSome):=rfl;simp(disch:=omega)only[go_sem];refine Br.of (λf1=>?_) (λf1=>?_)<;>simp(disch:=omega)only[go_sem,f1]
   .rw[f1,Bool.true_or]at hlk;simp(disch:=omega)only[go_sem,hxg,hg1,hg2,hset1 hlk];exact .of (by omega) rfl trivial
   .refine Br.of (λf2=>?_) (λf2=>?_)<;>simp(disch:=omega)only[go_sem,f2]
    .rw[f1,f2,Bool.false_or]at hlk;simp(disch:=omega)only[go_sem,hxg,hg1,hg2,hset1 hlk];exact .of (by omega) rfl trivial
    .rw[f1,f2,Bool.false_or]at hlk;refine .of (by omega) ?_ trivial;show _=St.mk _ _;rw[hsame hlk];rfl
  .obtain rfl:q=nb:=by omega
   simp(disch:=omega)only[go_sem];refine .of (by omega) ?_ trivial;show _=St.mk _ _;rw[Ze];rfl
 .obtain rfl:m=na:=by omega
  clear h hxl hbl;simp(disch:=omega)only[go_sem];refine W.fv N (λj=>⟨[(2,.ptr 2 0),(3,.ptr 3 0),(5,.own 0 0 0 m),(12,.pv (.int .i64 (j+1:Nat)))],⟨[(2,[.pv (.int .i64 (m:Int)),.pv (.int .i64 ast),.pv (.aq t (ae.map Edge.c))]),(3,[.pv (.int .i64 (nb:Int)),.pv (.int .i64 bst),.pv (.aq u (be.map Edge.c))])],⟨0,1,.inr (cQ (X4 m nb m))⟩::YP (R9 ae be m nb j),[]⟩⟩) (λj=>vC m nb (R9 ae be m nb j)) rfl (Y0 ae be nb m) λj hj hM=>?_;simp(disch:=omega)only[go_sem,hN];refine Br.aJ (λh=>?_) (λh=>?_)
  .simp(disch:=omega)only[go_sem];refine W.IY m (UY ae be nb ((j+1:Nat):Int)) (R9 ae be m nb j) (λp M=>⟨[(2,.ptr 2 0),(3,.ptr 3 0),(5,.own 0 0 0 m),(12,.pv (.int .i64 (j+1:Nat))),(13,.pv (.int .i64 p))],⟨[(2,[.pv (.int .i64 (m:Int)),.pv (.int .i64 ast),.pv (.aq t (ae.map Edge.c))]),(3,[.pv (.int .i64 (nb:Int)),.pv (.int .i64 bst),.pv (.aq u (be.map Edge.c))])],⟨0,1,.inr (cQ (X4 m nb m))⟩::YP M,[]⟩⟩) (λ_ M=>vC m nb M) rfl hM (λp M hp _ hM=>?_) (λM hMe hM=>?_)
   .simp(disch:=omega)only[go_sem];refine Br.aJ (λh=>?_) (λh=>(h (by omega)).elim);simp(disch:=omega)only[go_sem];refine W.IY nb (R8 ae be ((j+1:Nat):Int) p) M (λq M=>⟨[(2,.ptr 2 0),(3,.ptr 3 0),(5,.own 0 0 0 m),(12,.pv (.int .i64 (j+1:Nat))),(13,.pv (.int .i64 p)),(14,.pv (.int .i64 q))],⟨[(2,[.pv (.int .i64 (m:Int)),.pv (.int .i64 ast),.pv (.aq t (ae.map Edge.c))]),(3,[.pv (.int .i64 (nb:Int)),.pv (.int .i64 bst),.pv (.aq u (be.map Edge.c))])],⟨0,1,.inr (cQ (X4 m nb m))⟩::YP M,[]⟩⟩) (λ_ M=>vC m nb M) rfl hM (λq M hq _ hM=>?_) (λM hMe hM=>?_)
    .obtain⟨l,e1,e2,e3⟩:=hM.get (p:=(p:Int)) (q:=(q:Int)) (by omega) (by omega);rw[WX]at e1 e3;have hrt:(cQ (X4 m nb m)).take m=cQ (X4 m nb m):=Wq (by rw[C8,X8 (Wj _)];exact Wj _);have hld:=ZV hM;have h41:=r41 t u 2 m nb (λ_=>1) (m:Int) ast (nb:Int) bst (p:Int) (q:Int) ((j+1:Nat):Int) ae be M (by omega) (by omega) hM hfa hfb;have hxg:=YX (na:=m) (nb:=nb) (m:=m) (i:=p) (by omega) (by omega);have hxl:=X8 (na:=m) (nb:=nb) (Wj _);simp(disch:=omega)only[go_sem];refine Br.aJ (λh=>?_) (λh=>(h (by omega)).elim);simp(disch:=omega)only[go_sem,hrt,hld,h41];have hsok:=Zr (q:=q) (v:=((j+1:Nat):Int)+1) hM hp;have hset:M.set p (l.set q (((j+1:Nat):Int)+1))=UX M p q (((j+1:Nat):Int)+1):=by
      unfold UX;rw[Ws,e1];rfl
     refine Br.of (λf1=>?_) (λf1=>?_)<;>simp(disch:=omega)only[go_sem,f1,hxg,e1,e3]
     .refine Br.aJ (λf2=>?_) (λf2=>?_)<;>simp(disch:=omega)only[go_sem,f2,hxg,e1,hset]
      .have hst:R8 ae be ((j+1:Nat):Int) p M q=UX M p q (((j+1:Nat):Int)+1):=if_pos ⟨f1,f2⟩;rw[hst];exact cW.of rfl hsok
      .have hst:R8 ae be ((j+1:Nat):Int) p M q=M:=if_neg (λhc=>f2 hc.2);rw[hst];exact cW.of rfl hM
     .have hst:R8 ae be ((j+1:Nat):Int) p M q=M:=if_neg (λhc=>by rw[f1]at hc;cases hc.1);rw[hst];exact cW.of rfl hM
    .simp(disch:=omega)only[go_sem];have hr:UY ae be nb ((j+1:Nat):Int) _ p=M:=hMe.symm;rw[hr];exact cW.of rfl hM
   .simp(disch:=omega)only[go_sem];have hr:R9 ae be m nb (j+1)=M:=hMe.symm;refine .of (by omega) ?_ (by rw[hr];exact hM);show _=St.mk _ _;rw[hr];rfl
  .obtain rfl:j=N:=by omega
   have hrt:(cQ (X4 m nb m)).take m=cQ (X4 m nb m):=Wq (by rw[C8,X8 (Wj _)];exact Wj _);have hkp:=ZW hM;simp(disch:=omega)only[go_sem,hrt,hkp]
end Go.Pv
