/-
 What the functions of the law give.
-/
import Derived.Test.YtpchfogcccagjaaGreatC3
set_option linter.unusedSimpArgs false
set_option linter.unusedVariables false
open List renaming mem_of_getElem? → Wa, getElem?_eq_some_iff → V9, getElem?_eq_getElem → Wb, length_map → Wg, getElem?_map → Wf, getElem?_append_left → We, mem_map → Wk, mem_cons → WG, eq_nil_of_length_eq_zero → Wp, getElem?_append_right → Wn, getD_eq_getElem?_getD → Ws, length_append → Wz, getElem?_set_self → WU, pairwise_cons → Wv, findIdx?_eq_some_iff_getElem → Ww, length_take → W8, getElem?_set_ne → Xk, mem_append → WT, ext_getElem? → WW, mem_singleton → Xj, length_set → Xx, mem_or_eq_of_mem_set → XK, pairwise_iff_getElem → Xd, getElem_of_mem → Xg, foldl_cons → Xp, mem_of_mem_take → W2, mem_of_mem_drop → W5, pairwise_singleton → XC, length_pos_iff → abx, take_append_drop → XG, drop_eq_getElem_cons → aft, map_eq_nil_iff → afE
open Nat renaming le_refl → Wj, lt_or_ge → Wh, zero_le → WA, not_lt_zero → Xo, sub_self → afA
open Option renaming map_eq_some_iff → Wx, bind_some → abw
open Int renaming tmod_eq_emod_of_nonneg → abt, emod_nonneg → XJ, emod_lt_of_pos → XR
namespace Go.Pv
structure YD where
 op:Int
 at_:Int
 x:Int
 y:Int
def YD.c (c:YD):List PV:=[.int .u8 c.op,.int .u8 c.at_,.int .u8 c.x,.int .u8 c.y]
def YD.ok (c:YD):Prop:=((0<=c.op/\c.op<=255)/\0<=c.at_/\c.at_<=255)/\(0<=c.x/\c.x<=255)/\0<=c.y/\c.y<=255
def NS (ar:List aL)(ns:List Node):Prop:=∃body,ar[0]?=some ⟨0,5,body⟩/\XZ ar 0 (dX body) (ns.map Node.cs)
def X7 (ns:List Node):Prop:=∀x∈ns,x.ok/\x.parts.length*3<=140737488351232
theorem ZN {ar:List aL}{row:List V}{x:Node}(h:gP ar 0 row x.cs):∃F k,row=[.pv (.int .u8 x.kind),.pv (.int .u8 x.a),.pv (.int .u8 x.b),.pv (.int .u8 x.c),F]/\Home ar 0 k F (x.parts.map Part.c):=by
 obtain⟨hl,hc⟩:=h;have hl5:row.length=5:=hl
 match row,hl5 with
 |[v0,v1,v2,v3,v4],_=>
  have g:∀{v:V}{n:Int},Yw ar 0 v (.int .u8 n)->v=.pv (.int .u8 n):=λh=>by
   rcases h with h|⟨_,_,h,_⟩
   .exact h.1
   .cases h
  have h0:=g (hc 0 v0 _ rfl rfl);have h1:=g (hc 1 v1 _ rfl rfl);have h2:=g (hc 2 v2 _ rfl rfl);have h3:=g (hc 3 v3 _ rfl rfl);have h4:=hc 4 v4 _ rfl rfl;subst h0 h1 h2 h3;rcases h4 with⟨rfl,_⟩|⟨k,rows,he,h⟩
  .exact⟨_,3,rfl,.inl rfl⟩
  .injection he with _ he;subst he;exact⟨_,k,rfl,h⟩
theorem Za {lim:Nat}{ar:List aL}{F:V}{k:Nat}{rows:List (List PV)}(h:Home ar 0 k F rows)(hk:∀r∈rows,r.length=3)(hm:rows.length<=lim):∃rd,∀bx,ee ⟨bx,ar,[]⟩ 3 lim (.tl []) F=some (if rows=[] then (.tl [],{ra:=rd}) else (.own ar.length 0 0 rows.length,{push:=[⟨0,3,.inl rows⟩],ra:=rd,base:=ar.length})):=by
 have hf:aO 3 (.inl rows)=true:=by
  simp only[aO,List.all_eq_true,beq_iff_eq];exact hk
 have key:∀rd,(∀bx,aW ⟨bx,ar,[]⟩ F=some (.inl rows,rd))->∃rd,∀bx,ee ⟨bx,ar,[]⟩ 3 lim (.tl []) F=some (if rows=[] then (.tl [],{ra:=rd}) else (.own ar.length 0 0 rows.length,{push:=[⟨0,3,.inl rows⟩],ra:=rd,base:=ar.length})):=λrd hs=>by
  refine⟨rd,λbx=>?_⟩;simp only[ee,hs,hf,if_true,aD];by_cases h0:rows=[]
  .subst h0;simp
  .have h1:¬rows.length=0:=λe=>h0 (Wp e);simp[h0,h1,hm,aO,aU]
 rcases h with rfl|⟨id,ax,rfl,_,R,h,h4⟩|rfl
 .exact key none λbx=>by simp[aW]
 .exact key (some id) λbx=>by
   have ho:aB ⟨bx,ar,[]⟩ id ax=some ⟨ax,k,.inl R⟩:=by rw[jB,h];simp
   simp[aW,ho,az,h4]
 .exact key none λbx=>by simp[aW]
theorem Zb {lim:Nat}{rows:List (List PV)}(hk:∀r∈rows,r.length=5)(hm:rows.length<=lim)(bx:List (Nat×List V)):ee ⟨bx,[],[]⟩ 5 lim (.tl []) (.pv (.aq 0 rows))=some (if rows=[] then (.tl [],{}) else (.own 0 0 0 rows.length,{push:=[⟨0,5,.inl rows⟩],base:=0})):=by
 have hf:aO 5 (.inl rows)=true:=by
  simp only[aO,List.all_eq_true,beq_iff_eq];exact hk
 have h01:(0:Nat)<=1:=by decide
 by_cases h0:rows=[]
 .subst h0;simp[ee,aW,aO,aD]
 .have h1:¬rows.length=0:=λe=>h0 (Wp e);simp only[ee,aW,h01,hf,if_true,aD];simp[h0,h1,hm,aO,aU]
theorem W.some {α:Type}{c:AC}{s:St}{R:α->Prop}{Q:α->Ex->St->Prop}(h:W A aA c s (λex s'=>∃x,R x/\Q x ex s')):∃x,R x/\W A aA c s (Q x):=by
 obtain⟨ex,s',h1,x,h2,h3⟩:=h;exact⟨x,h2,ex,s',h1,h3⟩
theorem ZO (ar:List aL)(o:Nat)(ns:List Node):XZ ar o (dX (.inl (ns.map Node.cs))) (ns.map Node.cs):=by
 refine⟨by simp[dX],λi row cs h1 h2=>?_⟩;simp only[dX,List.getElem?_map]at h1 h2;rw[Wx]at h1 h2;obtain⟨r,h1,rfl⟩:=h1;obtain⟨x,hx,rfl⟩:=h2;rw[hx]at h1;cases h1;exact .pure rfl rfl (.pure rfl rfl (.pure rfl rfl (.pure rfl rfl (.cons (.inr ⟨3,_,rfl,.inl rfl⟩) (.nil _ _)))))
theorem gP.move {ar ar2:List aL}{row:List V}{cs:List PV}(h:gP ar 0 row cs)(hk:∀id,0<id->id<ar.length->ar2[id]?=ar[id]?):gP ar2 0 row cs:=by
 refine⟨h.1,λi v c h1 h2=>?_⟩;rcases h.2 i v c h1 h2 with h|⟨k,rows,e,h⟩
 .exact .inl h
 .refine .inr ⟨k,rows,e,?_⟩;rcases h with h|⟨id,ax,e1,e2,e3⟩|h
  .exact .inl h
  .exact .inr (.inl ⟨id,ax,e1,e2,e3.move (hk id (by omega) e3.lt)⟩)
  .exact .inr (.inr h)
theorem NS.Gp {ar ar2:List aL}{ms:List Node}{body body2:Sum (List (List PV)) (List (List V))}{j:Nat}{x2:Node}{row2:List V}(h:XZ ar 0 (dX body) (ms.map Node.cs))(h2:ar2[0]?=some ⟨0,5,body2⟩)(hbv:dX body2=(dX body).set j row2)
  (hr:gP ar2 0 row2 x2.cs)(hk:∀id,0<id->id<ar.length->ar2[id]?=ar[id]?):NS ar2 (ms.set j x2):=by
 refine⟨body2,h2,?_⟩;rw[hbv,List.map_set];have h3:XZ ar2 0 (dX body) (ms.map Node.cs):=⟨h.len,λi row cs h1 h2=>(h.row i row cs h1 h2).move hk⟩;exact h3.setRow hr
theorem NS.num {ar A1:List aL}{ms:List Node}{body body':Sum (List (List PV)) (List (List V))}{j i:Nat}{x2:Node}{row':List V}{V1:V}{v:Int}(hrs:XZ ar 0 (dX body) (ms.map Node.cs))(hbl:j<(dX body).length)(hbv:dX body'=(dX body).set j row')(hA0:A1[0]?=some ⟨0,5,body'⟩)
  (hAk:∀id,0<id->id<ar.length->A1[id]?=ar[id]?)(hl:Yr row' i [.pv (.int .u8 v)]=[.pv (.int .u8 x2.kind),.pv (.int .u8 x2.a),.pv (.int .u8 x2.b),.pv (.int .u8 x2.c),V1])(hH:Home A1 0 3 V1 (x2.parts.map Part.c)):
  NS (A1.set 0 ⟨0,5,setBody j i [.pv (.int .u8 v)] body'⟩) (ms.set j x2):=by
 have h1:j<(dX body').length:=by rw[hbv,Xx];exact hbl
 have h0:0<A1.length:=(V9.1 hA0).1;refine NS.Gp hrs (WU h0) (row2:=_) (by
  rw[Yh h1 (by simp[X6]),hbv,List.getD_eq_getElem?_getD,List.getElem?_set_self hbl,Option.getD_some,List.set_set,hl]) ?_ (λid h2 h3=>by rw[List.getElem?_set_ne (by omega),hAk id h2 h3])
 exact .pure rfl rfl (.pure rfl rfl (.pure rfl rfl (.pure rfl rfl (.cons (.inr ⟨3,_,rfl,hH.set _⟩) (.nil _ _)))))
theorem NS.cell {ar A1:List aL}{ms:List Node}{body body':Sum (List (List PV)) (List (List V))}{j i:Nat}{x2:Node}{row':List V}{V2 w:V}(hw:X6 w=true)(hrs:XZ ar 0 (dX body) (ms.map Node.cs))(hbl:j<(dX body).length)(hbv:dX body'=(dX body).set j row')(hA0:A1[0]?=some ⟨0,5,body'⟩)
  (hAk:∀id,0<id->id<ar.length->A1[id]?=ar[id]?)(hl:Yr row' i [w]=[.pv (.int .u8 x2.kind),.pv (.int .u8 x2.a),.pv (.int .u8 x2.b),.pv (.int .u8 x2.c),V2])(hH:Home A1 0 3 V2 (x2.parts.map Part.c)):
  NS (A1.set 0 ⟨0,5,setBody j i [w] body'⟩) (ms.set j x2):=by
 have h1:j<(dX body').length:=by rw[hbv,Xx];exact hbl
 have h0:0<A1.length:=(V9.1 hA0).1;refine NS.Gp hrs (WU h0) (row2:=_) (by
  rw[Yh h1 (by simpa using hw),hbv,List.getD_eq_getElem?_getD,List.getElem?_set_self hbl,Option.getD_some,List.set_set,hl]) ?_ (λid h2 h3=>by rw[List.getElem?_set_ne (by omega),hAk id h2 h3])
 exact .pure rfl rfl (.pure rfl rfl (.pure rfl rfl (.pure rfl rfl (.cons (.inr ⟨3,_,rfl,hH.set _⟩) (.nil _ _)))))
theorem X7.set {ms:List Node}{j:Nat}{x:Node}(h:X7 ms)(hx:x.ok/\x.parts.length*3<=140737488351232):X7 (ms.set j x):=λy hy=>by
 rcases XK hy with h1|h1
 .exact h y h1
 .rw[h1];exact hx
theorem YG (x:Int):0<=IntKind.wrap .u8 x/\IntKind.wrap .u8 x<=255:=by
 have h:IntKind.wrap .u8 x=x%256:=rfl;rw[h];omega
theorem ZP {lim:Nat}{ar:List aL}{F:V}{k:Nat}{rows:List (List PV)}(h:Home ar 0 k F rows)(hk:∀r∈rows,r.length=3)(hm:rows.length<=lim):∃V1 T X,(∀bx,ee ⟨bx,ar,[]⟩ 3 lim (.tl []) F=some (V1,T))/\(∀bx,T.apply ⟨bx,ar,[]⟩=⟨bx,ar++X,[]⟩)/\V1.cells=[V1]/\V1.calm=true/\X6 V1=true/\
  ((rows=[]/\V1=.tl []/\X=[])\/(rows≠[]/\V1=.own ar.length 0 0 rows.length/\X=[⟨0,3,.inl rows⟩])):=by
 obtain⟨rd,hc⟩:=Za h hk hm;by_cases h0:rows=[]
 .simp only[if_pos h0]at hc;exact⟨_,_,[],hc,λbx=>by simp[Tn.apply],rfl,rfl,rfl,.inl ⟨h0,rfl,rfl⟩⟩
 .simp only[if_neg h0]at hc;exact⟨_,_,[⟨0,3,.inl rows⟩],hc,λbx=>by simp[Tn.apply],rfl,rfl,rfl,.inr ⟨h0,rfl,rfl⟩⟩
theorem YV {lim:Nat}{ar:List aL}{id q ax k:Nat}{R new:List (List PV)}{Y:V}{rd:Option Nat}(ho:ar[id]?=some ⟨ax,k,.inl R⟩)(hs:∀bx,aW ⟨bx,ar,[]⟩ Y=some (.inl new,rd))(hk:∀r∈new,r.length=k)(hq:q<=R.length)(hm:q+new.length<=lim)(hn:new≠[])(bx:List (Nat×List V)):
  ee ⟨bx,ar,[]⟩ k lim (.own id ax 0 q) Y=some (.own id (ax+1) 0 (q+new.length),{ar:=some (id,⟨ax+1,k,.inl (R.take q++new)⟩),ra:=rd}):=by
 have o:aB ⟨bx,ar,[]⟩ id ax=some ⟨ax,k,.inl R⟩:=by rw[jB,ho];simp
 have hf:aO k (.inl new)=true:=by
  simp only[aO,List.all_eq_true,beq_iff_eq];exact hk
 have h0:¬new.length=0:=λe=>hn (Wp e);simp only[ee,hs,hf,if_true,o,aD,if_neg h0];rw[if_pos ⟨by show 0+q<=R.length;omega,trivial,hm⟩];rfl
set_option maxHeartbeats 4000000 in
theorem abm (u:Nat)(ns:List Node)(cs:List YD)(hn:ns.length*32<=140737488351232)(hc:cs.length<=2000000)(hp:X7 ns)(hco:∀c∈cs,c.ok)(Q:Ex->St->Prop)
  (hQ:∀ms ar v,ms.length=ns.length->X7 ms->(ms=[]/\v=.tl []\/v=.own 0 0 0 ms.length/\NS ar ms)->Q .ret ⟨[(4,.ptr 4 0)],⟨[(4,[v])],ar,[]⟩⟩):
  W A aA F457.body ⟨entry 0 [.agg [.aq 0 (ns.map Node.cs)],.aq u (cs.map YD.c)],cA [.agg [.aq 0 (ns.map Node.cs)],.aq u (cs.map YD.c)]⟩ Q:=by
 have hcp:=Zb (lim:=4398046511104) (rows:=ns.map Node.cs) (λr hr=>by obtain⟨x,_,rfl⟩:=Wk.1 hr;rfl) (by rw[Wg];omega);simp only[F457,Z8];by_cases h0:ns=[]
 .subst h0;have q:=hQ [] [] _ rfl (λx h=>by simp at h) (.inl ⟨rfl,rfl⟩);simp only[List.map_nil,if_true]at hcp;simp(disch:=omega)only[go_sem,hcp];refine W.once ?_;simp(disch:=omega)only[go_sem];refine Br.aJ (λh1=>?_) (λh1=>?_)
  .simp(disch:=omega)only[go_sem,h1];refine Br.aJ (λh2=>?_) (λh2=>?_)
   .omega
   .simp(disch:=omega)only[go_sem,q]
  .simp(disch:=omega)only[go_sem,h1,q]
 have hne:ns.map Node.cs≠[]:=λe=>h0 (afE.1 e);simp only[if_neg hne,List.length_map]at hcp;simp(disch:=omega)only[go_sem,hcp];refine W.loop (α:=Nat×List aL) (λy=>⟨[(1,.pv (.aq u (cs.map YD.c))),(4,.ptr 4 0),(5,.ptr 5 0),(6,.pv (.int .i64 y.1))],⟨[(4,[.tl []]),(5,[.own 0 0 0 ns.length])],y.2,[]⟩⟩)
  (λy=>y.1<=cs.length/\∃ms,ms.length=ns.length/\X7 ms/\NS y.2 ms) (λy=>cs.length - y.1) (0,_) rfl ⟨WA _,ns,rfl,hp,?_⟩ ?_
 .exact⟨_,rfl,ZO _ 0 ns⟩
 .rintro ⟨k,ar⟩ ⟨hk,ms,hml,hmo,hms⟩
  dsimp only at hk hms |-;have hnl:0<ns.length:=abx.2 h0;simp(disch:=omega)only[go_sem];refine Br.aJ (λh1=>?_) (λh1=>?_)
  rotate_left
  .have q:=hQ ms ar (.own 0 0 0 ns.length) hml hmo (.inr ⟨by rw[hml],hms⟩);simp(disch:=omega)only[go_sem,h1,q]
  simp(disch:=omega)only[go_sem,h1];refine Br.aJ (λh2=>?_) (λh2=>?_)
  rotate_left
  .omega
  obtain⟨c,hc'⟩:∃c,cs[k]?=some c:=⟨_,Wb (by omega)⟩;have hcm:(cs.map YD.c)[k]?=some [.int .u8 c.op,.int .u8 c.at_,.int .u8 c.x,.int .u8 c.y]:=by rw[Wf,hc'];rfl
  obtain⟨⟨⟨o0,o1⟩,a0,a1⟩,⟨x0,x1⟩,y0,y1⟩:=hco c (Wa hc');have hat:0<=c.at_%(ns.length:Int)/\c.at_%(ns.length:Int)<ns.length:=⟨XJ _ (by omega),XR _ (by omega)⟩;obtain⟨j,hj⟩:∃j:Nat,c.at_%(ns.length:Int)=j:=⟨(c.at_%(ns.length:Int)).toNat,by omega⟩;have hj1:j<ns.length:=by omega
  have hrem:cB .rem (.pv (.int .i64 c.at_)) (.pv (.int .i64 (ns.length:Int)))=some (.pv (.int .i64 (j:Int))):=by
   rw[xY (by omega),abt a0,hj]
  obtain⟨body,hb,hrs⟩:=hms;obtain⟨x,hx⟩:∃x,ms[j]?=some x:=⟨_,Wb (by omega)⟩;have hlen:=hrs.len;rw[Wg]at hlen;obtain⟨row,hrow⟩:∃row,(dX body)[j]?=some row:=⟨_,Wb (by omega)⟩;obtain⟨F,kF,rfl,hF⟩:=ZN (hrs.row j row x.cs hrow (by rw[Wf,hx];rfl));have ho:∀bx,aB ⟨bx,ar,[]⟩ 0 0=some ⟨0,5,body⟩:=λbx=>by rw[jB,hb];simp
  have hbr:nZ j body=some [.pv (.int .u8 x.kind),.pv (.int .u8 x.a),.pv (.int .u8 x.b),.pv (.int .u8 x.c),F]:=by rw[YF,hrow]
  obtain⟨hxo,hxl⟩:=hmo x (Wa hx);obtain⟨V1,T,X,hcpy,hT,v1c,v1m,v1p,hX⟩:=ZP (lim:=46912496118442) hF (λr hr=>by obtain⟨p,_,rfl⟩:=Wk.1 hr;rfl) (by rw[Wg];omega);have har:0<ar.length:=(V9.1 hb).1;have ho2:∀bx,aB ⟨bx,ar++X,[]⟩ 0 0=some ⟨0,5,body⟩:=λbx=>by rw[jB,List.getElem?_append_left har,hb];simp
  obtain⟨body',hst,hbv⟩:=aaa (id:=0) (r:=j) (c:=4) (ax:=0) (k:=5) (news:=[V1]) (body:=body) (by omega) (by simp) (by simp[v1m]) (by simpa using v1p);have hrow':(dX body).getD j []=[.pv (.int .u8 x.kind),.pv (.int .u8 x.a),.pv (.int .u8 x.b),.pv (.int .u8 x.c),F]:=by rw[Ws,hrow];rfl
  rw[hrow']at hbv;have hbv':dX body'=(dX body).set j [.pv (.int .u8 x.kind),.pv (.int .u8 x.a),.pv (.int .u8 x.b),.pv (.int .u8 x.c),V1]:=hbv;simp(disch:=omega)only[go_sem,h1,hcm,hrem,ho,hbr,hcpy,hT,v1c,ho2,hst];have hbl:j<(dX body).length:=by omega
  have hbr1:nZ j body'=some [.pv (.int .u8 x.kind),.pv (.int .u8 x.a),.pv (.int .u8 x.b),.pv (.int .u8 x.c),V1]:=by rw[YF,hbv',WU hbl]
  have hA0:((ar++X).set 0 ⟨0,5,body'⟩)[0]?=some ⟨0,5,body'⟩:=WU (by rw[Wz];omega);have hAk:∀id,0<id->id<ar.length->((ar++X).set 0 ⟨0,5,body'⟩)[id]?=ar[id]?:=λid h3 h4=>by rw[Xk (by omega),We h4]
  have hAl:((ar++X).set 0 ⟨0,5,body'⟩).length=ar.length+X.length:=by rw[Xx,Wz]
  have hAm:X≠[]->((ar++X).set 0 ⟨0,5,body'⟩)[ar.length]?=X[0]?:=λh3=>by rw[Xk (by omega),Wn (Wj _),afA]
  generalize (ar++X).set 0 ⟨0,5,body'⟩=A1 at hA0 hAk hAl hAm |-;have ho3:∀bx,aB ⟨bx,A1,[]⟩ 0 0=some ⟨0,5,body'⟩:=λbx=>by rw[jB,hA0];simp
  obtain⟨o,hoo⟩:∃o:Nat,c.op%8=o:=⟨(c.op%8).toNat,by omega⟩;have hrem8:cB .rem (.pv (.int .u8 c.op)) (.pv (.int .u8 8))=some (.pv (.int .u8 (o:Int))):=by
   rw[xY (by omega),abt o0,hoo]
  have hbl':j<(dX body').length:=by rw[hbv',Xx];exact hbl
  have hsn:∀(i:Nat)(v:Int),i<4->eG 0 j i [.pv (.int .u8 v)] ⟨0,5,body'⟩=some {ar:=some (0,⟨0,5,setBody j i [.pv (.int .u8 v)] body'⟩)}:=λi v hi=>by
   unfold eG;rw[if_pos ⟨by rw[Y9];exact hbl',by simp;omega,rfl⟩]
  have hs1:=λv=>hsn 1 v (by decide);have hs2:=λv=>hsn 2 v (by decide);have hs3:=λv=>hsn 3 v (by decide);have hs4:∀a b c d,eG 0 j 4 [.own a b c d] ⟨0,5,body'⟩=some {ar:=some (0,⟨0,5,setBody j 4 [.own a b c d] body'⟩)}:=λa b c d=>by
   unfold eG;rw[if_pos ⟨by rw[Y9];exact hbl',by simp,rfl⟩]
  have hd:∀(a b:Int),0<=a->0<b->cB .rem (.pv (.int .u8 a)) (.pv (.int .u8 b))=some (.pv (.int .u8 (a%b))):=λa b ha hb=>by rw[xY (by omega),abt ha]
  have hd2:=hd c.x 5 x0 (by decide);have hd3:=hd c.y 5 y0 (by decide);have hd6:=hd c.x 6 x0 (by decide);obtain⟨qv,hqv,hqo⟩:∃v,(0<=v/\v<=255)/\cB .quo (.pv (.int .u8 c.x)) (.pv (.int .u8 12))=some (.pv (.int .u8 v)):=⟨_,YG _,xX (by decide)⟩;have hH1:Home A1 0 3 V1 (x.parts.map Part.c):=by
   rcases hX with⟨e0,rfl,rfl⟩|⟨e0,rfl,rfl⟩
   .rw[e0];exact .inr (.inr rfl)
   .exact .inr (.inl ⟨ar.length,0,rfl,by omega,.whole (hAm (by simp))⟩)
  have hok:∀(k a b c:Nat),k<=255->a<=255->b<=255->c<=255->X7 (ms.set j ⟨k,a,b,c,x.parts⟩):=λk a b c q1 q2 q3 q4=>hmo.set ⟨⟨⟨q1,q2,q3,q4⟩,hxo.2⟩,hxl⟩;obtain⟨⟨n0,n1,n2,n3⟩,_,hpo⟩:=hxo;have hpl:∀l:List Part,(∀p∈l,p.ok)->l.length*3<=140737488351232->X7 (ms.set j ⟨x.kind,x.a,x.b,x.c,l⟩):=λl h1 h2=>hmo.set ⟨⟨⟨n0,n1,n2,n3⟩,by unfold bP;dsimp only;omega,h1⟩,h2⟩;have fA:∀v,0<=v/\v<=255->∃ms',ms'.length=ns.length/\X7 ms'/\NS (A1.set 0 ⟨0,5,setBody j 1 [.pv (.int .u8 v)] body'⟩) ms':=λv hv=>⟨_,by rw[List.length_set,hml],hok x.kind v.toNat x.b x.c n0 (by omega) n2 n3,NS.num hrs hbl hbv' hA0 hAk (by simp[Yr,Int.toNat_of_nonneg hv.1]) hH1⟩;have fB:∀v,0<=v/\v<=255->∃ms',ms'.length=ns.length/\X7 ms'/\NS (A1.set 0 ⟨0,5,setBody j 2 [.pv (.int .u8 v)] body'⟩) ms':=λv hv=>⟨_,by rw[List.length_set,hml],hok x.kind x.a v.toNat x.c n0 n1 (by omega) n3,NS.num hrs hbl hbv' hA0 hAk (by simp[Yr,Int.toNat_of_nonneg hv.1]) hH1⟩;have fC:∀v,0<=v/\v<=255->∃ms',ms'.length=ns.length/\X7 ms'/\NS (A1.set 0 ⟨0,5,setBody j 3 [.pv (.int .u8 v)] body'⟩) ms':=λv hv=>⟨_,by rw[List.length_set,hml],hok x.kind x.a x.b v.toNat n0 n1 n2 (by omega),NS.num hrs hbl hbv' hA0 hAk (by simp[Yr,Int.toNat_of_nonneg hv.1]) hH1⟩;have hsame:∃ms',ms'.length=ns.length/\X7 ms'/\NS A1 ms':=⟨_,by rw[Xx,hml],hok x.kind x.a x.b x.c n0 n1 n2 n3,NS.Gp hrs hA0 hbv' (.pure rfl rfl (.pure rfl rfl (.pure rfl rfl (.pure rfl rfl (.cons (.inr ⟨3,_,rfl,hH1⟩) (.nil _ _)))))) hAk⟩;rcases hX with⟨e0,rfl,rfl⟩|⟨e0,rfl,rfl⟩
  case' inr=>
   have hm1:A1[ar.length]?=some ⟨0,3,.inl (x.parts.map Part.c)⟩:=hAm (by simp);have hn0:0<x.parts.length:=abx.2 λe=>e0 (by rw[e];rfl);obtain⟨q,hq⟩:∃q:Nat,c.x%(x.parts.length:Int)=q:=⟨(c.x%(x.parts.length:Int)).toNat,by have:=XJ c.x (b:=x.parts.length) (by omega);omega⟩;have hq1:q<x.parts.length:=by have:=XR c.x (b:=x.parts.length) (by omega);omega
   have hrk:cB .rem (.pv (.int .i64 c.x)) (.pv (.int .i64 (x.parts.length:Int)))=some (.pv (.int .i64 (q:Int))):=by rw[xY (by omega),abt x0,hq]
   simp only[List.length_map]at hbr1 hbv';obtain⟨p,hp⟩:∃p,x.parts[q]?=some p:=⟨_,Wb hq1⟩;have hs6:∀(i:Nat)(v:Int),i<3->eG ar.length q i [.pv (.int .u8 v)] ⟨0,3,.inl (x.parts.map Part.c)⟩=some {ar:=some (ar.length,⟨0,3,.inl ((x.parts.map Part.c).set q (p.c.take i++[.int .u8 v]++p.c.drop (i+1)))⟩)}:=λi v hi=>by
    have e:(x.parts.map Part.c).getD q []=p.c:=by rw[Ws,Wf,hp];rfl
    unfold eG;rw[if_pos ⟨by show q<(x.parts.map Part.c).length;rw[List.length_map];exact hq1,by simp;omega,rfl⟩];show (some {ar:=some (ar.length,⟨0,3,.inl ((x.parts.map Part.c).set q (((x.parts.map Part.c).getD q []).take i++[.int .u8 v]++((x.parts.map Part.c).getD q []).drop (i+1)))⟩)}:Option Tn)=_;rw[e]
   have hs61:=λv=>hs6 1 v (by decide);have hs62:=λv=>hs6 2 v (by decide);simp(disch:=omega)only[go_sem,hA0,hbr1,hrem8];refine Br.aJ (λh3=>?_) (λh3=>?_)
   rotate_left
   .omega
   simp(disch:=omega)only[go_sem,hA0,hbr1,hrem8,hrk]
  case' inl=>
   simp(disch:=omega)only[go_sem,hA0,hbr1,hrem8];refine Br.aJ (λh3=>?_) (λh3=>?_)
   .omega
   simp(disch:=omega)only[go_sem,hA0,hbr1,hrem8]
  all_goals
   refine Br.aJ (λg=>?_) (λg=>?_)
   .simp(disch:=omega)only[go_sem,hA0,hbr1,hd2,hs1];exact⟨(k+1,_),⟨by dsimp only;omega,fA _ (YG _)⟩,by dsimp only;omega,rfl⟩
   simp(disch:=omega)only[go_sem,hA0,hbr1,hrem8];refine Br.aJ (λg=>?_) (λg=>?_)
   .simp(disch:=omega)only[go_sem,hA0,hbr1,hd3,hs2];exact⟨(k+1,_),⟨by dsimp only;omega,fB _ (YG _)⟩,by dsimp only;omega,rfl⟩
   simp(disch:=omega)only[go_sem,hA0,hbr1,hrem8];refine Br.aJ (λg=>?_) (λg=>?_)
   .obtain⟨sv,hsh⟩:∃v,cB .shl (.pv (.int .u8 1)) (.pv (.int .u8 (c.x%6)))=some (.pv (.int .u8 v)):=⟨_,by
     show (ry .shl .u8 1 (c.x%6)).map V.pv=_;unfold ry;rw[if_neg (by omega)];rfl⟩
    obtain⟨xv,hxv,hxr⟩:∃v,(0<=v/\v<=255)/\cB .xor (.pv (.int .u8 x.a)) (.pv (.int .u8 sv))=some (.pv (.int .u8 v)):=⟨_,YG _,by simp only[cB,eO];rfl⟩;simp(disch:=omega)only[go_sem,hA0,hbr1,hd6,hsh,hxr,hs1];exact⟨(k+1,_),⟨by dsimp only;omega,fA _ hxv⟩,by dsimp only;omega,rfl⟩
   simp(disch:=omega)only[go_sem,hA0,hbr1,hrem8];refine Br.aJ (λg=>?_) (λg=>?_)
   .simp(disch:=omega)only[go_sem,hA0,hbr1,hs3];exact⟨(k+1,_),⟨by dsimp only;omega,fC _ (YG _)⟩,by dsimp only;omega,rfl⟩
   simp(disch:=omega)only[go_sem,hA0,hbr1,hrem8];refine Br.aJ (λg=>?_) (λg=>?_);simp(disch:=omega)only[go_sem,hA0,hbr1];refine Br.aJ (λg2=>?_) (λg2=>?_)
  .have hap:∀bx,ee ⟨bx,A1,[]⟩ 3 46912496118442 (.tl []) (.tl [[.int .u8 c.x,.int .u8 c.y,.int .u8 qv]])=some (.own A1.length 0 0 1,{push:=[⟨0,3,.inl [[.int .u8 c.x,.int .u8 c.y,.int .u8 qv]]⟩],base:=A1.length}):=λbx=>by
    simp[ee,aW,aO,aD,aU]
   have hl0:0<A1.length:=by omega
   have hAY:∀Y,(A1++Y)[0]?=some ⟨0,5,body'⟩:=λY=>by rw[We hl0,hA0]
   simp(disch:=omega)only[go_sem,hA0,hbr1,hqo,hap,hAY,hs4];refine⟨(k+1,_),⟨by dsimp only;omega,ms.set j ⟨x.kind,x.a,x.b,x.c,[⟨c.x.toNat,c.y.toNat,qv.toNat⟩]⟩,by rw[List.length_set,hml],hpl _ (λp hp=>?_) (by simp),?_⟩,by dsimp only;omega,rfl⟩
   .rw[Xj]at hp;rw[hp];exact⟨by simp only;omega,by simp only;omega,by simp only;omega⟩
   .refine NS.cell (V2:=.own A1.length 0 0 1) rfl hrs hbl hbv' (hAY _) (λid h3 h4=>by rw[List.getElem?_append_left (by omega),hAk id h3 h4]) (by simp[Yr]) (.inr (.inl ⟨A1.length,0,rfl,by omega,.whole ?_⟩));rw[Wn (Wj _),afA];simp[Part.c];omega
  .omega
  .simp(disch:=omega)only[go_sem,hA0,hbr1,hrem8];refine Br.aJ (λg=>?_) (λg=>?_)
   .simp(disch:=omega)only[go_sem,hA0,hbr1];refine Br.aJ (λg2=>?_) (λg2=>?_)
    .omega
    simp(disch:=omega)only[go_sem];exact⟨(k+1,_),⟨by dsimp only;omega,hsame⟩,by dsimp only;omega,rfl⟩
   simp(disch:=omega)only[go_sem,hA0,hbr1,hrem8];refine Br.aJ (λg=>?_) (λg=>?_)
   .simp(disch:=omega)only[go_sem,hA0,hbr1];refine Br.aJ (λg2=>?_) (λg2=>?_)
    .omega
    simp(disch:=omega)only[go_sem];exact⟨(k+1,_),⟨by dsimp only;omega,hsame⟩,by dsimp only;omega,rfl⟩
   simp(disch:=omega)only[go_sem,hA0,hbr1,hrem8];refine Br.aJ (λg2=>?_) (λg2=>?_)
   .omega
   simp(disch:=omega)only[go_sem];exact⟨(k+1,_),⟨by dsimp only;omega,hsame⟩,by dsimp only;omega,rfl⟩
  .have hl1:ar.length<A1.length:=(V9.1 hm1).1;have hap:=YV (lim:=46912496118442) (q:=x.parts.length) (new:=[[.int .u8 c.x,.int .u8 c.y,.int .u8 qv]]) (Y:=.tl [[.int .u8 c.x,.int .u8 c.y,.int .u8 qv]]) hm1 (λ_=>rfl) (λr hr=>by rw[List.mem_singleton.1 hr];rfl) (by simp) (by simp;omega) nofun
   rw[List.take_of_length_le (by simp)]at hap;have hAY:∀Y,(A1.set ar.length Y)[0]?=some ⟨0,5,body'⟩:=λY=>by rw[Xk (by omega),hA0]
   simp(disch:=omega)only[go_sem,hA0,hbr1,hqo,hap,hAY,hs4];refine⟨(k+1,_),⟨by dsimp only;omega,ms.set j ⟨x.kind,x.a,x.b,x.c,x.parts++[⟨c.x.toNat,c.y.toNat,qv.toNat⟩]⟩,by rw[List.length_set,hml],hpl _ (λp hp=>?_) (by simp;omega),?_⟩,by dsimp only;omega,rfl⟩
   .rcases WT.1 hp with hp|hp
    .exact hpo p hp
    rw[Xj]at hp;rw[hp];exact⟨by simp only;omega,by simp only;omega,by simp only;omega⟩
   .refine NS.cell (V2:=.own ar.length 1 0 (x.parts.length+1)) rfl hrs hbl hbv' (hAY _) (λid h3 h4=>by rw[List.getElem?_set_ne (by omega),hAk id h3 h4]) (by simp[Yr]) (.inr (.inl ⟨ar.length,1,by simp,by omega,.whole ?_⟩));rw[WU hl1];simp[Part.c];omega
  .simp(disch:=omega)only[go_sem];exact⟨(k+1,_),⟨by dsimp only;omega,hsame⟩,by dsimp only;omega,rfl⟩
  .simp(disch:=omega)only[go_sem,hA0,hbr1,hrem8];refine Br.aJ (λg=>?_) (λg=>?_)
   .simp(disch:=omega)only[go_sem,hA0,hbr1];refine Br.aJ (λg2=>?_) (λg2=>?_)
    rotate_left
    .omega
    simp(disch:=omega)only[go_sem,hA0,hbr1,hm1];have hl1:ar.length<A1.length:=(V9.1 hm1).1;have hps:∀p∈x.parts.take q++x.parts.drop (q+1),p.ok:=λp hp=>(WT.1 hp).elim (λh=>hpo p (W2 h)) λh=>hpo p (W5 h);have hso:∀bx,aW ⟨bx,A1,[]⟩ (.own ar.length 0 ((q:Int)+1).toNat (x.parts.length - ((q:Int)+1).toNat))=some (.inl ((x.parts.drop (q+1)).map Part.c),some ar.length):=λbx=>by
     have o:aB ⟨bx,A1,[]⟩ ar.length 0=some ⟨0,3,.inl (x.parts.map Part.c)⟩:=by rw[jB,hm1];simp
     have e:((q:Int)+1).toNat=q+1:=by omega
     simp only[aW,o,Option.map_some,az,e];rw[<- List.map_drop,List.take_of_length_le (by simp)]
    by_cases hz:x.parts.length=q+1
    .have hn:x.parts.drop (q+1)=[]:=List.drop_eq_nil_of_le (by omega);rw[hn]at hso;have hap:∀bx,ee ⟨bx,A1,[]⟩ 3 46912496118442 (.own ar.length 0 0 q) (.own ar.length 0 ((q:Int)+1).toNat (x.parts.length - ((q:Int)+1).toNat))=some (.own ar.length 0 0 q,{ra:=some ar.length,np:=some ar.length}):=λbx=>by
      have o:aB ⟨bx,A1,[]⟩ ar.length 0=some ⟨0,3,.inl (x.parts.map Part.c)⟩:=by rw[jB,hm1];simp
      simp only[ee,hso,o,aO,aD,List.map_nil,List.all_nil,List.length_nil,if_true]
     simp(disch:=omega)only[go_sem,hA0,hbr1,hap,hs4];refine⟨(k+1,_),⟨by dsimp only;omega,ms.set j ⟨x.kind,x.a,x.b,x.c,x.parts.take q++x.parts.drop (q+1)⟩,by rw[List.length_set,hml],hpl _ hps (by simp;omega),?_⟩,by dsimp only;omega,rfl⟩;exact NS.cell (V2:=.own ar.length 0 0 q) rfl hrs hbl hbv' hA0 hAk (by simp[Yr]) (.inr (.inl ⟨ar.length,0,by simp[hn]<;>omega,by omega,_,hm1,by simp[hn]<;>omega⟩))
    .have hap:=YV (lim:=46912496118442) (q:=q) hm1 hso (λr hr=>by obtain⟨p,_,rfl⟩:=List.mem_map.1 hr;rfl) (by simp;omega) (by simp;omega) (λe=>by have:=congrArg List.length e;simp at this;omega);have hAY:∀Y,(A1.set ar.length Y)[0]?=some ⟨0,5,body'⟩:=λY=>by rw[Xk (by omega),hA0]
     simp(disch:=omega)only[go_sem,hA0,hbr1,hap,hAY,hs4];refine⟨(k+1,_),⟨by dsimp only;omega,ms.set j ⟨x.kind,x.a,x.b,x.c,x.parts.take q++x.parts.drop (q+1)⟩,by rw[List.length_set,hml],hpl _ hps (by simp;omega),?_⟩,by dsimp only;omega,rfl⟩;refine NS.cell (V2:=.own ar.length 1 0 (q+((x.parts.drop (q+1)).map Part.c).length)) rfl hrs hbl hbv' (hAY _) (λid h3 h4=>by rw[List.getElem?_set_ne (by omega),hAk id h3 h4]) (by simp[Yr]) (.inr (.inl ⟨ar.length,1,by simp;omega,by omega,.whole ?_⟩));rw[WU hl1];simp[List.map_take]
   simp(disch:=omega)only[go_sem,hA0,hbr1,hrem8];refine Br.aJ (λg=>?_) (λg=>?_)
   .simp(disch:=omega)only[go_sem,hA0,hbr1];refine Br.aJ (λg2=>?_) (λg2=>?_)
    rotate_left
    .omega
    simp(disch:=omega)only[go_sem,hA0,hbr1,hm1,hs62];have hl1:ar.length<A1.length:=(V9.1 hm1).1;have hAY:∀Y,(A1.set ar.length Y)[0]?=some ⟨0,5,body'⟩:=λY=>by rw[Xk (by omega),hA0]
    refine⟨(k+1,_),⟨by dsimp only;omega,ms.set j ⟨x.kind,x.a,x.b,x.c,x.parts.set q ⟨p.id,p.type,c.y.toNat⟩⟩,by rw[List.length_set,hml],hpl _ (λy hy=>?_) (by simp;omega),?_⟩,by dsimp only;omega,rfl⟩
    .rcases XK hy with h|h
     .exact hpo y h
     .obtain⟨g1,g2,_⟩:=hpo p (Wa hp);rw[h];exact⟨g1,g2,by dsimp only;omega⟩
    .refine NS.Gp hrs (hAY _) hbv' (.pure rfl rfl (.pure rfl rfl (.pure rfl rfl (.pure rfl rfl (.cons (.inr ⟨3,_,rfl,.inr (.inl ⟨ar.length,0,by simp,by omega,.whole ?_⟩)⟩) (.nil _ _)))))) λid h3 h4=>by rw[List.getElem?_set_ne (by omega),hAk id h3 h4]
     have e:((c.y.toNat:Nat):Int)=c.y:=by omega
     rw[WU hl1,List.map_set];simp only[Part.c,e];rfl
   simp(disch:=omega)only[go_sem,hA0,hbr1,hrem8];refine Br.aJ (λg2=>?_) (λg2=>?_)
   rotate_left
   .omega
   simp(disch:=omega)only[go_sem,hA0,hbr1,hm1,hp,hs61,Option.map_some,Part.c];have hl1:ar.length<A1.length:=(V9.1 hm1).1;have hAY:∀Y,(A1.set ar.length Y)[0]?=some ⟨0,5,body'⟩:=λY=>by rw[Xk (by omega),hA0]
   have hw:=YG ((p.type:Int)+c.y);refine⟨(k+1,_),⟨by dsimp only;omega,ms.set j ⟨x.kind,x.a,x.b,x.c,x.parts.set q ⟨p.id,(IntKind.wrap .u8 ((p.type:Int)+c.y)).toNat,p.flag⟩⟩,by rw[List.length_set,hml],hpl _ (λy hy=>?_) (by simp;omega),?_⟩,by dsimp only;omega,rfl⟩
   .rcases XK hy with h|h
    .exact hpo y h
    .obtain⟨g1,_,g2⟩:=hpo p (Wa hp);rw[h];exact⟨g1,by dsimp only;omega,g2⟩
   .refine NS.Gp hrs (hAY _) hbv' (.pure rfl rfl (.pure rfl rfl (.pure rfl rfl (.pure rfl rfl (.cons (.inr ⟨3,_,rfl,.inr (.inl ⟨ar.length,0,by simp,by omega,.whole ?_⟩)⟩) (.nil _ _)))))) λid h3 h4=>by rw[List.getElem?_set_ne (by omega),hAk id h3 h4]
    have e:(((IntKind.wrap .u8 ((p.type:Int)+c.y)).toNat:Nat):Int)=IntKind.wrap .u8 ((p.type:Int)+c.y):=by omega
    rw[WU hl1,List.map_set];simp only[Part.c,e]
section
variable {α:Type} [Inhabited α]
def oV (lt:α->α->Bool)(x y:α):Prop:=lt x y=true\/lt y x=true
omit [Inhabited α] in
theorem oV.symm {lt:α->α->Bool}{x y:α}(h:oV lt x y):oV lt y x:=h.elim .inr .inl
def uZ (lt:α->α->Bool)(x:α)(l:List α):Nat->Nat
 |0=>0
 |p+1=>if lt x (l.getD p default)=true then uZ lt x l p else p+1
def kE (x:α)(l:List α)(p:Nat):List α:=l.take p++x::l.drop p
def tY (lt:α->α->Bool)(x:α)(l:List α):List α:=kE x l (uZ lt x l l.length)
theorem Ay (lt:α->α->Bool)(x:α)(l:List α):∀q,uZ lt x l q<=q
 |0=>Wj _
 |q+1=>by
  have:=Ay lt x l q;unfold uZ;split<;>omega
omit [Inhabited α] in
theorem sR (x:α)(l:List α)(p:Nat)(h:p<=l.length):(kE x l p).length=l.length+1:=by simp[kE];omega
theorem yK (lt:α->α->Bool)(x:α)(l:List α):(tY lt x l).length=l.length+1:=sR x l _ (Ay lt x l _)
omit [Inhabited α] in
theorem BP (x:α)(l:List α)(p:Nat)(h:p<=l.length):(kE x l p)[p]?=some x:=by
 unfold kE;rw[List.getElem?_append_right (by simp;omega)];simp[Nat.min_eq_left h]
theorem Az (x:α)(l:List α)(p:Nat)(h:p<l.length):(kE x l (p+1))[p]?=some (l.getD p default):=by
 unfold kE;rw[List.getElem?_append_left (by simp;omega),List.getElem?_take,if_pos (by omega)];simp[h]
theorem CY (x:α)(l:List α)(p:Nat)(h:p<l.length):((kE x l (p+1)).set (p+1) (l.getD p default)).set p x=kE x l p:=by
 apply WW;intro i;have h1:=sR x l (p+1) (by omega);by_cases ip:i=p
 .subst ip;rw[BP x l i (by omega),List.getElem?_set_self (by simp[h1];omega)]
 .rw[Xk (Ne.symm ip)];by_cases iq:i=p+1
  .subst iq;rw[WU (by rw[h1];omega)];unfold kE;rw[List.getElem?_append_right (by simp;omega)];simp[Nat.min_eq_left (Nat.le_of_lt h),h]
  .rw[Xk (Ne.symm iq)];unfold kE;rcases Wh i p with hi|hi
   .rw[List.getElem?_append_left (by simp;omega),List.getElem?_append_left (by simp;omega),List.getElem?_take,List.getElem?_take,if_pos (by omega),if_pos hi]
   .rw[List.getElem?_append_right (by simp;omega),List.getElem?_append_right (by simp;omega)];obtain⟨q,rfl⟩:∃q,i=p+2+q:=⟨i - (p+2),by omega⟩;simp only[List.length_take,Nat.min_eq_left (Nat.le_of_lt h),Nat.min_eq_left (Nat.succ_le_of_lt h)];rw[show p+2+q - (p+1)=q+1 by omega,show p+2+q - p=q+2 by omega];simp only[List.getElem?_cons_succ,List.getElem?_drop];congr 1;omega
omit [Inhabited α] in
theorem CZ (x:α)(l:List α)(p:Nat):(kE x l p).Perm (x::l):=by
 unfold kE;refine(List.perm_middle).trans ?_;rw[XG]
theorem YH (lt:α->α->Bool)(x:α)(l:List α):(tY lt x l).Perm (x::l):=CZ x l _
theorem u5 (lt:α->α->Bool)(x:α)(l:List α):∀q j,uZ lt x l q<=j->j<q->lt x (l.getD j default)=true
 |0,j,_,h=>absurd h (Xo _)
 |q+1,j,h1,h2=>by
  unfold uZ at h1;split at h1
  .rename_i h;rcases Wh j q with h3|h3
   .exact u5 lt x l q j h1 h3
   .obtain rfl:j=q:=by omega
    exact h
  .omega
theorem yL (lt:α->α->Bool)(x:α)(l:List α):∀q p,uZ lt x l q=p+1->lt x (l.getD p default)=false
 |0,p,h=>by simp[uZ]at h
 |q+1,p,h=>by
  unfold uZ at h;split at h
  .exact yL lt x l q p h
  .rename_i hn;obtain rfl:p=q:=by omega
   simpa using hn
theorem yM {lt:α->α->Bool}(tr:∀x y z,lt x y=true->lt y z=true->lt x z=true){x:α}{l:List α}(hl:l.Pairwise (λa b=>lt a b=true))(hx:∀y∈l,oV lt x y):(tY lt x l).Pairwise (λa b=>lt a b=true):=by
 have hle:=Ay lt x l l.length;have hup:∀y∈l.drop (uZ lt x l l.length),lt x y=true:=λy hy=>by
  obtain⟨j,hj,rfl⟩:=Xg hy;rw[List.length_drop]at hj;have:=u5 lt x l l.length (uZ lt x l l.length+j) (by omega) (by omega);rw[List.getElem_drop];simpa [show uZ lt x l l.length+j<l.length by omega]using this
 have hlo:∀y∈l.take (uZ lt x l l.length),lt y x=true:=λy hy=>by
  obtain⟨j,hj,rfl⟩:=Xg hy;rw[W8]at hj;obtain⟨p,hp⟩:∃p,uZ lt x l l.length=p+1:=⟨uZ lt x l l.length - 1,by omega⟩;have hst:=yL lt x l _ _ hp;have hpl:p<l.length:=by omega
  have e1:l.getD p default=l[p]:=by simp[hpl]
  rw[e1]at hst;have h1:lt l[p] x=true:=(hx l[p] (List.getElem_mem _)).resolve_left (by simp[hst]);rw[List.getElem_take];rcases Wh j p with h|h
  .exact tr _ _ _ (Xd.1 hl j p (by omega) hpl h) h1
  .obtain rfl:j=p:=by omega
   exact h1
 unfold tY kE;rw[List.pairwise_append,Wv];refine⟨hl.sublist (List.take_sublist _ _),⟨hup,hl.sublist (List.drop_sublist _ _)⟩,λa ha b hb=>?_⟩;rcases WG.1 hb with rfl|hb
 .exact hlo a ha
 .exact tr _ _ _ (hlo a ha) (hup b hb)
def mA (lt:α->α->Bool)(l:List α):List α:=l.foldl (λo x=>tY lt x o) []
theorem sS (lt:α->α->Bool):∀(l o:List α),(l.foldl (λo x=>tY lt x o) o).Perm (o++l)
 |[],o=>by simp
 |x::l,o=>by
  rw[Xp];refine(sS lt l _).trans ?_;refine((YH lt x o).append_right l).trans ?_;exact(List.perm_middle (a:=x) (l₁:=o) (l₂:=l)).symm
theorem kl (lt:α->α->Bool)(l:List α):(mA lt l).Perm l:=sS lt l []
theorem oA {lt:α->α->Bool}(tr:∀x y z,lt x y=true->lt y z=true->lt x z=true):∀{l o:List α},o.Pairwise (λa b=>lt a b=true)->l.Pairwise (oV lt)->(∀x∈l,∀y∈o,oV lt x y)->(l.foldl (λo x=>tY lt x o) o).Pairwise (λa b=>lt a b=true)
 |[],_,h,_,_=>h
 |x::l,o,h,hl,hx=>by
  rw[Wv]at hl;rw[Xp];refine oA tr (yM tr h (hx x (by simp))) hl.2 λz hz y hy=>?_;rcases WG.1 ((YH lt x o).subset hy)with rfl|hy
  .exact(hl.1 z hz).symm
  .exact hx z (by simp[hz]) y hy
theorem oB {lt:α->α->Bool}(tr:∀x y z,lt x y=true->lt y z=true->lt x z=true){l:List α}(hl:l.Pairwise (oV lt)):(mA lt l).Pairwise (λa b=>lt a b=true):=oA tr List.Pairwise.nil hl (λ_ _ _ h=>absurd h (by simp))
omit [Inhabited α] in
theorem E6 {lt:α->α->Bool}(tr:∀x y z,lt x y=true->lt y z=true->lt x z=true){x:α}:∀{l:List α},l.Pairwise (λa b=>lt a b=true)->(∀y∈l,oV lt x y)->(ins lt x l).Pairwise (λa b=>lt a b=true)
 |[],_,_=>XC _ _
 |y::r,h,hx=>by
  obtain⟨h1,h2⟩:=Wv.1 h;unfold ins;split
  .rename_i hc;refine List.pairwise_cons.2 ⟨λz hz=>?_,E6 tr h2 (λz hz=>hx z (by simp[hz]))⟩;rcases WG.1 ((oe lt x r).subset hz)with rfl|hz
   .exact hc
   .exact h1 z hz
  .rename_i hc;have hxy:lt x y=true:=(hx y (by simp)).resolve_right (by simpa using hc);refine Wv.2 ⟨λz hz=>?_,h⟩;rcases WG.1 hz with rfl|hz
   .exact hxy
   .exact tr _ _ _ hxy (h1 z hz)
omit [Inhabited α] in
theorem oC {lt:α->α->Bool}(tr:∀x y z,lt x y=true->lt y z=true->lt x z=true):∀{l:List α},l.Pairwise (oV lt)->(dp lt l).Pairwise (λa b=>lt a b=true)
 |[],_=>List.Pairwise.nil
 |x::l,h=>by
  obtain⟨h1,h2⟩:=Wv.1 h;exact E6 tr (oC tr h2) λy hy=>h1 y ((dc lt l).subset hy)
omit [Inhabited α] in
theorem u6 {lt:α->α->Bool}:∀{l:List α},l.Pairwise (λa b=>lt a b=true)->rising lt l=true
 |[],_=>rfl
 |[_],_=>rfl
 |x::y::r,h=>by
  obtain⟨h1,h2⟩:=Wv.1 h;simp only[rising,Bool.and_eq_true];exact⟨h1 y (by simp),u6 h2⟩
omit [Inhabited α] in
theorem BQ {lt:α->α->Bool}(irr:∀x,lt x x=false)(tr:∀x y z,lt x y=true->lt y z=true->lt x z=true){l m:List α}(hl:l.Pairwise (λa b=>lt a b=true))(hm:m.Pairwise (λa b=>lt a b=true))(h:∀x,x∈l↔x∈m):l=m:=
 EN (r:=λa b=>lt a b=true) (λx=>by simp[irr x]) tr hl hm h
theorem yN {lt:α->α->Bool}(irr:∀x,lt x x=false)(tr:∀x y z,lt x y=true->lt y z=true->lt x z=true){l:List α}(hl:l.Pairwise (oV lt)):mA lt l=dp lt l:=
 BQ irr tr (oB tr hl) (oC tr hl) λ_=>((kl lt l).trans (dc lt l).symm).mem_iff
end
end Go.Pv
namespace Go.Pv
theorem r66 {Pr:bm}(x:Int):res A Pr 66 [.int .i64 x]=some [.bool false]:=by
 refine aw a66 rfl rfl ?_;simp only[F66,Uw];simp(disch:=omega)only[go_sem]
theorem r60 {Pr:bm}(hp:Pr 66=none)(x y:Int):res A Pr 60 [.int .i64 x,.int .i64 y]=some [.int .i64 (abU x y)]:=by
 refine aw a60 rfl rfl ?_;simp only[F60,Uu];simp(disch:=omega)only[go_sem,yb (by kernel_rfl) hp UC,r66];unfold abU;refine Br.aJ (λh=>?_) (λh=>?_)<;>simp(disch:=omega)only[go_sem,h];refine Br.aJ (λh2=>?_) (λh2=>?_)<;>simp(disch:=omega)only[go_sem,h,h2]
theorem r58 {Pr:bm}(a:Edge):res A Pr 58 [.agg a.c]=some [.int .i64 a.side]:=by
 refine aw a58 rfl rfl ?_;simp only[F58,Us];simp(disch:=omega)only[go_sem];unfold Edge.side;refine Br.of (λh=>?_) (λh=>?_)<;>simp(disch:=omega)only[go_sem,h]
def E7:List Int->Int
 |[]=>0
 |x::r=>if x≠0 then x else E7 r
theorem fL {α:Type}{l:List α}{k:Nat}{x:α}(h:l[k]?=some x):l.drop k=x::l.drop (k+1):=by
 obtain⟨h1,h2⟩:=V9.1 h;rw[aft h1,h2]
theorem get_at {α:Type}{l:List α}{k:Nat}(h:k<l.length):∃x,l[k]?=some x:=⟨_,Wb h⟩
theorem jK {α:Type}{l:List α}{k:Nat}(h:¬(k:Int)<l.length):l.drop k=[]:=List.drop_eq_nil_of_le (by omega)
theorem r59 {Pr:bm}(t:Nat)(l:List Int)(hl:l.length<1000):res A Pr 59 [.aq t (ints l)]=some [.int .i64 (E7 l)]:=by
 refine aw a59 rfl rfl ?_;simp only[F59,Ut];simp(disch:=omega)only[go_sem];refine W.fv l.length (λk=>⟨[(3,.pv (.int .i64 0)),(6,.pv (.aq t (ints l))),(7,.pv (.int .i64 l.length)),(8,.pv (.int .i64 k))],⟨[],[],[]⟩⟩) (λk=>E7 l=E7 (l.drop k)) rfl rfl λk hk hi=>?_;simp(disch:=omega)only[go_sem];refine Br.aJ (λh=>?_) (λh=>?_)
 .obtain⟨x,hx⟩:=get_at (l:=l) (k:=k) (by omega);rw[fL hx,E7]at hi;simp(disch:=omega)only[go_sem,hx];refine Br.aJ (λh1=>?_) (λh1=>?_)<;>simp(disch:=omega)only[go_sem]
  .exact .of (by omega) rfl (by simpa [h1]using hi)
  .simp[hi,h1]
 .simp(disch:=omega)only[go_sem];simp[hi,jK h,E7]
theorem r47 {Pr:bm}(h66:Pr 66=none)(h60:Pr 60=none)(h59:Pr 59=none)(h58:Pr 58=none)(a b:Edge):res A Pr 47 [.agg a.c,.agg b.c]=some [.int .i64 (Edge.cmp a b)]:=by
 refine aw a47 rfl rfl ?_;simp only[F47,Ul];have e59:=λx y z=>r59 (Pr:=Pr) 0 [x,y,z] (by simp);simp only[ints,List.map_cons,List.map_nil]at e59;have e58:=λx=>r58 (Pr:=Pr) x;simp only[Edge.c]at e58;simp(disch:=omega)only[go_sem,yb (by kernel_rfl) h60 UB,yb (by kernel_rfl) h59 UA,yb (by kernel_rfl) h58 Uz,r60 h66,e58 a,e58 b,e59];by_cases h:abU a.label b.label=0<;>simp[E7,Edge.cmp,h]
@[go_sem] theorem r44 (a b:Edge):res A aA 44 [.agg [.int .i64 a.fr,.bool a.send,.int .i64 a.label,.int .i64 a.to],.agg [.int .i64 b.fr,.bool b.send,.int .i64 b.label,.int .i64 b.to]]=some [.bool (Edge.lt a b)]:=by
 refine aw a44 rfl rfl ?_;simp only[F44,Ui];simp(disch:=omega)only[go_sem];unfold Edge.lt;by_cases h:a.fr=b.fr<;>by_cases h2:a.send=b.send<;>simp(disch:=omega)only[go_sem,h,h2,ne_eq,not_true_eq_false,not_false_eq_true]
theorem aP.E8 {a:aP}(h1:a.aj<=12)(h2:a.af.length<=100)(h3:0<=a.start/\a.start<a.aj):a.err=if sF a.aj none a.af=true then 0 else 1:=by
 unfold aP.err;rw[if_neg (by omega),if_pos h3]
theorem aP.l8 {a:aP}(h1:a.aj<=12)(h2:a.af.length<=100)(h3:¬(0<=a.start/\a.start<a.aj)):a.err=1:=by
 unfold aP.err;rw[if_neg (by omega),if_neg h3]
theorem aP.l9 {a:aP}(h:12<a.aj\/100<a.af.length):a.err=3:=by
 unfold aP.err;rw[if_pos h]
theorem E9 {n:Int}{p:Option Edge}{e:Edge}{r:List Edge}(h:e.fits n=false):sF n p (e::r)=false:=by simp[sF,h]
set_option maxHeartbeats 1000000 in
@[go_sem] theorem r26 (t:Nat)(a:aP)(hl:a.af.length<=2^63 - 1):res A aA 26 [.agg [.int .i64 a.aj,.int .i64 a.start,.aq t (a.af.map Edge.c)]]=some [.int .i64 a.err]:=by
 refine aw a26 rfl rfl ?_;simp only[F26,Ua];simp(disch:=omega)only[go_sem];refine Br.aJ (λh1=>?_) (λh1=>?_)<;>simp(disch:=omega)only[go_sem,h1]
 .rw[aP.l9 (.inl h1)]
 refine Br.aJ (λh2=>?_) (λh2=>?_)<;>simp(disch:=omega)only[go_sem,h2]
 .rw[aP.l9 (.inr (by omega))]
 refine Br.aJ (λh3=>?_) (λh3=>?_)<;>simp(disch:=omega)only[go_sem,h3]
 .rw[aP.l8 (by omega) (by omega) (by omega)]
 refine Br.aJ (λh4=>?_) (λh4=>?_)<;>simp(disch:=omega)only[go_sem,h4]
 .rw[aP.l8 (by omega) (by omega) (by omega)]
 refine Br.aJ (λh5=>?_) (λh5=>?_)<;>simp(disch:=omega)only[go_sem,h5]
 .rw[aP.l8 (by omega) (by omega) (by omega)]
 rw[aP.E8 (by omega) (by omega) (by omega)];refine W.fv a.af.length (λk=>⟨[(1,.ptr 1 0),(3,.pv (.int .i64 k))],⟨[(1,[.pv (.int .i64 a.aj),.pv (.int .i64 a.start),.pv (.aq t (a.af.map Edge.c))])],[],[]⟩⟩) (λk=>sF a.aj none a.af=sF a.aj (pI a.af k) (a.af.drop k)) rfl rfl λk hk hi=>?_;simp(disch:=omega)only[go_sem];refine Br.aJ (λh=>?_) (λh=>?_)
 .obtain⟨e,he⟩:=get_at (l:=a.af) (k:=k) (by omega);rw[fL he]at hi;have bad:e.fits a.aj=false->sF a.aj none a.af=false:=λhb=>hi.trans (E9 hb);simp(disch:=omega)only[go_sem,he];refine Br.aJ (λg1=>?_) (λg1=>?_)<;>simp(disch:=omega)only[go_sem,g1]
  .rw[bad (by simp[Edge.fits];omega)];rfl
  refine Br.aJ (λg2=>?_) (λg2=>?_)<;>simp(disch:=omega)only[go_sem,g2]
  .rw[bad (by simp[Edge.fits];omega)];rfl
  refine Br.aJ (λg3=>?_) (λg3=>?_)<;>simp(disch:=omega)only[go_sem,g3]
  .rw[bad (by simp[Edge.fits];omega)];rfl
  refine Br.aJ (λg4=>?_) (λg4=>?_)<;>simp(disch:=omega)only[go_sem,g4]
  .rw[bad (by simp[Edge.fits];omega)];rfl
  refine Br.aJ (λg5=>?_) (λg5=>?_)<;>simp(disch:=omega)only[go_sem,g5]
  .rw[bad (by simp[Edge.fits];omega)];rfl
  refine Br.aJ (λg6=>?_) (λg6=>?_)<;>simp(disch:=omega)only[go_sem,g6]
  .rw[bad (by simp[Edge.fits];omega)];rfl
  have fit:e.fits a.aj=true:=by simp[Edge.fits];omega
  refine Br.aJ (λg7=>?_) (λg7=>?_)<;>simp(disch:=omega)only[go_sem,g7]
  .obtain⟨j,rfl⟩:∃j,k=j+1:=⟨k - 1,by omega⟩;obtain⟨d,hd⟩:=get_at (l:=a.af) (k:=j) (by omega);have hj:((j+1:Nat):Int) - 1=(j:Int):=by omega
   rw[fp,hd]at hi;simp(disch:=omega)only[go_sem,hj,hd];refine Br.of (λg8=>?_) (λg8=>?_)<;>simp(disch:=omega)only[go_sem]
   .exact .of (by omega) rfl (by rw[hi,fp,he];simp[sF,fit,g8])
   .rw[hi];simp[sF,g8]
  .obtain rfl:k=0:=by omega
   exact .of (by omega) rfl (by rw[hi,fp,he];simp[sF,fit,pI])
 .simp(disch:=omega)only[go_sem];rw[hi,jK h];rfl
@[go_sem] theorem r47a (a b:Edge):res A aA 47 [.agg [.int .i64 a.fr,.bool a.send,.int .i64 a.label,.int .i64 a.to],.agg [.int .i64 b.fr,.bool b.send,.int .i64 b.label,.int .i64 b.to]]=some [.int .i64 (Edge.cmp a b)]:=
 r47 (by kernel_rfl) (by kernel_rfl) (by kernel_rfl) (by kernel_rfl) a b
@[go_sem] theorem r46 (n s:Int)(t:Nat)(cs:List PV):res A aA 46 [.int .i64 n,.ro t (.int .i64 s::cs)]=some [.bool (decide (0<=n)&&decide (n<s))]:=by
 refine aw a46 rfl rfl ?_;simp only[F46,Uk];simp(disch:=omega)only[go_sem];refine Br.aJ (λh1=>?_) (λh1=>?_)<;>simp(disch:=omega)only[go_sem,h1]
theorem BR {e:Edge}{n:Int}:e.fits n=(((decide (0<=e.fr)&&decide (e.fr<n))&&(decide (0<=e.to)&&decide (e.to<n)))&&(decide (1<=e.label)&&decide (e.label<=1000))):=by
 simp[Edge.fits,Bool.and_assoc]
set_option maxHeartbeats 2000000 in
@[go_sem] theorem r29 (t:Nat)(a:aP)(hl:a.af.length<=2^63 - 1):res A aA 29 [.agg [.int .i64 a.aj,.int .i64 a.start,.aq t (a.af.map Edge.c)]]=some [.int .i64 a.err]:=by
 refine aw a29 rfl rfl ?_;simp only[F29,Ub];simp(disch:=omega)only[go_sem];refine Br.aJ (λh1=>?_) (λh1=>?_)<;>simp(disch:=omega)only[go_sem,h1]
 .rw[aP.l9 (.inl h1)]
 refine Br.aJ (λh2=>?_) (λh2=>?_)<;>simp(disch:=omega)only[go_sem,h2]
 .rw[aP.l9 (.inr (by omega))]
 refine Br.of (λh3=>?_) (λh3=>?_)<;>simp at h3<;>simp(disch:=omega)only[go_sem]
 case refine_2=>rw[aP.l8 (by omega) (by omega) (by omega)]
 rw[aP.E8 (by omega) (by omega) (by omega)];refine W.fv a.af.length (λk=>⟨[(1,.ptr 1 0),(3,.func 46 [.ptr 1 0]),(22,.pv (.aq t (a.af.map Edge.c))),(23,.pv (.int .i64 a.af.length)),(24,.pv (.int .i64 k))],⟨[(1,[.pv (.int .i64 a.aj),.pv (.int .i64 a.start),.pv (.aq t (a.af.map Edge.c))])],[],[]⟩⟩) (λk=>sF a.aj none a.af=sF a.aj (pI a.af k) (a.af.drop k)) rfl rfl λk hk hi=>?_;simp(disch:=omega)only[go_sem];refine Br.aJ (λh=>?_) (λh=>?_)
 .obtain⟨e,he⟩:=get_at (l:=a.af) (k:=k) (by omega);rw[fL he]at hi;have bad:e.fits a.aj=false->sF a.aj none a.af=false:=λhb=>hi.trans (E9 hb);rw[BR]at bad;simp(disch:=omega)only[go_sem,he];refine Br.of (λg1=>?_) (λg1=>?_)<;>simp(disch:=omega)only[go_sem,g1]
  case refine_2=>rw[bad (by rw[g1];rfl)];rfl
  refine Br.of (λg2=>?_) (λg2=>?_)<;>simp(disch:=omega)only[go_sem,g2]
  case refine_2=>rw[bad (by rw[g1,g2];rfl)];rfl
  refine Br.aJ (λg3=>?_) (λg3=>?_)<;>simp(disch:=omega)only[go_sem,g3]
  .rw[bad (by simp;omega)];rfl
  refine Br.aJ (λg4=>?_) (λg4=>?_)<;>simp(disch:=omega)only[go_sem,g4]
  .rw[bad (by simp;omega)];rfl
  have fit:e.fits a.aj=true:=by rw[BR,g1,g2];simp;omega
  refine Br.aJ (λg7=>?_) (λg7=>?_)<;>simp(disch:=omega)only[go_sem,g7]
  .obtain⟨j,rfl⟩:∃j,k=j+1:=⟨k - 1,by omega⟩;obtain⟨d,hd⟩:=get_at (l:=a.af) (k:=j) (by omega);have hj:((j+1:Nat):Int) - 1=(j:Int):=by omega
   rw[fp,hd]at hi;simp(disch:=omega)only[go_sem,hj,hd,Edge.Kv];refine Br.of (λg8=>?_) (λg8=>?_)<;>simp(disch:=omega)only[go_sem]
   .exact .of (by omega) rfl (by rw[hi,fp,he];simp[sF,fit,g8])
   .rw[hi];simp[sF,g8]
  .obtain rfl:k=0:=by omega
   exact .of (by omega) rfl (by rw[hi,fp,he];simp[sF,fit,pI])
 .simp(disch:=omega)only[go_sem];rw[hi,jK h];rfl
def cO (s:Int)(d:Bool)(x:Int):List Edge->Option Int
 |[]=>none
 |e::r=>if e.fr=s/\e.send=d/\e.label=x then some e.to else cO s d x r
@[go_sem] theorem r45 (t:Nat)(a:aP)(s:Int)(d:Bool)(x:Int)(hl:a.af.length<=2^63 - 1):
  res A aA 45 [.agg [.int .i64 a.aj,.int .i64 a.start,.aq t (a.af.map Edge.c)],.int .i64 s,.bool d,.int .i64 x]=some [.int .i64 ((cO s d x a.af).getD 0),.bool (cO s d x a.af).isSome]:=by
 refine aw a45 rfl rfl ?_;simp only[F45,Uj];simp(disch:=omega)only[go_sem];refine W.fv a.af.length (λk=>⟨[(1,.pv (.int .i64 s)),(2,.pv (.bool d)),(3,.pv (.int .i64 x)),(13,.pv (.aq t (a.af.map Edge.c))),(14,.pv (.int .i64 a.af.length)),(15,.pv (.int .i64 k))],⟨[],[],[]⟩⟩) (λk=>cO s d x a.af=cO s d x (a.af.drop k)) rfl rfl λk hk hi=>?_;simp(disch:=omega)only[go_sem];refine Br.aJ (λh=>?_) (λh=>?_)
 .obtain⟨e,he⟩:=get_at (l:=a.af) (k:=k) (by omega);rw[fL he]at hi;have no:¬(e.fr=s/\e.send=d/\e.label=x)->cO s d x a.af=cO s d x (a.af.drop (k+1)):=λhn=>hi.trans (by simp only[cO,if_neg hn]);have yes:(e.fr=s/\e.send=d/\e.label=x)->cO s d x a.af=some e.to:=λhn=>hi.trans (by simp only[cO,if_pos hn]);simp(disch:=omega)only[go_sem,he];refine Br.aJ (λg1=>?_) (λg1=>?_)<;>simp(disch:=omega)only[go_sem,g1]
  .refine Br.aJ (λg2=>?_) (λg2=>?_)<;>simp(disch:=omega)only[go_sem,g2]
   .refine Br.aJ (λg3=>?_) (λg3=>?_)<;>simp(disch:=omega)only[go_sem,g3]
    .rw[yes ⟨g1,g2,g3⟩];rfl
    .exact .of (by omega) rfl (no (λhn=>g3 hn.2.2))
   .exact .of (by omega) rfl (no (λhn=>g2 hn.2.1))
  .exact .of (by omega) rfl (no (λhn=>g1 hn.1))
 .simp(disch:=omega)only[go_sem];rw[hi,jK h];rfl
@[go_sem] theorem r39 (t:Nat)(a:aP)(s:Int)(d:Bool)(x:Int)(hl:a.af.length<=2^63 - 1):
  res A aA 39 [.agg [.int .i64 a.aj,.int .i64 a.start,.aq t (a.af.map Edge.c)],.int .i64 s,.bool d,.int .i64 x]=some [.int .i64 ((cO s d x a.af).getD 0),.bool (cO s d x a.af).isSome]:=by
 refine aw a39 rfl rfl ?_;simp only[F39,Ug];simp(disch:=omega)only[go_sem];refine W.fv a.af.length (λk=>⟨[(1,.pv (.int .i64 s)),(2,.pv (.bool d)),(3,.pv (.int .i64 x)),(4,.ptr 4 0),(10,.pv (.int .i64 k))],⟨[(4,[.pv (.int .i64 a.aj),.pv (.int .i64 a.start),.pv (.aq t (a.af.map Edge.c))])],[],[]⟩⟩) (λk=>cO s d x a.af=cO s d x (a.af.drop k)) rfl rfl λk hk hi=>?_;simp(disch:=omega)only[go_sem];refine Br.aJ (λh=>?_) (λh=>?_)
 .obtain⟨e,he⟩:=get_at (l:=a.af) (k:=k) (by omega);rw[fL he]at hi;have no:¬(e.fr=s/\e.send=d/\e.label=x)->cO s d x a.af=cO s d x (a.af.drop (k+1)):=λhn=>hi.trans (by simp only[cO,if_neg hn]);have yes:(e.fr=s/\e.send=d/\e.label=x)->cO s d x a.af=some e.to:=λhn=>hi.trans (by simp only[cO,if_pos hn]);simp(disch:=omega)only[go_sem,he];refine Br.aJ (λg1=>?_) (λg1=>?_)<;>simp(disch:=omega)only[go_sem,g1]
  .refine Br.aJ (λg2=>?_) (λg2=>?_)<;>simp(disch:=omega)only[go_sem,g2]
   .refine Br.aJ (λg3=>?_) (λg3=>?_)<;>simp(disch:=omega)only[go_sem,g3]
    .rw[yes ⟨g1,g2,g3⟩];rfl
    .exact .of (by omega) rfl (no (λhn=>g3 hn.2.2))
   .exact .of (by omega) rfl (no (λhn=>g2 hn.2.1))
  .exact .of (by omega) rfl (no (λhn=>g1 hn.1))
 .simp(disch:=omega)only[go_sem];rw[hi,jK h];rfl
def Fa (s:Int):List Edge->Bool
 |[]=>true
 |e::r=>if e.fr=s then false else Fa s r
def AA (es:List Edge):Nat->List Int
 |0=>[]
 |k+1=>if Fa k es then AA es k++[(k:Int)] else AA es k
def aP.ends (a:aP):List Int:=if a.aj<=12 then AA a.af a.aj.toNat else []
def abH (x:Int):Nat->List Int->Int
 |_,[]=> -1
 |k,y::r=>if y=x then k else abH x (k+1) r
def jM (x:Int)(l:List Int):Int:=abH x 0 l
@[go_sem] theorem r53 (t:Nat)(l:List Int)(x:Int)(hl:l.length<=2^63 - 1):res A aA 53 [.aq t (ints l),.int .i64 x]=some [.int .i64 (jM x l)]:=by
 refine aw a53 rfl rfl ?_;simp only[F53,Uo];simp(disch:=omega)only[go_sem];refine W.fv l.length (λk=>⟨[(0,.pv (.aq t (ints l))),(1,.pv (.int .i64 x)),(5,.pv (.int .i64 k))],⟨[],[],[]⟩⟩) (λk=>jM x l=abH x k (l.drop k)) rfl rfl λk hk hi=>?_;simp(disch:=omega)only[go_sem];refine Br.aJ (λh=>?_) (λh=>?_)
 .obtain⟨y,hy⟩:=get_at (l:=l) (k:=k) (by omega);rw[fL hy]at hi;simp(disch:=omega)only[go_sem,hy];refine Br.aJ (λg1=>?_) (λg1=>?_)<;>simp(disch:=omega)only[go_sem,g1]
  .rw[hi];simp only[abH,if_pos g1]
  .exact .of (by omega) rfl (hi.trans (by simp only[abH,if_neg g1]))
 .simp(disch:=omega)only[go_sem];rw[hi,jK h];rfl
@[go_sem] theorem Ms (a b c d:Nat):distinct (dT [.own a b c d])=true:=rfl
inductive AB where
 |e
 |a (x:Int) (l:List Int)
 |b (x:Int) (l:List Int)
 |ab (x:Int) (l:List Int) (y:Int) (r:List Int)
 |ba (x:Int) (l:List Int) (y:Int) (r:List Int)
def ow (i:Nat)(l:List Int):V:=.own i l.length 0 (l.length+1)
def ao (x:Int)(l:List Int):aL:=⟨l.length,1,.inl (ints (x::l))⟩
def AB.v0:AB->V
 |.e|.b _ _=>.tl []
 |.a _ l|.ab _ l _ _=>ow 0 l
 |.ba _ l _ _=>ow 1 l
def AB.v1:AB->V
 |.e|.a _ _=>.tl []
 |.b _ l|.ba _ _ _ l=>ow 0 l
 |.ab _ _ _ r=>ow 1 r
def AB.ar:AB->List aL
 |.e=>[]
 |.a x l|.b x l=>[ao x l]
 |.ab x l y r=>[ao x l,ao y r]
 |.ba x l y r=>[ao y r,ao x l]
def AB.l0:AB->List Int
 |.e|.b _ _=>[]
 |.a x l|.ab x l _ _|.ba x l _ _=>x::l
def AB.l1:AB->List Int
 |.e|.a _ _=>[]
 |.b x l|.ab _ _ x l|.ba _ _ x l=>x::l
def AB.put (s:Bool)(z:Int):AB->AB
 |.e=>if s then .b z [] else .a z []
 |.a x l=>if s then .ab x l z [] else .a x (l++[z])
 |.b x l=>if s then .b x (l++[z]) else .ba z [] x l
 |.ab x l y r=>if s then .ab x l y (r++[z]) else .ab x (l++[z]) y r
 |.ba x l y r=>if s then .ba x l y (r++[z]) else .ba x (l++[z]) y r
def AB.len (t:AB):Nat:=t.l0.length+t.l1.length
@[go_sem] theorem Pc (h:aa):gL [.tl []] h=some (.dy [],{}):=rfl
def BS (id ax len:Nat)(a:aL):Option (List PV×Option (Nat×aL)):=
 if a.size=len/\a.k≠0 then (match a.body with
   |.inl rows=>some ([.fr a.k rows],some (id,⟨ax+1,0,.inl []⟩))
   |.inr _=>none) else none
theorem sT {x:Int}:∀{l:List Int}{k:Nat},abH x k l<0↔x∉l
 |[],k=>by simp[abH]
 |y::r,k=>by
  unfold abH;split
  .rename_i h;subst h;simp
  .rename_i h;rw[sT];simp only[List.mem_cons,not_or];exact⟨λh2=>⟨λe=>h e.symm,h2⟩,λh2=>h2.2⟩
theorem oD {x:Int}{l:List Int}:jM x l<0↔x∉l:=sT
theorem rp {x:Int}{l:List Int}:0<=jM x l↔x∈l:=by
 rw[<- Int.not_lt,oD];simp
def BT (l:List gX):List Int:=l.flatMap λc=>[c.ud,c.rep]
def UP (l:List gI):List Int:=l.map (·.ty)
def HB (l:List eE):List Int:=l.flatMap λw=>UP w.msgs
def HC (l:List hC):List Int:=l.map (·.ty)
@[go_sem] theorem Pd (g:bJ->V)(h:aa)(k t:Nat)(rows:List (List PV))(hi:bJ):
  di g h k (.pv (.aq t rows)) none (some hi) none=if aO k (.inl rows)=true then (intOf (g hi)).bind λi=>Ah i rows.length (.pv (.aq t (rows.take i.toNat)),{}) else none:=by
 cases hf:aO k (.inl rows)with
 |false=>simp[di,hf]
 |true=>
  cases hj:intOf (g hi)with
  |none=>simp[di,hf,bounds,bound,hj]
  |some i=>by_cases h0:0<=i/\i<=rows.length<;>simp[di,hf,bounds,bound,hj,h0,Ah]
def lB (t u x y:Nat)(v:ij):List PV:=[.str v.name,.aq t (v.types.map aH.c),.aq u (ch v.calls),.aq x (aG v.aG),.aq y (df v.aT)]
theorem r447 (t:Nat)(w:gX)(nm:ByteArray):res A aA 447 [.agg w.c,.ro t [.str nm]]=some [.bool (decide (w.name=nm))]:=by
 refine aw a447 rfl rfl ?_;simp only[F447,Ll];simp(disch:=omega)only[go_sem]
theorem r446 (t u:Nat)(l:List gX)(nm:ByteArray)(hl:l.length<=2^63 - 1):res A aA 446 [.aq t (ch l),.func 447 [.ro u [.str nm]]]=some [.int .i64 (qO (λw=>decide (w.name=nm)) l)]:=by
 refine aw a446 rfl rfl ?_;simp only[F446,Lk];simp(disch:=omega)only[go_sem];refine W.fv l.length (λk=>⟨[(0,.pv (.aq t (ch l))),(1,.pv (.func 447 [.ro u [.str nm]])),(7,.pv (.int .i64 l.length)),(8,.pv (.int .i64 k))],⟨[],[],[]⟩⟩) (λk=>∀(i:Nat)(w:gX),i<k->l[i]?=some w->decide (w.name=nm)=false) rfl (λi w hi=>absurd hi (by omega)) λk hk hi=>?_;simp(disch:=omega)only[go_sem];refine Br.aJ (λc1=>?_) (λc1=>?_)
 .obtain⟨w,hw⟩:=get_some (l:=l) (k:=k) (by omega);have h447:=λt=>r447 t w nm;simp only[gX.c]at h447;cases hd:decide (w.name=nm)with
  |true=>
   rw[hd]at h447;simp(disch:=omega)only[go_sem,hw,Option.map_some,h447];unfold qO;rw[wv hw hd hi]
  |false=>
   rw[hd]at h447;simp(disch:=omega)only[go_sem,hw,Option.map_some,h447];exact .of (by omega) rfl (sH hw hi hd)
 .simp(disch:=omega)only[go_sem];unfold qO;rw[wx (pJ (k:=k) (by omega) hi)]
def Mt (o:Option gX):List PV:=match o with
 |some w=>[.agg w.c,.bool true]
 |none=>[.agg [.str ⟨#[]⟩,.int .i64 0,.int .i64 0],.bool false]
theorem r410 (t u x y:Nat)(v:ij)(nm:ByteArray)(hl:v.calls.length<=2^63 - 1):res A aA 410 [.agg (lB t u x y v),.str nm]=some (Mt (jf (λw=>decide (w.name=nm)) v.calls)):=by
 refine aw a410 rfl rfl ?_;simp only[F410,K9,lB];have h446:=λt u=>r446 t u v.calls nm hl;unfold qO at h446;unfold jf;cases hj:v.calls.findIdx? λw=>decide (w.name=nm)with
 |none=>
  rw[hj]at h446;have e0:decide ((0:Int)<= -1)=false:=rfl;simp(disch:=omega)only[go_sem,h446];rfl
 |some j=>
  rw[hj]at h446;have hjl:=(Ww.1 hj).1;obtain⟨w,hw⟩:=get_some hjl;have e0:decide ((0:Int)<=(j:Int))=true:=decide_eq_true (by omega);simp(disch:=omega)only[go_sem,h446,e0,hw,Option.map_some,Option.bind_some];rfl
theorem r411 (t u x y:Nat)(v:ij)(nm:ByteArray)(hl:v.calls.length<=2^63 - 1):res A aA 411 [.agg (lB t u x y v),.str nm]=some (Mt (jf (λw=>decide (w.name=nm)) v.calls)):=by
 refine aw a411 rfl rfl ?_;simp only[F411,aay,lB];simp(disch:=omega)only[go_sem];refine W.fv v.calls.length (λk=>⟨[(1,.pv (.str nm)),(2,.ptr 2 0),(4,.ptr 4 0),(6,.pv (.int .i64 k))],⟨[(2,[.pv (.str v.name),.pv (.aq t (v.types.map aH.c)),.pv (.aq u (ch v.calls)),.pv (.aq x (aG v.aG)),.pv (.aq y (df v.aT))]),(4,[.pv (.str ⟨#[]⟩),.pv (.int .i64 0),.pv (.int .i64 0)])],[],[]⟩⟩) (λk=>∀(i:Nat)(w:gX),i<k->v.calls[i]?=some w->decide (w.name=nm)=false) rfl (λi w hi=>absurd hi (by omega)) λk hk hi=>?_;simp(disch:=omega)only[go_sem];refine Br.aJ (λc1=>?_) (λc1=>?_)
 .obtain⟨w,hw⟩:=get_some (l:=v.calls) (k:=k) (by omega);cases hd:decide (w.name=nm)with
  |true=>
   simp(disch:=omega)only[go_sem,hw,Option.map_some,hd];unfold jf;rw[wv hw hd hi,abw,hw];rfl
  |false=>
   simp(disch:=omega)only[go_sem,hw,Option.map_some,hd];exact .of (by omega) rfl (sH hw hi hd)
 .simp(disch:=omega)only[go_sem];unfold jf;rw[wx (pJ (k:=k) (by omega) hi)];rfl
theorem r449 (t:Nat)(w:eE)(nm:ByteArray):res A aA 449 [.agg w.c,.ro t [.str nm]]=some [.bool (decide (w.name=nm))]:=by
 refine aw a449 rfl rfl ?_;simp only[F449,Lm];simp(disch:=omega)only[go_sem]
theorem r448 (t u:Nat)(l:List eE)(nm:ByteArray)(hl:l.length<=2^63 - 1):res A aA 448 [.aq t (aG l),.func 449 [.ro u [.str nm]]]=some [.int .i64 (qO (λw=>decide (w.name=nm)) l)]:=by
 refine aw a448 rfl rfl ?_;simp only[F448,Hp];simp(disch:=omega)only[go_sem];refine W.fv l.length (λk=>⟨[(0,.pv (.aq t (aG l))),(1,.pv (.func 449 [.ro u [.str nm]])),(7,.pv (.int .i64 l.length)),(8,.pv (.int .i64 k))],⟨[],[],[]⟩⟩) (λk=>∀(i:Nat)(w:eE),i<k->l[i]?=some w->decide (w.name=nm)=false) rfl (λi w hi=>absurd hi (by omega)) λk hk hi=>?_;simp(disch:=omega)only[go_sem];refine Br.aJ (λc1=>?_) (λc1=>?_)
 .obtain⟨w,hw⟩:=get_some (l:=l) (k:=k) (by omega);have h449:=λt=>r449 t w nm;simp only[eE.c]at h449;cases hd:decide (w.name=nm)with
  |true=>
   rw[hd]at h449;simp(disch:=omega)only[go_sem,hw,Option.map_some,h449];unfold qO;rw[wv hw hd hi]
  |false=>
   rw[hd]at h449;simp(disch:=omega)only[go_sem,hw,Option.map_some,h449];exact .of (by omega) rfl (sH hw hi hd)
 .simp(disch:=omega)only[go_sem];unfold qO;rw[wx (pJ (k:=k) (by omega) hi)]
def AD (o:Option eE):List PV:=match o with
 |some w=>[.agg w.c,.bool true]
 |none=>[.agg [.str ⟨#[]⟩,.aq 0 [],.int .i64 0,.int .i64 0,.aq 0 []],.bool false]
def Mu (k:Nat)(rows:List (List PV)):PV:=if rows=[] then .aq 0 [] else .fr k rows
theorem Fb {α:Type}{c:α->List PV}{k:Nat}(hc:∀x,(c x).length=k)(l:List α)(hm:l.length<=2147483648):(l=[]/\∀h,aZ k [.pv (.aq 0 (l.map c))] h=some (.tl [],{}))\/(l≠[]/\∀h,aZ k [.pv (.aq 0 (l.map c))] h=some (.own h.ar.length 0 0 l.length,{push:=[⟨0,k,.inl (l.map c)⟩],base:=h.ar.length})):=by
 have hf:aO k (.inl (l.map c))=true:=by simp[aO,hc]
 cases l with
 |nil=>exact .inl ⟨rfl,λh=>by simp[aZ,aW,aO]⟩
 |cons x l=>
  refine .inr ⟨by simp,λh=>?_⟩;have hl:((x::l).map c).length=(x::l).length:=Wg _;have h0:¬((x::l).map c).length=0:=by simp
  unfold aZ;simp only[aW];rw[if_pos (by omega:0<=1)];dsimp only;rw[if_pos ⟨hf,by unfold aN;rw[hl];omega⟩,if_neg h0,hl]
theorem r445 (x:eE)(h1:x.msgs.length<=2147483648)(h2:x.auto.af.length<=2147483648):res A aA 445 [.agg x.c]=some [.agg [.str x.name,Mu 3 (msgs x.msgs),.int .i64 x.auto.aj,.int .i64 x.auto.start,Mu 4 (x.auto.af.map Edge.c)]]:=by
 refine aw a445 rfl rfl ?_;simp only[F445,Lj,eE.c];have k1:(x.msgs.map gI.c).take x.msgs.length=x.msgs.map gI.c:=List.take_of_length_le (by simp);have k2:(x.auto.af.map Edge.c).take x.auto.af.length=x.auto.af.map Edge.c:=List.take_of_length_le (by simp);rcases Fb (c:=gI.c) (k:=3) (λ_=>rfl) x.msgs h1 with⟨h3,h4⟩|⟨h3,h4⟩<;>rcases Fb (c:=Edge.c) (k:=4) (λ_=>rfl) x.auto.af h2 with⟨h5,h6⟩|⟨h5,h6⟩
 .simp only[h3,h5,List.map_nil]at h4 h6 |-;simp(disch:=omega)only[go_sem,h4,h6];refine Eq.trans (if_pos (by rfl)) ?_;simp[keep,ay,eM,aY,PV.perm,Mu,msgs,h3,h5]
 .simp only[h3,List.map_nil]at h4 |-;simp(disch:=omega)only[go_sem,h4,h6];refine Eq.trans (if_pos (by rfl)) ?_;simp[keep,ay,eM,aB,aY,PV.perm,Mu,msgs,h3,h5,k2]
 .simp only[h5,List.map_nil]at h6 |-;simp(disch:=omega)only[go_sem,h4,h6];refine Eq.trans (if_pos (by rfl)) ?_;simp[keep,ay,eM,aB,aY,PV.perm,Mu,msgs,h3,h5,k1]
 .simp(disch:=omega)only[go_sem,h4,h6];refine Eq.trans (if_pos (by rfl)) ?_;simp[keep,ay,eM,aB,aY,PV.perm,Mu,msgs,h3,h5,k1,k2]
theorem r412 (t u x y:Nat)(v:ij)(nm:ByteArray)(hl:v.aG.length<=2^63 - 1)(hs:∀w∈v.aG,w.msgs.length<=2147483648/\w.auto.af.length<=2147483648):res A aA 412 [.agg (lB t u x y v),.str nm]=some (AD (jf (λw=>decide (w.name=nm)) v.aG)):=by
 refine aw a412 rfl rfl ?_;simp only[F412,La,lB];have h448:=λt u=>r448 t u v.aG nm hl;unfold qO at h448;unfold jf;cases hj:v.aG.findIdx? λw=>decide (w.name=nm)with
 |none=>
  rw[hj]at h448;have e0:decide ((0:Int)<= -1)=false:=rfl;simp(disch:=omega)only[go_sem,h448];rfl
 |some j=>
  rw[hj]at h448;have hjl:=(Ww.1 hj).1;obtain⟨w,hw⟩:=get_some hjl;have e0:decide ((0:Int)<=(j:Int))=true:=decide_eq_true (by omega);have hsw:=hs w (Wa hw);have h445:=r445 w hsw.1 hsw.2;have k1:(w.msgs.map gI.c).take w.msgs.length=w.msgs.map gI.c:=List.take_of_length_le (by simp);have k2:(w.auto.af.map Edge.c).take w.auto.af.length=w.auto.af.map Edge.c:=List.take_of_length_le (by simp);unfold Mu msgs eE.c at h445;by_cases h3:w.msgs=[]<;>by_cases h5:w.auto.af=[]
  .simp only[h3,h5,List.map_nil,if_true]at h445;simp(disch:=omega)only[go_sem,h448,e0,hw,Option.map_some,Option.bind_some,h3,h5,List.map_nil,h445];simp[AD,eE.c,h3,h5]
  .simp only[h3,h5,List.map_nil,if_true,List.map_eq_nil_iff,if_false]at h445;simp(disch:=omega)only[go_sem,h448,e0,hw,Option.map_some,Option.bind_some,h3,List.map_nil,h445];simp[AD,eE.c,k2,h3]
  .simp only[h3,h5,List.map_nil,if_true,List.map_eq_nil_iff,if_false]at h445;simp(disch:=omega)only[go_sem,h448,e0,hw,Option.map_some,Option.bind_some,h5,List.map_nil,h445];simp[AD,eE.c,k1,h5]
  .simp only[h3,h5,List.map_eq_nil_iff,if_false]at h445;simp(disch:=omega)only[go_sem,h448,e0,hw,Option.map_some,Option.bind_some,h445];simp[AD,eE.c,k1,k2]
theorem r413 (t u x y:Nat)(v:ij)(nm:ByteArray)(hl:v.aG.length<=2^63 - 1):res A aA 413 [.agg (lB t u x y v),.str nm]=some (AD (jf (λw=>decide (w.name=nm)) v.aG)):=by
 refine aw a413 rfl rfl ?_;simp only[F413,aaz,lB];simp(disch:=omega)only[go_sem];refine W.fv v.aG.length (λk=>⟨[(1,.pv (.str nm)),(2,.ptr 2 0),(4,.ptr 4 0),(6,.pv (.int .i64 k))],⟨[(2,[.pv (.str v.name),.pv (.aq t (v.types.map aH.c)),.pv (.aq u (ch v.calls)),.pv (.aq x (aG v.aG)),.pv (.aq y (df v.aT))]),(4,[.pv (.str ⟨#[]⟩),.tl [],.pv (.int .i64 0),.pv (.int .i64 0),.tl []])],[],[]⟩⟩) (λk=>∀(i:Nat)(w:eE),i<k->v.aG[i]?=some w->decide (w.name=nm)=false) rfl (λi w hi=>absurd hi (by omega)) λk hk hi=>?_;simp(disch:=omega)only[go_sem];refine Br.aJ (λc1=>?_) (λc1=>?_)
 .obtain⟨w,hw⟩:=get_some (l:=v.aG) (k:=k) (by omega);cases hd:decide (w.name=nm)with
  |true=>
   simp(disch:=omega)only[go_sem,hw,Option.map_some,hd];unfold jf;rw[wv hw hd hi,abw,hw];rfl
  |false=>
   simp(disch:=omega)only[go_sem,hw,Option.map_some,hd];exact .of (by omega) rfl (sH hw hi hd)
 .simp(disch:=omega)only[go_sem];unfold jf;rw[wx (pJ (k:=k) (by omega) hi)];rfl
theorem r451 (t:Nat)(w:hC)(nm:ByteArray):res A aA 451 [.agg w.c,.ro t [.str nm]]=some [.bool (decide (w.name=nm))]:=by
 refine aw a451 rfl rfl ?_;simp only[F451,Lo];simp(disch:=omega)only[go_sem]
theorem r450 (t u:Nat)(l:List hC)(nm:ByteArray)(hl:l.length<=2^63 - 1):res A aA 450 [.aq t (df l),.func 451 [.ro u [.str nm]]]=some [.int .i64 (qO (λw=>decide (w.name=nm)) l)]:=by
 refine aw a450 rfl rfl ?_;simp only[F450,Ln];simp(disch:=omega)only[go_sem];refine W.fv l.length (λk=>⟨[(0,.pv (.aq t (df l))),(1,.pv (.func 451 [.ro u [.str nm]])),(7,.pv (.int .i64 l.length)),(8,.pv (.int .i64 k))],⟨[],[],[]⟩⟩) (λk=>∀(i:Nat)(w:hC),i<k->l[i]?=some w->decide (w.name=nm)=false) rfl (λi w hi=>absurd hi (by omega)) λk hk hi=>?_;simp(disch:=omega)only[go_sem];refine Br.aJ (λc1=>?_) (λc1=>?_)
 .obtain⟨w,hw⟩:=get_some (l:=l) (k:=k) (by omega);have h451:=λt=>r451 t w nm;simp only[hC.c]at h451;cases hd:decide (w.name=nm)with
  |true=>
   rw[hd]at h451;simp(disch:=omega)only[go_sem,hw,Option.map_some,h451];unfold qO;rw[wv hw hd hi]
  |false=>
   rw[hd]at h451;simp(disch:=omega)only[go_sem,hw,Option.map_some,h451];exact .of (by omega) rfl (sH hw hi hd)
 .simp(disch:=omega)only[go_sem];unfold qO;rw[wx (pJ (k:=k) (by omega) hi)]
def Mw (o:Option hC):List PV:=match o with
 |some w=>[.agg w.c,.bool true]
 |none=>[.agg [.str ⟨#[]⟩,.int .i64 0],.bool false]
theorem r414 (t u x y:Nat)(v:ij)(nm:ByteArray)(hl:v.aT.length<=2^63 - 1):res A aA 414 [.agg (lB t u x y v),.str nm]=some (Mw (jf (λw=>decide (w.name=nm)) v.aT)):=by
 refine aw a414 rfl rfl ?_;simp only[F414,Lb,lB];have h450:=λt u=>r450 t u v.aT nm hl;unfold qO at h450;unfold jf;cases hj:v.aT.findIdx? λw=>decide (w.name=nm)with
 |none=>
  rw[hj]at h450;have e0:decide ((0:Int)<= -1)=false:=rfl;simp(disch:=omega)only[go_sem,h450];rfl
 |some j=>
  rw[hj]at h450;have hjl:=(Ww.1 hj).1;obtain⟨w,hw⟩:=get_some hjl;have e0:decide ((0:Int)<=(j:Int))=true:=decide_eq_true (by omega);simp(disch:=omega)only[go_sem,h450,e0,hw,Option.map_some,Option.bind_some];rfl
theorem r415 (t u x y:Nat)(v:ij)(nm:ByteArray)(hl:v.aT.length<=2^63 - 1):res A aA 415 [.agg (lB t u x y v),.str nm]=some (Mw (jf (λw=>decide (w.name=nm)) v.aT)):=by
 refine aw a415 rfl rfl ?_;simp only[F415,aaA,lB];simp(disch:=omega)only[go_sem];refine W.fv v.aT.length (λk=>⟨[(1,.pv (.str nm)),(2,.ptr 2 0),(4,.ptr 4 0),(6,.pv (.int .i64 k))],⟨[(2,[.pv (.str v.name),.pv (.aq t (v.types.map aH.c)),.pv (.aq u (ch v.calls)),.pv (.aq x (aG v.aG)),.pv (.aq y (df v.aT))]),(4,[.pv (.str ⟨#[]⟩),.pv (.int .i64 0)])],[],[]⟩⟩) (λk=>∀(i:Nat)(w:hC),i<k->v.aT[i]?=some w->decide (w.name=nm)=false) rfl (λi w hi=>absurd hi (by omega)) λk hk hi=>?_;simp(disch:=omega)only[go_sem];refine Br.aJ (λc1=>?_) (λc1=>?_)
 .obtain⟨w,hw⟩:=get_some (l:=v.aT) (k:=k) (by omega);cases hd:decide (w.name=nm)with
  |true=>
   simp(disch:=omega)only[go_sem,hw,Option.map_some,hd];unfold jf;rw[wv hw hd hi,abw,hw];rfl
  |false=>
   simp(disch:=omega)only[go_sem,hw,Option.map_some,hd];exact .of (by omega) rfl (sH hw hi hd)
 .simp(disch:=omega)only[go_sem];unfold jf;rw[wx (pJ (k:=k) (by omega) hi)];rfl
end Go.Pv
