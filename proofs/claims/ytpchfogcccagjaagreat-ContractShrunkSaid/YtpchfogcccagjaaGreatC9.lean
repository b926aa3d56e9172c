/-
 What the functions of the law give.
-/
import Derived.Test.YtpchfogcccagjaaGreatC8
set_option linter.unusedSimpArgs false
set_option linter.unusedVariables false
open List renaming mem_of_getElem? → Wa, getElem?_eq_some_iff → V9, length_map → Wg, getElem?_append_left → We, getElem?_map → Wf, mem_map → Wk, length_append → Wz, getD_eq_getElem?_getD → Ws, append_assoc → WK, mem_cons_of_mem → W3, length_take → W8, take_of_length_le → Wq, eq_nil_of_length_eq_zero → Wp, all_eq_true → Wu, getElem?_set_self → WU, take_add_one → WL, length_range → WI, getElem?_set_ne → Xk, mem_cons_self → WH, take_length → WV, map_append → WC, mem_range → WJ, any_eq_false → WY, mem_append → WT, ext_getElem? → WW, mem_filterMap → W4, append_nil → Xh, length_set → Xx, any_eq_true → Xm, getElem?_range → Xr, range_succ → Xq, filterMap_append → XI, length_filter_le → XW, map_cons → XQ, mem_or_eq_of_mem_set → XK, getElem?_set → afz, length_cons → abv, length_pos_iff → abx
open Nat renaming le_refl → Wj, le_trans → WM, not_lt_zero → Xo
open Option renaming map_eq_some_iff → Wx, bind_eq_some_iff → XP
open Int renaming toNat_natCast → WX, le_refl → XS, emod_nonneg → XJ, emod_lt_of_pos → XR
open Bool renaming eq_iff_iff → Xb, true_and → WZ, eq_false_iff → Xz, and_eq_true → XX, false_and → Xu, and_false → abu
namespace Go.Pv
def fX (c:UInt8)(k:Nat):ByteArray:=⟨#[c]⟩++Utf8.encode (97+(k:Int))
theorem vn {k:Nat}(h:k<3):(Utf8.encode (97+(k:Int))).size=1:=by
 have:∀k:Fin 3,(Utf8.encode (97+((k.val:Nat):Int))).size=1:=by decide
 exact this ⟨k,h⟩
theorem Yb {c:UInt8}{k:Nat}(h:k<3):cB .add (.pv (.str ⟨#[c]⟩)) (.pv (.str (Utf8.encode (97+(k:Int)))))=some (.pv (.str (fX c k))):=by
 have h1:(⟨#[c]⟩:ByteArray).size=1:=rfl;have h2:(1:Nat)+1<=1099511627776:=by omega
 simp only[cB,kI,h1,vn h,h2,if_true,Option.map_some];rfl
structure vo where
 a:ej
 x:Int
 y:Int
 z:Int
def vo.c (s:vo):List PV:=[.int .u8 s.a.n,.aq 0 (s.a.gH.map vb.c),.int .u8 s.x,.int .u8 s.y,.int .u8 s.z]
def vo.ok (s:vo):Prop:=s.a.ok/\(0<=s.x/\s.x<=255)/\(0<=s.y/\s.y<=255)/\0<=s.z/\s.z<=255
def dD (T:List aH)(k:Nat):List Int:=((List.range k).filter λ(i:Nat)=>!decide ((ji T i).name=⟨#[]⟩)).map λ(i:Nat)=>(i:Int)
def fY (N:List Int)(x:Int):Int:=N.getD (x%N.length).toNat 0
def ek (N:List Int)(s:vo):List gI:=[⟨1,fX 77 0,fY N s.x⟩,⟨2,fX 77 1,fY N s.y⟩,⟨3,fX 77 2,fY N s.z⟩]
def acN (T:List aH)(nm:ByteArray)(s:vo):Option eE:=if (s.a.gH.length:Int)<=12/\dD T T.length≠[] then some ⟨nm,ek (dD T T.length) s,s.a.auto.trim⟩ else none
theorem y7 (T:List aH)(k:Nat):dD T (k+1)=if (ji T (k:Int)).name=⟨#[]⟩ then dD T k else dD T k++[(k:Int)]:=by
 unfold dD;rw[Xq,List.filter_append];by_cases h:(ji T (k:Int)).name=⟨#[]⟩
 .rw[if_pos h];simp[h]
 .rw[if_neg h];simp[h]
theorem th (T:List aH)(k:Nat):(dD T k).length<=k:=by
 unfold dD;rw[Wg];have:=XW (λ(i:Nat)=>!decide ((ji T i).name=⟨#[]⟩)) (List.range k);rw[WI]at this;exact this
theorem vp {N:List Int}(h:N≠[])(x:Int):(0<=x%N.length/\x%N.length<N.length)/\N[(x%N.length).toNat]?=some (fY N x):=by
 have hl:0<N.length:=abx.2 h;have h0:0<=x%(N.length:Int):=XJ _ (by omega);have h1:x%(N.length:Int)<N.length:=XR _ (by omega);refine⟨⟨h0,h1⟩,?_⟩;unfold fY;rw[Ws];obtain⟨y,hy⟩:=get_some (l:=N) (k:=(x%(N.length:Int)).toNat) (by omega);rw[hy];rfl
set_option maxHeartbeats 4000000 in
theorem r453 (t u:Nat)(T:List aH)(nm:ByteArray)(s:vo)(hs:s.ok)(hT:T.length<=100):res A aA 453 [.agg [.aq t (T.map aH.c)],.str nm,.agg [.int .u8 s.a.n,.aq u (s.a.gH.map vb.c),.int .u8 s.x,.int .u8 s.y,.int .u8 s.z]]=some (match acN T nm s with|some w=>[.agg w.c,.bool true]|none=>[.agg [.str ⟨#[]⟩,.aq 0 [],.int .i64 0,.int .i64 0,.aq 0 []],.bool false]):=by
 obtain⟨hd,⟨x0,x1⟩,⟨y0,y1⟩,z0,z1⟩:=hs;have h25:=λt=>r25 t s.a hd;refine aw a453 rfl rfl ?_;simp only[F453,Lp];simp(disch:=omega)only[go_sem];refine W.fv T.length (λk=>⟨[(1,.pv (.str nm)),(3,.ptr 3 0),(5,.ptr 5 0),(6,.ptr 6 0),(8,dh 0 (ints (dD T k))),(9,.pv (.int .i64 k))],⟨[(3,[.pv (.aq t (T.map aH.c))]),(5,[.pv (.int .u8 s.a.n),.pv (.aq u (s.a.gH.map vb.c)),.pv (.int .u8 s.x),.pv (.int .u8 s.y),.pv (.int .u8 s.z)]),(6,[.pv (.str ⟨#[]⟩),.tl [],.pv (.int .i64 0),.pv (.int .i64 0),.tl []])],cK 1 (ints (dD T k)),[]⟩⟩) (λ_=>True) rfl trivial λk hk _=>?_;simp(disch:=omega)only[go_sem];refine Br.aJ (λc=>?_) (λc=>?_)
 .have hx:=uT (l:=T) (i:=k) (by omega) (by omega);rw[WX]at hx;have hsn:=y7 T k;have hnl:=th T k;have hg:=λbx mp=>grow bx mp [] 1 (ints (dD T k)) [.int .i64 k] rfl (by rw[bt];omega);simp only[List.nil_append,List.length_nil]at hg;generalize ji T (k:Int)=y at *;cases hy:decide (y.name=⟨#[]⟩)with
  |true=>
   rw[if_pos (of_decide_eq_true hy)]at hsn;simp(disch:=omega)only[go_sem,hx,Option.map_some,aH.c,hy];refine .of (by omega) ?_ trivial;rw[hsn];rfl
  |false=>
   rw[if_neg (of_decide_eq_false hy)]at hsn;simp(disch:=omega)only[go_sem,hx,Option.map_some,aH.c,hy,hg];refine .of (by omega) ?_ trivial;rw[hsn];simp only[ints,List.map_append,List.map_cons,List.map_nil];rfl
 obtain rfl:k=T.length:=by omega
 have hnl:=th T T.length;unfold acN;generalize dD T T.length=N at *;have hst:=s.a.st;have hgood:=ej.vW hd (s:=0) ⟨XS _,by omega⟩;have hlen:=s.a.len hd;have hlt:=hgood.trim.len;have h33:=λt=>r33e t (1+s.a.n%4) 0 s.a.auto.af (by omega);have hs2:mA Edge.lt (kept (⟨1+s.a.n%4,0,s.a.auto.af⟩:aP).order s.a.auto.af)=s.a.auto.trim.af:=yN Edge.Fj Edge.u9 (s9 hgood.oV);rw[if_pos (aP.iV.2 hgood),hs2]at h33;have hstr:s.a.auto.trim.aj=(⟨1+s.a.n%4,0,s.a.auto.af⟩:aP).order.length:=rfl;have hstt:s.a.auto.trim.start=0:=rfl;rw[<- hstr]at h33;cases hb:decide ((s.a.gH.length:Int)<=12)with
 |false=>
  rw[hb]at h25;rw[if_neg (λh=>of_decide_eq_false hb h.1)];simp(disch:=omega)only[go_sem,h25]
 |true=>
  rw[hb]at h25;cases N with
  |nil=>
   rw[if_neg (λh=>h.2 rfl)];have hz:decide (((0:Nat):Int)=0)=true:=rfl;simp(disch:=omega)only[go_sem,h25,hz]
  |cons q0 N=>
   rw[if_pos ⟨of_decide_eq_true hb,by simp⟩];have hz:decide (((N.length+1:Nat):Int)=0)=false:=decide_eq_false (by omega);have e0:(IntKind.wrap .i32 (97+((0:Nat):Int)))=97+((0:Nat):Int):=rfl;have e1:(IntKind.wrap .i32 (97+((1:Nat):Int)))=97+((1:Nat):Int):=rfl;have e2:(IntKind.wrap .i32 (97+((2:Nat):Int)))=97+((2:Nat):Int):=rfl;simp(disch:=omega)only[go_sem,h25,hz,h33];have hiN:=bt N;refine W.fv 3 (λk=>⟨[(5,.ptr 5 0),(6,.ptr 6 0),(8,.own 0 N.length 0 (N.length+1)),(12,.ptr 12 0),(13,.pv (.int .i64 k))],⟨[(5,[.pv (.int .u8 s.a.n),.pv (.aq u (s.a.gH.map vb.c)),.pv (.int .u8 s.x),.pv (.int .u8 s.y),.pv (.int .u8 s.z)]),(6,[.pv (.str ⟨#[]⟩),.tl [],.pv (.int .i64 0),.pv (.int .i64 0),.tl []]),(12,[.pv (.str nm),dh 1 (msgs ((ek (q0::N) s).take k)),.pv (.int .i64 s.a.auto.trim.aj),.pv (.int .i64 0),.pv (.aq 0 (bF s.a.auto.trim.af))])],⟨N.length,1,.inl (ints (q0::N))⟩::cK 3 (msgs ((ek (q0::N) s).take k)),[]⟩⟩) (λ_=>True) (by rw[<- hiN];rfl) trivial λk hk _=>?_;simp(disch:=omega)only[go_sem];have p:=λx=>vp (N:=q0::N) (by simp) x;rw[abv]at p;have hnl2:N.length<=100:=by rw[abv]at hnl;omega
   have hA:∀X:List aL,(⟨N.length,1,.inl (ints (q0::N))⟩::X)[0]?=some ⟨N.length,1,.inl (ints (q0::N))⟩:=λX=>rfl;refine Br.aJ (λc=>?_) (λc=>?_)
   .rcases(show k=0\/k=1\/k=2 by omega)with rfl|rfl|rfl
    .obtain⟨⟨p0,p1⟩,p2⟩:=p s.x;have hR:msgs ((ek (q0::N) s).take (0+1))=msgs ((ek (q0::N) s).take 0)++[[.int .i64 1,.str (fX 77 0),.int .i64 (fY (q0::N) s.x)]]:=rfl;have hRl:(msgs ((ek (q0::N) s).take 0)).length=0:=rfl;generalize msgs ((ek (q0::N) s).take 0)=rows at *;have hg:∀bx mp,aK ⟨bx,⟨N.length,1,.inl (ints (q0::N))⟩::cK 3 rows,mp⟩ 3 (dh 1 rows) (.tl [[.int .i64 (((0:Nat):Int)+1),.str (fX 77 0),.int .i64 (fY (q0::N) s.x)]])=some (dh 1 (rows++[[.int .i64 (((0:Nat):Int)+1),.str (fX 77 0),.int .i64 (fY (q0::N) s.x)]]),tM 1 3 rows [.int .i64 (((0:Nat):Int)+1),.str (fX 77 0),.int .i64 (fY (q0::N) s.x)]):=λbx mp=>grow bx mp [⟨N.length,1,.inl (ints (q0::N))⟩] 3 rows _ rfl (by omega);simp(disch:=omega)only[go_sem,e0,Yb,hA,p2,hg];refine .of (by omega) ?_ trivial;rw[hR];rfl
    .obtain⟨⟨p0,p1⟩,p2⟩:=p s.y;have hR:msgs ((ek (q0::N) s).take (1+1))=msgs ((ek (q0::N) s).take 1)++[[.int .i64 2,.str (fX 77 1),.int .i64 (fY (q0::N) s.y)]]:=rfl;have hRl:(msgs ((ek (q0::N) s).take 1)).length=1:=rfl;generalize msgs ((ek (q0::N) s).take 1)=rows at *;have hg:∀bx mp,aK ⟨bx,⟨N.length,1,.inl (ints (q0::N))⟩::cK 3 rows,mp⟩ 3 (dh 1 rows) (.tl [[.int .i64 (((1:Nat):Int)+1),.str (fX 77 1),.int .i64 (fY (q0::N) s.y)]])=some (dh 1 (rows++[[.int .i64 (((1:Nat):Int)+1),.str (fX 77 1),.int .i64 (fY (q0::N) s.y)]]),tM 1 3 rows [.int .i64 (((1:Nat):Int)+1),.str (fX 77 1),.int .i64 (fY (q0::N) s.y)]):=λbx mp=>grow bx mp [⟨N.length,1,.inl (ints (q0::N))⟩] 3 rows _ rfl (by omega);simp(disch:=omega)only[go_sem,e1,Yb,hA,p2,hg];refine .of (by omega) ?_ trivial;rw[hR];rfl
    .obtain⟨⟨p0,p1⟩,p2⟩:=p s.z;have hR:msgs ((ek (q0::N) s).take (2+1))=msgs ((ek (q0::N) s).take 2)++[[.int .i64 3,.str (fX 77 2),.int .i64 (fY (q0::N) s.z)]]:=rfl;have hRl:(msgs ((ek (q0::N) s).take 2)).length=2:=rfl;generalize msgs ((ek (q0::N) s).take 2)=rows at *;have hg:∀bx mp,aK ⟨bx,⟨N.length,1,.inl (ints (q0::N))⟩::cK 3 rows,mp⟩ 3 (dh 1 rows) (.tl [[.int .i64 (((2:Nat):Int)+1),.str (fX 77 2),.int .i64 (fY (q0::N) s.z)]])=some (dh 1 (rows++[[.int .i64 (((2:Nat):Int)+1),.str (fX 77 2),.int .i64 (fY (q0::N) s.z)]]),tM 1 3 rows [.int .i64 (((2:Nat):Int)+1),.str (fX 77 2),.int .i64 (fY (q0::N) s.z)]):=λbx mp=>grow bx mp [⟨N.length,1,.inl (ints (q0::N))⟩] 3 rows _ rfl (by omega);simp(disch:=omega)only[go_sem,e2,Yb,hA,p2,hg];refine .of (by omega) ?_ trivial;rw[hR];rfl
   .obtain rfl:k=3:=by omega
    simp(disch:=omega)only[go_sem];rfl
theorem FB {k:Nat}(h:k<3):IntKind.wrap .i32 (97+(k:Int))=97+(k:Int):=by
 rcases(show k=0\/k=1\/k=2 by omega)with rfl|rfl|rfl<;>rfl
structure Dg where
 s:List Node
 calls:List (Int×Int)
 aG:List vo
 aT:List Int
def Pj (c:Int×Int):List PV:=[.int .u8 c.1,.int .u8 c.2]
def Pk (c:Int):List PV:=[.int .u8 c]
def Dg.c (d:Dg):List PV:=[.aq 0 (d.s.map Node.cs),.aq 0 (d.calls.map Pj),.aq 0 (d.aG.map vo.c),.aq 0 (d.aT.map Pk)]
def MG (x:Int):Prop:=0<=x/\x<=255
structure Dg.ok (d:Dg):Prop where
 s:∀y∈d.s,y.ok
 sl:bP d.s
 c:∀x∈d.calls,MG x.1/\MG x.2
 cl:bP d.calls
 w:∀x∈d.aG,x.ok
 wl:bP d.aG
 t:∀x∈d.aT,MG x
 tl:bP d.aT
def eo (n:Int)(l:List (Int×Int))(k:Nat):List Cal:=(List.range k).filterMap λi=>l[i]?.map λx=>⟨fX 67 i,x.1%n,x.2%n⟩
def gT (n:Int)(l:List Int)(k:Nat):List Tpc:=(List.range k).filterMap λi=>l[i]?.map λx=>⟨fX 84 i,x%n⟩
def fZ (T:List aH)(l:List vo)(k:Nat):List eE:=(List.range k).filterMap λi=>l[i]?.bind λs=>acN T (fX 83 i) s
theorem y8 {n:Int}{l:List (Int×Int)}{k:Nat}{x:Int×Int}(h:l[k]?=some x):eo n l (k+1)=eo n l k++[⟨fX 67 k,x.1%n,x.2%n⟩]:=by
 unfold eo;rw[Xq,XI];simp[h]
theorem AV {n:Int}{l:List Int}{k:Nat}{x:Int}(h:l[k]?=some x):gT n l (k+1)=gT n l k++[⟨fX 84 k,x%n⟩]:=by
 unfold gT;rw[Xq,XI];simp[h]
theorem AW {T:List aH}{l:List vo}{k:Nat}{x:vo}(h:l[k]?=some x):fZ T l (k+1)=fZ T l k++(acN T (fX 83 k) x).toList:=by
 unfold fZ;rw[Xq,XI];cases hs:acN T (fX 83 k) x<;>simp[h,hs]
theorem eJ {α:Type}(f:Nat->Option α)(k:Nat):((List.range k).filterMap f).length<=k:=by
 have:=List.length_filterMap_le f (List.range k);rw[WI]at this;exact this
def MH (nm:ByteArray)(d:Dg):Option ij:=if (qR d.s).2=true/\d.calls.length<=3/\d.aG.length<=2/\d.aT.length<=3 then some ⟨nm,(qR d.s).1,eo (qR d.s).1.length d.calls d.calls.length,fZ (qR d.s).1 d.aG d.aG.length,gT (qR d.s).1.length d.aT d.aT.length⟩ else none
set_option maxHeartbeats 8000000 in
theorem r419 (nm:ByteArray)(d:Dg)(hd:d.ok):res A aA 419 [.agg d.c,.str nm]=some (match MH nm d with|some v=>[.agg (lB 0 0 0 0 v),.bool true]|none=>[.agg [.str ⟨#[]⟩,.aq 0 [],.aq 0 [],.aq 0 [],.aq 0 []],.bool false]):=by
 have h279:=λt=>r279 t d.s hd.s hd.sl;refine aw a419 rfl rfl ?_;simp only[F419,Lc];unfold Dg.c MH;have hTn:(qR d.s).2=true->1<=(qR d.s).1.length/\(qR d.s).1.length<=5:=by
  unfold qR;split
  .simp
  .intro _;simp only[List.length_map,List.length_range];omega
 generalize (qR d.s).1=T at *;generalize (qR d.s).2=b at *;cases b with
 |false=>
  rw[if_neg (by simp)];simp(disch:=omega)only[go_sem,h279]
 |true=>
 obtain⟨hT1,hT5⟩:=hTn rfl;cases h1:decide ((3:Int)<d.calls.length)with
 |true=>
  have:=of_decide_eq_true h1;rw[if_neg (by omega)];simp(disch:=omega)only[go_sem,h279,h1]
 |false=>
 cases h2:decide ((2:Int)<d.aG.length)with
 |true=>
  have:=of_decide_eq_true h2;rw[if_neg (by omega)];simp(disch:=omega)only[go_sem,h279,h1,h2]
 |false=>
 cases h3:decide ((3:Int)<d.aT.length)with
 |true=>
  have:=of_decide_eq_true h3;rw[if_neg (by omega)];simp(disch:=omega)only[go_sem,h279,h1,h2,h3]
 |false=>
 have g1:=of_decide_eq_false h1;have g2:=of_decide_eq_false h2;have g3:=of_decide_eq_false h3;rw[if_pos (by refine⟨rfl,?_,?_,?_⟩<;>omega)];simp(disch:=omega)only[go_sem,h279,h1,h2,h3];refine W.fv d.calls.length (λk=>⟨[(2,.ptr 2 0),(4,.ptr 4 0),(6,.ptr 6 0),(8,.ptr 8 0),(9,.pv (.int .i64 T.length)),(10,.pv (.int .i64 k))],⟨[(2,[.pv (.aq 0 (d.s.map Node.cs)),.pv (.aq 0 (d.calls.map Pj)),.pv (.aq 0 (d.aG.map vo.c)),.pv (.aq 0 (d.aT.map Pk))]),(4,[.pv (.str ⟨#[]⟩),.tl [],.tl [],.tl [],.tl []]),(6,[.pv (.aq 0 (T.map aH.c))]),(8,[.pv (.str nm),.pv (.aq 0 (T.map aH.c)),dh 0 (ch (eo T.length d.calls k)),.tl [],.tl []])],cK 3 (ch (eo T.length d.calls k)),[]⟩⟩) (λ_=>True) rfl trivial λk hk _=>?_;simp(disch:=omega)only[go_sem];refine Br.aJ (λc=>?_) (λc=>?_)
 .obtain⟨x,hx⟩:=get_some (l:=d.calls) (k:=k) (by omega);obtain⟨⟨x1,x2⟩,x3,x4⟩:=hd.c x (Wa hx);have hR:ch (eo T.length d.calls (k+1))=ch (eo T.length d.calls k)++[[.str (fX 67 k),.int .i64 (x.1%T.length),.int .i64 (x.2%T.length)]]:=by
   rw[y8 hx];simp[ch,Cal.c]
  have hRl:(ch (eo T.length d.calls k)).length<=3:=by
   rw[oj];have:=eJ (λi=>d.calls[i]?.map λx=>(⟨fX 67 i,x.1%T.length,x.2%T.length⟩:Cal)) k;unfold eo;omega
  generalize ch (eo T.length d.calls k)=rows at *;have hg:∀bx mp,aK ⟨bx,cK 3 rows,mp⟩ 3 (dh 0 rows) (.tl [[.str (fX 67 k),.int .i64 (x.1%T.length),.int .i64 (x.2%T.length)]])=some (dh 0 (rows++[[.str (fX 67 k),.int .i64 (x.1%T.length),.int .i64 (x.2%T.length)]]),tM 0 3 rows [.str (fX 67 k),.int .i64 (x.1%T.length),.int .i64 (x.2%T.length)]):=λbx mp=>grow bx mp [] 3 rows _ rfl (by omega);have hw:=FB (k:=k) (by omega);have hna:=Yb (c:=67) (k:=k) (by omega);simp(disch:=omega)only[go_sem,hx,Option.map_some,Pj,hw,hna,hg];refine .of (by omega) ?_ trivial;rw[hR];rfl
 obtain rfl:k=d.calls.length:=by omega
 generalize hCe:eo T.length d.calls d.calls.length=C at *;have hCl:(ch C).length<=3:=by
  rw[oj,<- hCe];have:=eJ (λi=>d.calls[i]?.map λx=>(⟨fX 67 i,x.1%T.length,x.2%T.length⟩:Cal)) d.calls.length;unfold eo;omega
 clear hk c hCe;simp(disch:=omega)only[go_sem];refine W.fv d.aG.length (λk=>⟨[(2,.ptr 2 0),(4,.ptr 4 0),(6,.ptr 6 0),(8,.ptr 8 0),(9,.pv (.int .i64 T.length)),(11,.pv (.int .i64 k))],⟨[(2,[.pv (.aq 0 (d.s.map Node.cs)),.pv (.aq 0 (d.calls.map Pj)),.pv (.aq 0 (d.aG.map vo.c)),.pv (.aq 0 (d.aT.map Pk))]),(4,[.pv (.str ⟨#[]⟩),.tl [],.tl [],.tl [],.tl []]),(6,[.pv (.aq 0 (T.map aH.c))]),(8,[.pv (.str nm),.pv (.aq 0 (T.map aH.c)),dh 0 (ch C),dh (cK 3 (ch C)).length (aG (fZ T d.aG k)),.tl []])],cK 3 (ch C)++cK 5 (aG (fZ T d.aG k)),[]⟩⟩) (λ_=>True) (by show _=(⟨_,⟨_,cK 3 (ch C)++[],[]⟩⟩:St);rw[Xh];rfl) trivial λk hk _=>?_;simp(disch:=omega)only[go_sem];refine Br.aJ (λc=>?_) (λc=>?_)
 .obtain⟨x,hx⟩:=get_some (l:=d.aG) (k:=k) (by omega);have hxo:=hd.w x (Wa hx);have h453:=λt u=>r453 t u T (fX 83 k) x hxo (by omega);have hR:aG (fZ T d.aG (k+1))=aG (fZ T d.aG k)++aG (acN T (fX 83 k) x).toList:=by
   rw[AW hx];simp[aG]
  have hRl:(aG (fZ T d.aG k)).length<=3:=by
   unfold aG;rw[Wg];have:=eJ (λi=>d.aG[i]?.bind λs=>acN T (fX 83 i) s) k;unfold fZ;omega
  have hw:=FB (k:=k) (by omega);have hna:=Yb (c:=83) (k:=k) (by omega);generalize aG (fZ T d.aG k)=rows at *;cases hs:acN T (fX 83 k) x with
  |none=>
   rw[hs]at h453 hR;simp only[Option.toList,aG,List.map_nil,List.append_nil]at hR;simp(disch:=omega)only[go_sem,hx,Option.map_some,vo.c,hw,hna,h453];refine .of (by omega) ?_ trivial;rw[<- hR];rfl
  |some w=>
   rw[hs]at h453 hR;simp only[Option.toList,aG,List.map_cons,List.map_nil,eE.c]at hR;simp only[eE.c]at h453;have hg:=λbx mp=>grow bx mp (cK 3 (ch C)) 5 rows [.str w.name,.aq 0 (w.msgs.map gI.c),.int .i64 w.auto.aj,.int .i64 w.auto.start,.aq 0 (w.auto.af.map Edge.c)] rfl (by omega);have hgt:=λbx mp=>ik bx mp (cK 3 (ch C)) 5 rows [.str w.name,.aq 0 (w.msgs.map gI.c),.int .i64 w.auto.aj,.int .i64 w.auto.start,.aq 0 (w.auto.af.map Edge.c)];simp(disch:=omega)only[go_sem,hx,Option.map_some,vo.c,hw,hna,h453,hg,hgt];refine .of (by omega) ?_ trivial;rw[show aG (fZ T d.aG (k+1))=_ from hR];rfl
 obtain rfl:k=d.aG.length:=by omega
 generalize hWe:fZ T d.aG d.aG.length=S at *;clear hk c hWe;simp(disch:=omega)only[go_sem];refine W.fv d.aT.length (λk=>⟨[(2,.ptr 2 0),(4,.ptr 4 0),(8,.ptr 8 0),(9,.pv (.int .i64 T.length)),(14,.pv (.int .i64 k))],⟨[(2,[.pv (.aq 0 (d.s.map Node.cs)),.pv (.aq 0 (d.calls.map Pj)),.pv (.aq 0 (d.aG.map vo.c)),.pv (.aq 0 (d.aT.map Pk))]),(4,[.pv (.str ⟨#[]⟩),.tl [],.tl [],.tl [],.tl []]),(8,[.pv (.str nm),.pv (.aq 0 (T.map aH.c)),dh 0 (ch C),dh (cK 3 (ch C)).length (aG S),dh (cK 3 (ch C)++cK 5 (aG S)).length (df (gT T.length d.aT k))])],cK 3 (ch C)++cK 5 (aG S)++cK 2 (df (gT T.length d.aT k)),[]⟩⟩) (λ_=>True) (by show _=(⟨_,⟨_,cK 3 (ch C)++cK 5 (aG S)++[],[]⟩⟩:St);rw[Xh];rfl) trivial λk hk _=>?_;simp(disch:=omega)only[go_sem];refine Br.aJ (λc=>?_) (λc=>?_)
 .obtain⟨x,hx⟩:=get_some (l:=d.aT) (k:=k) (by omega);obtain⟨x1,x2⟩:=hd.t x (Wa hx);have hR:df (gT T.length d.aT (k+1))=df (gT T.length d.aT k)++[[.str (fX 84 k),.int .i64 (x%T.length)]]:=by
   rw[AV hx];simp[df,Tpc.c]
  have hRl:(df (gT T.length d.aT k)).length<=3:=by
   rw[sG];have:=eJ (λi=>d.aT[i]?.map λx=>(⟨fX 84 i,x%T.length⟩:Tpc)) k;unfold gT;omega
  generalize df (gT T.length d.aT k)=rows at *;have hg:=λbx mp=>grow bx mp (cK 3 (ch C)++cK 5 (aG S)) 2 rows [.str (fX 84 k),.int .i64 (x%T.length)] rfl (by omega);have hgt:=λbx mp=>ik bx mp (cK 3 (ch C)++cK 5 (aG S)) 2 rows [.str (fX 84 k),.int .i64 (x%T.length)];simp only[List.length_append]at hg hgt;have hw:=FB (k:=k) (by omega);have hna:=Yb (c:=84) (k:=k) (by omega);simp(disch:=omega)only[go_sem,hx,Option.map_some,Pk,hw,hna,hg,hgt];refine .of (by omega) ?_ trivial;rw[hR,Wz];rfl
 obtain rfl:k=d.aT.length:=by omega
 generalize hPe:gT T.length d.aT d.aT.length=P at *;have k1:∀bx,aY ⟨bx,cK 3 (ch C)++cK 5 (aG S)++cK 2 (df P),[]⟩ 4 (dh 0 (ch C))=some (.aq 0 (ch C)):=λbx=>by
  rw[WK];exact tf bx [] [] _ 3 3 _
 have k2:∀bx,aY ⟨bx,cK 3 (ch C)++cK 5 (aG S)++cK 2 (df P),[]⟩ 4 (dh (cK 3 (ch C)).length (aG S))=some (.aq 0 (aG S)):=λbx=>by
  rw[WK];exact tf bx [] (cK 3 (ch C)) _ 5 3 _
 have k3:∀bx,aY ⟨bx,cK 3 (ch C)++cK 5 (aG S)++cK 2 (df P),[]⟩ 4 (dh (cK 3 (ch C)++cK 5 (aG S)).length (df P))=some (.aq 0 (df P)):=λbx=>sI bx [] _ 2 3 _;simp only[List.length_append]at k3;simp(disch:=omega)only[go_sem,k1,k2,k3];rfl
theorem wL {c:UInt8}{k:Nat}(h:k<3):bC (fX c k):=by
 have:(fX c k).size=2:=by
  unfold fX;rw[ByteArray.size_append,vn h];rfl
 unfold bC;omega
theorem Dh {n:Int}{l:List (Int×Int)}{k:Nat}(hk:k<=3):∀c∈eo n l k,bC c.name:=by
 intro c hc;obtain⟨i,hi,he⟩:=W4.1 hc;have:=WJ.1 hi;obtain⟨x,_,rfl⟩:=Wx.1 he;exact wL (by omega)
theorem FC {n:Int}{l:List Int}{k:Nat}(hk:k<=3):∀c∈gT n l k,bC c.name:=by
 intro c hc;obtain⟨i,hi,he⟩:=W4.1 hc;have:=WJ.1 hi;obtain⟨x,_,rfl⟩:=Wx.1 he;exact wL (by omega)
theorem y9 {T:List aH}{l:List vo}{k:Nat}(hk:k<=2)(hl:∀s∈l,s.ok):∀w∈fZ T l k,∃i s,i<2/\s∈l/\dD T T.length≠[]/\w=⟨fX 83 i,ek (dD T T.length) s,s.a.auto.trim⟩/\s.a.auto.Good:=by
 intro w hw;obtain⟨i,hi,he⟩:=W4.1 hw;have:=WJ.1 hi;obtain⟨s,hs,he⟩:=XP.1 he;unfold acN at he;split at he
 .rename_i hc;cases he;have hm:=Wa hs;exact⟨i,s,by omega,hm,hc.2,rfl,ej.vW (hl s hm).1 (s:=0) ⟨XS _,by have:=s.a.st;omega⟩⟩
 .cases he
theorem Di {nm:ByteArray}{d:Dg}{v:ij}(hn:bC nm)(hd:d.ok)(h:MH nm d=some v):iX v/\v.types.length<=5/\v.calls.length<=3/\v.aG.length<=2/\v.aT.length<=3/\∀w∈v.aG,w.msgs.length<=3/\w.auto.af.length<=100:=by
 unfold MH at h;split at h
 rotate_left
 .cases h
 rename_i hc;obtain⟨c1,c2,c3,c4⟩:=hc;cases h;have hD:¬(d.s.length<1\/5<d.s.length):=by
  intro hx;unfold qR at c1;rw[if_pos hx]at c1;cases c1
 have hT:(qR d.s).1=(List.range d.s.length).map (e9 d.s):=by
  unfold qR;rw[if_neg hD]
 obtain⟨o1,o2⟩:=Mr (d:=d.s) (by omega) (by omega);rw[<- hT]at o1 o2;have hl:(qR d.s).1.length<=5:=by
  rw[hT,Wg,WI];omega
 have l1:(eo (qR d.s).1.length d.calls d.calls.length).length<=3:=WM (eJ _ _) c2;have l2:(fZ (qR d.s).1 d.aG d.aG.length).length<=2:=WM (eJ _ _) c3;have l3:(gT (qR d.s).1.length d.aT d.aT.length).length<=3:=WM (eJ _ _) c4;have hw:∀w∈fZ (qR d.s).1 d.aG d.aG.length,(bC w.name/\∀m∈w.msgs,bC m.name)/\w.msgs.length<=3/\w.auto.af.length<=100:=λw hw=>by
  obtain⟨i,s,hi,hs,_,rfl,hg⟩:=y9 (by omega) hd.w w hw;refine⟨⟨wL (by omega),λm hm=>?_⟩,Wj 3,hg.trim.len⟩;dsimp only[ek]at hm;simp only[List.mem_cons,List.not_mem_nil,or_false]at hm;rcases hm with rfl|rfl|rfl<;>exact wL (by omega)
 refine⟨⟨hn,by dsimp only;omega,o1,λt h=>(o2 t h).held,by dsimp only;omega,Dh c2,by dsimp only;omega,λw h=>?_,by dsimp only;omega,FC c4⟩,hl,l1,l2,l3,λw h=>(hw w h).2⟩;obtain⟨⟨q1,q2⟩,q3,q4⟩:=hw w h;exact⟨q1,by omega,q2,by omega⟩
theorem adu {v:ij}(hv:iX v)(h5:v.types.length<=5)(hc:v.calls.length<=3)(hs:v.aG.length<=2)(hp:v.aT.length<=3)(hw:∀w∈v.aG,w.msgs.length<=3/\w.auto.af.length<=100):res A aA 409 [.agg (lB 0 0 0 0 (cg v)),.agg (lB 0 0 0 0 (cg v))]=some [.bool true]:=by
 have hLl:(ae v).length<=5:=by
  unfold ae abN;rw[Wg];have:=acg (ab5 v) v.types.length;omega
 refine r409 (cg v) ?_ ?_ ?_ ?_ ?_ ?_
 .show ((ae v).map _).length<=_;rw[Wg];omega
 .intro t ht;obtain⟨u,hu,rfl⟩:=Wk.1 ht;obtain⟨g0,g1,_⟩:=za.1 hu;exact ac2 (by omega) (hv.to _ (Wa (uT g0 g1)))
 .show (v.calls.map _).length<=_;rw[Wg];omega
 .show (v.aG.map _).length<=_;rw[Wg];omega
 .intro w h;obtain⟨x,hx,rfl⟩:=Wk.1 h;have:=hw x hx;refine⟨?_,?_⟩
  .show (x.msgs.map _).length<=_;rw[Wg];omega
  .show x.auto.af.length<=_;omega
 .show (v.aT.map _).length<=_;rw[Wg];omega
def i6 (u:Int×Int):List PV:=[.int .i64 u.1,.int .i64 u.2]
def oP (l:List Mem):List (Int×Int):=l.map λm=>(m.id,m.type)
def p5 (t:aH):List (Int×Int):=oP t.bc++(if t.kind=8 then [(0,t.key)] else [])++(if 7<=t.kind then [(-1,t.elem)] else [])
theorem HO (k:Nat)(rows:List (List PV))(r1 r2:List PV)(h1:r1.length=k)(h2:r2.length=k)(hm:rows.length+2<=2147483648):
  ∃V1 T ar',(∀bx,aK ⟨bx,cK k rows,[]⟩ k (dh 0 rows) (.tl [r1,r2])=some (V1,T))/\(∀bx,T.apply ⟨bx,cK k rows,[]⟩=⟨bx,ar',[]⟩)/\V1.cells=[V1]/\V1.calm=true/\(∀b,dN b V1=V1)/\∀bx,keep ⟨bx,ar',[]⟩ false V1=some (.aq 0 (rows++[r1,r2])):=by
 cases rows with
 |nil=>exact⟨.own 0 0 0 2,{push:=[⟨0,k,.inl [r1,r2]⟩],base:=0},[⟨0,k,.inl [r1,r2]⟩],λbx=>by simp[aK,dh,cK,aW,aO,aD,h1,h2,aU,aN],λbx=>by simp[Tn.apply,cK],rfl,rfl,λ_=>rfl,λbx=>by simp[keep,dS,aB,bO,az]⟩
 |cons x q=>
  refine⟨.own 0 (q.length+1) 0 (q.length+3),{ar:=some (0,⟨q.length+1,k,.inl (x::q++[r1,r2])⟩)},[⟨q.length+1,k,.inl (x::q++[r1,r2])⟩],λbx=>?_,λbx=>by simp[Tn.apply,cK],rfl,rfl,λ_=>rfl,λbx=>?_⟩
  .have e1:aB ⟨bx,cK k (x::q),[]⟩ 0 q.length=some ⟨q.length,k,.inl (x::q)⟩:=by simp[aB,cK]
   have e2:(⟨q.length,k,.inl (x::q)⟩:aL).size=q.length+1:=rfl;simp only[List.length_cons]at hm;simp[aK,dh,aW,aO,aD,h1,h2,e1,e2,aU,az,aN];omega
  .simp[keep,dS,aB,bO,az];exact List.take_of_length_le (by simp)
set_option maxHeartbeats 4000000 in
theorem r490 (t:aH)(hs:t.short)(h9:t.kind<=9):res A aA 490 [.agg t.c]=some [.aq 0 ((p5 t).map i6)]:=by
 have hl:=hs.bc;obtain⟨k,a2,a3,a4,a5,a6,l,a8,a9,a10⟩:=t;unfold p5 aH.c;dsimp only at *;refine aw a490 rfl rfl ?_;simp only[F490,LK];simp(disch:=omega)only[go_sem];refine W.fv l.length (λj=>⟨[(1,.ptr 1 0),(3,dh 0 ((oP (l.take j)).map i6)),(7,.pv (.aq 0 (l.map Mem.c))),(8,.pv (.int .i64 l.length)),(9,.pv (.int .i64 j))],⟨[(1,[.pv (.int .i64 k),.pv (.str a2),.pv (.int .i64 a3),.pv (.int .i64 a4),.pv (.int .i64 a5),.pv (.aq 0 (a6.map Sym.c)),.pv (.aq 0 (l.map Mem.c)),.pv (.int .i64 a8),.pv (.int .i64 a9),.pv (.bool a10)])],cK 2 ((oP (l.take j)).map i6),[]⟩⟩) (λ_=>True) rfl trivial λj hj _=>?_;simp(disch:=omega)only[go_sem];refine Br.aJ (λc=>?_) (λc=>?_)
 .obtain⟨p,hp⟩:=get_some (l:=l) (k:=j) (by omega);have hR:(oP (l.take (j+1))).map i6=(oP (l.take j)).map i6++[[.int .i64 p.id,.int .i64 p.type]]:=by
   rw[WL,hp];simp[oP,i6]
  have hRl:((oP (l.take j)).map i6).length<=j:=by simp[oP];omega
  generalize (oP (l.take j)).map i6=rows at *;have hg:∀bx mp,aK ⟨bx,cK 2 rows,mp⟩ 2 (dh 0 rows) (.tl [[.int .i64 p.id,.int .i64 p.type]])=some (dh 0 (rows++[[.int .i64 p.id,.int .i64 p.type]]),tM 0 2 rows [.int .i64 p.id,.int .i64 p.type]):=λbx mp=>grow bx mp [] 2 rows _ rfl (by omega);simp(disch:=omega)only[go_sem,hp,Option.map_some,Mem.c,hg];refine .of (by omega) ?_ trivial;rw[hR];rfl
 obtain rfl:j=l.length:=by omega
 rw[WV];have hRl:((oP l).map i6).length=l.length:=by simp[oP]
 rw[WC,WC];generalize (oP l).map i6=rows at *;simp(disch:=omega)only[go_sem];obtain⟨V1,T,ar',happ,hT,hc1,hc2,hsc,hk⟩:=HO 2 rows [.int .i64 0,.int .i64 a8] [.int .i64 (-1),.int .i64 a9] rfl rfl (by omega);have hg:∀bx mp,aK ⟨bx,cK 2 rows,mp⟩ 2 (dh 0 rows) (.tl [[.int .i64 (-1),.int .i64 a9]])=some (dh 0 (rows++[[.int .i64 (-1),.int .i64 a9]]),tM 0 2 rows [.int .i64 (-1),.int .i64 a9]):=λbx mp=>grow bx mp [] 2 rows _ rfl (by omega);refine Br.aJ (λc8=>?_) (λc8=>?_)
 .rw[if_pos c8,if_pos (by omega)];simp(disch:=omega)only[go_sem,happ,hT,hc1,hc2,hsc,hk];simp[i6]
 .rw[if_neg c8];cases h7:decide (k=7)with
  |true=>
   have c7:=of_decide_eq_true h7;rw[if_pos (by omega)];simp(disch:=omega)only[go_sem,h7,hg];simp[i6]
  |false=>
   have c7:=of_decide_eq_false h7;cases h9':decide (k=9)with
   |true=>
    have c9:=of_decide_eq_true h9';rw[if_pos (by omega)];simp(disch:=omega)only[go_sem,h7,h9',hg];simp[i6]
   |false=>
    have c9:=of_decide_eq_false h9';rw[if_neg (by omega)];simp(disch:=omega)only[go_sem,h7,h9',List.append_nil]
set_option maxHeartbeats 4000000 in
theorem r499:∀(n k:Nat)(cs ds:List PV),mu n cs->mu k ds->res A aA 499 [.agg cs,.agg ds]=some [.bool (eqv cs ds)]
 |0,_,_,_,h,_=>h.elim
 |_+1,0,_,_,_,h=>h.elim
 |n+1,k+1,cs,ds,h,h'=>by
  obtain⟨v,rfl,⟨h1,h2,h3,h4⟩,⟨h5,h6,h7⟩,h8,h9,h10⟩:=h;obtain⟨w,rfl,⟨g1,g2,g3,g4⟩,⟨g5,g6,g7⟩,g8,g9,g10⟩:=h';have ih:=r499 n k;unfold bP at h5 h6 h7 g5 g6 g7;have hk:=λt u=>r334g cw499 t u v.keys w.keys (by omega) (by omega) (λr hr=>(h8 r hr).val) (λr hr=>(g8 r hr).val) (λr hr q hq=>ih r q (h8 r hr) (g8 q hq));have hi:=λt u=>r334g cw499 t u v.items w.items (by omega) (by omega) (λr hr=>(h9 r hr).val) (λr hr=>(g9 r hr).val) (λr hr q hq=>ih r q (h9 r hr) (g9 q hq));have hr:=λt u=>r333 t u v.rest w.rest (by omega) (by omega);rw[oq];obtain⟨a1,a2,a3,a4,a5,a6,a7,a8⟩:=v;obtain⟨b1,b2,b3,b4,b5,b6,b7,b8⟩:=w;unfold dz.c;dsimp only at *;clear ih;refine aw a499 rfl rfl ?_;simp only[F499,LR];simp(disch:=omega)only[go_sem];have no:∀{p q:dz},p≠q->(some [PV.bool false]:Option (List PV))=some [PV.bool (eqv p q)]:=λh=>by rw[fJ h]
  refine Br.aJ (λe=>?_) (λe=>?_)<;>simp(disch:=omega)only[go_sem,e]
  rotate_left
  .exact no (λq=>e (by cases q;rfl))
  subst e;refine Br.aJ (λe=>?_) (λe=>?_)<;>simp(disch:=omega)only[go_sem,e]
  rotate_left
  .exact no (λq=>e (by cases q;rfl))
  subst e;refine Br.aJ (λe=>?_) (λe=>?_)<;>simp(disch:=omega)only[go_sem,e]
  rotate_left
  .exact no (λq=>e (by cases q;rfl))
  subst e;refine Br.aJ (λe=>?_) (λe=>?_)<;>simp(disch:=omega)only[go_sem,e]
  rotate_left
  .exact no (λq=>e (by cases q;rfl))
  subst e;refine Br.aJ (λe=>?_) (λe=>?_)<;>simp(disch:=omega)only[go_sem,e]
  rotate_left
  .exact no (λq=>e (by cases q;rfl))
  subst e;simp(disch:=omega)only[go_sem,hr];refine Br.of (λe=>?_) (λe=>?_)<;>simp(disch:=omega)only[go_sem,e]
  rotate_left
  .exact no (λq=>mW.1 e (by cases q;rfl))
  have e:=bY.1 e;subst e;simp(disch:=omega)only[go_sem,hk];refine Br.of (λe=>?_) (λe=>?_)<;>simp(disch:=omega)only[go_sem,e]
  rotate_left
  .exact no (λq=>mW.1 e (by cases q;rfl))
  have e:=bY.1 e;subst e;simp(disch:=omega)only[go_sem,hi];congr 3;rw[Xb,bY,bY];exact⟨λe=>by rw[e],λq=>by cases q;rfl⟩
def wM {α β:Type}(g:α->β->Bool)(l:List α)(m:List β):Bool:=decide (l.length=m.length)&&(l.zip m).all λq=>g q.1 q.2
theorem p6 {α β:Type}{g:α->β->Bool}{l:List α}{m:List β}(h:¬l.length=m.length):wM g l m=false:=by
 unfold wM;rw[decide_eq_false h];rfl
theorem wN {α β:Type}{g:α->β->Bool}{l:List α}{m:List β}(h:(l.zip m).any (λq=>!g q.1 q.2)=true):wM g l m=false:=by
 unfold wM;have:(l.zip m).all (λq=>g q.1 q.2)=false:=by
  rw[Xz];intro h2;obtain⟨q,hq,hn⟩:=Xm.1 h;have:=Wu.1 h2 q hq;rw[this]at hn;cases hn
 rw[this,abu]
theorem ru {α β:Type}{g:α->β->Bool}{l:List α}{m:List β}(h:l.length=m.length)(h2:(l.zip m).any (λq=>!g q.1 q.2)=false):wM g l m=true:=by
 unfold wM;rw[decide_eq_true h,WZ,Wu];intro q hq;have:=WY.1 h2 q hq;simpa using this
theorem wO {α β:Type}(k:α->β){g:α->α->Bool}(h:∀x y,g x y=eqv (k x) (k y)):∀l m:List α,wM g l m=eqv (l.map k) (m.map k)
 |[],[]=>by rw[fI];rfl
 |[],y::m=>by rw[p6 (by simp),fJ (by simp)]
 |x::l,[]=>by rw[p6 (by simp),fJ (by simp)]
 |x::l,y::m=>by
  have ih:=wO k h l m;unfold wM at ih |-;rw[List.zip_cons_cons,List.all_cons];dsimp only;rw[h x y];by_cases e:k x=k y
  .rw[e,fI,WZ,XQ,XQ,e];have e2:decide ((x::l).length=(y::m).length)=decide (l.length=m.length):=by simp
   rw[e2,ih,Xb,bY,bY];exact⟨λh=>by rw[h],λh=>List.tail_eq_of_cons_eq h⟩
  .rw[fJ e,Xu,abu,fJ];intro h2;rw[XQ,XQ]at h2;exact e (List.head_eq_of_cons_eq h2)
def tj (s:Sym):Int:=s.id
def AX (m:Mem):Int×Bool×Bool×dz:=(m.id,m.DJ,m.has,m.ib)
def HP (t:aH):(Int×Int×Int×Int×Bool)×List Int×List (Int×Bool×Bool×dz):=((t.kind,t.low,t.high,t.max,t.jO),t.syms.map tj,t.bc.map AX)
noncomputable def ep (x y:aH):Bool:=eqv (HP x) (HP y)
theorem r497 (u:Nat)(x y:Sym):res A aA 497 [.agg x.c,.agg y.c,.ro u [.bool false]]=some [.bool (eqv (tj x) (tj y))]:=by
 have e:eqv (tj x) (tj y)=decide (x.id=y.id):=by
  unfold tj eqv;simp
 rw[e];refine aw a497 rfl rfl ?_;simp only[F497,LP];unfold Sym.c;simp(disch:=omega)only[go_sem];refine Br.aJ (λc=>?_) (λc=>?_)<;>simp(disch:=omega)only[go_sem,c,decide_true,decide_false]
noncomputable def Dj (x y:Sym):Bool:=eqv (tj x) (tj y)
noncomputable def AY (x y:Mem):Bool:=eqv (AX x) (AX y)
theorem r496 (t u w:Nat)(l m:List Sym)(hl:l.length<=2^63 - 1)(_hm:m.length<=2^63 - 1):res A aA 496 [.aq t (l.map Sym.c),.aq u (m.map Sym.c),.func 497 [.ro w [.bool false]]]=some [.bool (wM Dj l m)]:=by
 refine aw a496 rfl rfl ?_;simp only[F496,LO];simp(disch:=omega)only[go_sem];refine Br.aJ (λh=>?_) (λh=>?_)<;>simp(disch:=omega)only[go_sem]
 .refine W.find (l.zip m) (λq=>!Dj q.1 q.2) (λk=>⟨[(1,.pv (.aq u (m.map Sym.c))),(2,.pv (.func 497 [.ro w [.bool false]])),(15,.pv (.aq t (l.map Sym.c))),(16,.pv (.int .i64 l.length)),(17,.pv (.int .i64 k))],⟨[],[],[]⟩⟩) rfl (λk q hq hk hfd=>?_) (λhn=>?_)
  .obtain⟨h1,h2⟩:=jh hq;rw[dA (by omega)]at hk;have hc:=λv=>r497 v q.1 q.2;have hg:Dj q.1 q.2=eqv (tj q.1) (tj q.2):=rfl;rw[<- hg]at hc;unfold Sym.c at hc;simp(disch:=omega)only[go_sem];refine Br.aJ (λc=>?_) (λc=>(c (by omega)).elim);simp(disch:=omega)only[go_sem,h1,h2,Sym.c,hc];refine Br.of (λg=>?_) (λg=>?_)<;>simp(disch:=omega)only[go_sem]
   .exact bB.of (by rw[g];rfl) rfl
   .rw[wN (hfd (by rw[g];rfl)).any]
  .have hz:(l.zip m).length=l.length:=dA (by omega);rw[hz];simp(disch:=omega)only[go_sem];rw[ru (by omega) hn.any]
 .rw[p6 (λe=>h (by rw[e]))]
set_option maxHeartbeats 4000000 in
theorem r498 (u:Nat)(x y:Mem)(hx:x.ok)(hy:y.ok):res A aA 498 [.agg x.c,.agg y.c,.ro u [.bool false]]=some [.bool (AY x y)]:=by
 obtain⟨n,vx⟩:=hx.2.2.2;obtain⟨k,vy⟩:=hy.2.2.2;have hv:=r499 n k _ _ vx vy;rw[oq]at hv;have hg:AY x y=eqv (AX x) (AX y):=rfl;rw[hg];obtain⟨a1,a2,a3,a4,a5,v⟩:=x;obtain⟨b1,b2,b3,b4,b5,w⟩:=y;unfold Mem.c AX;unfold dz.c at hv;dsimp only at *;have no:∀{p q:Int×Bool×Bool×dz},p≠q->(some [PV.bool false]:Option (List PV))=some [PV.bool (eqv p q)]:=λh=>by rw[fJ h]
 refine aw a498 rfl rfl ?_;simp only[F498,LQ];simp(disch:=omega)only[go_sem];refine Br.aJ (λe=>?_) (λe=>?_)<;>simp(disch:=omega)only[go_sem,e]
 rotate_left
 .exact no (λq=>e (by cases q;rfl))
 subst e;refine Br.aJ (λe=>?_) (λe=>?_)<;>simp(disch:=omega)only[go_sem,e]
 rotate_left
 .exact no (λq=>e (by cases q;rfl))
 subst e;refine Br.aJ (λe=>?_) (λe=>?_)<;>simp(disch:=omega)only[go_sem,e]
 rotate_left
 .exact no (λq=>e (by cases q;rfl))
 subst e;simp(disch:=omega)only[go_sem,hv];refine Br.of (λe=>?_) (λe=>?_)<;>simp(disch:=omega)only[go_sem,e]
 rotate_left
 .exact no (λq=>mW.1 e (by cases q;rfl))
 have e:=bY.1 e;subst e;rw[fI]
theorem r318k (t u w:Nat)(l m:List Mem)(hl:l.length<=2^63 - 1)(_hm:m.length<=2^63 - 1)(vl:∀r∈l,r.ok)(vm:∀r∈m,r.ok):res A aA 318 [.aq t (l.map Mem.c),.aq u (m.map Mem.c),.func 498 [.ro w [.bool false]]]=some [.bool (wM AY l m)]:=by
 refine aw a318 rfl rfl ?_;simp only[F318,Hn];simp(disch:=omega)only[go_sem];refine Br.aJ (λh=>?_) (λh=>?_)<;>simp(disch:=omega)only[go_sem]
 .refine W.find (l.zip m) (λq=>!AY q.1 q.2) (λk=>⟨[(1,.pv (.aq u (m.map Mem.c))),(2,.pv (.func 498 [.ro w [.bool false]])),(15,.pv (.aq t (l.map Mem.c))),(16,.pv (.int .i64 l.length)),(17,.pv (.int .i64 k))],⟨[],[],[]⟩⟩) rfl (λk q hq hk hfd=>?_) (λhn=>?_)
  .obtain⟨h1,h2⟩:=jh hq;rw[dA (by omega)]at hk;have hc:=λv=>r498 v q.1 q.2 (vl q.1 (Wa h1)) (vm q.2 (Wa h2));unfold Mem.c at hc;simp(disch:=omega)only[go_sem];refine Br.aJ (λc=>?_) (λc=>(c (by omega)).elim);simp(disch:=omega)only[go_sem,h1,h2,Mem.c,hc];refine Br.of (λg=>?_) (λg=>?_)<;>simp(disch:=omega)only[go_sem]
   .exact bB.of (by rw[g];rfl) rfl
   .rw[wN (hfd (by rw[g];rfl)).any]
  .have hz:(l.zip m).length=l.length:=dA (by omega);rw[hz];simp(disch:=omega)only[go_sem];rw[ru (by omega) hn.any]
 .rw[p6 (λe=>h (by rw[e]))]
theorem Ym (x y:aH)(h:(x.kind,x.low,x.high,x.max,x.jO)=(y.kind,y.low,y.high,y.max,y.jO)):ep x y=(wM Dj x.syms y.syms&&wM AY x.bc y.bc):=by
 rw[wO tj (g:=Dj) (λ_ _=>rfl),wO AX (g:=AY) (λ_ _=>rfl)];unfold ep HP;rw[h,Xb,XX,bY,bY,bY];constructor
 .intro e;injection e with _ e;injection e with e1 e2;exact⟨e1,e2⟩
 .rintro ⟨e1,e2⟩
  rw[e1,e2]
theorem FD {x y:aH}(h:(x.kind,x.low,x.high,x.max,x.jO)≠(y.kind,y.low,y.high,y.max,y.jO)):ep x y=false:=by
 unfold ep;rw[fJ];unfold HP;intro e;injection e with e _;exact h e
set_option maxHeartbeats 8000000 in
theorem r488 (x y:aH)(hx:x.ok)(hy:y.ok):res A aA 488 [.agg x.c,.agg y.c,.bool false]=some [.bool (ep x y)]:=by
 obtain⟨_,⟨lx1,lx2⟩,_,lx3⟩:=hx;obtain⟨_,⟨ly1,ly2⟩,_,ly3⟩:=hy;unfold bP at *;have hs:=λt u w=>r496 t u w x.syms y.syms (by omega) (by omega);have hm:=λt u w=>r318k t u w x.bc y.bc (by omega) (by omega) lx3 ly3;have yes:=Ym x y;have no:(x.kind,x.low,x.high,x.max,x.jO)≠(y.kind,y.low,y.high,y.max,y.jO)->(some [PV.bool false]:Option (List PV))=some [PV.bool (ep x y)]:=λh=>by rw[FD h]
 generalize ep x y=G at *;obtain⟨a1,a2,a3,a4,a5,a6,a7,a8,a9,a10⟩:=x;obtain⟨b1,b2,b3,b4,b5,b6,b7,b8,b9,b10⟩:=y;unfold aH.c;dsimp only at *;refine aw a488 rfl rfl ?_;simp only[F488,LI];simp(disch:=omega)only[go_sem];refine Br.aJ (λe=>?_) (λe=>?_)<;>simp(disch:=omega)only[go_sem,e]
 rotate_left
 .exact no (λq=>e (by cases q;rfl))
 subst e;refine Br.aJ (λe=>?_) (λe=>?_)<;>simp(disch:=omega)only[go_sem,e]
 rotate_left
 .exact no (λq=>e (by cases q;rfl))
 subst e;refine Br.aJ (λe=>?_) (λe=>?_)<;>simp(disch:=omega)only[go_sem,e]
 rotate_left
 .exact no (λq=>e (by cases q;rfl))
 subst e;refine Br.aJ (λe=>?_) (λe=>?_)<;>simp(disch:=omega)only[go_sem,e]
 rotate_left
 .exact no (λq=>e (by cases q;rfl))
 subst e;refine Br.aJ (λe=>?_) (λe=>?_)<;>simp(disch:=omega)only[go_sem,e]
 rotate_left
 .exact no (λq=>e (by cases q;rfl))
 subst e;rw[yes rfl];generalize wM Dj a6 b6=e1 at *;generalize wM AY a7 b7=e2 at *;simp(disch:=omega)only[go_sem,hs];cases e1 with
 |false=>simp(disch:=omega)only[go_sem,Bool.false_and]
 |true=>simp(disch:=omega)only[go_sem,hm,Bool.true_and]
def Yx (g:List Bool->Nat)(M:List (List Bool)):List (List PV):=M.map λl=>[.aq (g l) (bX l)]
@[go_sem] theorem R4 (g:List Bool->Nat)(M:List (List Bool))(i:Nat):(Yx g M)[i]?=M[i]?.map λl=>[.aq (g l) (bX l)]:=by simp[Yx]
structure mB (na nb:Nat)(M:List (List Bool)):Prop where
 len:M.length=na
 row:∀l∈M,l.length=nb
def iY (M:List (List Bool))(p q:Int):Bool:=(M.getD p.toNat []).getD q.toNat false
theorem mB.get {na nb:Nat}{M:List (List Bool)}(h:mB na nb M){p q:Int}(hp:0<=p/\p<na)(hq:0<=q/\q<nb):∃l,M[p.toNat]?=some l/\l.length=nb/\l[q.toNat]?=some (iY M p q):=by
 have hl:=h.len;obtain⟨l,hl⟩:=get_some (l:=M) (k:=p.toNat) (by omega);have hr:=h.row l (Wa hl);refine⟨l,hl,hr,?_⟩;have h4:q.toNat<l.length:=by omega
 unfold iY;simp[hl,h4]
def UU (n:Nat)(l:List (Int×Int)):Prop:=∀u∈l,0<=u.2/\u.2<n
def HQ (M:List (List Bool))(x y:aH):Bool:=wM (λu v=>iY M u.2 v.2) (p5 x) (p5 y)
theorem r491 (s v na nb:Nat)(g:List Bool->Nat)(a b:Int×Int)(M:List (List Bool))(hM:mB na nb M)(hn:na<=1000000/\nb<=1000000)(ha:0<=a.2/\a.2<na)(hb:0<=b.2/\b.2<nb):res A aA 491 [.agg (i6 a),.agg (i6 b),.ro s [.aq v (Yx g M)]]=some [.bool (iY M a.2 b.2)]:=by
 obtain⟨l,h1,h2,h3⟩:=hM.get ha hb;have h4:=hM.len;obtain⟨a0,a1⟩:=ha;obtain⟨b0,b1⟩:=hb;refine aw a491 rfl rfl ?_;simp only[F491,LM];unfold i6;simp(disch:=omega)only[go_sem,gB,h1,h3,Option.map_some]
theorem r489 (t u s v na nb:Nat)(g:List Bool->Nat)(l m:List (Int×Int))(M:List (List Bool))(hM:mB na nb M)(hn:na<=1000000/\nb<=1000000)(ha:UU na l)(hb:UU nb m)(hl:l.length<=2000000)(hm:m.length<=2000000):res A aA 489 [.aq t (l.map i6),.aq u (m.map i6),.func 491 [.ro s [.aq v (Yx g M)]]]=some [.bool (wM (λa b=>iY M a.2 b.2) l m)]:=by
 refine aw a489 rfl rfl ?_;simp only[F489,LJ];simp(disch:=omega)only[go_sem];refine Br.aJ (λh=>?_) (λh=>?_)<;>simp(disch:=omega)only[go_sem]
 .refine W.find (l.zip m) (λq=>!iY M q.1.2 q.2.2) (λk=>⟨[(1,.pv (.aq u (m.map i6))),(2,.pv (.func 491 [.ro s [.aq v (Yx g M)]])),(15,.pv (.aq t (l.map i6))),(16,.pv (.int .i64 l.length)),(17,.pv (.int .i64 k))],⟨[],[],[]⟩⟩) rfl (λk q hq hk hfd=>?_) (λhn=>?_)
  .obtain⟨h1,h2⟩:=jh hq;rw[dA (by omega)]at hk;have hc:=λs=>r491 s v na nb g q.1 q.2 M hM hn (ha _ (Wa h1)) (hb _ (Wa h2));unfold i6 at hc;simp(disch:=omega)only[go_sem];refine Br.aJ (λc=>?_) (λc=>(c (by omega)).elim);simp(disch:=omega)only[go_sem,h1,h2,Option.map_some,i6,hc];refine Br.of (λg=>?_) (λg=>?_)<;>simp(disch:=omega)only[go_sem]
   .exact bB.of (by rw[g];rfl) rfl
   .rw[wN (g:=λ(a b:Int×Int)=>iY M a.2 b.2) (hfd (by rw[g];rfl)).any]
  .have hz:(l.zip m).length=l.length:=dA (by omega);rw[hz];simp(disch:=omega)only[go_sem];rw[ru (g:=λ(a b:Int×Int)=>iY M a.2 b.2) (by omega) hn.any]
 .rw[p6 (λe=>h (by rw[e]))]
theorem zd (t:aH):(p5 t).length<=t.bc.length+2:=by
 unfold p5 oP;rw[Wz,Wz,Wg];split<;>split<;>simp<;>omega
def qT (M:List (List Bool))(p q:Nat):List (List Bool):=M.set p ((M.getD p []).set q false)
theorem B5 {na nb p q:Nat}{M:List (List Bool)}(h:mB na nb M)(hp:p<na):mB na nb (qT M p q) where
 len:=by unfold qT;rw[Xx];exact h.len
 row l hl:=by
  rcases XK hl with hl|rfl
  .exact h.row l hl
  .rw[Xx];have:M[p]?=some (M.getD p []):=by
    have:p<M.length:=by rw[h.len];exact hp
    simp[this]
   exact h.row _ (Wa this)
theorem FE {na nb p q p' q':Nat}{M:List (List Bool)}(h:mB na nb M)(hp:p<na)(hq:q<nb):iY (qT M p q) p' q'=if p=p'/\q=q' then false else iY M p' q':=by
 have hl:p<M.length:=by rw[h.len];exact hp
 have hr:(M.getD p []).length=nb:=h.row _ (by
  have:M[p]?=some (M.getD p []):=by simp[hl]
  exact Wa this)
 unfold iY qT;simp only[Int.toNat_natCast,List.getD_eq_getElem?_getD,List.getElem?_set];by_cases e:p=p'
 .subst e;simp only[List.getD_eq_getElem?_getD]at hr;by_cases e2:q=q'
  .subst e2;simp only[hl,if_true,List.getElem?_eq_getElem,Option.getD_some,if_pos,and_self];rw[afz,if_pos rfl];split<;>rfl
  .simp[hl,e2]
 .simp[e]
abbrev Rel:=List (List Bool)->Nat->Nat->Bool
def FF (R:Rel)(p:Nat)(s:List (List Bool)×Bool)(q:Nat):List (List Bool)×Bool:=if (iY s.1 p q&&!R s.1 p q)=true then (qT s.1 p q,true) else s
def FH (R:Rel)(nb:Nat)(s:List (List Bool)×Bool)(p:Nat):List (List Bool)×Bool:=(List.range nb).foldl (FF R p) s
def GD (R:Rel)(na nb:Nat)(s:List (List Bool)×Bool):List (List Bool)×Bool:=(List.range na).foldl (FH R nb) s
def wP (R:Rel)(na nb:Nat):Nat->List (List Bool)->List (List Bool)
 |0,M=>M
 |n+1,M=>if (GD R na nb (M,false)).2=true then wP R na nb n (GD R na nb (M,false)).1 else (GD R na nb (M,false)).1
def wQ (M:List (List Bool)):Nat:=(M.map λr=>r.countP id).sum
theorem HS {r:List Bool}{q:Nat}(h:r.getD q false=true):(r.set q false).countP id+1=r.countP id:=by
 induction r generalizing q with
 |nil=>simp at h
 |cons b r ih=>
  cases q with
  |zero=>
   have hb:b=true:=by simpa using h
   subst hb;simp
  |succ q=>
   have:=ih (q:=q) (by simpa using h);rw[List.set_cons_succ,List.countP_cons,List.countP_cons];omega
theorem HT {M:List (List Bool)}{p q:Nat}(h:iY M p q=true):wQ (qT M p q)+1=wQ M:=by
 unfold iY at h;simp only[Int.toNat_natCast]at h;unfold wQ qT
 induction M generalizing p with
 |nil=>simp at h
 |cons r M ih=>
  cases p with
  |zero=>
   have h:r.getD q false=true:=by simpa using h
   have:=HS h;simp only[List.getD_cons_zero,List.set_cons_zero,List.map_cons,List.sum_cons];omega
  |succ p=>
   have:=ih (p:=p) (by simpa using h);simp only[List.getD_cons_succ,List.set_cons_succ,List.map_cons,List.sum_cons];omega
def Steps (s t:List (List Bool)×Bool):Prop:=t=s\/(t.2=true/\wQ t.1<wQ s.1)
theorem Steps.trans {s t u:List (List Bool)×Bool}(h:Steps s t)(g:Steps t u):Steps s u:=by
 rcases g with rfl|⟨g1,g2⟩
 .exact h
 .rcases h with rfl|⟨_,h2⟩
  .exact .inr ⟨g1,g2⟩
  .exact .inr ⟨g1,by omega⟩
theorem Dk (R:Rel)(p:Nat)(s:List (List Bool)×Bool)(q:Nat):Steps s (FF R p s q):=by
 unfold FF;split
 .rename_i h;rw[XX]at h;have:=HT h.1;exact .inr ⟨rfl,by dsimp only;omega⟩
 .exact .inl rfl
theorem FI {α:Type}{f:List (List Bool)×Bool->α->List (List Bool)×Bool}(h:∀s a,Steps s (f s a)):∀(l:List α)(s:List (List Bool)×Bool),Steps s (l.foldl f s)
 |[],_=>.inl rfl
 |a::l,s=>(h s a).trans (FI h l _)
theorem AZ (R:Rel)(nb:Nat)(s:List (List Bool)×Bool)(p:Nat):Steps s (FH R nb s p):=FI (Dk R p) _ _
theorem vu (R:Rel)(na nb:Nat)(s:List (List Bool)×Bool):Steps s (GD R na nb s):=FI (λs p=>AZ R nb s p) _ _
theorem qE (R:Rel)(na nb:Nat):∀(n m:Nat)(M:List (List Bool)),wQ M<n->wQ M<m->wP R na nb n M=wP R na nb m M
 |0,_,_,h,_=>absurd h (Xo _)
 |_+1,0,_,_,h=>absurd h (Xo _)
 |n+1,m+1,M,h,g=>by
  unfold wP;split
  .rename_i hf;rcases vu R na nb (M,false)with e|⟨_,e⟩
   .rw[e]at hf;cases hf
   .dsimp only at e;exact qE R na nb n m _ (by omega) (by omega)
  .rfl
def Ys (R:Rel)(na nb:Nat)(M:List (List Bool)):List (List Bool):=wP R na nb (wQ M+1) M
def MI (G:List (List Bool))(R:Rel)(na nb:Nat)(s:List (List Bool)×Bool):Prop:=mB na nb s.1/\if s.2=true then Ys R na nb s.1=G else s.1=G
def FJ (s:List (List Bool)×Bool):Nat:=if s.2=true then wQ s.1+1 else 0
theorem FK {G:List (List Bool)}{R:Rel}{na nb:Nat}{M:List (List Bool)}(h:MI G R na nb (M,true))(hk:mB na nb (GD R na nb (M,false)).1):MI G R na nb (GD R na nb (M,false))/\FJ (GD R na nb (M,false))<FJ (M,true):=by
 have h2:Ys R na nb M=G:=h.2;unfold Ys wP at h2;rcases vu R na nb (M,false)with e|⟨hf,e⟩
 .rw[e]at h2 |-;rw[if_neg (by simp)]at h2;exact⟨⟨h.1,by rw[if_neg (by simp)];exact h2⟩,by unfold FJ;rw[if_neg (by simp),if_pos rfl];omega⟩
 .dsimp only at e;rw[if_pos hf]at h2;refine⟨⟨hk,?_⟩,?_⟩
  .rw[if_pos hf];unfold Ys;rw[<- h2];exact qE R na nb _ _ _ (by omega) (by omega)
  .unfold FJ;rw[if_pos hf,if_pos rfl];dsimp only;omega
theorem FL {R:Rel}{na nb p q:Nat}{s:List (List Bool)×Bool}(h:mB na nb s.1)(hp:p<na):mB na nb (FF R p s q).1:=by
 unfold FF;split
 .exact B5 h hp
 .exact h
theorem foldI {α β:Type}{f:β->α->β}{P:β->Prop}:∀(l:List α)(s:β),P s->(∀s a,a∈l->P s->P (f s a))->P (l.foldl f s)
 |[],_,h,_=>h
 |a::l,s,h,g=>foldI l _ (g s a WH h) λs b hb=>g s b (W3 _ hb)
theorem HU {R:Rel}{na nb p:Nat}{s:List (List Bool)×Bool}(h:mB na nb s.1)(hp:p<na):mB na nb (FH R nb s p).1:=foldI (P:=λs=>mB na nb s.1) _ s h λ_ _ _ h=>FL h hp
theorem MJ {R:Rel}{na nb:Nat}{s:List (List Bool)×Bool}(h:mB na nb s.1):mB na nb (GD R na nb s).1:=foldI (P:=λs=>mB na nb s.1) _ s h λ_ _ hp h=>HU h (WJ.1 hp)
theorem vw {R:Rel}{na nb:Nat}{P:List (List Bool)->Prop}(h:∀M p q,p<na->q<nb->P M->iY M p q=true->R M p q=false->P (qT M p q)):∀(n:Nat)(M:List (List Bool)),P M->P (wP R na nb n M)
 |0,_,hM=>hM
 |n+1,M,hM=>by
  have hs:P (GD R na nb (M,false)).1:=foldI (P:=λ(s:List (List Bool)×Bool)=>P s.1) _ _ hM λs p hp hs=>foldI (P:=λ(s:List (List Bool)×Bool)=>P s.1) _ _ hs λs q hq hs=>by
   unfold FF;split
   .rename_i hc;rw[XX]at hc;exact h _ p q (List.mem_range.1 hp) (List.mem_range.1 hq) hs hc.1 (by simpa using hc.2)
   .exact hs
  unfold wP;split
  .exact vw h n _ hs
  .exact hs
theorem HV {R:Rel}{na nb n:Nat}{M:List (List Bool)}(h:mB na nb M):mB na nb (wP R na nb n M):=vw (P:=mB na nb) (λ_ _ _ hp _ h _ _=>B5 h hp) n M h
theorem HW {R:Rel}{na nb:Nat}{M:List (List Bool)}(h:mB na nb M):mB na nb (Ys R na nb M):=HV h
theorem Zc {R:Rel}{na nb:Nat}{M:List (List Bool)}{S:Nat->Nat->Prop}(hM:mB na nb M)(h0:∀p q,S p q->iY M p q=true)(h:∀M p q,(∀p q,S p q->iY M p q=true)->S p q->R M p q=true):∀p q,S p q->iY (Ys R na nb M) p q=true:=
 (vw (P:=λM=>mB na nb M/\∀p q,S p q->iY M p q=true) (λM p q hp hq hS _ hr=>⟨B5 hS.1 hp,λp' q' hs=>by
  rw[FE hS.1 hp hq];by_cases e:p=p'/\q=q'
  .obtain⟨rfl,rfl⟩:=e;have:=h M p q hS.2 hs;rw[hr]at this;cases this
  .rw[if_neg e];exact hS.2 p' q' hs⟩) _ M ⟨hM,h0⟩).2
theorem A2 {α β:Type}{f:α->β}{y:β}{l:List α}{k i:Nat}{x:α}(hi:i<k)(hx:l[i]?=some x):(fM f y l k)[i]?=some (f x):=by
 unfold fM;have hl:=(V9.1 hx).1;rw[List.getElem?_append_left (by simp;omega),List.getElem?_map,List.getElem?_take,if_pos hi,hx];rfl
def aV (es:List Edge)(s:Int):List Edge:=es.filter λe=>e.fr==s
theorem lK (es:List Edge)(s:Int):(aV es s).length<=es.length:=XW _ _
def I6 (a b:List Edge)(p q:Int):Option Edge:=(aV a p).find? λe=>!(cO q e.send e.label b).isSome
def UW (M:List (List Int))(p q:Int):Int:=(M.getD p.toNat []).getD q.toNat 0
def R5 (b:List Edge)(M:List (List Int))(q k:Int)(e:Edge):Bool:=match cO q e.send e.label b with
 |some n=>decide (UW M e.to n=k)
 |none=>false
def R6 (a b:List Edge)(M:List (List Int))(p q k:Int):Option Edge:=(aV a p).find? (R5 b M q k)
def VM (a b:List Edge)(p q:Int):Bool:=(I6 a b p q).isSome||(I6 b a q p).isSome
def VN (c:Bool):Int:=if c=true then 1 else 0
def VO (a b:List Edge)(nb p q:Nat):List Int:=fM (λ(q:Nat)=>VN (VM a b p q)) 0 (List.range nb) q
def R7 (a b:List Edge)(nb m:Nat):List (List Int):=(List.range m).map λp=>VO a b nb p nb
def UX (M:List (List Int))(p q:Nat)(v:Int):List (List Int):=M.set p ((M.getD p []).set q v)
def R8 (a b:List Edge)(k:Int)(p:Nat)(M:List (List Int))(q:Nat):List (List Int):=if (R6 a b M p q k).isSome=true/\UW M p q=0 then UX M p q (k+1) else M
def UY (a b:List Edge)(nb:Nat)(k:Int)(M:List (List Int))(p:Nat):List (List Int):=(List.range nb).foldl (R8 a b k p) M
def MK (a b:List Edge)(na nb:Nat)(k:Int)(M:List (List Int)):List (List Int):=(List.range na).foldl (UY a b nb k) M
def R9 (a b:List Edge)(na nb:Nat):Nat->List (List Int)
 |0=>R7 a b nb na
 |j+1=>MK a b na nb ((j+1:Nat):Int) (R9 a b na nb j)
def differ (a b:aP):List (List Int):=R9 a.af b.af a.aj.toNat b.aj.toNat (a.aj.toNat*b.aj.toNat)
def lL (w nb p:Nat):V:=.own (p+1) w 0 nb
def vz (w na nb m:Nat):List V:=fM (lL w nb) (.tl []) (List.range na) m
theorem mc {w na nb m:Nat}(h:m<=na):(vz w na nb m).length=na:=by
 have:=AM (lL w nb) (.tl []) (List.range na) (k:=m) (by simpa using h);rw[WI]at this;exact this
theorem FM (w na nb:Nat):vz w na nb 0=List.replicate na (.tl []):=by
 unfold vz;rw[y5,WI]
theorem HX {w na nb m:Nat}(h:m<na):(vz w na nb m).set m (.own (m+1) w 0 nb)=vz w na nb (m+1):=AO (f:=lL w nb) (Xr h)
theorem HY {w na nb m i:Nat}(h:i<m)(hm:m<=na):(vz w na nb m)[i]?=some (.own (i+1) w 0 nb):=A2 (f:=lL w nb) h (Xr (by omega))
theorem HZ (w na nb:Nat):vz w na nb na=(List.range na).map (lL w nb):=by
 have:=AN (lL w nb) (.tl []) (List.range na);rw[WI]at this;exact this
def qU (w:Nat)(M:List (List Bool)):List aL:=M.map λr=>⟨w,1,.inl (bX r)⟩
@[go_sem] theorem H0 (w:Nat)(M:List (List Bool)):(qU w M).length=M.length:=by simp[qU]
@[go_sem] theorem B6 (w:Nat)(M:List (List Bool))(i:Nat):(qU w M)[i]?=M[i]?.map λr=>⟨w,1,.inl (bX r)⟩:=by
 unfold qU;rw[Wf]
@[go_sem] theorem Tw (w:Nat)(M:List (List Bool))(i:Nat)(r:List Bool):(qU w M).set i ⟨w,1,.inl (bX r)⟩=qU w (M.set i r):=by simp[qU,List.map_set]
@[go_sem] theorem FN (w:Nat)(M:List (List Bool))(r:List Bool):qU w M++[⟨w,1,.inl (bX r)⟩]=qU w (M++[r]):=by simp[qU]
theorem vA {α:Type}{w na nb:Nat}{M:List (List Bool)}(hM:mB na nb M)(f:V->Option α)(g:List Bool->α)(hf:∀p r,M[p]?=some r->f (.own (p+1) w 0 nb)=some (g r)):ay (ay f) (cQ (vz w na nb na))=some (M.map λr=>[g r]):=by
 rw[HZ];have key:∀(k:Nat)(N:List (List Bool)),N.length=k->(∀p r,N[p]?=some r->f (.own (p+1) w 0 nb)=some (g r))->ay (ay f) (cQ ((List.range k).map (lL w nb)))=some (N.map λr=>[g r]):=by
  intro k
  induction k with
  |zero=>
   intro N hN _;have:N=[]:=Wp hN;subst this;rfl
  |succ k ih=>
   intro N hN hf;obtain⟨N',r,rfl⟩:∃N' r,N=N'++[r]:=⟨N.dropLast,N.getLast (by intro e;rw[e]at hN;simp at hN),(List.dropLast_concat_getLast _).symm⟩;have hl:N'.length=k:=by simpa using hN
   have h1:=ih N' hl λp r hr=>hf p r (by rw[We (V9.1 hr).1];exact hr);have h2:=hf k r (by rw[List.getElem?_append_right (by omega),hl];simp);have happ:∀(a b:List (List V))(ra rb:List (List α)),ay (ay f) a=some ra->ay (ay f) b=some rb->ay (ay f) (a++b)=some (ra++rb):=by
    intro a
    induction a with
    |nil=>intro b ra rb h1 h2;cases h1;exact h2
    |cons x a ih=>
     intro b ra rb h1 h2;simp only[ay]at h1;split at h1
     .rename_i y l' e1 e2;cases h1;simp only[List.cons_append,ay,e1,ih b l' rb e2 h2]
     .cases h1
   have h3:ay (ay f) (cQ [lL w nb k])=some [[g r]]:=by
    simp[cQ,ay,lL,h2]
   have h4:=happ _ _ _ _ h1 h3;rw[WC,Xq,WC];show ay (ay f) (cQ ((List.range k).map (lL w nb)++[lL w nb k]))=_;unfold cQ at h4 |-;rw[WC];exact h4
 exact key na M hM.len hf
theorem Dl {w na nb:Nat}{M:List (List Bool)}(hM:mB na nb M)(bx:List (Nat×List V))(a0:aL)(d:Nat):ay (ay (aR ⟨bx,a0::qU w M,[]⟩ (d+1))) (cQ (vz w na nb na))=some (Yx (λ_=>1) M):=
 vA hM (aR ⟨bx,a0::qU w M,[]⟩ (d+1)) (λr=>PV.aq 1 (bX r)) λp r hr=>by
  have h1:=hM.row r (Wa hr);have h2:(bX r).take nb=bX r:=Wq (by rw[hV];omega);simp[aR,aB,B6,hr,az,h2]
theorem Dm {w na nb:Nat}{M:List (List Bool)}(hM:mB na nb M)(bx:List (Nat×List V))(a0:aL)(d:Nat):ay (ay (aY ⟨bx,a0::qU w M,[]⟩ (d+1))) (cQ (vz w na nb na))=some (Yx (λ_=>0) M):=
 vA hM (aY ⟨bx,a0::qU w M,[]⟩ (d+1)) (λr=>PV.aq 0 (bX r)) λp r hr=>by
  have h1:=hM.row r (Wa hr);have h2:(bX r).take nb=bX r:=Wq (by rw[hV];omega);simp[dS,aB,B6,hr,az,h2,bO]
noncomputable def lM (A B:List aH)(m:Nat):List (List Bool):=(A.take m).map λx=>B.map (ep x)
noncomputable def tp (A B:List aH):Rel:=λM p q=>HQ M (ji A p) (ji B q)
noncomputable def Dn (A B:List aH):List (List Bool):=Ys (tp A B) A.length B.length (lM A B A.length)
theorem wR (A B:List aH){m:Nat}(h:m<=A.length):mB m B.length (lM A B m):=⟨by simp[lM];omega,λl hl=>by
 obtain⟨x,_,rfl⟩:=Wk.1 hl;exact Wg _⟩
theorem Dp (A B:List aH){m:Nat}{x:aH}(h:A[m]?=some x):lM A B (m+1)=lM A B m++[B.map (ep x)]:=by
 unfold lM;rw[WL,h,WC];rfl
theorem oQ {A:List aH}{p:Nat}{x:aH}(h:A[p]?=some x):ji A p=x:=by
 have:=(V9.1 h).1;have h2:=uT (l:=A) (i:=p) (by omega) (by omega);rw[WX,h]at h2;exact(Option.some.inj h2).symm
theorem ZZ {A B:List aH}{p q:Nat}(hp:p<A.length)(hq:q<B.length):iY (lM A B A.length) p q=ep (ji A p) (ji B q):=by
 obtain⟨x,hx⟩:=get_some hp;obtain⟨y,hy⟩:=get_some hq;rw[oQ hx,oQ hy];unfold iY lM;simp[hx,hy]
def Below (A B:List aH)(M:List (List Bool)):Prop:=∀p q:Nat,iY M p q=true->ep (ji A p) (ji B q)=true
theorem A3 {A B:List aH}{p q:Nat}(h:iY (lM A B A.length) p q=true):ep (ji A p) (ji B q)=true:=by
 unfold iY lM at h;simp only[Int.toNat_natCast,List.take_length,List.getD_eq_getElem?_getD,List.getElem?_map]at h;cases hx:A[p]? with
 |none=>simp[hx]at h
 |some x=>
  rw[hx]at h;simp only[Option.map_some,Option.getD_some,List.getElem?_map]at h;cases hy:B[q]? with
  |none=>simp[hy]at h
  |some y=>
   rw[hy]at h;rw[oQ hx,oQ hy];exact h
theorem Below.set {A B:List aH}{na nb p q:Nat}{M:List (List Bool)}(h:Below A B M)(hM:mB na nb M)(hp:p<na)(hq:q<nb):Below A B (qT M p q):=λp' q' he=>by
 rw[FE hM hp hq]at he;split at he
 .cases he
 .exact h p' q' he
structure FO (A:List aH):Prop where
 ok:∀t∈A,t.ok
 short:∀t∈A,t.short
 len:A.length<=32
 kind:∀t∈A,t.kind<=9
 use:∀t∈A,UU A.length (p5 t)
theorem Dq {t:aH}{u:Int×Int}(h:u∈p5 t)(h9:1<=t.kind/\t.kind<=9):u.2∈cT t:=by
 unfold p5 oP at h;rcases WT.1 h with h|h
 .rcases WT.1 h with h|h
  .obtain⟨m,hm,rfl⟩:=Wk.1 h;exact yT hm
  .split at h
   .rename_i hk;simp only[List.mem_singleton]at h;subst h;unfold cT jF;simp[hk]
   .simp at h
 .split at h
  .rename_i hk;simp only[List.mem_singleton]at h;subst h;exact u7 (by omega)
  .simp at h
def Dr (w na nb m:Nat)(r:List Bool):List V:=(vz w na nb m).set m (dh (m+1) (bX r))
theorem FP {w na nb m:Nat}(h:m<na):Dr w na nb m []=vz w na nb m:=by
 unfold Dr;apply WW;intro i;by_cases e:m=i
 .subst e;rw[WU (by rw[mc (by omega)];exact h)];unfold vz fM;rw[List.getElem?_append_right (by simp;omega),List.getElem?_replicate,if_pos (by simp;omega)];rfl
 .rw[Xk e]
theorem FQ {na nb m:Nat}{r:List Bool}(h:m<na)(hr:r.length=nb+1):Dr nb na (nb+1) m r=vz nb na (nb+1) (m+1):=by
 rw[<- HX h];unfold Dr;cases r with
 |nil=>simp at hr
 |cons b r=>
  obtain rfl:r.length=nb:=by simpa using hr
  simp[bX,dh]
theorem FR {w:Nat}{M:List (List Bool)}{r:List Bool}(h:r.length=w+1):qU w M++cK 1 (bX r)=qU w (M++[r]):=by
 cases r with
 |nil=>simp at h
 |cons b r=>
  obtain rfl:r.length=w:=by simpa using h
  rw[<- FN];simp[bX,cK]
theorem H2 {w na nb m:Nat}{r:List Bool}(h:m<na):(Dr w na nb m r)[m]?=some (dh (m+1) (bX r)):=by
 unfold Dr;rw[WU (by rw[mc (by omega)];exact h)]
theorem H3 {w na nb m:Nat}{r r':List Bool}:(Dr w na nb m r).set m (dh (m+1) (bX r'))=Dr w na nb m r':=by
 unfold Dr;rw[List.set_set]
theorem H4 {w na nb m:Nat}{r:List Bool}(h:m<na):(Dr w na nb m r).length=na:=by
 unfold Dr;rw[Xx,mc (by omega)]
theorem H5 (n k:Nat)(rows:List (List PV))(r:List PV):(tM n k rows r).all=none:=by cases rows<;>rfl
theorem ML (n k:Nat)(rows:List (List PV))(r:List PV):(tM n k rows r).bx=none:=by cases rows<;>rfl
theorem MM (n k:Nat)(rows:List (List PV))(r:List PV):(tM n k rows r).mp=none:=by cases rows<;>rfl
theorem Ds (n k:Nat)(rows:List (List PV))(r:List PV):(tM n k rows r).mD=false:=by cases rows<;>rfl
theorem H6 {α:Type}(o:Option α)(eq:α->α->Bool):jk o none eq=true:=by cases o<;>rfl
set_option maxHeartbeats 16000000 in
theorem r478 (t u:Nat)(A0 B0:List aH)(hA:FO A0)(hB:FO B0)(hb0:1<=B0.length):res A aA 478 [.agg [.aq t (A0.map aH.c)],.agg [.aq u (B0.map aH.c)],.bool false]=some [.aq 0 (Yx (λ_=>0) (Dn A0 B0))]:=by
 have la:=hA.len;have lb:=hB.len;obtain⟨G,hG⟩:∃G,Dn A0 B0=G:=⟨_,rfl⟩;obtain⟨w,hw⟩:∃w,B0.length=w+1:=⟨B0.length - 1,by omega⟩;rw[hG];refine aw a478 rfl rfl ?_;simp only[F478,LC];simp(disch:=omega)only[go_sem];refine W.fv A0.length (λm=>⟨[(2,.pv (.bool false)),(3,.ptr 3 0),(4,.ptr 4 0),(7,.ptr 7 0),(22,.pv (.aq t (A0.map aH.c))),(23,.pv (.int .i64 A0.length)),(24,.pv (.int .i64 m))],⟨[(3,[.pv (.aq t (A0.map aH.c))]),(4,[.pv (.aq u (B0.map aH.c))]),(7,[.own 0 0 0 A0.length])],⟨0,1,.inr (cQ (vz w A0.length B0.length m))⟩::qU w (lM A0 B0 m),[]⟩⟩) (λ_=>True) (by rw[FM];rfl) trivial λm hm _=>?_;have hxl:=mc (w:=w) (nb:=B0.length) hm;have hbl:=(wR A0 B0 hm).len;simp(disch:=omega)only[go_sem];refine Br.aJ (λh=>?_) (λh=>?_)
 .obtain⟨x,hx⟩:=get_some (l:=A0) (k:=m) (by omega);simp(disch:=omega)only[go_sem,hx,Option.map_some,aH.c];refine W.fv B0.length (λq=>⟨[(2,.pv (.bool false)),(3,.ptr 3 0),(4,.ptr 4 0),(7,.ptr 7 0),(8,.pv (.int .i64 m)),(9,.ptr 9 0),(22,.pv (.aq t (A0.map aH.c))),(23,.pv (.int .i64 A0.length)),(24,.pv (.int .i64 m)),(30,.pv (.aq u (B0.map aH.c))),(31,.pv (.int .i64 B0.length)),(32,.pv (.int .i64 q))],⟨[(3,[.pv (.aq t (A0.map aH.c))]),(4,[.pv (.aq u (B0.map aH.c))]),(7,[.own 0 0 0 A0.length]),(9,x.c.map .pv)],⟨0,1,.inr (cQ (Dr w A0.length B0.length m ((B0.take q).map (ep x))))⟩::(qU w (lM A0 B0 m)++cK 1 (bX ((B0.take q).map (ep x)))),[]⟩⟩) (λ_=>True) ?_ trivial λq hq _=>?_
  .rw[List.take_zero,List.map_nil,FP (by omega)];simp[bX,cK,aH.c]
  obtain⟨row,hrow⟩:∃row,(B0.take q).map (ep x)=row:=⟨_,rfl⟩;have hrl:row.length=q:=by rw[<- hrow,Wg,W8];omega
  rw[hrow];simp(disch:=omega)only[go_sem];refine Br.aJ (λh=>?_) (λh=>?_)
  .obtain⟨y,hy⟩:=get_some (l:=B0) (k:=q) (by omega);have h488:=r488 x y (hA.ok x (Wa hx)) (hB.ok y (Wa hy));have hnx:(B0.take (q+1)).map (ep x)=row++[ep x y]:=by
    rw[WL,hy,WC,hrow];rfl
   generalize ep x y=e at h488 hnx;have hxg:=H2 (w:=w) (na:=A0.length) (nb:=B0.length) (m:=m) (r:=row) (by omega);have hxl':=H4 (w:=w) (na:=A0.length) (nb:=B0.length) (m:=m) (r:=row) (by omega);have hxs:=H3 (w:=w) (na:=A0.length) (nb:=B0.length) (m:=m) (r:=row) (r':=row++[e]);have hg:=λbx mp (a:aL)=>grow bx mp (a::qU w (lM A0 B0 m)) 1 (bX row) [.bool e] rfl (by rw[hV];omega);have hga:=λbx mp (a:aL)=>ik bx mp (a::qU w (lM A0 B0 m)) 1 (bX row) [.bool e];simp only[List.length_cons,H0,hbl,List.cons_append]at hg hga;have hsn:bX row++[[PV.bool e]]=bX (row++[e]):=by simp[bX]
   rw[hsn]at hg hga;have hst:=y6 (id:=0) (row:=m) (ax:=0) (xs:=Dr w A0.length B0.length m row) (y:=dh (m+1) (bX (row++[e]))) (by omega) (Hq _ _);rw[hxs]at hst;unfold aH.c at h488;simp(disch:=omega)only[go_sem,hst,hy,Option.map_some,aH.c,h488,hxg,List.map_cons,List.map_nil,hg,hga,H5,ML,MM,Ds,H6,Option.isNone_none,Option.map_none,Bool.not_false,Bool.and_true];refine .of (by omega) ?_ trivial;show _=St.mk _ _;rw[hnx];rfl
  .obtain rfl:q=B0.length:=by omega
   rw[WV]at hrow;have hf:=FQ (na:=A0.length) (nb:=w) (m:=m) (r:=row) (by omega) (by omega);rw[<- hw]at hf;have hba:=FR (w:=w) (M:=lM A0 B0 m) (r:=row) (by omega);simp(disch:=omega)only[go_sem];refine .of (by omega) ?_ trivial;show _=St.mk _ _;rw[Dp _ _ hx,hrow,hba,hf];rfl
 .obtain rfl:m=A0.length:=by omega
  clear h hxl hbl;simp(disch:=omega)only[go_sem];generalize hna:A0.length=na at *;generalize hnb:B0.length=nb at *;have hM0:mB na nb (lM A0 B0 na):=by
   have:=wR A0 B0 (Wj _);rw[hna,hnb]at this;exact this
  have hB0:Below A0 B0 (lM A0 B0 na):=λp q he=>by
   rw[<- hna]at he;exact A3 he
  have hG':Ys (tp A0 B0) na nb (lM A0 B0 na)=G:=by
   rw[<- hG,<- hna,<- hnb];rfl
  have hrt:(cQ (vz w na nb na)).take na=cQ (vz w na nb na):=Wq (by rw[C8,mc (Wj _)];exact Wj _);have hxl:=mc (w:=w) (na:=na) (nb:=nb) (Wj _);refine W.BZ (λ(s:List (List Bool)×Bool)=>⟨[(3,.ptr 3 0),(4,.ptr 4 0),(7,.ptr 7 0),(12,.pv (.bool s.2))],⟨[(3,[.pv (.aq t (A0.map aH.c))]),(4,[.pv (.aq u (B0.map aH.c))]),(7,[.own 0 0 0 na])],⟨0,1,.inr (cQ (vz w na nb na))⟩::qU w s.1,[]⟩⟩) (λs=>MI G (tp A0 B0) na nb s/\Below A0 B0 s.1) FJ (lM A0 B0 na,true) rfl ⟨⟨hM0,hG'⟩,hB0⟩ λs hs=>?_;obtain⟨M,f⟩:=s;obtain⟨hs,hb⟩:=hs;dsimp only at hb;cases f with
  |false=>
   have hkp:=Dm (w:=w) hs.1;have hMG:M=G:=hs.2;subst hMG;simp(disch:=omega)only[go_sem,hrt,hkp]
  |true=>
   have hM:=hs.1;dsimp only at hM;simp(disch:=omega)only[go_sem];refine W.IY na (FH (tp A0 B0) nb) (M,false) (λp s=>⟨[(3,.ptr 3 0),(4,.ptr 4 0),(7,.ptr 7 0),(12,.pv (.bool s.2)),(53,.pv (.aq t (A0.map aH.c))),(54,.pv (.int .i64 na)),(55,.pv (.int .i64 p))],⟨[(3,[.pv (.aq t (A0.map aH.c))]),(4,[.pv (.aq u (B0.map aH.c))]),(7,[.own 0 0 0 na])],⟨0,1,.inr (cQ (vz w na nb na))⟩::qU w s.1,[]⟩⟩) (λ_ s=>mB na nb s.1/\Below A0 B0 s.1) (by simp only[hna];rfl) ⟨hM,hb⟩ (λp s hp _ hi=>?_) (λs hse hi=>?_)
   .obtain⟨x,hx⟩:=get_some (l:=A0) (k:=p) (by omega);have hxm:=Wa hx;have h490:=r490 x (hA.short x hxm) (hA.kind x hxm);unfold aH.c at h490;simp(disch:=omega)only[go_sem];refine Br.aJ (λh=>?_) (λh=>(h (by omega)).elim);simp(disch:=omega)only[go_sem,hx,Option.map_some,aH.c];refine W.IY nb (FF (tp A0 B0) p) s (λq s=>⟨[(3,.ptr 3 0),(4,.ptr 4 0),(7,.ptr 7 0),(12,.pv (.bool s.2)),(13,.pv (.int .i64 p)),(14,.ptr 14 0),(53,.pv (.aq t (A0.map aH.c))),(54,.pv (.int .i64 na)),(55,.pv (.int .i64 p)),(61,.pv (.aq u (B0.map aH.c))),(62,.pv (.int .i64 nb)),(63,.pv (.int .i64 q))],⟨[(3,[.pv (.aq t (A0.map aH.c))]),(4,[.pv (.aq u (B0.map aH.c))]),(7,[.own 0 0 0 na]),(14,x.c.map .pv)],⟨0,1,.inr (cQ (vz w na nb na))⟩::qU w s.1,[]⟩⟩) (λ_ s=>mB na nb s.1/\Below A0 B0 s.1) (by simp only[hnb];rfl) hi (λq s hq _ hi=>?_) (λs hse hi=>?_)
    .obtain⟨N,f⟩:=s;obtain⟨hN,hNb⟩:=hi;dsimp only at hN hNb;obtain⟨l,e1,e2,e3⟩:=hN.get (p:=(p:Int)) (q:=(q:Int)) (by omega) (by omega);rw[WX]at e1 e3;obtain⟨y,hy⟩:=get_some (l:=B0) (k:=q) (by omega);have hym:=Wa hy;have h490':=r490 y (hB.short y hym) (hB.kind y hym);unfold aH.c at h490';have hld:=Dl (w:=w) hN;have hxg:=HY (w:=w) (na:=na) (nb:=nb) (m:=na) (i:=p) (by omega) (by omega);have hset:qU w (N.set p (l.set q false))=qU w (qT N p q):=by
      unfold qT;rw[Ws,e1];rfl
     have hst:FF (tp A0 B0) p (N,f) q=if (iY N p q&&!HQ N x y)=true then (qT N p q,true) else (N,f):=by
      unfold FF tp;rw[oQ hx,oQ hy]
     have hin:mB na nb (FF (tp A0 B0) p (N,f) q).1/\Below A0 B0 (FF (tp A0 B0) p (N,f) q).1:=by
      refine⟨FL hN hp,?_⟩;rw[hst];split
      .exact hNb.set hN hp hq
      .exact hNb
     have hul:=zd x;have hxs:=(hA.short x hxm).bc;have hul':=zd y;have hys:=(hB.short y hym).bc;have h489:=λt u s v=>r489 t u s v na nb (λ_=>1) (p5 x) (p5 y) N hN (by omega) (hna ▸ hA.use x hxm) (hnb ▸ hB.use y hym) (by omega) (by omega);have hrel:HQ N x y=wM (λu v=>iY N u.2 v.2) (p5 x) (p5 y):=rfl;rw[<- hrel]at h489;generalize HQ N x y=r at h489 hst;simp(disch:=omega)only[go_sem,hxg,e1];refine Br.aJ (λh=>?_) (λh=>(h (by omega)).elim);simp(disch:=omega)only[go_sem,hy,Option.map_some,aH.c];cases he:iY N p q with
     |false=>
      rw[he]at e3 hst;rw[if_neg (by simp)]at hst;simp(disch:=omega)only[go_sem,hxg,e1,e3];rw[hst]at hin |-;exact cW.of rfl hin
     |true=>
      rw[he]at e3 hst;rw[WZ]at hst;simp(disch:=omega)only[go_sem,hxg,e1,e3,hrt,hld,h490,h490',h489];cases r with
      |true=>
       rw[if_neg (by simp)]at hst;simp(disch:=omega)only[go_sem];rw[hst]at hin |-;exact cW.of rfl hin
      |false=>
       rw[if_pos (by simp)]at hst;simp(disch:=omega)only[go_sem,hxg,e1,hset];rw[hst]at hin |-;exact cW.of rfl hin
    .have hr:FH (tp A0 B0) nb _ p=s:=hse.symm;simp(disch:=omega)only[go_sem];rw[hr];exact cW.of rfl hi
   .have hr:GD (tp A0 B0) na nb (M,false)=s:=hse.symm;have hk:=FK hs (MJ hs.1);rw[hr]at hk;simp(disch:=omega)only[go_sem];exact⟨s,⟨hk.1,hi.2⟩,hk.2,rfl⟩
theorem H7 {p:aH}(h:dO p=true):1<=p.kind:=by
 unfold dO at h;simp only[Bool.and_eq_true,decide_eq_true_eq]at h;exact h.1.1
structure VT (A:List aH):Prop where
 l:A.length<=2147483648
 o:∀t∈A,t.ok
 s:∀t∈A,t.short
 v:cS A=0
theorem VT.vW {A:List aH}(h:VT A):FO A:=by
 have hs:=eZ h.v;exact⟨h.o,h.s,hs.len,λt ht=>yx (hs.own t ht),λt ht u hu=>hs.Np t ht _ (Dq hu ⟨H7 (hs.own t ht),yx (hs.own t ht)⟩)⟩
theorem r477 (t:Nat)(A0:List aH)(x:Int)(h:VT A0)(hx:0<=x/\x<A0.length):res A aA 477 [.agg [.aq t (A0.map aH.c),.int .i64 x]]=some [.int .i64 0]:=by
 have h267:=λv=>r267 v A0 h.l h.o λt ht=>(h.s t ht).held;rw[h.v]at h267;have hl:=h.l;obtain⟨x0,x1⟩:=hx;have e1:decide (x<0)=false:=decide_eq_false (by omega);have e2:decide ((A0.length:Int)<=x)=false:=decide_eq_false (by omega);refine aw a477 rfl rfl ?_;simp only[F477,LB];simp(disch:=omega)only[go_sem,h267,e1,e2]
noncomputable def gG (A B:List aH)(x y:Int):Bool:=iY (Dn A B) x y
theorem B7 (A B:List aH):mB A.length B.length (Dn A B):=HW (wR A B (Wj _))
theorem r468 (t u:Nat)(A0 B0:List aH)(x y:Int)(hA:VT A0)(hB:VT B0)(hx:0<=x/\x<A0.length)(hy:0<=y/\y<B0.length):res A aA 468 [.agg [.aq t (A0.map aH.c),.int .i64 x],.agg [.aq u (B0.map aH.c),.int .i64 y],.bool false]=some [.bool (gG A0 B0 x y)]:=by
 have h1:=λt=>r477 t A0 x hA hx;have h2:=λt=>r477 t B0 y hB hy;have h3:=λt u=>r478 t u A0 B0 hA.vW hB.vW (by omega);obtain⟨l,g1,g2,g3⟩:=(B7 A0 B0).get hx hy;have g4:=(B7 A0 B0).len;have hw:iY (Dn A0 B0) x y=gG A0 B0 x y:=rfl;rw[hw]at g3;generalize gG A0 B0 x y=G at *;generalize Dn A0 B0=M at *;have hal:=hA.vW.len;have hbl:=hB.vW.len;obtain⟨x0,x1⟩:=hx;obtain⟨y0,y1⟩:=hy;refine aw a468 rfl rfl ?_;simp only[F468,Lv];simp(disch:=omega)only[go_sem,h1,h2,h3,gB,g1,g3]
theorem r456 (t u:Nat)(A0 B0:List aH)(x y:Int)(hA:VT A0)(hB:VT B0)(hx:0<=x/\x<A0.length)(hy:0<=y/\y<B0.length):res A aA 456 [.agg [.aq t (A0.map aH.c),.int .i64 x],.agg [.aq u (B0.map aH.c),.int .i64 y]]=some [.bool (gG A0 B0 x y)]:=by
 have h1:=λt u=>r468 t u A0 B0 x y hA hB hx hy;refine aw a456 rfl rfl ?_;simp only[F456,Lr];simp(disch:=omega)only[go_sem,h1]
def UZ (R:Int->Int->Prop):Option Int->Option Int->Prop
 |none,none=>True
 |some x,some y=>R x y
 |_,_=>False
def Ev (a b:List Edge):Nat->Int->Int->Prop
 |0,_,_=>True
 |j+1,p,q=>∀d x,UZ (Ev a b j) (cO p d x a) (cO q d x b)
theorem Ev.refl (a:List Edge):∀(j:Nat)(p:Int),Ev a a j p p
 |0,_=>trivial
 |j+1,p=>λd x=>by
  cases cO p d x a with
  |none=>trivial
  |some t=>exact Ev.refl a j t
theorem aP.Good.hJ {a:aP}(h:a.Good){p t:Int}{d:Bool}{x:Int}(hn:cO p d x a.af=some t):a.inr t:=by
 have:=fG.1 (h.fit _ ((sZ h.oV).1 hn));exact⟨this.2.2.1,this.2.2.2.1⟩
open Classical in
noncomputable def aq (a b:List Edge):Nat->Int->Int->Nat
 |0,_,_=>0
 |k+1,p,q=>if aq a b k p q≠0 then aq a b k p q else if Ev a b (k+1) p q then 0 else k+1
theorem zf {es:List Edge}{p:Int}{e:Edge}:e∈aV es p↔e∈es/\e.fr=p:=by simp[aV]
def Mv.lt (a b:Mv):Bool:=if a.send≠b.send then b.send else decide (a.label<b.label)
def MN (D:List (List Int))(n:Nat)(p:Nat):Nat:=((List.range n).find? λ(q:Nat)=>decide (UW D p q=0)).getD 0
def aP.H8 (a:aP):List Int:=(List.range a.aj.toNat).map λp=>(MN (differ a a) a.aj.toNat p:Int)
def aP.cl (a:aP)(v:Int):Int:=a.H8.getD v.toNat 0
end Go.Pv
