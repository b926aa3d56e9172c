/-
 What the functions of the law give.
-/
import Derived.Test.YtpchfogcccagjaaGreatC8
set_option linter.unusedSimpArgs false
set_option linter.unusedVariables false
open List renaming mem_of_getElem? → aaj, getElem?_eq_some_iff → aak, length_map → aam, getElem?_append_left → aao, getElem?_map → aap, mem_map → aaq, length_append → aas, getD_eq_getElem?_getD → aat, append_assoc → aay, mem_cons_of_mem → aaz, length_take → aaA, take_of_length_le → aaB, eq_nil_of_length_eq_zero → aaD, all_eq_true → aaF, getElem?_set_self → aaG, take_add_one → aaH, length_range → aaJ, getElem?_set_ne → aaL, mem_cons_self → aaN, take_length → aaQ, map_append → aaR, mem_range → aaV, any_eq_false → aaW, mem_append → aaY, ext_getElem? → aa0, mem_filterMap → aba, append_nil → abb, length_set → abe, any_eq_true → abg, getElem?_range → abk, range_succ → abA, filterMap_append → abT, length_filter_le → abU, map_cons → abV, mem_or_eq_of_mem_set → abX, getElem?_set → aca, length_cons → ach
open Nat renaming le_refl → aau, le_trans → aa5, not_lt_zero → abz
open Option renaming map_eq_some_iff → aaT, bind_eq_some_iff → ab6
open Int renaming toNat_natCast → aaU, le_refl → abP, emod_nonneg → ab8
open Bool renaming eq_iff_iff → aa4, true_and → aa8, eq_false_iff → abp, and_eq_true → abE, false_and → abG, and_false → ace
namespace Go.Pv
def ib (c:UInt8)(k:Nat):ByteArray:=⟨#[c]⟩++Utf8.encode (97+(k:Int))
theorem yr {k:Nat}(h:k<3):(Utf8.encode (97+(k:Int))).size=1:=by
 have:∀k:Fin 3,(Utf8.encode (97+((k.val:Nat):Int))).size=1:=by decide
 exact this ⟨k,h⟩
theorem oA {c:UInt8}{k:Nat}(h:k<3):da .add (.pv (.str ⟨#[c]⟩)) (.pv (.str (Utf8.encode (97+(k:Int)))))=some (.pv (.str (ib c k))):=by
 have h1:(⟨#[c]⟩:ByteArray).size=1:=rfl;have h2:(1:Nat)+1<=1099511627776:=by omega
 simp only[da,mQ,h1,yr h,h2,if_true,Option.map_some];rfl
structure yu where
 a:fq
 x:Int
 y:Int
 z:Int
def yu.c (s:yu):List PV:=[.int .u8 s.a.n,.ae 0 (s.a.jd.map yg.c),.int .u8 s.x,.int .u8 s.y,.int .u8 s.z]
def yu.ok (s:yu):Prop:=s.a.ok/\(0<=s.x/\s.x<=255)/\(0<=s.y/\s.y<=255)/\0<=s.z/\s.z<=255
def et (T:List aB)(k:Nat):List Int:=((List.range k).filter λ(i:Nat)=>!decide ((bf T i).name=⟨#[]⟩)).map λ(i:Nat)=>(i:Int)
def ic (N:List Int)(x:Int):Int:=N.getD (x%N.length).toNat 0
def fu (N:List Int)(s:yu):List eU:=[⟨1,ib 77 0,ic N s.x⟩,⟨2,ib 77 1,ic N s.y⟩,⟨3,ib 77 2,ic N s.z⟩]
def wO (T:List aB)(nm:ByteArray)(s:yu):Option dt:=if (s.a.jd.length:Int)<=12/\et T T.length≠[] then some ⟨nm,fu (et T T.length) s,s.a.auto.trim⟩ else none
theorem BV (T:List aB)(k:Nat):et T (k+1)=if (bf T (k:Int)).name=⟨#[]⟩ then et T k else et T k++[(k:Int)]:=by
 unfold et;rw[abA,List.filter_append];by_cases h:(bf T (k:Int)).name=⟨#[]⟩
 .rw[if_pos h];simp[h]
 .rw[if_neg h];simp[h]
theorem wh (T:List aB)(k:Nat):(et T k).length<=k:=by
 unfold et;rw[aam];have:=abU (λ(i:Nat)=>!decide ((bf T i).name=⟨#[]⟩)) (List.range k);rw[aaJ]at this;exact this
theorem yw {N:List Int}(h:N≠[])(x:Int):(0<=x%N.length/\x%N.length<N.length)/\N[(x%N.length).toNat]?=some (ic N x):=by
 have hl:0<N.length:=List.length_pos_iff.2 h;have h0:0<=x%(N.length:Int):=ab8 _ (by omega);have h1:x%(N.length:Int)<N.length:=Int.emod_lt_of_pos _ (by omega);refine⟨⟨h0,h1⟩,?_⟩;unfold ic;rw[aat];obtain⟨y,hy⟩:=get_some (l:=N) (k:=(x%(N.length:Int)).toNat) (by omega);rw[hy];rfl
set_option maxHeartbeats 4000000 in
theorem r453 (t u:Nat)(T:List aB)(nm:ByteArray)(s:yu)(hs:s.ok)(hT:T.length<=100):res A ay 453 [.agg [.ae t (T.map aB.c)],.str nm,.agg [.int .u8 s.a.n,.ae u (s.a.jd.map yg.c),.int .u8 s.x,.int .u8 s.y,.int .u8 s.z]]=some (match wO T nm s with|some w=>[.agg w.c,.bool true]|none=>[.agg [.str ⟨#[]⟩,.ae 0 [],.int .i64 0,.int .i64 0,.ae 0 []],.bool false]):=by
 obtain⟨hd,⟨x0,x1⟩,⟨y0,y1⟩,z0,z1⟩:=hs;have h25:=λt=>r25 t s.a hd;refine ai a453 rfl rfl ?_;simp only[F453,Pu];simp(disch:=omega)only[go_sem];refine W.dx T.length (λk=>⟨[(1,.pv (.str nm)),(3,.ptr 3 0),(5,.ptr 5 0),(6,.ptr 6 0),(8,dn 0 (ints (et T k))),(9,.pv (.int .i64 k))],⟨[(3,[.pv (.ae t (T.map aB.c))]),(5,[.pv (.int .u8 s.a.n),.pv (.ae u (s.a.jd.map yg.c)),.pv (.int .u8 s.x),.pv (.int .u8 s.y),.pv (.int .u8 s.z)]),(6,[.pv (.str ⟨#[]⟩),.tl [],.pv (.int .i64 0),.pv (.int .i64 0),.tl []])],cG 1 (ints (et T k)),[]⟩⟩) (λ_=>True) rfl trivial λk hk _=>?_;simp(disch:=omega)only[go_sem];refine Br.aF (λc=>?_) (λc=>?_)
 .have hx:=cC (l:=T) (i:=k) (by omega) (by omega);rw[aaU]at hx;have hsn:=BV T k;have hnl:=wh T k;have hg:=λbx mp=>grow bx mp [] 1 (ints (et T k)) [.int .i64 k] rfl (by rw[aN];omega);simp only[List.nil_append,List.length_nil]at hg;generalize bf T (k:Int)=y at *;cases hy:decide (y.name=⟨#[]⟩)with
  |true=>
   rw[if_pos (of_decide_eq_true hy)]at hsn;simp(disch:=omega)only[go_sem,hx,Option.map_some,aB.c,hy];refine .of (by omega) ?_ trivial;rw[hsn];rfl
  |false=>
   rw[if_neg (of_decide_eq_false hy)]at hsn;simp(disch:=omega)only[go_sem,hx,Option.map_some,aB.c,hy,hg];refine .of (by omega) ?_ trivial;rw[hsn];simp only[ints,List.map_append,List.map_cons,List.map_nil];rfl
 obtain rfl:k=T.length:=by omega
 have hnl:=wh T T.length;unfold wO;generalize et T T.length=N at *;have hst:=s.a.st;have hgood:=fq.wC hd (s:=0) ⟨abP _,by omega⟩;have hlen:=s.a.len hd;have hlt:=hgood.trim.len;have h33:=λt=>r33e t (1+s.a.n%4) 0 s.a.auto.aa (by omega);have hs2:nL Edge.lt (kept (⟨1+s.a.n%4,0,s.a.auto.aa⟩:aT).order s.a.auto.aa)=s.a.auto.trim.aa:=Bs Edge.IC Edge.ye (vV hgood.oI);rw[if_pos (aT.kj.2 hgood),hs2]at h33;have hstr:s.a.auto.trim.aj=(⟨1+s.a.n%4,0,s.a.auto.aa⟩:aT).order.length:=rfl;have hstt:s.a.auto.trim.start=0:=rfl;rw[<- hstr]at h33;cases hb:decide ((s.a.jd.length:Int)<=12)with
 |false=>
  rw[hb]at h25;rw[if_neg (λh=>of_decide_eq_false hb h.1)];simp(disch:=omega)only[go_sem,h25]
 |true=>
  rw[hb]at h25;cases N with
  |nil=>
   rw[if_neg (λh=>h.2 rfl)];have hz:decide (((0:Nat):Int)=0)=true:=rfl;simp(disch:=omega)only[go_sem,h25,hz]
  |cons q0 N=>
   rw[if_pos ⟨of_decide_eq_true hb,by simp⟩];have hz:decide (((N.length+1:Nat):Int)=0)=false:=decide_eq_false (by omega);have e0:(IntKind.wrap .i32 (97+((0:Nat):Int)))=97+((0:Nat):Int):=rfl;have e1:(IntKind.wrap .i32 (97+((1:Nat):Int)))=97+((1:Nat):Int):=rfl;have e2:(IntKind.wrap .i32 (97+((2:Nat):Int)))=97+((2:Nat):Int):=rfl;simp(disch:=omega)only[go_sem,h25,hz,h33];have hiN:=aN N;refine W.dx 3 (λk=>⟨[(5,.ptr 5 0),(6,.ptr 6 0),(8,.own 0 N.length 0 (N.length+1)),(12,.ptr 12 0),(13,.pv (.int .i64 k))],⟨[(5,[.pv (.int .u8 s.a.n),.pv (.ae u (s.a.jd.map yg.c)),.pv (.int .u8 s.x),.pv (.int .u8 s.y),.pv (.int .u8 s.z)]),(6,[.pv (.str ⟨#[]⟩),.tl [],.pv (.int .i64 0),.pv (.int .i64 0),.tl []]),(12,[.pv (.str nm),dn 1 (msgs ((fu (q0::N) s).take k)),.pv (.int .i64 s.a.auto.trim.aj),.pv (.int .i64 0),.pv (.ae 0 (bX s.a.auto.trim.aa))])],⟨N.length,1,.inl (ints (q0::N))⟩::cG 3 (msgs ((fu (q0::N) s).take k)),[]⟩⟩) (λ_=>True) (by rw[<- hiN];rfl) trivial λk hk _=>?_;simp(disch:=omega)only[go_sem];have p:=λx=>yw (N:=q0::N) (by simp) x;rw[ach]at p;have hnl2:N.length<=100:=by rw[ach]at hnl;omega
   have hA:∀X:List aL,(⟨N.length,1,.inl (ints (q0::N))⟩::X)[0]?=some ⟨N.length,1,.inl (ints (q0::N))⟩:=λX=>rfl;refine Br.aF (λc=>?_) (λc=>?_)
   .rcases(show k=0\/k=1\/k=2 by omega)with rfl|rfl|rfl
    .obtain⟨⟨p0,p1⟩,p2⟩:=p s.x;have hR:msgs ((fu (q0::N) s).take (0+1))=msgs ((fu (q0::N) s).take 0)++[[.int .i64 1,.str (ib 77 0),.int .i64 (ic (q0::N) s.x)]]:=rfl;have hRl:(msgs ((fu (q0::N) s).take 0)).length=0:=rfl;generalize msgs ((fu (q0::N) s).take 0)=rows at *;have hg:∀bx mp,aJ ⟨bx,⟨N.length,1,.inl (ints (q0::N))⟩::cG 3 rows,mp⟩ 3 (dn 1 rows) (.tl [[.int .i64 (((0:Nat):Int)+1),.str (ib 77 0),.int .i64 (ic (q0::N) s.x)]])=some (dn 1 (rows++[[.int .i64 (((0:Nat):Int)+1),.str (ib 77 0),.int .i64 (ic (q0::N) s.x)]]),uf 1 3 rows [.int .i64 (((0:Nat):Int)+1),.str (ib 77 0),.int .i64 (ic (q0::N) s.x)]):=λbx mp=>grow bx mp [⟨N.length,1,.inl (ints (q0::N))⟩] 3 rows _ rfl (by omega);simp(disch:=omega)only[go_sem,e0,oA,hA,p2,hg];refine .of (by omega) ?_ trivial;rw[hR];rfl
    .obtain⟨⟨p0,p1⟩,p2⟩:=p s.y;have hR:msgs ((fu (q0::N) s).take (1+1))=msgs ((fu (q0::N) s).take 1)++[[.int .i64 2,.str (ib 77 1),.int .i64 (ic (q0::N) s.y)]]:=rfl;have hRl:(msgs ((fu (q0::N) s).take 1)).length=1:=rfl;generalize msgs ((fu (q0::N) s).take 1)=rows at *;have hg:∀bx mp,aJ ⟨bx,⟨N.length,1,.inl (ints (q0::N))⟩::cG 3 rows,mp⟩ 3 (dn 1 rows) (.tl [[.int .i64 (((1:Nat):Int)+1),.str (ib 77 1),.int .i64 (ic (q0::N) s.y)]])=some (dn 1 (rows++[[.int .i64 (((1:Nat):Int)+1),.str (ib 77 1),.int .i64 (ic (q0::N) s.y)]]),uf 1 3 rows [.int .i64 (((1:Nat):Int)+1),.str (ib 77 1),.int .i64 (ic (q0::N) s.y)]):=λbx mp=>grow bx mp [⟨N.length,1,.inl (ints (q0::N))⟩] 3 rows _ rfl (by omega);simp(disch:=omega)only[go_sem,e1,oA,hA,p2,hg];refine .of (by omega) ?_ trivial;rw[hR];rfl
    .obtain⟨⟨p0,p1⟩,p2⟩:=p s.z;have hR:msgs ((fu (q0::N) s).take (2+1))=msgs ((fu (q0::N) s).take 2)++[[.int .i64 3,.str (ib 77 2),.int .i64 (ic (q0::N) s.z)]]:=rfl;have hRl:(msgs ((fu (q0::N) s).take 2)).length=2:=rfl;generalize msgs ((fu (q0::N) s).take 2)=rows at *;have hg:∀bx mp,aJ ⟨bx,⟨N.length,1,.inl (ints (q0::N))⟩::cG 3 rows,mp⟩ 3 (dn 1 rows) (.tl [[.int .i64 (((2:Nat):Int)+1),.str (ib 77 2),.int .i64 (ic (q0::N) s.z)]])=some (dn 1 (rows++[[.int .i64 (((2:Nat):Int)+1),.str (ib 77 2),.int .i64 (ic (q0::N) s.z)]]),uf 1 3 rows [.int .i64 (((2:Nat):Int)+1),.str (ib 77 2),.int .i64 (ic (q0::N) s.z)]):=λbx mp=>grow bx mp [⟨N.length,1,.inl (ints (q0::N))⟩] 3 rows _ rfl (by omega);simp(disch:=omega)only[go_sem,e2,oA,hA,p2,hg];refine .of (by omega) ?_ trivial;rw[hR];rfl
   .obtain rfl:k=3:=by omega
    simp(disch:=omega)only[go_sem];rfl
theorem I0 {k:Nat}(h:k<3):IntKind.wrap .i32 (97+(k:Int))=97+(k:Int):=by
 rcases(show k=0\/k=1\/k=2 by omega)with rfl|rfl|rfl<;>rfl
structure Gr where
 s:List Node
 calls:List (Int×Int)
 az:List yu
 aI:List Int
def Tg (c:Int×Int):List PV:=[.int .u8 c.1,.int .u8 c.2]
def Th (c:Int):List PV:=[.int .u8 c]
def Gr.c (d:Gr):List PV:=[.ae 0 (d.s.map Node.cs),.ae 0 (d.calls.map Tg),.ae 0 (d.az.map yu.c),.ae 0 (d.aI.map Th)]
def Q0 (x:Int):Prop:=0<=x/\x<=255
structure Gr.ok (d:Gr):Prop where
 s:∀y∈d.s,y.ok
 sl:cc d.s
 c:∀x∈d.calls,Q0 x.1/\Q0 x.2
 cl:cc d.calls
 w:∀x∈d.az,x.ok
 wl:cc d.az
 t:∀x∈d.aI,Q0 x
 tl:cc d.aI
def fv (n:Int)(l:List (Int×Int))(k:Nat):List j8:=(List.range k).filterMap λi=>l[i]?.map λx=>⟨ib 67 i,x.1%n,x.2%n⟩
def jn (n:Int)(l:List Int)(k:Nat):List ky:=(List.range k).filterMap λi=>l[i]?.map λx=>⟨ib 84 i,x%n⟩
def ie (T:List aB)(l:List yu)(k:Nat):List dt:=(List.range k).filterMap λi=>l[i]?.bind λs=>wO T (ib 83 i) s
theorem BW {n:Int}{l:List (Int×Int)}{k:Nat}{x:Int×Int}(h:l[k]?=some x):fv n l (k+1)=fv n l k++[⟨ib 67 k,x.1%n,x.2%n⟩]:=by
 unfold fv;rw[abA,abT];simp[h]
theorem DN {n:Int}{l:List Int}{k:Nat}{x:Int}(h:l[k]?=some x):jn n l (k+1)=jn n l k++[⟨ib 84 k,x%n⟩]:=by
 unfold jn;rw[abA,abT];simp[h]
theorem DO {T:List aB}{l:List yu}{k:Nat}{x:yu}(h:l[k]?=some x):ie T l (k+1)=ie T l k++(wO T (ib 83 k) x).toList:=by
 unfold ie;rw[abA,abT];cases hs:wO T (ib 83 k) x<;>simp[h,hs]
theorem fJ {α:Type}(f:Nat->Option α)(k:Nat):((List.range k).filterMap f).length<=k:=by
 have:=List.length_filterMap_le f (List.range k);rw[aaJ]at this;exact this
def Q1 (nm:ByteArray)(d:Gr):Option eV:=if (tN d.s).2=true/\d.calls.length<=3/\d.az.length<=2/\d.aI.length<=3 then some ⟨nm,(tN d.s).1,fv (tN d.s).1.length d.calls d.calls.length,ie (tN d.s).1 d.az d.az.length,jn (tN d.s).1.length d.aI d.aI.length⟩ else none
set_option maxHeartbeats 8000000 in
theorem r419 (nm:ByteArray)(d:Gr)(hd:d.ok):res A ay 419 [.agg d.c,.str nm]=some (match Q1 nm d with|some v=>[.agg (eY 0 0 0 0 v),.bool true]|none=>[.agg [.str ⟨#[]⟩,.ae 0 [],.ae 0 [],.ae 0 [],.ae 0 []],.bool false]):=by
 have h279:=λt=>r279 t d.s hd.s hd.sl;refine ai a419 rfl rfl ?_;simp only[F419,Pb];unfold Gr.c Q1;have hTn:(tN d.s).2=true->1<=(tN d.s).1.length/\(tN d.s).1.length<=5:=by
  unfold tN;split
  .simp
  .intro _;simp only[List.length_map,List.length_range];omega
 generalize (tN d.s).1=T at *;generalize (tN d.s).2=b at *;cases b with
 |false=>
  rw[if_neg (by simp)];simp(disch:=omega)only[go_sem,h279]
 |true=>
 obtain⟨hT1,hT5⟩:=hTn rfl;cases h1:decide ((3:Int)<d.calls.length)with
 |true=>
  have:=of_decide_eq_true h1;rw[if_neg (by omega)];simp(disch:=omega)only[go_sem,h279,h1]
 |false=>
 cases h2:decide ((2:Int)<d.az.length)with
 |true=>
  have:=of_decide_eq_true h2;rw[if_neg (by omega)];simp(disch:=omega)only[go_sem,h279,h1,h2]
 |false=>
 cases h3:decide ((3:Int)<d.aI.length)with
 |true=>
  have:=of_decide_eq_true h3;rw[if_neg (by omega)];simp(disch:=omega)only[go_sem,h279,h1,h2,h3]
 |false=>
 have g1:=of_decide_eq_false h1;have g2:=of_decide_eq_false h2;have g3:=of_decide_eq_false h3;rw[if_pos (by refine⟨rfl,?_,?_,?_⟩<;>omega)];simp(disch:=omega)only[go_sem,h279,h1,h2,h3];refine W.dx d.calls.length (λk=>⟨[(2,.ptr 2 0),(4,.ptr 4 0),(6,.ptr 6 0),(8,.ptr 8 0),(9,.pv (.int .i64 T.length)),(10,.pv (.int .i64 k))],⟨[(2,[.pv (.ae 0 (d.s.map Node.cs)),.pv (.ae 0 (d.calls.map Tg)),.pv (.ae 0 (d.az.map yu.c)),.pv (.ae 0 (d.aI.map Th))]),(4,[.pv (.str ⟨#[]⟩),.tl [],.tl [],.tl [],.tl []]),(6,[.pv (.ae 0 (T.map aB.c))]),(8,[.pv (.str nm),.pv (.ae 0 (T.map aB.c)),dn 0 (bm (fv T.length d.calls k)),.tl [],.tl []])],cG 3 (bm (fv T.length d.calls k)),[]⟩⟩) (λ_=>True) rfl trivial λk hk _=>?_;simp(disch:=omega)only[go_sem];refine Br.aF (λc=>?_) (λc=>?_)
 .obtain⟨x,hx⟩:=get_some (l:=d.calls) (k:=k) (by omega);obtain⟨⟨x1,x2⟩,x3,x4⟩:=hd.c x (aaj hx);have hR:bm (fv T.length d.calls (k+1))=bm (fv T.length d.calls k)++[[.str (ib 67 k),.int .i64 (x.1%T.length),.int .i64 (x.2%T.length)]]:=by
   rw[BW hx];simp[bm,j8.c]
  have hRl:(bm (fv T.length d.calls k)).length<=3:=by
   rw[vo];have:=fJ (λi=>d.calls[i]?.map λx=>(⟨ib 67 i,x.1%T.length,x.2%T.length⟩:j8)) k;unfold fv;omega
  generalize bm (fv T.length d.calls k)=rows at *;have hg:∀bx mp,aJ ⟨bx,cG 3 rows,mp⟩ 3 (dn 0 rows) (.tl [[.str (ib 67 k),.int .i64 (x.1%T.length),.int .i64 (x.2%T.length)]])=some (dn 0 (rows++[[.str (ib 67 k),.int .i64 (x.1%T.length),.int .i64 (x.2%T.length)]]),uf 0 3 rows [.str (ib 67 k),.int .i64 (x.1%T.length),.int .i64 (x.2%T.length)]):=λbx mp=>grow bx mp [] 3 rows _ rfl (by omega);have hw:=I0 (k:=k) (by omega);have hna:=oA (c:=67) (k:=k) (by omega);simp(disch:=omega)only[go_sem,hx,Option.map_some,Tg,hw,hna,hg];refine .of (by omega) ?_ trivial;rw[hR];rfl
 obtain rfl:k=d.calls.length:=by omega
 generalize hCe:fv T.length d.calls d.calls.length=C at *;have hCl:(bm C).length<=3:=by
  rw[vo,<- hCe];have:=fJ (λi=>d.calls[i]?.map λx=>(⟨ib 67 i,x.1%T.length,x.2%T.length⟩:j8)) d.calls.length;unfold fv;omega
 clear hk c hCe;simp(disch:=omega)only[go_sem];refine W.dx d.az.length (λk=>⟨[(2,.ptr 2 0),(4,.ptr 4 0),(6,.ptr 6 0),(8,.ptr 8 0),(9,.pv (.int .i64 T.length)),(11,.pv (.int .i64 k))],⟨[(2,[.pv (.ae 0 (d.s.map Node.cs)),.pv (.ae 0 (d.calls.map Tg)),.pv (.ae 0 (d.az.map yu.c)),.pv (.ae 0 (d.aI.map Th))]),(4,[.pv (.str ⟨#[]⟩),.tl [],.tl [],.tl [],.tl []]),(6,[.pv (.ae 0 (T.map aB.c))]),(8,[.pv (.str nm),.pv (.ae 0 (T.map aB.c)),dn 0 (bm C),dn (cG 3 (bm C)).length (az (ie T d.az k)),.tl []])],cG 3 (bm C)++cG 5 (az (ie T d.az k)),[]⟩⟩) (λ_=>True) (by show _=(⟨_,⟨_,cG 3 (bm C)++[],[]⟩⟩:St);rw[abb];rfl) trivial λk hk _=>?_;simp(disch:=omega)only[go_sem];refine Br.aF (λc=>?_) (λc=>?_)
 .obtain⟨x,hx⟩:=get_some (l:=d.az) (k:=k) (by omega);have hxo:=hd.w x (aaj hx);have h453:=λt u=>r453 t u T (ib 83 k) x hxo (by omega);have hR:az (ie T d.az (k+1))=az (ie T d.az k)++az (wO T (ib 83 k) x).toList:=by
   rw[DO hx];simp[az]
  have hRl:(az (ie T d.az k)).length<=3:=by
   unfold az;rw[aam];have:=fJ (λi=>d.az[i]?.bind λs=>wO T (ib 83 i) s) k;unfold ie;omega
  have hw:=I0 (k:=k) (by omega);have hna:=oA (c:=83) (k:=k) (by omega);generalize az (ie T d.az k)=rows at *;cases hs:wO T (ib 83 k) x with
  |none=>
   rw[hs]at h453 hR;simp only[Option.toList,az,List.map_nil,List.append_nil]at hR;simp(disch:=omega)only[go_sem,hx,Option.map_some,yu.c,hw,hna,h453];refine .of (by omega) ?_ trivial;rw[<- hR];rfl
  |some w=>
   rw[hs]at h453 hR;simp only[Option.toList,az,List.map_cons,List.map_nil,dt.c]at hR;simp only[dt.c]at h453;have hg:=λbx mp=>grow bx mp (cG 3 (bm C)) 5 rows [.str w.name,.ae 0 (w.msgs.map eU.c),.int .i64 w.auto.aj,.int .i64 w.auto.start,.ae 0 (w.auto.aa.map Edge.c)] rfl (by omega);have hgt:=λbx mp=>fy bx mp (cG 3 (bm C)) 5 rows [.str w.name,.ae 0 (w.msgs.map eU.c),.int .i64 w.auto.aj,.int .i64 w.auto.start,.ae 0 (w.auto.aa.map Edge.c)];simp(disch:=omega)only[go_sem,hx,Option.map_some,yu.c,hw,hna,h453,hg,hgt];refine .of (by omega) ?_ trivial;rw[show az (ie T d.az (k+1))=_ from hR];rfl
 obtain rfl:k=d.az.length:=by omega
 generalize hWe:ie T d.az d.az.length=S at *;clear hk c hWe;simp(disch:=omega)only[go_sem];refine W.dx d.aI.length (λk=>⟨[(2,.ptr 2 0),(4,.ptr 4 0),(8,.ptr 8 0),(9,.pv (.int .i64 T.length)),(14,.pv (.int .i64 k))],⟨[(2,[.pv (.ae 0 (d.s.map Node.cs)),.pv (.ae 0 (d.calls.map Tg)),.pv (.ae 0 (d.az.map yu.c)),.pv (.ae 0 (d.aI.map Th))]),(4,[.pv (.str ⟨#[]⟩),.tl [],.tl [],.tl [],.tl []]),(8,[.pv (.str nm),.pv (.ae 0 (T.map aB.c)),dn 0 (bm C),dn (cG 3 (bm C)).length (az S),dn (cG 3 (bm C)++cG 5 (az S)).length (cg (jn T.length d.aI k))])],cG 3 (bm C)++cG 5 (az S)++cG 2 (cg (jn T.length d.aI k)),[]⟩⟩) (λ_=>True) (by show _=(⟨_,⟨_,cG 3 (bm C)++cG 5 (az S)++[],[]⟩⟩:St);rw[abb];rfl) trivial λk hk _=>?_;simp(disch:=omega)only[go_sem];refine Br.aF (λc=>?_) (λc=>?_)
 .obtain⟨x,hx⟩:=get_some (l:=d.aI) (k:=k) (by omega);obtain⟨x1,x2⟩:=hd.t x (aaj hx);have hR:cg (jn T.length d.aI (k+1))=cg (jn T.length d.aI k)++[[.str (ib 84 k),.int .i64 (x%T.length)]]:=by
   rw[DN hx];simp[cg,ky.c]
  have hRl:(cg (jn T.length d.aI k)).length<=3:=by
   rw[AX];have:=fJ (λi=>d.aI[i]?.map λx=>(⟨ib 84 i,x%T.length⟩:ky)) k;unfold jn;omega
  generalize cg (jn T.length d.aI k)=rows at *;have hg:=λbx mp=>grow bx mp (cG 3 (bm C)++cG 5 (az S)) 2 rows [.str (ib 84 k),.int .i64 (x%T.length)] rfl (by omega);have hgt:=λbx mp=>fy bx mp (cG 3 (bm C)++cG 5 (az S)) 2 rows [.str (ib 84 k),.int .i64 (x%T.length)];simp only[List.length_append]at hg hgt;have hw:=I0 (k:=k) (by omega);have hna:=oA (c:=84) (k:=k) (by omega);simp(disch:=omega)only[go_sem,hx,Option.map_some,Th,hw,hna,hg,hgt];refine .of (by omega) ?_ trivial;rw[hR,aas];rfl
 obtain rfl:k=d.aI.length:=by omega
 generalize hPe:jn T.length d.aI d.aI.length=P at *;have k1:∀bx,bd ⟨bx,cG 3 (bm C)++cG 5 (az S)++cG 2 (cg P),[]⟩ 4 (dn 0 (bm C))=some (.ae 0 (bm C)):=λbx=>by
  rw[aay];exact pV bx [] [] _ 3 3 _
 have k2:∀bx,bd ⟨bx,cG 3 (bm C)++cG 5 (az S)++cG 2 (cg P),[]⟩ 4 (dn (cG 3 (bm C)).length (az S))=some (.ae 0 (az S)):=λbx=>by
  rw[aay];exact pV bx [] (cG 3 (bm C)) _ 5 3 _
 have k3:∀bx,bd ⟨bx,cG 3 (bm C)++cG 5 (az S)++cG 2 (cg P),[]⟩ 4 (dn (cG 3 (bm C)++cG 5 (az S)).length (cg P))=some (.ae 0 (cg P)):=λbx=>qI bx [] _ 2 3 _;simp only[List.length_append]at k3;simp(disch:=omega)only[go_sem,k1,k2,k3];rfl
theorem zA {c:UInt8}{k:Nat}(h:k<3):bo (ib c k):=by
 have:(ib c k).size=2:=by
  unfold ib;rw[ByteArray.size_append,yr h];rfl
 unfold bo;omega
theorem Gs {n:Int}{l:List (Int×Int)}{k:Nat}(hk:k<=3):∀c∈fv n l k,bo c.name:=by
 intro c hc;obtain⟨i,hi,he⟩:=aba.1 hc;have:=aaV.1 hi;obtain⟨x,_,rfl⟩:=aaT.1 he;exact zA (by omega)
theorem I1 {n:Int}{l:List Int}{k:Nat}(hk:k<=3):∀c∈jn n l k,bo c.name:=by
 intro c hc;obtain⟨i,hi,he⟩:=aba.1 hc;have:=aaV.1 hi;obtain⟨x,_,rfl⟩:=aaT.1 he;exact zA (by omega)
theorem BX {T:List aB}{l:List yu}{k:Nat}(hk:k<=2)(hl:∀s∈l,s.ok):∀w∈ie T l k,∃i s,i<2/\s∈l/\et T T.length≠[]/\w=⟨ib 83 i,fu (et T T.length) s,s.a.auto.trim⟩/\s.a.auto.Good:=by
 intro w hw;obtain⟨i,hi,he⟩:=aba.1 hw;have:=aaV.1 hi;obtain⟨s,hs,he⟩:=ab6.1 he;unfold wO at he;split at he
 .rename_i hc;cases he;have hm:=aaj hs;exact⟨i,s,by omega,hm,hc.2,rfl,fq.wC (hl s hm).1 (s:=0) ⟨abP _,by have:=s.a.st;omega⟩⟩
 .cases he
theorem Gt {nm:ByteArray}{d:Gr}{v:eV}(hn:bo nm)(hd:d.ok)(h:Q1 nm d=some v):gK v/\v.types.length<=5/\v.calls.length<=3/\v.az.length<=2/\v.aI.length<=3/\∀w∈v.az,w.msgs.length<=3/\w.auto.aa.length<=100:=by
 unfold Q1 at h;split at h
 rotate_left
 .cases h
 rename_i hc;obtain⟨c1,c2,c3,c4⟩:=hc;cases h;have hD:¬(d.s.length<1\/5<d.s.length):=by
  intro hx;unfold tN at c1;rw[if_pos hx]at c1;cases c1
 have hT:(tN d.s).1=(List.range d.s.length).map (bh d.s):=by
  unfold tN;rw[if_neg hD]
 obtain⟨o1,o2⟩:=QH (d:=d.s) (by omega) (by omega);rw[<- hT]at o1 o2;have hl:(tN d.s).1.length<=5:=by
  rw[hT,aam,aaJ];omega
 have l1:(fv (tN d.s).1.length d.calls d.calls.length).length<=3:=aa5 (fJ _ _) c2;have l2:(ie (tN d.s).1 d.az d.az.length).length<=2:=aa5 (fJ _ _) c3;have l3:(jn (tN d.s).1.length d.aI d.aI.length).length<=3:=aa5 (fJ _ _) c4;have hw:∀w∈ie (tN d.s).1 d.az d.az.length,(bo w.name/\∀m∈w.msgs,bo m.name)/\w.msgs.length<=3/\w.auto.aa.length<=100:=λw hw=>by
  obtain⟨i,s,hi,hs,_,rfl,hg⟩:=BX (by omega) hd.w w hw;refine⟨⟨zA (by omega),λm hm=>?_⟩,aau 3,hg.trim.len⟩;dsimp only[fu]at hm;simp only[List.mem_cons,List.not_mem_nil,or_false]at hm;rcases hm with rfl|rfl|rfl<;>exact zA (by omega)
 refine⟨⟨hn,by dsimp only;omega,o1,o2,by dsimp only;omega,Gs c2,by dsimp only;omega,λw h=>?_,by dsimp only;omega,I1 c4⟩,hl,l1,l2,l3,λw h=>(hw w h).2⟩;obtain⟨⟨q1,q2⟩,q3,q4⟩:=hw w h;exact⟨q1,by omega,q2,by omega⟩
theorem BY {v:eV}(hv:gK v)(h5:v.types.length<=5)(hc:v.calls.length<=3)(hs:v.az.length<=2)(hp:v.aI.length<=3)(hw:∀w∈v.az,w.msgs.length<=3/\w.auto.aa.length<=100):res A ay 409 [.agg (eY 0 0 0 0 (aQ v)),.agg (eY 0 0 0 0 (aQ v))]=some [.bool true]:=by
 have hLl:(aP v).length<=5:=by
  unfold aP i6;rw[aam];have:=ox (lE v) v.types.length;omega
 refine r409 (aQ v) ?_ ?_ ?_ ?_ ?_ ?_
 .show ((aP v).map _).length<=_;rw[aam];omega
 .intro t ht;obtain⟨u,hu,rfl⟩:=aaq.1 ht;obtain⟨g0,g1,_⟩:=dV.1 hu;exact yl (by omega) (hv.to _ (aaj (cC g0 g1)))
 .show (v.calls.map _).length<=_;rw[aam];omega
 .show (v.az.map _).length<=_;rw[aam];omega
 .intro w h;obtain⟨x,hx,rfl⟩:=aaq.1 h;have:=hw x hx;refine⟨?_,?_⟩
  .show (x.msgs.map _).length<=_;rw[aam];omega
  .show x.auto.aa.length<=_;omega
 .show (v.aI.map _).length<=_;rw[aam];omega
def kz (u:Int×Int):List PV:=[.int .i64 u.1,.int .i64 u.2]
def nX (l:List Mem):List (Int×Int):=l.map λm=>(m.id,m.type)
def oN (t:aB):List (Int×Int):=nX t.aO++(if t.kind=8 then [(0,t.key)] else [])++(if 7<=t.kind then [(-1,t.elem)] else [])
theorem Lh (k:Nat)(rows:List (List PV))(r1 r2:List PV)(h1:r1.length=k)(h2:r2.length=k)(hm:rows.length+2<=2147483648):
  ∃V1 T ar',(∀bx,aJ ⟨bx,cG k rows,[]⟩ k (dn 0 rows) (.tl [r1,r2])=some (V1,T))/\(∀bx,T.apply ⟨bx,cG k rows,[]⟩=⟨bx,ar',[]⟩)/\V1.cells=[V1]/\V1.calm=true/\(∀b,ez b V1=V1)/\∀bx,bV ⟨bx,ar',[]⟩ false V1=some (.ae 0 (rows++[r1,r2])):=by
 cases rows with
 |nil=>exact⟨.own 0 0 0 2,{push:=[⟨0,k,.inl [r1,r2]⟩],base:=0},[⟨0,k,.inl [r1,r2]⟩],λbx=>by simp[aJ,dn,cG,bj,aY,aE,h1,h2,aW,aU],λbx=>by simp[Tn.apply,cG],rfl,rfl,λ_=>rfl,λbx=>by simp[bV,eo,aC,cb,aD]⟩
 |cons x q=>
  refine⟨.own 0 (q.length+1) 0 (q.length+3),{ar:=some (0,⟨q.length+1,k,.inl (x::q++[r1,r2])⟩)},[⟨q.length+1,k,.inl (x::q++[r1,r2])⟩],λbx=>?_,λbx=>by simp[Tn.apply,cG],rfl,rfl,λ_=>rfl,λbx=>?_⟩
  .have e1:aC ⟨bx,cG k (x::q),[]⟩ 0 q.length=some ⟨q.length,k,.inl (x::q)⟩:=by simp[aC,cG]
   have e2:(⟨q.length,k,.inl (x::q)⟩:aL).size=q.length+1:=rfl;simp only[List.length_cons]at hm;simp[aJ,dn,bj,aY,aE,h1,h2,e1,e2,aW,aD,aU];omega
  .simp[bV,eo,aC,cb,aD];exact List.take_of_length_le (by simp)
set_option maxHeartbeats 4000000 in
theorem r490 (t:aB)(hs:t.short)(h9:t.kind<=9):res A ay 490 [.agg t.c]=some [.ae 0 ((oN t).map kz)]:=by
 have hl:=hs.aO;obtain⟨k,a2,a3,a4,a5,a6,l,a8,a9,a10⟩:=t;unfold oN aB.c;dsimp only at *;refine ai a490 rfl rfl ?_;simp only[F490,P1];simp(disch:=omega)only[go_sem];refine W.dx l.length (λj=>⟨[(1,.ptr 1 0),(3,dn 0 ((nX (l.take j)).map kz)),(7,.pv (.ae 0 (l.map Mem.c))),(8,.pv (.int .i64 l.length)),(9,.pv (.int .i64 j))],⟨[(1,[.pv (.int .i64 k),.pv (.str a2),.pv (.int .i64 a3),.pv (.int .i64 a4),.pv (.int .i64 a5),.pv (.ae 0 (a6.map Sym.c)),.pv (.ae 0 (l.map Mem.c)),.pv (.int .i64 a8),.pv (.int .i64 a9),.pv (.bool a10)])],cG 2 ((nX (l.take j)).map kz),[]⟩⟩) (λ_=>True) rfl trivial λj hj _=>?_;simp(disch:=omega)only[go_sem];refine Br.aF (λc=>?_) (λc=>?_)
 .obtain⟨p,hp⟩:=get_some (l:=l) (k:=j) (by omega);have hR:(nX (l.take (j+1))).map kz=(nX (l.take j)).map kz++[[.int .i64 p.id,.int .i64 p.type]]:=by
   rw[aaH,hp];simp[nX,kz]
  have hRl:((nX (l.take j)).map kz).length<=j:=by simp[nX];omega
  generalize (nX (l.take j)).map kz=rows at *;have hg:∀bx mp,aJ ⟨bx,cG 2 rows,mp⟩ 2 (dn 0 rows) (.tl [[.int .i64 p.id,.int .i64 p.type]])=some (dn 0 (rows++[[.int .i64 p.id,.int .i64 p.type]]),uf 0 2 rows [.int .i64 p.id,.int .i64 p.type]):=λbx mp=>grow bx mp [] 2 rows _ rfl (by omega);simp(disch:=omega)only[go_sem,hp,Option.map_some,Mem.c,hg];refine .of (by omega) ?_ trivial;rw[hR];rfl
 obtain rfl:j=l.length:=by omega
 rw[aaQ];have hRl:((nX l).map kz).length=l.length:=by simp[nX]
 rw[aaR,aaR];generalize (nX l).map kz=rows at *;simp(disch:=omega)only[go_sem];obtain⟨V1,T,ar',happ,hT,hc1,hc2,hsc,hk⟩:=Lh 2 rows [.int .i64 0,.int .i64 a8] [.int .i64 (-1),.int .i64 a9] rfl rfl (by omega);have hg:∀bx mp,aJ ⟨bx,cG 2 rows,mp⟩ 2 (dn 0 rows) (.tl [[.int .i64 (-1),.int .i64 a9]])=some (dn 0 (rows++[[.int .i64 (-1),.int .i64 a9]]),uf 0 2 rows [.int .i64 (-1),.int .i64 a9]):=λbx mp=>grow bx mp [] 2 rows _ rfl (by omega);refine Br.aF (λc8=>?_) (λc8=>?_)
 .rw[if_pos c8,if_pos (by omega)];simp(disch:=omega)only[go_sem,happ,hT,hc1,hc2,hsc,hk];simp[kz]
 .rw[if_neg c8];cases h7:decide (k=7)with
  |true=>
   have c7:=of_decide_eq_true h7;rw[if_pos (by omega)];simp(disch:=omega)only[go_sem,h7,hg];simp[kz]
  |false=>
   have c7:=of_decide_eq_false h7;cases h9':decide (k=9)with
   |true=>
    have c9:=of_decide_eq_true h9';rw[if_pos (by omega)];simp(disch:=omega)only[go_sem,h7,h9',hg];simp[kz]
   |false=>
    have c9:=of_decide_eq_false h9';rw[if_neg (by omega)];simp(disch:=omega)only[go_sem,h7,h9',List.append_nil]
set_option maxHeartbeats 4000000 in
theorem r499:∀(n k:Nat)(cs ds:List PV),mM n cs->mM k ds->res A ay 499 [.agg cs,.agg ds]=some [.bool (eqv cs ds)]
 |0,_,_,_,h,_=>h.elim
 |_+1,0,_,_,_,h=>h.elim
 |n+1,k+1,cs,ds,h,h'=>by
  obtain⟨v,rfl,⟨h1,h2,h3,h4⟩,⟨h5,h6,h7⟩,h8,h9,h10⟩:=h;obtain⟨w,rfl,⟨g1,g2,g3,g4⟩,⟨g5,g6,g7⟩,g8,g9,g10⟩:=h';have ih:=r499 n k;unfold cc at h5 h6 h7 g5 g6 g7;have hk:=λt u=>r334g cw499 t u v.keys w.keys (by omega) (by omega) (λr hr=>(h8 r hr).val) (λr hr=>(g8 r hr).val) (λr hr q hq=>ih r q (h8 r hr) (g8 q hq));have hi:=λt u=>r334g cw499 t u v.items w.items (by omega) (by omega) (λr hr=>(h9 r hr).val) (λr hr=>(g9 r hr).val) (λr hr q hq=>ih r q (h9 r hr) (g9 q hq));have hr:=λt u=>r333 t u v.rest w.rest (by omega) (by omega);rw[kG];obtain⟨a1,a2,a3,a4,a5,a6,a7,a8⟩:=v;obtain⟨b1,b2,b3,b4,b5,b6,b7,b8⟩:=w;unfold dO.c;dsimp only at *;clear ih;refine ai a499 rfl rfl ?_;simp only[F499,P8];simp(disch:=omega)only[go_sem];have no:∀{p q:dO},p≠q->(some [PV.bool false]:Option (List PV))=some [PV.bool (eqv p q)]:=λh=>by rw[eI h]
  refine Br.aF (λe=>?_) (λe=>?_)<;>simp(disch:=omega)only[go_sem,e]
  rotate_left
  .exact no (λq=>e (by cases q;rfl))
  subst e;refine Br.aF (λe=>?_) (λe=>?_)<;>simp(disch:=omega)only[go_sem,e]
  rotate_left
  .exact no (λq=>e (by cases q;rfl))
  subst e;refine Br.aF (λe=>?_) (λe=>?_)<;>simp(disch:=omega)only[go_sem,e]
  rotate_left
  .exact no (λq=>e (by cases q;rfl))
  subst e;refine Br.aF (λe=>?_) (λe=>?_)<;>simp(disch:=omega)only[go_sem,e]
  rotate_left
  .exact no (λq=>e (by cases q;rfl))
  subst e;refine Br.aF (λe=>?_) (λe=>?_)<;>simp(disch:=omega)only[go_sem,e]
  rotate_left
  .exact no (λq=>e (by cases q;rfl))
  subst e;simp(disch:=omega)only[go_sem,hr];refine Br.of (λe=>?_) (λe=>?_)<;>simp(disch:=omega)only[go_sem,e]
  rotate_left
  .exact no (λq=>kf.1 e (by cases q;rfl))
  have e:=bP.1 e;subst e;simp(disch:=omega)only[go_sem,hk];refine Br.of (λe=>?_) (λe=>?_)<;>simp(disch:=omega)only[go_sem,e]
  rotate_left
  .exact no (λq=>kf.1 e (by cases q;rfl))
  have e:=bP.1 e;subst e;simp(disch:=omega)only[go_sem,hi];congr 3;rw[aa4,bP,bP];exact⟨λe=>by rw[e],λq=>by cases q;rfl⟩
def wP {α β:Type}(g:α->β->Bool)(l:List α)(m:List β):Bool:=decide (l.length=m.length)&&(l.zip m).all λq=>g q.1 q.2
theorem sF {α β:Type}{g:α->β->Bool}{l:List α}{m:List β}(h:¬l.length=m.length):wP g l m=false:=by
 unfold wP;rw[decide_eq_false h];rfl
theorem zB {α β:Type}{g:α->β->Bool}{l:List α}{m:List β}(h:(l.zip m).any (λq=>!g q.1 q.2)=true):wP g l m=false:=by
 unfold wP;have:(l.zip m).all (λq=>g q.1 q.2)=false:=by
  rw[abp];intro h2;obtain⟨q,hq,hn⟩:=abg.1 h;have:=aaF.1 h2 q hq;rw[this]at hn;cases hn
 rw[this,ace]
theorem uo {α β:Type}{g:α->β->Bool}{l:List α}{m:List β}(h:l.length=m.length)(h2:(l.zip m).any (λq=>!g q.1 q.2)=false):wP g l m=true:=by
 unfold wP;rw[decide_eq_true h,aa8,aaF];intro q hq;have:=aaW.1 h2 q hq;simpa using this
theorem zC {α β:Type}(k:α->β){g:α->α->Bool}(h:∀x y,g x y=eqv (k x) (k y)):∀l m:List α,wP g l m=eqv (l.map k) (m.map k)
 |[],[]=>by rw[dX];rfl
 |[],y::m=>by rw[sF (by simp),eI (by simp)]
 |x::l,[]=>by rw[sF (by simp),eI (by simp)]
 |x::l,y::m=>by
  have ih:=zC k h l m;unfold wP at ih |-;rw[List.zip_cons_cons,List.all_cons];dsimp only;rw[h x y];by_cases e:k x=k y
  .rw[e,dX,aa8,abV,abV,e];have e2:decide ((x::l).length=(y::m).length)=decide (l.length=m.length):=by simp
   rw[e2,ih,aa4,bP,bP];exact⟨λh=>by rw[h],λh=>List.tail_eq_of_cons_eq h⟩
  .rw[eI e,abG,ace,eI];intro h2;rw[abV,abV]at h2;exact e (List.head_eq_of_cons_eq h2)
def wi (s:Sym):Int:=s.id
def DP (m:Mem):Int×Bool×Bool×dO:=(m.id,m.GZ,m.has,m.gN)
def DQ (t:aB):(Int×Int×Int×Int×Bool)×List Int×List (Int×Bool×Bool×dO):=((t.kind,t.low,t.high,t.max,t.jO),t.syms.map wi,t.aO.map DP)
noncomputable def ec (x y:aB):Bool:=eqv (DQ x) (DQ y)
theorem r497 (u:Nat)(x y:Sym):res A ay 497 [.agg x.c,.agg y.c,.ro u [.bool false]]=some [.bool (eqv (wi x) (wi y))]:=by
 have e:eqv (wi x) (wi y)=decide (x.id=y.id):=by
  unfold wi eqv;simp
 rw[e];refine ai a497 rfl rfl ?_;simp only[F497,P6];unfold Sym.c;simp(disch:=omega)only[go_sem];refine Br.aF (λc=>?_) (λc=>?_)<;>simp(disch:=omega)only[go_sem,c,decide_true,decide_false]
noncomputable def Gu (x y:Sym):Bool:=eqv (wi x) (wi y)
noncomputable def DR (x y:Mem):Bool:=eqv (DP x) (DP y)
theorem r496 (t u w:Nat)(l m:List Sym)(hl:l.length<=2^63 - 1)(_hm:m.length<=2^63 - 1):res A ay 496 [.ae t (l.map Sym.c),.ae u (m.map Sym.c),.func 497 [.ro w [.bool false]]]=some [.bool (wP Gu l m)]:=by
 refine ai a496 rfl rfl ?_;simp only[F496,P5];simp(disch:=omega)only[go_sem];refine Br.aF (λh=>?_) (λh=>?_)<;>simp(disch:=omega)only[go_sem]
 .refine W.find (l.zip m) (λq=>!Gu q.1 q.2) (λk=>⟨[(1,.pv (.ae u (m.map Sym.c))),(2,.pv (.func 497 [.ro w [.bool false]])),(15,.pv (.ae t (l.map Sym.c))),(16,.pv (.int .i64 l.length)),(17,.pv (.int .i64 k))],⟨[],[],[]⟩⟩) rfl (λk q hq hk hfd=>?_) (λhn=>?_)
  .obtain⟨h1,h2⟩:=fz hq;rw[cF (by omega)]at hk;have hc:=λv=>r497 v q.1 q.2;have hg:Gu q.1 q.2=eqv (wi q.1) (wi q.2):=rfl;rw[<- hg]at hc;unfold Sym.c at hc;simp(disch:=omega)only[go_sem];refine Br.aF (λc=>?_) (λc=>(c (by omega)).elim);simp(disch:=omega)only[go_sem,h1,h2,Sym.c,hc];refine Br.of (λg=>?_) (λg=>?_)<;>simp(disch:=omega)only[go_sem]
   .exact aX.of (by rw[g];rfl) rfl
   .rw[zB (hfd (by rw[g];rfl)).any]
  .have hz:(l.zip m).length=l.length:=cF (by omega);rw[hz];simp(disch:=omega)only[go_sem];rw[uo (by omega) hn.any]
 .rw[sF (λe=>h (by rw[e]))]
set_option maxHeartbeats 4000000 in
theorem r498 (u:Nat)(x y:Mem)(hx:x.ok)(hy:y.ok):res A ay 498 [.agg x.c,.agg y.c,.ro u [.bool false]]=some [.bool (DR x y)]:=by
 obtain⟨n,vx⟩:=hx.2.2.2;obtain⟨k,vy⟩:=hy.2.2.2;have hv:=r499 n k _ _ vx vy;rw[kG]at hv;have hg:DR x y=eqv (DP x) (DP y):=rfl;rw[hg];obtain⟨a1,a2,a3,a4,a5,v⟩:=x;obtain⟨b1,b2,b3,b4,b5,w⟩:=y;unfold Mem.c DP;unfold dO.c at hv;dsimp only at *;have no:∀{p q:Int×Bool×Bool×dO},p≠q->(some [PV.bool false]:Option (List PV))=some [PV.bool (eqv p q)]:=λh=>by rw[eI h]
 refine ai a498 rfl rfl ?_;simp only[F498,P7];simp(disch:=omega)only[go_sem];refine Br.aF (λe=>?_) (λe=>?_)<;>simp(disch:=omega)only[go_sem,e]
 rotate_left
 .exact no (λq=>e (by cases q;rfl))
 subst e;refine Br.aF (λe=>?_) (λe=>?_)<;>simp(disch:=omega)only[go_sem,e]
 rotate_left
 .exact no (λq=>e (by cases q;rfl))
 subst e;refine Br.aF (λe=>?_) (λe=>?_)<;>simp(disch:=omega)only[go_sem,e]
 rotate_left
 .exact no (λq=>e (by cases q;rfl))
 subst e;simp(disch:=omega)only[go_sem,hv];refine Br.of (λe=>?_) (λe=>?_)<;>simp(disch:=omega)only[go_sem,e]
 rotate_left
 .exact no (λq=>kf.1 e (by cases q;rfl))
 have e:=bP.1 e;subst e;rw[dX]
theorem r318k (t u w:Nat)(l m:List Mem)(hl:l.length<=2^63 - 1)(_hm:m.length<=2^63 - 1)(vl:∀r∈l,r.ok)(vm:∀r∈m,r.ok):res A ay 318 [.ae t (l.map Mem.c),.ae u (m.map Mem.c),.func 498 [.ro w [.bool false]]]=some [.bool (wP DR l m)]:=by
 refine ai a318 rfl rfl ?_;simp only[F318,KK];simp(disch:=omega)only[go_sem];refine Br.aF (λh=>?_) (λh=>?_)<;>simp(disch:=omega)only[go_sem]
 .refine W.find (l.zip m) (λq=>!DR q.1 q.2) (λk=>⟨[(1,.pv (.ae u (m.map Mem.c))),(2,.pv (.func 498 [.ro w [.bool false]])),(15,.pv (.ae t (l.map Mem.c))),(16,.pv (.int .i64 l.length)),(17,.pv (.int .i64 k))],⟨[],[],[]⟩⟩) rfl (λk q hq hk hfd=>?_) (λhn=>?_)
  .obtain⟨h1,h2⟩:=fz hq;rw[cF (by omega)]at hk;have hc:=λv=>r498 v q.1 q.2 (vl q.1 (aaj h1)) (vm q.2 (aaj h2));unfold Mem.c at hc;simp(disch:=omega)only[go_sem];refine Br.aF (λc=>?_) (λc=>(c (by omega)).elim);simp(disch:=omega)only[go_sem,h1,h2,Mem.c,hc];refine Br.of (λg=>?_) (λg=>?_)<;>simp(disch:=omega)only[go_sem]
   .exact aX.of (by rw[g];rfl) rfl
   .rw[zB (hfd (by rw[g];rfl)).any]
  .have hz:(l.zip m).length=l.length:=cF (by omega);rw[hz];simp(disch:=omega)only[go_sem];rw[uo (by omega) hn.any]
 .rw[sF (λe=>h (by rw[e]))]
theorem BZ (x y:aB)(h:(x.kind,x.low,x.high,x.max,x.jO)=(y.kind,y.low,y.high,y.max,y.jO)):ec x y=(wP Gu x.syms y.syms&&wP DR x.aO y.aO):=by
 rw[zC wi (g:=Gu) (λ_ _=>rfl),zC DP (g:=DR) (λ_ _=>rfl)];unfold ec DQ;rw[h,aa4,abE,bP,bP,bP];constructor
 .intro e;injection e with _ e;injection e with e1 e2;exact⟨e1,e2⟩
 .rintro ⟨e1,e2⟩
  rw[e1,e2]
theorem I2 {x y:aB}(h:(x.kind,x.low,x.high,x.max,x.jO)≠(y.kind,y.low,y.high,y.max,y.jO)):ec x y=false:=by
 unfold ec;rw[eI];unfold DQ;intro e;injection e with e _;exact h e
set_option maxHeartbeats 8000000 in
theorem r488 (x y:aB)(hx:x.ok)(hy:y.ok):res A ay 488 [.agg x.c,.agg y.c,.bool false]=some [.bool (ec x y)]:=by
 obtain⟨_,⟨lx1,lx2⟩,_,lx3⟩:=hx;obtain⟨_,⟨ly1,ly2⟩,_,ly3⟩:=hy;unfold cc at *;have hs:=λt u w=>r496 t u w x.syms y.syms (by omega) (by omega);have hm:=λt u w=>r318k t u w x.aO y.aO (by omega) (by omega) lx3 ly3;have yes:=BZ x y;have no:(x.kind,x.low,x.high,x.max,x.jO)≠(y.kind,y.low,y.high,y.max,y.jO)->(some [PV.bool false]:Option (List PV))=some [PV.bool (ec x y)]:=λh=>by rw[I2 h]
 generalize ec x y=G at *;obtain⟨a1,a2,a3,a4,a5,a6,a7,a8,a9,a10⟩:=x;obtain⟨b1,b2,b3,b4,b5,b6,b7,b8,b9,b10⟩:=y;unfold aB.c;dsimp only at *;refine ai a488 rfl rfl ?_;simp only[F488,PZ];simp(disch:=omega)only[go_sem];refine Br.aF (λe=>?_) (λe=>?_)<;>simp(disch:=omega)only[go_sem,e]
 rotate_left
 .exact no (λq=>e (by cases q;rfl))
 subst e;refine Br.aF (λe=>?_) (λe=>?_)<;>simp(disch:=omega)only[go_sem,e]
 rotate_left
 .exact no (λq=>e (by cases q;rfl))
 subst e;refine Br.aF (λe=>?_) (λe=>?_)<;>simp(disch:=omega)only[go_sem,e]
 rotate_left
 .exact no (λq=>e (by cases q;rfl))
 subst e;refine Br.aF (λe=>?_) (λe=>?_)<;>simp(disch:=omega)only[go_sem,e]
 rotate_left
 .exact no (λq=>e (by cases q;rfl))
 subst e;refine Br.aF (λe=>?_) (λe=>?_)<;>simp(disch:=omega)only[go_sem,e]
 rotate_left
 .exact no (λq=>e (by cases q;rfl))
 subst e;rw[yes rfl];generalize wP Gu a6 b6=e1 at *;generalize wP DR a7 b7=e2 at *;simp(disch:=omega)only[go_sem,hs];cases e1 with
 |false=>simp(disch:=omega)only[go_sem,Bool.false_and]
 |true=>simp(disch:=omega)only[go_sem,hm,Bool.true_and]
def B1 (g:List Bool->Nat)(M:List (List Bool)):List (List PV):=M.map λl=>[.ae (g l) (bF l)]
@[go_sem] theorem VV (g:List Bool->Nat)(M:List (List Bool))(i:Nat):(B1 g M)[i]?=M[i]?.map λl=>[.ae (g l) (bF l)]:=by simp[B1]
structure oB (na nb:Nat)(M:List (List Bool)):Prop where
 len:M.length=na
 row:∀l∈M,l.length=nb
def gq (M:List (List Bool))(p q:Int):Bool:=(M.getD p.toNat []).getD q.toNat false
theorem oB.get {na nb:Nat}{M:List (List Bool)}(h:oB na nb M){p q:Int}(hp:0<=p/\p<na)(hq:0<=q/\q<nb):∃l,M[p.toNat]?=some l/\l.length=nb/\l[q.toNat]?=some (gq M p q):=by
 have hl:=h.len;obtain⟨l,hl⟩:=get_some (l:=M) (k:=p.toNat) (by omega);have hr:=h.row l (aaj hl);refine⟨l,hl,hr,?_⟩;have h4:q.toNat<l.length:=by omega
 unfold gq;simp[hl,h4]
def Y2 (n:Nat)(l:List (Int×Int)):Prop:=∀u∈l,0<=u.2/\u.2<n
def Gv (M:List (List Bool))(x y:aB):Bool:=wP (λu v=>gq M u.2 v.2) (oN x) (oN y)
theorem r491 (s v na nb:Nat)(g:List Bool->Nat)(a b:Int×Int)(M:List (List Bool))(hM:oB na nb M)(hn:na<=1000000/\nb<=1000000)(ha:0<=a.2/\a.2<na)(hb:0<=b.2/\b.2<nb):res A ay 491 [.agg (kz a),.agg (kz b),.ro s [.ae v (B1 g M)]]=some [.bool (gq M a.2 b.2)]:=by
 obtain⟨l,h1,h2,h3⟩:=hM.get ha hb;have h4:=hM.len;obtain⟨a0,a1⟩:=ha;obtain⟨b0,b1⟩:=hb;refine ai a491 rfl rfl ?_;simp only[F491,P2];unfold kz;simp(disch:=omega)only[go_sem,fH,h1,h3,Option.map_some]
theorem r489 (t u s v na nb:Nat)(g:List Bool->Nat)(l m:List (Int×Int))(M:List (List Bool))(hM:oB na nb M)(hn:na<=1000000/\nb<=1000000)(ha:Y2 na l)(hb:Y2 nb m)(hl:l.length<=2000000)(hm:m.length<=2000000):res A ay 489 [.ae t (l.map kz),.ae u (m.map kz),.func 491 [.ro s [.ae v (B1 g M)]]]=some [.bool (wP (λa b=>gq M a.2 b.2) l m)]:=by
 refine ai a489 rfl rfl ?_;simp only[F489,P0];simp(disch:=omega)only[go_sem];refine Br.aF (λh=>?_) (λh=>?_)<;>simp(disch:=omega)only[go_sem]
 .refine W.find (l.zip m) (λq=>!gq M q.1.2 q.2.2) (λk=>⟨[(1,.pv (.ae u (m.map kz))),(2,.pv (.func 491 [.ro s [.ae v (B1 g M)]])),(15,.pv (.ae t (l.map kz))),(16,.pv (.int .i64 l.length)),(17,.pv (.int .i64 k))],⟨[],[],[]⟩⟩) rfl (λk q hq hk hfd=>?_) (λhn=>?_)
  .obtain⟨h1,h2⟩:=fz hq;rw[cF (by omega)]at hk;have hc:=λs=>r491 s v na nb g q.1 q.2 M hM hn (ha _ (aaj h1)) (hb _ (aaj h2));unfold kz at hc;simp(disch:=omega)only[go_sem];refine Br.aF (λc=>?_) (λc=>(c (by omega)).elim);simp(disch:=omega)only[go_sem,h1,h2,Option.map_some,kz,hc];refine Br.of (λg=>?_) (λg=>?_)<;>simp(disch:=omega)only[go_sem]
   .exact aX.of (by rw[g];rfl) rfl
   .rw[zB (g:=λ(a b:Int×Int)=>gq M a.2 b.2) (hfd (by rw[g];rfl)).any]
  .have hz:(l.zip m).length=l.length:=cF (by omega);rw[hz];simp(disch:=omega)only[go_sem];rw[uo (g:=λ(a b:Int×Int)=>gq M a.2 b.2) (by omega) hn.any]
 .rw[sF (λe=>h (by rw[e]))]
theorem B2 (t:aB):(oN t).length<=t.aO.length+2:=by
 unfold oN nX;rw[aas,aas,aam];split<;>split<;>simp<;>omega
def tP (M:List (List Bool))(p q:Nat):List (List Bool):=M.set p ((M.getD p []).set q false)
theorem zD {na nb p q:Nat}{M:List (List Bool)}(h:oB na nb M)(hp:p<na):oB na nb (tP M p q) where
 len:=by unfold tP;rw[abe];exact h.len
 row l hl:=by
  rcases abX hl with hl|rfl
  .exact h.row l hl
  .rw[abe];have:M[p]?=some (M.getD p []):=by
    have:p<M.length:=by rw[h.len];exact hp
    simp[this]
   exact h.row _ (aaj this)
theorem B3 {na nb p q p' q':Nat}{M:List (List Bool)}(h:oB na nb M)(hp:p<na)(hq:q<nb):gq (tP M p q) p' q'=if p=p'/\q=q' then false else gq M p' q':=by
 have hl:p<M.length:=by rw[h.len];exact hp
 have hr:(M.getD p []).length=nb:=h.row _ (by
  have:M[p]?=some (M.getD p []):=by simp[hl]
  exact aaj this)
 unfold gq tP;simp only[Int.toNat_natCast,List.getD_eq_getElem?_getD,List.getElem?_set];by_cases e:p=p'
 .subst e;simp only[List.getD_eq_getElem?_getD]at hr;by_cases e2:q=q'
  .subst e2;simp only[hl,if_true,List.getElem?_eq_getElem,Option.getD_some,if_pos,and_self];rw[aca,if_pos rfl];split<;>rfl
  .simp[hl,e2]
 .simp[e]
abbrev Rel:=List (List Bool)->Nat->Nat->Bool
def I3 (R:Rel)(p:Nat)(s:List (List Bool)×Bool)(q:Nat):List (List Bool)×Bool:=if (gq s.1 p q&&!R s.1 p q)=true then (tP s.1 p q,true) else s
def I4 (R:Rel)(nb:Nat)(s:List (List Bool)×Bool)(p:Nat):List (List Bool)×Bool:=(List.range nb).foldl (I3 R p) s
def J1 (R:Rel)(na nb:Nat)(s:List (List Bool)×Bool):List (List Bool)×Bool:=(List.range na).foldl (I4 R nb) s
def zE (R:Rel)(na nb:Nat):Nat->List (List Bool)->List (List Bool)
 |0,M=>M
 |n+1,M=>if (J1 R na nb (M,false)).2=true then zE R na nb n (J1 R na nb (M,false)).1 else (J1 R na nb (M,false)).1
def zF (M:List (List Bool)):Nat:=(M.map λr=>r.countP id).sum
theorem Li {r:List Bool}{q:Nat}(h:r.getD q false=true):(r.set q false).countP id+1=r.countP id:=by
 induction r generalizing q with
 |nil=>simp at h
 |cons b r ih=>
  cases q with
  |zero=>
   have hb:b=true:=by simpa using h
   subst hb;simp
  |succ q=>
   have:=ih (q:=q) (by simpa using h);rw[List.set_cons_succ,List.countP_cons,List.countP_cons];omega
theorem Lj {M:List (List Bool)}{p q:Nat}(h:gq M p q=true):zF (tP M p q)+1=zF M:=by
 unfold gq at h;simp only[Int.toNat_natCast]at h;unfold zF tP
 induction M generalizing p with
 |nil=>simp at h
 |cons r M ih=>
  cases p with
  |zero=>
   have h:r.getD q false=true:=by simpa using h
   have:=Li h;simp only[List.getD_cons_zero,List.set_cons_zero,List.map_cons,List.sum_cons];omega
  |succ p=>
   have:=ih (p:=p) (by simpa using h);simp only[List.getD_cons_succ,List.set_cons_succ,List.map_cons,List.sum_cons];omega
def Steps (s t:List (List Bool)×Bool):Prop:=t=s\/(t.2=true/\zF t.1<zF s.1)
theorem Steps.trans {s t u:List (List Bool)×Bool}(h:Steps s t)(g:Steps t u):Steps s u:=by
 rcases g with rfl|⟨g1,g2⟩
 .exact h
 .rcases h with rfl|⟨_,h2⟩
  .exact .inr ⟨g1,g2⟩
  .exact .inr ⟨g1,by omega⟩
theorem Gw (R:Rel)(p:Nat)(s:List (List Bool)×Bool)(q:Nat):Steps s (I3 R p s q):=by
 unfold I3;split
 .rename_i h;rw[abE]at h;have:=Lj h.1;exact .inr ⟨rfl,by dsimp only;omega⟩
 .exact .inl rfl
theorem I5 {α:Type}{f:List (List Bool)×Bool->α->List (List Bool)×Bool}(h:∀s a,Steps s (f s a)):∀(l:List α)(s:List (List Bool)×Bool),Steps s (l.foldl f s)
 |[],_=>.inl rfl
 |a::l,s=>(h s a).trans (I5 h l _)
theorem DS (R:Rel)(nb:Nat)(s:List (List Bool)×Bool)(p:Nat):Steps s (I4 R nb s p):=I5 (Gw R p) _ _
theorem yx (R:Rel)(na nb:Nat)(s:List (List Bool)×Bool):Steps s (J1 R na nb s):=I5 (λs p=>DS R nb s p) _ _
theorem tA (R:Rel)(na nb:Nat):∀(n m:Nat)(M:List (List Bool)),zF M<n->zF M<m->zE R na nb n M=zE R na nb m M
 |0,_,_,h,_=>absurd h (abz _)
 |_+1,0,_,_,h=>absurd h (abz _)
 |n+1,m+1,M,h,g=>by
  unfold zE;split
  .rename_i hf;rcases yx R na nb (M,false)with e|⟨_,e⟩
   .rw[e]at hf;cases hf
   .dsimp only at e;exact tA R na nb n m _ (by omega) (by omega)
  .rfl
def B4 (R:Rel)(na nb:Nat)(M:List (List Bool)):List (List Bool):=zE R na nb (zF M+1) M
def Q2 (G:List (List Bool))(R:Rel)(na nb:Nat)(s:List (List Bool)×Bool):Prop:=oB na nb s.1/\if s.2=true then B4 R na nb s.1=G else s.1=G
def I6 (s:List (List Bool)×Bool):Nat:=if s.2=true then zF s.1+1 else 0
theorem I7 {G:List (List Bool)}{R:Rel}{na nb:Nat}{M:List (List Bool)}(h:Q2 G R na nb (M,true))(hk:oB na nb (J1 R na nb (M,false)).1):Q2 G R na nb (J1 R na nb (M,false))/\I6 (J1 R na nb (M,false))<I6 (M,true):=by
 have h2:B4 R na nb M=G:=h.2;unfold B4 zE at h2;rcases yx R na nb (M,false)with e|⟨hf,e⟩
 .rw[e]at h2 |-;rw[if_neg (by simp)]at h2;exact⟨⟨h.1,by rw[if_neg (by simp)];exact h2⟩,by unfold I6;rw[if_neg (by simp),if_pos rfl];omega⟩
 .dsimp only at e;rw[if_pos hf]at h2;refine⟨⟨hk,?_⟩,?_⟩
  .rw[if_pos hf];unfold B4;rw[<- h2];exact tA R na nb _ _ _ (by omega) (by omega)
  .unfold I6;rw[if_pos hf,if_pos rfl];dsimp only;omega
theorem I8 {R:Rel}{na nb p q:Nat}{s:List (List Bool)×Bool}(h:oB na nb s.1)(hp:p<na):oB na nb (I3 R p s q).1:=by
 unfold I3;split
 .exact zD h hp
 .exact h
theorem foldI {α β:Type}{f:β->α->β}{P:β->Prop}:∀(l:List α)(s:β),P s->(∀s a,a∈l->P s->P (f s a))->P (l.foldl f s)
 |[],_,h,_=>h
 |a::l,s,h,g=>foldI l _ (g s a aaN h) λs b hb=>g s b (aaz _ hb)
theorem Lk {R:Rel}{na nb p:Nat}{s:List (List Bool)×Bool}(h:oB na nb s.1)(hp:p<na):oB na nb (I4 R nb s p).1:=foldI (P:=λs=>oB na nb s.1) _ s h λ_ _ _ h=>I8 h hp
theorem Q3 {R:Rel}{na nb:Nat}{s:List (List Bool)×Bool}(h:oB na nb s.1):oB na nb (J1 R na nb s).1:=foldI (P:=λs=>oB na nb s.1) _ s h λ_ _ hp h=>Lk h (aaV.1 hp)
theorem sG {R:Rel}{na nb:Nat}{P:List (List Bool)->Prop}(h:∀M p q,p<na->q<nb->P M->gq M p q=true->R M p q=false->P (tP M p q)):∀(n:Nat)(M:List (List Bool)),P M->P (zE R na nb n M)
 |0,_,hM=>hM
 |n+1,M,hM=>by
  have hs:P (J1 R na nb (M,false)).1:=foldI (P:=λ(s:List (List Bool)×Bool)=>P s.1) _ _ hM λs p hp hs=>foldI (P:=λ(s:List (List Bool)×Bool)=>P s.1) _ _ hs λs q hq hs=>by
   unfold I3;split
   .rename_i hc;rw[abE]at hc;exact h _ p q (List.mem_range.1 hp) (List.mem_range.1 hq) hs hc.1 (by simpa using hc.2)
   .exact hs
  unfold zE;split
  .exact sG h n _ hs
  .exact hs
theorem Ll {R:Rel}{na nb n:Nat}{M:List (List Bool)}(h:oB na nb M):oB na nb (zE R na nb n M):=sG (P:=oB na nb) (λ_ _ _ hp _ h _ _=>zD h hp) n M h
theorem Lm {R:Rel}{na nb:Nat}{M:List (List Bool)}(h:oB na nb M):oB na nb (B4 R na nb M):=Ll h
theorem DT {R:Rel}{na nb:Nat}{M:List (List Bool)}{S:Nat->Nat->Prop}(hM:oB na nb M)(h0:∀p q,S p q->gq M p q=true)(h:∀M p q,(∀p q,S p q->gq M p q=true)->S p q->R M p q=true):∀p q,S p q->gq (B4 R na nb M) p q=true:=
 (sG (P:=λM=>oB na nb M/\∀p q,S p q->gq M p q=true) (λM p q hp hq hS _ hr=>⟨zD hS.1 hp,λp' q' hs=>by
  rw[B3 hS.1 hp hq];by_cases e:p=p'/\q=q'
  .obtain⟨rfl,rfl⟩:=e;have:=h M p q hS.2 hs;rw[hr]at this;cases this
  .rw[if_neg e];exact hS.2 p' q' hs⟩) _ M ⟨hM,h0⟩).2
theorem DU {α β:Type}{f:α->β}{y:β}{l:List α}{k i:Nat}{x:α}(hi:i<k)(hx:l[i]?=some x):(gJ f y l k)[i]?=some (f x):=by
 unfold gJ;have hl:=(aak.1 hx).1;rw[List.getElem?_append_left (by simp;omega),List.getElem?_map,List.getElem?_take,if_pos hi,hx];rfl
def aK (es:List Edge)(s:Int):List Edge:=es.filter λe=>e.fr==s
theorem nY (es:List Edge)(s:Int):(aK es s).length<=es.length:=abU _ _
def Mz (a b:List Edge)(p q:Int):Option Edge:=(aK a p).find? λe=>!(bz q e.send e.label b).isSome
def Y3 (M:List (List Int))(p q:Int):Int:=(M.getD p.toNat []).getD q.toNat 0
def VW (b:List Edge)(M:List (List Int))(q k:Int)(e:Edge):Bool:=match bz q e.send e.label b with
 |some n=>decide (Y3 M e.to n=k)
 |none=>false
def VX (a b:List Edge)(M:List (List Int))(p q k:Int):Option Edge:=(aK a p).find? (VW b M q k)
def Z1 (a b:List Edge)(p q:Int):Bool:=(Mz a b p q).isSome||(Mz b a q p).isSome
def Z2 (c:Bool):Int:=if c=true then 1 else 0
def Z3 (a b:List Edge)(nb p q:Nat):List Int:=gJ (λ(q:Nat)=>Z2 (Z1 a b p q)) 0 (List.range nb) q
def VY (a b:List Edge)(nb m:Nat):List (List Int):=(List.range m).map λp=>Z3 a b nb p nb
def Y4 (M:List (List Int))(p q:Nat)(v:Int):List (List Int):=M.set p ((M.getD p []).set q v)
def VZ (a b:List Edge)(k:Int)(p:Nat)(M:List (List Int))(q:Nat):List (List Int):=if (VX a b M p q k).isSome=true/\Y3 M p q=0 then Y4 M p q (k+1) else M
def Y5 (a b:List Edge)(nb:Nat)(k:Int)(M:List (List Int))(p:Nat):List (List Int):=(List.range nb).foldl (VZ a b k p) M
def Q4 (a b:List Edge)(na nb:Nat)(k:Int)(M:List (List Int)):List (List Int):=(List.range na).foldl (Y5 a b nb k) M
def V4 (a b:List Edge)(na nb:Nat):Nat->List (List Int)
 |0=>VY a b nb na
 |j+1=>Q4 a b na nb ((j+1:Nat):Int) (V4 a b na nb j)
def differ (a b:aT):List (List Int):=V4 a.aa b.aa a.aj.toNat b.aj.toNat (a.aj.toNat*b.aj.toNat)
def nZ (w nb p:Nat):V:=.own (p+1) w 0 nb
def yy (w na nb m:Nat):List V:=gJ (nZ w nb) (.tl []) (List.range na) m
theorem oC {w na nb m:Nat}(h:m<=na):(yy w na nb m).length=na:=by
 have:=DD (nZ w nb) (.tl []) (List.range na) (k:=m) (by simpa using h);rw[aaJ]at this;exact this
theorem I9 (w na nb:Nat):yy w na nb 0=List.replicate na (.tl []):=by
 unfold yy;rw[BK,aaJ]
theorem Ln {w na nb m:Nat}(h:m<na):(yy w na nb m).set m (.own (m+1) w 0 nb)=yy w na nb (m+1):=DF (f:=nZ w nb) (abk h)
theorem Lo {w na nb m i:Nat}(h:i<m)(hm:m<=na):(yy w na nb m)[i]?=some (.own (i+1) w 0 nb):=DU (f:=nZ w nb) h (abk (by omega))
theorem Lp (w na nb:Nat):yy w na nb na=(List.range na).map (nZ w nb):=by
 have:=DE (nZ w nb) (.tl []) (List.range na);rw[aaJ]at this;exact this
def tQ (w:Nat)(M:List (List Bool)):List aL:=M.map λr=>⟨w,1,.inl (bF r)⟩
@[go_sem] theorem Lq (w:Nat)(M:List (List Bool)):(tQ w M).length=M.length:=by simp[tQ]
@[go_sem] theorem EZ (w:Nat)(M:List (List Bool))(i:Nat):(tQ w M)[i]?=M[i]?.map λr=>⟨w,1,.inl (bF r)⟩:=by
 unfold tQ;rw[aap]
@[go_sem] theorem Xu (w:Nat)(M:List (List Bool))(i:Nat)(r:List Bool):(tQ w M).set i ⟨w,1,.inl (bF r)⟩=tQ w (M.set i r):=by simp[tQ,List.map_set]
@[go_sem] theorem Ja (w:Nat)(M:List (List Bool))(r:List Bool):tQ w M++[⟨w,1,.inl (bF r)⟩]=tQ w (M++[r]):=by simp[tQ]
theorem yz {α:Type}{w na nb:Nat}{M:List (List Bool)}(hM:oB na nb M)(f:V->Option α)(g:List Bool->α)(hf:∀p r,M[p]?=some r->f (.own (p+1) w 0 nb)=some (g r)):aA (aA f) (dF (yy w na nb na))=some (M.map λr=>[g r]):=by
 rw[Lp];have key:∀(k:Nat)(N:List (List Bool)),N.length=k->(∀p r,N[p]?=some r->f (.own (p+1) w 0 nb)=some (g r))->aA (aA f) (dF ((List.range k).map (nZ w nb)))=some (N.map λr=>[g r]):=by
  intro k
  induction k with
  |zero=>
   intro N hN _;have:N=[]:=aaD hN;subst this;rfl
  |succ k ih=>
   intro N hN hf;obtain⟨N',r,rfl⟩:∃N' r,N=N'++[r]:=⟨N.dropLast,N.getLast (by intro e;rw[e]at hN;simp at hN),(List.dropLast_concat_getLast _).symm⟩;have hl:N'.length=k:=by simpa using hN
   have h1:=ih N' hl λp r hr=>hf p r (by rw[aao (aak.1 hr).1];exact hr);have h2:=hf k r (by rw[List.getElem?_append_right (by omega),hl];simp);have happ:∀(a b:List (List V))(ra rb:List (List α)),aA (aA f) a=some ra->aA (aA f) b=some rb->aA (aA f) (a++b)=some (ra++rb):=by
    intro a
    induction a with
    |nil=>intro b ra rb h1 h2;cases h1;exact h2
    |cons x a ih=>
     intro b ra rb h1 h2;simp only[aA]at h1;split at h1
     .rename_i y l' e1 e2;cases h1;simp only[List.cons_append,aA,e1,ih b l' rb e2 h2]
     .cases h1
   have h3:aA (aA f) (dF [nZ w nb k])=some [[g r]]:=by
    simp[dF,aA,nZ,h2]
   have h4:=happ _ _ _ _ h1 h3;rw[aaR,abA,aaR];show aA (aA f) (dF ((List.range k).map (nZ w nb)++[nZ w nb k]))=_;unfold dF at h4 |-;rw[aaR];exact h4
 exact key na M hM.len hf
theorem Gx {w na nb:Nat}{M:List (List Bool)}(hM:oB na nb M)(bx:List (Nat×List V))(a0:aL)(d:Nat):aA (aA (bc ⟨bx,a0::tQ w M,[]⟩ (d+1))) (dF (yy w na nb na))=some (B1 (λ_=>1) M):=
 yz hM (bc ⟨bx,a0::tQ w M,[]⟩ (d+1)) (λr=>PV.ae 1 (bF r)) λp r hr=>by
  have h1:=hM.row r (aaj hr);have h2:(bF r).take nb=bF r:=aaB (by rw[jx];omega);simp[bc,aC,EZ,hr,aD,h2]
theorem Gy {w na nb:Nat}{M:List (List Bool)}(hM:oB na nb M)(bx:List (Nat×List V))(a0:aL)(d:Nat):aA (aA (bd ⟨bx,a0::tQ w M,[]⟩ (d+1))) (dF (yy w na nb na))=some (B1 (λ_=>0) M):=
 yz hM (bd ⟨bx,a0::tQ w M,[]⟩ (d+1)) (λr=>PV.ae 0 (bF r)) λp r hr=>by
  have h1:=hM.row r (aaj hr);have h2:(bF r).take nb=bF r:=aaB (by rw[jx];omega);simp[eo,aC,EZ,hr,aD,h2,cb]
noncomputable def mC (A B:List aB)(m:Nat):List (List Bool):=(A.take m).map λx=>B.map (ec x)
noncomputable def wj (A B:List aB):Rel:=λM p q=>Gv M (bf A p) (bf B q)
noncomputable def Gz (A B:List aB):List (List Bool):=B4 (wj A B) A.length B.length (mC A B A.length)
theorem uq (A B:List aB){m:Nat}(h:m<=A.length):oB m B.length (mC A B m):=⟨by simp[mC];omega,λl hl=>by
 obtain⟨x,_,rfl⟩:=aaq.1 hl;exact aam _⟩
theorem GA (A B:List aB){m:Nat}{x:aB}(h:A[m]?=some x):mC A B (m+1)=mC A B m++[B.map (ec x)]:=by
 unfold mC;rw[aaH,h,aaR];rfl
theorem ku {A:List aB}{p:Nat}{x:aB}(h:A[p]?=some x):bf A p=x:=by
 have:=(aak.1 h).1;have h2:=cC (l:=A) (i:=p) (by omega) (by omega);rw[aaU,h]at h2;exact(Option.some.inj h2).symm
theorem Jb {A B:List aB}{p q:Nat}(hp:p<A.length)(hq:q<B.length):gq (mC A B A.length) p q=ec (bf A p) (bf B q):=by
 obtain⟨x,hx⟩:=get_some hp;obtain⟨y,hy⟩:=get_some hq;rw[ku hx,ku hy];unfold gq mC;simp[hx,hy]
def Below (A B:List aB)(M:List (List Bool)):Prop:=∀p q:Nat,gq M p q=true->ec (bf A p) (bf B q)=true
theorem DV {A B:List aB}{p q:Nat}(h:gq (mC A B A.length) p q=true):ec (bf A p) (bf B q)=true:=by
 unfold gq mC at h;simp only[Int.toNat_natCast,List.take_length,List.getD_eq_getElem?_getD,List.getElem?_map]at h;cases hx:A[p]? with
 |none=>simp[hx]at h
 |some x=>
  rw[hx]at h;simp only[Option.map_some,Option.getD_some,List.getElem?_map]at h;cases hy:B[q]? with
  |none=>simp[hy]at h
  |some y=>
   rw[hy]at h;rw[ku hx,ku hy];exact h
theorem Below.set {A B:List aB}{na nb p q:Nat}{M:List (List Bool)}(h:Below A B M)(hM:oB na nb M)(hp:p<na)(hq:q<nb):Below A B (tP M p q):=λp' q' he=>by
 rw[B3 hM hp hq]at he;split at he
 .cases he
 .exact h p' q' he
structure B5 (A:List aB):Prop where
 ok:∀t∈A,t.ok
 short:∀t∈A,t.short
 len:A.length<=32
 kind:∀t∈A,t.kind<=9
 use:∀t∈A,Y2 A.length (oN t)
theorem yA {t:aB}{u:Int×Int}(h:u∈oN t)(h9:1<=t.kind/\t.kind<=9):u.2∈bw t:=by
 unfold oN nX at h;rcases aaY.1 h with h|h
 .rcases aaY.1 h with h|h
  .obtain⟨m,hm,rfl⟩:=aaq.1 h;exact vR hm
  .split at h
   .rename_i hk;simp only[List.mem_singleton]at h;subst h;unfold bw iY;simp[hk]
   .simp at h
 .split at h
  .rename_i hk;simp only[List.mem_singleton]at h;subst h;exact sx (by omega)
  .simp at h
def GB (w na nb m:Nat)(r:List Bool):List V:=(yy w na nb m).set m (dn (m+1) (bF r))
theorem Jc {w na nb m:Nat}(h:m<na):GB w na nb m []=yy w na nb m:=by
 unfold GB;apply aa0;intro i;by_cases e:m=i
 .subst e;rw[aaG (by rw[oC (by omega)];exact h)];unfold yy gJ;rw[List.getElem?_append_right (by simp;omega),List.getElem?_replicate,if_pos (by simp;omega)];rfl
 .rw[aaL e]
theorem Jd {na nb m:Nat}{r:List Bool}(h:m<na)(hr:r.length=nb+1):GB nb na (nb+1) m r=yy nb na (nb+1) (m+1):=by
 rw[<- Ln h];unfold GB;cases r with
 |nil=>simp at hr
 |cons b r=>
  obtain rfl:r.length=nb:=by simpa using hr
  simp[bF,dn]
theorem Je {w:Nat}{M:List (List Bool)}{r:List Bool}(h:r.length=w+1):tQ w M++cG 1 (bF r)=tQ w (M++[r]):=by
 cases r with
 |nil=>simp at h
 |cons b r=>
  obtain rfl:r.length=w:=by simpa using h
  rw[<- Ja];simp[bF,cG]
theorem Lr {w na nb m:Nat}{r:List Bool}(h:m<na):(GB w na nb m r)[m]?=some (dn (m+1) (bF r)):=by
 unfold GB;rw[aaG (by rw[oC (by omega)];exact h)]
theorem Ls {w na nb m:Nat}{r r':List Bool}:(GB w na nb m r).set m (dn (m+1) (bF r'))=GB w na nb m r':=by
 unfold GB;rw[List.set_set]
theorem Lt {w na nb m:Nat}{r:List Bool}(h:m<na):(GB w na nb m r).length=na:=by
 unfold GB;rw[abe,oC (by omega)]
theorem Lu (n k:Nat)(rows:List (List PV))(r:List PV):(uf n k rows r).all=none:=by cases rows<;>rfl
theorem Q5 (n k:Nat)(rows:List (List PV))(r:List PV):(uf n k rows r).bx=none:=by cases rows<;>rfl
theorem Q6 (n k:Nat)(rows:List (List PV))(r:List PV):(uf n k rows r).mp=none:=by cases rows<;>rfl
theorem GC (n k:Nat)(rows:List (List PV))(r:List PV):(uf n k rows r).oX=false:=by cases rows<;>rfl
theorem Lv {α:Type}(o:Option α)(eq:α->α->Bool):kN o none eq=true:=by cases o<;>rfl
set_option maxHeartbeats 16000000 in
theorem r478 (t u:Nat)(A0 B0:List aB)(hA:B5 A0)(hB:B5 B0)(hb0:1<=B0.length):res A ay 478 [.agg [.ae t (A0.map aB.c)],.agg [.ae u (B0.map aB.c)],.bool false]=some [.ae 0 (B1 (λ_=>0) (Gz A0 B0))]:=by
 have la:=hA.len;have lb:=hB.len;obtain⟨G,hG⟩:∃G,Gz A0 B0=G:=⟨_,rfl⟩;obtain⟨w,hw⟩:∃w,B0.length=w+1:=⟨B0.length - 1,by omega⟩;rw[hG];refine ai a478 rfl rfl ?_;simp only[F478,PN];simp(disch:=omega)only[go_sem];refine W.dx A0.length (λm=>⟨[(2,.pv (.bool false)),(3,.ptr 3 0),(4,.ptr 4 0),(7,.ptr 7 0),(22,.pv (.ae t (A0.map aB.c))),(23,.pv (.int .i64 A0.length)),(24,.pv (.int .i64 m))],⟨[(3,[.pv (.ae t (A0.map aB.c))]),(4,[.pv (.ae u (B0.map aB.c))]),(7,[.own 0 0 0 A0.length])],⟨0,1,.inr (dF (yy w A0.length B0.length m))⟩::tQ w (mC A0 B0 m),[]⟩⟩) (λ_=>True) (by rw[I9];rfl) trivial λm hm _=>?_;have hxl:=oC (w:=w) (nb:=B0.length) hm;have hbl:=(uq A0 B0 hm).len;simp(disch:=omega)only[go_sem];refine Br.aF (λh=>?_) (λh=>?_)
 .obtain⟨x,hx⟩:=get_some (l:=A0) (k:=m) (by omega);simp(disch:=omega)only[go_sem,hx,Option.map_some,aB.c];refine W.dx B0.length (λq=>⟨[(2,.pv (.bool false)),(3,.ptr 3 0),(4,.ptr 4 0),(7,.ptr 7 0),(8,.pv (.int .i64 m)),(9,.ptr 9 0),(22,.pv (.ae t (A0.map aB.c))),(23,.pv (.int .i64 A0.length)),(24,.pv (.int .i64 m)),(30,.pv (.ae u (B0.map aB.c))),(31,.pv (.int .i64 B0.length)),(32,.pv (.int .i64 q))],⟨[(3,[.pv (.ae t (A0.map aB.c))]),(4,[.pv (.ae u (B0.map aB.c))]),(7,[.own 0 0 0 A0.length]),(9,x.c.map .pv)],⟨0,1,.inr (dF (GB w A0.length B0.length m ((B0.take q).map (ec x))))⟩::(tQ w (mC A0 B0 m)++cG 1 (bF ((B0.take q).map (ec x)))),[]⟩⟩) (λ_=>True) ?_ trivial λq hq _=>?_
  .rw[List.take_zero,List.map_nil,Jc (by omega)];simp[bF,cG,aB.c]
  obtain⟨row,hrow⟩:∃row,(B0.take q).map (ec x)=row:=⟨_,rfl⟩;have hrl:row.length=q:=by rw[<- hrow,aam,aaA];omega
  rw[hrow];simp(disch:=omega)only[go_sem];refine Br.aF (λh=>?_) (λh=>?_)
  .obtain⟨y,hy⟩:=get_some (l:=B0) (k:=q) (by omega);have h488:=r488 x y (hA.ok x (aaj hx)) (hB.ok y (aaj hy));have hnx:(B0.take (q+1)).map (ec x)=row++[ec x y]:=by
    rw[aaH,hy,aaR,hrow];rfl
   generalize ec x y=e at h488 hnx;have hxg:=Lr (w:=w) (na:=A0.length) (nb:=B0.length) (m:=m) (r:=row) (by omega);have hxl':=Lt (w:=w) (na:=A0.length) (nb:=B0.length) (m:=m) (r:=row) (by omega);have hxs:=Ls (w:=w) (na:=A0.length) (nb:=B0.length) (m:=m) (r:=row) (r':=row++[e]);have hg:=λbx mp (a:aL)=>grow bx mp (a::tQ w (mC A0 B0 m)) 1 (bF row) [.bool e] rfl (by rw[jx];omega);have hga:=λbx mp (a:aL)=>fy bx mp (a::tQ w (mC A0 B0 m)) 1 (bF row) [.bool e];simp only[List.length_cons,Lq,hbl,List.cons_append]at hg hga;have hsn:bF row++[[PV.bool e]]=bF (row++[e]):=by simp[bF]
   rw[hsn]at hg hga;have hst:=BL (id:=0) (row:=m) (aw:=0) (xs:=GB w A0.length B0.length m row) (y:=dn (m+1) (bF (row++[e]))) (by omega) (KN _ _);rw[hxs]at hst;unfold aB.c at h488;simp(disch:=omega)only[go_sem,hst,hy,Option.map_some,aB.c,h488,hxg,List.map_cons,List.map_nil,hg,hga,Lu,Q5,Q6,GC,Lv,Option.isNone_none,Option.map_none,Bool.not_false,Bool.and_true];refine .of (by omega) ?_ trivial;show _=St.mk _ _;rw[hnx];rfl
  .obtain rfl:q=B0.length:=by omega
   rw[aaQ]at hrow;have hf:=Jd (na:=A0.length) (nb:=w) (m:=m) (r:=row) (by omega) (by omega);rw[<- hw]at hf;have hba:=Je (w:=w) (M:=mC A0 B0 m) (r:=row) (by omega);simp(disch:=omega)only[go_sem];refine .of (by omega) ?_ trivial;show _=St.mk _ _;rw[GA _ _ hx,hrow,hba,hf];rfl
 .obtain rfl:m=A0.length:=by omega
  clear h hxl hbl;simp(disch:=omega)only[go_sem];generalize hna:A0.length=na at *;generalize hnb:B0.length=nb at *;have hM0:oB na nb (mC A0 B0 na):=by
   have:=uq A0 B0 (aau _);rw[hna,hnb]at this;exact this
  have hB0:Below A0 B0 (mC A0 B0 na):=λp q he=>by
   rw[<- hna]at he;exact DV he
  have hG':B4 (wj A0 B0) na nb (mC A0 B0 na)=G:=by
   rw[<- hG,<- hna,<- hnb];rfl
  have hrt:(dF (yy w na nb na)).take na=dF (yy w na nb na):=aaB (by rw[Gd,oC (aau _)];exact aau _);have hxl:=oC (w:=w) (na:=na) (nb:=nb) (aau _);refine W.ET (λ(s:List (List Bool)×Bool)=>⟨[(3,.ptr 3 0),(4,.ptr 4 0),(7,.ptr 7 0),(12,.pv (.bool s.2))],⟨[(3,[.pv (.ae t (A0.map aB.c))]),(4,[.pv (.ae u (B0.map aB.c))]),(7,[.own 0 0 0 na])],⟨0,1,.inr (dF (yy w na nb na))⟩::tQ w s.1,[]⟩⟩) (λs=>Q2 G (wj A0 B0) na nb s/\Below A0 B0 s.1) I6 (mC A0 B0 na,true) rfl ⟨⟨hM0,hG'⟩,hB0⟩ λs hs=>?_;obtain⟨M,f⟩:=s;obtain⟨hs,hb⟩:=hs;dsimp only at hb;cases f with
  |false=>
   have hkp:=Gy (w:=w) hs.1;have hMG:M=G:=hs.2;subst hMG;simp(disch:=omega)only[go_sem,hrt,hkp]
  |true=>
   have hM:=hs.1;dsimp only at hM;simp(disch:=omega)only[go_sem];refine W.Mm na (I4 (wj A0 B0) nb) (M,false) (λp s=>⟨[(3,.ptr 3 0),(4,.ptr 4 0),(7,.ptr 7 0),(12,.pv (.bool s.2)),(53,.pv (.ae t (A0.map aB.c))),(54,.pv (.int .i64 na)),(55,.pv (.int .i64 p))],⟨[(3,[.pv (.ae t (A0.map aB.c))]),(4,[.pv (.ae u (B0.map aB.c))]),(7,[.own 0 0 0 na])],⟨0,1,.inr (dF (yy w na nb na))⟩::tQ w s.1,[]⟩⟩) (λ_ s=>oB na nb s.1/\Below A0 B0 s.1) (by simp only[hna];rfl) ⟨hM,hb⟩ (λp s hp _ hi=>?_) (λs hse hi=>?_)
   .obtain⟨x,hx⟩:=get_some (l:=A0) (k:=p) (by omega);have hxm:=aaj hx;have h490:=r490 x (hA.short x hxm) (hA.kind x hxm);unfold aB.c at h490;simp(disch:=omega)only[go_sem];refine Br.aF (λh=>?_) (λh=>(h (by omega)).elim);simp(disch:=omega)only[go_sem,hx,Option.map_some,aB.c];refine W.Mm nb (I3 (wj A0 B0) p) s (λq s=>⟨[(3,.ptr 3 0),(4,.ptr 4 0),(7,.ptr 7 0),(12,.pv (.bool s.2)),(13,.pv (.int .i64 p)),(14,.ptr 14 0),(53,.pv (.ae t (A0.map aB.c))),(54,.pv (.int .i64 na)),(55,.pv (.int .i64 p)),(61,.pv (.ae u (B0.map aB.c))),(62,.pv (.int .i64 nb)),(63,.pv (.int .i64 q))],⟨[(3,[.pv (.ae t (A0.map aB.c))]),(4,[.pv (.ae u (B0.map aB.c))]),(7,[.own 0 0 0 na]),(14,x.c.map .pv)],⟨0,1,.inr (dF (yy w na nb na))⟩::tQ w s.1,[]⟩⟩) (λ_ s=>oB na nb s.1/\Below A0 B0 s.1) (by simp only[hnb];rfl) hi (λq s hq _ hi=>?_) (λs hse hi=>?_)
    .obtain⟨N,f⟩:=s;obtain⟨hN,hNb⟩:=hi;dsimp only at hN hNb;obtain⟨l,e1,e2,e3⟩:=hN.get (p:=(p:Int)) (q:=(q:Int)) (by omega) (by omega);rw[aaU]at e1 e3;obtain⟨y,hy⟩:=get_some (l:=B0) (k:=q) (by omega);have hym:=aaj hy;have h490':=r490 y (hB.short y hym) (hB.kind y hym);unfold aB.c at h490';have hld:=Gx (w:=w) hN;have hxg:=Lo (w:=w) (na:=na) (nb:=nb) (m:=na) (i:=p) (by omega) (by omega);have hset:tQ w (N.set p (l.set q false))=tQ w (tP N p q):=by
      unfold tP;rw[aat,e1];rfl
     have hst:I3 (wj A0 B0) p (N,f) q=if (gq N p q&&!Gv N x y)=true then (tP N p q,true) else (N,f):=by
      unfold I3 wj;rw[ku hx,ku hy]
     have hin:oB na nb (I3 (wj A0 B0) p (N,f) q).1/\Below A0 B0 (I3 (wj A0 B0) p (N,f) q).1:=by
      refine⟨I8 hN hp,?_⟩;rw[hst];split
      .exact hNb.set hN hp hq
      .exact hNb
     have hul:=B2 x;have hxs:=(hA.short x hxm).aO;have hul':=B2 y;have hys:=(hB.short y hym).aO;have h489:=λt u s v=>r489 t u s v na nb (λ_=>1) (oN x) (oN y) N hN (by omega) (hna ▸ hA.use x hxm) (hnb ▸ hB.use y hym) (by omega) (by omega);have hrel:Gv N x y=wP (λu v=>gq N u.2 v.2) (oN x) (oN y):=rfl;rw[<- hrel]at h489;generalize Gv N x y=r at h489 hst;simp(disch:=omega)only[go_sem,hxg,e1];refine Br.aF (λh=>?_) (λh=>(h (by omega)).elim);simp(disch:=omega)only[go_sem,hy,Option.map_some,aB.c];cases he:gq N p q with
     |false=>
      rw[he]at e3 hst;rw[if_neg (by simp)]at hst;simp(disch:=omega)only[go_sem,hxg,e1,e3];rw[hst]at hin |-;exact cV.of rfl hin
     |true=>
      rw[he]at e3 hst;rw[aa8]at hst;simp(disch:=omega)only[go_sem,hxg,e1,e3,hrt,hld,h490,h490',h489];cases r with
      |true=>
       rw[if_neg (by simp)]at hst;simp(disch:=omega)only[go_sem];rw[hst]at hin |-;exact cV.of rfl hin
      |false=>
       rw[if_pos (by simp)]at hst;simp(disch:=omega)only[go_sem,hxg,e1,hset];rw[hst]at hin |-;exact cV.of rfl hin
    .have hr:I4 (wj A0 B0) nb _ p=s:=hse.symm;simp(disch:=omega)only[go_sem];rw[hr];exact cV.of rfl hi
   .have hr:J1 (wj A0 B0) na nb (M,false)=s:=hse.symm;have hk:=I7 hs (Q3 hs.1);rw[hr]at hk;simp(disch:=omega)only[go_sem];exact⟨s,⟨hk.1,hi.2⟩,hk.2,rfl⟩
theorem zG {p:aB}(h:dA p=true):1<=p.kind:=by
 unfold dA at h;simp only[Bool.and_eq_true,decide_eq_true_eq]at h;exact h.1.1
structure VT (A:List aB):Prop where
 l:A.length<=2147483648
 o:∀t∈A,t.ok
 s:∀t∈A,t.short
 v:bG A=0
theorem VT.wC {A:List aB}(h:VT A):B5 A:=by
 have hs:=bB h.v;exact⟨h.o,h.s,hs.len,λt ht=>nD (hs.own t ht),λt ht u hu=>hs.DH t ht _ (yA hu ⟨zG (hs.own t ht),nD (hs.own t ht)⟩)⟩
theorem r477 (t:Nat)(A0:List aB)(x:Int)(h:VT A0)(hx:0<=x/\x<A0.length):res A ay 477 [.agg [.ae t (A0.map aB.c),.int .i64 x]]=some [.int .i64 0]:=by
 have h267:=λv=>r267 v A0 h.l h.o h.s;rw[h.v]at h267;have hl:=h.l;obtain⟨x0,x1⟩:=hx;have e1:decide (x<0)=false:=decide_eq_false (by omega);have e2:decide ((A0.length:Int)<=x)=false:=decide_eq_false (by omega);refine ai a477 rfl rfl ?_;simp only[F477,PM];simp(disch:=omega)only[go_sem,h267,e1,e2]
noncomputable def eC (A B:List aB)(x y:Int):Bool:=gq (Gz A B) x y
theorem E0 (A B:List aB):oB A.length B.length (Gz A B):=Lm (uq A B (aau _))
theorem r468 (t u:Nat)(A0 B0:List aB)(x y:Int)(hA:VT A0)(hB:VT B0)(hx:0<=x/\x<A0.length)(hy:0<=y/\y<B0.length):res A ay 468 [.agg [.ae t (A0.map aB.c),.int .i64 x],.agg [.ae u (B0.map aB.c),.int .i64 y],.bool false]=some [.bool (eC A0 B0 x y)]:=by
 have h1:=λt=>r477 t A0 x hA hx;have h2:=λt=>r477 t B0 y hB hy;have h3:=λt u=>r478 t u A0 B0 hA.wC hB.wC (by omega);obtain⟨l,g1,g2,g3⟩:=(E0 A0 B0).get hx hy;have g4:=(E0 A0 B0).len;have hw:gq (Gz A0 B0) x y=eC A0 B0 x y:=rfl;rw[hw]at g3;generalize eC A0 B0 x y=G at *;generalize Gz A0 B0=M at *;have hal:=hA.wC.len;have hbl:=hB.wC.len;obtain⟨x0,x1⟩:=hx;obtain⟨y0,y1⟩:=hy;refine ai a468 rfl rfl ?_;simp only[F468,PE];simp(disch:=omega)only[go_sem,h1,h2,h3,fH,g1,g3]
theorem r456 (t u:Nat)(A0 B0:List aB)(x y:Int)(hA:VT A0)(hB:VT B0)(hx:0<=x/\x<A0.length)(hy:0<=y/\y<B0.length):res A ay 456 [.agg [.ae t (A0.map aB.c),.int .i64 x],.agg [.ae u (B0.map aB.c),.int .i64 y]]=some [.bool (eC A0 B0 x y)]:=by
 have h1:=λt u=>r468 t u A0 B0 x y hA hB hx hy;refine ai a456 rfl rfl ?_;simp only[F456,Px];simp(disch:=omega)only[go_sem,h1]
def Y6 (R:Int->Int->Prop):Option Int->Option Int->Prop
 |none,none=>True
 |some x,some y=>R x y
 |_,_=>False
def Ev (a b:List Edge):Nat->Int->Int->Prop
 |0,_,_=>True
 |j+1,p,q=>∀d x,Y6 (Ev a b j) (bz p d x a) (bz q d x b)
theorem Ev.refl (a:List Edge):∀(j:Nat)(p:Int),Ev a a j p p
 |0,_=>trivial
 |j+1,p=>λd x=>by
  cases bz p d x a with
  |none=>trivial
  |some t=>exact Ev.refl a j t
theorem aT.Good.Lw {a:aT}(h:a.Good){p t:Int}{d:Bool}{x:Int}(hn:bz p d x a.aa=some t):a.inr t:=by
 have:=ff.1 (h.fit _ ((fU h.oI).1 hn));exact⟨this.2.2.1,this.2.2.2.1⟩
open Classical in
noncomputable def ae (a b:List Edge):Nat->Int->Int->Nat
 |0,_,_=>0
 |k+1,p,q=>if ae a b k p q≠0 then ae a b k p q else if Ev a b (k+1) p q then 0 else k+1
theorem gm {es:List Edge}{p:Int}{e:Edge}:e∈aK es p↔e∈es/\e.fr=p:=by simp[aK]
def Mv.lt (a b:Mv):Bool:=if a.send≠b.send then b.send else decide (a.label<b.label)
def Q7 (D:List (List Int))(n:Nat)(p:Nat):Nat:=((List.range n).find? λ(q:Nat)=>decide (Y3 D p q=0)).getD 0
def aT.Ly (a:aT):List Int:=(List.range a.aj.toNat).map λp=>(Q7 (differ a a) a.aj.toNat p:Int)
def aT.cl (a:aT)(v:Int):Int:=a.Ly.getD v.toNat 0
end Go.Pv
