/-
 What the functions of the law give.
-/
import Derived.Test.YtpchfogcccagjaaGreatC7
set_option linter.unusedSimpArgs false
set_option linter.unusedVariables false
open List renaming mem_of_getElem? → aaj, getElem?_eq_some_iff → aak, getElem?_eq_getElem → aal, length_map → aam, getElem?_append_left → aao, getElem?_map → aap, mem_map → aaq, length_append → aas, getD_eq_getElem?_getD → aat, getElem?_append_right → aav, getElem?_take → aax, append_assoc → aay, mem_cons_of_mem → aaz, length_take → aaA, take_of_length_le → aaB, eq_nil_of_length_eq_zero → aaD, getElem?_set_self → aaG, take_add_one → aaH, getElem?_set_ne → aaL, mem_cons_self → aaN, take_length → aaQ, ext_getElem? → aa0, getElem?_drop → aa1, mem_append_left → aa2, map_map → aa6, mem_append_right → aa9, append_nil → abb, length_set → abe, take_append_drop → abr, length_replicate → abu, mem_flatMap → ab5, getElem?_set → aca, set_append_right → acg, map_eq_nil_iff → acn
open Nat renaming le_refl → aau, zero_le → aaS, le_trans → aa5, add_assoc → abx, add_zero → ab4, sub_self → acf, min_eq_left → aco
open Option renaming map_eq_some_iff → aaT, map_some → ab7
open Int renaming toNat_natCast → aaU
namespace Go.Pv
theorem BP (l:List Int):aY 1 (.inl (ints l))=true:=by simp[aY,ints]
theorem IV (l m:List Int):ints l++ints m=ints (l++m):=by simp[ints]
theorem Gn {src:V}(bx:List (Nat×List V))(mp:List (List (PV×PV)))(l:List Int)(hs:∀h,bj h src=some (.inl (ints l),none))(h0:l≠[])(hm:l.length<=2147483648):aJ ⟨bx,[],mp⟩ 1 (.tl []) src=some (.own 0 0 0 l.length,{push:=[⟨0,1,.inl (ints l)⟩],base:=0}):=by
 have h1:¬(ints l).length=0:=by rw[aN];exact λe=>h0 (aaD e)
 unfold aJ;rw[hs];dsimp only;rw[if_pos (BP l)];simp only[aE,aW,List.nil_append,List.length_nil,Nat.zero_add];rw[if_neg h1,if_pos ⟨by rw[aN];exact hm,by rfl⟩,aN]
theorem Ld {src:V}(bx:List (Nat×List V))(mp:List (List (PV×PV)))(v n:Nat)(l m:List Int)(hn:n=l.length)(hs:∀h,bj h src=some (.inl (ints m),none))(h0:m≠[])(hm:l.length+m.length<=2147483648):aJ ⟨bx,[⟨v,1,.inl (ints l)⟩],mp⟩ 1 (.own 0 v 0 n) src=some (.own 0 (v+1) 0 (l++m).length,{ar:=some (0,⟨v+1,1,.inl (ints (l++m))⟩)}):=by
 subst hn;have h1:¬(ints m).length=0:=by rw[aN];exact λe=>h0 (aaD e)
 have h2:aC ⟨bx,[⟨v,1,.inl (ints l)⟩],mp⟩ 0 v=some ⟨v,1,.inl (ints l)⟩:=by simp[aC]
 have h3:((ints l).drop 0).take l.length=ints l:=by rw[List.drop_zero];exact List.take_of_length_le (by simp[ints])
 unfold aJ;rw[hs];dsimp only;rw[if_pos (BP m),h2];simp only[aE];rw[if_neg h1,if_pos ⟨by simp[aL.size,ints],by trivial,by unfold aU;rw[aN];exact hm,by simp⟩];simp only[aD,h3,aW,IV,aN,List.length_append]
def JZ:Nat->List Int->V
 |0,_=>.tl []
 |v+1,l=>.own 0 v 0 l.length
def J0:Nat->List Int->List aL
 |0,_=>[]
 |v+1,l=>[⟨v,1,.inl (ints l)⟩]
def YT:Nat->List Int->Tn
 |0,l=>{push:=[⟨0,1,.inl (ints l)⟩],base:=0}
 |v+1,l=>{ar:=some (0,⟨v+1,1,.inl (ints l)⟩)}
theorem DK (bx:List (Nat×List V))(mp:List (List (PV×PV)))(n:Nat)(l m:List Int)(h0:n=0->l=[])(h1:m≠[])(hm:l.length+m.length<=2147483648):aJ ⟨bx,J0 n l,mp⟩ 1 (JZ n l) (.tl (ints m))=some (JZ (n+1) (l++m),YT n (l++m)):=by
 cases n with
 |zero=>
  obtain rfl:=h0 rfl;exact Gn bx mp m (λ_=>rfl) h1 (by omega)
 |succ v=>exact Ld bx mp v l.length l m rfl (λ_=>rfl) h1 hm
theorem we (bx:List (Nat×List V))(mp:List (List (PV×PV)))(n:Nat)(l m:List Int):(YT n m).apply ⟨bx,J0 n l,mp⟩=⟨bx,J0 (n+1) m,mp⟩:=by cases n<;>simp[YT,J0,Tn.apply]
@[go_sem] theorem VQ (kb:List Nat)(n:Nat)(l:List Int):ez kb (JZ n l)=JZ n l:=by cases n<;>rfl
theorem sD:∀l:List j8,(fp l).length=2*l.length
 |[]=>rfl
 |c::l=>by
  have:=sD l;simp only[fp,List.flatMap_cons,List.length_append,List.length_cons,List.length_nil]at this |-;omega
theorem BQ {α β:Type}(f:α->β){l:List α}{k:Nat}{x:α}(h:l[k]?=some x):(l.map f).take (k+1)=(l.map f).take k++[f x]:=by
 rw[aaH,aap,h];rfl
set_option maxHeartbeats 4000000 in
theorem r417 (t u x y:Nat)(v:eV)(hn:(eN v).length<=1000000)(h1:v.calls.length<=2^63 - 1)(h2:v.az.length<=2^63 - 1)(h3:v.aI.length<=2^63 - 1)(h4:∀w∈v.az,w.msgs.length<=2^63 - 1):res A ay 417 [.agg (eY t u x y v)]=some [.ae 0 (ints (xV (eN v)))]:=by
 refine ai a417 rfl rfl ?_;simp only[F417,Pa,eY];have hl:(fp v.calls).length+(fF v.az).length+(pM v.aI).length<=1000000:=by
  unfold eN at hn;rw[aas,aas]at hn;exact hn
 simp(disch:=omega)only[go_sem];refine W.dx v.calls.length (λk=>⟨[(1,.ptr 1 0),(3,JZ k (fp (v.calls.take k))),(13,.pv (.ae u (bm v.calls))),(14,.pv (.int .i64 v.calls.length)),(15,.pv (.int .i64 k))],⟨[(1,[.pv (.str v.name),.pv (.ae t (v.types.map aB.c)),.pv (.ae u (bm v.calls)),.pv (.ae x (az v.az)),.pv (.ae y (cg v.aI))])],J0 k (fp (v.calls.take k)),[]⟩⟩) (λ_=>True) rfl trivial λk hk _=>?_;simp(disch:=omega)only[go_sem];refine Br.aF (λc1=>?_) (λc1=>?_)
 .obtain⟨c,hc⟩:=get_some (l:=v.calls) (k:=k) (by omega);have hkl:=oV (λc:j8=>[c.lK,c.rep]) v.calls k;have hap:=λbx mp=>DK bx mp k (fp (v.calls.take k)) [c.lK,c.rep] (λh=>by subst h;rfl) (by simp) (by simp only[fp,List.length_cons,List.length_nil]at hl hkl |-;omega);have hin:ints [c.lK,c.rep]=[[.int .i64 c.lK],[.int .i64 c.rep]]:=rfl;rw[hin]at hap;have hsn:fp (v.calls.take (k+1))=fp (v.calls.take k)++[c.lK,c.rep]:=sk _ hc;simp(disch:=omega)only[go_sem,hc,Option.map_some,hap,we];exact .of (by omega) (by rw[hsn];rfl) trivial
 obtain rfl:k=v.calls.length:=by omega
 clear hk c1;rw[aaQ];have hcl:=sD v.calls;simp(disch:=omega)only[go_sem];refine W.dx v.az.length (λk=>⟨[(1,.ptr 1 0),(3,JZ (v.calls.length+(fF (v.az.take k)).length) (fp v.calls++fF (v.az.take k))),(28,.pv (.ae x (az v.az))),(29,.pv (.int .i64 v.az.length)),(30,.pv (.int .i64 k))],⟨[(1,[.pv (.str v.name),.pv (.ae t (v.types.map aB.c)),.pv (.ae u (bm v.calls)),.pv (.ae x (az v.az)),.pv (.ae y (cg v.aI))])],J0 (v.calls.length+(fF (v.az.take k)).length) (fp v.calls++fF (v.az.take k)),[]⟩⟩) (λ_=>True) (by simp[fF]) trivial λk hk _=>?_;simp(disch:=omega)only[go_sem];refine Br.aF (λc1=>?_) (λc1=>?_)
 .obtain⟨w,hw⟩:=get_some (l:=v.az) (k:=k) (by omega);have hkl:(fF (v.az.take k)).length+(nM w.msgs).length<=(fF v.az).length:=by
   have h5:=oV (λw:dt=>nM w.msgs) v.az (k+1);rw[sk _ hw,aas]at h5;exact h5
  have hsn:fF (v.az.take (k+1))=fF (v.az.take k)++nM w.msgs:=sk _ hw;have hml:=h4 w (aaj hw);have hmn:(nM w.msgs).length=w.msgs.length:=aam _;have hmm:w.msgs.map eU.c=msgs w.msgs:=rfl;simp(disch:=omega)only[go_sem,hw,Option.map_some,hmm];refine W.dx w.msgs.length (λj=>⟨[(1,.ptr 1 0),(3,JZ (v.calls.length+(fF (v.az.take k)).length+j) (fp v.calls++fF (v.az.take k)++(nM w.msgs).take j)),(28,.pv (.ae x (az v.az))),(29,.pv (.int .i64 v.az.length)),(30,.pv (.int .i64 k)),(35,.pv (.ae 0 (msgs w.msgs))),(36,.pv (.int .i64 w.msgs.length)),(37,.pv (.int .i64 j))],⟨[(1,[.pv (.str v.name),.pv (.ae t (v.types.map aB.c)),.pv (.ae u (bm v.calls)),.pv (.ae x (az v.az)),.pv (.ae y (cg v.aI))])],J0 (v.calls.length+(fF (v.az.take k)).length+j) (fp v.calls++fF (v.az.take k)++(nM w.msgs).take j),[]⟩⟩) (λ_=>True) (by simp) trivial λj hj _=>?_;simp(disch:=omega)only[go_sem];refine Br.aF (λc2=>?_) (λc2=>?_)
  .obtain⟨m,hm⟩:=get_some (l:=w.msgs) (k:=j) (by omega);have htl:((nM w.msgs).take j).length=j:=by rw[aaA];omega
   have hap:=λbx mp=>DK bx mp (v.calls.length+(fF (v.az.take k)).length+j) (fp v.calls++fF (v.az.take k)++(nM w.msgs).take j) [m.ty] (λh=>List.eq_nil_of_length_eq_zero (by rw[List.length_append,List.length_append];omega)) (by simp) (by rw[List.length_append,List.length_append,List.length_singleton];omega);have hin:ints [m.ty]=[[.int .i64 m.ty]]:=rfl;rw[hin]at hap;have hms:(nM w.msgs).take (j+1)=(nM w.msgs).take j++[m.ty]:=BQ _ hm;simp(disch:=omega)only[go_sem,hm,Option.map_some,hap,we];refine .of (by omega) ?_ trivial;rw[hms,<- aay];rfl
  .obtain rfl:j=w.msgs.length:=by omega
   have ht:(nM w.msgs).take w.msgs.length=nM w.msgs:=aaB (by omega);rw[ht];simp(disch:=omega)only[go_sem];refine .of (by omega) ?_ trivial;rw[hsn,aas,hmn,<- abx,<- aay];rfl
 obtain rfl:k=v.az.length:=by omega
 clear hk c1;rw[aaQ];simp(disch:=omega)only[go_sem];have htn:(pM v.aI).length=v.aI.length:=aam _;refine W.dx v.aI.length (λk=>⟨[(3,JZ (v.calls.length+(fF v.az).length+k) (fp v.calls++fF v.az++(pM v.aI).take k)),(49,.pv (.ae y (cg v.aI))),(50,.pv (.int .i64 v.aI.length)),(51,.pv (.int .i64 k))],⟨[],J0 (v.calls.length+(fF v.az).length+k) (fp v.calls++fF v.az++(pM v.aI).take k),[]⟩⟩) (λ_=>True) (by simp) trivial λk hk _=>?_;simp(disch:=omega)only[go_sem];refine Br.aF (λc1=>?_) (λc1=>?_)
 .obtain⟨m,hm⟩:=get_some (l:=v.aI) (k:=k) (by omega);have htl:((pM v.aI).take k).length=k:=by rw[aaA];omega
  have hap:=λbx mp=>DK bx mp (v.calls.length+(fF v.az).length+k) (fp v.calls++fF v.az++(pM v.aI).take k) [m.ty] (λh=>List.eq_nil_of_length_eq_zero (by rw[List.length_append,List.length_append];omega)) (by simp) (by rw[List.length_append,List.length_append,List.length_singleton];omega);have hin:ints [m.ty]=[[.int .i64 m.ty]]:=rfl;rw[hin]at hap;have hms:(pM v.aI).take (k+1)=(pM v.aI).take k++[m.ty]:=BQ _ hm;simp(disch:=omega)only[go_sem,hm,Option.map_some,hap,we];refine .of (by omega) ?_ trivial;rw[hms,<- aay];rfl
 obtain rfl:k=v.aI.length:=by omega
 rw[aaB (by omega)];have hroot:fp v.calls++fF v.az++pM v.aI=eN v:=rfl;rw[hroot];have hrl:(eN v).length=2*v.calls.length+(fF v.az).length+v.aI.length:=by rw[<- hroot,aas,aas];omega
 generalize hnn:v.calls.length+(fF v.az).length+v.aI.length=nn;generalize eN v=R at *;cases nn with
 |zero=>
  have hR:R=[]:=aaD (by omega);subst hR;simp only[JZ,J0];simp(disch:=omega)only[go_sem];rfl
 |succ q=>
  have hR:R.length≠0:=by omega
  simp only[JZ,J0];simp(disch:=(first|omega|(simp only[sj];done)|(simp only[sj];omega)))only[go_sem];rw[aaQ];rfl
def VS (d:Int)(s:List Int×List Int)(x:Int):List Int×List Int:=if s.1.getD x.toNat (-1)<0 then (s.1.set x.toNat d,s.2++[x]) else s
def Mx (nx:Int->List Int):Nat->Nat->List Int×List Int->List Int×List Int
 |0,_,s=>s
 |n+1,i,s=>match s.2[i]? with
  |none=>s
  |some v=>Mx nx n (i+1) ((nx v).foldl (VS (s.1.getD v.toNat (-1)+1)) s)
def levels (nx:Int->List Int)(n:Nat)(fr:List Int):List Int:=(Mx nx n 0 (fr.foldl (VS 0) (List.replicate n (-1),[]))).1
@[go_sem] theorem r33e (t:Nat)(n s:Int)(l:List Edge)(hl:l.length<=2000000000):res A ay 33 [.agg [.int .i64 n,.int .i64 s,.ae t (bX l)]]=some (if (⟨n,s,l⟩:aT).err=0 then [.agg [.int .i64 (⟨n,s,l⟩:aT).order.length,.int .i64 0,.ae 0 (bX (nL Edge.lt (kept (⟨n,s,l⟩:aT).order l)))],.int .i64 0] else [.agg [.int .i64 0,.int .i64 0,.ae 0 []],.int .i64 (⟨n,s,l⟩:aT).err]):=r33 t ⟨n,s,l⟩ hl
def fq.from (d:fq)(s:Int):aT:=⟨1+d.n%4,s%(1+d.n%4),d.auto.aa⟩
structure Mv where
 send:Bool
 label:Int
 cls:Int
 deriving DecidableEq,Inhabited
def Mv.c (m:Mv):List PV:=[.bool m.send,.int .i64 m.label,.int .i64 m.cls]
def ZV (l:List Mv):List (List PV):=l.map Mv.c
@[go_sem] theorem Xs:ZV []=[]:=rfl
@[go_sem] theorem Mv.HQ (m:Mv):m.c=[.bool m.send,.int .i64 m.label,.int .i64 m.cls]:=rfl
def IX (es:List Edge)(s:Int)(c:List Int):List Mv:=(es.filter λe=>e.fr==s).map λe=>⟨e.send,e.label,c.getD e.to.toNat 0⟩
def YU (es:List Edge)(c:List Int)(k i:Nat):Bool:=decide (c.getD k 0=c.getD i 0)&&decide (IX es (k:Int) c=IX es (i:Int) c)
def QY (es:List Edge)(c:List Int)(i:Nat):Nat:=((List.range i).find? λk=>YU es c k i).getD i
def VU (n:Nat)(es:List Edge)(c:List Int):List Int:=(List.range n).map λi=>(QY es c i:Int)
def cls (n:Nat)(es:List Edge):Nat->List Int
 |0=>List.replicate n 0
 |j+1=>VU n es (cls n es j)
set_option maxHeartbeats 1000000 in
theorem r416 (w:dt)(h1:w.msgs.length<=2^63 - 1)(h2:w.auto.aa.length<=2^63 - 1):res A ay 416 [.agg w.c,.agg w.c]=some [.bool true]:=by
 refine ai a416 rfl rfl ?_;simp only[F416,O9,dt.c];have hm:w.msgs.map eU.c=msgs w.msgs:=rfl;rw[hm];simp(disch:=omega)only[go_sem];refine W.dx w.msgs.length (λk=>⟨[(2,.ptr 2 0),(3,.ptr 3 0),(5,.pv (.int .i64 k))],⟨[(2,[.pv (.str w.name),.pv (.ae 0 (msgs w.msgs)),.pv (.int .i64 w.auto.aj),.pv (.int .i64 w.auto.start),.pv (.ae 0 (w.auto.aa.map Edge.c))]),(3,[.pv (.str w.name),.pv (.ae 0 (msgs w.msgs)),.pv (.int .i64 w.auto.aj),.pv (.int .i64 w.auto.start),.pv (.ae 0 (w.auto.aa.map Edge.c))])],[],[]⟩⟩) (λ_=>True) rfl trivial λk hk _=>?_;simp(disch:=omega)only[go_sem];refine Br.aF (λc6=>?_) (λc6=>?_)
 .obtain⟨m,hm⟩:=get_some (l:=w.msgs) (k:=k) (by omega);simp(disch:=omega)only[go_sem,hm,Option.map_some];exact .of (by omega) rfl trivial
 .simp(disch:=omega)only[go_sem]
theorem Le {l:List dt}(h:∀w∈l,w.msgs.length<=20):(fF l).length<=20*l.length:=by
 induction l with
 |nil=>simp[fF]
 |cons w l ih=>
  have h1:=ih λx hx=>h x (aaz _ hx);have h2:=h w (aaN ..);have h3:(nM w.msgs).length=w.msgs.length:=aam _;simp only[fF,List.flatMap_cons,List.length_append,List.length_cons]at h1 |-;omega
def AC.one:AC->AC
 |.seq a _=>a
 |c=>c
def AC.two:AC->AC
 |.seq _ b=>b
 |c=>c
def AC.cp:AC->AC
 |.block _ a=>a
 |.loop a=>a
 |.mask _ _ a=>a
 |c=>c
set_option maxHeartbeats 2000000 in
theorem ZW (t1 t2 t3 t4:Nat)(v:eV)(hv:gK v)(hvv:bG v.types=0)(R:List Int)(hR:∀r∈R,0<=r/\r<v.types.length)(hRl:R.length<=1000)(Q:Ex->St->Prop)
  (hQ:∀env,Q (.exit 0) ⟨(1,.ptr 1 0)::(2,.ptr 2 0)::(5,.own 0 0 0 v.types.length)::env,⟨[(1,[.pv (.str v.name),.pv (.ae t1 (v.types.map aB.c)),.pv (.ae t2 (bm v.calls)),.pv (.ae t3 (az v.az)),.pv (.ae t4 (cg v.aI))]),(2,[.pv (.str ⟨#[]⟩),.tl [],.tl [],.tl [],.tl []])],[⟨0,1,.inl (bF (th v.types R))⟩],[]⟩⟩):
  W A ay F408.body.two.two.two.one.two.cp ⟨[(1,.ptr 1 0),(2,.ptr 2 0),(5,.own 0 0 0 v.types.length),(38,.pv (.ae 0 (ints R))),(39,.pv (.int .i64 R.length)),(40,.pv (.int .i64 0))],⟨[(1,[.pv (.str v.name),.pv (.ae t1 (v.types.map aB.c)),.pv (.ae t2 (bm v.calls)),.pv (.ae t3 (az v.az)),.pv (.ae t4 (cg v.aI))]),(2,[.pv (.str ⟨#[]⟩),.tl [],.tl [],.tl [],.tl []])],[⟨0,1,.inl (bF (List.replicate v.types.length false))⟩],[]⟩⟩ Q:=by
 have h32:=(bB hvv).len;have htl:=hv.tl;simp only[F408,pB,AC.one,AC.two,AC.cp]at hQ |-;unfold th at hQ;refine W.fold R (λu r=>oW u (dB v.types r).1) (List.replicate v.types.length false) (λk u=>⟨[(1,.ptr 1 0),(2,.ptr 2 0),(5,.own 0 0 0 v.types.length),(38,.pv (.ae 0 (ints R))),(39,.pv (.int .i64 R.length)),(40,.pv (.int .i64 k))],⟨[(1,[.pv (.str v.name),.pv (.ae t1 (v.types.map aB.c)),.pv (.ae t2 (bm v.calls)),.pv (.ae t3 (az v.az)),.pv (.ae t4 (cg v.aI))]),(2,[.pv (.str ⟨#[]⟩),.tl [],.tl [],.tl [],.tl []])],[⟨0,1,.inl (bF u)⟩],[]⟩⟩) (λ_ u=>u.length=v.types.length) rfl abu (λk r u hr hk _ hu=>?_) (λu hu _=>?_)
 .have h273:=λt=>r273 t v.types r hv.tl hv.to hv.ts;have hin:=pN (T:=v.types) (r:=r);have hlen:=Dd (l:=v.types) (i:=r);generalize (dB v.types r).1=L at *;generalize (dB v.types r).2=e at *;simp(disch:=omega)only[go_sem];refine Br.aF (λc=>?_) (λc=>(c (by omega)).elim);simp(disch:=omega)only[go_sem,hr,h273];refine W.fold L (λu x=>u.set x.toNat true) u (λj w=>⟨[(1,.ptr 1 0),(2,.ptr 2 0),(5,.own 0 0 0 v.types.length),(38,.pv (.ae 0 (ints R))),(39,.pv (.int .i64 R.length)),(40,.pv (.int .i64 k)),(51,.pv (.ae 0 (ints L))),(52,.pv (.int .i64 L.length)),(53,.pv (.int .i64 j))],⟨[(1,[.pv (.str v.name),.pv (.ae t1 (v.types.map aB.c)),.pv (.ae t2 (bm v.calls)),.pv (.ae t3 (az v.az)),.pv (.ae t4 (cg v.aI))]),(2,[.pv (.str ⟨#[]⟩),.tl [],.tl [],.tl [],.tl []])],[⟨0,1,.inl (bF w)⟩],[]⟩⟩) (λ_ w=>w.length=v.types.length) rfl hu (λj x w hx hj _ hw=>?_) (λw hw hwl=>?_)
  .obtain⟨x0,x1⟩:=hin x (aaj hx);simp(disch:=omega)only[go_sem];refine Br.aF (λc=>?_) (λc=>(c (by omega)).elim);simp(disch:=omega)only[go_sem,hx];exact cV.of rfl (by rw[abe,hw])
  .simp(disch:=omega)only[go_sem];exact cV.of (by rw[hw];rfl) (by unfold oW;rw[<- hw];exact hwl)
 .simp(disch:=omega)only[go_sem];rw[hu];exact hQ _
def lJ (T:List aB)(U:List Bool)(k:Nat):List (List PV):=(kH U k).map λ(i:Nat)=>(bf T (i:Int)).c
theorem Gp (T:List aB)(U:List Bool)(k:Nat):(lJ T U k).length=(kH U k).length:=aam _
theorem DL (T:List aB)(U:List Bool)(k:Nat):lJ T U (k+1)=if U.getD k false=true then lJ T U k++[(bf T (k:Int)).c] else lJ T U k:=by
 unfold lJ;rw[vL];split<;>simp
set_option maxHeartbeats 2000000 in
theorem ZX (t1 t2 t3 t4:Nat)(v:eV)(h32:v.types.length<=32)(U:List Bool)(hU:U.length=v.types.length)(Q:Ex->St->Prop)
  (hQ:∀env,Q (.exit 4) ⟨(1,.ptr 1 0)::(2,.ptr 2 0)::(5,.own 0 0 0 v.types.length)::(12,.own 1 0 0 v.types.length)::(13,.ptr 13 0)::env,⟨[(1,[.pv (.str v.name),.pv (.ae t1 (v.types.map aB.c)),.pv (.ae t2 (bm v.calls)),.pv (.ae t3 (az v.az)),.pv (.ae t4 (cg v.aI))]),(2,[.pv (.str ⟨#[]⟩),.tl [],.tl [],.tl [],.tl []]),(13,[.pv (.str v.name),dn 2 (lJ v.types U v.types.length),.tl [],.tl [],.tl []])],⟨0,1,.inl (bF U)⟩::⟨0,1,.inl (ints (oJ U v.types.length v.types.length))⟩::cG 10 (lJ v.types U v.types.length),[]⟩⟩):
  W A ay F408.body.two.two.two.two.two.two.one.two.cp ⟨[(1,.ptr 1 0),(2,.ptr 2 0),(5,.own 0 0 0 v.types.length),(12,.own 1 0 0 v.types.length),(13,.ptr 13 0),(70,.pv (.ae t1 (v.types.map aB.c))),(71,.pv (.int .i64 v.types.length)),(72,.pv (.int .i64 0))],⟨[(1,[.pv (.str v.name),.pv (.ae t1 (v.types.map aB.c)),.pv (.ae t2 (bm v.calls)),.pv (.ae t3 (az v.az)),.pv (.ae t4 (cg v.aI))]),(2,[.pv (.str ⟨#[]⟩),.tl [],.tl [],.tl [],.tl []]),(13,[.pv (.str v.name),.tl [],.tl [],.tl [],.tl []])],[⟨0,1,.inl (bF U)⟩,⟨0,1,.inl (ints (List.replicate v.types.length 0))⟩],[]⟩⟩ Q:=by
 simp only[F408,pB,AC.one,AC.two,AC.cp]at hQ |-;refine W.dx v.types.length (λk=>⟨[(1,.ptr 1 0),(2,.ptr 2 0),(5,.own 0 0 0 v.types.length),(12,.own 1 0 0 v.types.length),(13,.ptr 13 0),(70,.pv (.ae t1 (v.types.map aB.c))),(71,.pv (.int .i64 v.types.length)),(72,.pv (.int .i64 k))],⟨[(1,[.pv (.str v.name),.pv (.ae t1 (v.types.map aB.c)),.pv (.ae t2 (bm v.calls)),.pv (.ae t3 (az v.az)),.pv (.ae t4 (cg v.aI))]),(2,[.pv (.str ⟨#[]⟩),.tl [],.tl [],.tl [],.tl []]),(13,[.pv (.str v.name),dn 2 (lJ v.types U k),.tl [],.tl [],.tl []])],⟨0,1,.inl (bF U)⟩::⟨0,1,.inl (ints (oJ U v.types.length k))⟩::cG 10 (lJ v.types U k),[]⟩⟩) (λ_=>True) (by rw[F2];rfl) trivial λk hk _=>?_;have hnl:=Bv U v.types.length k;simp(disch:=omega)only[go_sem];refine Br.aF (λc=>?_) (λc=>?_)
 .obtain⟨x,hx⟩:=get_some (l:=v.types) (k:=k) (by omega);have hta:bf v.types (k:Int)=x:=by
   unfold bf;rw[aaU,hx];rfl
  have hul:U[k]?=some (U.getD k false):=by
   rw[aat,aal (show k<U.length by omega)];rfl
  have hset:=Iv U v.types.length k;have hnx:=DL v.types U k;have hkl:=Gp v.types U k;have hkn:=ox U k;rw[hta]at hnx;rw[<- hkl]at hset;have hg:=λbx mp a b=>Vr bx mp a b 10 (lJ v.types U k) x.c rfl (by omega);generalize lJ v.types U k=rows at *;generalize U.getD k false=ub at *;unfold aB.c at hg hnx;cases ub with
  |true=>
   rw[if_pos rfl]at hnx;simp(disch:=omega)only[go_sem,hx,Option.map_some,aB.c,hul,hg];refine .of (by omega) ?_ trivial;rw[<- hset,hnx];rfl
  |false=>
   rw[if_neg (by decide)]at hnx;simp(disch:=omega)only[go_sem,hx,Option.map_some,aB.c,hul];refine .of (by omega) ?_ trivial;rw[<- hset,hnx];rfl
 .obtain rfl:k=v.types.length:=by omega
  simp(disch:=omega)only[go_sem];exact hQ _
structure pT (o:Nat)(a b:List aL):Prop where
 len:a.length<=b.length
 get:∀i,i<a.length->i≠o->b[i]?=a[i]?
theorem pT.trans {o:Nat}{a b c:List aL}(h:pT o a b)(g:pT o b c):pT o a c:=⟨aa5 h.len g.len,λi hi ho=>by rw[g.get i (by have:=h.len;omega) ho,h.get i hi ho]⟩
theorem pT.push (o:Nat)(a x:List aL):pT o a (a++x):=⟨by simp,λi hi _=>List.getElem?_append_left hi⟩
theorem pT.set (o:Nat)(a:List aL)(x:aL):pT o a (a.set o x):=⟨by simp,λi _ ho=>List.getElem?_set_ne (λe=>ho e.symm)⟩
theorem Home.QZ {a b:List aL}{o k:Nat}{v:V}{rows:List (List PV)}(h:Home a o k v rows)(g:pT o a b):Home b o k v rows:=by
 rcases h with h|⟨id,aw,h1,h2,h3⟩|h
 .exact .inl h
 .exact .inr (.inl ⟨id,aw,h1,h2,by rw[g.get id (aak.1 h3).1 h2];exact h3⟩)
 .exact .inr (.inr h)
theorem dZ.QZ {a b:List aL}{o:Nat}{row:List V}{cs:List PV}(h:dZ a o row cs)(g:pT o a b):dZ b o row cs:=by
 refine⟨h.1,λi v c h1 h2=>?_⟩;rcases h.2 i v c h1 h2 with h|⟨k,rows,h3,h4⟩
 .exact .inl h
 .exact .inr ⟨k,rows,h3,h4.QZ g⟩
def wg (x:aB)(sv mv:V):List V:=[.pv (.int .i64 x.kind),.pv (.str x.name),.pv (.int .i64 x.low),.pv (.int .i64 x.high),.pv (.int .i64 x.max),sv,mv,.pv (.int .i64 x.key),.pv (.int .i64 x.elem),.pv (.bool x.jO)]
def kr (ar:List aL)(b k:Nat)(v:V)(rows:List (List PV)):Prop:=(v=.tl []/\rows=[])\/∃m,v=.own m 0 0 rows.length/\b<=m/\rows≠[]/\ar[m]?=some ⟨0,k,.inl rows⟩
theorem kr.home {ar:List aL}{b k o:Nat}{v:V}{rows:List (List PV)}(h:kr ar b k v rows)(ho:o<b):Home ar o k v rows:=by
 rcases h with⟨rfl,rfl⟩|⟨m,rfl,h1,_,h2⟩
 .exact .inr (.inr rfl)
 .exact .inr (.inl ⟨m,0,rfl,by omega,h2⟩)
theorem sE {α:Type}{l:List α}{i:Nat}{a:α}(h:l[i]?=some a):l.set i a=l:=by
 apply aa0;intro j;rw[aca];split
 .rename_i e;subst e;rw[h,if_pos (aak.1 h).1]
 .rfl
theorem oz {aw k:Nat}{body:Sum (List (List PV)) (List (List V))}{x:aB}{sv mv:V}(hk:k<(bl body).length)(hrow:(bl body)[k]?=some (x.c.map .pv))(hs:sv.calm=true/\nW sv=true)(hm:mv.calm=true/\nW mv=true):
  ∃b5 b6,dy 2 k 5 [sv] ⟨aw,10,body⟩=some {ar:=some (2,⟨aw,10,b5⟩)}/\dy 2 k 6 [mv] ⟨aw,10,b5⟩=some {ar:=some (2,⟨aw,10,b6⟩)}/\bl b6=(bl body).set k (wg x sv mv):=by
 obtain⟨b5,h5,g5⟩:=zy (id:=2) (r:=k) (c:=5) (aw:=aw) (k:=10) (news:=[sv]) (body:=body) hk (by simp) (by simp[hs.1]) (by simp[hs.2]);obtain⟨b6,h6,g6⟩:=zy (id:=2) (r:=k) (c:=6) (aw:=aw) (k:=10) (news:=[mv]) (body:=b5) (by rw[g5,List.length_set];exact hk) (by simp) (by simp[hm.1]) (by simp[hm.2]);refine⟨b5,b6,h5,h6,?_⟩;have hgd:(bl body).getD k []=x.c.map .pv:=by rw[aat,hrow];rfl
 rw[g6,g5,List.set_set,hgd];congr 1;rw[aat,aaG hk];rfl
set_option maxHeartbeats 2000000 in
theorem YV (c1 c2 c13:List V)(n:Nat)(ar:List aL)(aw m k:Nat)(body:Sum (List (List PV)) (List (List V)))(x:aB)(hx:x.syms.length<=2147483648/\x.aO.length<=2147483648)(hk:k<m)(h2:ar[2]?=some ⟨aw,10,body⟩)(hbl:(bl body).length=m)(hrow:(bl body)[k]?=some (x.c.map .pv))(Q:Ex->St->Prop)
  (hQ:∀env ar1 b1 sv mv,pT 2 ar ar1->ar1[2]?=some ⟨aw,10,b1⟩->bl b1=(bl body).set k (wg x sv mv)->kr ar1 ar.length 2 sv (x.syms.map Sym.c)->kr ar1 ar.length 13 mv (x.aO.map Mem.c)->sv≠mv\/mv=.tl []->Q .normal ⟨(1,.ptr 1 0)::(2,.ptr 2 0)::(12,.own 1 0 0 n)::(13,.ptr 13 0)::(17,.dC 2 aw k 0)::(100,.pv (.int .i64 m))::(101,.pv (.int .i64 k))::env,⟨[(1,c1),(2,c2),(13,c13)],ar1,[]⟩⟩):
  W A ay F408.body.two.two.two.two.two.two.two.one.two.cp.cp.cp.two.two.one.cp.two.two.one ⟨[(1,.ptr 1 0),(2,.ptr 2 0),(12,.own 1 0 0 n),(13,.ptr 13 0),(17,.dC 2 aw k 0),(100,.pv (.int .i64 m)),(101,.pv (.int .i64 k))],⟨[(1,c1),(2,c2),(13,c13)],ar,[]⟩⟩ Q:=by
 simp only[F408,pB,AC.one,AC.two,AC.cp];have hl2:2<ar.length:=(aak.1 h2).1;have gX:∀X:List aL,(ar++X)[2]?=some ⟨aw,10,body⟩:=λX=>by rw[aao hl2];exact h2
 have hb:=lI k body;rw[hrow]at hb;unfold aB.c at hb;simp only[List.map_cons,List.map_nil]at hb;have gS:∀X a,((ar++X).set 2 a)[2]?=some a:=λX a=>aaG (by rw[aas];omega);have gX2:∀X Y:List aL,(ar++X++Y)[2]?=some ⟨aw,10,body⟩:=λX Y=>by rw[aay];exact gX _
 have gS0:∀a,(ar.set 2 a)[2]?=some a:=λa=>aaG hl2;have gS2:∀X Y a,((ar++X++Y).set 2 a)[2]?=some a:=λX Y a=>by rw[aay];exact gS _ a
 have d2:decide (2<ar.length)=true:=decide_eq_true hl2;have hkb:k<(bl body).length:=by omega
 have aS:∀X a,pT 2 ar ((ar++X).set 2 a):=λX a=>(pT.push 2 ar X).trans (.set 2 _ a);rcases zm (c:=Sym.c) (k:=2) (λ_=>rfl) x.syms hx.1 with⟨s1,s2⟩|⟨s1,s2⟩<;>rcases zm (c:=Mem.c) (k:=13) (λ_=>rfl) x.aO hx.2 with⟨m1,m2⟩|⟨m1,m2⟩
 .obtain⟨b5,b6,h5,h6,h7⟩:=oz (aw:=aw) (x:=x) (sv:=.tl []) (mv:=.tl []) hkb hrow ⟨rfl,rfl⟩ ⟨rfl,rfl⟩;simp(disch:=omega)only[go_sem,h2,hb,s2,m2,h5,h6,gS0,List.set_set];refine hQ _ _ b6 (.tl []) (.tl []) (.set 2 _ _) (gS0 _) h7 (.inl ⟨rfl,by rw[s1];rfl⟩) (.inl ⟨rfl,by rw[m1];rfl⟩) (.inr rfl)
 .obtain⟨b5,b6,h5,h6,h7⟩:=oz (aw:=aw) (x:=x) (sv:=.tl []) (mv:=.own ar.length 0 0 x.aO.length) hkb hrow ⟨rfl,rfl⟩ ⟨rfl,rfl⟩;simp(disch:=omega)only[go_sem,h2,hb,s2,m2,gX,h5,h6,gS,List.set_set];refine hQ _ _ b6 (.tl []) (.own ar.length 0 0 x.aO.length) (aS _ _) (gS _ _) h7 (.inl ⟨rfl,by rw[s1];rfl⟩) (.inr ⟨ar.length,by simp,Nat.le_refl _,by simpa using m1,?_⟩) (.inl (by simp));rw[aaL (by omega)];simp
 .obtain⟨b5,b6,h5,h6,h7⟩:=oz (aw:=aw) (x:=x) (sv:=.own ar.length 0 0 x.syms.length) (mv:=.tl []) hkb hrow ⟨rfl,rfl⟩ ⟨rfl,rfl⟩;simp(disch:=omega)only[go_sem,h2,hb,s2,m2,gX,h5,h6,gS,d2,List.set_set];refine hQ _ _ b6 (.own ar.length 0 0 x.syms.length) (.tl []) (aS _ _) (gS _ _) h7 (.inr ⟨ar.length,by simp,Nat.le_refl _,by simpa using s1,?_⟩) (.inl ⟨rfl,by rw[m1];rfl⟩) (.inr rfl);rw[aaL (by omega)];simp
 .obtain⟨b5,b6,h5,h6,h7⟩:=oz (aw:=aw) (x:=x) (sv:=.own ar.length 0 0 x.syms.length) (mv:=.own (ar.length+1) 0 0 x.aO.length) hkb hrow ⟨rfl,rfl⟩ ⟨rfl,rfl⟩;simp(disch:=omega)only[go_sem,h2,hb,s2,m2,gX,gX2,h5,h6,gS2,d2,List.set_set];rw[aay];refine hQ _ _ b6 (.own ar.length 0 0 x.syms.length) (.own (ar.length+1) 0 0 x.aO.length) (aS _ _) (gS _ _) h7 (.inr ⟨ar.length,by simp,Nat.le_refl _,by simpa using s1,?_⟩) (.inr ⟨ar.length+1,by simp,by omega,by simpa using m1,?_⟩) (.inl (by simp))
  .rw[aaL (by omega)];simp
  .rw[aaL (by omega)];simp
set_option maxHeartbeats 2000000 in
theorem YW (c1 c2 c13:List V)(n:Nat)(L at':List Int)(ar:List aL)(aw m k:Nat)(b1:Sum (List (List PV)) (List (List V)))(x:aB)(sv mv:V)(hml:x.aO.length<=1048576)(hk:k<m)(h2:ar[2]?=some ⟨aw,10,b1⟩)(hrow:(bl b1)[k]?=some (wg x sv mv))(h1:ar[1]?=some ⟨0,1,.inl (ints at')⟩)(hn:at'.length=n)
  (hat:∀q∈x.aO,0<=q.type/\q.type<n/\at'[q.type.toNat]?=some (br L q.type))(b:Nat)(hb:2<b)(hmv:kr ar b 13 mv (x.aO.map Mem.c))(hbm:m<=100)(Q:Ex->St->Prop)
  (hQ:∀env ar2,(∀i,i<b->ar2[i]?=ar[i]?)->ar.length<=ar2.length->(∀i,(V.own i 0 0 x.aO.length≠mv->ar2[i]?=ar[i]?))->kr ar2 b 13 mv ((x.aO.map (dQ L)).map Mem.c)->Q (.exit 8) ⟨(1,.ptr 1 0)::(2,.ptr 2 0)::(12,.own 1 0 0 n)::(13,.ptr 13 0)::(17,.dC 2 aw k 0)::(100,.pv (.int .i64 m))::(101,.pv (.int .i64 k))::env,⟨[(1,c1),(2,c2),(13,c13)],ar2,[]⟩⟩):
  W A ay F408.body.two.two.two.two.two.two.two.one.two.cp.cp.cp.two.two.one.cp.two.two.two.one.two.cp ⟨[(1,.ptr 1 0),(2,.ptr 2 0),(12,.own 1 0 0 n),(13,.ptr 13 0),(17,.dC 2 aw k 0),(100,.pv (.int .i64 m)),(101,.pv (.int .i64 k)),(129,.pv (.int .i64 x.aO.length)),(130,.pv (.int .i64 0))],⟨[(1,c1),(2,c2),(13,c13)],ar,[]⟩⟩ Q:=by
 simp only[F408,pB,AC.one,AC.two,AC.cp];have hbr:=lI k b1;rw[hrow]at hbr;unfold wg at hbr;rcases hmv with⟨rfl,hm0⟩|⟨mi,rfl,hmi,hm0,hma⟩
 .have hm0:=acn.1 hm0;rw[hm0]at hQ |-;refine W.dx 0 (λj=>⟨[(1,.ptr 1 0),(2,.ptr 2 0),(12,.own 1 0 0 n),(13,.ptr 13 0),(17,.dC 2 aw k 0),(100,.pv (.int .i64 m)),(101,.pv (.int .i64 k)),(129,.pv (.int .i64 (([]:List Mem).length:Nat))),(130,.pv (.int .i64 j))],⟨[(1,c1),(2,c2),(13,c13)],ar,[]⟩⟩) (λ_=>True) rfl trivial λj hj _=>?_;simp(disch:=omega)only[go_sem];refine Br.aF (λc=>?_) (λc=>?_)
  .simp at c;omega
  simp(disch:=omega)only[go_sem];exact hQ _ ar (λ_ _=>rfl) (aau _) (λ_ _=>rfl) (.inl ⟨rfl,rfl⟩)
 .have hml2:(x.aO.map Mem.c).length=x.aO.length:=aam _;rw[hml2]at hbr hQ;have hmil:=(aak.1 hma).1;have gM:∀a,(ar.set mi a)[mi]?=some a:=λa=>aaG hmil;have g1:∀a,(ar.set mi a)[1]?=some ⟨0,1,.inl (ints at')⟩:=λa=>by rw[aaL (by omega)];exact h1
  have g2:∀a,(ar.set mi a)[2]?=some ⟨aw,10,b1⟩:=λa=>by rw[aaL (by omega)];exact h2
  refine W.dx x.aO.length (λj=>⟨[(1,.ptr 1 0),(2,.ptr 2 0),(12,.own 1 0 0 n),(13,.ptr 13 0),(17,.dC 2 aw k 0),(100,.pv (.int .i64 m)),(101,.pv (.int .i64 k)),(129,.pv (.int .i64 x.aO.length)),(130,.pv (.int .i64 j))],⟨[(1,c1),(2,c2),(13,c13)],ar.set mi ⟨0,13,.inl ((pH L x.aO j).map Mem.c)⟩,[]⟩⟩) (λ_=>True) ?_ trivial λj hj _=>?_
  .rw[FI,sE hma];rfl
  have hmj:=Bg L x.aO j;simp(disch:=omega)only[go_sem];refine Br.aF (λc=>?_) (λc=>?_)
  .obtain⟨q,hq⟩:=get_some (l:=x.aO) (k:=j) (by omega);obtain⟨q0,q1,q2⟩:=hat q (aaj hq);have hmg:=Bh (L:=L) hq;have hst:=λid=>Df (L:=L) hq id;simp(disch:=omega)only[go_sem,g1,g2,gM,hbr,hmg,Option.map_some,Mem.c,q2,hst,List.set_set];exact .of (by omega) rfl trivial
  .obtain rfl:j=x.aO.length:=by omega
   rw[H5];simp(disch:=omega)only[go_sem];refine hQ _ _ (λi hi=>by rw[List.getElem?_set_ne (by omega)]) (by rw[List.length_set];exact Nat.le_refl _) (λi hi=>?_) (.inr ⟨mi,by simp,hmi,by simpa using hm0,gM _⟩);rw[aaL]
   rintro rfl
   exact hi rfl
theorem mB {o aw kk k c:Nat}{body:Sum (List (List PV)) (List (List V))}{row:List V}{w:V}(hrow:(bl body)[k]?=some row)(hc:c+1<=kk)(hw:w.calm=true/\nW w=true):
  ∃b',dy o k c [w] ⟨aw,kk,body⟩=some {ar:=some (o,⟨aw,kk,b'⟩)}/\bl b'=(bl body).set k (Lc row c [w]):=by
 obtain⟨b',h,g⟩:=zy (id:=o) (r:=k) (c:=c) (aw:=aw) (k:=kk) (news:=[w]) (body:=body) (List.getElem?_eq_some_iff.1 hrow).1 (by simpa using hc) (by simp[hw.1]) (by simp[hw.2]);refine⟨b',h,?_⟩;rw[g,aat,hrow];rfl
def Lf (L:List Int)(x:aB)(sv mv:V):List V:=wg {x with key:=if x.kind=8 then br L x.key else x.key,elem:=if 7<=x.kind then br L x.elem else x.elem} sv mv
set_option maxHeartbeats 2000000 in
theorem YX (c1 c2 c13:List V)(n:Nat)(L at':List Int)(ar:List aL)(aw m k:Nat)(b1:Sum (List (List PV)) (List (List V)))(x:aB)(sv mv:V)(hk:k<m)(h2:ar[2]?=some ⟨aw,10,b1⟩)(hrow:(bl b1)[k]?=some (wg x sv mv))(h1:ar[1]?=some ⟨0,1,.inl (ints at')⟩)(hn:at'.length=n)(hkd:1<=x.kind/\x.kind<=9)
  (hke:x.kind=8->0<=x.key/\x.key<n/\at'[x.key.toNat]?=some (br L x.key))(hel:7<=x.kind->0<=x.elem/\x.elem<n/\at'[x.elem.toNat]?=some (br L x.elem))(hbm:m<=100)(env0:List (Nat×V))(Q:Ex->St->Prop)
  (hQ:∀e env ar2 b2,(e=[]\/e=[(17,V.dC 2 aw k 0)])->(∀i,i≠2->ar2[i]?=ar[i]?)->ar.length=ar2.length->ar2[2]?=some ⟨aw,10,b2⟩->bl b2=(bl b1).set k (Lf L x sv mv)->Q .normal ⟨(1,.ptr 1 0)::(2,.ptr 2 0)::(12,.own 1 0 0 n)::(13,.ptr 13 0)::(e++(100,.pv (.int .i64 m))::(101,.pv (.int .i64 k))::env),⟨[(1,c1),(2,c2),(13,c13)],ar2,[]⟩⟩):
  W A ay F408.body.two.two.two.two.two.two.two.one.two.cp.cp.cp.two.two.one.cp.two.two.two.two ⟨(1,.ptr 1 0)::(2,.ptr 2 0)::(12,.own 1 0 0 n)::(13,.ptr 13 0)::(17,.dC 2 aw k 0)::(100,.pv (.int .i64 m))::(101,.pv (.int .i64 k))::env0,⟨[(1,c1),(2,c2),(13,c13)],ar,[]⟩⟩ Q:=by
 simp only[F408,pB,AC.one,AC.two,AC.cp];have hl2:2<ar.length:=(aak.1 h2).1;have gS:∀a,(ar.set 2 a)[2]?=some a:=λa=>aaG hl2;have g1:∀a,(ar.set 2 a)[1]?=some ⟨0,1,.inl (ints at')⟩:=λa=>by rw[aaL (by omega)];exact h1
 have gO:∀a i,i≠2->(ar.set 2 a)[i]?=ar[i]?:=λa i hi=>aaL (λe=>hi e.symm);have hbr:=lI k b1;rw[hrow]at hbr;have hself:∀row,wg x sv mv=row->bl b1=(bl b1).set k row:=λrow e=>by rw[sE];rw[hrow,e]
 unfold Lf at hQ;obtain⟨kind,name,low,high,max,syms,aO,key,elem,jO⟩:=x;dsimp only at *;unfold wg at hbr hrow;dsimp only at hbr hrow;rcases nine hkd with rfl|rfl|rfl|rfl|rfl|rfl|rfl|rfl|rfl
 case inr.inr.inr.inr.inr.inr.inl=>
  obtain⟨e0,e1,e2⟩:=hel (by decide);obtain⟨b7,h7,g7⟩:=mB (o:=2) (aw:=aw) (kk:=10) (c:=8) (w:=.pv (.int .i64 (br L elem))) hrow (by decide) ⟨rfl,rfl⟩;simp(disch:=omega)only[go_sem,h2,hbr,decide_true,decide_false,Int.reduceEq,h1,e2,h7];refine hQ [] _ _ b7 (.inl rfl) (gO _) (by simp) (gS _) ?_;rw[g7];rfl
 case inr.inr.inr.inr.inr.inr.inr.inl=>
  obtain⟨e0,e1,e2⟩:=hel (by decide);obtain⟨k0,k1,k2⟩:=hke (by decide);obtain⟨b6,h6,g6⟩:=mB (o:=2) (aw:=aw) (kk:=10) (c:=7) (w:=.pv (.int .i64 (br L key))) hrow (by decide) ⟨rfl,rfl⟩;have hrow6:(bl b6)[k]?=some [.pv (.int .i64 8),.pv (.str name),.pv (.int .i64 low),.pv (.int .i64 high),.pv (.int .i64 max),sv,mv,.pv (.int .i64 (br L key)),.pv (.int .i64 elem),.pv (.bool jO)]:=by
   rw[g6,aaG (aak.1 hrow).1];rfl
  have hbr6:=lI k b6;rw[hrow6]at hbr6;obtain⟨b7,h7,g7⟩:=mB (o:=2) (aw:=aw) (kk:=10) (c:=8) (w:=.pv (.int .i64 (br L elem))) hrow6 (by decide) ⟨rfl,rfl⟩;simp(disch:=omega)only[go_sem,h2,hbr,decide_true,decide_false,Int.reduceEq,h1,g1,gS,k2,e2,h6,hbr6,h7,List.set_set];refine hQ [] _ _ b7 (.inl rfl) (gO _) (by simp) (gS _) ?_;rw[g7,g6,List.set_set];rfl
 case inr.inr.inr.inr.inr.inr.inr.inr=>
  obtain⟨e0,e1,e2⟩:=hel (by decide);obtain⟨b7,h7,g7⟩:=mB (o:=2) (aw:=aw) (kk:=10) (c:=8) (w:=.pv (.int .i64 (br L elem))) hrow (by decide) ⟨rfl,rfl⟩;simp(disch:=omega)only[go_sem,h2,hbr,decide_true,decide_false,Int.reduceEq,h1,e2,h7];refine hQ [] _ _ b7 (.inl rfl) (gO _) (by simp) (gS _) ?_;rw[g7];rfl
 all_goals
  simp(disch:=omega)only[go_sem,h2,hbr,decide_true,decide_false,Int.reduceEq];exact hQ [(17,.dC 2 aw k 0)] _ ar b1 (.inr rfl) (λ_ _=>rfl) rfl h2 (hself _ rfl)
theorem Lg {L:List Int}{x:aB}{ar:List aL}{o b:Nat}{sv mv:V}(ho:o<b)(hs:kr ar b 2 sv (x.syms.map Sym.c))(hm:kr ar b 13 mv ((x.aO.map (dQ L)).map Mem.c)):dZ ar o (Lf L x sv mv) (bt L x).c:=by
 unfold Lf wg aB.c bt;dsimp only;refine .pure rfl rfl (.pure rfl rfl (.pure rfl rfl (.pure rfl rfl (.pure rfl rfl (.cons (.inr ⟨2,_,rfl,hs.home ho⟩) (.cons (.inr ⟨13,_,rfl,hm.home ho⟩) (.pure rfl rfl (.pure rfl rfl (.pure rfl rfl (.nil _ _))))))))))
structure Xt (T:List aB)(L at':List Int)(aw k:Nat)(ar:List aL):Prop where
 le:k<=L.length
 at1:ar[1]?=some ⟨0,1,.inl (ints at')⟩
 it:∃body,ar[2]?=some ⟨aw,10,body⟩/\(bl body).length=L.length/\(∀i row u,i<k->(bl body)[i]?=some row->L[i]?=some u->dZ ar 2 row (bt L (bf T u)).c)/\∀i,k<=i->(bl body)[i]?=L[i]?.map λu=>(bf T u).c.map V.pv
set_option maxHeartbeats 4000000 in
theorem ZY (c1 c2:List V)(nm:ByteArray)(n:Nat)(T:List aB)(L at':List Int)(ar:List aL)(hts:∀t∈T,t.short)(hn:at'.length=n)(hT:∀u∈L,0<=u/\u<T.length/\1<=(bf T u).kind/\(bf T u).kind<=9)(hL:L.length<=100)
  (hat:∀u∈L,∀w∈bw (bf T u),0<=w/\w<n/\at'[w.toNat]?=some (br L w))(aw:Nat)(hver:L.length=aw+1)(h0:Xt T L at' aw 0 ar)(Q:Ex->St->Prop)
  (hQ:∀env ar,Xt T L at' aw L.length ar->Q (.exit 6) ⟨(1,.ptr 1 0)::(2,.ptr 2 0)::(12,.own 1 0 0 n)::(13,.ptr 13 0)::env,⟨[(1,c1),(2,c2),(13,[.pv (.str nm),.own 2 aw 0 L.length,.tl [],.tl [],.tl []])],ar,[]⟩⟩):
  W A ay F408.body.two.two.two.two.two.two.two.one.two.cp ⟨[(1,.ptr 1 0),(2,.ptr 2 0),(12,.own 1 0 0 n),(13,.ptr 13 0),(100,.pv (.int .i64 L.length)),(101,.pv (.int .i64 0))],⟨[(1,c1),(2,c2),(13,[.pv (.str nm),.own 2 aw 0 L.length,.tl [],.tl [],.tl []])],ar,[]⟩⟩ Q:=by
 have s7a:=YV c1 c2 [.pv (.str nm),.own 2 aw 0 L.length,.tl [],.tl [],.tl []] n;have s7b:=YW c1 c2 [.pv (.str nm),.own 2 aw 0 L.length,.tl [],.tl [],.tl []] n L at';have s7c:=YX c1 c2 [.pv (.str nm),.own 2 aw 0 L.length,.tl [],.tl [],.tl []] n L at';rw[show F408.body.two.two.two.two.two.two.two.one.two.cp=AC.loop (.mask [1,2,12,13,100,101] [1,2,13] (.seq F408.body.two.two.two.two.two.two.two.one.two.cp.cp.cp.one (.seq F408.body.two.two.two.two.two.two.two.one.two.cp.cp.cp.two.one (.seq (.block 7 (.seq F408.body.two.two.two.two.two.two.two.one.two.cp.cp.cp.two.two.one.cp.one (.seq F408.body.two.two.two.two.two.two.two.one.two.cp.cp.cp.two.two.one.cp.two.one (.seq F408.body.two.two.two.two.two.two.two.one.two.cp.cp.cp.two.two.one.cp.two.two.one (.seq (.seq F408.body.two.two.two.two.two.two.two.one.two.cp.cp.cp.two.two.one.cp.two.two.two.one.one (.block 8 F408.body.two.two.two.two.two.two.two.one.two.cp.cp.cp.two.two.one.cp.two.two.two.one.two.cp)) F408.body.two.two.two.two.two.two.two.one.two.cp.cp.cp.two.two.one.cp.two.two.two.two))))) F408.body.two.two.two.two.two.two.two.one.two.cp.cp.cp.two.two.two)))) from rfl];generalize F408.body.two.two.two.two.two.two.two.one.two.cp.cp.cp.two.two.one.cp.two.two.one=D at s7a |-;generalize F408.body.two.two.two.two.two.two.two.one.two.cp.cp.cp.two.two.one.cp.two.two.two.one.two.cp=E at s7b |-;generalize F408.body.two.two.two.two.two.two.two.one.two.cp.cp.cp.two.two.one.cp.two.two.two.two=F at s7c |-;simp only[F408,pB,AC.one,AC.two,AC.cp];refine W.loop (α:=Nat×List aL) (λx=>⟨[(1,.ptr 1 0),(2,.ptr 2 0),(12,.own 1 0 0 n),(13,.ptr 13 0),(100,.pv (.int .i64 L.length)),(101,.pv (.int .i64 x.1))],⟨[(1,c1),(2,c2),(13,[.pv (.str nm),.own 2 aw 0 L.length,.tl [],.tl [],.tl []])],x.2,[]⟩⟩) (λx=>Xt T L at' aw x.1 x.2) (λx=>L.length - x.1) (0,ar) rfl h0 λx hx=>?_;obtain⟨k,ar⟩:=x;obtain⟨hk,h1,body,h2,hbl,hdone,hraw⟩:=hx;dsimp only at hk h1 h2 hbl hdone hraw;simp(disch:=omega)only[go_sem];refine Br.aF (λc=>?_) (λc=>?_)
 rotate_left
 .obtain rfl:k=L.length:=by omega
  simp(disch:=omega)only[go_sem];exact hQ _ ar ⟨aau _,h1,body,h2,hbl,hdone,hraw⟩
 obtain⟨u,hu⟩:=get_some (l:=L) (k:=k) (by omega);have hum:=aaj hu;obtain⟨u0,u1,k1,k9⟩:=hT u hum;have hxm:bf T u∈T:=aaj (cC u0 u1);have hsh:=hts _ hxm;have hm:=hsh.aO;have hs:=hsh.syms;have hau:=hat u hum;have hrow:=hraw k (aau _);rw[hu,ab7]at hrow;have hdone':∀row w,L[k]?=some w->dZ ar 2 row (bt L (bf T w)).c->dZ ar 2 row (bt L (bf T u)).c:=λrow w hw h=>by rw[hu]at hw;cases hw;exact h
 have hl2:2<ar.length:=(aak.1 h2).1;generalize hxx:bf T u=x at *;simp(disch:=omega)only[go_sem,h2];refine s7a ar aw L.length k body x ⟨by omega,by omega⟩ (by omega) h2 hbl hrow _ λenv ar1 b1 sv mv ha1 ha2 hb1 hsv hmv hne=>?_;have hrow1:(bl b1)[k]?=some (wg x sv mv):=by rw[hb1,aaG (by omega)]
 have h11:ar1[1]?=some ⟨0,1,.inl (ints at')⟩:=by rw[ha1.get 1 (by omega) (by decide),h1]
 have hbr:=lI k b1;rw[hrow1]at hbr;unfold wg at hbr;have hlen:je ⟨[(1,c1),(2,c2),(13,[.pv (.str nm),.own 2 aw 0 L.length,.tl [],.tl [],.tl []])],ar1,[]⟩ 0 mv=some (x.aO.length,{}):=by
  rcases hmv with⟨rfl,h⟩|⟨mi,rfl,_⟩
  .rw[acn.1 h];rfl
  .rw[aam];rfl
 simp(disch:=omega)only[go_sem,ha2,hbr,hlen];have hum':∀q∈x.aO,0<=q.type/\q.type<n/\at'[q.type.toNat]?=some (br L q.type):=λq hq=>hau _ (kh hq);refine s7b ar1 aw L.length k b1 x sv mv hm (by omega) ha2 hrow1 h11 hn hum' ar.length hl2 hmv hL _ λenv ar2 ha ha3 ha4 hmv2=>?_;have hkeep:pT 2 ar ar2:=⟨by have:=ha1.len;omega,λi hi ho=>by rw[ha i hi,ha1.get i hi ho]⟩;have ha22:ar2[2]?=some ⟨aw,10,b1⟩:=by rw[ha 2 hl2,ha2]
 have h21:ar2[1]?=some ⟨0,1,.inl (ints at')⟩:=by rw[ha 1 (by omega),h11]
 have hsv2:kr ar2 ar.length 2 sv (x.syms.map Sym.c):=by
  rcases hsv with h|⟨mi,rfl,g1,g2,g3⟩
  .exact .inl h
  .refine .inr ⟨mi,rfl,g1,g2,?_⟩;by_cases e:V.own mi 0 0 x.aO.length=mv
   .rcases hmv with⟨rfl,_⟩|⟨mj,rfl,_,_,g4⟩
    .cases e
    .injection e with e1;subst e1;rw[g3]at g4;cases g4
   .rw[ha4 mi e];exact g3
 simp(disch:=omega)only[go_sem];refine s7c ar2 aw L.length k b1 x sv mv (by omega) ha22 hrow1 h21 hn ⟨k1,k9⟩ (λh=>hau _ (gH h)) (λh=>hau _ (ot h)) hL _ _ λe env ar3 b2 he hb2 hb3 hb4 hb5=>?_;have hA:Xt T L at' aw (k+1) ar3:=by
  have hkeep3:pT 2 ar ar3:=⟨by have:=hkeep.len;omega,λi hi ho=>by rw[hb2 i ho,hkeep.get i hi ho]⟩;refine⟨by omega,by rw[hb2 1 (by decide),h21],b2,hb4,by rw[hb5,abe,hb1,abe,hbl],λi row w hi hr hw=>?_,λi hi=>?_⟩
  .rw[hb5,hb1,List.set_set]at hr;by_cases e:k=i
   .subst e;rw[hu]at hw;cases hw;rw[aaG (by omega)]at hr;cases hr;rw[hxx];have hs3:kr ar3 ar.length 2 sv (x.syms.map Sym.c):=by
     rcases hsv2 with h|⟨mi,h5,g1,g2,g3⟩
     .exact .inl h
     .exact .inr ⟨mi,h5,g1,g2,by rw[hb2 mi (by omega)];exact g3⟩
    have hm3:kr ar3 ar.length 13 mv ((x.aO.map (dQ L)).map Mem.c):=by
     rcases hmv2 with h|⟨mi,h5,g1,g2,g3⟩
     .exact .inl h
     .exact .inr ⟨mi,h5,g1,g2,by rw[hb2 mi (by omega)];exact g3⟩
    exact Lg hl2 hs3 hm3
   .rw[aaL e]at hr;exact(hdone i row w (by omega) hr hw).QZ hkeep3
  .rw[hb5,hb1,List.set_set,aaL (by omega),hraw i (by omega)]
 rcases he with rfl|rfl<;>simp(disch:=omega)only[go_sem,List.nil_append,List.cons_append]<;>exact⟨(k+1,ar3),hA,by dsimp only;omega,rfl⟩
set_option maxHeartbeats 4000000 in
theorem ZZ (a1 a2:V)(a4 a5:V)(c2:List V)(nm:ByteArray)(n t2:Nat)(C:List j8)(L at':List Int)(V0:V)(pre:List aL)(hn:at'.length=n)(h1:pre[1]?=some ⟨0,1,.inl (ints at')⟩)(hC:C.length<=8)
  (hat:∀c∈C,(0<=c.lK/\c.lK<n/\at'[c.lK.toNat]?=some (br L c.lK))/\0<=c.rep/\c.rep<n/\at'[c.rep.toNat]?=some (br L c.rep))(Q:Ex->St->Prop)
  (hQ:∀env,Q (.exit 10) ⟨(1,.ptr 1 0)::(2,.ptr 2 0)::(12,.own 1 0 0 n)::(13,.ptr 13 0)::env,⟨[(1,[a1,a2,.pv (.ae t2 (bm C)),a4,a5]),(2,c2),(13,[.pv (.str nm),V0,dn pre.length (bm (C.map (cq L))),.tl [],.tl []])],pre++cG 3 (bm (C.map (cq L))),[]⟩⟩):
  W A ay F408.body.two.two.two.two.two.two.two.two.one.two.cp ⟨[(1,.ptr 1 0),(2,.ptr 2 0),(12,.own 1 0 0 n),(13,.ptr 13 0),(198,.pv (.ae t2 (bm C))),(199,.pv (.int .i64 C.length)),(200,.pv (.int .i64 0))],⟨[(1,[a1,a2,.pv (.ae t2 (bm C)),a4,a5]),(2,c2),(13,[.pv (.str nm),V0,.tl [],.tl [],.tl []])],pre,[]⟩⟩ Q:=by
 simp only[F408,pB,AC.one,AC.two,AC.cp];refine W.dx C.length (λk=>⟨[(1,.ptr 1 0),(2,.ptr 2 0),(12,.own 1 0 0 n),(13,.ptr 13 0),(198,.pv (.ae t2 (bm C))),(199,.pv (.int .i64 C.length)),(200,.pv (.int .i64 k))],⟨[(1,[a1,a2,.pv (.ae t2 (bm C)),a4,a5]),(2,c2),(13,[.pv (.str nm),V0,dn pre.length (bm ((C.map (cq L)).take k)),.tl [],.tl []])],pre++cG 3 (bm ((C.map (cq L)).take k)),[]⟩⟩) (λ_=>True) (by show _=(⟨_,⟨_,pre++[],[]⟩⟩:St);rw[abb];rfl) trivial λk hk _=>?_;simp(disch:=omega)only[go_sem];refine Br.aF (λc=>?_) (λc=>?_)
 .obtain⟨x,hx⟩:=get_some (l:=C) (k:=k) (by omega);obtain⟨⟨_,_,q1⟩,_,_,q2⟩:=hat x (aaj hx);have hp1:=(aak.1 h1).1;have gP:∀X:List aL,(pre++X)[1]?=some ⟨0,1,.inl (ints at')⟩:=λX=>by rw[aao hp1];exact h1
  have hnx:bm ((C.map (cq L)).take (k+1))=bm ((C.map (cq L)).take k)++[[.str x.name,.int .i64 (br L x.lK),.int .i64 (br L x.rep)]]:=by
   rw[aaH,aap,hx];simp[bm,cq,j8.c]
  have hql:(bm ((C.map (cq L)).take k)).length<=8:=by rw[vo,aaA,aam];omega
  have hg:=λbx mp=>grow bx mp pre 3 (bm ((C.map (cq L)).take k)) (cq L x).c rfl (by omega);have hgt:=λbx mp=>fy bx mp pre 3 (bm ((C.map (cq L)).take k)) (cq L x).c;generalize bm ((C.map (cq L)).take k)=rows at *;unfold cq j8.c at hg hgt;dsimp only at hg hgt;simp(disch:=omega)only[go_sem,hx,Option.map_some,j8.c,gP,q1,q2,hg,hgt];refine .of (by omega) ?_ trivial;rw[hnx];rfl
 .obtain rfl:k=C.length:=by omega
  have e:(C.map (cq L)).take C.length=C.map (cq L):=List.take_of_length_le (by simp);rw[e];simp(disch:=omega)only[go_sem];exact hQ _
set_option maxHeartbeats 4000000 in
theorem YY (c2:List V)(nm:ByteArray)(n t4:Nat)(C:List ky)(L at':List Int)(V0 V1 V2:V)(pre:List aL)(hn:at'.length=n)(h1:pre[1]?=some ⟨0,1,.inl (ints at')⟩)(hC:C.length<=8)
  (hat:∀c∈C,0<=c.ty/\c.ty<n/\at'[c.ty.toNat]?=some (br L c.ty))(Q:Ex->St->Prop)
  (hQ:∀env,Q (.exit 16) ⟨(2,.ptr 2 0)::(12,.own 1 0 0 n)::(13,.ptr 13 0)::env,⟨[(2,c2),(13,[.pv (.str nm),V0,V1,V2,dn pre.length (cg (C.map (cW L)))])],pre++cG 2 (cg (C.map (cW L))),[]⟩⟩):
  W A ay F408.body.two.two.two.two.two.two.two.two.two.two.one.two.cp ⟨[(2,.ptr 2 0),(12,.own 1 0 0 n),(13,.ptr 13 0),(261,.pv (.ae t4 (cg C))),(262,.pv (.int .i64 C.length)),(263,.pv (.int .i64 0))],⟨[(2,c2),(13,[.pv (.str nm),V0,V1,V2,.tl []])],pre,[]⟩⟩ Q:=by
 simp only[F408,pB,AC.one,AC.two,AC.cp];refine W.dx C.length (λk=>⟨[(2,.ptr 2 0),(12,.own 1 0 0 n),(13,.ptr 13 0),(261,.pv (.ae t4 (cg C))),(262,.pv (.int .i64 C.length)),(263,.pv (.int .i64 k))],⟨[(2,c2),(13,[.pv (.str nm),V0,V1,V2,dn pre.length (cg ((C.map (cW L)).take k))])],pre++cG 2 (cg ((C.map (cW L)).take k)),[]⟩⟩) (λ_=>True) (by show _=(⟨_,⟨_,pre++[],[]⟩⟩:St);rw[abb];rfl) trivial λk hk _=>?_;simp(disch:=omega)only[go_sem];refine Br.aF (λc=>?_) (λc=>?_)
 .obtain⟨x,hx⟩:=get_some (l:=C) (k:=k) (by omega);obtain⟨_,_,q1⟩:=hat x (aaj hx);have hp1:=(aak.1 h1).1;have gP:∀X:List aL,(pre++X)[1]?=some ⟨0,1,.inl (ints at')⟩:=λX=>by rw[aao hp1];exact h1
  have hnx:cg ((C.map (cW L)).take (k+1))=cg ((C.map (cW L)).take k)++[[.str x.name,.int .i64 (br L x.ty)]]:=by
   rw[aaH,aap,hx];simp[cg,cW,ky.c]
  have hql:(cg ((C.map (cW L)).take k)).length<=8:=by rw[AX,aaA,aam];omega
  have hg:=λbx mp=>grow bx mp pre 2 (cg ((C.map (cW L)).take k)) (cW L x).c rfl (by omega);have hgt:=λbx mp=>fy bx mp pre 2 (cg ((C.map (cW L)).take k)) (cW L x).c;generalize cg ((C.map (cW L)).take k)=rows at *;unfold cW ky.c at hg hgt;dsimp only at hg hgt;simp(disch:=omega)only[go_sem,hx,Option.map_some,ky.c,gP,q1,hg,hgt];refine .of (by omega) ?_ trivial;rw[hnx];rfl
 .obtain rfl:k=C.length:=by omega
  have e:(C.map (cW L)).take C.length=C.map (cW L):=List.take_of_length_le (by simp);rw[e];simp(disch:=omega)only[go_sem];exact hQ _
def kK (ar:List aL)(b k:Nat)(v:V)(rows:List (List PV)):Prop:=(v=.pv (.ae 0 [])/\rows=[])\/∃m,v=.own m 0 0 rows.length/\b<=m/\rows≠[]/\ar[m]?=some ⟨0,k,.inl rows⟩
set_option maxHeartbeats 4000000 in
theorem YZ (c1 c2 c13:List V)(n t3 m k:Nat)(S:List (List PV))(x:dt)(hx1:x.msgs.length<=2147483648)(hx2:x.auto.aa.length<=2147483648)(ar:List aL)(Q:Ex->St->Prop)
  (hQ:∀env X mv ev,kK (ar++X) ar.length 3 mv (msgs x.msgs)->kK (ar++X) ar.length 4 ev (x.auto.aa.map Edge.c)->Q .normal ⟨(1,.ptr 1 0)::(2,.ptr 2 0)::(12,.own 1 0 0 n)::(13,.ptr 13 0)::(22,.ptr 22 0)::(224,.pv (.ae t3 S))::(225,.pv (.int .i64 m))::(226,.pv (.int .i64 k))::env,⟨[(1,c1),(2,c2),(13,c13),(22,[.pv (.str x.name),mv,.pv (.int .i64 x.auto.aj),.pv (.int .i64 x.auto.start),ev])],ar++X,[]⟩⟩):
  W A ay F408.body.two.two.two.two.two.two.two.two.two.one.two.cp.cp.cp.two.two.one.cp.two.one ⟨[(1,.ptr 1 0),(2,.ptr 2 0),(12,.own 1 0 0 n),(13,.ptr 13 0),(22,.ptr 22 0),(224,.pv (.ae t3 S)),(225,.pv (.int .i64 m)),(226,.pv (.int .i64 k))],⟨[(1,c1),(2,c2),(13,c13),(22,x.c.map .pv)],ar,[]⟩⟩ Q:=by
 simp only[F408,pB,AC.one,AC.two,AC.cp];have h445:=r445 x hx1 hx2;unfold Mu at h445;have hml:(msgs x.msgs).length=x.msgs.length:=j9 _;unfold dt.c at h445 |-;by_cases em:msgs x.msgs=[]<;>by_cases ee:x.auto.aa.map Edge.c=[]
 .rw[if_pos em,if_pos ee]at h445;simp(disch:=omega)only[go_sem,List.map_cons,List.map_nil,h445];have:=hQ [] [] (.pv (.ae 0 [])) (.pv (.ae 0 [])) (.inl ⟨rfl,em⟩) (.inl ⟨rfl,ee⟩);rw[abb]at this;exact this
 .rw[if_pos em,if_neg ee]at h445;simp(disch:=omega)only[go_sem,List.map_cons,List.map_nil,h445];exact hQ [] _ _ _ (.inl ⟨rfl,em⟩) (.inr ⟨ar.length,by simp,Nat.le_refl _,ee,by simp⟩)
 .rw[if_neg em,if_pos ee]at h445;simp(disch:=omega)only[go_sem,List.map_cons,List.map_nil,h445];exact hQ [] _ _ _ (.inr ⟨ar.length,by rw[hml],Nat.le_refl _,em,by simp⟩) (.inl ⟨rfl,ee⟩)
 .rw[if_neg em,if_neg ee]at h445;simp(disch:=omega)only[go_sem,List.map_cons,List.map_nil,h445];exact hQ [] _ _ _ (.inr ⟨ar.length,by rw[hml],Nat.le_refl _,em,by simp⟩) (.inr ⟨ar.length+1,by simp,by omega,ee,by simp⟩)
def pU {α:Type}(f:α->α)(l:List α)(j:Nat):List α:=(l.take j).map f++l.drop j
theorem Gq {α:Type}(f:α->α)(l:List α):pU f l 0=l:=by simp[pU]
theorem IY {α:Type}(f:α->α)(l:List α):pU f l l.length=l.map f:=by simp[pU]
theorem BR {α:Type}(f:α->α)(l:List α)(j:Nat):(pU f l j).length=l.length:=by
 simp only[pU,List.length_append,List.length_map,List.length_take,List.length_drop];omega
theorem BS {α:Type}{f:α->α}{l:List α}{j:Nat}{m:α}(h:l[j]?=some m):(pU f l j)[j]?=some m:=by
 have hj:=(aak.1 h).1;have hl:((l.take j).map f).length=j:=by simp;omega
 unfold pU;rw[aav (by omega),hl,acf,aa1,ab4];exact h
theorem IZ {α:Type}{f:α->α}{l:List α}{j:Nat}{m:α}(h:l[j]?=some m):(pU f l j).set j (f m)=pU f l (j+1):=by
 have hj:=(aak.1 h).1;have hl:((l.take j).map f).length=j:=by simp;omega
 unfold pU;rw[acg _ _ (by omega),hl,acf,Bf h,List.set_cons_zero,aaH,h];simp
theorem DM {L:List Int}{l:List eU}{j:Nat}{m:eU}(h:l[j]?=some m)(id:Nat):dy id j 2 [.pv (.int .i64 (br L m.ty))] ⟨0,3,.inl (msgs (pU (iz L) l j))⟩=some {ar:=some (id,⟨0,3,.inl (msgs (pU (iz L) l (j+1)))⟩)}:=by
 have hj:=(aak.1 h).1;rw[jv (l:=[.int .i64 (br L m.ty)]) (by rw[j9,BR];exact hj) rfl (by simp) rfl,<- IZ h];unfold over msgs;have hd:((pU (iz L) l j).map eU.c).getD j []=m.c:=by rw[aat,aap,BS h];rfl
 rw[hd,List.map_set];rfl
set_option maxHeartbeats 4000000 in
theorem Y0 (c1 c2 c13:List V)(n t3 m k:Nat)(S:List (List PV))(L at':List Int)(x:dt)(hx1:x.msgs.length<=16)(ar:List aL)(mv ev:V)(b:Nat)(hb:1<b)(hmv:kK ar b 3 mv (msgs x.msgs))(h1:ar[1]?=some ⟨0,1,.inl (ints at')⟩)(hn:at'.length=n)
  (hat:∀q∈x.msgs,0<=q.ty/\q.ty<n/\at'[q.ty.toNat]?=some (br L q.ty))(env0:List (Nat×V))(Q:Ex->St->Prop)
  (hQ:∀env ar2,(∀i,i<b->ar2[i]?=ar[i]?)->ar.length<=ar2.length->(∀i,(V.own i 0 0 x.msgs.length≠mv->ar2[i]?=ar[i]?))->kK ar2 b 3 mv (msgs (x.msgs.map (iz L)))->Q (.exit 14) ⟨(1,.ptr 1 0)::(2,.ptr 2 0)::(12,.own 1 0 0 n)::(13,.ptr 13 0)::(22,.ptr 22 0)::(224,.pv (.ae t3 S))::(225,.pv (.int .i64 m))::(226,.pv (.int .i64 k))::env,⟨[(1,c1),(2,c2),(13,c13),(22,[.pv (.str x.name),mv,.pv (.int .i64 x.auto.aj),.pv (.int .i64 x.auto.start),ev])],ar2,[]⟩⟩):
  W A ay F408.body.two.two.two.two.two.two.two.two.two.one.two.cp.cp.cp.two.two.one.cp.two.two.one.two.cp ⟨[(1,.ptr 1 0),(2,.ptr 2 0),(12,.own 1 0 0 n),(13,.ptr 13 0),(22,.ptr 22 0),(224,.pv (.ae t3 S)),(225,.pv (.int .i64 m)),(226,.pv (.int .i64 k)),(234,.pv (.int .i64 x.msgs.length)),(235,.pv (.int .i64 0))],⟨[(1,c1),(2,c2),(13,c13),(22,[.pv (.str x.name),mv,.pv (.int .i64 x.auto.aj),.pv (.int .i64 x.auto.start),ev])],ar,[]⟩⟩ Q:=by
 simp only[F408,pB,AC.one,AC.two,AC.cp];rcases hmv with⟨rfl,hm0⟩|⟨mi,rfl,hmi,hm0,hma⟩
 .have hm0:=acn.1 hm0;rw[hm0]at hQ |-;refine W.dx 0 (λj=>⟨[(1,.ptr 1 0),(2,.ptr 2 0),(12,.own 1 0 0 n),(13,.ptr 13 0),(22,.ptr 22 0),(224,.pv (.ae t3 S)),(225,.pv (.int .i64 m)),(226,.pv (.int .i64 k)),(234,.pv (.int .i64 (([]:List eU).length:Nat))),(235,.pv (.int .i64 j))],⟨[(1,c1),(2,c2),(13,c13),(22,[.pv (.str x.name),.pv (.ae 0 []),.pv (.int .i64 x.auto.aj),.pv (.int .i64 x.auto.start),ev])],ar,[]⟩⟩) (λ_=>True) rfl trivial λj hj _=>?_;simp(disch:=omega)only[go_sem];refine Br.aF (λc=>?_) (λc=>?_)
  .simp at c;omega
  simp(disch:=omega)only[go_sem];exact hQ _ ar (λ_ _=>rfl) (aau _) (λ_ _=>rfl) (.inl ⟨rfl,rfl⟩)
 .have hml2:(msgs x.msgs).length=x.msgs.length:=j9 _;rw[hml2]at hQ;have hmil:=(aak.1 hma).1;have gM:∀a,(ar.set mi a)[mi]?=some a:=λa=>aaG hmil;have g1:∀a,(ar.set mi a)[1]?=some ⟨0,1,.inl (ints at')⟩:=λa=>by rw[aaL (by omega)];exact h1
  rw[hml2];refine W.dx x.msgs.length (λj=>⟨[(1,.ptr 1 0),(2,.ptr 2 0),(12,.own 1 0 0 n),(13,.ptr 13 0),(22,.ptr 22 0),(224,.pv (.ae t3 S)),(225,.pv (.int .i64 m)),(226,.pv (.int .i64 k)),(234,.pv (.int .i64 x.msgs.length)),(235,.pv (.int .i64 j))],⟨[(1,c1),(2,c2),(13,c13),(22,[.pv (.str x.name),.own mi 0 0 x.msgs.length,.pv (.int .i64 x.auto.aj),.pv (.int .i64 x.auto.start),ev])],ar.set mi ⟨0,3,.inl (msgs (pU (iz L) x.msgs j))⟩,[]⟩⟩) (λ_=>True) ?_ trivial λj hj _=>?_
  .rw[Gq,sE hma];rfl
  have hmj:=BR (iz L) x.msgs j;simp(disch:=omega)only[go_sem];refine Br.aF (λc=>?_) (λc=>?_)
  .obtain⟨q,hq⟩:=get_some (l:=x.msgs) (k:=j) (by omega);obtain⟨q0,q1,q2⟩:=hat q (aaj hq);have hmg:=BS (f:=iz L) hq;have hst:=λid=>DM (L:=L) hq id;simp(disch:=omega)only[go_sem,g1,gM,hmg,Option.map_some,eU.c,q2,hst,List.set_set];exact .of (by omega) rfl trivial
  .obtain rfl:j=x.msgs.length:=by omega
   rw[IY];simp(disch:=omega)only[go_sem];refine hQ _ _ (λi hi=>by rw[List.getElem?_set_ne (by omega)]) (by rw[List.length_set];exact Nat.le_refl _) (λi hi=>?_) (.inr ⟨mi,by simp[msgs],hmi,by simpa [msgs]using hm0,gM _⟩);rw[aaL]
   rintro rfl
   exact hi rfl
theorem kK.cell {ar:List aL}{b k o:Nat}{v:V}{rows:List (List PV)}(h:kK ar b k v rows)(ho:o<b):gL ar o v (.ae 0 rows):=by
 rcases h with⟨rfl,rfl⟩|⟨m,rfl,h1,_,h2⟩
 .exact .inl ⟨rfl,rfl⟩
 .exact .inr ⟨k,rows,rfl,.inr (.inl ⟨m,0,rfl,by omega,h2⟩)⟩
theorem kK.My {ar:List aL}{b k o:Nat}{v:V}{rows:List (List PV)}(h:kK ar b k v rows)(ho:ar.length<=o):gL ar o v (.ae 0 rows):=by
 rcases h with⟨rfl,rfl⟩|⟨m,rfl,h1,_,h2⟩
 .exact .inl ⟨rfl,rfl⟩
 .have:=(aak.1 h2).1
  exact .inr ⟨k,rows,rfl,.inr (.inl ⟨m,0,rfl,by omega,h2⟩)⟩
theorem EY {w:dt}{ar:List aL}{o b:Nat}{mv ev:V}(ho:o<b\/ar.length<=o)(hm:kK ar b 3 mv (msgs w.msgs))(he:kK ar b 4 ev (w.auto.aa.map Edge.c)):dZ ar o [.pv (.str w.name),mv,.pv (.int .i64 w.auto.aj),.pv (.int .i64 w.auto.start),ev] w.c:=by
 unfold dt.c;have h1:gL ar o mv (.ae 0 (w.msgs.map eU.c)):=by
  rcases ho with h|h
  .exact hm.cell h
  .exact hm.My h
 have h2:gL ar o ev (.ae 0 (w.auto.aa.map Edge.c)):=by
  rcases ho with h|h
  .exact he.cell h
  .exact he.My h
 exact .pure rfl rfl (.cons h1 (.pure rfl rfl (.pure rfl rfl (.cons h2 (.nil _ _)))))
theorem kK.push {ar:List aL}{b k:Nat}{v:V}{rows:List (List PV)}(h:kK ar b k v rows)(x:List aL):kK (ar++x) b k v rows:=by
 rcases h with h|⟨m,h1,h2,h3,h4⟩
 .exact .inl h
 .exact .inr ⟨m,h1,h2,h3,by rw[aao (aak.1 h4).1];exact h4⟩
theorem BT {α:Type}{a b:List α}{n i:Nat}(h:a.take n=b.take n)(hi:i<n):a[i]?=b[i]?:=by
 have:=congrArg (λl=>l[i]?) h;simpa [List.getElem?_take,hi]using this
theorem BU {α:Type}{a b:List α}{n:Nat}(h:∀i,i<n->a[i]?=b[i]?):a.take n=b.take n:=by
 apply aa0;intro i;rw[aax,aax];split
 .exact h i (by assumption)
 .rfl
theorem dH.move {b:Nat}{ar ar':List aL}{V0:V}{k:Nat}{css:List (List PV)}(h:dH b ar V0 k css)(hl:∀i,i<ar.length->ar'[i]?=ar[i]?):dH b ar' V0 k css:=by
 rcases h with h|⟨o,aw,h1,h2,body,h3,h4⟩
 .exact .inl h
 .have ho:=(aak.1 h3).1;refine .inr ⟨o,aw,h1,h2,body,by rw[hl o ho];exact h3,h4.len,λi row cs g1 g2=>?_⟩;obtain⟨r1,r2⟩:=h4.row i row cs g1 g2;refine⟨r1,λj v c j1 j2=>?_⟩;rcases r2 j v c j1 j2 with h|⟨kk,rows,e,h|⟨id,vv,e1,e2,e3⟩|h⟩
  .exact .inl h
  .exact .inr ⟨kk,rows,e,.inl h⟩
  .exact .inr ⟨kk,rows,e,.inr (.inl ⟨id,vv,e1,e2,by rw[hl id (aak.1 e3).1];exact e3⟩)⟩
  .exact .inr ⟨kk,rows,e,.inr (.inr h)⟩
set_option maxHeartbeats 8000000 in
theorem Z0 (c1 c2:List V)(nm:ByteArray)(n t3:Nat)(C:List dt)(L at':List Int)(V0 V1:V)(pre:List aL)(hn:at'.length=n)(h1:pre[1]?=some ⟨0,1,.inl (ints at')⟩)(hC:C.length<=8)(hsm:∀w∈C,w.msgs.length<=16/\w.auto.aa.length<=2000000000)
  (hat:∀w∈C,∀q∈w.msgs,0<=q.ty/\q.ty<n/\at'[q.ty.toNat]?=some (br L q.ty))(Q:Ex->St->Prop)
  (hQ:∀env ar V2,ar.take pre.length=pre->dH pre.length ar V2 5 ((C.map (bR L)).map dt.c)->Q (.exit 12) ⟨(1,.ptr 1 0)::(2,.ptr 2 0)::(12,.own 1 0 0 n)::(13,.ptr 13 0)::env,⟨[(1,c1),(2,c2),(13,[.pv (.str nm),V0,V1,V2,.tl []])],ar,[]⟩⟩):
  W A ay F408.body.two.two.two.two.two.two.two.two.two.one.two.cp ⟨[(1,.ptr 1 0),(2,.ptr 2 0),(12,.own 1 0 0 n),(13,.ptr 13 0),(224,.pv (.ae t3 (az C))),(225,.pv (.int .i64 C.length)),(226,.pv (.int .i64 0))],⟨[(1,c1),(2,c2),(13,[.pv (.str nm),V0,V1,.tl [],.tl []])],pre,[]⟩⟩ Q:=by
 have s9a:=YZ c1 c2;have s9b:=Y0 c1 c2;have hp1:=(aak.1 h1).1;rw[show F408.body.two.two.two.two.two.two.two.two.two.one.two.cp=AC.loop (.mask [1,2,12,13,224,225,226] [1,2,13] (.seq F408.body.two.two.two.two.two.two.two.two.two.one.two.cp.cp.cp.one (.seq F408.body.two.two.two.two.two.two.two.two.two.one.two.cp.cp.cp.two.one (.seq (.block 13 (.seq F408.body.two.two.two.two.two.two.two.two.two.one.two.cp.cp.cp.two.two.one.cp.one (.seq F408.body.two.two.two.two.two.two.two.two.two.one.two.cp.cp.cp.two.two.one.cp.two.one (.seq (.seq F408.body.two.two.two.two.two.two.two.two.two.one.two.cp.cp.cp.two.two.one.cp.two.two.one.one (.block 14 F408.body.two.two.two.two.two.two.two.two.two.one.two.cp.cp.cp.two.two.one.cp.two.two.one.two.cp)) F408.body.two.two.two.two.two.two.two.two.two.one.two.cp.cp.cp.two.two.one.cp.two.two.two)))) F408.body.two.two.two.two.two.two.two.two.two.one.two.cp.cp.cp.two.two.two)))) from rfl];generalize F408.body.two.two.two.two.two.two.two.two.two.one.two.cp.cp.cp.two.two.one.cp.two.one=D at s9a |-;generalize F408.body.two.two.two.two.two.two.two.two.two.one.two.cp.cp.cp.two.two.one.cp.two.two.one.two.cp=E at s9b |-;simp only[F408,pB,AC.one,AC.two,AC.cp];refine W.loop (α:=Nat×List aL×V) (λx=>⟨[(1,.ptr 1 0),(2,.ptr 2 0),(12,.own 1 0 0 n),(13,.ptr 13 0),(224,.pv (.ae t3 (az C))),(225,.pv (.int .i64 C.length)),(226,.pv (.int .i64 x.1))],⟨[(1,c1),(2,c2),(13,[.pv (.str nm),V0,V1,x.2.2,.tl []])],x.2.1,[]⟩⟩) (λx=>x.1<=C.length/\x.2.1.take pre.length=pre/\pre.length<=x.2.1.length/\dH pre.length x.2.1 x.2.2 5 (((C.map (bR L)).take x.1).map dt.c)) (λx=>C.length - x.1) (0,pre,.tl []) rfl ⟨aaS _,aaQ,aau _,.inl ⟨rfl,rfl⟩⟩ λx hx=>?_;obtain⟨k,ar,V2⟩:=x;obtain⟨hk,hpre,hpl,hlist⟩:=hx;dsimp only at hk hpre hpl hlist;simp(disch:=omega)only[go_sem];refine Br.aF (λc=>?_) (λc=>?_)
 rotate_left
 .obtain rfl:k=C.length:=by omega
  have e:(C.map (bR L)).take C.length=C.map (bR L):=List.take_of_length_le (by simp);rw[e]at hlist;simp(disch:=omega)only[go_sem];exact hQ _ ar V2 hpre hlist
 obtain⟨x,hx⟩:=get_some (l:=C) (k:=k) (by omega);have hxm:=aaj hx;obtain⟨hm16,hel⟩:=hsm x hxm;have hax:=hat x hxm;have har1:ar[1]?=some ⟨0,1,.inl (ints at')⟩:=by
  have:ar[1]?=pre[1]?:=by rw[<- hpre,aax,if_pos hp1]
  rw[this,h1]
 have har1l:=(aak.1 har1).1;have hnx:((C.map (bR L)).take (k+1)).map dt.c=((C.map (bR L)).take k).map dt.c++[(bR L x).c]:=by
  rw[aaH,aap,hx];simp
 have hcl:(((C.map (bR L)).take k).map dt.c).length<=8:=by rw[aam,aaA,aam];omega
 simp(disch:=omega)only[go_sem,hx,Option.map_some,dt.c];refine s9a [.pv (.str nm),V0,V1,V2,.tl []] n t3 C.length k (az C) x (by omega) (by omega) ar _ λenv X mv ev hmv hev=>?_;have hX1:(ar++X)[1]?=some ⟨0,1,.inl (ints at')⟩:=by rw[aao har1l];exact har1
 have hlen:je ⟨[(1,c1),(2,c2),(13,[.pv (.str nm),V0,V1,V2,.tl []]),(22,[.pv (.str x.name),mv,.pv (.int .i64 x.auto.aj),.pv (.int .i64 x.auto.start),ev])],ar++X,[]⟩ 0 mv=some (x.msgs.length,{}):=by
  rcases hmv with⟨rfl,h⟩|⟨mi,rfl,_⟩
  .rw[acn.1 h];rfl
  .rw[j9];rfl
 simp(disch:=omega)only[go_sem,hlen];refine s9b [.pv (.str nm),V0,V1,V2,.tl []] n t3 C.length k (az C) L at' x hm16 (ar++X) mv ev ar.length (by omega) hmv hX1 hn hax [] _ λenv ar2 g1 g2 g3 hmv2=>?_;have hev2:kK ar2 ar.length 4 ev (x.auto.aa.map Edge.c):=by
  rcases hev with h|⟨mi,rfl,q1,q2,q3⟩
  .exact .inl h
  .refine .inr ⟨mi,rfl,q1,q2,?_⟩;by_cases e:V.own mi 0 0 x.msgs.length=mv
   .rcases hmv with⟨rfl,_⟩|⟨mj,rfl,_,_,q4⟩
    .cases e
    .injection e with e1;subst e1;rw[q3]at q4;cases q4
   .rw[g3 mi e];exact q3
 have hl2:dH pre.length ar2 V2 5 (((C.map (bR L)).take k).map dt.c):=hlist.move λi hi=>by rw[g1 i hi,aao hi]
 have hpre2:ar2.take pre.length=pre:=by
  rw[<- hpre];rw[aaA,aco hpl];exact BU λi hi=>by rw[g1 i (by omega),aao (by omega)]
 have hAl:(ar2.take ar.length).length=ar.length:=by rw[aaA];have:=g2;rw[aas]at this;omega
 have hA:dH pre.length (ar2.take ar.length) V2 5 (((C.map (bR L)).take k).map dt.c):=hlist.move λi hi=>by rw[aax,if_pos hi,g1 i hi,aao hi]
 have hsplit:ar2.take ar.length++ar2.drop ar.length=ar2:=abr _ _;have hmsgs:(bR L x).msgs=x.msgs.map (iz L):=rfl;have fin:∀ar' V3,ar'.take pre.length=(ar2.take ar.length).take pre.length->pre.length<=ar'.length->dH pre.length ar' V3 5 (((C.map (bR L)).take k).map dt.c++[(bR L x).c])->((k+1,ar',V3):Nat×List aL×V).1<=C.length/\ar'.take pre.length=pre/\pre.length<=ar'.length/\dH pre.length ar' V3 5 (((C.map (bR L)).take (k+1)).map dt.c):=λar' V3 q1 q2 q3=>by
  refine⟨by dsimp only;omega,?_,q2,by rw[hnx];exact q3⟩;rw[q1,List.take_take,aco hpl,hpre2]
 have lit:∀row,row=[.pv (.str x.name),mv,.pv (.int .i64 x.auto.aj),.pv (.int .i64 x.auto.start),ev]->∃V3 T ar',(∀bx,aJ ⟨bx,ar2++[⟨0,5,.inr [row]⟩],[]⟩ 5 V2 (.own ar2.length 0 0 1)=some (V3,T))/\(∀bx,T.apply ⟨bx,ar2++[⟨0,5,.inr [row]⟩],[]⟩=⟨bx,ar',[]⟩)/\V3.cells=[V3]/\V3.calm=true/\ar'.take pre.length=(ar2.take ar.length).take pre.length/\pre.length<=ar'.length/\dH pre.length ar' V3 5 (((C.map (bR L)).take k).map dt.c++[(bR L x).c]):=λrow hrow=>by
  have:=Lb (X0:=ar2.drop ar.length) (row:=row) (n:=ar2.length) (cs:=(bR L x).c) hA (by omega) (by omega) rfl (by rw[hsplit]) λo ho=>?_
  .rw[hsplit]at this;exact this
  .rw[hsplit,hrow];have:=EY (w:=bR L x) (ar:=ar2++[⟨0,5,.inr [row]⟩]) (o:=o) (b:=ar.length) (mv:=mv) (ev:=ev) (by rw[aas,List.length_singleton];omega) (hmv2.push _) (hev2.push _);rw[hrow]at this;exact this
 rcases hmv2 with⟨rfl,hm0⟩|⟨mi,rfl,w1,w2,w3⟩<;>rcases hev2 with⟨rfl,he0⟩|⟨ei,rfl,z1,z2,z3⟩
 .obtain⟨V3,T,ar',happ,hT,hc1,hc2,q1,q2,q3⟩:∃V3 T ar',(∀bx,aJ ⟨bx,ar2,[]⟩ 5 V2 (.tl [[.str x.name,.ae 0 [],.int .i64 x.auto.aj,.int .i64 x.auto.start,.ae 0 []]])=some (V3,T))/\(∀bx,T.apply ⟨bx,ar2,[]⟩=⟨bx,ar',[]⟩)/\V3.cells=[V3]/\V3.calm=true/\ar'.take pre.length=(ar2.take ar.length).take pre.length/\pre.length<=ar'.length/\dH pre.length ar' V3 5 (((C.map (bR L)).take k).map dt.c++[(bR L x).c]):=by
   have:=VP (X:=ar2.drop ar.length) (y:=.tl [[.str x.name,.ae 0 [],.int .i64 x.auto.aj,.int .i64 x.auto.start,.ae 0 []]]) (new:=.inl [[.str x.name,.ae 0 [],.int .i64 x.auto.aj,.int .i64 x.auto.start,.ae 0 []]]) (rd:=none) (row:=[.pv (.str x.name),.pv (.ae 0 []),.pv (.int .i64 x.auto.aj),.pv (.int .i64 x.auto.start),.pv (.ae 0 [])]) (cs:=(bR L x).c) hA (by omega) (by omega) rfl (λbx=>rfl) rfl (λo h=>by cases h) λo ho=>?_
   .rw[hsplit]at this;exact this
   .rw[hsplit]at ho |-;exact EY (w:=bR L x) (b:=ar.length) (by omega) (.inl ⟨rfl,hm0⟩) (.inl ⟨rfl,he0⟩)
  simp(disch:=omega)only[go_sem,happ,hT,hc1,hc2];exact⟨(k+1,ar',V3),fin ar' V3 q1 q2 q3,by dsimp only;omega,rfl⟩
 .simp only[j9,List.length_map]at lit;obtain⟨V3,T,ar',happ,hT,hc1,hc2,q1,q2,q3⟩:=lit _ rfl;simp(disch:=omega)only[go_sem,happ,hT,hc1,hc2];exact⟨(k+1,ar',V3),fin ar' V3 q1 q2 q3,by dsimp only;omega,rfl⟩
 .simp only[j9,List.length_map]at lit;obtain⟨V3,T,ar',happ,hT,hc1,hc2,q1,q2,q3⟩:=lit _ rfl;simp(disch:=omega)only[go_sem,happ,hT,hc1,hc2];exact⟨(k+1,ar',V3),fin ar' V3 q1 q2 q3,by dsimp only;omega,rfl⟩
 .simp only[j9,List.length_map]at lit;obtain⟨V3,T,ar',happ,hT,hc1,hc2,q1,q2,q3⟩:=lit _ rfl;simp(disch:=omega)only[go_sem,happ,hT,hc1,hc2];exact⟨(k+1,ar',V3),fin ar' V3 q1 q2 q3,by dsimp only;omega,rfl⟩
set_option maxHeartbeats 2000000 in
theorem Y1 (c1 c2:List V)(nm:ByteArray)(n:Nat)(T:List aB)(L at':List Int)(ua:aL)(rows:List (List PV))(hr:rows=L.map λu=>(bf T u).c)(hts:∀t∈T,t.short)(hn:at'.length=n)(hT:∀u∈L,0<=u/\u<T.length/\1<=(bf T u).kind/\(bf T u).kind<=9)(hL:L.length<=100)
  (hat:∀u∈L,∀w∈bw (bf T u),0<=w/\w<n/\at'[w.toNat]?=some (br L w))(Q:Ex->St->Prop)
  (hQ:∀env ar V0,ar[1]?=some ⟨0,1,.inl (ints at')⟩->dH 0 ar V0 10 (L.map λu=>(bt L (bf T u)).c)->Q (.exit 6) ⟨(1,.ptr 1 0)::(2,.ptr 2 0)::(12,.own 1 0 0 n)::(13,.ptr 13 0)::env,⟨[(1,c1),(2,c2),(13,[.pv (.str nm),V0,.tl [],.tl [],.tl []])],ar,[]⟩⟩):
  W A ay F408.body.two.two.two.two.two.two.two.one.two.cp ⟨[(1,.ptr 1 0),(2,.ptr 2 0),(12,.own 1 0 0 n),(13,.ptr 13 0),(100,.pv (.int .i64 rows.length)),(101,.pv (.int .i64 0))],⟨[(1,c1),(2,c2),(13,[.pv (.str nm),dn 2 rows,.tl [],.tl [],.tl []])],ua::⟨0,1,.inl (ints at')⟩::cG 10 rows,[]⟩⟩ Q:=by
 have hrl:rows.length=L.length:=by rw[hr,aam]
 cases hLc:L with
 |nil=>
  subst hLc;have hr0:rows=[]:=by rw[hr];rfl
  rw[hr0];simp only[F408,pB,AC.one,AC.two,AC.cp];refine W.dx 0 (λk=>⟨[(1,.ptr 1 0),(2,.ptr 2 0),(12,.own 1 0 0 n),(13,.ptr 13 0),(100,.pv (.int .i64 (([]:List (List PV)).length:Nat))),(101,.pv (.int .i64 k))],⟨[(1,c1),(2,c2),(13,[.pv (.str nm),.tl [],.tl [],.tl [],.tl []])],[ua,⟨0,1,.inl (ints at')⟩],[]⟩⟩) (λ_=>True) rfl trivial λk hk _=>?_;simp(disch:=omega)only[go_sem];refine Br.aF (λc=>?_) (λc=>?_)
  .simp at c;omega
  simp(disch:=omega)only[go_sem];exact hQ _ _ (.tl []) rfl (.inl ⟨rfl,rfl⟩)
 |cons u0 L0=>
  have hv:L.length=L0.length+1:=by rw[hLc];rfl
  rw[qJ (n:=L0.length) (by rw[hrl,hv]),mc (n:=L0.length) (by rw[hrl,hv]),hrl];have:=ZY c1 c2 nm n T L at' [ua,⟨0,1,.inl (ints at')⟩,⟨L0.length,10,.inl rows⟩] hts hn hT hL hat L0.length hv ⟨Nat.zero_le _,rfl,.inl rows,rfl,by simp[bl,hrl],λi row u h=>absurd h (Nat.not_lt_zero _),λi _=>by simp[bl,hr,List.getElem?_map,Function.comp_def]⟩ Q λenv ar h=>hQ env ar (.own 2 L0.length 0 L.length) h.at1 ?_
  .rw[<- hv];exact this
  .obtain⟨_,_,body,h2,hbl,hd,_⟩:=h;refine .inr ⟨2,L0.length,by rw[aam],aaS _,body,h2,by rw[hbl,aam],λi row cs g1 g2=>?_⟩;rw[aap]at g2;obtain⟨u,hu,rfl⟩:=aaT.1 g2;exact hd i row u (aak.1 hu).1 g1 hu
theorem cX.roots {v:eV}(h:cX v):(eN v).length<=1000:=by
 obtain⟨h1,h2,h3⟩:=h.C6;have:=Le λw hw=>show w.msgs.length<=20 by have:=(h.kJ w hw).C6;omega
 have h7:=sD v.calls;have h8:(pM v.aI).length=v.aI.length:=aam _;rw[eN,aas,aas];omega
theorem pV (bx:List (Nat×List V))(mp:List (List (PV×PV)))(pre post:List aL)(k d:Nat)(rows:List (List PV)):bd ⟨bx,pre++(cG k rows++post),mp⟩ (d+1) (dn pre.length rows)=some (.ae 0 rows):=by
 cases rows with
 |nil=>rfl
 |cons x q=>
  have:=C2 bx mp pre post k x q;simp[dn,eo,this,cb,aD]
theorem r408 (t1 t2 t3 t4:Nat)(v:eV)(hv:gK v):res A ay 408 [.agg (eY t1 t2 t3 t4 v)]=some (if rn v=0 then [.agg (eY 0 0 0 0 (aQ v)),.int .i64 0] else [.agg [.str ⟨#[]⟩,.ae 0 [],.ae 0 [],.ae 0 [],.ae 0 []],.int .i64 (rn v)]):=by
 have h407:=r407 t1 t2 t3 t4 v hv;refine ai a408 rfl rfl ?_;simp only[F408,pB,eY]at h407 |-;simp(disch:=omega)only[go_sem,h407];refine Br.aF (λc=>?_) (λc=>?_)
 rotate_left
 .rw[if_neg c];simp(disch:=omega)only[go_sem]
 rw[if_pos c];have hG:=sA c;have h8:=hG.C6;have hvv:=hG.valid;have h32:=(bB hvv).len;have hroot:=hG.root;have hrl:(eN v).length<=1000:=hG.roots;have h417:=r417 t1 t2 t3 t4 v (by omega) (by omega) (by omega) (by omega) (λw hw=>(hv.ss w hw).2.1);simp only[eY]at h417;simp(disch:=omega)only[go_sem,h417];refine ZW t1 t2 t3 t4 v hv hvv _ (λr hr=>hroot r (xW.1 hr)) (by have:=FW (eN v);omega) _ λenv=>?_;simp(disch:=omega)only[go_sem];refine ZX t1 t2 t3 t4 v h32 _ (xY _ _) _ λenv=>?_;simp(disch:=omega)only[go_sem];have hUl:=F3 v;have hUd:th v.types (xV (eN v))=lE v:=rfl;have hKd:i6 (lE v) v.types.length=aP v:=rfl;rw[hUd];have hkr:lJ v.types (lE v) v.types.length=(aP v).map λu=>(bf v.types u).c:=by
  unfold lJ aP i6;rw[aa6];rfl
 have hnl:=Bv (lE v) v.types.length v.types.length;have hus:∀u,Used v u->0<=u/\u<v.types.length/\(oJ (lE v) v.types.length v.types.length)[u.toNat]?=some (br (aP v) u):=λu h=>⟨h.1,h.2.1,Iw h.1 h.2.1 h.2.2⟩;have hur:=sq hvv hroot;have hsane:=bB hvv;have hkd:∀u:Int,0<=u->u<v.types.length->1<=(bf v.types u).kind/\(bf v.types u).kind<=9:=λu h0 h1=>(vN hv.to hvv).2.2 _ (aaj (cC h0 h1));have hLl:(aP v).length<=100:=by
  unfold aP i6;rw[aam];have:=ox (lE v) v.types.length;omega
 have hsv:aQ v=⟨v.name,(aP v).map λu=>bt (aP v) (bf v.types u),v.calls.map (cq (aP v)),v.az.map (bR (aP v)),v.aI.map (cW (aP v))⟩:=rfl;generalize oJ (lE v) v.types.length v.types.length=at' at *;refine Y1 _ _ v.name v.types.length v.types (aP v) at' _ _ hkr hv.ts hnl (λu hu=>?_) hLl (λu hu w hw=>hus w (yc (dV.1 hu) hw)) _ λenv ar V0 ha1 hV0=>?_
 .obtain⟨g0,g1,_⟩:=dV.1 hu;exact⟨g0,g1,hkd u g0 g1⟩
 have hq0:=hV0.quiet;simp(disch:=omega)only[go_sem,hq0.1,hq0.2];refine ZZ _ _ _ _ _ v.name v.types.length t2 v.calls (aP v) at' V0 ar hnl ha1 (by omega) (λc hc=>?_) _ λenv=>?_
 .have h1:c.lK∈eN v:=List.mem_append_left _ (List.mem_append_left _ (List.mem_flatMap.2 ⟨c,hc,by simp⟩));have h2:c.rep∈eN v:=List.mem_append_left _ (List.mem_append_left _ (List.mem_flatMap.2 ⟨c,hc,by simp⟩));exact⟨hus _ (hur _ h1),hus _ (hur _ h2)⟩
 simp(disch:=omega)only[go_sem,hq0.1,hq0.2];have har1l:=(aak.1 ha1).1;have hp1:(ar++cG 3 (bm (v.calls.map (cq (aP v)))))[1]?=some ⟨0,1,.inl (ints at')⟩:=by rw[aao har1l];exact ha1
 refine Z0 _ _ v.name v.types.length t3 v.az (aP v) at' V0 (dn ar.length (bm (v.calls.map (cq (aP v))))) (ar++cG 3 (bm (v.calls.map (cq (aP v))))) hnl hp1 (by omega) (λw hw=>⟨(hG.kJ w hw).C6,(hv.ss w hw).2.2.2⟩) (λw hw q hq=>?_) _ λenv ar3 V2 ht hV2=>?_
 .have h1:q.ty∈eN v:=aa2 _ (aa9 _ (ab5.2 ⟨w,hw,aaq.2 ⟨q,hq,rfl⟩⟩));exact hus _ (hur _ h1)
 have hq2:=hV2.quiet;have h31:ar3[1]?=some ⟨0,1,.inl (ints at')⟩:=by
  have:=BT (i:=1) (n:=(ar++cG 3 (bm (v.calls.map (cq (aP v))))).length) (a:=ar3) (b:=ar++cG 3 (bm (v.calls.map (cq (aP v))))) (by rw[ht,aaQ]) (by rw[aas];omega);rw[this,hp1]
 simp(disch:=omega)only[go_sem,hq0.1,hq0.2,hq2.1,hq2.2];refine YY _ v.name v.types.length t4 v.aI (aP v) at' V0 (dn ar.length (bm (v.calls.map (cq (aP v))))) V2 ar3 hnl h31 (by omega) (λc hc=>hus _ (hur _ (aa9 _ (aaq.2 ⟨c,hc,rfl⟩)))) _ λenv=>?_;have k0:∀bx,bd ⟨bx,ar3++cG 2 (cg (v.aI.map (cW (aP v)))),[]⟩ 4 V0=some (.ae 0 ((aP v).map λu=>(bt (aP v) (bf v.types u)).c)):=λbx=>by
  have h1:dH 0 ar3 V0 10 ((aP v).map λu=>(bt (aP v) (bf v.types u)).c):=hV0.move λi hi=>by
   have:=BT (i:=i) (n:=(ar++cG 3 (bm (v.calls.map (cq (aP v))))).length) (a:=ar3) (b:=ar++cG 3 (bm (v.calls.map (cq (aP v))))) (by rw[ht,aaQ]) (by rw[aas];omega);rw[this,aao hi]
  exact(h1.push _).bV bx []
 have k1:∀bx,bd ⟨bx,ar3++cG 2 (cg (v.aI.map (cW (aP v)))),[]⟩ 4 (dn ar.length (bm (v.calls.map (cq (aP v)))))=some (.ae 0 (bm (v.calls.map (cq (aP v))))):=λbx=>by
  have h1:ar3=(ar++cG 3 (bm (v.calls.map (cq (aP v)))))++ar3.drop (ar++cG 3 (bm (v.calls.map (cq (aP v))))).length:=by
   have:=abr (ar++cG 3 (bm (v.calls.map (cq (aP v))))).length ar3;rw[ht]at this;exact this.symm
  rw[h1,aay,aay];exact pV bx [] ar _ 3 3 _
 have k2:∀bx,bd ⟨bx,ar3++cG 2 (cg (v.aI.map (cW (aP v)))),[]⟩ 4 V2=some (.ae 0 ((v.az.map (bR (aP v))).map dt.c)):=λbx=>(hV2.push _).bV bx [];have k3:∀bx,bd ⟨bx,ar3++cG 2 (cg (v.aI.map (cW (aP v)))),[]⟩ 4 (dn ar3.length (cg (v.aI.map (cW (aP v)))))=some (.ae 0 (cg (v.aI.map (cW (aP v))))):=λbx=>qI bx [] ar3 2 3 _;simp(disch:=omega)only[go_sem,hq0.1,hq0.2,hq2.1,hq2.2,k0,k1,k2,k3];rw[hsv];dsimp only;unfold az;rw[aa6 (l:=aP v)];rfl
set_option maxHeartbeats 4000000 in
theorem r409 (v:eV)(ht:v.types.length<=2147483648)(ho:∀t∈v.types,t.ok)(hc:v.calls.length<=1000)(hs:v.az.length<=1000)(hss:∀w∈v.az,w.msgs.length<=2^63 - 1/\w.auto.aa.length<=2^63 - 1)(hp:v.aI.length<=1000):res A ay 409 [.agg (eY 0 0 0 0 v),.agg (eY 0 0 0 0 v)]=some [.bool true]:=by
 have h277:=λt u=>r277 t u v.types v.types (by omega) (by omega) ho ho;rw[dX]at h277;refine ai a409 rfl rfl ?_;simp only[F409,O5,eY];have bx:∀k:Nat,True:=λ_=>trivial;simp(disch:=omega)only[go_sem,h277];refine W.dx v.calls.length (λk=>⟨[(2,.ptr 2 0),(3,.ptr 3 0),(5,.pv (.int .i64 k))],⟨[(2,[.pv (.str v.name),.pv (.ae 0 (v.types.map aB.c)),.pv (.ae 0 (bm v.calls)),.pv (.ae 0 (az v.az)),.pv (.ae 0 (cg v.aI))]),(3,[.pv (.str v.name),.pv (.ae 0 (v.types.map aB.c)),.pv (.ae 0 (bm v.calls)),.pv (.ae 0 (az v.az)),.pv (.ae 0 (cg v.aI))])],[],[]⟩⟩) (λ_=>True) rfl trivial λk hk _=>?_;simp(disch:=omega)only[go_sem];refine Br.aF (λc=>?_) (λc=>?_)
 .obtain⟨x,hx⟩:=get_some (l:=v.calls) (k:=k) (by omega);simp(disch:=omega)only[go_sem,hx,Option.map_some,j8.c,decide_true,Bool.and_true];exact .of (by omega) rfl trivial
 simp(disch:=omega)only[go_sem];refine W.dx v.az.length (λk=>⟨[(2,.ptr 2 0),(3,.ptr 3 0),(6,.pv (.int .i64 k))],⟨[(2,[.pv (.str v.name),.pv (.ae 0 (v.types.map aB.c)),.pv (.ae 0 (bm v.calls)),.pv (.ae 0 (az v.az)),.pv (.ae 0 (cg v.aI))]),(3,[.pv (.str v.name),.pv (.ae 0 (v.types.map aB.c)),.pv (.ae 0 (bm v.calls)),.pv (.ae 0 (az v.az)),.pv (.ae 0 (cg v.aI))])],[],[]⟩⟩) (λ_=>True) rfl trivial λk hk _=>?_;simp(disch:=omega)only[go_sem];refine Br.aF (λc=>?_) (λc=>?_)
 .obtain⟨x,hx⟩:=get_some (l:=v.az) (k:=k) (by omega);have h416:=r416 x (hss x (aaj hx)).1 (hss x (aaj hx)).2;simp only[dt.c]at h416;simp(disch:=omega)only[go_sem,hx,Option.map_some,dt.c,h416];exact .of (by omega) rfl trivial
 simp(disch:=omega)only[go_sem];refine W.dx v.aI.length (λk=>⟨[(2,.ptr 2 0),(3,.ptr 3 0),(7,.pv (.int .i64 k))],⟨[(2,[.pv (.str v.name),.pv (.ae 0 (v.types.map aB.c)),.pv (.ae 0 (bm v.calls)),.pv (.ae 0 (az v.az)),.pv (.ae 0 (cg v.aI))]),(3,[.pv (.str v.name),.pv (.ae 0 (v.types.map aB.c)),.pv (.ae 0 (bm v.calls)),.pv (.ae 0 (az v.az)),.pv (.ae 0 (cg v.aI))])],[],[]⟩⟩) (λ_=>True) rfl trivial λk hk _=>?_;simp(disch:=omega)only[go_sem];refine Br.aF (λc=>?_) (λc=>?_)
 .obtain⟨x,hx⟩:=get_some (l:=v.aI) (k:=k) (by omega);simp(disch:=omega)only[go_sem,hx,Option.map_some,ky.c,decide_true,Bool.and_true];exact .of (by omega) rfl trivial
 simp(disch:=omega)only[go_sem]
end Go.Pv
