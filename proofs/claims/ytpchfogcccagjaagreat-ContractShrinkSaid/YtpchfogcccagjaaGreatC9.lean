/-
 What the functions of the law give.
-/
import Derived.Test.YtpchfogcccagjaaGreatC8
set_option linter.unusedSimpArgs false
set_option linter.unusedVariables false
open List renaming getElem?_eq_some_iff → Vy, mem_of_getElem? → Vz, length_map → VB, getElem?_append_left → VC, length_append → VE, length_take → VH, getD_eq_getElem?_getD → VK, getElem?_take → VN, append_assoc → VO, mem_map → VP, take_add_one → VT, take_length → VW, getElem?_set_self → VY, length_range → V7, mem_append_left → Wh, append_nil → Wj, mem_append_right → Wn, take_append_drop → Wo, mem_filterMap → Wz, mem_range → WA, range_succ → WR, length_singleton → WV, map_eq_nil_iff → W2, map_map → W6, filterMap_append → Xl, length_filter_le → Xk, length_cons → Xn, mem_flatMap → Xo
open Nat renaming le_refl → VI, zero_le → V4, le_trans → Wr
open Option renaming map_eq_some_iff → Wf
open Int renaming toNat_natCast → Ws, le_refl → Xa, toNat_of_nonneg → Xq, emod_nonneg → Xr
namespace Go.Pv
@[go_sem] theorem cw404 (vs:List V) (h:af) (K:V->Tn->Prop):CW A az 404 vs h K=CN A az false 404 vs h K:=bY vs h K
set_option maxHeartbeats 4000000 in
theorem Ub (c1 c2 c11:List V) (k:Nat) (L:List Int) (V5:V) (hV:KV V5 L) (hL:L.length<=100) (x:aC) (hx1:x.aN.length<=1048576) (ar:List aL) (sv mv:V) (b:Nat) (hmv:cT ar b 13 mv (x.aN.map Mem.c))
  (hat:∀q∈x.aN,q.type∈L) (Q:Ex->St->Prop)
  (hQ:∀env ar2,(∀i,i<b->ar2[i]?=ar[i]?)->ar.length<=ar2.length->cT ar2 b 13 mv ((x.aN.map (js L)).map Mem.c)->Q (.exit 6) ⟨(1,.ptr 1 0)::(2,.ptr 2 0)::(5,V5)::(11,.ptr 11 0)::(12,.pv (.int .i64 k))::(13,.ptr 13 0)::env,⟨[(1,c1),(2,c2),(11,c11),(13,ik x sv mv)],ar2,[]⟩⟩):
  W A az F420.body.two.two.two.two.two.two.one.two.aY.aY.aY.two.one.aY.two.two.one.two.aY ⟨[(1,.ptr 1 0),(2,.ptr 2 0),(5,V5),(11,.ptr 11 0),(12,.pv (.int .i64 k)),(13,.ptr 13 0),(14,.pv (.int .i64 0))],⟨[(1,c1),(2,c2),(11,c11),(13,ik x sv mv)],ar,[]⟩⟩ Q:=by
 simp only[F420,rB,AC.one,AC.two,AC.aY]
 unfold ik at hQ |-
 rcases hmv with⟨rfl,hm0⟩|⟨mi,rfl,hmi,hm0,hma⟩
 .have hm0:=W2.1 hm0
  rw[hm0]at hQ
  refine W.cD 0 (fun j=>⟨[(1,.ptr 1 0),(2,.ptr 2 0),(5,V5),(11,.ptr 11 0),(12,.pv (.int .i64 k)),(13,.ptr 13 0),(14,.pv (.int .i64 j))],⟨[(1,c1),(2,c2),(11,c11),(13,[.pv (.int .i64 x.kind),.pv (.str x.name),.pv (.int .i64 x.low),.pv (.int .i64 x.high),.pv (.int .i64 x.max),sv,.tl [],.pv (.int .i64 x.key),.pv (.int .i64 x.elem),.pv (.bool x.ku)])],ar,[]⟩⟩) (fun _=>True) rfl trivial fun j hj _=>?_
  simp(disch:=omega)only[go_sem]
  refine Br.aD (fun c=>?_) (fun c=>?_)
  .simp at c
   omega
  simp(disch:=omega)only[go_sem,dc hV]
  exact hQ _ ar (fun _ _=>rfl) (VI _) (.inl ⟨rfl,rfl⟩)
 .have hml2:(x.aN.map Mem.c).length=x.aN.length:=VB _
  have hmil:=(Vy.1 hma).1
  have gM:∀a,(ar.set mi a)[mi]?=some a:=fun a=>VY hmil
  rw[hml2]at hQ |-
  refine W.cD x.aN.length (fun j=>⟨[(1,.ptr 1 0),(2,.ptr 2 0),(5,V5),(11,.ptr 11 0),(12,.pv (.int .i64 k)),(13,.ptr 13 0),(14,.pv (.int .i64 j))],⟨[(1,c1),(2,c2),(11,c11),(13,[.pv (.int .i64 x.kind),.pv (.str x.name),.pv (.int .i64 x.low),.pv (.int .i64 x.high),.pv (.int .i64 x.max),sv,.own mi 0 0 x.aN.length,.pv (.int .i64 x.key),.pv (.int .i64 x.elem),.pv (.bool x.ku)])],ar.set mi ⟨0,13,.inl ((ng L x.aN j).map Mem.c)⟩,[]⟩⟩) (fun _=>True) ?_ trivial fun j hj _=>?_
  .rw[vC,km hma]
   rfl
  have hmj:=tD L x.aN j
  simp(disch:=omega)only[go_sem]
  refine Br.aD (fun c=>?_) (fun c=>?_)
  .obtain⟨q,hq⟩:=get_some (l:=x.aN) (k:=j) (by omega)
   have q1:=hat q (Vz hq)
   rcases hV with rfl|⟨rfl,rfl⟩
   rotate_left
   .cases q1
   have e1:=fun t=>r454 t L q.type q1 (by omega)
   have hmg:=tE (L:=L) hq
   have hst:=fun id=>tF (L:=L) hq id
   simp(disch:=omega)only[go_sem,gM,hmg,Option.map_some,Mem.c,e1,hst,List.set_set]
   exact .of (by omega) rfl trivial
  .obtain rfl:j=x.aN.length:=by omega
   rw[y4]
   simp(disch:=omega)only[go_sem,dc hV]
   refine hQ _ _ (fun i hi=>by rw[List.getElem?_set_ne (by omega)]) (by rw[List.length_set]; exact Nat.le_refl _) (.inr ⟨mi,by simp,hmi,by simpa using hm0,gM _⟩)
set_option maxHeartbeats 2000000 in
theorem Uc (c1 c2 c11:List V) (k:Nat) (L:List Int) (V5:V) (hV:KV V5 L) (hL:L.length<=100) (x:aC) (ar:List aL) (sv mv:V) (hk:x.kind=8->x.key∈L) (env0:List (Nat×V)) (Q:Ex->St->Prop)
  (hQ:∀env,Q .normal ⟨(1,.ptr 1 0)::(2,.ptr 2 0)::(5,V5)::(11,.ptr 11 0)::(12,.pv (.int .i64 k))::(13,.ptr 13 0)::env,⟨[(1,c1),(2,c2),(11,c11),(13,ik { x with key:=if x.kind=8 then di L x.key else x.key } sv mv)],ar,[]⟩⟩):
  W A az F420.body.two.two.two.two.two.two.one.two.aY.aY.aY.two.one.aY.two.two.two.one ⟨(1,.ptr 1 0)::(2,.ptr 2 0)::(5,V5)::(11,.ptr 11 0)::(12,.pv (.int .i64 k))::(13,.ptr 13 0)::env0,⟨[(1,c1),(2,c2),(11,c11),(13,ik x sv mv)],ar,[]⟩⟩ Q:=by
 simp only[F420,rB,AC.one,AC.two,AC.aY]
 unfold ik at hQ |-
 dsimp only at hQ
 simp(disch:=omega)only[go_sem,dc hV]
 refine Br.aD (fun c=>?_) (fun c=>?_)
 .have q1:=hk c
  rcases hV with rfl|⟨rfl,rfl⟩
  rotate_left
  .cases q1
  have e1:=fun t=>r454 t L x.key q1 (by omega)
  rw[if_pos c]at hQ
  simp(disch:=omega)only[go_sem,e1]
  exact hQ _
 .rw[if_neg c]at hQ
  simp(disch:=omega)only[go_sem,dc hV]
  exact hQ _
set_option maxHeartbeats 2000000 in
theorem Ud (c1 c2 c11:List V) (k:Nat) (L:List Int) (V5:V) (hV:KV V5 L) (hL:L.length<=100) (x:aC) (ar:List aL) (sv mv:V) (hk:7<=x.kind->x.elem∈L) (env0:List (Nat×V)) (Q:Ex->St->Prop)
  (hQ:∀env,Q .normal ⟨(1,.ptr 1 0)::(2,.ptr 2 0)::(5,V5)::(11,.ptr 11 0)::(12,.pv (.int .i64 k))::(13,.ptr 13 0)::env,⟨[(1,c1),(2,c2),(11,c11),(13,ik { x with elem:=if 7<=x.kind then di L x.elem else x.elem } sv mv)],ar,[]⟩⟩):
  W A az F420.body.two.two.two.two.two.two.one.two.aY.aY.aY.two.one.aY.two.two.two.two.one ⟨(1,.ptr 1 0)::(2,.ptr 2 0)::(5,V5)::(11,.ptr 11 0)::(12,.pv (.int .i64 k))::(13,.ptr 13 0)::env0,⟨[(1,c1),(2,c2),(11,c11),(13,ik x sv mv)],ar,[]⟩⟩ Q:=by
 simp only[F420,rB,AC.one,AC.two,AC.aY]
 unfold ik at hQ |-
 dsimp only at hQ
 simp(disch:=omega)only[go_sem,dc hV]
 refine Br.aD (fun c=>?_) (fun c=>?_)
 .have q1:=hk c
  rcases hV with rfl|⟨rfl,rfl⟩
  rotate_left
  .cases q1
  have e1:=fun t=>r454 t L x.elem q1 (by omega)
  rw[if_pos c]at hQ
  simp(disch:=omega)only[go_sem,e1]
  exact hQ _
 .rw[if_neg c]at hQ
  simp(disch:=omega)only[go_sem,dc hV]
  exact hQ _
theorem Hf {x:aC} {ar:List aL} {o b:Nat} {mv:V} (ho:o<b\/ar.length<=o) (hm:cT ar b 13 mv (x.aN.map Mem.c)):dE ar o (ik x (.pv (.aa 0 (x.syms.map Sym.c))) mv) x.c:=by
 unfold ik aC.c
 exact .pure rfl rfl (.pure rfl rfl (.pure rfl rfl (.pure rfl rfl (.pure rfl rfl (.pure rfl rfl (.cons (hm.cell ho) (.pure rfl rfl (.pure rfl rfl (.pure rfl rfl (.nil _ _))))))))))
set_option maxHeartbeats 8000000 in
theorem Rn (a3 a4 a5:V) (c2:List V) (nm vn:ByteArray) (t1:Nat) (T:List aC) (L:List Int) (V5:V) (hV:KV V5 L) (hL:L.length<=100) (hts:∀t∈T,t.short) (hT:∀u∈L,0<=u/\u<T.length)
  (hat:∀u∈L,∀w∈bT (bK T u),w∈L) (Q:Ex->St->Prop)
  (hQ:∀env ar V0,cg 0 ar V0 10 (L.map fun u=>(dp L (bK T u)).c)->Q (.exit 4) ⟨(1,.ptr 1 0)::(2,.ptr 2 0)::(5,V5)::(11,.ptr 11 0)::env,⟨[(1,[.pv (.str vn),.pv (.aa t1 (T.map aC.c)),a3,a4,a5]),(2,c2),(11,[.pv (.str nm),V0,.tl [],.tl [],.tl []])],ar,[]⟩⟩):
  W A az F420.body.two.two.two.two.two.two.one.two.aY ⟨[(1,.ptr 1 0),(2,.ptr 2 0),(5,V5),(11,.ptr 11 0),(12,.pv (.int .i64 0))],⟨[(1,[.pv (.str vn),.pv (.aa t1 (T.map aC.c)),a3,a4,a5]),(2,c2),(11,[.pv (.str nm),.tl [],.tl [],.tl [],.tl []])],[],[]⟩⟩ Q:=by
 have s2b:=Ub [.pv (.str vn),.pv (.aa t1 (T.map aC.c)),a3,a4,a5] c2
 have s2k:=Uc [.pv (.str vn),.pv (.aa t1 (T.map aC.c)),a3,a4,a5] c2
 have s2e:=Ud [.pv (.str vn),.pv (.aa t1 (T.map aC.c)),a3,a4,a5] c2
 rw[show F420.body.two.two.two.two.two.two.one.two.aY=AC.loop (.mask [1,2,5,11,12] [1,2,11] (.seq F420.body.two.two.two.two.two.two.one.two.aY.aY.aY.one (.seq (.block 5 (.seq F420.body.two.two.two.two.two.two.one.two.aY.aY.aY.two.one.aY.one (.seq F420.body.two.two.two.two.two.two.one.two.aY.aY.aY.two.one.aY.two.one (.seq (.seq F420.body.two.two.two.two.two.two.one.two.aY.aY.aY.two.one.aY.two.two.one.one (.block 6 F420.body.two.two.two.two.two.two.one.two.aY.aY.aY.two.one.aY.two.two.one.two.aY)) (.seq F420.body.two.two.two.two.two.two.one.two.aY.aY.aY.two.one.aY.two.two.two.one (.seq F420.body.two.two.two.two.two.two.one.two.aY.aY.aY.two.one.aY.two.two.two.two.one F420.body.two.two.two.two.two.two.one.two.aY.aY.aY.two.one.aY.two.two.two.two.two)))))) F420.body.two.two.two.two.two.two.one.two.aY.aY.aY.two.two))) from rfl]
 generalize F420.body.two.two.two.two.two.two.one.two.aY.aY.aY.two.one.aY.two.two.one.two.aY=E at s2b |-
 generalize F420.body.two.two.two.two.two.two.one.two.aY.aY.aY.two.one.aY.two.two.two.one=F at s2k |-
 generalize F420.body.two.two.two.two.two.two.one.two.aY.aY.aY.two.one.aY.two.two.two.two.one=G at s2e |-
 simp only[F420,rB,AC.one,AC.two,AC.aY]
 refine W.loop (α:=Nat×List aL×V) (fun x=>⟨[(1,.ptr 1 0),(2,.ptr 2 0),(5,V5),(11,.ptr 11 0),(12,.pv (.int .i64 x.1))],⟨[(1,[.pv (.str vn),.pv (.aa t1 (T.map aC.c)),a3,a4,a5]),(2,c2),(11,[.pv (.str nm),x.2.2,.tl [],.tl [],.tl []])],x.2.1,[]⟩⟩) (fun x=>x.1<=L.length/\cg 0 x.2.1 x.2.2 10 ((L.take x.1).map fun u=>(dp L (bK T u)).c)) (fun x=>L.length - x.1) (0,[],.tl []) rfl ⟨V4 _,.inl ⟨rfl,rfl⟩⟩ fun x hx=>?_
 obtain⟨k,ar,V0⟩:=x
 obtain⟨hk,hlist⟩:=hx
 dsimp only at hk hlist
 simp(disch:=omega)only[go_sem,L9 hV,dc hV]
 refine Br.aD (fun c=>?_) (fun c=>?_)
 rotate_left
 .obtain rfl:k=L.length:=by omega
  rw[VW]at hlist
  simp(disch:=omega)only[go_sem,dc hV]
  exact hQ _ ar V0 hlist
 obtain⟨u,hu⟩:=get_some (l:=L) (k:=k) (by omega)
 have hum:=Vz hu
 obtain⟨h0,h1⟩:=hT u hum
 have hxT:=eL h0 h1
 have hidx:=w4 (v:=t1) h0 h1
 have hax:=hat u hum
 have hnx:(L.take (k+1)).map (fun u=>(dp L (bK T u)).c)=(L.take k).map (fun u=>(dp L (bK T u)).c)++[(dp L (bK T u)).c]:=by
  rw[VT,hu]
  simp
 have hsh:=hts _ (Vz hxT)
 have hcl:((L.take k).map fun u=>(dp L (bK T u)).c).length<=100:=by rw[VB,VH]; omega
 generalize bK T u=x at hxT hax hnx hsh hidx
 simp only[aC.c]at hidx
 generalize (L.take k).map (fun u=>(dp L (bK T u)).c)=css at *
 have hml:=hsh.aN
 have hml2:(x.aN.map Mem.c).length=x.aN.length:=VB _
 obtain⟨mv,T0,X,happ0,hT0,hmv⟩:=zH ar 13 (x.aN.map Mem.c) (fun r hr=>by obtain⟨q,_,rfl⟩:=VP.1 hr; rfl) (by omega)
 have hmf:=hmv.flat
 have hlen:=hmv.len
 rcases hV with rfl|⟨rfl,rfl⟩
 rotate_left
 .cases hum
 have hV:KV (.pv (.aa 0 (ints L))) L:=.inl rfl
 simp(disch:=omega)only[go_sem,hu,hidx,Option.map_some,happ0,hT0,hmf.1,hmf.2.2]
 refine s2b [.pv (.str nm),V0,.tl [],.tl [],.tl []] k L _ hV hL x hml (ar++X) (.pv (.aa 0 (x.syms.map Sym.c))) mv ar.length hmv (fun q hq=>hax _ (by unfold bT; simp only[List.mem_append]; exact .inl (.inl (List.mem_map.2 ⟨q,hq,rfl⟩)))) _ fun env ar2 g1 g2 hmv2=>?_
 simp(disch:=omega)only[go_sem]
 refine s2k [.pv (.str nm),V0,.tl [],.tl [],.tl []] k L _ hV hL x ar2 (.pv (.aa 0 (x.syms.map Sym.c))) mv (fun e=>hax _ (by unfold bT qX; simp only[List.mem_append]; exact .inl (.inr (by rw[if_pos e]; exact List.mem_singleton.2 rfl)))) env _ fun env=>?_
 simp(disch:=omega)only[go_sem]
 refine s2e [.pv (.str nm),V0,.tl [],.tl [],.tl []] k L _ hV hL { x with key:=if x.kind=8 then di L x.key else x.key } ar2 (.pv (.aa 0 (x.syms.map Sym.c))) mv (fun e=>hax _ (by unfold bT kU; simp only[List.mem_append]; exact .inr (by rw[if_pos e]; exact List.mem_singleton.2 rfl))) env _ fun env=>?_
 have hA:cg 0 (ar2.take ar.length) V0 10 css:=hlist.move fun i hi=>by rw[VN,if_pos hi,g1 i hi,VC hi]
 have hAl:(ar2.take ar.length).length=ar.length:=by rw[VH]; have:=g2; rw[VE]at this; omega
 have hsplit:ar2.take ar.length++ar2.drop ar.length=ar2:=Wo _ _
 obtain⟨V3,Tn,ar',happ,hTn,hc1,hc2,q1,q2,q3⟩:=xm (X0:=ar2.drop ar.length) (row:=ik (dp L x) (.pv (.aa 0 (x.syms.map Sym.c))) mv) (n:=ar2.length) (cs:=(dp L x).c) hA (V4 _) (by omega) rfl (by rw[hsplit]) fun o ho=>by
  rw[hsplit]
  exact Hf (x:=dp L x) (ar:=ar2++[⟨0,10,.inr [_]⟩]) (o:=o) (b:=ar.length) (mv:=mv) (by rw[VE,WV]; omega) (hmv2.push _)
 rw[hsplit]at happ hTn
 unfold ik dp at happ hTn
 unfold ik
 dsimp only at happ hTn |-
 rcases hmv2 with⟨rfl,hm0⟩|⟨mi,rfl,w1,w2,w3⟩
 .simp(disch:=omega)only[go_sem,happ,hTn,hc1,hc2]
  exact⟨(k+1,ar',V3),⟨by dsimp only; omega,by rw[hnx]; exact q3⟩,by dsimp only; omega,rfl⟩
 .simp only[List.length_map]at happ hTn
  simp(disch:=omega)only[go_sem,List.length_map,happ,hTn,hc1,hc2]
  exact⟨(k+1,ar',V3),⟨by dsimp only; omega,by rw[hnx]; exact q3⟩,by dsimp only; omega,rfl⟩
set_option maxHeartbeats 4000000 in
theorem r420 (t1 t2 t3 t4:Nat) (v:kr) (hv:jw v):res A az 420 [.agg (fT t1 t2 t3 t4 v)]=some (if ui v=0 then [.agg (fT 0 0 0 0 (jK v)),.int .i64 0] else [.agg [.str ⟨#[]⟩,.aa 0 [],.aa 0 [],.aa 0 [],.aa 0 []],.int .i64 (ui v)]):=by
 have h406:=r406 t1 t2 t3 t4 v hv
 refine ai a420 rfl rfl ?_
 simp only[F420,rB,fT]at h406 |-
 simp(disch:=omega)only[go_sem,h406]
 refine Br.aD (fun c=>?_) (fun c=>?_)
 rotate_left
 .rw[if_neg c]
  simp(disch:=omega)only[go_sem]
 rw[if_pos c]
 have hG:=v8 c
 have h8:=hG.HQ
 have hvv:=hG.valid
 have h32:=(bS hvv).len
 have hroot:=hG.root
 have hrl:(du v).length<=1000:=hG.roots
 have h418:=r418 t1 t2 t3 t4 v (by omega) (by omega) (by omega) (by omega) (fun w hw=>(hv.ss w hw).2.1)
 simp only[fT]at h418
 simp(disch:=omega)only[go_sem,h418]
 refine Vc t1 t2 t3 t4 v hv hvv _ (by have:=vJ (du v); omega) _ fun env V5 hV=>?_
 rw[ET]at hV
 have hq5:=dc hV
 have hus:∀u,Used v u->u∈aQ v:=fun u h=>gz.2 h
 have hur:=vP hvv hroot
 have hLl:(aQ v).length<=100:=by
  unfold aQ gU
  rw[VB]
  have:=mS (ju v) v.types.length
  omega
 have hsv:jK v=⟨v.name,(aQ v).map fun u=>dp (aQ v) (bK v.types u),v.calls.map (bc (aQ v)),v.ax.map (bG (aQ v)),v.aK.map (bp (aQ v))⟩:=rfl
 simp(disch:=omega)only[go_sem,hq5]
 refine Rn _ _ _ _ v.name v.name t1 v.types (aQ v) V5 hV hLl hv.ts (fun u hu=>?_) (fun u hu w hw=>hus w (vQ (gz.1 hu) hw)) _ fun env ar V0 hV0=>?_
 .obtain⟨g0,g1,_⟩:=gz.1 hu
  exact⟨g0,g1⟩
 have hq0:=hV0.quiet
 simp(disch:=omega)only[go_sem,hq0.1,hq0.2,hq5]
 refine Vd _ _ _ _ _ v.name t2 v.calls (aQ v) V0 V5 ar hV hLl (by omega) (fun c hc=>?_) _ fun env=>?_
 .have h1:c.nH∈du v:=List.mem_append_left _ (List.mem_append_left _ (List.mem_flatMap.2 ⟨c,hc,by simp⟩))
  have h2:c.rep∈du v:=List.mem_append_left _ (List.mem_append_left _ (List.mem_flatMap.2 ⟨c,hc,by simp⟩))
  exact⟨hus _ (hur _ h1),hus _ (hur _ h2)⟩
 simp(disch:=omega)only[go_sem,hq0.1,hq0.2,hq5]
 refine Vf _ _ _ _ _ v.name t3 v.ax (aQ v) V0 (cY ar.length (aW (v.calls.map (bc (aQ v))))) V5 (ar++cm 3 (aW (v.calls.map (bc (aQ v))))) hV hLl (by omega) (fun w hw=>⟨(hG.rX w hw).HQ,(hv.ss w hw).2.2.2⟩) (fun w hw q hq=>?_) _ fun env ar3 V2 ht hV2=>?_
 .have h1:q.ty∈du v:=Wh _ (Wn _ (Xo.2 ⟨w,hw,VP.2 ⟨q,hq,rfl⟩⟩))
  exact hus _ (hur _ h1)
 have hq2:=hV2.quiet
 simp(disch:=omega)only[go_sem,hq0.1,hq0.2,hq2.1,hq2.2,hq5]
 refine Ve _ _ _ _ _ v.name t4 v.aK (aQ v) V0 (cY ar.length (aW (v.calls.map (bc (aQ v))))) V2 V5 ar3 hV hLl (by omega) (fun c hc=>hus _ (hur _ (Wn _ (VP.2 ⟨c,hc,rfl⟩)))) _ fun env=>?_
 have k0:∀bx,aV ⟨bx,ar3++cm 2 (bo (v.aK.map (bp (aQ v)))),[]⟩ 4 V0=some (.aa 0 ((aQ v).map fun u=>(dp (aQ v) (bK v.types u)).c)):=fun bx=>by
  have h1:cg 0 ar3 V0 10 ((aQ v).map fun u=>(dp (aQ v) (bK v.types u)).c):=hV0.move fun i hi=>by
   have:=uq (i:=i) (n:=(ar++cm 3 (aW (v.calls.map (bc (aQ v))))).length) (a:=ar3) (b:=ar++cm 3 (aW (v.calls.map (bc (aQ v))))) (by rw[ht,VW]) (by rw[VE]; omega)
   rw[this,VC hi]
  exact(h1.push _).bO bx []
 have k1:∀bx,aV ⟨bx,ar3++cm 2 (bo (v.aK.map (bp (aQ v)))),[]⟩ 4 (cY ar.length (aW (v.calls.map (bc (aQ v)))))=some (.aa 0 (aW (v.calls.map (bc (aQ v))))):=fun bx=>by
  have h1:ar3=(ar++cm 3 (aW (v.calls.map (bc (aQ v)))))++ar3.drop (ar++cm 3 (aW (v.calls.map (bc (aQ v))))).length:=by
   have:=Wo (ar++cm 3 (aW (v.calls.map (bc (aQ v))))).length ar3
   rw[ht]at this
   exact this.symm
  rw[h1,VO,VO]
  exact lg bx [] ar _ 3 3 _
 have k2:∀bx,aV ⟨bx,ar3++cm 2 (bo (v.aK.map (bp (aQ v)))),[]⟩ 4 V2=some (.aa 0 ((v.ax.map (bG (aQ v))).map dx.c)):=fun bx=>(hV2.push _).bO bx []
 have k3:∀bx,aV ⟨bx,ar3++cm 2 (bo (v.aK.map (bp (aQ v)))),[]⟩ 4 (cY ar3.length (bo (v.aK.map (bp (aQ v)))))=some (.aa 0 (bo (v.aK.map (bp (aQ v))))):=fun bx=>l9 bx [] ar3 2 3 _
 simp(disch:=omega)only[go_sem,hq0.1,hq0.2,hq2.1,hq2.2,k0,k1,k2,k3]
 rw[hsv]
 dsimp only
 unfold ax
 rw[W6 (l:=aQ v)]
 rfl
def ko (c:UInt8) (k:Nat):ByteArray:=⟨#[c]⟩++Utf8.encode (97+(k:Int))
theorem wg {k:Nat} (h:k<3):(Utf8.encode (97+(k:Int))).size=1:=by
 have:∀k:Fin 3,(Utf8.encode (97+((k.val:Nat):Int))).size=1:=by decide
 exact this ⟨k,h⟩
theorem mY {c:UInt8} {k:Nat} (h:k<3):cN .add (.pv (.str ⟨#[c]⟩)) (.pv (.str (Utf8.encode (97+(k:Int)))))=some (.pv (.str (ko c k))):=by
 have h1:(⟨#[c]⟩:ByteArray).size=1:=rfl
 have h2:(1:Nat)+1<=1099511627776:=by omega
 simp only[cN,lE,h1,wg h,h2,if_true,Option.map_some]
 rfl
structure xt where
 a:eO
 x:Int
 y:Int
 z:Int
def xt.c (s:xt):List PV:=[.int .u8 s.a.n,.aa 0 (s.a.im.map xh.c),.int .u8 s.x,.int .u8 s.y,.int .u8 s.z]
def xt.ok (s:xt):Prop:=s.a.ok/\(0<=s.x/\s.x<=255)/\(0<=s.y/\s.y<=255)/\0<=s.z/\s.z<=255
def fW (T:List aC) (k:Nat):List Int:=((List.range k).filter fun(i:Nat)=>!decide ((bK T i).name=⟨#[]⟩)).map fun(i:Nat)=>(i:Int)
def gZ (N:List Int) (x:Int):Int:=N.getD (x%N.length).toNat 0
def hJ (N:List Int) (s:xt):List eD:=[⟨1,ko 77 0,gZ N s.x⟩,⟨2,ko 77 1,gZ N s.y⟩,⟨3,ko 77 2,gZ N s.z⟩]
def xu (T:List aC) (nm:ByteArray) (s:xt):Option dx:=if (s.a.im.length:Int)<=12/\fW T T.length≠[] then some ⟨nm,hJ (fW T T.length) s,s.a.auto.trim⟩ else none
theorem zI (T:List aC) (k:Nat):fW T (k+1)=if (bK T (k:Int)).name=⟨#[]⟩ then fW T k else fW T k++[(k:Int)]:=by
 unfold fW
 rw[WR,List.filter_append]
 by_cases h:(bK T (k:Int)).name=⟨#[]⟩
 .rw[if_pos h]
  simp[h]
 .rw[if_neg h]
  simp[h]
theorem ur (T:List aC) (k:Nat):(fW T k).length<=k:=by
 unfold fW
 rw[VB]
 have:=Xk (fun(i:Nat)=>!decide ((bK T i).name=⟨#[]⟩)) (List.range k)
 rw[V7]at this
 exact this
theorem Ds {N:List Int} (h:N≠[]) (x:Int):(0<=x%N.length/\x%N.length<N.length)/\N[(x%N.length).toNat]?=some (gZ N x):=by
 have hl:0<N.length:=List.length_pos_iff.2 h
 have h0:0<=x%(N.length:Int):=Xr _ (by omega)
 have h1:x%(N.length:Int)<N.length:=Int.emod_lt_of_pos _ (by omega)
 refine⟨⟨h0,h1⟩,?_⟩
 unfold gZ
 rw[VK]
 obtain⟨y,hy⟩:=get_some (l:=N) (k:=(x%(N.length:Int)).toNat) (by omega)
 rw[hy]
 rfl
set_option maxHeartbeats 4000000 in
theorem r453 (t u:Nat) (T:List aC) (nm:ByteArray) (s:xt) (hs:s.ok) (hT:T.length<=100):res A az 453 [.agg [.aa t (T.map aC.c)],.str nm,.agg [.int .u8 s.a.n,.aa u (s.a.im.map xh.c),.int .u8 s.x,.int .u8 s.y,.int .u8 s.z]]=some (match xu T nm s with|some w=>[.agg w.c,.bool true]|none=>[.agg [.str ⟨#[]⟩,.aa 0 [],.int .i64 0,.int .i64 0,.aa 0 []],.bool false]):=by
 obtain⟨hd,⟨x0,x1⟩,⟨y0,y1⟩,z0,z1⟩:=hs
 have h25:=fun t=>r25 t s.a hd
 refine ai a453 rfl rfl ?_
 simp only[F453,KI]
 simp(disch:=omega)only[go_sem]
 refine W.cD T.length (fun k=>⟨[(1,.pv (.str nm)),(3,.ptr 3 0),(5,.ptr 5 0),(6,.ptr 6 0),(8,cY 0 (ints (fW T k))),(9,.pv (.int .i64 k))],⟨[(3,[.pv (.aa t (T.map aC.c))]),(5,[.pv (.int .u8 s.a.n),.pv (.aa u (s.a.im.map xh.c)),.pv (.int .u8 s.x),.pv (.int .u8 s.y),.pv (.int .u8 s.z)]),(6,[.pv (.str ⟨#[]⟩),.tl [],.pv (.int .i64 0),.pv (.int .i64 0),.tl []])],cm 1 (ints (fW T k)),[]⟩⟩) (fun _=>True) rfl trivial fun k hk _=>?_
 simp(disch:=omega)only[go_sem]
 refine Br.aD (fun c=>?_) (fun c=>?_)
 .have hx:=eL (l:=T) (i:=k) (by omega) (by omega)
  rw[Ws]at hx
  have hsn:=zI T k
  have hnl:=ur T k
  have hg:=fun bx mp=>grow bx mp [] 1 (ints (fW T k)) [.int .i64 k] rfl (by rw[aH]; omega)
  simp only[List.nil_append,List.length_nil]at hg
  generalize bK T (k:Int)=y at *
  cases hy:decide (y.name=⟨#[]⟩)with
  |true=>
   rw[if_pos (of_decide_eq_true hy)]at hsn
   simp(disch:=omega)only[go_sem,hx,Option.map_some,aC.c,hy]
   refine .of (by omega) ?_ trivial
   rw[hsn]
   rfl
  |false=>
   rw[if_neg (of_decide_eq_false hy)]at hsn
   simp(disch:=omega)only[go_sem,hx,Option.map_some,aC.c,hy,hg]
   refine .of (by omega) ?_ trivial
   rw[hsn]
   simp only[ints,List.map_append,List.map_cons,List.map_nil]
   rfl
 obtain rfl:k=T.length:=by omega
 have hnl:=ur T T.length
 unfold xu
 generalize fW T T.length=N at *
 have hst:=s.a.st
 have hgood:=eO.F4 hd (s:=0) ⟨Xa _,by omega⟩
 have hlen:=s.a.len hd
 have hlt:=hgood.trim.len
 have h33:=fun t=>r33e t (1+s.a.n%4) 0 s.a.auto.aw (by omega)
 have hs2:mn Edge.lt (kept (⟨1+s.a.n%4,0,s.a.auto.aw⟩:bj).order s.a.auto.aw)=s.a.auto.trim.aw:=y8 Edge.LP Edge.zm (tS hgood.qZ)
 rw[if_pos (bj.pG.2 hgood),hs2]at h33
 have hstr:s.a.auto.trim.ay=(⟨1+s.a.n%4,0,s.a.auto.aw⟩:bj).order.length:=rfl
 have hstt:s.a.auto.trim.start=0:=rfl
 rw[<- hstr]at h33
 cases hb:decide ((s.a.im.length:Int)<=12)with
 |false=>
  rw[hb]at h25
  rw[if_neg (fun h=>of_decide_eq_false hb h.1)]
  simp(disch:=omega)only[go_sem,h25]
 |true=>
  rw[hb]at h25
  cases N with
  |nil=>
   rw[if_neg (fun h=>h.2 rfl)]
   have hz:decide (((0:Nat):Int)=0)=true:=rfl
   simp(disch:=omega)only[go_sem,h25,hz]
  |cons q0 N=>
   rw[if_pos ⟨of_decide_eq_true hb,by simp⟩]
   have hz:decide (((N.length+1:Nat):Int)=0)=false:=decide_eq_false (by omega)
   have e0:(IntKind.wrap .i32 (97+((0:Nat):Int)))=97+((0:Nat):Int):=rfl
   have e1:(IntKind.wrap .i32 (97+((1:Nat):Int)))=97+((1:Nat):Int):=rfl
   have e2:(IntKind.wrap .i32 (97+((2:Nat):Int)))=97+((2:Nat):Int):=rfl
   simp(disch:=omega)only[go_sem,h25,hz,h33]
   have hiN:=aH N
   refine W.cD 3 (fun k=>⟨[(5,.ptr 5 0),(6,.ptr 6 0),(8,.own 0 N.length 0 (N.length+1)),(12,.ptr 12 0),(13,.pv (.int .i64 k))],⟨[(5,[.pv (.int .u8 s.a.n),.pv (.aa u (s.a.im.map xh.c)),.pv (.int .u8 s.x),.pv (.int .u8 s.y),.pv (.int .u8 s.z)]),(6,[.pv (.str ⟨#[]⟩),.tl [],.pv (.int .i64 0),.pv (.int .i64 0),.tl []]),(12,[.pv (.str nm),cY 1 (msgs ((hJ (q0::N) s).take k)),.pv (.int .i64 s.a.auto.trim.ay),.pv (.int .i64 0),.pv (.aa 0 (cB s.a.auto.trim.aw))])],⟨N.length,1,.inl (ints (q0::N))⟩::cm 3 (msgs ((hJ (q0::N) s).take k)),[]⟩⟩) (fun _=>True) (by rw[<- hiN]; rfl) trivial fun k hk _=>?_
   simp(disch:=omega)only[go_sem]
   have p:=fun x=>Ds (N:=q0::N) (by simp) x
   rw[Xn]at p
   have hnl2:N.length<=100:=by rw[Xn]at hnl; omega
   have hA:∀X:List aL,(⟨N.length,1,.inl (ints (q0::N))⟩::X)[0]?=some ⟨N.length,1,.inl (ints (q0::N))⟩:=fun X=>rfl
   refine Br.aD (fun c=>?_) (fun c=>?_)
   .rcases(show k=0\/k=1\/k=2 by omega)with rfl|rfl|rfl
    .obtain⟨⟨p0,p1⟩,p2⟩:=p s.x
     have hR:msgs ((hJ (q0::N) s).take (0+1))=msgs ((hJ (q0::N) s).take 0)++[[.int .i64 1,.str (ko 77 0),.int .i64 (gZ (q0::N) s.x)]]:=rfl
     have hRl:(msgs ((hJ (q0::N) s).take 0)).length=0:=rfl
     generalize msgs ((hJ (q0::N) s).take 0)=rows at *
     have hg:∀bx mp,aJ ⟨bx,⟨N.length,1,.inl (ints (q0::N))⟩::cm 3 rows,mp⟩ 3 (cY 1 rows) (.tl [[.int .i64 (((0:Nat):Int)+1),.str (ko 77 0),.int .i64 (gZ (q0::N) s.x)]])=some (cY 1 (rows++[[.int .i64 (((0:Nat):Int)+1),.str (ko 77 0),.int .i64 (gZ (q0::N) s.x)]]),wP 1 3 rows [.int .i64 (((0:Nat):Int)+1),.str (ko 77 0),.int .i64 (gZ (q0::N) s.x)]):=fun bx mp=>grow bx mp [⟨N.length,1,.inl (ints (q0::N))⟩] 3 rows _ rfl (by omega)
     simp(disch:=omega)only[go_sem,e0,mY,hA,p2,hg]
     refine .of (by omega) ?_ trivial
     rw[hR]
     rfl
    .obtain⟨⟨p0,p1⟩,p2⟩:=p s.y
     have hR:msgs ((hJ (q0::N) s).take (1+1))=msgs ((hJ (q0::N) s).take 1)++[[.int .i64 2,.str (ko 77 1),.int .i64 (gZ (q0::N) s.y)]]:=rfl
     have hRl:(msgs ((hJ (q0::N) s).take 1)).length=1:=rfl
     generalize msgs ((hJ (q0::N) s).take 1)=rows at *
     have hg:∀bx mp,aJ ⟨bx,⟨N.length,1,.inl (ints (q0::N))⟩::cm 3 rows,mp⟩ 3 (cY 1 rows) (.tl [[.int .i64 (((1:Nat):Int)+1),.str (ko 77 1),.int .i64 (gZ (q0::N) s.y)]])=some (cY 1 (rows++[[.int .i64 (((1:Nat):Int)+1),.str (ko 77 1),.int .i64 (gZ (q0::N) s.y)]]),wP 1 3 rows [.int .i64 (((1:Nat):Int)+1),.str (ko 77 1),.int .i64 (gZ (q0::N) s.y)]):=fun bx mp=>grow bx mp [⟨N.length,1,.inl (ints (q0::N))⟩] 3 rows _ rfl (by omega)
     simp(disch:=omega)only[go_sem,e1,mY,hA,p2,hg]
     refine .of (by omega) ?_ trivial
     rw[hR]
     rfl
    .obtain⟨⟨p0,p1⟩,p2⟩:=p s.z
     have hR:msgs ((hJ (q0::N) s).take (2+1))=msgs ((hJ (q0::N) s).take 2)++[[.int .i64 3,.str (ko 77 2),.int .i64 (gZ (q0::N) s.z)]]:=rfl
     have hRl:(msgs ((hJ (q0::N) s).take 2)).length=2:=rfl
     generalize msgs ((hJ (q0::N) s).take 2)=rows at *
     have hg:∀bx mp,aJ ⟨bx,⟨N.length,1,.inl (ints (q0::N))⟩::cm 3 rows,mp⟩ 3 (cY 1 rows) (.tl [[.int .i64 (((2:Nat):Int)+1),.str (ko 77 2),.int .i64 (gZ (q0::N) s.z)]])=some (cY 1 (rows++[[.int .i64 (((2:Nat):Int)+1),.str (ko 77 2),.int .i64 (gZ (q0::N) s.z)]]),wP 1 3 rows [.int .i64 (((2:Nat):Int)+1),.str (ko 77 2),.int .i64 (gZ (q0::N) s.z)]):=fun bx mp=>grow bx mp [⟨N.length,1,.inl (ints (q0::N))⟩] 3 rows _ rfl (by omega)
     simp(disch:=omega)only[go_sem,e2,mY,hA,p2,hg]
     refine .of (by omega) ?_ trivial
     rw[hR]
     rfl
   .obtain rfl:k=3:=by omega
    simp(disch:=omega)only[go_sem]
    rfl
theorem FA {k:Nat} (h:k<3):IntKind.wrap .i32 (97+(k:Int))=97+(k:Int):=by
 rcases(show k=0\/k=1\/k=2 by omega)with rfl|rfl|rfl<;>rfl
structure DH where
 s:List Node
 calls:List (Int×Int)
 ax:List xt
 aK:List Int
def Oi (c:Int×Int):List PV:=[.int .u8 c.1,.int .u8 c.2]
def Oj (c:Int):List PV:=[.int .u8 c]
def DH.c (d:DH):List PV:=[.aa 0 (d.s.map Node.cs),.aa 0 (d.calls.map Oi),.aa 0 (d.ax.map xt.c),.aa 0 (d.aK.map Oj)]
def Ma (x:Int):Prop:=0<=x/\x<=255
structure DH.ok (d:DH):Prop where
 s:∀y∈d.s,y.ok
 sl:bV d.s
 c:∀x∈d.calls,Ma x.1/\Ma x.2
 cl:bV d.calls
 w:∀x∈d.ax,x.ok
 wl:bV d.ax
 t:∀x∈d.aK,Ma x
 tl:bV d.aK
def fv (n:Int) (l:List (Int×Int)) (k:Nat):List lC:=(List.range k).filterMap fun i=>l[i]?.map fun x=>⟨ko 67 i,x.1%n,x.2%n⟩
def jN (n:Int) (l:List Int) (k:Nat):List nc:=(List.range k).filterMap fun i=>l[i]?.map fun x=>⟨ko 84 i,x%n⟩
def iu (T:List aC) (l:List xt) (k:Nat):List dx:=(List.range k).filterMap fun i=>l[i]?.bind fun s=>xu T (ko 83 i) s
theorem zJ {n:Int} {l:List (Int×Int)} {k:Nat} {x:Int×Int} (h:l[k]?=some x):fv n l (k+1)=fv n l k++[⟨ko 67 k,x.1%n,x.2%n⟩]:=by
 unfold fv
 rw[WR,Xl]
 simp[h]
theorem Bi {n:Int} {l:List Int} {k:Nat} {x:Int} (h:l[k]?=some x):jN n l (k+1)=jN n l k++[⟨ko 84 k,x%n⟩]:=by
 unfold jN
 rw[WR,Xl]
 simp[h]
theorem Bj {T:List aC} {l:List xt} {k:Nat} {x:xt} (h:l[k]?=some x):iu T l (k+1)=iu T l k++(xu T (ko 83 k) x).toList:=by
 unfold iu
 rw[WR,Xl]
 cases hs:xu T (ko 83 k) x<;>simp[h,hs]
theorem jy {α:Type} (f:Nat->Option α) (k:Nat):((List.range k).filterMap f).length<=k:=by
 have:=List.length_filterMap_le f (List.range k)
 rw[V7]at this
 exact this
def Ro (nm:ByteArray) (d:DH):Option kr:=if (ux d.s).2=true/\d.calls.length<=3/\d.ax.length<=2/\d.aK.length<=3 then some ⟨nm,(ux d.s).1,fv (ux d.s).1.length d.calls d.calls.length,iu (ux d.s).1 d.ax d.ax.length,jN (ux d.s).1.length d.aK d.aK.length⟩ else none
set_option maxHeartbeats 8000000 in
theorem r419 (nm:ByteArray) (d:DH) (hd:d.ok):res A az 419 [.agg d.c,.str nm]=some (match Ro nm d with|some v=>[.agg (fT 0 0 0 0 v),.bool true]|none=>[.agg [.str ⟨#[]⟩,.aa 0 [],.aa 0 [],.aa 0 [],.aa 0 []],.bool false]):=by
 have h279:=fun t=>r279 t d.s hd.s hd.sl
 refine ai a419 rfl rfl ?_
 simp only[F419,Kv]
 unfold DH.c Ro
 have hTn:(ux d.s).2=true->1<=(ux d.s).1.length/\(ux d.s).1.length<=5:=by
  unfold ux
  split
  .simp
  .intro _
   simp only[List.length_map,List.length_range]
   omega
 generalize (ux d.s).1=T at *
 generalize (ux d.s).2=b at *
 cases b with
 |false=>
  rw[if_neg (by simp)]
  simp(disch:=omega)only[go_sem,h279]
 |true=>
 obtain⟨hT1,hT5⟩:=hTn rfl
 cases h1:decide ((3:Int)<d.calls.length)with
 |true=>
  have:=of_decide_eq_true h1
  rw[if_neg (by omega)]
  simp(disch:=omega)only[go_sem,h279,h1]
 |false=>
 cases h2:decide ((2:Int)<d.ax.length)with
 |true=>
  have:=of_decide_eq_true h2
  rw[if_neg (by omega)]
  simp(disch:=omega)only[go_sem,h279,h1,h2]
 |false=>
 cases h3:decide ((3:Int)<d.aK.length)with
 |true=>
  have:=of_decide_eq_true h3
  rw[if_neg (by omega)]
  simp(disch:=omega)only[go_sem,h279,h1,h2,h3]
 |false=>
 have g1:=of_decide_eq_false h1
 have g2:=of_decide_eq_false h2
 have g3:=of_decide_eq_false h3
 rw[if_pos (by refine⟨rfl,?_,?_,?_⟩<;>omega)]
 simp(disch:=omega)only[go_sem,h279,h1,h2,h3]
 refine W.cD d.calls.length (fun k=>⟨[(2,.ptr 2 0),(4,.ptr 4 0),(6,.ptr 6 0),(8,.ptr 8 0),(9,.pv (.int .i64 T.length)),(10,.pv (.int .i64 k))],⟨[(2,[.pv (.aa 0 (d.s.map Node.cs)),.pv (.aa 0 (d.calls.map Oi)),.pv (.aa 0 (d.ax.map xt.c)),.pv (.aa 0 (d.aK.map Oj))]),(4,[.pv (.str ⟨#[]⟩),.tl [],.tl [],.tl [],.tl []]),(6,[.pv (.aa 0 (T.map aC.c))]),(8,[.pv (.str nm),.pv (.aa 0 (T.map aC.c)),cY 0 (aW (fv T.length d.calls k)),.tl [],.tl []])],cm 3 (aW (fv T.length d.calls k)),[]⟩⟩) (fun _=>True) rfl trivial fun k hk _=>?_
 simp(disch:=omega)only[go_sem]
 refine Br.aD (fun c=>?_) (fun c=>?_)
 .obtain⟨x,hx⟩:=get_some (l:=d.calls) (k:=k) (by omega)
  obtain⟨⟨x1,x2⟩,x3,x4⟩:=hd.c x (Vz hx)
  have hR:aW (fv T.length d.calls (k+1))=aW (fv T.length d.calls k)++[[.str (ko 67 k),.int .i64 (x.1%T.length),.int .i64 (x.2%T.length)]]:=by
   rw[zJ hx]
   simp[aW,lC.c]
  have hRl:(aW (fv T.length d.calls k)).length<=3:=by
   rw[pe]
   have:=jy (fun i=>d.calls[i]?.map fun x=>(⟨ko 67 i,x.1%T.length,x.2%T.length⟩:lC)) k
   unfold fv
   omega
  generalize aW (fv T.length d.calls k)=rows at *
  have hg:∀bx mp,aJ ⟨bx,cm 3 rows,mp⟩ 3 (cY 0 rows) (.tl [[.str (ko 67 k),.int .i64 (x.1%T.length),.int .i64 (x.2%T.length)]])=some (cY 0 (rows++[[.str (ko 67 k),.int .i64 (x.1%T.length),.int .i64 (x.2%T.length)]]),wP 0 3 rows [.str (ko 67 k),.int .i64 (x.1%T.length),.int .i64 (x.2%T.length)]):=fun bx mp=>grow bx mp [] 3 rows _ rfl (by omega)
  have hw:=FA (k:=k) (by omega)
  have hna:=mY (c:=67) (k:=k) (by omega)
  simp(disch:=omega)only[go_sem,hx,Option.map_some,Oi,hw,hna,hg]
  refine .of (by omega) ?_ trivial
  rw[hR]
  rfl
 obtain rfl:k=d.calls.length:=by omega
 generalize hCe:fv T.length d.calls d.calls.length=C at *
 have hCl:(aW C).length<=3:=by
  rw[pe,<- hCe]
  have:=jy (fun i=>d.calls[i]?.map fun x=>(⟨ko 67 i,x.1%T.length,x.2%T.length⟩:lC)) d.calls.length
  unfold fv
  omega
 clear hk c hCe
 simp(disch:=omega)only[go_sem]
 refine W.cD d.ax.length (fun k=>⟨[(2,.ptr 2 0),(4,.ptr 4 0),(6,.ptr 6 0),(8,.ptr 8 0),(9,.pv (.int .i64 T.length)),(11,.pv (.int .i64 k))],⟨[(2,[.pv (.aa 0 (d.s.map Node.cs)),.pv (.aa 0 (d.calls.map Oi)),.pv (.aa 0 (d.ax.map xt.c)),.pv (.aa 0 (d.aK.map Oj))]),(4,[.pv (.str ⟨#[]⟩),.tl [],.tl [],.tl [],.tl []]),(6,[.pv (.aa 0 (T.map aC.c))]),(8,[.pv (.str nm),.pv (.aa 0 (T.map aC.c)),cY 0 (aW C),cY (cm 3 (aW C)).length (ax (iu T d.ax k)),.tl []])],cm 3 (aW C)++cm 5 (ax (iu T d.ax k)),[]⟩⟩) (fun _=>True) (by show _=(⟨_,⟨_,cm 3 (aW C)++[],[]⟩⟩:St); rw[Wj]; rfl) trivial fun k hk _=>?_
 simp(disch:=omega)only[go_sem]
 refine Br.aD (fun c=>?_) (fun c=>?_)
 .obtain⟨x,hx⟩:=get_some (l:=d.ax) (k:=k) (by omega)
  have hxo:=hd.w x (Vz hx)
  have h453:=fun t u=>r453 t u T (ko 83 k) x hxo (by omega)
  have hR:ax (iu T d.ax (k+1))=ax (iu T d.ax k)++ax (xu T (ko 83 k) x).toList:=by
   rw[Bj hx]
   simp[ax]
  have hRl:(ax (iu T d.ax k)).length<=3:=by
   unfold ax
   rw[VB]
   have:=jy (fun i=>d.ax[i]?.bind fun s=>xu T (ko 83 i) s) k
   unfold iu
   omega
  have hw:=FA (k:=k) (by omega)
  have hna:=mY (c:=83) (k:=k) (by omega)
  generalize ax (iu T d.ax k)=rows at *
  cases hs:xu T (ko 83 k) x with
  |none=>
   rw[hs]at h453 hR
   simp only[Option.toList,ax,List.map_nil,List.append_nil]at hR
   simp(disch:=omega)only[go_sem,hx,Option.map_some,xt.c,hw,hna,h453]
   refine .of (by omega) ?_ trivial
   rw[<- hR]
   rfl
  |some w=>
   rw[hs]at h453 hR
   simp only[Option.toList,ax,List.map_cons,List.map_nil,dx.c]at hR
   simp only[dx.c]at h453
   have hg:=fun bx mp=>grow bx mp (cm 3 (aW C)) 5 rows [.str w.name,.aa 0 (w.msgs.map eD.c),.int .i64 w.auto.ay,.int .i64 w.auto.start,.aa 0 (w.auto.aw.map Edge.c)] rfl (by omega)
   have hgt:=fun bx mp=>ek bx mp (cm 3 (aW C)) 5 rows [.str w.name,.aa 0 (w.msgs.map eD.c),.int .i64 w.auto.ay,.int .i64 w.auto.start,.aa 0 (w.auto.aw.map Edge.c)]
   simp(disch:=omega)only[go_sem,hx,Option.map_some,xt.c,hw,hna,h453,hg,hgt]
   refine .of (by omega) ?_ trivial
   rw[show ax (iu T d.ax (k+1))=_ from hR]
   rfl
 obtain rfl:k=d.ax.length:=by omega
 generalize hWe:iu T d.ax d.ax.length=S at *
 clear hk c hWe
 simp(disch:=omega)only[go_sem]
 refine W.cD d.aK.length (fun k=>⟨[(2,.ptr 2 0),(4,.ptr 4 0),(8,.ptr 8 0),(9,.pv (.int .i64 T.length)),(14,.pv (.int .i64 k))],⟨[(2,[.pv (.aa 0 (d.s.map Node.cs)),.pv (.aa 0 (d.calls.map Oi)),.pv (.aa 0 (d.ax.map xt.c)),.pv (.aa 0 (d.aK.map Oj))]),(4,[.pv (.str ⟨#[]⟩),.tl [],.tl [],.tl [],.tl []]),(8,[.pv (.str nm),.pv (.aa 0 (T.map aC.c)),cY 0 (aW C),cY (cm 3 (aW C)).length (ax S),cY (cm 3 (aW C)++cm 5 (ax S)).length (bo (jN T.length d.aK k))])],cm 3 (aW C)++cm 5 (ax S)++cm 2 (bo (jN T.length d.aK k)),[]⟩⟩) (fun _=>True) (by show _=(⟨_,⟨_,cm 3 (aW C)++cm 5 (ax S)++[],[]⟩⟩:St); rw[Wj]; rfl) trivial fun k hk _=>?_
 simp(disch:=omega)only[go_sem]
 refine Br.aD (fun c=>?_) (fun c=>?_)
 .obtain⟨x,hx⟩:=get_some (l:=d.aK) (k:=k) (by omega)
  obtain⟨x1,x2⟩:=hd.t x (Vz hx)
  have hR:bo (jN T.length d.aK (k+1))=bo (jN T.length d.aK k)++[[.str (ko 84 k),.int .i64 (x%T.length)]]:=by
   rw[Bi hx]
   simp[bo,nc.c]
  have hRl:(bo (jN T.length d.aK k)).length<=3:=by
   rw[tc]
   have:=jy (fun i=>d.aK[i]?.map fun x=>(⟨ko 84 i,x%T.length⟩:nc)) k
   unfold jN
   omega
  generalize bo (jN T.length d.aK k)=rows at *
  have hg:=fun bx mp=>grow bx mp (cm 3 (aW C)++cm 5 (ax S)) 2 rows [.str (ko 84 k),.int .i64 (x%T.length)] rfl (by omega)
  have hgt:=fun bx mp=>ek bx mp (cm 3 (aW C)++cm 5 (ax S)) 2 rows [.str (ko 84 k),.int .i64 (x%T.length)]
  simp only[List.length_append]at hg hgt
  have hw:=FA (k:=k) (by omega)
  have hna:=mY (c:=84) (k:=k) (by omega)
  simp(disch:=omega)only[go_sem,hx,Option.map_some,Oj,hw,hna,hg,hgt]
  refine .of (by omega) ?_ trivial
  rw[hR,VE]
  rfl
 obtain rfl:k=d.aK.length:=by omega
 generalize hPe:jN T.length d.aK d.aK.length=P at *
 have k1:∀bx,aV ⟨bx,cm 3 (aW C)++cm 5 (ax S)++cm 2 (bo P),[]⟩ 4 (cY 0 (aW C))=some (.aa 0 (aW C)):=fun bx=>by
  rw[VO]
  exact lg bx [] [] _ 3 3 _
 have k2:∀bx,aV ⟨bx,cm 3 (aW C)++cm 5 (ax S)++cm 2 (bo P),[]⟩ 4 (cY (cm 3 (aW C)).length (ax S))=some (.aa 0 (ax S)):=fun bx=>by
  rw[VO]
  exact lg bx [] (cm 3 (aW C)) _ 5 3 _
 have k3:∀bx,aV ⟨bx,cm 3 (aW C)++cm 5 (ax S)++cm 2 (bo P),[]⟩ 4 (cY (cm 3 (aW C)++cm 5 (ax S)).length (bo P))=some (.aa 0 (bo P)):=fun bx=>l9 bx [] _ 2 3 _
 simp only[List.length_append]at k3
 simp(disch:=omega)only[go_sem,k1,k2,k3]
 rfl
theorem xw {c:UInt8} {k:Nat} (h:k<3):bw (ko c k):=by
 have:(ko c k).size=2:=by
  unfold ko
  rw[ByteArray.size_append,wg h]
  rfl
 unfold bw
 omega
theorem Dt {n:Int} {l:List (Int×Int)} {k:Nat} (hk:k<=3):∀c∈fv n l k,bw c.name:=by
 intro c hc
 obtain⟨i,hi,he⟩:=Wz.1 hc
 have:=WA.1 hi
 obtain⟨x,_,rfl⟩:=Wf.1 he
 exact xw (by omega)
theorem FB {n:Int} {l:List Int} {k:Nat} (hk:k<=3):∀c∈jN n l k,bw c.name:=by
 intro c hc
 obtain⟨i,hi,he⟩:=Wz.1 hc
 have:=WA.1 hi
 obtain⟨x,_,rfl⟩:=Wf.1 he
 exact xw (by omega)
theorem FC {T:List aC} {l:List xt} {k:Nat} (hk:k<=2) (hl:∀s∈l,s.ok):∀w∈iu T l k,∃i s,i<2/\s∈l/\fW T T.length≠[]/\w=⟨ko 83 i,hJ (fW T T.length) s,s.a.auto.trim⟩/\s.a.auto.Good:=by
 intro w hw
 obtain⟨i,hi,he⟩:=Wz.1 hw
 have:=WA.1 hi
 obtain⟨s,hs,he⟩:=Option.bind_eq_some_iff.1 he
 unfold xu at he
 split at he
 .rename_i hc
  cases he
  have hm:=Vz hs
  exact⟨i,s,by omega,hm,hc.2,rfl,eO.F4 (hl s hm).1 (s:=0) ⟨Xa _,by have:=s.a.st; omega⟩⟩
 .cases he
theorem Du {nm:ByteArray} {d:DH} {v:kr} (hn:bw nm) (hd:d.ok) (h:Ro nm d=some v):jw v/\v.types.length<=5/\v.calls.length<=3/\v.ax.length<=2/\v.aK.length<=3/\∀w∈v.ax,w.msgs.length<=3/\w.auto.aw.length<=100:=by
 unfold Ro at h
 split at h
 rotate_left
 .cases h
 rename_i hc
 obtain⟨c1,c2,c3,c4⟩:=hc
 cases h
 have hD:¬(d.s.length<1\/5<d.s.length):=by
  intro hx
  unfold ux at c1
  rw[if_pos hx]at c1
  cases c1
 have hT:(ux d.s).1=(List.range d.s.length).map (eh d.s):=by
  unfold ux
  rw[if_neg hD]
 obtain⟨o1,o2⟩:=L4 (d:=d.s) (by omega) (by omega)
 rw[<- hT]at o1 o2
 have hl:(ux d.s).1.length<=5:=by
  rw[hT,VB,V7]
  omega
 have l1:(fv (ux d.s).1.length d.calls d.calls.length).length<=3:=Wr (jy _ _) c2
 have l2:(iu (ux d.s).1 d.ax d.ax.length).length<=2:=Wr (jy _ _) c3
 have l3:(jN (ux d.s).1.length d.aK d.aK.length).length<=3:=Wr (jy _ _) c4
 have hw:∀w∈iu (ux d.s).1 d.ax d.ax.length,(bw w.name/\∀m∈w.msgs,bw m.name)/\w.msgs.length<=3/\w.auto.aw.length<=100:=fun w hw=>by
  obtain⟨i,s,hi,hs,_,rfl,hg⟩:=FC (by omega) hd.w w hw
  refine⟨⟨xw (by omega),fun m hm=>?_⟩,VI 3,hg.trim.len⟩
  dsimp only[hJ]at hm
  simp only[List.mem_cons,List.not_mem_nil,or_false]at hm
  rcases hm with rfl|rfl|rfl<;>exact xw (by omega)
 refine⟨⟨hn,by dsimp only; omega,o1,o2,by dsimp only; omega,Dt c2,by dsimp only; omega,fun w h=>?_,by dsimp only; omega,FB c4⟩,hl,l1,l2,l3,fun w h=>(hw w h).2⟩
 obtain⟨⟨q1,q2⟩,q3,q4⟩:=hw w h
 exact⟨q1,by omega,q2,by omega⟩
theorem zK {v:kr} (hv:jw v) (h5:v.types.length<=5) (hc:v.calls.length<=3) (hs:v.ax.length<=2) (hp:v.aK.length<=3) (hw:∀w∈v.ax,w.msgs.length<=3/\w.auto.aw.length<=100):res A az 409 [.agg (fT 0 0 0 0 (jK v)),.agg (fT 0 0 0 0 (jK v))]=some [.bool true]:=by
 have hLl:(aQ v).length<=5:=by
  unfold aQ gU
  rw[VB]
  have:=mS (ju v) v.types.length
  omega
 refine r409 (jK v) ?_ ?_ ?_ ?_ ?_ ?_
 .show ((aQ v).map _).length<=_
  rw[VB]
  omega
 .intro t ht
  obtain⟨u,hu,rfl⟩:=VP.1 ht
  obtain⟨g0,g1,_⟩:=gz.1 hu
  exact Dg (by omega) (hv.to _ (Vz (eL g0 g1)))
 .show (v.calls.map _).length<=_
  rw[VB]
  omega
 .show (v.ax.map _).length<=_
  rw[VB]
  omega
 .intro w h
  obtain⟨x,hx,rfl⟩:=VP.1 h
  have:=hw x hx
  refine⟨?_,?_⟩
  .show (x.msgs.map _).length<=_
   rw[VB]
   omega
  .show x.auto.aw.length<=_
   omega
 .show (v.aK.map _).length<=_
  rw[VB]
  omega
set_option maxRecDepth 20000 in
set_option maxHeartbeats 8000000 in
theorem r398 (r404:res A az 404 []=some [.bool true]) (d:DH) (hd:d.ok):res A az 398 [.agg d.c]=some [.bool true]:=by
 refine ai a398 rfl rfl ?_
 simp only[F398,Ko]
 have h419:=r419 ⟨#[118,49]⟩ d hd
 cases ho:Ro ⟨#[118,49]⟩ d with
 |none=>
  rw[ho]at h419
  simp only[DH.c]at h419 |-
  simp(disch:=omega)only[go_sem,r404,h419]
 |some v=>
  rw[ho]at h419
  obtain⟨hv,l1,l2,l3,l4,l5⟩:=Du (by unfold bw; decide) hd ho
  have h408:=r408 0 0 0 0 v hv
  have h420:=r420 0 0 0 0 v hv
  have h409:=r409 rn (by simp[rn]) (fun t h=>by simp[rn]at h) (by simp[rn]) (by simp[rn]) (fun t h=>by simp[rn]at h) (by simp[rn])
  have h409':=zK hv l1 l2 l3 l4 l5
  generalize jK v=sv at *
  generalize ui v=e at *
  simp only[DH.c,fT,rn,List.map_nil]at *
  have e0:aW []=[]:=rfl
  have e1:ax []=[]:=rfl
  have e2:bo []=[]:=rfl
  rw[e0,e1,e2]at h409
  by_cases c:e=0
  .rw[if_pos c]at h408 h420
   simp(disch:=omega)only[go_sem,r404,h419,h408,h420,h409']
  .rw[if_neg c]at h408 h420
   simp(disch:=omega)only[go_sem,r404,h419,h408,h420,h409]
theorem r404:res A az 404 []=some [.bool true]:=j5.2 ⟨3000,by kernel_rfl⟩
variable {P:Program}
theorem rp {n:Nat} {t:TypeId} {cs:List PV} (hu:P.underlying t=some (.int .u8)) (h:typed P n t cs):∃x:Nat,cs=[.int .u8 x]/\x<=255:=by
 cases n with
 |zero=>exact h.elim
 |succ n=>
  obtain⟨x,rfl,h1,h2⟩:=CH hu h
  have h1:(0:Int)<=x:=h1
  have h2:x<=(255:Int):=h2
  refine⟨x.toNat,?_,by omega⟩
  rw[Xq h1]
structure uu (P:Program) (dr nd pt ln lp t8:TypeId):Prop where
 u:P.underlying t8=some (.int .u8)
 n:P.underlying ln=some (.slice nd)
 p:P.underlying lp=some (.slice pt)
 d:∃fs,P.underlying dr=some (.struct fs)/\fs.toList.map (·.type)=[ln]
 x:∃fs,P.underlying nd=some (.struct fs)/\fs.toList.map (·.type)=[t8,t8,t8,t8,lp]
 q:∃fs,P.underlying pt=some (.struct fs)/\fs.toList.map (·.type)=[t8,t8,t8]
section
variable {dr nd pt ln lp t8:TypeId}
theorem Bk (T:uu P dr nd pt ln lp t8) {n:Nat} {cs:List PV} (h:typed P n pt cs):∃p:Part,cs=p.c/\p.ok:=by
 cases n with
 |zero=>exact h.elim
 |succ n=>
  obtain⟨fs,hu,hts⟩:=T.q
  obtain⟨r0,q0,rfl,h0,r1,q1,rfl,h1,r2,q2,rfl,h2,rfl⟩:=dZ hu hts h
  obtain⟨a,rfl,ha⟩:=rp T.u h0
  obtain⟨b,rfl,hb⟩:=rp T.u h1
  obtain⟨c,rfl,hc⟩:=rp T.u h2
  exact⟨⟨a,b,c⟩,rfl,ha,hb,hc⟩
theorem Bl (T:uu P dr nd pt ln lp t8) {n:Nat} {cs:List PV} (h:typed P n nd cs):∃x:Node,cs=x.cs/\x.ok:=by
 cases n with
 |zero=>exact h.elim
 |succ n=>
  obtain⟨fs,hu,hts⟩:=T.x
  obtain⟨r0,q0,rfl,h0,r1,q1,rfl,h1,r2,q2,rfl,h2,r3,q3,rfl,h3,r4,q4,rfl,h4,rfl⟩:=dZ hu hts h
  obtain⟨k,rfl,hk⟩:=rp T.u h0
  obtain⟨a,rfl,ha⟩:=rp T.u h1
  obtain⟨b,rfl,hb⟩:=rp T.u h2
  obtain⟨c,rfl,hc⟩:=rp T.u h3
  obtain⟨ps,rfl,hl,hp⟩:=ke T.p (fun m cs _ hh=>Bk T hh) h4
  exact⟨⟨k,a,b,c,ps⟩,by simp[Node.cs],⟨hk,ha,hb,hc⟩,hl,hp⟩
theorem zL (T:uu P dr nd pt ln lp t8) {n:Nat} {cs:List PV} (h:typed P n dr cs):∃d:List Node,cs=[.aa 0 (d.map Node.cs)]/\bV d/\∀x∈d,x.ok:=by
 cases n with
 |zero=>exact h.elim
 |succ n=>
  obtain⟨fs,hu,hts⟩:=T.d
  obtain⟨r0,q0,rfl,h0,rfl⟩:=dZ hu hts h
  obtain⟨l,rfl,k,g⟩:=ke T.n (fun m cs _ hh=>Bl T hh) h0
  exact⟨l,by simp,k,g⟩
end
end Go.Pv
namespace Go.Pv
variable {P:Program}
structure Dv (P:Program) (vd sd lc cl ls ss ad la ar a3 lt t8:TypeId):Prop where
 u:P.underlying t8=some (.int .u8)
 v:∃fs,P.underlying vd=some (.struct fs)/\fs.toList.map (·.type)=[sd,lc,ls,lt]
 lc:P.underlying lc=some (.slice cl)
 c:P.underlying cl=some (.array 2 t8)
 ls:P.underlying ls=some (.slice ss)
 s:∃fs,P.underlying ss=some (.struct fs)/\fs.toList.map (·.type)=[ad,a3]
 a:∃fs,P.underlying ad=some (.struct fs)/\fs.toList.map (·.type)=[t8,la]
 la:P.underlying la=some (.slice ar)
 r:∃fs,P.underlying ar=some (.struct fs)/\fs.toList.map (·.type)=[t8,t8,t8]
 b:P.underlying a3=some (.array 3 t8)
 lt:P.underlying lt=some (.slice t8)
section
variable {vd sd lc cl ls ss ad la ar a3 lt t8 nd pt ln lp:TypeId}
theorem jY {n:Nat} {t:TypeId} {cs:List PV} (hu:P.underlying t=some (.int .u8)) (h:typed P n t cs):∃x:Int,cs=[.int .u8 x]/\Ma x:=by
 obtain⟨x,rfl,hx⟩:=rp hu h
 exact⟨x,rfl,by unfold Ma; omega⟩
theorem Dw (T:Dv P vd sd lc cl ls ss ad la ar a3 lt t8) {n:Nat} {cs:List PV} (h:typed P n cl cs):∃c:Int×Int,cs=Oi c/\Ma c.1/\Ma c.2:=by
 cases n with
 |zero=>exact h.elim
 |succ n=>
  obtain⟨r0,q0,rfl,h0,r1,q1,rfl,h1,rfl⟩:=qV T.c h
  obtain⟨x,rfl,hx⟩:=jY T.u h0
  obtain⟨y,rfl,hy⟩:=jY T.u h1
  exact⟨(x,y),rfl,hx,hy⟩
theorem Dx (T:Dv P vd sd lc cl ls ss ad la ar a3 lt t8) {n:Nat} {cs:List PV} (h:typed P n ar cs):∃x:xh,cs=x.c/\x.ok:=by
 cases n with
 |zero=>exact h.elim
 |succ n=>
  obtain⟨fs,hu,hts⟩:=T.r
  obtain⟨r0,q0,rfl,h0,r1,q1,rfl,h1,r2,q2,rfl,h2,rfl⟩:=dZ hu hts h
  obtain⟨x,rfl,hx⟩:=jY T.u h0
  obtain⟨y,rfl,hy⟩:=jY T.u h1
  obtain⟨z,rfl,hz⟩:=jY T.u h2
  exact⟨⟨x,y,z⟩,rfl,hx,hy,hz⟩
theorem Dy (T:Dv P vd sd lc cl ls ss ad la ar a3 lt t8) {n:Nat} {cs:List PV} (h:typed P n ad cs):∃d:eO,cs=[.int .u8 d.n,.aa 0 (d.im.map xh.c)]/\d.ok:=by
 cases n with
 |zero=>exact h.elim
 |succ n=>
  obtain⟨fs,hu,hts⟩:=T.a
  obtain⟨r0,q0,rfl,h0,r1,q1,rfl,h1,rfl⟩:=dZ hu hts h
  obtain⟨x,rfl,hx⟩:=jY T.u h0
  obtain⟨l,rfl,hl,ho⟩:=ke T.la (fun m cs _ h=>Dx T h) h1
  exact⟨⟨x,l⟩,rfl,hx,hl,ho⟩
theorem Dz (T:Dv P vd sd lc cl ls ss ad la ar a3 lt t8) {n:Nat} {cs:List PV} (h:typed P n ss cs):∃s:xt,cs=s.c/\s.ok:=by
 cases n with
 |zero=>exact h.elim
 |succ n=>
  obtain⟨fs,hu,hts⟩:=T.s
  obtain⟨r0,q0,rfl,h0,r1,q1,rfl,h1,rfl⟩:=dZ hu hts h
  obtain⟨d,rfl,hd⟩:=Dy T h0
  cases n with
  |zero=>exact h1.elim
  |succ n=>
   obtain⟨r3,q3,rfl,g0,r4,q4,rfl,g1,r5,q5,rfl,g2,rfl⟩:=qV T.b h1
   obtain⟨x,rfl,hx⟩:=jY T.u g0
   obtain⟨y,rfl,hy⟩:=jY T.u g1
   obtain⟨z,rfl,hz⟩:=jY T.u g2
   exact⟨⟨d,x,y,z⟩,rfl,hd,hx,hy,hz.1,hz.2⟩
theorem DA (T:Dv P vd sd lc cl ls ss ad la ar a3 lt t8) (U:uu P sd nd pt ln lp t8) {n:Nat} {cs:List PV} (h:typed P n vd cs):∃d:DH,cs=d.c/\d.ok:=by
 cases n with
 |zero=>exact h.elim
 |succ n=>
  obtain⟨fs,hu,hts⟩:=T.v
  obtain⟨r0,q0,rfl,h0,r1,q1,rfl,h1,r2,q2,rfl,h2,r3,q3,rfl,h3,rfl⟩:=dZ hu hts h
  obtain⟨s,rfl,hl,ho⟩:=zL U h0
  obtain⟨c,rfl,hc,hco⟩:=ke T.lc (fun m cs _ h=>Dw T h) h1
  obtain⟨w,rfl,hw,hwo⟩:=ke T.ls (fun m cs _ h=>Dz T h) h2
  obtain⟨t,rfl,ht,hto⟩:=ke (c:=Oj) T.lt (fun m cs _ h=>jY T.u h) h3
  exact⟨⟨s,c,w,t⟩,rfl,ho,hl,hco,hc,hwo,hw,hto,ht⟩
end
end Go.Pv
