/-
 What the functions of the law give.
-/
import Derived.Test.YtpchfogcccagjaaGreatC7
set_option linter.unusedSimpArgs false
set_option linter.unusedVariables false
open List renaming getElem?_eq_some_iff → Wq, mem_of_getElem? → Wr, getElem?_eq_getElem → Ws, mem_iff_getElem? → Wt, length_map → Wu, getElem?_map → Wv, mem_map → Wz, mem_cons → WC, all_eq_true → WI, mem_cons_of_mem → WK, eq_nil_of_length_eq_zero → WL, findIdx?_eq_some_iff_getElem → WM, getD_eq_getElem?_getD → WS, take_of_length_le → WU, map_append → WZ, mem_cons_self → W1, length_range → W3, mem_range → W4, any_eq_false → Xc, mem_filterMap → Xh, mem_singleton → Xi, findIdx?_eq_none_iff → Xk, getElem?_zip_eq_some → Xr, pairwise_iff_getElem → Xs, mem_filter → Xx, foldl_cons → Xy, any_eq_true → XB, find?_eq_none → XC, range_succ → XH, getElem?_range → XI, length_reverse → XJ, nodup_append → XO, find?_some → XV, filterMap_append → XW, map_cons → XX, nodup_iff_pairwise_ne → XY
open Nat renaming le_refl → Wy, mod_lt → WV, le_trans → Xg, mod_eq_of_lt → X4, lt_succ_self → Ye
open Option renaming map_eq_some_iff → WW, isSome_iff_exists → Xu, bind_eq_some_iff → X6
open Int renaming toNat_natCast → Xb, eq_ofNat_of_zero_le → XF, emod_nonneg → X7
open Bool renaming true_and → Xe, false_and → XL, eq_false_iff → XP, and_eq_true → X5
namespace Go.Pv
@[go_sem] theorem cw404 (vs:List V) (h:ae) (K:V->Tn->Prop):CW A az 404 vs h K=CN A az false 404 vs h K:=cc vs h K
noncomputable def pc (v w:iY) (c:jG):Bool:=match ei (fun d=>decide (d.name=c.name)) w.calls with
 |some d=>eE v.types w.types c.rn d.rn&&eE v.types w.types c.rep d.rep
 |none=>false
noncomputable def uz (v w:iY) (c:jH):Bool:=match ei (fun d=>decide (d.name=c.name)) w.aS with
 |some d=>eE v.types w.types c.ty d.ty
 |none=>false
noncomputable def Be (v w:iY) (m n:gF):Bool:=decide (m.id=n.id)&&eE v.types w.types m.ty n.ty
def Bf (a b:aL):Bool:=decide (kH a b=0)&&!(a.ux b false).isSome
noncomputable def Ck (v w:iY) (x y:dW):Bool:=uv (Be v w) x.msgs y.msgs&&Bf x.auto y.auto
noncomputable def qh (v w:iY) (x:dW):Bool:=match ei (fun d=>decide (d.name=x.name)) w.aF with
 |some y=>Ck v w x y
 |none=>false
noncomputable def vS (v w:iY):Bool:=(decide (v.calls.length=w.calls.length)&&decide (v.aF.length=w.aF.length)&&decide (v.aS.length=w.aS.length))&&(v.calls.all (pc v w)&&v.aS.all (uz v w)&&v.aF.all (qh v w))
noncomputable def vT (v w:iY):Bool×Int:=if ur v≠0 then (false,ur v) else if ur w≠0 then (false,ur w) else (vS v w,0)
theorem Bg {α:Type} {f:α->Bool} {l:List α} (h:l.any (fun x=>!f x)=true):l.all f=false:=by
 obtain⟨x,hx,hn⟩:=XB.1 h
 rw[XP]
 intro h2
 have:=WI.1 h2 x hx
 rw[this]at hn
 cases hn
theorem w3 {α:Type} {f:α->Bool} {l:List α} (h:l.any (fun x=>!f x)=false):l.all f=true:=by
 rw[WI]
 intro x hx
 have:=Xc.1 h x hx
 simpa using this
theorem cS.vt {v:iY} (h:cS v) (hv:nu v):VT v.types:=⟨hv.tl,hv.to,hv.ts,h.valid⟩
theorem pd {α:Type} {p:α->Bool} {l:List α} {x:α} (h:ei p l=some x):x∈l:=by
 unfold ei at h
 cases hf:l.findIdx? p with
 |none=>rw[hf]at h; cases h
 |some j=>rw[hf]at h; exact Wr h
theorem r455 (s s' t1 t2 t3 t4 u1 u2 u3 u4:Nat) (v w:iY) (x y:Int) (hA:VT v.types) (hB:VT w.types) (hx:0<=x/\x<v.types.length) (hy:0<=y/\y<w.types.length):res A az 455 [.int .i64 x,.int .i64 y,.ro s (lF t1 t2 t3 t4 v),.ro s' (lF u1 u2 u3 u4 w)]=some [.bool (eE v.types w.types x y)]:=by
 have h1:=fun t u=>r456 t u v.types w.types x y hA hB hx hy
 refine aw a455 rfl rfl ?_
 simp only[F455,LU,lF]
 simp(disch:=omega)only[go_sem,h1]
set_option maxHeartbeats 16000000 in
theorem r421 (t1 t2 t3 t4 u1 u2 u3 u4:Nat) (v w:iY) (hv:nu v) (hw:nu w):res A az 421 [.agg (lF t1 t2 t3 t4 v),.agg (lF u1 u2 u3 u4 w)]=some [.bool (vT v w).1,.int .i64 (vT v w).2]:=by
 have h407:=r407 t1 t2 t3 t4 v hv
 have h407':=r407 u1 u2 u3 u4 w hw
 have l1:=hv.cl
 have l2:=hv.sl
 have l3:=hv.pl
 have m1:=hw.cl
 have m2:=hw.sl
 have m3:=hw.pl
 have h410:=fun nm=>r410 u1 u2 u3 u4 w nm hw.cl
 have h414:=fun nm=>r414 u1 u2 u3 u4 w nm hw.pl
 have h455:=fun s s' x y=>r455 s s' t1 t2 t3 t4 u1 u2 u3 u4 v w x y
 unfold vT
 refine aw a421 rfl rfl ?_
 simp only[F421,LF,lF]at *
 simp(disch:=omega)only[go_sem,h407]
 refine Br.aJ (fun c=>?_) (fun c=>?_)<;>simp(disch:=omega)only[go_sem]
 rotate_left
 .rw[if_pos c]
 rw[if_neg (by simp[c])]
 simp(disch:=omega)only[go_sem,h407']
 refine Br.aJ (fun c'=>?_) (fun c'=>?_)<;>simp(disch:=omega)only[go_sem]
 rotate_left
 .rw[if_pos c']
 rw[if_neg (by simp[c'])]
 have gv:=vK c
 have gw:=vK c'
 have tv:=gv.vt hv
 have tw:=gw.vt hw
 have hm:∀z∈w.aF,z.msgs.length<=2147483648/\z.auto.aa.length<=2147483648:=fun z hz=>by
  have h1:=(gw.rJ z hz).HP
  have h2:=(hw.ss z hz).2.2.2
  omega
 have h412:=fun nm=>r412 u1 u2 u3 u4 w nm hw.sl hm
 simp only[lF]at h412
 unfold vS
 cases d1:decide ((v.calls.length:Int)=w.calls.length)with
 |false=>
  have:=of_decide_eq_false d1
  rw[decide_eq_false (show ¬v.calls.length=w.calls.length by omega)]
  simp(disch:=omega)only[go_sem,d1]
 |true=>
 have d1':=of_decide_eq_true d1
 cases d2:decide ((v.aF.length:Int)=w.aF.length)with
 |false=>
  have:=of_decide_eq_false d2
  rw[decide_eq_false (show ¬v.aF.length=w.aF.length by omega),Bool.and_false]
  simp(disch:=omega)only[go_sem,d1,d2]
 |true=>
 have d2':=of_decide_eq_true d2
 cases d3:decide ((v.aS.length:Int)=w.aS.length)with
 |false=>
  have:=of_decide_eq_false d3
  rw[decide_eq_false (show ¬v.aS.length=w.aS.length by omega),Bool.and_false]
  simp(disch:=omega)only[go_sem,d1,d2,d3]
 |true=>
 have d3':=of_decide_eq_true d3
 simp(disch:=omega)only[go_sem,d1,d2,d3]
 rw[decide_eq_true (show v.calls.length=w.calls.length by omega),decide_eq_true (show v.aF.length=w.aF.length by omega),decide_eq_true (show v.aS.length=w.aS.length by omega),Xe,Xe,Xe]
 refine W.find v.calls (fun c=>!pc v w c) (fun k=>⟨[(2,.ptr 2 0),(3,.ptr 3 0),(8,.func 455 [.ptr 2 0,.ptr 3 0]),(62,.pv (.aq t2 (cg v.calls))),(63,.pv (.int .i64 v.calls.length)),(64,.pv (.int .i64 k))],⟨[(2,[.pv (.str v.name),.pv (.aq t1 (v.types.map aI.c)),.pv (.aq t2 (cg v.calls)),.pv (.aq t3 (aF v.aF)),.pv (.aq t4 (cQ v.aS))]),(3,[.pv (.str w.name),.pv (.aq u1 (w.types.map aI.c)),.pv (.aq u2 (cg w.calls)),.pv (.aq u3 (aF w.aF)),.pv (.aq u4 (cQ w.aS))])],[],[]⟩⟩) rfl (fun k x hx hk hfd=>?_) (fun hn=>?_)
 .have done:pc v w x=false->(some [PV.bool false,PV.int .i64 0]:Option (List PV))=some [.bool (v.calls.all (pc v w)&&v.aS.all (uz v w)&&v.aF.all (qh v w)),.int .i64 0]:=fun h=>by
   rw[Bg (hfd (by rw[h]; rfl)).any]
   rfl
  have hcl:=gv.call x (Wr hx)
  simp(disch:=omega)only[go_sem]
  refine Br.aJ (fun c=>?_) (fun c=>(c (by omega)).elim)
  simp(disch:=omega)only[go_sem,hx,Option.map_some,jG.c,h410]
  unfold pc at done
  cases hp:ei (fun d=>decide (d.name=x.name)) w.calls with
  |none=>
   rw[hp]at done
   simp(disch:=omega)only[go_sem,MU]
   exact done rfl
  |some d=>
   rw[hp]at done
   dsimp only at done
   have hd:=gw.call d (pd hp)
   have e1:=fun s s'=>h455 s s' x.rn d.rn tv tw hcl.1 hd.1
   have e2:=fun s s'=>h455 s s' x.rep d.rep tv tw hcl.2 hd.2
   have hcs:pc v w x=(eE v.types w.types x.rn d.rn&&eE v.types w.types x.rep d.rep):=by
    unfold pc
    rw[hp]
   generalize eE v.types w.types x.rn d.rn=b1 at *
   generalize eE v.types w.types x.rep d.rep=b2 at *
   simp(disch:=omega)only[go_sem,MU,jG.c,e1]
   cases b1 with
   |false=>
    simp(disch:=omega)only[go_sem]
    exact done rfl
   |true=>
    simp(disch:=omega)only[go_sem,e2]
    cases b2 with
    |false=>
     simp(disch:=omega)only[go_sem]
     exact done rfl
    |true=>
     simp(disch:=omega)only[go_sem]
     exact bA.of (by rw[hcs]; rfl) rfl
 rw[w3 hn.any,Xe]
 clear hn
 simp(disch:=omega)only[go_sem]
 refine W.find v.aS (fun c=>!uz v w c) (fun k=>⟨[(2,.ptr 2 0),(3,.ptr 3 0),(8,.func 455 [.ptr 2 0,.ptr 3 0]),(97,.pv (.aq t4 (cQ v.aS))),(98,.pv (.int .i64 v.aS.length)),(99,.pv (.int .i64 k))],⟨[(2,[.pv (.str v.name),.pv (.aq t1 (v.types.map aI.c)),.pv (.aq t2 (cg v.calls)),.pv (.aq t3 (aF v.aF)),.pv (.aq t4 (cQ v.aS))]),(3,[.pv (.str w.name),.pv (.aq u1 (w.types.map aI.c)),.pv (.aq u2 (cg w.calls)),.pv (.aq u3 (aF w.aF)),.pv (.aq u4 (cQ w.aS))])],[],[]⟩⟩) rfl (fun k x hx hk hfd=>?_) (fun hn=>?_)
 .have done:uz v w x=false->(some [PV.bool false,PV.int .i64 0]:Option (List PV))=some [.bool (v.aS.all (uz v w)&&v.aF.all (qh v w)),.int .i64 0]:=fun h=>by
   rw[Bg (hfd (by rw[h]; rfl)).any]
   rfl
  have hcl:=gv.FP x (Wr hx)
  simp(disch:=omega)only[go_sem]
  refine Br.aJ (fun c=>?_) (fun c=>(c (by omega)).elim)
  simp(disch:=omega)only[go_sem,hx,Option.map_some,jH.c,h414]
  unfold uz at done
  cases hp:ei (fun d=>decide (d.name=x.name)) w.aS with
  |none=>
   rw[hp]at done
   simp(disch:=omega)only[go_sem,MW]
   exact done rfl
  |some d=>
   rw[hp]at done
   dsimp only at done
   have hd:=gw.FP d (pd hp)
   have e1:=fun s s'=>h455 s s' x.ty d.ty tv tw hcl hd
   have hcs:uz v w x=eE v.types w.types x.ty d.ty:=by
    unfold uz
    rw[hp]
   generalize eE v.types w.types x.ty d.ty=b1 at *
   simp(disch:=omega)only[go_sem,MW,jH.c,e1]
   cases b1 with
   |false=>
    simp(disch:=omega)only[go_sem]
    exact done rfl
   |true=>
    simp(disch:=omega)only[go_sem]
    exact bA.of (by rw[hcs]; rfl) rfl
 rw[w3 hn.any,Xe]
 clear hn
 simp(disch:=omega)only[go_sem]
 refine W.find v.aF (fun c=>!qh v w c) (fun k=>⟨[(3,.ptr 3 0),(8,.func 455 [.ptr 2 0,.ptr 3 0]),(123,.pv (.aq t3 (aF v.aF))),(124,.pv (.int .i64 v.aF.length)),(125,.pv (.int .i64 k))],⟨[(2,[.pv (.str v.name),.pv (.aq t1 (v.types.map aI.c)),.pv (.aq t2 (cg v.calls)),.pv (.aq t3 (aF v.aF)),.pv (.aq t4 (cQ v.aS))]),(3,[.pv (.str w.name),.pv (.aq u1 (w.types.map aI.c)),.pv (.aq u2 (cg w.calls)),.pv (.aq u3 (aF w.aF)),.pv (.aq u4 (cQ w.aS))])],[],[]⟩⟩) rfl (fun k x hx hk hfd=>?_) (fun hn=>?_)
 .have done:qh v w x=false->(some [PV.bool false,PV.int .i64 0]:Option (List PV))=some [.bool (v.aF.all (qh v w)),.int .i64 0]:=fun h=>by
   rw[Bg (hfd (by rw[h]; rfl)).any]
  have hxm:=Wr hx
  have hcl:=gv.rJ x hxm
  have hce:=(hv.ss x hxm).2.2.2
  have hfe:=hcl.HP
  simp(disch:=omega)only[go_sem]
  refine Br.aJ (fun c=>?_) (fun c=>(c (by omega)).elim)
  simp(disch:=omega)only[go_sem,hx,Option.map_some,dW.c,h412]
  cases hp:ei (fun d=>decide (d.name=x.name)) w.aF with
  |none=>
   have hcs:qh v w x=false:=by
    unfold qh
    rw[hp]
   simp(disch:=omega)only[go_sem,AL]
   exact done hcs
  |some y=>
   have hym:=pd hp
   have hd:=gw.rJ y hym
   have hde:=(hw.ss y hym).2.2.2
   have hfd':=hd.HP
   have hcs:qh v w x=(uv (Be v w) x.msgs y.msgs&&Bf x.auto y.auto):=by
    unfold qh
    rw[hp]
    rfl
   simp(disch:=omega)only[go_sem,AL,dW.c]
   cases d4:decide ((x.msgs.length:Int)=y.msgs.length)with
   |false=>
    have:=of_decide_eq_false d4
    rw[qf (fun e=>this (by rw[e])),XL]at hcs
    simp(disch:=omega)only[go_sem]
    exact done hcs
   |true=>
   have d4':=of_decide_eq_true d4
   simp(disch:=omega)only[go_sem]
   refine W.find (x.msgs.zip y.msgs) (fun q=>!Be v w q.1 q.2) (fun j=>⟨[(3,.ptr 3 0),(8,.func 455 [.ptr 2 0,.ptr 3 0]),(18,.ptr 18 0),(19,.ptr 19 0),(123,.pv (.aq t3 (aF v.aF))),(124,.pv (.int .i64 v.aF.length)),(125,.pv (.int .i64 k)),(148,.pv (.aq 0 (x.msgs.map gF.c))),(149,.pv (.int .i64 x.msgs.length)),(150,.pv (.int .i64 j))],⟨[(2,[.pv (.str v.name),.pv (.aq t1 (v.types.map aI.c)),.pv (.aq t2 (cg v.calls)),.pv (.aq t3 (aF v.aF)),.pv (.aq t4 (cQ v.aS))]),(3,[.pv (.str w.name),.pv (.aq u1 (w.types.map aI.c)),.pv (.aq u2 (cg w.calls)),.pv (.aq u3 (aF w.aF)),.pv (.aq u4 (cQ w.aS))]),(18,x.c.map .pv),(19,y.c.map .pv)],[],[]⟩⟩) rfl (fun j q hq hj hfq=>?_) (fun hn=>?_)
   .obtain⟨h1,h2⟩:=jg hq
    rw[dx (by omega)]at hj
    have ha:=hcl.ty q.1 (Wr h1)
    have hb:=hd.ty q.2 (Wr h2)
    have e1:=fun s s'=>h455 s s' q.1.ty q.2.ty tv tw ha hb
    have hg:Be v w q.1 q.2=(decide (q.1.id=q.2.id)&&eE v.types w.types q.1.ty q.2.ty):=rfl
    have done2:Be v w q.1 q.2=false->qh v w x=false:=fun h=>by
     rw[hcs,wV (hfq (by rw[h]; rfl)).any]
     rfl
    generalize eE v.types w.types q.1.ty q.2.ty=b1 at *
    simp(disch:=omega)only[go_sem]
    refine Br.aJ (fun c=>?_) (fun c=>(c (by omega)).elim)
    simp(disch:=omega)only[go_sem,h1,h2,Option.map_some,gF.c,dW.c]
    cases d5:decide (q.1.id=q.2.id)with
    |false=>
     simp(disch:=omega)only[go_sem]
     exact done (done2 (by rw[hg,d5]; rfl))
    |true=>
     simp(disch:=omega)only[go_sem,h1,h2,Option.map_some,gF.c,dW.c,e1]
     cases b1 with
     |false=>
      simp(disch:=omega)only[go_sem]
      exact done (done2 (by rw[hg,d5]; rfl))
     |true=>
      simp(disch:=omega)only[go_sem]
      exact bA.of (by rw[hg,d5]; rfl) rfl
   .have hz:(x.msgs.zip y.msgs).length=x.msgs.length:=dx (by omega)
    rw[rK (g:=Be v w) (by omega) hn.any,Xe]at hcs
    rw[hz]
    have ha:(decide (kH x.auto y.auto=0)&&!(x.auto.ux y.auto false).isSome)=Bf x.auto y.auto:=rfl
    simp(disch:=omega)only[go_sem,dW.c,ha]
    cases d6:Bf x.auto y.auto with
    |false=>
     rw[d6]at hcs
     simp(disch:=omega)only[go_sem]
     exact done hcs
    |true=>
     rw[d6]at hcs
     simp(disch:=omega)only[go_sem]
     exact bA.of (by rw[hcs]; rfl) rfl
 .rw[w3 hn.any]
  simp(disch:=omega)only[go_sem]
theorem hY {a:aL} (ha:a.Good) {x:Int} {d:Bool} {l t:Int} (h:bh x d l a.aa=some t):(⟨x,d,l,t⟩:Edge)∈aG a.aa x:=fu.2 ⟨(fe ha.mw).1 h,rfl⟩
theorem hZ {a:aL} (ha:a.Good) {x:Int} {e:Edge} (h:e∈aG a.aa x):bh x e.send e.label a.aa=some e.to:=by
 obtain⟨h1,h2⟩:=fu.1 h
 refine(fe ha.mw).2 ?_
 have:(⟨x,e.send,e.label,e.to⟩:Edge)=e:=by rw[<- h2]
 rw[this]
 exact h1
theorem Gj {a b:aL} (ha:a.Good) (hb:b.Good) {o:Bool} {x y:Int} (h:my o (aG a.aa x) (aG b.aa y)=none):(∀d l,(bh x d l a.aa).isSome=true->(bh y d l b.aa).isSome=true)/\(o=false->∀d l,(bh y d l b.aa).isSome=true->(bh x d l a.aa).isSome=true):=by
 have hs:=lQ o _ _ (ha.IF x) (hb.IF y)
 rw[h]at hs
 refine⟨fun d l hd=>?_,fun ho d l hd=>?_⟩
 .obtain⟨t,ht⟩:=Xu.1 hd
  obtain⟨f,hf,he⟩:=hs.1 _ (hY ha ht)
  simp only[Edge.act,Prod.mk.injEq]at he
  have:=hZ hb hf
  rw[he.1,he.2]at this
  rw[this]; rfl
 .obtain⟨t,ht⟩:=Xu.1 hd
  obtain⟨f,hf,he⟩:=hs.2 ho _ (hY hb ht)
  simp only[Edge.act,Prod.mk.injEq]at he
  have:=hZ ha hf
  rw[he.1,he.2]at this
  rw[this]; rfl
theorem Gk {a b:aL} (ha:a.Good) (hb:b.Good) {o:Bool} {x y:Int} {e:Edge} {w:Int} (h:my o (aG a.aa x) (aG b.aa y)=some (e,w)):
  (w=0/\(bh x e.send e.label a.aa).isSome=true/\bh y e.send e.label b.aa=none)\/(w=1/\o=false/\(bh y e.send e.label b.aa).isSome=true/\bh x e.send e.label a.aa=none):=by
 have hs:=lQ o _ _ (ha.IF x) (hb.IF y)
 rw[h]at hs
 rcases hs with⟨h1,h2,h3⟩|⟨h1,h0,h2,h3⟩
 .refine .inl ⟨h1,by rw[hZ ha h2]; rfl,?_⟩
  cases hn:bh y e.send e.label b.aa with
  |none=>rfl
  |some t=>exact(h3 _ (hY hb hn) rfl).elim
 .refine .inr ⟨h1,h0,by rw[hZ hb h2]; rfl,?_⟩
  cases hn:bh x e.send e.label a.aa with
  |none=>rfl
  |some t=>exact(h3 _ (hY ha hn) rfl).elim
theorem PR.ev {a b:aL} {p:List (Bool×Int)} {x y:Int} (h:PR a.aa b.aa a.start b.start p x y) (he:∀j,Ev a.aa b.aa j a.start b.start):∀j,Ev a.aa b.aa j x y:=by
 induction h with
 |nil=>exact he
 |@snoc _ _ _ _ _ d l _ h1 h2 ih=>
  intro j
  have:=ih (j+1) d l
  rw[h1,h2]at this
  exact this
theorem Gl {a b:aL} (ha:a.Good) (hb:b.Good):a.ux b false=none↔∀j,Ev a.aa b.aa j a.start b.start:=by
 have hs:=aL.oZ ha hb false
 constructor
 .intro h
  rw[h]at hs
  have key:∀j p x y,PR a.aa b.aa a.start b.start p x y->Ev a.aa b.aa j x y:=by
   intro j
   induction j with
   |zero=>exact fun _ _ _ _=>trivial
   |succ j ih=>
    intro p x y hp d l
    obtain⟨h1,h2⟩:=Gj ha hb (hs p x y hp)
    have h1:=h1 d l
    have h2:=h2 rfl d l
    cases hx:bh x d l a.aa with
    |none=>
     cases hy:bh y d l b.aa with
     |none=>trivial
     |some t=>rw[hx,hy]at h2; cases h2 rfl
    |some t=>
     cases hy:bh y d l b.aa with
     |none=>rw[hx,hy]at h1; cases h1 rfl
     |some u=>exact ih _ t u (hp.snoc hx hy)
  exact fun j=>key j [] _ _ .nil
 .intro he
  cases h:a.ux b false with
  |none=>rfl
  |some r=>
   obtain⟨p,w⟩:=r
   rw[h]at hs
   obtain⟨n,e,hp,hm,_⟩:=hs
   have h1:=hp.ev he 1 e.send e.label
   rcases Gk ha hb hm with⟨_,h2,h3⟩|⟨_,_,h2,h3⟩
   .rw[h3]at h1
    obtain⟨t,ht⟩:=Xu.1 h2
    rw[ht]at h1
    exact h1.elim
   .rw[h3]at h1
    obtain⟨t,ht⟩:=Xu.1 h2
    rw[ht]at h1
    exact h1.elim
structure Wm (v:iY):Prop where
 o:∀t∈v.types,t.ok
 s:∀t∈v.types,t.short
 tl:v.types.length<=2147483648
 sl:v.aF.length<=2^63 - 1
 n:bu v.name
 c:∀c∈v.calls,bu c.name
 w:∀w∈v.aF,bu w.name/\∀m∈w.msgs,bu m.name
 p:∀c∈v.aS,bu c.name
theorem qi {α:Type} (c:α->List PV) {k:Nat} (hk:∀x,(c x).length=k) {id row ax:Nat} {l:List α} (h1:row<l.length) (y:α) (hp:ay V.bP ((c y).map .pv)=some (c y)) (hc:((c y).map V.pv).all V.calm=true):dj id row 0 ((c y).map .pv) ⟨ax,k,.inl (l.map c)⟩=some { ar:=some (id,⟨ax,k,.inl ((l.set row y).map c)⟩) }:=by
 rw[kf (l:=c y) (by rw[Wu]; exact h1) hp (by rw[Wu,hk]; omega) hc]
 have:over row 0 (c y) (l.map c)=(l.set row y).map c:=by
  unfold over
  rw[List.map_set]
  congr 1
  obtain⟨e,he⟩:=get_some h1
  have h2:=hk y
  have h3:=hk e
  simp[he]
  omega
 rw[this]
@[go_sem] theorem tO {id row ax:Nat} {s:ByteArray} {x t:Int} {l:List jG} (h1:row<l.length):dj id row 0 [.pv (.str s),.pv (.int .i64 x),.pv (.int .i64 t)] ⟨ax,3,.inl (cg l)⟩=some { ar:=some (id,⟨ax,3,.inl (cg (l.set row ⟨s,x,t⟩))⟩) }:=qi jG.c (fun _=>rfl) h1 ⟨s,x,t⟩ rfl rfl
@[go_sem] theorem tQ {id row ax:Nat} {s:ByteArray} {x:Int} {l:List jH} (h1:row<l.length):dj id row 0 [.pv (.str s),.pv (.int .i64 x)] ⟨ax,2,.inl (cQ l)⟩=some { ar:=some (id,⟨ax,2,.inl (cQ (l.set row ⟨s,x⟩))⟩) }:=qi jH.c (fun _=>rfl) h1 ⟨s,x⟩ rfl rfl
theorem kC {id row ax:Nat} (w:dW) {l:List dW} (h1:row<l.length):dj id row 0 [.pv (.str w.name),.pv (.aq 0 (w.msgs.map gF.c)),.pv (.int .i64 w.auto.ai),.pv (.int .i64 w.auto.start),.pv (.aq 0 (w.auto.aa.map Edge.c))] ⟨ax,5,.inl (aF l)⟩=some { ar:=some (id,⟨ax,5,.inl (aF (l.set row w))⟩) }:=qi dW.c (fun _=>rfl) h1 w rfl rfl
theorem Nj {AR:List jG->List aN} {n:Nat} (hA:∀R,(AR R)[n]?=some ⟨0,3,.inl (cg R)⟩) (hS:∀R R',(AR R).set n ⟨0,3,.inl (cg R')⟩=AR R') (l:List jG) (hl:l.length<=3) (Q:Ex->St->Prop) (hQ:∀env,Q .normal ⟨env,⟨[],AR l.reverse,[]⟩⟩):W A az F427.body ⟨[(0,.own n 0 0 l.length)],⟨[],AR l,[]⟩⟩ Q:=by
 simp only[F427,HJ]
 simp(disch:=omega)only[go_sem]
 refine W.loop (α:=Nat) (fun r=>⟨[(0,.own n 0 0 l.length),(2,.pv (.int .i64 r)),(3,.pv (.int .i64 (l.length - 1 - r)))],⟨[],AR (if r=0 then l else l.reverse),[]⟩⟩) (fun r=>r=0\/(r=1/\2<=l.length)) (fun r=>1 - r) 0 (by simp) (.inl rfl) fun r hr=>?_
 rcases hr with rfl|⟨rfl,h2⟩
 .simp(disch:=omega)only[go_sem]
  refine Br.aJ (fun c=>?_) (fun c=>?_)
  .match l,hl,c with
   |[],_,c=>simp at c
   |[a],_,c=>simp at c
   |[a,b],_,_=>
    have g0:[a,b][0]?=some a:=rfl
    have g1:[a,b][(((2:Nat):Int) - 1 - ((0:Nat):Int)).toNat]?=some b:=rfl
    have g2:(((2:Nat):Int) - 1 - ((0:Nat):Int)).toNat=1:=rfl
    have s1:=fun x=>tO (id:=n) (row:=1) (ax:=0) (s:=a.name) (x:=a.rn) (t:=a.rep) (l:=[x,b]) (Ye 1)
    simp(disch:=omega)only[go_sem,hA,hS,g0,g1,g2,s1]
    exact⟨1,.inr ⟨rfl,by simp⟩,by decide,rfl⟩
   |[a,b,d],_,_=>
    have g0:[a,b,d][0]?=some a:=rfl
    have g1:[a,b,d][(((3:Nat):Int) - 1 - ((0:Nat):Int)).toNat]?=some d:=rfl
    have g2:(((3:Nat):Int) - 1 - ((0:Nat):Int)).toNat=2:=rfl
    have s1:=fun x=>tO (id:=n) (row:=2) (ax:=0) (s:=a.name) (x:=a.rn) (t:=a.rep) (l:=[x,b,d]) (Ye 2)
    simp(disch:=omega)only[go_sem,hA,hS,g0,g1,g2,s1]
    exact⟨1,.inr ⟨rfl,by simp⟩,by decide,rfl⟩
  .match l,hl,c with
   |[],_,_=>
    simp(disch:=omega)only[go_sem]
    exact hQ _
   |[a],_,_=>
    simp(disch:=omega)only[go_sem]
    exact hQ _
   |a::b::r,_,c=>exact absurd (show _ from by simp only[List.length_cons]; omega) c
 .simp(disch:=omega)only[go_sem]
  refine Br.aJ (fun c=>absurd c (by omega)) (fun c=>?_)
  simp(disch:=omega)only[go_sem]
  exact hQ _
theorem Gm {AR:List dW->List aN} {n:Nat} (hA:∀R,(AR R)[n]?=some ⟨0,5,.inl (aF R)⟩) (hS:∀R R',(AR R).set n ⟨0,5,.inl (aF R')⟩=AR R') (l:List dW) (hl:l.length<=3) (Q:Ex->St->Prop) (hQ:∀env,Q .normal ⟨env,⟨[],AR l.reverse,[]⟩⟩):W A az F428.body ⟨[(0,.own n 0 0 l.length)],⟨[],AR l,[]⟩⟩ Q:=by
 simp only[F428,HK]
 simp(disch:=omega)only[go_sem]
 refine W.loop (α:=Nat) (fun r=>⟨[(0,.own n 0 0 l.length),(2,.pv (.int .i64 r)),(3,.pv (.int .i64 (l.length - 1 - r)))],⟨[],AR (if r=0 then l else l.reverse),[]⟩⟩) (fun r=>r=0\/(r=1/\2<=l.length)) (fun r=>1 - r) 0 (by simp) (.inl rfl) fun r hr=>?_
 rcases hr with rfl|⟨rfl,h2⟩
 .simp(disch:=omega)only[go_sem]
  refine Br.aJ (fun c=>?_) (fun c=>?_)
  .match l,hl,c with
   |[],_,c=>simp at c
   |[a],_,c=>simp at c
   |[a,b],_,_=>
    have g0:[a,b][0]?=some a:=rfl
    have g1:[a,b][(((2:Nat):Int) - 1 - ((0:Nat):Int)).toNat]?=some b:=rfl
    have g2:(((2:Nat):Int) - 1 - ((0:Nat):Int)).toNat=1:=rfl
    have s0:=kC (id:=n) (row:=0) (ax:=0) b (l:=[a,b]) (by simp)
    have s1:=kC (id:=n) (row:=1) (ax:=0) a (l:=[b,b]) (by simp)
    simp(disch:=omega)only[go_sem,hA,hS,g0,g1,g2,s0,s1,List.set_cons_zero]
    exact⟨1,.inr ⟨rfl,by simp⟩,by decide,rfl⟩
   |[a,b,d],_,_=>
    have g0:[a,b,d][0]?=some a:=rfl
    have g1:[a,b,d][(((3:Nat):Int) - 1 - ((0:Nat):Int)).toNat]?=some d:=rfl
    have g2:(((3:Nat):Int) - 1 - ((0:Nat):Int)).toNat=2:=rfl
    have s0:=kC (id:=n) (row:=0) (ax:=0) d (l:=[a,b,d]) (by simp)
    have s1:=kC (id:=n) (row:=2) (ax:=0) a (l:=[d,b,d]) (by simp)
    simp(disch:=omega)only[go_sem,hA,hS,g0,g1,g2,s0,s1,List.set_cons_zero]
    exact⟨1,.inr ⟨rfl,by simp⟩,by decide,rfl⟩
  .match l,hl,c with
   |[],_,_=>
    simp(disch:=omega)only[go_sem]
    exact hQ _
   |[a],_,_=>
    simp(disch:=omega)only[go_sem]
    exact hQ _
   |a::b::r,_,c=>exact absurd (show _ from by simp only[List.length_cons]; omega) c
 .simp(disch:=omega)only[go_sem]
  refine Br.aJ (fun c=>absurd c (by omega)) (fun c=>?_)
  simp(disch:=omega)only[go_sem]
  exact hQ _
theorem Bh {AR:List jH->List aN} {n:Nat} (hA:∀R,(AR R)[n]?=some ⟨0,2,.inl (cQ R)⟩) (hS:∀R R',(AR R).set n ⟨0,2,.inl (cQ R')⟩=AR R') (l:List jH) (hl:l.length<=3) (Q:Ex->St->Prop) (hQ:∀env,Q .normal ⟨env,⟨[],AR l.reverse,[]⟩⟩):W A az F429.body ⟨[(0,.own n 0 0 l.length)],⟨[],AR l,[]⟩⟩ Q:=by
 simp only[F429,HL]
 simp(disch:=omega)only[go_sem]
 refine W.loop (α:=Nat) (fun r=>⟨[(0,.own n 0 0 l.length),(2,.pv (.int .i64 r)),(3,.pv (.int .i64 (l.length - 1 - r)))],⟨[],AR (if r=0 then l else l.reverse),[]⟩⟩) (fun r=>r=0\/(r=1/\2<=l.length)) (fun r=>1 - r) 0 (by simp) (.inl rfl) fun r hr=>?_
 rcases hr with rfl|⟨rfl,h2⟩
 .simp(disch:=omega)only[go_sem]
  refine Br.aJ (fun c=>?_) (fun c=>?_)
  .match l,hl,c with
   |[],_,c=>simp at c
   |[a],_,c=>simp at c
   |[a,b],_,_=>
    have g0:[a,b][0]?=some a:=rfl
    have g1:[a,b][(((2:Nat):Int) - 1 - ((0:Nat):Int)).toNat]?=some b:=rfl
    have g2:(((2:Nat):Int) - 1 - ((0:Nat):Int)).toNat=1:=rfl
    have s1:=fun x=>tQ (id:=n) (row:=1) (ax:=0) (s:=a.name) (x:=a.ty) (l:=[x,b]) (Ye 1)
    simp(disch:=omega)only[go_sem,hA,hS,g0,g1,g2,s1]
    exact⟨1,.inr ⟨rfl,by simp⟩,by decide,rfl⟩
   |[a,b,d],_,_=>
    have g0:[a,b,d][0]?=some a:=rfl
    have g1:[a,b,d][(((3:Nat):Int) - 1 - ((0:Nat):Int)).toNat]?=some d:=rfl
    have g2:(((3:Nat):Int) - 1 - ((0:Nat):Int)).toNat=2:=rfl
    have s1:=fun x=>tQ (id:=n) (row:=2) (ax:=0) (s:=a.name) (x:=a.ty) (l:=[x,b,d]) (Ye 2)
    simp(disch:=omega)only[go_sem,hA,hS,g0,g1,g2,s1]
    exact⟨1,.inr ⟨rfl,by simp⟩,by decide,rfl⟩
  .match l,hl,c with
   |[],_,_=>
    simp(disch:=omega)only[go_sem]
    exact hQ _
   |[a],_,_=>
    simp(disch:=omega)only[go_sem]
    exact hQ _
   |a::b::r,_,c=>exact absurd (show _ from by simp only[List.length_cons]; omega) c
 .simp(disch:=omega)only[go_sem]
  refine Br.aJ (fun c=>absurd c (by omega)) (fun c=>?_)
  simp(disch:=omega)only[go_sem]
  exact hQ _
theorem IG (ar:List aN) (Q:Ex->St->Prop) (hQ:∀env,Q .normal ⟨env,⟨[],ar,[]⟩⟩):W A az F427.body ⟨[(0,.tl [])],⟨[],ar,[]⟩⟩ Q:=by
 simp only[F427,HJ]
 simp(disch:=omega)only[go_sem]
 refine W.eG 0 (fun _=>⟨[(0,.tl []),(2,.pv (.int .i64 0)),(3,.pv (.int .i64 (-1)))],⟨[],ar,[]⟩⟩) (fun _=>True) rfl trivial fun _ _ _=>?_
 simp(disch:=omega)only[go_sem]
 exact hQ _
theorem IH (ar:List aN) (Q:Ex->St->Prop) (hQ:∀env,Q .normal ⟨env,⟨[],ar,[]⟩⟩):W A az F428.body ⟨[(0,.tl [])],⟨[],ar,[]⟩⟩ Q:=by
 simp only[F428,HK]
 simp(disch:=omega)only[go_sem]
 refine W.eG 0 (fun _=>⟨[(0,.tl []),(2,.pv (.int .i64 0)),(3,.pv (.int .i64 (-1)))],⟨[],ar,[]⟩⟩) (fun _=>True) rfl trivial fun _ _ _=>?_
 simp(disch:=omega)only[go_sem]
 exact hQ _
theorem II (ar:List aN) (Q:Ex->St->Prop) (hQ:∀env,Q .normal ⟨env,⟨[],ar,[]⟩⟩):W A az F429.body ⟨[(0,.tl [])],⟨[],ar,[]⟩⟩ Q:=by
 simp only[F429,HL]
 simp(disch:=omega)only[go_sem]
 refine W.eG 0 (fun _=>⟨[(0,.tl []),(2,.pv (.int .i64 0)),(3,.pv (.int .i64 (-1)))],⟨[],ar,[]⟩⟩) (fun _=>True) rfl trivial fun _ _ _=>?_
 simp(disch:=omega)only[go_sem]
 exact hQ _
theorem pe {g:af} {fn:Nat} (ha:A fn=some g) (hn:g.mH=1) (hr:g.results=[]) {v:V} (hv:zh v) {bx:List (Nat×List V)} {ar:List aN} {K:V->Tn->Prop} (h:W A az g.body ⟨[(0,v)],⟨[],ar,[]⟩⟩ (yd [] [] K)):IW A az fn [v] ⟨bx,ar,[]⟩ K:=by
 rw[Ez ha,hr]
 rcases hv with rfl|⟨_,_,_,_,rfl⟩<;>exact⟨hn.symm,_,rfl,_,rfl,h⟩
theorem pg {ar:List aN} {env:List (Nat×V)} {K:V->Tn->Prop} (h:K (.dv []) { all:=some ([],ar,[]) }):yd [] [] K .mk .normal ⟨env,⟨[],ar,[]⟩⟩:=⟨_,rfl,_,rfl,_,rfl,h⟩
theorem Cl {α β:Type} {g:α->β->Bool} {l:List α} {m:List β}:uv g l m=true↔l.length=m.length/\∀(i:Nat) a b,l[i]?=some a->m[i]?=some b->g a b=true:=by
 unfold uv
 rw[X5,decide_eq_true_eq,WI]
 constructor
 .rintro ⟨h1,h2⟩
  exact⟨h1,fun i a b ha hb=>h2 (a,b) (Wr (i:=i) (by rw[Xr]; exact⟨ha,hb⟩))⟩
 .rintro ⟨h1,h2⟩
  refine⟨h1,fun q hq=>?_⟩
  obtain⟨i,hi⟩:=Wt.1 hq
  rw[Xr]at hi
  exact h2 i q.1 q.2 hi.1 hi.2
theorem alike_refl (x:aI):dC x x=true:=eK _
theorem tL.at {A:List aI} (h:tL A) {p:Nat} (hp:p<A.length):eD A p∈A/\TL A.length (oX (eD A p)):=by
 obtain⟨x,hx⟩:=get_some hp
 have hm:=Wr hx
 rw[iX hx]
 exact⟨hm,h.use x hm⟩
theorem Bi {A B:List aI} {S:Nat->Nat->Prop} (hr:∀p q,S p q->p<A.length/\q<B.length) (ha:∀p q,S p q->dC (eD A p) (eD B q)=true)
  (hu:∀(M:List (List Bool)),(∀p q,S p q->fx M p q=true)->∀p q,S p q->FV M (eD A p) (eD B q)=true):∀p q:Nat,S p q->eE A B p q=true:=
 Ba (rL A B (Wy _)) (fun p q h=>by rw[F5 (hr p q h).1 (hr p q h).2]; exact ha p q h) fun M p q hM h=>hu M hM p q h
theorem mj {A:List aI} (hA:tL A) {x:Int} (hx:0<=x/\x<A.length):eE A A x x=true:=by
 obtain⟨p,rfl⟩:=XF hx.1
 refine Bi (S:=fun p q=>p<A.length/\p=q) (fun p q h=>⟨h.1,h.2 ▸ h.1⟩) (fun p q h=>by rw[h.2]; exact alike_refl _) (fun M hM p q h=>?_) p p ⟨by omega,rfl⟩
 obtain⟨h1,rfl⟩:=h
 refine Cl.2 ⟨rfl,fun i u v hu hv=>?_⟩
 rw[hu]at hv
 cases hv
 obtain⟨u0,u1⟩:=(hA.at h1).2 u (Wr hu)
 have:=hM u.2.toNat u.2.toNat ⟨by omega,rfl⟩
 rw[Int.toNat_of_nonneg u0]at this
 exact this
theorem IJ {a b:aL} (ha:a.err=0) (hb:b.err=0):Bf a b=true↔∀j,Ev a.aa b.aa j a.start b.start:=by
 have h0:kH a b=0:=by
  unfold kH
  simp[ha,hb]
 unfold Bf
 rw[h0,<- Gl (mi h0).1 (mi h0).2]
 simp
theorem Gn {a:aL} (ha:a.err=0):Bf a a=true:=(IJ ha ha).2 fun j=>Ev.refl _ j _
theorem DF {α:Type} {p:α->Bool} {m:List α} {d:α} (h:d∈m) (hp:p d=true):∃e∈m,p e=true/\ei p m=some e:=by
 unfold ei
 cases hf:m.findIdx? p with
 |none=>
  rw[Xk]at hf
  rw[hf d h]at hp
  cases hp
 |some j=>
  rw[WM]at hf
  obtain⟨hj,hpj,_⟩:=hf
  exact⟨m[j],List.getElem_mem hj,hpj,by simp⟩
theorem Bj {α:Type} {p:α->Bool} {l:List α} {x:α} (h:ei p l=some x):p x=true:=by
 unfold ei at h
 cases hf:l.findIdx? p with
 |none=>rw[hf]at h; cases h
 |some j=>
  rw[hf]at h
  rw[WM]at hf
  obtain⟨hj,hpj,_⟩:=hf
  simp[List.getElem?_eq_getElem hj]at h
  rw[<- h]
  exact hpj
def tR {α:Type} (f:α->ByteArray) (P:α->α->Bool) (m:List α) (c:α):Bool:=match ei (fun d=>decide (f d=f c)) m with
 |some d=>P c d
 |none=>false
theorem Gp {α β:Type} {f:α->β} {m:List α} (h:(m.map f).Nodup) {x y:α} (hx:x∈m) (hy:y∈m) (e:f x=f y):x=y:=by
 induction m with
 |nil=>simp at hx
 |cons a m ih=>
  rw[XX,List.nodup_cons]at h
  rcases WC.1 hx with hx|hx
  .rcases WC.1 hy with hy|hy
   .rw[hx,hy]
   .exact absurd (Wz.2 ⟨y,hy,by rw[<- e,hx]⟩) h.1
  .rcases WC.1 hy with hy|hy
   .exact absurd (Wz.2 ⟨x,hx,by rw[e,hy]⟩) h.1
   .exact ih h.2 hx hy
theorem tT {α:Type} {f:α->ByteArray} {P:α->α->Bool} {m:List α} (hm:(m.map f).Nodup) {c:α}:tR f P m c=true↔∃d∈m,f d=f c/\P c d=true:=by
 unfold tR
 constructor
 .intro h
  cases hp:ei (fun d=>decide (f d=f c)) m with
  |none=>rw[hp]at h; cases h
  |some d=>
   rw[hp]at h
   exact⟨d,pd hp,of_decide_eq_true (Bj (p:=fun d=>decide (f d=f c)) hp),h⟩
 .rintro ⟨d,hd,e,h⟩
  obtain⟨d',h1,h2,h3⟩:=DF (p:=fun d=>decide (f d=f c)) hd (decide_eq_true e)
  rw[h3]
  have:d'=d:=Gp hm h1 hd (by rw[of_decide_eq_true h2,e])
  rw[this]
  exact h
noncomputable def Gq (A B:List aI) (c d:jG):Bool:=eE A B c.rn d.rn&&eE A B c.rep d.rep
noncomputable def Nk (A B:List aI) (c d:jH):Bool:=eE A B c.ty d.ty
theorem Gr (v w:iY):pc v w=tR jG.name (Gq v.types w.types) w.calls:=by
 funext c
 unfold pc tR
 cases ei (fun d=>decide (d.name=c.name)) w.calls<;>rfl
theorem IK (v w:iY):uz v w=tR jH.name (Nk v.types w.types) w.aS:=by
 funext c
 unfold uz tR
 cases ei (fun d=>decide (d.name=c.name)) w.aS<;>rfl
theorem IL (v w:iY):qh v w=tR dW.name (Ck v w) w.aF:=by
 funext c
 unfold qh tR
 cases ei (fun d=>decide (d.name=c.name)) w.aF<;>rfl
theorem IM {l:List ByteArray} {s:ByteArray} (h:cX l s=false):s∉l:=fun hm=>by
 unfold cX at h
 have:=Xc.1 h s hm
 simp at this
theorem qj {α:Type} {f:α->ByteArray} {l:List α} (h:∀(k:Nat) c,l[k]?=some c->cX ((l.map f).take k) (f c)=false):(l.map f).Nodup:=by
 rw[XY,Xs]
 intro i j hi hj hij e
 rw[Wu]at hi hj
 have:=IM (h j l[j] (Ws hj))
 apply this
 rw[List.mem_take_iff_getElem]
 refine⟨i,by rw[Wu]; omega,?_⟩
 rw[e,List.getElem_map]
theorem cS.B6 {v:iY} (h:cS v):(v.calls.map jG.name).Nodup:=qj fun k c hc=>(qd (h.TP k c hc)).2.1
theorem cS.H3 {v:iY} (h:cS v):(v.aS.map jH.name).Nodup:=qj fun k c hc=>(qe (h.top k c hc)).2.1
theorem cS.H2 {v:iY} (h:cS v):(v.aF.map dW.name).Nodup:=qj fun k c hc=>(vL (h.TQ k c hc)).1
theorem Gs (v w:iY):vS v w=true↔(v.calls.length=w.calls.length/\v.aF.length=w.aF.length/\v.aS.length=w.aS.length)/\v.calls.all (tR jG.name (Gq v.types w.types) w.calls)=true/\v.aS.all (tR jH.name (Nk v.types w.types) w.aS)=true/\v.aF.all (tR dW.name (Ck v w) w.aF)=true:=by
 unfold vS
 rw[Gr,IK,IL]
 simp only[Bool.and_eq_true,decide_eq_true_eq,and_assoc]
theorem vU {v w:iY} (hv:cS v) (tv:tL v.types) (ht:w.types=v.types) (hc:w.calls.length=v.calls.length/\(∀c∈v.calls,c∈w.calls)/\(w.calls.map jG.name).Nodup) (hs:w.aF.length=v.aF.length/\(∀c∈v.aF,c∈w.aF)/\(w.aF.map dW.name).Nodup) (hp:w.aS.length=v.aS.length/\(∀c∈v.aS,c∈w.aS)/\(w.aS.map jH.name).Nodup):vS v w=true:=by
 refine(Gs v w).2 ⟨⟨hc.1.symm,hs.1.symm,hp.1.symm⟩,WI.2 fun c h=>(tT hc.2.2).2 ⟨c,hc.2.1 c h,rfl,?_⟩,WI.2 fun c h=>(tT hp.2.2).2 ⟨c,hp.2.1 c h,rfl,?_⟩,WI.2 fun c h=>(tT hs.2.2).2 ⟨c,hs.2.1 c h,rfl,?_⟩⟩
 .unfold Gq
  rw[ht,mj tv (hv.call c h).1,mj tv (hv.call c h).2]
  rfl
 .unfold Nk
  rw[ht,mj tv (hv.FP c h)]
 .have hg:=hv.rJ c h
  unfold Ck
  rw[Gn hg.au,Bool.and_true]
  refine Cl.2 ⟨rfl,fun i m n hm hn=>?_⟩
  rw[hm]at hn
  cases hn
  unfold Be
  rw[ht,mj tv (hg.ty m (Wr hm)),decide_eq_true rfl]
  rfl
theorem Gt {T:List aI} (hv:cP T=0) (h:∀x∈T,∀m∈x.bc,m.has=true->uq T m.type m.ib.c=true):gk T=0:=by
 unfold gk Ju
 rw[if_neg (by simp[hv])]
 have:T.findIdx? (p5 T)=none:=by
  rw[Xk]
  intro x hx
  unfold p5
  rw[Xc]
  intro m hm
  unfold nk
  cases hh:m.has with
  |false=>simp
  |true=>rw[h x hx m hm hh]; simp
 rw[this]
theorem Gu {T:List aI} {n:Nat} {t:Int} {cs:List PV} (h:mC n cs) (hf:fb T n t cs=true):uq T t cs=true:=by
 classical
 unfold uq
 exact decide_eq_true ⟨n,h,hf⟩
def gb (d:List Node):List aI:=(List.range d.length).map (aU d)
theorem qk {d:List Node} {u:Nat} (hu:u<d.length):(gb d)[u]?=some (aU d u):=by
 unfold gb
 rw[Wv,XI hu]
 rfl
theorem mm {d:List Node} (h0:0<d.length) (c:Nat):jr d c=none↔∀i,i<d.length->¬aK d i<=4:=by
 unfold jr
 rw[Option.map_eq_none_iff,XC]
 constructor
 .intro h i hi hk
  have hc:c%d.length<d.length:=WV _ h0
  refine h ((i+d.length - c%d.length)%d.length) (W4.2 (WV _ h0)) ?_
  have e:(c+(i+d.length - c%d.length)%d.length)%d.length=i:=by
   rw[Nat.add_mod_mod,<- Nat.mod_add_mod,show c%d.length+(i+d.length - c%d.length)=i+d.length by omega,Nat.add_mod_right,X4 hi]
  rw[e]
  exact decide_eq_true hk
 .intro h k _ hk
  exact h _ (WV _ h0) (of_decide_eq_true hk)
theorem Gv (a code:Nat):yM a code∈fP a:=by
 have h:=jM a
 obtain⟨x,hx⟩:=get_some (l:=fP a) (k:=code%(fP a).length) (WV _ h.1)
 unfold yM
 rw[hx]
 exact Wr hx
theorem DG {α:Type} {p:α->Bool} {l:List α} {x:α} (hx:x∈l) (hp:p x=true):0<=bk p l:=by
 unfold bk
 cases h:l.findIdx? p with
 |none=>
  have:=Xk.1 h x hx
  rw[hp]at this
  cases this
 |some k=>simp
theorem Gw {d:List Node} {u code:Nat} (hu:u<d.length) (h:(dP (initK d u) (nodeAt d u) code).2=true):fb (gb d) 1 u (dP (initK d u) (nodeAt d u) code).1.c=true:=by
 have h0:0<d.length:=by omega
 rw[te,if_neg (by omega),Xb,qk hu]
 have hz:∀v:dw,kx v=true↔((v.kind=1\/v.bool=false)/\(v.kind=2\/v.int=0)/\(v.kind=3\/v.str=⟨#[]⟩)/\(v.kind=4\/v.kind=6\/v.id=0)/\(v.kind=8\/v.keys=[])/\(5<=v.kind\/v.items=[])/\(v.kind=5\/v.kind=6\/v.rest=[])):=fun v=>by
  unfold kx
  rw[decide_eq_true_eq]
 have hz8:kx ⟨8,false,0,⟨#[]⟩,0,[],[],[]⟩=true:=(hz _).2 (by simp)
 have hz7:kx ⟨7,false,0,⟨#[]⟩,0,[],[],[]⟩=true:=(hz _).2 (by simp)
 have hz9:kx ⟨9,false,0,⟨#[]⟩,0,[],[],[]⟩=true:=(hz _).2 (by simp)
 rcases dF d u with hk|hk|hk|hk|hk|hk|hk|hk|hk
 .have hi:initK d u=1:=by simp[initK,hk]
  have ht:aU d u=aX 1 ⟨#[]⟩:=by simp[aU,hk]
  rw[hi,ht]
  have:=fun b=>(hz ⟨1,b,0,⟨#[]⟩,0,[],[],[]⟩).2 (by simp)
  simp[dP,bm,aX,gj,this]
 .have hi:initK d u=2:=by simp[initK,hk]
  have ht:aU d u={ aX 2 ⟨#[]⟩ with low:=jF (nodeAt d u),high:=lA (nodeAt d u) }:=by simp[aU,hk]
  rw[hi,ht]
  have:=fun i=>(hz ⟨2,false,i,⟨#[]⟩,0,[],[],[]⟩).2 (by simp)
  have h6:code%((nodeAt d u).b%6+1)<(nodeAt d u).b%6+1:=WV _ (by omega)
  have e:((code:Int)%((nodeAt d u).b%6+1))=((code%((nodeAt d u).b%6+1):Nat):Int):=by simp
  simp[dP,bm,aX,gj,this,lA]
  omega
 .have hi:initK d u=3:=by simp[initK,hk]
  have ht:aU d u={ aX 3 ⟨#[]⟩ with max:=((nodeAt d u).a%4:Nat) }:=by simp[aU,hk]
  rw[hi,ht]
  have:=fun s=>(hz ⟨3,false,0,s,0,[],[],[]⟩).2 (by simp)
  have s1:(⟨#[97]⟩:ByteArray).size=1:=rfl
  have s0:(⟨#[]⟩:ByteArray).size=0:=rfl
  simp[dP,bm,aX,gj,this]
  split<;>simp only[s0,s1]<;>omega
 .have hi:initK d u=4:=by simp[initK,hk]
  have ht:aU d u={ aX 4 (cB u)with syms:=iU (nodeAt d u).a,jR:=decide ((nodeAt d u).b%2=1) }:=by simp[aU,hk]
  rw[hi,ht]
  have:=fun i=>(hz ⟨4,false,0,⟨#[]⟩,i,[],[],[]⟩).2 (by simp)
  have hf:=DG (p:=re (yM (nodeAt d u).a code:Int)) (List.mem_map.2 ⟨_,Gv (nodeAt d u).a code,rfl⟩:ni (yM (nodeAt d u).a code)∈iU (nodeAt d u).a) (by simp[re,ni])
  simp[dP,bm,aX,gj,this]
  exact hf
 .have hi:initK d u=5:=by simp[initK,hk]
  rw[hi]at h
  simp[dP]at h
 .have hi:initK d u=6:=by simp[initK,hk]
  rw[hi]at h
  simp[dP]at h
 .have hi:initK d u=7:=by simp[initK,hk]
  have ht:aU d u={ aX 7 ⟨#[]⟩ with max:=((nodeAt d u).a%4:Nat),elem:=((nodeAt d u).c%d.length:Nat) }:=by simp[aU,hk]
  rw[hi,ht]
  simp[dP,bm,aX,gj,hz7]
  omega
 .rw[nj hk]
  by_cases hn:jr d 0=none
  .have hi:initK d u=7:=by simp[initK,hk,hn]
   rw[if_pos ((mm h0 _).2 ((mm h0 0).1 hn)),hi]
   simp[dP,bm,aX,gj,hz7]
   omega
  .have hi:initK d u=8:=by simp[initK,hk,hn]
   rw[if_neg (fun e=>hn ((mm h0 0).2 ((mm h0 _).1 e))),hi]
   simp[dP,bm,aX,gj,hz8,Da]
   omega
 .have hi:initK d u=9:=by simp[initK,hk]
  have ht:aU d u={ aX 9 ⟨#[]⟩ with elem:=((nodeAt d u).c%d.length:Nat) }:=by simp[aU,hk]
  rw[hi,ht]
  simp[dP,bm,aX,gj,hz9]
theorem DH {d:List Node} {i:Nat} {m:Mem} (h:m∈(aU d i).bc):∃fl,m∈bK d i fl (nodeAt d i).parts 12:=by
 rcases dF d i with hk|hk|hk|hk|hk|hk|hk|hk|hk
 case inr.inr.inr.inr.inr.inl=>
  rw[lE hk]at h
  split at h
  .simp[aX]at h
  .exact⟨false,h⟩
 case inr.inr.inr.inr.inl=>
  have ht:aU d i={ aX 5 (cB i)with bc:=bK d i true (nodeAt d i).parts 12 }:=by simp[aU,hk]
  rw[ht]at h
  exact⟨true,h⟩
 case inr.inr.inr.inr.inr.inr.inr.inl=>
  rw[nj hk]at h
  split at h<;>simp[aX]at h
 all_goals simp[aU,hk,aX]at h
theorem Gx {d:List Node} {i:Nat} (h0:0<d.length) (hi:i<d.length) {m:Mem} (h:m∈(aU d i).bc):∃(fl:Bool) (id:Nat) (p:Part) (u:Nat),m=dA d i fl id p/\cI d i p.type=some u/\u<d.length/\m.type=u:=by
 obtain⟨fl,h⟩:=DH h
 obtain⟨id,p,rfl,hh,_⟩:=kr h
 unfold ng at hh
 cases ht:cI d i p.type with
 |none=>simp[ht]at hh
 |some u=>
  refine⟨fl,id,p,u,rfl,ht,km h0 hi ht,?_⟩
  show fI (cI d i p.type)=u
  rw[ht]
  rfl
theorem zs {d:List Node} (h0:0<d.length) (h5:d.length<=5):gk (gb d)=0:=by
 refine Gt (C5 h0 h5) fun x hx m hm hh=>?_
 obtain⟨i,hi,rfl⟩:=Wz.1 hx
 obtain⟨fl,id,p,u,rfl,ht,hu,ht2⟩:=Gx h0 (W4.1 hi) hm
 have hd:(dA d i fl id p).has=(fl&&(decide (2<=p.flag%4)&&(lD d u p).2)):=by
  unfold dA
  rw[ht]
  rfl
 rw[hd,X5,X5]at hh
 have hv:(dA d i fl id p).ib=(lD d u p).1:=by
  unfold dA
  rw[ht,hh.1,hh.2.1]
  rfl
 rw[hv,ht2]
 have hk:=yR (initK d u) (by
  unfold initK
  split
  .omega
  .exact(dn d u).2) (nodeAt d u) (p.flag/4)
 exact Gu hk (Gw hu hh.2.2)
theorem w4 {d:List Node} {i code u:Nat} (h:cI d i code=some u):7<=aK d u\/u<i:=by
 unfold cI at h
 split at h
 .rename_i hc
  cases h
  exact hc
 .split at h
  .rename_i hi
   cases h
   exact .inr (WV _ hi)
  .have:=XV h
   exact .inl (of_decide_eq_true this)
theorem tU {N:List Int}:∀(l:List Mem) (c:Int),1<=c->(∀m∈l,1<=kL N m.type)->1<=l.foldl (fun c m=>min 2 (c*kL N m.type)) c
 |[],_,h,_=>h
 |m::l,c,h,hm=>tU l _ (by
  have h1:=hm m W1
  have:1<=c*kL N m.type:=by
   have:=Int.mul_le_mul h h1 (by omega) (by omega)
   omega
  show 1<=min 2 (c*kL N m.type)
  omega) fun x hx=>hm x (WK _ hx)
theorem fold_add {N:List Int}:∀(l:List Mem) (c:Int),1<=c->(∀m∈l,1<=kL N m.type)->1<=l.foldl (fun c m=>min 2 (c+kL N m.type)) c
 |[],_,h,_=>h
 |m::l,c,h,hm=>fold_add l _ (by have:=hm m W1; show 1<=min 2 (c+kL N m.type); omega) fun x hx=>hm x (WK _ hx)
theorem Nl {N:List Int} (h:yY N) (i:Int):0<=kL N i:=(h.at i.toNat).1
theorem tV {x:aI} {N:List Int} (h:yY N) (hk:x.kind=7\/x.kind=8\/x.kind=9):1<=jQ false x N:=by
 have:=Nl h x.elem
 unfold jQ
 rcases hk with hk|hk|hk<;>rw[hk]
 .simp only[Int.reduceEq,if_false,if_true]
  split<;>decide
 .simp only[Int.reduceEq,if_false,if_true]
  split<;>decide
 .simp only[Int.reduceEq,if_false,if_true]
  omega
theorem qS {d:List Node} {u:Nat} (h:7<=aK d u):(aU d u).kind=7\/(aU d u).kind=8\/(aU d u).kind=9:=by
 have:=dn d u
 rcases dF d u with hk|hk|hk|hk|hk|hk|hk|hk|hk
 case inr.inr.inr.inr.inr.inr.inr.inl=>
  rw[nj hk]
  split<;>simp[aX]
 all_goals first
  |omega
  |simp[aU,hk,aX]
theorem DI {d:List Node} (h0:0<d.length) {N:List Int} (hN:Fix false (gb d) N):∀i,i<d.length->1<=N.getD i 0:=by
 intro i
 induction i using Nat.strongRecOn with
 |ind i ih=>
  intro hi
  have hc:=hN.2.2 i _ (qk hi)
  rw[hc]
  have hm:∀m∈(aU d i).bc,1<=kL N m.type:=fun m hm=>by
   obtain⟨fl,id,p,u,_,ht,hu,ht2⟩:=Gx h0 hi hm
   unfold kL
   rw[ht2,Xb]
   rcases w4 ht with h7|hlt
   .rw[hN.2.2 u _ (qk hu)]
    exact tV hN.2.1 (qS h7)
   .exact ih u hlt hu
  rcases dF d i with hk|hk|hk|hk|hk|hk|hk|hk|hk
  .have ht:(aU d i).kind=1:=by simp[aU,hk,aX]
   simp[jQ,ht]
  .have ht:(aU d i).kind=2:=by simp[aU,hk,aX]
   simp only[jQ,ht,if_true]
   split<;>decide
  .have ht:(aU d i).kind=3:=by simp[aU,hk,aX]
   simp only[jQ,ht,Int.reduceEq,if_false,if_true]
   split<;>decide
  .have ht:aU d i={ aX 4 (cB i)with syms:=iU (nodeAt d i).a,jR:=decide ((nodeAt d i).b%2=1) }:=by simp[aU,hk]
   have hl:=(jM (nodeAt d i).a).1
   have hl2:(iU (nodeAt d i).a).length=(fP (nodeAt d i).a).length:=Wu _
   rw[ht]
   simp only[jQ,aX,Int.reduceEq,if_false,if_true]
   omega
  .have ht:(aU d i).kind=5:=by simp[aU,hk,aX]
   simp only[jQ,ht,Int.reduceEq,if_false,if_true]
   exact tU _ _ (by decide) hm
  .by_cases he:(bK d i false (nodeAt d i).parts 12).length=0
   .have ht:(aU d i).kind=5:=by rw[lE hk,if_pos he]; rfl
    simp only[jQ,ht,Int.reduceEq,if_false,if_true]
    exact tU _ _ (by decide) hm
   .have ht:(aU d i).kind=6:=by rw[lE hk,if_neg he]; rfl
    have hl:(aU d i).bc.length≠0:=by rw[lE hk,if_neg he]; exact he
    simp only[jQ,ht,Int.reduceEq,if_false,if_true]
    cases hs:(aU d i).bc with
    |nil=>rw[hs]at hl; exact absurd rfl hl
    |cons m l=>
     rw[hs]at hm
     rw[Xy]
     exact fold_add _ _ (by have:=hm m W1; omega) fun x hx=>hm x (WK _ hx)
  all_goals exact tV hN.2.1 (qS (by omega))
theorem zt {d:List Node} (h0:0<d.length) (h5:d.length<=5):iW (gb d)=0:=by
 have hf:=(np false (gb d)).1
 have hp:=DI h0 hf
 unfold iW
 rw[if_neg (by simp[zs h0 h5]),if_pos]
 rw[WI]
 intro b hb
 unfold A2 vG at hb
 obtain⟨x,hx,rfl⟩:=Wz.1 hb
 obtain⟨i,hi⟩:=Wt.1 hx
 have hl:=(Wq.1 hi).1
 have h1:=hf.1
 have h2:(gb d).length=d.length:=by simp[gb]
 have:=hp i (by omega)
 rw[WS,hi]at this
 unfold oV
 simp at this |-
 omega
def w5 (c:UInt8):Prop:=(∀k:Fin 3,isName (fX c k.val)=true)/\∀j k:Fin 3,fX c j.val=fX c k.val->j=k
theorem VP:w5 67:=⟨by decide,by decide⟩
theorem VQ:w5 84:=⟨by decide,by decide⟩
theorem VS:w5 83:=⟨by decide,by decide⟩
theorem PH:w5 77:=⟨by decide,by decide⟩
theorem w5.nm {c:UInt8} (h:w5 c) {k:Nat} (hk:k<3):isName (fX c k)=true:=h.1 ⟨k,hk⟩
theorem w5.inj {c:UInt8} (h:w5 c) {j k:Nat} (hj:j<3) (hk:k<3) (e:fX c j=fX c k):j=k:=by
 have:=h.2 ⟨j,hj⟩ ⟨k,hk⟩ e
 simpa using this
theorem mn {α:Type} {f:α->ByteArray} {l:List α} (h:(l.map f).Nodup) {k:Nat} {c:α} (hc:l[k]?=some c):cX ((l.map f).take k) (f c)=false:=by
 rw[XP]
 intro hh
 obtain⟨i,hi,e⟩:=List.mem_take_iff_getElem.1 (eJ.1 hh)
 rw[Wu]at hi
 obtain⟨hk,e2⟩:=Wq.1 hc
 rw[XY,Xs]at h
 refine h i k (by rw[Wu]; omega) (by rw[Wu]; exact hk) (by omega) ?_
 rw[e,List.getElem_map,e2]
theorem ph {α:Type} {f:α->ByteArray} {c:UInt8} (hc:w5 c) (g:Nat->Option α) (hg:∀i x,g i=some x->f x=fX c i):∀K,K<=3->(((List.range K).filterMap g).map f).Nodup
 |0,_=>by simp
 |K+1,hK=>by
  have ih:=ph hc g hg K (by omega)
  rw[XH,XW,WZ]
  cases hx:g K with
  |none=>simpa [hx]using ih
  |some x=>
   simp only[List.filterMap_cons,hx,List.filterMap_nil,List.map_cons,List.map_nil]
   rw[XO]
   refine⟨ih,by simp,?_⟩
   intro a ha b hb e
   rw[Xi]at hb
   obtain⟨y,hy,rfl⟩:=Wz.1 ha
   obtain⟨i,hi,he⟩:=Xh.1 hy
   have hi:=W4.1 hi
   rw[hb,hg i y he,hg K x hx]at e
   have:=hc.inj (by omega) (by omega) e
   omega
theorem tW {n:Nat} (h:1<=n) (x:Int):dO n (x%n)=false:=by
 have h0:=X7 x (b:=(n:Int)) (by omega)
 have h1:=Int.emod_lt_of_pos x (b:=(n:Int)) (by omega)
 unfold dO
 simp
 omega
theorem Gy {P:Int->Prop} {es:List Edge} {e:Edge} (h:∀x∈es,P x.label) (he:P e.label):∀x∈ns es e,P x.label:=fun x hx=>by
 rcases y8 hx with h1|h1
 .exact h x h1
 .exact h1 ▸ he
theorem Cm {st:Int}:∀(l:List vD) (es:List Edge),(∀x∈es,1<=x.label/\x.label<=3)->∀x∈l.foldl (fun es x=>ns es (x.p9 st)) es,1<=x.label/\x.label<=3
 |[],_,h=>h
 |a::l,es,h=>Cm l _ (Gy (P:=fun x=>1<=x/\x<=3) h (by
  show 1<=1+a.act/2%3/\1+a.act/2%3<=3
  omega))
theorem Gz {d:eo} {e:Edge} (h:e∈d.auto.trim.aa):1<=e.label/\e.label<=3:=by
 obtain⟨x,hx,_,rfl⟩:=aL.tD.1 h
 have hx:=(ku Edge.lt d.raw).subset hx
 exact Cm (d.gJ.take 12) [] (fun y hy=>by simp at hy) x hx
theorem DJ {T:List aI} {u:Int} (h:u∈dB T T.length):0<=u/\u<T.length:=by
 unfold dB at h
 obtain⟨i,hi,rfl⟩:=Wz.1 h
 have:=W4.1 (Xx.1 hi).1
 omega
theorem GA {T:List aI} {s:vN} {i:Nat} (hi:i<3) (hN:dB T T.length≠[]) (hg:s.a.auto.Good):tG T.length ⟨fX 83 i,ep (dB T T.length) s,s.a.auto.trim⟩=0:=by
 have n0:=PH.nm (k:=0) (by omega)
 have n1:=PH.nm (k:=1) (by omega)
 have n2:=PH.nm (k:=2) (by omega)
 have d01:fX 77 0≠fX 77 1:=fun e=>by have:=PH.inj (by omega) (by omega) e; omega
 have d02:fX 77 0≠fX 77 2:=fun e=>by have:=PH.inj (by omega) (by omega) e; omega
 have d12:fX 77 1≠fX 77 2:=fun e=>by have:=PH.inj (by omega) (by omega) e; omega
 have hp:=fun x=>DJ (Wr (vO hN x).2)
 unfold tG
 have hm:lL ⟨fX 83 i,ep (dB T T.length) s,s.a.auto.trim⟩=true:=by
  unfold lL ep
  simp[VS.nm hi,List.range_succ,vJ,Ce,vI,n0,n1,n2,cX,d01,d02,d12]
 rw[if_neg (by simp[ep]),if_neg (by rw[hm]; decide),if_neg,if_neg,if_neg,if_neg]
 .rw[hg.AP]
  unfold iota
  rw[Wu,W3]
  simp[aL.trim]
 .intro h
  obtain⟨e,he,hn⟩:=XB.1 h
  have:=Gz he
  have hl:e.label=1\/e.label=2\/e.label=3:=by omega
  rcases hl with hl|hl|hl<;>simp[ep,lK,hl]at hn
 .intro h
  exact h (aL.iV.2 hg.trim)
 .intro h
  obtain⟨m,hm,hn⟩:=XB.1 h
  unfold dO at hn
  have:∃x,m.ty=fY (dB T T.length) x:=by
   unfold ep at hm
   simp only[List.mem_cons,List.not_mem_nil,or_false]at hm
   rcases hm with rfl|rfl|rfl
   .exact⟨_,rfl⟩
   .exact⟨_,rfl⟩
   .exact⟨_,rfl⟩
  obtain⟨x,hx⟩:=this
  have:=hp x
  rw[hx]at hn
  simp at hn
  omega
theorem GB {nm:ByteArray} {d:Dq} {v:iY} (hn:isName nm=true) (hd:d.ok) (h:M8 nm d=some v):cS v:=by
 unfold M8 at h
 split at h
 rotate_left
 .cases h
 rename_i hc
 obtain⟨c1,c2,c3,c4⟩:=hc
 cases h
 have hD:¬(d.s.length<1\/5<d.s.length):=by
  intro hx
  unfold rf at c1
  rw[if_pos hx]at c1
  cases c1
 have hT:(rf d.s).1=gb d.s:=by
  unfold rf
  rw[if_neg hD]
  rfl
 have hl:(gb d.s).length=d.s.length:=by simp[gb]
 rw[hT]
 have l1:(er (gb d.s).length d.calls d.calls.length).length<=3:=Xg (eL _ _) c2
 have l2:(fZ (gb d.s) d.aF d.aF.length).length<=2:=Xg (eL _ _) c3
 have l3:(gT (gb d.s).length d.aS d.aS.length).length<=3:=Xg (eL _ _) c4
 have q1:((er (gb d.s).length d.calls d.calls.length).map jG.name).Nodup:=ph VP _ (fun i x hx=>by
  obtain⟨y,_,rfl⟩:=WW.1 hx
  rfl) _ c2
 have q2:((fZ (gb d.s) d.aF d.aF.length).map dW.name).Nodup:=ph VS _ (fun i x hx=>by
  obtain⟨y,_,hx⟩:=X6.1 hx
  unfold uu at hx
  split at hx
  .cases hx
   rfl
  .cases hx) _ (by omega)
 have q3:((gT (gb d.s).length d.aS d.aS.length).map jH.name).Nodup:=ph VQ _ (fun i x hx=>by
  obtain⟨y,_,rfl⟩:=WW.1 hx
  rfl) _ c4
 refine⟨⟨by dsimp only; omega,by dsimp only; omega,by dsimp only; omega⟩,hn,zt (by omega) (by omega),fun k c hk=>?_,fun k c hk=>?_,fun k c hk=>?_⟩
 .have hh:=mn q1 hk
  obtain⟨i,hi,he⟩:=Xh.1 (Wr hk)
  have hi:=W4.1 hi
  obtain⟨y,_,rfl⟩:=WW.1 he
  unfold rh
  dsimp only at hh |-
  rw[if_neg (by rw[VP.nm (by omega)]; decide),hh,if_neg (by decide),tW (by omega),tW (by omega)]
  rfl
 .have hh:=mn q2 hk
  obtain⟨i,s,hi,_,hN,rfl,hg⟩:=zk c3 hd.w c (Wr hk)
  unfold qc
  dsimp only at hh |-
  rw[hh,if_neg (by decide)]
  exact GA (by omega) hN hg
 .have hh:=mn q3 hk
  obtain⟨i,hi,he⟩:=Xh.1 (Wr hk)
  have hi:=W4.1 hi
  obtain⟨y,_,rfl⟩:=WW.1 he
  unfold qb
  dsimp only at hh |-
  rw[if_neg (by rw[VQ.nm (by omega)]; decide),hh,if_neg (by decide),tW (by omega)]
  rfl
theorem DK {k:Nat} {rows:List (List PV)} (hr:∀r∈rows,r.length=k) (hm:rows.length<=2147483648):(rows=[]/\∀h,aZ k [.pv (.aq 0 rows)] h=some (.tl [],{}))\/(rows≠[]/\∀h,aZ k [.pv (.aq 0 rows)] h=some (.own h.ar.length 0 0 rows.length,{ push:=[⟨0,k,.inl rows⟩],base:=h.ar.length })):=by
 have hf:aP k (.inl rows)=true:=by
  simp only[aP,List.all_eq_true,beq_iff_eq]
  exact hr
 by_cases h0:rows=[]
 .subst h0
  exact .inl ⟨rfl,fun h=>by simp[aZ,aW,aP]⟩
 .refine .inr ⟨h0,fun h=>?_⟩
  have hl:¬rows.length=0:=fun e=>h0 (WL e)
  have h01:(0:Nat)<=1:=by decide
  simp[aZ,aW,hf,hl,aQ,hm]
theorem Bk {α:Type} (c:α->List PV) {k:Nat} (hk:∀x,(c x).length=k) {l:List α} (hm:l.length<=2147483648):(l=[]/\∀h,aZ k [.pv (.aq 0 (l.map c))] h=some (.tl [],{}))\/(l≠[]/\∀h,aZ k [.pv (.aq 0 (l.map c))] h=some (.own h.ar.length 0 0 l.length,{ push:=[⟨0,k,.inl (l.map c)⟩],base:=h.ar.length })):=by
 rcases DK (k:=k) (rows:=l.map c) (fun r hr=>by obtain⟨x,_,rfl⟩:=Wz.1 hr; exact hk x) (by rw[Wu]; omega)with⟨h0,hc⟩|⟨h0,hc⟩
 .cases l with
  |nil=>exact .inl ⟨rfl,hc⟩
  |cons x r=>simp at h0
 .rw[Wu]at hc
  exact .inr ⟨fun h=>h0 (by rw[h]; rfl),hc⟩
theorem zu {v w:iY} (hv:cS v) (hw:cS w) (h:vS v w=true):(vT v w).1=true/\(vT v w).2=0:=by
 unfold vT
 rw[if_neg (by rw[hv.err]; decide),if_neg (by rw[hw.err]; decide)]
 exact⟨h,rfl⟩
theorem mq {α:Type} {f:α->ByteArray} {l:List α} (h:(l.map f).Nodup):l.reverse.length=l.length/\(∀c∈l,c∈l.reverse)/\(l.reverse.map f).Nodup:=⟨XJ,fun _ h=>List.mem_reverse.2 h,by rw[List.map_reverse,XY,List.pairwise_reverse]; exact(XY.1 h).imp fun h=>Ne.symm h⟩
def zw (nm:ByteArray) (v:iY):iY:=⟨nm,v.types,v.calls.reverse,v.aF.reverse,v.aS.reverse⟩
theorem cS.of {v:iY} (HP:v.calls.length<=8/\v.aF.length<=8/\v.aS.length<=8) (nm:isName v.name=true) (sound:iW v.types=0)
  (c:(v.calls.map jG.name).Nodup/\∀c∈v.calls,isName c.name=true/\(0<=c.rn/\c.rn<v.types.length)/\0<=c.rep/\c.rep<v.types.length)
  (s:(v.aF.map dW.name).Nodup/\∀w∈v.aF,tG v.types.length w=0)
  (t:(v.aS.map jH.name).Nodup/\∀c∈v.aS,isName c.name=true/\0<=c.ty/\c.ty<v.types.length):cS v:=by
 have ho:∀{n:Nat} {u:Int},0<=u/\u<n->dO n u=false:=fun h=>by
  unfold dO
  simp
  omega
 refine⟨HP,nm,sound,fun k x hk=>?_,fun k x hk=>?_,fun k x hk=>?_⟩
 .obtain⟨h1,h2,h3⟩:=c.2 x (Wr hk)
  unfold rh
  rw[if_neg (by rw[h1]; decide),mn c.1 hk,if_neg (by decide),ho h2,ho h3]
  rfl
 .unfold qc
  rw[mn s.1 hk,if_neg (by decide)]
  exact s.2 x (Wr hk)
 .obtain⟨h1,h2⟩:=t.2 x (Wr hk)
  unfold qb
  rw[if_neg (by rw[h1]; decide),mn t.1 hk,if_neg (by decide),ho h2]
  rfl
theorem cS.cg {v:iY} (h:cS v):∀c∈v.calls,isName c.name=true/\(0<=c.rn/\c.rn<v.types.length)/\0<=c.rep/\c.rep<v.types.length:=fun c hc=>by
 obtain⟨k,hk⟩:=Wt.1 hc
 have:=qd (h.TP k c hk)
 exact⟨this.1,this.2.2⟩
theorem cS.cQ {v:iY} (h:cS v):∀c∈v.aS,isName c.name=true/\0<=c.ty/\c.ty<v.types.length:=fun c hc=>by
 obtain⟨k,hk⟩:=Wt.1 hc
 have:=qe (h.top k c hk)
 exact⟨this.1,this.2.2⟩
theorem cS.Ve {v:iY} (h:cS v):∀w∈v.aF,tG v.types.length w=0:=fun c hc=>by
 obtain⟨k,hk⟩:=Wt.1 hc
 have:=h.TQ k c hk
 unfold qc at this
 split at this
 .cases this
 .exact this
theorem DL {nm:ByteArray} {v:iY} (hn:isName nm=true) (h:cS v):cS (zw nm v):=
 .of (by have:=h.HP; simp only[zw,List.length_reverse]; exact this) hn h.sound ⟨(mq h.B6).2.2,fun c hc=>h.cg c (List.mem_reverse.1 hc)⟩ ⟨(mq h.H2).2.2,fun c hc=>h.Ve c (List.mem_reverse.1 hc)⟩ ⟨(mq h.H3).2.2,fun c hc=>h.cQ c (List.mem_reverse.1 hc)⟩
theorem Bl {nm:ByteArray} {v:iY} (hn:bu nm) (h:nu v):nu (zw nm v):=
 ⟨hn,h.tl,h.to,h.ts,by rw[show (zw nm v).calls.length=_ from XJ]; exact h.cl,fun c hc=>h.cs c (List.mem_reverse.1 hc),by rw[show (zw nm v).aF.length=_ from XJ]; exact h.sl,fun c hc=>h.ss c (List.mem_reverse.1 hc),by rw[show (zw nm v).aS.length=_ from XJ]; exact h.pl,fun c hc=>h.ps c (List.mem_reverse.1 hc)⟩
set_option maxHeartbeats 16000000 in
theorem r402 (r404:res A az 404 []=some [.bool true]) (d:Dq) (hd:d.ok):res A az 402 [.agg d.c]=some [.bool true]:=by
 refine aw a402 rfl rfl ?_
 simp only[F402,Ly]
 have h419:=r419 ⟨#[118,49]⟩ d hd
 cases ho:M8 ⟨#[118,49]⟩ d with
 |none=>
  rw[ho]at h419
  simp only[Dq.c]at h419 |-
  simp(disch:=omega)only[go_sem,r404,h419]
 |some v=>
  rw[ho]at h419
  obtain⟨hv,l1,l2,l3,l4,l5⟩:=Ds (by unfold bu; decide) hd ho
  have hg:=GB (by decide) hd ho
  have hx:=Bl (nm:=⟨#[118,50]⟩) (by unfold bu; decide) hv
  have hgx:=DL (nm:=⟨#[118,50]⟩) (by decide) hg
  have tv:=(hg.vt hv).ub
  have e1:=zu hg hg (vU hg tv rfl ⟨rfl,fun _ h=>h,hg.B6⟩ ⟨rfl,fun _ h=>h,hg.H2⟩ ⟨rfl,fun _ h=>h,hg.H3⟩)
  have e2:=zu hg hgx (vU hg tv rfl (mq hg.B6) (mq hg.H2) (mq hg.H3))
  have h1:=r421 0 0 0 0 0 0 0 0 v v hv hv
  have h2:=fun u2 u3 u4=>r421 0 0 0 0 0 u2 u3 u4 v (zw ⟨#[118,50]⟩ v) hv hx
  rw[e1.1,e1.2]at h1
  rw[e2.1,e2.2]at h2
  clear e1 e2 hgx hg tv hx hv ho
  obtain⟨nm,T,C,S,P⟩:=v
  simp only[Dq.c,lF,zw]at *
  have eC:(C=[]/\∀h,aZ 3 [.pv (.aq 0 (cg C))] h=some (.tl [],{}))\/(C≠[]/\∀h,aZ 3 [.pv (.aq 0 (cg C))] h=some (.own h.ar.length 0 0 C.length,{ push:=[⟨0,3,.inl (cg C)⟩],base:=h.ar.length })):=Bk jG.c (fun _=>rfl) (by omega)
  have eS:(S=[]/\∀h,aZ 5 [.pv (.aq 0 (aF S))] h=some (.tl [],{}))\/(S≠[]/\∀h,aZ 5 [.pv (.aq 0 (aF S))] h=some (.own h.ar.length 0 0 S.length,{ push:=[⟨0,5,.inl (aF S)⟩],base:=h.ar.length })):=Bk dW.c (fun _=>rfl) (by omega)
  have eP:(P=[]/\∀h,aZ 2 [.pv (.aq 0 (cQ P))] h=some (.tl [],{}))\/(P≠[]/\∀h,aZ 2 [.pv (.aq 0 (cQ P))] h=some (.own h.ar.length 0 0 P.length,{ push:=[⟨0,2,.inl (cQ P)⟩],base:=h.ar.length })):=Bk jH.c (fun _=>rfl) (by omega)
  have tC:(cg C.reverse).take C.length=cg C.reverse:=WU (by rw[sT,XJ]; exact Wy _)
  have tS:(aF S.reverse).take S.length=aF S.reverse:=WU (by rw[ES,XJ]; exact Wy _)
  have tP:(cQ P.reverse).take P.length=cQ P.reverse:=WU (by rw[yx,XJ]; exact Wy _)
  have nC:cg ([]:List jG)=[]:=rfl
  have nS:aF ([]:List dW)=[]:=rfl
  have nP:cQ ([]:List jH)=[]:=rfl
  rcases eC with⟨rfl,eC⟩|⟨_,eC⟩<;>rcases eS with⟨rfl,eS⟩|⟨_,eS⟩<;>rcases eP with⟨rfl,eP⟩|⟨_,eP⟩
  all_goals
   simp(disch:=omega)only[go_sem,r404,h419,eC,eS,eP]
   first
    |refine pe a427 rfl rfl (.inl rfl) (IG _ _ fun _=>pg ?_)
    |refine pe a427 rfl rfl (.inr ⟨_,_,_,_,rfl⟩) (Nj (AR:=fun R=>⟨0,3,.inl (cg R)⟩::_) (fun _=>rfl) (fun _ _=>rfl) C l2 _ fun _=>pg ?_)
   simp(disch:=omega)only[go_sem]
   first
    |refine pe a428 rfl rfl (.inl rfl) (IH _ _ fun _=>pg ?_)
    |refine pe a428 rfl rfl (.inr ⟨_,_,_,_,rfl⟩) (Gm (AR:=fun R=>⟨0,5,.inl (aF R)⟩::_) (fun _=>rfl) (fun _ _=>rfl) S (by omega) _ fun _=>pg ?_)
    |refine pe a428 rfl rfl (.inr ⟨_,_,_,_,rfl⟩) (Gm (AR:=fun R=>_::⟨0,5,.inl (aF R)⟩::_) (fun _=>rfl) (fun _ _=>rfl) S (by omega) _ fun _=>pg ?_)
   simp(disch:=omega)only[go_sem]
   first
    |refine pe a429 rfl rfl (.inl rfl) (II _ _ fun _=>pg ?_)
    |refine pe a429 rfl rfl (.inr ⟨_,_,_,_,rfl⟩) (Bh (AR:=fun R=>⟨0,2,.inl (cQ R)⟩::_) (fun _=>rfl) (fun _ _=>rfl) P l4 _ fun _=>pg ?_)
    |refine pe a429 rfl rfl (.inr ⟨_,_,_,_,rfl⟩) (Bh (AR:=fun R=>_::⟨0,2,.inl (cQ R)⟩::_) (fun _=>rfl) (fun _ _=>rfl) P l4 _ fun _=>pg ?_)
    |refine pe a429 rfl rfl (.inr ⟨_,_,_,_,rfl⟩) (Bh (AR:=fun R=>_::_::⟨0,2,.inl (cQ R)⟩::_) (fun _=>rfl) (fun _ _=>rfl) P l4 _ fun _=>pg ?_)
   simp(disch:=omega)only[go_sem,h1]
   try simp only[List.reverse_nil,nC,nS,nP]at h2
   simp(disch:=omega)only[go_sem,nC,nS,nP,tC,tS,tP,h2]
theorem r404:res A az 404 []=some [.bool true]:=jA.2 ⟨3000,by kernel_rfl⟩
variable {P:Program}
theorem qT {n:Nat} {t:TypeId} {cs:List PV} (hu:P.underlying t=some (.int .u8)) (h:typed P n t cs):∃x:Nat,cs=[.int .u8 x]/\x<=255:=by
 cases n with
 |zero=>exact h.elim
 |succ n=>
  obtain⟨x,rfl,h1,h2⟩:=CP hu h
  have h1:(0:Int)<=x:=h1
  have h2:x<=(255:Int):=h2
  refine⟨x.toNat,?_,by omega⟩
  rw[Int.toNat_of_nonneg h1]
structure tX (P:Program) (dr nd pt ln lp t8:TypeId):Prop where
 u:P.underlying t8=some (.int .u8)
 n:P.underlying ln=some (.slice nd)
 p:P.underlying lp=some (.slice pt)
 d:∃fs,P.underlying dr=some (.struct fs)/\fs.toList.map (·.type)=[ln]
 x:∃fs,P.underlying nd=some (.struct fs)/\fs.toList.map (·.type)=[t8,t8,t8,t8,lp]
 q:∃fs,P.underlying pt=some (.struct fs)/\fs.toList.map (·.type)=[t8,t8,t8]
section
variable {dr nd pt ln lp t8:TypeId}
theorem Bm (T:tX P dr nd pt ln lp t8) {n:Nat} {cs:List PV} (h:typed P n pt cs):∃p:Part,cs=p.c/\p.ok:=by
 cases n with
 |zero=>exact h.elim
 |succ n=>
  obtain⟨fs,hu,hts⟩:=T.q
  obtain⟨r0,q0,rfl,h0,r1,q1,rfl,h1,r2,q2,rfl,h2,rfl⟩:=dJ hu hts h
  obtain⟨a,rfl,ha⟩:=qT T.u h0
  obtain⟨b,rfl,hb⟩:=qT T.u h1
  obtain⟨c,rfl,hc⟩:=qT T.u h2
  exact⟨⟨a,b,c⟩,rfl,ha,hb,hc⟩
theorem Bn (T:tX P dr nd pt ln lp t8) {n:Nat} {cs:List PV} (h:typed P n nd cs):∃x:Node,cs=x.cs/\x.ok:=by
 cases n with
 |zero=>exact h.elim
 |succ n=>
  obtain⟨fs,hu,hts⟩:=T.x
  obtain⟨r0,q0,rfl,h0,r1,q1,rfl,h1,r2,q2,rfl,h2,r3,q3,rfl,h3,r4,q4,rfl,h4,rfl⟩:=dJ hu hts h
  obtain⟨k,rfl,hk⟩:=qT T.u h0
  obtain⟨a,rfl,ha⟩:=qT T.u h1
  obtain⟨b,rfl,hb⟩:=qT T.u h2
  obtain⟨c,rfl,hc⟩:=qT T.u h3
  obtain⟨ps,rfl,hl,hp⟩:=jK T.p (fun m cs _ hh=>Bm T hh) h4
  exact⟨⟨k,a,b,c,ps⟩,by simp[Node.cs],⟨hk,ha,hb,hc⟩,hl,hp⟩
theorem zx (T:tX P dr nd pt ln lp t8) {n:Nat} {cs:List PV} (h:typed P n dr cs):∃d:List Node,cs=[.aq 0 (d.map Node.cs)]/\bN d/\∀x∈d,x.ok:=by
 cases n with
 |zero=>exact h.elim
 |succ n=>
  obtain⟨fs,hu,hts⟩:=T.d
  obtain⟨r0,q0,rfl,h0,rfl⟩:=dJ hu hts h
  obtain⟨l,rfl,k,g⟩:=jK T.n (fun m cs _ hh=>Bn T hh) h0
  exact⟨l,by simp,k,g⟩
end
end Go.Pv
namespace Go.Pv
variable {P:Program}
structure DM (P:Program) (vd sd lc cl ls ss ad la ar a3 lt t8:TypeId):Prop where
 u:P.underlying t8=some (.int .u8)
 v:∃fs,P.underlying vd=some (.struct fs)/\fs.toList.map (·.type)=[sd,lc,ls,lt]
 lc:P.underlying lc=some (.slice cl)
 c:P.underlying cl=some (.array 2 t8)
 ls:P.underlying ls=some (.slice ss)
 s:∃fs,P.underlying ss=some (.struct fs)/\fs.toList.map (·.type)=[ad,a3]
 a:∃fs,P.underlying ad=some (.struct fs)/\fs.toList.map (·.type)=[t8,la]
 la:P.underlying la=some (.slice ar)
 r:∃fs,P.underlying ar=some (.struct fs)/\fs.toList.map (·.type)=[t8,t8,t8]
 b:P.underlying a3=some (.array 3 t8)
 lt:P.underlying lt=some (.slice t8)
section
variable {vd sd lc cl ls ss ad la ar a3 lt t8 nd pt ln lp:TypeId}
theorem jw {n:Nat} {t:TypeId} {cs:List PV} (hu:P.underlying t=some (.int .u8)) (h:typed P n t cs):∃x:Int,cs=[.int .u8 x]/\M7 x:=by
 obtain⟨x,rfl,hx⟩:=qT hu h
 exact⟨x,rfl,by unfold M7; omega⟩
theorem DN (T:DM P vd sd lc cl ls ss ad la ar a3 lt t8) {n:Nat} {cs:List PV} (h:typed P n cl cs):∃c:Int×Int,cs=PC c/\M7 c.1/\M7 c.2:=by
 cases n with
 |zero=>exact h.elim
 |succ n=>
  obtain⟨r0,q0,rfl,h0,r1,q1,rfl,h1,rfl⟩:=qH T.c h
  obtain⟨x,rfl,hx⟩:=jw T.u h0
  obtain⟨y,rfl,hy⟩:=jw T.u h1
  exact⟨(x,y),rfl,hx,hy⟩
theorem DO (T:DM P vd sd lc cl ls ss ad la ar a3 lt t8) {n:Nat} {cs:List PV} (h:typed P n ar cs):∃x:vD,cs=x.c/\x.ok:=by
 cases n with
 |zero=>exact h.elim
 |succ n=>
  obtain⟨fs,hu,hts⟩:=T.r
  obtain⟨r0,q0,rfl,h0,r1,q1,rfl,h1,r2,q2,rfl,h2,rfl⟩:=dJ hu hts h
  obtain⟨x,rfl,hx⟩:=jw T.u h0
  obtain⟨y,rfl,hy⟩:=jw T.u h1
  obtain⟨z,rfl,hz⟩:=jw T.u h2
  exact⟨⟨x,y,z⟩,rfl,hx,hy,hz⟩
theorem DP (T:DM P vd sd lc cl ls ss ad la ar a3 lt t8) {n:Nat} {cs:List PV} (h:typed P n ad cs):∃d:eo,cs=[.int .u8 d.n,.aq 0 (d.gJ.map vD.c)]/\d.ok:=by
 cases n with
 |zero=>exact h.elim
 |succ n=>
  obtain⟨fs,hu,hts⟩:=T.a
  obtain⟨r0,q0,rfl,h0,r1,q1,rfl,h1,rfl⟩:=dJ hu hts h
  obtain⟨x,rfl,hx⟩:=jw T.u h0
  obtain⟨l,rfl,hl,ho⟩:=jK T.la (fun m cs _ h=>DO T h) h1
  exact⟨⟨x,l⟩,rfl,hx,hl,ho⟩
theorem DQ (T:DM P vd sd lc cl ls ss ad la ar a3 lt t8) {n:Nat} {cs:List PV} (h:typed P n ss cs):∃s:vN,cs=s.c/\s.ok:=by
 cases n with
 |zero=>exact h.elim
 |succ n=>
  obtain⟨fs,hu,hts⟩:=T.s
  obtain⟨r0,q0,rfl,h0,r1,q1,rfl,h1,rfl⟩:=dJ hu hts h
  obtain⟨d,rfl,hd⟩:=DP T h0
  cases n with
  |zero=>exact h1.elim
  |succ n=>
   obtain⟨r3,q3,rfl,g0,r4,q4,rfl,g1,r5,q5,rfl,g2,rfl⟩:=qH T.b h1
   obtain⟨x,rfl,hx⟩:=jw T.u g0
   obtain⟨y,rfl,hy⟩:=jw T.u g1
   obtain⟨z,rfl,hz⟩:=jw T.u g2
   exact⟨⟨d,x,y,z⟩,rfl,hd,hx,hy,hz.1,hz.2⟩
theorem DR (T:DM P vd sd lc cl ls ss ad la ar a3 lt t8) (U:tX P sd nd pt ln lp t8) {n:Nat} {cs:List PV} (h:typed P n vd cs):∃d:Dq,cs=d.c/\d.ok:=by
 cases n with
 |zero=>exact h.elim
 |succ n=>
  obtain⟨fs,hu,hts⟩:=T.v
  obtain⟨r0,q0,rfl,h0,r1,q1,rfl,h1,r2,q2,rfl,h2,r3,q3,rfl,h3,rfl⟩:=dJ hu hts h
  obtain⟨s,rfl,hl,ho⟩:=zx U h0
  obtain⟨c,rfl,hc,hco⟩:=jK T.lc (fun m cs _ h=>DN T h) h1
  obtain⟨w,rfl,hw,hwo⟩:=jK T.ls (fun m cs _ h=>DQ T h) h2
  obtain⟨t,rfl,ht,hto⟩:=jK (c:=PD) T.lt (fun m cs _ h=>jw T.u h) h3
  exact⟨⟨s,c,w,t⟩,rfl,ho,hl,hco,hc,hwo,hw,hto,ht⟩
end
end Go.Pv
