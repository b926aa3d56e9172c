/-
 What the functions of the law give.
-/
import Derived.Test.YtpchfogcccagjaaGreatC9
set_option linter.unusedSimpArgs false
set_option linter.unusedVariables false
open List renaming mem_of_getElem? → Wa, length_map → Wg, all_eq_true → Wu, any_eq_false → WY, any_eq_true → Xm, mem_map_of_mem → abQ
open Bool renaming true_and → WZ, false_and → Xu, and_false → abu, eq_false_iff → Xz
open Option renaming isSome_iff_exists → abq
namespace Go.Pv
noncomputable def tA (v w:ij) (c:Cal):Bool:=match jf (fun d=>decide (d.name=c.name)) w.calls with
 |some d=>gG v.types w.types c.ud d.ud&&gG v.types w.types c.rep d.rep
 |none=>false
noncomputable def zh (v w:ij) (c:Tpc):Bool:=match jf (fun d=>decide (d.name=c.name)) w.aT with
 |some d=>gG v.types w.types c.ty d.ty
 |none=>false
noncomputable def Du (v w:ij) (m n:gI):Bool:=decide (m.id=n.id)&&gG v.types w.types m.ty n.ty
def Ic (a b:aP):Bool:=decide (mC a b=0)&&!(a.B8 b false).isSome
noncomputable def Sd (v w:ij) (x y:eE):Bool:=wM (Du v w) x.msgs y.msgs&&Ic x.auto y.auto
noncomputable def tB (v w:ij) (x:eE):Bool:=match jf (fun d=>decide (d.name=x.name)) w.aG with
 |some y=>Sd v w x y
 |none=>false
noncomputable def FZ (v w:ij):Bool:=(decide (v.calls.length=w.calls.length)&&decide (v.aG.length=w.aG.length)&&decide (v.aT.length=w.aT.length))&&(v.calls.all (tA v w)&&v.aT.all (zh v w)&&v.aG.all (tB v w))
noncomputable def vE (v w:ij):Bool×Int:=if acw v≠0 then (false,acw v) else if acw w≠0 then (false,acw w) else (FZ v w,0)
theorem A5 {α:Type} {f:α->Bool} {l:List α} (h:l.any (fun x=>!f x)=true):l.all f=false:=by
 obtain⟨x,hx,hn⟩:=Xm.1 h
 rw[Xz]
 intro h2
 have:=Wu.1 h2 x hx
 rw[this]at hn
 cases hn
theorem wS {α:Type} {f:α->Bool} {l:List α} (h:l.any (fun x=>!f x)=false):l.all f=true:=by
 rw[Wu]
 intro x hx
 have:=WY.1 h x hx
 simpa using this
theorem cH.vt {v:ij} (h:cH v) (hv:iX v):VT v.types:=⟨hv.tl,hv.to,fun t ht=>abK ((eZ h.valid).own t ht),h.valid⟩
theorem tC {α:Type} {p:α->Bool} {l:List α} {x:α} (h:jf p l=some x):x∈l:=by
 unfold jf at h
 cases hf:l.findIdx? p with
 |none=>rw[hf]at h; cases h
 |some j=>rw[hf]at h; exact Wa h
theorem r455 (s s' t1 t2 t3 t4 u1 u2 u3 u4:Nat) (v w:ij) (x y:Int) (hA:VT v.types) (hB:VT w.types) (hx:0<=x/\x<v.types.length) (hy:0<=y/\y<w.types.length):res A aA 455 [.int .i64 x,.int .i64 y,.ro s (lB t1 t2 t3 t4 v),.ro s' (lB u1 u2 u3 u4 w)]=some [.bool (gG v.types w.types x y)]:=by
 have h1:=fun t u=>r456 t u v.types w.types x y hA hB hx hy
 refine aw a455 rfl rfl ?_
 simp only[F455,Lq,lB]
 simp(disch:=omega)only[go_sem,h1]
set_option maxHeartbeats 16000000 in
theorem r421 (t1 t2 t3 t4 u1 u2 u3 u4:Nat) (v w:ij) (hv:iX v) (hw:iX w):res A aA 421 [.agg (lB t1 t2 t3 t4 v),.agg (lB u1 u2 u3 u4 w)]=some [.bool (vE v w).1,.int .i64 (vE v w).2]:=by
 have h407:=r407 t1 t2 t3 t4 v hv
 have h407':=r407 u1 u2 u3 u4 w hw
 have l1:=hv.cl
 have l2:=hv.sl
 have l3:=hv.pl
 have m1:=hw.cl
 have m2:=hw.sl
 have m3:=hw.pl
 have h410:=fun nm=>r410 u1 u2 u3 u4 w nm hw.cl
 have h414:=fun nm=>r414 u1 u2 u3 u4 w nm hw.pl
 have h455:=fun s s' x y=>r455 s s' t1 t2 t3 t4 u1 u2 u3 u4 v w x y
 unfold vE
 refine aw a421 rfl rfl ?_
 simp only[F421,Ld,lB]at *
 simp(disch:=omega)only[go_sem,h407]
 refine Br.aJ (fun c=>?_) (fun c=>?_)<;>simp(disch:=omega)only[go_sem]
 rotate_left
 .rw[if_pos c]
 rw[if_neg (by simp[c])]
 simp(disch:=omega)only[go_sem,h407']
 refine Br.aJ (fun c'=>?_) (fun c'=>?_)<;>simp(disch:=omega)only[go_sem]
 rotate_left
 .rw[if_pos c']
 rw[if_neg (by simp[c'])]
 have gv:=vj c
 have gw:=vj c'
 have tv:=gv.vt hv
 have tw:=gw.vt hw
 have hm:∀z∈w.aG,z.msgs.length<=2147483648/\z.auto.af.length<=2147483648:=fun z hz=>by
  have h1:=(gw.wK z hz).zn
  have h2:=(hw.ss z hz).2.2.2
  omega
 have h412:=fun nm=>r412 u1 u2 u3 u4 w nm hw.sl hm
 simp only[lB]at h412
 unfold FZ
 cases d1:decide ((v.calls.length:Int)=w.calls.length)with
 |false=>
  have:=of_decide_eq_false d1
  rw[decide_eq_false (show ¬v.calls.length=w.calls.length by omega)]
  simp(disch:=omega)only[go_sem,d1]
 |true=>
 have d1':=of_decide_eq_true d1
 cases d2:decide ((v.aG.length:Int)=w.aG.length)with
 |false=>
  have:=of_decide_eq_false d2
  rw[decide_eq_false (show ¬v.aG.length=w.aG.length by omega),abu]
  simp(disch:=omega)only[go_sem,d1,d2]
 |true=>
 have d2':=of_decide_eq_true d2
 cases d3:decide ((v.aT.length:Int)=w.aT.length)with
 |false=>
  have:=of_decide_eq_false d3
  rw[decide_eq_false (show ¬v.aT.length=w.aT.length by omega),abu]
  simp(disch:=omega)only[go_sem,d1,d2,d3]
 |true=>
 have d3':=of_decide_eq_true d3
 simp(disch:=omega)only[go_sem,d1,d2,d3]
 rw[decide_eq_true (show v.calls.length=w.calls.length by omega),decide_eq_true (show v.aG.length=w.aG.length by omega),decide_eq_true (show v.aT.length=w.aT.length by omega),WZ,WZ,WZ]
 refine W.find v.calls (fun c=>!tA v w c) (fun k=>⟨[(2,.ptr 2 0),(3,.ptr 3 0),(8,.func 455 [.ptr 2 0,.ptr 3 0]),(62,.pv (.aq t2 (ch v.calls))),(63,.pv (.int .i64 v.calls.length)),(64,.pv (.int .i64 k))],⟨[(2,[.pv (.str v.name),.pv (.aq t1 (v.types.map aH.c)),.pv (.aq t2 (ch v.calls)),.pv (.aq t3 (aG v.aG)),.pv (.aq t4 (df v.aT))]),(3,[.pv (.str w.name),.pv (.aq u1 (w.types.map aH.c)),.pv (.aq u2 (ch w.calls)),.pv (.aq u3 (aG w.aG)),.pv (.aq u4 (df w.aT))])],[],[]⟩⟩) rfl (fun k x hx hk hfd=>?_) (fun hn=>?_)
 .have done:tA v w x=false->(some [PV.bool false,PV.int .i64 0]:Option (List PV))=some [.bool (v.calls.all (tA v w)&&v.aT.all (zh v w)&&v.aG.all (tB v w)),.int .i64 0]:=fun h=>by
   rw[A5 (hfd (by rw[h]; rfl)).any]
   rfl
  have hcl:=gv.call x (Wa hx)
  simp(disch:=omega)only[go_sem]
  refine Br.aJ (fun c=>?_) (fun c=>(c (by omega)).elim)
  simp(disch:=omega)only[go_sem,hx,Option.map_some,Cal.c,h410]
  unfold tA at done
  cases hp:jf (fun d=>decide (d.name=x.name)) w.calls with
  |none=>
   rw[hp]at done
   simp(disch:=omega)only[go_sem,Mt]
   exact done rfl
  |some d=>
   rw[hp]at done
   dsimp only at done
   have hd:=gw.call d (tC hp)
   have e1:=fun s s'=>h455 s s' x.ud d.ud tv tw hcl.1 hd.1
   have e2:=fun s s'=>h455 s s' x.rep d.rep tv tw hcl.2 hd.2
   have hcs:tA v w x=(gG v.types w.types x.ud d.ud&&gG v.types w.types x.rep d.rep):=by
    unfold tA
    rw[hp]
   generalize gG v.types w.types x.ud d.ud=b1 at *
   generalize gG v.types w.types x.rep d.rep=b2 at *
   simp(disch:=omega)only[go_sem,Mt,Cal.c,e1]
   cases b1 with
   |false=>
    simp(disch:=omega)only[go_sem]
    exact done rfl
   |true=>
    simp(disch:=omega)only[go_sem,e2]
    cases b2 with
    |false=>
     simp(disch:=omega)only[go_sem]
     exact done rfl
    |true=>
     simp(disch:=omega)only[go_sem]
     exact bB.of (by rw[hcs]; rfl) rfl
 rw[wS hn.any,WZ]
 clear hn
 simp(disch:=omega)only[go_sem]
 refine W.find v.aT (fun c=>!zh v w c) (fun k=>⟨[(2,.ptr 2 0),(3,.ptr 3 0),(8,.func 455 [.ptr 2 0,.ptr 3 0]),(97,.pv (.aq t4 (df v.aT))),(98,.pv (.int .i64 v.aT.length)),(99,.pv (.int .i64 k))],⟨[(2,[.pv (.str v.name),.pv (.aq t1 (v.types.map aH.c)),.pv (.aq t2 (ch v.calls)),.pv (.aq t3 (aG v.aG)),.pv (.aq t4 (df v.aT))]),(3,[.pv (.str w.name),.pv (.aq u1 (w.types.map aH.c)),.pv (.aq u2 (ch w.calls)),.pv (.aq u3 (aG w.aG)),.pv (.aq u4 (df w.aT))])],[],[]⟩⟩) rfl (fun k x hx hk hfd=>?_) (fun hn=>?_)
 .have done:zh v w x=false->(some [PV.bool false,PV.int .i64 0]:Option (List PV))=some [.bool (v.aT.all (zh v w)&&v.aG.all (tB v w)),.int .i64 0]:=fun h=>by
   rw[A5 (hfd (by rw[h]; rfl)).any]
   rfl
  have hcl:=gv.I4 x (Wa hx)
  simp(disch:=omega)only[go_sem]
  refine Br.aJ (fun c=>?_) (fun c=>(c (by omega)).elim)
  simp(disch:=omega)only[go_sem,hx,Option.map_some,Tpc.c,h414]
  unfold zh at done
  cases hp:jf (fun d=>decide (d.name=x.name)) w.aT with
  |none=>
   rw[hp]at done
   simp(disch:=omega)only[go_sem,Mw]
   exact done rfl
  |some d=>
   rw[hp]at done
   dsimp only at done
   have hd:=gw.I4 d (tC hp)
   have e1:=fun s s'=>h455 s s' x.ty d.ty tv tw hcl hd
   have hcs:zh v w x=gG v.types w.types x.ty d.ty:=by
    unfold zh
    rw[hp]
   generalize gG v.types w.types x.ty d.ty=b1 at *
   simp(disch:=omega)only[go_sem,Mw,Tpc.c,e1]
   cases b1 with
   |false=>
    simp(disch:=omega)only[go_sem]
    exact done rfl
   |true=>
    simp(disch:=omega)only[go_sem]
    exact bB.of (by rw[hcs]; rfl) rfl
 rw[wS hn.any,WZ]
 clear hn
 simp(disch:=omega)only[go_sem]
 refine W.find v.aG (fun c=>!tB v w c) (fun k=>⟨[(3,.ptr 3 0),(8,.func 455 [.ptr 2 0,.ptr 3 0]),(123,.pv (.aq t3 (aG v.aG))),(124,.pv (.int .i64 v.aG.length)),(125,.pv (.int .i64 k))],⟨[(2,[.pv (.str v.name),.pv (.aq t1 (v.types.map aH.c)),.pv (.aq t2 (ch v.calls)),.pv (.aq t3 (aG v.aG)),.pv (.aq t4 (df v.aT))]),(3,[.pv (.str w.name),.pv (.aq u1 (w.types.map aH.c)),.pv (.aq u2 (ch w.calls)),.pv (.aq u3 (aG w.aG)),.pv (.aq u4 (df w.aT))])],[],[]⟩⟩) rfl (fun k x hx hk hfd=>?_) (fun hn=>?_)
 .have done:tB v w x=false->(some [PV.bool false,PV.int .i64 0]:Option (List PV))=some [.bool (v.aG.all (tB v w)),.int .i64 0]:=fun h=>by
   rw[A5 (hfd (by rw[h]; rfl)).any]
  have hxm:=Wa hx
  have hcl:=gv.wK x hxm
  have hce:=(hv.ss x hxm).2.2.2
  have hfe:=hcl.zn
  simp(disch:=omega)only[go_sem]
  refine Br.aJ (fun c=>?_) (fun c=>(c (by omega)).elim)
  simp(disch:=omega)only[go_sem,hx,Option.map_some,eE.c,h412]
  cases hp:jf (fun d=>decide (d.name=x.name)) w.aG with
  |none=>
   have hcs:tB v w x=false:=by
    unfold tB
    rw[hp]
   simp(disch:=omega)only[go_sem,AD]
   exact done hcs
  |some y=>
   have hym:=tC hp
   have hd:=gw.wK y hym
   have hde:=(hw.ss y hym).2.2.2
   have hfd':=hd.zn
   have hcs:tB v w x=(wM (Du v w) x.msgs y.msgs&&Ic x.auto y.auto):=by
    unfold tB
    rw[hp]
    rfl
   simp(disch:=omega)only[go_sem,AD,eE.c]
   cases d4:decide ((x.msgs.length:Int)=y.msgs.length)with
   |false=>
    have:=of_decide_eq_false d4
    rw[p6 (fun e=>this (by rw[e])),Xu]at hcs
    simp(disch:=omega)only[go_sem]
    exact done hcs
   |true=>
   have d4':=of_decide_eq_true d4
   simp(disch:=omega)only[go_sem]
   refine W.find (x.msgs.zip y.msgs) (fun q=>!Du v w q.1 q.2) (fun j=>⟨[(3,.ptr 3 0),(8,.func 455 [.ptr 2 0,.ptr 3 0]),(18,.ptr 18 0),(19,.ptr 19 0),(123,.pv (.aq t3 (aG v.aG))),(124,.pv (.int .i64 v.aG.length)),(125,.pv (.int .i64 k)),(148,.pv (.aq 0 (x.msgs.map gI.c))),(149,.pv (.int .i64 x.msgs.length)),(150,.pv (.int .i64 j))],⟨[(2,[.pv (.str v.name),.pv (.aq t1 (v.types.map aH.c)),.pv (.aq t2 (ch v.calls)),.pv (.aq t3 (aG v.aG)),.pv (.aq t4 (df v.aT))]),(3,[.pv (.str w.name),.pv (.aq u1 (w.types.map aH.c)),.pv (.aq u2 (ch w.calls)),.pv (.aq u3 (aG w.aG)),.pv (.aq u4 (df w.aT))]),(18,x.c.map .pv),(19,y.c.map .pv)],[],[]⟩⟩) rfl (fun j q hq hj hfq=>?_) (fun hn=>?_)
   .obtain⟨h1,h2⟩:=jh hq
    rw[dA (by omega)]at hj
    have ha:=hcl.ty q.1 (Wa h1)
    have hb:=hd.ty q.2 (Wa h2)
    have e1:=fun s s'=>h455 s s' q.1.ty q.2.ty tv tw ha hb
    have hg:Du v w q.1 q.2=(decide (q.1.id=q.2.id)&&gG v.types w.types q.1.ty q.2.ty):=rfl
    have done2:Du v w q.1 q.2=false->tB v w x=false:=fun h=>by
     rw[hcs,wN (hfq (by rw[h]; rfl)).any]
     rfl
    generalize gG v.types w.types q.1.ty q.2.ty=b1 at *
    simp(disch:=omega)only[go_sem]
    refine Br.aJ (fun c=>?_) (fun c=>(c (by omega)).elim)
    simp(disch:=omega)only[go_sem,h1,h2,Option.map_some,gI.c,eE.c]
    cases d5:decide (q.1.id=q.2.id)with
    |false=>
     simp(disch:=omega)only[go_sem]
     exact done (done2 (by rw[hg,d5]; rfl))
    |true=>
     simp(disch:=omega)only[go_sem,h1,h2,Option.map_some,gI.c,eE.c,e1]
     cases b1 with
     |false=>
      simp(disch:=omega)only[go_sem]
      exact done (done2 (by rw[hg,d5]; rfl))
     |true=>
      simp(disch:=omega)only[go_sem]
      exact bB.of (by rw[hg,d5]; rfl) rfl
   .have hz:(x.msgs.zip y.msgs).length=x.msgs.length:=dA (by omega)
    rw[ru (g:=Du v w) (by omega) hn.any,WZ]at hcs
    rw[hz]
    have ha:(decide (mC x.auto y.auto=0)&&!(x.auto.B8 y.auto false).isSome)=Ic x.auto y.auto:=rfl
    simp(disch:=omega)only[go_sem,eE.c,ha]
    cases d6:Ic x.auto y.auto with
    |false=>
     rw[d6]at hcs
     simp(disch:=omega)only[go_sem]
     exact done hcs
    |true=>
     rw[d6]at hcs
     simp(disch:=omega)only[go_sem]
     exact bB.of (by rw[hcs]; rfl) rfl
 .rw[wS hn.any]
  simp(disch:=omega)only[go_sem]
theorem vP {a:aP} (ha:a.Good) {x:Int} {d:Bool} {l t:Int} (h:cO x d l a.af=some t):(⟨x,d,l,t⟩:Edge)∈aV a.af x:=zf.2 ⟨(sZ ha.oV).1 h,rfl⟩
theorem vS {a:aP} (ha:a.Good) {x:Int} {e:Edge} (h:e∈aV a.af x):cO x e.send e.label a.af=some e.to:=by
 obtain⟨h1,h2⟩:=zf.1 h
 refine(sZ ha.oV).2 ?_
 have:(⟨x,e.send,e.label,e.to⟩:Edge)=e:=by rw[<- h2]
 rw[this]
 exact h1
theorem Z0 {a b:aP} (ha:a.Good) (hb:b.Good) {o:Bool} {x y:Int} (h:w4 o (aV a.af x) (aV b.af y)=none):(∀d l,(cO x d l a.af).isSome=true->(cO y d l b.af).isSome=true)/\(o=false->∀d l,(cO y d l b.af).isSome=true->(cO x d l a.af).isSome=true):=by
 have hs:=X9 o _ _ (ha.aaf x) (hb.aaf y)
 rw[h]at hs
 refine⟨fun d l hd=>?_,fun ho d l hd=>?_⟩
 .obtain⟨t,ht⟩:=abq.1 hd
  obtain⟨f,hf,he⟩:=hs.1 _ (vP ha ht)
  simp only[Edge.act,Prod.mk.injEq]at he
  have:=vS hb hf
  rw[he.1,he.2]at this
  rw[this]; rfl
 .obtain⟨t,ht⟩:=abq.1 hd
  obtain⟨f,hf,he⟩:=hs.2 ho _ (vP hb ht)
  simp only[Edge.act,Prod.mk.injEq]at he
  have:=vS ha hf
  rw[he.1,he.2]at this
  rw[this]; rfl
theorem Z1 {a b:aP} (ha:a.Good) (hb:b.Good) {o:Bool} {x y:Int} {e:Edge} {w:Int} (h:w4 o (aV a.af x) (aV b.af y)=some (e,w)):
  (w=0/\(cO x e.send e.label a.af).isSome=true/\cO y e.send e.label b.af=none)\/(w=1/\o=false/\(cO y e.send e.label b.af).isSome=true/\cO x e.send e.label a.af=none):=by
 have hs:=X9 o _ _ (ha.aaf x) (hb.aaf y)
 rw[h]at hs
 rcases hs with⟨h1,h2,h3⟩|⟨h1,h0,h2,h3⟩
 .refine .inl ⟨h1,by rw[vS ha h2]; rfl,?_⟩
  cases hn:cO y e.send e.label b.af with
  |none=>rfl
  |some t=>exact(h3 _ (vP hb hn) rfl).elim
 .refine .inr ⟨h1,h0,by rw[vS hb h2]; rfl,?_⟩
  cases hn:cO x e.send e.label a.af with
  |none=>rfl
  |some t=>exact(h3 _ (vP ha hn) rfl).elim
theorem PR.ev {a b:aP} {p:List (Bool×Int)} {x y:Int} (h:PR a.af b.af a.start b.start p x y) (he:∀j,Ev a.af b.af j a.start b.start):∀j,Ev a.af b.af j x y:=by
 induction h with
 |nil=>exact he
 |@snoc _ _ _ _ _ d l _ h1 h2 ih=>
  intro j
  have:=ih (j+1) d l
  rw[h1,h2]at this
  exact this
theorem Y3 {a b:aP} (ha:a.Good) (hb:b.Good):a.B8 b false=none↔∀j,Ev a.af b.af j a.start b.start:=by
 have hs:=aP.Yg ha hb false
 constructor
 .intro h
  rw[h]at hs
  have key:∀j p x y,PR a.af b.af a.start b.start p x y->Ev a.af b.af j x y:=by
   intro j
   induction j with
   |zero=>exact fun _ _ _ _=>trivial
   |succ j ih=>
    intro p x y hp d l
    obtain⟨h1,h2⟩:=Z0 ha hb (hs p x y hp)
    have h1:=h1 d l
    have h2:=h2 rfl d l
    cases hx:cO x d l a.af with
    |none=>
     cases hy:cO y d l b.af with
     |none=>trivial
     |some t=>rw[hx,hy]at h2; cases h2 rfl
    |some t=>
     cases hy:cO y d l b.af with
     |none=>rw[hx,hy]at h1; cases h1 rfl
     |some u=>exact ih _ t u (hp.snoc hx hy)
  exact fun j=>key j [] _ _ .nil
 .intro he
  cases h:a.B8 b false with
  |none=>rfl
  |some r=>
   obtain⟨p,w⟩:=r
   rw[h]at hs
   obtain⟨n,e,hp,hm,_⟩:=hs
   have h1:=hp.ev he 1 e.send e.label
   rcases Z1 ha hb hm with⟨_,h2,h3⟩|⟨_,_,h2,h3⟩
   .rw[h3]at h1
    obtain⟨t,ht⟩:=abq.1 h2
    rw[ht]at h1
    exact h1.elim
   .rw[h3]at h1
    obtain⟨t,ht⟩:=abq.1 h2
    rw[ht]at h1
    exact h1.elim
theorem Zg {a b:aP} (ha:a.Good) (hb:b.Good):decide (UW (differ a b) a.start b.start=0)=!(a.B8 b false).isSome:=by
 have h1:=Y1 ha hb (p:=a.start) (q:=b.start) ha.st hb.st
 have h2:=Y3 ha hb
 cases hd:a.B8 b false with
 |none=>
  have:=h1.2 (h2.1 hd)
  simp[this]
 |some r=>
  have:¬UW (differ a b) a.start b.start=0:=fun h=>by
   have:=h2.2 (h1.1 h)
   rw[hd]at this
   cases this
  simp[this]
theorem Z2 (a b:aP):(decide (mC a b=0)&&decide (UW (differ a b) a.start b.start=0))=Ic a b:=by
 unfold Ic
 by_cases h:mC a b=0
 .rw[Zg (vD h).1 (vD h).2]
 .simp[h]
set_option maxHeartbeats 8000000 in
theorem r459 (t1 t2 t3 t4 u1 u2 u3 u4:Nat) (v w:ij) (x y:eE) (hA:VT v.types) (hB:VT w.types) (hx:Fz v.types.length x) (hy:Fz w.types.length y) (hxe:x.auto.af.length<=2000000000) (hye:y.auto.af.length<=2000000000):res A aA 459 [.agg (lB t1 t2 t3 t4 v),.agg x.c,.agg (lB u1 u2 u3 u4 w),.agg y.c]=some [.bool (Sd v w x y)]:=by
 have h458:=fun m n=>r458 t1 t2 t3 t4 u1 u2 u3 u4 v w m n hA hB
 have f1:=hx.zn
 have f2:=hy.zn
 unfold Sd
 refine aw a459 rfl rfl ?_
 simp only[F459,aaI,lB,eE.c]at *
 simp(disch:=omega)only[go_sem]
 refine Br.aJ (fun d4=>?_) (fun d4=>?_)<;>simp(disch:=omega)only[go_sem]
 rotate_left
 .rw[p6 (fun e=>d4 (by rw[e])),Xu]
 refine W.find (x.msgs.zip y.msgs) (fun q=>!Du v w q.1 q.2) (fun j=>⟨[(4,.ptr 4 0),(5,.ptr 5 0),(6,.ptr 6 0),(7,.ptr 7 0),(9,.pv (.int .i64 j))],⟨[(4,[.pv (.str v.name),.pv (.aq t1 (v.types.map aH.c)),.pv (.aq t2 (ch v.calls)),.pv (.aq t3 (aG v.aG)),.pv (.aq t4 (df v.aT))]),(5,x.c.map .pv),(6,[.pv (.str w.name),.pv (.aq u1 (w.types.map aH.c)),.pv (.aq u2 (ch w.calls)),.pv (.aq u3 (aG w.aG)),.pv (.aq u4 (df w.aT))]),(7,y.c.map .pv)],[],[]⟩⟩) rfl (fun j q hq hj hfq=>?_) (fun hn=>?_)
 .obtain⟨h1,h2⟩:=jh hq
  rw[dA (by omega)]at hj
  have ha:=hx.ty q.1 (Wa h1)
  have hb:=hy.ty q.2 (Wa h2)
  have e1:=h458 q.1.ty q.2.ty ha hb
  have hg:Du v w q.1 q.2=(decide (q.1.id=q.2.id)&&gG v.types w.types q.1.ty q.2.ty):=rfl
  have done:Du v w q.1 q.2=false->(some [PV.bool false]:Option (List PV))=some [.bool (wM (Du v w) x.msgs y.msgs&&Ic x.auto y.auto)]:=fun h=>by
   rw[wN (hfq (by rw[h]; rfl)).any]
   rfl
  generalize gG v.types w.types q.1.ty q.2.ty=b1 at *
  simp(disch:=omega)only[go_sem,eE.c]
  refine Br.aJ (fun c=>?_) (fun c=>(c (by omega)).elim)
  simp(disch:=omega)only[go_sem,h1,h2,Option.map_some,gI.c,eE.c]
  cases d5:decide (q.1.id=q.2.id)with
  |false=>
   simp(disch:=omega)only[go_sem]
   exact done (by rw[hg,d5]; rfl)
  |true=>
   simp(disch:=omega)only[go_sem,h1,h2,Option.map_some,gI.c,eE.c,e1]
   cases b1 with
   |false=>
    simp(disch:=omega)only[go_sem]
    exact done (by rw[hg,d5]; rfl)
   |true=>
    simp(disch:=omega)only[go_sem]
    exact bB.of (by rw[hg,d5]; rfl) rfl
 .have hz:(x.msgs.zip y.msgs).length=x.msgs.length:=dA (by omega)
  rw[ru (g:=Du v w) (by omega) hn.any,WZ,hz]
  have ha:=Z2 x.auto y.auto
  simp(disch:=omega)only[go_sem,eE.c,ha]
set_option maxHeartbeats 16000000 in
theorem r423 (t1 t2 t3 t4 u1 u2 u3 u4:Nat) (v w:ij) (hv:iX v) (hw:iX w):res A aA 423 [.agg (lB t1 t2 t3 t4 v),.agg (lB u1 u2 u3 u4 w)]=some [.bool (vE v w).1,.int .i64 (vE v w).2]:=by
 have h406:=r406 t1 t2 t3 t4 v hv
 have h406':=r406 u1 u2 u3 u4 w hw
 have l1:=hv.cl
 have l2:=hv.sl
 have l3:=hv.pl
 have m1:=hw.cl
 have m2:=hw.sl
 have m3:=hw.pl
 have h411:=fun nm=>r411 u1 u2 u3 u4 w nm hw.cl
 have h415:=fun nm=>r415 u1 u2 u3 u4 w nm hw.pl
 have h413:=fun nm=>r413 u1 u2 u3 u4 w nm hw.sl
 have h458:=fun x y=>r458 t1 t2 t3 t4 u1 u2 u3 u4 v w x y
 have h459:=fun x y=>r459 t1 t2 t3 t4 u1 u2 u3 u4 v w x y
 unfold vE
 refine aw a423 rfl rfl ?_
 simp only[F423,aaC,lB]at *
 simp(disch:=omega)only[go_sem,h406]
 refine Br.aJ (fun c=>?_) (fun c=>?_)<;>simp(disch:=omega)only[go_sem]
 rotate_left
 .rw[if_pos c]
 rw[if_neg (by simp[c])]
 simp(disch:=omega)only[go_sem,h406']
 refine Br.aJ (fun c'=>?_) (fun c'=>?_)<;>simp(disch:=omega)only[go_sem]
 rotate_left
 .rw[if_pos c']
 rw[if_neg (by simp[c'])]
 have gv:=vj c
 have gw:=vj c'
 have tv:=gv.vt hv
 have tw:=gw.vt hw
 have hsame:FZ v w=((decide (v.calls.length=w.calls.length)&&decide (v.aG.length=w.aG.length)&&decide (v.aT.length=w.aT.length))&&(v.calls.all (tA v w)&&v.aG.all (tB v w)&&v.aT.all (zh v w))):=by
  unfold FZ
  rw[Bool.and_assoc (v.calls.all _),Bool.and_comm (v.aT.all _),<- Bool.and_assoc (v.calls.all _)]
 rw[hsame]
 cases d1:decide ((v.calls.length:Int)=w.calls.length)with
 |false=>
  have:=of_decide_eq_false d1
  rw[decide_eq_false (show ¬v.calls.length=w.calls.length by omega)]
  simp(disch:=omega)only[go_sem,d1]
 |true=>
 have d1':=of_decide_eq_true d1
 cases d2:decide ((v.aG.length:Int)=w.aG.length)with
 |false=>
  have:=of_decide_eq_false d2
  rw[decide_eq_false (show ¬v.aG.length=w.aG.length by omega),abu]
  simp(disch:=omega)only[go_sem,d1,d2]
 |true=>
 have d2':=of_decide_eq_true d2
 cases d3:decide ((v.aT.length:Int)=w.aT.length)with
 |false=>
  have:=of_decide_eq_false d3
  rw[decide_eq_false (show ¬v.aT.length=w.aT.length by omega),abu]
  simp(disch:=omega)only[go_sem,d1,d2,d3]
 |true=>
 have d3':=of_decide_eq_true d3
 simp(disch:=omega)only[go_sem,d1,d2,d3]
 rw[decide_eq_true (show v.calls.length=w.calls.length by omega),decide_eq_true (show v.aG.length=w.aG.length by omega),decide_eq_true (show v.aT.length=w.aT.length by omega),WZ,WZ,WZ]
 refine W.find v.calls (fun c=>!tA v w c) (fun k=>⟨[(2,.ptr 2 0),(3,.ptr 3 0),(8,.pv (.int .i64 k))],⟨[(2,[.pv (.str v.name),.pv (.aq t1 (v.types.map aH.c)),.pv (.aq t2 (ch v.calls)),.pv (.aq t3 (aG v.aG)),.pv (.aq t4 (df v.aT))]),(3,[.pv (.str w.name),.pv (.aq u1 (w.types.map aH.c)),.pv (.aq u2 (ch w.calls)),.pv (.aq u3 (aG w.aG)),.pv (.aq u4 (df w.aT))])],[],[]⟩⟩) rfl (fun k x hx hk hfd=>?_) (fun hn=>?_)
 .have done:tA v w x=false->(some [PV.bool false,PV.int .i64 0]:Option (List PV))=some [.bool (v.calls.all (tA v w)&&v.aG.all (tB v w)&&v.aT.all (zh v w)),.int .i64 0]:=fun h=>by
   rw[A5 (hfd (by rw[h]; rfl)).any]
   rfl
  have hcl:=gv.call x (Wa hx)
  simp(disch:=omega)only[go_sem]
  refine Br.aJ (fun c=>?_) (fun c=>(c (by omega)).elim)
  simp(disch:=omega)only[go_sem,hx,Option.map_some,Cal.c,h411]
  unfold tA at done
  cases hp:jf (fun d=>decide (d.name=x.name)) w.calls with
  |none=>
   rw[hp]at done
   simp(disch:=omega)only[go_sem,Mt]
   exact done rfl
  |some d=>
   rw[hp]at done
   dsimp only at done
   have hd:=gw.call d (tC hp)
   have e1:=h458 x.ud d.ud tv tw hcl.1 hd.1
   have e2:=h458 x.rep d.rep tv tw hcl.2 hd.2
   have hcs:tA v w x=(gG v.types w.types x.ud d.ud&&gG v.types w.types x.rep d.rep):=by
    unfold tA
    rw[hp]
   generalize gG v.types w.types x.ud d.ud=b1 at *
   generalize gG v.types w.types x.rep d.rep=b2 at *
   simp(disch:=omega)only[go_sem,Mt,Cal.c,e1]
   cases b1 with
   |false=>
    simp(disch:=omega)only[go_sem]
    exact done rfl
   |true=>
    simp(disch:=omega)only[go_sem,e2]
    cases b2 with
    |false=>
     simp(disch:=omega)only[go_sem]
     exact done rfl
    |true=>
     simp(disch:=omega)only[go_sem]
     exact bB.of (by rw[hcs]; rfl) rfl
 rw[wS hn.any,WZ]
 clear hn
 simp(disch:=omega)only[go_sem]
 refine W.find v.aG (fun c=>!tB v w c) (fun k=>⟨[(2,.ptr 2 0),(3,.ptr 3 0),(12,.pv (.int .i64 k))],⟨[(2,[.pv (.str v.name),.pv (.aq t1 (v.types.map aH.c)),.pv (.aq t2 (ch v.calls)),.pv (.aq t3 (aG v.aG)),.pv (.aq t4 (df v.aT))]),(3,[.pv (.str w.name),.pv (.aq u1 (w.types.map aH.c)),.pv (.aq u2 (ch w.calls)),.pv (.aq u3 (aG w.aG)),.pv (.aq u4 (df w.aT))])],[],[]⟩⟩) rfl (fun k x hx hk hfd=>?_) (fun hn=>?_)
 .have done:tB v w x=false->(some [PV.bool false,PV.int .i64 0]:Option (List PV))=some [.bool (v.aG.all (tB v w)&&v.aT.all (zh v w)),.int .i64 0]:=fun h=>by
   rw[A5 (hfd (by rw[h]; rfl)).any]
   rfl
  have hxm:=Wa hx
  have hcl:=gv.wK x hxm
  have hce:=(hv.ss x hxm).2.2.2
  simp(disch:=omega)only[go_sem]
  refine Br.aJ (fun c=>?_) (fun c=>(c (by omega)).elim)
  simp(disch:=omega)only[go_sem,hx,Option.map_some,eE.c,h413]
  cases hp:jf (fun d=>decide (d.name=x.name)) w.aG with
  |none=>
   have hcs:tB v w x=false:=by
    unfold tB
    rw[hp]
   simp(disch:=omega)only[go_sem,AD]
   exact done hcs
  |some y=>
   have hym:=tC hp
   have e1:=h459 x y tv tw hcl (gw.wK y hym) hce (hw.ss y hym).2.2.2
   simp only[eE.c]at e1
   have hcs:tB v w x=Sd v w x y:=by
    unfold tB
    rw[hp]
   generalize Sd v w x y=b1 at *
   simp(disch:=omega)only[go_sem,hx,Option.map_some,AD,eE.c,e1]
   cases b1 with
   |false=>
    simp(disch:=omega)only[go_sem]
    exact done hcs
   |true=>
    simp(disch:=omega)only[go_sem]
    exact bB.of (by rw[hcs]; rfl) rfl
 rw[wS hn.any,WZ]
 clear hn
 simp(disch:=omega)only[go_sem]
 refine W.find v.aT (fun c=>!zh v w c) (fun k=>⟨[(2,.ptr 2 0),(3,.ptr 3 0),(15,.pv (.int .i64 k))],⟨[(2,[.pv (.str v.name),.pv (.aq t1 (v.types.map aH.c)),.pv (.aq t2 (ch v.calls)),.pv (.aq t3 (aG v.aG)),.pv (.aq t4 (df v.aT))]),(3,[.pv (.str w.name),.pv (.aq u1 (w.types.map aH.c)),.pv (.aq u2 (ch w.calls)),.pv (.aq u3 (aG w.aG)),.pv (.aq u4 (df w.aT))])],[],[]⟩⟩) rfl (fun k x hx hk hfd=>?_) (fun hn=>?_)
 .have done:zh v w x=false->(some [PV.bool false,PV.int .i64 0]:Option (List PV))=some [.bool (v.aT.all (zh v w)),.int .i64 0]:=fun h=>by
   rw[A5 (hfd (by rw[h]; rfl)).any]
  have hcl:=gv.I4 x (Wa hx)
  simp(disch:=omega)only[go_sem]
  refine Br.aJ (fun c=>?_) (fun c=>(c (by omega)).elim)
  simp(disch:=omega)only[go_sem,hx,Option.map_some,Tpc.c,h415]
  cases hp:jf (fun d=>decide (d.name=x.name)) w.aT with
  |none=>
   have hcs:zh v w x=false:=by
    unfold zh
    rw[hp]
   simp(disch:=omega)only[go_sem,Mw]
   exact done hcs
  |some d=>
   have hd:=gw.I4 d (tC hp)
   have e1:=h458 x.ty d.ty tv tw hcl hd
   have hcs:zh v w x=gG v.types w.types x.ty d.ty:=by
    unfold zh
    rw[hp]
   generalize gG v.types w.types x.ty d.ty=b1 at *
   simp(disch:=omega)only[go_sem,hx,Option.map_some,Mw,Tpc.c,e1]
   cases b1 with
   |false=>
    simp(disch:=omega)only[go_sem]
    exact done hcs
   |true=>
    simp(disch:=omega)only[go_sem]
    exact bB.of (by rw[hcs]; rfl) rfl
 .rw[wS hn.any]
  simp(disch:=omega)only[go_sem]
structure V5 (v:ij):Prop where
 o:∀t∈v.types,t.ok
 s:∀t∈v.types,t.held
 sl:v.aG.length<=2^63 - 1
 n:bC v.name
 c:∀c∈v.calls,bC c.name
 w:∀w∈v.aG,bC w.name/\∀m∈w.msgs,bC m.name
 p:∀c∈v.aT,bC c.name
theorem V5.small {v:ij} (h:V5 v) (hf:cg v=true):iX v:=cj hf h.n h.o h.s h.c h.w h.p
set_option maxHeartbeats 8000000 in
theorem r401 (r404:res A aA 404 []=some [.bool true]) (v w:ij) (hv:V5 v) (hw:V5 w):res A aA 401 [.agg (lB 0 0 0 0 v),.agg (lB 0 0 0 0 w)]=some [.bool true]:=by
 refine aw a401 rfl rfl ?_
 simp only[F401,kF]
 have h405:=r405 0 0 0 0 v hv.o hv.sl
 have h405':=r405 0 0 0 0 w hw.o hw.sl
 cases hf:cg v with
 |false=>
  rw[hf]at h405
  simp only[lB]at h405 |-
  simp(disch:=omega)only[go_sem,r404,h405]
 |true=>
  cases hg:cg w with
  |false=>
   rw[hf]at h405
   rw[hg]at h405'
   simp only[lB]at h405 h405' |-
   simp(disch:=omega)only[go_sem,r404,h405,h405']
  |true=>
   rw[hf]at h405
   rw[hg]at h405'
   have h421:=r421 0 0 0 0 0 0 0 0 v w (hv.small hf) (hw.small hg)
   have h423:=r423 0 0 0 0 0 0 0 0 v w (hv.small hf) (hw.small hg)
   generalize (vE v w).1=b at *
   generalize (vE v w).2=e at *
   simp only[lB]at h405 h405' h421 h423 |-
   simp(disch:=omega)only[go_sem,r404,h405,h405',h421,h423]
theorem r404:res A aA 404 []=some [.bool true]:=jz.2 ⟨3000,by kernel_rfl⟩
variable {P:Program}
def Cal.ok (x:Cal):Prop:=bC x.name/\eH x.ud/\eH x.rep
def Tpc.ok (x:Tpc):Prop:=bC x.name/\eH x.ty
def gI.ok (x:gI):Prop:=eH x.id/\bC x.name/\eH x.ty
def eE.ok (x:eE):Prop:=bC x.name/\(bP x.msgs/\∀m∈x.msgs,m.ok)/\x.auto.r64
def ij.ok (v:ij):Prop:=bC v.name/\(bP v.types/\∀t∈v.types,t.ok)/\(bP v.calls/\∀c∈v.calls,c.ok)/\(bP v.aG/\∀w∈v.aG,w.ok)/\bP v.aT/\∀c∈v.aT,c.ok
structure aep (P:Program) (ax sch lc cl ls ss lm mg lp tp au le ed ti tx tb:TypeId):Prop where
 i:P.underlying ti=some (.int .i64)
 b:P.underlying tb=some .bool
 x:P.underlying tx=some .string
 v:∃fs,P.underlying ax=some (.struct fs)/\fs.toList.map (·.type)=[tx,sch,lc,ls,lp]
 lc:P.underlying lc=some (.slice cl)
 c:∃fs,P.underlying cl=some (.struct fs)/\fs.toList.map (·.type)=[tx,ti,ti]
 ls:P.underlying ls=some (.slice ss)
 s:∃fs,P.underlying ss=some (.struct fs)/\fs.toList.map (·.type)=[tx,lm,au]
 lm:P.underlying lm=some (.slice mg)
 m:∃fs,P.underlying mg=some (.struct fs)/\fs.toList.map (·.type)=[ti,tx,ti]
 lp:P.underlying lp=some (.slice tp)
 t:∃fs,P.underlying tp=some (.struct fs)/\fs.toList.map (·.type)=[tx,ti]
 a:∃fs,P.underlying au=some (.struct fs)/\fs.toList.map (·.type)=[ti,ti,le]
 le:P.underlying le=some (.slice ed)
 e:∃fs,P.underlying ed=some (.struct fs)/\fs.toList.map (·.type)=[ti,tb,ti,ti]
section
variable {ax sch lc cl ls ss lm mg lp tp au le ed ti tx tb:TypeId}
theorem afj (T:aep P ax sch lc cl ls ss lm mg lp tp au le ed ti tx tb) {n:Nat} {cs:List PV} (h:typed P n cl cs):∃x:Cal,cs=x.c/\x.ok:=by
 cases n with
 |zero=>exact h.elim
 |succ n=>
  obtain⟨fs,hu,hts⟩:=T.c
  obtain⟨r0,q0,rfl,h0,r1,q1,rfl,h1,r2,q2,rfl,h2,rfl⟩:=dK hu hts h
  obtain⟨s,rfl,hs⟩:=UK T.x h0
  obtain⟨a,rfl,ha⟩:=afV T.i h1
  obtain⟨b,rfl,hb⟩:=afV T.i h2
  exact⟨⟨s,a,b⟩,rfl,hs,ha,hb⟩
theorem afk (T:aep P ax sch lc cl ls ss lm mg lp tp au le ed ti tx tb) {n:Nat} {cs:List PV} (h:typed P n tp cs):∃x:Tpc,cs=x.c/\x.ok:=by
 cases n with
 |zero=>exact h.elim
 |succ n=>
  obtain⟨fs,hu,hts⟩:=T.t
  obtain⟨r0,q0,rfl,h0,r1,q1,rfl,h1,rfl⟩:=dK hu hts h
  obtain⟨s,rfl,hs⟩:=UK T.x h0
  obtain⟨a,rfl,ha⟩:=afV T.i h1
  exact⟨⟨s,a⟩,rfl,hs,ha⟩
theorem afl (T:aep P ax sch lc cl ls ss lm mg lp tp au le ed ti tx tb) {n:Nat} {cs:List PV} (h:typed P n mg cs):∃x:gI,cs=x.c/\x.ok:=by
 cases n with
 |zero=>exact h.elim
 |succ n=>
  obtain⟨fs,hu,hts⟩:=T.m
  obtain⟨r0,q0,rfl,h0,r1,q1,rfl,h1,r2,q2,rfl,h2,rfl⟩:=dK hu hts h
  obtain⟨a,rfl,ha⟩:=afV T.i h0
  obtain⟨s,rfl,hs⟩:=UK T.x h1
  obtain⟨b,rfl,hb⟩:=afV T.i h2
  exact⟨⟨a,s,b⟩,rfl,ha,hs,hb⟩
theorem afm (T:aep P ax sch lc cl ls ss lm mg lp tp au le ed ti tx tb) {n:Nat} {cs:List PV} (h:typed P n ed cs):∃x:Edge,cs=x.c/\x.r64:=by
 cases n with
 |zero=>exact h.elim
 |succ n=>
  obtain⟨fs,hu,hts⟩:=T.e
  obtain⟨r0,q0,rfl,h0,r1,q1,rfl,h1,r2,q2,rfl,h2,r3,q3,rfl,h3,rfl⟩:=dK hu hts h
  obtain⟨a,rfl,ha⟩:=afV T.i h0
  obtain⟨d,rfl⟩:=A1 T.b h1
  obtain⟨b,rfl,hb⟩:=afV T.i h2
  obtain⟨c,rfl,hc⟩:=afV T.i h3
  unfold eH at ha hb hc
  exact⟨⟨a,d,b,c⟩,rfl,ha,hb,hc⟩
theorem afn (T:aep P ax sch lc cl ls ss lm mg lp tp au le ed ti tx tb) {n:Nat} {cs:List PV} (h:typed P n au cs):∃a:aP,cs=[.int .i64 a.aj,.int .i64 a.start,.aq 0 (a.af.map Edge.c)]/\a.r64:=by
 cases n with
 |zero=>exact h.elim
 |succ n=>
  obtain⟨fs,hu,hts⟩:=T.a
  obtain⟨r0,q0,rfl,h0,r1,q1,rfl,h1,r2,q2,rfl,h2,rfl⟩:=dK hu hts h
  obtain⟨a,rfl,ha⟩:=afV T.i h0
  obtain⟨b,rfl,hb⟩:=afV T.i h1
  obtain⟨l,rfl,hl,ho⟩:=jH T.le (fun m cs _ h=>afm T h) h2
  unfold eH at ha hb
  exact⟨⟨a,b,l⟩,rfl,ha,hb,by simpa [bP,maxLen]using hl,ho⟩
theorem afo (T:aep P ax sch lc cl ls ss lm mg lp tp au le ed ti tx tb) {n:Nat} {cs:List PV} (h:typed P n ss cs):∃x:eE,cs=x.c/\x.ok:=by
 cases n with
 |zero=>exact h.elim
 |succ n=>
  obtain⟨fs,hu,hts⟩:=T.s
  obtain⟨r0,q0,rfl,h0,r1,q1,rfl,h1,r2,q2,rfl,h2,rfl⟩:=dK hu hts h
  obtain⟨s,rfl,hs⟩:=UK T.x h0
  obtain⟨l,rfl,hl,ho⟩:=jH T.lm (fun m cs _ h=>afl T h) h1
  obtain⟨a,rfl,ha⟩:=afn T h2
  exact⟨⟨s,l,a⟩,rfl,hs,⟨hl,ho⟩,ha⟩
theorem afI (T:aep P ax sch lc cl ls ss lm mg lp tp au le ed ti tx tb) {typ sym mem val raw lt lsym lmem lval lraw t64:TypeId} (U:VJ P sch typ sym mem val raw lt lsym lmem lval lraw tx ti t64 tb) {n:Nat} {cs:List PV} (h:typed P n ax cs):∃v:ij,cs=[.str v.name,.aq 0 (v.types.map aH.c),.aq 0 (ch v.calls),.aq 0 (aG v.aG),.aq 0 (df v.aT)]/\v.ok:=by
 cases n with
 |zero=>exact h.elim
 |succ n=>
  obtain⟨fs,hu,hts⟩:=T.v
  obtain⟨r0,q0,rfl,h0,r1,q1,rfl,h1,r2,q2,rfl,h2,r3,q3,rfl,h3,r4,q4,rfl,h4,rfl⟩:=dK hu hts h
  obtain⟨s,rfl,hs⟩:=UK T.x h0
  obtain⟨l,rfl,hl,ho⟩:=afb U h1
  obtain⟨c,rfl,hc,hco⟩:=jH T.lc (fun m cs _ h=>afj T h) h2
  obtain⟨w,rfl,hw,hwo⟩:=jH T.ls (fun m cs _ h=>afo T h) h3
  obtain⟨p,rfl,hp,hpo⟩:=jH T.lp (fun m cs _ h=>afk T h) h4
  exact⟨⟨s,l,c,w,p⟩,rfl,hs,⟨hl,ho⟩,⟨hc,hco⟩,⟨hw,hwo⟩,hp,hpo⟩
end
end Go.Pv
namespace Go.Pv
variable {P:Program}
def abb (P:Program) (M n:Nat):List TypeId->List PV->Prop
 |[],cs=>cs=[]
 |t::ts,cs=>∃r q,cs=r++q/\afL P M n t r/\abb P M n ts q
theorem abg {M n:Nat} {t:TypeId} {fs:Array Field} {ts:List TypeId} {cs:List PV} (hu:P.underlying t=some (.struct fs)) (hts:fs.toList.map (·.type)=ts) (h:afL P M (n+1) t cs):abb P M n ts cs:=by
 simp only[afL,hu]at h
 obtain⟨parts,h1,rfl,h3⟩:=h
 subst hts
 have key:∀(l:List Field) (parts:List (List PV)),parts.length=l.length->(∀(i:Nat) (f:Field) (r:List PV),l[i]?=some f->parts[i]?=some r->afL P M n f.type r)->abb P M n (l.map (·.type)) parts.flatten:=by
  intro l
  induction l with
  |nil=>intro parts hl _; simp[List.eq_nil_of_length_eq_zero hl,abb]
  |cons f l ih=>
   intro parts hl hp
   match parts,hl with
   |r::parts,hl=>exact⟨r,parts.flatten,rfl,hp 0 f r rfl rfl,ih parts (by simpa using hl) (fun i g q hg hq=>hp (i+1) g q (by simpa using hg) (by simpa using hq))⟩
 exact key fs.toList parts (by simpa using h1) (fun i f r hf hr=>h3 i f r (by simpa using hf) hr)
theorem sliceB {M n:Nat} {t el:TypeId} {cs:List PV} (hu:P.underlying t=some (.slice el)) (h:afL P M n t cs):∃rows,cs=[.aq 0 rows]/\rows.length*P.bytesOf el<=M/\∀r∈rows,afL P M (n - 1) el r:=by
 cases n with
 |zero=>exact h.elim
 |succ n=>
  simp only[afL,hu]at h
  obtain⟨rows,h1,h2,h3⟩:=h
  exact⟨rows,h1,h2.2,h3⟩
theorem afG {M n:Nat} {t:TypeId} {k:IntKind} {cs:List PV} (hu:P.underlying t=some (.int k)) (h:afL P M n t cs):∃c,cs=[c]:=by
 cases n with
 |zero=>exact h.elim
 |succ n=>
  simp only[afL,hu]at h
  obtain⟨x,rfl,_⟩:=h
  exact⟨_,rfl⟩
theorem afJ {M n:Nat} {t:TypeId} {cs:List PV} (hu:P.underlying t=some .string) (h:afL P M n t cs):∃c,cs=[c]:=by
 cases n with
 |zero=>exact h.elim
 |succ n=>
  simp only[afL,hu]at h
  obtain⟨x,rfl,_⟩:=h
  exact⟨_,rfl⟩
section
variable {sch typ sym mem val raw ls lsym lmem lval lraw tx ti t64 tb:TypeId}
theorem afp (T:VJ P sch typ sym mem val raw ls lsym lmem lval lraw tx ti t64 tb) (hy:24<=P.bytesOf sym) (hm:24<=P.bytesOf mem) {M n:Nat} (hM:M<=140737488351232) {x:aH} (h:afL P M n typ x.c):x.held:=by
 cases n with
 |zero=>exact h.elim
 |succ n=>
  obtain⟨fs,hu,hts⟩:=T.t
  obtain⟨r0,q0,e0,h0,r1,q1,rfl,h1,r2,q2,rfl,h2,r3,q3,rfl,h3,r4,q4,rfl,h4,r5,q5,rfl,h5,r6,q6,rfl,h6,_⟩:=abg hu hts h
  obtain⟨x0,rfl⟩:=afG T.i h0
  obtain⟨x1,rfl⟩:=afJ T.x h1
  obtain⟨x2,rfl⟩:=afG T.i64 h2
  obtain⟨x3,rfl⟩:=afG T.i64 h3
  obtain⟨x4,rfl⟩:=afG T.i h4
  obtain⟨a,rfl,ha,_⟩:=sliceB T.ly h5
  obtain⟨b,rfl,hb,_⟩:=sliceB T.lm h6
  simp only[aH.c,List.cons_append,List.nil_append,List.cons.injEq,PV.aq.injEq]at e0
  have e1:=congrArg List.length e0.2.2.2.2.2.1.2
  have e2:=congrArg List.length e0.2.2.2.2.2.2.1.2
  rw[Wg]at e1 e2
  have a1:=Nat.mul_le_mul_left a.length hy
  have b1:=Nat.mul_le_mul_left b.length hm
  exact⟨by omega,by omega⟩
theorem afq (T:VJ P sch typ sym mem val raw ls lsym lmem lval lraw tx ti t64 tb) (hy:24<=P.bytesOf sym) (hm:24<=P.bytesOf mem) {M n:Nat} (hM:M<=140737488351232) {l:List aH} (h:afL P M n sch [.aq 0 (l.map aH.c)]):∀t∈l,t.held:=by
 cases n with
 |zero=>exact h.elim
 |succ n=>
  obtain⟨fs,hu,hts⟩:=T.s
  obtain⟨r0,q0,e0,h0,rfl⟩:=abg hu hts h
  obtain⟨a,rfl,_,ha⟩:=sliceB T.l h0
  simp only[List.cons_append,List.nil_append,List.cons.injEq,PV.aq.injEq]at e0
  obtain⟨⟨_,rfl⟩,_⟩:=e0
  exact fun t ht=>afp T hy hm hM (ha _ (abQ ht))
end
end Go.Pv
namespace Go.Pv
variable {P:Program}
section
variable {ax sch lc cl ls' ss lm mg lp tp au le ed ti tx tb:TypeId} {typ sym mem val raw ls lsym lmem lval lraw t64:TypeId}
theorem afK (U:aep P ax sch lc cl ls' ss lm mg lp tp au le ed ti tx tb) (T:VJ P sch typ sym mem val raw ls lsym lmem lval lraw tx ti t64 tb) (hy:24<=P.bytesOf sym) (hm:24<=P.bytesOf mem) {M n:Nat} (hM:M<=140737488351232) {v:ij} (h:afL P M n ax [.str v.name,.aq 0 (v.types.map aH.c),.aq 0 (ch v.calls),.aq 0 (aG v.aG),.aq 0 (df v.aT)]):∀t∈v.types,t.held:=by
 cases n with
 |zero=>exact h.elim
 |succ n=>
  obtain⟨fs,hu,hts⟩:=U.v
  obtain⟨r0,q0,e0,h0,r1,q1,rfl,h1,_⟩:=abg hu hts h
  obtain⟨x0,rfl⟩:=afJ U.x h0
  cases n with
  |zero=>exact h1.elim
  |succ n=>
   have h2:=h1
   obtain⟨fs,hu,hts⟩:=T.s
   obtain⟨r2,q2,rfl,h3,rfl⟩:=abg hu hts h1
   obtain⟨a,rfl,_,_⟩:=sliceB T.l h3
   simp only[List.cons_append,List.nil_append,List.append_nil,List.cons.injEq,PV.aq.injEq]at e0
   obtain⟨_,⟨_,rfl⟩,_⟩:=e0
   exact afq T hy hm hM h2
end
end Go.Pv
