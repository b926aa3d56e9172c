/-
 What the functions of the law give.
-/
import Derived.Test.YtpchfogcccagjaaGreatC9
set_option linter.unusedSimpArgs false
set_option linter.unusedVariables false
open List renaming mem_of_getElem? → aaj, getElem?_eq_some_iff → aak, getElem?_eq_getElem → aal, length_map → aam, mem_iff_getElem? → aan, getElem?_append_left → aao, mem_map → aaq, length_append → aas, getElem?_append_right → aav, append_assoc → aay, mem_cons_of_mem → aaz, length_take → aaA, take_of_length_le → aaB, findIdx?_eq_some_iff_getElem → aaC, eq_nil_of_length_eq_zero → aaD, mem_cons → aaE, all_eq_true → aaF, getElem?_set_self → aaG, take_add_one → aaH, pairwise_cons → aaI, mem_cons_self → aaN, take_length → aaQ, any_eq_false → aaW, mem_append → aaY, getElem?_drop → aa1, mem_append_left → aa2, findIdx?_eq_none_iff → aa3, mem_singleton → aa7, mem_append_right → aa9, foldl_cons → abd, any_eq_true → abg, pairwise_iff_getElem → abh, getElem?_zip_eq_some → abn, getElem_of_mem → abo, take_append_drop → abr, take_append_of_le_length → abC, nodup_append → abL, drop_of_length_le → abQ, map_cons → abV, drop_eq_getElem_cons → ab0, mem_flatMap → ab5, set_append_right → acg, length_cons → ach, not_mem_nil → acj
open Nat renaming lt_or_ge → aar, le_refl → aau, zero_le → aaS, zero_add → ab2, add_zero → ab4, sub_self → acf
open Bool renaming true_and → aa8, eq_false_iff → abp, and_eq_true → abE, false_and → abG, and_false → ace
open Option renaming isSome_iff_exists → abq
namespace Go.Pv
@[go_sem] theorem r65 (e:Edge)(u:Nat)(s:Int)(cs:List PV):res A ay 65 [.agg [.int .i64 e.fr,.bool e.send,.int .i64 e.label,.int .i64 e.to],.ro u (.int .i64 s::cs)]=some [.bool (!decide (e.fr=s))]:=by
 refine ai a65 rfl rfl ?_;simp only[F65,Yt];simp(disch:=omega)only[go_sem]
theorem r77 (g t u:Nat)(cs:List PV)(l:List Edge)(p:Edge->Bool)(hl:l.length<=2^63 - 1)(hi:rU A g=false)(hp:ay g=none)(ht:ef A g=false)(hf:∀x∈l,res A ay g [.agg [.int .i64 x.fr,.bool x.send,.int .i64 x.label,.int .i64 x.to],.ro u cs]=some [.bool (p x)]):res A ay 77 [.ae t (bX l),.func g [.ro u cs]]=some [.int .i64 (rj p l)]:=by
 refine ai a77 rfl rfl ?_;simp only[F77,Yv];simp(disch:=omega)only[go_sem];refine W.find l p (λk=>⟨[(0,.pv (.ae t (bX l))),(1,.pv (.func g [.ro u cs])),(7,.pv (.int .i64 l.length)),(8,.pv (.int .i64 k))],⟨[],[],[]⟩⟩) rfl (λk x hx hk hfd=>?_) (λhn=>?_)
 .have hfx:=hf x (aaj hx);simp(disch:=omega)only[go_sem];refine Br.aF (λh=>?_) (λh=>(h (by omega)).elim);simp(disch:=omega)only[go_sem,hx,El hi hp ht,hfx];refine Br.of (λh2=>?_) (λh2=>?_)<;>simp(disch:=omega)only[go_sem]
  .rw[(hfd h2).rj]
  .exact aX.of h2 rfl
 .simp(disch:=omega)only[go_sem];rw[hn.rj]
theorem tB {α:Type}{p:α->Bool}{l:List α}{k:Nat}{x:α}(h:l[k]?=some x):(l.take (k+1)).filter p=if p x=true then (l.take k).filter p++[x] else (l.take k).filter p:=by
 rw[aaH,h,List.filter_append];by_cases hp:p x=true<;>simp[hp]
theorem Jf (c l:List Edge)(v:Edge)(h:c.length<l.length):(c++l.drop c.length).set c.length v=(c++[v])++l.drop (c++[v]).length:=by
 rw[acg _ _ (aau _),acf,aay];have:(c++[v]).length=c.length+1:=by simp
 rw[this,ab0 h];rfl
@[go_sem] theorem Q8 (bx:List (Nat×List V))(mp:List (List (PV×PV)))(ar:List aL)(v n:Nat)(l:List Edge):bV ⟨bx,⟨v,4,.inl (bX l)⟩::ar,mp⟩ true (.own 0 v 0 n)=some (.fr 4 (bX (l.take n))):=by
 simp[bV,fC,aC,bX]
theorem Jg (bx:List (Nat×List V))(mp:List (List (PV×PV)))(ar:List aL)(v off len:Nat)(l:List Edge)(h:off+len<=l.length):HG ⟨bx,⟨v,4,.inl (bX l)⟩::ar,mp⟩ 4 [.pv (.int .i64 0),.pv (.bool false),.pv (.int .i64 0),.pv (.int .i64 0)] (.own 0 v off len)=
  some (.dR [],{ar:=some (0,⟨v,4,.inl (bX (l.take off++List.replicate len ⟨0,false,0,0⟩++l.drop (off+len)))⟩)}):=by
 simp[HG,aC,aA,V.bU,PV.perm,bX,h,Edge.c]
@[go_sem] theorem Q9 {id aw v len:Nat}{l:List Edge}(hn:len=l.length):tf id aw len ⟨v,4,.inl (bX l)⟩=some ([.fr 4 (bX l)],some (id,⟨aw+1,0,.inl []⟩)):=by
 subst hn;simp[tf,aL.size,cn]
@[go_sem] theorem Ti (l:List Edge)(n:Nat):(bX l).take n=bX (l.take n):=by simp[bX]
set_option maxHeartbeats 4000000 in
@[go_sem] theorem r63 (l:List Edge)(s:Int)(hl:l.length<=2000000000):res A ay 63 [.fr 4 (bX l),.func 65 [.ro 2 [.int .i64 s]]]=some [.fr 4 (bX (aK l s))]:=by
 refine ai a63 rfl rfl ?_;simp only[F63,Xb];have h77:=λt:Nat=>r77 65 t 2 [.int .i64 s] l (λe=>!decide (e.fr=s)) (by omega) (by kernel_rfl) (by kernel_rfl) (by kernel_rfl) (λx _=>r65 x 2 s []);have hlt:l.take l.length=l:=aaQ;cases hfi:l.findIdx? (λe=>!decide (e.fr=s))with
 |none=>
  have hix:rj (λe=>!decide (e.fr=s)) l= -1:=by unfold rj;rw[hfi]
  rw[aa3]at hfi;have hall:aK l s=l:=by
   unfold aK;rw[List.filter_eq_self];intro e he;have:=hfi e he;simpa using this
  simp(disch:=omega)only[go_sem,h77,hlt,hix,hall]
 |some k=>
  have hix:rj (λe=>!decide (e.fr=s)) l=(k:Int):=by unfold rj;rw[hfi]
  rw[aaC]at hfi;obtain⟨hk,hp,hbefore⟩:=hfi;have hne:¬(k:Int)= -1:=by omega
  have hpre:aK (l.take (k+1)) s=l.take k:=by
   unfold aK;rw[tB (List.getElem?_eq_getElem hk),if_neg (by simpa using hp),List.filter_eq_self];intro e he;obtain⟨j,hj,rfl⟩:=abo he;rw[aaA]at hj;have:=hbefore j (by omega);simpa using this
  simp(disch:=omega)only[go_sem,h77,hlt,hix,hne];refine W.dx (l.length - (k+1)) (λj=>⟨[(0,.own 0 0 0 l.length),(1,.pv (.func 65 [.ro 2 [.int .i64 s]])),(5,.pv (.int .i64 (aK (l.take (k+1+j)) s).length)),(6,.pv (.int .i64 (k+1+j:Nat)))],⟨[],[⟨0,4,.inl (bX (aK (l.take (k+1+j)) s++l.drop (aK (l.take (k+1+j)) s).length))⟩],[]⟩⟩) (λj=>(aK (l.take (k+1+j)) s).length<=k+j) ?_ ?_ λj hj hw=>?_
  .simp only[Nat.add_zero,hpre,List.length_take,Nat.min_eq_left (Nat.le_of_lt hk)];rw[abr];rfl
  .simp only[Nat.add_zero,hpre,List.length_take];omega
  have hkeep:∀q,(aK (l.take (k+1+j)) s).length<=q->(aK (l.take (k+1+j)) s++l.drop (aK (l.take (k+1+j)) s).length)[q]?=l[q]?:=λq hq=>by
   rw[aav hq,aa1];congr 1;omega
  have hln:(aK (l.take (k+1+j)) s++l.drop (aK (l.take (k+1+j)) s).length).length=l.length:=by simp;omega
  simp(disch:=omega)only[go_sem];refine Br.aF (λh=>?_) (λh=>?_)
  .obtain⟨x,hx⟩:=get_at (l:=l) (k:=k+1+j) (by omega);have h65:=r65 x 2 s [];have hst:aK (l.take (k+1+(j+1))) s=if (x.fr==s)=true then aK (l.take (k+1+j)) s++[x] else aK (l.take (k+1+j)) s:=tB hx
   simp(disch:=omega)only[go_sem,hkeep,hx,h65];refine Br.aF (λg=>?_) (λg=>?_)<;>simp(disch:=omega)only[go_sem,g]
   .rw[if_pos (by simp[g])]at hst;have hxe:(⟨s,x.send,x.label,x.to⟩:Edge)=x:=by rw[<- g]
    refine .of (by omega) ?_ ?_
    .show _=St.mk _ _;rw[hst,hxe,Jf _ _ _ (by omega),aas];rfl
    .show (aK _ s).length<=_;rw[hst,aas];simp;omega
   .rw[if_neg (by simp[g])]at hst;refine .of (by omega) ?_ ?_
    .show _=St.mk _ _;rw[hst];rfl
    .show (aK _ s).length<=_;rw[hst];omega
  .have hall:l.take (k+1+j)=l:=aaB (by omega);rw[hall]at hln hw |-;simp(disch:=omega)only[go_sem];rw[Jg _ _ _ _ _ _ _ (by omega)];have hl3:(aK l s++List.replicate (l.length - (aK l s).length) (⟨0,false,0,0⟩:Edge)).length=l.length:=by simp;omega
   have e1:List.take (aK l s).length (aK l s++List.drop (aK l s).length l)=aK l s:=by
    rw[abC (aau _),aaQ]
   have e2:List.drop ((aK l s).length+(l.length - (aK l s).length)) (aK l s++List.drop (aK l s).length l)=[]:=List.drop_eq_nil_of_le (by rw[hln];omega);rw[e1,e2];simp(disch:=omega)only[go_sem];have e3:List.take (aK l s).length (aK l s++List.replicate (l.length - (aK l s).length) (⟨0,false,0,0⟩:Edge))=aK l s:=by
    rw[abC (aau _),aaQ]
   rw[e3]
@[go_sem] theorem r63n (s:Int):res A ay 63 [.ae 0 [],.func 65 [.ro 2 [.int .i64 s]]]=some [.ae 0 []]:=by
 refine ai a63 rfl rfl ?_;simp only[F63,Xb];have h77:=r77 65 0 2 [.int .i64 s] [] (λe=>!decide (e.fr=s)) (by simp) (by kernel_rfl) (by kernel_rfl) (by kernel_rfl) (λx hx=>by cases hx);have hix:rj (λe:Edge=>!decide (e.fr=s)) []= -1:=rfl;rw[hix]at h77;have h77':res A ay 77 [.ae 0 [],.func 65 [.ro 2 [.int .i64 s]]]=some [.int .i64 (-1)]:=h77;simp(disch:=omega)only[go_sem,h77'];rfl
@[go_sem] theorem MA (h:aq)(v:V):cu h true [.tl [],v]=(cN h v).bind λq=>some ([.ae 0 [],q],none):=by
 simp only[cu,cD,if_true,aA];cases cN h v<;>rfl
def Jh (h:aq)(v:V):List PV×Option (Nat×aL)->Option (List PV×Option (Nat×aL))
 |([p],some (i,a))=>(cN {h with ar:=h.ar.set i a} v).bind λq=>some ([p,q],some (i,a))
 |_=>none
@[go_sem] theorem V5 (bx:List (Nat×List V))(ar:List aL)(mp:List (List (PV×PV)))(v:V)(p:PV)(i:Nat)(a:aL):Jh ⟨bx,ar,mp⟩ v ([p],some (i,a))=(cN ⟨bx,ar.set i a,mp⟩ v).bind λq=>some ([p,q],some (i,a)):=rfl
@[go_sem] theorem Lz (h:aq)(id aw len:Nat)(v:V):cu h true [.own id aw 0 len,v]=(aC h id aw).bind λa=>(tf id aw len a).bind (Jh h v):=by
 simp only[cu,cD];cases aC h id aw with
 |none=>rfl
 |some a=>
  simp only[Option.bind_some,if_true,tf];by_cases hc:a.size=len/\a.k≠0
  .cases hb:a.body with
   |inl rows=>
    simp only[hc,ne_eq,not_false_eq_true,and_self,if_true,Option.bind_some,Jh,aA];cases cN {h with ar:=h.ar.set id ⟨aw+1,0,.inl []⟩} v<;>rfl
   |inr rows=>simp[hc]
  .simp[hc]
@[go_sem] theorem r54 (t:Nat)(n s0 s:Int)(es:List Edge)(ht:t<=1)(hl:es.length<=2000000000):res A ay 54 [.agg [.int .i64 n,.int .i64 s0,.ae t (es.map Edge.c)],.int .i64 s]=some [.ae 0 (bX (aK es s))]:=by
 refine ai a54 rfl rfl ?_;simp only[F54,Yn];by_cases h0:es.length=0
 .have he:es=[]:=aaD h0;simp(disch:=omega)only[go_sem,tp,h0];rw[he];rfl
 .have hel:=nY es s;simp(disch:=omega)only[go_sem,tp,h0,List.take_length]
def eX (a b:Edge):Bool:=if a.send=b.send then decide (a.label<b.label) else b.send
@[go_sem] theorem r55 (a b:Edge):res A ay 55 [.agg [.int .i64 a.fr,.bool a.send,.int .i64 a.label,.int .i64 a.to],.agg [.int .i64 b.fr,.bool b.send,.int .i64 b.label,.int .i64 b.to]]=some [.bool (eX a b)]:=by
 refine ai a55 rfl rfl ?_;simp only[F55,Yo];simp(disch:=omega)only[go_sem];unfold eX;refine Br.aF (λh=>?_) (λh=>?_)<;>simp(disch:=omega)only[go_sem,h]
@[go_sem] theorem r56 (a:Edge):res A ay 56 [.agg [.int .i64 a.fr,.bool a.send,.int .i64 a.label,.int .i64 a.to]]=some [.agg [.bool a.send,.int .i64 a.label]]:=by
 refine ai a56 rfl rfl ?_;simp only[F56,Yp];simp(disch:=omega)only[go_sem]
def oO (only:Bool):List Edge->List Edge->Option (Edge×Int)
 |[],[]=>none
 |x::_,[]=>some (x,0)
 |[],y::m=>if only then oO only [] m else some (y,1)
 |x::l,y::m=>if eX x y=true then some (x,0) else if eX y x=true then (if only then oO only (x::l) m else some (y,1)) else oO only l m
termination_by l m=>l.length+m.length
structure wQ where
 x:Int
 y:Int
 path:List (Bool×Int)
 deriving DecidableEq,Inhabited
def Edge.act (e:Edge):Bool×Int:=(e.send,e.label)
def ig (b:List Edge)(n:wQ)(s:List (Int×Int)×List wQ)(e:Edge):List (Int×Int)×List wQ:=
 match bz n.y e.send e.label b with
 |some y=>if (e.to,y)∈s.1 then s else (s.1++[(e.to,y)],s.2++[⟨e.to,y,n.path++[e.act]⟩])
 |none=>s
def wR (a b:List Edge)(only:Bool):Nat->List (Int×Int)×List wQ->Option (List (Bool×Int)×Int)
 |0,_=>none
 |k+1,(seen,q)=>match q with
  |[]=>none
  |n::q=>match oO only (aK a n.x) (aK b n.y)with
   |some (e,w)=>some (n.path++[e.act],w)
   |none=>wR a b only k ((aK a n.x).foldl (ig b n) (seen,q))
def Ji (p:Int×Int):PV:=.agg [.int .i64 p.1,.int .i64 p.2]
def jo (s:List (Int×Int)):List (PV×PV):=s.map λp=>(Ji p,.bool true)
theorem wk (p q:Int×Int):jQ true [1,1] (Ji p) (Ji q)=some (decide (p=q)):=by
 obtain⟨a,b⟩:=p;obtain⟨c,d⟩:=q;simp only[jQ,Ji,if_true];simp only[go_sem];by_cases h1:a=c<;>by_cases h2:b=d<;>simp[h1,h2]
theorem E1 {p:Int×Int}:∀{s:List (Int×Int)}{i:Nat},p∉s->findKey true [1,1] (Ji p) (jo s) i=some none
 |[],i,_=>by simp[jo,findKey,wk]
 |q::s,i,h=>by
  simp only[List.mem_cons,not_or]at h;show findKey true [1,1] (Ji p) ((Ji q,.bool true)::jo s) i=_;simp only[findKey,wk,h.1,decide_false];exact E1 h.2
theorem E2 {p:Int×Int}:∀{s:List (Int×Int)}{i:Nat},p∈s->∃j,findKey true [1,1] (Ji p) (jo s) i=some (some (j,.bool true))
 |[],i,h=>by cases h
 |q::s,i,h=>by
  show ∃j,findKey true [1,1] (Ji p) ((Ji q,.bool true)::jo s) i=_;simp only[findKey,wk];by_cases e:p=q
  .exact⟨i,by simp[e]⟩
  .simp only[e,decide_false];exact E2 ((aaE.1 h).resolve_left e)
@[go_sem] theorem MB (z:V)(j:Nat)(p:PV):rW z false (some (j,p))=.pv p:=rfl
@[go_sem] theorem MC (z:V):rW z false none=z:=rfl
theorem Jj {ag:Bool}{ks:List Nat}{q p:PV}{id:Nat}{l:List (PV×PV)}(h:findKey ag ks q l 0=some none):y5 ag ks q p id l=some {mp:=some (id,l++[(q,p)])}:=by
 simp only[y5,h]
theorem DW (s:List (Int×Int))(p:Int×Int):jo s++[(Ji p,.bool true)]=jo (s++[p]):=by simp[jo]
def rq (ars:List aL)(v:V)(l:List (Bool×Int)):Prop:=(v=.tl []/\l=[])\/∃id aw,v=.own (id+1) aw 0 l.length/\l≠[]/\ars[id]?=some ⟨aw,2,.inl (gW l)⟩
theorem rq.more {ars:List aL}{v:V}{l:List (Bool×Int)}(h:rq ars v l)(x:List aL):rq (ars++x) v l:=by
 rcases h with h|⟨id,aw,h1,h2,h3⟩
 .exact .inl h
 .exact .inr ⟨id,aw,h1,h2,by rw[aao (aak.1 h3).1];exact h3⟩
theorem rq.calm {ars:List aL}{v:V}{l:List (Bool×Int)}(h:rq ars v l):v.calm=true/\v.sized=true/\v.bU=none/\v.cells=[v]:=by
 rcases h with⟨rfl,_⟩|⟨id,aw,rfl,_,_⟩<;>exact⟨rfl,rfl,rfl,rfl⟩
structure wm (off:Nat)(q:List wQ)(rows:List (List V))(ars:List aL):Prop where
 len:rows.length=off+q.length
 row:∀(i:Nat)(n:wQ),q[i]?=some n->∃v,rows[off+i]?=some [.pv (.int .i64 n.x),.pv (.int .i64 n.y),v]/\rq ars v n.path
theorem wm.pop {off:Nat}{n:wQ}{q:List wQ}{rows:List (List V)}{ars:List aL}(h:wm off (n::q) rows ars):wm (off+1) q rows ars where
 len:=by rw[h.len];simp;omega
 row i m hi:=by
  obtain⟨v,h1,h2⟩:=h.row (i+1) m (by simpa using hi);exact⟨v,by rw[show off+1+i=off+(i+1) by omega];exact h1,h2⟩
theorem wm.more {off:Nat}{q:List wQ}{rows:List (List V)}{ars:List aL}(h:wm off q rows ars)(x:List aL):wm off q rows (ars++x) where
 len:=h.len
 row i n hi:=by
  obtain⟨v,h1,h2⟩:=h.row i n hi;exact⟨v,h1,h2.more x⟩
theorem wm.push {off:Nat}{q:List wQ}{rows:List (List V)}{ars:List aL}(h:wm off q rows ars){n:wQ}{v:V}(hv:rq ars v n.path):wm 0 (q++[n]) ((rows.drop off).take q.length++[[.pv (.int .i64 n.x),.pv (.int .i64 n.y),v]]) ars where
 len:=by
  have:=h.len;simp;omega
 row i m hi:=by
  have hl:=h.len;rw[ab2];rcases aar i q.length with hlt|hge
  .rw[aao hlt]at hi;obtain⟨u,h1,h2⟩:=h.row i m hi;refine⟨u,?_,h2⟩;rw[List.getElem?_append_left (by simp;omega),List.getElem?_take,if_pos hlt,List.getElem?_drop];exact h1
  .rw[aav hge]at hi;have h0:i - q.length=0:=by
    have:=(aak.1 hi).1;simp at this;omega
   rw[h0]at hi;simp only[List.getElem?_cons_zero,Option.some.injEq]at hi;subst hi;refine⟨v,?_,hv⟩;rw[List.getElem?_append_right (by simp;omega)];have:i - ((rows.drop off).take q.length).length=0:=by simp;omega
   rw[this];rfl
theorem kL {l:List (Int×Int)}{n m:Nat}(hn:l.Nodup)(h:∀p∈l,(0<=p.1/\p.1<n)/\(0<=p.2/\p.2<m)):l.length<=n*m:=by
 have h1:=List.Nodup.length_le_of_subset (l₂:=(iota n).flatMap λp=>(iota m).map λq=>(p,q)) hn (λp hp=>by
  have:=h p hp;rw[ab5];exact⟨p.1,BD.2 this.1,aaq.2 ⟨p.2,BD.2 this.2,rfl⟩⟩)
 have h2:∀l:List Int,(l.flatMap λp=>(iota m).map λq=>(p,q)).length=l.length*m:=by
  intro l
  induction l with
  |nil=>simp
  |cons x l ih=>rw[List.flatMap_cons,List.length_append,ih];simp[iota];rw[Nat.add_mul];omega
 rw[h2,show (iota n).length=n by simp[iota]]at h1;exact h1
@[go_sem] theorem GD (l:List (Bool×Int))(d:Bool)(x:Int):gW l++[[.bool d,.int .i64 x]]=gW (l++[(d,x)]):=by simp[gW,K8]
@[go_sem] theorem MD (h:aq)(d:Bool)(x:Int):aJ h 2 (.tl []) (.tl [[.bool d,.int .i64 x]])=some (.own h.ar.length 0 0 1,{push:=[⟨0,2,.inl (gW [(d,x)])⟩],base:=h.ar.length}):=by
 have:=zb h 2 [] [.bool d,.int .i64 x] rfl (λx hx=>by cases hx) (by simp);exact this
@[go_sem] theorem LA (h:aq)(id aw off len:Nat)(d:Bool)(x:Int):aJ h 2 (.own id aw off len) (.tl [[.bool d,.int .i64 x]])=(aC h id aw).bind (Mo id aw off len 2 [.bool d,.int .i64 x]):=A5 h id aw off len 2 _ rfl
@[go_sem] theorem V6 {id aw len:Nat}{d:Bool}{x:Int}{l:List (Bool×Int)}(h1:len=l.length)(h2:l.length+1<=2147483648):Mo id aw 0 len 2 [.bool d,.int .i64 x] ⟨aw,2,.inl (gW l)⟩=some (.own id (aw+1) 0 (len+1),{ar:=some (id,⟨aw+1,2,.inl (gW (l++[(d,x)]))⟩)}):=by
 rw[HW (by rw[kI];exact h1) (by rw[kI];exact h2),GD]
@[go_sem] theorem Tj (h:aq)(k:Nat):cL k [.tl []] h=some (.tl [],{}):=by simp[cL,bj,aY]
def LB (h:aq)(id n:Nat)(a:aL):Option (V×Tn):=match a.body with
 |.inl rows=>if (rows.take n).all (·.length==2)=true/\(rows.take n).length<=aU then (if (rows.take n).length=0 then some (.tl [],{ra:=some id}) else some (.own h.ar.length 0 0 (rows.take n).length,{push:=[⟨0,2,.inl (rows.take n)⟩],ra:=some id,base:=h.ar.length})) else none
 |.inr _=>none
@[go_sem] theorem Ra (h:aq)(id aw n:Nat):cL 2 [.own id aw 0 n] h=(aC h id aw).bind (LB h id n):=by
 simp only[cL,bj];cases aC h id aw with
 |none=>rfl
 |some a=>
  cases hb:a.body<;>simp[aD,LB,hb,aY]
@[go_sem] theorem Tl {h:aq}{id n aw:Nat}{l:List (Bool×Int)}(hn:n=l.length)(h0:l.length≠0)(hm:l.length<=2147483648):LB h id n ⟨aw,2,.inl (gW l)⟩=some (.own h.ar.length 0 0 l.length,{push:=[⟨0,2,.inl (gW l)⟩],ra:=some id,base:=h.ar.length}):=by
 subst hn;have e1:(gW l).take l.length=gW l:=aaB (by rw[kI];exact aau _);have e2:((gW l).all λx=>x.length==2)=true:=by simp[gW,K8]
 simp[LB,e1,e2,kI,aU,hm,h0]
def wS:Option (List (Bool×Int)×Int)->List PV
 |none=>[.ae 0 [],.int .i64 0,.bool false]
 |some (p,w)=>[.ae 0 (gW p),.int .i64 w,.bool true]
theorem Jk (o:Bool):oO o [] []=none:=by rw[oO]
theorem Jl (o:Bool)(x:Edge)(l:List Edge):oO o (x::l) []=some (x,0):=by rw[oO]
theorem Jm (o:Bool)(y:Edge)(m:List Edge):oO o [] (y::m)=if o then oO o [] m else some (y,1):=by rw[oO]
theorem Jn (o:Bool)(x y:Edge)(l m:List Edge):oO o (x::l) (y::m)=if eX x y=true then some (x,0) else if eX y x=true then (if o then oO o (x::l) m else some (y,1)) else oO o l m:=by rw[oO]
theorem ME {bx:List (Nat×List V)}{mp:List (List (PV×PV))}{aw off len m:Nat}{rows:List (List V)}{r:List V}{ar:List aL}(h1:ar[m]?=some ⟨0,3,.inr [r]⟩)(h2:r.length=3)(h3:rows.length=off+len)(h4:len+1<=2147483648):
  aJ ⟨bx,⟨aw,3,.inr rows⟩::ar,mp⟩ 3 (.own 0 aw off len) (.own (m+1) 0 0 1)=some (.own 0 (aw+1) 0 (len+1),{ar:=some (0,⟨aw+1,3,.inr ((rows.drop off).take len++[r])⟩),ra:=some (m+1)}):=by
 simp[aJ,bj,aC,h1,aD,aY,aE,h2,aL.size,h3,aU,h4,aW]
structure tC (a b:aT)(k:Nat)(seen:List (Int×Int))(q:List wQ):Prop where
 nodup:seen.Nodup
 mem:∀p∈seen,(0<=p.1/\p.1<a.aj)/\(0<=p.2/\p.2<b.aj)
 count:k+seen.length=a.aj.toNat*b.aj.toNat+1+q.length
 node:∀n∈q,(0<=n.x/\n.x<a.aj)/\(0<=n.y/\n.y<b.aj)/\n.path.length<seen.length
 le:k<=145
theorem tC.push {a b:aT}{k:Nat}{seen:List (Int×Int)}{q:List wQ}(h:tC a b k seen q){x y:Int}{p:List (Bool×Int)}(hn:(x,y)∉seen)(hr:(0<=x/\x<a.aj)/\(0<=y/\y<b.aj))(hp:p.length<=seen.length):tC a b k (seen++[(x,y)]) (q++[⟨x,y,p⟩]) where
 nodup:=by
  rw[abL];exact⟨h.nodup,by simp,λu hu v hv e=>hn (by rw[List.mem_singleton]at hv;subst hv;subst e;exact hu)⟩
 mem u hu:=by
  rw[aaY,aa7]at hu;rcases hu with hu|rfl
  .exact h.mem u hu
  .exact hr
 count:=by
  have:=h.count;simp;omega
 node n hm:=by
  rw[aaY,aa7]at hm;rcases hm with hm|rfl
  .obtain⟨h1,h2,h3⟩:=h.node n hm;exact⟨h1,h2,by simp;omega⟩
  .exact⟨hr.1,hr.2,by simp;omega⟩
 le:=h.le
def V7 (t u:Nat)(a b:aT)(only:Bool)(aw off:Nat)(q:List wQ)(rows:List (List V))(ars:List aL)(seen:List (Int×Int)):St:=
 ⟨[(2,.pv (.bool only)),(3,.ptr 3 0),(4,.ptr 4 0),(9,.own 0 aw off q.length),(10,.map 0)],⟨[(3,[.pv (.int .i64 a.aj),.pv (.int .i64 a.start),.pv (.ae t (a.aa.map Edge.c))]),(4,[.pv (.int .i64 b.aj),.pv (.int .i64 b.start),.pv (.ae u (b.aa.map Edge.c))])],⟨aw,3,.inr rows⟩::ars,[jo seen]⟩⟩
set_option maxHeartbeats 4000000 in
@[go_sem] theorem r35 (t u:Nat)(a b:aT)(only:Bool)(ht:t<=1)(hu:u<=1)(ha:a.Good)(hb:b.Good):res A ay 35 [.agg [.int .i64 a.aj,.int .i64 a.start,.ae t (a.aa.map Edge.c)],.agg [.int .i64 b.aj,.int .i64 b.start,.ae u (b.aa.map Edge.c)],.bool only]=some (wS (wR a.aa b.aa only (a.aj.toNat*b.aj.toNat+1) ([(a.start,b.start)],[⟨a.start,b.start,[]⟩]))):=by
 refine ai a35 rfl rfl ?_;simp only[F35,Yd];have hal:=ha.len;have hbl:=hb.len;have hst:=ha.st;have hst':=hb.st;have hmx:=ha.mx;have hmx':=hb.mx;have hu0:y5 true [1,1] (PV.agg [PV.int IntKind.i64 a.start,PV.int IntKind.i64 b.start]) (PV.bool true) 0 []=some {mp:=some (0,jo [(a.start,b.start)])}:=rfl;simp(disch:=omega)only[go_sem,hu0];generalize hN:a.aj.toNat*b.aj.toNat+1=N;have hNb:N<=145:=by
  have:=Nat.mul_le_mul (show a.aj.toNat<=12 by omega) (show b.aj.toNat<=12 by omega);omega
 refine W.ET (α:=Nat×Nat×Nat×List wQ×List (List V)×List aL×List (Int×Int)) (λx=>V7 t u a b only x.2.1 x.2.2.1 x.2.2.2.1 x.2.2.2.2.1 x.2.2.2.2.2.1 x.2.2.2.2.2.2)
  (λx=>tC a b x.1 x.2.2.2.2.2.2 x.2.2.2.1/\wm x.2.2.1 x.2.2.2.1 x.2.2.2.2.1 x.2.2.2.2.2.1/\wR a.aa b.aa only x.1 (x.2.2.2.2.2.2,x.2.2.2.1)=wR a.aa b.aa only N ([(a.start,b.start)],[⟨a.start,b.start,[]⟩])) (λx=>x.1) (N,0,0,[⟨a.start,b.start,[]⟩],[[.pv (.int .i64 a.start),.pv (.int .i64 b.start),.tl []]],[],[(a.start,b.start)]) rfl ⟨⟨by simp,by simp;omega,by simp;omega,by simp;omega,hNb⟩,⟨rfl,λi n hi=>?_⟩,rfl⟩ λx hx=>?_
 .cases i with
  |zero=>
   cases hi;exact⟨.tl [],rfl,.inl ⟨rfl,rfl⟩⟩
  |succ i=>simp at hi
 obtain⟨k,aw,off,q,rows,ars,seen⟩:=x;obtain⟨hD,hQ,hres⟩:=hx;dsimp only at hD hQ hres;unfold V7;dsimp only;rw[<- hres];have hsb:=kL hD.nodup (n:=a.aj.toNat) (m:=b.aj.toNat) (λp hp=>by
  have:=hD.mem p hp;omega)
 have hcnt:=hD.count;rw[hN]at hcnt;cases q with
 |nil=>
  simp(disch:=omega)only[go_sem];refine Br.aF (λh=>absurd h (by omega)) (λh=>?_);simp(disch:=omega)only[go_sem];cases k<;>rfl
 |cons n q=>
  obtain⟨k,rfl⟩:∃k',k=k'+1:=⟨k - 1,by simp at hcnt;omega⟩;obtain⟨v,hv,hpv⟩:=hQ.row 0 n rfl;have hrl:=hQ.len;obtain⟨⟨x0,x1⟩,⟨y0,y1⟩,hpl⟩:=hD.node n (aaN ..);obtain⟨c1,c2,c3,c4⟩:=hpv.calm;have hoff:off<rows.length:=by simp at hrl;omega
  rw[ab4]at hv;simp(disch:=omega)only[go_sem];refine Br.aF (λh=>?_) (λh=>(h (by omega)).elim);simp(disch:=omega)only[go_sem,hv,c1];rw[Nat.add_sub_cancel];have hla:=nY a.aa n.x;have hlb:=nY b.aa n.y;generalize hA:aK a.aa n.x=la at hla |-;generalize hB:aK b.aa n.y=lb at hlb |-;have hdif:wR a.aa b.aa only (k+1) (seen,n::q)=match oO only la lb with
   |some (e,w)=>some (n.path++[e.act],w)
   |none=>wR a.aa b.aa only k (la.foldl (ig b.aa n) (seen,q)):=by rw[<- hA,<- hB];rfl
  rw[hdif];refine W.loop (α:=Nat×Nat) (λx=>⟨[(2,.pv (.bool only)),(3,.ptr 3 0),(4,.ptr 4 0),(9,.own 0 aw (off+1) q.length),(10,.map 0),(11,.ptr 11 0),(12,.pv (.ae 0 (bX la))),(13,.pv (.ae 0 (bX lb))),(14,.pv (.int .i64 x.1)),(15,.pv (.int .i64 x.2))],⟨[(3,[.pv (.int .i64 a.aj),.pv (.int .i64 a.start),.pv (.ae t (a.aa.map Edge.c))]),(4,[.pv (.int .i64 b.aj),.pv (.int .i64 b.start),.pv (.ae u (b.aa.map Edge.c))]),(11,[.pv (.int .i64 n.x),.pv (.int .i64 n.y),v])],⟨aw,3,.inr rows⟩::ars,[jo seen]⟩⟩)
   (λx=>x.1<=la.length/\x.2<=lb.length/\oO only (la.drop x.1) (lb.drop x.2)=oO only la lb) (λx=>(la.length - x.1)+(lb.length - x.2)) (0,0) rfl ⟨aaS _,aaS _,rfl⟩ λx hx=>?_
  obtain⟨i,j⟩:=x;obtain⟨hi,hj,hm⟩:=hx;dsimp only at hi hj hm;rw[<- hm];dsimp only;rcases aar i la.length with hi'|hi'
  .obtain⟨x,hx⟩:=get_at hi';rw[gI hx];rcases aar j lb.length with hj'|hj'
   .obtain⟨y,hy⟩:=get_at hj';rw[gI hy,Jn];simp(disch:=omega)only[go_sem];refine Br.aF (λh=>?_) (λh=>(h (by omega)).elim);simp(disch:=omega)only[go_sem,h];refine Br.aF (λh=>absurd h (by omega)) (λh=>?_);simp(disch:=omega)only[go_sem,h];refine Br.aF (λh=>?_) (λh=>(h (by omega)).elim);simp(disch:=omega)only[go_sem,h,hx,hy];refine Br.of (λl1=>?_) (λl1=>?_)<;>simp(disch:=omega)only[go_sem,l1,hx]
    .rw[if_pos l1];rcases hpv with⟨rfl,hp⟩|⟨id,pv,rfl,hne,hid⟩
     .simp(disch:=omega)only[go_sem];simp[cb,aD,wS,Edge.act,hp,gW]
     .simp(disch:=omega)only[go_sem,hid];have hlt:=(aak.1 hid).1;rw[aaG hlt];simp[cb,aD,wS,Edge.act,gW,List.take_of_length_le]
    rw[if_neg (by simp[l1])];refine Br.aF (λh=>absurd h (by omega)) (λh=>?_);simp(disch:=omega)only[go_sem,h,hx,hy];refine Br.of (λl2=>?_) (λl2=>?_)<;>simp(disch:=omega)only[go_sem,l2]
    .rw[if_pos l2];cases only with
     |true=>
      simp(disch:=omega)only[go_sem];refine⟨(i,j+1),⟨hi,by dsimp only;omega,?_⟩,by dsimp only;omega,rfl⟩;dsimp only;rw[if_pos rfl,gI hx]
     |false=>
      simp(disch:=omega)only[go_sem,hy];rcases hpv with⟨rfl,hp⟩|⟨id,pv,rfl,hne,hid⟩
      .simp(disch:=omega)only[go_sem];simp[cb,aD,wS,Edge.act,hp,gW]
      .simp(disch:=omega)only[go_sem,hid];have hlt:=(aak.1 hid).1;rw[aaG hlt];simp[cb,aD,wS,Edge.act,gW,List.take_of_length_le]
    .rw[if_neg (by simp[l2])];exact⟨(i+1,j+1),⟨by dsimp only;omega,by dsimp only;omega,rfl⟩,by dsimp only;omega,rfl⟩
   .obtain rfl:j=lb.length:=by omega
    rw[abQ hj',Jl];simp(disch:=omega)only[go_sem];refine Br.aF (λh=>?_) (λh=>(h (by omega)).elim);simp(disch:=omega)only[go_sem,h,hx];rcases hpv with⟨rfl,hp⟩|⟨id,pv,rfl,hne,hid⟩
    .simp(disch:=omega)only[go_sem];simp[cb,aD,wS,Edge.act,hp,gW]
    .simp(disch:=omega)only[go_sem,hid];have hlt:=(aak.1 hid).1;rw[aaG hlt];simp[cb,aD,wS,Edge.act,gW,List.take_of_length_le]
  .obtain rfl:i=la.length:=by omega
   rw[abQ hi'];rcases aar j lb.length with hj'|hj'
   .obtain⟨y,hy⟩:=get_at hj';rw[gI hy,Jm];simp(disch:=omega)only[go_sem];refine Br.aF (λh=>?_) (λh=>(h (by omega)).elim);simp(disch:=omega)only[go_sem,h];refine Br.aF (λh=>absurd h (by omega)) (λh=>?_);simp(disch:=omega)only[go_sem,h];cases only with
    |true=>
     simp(disch:=omega)only[go_sem];refine⟨(la.length,j+1),⟨hi,by dsimp only;omega,?_⟩,by dsimp only;omega,rfl⟩;dsimp only;rw[if_pos rfl,abQ hi']
    |false=>
     simp(disch:=omega)only[go_sem,hy];rcases hpv with⟨rfl,hp⟩|⟨id,pv,rfl,hne,hid⟩
     .simp(disch:=omega)only[go_sem];simp[cb,aD,wS,Edge.act,hp,gW]
     .simp(disch:=omega)only[go_sem,hid];have hlt:=(aak.1 hid).1;rw[aaG hlt];simp[cb,aD,wS,Edge.act,gW,List.take_of_length_le]
   .obtain rfl:j=lb.length:=by omega
    rw[abQ hj',Jk];simp(disch:=omega)only[go_sem];refine W.ET (α:=Nat×Nat×Nat×List wQ×List (List V)×List aL×List (Int×Int)) (λx=>⟨[(2,.pv (.bool only)),(3,.ptr 3 0),(4,.ptr 4 0),(9,.own 0 x.2.1 x.2.2.1 x.2.2.2.1.length),(10,.map 0),(11,.ptr 11 0),(124,.pv (.ae 0 (bX la))),(125,.pv (.int .i64 la.length)),(126,.pv (.int .i64 x.1))],⟨[(3,[.pv (.int .i64 a.aj),.pv (.int .i64 a.start),.pv (.ae t (a.aa.map Edge.c))]),(4,[.pv (.int .i64 b.aj),.pv (.int .i64 b.start),.pv (.ae u (b.aa.map Edge.c))]),(11,[.pv (.int .i64 n.x),.pv (.int .i64 n.y),v])],⟨x.2.1,3,.inr x.2.2.2.2.1⟩::x.2.2.2.2.2.1,[jo x.2.2.2.2.2.2]⟩⟩)
     (λx=>x.1<=la.length/\tC a b k x.2.2.2.2.2.2 x.2.2.2.1/\wm x.2.2.1 x.2.2.2.1 x.2.2.2.2.1 x.2.2.2.2.2.1/\rq x.2.2.2.2.2.1 v n.path/\n.path.length<x.2.2.2.2.2.2.length/\(la.drop x.1).foldl (ig b.aa n) (x.2.2.2.2.2.2,x.2.2.2.1)=la.foldl (ig b.aa n) (seen,q)) (λx=>la.length - x.1) (0,aw,off+1,q,rows,ars,seen) rfl
     ⟨Nat.zero_le _,⟨hD.nodup,hD.mem,by have:=hD.count;rw[List.length_cons]at this;dsimp only;omega,λm hm=>hD.node m (List.mem_cons_of_mem _ hm),by have:=hD.le;omega⟩,hQ.pop,hpv,hpl,rfl⟩ λx hx=>?_
    obtain⟨m,ver',off',q',rows',ars',seen'⟩:=x;obtain⟨hm',hD',hQ',hpv',hpl',hf⟩:=hx;dsimp only at hm' hD' hQ' hpv' hpl' hf;dsimp only;rw[<- hf];have hsb':=kL hD'.nodup (n:=a.aj.toNat) (m:=b.aj.toNat) (λp hp=>by
     have:=hD'.mem p hp;omega)
    have hcnt':=hD'.count;rw[hN]at hcnt';have hrl':=hQ'.len;rcases aar m la.length with hlt|hlt
    .obtain⟨e,he⟩:=get_at hlt;rw[gI he,abd];have hea:=aaj he;rw[<- hA,gm]at hea;have hef:=ff.1 (ha.fit e hea.1);simp(disch:=omega)only[go_sem];refine Br.aF (λh=>?_) (λh=>(h (by omega)).elim);simp(disch:=omega)only[go_sem,he];cases hn:bz n.y e.send e.label b.aa with
     |none=>
      simp(disch:=omega)only[go_sem,Option.isSome_none];have hadd:ig b.aa n (seen',q') e=(seen',q'):=by simp[ig,hn]
      exact⟨(m+1,ver',off',q',rows',ars',seen'),⟨by dsimp only;omega,hD',hQ',hpv',hpl',by rw[hadd]⟩,by dsimp only;omega,rfl⟩
     |some y=>
      simp only[Option.isSome_some,Option.getD_some];have hyr:0<=y/\y<b.aj:=by
       have hmem:=(fU hb.oI).1 hn;have hf2:=ff.1 (hb.fit _ hmem);exact⟨hf2.2.2.1,hf2.2.2.2.1⟩
      have hkb:=hD'.le;simp(disch:=omega)only[go_sem];by_cases hin:(e.to,y)∈seen'
      .obtain⟨j,hj⟩:=E2 (i:=0) hin;have hj:findKey true [1,1] (.agg [.int .i64 e.to,.int .i64 y]) (jo seen') 0=some (some (j,.bool true)):=hj;simp(disch:=omega)only[go_sem,hj];have hadd:ig b.aa n (seen',q') e=(seen',q'):=by simp[ig,hn,hin]
       exact⟨(m+1,ver',off',q',rows',ars',seen'),⟨by dsimp only;omega,hD',hQ',hpv',hpl',by rw[hadd]⟩,by dsimp only;omega,rfl⟩
      .have hj:findKey true [1,1] (.agg [.int .i64 e.to,.int .i64 y]) (jo seen') 0=some none:=E1 hin;have hup:y5 true [1,1] (.agg [.int .i64 e.to,.int .i64 y]) (.bool true) 0 (jo seen')=some {mp:=some (0,jo (seen'++[(e.to,y)]))}:=by
        rw[<- DW];exact Jj hj
       simp(disch:=omega)only[go_sem,hj,hup];rcases hpv' with⟨rfl,hp⟩|⟨id,pv,rfl,hne,hid⟩
       .simp(disch:=omega)only[go_sem];rw[ME (r:=[.pv (.int .i64 e.to),.pv (.int .i64 y),.own (ars'.length+1) 0 0 1]) (by simp) rfl hrl' (by omega)];simp(disch:=omega)only[go_sem];have hadd:ig b.aa n (seen',q') e=(seen'++[(e.to,y)],q'++[⟨e.to,y,n.path++[e.act]⟩]):=by simp[ig,hn,hin]
        refine⟨(m+1,ver'+1,0,q'++[⟨e.to,y,n.path++[e.act]⟩],(rows'.drop off').take q'.length++[[.pv (.int .i64 e.to),.pv (.int .i64 y),.own (ars'.length+1) 0 0 1]],ars'++[⟨0,2,.inl (gW [(e.send,e.label)])⟩]++[⟨0,3,.inr [[.pv (.int .i64 e.to),.pv (.int .i64 y),.own (ars'.length+1) 0 0 1]]⟩],seen'++[(e.to,y)]),⟨by dsimp only;omega,hD'.push hin ⟨⟨by omega,by omega⟩,hyr⟩ (by simp;omega),?_,.inl ⟨rfl,hp⟩,by simp;omega,by rw[hadd]⟩,by dsimp only;omega,?_⟩
        .rw[aay];refine(hQ'.more _).push (n:=⟨e.to,y,n.path++[e.act]⟩) (.inr ⟨ars'.length,0,?_,by simp,?_⟩)
         .simp[hp]
         .simp[hp,Edge.act]
        .dsimp only;rw[aas];rfl
       .have hne':n.path.length≠0:=λh=>hne (aaD h);simp(disch:=omega)only[go_sem,hid,List.getElem?_concat_length,List.set_append_right,Nat.sub_self,List.set_cons_zero,Nat.le_refl];rw[ME (r:=[.pv (.int .i64 e.to),.pv (.int .i64 y),.own (ars'.length+1) 1 0 (n.path.length+1)]) (by simp) rfl hrl' (by omega)];simp(disch:=omega)only[go_sem];have hadd:ig b.aa n (seen',q') e=(seen'++[(e.to,y)],q'++[⟨e.to,y,n.path++[e.act]⟩]):=by simp[ig,hn,hin]
        refine⟨(m+1,ver'+1,0,q'++[⟨e.to,y,n.path++[e.act]⟩],(rows'.drop off').take q'.length++[[.pv (.int .i64 e.to),.pv (.int .i64 y),.own (ars'.length+1) 1 0 (n.path.length+1)]],ars'++[⟨1,2,.inl (gW (n.path++[(e.send,e.label)]))⟩]++[⟨0,3,.inr [[.pv (.int .i64 e.to),.pv (.int .i64 y),.own (ars'.length+1) 1 0 (n.path.length+1)]]⟩],seen'++[(e.to,y)]),⟨by dsimp only;omega,hD'.push hin ⟨⟨by omega,by omega⟩,hyr⟩ (by simp;omega),?_,?_,by simp;omega,by rw[hadd]⟩,by dsimp only;omega,?_⟩
        .rw[aay];refine(hQ'.more _).push (n:=⟨e.to,y,n.path++[e.act]⟩) (.inr ⟨ars'.length,1,?_,by simp,?_⟩)
         .simp
         .simp[Edge.act]
        .dsimp only;rw[aay];exact rq.more (.inr ⟨id,pv,rfl,hne,hid⟩) _
        .dsimp only;rw[aas];rfl
    .obtain rfl:m=la.length:=by omega
     simp(disch:=omega)only[go_sem];refine⟨(k,ver',off',q',rows',ars',seen'),⟨hD',hQ',?_⟩,by dsimp only;omega,rfl⟩;dsimp only;rw[abQ hlt];rfl
theorem GF {a b c d:Edge}(h1:a.act=c.act)(h2:b.act=d.act):eX a b=eX c d:=by
 simp only[Edge.act,Prod.mk.injEq]at h1 h2;unfold eX;rw[h1.1,h1.2,h2.1,h2.2]
theorem jN {a b:Edge}(h:a.act=b.act):eX a b=false:=by
 rw[GF h rfl];simp[eX]
theorem B6 {a b c:Edge}(h1:eX a b=true)(h2:eX b c=true):eX a c=true:=by
 unfold eX at *;cases ha:a.send<;>cases hb:b.send<;>cases hc:c.send<;>simp_all<;>omega
theorem GG {a b:Edge}(h1:eX a b=false)(h2:eX b a=false):a.act=b.act:=by
 unfold eX at *;unfold Edge.act;cases ha:a.send<;>cases hb:b.send<;>simp_all<;>omega
def LC (l:List Edge):Prop:=l.Pairwise λx y=>eX x y=true
theorem aT.Good.LD {a:aT}(h:a.Good)(s:Int):LC (aK a.aa s):=by
 unfold LC aK;rw[List.pairwise_filter];refine h.JM.imp ?_;intro x y hxy hx hy;simp only[beq_iff_eq]at hx hy;unfold Edge.lt at hxy;unfold eX;rw[hx,hy]at hxy;cases hs:x.send<;>cases ht:y.send<;>simp_all
theorem n9 (o:Bool):∀(la lb:List Edge),LC la->LC lb->match oO o la lb with
  |none=>(∀x∈la,∃y∈lb,y.act=x.act)/\(o=false->∀y∈lb,∃x∈la,x.act=y.act)
  |some (e,w)=>(w=0/\e∈la/\∀y∈lb,y.act≠e.act)\/(w=1/\o=false/\e∈lb/\∀x∈la,x.act≠e.act)
 |[],[],_,_=>by
  rw[Jk];exact⟨λx hx=>(acj hx).elim,λ_ y hy=>(acj hy).elim⟩
 |x::l,[],_,_=>by
  rw[Jl];exact .inl ⟨rfl,by simp,λy hy=>(List.not_mem_nil hy).elim⟩
 |[],y::m,ha,hb=>by
  rw[Jm];cases o with
  |true=>
   rw[if_pos rfl];have h:=n9 true [] m ha (aaI.1 hb).2
   revert h
   cases oO true [] m with
   |none=>exact λ_=>⟨λx hx=>(acj hx).elim,λh=>by cases h⟩
   |some r=>
    rintro (⟨_,h,_⟩|⟨_,h,_⟩)
    .cases h
    .cases h
  |false=>
   rw[if_neg (by simp)];exact .inr ⟨rfl,rfl,by simp,λx hx=>(List.not_mem_nil hx).elim⟩
 |x::l,y::m,ha,hb=>by
  obtain⟨ha1,ha2⟩:=aaI.1 ha;obtain⟨hb1,hb2⟩:=aaI.1 hb;have keya:∀{z},eX z x=true->∀u∈x::l,u.act≠z.act:=λ{z} hz u hu e=>by
   rcases aaE.1 hu with rfl|hu
   .rw[jN e.symm]at hz;cases hz
   .have:=B6 hz (ha1 u hu)
    rw[jN e.symm]at this;cases this
  have keyb:∀{z},eX z y=true->∀u∈y::m,u.act≠z.act:=λ{z} hz u hu e=>by
   rcases aaE.1 hu with rfl|hu
   .rw[jN e.symm]at hz;cases hz
   .have:=B6 hz (hb1 u hu)
    rw[jN e.symm]at this;cases this
  rw[Jn];by_cases h1:eX x y=true
  .rw[if_pos h1];exact .inl ⟨rfl,by simp,keyb h1⟩
  .rw[if_neg h1];by_cases h2:eX y x=true
   .rw[if_pos h2];cases o with
    |true=>
     rw[if_pos rfl];have h:=n9 true (x::l) m ha hb2
     revert h
     cases oO true (x::l) m with
     |none=>
      rintro ⟨h,_⟩
      refine⟨λu hu=>?_,λh=>by cases h⟩;obtain⟨v,hv,e⟩:=h u hu;exact⟨v,aaz _ hv,e⟩
     |some r=>
      rintro (⟨h3,h4,h5⟩|⟨_,h,_⟩)
      .refine .inl ⟨h3,h4,λv hv=>?_⟩;rcases aaE.1 hv with rfl|hv
       .exact λe=>keya h2 _ h4 e.symm
       .exact h5 v hv
      .cases h
    |false=>
     rw[if_neg (by simp)];exact .inr ⟨rfl,rfl,by simp,keya h2⟩
   .rw[if_neg h2];have he:x.act=y.act:=GG (by simpa using h1) (by simpa using h2);have h:=n9 o l m ha2 hb2
    revert h
    cases oO o l m with
    |none=>
     rintro ⟨h3,h4⟩
     refine⟨λu hu=>?_,λho u hu=>?_⟩
     .rcases aaE.1 hu with rfl|hu
      .exact⟨y,by simp,he.symm⟩
      .obtain⟨v,hv,e⟩:=h3 u hu;exact⟨v,aaz _ hv,e⟩
     .rcases aaE.1 hu with rfl|hu
      .exact⟨x,by simp,he⟩
      .obtain⟨v,hv,e⟩:=h4 ho u hu;exact⟨v,aaz _ hv,e⟩
    |some r=>
     rintro (⟨h3,h4,h5⟩|⟨h3,h0,h4,h5⟩)
     .refine .inl ⟨h3,aaz _ h4,λv hv=>?_⟩;rcases aaE.1 hv with rfl|hv
      .intro e;have:=ha1 _ h4;rw[jN (he.trans e)]at this;cases this
      .exact h5 v hv
     .refine .inr ⟨h3,h0,aaz _ h4,λv hv=>?_⟩;rcases aaE.1 hv with rfl|hv
      .intro e;have:=hb1 _ h4;rw[jN (he.symm.trans e)]at this;cases this
      .exact h5 v hv
termination_by la lb=>la.length+lb.length
inductive PR (a b:List Edge)(s t:Int):List (Bool×Int)->Int->Int->Prop
 |nil:PR a b s t [] s t
 |snoc {p:List (Bool×Int)} {x y x' y':Int} {d:Bool} {l:Int}:PR a b s t p x y->bz x d l a=some x'->bz y d l b=some y'->PR a b s t (p++[(d,l)]) x' y'
theorem pW {a b:aT}{k:Nat}{n:wQ}(hb:b.Good):∀(l:List Edge)(seen:List (Int×Int))(q:List wQ),(∀e∈l,0<=e.to/\e.to<a.aj)->n.path.length<seen.length->tC a b k seen q->
  ∃seen' qs,l.foldl (ig b.aa n) (seen,q)=(seen',q++qs)/\tC a b k seen' (q++qs)/\(∀p∈seen,p∈seen')/\(∀p∈seen',p∈seen\/∃m∈qs,(m.x,m.y)=p)/\
   (∀m∈qs,∃e∈l,bz n.y e.send e.label b.aa=some m.y/\m.x=e.to/\m.path=n.path++[e.act])/\(∀e∈l,∀y,bz n.y e.send e.label b.aa=some y->(e.to,y)∈seen')
 |[],seen,q,_,_,hD=>⟨seen,[],by simp,by simpa using hD,λ_ h=>h,λ_ h=>.inl h,λ_ h=>(List.not_mem_nil h).elim,λ_ h=>(List.not_mem_nil h).elim⟩
 |e::l,seen,q,hl,hp,hD=>by
  have hl':∀e∈l,0<=e.to/\e.to<a.aj:=λf hf=>hl f (aaz _ hf);rw[abd];by_cases hadd:∃y,bz n.y e.send e.label b.aa=some y/\(e.to,y)∉seen
  .obtain⟨y,hy,hns⟩:=hadd;have hy':=hb.Lw hy;unfold aT.inr at hy';have h0:ig b.aa n (seen,q) e=(seen++[(e.to,y)],q++[⟨e.to,y,n.path++[e.act]⟩]):=by simp[ig,hy,hns]
   obtain⟨seen',qs,h1,h2,h3,h4,h5,h6⟩:=pW (n:=n) hb l _ _ hl' (by simp;omega) (hD.push (p:=n.path++[e.act]) hns ⟨hl e (by simp),hy'⟩ (by simp;omega));refine⟨seen',⟨e.to,y,n.path++[e.act]⟩::qs,?_,?_,?_,?_,?_,?_⟩
   .rw[h0,h1,aay];rfl
   .rw[aay]at h2;exact h2
   .exact λp hp=>h3 p (by simp[hp])
   .intro p hp;rcases h4 p hp with h|⟨m,hm,h⟩
    .rw[aaY,aa7]at h;rcases h with h|rfl
     .exact .inl h
     .exact .inr ⟨_,aaN ..,rfl⟩
    .exact .inr ⟨m,aaz _ hm,h⟩
   .intro m hm;rcases aaE.1 hm with rfl|hm
    .exact⟨e,by simp,hy,rfl,rfl⟩
    .obtain⟨f,hf,h⟩:=h5 m hm;exact⟨f,aaz _ hf,h⟩
   .intro f hf z hz;rcases aaE.1 hf with rfl|hf
    .rw[hy]at hz;cases hz;exact h3 _ (by simp)
    .exact h6 f hf z hz
  .have h0:ig b.aa n (seen,q) e=(seen,q):=by
    unfold ig;cases hn:bz n.y e.send e.label b.aa with
    |none=>rfl
    |some y=>
     have:(e.to,y)∈seen:=Classical.byContradiction λh=>hadd ⟨y,hn,h⟩;simp[this]
   obtain⟨seen',qs,h1,h2,h3,h4,h5,h6⟩:=pW (n:=n) hb l seen q hl' hp hD;refine⟨seen',qs,by rw[h0,h1],h2,h3,h4,?_,?_⟩
   .intro m hm;obtain⟨f,hf,h⟩:=h5 m hm;exact⟨f,aaz _ hf,h⟩
   .intro f hf z hz;rcases aaE.1 hf with rfl|hf
    .exact h3 _ (Classical.byContradiction λh=>hadd ⟨z,hz,h⟩)
    .exact h6 f hf z hz
theorem rr {a b:aT}(ha:a.Good)(hb:b.Good)(o:Bool):∀(k:Nat)(seen:List (Int×Int))(q:List wQ),tC a b k seen q->(∀n∈q,PR a.aa b.aa a.start b.start n.path n.x n.y)->
  (∀x y,(x,y)∈seen->(∃n∈q,n.x=x/\n.y=y)\/(oO o (aK a.aa x) (aK b.aa y)=none/\∀d l x' y',bz x d l a.aa=some x'->bz y d l b.aa=some y'->(x',y')∈seen))->(a.start,b.start)∈seen->
  match wR a.aa b.aa o k (seen,q)with
  |none=>∀p x y,PR a.aa b.aa a.start b.start p x y->oO o (aK a.aa x) (aK b.aa y)=none
  |some (p,w)=>∃(n:wQ)(e:Edge),PR a.aa b.aa a.start b.start n.path n.x n.y/\oO o (aK a.aa n.x) (aK b.aa n.y)=some (e,w)/\p=n.path++[e.act]/\n.path.length<1000
 |k,seen,[],hD,_,hs,h0=>by
  have:wR a.aa b.aa o k (seen,[])=none:=by cases k<;>rfl
  rw[this];have hin:∀p x y,PR a.aa b.aa a.start b.start p x y->(x,y)∈seen:=λp x y h=>by
   induction h with
   |nil=>exact h0
   |snoc _ h1 h2 ih=>
    rcases hs _ _ ih with⟨n,hn,_⟩|⟨_,h⟩
    .cases hn
    .exact h _ _ _ _ h1 h2
  intro p x y h;rcases hs _ _ (hin p x y h)with⟨n,hn,_⟩|⟨h,_⟩
  .cases hn
  .exact h
 |0,seen,n::q,hD,_,_,_=>by
  have h1:=hD.count;have h2:=kL hD.nodup (n:=a.aj.toNat) (m:=b.aj.toNat) (λp hp=>by
   have:=hD.mem p hp;omega)
  simp at h1;omega
 |k+1,seen,n::q,hD,hq,hs,h0=>by
  have hdif:wR a.aa b.aa o (k+1) (seen,n::q)=match oO o (aK a.aa n.x) (aK b.aa n.y)with
   |some (e,w)=>some (n.path++[e.act],w)
   |none=>wR a.aa b.aa o k ((aK a.aa n.x).foldl (ig b.aa n) (seen,q)):=rfl
  rw[hdif];cases hm:oO o (aK a.aa n.x) (aK b.aa n.y)with
  |some r=>
   obtain⟨e,w⟩:=r;refine⟨n,e,hq n (by simp),hm,rfl,?_⟩;have h1:=(hD.node n (by simp)).2.2;have h2:=kL hD.nodup (n:=a.aj.toNat) (m:=b.aj.toNat) (λp hp=>by
    have:=hD.mem p hp;omega)
   have h3:=ha.mx;have h4:=hb.mx;have:=Nat.mul_le_mul (show a.aj.toNat<=12 by omega) (show b.aj.toNat<=12 by omega);omega
  |none=>
   dsimp only;have hl:=(hD.node n (by simp)).2.2;obtain⟨seen',qs,h1,h2,h3,h4,h5,h6⟩:=pW (a:=a) (k:=k) (n:=n) hb (aK a.aa n.x) seen q (λe he=>by
    rw[gm]at he;have:=ff.1 (ha.fit e he.1);exact⟨this.2.2.1,this.2.2.2.1⟩) hl ⟨hD.nodup,hD.mem,by have:=hD.count;rw[ach]at this;omega,λm hm=>hD.node m (aaz _ hm),by have:=hD.le;omega⟩
   rw[h1];refine rr ha hb o k seen' (q++qs) h2 ?_ ?_ (h3 _ h0)
   .intro m hm';rcases aaY.1 hm' with hm'|hm'
    .exact hq m (aaz _ hm')
    .obtain⟨e,he,h7,h8,h9⟩:=h5 m hm';rw[gm]at he;rw[h9,h8];refine PR.snoc (d:=e.send) (l:=e.label) (hq n (by simp)) ((fU ha.oI).2 ?_) h7;have:(⟨n.x,e.send,e.label,e.to⟩:Edge)=e:=by rw[<- he.2]
     rw[this];exact he.1
   .intro x y hxy;have done:∀x y,((∃m∈n::q,m.x=x/\m.y=y)\/(oO o (aK a.aa x) (aK b.aa y)=none/\∀d l x' y',bz x d l a.aa=some x'->bz y d l b.aa=some y'->(x',y')∈seen))->(∃n∈q++qs,n.x=x/\n.y=y)\/(oO o (aK a.aa x) (aK b.aa y)=none/\∀d l x' y',bz x d l a.aa=some x'->bz y d l b.aa=some y'->(x',y')∈seen'):=by
     rintro x y (⟨m,hm',rfl,rfl⟩|⟨h,h'⟩)
     .rcases aaE.1 hm' with rfl|hm'
      .refine .inr ⟨hm,λd l x' y' hx hy=>?_⟩;exact h6 ⟨m.x,d,l,x'⟩ (gm.2 ⟨(fU ha.oI).1 hx,rfl⟩) y' hy
      .exact .inl ⟨m,aa2 _ hm',rfl,rfl⟩
     .exact .inr ⟨h,λd l x' y' hx hy=>h3 _ (h' d l x' y' hx hy)⟩
    rcases h4 _ hxy with h|⟨m,hm',h⟩
    .exact done x y (hs x y h)
    .simp only[Prod.mk.injEq]at h;exact .inl ⟨m,aa9 _ hm',h.1,h.2⟩
def aT.wR (a b:aT)(o:Bool):Option (List (Bool×Int)×Int):=Pv.wR a.aa b.aa o (a.aj.toNat*b.aj.toNat+1) ([(a.start,b.start)],[⟨a.start,b.start,[]⟩])
theorem aT.rr {a b:aT}(ha:a.Good)(hb:b.Good)(o:Bool):match a.wR b o with
  |none=>∀p x y,PR a.aa b.aa a.start b.start p x y->oO o (aK a.aa x) (aK b.aa y)=none
  |some (p,w)=>∃(n:wQ)(e:Edge),PR a.aa b.aa a.start b.start n.path n.x n.y/\oO o (aK a.aa n.x) (aK b.aa n.y)=some (e,w)/\p=n.path++[e.act]/\n.path.length<1000:=by
 have h1:=ha.st;have h2:=hb.st;have h3:=ha.mx;have h4:=hb.mx;have:=Nat.mul_le_mul (show a.aj.toNat<=12 by omega) (show b.aj.toNat<=12 by omega);refine Pv.rr ha hb o _ _ _ ⟨by simp,by simp;omega,by simp,by simp;omega,by omega⟩ ?_ ?_ (by simp)
 .intro n hn;rw[aa7]at hn;subst hn;exact .nil
 .intro x y hxy;simp only[List.mem_singleton,Prod.mk.injEq]at hxy;exact .inl ⟨_,aa7.2 rfl,hxy.1.symm,hxy.2.symm⟩
def mJ (a b:aT):Int:=if a.err=0 then b.err else a.err
set_option maxHeartbeats 1000000 in
@[go_sem] theorem r34 (t u:Nat)(a b:aT)(ha:a.aa.length<=2000000000)(hb:b.aa.length<=2000000000):res A ay 34 [.agg [.int .i64 a.aj,.int .i64 a.start,.ae t (a.aa.map Edge.c)],.agg [.int .i64 b.aj,.int .i64 b.start,.ae u (b.aa.map Edge.c)]]=some [.int .i64 (mJ a b)]:=by
 refine ai a34 rfl rfl ?_;simp only[F34,Yc];simp(disch:=omega)only[go_sem];refine Br.aF (λh=>?_) (λh=>?_)<;>simp(disch:=omega)only[go_sem,h]
 .unfold mJ;rw[if_pos h]
 .unfold mJ;rw[if_neg h]
theorem oD {a b:aT}(h:mJ a b=0):a.Good/\b.Good:=by
 unfold mJ at h;by_cases h1:a.err=0
 .rw[if_pos h1]at h;exact⟨aT.kj.1 h1,aT.kj.1 h⟩
 .rw[if_neg h1]at h;exact(h1 h).elim
theorem Jo (r:Option (List (Bool×Int)×Int)):wS r=[.ae 0 (gW (r.getD ([],0)).1),.int .i64 (r.getD ([],0)).2,.bool r.isSome]:=by
 cases r with
 |none=>rfl
 |some r=>rfl
@[go_sem] theorem r35a (t u:Nat)(a b:aT)(only:Bool)(ht:t<=1)(hu:u<=1)(h:mJ a b=0):res A ay 35 [.agg [.int .i64 a.aj,.int .i64 a.start,.ae t (a.aa.map Edge.c)],.agg [.int .i64 b.aj,.int .i64 b.start,.ae u (b.aa.map Edge.c)],.bool only]=some [.ae 0 (gW ((a.wR b only).getD ([],0)).1),.int .i64 ((a.wR b only).getD ([],0)).2,.bool (a.wR b only).isSome]:=by
 rw[r35 t u a b only ht hu (oD h).1 (oD h).2,Jo];rfl
set_option maxHeartbeats 1000000 in
@[go_sem] theorem r16 (t u:Nat)(a b:aT)(ht:t<=1)(hu:u<=1)(ha:a.aa.length<=2000000000)(hb:b.aa.length<=2000000000):res A ay 16 [.agg [.int .i64 a.aj,.int .i64 a.start,.ae t (a.aa.map Edge.c)],.agg [.int .i64 b.aj,.int .i64 b.start,.ae u (b.aa.map Edge.c)]]=some [.bool (decide (mJ a b=0)&&!(a.wR b false).isSome),.int .i64 (mJ a b)]:=by
 refine ai a16 rfl rfl ?_;simp only[F16,X6];simp(disch:=omega)only[go_sem];refine Br.aF (λh=>?_) (λh=>?_)
 .have h0:=h;simp(disch:=omega)only[go_sem,h0,r35a t u a b false ht hu h0]
 .simp(disch:=omega)only[go_sem,h]
noncomputable def ru (v w:eV)(c:j8):Bool:=match fg (λd=>decide (d.name=c.name)) w.calls with
 |some d=>eC v.types w.types c.lK d.lK&&eC v.types w.types c.rep d.rep
 |none=>false
noncomputable def wT (v w:eV)(c:ky):Bool:=match fg (λd=>decide (d.name=c.name)) w.aI with
 |some d=>eC v.types w.types c.ty d.ty
 |none=>false
noncomputable def GH (v w:eV)(m n:eU):Bool:=decide (m.id=n.id)&&eC v.types w.types m.ty n.ty
def B7 (a b:aT):Bool:=decide (mJ a b=0)&&!(a.wR b false).isSome
noncomputable def E3 (v w:eV)(x y:dt):Bool:=wP (GH v w) x.msgs y.msgs&&B7 x.auto y.auto
noncomputable def sH (v w:eV)(x:dt):Bool:=match fg (λd=>decide (d.name=x.name)) w.az with
 |some y=>E3 v w x y
 |none=>false
noncomputable def yB (v w:eV):Bool:=(decide (v.calls.length=w.calls.length)&&decide (v.az.length=w.az.length)&&decide (v.aI.length=w.aI.length))&&(v.calls.all (ru v w)&&v.aI.all (wT v w)&&v.az.all (sH v w))
noncomputable def yC (v w:eV):Bool×Int:=if rn v≠0 then (false,rn v) else if rn w≠0 then (false,rn w) else (yB v w,0)
theorem DX {α:Type}{f:α->Bool}{l:List α}(h:l.any (λx=>!f x)=true):l.all f=false:=by
 obtain⟨x,hx,hn⟩:=abg.1 h;rw[abp];intro h2;have:=aaF.1 h2 x hx;rw[this]at hn;cases hn
theorem zH {α:Type}{f:α->Bool}{l:List α}(h:l.any (λx=>!f x)=false):l.all f=true:=by
 rw[aaF];intro x hx;have:=aaW.1 h x hx;simpa using this
theorem cX.vt {v:eV}(h:cX v)(hv:gK v):VT v.types:=⟨hv.tl,hv.to,hv.ts,h.valid⟩
theorem ry {α:Type}{p:α->Bool}{l:List α}{x:α}(h:fg p l=some x):x∈l:=by
 unfold fg at h;cases hf:l.findIdx? p with
 |none=>rw[hf]at h;cases h
 |some j=>rw[hf]at h;exact aaj h
theorem r455 (s s' t1 t2 t3 t4 u1 u2 u3 u4:Nat)(v w:eV)(x y:Int)(hA:VT v.types)(hB:VT w.types)(hx:0<=x/\x<v.types.length)(hy:0<=y/\y<w.types.length):res A ay 455 [.int .i64 x,.int .i64 y,.ro s (eY t1 t2 t3 t4 v),.ro s' (eY u1 u2 u3 u4 w)]=some [.bool (eC v.types w.types x y)]:=by
 have h1:=λt u=>r456 t u v.types w.types x y hA hB hx hy;refine ai a455 rfl rfl ?_;simp only[F455,Pw,eY];simp(disch:=omega)only[go_sem,h1]
set_option maxHeartbeats 16000000 in
theorem r421 (t1 t2 t3 t4 u1 u2 u3 u4:Nat)(v w:eV)(hv:gK v)(hw:gK w):res A ay 421 [.agg (eY t1 t2 t3 t4 v),.agg (eY u1 u2 u3 u4 w)]=some [.bool (yC v w).1,.int .i64 (yC v w).2]:=by
 have h407:=r407 t1 t2 t3 t4 v hv;have h407':=r407 u1 u2 u3 u4 w hw;have l1:=hv.cl;have l2:=hv.sl;have l3:=hv.pl;have m1:=hw.cl;have m2:=hw.sl;have m3:=hw.pl;have h410:=λnm=>r410 u1 u2 u3 u4 w nm hw.cl;have h414:=λnm=>r414 u1 u2 u3 u4 w nm hw.pl;have h455:=λs s' x y=>r455 s s' t1 t2 t3 t4 u1 u2 u3 u4 v w x y;unfold yC;refine ai a421 rfl rfl ?_;simp only[F421,Pc,eY]at *;simp(disch:=omega)only[go_sem,h407];refine Br.aF (λc=>?_) (λc=>?_)<;>simp(disch:=omega)only[go_sem]
 rotate_left
 .rw[if_pos c]
 rw[if_neg (by simp[c])];simp(disch:=omega)only[go_sem,h407'];refine Br.aF (λc'=>?_) (λc'=>?_)<;>simp(disch:=omega)only[go_sem]
 rotate_left
 .rw[if_pos c']
 rw[if_neg (by simp[c'])];have gv:=sA c;have gw:=sA c';have tv:=gv.vt hv;have tw:=gw.vt hw;have hm:∀z∈w.az,z.msgs.length<=2147483648/\z.auto.aa.length<=2147483648:=λz hz=>by
  have h1:=(gw.kJ z hz).C6;have h2:=(hw.ss z hz).2.2.2;omega
 have h412:=λnm=>r412 u1 u2 u3 u4 w nm hw.sl hm;simp only[eY]at h412;unfold yB;cases d1:decide ((v.calls.length:Int)=w.calls.length)with
 |false=>
  have:=of_decide_eq_false d1;rw[decide_eq_false (show ¬v.calls.length=w.calls.length by omega)];simp(disch:=omega)only[go_sem,d1]
 |true=>
 have d1':=of_decide_eq_true d1;cases d2:decide ((v.az.length:Int)=w.az.length)with
 |false=>
  have:=of_decide_eq_false d2;rw[decide_eq_false (show ¬v.az.length=w.az.length by omega),ace];simp(disch:=omega)only[go_sem,d1,d2]
 |true=>
 have d2':=of_decide_eq_true d2;cases d3:decide ((v.aI.length:Int)=w.aI.length)with
 |false=>
  have:=of_decide_eq_false d3;rw[decide_eq_false (show ¬v.aI.length=w.aI.length by omega),ace];simp(disch:=omega)only[go_sem,d1,d2,d3]
 |true=>
 have d3':=of_decide_eq_true d3;simp(disch:=omega)only[go_sem,d1,d2,d3];rw[decide_eq_true (show v.calls.length=w.calls.length by omega),decide_eq_true (show v.az.length=w.az.length by omega),decide_eq_true (show v.aI.length=w.aI.length by omega),aa8,aa8,aa8];refine W.find v.calls (λc=>!ru v w c) (λk=>⟨[(2,.ptr 2 0),(3,.ptr 3 0),(8,.func 455 [.ptr 2 0,.ptr 3 0]),(62,.pv (.ae t2 (bm v.calls))),(63,.pv (.int .i64 v.calls.length)),(64,.pv (.int .i64 k))],⟨[(2,[.pv (.str v.name),.pv (.ae t1 (v.types.map aB.c)),.pv (.ae t2 (bm v.calls)),.pv (.ae t3 (az v.az)),.pv (.ae t4 (cg v.aI))]),(3,[.pv (.str w.name),.pv (.ae u1 (w.types.map aB.c)),.pv (.ae u2 (bm w.calls)),.pv (.ae u3 (az w.az)),.pv (.ae u4 (cg w.aI))])],[],[]⟩⟩) rfl (λk x hx hk hfd=>?_) (λhn=>?_)
 .have done:ru v w x=false->(some [PV.bool false,PV.int .i64 0]:Option (List PV))=some [.bool (v.calls.all (ru v w)&&v.aI.all (wT v w)&&v.az.all (sH v w)),.int .i64 0]:=λh=>by
   rw[DX (hfd (by rw[h];rfl)).any];rfl
  have hcl:=gv.call x (aaj hx);simp(disch:=omega)only[go_sem];refine Br.aF (λc=>?_) (λc=>(c (by omega)).elim);simp(disch:=omega)only[go_sem,hx,Option.map_some,j8.c,h410];unfold ru at done;cases hp:fg (λd=>decide (d.name=x.name)) w.calls with
  |none=>
   rw[hp]at done;simp(disch:=omega)only[go_sem,QM];exact done rfl
  |some d=>
   rw[hp]at done;dsimp only at done;have hd:=gw.call d (ry hp);have e1:=λs s'=>h455 s s' x.lK d.lK tv tw hcl.1 hd.1;have e2:=λs s'=>h455 s s' x.rep d.rep tv tw hcl.2 hd.2;have hcs:ru v w x=(eC v.types w.types x.lK d.lK&&eC v.types w.types x.rep d.rep):=by
    unfold ru;rw[hp]
   generalize eC v.types w.types x.lK d.lK=b1 at *;generalize eC v.types w.types x.rep d.rep=b2 at *;simp(disch:=omega)only[go_sem,QM,j8.c,e1];cases b1 with
   |false=>
    simp(disch:=omega)only[go_sem];exact done rfl
   |true=>
    simp(disch:=omega)only[go_sem,e2];cases b2 with
    |false=>
     simp(disch:=omega)only[go_sem];exact done rfl
    |true=>
     simp(disch:=omega)only[go_sem];exact aX.of (by rw[hcs];rfl) rfl
 rw[zH hn.any,aa8];clear hn;simp(disch:=omega)only[go_sem];refine W.find v.aI (λc=>!wT v w c) (λk=>⟨[(2,.ptr 2 0),(3,.ptr 3 0),(8,.func 455 [.ptr 2 0,.ptr 3 0]),(97,.pv (.ae t4 (cg v.aI))),(98,.pv (.int .i64 v.aI.length)),(99,.pv (.int .i64 k))],⟨[(2,[.pv (.str v.name),.pv (.ae t1 (v.types.map aB.c)),.pv (.ae t2 (bm v.calls)),.pv (.ae t3 (az v.az)),.pv (.ae t4 (cg v.aI))]),(3,[.pv (.str w.name),.pv (.ae u1 (w.types.map aB.c)),.pv (.ae u2 (bm w.calls)),.pv (.ae u3 (az w.az)),.pv (.ae u4 (cg w.aI))])],[],[]⟩⟩) rfl (λk x hx hk hfd=>?_) (λhn=>?_)
 .have done:wT v w x=false->(some [PV.bool false,PV.int .i64 0]:Option (List PV))=some [.bool (v.aI.all (wT v w)&&v.az.all (sH v w)),.int .i64 0]:=λh=>by
   rw[DX (hfd (by rw[h];rfl)).any];rfl
  have hcl:=gv.IU x (aaj hx);simp(disch:=omega)only[go_sem];refine Br.aF (λc=>?_) (λc=>(c (by omega)).elim);simp(disch:=omega)only[go_sem,hx,Option.map_some,ky.c,h414];unfold wT at done;cases hp:fg (λd=>decide (d.name=x.name)) w.aI with
  |none=>
   rw[hp]at done;simp(disch:=omega)only[go_sem,QN];exact done rfl
  |some d=>
   rw[hp]at done;dsimp only at done;have hd:=gw.IU d (ry hp);have e1:=λs s'=>h455 s s' x.ty d.ty tv tw hcl hd;have hcs:wT v w x=eC v.types w.types x.ty d.ty:=by
    unfold wT;rw[hp]
   generalize eC v.types w.types x.ty d.ty=b1 at *;simp(disch:=omega)only[go_sem,QN,ky.c,e1];cases b1 with
   |false=>
    simp(disch:=omega)only[go_sem];exact done rfl
   |true=>
    simp(disch:=omega)only[go_sem];exact aX.of (by rw[hcs];rfl) rfl
 rw[zH hn.any,aa8];clear hn;simp(disch:=omega)only[go_sem];refine W.find v.az (λc=>!sH v w c) (λk=>⟨[(3,.ptr 3 0),(8,.func 455 [.ptr 2 0,.ptr 3 0]),(123,.pv (.ae t3 (az v.az))),(124,.pv (.int .i64 v.az.length)),(125,.pv (.int .i64 k))],⟨[(2,[.pv (.str v.name),.pv (.ae t1 (v.types.map aB.c)),.pv (.ae t2 (bm v.calls)),.pv (.ae t3 (az v.az)),.pv (.ae t4 (cg v.aI))]),(3,[.pv (.str w.name),.pv (.ae u1 (w.types.map aB.c)),.pv (.ae u2 (bm w.calls)),.pv (.ae u3 (az w.az)),.pv (.ae u4 (cg w.aI))])],[],[]⟩⟩) rfl (λk x hx hk hfd=>?_) (λhn=>?_)
 .have done:sH v w x=false->(some [PV.bool false,PV.int .i64 0]:Option (List PV))=some [.bool (v.az.all (sH v w)),.int .i64 0]:=λh=>by
   rw[DX (hfd (by rw[h];rfl)).any]
  have hxm:=aaj hx;have hcl:=gv.kJ x hxm;have hce:=(hv.ss x hxm).2.2.2;have hfe:=hcl.C6;simp(disch:=omega)only[go_sem];refine Br.aF (λc=>?_) (λc=>(c (by omega)).elim);simp(disch:=omega)only[go_sem,hx,Option.map_some,dt.c,h412];cases hp:fg (λd=>decide (d.name=x.name)) w.az with
  |none=>
   have hcs:sH v w x=false:=by
    unfold sH;rw[hp]
   simp(disch:=omega)only[go_sem,Dt];exact done hcs
  |some y=>
   have hym:=ry hp;have hd:=gw.kJ y hym;have hde:=(hw.ss y hym).2.2.2;have hfd':=hd.C6;have hcs:sH v w x=(wP (GH v w) x.msgs y.msgs&&B7 x.auto y.auto):=by
    unfold sH;rw[hp];rfl
   simp(disch:=omega)only[go_sem,Dt,dt.c];cases d4:decide ((x.msgs.length:Int)=y.msgs.length)with
   |false=>
    have:=of_decide_eq_false d4;rw[sF (λe=>this (by rw[e])),abG]at hcs;simp(disch:=omega)only[go_sem];exact done hcs
   |true=>
   have d4':=of_decide_eq_true d4;simp(disch:=omega)only[go_sem];refine W.find (x.msgs.zip y.msgs) (λq=>!GH v w q.1 q.2) (λj=>⟨[(3,.ptr 3 0),(8,.func 455 [.ptr 2 0,.ptr 3 0]),(18,.ptr 18 0),(19,.ptr 19 0),(123,.pv (.ae t3 (az v.az))),(124,.pv (.int .i64 v.az.length)),(125,.pv (.int .i64 k)),(148,.pv (.ae 0 (x.msgs.map eU.c))),(149,.pv (.int .i64 x.msgs.length)),(150,.pv (.int .i64 j))],⟨[(2,[.pv (.str v.name),.pv (.ae t1 (v.types.map aB.c)),.pv (.ae t2 (bm v.calls)),.pv (.ae t3 (az v.az)),.pv (.ae t4 (cg v.aI))]),(3,[.pv (.str w.name),.pv (.ae u1 (w.types.map aB.c)),.pv (.ae u2 (bm w.calls)),.pv (.ae u3 (az w.az)),.pv (.ae u4 (cg w.aI))]),(18,x.c.map .pv),(19,y.c.map .pv)],[],[]⟩⟩) rfl (λj q hq hj hfq=>?_) (λhn=>?_)
   .obtain⟨h1,h2⟩:=fz hq;rw[cF (by omega)]at hj;have ha:=hcl.ty q.1 (aaj h1);have hb:=hd.ty q.2 (aaj h2);have e1:=λs s'=>h455 s s' q.1.ty q.2.ty tv tw ha hb;have hg:GH v w q.1 q.2=(decide (q.1.id=q.2.id)&&eC v.types w.types q.1.ty q.2.ty):=rfl;have done2:GH v w q.1 q.2=false->sH v w x=false:=λh=>by
     rw[hcs,zB (hfq (by rw[h];rfl)).any];rfl
    generalize eC v.types w.types q.1.ty q.2.ty=b1 at *;simp(disch:=omega)only[go_sem];refine Br.aF (λc=>?_) (λc=>(c (by omega)).elim);simp(disch:=omega)only[go_sem,h1,h2,Option.map_some,eU.c,dt.c];cases d5:decide (q.1.id=q.2.id)with
    |false=>
     simp(disch:=omega)only[go_sem];exact done (done2 (by rw[hg,d5];rfl))
    |true=>
     simp(disch:=omega)only[go_sem,h1,h2,Option.map_some,eU.c,dt.c,e1];cases b1 with
     |false=>
      simp(disch:=omega)only[go_sem];exact done (done2 (by rw[hg,d5];rfl))
     |true=>
      simp(disch:=omega)only[go_sem];exact aX.of (by rw[hg,d5];rfl) rfl
   .have hz:(x.msgs.zip y.msgs).length=x.msgs.length:=cF (by omega);rw[uo (g:=GH v w) (by omega) hn.any,aa8]at hcs;rw[hz];have ha:(decide (mJ x.auto y.auto=0)&&!(x.auto.wR y.auto false).isSome)=B7 x.auto y.auto:=rfl;simp(disch:=omega)only[go_sem,dt.c,ha];cases d6:B7 x.auto y.auto with
    |false=>
     rw[d6]at hcs;simp(disch:=omega)only[go_sem];exact done hcs
    |true=>
     rw[d6]at hcs;simp(disch:=omega)only[go_sem];exact aX.of (by rw[hcs];rfl) rfl
 .rw[zH hn.any];simp(disch:=omega)only[go_sem]
theorem jD {a:aT}(ha:a.Good){x:Int}{d:Bool}{l t:Int}(h:bz x d l a.aa=some t):(⟨x,d,l,t⟩:Edge)∈aK a.aa x:=gm.2 ⟨(fU ha.oI).1 h,rfl⟩
theorem jF {a:aT}(ha:a.Good){x:Int}{e:Edge}(h:e∈aK a.aa x):bz x e.send e.label a.aa=some e.to:=by
 obtain⟨h1,h2⟩:=gm.1 h;refine(fU ha.oI).2 ?_;have:(⟨x,e.send,e.label,e.to⟩:Edge)=e:=by rw[<- h2]
 rw[this];exact h1
theorem Jp {a b:aT}(ha:a.Good)(hb:b.Good){o:Bool}{x y:Int}(h:oO o (aK a.aa x) (aK b.aa y)=none):(∀d l,(bz x d l a.aa).isSome=true->(bz y d l b.aa).isSome=true)/\(o=false->∀d l,(bz y d l b.aa).isSome=true->(bz x d l a.aa).isSome=true):=by
 have hs:=n9 o _ _ (ha.LD x) (hb.LD y);rw[h]at hs;refine⟨λd l hd=>?_,λho d l hd=>?_⟩
 .obtain⟨t,ht⟩:=abq.1 hd;obtain⟨f,hf,he⟩:=hs.1 _ (jD ha ht);simp only[Edge.act,Prod.mk.injEq]at he;have:=jF hb hf;rw[he.1,he.2]at this;rw[this];rfl
 .obtain⟨t,ht⟩:=abq.1 hd;obtain⟨f,hf,he⟩:=hs.2 ho _ (jD hb ht);simp only[Edge.act,Prod.mk.injEq]at he;have:=jF ha hf;rw[he.1,he.2]at this;rw[this];rfl
theorem Jq {a b:aT}(ha:a.Good)(hb:b.Good){o:Bool}{x y:Int}{e:Edge}{w:Int}(h:oO o (aK a.aa x) (aK b.aa y)=some (e,w)):
  (w=0/\(bz x e.send e.label a.aa).isSome=true/\bz y e.send e.label b.aa=none)\/(w=1/\o=false/\(bz y e.send e.label b.aa).isSome=true/\bz x e.send e.label a.aa=none):=by
 have hs:=n9 o _ _ (ha.LD x) (hb.LD y);rw[h]at hs;rcases hs with⟨h1,h2,h3⟩|⟨h1,h0,h2,h3⟩
 .refine .inl ⟨h1,by rw[jF ha h2];rfl,?_⟩;cases hn:bz y e.send e.label b.aa with
  |none=>rfl
  |some t=>exact(h3 _ (jD hb hn) rfl).elim
 .refine .inr ⟨h1,h0,by rw[jF hb h2];rfl,?_⟩;cases hn:bz x e.send e.label a.aa with
  |none=>rfl
  |some t=>exact(h3 _ (jD ha hn) rfl).elim
theorem PR.ev {a b:aT}{p:List (Bool×Int)}{x y:Int}(h:PR a.aa b.aa a.start b.start p x y)(he:∀j,Ev a.aa b.aa j a.start b.start):∀j,Ev a.aa b.aa j x y:=by
 induction h with
 |nil=>exact he
 |@snoc _ _ _ _ _ d l _ h1 h2 ih=>
  intro j;have:=ih (j+1) d l;rw[h1,h2]at this;exact this
theorem Jr {a b:aT}(ha:a.Good)(hb:b.Good):a.wR b false=none↔∀j,Ev a.aa b.aa j a.start b.start:=by
 have hs:=aT.rr ha hb false;constructor
 .intro h;rw[h]at hs;have key:∀j p x y,PR a.aa b.aa a.start b.start p x y->Ev a.aa b.aa j x y:=by
   intro j
   induction j with
   |zero=>exact λ_ _ _ _=>trivial
   |succ j ih=>
    intro p x y hp d l;obtain⟨h1,h2⟩:=Jp ha hb (hs p x y hp);have h1:=h1 d l;have h2:=h2 rfl d l;cases hx:bz x d l a.aa with
    |none=>
     cases hy:bz y d l b.aa with
     |none=>trivial
     |some t=>rw[hx,hy]at h2;cases h2 rfl
    |some t=>
     cases hy:bz y d l b.aa with
     |none=>rw[hx,hy]at h1;cases h1 rfl
     |some u=>exact ih _ t u (hp.snoc hx hy)
  exact λj=>key j [] _ _ .nil
 .intro he;cases h:a.wR b false with
  |none=>rfl
  |some r=>
   obtain⟨p,w⟩:=r;rw[h]at hs;obtain⟨n,e,hp,hm,_⟩:=hs;have h1:=hp.ev he 1 e.send e.label;rcases Jq ha hb hm with⟨_,h2,h3⟩|⟨_,_,h2,h3⟩
   .rw[h3]at h1;obtain⟨t,ht⟩:=abq.1 h2;rw[ht]at h1;exact h1.elim
   .rw[h3]at h1;obtain⟨t,ht⟩:=abq.1 h2;rw[ht]at h1;exact h1.elim
theorem E4 {α β:Type}{g:α->β->Bool}{l:List α}{m:List β}:wP g l m=true↔l.length=m.length/\∀(i:Nat) a b,l[i]?=some a->m[i]?=some b->g a b=true:=by
 unfold wP;rw[abE,decide_eq_true_eq,aaF];constructor
 .rintro ⟨h1,h2⟩
  exact⟨h1,λi a b ha hb=>h2 (a,b) (aaj (i:=i) (by rw[abn];exact⟨ha,hb⟩))⟩
 .rintro ⟨h1,h2⟩
  refine⟨h1,λq hq=>?_⟩;obtain⟨i,hi⟩:=aan.1 hq;rw[abn]at hi;exact h2 i q.1 q.2 hi.1 hi.2
theorem DY {A B:List aB}{S:Nat->Nat->Prop}(hr:∀p q,S p q->p<A.length/\q<B.length)(ha:∀p q,S p q->ec (bf A p) (bf B q)=true)
  (hu:∀(M:List (List Bool)),(∀p q,S p q->gq M p q=true)->∀p q,S p q->Gv M (bf A p) (bf B q)=true):∀p q:Nat,S p q->eC A B p q=true:=
 DT (uq A B (aau _)) (λp q h=>by rw[Jb (hr p q h).1 (hr p q h).2];exact ha p q h) λM p q hM h=>hu M hM p q h
theorem LF {a b:aT}(ha:a.err=0)(hb:b.err=0):B7 a b=true↔∀j,Ev a.aa b.aa j a.start b.start:=by
 have h0:mJ a b=0:=by
  unfold mJ;simp[ha,hb]
 unfold B7;rw[h0,<- Jr (oD h0).1 (oD h0).2];simp
theorem Js {a:aT}(ha:a.err=0):B7 a a=true:=(LF ha ha).2 λj=>Ev.refl _ j _
theorem GI {α:Type}{p:α->Bool}{m:List α}{d:α}(h:d∈m)(hp:p d=true):∃e∈m,p e=true/\fg p m=some e:=by
 unfold fg;cases hf:m.findIdx? p with
 |none=>
  rw[aa3]at hf;rw[hf d h]at hp;cases hp
 |some j=>
  rw[aaC]at hf;obtain⟨hj,hpj,_⟩:=hf;exact⟨m[j],List.getElem_mem hj,hpj,by simp⟩
theorem DZ {α:Type}{p:α->Bool}{l:List α}{x:α}(h:fg p l=some x):p x=true:=by
 unfold fg at h;cases hf:l.findIdx? p with
 |none=>rw[hf]at h;cases h
 |some j=>
  rw[hf]at h;rw[aaC]at hf;obtain⟨hj,hpj,_⟩:=hf;simp[List.getElem?_eq_getElem hj]at h;rw[<- h];exact hpj
def wo {α:Type}(f:α->ByteArray)(P:α->α->Bool)(m:List α)(c:α):Bool:=match fg (λd=>decide (f d=f c)) m with
 |some d=>P c d
 |none=>false
theorem Jt {α β:Type}{f:α->β}{m:List α}(h:(m.map f).Nodup){x y:α}(hx:x∈m)(hy:y∈m)(e:f x=f y):x=y:=by
 induction m with
 |nil=>simp at hx
 |cons a m ih=>
  rw[abV,List.nodup_cons]at h;rcases aaE.1 hx with hx|hx
  .rcases aaE.1 hy with hy|hy
   .rw[hx,hy]
   .exact absurd (aaq.2 ⟨y,hy,by rw[<- e,hx]⟩) h.1
  .rcases aaE.1 hy with hy|hy
   .exact absurd (aaq.2 ⟨x,hx,by rw[e,hy]⟩) h.1
   .exact ih h.2 hx hy
theorem wq {α:Type}{f:α->ByteArray}{P:α->α->Bool}{m:List α}(hm:(m.map f).Nodup){c:α}:wo f P m c=true↔∃d∈m,f d=f c/\P c d=true:=by
 unfold wo;constructor
 .intro h;cases hp:fg (λd=>decide (f d=f c)) m with
  |none=>rw[hp]at h;cases h
  |some d=>
   rw[hp]at h;exact⟨d,ry hp,of_decide_eq_true (DZ (p:=λd=>decide (f d=f c)) hp),h⟩
 .rintro ⟨d,hd,e,h⟩
  obtain⟨d',h1,h2,h3⟩:=GI (p:=λd=>decide (f d=f c)) hd (decide_eq_true e);rw[h3];have:d'=d:=Jt hm h1 hd (by rw[of_decide_eq_true h2,e]);rw[this];exact h
noncomputable def MF (A B:List aB)(c d:j8):Bool:=eC A B c.lK d.lK&&eC A B c.rep d.rep
noncomputable def V8 (A B:List aB)(c d:ky):Bool:=eC A B c.ty d.ty
theorem Ju (v w:eV):ru v w=wo j8.name (MF v.types w.types) w.calls:=by
 funext c;unfold ru wo;cases fg (λd=>decide (d.name=c.name)) w.calls<;>rfl
theorem LG (v w:eV):wT v w=wo ky.name (V8 v.types w.types) w.aI:=by
 funext c;unfold wT wo;cases fg (λd=>decide (d.name=c.name)) w.aI<;>rfl
theorem LH (v w:eV):sH v w=wo dt.name (E3 v w) w.az:=by
 funext c;unfold sH wo;cases fg (λd=>decide (d.name=c.name)) w.az<;>rfl
theorem LI {l:List ByteArray}{s:ByteArray}(h:cz l s=false):s∉l:=λhm=>by
 unfold cz at h;have:=aaW.1 h s hm;simp at this
theorem sI {α:Type}{f:α->ByteArray}{l:List α}(h:∀(k:Nat) c,l[k]?=some c->cz ((l.map f).take k) (f c)=false):(l.map f).Nodup:=by
 rw[List.nodup_iff_pairwise_ne,abh];intro i j hi hj hij e;rw[aam]at hi hj;have:=LI (h j l[j] (aal hj));apply this;rw[List.mem_take_iff_getElem];refine⟨i,by rw[aam];omega,?_⟩;rw[e,List.getElem_map]
theorem cX.fp {v:eV}(h:cX v):(v.calls.map j8.name).Nodup:=sI λk c hc=>(sB (h.Xx k c hc)).2.1
theorem cX.pM {v:eV}(h:cX v):(v.aI.map ky.name).Nodup:=sI λk c hc=>(sC (h.top k c hc)).2.1
theorem cX.fF {v:eV}(h:cX v):(v.az.map dt.name).Nodup:=sI λk c hc=>(yp (h.Zx k c hc)).1
theorem Jv (v w:eV):yB v w=true↔(v.calls.length=w.calls.length/\v.az.length=w.az.length/\v.aI.length=w.aI.length)/\v.calls.all (wo j8.name (MF v.types w.types) w.calls)=true/\v.aI.all (wo ky.name (V8 v.types w.types) w.aI)=true/\v.az.all (wo dt.name (E3 v w) w.az)=true:=by
 unfold yB;rw[Ju,LG,LH];simp only[Bool.and_eq_true,decide_eq_true_eq,and_assoc]
end Go.Pv
