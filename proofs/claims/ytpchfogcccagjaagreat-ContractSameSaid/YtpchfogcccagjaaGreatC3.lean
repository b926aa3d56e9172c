/-
 What the functions of the law give.
-/
import Derived.Test.YtpchfogcccagjaaGreatC2
set_option linter.unusedSimpArgs false
set_option linter.unusedVariables false
open List renaming mem_of_getElem? → Wa, getElem?_eq_some_iff → V9, getElem?_eq_getElem → Wb, mem_iff_getElem? → Wd, length_map → Wg, getElem?_map → Wf, getElem?_append_left → We, mem_map → Wk, eq_nil_of_length_eq_zero → Wp, length_range → WI, getElem?_append_right → Wn, length_append → Wz, mem_cons_of_mem → W3, getElem?_set_self → WU, getElem?_take → Wy, map_append → WC, mem_cons_self → WH, mem_range → WJ, append_assoc → WK, take_add_one → WL, getElem?_eq_none → WS, any_eq_false → WY, take_length → WV, ext_getElem? → WW, mem_singleton → Xj, mem_filterMap → W4, getElem?_range → Xr, append_nil → Xh, range_succ → Xq, getElem_mem → Xc, pairwise_iff_getElem → Xd, map_take → abp, mem_filter → Xl, find?_eq_none → Xn, map_map → Xw, pairwise_singleton → XC, find?_some → XH, filterMap_append → XI, length_pos_iff → abx, mem_of_find?_eq_some → afu, getElem?_set → afz, pairwise_map → afs, pairwise_lt_range → afy, map_id → afD
open Nat renaming le_refl → Wj, lt_or_ge → Wh, mod_lt → Wt, zero_le → WA, le_trans → WM, lt_of_lt_of_le → W6, sub_self → afA, min_eq_left → afF
open Int renaming toNat_natCast → WX
open Bool renaming eq_false_iff → Xz
namespace Go.Pv
def wB (row:List V)(cs:List PV):Prop:=∀h d,ay (aY h (d+1)) row=some cs
theorem ER {w:Nat}{bx:List (Nat×List V)}{ar:List aL}{mp:List (List (PV×PV))}{y:V}{new:Sum (List (List PV)) (List (List V))}{rd:Option Nat}{row:List V}(hs:aW ⟨bx,ar,mp⟩ y=some (new,rd))(hn:dX new=[row])(hr:row.length=w):
  aK ⟨bx,ar,mp⟩ w (.tl []) y=some (.own ar.length 0 0 1,{push:=[⟨0,w,aU (.inl []) new⟩],ra:=rd,base:=ar.length}):=by
 have h1:aD new=1:=by rw[<- im,hn];rfl
 have h2:aO w new=true:=ox (by rw[hn];intro r hr';rw[Xj]at hr';rw[hr'];exact hr);simp only[aK,hs,h2,h1,if_true];simp[aO,aN]
theorem Hw {w:Nat}{bx:List (Nat×List V)}{ar:List aL}{mp:List (List (PV×PV))}{y:V}{new:Sum (List (List PV)) (List (List V))}{rd:Option Nat}{row:List V}{o ax n:Nat}{body:Sum (List (List PV)) (List (List V))}(hs:aW ⟨bx,ar,mp⟩ y=some (new,rd))(hn:dX new=[row])(hr:row.length=w)
  (ho:ar[o]?=some ⟨ax,w,body⟩)(hb:aD body=n)(hrd:rd≠some o)(hm:n+1<=2147483648):
  aK ⟨bx,ar,mp⟩ w (.own o ax 0 n) y=some (.own o (ax+1) 0 (n+1),{ar:=some (o,⟨ax+1,w,aU (az 0 n body) new⟩),ra:=rd}):=by
 have h1:aD new=1:=by rw[<- im,hn];rfl
 have h2:aO w new=true:=ox (by rw[hn];intro r hr';rw[Xj]at hr';rw[hr'];exact hr);have h3:aB ⟨bx,ar,mp⟩ o ax=some ⟨ax,w,body⟩:=by rw[jB,ho];simp
 have h4:(⟨ax,w,body⟩:aL).size=n:=by rw[<- hb];cases body<;>rfl
 simp only[aK,hs,h2,h1,h3,if_true,h4];simp[aN,hm,hrd]
structure Hx (w:Nat)(ar:List aL)(o ax:Nat)(cs:List (List PV)):Prop where
 it:∃body,ar[o]?=some ⟨ax,w,body⟩/\(dX body).length=cs.length/\∀(i:Nat) row c,(dX body)[i]?=some row->cs[i]?=some c->wB row c
def jI (w:Nat)(ar:List aL)(V0:V)(cs:List (List PV)):Prop:=(V0=.tl []/\cs=[])\/∃o ax,V0=.own o ax 0 cs.length/\Hx w ar o ax cs
theorem uU {rows:List (List V)}{cs:List (List PV)}{row:List V}{c:List PV}(h:rows.length=cs.length)(hr:∀(i:Nat) row c,rows[i]?=some row->cs[i]?=some c->wB row c)(hn:wB row c):
  (rows++[row]).length=(cs++[c]).length/\∀(i:Nat) r x,(rows++[row])[i]?=some r->(cs++[c])[i]?=some x->wB r x:=by
 refine⟨by simp[h],λi r x h1 h2=>?_⟩;rcases Wh i rows.length with hi|hi
 .rw[We hi]at h1;rw[We (by rw[<- h];exact hi)]at h2;exact hr i r x h1 h2
 .rw[Wn hi]at h1;rw[Wn (by rw[<- h];exact hi)]at h2;rw[h]at h1;cases hj:i - cs.length with
  |zero=>
   rw[hj]at h1 h2;cases h1;cases h2;exact hn
  |succ j=>
   rw[hj]at h1;simp at h1
theorem BI {w:Nat}{ar X:List aL}{V0 y:V}{cs:List (List PV)}{c:List PV}{new:Sum (List (List PV)) (List (List V))}{rd:Option Nat}{row:List V}(hO:jI w ar V0 cs)(hm:cs.length+1<=2147483648)
  (hs:∀bx,aW ⟨bx,ar++X,[]⟩ y=some (new,rd))(hn:dX new=[row])(hrd:∀o,rd=some o->ar.length<=o)(hw:row.length=w)(hr:wB row c):
  ∃V1 T ar',(∀bx,aK ⟨bx,ar++X,[]⟩ w V0 y=some (V1,T))/\(∀bx,T.apply ⟨bx,ar++X,[]⟩=⟨bx,ar',[]⟩)/\V1.cells=[V1]/\V1.calm=true/\jI w ar' V1 (cs++[c]):=by
 rcases hO with⟨rfl,rfl⟩|⟨o,ax,rfl,hrep⟩
 .refine⟨_,_,(ar++X)++[⟨0,w,aU (.inl []) new⟩],λbx=>ER (hs bx) hn hw,λbx=>?_,rfl,rfl,.inr ⟨(ar++X).length,0,rfl,aU (.inl []) new,by simp,?_⟩⟩
  .simp[Tn.apply]
  .rw[l7,hn];exact uU (rows:=[]) (cs:=[]) rfl (λi r x h1=>by simp at h1) hr
 .obtain⟨body,hb1,hb2,hb3⟩:=hrep.it;have hol:=(V9.1 hb1).1;have hb1':(ar++X)[o]?=some ⟨ax,w,body⟩:=by rw[We hol];exact hb1
  have hbl:aD body=cs.length:=by rw[<- im];exact hb2
  have happ:=λbx=>Hw (bx:=bx) (mp:=[]) (hs bx) hn hw hb1' hbl (λe=>by have:=hrd o e;omega) hm;rw[BH (ax:=ax) hbl rfl]at happ;refine⟨_,_,(ar++X).set o ⟨ax+1,w,aU body new⟩,happ,λbx=>?_,rfl,rfl,.inr ⟨o,ax+1,by simp,aU body new,?_,?_⟩⟩
  .simp[Tn.apply]
  .rw[WU (by rw[Wz];omega)]
  .rw[l7,hn];exact uU hb2 hb3 hr
theorem addLit {w:Nat}{ar:List aL}{V0:V}{cs:List (List PV)}{c:List PV}{row:List V}(hO:jI w ar V0 cs)(hm:cs.length+1<=2147483648)(hw:row.length=w)(hr:wB row c):
  ∃V1 T ar',(∀bx,aK ⟨bx,ar++[⟨0,w,.inr [row]⟩],[]⟩ w V0 (.own ar.length 0 0 1)=some (V1,T))/\(∀bx,T.apply ⟨bx,ar++[⟨0,w,.inr [row]⟩],[]⟩=⟨bx,ar',[]⟩)/\V1.cells=[V1]/\V1.calm=true/\jI w ar' V1 (cs++[c]):=by
 refine BI (X:=[⟨0,w,.inr [row]⟩]) (new:=.inr [row]) (rd:=some ar.length) hO hm (λbx=>?_) rfl (λo ho=>?_) hw hr
 .simp[aW,aB,az]
 .injection ho with ho;rw[<- ho];exact Wj _
theorem ES {w:Nat}{ar:List aL}{V0:V}{cs:List (List PV)}{c:List PV}(hO:jI w ar V0 cs)(hm:cs.length+1<=2147483648)(hw:c.length=w)(hr:wB (c.map .pv) c):
  ∃V1 T ar',(∀bx,aK ⟨bx,ar,[]⟩ w V0 (.tl [c])=some (V1,T))/\(∀bx,T.apply ⟨bx,ar,[]⟩=⟨bx,ar',[]⟩)/\V1.cells=[V1]/\V1.calm=true/\jI w ar' V1 (cs++[c]):=by
 have:=BI (X:=[]) (y:=.tl [c]) (new:=.inl [c]) (rd:=none) (c:=c) (row:=c.map .pv) hO hm (λbx=>rfl) rfl (λo h=>by cases h) (by simp[hw]) hr;simpa only[List.append_nil]using this
theorem jI.keep {w:Nat}{ar:List aL}{V0:V}{cs:List (List PV)}(h:jI w ar V0 cs)(bx:List (Nat×List V))(mp:List (List (PV×PV))):aY ⟨bx,ar,mp⟩ 4 V0=some (.aq 0 cs):=by
 rcases h with⟨rfl,rfl⟩|⟨o,ax,rfl,hrep⟩
 .rfl
 obtain⟨body,h1,h2,h3⟩:=hrep.it;rw[dS,jB,h1];simp only[Option.bind_some,if_true];have hk:=pP (f:=aY ⟨bx,ar,mp⟩ 3) (c:=id) h2 (λi row t hi ht=>h3 i row t hi ht _ 2);rw[afD]at hk;cases body with
 |inl R=>
  have hl:R.length=cs.length:=by simpa [dX]using h2
  simp only[az,bO,List.drop_zero];rw[<- hl,WV];congr 1;congr 1;apply WW;intro i;rcases Wh i R.length with hi|hi
  .have e1:=Wb hi;have e2:=Wb (l:=cs) (i:=i) (by omega);rw[e1,e2];have:=h3 i (R[i].map V.pv) (cs[i]'(by omega)) (by simp[dX,e1]) e2 ⟨bx,ar,mp⟩ 2;rw[sO this]
  .rw[WS hi,WS (by omega)]
 |inr R=>
  have hl:R.length=cs.length:=by simpa [dX]using h2
  simp only[az,bO,List.drop_zero];rw[<- hl,WV];have hk':ay (ay (aY ⟨bx,ar,mp⟩ 3)) R=some cs:=hk;rw[hk'];rfl
theorem jI.same {w:Nat}{ar:List aL}{V0:V}{cs:List (List PV)}(h:jI w ar V0 cs)(kb:List Nat):dN kb V0=V0:=by
 rcases h with⟨rfl,rfl⟩|⟨o,ax,rfl,_⟩<;>rfl
theorem jI.kept {w:Nat}{ar:List aL}{V0:V}{cs:List (List PV)}(h:jI w ar V0 cs)(bx:List (Nat×List V))(mp:List (List (PV×PV))):Go.Pv.keep ⟨bx,ar,mp⟩ false V0=some (.aq 0 cs):=by
 have:=h.keep bx mp;rcases h with⟨rfl,rfl⟩|⟨o,ax,rfl,_⟩<;>exact this
@[go_sem] theorem Pa (p:Part):p.c.length=3:=rfl
@[go_sem] theorem Pb (x:Node):x.cs.length=5:=rfl
theorem RU (a n:Nat):Int.tmod (a:Int) (n:Int)=((a%n:Nat):Int):=(Int.ofNat_tmod a n).symm
theorem gN {k:IntKind}{a n:Nat}(h:n≠0):cB .rem (.pv (.int k (a:Int))) (.pv (.int k (n:Int)))=some (.pv (.int k ((a%n:Nat):Int))):=by
 rw[xY (by omega),RU]
theorem UL (a:Nat):cB .rem (.pv (.int .u8 (a:Int))) (.pv (.int .u8 9))=some (.pv (.int .u8 ((a%9:Nat):Int))):=gN (n:=9) (by decide)
theorem UM (a:Nat):cB .rem (.pv (.int .u8 (a:Int))) (.pv (.int .u8 7))=some (.pv (.int .u8 ((a%7:Nat):Int))):=gN (n:=7) (by decide)
theorem UN (a:Nat):cB .rem (.pv (.int .u8 (a:Int))) (.pv (.int .u8 6))=some (.pv (.int .u8 ((a%6:Nat):Int))):=gN (n:=6) (by decide)
theorem Hy (a:Nat):cB .rem (.pv (.int .u8 (a:Int))) (.pv (.int .u8 4))=some (.pv (.int .u8 ((a%4:Nat):Int))):=gN (n:=4) (by decide)
theorem Hz (a:Nat):cB .rem (.pv (.int .u8 (a:Int))) (.pv (.int .u8 2))=some (.pv (.int .u8 ((a%2:Nat):Int))):=gN (n:=2) (by decide)
theorem RV (a:Nat):cB .rem (.pv (.int .u8 (a:Int))) (.pv (.int .u8 12))=some (.pv (.int .u8 ((a%12:Nat):Int))):=gN (n:=12) (by decide)
theorem Mo {a i:Nat}(h:i<=8):cB .shr (.pv (.int .u8 (a:Int))) (.pv (.int .i64 (i:Int)))=some (.pv (.int .u8 ((a/2^i:Nat):Int))):=by
 have h0:¬(i:Int)<0:=by omega
 have hm:min ((i:Int).toNat) (IntKind.bits .u8)=i:=by
  rw[WX];exact afF h
 simp only[cB,or_true,if_true,ry,h0,if_false,hm,Option.map_some];congr 3;rw[Int.fdiv_eq_ediv_of_nonneg _ (by exact Int.pow_nonneg (by decide))]
 norm_cast
theorem oy {t:Nat}{d:List Node}{i:Nat}{x:Node}(h:d[i]?=some x):jx 5 t (d.map Node.cs) (some (i:Int))=some (V.pv (.ro t x.cs)):=by
 rw[od,Wf,h];rfl
theorem r298 (t:Nat)(d:List Node)(i:Nat)(hi:i<d.length):res A aA 298 [.agg [.aq t (d.map Node.cs)],.int .i64 i]=some [.int .i64 (aI d i)]:=by
 refine aw a298 rfl rfl ?_;simp only[F298,KF];have hx:=Wb hi;generalize d[i]=x at hx;have hk:aI d i=1+x.kind%9:=by rw[aI,hx];rfl
 have hidx:=oy (t:=t) hx;unfold Node.cs at hidx;unfold Node.cs;have hb:x.kind%9<9:=Wt _ (by decide);simp(disch:=omega)only[go_sem,hidx,UL];rw[hk]
 push_cast
 rfl
theorem r299 (x:Node):res A aA 299 [.agg x.cs]=some [.int .i64 (jD x)]:=by
 refine aw a299 rfl rfl ?_;simp only[F299,KG];unfold Node.cs;have hb:x.a%7<7:=Wt _ (by decide);simp(disch:=omega)only[go_sem,UM];rfl
theorem r300 (x:Node):res A aA 300 [.agg x.cs]=some [.int .i64 (lq x)]:=by
 refine aw a300 rfl rfl ?_;simp only[F300,KH];have h:=r299 x;have e:jD x=((x.a%7:Nat):Int) - 3:=rfl;unfold Node.cs at *;have hb:x.a%7<7:=Wt _ (by decide);have hc:x.b%6<6:=Wt _ (by decide);simp(disch:=omega)only[go_sem,h,UN];rfl
theorem r335 (k:Int):res A aA 335 [.int .i64 k]=some [.bool (decide (7<=k))]:=by
 refine aw a335 rfl rfl ?_;simp only[F335,K1];simp(disch:=omega)only[go_sem]
theorem Aq (a n:Nat):iS a (n+1)=if a/2^n%2=1 then iS a n++[n] else iS a n:=by
 unfold iS;rw[Xq,List.filter_append];by_cases h:a/2^n%2=1
 .simp[h]
 .simp[h]
theorem uV (a n:Nat):(iS a n).length<=n:=by
 unfold iS;exact Nat.le_trans (List.length_filter_le _ _) (by simp)
def my (l:List Nat):List Int:=l.map λ(n:Nat)=>((n+1:Nat):Int)
def tX (l:List Nat):List Int:=l.map λ(n:Nat)=>(n:Int)
theorem Ar (l:List Nat)(n:Nat):my (l++[n])=my l++[((n+1:Nat):Int)]:=by simp[my]
theorem BJ (n:Nat):dh n []=.tl []:=rfl
theorem BK (k:Nat):cK k []=[]:=rfl
theorem r301 (x:Node):res A aA 301 [.agg x.cs]=some [.aq 0 (ints (tX (fP x.a)))]:=by
 refine aw a301 rfl rfl ?_;simp only[F301,KI];obtain⟨k,a,b,c,ps⟩:=x;unfold Node.cs;dsimp only;simp(disch:=omega)only[go_sem];refine W.fv 6 (λj=>⟨[(1,.ptr 1 0),(3,dh 0 (ints (my (iS a j)))),(4,.pv (.int .i64 j))],⟨[(1,[.pv (.int .u8 k),.pv (.int .u8 a),.pv (.int .u8 b),.pv (.int .u8 c),.pv (.aq 0 (ps.map Part.c))])],cK 1 (ints (my (iS a j))),[]⟩⟩) (λ_=>True) rfl trivial (λj hj _=>?_);have hl:(my (iS a j)).length<=j:=by unfold my;rw[Wg];exact uV a j
 simp(disch:=omega)only[go_sem];refine Br.aJ (λc1=>?_) (λc1=>?_)
 .have hs:=Mo (a:=a) (i:=j) (by omega);have hsucc:=Aq a j;simp(disch:=omega)only[go_sem,hs,Hz];refine Br.aJ (λc2=>?_) (λc2=>?_)<;>simp(disch:=omega)only[go_sem]
  .refine .of (by omega) ?_ trivial;rw[hsucc,if_pos (by omega),Ar];rfl
  .refine .of (by omega) ?_ trivial;rw[hsucc,if_neg (by omega)];rfl
 .obtain rfl:j=6:=by omega
  simp(disch:=omega)only[go_sem];unfold fP;refine Br.aJ (λc2=>?_) (λc2=>?_)
  .have h0:iS a 6=[]:=by
    unfold my at c2;rw[Wg]at c2;exact Wp (by omega)
   rw[if_pos h0,h0];simp(disch:=omega)only[go_sem,my,List.map_nil,BJ,BK];rfl
  .have h0:¬iS a 6=[]:=λe=>c2 (by rw[e];rfl);rw[if_neg h0];simp(disch:=omega)only[go_sem];congr 3;unfold my tX;rw[Xw];rfl
theorem r321 (t:Nat)(d:List Node)(i code:Nat)(h0:0<d.length)(hl:d.length<=5)(_hi:i<d.length)(hcode:code<=255):res A aA 321 [.agg [.aq t (d.map Node.cs)],.int .i64 i,.int .u8 code]=some [.int .i64 (fH (cJ d i code))]:=by
 refine aw a321 rfl rfl ?_;simp only[F321,KT];have hc:code%d.length<d.length:=Wt _ h0;have hr:=gN (k:=.i64) (a:=code) (n:=d.length) (by omega);unfold cJ;generalize hm:code%d.length=m at hc hr;have h298:=λt=>r298 t d m hc;simp(disch:=omega)only[go_sem,hr,h298,r335];refine Br.aJ (λc=>?_) (λc=>?_)
 .have d1:decide ((7:Int)<=aI d m)=true:=by simpa using c
  have h7:7<=aI d m:=by omega
  simp(disch:=omega)only[go_sem,d1];rw[if_pos (.inl h7)];rfl
 have d1:decide ((7:Int)<=aI d m)=false:=by simpa using c
 have h7:¬7<=aI d m:=by omega
 simp(disch:=omega)only[go_sem,d1];refine Br.aJ (λc2=>?_) (λc2=>?_)<;>simp(disch:=omega)only[go_sem]
 .rw[if_pos (.inr (by omega))];rfl
 rw[if_neg (λh=>h.elim h7 (λh=>c2 (by omega)))];refine Br.aJ (λc3=>?_) (λc3=>?_)
 .have hr2:=gN (k:=.i64) (a:=m) (n:=i) (by omega);simp(disch:=omega)only[go_sem,hr2];rw[if_pos (by omega)];rfl
 rw[if_neg (by omega)];obtain⟨G,hG⟩:∃G,fH ((List.range d.length).find? λk=>decide (7<=aI d k))=G:=⟨_,rfl⟩;rw[hG];simp(disch:=omega)only[go_sem];refine W.find (List.range d.length) (λk=>decide (7<=aI d k)) (λk=>⟨[(3,.ptr 3 0),(7,.pv (.int .i64 d.length)),(9,.pv (.int .i64 k))],⟨[(3,[.pv (.aq t (d.map Node.cs))])],[],[]⟩⟩) rfl (λk y hy hk hfd=>?_) (λhn=>?_)
 .obtain⟨rfl,hk⟩:=ey hy;have h298:=λt=>r298 t d y hk;simp(disch:=omega)only[go_sem];refine Br.aJ (λc=>?_) (λc=>(c (by omega)).elim);simp(disch:=omega)only[go_sem,h298,r335];refine Br.aJ (λg=>?_) (λg=>?_)<;>simp(disch:=omega)only[go_sem]
  .rw[<- hG,(hfd (by simp;omega)).find];rfl
  .exact bB.of (by simp;omega) rfl
 .rw[hn.find]at hG;rw[WI];simp(disch:=omega)only[go_sem];rw[<- hG];rfl
theorem r303 (t:Nat)(d:List Node)(code:Nat)(h0:0<d.length)(hl:d.length<=5)(hcode:code<=255):res A aA 303 [.agg [.aq t (d.map Node.cs)],.int .u8 code]=some [.int .i64 (fH (js d code))]:=by
 refine aw a303 rfl rfl ?_;simp only[F303,KK];unfold js;obtain⟨G,hG⟩:∃G,fH (((List.range d.length).find? λk=>decide (aI d ((code+k)%d.length)<=4)).map λk=>(code+k)%d.length)=G:=⟨_,rfl⟩;rw[hG];simp(disch:=omega)only[go_sem];refine W.find (List.range d.length) (λk=>decide (aI d ((code+k)%d.length)<=4)) (λk=>⟨[(1,.pv (.int .u8 code)),(2,.ptr 2 0),(5,.pv (.int .i64 d.length)),(6,.pv (.int .i64 k))],⟨[(2,[.pv (.aq t (d.map Node.cs))])],[],[]⟩⟩) rfl (λk y hy hk hfd=>?_) (λhn=>?_)
 .obtain⟨rfl,hk⟩:=ey hy;have hm:(code+y)%d.length<d.length:=Wt _ h0;have hr:cB .rem (.pv (.int .i64 ((code:Int)+(y:Int)))) (.pv (.int .i64 (d.length:Int)))=some (.pv (.int .i64 (((code+y)%d.length:Nat):Int))):=gN (k:=.i64) (a:=code+y) (n:=d.length) (by omega);have h298:=λt=>r298 t d _ hm;have h1:1<=aI d ((code+y)%d.length):=by
   unfold aI;rw[Wb hm];simp[yk]
  generalize hmm:(code+y)%d.length=m at *;simp(disch:=omega)only[go_sem];refine Br.aJ (λc=>?_) (λc=>(c (by omega)).elim);simp(disch:=omega)only[go_sem,hr,h298,r288];refine Br.of (λg=>?_) (λg=>?_)<;>simp(disch:=omega)only[go_sem]
  .simp only[Bool.and_eq_true,decide_eq_true_eq]at g;rw[<- hG,(hfd (by simp;omega)).find];show _=some [PV.int .i64 (((code+y)%d.length:Nat):Int)];rw[hmm]
  .refine bB.of ?_ rfl;simp only[Bool.and_eq_false_iff,decide_eq_false_iff_not]at g;simp;omega
 .rw[hn.find]at hG;rw[WI];simp(disch:=omega)only[go_sem];rw[<- hG];rfl
def initK (d:List Node)(i:Nat):Nat:=if aI d i=8/\js d 0=none then 7 else aI d i
def yE (a code:Nat):Nat:=((fP a)[code%(fP a).length]?).getD 0
def dQ (k:Nat)(x:Node)(code:Nat):dz×Bool:=
 if k=1 then ({bl with kind:=1,bool:=decide (code%2=1)},true)
 else if k=2 then ({bl with kind:=2,int:=jD x+((code%(x.b%6+1):Nat):Int)},true)
 else if k=3 then ({bl with kind:=3,str:=if 0<x.a%4/\code%2=1 then ⟨#[97]⟩ else ⟨#[]⟩},true)
 else if k=4 then ({bl with kind:=4,id:=yE x.a code},true)
 else if k=5\/k=6 then (bl,false)
 else ({bl with kind:=k},true)
theorem dt (d:List Node)(i:Nat):1<=aI d i/\aI d i<=9:=by
 unfold aI;cases d[i]? with
 |none=>decide
 |some x=>
  have:x.kind%9<9:=Wt _ (by decide);show 1<=yk x/\yk x<=9;unfold yk;omega
theorem jJ (a:Nat):0<(fP a).length/\(fP a).length<=6:=by
 unfold fP;split
 .decide
 .rename_i h;rw[Wg];exact⟨abx.2 h,uV a 6⟩
theorem RW (n:Nat):decide ((n:Int)=1)=decide (n=1):=by
 rw[decide_eq_decide];omega
theorem yF (o:Option Nat):decide (fH o<0)=decide (o=none):=by
 cases o with
 |none=>rfl
 |some n=>
  have:¬(n:Int)<0:=by omega
  simp[fH,this]
theorem BL {l:List Nat}{i:Nat}(h:i<l.length):(tX l)[i]?=some (((l[i]?).getD 0:Nat):Int):=by
 unfold tX;rw[Wf,Wb h];rfl
set_option maxHeartbeats 1000000 in
theorem r322 (t:Nat)(d:List Node)(i code:Nat)(x:Node)(hx:d[i]?=some x)(h0:i<d.length)(hl:d.length<=5)(hcode:code<=255)(hxo:x.ok):res A aA 322 [.agg [.aq t (d.map Node.cs)],.int .i64 i,.int .u8 code]=some [.agg (dQ (initK d i) x code).1.c,.bool (dQ (initK d i) x code).2]:=by
 refine aw a322 rfl rfl ?_;simp only[F322,KU];have h298:=λt=>r298 t d i h0;have h303:∀t,res A aA 303 [.agg [.aq t (d.map Node.cs)],.int .u8 0]=some [.int .i64 (fH (js d 0))]:=λt=>r303 t d 0 (by omega) hl (by omega);obtain⟨k1,k9⟩:=dt d i;have hidx:=oy (t:=t) hx;have h299:=r299 x;have h300:=r300 x;have h301:=r301 x;obtain⟨⟨_,xa,xb,_⟩,_⟩:=hxo;have hxa:x.a%4<4:=Wt _ (by decide);have hlo: -3<=jD x/\jD x<=3:=by
  have:x.a%7<7:=Wt _ (by decide);unfold jD;omega
 have hb6:x.b%6<6:=Wt _ (by decide);have hhi:lq x=jD x+((x.b%6:Nat):Int):=rfl;have hr:=gN (k:=.i64) (a:=code) (n:=x.b%6+1) (by omega);have e1:jD x+((x.b%6:Nat):Int) - jD x+1=((x.b%6+1:Nat):Int):=by omega
 rw[<- e1]at hr;have hm:code%(x.b%6+1)<x.b%6+1:=Wt _ (by omega);rw[hhi]at h300;obtain⟨n0,n6⟩:=jJ x.a;have hn:(tX (fP x.a)).length=(fP x.a).length:=Wg _;have hr2:=gN (k:=.i64) (a:=code) (n:=(fP x.a).length) (by omega);have hat:(tX (fP x.a))[code%(tX (fP x.a)).length]?=some ((yE x.a code:Nat):Int):=by
  rw[hn];exact BL (Wt code n0)
 rw[<- hn]at hr2;unfold Node.cs at *;have hk0:(aI d i:Int)=1\/(aI d i:Int)=2\/(aI d i:Int)=3\/(aI d i:Int)=4\/(aI d i:Int)=5\/(aI d i:Int)=6\/(aI d i:Int)=7\/(aI d i:Int)=8\/(aI d i:Int)=9:=by omega
 unfold initK;simp(disch:=omega)only[go_sem,hidx,h298];rcases hk0 with hk|hk|hk|hk|hk|hk|hk|hk|hk
 all_goals simp(disch:=omega)only[go_sem,hk,Hz,Hy,h299,h300,h301,h303,RW,yF]
 .have e:aI d i=1:=by omega
  rw[e,if_neg (by omega)];rfl
 .simp(disch:=omega)only[go_sem,hr];have e:aI d i=2:=by omega
  rw[e,if_neg (by omega)];rfl
 .have e:aI d i=3:=by omega
  rw[e,if_neg (by omega)];refine Br.aJ (λc=>?_) (λc=>?_)<;>simp(disch:=omega)only[go_sem,c,Hz]
  .refine Br.aJ (λc2=>?_) (λc2=>?_)<;>simp(disch:=omega)only[go_sem,c2]
   .have e2:0<x.a%4/\code%2=1:=by omega
    simp[dQ,e2,dz.c,bl]
   .have e2:¬(0<x.a%4/\code%2=1):=by omega
    simp[dQ,e2,dz.c,bl]
  .have e2:¬(0<x.a%4/\code%2=1):=by omega
   simp[dQ,e2,dz.c,bl]
 .simp(disch:=omega)only[go_sem,hr2,hat];have e:aI d i=4:=by omega
  rw[e,if_neg (by omega)];rfl
 .have e:aI d i=5:=by omega
  rw[e,if_neg (by omega)];rfl
 .have e:aI d i=6:=by omega
  rw[e,if_neg (by omega)];rfl
 .have e:aI d i=7:=by omega
  rw[e,if_neg (by omega)];rfl
 .have e:aI d i=8:=by omega
  rw[e];refine Br.aJ (λc=>?_) (λc=>?_)<;>simp(disch:=omega)only[go_sem]
  .simp only[c,if_true];rfl
  .simp only[c,if_false];rfl
 .have e:aI d i=9:=by omega
  rw[e,if_neg (by omega)];rfl
def abS (id:Nat):ByteArray:=⟨#[109]⟩++Utf8.encode (97+(id:Int))
def mY (d:List Node)(i id:Nat)(p:Part):Bool:=decide (1+p.id%12=id)&&(cJ d i p.type).isSome
def Mp:Node:=⟨0,0,0,0,[]⟩
def nodeAt (d:List Node)(u:Nat):Node:=(d[u]?).getD Mp
def lz (d:List Node)(u:Nat)(p:Part):dz×Bool:=dQ (initK d u) (nodeAt d u) (p.flag/4)
def dC (d:List Node)(i:Nat)(fl:Bool)(id:Nat)(p:Part):Mem:=
 ⟨id,abS id,fH (cJ d i p.type),fl&&decide (p.flag%4=1),fl&&(decide (2<=p.flag%4)&&(lz d ((cJ d i p.type).getD 0) p).2),
  if (fl&&decide (2<=p.flag%4))=true then (lz d ((cJ d i p.type).getD 0) p).1 else bl⟩
def mz (d:List Node)(i:Nat)(fl:Bool)(ps:List Part)(id:Nat):Option Mem:=(ps.find? (mY d i id)).map (dC d i fl id)
def bL (d:List Node)(i:Nat)(fl:Bool)(ps:List Part)(k:Nat):List Mem:=(List.range k).filterMap λj=>mz d i fl ps (j+1)
theorem qy (d:List Node)(i:Nat)(fl:Bool)(ps:List Part)(k:Nat):bL d i fl ps (k+1)=bL d i fl ps k++(mz d i fl ps (k+1)).toList:=by
 unfold bL;rw[Xq,XI];congr 1
theorem mZ (d:List Node)(i:Nat)(fl:Bool)(ps:List Part)(k:Nat):(bL d i fl ps k).length<=k:=by
 unfold bL;exact Nat.le_trans (List.length_filterMap_le _ _) (by simp)
theorem ET {t:Nat}{ps:List Part}{i:Nat}{p:Part}(h:ps[i]?=some p):jx 3 t (ps.map Part.c) (some (i:Int))=some (V.pv (.ro t p.c)):=by
 rw[od,Wf,h];rfl
theorem kh {d:List Node}{i code u:Nat}(h0:0<d.length)(hi:i<d.length)(h:cJ d i code=some u):u<d.length:=by
 have hm:code%d.length<d.length:=Wt _ h0;unfold cJ at h;split at h
 .cases h;exact hm
 .split at h
  .cases h;rename_i h1;exact Nat.lt_trans (Wt _ h1) hi
  .have:=afu h
   simpa using this
theorem wrap_i32 {x:Int}(h1: -2147483648<=x)(h2:x<=2147483647):IntKind.wrap .i32 x=x:=by
 show (if (true&&decide (x%(2^32:Int)≥(2^31:Int)))=true then x%(2^32:Int) - (2^32:Int) else x%(2^32:Int))=x;simp only[Bool.true_and,decide_eq_true_eq,Int.reducePow];by_cases h:x%4294967296≥2147483648
 .rw[if_pos h];omega
 .rw[if_neg h];omega
theorem UO {a:Nat}(h:a<=255):cB .quo (.pv (.int .u8 (a:Int))) (.pv (.int .u8 4))=some (.pv (.int .u8 ((a/4:Nat):Int))):=by
 have e:(a:Int).tdiv 4=((a/4:Nat):Int):=(Int.ofNat_tdiv a 4).symm;rw[xX (by decide),e,wrap_u8 (by omega) (by omega)]
theorem EU {k:Nat}(h:k<12):(Utf8.encode (97+((k+1:Nat):Int))).size=1:=by
 have:∀k:Fin 12,(Utf8.encode (97+((k.val+1:Nat):Int))).size=1:=by decide
 exact this ⟨k,h⟩
theorem CO {k:Nat}(h:k<12):cB .add (.pv (.str ⟨#[109]⟩)) (.pv (.str (Utf8.encode (IntKind.wrap .i32 (97+((k+1:Nat):Int))))))=some (.pv (.str (abS (k+1)))):=by
 rw[wrap_i32 (by omega) (by omega)];have h1:(⟨#[109]⟩:ByteArray).size=1:=rfl;have h2:(1:Nat)+1<=1099511627776:=by omega
 simp only[cB,kI,h1,EU h,h2,if_true,Option.map_some];rfl
set_option maxHeartbeats 4000000 in
theorem r302 (t:Nat)(d:List Node)(i:Nat)(fl:Bool)(x:Node)(hx:d[i]?=some x)(h0:i<d.length)(hl:d.length<=5)(hok:∀y∈d,y.ok):
  res A aA 302 [.agg [.aq t (d.map Node.cs)],.int .i64 i,.bool fl]=some [.aq 0 ((bL d i fl x.parts 12).map Mem.c)]:=by
 refine aw a302 rfl rfl ?_;simp only[F302,KJ];have hidx:jx 5 t (d.map Node.cs) (some (i:Int))=some (V.pv (.ro t [.int .u8 x.kind,.int .u8 x.a,.int .u8 x.b,.int .u8 x.c,.aq 0 (x.parts.map Part.c)])):=oy (t:=t) hx;have hxo:=hok x (Wa hx);obtain⟨_,hpl,hpo⟩:=hxo;unfold bP at hpl;simp(disch:=omega)only[go_sem,hidx];refine W.loop (α:=Nat×List aL×V) (λy=>⟨[(1,.pv (.int .i64 i)),(2,.pv (.bool fl)),(3,.ptr 3 0),(7,.ptr 7 0),(8,y.2.2),(9,.pv (.int .i64 ((y.1+1:Nat):Int)))],⟨[(3,[.pv (.aq t (d.map Node.cs))]),(7,[.pv (.int .u8 x.kind),.pv (.int .u8 x.a),.pv (.int .u8 x.b),.pv (.int .u8 x.c),.pv (.aq 0 (x.parts.map Part.c))])],y.2.1,[]⟩⟩)
  (λy=>y.1<=12/\jI 13 y.2.1 y.2.2 ((bL d i fl x.parts y.1).map Mem.c)) (λy=>12 - y.1) (0,[],.tl []) rfl ⟨WA _,.inl ⟨rfl,rfl⟩⟩ λy hy=>?_
 obtain⟨k,ar,V0⟩:=y;obtain⟨hk,hO⟩:=hy;dsimp only at hk hO;have hsc:=λkb=>hO.same kb;simp(disch:=omega)only[go_sem,hsc];refine Br.aJ (λc=>?_) (λc=>?_)
 rotate_left
 .obtain rfl:k=12:=by omega
  have hkeep:=λbx=>hO.kept bx [];simp(disch:=omega)only[go_sem,hsc,hkeep]
 simp(disch:=omega)only[go_sem,hsc];refine W.find x.parts (mY d i (k+1)) (λj=>⟨[(1,.pv (.int .i64 i)),(2,.pv (.bool fl)),(3,.ptr 3 0),(7,.ptr 7 0),(8,V0),(9,.pv (.int .i64 ((k+1:Nat):Int))),(10,.pv (.int .i64 j))],⟨[(3,[.pv (.aq t (d.map Node.cs))]),(7,[.pv (.int .u8 x.kind),.pv (.int .u8 x.a),.pv (.int .u8 x.b),.pv (.int .u8 x.c),.pv (.aq 0 (x.parts.map Part.c))])],ar,[]⟩⟩) rfl (λj p hp hj hfd=>?_) (λhn=>?_)
 rotate_left
 .have e:mz d i fl x.parts (k+1)=none:=by
   unfold mz;rw[hn.find];rfl
  simp(disch:=omega)only[go_sem,hsc];refine⟨(k+1,ar,V0),⟨by dsimp only;omega,?_⟩,by dsimp only;omega,rfl⟩;dsimp only;rw[qy,e];simpa using hO
 have hidp:jx 3 0 (x.parts.map Part.c) (some (j:Int))=some (V.pv (.ro 0 [.int .u8 p.id,.int .u8 p.type,.int .u8 p.flag])):=ET (t:=0) hp;obtain⟨pi,pt,pf⟩:=hpo p (Wa hp);have h321:=λt=>r321 t d i p.type (by omega) hl h0 pt;simp(disch:=omega)only[go_sem,hsc];refine Br.aJ (λ_=>?_) (λc=>absurd (by omega) c);simp(disch:=omega)only[go_sem,hsc,hidp,h321,RV];refine Br.aJ (λc1=>?_) (λc1=>?_)<;>simp(disch:=omega)only[go_sem,hsc,c1]
 rotate_left
 .have e:mY d i (k+1) p=false:=by
   have:¬1+p.id%12=k+1:=by omega
   simp[mY,this]
  exact bB.of e rfl
 cases htg:cJ d i p.type with
 |none=>
  have e:mY d i (k+1) p=false:=by simp[mY,htg]
  have en:decide (fH none<0)=true:=rfl;simp(disch:=omega)only[go_sem,hsc,en];exact bB.of e rfl
 |some u=>
  have hu:=kh (by omega) h0 htg;have en:decide ((u:Int)<0)=false:=by simp
  have eu:fH (some u)=u:=rfl;have e:mY d i (k+1) p=true:=by
   have:1+p.id%12=k+1:=by omega
   simp[mY,htg,this]
  have em:mz d i fl x.parts (k+1)=some (dC d i fl (k+1) p):=by
   unfold mz;rw[(hfd e).find];rfl
  have hx2:d[u]?=some (nodeAt d u):=by
   unfold nodeAt;rw[Wb hu];rfl
  have h322:=λt=>r322 t d u (p.flag/4) (nodeAt d u) hx2 hu hl (by omega) (hok _ (Wa hx2));have hnm:=CO (k:=k) (by omega);have hlen:=mZ d i fl x.parts k;simp(disch:=omega)only[go_sem,hsc,en,eu,hnm];have hnext:(bL d i fl x.parts (k+1)).map Mem.c=(bL d i fl x.parts k).map Mem.c++[(dC d i fl (k+1) p).c]:=by
   rw[qy,em,WC];rfl
  have hml:((bL d i fl x.parts k).map Mem.c).length+1<=2147483648:=by
   rw[Wg];omega
  have hbare:∀cr:Bool,dC d i fl (k+1) p=⟨(k+1:Nat),abS (k+1),u,cr,false,bl⟩->wB [.pv (.int .i64 ((k+1:Nat):Int)),.pv (.str (abS (k+1))),.pv (.int .i64 u),.pv (.bool cr),.pv (.bool false),.pv (.int .i64 0),.pv (.bool false),.pv (.int .i64 0),.pv (.str ⟨#[]⟩),.pv (.int .i64 0),.tl [],.tl [],.tl []] (dC d i fl (k+1) p).c:=λcr he h d=>by
   rw[he];rfl
  cases fl with
  |false=>
   have hm:dC d i false (k+1) p=⟨(k+1:Nat),abS (k+1),u,false,false,bl⟩:=by simp[dC,htg,fH]
   obtain⟨V1,T,ar',happ,hT,_,_,hO'⟩:=addLit hO hml rfl (hbare _ hm);have hsc1:=λkb=>hO'.same kb;simp(disch:=omega)only[go_sem,hsc,happ,hT,hsc1];refine⟨(k+1,ar',V1),⟨by dsimp only;omega,by dsimp only;rw[hnext];exact hO'⟩,by dsimp only;omega,rfl⟩
  |true=>
   simp(disch:=omega)only[go_sem,hsc,Hy];refine Br.aJ (λc2=>?_) (λc2=>?_)<;>simp(disch:=omega)only[go_sem,hsc,c2,Hy]
   .have hm:dC d i true (k+1) p=⟨(k+1:Nat),abS (k+1),u,true,false,bl⟩:=by
     have e1:p.flag%4=1:=by omega
     simp[dC,htg,fH,e1]
    obtain⟨V1,T,ar',happ,hT,_,_,hO'⟩:=addLit hO hml rfl (hbare _ hm);have hsc1:=λkb=>hO'.same kb;simp(disch:=omega)only[go_sem,happ,hT,hsc1];refine⟨(k+1,ar',V1),⟨by dsimp only;omega,by dsimp only;rw[hnext];exact hO'⟩,by dsimp only;omega,rfl⟩
   .refine Br.aJ (λc3=>?_) (λc3=>?_)
    .have hq:=UO pf;have e1:¬p.flag%4=1:=by omega
     have e2:2<=p.flag%4:=by omega
     have hm:dC d i true (k+1) p=⟨(k+1:Nat),abS (k+1),u,false,(lz d u p).2,(lz d u p).1⟩:=by
      simp[dC,htg,fH,e1,e2]
     have ed:lz d u p=dQ (initK d u) (nodeAt d u) (p.flag/4):=rfl;rw[<- ed]at h322;generalize lz d u p=iv at hm h322;unfold dz.c at h322;have hthin:wB ((dC d i true (k+1) p).c.map .pv) (dC d i true (k+1) p).c:=λh d=>by
      rw[hm];rfl
     have hadd:=ES hO hml rfl hthin;rw[hm]at hadd;unfold Mem.c at hadd;dsimp only at hadd;obtain⟨V1,T,ar',happ,hT,_,_,hO'⟩:=hadd;have hsc1:=λkb=>hO'.same kb;simp(disch:=omega)only[go_sem,hsc,hq,h322,happ,hT,hsc1];refine⟨(k+1,ar',V1),⟨by dsimp only;omega,by dsimp only;rw[hnext,hm];exact hO'⟩,by dsimp only;omega,rfl⟩
    .have hm:dC d i true (k+1) p=⟨(k+1:Nat),abS (k+1),u,false,false,bl⟩:=by
      have e1:¬p.flag%4=1:=by omega
      have e2:¬2<=p.flag%4:=by omega
      simp[dC,htg,fH,e1,e2]
     obtain⟨V1,T,ar',happ,hT,_,_,hO'⟩:=addLit hO hml rfl (hbare _ hm);have hsc1:=λkb=>hO'.same kb;simp(disch:=omega)only[go_sem,happ,hT,hsc1];refine⟨(k+1,ar',V1),⟨by dsimp only;omega,by dsimp only;rw[hnext];exact hO'⟩,by dsimp only;omega,rfl⟩
def sP (ar:List aL)(V0:V)(ts:List aH):Prop:=(V0=.tl []/\ts=[])\/∃o ax,V0=.own o ax 0 ts.length/\Ap ar o ax ts
theorem Mq {ar X:List aL}{V0 y:V}{ts:List aH}{t:aH}{new:Sum (List (List PV)) (List (List V))}{rd:Option Nat}{row:List V}(hO:sP ar V0 ts)(hm:ts.length+1<=2147483648)
  (hs:∀bx,aW ⟨bx,ar++X,[]⟩ y=some (new,rd))(hn:dX new=[row])(hrd:∀o,rd=some o->ar.length<=o)(hr:∀o,o<ar.length\/(ar++X).length<=o->lu (ar++X) o row t):
  ∃V1 T ar',(∀bx,aK ⟨bx,ar++X,[]⟩ 10 V0 y=some (V1,T))/\(∀bx,T.apply ⟨bx,ar++X,[]⟩=⟨bx,ar',[]⟩)/\V1.cells=[V1]/\V1.calm=true/\sP ar' V1 (ts++[t]):=by
 have hrow:row.length=10:=(hr _ (.inr (Wj _))).len;rcases hO with⟨rfl,rfl⟩|⟨o,ax,rfl,hrep⟩
 .refine⟨_,_,(ar++X)++[⟨0,10,aU (.inl []) new⟩],λbx=>CM (hs bx) hn hrow,λbx=>?_,rfl,rfl,.inr ⟨(ar++X).length,0,rfl,?_⟩⟩
  .simp[Tn.apply]
  .refine⟨by simp,aU (.inl []) new,by simp,?_⟩;rw[l7,hn];have h1:lx ((ar++X)++[⟨0,10,aU (.inl []) new⟩]) (ar++X).length (dX (.inl [])) []:=⟨rfl,λi r u h1 _=>by simp[dX]at h1⟩;exact h1.snoc ((hr _ (.inr (Wj _))).push _)
 .obtain⟨body,hb1,hb2⟩:=hrep.it;have hol:=(V9.1 hb1).1;have hb1':(ar++X)[o]?=some ⟨ax,10,body⟩:=by rw[We hol];exact hb1
  have hbl:aD body=ts.length:=by rw[<- im];exact hb2.len
  have happ:=λbx=>EP (bx:=bx) (mp:=[]) (hs bx) hn hrow hb1' hbl (λe=>by have:=hrd o e;omega) hm;rw[BH (ax:=ax) hbl rfl]at happ;refine⟨_,_,(ar++X).set o ⟨ax+1,10,aU body new⟩,happ,λbx=>?_,rfl,rfl,.inr ⟨o,ax+1,by simp,?_⟩⟩
  .simp[Tn.apply]
  .refine⟨by simp,aU body new,?_,?_⟩
   .rw[WU (by rw[Wz];omega)]
   .rw[l7,hn];exact(((hb2.push X).set _).snoc ((hr o (.inl hol)).set _))
theorem uW {ar X0:List aL}{V0:V}{ts:List aH}{t:aH}{row:List V}{n:Nat}(hO:sP ar V0 ts)(hm:ts.length+1<=2147483648)(hl:(ar++X0).length=n)
  (hr:∀o,o<ar.length\/n+1<=o->lu (ar++X0++[⟨0,10,.inr [row]⟩]) o row t):
  ∃V1 T ar',(∀bx,aK ⟨bx,ar++X0++[⟨0,10,.inr [row]⟩],[]⟩ 10 V0 (.own n 0 0 1)=some (V1,T))/\(∀bx,T.apply ⟨bx,ar++X0++[⟨0,10,.inr [row]⟩],[]⟩=⟨bx,ar',[]⟩)/\V1.cells=[V1]/\V1.calm=true/\sP ar' V1 (ts++[t]):=by
 rw[WK]at hr |-;refine Mq (X:=X0++[⟨0,10,.inr [row]⟩]) (new:=.inr [row]) (rd:=some n) hO hm (λbx=>?_) rfl (λo ho=>?_) (λo ho=>hr o ?_)
 .have hg:(ar++(X0++[⟨0,10,.inr [row]⟩]))[n]?=some ⟨0,10,.inr [row]⟩:=by
   rw[<- WK,<- hl];simp
  simp[aW,aB,hg,az]
 .injection ho with ho;rw[<- ho,<- hl,Wz];omega
 .rcases ho with ho|ho
  .exact .inl ho
  .rw[<- WK,Wz,hl]at ho;exact .inr ho
theorem sP.keep {ar:List aL}{V0:V}{ts:List aH}(h:sP ar V0 ts)(bx:List (Nat×List V))(mp:List (List (PV×PV))):aY ⟨bx,ar,mp⟩ 4 V0=some (.aq 0 (ts.map aH.c)):=by
 rcases h with⟨rfl,rfl⟩|⟨o,ax,rfl,hrep⟩
 .rfl
 .exact hrep.keep bx mp
theorem gD {ar:List aL}{o:Nat}{t:aH}(hs:t.syms=[])(hm:t.bc=[]):lu ar o [.pv (.int .i64 t.kind),.pv (.str t.name),.pv (.int .i64 t.low),.pv (.int .i64 t.high),.pv (.int .i64 t.max),.tl [],.tl [],.pv (.int .i64 t.key),.pv (.int .i64 t.elem),.pv (.bool t.jO)] t:=
 ⟨.tl [],.tl [],rfl,.inr (.inr (by rw[hs];rfl)),.inr (.inr (by rw[hm];rfl))⟩
theorem mem_row {ar:List aL}{o:Nat}{t:aH}(hs:t.syms=[]):lu ar o [.pv (.int .i64 t.kind),.pv (.str t.name),.pv (.int .i64 t.low),.pv (.int .i64 t.high),.pv (.int .i64 t.max),.tl [],.pv (.aq 0 (t.bc.map Mem.c)),.pv (.int .i64 t.key),.pv (.int .i64 t.elem),.pv (.bool t.jO)] t:=
 ⟨.tl [],_,rfl,.inr (.inr (by rw[hs];rfl)),.inl rfl⟩
theorem sP.quiet {ar:List aL}{V0:V}{ts:List aH}(h:sP ar V0 ts):V0.calm=true/\V0.cells=[V0]:=by
 rcases h with⟨rfl,rfl⟩|⟨o,ax,rfl,_⟩<;>exact⟨rfl,rfl⟩
theorem jt {ar:List aL}{V0:V}{ts:List aH}{t:aH}{row:List V}(hO:sP ar V0 ts)(hm:ts.length+1<=2147483648)(hr:∀ar o,lu ar o row t):
  ∃V1 T ar',(∀bx,aK ⟨bx,ar++[⟨0,10,.inr [row]⟩],[]⟩ 10 V0 (.own ar.length 0 0 1)=some (V1,T))/\(∀bx,T.apply ⟨bx,ar++[⟨0,10,.inr [row]⟩],[]⟩=⟨bx,ar',[]⟩)/\V1.cells=[V1]/\V1.calm=true/\sP ar' V1 (ts++[t]):=by
 have:=uW (X0:=[]) (row:=row) (n:=ar.length) hO hm (by simp) (λo _=>hr _ o);simpa only[List.append_nil]using this
def aX (k:Int)(nm:ByteArray):aH:=⟨k,nm,0,0,0,[],[],0,0,false⟩
def cC (i:Nat):ByteArray:=Utf8.encode (65+(i:Int))
def nc (n:Nat):Sym:=⟨n,⟨#[115]⟩++Utf8.encode (97+(n:Int))⟩
def iU (a:Nat):List Sym:=(fP a).map nc
theorem CP {n:Nat}(h:n<=12):(Utf8.encode (97+(n:Int))).size=1:=by
 have:∀k:Fin 13,(Utf8.encode (97+((k.val:Nat):Int))).size=1:=by decide
 exact this ⟨n,by omega⟩
theorem EV {n:Nat}(h:n<=12):cB .add (.pv (.str ⟨#[115]⟩)) (.pv (.str (Utf8.encode (97+(n:Int)))))=some (.pv (.str (nc n).name)):=by
 have h1:(⟨#[115]⟩:ByteArray).size=1:=rfl;have h2:(1:Nat)+1<=1099511627776:=by omega
 simp only[cB,kI,h1,CP h,h2,if_true,Option.map_some];rfl
theorem ki {a n:Nat}(h:n∈fP a):1<=n/\n<=6:=by
 unfold fP at h;split at h
 .simp at h;omega
 .obtain⟨m,hm,rfl⟩:=Wk.1 h;unfold iS at hm;have:=WJ.1 (Xl.1 hm).1;omega
def EW (n:Nat):List PV:=[.int .i64 n,.str (nc n).name]
def fW (l:List Nat)(j:Nat):List (List PV):=(l.take j).map EW
theorem As {l:List Nat}{j n:Nat}(h:l[j]?=some n):fW l (j+1)=fW l j++[EW n]:=by
 unfold fW;rw[WL,h,WC];rfl
theorem EX {ar X:List aL}{o:Nat}{l:List Nat}(hl:l≠[])(ho:o<ar.length\/ar.length+2<=o):Home (ar++cK 2 (fW l l.length)++X) o 2 (dh ar.length (fW l l.length)) ((l.map nc).map Sym.c):=by
 have e:fW l l.length=(l.map nc).map Sym.c:=by
  unfold fW;rw[WV,Xw];rfl
 rw[e];cases l with
 |nil=>exact absurd rfl hl
 |cons n l=>
  refine .inr (.inl ⟨ar.length,((l.map nc).map Sym.c).length,rfl,by omega,.whole ?_⟩);rw[WK,Wn (Wj _),afA];rfl
def aS (d:List Node)(i:Nat):aH:=
 if aI d i=2 then {aX 2 ⟨#[]⟩ with low:=jD (nodeAt d i),high:=lq (nodeAt d i)}
 else if aI d i=3 then {aX 3 ⟨#[]⟩ with max:=((nodeAt d i).a%4:Nat)}
 else if aI d i=4 then {aX 4 (cC i)with syms:=iU (nodeAt d i).a,jO:=decide ((nodeAt d i).b%2=1)}
 else if aI d i=5 then {aX 5 (cC i)with bc:=bL d i true (nodeAt d i).parts 12}
 else if aI d i=6 then (if (bL d i false (nodeAt d i).parts 12).length=0 then aX 5 (cC i) else {aX 6 (cC i)with bc:=bL d i false (nodeAt d i).parts 12,jO:=decide ((nodeAt d i).b%2=1)})
 else if aI d i=7 then {aX 7 ⟨#[]⟩ with max:=((nodeAt d i).a%4:Nat),elem:=((nodeAt d i).c%d.length:Nat)}
 else if aI d i=8 then (if js d (nodeAt d i).b=none then {aX 7 ⟨#[]⟩ with max:=((nodeAt d i).a%4:Nat),elem:=((nodeAt d i).c%d.length:Nat)} else {aX 8 ⟨#[]⟩ with max:=((nodeAt d i).a%4:Nat),key:=fH (js d (nodeAt d i).b),elem:=((nodeAt d i).c%d.length:Nat)})
 else if aI d i=9 then {aX 9 ⟨#[]⟩ with elem:=((nodeAt d i).c%d.length:Nat)}
 else aX 1 ⟨#[]⟩
def qR (d:List Node):List aH×Bool:=if d.length<1\/5<d.length then ([],false) else ((List.range d.length).map (aS d),true)
set_option maxHeartbeats 4000000 in
theorem r279 (t:Nat)(d:List Node)(hok:∀y∈d,y.ok)(hll:bP d):res A aA 279 [.agg [.aq t (d.map Node.cs)]]=some [.agg [.aq 0 ((qR d).1.map aH.c)],.bool (qR d).2]:=by
 refine aw a279 rfl rfl ?_;simp only[F279,Ky];unfold bP at hll;simp(disch:=omega)only[go_sem];unfold qR;refine Br.aJ (λc=>?_) (λc=>?_)<;>simp(disch:=omega)only[go_sem,c]
 .rw[if_pos (.inl (by omega))];rfl
 refine Br.aJ (λc2=>?_) (λc2=>?_)<;>simp(disch:=omega)only[go_sem,c2]
 .rw[if_pos (.inr (by omega))];rfl
 rw[if_neg (by omega)];refine W.loop (α:=Nat×List aL×V) (λy=>⟨[(1,.ptr 1 0),(2,.ptr 2 0),(4,.pv (.int .i64 d.length)),(5,.ptr 5 0),(6,.pv (.int .i64 y.1))],⟨[(1,[.pv (.aq t (d.map Node.cs))]),(2,[.tl []]),(5,[y.2.2])],y.2.1,[]⟩⟩)
  (λy=>y.1<=d.length/\sP y.2.1 y.2.2 ((List.range y.1).map (aS d))) (λy=>d.length - y.1) (0,[],.tl []) rfl ⟨WA _,.inl ⟨rfl,rfl⟩⟩ λy hy=>?_
 obtain⟨i,ar,V0⟩:=y;obtain⟨hi,hO⟩:=hy;dsimp only at hi hO;simp(disch:=omega)only[go_sem];refine Br.aJ (λc3=>?_) (λc3=>?_)
 rotate_left
 .obtain rfl:i=d.length:=by omega
  have hkeep:=λbx=>hO.keep bx [];obtain⟨hq1,hq2⟩:=hO.quiet;simp(disch:=omega)only[go_sem,hkeep,hq1]
 have hx:d[i]?=some (nodeAt d i):=by
  unfold nodeAt;rw[Wb (by omega)];rfl
 have hidx:jx 5 t (d.map Node.cs) (some (i:Int))=some (V.pv (.ro t [.int .u8 (nodeAt d i).kind,.int .u8 (nodeAt d i).a,.int .u8 (nodeAt d i).b,.int .u8 (nodeAt d i).c,.aq 0 ((nodeAt d i).parts.map Part.c)])):=oy (t:=t) hx;have h298:=λt=>r298 t d i (by omega);have h286:=r286 (aI d i:Int);obtain⟨k1,k9⟩:=dt d i;have hk0:(aI d i:Int)=1\/(aI d i:Int)=2\/(aI d i:Int)=3\/(aI d i:Int)=4\/(aI d i:Int)=5\/(aI d i:Int)=6\/(aI d i:Int)=7\/(aI d i:Int)=8\/(aI d i:Int)=9:=by omega
 have hnext:(List.range (i+1)).map (aS d)=(List.range i).map (aS d)++[aS d i]:=by
  rw[Xq,WC];rfl
 have hml:((List.range i).map (aS d)).length+1<=2147483648:=by simp;omega
 have hxo:=hok _ (Wa hx);obtain⟨⟨_,xa,xb,xc⟩,_⟩:=hxo;have hcn:(nodeAt d i).c%d.length<d.length:=Wt _ (by omega);have hrn:=gN (k:=.i64) (a:=(nodeAt d i).c) (n:=d.length) (by omega);have h4:(nodeAt d i).a%4<4:=Wt _ (by decide);have h299:=r299 (nodeAt d i);have h300:=r300 (nodeAt d i);have h301:=r301 (nodeAt d i);have h302:=λt fl=>r302 t d i fl _ hx (by omega) (by omega) hok;have h303:=λt=>r303 t d (nodeAt d i).b (by omega) (by omega) xb;unfold Node.cs at h299 h300 h301;simp(disch:=omega)only[go_sem,hidx,h298,h286];rcases hk0 with hk|hk|hk|hk|hk|hk|hk|hk|hk
 all_goals simp(disch:=omega)only[go_sem,hk,Hz,Hy,hrn,h299,h300,h301,h302,h303,yF,wrap_i32,RW]
 .have e:aI d i=1:=by omega
  have hty:aS d i=aX 1 ⟨#[]⟩:=by simp only[aS,e];rfl
  have hb:=jt (t:=aX 1 ⟨#[]⟩) hO hml (λar o=>gD rfl rfl);obtain⟨V1,T,ar',happ,hT,hc1,hc2,hO'⟩:=hb;dsimp only[aX,cC]at happ hT;simp(disch:=omega)only[go_sem,happ,hT,hc1,hc2];refine⟨(i+1,ar',V1),⟨by dsimp only;omega,by dsimp only;rw[hnext,hty];exact hO'⟩,by dsimp only;omega,rfl⟩
 .have e:aI d i=2:=by omega
  have hty:aS d i={aX 2 ⟨#[]⟩ with low:=jD (nodeAt d i),high:=lq (nodeAt d i)}:=by simp only[aS,e];rfl
  have hb:=jt (t:={aX 2 ⟨#[]⟩ with low:=jD (nodeAt d i),high:=lq (nodeAt d i)}) hO hml (λar o=>gD rfl rfl);obtain⟨V1,T,ar',happ,hT,hc1,hc2,hO'⟩:=hb;dsimp only[aX,cC]at happ hT;simp(disch:=omega)only[go_sem,happ,hT,hc1,hc2];refine⟨(i+1,ar',V1),⟨by dsimp only;omega,by dsimp only;rw[hnext,hty];exact hO'⟩,by dsimp only;omega,rfl⟩
 .have e:aI d i=3:=by omega
  have hty:aS d i={aX 3 ⟨#[]⟩ with max:=((nodeAt d i).a%4:Nat)}:=by simp only[aS,e];rfl
  have hb:=jt (t:={aX 3 ⟨#[]⟩ with max:=((nodeAt d i).a%4:Nat)}) hO hml (λar o=>gD rfl rfl);obtain⟨V1,T,ar',happ,hT,hc1,hc2,hO'⟩:=hb;dsimp only[aX,cC]at happ hT;simp(disch:=omega)only[go_sem,happ,hT,hc1,hc2];refine⟨(i+1,ar',V1),⟨by dsimp only;omega,by dsimp only;rw[hnext,hty];exact hO'⟩,by dsimp only;omega,rfl⟩
 .have e:aI d i=4:=by omega
  have hty:aS d i={aX 4 (cC i)with syms:=iU (nodeAt d i).a,jO:=decide ((nodeAt d i).b%2=1)}:=by simp only[aS,e];rfl
  obtain⟨n0,n6⟩:=jJ (nodeAt d i).a;have hir:=λn (h:n∈fP (nodeAt d i).a)=>ki h;have hne:fP (nodeAt d i).a≠[]:=abx.1 n0;unfold iU at hty;generalize fP (nodeAt d i).a=l at *;have hnl:(tX l).length=l.length:=Wg _;refine W.fv l.length (λj=>⟨[(1,.ptr 1 0),(2,.ptr 2 0),(4,.pv (.int .i64 d.length)),(5,.ptr 5 0),(6,.pv (.int .i64 i)),(8,.ptr 8 0),(9,.pv (.aq 0 (ints (tX l)))),(10,.pv (.int .i64 (j:Nat)))],⟨[(1,[.pv (.aq t (d.map Node.cs))]),(2,[.tl []]),(5,[V0]),(8,[.pv (.int .i64 4),.pv (.str (Utf8.encode (65+(i:Int)))),.pv (.int .i64 0),.pv (.int .i64 0),.pv (.int .i64 0),dh ar.length (fW l j),.tl [],.pv (.int .i64 0),.pv (.int .i64 0),.pv (.bool (decide ((nodeAt d i).b%2=1)))])],ar++cK 2 (fW l j),[]⟩⟩) (λ_=>True) ?_ trivial (λj hj _=>?_)
  .have e0:fW l 0=[]:=rfl;rw[e0,BJ,BK,Xh];rfl
  simp(disch:=omega)only[go_sem];refine Br.aJ (λcj=>?_) (λcj=>?_)
  .have hgj:=Wb (l:=l) (i:=j) (by omega);generalize l[j]'(by omega)=n at hgj;obtain⟨g1,g6⟩:=hir n (Wa hgj);have hat:(tX l)[j]?=some ((n:Nat):Int):=by
    rw[BL (by omega),hgj];rfl
   have hadd:=EV (n:=n) (by omega);have hrl:(fW l j).length<=6:=by unfold fW;simp;omega
   have hgrow:=λbx=>grow bx [] ar 2 (fW l j) (EW n) rfl (by omega);have hgt:=λbx=>ik bx [] ar 2 (fW l j) (EW n);rw[<- As hgj]at hgrow hgt;unfold EW at hgrow hgt;simp(disch:=omega)only[go_sem,hat,wrap_i32,hadd,hgrow,hgt];exact .of (by omega) rfl trivial
  .obtain rfl:j=l.length:=by omega
   have hga:(cK 2 (fW l l.length)).length=1:=by
    cases l with
    |nil=>exact absurd rfl hne
    |cons x l=>rfl
   have hb:=uW (t:={aX 4 (cC i)with syms:=l.map nc,jO:=decide ((nodeAt d i).b%2=1)}) (X0:=cK 2 (fW l l.length)) (n:=ar.length+(cK 2 (fW l l.length)).length) hO hml (by rw[Wz]) (λo ho=>⟨dh ar.length (fW l l.length),.tl [],rfl,EX hne (by omega),.inr (.inr rfl)⟩);obtain⟨V1,T,ar',happ,hT,hc1,hc2,hO'⟩:=hb;dsimp only[aX,cC]at happ hT;simp(disch:=omega)only[go_sem,happ,hT,hc1,hc2];refine⟨(i+1,ar',V1),⟨by dsimp only;omega,by dsimp only;rw[hnext,hty];exact hO'⟩,by dsimp only;omega,rfl⟩
 .have e:aI d i=5:=by omega
  have hty:aS d i={aX 5 (cC i)with bc:=bL d i true (nodeAt d i).parts 12}:=by simp only[aS,e];rfl
  have hb:=jt (t:={aX 5 (cC i)with bc:=bL d i true (nodeAt d i).parts 12}) hO hml (λar o=>mem_row rfl);obtain⟨V1,T,ar',happ,hT,hc1,hc2,hO'⟩:=hb;dsimp only[aX,cC]at happ hT;simp(disch:=omega)only[go_sem,happ,hT,hc1,hc2];refine⟨(i+1,ar',V1),⟨by dsimp only;omega,by dsimp only;rw[hnext,hty];exact hO'⟩,by dsimp only;omega,rfl⟩
 .have e:aI d i=6:=by omega
  have hty0:aS d i=if (bL d i false (nodeAt d i).parts 12).length=0 then aX 5 (cC i) else {aX 6 (cC i)with bc:=bL d i false (nodeAt d i).parts 12,jO:=decide ((nodeAt d i).b%2=1)}:=by simp only[aS,e];rfl
  refine Br.aJ (λc6=>?_) (λc6=>?_)<;>simp(disch:=omega)only[go_sem]
  .have hty:aS d i=aX 5 (cC i):=by rw[hty0,if_pos (by omega)]
   have hb:=jt (t:=aX 5 (cC i)) hO hml (λar o=>gD rfl rfl);obtain⟨V1,T,ar',happ,hT,hc1,hc2,hO'⟩:=hb;dsimp only[aX,cC]at happ hT;simp(disch:=omega)only[go_sem,happ,hT,hc1,hc2];refine⟨(i+1,ar',V1),⟨by dsimp only;omega,by dsimp only;rw[hnext,hty];exact hO'⟩,by dsimp only;omega,rfl⟩
  .have hty:aS d i={aX 6 (cC i)with bc:=bL d i false (nodeAt d i).parts 12,jO:=decide ((nodeAt d i).b%2=1)}:=by rw[hty0,if_neg (by omega)]
   have hb:=jt (t:={aX 6 (cC i)with bc:=bL d i false (nodeAt d i).parts 12,jO:=decide ((nodeAt d i).b%2=1)}) hO hml (λar o=>mem_row rfl);obtain⟨V1,T,ar',happ,hT,hc1,hc2,hO'⟩:=hb;dsimp only[aX,cC]at happ hT;simp(disch:=omega)only[go_sem,happ,hT,hc1,hc2];refine⟨(i+1,ar',V1),⟨by dsimp only;omega,by dsimp only;rw[hnext,hty];exact hO'⟩,by dsimp only;omega,rfl⟩
 .have e:aI d i=7:=by omega
  have hty:aS d i={aX 7 ⟨#[]⟩ with max:=((nodeAt d i).a%4:Nat),elem:=((nodeAt d i).c%d.length:Nat)}:=by simp only[aS,e];rfl
  have hb:=jt (t:={aX 7 ⟨#[]⟩ with max:=((nodeAt d i).a%4:Nat),elem:=((nodeAt d i).c%d.length:Nat)}) hO hml (λar o=>gD rfl rfl);obtain⟨V1,T,ar',happ,hT,hc1,hc2,hO'⟩:=hb;dsimp only[aX,cC]at happ hT;simp(disch:=omega)only[go_sem,happ,hT,hc1,hc2];refine⟨(i+1,ar',V1),⟨by dsimp only;omega,by dsimp only;rw[hnext,hty];exact hO'⟩,by dsimp only;omega,rfl⟩
 .have e:aI d i=8:=by omega
  have hty0:aS d i=if js d (nodeAt d i).b=none then {aX 7 ⟨#[]⟩ with max:=((nodeAt d i).a%4:Nat),elem:=((nodeAt d i).c%d.length:Nat)} else {aX 8 ⟨#[]⟩ with max:=((nodeAt d i).a%4:Nat),key:=fH (js d (nodeAt d i).b),elem:=((nodeAt d i).c%d.length:Nat)}:=by simp only[aS,e];rfl
  refine Br.aJ (λc8=>?_) (λc8=>?_)<;>simp(disch:=omega)only[go_sem]
  .have hty:aS d i={aX 7 ⟨#[]⟩ with max:=((nodeAt d i).a%4:Nat),elem:=((nodeAt d i).c%d.length:Nat)}:=by rw[hty0,if_pos c8]
   have hb:=jt (t:={aX 7 ⟨#[]⟩ with max:=((nodeAt d i).a%4:Nat),elem:=((nodeAt d i).c%d.length:Nat)}) hO hml (λar o=>gD rfl rfl);obtain⟨V1,T,ar',happ,hT,hc1,hc2,hO'⟩:=hb;dsimp only[aX,cC]at happ hT;simp(disch:=omega)only[go_sem,happ,hT,hc1,hc2];refine⟨(i+1,ar',V1),⟨by dsimp only;omega,by dsimp only;rw[hnext,hty];exact hO'⟩,by dsimp only;omega,rfl⟩
  .have hty:aS d i={aX 8 ⟨#[]⟩ with max:=((nodeAt d i).a%4:Nat),key:=fH (js d (nodeAt d i).b),elem:=((nodeAt d i).c%d.length:Nat)}:=by rw[hty0,if_neg c8]
   have hb:=jt (t:={aX 8 ⟨#[]⟩ with max:=((nodeAt d i).a%4:Nat),key:=fH (js d (nodeAt d i).b),elem:=((nodeAt d i).c%d.length:Nat)}) hO hml (λar o=>gD rfl rfl);obtain⟨V1,T,ar',happ,hT,hc1,hc2,hO'⟩:=hb;dsimp only[aX,cC]at happ hT;simp(disch:=omega)only[go_sem,happ,hT,hc1,hc2];refine⟨(i+1,ar',V1),⟨by dsimp only;omega,by dsimp only;rw[hnext,hty];exact hO'⟩,by dsimp only;omega,rfl⟩
 .have e:aI d i=9:=by omega
  have hty:aS d i={aX 9 ⟨#[]⟩ with elem:=((nodeAt d i).c%d.length:Nat)}:=by simp only[aS,e];rfl
  have hb:=jt (t:={aX 9 ⟨#[]⟩ with elem:=((nodeAt d i).c%d.length:Nat)}) hO hml (λar o=>gD rfl rfl);obtain⟨V1,T,ar',happ,hT,hc1,hc2,hO'⟩:=hb;dsimp only[aX,cC]at happ hT;simp(disch:=omega)only[go_sem,happ,hT,hc1,hc2];refine⟨(i+1,ar',V1),⟨by dsimp only;omega,by dsimp only;rw[hnext,hty];exact hO'⟩,by dsimp only;omega,rfl⟩
theorem wC:∀k:Fin 13,isName (abS k.val)=true:=by decide
theorem CQ:∀j k:Fin 13,abS j.val=abS k.val->j=k:=by decide
theorem yG:∀k:Fin 13,isName (nc k.val).name=true:=by decide
theorem EY:∀j k:Fin 13,(nc j.val).name=(nc k.val).name->j=k:=by decide
theorem oz:∀k:Fin 5,isName (cC k.val)=true:=by decide
theorem CS:∀j k:Fin 5,cC j.val=cC k.val->j=k:=by decide
theorem sQ {L:List Nat}{f:Nat->ByteArray}(hp:L.Pairwise (·<·))(h1:∀n∈L,1<=n/\n<=12)(hf:∀m n,m<=12->n<=12->f m=f n->m=n)(hn:∀n,n<=12->isName (f n)=true):mw (L.map λ(n:Nat)=>((n:Int),f n))=true:=by
 unfold mw;rw[Bool.not_eq_true',WY];intro k hk;have hkl:k<L.length:=by simpa using hk
 have hg:=Wb hkl;obtain⟨g1,g2⟩:=h1 _ (Xc hkl);have e:uQ (L.map λ(n:Nat)=>((n:Int),f n)) k=jg (L.map λ(n:Nat)=>((n:Int),f n)) k ((L[k]:Int),f L[k]):=by
  unfold uQ;rw[Wf,hg];rfl
 rw[e];have d1:decide (((L[k]:Nat):Int)<1)=false:=by simp;omega
 have d2:decide (1000<((L[k]:Nat):Int))=false:=by simp;omega
 have d3:(decide (0<k)&&decide (((L[k]:Nat):Int)<=oo (L.map λ(n:Nat)=>((n:Int),f n)) k))=false:=by
  by_cases h0:0<k
  .have hlt:=Xd.1 hp (k - 1) k (by omega) hkl (by omega);have hq:oo (L.map λ(n:Nat)=>((n:Int),f n)) k=((L[k - 1]'(by omega):Nat):Int):=by
    unfold oo;rw[Wf,Wb (show k - 1<L.length by omega)];rfl
   rw[hq];simp;omega
  .simp[h0]
 have d4:cY (((L.map λ(n:Nat)=>((n:Int),f n)).map (·.2)).take k) (f L[k])=false:=by
  rw[Xz];intro h;rw[eI,Xw,<- abp]at h;obtain⟨m,hm,he⟩:=Wk.1 h;obtain⟨j,hj⟩:=Wd.1 hm;rw[Wy]at hj;split at hj
  .rename_i hjk;obtain⟨hjl,hjm⟩:=V9.1 hj;have hlt:=Xd.1 hp j k hjl hkl hjk;obtain⟨m1,m2⟩:=h1 m (Wa hj);have:=hf m L[k] m2 g2 he;omega
  .cases hj
 unfold jg;rw[d1,d2,d3,d4,hn _ g2];simp
theorem EZ (a:Nat):pM (iU a)=true:=by
 have hp:(fP a).Pairwise (·<·):=by
  unfold fP;split
  .exact XC _ _
  .rw[afs];unfold iS;exact((afy).filter _).imp (λh=>by omega)
 obtain⟨n0,n6⟩:=jJ a;have hi:=sQ (f:=λn=>(nc n).name) hp (λn hn=>by have:=ki hn;omega) (λm n h1 h2 h=>by have:=EY ⟨m,by omega⟩ ⟨n,by omega⟩ h;simpa using this) (λn h=>yG ⟨n,by omega⟩);have e:(iU a).map Sym.nm=(fP a).map λ(n:Nat)=>((n:Int),(nc n).name):=by
  unfold iU;rw[Xw];rfl
 have el:(iU a).length=(fP a).length:=Wg _;unfold pM;rw[e,hi,el];simp;omega
theorem yH {d:List Node}{i:Nat}{fl:Bool}{ps:List Part}{id:Nat}{m:Mem}(h:mz d i fl ps id=some m):∃p,dC d i fl id p=m/\mY d i id p=true/\p∈ps:=by
 unfold mz at h;cases hf:ps.find? (mY d i id)with
 |none=>simp[hf]at h
 |some p=>
  rw[hf]at h;exact⟨p,by simpa using h,List.find?_some hf,List.mem_of_find?_eq_some hf⟩
theorem E0 {k:Nat}{x:Node}{code:Nat}(h:(dQ k x code).2=false):(dQ k x code).1=bl:=by
 unfold dQ at h |-
 repeat' split at h
 all_goals first
  |(cases h;done)
  |skip
 rename_i h1 h2 h3 h4 h5;rw[if_neg h1,if_neg h2,if_neg h3,if_neg h4,if_pos h5]
theorem Au (d:List Node)(i:Nat)(fl:Bool)(id:Nat)(p:Part):gO fl (dC d i fl id p)=false:=by
 cases fl with
 |false=>simp[gO,dC,eqv]
 |true=>
  unfold gO dC;dsimp only;simp only[Bool.true_and,Bool.not_true,Bool.false_and,Bool.false_or];by_cases h1:p.flag%4=1
  .simp[h1,eqv]
  by_cases h2:2<=p.flag%4
  .cases hv:(lz d ((cJ d i p.type).getD 0) p).2 with
   |true=>simp[h1,h2]
   |false=>
    have:=E0 hv;have e:(lz d ((cJ d i p.type).getD 0) p).1=bl:=this;simp[h1,h2,eqv,e]
  .simp[h1,h2,eqv]
theorem BM {g:Nat->Option Mem}(h:∀j m,g j=some m->m.nm=(((j+1:Nat):Int),abS (j+1))):∀xs:List Nat,(xs.filterMap g).map Mem.nm=(((xs.filter λj=>(g j).isSome).map (·+1)).map λ(n:Nat)=>((n:Int),abS n))
 |[]=>rfl
 |x::xs=>by
  have ih:=BM h xs;cases hg:g x with
  |none=>simp[hg,ih]
  |some m=>
   have:=h x m hg;simp[hg,ih,this]
theorem E1 {d:List Node}{i:Nat}{fl:Bool}{ps:List Part}{id:Nat}{m:Mem}(h:mz d i fl ps id=some m):m.nm=((id:Int),abS id):=by
 obtain⟨p,rfl,_⟩:=yH h;rfl
theorem kj {d:List Node}{i:Nat}{fl:Bool}{ps:List Part}{k:Nat}{m:Mem}(h:m∈bL d i fl ps k):∃id p,dC d i fl id p=m/\mY d i id p=true/\p∈ps/\1<=id/\id<=k:=by
 unfold bL at h;obtain⟨j,hj,hm⟩:=W4.1 h;obtain⟨p,h1,h2,h3⟩:=yH hm;exact⟨j+1,p,h1,h2,h3,by omega,by have:=WJ.1 hj;omega⟩
theorem uX (d:List Node)(i:Nat)(fl:Bool)(ps:List Part)(h:fl=true\/(bL d i fl ps 12).length≠0):fK fl (bL d i fl ps 12)=true:=by
 have hl:=mZ d i fl ps 12;have e1:(bL d i fl ps 12).any (gO fl)=false:=by
  rw[WY];intro m hm;obtain⟨id,p,rfl,_⟩:=kj hm;rw[Au];simp
 have e2:=BM (g:=λj=>mz d i fl ps (j+1)) (λj m h=>E1 h) (List.range 12);have e3:mw ((bL d i fl ps 12).map Mem.nm)=true:=by
  unfold bL;rw[e2];refine sQ ?_ (λn hn=>?_) (λm n h1 h2 h=>by have:=CQ ⟨m,by omega⟩ ⟨n,by omega⟩ h;simpa using this) (λn h=>wC ⟨n,by omega⟩)
  .rw[afs];exact((afy).filter _).imp (λh=>by omega)
  .obtain⟨m,hm,rfl⟩:=Wk.1 hn;have:=WJ.1 (Xl.1 hm).1;omega
 unfold fK;rw[e1,e3];rcases h with rfl|h
 .simp;omega
 .simp;omega
theorem pQ {d:List Node}{code q:Nat}(h0:0<d.length)(h:js d code=some q):q<d.length/\aI d q<=4:=by
 unfold js at h;cases hf:(List.range d.length).find? (λk=>decide (aI d ((code+k)%d.length)<=4))with
 |none=>simp[hf]at h
 |some k=>
  rw[hf]at h;have hq:(code+k)%d.length=q:=by simpa using h
  have:=XH hf;rw[hq]at this;exact⟨by rw[<- hq];exact Nat.mod_lt _ h0,by simpa using this⟩
theorem E2 (d:List Node)(i:Nat)(hi:i<5):dO (aS d i)=true:=by
 obtain⟨k1,k9⟩:=dt d i;have hb6:(nodeAt d i).b%6<6:=Wt _ (by decide);have h4:(nodeAt d i).a%4<4:=Wt _ (by decide);have hhi:jD (nodeAt d i)<=lq (nodeAt d i):=by unfold lq;omega
 have hn:=oz ⟨i,hi⟩;dsimp only at hn;have hs:=EZ (nodeAt d i).a;have p1:=uX d i true (nodeAt d i).parts (.inl rfl);have p2:=uX d i false (nodeAt d i).parts;have hk0:aI d i=1\/aI d i=2\/aI d i=3\/aI d i=4\/aI d i=5\/aI d i=6\/aI d i=7\/aI d i=8\/aI d i=9:=by omega
 rcases hk0 with hk|hk|hk|hk|hk|hk|hk|hk|hk
 .simp[aS,hk,dO,aX,ez,cp,eqv,kindOk]
 .simp[aS,hk,dO,aX,ez,cp,eqv,kindOk,hhi]
 .simp[aS,hk,dO,aX,ez,cp,eqv,kindOk];omega
 .simp[aS,hk,dO,aX,ez,cp,eqv,kindOk,hn,hs]
 .simp[aS,hk,dO,aX,ez,cp,eqv,kindOk,hn,p1]
 .have e:aS d i=if (bL d i false (nodeAt d i).parts 12).length=0 then aX 5 (cC i) else {aX 6 (cC i)with bc:=bL d i false (nodeAt d i).parts 12,jO:=decide ((nodeAt d i).b%2=1)}:=by simp only[aS,hk];rfl
  rw[e];split
  .have em:fK true []=true:=by simp[fK,mw]
   simp[dO,aX,ez,cp,eqv,kindOk,hn,em]
  .rename_i h0;have:=p2 (.inr h0);simp[dO,aX,ez,cp,eqv,kindOk,hn,this]
 .simp[aS,hk,dO,aX,ez,cp,eqv,kindOk];omega
 .simp only[aS,hk];simp;split
  .simp[dO,aX,ez,cp,eqv,kindOk];omega
  .simp[dO,aX,ez,cp,eqv,kindOk];omega
 .simp[aS,hk,dO,aX,ez,cp,eqv,kindOk]
theorem lA {d:List Node}{i:Nat}(hk:aI d i=6):aS d i=if (bL d i false (nodeAt d i).parts 12).length=0 then aX 5 (cC i) else {aX 6 (cC i)with bc:=bL d i false (nodeAt d i).parts 12,jO:=decide ((nodeAt d i).b%2=1)}:=by simp only[aS,hk];rfl
theorem nf {d:List Node}{i:Nat}(hk:aI d i=8):aS d i=if js d (nodeAt d i).b=none then {aX 7 ⟨#[]⟩ with max:=((nodeAt d i).a%4:Nat),elem:=((nodeAt d i).c%d.length:Nat)} else {aX 8 ⟨#[]⟩ with max:=((nodeAt d i).a%4:Nat),key:=fH (js d (nodeAt d i).b),elem:=((nodeAt d i).c%d.length:Nat)}:=by simp only[aS,hk];rfl
theorem dG (d:List Node)(i:Nat):aI d i=1\/aI d i=2\/aI d i=3\/aI d i=4\/aI d i=5\/aI d i=6\/aI d i=7\/aI d i=8\/aI d i=9:=by
 have:=dt d i;omega
theorem uY (d:List Node)(i:Nat):(aS d i).name=⟨#[]⟩\/(aS d i).name=cC i:=by
 rcases dG d i with hk|hk|hk|hk|hk|hk|hk|hk|hk
 case inr.inr.inr.inr.inr.inl=>
  rw[lA hk];split<;>simp[aX]
 case inr.inr.inr.inr.inr.inr.inr.inl=>
  rw[nf hk];split<;>simp[aX]
 all_goals simp[aS,hk,aX]
theorem CT {d:List Node}{i:Nat}(h:aI d i<=4):(aS d i).kind=aI d i:=by
 have:=dt d i;have hk:aI d i=1\/aI d i=2\/aI d i=3\/aI d i=4:=by omega
 rcases hk with hk|hk|hk|hk<;>simp[aS,hk,aX]
theorem yI {d:List Node}{i:Nat}{fl:Bool}{ps:List Part}{k:Nat}(h0:0<d.length)(hi:i<d.length){m:Mem}(h:m∈bL d i fl ps k):0<=m.type/\m.type<d.length:=by
 obtain⟨id,p,rfl,hh,_⟩:=kj h;unfold mY at hh;cases ht:cJ d i p.type with
 |none=>simp[ht]at hh
 |some u=>
  have:=kh h0 hi ht;show 0<=fH (cJ d i p.type)/\fH (cJ d i p.type)<d.length;rw[ht];unfold fH;dsimp only;omega
theorem CU {d:List Node}{i:Nat}(h0:0<d.length)(hi:i<d.length):∀u∈cT (aS d i),0<=u/\u<d.length:=by
 have hc:(nodeAt d i).c%d.length<d.length:=Wt _ h0;have hp:=λfl m (h:m∈bL d i fl (nodeAt d i).parts 12)=>yI h0 hi h;have hm:∀fl,∀u:Int,u∈(bL d i fl (nodeAt d i).parts 12).map (·.type)->0<=u/\u<d.length:=λfl u hu=>by
  obtain⟨m,hm,rfl⟩:=Wk.1 hu;exact hp fl m hm
 intro u hu;rcases dG d i with hk|hk|hk|hk|hk|hk|hk|hk|hk
 case inr.inr.inr.inr.inr.inl=>
  rw[lA hk]at hu;split at hu
  .simp[cT,jF,abG,aX]at hu
  .refine hm false u ?_;simpa [cT,jF,abG,aX]using hu
 case inr.inr.inr.inr.inl=>
  refine hm true u ?_;simpa [aS,hk,cT,jF,abG,aX]using hu
 case inr.inr.inr.inr.inr.inr.inr.inl=>
  rw[nf hk]at hu;split at hu
  .simp only[cT,jF,abG,aX]at hu;simp at hu;omega
  .rename_i hq;cases hkey:js d (nodeAt d i).b with
   |none=>exact absurd hkey hq
   |some q=>
    have:=pQ h0 hkey;rw[hkey]at hu;simp only[cT,jF,abG,aX,fH]at hu;simp at hu;omega
 case inr.inr.inr.inr.inr.inr.inl=>
  simp only[aS,hk,cT,jF,abG,aX]at hu;simp at hu;omega
 case inr.inr.inr.inr.inr.inr.inr.inr=>
  simp only[aS,hk,cT,jF,abG,aX]at hu;simp at hu;omega
 all_goals simp[aS,hk,cT,jF,abG,aX]at hu
theorem E3 {d:List Node}{i:Nat}(h0:0<d.length)(h:(aS d i).kind=8):∃q:Nat,(aS d i).key=q/\q<d.length/\aI d q<=4:=by
 rcases dG d i with hk|hk|hk|hk|hk|hk|hk|hk|hk
 case inr.inr.inr.inr.inr.inl=>
  rw[lA hk]at h;split at h<;>simp[aX]at h
 case inr.inr.inr.inr.inr.inr.inr.inl=>
  rw[nf hk]at h |-;split at h
  .simp[aX]at h
  .rename_i hq;rw[if_neg hq];cases hkey:js d (nodeAt d i).b with
   |none=>exact absurd hkey hq
   |some q=>exact⟨q,rfl,pQ h0 hkey⟩
 all_goals simp[aS,hk,aX]at h
theorem CV {d:List Node}(h0:0<d.length)(h5:d.length<=5):cS ((List.range d.length).map (aS d))=0:=by
 have hlen:((List.range d.length).map (aS d)).length=d.length:=by simp
 have hget:∀k,k<d.length->((List.range d.length).map (aS d))[k]?=some (aS d k):=λk hk=>by
  rw[Wf,Xr hk];rfl
 unfold cS;rw[if_neg (by omega)];have hz:∀k∈List.range ((List.range d.length).map (aS d)).length,¬decide (eY ((List.range d.length).map (aS d)) k≠0)=true:=by
  intro k hk;have hk:k<d.length:=by rw[hlen]at hk;simpa using hk
  have e1:=E2 d k (by omega);have e2:lZ ((List.range d.length).map (aS d)) k (aS d k)=false:=by
   unfold lZ;rcases uY d k with hn|hn
   .rw[hn];simp
   .have:cY ((((List.range d.length).map (aS d)).take k).map (·.name)) (aS d k).name=false:=by
     rw[Xz];intro h;rw[eI]at h;obtain⟨t,ht,he⟩:=Wk.1 h;rw[<- abp]at ht;obtain⟨j,hj,rfl⟩:=Wk.1 ht;rw[List.take_range]at hj;have hj:=WJ.1 hj;rw[hn]at he;rcases uY d j with hm|hm
     .rw[hm]at he;have:=CL (oz ⟨k,by omega⟩);exact this he.symm
     .rw[hm]at he;have:=CS ⟨j,by omega⟩ ⟨k,by omega⟩ he;simp at this;omega
    rw[this];simp
  have e3:(cT (aS d k)).any (dP ((List.range d.length).map (aS d)).length)=false:=by
   rw[WY];intro u hu;have:=CU h0 hk u hu;rw[hlen];simp[dP];omega
  have e4:eX ((List.range d.length).map (aS d)) (aS d k)=false:=by
   unfold eX;by_cases h8:(aS d k).kind=8
   .obtain⟨q,hq1,hq2,hq3⟩:=E3 h0 h8;have:kf ((List.range d.length).map (aS d)) (aS d k).key=aI d q:=by
     unfold kf;rw[hq1,WX,hget q hq2,<- CT hq3];rfl
    have hr:=dt d q;have d1:decide ((1:Int)<=aI d q)=true:=by simp;omega
    have d2:decide ((aI d q:Int)<=4)=true:=by simp;omega
    rw[this,d1,d2];simp
   .simp[h8]
  have e5:eY ((List.range d.length).map (aS d)) k=0:=by
   simp only[eY,hget k hk,gR,e1,e2,e3,e4];rfl
  rw[e5];decide
 rw[Xn.2 hz];rfl
theorem Av:∀k:Fin 13,(abS k.val).size<=8:=by decide
theorem CX:∀k:Fin 13,(nc k.val).name.size<=8:=by decide
theorem Aw:∀k:Fin 5,(cC k.val).size<=8:=by decide
theorem HA (a code:Nat):yE a code<=6:=by
 unfold yE;cases h:(fP a)[code%(fP a).length]? with
 |none=>simp
 |some n=>exact(ki (Wa h)).2
theorem BN (x:Node): -3<=jD x/\jD x<=3:=by
 have:x.a%7<7:=Wt _ (by decide);unfold jD;omega
theorem yJ (k:Nat)(hk:k<=9)(x:Node)(code:Nat):mu 1 (dQ k x code).1.c:=by
 have hlo:=BN x;have hm:code%(x.b%6+1)<6+1:=W6 (Wt _ (by omega)) (by have:x.b%6<6:=Wt _ (by decide);omega);have hid:=HA x.a code;refine⟨(dQ k x code).1,rfl,?_,?_,?_,?_,?_⟩
 all_goals unfold dQ
 all_goals generalize code%(x.b%6+1)=r at hm |-
 all_goals repeat' split
 all_goals simp[bl,eH,bC,bP,ByteArray.size]
 all_goals first
  |omega
  |(split<;>simp;done)
  |skip
theorem Ax:mu 1 bl.c:=by
 refine⟨bl,rfl,?_,?_,?_,?_,?_⟩<;>simp[bl,eH,bC,bP,ByteArray.size]
theorem E4 (d:List Node)(u:Nat)(p:Part):mu 1 (lz d u p).1.c:=by
 refine yJ _ ?_ _ _;have:=dt d u;unfold initK;split<;>omega
theorem E5 {d:List Node}{i:Nat}{fl:Bool}{id:Nat}{p:Part}(h0:0<d.length)(h5:d.length<=5)(hi:i<d.length)(h1:id<=12)(hh:mY d i id p=true):(dC d i fl id p).ok:=by
 have hs:=Av ⟨id,by omega⟩;dsimp only at hs;refine⟨?_,?_,?_,1,?_⟩
 .show eH (id:Int);unfold eH;omega
 .show bC (abS id);unfold bC;omega
 .show eH (fH (cJ d i p.type));unfold mY at hh;cases ht:cJ d i p.type with
  |none=>simp[ht]at hh
  |some u=>
   have:=kh h0 hi ht;unfold eH fH;dsimp only;omega
 .unfold dC;dsimp only;split
  .exact E4 _ _ _
  .exact Ax
theorem eh {k:Int}{nm:ByteArray}{lo hi mx key el:Int}{sy:List Sym}{ms:List Mem}{op:Bool}(h1:eH k)(h2:bC nm)(h3:eH lo)(h4:eH hi)(h5:eH mx)(h6:eH key)(h7:eH el)(h8:bP sy)(h9:bP ms)(h10:∀s∈sy,s.ok)(h11:∀m∈ms,m.ok):(⟨k,nm,lo,hi,mx,sy,ms,key,el,op⟩:aH).ok:=⟨⟨h1,h2,h3,h4,h5,h6,h7⟩,⟨h8,h9⟩,h10,h11⟩
theorem BO {d:List Node}{i:Nat}(h0:0<d.length)(h5:d.length<=5)(hi:i<d.length):(aS d i).ok/\(aS d i).short:=by
 have hlo:=BN (nodeAt d i);have hb6:(nodeAt d i).b%6<6:=Wt _ (by decide);have hhi:lq (nodeAt d i)=jD (nodeAt d i)+(((nodeAt d i).b%6:Nat):Int):=rfl;have hc:(nodeAt d i).c%d.length<d.length:=Wt _ h0;have h4:(nodeAt d i).a%4<4:=Wt _ (by decide);have hnm:=Aw ⟨i,by omega⟩;dsimp only at hnm;have hT:bC (cC i):=by unfold bC;omega
 have hE:bC ⟨#[]⟩:=by unfold bC;exact WA _
 have z:eH 0:=by unfold eH;omega
 have kk:∀k:Int,0<=k->k<=9->eH k:=λk _ _=>by unfold eH;omega
 have iL:eH (jD (nodeAt d i)):=by unfold eH;omega
 have iH:eH (lq (nodeAt d i)):=by unfold eH;omega
 have iC:eH (((nodeAt d i).c%d.length:Nat):Int):=by unfold eH;omega
 have iA:eH (((nodeAt d i).a%4:Nat):Int):=by unfold eH;omega
 have iK:eH (fH (js d (nodeAt d i).b)):=by
  cases hk:js d (nodeAt d i).b with
  |none=>unfold eH fH;dsimp only;omega
  |some q=>
   have:=pQ h0 hk;unfold eH fH;dsimp only;omega
 have n1:bP ([]:List Sym):=by unfold bP;simp
 have n2:bP ([]:List Mem):=by unfold bP;simp
 have n3:∀s∈([]:List Sym),s.ok:=λs hs=>by simp at hs
 have n4:∀s∈([]:List Mem),s.ok:=λs hs=>by simp at hs
 have hsl:(iU (nodeAt d i).a).length<=6:=by
  unfold iU;rw[Wg];exact(jJ _).2
 have sl:bP (iU (nodeAt d i).a):=by unfold bP;omega
 have so:∀s∈iU (nodeAt d i).a,s.ok:=λs hs=>by
  obtain⟨n,hn,rfl⟩:=Wk.1 hs;have h6:=ki hn;have hz:=CX ⟨n,by omega⟩;dsimp only at hz;refine⟨?_,?_⟩
  .show eH (n:Int);unfold eH;omega
  .unfold bC;omega
 have hml:=λfl=>mZ d i fl (nodeAt d i).parts 12;have ml:∀fl,bP (bL d i fl (nodeAt d i).parts 12):=λfl=>by have:=hml fl;unfold bP;omega
 have mo:∀fl,∀m∈bL d i fl (nodeAt d i).parts 12,m.ok:=λfl m hm=>by
  obtain⟨id,p,rfl,hh,_,_,h12⟩:=kj hm;exact E5 h0 h5 hi h12 hh
 have hs0:∀t:aH,t.syms.length<=12->t.bc.length<=12->t.short:=λt a b=>⟨by omega,by omega⟩;rcases dG d i with hk|hk|hk|hk|hk|hk|hk|hk|hk
 case inr.inr.inr.inr.inr.inl=>
  rw[lA hk];split<;>dsimp only[aX]
  .exact⟨eh (kk 5 (by decide) (by decide)) hT z z z z z n1 n2 n3 n4,hs0 _ (WA _) (WA _)⟩
  .exact⟨eh (kk 6 (by decide) (by decide)) hT z z z z z n1 (ml false) n3 (mo false),hs0 _ (WA _) (hml false)⟩
 case inr.inr.inr.inr.inr.inr.inr.inl=>
  rw[nf hk];split<;>dsimp only[aX]
  .exact⟨eh (kk 7 (by decide) (by decide)) hE z z iA z iC n1 n2 n3 n4,hs0 _ (WA _) (WA _)⟩
  .exact⟨eh (kk 8 (by decide) (by decide)) hE z z iA iK iC n1 n2 n3 n4,hs0 _ (WA _) (WA _)⟩
 all_goals simp only[aS,hk]
 all_goals dsimp -failIfUnchanged [aX]
 .exact⟨eh (kk 1 (by decide) (by decide)) hE z z z z z n1 n2 n3 n4,hs0 _ (WA _) (WA _)⟩
 .exact⟨eh (kk 2 (by decide) (by decide)) hE iL iH z z z n1 n2 n3 n4,hs0 _ (WA _) (WA _)⟩
 .exact⟨eh (kk 3 (by decide) (by decide)) hE z z iA z z n1 n2 n3 n4,hs0 _ (WA _) (WA _)⟩
 .exact⟨eh (kk 4 (by decide) (by decide)) hT z z z z z sl n2 so n4,hs0 _ (WM hsl (by decide)) (WA _)⟩
 .exact⟨eh (kk 5 (by decide) (by decide)) hT z z z z z n1 (ml true) n3 (mo true),hs0 _ (WA _) (hml true)⟩
 .exact⟨eh (kk 7 (by decide) (by decide)) hE z z iA z iC n1 n2 n3 n4,hs0 _ (WA _) (WA _)⟩
 .exact⟨eh (kk 9 (by decide) (by decide)) hE z z z z iC n1 n2 n3 n4,hs0 _ (WA _) (WA _)⟩
theorem Mr {d:List Node}(h0:0<d.length)(h5:d.length<=5):(∀t∈(List.range d.length).map (aS d),t.ok)/\∀t∈(List.range d.length).map (aS d),t.short:=by
 constructor<;>intro t ht<;>obtain⟨i,hi,rfl⟩:=Wk.1 ht
 .exact(BO h0 h5 (WJ.1 hi)).1
 .exact(BO h0 h5 (WJ.1 hi)).2
def Yw (ar:List aL)(o:Nat)(v:V)(c:PV):Prop:=(v=.pv c/\c.perm=true)\/∃k rows,c=.aq 0 rows/\Home ar o k v rows
theorem Yw.keep {ar:List aL}{o:Nat}{v:V}{c:PV}(h:Yw ar o v c)(bx:List (Nat×List V))(mp:List (List (PV×PV)))(d:Nat):aY ⟨bx,ar,mp⟩ (d+1) v=some c:=by
 rcases h with⟨rfl,h⟩|⟨k,rows,rfl,h2⟩
 .rw[ya,if_pos h]
 .exact h2.keep bx mp d
def gP (ar:List aL)(o:Nat)(row:List V)(cs:List PV):Prop:=row.length=cs.length/\∀(i:Nat) v c,row[i]?=some v->cs[i]?=some c->Yw ar o v c
theorem gP.nil (ar:List aL)(o:Nat):gP ar o [] []:=⟨rfl,λi v c h=>by simp at h⟩
theorem gP.cons {ar:List aL}{o:Nat}{v:V}{c:PV}{row:List V}{cs:List PV}(h:Yw ar o v c)(g:gP ar o row cs):gP ar o (v::row) (c::cs):=by
 refine⟨by simp[g.1],λi w d h1 h2=>?_⟩;cases i with
 |zero=>
  simp at h1 h2;rw[<- h1,<- h2];exact h
 |succ i=>exact g.2 i w d (by simpa using h1) (by simpa using h2)
theorem gP.pure {ar:List aL}{o:Nat}{v:V}{c:PV}{row:List V}{cs:List PV}(h:v=.pv c)(hp:c.perm=true)(g:gP ar o row cs):gP ar o (v::row) (c::cs):=.cons (.inl ⟨h,hp⟩) g
theorem gP.keep {ar:List aL}{o:Nat}(bx:List (Nat×List V))(mp:List (List (PV×PV)))(d:Nat):∀{row:List V}{cs:List PV},gP ar o row cs->ay (aY ⟨bx,ar,mp⟩ (d+1)) row=some cs
 |[],[],_=>rfl
 |[],_::_,h=>absurd h.1 (by simp)
 |_::_,[],h=>absurd h.1 (by simp)
 |v::row,c::cs,h=>by
  have h1:=(h.2 0 v c rfl rfl).keep bx mp d;have h2:=gP.keep bx mp d (row:=row) (cs:=cs) ⟨by simpa using h.1,λi w e hi he=>h.2 (i+1) w e (by simpa using hi) (by simpa using he)⟩;simp only[ay,h1,h2]
structure XZ (ar:List aL)(o:Nat)(rows:List (List V))(css:List (List PV)):Prop where
 len:rows.length=css.length
 row:∀(i:Nat) row cs,rows[i]?=some row->css[i]?=some cs->gP ar o row cs
theorem XZ.setRow {ar:List aL}{o:Nat}{rows:List (List V)}{css:List (List PV)}{row:List V}{cs:List PV}{j:Nat}(h:XZ ar o rows css)(hr:gP ar o row cs):XZ ar o (rows.set j row) (css.set j cs):=by
 refine⟨by simp[h.len],λi r u h1 h2=>?_⟩;rw[afz]at h1 h2;by_cases e:j=i
 .rw[if_pos e]at h1 h2;split at h1<;>split at h2<;>simp_all
 .rw[if_neg e]at h1 h2;exact h.row i r u h1 h2
def Zn (ar:List aL)(o ax k:Nat)(css:List (List PV)):Prop:=∃body,ar[o]?=some ⟨ax,k,body⟩/\XZ ar o (dX body) css
theorem Zn.keep {ar:List aL}{o ax k:Nat}{css:List (List PV)}(h:Zn ar o ax k css)(bx:List (Nat×List V))(mp:List (List (PV×PV))):aY ⟨bx,ar,mp⟩ 4 (.own o ax 0 css.length)=some (.aq 0 css):=by
 obtain⟨body,h1,h2⟩:=h;rw[dS,jB,h1];simp only[Option.bind_some,if_true];have hk:=pP (f:=aY ⟨bx,ar,mp⟩ 3) (c:=id) h2.len (λi row t hi ht=>(h2.row i row t hi ht).keep bx mp 2);rw[afD]at hk;cases body with
 |inl R=>
  have hl:R.length=css.length:=by have:=h2.len;simpa [dX]using this
  simp only[az,bO,List.drop_zero];rw[<- hl,WV];congr 2;apply WW;intro i;rcases Wh i R.length with hi|hi
  .have e1:=Wb hi;have e2:=Wb (l:=css) (i:=i) (by omega);have:=(h2.row i (R[i].map V.pv) (css[i]'(by omega)) (by simp[dX,e1]) e2).keep bx mp 2;have:=sO this;rw[e1,e2,this]
  .rw[WS hi,WS (by omega)]
 |inr R=>
  have hl:R.length=css.length:=by have:=h2.len;simpa [dX]using this
  simp only[az,bO,List.drop_zero];rw[<- hl,WV];have hk':ay (ay (aY ⟨bx,ar,mp⟩ 3)) R=some css:=hk;rw[hk'];rfl
def Yr (row:List V)(c:Nat)(news:List V):List V:=row.take c++news++row.drop (c+news.length)
def X6:V->Bool
 |.func _ _=>false
 |_=>true
theorem YU {v:V}{p:PV}(h:v.bS=some p)(hp:X6 v=true):v=.pv p:=by
 cases v<;>simp[V.bS,X6]at h hp;rw[h.2]
theorem Yf:∀{news:List V}{l:List PV},ay V.bS news=some l->(∀v∈news,X6 v=true)->news=l.map .pv
 |[],l,h,_=>by cases h;rfl
 |v::news,l,h,hp=>by
  rw[su]at h;cases hv:v.bS with
  |none=>simp[hv]at h
  |some p=>
   cases hm:ay V.bS news with
   |none=>simp[hv,hm]at h
   |some r=>
    simp[hv,hm]at h;rw[<- h,YU hv (hp v WH),Yf hm λw hw=>hp w (W3 _ hw)];rfl
theorem Yh {r c:Nat}{news:List V}{body:Sum (List (List PV)) (List (List V))}(hr:r<(dX body).length)(hp:∀v∈news,X6 v=true):dX (setBody r c news body)=(dX body).set r (Yr ((dX body).getD r []) c news):=by
 cases body with
 |inl x=>
  have hx:r<x.length:=by simpa [dX]using hr
  have hg:((x.map (·.map V.pv)).getD r [])=(x.getD r []).map .pv:=by
   simp[List.getD_eq_getElem?_getD,List.getElem?_eq_getElem hx]
  simp only[setBody,dX];cases hm:ay V.bS news with
  |none=>
   dsimp only;rw[hg];rfl
  |some l=>
   dsimp only;have:=Yf hm hp;subst this;rw[hg,List.map_set];congr 1;simp[Yr,List.map_take,List.map_drop]
 |inr x=>rfl
theorem YF (r:Nat)(body:Sum (List (List PV)) (List (List V))):nZ r body=(dX body)[r]?:=by
 cases body with
 |inl x=>simp[nZ,dX]
 |inr x=>rfl
theorem Y9 (a:aL):a.size=(dX a.body).length:=by
 obtain⟨v,k,b⟩:=a;cases b<;>simp[aL.size,dX]
theorem aaa {id r c ax k:Nat}{news:List V}{body:Sum (List (List PV)) (List (List V))}(hr:r<(dX body).length)(hc:c+news.length<=k)(h4:news.all V.calm=true)(hp:∀v∈news,X6 v=true):
  ∃body',eG id r c news ⟨ax,k,body⟩=some {ar:=some (id,⟨ax,k,body'⟩)}/\dX body'=(dX body).set r (Yr ((dX body).getD r []) c news):=by
 refine⟨_,?_,Yh hr hp⟩;have hs:r<(⟨ax,k,body⟩:aL).size:=by rw[Y9];exact hr
 unfold eG;rw[if_pos ⟨hs,hc,h4⟩]
end Go.Pv
