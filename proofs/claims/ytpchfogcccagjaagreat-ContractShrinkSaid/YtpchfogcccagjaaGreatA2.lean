/-
 The interpreter over plain values,and that it is sound.
-/
import Derived.Test.YtpchfogcccagjaaGreatA1
import Derived.ChangeKeysEq
import Derived.MapKept
open List renaming getElem?_eq_some_iff → Vy, mem_of_getElem? → Vz, getElem?_eq_getElem → VA, length_map → VB, getElem?_append_left → VC, mem_iff_getElem? → VD, length_append → VE, getElem?_map → VF, length_take → VH, eq_nil_of_length_eq_zero → VJ, getD_eq_getElem?_getD → VK, getElem?_append_right → VM, getElem?_take → VN, append_assoc → VO, mem_map → VP, pairwise_cons → VQ, take_of_length_le → VS, getElem?_set_ne → VX, mem_cons → V6, getElem?_eq_none → V8, all_eq_true → V9, mem_cons_self → We, getElem?_drop → Wg, mem_append_left → Wh, ext_getElem? → Wi, append_nil → Wj, map_append → Wk, mem_cons_of_mem → Wl, mem_append → Wm, mem_append_right → Wn, getElem_mem → Ww, getElem_of_mem → WC, getElem?_replicate → WM, getElem?_zip_eq_some → WW, isEmpty_iff → W3, take_append_of_le_length → Xf, nodup_append → Xg, length_cons → Xn, mem_flatMap → Xo
open Nat renaming lt_or_ge → VG, le_refl → VI, mul_le_mul_right → VL, add_mul → VZ, zero_le → V4, lt_of_lt_of_le → Wq, eq_zero_or_pos → Wu, one_mul → Wv, add_assoc → Wx, add_zero → Xi, mod_eq_of_lt → Xm
open Array renaming getElem?_toList → VU, getElem?_eq_some_iff → VV, getElem?_eq_getElem → W9, length_toList → Xp
open Option renaming map_eq_some_iff → Wf
namespace Go.Pv
variable {P:Program} {N M:Nat→Nat} {W:Nat→Prop} {L L':Lx} {e e':bn} {h:af} {w w':World} {g:bM→V} {ρ:Operand→Value}
def db:PV→Value
 |.bool b=>.bool b
 |.int k n=>.int k n
 |.str s=>.string s
 |_=>undef
def PV.lit:PV→Bool
 |.bool _|.int _ _|.str _=>true
 |_=>false
theorem dL.db {p:PV} {v:Value} (hp:dL N L w p v) (hl:p.lit=true):v=db p:=by
 cases hp<;>first|rfl|(simp[PV.lit]at hl)
def Shape (ag:Bool) (x:Value) (cs:List Value):Prop:=if ag then x=.agg cs.toArray else cs=[x]
theorem F6 {k:Nat} {a b:PV} {r:Bool} (hh:PV.eqs k a b=some r):a.lit=true∧b.lit=true:=by
 unfold PV.eqs at hh
 split at hh<;>first|(cases hh; done)|exact⟨rfl,rfl⟩
theorem fm:∀{ks:List Nat} {a b:List PV} {r:Bool},bk ks a b=some r→a.length=ks.length∧b.length=ks.length∧(∀p∈a,p.lit=true)∧(∀p∈b,p.lit=true)
 |[],[],[],r,_=>by simp
 |[],_::_,_,r,hh=>by simp[bk]at hh
 |[],[],_::_,r,hh=>by simp[bk]at hh
 |k::ks,[],_,r,hh=>by simp[bk]at hh
 |k::ks,_::_,[],r,hh=>by simp[bk]at hh
 |k::ks,a::x,b::y,r,hh=>by
  simp only[bk]at hh
  split at hh
  .rename_i p q h1 h2
   obtain⟨i1,i2,i3,i4⟩:=fm h2
   obtain⟨l1,l2⟩:=F6 h1
   refine⟨by simp[i1],by simp[i2],fun z hz=>?_,fun z hz=>?_⟩
   .rcases V6.1 hz with rfl|hz
    .exact l1
    .exact i3 z hz
   .rcases V6.1 hz with rfl|hz
    .exact l2
    .exact i4 z hz
  .cases hh
theorem jR:∀{k1 k2:List Nat} {a b:List PV} {r:Bool},bk (k1++k2) a b=some r→
  ∃a1 a2 b1 b2 r1 r2,a=a1++a2∧b=b1++b2∧bk k1 a1 b1=some r1∧bk k2 a2 b2=some r2∧r=(r1&&r2)
 |[],k2,a,b,r,hh=>⟨[],a,[],b,true,r,rfl,rfl,rfl,hh,by simp⟩
 |k::k1,k2,[],b,r,hh=>by simp[bk]at hh
 |k::k1,k2,_::_,[],r,hh=>by simp[bk]at hh
 |k::k1,k2,p::a,q::b,r,hh=>by
  simp only[List.cons_append,bk]at hh
  split at hh
  .rename_i x y h1 h2
   obtain⟨a1,a2,b1,b2,r1,r2,rfl,rfl,e1,e2,rfl⟩:=jR h2
   injection hh with hh
   subst hh
   exact⟨p::a1,a2,q::b1,b2,x&&r1,r2,rfl,rfl,by simp[bk,h1,e1],e2,by simp[Bool.and_assoc]⟩
  .cases hh
theorem gl {t:TypeId} {n:Nat} {ag:Bool} (hl:loadT P t=some (n,ag)) {arr:Array Value} {off:Nat} {c1 c2:List Value} (hd:arr.toList.drop off=c1++c2) (hn:c1.length=n):
  ∃x,(part t arr off).run P w=.ok x w∧Shape ag x c1:=by
 obtain⟨h1,h2,h3⟩:=iZ (w:=w) hl
 cases ag with
 |true=>
  refine⟨.agg (arr.extract off (off+n)),by simp[part,h1,h2],?_⟩
  have:(arr.extract off (off+n)).toList=c1:=by
   rw[Array.toList_extract]
   simp only[List.extract,Nat.add_sub_cancel_left]
   rw[hd,Xf (by omega),VS (by omega)]
  simp only[Shape,if_true]
  rw[← this]
 |false=>
  have h1':=h3 rfl
  subst h1'
  match c1,hn with
  |[c],_=>
   refine⟨c,?_,by simp[Shape]⟩
   have hge:arr[off]?=some c:=by
    rw[← VU]
    have:(arr.toList.drop off)[0]?=some c:=by rw[hd]; rfl
    rwa [Wg,Xi]at this
   simp[part,h1,hge]
theorem jd {t:TypeId} {k:Nat} {ag:Bool} (hl:loadT P t=some (k,ag)):cU P t=some k∧dz P t=some ag:=by
 unfold loadT at hl
 split at hl
 .rename_i h1 h2; injection hl with hl; injection hl with e1 e2; subst e1; subst e2; exact⟨h2,h1⟩
 .rename_i h1 h2
  split at hl
  .rename_i hn; injection hl with hl; injection hl with e1 e2; subst e2; rw[e1]at hn; subst e1; subst hn; exact⟨h2,h1⟩
  .cases hl
 .cases hl
def kD (P:Program) (d:Nat) (fs:List Field):Option (List Nat):=
 fs.foldr (fun f (acc:Option (List Nat))=>match acc,cu P d f.type,loadT P f.type with
  |some l, some ks, some (k, _)=>if f.name≠ "_"∧k=ks.length then some (ks++l) else none
  |_,_,_=>none) (some [])
theorem oF {d:Nat} {f:Field} {fs:List Field} {ks:List Nat} (hh:kD P d (f::fs)=some ks):
  ∃k1 k2 ag, cu P d f.type=some k1∧kD P d fs=some k2∧loadT P f.type=some (k1.length, ag)∧f.name≠ "_"∧ks=k1++k2:=by
 unfold kD at hh ⊢
 rw[List.foldr_cons]at hh
 split at hh
 .rename_i l k1 k ag h1 h2 h3
  split at hh
  .rename_i hc
   injection hh with hh
   obtain⟨c1,rfl⟩:=hc
   exact⟨k1,l,ag,h2,h1,h3,c1,hh.symm⟩
  .cases hh
 .cases hh
theorem fN {x:Value} {a:List PV} {_k:Nat} (hx:Shape false x (a.map db)):∃p,a=[p]∧x=db p:=by
 simp only[Shape,Bool.false_eq_true,if_false]at hx
 match a,hx with
 |[p],hx=>simp at hx; exact⟨p,rfl,hx.symm⟩
theorem xP {d dd:Nat} {el:TypeId} {k1:List Nat} {ag:Bool} (hl:loadT P el=some (k1.length,ag))
  (ih:∀(a b:List PV) (r:Bool),bk k1 a b=some r→∀x y:Value,Shape ag x (a.map db)→Shape ag y (b.map db)→∀w,(Op.equalIn dd el x y).run P w=.ok r w):
  ∀(m j:Nat) (xs ys:Array Value) (a b:List PV) (r:Bool) (w:World),bk ((List.replicate m k1).flatten) a b=some r→
   xs.toList.drop (j*k1.length)=a.map db→ys.toList.drop (j*k1.length)=b.map db→(Op.eqItems dd el k1.length xs ys (List.range' j m)).run P w=.ok r w
 |0,j,xs,ys,a,b,r,w,he,_,_=>by
  simp only[List.replicate_zero,List.flatten_nil]at he
  match a,b,he with
  |[],[],he=>simp[bk]at he; subst he; simp[Op.eqItems]
 |m+1,j,xs,ys,a,b,r,w,he,hx,hy=>by
  rw[List.replicate_succ,List.flatten_cons]at he
  obtain⟨a1,a2,b1,b2,r1,r2,rfl,rfl,e1,e2,rfl⟩:=jR he
  obtain⟨l1,l2,_,_⟩:=fm e1
  rw[Wk]at hx hy
  obtain⟨x,p1,p2⟩:=gl (w:=w) hl hx (by simp[l1])
  obtain⟨y,q1,q2⟩:=gl (w:=w) hl hy (by simp[l2])
  have hr:=ih a1 b1 r1 e1 x y p2 q2 w
  have hrec:=xP (d:=d) hl ih m (j+1) xs ys a2 b2 r2 w e2 (by
    rw[Nat.succ_mul,← List.drop_drop,hx,List.drop_append_of_le_length (by simp[l1]),List.drop_of_length_le (by simp[l1])]; rfl) (by
    rw[Nat.succ_mul,← List.drop_drop,hy,List.drop_append_of_le_length (by simp[l2]),List.drop_of_length_le (by simp[l2])]; rfl)
  rw[List.range'_succ]
  simp only[Op.eqItems,Sem.run_bind,p1,q1,hr,Result.andThen_ok]
  cases r1
  .simp
  .simpa using hrec
theorem uS {d dd:Nat}
  (ih:∀(t:TypeId) (ks:List Nat) (ag:Bool),cu P d t=some ks→et P d t=true→dz P t=some ag→
   ∀(a b:List PV) (r:Bool),bk ks a b=some r→∀x y:Value,Shape ag x (a.map db)→Shape ag y (b.map db)→∀w,(Op.equalIn dd t x y).run P w=.ok r w):
  ∀(fs:List Field) (ks:List Nat) (o:Nat) (xs ys:Array Value) (a b:List PV) (r:Bool) (w:World),kD P d fs=some ks→jP P o fs=true→(∀f∈fs,et P d f.type=true)→
   bk ks a b=some r→xs.toList.drop o=a.map db→ys.toList.drop o=b.map db→(Op.eqFields dd xs ys fs).run P w=.ok r w
 |[],ks,o,xs,ys,a,b,r,w,hp,_,_,he,_,_=>by
  simp[kD]at hp
  subst hp
  match a,b,he with
  |[],[],he=>simp[bk]at he; subst he; simp[Op.eqFields]
 |f::fs,ks,o,xs,ys,a,b,r,w,hp,ho,hall,he,hx,hy=>by
  obtain⟨k1,k2,ag,t1,t2,t3,t4,rfl⟩:=oF hp
  obtain⟨s1,s2⟩:=jd t3
  obtain⟨a1,a2,b1,b2,r1,r2,rfl,rfl,e1,e2,rfl⟩:=jR he
  obtain⟨l1,l2,_,_⟩:=fm e1
  simp only[jP,Bool.and_eq_true,beq_iff_eq,s1,Option.getD_some]at ho
  obtain⟨o1,o2⟩:=ho
  subst o1
  rw[Wk]at hx hy
  obtain⟨x,p1,p2⟩:=gl (w:=w) t3 hx (by simp[l1])
  obtain⟨y,q1,q2⟩:=gl (w:=w) t3 hy (by simp[l2])
  have hr:=ih f.type k1 ag t1 (hall f (by simp)) s2 a1 b1 r1 e1 x y p2 q2 w
  have hrec:=uS ih fs k2 (f.offset+k1.length) xs ys a2 b2 r2 w t2 o2 (fun q hq=>hall q (by simp[hq])) e2 (by
    rw[← List.drop_drop,hx,List.drop_append_of_le_length (by simp[l1]),List.drop_of_length_le (by simp[l1])]; rfl) (by
    rw[← List.drop_drop,hy,List.drop_append_of_le_length (by simp[l2]),List.drop_of_length_le (by simp[l2])]; rfl)
  simp only[Op.eqFields,t4,ne_eq,not_false_eq_true,if_true,Sem.run_bind,p1,q1,hr,Result.andThen_ok]
  cases r1
  .simp
  .simpa using hrec
theorem nq {d:Nat} {t:TypeId} {fs:Array Field} {ks:List Nat} (hu:P.underlying t=some (.struct fs)) (hp:cu P (d+1) t=some ks):P.stoodInHeld t=false∧kD P d fs.toList=some ks:=by
 unfold cu at hp
 simp only[hu]at hp
 split at hp
 .cases hp
 .rename_i hc
  exact⟨by simpa using hc,hp⟩
theorem oG {d n:Nat} {t el:TypeId} {ks:List Nat} (hu:P.underlying t=some (.array n el)) (hp:cu P (d+1) t=some ks):
  ∃k1 ag,cu P d el=some k1∧loadT P el=some (k1.length,ag)∧ks=(List.replicate n k1).flatten:=by
 unfold cu at hp
 simp only[hu]at hp
 split at hp
 .rename_i k1 k ag h1 h2
  split at hp
  .rename_i hk
   subst hk
   injection hp with hp
   exact⟨k1,ag,h1,h2,hp.symm⟩
  .cases hp
 .cases hp
theorem oH:∀(d:Nat) (t:TypeId) (ks:List Nat) (ag:Bool),cu P d t=some ks→et P d t=true→dz P t=some ag→
  ∀dd,d≤dd→∀(a b:List PV) (r:Bool),bk ks a b=some r→∀x y:Value,Shape ag x (a.map db)→Shape ag y (b.map db)→∀w,(Op.equalIn dd t x y).run P w=.ok r w
 |0,t,ks,ag,hp,_,_,dd,_,a,b,r,_,x,y,_,_,w=>by simp[cu]at hp
 |d+1,t,ks,ag,hp,hok,hag,dd,hdd,a,b,r,he,x,y,hx,hy,w=>by
  obtain⟨dd,rfl⟩:∃k,dd=k+1:=⟨dd - 1,by omega⟩
  cases hu:P.underlying t with
  |none=>simp[cu,hu]at hp
  |some de=>
   have hone:∀k,ks=[k]→ag=false→∃p q,PV.eqs k p q=some r∧x=db p∧y=db q:=by
    intro k hk hagf
    subst hk; subst hagf
    obtain⟨p,rfl,rfl⟩:=fN (_k:=0) hx
    obtain⟨q,rfl,rfl⟩:=fN (_k:=0) hy
    refine⟨p,q,?_,rfl,rfl⟩
    simp only[bk]at he
    split at he
    .rename_i u v h1 h2
     rw[h1]; simp at h2; subst h2; simpa using he
    .cases he
   have hag':ag=match de with|.struct _=>true|.array _ _=>true|_=>false:=by
    unfold dz at hag
    simp only[hu]at hag
    cases de<;>simp at hag<;>simp[hag]
   cases de with
   |bool=>
    simp[cu,hu]at hp
    obtain⟨p,q,h1,rfl,rfl⟩:=hone 0 hp.symm hag'
    unfold PV.eqs at h1
    split at h1<;>first|(cases h1; done)|skip
    all_goals (simp_all)
    rw[← h1]
    exact run_equalIn_bool' w dd t _ _ hu
   |int k=>
    simp[cu,hu]at hp
    obtain⟨p,q,h1,rfl,rfl⟩:=hone 1 hp.symm hag'
    unfold PV.eqs at h1
    split at h1<;>first|(cases h1; done)|skip
    all_goals (simp_all)
    obtain⟨rfl,rfl⟩:=h1
    exact run_equalIn_int w dd t _ _ _ _ hu
   |string=>
    simp[cu,hu]at hp
    obtain⟨p,q,h1,rfl,rfl⟩:=hone 2 hp.symm hag'
    unfold PV.eqs at h1
    split at h1<;>first|(cases h1; done)|skip
    all_goals (simp_all)
    rw[← h1]
    exact run_equalIn_string w dd t _ _ hu
   |array n el=>
    obtain⟨k1,ag1,p1,p2,rfl⟩:=oG hu hp
    obtain⟨s1,s2⟩:=jd p2
    simp[et,hu]at hok
    simp at hag'
    subst hag'
    simp only[Shape,if_true]at hx hy
    subst hx; subst hy
    obtain⟨i,hi⟩:=info_of_underlying (t:=el) (P:=P) (d:=(P.underlying el).getD .bool) (by
     cases d with
     |zero=>simp[cu]at p1
     |succ d=>cases hq:P.underlying el with
      |none=>simp[cu,hq]at p1
      |some q=>rfl)
    have hcells:P.cellsOf el=k1.length:=by simp[Program.cellsOf,cU,hi]at s1 ⊢; exact s1
    rw[run_equalIn_array w dd _ _ hu hi,hcells,List.range_eq_range']
    exact xP (d:=d) p2 (fun a b r he x y hx hy w=>oH d el k1 ag1 p1 hok s2 dd (by omega) a b r he x y hx hy w) n 0 _ _ a b r w he (by simp) (by simp)
   |struct fs=>
    obtain⟨p1,p2⟩:=nq hu hp
    simp[et,hu]at hok
    simp at hag'
    subst hag'
    simp only[Shape,if_true]at hx hy
    subst hx; subst hy
    have hf:P.fieldsOf t=fs:=by simp[Program.fieldsOf,hu]
    rw[run_equalIn_struct w dd t _ _ (by rw[hf]; exact hu) p1,hf]
    exact uS (d:=d) (fun t ks ag h1 h2 h3 a b r he x y hx hy w=>oH d t ks ag h1 h2 h3 dd (by omega) a b r he x y hx hy w) fs.toList ks 0 _ _ a b r w p2 hok.1 (fun f hf=>by
     obtain⟨i,hi,rfl⟩:=WC hf
     simpa using hok.2 i (by simpa using hi)) he (by simp) (by simp)
   |_=>simp[cu,hu]at hp
end Go.Pv
namespace Go.Pv
variable {P:Program} {N M:Nat→Nat} {W:Nat→Prop} {L L':Lx} {e e':bn} {h:af} {w w':World} {g:bM→V} {ρ:Operand→Value}
theorem j3 {t:TypeId} {ag:Bool} {ks:List Nat} (hc:ru P t=some (ag,ks)):
  cu P 40 t=some ks∧et P 40 t=true∧dz P t=some ag∧P.eqGuardType P.depth t=false:=by
 unfold ru at hc
 split at hc
 .rename_i h1 h2
  split at hc
  .rename_i h3
   simp only[Bool.and_eq_true,beq_iff_eq]at h3
   injection hc with hc
   injection hc with e1 e2
   subst e1; subst e2
   exact⟨h1,h3.1,h2,h3.2⟩
  .cases hc
 .cases hc
theorem pY:∀{cs:List V} {l:List PV},aA wo cs=some l→cs=l.map V.pv
 |[],l,hm=>by simp[aA]at hm; subst hm; rfl
 |c::cs,l,hm=>by
  simp only[aA]at hm
  split at hm
  .rename_i y r h1 h2
   injection hm with hm
   subst hm
   have:=pY h2
   subst this
   cases c<;>simp[wo]at h1
   subst h1
   rfl
  .cases hm
theorem lR {ag:Bool} {x:V} {v:Value} (hx:VR N L e w x v) {a:List PV} (hp:bD ag x=some a) (hl:∀p∈a,p.lit=true):Shape ag v (a.map db):=by
 unfold bD at hp
 split at hp
 .rename_i cs
  split at hp
  .rename_i hag
   have:=pY hp
   subst this
   subst hag
   cases hx with
   |agg _ arr h1 h2=>
    simp only[Shape,if_true]
    congr 1
    apply Array.ext'
    apply Wi
    intro j
    rcases VG j a.length with hj|hj
    .have hlt:j<arr.size:=by rw[h1]; simpa using hj
     have:=h2 j (.pv a[j]) (by simp[hj])
     cases this with
     |pv _ _ hq=>
      have hv:=hq.db (hl _ (Ww hj))
      rw[VU,bl hlt,hv]
      simp[hj]
    .rw[Array.getElem?_toList,Array.getElem?_eq_none (by rw[h1]; simpa using hj)]
     simp[hj]
  .cases hp
 .rename_i p
  split at hp
  .cases hp
  .rename_i hag
   injection hp with hp
   subst hp
   have hag':ag=false:=by simpa using hag
   subst hag'
   cases hx with
   |pv _ _ hq=>
    simp only[Shape,Bool.false_eq_true,if_false,List.map_cons,List.map_nil]
    rw[hq.db (hl p (by simp))]
 .cases hp
theorem Oy {t:TypeId} {ag:Bool} {ks:List Nat} (hc:ru P t=some (ag,ks)) {x y:V} {xv yv:Value} (hx:VR N L e w x xv) (hy:VR N L e w y yv) {a b:List PV} (ha:bD ag x=some a) (hb:bD ag y=some b)
  {r:Bool} (hr:bk ks a b=some r) (xo yo:Operand):
  (eqGuard .eql t xo yo xv yv).run P w=.ok () w∧(eqGuard .neq t xo yo xv yv).run P w=.ok () w∧
  ((∀k,P.underlying t≠some (.int k))→P.underlying t≠some .string→(binOp .eql t xv yv).run P w=.ok (.bool r) w∧(binOp .neq t xv yv).run P w=.ok (.bool !r) w):=by
 obtain⟨c1,c2,c3,c4⟩:=j3 hc
 obtain⟨_,_,l3,l4⟩:=fm hr
 have s1:=lR hx ha l3
 have s2:=lR hy hb l4
 have heq:=oH 40 t ks ag c1 c2 c3 10000 (by omega) a b r hr xv yv s1 s2 w
 cases ag with
 |true=>
  simp only[Shape,if_true]at s1 s2
  subst s1; subst s2
  refine⟨run_eqGuard_agg w _ _ _ _ _ _ c4,run_eqGuard_agg w _ _ _ _ _ _ c4,fun _ _=>?_⟩
  rw[run_eql_struct,run_neq_struct,heq]
  simp
 |false=>
  obtain⟨p,rfl,rfl⟩:=fN (_k:=0) s1
  obtain⟨q,rfl,rfl⟩:=fN (_k:=0) s2
  have hpl:=l3 p (by simp)
  have hql:=l4 q (by simp)
  cases p<;>simp[PV.lit]at hpl<;>cases q<;>simp[PV.lit]at hql
  all_goals (refine⟨by simp[db,eqGuard],by simp[db,eqGuard],fun hni hns=>?_⟩)
  .simp[db]at heq ⊢
   simp[binOp,Op.equal,Op.maxDepth,heq]
  all_goals exfalso
  all_goals
   cases ks with
   |nil=>simp[bk]at hr
   |cons k ks=>
    simp only[bk]at hr
    split at hr
    .rename_i u v h1 h2
     unfold PV.eqs at h1
     split at h1<;>simp_all
     all_goals
      cases hu:P.underlying t with
      |none=>simp[cu,hu]at c1
      |some de=>cases de<;>simp_all [cu,dz]
    .cases hr
def cx (ag:Bool):PV→List PV
 |.agg a=>if ag then a else [.agg a]
 |p=>[p]
theorem gm {ag:Bool} {ks:List Nat} {k q:PV} {r:Bool} (hh:j0 ag ks k q=some r):
  bk ks (cx ag k) (cx ag q)=some r∧(ag=true→(∃a,k=.agg a)∧∃b,q=.agg b):=by
 unfold j0 at hh
 split at hh
 .rename_i a b
  split at hh
  .rename_i hag
   subst hag
   exact⟨by simpa [cx]using hh,fun _=>⟨⟨a,rfl⟩,b,rfl⟩⟩
  .cases hh
 .rename_i hne
  split at hh
  .cases hh
  .rename_i hag
   have hag':ag=false:=by simpa using hag
   subst hag'
   refine⟨?_,fun hx=>by cases hx⟩
   have hc:∀p:PV,cx false p=[p]:=fun p=>by cases p<;>simp[cx]
   rw[hc,hc]
   exact hh
theorem fA {ag:Bool} {k:PV} {v:Value} (hk:dL N L w k v) (hag:ag=true→∃a,k=.agg a) (hl:∀p∈cx ag k,p.lit=true):Shape ag v ((cx ag k).map db):=by
 have e0:bn:=⟨fun _=>False,fun _=>0,0,fun _=>0,fun _=>0,fun _=>0,fun _=>0,fun _=>0,fun _=>0,0,fun _=>0⟩
 cases ag with
 |true=>
  obtain⟨a,rfl⟩:=hag rfl
  cases hk with
  |agg _ arr h1 h2 _=>
   have hv:VR N L e0 w (.agg (a.map V.pv)) (.agg arr):=.agg _ _ (by simpa using h1) (fun j c hj=>by
    obtain⟨p,hp,rfl⟩:=dA hj
    exact .pv _ _ (h2 j p hp))
   have hm:∀l:List PV,aA wo (l.map V.pv)=some l:=fun l=>by
    induction l with
    |nil=>rfl
    |cons p l ih=>simp[aA,wo,ih]
   exact lR hv (by simp[bD,hm,cx]) hl
 |false=>
  have hc:cx false k=[k]:=by cases k<;>simp[cx]
  rw[hc]at hl ⊢
  simp only[Shape,Bool.false_eq_true,if_false,List.map_cons,List.map_nil]
  rw[hk.db (hl k (by simp))]
theorem xQ {ag:Bool} {k:PV} (hag:ag=true→∃a,k=.agg a) (hl:∀p∈cx ag k,p.lit=true):ou k=true:=by
 cases ag with
 |true=>
  obtain⟨a,rfl⟩:=hag rfl
  simp only[cx,if_true]at hl
  simp only[ou,List.all_eq_true]
  intro p hp
  have:=hl p hp
  cases p<;>simp[PV.lit]at this ⊢
 |false=>
  have hc:cx false k=[k]:=by cases k<;>simp[cx]
  rw[hc]at hl
  have:=hl k (by simp)
  cases k<;>simp[PV.lit]at this<;>rfl
theorem uT {ag:Bool} {x:V} {v:Value} (hx:VR N L e w x v) {k:PV} (hk:keyOf ag x=some k) (hl:∀p∈cx ag k,p.lit=true):dL N L w k v∧(ag=true→∃a,k=.agg a):=by
 unfold keyOf at hk
 cases hp:bD ag x with
 |none=>simp[hp]at hk
 |some l=>
  simp only[hp]at hk
  unfold bD at hp
  split at hp
  .rename_i cs
   split at hp
   .rename_i hag
    subst hag
    simp at hk
    subst hk
    have:=pY hp
    subst this
    cases hx with
    |agg _ arr h1 h2=>
     refine⟨.agg l arr (by simpa using h1) (fun j c hj=>?_) (fun c hc=>?_),fun _=>⟨l,rfl⟩⟩
     .have:=h2 j (.pv c) (by simp[hj])
      cases this with
      |pv _ _ hq=>exact hq
     .have:=hl c (by simpa [cx]using hc)
      cases c<;>simp[PV.lit]at this<;>rfl
   .cases hp
  .split at hp
   .cases hp
   .rename_i hag
    have hag':ag=false:=by simpa using hag
    subst hag'
    injection hp with hp
    subst hp
    simp at hk
    subst hk
    cases hx with
    |pv _ _ hq=>exact⟨hq,fun hx=>by cases hx⟩
  .cases hp
theorem qH {dd:Nat} {em:Bool} {el:TypeId} {i:TypeInfo} {k:Nat} {ag:Bool} (hi:P.info? el=some i) (hl:loadT P el=some (k,ag))
  (ih:∀(cs:List Value),cs.length=k→∀x:Value,Shape ag x cs→(Instr.checkKey em dd el x).run P w=.ok () w) (xs:Array Value):∀(m j:Nat),(j+m)*k≤xs.size→
   (forIn (List.range' j m) PUnit.unit (fun i (_:PUnit)=>do let a ← part el xs (i*(← sizeOf el)); Instr.checkKey em dd el a; pure (ForInStep.yield PUnit.unit)):Sem PUnit).run P w=.ok PUnit.unit w
 |0,j,_=>by simp
 |m+1,j,hb=>by
  have hsz:(sizeOf el).run P w=.ok k w:=fh (jd hl).1
  have hle:j*k+k≤xs.size:=by
   have:(j+1)*k≤(j+(m+1))*k:=VL k (by omega)
   rw[Nat.succ_mul]at this
   omega
  obtain⟨x,p1,p2⟩:=gl (w:=w) (arr:=xs) (off:=j*k) (c1:=(xs.toList.drop (j*k)).take k) (c2:=(xs.toList.drop (j*k)).drop k) hl (by rw[List.take_append_drop]) (by simp; omega)
  have p3:=ih _ (by simp; omega) x p2
  rw[List.range'_succ,List.forIn_cons]
  simp only[Sem.run_bind,hsz,Result.andThen_ok,p1,p3,Sem.run_pure]
  exact qH hi hl ih xs m (j+1) (by rw[show j+1+m=j+(m+1) by omega]; exact hb)
theorem oI {d dd:Nat} {em:Bool}
  (ih:∀(t:TypeId) (ks:List Nat) (ag:Bool),cu P d t=some ks→et P d t=true→dz P t=some ag→∀(cs:List Value),cs.length=ks.length→∀x:Value,Shape ag x cs→(Instr.checkKey em dd t x).run P w=.ok () w) (xs:Array Value):
  ∀(fs:List Field) (ks:List Nat) (o:Nat),kD P d fs=some ks→jP P o fs=true→(∀f∈fs,et P d f.type=true)→o+ks.length≤xs.size→
   (forIn fs PUnit.unit (fun f (_:PUnit)=>(if f.name≠ "_" then (do let a ← part f.type xs f.offset; Instr.checkKey em dd f.type a; pure (ForInStep.yield PUnit.unit)) else pure (ForInStep.yield PUnit.unit):Sem (ForInStep PUnit))):Sem PUnit).run P w=.ok PUnit.unit w
 |[],ks,o,_,_,_,_=>by simp
 |f::fs,ks,o,hp,ho,hall,hb=>by
  obtain⟨k1,k2,ag,t1,t2,t3,t4,rfl⟩:=oF hp
  obtain⟨s1,s2⟩:=jd t3
  simp only[jP,Bool.and_eq_true,beq_iff_eq,s1,Option.getD_some]at ho
  obtain⟨o1,o2⟩:=ho
  subst o1
  rw[VE]at hb
  obtain⟨x,p1,p2⟩:=gl (w:=w) (arr:=xs) (off:=f.offset) (c1:=(xs.toList.drop f.offset).take k1.length) (c2:=(xs.toList.drop f.offset).drop k1.length) t3 (by rw[List.take_append_drop]) (by simp; omega)
  have p3:=ih f.type k1 ag t1 (hall f (by simp)) s2 _ (by simp; omega) x p2
  rw[List.forIn_cons]
  simp only[t4,ne_eq,not_false_eq_true,if_true,Sem.run_bind,p1,p3,Result.andThen_ok,Sem.run_pure]
  exact oI ih xs fs k2 (f.offset+k1.length) t2 o2 (fun q hq=>hall q (by simp[hq])) (by omega)
theorem jF {em:Bool}:∀(d:Nat) (t:TypeId) (ks:List Nat) (ag:Bool),cu P d t=some ks→et P d t=true→dz P t=some ag→
  ∀dd,d≤dd→∀(cs:List Value),cs.length=ks.length→∀x:Value,Shape ag x cs→(Instr.checkKey em dd t x).run P w=.ok () w
 |0,t,ks,ag,hp,_,_,dd,_,cs,_,x,_=>by simp[cu]at hp
 |d+1,t,ks,ag,hp,hok,hag,dd,hdd,cs,hlen,x,hx=>by
  obtain⟨dd,rfl⟩:∃k,dd=k+1:=⟨dd - 1,by omega⟩
  cases hu:P.underlying t with
  |none=>simp[cu,hu]at hp
  |some de=>
   have hag':ag=match de with|.struct _=>true|.array _ _=>true|_=>false:=by
    unfold dz at hag
    simp only[hu]at hag
    cases de<;>simp at hag<;>simp[hag]
   cases de with
   |bool=>simp[Instr.checkKey,run_underlying hu]
   |int k=>simp[Instr.checkKey,run_underlying hu]
   |string=>simp[Instr.checkKey,run_underlying hu]
   |array n el=>
    obtain⟨k1,ag1,p1,p2,rfl⟩:=oG hu hp
    obtain⟨s1,s2⟩:=jd p2
    simp[et,hu]at hok
    simp at hag'
    subst hag'
    simp only[Shape,if_true]at hx
    subst hx
    obtain⟨i,hi⟩:=info_of_underlying (t:=el) (P:=P) (d:=(P.underlying el).getD .bool) (by
     cases d with
     |zero=>simp[cu]at p1
     |succ d=>cases hq:P.underlying el with
      |none=>simp[cu,hq]at p1
      |some q=>rfl)
    rw[Instr.checkKey]
    simp only[Sem.run_bind,run_underlying hu,Result.andThen_ok]
    simp only[Std.Legacy.Range.forIn_eq_forIn_range',Std.Legacy.Range.size,Nat.sub_zero,Nat.add_one_sub_one,Nat.div_one]
    have:=qH (w:=w) (em:=em) hi p2 (fun cs hcs x hx=>jF d el k1 ag1 p1 hok s2 dd (by omega) cs hcs x hx) cs.toArray n 0 (by simp[hlen])
    exact(congrArg (fun r=>Result.andThen r _) this).trans (by simp)
   |struct fs=>
    obtain⟨p1,p2⟩:=nq hu hp
    simp[et,hu]at hok
    simp at hag'
    subst hag'
    simp only[Shape,if_true]at hx
    subst hx
    rw[Instr.checkKey]
    simp only[Sem.run_bind,run_underlying hu,Result.andThen_ok]
    rw[← Array.forIn_toList]
    have:=oI (w:=w) (d:=d) (em:=em) (dd:=dd) (fun t ks ag h1 h2 h3 cs hcs x hx=>jF d t ks ag h1 h2 h3 dd (by omega) cs hcs x hx) cs.toArray fs.toList ks 0 p2 hok.1 (fun f hf=>by
     obtain⟨i,hi,rfl⟩:=WC hf
     simpa using hok.2 i (by simpa using hi)) (by simp[hlen])
    exact(congrArg (fun r=>Result.andThen r _) this).trans (by simp)
   |_=>simp[cu,hu]at hp
end Go.Pv
namespace Go.Pv
variable {P:Program} {N M:Nat→Nat} {W:Nat→Prop} {L L':Lx} {e e':bn} {h:af} {w w':World} {g:bM→V} {ρ:Operand→Value}
theorem je {ag:Bool} {ks:List Nat} {k q:PV} {r:Bool} (hh:j0 ag ks k q=some r):
  (ag=true→∃a,k=.agg a)∧(ag=true→∃a,q=.agg a)∧(∀p∈cx ag k,p.lit=true)∧(∀p∈cx ag q,p.lit=true):=by
 obtain⟨h1,h2⟩:=gm hh
 obtain⟨_,_,l1,l2⟩:=fm h1
 exact⟨fun hx=>(h2 hx).1,fun hx=>(h2 hx).2,l1,l2⟩
theorem kE {k:PV}:cx false k=[k]:=by cases k<;>simp[cx]
theorem zY {ks:List Nat} {a b:PV} {r:Bool} (hh:bk ks [a] [b]=some r):∃k,ks=[k]∧PV.eqs k a b=some r:=by
 match ks,hh with
 |[k],hh=>
  simp only[bk]at hh
  split at hh
  .rename_i u v h1 h2
   simp at h2
   subst h2
   exact⟨k,rfl,by simpa [h1]using hh⟩
  .cases hh
 |k::k'::ks,hh=>simp[bk]at hh
theorem xR {ag:Bool} {ks:List Nat} {k q:PV} {kv qv:Value} {r b:Bool} (hh:j0 ag ks k q=some r) (hk:dL N L w k kv) (hq:dL N L w q qv) {de:TypeDesc} (hs:Instr.sameNow de kv qv=some b):b=r:=by
 obtain⟨a1,a2,l1,l2⟩:=je hh
 have s1:=fA hk a1 l1
 have s2:=fA hq a2 l2
 obtain⟨h1,_⟩:=gm hh
 cases ag with
 |true=>
  simp only[Shape,if_true]at s1
  subst s1
  simp[Instr.sameNow]at hs
 |false=>
  rw[kE,kE]at h1
  rw[kE]at s1 s2
  simp[Shape]at s1 s2
  subst s1; subst s2
  obtain⟨kk,rfl,h2⟩:=zY h1
  unfold PV.eqs at h2
  split at h2<;>first|(cases h2; done)|skip
  .simp[db,Instr.sameNow]at hs
   cases de<;>simp at hs
   simp at h2; rw[← hs,← h2]
  .split at h2
   .simp[db,Instr.sameNow]at hs
    cases de<;>simp at hs
    simp at h2; rw[← hs.2,← h2]
   .cases h2
  .simp[db,Instr.sameNow]at hs
   cases de<;>simp at hs
   simp at h2; rw[← hs,← h2,beq_toListBytes]
theorem uU {t:TypeId} {ag:Bool} {ks:List Nat} (hc:ru P t=some (ag,ks)) {k q:PV} {kv qv:Value} {r:Bool} (hh:j0 ag ks k q=some r) (hk:dL N L w k kv) (hq:dL N L w q qv):
  (Op.equal t kv qv).run P w=.ok r w:=by
 obtain⟨c1,c2,c3,c4⟩:=j3 hc
 obtain⟨a1,a2,l1,l2⟩:=je hh
 exact oH 40 t ks ag c1 c2 c3 10000 (by omega) _ _ r (gm hh).1 kv qv (fA hk a1 l1) (fA hq a2 l2) w
theorem sz {t:TypeId} {ag:Bool} {ks:List Nat} (hc:ru P t=some (ag,ks)) {k:PV} {kv:Value} (hk:dL N L w k kv) (de:TypeDesc):
  ∀(m:List (PV×PV)) (es:List MapEntry) (i:Nat) (r:Option (Nat×PV)),es.length=m.length→(∀(j:Nat) (p:PV×PV),m[j]?=some p→∃x,es[j]?=some x∧dL N L w p.1 x.key)→
   Pv.findKey ag ks k m i=some r→∃r',(Instr.findAsking t kv es i).run P w=.ok r' w∧(∀r'',Instr.findNow de kv es i=some r''→r''=r')∧(r=none→r'=none)∧
    (∀j p,r=some (j,p)→∃i0 q x,j=i+i0∧m[i0]?=some (q,p)∧es[i0]?=some x∧r'=some (j,x.val)∧j0 ag ks k q=some true)
 |[],es,i,r,hl,_,hf=>by
  have:es=[]:=List.eq_nil_of_length_eq_zero (by simpa using hl)
  subst this
  simp only[Pv.findKey]at hf
  split at hf
  .injection hf with hf
   subst hf
   exact⟨none,by simp[Instr.findAsking],fun r'' h=>by simp[Instr.findNow]at h; exact h.symm,fun _=>rfl,fun j p h=>by cases h⟩
  .cases hf
 |(q,v)::m,es,i,r,hl,hall,hf=>by
  match es,hl with
  |x::es,hl=>
   obtain⟨x',hx',hq⟩:=hall 0 (q,v) rfl
   simp at hx'
   subst hx'
   simp only[Pv.findKey]at hf
   split at hf
   .rename_i hke
    injection hf with hf
    subst hf
    have heq:=uU hc hke hk hq
    refine⟨some (i,x.val),by simp[Instr.findAsking,heq],fun r'' hnow=>?_,⟨fun hn=>by simp at hn,fun j p h=>?_⟩⟩
    .simp only[Instr.findNow]at hnow
     split at hnow
     .injection hnow with hnow; exact hnow.symm
     .rename_i hs; have:=xR hke hk hq hs; cases this
     .cases hnow
    .injection h with h
     injection h with h1 h2
     subst h1; subst h2
     exact⟨0,q,x,rfl,rfl,rfl,rfl,hke⟩
   .rename_i hke
    have heq:=uU hc hke hk hq
    obtain⟨r',g1,g2,g3,g4⟩:=sz hc hk de m es (i+1) r (by simpa using hl) (fun j p hj=>by
     obtain⟨y,hy,hp⟩:=hall (j+1) p (by simpa using hj)
     exact⟨y,by simpa using hy,hp⟩) hf
    refine⟨r',by simp[Instr.findAsking,heq,g1],fun r'' h=>?_,g3,fun j p h=>?_⟩
    .simp only[Instr.findNow]at h
     split at h
     .rename_i hs; have:=xR hke hk hq hs; cases this
     .exact g2 r'' h
     .cases h
    .obtain⟨i0,q',y,e1,e2,e3,e4,e5⟩:=g4 j p h
     exact⟨i0+1,q',y,by omega,by simpa using e2,by simpa using e3,e4,e5⟩
   .cases hf
theorem sA {ag:Bool} {ks:List Nat} {k:PV} {m:List (PV×PV)} {i:Nat} {r:Option (Nat×PV)} (hf:Pv.findKey ag ks k m i=some r):∃q b,j0 ag ks k q=some b:=by
 cases m with
 |nil=>
  simp only[Pv.findKey]at hf
  split at hf
  .rename_i hs
   obtain⟨b,hb⟩:=Option.isSome_iff_exists.1 hs
   exact⟨k,b,hb⟩
  .cases hf
 |cons p m=>
  obtain⟨q,v⟩:=p
  simp only[Pv.findKey]at hf
  split at hf
  .rename_i hke; exact⟨q,_,hke⟩
  .rename_i hke; exact⟨q,_,hke⟩
  .cases hf
theorem sB {t:TypeId} {de:TypeDesc} (hu:P.underlying t=some de) {kv:Value} {es:List MapEntry} {r':Option (Nat×Value)} (h1:(Instr.findAsking t kv es 0).run P w=.ok r' w)
  (h2:∀r'',Instr.findNow de kv es 0=some r''→r''=r'):(Instr.findKey t kv es).run P w=.ok r' w:=by
 simp only[Instr.findKey,Sem.run_bind,run_underlying hu,Result.andThen_ok]
 cases hf:Instr.findNow de kv es 0 with
 |none=>simpa using h1
 |some r''=>simp[h2 r'' hf]
theorem xS {t:TypeId} {ag:Bool} {ks:List Nat} (hc:ru P t=some (ag,ks)):∃de,P.underlying t=some de:=by
 obtain⟨c1,_⟩:=j3 hc
 cases hu:P.underlying t with
 |none=>simp[cu,hu]at c1
 |some de=>exact⟨de,rfl⟩
theorem zZ {t:TypeId} {z:V} (hz:zeroV P t=some z):∃zv,(∀w,(zeroValue t).run P w=.ok zv w)∧uN zv=some z:=by
 unfold zeroV at hz
 cases hi:P.info? t with
 |none=>simp[hi]at hz
 |some i=>
  cases hzv:i.zero with
  |none=>simp[hi,hzv]at hz
  |some zv=>
   simp[hi,hzv]at hz
   exact⟨zv,fun w=>by simp[zeroValue,typeInfo,hi,hzv],hz⟩
def uV (h:af):V→Option (List (PV×PV))
 |.ej=>some []
 |.map id=>h.mp[id]?
 |_=>none
def oJ (z:V):Option (Nat×PV)→V
 |some (_,p)=>.pv p
 |none=>z
theorem F7 (hr:HR N L e W h w) {x:V} {xv:Value} (hx:VR N L e w x xv) {m:List (PV×PV)} (hm:uV h x=some m):
  ∃es:Array MapEntry,es.size=m.length∧(∀(i:Nat) (p:PV×PV),m[i]?=some p→ou p.1=true∧∃y,es[i]?=some y∧pV N L w p y)∧
   ((xv=.map none∧es=#[])∨∃id cl,x=.map id∧xv=.map (some (e.mp id))∧w.heap[e.mp id]?=some (.map es cl)):=by
 cases hx with
 |ej=>
  simp[uV]at hm
  subst hm
  exact⟨#[],rfl,fun i p h=>by simp at h,.inl ⟨rfl,rfl⟩⟩
 |map id hid=>
  simp[uV]at hm
  obtain⟨es,cl,h1,h2,h3⟩:=hr.mp id m hm
  exact⟨es,h2,h3,.inr ⟨id,cl,rfl,rfl,h1⟩⟩
 |_=>simp[uV]at hm
theorem Ik (hr:HR N L e W h w) {t k el:TypeId} (hd:P.underlying t=some (.map k el)) {z:V} (hz:zeroV P el=some z) {ag:Bool} {ks:List Nat} (hc:ru P k=some (ag,ks)) {x i:V} {xv iv:Value} (hx:VR N L e w x xv) (hi:VR N L e w i iv)
  {q:PV} (hq:keyOf ag i=some q) {m:List (PV×PV)} (hm:uV h x=some m) {r:Option (Nat×PV)} (hf:Pv.findKey ag ks q m 0=some r) (ok:Bool):
  Plain P N L e w (Instr.lookup t xv iv ok) (if ok then .dH [oJ z r,.pv (.bool r.isSome)] else oJ z r):=by
 obtain⟨es,e1,e2,e3⟩:=F7 hr hx hm
 obtain⟨de,hu⟩:=xS hc
 obtain⟨c1,c2,c3,c4⟩:=j3 hc
 obtain⟨q',b,hke⟩:=sA hf
 obtain⟨a1,_,l1,_⟩:=je hke
 obtain⟨hk,_⟩:=uT hi hq l1
 have hck:∀em,(Instr.checkKey em 10000 k iv).run P w=.ok () w:=fun em=>jF 40 k ks ag c1 c2 c3 10000 (by omega) _ (by rw[VB]; exact(fm (gm hke).1).1) iv (fA hk a1 l1)
 obtain⟨zv,z1,z2⟩:=zZ hz
 obtain⟨r',g1,g2,g3,g4⟩:=sz hc hk de m es.toList 0 r (by simpa using e1) (fun j p hj=>by
  obtain⟨_,y,hy,hp⟩:=e2 j p hj
  exact⟨y,by simpa using hy,hp.1⟩) hf
 have hfind:=sB hu g1 g2
 have hval:∃vv,VR N L e w (oJ z r) vv∧((r'=none∧r.isSome=false∧vv=zv)∨∃j,r'=some (j,vv)∧r.isSome=true):=by
  cases r with
  |none=>exact⟨zv,VR.uN z2,.inl ⟨g3 rfl,rfl,rfl⟩⟩
  |some jp=>
   obtain⟨j,p⟩:=jp
   obtain⟨i0,q1,y,_,k2,k3,k4,_⟩:=g4 j p rfl
   obtain⟨_,y',hy,hp⟩:=e2 i0 (q1,p) k2
   have:y=y':=by
    have:es.toList[i0]?=some y':=by simpa using hy
    rw[k3]at this; injection this
   subst this
   exact⟨y.val,.pv _ _ hp.2.1,.inr ⟨j,k4,rfl⟩⟩
 obtain⟨vv,hv2,hv1⟩:=hval
 have hrun:(Instr.lookup t xv iv ok).run P w=.ok (if ok then .tuple #[vv,.bool r.isSome] else vv) w:=by
  rcases e3 with⟨rfl,rfl⟩|⟨id,cl,_,rfl,hh⟩
  .simp only[Instr.lookup,Sem.run_bind,run_underlying hd,Result.andThen_ok,Sem.run_pure,hck]
   have hfind':(Instr.findKey k iv (#[]:Array MapEntry).toList).run P w=.ok r' w:=hfind
   rw[hfind']
   rcases hv1 with⟨q1,q2,rfl⟩|⟨j,q1,q2⟩<;>rw[q1,q2]<;>simp[z1 w]
  .simp only[Instr.lookup,Sem.run_bind,run_underlying hd,Result.andThen_ok,kA hh,Sem.run_pure,hck,hfind]
   rcases hv1 with⟨q1,q2,rfl⟩|⟨j,q1,q2⟩<;>rw[q1,q2]<;>simp[z1 w]
 refine⟨_,hrun,?_⟩
 cases ok with
 |false=>exact hv2
 |true=>
  refine .dH _ _ rfl (fun j c hj=>?_)
  match j,hj with
  |0,hj=>simp at hj; subst hj; exact hv2
  |1,hj=>simp at hj; subst hj; exact .pv _ _ (.bool _)
  |j+2,hj=>simp at hj
theorem DQ {k:Nat} {a b:PV} (hh:PV.eqs k a b=some true):db a=db b:=by
 unfold PV.eqs at hh
 split at hh<;>first|(cases hh; done)|skip
 .simp at hh; subst hh; rfl
 .split at hh
  .rename_i hk; subst hk; simp at hh; subst hh; rfl
  .cases hh
 .rename_i a b
  simp at hh
  have:a=b:=(MapKept.bytes_beq a b).1 (by rw[beq_toListBytes]; simpa using hh)
  subst this; rfl
theorem qI:∀{ks:List Nat} {a b:List PV},bk ks a b=some true→a.map db=b.map db
 |[],[],[],_=>rfl
 |[],_::_,_,hh=>by simp[bk]at hh
 |[],[],_::_,hh=>by simp[bk]at hh
 |k::ks,[],_,hh=>by simp[bk]at hh
 |k::ks,_::_,[],hh=>by simp[bk]at hh
 |k::ks,a::x,b::y,hh=>by
  simp only[bk]at hh
  split at hh
  .rename_i p q h1 h2
   injection hh with hh
   simp only[Bool.and_eq_true]at hh
   obtain⟨rfl,rfl⟩:=hh
   simp[DQ h1,qI h2]
  .cases hh
theorem xT {p:PV} (hl:p.lit=true) (n:Nat):Instr.sameBits n (db p) (db p)=true:=by
 cases p<;>simp[PV.lit]at hl<;>simp[db,Instr.sameBits,beq_toListBytes]
theorem Aa {ag:Bool} {a:List PV} {x:Value} (hx:Shape ag x (a.map db)) (hl:∀p∈a,p.lit=true):Instr.sameBits 10000 x x=true:=by
 cases ag with
 |true=>
  simp only[Shape,if_true]at hx
  subst hx
  show Instr.sameBits (9999+1) _ _=true
  simp only[Instr.sameBits,beq_self_eq_true,Bool.true_and,List.all_eq_true]
  intro p hp
  obtain⟨i,hi,e⟩:=WC hp
  rw[List.getElem_zip]at e
  rw[← e]
  simp only[List.getElem_map]
  exact xT (hl _ (Ww _)) 9999
 |false=>
  obtain⟨p,rfl,rfl⟩:=fN (_k:=0) hx
  exact xT (hl p (by simp)) _
theorem DR {ag:Bool} {ks:List Nat} {k q:PV} {kv qv:Value} (hh:j0 ag ks k q=some true) (hk:dL N L w k kv) (hq:dL N L w q qv):(Instr.keyThatStays qv kv).run P w=.ok kv w:=by
 obtain⟨a1,a2,l1,l2⟩:=je hh
 have s1:=fA hk a1 l1
 have s2:=fA hq a2 l2
 have hsame:=qI (gm hh).1
 rw[← hsame]at s2
 have hb:=Aa s1 l1
 have:qv=kv:=by
  cases ag with
  |true=>
   simp only[Shape,if_true]at s1 s2
   rw[s1,s2]
  |false=>
   simp only[Shape,Bool.false_eq_true,if_false]at s1 s2
   rw[s1]at s2
   simpa using s2.symm
 subst this
 simp[Instr.keyThatStays,hb]
theorem Tn.xU (h:af) (id:Nat) (m:List (PV×PV)):({ mp:=some (id,m) }:Tn).apply h={ h with mp:=h.mp.set id m }:=by
 cases h; simp[Tn.apply]
theorem Bv (hr:HR N L e W h w) {t k el:TypeId} (hd:P.underlying t=some (.map k el)) {ag:Bool} {ks:List Nat} (hc:ru P k=some (ag,ks)) {id:Nat} {i x:V} {mv iv xv:Value} (hm:VR N L e w (.map id) mv) (hi:VR N L e w i iv) (hx:VR N L e w x xv)
  {q p:PV} (hq:keyOf ag i=some q) (hp:x.bN=some p) {l:List (PV×PV)} (hl:h.mp[id]?=some l) {r:Option (Nat×PV)} (hf:Pv.findKey ag ks q l 0=some r):
  ∃w',(Instr.mapUpdate t mv iv xv).run P w=.ok () w'∧Nx N W L e w L e (Tn.apply { mp:=some (id,match r with|some (j,_)=>l.set j (q,p)|none=>l++[(q,p)]) } h) w':=by
 cases hm with
 |map _ hid=>
  obtain⟨es,cl,h1,h2,h3⟩:=hr.mp id l hl
  obtain⟨de,hu⟩:=xS hc
  obtain⟨c1,c2,c3,c4⟩:=j3 hc
  obtain⟨q',b,hke⟩:=sA hf
  obtain⟨a1,_,l1,_⟩:=je hke
  obtain⟨hk,_⟩:=uT hi hq l1
  have hpp:=V.fi hp
  have hpv:dL N L w p xv:=by
   have:=hx.bN hp
   cases this with
   |pv _ _ hh=>exact hh
  have hck:∀em,(Instr.checkKey em 10000 k iv).run P w=.ok () w:=fun em=>jF 40 k ks ag c1 c2 c3 10000 (by omega) _ (by rw[VB]; exact(fm (gm hke).1).1) iv (fA hk a1 l1)
  obtain⟨r',g1,g2,g3,g4⟩:=sz hc hk de l es.toList 0 r (by simpa using h2) (fun j p hj=>by
   obtain⟨_,y,hy,hp⟩:=h3 j p hj
   exact⟨y,by simpa using hy,hp.1⟩) hf
  have hfind:=sB hu g1 g2
  have hset:∀o:Obj,(setObj (e.mp id) o).run P w=.ok () { w with heap:=w.heap.setIfInBounds (e.mp id) o }:=fun o=>MapKept.run_setObj_map o h1
  rw[Tn.xU]
  cases r with
  |none=>
   have hr':=g3 rfl
   subst hr'
   refine⟨_,by simp only[Instr.mapUpdate,Sem.run_bind,run_underlying hd,Result.andThen_ok,kA h1,hck,hfind]; exact hset _,?_⟩
   refine Nx.DM hr hl (by simp[h2]) (fun j y hj=>?_)
   rcases Nat.lt_trichotomy j l.length with hjl|hjl|hjl
   .rw[VC hjl]at hj
    obtain⟨k1,z,k2,k3⟩:=h3 j y hj
    refine⟨k1,z,?_,k3⟩
    rw[Array.getElem?_push,if_neg (by omega)]
    exact k2
   .subst hjl
    simp at hj
    subst hj
    refine⟨xQ a1 l1,_,by rw[Array.getElem?_push,if_pos (by rw[h2])],hk,hpv,hpp⟩
   .rw[List.getElem?_eq_none (by simp; omega)]at hj
    cases hj
  |some jp=>
   obtain⟨j,p0⟩:=jp
   obtain⟨i0,q1,y,k1,k2,k3,k4,k5⟩:=g4 j p0 rfl
   have hj0:j=i0:=by omega
   subst hj0
   subst k4
   obtain⟨_,y',hy,hyp⟩:=h3 j (q1,p0) k2
   have hyy:y=y':=by
    have:es.toList[j]?=some y':=by simpa using hy
    rw[k3]at this; injection this
   subst hyy
   have hst:=DR (P:=P) k5 hk hyp.1
   refine⟨_,by
    simp only[Instr.mapUpdate,Sem.run_bind,run_underlying hd,Result.andThen_ok,kA h1,hck,hfind,hy,Option.map_some,Option.getD_some,hst]
    exact hset _,?_⟩
   refine Nx.DM hr hl (by simp[h2]) (fun i y2 hi2=>?_)
   rcases iy hi2 with⟨rfl,rfl⟩|⟨hne,hi3⟩
   .refine⟨xQ a1 l1,{ y with key:=iv,val:=xv },?_,hk,hpv,hpp⟩
    rw[Array.getElem?_modify,if_pos rfl,hy]
    rfl
   .obtain⟨k1,z,k2,k3⟩:=h3 i y2 hi3
    refine⟨k1,z,?_,k3⟩
    rw[Array.getElem?_modify,if_neg (Ne.symm hne)]
    exact k2
theorem F8 (hr:HR N L e W h w) {t:TypeId}:Good P N W L e h w (Instr.makeMap t none) (.map h.mp.length) { pR:=true }:=by
 refine⟨.map (some w.heap.size),w.alloc (.map #[] 0),L,e.fg w.heap.size,by simp[Instr.makeMap,Result.andThen],?_,?_⟩
 .have:=Nx.H7 hr
  simpa [Tn.apply]using this
 .have:VR N L (e.fg w.heap.size) (w.alloc (.map #[] 0)) (.map e.nm) (.map (some ((e.fg w.heap.size).mp e.nm))):=.map _ (by simp[bn.fg])
  rw[← hr.nm]
  simpa [bn.fg,fZ]using this
end Go.Pv
namespace Go.Pv
variable {P:Program} {N M:Nat→Nat} {pb:List Nat} {W:Nat→Prop} {L L':Lx} {e e':bn} {h:af} {w w':World} {g:bM→V} {ρ:Operand→Value} {Φ:Nat→List PV→Option (List PV)} {Pr:br} {Tk:Nat→Bool}
abbrev Bw (s:Sem Value):Sem Next:=do pure (Next.value (← s))
def ca (P:Program) (N:Nat→Nat) (W:Nat→Prop) (L:Lx) (e:bn) (h:af) (w:World) (s:Sem Next) (v:V) (t:Tn):Prop:=
 ∃nx v' w' L' e',s.run P w=.ok nx w'∧(nx=.value v'∨(nx=.skip∧v'=undef))∧Nx N W L e w L' e' (t.apply h) w'∧VR N L' e' w' v v'
theorem Good.op {s:Sem Value} {v:V} {t:Tn} (hg:Good P N W L e h w s v t):ca P N W L e h w (Bw s) v t:=by
 obtain⟨v',w',L',e',h1,h2,h3⟩:=hg
 exact⟨.value v',v',w',L',e',by simp[h1],.inl rfl,h2,h3⟩
theorem Plain.op (hr:HR N L e W h w) {s:Sem Value} {v:V} {t:Tn} (hp:Plain P N L e w s v) (ht:t.apply h=h):ca P N W L e h w (Bw s) v t:=(hp.F4 hr ht).op
theorem Plain.xV (hr:HR N L e W h w) {s:Sem Value} {v:V} (hp:Plain P N L e w s v):ca P N W L e h w (Bw s) v {}:=hp.op hr (Tn.aO h none none none false false)
theorem ca.value (hr:HR N L e W h w) {s:Sem Next} {v:V} {v':Value} (hs:s.run P w=.ok (.value v') w) (hv:VR N L e w v v'):ca P N W L e h w s v {}:=by
 refine⟨.value v',v',w,L,e,hs,.inl rfl,?_,hv⟩
 have h0:Tn.apply {} h=h:=Tn.aO h none none none false false
 rw[h0]
 exact Nx.refl hr
theorem eB (hO:OR N M L e w g ρ):∀{xs:List Operand} {ys:List bM},aA (bm N M) xs=some ys→ys.length=xs.length∧∀(j:Nat) (y:bM),ys[j]?=some y→∃x,xs[j]?=some x∧VR N L e w (g y) (ρ x):=by
 intro xs ys hm
 refine⟨bQ hm,fun j y hj=>?_⟩
 obtain⟨x,h1,h2⟩:=bC hm j y hj
 exact⟨x,h1,hO x y h2⟩
theorem DS {at_:Array TypeId} {t ty:TypeId} (ha:at_[0]?=some t) (args:Array Value):Builtin.len_ at_ ty args=Builtin.len_ #[t] ty args:=by
 simp[Builtin.len_,ha]
theorem Ab {at_:Array TypeId} {t ty:TypeId} (ha:at_[0]?=some t) (args:Array Value):Builtin.clear_ at_ ty args=Builtin.clear_ #[t] 0 args:=by
 simp[Builtin.clear_,ha]
def wA:eb→Bool
 |.call _ _=>true
 |_=>false
theorem eC {c:Call} {b:Builtin} (hc:c.callee=.builtin b) {ty:TypeId} {s:Sem Value}
  (hb:∀consts,builtin b c.argTypes ty consts (c.args.map ρ)=Bw s):
  (do let d ← resolve ρ c ty; invoke d.target d.args:Sem Next).run P w=(Bw s).run P w:=by
 simp only[resolve,hc,Sem.run_bind,Sem.run_pure,Result.andThen_ok,invoke]
 exact(congrArg (fun q=>Sem.run P q w) (hb _)).trans (by simp[Bw])
theorem ca.nN {s s':Sem Next} {v:V} {t:Tn} (hs:s.run P w=s'.run P w) (hg:ca P N W L e h w s' v t):ca P N W L e h w s v t:=by
 obtain⟨nx,v',w',L',e',h1,h2⟩:=hg
 exact⟨nx,v',w',L',e',hs.trans h1,h2⟩
theorem jf {x:Operand} {f:bM→eb} {q:eb} (hh:(bm N M x).map f=some q):∃y,bm N M x=some y∧q=f y:=by
 cases hx:bm N M x with
 |none=>simp[hx]at hh
 |some y=>simp[hx]at hh; exact⟨y,rfl,hh.symm⟩
theorem map_some {α β:Type} {x:Option α} {f:α→β} {q:β} (hh:x.map f=some q):∃y,x=some y∧q=f y:=by
 cases x with
 |none=>simp at hh
 |some y=>simp at hh; exact⟨y,rfl,hh.symm⟩
theorem Ch (hO:OR N M L e w g ρ) (hr:HR N L e W h w) {o:Oper} {x:Operand} {y:bM} (ho:o.op=.nilCheck x) (hx:bm N M x=some y) {v:V} {tn:Tn}
  (he:evalOp Φ Pr Tk g h (.wh y)=some (v,tn)):ca P N W L e h w (execOp ρ o) v tn:=by
 have hv:=hO x y hx
 simp only[evalOp]at he
 split at he<;>first|(cases he; done)|skip
 .rename_i f cap hg
  injection he with he; injection he with e1 e2; subst e1; subst e2
  rw[hg]at hv
  generalize hrho:ρ x=rv at hv
  cases hv with
  |func _ _ arr hs hvv=>exact ca.value hr (by simp[execOp,ho,hrho]) (.func f cap arr hs hvv)
 .rename_i f cap hg
  injection he with he; injection he with e1 e2; subst e1; subst e2
  rw[hg]at hv
  generalize hrho:ρ x=rv at hv
  cases hv with
  |pv _ _ hp=>
   cases hp with
   |func _ _ arr hs hvv=>exact ca.value hr (by simp[execOp,ho,hrho]) (.pv _ _ (.func f cap arr hs hvv))
 .rename_i s off hg
  injection he with he; injection he with e1 e2; subst e1; subst e2
  rw[hg]at hv
  generalize hrho:ρ x=rv at hv
  cases hv with
  |ptr _ _ hs=>exact ca.value hr (by simp[execOp,ho,hrho]) (.ptr s off hs)
 .rename_i t cs hg
  injection he with he; injection he with e1 e2; subst e1; subst e2
  rw[hg]at hv
  generalize hrho:ρ x=rv at hv
  cases hv with
  |pv _ _ hp=>
   have hp':=hp
   cases hp with
   |ro _ _ b off vs ha hcell hvv h1=>exact ca.value hr (by simp[execOp,ho,hrho]) (.pv _ _ hp')
 .rename_i i vr r c hg
  injection he with he; injection he with e1 e2; subst e1; subst e2
  rw[hg]at hv
  generalize hrho:ρ x=rv at hv
  cases hv with
  |df _ _ _ _ a h1 h2 h3=>exact ca.value hr (by simp[execOp,ho,hrho]) (.df i vr r c a h1 h2 h3)
theorem oK (isMax:Bool) (hO:OR N M L e w g ρ) {xs:Array Operand} {ys:List bM} (hm:aA (bm N M) xs.toList=some ys) {v:V} {tn:Tn}
  (he:evalOp Φ Pr Tk g h (.lh isMax ys)=some (v,tn)):∃_v0:V,tn={}∧∀at_ ty,(isMax=false→Plain P N L e w (Builtin.min_ at_ ty (xs.map ρ)) v)∧(isMax=true→Plain P N L e w (Builtin.max_ at_ ty (xs.map ρ)) v):=by
 simp only[evalOp]at he
 split at he<;>first|(cases he; done)|skip
 rename_i k a r hg
 split at he<;>first|(cases he; done)|skip
 rename_i n hn
 injection he with he; injection he with e1 e2; subst e1; subst e2
 refine⟨.any,rfl,fun at_ ty=>?_⟩
 obtain⟨k1,k2⟩:=eB hO hm
 match ys,hg with
 |y0::ys,hg=>
  simp only[List.map_cons,List.cons.injEq]at hg
  obtain⟨hg0,hgr⟩:=hg
  match hxs:xs.toList,k1 with
  |x0::xr,k1=>
   obtain⟨x,hx1,hx2⟩:=k2 0 y0 rfl
   rw[hxs]at hx1
   simp at hx1
   subst hx1
   rw[hg0]at hx2
   have hx0:=hx2.int
   have hl:(xs.map ρ).toList=.int k a::xr.map ρ:=by rw[Array.toList_map,hxs,List.map_cons,hx0]
   have hrest:∀(j:Nat) (c:V),r[j]?=some c→∃v,(xr.map ρ)[j]?=some v∧VR N L e w c v:=by
    intro j c hj
    rw[← hgr,VF]at hj
    cases hyj:ys[j]? with
    |none=>simp[hyj]at hj
    |some y=>
     simp[hyj]at hj
     subst hj
     obtain⟨x,h1,h2⟩:=k2 (j+1) y (by simpa using hyj)
     rw[hxs]at h1
     exact⟨ρ x,by simp at h1 ⊢; exact⟨x,h1,rfl⟩,h2⟩
   have hlen:(xr.map ρ).length=r.length:=by
    rw[← hgr]
    simp at k1 ⊢
    exact k1.symm
   have:=sq (P:=P) isMax k r (xr.map ρ) a n hrest hlen hn
   refine⟨fun hm=>?_,fun hm=>?_⟩
   .subst hm
    exact cR _ _ (by simp only[Builtin.min_,hl]; simpa using this)
   .subst hm
    exact cR _ _ (by simp only[Builtin.max_,hl]; simpa using this)
theorem DT (hr:HR N L e W h w) (hO:OR N M L e w g ρ) {o:Oper} {q:eb} (ht:dG P N M pb o.dst o.op=some q) (hnc:wA q=false) {v:V} {tn:Tn}
  (he:evalOp Φ Pr Tk g h q=some (v,tn)):ca P N W L e h w (execOp ρ o) v tn:=by
 cases hop:o.op with
 |move x=>
  rw[hop]at ht
  obtain⟨y,h1,rfl⟩:=jf ht
  simp[evalOp]at he
  obtain⟨rfl,rfl⟩:=he
  exact ca.value hr (by simp only[execOp,hop]; rfl) (hO x y h1)
 |assign x=>
  rw[hop]at ht
  obtain⟨y,h1,rfl⟩:=jf ht
  simp[evalOp]at he
  obtain⟨rfl,rfl⟩:=he
  exact ca.value hr (by simp only[execOp,hop]; rfl) (hO x y h1)
 |pick c a b=>
  rw[hop]at ht
  simp only[dG]at ht
  split at ht<;>first|(cases ht; done)|skip
  rename_i c' a' b' h1 h2 h3
  injection ht with ht
  subst ht
  simp only[evalOp]at he
  have hc:=hO c c' h1
  split at he<;>first|(cases he; done)|skip
  .rename_i hg
   rw[hg]at hc
   have hb:=hc.bool
   simp at he
   obtain⟨rfl,rfl⟩:=he
   exact ca.value hr (v':=ρ a) (by simp[execOp,hop,hb,asBool]) (hO a a' h2)
  .rename_i hg
   rw[hg]at hc
   have hb:=hc.bool
   simp at he
   obtain⟨rfl,rfl⟩:=he
   exact ca.value hr (v':=ρ b) (by simp[execOp,hop,hb,asBool]) (hO b b' h3)
 |alloc t=>
  rw[hop]at ht
  simp only[dG]at ht
  split at ht<;>first|(cases ht; done)|skip
  rename_i z d hz hd
  split at ht<;>first|(cases ht; done)|skip
  rename_i hcalm
  injection ht with ht
  subst ht
  simp only[evalOp]at he
  split at he<;>first|(cases he; done)|skip
  rename_i hs
  injection he with he; injection he with e1 e2; subst e1; subst e2
  have:=(F2 (P:=P) hr hz hs hcalm).op
  simpa [execOp,hop]using this
 |box t x=>
  rw[hop]at ht
  simp only[dG]at ht
  split at ht<;>first|(cases ht; done)|skip
  rename_i n _ y d hl hx hd
  injection ht with ht
  subst ht
  simp only[evalOp]at he
  split at he<;>first|(cases he; done)|skip
  rename_i hs
  split at he<;>first|(cases he; done)|skip
  rename_i hc
  injection he with he; injection he with e1 e2; subst e1; subst e2
  have:=(On (P:=P) (t:=t) hr hs (hO x y hx) hc.1 hc.2).op
  simpa [execOp,hop]using this
 |build t parts=>
  rw[hop]at ht
  simp only[dG]at ht
  split at ht
  .rename_i z fs hz hu
   split at ht<;>first|(cases ht; done)|skip
   rename_i l hl
   split at ht<;>first|(cases ht; done)|skip
   rename_i hall
   injection ht with ht
   subst ht
   simp only[evalOp]at he
   split at he<;>first|(cases he; done)|skip
   rename_i cs hf
   injection he with he; injection he with e1 e2; subst e1; subst e2
   have:=(DO (P:=P) hO hz hu hall hl hf).xV hr
   simpa [execOp,hop]using this
  .rename_i z len el hz hu
   split at ht<;>first|(cases ht; done)|skip
   rename_i k hk
   split at ht<;>first|(cases ht; done)|skip
   rename_i l hl
   injection ht with ht
   subst ht
   simp only[evalOp]at he
   split at he<;>first|(cases he; done)|skip
   rename_i cs hf
   injection he with he; injection he with e1 e2; subst e1; subst e2
   have:=(DP (P:=P) hO hz hu hk hl hf).xV hr
   simpa [execOp,hop]using this
  .cases ht
 |buildSlice t len parts=>
  rw[hop]at ht
  simp only[dG]at ht
  split at ht<;>first|(cases ht; done)|skip
  rename_i el k hel
  split at ht<;>first|(cases ht; done)|skip
  rename_i z l hz hl
  split at ht<;>first|(cases ht; done)|skip
  rename_i hmost
  injection ht with ht
  subst ht
  simp only[evalOp]at he
  split at he<;>first|(cases he; done)|skip
  rename_i cs hf
  obtain⟨k1,k2,_⟩:=Hn (P:=P) hr hO hel hz hmost hl hf
  split at he
  .rename_i rows hrows
   injection he with he; injection he with e1 e2; subst e1; subst e2
   have:=(k1 rows hrows).op
   simpa [execOp,hop]using this
  .rename_i rows hrows
   split at he<;>first|(cases he; done)|skip
   rename_i hcalm
   injection he with he; injection he with e1 e2; subst e1; subst e2
   have:=(k2 rows hrows hcalm).op
   simpa [execOp,hop]using this
 |load t x=>
  rw[hop]at ht
  simp only[dG]at ht
  split at ht<;>first|(cases ht; done)|skip
  rename_i n a y hl hx
  injection ht with ht
  subst ht
  simp only[evalOp]at he
  split at he<;>first|(cases he; done)|skip
  rename_i cs t' hla
  split at he<;>first|(cases he; done)|skip
  rename_i v0 hcv
  injection he with he; injection he with e1 e2; subst e1; subst e2
  obtain⟨a1,a2,b,off,a3,a4⟩:=qD hr (hO x y hx) hla
  obtain⟨v',r1,r2⟩:=xG (P:=P) hl a2 a4 hcv
  have hp:Plain P N L e w (Instr.loadAt t (ρ x)) v0:=⟨v',by rw[a3]; simpa [Instr.loadAt,Instr.sureAddr]using r1,r2⟩
  have:=hp.op hr a1
  simpa [execOp,hop]using this
 |store t x y=>
  rw[hop]at ht
  simp only[dG]at ht
  split at ht<;>first|(cases ht; done)|skip
  rename_i n a x' y' hl hx hy
  injection ht with ht
  subst ht
  simp only[evalOp]at he
  split at he<;>first|(cases he; done)|skip
  rename_i hn
  split at he<;>first|(cases he; done)|skip
  rename_i t' hst
  injection he with he; injection he with e1 e2; subst e1; subst e2
  obtain⟨w',L',e',r1,r2⟩:=F3 (P:=P) hr (iZ hl).2.1 (hO x x' hx) (hO y y' hy) hn hst
  exact⟨.skip,undef,w',L',e',by simp[execOp,hop,r1],.inr ⟨rfl,rfl⟩,r2,.any _⟩
 |nilCheck x=>
  rw[hop]at ht
  obtain⟨y,h1,rfl⟩:=jf ht
  exact Ch hO hr hop h1 he
 |binOp op t x y yt=>
  rw[hop]at ht
  simp only[dG]at ht
  split at ht<;>first|(cases ht; done)|skip
  rename_i x' y' hx hy
  have hbin:∀{v0:V},cN op (g x') (g y')=some v0→ca P N W L e h w (execOp ρ o) v0 {}:=by
   intro v0 hb
   have hgd:=xJ (P:=P) (t:=t) (x:=x) (y:=y) (hO x x' hx) (hO y y' hy) hb
   obtain⟨v',r1,r2⟩:=Ov (P:=P) (t:=t) (hO x x' hx) (hO y y' hy) hb
   refine ca.value hr (v':=v') ?_ r2
   simp[execOp,hop,hgd,r1]
  split at ht
  .injection ht with ht
   subst ht
   simp only[evalOp]at he
   obtain⟨v0,h1,h2⟩:=map_some he
   injection h2 with e1 e2; subst e1; subst e2
   exact hbin h1
  .injection ht with ht
   subst ht
   simp only[evalOp]at he
   obtain⟨v0,h1,h2⟩:=map_some he
   injection h2 with e1 e2; subst e1; subst e2
   exact hbin h1
  .rename_i hni hns
   split at ht<;>first|(cases ht; done)|skip
   rename_i ag ks hc
   split at ht<;>first|(cases ht; done)|skip
   rename_i hop2
   injection ht with ht
   subst ht
   simp only[evalOp]at he
   split at he<;>first|(cases he; done)|skip
   rename_i a b ha hb
   split at he<;>first|(cases he; done)|skip
   rename_i r hre
   injection he with he; injection he with e1 e2; subst e1; subst e2
   obtain⟨g1,g2,g3⟩:=Oy (P:=P) hc (hO x x' hx) (hO y y' hy) ha hb hre x y
   obtain⟨g4,g5⟩:=g3 (fun k hk=>hni k hk) (fun hk=>hns hk)
   rcases hop2 with rfl|rfl
   .exact ca.value hr (v':=.bool r) (by simp[execOp,hop,g1,g4]) (.pv _ _ (by simpa using dL.bool r))
   .exact ca.value hr (v':=.bool !r) (by simp[execOp,hop,g2,g5]) (.pv _ _ (by simpa using dL.bool (!r)))
 |unOp op t x=>
  rw[hop]at ht
  obtain⟨y,h1,rfl⟩:=jf ht
  simp only[evalOp]at he
  obtain⟨v0,h2,h3⟩:=map_some he
  injection h3 with e1 e2; subst e1; subst e2
  have:=(SJ (P:=P) (hO x y h1) h2).xV hr
  simpa [execOp,hop]using this
 |convert s d x=>
  rw[hop]at ht
  simp only[dG]at ht
  split at ht
  .rename_i y k' k hx hs hd
   injection ht with ht
   subst ht
   simp only[evalOp]at he
   split at he<;>first|(cases he; done)|skip
   rename_i k0 n hg
   injection he with he; injection he with e1 e2; subst e1; subst e2
   have hx':=hO x y hx
   rw[hg]at hx'
   have:=(Ic (P:=P) hs hd hx').xV hr
   simpa [execOp,hop]using this
  .rename_i y k' hx hs hd
   injection ht with ht
   subst ht
   simp only[evalOp]at he
   have hx':=hO x y hx
   split at he<;>first|(cases he; done)|skip
   .rename_i b hg
    injection he with he; injection he with e1 e2; subst e1; subst e2
    rw[hg]at hx'
    have:=(xK (P:=P) hs hd hx').xV hr
    simpa [execOp,hop]using this
   .rename_i k0 n hg
    injection he with he; injection he with e1 e2; subst e1; subst e2
    rw[hg]at hx'
    have:=(DN (P:=P) hs hd hx').xV hr
    simpa [execOp,hop]using this
  .rename_i y hx hs hd
   injection ht with ht
   subst ht
   simp only[evalOp]at he
   have hx':=hO x y hx
   split at he<;>first|(cases he; done)|skip
   .rename_i b hg
    injection he with he; injection he with e1 e2; subst e1; subst e2
    rw[hg]at hx'
    have:=(xK (P:=P) hs hd hx').xV hr
    simpa [execOp,hop]using this
   .rename_i k0 n hg
    injection he with he; injection he with e1 e2; subst e1; subst e2
    rw[hg]at hx'
    have hxi:=hx'.int
    have hp:Plain P N L e w (convert s d (ρ x)) (.pv (.str (Utf8.encode n))):=by
     rw[hxi]
     exact mB _ (by simp[convert,underlying,hs,hd,Conv.intToString])
    have:=hp.xV hr
    simpa [execOp,hop]using this
  .cases ht
 |makeFunc fn first cap=>
  rw[hop]at ht
  cases fn with
  |func f=>
   simp only[dG]at ht
   split at ht<;>first|(cases ht; done)|skip
   rename_i l hl
   split at ht<;>first|(cases ht; done)|skip
   rename_i hc
   injection ht with ht
   subst ht
   simp only[evalOp]at he
   injection he with he; injection he with e1 e2; subst e1; subst e2
   obtain⟨k1,k2⟩:=eB hO hl
   have hfirst:first=#[]:=Array.eq_empty_of_size_eq_zero hc.2
   subst hfirst
   refine ca.value hr (v':=.func (.func (N (M f))) #[] (cap.map ρ)) ?_ (.func (M f) (l.map g) (cap.map ρ) (by simp[k1]) (fun j c hj=>?_))
   .rw[hc.1]
    simp[execOp,hop,Instr.makeFunc]
   .rw[VF]at hj
    cases hlj:l[j]? with
    |none=>simp[hlj]at hj
    |some y=>
     simp[hlj]at hj
     subst hj
     obtain⟨x,hx1,hx2⟩:=k2 j y hlj
     have:(cap.map ρ).getD j undef=ρ x:=by
      apply cc
      simp[Array.getElem?_toList]at hx1 ⊢
      exact⟨x,hx1,rfl⟩
     rw[this]
     exact hx2
  |_=>simp[dG]at ht
 |makeMap t r=>
  rw[hop]at ht
  cases r with
  |none=>
   simp only[dG]at ht
   injection ht with ht
   subst ht
   simp only[evalOp]at he
   injection he with he; injection he with e1 e2; subst e1; subst e2
   have:=(F8 (P:=P) hr (t:=t)).op
   simpa [execOp,hop]using this
  |some r=>simp[dG]at ht
 |makeSlice t n c=>
  rw[hop]at ht
  simp only[dG]at ht
  split at ht<;>first|(cases ht; done)|skip
  rename_i el k hel
  split at ht<;>first|(cases ht; done)|skip
  rename_i z n' c' hz hn hc
  split at ht<;>first|(cases ht; done)|skip
  rename_i hcalm
  injection ht with ht
  subst ht
  simp only[evalOp]at he
  split at he<;>first|(cases he; done)|skip
  rename_i a b ha hb
  split at he<;>first|(cases he; done)|skip
  rename_i hab
  injection he with he; injection he with e1 e2; subst e1; subst e2
  have:=(Ii (P:=P) hr hel hz hcalm (hO n n' hn) (hO c c' hc) ha hb hab.1 hab.2.1 hab.2.2).op
  simpa [execOp,hop]using this
 |slice t x lo hi mx=>
  rw[hop]at ht
  simp only[dG]at ht
  split at ht<;>first|(cases ht; done)|skip
  rename_i x' lo' hi' mx' hx hlo hhi hmx
  split at ht
  .rename_i hu
   split at ht<;>first|(cases ht; done)|skip
   injection ht with ht
   subst ht
   simp only[evalOp]at he
   obtain⟨v0,h2,h3⟩:=map_some he
   injection h3 with e1 e2; subst e1; subst e2
   have hmx0:mx=none:=by
    cases mx with
    |none=>rfl
    |some m=>
     simp only[iX]at hmx
     split at hmx<;>simp at hmx
   subst hmx0
   have:=(Ou (P:=P) hO hlo hhi hu (hO x x' hx) h2).xV hr
   simpa [execOp,hop]using this
  .rename_i el hu
   split at ht<;>first|(cases ht; done)|skip
   rename_i k hk
   have hq:q=.sl k x' lo' hi' mx'∧(∀y,mx'=some y→hi'≠none):=by
    split at ht
    .cases ht
    .rename_i hne
     injection ht with ht
     refine⟨ht.symm,fun y hy hn=>?_⟩
     exact hne y hy hn
   obtain⟨rfl,hnn⟩:=hq
   simp only[evalOp]at he
   obtain⟨k1,k2⟩:=F5 (P:=P) hr hO hlo hhi hmx hnn hu hk (hO x x' hx) he
   have:=k1.op hr k2
   simpa [execOp,hop]using this
  .cases ht
 |fieldAddr t x i=>
  rw[hop]at ht
  simp only[dG]at ht
  split at ht<;>first|(cases ht; done)|skip
  rename_i fs y hu hx
  split at ht<;>first|(cases ht; done)|skip
  rename_i f hf
  split at ht<;>first|(cases ht; done)|skip
  rename_i n hn
  split at ht<;>first|(cases ht; done)|skip
  rename_i hn0
  injection ht with ht
  subst ht
  simp only[evalOp]at he
  obtain⟨v0,h2,h3⟩:=map_some he
  injection h3 with e1 e2; subst e1; subst e2
  have:=(xI (P:=P) hu hf hn hn0 (hO x y hx) h2).xV hr
  simpa [execOp,hop]using this
 |field t x i=>
  rw[hop]at ht
  simp only[dG]at ht
  split at ht<;>first|(cases ht; done)|skip
  rename_i fs y hu hx
  split at ht<;>first|(cases ht; done)|skip
  rename_i f hf
  split at ht<;>first|(cases ht; done)|skip
  rename_i n a hl
  injection ht with ht
  subst ht
  simp only[evalOp]at he
  split at he<;>first|(cases he; done)|skip
  rename_i cs hg
  split at he<;>first|(cases he; done)|skip
  rename_i l htk
  obtain⟨v0,h2,h3⟩:=map_some he
  injection h3 with e1 e2; subst e1; subst e2
  have hx':=hO x y hx
  rw[hg]at hx'
  have:=(Ia (P:=P) hu hf hl hx' htk h2).xV hr
  simpa [execOp,hop]using this
 |indexAddr t x i=>
  rw[hop]at ht
  simp only[dG]at ht
  split at ht
  .rename_i x' i' el hx hi hu
   split at ht<;>first|(cases ht; done)|skip
   rename_i k hk
   injection ht with ht
   subst ht
   simp only[evalOp]at he
   obtain⟨k1,k2⟩:=Oo (P:=P) hr hu hk (hO x x' hx) (hO i i' hi) he
   have:=k1.op hr k2
   simpa [execOp,hop]using this
  .rename_i x' i' n el hx hi hu
   split at ht<;>first|(cases ht; done)|skip
   rename_i k hk
   injection ht with ht
   subst ht
   simp only[evalOp]at he
   split at he<;>first|(cases he; done)|skip
   rename_i j hj
   obtain⟨v0,h2,h3⟩:=map_some he
   injection h3 with e1 e2; subst e1; subst e2
   have:=(Ib (P:=P) hu hk (hO x x' hx) (hO i i' hi) hj h2).xV hr
   simpa [execOp,hop]using this
  .cases ht
 |index t x i=>
  rw[hop]at ht
  simp only[dG]at ht
  split at ht
  .rename_i x' i' n el hx hi hu
   split at ht<;>first|(cases ht; done)|skip
   rename_i k a k' hl hk
   injection ht with ht
   subst ht
   simp only[evalOp]at he
   split at he<;>first|(cases he; done)|skip
   rename_i j hj
   split at he<;>first|(cases he; done)|skip
   rename_i cs hg
   split at he<;>first|(cases he; done)|skip
   rename_i l htk
   obtain⟨v0,h2,h3⟩:=map_some he
   injection h3 with e1 e2; subst e1; subst e2
   have hx':=hO x x' hx
   rw[hg]at hx'
   have:=(Oq (P:=P) hu hl hx' (hO i i' hi) hj htk h2).xV hr
   simpa [execOp,hop]using this
  .rename_i x' i' hx hi hu
   injection ht with ht
   subst ht
   simp only[evalOp]at he
   split at he<;>first|(cases he; done)|skip
   rename_i s hg
   split at he<;>first|(cases he; done)|skip
   rename_i j hj
   split at he<;>first|(cases he; done)|skip
   rename_i b hb
   injection he with he; injection he with e1 e2; subst e1; subst e2
   have hx':=hO x x' hx
   rw[hg]at hx'
   have:=(Ot (P:=P) hu hx' (hO i i' hi) hj hb).xV hr
   simpa [execOp,hop]using this
  .cases ht
 |lookup t x i ok=>
  rw[hop]at ht
  simp only[dG]at ht
  split at ht<;>first|(cases ht; done)|skip
  rename_i x' i' k el hx hi hu
  split at ht<;>first|(cases ht; done)|skip
  rename_i z ag ks hz hc
  injection ht with ht
  subst ht
  simp only[evalOp]at he
  split at he<;>first|(cases he; done)|skip
  rename_i kq hkq
  split at he<;>first|(cases he; done)|skip
  rename_i m hm0
  have hm:uV h (g x')=some m:=by rw[← hm0]; cases g x'<;>rfl
  split at he<;>first|(cases he; done)|skip
  rename_i r hf
  have hp:=Ik (P:=P) hr hu hz hc (hO x x' hx) (hO i i' hi) hkq hm hf ok
  injection he with he; injection he with e1 e2
  have ev:(if ok then .dH [oJ z r,.pv (.bool r.isSome)] else oJ z r)=v:=by
   rw[← e1]
   cases r with
   |none=>rfl
   |some jp=>obtain⟨j,p⟩:=jp; rfl
  rw[ev]at hp
  have htn:tn.apply h=h:=by
   subst e2
   cases hgx:g x'<;>exact Tn.aO h _ _ _ _ _
  have:=hp.op hr htn
  simpa [execOp,hop]using this
 |mapUpdate t m k x=>
  rw[hop]at ht
  simp only[dG]at ht
  split at ht<;>first|(cases ht; done)|skip
  rename_i m' k' x' kt el hm hk hx hu
  split at ht<;>first|(cases ht; done)|skip
  rename_i ag ks hc
  injection ht with ht
  subst ht
  simp only[evalOp]at he
  split at he<;>first|(cases he; done)|skip
  rename_i id kq p hgm hkq hp
  split at he<;>first|(cases he; done)|skip
  rename_i l hl
  have hm':=hO m m' hm
  rw[hgm]at hm'
  split at he<;>first|(cases he; done)|skip
  .rename_i j p0 hf
   injection he with he; injection he with e1 e2; subst e1; subst e2
   obtain⟨w',r1,r2⟩:=Bv (P:=P) hr hu hc hm' (hO k k' hk) (hO x x' hx) hkq hp hl hf
   exact⟨.skip,undef,w',L,e,by simp[execOp,hop,r1],.inr ⟨rfl,rfl⟩,r2,.any _⟩
  .rename_i hf
   injection he with he; injection he with e1 e2; subst e1; subst e2
   obtain⟨w',r1,r2⟩:=Bv (P:=P) hr hu hc hm' (hO k k' hk) (hO x x' hx) hkq hp hl hf
   exact⟨.skip,undef,w',L,e,by simp[execOp,hop,r1],.inr ⟨rfl,rfl⟩,r2,.any _⟩
 |insert t m k x=>
  rw[hop]at ht
  simp only[dG]at ht
  split at ht<;>first|(cases ht; done)|skip
  rename_i m' k' x' kt el hm hk hx hu
  split at ht<;>first|(cases ht; done)|skip
  rename_i ag ks hc
  injection ht with ht
  subst ht
  simp only[evalOp]at he
  split at he<;>first|(cases he; done)|skip
  rename_i id kq p hgm hkq hp
  split at he<;>first|(cases he; done)|skip
  rename_i l hl
  have hm':=hO m m' hm
  rw[hgm]at hm'
  split at he<;>first|(cases he; done)|skip
  .rename_i j p0 hf
   injection he with he; injection he with e1 e2; subst e1; subst e2
   obtain⟨w',r1,r2⟩:=Bv (P:=P) hr hu hc hm' (hO k k' hk) (hO x x' hx) hkq hp hl hf
   exact⟨.skip,undef,w',L,e,by simp[execOp,hop,r1],.inr ⟨rfl,rfl⟩,r2,.any _⟩
  .rename_i hf
   injection he with he; injection he with e1 e2; subst e1; subst e2
   obtain⟨w',r1,r2⟩:=Bv (P:=P) hr hu hc hm' (hO k k' hk) (hO x x' hx) hkq hp hl hf
   exact⟨.skip,undef,w',L,e,by simp[execOp,hop,r1],.inr ⟨rfl,rfl⟩,r2,.any _⟩
 |extract x i=>
  rw[hop]at ht
  obtain⟨y,h1,rfl⟩:=jf ht
  simp only[evalOp]at he
  split at he<;>first|(cases he; done)|skip
  rename_i vs hg
  split at he<;>first|(cases he; done)|skip
  rename_i v0 hv
  injection he with he; injection he with e1 e2; subst e1; subst e2
  have hx':=hO x y h1
  rw[hg]at hx'
  have:=(Ow (P:=P) hx' hv).xV hr
  simpa [execOp,hop]using this
 |call c=>
  rw[hop]at ht
  simp only[dG]at ht
  have hex:execOp ρ o=(do let d ← resolve ρ c o.type; invoke d.target d.args):=by simp only[execOp,hop]
  split at ht
  .split at ht<;>first|(cases ht; done)|skip
   injection ht with ht
   subst ht
   simp[wA]at hnc
  .rename_i y hce hargs
   obtain⟨xs,hxs,hvx⟩:∃x,c.args=#[x]∧VR N L e w (g y) (ρ x):=by
    obtain⟨k1,k2⟩:=eB hO hargs
    obtain⟨x,h1,h2⟩:=k2 0 y rfl
    match hc:c.args,k1 with
    |⟨[x']⟩,_=>simp[hc]at h1; subst h1; exact⟨_,rfl,h2⟩
   have hmapargs:c.args.map ρ=#[ρ xs]:=by rw[hxs]; simp
   cases ha:c.argTypes[0]? with
   |none=>simp[ha]at ht
   |some t=>
    have hb:∀consts,builtin .len c.argTypes o.type consts (c.args.map ρ)=Bw (Builtin.len_ #[t] o.type #[ρ xs]):=fun consts=>by
     simp only[builtin]; rw[DS ha,hmapargs]
    rw[hex]
    refine ca.nN (eC hce hb) ?_
    simp only[ha,Option.bind_some]at ht
    have key:∀kd,q=.len kd y→(∀{n:Nat} {tn:Tn},fY h kd (g y)=some (n,tn)→(Builtin.len_ #[t] o.type #[ρ xs]).run P w=.ok (goInt n) w∧tn.apply h=h)→ca P N W L e h w (Bw (Builtin.len_ #[t] o.type #[ρ xs])) v tn:=by
     intro kd hq hrun
     subst hq
     simp only[evalOp]at he
     split at he<;>first|(cases he; done)|skip
     rename_i n t' hl
     injection he with he; injection he with e1 e2; subst e1; subst e2
     obtain⟨r1,r2⟩:=hrun hl
     have hp:Plain P N L e w (Builtin.len_ #[t] o.type #[ρ xs]) (.pv (.int .i64 n)):=⟨_,r1,.pv _ _ (by simpa [goInt]using dL.int IntKind.i64 n)⟩
     exact hp.op hr r2
    split at ht<;>first|(cases ht; done)|skip
    .rename_i hu
     injection ht with ht
     exact key 1 ht.symm (fun hl=>Ig hu hvx hl)
    .rename_i hu
     injection ht with ht
     exact key 0 ht.symm (fun hl=>Ie hu hvx hl)
    .rename_i hu
     injection ht with ht
     exact key 2 ht.symm (fun hl=>Ih hr hu hvx hl)
  .rename_i x' y' hce hargs
   obtain⟨x,y,hxs,hvx,hvy⟩:∃x y,c.args=#[x,y]∧VR N L e w (g x') (ρ x)∧VR N L e w (g y') (ρ y):=by
    obtain⟨k1,k2⟩:=eB hO hargs
    obtain⟨x,h1,h2⟩:=k2 0 x' rfl
    obtain⟨y,h3,h4⟩:=k2 1 y' rfl
    match hc:c.args,k1 with
    |⟨[a,b]⟩,_=>simp[hc]at h1 h3; subst h1; subst h3; exact⟨_,_,rfl,h2,h4⟩
   split at ht<;>first|(cases ht; done)|skip
   rename_i t ha
   split at ht<;>first|(cases ht; done)|skip
   rename_i el k hel
   split at ht<;>first|(cases ht; done)|skip
   rename_i hat
   injection ht with ht
   subst ht
   simp only[evalOp]at he
   have hb:∀consts,builtin .append c.argTypes o.type consts (c.args.map ρ)=Bw (Builtin.append_ #[t,t] o.type #[ρ x,ρ y]):=fun consts=>by
    simp only[builtin]; rw[hat,hxs]; simp
   rw[hex]
   exact ca.nN (eC hce hb) (Hm hr hel hvx hvy he).op
  .rename_i y hce hargs
   obtain⟨xs,hxs,hvx⟩:∃x,c.args=#[x]∧VR N L e w (g y) (ρ x):=by
    obtain⟨k1,k2⟩:=eB hO hargs
    obtain⟨x,h1,h2⟩:=k2 0 y rfl
    match hc:c.args,k1 with
    |⟨[x']⟩,_=>simp[hc]at h1; subst h1; exact⟨_,rfl,h2⟩
   have hmapargs:c.args.map ρ=#[ρ xs]:=by rw[hxs]; simp
   cases ha:c.argTypes[0]? with
   |none=>simp[ha]at ht
   |some t=>
    simp only[ha,Option.bind_some]at ht
    split at ht<;>first|(cases ht; done)|skip
    rename_i el k hel
    split at ht<;>first|(cases ht; done)|skip
    rename_i z hz
    injection ht with ht
    subst ht
    have hb:∀consts,builtin .clear c.argTypes o.type consts (c.args.map ρ)=Bw (Builtin.clear_ #[t] 0 #[ρ xs]):=fun consts=>by
     simp only[builtin]; rw[Ab ha,hmapargs]
    rw[hex]
    refine ca.nN (eC hce hb) ?_
    obtain⟨k1,k2,k3⟩:=Ox (P:=P) hr hel hz hvx
    simp only[evalOp]at he
    split at he<;>first|(cases he; done)|skip
    .rename_i tg hg
     injection he with he; injection he with e1 e2; subst e1; subst e2
     exact(k1 tg hg).op
    .rename_i hg
     injection he with he; injection he with e1 e2; subst e1; subst e2
     exact(k2 hg).op
    .rename_i id aq off len hg
     split at he<;>first|(cases he; done)|skip
     rename_i a zp ho hzp
     split at he<;>first|(cases he; done)|skip
     rename_i rows hbody
     split at he<;>first|(cases he; done)|skip
     rename_i hcond
     injection he with he; injection he with e1 e2; subst e1; subst e2
     exact(k3 id aq off len a zp rows hg ho hzp hbody hcond.1 hcond.2).op
  .rename_i x' y' hce hargs
   obtain⟨x,y,hxs,hvx,hvy⟩:∃x y,c.args=#[x,y]∧VR N L e w (g x') (ρ x)∧VR N L e w (g y') (ρ y):=by
    obtain⟨k1,k2⟩:=eB hO hargs
    obtain⟨x,h1,h2⟩:=k2 0 x' rfl
    obtain⟨y,h3,h4⟩:=k2 1 y' rfl
    match hc:c.args,k1 with
    |⟨[a,b]⟩,_=>simp[hc]at h1 h3; subst h1; subst h3; exact⟨_,_,rfl,h2,h4⟩
   split at ht<;>first|(cases ht; done)|skip
   rename_i t ha
   split at ht<;>first|(cases ht; done)|skip
   rename_i el k hel
   split at ht<;>first|(cases ht; done)|skip
   rename_i hat
   injection ht with ht
   subst ht
   simp only[evalOp]at he
   have hb:∀consts,builtin .copy c.argTypes o.type consts (c.args.map ρ)=Bw (Builtin.copy_ #[t,t] o.type #[ρ x,ρ y]):=fun consts=>by
    simp only[builtin]; rw[hat,hxs]; simp
   rw[hex]
   exact ca.nN (eC hce hb) (Ij hr hel hvx hvy he).op
  .rename_i args hce hargs
   injection ht with ht
   subst ht
   rw[hex]
   obtain⟨_,rfl,hp⟩:=oK (P:=P) false hO hargs he
   have hb:∀consts,builtin .min c.argTypes o.type consts (c.args.map ρ)=Bw (Builtin.min_ c.argTypes o.type (c.args.map ρ)):=fun consts=>rfl
   refine ca.nN (eC hce hb) ?_
   exact Plain.xV hr ((hp c.argTypes o.type).1 rfl)
  .rename_i args hce hargs
   injection ht with ht
   subst ht
   rw[hex]
   obtain⟨_,rfl,hp⟩:=oK (P:=P) true hO hargs he
   have hb:∀consts,builtin .max c.argTypes o.type consts (c.args.map ρ)=Bw (Builtin.max_ c.argTypes o.type (c.args.map ρ)):=fun consts=>rfl
   refine ca.nN (eC hce hb) ?_
   exact Plain.xV hr ((hp c.argTypes o.type).2 rfl)
  .cases ht
 |panic x=>rw[hop]at ht; simp only[dG]at ht; injection ht with ht; subst ht; simp[evalOp]at he
 |makeInterface t x=>rw[hop]at ht; simp only[dG]at ht; injection ht with ht; subst ht; simp[evalOp]at he
 |_=>rw[hop]at ht; simp[dG]at ht
end Go.Pv
namespace Go.Pv
variable {P:Program} {N M:Nat→Nat} {W:Nat→Prop} {L L':Lx} {e e':bn} {h:af} {w w':World} {g:bM→V} {ρ:Operand→Value}
theorem rJ {id aq off len:Nat} {v:Value} (hx:VR N L e w (.own id aq off len) v):∃A cap,v=.slice A len cap:=by
 cases hx with
 |own _ _ _ _ A cap=>exact⟨A,cap,rfl⟩
theorem rK (hr:HR N L e W h w) {id aq off len cap:Nat} {A:Option Addr} (hx:VR N L e w (.own id aq off len) (.slice A len cap)) {a:aL} (ho:aF h id aq=some a) {l:List (List PV)} {t:Nat}
  (hlen:l.length=(rowsOf (aI off len a.body)).length)
  (hrow:∀(i:Nat) (r:List PV),l[i]?=some r→∃q:List V,(rowsOf (aI off len a.body))[i]?=some q∧r.length=q.length∧
   ∀(j:Nat) (c:PV),r[j]?=some c→∃x,q[j]?=some x∧∀v,x.calm=true→VR N L e w x v→dL N L' w c v∧c.calm=true∧(t≤1→c.perm=true))
  (hl:a.k≠0→jQ L' t (e.ar id)):dL N L' w (.aa t l) (.slice A len cap):=by
 obtain⟨ho1,ho2⟩:=bB ho
 obtain⟨v1,v2,v3,v4⟩:=hr.aq id a ho1
 cases hx with
 |own _ _ _ _ _ _ h0 h1 h2 h3=>
  obtain⟨q1,q2,q3,q4⟩:=h3 (by omega)
  have hrl:(rowsOf (aI off len a.body)).length=len:=by
   rw[gk]
   apply xM
   rw[← aL.cq,aL.bH,← v3]
   exact q1
  have hll:l.length=len:=hlen.trans hrl
  rw[← hll]
  by_cases hk:a.k=0
  .have hrows:=v4 hk
   have hsz:a.size=0:=by rw[← aL.bH,hrows]; rfl
   have hl0:l=[]:=VJ (by omega)
   subst hl0
   exact .aa t [] A default cap 0 (fun _ _=>undef) (by simp) (by simp) (by simp) (by simp[fx]) (by simp[fx]) (by simp[fx]) (by simp[fx])
  .obtain⟨g1,g2,g3,g4,g5⟩:=hr.ar id a ho1 hk
   have cellq:∀(i j:Nat) (c:PV),fx l i j=some c→∃x v,w.cell? ⟨e.ar id,e.ad id+off*e.ak id+(i*a.k+j),none⟩=some v∧x.calm=true∧VR N L e w x v∧(∀v,x.calm=true→VR N L e w x v→dL N L' w c v∧c.calm=true∧(t≤1→c.perm=true)):=by
    intro i j c hc
    unfold fx at hc
    cases hi:l[i]? with
    |none=>simp[hi]at hc
    |some r=>
     simp[hi]at hc
     obtain⟨q,k1,k2,k3⟩:=hrow i r hi
     obtain⟨x,k4,k5⟩:=k3 j c hc
     rw[gk,← aL.cq]at k1
     obtain⟨_,k6⟩:=oD k1
     obtain⟨k7,v,k8,k9⟩:=g4 (off+i) q k6 j x k4
     refine⟨x,v,?_,k7,k9,k5⟩
     rw[v2]
     rw[show e.ad id+off*a.k+(i*a.k+j)=e.ad id+(off+i)*a.k+j by rw[VZ]; omega]
     exact k8
   refine .aa t l A ⟨e.ar id,e.ad id+off*e.ak id,none⟩ cap a.k (fun i j=>(w.cell? ⟨e.ar id,e.ad id+off*e.ak id+(i*a.k+j),none⟩).getD undef) (fun r hr'=>?_) (by omega) (fun hpos=>⟨q4 (by omega),rfl,hl hk⟩) (fun i j c hc=>?_) (fun i j c hc=>?_) (fun ht i j c hc=>?_) (fun i j c hc=>?_)
   .obtain⟨i,hi⟩:=VD.1 hr'
    obtain⟨q,k1,k2,_⟩:=hrow i r hi
    rw[gk,← aL.cq]at k1
    rw[k2]
    exact g3 q (Vz (oD k1).2)
   .obtain⟨x,v,c1,_⟩:=cellq i j c hc
    simp only[c1,Option.getD_some]
   .obtain⟨x,v,c1,c2,c3,c4⟩:=cellq i j c hc
    simp only[c1,Option.getD_some]
    exact(c4 v c2 c3).1
   .obtain⟨x,v,c1,c2,c3,c4⟩:=cellq i j c hc
    exact(c4 v c2 c3).2.2 ht
   .obtain⟨x,v,c1,c2,c3,c4⟩:=cellq i j c hc
    exact(c4 v c2 c3).2.1
def owned (e:bn) (b:Nat):Prop:=(∃s,e.sl s∧e.bx s=b)∨(∃id,id<e.na∧e.ak id≠0∧e.ar id=b)
def Lx.cM (L:Lx) (e:bn):Lx:=fun t b=>L t b∨(t=1∧owned e b)
theorem dL.cM {p:PV} {v:Value} (hp:dL N L w p v):dL N (L.cM e) w p v:=hp.mono (fun _ _ h=>.inl h) (fun _ _ _=>rfl)
theorem V.kF {p:PV} (hp:(V.pv p).calm=true):p.calm=true:=by rw[← PV.zR]; exact hp
theorem kG {p:PV} (hp:p.perm=true):p.calm=true:=V.kF (PV.eH hp)
theorem kH {l:List (List PV)} {i:Nat} {r:List PV} (hi:l[i]?=some r):(l.map (·.map V.pv))[i]?=some (r.map V.pv):=by
 rw[VF,hi]; rfl
theorem oL {a:aL} {rows:List (List PV)} (hb:a.body=.inl rows) (hp:bU a.body) {off len i j:Nat} {r:List PV} {c:PV} (hi:((rows.drop off).take len)[i]?=some r) (hj:r[j]?=some c):c.perm=true:=by
 rw[hb]at hp
 exact hp r (Vz (oD hi).2) c (Vz hj)
theorem xW {α β:Type} {f:α→Option β} {rows:List (List α)} {l:List (List β)} (hm:aA (aA f) rows=some l) {i:Nat} {r:List β} (hi:l[i]?=some r):∃q,rows[i]?=some q∧r.length=q.length∧∀(j:Nat) (c:β),r[j]?=some c→∃x,q[j]?=some x∧f x=some c:=by
 obtain⟨q,h1,h2⟩:=bC hm i r hi
 exact⟨q,h1,bQ h2,fun j c hj=>bC h2 j c hj⟩
theorem xX (hr:HR N L e W h w) {id aq:Nat} {a:aL} (ho:aF h id aq=some a) (hk:a.k≠0) {t:Nat} (ht:t≠0):jQ (L.cM e) t (e.ar id):=by
 obtain⟨ho1,_⟩:=bB ho
 obtain⟨_,v2,_,_⟩:=hr.aq id a ho1
 exact .inr ⟨ht,.inr ⟨rfl,.inr ⟨id,by rw[hr.na]; exact(Vy.1 ho1).1,by rw[v2]; exact hk,rfl⟩⟩⟩
theorem lS (hr:HR N L e W h w):∀(d:Nat) (x:V) (p:PV) (v:Value),bf h d x=some p→VR N L e w x v→dL N (L.cM e) w p v∧p.one=true∧(x.calm=true→p.calm=true):=by
 intro d
 induction d with
 |zero=>
  intro x p v hh hv
  cases x with
  |pv q=>
   cases hv with
   |pv _ _ hq=>
    cases q<;>simp[bf]at hh<;>subst hh<;>exact⟨hq.cM,rfl,fun hc=>V.kF hc⟩
  |tl rows=>
   simp[bf]at hh
   subst hh
   cases hv with
   |tl _ A hq=>exact⟨hq.cM,rfl,fun _=>rfl⟩
  |_=>simp[bf]at hh
 |succ d ih=>
  intro x p v hh hv
  cases x with
  |pv q=>
   cases hv with
   |pv _ _ hq=>
    cases q<;>simp[bf]at hh<;>subst hh<;>exact⟨hq.cM,rfl,fun hc=>V.kF hc⟩
  |tl rows=>
   simp[bf]at hh
   subst hh
   cases hv with
   |tl _ A hq=>exact⟨hq.cM,rfl,fun _=>rfl⟩
  |own id aq off len=>
   simp only[bf]at hh
   cases ho:aF h id aq with
   |none=>simp[ho]at hh
   |some a=>
    simp only[ho]at hh
    obtain⟨A,cap,rfl⟩:=rJ hv
    obtain⟨ho1,_⟩:=bB ho
    cases hb:a.body with
    |inl rows=>
     simp[hb,aI]at hh
     subst hh
     refine⟨rK hr hv ho (by simp[hb,aI,rowsOf]) (fun i r hi=>⟨r.map V.pv,?_,by simp,fun j c hj=>⟨.pv c,by simp[hj],fun v hc hvv=>?_⟩⟩) (fun hk=>xX hr ho hk (by omega)),rfl,fun _=>rfl⟩
     .simp only[hb,aI,rowsOf]; exact kH hi
     .have hk:a.k≠0:=fun hk=>by
       have:=(hr.aq id a ho1).2.2.2 hk
       have hsz:a.size=0:=by rw[← aL.bH,this]; rfl
       simp[aL.size,hb]at hsz
       rw[hsz]at hi; simp at hi
      have hperm:=oL hb (hr.ar id a ho1 hk).2.2.2.2 hi hj
      cases hvv with
      |pv _ _ hq=>exact⟨hq.cM,kG hperm,fun _=>hperm⟩
    |inr rows=>
     simp only[hb,aI]at hh
     cases hm:aA (aA (bf h d)) ((rows.drop off).take len)with
     |none=>simp[hm]at hh
     |some l=>
      simp[hm]at hh
      subst hh
      refine⟨rK hr hv ho (by simp only[hb,aI,rowsOf]; exact bQ hm) (fun i r hi=>?_) (fun hk=>xX hr ho hk (by omega)),rfl,fun _=>rfl⟩
      obtain⟨q,k1,k2,k3⟩:=xW hm hi
      refine⟨q,by simp only[hb,aI,rowsOf]; exact k1,k2,fun j c hj=>?_⟩
      obtain⟨x,k4,k5⟩:=k3 j c hj
      refine⟨x,k4,fun v hc hvv=>?_⟩
      obtain⟨i1,i2,i3⟩:=ih x c v k5 hvv
      exact⟨i1,i3 hc,fun ht=>absurd ht (by omega)⟩
  |ptr slot off=>
   simp only[bf]at hh
   cases hs:aG slot h.bx with
   |none=>simp[hs]at hh
   |some cs=>
    simp only[hs]at hh
    cases hm:aA (bf h d) (cs.drop off)with
    |none=>simp[hm]at hh
    |some l=>
     simp[hm]at hh
     subst hh
     cases hv with
     |ptr _ _ hsl=>
      have hcell:∀(j:Nat) (c:PV),l[j]?=some c→∃v,w.cell? ⟨e.bx slot,off+j,none⟩=some v∧dL N (L.cM e) w c v∧c.one=true:=by
       intro j c hj
       obtain⟨x,k1,k2⟩:=bC hm j c hj
       rw[Wg]at k1
       obtain⟨_,v,k3,k4⟩:=(hr.bx slot cs hs).2 (off+j) x k1
       obtain⟨i1,i2,i3⟩:=ih x c v k2 k4
       exact⟨v,k3,i1,i2⟩
      refine⟨.ro 2 l (e.bx slot) off (fun j=>(w.cell? ⟨e.bx slot,off+j,none⟩).getD undef) (fun _=>.inr ⟨by omega,.inr ⟨rfl,.inl ⟨slot,hsl,rfl⟩⟩⟩) (fun j c hj=>?_) (fun j c hj=>?_) (fun c hc=>?_),rfl,fun hc=>by simp[V.calm]at hc⟩
      .obtain⟨v,k1,_⟩:=hcell j c hj
       simp[k1]
      .obtain⟨v,k1,k2,_⟩:=hcell j c hj
       simp only[k1,Option.getD_some]
       exact k2
      .obtain⟨j,hj⟩:=VD.1 hc
       exact(hcell j c hj).choose_spec.2.2
  |func f cap=>
   simp only[bf]at hh
   cases hm:aA (bf h d) cap with
   |none=>simp[hm]at hh
   |some l=>
    simp[hm]at hh
    subst hh
    cases hv with
    |func _ _ arr hs hvv=>
     refine⟨.func f l arr (by rw[hs,bQ hm]) (fun j c hj=>?_),rfl,fun hc=>?_⟩
     .obtain⟨x,k1,k2⟩:=bC hm j c hj
      exact(ih x c _ k2 (hvv j x k1)).1
     .simp[V.calm]at hc
      subst hc
      simp[aA]at hm
      subst hm
      rfl
  |_=>simp[bf]at hh
theorem Ac (hr:HR N L e W h w) {x:V} {p:PV} {v:Value} (hh:cM h x=some p) (hv:VR N L e w x v):dL N (L.cM e) w p v:=by
 unfold cM at hh
 split at hh
 .rename_i cs
  cases hm:aA (bf h 4) cs with
  |none=>simp[hm]at hh
  |some l=>
   simp[hm]at hh
   subst hh
   cases hv with
   |agg _ arr hs hvv=>
    refine .agg l arr (by rw[hs,bQ hm]) (fun j c hj=>?_) (fun c hc=>?_)
    .obtain⟨x,k1,k2⟩:=bC hm j c hj
     exact(lS hr 4 x c _ k2 (hvv j x k1)).1
    .obtain⟨j,hj⟩:=VD.1 hc
     obtain⟨x,k1,k2⟩:=bC hm j c hj
     exact(lS hr 4 x c _ k2 (hvv j x k1)).2.1
 .injection hh with hh
  subst hh
  cases hv with
  |pv _ _ hq=>exact hq.cM
 .exact(lS hr 4 _ _ _ hh hv).1
theorem lT (hr:HR N L e W h w) (hL:∀b,L 0 b→L' 0 b):∀(d:Nat) (x:V) (p:PV) (v:Value),aV h d x=some p→VR N L e w x v→(ga x≠none→∀id,id<e.na→e.ak id≠0→L' 0 (e.ar id))→dL N L' w p v∧p.perm=true:=by
 have hw:∀b,L 0 b→L' 0 b∧w.heap[b]?=w.heap[b]?:=fun b hb=>⟨hL b hb,rfl⟩
 have flat:∀(d:Nat) (x:V) (p:PV) (v:Value),ga x=none→aV h d x=some p→VR N L e w x v→dL N L' w p v∧p.perm=true:=by
  intro d x p v hno hh hv
  cases x with
  |pv q=>
   cases hv with
   |pv _ _ hq=>
    simp only[aV]at hh
    split at hh
    .rename_i hp
     injection hh with hh
     subst hh
     exact⟨hq.gf hp hw,hp⟩
    .cases hh
  |tl rows=>
   simp[aV]at hh
   subst hh
   cases hv with
   |tl _ A hq=>exact⟨hq.gf rfl hw,rfl⟩
  |own=>simp[ga]at hno
  |func f cap=>
   cases d with
   |zero=>simp[aV]at hh
   |succ d=>
    simp only[aV]at hh
    split at hh
    .rename_i hc
     injection hh with hh
     subst hh
     have:cap=[]:=by simpa using hc
     subst this
     cases hv with
     |func _ _ arr hs hvv=>exact⟨.func f [] arr hs (fun j c hj=>by simp at hj),rfl⟩
    .cases hh
  |_=>cases d<;>simp[aV]at hh
 intro d
 induction d with
 |zero=>
  intro x p v hh hv hown
  cases x with
  |own=>simp[aV]at hh
  |_=>exact flat 0 _ p v rfl hh hv
 |succ d ih=>
  intro x p v hh hv hown
  cases x with
  |own id aq off len=>
   have hown':=hown (by simp[ga])
   simp only[aV]at hh
   cases ho:aF h id aq with
   |none=>simp[ho]at hh
   |some a=>
    simp only[ho]at hh
    obtain⟨A,cap,rfl⟩:=rJ hv
    obtain⟨ho1,_⟩:=bB ho
    have hlent:a.k≠0→jQ L' 0 (e.ar id):=fun hk=>.inl (hown' id (by rw[hr.na]; exact(Vy.1 ho1).1) (by rw[(hr.aq id a ho1).2.1]; exact hk))
    cases hb:a.body with
    |inl rows=>
     simp[hb,aI]at hh
     subst hh
     refine⟨rK hr hv ho (by simp[hb,aI,rowsOf]) (fun i r hi=>⟨r.map V.pv,?_,by simp,fun j c hj=>⟨.pv c,by simp[hj],fun v hc hvv=>?_⟩⟩) hlent,rfl⟩
     .simp only[hb,aI,rowsOf]; exact kH hi
     .have hk:a.k≠0:=fun hk=>by
       have:=(hr.aq id a ho1).2.2.2 hk
       have hsz:a.size=0:=by rw[← aL.bH,this]; rfl
       simp[aL.size,hb]at hsz
       rw[hsz]at hi; simp at hi
      have hperm:=oL hb (hr.ar id a ho1 hk).2.2.2.2 hi hj
      cases hvv with
      |pv _ _ hq=>exact⟨hq.gf hperm hw,kG hperm,fun _=>hperm⟩
    |inr rows=>
     simp only[hb,aI]at hh
     cases hm:aA (aA (aV h d)) ((rows.drop off).take len)with
     |none=>simp[hm]at hh
     |some l=>
      simp[hm]at hh
      subst hh
      refine⟨rK hr hv ho (by simp only[hb,aI,rowsOf]; exact bQ hm) (fun i r hi=>?_) hlent,rfl⟩
      obtain⟨q,k1,k2,k3⟩:=xW hm hi
      refine⟨q,by simp only[hb,aI,rowsOf]; exact k1,k2,fun j c hj=>?_⟩
      obtain⟨x,k4,k5⟩:=k3 j c hj
      refine⟨x,k4,fun v hc hvv=>?_⟩
      obtain⟨i1,i2⟩:=ih x c v k5 hvv (fun _=>hown')
      exact⟨i1,kG i2,fun _=>i2⟩
  |_=>exact flat (d+1) _ p v rfl hh hv
end Go.Pv
namespace Go.Pv
variable {P:Program} {N M:Nat→Nat} {W:Nat→Prop} {L L':Lx} {e e':bn} {h:af} {w w':World} {g:bM→V} {ρ:Operand→Value}
def Ho (N:Nat→Nat) (L:Lx) (w:World) (k:Nat) (rows:List (List PV)) (b:Nat) (v:Value):Prop:=
 ∃A c ad cap,v=.slice A rows.length c∧k≠0∧rows.length≤c∧c≤cap∧(0<c→A=some ⟨b,ad,none⟩)∧Block w b (ad+cap*k)∧(∀r∈rows,r.length=k)∧(∀t,¬L t b)∧
  ∀(i j:Nat) (c:PV),fx rows i j=some c→c.perm=true∧∃u,w.cell? ⟨b,ad+(i*k+j),none⟩=some u∧dL N L w c u
inductive xY (N:Nat→Nat) (L:Lx) (w:World):Option Nat→List PV→List Value→Prop
 |plain (ps:List PV) (vs:List Value) (hl:vs.length=ps.length) (hv:∀(j:Nat) (p:PV),ps[j]?=some p→∃v,vs[j]?=some v∧dL N L w p v):xY N L w none ps vs
 |take (b k:Nat) (rows:List (List PV)) (v:Value) (ps:List PV) (vs:List Value) (hf:Ho N L w k rows b v) (hl:vs.length=ps.length) (hv:∀(j:Nat) (p:PV),ps[j]?=some p→∃v,vs[j]?=some v∧dL N L w p v):
   xY N L w (some b) (.fr k rows::ps) (v::vs)
inductive CR (N:Nat→Nat) (L:Lx) (w:World):PV→Value→List Nat→Prop
 |bO (p:PV) (v:Value) (hp:p.perm=true) (hv:dL N L w p v):CR N L w p v []
 |fresh (k:Nat) (rows:List (List PV)) (b:Nat) (v:Value) (hf:Ho N L w k rows b v):CR N L w (.fr k rows) v [b]
 |ro (cs:List PV) (v:Value) (hp:∀c∈cs,c.perm=true) (hv:dL N L w (.ro 0 cs) v):CR N L w (.ro 0 cs) v []
inductive DE (N:Nat→Nat) (L:Lx) (w:World):List PV→List Value→List Nat→Prop
 |nil:DE N L w [] [] []
 |cons (p:PV) (v:Value) (bs:List Nat) (ps:List PV) (vs:List Value) (cs:List Nat) (h1:CR N L w p v bs) (h2:DE N L w ps vs cs):DE N L w (p::ps) (v::vs) (bs++cs)
inductive RR (N:Nat→Nat) (L:Lx) (w:World):PV→Value→List Nat→Prop
 |cell (p:PV) (v:Value) (bs:List Nat) (h:CR N L w p v bs):RR N L w p v bs
 |agg (cs:List PV) (arr:Array Value) (bs:List Nat) (h:DE N L w cs arr.toList bs):RR N L w (.agg cs) (.agg arr) bs
inductive DF (N:Nat→Nat) (L:Lx) (w:World):List PV→List Value→List Nat→Prop
 |nil:DF N L w [] [] []
 |cons (p:PV) (v:Value) (bs:List Nat) (ps:List PV) (vs:List Value) (cs:List Nat) (h1:RR N L w p v bs) (h2:DF N L w ps vs cs):DF N L w (p::ps) (v::vs) (bs++cs)
def sC:List Value→Value
 |[v]=>v
 |vs=>.tuple vs.toArray
def Wc (w:World) (T:Option Nat) (b:Nat):Prop:=w.heap.size≤b∨T=some b
def DU (N:Nat→Nat) (L:Lx) (w:World) (T:Option Nat) (rs:List PV) (v:Value) (w1:World):Prop:=
 ∃(L1:Lx) (bs:List Nat) (vals:List Value),Fr (Wc w T) w w1∧(∀t b,L t b→L1 t b)∧(∀t b,L1 t b→L t b∨(t=0∧Wc w T b))∧(∀t b,L1 t b→b<w1.heap.size)∧
  DF N L1 w1 rs vals bs∧bs.Nodup∧(∀b∈bs,Wc w T b)∧v=sC vals
def dI (P:Program) (f:FuncId) (args:Array Value) (w:World) (R:Value→World→Prop):Prop:=
 (∃v w',(callFunc f args).run P w=.ok (.value v) w'∧R v w')∨
 ((callFunc f args).run P w=.ok (.enter f args) w∧Calls P f args w fun|.returned v,w'=>R v w'|_,_=>False)
theorem dI.mono {f:FuncId} {args:Array Value} {R R':Value→World→Prop} (hc:dI P f args w R) (hr:∀v w',R v w'→R' v w'):dI P f args w R':=by
 rcases hc with⟨v,w',h1,h2⟩|⟨h1,h2⟩
 .exact .inl ⟨v,w',h1,hr _ _ h2⟩
 .exact .inr ⟨h1,h2.mono fun en w' hh=>by cases en<;>first|exact hr _ _ hh|exact hh⟩
def uW (P:Program) (N:Nat→Nat) (f:Nat) (ps rs:List PV):Prop:=
 ∀(L:Lx) (w:World) (T:Option Nat) (args:Array Value),(∀t b,L t b→b<w.heap.size)→sh N L w→xY N L w T ps args.toList→dI P (N f) args w (DU N L w T rs)
def ep (P:Program) (N:Nat→Nat) (Pr:br):Prop:=
 ∀fn pr,Pr fn=some pr→∀(L:Lx) (e:bn) (W:Nat→Prop) (h:af) (w:World) (vs:List V) (args:Array Value) (v:V) (tn:Tn),pr vs h=some (v,tn)→HR N L e W h w→
  args.size=vs.length→(∀(j:Nat) (x:V),vs[j]?=some x→VR N L e w x (args.getD j undef))→
  dI P (N fn) args w fun v' w'=>∃L' e',Nx N W L e w L' e' (tn.apply h) w'∧VR N L' e' w' v v'
theorem HR.DV (hr:HR N L e W h w) (T:Nat→Prop) (hT:∀b,T b→¬owned e b∧(∀t,¬L t b)∧∀id,id<e.nm→e.mp id≠b) (hs:∀b,b<w.heap.size→¬T b→w'.heap[b]?=w.heap[b]?) (hz:w.heap.size≤w'.heap.size)
  (hsub:∀t b,L t b→L' t b) (hnew:∀t b,L' t b→L t b∨((T b∨w.heap.size≤b)∧b<w'.heap.size)):HR N L' e W h w'∧Ext L e w L' e w':=by
 have hlk:∀t b,L t b→w'.heap[b]?=w.heap[b]?:=fun t b hb=>hs b (hr.nG _ _ hb) (fun ht=>(hT b ht).2.1 t hb)
 have hbx:∀s,e.sl s→w'.heap[e.bx s]?=w.heap[e.bx s]?:=fun s hs'=>hs _ (hr.lj hs') (fun ht=>(hT _ ht).1 (.inl ⟨s,hs',rfl⟩))
 have har:∀id,id<e.na→e.ak id≠0→w'.heap[e.ar id]?=w.heap[e.ar id]?:=fun id hi hk=>hs _ (hr.ir hi hk) (fun ht=>(hT _ ht).1 (.inr ⟨id,hi,hk,rfl⟩))
 have hmp:∀id,id<e.nm→w'.heap[e.mp id]?=w.heap[e.mp id]?:=fun id hi=>hs _ (hr.xF hi) (fun ht=>(hT _ ht).2.2 id hi rfl)
 have hx:Ext L e w L' e w':={ Ext.refl L e w with sub:=hsub,kept:=fun t b hb=>hlk t b hb }
 have hnl:∀b,b<w.heap.size→¬T b→(∀t,¬L t b)→∀t,¬L' t b:=fun b hb ht hl t hl'=>by
  rcases hnew t b hl' with h1|⟨h1|h1,_⟩
  .exact hl t h1
  .exact ht h1
  .omega
 refine⟨⟨hr.sl,fun s cs hc=>?_,hr.na,hr.aq,fun id a ha hk=>?_,hr.nm,fun id m hm=>?_,fun s hs'=>?_,fun id hi hk=>?_,fun id hi=>?_,hr.zM,hr.wk,hr.wm,hr.zP,fun t b hb=>?_,fun b hb=>hr.wide b (by omega),hr.zN.mono hx.sub hx.kept⟩,hx⟩
 .obtain⟨h1,h2⟩:=hr.bx s cs hc
  have:=hbx s ((hr.sl s).2 (by rw[hc]; rfl))
  exact⟨h1.same this,h2.mono hx this⟩
 .obtain⟨h1,h2,h3,h4,h5⟩:=hr.ar id a ha hk
  have:=har id (by rw[hr.na]; exact(Vy.1 ha).1) (by rw[(hr.aq id a ha).2.1]; exact hk)
  exact⟨h1,h2.same this,h3,fun i r hi=>(h4 i r hi).mono hx this,h5⟩
 .obtain⟨es,cl,h1,h2,h3⟩:=hr.mp id m hm
  have:=hmp id (by rw[hr.nm]; exact(Vy.1 hm).1)
  refine⟨es,cl,this.trans h1,h2,fun i p hp=>?_⟩
  obtain⟨g1,x,g2,g3⟩:=h3 i p hp
  exact⟨g1,x,g2,g3.mono hx⟩
 .exact⟨(hr.uv s hs').1,hnl _ (hr.lj hs') (fun ht=>(hT _ ht).1 (.inl ⟨s,hs',rfl⟩)) (hr.uv s hs').2⟩
 .exact⟨(hr.nF id hi hk).1,hnl _ (hr.ir hi hk) (fun ht=>(hT _ ht).1 (.inr ⟨id,hi,hk,rfl⟩)) (hr.nF id hi hk).2⟩
 .exact⟨(hr.wj id hi).1,hnl _ (hr.xF hi) (fun ht=>(hT _ ht).2.2 id hi rfl) (hr.wj id hi).2⟩
 .rcases hnew _ _ hb with hb|hb
  .exact Wq (hr.nG _ _ hb) hz
  .exact hb.2
theorem Ho.gf {k b:Nat} {rows:List (List PV)} {v:Value} (hf:Ho N L w k rows b v) (hL:∀b,L 0 b→L' 0 b) (hb:∀t,¬L' t b):Ho N L' w k rows b v:=by
 obtain⟨A,c,ad,cap,h1,h2,h3,h4,h5,h6,h7,h8,h9⟩:=hf
 refine⟨A,c,ad,cap,h1,h2,h3,h4,h5,h6,h7,hb,fun i j x hx=>?_⟩
 obtain⟨g1,u,g2,g3⟩:=h9 i j x hx
 exact⟨g1,u,g2,g3.gf g1 (fun b hb=>⟨hL b hb,rfl⟩)⟩
theorem Ho.own (hr:HR N L e W h w) {k b:Nat} {rows:List (List PV)} {v:Value} (hf:Ho N L w k rows b v) (hW:W b) (hno:¬owned e b):
  ∃e',Nx N W L e w L e' { h with ar:=h.ar++[⟨0,k,.inl rows⟩] } w∧VR N L e' w (.own h.ar.length 0 0 rows.length) v∧(∀c,owned e' c→owned e c∨c=b):=by
 obtain⟨A,c,ad,cap,rfl,h2,h3,h4,h5,h6,h7,h8,h9⟩:=hf
 have hnx:=Nx.wx (b:=b) (d:=ad) (c:=cap) hr ⟨0,k,.inl rows⟩ hW h8 (fun s hs hb=>hno (.inl ⟨s,hs,hb⟩)) (fun id hi hk hb=>hno (.inr ⟨id,hi,hk,hb⟩)) h2 (by simp[aL.size]; omega) h6
  (fun r hr'=>by
   obtain⟨q,hq,rfl⟩:=VP.1 hr'
   simpa using h7 q hq)
  (fun i r hi j x hj=>by
   simp only[aL.rows]at hi
   rw[VF]at hi
   cases hri:rows[i]? with
   |none=>simp[hri]at hi
   |some q=>
    simp[hri]at hi
    subst hi
    obtain⟨p,hp,rfl⟩:=dA hj
    obtain⟨g1,u,g2,g3⟩:=h9 i j p (by simp[fx,hri,hp])
    exact⟨PV.eH g1,u,by rw[Wx]; exact g2,.pv _ _ g3⟩)
  (fun r hr' x hx=>by
   obtain⟨i,hi⟩:=VD.1 hr'
   obtain⟨j,hj⟩:=VD.1 hx
   exact(h9 i j x (by simp[fx,hi,hj])).1)
 refine⟨_,hnx,?_,fun c hc=>?_⟩
 .refine .own h.ar.length 0 0 rows.length A c (fun hp=>by rw[h5 (by omega)]; rfl) (by rw[← hr.na]; exact Nat.lt_succ_self _) (V4 _) (fun _=>?_)
  rw[← hr.na]
  simp only[bn.dv,aM,Nat.zero_mul,Nat.add_zero,Nat.zero_add]
  exact⟨by simp[aL.size],h3,h4,h5⟩
 .rcases hc with⟨s,hs,hb⟩|⟨id,hi,hk,hb⟩
  .exact .inl (.inl ⟨s,hs,hb⟩)
  .change id<e.na+1 at hi
   rcases VG id e.na with h1|h1
   .simp only[bn.dv,aj _ _ (bP h1)]at hk hb
    exact .inl (.inr ⟨id,h1,hk,hb⟩)
   .obtain rfl:id=e.na:=by omega
    simp only[bn.dv,aM]at hb
    exact .inr hb.symm
structure mZ (N:Nat→Nat) (W:Nat→Prop) (L:Lx) (e:bn) (h:af) (w:World) (as:List aL) (bs:List Nat) (e':bn):Prop where
 nx:Nx N W L e w L e' { h with ar:=h.ar++as } w
 own:∀c,owned e' c→owned e c∨c∈bs
theorem mZ.nil (hr:HR N L e W h w):mZ N W L e h w [] [] e:=by
 refine⟨?_,fun c hc=>.inl hc⟩
 have:({ h with ar:=h.ar++[] }:af)=h:=by cases h; simp
 rw[this]
 exact Nx.refl hr
theorem mZ.trans {as as':List aL} {bs bs':List Nat} {e1 e2:bn} (h1:mZ N W L e h w as bs e1) (h2:mZ N W L e1 { h with ar:=h.ar++as } w as' bs' e2):mZ N W L e h w (as++as') (bs++bs') e2:=by
 refine⟨?_,fun c hc=>?_⟩
 .have:=h1.nx.trans h2.nx
  simpa [List.append_assoc]using this
 .rcases h2.own c hc with h3|h3
  .rcases h1.own c h3 with h4|h4
   .exact .inl h4
   .exact .inr (Wh _ h4)
  .exact .inr (Wn _ h3)
def mC:PV→List aL
 |.fr k rows=>[⟨0,k,.inl rows⟩]
 |_=>[]
def Bx (n:Nat):PV→V
 |.fr _ rows=>.own n 0 0 rows.length
 |p=>.pv p
theorem dL.UE {cs:List PV} {v:Value} (hp:∀c∈cs,c.perm=true) (hv:dL N L w (.ro 0 cs) v) (hL:∀b,L 0 b→L' 0 b∧w'.heap[b]?=w.heap[b]?):dL N L' w' (.ro 0 cs) v:=by
 cases hv with
 |ro _ _ b off vs ha hcell hvv h1=>
  refine .ro 0 cs b off vs (fun h=>?_) (fun j c hc=>?_) (fun j c hc=>(hvv j c hc).gf (hp c (Vz hc)) hL) h1
  .rcases ha h with hl|⟨hl,_⟩
   .exact .inl (hL _ hl).1
   .exact absurd rfl hl
  .have hlen:0<cs.length:=Nat.lt_of_le_of_lt (V4 _) (Vy.1 hc).1
   have hs:w'.heap[b]?=w.heap[b]?:=by
    rcases ha hlen with hl|⟨hl,_⟩
    .exact(hL _ hl).2
    .exact absurd rfl hl
   rw[iO hs]
   exact hcell j c hc
theorem uX (hr:HR N L e W h w) {p:PV} {v:Value} {bs:List Nat} (hc:CR N L w p v bs) (hb:∀b∈bs,W b∧¬owned e b):
  ∃e',mZ N W L e h w (mC p) bs e'∧VR N L e' w (Bx h.ar.length p) v:=by
 cases hc with
 |bO _ _ hp hv=>
  refine⟨e,?_,?_⟩
  .cases p<;>first|(simp[PV.perm]at hp; done)|exact mZ.nil hr
  .cases p<;>first|(simp[PV.perm]at hp; done)|exact .pv _ _ hv
 |fresh k rows b _ hf=>
  obtain⟨h1,h2⟩:=hb b (by simp)
  obtain⟨e',g1,g2,g3⟩:=hf.own hr h1 h2
  exact⟨e',⟨g1,fun c hc=>by rcases g3 c hc with h3|h3<;>simp[h3]⟩,g2⟩
 |ro cs _ hp hv=>exact⟨e,mZ.nil hr,.pv _ _ hv⟩
theorem nO (n:Nat) (p:PV) (r:List PV):dw n (p::r)=(Bx n p::(dw (n+(mC p).length) r).1,mC p++(dw (n+(mC p).length) r).2):=by
 cases p<;>simp[dw,mC,Bx]
theorem mZ.nodup {as:List aL} {bs cs:List Nat} {e1:bn} (ht:mZ N W L e h w as bs e1) (hn:(bs++cs).Nodup) (hb:∀b∈bs++cs,W b∧¬owned e b):∀b∈cs,W b∧¬owned e1 b:=by
 intro b hbc
 refine⟨(hb b (Wn _ hbc)).1,fun ho=>?_⟩
 rcases ht.own b ho with h1|h1
 .exact(hb b (Wn _ hbc)).2 h1
 .exact(Xg.1 hn).2.2 b h1 b hbc rfl
theorem Ad:∀{ps:List PV} {vs:List Value} {bs:List Nat} {e:bn} {h:af},DE N L w ps vs bs→HR N L e W h w→bs.Nodup→(∀b∈bs,W b∧¬owned e b)→
  ∃e',mZ N W L e h w (dw h.ar.length ps).2 bs e'∧vs.length=(dw h.ar.length ps).1.length∧∀(j:Nat) (x:V),(dw h.ar.length ps).1[j]?=some x→∃v,vs[j]?=some v∧VR N L e' w x v:=by
 intro ps vs bs e h hc
 induction hc generalizing e h with
 |nil=>intro hr _ _; exact⟨e,mZ.nil hr,rfl,fun j x hj=>by simp[dw]at hj⟩
 |cons p v b1 ps vs b2 h1 h2 ih=>
  intro hr hn hb
  obtain⟨e1,t1,v1⟩:=uX hr h1 (fun b hbb=>hb b (Wh _ hbb))
  obtain⟨e2,t2,l2,v2⟩:=ih t1.nx.hr (Xg.1 hn).2.1 (t1.nodup hn hb)
  rw[nO]
  simp only[List.length_append]at t2 l2 v2
  refine⟨e2,t1.trans t2,by simp[l2],fun j x hj=>?_⟩
  match j,hj with
  |0,hj=>simp at hj; subst hj; exact⟨v,rfl,v1.mono t2.nx.ext⟩
  |j+1,hj=>simpa using v2 j x (by simpa using hj)
theorem DW (hr:HR N L e W h w) {p:PV} {v:Value} {bs:List Nat} (hc:RR N L w p v bs) (hn:bs.Nodup) (hb:∀b∈bs,W b∧¬owned e b):
  ∃e',mZ N W L e h w (eU h.ar.length p).2 bs e'∧VR N L e' w (eU h.ar.length p).1 v:=by
 cases hc with
 |cell _ _ _ hc=>
  obtain⟨e',h1,h2⟩:=uX hr hc hb
  refine⟨e',?_,?_⟩
  .cases p with
   |agg cs=>cases hc with|bO _ _ hp _=>simp[PV.perm]at hp
   |_=>exact h1
  .cases p with
   |agg cs=>cases hc with|bO _ _ hp _=>simp[PV.perm]at hp
   |_=>exact h2
 |agg cs arr _ hc=>
  obtain⟨e',h1,h2,h3⟩:=Ad hc hr hn hb
  refine⟨e',h1,.agg _ _ (by simpa using h2) (fun j x hj=>?_)⟩
  obtain⟨v,h4,h5⟩:=h3 j x hj
  rw[cc h4]
  exact h5
theorem kI (n:Nat) (p:PV) (r:List PV):bF n (p::r)=((eU n p).1::(bF (n+(eU n p).2.length) r).1,(eU n p).2++(bF (n+(eU n p).2.length) r).2):=by
 simp[bF]
theorem DX:∀{ps:List PV} {vs:List Value} {bs:List Nat} {e:bn} {h:af},DF N L w ps vs bs→HR N L e W h w→bs.Nodup→(∀b∈bs,W b∧¬owned e b)→
  ∃e',mZ N W L e h w (bF h.ar.length ps).2 bs e'∧vs.length=(bF h.ar.length ps).1.length∧∀(j:Nat) (x:V),(bF h.ar.length ps).1[j]?=some x→∃v,vs[j]?=some v∧VR N L e' w x v:=by
 intro ps vs bs e h hc
 induction hc generalizing e h with
 |nil=>intro hr _ _; exact⟨e,mZ.nil hr,rfl,fun j x hj=>by simp[bF]at hj⟩
 |cons p v b1 ps vs b2 h1 h2 ih=>
  intro hr hn hb
  obtain⟨e1,t1,v1⟩:=DW hr h1 (Xg.1 hn).1 (fun b hbb=>hb b (Wh _ hbb))
  obtain⟨e2,t2,l2,v2⟩:=ih t1.nx.hr (Xg.1 hn).2.1 (t1.nodup hn hb)
  rw[kI]
  simp only[List.length_append]at t2 l2 v2
  refine⟨e2,t1.trans t2,by simp[l2],fun j x hj=>?_⟩
  match j,hj with
  |0,hj=>simp at hj; subst hj; exact⟨v,rfl,v1.mono t2.nx.ext⟩
  |j+1,hj=>simpa using v2 j x (by simpa using hj)
theorem uY {ws:List V} {vals:List Value} (hl:vals.length=ws.length) (hv:∀(j:Nat) (x:V),ws[j]?=some x→∃v,vals[j]?=some v∧VR N L e w x v):VR N L e w (eP ws) (sC vals):=by
 have gen:VR N L e w (.dH ws) (.tuple vals.toArray):=.dH _ _ (by simpa using hl) (fun j x hj=>by
  obtain⟨v,h1,h2⟩:=hv j x hj
  rw[cc (by simpa using h1)]
  exact h2)
 match ws,vals,hl with
 |[],[],_=>exact gen
 |[x],[v],_=>
  obtain⟨v',h1,h2⟩:=hv 0 x rfl
  simp at h1
  subst h1
  exact h2
 |_::_::_,_::_::_,_=>exact gen
end Go.Pv
namespace Go.Pv
variable {P:Program} {N M:Nat→Nat} {W:Nat→Prop} {L L':Lx} {e e':bn} {h:af} {w w':World} {g:bM→V} {ρ:Operand→Value}
theorem CR.gf {p:PV} {v:Value} {bs:List Nat} (hc:CR N L w p v bs) (hL:∀b,L 0 b→L' 0 b) (hb:∀b∈bs,∀t,¬L' t b):CR N L' w p v bs:=by
 cases hc with
 |bO _ _ hp hv=>exact .bO _ _ hp (hv.gf hp (fun b hb=>⟨hL b hb,rfl⟩))
 |ro cs _ hp hv=>exact .ro cs _ hp (hv.UE hp (fun b hb=>⟨hL b hb,rfl⟩))
 |fresh k rows b _ hf=>exact .fresh k rows b _ (hf.gf hL (hb b (by simp)))
theorem DE.gf {ps:List PV} {vs:List Value} {bs:List Nat} (hc:DE N L w ps vs bs) (hL:∀b,L 0 b→L' 0 b) (hb:∀b∈bs,∀t,¬L' t b):DE N L' w ps vs bs:=by
 induction hc with
 |nil=>exact .nil
 |cons p v b1 ps vs b2 h1 h2 ih=>exact .cons p v b1 ps vs b2 (h1.gf hL (fun b hbb=>hb b (Wh _ hbb))) (ih (fun b hbb=>hb b (Wn _ hbb)))
theorem RR.gf {p:PV} {v:Value} {bs:List Nat} (hc:RR N L w p v bs) (hL:∀b,L 0 b→L' 0 b) (hb:∀b∈bs,∀t,¬L' t b):RR N L' w p v bs:=by
 cases hc with
 |cell _ _ _ hc=>exact .cell _ _ _ (hc.gf hL hb)
 |agg cs arr _ hc=>exact .agg _ _ _ (hc.gf hL hb)
theorem DF.gf {ps:List PV} {vs:List Value} {bs:List Nat} (hc:DF N L w ps vs bs) (hL:∀b,L 0 b→L' 0 b) (hb:∀b∈bs,∀t,¬L' t b):DF N L' w ps vs bs:=by
 induction hc with
 |nil=>exact .nil
 |cons p v b1 ps vs b2 h1 h2 ih=>exact .cons p v b1 ps vs b2 (h1.gf hL (fun b hbb=>hb b (Wh _ hbb))) (ih (fun b hbb=>hb b (Wn _ hbb)))
structure Handed (N:Nat→Nat) (W:Nat→Prop) (L:Lx) (e:bn) (h:af) (w:World) (T:Option Nat) (h1:af) (e1:bn):Prop where
 nx:Nx N W L e w L e1 h1 w
 len:h1.ar.length=h.ar.length
 T:∀b,T=some b→W b∧¬owned e1 b∧(∀t,¬L t b)∧(∀id,id<e1.nm→e1.mp id≠b)∧b<w.heap.size
theorem pZ (hr:HR N L e W h w):∀{vs:List V} {args:List Value} {ps:List PV},args.length=vs.length→(∀(j:Nat) (x:V),vs[j]?=some x→∃v,args[j]?=some v∧VR N L e w x v)→aA (cM h) vs=some ps→
  args.length=ps.length∧∀(j:Nat) (p:PV),ps[j]?=some p→∃v,args[j]?=some v∧dL N (L.cM e) w p v:=by
 intro vs args ps hl hv hm
 refine⟨by rw[hl,bQ hm],fun j p hj=>?_⟩
 obtain⟨x,h1,h2⟩:=bC hm j p hj
 obtain⟨v,h3,h4⟩:=hv j x h1
 exact⟨v,h3,Ac hr h2 h4⟩
theorem Ae (hr:HR N L e W h w) {x:V} {p:PV} {id:Nat} {a':aL} {v:Value} (hh:cw h x=some (p,some (id,a'))) (hv:VR N L e w x v):
  ∃(k:Nat) (rows:List (List PV)) (b:Nat) (e1:bn),p=.fr k rows∧Handed N W L e h w (some b) { h with ar:=h.ar.set id a' } e1∧Ho N (L.cM e1) w k rows b v:=by
 unfold cw at hh
 split at hh
 .rename_i id0 aq len
  cases ho:aF h id0 aq with
  |none=>simp[ho]at hh
  |some a=>
   simp only[ho]at hh
   split at hh<;>first|(cases hh; done)|skip
   rename_i hc
   cases hb:a.body with
   |inr l=>simp[hb]at hh
   |inl rows=>
    simp[hb]at hh
    obtain⟨rfl,rfl,rfl⟩:=hh
    obtain⟨ho1,ho2⟩:=bB ho
    obtain⟨v1,v2,v3,v4⟩:=hr.aq id0 a ho1
    obtain⟨g1,g2,g3,g4,g5⟩:=hr.ar id0 a ho1 hc.2
    have hid:id0<e.na:=by rw[hr.na]; exact(Vy.1 ho1).1
    have hak:e.ak id0≠0:=by rw[v2]; exact hc.2
    have hnx:=Nx.F1 (a:=⟨aq+1,0,.inl []⟩) hr ho1 (by simp; omega) rfl rfl
    have hno:¬owned (e.bA id0 (e.ar id0) (e.ad id0) (e.cap id0) ⟨aq+1,0,.inl []⟩) (e.ar id0):=by
     rintro (⟨s,hs,hbq⟩|⟨j,hj,hk,hbq⟩)
     .exact hr.wk s id0 hs hid hak hbq
     .by_cases hji:j=id0
      .subst hji; simp[bn.bA,aM]at hk
      .simp only[bn.bA,aj _ _ hji]at hk hbq
       exact hji (hr.wm j id0 hj hid hk hak hbq)
    have hL:=(hr.nF id0 hid hak).2
    refine⟨a.k,rows,e.ar id0,_,rfl,⟨hnx,by simp,fun b hbb=>?_⟩,?_⟩
    .injection hbb with hbb
     subst hbb
     refine⟨(hr.nF id0 hid hak).1,hno,hL,fun j hj=>?_,hr.ir hid hak⟩
     obtain⟨m,hm⟩:=hr.zS (id:=j) hj
     obtain⟨es,cl,k1,_⟩:=hr.mp j m hm
     obtain⟨arr,ty,k2,_⟩:=g2.out
     exact fy k1 k2
    .obtain⟨A,cap,rfl⟩:=rJ hv
     cases hv with
     |own _ _ _ _ _ _ h0 h1 h2 h3=>
      obtain⟨q1,q2,q3,q4⟩:=h3 (by omega)
      have hsz:rows.length=len:=by rw[← hc.1]; simp[aL.size,hb]
      simp only[Nat.zero_mul,Nat.add_zero,Nat.zero_add]at q3 q4
      have hrows:a.rows=rows.map (·.map V.pv):=by simp[aL.rows,hb]
      refine⟨A,cap,e.ad id0,e.cap id0,by rw[hsz],hc.2,by omega,q3,q4,g2,fun r hr'=>?_,fun t hlt=>?_,fun i j c hcc=>?_⟩
      .have:=g3 (r.map V.pv) (by rw[hrows]; exact VP.2 ⟨r,hr',rfl⟩)
       simpa using this
      .rcases hlt with hlt|⟨_,hlt⟩
       .exact hL t hlt
       .exact hno hlt
      .unfold fx at hcc
       cases hi:rows[i]? with
       |none=>simp[hi]at hcc
       |some r=>
        simp[hi]at hcc
        obtain⟨_,u,k1,k2⟩:=g4 i (r.map V.pv) (by rw[hrows]; exact kH hi) j (.pv c) (by simp[hcc])
        have hperm:c.perm=true:=by
         rw[hb]at g5
         exact g5 r (Vz hi) c (Vz hcc)
        refine⟨hperm,u,by rw[← Wx]; exact k1,?_⟩
        cases k2 with
        |pv _ _ hq=>exact hq.cM
 .cases hh
 .cases hh
theorem Il (hr:HR N L e W h w) {vs:List V} {args:List Value} (hl:args.length=vs.length) (hv:∀(j:Nat) (x:V),vs[j]?=some x→∃v,args[j]?=some v∧VR N L e w x v) {tk:Bool} {ps:List PV} {a:Option (Nat×aL)}
  (hh:cA h tk vs=some (ps,a)):∃T e1,Handed N W L e h w T (Tn.apply { ar:=a } h) e1∧xY N (L.cM e1) w T ps args:=by
 have none0:Handed N W L e h w none (Tn.apply { ar:=none } h) e:=by
  have h0:Tn.apply { ar:=none } h=h:=Tn.aO h none none none false false
  rw[h0]
  exact⟨Nx.refl hr,rfl,fun b hb=>by cases hb⟩
 unfold cA at hh
 split at hh
 .split at hh<;>first|(cases hh; done)|skip
  .rename_i x r
   obtain⟨v0,av,rfl⟩:∃v0 av,args=v0::av:=by
    match args,hl with
    |v0::av,_=>exact⟨v0,av,rfl⟩
   obtain⟨v0',hv0,hx⟩:=hv 0 x rfl
   simp at hv0
   subst hv0
   have hvr:∀(j:Nat) (y:V),r[j]?=some y→∃v,av[j]?=some v∧VR N L e w y v:=fun j y hj=>by simpa using hv (j+1) y (by simpa using hj)
   have hlr:av.length=r.length:=by simpa using hl
   split at hh<;>first|(cases hh; done)|skip
   .rename_i p hlt
    split at hh<;>first|(cases hh; done)|skip
    rename_i l hm
    injection hh with hh; injection hh with e1 e2; subst e1; subst e2
    obtain⟨k1,k2⟩:=pZ hr hlr hvr hm
    refine⟨none,e,none0,.plain _ _ (by simp[k1]) (fun j q hj=>?_)⟩
    match j,hj with
    |0,hj=>
     simp at hj
     subst hj
     refine⟨v0,rfl,?_⟩
     unfold cw at hlt
     split at hlt
     .split at hlt<;>first|(cases hlt; done)|skip
      split at hlt<;>first|(cases hlt; done)|skip
      split at hlt<;>simp at hlt
     .injection hlt with hlt; injection hlt with e1 _; subst e1
      cases hx with
      |tl _ A hq=>exact hq.cM
     .cases hlt
    |j+1,hj=>simpa using k2 j q (by simpa using hj)
   .rename_i p id a' hlt
    split at hh<;>first|(cases hh; done)|skip
    rename_i l hm
    injection hh with hh; injection hh with e1 e2; subst e1; subst e2
    obtain⟨k,rows,b,e1,rfl,h1,h2⟩:=Ae hr hlt hx
    obtain⟨k1,k2⟩:=pZ h1.nx.hr hlr (fun j y hj=>by
     obtain⟨v,q1,q2⟩:=hvr j y hj
     exact⟨v,q1,q2.mono h1.nx.ext⟩) hm
    refine⟨some b,e1,?_,.take b k rows v0 l av h2 k1 k2⟩
    have:Tn.apply { ar:=some (id,a') } h={ h with ar:=h.ar.set id a' }:=by rw[Tn.cO]
    rw[this]
    exact h1
 .split at hh<;>first|(cases hh; done)|skip
  rename_i l hm
  injection hh with hh; injection hh with e1 e2; subst e1; subst e2
  obtain⟨k1,k2⟩:=pZ hr hl hv hm
  exact⟨none,e,none0,.plain _ _ k1 k2⟩
theorem xZ (hr:HR N L e W h w) {b:Nat} (ho:owned e b):b<w.heap.size:=by
 rcases ho with⟨s,hs,rfl⟩|⟨id,hi,hk,rfl⟩
 .exact hr.lj hs
 .exact hr.ir hi hk
theorem Af (hr:HR N L e W h w) {vs:List V} {args:Array Value} (hl:args.size=vs.length) (hv:∀(j:Nat) (x:V),vs[j]?=some x→VR N L e w x (args.getD j undef)) {tk:Bool} {ps:List PV} {a:Option (Nat×aL)}
  (hh:cA h tk vs=some (ps,a)) {f:Nat} {rs:List PV} (hF:uW P N f ps rs) (r:Bool) (base:Nat):
  dI P (N f) args w fun v' w'=>∃L' e',Nx N W L e w L' e' (Tn.apply { ar:=a,push:=(bF h.ar.length rs).2,eX:=r,base:=base } h) w'∧VR N L' e' w' (eP (bF h.ar.length rs).1) v':=by
 obtain⟨T,e1,hd,hargs⟩:=Il hr (args:=args.toList) (by simpa using hl) (fun j x hj=>by
  have hlt:j<args.size:=by rw[hl]; exact(Vy.1 hj).1
  exact⟨args.getD j undef,by rw[VU]; exact bl hlt,hv j x hj⟩) hh
 have hr1:=hd.nx.hr
 have hlsz:∀t b,(L.cM e1) t b→b<w.heap.size:=fun t b hb=>by
  rcases hb with hb|⟨_,hb⟩
  .exact hr1.nG _ _ hb
  .exact xZ hr1 hb
 refine(hF (L.cM e1) w T args hlsz (hr1.zN.mono (fun _ _ hb=>.inl hb) fun _ _ _=>rfl) hargs).mono fun v' w1 hpost=>?_
 obtain⟨L1,bs,vals,f1,f2,f3,f4,f5,f6,f7,rfl⟩:=hpost
 let L2:Lx:=fun t b=>L t b∨(t=0∧L1 0 b)
 have hWc:∀b,Wc w T b→W b∧¬owned e1 b∧∀t,¬L t b:=fun b hb=>by
  rcases hb with hb|hb
  .refine⟨hr1.wide b hb,fun ho=>?_,fun t hl=>?_⟩
   .have:=xZ hr1 ho; omega
   .have:=hr1.nG t b hl; omega
  .exact⟨(hd.T b hb).1,(hd.T b hb).2.1,(hd.T b hb).2.2.1⟩
 have hnew1:∀b,L1 0 b→L 0 b∨(Wc w T b∧b<w1.heap.size):=fun b hb=>by
  rcases f3 0 b hb with(h1|⟨h1,_⟩)|⟨_,h1⟩
  .exact .inl h1
  .cases h1
  .exact .inr ⟨h1,f4 0 b hb⟩
 obtain⟨q1,q2⟩:=hr1.DV (w':=w1) (L':=L2) (fun b=>T=some b) (fun b hb=>⟨(hd.T b hb).2.1,(hd.T b hb).2.2.1,(hd.T b hb).2.2.2.1⟩)
  (fun b hb hnt=>f1.kept b hb (fun hc=>hc.elim (fun hc=>absurd hb (by omega)) hnt)) f1.size (fun t b hb=>.inl hb)
  (fun t b hb=>by
   rcases hb with hb|⟨rfl,hb⟩
   .exact .inl hb
   .rcases hnew1 b hb with h1|⟨h1,h2⟩
    .exact .inl h1
    .rcases h1 with h1|h1
     .exact .inr ⟨.inr h1,h2⟩
     .exact .inr ⟨.inl h1,h2⟩)
 have hnx1:Nx N W L e1 w L2 e1 (Tn.apply { ar:=a } h) w1:=by
  refine⟨q1,q2,⟨f1.os,f1.tape,f1.output,f1.size,fun b hb hw=>f1.kept b hb (fun hc=>hw (hWc b hc).1),f1.drawn⟩,fun t b hb=>?_⟩
  rcases hb with hb|⟨rfl,hb⟩
  .exact .inl hb
  .rcases hnew1 b hb with h1|⟨h1,_⟩
   .exact .inl h1
   .exact .inr ⟨rfl,(hWc b h1).1⟩
 have hbsL:∀b∈bs,∀t,¬L2 t b:=by
  intro b hb t hl2
  have hfresh:∀{ps:List PV} {vs:List Value} {bs:List Nat},DF N L1 w1 ps vs bs→∀b∈bs,∀t,¬L1 t b:=by
   have hcr:∀{p:PV} {v:Value} {bs:List Nat},CR N L1 w1 p v bs→∀b∈bs,∀t,¬L1 t b:=by
    intro p v bs hc b hb
    cases hc with
    |bO=>cases hb
    |ro=>cases hb
    |fresh k rows b' _ hf=>
     simp at hb
     subst hb
     obtain⟨_,_,_,_,_,_,_,_,_,_,_,hnl,_⟩:=hf
     exact hnl
   have hcrs:∀{ps:List PV} {vs:List Value} {bs:List Nat},DE N L1 w1 ps vs bs→∀b∈bs,∀t,¬L1 t b:=by
    intro ps vs bs hc
    induction hc with
    |nil=>intro b hb; cases hb
    |cons p v b1 ps vs b2 h1 h2 ih=>
     intro b hb
     rcases Wm.1 hb with hb|hb
     .exact hcr h1 b hb
     .exact ih b hb
   intro ps vs bs hc
   induction hc with
   |nil=>intro b hb; cases hb
   |cons p v b1 ps vs b2 h1 h2 ih=>
    intro b hb
    rcases Wm.1 hb with hb|hb
    .cases h1 with
     |cell _ _ _ hc=>exact hcr hc b hb
     |agg _ _ _ hc=>exact hcrs hc b hb
    .exact ih b hb
  rcases hl2 with hl2|⟨rfl,hl2⟩
  .exact hfresh f5 b hb t (f2 t b (.inl hl2))
  .exact hfresh f5 b hb 0 hl2
 have hRR:=f5.gf (L':=L2) (fun b hb=>.inr ⟨rfl,hb⟩) hbsL
 obtain⟨e2,t1,t2,t3⟩:=DX (W:=W) hRR q1 f6 (fun b hb=>⟨(hWc b (f7 b hb)).1,(hWc b (f7 b hb)).2.1⟩)
 rw[hd.len]at t1 t2 t3
 refine⟨L2,e2,?_,uY t2 t3⟩
 have hchain:=(hd.nx.trans hnx1).trans t1.nx
 have hap:({ Tn.apply { ar:=a } h with ar:=(Tn.apply { ar:=a } h).ar++(bF h.ar.length rs).2 }:af)=Tn.apply { ar:=a,push:=(bF h.ar.length rs).2,eX:=r,base:=base } h:=by
  cases a with
  |none=>cases h; simp[Tn.apply]
  |some ia=>obtain⟨i,a⟩:=ia; cases h; simp[Tn.apply]
 rw[← hap]
 exact hchain
end Go.Pv
namespace Go.Pv
variable {P:Program} {N M:Nat→Nat} {pb:List Nat} {W:Nat→Prop} {L L':Lx} {e e':bn} {h:af} {w w':World} {g:bM→V} {ρ:Operand→Value}
theorem Nx.p4 (hr : HR N L e W h w) {id b d c : Nat} {a0 : aL} (a : aL) (h0 : h.ar[id]? = some a0)
    (hother : ∀ g,g < w.heap.size → w'.heap[g]? = w.heap[g]?) (hsz : w.heap.size ≤ w'.heap.size) (hfr : Fr W w w')
    (hv : a0.aq < a.aq) (hl : w.heap.size ≤ b)
    (hk1 : a.k ≠ 0) (hc : a.size ≤ c) (hb : Block w' b (d + c * a.k)) (hk : ∀ r ∈ a.rows,r.length = a.k)
    (hrows : ∀ (i : Nat) (r : List V),a.rows[i]? = some r → ∀ (j : Nat) (x : V),r[j]? = some x → x.calm = true ∧ ∃ v,w'.cell? ⟨b,d + i * a.k + j,none⟩ = some v ∧ VR N L e w x v) (hp : bU a.body) :
    Nx N W L e w L (e.bA id b d c a) { h with ar := h.ar.set id a } w' := by
  have hid : id < e.na := by rw [hr.na]; exact (Vy.1 h0).1
  obtain ⟨v1,v2,v3,_⟩ := hr.aq id a0 h0
  have hx : Ext L e w L (e.bA id b d c a) w' :=
    { Ext.refl L e w with
      kept := fun t g hg => hother g (hr.nG _ _ hg)
      sl := fun s hs => ⟨hs,rfl⟩,na := VI _
      av := fun j hj => by
        by_cases hji : j = id
        . subst hji
          simp only [bn.bA,aM]
          exact ⟨by omega,fun he => by omega⟩
        . exact ⟨Nat.le_of_eq (aj _ _ hji).symm,fun _ => ⟨aj _ _ hji,aj _ _ hji,aj _ _ hji,aj _ _ hji,aj _ _ hji⟩⟩ }
  have hWb : W b ∧ ∀ t,¬ L t b := ⟨hr.wide _ hl,fun t ht => by have := hr.nG _ _ ht; omega⟩
  refine ⟨⟨hr.sl,fun s cs hs => ?_,by simp [bn.bA,hr.na],fun j a' ha => ?_,fun j a' ha hk' => ?_,hr.nm,fun j m hm => ?_,hr.uv,fun j hj hk' => ?_,hr.wj,hr.zM,fun s j hs hj hk' => ?_,fun i j hi hj hki hkj heq => ?_,hr.zP,
    fun t g hg => by have := hr.nG t g hg; omega,fun g hg => hr.wide g (by omega),hr.zN.mono hx.sub hx.kept⟩,hx,hfr,fun _ _ hb => .inl hb⟩
  . obtain ⟨h1,h2⟩ := hr.bx s cs hs
    have := hother _ h1.lt
    exact ⟨h1.same this,h2.mono hx this⟩
  . rcases iy ha with ⟨rfl,rfl⟩ | ⟨hne,ha⟩
    . simp [bn.bA,aM,hk1]
    . simp only [bn.bA,aj _ _ hne]
      exact hr.aq j a' ha
  . rcases iy ha with ⟨rfl,rfl⟩ | ⟨hne,ha⟩
    . simp only [bn.bA,aM]
      refine ⟨hc,hb,hk,fun i r hi j' x hj' => ?_,hp⟩
      obtain ⟨g1,v,g2,g3⟩ := hrows i r hi j' x hj'
      exact ⟨g1,v,g2,g3.mono hx⟩
    . simp only [bn.bA,aj _ _ hne]
      obtain ⟨h1,h2,h3,h4,h5⟩ := hr.ar j a' ha hk'
      have := hother _ h2.lt
      exact ⟨h1,h2.same this,h3,fun i r hi' => (h4 i r hi').mono hx this,h5⟩
  . obtain ⟨es,cl,h1,h2,h3⟩ := hr.mp j m hm
    refine ⟨es,cl,(hother _ (VV.1 h1).1).trans h1,h2,fun i p hp' => ?_⟩
    obtain ⟨g1,x,g2,g3⟩ := h3 i p hp'
    exact ⟨g1,x,g2,g3.mono hx⟩
  . by_cases hji : j = id
    . subst hji
      simp only [bn.bA,aM]
      exact hWb
    . simp only [bn.bA,aj _ _ hji] at hk' ⊢
      exact hr.nF j hj hk'
  . by_cases hji : j = id
    . subst hji
      simp only [bn.bA,aM]
      have := hr.lj hs; omega
    . simp only [bn.bA,aj _ _ hji] at hk' ⊢
      exact hr.wk s j hs hj hk'
  . by_cases hii : i = id <;> by_cases hjj : j = id
    . omega
    . subst hii
      simp only [bn.bA,aM,aj _ _ hjj] at hkj heq
      have := hr.ir hj hkj; omega
    . subst hjj
      simp only [bn.bA,aM,aj _ _ hii] at hki heq
      have := hr.ir hi hki; omega
    . simp only [bn.bA,aj _ _ hii,aj _ _ hjj] at hki hkj heq
      exact hr.wm i j hi hj hki hkj heq
theorem DY (hr:HR N L e W h w) {t el:TypeId} {k:Nat} (he:iV P t=some (el,k)) {zero:List V} (hz:zeroOf P el=some zero) (hcalm:zero.all V.calm=true) {n c:V} {nv cv:Value} (hn:VR N L e w n nv) (hc:VR N L e w c cv)
  {a b:Int} (ha:intOf n=some a) (hb:intOf c=some b) (h0:0≤a) (hab:a≤b) (hbm:b≤aT) {id:Nat} {gG:aL} (ho:h.ar[id]?=some gG):
  Good P N W L e h w (Instr.makeSlice t nv cv) (.own id (gG.aq+1) 0 a.toNat) { ar:=some (id,⟨gG.aq+1,k,cn a.toNat zero⟩) }:=by
 obtain⟨i,z,hu,hi,hsz,hby,hk0,hzz,hzs⟩:=fk he
 have hn':∃kd,nv=.int kd a:=by
  cases hn with
  |pv p v hp=>
   cases hp with
   |int kd x=>simp[intOf]at ha; subst ha; exact⟨kd,rfl⟩
   |_=>simp[intOf]at ha
  |_=>simp[intOf]at ha
 have hc':∃kd,cv=.int kd b:=by
  cases hc with
  |pv p v hp=>
   cases hp with
   |int kd x=>simp[intOf]at hb; subst hb; exact⟨kd,rfl⟩
   |_=>simp[intOf]at hb
  |_=>simp[intOf]at hb
 obtain⟨kn,rfl⟩:=hn'
 obtain⟨kc,rfl⟩:=hc'
 unfold aT at hbm
 have hbytes:(i.bytes:Int)*b≤281474976710656:=by
  have h1:(i.bytes:Int)≤32768:=by omega
  have h2:(i.bytes:Int)*b≤32768*2147483648:=Int.mul_le_mul h1 (by omega) (by omega) (by omega)
  omega
 have hrun:=run_make (P:=P) w t el i z hu hi hzz kn kc a b h0 hab hbytes (by omega)
 obtain⟨i',zv,hi',hz',hl1,hl2,hl3,_⟩:=fz hz
 rw[hi]at hi'
 injection hi' with hi'
 subst hi'
 rw[hzz]at hz'
 injection hz' with hz'
 subst hz'
 obtain⟨s1,s2,s3⟩:=qG a.toNat zero
 have hzk:zero.length=k:=by rw[hl1,hsz]
 have hrow:gg N L e w k (rowsOf (cn a.toNat zero)) ((madeCells z.cells (b.toNat*i.size)).toList.take (a.toNat*k)):=by
  have hle:a.toNat*k≤b.toNat*k:=VL _ (by omega)
  refine⟨?_,fun r hr'=>?_,fun q r hq j x hj=>?_⟩
  .rw[cH,s1,VH,Xp,size_madeCells,hsz]; omega
  .obtain⟨q,hq⟩:=VD.1 hr'
   obtain⟨_,rfl⟩:=s3 q r hq
   rw[lN,hzk]
  .obtain⟨hqa,rfl⟩:=s3 q r hq
   obtain⟨g1,d,g2,g3⟩:=sk (N:=N) (L:=L) (e:=e) (w:=w) hcalm hj
   have hjk:j<k:=by rw[← hzk,← lN]; exact(Vy.1 hj).1
   have hqk:(q+1)*k≤a.toNat*k:=VL _ (by omega)
   rw[VZ,Wv]at hqk
   refine⟨g1,z.cells.getD j undef,?_,g3 _ (VR.uN (hl3 j d g2))⟩
   rw[VN,if_pos (by omega),VU,hsz,gD hzs hk0 (by omega)]
   rw[Nat.mul_add_mod_self_right,Xm hjk]
 have hnew:(w.alloc (.cells (madeCells z.cells (b.toNat*i.size)) el)).heap[w.heap.size]?=some (.cells (madeCells z.cells (b.toNat*i.size)) el (0,0)):=heap_alloc_new w _
 have hsize:(⟨gG.aq+1,k,cn a.toNat zero⟩:aL).size=a.toNat:=by rw[← aL.bH,aL.cq,cH,s1]
 have n1:=Nx.p4 (w':=w.alloc (.cells (madeCells z.cells (b.toNat*i.size)) el)) (b:=w.heap.size) (d:=0) (c:=b.toNat) hr ⟨gG.aq+1,k,cn a.toNat zero⟩ ho
  (fun g hg=>cE _ hg) (by simp) (Fr.alloc _) (Nat.lt_succ_self _) (Nat.le_refl _) (by dsimp only; omega) (by rw[hsize]; omega) ⟨_,el,hnew,by rw[size_madeCells,hsz]; dsimp only; omega⟩
  (fun r hr'=>hrow.2.1 r (by rw[← aL.cq ⟨gG.aq+1,k,cn a.toNat zero⟩]; exact hr'))
  (fun i' r hi' j x hj=>by
   rw[aL.cq]at hi'
   obtain⟨k1,u,k2,k3⟩:=hrow.2.2 i' r hi' j x hj
   refine⟨k1,u,?_,k3⟩
   rw[cell_of_row _ _ _ _ _ _ hnew]
   rw[VN]at k2
   split at k2
   .rw[VU]at k2
    simpa [Nat.add_assoc]using k2
   .cases k2)
  s2
 refine⟨_,_,L,_,hrun,by rw[Tn.cO]; exact n1,?_⟩
 refine .own id (gG.aq+1) 0 a.toNat _ b.toNat (fun _=>rfl) (by rw[show (e.bA id w.heap.size 0 b.toNat ⟨gG.aq+1,k,cn a.toNat zero⟩).na=e.na from rfl,hr.na]; exact(List.getElem?_eq_some_iff.1 ho).1) (by simp[bn.bA,aM]) (fun _=>?_)
 simp only[bn.bA,aM]
 exact⟨by rw[hsize]; omega,by omega,by omega,fun _=>by simp⟩
theorem F9 (hr:HR N L e W h w) (hO:OR N M L e w g ρ) {t el:TypeId} {k len:Nat} (he:iV P t=some (el,k)) {zero:List V} (hz:zeroOf P el=some zero) (hmost:len*k≤16777216)
  {parts:Array (Nat×Operand)} {l:List (Nat×Nat×bM)} (hp:iW N M k parts.toList=some l) {cs:List V} (hf:eM g ((List.range (len*k)).map fun i=>zero.getD (i%k) .any) l=some cs)
  (hcalm:cs.all V.calm=true) {id:Nat} {gG:aL} (ho:h.ar[id]?=some gG):
  Good P N W L e h w (Instr.buildSlice t len (parts.map fun(i,x)=>(i,ρ x))) (.own id (gG.aq+1) 0 len) { ar:=some (id,⟨gG.aq+1,k,iU (fX k len cs)⟩) }:=by
 obtain⟨_,_,hk0,hlen,arr',r2,hrun⟩:=Hn (P:=P) hr hO he hz hmost hp hf
 have hR0:=nM (k:=k) (n:=len) r2 hlen (fun c hc=>V9.1 hcalm c hc)
 obtain⟨B,hB⟩:∃B,B=(⟨gG.aq+1,k,iU (fX k len cs)⟩:aL):=⟨_,rfl⟩
 have hR:gg N L e w k B.rows arr'.toList∧bU B.body∧B.size=len:=by
  rw[hB]
  unfold iU
  cases hmm:aA (aA V.bN) (fX k len cs)with
  |none=>exact⟨hR0,trivial,by simp[aL.size,ja]⟩
  |some rl=>
   obtain⟨n1,n2⟩:=sx hR0 hmm
   exact⟨n1,n2,by simp[aL.size,bQ hmm,ja]⟩
 have hsz':arr'.size=len*k:=by rw[r2.1,hlen]
 have hnew:(w.alloc (.cells arr' el)).heap[w.heap.size]?=some (.cells arr' el (0,0)):=heap_alloc_new w _
 have hsize:B.size=len:=hR.2.2
 have hBk:B.k=k:=by rw[hB]
 have hBv:B.aq=gG.aq+1:=by rw[hB]
 have n1:=Nx.p4 (w':=w.alloc (.cells arr' el)) (b:=w.heap.size) (d:=0) (c:=len) hr B ho
  (fun g hg=>cE _ hg) (by simp) (Fr.alloc _) (by rw[hBv]; omega) (Nat.le_refl _) (by rw[hBk]; omega) (by rw[hsize]; exact Nat.le_refl _) ⟨_,el,hnew,by rw[hsz',hBk]; simp⟩
  (fun r hr'=>by rw[hBk]; exact hR.1.2.1 r hr')
  (fun i' r hi' j x hj=>by
   obtain⟨k1,u,k2,k3⟩:=hR.1.2.2 i' r hi' j x hj
   refine⟨k1,u,?_,k3⟩
   rw[cell_of_row _ _ _ _ _ _ hnew,hBk]
   rw[VU]at k2
   simpa [Nat.add_assoc]using k2)
  hR.2.1
 refine⟨_,_,L,_,hrun,by rw[Tn.cO,← hB]; exact n1,?_⟩
 refine .own id (gG.aq+1) 0 len _ len (fun _=>rfl) (by rw[show (e.bA id w.heap.size 0 len B).na=e.na from rfl,hr.na]; exact(List.getElem?_eq_some_iff.1 ho).1) (by simp[bn.bA,aM,hBv]) (fun _=>?_)
 simp only[bn.bA,aM]
 exact⟨by rw[hsize]; omega,by omega,by omega,fun _=>by simp⟩
theorem Ga (hr:HR N L e W h w) {t ty el:TypeId} {k:Nat} (he:iV P t=some (el,k)) {x y v:V} {xv yv:Value} (hx:VR N L e w x xv) (hy:VR N L e w y yv) {tn:Tn} {id:Nat} (hh:fI h id k x y=some (v,tn)):
  Good P N W L e h w (Builtin.append_ #[t,t] ty #[xv,yv]) v tn:=by
 unfold fI at hh
 split at hh
 rotate_left
 .exact Hm hr he hx hy hh
 rename_i rows
 obtain⟨i,z,hu,hi,hsz,hby,hk0,hz,hzs⟩:=fk he
 cases hs:bg h y with
 |none=>simp[hs]at hh
 |some nr=>
  obtain⟨new,rd⟩:=nr
  simp only[hs]at hh
  split at hh
  .rename_i hfit
   obtain⟨B,c',ad',news,rfl,s1,s2,s3,s4,s5⟩:=oE hr hy hs hfit (by omega)
   cases hx with
   |tl _ A hp hsoft=>
    split at hh
    .rename_i h0
     injection hh with hh
     simp only[Prod.mk.injEq]at hh
     obtain⟨rfl,rfl⟩:=hh
     refine .pure hr ?_ (.tl rows A hp hsoft) (Tn.aO h _ _ _ _ _)
     rw[h0]
     exact sr hu hi (VI _)
    .rename_i h0
     split at hh<;>first|(cases hh; done)|skip
     rename_i gG ho
     split at hh
     .rename_i hcond
      obtain⟨hmost,hfit0,_⟩:=hcond
      injection hh with hh
      simp only[Prod.mk.injEq]at hh
      obtain⟨rfl,rfl⟩:=hh
      obtain⟨ad,olds,o1,o2,o3⟩:=lQ (e:=e) hp hfit0
      have hpb:bU (.inl rows):=by
       intro r hr' c hc'
       cases hp with
       |aa _ _ _ _ _ k' vs hk' hc ha hcell hv hpm h1=>
        obtain⟨i',hi'⟩:=VD.1 hr'
        obtain⟨j',hj'⟩:=VD.1 hc'
        exact hpm (by omega) i' j' c (by simp[fx,hi',hj'])
      have hrl:(rows.map (·.map V.pv)).length=rows.length:=by simp
      have hlo:olds.length=rows.length*i.size:=by rw[o2.1,hrl,hsz]
      have hln:news.length=aB new*i.size:=by rw[s2.1,cH,hsz]
      have hrun:(Builtin.append_ #[t,t] ty #[.slice A rows.length rows.length,.slice B (aB new) c']).run P w=_:=
       su (z:=z) hu hi hz o1 hlo o3 (s1 (by omega)) hln s3 (by omega) (by omega) hmost hby (fun hA=>by
        rcases Wu rows.length with h1|h1
        .exact h1
        .have:=o1 h1; rw[hA]at this; cases this)
      have hG:=grownCap_ge w (rows.length+aB new) rows.length el
      generalize hGG:grownCap w (rows.length+aB new) rows.length el=G at hrun hG
      have hsize:=nL (z:=z) (k:=k) (n:=rows.length) (m:=aB new) (G:=G) (by rw[hlo,hsz]) (by rw[hln,hsz]) hzs hG
      have hnew:(w.drew.alloc (.cells (olds.toArray++news.toArray++Builtin.zeroCells z.cells (G - (rows.length+aB new))) el)).heap[w.heap.size]?=some (.cells (olds.toArray++news.toArray++Builtin.zeroCells z.cells (G - (rows.length+aB new))) el (0,0)):=heap_alloc_new w.drew _
      have hbody:rowsOf (aR (.inl rows) new)=rows.map (·.map V.pv)++rowsOf new:=by rw[nJ]; rfl
      have hasz:(⟨gG.aq+1,k,aR (.inl rows) new⟩:aL).size=rows.length+aB new:=by
       rw[← aL.bH,aL.cq,hbody]; simp[cH]
      have n3:=Nx.p4 (w':=w.drew.alloc (.cells (olds.toArray++news.toArray++Builtin.zeroCells z.cells (G - (rows.length+aB new))) el)) (b:=w.heap.size) (d:=0) (c:=G) hr ⟨gG.aq+1,k,aR (.inl rows) new⟩ ho
       (fun q hq=>heap_alloc_old w.drew _ q hq) (by simp) (Fr.drew.trans (Fr.alloc _)) (Nat.lt_succ_self _) (Nat.le_refl _) (by show k≠0; omega)
       (by rw[hasz]; exact hG) ⟨_,el,hnew,by rw[hsize]; simp⟩
       (fun r hr'=>by
        rw[aL.cq,hbody]at hr'
        rcases Wm.1 hr' with hr'|hr'
        .exact o2.2.1 r hr'
        .exact s2.2.1 r hr')
       (fun i' r hi' j c hj=>by
        rw[aL.cq,hbody]at hi'
        exact nK o2 s2 hrl hnew i' r hi' j c hj)
       (iz hpb s4)
      refine⟨_,_,L,_,hrun,by rw[Tn.cO]; exact n3,?_⟩
      refine .own id (gG.aq+1) 0 (rows.length+aB new) _ G (fun _=>rfl) (by show id<e.na; rw[hr.na]; exact(List.getElem?_eq_some_iff.1 ho).1) (by simp[bn.bA,aM]) (fun _=>?_)
      simp only[bn.bA,aM]
      exact⟨by rw[hasz]; omega,hG,by omega,fun _=>by simp⟩
     .cases hh
  .cases hh
def bn.room (e:bn) (n:Nat):bn:={ e with na:=e.na+n,av:=fun i=>if i<e.na then e.av i else 0,ak:=fun i=>if i<e.na then e.ak i else 0,an:=fun i=>if i<e.na then e.an i else 0 }
theorem Nx.room (hr:HR N L e W h w) (n:Nat):Nx N W L e w L (e.room n) (h.room n) w:=by
  have hx:Ext L e w L (e.room n) w:=
    { Ext.refl L e w with
      na:=Nat.le_add_right _ _
      av:=fun j hj=>by simp[bn.room,hj]
      sl:=fun s hs=>⟨hs,rfl⟩ }
  have hlen:e.na=h.ar.length:=hr.na
  have hget:∀(j:Nat) (a:aL),(h.room n).ar[j]?=some a→(j<e.na∧h.ar[j]?=some a)∨(e.na≤j∧a=⟨0,0,.inl []⟩):=by
    intro j a ha
    simp only[af.room]at ha
    rcases VG j h.ar.length with hj|hj
    . rw[VC hj]at ha
      exact .inl ⟨by omega,ha⟩
    . rw[VM hj,WM]at ha
      split at ha
      . cases ha
        exact .inr ⟨by omega,rfl⟩
      . cases ha
  have hak:∀j,(e.room n).ak j≠0→j<e.na∧e.ak j≠0:=fun j hj=>by
    simp only[bn.room]at hj
    split at hj
    . rename_i h1
      exact⟨h1,hj⟩
    . exact absurd rfl hj
  refine⟨⟨hr.sl,fun s cs hs=>?_,by simp[bn.room,af.room,hlen],fun j a ha=>?_,fun j a ha hk=>?_,hr.nm,fun j m hm=>?_,hr.uv,fun j _ hk=>?_,hr.wj,hr.zM,fun s j hs _ hk=>?_,fun i j _ _ hki hkj heq=>?_,hr.zP,hr.nG,hr.wide,hr.zN⟩,hx,Fr.refl _ _,fun _ _ hb=>.inl hb⟩
  . obtain⟨h1,h2⟩:=hr.bx s cs hs
    exact⟨h1,h2.mono hx rfl⟩
  . rcases hget j a ha with⟨h1,h2⟩|⟨h1,rfl⟩
    . simp only[bn.room,h1,if_true]
      exact hr.aq j a h2
    . have:¬j<e.na:=by omega
      simp[bn.room,this,aL.size,aL.rows]
  . rcases hget j a ha with⟨h1,h2⟩|⟨h1,rfl⟩
    . obtain⟨g1,g2,g3,g4,g5⟩:=hr.ar j a h2 hk
      exact⟨g1,g2,g3,fun i r hi=>(g4 i r hi).mono hx rfl,g5⟩
    . exact absurd rfl hk
  . obtain⟨es,cl,h1,h2,h3⟩:=hr.mp j m hm
    refine⟨es,cl,h1,h2,fun i p hp=>?_⟩
    obtain⟨g1,x,g2,g3⟩:=h3 i p hp
    exact⟨g1,x,g2,g3.mono hx⟩
  . obtain⟨h1,h2⟩:=hak j hk
    exact hr.nF j h1 h2
  . obtain⟨h1,h2⟩:=hak j hk
    exact hr.wk s j hs h1 h2
  . obtain⟨h1,h2⟩:=hak i hki
    obtain⟨h3,h4⟩:=hak j hkj
    exact hr.wm i j h1 h3 h2 h4 heq
end Go.Pv
namespace Go.Pv
variable {P:Program} {N M:Nat→Nat} {pb:List Nat} {W:Nat→Prop} {L L':Lx} {e e':bn} {h:af} {w w':World} {g:bM→V} {ρ:Operand→Value} {Φ:Nat→List PV→Option (List PV)} {Pr:br} {Tk:Nat→Bool}
structure SR (N:Nat→Nat) (W:Nat→Prop) (L:Lx) (e:bn) (nt:Nat) (s:St) (a:Act) (w:World):Prop where
 hr:HR N L e W s.h w
 env:∀t,VR N L e w (get s.env t) (a.tmps.getD t undef)
 size:a.tmps.size=nt
 defers:a.defers=[]
theorem rL (env:List (Nat×V)) (d:Option Nat) (v:V) (t:Nat):get (put env d v) t=if d=some t then v else get env t:=by
 cases d with
 |none=>simp[put]
 |some d=>
  simp only[put,get,aG]
  by_cases hd:d=t
  .simp[hd]
  .simp[hd]
theorem SR.put {nt:Nat} {s:St} {a:Act} (hs:SR N W L e nt s a w) (hx:Ext L e w L' e' w') {h':af} (hr:HR N L' e' W h' w') {d:Option Nat} (hd:d.all (·<nt)=true) {v:V} {v':Value} (hv:VR N L' e' w' v v'):
  SR N W L' e' nt ⟨Pv.put s.env d v,h'⟩ (a.put d v') w':=by
 refine⟨hr,fun t=>?_,?_,?_⟩
 .rw[rL]
  cases d with
  |none=>simpa [Act.put]using (hs.env t).mono hx
  |some d=>
   simp at hd
   by_cases hdt:d=t
   .subst hdt
    simp[Act.put,hs.size,hd]
    exact hv
   .have:¬(some d=some t):=by simpa using hdt
    rw[if_neg this]
    simp only[Act.put]
    have e1:(a.tmps.setIfInBounds d v').getD t undef=a.tmps.getD t undef:=by simp[Array.getElem?_setIfInBounds_ne hdt]
    rw[e1]
    exact(hs.env t).mono hx
 .cases d<;>simp[Act.put,hs.size]
 .cases d<;>simp[Act.put,hs.defers]
theorem SR.or {nt:Nat} {s:St} {a:Act} (hs:SR N W L e nt s a w):OR N M L e w (bq s.env) a.eval:=OR.H9 hs.env
theorem Ag {x:V} {v:Value} (hx:VR N L e w x v) {f:Nat} {cap:List V} (hf:funcOf x=some (f,cap)):∃arr:Array Value,v=.func (.func (N f)) #[] arr∧arr.size=cap.length∧∀(j:Nat) (c:V),cap[j]?=some c→VR N L e w c (arr.getD j undef):=by
 unfold funcOf at hf
 split at hf<;>first|(cases hf; done)|skip
 .injection hf with hf; injection hf with e1 e2; subst e1; subst e2
  cases hx with
  |func _ _ arr hs hv=>exact⟨arr,rfl,hs,hv⟩
 .injection hf with hf; injection hf with e1 e2; subst e1; subst e2
  cases hx with
  |pv _ _ hp=>
   cases hp with
   |func _ _ arr hs hv=>
    refine⟨arr,rfl,by simpa using hs,fun j c hj=>?_⟩
    obtain⟨p,h1,rfl⟩:=dA hj
    exact .pv _ _ (hv j p h1)
theorem Ci (hr:HR N L e W h w) (hO:OR N M L e w g ρ) (hΦ:∀f ps rs,Φ f ps=some rs→uW P N f ps rs) (hPr:ep P N Pr) {o:Oper} {f:bM} {args:List bM} (ht:dG P N M pb o.dst o.op=some (.call f args)) {v:V} {tn:Tn}
  (he:evalOp Φ Pr Tk g h (.call f args)=some (v,tn)):∃(fn:Nat) (vals:Array Value),(execOp ρ o).run P w=(callFunc (N fn) vals).run P w∧dI P (N fn) vals w fun v' w'=>∃L' e',Nx N W L e w L' e' (tn.apply h) w'∧VR N L' e' w' v v':=by
 cases hop:o.op with
 |call c=>
  rw[hop]at ht
  simp only[dG]at ht
  split at ht
  .rename_i fo args' hce hargs
   split at ht<;>first|(cases ht; done)|skip
   rename_i f' hf'
   injection ht with ht
   injection ht with e1 e2
   subst e1; subst e2
   simp only[evalOp]at he
   split at he<;>first|(cases he; done)|skip
   rename_i fn cap hfn
   obtain⟨arr,h1,h2,h3⟩:=Ag (hO fo f' hf') hfn
   obtain⟨k1,k2⟩:=eB hO hargs
   have k1':args'.length=c.args.size:=by rw[k1]; simp
   refine⟨fn,(#[]++c.args.map ρ)++arr,?_,?_⟩
   .simp only[execOp,hop,resolve,hce,Deferred.ofValue,h1,Sem.run_bind,Sem.run_pure,Result.andThen_ok,invoke]
   .have hl:((#[]++c.args.map ρ)++arr).size=(args'.map g++cap).length:=by simp[k1,h2]
    have hv:∀(j:Nat) (x:V),(args'.map g++cap)[j]?=some x→VR N L e w x (((#[]++c.args.map ρ)++arr).getD j undef):=by
     intro j x hj
     rcases VG j args'.length with hjl|hjl
     .rw[List.getElem?_append_left (by simpa using hjl),List.getElem?_map,List.getElem?_eq_getElem hjl]at hj
      simp at hj
      obtain⟨y,hy1,hy2⟩:=k2 j args'[j] (VA hjl)
      rw[← hj]
      have:((#[]++c.args.map ρ)++arr).getD j undef=ρ y:=by
       apply cc
       simp only[Array.toList_append,Array.toList_map,List.nil_append]
       rw[List.getElem?_append_left (by simp; omega),List.getElem?_map,hy1]
       rfl
      rw[this]
      exact hy2
     .rw[List.getElem?_append_right (by simpa using hjl)]at hj
      simp only[List.length_map]at hj
      have hlt:j - args'.length<arr.size:=by rw[h2]; exact(Vy.1 hj).1
      have:((#[]++c.args.map ρ)++arr).getD j undef=arr.getD (j - args'.length) undef:=by
       apply cc
       simp only[Array.toList_append,Array.toList_map,List.nil_append]
       rw[List.getElem?_append_right (by simp; omega)]
       simp only[List.length_map,Array.length_toList]
       rw[VU,show c.args.size=args'.length from k1'.symm]
       exact bl hlt
      rw[this]
      exact h3 _ x hj
    split at he
    .rename_i pr hpr
     exact hPr fn pr hpr L e W h w _ _ v tn he hr hl hv
    .split at he<;>first|(cases he; done)|skip
     rename_i ps a hlend
     split at he<;>first|(cases he; done)|skip
     rename_i rs hrs
     injection he with he
     injection he with e1 e2
     subst e1; subst e2
     exact Af hr hl hv hlend (hΦ fn ps rs hrs) _ _
  .split at ht<;>cases ht
  .split at ht<;>first|(cases ht; done)|skip
   split at ht<;>first|(cases ht; done)|skip
   split at ht<;>cases ht
  .split at ht<;>first|(cases ht; done)|skip
   split at ht<;>cases ht
  .split at ht<;>first|(cases ht; done)|skip
   split at ht<;>first|(cases ht; done)|skip
   split at ht<;>cases ht
  .cases ht
  .cases ht
  .cases ht
 |_=>
  rw[hop]at ht
  simp only[dG]at ht
  try (repeat' (split at ht))
  all_goals first|contradiction|(cases ht; done)|(simp at ht; done)|(obtain⟨y,_,h2⟩:=map_some ht; cases h2; done)
def Ins (q0 q:eb):Prop:=q0=q∨(∃id k z n c,q0=.make k z n c∧q=.gC id k z n c)∨(∃id k z n c,q0=.lit k z n c∧q=.lx id k z n c)∨∃id k x y,q0=.app k x y∧q=.lz id k x y
theorem ya (hr:HR N L e W h w) (hO:OR N M L e w g ρ) {o:Oper} {id k:Nat} {z:List V} {n c:bM} (ht:dG P N M pb o.dst o.op=some (.make k z n c)) {v:V} {tn:Tn}
  (he:evalOp Φ Pr Tk g h (.gC id k z n c)=some (v,tn)):ca P N W L e h w (execOp ρ o) v tn:=by
 cases hop:o.op with
 |makeSlice t n0 c0=>
  rw[hop]at ht
  simp only[dG]at ht
  split at ht<;>first|(cases ht; done)|skip
  rename_i el k' hel
  split at ht<;>first|(cases ht; done)|skip
  rename_i z' n' c' hz hn hc
  split at ht<;>first|(cases ht; done)|skip
  rename_i hcalm
  injection ht with ht
  injection ht with e1 e2 e3 e4
  subst e1; subst e2; subst e3; subst e4
  simp only[evalOp]at he
  split at he<;>first|(cases he; done)|skip
  rename_i a b gG ha hb ho
  split at he<;>first|(cases he; done)|skip
  rename_i hab
  injection he with he; injection he with e1 e2; subst e1; subst e2
  have:=(DY (P:=P) hr hel hz hcalm (hO n0 _ hn) (hO c0 _ hc) ha hb hab.1 hab.2.1 hab.2.2.1 ho).op
  simpa [execOp,hop]using this
 |_=>
  rw[hop]at ht
  simp only[dG]at ht
  try (repeat' (split at ht))
  all_goals first|contradiction|(cases ht; done)|(simp at ht; done)|(obtain⟨y,_,h2⟩:=map_some ht; cases h2; done)
theorem Ah (hr:HR N L e W h w) (hO:OR N M L e w g ρ) {o:Oper} {id k len:Nat} {z:List V} {ps:List (Nat×Nat×bM)} (ht:dG P N M pb o.dst o.op=some (.lit k z len ps)) {v:V} {tn:Tn}
  (he:evalOp Φ Pr Tk g h (.lx id k z len ps)=some (v,tn)):ca P N W L e h w (execOp ρ o) v tn:=by
 cases hop:o.op with
 |buildSlice t len' parts=>
  rw[hop]at ht
  simp only[dG]at ht
  split at ht<;>first|(cases ht; done)|skip
  rename_i el k' hel
  split at ht<;>first|(cases ht; done)|skip
  rename_i z' l hz hl
  split at ht<;>first|(cases ht; done)|skip
  rename_i hmost
  injection ht with ht
  injection ht with e1 e2 e3 e4
  subst e1; subst e2; subst e3; subst e4
  simp only[evalOp]at he
  split at he<;>first|(cases he; done)|skip
  rename_i cs hf
  split at he<;>first|(cases he; done)|skip
  rename_i gG ho
  split at he<;>first|(cases he; done)|skip
  rename_i hcalm
  injection he with he; injection he with e1 e2; subst e1; subst e2
  have:=(F9 (P:=P) hr hO hel hz hmost hl hf hcalm.1 ho).op
  simpa [execOp,hop]using this
 |_=>
  rw[hop]at ht
  simp only[dG]at ht
  try (repeat' (split at ht))
  all_goals first|contradiction|(cases ht; done)|(simp at ht; done)|(obtain⟨y,_,h2⟩:=map_some ht; cases h2; done)
theorem Ai (hr:HR N L e W h w) (hO:OR N M L e w g ρ) {o:Oper} {id k:Nat} {x y:bM} (ht:dG P N M pb o.dst o.op=some (.app k x y)) {v:V} {tn:Tn}
  (he:evalOp Φ Pr Tk g h (.lz id k x y)=some (v,tn)):ca P N W L e h w (execOp ρ o) v tn:=by
 cases hop:o.op with
 |call c=>
  rw[hop]at ht
  simp only[dG]at ht
  have hex:execOp ρ o=(do let d ← resolve ρ c o.type; invoke d.target d.args):=by simp only[execOp,hop]
  split at ht
  case h_3 x' y' hce hargs=>
   obtain⟨x0,y0,hxs,hvx,hvy⟩:∃x y,c.args=#[x,y]∧VR N L e w (g x') (ρ x)∧VR N L e w (g y') (ρ y):=by
    obtain⟨k1,k2⟩:=eB hO hargs
    obtain⟨x,h1,h2⟩:=k2 0 x' rfl
    obtain⟨y,h3,h4⟩:=k2 1 y' rfl
    match hc:c.args,k1 with
    |⟨[a,b]⟩,_=>simp[hc]at h1 h3; subst h1; subst h3; exact⟨_,_,rfl,h2,h4⟩
   split at ht<;>first|(cases ht; done)|skip
   rename_i t ha
   split at ht<;>first|(cases ht; done)|skip
   rename_i el k hel
   split at ht<;>first|(cases ht; done)|skip
   rename_i hat
   injection ht with ht
   injection ht with e1 e2 e3
   subst e1; subst e2; subst e3
   simp only[evalOp]at he
   have hb:∀consts,builtin .append c.argTypes o.type consts (c.args.map ρ)=Bw (Builtin.append_ #[t,t] o.type #[ρ x0,ρ y0]):=fun consts=>by
    simp only[builtin]; rw[hat,hxs]; simp
   rw[hex]
   exact ca.nN (eC hce hb) (Ga hr hel hvx hvy he).op
  all_goals
   try (repeat' (split at ht))
   all_goals first|contradiction|(cases ht; done)|(simp at ht; done)|(obtain⟨y,_,h2⟩:=map_some ht; cases h2; done)
 |_=>
  rw[hop]at ht
  simp only[dG]at ht
  try (repeat' (split at ht))
  all_goals first|contradiction|(cases ht; done)|(simp at ht; done)|(obtain⟨y,_,h2⟩:=map_some ht; cases h2; done)
theorem Gb {o:Oper} {a:Act} {Q:Exit→Act→World→Prop} {K:Act→World→Prop} {q:eb} (hr:HR N L e W h w) (hO:OR N M L e w g a.eval) (hΦ:∀f ps rs,Φ f ps=some rs→uW P N f ps rs) (hPr:ep P N Pr) {q0:eb} (ht:dG P N M pb o.dst o.op=some q0) (hi:Ins q0 q) {v:V} {tn:Tn}
  (he:evalOp Φ Pr Tk g h q=some (v,tn)) (hK:∀v' w' L' e',Nx N W L e w L' e' (tn.apply h) w'→VR N L' e' w' v v'→K (a.put o.dst v') w'):o.wp P a w K Q:=by
 unfold Oper.wp
 rcases hi with rfl|⟨id,k,z,n,c,rfl,rfl⟩|⟨id,k,z,n,c,rfl,rfl⟩|⟨id,k,x,y,rfl,rfl⟩
 rotate_left
 .obtain⟨nx,v',w',L',e',h1,h2,h3,h4⟩:=ya hr hO ht he
  rw[h1]
  rcases h2 with rfl|⟨rfl,rfl⟩
  .exact hK _ _ _ _ h3 h4
  .exact hK _ _ _ _ h3 h4
 .obtain⟨nx,v',w',L',e',h1,h2,h3,h4⟩:=Ah hr hO ht he
  rw[h1]
  rcases h2 with rfl|⟨rfl,rfl⟩
  .exact hK _ _ _ _ h3 h4
  .exact hK _ _ _ _ h3 h4
 .obtain⟨nx,v',w',L',e',h1,h2,h3,h4⟩:=Ai hr hO ht he
  rw[h1]
  rcases h2 with rfl|⟨rfl,rfl⟩
  .exact hK _ _ _ _ h3 h4
  .exact hK _ _ _ _ h3 h4
 cases hc:wA q0 with
 |false=>
  obtain⟨nx,v',w',L',e',h1,h2,h3,h4⟩:=DT hr hO ht hc he
  rw[h1]
  rcases h2 with rfl|⟨rfl,rfl⟩
  .exact hK _ _ _ _ h3 h4
  .exact hK _ _ _ _ h3 h4
 |true=>
  cases q0 with
  |call f args=>
   obtain⟨fn,vals,h1,h2⟩:=Ci hr hO hΦ hPr ht he
   rw[h1]
   rcases h2 with⟨v',w',h3,L',e',h4,h5⟩|⟨h3,h4⟩
   .rw[h3]
    exact hK _ _ _ _ h4 h5
   .rw[h3]
    refine Calls.mono h4 fun en w' hh=>?_
    cases en with
    |returned v'=>
     obtain⟨L',e',h5,h6⟩:=hh
     exact hK _ _ _ _ h5 h6
    |panicked=>exact hh.elim
    |outgrown=>exact hh.elim
  |_=>simp[wA]at hc
theorem wB {tm:Array Value} {t:Nat} {v d:Value} (h:tm[t]?=some v):tm.getD t d=v:=by
 simp[Array.getD_eq_getD_getElem?,h]
theorem sD {nt:Nat} {s:St} {a:Act} (hs:SR N W L e nt s a w) {ops:Array Oper} {o:Oper} {gd:Option (Nat×Bool)} (hg:ot ops o=some gd) {b:Bool} (hw:wanted s.env gd=some b):Region.wanted o (yielded ops a.tmps)=b:=by
 unfold ot at hg
 split at hg
 .rename_i hgd
  injection hg with hg
  subst hg
  simp[wanted]at hw
  subst hw
  simp[Region.wanted,hgd]
 .rename_i j c hgd
  split at hg<;>first|(cases hg; done)|skip
  rename_i t hdst
  injection hg with hg
  subst hg
  simp only[wanted]at hw
  split at hw<;>first|(cases hw; done)|skip
  case h_2=>
   rename_i vs hget
   injection hw with hw
   subst hw
   have hv:=hs.env t
   rw[hget]at hv
   have hno:∀x,a.tmps[t]?≠some (.bool x):=by
    intro x hx
    rw[wB hx]at hv
    cases hv
   simp only[Region.wanted,hgd,yielded,hdst,Option.bind_some]
   cases hx:a.tmps[t]? with
   |none=>rfl
   |some v=>
    cases v with
    |bool x=>exact absurd hx (hno x)
    |_=>rfl
  rename_i c' hget
  injection hw with hw
  have hv:=hs.env t
  rw[hget]at hv
  have hb:=hv.bool
  have hlt:t<a.tmps.size:=by
   rcases VG t a.tmps.size with h1|h1
   .exact h1
   .have:a.tmps.getD t undef=undef:=by simp[Array.getElem?_eq_none h1]
    rw[this]at hb
    cases hb
  have ht:a.tmps[t]?=some (.bool c'):=by rw[bl hlt,hb]
  simp only[Region.wanted,hgd,yielded,hdst,Option.bind_some,ht]
  rw[← hw]
  cases c'<;>cases c<;>rfl
theorem lU {nt:Nat} {ops:Array Oper} {o:Oper} {q:aE} (ht:iY P N M nt pb ops o=some q):dG P N M pb o.dst o.op=some q.op∧ot ops o=some q.guard∧q.dst=o.dst∧o.dst.all (·<nt)=true:=by
 unfold iY at ht
 split at ht<;>first|(cases ht; done)|skip
 rename_i x y h1 h2
 split at ht<;>first|(cases ht; done)|skip
 rename_i h3
 injection ht with ht
 subst ht
 exact⟨h1,h2,rfl,h3⟩
theorem By {nt:Nat} {s s':St} {a:Act} {tn:Tn} (hs:SR N W L e nt s a w) (hΦ:∀f ps rs,Φ f ps=some rs→uW P N f ps rs) (hPr:ep P N Pr) {ops:Array Oper} {i:Nat} {o:Oper} {q0 q:aE} (hi:ops[i]?=some o) (ht:iY P N M nt pb ops o=some q0) (hin:Ins q0.op q.op∧q0.dst=q.dst∧q0.guard=q.guard)
  (hst:bz Φ Pr Tk q s=some (s',tn)) {Q:Exit→Act→World→Prop} {K:Act→World→Prop} (hK:∀a' w' L' e',Nx N W L e w L' e' s'.h w'→SR N W L' e' nt s' a' w'→K a' w'):wpOp P ops Q i K a w:=by
 obtain⟨t1,t2,t3,t4⟩:=lU ht
 obtain⟨i1,i2,i3⟩:=hin
 rw[i3]at t2
 rw[i2]at t3
 unfold wpOp
 simp only[hi]
 unfold bz at hst
 split at hst<;>first|(cases hst; done)|skip
 .rename_i hw
  injection hst with hst
  injection hst with e1 e2
  subst e1; subst e2
  rw[if_neg (by rw[sD hs t2 hw]; simp)]
  have hsr:=hs.put (L':=L) (e':=e) (w':=w) (h':=s.h) (Ext.refl _ _ _) hs.hr t4 (.dH [] #[] rfl (fun j c hj=>by simp at hj))
  rw[← t3]at hsr ⊢
  exact hK _ _ _ _ (Nx.refl hs.hr) hsr
 .rename_i hw
  split at hst<;>first|(cases hst; done)|skip
  rename_i v t he
  injection hst with hst
  injection hst with e1 e2
  subst e1; subst e2
  rw[if_pos (by rw[sD hs t2 hw])]
  refine .inl (Gb hs.hr (hs.or (M:=M)) hΦ hPr t1 i1 he fun v' w' L' e' h1 h2=>?_)
  have hsr:=hs.put h1.ext h1.hr t4 h2
  rw[← t3]at hsr ⊢
  exact hK _ _ _ _ h1 hsr
end Go.Pv
namespace Go.Pv
variable {g g':bM→V} {Φ:Nat→List PV→Option (List PV)} {Pr:br} {Tk:Nat→Bool}
structure p5 (h1 h2:af):Prop where
 bx:∀s,aG s h1.bx=aG s h2.bx
 ar:h1.ar=h2.ar
 mp:h1.mp=h2.mp
theorem p5.refl (h:af):p5 h h:=⟨fun _=>rfl,rfl,rfl⟩
theorem p5.symm {h1 h2:af} (k:p5 h1 h2):p5 h2 h1:=⟨fun s=>(k.bx s).symm,k.ar.symm,k.mp.symm⟩
theorem p5.trans {h1 h2 h3:af} (k:p5 h1 h2) (l:p5 h2 h3):p5 h1 h3:=⟨fun s=>(k.bx s).trans (l.bx s),k.ar.trans l.ar,k.mp.trans l.mp⟩
structure Grow (h1 h2:af):Prop where
 bx:∀s c,aG s h1.bx=some c→aG s h2.bx=some c
 ar:∀(i:Nat) (a:aL),h1.ar[i]?=some a→h2.ar[i]?=some a
theorem p5.grow {h1 h2:af} (k:p5 h1 h2):Grow h1 h2:=⟨fun s c hs=>by rw[← k.bx]; exact hs,fun i a hi=>by rw[← k.ar]; exact hi⟩
structure gI (t:Tn) (h1 h2:af):Prop where
 bx:∀s,t.rb=some s∨(∃c,t.bx=some (s,c))→aG s h1.bx=aG s h2.bx
 ar:∀i,t.ra=some i∨t.nD=some i∨(∃a,t.ar=some (i,a))→h1.ar[i]?=h2.ar[i]?
 len:t.push≠[]→h1.ar.length=h2.ar.length
 mp:h1.mp=h2.mp
 all:t.eX=true→Grow h1 h2
 whole:t.all.isSome=true→p5 h1 h2
theorem p5.agree {h1 h2:af} (k:p5 h1 h2) (t:Tn):gI t h1 h2:=⟨fun s _=>k.bx s,fun i _=>by rw[k.ar],fun _=>by rw[k.ar],k.mp,fun _=>k.grow,fun _=>k⟩
theorem gI.own {t:Tn} {h1 h2:af} (k:gI t h1 h2) {id aq:Nat} (hi:t.ra=some id∨t.nD=some id∨(∃a,t.ar=some (id,a))):aF h2 id aq=aF h1 id aq:=by
 unfold aF
 rw[k.ar id hi]
theorem kJ {α β:Type} {f f':α→Option β}:∀{l:List α},(∀x∈l,f x=f' x)→aA f l=aA f' l
 |[],_=>rfl
 |x::r,hf=>by
  simp only[aA]
  rw[hf x (by simp),kJ (l:=r) (fun y hy=>hf y (by simp[hy]))]
theorem eI {α β:Type} {f f':α→Option β}:∀{l:List α} {r:List β},(∀x∈l,∀y,f x=some y→f' x=some y)→aA f l=some r→aA f' l=some r
 |[],_,_,hr=>hr
 |x::l,r,hf,hr=>by
  simp only[aA]at hr ⊢
  cases h1:f x with
  |none=>simp[h1]at hr
  |some y=>
   cases h2:aA f l with
   |none=>simp[h1,h2]at hr
   |some q=>
    rw[hf x (by simp) y h1,eI (fun z hz=>hf z (by simp[hz])) h2]
    simpa [h1,h2]using hr
theorem Grow.own {h1 h2:af} (k:Grow h1 h2) {id aq:Nat} {a:aL} (ho:aF h1 id aq=some a):aF h2 id aq=some a:=by
 unfold aF at ho ⊢
 cases hi:h1.ar[id]? with
 |none=>simp[hi]at ho
 |some b=>rw[k.ar id b hi]; simpa [hi]using ho
theorem nP {h1 h2:af} (k:Grow h1 h2):∀(d:Nat) (x:V) (p:PV),bf h1 d x=some p→bf h2 d x=some p:=by
 intro d
 induction d with
 |zero=>intro x p hp; cases x<;>simp[bf]at hp ⊢<;>exact hp
 |succ d ih=>
  intro x p hp
  cases x with
  |own id aq off len=>
   cases ho:aF h1 id aq with
   |none=>simp[bf,ho]at hp
   |some a=>
    simp only[bf,k.own ho]
    simp only[bf,ho]at hp
    cases hc:aI off len a.body with
    |inl rows=>rw[hc]at hp; exact hp
    |inr rows=>
     rw[hc]at hp
     cases hm:aA (aA (bf h1 d)) rows with
     |none=>simp[hm]at hp
     |some l=>
      simp only
      rw[eI (fun r _ q hq=>eI (fun c _ u hu=>ih c u hu) hq) hm]
      simpa [hm]using hp
  |ptr slot off=>
   cases hs:aG slot h1.bx with
   |none=>simp[bf,hs]at hp
   |some cs=>
    simp only[bf,k.bx slot cs hs]
    simp only[bf,hs]at hp
    cases hm:aA (bf h1 d) (cs.drop off)with
    |none=>simp[hm]at hp
    |some l=>
     rw[eI (fun c _ u hu=>ih c u hu) hm]
     simpa [hm]using hp
  |func f cap=>
   simp only[bf]at hp ⊢
   cases hm:aA (bf h1 d) cap with
   |none=>simp[hm]at hp
   |some l=>
    rw[eI (fun c _ u hu=>ih c u hu) hm]
    simpa [hm]using hp
  |pv q=>cases q<;>simp only[bf]at hp ⊢<;>exact hp
  |tl rows=>simpa only[bf]using hp
  |_=>simp[bf]at hp
theorem p6 {h1 h2:af} (k:Grow h1 h2) {x:V} {p:PV} (hp:cM h1 x=some p):cM h2 x=some p:=by
 cases x with
 |agg cs=>
  simp only[cM]at hp ⊢
  cases hm:aA (bf h1 4) cs with
  |none=>simp[hm]at hp
  |some l=>
   rw[eI (fun c _ u hu=>nP k 4 c u hu) hm]
   simpa [hm]using hp
 |pv q=>cases q<;>simp only[cM]at hp ⊢<;>first|exact hp|exact nP k 4 _ _ hp
 |_=>simp only[cM]at hp ⊢; exact nP k 4 _ _ hp
theorem uB {h1 h2:af} (k:Grow h1 h2) {x:V} {r:PV×Option (Nat×aL)} (hp:cw h1 x=some r):cw h2 x=some r:=by
 unfold cw at hp ⊢
 split at hp
 .rename_i id aq len
  cases ho:aF h1 id aq with
  |none=>simp[ho]at hp
  |some a=>rw[k.own ho]; simpa [ho]using hp
 .exact hp
 .cases hp
theorem Grow.set {h1 h2:af} (k:Grow h1 h2) (i:Nat) (a:aL):Grow { h1 with ar:=h1.ar.set i a } { h2 with ar:=h2.ar.set i a }:=by
 refine⟨k.bx,fun j b hj=>?_⟩
 simp only[List.getElem?_set]at hj ⊢
 by_cases hij:i=j
 .subst hij
  simp only[if_true]at hj ⊢
  split at hj<;>first|(cases hj; done)|skip
  rename_i hl
  have:=k.ar i _ (VA hl)
  rw[if_pos (Vy.1 this).1]
  exact hj
 .rw[if_neg hij]at hj ⊢
  exact k.ar j b hj
theorem wC {h1 h2:af} (k:Grow h1 h2) {tk:Bool} {vs:List V} {r:List PV×Option (Nat×aL)} (hh:cA h1 tk vs=some r):cA h2 tk vs=some r:=by
 unfold cA at hh ⊢
 cases tk with
 |false=>
  simp only[Bool.false_eq_true,if_false]at hh ⊢
  cases hm:aA (cM h1) vs with
  |none=>simp[hm]at hh
  |some l=>
   rw[eI (fun x _ y hy=>p6 k hy) hm]
   simpa [hm]using hh
 |true=>
  simp only[if_true]at hh ⊢
  cases vs with
  |nil=>exact hh
  |cons v r=>
   simp only at hh ⊢
   cases hl:cw h1 v with
   |none=>simp[hl]at hh
   |some pa=>
    obtain⟨p,a⟩:=pa
    rw[uB k hl]
    simp only[hl]at hh
    cases a with
    |none=>
     simp only at hh ⊢
     cases hm:aA (cM h1) r with
     |none=>simp[hm]at hh
     |some l=>
      rw[eI (fun x _ y hy=>p6 k hy) hm]
      simpa [hm]using hh
    |some ia=>
     obtain⟨i,a⟩:=ia
     simp only at hh ⊢
     cases hm:aA (cM { h1 with ar:=h1.ar.set i a }) r with
     |none=>simp[hm]at hh
     |some l=>
      rw[eI (fun x _ y hy=>p6 (k.set i a) hy) hm]
      simpa [hm]using hh
theorem uZ (h1 h2:af) {x:V} (hx:x.jO=true):cM h2 x=cM h1 x:=by
 cases x with
 |pv p=>cases p<;>simp[cM,bf]
 |tl r=>simp[cM,bf]
 |func f cap=>
  simp[V.jO]at hx
  subst hx
  simp[cM,bf,aA]
 |agg cs=>
  simp only[cM]
  simp only[V.jO,List.all_eq_true]at hx
  have:aA (bf h2 4) cs=aA (bf h1 4) cs:=kJ fun x hxm=>by
   have:=hx x hxm
   cases x with
   |pv p=>cases p<;>simp[bf]
   |tl r=>simp[bf]
   |_=>simp at this
  rw[this]
 |_=>simp[V.jO]at hx
theorem uC (h1 h2:af) {x:V} (hx:x.jO=true):cw h2 x=cw h1 x:=by
 cases x with
 |tl r=>cases r<;>simp[cw]
 |_=>first|(simp[V.jO]at hx; done)|simp[cw]
theorem uD (h:af) {x:V} (hx:x.jO=true) {p:PV} {i:Nat} {a:aL}:cw h x≠some (p,some (i,a)):=by
 intro hh
 cases x<;>first|(simp[V.jO]at hx; done)|skip
 .simp[cw]at hh
 .rename_i r; cases r<;>simp[cw]at hh
 .simp[cw]at hh
 .simp[cw]at hh
theorem wD (h1 h2:af) (tk:Bool) {vs:List V} (hv:vs.all V.jO=true):cA h2 tk vs=cA h1 tk vs:=by
 have hv':=V9.1 hv
 cases tk with
 |false=>
  simp only[cA,Bool.false_eq_true,if_false]
  rw[kJ (fun x hx=>uZ h1 h2 (hv' x hx))]
 |true=>
  simp only[cA,if_true]
  cases vs with
  |nil=>rfl
  |cons v r=>
   simp only
   rw[uC h1 h2 (hv' v (by simp))]
   cases hl:cw h1 v with
   |none=>rfl
   |some pa=>
    obtain⟨p,a⟩:=pa
    cases a with
    |none=>
     simp only
     rw[kJ (fun x hx=>uZ h1 h2 (hv' x (by simp[hx])))]
    |some ia=>
     obtain⟨i,a⟩:=ia
     exact absurd hl (uD h1 (hv' v (by simp)))
theorem u3 (n:Nat):∀(ps:List PV),(dw n ps).2=[]→∀m,dw m ps=dw n ps
 |[],_,m=>rfl
 |p::r,hn,m=>by
  rw[nO]at hn ⊢
  simp only[List.append_eq_nil_iff]at hn
  rw[nO]
  have h0:=hn.1
  have h1:=hn.2
  rw[h0]at h1 ⊢
  simp only[List.length_nil,Nat.add_zero]at h1 ⊢
  rw[u3 n r h1 m]
  cases p<;>simp[mC]at h0<;>simp[Bx]
theorem Cj (n:Nat) (p:PV) (hn:(eU n p).2=[]) (m:Nat):eU m p=eU n p:=by
 cases p<;>simp[eU]at hn ⊢
 rename_i cs
 rw[u3 n cs hn m]
 simp
theorem qJ (n:Nat):∀(ps:List PV),(bF n ps).2=[]→∀m,bF m ps=bF n ps
 |[],_,m=>rfl
 |p::r,hn,m=>by
  rw[kI]at hn ⊢
  simp only[List.append_eq_nil_iff]at hn
  rw[kI,Cj n p hn.1 m]
  have h0:=hn.1
  have h1:=hn.2
  rw[h0]at h1 ⊢
  simp only[List.length_nil,Nat.add_zero]at h1 ⊢
  rw[qJ n r h1 m]
def Bz (Pr:br):Prop:=∀fn pr,Pr fn=some pr→∀vs h1 h2 v t,pr vs h1=some (v,t)→gI t h1 h2→pr vs h2=some (v,t)
theorem Aj {h1 h2:af} {n:Nat} {x:V} {cs:List V} {t:Tn} (hh:loadAt h1 n x=some (cs,t)) (ha:gI t h1 h2):loadAt h2 n x=some (cs,t):=by
 have hh0:=hh
 unfold loadAt at hh ⊢
 split at hh
 .exact hh
 .rename_i slot off
  cases hs:aG slot h1.bx with
  |none=>simp[hs]at hh
  |some ds=>
   simp only[hs]at hh
   have ht:t.rb=some slot:=by
    split at hh<;>first|(cases hh; done)|skip
    injection hh with hh; injection hh with e1 e2; subst e2; rfl
   rw[← ha.bx slot (.inl ht),hs]
   exact hh
 .rename_i id aq row col
  cases ho:aF h1 id aq with
  |none=>simp[ho]at hh
  |some a=>
   simp only[ho]at hh
   have ht:t.ra=some id:=by
    split at hh
    .split at hh<;>first|(cases hh; done)|skip
     split at hh<;>first|(cases hh; done)|skip
     injection hh with hh; injection hh with e1 e2; subst e2; rfl
    .split at hh<;>first|(cases hh; done)|skip
     split at hh<;>first|(cases hh; done)|skip
     injection hh with hh; injection hh with e1 e2; subst e2; rfl
   rw[ha.own (.inl ht),ho]
   exact hh
 .cases hh
theorem yb {h1 h2:af} {x:V} {news:List V} {t:Tn} (hh:storeAt h1 x news=some t) (ha:gI t h1 h2):storeAt h2 x news=some t:=by
 unfold storeAt at hh ⊢
 split at hh
 .rename_i slot off
  cases hs:aG slot h1.bx with
  |none=>simp[hs]at hh
  |some ds=>
   simp only[hs]at hh
   have ht:∃c,t.bx=some (slot,c):=by
    split at hh<;>first|(cases hh; done)|skip
    injection hh with hh; subst hh; exact⟨_,rfl⟩
   rw[← ha.bx slot (.inr ht),hs]
   exact hh
 .rename_i id aq row col
  cases ho:aF h1 id aq with
  |none=>simp[ho]at hh
  |some a=>
   simp only[ho]at hh
   have ht:∃a,t.ar=some (id,a):=by
    split at hh<;>first|(cases hh; done)|skip
    injection hh with hh; subst hh; exact⟨_,rfl⟩
   rw[ha.own (.inr (.inr ht)),ho]
   exact hh
 .cases hh
theorem gJ {h1 h2:af} {y:V} {r:Sum (List (List PV)) (List (List V))×Option Nat} (hh:bg h1 y=some r) (ha:∀i,r.2=some i→h1.ar[i]?=h2.ar[i]?):bg h2 y=some r:=by
 unfold bg at hh ⊢
 split at hh
 .exact hh
 .exact hh
 .rename_i id aq off len
  cases ho:aF h1 id aq with
  |none=>simp[ho]at hh
  |some a=>
   simp only[ho]at hh
   have ht:r.2=some id:=by injection hh with hh; subst hh; rfl
   have:aF h2 id aq=aF h1 id aq:=by unfold aF; rw[ha id ht]
   rw[this,ho]
   exact hh
 .cases hh
theorem Ck {h1 h2:af} {k:Nat} {x y v:V} {t:Tn} (hh:copyV h1 k x y=some (v,t)) (ha:gI t h1 h2):copyV h2 k x y=some (v,t):=by
 unfold copyV at hh ⊢
 cases hs:bg h1 y with
 |none=>simp[hs]at hh
 |some r=>
  obtain⟨new,rd⟩:=r
  have hrd:t.ra=rd→bg h2 y=some (new,rd):=fun ht=>gJ hs (fun i hi=>ha.ar i (.inl (by rw[ht]; exact hi)))
  cases new with
  |inr new=>simp[hs]at hh
  |inl new=>
   simp only[hs]at hh
   split at hh<;>first|(cases hh; done)|skip
   rename_i hfit
   split at hh<;>first|(cases hh; done)|skip
   rename_i id aq off len
   split at hh
   .rename_i hz
    injection hh with hh; injection hh with e1 e2; subst e1; subst e2
    rw[hrd rfl]
    simp only[hfit,if_true]
    rw[if_pos hz]
   .rename_i hz
    cases ho:aF h1 id aq with
    |none=>simp[ho]at hh
    |some a=>
     simp only[ho]at hh
     split at hh<;>first|(cases hh; done)|skip
     rename_i rows hb
     split at hh<;>first|(cases hh; done)|skip
     rename_i hc
     injection hh with hh; injection hh with e1 e2; subst e1; subst e2
     rw[hrd rfl]
     simp only[hfit,if_true]
     rw[ha.own (.inr (.inr ⟨_,rfl⟩)),ho]
     simp only[hb]
     rw[if_neg hz,if_pos hc]
theorem qK {h1 h2:af} {k:Nat} {x y v:V} {t:Tn} (hh:aJ h1 k x y=some (v,t)) (ha:gI t h1 h2):aJ h2 k x y=some (v,t):=by
 unfold aJ at hh ⊢
 cases hs:bg h1 y with
 |none=>simp[hs]at hh
 |some r=>
  obtain⟨new,rd⟩:=r
  simp only[hs]at hh
  have hrd:t.ra=rd→bg h2 y=some (new,rd):=fun ht=>gJ hs (fun i hi=>ha.ar i (.inl (by rw[ht]; exact hi)))
  split at hh<;>first|(cases hh; done)|skip
  rename_i hfit
  split at hh
  .rename_i rows
   split at hh
   .rename_i hz
    injection hh with hh; injection hh with e1 e2; subst e1; subst e2
    rw[hrd rfl]
    simp[hfit,hz]
   .rename_i hz
    split at hh<;>first|(cases hh; done)|skip
    rename_i hc
    injection hh with hh; injection hh with e1 e2; subst e1; subst e2
    rw[hrd rfl]
    simp only[hfit,if_true,hz,if_false,hc,and_self]
    rw[ha.len (by simp)]
  .rename_i id aq off len
   cases ho:aF h1 id aq with
   |none=>simp[ho]at hh
   |some a=>
    simp only[ho]at hh
    split at hh
    .rename_i hz
     injection hh with hh; injection hh with e1 e2; subst e1; subst e2
     rw[hrd rfl]
     simp only[hfit,if_true]
     rw[ha.own (.inr (.inl rfl)),ho]
     simp[hz]
    .rename_i hz
     split at hh<;>first|(cases hh; done)|skip
     rename_i hc
     injection hh with hh; injection hh with e1 e2; subst e1; subst e2
     rw[hrd rfl]
     simp only[hfit,if_true]
     rw[ha.own (.inr (.inr ⟨_,rfl⟩)),ho]
     simp only[hz,if_false]
     rw[if_pos hc]
  .cases hh
theorem wE {h1 h2:af} {id k:Nat} {x y v:V} {t:Tn} (hh:fI h1 id k x y=some (v,t)) (ha:gI t h1 h2):fI h2 id k x y=some (v,t):=by
 unfold fI at hh ⊢
 split at hh
 rotate_left
 .exact qK hh ha
 cases hs:bg h1 y with
 |none=>simp[hs]at hh
 |some r=>
  obtain⟨new,rd⟩:=r
  simp only[hs]at hh
  have hrd:t.ra=rd→bg h2 y=some (new,rd):=fun ht=>gJ hs (fun i hi=>ha.ar i (.inl (by rw[ht]; exact hi)))
  split at hh<;>first|(cases hh; done)|skip
  rename_i hfit
  split at hh
  .rename_i hz
   injection hh with hh; injection hh with e1 e2; subst e1; subst e2
   rw[hrd rfl]
   simp[hfit,hz]
  .rename_i hz
   split at hh<;>first|(cases hh; done)|skip
   rename_i gG ho
   split at hh<;>first|(cases hh; done)|skip
   rename_i hc
   injection hh with hh; injection hh with e1 e2; subst e1; subst e2
   rw[hrd rfl]
   simp only[hfit,if_true]
   rw[if_neg hz,← ha.ar id (.inr (.inr ⟨_,rfl⟩)),ho]
   exact if_pos hc
theorem Ak {h1 h2:af} {k:Nat} {x v:V} {lo hi mx:Option bM} {t:Tn} (hh:cZ g h1 k x lo hi mx=some (v,t)) (ha:gI t h1 h2):cZ g h2 k x lo hi mx=some (v,t):=by
 unfold cZ at hh ⊢
 split at hh
 .exact hh
 .exact hh
 .rename_i id aq off len
  cases ho:aF h1 id aq with
  |none=>simp[ho]at hh
  |some a=>
   simp only[ho]at hh
   have ht:t.ra=some id:=by
    split at hh<;>first|(cases hh; done)|skip
    split at hh<;>first|(cases hh; done)|skip
    .injection hh with hh; injection hh with e1 e2; subst e2; rfl
    .split at hh<;>first|(cases hh; done)|skip
     injection hh with hh; injection hh with e1 e2; subst e2; rfl
   rw[ha.own (.inl ht),ho]
   exact hh
 .cases hh
theorem DZ {h1 h2:af} {k:Nat} {x v:V} {i:Option Int} {t:Tn} (hh:pS h1 k x i=some (v,t)) (ha:gI t h1 h2):pS h2 k x i=some (v,t):=by
 unfold pS at hh ⊢
 split at hh
 .exact hh
 .exact hh
 .rename_i id aq off len
  split at hh<;>first|(cases hh; done)|skip
  rename_i j a hj ho
  split at hh<;>first|(cases hh; done)|skip
  rename_i hk
  injection hh with hh; injection hh with e1 e2; subst e1; subst e2
  rw[hj,ha.own (.inl rfl),ho]
  simp[hk]
 .cases hh
theorem D0 {h1 h2:af} {kd:Nat} {x:V} {n:Nat} {t:Tn} (hh:fY h1 kd x=some (n,t)) (ha:gI t h1 h2):fY h2 kd x=some (n,t):=by
 unfold fY at hh ⊢
 split at hh<;>first|exact hh|(cases hh; done)|skip
 rw[← ha.mp]
 exact hh
theorem D1 (hPL:Bz Pr) {h1 h2:af} {q:eb} {v:V} {t:Tn} (he:evalOp Φ Pr Tk g h1 q=some (v,t)) (ha:gI t h1 h2):evalOp Φ Pr Tk g h2 q=some (v,t):=by
 cases q with
 |alloc slot zero=>
  simp only[evalOp]at he ⊢
  split at he<;>first|(cases he; done)|skip
  rename_i hs
  have he':=he
  injection he with he; injection he with e1 e2
  rw[← ha.bx slot (.inr ⟨zero,by rw[← e2]⟩),hs]
  exact he'
 |box slot n x=>
  simp only[evalOp]at he ⊢
  split at he<;>first|(cases he; done)|skip
  rename_i hs
  split at he<;>first|(cases he; done)|skip
  rename_i hc
  have he':=he
  injection he with he; injection he with e1 e2
  rw[← ha.bx slot (.inr ⟨(g x).cells,by rw[← e2]⟩),hs]
  simp only[hc,and_self,if_true]
  exact he'
 |lit k zero len parts=>
  simp only[evalOp]at he ⊢
  split at he<;>first|(cases he; done)|skip
  rename_i cs hf
  split at he
  .exact he
  .rename_i rows hrows
   split at he<;>first|(cases he; done)|skip
   rename_i hc
   injection he with he; injection he with e1 e2; subst e1; subst e2
   rw[if_pos hc,ha.len (by simp)]
 |load n isAgg x=>
  simp only[evalOp]at he ⊢
  split at he<;>first|(cases he; done)|skip
  rename_i cs t' hl
  split at he<;>first|(cases he; done)|skip
  rename_i v' hc
  injection he with he; injection he with e1 e2; subst e1; subst e2
  rw[Aj hl ha]
  simp only[hc]
 |store n x y=>
  simp only[evalOp]at he ⊢
  split at he<;>first|(cases he; done)|skip
  rename_i hn
  split at he<;>first|(cases he; done)|skip
  rename_i t' hs
  injection he with he; injection he with e1 e2; subst e1; subst e2
  rw[if_pos hn,yb hs ha]
 |idx k x i=>exact DZ he ha
 |sl k x lo hi mx=>exact Ak he ha
 |len kd x=>
  simp only[evalOp]at he ⊢
  split at he<;>first|(cases he; done)|skip
  rename_i n t' hl
  injection he with he; injection he with e1 e2; subst e1; subst e2
  rw[D0 hl ha]
 |app k x y=>exact qK he ha
 |copy k x y=>exact Ck he ha
 |make k zero n c=>
  simp only[evalOp]at he ⊢
  split at he<;>first|(cases he; done)|skip
  rename_i a b h1' h2'
  split at he<;>first|(cases he; done)|skip
  rename_i hc
  injection he with he; injection he with e1 e2; subst e1; subst e2
  rw[if_pos hc,ha.len (by simp)]
 |gC id k zero n c=>
  simp only[evalOp]at he ⊢
  split at he<;>first|(cases he; done)|skip
  rename_i a b gG h1' h2' ho
  split at he<;>first|(cases he; done)|skip
  rename_i hc
  injection he with he; injection he with e1 e2; subst e1; subst e2
  rw[← ha.ar id (.inr (.inr ⟨_,rfl⟩)),ho,h1',h2']
  exact if_pos hc
 |lx id k zero len parts=>
  simp only[evalOp]at he ⊢
  split at he<;>first|(cases he; done)|skip
  rename_i cs hf
  split at he<;>first|(cases he; done)|skip
  rename_i gG ho
  split at he<;>first|(cases he; done)|skip
  rename_i hc
  injection he with he; injection he with e1 e2; subst e1; subst e2
  rw[← ha.ar id (.inr (.inr ⟨_,rfl⟩)),ho]
  exact if_pos hc
 |lz id k x y=>
  simp only[evalOp]at he ⊢
  exact wE he ha
 |rq=>
  simp only[evalOp]at he ⊢
  rw[← ha.mp]
  exact he
 |look ag ks zero x i ok=>
  simp only[evalOp]at he ⊢
  rw[← ha.mp]
  exact he
 |FJ ag ks m k x=>
  simp only[evalOp]at he ⊢
  rw[← ha.mp]
  exact he
 |call f args=>
  simp only[evalOp]at he ⊢
  split at he<;>first|(cases he; done)|skip
  rename_i fn cap hf
  split at he
  .rename_i pr hpr
   exact hPL fn pr hpr _ _ _ _ _ he ha
  .split at he<;>first|(cases he; done)|skip
   rename_i ps a hl
   split at he<;>first|(cases he; done)|skip
   rename_i rs hrs
   injection he with he; injection he with e1 e2; subst e1; subst e2
   have hlend:cA h2 (Tk fn) (args.map g++cap)=some (ps,a):=by
    cases hpv:(args.map g++cap).all V.jO with
    |true=>rw[wD h1 h2 _ hpv]; exact hl
    |false=>exact wC (ha.all (by simp[hpv])) hl
   rw[hlend]
   simp only[hrs]
   by_cases has:(bF h1.ar.length rs).2=[]
   .rw[qJ _ _ has h2.ar.length,has]
    simp
   .rw[← ha.len has]
 |H4 k zero x=>
  simp only[evalOp]at he ⊢
  split at he<;>first|exact he|(cases he; done)|skip
  rename_i id aq off len hg
  split at he<;>first|(cases he; done)|skip
  rename_i a z ho hz
  split at he<;>first|(cases he; done)|skip
  rename_i rows hb
  split at he<;>first|(cases he; done)|skip
  rename_i hc
  injection he with he; injection he with e1 e2; subst e1; subst e2
  rw[ha.own (.inr (.inr ⟨_,rfl⟩)),ho]
  simp only[hz,hb,hc,and_self,if_true]
 |_=>exact he
end Go.Pv
namespace Go.Pv
variable {g g':bM→V} {Φ:Nat→List PV→Option (List PV)} {Pr:br} {Tk:Nat→Bool}
theorem aU {env env':List (Nat×V)} {x:bM} (hx:∀t∈x.reads,get env t=get env' t):bq env x=bq env' x:=by
 cases x with
 |tmp t=>exact hx t (by simp[bM.reads])
 |val v=>rfl
theorem sE {env env':List (Nat×V)} {l:List bM} (hl:∀t∈l.flatMap bM.reads,get env t=get env' t):l.map (bq env)=l.map (bq env'):=by
 induction l with
 |nil=>rfl
 |cons x r ih=>
  simp only[List.flatMap_cons,List.mem_append]at hl
  simp only[List.map_cons]
  rw[aU (fun t ht=>hl t (.inl ht)),ih (fun t ht=>hl t (.inr ht))]
theorem jG {env env':List (Nat×V)}:∀{parts:List (Nat×Nat×bM)} {cs:List V},(∀t∈parts.flatMap (fun p=>p.2.2.reads),get env t=get env' t)→eM (bq env) cs parts=eM (bq env') cs parts
 |[],cs,_=>rfl
 |(off,n,x)::r,cs,hl=>by
  simp only[List.flatMap_cons,List.mem_append]at hl
  simp only[eM]
  rw[aU (fun t ht=>hl t (.inl ht))]
  split
  .exact jG (fun t ht=>hl t (.inr ht))
  .rfl
theorem gK {env env':List (Nat×V)} {o:Option bM} (ho:∀t∈kx o,get env t=get env' t) (d n:Nat):bound (bq env) o d n=bound (bq env') o d n:=by
 cases o with
 |none=>rfl
 |some x=>simp only[bound]; rw[aU ho]
theorem wF {env env':List (Nat×V)} {lo hi mx:Option bM} (h1:∀t∈kx lo,get env t=get env' t) (h2:∀t∈kx hi,get env t=get env' t) (h3:∀t∈kx mx,get env t=get env' t) (n:Nat):
  bounds (bq env) lo hi mx n=bounds (bq env') lo hi mx n:=by
 simp only[bounds,gK h1,gK h2]
 cases mx with
 |none=>rfl
 |some m=>simp only[gK h3]
theorem eval_congr {env env':List (Nat×V)} {h:af} {q:eb} (hq:∀t∈q.reads,get env t=get env' t):evalOp Φ Pr Tk (bq env) h q=evalOp Φ Pr Tk (bq env') h q:=by
 cases q with
 |Ol x=>simp only[evalOp]; rw[aU hq]
 |pick c a b=>
  simp only[eb.reads,List.mem_append]at hq
  simp only[evalOp]
  rw[aU (x:=c) (fun t ht=>hq t (by simp[ht])),aU (x:=a) (fun t ht=>hq t (by simp[ht])),aU (x:=b) (fun t ht=>hq t (by simp[ht]))]
 |alloc slot z=>rfl
 |box slot n x=>simp only[evalOp]; rw[aU hq]
 |build z parts=>simp only[evalOp]; rw[jG hq]
 |lit k z len parts=>simp only[evalOp]; rw[jG hq]
 |lx i k z len parts=>simp only[evalOp]; rw[jG hq]
 |lz i k x y=>
  simp only[eb.reads,List.mem_append]at hq
  simp only[evalOp]
  rw[aU (x:=x) (fun t ht=>hq t (by simp[ht])),aU (x:=y) (fun t ht=>hq t (by simp[ht]))]
 |load n b x=>simp only[evalOp]; rw[aU hq]
 |wh x=>simp only[evalOp]; rw[aU hq]
 |un op x=>simp only[evalOp]; rw[aU hq]
 |conv k x=>simp only[evalOp]; rw[aU hq]
 |wi x=>simp only[evalOp]; rw[aU hq]
 |RD off x=>simp only[evalOp]; rw[aU hq]
 |part off n b x=>simp only[evalOp]; rw[aU hq]
 |len kd x=>simp only[evalOp]; rw[aU hq]
 |ext x i=>simp only[evalOp]; rw[aU hq]
 |H4 k z x=>simp only[evalOp]; rw[aU hq]
 |rq=>rfl
 |FK f cap=>simp only[evalOp]; rw[sE hq]
 |lh b args=>simp only[evalOp]; rw[sE hq]
 |call f args=>
  simp only[eb.reads,List.mem_append]at hq
  simp only[evalOp]
  rw[aU (x:=f) (fun t ht=>hq t (.inl ht)),sE (fun t ht=>hq t (.inr ht))]
 |sl k x lo hi mx=>
  simp only[eb.reads,List.mem_append]at hq
  have hb:bounds (bq env) lo hi mx=bounds (bq env') lo hi mx:=funext (wF (fun t ht=>hq t (by simp[ht])) (fun t ht=>hq t (by simp[ht])) (fun t ht=>hq t (by simp[ht])))
  simp only[evalOp,cZ,hb]
  rw[aU (x:=x) (fun t ht=>hq t (by simp[ht]))]
 |SF x lo hi=>
  simp only[eb.reads,List.mem_append]at hq
  have h1:∀d n,bound (bq env) lo d n=bound (bq env') lo d n:=gK (fun t ht=>hq t (by simp[ht]))
  have h2:∀d n,bound (bq env) hi d n=bound (bq env') hi d n:=gK (fun t ht=>hq t (by simp[ht]))
  simp only[evalOp,wq,h1,h2]
  rw[aU (x:=x) (fun t ht=>hq t (by simp[ht]))]
 |FJ ag ks m k v=>
  simp only[eb.reads,List.mem_append]at hq
  simp only[evalOp]
  rw[aU (x:=m) (fun t ht=>hq t (by simp[ht])),aU (x:=k) (fun t ht=>hq t (by simp[ht])),aU (x:=v) (fun t ht=>hq t (by simp[ht]))]
 |store n x y=>
  simp only[eb.reads,List.mem_append]at hq
  simp only[evalOp]
  rw[aU (x:=x) (fun t ht=>hq t (by simp[ht])),aU (x:=y) (fun t ht=>hq t (by simp[ht]))]
 |bin op x y=>
  simp only[eb.reads,List.mem_append]at hq
  simp only[evalOp]
  rw[aU (x:=x) (fun t ht=>hq t (by simp[ht])),aU (x:=y) (fun t ht=>hq t (by simp[ht]))]
 |Om ag ks b x y=>
  simp only[eb.reads,List.mem_append]at hq
  simp only[evalOp]
  rw[aU (x:=x) (fun t ht=>hq t (by simp[ht])),aU (x:=y) (fun t ht=>hq t (by simp[ht]))]
 |idx k x y=>
  simp only[eb.reads,List.mem_append]at hq
  simp only[evalOp]
  rw[aU (x:=x) (fun t ht=>hq t (by simp[ht])),aU (x:=y) (fun t ht=>hq t (by simp[ht]))]
 |FI n k x y=>
  simp only[eb.reads,List.mem_append]at hq
  simp only[evalOp]
  rw[aU (x:=x) (fun t ht=>hq t (by simp[ht])),aU (x:=y) (fun t ht=>hq t (by simp[ht]))]
 |SE n k b x y=>
  simp only[eb.reads,List.mem_append]at hq
  simp only[evalOp]
  rw[aU (x:=x) (fun t ht=>hq t (by simp[ht])),aU (x:=y) (fun t ht=>hq t (by simp[ht]))]
 |RE x y=>
  simp only[eb.reads,List.mem_append]at hq
  simp only[evalOp]
  rw[aU (x:=x) (fun t ht=>hq t (by simp[ht])),aU (x:=y) (fun t ht=>hq t (by simp[ht]))]
 |app k x y=>
  simp only[eb.reads,List.mem_append]at hq
  simp only[evalOp]
  rw[aU (x:=x) (fun t ht=>hq t (by simp[ht])),aU (x:=y) (fun t ht=>hq t (by simp[ht]))]
 |copy k x y=>
  simp only[eb.reads,List.mem_append]at hq
  simp only[evalOp]
  rw[aU (x:=x) (fun t ht=>hq t (by simp[ht])),aU (x:=y) (fun t ht=>hq t (by simp[ht]))]
 |make k z x y=>
  simp only[eb.reads,List.mem_append]at hq
  simp only[evalOp]
  rw[aU (x:=x) (fun t ht=>hq t (by simp[ht])),aU (x:=y) (fun t ht=>hq t (by simp[ht]))]
 |gC i k z x y=>
  simp only[eb.reads,List.mem_append]at hq
  simp only[evalOp]
  rw[aU (x:=x) (fun t ht=>hq t (by simp[ht])),aU (x:=y) (fun t ht=>hq t (by simp[ht]))]
 |look ag ks z x y ok=>
  simp only[eb.reads,List.mem_append]at hq
  simp only[evalOp]
  rw[aU (x:=x) (fun t ht=>hq t (by simp[ht])),aU (x:=y) (fun t ht=>hq t (by simp[ht]))]
def Tn.idle (t:Tn):Prop:=t.bx=none∧t.ar=none∧t.push=[]∧t.mp=none∧t.pR=false∧t.all=none
theorem Tn.idle.apply {t:Tn} (ht:t.idle) (h:af):t.apply h=h:=by
 obtain⟨h1,h2,h3,h4,h5,h6⟩:=ht
 cases h
 simp[Tn.apply,h1,h2,h3,h4,h5,h6]
theorem sF {x:Option V} {v:V} {t:Tn} (hh:(x.map fun v=>(v,({}:Tn)))=some (v,t)):x=some v∧t={}:=by
 obtain⟨y,h1,h2⟩:=map_some hh
 injection h2 with e1 e2
 subst e1
 exact⟨h1,e2⟩
theorem lV:Tn.idle {}:=⟨rfl,rfl,rfl,rfl,rfl,rfl⟩
theorem yc {h:af} {n:Nat} {x:V} {cs:List V} {t:Tn} (hh:loadAt h n x=some (cs,t)):t.idle:=by
 unfold loadAt at hh
 split at hh
 all_goals (repeat' (split at hh))
 all_goals first|(cases hh; done)|(injection hh with hh; injection hh with e1 e2; subst e2; exact⟨rfl,rfl,rfl,rfl,rfl,rfl⟩)
theorem Cl {h:af} {kd:Nat} {x:V} {n:Nat} {t:Tn} (hh:fY h kd x=some (n,t)):t.idle:=by
 unfold fY at hh
 split at hh
 all_goals (repeat' (split at hh))
 all_goals first|(cases hh; done)|(injection hh with hh; injection hh with e1 e2; subst e2; exact⟨rfl,rfl,rfl,rfl,rfl,rfl⟩)
theorem Cm {h:af} {k:Nat} {x v:V} {i:Option Int} {t:Tn} (hh:pS h k x i=some (v,t)):t.idle:=by
 unfold pS at hh
 split at hh
 .obtain⟨_,rfl⟩:=sF hh; exact lV
 .obtain⟨_,rfl⟩:=sF hh; exact lV
 .repeat' (split at hh)
  all_goals first|(cases hh; done)|(injection hh with hh; injection hh with e1 e2; subst e2; exact⟨rfl,rfl,rfl,rfl,rfl,rfl⟩)
 .cases hh
theorem yd {h:af} {k:Nat} {x v:V} {lo hi mx:Option bM} {t:Tn} (hh:cZ g h k x lo hi mx=some (v,t)):t.idle:=by
 unfold cZ at hh
 split at hh
 all_goals (repeat' (split at hh))
 all_goals first|(cases hh; done)|(injection hh with hh; injection hh with e1 e2; subst e2; exact⟨rfl,rfl,rfl,rfl,rfl,rfl⟩)
theorem p7 {h:af} {q:eb} {v:V} {t:Tn} (hq:q.turns=false) (he:evalOp Φ Pr Tk g h q=some (v,t)):t.idle:=by
 cases q<;>first|(simp[eb.turns]at hq; done)|simp only[evalOp]at he
 case sl=>exact yd he
 case idx=>exact Cm he
 case load=>
  split at he<;>first|(cases he; done)|skip
  rename_i hl
  split at he<;>first|(cases he; done)|skip
  injection he with he; injection he with e1 e2; subst e2
  exact yc hl
 case len=>
  split at he<;>first|(cases he; done)|skip
  rename_i hl
  injection he with he; injection he with e1 e2; subst e2
  exact Cl hl
 case look=>
  split at he<;>first|(cases he; done)|skip
  split at he<;>first|(cases he; done)|skip
  split at he<;>first|(cases he; done)|skip
  injection he with he; injection he with e1 e2; subst e2
  split<;>exact⟨rfl,rfl,rfl,rfl,rfl,rfl⟩
 all_goals (repeat' (split at he))
 all_goals first
  |(cases he; done)
  |(injection he with he; injection he with e1 e2; subst e2; exact lV)
  |(obtain⟨_,rfl⟩:=sF he; exact lV)
theorem Al {h1 h2:af} {q:eb} {v:V} {t:Tn} (hl:q.looks=false) (hq:q.turns=false) (he:evalOp Φ Pr Tk g h1 q=some (v,t)):evalOp Φ Pr Tk g h2 q=some (v,t):=by
 cases q<;>first|(simp[eb.turns]at hq; done)|(simp[eb.looks]at hl; done)|exact he
end Go.Pv
namespace Go.Pv
variable {g g':bM→V} {Φ:Nat→List PV→Option (List PV)} {Pr:br} {Tk:Nat→Bool}
def Tn.fit (t:Tn) (h:af):Prop:=(t.push≠[]→t.base=h.ar.length)∧∀i a,t.ar=some (i,a)→i<h.ar.length
structure cX (Pr:br):Prop where
 loc:Bz Pr
 fit:∀fn pr,Pr fn=some pr→∀vs h v t,pr vs h=some (v,t)→t.fit h
 gG:∀fn pr,Pr fn=some pr→∀vs h v t,pr vs h=some (v,t)→t.new=false
theorem Tn.idle.fit {t:Tn} (ht:t.idle) (h:af):t.fit h:=by
 obtain⟨h1,h2,h3,h4,h5,h6⟩:=ht
 exact⟨fun hp=>absurd h3 hp,fun i a hia=>by rw[h2]at hia; cases hia⟩
theorem gn {h:af} {id aq:Nat} {a:aL} (ho:aF h id aq=some a):id<h.ar.length:=(Vy.1 (bB ho).1).1
theorem qL {h:af} {k:Nat} {x y v:V} {t:Tn} (hh:aJ h k x y=some (v,t)):t.fit h:=by
 unfold aJ at hh
 split at hh<;>first|(cases hh; done)|skip
 split at hh<;>first|(cases hh; done)|skip
 split at hh<;>first|(cases hh; done)|skip
 .split at hh
  .injection hh with hh; injection hh with e1 e2; subst e2
   exact⟨fun hp=>absurd rfl hp,fun i a hia=>by cases hia⟩
  .split at hh<;>first|(cases hh; done)|skip
   injection hh with hh; injection hh with e1 e2; subst e2
   exact⟨fun _=>rfl,fun i a hia=>by cases hia⟩
 .split at hh<;>first|(cases hh; done)|skip
  rename_i ho
  split at hh
  .injection hh with hh; injection hh with e1 e2; subst e2
   exact⟨fun hp=>absurd rfl hp,fun i a hia=>by cases hia⟩
  .split at hh<;>first|(cases hh; done)|skip
   injection hh with hh; injection hh with e1 e2; subst e2
   exact⟨fun hp=>absurd rfl hp,fun i a hia=>by injection hia with hia; injection hia with e1 e2; subst e1; exact gn ho⟩
theorem wG {h:af} {id k:Nat} {x y v:V} {t:Tn} (hh:fI h id k x y=some (v,t)):t.fit h:=by
 unfold fI at hh
 split at hh
 rotate_left
 .exact qL hh
 split at hh<;>first|(cases hh; done)|skip
 split at hh<;>first|(cases hh; done)|skip
 split at hh
 .injection hh with hh; injection hh with e1 e2; subst e2
  exact⟨fun hp=>absurd rfl hp,fun i a hia=>by cases hia⟩
 .split at hh<;>first|(cases hh; done)|skip
  rename_i ho
  split at hh<;>first|(cases hh; done)|skip
  injection hh with hh; injection hh with e1 e2; subst e2
  exact⟨fun hp=>absurd rfl hp,fun i a hia=>by injection hia with hia; injection hia with e1 e2; subst e1; exact(Vy.1 ho).1⟩
theorem Cn {h:af} {k:Nat} {x y v:V} {t:Tn} (hh:copyV h k x y=some (v,t)):t.fit h:=by
 unfold copyV at hh
 split at hh<;>first|(cases hh; done)|skip
 split at hh<;>first|(cases hh; done)|skip
 split at hh<;>first|(cases hh; done)|skip
 split at hh
 .injection hh with hh; injection hh with e1 e2; subst e2
  exact⟨fun hp=>absurd rfl hp,fun i a hia=>by cases hia⟩
 .split at hh<;>first|(cases hh; done)|skip
  rename_i ho
  split at hh<;>first|(cases hh; done)|skip
  split at hh<;>first|(cases hh; done)|skip
  injection hh with hh; injection hh with e1 e2; subst e2
  exact⟨fun hp=>absurd rfl hp,fun i a hia=>by injection hia with hia; injection hia with e1 e2; subst e1; exact gn ho⟩
theorem ye {h:af} {x:V} {news:List V} {t:Tn} (hh:storeAt h x news=some t):t.fit h:=by
 unfold storeAt at hh
 split at hh<;>first|(cases hh; done)|skip
 .split at hh<;>first|(cases hh; done)|skip
  split at hh<;>first|(cases hh; done)|skip
  injection hh with hh; subst hh
  exact⟨fun hp=>absurd rfl hp,fun i a hia=>by cases hia⟩
 .split at hh<;>first|(cases hh; done)|skip
  rename_i ho
  split at hh<;>first|(cases hh; done)|skip
  injection hh with hh; subst hh
  exact⟨fun hp=>absurd rfl hp,fun i a hia=>by injection hia with hia; injection hia with e1 e2; subst e1; exact gn ho⟩
theorem yf {h:af} {tk:Bool} {vs:List V} {ps:List PV} {i:Nat} {a:aL} (hh:cA h tk vs=some (ps,some (i,a))):i<h.ar.length:=by
 unfold cA at hh
 split at hh
 .split at hh<;>first|(cases hh; done)|skip
  split at hh<;>first|(cases hh; done)|skip
  .split at hh<;>first|(cases hh; done)|skip
  .rename_i p j b hl
   split at hh<;>first|(cases hh; done)|skip
   injection hh with hh; injection hh with e1 e2
   injection e2 with e2; injection e2 with e3 e4
   subst e3
   unfold cw at hl
   split at hl<;>first|(cases hl; done)|skip
   split at hl<;>first|(cases hl; done)|skip
   rename_i ho
   split at hl<;>first|(cases hl; done)|skip
   split at hl<;>first|(cases hl; done)|skip
   injection hl with hl; injection hl with q1 q2; injection q2 with q2; injection q2 with q3 q4; subst q3
   exact gn ho
 .split at hh<;>first|(cases hh; done)|skip
theorem D2 (hPL:cX Pr) {h:af} {q:eb} {v:V} {t:Tn} (he:evalOp Φ Pr Tk g h q=some (v,t)):t.fit h:=by
 cases hq:q.turns with
 |false=>exact(p7 hq he).fit h
 |true=>
  cases q<;>first|(simp[eb.turns]at hq; done)|skip
  case alloc slot zero=>
   simp only[evalOp]at he
   split at he<;>first|(cases he; done)|skip
   injection he with he; injection he with e1 e2; subst e2
   exact⟨fun hp=>absurd rfl hp,fun i a hia=>by cases hia⟩
  case box slot n x=>
   simp only[evalOp]at he
   split at he<;>first|(cases he; done)|skip
   split at he<;>first|(cases he; done)|skip
   injection he with he; injection he with e1 e2; subst e2
   exact⟨fun hp=>absurd rfl hp,fun i a hia=>by cases hia⟩
  case lit k zero len parts=>
   simp only[evalOp]at he
   split at he<;>first|(cases he; done)|skip
   split at he
   .injection he with he; injection he with e1 e2; subst e2
    exact lV.fit h
   .split at he<;>first|(cases he; done)|skip
    injection he with he; injection he with e1 e2; subst e2
    exact⟨fun _=>rfl,fun i a hia=>by cases hia⟩
  case store n x y=>
   simp only[evalOp]at he
   split at he<;>first|(cases he; done)|skip
   split at he<;>first|(cases he; done)|skip
   rename_i hs
   injection he with he; injection he with e1 e2; subst e2
   exact ye hs
  case app k x y=>exact qL he
  case lz id k x y=>exact wG he
  case lx id k zero len parts=>
   simp only[evalOp]at he
   split at he<;>first|(cases he; done)|skip
   split at he<;>first|(cases he; done)|skip
   rename_i ho
   split at he<;>first|(cases he; done)|skip
   injection he with he; injection he with e1 e2; subst e2
   exact⟨fun hp=>absurd rfl hp,fun i a hia=>by injection hia with hia; injection hia with e1 e2; subst e1; exact(Vy.1 ho).1⟩
  case copy k x y=>exact Cn he
  case make k zero n c=>
   simp only[evalOp]at he
   split at he<;>first|(cases he; done)|skip
   split at he<;>first|(cases he; done)|skip
   injection he with he; injection he with e1 e2; subst e2
   exact⟨fun _=>rfl,fun i a hia=>by cases hia⟩
  case gC id k zero n c=>
   simp only[evalOp]at he
   split at he<;>first|(cases he; done)|skip
   rename_i ho
   split at he<;>first|(cases he; done)|skip
   injection he with he; injection he with e1 e2; subst e2
   exact⟨fun hp=>absurd rfl hp,fun i a hia=>by injection hia with hia; injection hia with e1 e2; subst e1; exact(Vy.1 ho).1⟩
  case rq=>
   simp only[evalOp]at he
   injection he with he; injection he with e1 e2; subst e2
   exact⟨fun hp=>absurd rfl hp,fun i a hia=>by cases hia⟩
  case FJ ag ks m k x=>
   simp only[evalOp]at he
   split at he<;>first|(cases he; done)|skip
   split at he<;>first|(cases he; done)|skip
   split at he<;>first|(cases he; done)|skip
   all_goals
    injection he with he; injection he with e1 e2; subst e2
    exact⟨fun hp=>absurd rfl hp,fun i a hia=>by cases hia⟩
  case call f args=>
   simp only[evalOp]at he
   split at he<;>first|(cases he; done)|skip
   rename_i fn cap hf
   split at he
   .rename_i pr hpr
    exact hPL.fit fn pr hpr _ _ _ _ he
   .split at he<;>first|(cases he; done)|skip
    rename_i ps a hl
    split at he<;>first|(cases he; done)|skip
    injection he with he; injection he with e1 e2; subst e2
    refine⟨fun hp=>?_,fun i b hia=>?_⟩
    .simp only at hp ⊢
     rw[if_neg (by simpa using hp)]
    .simp only at hia
     subst hia
     exact yf hl
  case H4 k zero x=>
   simp only[evalOp]at he
   split at he<;>first|(cases he; done)|skip
   .injection he with he; injection he with e1 e2; subst e2; exact lV.fit h
   .injection he with he; injection he with e1 e2; subst e2; exact lV.fit h
   .split at he<;>first|(cases he; done)|skip
    rename_i ho _
    split at he<;>first|(cases he; done)|skip
    split at he<;>first|(cases he; done)|skip
    injection he with he; injection he with e1 e2; subst e2
    exact⟨fun hp=>absurd rfl hp,fun i a hia=>by injection hia with hia; injection hia with e1 e2; subst e1; exact gn ho⟩
def lk (o:Option (Nat×aL)) (l:List aL):List aL:=
 match o with
 |some (i,a)=>l.set i a
 |none=>l
theorem dy {t:Tn} (ha:t.all=none) (h:af):t.apply h={ bx:=match t.bx with|some (s,cs)=>ec s cs h.bx|none=>h.bx,ar:=(match t.ar with|some (i,a)=>h.ar.set i a|none=>h.ar)++t.push,mp:=(match t.mp with|some (i,m)=>h.mp.set i m|none=>h.mp)++(if t.pR then [[]] else []) }:=by
 unfold Tn.apply
 rw[ha]
 rfl
theorem cO {t:Tn} (ha:t.all=none) (h:af):(t.apply h).ar=lk t.ar h.ar++t.push:=by
 rw[dy ha]
 cases ht:t.ar with
 |none=>simp[lk]
 |some ia=>obtain⟨i,a⟩:=ia; simp[lk]
theorem u4 (o:Option (Nat×aL)) (l:List aL):(lk o l).length=l.length:=by
 cases o with
 |none=>rfl
 |some ia=>obtain⟨i,a⟩:=ia; simp[lk]
theorem kK {o p:Option Nat} (hh:jZ o p (·==·)=true) {x:Nat} (ho:o=some x):p≠some x:=by
 intro hp
 subst ho; subst hp
 simp[jZ]at hh
theorem yg {a b:Tn} (hoff:a.oq b=true) {h:af} (hf:a.fit h):(∀s,b.rb=some s∨(∃c,b.bx=some (s,c))→aG s h.bx=aG s (a.apply h).bx)∧
  (∀i,b.ra=some i∨b.nD=some i∨(∃x,b.ar=some (i,x))→h.ar[i]?=(a.apply h).ar[i]?)∧(b.push≠[]→h.ar.length=(a.apply h).ar.length)∧h.mp=(a.apply h).mp:=by
 simp only[Tn.oq,Bool.and_eq_true,Bool.or_eq_true,Bool.not_eq_true']at hoff
 obtain⟨⟨⟨⟨⟨⟨⟨⟨o1,o2⟩,o3⟩,o4⟩,o5⟩,o6⟩,o7⟩,o8⟩,o9,_⟩:=hoff
 have o9:a.all=none:=by simpa using o9
 refine⟨fun s hs=>?_,fun i hi=>?_,fun hp=>?_,?_⟩
 .cases hbx:a.bx with
  |none=>simp[dy o9,hbx]
  |some sc=>
   obtain⟨s0,c0⟩:=sc
   have hne:s0≠s:=by
    intro he
    subst he
    rcases hs with hs|⟨c,hs⟩
    .exact kK o2 (x:=s0) (by simp[hbx]) hs
    .exact kK o1 (x:=s0) (by simp[hbx]) (by simp[hs])
   have he:(a.apply h).bx=ec s0 c0 h.bx:=by simp[dy o9,hbx]
   have hl:aG s (ec s0 c0 h.bx)=if s0=s then some c0 else aG s h.bx:=dQ (α:=List V) s0 s c0 h.bx
   rw[he,hl,if_neg hne]
 .have hset:(lk a.ar h.ar)[i]?=h.ar[i]?:=by
   cases har:a.ar with
   |none=>rfl
   |some ia=>
    obtain⟨i0,x0⟩:=ia
    have hne:i0≠i:=by
     intro he
     subst he
     rcases hi with hi|hi|⟨x,hi⟩
     .exact kK o4 (x:=i0) (by simp[har]) hi
     .exact kK o5 (x:=i0) (by simp[har]) hi
     .exact kK o3 (x:=i0) (by simp[har]) (by simp[hi])
    simp only[lk]
    rw[VX hne]
  have hlen:=u4 a.ar h.ar
  rw[cO o9]
  rcases o6 with o6|⟨_,o6⟩
  .rw[W3.1 o6,Wj,hset]
  .by_cases hp:a.push=[]
   .rw[hp,Wj,hset]
   .have hb:=hf.1 hp
    rw[hb]at o6
    have hlt:i<h.ar.length:=by
     simp only[Tn.gG,Bool.and_eq_true]at o6
     obtain⟨⟨p1,p2⟩,p3⟩:=o6
     rcases hi with hi|hi|⟨x,hi⟩
     .rw[hi]at p2; simpa using p2
     .rw[hi]at p3; simpa using p3
     .rw[hi]at p1; simpa using p1
    rw[VC (by rw[hlen]; exact hlt),hset]
 .have:a.push=[]:=by
   rcases o6 with o6|⟨o6,_⟩
   .exact W3.1 o6
   .exact absurd (W3.1 o6) hp
  rw[cO o9,this,Wj,u4]
 .have h7:a.mp=none:=by simpa using o7
  simp[dy o9,h7,o8]
theorem Gc {a b:Tn} (hoff:a.off b=true) (hall:b.eX=true) (h:af):p5 h (a.apply h):=by
 simp only[Tn.off,Tn.oq,Bool.and_eq_true,Bool.or_eq_true,Bool.not_eq_true']at hoff
 obtain⟨⟨⟨⟨_,o7⟩,o8⟩,oa,_⟩,o9⟩:=hoff
 have oa:a.all=none:=by simpa using oa
 rcases o9 with o9|⟨⟨o9,o10⟩,o11⟩
 .rw[hall]at o9; cases o9
 .have h1:a.bx=none:=by simpa using o9
  have h2:a.ar=none:=by simpa using o10
  have h3:a.push=[]:=W3.1 o11
  have h7:a.mp=none:=by simpa using o7
  rw[Tn.idle.apply ⟨h1,h2,h3,h7,o8,oa⟩]
  exact p5.refl h
theorem sG {a b:Tn} (hoff:a.oq b=true):a.all=none∧b.all=none:=by
 simp only[Tn.oq,Bool.and_eq_true,Bool.or_eq_true,Bool.not_eq_true']at hoff
 obtain⟨_,o9,o10⟩:=hoff
 exact⟨by simpa using o9,by simpa using o10⟩
theorem Co {a b:Tn} (hoff:a.off b=true) {h:af} (hf:a.fit h):gI b (a.apply h) h:=by
 have hb:a.oq b=true:=by simp only[Tn.off,Bool.and_eq_true]at hoff; exact hoff.1
 obtain⟨k1,k2,k3,k4⟩:=yg hb hf
 exact⟨fun s hs=>(k1 s hs).symm,fun i hi=>(k2 i hi).symm,fun hp=>(k3 hp).symm,k4.symm,fun ha=>(Gc hoff ha h).symm.grow,fun ha=>by rw[(sG hb).2]at ha; cases ha⟩
theorem D3 {a b:Tn} (hoff:a.zQ b=true) {h:af} (hf:a.fit h) (hn:a.new=true→∀s c,a.bx=some (s,c)→aG s h.bx=none):gI b h (a.apply h):=by
 have hb:a.oq b=true:=by simp only[Tn.zQ,Bool.and_eq_true]at hoff; exact hoff.1
 obtain⟨k1,k2,k3,k4⟩:=yg hb hf
 obtain⟨wa,wb⟩:=sG hb
 refine⟨k1,k2,k3,k4,fun hall=>?_,fun ha=>by rw[wb]at ha; cases ha⟩
 simp only[Tn.zQ,Bool.and_eq_true,Bool.or_eq_true,Bool.not_eq_true']at hoff
 obtain⟨_,o9⟩:=hoff
 rcases o9 with o9|⟨o9,o10⟩
 .rw[hall]at o9; cases o9
 .have h2:a.ar=none:=by simpa using o10
  refine⟨fun s c hs=>?_,fun i x hi=>?_⟩
  .cases hbx:a.bx with
   |none=>simpa [dy wa,hbx]using hs
   |some sc=>
    obtain⟨s0,c0⟩:=sc
    have hnew:a.new=true:=by
     rcases o9 with o9|o9
     .simp[hbx]at o9
     .exact o9
    have h0:=hn hnew s0 c0 hbx
    have he:(a.apply h).bx=ec s0 c0 h.bx:=by simp[dy wa,hbx]
    have hl:aG s (ec s0 c0 h.bx)=if s0=s then some c0 else aG s h.bx:=dQ (α:=List V) s0 s c0 h.bx
    rw[he,hl,if_neg (fun hc=>by subst hc; rw[h0]at hs; cases hs)]
    exact hs
  .rw[cO wa,h2]
   simp only[lk]
   rw[VC (Vy.1 hi).1]
   exact hi
theorem yh {h:af} {x:V} {news:List V} {t:Tn} (hh:storeAt h x news=some t):t.new=false:=by
 unfold storeAt at hh
 repeat' split at hh
 all_goals first|(cases hh; done)|(injection hh with hh; subst hh; rfl)
theorem D4 (hPL:cX Pr) {h:af} {q:eb} {v:V} {t:Tn} (he:evalOp Φ Pr Tk g h q=some (v,t)) (hn:t.new=true):∀s c,t.bx=some (s,c)→aG s h.bx=none:=by
 intro s c hb
 cases hq:q.turns with
 |false=>
  have:=(p7 hq he).1
  rw[this]at hb; cases hb
 |true=>
  cases q<;>first|(simp[eb.turns]at hq; done)|skip
  case alloc slot zero=>
   simp only[evalOp]at he
   split at he<;>first|(cases he; done)|skip
   rename_i hs
   injection he with he; injection he with e1 e2; subst e2
   injection hb with hb; injection hb with e3 e4; subst e3
   exact hs
  case box slot n x=>
   simp only[evalOp]at he
   split at he<;>first|(cases he; done)|skip
   rename_i hs
   split at he<;>first|(cases he; done)|skip
   injection he with he; injection he with e1 e2; subst e2
   injection hb with hb; injection hb with e3 e4; subst e3
   exact hs
  case store n x y=>
   simp only[evalOp]at he
   split at he<;>first|(cases he; done)|skip
   split at he<;>first|(cases he; done)|skip
   rename_i hs
   injection he with he; injection he with e1 e2; subst e2
   rw[yh hs]at hn; cases hn
  case call f args=>
   simp only[evalOp]at he
   split at he<;>first|(cases he; done)|skip
   split at he
   .rename_i pr hpr
    rw[hPL.gG _ pr hpr _ _ _ _ he]at hn; cases hn
   .split at he<;>first|(cases he; done)|skip
    split at he<;>first|(cases he; done)|skip
    injection he with he; injection he with e1 e2; subst e2
    cases hn
  all_goals
   simp only[evalOp,fI,aJ,copyV]at he
   repeat' split at he
   all_goals first|(cases he; done)|(injection he with he; injection he with e1 e2; subst e2; first|(cases hn; done)|(cases hb; done))
theorem fB {t:Tn} (ha:t.all=none) (h:af) (s:Nat):aG s (t.apply h).bx=match t.bx with|some (s0,c)=>(if s0=s then some c else aG s h.bx)|none=>aG s h.bx:=by
 rw[dy ha]
 cases hb:t.bx with
 |none=>simp
 |some sc=>obtain⟨s0,c⟩:=sc; simp only; exact dQ (α:=List V) _ _ _ _
theorem sH (s:Nat):∀(bs:List (Nat×List V)) {b1 b2:List (Nat×List V)},(∀s,aG s b1=aG s b2)→aG s (fe bs b1)=aG s (fe bs b2)
 |[],_,_,hh=>hh s
 |(t,c)::r,b1,b2,hh=>by
  refine sH s r fun u=>?_
  have h1:aG u (ec t c b1)=if t=u then some c else aG u b1:=dQ (α:=List V) t u c b1
  have h2:aG u (ec t c b2)=if t=u then some c else aG u b2:=dQ (α:=List V) t u c b2
  rw[h1,h2,hh u]
theorem p5.apply {h1 h2:af} (k:p5 h1 h2) (t:Tn):p5 (t.apply h1) (t.apply h2):=by
 cases ha:t.all with
 |some x=>
  obtain⟨bs,ar,mp⟩:=x
  unfold Tn.apply
  rw[ha]
  exact⟨fun s=>sH s bs k.bx,rfl,rfl⟩
 |none=>
 refine⟨fun s=>?_,by rw[dy ha,dy ha,k.ar],by rw[dy ha,dy ha,k.mp]⟩
 rw[fB ha,fB ha]
 cases t.bx with
 |none=>exact k.bx s
 |some sc=>obtain⟨s0,c⟩:=sc; simp only; rw[k.bx s]
theorem Am {a b:Tn} (hab:a.oq b=true) (hba:b.oq a=true) {h:af} (ha:a.fit h) (hb:b.fit h):p5 (b.apply (a.apply h)) (a.apply (b.apply h)):=by
 simp only[Tn.oq,Bool.and_eq_true,Bool.or_eq_true,Bool.not_eq_true']at hab hba
 obtain⟨⟨⟨⟨⟨⟨⟨⟨o1,o2⟩,o3⟩,o4⟩,o5⟩,o6⟩,o7⟩,o8⟩,wa,wb⟩:=hab
 obtain⟨⟨⟨⟨⟨⟨⟨⟨q1,q2⟩,q3⟩,q4⟩,q5⟩,q6⟩,q7⟩,q8⟩,_⟩:=hba
 have wa:a.all=none:=by simpa using wa
 have wb:b.all=none:=by simpa using wb
 have m1:a.mp=none:=by simpa using o7
 have m2:b.mp=none:=by simpa using q7
 refine⟨fun s=>?_,?_,by simp[dy wa,dy wb,m1,m2,o8,q8]⟩
 .rw[fB wb,fB wa,fB wa,fB wb]
  cases hax:a.bx with
  |none=>cases b.bx<;>rfl
  |some sc=>
   obtain⟨s0,c0⟩:=sc
   cases hbx:b.bx with
   |none=>rfl
   |some sd=>
    obtain⟨s1,c1⟩:=sd
    have hne:s1≠s0:=fun he=>kK o1 (x:=s0) (by simp[hax]) (by simp[hbx,he])
    simp only
    by_cases h1:s1=s
    .subst h1
     rw[if_pos rfl,if_neg (Ne.symm hne),if_pos rfl]
    .rw[if_neg h1]
     by_cases h0:s0=s<;>simp[h0,h1]
 .have hp:a.push=[]∨b.push=[]:=by
   rcases o6 with o6|⟨o6,_⟩
   .exact .inl (W3.1 o6)
   .exact .inr (W3.1 o6)
  rw[cO wb,cO wa,cO wa,cO wb]
  cases har:a.ar with
  |none=>
   cases hbr:b.ar with
   |none=>rcases hp with hp|hp<;>simp[hp,lk]
   |some jb=>
    obtain⟨j,y⟩:=jb
    have hj:=hb.2 j y hbr
    simp only[lk]
    rw[List.set_append_left _ _ hj]
    rcases hp with hp|hp<;>simp[hp]
  |some ia=>
   obtain⟨i,x⟩:=ia
   have hi:=ha.2 i x har
   cases hbr:b.ar with
   |none=>
    simp only[lk]
    rw[List.set_append_left _ _ hi]
    rcases hp with hp|hp<;>simp[hp]
   |some jb=>
    obtain⟨j,y⟩:=jb
    have hj:=hb.2 j y hbr
    have hne:i≠j:=fun he=>kK o3 (x:=i) (by simp[har]) (by simp[hbr,he])
    simp only[lk]
    rw[List.set_append_left _ _ (by simpa using hj),List.set_append_left _ _ (by simpa using hi),List.set_comm _ _ hne]
    rcases hp with hp|hp<;>simp[hp]
end Go.Pv
namespace Go.Pv
variable {g g':bM→V} {Φ:Nat→List PV→Option (List PV)} {Pr:br} {Tk:Nat→Bool}
def fO (Φ:Nat→List PV→Option (List PV)) (Pr:br) (Tk:Nat→Bool) (o:aE) (env:List (Nat×V)) (h:af):Option (V×Tn):=
 match wanted env o.guard with
 |none=>none
 |some false=>some (.dH [],{})
 |some true=>evalOp Φ Pr Tk (bq env) h o.op
theorem step_eq {o:aE} {s s':St} {t:Tn}:bz Φ Pr Tk o s=some (s',t)↔∃v,fO Φ Pr Tk o s.env s.h=some (v,t)∧s'=⟨put s.env o.dst v,t.apply s.h⟩:=by
 unfold bz fO
 cases hw:wanted s.env o.guard with
 |none=>simp
 |some b=>
  cases b with
  |false=>
   simp only[Option.some.injEq,Prod.mk.injEq]
   constructor
   .rintro ⟨rfl,rfl⟩; exact⟨.dH [],⟨rfl,rfl⟩,by rw[lV.apply]⟩
   .rintro ⟨v,⟨rfl,rfl⟩,rfl⟩; exact⟨by rw[lV.apply],rfl⟩
  |true=>
   simp only
   cases he:evalOp Φ Pr Tk (bq s.env) s.h o.op with
   |none=>simp
   |some vt=>
    obtain⟨v,t'⟩:=vt
    simp only[Option.some.injEq,Prod.mk.injEq]
    constructor
    .rintro ⟨rfl,rfl⟩; exact⟨v,⟨rfl,rfl⟩,rfl⟩
    .rintro ⟨v',⟨rfl,rfl⟩,rfl⟩; exact⟨rfl,rfl⟩
theorem lW {o:aE} {env env':List (Nat×V)} {h:af} (hq:∀t∈o.reads,get env t=get env' t):fO Φ Pr Tk o env h=fO Φ Pr Tk o env' h:=by
 have hw:wanted env o.guard=wanted env' o.guard:=by
  cases hg:o.guard with
  |none=>rfl
  |some tb=>
   obtain⟨t,b⟩:=tb
   simp only[wanted]
   rw[hq t (by simp[aE.reads,hg])]
 have hr:∀t∈o.op.reads,get env t=get env' t:=fun t ht=>hq t (by simp[aE.reads,ht])
 unfold fO
 rw[hw,eval_congr hr]
theorem p8 (hPL:cX Pr) {o:aE} {env:List (Nat×V)} {h1 h2:af} {v:V} {t:Tn} (he:fO Φ Pr Tk o env h1=some (v,t)) (ha:gI t h1 h2):fO Φ Pr Tk o env h2=some (v,t):=by
 unfold fO at he ⊢
 split at he
 .cases he
 .exact he
 .exact D1 hPL.loc he ha
theorem u5 (hPL:cX Pr) {o:aE} {env:List (Nat×V)} {h:af} {v:V} {t:Tn} (he:fO Φ Pr Tk o env h=some (v,t)):t.fit h:=by
 unfold fO at he
 split at he
 .cases he
 .injection he with he; injection he with e1 e2; subst e2; exact lV.fit h
 .exact D2 hPL he
theorem Cp (hPL:cX Pr) {o:aE} {env:List (Nat×V)} {h:af} {v:V} {t:Tn} (he:fO Φ Pr Tk o env h=some (v,t)) (hn:t.new=true):∀s c,t.bx=some (s,c)→aG s h.bx=none:=by
 unfold fO at he
 split at he
 .cases he
 .injection he with he; injection he with e1 e2; subst e2; cases hn
 .exact D4 hPL he hn
theorem nQ {o:aE} {env:List (Nat×V)} {h:af} {v:V} {t:Tn} (hq:o.op.turns=false) (he:fO Φ Pr Tk o env h=some (v,t)):t.idle:=by
 unfold fO at he
 split at he
 .cases he
 .injection he with he; injection he with e1 e2; subst e2; exact lV
 .exact p7 hq he
theorem qM {o:aE} {env:List (Nat×V)} {h1 h2:af} {v:V} {t:Tn} (hl:o.op.looks=false) (hq:o.op.turns=false) (he:fO Φ Pr Tk o env h1=some (v,t)):fO Φ Pr Tk o env h2=some (v,t):=by
 unfold fO at he ⊢
 split at he
 .cases he
 .exact he
 .exact Al hl hq he
def Seq (s s':St):Prop:=(∀t,get s.env t=get s'.env t)∧p5 s.h s'.h
theorem Seq.refl (s:St):Seq s s:=⟨fun _=>rfl,p5.refl _⟩
theorem Seq.trans {a b c:St} (h:Seq a b) (k:Seq b c):Seq a c:=⟨fun t=>(h.1 t).trans (k.1 t),h.2.trans k.2⟩
theorem Seq.symm {a b:St} (h:Seq a b):Seq b a:=⟨fun t=>(h.1 t).symm,h.2.symm⟩
theorem step_seq {o:aE} {s s' s2:St} {t:Tn} (hPL:cX Pr) (hst:bz Φ Pr Tk o s=some (s',t)) (hs:Seq s s2):∃s2',bz Φ Pr Tk o s2=some (s2',t)∧Seq s' s2':=by
 obtain⟨v,h1,rfl⟩:=step_eq.1 hst
 rw[lW (env':=s2.env) (fun t _=>hs.1 t)]at h1
 have h2:=p8 hPL h1 (hs.2.agree t)
 refine⟨_,step_eq.2 ⟨v,h2,rfl⟩,fun u=>?_,hs.2.apply t⟩
 simp only[rL]
 rw[hs.1 u]
def Sep (x y:aE×Tn):Prop:=x.1.apart y.1=true∧(np x.1.op y.1.op=false∨x.2.apart y.2=true)
theorem apart_spec {x y:aE} (hh:x.apart y=true):(∀d,x.dst=some d→d∉y.reads)∧(∀d,x.dst=some d→y.dst≠some d)∧(∀d,y.dst=some d→d∉x.reads):=by
 unfold aE.apart at hh
 simp only[Bool.and_eq_true]at hh
 refine⟨fun d hd=>?_,fun d hd=>?_,fun d hd=>?_⟩
 .have:=hh.1; simp[hd]at this; exact this.1
 .have:=hh.1; simp[hd]at this; exact this.2
 .have:=hh.2; simp[hd]at this; exact this
theorem u6 {env:List (Nat×V)} {d:Option Nat} {v:V} {l:List Nat} (hd:∀x,d=some x→x∉l):∀t∈l,get (put env d v) t=get env t:=by
 intro t ht
 rw[rL,if_neg]
 intro he
 exact hd t he ht
theorem put_comm {env:List (Nat×V)} {d1 d2:Option Nat} {v1 v2:V} (hd:∀x,d1=some x→d2≠some x) (t:Nat):get (put (put env d1 v1) d2 v2) t=get (put (put env d2 v2) d1 v1) t:=by
 simp only[rL]
 by_cases h1:d1=some t
 .have h2:=hd t h1
  simp[h1,h2]
 .simp[h1]
theorem swap (hPL:cX Pr) {x y:aE} {s s1 s2:St} {tx ty:Tn} (hx:bz Φ Pr Tk x s=some (s1,tx)) (hy:bz Φ Pr Tk y s1=some (s2,ty)) (hsep:Sep (x,tx) (y,ty)):
  ∃s1' s2',bz Φ Pr Tk y s=some (s1',ty)∧bz Φ Pr Tk x s1'=some (s2',tx)∧Seq s2 s2':=by
 obtain⟨hap,hcl⟩:=hsep
 obtain⟨a1,a2,a3⟩:=apart_spec hap
 obtain⟨vx,hx1,rfl⟩:=step_eq.1 hx
 obtain⟨vy,hy1,rfl⟩:=step_eq.1 hy
 simp only at hy1
 rw[lW (env':=s.env) (u6 a1)]at hy1
 have hfx:=u5 hPL hx1
 have key:fO Φ Pr Tk y s.env s.h=some (vy,ty)∧fO Φ Pr Tk x s.env (ty.apply s.h)=some (vx,tx)∧p5 (ty.apply (tx.apply s.h)) (tx.apply (ty.apply s.h)):=by
  rcases hcl with hcl|hcl
  .simp only[np,Bool.or_eq_false_iff,Bool.and_eq_false_iff]at hcl
   obtain⟨c1,c2⟩:=hcl
   rcases c1 with c1|⟨c1,c1'⟩
   .have hix:=nQ c1 hx1
    rw[hix.apply]at hy1
    refine⟨hy1,?_,by rw[hix.apply,hix.apply]; exact p5.refl _⟩
    rcases c2 with c2|c2
    .rw[(nQ c2 hy1).apply]; exact hx1
    .exact qM c2 c1 hx1
   .have hiy:=nQ c1' hy1
    refine⟨qM c1 c1' hy1,by rw[hiy.apply]; exact hx1,by rw[hiy.apply,hiy.apply]; exact p5.refl _⟩
  .simp only[Tn.apart,Bool.and_eq_true]at hcl
   have hy2:=p8 hPL hy1 (Co hcl.1 hfx)
   have hfy:=u5 hPL hy2
   have hb1:tx.oq ty=true:=by have:=hcl.1; simp only[Tn.off,Bool.and_eq_true]at this; exact this.1
   have hb2:ty.oq tx=true:=by have:=hcl.2; simp only[Tn.zQ,Bool.and_eq_true]at this; exact this.1
   exact⟨hy2,p8 hPL hx1 (D3 hcl.2 hfy (Cp hPL hy2)),Am hb1 hb2 hfx hfy⟩
 obtain⟨k1,k2,k3⟩:=key
 refine⟨_,_,step_eq.2 ⟨vy,k1,rfl⟩,step_eq.2 ⟨vx,?_,rfl⟩,fun t=>put_comm a2 t,k3⟩
 simp only
 rw[lW (env':=s.env) (u6 a3)]
 exact k2
inductive Tr (Φ:Nat→List PV→Option (List PV)) (Pr:br) (Tk:Nat→Bool):St→List (aE×Tn)→St→Prop
 |nil (s:St):Tr Φ Pr Tk s [] s
 |cons (s s1 s':St) (o:aE) (t:Tn) (r:List (aE×Tn)) (h1:bz Φ Pr Tk o s=some (s1,t)) (h2:Tr Φ Pr Tk s1 r s'):Tr Φ Pr Tk s ((o,t)::r) s'
theorem Tr.seq (hPL:cX Pr) {s s':St} {l:List (aE×Tn)} (ht:Tr Φ Pr Tk s l s'):∀{s2:St},Seq s s2→∃s2',Tr Φ Pr Tk s2 l s2'∧Seq s' s2':=by
 induction ht with
 |nil s=>intro s2 hs; exact⟨s2,.nil _,hs⟩
 |cons s s1 s' o t r h1 h2 ih=>
  intro s2 hs
  obtain⟨s3,k1,k2⟩:=step_seq hPL h1 hs
  obtain⟨s4,k3,k4⟩:=ih k2
  exact⟨s4,.cons _ _ _ _ _ _ k1 k3,k4⟩
theorem front (hPL:cX Pr) {q:aE} {t:Tn} {post:List (aE×Tn)}:∀(pre:List (aE×Tn)) (s s':St),Tr Φ Pr Tk s (pre++(q,t)::post) s'→(∀x∈pre,Sep x (q,t))→
  ∃s1 s'',bz Φ Pr Tk q s=some (s1,t)∧Tr Φ Pr Tk s1 (pre++post) s''∧Seq s' s''
 |[],s,s',ht,_=>by
  cases ht with
  |cons _ s1 _ _ _ _ h1 h2=>exact⟨s1,s',h1,h2,Seq.refl _⟩
 |(x,tx)::pre,s,s',ht,hsep=>by
  cases ht with
  |cons _ s1 _ _ _ _ h1 h2=>
   obtain⟨sa,sb,k1,k2,k3⟩:=front hPL pre s1 s' h2 (fun y hy=>hsep y (by simp[hy]))
   obtain⟨sc,sd,k4,k5,k6⟩:=swap hPL h1 k1 (hsep (x,tx) (by simp))
   obtain⟨se,k7,k8⟩:=k2.seq hPL k6
   exact⟨sc,se,k4,.cons _ _ _ _ _ _ k5 k7,k3.trans k8⟩
end Go.Pv
namespace Go.Pv
variable {P:Program} {N M:Nat→Nat} {pb:List Nat} {W:Nat→Prop} {L L':Lx} {e e':bn} {h:af} {w w':World} {Φ:Nat→List PV→Option (List PV)} {Pr:br} {Tk:Nat→Bool}
theorem HR.heq {h':af} (hr:HR N L e W h w) (k:p5 h h'):HR N L e W h' w:=
 ⟨fun s=>by rw[hr.sl,k.bx],fun s cs hc=>hr.bx s cs (by rw[k.bx]; exact hc),by rw[hr.na,k.ar],fun id a ha=>hr.aq id a (by rw[k.ar]; exact ha),fun id a ha=>hr.ar id a (by rw[k.ar]; exact ha),
  by rw[hr.nm,k.mp],fun id m hm=>hr.mp id m (by rw[k.mp]; exact hm),hr.uv,hr.nF,hr.wj,hr.zM,hr.wk,hr.wm,hr.zP,hr.nG,hr.wide,hr.zN⟩
theorem SR.seq {nt:Nat} {s s':St} {a:Act} (hs:SR N W L e nt s a w) (k:Seq s s'):SR N W L e nt s' a w:=
 ⟨hs.hr.heq k.2,fun t=>by rw[← k.1 t]; exact hs.env t,hs.size,hs.defers⟩
def jg (q0 q:aE):Prop:=Ins q0.op q.op∧q0.dst=q.dst∧q0.guard=q.guard
theorem jg.refl (q:aE):jg q q:=⟨.inl rfl,rfl,rfl⟩
theorem jg.same {q0 q:aE} (h:jg q0 q):q0.reads=q.reads∧q0.op.turns=q.op.turns∧q0.op.looks=q.op.looks:=by
 obtain⟨h1,h2,h3⟩:=h
 unfold aE.reads
 rw[h3]
 rcases h1 with h1|⟨id,k,z,n,c,h4,h5⟩|⟨id,k,z,n,c,h4,h5⟩|⟨id,k,x,y,h4,h5⟩
 .rw[h1]; exact⟨rfl,rfl,rfl⟩
 .rw[h4,h5]; exact⟨rfl,rfl,rfl⟩
 .rw[h4,h5]; exact⟨rfl,rfl,rfl⟩
 .rw[h4,h5]; exact⟨rfl,rfl,rfl⟩
theorem jg.apart {p0 p q0 q:aE} (hp:jg p0 p) (hq:jg q0 q):p.apart q=p0.apart q0:=by
 unfold aE.apart
 rw[hp.same.1,hq.same.1,hp.2.1,hq.2.1]
theorem jg.np {p0 p q0 q:aE} (hp:jg p0 p) (hq:jg q0 q):Pv.np p.op q.op=Pv.np p0.op q0.op:=by
 unfold Pv.np
 rw[hp.same.2.1,hp.same.2.2,hq.same.2.1,hq.same.2.2]
theorem An (hΦ:∀f ps rs,Φ f ps=some rs→uW P N f ps rs) (hPr:ep P N Pr) {nt:Nat} {ops:Array Oper} {Q:Exit→Act→World→Prop} {s':St}:∀(l:List aE) (j:Nat) (L:Lx) (e:bn) (s:St) (a:Act) (w:World),
  (∀(i:Nat) (q:aE),l[i]?=some q→∃o q0,ops[j+i]?=some o∧iY P N M nt pb ops o=some q0∧jg q0 q)→SR N W L e nt s a w→dV Φ Pr Tk l s=some s'→
  (∀a' w' L' e',Nx N W L e w L' e' s'.h w'→SR N W L' e' nt s' a' w'→Q .normal a' w')→wpOps P ops Q (List.range' j l.length) a w
 |[],j,L,e,s,a,w,_,hs,he,hK=>by
  simp[dV]at he
  subst he
  simp only[List.length_nil,List.range'_zero,wpOps]
  exact hK a w L e (Nx.refl hs.hr) hs
 |q::l,j,L,e,s,a,w,hl,hs,he,hK=>by
  simp only[dV]at he
  cases hst:bz Φ Pr Tk q s with
  |none=>simp[hst]at he
  |some st=>
   obtain⟨s1,t⟩:=st
   simp only[hst]at he
   obtain⟨o,q0,ho,hq,hi⟩:=hl 0 q rfl
   rw[Xn,List.range'_succ,wpOps_cons]
   refine By hs hΦ hPr (by simpa using ho) hq hi hst fun a1 w1 L1 e1 h1 hs1=>?_
   refine An hΦ hPr l (j+1) L1 e1 s1 a1 w1 (fun i q' hi=>?_) hs1 he (fun a' w' L' e' h2 hs2=>hK a' w' L' e' (h1.trans h2) hs2)
   obtain⟨o',q1,ho',hq',hi'⟩:=hl (i+1) q' (by simpa using hi)
   exact⟨o',q1,by rw[show j+1+i=j+(i+1) by omega]; exact ho',hq',hi'⟩
def dX (o:Oper):List Nat:=(o.after.toList.filter (Region.binds .any ·)).map (·.on)
theorem sI:∀(l acc:List Nat) (j:Nat),j∈once acc l→j∈acc∨j∈l
 |[],acc,j,h=>.inl h
 |a::r,acc,j,h=>by
  unfold once at h
  split at h
  .exact(sI r acc j h).imp id (Wl a)
  .rcases sI r (a::acc) j h with h|h
   .rcases V6.1 h with h|h
    .exact .inr (h ▸ We ..)
    .exact .inl h
   .exact .inr (Wl a h)
theorem sJ:∀(ops:List Oper) (acc:List (List Nat)),∃new,cP acc ops=acc++new∧new.length=ops.length
 |[],acc=>⟨[],by simp[cP],rfl⟩
 |o::r,acc=>by
  obtain⟨new,h1,h2⟩:=sJ r (acc++[once [] (dX o++(dX o).flatMap fun d=>acc.getD d [])])
  refine⟨once [] (dX o++(dX o).flatMap fun d=>acc.getD d [])::new,?_,by simp[h2]⟩
  simp only[cP]
  have:cP (acc++[once [] ((o.after.toList.filter (Region.binds .any ·)).map (·.on)++((o.after.toList.filter (Region.binds .any ·)).map (·.on)).flatMap fun d=>acc.getD d [])]) r=_:=h1
  rw[this]
  simp
theorem p9 {α:Type} {l r:List (List α)} {d:Nat} {x:α} (hx:x∈l.getD d []):x∈(l++r).getD d []:=by
 rw[VK]at hx ⊢
 rcases VG d l.length with h1|h1
 .rw[VC h1]; exact hx
 .rw[List.getElem?_eq_none h1]at hx; simp at hx
theorem sK:∀(ops:List Oper) (acc:List (List Nat)) (i j:Nat),j∈(cP acc ops).getD (acc.length+i) []→∃o,ops[i]?=some o∧(j∈dX o∨∃d∈dX o,j∈(cP acc ops).getD d [])
 |[],acc,i,j,hj=>by
  simp[cP]at hj
 |o::r,acc,i,j,hj=>by
  have hdef:cP acc (o::r)=cP (acc++[once [] (dX o++(dX o).flatMap fun d=>acc.getD d [])]) r:=rfl
  rw[hdef]at hj ⊢
  cases i with
  |zero=>
   obtain⟨new,h1,_⟩:=sJ r (acc++[once [] (dX o++(dX o).flatMap fun d=>acc.getD d [])])
   rw[h1]at hj ⊢
   have:((acc++[once [] (dX o++(dX o).flatMap fun d=>acc.getD d [])])++new).getD (acc.length+0) []=once [] (dX o++(dX o).flatMap fun d=>acc.getD d []):=by
    simp[List.getD_eq_getElem?_getD]
   rw[this]at hj
   refine⟨o,rfl,?_⟩
   have hj:=(sI _ _ _ hj).resolve_left (by simp)
   rcases Wm.1 hj with hj|hj
   .exact .inl hj
   .obtain⟨d,hd,hjd⟩:=Xo.1 hj
    exact .inr ⟨d,hd,by rw[VO]; exact p9 hjd⟩
  |succ i=>
   have:=sK r (acc++[once [] (dX o++(dX o).flatMap fun d=>acc.getD d [])]) i j (by
    rw[VE]
    simp only[List.length_cons,List.length_nil]
    rw[show acc.length+(0+1)+i=acc.length+(i+1) by omega]
    exact hj)
   obtain⟨o',h1,h2⟩:=this
   exact⟨o',by simpa using h1,h2⟩
theorem BA:∀(items:List (aE×List Nat)) (done:List Tn) (s s':St),cG Φ Pr Tk items done s=some s'→
  ∃ts:List Tn,ts.length=items.length∧Tr Φ Pr Tk s ((items.map (·.1)).zip ts) s'∧∀(i:Nat) (o:aE) (un:List Nat) (t:Tn),items[i]?=some (o,un)→ts[i]?=some t→∀j∈un,∃u,(done++ts)[j]?=some u∧u.apart t=true
 |[],done,s,s',he=>by
  simp[cG]at he
  subst he
  exact⟨[],rfl,.nil s,fun i o un t hi=>by simp at hi⟩
 |(o,un)::r,done,s,s',he=>by
  simp only[cG]at he
  cases hst:bz Φ Pr Tk o s with
  |none=>simp[hst]at he
  |some st=>
   obtain⟨s1,t⟩:=st
   simp only[hst]at he
   split at he<;>first|(cases he; done)|skip
   rename_i hold
   obtain⟨ts,h1,h2,h3⟩:=BA r (done++[t]) s1 s' he
   refine⟨t::ts,by simp[h1],.cons _ _ _ _ _ _ hst h2,fun i o' un' t' hi ht j hj=>?_⟩
   cases i with
   |zero=>
    simp at hi ht
    obtain⟨rfl,rfl⟩:=hi
    subst ht
    have:=V9.1 hold j hj
    split at this<;>first|(cases this; done)|skip
    rename_i u hu
    refine⟨u,?_,this⟩
    have hlt:=(Vy.1 hu).1
    rw[VC hlt]
    exact hu
   |succ i=>
    have:=h3 i o' un' t' (by simpa using hi) (by simpa using ht) j hj
    simpa using this
structure Fits (ops:Array Oper) (it:Nat→aE×Tn) (P:Program) (N M:Nat→Nat) (nt:Nat) (pb:List Nat) (ahs:List (List Nat)):Prop where
 tr:∀i o,ops[i]?=some o→∃q0,iY P N M nt pb ops o=some q0∧jg q0 (it i).1
 back:∀i o,ops[i]?=some o→∀ed∈o.after,Region.binds .any ed=true→ed.on<i
 sep:∀i,i<ops.size→∀j,j<i→j∈ahs.getD i []∨Sep (it j) (it i)
 mem:∀i j,j∈ahs.getD i []→∃o,ops[i]?=some o∧(j∈dX o∨∃d∈dX o,j∈ahs.getD d [])
structure Im (ops:Array Oper) (ahs:List (List Nat)) (listed:Array Bool) (rem:List Nat):Prop where
 size:listed.size=ops.size
 inc:rem.Pairwise (·<·)
 lt:∀i∈rem,i<ops.size
 mem:∀i,i<ops.size→(i∈rem↔listed.getD i true=false)
 down:∀i,listed.getD i false=true→∀j∈ahs.getD i [],listed.getD j false=true
theorem yi {listed:Array Bool} {i:Nat} (hi:i<listed.size):listed.getD i true=listed.getD i false:=by
 simp[Array.getD,hi]
theorem Im.ahead {ops:Array Oper} {ahs:List (List Nat)} {listed:Array Bool} {rem:List Nat} {it:Nat→aE×Tn} {nt:Nat} (hw:Im ops ahs listed rem) (hf:Fits ops it P N M nt pb ahs) {i:Nat} (hr:i∈Region.ready .any ops listed):
  i∈rem∧∀j∈ahs.getD i [],listed.getD j false=true:=by
 rw[mem_ready]at hr
 obtain⟨h1,o,ho,hall⟩:=hr
 have hi:i<ops.size:=(VV.1 ho).1
 refine⟨(hw.mem i hi).2 h1,fun j hj=>?_⟩
 obtain⟨o',ho',hd⟩:=hf.mem i j hj
 rw[ho]at ho'
 injection ho' with ho'
 subst ho'
 have hdeps:∀d∈dX o,listed.getD d false=true:=by
  intro d hdd
  obtain⟨ed,hed,rfl⟩:=VP.1 hdd
  obtain⟨hed1,hed2⟩:=List.mem_filter.1 hed
  exact hall ed (Array.mem_toList_iff.1 hed1) hed2
 rcases hd with hd|⟨d,hd,hjd⟩
 .exact hdeps j hd
 .exact hw.down d (hdeps d hd) j hjd
theorem Io (hPL:cX Pr) (hΦ:∀f ps rs,Φ f ps=some rs→uW P N f ps rs) (hPr:ep P N Pr) {nt:Nat} {ops:Array Oper} {it:Nat→aE×Tn} {ahs:List (List Nat)} (hf:Fits ops it P N M nt pb ahs) {Q:Exit→Act→World→Prop} {s':St}:
  ∀(m:Nat) (rem:List Nat) (listed:Array Bool) (L:Lx) (e:bn) (s s2:St) (a:Act) (w:World),rem.length=m→Im ops ahs listed rem→SR N W L e nt s a w→Tr Φ Pr Tk s (rem.map it) s2→Seq s' s2→
   (∀a' w' L' e',Nx N W L e w L' e' s'.h w'→SR N W L' e' nt s' a' w'→Q .normal a' w')→wpAny P .any ops Q m listed a w:=by
 have fin:∀(L:Lx) (e:bn) (s s2:St) (a:Act) (w:World),SR N W L e nt s a w→Tr Φ Pr Tk s [] s2→Seq s' s2→(∀a' w' L' e',Nx N W L e w L' e' s'.h w'→SR N W L' e' nt s' a' w'→Q .normal a' w')→Q .normal a w:=by
  intro L e s s2 a w hs ht hq hK
  cases ht
  have hsr:=hs.seq hq.symm
  exact hK a w L e (Nx.refl hsr.hr) hsr
 intro m
 induction m with
 |zero=>
  intro rem listed L e s s2 a w hm hw hs ht hq hK
  have hrem:rem=[]:=VJ hm
  subst hrem
  refine⟨List.eq_nil_iff_forall_not_mem.2 fun i hi=>?_,fin L e s s2 a w hs ht hq hK⟩
  have:=(hw.ahead hf hi).1
  cases this
 |succ m ih=>
  intro rem listed L e s s2 a w hm hw hs ht hq hK
  refine⟨fun hnil=>?_,fun i hi=>?_⟩
  .match rem,hm with
   |i::r,_=>
    exfalso
    have hi:i<ops.size:=hw.lt i (by simp)
    have:i∈Region.ready .any ops listed:=by
     rw[mem_ready]
     refine⟨(hw.mem i hi).1 (by simp),ops[i],Array.getElem?_eq_getElem hi,fun ed hed hb=>?_⟩
     have hlt:=hf.back i ops[i] (W9 hi) ed hed hb
     have hno:ed.on∉i::r:=by
      intro hmem
      rcases V6.1 hmem with h1|h1
      .omega
      .have:=(VQ.1 hw.inc).1 _ h1
       omega
     have hd:=(hw.mem ed.on (by omega))
     cases hv:listed.getD ed.on true with
     |false=>exact absurd (hd.2 hv) hno
     |true=>rw[← yi (by rw[hw.size]; omega),hv]
    rw[hnil]at this
    cases this
  .obtain⟨hmem,hah⟩:=hw.ahead hf hi
   have hilt:=hw.lt i hmem
   obtain⟨pre,post,rfl⟩:=List.append_of_mem hmem
   have hinc:=List.pairwise_append.1 hw.inc
   rw[Wk,List.map_cons]at ht
   obtain⟨s1,s3,k1,k2,k3⟩:=front hPL (q:=(it i).1) (t:=(it i).2) (pre.map it) s s2 (by simpa using ht) (fun x hx=>by
    obtain⟨j,hj,rfl⟩:=VP.1 hx
    have hji:j<i:=hinc.2.2 j hj i (by simp)
    rcases hf.sep i hilt j hji with h1|h1
    .have h2:=hah j h1
     have h3:=(hw.mem j (by omega)).1 (by simp[hj])
     rw[yi (by rw[hw.size]; omega),h2]at h3
     cases h3
    .exact h1)
   obtain⟨q0,hq0,hqi⟩:=hf.tr i _ (W9 hilt)
   refine By hs hΦ hPr (W9 hilt) hq0 hqi k1 fun a1 w1 L1 e1 h1 hs1=>?_
   refine ih (pre++post) (listed.setIfInBounds i true) L1 e1 s1 s3 a1 w1 (by simp at hm ⊢; omega) ⟨by simp[hw.size],?_,fun j hj=>hw.lt j ?_,fun j hj=>?_,fun k hk j hj=>?_⟩ hs1 (by rw[List.map_append]; exact k2) (hq.trans k3)
    (fun a' w' L' e' h2 hs2=>hK a' w' L' e' (h1.trans h2) hs2)
   .refine List.pairwise_append.2 ⟨hinc.1,(List.pairwise_cons.1 hinc.2.1).2,fun x hx y hy=>hinc.2.2 x hx y (by simp[hy])⟩
   .rcases List.mem_append.1 hj with h2|h2<;>simp[h2]
   .have hold:=hw.mem j hj
    by_cases hji:j=i
    .subst hji
     have:(listed.setIfInBounds j true).getD j true=true:=by simp[Array.getD,hw.size,hj]
     rw[this]
     constructor
     .intro hmem2
      exfalso
      rcases Wm.1 hmem2 with h2|h2
      .have:=hinc.2.2 j h2 j (by simp); omega
      .have:=(VQ.1 hinc.2.1).1 j h2; omega
     .intro h2; cases h2
    .rw[getD_set_ne true (Ne.symm hji),← hold]
     simp[hji]
   .by_cases hki:k=i
    .subst hki
     exact getD_set_true (hah j hj)
    .rw[getD_set_ne false (Ne.symm hki)]at hk
     exact getD_set_true (hw.down k hk j hj)
theorem zip_map {α β:Type} [Inhabited α] [Inhabited β]:∀(l:List α) (r:List β),r.length=l.length→l.zip r=(List.range l.length).map fun i=>(l.getD i default,r.getD i default):=by
 intro l r hl
 apply Wi
 intro i
 rcases VG i l.length with h1|h1
 .have h2:i<r.length:=by omega
  have hz:(l.zip r)[i]?=some (l[i],r[i]):=(WW (z:=(l[i],r[i]))).2 ⟨VA h1,VA h2⟩
  rw[hz]
  simp[h1,h2]
 .rw[List.getElem?_eq_none (by simp; omega),List.getElem?_eq_none (by simpa using h1)]
theorem BB (hm:P.follows .mixedOrders=true) (hPL:cX Pr) (hΦ:∀f ps rs,Φ f ps=some rs→uW P N f ps rs) (hPr:ep P N Pr) {nt id:Nat} {ops:Array Oper} {l0 l:List aE} (hl:aA (iY P N M nt pb ops) ops.toList=some l0)
  (hll:l.length=l0.length) (hin:∀(i:Nat) (q0 q:aE),l0[i]?=some q0→l[i]?=some q→jg q0 q)
  (hok:r9 ops.toList l0 (cP [] ops.toList)=true) {items:List (aE×List Nat)} (hz:items.map (·.1)=l) (hun0:∀(i:Nat) (q0:aE) (x:aE×List Nat),l0[i]?=some q0→items[i]?=some x→x.2=jC l0 ((cP [] ops.toList).getD i []) q0 i)
  {Q:Exit→Act→World→Prop} {s s':St} {a:Act} (hs:SR N W L e nt s a w) (he:cG Φ Pr Tk items [] s=some s')
  (hK:∀a' w' L' e',Nx N W L e w L' e' s'.h w'→SR N W L' e' nt s' a' w'→Q .normal a' w'):(Code.region id ops true).wp P Q a w:=by
 obtain⟨ts,h1,h2,h3⟩:=BA _ _ _ _ he
 have hlen0:l0.length=ops.size:=by rw[bQ hl]; simp
 have hlen:l.length=ops.size:=hll.trans hlen0
 have hzl:items.length=l.length:=by rw[← hz,VB]
 rw[hz]at h2
 rw[hzl]at h1
 let it:Nat→aE×Tn:=fun i=>(l.getD i default,ts.getD i default)
 have hit:l.zip ts=(List.range l.length).map it:=zip_map l ts h1
 rw[hit]at h2
 simp only[r9,List.all_eq_true,List.mem_range]at hok
 have hfit:Fits ops it P N M nt pb (cP [] ops.toList):=by
  refine⟨fun i o ho=>?_,fun i o ho ed hed hb=>?_,fun i hi j hj=>?_,fun i j hj=>?_⟩
  .obtain⟨q0,hq1,hq2⟩:=ov hl i o (by simpa using ho)
   have hlt:i<l.length:=by rw[hll]; exact(Vy.1 hq1).1
   have hq3:=VA hlt
   have:(it i).1=l[i]:=by simp[it,hq3]
   rw[this]
   exact⟨q0,hq2,hin i q0 _ hq1 hq3⟩
  .have hlt:i<ops.size:=(VV.1 ho).1
   have:=hok i (by simpa using hlt)
   rw[show ops.toList[i]?=some o by simpa using ho]at this
   split at this
   .rename_i o' q ah e1 e2 e3
    injection e1 with e1
    subst e1
    simp only[Bool.and_eq_true,List.all_eq_true]at this
    have:=this.1 ed (Array.mem_toList_iff.2 hed)
    simpa [hb]using this
   .cases this
  .have:=hok i (by simpa using hi)
   split at this
   .rename_i o q ah e1 e2 e3
    simp only[Bool.and_eq_true,List.all_eq_true,List.mem_range]at this
    have h4:=this.2 j hj
    have hah:(cP [] ops.toList).getD i []=ah:=by simp[e3]
    rw[hah]
    by_cases hmem:j∈ah
    .exact .inl hmem
    .refine .inr ?_
     simp only[Bool.or_eq_true,List.contains_iff_mem,hmem,false_or]at h4
     split at h4
     .rename_i p hp
      have hjl:j<l.length:=by rw[hlen]; omega
      have hil:i<l.length:=by rw[hlen]; exact hi
      have f4:=VA hjl
      have f5:=VA hil
      have e4:(it j).1=l[j]:=by simp[it,f4]
      have e5:(it i).1=l[i]:=by simp[it,f5]
      have g4:=hin j p _ hp f4
      have g5:=hin i q _ e2 f5
      refine⟨by rw[e4,e5,g4.apart g5]; exact h4,?_⟩
      rw[e4,e5,g4.np g5]
      cases hc:np p.op q.op with
      |false=>exact .inl rfl
      |true=>
       refine .inr ?_
       have hun:j∈jC l0 ((cP [] ops.toList).getD i []) q i:=by
        simp only[jC,List.mem_filter,List.mem_range]
        refine⟨hj,?_⟩
        rw[hah,hp]
        simp[hmem,hc]
       have hzx:=VA (l:=items) (i:=i) (by omega)
       have hzu:=hun0 i q _ e2 hzx
       have htl:i<ts.length:=by rw[h1,hlen]; exact hi
       obtain⟨u,hu1,hu2⟩:=h3 i items[i].1 items[i].2 ts[i] hzx (VA htl) j (by rw[hzu]; exact hun)
       simp only[List.nil_append]at hu1
       have e6:(it j).2=u:=by simp[it,hu1]
       have e7:(it i).2=ts[i]:=by simp[it,htl]
       rw[e6,e7]
       exact hu2
     .cases h4
   .cases this
  .have:=sK ops.toList [] i j (by simpa using hj)
   obtain⟨o,ho,hd⟩:=this
   exact⟨o,by simpa using ho,hd⟩
 refine wp_region_any hm ?_
 have hdrew:=Nx.drew hs.hr
 have hsr:SR N W L e nt s a w.drew:=⟨hdrew.hr,fun t=>(hs.env t).mono hdrew.ext,hs.size,hs.defers⟩
 have:=Io (W:=W) (M:=M) (Q:=Q) (s':=s') hPL hΦ hPr hfit ops.size (List.range ops.size) (Array.replicate ops.size false) L e s s' a w.drew (by simp)
  ⟨by simp,List.pairwise_lt_range,fun i hi=>List.mem_range.1 hi,fun i hi=>by simp[hi],fun i hi=>by
   rcases VG i ops.size with h5|h5
   .simp[h5]at hi
   .simp[h5]at hi⟩ hsr (by rw[← hlen]; exact h2) (Seq.refl _) (fun a' w' L' e' h5 h6=>hK a' w' L' e' (hdrew.trans h5) h6)
 exact this
theorem qN (l:List aE) (ahs:List (List Nat)):(cQ l ahs).map (·.1)=l∧∀(i:Nat) (q:aE),l[i]?=some q→(cQ l ahs)[i]?=some (q,jC l (ahs.getD i []) q i):=by
 refine⟨?_,fun i q hq=>?_⟩
 .apply Wi
  intro i
  simp only[cQ,List.getElem?_map,List.getElem?_zipIdx,Option.map_map]
  cases l[i]?<;>rfl
 .simp[cQ,List.getElem?_map,List.getElem?_zipIdx,hq]
theorem D5 (hm:P.follows .mixedOrders=true) (hPL:cX Pr) (hΦ:∀f ps rs,Φ f ps=some rs→uW P N f ps rs) (hPr:ep P N Pr) {nt id:Nat} {ops:Array Oper} {l:List aE} (hl:aA (iY P N M nt pb ops) ops.toList=some l)
  (hok:r9 ops.toList l (cP [] ops.toList)=true) {Q:Exit→Act→World→Prop} {s s':St} {a:Act} (hs:SR N W L e nt s a w) (he:cG Φ Pr Tk (cQ l (cP [] ops.toList)) [] s=some s')
  (hK:∀a' w' L' e',Nx N W L e w L' e' s'.h w'→SR N W L' e' nt s' a' w'→Q .normal a' w'):(Code.region id ops true).wp P Q a w:=by
 obtain⟨z1,z2⟩:=qN l (cP [] ops.toList)
 refine BB (M:=M) hm hPL hΦ hPr hl rfl (fun i q0 q h1 h2=>?_) hok z1 (fun i q0 x h1 h2=>?_) hs he hK
 .rw[h1]at h2
  cases h2
  exact jg.refl _
 .rw[z2 i q0 h1]at h2
  cases h2
  rfl
theorem mD:∀(l:List aE) (n:Nat),(mkNum n l).length=l.length∧∀(i:Nat) (q0 q:aE),l[i]?=some q0→(mkNum n l)[i]?=some q→jg q0 q
 |[],n=>⟨rfl,fun i q0 q h=>by simp at h⟩
 |o::r,n=>by
  obtain⟨d,p,gd⟩:=o
  obtain⟨a1,a2⟩:=mD r (n+1)
  obtain⟨b1,b2⟩:=mD r n
  cases p with
  |make k z x y=>
   refine⟨by simp[mkNum,a1],fun i q0 q h1 h2=>?_⟩
   cases i with
   |zero=>
    simp only[mkNum,List.getElem?_cons_zero]at h1 h2
    cases h1
    cases h2
    exact⟨.inr (.inl ⟨n,k,z,x,y,rfl,rfl⟩),rfl,rfl⟩
   |succ i=>exact a2 i q0 q (by simpa using h1) (by simpa [mkNum]using h2)
  |_=>
   refine⟨by simp[mkNum,b1],fun i q0 q h1 h2=>?_⟩
   cases i with
   |zero=>
    simp only[mkNum,List.getElem?_cons_zero]at h1 h2
    cases h1
    cases h2
    exact jg.refl _
   |succ i=>exact b2 i q0 q (by simpa using h1) (by simpa [mkNum]using h2)
theorem iP:∀(l:List aE) (n:Nat),(eN n l).length=l.length∧∀(i:Nat) (q0 q:aE),l[i]?=some q0→(eN n l)[i]?=some q→jg q0 q
 |[],n=>⟨rfl,fun i q0 q h=>by simp at h⟩
 |o::r,n=>by
  obtain⟨d,p,gd⟩:=o
  obtain⟨a1,a2⟩:=iP r (n+1)
  obtain⟨b1,b2⟩:=iP r n
  cases p with
  |make k z x y=>
   refine⟨by simp[eN,a1],fun i q0 q h1 h2=>?_⟩
   cases i with
   |zero=>
    simp only[eN,List.getElem?_cons_zero]at h1 h2
    cases h1
    cases h2
    exact⟨.inr (.inl ⟨n,k,z,x,y,rfl,rfl⟩),rfl,rfl⟩
   |succ i=>exact a2 i q0 q (by simpa using h1) (by simpa [eN]using h2)
  |lit k z x y=>
   refine⟨by simp[eN,a1],fun i q0 q h1 h2=>?_⟩
   cases i with
   |zero=>
    simp only[eN,List.getElem?_cons_zero]at h1 h2
    cases h1
    cases h2
    exact⟨.inr (.inr (.inl ⟨n,k,z,x,y,rfl,rfl⟩)),rfl,rfl⟩
   |succ i=>exact a2 i q0 q (by simpa using h1) (by simpa [eN]using h2)
  |app k x y=>
   refine⟨by simp[eN,a1],fun i q0 q h1 h2=>?_⟩
   cases i with
   |zero=>
    simp only[eN,List.getElem?_cons_zero]at h1 h2
    cases h1
    cases h2
    exact⟨.inr (.inr (.inr ⟨n,k,x,y,rfl,rfl⟩)),rfl,rfl⟩
   |succ i=>exact a2 i q0 q (by simpa using h1) (by simpa [eN]using h2)
  |_=>
   refine⟨by simp[eN,b1],fun i q0 q h1 h2=>?_⟩
   cases i with
   |zero=>
    simp only[eN,List.getElem?_cons_zero]at h1 h2
    cases h1
    cases h2
    exact jg.refl _
   |succ i=>exact b2 i q0 q (by simpa using h1) (by simpa [eN]using h2)
theorem yk {l0 l:List aE} (hll:l.length=l0.length) (hin:∀(i:Nat) (q0 q:aE),l0[i]?=some q0→l[i]?=some q→jg q0 q) {ah:List Nat} {q0 q:aE} (hq:jg q0 q) (n:Nat):jC l ah q n=jC l0 ah q0 n:=by
 unfold jC
 congr 1
 funext j
 congr 1
 rcases VG j l.length with hj|hj
 .have h1:=VA hj
  have h2:=VA (l:=l0) (i:=j) (by omega)
  rw[h1,h2]
  exact(hin j _ _ h2 h1).np hq
 .rw[V8 hj,V8 (by omega)]
def eb.nR:eb→Bool
 |.gC ..|.lx ..|.lz ..=>true
 |_=>false
theorem Ins.at {q0 q:eb} (h:Ins q0 q) (h0:q0.nR=false) (b:Nat):Ins q0 (uy b q):=by
 rcases h with rfl|⟨id,k,z,n,c,h1,h2⟩|⟨id,k,z,n,c,h1,h2⟩|⟨id,k,x,y,h1,h2⟩
 .have:uy b q0=q0:=by
   unfold uy
   split
   .simp[eb.nR]at h0
   .simp[eb.nR]at h0
   .simp[eb.nR]at h0
   .rfl
  rw[this]
  exact .inl rfl
 .rw[h2]
  exact .inr (.inl ⟨b+id,k,z,n,c,h1,rfl⟩)
 .rw[h2]
  exact .inr (.inr (.inl ⟨b+id,k,z,n,c,h1,rfl⟩))
 .rw[h2]
  exact .inr (.inr (.inr ⟨b+id,k,x,y,h1,rfl⟩))
theorem u7 {d:Option Nat} {o:Op} {q:eb} (ht:dG P N M pb d o=some q):q.nR=false:=by
 cases hq:q.nR with
 |false=>rfl
 |true=>
  cases q<;>first|(simp[eb.nR]at hq; done)|skip
  all_goals
   cases o<;>simp only[dG]at ht
   all_goals try (repeat' (split at ht))
   all_goals first|contradiction|(cases ht; done)|(simp at ht; done)|(obtain⟨y,_,h2⟩:=map_some ht; cases h2; done)
theorem yl (hm:P.follows .mixedOrders=true) (hPL:cX Pr) (hΦ:∀f ps rs,Φ f ps=some rs→uW P N f ps rs) (hPr:ep P N Pr) {nt id:Nat} {ops:Array Oper} {l:List aE} (hl:aA (iY P N M nt pb ops) ops.toList=some l)
  (hok:r9 ops.toList l (cP [] ops.toList)=true) {Q:Exit→Act→World→Prop} {s s':St} {a:Act} (hs:SR N W L e nt s a w) {n:Nat} {lr:List aE} (m1:lr.length=l.length) (m2:∀(i:Nat) (q0 q:aE),l[i]?=some q0→lr[i]?=some q→jg q0 q)
  (he:cG Φ Pr Tk (lI s.h.ar.length (cQ lr (cP [] ops.toList))) [] ⟨s.env,s.h.room n⟩=some s')
  (hK:∀a' w' L' e',Nx N W L e w L' e' s'.h w'→SR N W L' e' nt s' a' w'→Q .normal a' w'):(Code.region id ops true).wp P Q a w:=by
 obtain⟨z1,z2⟩:=qN lr (cP [] ops.toList)
 have hroom:=Nx.room hs.hr n
 have hsr:SR N W L (e.room n) nt ⟨s.env,s.h.room n⟩ a w:=⟨hroom.hr,fun t=>(hs.env t).mono hroom.ext,hs.size,hs.defers⟩
 have hmap:(lI s.h.ar.length (cQ lr (cP [] ops.toList))).map (·.1)=lr.map fun q=>⟨q.dst,uy s.h.ar.length q.op,q.guard⟩:=by
  rw[← z1]
  simp only[lI,List.map_map]
  rw[z1]
  rfl
 refine BB (M:=M) (l:=lr.map fun q=>⟨q.dst,uy s.h.ar.length q.op,q.guard⟩) hm hPL hΦ hPr hl (by rw[VB,m1]) (fun i q0 q h1 h2=>?_) hok hmap (fun i q0 x h1 h2=>?_) hsr he (fun a' w' L' e' h1 h2=>hK a' w' L' e' (hroom.trans h1) h2)
 .rw[VF]at h2
  obtain⟨q1,h3,rfl⟩:=Wf.1 h2
  obtain⟨g1,g2,g3⟩:=m2 i q0 q1 h1 h3
  refine⟨g1.at ?_ _,g2,g3⟩
  obtain⟨o,_,h5⟩:=bC hl i q0 h1
  exact u7 (lU h5).1
 .simp only[lI]at h2
  rw[VF]at h2
  obtain⟨y,h3,rfl⟩:=Wf.1 h2
  have hlt:i<lr.length:=by rw[m1]; exact(Vy.1 h1).1
  have h4:=VA hlt
  rw[z2 i _ h4]at h3
  cases h3
  exact yk m1 m2 (m2 i q0 _ h1 h4) i
theorem Cq (hΦ:∀f ps rs,Φ f ps=some rs→uW P N f ps rs) (hPr:ep P N Pr) {nt id:Nat} {ops:Array Oper} {l:List aE} (hl:aA (iY P N M nt pb ops) ops.toList=some l) {Q:Exit→Act→World→Prop} {s s':St} {a:Act}
  (hs:SR N W L e nt s a w) (he:dV Φ Pr Tk l s=some s') (hK:∀a' w' L' e',Nx N W L e w L' e' s'.h w'→SR N W L' e' nt s' a' w'→Q .normal a' w'):(Code.region id ops false).wp P Q a w:=by
 have hlen:l.length=ops.size:=by rw[bQ hl]; simp
 refine wp_region ?_
 rw[List.range_eq_range',← hlen]
 refine An (M:=M) (pb:=pb) hΦ hPr l 0 L e s a w (fun i q hi=>?_) hs he hK
 obtain⟨o,h1,h2⟩:=bC hl i q hi
 exact⟨o,q,by simpa using h1,h2,jg.refl q⟩
theorem oN {Φ:Nat→List PV→Option (List PV)} {Tk:Nat→Bool}:∀(l:List aE) (done:List Tn) (s:St),cG Φ Pr Tk (l.map fun q=>(q,[])) done s=dV Φ Pr Tk l s
 |[],_,_=>rfl
 |q::l,done,s=>by
  simp only[List.map_cons,cG,dV]
  cases bz Φ Pr Tk q s with
  |none=>rfl
  |some st=>
   obtain⟨s1,t⟩:=st
   have:ez [] t done=true:=rfl
   simp only[this,if_true]
   exact oN l _ s1
theorem Ao (hΦ:∀f ps rs,Φ f ps=some rs→uW P N f ps rs) (hPr:ep P N Pr) {nt id:Nat} {ops:Array Oper} {l:List aE} (hl:aA (iY P N M nt pb ops) ops.toList=some l) {Q:Exit→Act→World→Prop} {s s':St} {a:Act}
  (hs:SR N W L e nt s a w) {n:Nat} {lr:List aE} (m1:lr.length=l.length) (m2:∀(i:Nat) (q0 q:aE),l[i]?=some q0→lr[i]?=some q→jg q0 q)
  (he:cG Φ Pr Tk (lI s.h.ar.length (lr.map fun q=>(q,[]))) [] ⟨s.env,s.h.room n⟩=some s')
  (hK:∀a' w' L' e',Nx N W L e w L' e' s'.h w'→SR N W L' e' nt s' a' w'→Q .normal a' w'):(Code.region id ops false).wp P Q a w:=by
 have hlen:lr.length=ops.size:=by rw[m1,bQ hl]; simp
 have hroom:=Nx.room hs.hr n
 have hsr:SR N W L (e.room n) nt ⟨s.env,s.h.room n⟩ a w:=⟨hroom.hr,fun t=>(hs.env t).mono hroom.ext,hs.size,hs.defers⟩
 have hmap:lI s.h.ar.length (lr.map fun q=>(q,[]))=(lr.map fun q:aE=>(⟨q.dst,uy s.h.ar.length q.op,q.guard⟩:aE)).map fun q=>(q,[]):=by
  simp only[lI,List.map_map]
  rfl
 rw[hmap,oN]at he
 refine wp_region ?_
 rw[List.range_eq_range',← hlen,← VB (f:=fun q:aE=>(⟨q.dst,uy s.h.ar.length q.op,q.guard⟩:aE))]
 refine An (M:=M) (pb:=pb) hΦ hPr _ 0 L (e.room n) ⟨s.env,s.h.room n⟩ a w (fun i q hi=>?_) hsr he fun a' w' L' e' h1 h2=>hK a' w' L' e' (hroom.trans h1) h2
 rw[VF]at hi
 obtain⟨q1,h3,rfl⟩:=Wf.1 hi
 have hlt:i<l.length:=by rw[← m1]; exact(Vy.1 h3).1
 have h4:=VA hlt
 obtain⟨o,h1,h2⟩:=bC hl i _ h4
 obtain⟨g1,g2,g3⟩:=m2 i _ q1 h4 h3
 exact⟨o,_,by simpa using h1,h2,g1.at (u7 (lU h2).1) _,g2,g3⟩
end Go.Pv
