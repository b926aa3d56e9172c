/-
 What the functions of the law give.
-/
import Derived.Test.YtpchfogcccagjaaGreatC3
set_option linter.unusedSimpArgs false
set_option linter.unusedVariables false
open List renaming mem_of_getElem? → aaj, getElem?_eq_some_iff → aak, getElem?_eq_getElem → aal, length_map → aam, getElem?_map → aap, mem_map → aaq, length_append → aas, getD_eq_getElem?_getD → aat, getElem?_append_right → aav, append_assoc → aay, mem_cons_of_mem → aaz, length_take → aaA, take_of_length_le → aaB, findIdx?_eq_some_iff_getElem → aaC, mem_cons → aaE, getElem?_set_self → aaG, take_add_one → aaH, pairwise_cons → aaI, length_range → aaJ, getElem?_set_ne → aaL, mem_cons_self → aaN, take_length → aaQ, mem_range → aaV, ext_getElem? → aa0, getElem?_drop → aa1, findIdx?_eq_none_iff → aa3, foldl_cons → abd, length_set → abe, pairwise_iff_getElem → abh, getElem?_range → abk, getElem_of_mem → abo, take_append_drop → abr, length_replicate → abu, getElem?_replicate → abw, range_succ → abA, pairwise_singleton → abN, length_filter_le → abU, pairwise_map → abW, drop_eq_getElem_cons → ab0, pairwise_lt_range → ab9, getElem?_set → aca, set_append_right → acg, ext_getElem → aci
open Nat renaming lt_or_ge → aar, le_refl → aau, mod_lt → aaP, zero_le → aaS, le_trans → aa5, lt_of_lt_of_le → abi, not_lt_zero → abz, sub_self → acf, min_eq_left → aco
open Int renaming toNat_natCast → aaU, toNat_of_nonneg → abH
open Option renaming map_some → ab7
namespace Go.Pv
theorem Dk:∀k:Fin 13,(jm k.val).size<=8:=by decide
theorem FR:∀k:Fin 13,(pK k.val).name.size<=8:=by decide
theorem Dl:∀k:Fin 5,(db k.val).size<=8:=by decide
theorem KY (a code:Nat):Bi a code<=6:=by
 unfold Bi;cases h:(gU a)[code%(gU a).length]? with
 |none=>simp
 |some n=>exact(mn (aaj h)).2
theorem EH (x:Node): -3<=lu x/\lu x<=3:=by
 have:x.a%7<7:=aaP _ (by decide);unfold lu;omega
theorem Bn (k:Nat)(hk:k<=9)(x:Node)(code:Nat):mM 1 (eM k x code).1.c:=by
 have hlo:=EH x;have hm:code%(x.b%6+1)<6+1:=abi (aaP _ (by omega)) (by have:x.b%6<6:=aaP _ (by decide);omega);have hid:=KY x.a code;refine⟨(eM k x code).1,rfl,?_,?_,?_,?_,?_⟩
 all_goals unfold eM
 all_goals generalize code%(x.b%6+1)=r at hm |-
 all_goals repeat' split
 all_goals simp[bn,eG,bo,cc,ByteArray.size]
 all_goals first
  |omega
  |(split<;>simp;done)
  |skip
theorem Dm:mM 1 bn.c:=by
 refine⟨bn,rfl,?_,?_,?_,?_,?_⟩<;>simp[bn,eG,bo,cc,ByteArray.size]
theorem Io (d:List Node)(u:Nat)(p:Part):mM 1 (nJ d u p).1.c:=by
 refine Bn _ ?_ _ _;have:=dY d u;unfold initK;split<;>omega
theorem Ip {d:List Node}{i:Nat}{fl:Bool}{id:Nat}{p:Part}(h0:0<d.length)(h5:d.length<=5)(hi:i<d.length)(h1:id<=12)(hh:pI d i id p=true):(ep d i fl id p).ok:=by
 have hs:=Dk ⟨id,by omega⟩;dsimp only at hs;refine⟨?_,?_,?_,1,?_⟩
 .show eG (id:Int);unfold eG;omega
 .show bo (jm id);unfold bo;omega
 .show eG (gF (dq d i p.type));unfold pI at hh;cases ht:dq d i p.type with
  |none=>simp[ht]at hh
  |some u=>
   have:=mm h0 hi ht;unfold eG gF;dsimp only;omega
 .unfold ep;dsimp only;split
  .exact Io _ _ _
  .exact Dm
theorem fk {k:Int}{nm:ByteArray}{lo hi mx key el:Int}{sy:List Sym}{ms:List Mem}{op:Bool}(h1:eG k)(h2:bo nm)(h3:eG lo)(h4:eG hi)(h5:eG mx)(h6:eG key)(h7:eG el)(h8:cc sy)(h9:cc ms)(h10:∀s∈sy,s.ok)(h11:∀m∈ms,m.ok):(⟨k,nm,lo,hi,mx,sy,ms,key,el,op⟩:aB).ok:=⟨⟨h1,h2,h3,h4,h5,h6,h7⟩,⟨h8,h9⟩,h10,h11⟩
theorem EI {d:List Node}{i:Nat}(h0:0<d.length)(h5:d.length<=5)(hi:i<d.length):(bh d i).ok/\(bh d i).short:=by
 have hlo:=EH (nodeAt d i);have hb6:(nodeAt d i).b%6<6:=aaP _ (by decide);have hhi:nA (nodeAt d i)=lu (nodeAt d i)+(((nodeAt d i).b%6:Nat):Int):=rfl;have hc:(nodeAt d i).c%d.length<d.length:=aaP _ h0;have h4:(nodeAt d i).a%4<4:=aaP _ (by decide);have hnm:=Dl ⟨i,by omega⟩;dsimp only at hnm;have hT:bo (db i):=by unfold bo;omega
 have hE:bo ⟨#[]⟩:=by unfold bo;exact aaS _
 have z:eG 0:=by unfold eG;omega
 have kk:∀k:Int,0<=k->k<=9->eG k:=λk _ _=>by unfold eG;omega
 have iL:eG (lu (nodeAt d i)):=by unfold eG;omega
 have iH:eG (nA (nodeAt d i)):=by unfold eG;omega
 have iC:eG (((nodeAt d i).c%d.length:Nat):Int):=by unfold eG;omega
 have iA:eG (((nodeAt d i).a%4:Nat):Int):=by unfold eG;omega
 have iK:eG (gF (kT d (nodeAt d i).b)):=by
  cases hk:kT d (nodeAt d i).b with
  |none=>unfold eG gF;dsimp only;omega
  |some q=>
   have:=si h0 hk;unfold eG gF;dsimp only;omega
 have n1:cc ([]:List Sym):=by unfold cc;simp
 have n2:cc ([]:List Mem):=by unfold cc;simp
 have n3:∀s∈([]:List Sym),s.ok:=λs hs=>by simp at hs
 have n4:∀s∈([]:List Mem),s.ok:=λs hs=>by simp at hs
 have hsl:(ki (nodeAt d i).a).length<=6:=by
  unfold ki;rw[aam];exact(lC _).2
 have sl:cc (ki (nodeAt d i).a):=by unfold cc;omega
 have so:∀s∈ki (nodeAt d i).a,s.ok:=λs hs=>by
  obtain⟨n,hn,rfl⟩:=aaq.1 hs;have h6:=mn hn;have hz:=FR ⟨n,by omega⟩;dsimp only at hz;refine⟨?_,?_⟩
  .show eG (n:Int);unfold eG;omega
  .unfold bo;omega
 have hml:=λfl=>pJ d i fl (nodeAt d i).parts 12;have ml:∀fl,cc (cm d i fl (nodeAt d i).parts 12):=λfl=>by have:=hml fl;unfold cc;omega
 have mo:∀fl,∀m∈cm d i fl (nodeAt d i).parts 12,m.ok:=λfl m hm=>by
  obtain⟨id,p,rfl,hh,_,_,h12⟩:=mq hm;exact Ip h0 h5 hi h12 hh
 have hs0:∀t:aB,t.syms.length<=12->t.aO.length<=12->t.short:=λt a b=>⟨by omega,by omega⟩;rcases eB d i with hk|hk|hk|hk|hk|hk|hk|hk|hk
 case inr.inr.inr.inr.inr.inl=>
  rw[nK hk];split<;>dsimp only[bk]
  .exact⟨fk (kk 5 (by decide) (by decide)) hT z z z z z n1 n2 n3 n4,hs0 _ (aaS _) (aaS _)⟩
  .exact⟨fk (kk 6 (by decide) (by decide)) hT z z z z z n1 (ml false) n3 (mo false),hs0 _ (aaS _) (hml false)⟩
 case inr.inr.inr.inr.inr.inr.inr.inl=>
  rw[pL hk];split<;>dsimp only[bk]
  .exact⟨fk (kk 7 (by decide) (by decide)) hE z z iA z iC n1 n2 n3 n4,hs0 _ (aaS _) (aaS _)⟩
  .exact⟨fk (kk 8 (by decide) (by decide)) hE z z iA iK iC n1 n2 n3 n4,hs0 _ (aaS _) (aaS _)⟩
 all_goals simp only[bh,hk]
 all_goals dsimp(config:={failIfUnchanged:=false}) [bk]
 .exact⟨fk (kk 1 (by decide) (by decide)) hE z z z z z n1 n2 n3 n4,hs0 _ (aaS _) (aaS _)⟩
 .exact⟨fk (kk 2 (by decide) (by decide)) hE iL iH z z z n1 n2 n3 n4,hs0 _ (aaS _) (aaS _)⟩
 .exact⟨fk (kk 3 (by decide) (by decide)) hE z z iA z z n1 n2 n3 n4,hs0 _ (aaS _) (aaS _)⟩
 .exact⟨fk (kk 4 (by decide) (by decide)) hT z z z z z sl n2 so n4,hs0 _ (aa5 hsl (by decide)) (aaS _)⟩
 .exact⟨fk (kk 5 (by decide) (by decide)) hT z z z z z n1 (ml true) n3 (mo true),hs0 _ (aaS _) (hml true)⟩
 .exact⟨fk (kk 7 (by decide) (by decide)) hE z z iA z iC n1 n2 n3 n4,hs0 _ (aaS _) (aaS _)⟩
 .exact⟨fk (kk 9 (by decide) (by decide)) hE z z z z iC n1 n2 n3 n4,hs0 _ (aaS _) (aaS _)⟩
theorem QH {d:List Node}(h0:0<d.length)(h5:d.length<=5):(∀t∈(List.range d.length).map (bh d),t.ok)/\∀t∈(List.range d.length).map (bh d),t.short:=by
 constructor<;>intro t ht<;>obtain⟨i,hi,rfl⟩:=aaq.1 ht
 .exact(EI h0 h5 (aaV.1 hi)).1
 .exact(EI h0 h5 (aaV.1 hi)).2
theorem zl {L:List Int}{u j:Int}(h:u≠j):br (L++[u]) j=br L j:=by
 unfold br bg;rw[List.findIdx?_append];have:List.findIdx? (λy=>decide (y=j)) [u]=none:=by simp[List.findIdx?_cons,h]
 rw[this];cases L.findIdx? (λy=>decide (y=j))<;>rfl
theorem FT {L:List Int}{u:Int}(h:¬u∈L):br (L++[u]) u=L.length:=by
 unfold br bg;rw[List.findIdx?_append];have h1:L.findIdx? (λy=>decide (y=u))=none:=by
  rw[aa3];intro x hx;simp only[decide_eq_false_iff_not];exact λe=>h (e ▸ hx)
 have h2:List.findIdx? (λy=>decide (y=u)) [u]=some 0:=by simp[List.findIdx?_cons]
 rw[h1,h2];simp
section
variable {α:Type} [Inhabited α]
def oI (lt:α->α->Bool)(x y:α):Prop:=lt x y=true\/lt y x=true
omit [Inhabited α] in
theorem oI.symm {lt:α->α->Bool}{x y:α}(h:oI lt x y):oI lt y x:=h.elim .inr .inl
def xP (lt:α->α->Bool)(x:α)(l:List α):Nat->Nat
 |0=>0
 |p+1=>if lt x (l.getD p default)=true then xP lt x l p else p+1
def mN (x:α)(l:List α)(p:Nat):List α:=l.take p++x::l.drop p
def wN (lt:α->α->Bool)(x:α)(l:List α):List α:=mN x l (xP lt x l l.length)
theorem Dn (lt:α->α->Bool)(x:α)(l:List α):∀q,xP lt x l q<=q
 |0=>aau _
 |q+1=>by
  have:=Dn lt x l q;unfold xP;split<;>omega
omit [Inhabited α] in
theorem vH (x:α)(l:List α)(p:Nat)(h:p<=l.length):(mN x l p).length=l.length+1:=by simp[mN];omega
theorem Bo (lt:α->α->Bool)(x:α)(l:List α):(wN lt x l).length=l.length+1:=vH x l _ (Dn lt x l _)
omit [Inhabited α] in
theorem EJ (x:α)(l:List α)(p:Nat)(h:p<=l.length):(mN x l p)[p]?=some x:=by
 unfold mN;rw[List.getElem?_append_right (by simp;omega)];simp[Nat.min_eq_left h]
theorem Dp (x:α)(l:List α)(p:Nat)(h:p<l.length):(mN x l (p+1))[p]?=some (l.getD p default):=by
 unfold mN;rw[List.getElem?_append_left (by simp;omega),List.getElem?_take,if_pos (by omega)];simp[h]
theorem FU (x:α)(l:List α)(p:Nat)(h:p<l.length):((mN x l (p+1)).set (p+1) (l.getD p default)).set p x=mN x l p:=by
 apply aa0;intro i;have h1:=vH x l (p+1) (by omega);by_cases ip:i=p
 .subst ip;rw[EJ x l i (by omega),List.getElem?_set_self (by simp[h1];omega)]
 .rw[aaL (Ne.symm ip)];by_cases iq:i=p+1
  .subst iq;rw[aaG (by rw[h1];omega)];unfold mN;rw[List.getElem?_append_right (by simp;omega)];simp[Nat.min_eq_left (Nat.le_of_lt h),h]
  .rw[aaL (Ne.symm iq)];unfold mN;rcases aar i p with hi|hi
   .rw[List.getElem?_append_left (by simp;omega),List.getElem?_append_left (by simp;omega),List.getElem?_take,List.getElem?_take,if_pos (by omega),if_pos hi]
   .rw[List.getElem?_append_right (by simp;omega),List.getElem?_append_right (by simp;omega)];obtain⟨q,rfl⟩:∃q,i=p+2+q:=⟨i - (p+2),by omega⟩;simp only[List.length_take,Nat.min_eq_left (Nat.le_of_lt h),Nat.min_eq_left (Nat.succ_le_of_lt h)];rw[show p+2+q - (p+1)=q+1 by omega,show p+2+q - p=q+2 by omega];simp only[List.getElem?_cons_succ,List.getElem?_drop];congr 1;omega
omit [Inhabited α] in
theorem FV (x:α)(l:List α)(p:Nat):(mN x l p).Perm (x::l):=by
 unfold mN;refine(List.perm_middle).trans ?_;rw[abr]
theorem xQ (lt:α->α->Bool)(x:α)(l:List α):(wN lt x l).Perm (x::l):=FV x l _
theorem xR (lt:α->α->Bool)(x:α)(l:List α):∀q j,xP lt x l q<=j->j<q->lt x (l.getD j default)=true
 |0,j,_,h=>absurd h (abz _)
 |q+1,j,h1,h2=>by
  unfold xP at h1;split at h1
  .rename_i h;rcases aar j q with h3|h3
   .exact xR lt x l q j h1 h3
   .obtain rfl:j=q:=by omega
    exact h
  .omega
theorem Bp (lt:α->α->Bool)(x:α)(l:List α):∀q p,xP lt x l q=p+1->lt x (l.getD p default)=false
 |0,p,h=>by simp[xP]at h
 |q+1,p,h=>by
  unfold xP at h;split at h
  .exact Bp lt x l q p h
  .rename_i hn;obtain rfl:p=q:=by omega
   simpa using hn
theorem Bq {lt:α->α->Bool}(tr:∀x y z,lt x y=true->lt y z=true->lt x z=true){x:α}{l:List α}(hl:l.Pairwise (λa b=>lt a b=true))(hx:∀y∈l,oI lt x y):(wN lt x l).Pairwise (λa b=>lt a b=true):=by
 have hle:=Dn lt x l l.length;have hup:∀y∈l.drop (xP lt x l l.length),lt x y=true:=λy hy=>by
  obtain⟨j,hj,rfl⟩:=abo hy;rw[List.length_drop]at hj;have:=xR lt x l l.length (xP lt x l l.length+j) (by omega) (by omega);rw[List.getElem_drop];simpa [show xP lt x l l.length+j<l.length by omega]using this
 have hlo:∀y∈l.take (xP lt x l l.length),lt y x=true:=λy hy=>by
  obtain⟨j,hj,rfl⟩:=abo hy;rw[aaA]at hj;obtain⟨p,hp⟩:∃p,xP lt x l l.length=p+1:=⟨xP lt x l l.length - 1,by omega⟩;have hst:=Bp lt x l _ _ hp;have hpl:p<l.length:=by omega
  have e1:l.getD p default=l[p]:=by simp[hpl]
  rw[e1]at hst;have h1:lt l[p] x=true:=(hx l[p] (List.getElem_mem _)).resolve_left (by simp[hst]);rw[List.getElem_take];rcases aar j p with h|h
  .exact tr _ _ _ (abh.1 hl j p (by omega) hpl h) h1
  .obtain rfl:j=p:=by omega
   exact h1
 unfold wN mN;rw[List.pairwise_append,aaI];refine⟨hl.sublist (List.take_sublist _ _),⟨hup,hl.sublist (List.drop_sublist _ _)⟩,λa ha b hb=>?_⟩;rcases aaE.1 hb with rfl|hb
 .exact hlo a ha
 .exact tr _ _ _ (hlo a ha) (hup b hb)
def nL (lt:α->α->Bool)(l:List α):List α:=l.foldl (λo x=>wN lt x o) []
theorem vI (lt:α->α->Bool):∀(l o:List α),(l.foldl (λo x=>wN lt x o) o).Perm (o++l)
 |[],o=>by simp
 |x::l,o=>by
  rw[abd];refine(vI lt l _).trans ?_;refine((xQ lt x o).append_right l).trans ?_;exact(List.perm_middle (a:=x) (l₁:=o) (l₂:=l)).symm
theorem mr (lt:α->α->Bool)(l:List α):(nL lt l).Perm l:=vI lt l []
theorem qR {lt:α->α->Bool}(tr:∀x y z,lt x y=true->lt y z=true->lt x z=true):∀{l o:List α},o.Pairwise (λa b=>lt a b=true)->l.Pairwise (oI lt)->(∀x∈l,∀y∈o,oI lt x y)->(l.foldl (λo x=>wN lt x o) o).Pairwise (λa b=>lt a b=true)
 |[],_,h,_,_=>h
 |x::l,o,h,hl,hx=>by
  rw[aaI]at hl;rw[abd];refine qR tr (Bq tr h (hx x (by simp))) hl.2 λz hz y hy=>?_;rcases aaE.1 ((xQ lt x o).subset hy)with rfl|hy
  .exact(hl.1 z hz).symm
  .exact hx z (by simp[hz]) y hy
theorem qS {lt:α->α->Bool}(tr:∀x y z,lt x y=true->lt y z=true->lt x z=true){l:List α}(hl:l.Pairwise (oI lt)):(nL lt l).Pairwise (λa b=>lt a b=true):=qR tr List.Pairwise.nil hl (λ_ _ _ h=>absurd h (by simp))
omit [Inhabited α] in
theorem Iq {lt:α->α->Bool}(tr:∀x y z,lt x y=true->lt y z=true->lt x z=true){x:α}:∀{l:List α},l.Pairwise (λa b=>lt a b=true)->(∀y∈l,oI lt x y)->(ins lt x l).Pairwise (λa b=>lt a b=true)
 |[],_,_=>abN _ _
 |y::r,h,hx=>by
  obtain⟨h1,h2⟩:=aaI.1 h;unfold ins;split
  .rename_i hc;refine List.pairwise_cons.2 ⟨λz hz=>?_,Iq tr h2 (λz hz=>hx z (by simp[hz]))⟩;rcases aaE.1 ((qE lt x r).subset hz)with rfl|hz
   .exact hc
   .exact h1 z hz
  .rename_i hc;have hxy:lt x y=true:=(hx y (by simp)).resolve_right (by simpa using hc);refine aaI.2 ⟨λz hz=>?_,h⟩;rcases aaE.1 hz with rfl|hz
   .exact hxy
   .exact tr _ _ _ hxy (h1 z hz)
omit [Inhabited α] in
theorem qT {lt:α->α->Bool}(tr:∀x y z,lt x y=true->lt y z=true->lt x z=true):∀{l:List α},l.Pairwise (oI lt)->(cU lt l).Pairwise (λa b=>lt a b=true)
 |[],_=>List.Pairwise.nil
 |x::l,h=>by
  obtain⟨h1,h2⟩:=aaI.1 h;exact Iq tr (qT tr h2) λy hy=>h1 y ((bW lt l).subset hy)
omit [Inhabited α] in
theorem xS {lt:α->α->Bool}:∀{l:List α},l.Pairwise (λa b=>lt a b=true)->rising lt l=true
 |[],_=>rfl
 |[_],_=>rfl
 |x::y::r,h=>by
  obtain⟨h1,h2⟩:=aaI.1 h;simp only[rising,Bool.and_eq_true];exact⟨h1 y (by simp),xS h2⟩
omit [Inhabited α] in
theorem EK {lt:α->α->Bool}(irr:∀x,lt x x=false)(tr:∀x y z,lt x y=true->lt y z=true->lt x z=true){l m:List α}(hl:l.Pairwise (λa b=>lt a b=true))(hm:m.Pairwise (λa b=>lt a b=true))(h:∀x,x∈l↔x∈m):l=m:=
 C9 (r:=λa b=>lt a b=true) (λx=>by simp[irr x]) tr hl hm h
theorem Bs {lt:α->α->Bool}(irr:∀x,lt x x=false)(tr:∀x y z,lt x y=true->lt y z=true->lt x z=true){l:List α}(hl:l.Pairwise (oI lt)):nL lt l=cU lt l:=
 EK irr tr (qS tr hl) (qT tr hl) λ_=>((mr lt l).trans (bW lt l).symm).mem_iff
end
end Go.Pv
namespace Go.Pv
theorem r66 {Pr:bD}(x:Int):res A Pr 66 [.int .i64 x]=some [.bool false]:=by
 refine ai a66 rfl rfl ?_;simp only[F66,Yu];simp(disch:=omega)only[go_sem]
theorem r60 {Pr:bD}(hp:Pr 66=none)(x y:Int):res A Pr 60 [.int .i64 x,.int .i64 y]=some [.int .i64 (jw x y)]:=by
 refine ai a60 rfl rfl ?_;simp only[F60,Ys];simp(disch:=omega)only[go_sem,AP (by kernel_rfl) hp YA,r66];unfold jw;refine Br.aF (λh=>?_) (λh=>?_)<;>simp(disch:=omega)only[go_sem,h];refine Br.aF (λh2=>?_) (λh2=>?_)<;>simp(disch:=omega)only[go_sem,h,h2]
theorem r58 {Pr:bD}(a:Edge):res A Pr 58 [.agg a.c]=some [.int .i64 a.side]:=by
 refine ai a58 rfl rfl ?_;simp only[F58,Yq];simp(disch:=omega)only[go_sem];unfold Edge.side;refine Br.of (λh=>?_) (λh=>?_)<;>simp(disch:=omega)only[go_sem,h]
def Ir:List Int->Int
 |[]=>0
 |x::r=>if x≠0 then x else Ir r
theorem gI {α:Type}{l:List α}{k:Nat}{x:α}(h:l[k]?=some x):l.drop k=x::l.drop (k+1):=by
 obtain⟨h1,h2⟩:=aak.1 h;rw[ab0 h1,h2]
theorem get_at {α:Type}{l:List α}{k:Nat}(h:k<l.length):∃x,l[k]?=some x:=⟨_,aal h⟩
theorem lD {α:Type}{l:List α}{k:Nat}(h:¬(k:Int)<l.length):l.drop k=[]:=List.drop_eq_nil_of_le (by omega)
theorem r59 {Pr:bD}(t:Nat)(l:List Int)(hl:l.length<1000):res A Pr 59 [.ae t (ints l)]=some [.int .i64 (Ir l)]:=by
 refine ai a59 rfl rfl ?_;simp only[F59,Yr];simp(disch:=omega)only[go_sem];refine W.dx l.length (λk=>⟨[(3,.pv (.int .i64 0)),(6,.pv (.ae t (ints l))),(7,.pv (.int .i64 l.length)),(8,.pv (.int .i64 k))],⟨[],[],[]⟩⟩) (λk=>Ir l=Ir (l.drop k)) rfl rfl λk hk hi=>?_;simp(disch:=omega)only[go_sem];refine Br.aF (λh=>?_) (λh=>?_)
 .obtain⟨x,hx⟩:=get_at (l:=l) (k:=k) (by omega);rw[gI hx,Ir]at hi;simp(disch:=omega)only[go_sem,hx];refine Br.aF (λh1=>?_) (λh1=>?_)<;>simp(disch:=omega)only[go_sem]
  .exact .of (by omega) rfl (by simpa [h1]using hi)
  .simp[hi,h1]
 .simp(disch:=omega)only[go_sem];simp[hi,lD h,Ir]
theorem r47 {Pr:bD}(h66:Pr 66=none)(h60:Pr 60=none)(h59:Pr 59=none)(h58:Pr 58=none)(a b:Edge):res A Pr 47 [.agg a.c,.agg b.c]=some [.int .i64 (Edge.cmp a b)]:=by
 refine ai a47 rfl rfl ?_;simp only[F47,Yj];have e59:=λx y z=>r59 (Pr:=Pr) 0 [x,y,z] (by simp);simp only[ints,List.map_cons,List.map_nil]at e59;have e58:=λx=>r58 (Pr:=Pr) x;simp only[Edge.c]at e58;simp(disch:=omega)only[go_sem,AP (by kernel_rfl) h60 Yz,AP (by kernel_rfl) h59 Yy,AP (by kernel_rfl) h58 Yx,r60 h66,e58 a,e58 b,e59];by_cases h:jw a.label b.label=0<;>simp[Ir,Edge.cmp,h]
@[go_sem] theorem r44 (a b:Edge):res A ay 44 [.agg [.int .i64 a.fr,.bool a.send,.int .i64 a.label,.int .i64 a.to],.agg [.int .i64 b.fr,.bool b.send,.int .i64 b.label,.int .i64 b.to]]=some [.bool (Edge.lt a b)]:=by
 refine ai a44 rfl rfl ?_;simp only[F44,Yg];simp(disch:=omega)only[go_sem];unfold Edge.lt;by_cases h:a.fr=b.fr<;>by_cases h2:a.send=b.send<;>simp(disch:=omega)only[go_sem,h,h2,ne_eq,not_true_eq_false,not_false_eq_true]
theorem aT.Is {a:aT}(h1:a.aj<=12)(h2:a.aa.length<=100)(h3:0<=a.start/\a.start<a.aj):a.err=if vn a.aj none a.aa=true then 0 else 1:=by
 unfold aT.err;rw[if_neg (by omega),if_pos h3]
theorem aT.ou {a:aT}(h1:a.aj<=12)(h2:a.aa.length<=100)(h3:¬(0<=a.start/\a.start<a.aj)):a.err=1:=by
 unfold aT.err;rw[if_neg (by omega),if_neg h3]
theorem aT.ov {a:aT}(h:12<a.aj\/100<a.aa.length):a.err=3:=by
 unfold aT.err;rw[if_pos h]
theorem It {n:Int}{p:Option Edge}{e:Edge}{r:List Edge}(h:e.fits n=false):vn n p (e::r)=false:=by simp[vn,h]
set_option maxHeartbeats 1000000 in
@[go_sem] theorem r26 (t:Nat)(a:aT)(hl:a.aa.length<=2^63 - 1):res A ay 26 [.agg [.int .i64 a.aj,.int .i64 a.start,.ae t (a.aa.map Edge.c)]]=some [.int .i64 a.err]:=by
 refine ai a26 rfl rfl ?_;simp only[F26,X8];simp(disch:=omega)only[go_sem];refine Br.aF (λh1=>?_) (λh1=>?_)<;>simp(disch:=omega)only[go_sem,h1]
 .rw[aT.ov (.inl h1)]
 refine Br.aF (λh2=>?_) (λh2=>?_)<;>simp(disch:=omega)only[go_sem,h2]
 .rw[aT.ov (.inr (by omega))]
 refine Br.aF (λh3=>?_) (λh3=>?_)<;>simp(disch:=omega)only[go_sem,h3]
 .rw[aT.ou (by omega) (by omega) (by omega)]
 refine Br.aF (λh4=>?_) (λh4=>?_)<;>simp(disch:=omega)only[go_sem,h4]
 .rw[aT.ou (by omega) (by omega) (by omega)]
 refine Br.aF (λh5=>?_) (λh5=>?_)<;>simp(disch:=omega)only[go_sem,h5]
 .rw[aT.ou (by omega) (by omega) (by omega)]
 rw[aT.Is (by omega) (by omega) (by omega)];refine W.dx a.aa.length (λk=>⟨[(1,.ptr 1 0),(3,.pv (.int .i64 k))],⟨[(1,[.pv (.int .i64 a.aj),.pv (.int .i64 a.start),.pv (.ae t (a.aa.map Edge.c))])],[],[]⟩⟩) (λk=>vn a.aj none a.aa=vn a.aj (r6 a.aa k) (a.aa.drop k)) rfl rfl λk hk hi=>?_;simp(disch:=omega)only[go_sem];refine Br.aF (λh=>?_) (λh=>?_)
 .obtain⟨e,he⟩:=get_at (l:=a.aa) (k:=k) (by omega);rw[gI he]at hi;have bad:e.fits a.aj=false->vn a.aj none a.aa=false:=λhb=>hi.trans (It hb);simp(disch:=omega)only[go_sem,he];refine Br.aF (λg1=>?_) (λg1=>?_)<;>simp(disch:=omega)only[go_sem,g1]
  .rw[bad (by simp[Edge.fits];omega)];rfl
  refine Br.aF (λg2=>?_) (λg2=>?_)<;>simp(disch:=omega)only[go_sem,g2]
  .rw[bad (by simp[Edge.fits];omega)];rfl
  refine Br.aF (λg3=>?_) (λg3=>?_)<;>simp(disch:=omega)only[go_sem,g3]
  .rw[bad (by simp[Edge.fits];omega)];rfl
  refine Br.aF (λg4=>?_) (λg4=>?_)<;>simp(disch:=omega)only[go_sem,g4]
  .rw[bad (by simp[Edge.fits];omega)];rfl
  refine Br.aF (λg5=>?_) (λg5=>?_)<;>simp(disch:=omega)only[go_sem,g5]
  .rw[bad (by simp[Edge.fits];omega)];rfl
  refine Br.aF (λg6=>?_) (λg6=>?_)<;>simp(disch:=omega)only[go_sem,g6]
  .rw[bad (by simp[Edge.fits];omega)];rfl
  have fit:e.fits a.aj=true:=by simp[Edge.fits];omega
  refine Br.aF (λg7=>?_) (λg7=>?_)<;>simp(disch:=omega)only[go_sem,g7]
  .obtain⟨j,rfl⟩:∃j,k=j+1:=⟨k - 1,by omega⟩;obtain⟨d,hd⟩:=get_at (l:=a.aa) (k:=j) (by omega);have hj:((j+1:Nat):Int) - 1=(j:Int):=by omega
   rw[gh,hd]at hi;simp(disch:=omega)only[go_sem,hj,hd];refine Br.of (λg8=>?_) (λg8=>?_)<;>simp(disch:=omega)only[go_sem]
   .exact .of (by omega) rfl (by rw[hi,gh,he];simp[vn,fit,g8])
   .rw[hi];simp[vn,g8]
  .obtain rfl:k=0:=by omega
   exact .of (by omega) rfl (by rw[hi,gh,he];simp[vn,fit,r6])
 .simp(disch:=omega)only[go_sem];rw[hi,lD h];rfl
@[go_sem] theorem r47a (a b:Edge):res A ay 47 [.agg [.int .i64 a.fr,.bool a.send,.int .i64 a.label,.int .i64 a.to],.agg [.int .i64 b.fr,.bool b.send,.int .i64 b.label,.int .i64 b.to]]=some [.int .i64 (Edge.cmp a b)]:=
 r47 (by kernel_rfl) (by kernel_rfl) (by kernel_rfl) (by kernel_rfl) a b
@[go_sem] theorem r46 (n s:Int)(t:Nat)(cs:List PV):res A ay 46 [.int .i64 n,.ro t (.int .i64 s::cs)]=some [.bool (decide (0<=n)&&decide (n<s))]:=by
 refine ai a46 rfl rfl ?_;simp only[F46,Yi];simp(disch:=omega)only[go_sem];refine Br.aF (λh1=>?_) (λh1=>?_)<;>simp(disch:=omega)only[go_sem,h1]
theorem EL {e:Edge}{n:Int}:e.fits n=(((decide (0<=e.fr)&&decide (e.fr<n))&&(decide (0<=e.to)&&decide (e.to<n)))&&(decide (1<=e.label)&&decide (e.label<=1000))):=by
 simp[Edge.fits,Bool.and_assoc]
set_option maxHeartbeats 2000000 in
@[go_sem] theorem r29 (t:Nat)(a:aT)(hl:a.aa.length<=2^63 - 1):res A ay 29 [.agg [.int .i64 a.aj,.int .i64 a.start,.ae t (a.aa.map Edge.c)]]=some [.int .i64 a.err]:=by
 refine ai a29 rfl rfl ?_;simp only[F29,X9];simp(disch:=omega)only[go_sem];refine Br.aF (λh1=>?_) (λh1=>?_)<;>simp(disch:=omega)only[go_sem,h1]
 .rw[aT.ov (.inl h1)]
 refine Br.aF (λh2=>?_) (λh2=>?_)<;>simp(disch:=omega)only[go_sem,h2]
 .rw[aT.ov (.inr (by omega))]
 refine Br.of (λh3=>?_) (λh3=>?_)<;>simp at h3<;>simp(disch:=omega)only[go_sem]
 case refine_2=>rw[aT.ou (by omega) (by omega) (by omega)]
 rw[aT.Is (by omega) (by omega) (by omega)];refine W.dx a.aa.length (λk=>⟨[(1,.ptr 1 0),(3,.func 46 [.ptr 1 0]),(22,.pv (.ae t (a.aa.map Edge.c))),(23,.pv (.int .i64 a.aa.length)),(24,.pv (.int .i64 k))],⟨[(1,[.pv (.int .i64 a.aj),.pv (.int .i64 a.start),.pv (.ae t (a.aa.map Edge.c))])],[],[]⟩⟩) (λk=>vn a.aj none a.aa=vn a.aj (r6 a.aa k) (a.aa.drop k)) rfl rfl λk hk hi=>?_;simp(disch:=omega)only[go_sem];refine Br.aF (λh=>?_) (λh=>?_)
 .obtain⟨e,he⟩:=get_at (l:=a.aa) (k:=k) (by omega);rw[gI he]at hi;have bad:e.fits a.aj=false->vn a.aj none a.aa=false:=λhb=>hi.trans (It hb);rw[EL]at bad;simp(disch:=omega)only[go_sem,he];refine Br.of (λg1=>?_) (λg1=>?_)<;>simp(disch:=omega)only[go_sem,g1]
  case refine_2=>rw[bad (by rw[g1];rfl)];rfl
  refine Br.of (λg2=>?_) (λg2=>?_)<;>simp(disch:=omega)only[go_sem,g2]
  case refine_2=>rw[bad (by rw[g1,g2];rfl)];rfl
  refine Br.aF (λg3=>?_) (λg3=>?_)<;>simp(disch:=omega)only[go_sem,g3]
  .rw[bad (by simp;omega)];rfl
  refine Br.aF (λg4=>?_) (λg4=>?_)<;>simp(disch:=omega)only[go_sem,g4]
  .rw[bad (by simp;omega)];rfl
  have fit:e.fits a.aj=true:=by rw[EL,g1,g2];simp;omega
  refine Br.aF (λg7=>?_) (λg7=>?_)<;>simp(disch:=omega)only[go_sem,g7]
  .obtain⟨j,rfl⟩:∃j,k=j+1:=⟨k - 1,by omega⟩;obtain⟨d,hd⟩:=get_at (l:=a.aa) (k:=j) (by omega);have hj:((j+1:Nat):Int) - 1=(j:Int):=by omega
   rw[gh,hd]at hi;simp(disch:=omega)only[go_sem,hj,hd,Edge.N2];refine Br.of (λg8=>?_) (λg8=>?_)<;>simp(disch:=omega)only[go_sem]
   .exact .of (by omega) rfl (by rw[hi,gh,he];simp[vn,fit,g8])
   .rw[hi];simp[vn,g8]
  .obtain rfl:k=0:=by omega
   exact .of (by omega) rfl (by rw[hi,gh,he];simp[vn,fit,r6])
 .simp(disch:=omega)only[go_sem];rw[hi,lD h];rfl
def bz (s:Int)(d:Bool)(x:Int):List Edge->Option Int
 |[]=>none
 |e::r=>if e.fr=s/\e.send=d/\e.label=x then some e.to else bz s d x r
@[go_sem] theorem r45 (t:Nat)(a:aT)(s:Int)(d:Bool)(x:Int)(hl:a.aa.length<=2^63 - 1):
  res A ay 45 [.agg [.int .i64 a.aj,.int .i64 a.start,.ae t (a.aa.map Edge.c)],.int .i64 s,.bool d,.int .i64 x]=some [.int .i64 ((bz s d x a.aa).getD 0),.bool (bz s d x a.aa).isSome]:=by
 refine ai a45 rfl rfl ?_;simp only[F45,Yh];simp(disch:=omega)only[go_sem];refine W.dx a.aa.length (λk=>⟨[(1,.pv (.int .i64 s)),(2,.pv (.bool d)),(3,.pv (.int .i64 x)),(13,.pv (.ae t (a.aa.map Edge.c))),(14,.pv (.int .i64 a.aa.length)),(15,.pv (.int .i64 k))],⟨[],[],[]⟩⟩) (λk=>bz s d x a.aa=bz s d x (a.aa.drop k)) rfl rfl λk hk hi=>?_;simp(disch:=omega)only[go_sem];refine Br.aF (λh=>?_) (λh=>?_)
 .obtain⟨e,he⟩:=get_at (l:=a.aa) (k:=k) (by omega);rw[gI he]at hi;have no:¬(e.fr=s/\e.send=d/\e.label=x)->bz s d x a.aa=bz s d x (a.aa.drop (k+1)):=λhn=>hi.trans (by simp only[bz,if_neg hn]);have yes:(e.fr=s/\e.send=d/\e.label=x)->bz s d x a.aa=some e.to:=λhn=>hi.trans (by simp only[bz,if_pos hn]);simp(disch:=omega)only[go_sem,he];refine Br.aF (λg1=>?_) (λg1=>?_)<;>simp(disch:=omega)only[go_sem,g1]
  .refine Br.aF (λg2=>?_) (λg2=>?_)<;>simp(disch:=omega)only[go_sem,g2]
   .refine Br.aF (λg3=>?_) (λg3=>?_)<;>simp(disch:=omega)only[go_sem,g3]
    .rw[yes ⟨g1,g2,g3⟩];rfl
    .exact .of (by omega) rfl (no (λhn=>g3 hn.2.2))
   .exact .of (by omega) rfl (no (λhn=>g2 hn.2.1))
  .exact .of (by omega) rfl (no (λhn=>g1 hn.1))
 .simp(disch:=omega)only[go_sem];rw[hi,lD h];rfl
@[go_sem] theorem r39 (t:Nat)(a:aT)(s:Int)(d:Bool)(x:Int)(hl:a.aa.length<=2^63 - 1):
  res A ay 39 [.agg [.int .i64 a.aj,.int .i64 a.start,.ae t (a.aa.map Edge.c)],.int .i64 s,.bool d,.int .i64 x]=some [.int .i64 ((bz s d x a.aa).getD 0),.bool (bz s d x a.aa).isSome]:=by
 refine ai a39 rfl rfl ?_;simp only[F39,Ye];simp(disch:=omega)only[go_sem];refine W.dx a.aa.length (λk=>⟨[(1,.pv (.int .i64 s)),(2,.pv (.bool d)),(3,.pv (.int .i64 x)),(4,.ptr 4 0),(10,.pv (.int .i64 k))],⟨[(4,[.pv (.int .i64 a.aj),.pv (.int .i64 a.start),.pv (.ae t (a.aa.map Edge.c))])],[],[]⟩⟩) (λk=>bz s d x a.aa=bz s d x (a.aa.drop k)) rfl rfl λk hk hi=>?_;simp(disch:=omega)only[go_sem];refine Br.aF (λh=>?_) (λh=>?_)
 .obtain⟨e,he⟩:=get_at (l:=a.aa) (k:=k) (by omega);rw[gI he]at hi;have no:¬(e.fr=s/\e.send=d/\e.label=x)->bz s d x a.aa=bz s d x (a.aa.drop (k+1)):=λhn=>hi.trans (by simp only[bz,if_neg hn]);have yes:(e.fr=s/\e.send=d/\e.label=x)->bz s d x a.aa=some e.to:=λhn=>hi.trans (by simp only[bz,if_pos hn]);simp(disch:=omega)only[go_sem,he];refine Br.aF (λg1=>?_) (λg1=>?_)<;>simp(disch:=omega)only[go_sem,g1]
  .refine Br.aF (λg2=>?_) (λg2=>?_)<;>simp(disch:=omega)only[go_sem,g2]
   .refine Br.aF (λg3=>?_) (λg3=>?_)<;>simp(disch:=omega)only[go_sem,g3]
    .rw[yes ⟨g1,g2,g3⟩];rfl
    .exact .of (by omega) rfl (no (λhn=>g3 hn.2.2))
   .exact .of (by omega) rfl (no (λhn=>g2 hn.2.1))
  .exact .of (by omega) rfl (no (λhn=>g1 hn.1))
 .simp(disch:=omega)only[go_sem];rw[hi,lD h];rfl
def Iu (s:Int):List Edge->Bool
 |[]=>true
 |e::r=>if e.fr=s then false else Iu s r
def Dq (es:List Edge):Nat->List Int
 |0=>[]
 |k+1=>if Iu k es then Dq es k++[(k:Int)] else Dq es k
def aT.ends (a:aT):List Int:=if a.aj<=12 then Dq a.aa a.aj.toNat else []
def fm (x:Int):Nat->List Int->Int
 |_,[]=> -1
 |k,y::r=>if y=x then k else fm x (k+1) r
def lL (x:Int)(l:List Int):Int:=fm x 0 l
@[go_sem] theorem r53 (t:Nat)(l:List Int)(x:Int)(hl:l.length<=2^63 - 1):res A ay 53 [.ae t (ints l),.int .i64 x]=some [.int .i64 (lL x l)]:=by
 refine ai a53 rfl rfl ?_;simp only[F53,Ym];simp(disch:=omega)only[go_sem];refine W.dx l.length (λk=>⟨[(0,.pv (.ae t (ints l))),(1,.pv (.int .i64 x)),(5,.pv (.int .i64 k))],⟨[],[],[]⟩⟩) (λk=>lL x l=fm x k (l.drop k)) rfl rfl λk hk hi=>?_;simp(disch:=omega)only[go_sem];refine Br.aF (λh=>?_) (λh=>?_)
 .obtain⟨y,hy⟩:=get_at (l:=l) (k:=k) (by omega);rw[gI hy]at hi;simp(disch:=omega)only[go_sem,hy];refine Br.aF (λg1=>?_) (λg1=>?_)<;>simp(disch:=omega)only[go_sem,g1]
  .rw[hi];simp only[fm,if_pos g1]
  .exact .of (by omega) rfl (hi.trans (by simp only[fm,if_neg g1]))
 .simp(disch:=omega)only[go_sem];rw[hi,lD h];rfl
def dE:List Int->List Int
 |[]=>[]
 |[x]=>[x]
 |x::y::r=>if x=y then dE (y::r) else x::dE (y::r)
@[go_sem] theorem QI (a b c d:Nat):distinct (eQ [.own a b c d])=true:=rfl
@[go_sem] theorem QJ (bx:List (Nat×List V))(mp:List (List (PV×PV)))(ar:List aL)(v n:Nat)(l:List Int):bV ⟨bx,⟨v,1,.inl (ints l)⟩::ar,mp⟩ true (.own 0 v 0 n)=some (.fr 1 (ints (l.take n))):=by
 simp[bV,fC,aC,ints]
@[go_sem] theorem VJ (bx:List (Nat×List V))(mp:List (List (PV×PV)))(ar:List aL)(v off len:Nat)(l:List Int)(h:off+len<=l.length):HG ⟨bx,⟨v,1,.inl (ints l)⟩::ar,mp⟩ 1 [.pv (.int .i64 0)] (.own 0 v off len)=
  some (.dR [],{ar:=some (0,⟨v,1,.inl (ints (l.take off++List.replicate len 0++l.drop (off+len)))⟩)}):=by
 simp[HG,aC,aA,V.bU,PV.perm,ints,h]
theorem r104_small (l:List Int)(h1:l.length<2):res A ay 104 [.fr 1 (ints l)]=some [.fr 1 (ints l)]:=by
 refine ai a104 rfl rfl ?_;simp only[F104,HU];have h2:((l.length:Nat):Int)<2:=by omega
 simp(disch:=omega)only[go_sem,h2,List.take_length]
theorem vJ (l:List Int)(x y:Int)(k:Nat)(hx:l[k]?=some x)(hy:l[k+1]?=some y):dE (l.take (k+2))=if x=y then dE (l.take (k+1)) else dE (l.take (k+1))++[y]:=by
 induction l generalizing k with
 |nil=>simp at hx
 |cons z l ih=>
  cases k with
  |zero=>
   simp at hx hy;subst hx
   match l,hy with
   |w::r,hy=>
    simp at hy;subst hy;simp only[Nat.zero_add,List.take_succ_cons,List.take_zero,dE];split
    .rename_i hzw;rw[hzw]
    .rfl
  |succ k=>
   simp at hx hy;have:=ih k hx hy
   match l,hx with
   |w::r,hx=>
    simp only[List.take_succ_cons,dE]at this |-;split
    .exact this
    .rw[this];split<;>simp
theorem KZ (c l:List Int)(v:Int)(h:c.length<l.length):(c++l.drop c.length).set c.length v=(c++[v])++l.drop (c++[v]).length:=by
 rw[acg _ _ (aau _),acf,aay];have:(c++[v]).length=c.length+1:=by simp
 rw[this,ab0 h];rfl
theorem r104_big (l:List Int)(h1:2<=l.length)(h0:l.length<=2000000000):res A ay 104 [.fr 1 (ints l)]=some [.fr 1 (ints (dE l))]:=by
 refine ai a104 rfl rfl ?_;simp only[F104,HU];have h2:¬((l.length:Nat):Int)<2:=by omega
 simp(disch:=omega)only[go_sem,h2];refine W.dx (l.length - 1) (λj=>⟨[(0,.own 0 0 0 l.length),(3,.pv (.int .i64 (j+1:Nat)))],⟨[],[⟨0,1,.inl (ints l)⟩],[]⟩⟩) (λj=>dE (l.take (j+1))=l.take (j+1)) rfl ?_ λj hj hi=>?_
 .match l,h1 with
  |x::r,_=>rfl
 have e1:((j+1:Nat):Int) - 1=(j:Int):=by omega
 simp(disch:=omega)only[go_sem];refine Br.aF (λh=>?_) (λh=>?_)
 .obtain⟨x,hx⟩:=get_at (l:=l) (k:=j) (by omega);obtain⟨y,hy⟩:=get_at (l:=l) (k:=j+1) (by omega);have hs:=vJ l x y j hx hy;simp(disch:=omega)only[go_sem,e1,hx,hy];refine Br.aF (λg=>?_) (λg=>?_)
  case refine_2=>
   simp(disch:=omega)only[go_sem,g];refine .of (by omega) rfl ?_;rw[hs,if_neg (λhc=>g hc.symm),hi,aaH (i:=j+1),hy];rfl
  simp(disch:=omega)only[go_sem,g];have hc0:dE (l.take (j+2))=l.take (j+1):=by rw[hs,if_pos g.symm,hi]
  refine W.dx (l.length - (j+2)) (λi=>⟨[(0,.own 0 0 0 l.length),(3,.pv (.int .i64 (dE (l.take (j+2+i))).length)),(4,.own 0 0 (j+1) (l.length - (j+1))),(5,.pv (.int .i64 (i+1:Nat)))],⟨[],[⟨0,1,.inl (ints (dE (l.take (j+2+i))++l.drop (dE (l.take (j+2+i))).length))⟩],[]⟩⟩)
   (λi=>(dE (l.take (j+2+i))).length<=j+1+i) ?_ ?_ λi hj2 hw=>?_
  .simp only[Nat.add_zero,hc0,List.length_take];rw[aco (by omega),abr];rfl
  .simp only[Nat.add_zero,hc0,List.length_take];omega
  have hkeep:∀q,(dE (l.take (j+2+i))).length<=q->(dE (l.take (j+2+i))++l.drop (dE (l.take (j+2+i))).length)[q]?=l[q]?:=λq hq=>by
   rw[aav hq,aa1];congr 1;omega
  simp(disch:=omega)only[go_sem];refine Br.aF (λf=>?_) (λf=>?_)
  .obtain⟨u,hu⟩:=get_at (l:=l) (k:=j+1+i) (by omega);obtain⟨v,hv⟩:=get_at (l:=l) (k:=j+1+i+1) (by omega);have hst:=vJ l u v (j+1+i) hu hv;have k1:=(hkeep (j+1+i) hw).trans hu;have k2:=(hkeep (j+1+i+1) (by omega)).trans hv;have e3:((i+1:Nat):Int) - 1=(i:Int):=by omega
   have e4:j+1+(i+1)=j+1+i+1:=by omega
   have e5:j+1+i+2=j+2+(i+1):=by omega
   have e6:j+1+i+1=j+2+i:=by omega
   rw[e5,e6]at hst;simp(disch:=omega)only[go_sem,e3,e4,k1,k2];refine Br.aF (λg3=>?_) (λg3=>?_)
   .simp(disch:=omega)only[go_sem,g3];rw[if_pos g3.symm]at hst;refine .of (by omega) ?_ ?_
    .show _=St.mk _ _;rw[hst];rfl
    .show (dE _).length<=_;rw[hst];omega
   .have hln:(dE (l.take (j+2+i))++l.drop (dE (l.take (j+2+i))).length).length=l.length:=by simp;omega
    rw[if_neg (λhc=>g3 hc.symm)]at hst;simp(disch:=omega)only[go_sem,g3,e4,k2];refine .of (by omega) ?_ ?_
    .show _=St.mk _ _;rw[hst,KZ _ _ _ (by omega),aas];rfl
    .show (dE _).length<=_;rw[hst,aas];simp;omega
  .have hln:(dE (l.take (j+2+i))++l.drop (dE (l.take (j+2+i))).length).length=l.length:=by simp;omega
   have hall:dE (l.take (j+2+i))=dE l:=by rw[aaB (by omega)]
   rw[hall]at hln hw |-;simp(disch:=omega)only[go_sem];rw[List.append_assoc,List.take_append_of_le_length (by simp),List.take_take,Nat.min_self,List.take_append_of_le_length (Nat.le_refl _),List.take_length]
 .simp(disch:=omega)only[go_sem];rw[aaB (by omega)]at hi;rw[aaQ,hi]
inductive Dr where
 |e
 |a (x:Int) (l:List Int)
 |b (x:Int) (l:List Int)
 |ab (x:Int) (l:List Int) (y:Int) (r:List Int)
 |ba (x:Int) (l:List Int) (y:Int) (r:List Int)
def ow (i:Nat)(l:List Int):V:=.own i l.length 0 (l.length+1)
def ao (x:Int)(l:List Int):aL:=⟨l.length,1,.inl (ints (x::l))⟩
def Dr.v0:Dr->V
 |.e|.b _ _=>.tl []
 |.a _ l|.ab _ l _ _=>ow 0 l
 |.ba _ l _ _=>ow 1 l
def Dr.v1:Dr->V
 |.e|.a _ _=>.tl []
 |.b _ l|.ba _ _ _ l=>ow 0 l
 |.ab _ _ _ r=>ow 1 r
def Dr.ar:Dr->List aL
 |.e=>[]
 |.a x l|.b x l=>[ao x l]
 |.ab x l y r=>[ao x l,ao y r]
 |.ba x l y r=>[ao y r,ao x l]
def Dr.l0:Dr->List Int
 |.e|.b _ _=>[]
 |.a x l|.ab x l _ _|.ba x l _ _=>x::l
def Dr.l1:Dr->List Int
 |.e|.a _ _=>[]
 |.b x l|.ab _ _ x l|.ba _ _ x l=>x::l
def Dr.put (s:Bool)(z:Int):Dr->Dr
 |.e=>if s then .b z [] else .a z []
 |.a x l=>if s then .ab x l z [] else .a x (l++[z])
 |.b x l=>if s then .b x (l++[z]) else .ba z [] x l
 |.ab x l y r=>if s then .ab x l y (r++[z]) else .ab x (l++[z]) y r
 |.ba x l y r=>if s then .ba x l y (r++[z]) else .ba x (l++[z]) y r
def Dr.len (t:Dr):Nat:=t.l0.length+t.l1.length
def Ds (id aw off len : Nat)(a : aL) : Option (V × Tn) :=
 if len = 0 then some (.dR [],{ra := some id}) else (match a.body with
    | .inl rows => if a.k = 1 /\ off + len <= rows.length /\ len <= aU then (match aA iw ((rows.drop off).take len) with
     | some l => some (.dR [],{ar := some (id,⟨aw,1,.inl (rows.take off ++ (cU qF l).map (λx => [.int .i64 x]) ++ rows.drop (off + len))⟩)})
     | none => none) else none
    | .inr _ => none)
@[go_sem] theorem S9 (h:aq):fE [.tl []] h=some (.dR [],{}):=rfl
@[go_sem] theorem QK (h:aq)(id aw off len:Nat):fE [.own id aw off len] h=(aC h id aw).bind (Ds id aw off len):=by
 simp only[fE];cases aC h id aw<;>rfl
@[go_sem] theorem Ms {id aw n:Nat}{l:List Int}(hn:n=l.length)(h0:n≠0)(hm:n<=2147483648):Ds id aw 0 n ⟨aw,1,.inl (ints l)⟩=some (.dR [],{ar:=some (id,⟨aw,1,.inl (ints (cU qF l))⟩)}):=by
 subst hn;have e1:(ints l).length=l.length:=aN l;simp[Ds,h0,e1,aU,hm,vD,List.take_of_length_le (Nat.le_of_eq e1),List.drop_eq_nil_of_le (Nat.le_of_eq e1)];rfl
def tf (id aw len:Nat)(a:aL):Option (List PV×Option (Nat×aL)):=
 if a.size=len/\a.k≠0 then (match a.body with
   |.inl rows=>some ([.fr a.k rows],some (id,⟨aw+1,0,.inl []⟩))
   |.inr _=>none) else none
@[go_sem] theorem Mt (h:aq)(id aw len:Nat):cu h true [.own id aw 0 len]=(aC h id aw).bind (tf id aw len):=by
 simp only[cu,cD];cases aC h id aw with
 |none=>rfl
 |some a=>
  simp only[Option.bind_some,if_true,tf];by_cases hc:a.size=len/\a.k≠0
  .cases hb:a.body<;>simp[hc,aA]
  .simp[hc]
@[go_sem] theorem QL {id aw v len:Nat}{l:List Int}(hn:len=l.length):tf id aw len ⟨v,1,.inl (ints l)⟩=some ([.fr 1 (ints l)],some (id,⟨aw+1,0,.inl []⟩)):=by
 subst hn;simp[tf,aL.size,aN]
theorem Bt:∀{l:List Int},l.length<2->dE l=l
 |[],_=>rfl
 |[_],_=>rfl
 |_::_::_,h=>by simp at h;omega
@[go_sem] theorem r104 (l:List Int)(h0:l.length<=2000000000):res A ay 104 [.fr 1 (ints l)]=some [.fr 1 (ints (dE l))]:=by
 rcases aar l.length 2 with h|h
 .rw[r104_small l h,Bt h]
 .exact r104_big l h h0
@[go_sem] theorem r104_nil:res A ay 104 [.ae 0 []]=some [.ae 0 []]:=by
 refine ai a104 rfl rfl ?_;simp only[F104,HU];have h2:(((0:Nat):Nat):Int)<2:=by omega
 simp(disch:=omega)only[go_sem,h2];rfl
@[go_sem] theorem sj (l:List Int):(cU qF l).length=l.length:=(bW qF l).length_eq
theorem xT:∀{l:List Int}{x:Int},x∈dE l↔x∈l
 |[],_=>by simp[dE]
 |[y],_=>by simp[dE]
 |y::z::r,x=>by
  have ih:=xT (l:=z::r) (x:=x);unfold dE;split
  .rename_i h;subst h;rw[ih];simp
  .simp only[List.mem_cons]at ih |-;rw[ih]
theorem xU:∀l:List Int,(dE l).length<=l.length
 |[]=>aau _
 |[_]=>aau _
 |x::y::r=>by
  have:=xU (y::r);unfold dE;split<;>simp at *<;>omega
def xV (l:List Int):List Int:=dE (cU qF l)
theorem FW (l:List Int):(xV l).length<=l.length:=by
 have:=xU (cU qF l);rw[sj]at this;exact this
theorem xW {l:List Int}{x:Int}:x∈xV l↔x∈l:=by
 unfold xV;rw[xT,(bW qF l).mem_iff]
theorem vK {x:Int}:∀{l:List Int}{k:Nat},fm x k l<0↔x∉l
 |[],k=>by simp[fm]
 |y::r,k=>by
  unfold fm;split
  .rename_i h;subst h;simp
  .rename_i h;rw[vK];simp only[List.mem_cons,not_or];exact⟨λh2=>⟨λe=>h e.symm,h2⟩,λh2=>h2.2⟩
theorem qU {x:Int}{l:List Int}:lL x l<0↔x∉l:=vK
theorem uh {x:Int}{l:List Int}:0<=lL x l↔x∈l:=by
 rw[<- Int.not_lt,qU];simp
def fp (l:List j8):List Int:=l.flatMap λc=>[c.lK,c.rep]
def nM (l:List eU):List Int:=l.map (·.ty)
def fF (l:List dt):List Int:=l.flatMap λw=>nM w.msgs
def pM (l:List ky):List Int:=l.map (·.ty)
def eN (v:eV):List Int:=fp v.calls++fF v.az++pM v.aI
theorem oV {α:Type}(f:α->List Int)(l:List α)(k:Nat):((l.take k).flatMap f).length<=(l.flatMap f).length:=by
 have:=congrArg List.length (congrArg (List.flatMap f) (abr k l));rw[List.flatMap_append,aas]at this;omega
theorem sk {α:Type}(f:α->List Int){l:List α}{k:Nat}{x:α}(h:l[k]?=some x):(l.take (k+1)).flatMap f=(l.take k).flatMap f++f x:=by
 rw[aaH,h,List.flatMap_append];simp
def oW (u:List Bool)(l:List Int):List Bool:=l.foldl (λu x=>u.set x.toNat true) u
noncomputable def th (T:List aB)(R:List Int):List Bool:=R.foldl (λu r=>oW u (dB T r).1) (List.replicate T.length false)
def kH (U:List Bool)(k:Nat):List Nat:=(List.range k).filter λi=>U.getD i false
def i6 (U:List Bool)(k:Nat):List Int:=(kH U k).map λ(i:Nat)=>(i:Int)
def oJ (U:List Bool)(n k:Nat):List Int:=(List.range n).map λj=>if j<k then ((kH U j).length:Int) else 0
theorem xX (l:List Int):∀u:List Bool,(oW u l).length=u.length:=by
 induction l with
 |nil=>intro u;rfl
 |cons x l ih=>
  intro u;show (oW (u.set x.toNat true) l).length=_;rw[ih,abe]
theorem FX (l:List Int):∀(u:List Bool)(i:Nat),(∀x∈l,0<=x/\x<u.length)->((oW u l).getD i false=true↔u.getD i false=true\/(i:Int)∈l):=by
 induction l with
 |nil=>intro u i _;simp[oW]
 |cons x l ih=>
  intro u i h;have h0:=h x aaN;show ((oW (u.set x.toNat true) l).getD i false=true↔_);rw[ih _ _ λy hy=>by rw[abe];exact h y (aaz _ hy),aaE,aat,aca,aat];by_cases e:x.toNat=i
  .rw[if_pos e,if_pos (by omega)];have:(i:Int)=x:=by omega
   simp[this]
  .rw[if_neg e];have:¬(i:Int)=x:=by omega
   simp[this]
theorem FY (T:List aB)(R:List Int):∀u:List Bool,(R.foldl (λu r=>oW u (dB T r).1) u).length=u.length:=by
 induction R with
 |nil=>intro u;rfl
 |cons r R ih=>
  intro u;rw[abd,ih,xX]
theorem xY (T:List aB)(R:List Int):(th T R).length=T.length:=by
 unfold th;rw[FY,abu]
theorem FZ (T:List aB)(R:List Int):∀(u:List Bool)(i:Nat),u.length=T.length->(∀r∈R,∀x∈(dB T r).1,Ci T x)->((R.foldl (λu r=>oW u (dB T r).1) u).getD i false=true↔u.getD i false=true\/∃r∈R,(i:Int)∈(dB T r).1):=by
 induction R with
 |nil=>intro u i _ _;simp
 |cons r R ih=>
  intro u i hl h;have h1:=FX (dB T r).1 u i λx hx=>by rw[hl];exact h r aaN x hx
  rw[abd,ih _ _ (by rw[xX,hl]) λs hs=>h s (aaz _ hs),h1];simp only[List.mem_cons,exists_eq_or_imp];exact or_assoc
theorem F1 {T:List aB}{R:List Int}(h:∀r∈R,∀x∈(dB T r).1,Ci T x)(i:Nat):(th T R).getD i false=true↔∃r∈R,(i:Int)∈(dB T r).1:=by
 unfold th;rw[FZ T R _ i abu h];have:(List.replicate T.length false).getD i false=false:=by
  rw[aat,abw];split<;>rfl
 rw[this];simp
theorem vL (U:List Bool)(k:Nat):kH U (k+1)=if U.getD k false=true then kH U k++[k] else kH U k:=by
 unfold kH;rw[abA,List.filter_append];by_cases h:U.getD k false=true
 .rw[if_pos h];simp only[List.filter_cons,h,if_true,List.filter_nil]
 .rw[if_neg h];simp only[List.filter_cons,h,if_false,List.filter_nil,List.append_nil,Bool.false_eq_true]
theorem xZ {U:List Bool}{k i:Nat}:i∈kH U k↔i<k/\U.getD i false=true:=by
 simp[kH,List.mem_filter]
theorem ya {U:List Bool}{k:Nat}{u:Int}:u∈i6 U k↔0<=u/\u<k/\U.getD u.toNat false=true:=by
 unfold i6;rw[aaq];constructor
 .rintro ⟨i,hi,rfl⟩
  have:=xZ.1 hi;rw[aaU];exact⟨by omega,by omega,this.2⟩
 .rintro ⟨h1,h2,h3⟩
  exact⟨u.toNat,xZ.2 ⟨by omega,h3⟩,by omega⟩
theorem ox (U:List Bool)(k:Nat):(kH U k).length<=k:=by
 unfold kH;have:=abU (λi=>U.getD i false) (List.range k);rw[aaJ]at this;exact this
theorem yb (U:List Bool)(k:Nat):(i6 U k).Pairwise (·<·):=by
 unfold i6;rw[abW];exact((ab9).filter _).imp λh=>by omega
theorem Bu (U:List Bool):∀(k i:Nat),i<k->U.getD i false=true->br (i6 U k) (i:Int)=(kH U i).length
 |0,i,h,_=>absurd h (abz _)
 |k+1,i,h,hu=>by
  have hs:i6 U (k+1)=if U.getD k false=true then i6 U k++[(k:Int)] else i6 U k:=by
   unfold i6;rw[vL];split<;>simp
  rw[hs];by_cases e:i=k
  .subst e;rw[if_pos hu,FT]
   .simp[i6]
   .intro hm;have:=(ya.1 hm).2.1;omega
  .have ih:=Bu U k i (by omega) hu;split
   .rw[zl (by omega)];exact ih
   .exact ih
theorem Bv (U:List Bool)(n k:Nat):(oJ U n k).length=n:=by simp[oJ]
theorem F2 (U:List Bool)(n:Nat):oJ U n 0=List.replicate n 0:=by
 apply aci
 .simp[oJ]
 .intro i h1 h2;simp[oJ]
theorem Iv (U:List Bool)(n k:Nat):(oJ U n k).set k ((kH U k).length:Int)=oJ U n (k+1):=by
 apply aci
 .simp[oJ]
 .intro i h1 h2;rw[List.getElem_set];by_cases h:k=i
  .subst h;simp[oJ]
  .have:(i<k+1)=(i<k):=by rw[eq_iff_iff];omega
   simp[oJ,h,this]
theorem Iw {U:List Bool}{n:Nat}{u:Int}(h0:0<=u)(h1:u<n)(hu:U.getD u.toNat false=true):(oJ U n n)[u.toNat]?=some (br (i6 U n) u):=by
 have hk:=Bu U n u.toNat (by omega) hu;rw[abH h0]at hk;have hl:u.toNat<n:=by omega
 unfold oJ;rw[aap,abk hl,ab7,if_pos hl,hk]
noncomputable def lE (v:eV):List Bool:=th v.types (xV (eN v))
noncomputable def aP (v:eV):List Int:=i6 (lE v) v.types.length
def cq (L:List Int)(c:j8):j8:=⟨c.name,br L c.lK,br L c.rep⟩
def cW (L:List Int)(c:ky):ky:=⟨c.name,br L c.ty⟩
def iz (L:List Int)(m:eU):eU:=⟨m.id,m.name,br L m.ty⟩
def bR (L:List Int)(w:dt):dt:=⟨w.name,w.msgs.map (iz L),w.auto⟩
noncomputable def aQ (v:eV):eV:=⟨v.name,(aP v).map λu=>bt (aP v) (bf v.types u),v.calls.map (cq (aP v)),v.az.map (bR (aP v)),v.aI.map (cW (aP v))⟩
theorem Bw {T:List aB}{r:Int}(hv:bG T=0)(h0:0<=r)(h1:r<T.length):r∈(dB T r).1:=by
 have hk:iy T r=0:=by
  unfold iy;rw[hv];have:cM T.length r=false:=by
   simp[cM];omega
  simp[this]
 unfold dB;rw[if_neg (by simp[hk])];refine(bW qF _).mem_iff.2 ?_;unfold mh;rw[qN (P:=Ci T) (bB hv).next gj ⟨h0,h1⟩];exact .refl
theorem Bx {T:List aB}{r u x:Int}(hu:u∈(dB T r).1)(hx:x∈bw (bf T u)):x∈(dB T r).1:=by
 unfold dB at hu |-;split at hu
 .simp at hu
 .rename_i h1;have hk:iy T r=0:=by simpa using h1
  rw[if_neg h1];obtain⟨hv,h0,h2⟩:=pG hk;have hP:=(bB hv).next;refine(bW qF _).mem_iff.2 ?_;have hu:=(bW qF _).mem_iff.1 hu;unfold mh at *;rw[qN (P:=Ci T) hP gj ⟨h0,h2⟩]at *;exact .step hu hx
theorem pN {T:List aB}{r:Int}:∀x∈(dB T r).1,Ci T x:=by
 intro x hx;unfold dB at hx;split at hx
 .simp at hx
 .rename_i h1;have hk:iy T r=0:=by simpa using h1
  exact(xJ hk).2 x ((bW qF _).mem_iff.1 hx)
def Used (v:eV)(u:Int):Prop:=0<=u/\u<v.types.length/\(lE v).getD u.toNat false=true
theorem F3 (v:eV):(lE v).length=v.types.length:=xY _ _
theorem dV {v:eV}{u:Int}:u∈aP v↔Used v u:=by
 unfold aP Used;rw[ya]
theorem nN {v:eV}{u:Int}(h0:0<=u):(lE v).getD u.toNat false=true↔∃r∈eN v,u∈(dB v.types r).1:=by
 unfold lE;rw[F1 λr _ x hx=>pN x hx,abH h0];simp only[xW]
theorem sq {v:eV}(hv:bG v.types=0)(hr:∀r∈eN v,0<=r/\r<v.types.length):∀r∈eN v,Used v r:=λr h=>⟨(hr r h).1,(hr r h).2,(nN (hr r h).1).2 ⟨r,h,Bw hv (hr r h).1 (hr r h).2⟩⟩
theorem yc {v:eV}{u x:Int}(hu:Used v u)(hx:x∈bw (bf v.types u)):Used v x:=by
 obtain⟨h0,h1,h2⟩:=hu;obtain⟨r,hr,hm⟩:=(nN h0).1 h2;have:=Bx hm hx;obtain⟨g0,g1⟩:=pN x this;exact⟨g0,g1,(nN g0).2 ⟨r,hr,this⟩⟩
@[go_sem] theorem Ta (g:cd->V)(h:aq)(k t:Nat)(rows:List (List PV))(hi:cd):
  dS g h k (.pv (.ae t rows)) none (some hi) none=if aY k (.inl rows)=true then (intOf (g hi)).bind λi=>C3 i rows.length (.pv (.ae t (rows.take i.toNat)),{}) else none:=by
 cases hf:aY k (.inl rows)with
 |false=>simp[dS,hf]
 |true=>
  cases hj:intOf (g hi)with
  |none=>simp[dS,hf,bounds,bound,hj]
  |some i=>by_cases h0:0<=i/\i<=rows.length<;>simp[dS,hf,bounds,bound,hj,h0,C3]
def eY (t u x y:Nat)(v:eV):List PV:=[.str v.name,.ae t (v.types.map aB.c),.ae u (bm v.calls),.ae x (az v.az),.ae y (cg v.aI)]
theorem r447 (t:Nat)(w:j8)(nm:ByteArray):res A ay 447 [.agg w.c,.ro t [.str nm]]=some [.bool (decide (w.name=nm))]:=by
 refine ai a447 rfl rfl ?_;simp only[F447,Pp];simp(disch:=omega)only[go_sem]
theorem r446 (t u:Nat)(l:List j8)(nm:ByteArray)(hl:l.length<=2^63 - 1):res A ay 446 [.ae t (bm l),.func 447 [.ro u [.str nm]]]=some [.int .i64 (tK (λw=>decide (w.name=nm)) l)]:=by
 refine ai a446 rfl rfl ?_;simp only[F446,Po];simp(disch:=omega)only[go_sem];refine W.dx l.length (λk=>⟨[(0,.pv (.ae t (bm l))),(1,.pv (.func 447 [.ro u [.str nm]])),(7,.pv (.int .i64 l.length)),(8,.pv (.int .i64 k))],⟨[],[],[]⟩⟩) (λk=>∀(i:Nat)(w:j8),i<k->l[i]?=some w->decide (w.name=nm)=false) rfl (λi w hi=>absurd hi (by omega)) λk hk hi=>?_;simp(disch:=omega)only[go_sem];refine Br.aF (λc1=>?_) (λc1=>?_)
 .obtain⟨w,hw⟩:=get_some (l:=l) (k:=k) (by omega);have h447:=λt=>r447 t w nm;simp only[j8.c]at h447;cases hd:decide (w.name=nm)with
  |true=>
   rw[hd]at h447;simp(disch:=omega)only[go_sem,hw,Option.map_some,h447];unfold tK;rw[y9 hw hd hi]
  |false=>
   rw[hd]at h447;simp(disch:=omega)only[go_sem,hw,Option.map_some,h447];exact .of (by omega) rfl (vp hw hi hd)
 .simp(disch:=omega)only[go_sem];unfold tK;rw[za (r7 (k:=k) (by omega) hi)]
def QM (o:Option j8):List PV:=match o with
 |some w=>[.agg w.c,.bool true]
 |none=>[.agg [.str ⟨#[]⟩,.int .i64 0,.int .i64 0],.bool false]
theorem r410 (t u x y:Nat)(v:eV)(nm:ByteArray)(hl:v.calls.length<=2^63 - 1):res A ay 410 [.agg (eY t u x y v),.str nm]=some (QM (fg (λw=>decide (w.name=nm)) v.calls)):=by
 refine ai a410 rfl rfl ?_;simp only[F410,O6,eY];have h446:=λt u=>r446 t u v.calls nm hl;unfold tK at h446;unfold fg;cases hj:v.calls.findIdx? λw=>decide (w.name=nm)with
 |none=>
  rw[hj]at h446;have e0:decide ((0:Int)<= -1)=false:=rfl;simp(disch:=omega)only[go_sem,h446];rfl
 |some j=>
  rw[hj]at h446;have hjl:=(aaC.1 hj).1;obtain⟨w,hw⟩:=get_some hjl;have e0:decide ((0:Int)<=(j:Int))=true:=decide_eq_true (by omega);simp(disch:=omega)only[go_sem,h446,e0,hw,Option.map_some,Option.bind_some];rfl
theorem r449 (t:Nat)(w:dt)(nm:ByteArray):res A ay 449 [.agg w.c,.ro t [.str nm]]=some [.bool (decide (w.name=nm))]:=by
 refine ai a449 rfl rfl ?_;simp only[F449,Pq];simp(disch:=omega)only[go_sem]
theorem r448 (t u:Nat)(l:List dt)(nm:ByteArray)(hl:l.length<=2^63 - 1):res A ay 448 [.ae t (az l),.func 449 [.ro u [.str nm]]]=some [.int .i64 (tK (λw=>decide (w.name=nm)) l)]:=by
 refine ai a448 rfl rfl ?_;simp only[F448,KM];simp(disch:=omega)only[go_sem];refine W.dx l.length (λk=>⟨[(0,.pv (.ae t (az l))),(1,.pv (.func 449 [.ro u [.str nm]])),(7,.pv (.int .i64 l.length)),(8,.pv (.int .i64 k))],⟨[],[],[]⟩⟩) (λk=>∀(i:Nat)(w:dt),i<k->l[i]?=some w->decide (w.name=nm)=false) rfl (λi w hi=>absurd hi (by omega)) λk hk hi=>?_;simp(disch:=omega)only[go_sem];refine Br.aF (λc1=>?_) (λc1=>?_)
 .obtain⟨w,hw⟩:=get_some (l:=l) (k:=k) (by omega);have h449:=λt=>r449 t w nm;simp only[dt.c]at h449;cases hd:decide (w.name=nm)with
  |true=>
   rw[hd]at h449;simp(disch:=omega)only[go_sem,hw,Option.map_some,h449];unfold tK;rw[y9 hw hd hi]
  |false=>
   rw[hd]at h449;simp(disch:=omega)only[go_sem,hw,Option.map_some,h449];exact .of (by omega) rfl (vp hw hi hd)
 .simp(disch:=omega)only[go_sem];unfold tK;rw[za (r7 (k:=k) (by omega) hi)]
def Dt (o:Option dt):List PV:=match o with
 |some w=>[.agg w.c,.bool true]
 |none=>[.agg [.str ⟨#[]⟩,.ae 0 [],.int .i64 0,.int .i64 0,.ae 0 []],.bool false]
def Mu (k:Nat)(rows:List (List PV)):PV:=if rows=[] then .ae 0 [] else .fr k rows
theorem zm {α:Type}{c:α->List PV}{k:Nat}(hc:∀x,(c x).length=k)(l:List α)(hm:l.length<=2147483648):(l=[]/\∀h,cL k [.pv (.ae 0 (l.map c))] h=some (.tl [],{}))\/(l≠[]/\∀h,cL k [.pv (.ae 0 (l.map c))] h=some (.own h.ar.length 0 0 l.length,{push:=[⟨0,k,.inl (l.map c)⟩],base:=h.ar.length})):=by
 have hf:aY k (.inl (l.map c))=true:=by simp[aY,hc]
 cases l with
 |nil=>exact .inl ⟨rfl,λh=>by simp[cL,bj,aY]⟩
 |cons x l=>
  refine .inr ⟨by simp,λh=>?_⟩;have hl:((x::l).map c).length=(x::l).length:=aam _;have h0:¬((x::l).map c).length=0:=by simp
  unfold cL;simp only[bj];rw[if_pos (by omega:0<=1)];dsimp only;rw[if_pos ⟨hf,by unfold aU;rw[hl];omega⟩,if_neg h0,hl]
theorem r445 (x:dt)(h1:x.msgs.length<=2147483648)(h2:x.auto.aa.length<=2147483648):res A ay 445 [.agg x.c]=some [.agg [.str x.name,Mu 3 (msgs x.msgs),.int .i64 x.auto.aj,.int .i64 x.auto.start,Mu 4 (x.auto.aa.map Edge.c)]]:=by
 refine ai a445 rfl rfl ?_;simp only[F445,Pn,dt.c];have k1:(x.msgs.map eU.c).take x.msgs.length=x.msgs.map eU.c:=List.take_of_length_le (by simp);have k2:(x.auto.aa.map Edge.c).take x.auto.aa.length=x.auto.aa.map Edge.c:=List.take_of_length_le (by simp);rcases zm (c:=eU.c) (k:=3) (λ_=>rfl) x.msgs h1 with⟨h3,h4⟩|⟨h3,h4⟩<;>rcases zm (c:=Edge.c) (k:=4) (λ_=>rfl) x.auto.aa h2 with⟨h5,h6⟩|⟨h5,h6⟩
 .simp only[h3,h5,List.map_nil]at h4 h6 |-;simp(disch:=omega)only[go_sem,h4,h6];refine Eq.trans (if_pos (by rfl)) ?_;simp[bV,aA,fC,bd,PV.perm,Mu,msgs,h3,h5]
 .simp only[h3,List.map_nil]at h4 |-;simp(disch:=omega)only[go_sem,h4,h6];refine Eq.trans (if_pos (by rfl)) ?_;simp[bV,aA,fC,aC,bd,PV.perm,Mu,msgs,h3,h5,k2]
 .simp only[h5,List.map_nil]at h6 |-;simp(disch:=omega)only[go_sem,h4,h6];refine Eq.trans (if_pos (by rfl)) ?_;simp[bV,aA,fC,aC,bd,PV.perm,Mu,msgs,h3,h5,k1]
 .simp(disch:=omega)only[go_sem,h4,h6];refine Eq.trans (if_pos (by rfl)) ?_;simp[bV,aA,fC,aC,bd,PV.perm,Mu,msgs,h3,h5,k1,k2]
theorem r412 (t u x y:Nat)(v:eV)(nm:ByteArray)(hl:v.az.length<=2^63 - 1)(hs:∀w∈v.az,w.msgs.length<=2147483648/\w.auto.aa.length<=2147483648):res A ay 412 [.agg (eY t u x y v),.str nm]=some (Dt (fg (λw=>decide (w.name=nm)) v.az)):=by
 refine ai a412 rfl rfl ?_;simp only[F412,O7,eY];have h448:=λt u=>r448 t u v.az nm hl;unfold tK at h448;unfold fg;cases hj:v.az.findIdx? λw=>decide (w.name=nm)with
 |none=>
  rw[hj]at h448;have e0:decide ((0:Int)<= -1)=false:=rfl;simp(disch:=omega)only[go_sem,h448];rfl
 |some j=>
  rw[hj]at h448;have hjl:=(aaC.1 hj).1;obtain⟨w,hw⟩:=get_some hjl;have e0:decide ((0:Int)<=(j:Int))=true:=decide_eq_true (by omega);have hsw:=hs w (aaj hw);have h445:=r445 w hsw.1 hsw.2;have k1:(w.msgs.map eU.c).take w.msgs.length=w.msgs.map eU.c:=List.take_of_length_le (by simp);have k2:(w.auto.aa.map Edge.c).take w.auto.aa.length=w.auto.aa.map Edge.c:=List.take_of_length_le (by simp);unfold Mu msgs dt.c at h445;by_cases h3:w.msgs=[]<;>by_cases h5:w.auto.aa=[]
  .simp only[h3,h5,List.map_nil,if_true]at h445;simp(disch:=omega)only[go_sem,h448,e0,hw,Option.map_some,Option.bind_some,h3,h5,List.map_nil,h445];simp[Dt,dt.c,h3,h5]
  .simp only[h3,h5,List.map_nil,if_true,List.map_eq_nil_iff,if_false]at h445;simp(disch:=omega)only[go_sem,h448,e0,hw,Option.map_some,Option.bind_some,h3,List.map_nil,h445];simp[Dt,dt.c,k2,h3]
  .simp only[h3,h5,List.map_nil,if_true,List.map_eq_nil_iff,if_false]at h445;simp(disch:=omega)only[go_sem,h448,e0,hw,Option.map_some,Option.bind_some,h5,List.map_nil,h445];simp[Dt,dt.c,k1,h5]
  .simp only[h3,h5,List.map_eq_nil_iff,if_false]at h445;simp(disch:=omega)only[go_sem,h448,e0,hw,Option.map_some,Option.bind_some,h445];simp[Dt,dt.c,k1,k2]
theorem r451 (t:Nat)(w:ky)(nm:ByteArray):res A ay 451 [.agg w.c,.ro t [.str nm]]=some [.bool (decide (w.name=nm))]:=by
 refine ai a451 rfl rfl ?_;simp only[F451,Pt];simp(disch:=omega)only[go_sem]
theorem r450 (t u:Nat)(l:List ky)(nm:ByteArray)(hl:l.length<=2^63 - 1):res A ay 450 [.ae t (cg l),.func 451 [.ro u [.str nm]]]=some [.int .i64 (tK (λw=>decide (w.name=nm)) l)]:=by
 refine ai a450 rfl rfl ?_;simp only[F450,Ps];simp(disch:=omega)only[go_sem];refine W.dx l.length (λk=>⟨[(0,.pv (.ae t (cg l))),(1,.pv (.func 451 [.ro u [.str nm]])),(7,.pv (.int .i64 l.length)),(8,.pv (.int .i64 k))],⟨[],[],[]⟩⟩) (λk=>∀(i:Nat)(w:ky),i<k->l[i]?=some w->decide (w.name=nm)=false) rfl (λi w hi=>absurd hi (by omega)) λk hk hi=>?_;simp(disch:=omega)only[go_sem];refine Br.aF (λc1=>?_) (λc1=>?_)
 .obtain⟨w,hw⟩:=get_some (l:=l) (k:=k) (by omega);have h451:=λt=>r451 t w nm;simp only[ky.c]at h451;cases hd:decide (w.name=nm)with
  |true=>
   rw[hd]at h451;simp(disch:=omega)only[go_sem,hw,Option.map_some,h451];unfold tK;rw[y9 hw hd hi]
  |false=>
   rw[hd]at h451;simp(disch:=omega)only[go_sem,hw,Option.map_some,h451];exact .of (by omega) rfl (vp hw hi hd)
 .simp(disch:=omega)only[go_sem];unfold tK;rw[za (r7 (k:=k) (by omega) hi)]
def QN (o:Option ky):List PV:=match o with
 |some w=>[.agg w.c,.bool true]
 |none=>[.agg [.str ⟨#[]⟩,.int .i64 0],.bool false]
theorem r414 (t u x y:Nat)(v:eV)(nm:ByteArray)(hl:v.aI.length<=2^63 - 1):res A ay 414 [.agg (eY t u x y v),.str nm]=some (QN (fg (λw=>decide (w.name=nm)) v.aI)):=by
 refine ai a414 rfl rfl ?_;simp only[F414,O8,eY];have h450:=λt u=>r450 t u v.aI nm hl;unfold tK at h450;unfold fg;cases hj:v.aI.findIdx? λw=>decide (w.name=nm)with
 |none=>
  rw[hj]at h450;have e0:decide ((0:Int)<= -1)=false:=rfl;simp(disch:=omega)only[go_sem,h450];rfl
 |some j=>
  rw[hj]at h450;have hjl:=(aaC.1 hj).1;obtain⟨w,hw⟩:=get_some hjl;have e0:decide ((0:Int)<=(j:Int))=true:=decide_eq_true (by omega);simp(disch:=omega)only[go_sem,h450,e0,hw,Option.map_some,Option.bind_some];rfl
theorem lF (x:Int):IntKind.wrap .u64 x=x%18446744073709551616:=by
 show (if (false&&decide (x%(2^64:Int)≥(2^63:Int)))=true then x%(2^64:Int) - (2^64:Int) else x%(2^64:Int))=_;simp only[Bool.false_and,Bool.false_eq_true,if_false,Int.reducePow]
theorem i7 {x:Int}(h1:0<=x)(h2:x<18446744073709551616):IntKind.wrap .u64 x=x:=by
 rw[lF];omega
def zz (n:Int):Int:=if 0<=n then 2*n else -2*n - 1
theorem VK {a b:Int}:zz a=zz b↔a=b:=by
 unfold zz;split<;>split<;>omega
theorem r515 (n:Int)(h:eG n):res A ay 515 [.int .i64 n]=some [.int .u64 (zz n)]:=by
 refine ai a515 rfl rfl ?_;simp only[F515,Qj];obtain⟨h1,h2⟩:=h;unfold zz;simp(disch:=omega)only[go_sem];refine Br.aF (λc=>?_) (λc=>?_)
 .have e1:=i7 (x:=n) (by omega) (by omega);have e2:=i7 (x:=2*n) (by omega) (by omega);simp(disch:=omega)only[go_sem,e1,e2];rw[if_pos c]
 .have e1:=i7 (x:=0 - (n+1)) (by omega) (by omega);have e2:=i7 (x:=2*(0 - (n+1))) (by omega) (by omega);have e3:=i7 (x:=2*(0 - (n+1))+1) (by omega) (by omega);simp(disch:=omega)only[go_sem,e1,e2,e3];rw[if_neg c];congr 3;omega
theorem K0 (a b:Int):da .xor (.pv (.int .u64 a)) (.pv (.int .u64 b))=some (.pv (.int .u64 (IntKind.wrap .u64 (BitVec.ofInt 64 a^^^BitVec.ofInt 64 b).toNat))):=rfl
theorem K1 (a:Int):da .shl (.pv (.int .u64 a)) (.pv (.int .u64 1))=some (.pv (.int .u64 (IntKind.wrap .u64 (a*2)))):=rfl
theorem K2 (a:Int):da .shr (.pv (.int .i64 a)) (.pv (.int .u64 63))=some (.pv (.int .i64 (a.fdiv 9223372036854775808))):=rfl
theorem r520 (n:Int)(h:eG n):res A ay 520 [.int .i64 n]=some [.int .u64 (zz n)]:=by
 refine ai a520 rfl rfl ?_;simp only[F520,Qo];obtain⟨h1,h2⟩:=h;simp(disch:=omega)only[go_sem,K0,K1,K2];congr 3;rw[lF,lF,lF,lF];unfold zz;by_cases c:0<=n
 .have f1:n.fdiv 9223372036854775808=0:=by
   rw[Int.fdiv_eq_ediv_of_nonneg _ (by decide)];omega
  have f2:(n%18446744073709551616*2)%18446744073709551616=2*n:=by omega
  rw[if_pos c,f1,f2];have f3:BitVec.ofInt 64 (0%18446744073709551616)=0#64:=by decide
  rw[f3,BitVec.xor_zero];simp only[BitVec.toNat_ofInt];omega
 .have f1:n.fdiv 9223372036854775808= -1:=by
   rw[Int.fdiv_eq_ediv_of_nonneg _ (by decide)];omega
  have f2:(n%18446744073709551616*2)%18446744073709551616=2*n+18446744073709551616:=by omega
  rw[if_neg c,f1,f2];have f3:BitVec.ofInt 64 (-1%18446744073709551616)=BitVec.allOnes 64:=by decide
  rw[f3,BitVec.xor_allOnes,BitVec.toNat_not];simp only[BitVec.toNat_ofInt];omega
theorem r523 (n:Int):res A ay 523 [.int .u64 n]=some [.bool false]:=by
 refine ai a523 rfl rfl ?_;simp only[F523,Qr];simp(disch:=omega)only[go_sem]
theorem r524 (s:ByteArray):res A ay 524 [.str s]=some [.bool false]:=by
 refine ai a524 rfl rfl ?_;simp only[F524,Qs];simp(disch:=omega)only[go_sem]
def strLt (a b:ByteArray):Bool:=Go.Op.bytesLess a.toList b.toList
@[go_sem] theorem Tb (a b:ByteArray):da .lss (.pv (.str a)) (.pv (.str b))=some (.pv (.bool (strLt a b))):=rfl
@[go_sem] theorem Tc (a b:ByteArray):da .gtr (.pv (.str a)) (.pv (.str b))=some (.pv (.bool (!(strLt a b||decide (a=b))))):=by simp only[da,mQ,Option.map_some,qB];rfl
theorem By:∀l:List UInt8,Go.Op.bytesLess l l=false
 |[]=>rfl
 |a::l=>by simp[Go.Op.bytesLess,By l]
theorem F4 (a:ByteArray):strLt a a=false:=By _
def Bz (a b:ByteArray):Int:=if strLt a b=true then -1 else if a=b then 0 else 1
theorem r519 (a b:Int):res A ay 519 [.int .u64 a,.int .u64 b]=some [.int .i64 (jw a b)]:=by
 refine ai a519 rfl rfl ?_;simp only[F519,Qn];have h1:=r523 a;have h2:=r523 b;unfold jw;simp(disch:=omega)only[go_sem,h1,h2];refine Br.aF (λc=>?_) (λc=>?_)
 .simp(disch:=omega)only[go_sem];rw[if_pos c]
 .simp(disch:=omega)only[go_sem];refine Br.aF (λd=>?_) (λd=>?_)
  .simp(disch:=omega)only[go_sem];rw[if_neg c,if_pos d]
  .simp(disch:=omega)only[go_sem];rw[if_neg c,if_neg d]
theorem r521 (a b:ByteArray):res A ay 521 [.str a,.str b]=some [.int .i64 (Bz a b)]:=by
 refine ai a521 rfl rfl ?_;simp only[F521,Qp];have h1:=r524 a;have h2:=r524 b;unfold Bz;cases hs:strLt a b with
 |true=>simp(disch:=omega)only[go_sem,h1,h2,hs,if_true]
 |false=>
  by_cases he:a=b
  .have e:decide (a=b)=true:=decide_eq_true he;simp(disch:=omega)only[go_sem,h1,h2,hs,e,Bool.or_true,Bool.not_true];rw[if_pos he]
  .have e:decide (a=b)=false:=decide_eq_false he;simp(disch:=omega)only[go_sem,h1,h2,hs,e,Bool.or_false,Bool.not_false];rw[if_neg he]
def Du (l e:Bool):Int:=if e=true then 0 else if l=true then -1 else 1
theorem r514 (l e:Bool):res A ay 514 [.bool l,.bool e]=some [.int .i64 (Du l e)]:=by
 refine ai a514 rfl rfl ?_;simp only[F514,Qi];cases e<;>cases l<;>simp(disch:=omega)only[go_sem]<;>rfl
def nO (a b:dO):Int:=if a.kind≠b.kind then 0 else
 if a.kind=1 then (if a.bool=b.bool then 0 else if b.bool=true then -1 else 1)
 else if a.kind=2 then jw (zz a.int) (zz b.int)
 else if a.kind=3 then Ir [jw a.str.size b.str.size,Bz a.str b.str]
 else if a.kind=4 then jw a.id b.id else 0
set_option maxHeartbeats 2000000 in
theorem r513 (a b:dO)(ha:eG a.int)(hb:eG b.int)(has:bo a.str)(hbs:bo b.str):res A ay 513 [.agg a.c,.agg b.c]=some [.int .i64 (nO a b)]:=by
 refine ai a513 rfl rfl ?_;simp only[F513,Qh,dO.c];unfold bo at has hbs;have h1:=r520 a.int ha;have h2:=r520 b.int hb;have h3:=r519 (zz a.int) (zz b.int);have h4:=r60 (Pr:=ay) (by kernel_rfl) (a.str.size:Int) (b.str.size:Int);have h5:=r521 a.str b.str;have h6:=λt=>r59 (Pr:=ay) t [jw a.str.size b.str.size,Bz a.str b.str] (by simp);have h7:=r60 (Pr:=ay) (by kernel_rfl) a.id b.id;unfold nO;by_cases c0:a.kind=b.kind
 .have e0:decide (a.kind=b.kind)=true:=decide_eq_true c0;rw[if_neg (by simpa using c0)];by_cases c1:a.kind=1
  .have e1:decide (a.kind=1)=true:=decide_eq_true c1;rw[if_pos c1];have b1:decide (true=false)=false:=rfl;have b2:decide (false=true)=false:=rfl;cases hab:a.bool<;>cases hbb:b.bool<;>simp(disch:=omega)only[go_sem,e0,e1,hab,hbb,b1,b2]<;>rfl
  .have e1:decide (a.kind=1)=false:=decide_eq_false c1;rw[if_neg c1];by_cases c2:a.kind=2
   .have e2:decide (a.kind=2)=true:=decide_eq_true c2;rw[if_pos c2];simp(disch:=omega)only[go_sem,e0,e1,e2,h1,h2,h3]
   .have e2:decide (a.kind=2)=false:=decide_eq_false c2;rw[if_neg c2];by_cases c3:a.kind=3
    .have e3:decide (a.kind=3)=true:=decide_eq_true c3;rw[if_pos c3];have hi:ints [jw a.str.size b.str.size,Bz a.str b.str]=[[.int .i64 (jw a.str.size b.str.size)],[.int .i64 (Bz a.str b.str)]]:=rfl;rw[hi]at h6;simp(disch:=omega)only[go_sem,e0,e1,e2,e3,h4,h5,h6]
    .have e3:decide (a.kind=3)=false:=decide_eq_false c3;rw[if_neg c3];by_cases c4:a.kind=4
     .have e4:decide (a.kind=4)=true:=decide_eq_true c4;rw[if_pos c4];simp(disch:=omega)only[go_sem,e0,e1,e2,e3,e4,h7]
     .have e4:decide (a.kind=4)=false:=decide_eq_false c4;rw[if_neg c4];simp(disch:=omega)only[go_sem,e0,e1,e2,e3,e4]
 .have e0:decide (a.kind=b.kind)=false:=decide_eq_false c0;rw[if_pos c0];simp(disch:=omega)only[go_sem,e0]
theorem EM (x y:Int):Ir [x,y]=if x=0 then y else x:=by
 by_cases h:x=0
 .rw[if_pos h];subst h;by_cases g:y=0
  .subst g;rfl
  .simp[Ir,g]
 .rw[if_neg h];simp[Ir,h]
theorem YQ (a b:ByteArray):Du (strLt a b) (decide (a=b))=Bz a b:=by
 unfold Du Bz;by_cases h:a=b
 .subst h;rw[F4];simp
 .simp[h]
theorem VL (a b:Int):Du (decide (a<b)) (decide (a=b))=jw a b:=by
 unfold Du jw;simp only[decide_eq_true_eq];by_cases h:a=b
 .rw[if_pos h,if_neg (by omega),if_neg (by omega)]
 .rw[if_neg h];by_cases g:a<b
  .rw[if_pos g,if_pos g]
  .rw[if_neg g,if_neg g,if_pos (by omega)]
set_option maxHeartbeats 2000000 in
theorem r509 (a b:dO)(ha:eG a.int)(hb:eG b.int)(has:bo a.str)(hbs:bo b.str):res A ay 509 [.agg a.c,.agg b.c]=some [.int .i64 (nO a b)]:=by
 refine ai a509 rfl rfl ?_;simp only[F509,Qe,dO.c];unfold bo at has hbs;have h1:=r515 a.int ha;have h2:=r515 b.int hb;unfold nO;by_cases c0:a.kind=b.kind
 .have e0:decide (a.kind=b.kind)=true:=decide_eq_true c0;rw[if_neg (by simpa using c0)];by_cases c1:a.kind=1
  .have e1:decide (a.kind=1)=true:=decide_eq_true c1;rw[if_pos c1];have h3:=r514 b.bool (decide (a.bool=b.bool));simp(disch:=omega)only[go_sem,e0,e1,h3];unfold Du;cases a.bool<;>cases b.bool<;>rfl
  .have e1:decide (a.kind=1)=false:=decide_eq_false c1;rw[if_neg c1];by_cases c2:a.kind=2
   .have e2:decide (a.kind=2)=true:=decide_eq_true c2;rw[if_pos c2];have h3:=r514 (decide (zz a.int<zz b.int)) (decide (a.int=b.int));simp(disch:=omega)only[go_sem,e0,e1,e2,h1,h2,h3];unfold Du jw;simp only[decide_eq_true_eq];have:=VK (a:=a.int) (b:=b.int);congr 3;by_cases d:a.int=b.int
    .rw[if_pos d,d,if_neg (by omega),if_neg (by omega)]
    .rw[if_neg d];have d2:zz a.int≠zz b.int:=λe=>d (this.1 e);split
     .rfl
     .rw[if_pos (by omega)]
   .have e2:decide (a.kind=2)=false:=decide_eq_false c2;rw[if_neg c2];by_cases c3:a.kind=3
    .have e3:decide (a.kind=3)=true:=decide_eq_true c3;rw[if_pos c3];by_cases d:(a.str.size:Int)=(b.str.size:Int)
     .have d1:decide ((a.str.size:Int)=(b.str.size:Int))=true:=decide_eq_true d;have h3:=r514 (strLt a.str b.str) (decide (a.str=b.str));simp(disch:=omega)only[go_sem,e0,e1,e2,e3,d1,h3];have d2:jw a.str.size b.str.size=0:=by
       unfold jw;rw[if_neg (by omega),if_neg (by omega)]
      rw[EM,if_pos d2,YQ]
     .have d1:decide ((a.str.size:Int)=(b.str.size:Int))=false:=decide_eq_false d;have h3:=r514 (decide ((a.str.size:Int)<(b.str.size:Int))) false;simp(disch:=omega)only[go_sem,e0,e1,e2,e3,d1,h3];have d2:jw a.str.size b.str.size≠0:=by
       unfold jw;split
       .decide
       .rw[if_pos (by omega)];decide
      rw[EM,if_neg d2,<- VL,d1]
    .have e3:decide (a.kind=3)=false:=decide_eq_false c3;rw[if_neg c3];by_cases c4:a.kind=4
     .have e4:decide (a.kind=4)=true:=decide_eq_true c4;rw[if_pos c4];have h3:=r514 (decide (a.id<b.id)) (decide (a.id=b.id));simp(disch:=omega)only[go_sem,e0,e1,e2,e3,e4,h3];rw[VL]
     .have e4:decide (a.kind=4)=false:=decide_eq_false c4;rw[if_neg c4];simp(disch:=omega)only[go_sem,e0,e1,e2,e3,e4]
 .have e0:decide (a.kind=b.kind)=false:=decide_eq_false c0;rw[if_pos c0];simp(disch:=omega)only[go_sem,e0]
def Ix (v:dO):dO:=⟨v.kind,if v.kind=1 then v.bool else false,if v.kind=2 then v.int else 0,if v.kind=3 then v.str else ⟨#[]⟩,if v.kind=4\/v.kind=6 then v.id else 0,if v.kind=8 then v.keys else [],if 5<=v.kind then v.items else [],if v.kind=5\/v.kind=6 then v.rest else []⟩
theorem nine {k:Int}(h:1<=k/\k<=9):k=1\/k=2\/k=3\/k=4\/k=5\/k=6\/k=7\/k=8\/k=9:=by omega
theorem r516 (v:dO)(hk:1<=v.kind/\v.kind<=9):res A ay 516 [.agg v.c]=some [.agg (Ix v).c]:=by
 refine ai a516 rfl rfl ?_;simp only[F516,Qk];obtain⟨kind,bool,int,str,id,keys,items,rest⟩:=v;unfold dO.c Ix;dsimp only at *;rcases nine hk with rfl|rfl|rfl|rfl|rfl|rfl|rfl|rfl|rfl<;>
 .simp(disch:=omega)only[go_sem,decide_true,decide_false,Int.reduceEq,Int.reduceLE,if_true,if_false,or_true,true_or,or_false,false_or]
  try rfl
noncomputable def mu (v:dO):Bool:=by
 classical exact decide ((v.kind=1\/v.bool=false)/\(v.kind=2\/v.int=0)/\(v.kind=3\/v.str=⟨#[]⟩)/\(v.kind=4\/v.kind=6\/v.id=0)/\(v.kind=8\/v.keys=[])/\(5<=v.kind\/v.items=[])/\(v.kind=5\/v.kind=6\/v.rest=[]))
set_option maxHeartbeats 4000000 in
theorem r510 (v:dO)(hk:1<=v.kind/\v.kind<=9)(hv:cc v.keys/\cc v.items/\cc v.rest):res A ay 510 [.agg v.c]=some [.bool (mu v)]:=by
 refine ai a510 rfl rfl ?_;simp only[F510,Qf];have h1:=r516 v hk;obtain⟨kind,bool,int,str,id,keys,items,rest⟩:=v;unfold dO.c Ix at h1;unfold dO.c;dsimp only at *;unfold mu;have l1:((keys.length:Int)=0)=(keys=[]):=by simp
 have l2:((items.length:Int)=0)=(items=[]):=by simp
 have l3:((rest.length:Int)=0)=(rest=[]):=by simp
 rcases nine hk with rfl|rfl|rfl|rfl|rfl|rfl|rfl|rfl|rfl<;>cases bool<;>
 .simp(disch:=omega)only[go_sem,decide_true,decide_false,Int.reduceEq,Int.reduceLE,if_true,if_false,or_true,true_or,or_false,false_or]at h1;simp(disch:=omega)only[go_sem,h1,l1,l2,l3,List.length_nil,Int.reduceEq,Int.reduceLE,List.map_nil,reduceCtorEq,decide_false];clear h1 hk hv
  repeat' (refine Br.aF (λc=>?_) (λc=>?_)<;>simp(disch:=omega)only[go_sem,c,decide_true,decide_false,reduceCtorEq])
  all_goals first|rfl|(simp;done)|(simp_all;done)
set_option maxHeartbeats 4000000 in
theorem r505 (v:dO)(hk:1<=v.kind/\v.kind<=9)(hv:cc v.keys/\cc v.items/\cc v.rest):res A ay 505 [.agg v.c]=some [.bool (mu v)]:=by
 refine ai a505 rfl rfl ?_;simp only[F505,Qb];obtain⟨kind,bool,int,str,id,keys,items,rest⟩:=v;unfold dO.c mu;dsimp only at *;obtain⟨g1,g2,g3⟩:=hv;unfold cc at g1 g2 g3;rcases nine hk with rfl|rfl|rfl|rfl|rfl|rfl|rfl|rfl|rfl<;>cases bool<;>
 .simp(disch:=omega)only[go_sem,List.length_nil,Int.reduceEq,Int.reduceLE,List.map_nil,List.length_map,reduceCtorEq,decide_false,decide_true];clear hk
  repeat' (refine Br.aF (λc=>?_) (λc=>?_)<;>simp(disch:=omega)only[go_sem,c,decide_true,decide_false,reduceCtorEq])
  all_goals first|rfl|(simp;done)|(simp_all;done)
end Go.Pv
