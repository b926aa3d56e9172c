/-
 What the functions of the law give.
-/
import Derived.Test.YtpchfogcccagjaaGreatC1
set_option linter.unusedSimpArgs false
set_option linter.unusedVariables false
open List renaming mem_of_getElem? → Wa, getElem?_eq_some_iff → V9, getElem?_eq_getElem → Wb, mem_iff_getElem? → Wd, getElem?_append_left → We, length_map → Wg, getElem?_map → Wf, length_append → Wz, take_of_length_le → Wq, length_take → W8, getElem?_take → Wy, take_add_one → WL, mem_map → Wk, mem_cons → WG, length_range → WI, findIdx?_eq_some_iff_getElem → Ww, map_append → WC, take_length → WV, any_eq_false → WY, getElem_mem → Xc, findIdx?_eq_none_iff → Xe, any_eq_true → Xm, any_map → abr, map_take → abp, foldl_cons → Xp, getElem_of_mem → Xg, mem_singleton → Xj, nodup_append → Xy, find?_eq_none → Xn, mem_range → WJ, not_mem_nil → abC, find?_some → XH
open Nat renaming lt_or_ge → Wh, zero_le → WA
open Bool renaming eq_iff_iff → Xb, false_and → Xu, and_false → abu, eq_false_iff → Xz, and_eq_true → XX, and_eq_false_iff → abB
namespace Go.Pv
def YR (b n:Int):Bool:=decide (b<n)&&(decide (1<=n)&&decide (n<=1000))
theorem r329 (b n:Int):res A aA 329 [.int .i64 b,.int .i64 n]=some [.bool (YR b n)]:=by
 refine aw a329 rfl rfl ?_
 simp only[F329,aat]
 simp(disch:=omega)only[go_sem]
 unfold YR
 repeat' (refine Br.aJ (fun h=>?_) (fun h=>?_)<;>simp(disch:=omega)only[go_sem,h])
 all_goals simp[*]
def Yq (l:List Nm) (k:Nat):Int:=match k with
 |0=>0
 |_+1=>oo l k
theorem ZL (l:List Nm) (k:Nat) (p:Nm):jg l k p=(!YR (Yq l k) p.1||!isName p.2||cY ((l.map (·.2)).take k) p.2):=by
 have h:(decide (p.1<1)||decide (1000<p.1)||(decide (0<k)&&decide (p.1<=oo l k)))=!YR (Yq l k) p.1:=by
  unfold YR
  rw[Xb]
  cases k with
  |zero=>
   rw[Bool.not_eq_true',abB,abB,decide_eq_false_iff_not,decide_eq_false_iff_not,decide_eq_false_iff_not]
   simp only[Yq,Bool.or_eq_true,Bool.and_eq_true,decide_eq_true_eq]
   omega
  |succ j=>
   rw[Bool.not_eq_true',abB,abB,decide_eq_false_iff_not,decide_eq_false_iff_not,decide_eq_false_iff_not]
   simp only[Yq,Bool.or_eq_true,Bool.and_eq_true,decide_eq_true_eq]
   omega
 unfold jg
 rw[h]
 generalize (!YR (Yq l k) p.1)=x
 generalize cY _ _=y
 generalize isName _=z
 cases x<;>cases y<;>cases z<;>rfl
theorem YS {l:List Nm} {k:Nat} {p:Nm} (hp:l[k]?=some p) (h:jg l k p=true):mw l=false:=by
 have hk:=(V9.1 hp).1
 unfold mw
 rw[Bool.not_eq_false',Xm]
 exact⟨k,List.mem_range.2 hk,by simp only[uQ,hp]; exact h⟩
theorem Zm {α:Type} (nm:α->Nm) (l:List α) (k:Nat) (x:ByteArray):cY (((l.map nm).map (·.2)).take k) x=(l.take k).any fun q=>decide ((nm q).2=x):=by
 unfold cY
 rw[<- abp,<- abp,abr,abr]
 rfl
theorem YT {l:List Nm} {k:Nat} {p:Nm} (hp:l[k]?=some p):Yq l (k+1)=p.1:=by
 show oo l (k+1)=p.1
 unfold oo
 rw[Nat.add_sub_cancel,hp]
 rfl
set_option maxHeartbeats 1000000 in
theorem r311 (t:Nat) (l:List Sym) (hl:l.length<=8000000000000) (hs:∀p∈l,bC p.name):res A aA 311 [.aq t (l.map Sym.c)]=some [.bool (pM l)]:=by
 refine aw a311 rfl rfl ?_
 simp only[F311,aao]
 simp(disch:=omega)only[go_sem]
 refine W.find (List.range l.length) (uQ (l.map Sym.nm)) (fun k=>⟨[(0,.pv (.aq t (l.map Sym.c))),(3,.pv (.int .i64 (Yq (l.map Sym.nm) k))),(4,.pv (.int .i64 k))],⟨[],[],[]⟩⟩) rfl (fun k x hx hk hfd=>?_) (fun hn=>?_)
 .obtain⟨rfl,hk⟩:=ey hx
  have hp:=Wb hk
  generalize l[x]=p at hp
  have hq:(l.map Sym.nm)[x]?=some p.nm:=by rw[Wf,hp]; rfl
  have hnm:=r310 p.name (hs p (Wa hp))
  have hid:=r329 (Yq (l.map Sym.nm) x) p.id
  have hb:uQ (l.map Sym.nm) x=(!YR (Yq (l.map Sym.nm) x) p.id||!isName p.name||(l.take x).any fun q=>decide (q.name=p.name)):=by
   simp only[uQ,hq]
   rw[ZL,Zm]
   rfl
  have done:uQ (l.map Sym.nm) x=true->(some [PV.bool false]:Option (List PV))=some [PV.bool (pM l)]:=fun g=>by
   refine CK ?_
   simp only[uQ,hq]at g
   simp only[pM,YS hq g,Bool.false_and,Bool.and_false]
  rw[hb]at done |-
  simp(disch:=omega)only[go_sem]
  refine Br.aJ (fun c=>?_) (fun c=>(c (by omega)).elim)
  simp(disch:=omega)only[go_sem,hp,Sym.c,hid]
  refine Br.of (fun c1=>?_) (fun c1=>?_)<;>simp(disch:=omega)only[go_sem,c1,hp,Sym.c,hnm]
  rotate_left
  .exact done (by simp[c1])
  refine Br.of (fun c2=>?_) (fun c2=>?_)<;>simp(disch:=omega)only[go_sem,c2]
  rotate_left
  .exact done (by simp[c2])
  refine W.find (l.take x) (fun q=>decide (q.name=p.name)) (fun j=>⟨[(0,.pv (.aq t (l.map Sym.c))),(4,.pv (.int .i64 x)),(5,.pv (.int .i64 j))],⟨[],[],[]⟩⟩) rfl (fun j q hj hjl hfd2=>?_) (fun hn=>?_)
  .have hjl':j<x/\j<l.length:=by rw[W8]at hjl; omega
   have hj':l[j]?=some q:=by
    rw[Wy,if_pos hjl'.1]at hj
    exact hj
   simp(disch:=omega)only[go_sem]
   refine Br.aJ (fun c=>?_) (fun c=>(c (by omega)).elim)
   simp(disch:=omega)only[go_sem,hp,hj',Sym.c]
   refine Br.aJ (fun c3=>?_) (fun c3=>?_)<;>simp(disch:=omega)only[go_sem,c3]
   .exact done (by rw[(hfd2 (by simp[c3])).any,Bool.or_true])
   .exact bB.of (by simp[c3]) rfl
  .have hlx:(l.take x).length=x:=by rw[W8]; omega
   rw[hlx]
   simp(disch:=omega)only[go_sem,hp,Sym.c]
   refine bB.of ?_ ?_
   .rw[hn.any,c1,c2]
    rfl
   .rw[YT hq]
    rfl
 .rw[WI]
  simp(disch:=omega)only[go_sem]
  have hi:mw (l.map Sym.nm)=true:=by
   unfold mw
   rw[Wg,hn.any]
   rfl
  refine Br.aJ (fun c3=>?_) (fun c3=>?_)<;>simp(disch:=omega)only[go_sem,c3]
  .have h0:0<l.length:=by omega
   simp[pM,hi,h0]
   omega
  .have h0:¬0<l.length:=by omega
   simp[pM,h0]
noncomputable def YM (rec:Bool) (l:List Mem) (k:Nat):Bool:=match l[k]? with
 |some m=>afZ rec m
 |none=>false
set_option maxHeartbeats 4000000 in
theorem r312 (t : Nat) (l : List Mem) (rec : Bool) (hl : l.length <= 8000000000000) (ho : ∀ p ∈ l,p.ok) : res A aA 312 [.aq t (l.map Mem.c),.bool rec] = some [.bool (fK rec l)] := by
  refine aw a312 rfl rfl ?_
  simp only [F312,aap]
  simp (disch := omega) only [go_sem]
  refine W.find (List.range l.length) (fun k => uQ (l.map Mem.nm) k || YM rec l k) (fun k => ⟨[(0,.pv (.aq t (l.map Mem.c))),(1,.pv (.bool rec)),(5,.pv (.int .i64 (Yq (l.map Mem.nm) k))),(6,.pv (.int .i64 k))],⟨[],[],[]⟩⟩) rfl (fun k x hx hk hfd => ?_) (fun hn => ?_)
  . obtain ⟨rfl,hk⟩ := ey hx
    have hp := Wb hk
    generalize l[x] = p at hp
    clear hfd
    have hq : (l.map Mem.nm)[x]? = some p.nm := by rw [Wf,hp]; rfl
    obtain ⟨_,hsn,_,hd⟩ := ho p (Wa hp)
    have hnm := r310 p.name hsn
    have hid := r329 (Yq (l.map Mem.nm) x) p.id
    have hz := r330v hd Hu
    rw [oq] at hz
    have hb : uQ (l.map Mem.nm) x = (!YR (Yq (l.map Mem.nm) x) p.id || !isName p.name || (l.take x).any fun q => decide (q.name = p.name)) := by
      simp only [uQ,hq]
      rw [ZL,Zm]
      rfl
    have done : (uQ (l.map Mem.nm) x || afZ rec p) = true -> (some [PV.bool false] : Option (List PV)) = some [PV.bool (fK rec l)] := fun g => by
      refine CK ?_
      rcases Bool.or_eq_true _ _ |>.mp g with g | g
      . simp only [uQ,hq] at g
        simp only [fK,YS hq g,Bool.false_and,Bool.and_false]
      . have : l.any (afZ rec) = true := Xm.2 ⟨p,Wa hp,g⟩
        simp only [fK,this,Bool.not_true,Bool.false_and]
    have hbm : YM rec l x = afZ rec p := by simp only [YM,hp]
    rw [hbm]
    rw [hb] at done |-
    unfold afZ at done |-
    generalize eqv p.ib bl = z at hz done |-
    unfold bl dz.c at hz
    simp only [List.map_nil] at hz
    simp (disch := omega) only [go_sem]
    refine Br.aJ (fun c => ?_) (fun c => (c (by omega)).elim)
    simp (disch := omega) only [go_sem,hp,Mem.c,hid]
    refine Br.of (fun c1 => ?_) (fun c1 => ?_) <;> simp (disch := omega) only [go_sem,c1,hnm]
    rotate_left
    . exact done (by simp [c1])
    refine Br.of (fun c2 => ?_) (fun c2 => ?_) <;> simp (disch := omega) only [go_sem,c2]
    rotate_left
    . exact done (by simp [c2])
    repeat' (refine Br.of (fun h => ?_) (fun h => ?_) <;> simp (disch := omega) only [go_sem,h,hz])
    all_goals subst_vars
    all_goals first
      | (refine done ?_
         simp [*]
         done)
      | skip
    all_goals
      refine W.find (l.take x) (fun q => decide (q.name = p.name)) ((fun (b : V) (cs : List V) => fun j => ⟨[(0,.pv (.aq t (l.map Mem.c))),(1,b),(6,.pv (.int .i64 x)),(7,.ptr 7 0),(8,.pv (.int .i64 (j : Nat)))],⟨[(7,cs)],[],[]⟩⟩) _ _) rfl (fun j q hj hjl hfd2 => ?_) (fun hn => ?_)
      . have hjl' : j < x /\ j < l.length := by rw [W8] at hjl; omega
        have hj' : l[j]? = some q := by
          rw [Wy,if_pos hjl'.1] at hj
          exact hj
        simp (disch := omega) only [go_sem]
        refine Br.aJ (fun c => ?_) (fun c => (c (by omega)).elim)
        simp (disch := omega) only [go_sem,hj',Mem.c]
        refine Br.aJ (fun c3 => ?_) (fun c3 => ?_) <;> simp (disch := omega) only [go_sem,c3]
        . exact done (by rw [(hfd2 (by simp [c3])).any]; simp)
        . exact bB.of (by simp [c3]) rfl
      . have hlx : (l.take x).length = x := by rw [W8]; omega
        rw [hlx]
        simp (disch := omega) only [go_sem]
        refine bB.of ?_ ?_
        . rw [hn.any,c1,c2]
          simp [*]
        . rw [YT hq]
          rfl
  . rw [WI]
    simp (disch := omega) only [go_sem]
    have ha := hn.any
    rw [WY] at ha
    have hi : mw (l.map Mem.nm) = true := by
      unfold mw
      rw [Bool.not_eq_true',WY]
      intro k hk
      rw [Wg] at hk
      have := ha k hk
      simp only [Bool.or_eq_true,not_or] at this
      exact this.1
    have hb : l.any (afZ rec) = false := by
      rw [WY]
      intro m hm
      obtain ⟨k,hk⟩ := Wd.1 hm
      have := ha k (WJ.2 (V9.1 hk).1)
      simp only [Bool.or_eq_true,not_or,YM,hk] at this
      simpa using this.2
    refine Br.aJ (fun c3 => ?_) (fun c3 => ?_) <;> simp (disch := omega) only [go_sem,c3]
    . refine Br.of (fun c4 => ?_) (fun c4 => ?_) <;> simp (disch := omega) only [go_sem,c4]
      . subst c4
        have n3 : l.length <= 16 := by omega
        simp only [fK,hi,hb,n3]
        simp
      . subst c4
        have n3 : l.length <= 16 := by omega
        simp only [fK,hi,hb,n3]
        congr 3
        rw [Xb]
        simp
        omega
    . have n3 : ¬ l.length <= 16 := by omega
      simp only [fK,hi,hb,n3]
      simp
set_option maxHeartbeats 4000000 in
theorem r319 (x y:Mem) (hx:x.ok) (hy:y.ok):res A aA 319 [.agg x.c,.agg y.c]=some [.bool (eqv x y)]:=by
 have hv:=r320v hx.2.2.2 hy.2.2.2
 rw[oq]at hv
 obtain⟨a1,a2,a3,a4,a5,v⟩:=x
 obtain⟨b1,b2,b3,b4,b5,w⟩:=y
 unfold Mem.c
 unfold dz.c at hv
 dsimp only at *
 have no:∀{p q:Mem},p≠q->(some [PV.bool false]:Option (List PV))=some [PV.bool (eqv p q)]:=fun h=>by rw[fJ h]
 refine aw a319 rfl rfl ?_
 simp only[F319,KR]
 simp(disch:=omega)only[go_sem]
 refine Br.aJ (fun e=>?_) (fun e=>?_)<;>simp(disch:=omega)only[go_sem,e]
 rotate_left
 .exact no (fun q=>e (by cases q; rfl))
 subst e
 refine Br.aJ (fun e=>?_) (fun e=>?_)<;>simp(disch:=omega)only[go_sem,e]
 rotate_left
 .exact no (fun q=>e (by cases q; rfl))
 subst e
 refine Br.aJ (fun e=>?_) (fun e=>?_)<;>simp(disch:=omega)only[go_sem,e]
 rotate_left
 .exact no (fun q=>e (by cases q; rfl))
 subst e
 refine Br.aJ (fun e=>?_) (fun e=>?_)<;>simp(disch:=omega)only[go_sem,e]
 rotate_left
 .exact no (fun q=>e (by cases q; rfl))
 subst e
 refine Br.aJ (fun e=>?_) (fun e=>?_)<;>simp(disch:=omega)only[go_sem,e]
 rotate_left
 .exact no (fun q=>e (by cases q; rfl))
 subst e
 simp(disch:=omega)only[go_sem,hv]
 congr 3
 rw[Xb,bY,bY]
 exact⟨fun e=>by rw[e],fun q=>by cases q; rfl⟩
set_option maxHeartbeats 4000000 in
theorem r316 (x y:Mem) (hx:x.ok) (hy:y.ok):res A aA 316 [.agg x.c,.agg y.c]=some [.bool (eqv x y)]:=by
 have hv:=r330v hx.2.2.2 hy.2.2.2
 rw[oq]at hv
 obtain⟨a1,a2,a3,a4,a5,v⟩:=x
 obtain⟨b1,b2,b3,b4,b5,w⟩:=y
 unfold Mem.c
 unfold dz.c at hv
 dsimp only at *
 have no:∀{p q:Mem},p≠q->(some [PV.bool false]:Option (List PV))=some [PV.bool (eqv p q)]:=fun h=>by rw[fJ h]
 refine aw a316 rfl rfl ?_
 simp only[F316,aaq]
 simp(disch:=omega)only[go_sem]
 refine Br.aJ (fun e=>?_) (fun e=>?_)<;>simp(disch:=omega)only[go_sem,e]
 rotate_left
 .exact no (fun q=>e (by cases q; rfl))
 subst e
 refine Br.aJ (fun e=>?_) (fun e=>?_)<;>simp(disch:=omega)only[go_sem,e]
 rotate_left
 .exact no (fun q=>e (by cases q; rfl))
 subst e
 refine Br.aJ (fun e=>?_) (fun e=>?_)<;>simp(disch:=omega)only[go_sem,e]
 rotate_left
 .exact no (fun q=>e (by cases q; rfl))
 subst e
 refine Br.aJ (fun e=>?_) (fun e=>?_)<;>simp(disch:=omega)only[go_sem,e]
 rotate_left
 .exact no (fun q=>e (by cases q; rfl))
 subst e
 refine Br.aJ (fun e=>?_) (fun e=>?_)<;>simp(disch:=omega)only[go_sem,e]
 rotate_left
 .exact no (fun q=>e (by cases q; rfl))
 subst e
 simp(disch:=omega)only[go_sem,hv]
 congr 3
 rw[Xb,bY,bY]
 exact⟨fun e=>by rw[e],fun q=>by cases q; rfl⟩
set_option maxHeartbeats 4000000 in
theorem r318 (t u:Nat) (l m:List Mem) (hl:l.length<=2^63 - 1) (_hm:m.length<=2^63 - 1) (vl:∀r∈l,r.ok) (vm:∀r∈m,r.ok):res A aA 318 [.aq t (l.map Mem.c),.aq u (m.map Mem.c),.func 319 []]=some [.bool (eqv l m)]:=by
 refine aw a318 rfl rfl ?_
 simp only[F318,Hn]
 simp(disch:=omega)only[go_sem]
 refine Br.aJ (fun h=>?_) (fun h=>?_)<;>simp(disch:=omega)only[go_sem]
 .refine W.find (l.zip m) (fun q=>!eqv q.1 q.2) (fun k=>⟨[(1,.pv (.aq u (m.map Mem.c))),(2,.pv (.func 319 [])),(15,.pv (.aq t (l.map Mem.c))),(16,.pv (.int .i64 l.length)),(17,.pv (.int .i64 k))],⟨[],[],[]⟩⟩) rfl (fun k q hq hk hfd=>?_) (fun hn=>?_)
  .obtain⟨h1,h2⟩:=jh hq
   rw[dA (by omega)]at hk
   have hc:=r319 q.1 q.2 (vl q.1 (Wa h1)) (vm q.2 (Wa h2))
   unfold Mem.c at hc
   simp(disch:=omega)only[go_sem]
   refine Br.aJ (fun c=>?_) (fun c=>(c (by omega)).elim)
   simp(disch:=omega)only[go_sem,h1,h2,Mem.c,hc]
   refine Br.of (fun g=>?_) (fun g=>?_)<;>simp(disch:=omega)only[go_sem]
   .exact bB.of (by rw[g]; rfl) rfl
   .rw[(hfd (by rw[g]; rfl)).ne]
  .have hz:(l.zip m).length=l.length:=dA (by omega)
   rw[hz]
   simp(disch:=omega)only[go_sem]
   rw[hn.eq (by omega),fI]
 .rw[fJ (fun e=>h (by rw[e]))]
set_option maxHeartbeats 8000000 in
theorem r297 (x y:aH) (hx:x.ok) (hy:y.ok):res A aA 297 [.agg x.c,.agg y.c]=some [.bool (eqv x y)]:=by
 obtain⟨_,⟨lx1,lx2⟩,_,lx3⟩:=hx
 obtain⟨_,⟨ly1,ly2⟩,_,ly3⟩:=hy
 unfold bP at *
 have hs:=fun t u=>r317 t u x.syms y.syms (by omega) (by omega)
 have hm:=fun t u=>r318 t u x.bc y.bc (by omega) (by omega) lx3 ly3
 obtain⟨a1,a2,a3,a4,a5,a6,a7,a8,a9,a10⟩:=x
 obtain⟨b1,b2,b3,b4,b5,b6,b7,b8,b9,b10⟩:=y
 unfold aH.c
 dsimp only at *
 have no:∀{p q:aH},p≠q->(some [PV.bool false]:Option (List PV))=some [PV.bool (eqv p q)]:=fun h=>by rw[fJ h]
 refine aw a297 rfl rfl ?_
 simp only[F297,KE]
 simp(disch:=omega)only[go_sem]
 refine Br.aJ (fun e=>?_) (fun e=>?_)<;>simp(disch:=omega)only[go_sem,e]
 rotate_left
 .exact no (fun q=>e (by cases q; rfl))
 subst e
 refine Br.aJ (fun e=>?_) (fun e=>?_)<;>simp(disch:=omega)only[go_sem,e]
 rotate_left
 .exact no (fun q=>e (by cases q; rfl))
 subst e
 refine Br.aJ (fun e=>?_) (fun e=>?_)<;>simp(disch:=omega)only[go_sem,e]
 rotate_left
 .exact no (fun q=>e (by cases q; rfl))
 subst e
 refine Br.aJ (fun e=>?_) (fun e=>?_)<;>simp(disch:=omega)only[go_sem,e]
 rotate_left
 .exact no (fun q=>e (by cases q; rfl))
 subst e
 refine Br.aJ (fun e=>?_) (fun e=>?_)<;>simp(disch:=omega)only[go_sem,e]
 rotate_left
 .exact no (fun q=>e (by cases q; rfl))
 subst e
 refine Br.aJ (fun e=>?_) (fun e=>?_)<;>simp(disch:=omega)only[go_sem,e]
 rotate_left
 .exact no (fun q=>e (by cases q; rfl))
 subst e
 refine Br.aJ (fun e=>?_) (fun e=>?_)<;>simp(disch:=omega)only[go_sem,e]
 rotate_left
 .exact no (fun q=>e (by cases q; rfl))
 subst e
 refine Br.aJ (fun e=>?_) (fun e=>?_)<;>simp(disch:=omega)only[go_sem,e]
 rotate_left
 .exact no (fun q=>e (by cases q; rfl))
 subst e
 simp(disch:=omega)only[go_sem,hs]
 refine Br.of (fun e=>?_) (fun e=>?_)<;>simp(disch:=omega)only[go_sem,e]
 rotate_left
 .exact no (fun q=>mW.1 e (by cases q; rfl))
 have e:=bY.1 e
 subst e
 simp(disch:=omega)only[go_sem,hm]
 congr 3
 rw[Xb,bY,bY]
 exact⟨fun e=>by rw[e],fun q=>by cases q; rfl⟩
set_option maxHeartbeats 8000000 in
theorem r295 (x y:aH) (hx:x.ok) (hy:y.ok):res A aA 295 [.agg x.c,.agg y.c]=some [.bool (eqv x y)]:=by
 obtain⟨_,⟨lx1,lx2⟩,_,lx3⟩:=hx
 obtain⟨_,⟨ly1,ly2⟩,_,ly3⟩:=hy
 unfold bP at *
 obtain⟨a1,a2,a3,a4,a5,a6,a7,a8,a9,a10⟩:=x
 obtain⟨b1,b2,b3,b4,b5,b6,b7,b8,b9,b10⟩:=y
 unfold aH.c
 dsimp only at *
 have no:∀{p q:aH},p≠q->(some [PV.bool false]:Option (List PV))=some [PV.bool (eqv p q)]:=fun h=>by rw[fJ h]
 refine aw a295 rfl rfl ?_
 simp only[F295,aal]
 simp(disch:=omega)only[go_sem]
 refine Br.aJ (fun e=>?_) (fun e=>?_)<;>simp(disch:=omega)only[go_sem,e]
 rotate_left
 .exact no (fun q=>e (by cases q; rfl))
 subst e
 refine Br.aJ (fun e=>?_) (fun e=>?_)<;>simp(disch:=omega)only[go_sem,e]
 rotate_left
 .exact no (fun q=>e (by cases q; rfl))
 subst e
 refine Br.aJ (fun e=>?_) (fun e=>?_)<;>simp(disch:=omega)only[go_sem,e]
 rotate_left
 .exact no (fun q=>e (by cases q; rfl))
 subst e
 refine Br.aJ (fun e=>?_) (fun e=>?_)<;>simp(disch:=omega)only[go_sem,e]
 rotate_left
 .exact no (fun q=>e (by cases q; rfl))
 subst e
 refine Br.aJ (fun e=>?_) (fun e=>?_)<;>simp(disch:=omega)only[go_sem,e]
 rotate_left
 .exact no (fun q=>e (by cases q; rfl))
 subst e
 refine Br.aJ (fun e=>?_) (fun e=>?_)<;>simp(disch:=omega)only[go_sem,e]
 rotate_left
 .exact no (fun q=>e (by cases q; rfl))
 subst e
 refine Br.aJ (fun e=>?_) (fun e=>?_)<;>simp(disch:=omega)only[go_sem,e]
 rotate_left
 .exact no (fun q=>e (by cases q; rfl))
 subst e
 refine Br.aJ (fun e=>?_) (fun e=>?_)<;>simp(disch:=omega)only[go_sem,e]
 rotate_left
 .exact no (fun q=>e (by cases q; rfl))
 subst e
 refine Br.aJ (fun e=>?_) (fun e=>?_)<;>simp(disch:=omega)only[go_sem,e]
 rotate_left
 .exact no (fun q=>e (by cases q; rfl))
 refine Br.aJ (fun e2=>?_) (fun e2=>?_)<;>simp(disch:=omega)only[go_sem,e2]
 rotate_left
 .exact no (fun q=>e2 (by cases q; rfl))
 refine W.find (a6.zip b6) (fun q=>!eqv q.1 q.2) (fun k=>⟨[(2,.ptr 2 0),(3,.ptr 3 0),(5,.pv (.int .i64 k))],⟨[(2,[.pv (.int .i64 a1),.pv (.str a2),.pv (.int .i64 a3),.pv (.int .i64 a4),.pv (.int .i64 a5),.pv (.aq 0 (a6.map Sym.c)),.pv (.aq 0 (a7.map Mem.c)),.pv (.int .i64 a8),.pv (.int .i64 a9),.pv (.bool a10)]),(3,[.pv (.int .i64 a1),.pv (.str a2),.pv (.int .i64 a3),.pv (.int .i64 a4),.pv (.int .i64 a5),.pv (.aq 0 (b6.map Sym.c)),.pv (.aq 0 (b7.map Mem.c)),.pv (.int .i64 a8),.pv (.int .i64 a9),.pv (.bool a10)])],[],[]⟩⟩) rfl (fun k q hq hk hfd=>?_) (fun hn=>?_)
 .obtain⟨h1,h2⟩:=jh hq
  rw[dA (by omega)]at hk
  simp(disch:=omega)only[go_sem]
  refine Br.aJ (fun c=>?_) (fun c=>(c (by omega)).elim)
  simp(disch:=omega)only[go_sem,h1,h2,Sym.c]
  rw[<- Hs]
  refine Br.of (fun g=>?_) (fun g=>?_)<;>simp(disch:=omega)only[go_sem]
  .exact bB.of (by rw[g]; rfl) rfl
  .exact no (fun q=>mW.1 (hfd (by rw[g]; rfl)).ne (by cases q; rfl))
 .have hz:(a6.zip b6).length=a6.length:=dA (by omega)
  rw[hz]
  have e:=hn.eq (by omega)
  subst e
  simp(disch:=omega)only[go_sem]
  refine W.find (a7.zip b7) (fun q=>!eqv q.1 q.2) (fun k=>⟨[(2,.ptr 2 0),(3,.ptr 3 0),(6,.pv (.int .i64 k))],⟨[(2,[.pv (.int .i64 a1),.pv (.str a2),.pv (.int .i64 a3),.pv (.int .i64 a4),.pv (.int .i64 a5),.pv (.aq 0 (a6.map Sym.c)),.pv (.aq 0 (a7.map Mem.c)),.pv (.int .i64 a8),.pv (.int .i64 a9),.pv (.bool a10)]),(3,[.pv (.int .i64 a1),.pv (.str a2),.pv (.int .i64 a3),.pv (.int .i64 a4),.pv (.int .i64 a5),.pv (.aq 0 (a6.map Sym.c)),.pv (.aq 0 (b7.map Mem.c)),.pv (.int .i64 a8),.pv (.int .i64 a9),.pv (.bool a10)])],[],[]⟩⟩) rfl (fun k q hq hk hfd=>?_) (fun hn=>?_)
  .obtain⟨h1,h2⟩:=jh hq
   rw[dA (by omega)]at hk
   have hc:=r316 q.1 q.2 (lx3 q.1 (Wa h1)) (ly3 q.2 (Wa h2))
   unfold Mem.c at hc
   simp(disch:=omega)only[go_sem]
   refine Br.aJ (fun c=>?_) (fun c=>(c (by omega)).elim)
   simp(disch:=omega)only[go_sem,h1,h2,Mem.c,hc]
   refine Br.of (fun g=>?_) (fun g=>?_)<;>simp(disch:=omega)only[go_sem]
   .exact bB.of (by rw[g]; rfl) rfl
   .exact no (fun q=>mW.1 (hfd (by rw[g]; rfl)).ne (by cases q; rfl))
  .have hz:(a7.zip b7).length=a7.length:=dA (by omega)
   rw[hz]
   have e:=hn.eq (by omega)
   subst e
   simp(disch:=omega)only[go_sem]
   rw[fI]
def bj {α:Type} (p:α->Bool) (l:List α):Int:=match l.findIdx? p with
 |some k=>(k:Int)
 |none=> -1
theorem Found.bj {α:Type} {l:List α} {p:α->Bool} {k:Nat} {x:α} (h:Found l p k x):Pv.bj p l=k:=by
 unfold Pv.bj
 rw[h.idx]
theorem hY.bj {α:Type} {l:List α} {p:α->Bool} (h:hY l p):Pv.bj p l= -1:=by
 unfold Pv.bj
 rw[h.idx]
def qP (i:Int) (m:Mem):Bool:=decide (m.id=i)
def qQ (i:Int) (m:Sym):Bool:=decide (m.id=i)
@[go_sem] theorem r305 (m:Mem) (u:Nat) (i:Int) (cs:List PV):res A aA 305 [.agg m.c,.ro u (.int .i64 i::cs)]=some [.bool (qP i m)]:=by
 refine aw a305 rfl rfl ?_
 simp only[F305,KM]
 simp(disch:=omega)only[go_sem,Mem.c]
 rfl
@[go_sem] theorem r395 (m:Sym) (u:Nat) (i:Int) (cs:List PV):res A aA 395 [.agg m.c,.ro u (.int .i64 i::cs)]=some [.bool (qQ i m)]:=by
 refine aw a395 rfl rfl ?_
 simp only[F395,K6]
 simp(disch:=omega)only[go_sem,Sym.c]
 rfl
theorem r304 (t u:Nat) (i:Int) (cs:List PV) (l:List Mem) (hl:l.length<=2^63 - 1):res A aA 304 [.aq t (l.map Mem.c),.func 305 [.ro u (.int .i64 i::cs)]]=some [.int .i64 (bj (qP i) l)]:=by
 refine aw a304 rfl rfl ?_
 simp only[F304,KL]
 simp(disch:=omega)only[go_sem]
 refine W.find l (qP i) (fun k=>⟨[(0,.pv (.aq t (l.map Mem.c))),(1,.pv (.func 305 [.ro u (.int .i64 i::cs)])),(7,.pv (.int .i64 l.length)),(8,.pv (.int .i64 k))],⟨[],[],[]⟩⟩) rfl (fun k x hx hk hfd=>?_) (fun hn=>?_)
 .have hfx:=r305 x u i cs
  have hl13:x.c.length=13:=rfl
  have hmap:(x.c.map V.pv).take 13=x.c.map .pv:=rfl
  simp(disch:=omega)only[go_sem]
  refine Br.aJ (fun h=>?_) (fun h=>(h (by omega)).elim)
  unfold Mem.c at hfx
  simp(disch:=omega)only[go_sem,hx,Mem.c,hfx]
  refine Br.of (fun h2=>?_) (fun h2=>?_)<;>simp(disch:=omega)only[go_sem]
  .rw[(hfd h2).bj]
  .exact bB.of h2 rfl
 .simp(disch:=omega)only[go_sem]
  rw[hn.bj]
theorem r394 (t u:Nat) (i:Int) (cs:List PV) (l:List Sym) (hl:l.length<=2^63 - 1):res A aA 394 [.aq t (l.map Sym.c),.func 395 [.ro u (.int .i64 i::cs)]]=some [.int .i64 (bj (qQ i) l)]:=by
 refine aw a394 rfl rfl ?_
 simp only[F394,K5]
 simp(disch:=omega)only[go_sem]
 refine W.find l (qQ i) (fun k=>⟨[(0,.pv (.aq t (l.map Sym.c))),(1,.pv (.func 395 [.ro u (.int .i64 i::cs)])),(7,.pv (.int .i64 l.length)),(8,.pv (.int .i64 k))],⟨[],[],[]⟩⟩) rfl (fun k x hx hk hfd=>?_) (fun hn=>?_)
 .have hfx:=r395 x u i cs
  simp(disch:=omega)only[go_sem]
  refine Br.aJ (fun h=>?_) (fun h=>(h (by omega)).elim)
  unfold Sym.c at hfx
  simp(disch:=omega)only[go_sem,hx,Sym.c,hfx]
  refine Br.of (fun h2=>?_) (fun h2=>?_)<;>simp(disch:=omega)only[go_sem]
  .rw[(hfd h2).bj]
  .exact bB.of h2 rfl
 .simp(disch:=omega)only[go_sem]
  rw[hn.bj]
theorem r281 (t:aH) (i:Int) (h:t.bc.length<=2^63 - 1):res A aA 281 [.agg t.c,.int .i64 i]=some [.int .i64 (max (bj (qP i) t.bc) 0),.bool (decide (0<=bj (qP i) t.bc))]:=by
 refine aw a281 rfl rfl ?_
 simp only[F281,Kz]
 unfold aH.c
 have h304:=fun u=>r304 0 u i [] t.bc h
 simp(disch:=omega)only[go_sem,h304]
theorem r392 (t:aH) (i:Int) (h:t.syms.length<=2^63 - 1):res A aA 392 [.agg t.c,.int .i64 i]=some [.int .i64 (max (bj (qQ i) t.syms) 0),.bool (decide (0<=bj (qQ i) t.syms))]:=by
 refine aw a392 rfl rfl ?_
 simp only[F392,K3]
 unfold aH.c
 have h394:=fun u=>r394 0 u i [] t.syms h
 simp(disch:=omega)only[go_sem,h394]
theorem r391 (t:aH) (i:Int) (h:t.bc.length<=2^63 - 1):res A aA 391 [.agg t.c,.int .i64 i]=some [.int .i64 (max (bj (qP i) t.bc) 0),.bool (decide (0<=bj (qP i) t.bc))]:=by
 refine aw a391 rfl rfl ?_
 simp only[F391,K2]
 unfold aH.c
 simp(disch:=omega)only[go_sem]
 refine W.find t.bc (qP i) (fun k=>⟨[(1,.pv (.int .i64 i)),(2,.ptr 2 0),(6,.pv (.int .i64 k))],⟨[(2,t.c.map .pv)],[],[]⟩⟩) rfl (fun k x hx hk hfd=>?_) (fun hn=>?_)
 .unfold aH.c
  simp(disch:=omega)only[go_sem,List.map_cons,List.map_nil]
  refine Br.aJ (fun h=>?_) (fun h=>(h (by omega)).elim)
  simp(disch:=omega)only[go_sem,hx,Mem.c]
  have hpx:decide (x.id=i)=qP i x:=rfl
  rw[hpx]
  refine Br.of (fun g=>?_) (fun g=>?_)<;>simp(disch:=omega)only[go_sem]
  .rw[(hfd g).bj]
   have h1:max (k:Int) 0=k:=by omega
   have h2:(0:Int)<=k:=by omega
   simp[h1,h2]
  .exact bB.of g rfl
 .unfold aH.c
  simp(disch:=omega)only[go_sem,List.map_cons,List.map_nil]
  rw[hn.bj]
  rfl
theorem r393 (t:aH) (i:Int) (h:t.syms.length<=2^63 - 1):res A aA 393 [.agg t.c,.int .i64 i]=some [.int .i64 (max (bj (qQ i) t.syms) 0),.bool (decide (0<=bj (qQ i) t.syms))]:=by
 refine aw a393 rfl rfl ?_
 simp only[F393,K4]
 unfold aH.c
 simp(disch:=omega)only[go_sem]
 refine W.find t.syms (qQ i) (fun k=>⟨[(1,.pv (.int .i64 i)),(2,.ptr 2 0),(6,.pv (.int .i64 k))],⟨[(2,t.c.map .pv)],[],[]⟩⟩) rfl (fun k x hx hk hfd=>?_) (fun hn=>?_)
 .unfold aH.c
  simp(disch:=omega)only[go_sem,List.map_cons,List.map_nil]
  refine Br.aJ (fun h=>?_) (fun h=>(h (by omega)).elim)
  simp(disch:=omega)only[go_sem,hx,Sym.c]
  have hpx:decide (x.id=i)=qQ i x:=rfl
  rw[hpx]
  refine Br.of (fun g=>?_) (fun g=>?_)<;>simp(disch:=omega)only[go_sem]
  .rw[(hfd g).bj]
   have h1:max (k:Int) 0=k:=by omega
   have h2:(0:Int)<=k:=by omega
   simp[h1,h2]
  .exact bB.of g rfl
 .unfold aH.c
  simp(disch:=omega)only[go_sem,List.map_cons,List.map_nil]
  rw[hn.bj]
  rfl
theorem r286 (k:Int):res A aA 286 [.int .i64 k]=some [.bool (decide (4<=k)&&decide (k<=6))]:=by
 refine aw a286 rfl rfl ?_
 simp only[F286,KC]
 simp(disch:=omega)only[go_sem]
 have hk:(decide (4<=k)&&decide (k<=6))=decide (k=4\/k=5\/k=6):=by
  rw[Xb]
  simp only[Bool.and_eq_true,decide_eq_true_eq]
  omega
 rw[hk]
 refine Br.aJ (fun h1=>?_) (fun h1=>?_)
 .have:decide (k=4\/k=5\/k=6)=true:=by simp[h1]
  rw[this]
  simp(disch:=omega)only[go_sem,h1]
 .by_cases h2:k=5
  .have:decide (k=4\/k=5\/k=6)=true:=by simp[h2]
   rw[this]
   simp(disch:=omega)only[go_sem,h2]
  .have:decide (k=4\/k=5\/k=6)=decide (k=6):=by simp[h1,h2]
   rw[this]
   simp(disch:=omega)only[go_sem,h1]
   refine Br.aJ (fun h3=>(h2 h3).elim) (fun h3=>?_)
   simp(disch:=omega)only[go_sem,h3]
def cp:aH:=⟨0,⟨#[]⟩,0,0,0,[],[],0,0,false⟩
def ez (t:aH):aH:=
 if t.kind=1 then { cp with kind:=1 }
 else if t.kind=2 then { cp with kind:=2,low:=t.low,high:=t.high }
 else if t.kind=3 then { cp with kind:=3,max:=t.max }
 else if t.kind=4 then { cp with kind:=4,name:=t.name,syms:=t.syms,jO:=t.jO }
 else if t.kind=5 then { cp with kind:=5,name:=t.name,bc:=t.bc }
 else if t.kind=6 then { cp with kind:=6,name:=t.name,bc:=t.bc,jO:=t.jO }
 else if t.kind=7 then { cp with kind:=7,max:=t.max,elem:=t.elem }
 else if t.kind=8 then { cp with kind:=8,max:=t.max,key:=t.key,elem:=t.elem }
 else { cp with kind:=t.kind,elem:=t.elem }
theorem Al (k:Int):k=1\/k=2\/k=3\/k=4\/k=5\/k=6\/k=7\/k=8\/(k≠1/\k≠2/\k≠3/\k≠4/\k≠5/\k≠6/\k≠7/\k≠8):=by omega
theorem Am:cp.ok:=by
 refine⟨?_,?_,fun s hs=>(List.not_mem_nil hs).elim,fun s hs=>(List.not_mem_nil hs).elim⟩<;>simp[cp,eH,bC,bP]
 exact WA _
theorem Zv {t:aH} (h:t.ok):(ez t).ok:=by
 obtain⟨⟨h0,h1,h2,h3,h4,h5,h6⟩,⟨h7,h8⟩,h9,h10⟩:=h
 obtain⟨⟨z0,z1,z2,z3,z4,z5,z6⟩,⟨z7,z8⟩,z9,z10⟩:=Am
 have kk:eH 1/\eH 2/\eH 3/\eH 4/\eH 5/\eH 6/\eH 7/\eH 8:=by simp[eH]
 obtain⟨k1,k2,k3,k4,k5,k6,k7,k8⟩:=kk
 unfold ez
 repeat' split
 all_goals exact⟨⟨by assumption,by assumption,by assumption,by assumption,by assumption,by assumption,by assumption⟩,⟨by assumption,by assumption⟩,by assumption,by assumption⟩
set_option maxHeartbeats 4000000 in
theorem r309 (t:aH):res A aA 309 [.agg t.c]=some [.agg (ez t).c]:=by
 obtain⟨k,a2,a3,a4,a5,a6,a7,a8,a9,a10⟩:=t
 refine aw a309 rfl rfl ?_
 simp only[F309,aam]
 unfold ez aH.c cp
 dsimp only
 rcases Al k with rfl|rfl|rfl|rfl|rfl|rfl|rfl|rfl|⟨n1,n2,n3,n4,n5,n6,n7,n8⟩
 all_goals simp(disch:=omega)only[*,go_sem]
 all_goals simp
noncomputable def kindOk (t:aH):Bool:=
 if t.kind=2 then decide (t.low<=t.high)
 else if t.kind=3 then decide (0<=t.max)&&decide (t.max<=200)
 else if t.kind=4 then pM t.syms
 else if t.kind=5 then fK true t.bc
 else if t.kind=6 then fK false t.bc
 else if t.kind=7 then decide (0<=t.max)&&decide (t.max<=50)
 else if t.kind=8 then decide (0<=t.max)&&decide (t.max<=50)
 else true
noncomputable def dO (t:aH):Bool:=(decide (1<=t.kind)&&decide (t.kind<=9))&&(eqv t (ez t)&&((!(decide (4<=t.kind)&&decide (t.kind<=6))||isName t.name)&&kindOk t))
structure aH.short (t:aH):Prop where
 syms:t.syms.length<=1048576
 bc:t.bc.length<=1048576
structure aH.held (t:aH):Prop where
 syms:t.syms.length<=8000000000000
 bc:t.bc.length<=8000000000000
theorem aH.short.held {t:aH} (h:t.short):t.held:=⟨by have:=h.syms; omega,by have:=h.bc; omega⟩
theorem abK {t:aH} (h:dO t=true):t.short:=by
 unfold dO at h
 simp only[Bool.and_eq_true,decide_eq_true_eq]at h
 obtain⟨⟨_,_⟩,he,_,hk⟩:=h
 have e:=bY.1 he
 have em:=congrArg aH.bc e
 have es:=congrArg aH.syms e
 rcases Al t.kind with g|g|g|g|g|g|g|g|⟨g1,g2,g3,g4,g5,g6,g7,g8⟩
 case inr.inr.inr.inl=>
  simp[ez,g,cp]at em
  simp[kindOk,g,pM]at hk
  exact⟨by omega,by rw[em]; simp⟩
 case inr.inr.inr.inr.inl=>
  simp[ez,g,cp]at es
  simp[kindOk,g,fK]at hk
  exact⟨by rw[es]; simp,by omega⟩
 case inr.inr.inr.inr.inr.inl=>
  simp[ez,g,cp]at es
  simp[kindOk,g,fK]at hk
  exact⟨by rw[es]; simp,by omega⟩
 case inr.inr.inr.inr.inr.inr.inr.inr=>
  simp[ez,g1,g2,g3,g4,g5,g6,g7,g8,cp]at em es
  exact⟨by rw[es]; simp,by rw[em]; simp⟩
 all_goals
  simp[ez,g,cp]at em es
  exact⟨by rw[es]; simp,by rw[em]; simp⟩
set_option maxHeartbeats 4000000 in
theorem r285 (t : aH) (ht : t.ok) (hs : t.held) : res A aA 285 [.agg t.c] = some [.bool (dO t)] := by
  have h309 := r309 t
  have h295 := r295 t (ez t) ht (Zv ht)
  obtain ⟨⟨o0,o1,_⟩,⟨_,_⟩,oS,oM⟩ := ht
  have h310 := r310 t.name o1
  have h286 := r286 t.kind
  have h311 := fun u => r311 u t.syms (by have := hs.syms; omega) (fun p hp => (oS p hp).2)
  have h312 := fun u b => r312 u t.bc b (by have := hs.bc; omega) oM
  unfold dO
  generalize eqv t (ez t) = e at h295
  generalize ez t = p at h295 h309
  have hnm : ∀ b,e = false -> (some [PV.bool false] : Option (List PV)) = some [PV.bool (b && (e && ((!(decide (4 <= t.kind) && decide (t.kind <= 6)) || isName t.name) && kindOk t)))] := fun b h => by
    rw [h,Xu,abu]
  unfold aH.c at *
  refine aw a285 rfl rfl ?_
  simp only [F285,aaj]
  simp (disch := omega) only [go_sem]
  refine Br.aJ (fun c1 => ?_) (fun c1 => ?_) <;> simp (disch := omega) only [go_sem,c1]
  . have : ¬ 1 <= t.kind := by omega
    simp [this]
  refine Br.aJ (fun c2 => ?_) (fun c2 => ?_) <;> simp (disch := omega) only [go_sem,c2]
  . have : ¬ t.kind <= 9 := by omega
    simp [this]
  have k1 : decide (1 <= t.kind) = true := by simp; omega
  have k2 : decide (t.kind <= 9) = true := by simp; omega
  rw [k1,k2]
  simp (disch := omega) only [go_sem,h309,h295]
  refine Br.of (fun c3 => ?_) (fun c3 => ?_) <;> simp (disch := omega) only [go_sem,c3,h286]
  subst c3
  unfold kindOk
  by_cases hn : 4 <= t.kind /\ t.kind <= 6
  . have c4 : (decide (4 <= t.kind) && decide (t.kind <= 6)) = true := by simp [hn]
    rw [c4]
    simp (disch := omega) only [go_sem,h310]
    refine Br.of (fun c5 => ?_) (fun c5 => ?_) <;> simp (disch := omega) only [go_sem,c5]
    have hk : t.kind = 4 \/ t.kind = 5 \/ t.kind = 6 := by omega
    rcases hk with hk | hk | hk
    all_goals simp (disch := omega) only [go_sem,hk,h311,h312]
    all_goals simp [c5]
  . have c4 : (decide (4 <= t.kind) && decide (t.kind <= 6)) = false := by
      rw [Xz]
      simp
      omega
    rw [c4]
    simp (disch := omega) only [go_sem]
    have hk : t.kind = 1 \/ t.kind = 2 \/ t.kind = 3 \/ t.kind = 7 \/ t.kind = 8 \/ t.kind = 9 := by omega
    rcases hk with hk | hk | hk | hk | hk | hk
    all_goals simp (disch := omega) only [go_sem,hk]
    all_goals first
      | (simp [hk]
         done)
      | (refine Br.aJ (fun c6 => ?_) (fun c6 => ?_) <;> simp (disch := omega) only [go_sem,c6]
         all_goals simp [hk])
set_option maxHeartbeats 8000000 in
theorem r283 (t:aH) (ht:t.ok) (hs:t.held):res A aA 283 [.agg t.c]=some [.bool (dO t)]:=by
 have h297:=fun z hz=>r297 z cp hz Am
 have h308:=r308 t ht (by have:=hs.bc; omega)
 have ht':=ht
 obtain⟨⟨o0,o1,o2,o3,o4,o5,o6⟩,⟨l1,l2⟩,oS,oM⟩:=ht
 have h306:=r306 t.name o1
 have h307:=fun u=>r307 u t.syms (by have:=hs.syms; omega) (fun p hp=>(oS p hp).2)
 obtain⟨k,a2,a3,a4,a5,a6,a7,a8,a9,a10⟩:=t
 unfold dO ez kindOk
 unfold cp aH.c at *
 dsimp only at *
 refine aw a283 rfl rfl ?_
 simp only[F283,KA]
 simp(disch:=omega)only[go_sem]
 have no:∀{z:Bool},z=false->(some [PV.bool false]:Option (List PV))=some [PV.bool z]:=fun h=>by rw[h]
 have ze:∀{x y z p:aH},(x=y↔z=p)->eqv x y=eqv z p:=fun {x y z p} h=>by
  rw[Xb,bY,bY]
  exact h
 have okz:∀(k:Int) (a2:ByteArray) (a3 a4 a5:Int) (a6:List Sym) (a7:List Mem) (a8 a9:Int) (a10:Bool),eH k->bC a2->eH a3->eH a4->eH a5->bP a6->bP a7->(∀s∈a6,s.ok)->(∀m∈a7,m.ok)->eH a8->eH a9->(⟨k,a2,a3,a4,a5,a6,a7,a8,a9,a10⟩:aH).ok:=
  fun k a2 a3 a4 a5 a6 a7 a8 a9 a10 h1 h2 h3 h4 h5 h6 h7 h8 h9 h10 h11=>⟨⟨h1,h2,h3,h4,h5,h10,h11⟩,⟨h6,h7⟩,h8,h9⟩
 have i0:eH 0:=by simp[eH]
 have s0:bC ⟨#[]⟩:=by simp[bC]; exact Nat.zero_le _
 have y0:bP ([]:List Sym):=by simp[bP]
 have m0:bP ([]:List Mem):=by simp[bP]
 have y1:∀s∈([]:List Sym),s.ok:=fun s hs=>(abC hs).elim
 have m1:∀s∈([]:List Mem),s.ok:=fun s hs=>(abC hs).elim
 rcases Al k with rfl|rfl|rfl|rfl|rfl|rfl|rfl|rfl|⟨n1,n2,n3,n4,n5,n6,n7,n8⟩
 .have hz:=h297 ⟨0,a2,a3,a4,a5,a6,a7,a8,a9,a10⟩ (okz _ _ _ _ _ _ _ _ _ _ i0 o1 o2 o3 o4 l1 l2 oS oM o5 o6)
  simp only[List.map_nil]at hz
  simp(disch:=omega)only[go_sem,hz]
  rw[ze (z:=⟨1,a2,a3,a4,a5,a6,a7,a8,a9,a10⟩) (p:=⟨1,⟨#[]⟩,0,0,0,[],[],0,0,false⟩) (by simp)]
 .have hz:=h297 ⟨0,a2,0,0,a5,a6,a7,a8,a9,a10⟩ (okz _ _ _ _ _ _ _ _ _ _ i0 o1 i0 i0 o4 l1 l2 oS oM o5 o6)
  simp only[List.map_nil]at hz
  simp(disch:=omega)only[go_sem]
  refine Br.aJ (fun c=>?_) (fun c=>?_)<;>simp(disch:=omega)only[go_sem,c,hz]
  .rw[ze (z:=⟨2,a2,a3,a4,a5,a6,a7,a8,a9,a10⟩) (p:=⟨2,⟨#[]⟩,a3,a4,0,[],[],0,0,false⟩) (by simp)]
 .have hz:=h297 ⟨0,a2,a3,a4,0,a6,a7,a8,a9,a10⟩ (okz _ _ _ _ _ _ _ _ _ _ i0 o1 o2 o3 i0 l1 l2 oS oM o5 o6)
  simp only[List.map_nil]at hz
  simp(disch:=omega)only[go_sem]
  refine Br.aJ (fun c=>?_) (fun c=>?_)<;>simp(disch:=omega)only[go_sem,c]
  .refine Br.aJ (fun c2=>?_) (fun c2=>?_)<;>simp(disch:=omega)only[go_sem,c2,hz]
   .rw[ze (z:=⟨3,a2,a3,a4,a5,a6,a7,a8,a9,a10⟩) (p:=⟨3,⟨#[]⟩,0,0,a5,[],[],0,0,false⟩) (by simp)]
    simp[c]
 .have hz:=h297 ⟨0,⟨#[]⟩,a3,a4,a5,[],a7,a8,a9,false⟩ (okz _ _ _ _ _ _ _ _ _ _ i0 s0 o2 o3 o4 y0 l2 y1 oM o5 o6)
  simp only[List.map_nil]at hz
  simp(disch:=omega)only[go_sem,h306]
  refine Br.of (fun c=>?_) (fun c=>?_)<;>simp(disch:=omega)only[go_sem,c,h307]
  .refine Br.of (fun c2=>?_) (fun c2=>?_)<;>simp(disch:=omega)only[go_sem,c2,hz]
   .rw[ze (z:=⟨4,a2,a3,a4,a5,a6,a7,a8,a9,a10⟩) (p:=⟨4,a2,0,0,0,a6,[],0,0,a10⟩) (by simp)]
    simp[c]
 .have hz:=h297 ⟨0,⟨#[]⟩,a3,a4,a5,a6,[],a8,a9,a10⟩ (okz _ _ _ _ _ _ _ _ _ _ i0 s0 o2 o3 o4 l1 m0 oS m1 o5 o6)
  simp only[List.map_nil]at hz
  have h308:=h308 (by simp)
  simp(disch:=omega)only[go_sem,h306]
  refine Br.of (fun c=>?_) (fun c=>?_)<;>simp(disch:=omega)only[go_sem,c,h308]
  .cases a10 with
   |false=>
    simp(disch:=omega)only[go_sem]
    refine Br.of (fun c2=>?_) (fun c2=>?_)<;>simp(disch:=omega)only[go_sem,c2,hz]
    rw[ze (z:=⟨5,a2,a3,a4,a5,a6,a7,a8,a9,false⟩) (p:=⟨5,a2,0,0,0,[],a7,0,0,false⟩) (by simp)]
    have c2':fK true a7=true:=by simpa using c2
    simp[c]
   |true=>
    simp(disch:=omega)only[go_sem]
    refine Br.of (fun c2=>?_) (fun c2=>?_)<;>simp(disch:=omega)only[go_sem,c2,hz]
    rw[ze (z:=⟨5,a2,a3,a4,a5,a6,a7,a8,a9,true⟩) (p:=⟨5,a2,0,0,0,[],a7,0,0,false⟩) (by simp)]
    have c2':fK true a7=true:=by simpa using c2
    simp[c]
  .cases a10<;>simp(disch:=omega)only[go_sem]<;>exact no (by simp[c])
 .have hz:=h297 ⟨0,⟨#[]⟩,a3,a4,a5,a6,[],a8,a9,false⟩ (okz _ _ _ _ _ _ _ _ _ _ i0 s0 o2 o3 o4 l1 m0 oS m1 o5 o6)
  simp only[List.map_nil]at hz
  have h308:=h308 (by simp)
  simp(disch:=omega)only[go_sem,h306]
  refine Br.of (fun c=>?_) (fun c=>?_)<;>simp(disch:=omega)only[go_sem,c,h308]
  .cases a10 with
   |false=>
    simp(disch:=omega)only[go_sem]
    refine Br.of (fun c2=>?_) (fun c2=>?_)<;>simp(disch:=omega)only[go_sem,c2,hz]
    rw[ze (z:=⟨6,a2,a3,a4,a5,a6,a7,a8,a9,false⟩) (p:=⟨6,a2,0,0,0,[],a7,0,0,false⟩) (by simp)]
    have c2':fK false a7=true:=by simpa using c2
    simp[c]
   |true=>
    simp(disch:=omega)only[go_sem]
    refine Br.of (fun c2=>?_) (fun c2=>?_)<;>simp(disch:=omega)only[go_sem,c2,hz]
    rw[ze (z:=⟨6,a2,a3,a4,a5,a6,a7,a8,a9,true⟩) (p:=⟨6,a2,0,0,0,[],a7,0,0,true⟩) (by simp)]
    have c2':fK false a7=true:=by simpa using c2
    simp[c]
  .cases a10<;>simp(disch:=omega)only[go_sem]<;>exact no (by simp[c])
 .have hz:=h297 ⟨0,a2,a3,a4,0,a6,a7,a8,0,a10⟩ (okz _ _ _ _ _ _ _ _ _ _ i0 o1 o2 o3 i0 l1 l2 oS oM o5 i0)
  simp only[List.map_nil]at hz
  simp(disch:=omega)only[go_sem]
  refine Br.aJ (fun c=>?_) (fun c=>?_)<;>simp(disch:=omega)only[go_sem,c]
  .refine Br.aJ (fun c2=>?_) (fun c2=>?_)<;>simp(disch:=omega)only[go_sem,c2,hz]
   .rw[ze (z:=⟨7,a2,a3,a4,a5,a6,a7,a8,a9,a10⟩) (p:=⟨7,⟨#[]⟩,0,0,a5,[],[],0,a9,false⟩) (by simp)]
    simp[c]
 .have hz:=h297 ⟨0,a2,a3,a4,0,a6,a7,0,0,a10⟩ (okz _ _ _ _ _ _ _ _ _ _ i0 o1 o2 o3 i0 l1 l2 oS oM i0 i0)
  simp only[List.map_nil]at hz
  simp(disch:=omega)only[go_sem]
  refine Br.aJ (fun c=>?_) (fun c=>?_)<;>simp(disch:=omega)only[go_sem,c]
  .refine Br.aJ (fun c2=>?_) (fun c2=>?_)<;>simp(disch:=omega)only[go_sem,c2,hz]
   .rw[ze (z:=⟨8,a2,a3,a4,a5,a6,a7,a8,a9,a10⟩) (p:=⟨8,⟨#[]⟩,0,0,a5,[],[],a8,a9,false⟩) (by simp)]
    simp[c]
 .have hz:=h297 ⟨0,a2,a3,a4,a5,a6,a7,a8,0,a10⟩ (okz _ _ _ _ _ _ _ _ _ _ i0 o1 o2 o3 o4 l1 l2 oS oM o5 i0)
  simp only[List.map_nil]at hz
  simp(disch:=omega)only[go_sem,n1,n2,n3,n4,n5,n6,n7,n8]
  refine Br.aJ (fun c=>?_) (fun c=>?_)<;>simp(disch:=omega)only[go_sem,c,hz]
  .rw[ze (z:=⟨k,a2,a3,a4,a5,a6,a7,a8,a9,a10⟩) (p:=⟨k,⟨#[]⟩,0,0,0,[],[],0,a9,false⟩) (by simp)]
   simp[c]
  .refine no ?_
   have:(decide (1<=k)&&decide (k<=9))=false:=by
    rw[Xz]
    simp
    omega
   rw[this,Xu]
def jF (t:aH):List Int:=if t.kind=8 then [t.key] else []
def abG (t:aH):List Int:=if 7<=t.kind then [t.elem] else []
def cT (t:aH):List Int:=t.bc.map (·.type)++jF t++abG t
set_option maxHeartbeats 2000000 in
theorem r284 (t:aH) (hs:t.short):res A aA 284 [.agg t.c]=some [.aq 0 (ints (cT t))]:=by
 have hl:=hs.bc
 obtain⟨k,a2,a3,a4,a5,a6,l,a8,a9,a10⟩:=t
 unfold cT jF abG aH.c
 dsimp only at *
 refine aw a284 rfl rfl ?_
 simp only[F284,KB]
 simp(disch:=omega)only[go_sem]
 refine W.fv l.length (fun j=>⟨[(1,.ptr 1 0),(3,dh 0 (ints ((l.take j).map (·.type)))),(7,.pv (.aq 0 (l.map Mem.c))),(8,.pv (.int .i64 l.length)),(9,.pv (.int .i64 j))],⟨[(1,[.pv (.int .i64 k),.pv (.str a2),.pv (.int .i64 a3),.pv (.int .i64 a4),.pv (.int .i64 a5),.pv (.aq 0 (a6.map Sym.c)),.pv (.aq 0 (l.map Mem.c)),.pv (.int .i64 a8),.pv (.int .i64 a9),.pv (.bool a10)])],cK 1 (ints ((l.take j).map (·.type))),[]⟩⟩) (fun _=>True) rfl trivial (fun j hj _=>?_)
 rcases Wh j l.length with hlt|hge
 .have hp:=Wb hlt
  generalize l[j]=p at hp
  have t1:(l.take (j+1)).map (·.type)=(l.take j).map (·.type)++[p.type]:=by rw[WL,hp,WC]; rfl
  have l1:((l.take j).map (·.type)).length=j:=by simp; omega
  generalize (l.take j).map (·.type)=u at t1 l1
  simp(disch:=omega)only[go_sem]
  refine Br.aJ (fun c=>?_) (fun c=>(c (by omega)).elim)
  simp(disch:=omega)only[go_sem,hp,Mem.c]
  refine .of (by omega) ?_ trivial
  rw[t1]
  rfl
 .obtain rfl:j=l.length:=by omega
  rw[WV]
  have l1:(l.map (·.type)).length=l.length:=by simp
  generalize l.map (·.type)=u at l1
  simp(disch:=omega)only[go_sem]
  refine Br.aJ (fun c=>?_) (fun c=>?_)<;>simp(disch:=omega)only[go_sem,c]
  .have l2:(u++[a8]).length=l.length+1:=by simp[l1]
   have h7:7<=k:=by omega
   simp(disch:=omega)only[go_sem]
   simp[c]
  .refine Br.aJ (fun c2=>?_) (fun c2=>?_)<;>simp(disch:=omega)only[go_sem,c2]
   .simp[c]
   .simp[c]
set_option maxHeartbeats 2000000 in
theorem r287 (t:aH) (hs:t.short) (h9:t.kind<=9):res A aA 287 [.agg t.c]=some [.aq 0 (ints (cT t))]:=by
 have hl:=hs.bc
 obtain⟨k,a2,a3,a4,a5,a6,l,a8,a9,a10⟩:=t
 unfold cT jF abG aH.c
 dsimp only at *
 refine aw a287 rfl rfl ?_
 simp only[F287,aak]
 simp(disch:=omega)only[go_sem]
 refine W.fv l.length (fun j=>⟨[(1,.ptr 1 0),(3,dh 0 (ints ((l.take j).map (·.type)))),(4,.pv (.int .i64 j))],⟨[(1,[.pv (.int .i64 k),.pv (.str a2),.pv (.int .i64 a3),.pv (.int .i64 a4),.pv (.int .i64 a5),.pv (.aq 0 (a6.map Sym.c)),.pv (.aq 0 (l.map Mem.c)),.pv (.int .i64 a8),.pv (.int .i64 a9),.pv (.bool a10)])],cK 1 (ints ((l.take j).map (·.type))),[]⟩⟩) (fun _=>True) rfl trivial (fun j hj _=>?_)
 rcases Wh j l.length with hlt|hge
 .have hp:=Wb hlt
  generalize l[j]=p at hp
  have t1:(l.take (j+1)).map (·.type)=(l.take j).map (·.type)++[p.type]:=by rw[WL,hp,WC]; rfl
  have l1:((l.take j).map (·.type)).length=j:=by simp; omega
  generalize (l.take j).map (·.type)=u at t1 l1
  simp(disch:=omega)only[go_sem]
  refine Br.aJ (fun c=>?_) (fun c=>(c (by omega)).elim)
  simp(disch:=omega)only[go_sem,hp,Mem.c]
  refine .of (by omega) ?_ trivial
  rw[t1]
  rfl
 .obtain rfl:j=l.length:=by omega
  rw[WV]
  have l1:(l.map (·.type)).length=l.length:=by simp
  generalize l.map (·.type)=u at l1
  have l2:(u++[a8]).length=l.length+1:=by simp[l1]
  simp(disch:=omega)only[go_sem]
  refine Br.aJ (fun c=>?_) (fun c=>?_)<;>simp(disch:=omega)only[go_sem,c]
  refine Br.aJ (fun c2=>?_) (fun c2=>?_)<;>simp(disch:=omega)only[go_sem,c,c2]
  refine Br.aJ (fun c3=>?_) (fun c3=>?_)<;>simp(disch:=omega)only[go_sem,c3]
  have h7:¬7<=k:=by omega
  simp[c,h7]
theorem r288 (k:Int):res A aA 288 [.int .i64 k]=some [.bool (decide (1<=k)&&decide (k<=4))]:=by
 refine aw a288 rfl rfl ?_
 simp only[F288,KD]
 simp(disch:=omega)only[go_sem]
 refine Br.aJ (fun c=>?_) (fun c=>?_)<;>simp(disch:=omega)only[go_sem,c]
def kf (l:List aH) (i:Int):Int:=((l[i.toNat]?).map (·.kind)).getD 0
def lZ (l:List aH) (k:Nat) (t:aH):Bool:=!decide (t.name=⟨#[]⟩)&&cY ((l.take k).map (·.name)) t.name
def dP (n:Nat) (u:Int):Bool:=decide (u<0)||decide ((n:Int)<=u)
def eX (l:List aH) (t:aH):Bool:=decide (t.kind=8)&&!(decide (1<=kf l t.key)&&decide (kf l t.key<=4))
noncomputable def gR (l:List aH) (k:Nat) (t:aH):Int:=if (!dO t||lZ l k t)=true then 1 else if (cT t).any (dP l.length)=true then 4 else if eX l t=true then 1 else 0
noncomputable def eY (l:List aH) (k:Nat):Int:=match l[k]? with
 |some t=>gR l k t
 |none=>0
noncomputable def yw (l:List aH) (o:Option Nat):Int:=match o with
 |some k=>eY l k
 |none=>0
noncomputable def cS (l:List aH):Int:=if 32<l.length then 3 else yw l ((List.range l.length).find? fun k=>decide (eY l k≠0))
def ot (l:List aH) (k:Nat):List ByteArray:=((l.take k).map (·.name)).foldl pK []
theorem pN:∀(m s:List ByteArray) (x:ByteArray),x∈m.foldl pK s↔x∈s\/x∈m
 |[],s,x=>by simp
 |y::m,s,x=>by
  rw[Xp,pN m (pK s y) x,EL,WG]
  constructor
  .rintro ((h|h)|h)
   .exact .inl h
   .exact .inr (.inl h)
   .exact .inr (.inr h)
  .rintro (h|h|h)
   .exact .inl (.inl h)
   .exact .inl (.inr h)
   .exact .inr h
theorem uR (l:List aH) (k:Nat) (x:ByteArray):cY (ot l k) x=cY ((l.take k).map (·.name)) x:=by
 rw[Xb,eI,eI,ot,pN]
 simp
theorem An {l:List aH} {k:Nat} {t:aH} (h:l[k]?=some t):pK (ot l k) t.name=ot l (k+1):=by
 unfold ot
 rw[WL,h,WC,List.foldl_append]
 rfl
theorem ou {t:aH} (h:t.kind=8):t.key∈cT t:=by simp[cT,jF,h]
set_option maxHeartbeats 4000000 in
theorem r267 (v:Nat) (l:List aH) (hl:l.length<=2147483648) (ho:∀t∈l,t.ok) (hs:∀t∈l,t.held):res A aA 267 [.agg [.aq v (l.map aH.c)]]=some [.int .i64 (cS l)]:=by
 refine aw a267 rfl rfl ?_
 simp only[F267,Kx]
 simp(disch:=omega)only[go_sem]
 refine Br.aJ (fun c0=>?_) (fun c0=>?_)<;>simp(disch:=omega)only[go_sem,c0]
 .have:32<l.length:=by omega
  simp[cS,this]
 have h32:¬32<l.length:=by omega
 unfold cS
 rw[if_neg h32]
 obtain⟨G,hG⟩:∃G,yw l ((List.range l.length).find? fun k=>decide (eY l k≠0))=G:=⟨_,rfl⟩
 rw[hG]
 refine W.find (List.range l.length) (fun k=>decide (eY l k≠0)) (fun k=>⟨[(1,.ptr 1 0),(3,.map 0),(14,.pv (.aq v (l.map aH.c))),(15,.pv (.int .i64 l.length)),(16,.pv (.int .i64 k))],⟨[(1,[.pv (.aq v (l.map aH.c))])],[],[iT (ot l k)]⟩⟩) rfl (fun k x hx hk hfd=>?_) (fun hn=>?_)
 .obtain⟨rfl,hk⟩:=ey hx
  have hp:=Wb hk
  generalize l[x]=p at hp
  have hm:=Wa hp
  have h283:=r283 p (ho p hm) (hs p hm)
  have he:eY l x=gR l x p:=by simp only[eY,hp]
  have hnx:=An hp
  have hsn:=uR l x p.name
  have done:∀e:Int,gR l x p=e->e≠0->(some [PV.int .i64 e]:Option (List PV))=some [.int .i64 G]:=fun e h1 h2=>by
   rw[<- hG,(hfd (by rw[he,h1]; simpa using h2)).find,yw,he,h1]
  rw[he]
  have hul:(cT p).length<=8000000000002:=by
   have:=(hs p hm).bc
   unfold cT jF abG
   rw[Wz,Wz,Wg]
   split<;>split<;>simp<;>omega
  unfold aH.c at h283
  simp(disch:=omega)only[go_sem]
  refine Br.aJ (fun c=>?_) (fun c=>(c (by omega)).elim)
  simp(disch:=omega)only[go_sem,hp,aH.c,h283]
  refine Br.of (fun c1=>?_) (fun c1=>?_)<;>simp(disch:=omega)only[go_sem,c1]
  rotate_left
  .exact done 1 (by simp[gR,c1]) (by decide)
  have nodup:lZ l x p=false->(!dO p||lZ l x p)=false:=fun h=>by rw[c1,h]; rfl
  have dup:lZ l x p=(!decide (p.name=⟨#[]⟩)&&cY (ot l x) p.name):=by rw[uR]; rfl
  have hown:(dO p)=true:=c1
  have h284:=r284 p (abK hown)
  unfold aH.c at h284
  refine Br.aJ (fun c2=>?_) (fun c2=>?_)
  .have d2:decide (p.name=⟨#[]⟩)=true:=by simp[c2]
   rw[d2]at dup
   have hd:=nodup (by rw[dup]; rfl)
   clear c2
   simp(disch:=omega)only[go_sem,d2,h284,hnx]
   refine W.find (cT p) (dP l.length) (fun j=>⟨[(1,.ptr 1 0),(3,.map 0),(5,.ptr 5 0),(14,.pv (.aq v (l.map aH.c))),(15,.pv (.int .i64 l.length)),(16,.pv (.int .i64 x)),(38,.pv (.aq 0 (ints (cT p)))),(39,.pv (.int .i64 (cT p).length)),(40,.pv (.int .i64 j))],⟨[(1,[.pv (.aq v (l.map aH.c))]),(5,[.pv (.int .i64 p.kind),.pv (.str p.name),.pv (.int .i64 p.low),.pv (.int .i64 p.high),.pv (.int .i64 p.max),.pv (.aq 0 (p.syms.map Sym.c)),.pv (.aq 0 (p.bc.map Mem.c)),.pv (.int .i64 p.key),.pv (.int .i64 p.elem),.pv (.bool p.jO)])],[],[iT (ot l (x+1))]⟩⟩) rfl (fun j u hu hj hfd2=>?_) (fun hn=>?_)
   .have d4:dP l.length u=true->gR l x p=4:=fun g=>by
     rw[gR,hd,(hfd2 g).any]
     rfl
    simp(disch:=omega)only[go_sem]
    refine Br.aJ (fun c=>?_) (fun c=>(c (by omega)).elim)
    simp(disch:=omega)only[go_sem,hu]
    refine Br.aJ (fun c4=>?_) (fun c4=>?_)<;>simp(disch:=omega)only[go_sem,c4]
    .exact done 4 (d4 (by simp[dP,c4])) (by decide)
    refine Br.aJ (fun c5=>?_) (fun c5=>?_)<;>simp(disch:=omega)only[go_sem,c5]
    .exact done 4 (d4 (by simp[dP,c5])) (by decide)
    .exact bB.of (by simp[dP,c4,c5]) rfl
   .have he2:gR l x p=if eX l p=true then 1 else 0:=by
     rw[gR,hd,hn.any]
     rfl
    simp(disch:=omega)only[go_sem]
    refine Br.aJ (fun c4=>?_) (fun c4=>?_)
    .have hku:=ou c4
     have hout:=WY.1 hn.any _ hku
     have hk0:0<=p.key/\p.key<l.length:=by
      simp[dP]at hout
      omega
     have hkk:=Wb (l:=l) (i:=p.key.toNat) (by omega)
     have hka:kf l p.key=(l[p.key.toNat]'(by omega)).kind:=by rw[kf,hkk]; rfl
     generalize l[p.key.toNat]'(by omega)=q at hkk hka
     have d8:decide (p.kind=8)=true:=by simp[c4]
     have hb:eX l p=!(decide (1<=q.kind)&&decide (q.kind<=4)):=by rw[eX,d8,hka]; rfl
     have hidx:jx 10 v (l.map aH.c) (some p.key)=some (V.pv (.ro v q.c)):=by
      rw[gB _ _ _ hk0.1,Wf,hkk]
      rfl
     unfold aH.c at hidx
     unfold aH.c
     simp(disch:=omega)only[go_sem,d8,hidx]
     refine Br.aJ (fun c6=>?_) (fun c6=>?_)<;>simp(disch:=omega)only[go_sem,c6]
     .refine done 1 ?_ (by decide)
      have:¬1<=q.kind:=by omega
      rw[he2,hb]
      simp[this]
     simp(disch:=omega)only[go_sem,hidx]
     refine Br.aJ (fun c7=>?_) (fun c7=>?_)<;>simp(disch:=omega)only[go_sem,c7]
     .refine done 1 ?_ (by decide)
      have:¬q.kind<=4:=by omega
      rw[he2,hb]
      simp[this]
     .refine bB.of ?_ rfl
      have h1:1<=q.kind:=by omega
      have h2:q.kind<=4:=by omega
      rw[he2,hb]
      simp[h1,h2]
    .have d8:decide (p.kind=8)=false:=by simp[c4]
     have hb:eX l p=false:=by rw[eX,d8]; rfl
     simp(disch:=omega)only[go_sem,d8]
     refine bB.of ?_ rfl
     rw[he2,hb]
     rfl
  .have d2:decide (p.name=⟨#[]⟩)=false:=by simp[c2]
   rw[d2]at dup
   simp(disch:=omega)only[go_sem,d2]
   refine Br.of (fun c3=>?_) (fun c3=>?_)<;>simp(disch:=omega)only[go_sem,c3,h284,hnx]
   .refine done 1 ?_ (by decide)
    rw[gR,dup,c3]
    simp
   have hd:=nodup (by rw[dup,c3]; rfl)
   refine W.find (cT p) (dP l.length) (fun j=>⟨[(1,.ptr 1 0),(3,.map 0),(5,.ptr 5 0),(14,.pv (.aq v (l.map aH.c))),(15,.pv (.int .i64 l.length)),(16,.pv (.int .i64 x)),(38,.pv (.aq 0 (ints (cT p)))),(39,.pv (.int .i64 (cT p).length)),(40,.pv (.int .i64 j))],⟨[(1,[.pv (.aq v (l.map aH.c))]),(5,[.pv (.int .i64 p.kind),.pv (.str p.name),.pv (.int .i64 p.low),.pv (.int .i64 p.high),.pv (.int .i64 p.max),.pv (.aq 0 (p.syms.map Sym.c)),.pv (.aq 0 (p.bc.map Mem.c)),.pv (.int .i64 p.key),.pv (.int .i64 p.elem),.pv (.bool p.jO)])],[],[iT (ot l (x+1))]⟩⟩) rfl (fun j u hu hj hfd2=>?_) (fun hn=>?_)
   .have d4:dP l.length u=true->gR l x p=4:=fun g=>by
     rw[gR,hd,(hfd2 g).any]
     rfl
    simp(disch:=omega)only[go_sem]
    refine Br.aJ (fun c=>?_) (fun c=>(c (by omega)).elim)
    simp(disch:=omega)only[go_sem,hu]
    refine Br.aJ (fun c4=>?_) (fun c4=>?_)<;>simp(disch:=omega)only[go_sem,c4]
    .exact done 4 (d4 (by simp[dP,c4])) (by decide)
    refine Br.aJ (fun c5=>?_) (fun c5=>?_)<;>simp(disch:=omega)only[go_sem,c5]
    .exact done 4 (d4 (by simp[dP,c5])) (by decide)
    .exact bB.of (by simp[dP,c4,c5]) rfl
   .have he2:gR l x p=if eX l p=true then 1 else 0:=by
     rw[gR,hd,hn.any]
     rfl
    simp(disch:=omega)only[go_sem]
    refine Br.aJ (fun c4=>?_) (fun c4=>?_)
    .have hku:=ou c4
     have hout:=WY.1 hn.any _ hku
     have hk0:0<=p.key/\p.key<l.length:=by
      simp[dP]at hout
      omega
     have hkk:=Wb (l:=l) (i:=p.key.toNat) (by omega)
     have hka:kf l p.key=(l[p.key.toNat]'(by omega)).kind:=by rw[kf,hkk]; rfl
     generalize l[p.key.toNat]'(by omega)=q at hkk hka
     have d8:decide (p.kind=8)=true:=by simp[c4]
     have hb:eX l p=!(decide (1<=q.kind)&&decide (q.kind<=4)):=by rw[eX,d8,hka]; rfl
     have hidx:jx 10 v (l.map aH.c) (some p.key)=some (V.pv (.ro v q.c)):=by
      rw[gB _ _ _ hk0.1,Wf,hkk]
      rfl
     unfold aH.c at hidx
     unfold aH.c
     simp(disch:=omega)only[go_sem,d8,hidx]
     refine Br.aJ (fun c6=>?_) (fun c6=>?_)<;>simp(disch:=omega)only[go_sem,c6]
     .refine done 1 ?_ (by decide)
      have:¬1<=q.kind:=by omega
      rw[he2,hb]
      simp[this]
     simp(disch:=omega)only[go_sem,hidx]
     refine Br.aJ (fun c7=>?_) (fun c7=>?_)<;>simp(disch:=omega)only[go_sem,c7]
     .refine done 1 ?_ (by decide)
      have:¬q.kind<=4:=by omega
      rw[he2,hb]
      simp[this]
     .refine bB.of ?_ rfl
      have h1:1<=q.kind:=by omega
      have h2:q.kind<=4:=by omega
      rw[he2,hb]
      simp[h1,h2]
    .have d8:decide (p.kind=8)=false:=by simp[c4]
     have hb:eX l p=false:=by rw[eX,d8]; rfl
     simp(disch:=omega)only[go_sem,d8]
     refine bB.of ?_ rfl
     rw[he2,hb]
     rfl
 .rw[hn.find]at hG
  rw[WI]
  simp(disch:=omega)only[go_sem]
  rw[<- hG]
  rfl
theorem CL {s:ByteArray} (h:isName s=true):s≠⟨#[]⟩:=by
 rintro rfl
 cases h
theorem YN {t:aH} (hn:¬(4<=t.kind/\t.kind<=6)):(ez t).name=⟨#[]⟩:=by
 unfold ez
 repeat' split
 all_goals first
  |rfl
  |omega
theorem ZM {p:aH} (h:dO p=true):decide (p.name=⟨#[]⟩)=!(decide (4<=p.kind)&&decide (p.kind<=6)):=by
 unfold dO at h
 rw[XX,XX (eqv p (ez p)),XX (!(decide (4<=p.kind)&&decide (p.kind<=6))||isName p.name),bY]at h
 obtain⟨h1,h2,h3,h4⟩:=h
 by_cases hn:4<=p.kind/\p.kind<=6
 .have e:(decide (4<=p.kind)&&decide (p.kind<=6))=true:=by simp[hn]
  rw[e]at h3 |-
  have h3:isName p.name=true:=by simpa using h3
  simp[CL h3]
 .have e:(decide (4<=p.kind)&&decide (p.kind<=6))=false:=by
   rw[Xz]
   simp
   omega
  rw[e]
  have:p.name=⟨#[]⟩:=by
   rw[h2]
   exact YN hn
  simp[this]
theorem Z9 {l:List aH} {k:Nat} {p:aH} (h:dO p=true):lZ l k p=(l.take k).any fun q=>(decide (4<=p.kind)&&decide (p.kind<=6))&&decide (q.name=p.name):=by
 unfold lZ
 rw[ZM h,Bool.not_not]
 cases (decide (4<=p.kind)&&decide (p.kind<=6))with
 |false=>simp
 |true=>
  simp only[Bool.true_and]
  unfold cY
  rw[abr]
  rfl
theorem yx {p:aH} (h:dO p=true):p.kind<=9:=by
 unfold dO at h
 simp only[Bool.and_eq_true,decide_eq_true_eq]at h
 exact h.1.2
set_option maxHeartbeats 4000000 in
theorem r268 (v:Nat) (l:List aH) (hl:l.length<=2147483648) (ho:∀t∈l,t.ok) (hs:∀t∈l,t.held):res A aA 268 [.agg [.aq v (l.map aH.c)]]=some [.int .i64 (cS l)]:=by
 refine aw a268 rfl rfl ?_
 simp only[F268,aai]
 simp(disch:=omega)only[go_sem]
 refine Br.aJ (fun c0=>?_) (fun c0=>?_)<;>simp(disch:=omega)only[go_sem,c0]
 .have:32<l.length:=by omega
  simp[cS,this]
 have h32:¬32<l.length:=by omega
 unfold cS
 rw[if_neg h32]
 obtain⟨G,hG⟩:∃G,yw l ((List.range l.length).find? fun k=>decide (eY l k≠0))=G:=⟨_,rfl⟩
 rw[hG]
 refine W.find (List.range l.length) (fun k=>decide (eY l k≠0)) (fun k=>⟨[(1,.ptr 1 0),(3,.pv (.int .i64 k))],⟨[(1,[.pv (.aq v (l.map aH.c))])],[],[]⟩⟩) rfl (fun k x hx hk hfd=>?_) (fun hn=>?_)
 .obtain⟨rfl,hk⟩:=ey hx
  have hp:=Wb hk
  generalize l[x]=p at hp
  have hm:=Wa hp
  have h285:=r285 p (ho p hm) (hs p hm)
  have h286:=r286 p.kind
  have he:eY l x=gR l x p:=by simp only[eY,hp]
  have done:∀e:Int,gR l x p=e->e≠0->(some [PV.int .i64 e]:Option (List PV))=some [.int .i64 G]:=fun e h1 h2=>by
   rw[<- hG,(hfd (by rw[he,h1]; simpa using h2)).find,yw,he,h1]
  rw[he]
  have hul:(cT p).length<=8000000000002:=by
   have:=(hs p hm).bc
   unfold cT jF abG
   rw[Wz,Wz,Wg]
   split<;>split<;>simp<;>omega
  unfold aH.c at h285
  simp(disch:=omega)only[go_sem]
  refine Br.aJ (fun c=>?_) (fun c=>(c (by omega)).elim)
  simp(disch:=omega)only[go_sem,hp,aH.c,h285]
  refine Br.of (fun c1=>?_) (fun c1=>?_)<;>simp(disch:=omega)only[go_sem,c1]
  rotate_left
  .exact done 1 (by simp[gR,c1]) (by decide)
  have h287:=r287 p (abK c1) (yx c1)
  unfold aH.c at h287
  have hdup:=Z9 (l:=l) (k:=x) c1
  have herr:(!dO p||lZ l x p)=lZ l x p:=by rw[c1]; rfl
  generalize hnm:(decide (4<=p.kind)&&decide (p.kind<=6))=nm at h286 hdup
  refine W.find (l.take x) (fun q=>nm&&decide (q.name=p.name)) (fun j=>⟨[(1,.ptr 1 0),(3,.pv (.int .i64 x)),(4,.ptr 4 0),(5,.pv (.int .i64 j))],⟨[(1,[.pv (.aq v (l.map aH.c))]),(4,[.pv (.int .i64 p.kind),.pv (.str p.name),.pv (.int .i64 p.low),.pv (.int .i64 p.high),.pv (.int .i64 p.max),.pv (.aq 0 (p.syms.map Sym.c)),.pv (.aq 0 (p.bc.map Mem.c)),.pv (.int .i64 p.key),.pv (.int .i64 p.elem),.pv (.bool p.jO)])],[],[]⟩⟩) rfl (fun j q hj hjl hfd2=>?_) (fun hn=>?_)
  .have hjl':j<x/\j<l.length:=by rw[W8]at hjl; omega
   have hj':l[j]?=some q:=by
    rw[Wy,if_pos hjl'.1]at hj
    exact hj
   simp(disch:=omega)only[go_sem]
   refine Br.aJ (fun c=>?_) (fun c=>(c (by omega)).elim)
   simp(disch:=omega)only[go_sem,h286]
   refine Br.of (fun c2=>?_) (fun c2=>?_)
   .simp(disch:=omega)only[go_sem,c2,hj',aH.c]
    refine Br.aJ (fun c3=>?_) (fun c3=>?_)<;>simp(disch:=omega)only[go_sem,c3]
    .refine done 1 ?_ (by decide)
     rw[gR,herr,hdup,(hfd2 (by simp[c2,c3])).any]
     rfl
    .exact bB.of (by simp[c3]) rfl
   .simp(disch:=omega)only[go_sem,c2]
    exact bB.of (by simp[c2]) rfl
  .have hlx:(l.take x).length=x:=by rw[W8]; omega
   rw[hlx]
   have hd:(!dO p||lZ l x p)=false:=by rw[herr,hdup,hn.any]
   simp(disch:=omega)only[go_sem,h287]
   refine W.find (cT p) (dP l.length) (fun j=>⟨[(1,.ptr 1 0),(3,.pv (.int .i64 x)),(4,.ptr 4 0),(6,.pv (.aq 0 (ints (cT p)))),(7,.pv (.int .i64 j))],⟨[(1,[.pv (.aq v (l.map aH.c))]),(4,[.pv (.int .i64 p.kind),.pv (.str p.name),.pv (.int .i64 p.low),.pv (.int .i64 p.high),.pv (.int .i64 p.max),.pv (.aq 0 (p.syms.map Sym.c)),.pv (.aq 0 (p.bc.map Mem.c)),.pv (.int .i64 p.key),.pv (.int .i64 p.elem),.pv (.bool p.jO)])],[],[]⟩⟩) rfl (fun j u hu hj hfd2=>?_) (fun hn=>?_)
   .have d4:dP l.length u=true->gR l x p=4:=fun g=>by
     rw[gR,hd,(hfd2 g).any]
     rfl
    simp(disch:=omega)only[go_sem]
    refine Br.aJ (fun c=>?_) (fun c=>(c (by omega)).elim)
    simp(disch:=omega)only[go_sem,hu]
    refine Br.aJ (fun c4=>?_) (fun c4=>?_)<;>simp(disch:=omega)only[go_sem,c4]
    .exact done 4 (d4 (by simp[dP,c4])) (by decide)
    simp(disch:=omega)only[go_sem,hu]
    refine Br.aJ (fun c5=>?_) (fun c5=>?_)<;>simp(disch:=omega)only[go_sem,c5]
    .exact done 4 (d4 (by simp[dP,c5])) (by decide)
    .exact bB.of (by simp[dP,c4,c5]) rfl
   .have he2:gR l x p=if eX l p=true then 1 else 0:=by
     rw[gR,hd,hn.any]
     rfl
    simp(disch:=omega)only[go_sem]
    refine Br.aJ (fun c4=>?_) (fun c4=>?_)
    .have hku:=ou c4
     have hout:=WY.1 hn.any _ hku
     have hk0:0<=p.key/\p.key<l.length:=by
      simp[dP]at hout
      omega
     have hkk:=Wb (l:=l) (i:=p.key.toNat) (by omega)
     have hka:kf l p.key=(l[p.key.toNat]'(by omega)).kind:=by rw[kf,hkk]; rfl
     generalize l[p.key.toNat]'(by omega)=q at hkk hka
     have d8:decide (p.kind=8)=true:=by simp[c4]
     have hb:eX l p=!(decide (1<=q.kind)&&decide (q.kind<=4)):=by rw[eX,d8,hka]; rfl
     have hidx:jx 10 v (l.map aH.c) (some p.key)=some (V.pv (.ro v q.c)):=by
      rw[gB _ _ _ hk0.1,Wf,hkk]
      rfl
     have h288:=r288 q.kind
     generalize (decide (1<=q.kind)&&decide (q.kind<=4))=kk at hb h288
     unfold aH.c at hidx
     unfold aH.c
     simp(disch:=omega)only[go_sem,d8,hidx,h288]
     refine Br.of (fun c6=>?_) (fun c6=>?_)<;>simp(disch:=omega)only[go_sem,c6]
     .refine bB.of ?_ rfl
      rw[he2,hb,c6]
      rfl
     .refine done 1 ?_ (by decide)
      rw[he2,hb,c6]
      rfl
    .have d8:decide (p.kind=8)=false:=by simp[c4]
     have hb:eX l p=false:=by rw[eX,d8]; rfl
     simp(disch:=omega)only[go_sem,d8]
     refine bB.of ?_ rfl
     rw[he2,hb]
     rfl
 .rw[hn.find]at hG
  rw[WI]
  simp(disch:=omega)only[go_sem]
  rw[<- hG]
  rfl
theorem yy {l:List Int} {n:Nat} (hn:l.Nodup) (h:∀x∈l,0<=x/\x<n):l.length<=n:=by
 have:=List.Nodup.length_le_of_subset (l₂:=(List.range n).map Int.ofNat) hn (fun x hx=>by
  have:=h x hx
  rw[Wk]
  exact⟨x.toNat,List.mem_range.2 (by omega),by simp; omega⟩)
 simpa using this
section
variable {α:Type} [DecidableEq α]
def fw (o:List α) (x:α):List α:=if x∈o then o else o++[x]
theorem ov {o:List α} {x y:α}:y∈fw o x↔y∈o\/y=x:=by
 unfold fw
 split
 .rename_i h
  exact⟨.inl,fun h'=>h'.elim id (fun e=>e ▸ h)⟩
 .simp
theorem mX {o:List α} {x:α} (h:o.Nodup):(fw o x).Nodup:=by
 unfold fw
 split
 .exact h
 .rename_i hx
  rw[Xy]
  exact⟨h,by simp,fun a ha b hb=>by
   rw[Xj]at hb
   subst hb
   exact fun e=>hx (e ▸ ha)⟩
theorem sL (o:List α) (x:α):o<+:fw o x:=by
 unfold fw
 split
 .exact List.prefix_refl o
 .exact List.prefix_append o [x]
def sM (o:List α) (l:List α):List α:=l.foldl fw o
theorem il (o:List α) (x:α) (l:List α):sM o (x::l)=sM (fw o x) l:=rfl
theorem jG:∀{l o:List α} {y:α},y∈sM o l↔y∈o\/y∈l
 |[],o,y=>by simp[sM]
 |x::l,o,y=>by
  rw[il,jG,ov]
  simp[or_assoc]
theorem kg:∀{l o:List α},o.Nodup->(sM o l).Nodup
 |[],_,h=>h
 |x::l,o,h=>by
  rw[il]
  exact kg (mX h)
theorem sN:∀(o l:List α),o<+:sM o l
 |o,[]=>List.prefix_refl o
 |o,x::l=>by
  rw[il]
  exact(sL o x).trans (sN _ l)
def pO (nx:α->List α):Nat->Nat->List α->List α
 |0,_,o=>o
 |n+1,i,o=>match o[i]? with
  |none=>o
  |some v=>pO nx n (i+1) (sM o (nx v))
theorem yz {nx:α->List α} {n i:Nat} {o:List α} {v:α} (h:o[i]?=some v):pO nx (n+1) i o=pO nx n (i+1) (sM o (nx v)):=by
 simp only[pO,h]
theorem l6 {nx:α->List α}:∀{n i:Nat} {o:List α},o.length<=i->pO nx n i o=o
 |0,_,_,_=>rfl
 |n+1,i,o,h=>by simp only[pO,List.getElem?_eq_none h]
theorem wz {nx:α->List α}:∀(n i:Nat) (o:List α),o<+:pO nx n i o
 |0,_,o=>List.prefix_refl o
 |n+1,i,o=>by
  unfold pO
  split
  .exact List.prefix_refl o
  .exact(sN o _).trans (wz n _ _)
theorem uS {nx:α->List α}:∀(n i:Nat) {o:List α},o.Nodup->(pO nx n i o).Nodup
 |0,_,_,h=>h
 |n+1,i,o,h=>by
  unfold pO
  split
  .exact h
  .exact uS n _ (kg h)
inductive O8 (nx:α->List α) (s:α):α->Prop
 |refl:O8 nx s s
 |step {v x:α}:O8 nx s v->x∈nx v->O8 nx s x
theorem wA {nx:α->List α} {P:α->Prop} (hP:∀v,P v->∀x∈nx v,P x):∀(n i:Nat) {o:List α},(∀v∈o,P v)->∀v∈pO nx n i o,P v
 |0,_,_,h=>h
 |n+1,i,o,h=>by
  unfold pO
  split
  .exact h
  .rename_i v hv
   refine wA hP n _ fun x hx=>?_
   rcases jG.1 hx with hx|hx
   .exact h x hx
   .exact hP v (h v (Wa hv)) x hx
theorem yA {nx:α->List α} {N:Nat} {P:α->Prop} (hP:∀v,P v->∀x∈nx v,P x) (hN:∀o:List α,o.Nodup->(∀v∈o,P v)->o.length<=N):∀(n i:Nat) {o:List α},N<=n+i->o.Nodup->(∀v∈o,P v)->
  (∀j v,j<i->o[j]?=some v->∀x∈nx v,x∈o)->∀v∈pO nx n i o,∀x∈nx v,x∈pO nx n i o
 |0,i,o,hn,hd,ho,hc=>by
  intro v hv x hx
  obtain⟨j,hj,rfl⟩:=Xg hv
  have:=hN o hd ho
  have hlt:j<o.length:=hj
  exact hc j o[j] (by omega) (by simp) x hx
 |n+1,i,o,hn,hd,ho,hc=>by
  unfold pO
  split
  .rename_i hnone
   intro v hv x hx
   obtain⟨j,hj,rfl⟩:=Xg hv
   have:=List.getElem?_eq_none_iff.1 hnone
   exact hc j o[j] (by omega) (by simp) x hx
  .rename_i v hv
   refine yA hP hN n (i+1) (by omega) (kg hd) (fun x hx=>?_) (fun j w hj hw x hx=>?_)
   .rcases jG.1 hx with hx|hx
    .exact ho x hx
    .exact hP v (ho v (Wa hv)) x hx
   .rw[jG]
    have hi:i<o.length:=(V9.1 hv).1
    obtain⟨t,ht⟩:=sN o (nx v)
    rw[<- ht,We (by omega)]at hw
    rcases Wh j i with h|h
    .exact .inl (hc j w h hw x hx)
    .obtain rfl:j=i:=by omega
     rw[hv]at hw
     cases hw
     exact .inr hx
theorem Hv {nx:α->List α} {N:Nat} {P:α->Prop} {s:α} (hP:∀v,P v->∀x∈nx v,P x) (hN:∀o:List α,o.Nodup->(∀v∈o,P v)->o.length<=N) (hs:P s) {v:α}:v∈pO nx N 0 [s]↔O8 nx s v:=by
 constructor
 .exact wA (P:=O8 nx s) (fun v hv x hx=>.step hv hx) N 0 (by simp; exact .refl) v
 .have hc:=yA hP hN N 0 (o:=[s]) (by omega) (by simp) (by simpa using hs) (fun j v hj=>absurd hj (Nat.not_lt_zero _))
  have hp:s∈pO nx N 0 [s]:=(wz N 0 [s]).subset (by simp)
  intro h
  induction h with
  |refl=>exact hp
  |step _ hx ih=>exact hc _ ih _ hx
section
variable {β:Type} [DecidableEq β]
end
end
end Go.Pv
namespace Go.Pv
theorem ae8 (t:Nat) (l:List Int) (x:Int) (hl:l.length<=2^63 - 1):res A aA 118 [.aq t (ints l),.int .i64 x]=some [.int .i64 (bj (fun y=>decide (y=x)) l)]:=by
 refine aw a118 rfl rfl ?_
 simp only[F118,Rt]
 simp(disch:=omega)only[go_sem]
 refine W.find l (fun y=>decide (y=x)) (fun k=>⟨[(0,.pv (.aq t (ints l))),(1,.pv (.int .i64 x)),(7,.pv (.int .i64 l.length)),(8,.pv (.int .i64 k))],⟨[],[],[]⟩⟩) rfl (fun k y hy hk hfd=>?_) (fun hn=>?_)
 .simp(disch:=omega)only[go_sem]
  refine Br.aJ (fun c=>?_) (fun c=>(c (by omega)).elim)
  simp(disch:=omega)only[go_sem,hy]
  refine Br.aJ (fun g=>?_) (fun g=>?_)<;>simp(disch:=omega)only[go_sem]
  .rw[(hfd (by simp[g])).bj]
  .exact bB.of (by simpa using fun e=>g e.symm) rfl
 .simp(disch:=omega)only[go_sem]
  rw[hn.bj]
theorem adB {l:List Int} {x:Int}:0<=bj (fun y=>decide (y=x)) l↔x∈l:=by
 unfold bj
 cases h:l.findIdx? (fun y=>decide (y=x))with
 |none=>
  rw[Xe]at h
  constructor
  .intro hh
   exact absurd hh (by decide)
  .intro hx
   have:=h x hx
   simp at this
 |some k=>
  rw[Ww]at h
  obtain⟨hk,hp,_⟩:=h
  constructor
  .intro _
   have e:l[k]=x:=by simpa using hp
   rw[<- e]
   exact Xc hk
  .intro _
   exact Int.natCast_nonneg k
theorem ae9 (t:Nat) (l:List Int) (x:Int) (hl:l.length<=2^63 - 1):res A aA 110 [.aq t (ints l),.int .i64 x]=some [.bool (decide (x∈l))]:=by
 refine aw a110 rfl rfl ?_
 simp only[F110,Rs]
 have h118:=fun t=>ae8 t l x hl
 simp(disch:=omega)only[go_sem,h118]
 simp only[adB]
noncomputable def abL (l:List aH) (i:Int):Int:=if cS l≠0 then cS l else if dP l.length i=true then 4 else 0
theorem r291 (v:Nat) (l:List aH) (i:Int) (hl:l.length<=2147483648) (ho:∀t∈l,t.ok) (hs:∀t∈l,t.held):res A aA 291 [.agg [.aq v (l.map aH.c)],.int .i64 i]=some [.int .i64 (abL l i)]:=by
 refine aw a291 rfl rfl ?_
 simp only[F291,Rv]
 have h267:=fun v=>r267 v l hl ho hs
 unfold abL dP
 generalize cS l=e at h267
 simp(disch:=omega)only[go_sem,h267]
 refine Br.aJ (fun c=>?_) (fun c=>?_)<;>simp(disch:=omega)only[go_sem,c]
 .refine Br.aJ (fun c2=>?_) (fun c2=>?_)<;>simp(disch:=omega)only[go_sem,c2]
  .simp[c]
  .refine Br.aJ (fun c3=>?_) (fun c3=>?_)<;>simp(disch:=omega)only[go_sem,c3]
   .simp[c]
   .simp[c,c2]
 .simp[c]
def RS:aH:=⟨0,⟨#[]⟩,0,0,0,[],[],0,0,false⟩
def ji (l:List aH) (i:Int):aH:=(l[i.toNat]?).getD RS
structure RT (l:List aH):Prop where
 len:l.length<=32
 own:∀t∈l,dO t=true
 Np:∀t∈l,∀u∈cT t,0<=u/\u<l.length
theorem eZ {l:List aH} (h:cS l=0):RT l:=by
 unfold cS at h
 split at h
 .cases h
 .rename_i hl
  have hz:∀k,k<l.length->eY l k=0:=by
   cases hf:(List.range l.length).find? (fun k=>decide (eY l k≠0))with
   |none=>
    intro k hk
    have:=Xn.1 hf k (WJ.2 hk)
    simpa using this
   |some k=>
    rw[hf]at h
    have:=XH hf
    simp only[yw]at h
    simp[h]at this
  have hone:∀t∈l,dO t=true/\(cT t).any (dP l.length)=false:=by
   intro t ht
   obtain⟨k,hk⟩:=Wd.1 ht
   have:=hz k (V9.1 hk).1
   simp only[eY,hk,gR]at this
   split at this
   .cases this
   .rename_i h1
    split at this
    .cases this
    .rename_i h2
     simp only[Bool.or_eq_true,Bool.not_eq_true',not_or,Bool.not_eq_false]at h1
     exact⟨h1.1,by simpa using h2⟩
  refine⟨by omega,fun t ht=>(hone t ht).1,fun t ht u hu=>?_⟩
  have:=WY.1 (hone t ht).2 u hu
  simp[dP]at this
  omega
theorem acm {l:List aH} {i:Int} (h:abL l i=0):cS l=0/\0<=i/\i<l.length:=by
 unfold abL at h
 split at h
 .rename_i h1
  exact absurd h h1
 .rename_i h1
  split at h
  .cases h
  .rename_i h2
   simp only[dP,Bool.or_eq_true,decide_eq_true_eq,not_or]at h2
   exact⟨by omega,by omega,by omega⟩
theorem uT {l:List aH} {i:Int} (h0:0<=i) (h:i<l.length):l[i.toNat]?=some (ji l i):=by
 have:=Wb (l:=l) (i:=i.toNat) (by omega)
 rw[ji,this]
 rfl
theorem aeb {t:aH} (h:t.short):(cT t).length<=1048578:=by
 have:=h.bc
 unfold cT jF abG
 rw[Wz,Wz,Wg]
 split<;>split<;>simp<;>omega
theorem aes {v:Nat} {l:List aH} {i:Int} (h0:0<=i) (h:i<l.length):jx 10 v (l.map aH.c) (some i)=some (V.pv (.ro v (ji l i).c)):=by
 rw[gB _ _ _ h0,Wf,uT h0 h]
 rfl
def adC (id ax off len : Nat) (a : aL) : Option (V × Tn) :=
 if len = 0 then some (.dy [],{ ra := some id }) else (match a.body with
    | .inl rows => if a.k = 1 /\ off + len <= rows.length /\ len <= aN then (match ay sE ((rows.drop off).take len) with
     | some l => some (.dy [],{ ar := some (id,⟨ax,1,.inl (rows.take off ++ (dp Gz l).map (fun x => [.int .i64 x]) ++ rows.drop (off + len))⟩) })
     | none => none) else none
    | .inr _ => none)
@[go_sem] theorem O9 (h:aa):gL [.tl []] h=some (.dy [],{}):=rfl
@[go_sem] theorem aeM (h:aa) (id ax off len:Nat):gL [.own id ax off len] h=(aB h id ax).bind (adC id ax off len):=by
 simp only[gL]
 cases aB h id ax<;>rfl
theorem acE (l:List Int):ay sE (ints l)=some l:=by
 induction l with
 |nil=>rfl
 |cons x l ih=>
  show ay sE ([.int .i64 x]::ints l)=_
  simp only[ay,sE,ih]
@[go_sem] theorem aeC {id ax n:Nat} {l:List Int} (hn:n=l.length) (h0:n≠0) (hm:n<=2147483648):adC id ax 0 n ⟨ax,1,.inl (ints l)⟩=some (.dy [],{ ar:=some (id,⟨ax,1,.inl (ints (dp Gz l))⟩) }):=by
 subst hn
 have e1:(ints l).length=l.length:=bt l
 simp[adC,h0,e1,aN,hm,acE,List.take_of_length_le (Nat.le_of_eq e1),List.drop_eq_nil_of_le (Nat.le_of_eq e1)]
 rfl
@[go_sem] theorem Ao (h:aa):ca h true [.tl []]=some ([.aq 0 []],none):=rfl
@[go_sem] theorem Mn (h:aa) (x:Int):gL [.tl [[.int .i64 x]]] h=some (.dy [],{}):=rfl
theorem acP {n b:Nat} {o:List Int} {x:Int} (h:b<=o.length):tW n b (ints (o++[x]))=.own n (o.length - b) 0 (o.length+1):=by
 rw[<- lV,EF (by rw[bt]; exact h),bt]
theorem acQ {b:Nat} {o:List Int} {x:Int} (h:b<=o.length):CI 1 b (ints (o++[x]))=[⟨o.length - b,1,.inl (ints (o++[x]))⟩]:=by
 rw[<- lV,EG (by rw[bt]; exact h),bt]
theorem acF (l:List Int):(dp Gz l).length=l.length:=(dc Gz l).length_eq
def nxT (l:List aH) (u:Int):List Int:=cT (ji l u)
def inT (l:List aH) (u:Int):Prop:=0<=u/\u<l.length
def ab7 (l:List aH) (i:Int):List Int:=pO (nxT l) l.length 0 [i]
noncomputable def afS (l:List aH) (i:Int):List Int×Int:=if abL l i≠0 then ([],abL l i) else (dp Gz (ab7 l i),0)
theorem RT.next {l:List aH} (h:RT l):∀v,inT l v->∀x∈nxT l v,inT l x:=fun _v hv x hx=>
 h.Np _ (Wa (uT hv.1 hv.2)) x hx
theorem abI {l:List aH} (o:List Int) (hd:o.Nodup) (h:∀v∈o,inT l v):o.length<=l.length:=yy hd h
set_option maxHeartbeats 4000000 in
theorem r273 (v:Nat) (l:List aH) (i:Int) (hl:l.length<=2147483648) (ho:∀t∈l,t.ok) (hs:∀t∈l,t.held):res A aA 273 [.agg [.aq v (l.map aH.c)],.int .i64 i]=some [.aq 0 (ints (afS l i).1),.int .i64 (afS l i).2]:=by
 refine aw a273 rfl rfl ?_
 simp only[F273,Ru]
 have h291:=fun v=>r291 v l i hl ho hs
 unfold afS
 simp(disch:=omega)only[go_sem,h291]
 refine Br.aJ (fun c=>?_) (fun c=>?_)<;>simp(disch:=omega)only[go_sem,c]
 rotate_left
 .simp[c,ints]
 obtain⟨hv,hi0,hin⟩:=acm c
 have hs:∀t∈l,t.short:=fun t ht=>abK ((eZ hv).own t ht)
 rw[if_neg (by simp[c])]
 have hsane:=eZ hv
 have h32:=hsane.len
 refine W.loop (α:=Nat×List Int) (fun x=>⟨[(2,.ptr 2 0),(7,tW 0 1 (ints x.2)),(8,.pv (.int .i64 x.1))],⟨[(2,[.pv (.aq v (l.map aH.c))])],CI 1 1 (ints x.2),[]⟩⟩)
  (fun x=>x.2.Nodup/\(∀v∈x.2,inT l v)/\1<=x.2.length/\x.1<=x.2.length/\pO (nxT l) (l.length - x.1) x.1 x.2=ab7 l i) (fun x=>l.length - x.1) (0,[i]) rfl ⟨by simp,fun w hw=>(List.mem_singleton.1 hw) ▸ ⟨hi0,hin⟩,by simp,by simp,rfl⟩ fun x hx=>?_
 obtain⟨j,o⟩:=x
 obtain⟨hd,hin',h1,h2,hb⟩:=hx
 dsimp only at hd hin' h1 h2 hb
 have hlen:=abI o hd hin'
 simp(disch:=omega)only[go_sem]
 refine Br.aJ (fun h=>?_) (fun h=>?_)
 .have hw:=Wb (l:=o) (i:=j) (by omega)
  generalize o[j]'(by omega)=w at hw
  obtain⟨hw0,hw1⟩:=hin' w (Wa hw)
  have hget:=uT hw0 hw1
  have hidx:=aes (v:=v) hw0 hw1
  have h284:=r284 (ji l w) (hs _ (Wa hget))
  have hul:=aeb (hs _ (Wa hget))
  have hnx:nxT l w=cT (ji l w):=rfl
  have huses:=hsane.Np _ (Wa hget)
  generalize ji l w=p at *
  unfold aH.c at h284 hidx
  unfold aH.c at *
  have inner:∀(k:Nat) (o:List Int),(o.Nodup/\(∀v∈o,inT l v)/\1<=o.length/\j<o.length)->∀u∈cT p,(fw o u).Nodup/\(∀v∈fw o u,inT l v)/\1<=(fw o u).length/\j<(fw o u).length:=by
   rintro k o ⟨g1,g2,g3,g4⟩ u hu
   obtain⟨r,hr⟩:=sL o u
   refine⟨mX g1,fun x hx=>(ov.1 hx).elim (g2 x) (fun q=>q ▸ huses u hu),by rw[<- hr,Wz]; omega,by rw[<- hr,Wz]; omega⟩
  have hgl:=yq (b:=1) (rows:=ints o)
  have hVA:∃V0 A0,tW 0 1 (ints o)=V0/\CI 1 1 (ints o)=A0/\((V0=.tl (ints o)/\A0=[])\/∃m,(ints o).length=1+m+1/\V0=.own 0 m 0 (1+m+1)/\A0=[⟨m,1,.inl (ints o)⟩]):=by
   rcases hgl with hc|⟨m,hc⟩
   .exact⟨_,_,lW hc,lX hc,.inl ⟨rfl,rfl⟩⟩
   .exact⟨_,_,j9 hc,ka hc,.inr ⟨m,hc,rfl,rfl⟩⟩
  obtain⟨V0,A0,hV0,hA0,hcase⟩:=hVA
  rw[hV0,hA0]
  rcases hcase with⟨e1,e2⟩|⟨m,hc,e1,e2⟩
  all_goals rw[e1]at hV0 |-
  all_goals rw[e2]at hA0 |-
  all_goals try rw[bt]at hc
  all_goals simp(disch:=omega)only[go_sem,hw,hidx,h284]
  all_goals
   refine W.fold (cT p) fw o (fun k o=>⟨[(2,.ptr 2 0),(7,tW 0 1 (ints o)),(8,.pv (.int .i64 j)),(33,.pv (.aq 0 (ints (cT p)))),(34,.pv (.int .i64 (cT p).length)),(35,.pv (.int .i64 k))],⟨[(2,[.pv (.aq v (l.map aH.c))])],CI 1 1 (ints o),[]⟩⟩)
    (fun _ o=>o.Nodup/\(∀v∈o,inT l v)/\1<=o.length/\j<o.length) ?_ ⟨hd,hin',h1,by omega⟩ (fun k u o hu hk _ hI=>?_) (fun o hacc hI=>?_)
   .show _=St.mk _ _
    rw[hV0,hA0]
    rfl
   .have hI2:=inner k o hI u (Wa hu)
    obtain⟨g1,g2,g3,g4⟩:=hI
    have hlen:=abI o g1 g2
    have h110:=fun t=>ae9 t o u (by omega)
    simp(disch:=omega)only[go_sem]
    refine Br.aJ (fun c=>?_) (fun c=>(c (by omega)).elim)
    simp(disch:=omega)only[go_sem,hu,h110]
    refine Br.aJ (fun c2=>?_) (fun c2=>?_)<;>simp(disch:=omega)only[go_sem,c2]
    .refine cW.of ?_ hI2
     show _=St.mk _ _
     rw[fw,if_pos c2]
     rfl
    .rcases yq (b:=1) (rows:=ints o)with hc|⟨m,hc⟩
     .rw[lW hc,lX hc]
      rw[bt]at hc
      simp(disch:=omega)only[go_sem]
      refine cW.of ?_ hI2
      show _=St.mk _ _
      rw[fw,if_neg c2,acP g3,acQ g3,show o.length - 1=0 by omega]
      rfl
     .rw[j9 hc,ka hc]
      rw[bt]at hc
      simp(disch:=omega)only[go_sem]
      refine cW.of ?_ hI2
      show _=St.mk _ _
      rw[fw,if_neg c2,acP g3,acQ g3,show o.length - 1=m+1 by omega,hc]
      rfl
   .obtain⟨g1,g2,g3,g4⟩:=hI
    simp(disch:=omega)only[go_sem]
    refine⟨(j+1,o),⟨g1,g2,g3,g4,?_⟩,by dsimp only; omega,rfl⟩
    dsimp only
    rw[<- hb,hacc]
    obtain⟨q,hq⟩:∃q,l.length - j=q+1:=⟨l.length - j - 1,by omega⟩
    rw[hq,yz hw,hnx]
    congr 1
    omega
 .rw[l6 (by omega)]at hb
  rw[<- hb]
  rcases yq (b:=1) (rows:=ints o)with hc|⟨m,hc⟩
  .have hc1:o.length=1:=by rw[bt]at hc; omega
   rw[lW hc,lX hc]
   obtain⟨y,rfl⟩:=List.length_eq_one_iff.1 hc1
   simp(disch:=omega)only[go_sem,ints,List.map_cons,List.map_nil]
   rfl
  .rw[j9 hc,ka hc]
   rw[bt]at hc
   simp(disch:=omega)only[go_sem]
   rw[Wq (by rw[acF]; omega)]
theorem acR {l:List aH} {i:Int} (h:abL l i=0):(ab7 l i).Nodup/\∀v∈ab7 l i,inT l v:=by
 obtain⟨hv,h0,h1⟩:=acm h
 exact⟨uS _ _ (by simp),wA (eZ hv).next _ _ (fun v hv=>(List.mem_singleton.1 hv) ▸ ⟨h0,h1⟩)⟩
theorem adD {l:List aH} {i:Int}:(afS l i).1.length<=l.length:=by
 unfold afS
 split
 .exact WA _
 .rename_i h
  obtain⟨h1,h2⟩:=acR (l:=l) (i:=i) (by simpa using h)
  show (dp Gz (ab7 l i)).length<=_
  rw[acF]
  exact abI _ h1 h2
end Go.Pv
