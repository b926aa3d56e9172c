/-
 What the functions of the law give.
-/
import Derived.Test.YtpchfogcccagjaaGreatC2
set_option linter.unusedSimpArgs false
set_option linter.unusedVariables false
open List renaming getElem?_eq_some_iff → Pg, mem_of_getElem? → Ph, getElem?_eq_getElem → Pj, mem_iff_getElem? → Pk, getElem?_append_left → Pl, length_map → Pm, getElem?_map → Pn, length_append → Pp, getD_eq_getElem?_getD → Pq, length_take → Pt, getElem?_take → Pw, mem_map → PB, getElem?_set_ne → PD, take_add_one → PF, pairwise_cons → PH, getElem?_set_self → PJ, length_range → PL, mem_cons_self → PN, mem_cons → PO, mem_append_left → PR, findIdx?_eq_some_iff_getElem → PT, take_length → PU, ext_getElem? → PW, any_eq_false → P0, mem_cons_of_mem → P2, getElem_mem → P4, mem_append_right → P5, map_append → P6, length_set → Qa, length_replicate → Qc, any_map → Qe, getElem?_replicate → Qh, findIdx?_eq_none_iff → Qm, getElem_of_mem → Qq, foldl_cons → Qw, find?_eq_none → QB, nodup_append → QD, find?_some → QN
open Nat renaming lt_or_ge → Po, le_refl → Pu, add_assoc → P8
open Bool renaming eq_iff_iff → PY, false_and → Qt, eq_false_iff → QE
open Int renaming le_refl → QK
namespace Go.Pv
noncomputable def kindOk (t:aF):Bool:=
 if t.kind=2 then decide (t.low≤t.high)
 else if t.kind=3 then decide (0≤t.max)&&decide (t.max≤200)
 else if t.kind=4 then j0 t.syms
 else if t.kind=5 then ek true t.aM
 else if t.kind=6 then ek false t.aM
 else if t.kind=7 then decide (0≤t.max)&&decide (t.max≤50)
 else if t.kind=8 then decide (0≤t.max)&&decide (t.max≤50)
 else true
noncomputable def fM (t:aF):Bool:=(decide (1≤t.kind)&&decide (t.kind≤9))&&(eqv t (eH t)&&((!(decide (4≤t.kind)&&decide (t.kind≤6))||isName t.name)&&kindOk t))
structure aF.short (t:aF):Prop where
 syms:t.syms.length≤1048576
 aM:t.aM.length≤1048576
set_option maxHeartbeats 4000000 in
theorem r285 (t : aF) (ht : t.ok) (hs : t.short) : res A az 285 [.agg t.c] = some [.bool (fM t)] := by
  have h309 := r309 t
  have h295 := r295 t (eH t) ht (As ht)
  obtain ⟨⟨o0,o1,_⟩,⟨_,_⟩,oS,oM⟩ := ht
  have h310 := r310 t.name o1
  have h286 := r286 t.kind
  have h311 := fun u => r311 u t.syms (by have := hs.syms; omega) (fun p hp => (oS p hp).2)
  have h312 := fun u b => r312 u t.aM b (by have := hs.aM; omega) oM
  unfold fM
  generalize eqv t (eH t) = e at h295
  generalize eH t = p at h295 h309
  have hnm : ∀ b,e = false → (some [PV.bool false] : Option (List PV)) = some [PV.bool (b && (e && ((!(decide (4 ≤ t.kind) && decide (t.kind ≤ 6)) || isName t.name) && kindOk t)))] := fun b h => by
    rw [h,Qt,Bool.and_false]
  unfold aF.c at *
  refine aq a285 rfl rfl ?_
  simp only [F285]; try delta sS tT zZ nN gG bB pZ
  simp (disch := omega) only [go_sem]
  refine Br.aG (fun c1 => ?_) (fun c1 => ?_) <;> simp (disch := omega) only [go_sem,c1]
  · have : ¬ 1 ≤ t.kind := by omega
    simp [this]
  refine Br.aG (fun c2 => ?_) (fun c2 => ?_) <;> simp (disch := omega) only [go_sem,c2]
  · have : ¬ t.kind ≤ 9 := by omega
    simp [this]
  have k1 : decide (1 ≤ t.kind) = true := by simp; omega
  have k2 : decide (t.kind ≤ 9) = true := by simp; omega
  rw [k1,k2]
  simp (disch := omega) only [go_sem,h309,h295]
  refine Br.of (fun c3 => ?_) (fun c3 => ?_) <;> simp (disch := omega) only [go_sem,c3,h286]
  subst c3
  unfold kindOk
  by_cases hn : 4 ≤ t.kind ∧ t.kind ≤ 6
  · have c4 : (decide (4 ≤ t.kind) && decide (t.kind ≤ 6)) = true := by simp [hn]
    rw [c4]
    simp (disch := omega) only [go_sem,h310]
    refine Br.of (fun c5 => ?_) (fun c5 => ?_) <;> simp (disch := omega) only [go_sem,c5]
    have hk : t.kind = 4 ∨ t.kind = 5 ∨ t.kind = 6 := by omega
    rcases hk with hk | hk | hk
    all_goals simp (disch := omega) only [go_sem,hk,h311,h312]
    all_goals simp [c5]
  · have c4 : (decide (4 ≤ t.kind) && decide (t.kind ≤ 6)) = false := by
      rw [QE]
      simp
      omega
    rw [c4]
    simp (disch := omega) only [go_sem]
    have hk : t.kind = 1 ∨ t.kind = 2 ∨ t.kind = 3 ∨ t.kind = 7 ∨ t.kind = 8 ∨ t.kind = 9 := by omega
    rcases hk with hk | hk | hk | hk | hk | hk
    all_goals simp (disch := omega) only [go_sem,hk]
    all_goals first
      | (simp [hk]
         done)
      | (refine Br.aG (fun c6 => ?_) (fun c6 => ?_) <;> simp (disch := omega) only [go_sem,c6]
         all_goals simp [hk])
set_option maxHeartbeats 8000000 in
theorem r283 (t:aF) (ht:t.ok) (hs:t.short):res A az 283 [.agg t.c]=some [.bool (fM t)]:=by
 have h297:=fun z hz=>r297 z dW hz rq
 have h308:=r308 t ht (by have:=hs.aM; omega)
 have ht':=ht
 obtain⟨⟨o0,o1,o2,o3,o4,o5,o6⟩,⟨l1,l2⟩,oS,oM⟩:=ht
 have h306:=r306 t.name o1
 have h307:=fun u=>r307 u t.syms (by have:=hs.syms; omega) (fun p hp=>(oS p hp).2)
 obtain⟨k,a2,a3,a4,a5,a6,a7,a8,a9,a10⟩:=t
 unfold fM eH kindOk
 unfold dW aF.c at *
 dsimp only at *
 refine aq a283 rfl rfl ?_
 simp only[F283]; try delta sS tT zZ nN gG bB pZ
 simp(disch:=omega)only[go_sem]
 have no:∀{z:Bool},z=false→(some [PV.bool false]:Option (List PV))=some [PV.bool z]:=fun h=>by rw[h]
 have ze:∀{x y z p:aF},(x=y↔z=p)→eqv x y=eqv z p:=fun {x y z p} h=>by
  rw[PY,cz,cz]
  exact h
 have okz:∀(k:Int) (a2:ByteArray) (a3 a4 a5:Int) (a6:List Sym) (a7:List Mem) (a8 a9:Int) (a10:Bool),fZ k→bh a2→fZ a3→fZ a4→fZ a5→cu a6→cu a7→(∀s∈a6,s.ok)→(∀m∈a7,m.ok)→fZ a8→fZ a9→(⟨k,a2,a3,a4,a5,a6,a7,a8,a9,a10⟩:aF).ok:=
  fun k a2 a3 a4 a5 a6 a7 a8 a9 a10 h1 h2 h3 h4 h5 h6 h7 h8 h9 h10 h11=>⟨⟨h1,h2,h3,h4,h5,h10,h11⟩,⟨h6,h7⟩,h8,h9⟩
 have i0:fZ 0:=by simp[fZ]
 have s0:bh ⟨#[]⟩:=by simp[bh]; exact Nat.zero_le _
 have y0:cu ([]:List Sym):=by simp[cu]
 have m0:cu ([]:List Mem):=by simp[cu]
 have y1:∀s∈([]:List Sym),s.ok:=fun s hs=>(List.not_mem_nil hs).elim
 have m1:∀s∈([]:List Mem),s.ok:=fun s hs=>(List.not_mem_nil hs).elim
 rcases rp k with rfl|rfl|rfl|rfl|rfl|rfl|rfl|rfl|⟨n1,n2,n3,n4,n5,n6,n7,n8⟩
 ·have hz:=h297 ⟨0,a2,a3,a4,a5,a6,a7,a8,a9,a10⟩ (okz _ _ _ _ _ _ _ _ _ _ i0 o1 o2 o3 o4 l1 l2 oS oM o5 o6)
  simp only[List.map_nil]at hz
  simp(disch:=omega)only[go_sem,hz]
  rw[ze (z:=⟨1,a2,a3,a4,a5,a6,a7,a8,a9,a10⟩) (p:=⟨1,⟨#[]⟩,0,0,0,[],[],0,0,false⟩) (by simp)]
 ·have hz:=h297 ⟨0,a2,0,0,a5,a6,a7,a8,a9,a10⟩ (okz _ _ _ _ _ _ _ _ _ _ i0 o1 i0 i0 o4 l1 l2 oS oM o5 o6)
  simp only[List.map_nil]at hz
  simp(disch:=omega)only[go_sem]
  refine Br.aG (fun c=>?_) (fun c=>?_)<;>simp(disch:=omega)only[go_sem,c,hz]
  ·rw[ze (z:=⟨2,a2,a3,a4,a5,a6,a7,a8,a9,a10⟩) (p:=⟨2,⟨#[]⟩,a3,a4,0,[],[],0,0,false⟩) (by simp)]
 ·have hz:=h297 ⟨0,a2,a3,a4,0,a6,a7,a8,a9,a10⟩ (okz _ _ _ _ _ _ _ _ _ _ i0 o1 o2 o3 i0 l1 l2 oS oM o5 o6)
  simp only[List.map_nil]at hz
  simp(disch:=omega)only[go_sem]
  refine Br.aG (fun c=>?_) (fun c=>?_)<;>simp(disch:=omega)only[go_sem,c]
  ·refine Br.aG (fun c2=>?_) (fun c2=>?_)<;>simp(disch:=omega)only[go_sem,c2,hz]
   ·rw[ze (z:=⟨3,a2,a3,a4,a5,a6,a7,a8,a9,a10⟩) (p:=⟨3,⟨#[]⟩,0,0,a5,[],[],0,0,false⟩) (by simp)]
    simp[c]
 ·have hz:=h297 ⟨0,⟨#[]⟩,a3,a4,a5,[],a7,a8,a9,false⟩ (okz _ _ _ _ _ _ _ _ _ _ i0 s0 o2 o3 o4 y0 l2 y1 oM o5 o6)
  simp only[List.map_nil]at hz
  simp(disch:=omega)only[go_sem,h306]
  refine Br.of (fun c=>?_) (fun c=>?_)<;>simp(disch:=omega)only[go_sem,c,h307]
  ·refine Br.of (fun c2=>?_) (fun c2=>?_)<;>simp(disch:=omega)only[go_sem,c2,hz]
   ·rw[ze (z:=⟨4,a2,a3,a4,a5,a6,a7,a8,a9,a10⟩) (p:=⟨4,a2,0,0,0,a6,[],0,0,a10⟩) (by simp)]
    simp[c]
 ·have hz:=h297 ⟨0,⟨#[]⟩,a3,a4,a5,a6,[],a8,a9,a10⟩ (okz _ _ _ _ _ _ _ _ _ _ i0 s0 o2 o3 o4 l1 m0 oS m1 o5 o6)
  simp only[List.map_nil]at hz
  have h308:=h308 (by simp)
  simp(disch:=omega)only[go_sem,h306]
  refine Br.of (fun c=>?_) (fun c=>?_)<;>simp(disch:=omega)only[go_sem,c,h308]
  ·cases a10 with
   |false=>
    simp(disch:=omega)only[go_sem]
    refine Br.of (fun c2=>?_) (fun c2=>?_)<;>simp(disch:=omega)only[go_sem,c2,hz]
    rw[ze (z:=⟨5,a2,a3,a4,a5,a6,a7,a8,a9,false⟩) (p:=⟨5,a2,0,0,0,[],a7,0,0,false⟩) (by simp)]
    have c2':ek true a7=true:=by simpa using c2
    simp[c]
   |true=>
    simp(disch:=omega)only[go_sem]
    refine Br.of (fun c2=>?_) (fun c2=>?_)<;>simp(disch:=omega)only[go_sem,c2,hz]
    rw[ze (z:=⟨5,a2,a3,a4,a5,a6,a7,a8,a9,true⟩) (p:=⟨5,a2,0,0,0,[],a7,0,0,false⟩) (by simp)]
    have c2':ek true a7=true:=by simpa using c2
    simp[c]
  ·cases a10<;>simp(disch:=omega)only[go_sem]<;>exact no (by simp[c])
 ·have hz:=h297 ⟨0,⟨#[]⟩,a3,a4,a5,a6,[],a8,a9,false⟩ (okz _ _ _ _ _ _ _ _ _ _ i0 s0 o2 o3 o4 l1 m0 oS m1 o5 o6)
  simp only[List.map_nil]at hz
  have h308:=h308 (by simp)
  simp(disch:=omega)only[go_sem,h306]
  refine Br.of (fun c=>?_) (fun c=>?_)<;>simp(disch:=omega)only[go_sem,c,h308]
  ·cases a10 with
   |false=>
    simp(disch:=omega)only[go_sem]
    refine Br.of (fun c2=>?_) (fun c2=>?_)<;>simp(disch:=omega)only[go_sem,c2,hz]
    rw[ze (z:=⟨6,a2,a3,a4,a5,a6,a7,a8,a9,false⟩) (p:=⟨6,a2,0,0,0,[],a7,0,0,false⟩) (by simp)]
    have c2':ek false a7=true:=by simpa using c2
    simp[c]
   |true=>
    simp(disch:=omega)only[go_sem]
    refine Br.of (fun c2=>?_) (fun c2=>?_)<;>simp(disch:=omega)only[go_sem,c2,hz]
    rw[ze (z:=⟨6,a2,a3,a4,a5,a6,a7,a8,a9,true⟩) (p:=⟨6,a2,0,0,0,[],a7,0,0,true⟩) (by simp)]
    have c2':ek false a7=true:=by simpa using c2
    simp[c]
  ·cases a10<;>simp(disch:=omega)only[go_sem]<;>exact no (by simp[c])
 ·have hz:=h297 ⟨0,a2,a3,a4,0,a6,a7,a8,0,a10⟩ (okz _ _ _ _ _ _ _ _ _ _ i0 o1 o2 o3 i0 l1 l2 oS oM o5 i0)
  simp only[List.map_nil]at hz
  simp(disch:=omega)only[go_sem]
  refine Br.aG (fun c=>?_) (fun c=>?_)<;>simp(disch:=omega)only[go_sem,c]
  ·refine Br.aG (fun c2=>?_) (fun c2=>?_)<;>simp(disch:=omega)only[go_sem,c2,hz]
   ·rw[ze (z:=⟨7,a2,a3,a4,a5,a6,a7,a8,a9,a10⟩) (p:=⟨7,⟨#[]⟩,0,0,a5,[],[],0,a9,false⟩) (by simp)]
    simp[c]
 ·have hz:=h297 ⟨0,a2,a3,a4,0,a6,a7,0,0,a10⟩ (okz _ _ _ _ _ _ _ _ _ _ i0 o1 o2 o3 i0 l1 l2 oS oM i0 i0)
  simp only[List.map_nil]at hz
  simp(disch:=omega)only[go_sem]
  refine Br.aG (fun c=>?_) (fun c=>?_)<;>simp(disch:=omega)only[go_sem,c]
  ·refine Br.aG (fun c2=>?_) (fun c2=>?_)<;>simp(disch:=omega)only[go_sem,c2,hz]
   ·rw[ze (z:=⟨8,a2,a3,a4,a5,a6,a7,a8,a9,a10⟩) (p:=⟨8,⟨#[]⟩,0,0,a5,[],[],a8,a9,false⟩) (by simp)]
    simp[c]
 ·have hz:=h297 ⟨0,a2,a3,a4,a5,a6,a7,a8,0,a10⟩ (okz _ _ _ _ _ _ _ _ _ _ i0 o1 o2 o3 o4 l1 l2 oS oM o5 i0)
  simp only[List.map_nil]at hz
  simp(disch:=omega)only[go_sem,n1,n2,n3,n4,n5,n6,n7,n8]
  refine Br.aG (fun c=>?_) (fun c=>?_)<;>simp(disch:=omega)only[go_sem,c,hz]
  ·rw[ze (z:=⟨k,a2,a3,a4,a5,a6,a7,a8,a9,a10⟩) (p:=⟨k,⟨#[]⟩,0,0,0,[],[],0,a9,false⟩) (by simp)]
   simp[c]
  ·refine no ?_
   have:(decide (1≤k)&&decide (k≤9))=false:=by
    rw[QE]
    simp
    omega
   rw[this,Qt]
end Go.Pv
namespace Go.Pv
def rr (t:aF):List Int:=if t.kind=8 then [t.key] else []
def kW (t:aF):List Int:=if 7≤t.kind then [t.elem] else []
def bV (t:aF):List Int:=t.aM.map (·.type)++rr t++kW t
set_option maxHeartbeats 2000000 in
theorem r284 (t:aF) (hs:t.short):res A az 284 [.agg t.c]=some [.ae 0 (ints (bV t))]:=by
 have hl:=hs.aM
 obtain⟨k,a2,a3,a4,a5,a6,l,a8,a9,a10⟩:=t
 unfold bV rr kW aF.c
 dsimp only at *
 refine aq a284 rfl rfl ?_
 simp only[F284]; try delta sS tT zZ nN gG bB pZ
 simp(disch:=omega)only[go_sem]
 refine W.dD l.length (fun j=>⟨[(1,.ptr 1 0),(3,eu 0 (ints ((l.take j).map (·.type)))),(7,.pv (.ae 0 (l.map Mem.c))),(8,.pv (.int .i64 l.length)),(9,.pv (.int .i64 j))],⟨[(1,[.pv (.int .i64 k),.pv (.str a2),.pv (.int .i64 a3),.pv (.int .i64 a4),.pv (.int .i64 a5),.pv (.ae 0 (a6.map Sym.c)),.pv (.ae 0 (l.map Mem.c)),.pv (.int .i64 a8),.pv (.int .i64 a9),.pv (.bool a10)])],dY 1 (ints ((l.take j).map (·.type))),[]⟩⟩) (fun _=>True) rfl trivial (fun j hj _=>?_)
 rcases Po j l.length with hlt|hge
 ·have hp:=Pj hlt
  generalize l[j]=p at hp
  have t1:(l.take (j+1)).map (·.type)=(l.take j).map (·.type)++[p.type]:=by rw[PF,hp,P6]; rfl
  have l1:((l.take j).map (·.type)).length=j:=by simp; omega
  generalize (l.take j).map (·.type)=u at t1 l1
  simp(disch:=omega)only[go_sem]
  refine Br.aG (fun c=>?_) (fun c=>(c (by omega)).elim)
  simp(disch:=omega)only[go_sem,hp,Mem.c]
  refine .of (by omega) ?_ trivial
  rw[t1]
  rfl
 ·obtain rfl:j=l.length:=by omega
  rw[PU]
  have l1:(l.map (·.type)).length=l.length:=by simp
  generalize l.map (·.type)=u at l1
  simp(disch:=omega)only[go_sem]
  refine Br.aG (fun c=>?_) (fun c=>?_)<;>simp(disch:=omega)only[go_sem,c]
  ·have l2:(u++[a8]).length=l.length+1:=by simp[l1]
   have h7:7≤k:=by omega
   simp(disch:=omega)only[go_sem]
   simp[c]
  ·refine Br.aG (fun c2=>?_) (fun c2=>?_)<;>simp(disch:=omega)only[go_sem,c2]
   ·simp[c]
   ·simp[c]
set_option maxHeartbeats 2000000 in
theorem r287 (t:aF) (hs:t.short) (h9:t.kind≤9):res A az 287 [.agg t.c]=some [.ae 0 (ints (bV t))]:=by
 have hl:=hs.aM
 obtain⟨k,a2,a3,a4,a5,a6,l,a8,a9,a10⟩:=t
 unfold bV rr kW aF.c
 dsimp only at *
 refine aq a287 rfl rfl ?_
 simp only[F287]; try delta sS tT zZ nN gG bB pZ
 simp(disch:=omega)only[go_sem]
 refine W.dD l.length (fun j=>⟨[(1,.ptr 1 0),(3,eu 0 (ints ((l.take j).map (·.type)))),(4,.pv (.int .i64 j))],⟨[(1,[.pv (.int .i64 k),.pv (.str a2),.pv (.int .i64 a3),.pv (.int .i64 a4),.pv (.int .i64 a5),.pv (.ae 0 (a6.map Sym.c)),.pv (.ae 0 (l.map Mem.c)),.pv (.int .i64 a8),.pv (.int .i64 a9),.pv (.bool a10)])],dY 1 (ints ((l.take j).map (·.type))),[]⟩⟩) (fun _=>True) rfl trivial (fun j hj _=>?_)
 rcases Po j l.length with hlt|hge
 ·have hp:=Pj hlt
  generalize l[j]=p at hp
  have t1:(l.take (j+1)).map (·.type)=(l.take j).map (·.type)++[p.type]:=by rw[PF,hp,P6]; rfl
  have l1:((l.take j).map (·.type)).length=j:=by simp; omega
  generalize (l.take j).map (·.type)=u at t1 l1
  simp(disch:=omega)only[go_sem]
  refine Br.aG (fun c=>?_) (fun c=>(c (by omega)).elim)
  simp(disch:=omega)only[go_sem,hp,Mem.c]
  refine .of (by omega) ?_ trivial
  rw[t1]
  rfl
 ·obtain rfl:j=l.length:=by omega
  rw[PU]
  have l1:(l.map (·.type)).length=l.length:=by simp
  generalize l.map (·.type)=u at l1
  have l2:(u++[a8]).length=l.length+1:=by simp[l1]
  simp(disch:=omega)only[go_sem]
  refine Br.aG (fun c=>?_) (fun c=>?_)<;>simp(disch:=omega)only[go_sem,c]
  refine Br.aG (fun c2=>?_) (fun c2=>?_)<;>simp(disch:=omega)only[go_sem,c,c2]
  refine Br.aG (fun c3=>?_) (fun c3=>?_)<;>simp(disch:=omega)only[go_sem,c3]
  have h7:¬7≤k:=by omega
  simp[c,h7]
theorem r288 (k:Int):res A az 288 [.int .i64 k]=some [.bool (decide (1≤k)&&decide (k≤4))]:=by
 refine aq a288 rfl rfl ?_
 simp only[F288]; try delta sS tT zZ nN gG bB pZ
 simp(disch:=omega)only[go_sem]
 refine Br.aG (fun c=>?_) (fun c=>?_)<;>simp(disch:=omega)only[go_sem,c]
end Go.Pv
namespace Go.Pv
def j3 (l:List aF) (i:Int):Int:=((l[i.toNat]?).map (·.kind)).getD 0
def gV (l:List aF) (k:Nat) (t:aF):Bool:=!decide (t.name=⟨#[]⟩)&&cp ((l.take k).map (·.name)) t.name
def cZ (n:Nat) (u:Int):Bool:=decide (u<0)||decide ((n:Int)≤u)
def dT (l:List aF) (t:aF):Bool:=decide (t.kind=8)&&!(decide (1≤j3 l t.key)&&decide (j3 l t.key≤4))
noncomputable def eo (l:List aF) (k:Nat) (t:aF):Int:=if (!fM t||gV l k t)=true then 1 else if (bV t).any (cZ l.length)=true then 4 else if dT l t=true then 1 else 0
noncomputable def eC (l:List aF) (k:Nat):Int:=match l[k]? with
 |some t=>eo l k t
 |none=>0
noncomputable def ru (l:List aF) (o:Option Nat):Int:=match o with
 |some k=>eC l k
 |none=>0
noncomputable def bN (l:List aF):Int:=if 32<l.length then 3 else ru l ((List.range l.length).find? fun k=>decide (eC l k≠0))
def nI (l:List aF) (k:Nat):List ByteArray:=((l.take k).map (·.name)).foldl oJ []
theorem oN:∀(m s:List ByteArray) (x:ByteArray),x∈m.foldl oJ s↔x∈s∨x∈m
 |[],s,x=>by simp
 |y::m,s,x=>by
  rw[Qw,oN m (oJ s y) x,Cr,PO]
  constructor
  ·rintro ((h|h)|h)
   ·exact .inl h
   ·exact .inr (.inl h)
   ·exact .inr (.inr h)
  ·rintro (h|h|h)
   ·exact .inl (.inl h)
   ·exact .inl (.inr h)
   ·exact .inr h
theorem tA (l:List aF) (k:Nat) (x:ByteArray):cp (nI l k) x=cp ((l.take k).map (·.name)) x:=by
 rw[PY,iB,iB,nI,oN]
 simp
theorem yl {l:List aF} {k:Nat} {t:aF} (h:l[k]?=some t):oJ (nI l k) t.name=nI l (k+1):=by
 unfold nI
 rw[PF,h,P6,List.foldl_append]
 rfl
theorem jt {t:aF} (h:t.kind=8):t.key∈bV t:=by simp[bV,rr,h]
set_option maxHeartbeats 4000000 in
theorem r267 (v:Nat) (l:List aF) (hl:l.length≤2147483648) (ho:∀t∈l,t.ok) (hs:∀t∈l,t.short):res A az 267 [.agg [.ae v (l.map aF.c)]]=some [.int .i64 (bN l)]:=by
 refine aq a267 rfl rfl ?_
 simp only[F267]; try delta sS tT zZ nN gG bB pZ
 simp(disch:=omega)only[go_sem]
 refine Br.aG (fun c0=>?_) (fun c0=>?_)<;>simp(disch:=omega)only[go_sem,c0]
 ·have:32<l.length:=by omega
  simp[bN,this]
 have h32:¬32<l.length:=by omega
 unfold bN
 rw[if_neg h32]
 obtain⟨G,hG⟩:∃G,ru l ((List.range l.length).find? fun k=>decide (eC l k≠0))=G:=⟨_,rfl⟩
 rw[hG]
 refine W.find (List.range l.length) (fun k=>decide (eC l k≠0)) (fun k=>⟨[(1,.ptr 1 0),(3,.map 0),(14,.pv (.ae v (l.map aF.c))),(15,.pv (.int .i64 l.length)),(16,.pv (.int .i64 k))],⟨[(1,[.pv (.ae v (l.map aF.c))])],[],[iA (nI l k)]⟩⟩) rfl (fun k x hx hk hfd=>?_) (fun hn=>?_)
 ·obtain⟨rfl,hk⟩:=cV hx
  have hp:=Pj hk
  generalize l[x]=p at hp
  have hm:=Ph hp
  have h283:=r283 p (ho p hm) (hs p hm)
  have h284:=r284 p (hs p hm)
  have he:eC l x=eo l x p:=by simp only[eC,hp]
  have hnx:=yl hp
  have hsn:=tA l x p.name
  have done:∀e:Int,eo l x p=e→e≠0→(some [PV.int .i64 e]:Option (List PV))=some [.int .i64 G]:=fun e h1 h2=>by
   rw[← hG,(hfd (by rw[he,h1]; simpa using h2)).find,ru,he,h1]
  rw[he]
  have hul:(bV p).length≤1048578:=by
   have:=(hs p hm).aM
   unfold bV rr kW
   rw[Pp,Pp,Pm]
   split<;>split<;>simp<;>omega
  unfold aF.c at h283 h284
  simp(disch:=omega)only[go_sem]
  refine Br.aG (fun c=>?_) (fun c=>(c (by omega)).elim)
  simp(disch:=omega)only[go_sem,hp,aF.c,h283]
  refine Br.of (fun c1=>?_) (fun c1=>?_)<;>simp(disch:=omega)only[go_sem,c1]
  rotate_left
  ·exact done 1 (by simp[eo,c1]) (by decide)
  have nodup:gV l x p=false→(!fM p||gV l x p)=false:=fun h=>by rw[c1,h]; rfl
  have dup:gV l x p=(!decide (p.name=⟨#[]⟩)&&cp (nI l x) p.name):=by rw[tA]; rfl
  have hown:(fM p)=true:=c1
  refine Br.aG (fun c2=>?_) (fun c2=>?_)
  ·have d2:decide (p.name=⟨#[]⟩)=true:=by simp[c2]
   rw[d2]at dup
   have hd:=nodup (by rw[dup]; rfl)
   clear c2
   simp(disch:=omega)only[go_sem,d2,h284,hnx]
   refine W.find (bV p) (cZ l.length) (fun j=>⟨[(1,.ptr 1 0),(3,.map 0),(5,.ptr 5 0),(14,.pv (.ae v (l.map aF.c))),(15,.pv (.int .i64 l.length)),(16,.pv (.int .i64 x)),(38,.pv (.ae 0 (ints (bV p)))),(39,.pv (.int .i64 (bV p).length)),(40,.pv (.int .i64 j))],⟨[(1,[.pv (.ae v (l.map aF.c))]),(5,[.pv (.int .i64 p.kind),.pv (.str p.name),.pv (.int .i64 p.low),.pv (.int .i64 p.high),.pv (.int .i64 p.max),.pv (.ae 0 (p.syms.map Sym.c)),.pv (.ae 0 (p.aM.map Mem.c)),.pv (.int .i64 p.key),.pv (.int .i64 p.elem),.pv (.bool p.pc)])],[],[iA (nI l (x+1))]⟩⟩) rfl (fun j u hu hj hfd2=>?_) (fun hn=>?_)
   ·have d4:cZ l.length u=true→eo l x p=4:=fun g=>by
     rw[eo,hd,(hfd2 g).any]
     rfl
    simp(disch:=omega)only[go_sem]
    refine Br.aG (fun c=>?_) (fun c=>(c (by omega)).elim)
    simp(disch:=omega)only[go_sem,hu]
    refine Br.aG (fun c4=>?_) (fun c4=>?_)<;>simp(disch:=omega)only[go_sem,c4]
    ·exact done 4 (d4 (by simp[cZ,c4])) (by decide)
    refine Br.aG (fun c5=>?_) (fun c5=>?_)<;>simp(disch:=omega)only[go_sem,c5]
    ·exact done 4 (d4 (by simp[cZ,c5])) (by decide)
    ·exact aR.of (by simp[cZ,c4,c5]) rfl
   ·have he2:eo l x p=if dT l p=true then 1 else 0:=by
     rw[eo,hd,hn.any]
     rfl
    simp(disch:=omega)only[go_sem]
    refine Br.aG (fun c4=>?_) (fun c4=>?_)
    ·have hku:=jt c4
     have hout:=P0.1 hn.any _ hku
     have hk0:0≤p.key∧p.key<l.length:=by
      simp[cZ]at hout
      omega
     have hkk:=Pj (l:=l) (i:=p.key.toNat) (by omega)
     have hka:j3 l p.key=(l[p.key.toNat]'(by omega)).kind:=by rw[j3,hkk]; rfl
     generalize l[p.key.toNat]'(by omega)=q at hkk hka
     have d8:decide (p.kind=8)=true:=by simp[c4]
     have hb:dT l p=!(decide (1≤q.kind)&&decide (q.kind≤4)):=by rw[dT,d8,hka]; rfl
     have hidx:kl 10 v (l.map aF.c) (some p.key)=some (V.pv (.ro v q.c)):=by
      rw[gl _ _ _ hk0.1,Pn,hkk]
      rfl
     unfold aF.c at hidx
     unfold aF.c
     simp(disch:=omega)only[go_sem,d8,hidx]
     refine Br.aG (fun c6=>?_) (fun c6=>?_)<;>simp(disch:=omega)only[go_sem,c6]
     ·refine done 1 ?_ (by decide)
      have:¬1≤q.kind:=by omega
      rw[he2,hb]
      simp[this]
     simp(disch:=omega)only[go_sem,hidx]
     refine Br.aG (fun c7=>?_) (fun c7=>?_)<;>simp(disch:=omega)only[go_sem,c7]
     ·refine done 1 ?_ (by decide)
      have:¬q.kind≤4:=by omega
      rw[he2,hb]
      simp[this]
     ·refine aR.of ?_ rfl
      have h1:1≤q.kind:=by omega
      have h2:q.kind≤4:=by omega
      rw[he2,hb]
      simp[h1,h2]
    ·have d8:decide (p.kind=8)=false:=by simp[c4]
     have hb:dT l p=false:=by rw[dT,d8]; rfl
     simp(disch:=omega)only[go_sem,d8]
     refine aR.of ?_ rfl
     rw[he2,hb]
     rfl
  ·have d2:decide (p.name=⟨#[]⟩)=false:=by simp[c2]
   rw[d2]at dup
   simp(disch:=omega)only[go_sem,d2]
   refine Br.of (fun c3=>?_) (fun c3=>?_)<;>simp(disch:=omega)only[go_sem,c3,h284,hnx]
   ·refine done 1 ?_ (by decide)
    rw[eo,dup,c3]
    simp
   have hd:=nodup (by rw[dup,c3]; rfl)
   refine W.find (bV p) (cZ l.length) (fun j=>⟨[(1,.ptr 1 0),(3,.map 0),(5,.ptr 5 0),(14,.pv (.ae v (l.map aF.c))),(15,.pv (.int .i64 l.length)),(16,.pv (.int .i64 x)),(38,.pv (.ae 0 (ints (bV p)))),(39,.pv (.int .i64 (bV p).length)),(40,.pv (.int .i64 j))],⟨[(1,[.pv (.ae v (l.map aF.c))]),(5,[.pv (.int .i64 p.kind),.pv (.str p.name),.pv (.int .i64 p.low),.pv (.int .i64 p.high),.pv (.int .i64 p.max),.pv (.ae 0 (p.syms.map Sym.c)),.pv (.ae 0 (p.aM.map Mem.c)),.pv (.int .i64 p.key),.pv (.int .i64 p.elem),.pv (.bool p.pc)])],[],[iA (nI l (x+1))]⟩⟩) rfl (fun j u hu hj hfd2=>?_) (fun hn=>?_)
   ·have d4:cZ l.length u=true→eo l x p=4:=fun g=>by
     rw[eo,hd,(hfd2 g).any]
     rfl
    simp(disch:=omega)only[go_sem]
    refine Br.aG (fun c=>?_) (fun c=>(c (by omega)).elim)
    simp(disch:=omega)only[go_sem,hu]
    refine Br.aG (fun c4=>?_) (fun c4=>?_)<;>simp(disch:=omega)only[go_sem,c4]
    ·exact done 4 (d4 (by simp[cZ,c4])) (by decide)
    refine Br.aG (fun c5=>?_) (fun c5=>?_)<;>simp(disch:=omega)only[go_sem,c5]
    ·exact done 4 (d4 (by simp[cZ,c5])) (by decide)
    ·exact aR.of (by simp[cZ,c4,c5]) rfl
   ·have he2:eo l x p=if dT l p=true then 1 else 0:=by
     rw[eo,hd,hn.any]
     rfl
    simp(disch:=omega)only[go_sem]
    refine Br.aG (fun c4=>?_) (fun c4=>?_)
    ·have hku:=jt c4
     have hout:=P0.1 hn.any _ hku
     have hk0:0≤p.key∧p.key<l.length:=by
      simp[cZ]at hout
      omega
     have hkk:=Pj (l:=l) (i:=p.key.toNat) (by omega)
     have hka:j3 l p.key=(l[p.key.toNat]'(by omega)).kind:=by rw[j3,hkk]; rfl
     generalize l[p.key.toNat]'(by omega)=q at hkk hka
     have d8:decide (p.kind=8)=true:=by simp[c4]
     have hb:dT l p=!(decide (1≤q.kind)&&decide (q.kind≤4)):=by rw[dT,d8,hka]; rfl
     have hidx:kl 10 v (l.map aF.c) (some p.key)=some (V.pv (.ro v q.c)):=by
      rw[gl _ _ _ hk0.1,Pn,hkk]
      rfl
     unfold aF.c at hidx
     unfold aF.c
     simp(disch:=omega)only[go_sem,d8,hidx]
     refine Br.aG (fun c6=>?_) (fun c6=>?_)<;>simp(disch:=omega)only[go_sem,c6]
     ·refine done 1 ?_ (by decide)
      have:¬1≤q.kind:=by omega
      rw[he2,hb]
      simp[this]
     simp(disch:=omega)only[go_sem,hidx]
     refine Br.aG (fun c7=>?_) (fun c7=>?_)<;>simp(disch:=omega)only[go_sem,c7]
     ·refine done 1 ?_ (by decide)
      have:¬q.kind≤4:=by omega
      rw[he2,hb]
      simp[this]
     ·refine aR.of ?_ rfl
      have h1:1≤q.kind:=by omega
      have h2:q.kind≤4:=by omega
      rw[he2,hb]
      simp[h1,h2]
    ·have d8:decide (p.kind=8)=false:=by simp[c4]
     have hb:dT l p=false:=by rw[dT,d8]; rfl
     simp(disch:=omega)only[go_sem,d8]
     refine aR.of ?_ rfl
     rw[he2,hb]
     rfl
 ·rw[hn.find]at hG
  rw[PL]
  simp(disch:=omega)only[go_sem]
  rw[← hG]
  rfl
end Go.Pv
namespace Go.Pv
theorem At {s:ByteArray} (h:isName s=true):s≠⟨#[]⟩:=by
 rintro rfl
 cases h
theorem uM {t:aF} (hn:¬(4≤t.kind∧t.kind≤6)):(eH t).name=⟨#[]⟩:=by
 unfold eH
 repeat' split
 all_goals first
  |rfl
  |omega
theorem Cu {p:aF} (h:fM p=true):decide (p.name=⟨#[]⟩)=!(decide (4≤p.kind)&&decide (p.kind≤6)):=by
 unfold fM at h
 rw[Bool.and_eq_true,Bool.and_eq_true (eqv p (eH p)),Bool.and_eq_true (!(decide (4≤p.kind)&&decide (p.kind≤6))||isName p.name),cz]at h
 obtain⟨h1,h2,h3,h4⟩:=h
 by_cases hn:4≤p.kind∧p.kind≤6
 ·have e:(decide (4≤p.kind)&&decide (p.kind≤6))=true:=by simp[hn]
  rw[e]at h3 ⊢
  have h3:isName p.name=true:=by simpa using h3
  simp[At h3]
 ·have e:(decide (4≤p.kind)&&decide (p.kind≤6))=false:=by
   rw[QE]
   simp
   omega
  rw[e]
  have:p.name=⟨#[]⟩:=by
   rw[h2]
   exact uM hn
  simp[this]
theorem En {l:List aF} {k:Nat} {p:aF} (h:fM p=true):gV l k p=(l.take k).any fun q=>(decide (4≤p.kind)&&decide (p.kind≤6))&&decide (q.name=p.name):=by
 unfold gV
 rw[Cu h,Bool.not_not]
 cases (decide (4≤p.kind)&&decide (p.kind≤6))with
 |false=>simp
 |true=>
  simp only[Bool.true_and]
  unfold cp
  rw[Qe]
  rfl
theorem Cv {p:aF} (h:fM p=true):p.kind≤9:=by
 unfold fM at h
 simp only[Bool.and_eq_true,decide_eq_true_eq]at h
 exact h.1.2
set_option maxHeartbeats 4000000 in
theorem r268 (v:Nat) (l:List aF) (hl:l.length≤2147483648) (ho:∀t∈l,t.ok) (hs:∀t∈l,t.short):res A az 268 [.agg [.ae v (l.map aF.c)]]=some [.int .i64 (bN l)]:=by
 refine aq a268 rfl rfl ?_
 simp only[F268]; try delta sS tT zZ nN gG bB pZ
 simp(disch:=omega)only[go_sem]
 refine Br.aG (fun c0=>?_) (fun c0=>?_)<;>simp(disch:=omega)only[go_sem,c0]
 ·have:32<l.length:=by omega
  simp[bN,this]
 have h32:¬32<l.length:=by omega
 unfold bN
 rw[if_neg h32]
 obtain⟨G,hG⟩:∃G,ru l ((List.range l.length).find? fun k=>decide (eC l k≠0))=G:=⟨_,rfl⟩
 rw[hG]
 refine W.find (List.range l.length) (fun k=>decide (eC l k≠0)) (fun k=>⟨[(1,.ptr 1 0),(3,.pv (.int .i64 k))],⟨[(1,[.pv (.ae v (l.map aF.c))])],[],[]⟩⟩) rfl (fun k x hx hk hfd=>?_) (fun hn=>?_)
 ·obtain⟨rfl,hk⟩:=cV hx
  have hp:=Pj hk
  generalize l[x]=p at hp
  have hm:=Ph hp
  have h285:=r285 p (ho p hm) (hs p hm)
  have h286:=r286 p.kind
  have he:eC l x=eo l x p:=by simp only[eC,hp]
  have done:∀e:Int,eo l x p=e→e≠0→(some [PV.int .i64 e]:Option (List PV))=some [.int .i64 G]:=fun e h1 h2=>by
   rw[← hG,(hfd (by rw[he,h1]; simpa using h2)).find,ru,he,h1]
  rw[he]
  have hul:(bV p).length≤1048578:=by
   have:=(hs p hm).aM
   unfold bV rr kW
   rw[Pp,Pp,Pm]
   split<;>split<;>simp<;>omega
  have h287:=fun h9=>r287 p (hs p hm) h9
  unfold aF.c at h285 h287
  simp(disch:=omega)only[go_sem]
  refine Br.aG (fun c=>?_) (fun c=>(c (by omega)).elim)
  simp(disch:=omega)only[go_sem,hp,aF.c,h285]
  refine Br.of (fun c1=>?_) (fun c1=>?_)<;>simp(disch:=omega)only[go_sem,c1]
  rotate_left
  ·exact done 1 (by simp[eo,c1]) (by decide)
  have h287:=h287 (Cv c1)
  have hdup:=En (l:=l) (k:=x) c1
  have herr:(!fM p||gV l x p)=gV l x p:=by rw[c1]; rfl
  generalize hnm:(decide (4≤p.kind)&&decide (p.kind≤6))=nm at h286 hdup
  refine W.find (l.take x) (fun q=>nm&&decide (q.name=p.name)) (fun j=>⟨[(1,.ptr 1 0),(3,.pv (.int .i64 x)),(4,.ptr 4 0),(5,.pv (.int .i64 j))],⟨[(1,[.pv (.ae v (l.map aF.c))]),(4,[.pv (.int .i64 p.kind),.pv (.str p.name),.pv (.int .i64 p.low),.pv (.int .i64 p.high),.pv (.int .i64 p.max),.pv (.ae 0 (p.syms.map Sym.c)),.pv (.ae 0 (p.aM.map Mem.c)),.pv (.int .i64 p.key),.pv (.int .i64 p.elem),.pv (.bool p.pc)])],[],[]⟩⟩) rfl (fun j q hj hjl hfd2=>?_) (fun hn=>?_)
  ·have hjl':j<x∧j<l.length:=by rw[Pt]at hjl; omega
   have hj':l[j]?=some q:=by
    rw[Pw,if_pos hjl'.1]at hj
    exact hj
   simp(disch:=omega)only[go_sem]
   refine Br.aG (fun c=>?_) (fun c=>(c (by omega)).elim)
   simp(disch:=omega)only[go_sem,h286]
   refine Br.of (fun c2=>?_) (fun c2=>?_)
   ·simp(disch:=omega)only[go_sem,c2,hj',aF.c]
    refine Br.aG (fun c3=>?_) (fun c3=>?_)<;>simp(disch:=omega)only[go_sem,c3]
    ·refine done 1 ?_ (by decide)
     rw[eo,herr,hdup,(hfd2 (by simp[c2,c3])).any]
     rfl
    ·exact aR.of (by simp[c3]) rfl
   ·simp(disch:=omega)only[go_sem,c2]
    exact aR.of (by simp[c2]) rfl
  ·have hlx:(l.take x).length=x:=by rw[Pt]; omega
   rw[hlx]
   have hd:(!fM p||gV l x p)=false:=by rw[herr,hdup,hn.any]
   simp(disch:=omega)only[go_sem,h287]
   refine W.find (bV p) (cZ l.length) (fun j=>⟨[(1,.ptr 1 0),(3,.pv (.int .i64 x)),(4,.ptr 4 0),(6,.pv (.ae 0 (ints (bV p)))),(7,.pv (.int .i64 j))],⟨[(1,[.pv (.ae v (l.map aF.c))]),(4,[.pv (.int .i64 p.kind),.pv (.str p.name),.pv (.int .i64 p.low),.pv (.int .i64 p.high),.pv (.int .i64 p.max),.pv (.ae 0 (p.syms.map Sym.c)),.pv (.ae 0 (p.aM.map Mem.c)),.pv (.int .i64 p.key),.pv (.int .i64 p.elem),.pv (.bool p.pc)])],[],[]⟩⟩) rfl (fun j u hu hj hfd2=>?_) (fun hn=>?_)
   ·have d4:cZ l.length u=true→eo l x p=4:=fun g=>by
     rw[eo,hd,(hfd2 g).any]
     rfl
    simp(disch:=omega)only[go_sem]
    refine Br.aG (fun c=>?_) (fun c=>(c (by omega)).elim)
    simp(disch:=omega)only[go_sem,hu]
    refine Br.aG (fun c4=>?_) (fun c4=>?_)<;>simp(disch:=omega)only[go_sem,c4]
    ·exact done 4 (d4 (by simp[cZ,c4])) (by decide)
    simp(disch:=omega)only[go_sem,hu]
    refine Br.aG (fun c5=>?_) (fun c5=>?_)<;>simp(disch:=omega)only[go_sem,c5]
    ·exact done 4 (d4 (by simp[cZ,c5])) (by decide)
    ·exact aR.of (by simp[cZ,c4,c5]) rfl
   ·have he2:eo l x p=if dT l p=true then 1 else 0:=by
     rw[eo,hd,hn.any]
     rfl
    simp(disch:=omega)only[go_sem]
    refine Br.aG (fun c4=>?_) (fun c4=>?_)
    ·have hku:=jt c4
     have hout:=P0.1 hn.any _ hku
     have hk0:0≤p.key∧p.key<l.length:=by
      simp[cZ]at hout
      omega
     have hkk:=Pj (l:=l) (i:=p.key.toNat) (by omega)
     have hka:j3 l p.key=(l[p.key.toNat]'(by omega)).kind:=by rw[j3,hkk]; rfl
     generalize l[p.key.toNat]'(by omega)=q at hkk hka
     have d8:decide (p.kind=8)=true:=by simp[c4]
     have hb:dT l p=!(decide (1≤q.kind)&&decide (q.kind≤4)):=by rw[dT,d8,hka]; rfl
     have hidx:kl 10 v (l.map aF.c) (some p.key)=some (V.pv (.ro v q.c)):=by
      rw[gl _ _ _ hk0.1,Pn,hkk]
      rfl
     have h288:=r288 q.kind
     generalize (decide (1≤q.kind)&&decide (q.kind≤4))=kk at hb h288
     unfold aF.c at hidx
     unfold aF.c
     simp(disch:=omega)only[go_sem,d8,hidx,h288]
     refine Br.of (fun c6=>?_) (fun c6=>?_)<;>simp(disch:=omega)only[go_sem,c6]
     ·refine aR.of ?_ rfl
      rw[he2,hb,c6]
      rfl
     ·refine done 1 ?_ (by decide)
      rw[he2,hb,c6]
      rfl
    ·have d8:decide (p.kind=8)=false:=by simp[c4]
     have hb:dT l p=false:=by rw[dT,d8]; rfl
     simp(disch:=omega)only[go_sem,d8]
     refine aR.of ?_ rfl
     rw[he2,hb]
     rfl
 ·rw[hn.find]at hG
  rw[PL]
  simp(disch:=omega)only[go_sem]
  rw[← hG]
  rfl
end Go.Pv
namespace Go.Pv
theorem pG {l:List Int} {n:Nat} (hn:l.Nodup) (h:∀x∈l,0≤x∧x<n):l.length≤n:=by
 have:=List.Nodup.length_le_of_subset (l₂:=(List.range n).map Int.ofNat) hn (fun x hx=>by
  have:=h x hx
  rw[PB]
  exact⟨x.toNat,List.mem_range.2 (by omega),by simp; omega⟩)
 simpa using this
section
variable {α:Type} [DecidableEq α]
def ep (o:List α) (x:α):List α:=if x∈o then o else o++[x]
theorem nJ {o:List α} {x y:α}:y∈ep o x↔y∈o∨y=x:=by
 unfold ep
 split
 ·rename_i h
  exact⟨.inl,fun h'=>h'.elim id (fun e=>e ▸ h)⟩
 ·simp
theorem j4 {o:List α} {x:α} (h:o.Nodup):(ep o x).Nodup:=by
 unfold ep
 split
 ·exact h
 ·rename_i hx
  rw[QD]
  exact⟨h,by simp,fun a ha b hb=>by
   rw[List.mem_singleton]at hb
   subst hb
   exact fun e=>hx (e ▸ ha)⟩
theorem nK (o:List α) (x:α):o<+:ep o x:=by
 unfold ep
 split
 ·exact List.prefix_refl o
 ·exact List.prefix_append o [x]
def uN (o:List α) (l:List α):List α:=l.foldl ep o
theorem lu (o:List α) (x:α) (l:List α):uN o (x::l)=uN (ep o x) l:=rfl
theorem nL:∀{l o:List α} {y:α},y∈uN o l↔y∈o∨y∈l
 |[],o,y=>by simp[uN]
 |x::l,o,y=>by
  rw[lu,nL,nJ]
  simp[or_assoc]
theorem mn:∀{l o:List α},o.Nodup→(uN o l).Nodup
 |[],_,h=>h
 |x::l,o,h=>by
  rw[lu]
  exact mn (j4 h)
theorem ry:∀(o l:List α),o<+:uN o l
 |o,[]=>List.prefix_refl o
 |o,x::l=>by
  rw[lu]
  exact(nK o x).trans (ry _ l)
def si (nx:α→List α):Nat→Nat→List α→List α
 |0,_,o=>o
 |n+1,i,o=>match o[i]? with
  |none=>o
  |some v=>si nx n (i+1) (uN o (nx v))
theorem rz {nx:α→List α} {n i:Nat} {o:List α} {v:α} (h:o[i]?=some v):si nx (n+1) i o=si nx n (i+1) (uN o (nx v)):=by
 simp only[si,h]
theorem uO {nx:α→List α}:∀{n i:Nat} {o:List α},o.length≤i→si nx n i o=o
 |0,_,_,_=>rfl
 |n+1,i,o,h=>by simp only[si,List.getElem?_eq_none h]
theorem zr {nx:α→List α}:∀(n i:Nat) (o:List α),o<+:si nx n i o
 |0,_,o=>List.prefix_refl o
 |n+1,i,o=>by
  unfold si
  split
  ·exact List.prefix_refl o
  ·exact(ry o _).trans (zr n _ _)
theorem oO {nx:α→List α}:∀(n i:Nat) {o:List α},o.Nodup→(si nx n i o).Nodup
 |0,_,_,h=>h
 |n+1,i,o,h=>by
  unfold si
  split
  ·exact h
  ·exact oO n _ (mn h)
inductive Lz (nx:α→List α) (s:α):α→Prop
 |refl:Lz nx s s
 |step {v x:α}:Lz nx s v→x∈nx v→Lz nx s x
theorem qe {nx:α→List α} {P:α→Prop} (hP:∀v,P v→∀x∈nx v,P x):∀(n i:Nat) {o:List α},(∀v∈o,P v)→∀v∈si nx n i o,P v
 |0,_,_,h=>h
 |n+1,i,o,h=>by
  unfold si
  split
  ·exact h
  ·rename_i v hv
   refine qe hP n _ fun x hx=>?_
   rcases nL.1 hx with hx|hx
   ·exact h x hx
   ·exact hP v (h v (Ph hv)) x hx
theorem wE {nx:α→List α} {N:Nat} {P:α→Prop} (hP:∀v,P v→∀x∈nx v,P x) (hN:∀o:List α,o.Nodup→(∀v∈o,P v)→o.length≤N):∀(n i:Nat) {o:List α},N≤n+i→o.Nodup→(∀v∈o,P v)→
  (∀j v,j<i→o[j]?=some v→∀x∈nx v,x∈o)→∀v∈si nx n i o,∀x∈nx v,x∈si nx n i o
 |0,i,o,hn,hd,ho,hc=>by
  intro v hv x hx
  obtain⟨j,hj,rfl⟩:=Qq hv
  have:=hN o hd ho
  have hlt:j<o.length:=hj
  exact hc j o[j] (by omega) (by simp) x hx
 |n+1,i,o,hn,hd,ho,hc=>by
  unfold si
  split
  ·rename_i hnone
   intro v hv x hx
   obtain⟨j,hj,rfl⟩:=Qq hv
   have:=List.getElem?_eq_none_iff.1 hnone
   exact hc j o[j] (by omega) (by simp) x hx
  ·rename_i v hv
   refine wE hP hN n (i+1) (by omega) (mn hd) (fun x hx=>?_) (fun j w hj hw x hx=>?_)
   ·rcases nL.1 hx with hx|hx
    ·exact ho x hx
    ·exact hP v (ho v (Ph hv)) x hx
   ·rw[nL]
    have hi:i<o.length:=(Pg.1 hv).1
    obtain⟨t,ht⟩:=ry o (nx v)
    rw[← ht,Pl (by omega)]at hw
    rcases Po j i with h|h
    ·exact .inl (hc j w h hw x hx)
    ·obtain rfl:j=i:=by omega
     rw[hv]at hw
     cases hw
     exact .inr hx
theorem zs {nx:α→List α} {N:Nat} {P:α→Prop} {s:α} (hP:∀v,P v→∀x∈nx v,P x) (hN:∀o:List α,o.Nodup→(∀v∈o,P v)→o.length≤N) (hs:P s) {v:α}:v∈si nx N 0 [s]↔Lz nx s v:=by
 constructor
 ·exact qe (P:=Lz nx s) (fun v hv x hx=>.step hv hx) N 0 (by simp; exact .refl) v
 ·have hc:=wE hP hN N 0 (o:=[s]) (by omega) (by simp) (by simpa using hs) (fun j v hj=>absurd hj (Nat.not_lt_zero _))
  have hp:s∈si nx N 0 [s]:=(zr N 0 [s]).subset (by simp)
  intro h
  induction h with
  |refl=>exact hp
  |step _ hx ih=>exact hc _ ih _ hx
section
variable {β:Type} [DecidableEq β]
end
end
end Go.Pv
namespace Go.Pv
theorem NS (t:Nat) (l:List Int) (x:Int) (hl:l.length≤2^63 - 1):res A az 118 [.ae t (ints l),.int .i64 x]=some [.int .i64 (aV (fun y=>decide (y=x)) l)]:=by
 refine aq a118 rfl rfl ?_
 simp only[F118]; try delta sS tT zZ nN gG bB pZ
 simp(disch:=omega)only[go_sem]
 refine W.find l (fun y=>decide (y=x)) (fun k=>⟨[(0,.pv (.ae t (ints l))),(1,.pv (.int .i64 x)),(7,.pv (.int .i64 l.length)),(8,.pv (.int .i64 k))],⟨[],[],[]⟩⟩) rfl (fun k y hy hk hfd=>?_) (fun hn=>?_)
 ·simp(disch:=omega)only[go_sem]
  refine Br.aG (fun c=>?_) (fun c=>(c (by omega)).elim)
  simp(disch:=omega)only[go_sem,hy]
  refine Br.aG (fun g=>?_) (fun g=>?_)<;>simp(disch:=omega)only[go_sem]
  ·rw[(hfd (by simp[g])).aV]
  ·exact aR.of (by simpa using fun e=>g e.symm) rfl
 ·simp(disch:=omega)only[go_sem]
  rw[hn.aV]
theorem ym {l:List Int} {x:Int}:0≤aV (fun y=>decide (y=x)) l↔x∈l:=by
 unfold aV
 cases h:l.findIdx? (fun y=>decide (y=x))with
 |none=>
  rw[Qm]at h
  constructor
  ·intro hh
   exact absurd hh (by decide)
  ·intro hx
   have:=h x hx
   simp at this
 |some k=>
  rw[PT]at h
  obtain⟨hk,hp,_⟩:=h
  constructor
  ·intro _
   have e:l[k]=x:=by simpa using hp
   rw[← e]
   exact P4 hk
  ·intro _
   exact Int.natCast_nonneg k
theorem NT (t:Nat) (l:List Int) (x:Int) (hl:l.length≤2^63 - 1):res A az 110 [.ae t (ints l),.int .i64 x]=some [.bool (decide (x∈l))]:=by
 refine aq a110 rfl rfl ?_
 simp only[F110]; try delta sS tT zZ nN gG bB pZ
 have h118:=fun t=>NS t l x hl
 simp(disch:=omega)only[go_sem,h118]
 simp only[ym]
noncomputable def iF (l:List aF) (i:Int):Int:=if bN l≠0 then bN l else if cZ l.length i=true then 4 else 0
theorem r291 (v:Nat) (l:List aF) (i:Int) (hl:l.length≤2147483648) (ho:∀t∈l,t.ok) (hs:∀t∈l,t.short):res A az 291 [.agg [.ae v (l.map aF.c)],.int .i64 i]=some [.int .i64 (iF l i)]:=by
 refine aq a291 rfl rfl ?_
 simp only[F291]; try delta sS tT zZ nN gG bB pZ
 have h267:=fun v=>r267 v l hl ho hs
 unfold iF cZ
 generalize bN l=e at h267
 simp(disch:=omega)only[go_sem,h267]
 refine Br.aG (fun c=>?_) (fun c=>?_)<;>simp(disch:=omega)only[go_sem,c]
 ·refine Br.aG (fun c2=>?_) (fun c2=>?_)<;>simp(disch:=omega)only[go_sem,c2]
  ·simp[c]
  ·refine Br.aG (fun c3=>?_) (fun c3=>?_)<;>simp(disch:=omega)only[go_sem,c3]
   ·simp[c]
   ·simp[c,c2]
 ·simp[c]
end Go.Pv
namespace Go.Pv
def LA:aF:=⟨0,⟨#[]⟩,0,0,0,[],[],0,0,false⟩
def cW (l:List aF) (i:Int):aF:=(l[i.toNat]?).getD LA
structure Eo (l:List aF):Prop where
 len:l.length≤32
 own:∀t∈l,fM t=true
 EM:∀t∈l,∀u∈bV t,0≤u∧u<l.length
theorem bU {l:List aF} (h:bN l=0):Eo l:=by
 unfold bN at h
 split at h
 ·cases h
 ·rename_i hl
  have hz:∀k,k<l.length→eC l k=0:=by
   cases hf:(List.range l.length).find? (fun k=>decide (eC l k≠0))with
   |none=>
    intro k hk
    have:=QB.1 hf k (List.mem_range.2 hk)
    simpa using this
   |some k=>
    rw[hf]at h
    have:=QN hf
    simp only[ru]at h
    simp[h]at this
  have hone:∀t∈l,fM t=true∧(bV t).any (cZ l.length)=false:=by
   intro t ht
   obtain⟨k,hk⟩:=Pk.1 ht
   have:=hz k (Pg.1 hk).1
   simp only[eC,hk,eo]at this
   split at this
   ·cases this
   ·rename_i h1
    split at this
    ·cases this
    ·rename_i h2
     simp only[Bool.or_eq_true,Bool.not_eq_true',not_or,Bool.not_eq_false]at h1
     exact⟨h1.1,by simpa using h2⟩
  refine⟨by omega,fun t ht=>(hone t ht).1,fun t ht u hu=>?_⟩
  have:=P0.1 (hone t ht).2 u hu
  simp[cZ]at this
  omega
theorem mo {l:List aF} {i:Int} (h:iF l i=0):bN l=0∧0≤i∧i<l.length:=by
 unfold iF at h
 split at h
 ·rename_i h1
  exact absurd h h1
 ·rename_i h1
  split at h
  ·cases h
  ·rename_i h2
   simp only[cZ,Bool.or_eq_true,decide_eq_true_eq,not_or]at h2
   exact⟨by omega,by omega,by omega⟩
theorem ju {l:List aF} {i:Int} (h0:0≤i) (h:i<l.length):l[i.toNat]?=some (cW l i):=by
 have:=Pj (l:=l) (i:=i.toNat) (by omega)
 rw[cW,this]
 rfl
theorem Cw {t:aF} (h:t.short):(bV t).length≤1048578:=by
 have:=h.aM
 unfold bV rr kW
 rw[Pp,Pp,Pm]
 split<;>split<;>simp<;>omega
theorem Ep {v:Nat} {l:List aF} {i:Int} (h0:0≤i) (h:i<l.length):kl 10 v (l.map aF.c) (some i)=some (V.pv (.ro v (cW l i).c)):=by
 rw[gl _ _ _ h0,Pn,ju h0 h]
 rfl
end Go.Pv
namespace Go.Pv
noncomputable def sB (T:List aF) (t:Int) (cs:List PV):Bool:=by
 classical exact decide (∃n,jq n cs∧fi T n t cs=true)
theorem zt {T:List aF} (hT:Jk T) {n:Nat} {t:Int} {cs:List PV} (h:jq n cs) (ht:fZ t):sB T t cs=fi T n t cs:=by
 have key:∀m,jq m cs→fi T m t cs=fi T n t cs:=fun m hm=>by
  have h1:=r502 0 T hT n t cs h ht
  have h2:=r502 0 T hT m t cs hm ht
  rw[h1]at h2
  simpa using h2.symm
 classical
 unfold sB
 cases hf:fi T n t cs with
 |true=>exact decide_eq_true ⟨n,h,hf⟩
 |false=>exact decide_eq_false fun⟨m,hm,he⟩=>by rw[key m hm,hf]at he; cases he
theorem r494 (u:Nat) (T:List aF) (hT:Jk T) (n:Nat) (t:Int) (v:dC) (h:jq n v.c) (ht:fZ t):res A az 494 [.agg [.ae u (T.map aF.c)],.int .i64 t,.agg v.c]=some [.bool (sB T t v.c)]:=by
 have h502:=r502 u T hT n t v.c h ht
 rw[zt hT h ht]
 generalize fi T n t v.c=e at *
 refine aq a494 rfl rfl ?_
 simp only[F494]; try delta sS tT zZ nN gG bB pZ
 unfold dC.c at h502 ⊢
 simp(disch:=omega)only[go_sem,h502]
theorem r495 (u:Nat) (T:List aF) (hT:Jk T) (n:Nat) (t:Int) (v:dC) (h:jq n v.c) (ht:fZ t):res A az 495 [.agg [.ae u (T.map aF.c)],.int .i64 t,.agg v.c]=some [.bool (sB T t v.c)]:=by
 have h503:=r503 u T hT n t v.c h ht
 rw[zt hT h ht]
 generalize fi T n t v.c=e at *
 refine aq a495 rfl rfl ?_
 simp only[F495]; try delta sS tT zZ nN gG bB pZ
 unfold dC.c at h503 ⊢
 simp(disch:=omega)only[go_sem,h503]
noncomputable def j5 (T:List aF) (m:Mem):Bool:=m.has&&!sB T m.type m.gr.c
noncomputable def oP (T:List aF) (x:aF):Bool:=x.aM.any (j5 T)
noncomputable def Cx (T:List aF):Int×Int×Int:=
 if bN T≠0 then (0,0,bN T) else match T.findIdx? (oP T)with
 |none=>(0,0,0)
 |some k=>(k,((T[k]?).bind fun x=>(x.aM.find? (j5 T)).map (·.id)).getD 0,1)
theorem rA {T:List aF} (ho:∀t∈T,t.ok) (h:bN T=0):Jk T:=by
 have hs:=bU h
 refine⟨by have:=hs.len; omega,ho,fun x hx=>?_⟩
 have:=hs.own x hx
 unfold fM at this
 simp only[Bool.and_eq_true,decide_eq_true_eq]at this
 exact this.1
set_option maxHeartbeats 2000000 in
theorem r480 (u:Nat) (T:List aF) (hl:T.length≤2147483648) (ho:∀t∈T,t.ok) (hs:∀t∈T,t.short):res A az 480 [.agg [.ae u (T.map aF.c)]]=some [.int .i64 (Cx T).1,.int .i64 (Cx T).2.1,.int .i64 (Cx T).2.2]:=by
 have h268:=r268 u T hl ho hs
 refine aq a480 rfl rfl ?_
 simp only[F480]; try delta sS tT zZ nN gG bB pZ
 simp(disch:=omega)only[go_sem,h268]
 unfold Cx
 refine Br.aG (fun c=>?_) (fun c=>?_)<;>simp(disch:=omega)only[go_sem,c,decide_true,decide_false]
 rotate_left
 ·rw[if_pos c]
 rw[if_neg (by simp[c])]
 have hT:=rA ho c
 obtain⟨G,hG⟩:∃G:Int×Int×Int,(match T.findIdx? (oP T)with
  |none=>(0,0,0)
  |some k=>(k,((T[k]?).bind fun x=>(x.aM.find? (j5 T)).map (·.id)).getD 0,1))=G:=⟨_,rfl⟩
 rw[hG]
 refine W.find T (oP T) (fun k=>⟨[(1,.ptr 1 0),(6,.pv (.int .i64 k))],⟨[(1,[.pv (.ae u (T.map aF.c))])],[],[]⟩⟩) rfl (fun k x hx hk hfd=>?_) (fun hn=>?_)
 ·have hxm:=Ph hx
  have hml:=(hs x hxm).aM
  obtain⟨_,⟨_,x9⟩,_,x11⟩:=ho x hxm
  simp(disch:=omega)only[go_sem]
  refine Br.aG (fun c=>?_) (fun c=>(c (by omega)).elim)
  simp(disch:=omega)only[go_sem,hx,Option.map_some,aF.c]
  refine W.find x.aM (j5 T) (fun j=>⟨[(1,.ptr 1 0),(6,.pv (.int .i64 k)),(7,.pv (.ae 0 (x.aM.map Mem.c))),(8,.pv (.int .i64 j))],⟨[(1,[.pv (.ae u (T.map aF.c))])],[],[]⟩⟩) rfl (fun j m hm hj hfm=>?_) (fun hn=>?_)
  ·obtain⟨_,_,m3,n,m4⟩:=x11 m (Ph hm)
   have h494:=r494 u T hT n m.type m.gr m4 m3
   have hw:j5 T m=(m.has&&!sB T m.type m.gr.c):=rfl
   generalize sB T m.type m.gr.c=e at h494 hw
   unfold dC.c at h494
   simp(disch:=omega)only[go_sem]
   refine Br.aG (fun c=>?_) (fun c=>(c (by omega)).elim)
   simp(disch:=omega)only[go_sem,hm,Option.map_some,Mem.c,h494]
   cases hh:m.has with
   |false=>
    rw[hh]at hw
    simp(disch:=omega)only[go_sem]
    exact aR.of (by rw[hw]; rfl) rfl
   |true=>
    rw[hh]at hw
    simp(disch:=omega)only[go_sem,hm,Option.map_some,Mem.c,h494]
    cases e
    ·have hf:=hfm (by rw[hw]; rfl)
     have hf2:=hfd hf.any
     simp(disch:=omega)only[go_sem,hm,Option.map_some,Mem.c]
     rw[← hG,hf2.idx]
     dsimp only
     rw[hx,Option.bind_some,hf.find]
     rfl
    ·simp(disch:=omega)only[go_sem]
     exact aR.of (by rw[hw]; rfl) rfl
  ·simp(disch:=omega)only[go_sem]
   exact aR.of hn.any rfl
 ·simp(disch:=omega)only[go_sem]
  rw[← hG,hn.idx]
set_option maxHeartbeats 2000000 in
theorem r484 (u:Nat) (T:List aF) (hl:T.length≤2147483648) (ho:∀t∈T,t.ok) (hs:∀t∈T,t.short):res A az 484 [.agg [.ae u (T.map aF.c)]]=some [.int .i64 (Cx T).1,.int .i64 (Cx T).2.1,.int .i64 (Cx T).2.2]:=by
 have h267:=r267 u T hl ho hs
 refine aq a484 rfl rfl ?_
 simp only[F484]; try delta sS tT zZ nN gG bB pZ
 simp(disch:=omega)only[go_sem,h267]
 unfold Cx
 refine Br.aG (fun c=>?_) (fun c=>?_)<;>simp(disch:=omega)only[go_sem,c,decide_true,decide_false]
 rotate_left
 ·rw[if_pos c]
 rw[if_neg (by simp[c])]
 have hT:=rA ho c
 obtain⟨G,hG⟩:∃G:Int×Int×Int,(match T.findIdx? (oP T)with
  |none=>(0,0,0)
  |some k=>(k,((T[k]?).bind fun x=>(x.aM.find? (j5 T)).map (·.id)).getD 0,1))=G:=⟨_,rfl⟩
 rw[hG]
 refine W.find T (oP T) (fun k=>⟨[(1,.ptr 1 0),(16,.pv (.ae u (T.map aF.c))),(17,.pv (.int .i64 T.length)),(18,.pv (.int .i64 k))],⟨[(1,[.pv (.ae u (T.map aF.c))])],[],[]⟩⟩) rfl (fun k x hx hk hfd=>?_) (fun hn=>?_)
 ·have hxm:=Ph hx
  have hml:=(hs x hxm).aM
  obtain⟨_,⟨_,x9⟩,_,x11⟩:=ho x hxm
  simp(disch:=omega)only[go_sem]
  refine Br.aG (fun c=>?_) (fun c=>(c (by omega)).elim)
  simp(disch:=omega)only[go_sem,hx,Option.map_some,aF.c]
  refine W.find x.aM (j5 T) (fun j=>⟨[(1,.ptr 1 0),(6,.pv (.int .i64 k)),(16,.pv (.ae u (T.map aF.c))),(17,.pv (.int .i64 T.length)),(18,.pv (.int .i64 k)),(24,.pv (.ae 0 (x.aM.map Mem.c))),(25,.pv (.int .i64 x.aM.length)),(26,.pv (.int .i64 j))],⟨[(1,[.pv (.ae u (T.map aF.c))])],[],[]⟩⟩) rfl (fun j m hm hj hfm=>?_) (fun hn=>?_)
  ·obtain⟨_,_,m3,n,m4⟩:=x11 m (Ph hm)
   have h495:=r495 u T hT n m.type m.gr m4 m3
   have hw:j5 T m=(m.has&&!sB T m.type m.gr.c):=rfl
   generalize sB T m.type m.gr.c=e at h495 hw
   unfold dC.c at h495
   simp(disch:=omega)only[go_sem]
   refine Br.aG (fun c=>?_) (fun c=>(c (by omega)).elim)
   simp(disch:=omega)only[go_sem,hm,Option.map_some,Mem.c,h495]
   cases hh:m.has with
   |false=>
    rw[hh]at hw
    simp(disch:=omega)only[go_sem]
    exact aR.of (by rw[hw]; rfl) rfl
   |true=>
    rw[hh]at hw
    simp(disch:=omega)only[go_sem,hm,Option.map_some,Mem.c,h495]
    cases e
    ·have hf:=hfm (by rw[hw]; rfl)
     have hf2:=hfd hf.any
     simp(disch:=omega)only[go_sem,hm,Option.map_some,Mem.c]
     rw[← hG,hf2.idx]
     dsimp only
     rw[hx,Option.bind_some,hf.find]
     rfl
    ·simp(disch:=omega)only[go_sem]
     exact aR.of (by rw[hw]; rfl) rfl
  ·simp(disch:=omega)only[go_sem]
   exact aR.of hn.any rfl
 ·simp(disch:=omega)only[go_sem]
  rw[← hG,hn.idx]
noncomputable def fU (T:List aF):Int:=(Cx T).2.2
theorem mq {T:List aF} (h:bN T≠0):fU T=bN T:=by
 unfold fU Cx
 rw[if_pos h]
theorem gp {T:List aF} (h:fU T=0):bN T=0∧∀x∈T,∀m∈x.aM,m.has=true→sB T m.type m.gr.c=true:=by
 by_cases hv:bN T=0
 ·refine⟨hv,fun x hx m hm hh=>?_⟩
  unfold fU Cx at h
  rw[if_neg (by simp[hv])]at h
  cases hf:T.findIdx? (oP T)with
  |none=>
   have h1:=Qm.1 hf x hx
   have h2:=P0.1 h1 m hm
   unfold j5 at h2
   rw[hh]at h2
   simpa using h2
  |some k=>
   rw[hf]at h
   cases h
 ·rw[mq hv]at h
  exact absurd h hv
theorem r470 (u:Nat) (T:List aF) (hl:T.length≤2147483648) (ho:∀t∈T,t.ok) (hs:∀t∈T,t.short):res A az 470 [.agg [.ae u (T.map aF.c)]]=some [.int .i64 (fU T)]:=by
 have h268:=r268 u T hl ho hs
 have h480:=r480 u T hl ho hs
 have hb:=mq (T:=T)
 unfold fU at hb ⊢
 refine aq a470 rfl rfl ?_
 simp only[F470]; try delta sS tT zZ nN gG bB pZ
 simp(disch:=omega)only[go_sem,h268]
 refine Br.aG (fun c=>?_) (fun c=>?_)<;>simp(disch:=omega)only[go_sem,h480,c,decide_true,decide_false]
 rw[hb c]
theorem r473 (u:Nat) (T:List aF) (hl:T.length≤2147483648) (ho:∀t∈T,t.ok) (hs:∀t∈T,t.short):res A az 473 [.agg [.ae u (T.map aF.c)]]=some [.int .i64 (fU T)]:=by
 have h267:=r267 u T hl ho hs
 have h484:=r484 u T hl ho hs
 have hb:=mq (T:=T)
 unfold fU at hb ⊢
 refine aq a473 rfl rfl ?_
 simp only[F473]; try delta sS tT zZ nN gG bB pZ
 simp(disch:=omega)only[go_sem,h267]
 refine Br.aG (fun c=>?_) (fun c=>?_)<;>simp(disch:=omega)only[go_sem,h484,c,decide_true,decide_false]
 rw[hb c]
end Go.Pv
namespace Go.Pv
def lP (n:List Int) (i:Int):Int:=n.getD i.toNat 0
def lx (b:Bool) (x:aF) (n:List Int):Int:=
 if x.kind=2 then (if x.low=x.high then 1 else 2)
 else if x.kind=3 then (if x.max=0 then 1 else 2)
 else if x.kind=4 then min 2 x.syms.length
 else if x.kind=5 then x.aM.foldl (fun c m=>min 2 (c*lP n m.type)) 1
 else if x.kind=6 then x.aM.foldl (fun c m=>min 2 (c+lP n m.type)) 0
 else if x.kind=7 then (if x.max=0∨lP n x.elem=0 then 1 else 2)
 else if x.kind=8 then (if x.max=0∨lP n x.elem=0∨b=true∧lP n x.key=0 then 1 else 2)
 else if x.kind=9 then min 2 (1+lP n x.elem)
 else 2
def xf (n:List Int):Prop:=∀x∈n,0≤x∧x≤2
def kj (n m:List Int):Prop:=n.length=m.length∧∀k:Nat,n.getD k 0≤m.getD k 0
theorem xf.at {n:List Int} (h:xf n) (k:Nat):0≤n.getD k 0∧n.getD k 0≤2:=by
 rw[Pq]
 cases hk:n[k]? with
 |none=>simp
 |some x=>exact h x (Ph hk)
theorem kj.refl (n:List Int):kj n n:=⟨rfl,fun _=>QK _⟩
theorem kj.trans {a b c:List Int} (h:kj a b) (g:kj b c):kj a c:=⟨h.1.trans g.1,fun k=>Int.le_trans (h.2 k) (g.2 k)⟩
theorem kj.G3 {a b:List Int} (h:kj a b) (g:kj b a):a=b:=by
 refine List.ext_getElem h.1 fun k h1 h2=>?_
 have e1:=h.2 k
 have e2:=g.2 k
 rw[Pq,Pq,Pj h1,Pj h2]at e1 e2
 simp at e1 e2
 omega
theorem rB {α:Type} (f:Int→α→Int) (hf:∀c a,0≤c→0≤f c a∧f c a≤2):∀(l:List α) (c:Int),0≤c→c≤2→0≤l.foldl f c∧l.foldl f c≤2
 |[],c,h1,h2=>⟨h1,h2⟩
 |a::l,c,h1,_=>rB f hf l _ (hf c a h1).1 (hf c a h1).2
theorem oQ {α:Type} {l0:List α} (f g:Int→α→Int) (hf:∀c d a,a∈l0→0≤c→c≤d→0≤f c a∧f c a≤g d a):∀(l:List α) (c d:Int),(∀a∈l,a∈l0)→0≤c→c≤d→l.foldl f c≤l.foldl g d
 |[],_,_,_,_,h2=>h2
 |a::l,c,d,hl,h1,h2=>oQ f g hf l _ _ (fun x hx=>hl x (P2 _ hx)) (hf c d a (hl a PN) h1 h2).1 (hf c d a (hl a PN) h1 h2).2
theorem Cy {c a:Int} (h1:0≤c) (h2:0≤a):0≤min 2 (c*a)∧min 2 (c*a)≤2:=by
 have:=Int.mul_nonneg h1 h2
 omega
theorem uP (b:Bool) (x:aF) {n:List Int} (hn:xf n):0≤lx b x n∧lx b x n≤2:=by
 have ha:∀i,0≤lP n i∧lP n i≤2:=fun i=>hn.at _
 unfold lx
 repeat' split
 all_goals first|decide|skip
 ·omega
 ·exact rB _ (fun c m h=>Cy h (ha _).1) _ _ (by decide) (by decide)
 ·exact rB _ (fun c m h=>by have:=ha m.type; omega) _ _ (by decide) (by decide)
 ·have:=ha x.elem
  omega
theorem rC (b:Bool) (x:aF) {n m:List Int} (hn:xf n) (h:kj n m):lx b x n≤lx b x m:=by
 have ha:∀i,0≤lP n i:=fun i=>(hn.at _).1
 have hm:∀i,lP n i≤lP m i:=fun i=>h.2 _
 unfold lx
 repeat' split
 all_goals first|decide|omega|skip
 ·refine oQ (l0:=x.aM) _ _ (fun c d a _ h1 h2=>?_) _ _ _ (fun _ h=>h) (by decide) (QK _)
  refine⟨(Cy h1 (ha _)).1,?_⟩
  have:=Int.mul_le_mul h2 (hm a.type) (ha _) (by omega)
  omega
 ·refine oQ (l0:=x.aM) _ _ (fun c d a _ h1 h2=>?_) _ _ _ (fun _ h=>h) (by decide) (QK _)
  have:=ha a.type
  have:=hm a.type
  omega
 ·rename_i h1 h2
  have e1:=ha x.elem
  have e2:=hm x.elem
  exact absurd (h2.imp id fun h=>by omega) h1
 ·rename_i h1 h2
  have e1:=ha x.elem
  have e2:=hm x.elem
  have e3:=ha x.key
  have e4:=hm x.key
  exact absurd (h2.imp id fun h=>h.imp (fun h=>by omega) (fun h=>⟨h.1,by omega⟩)) h1
 ·have:=hm x.elem
  omega
theorem G4 (x:aF) (n:List Int) (hn:xf n):lx true x n≤lx false x n:=by
 have ha:∀i,0≤lP n i:=fun i=>(hn.at _).1
 unfold lx
 repeat' split
 all_goals first|decide|omega|skip
 rename_i h1 h2
 exact absurd (h2.imp id fun h=>h.imp id (fun h=>⟨by simp at h,by simp at h⟩)) h1
def swp (b:Bool) (T:List aF) (n:List Int):Nat→List Int
 |0=>n
 |k+1=>match T[k]? with
  |some x=>(swp b T n k).set k (lx b x (swp b T n k))
  |none=>swp b T n k
theorem hY {n:List Int} {k:Nat} {x:Int} (i:Nat) (hk:k<n.length):(n.set k x).getD i 0=if i=k then x else n.getD i 0:=by
 rw[Pq,List.getElem?_set]
 by_cases h:k=i
 ·subst h
  rw[if_pos rfl,if_pos hk,if_pos rfl]
  rfl
 ·rw[if_neg h,if_neg (fun e=>h e.symm),Pq]
def zu (b:Bool) (T:List aF) (n:List Int):Prop:=n.length=T.length∧xf n∧∀k x,T[k]?=some x→n.getD k 0≤lx b x n
theorem xf.set {n:List Int} (h:xf n) {k:Nat} {x:Int} (hx:0≤x∧x≤2):xf (n.set k x):=fun y hy=>by
 rcases List.mem_or_eq_of_mem_set hy with h1|rfl
 ·exact h y h1
 ·exact hx
theorem kj.set {n:List Int} {k:Nat} {x:Int} (hk:k<n.length) (hx:n.getD k 0≤x):kj n (n.set k x):=by
 refine⟨(Qa ..).symm,fun i=>?_⟩
 rw[hY i hk]
 split
 ·rename_i h
  rw[h]
  exact hx
 ·exact QK _
theorem zu.step {b:Bool} {T:List aF} {n:List Int} (h:zu b T n) {k:Nat} {x:aF} (hx:T[k]?=some x):zu b T (n.set k (lx b x n))∧kj n (n.set k (lx b x n)):=by
 obtain⟨h1,h2,h3⟩:=h
 have hk:k<n.length:=h1 ▸ (Pg.1 hx).1
 have hle:=kj.set hk (h3 k x hx)
 refine⟨⟨by rw[Qa,h1],h2.set (uP b x h2),fun j y hy=>?_⟩,hle⟩
 have hm:=rC b y h2 hle
 rw[hY j hk]
 split
 ·rename_i e
  rw[e,hx]at hy
  cases hy
  exact hm
 ·exact Int.le_trans (h3 j y hy) hm
theorem zu.swp {b:Bool} {T:List aF} {n:List Int} (h:zu b T n):∀k,zu b T (swp b T n k)∧kj n (swp b T n k)
 |0=>⟨h,kj.refl n⟩
 |k+1=>by
  obtain⟨h1,h2⟩:=zu.swp h k
  unfold Go.Pv.swp
  split
  ·rename_i x hx
   obtain⟨h3,h4⟩:=h1.step hx
   exact⟨h3,h2.trans h4⟩
  ·exact⟨h1,h2⟩
def Fix (b:Bool) (T:List aF) (n:List Int):Prop:=n.length=T.length∧xf n∧∀k x,T[k]?=some x→n.getD k 0=lx b x n
def pH (b:Bool) (T:List aF) (n:List Int):Prop:=Fix b T n∧∀m,Fix b T m→kj n m
theorem pH.uniq {b:Bool} {T:List aF} {n m:List Int} (h:pH b T n) (g:pH b T m):n=m:=(h.2 m g.1).G3 (g.2 n h.1)
theorem yn {b:Bool} {T:List aF} {n m:List Int} (hn:xf n) (hm:Fix b T m) (h:kj n m) {k:Nat} {x:aF} (hx:T[k]?=some x):kj (n.set k (lx b x n)) m:=by
 have hk:k<n.length:=by rw[h.1,hm.1]; exact(Pg.1 hx).1
 refine⟨by rw[Qa,h.1],fun i=>?_⟩
 rw[hY i hk]
 split
 ·rename_i e
  rw[e,hm.2.2 k x hx]
  exact rC b x hn h
 ·exact h.2 i
theorem lz {b:Bool} {T:List aF} {n m:List Int} (hn:zu b T n) (hm:Fix b T m) (h:kj n m):∀k,kj (swp b T n k) m
 |0=>h
 |k+1=>by
  unfold swp
  split
  ·rename_i x hx
   exact yn (hn.swp k).1.2.1 hm (lz hn hm h k) hx
  ·exact lz hn hm h k
theorem Cz {b:Bool} {T:List aF} {n:List Int} (hn:zu b T n) (h:kj (swp b T n T.length) n):Fix b T n:=by
 have key:∀k,k≤T.length→swp b T n k=n:=fun k hk=>by
  have up:∀j,kj (swp b T n k) (swp b T n (k+j)):=fun j=>by
   induction j with
   |zero=>exact kj.refl _
   |succ j ih=>
    rw[← P8]
    refine ih.trans ?_
    show kj _ (match T[k+j]? with
     |some x=>(swp b T n (k+j)).set (k+j) (lx b x (swp b T n (k+j)))
     |none=>swp b T n (k+j))
    split
    ·rename_i x hx
     exact((hn.swp (k+j)).1.step hx).2
    ·exact kj.refl _
  have:=up (T.length - k)
  rw[show k+(T.length - k)=T.length by omega]at this
  exact(this.trans h).G3 (hn.swp k).2
 refine⟨hn.1,hn.2.1,fun k x hx=>?_⟩
 have hk:=(Pg.1 hx).1
 have h1:=key (k+1) hk
 have h2:=key k (by omega)
 unfold swp at h1
 rw[hx]at h1
 dsimp only at h1
 rw[h2]at h1
 have h3:=hY (n:=n) (x:=lx b x n) k (by rw[hn.1]; exact hk)
 rw[h1,if_pos rfl]at h3
 exact h3
def oR (n:List Int):Int:=n.foldl (·+·) 0
theorem rD:∀(n:List Int) (a:Int),n.foldl (·+·) a=a+oR n
 |[],a=>by simp[oR]
 |x::n,a=>by
  show n.foldl (·+·) (a+x)=a+n.foldl (·+·) (0+x)
  rw[rD n (a+x),rD n (0+x)]
  omega
theorem oT (x:Int) (n:List Int):oR (x::n)=x+oR n:=by
 show n.foldl (·+·) (0+x)=_
 rw[rD]
 omega
theorem uQ:∀{a b:List Int},kj a b→oR a≤oR b∧(a≠b→oR a<oR b)
 |[],[],_=>⟨QK _,fun h=>(h rfl).elim⟩
 |[],_::_,h=>absurd h.1 (by simp)
 |_::_,[],h=>absurd h.1 (by simp)
 |x::a,y::b,h=>by
  have h0:=h.2 0
  have ht:kj a b:=⟨by have:=h.1; simpa using this,fun k=>by simpa using h.2 (k+1)⟩
  obtain⟨h1,h2⟩:=uQ ht
  simp at h0
  rw[oT,oT]
  refine⟨by omega,fun hne=>?_⟩
  by_cases e:a=b
  ·have:x≠y:=fun e2=>hne (by rw[e,e2])
   omega
  ·have:=h2 e
   omega
theorem nM:∀{n:List Int},xf n→0≤oR n∧oR n≤2*n.length
 |[],_=>by simp[oR]
 |x::n,h=>by
  have h1:=h x PN
  have h2:=nM (n:=n) fun y hy=>h y (P2 _ hy)
  rw[oT,List.length_cons]
  omega
def gy (b:Bool) (T:List aF):Nat→List Int
 |0=>List.replicate T.length 0
 |r+1=>swp b T (gy b T r) T.length
theorem wF (b:Bool) (T:List aF):zu b T (List.replicate T.length 0):=by
 have h2:xf (List.replicate T.length 0):=fun x hx=>by
  rw[List.mem_replicate]at hx
  omega
 refine⟨Qc,h2,fun k x _=>?_⟩
 have h1:=uP b x h2
 rw[Pq,Qh]
 split<;>simpa using h1.1
theorem fz (b:Bool) (T:List aF):∀r,zu b T (gy b T r)
 |0=>wF b T
 |r+1=>((fz b T r).swp _).1
theorem mr {b:Bool} {T:List aF} {m:List Int} (hm:Fix b T m):∀r,kj (gy b T r) m
 |0=>by
  refine⟨by rw[hm.1]; exact Qc,fun k=>?_⟩
  have h1:=hm.2.1.at k
  show (List.replicate T.length (0:Int)).getD k 0≤_
  rw[Pq,Qh]
  split<;>simpa using h1.1
 |r+1=>lz (fz b T r) hm (mr hm r) _
theorem zw {b:Bool} {T:List aF} {n:List Int} (h:Fix b T n):∀k,swp b T n k=n
 |0=>rfl
 |k+1=>by
  unfold swp
  rw[zw h k]
  split
  ·rename_i x hx
   have hk:k<n.length:=by rw[h.1]; exact(Pg.1 hx).1
   rw[← h.2.2 k x hx,Pq,Pj hk]
   simp
  ·rfl
theorem rE (b:Bool) (T:List aF):pH b T (gy b T (2*T.length+1)):=by
 have key:∀r,Fix b T (gy b T r)∨(r:Int)≤oR (gy b T r):=fun r=>by
  induction r with
  |zero=>exact .inr (nM (wF b T).2.1).1
  |succ r ih=>
   rcases ih with h|h
   ·left
    show Fix b T (swp b T (gy b T r) T.length)
    rw[zw h]
    exact h
   ·have hl:=fz b T r
    by_cases e:gy b T r=gy b T (r+1)
    ·left
     rw[← e]
     exact Cz hl (by show kj (gy b T (r+1)) _; rw[← e]; exact kj.refl _)
    ·right
     have:=(uQ (hl.swp T.length).2).2 e
     have e2:gy b T (r+1)=swp b T (gy b T r) T.length:=rfl
     rw[e2]
     omega
 refine⟨(key _).resolve_right fun h=>?_,fun m hm=>mr hm _⟩
 have h1:=nM (fz b T (2*T.length+1)).2.1
 rw[(fz b T (2*T.length+1)).1]at h1
 omega
theorem Au {T:List aF} {n:List Int} (h:pH true T n) (hk:∀x∈T,x.kind=8→lP n x.key≠0):pH false T n:=by
 obtain⟨⟨h1,h2,h3⟩,h4⟩:=h
 have hf:Fix false T n:=⟨h1,h2,fun k x hx=>by
  rw[h3 k x hx]
  have:=hk x (Ph hx)
  unfold lx
  by_cases c:x.kind=8
  ·have:=this c
   simp[c,this]
  ·simp[c]⟩
 refine⟨hf,fun m hm=>?_⟩
 have hr:=rE true T
 have e:n=gy true T (2*T.length+1):=pH.uniq ⟨⟨h1,h2,h3⟩,h4⟩ hr
 rw[e]
 have key:∀r,kj (gy true T r) m:=fun r=>by
  induction r with
  |zero=>
   refine⟨by rw[hm.1]; exact Qc,fun k=>?_⟩
   have h1:=hm.2.1.at k
   show (List.replicate T.length (0:Int)).getD k 0≤_
   rw[Pq,Qh]
   split<;>simpa using h1.1
  |succ r ih=>
   have:∀k,kj (swp true T (gy true T r) k) m:=fun k=>by
    induction k with
    |zero=>exact ih
    |succ k ih2=>
     unfold swp
     split
     ·rename_i x hx
      have hl:=((fz true T r).swp k).1.2.1
      have hk:k<(swp true T (gy true T r) k).length:=by rw[ih2.1,hm.1]; exact(Pg.1 hx).1
      refine⟨by rw[Qa,ih2.1],fun i=>?_⟩
      rw[hY i hk]
      split
      ·rename_i e
       rw[e,hm.2.2 k x hx]
       exact Int.le_trans (G4 x _ hl) (rC false x hl ih2)
      ·exact ih2.2 i
     ·exact ih2
   exact this _
 exact key _
end Go.Pv
namespace Go.Pv
def CA (x:aF) (n:List Int):Int:=
 if x.kind=4 then x.syms.length
 else if x.kind=6 then x.aM.foldl (fun c m=>c+lP n m.type) 0
 else if x.kind=9 then 1+lP n x.elem
 else lx true x n
theorem wG {n:List Int} (ha:∀i,0≤lP n i):∀(l:List Mem) (c:Int),0≤c→min 2 (l.foldl (fun c m=>c+lP n m.type) c)=l.foldl (fun c m=>min 2 (c+lP n m.type)) (min 2 c)
 |[],_,_=>rfl
 |m::l,c,h=>by
  have h1:=ha m.type
  rw[Qw,Qw,wG ha l _ (by omega)]
  congr 1
  omega
theorem CB (x:aF) {n:List Int} (hn:xf n):min 2 (CA x n)=lx true x n:=by
 have h:=uP true x hn
 unfold CA
 repeat' split
 ·rename_i h1
  unfold lx
  rw[if_neg (by omega),if_neg (by omega),if_pos h1]
 ·rename_i h1
  rw[wG (fun i=>(hn.at _).1) _ _ (by decide)]
  unfold lx
  rw[if_neg (by omega),if_neg (by omega),if_neg (by omega),if_neg (by omega),if_pos h1]
  rfl
 ·rename_i h1
  unfold lx
  rw[if_neg (by omega),if_neg (by omega),if_neg (by omega),if_neg (by omega),if_neg (by omega),if_neg (by omega),if_neg (by omega),if_pos h1]
 ·omega
theorem rF {t:Nat} {n:List Int} {i:Int} (h0:0≤i) (h:i<n.length):kl 1 t (ints n) (some i)=some (V.pv (.ro t [.int .i64 (lP n i)])):=by
 rw[gl _ _ _ h0,Cf,Pj (show i.toNat<n.length by omega)]
 unfold lP
 rw[Pq,Pj (show i.toNat<n.length by omega)]
 rfl
theorem zx {c a:Int} (h1:0≤c) (h2:c≤2) (h3:0≤a) (h4:a≤2):0≤c*a∧c*a≤4:=by
 have:c=0∨c=1∨c=2:=by omega
 rcases this with rfl|rfl|rfl<;>omega
theorem wH {x:aF} {m:Mem} (h:m∈x.aM):m.type∈bV x:=by
 unfold bV
 exact PR _ (PR _ (PB.2 ⟨m,h,rfl⟩))
theorem tB {x:aF} (h:x.kind=7∨x.kind=8∨x.kind=9):x.elem∈bV x:=by
 unfold bV kW
 refine P5 _ ?_
 rcases h with h|h|h<;>simp[h]
set_option maxHeartbeats 4000000 in
theorem r481 (x:aF) (n:List Int) (t:Nat) (hk:1≤x.kind∧x.kind≤9) (hs:x.short) (hn:xf n) (hu:∀u∈bV x,0≤u∧u<n.length):res A az 481 [.agg x.c,.ae t (ints n)]=some [.int .i64 (lx false x n)]:=by
 refine aq a481 rfl rfl ?_
 simp only[F481]; try delta sS tT zZ nN gG bB pZ
 have ha:∀i,0≤lP n i∧lP n i≤2:=fun i=>hn.at _
 have hm:=fun m hm=>hu _ (wH (x:=x) (m:=m) hm)
 have hml:=hs.aM
 have hsl:=hs.syms
 have hel:=fun h=>hu _ (tB (x:=x) h)
 unfold lx
 obtain⟨kind,name,low,high,max,syms,aM,key,elem,pc⟩:=x
 unfold aF.c
 dsimp only at *
 rcases nine hk with rfl|rfl|rfl|rfl|rfl|rfl|rfl|rfl|rfl
 ·simp(disch:=omega)only[go_sem,decide_true,decide_false,Int.reduceEq,if_true,if_false]
 ·simp(disch:=omega)only[go_sem,decide_true,decide_false,Int.reduceEq,if_true,if_false]
  refine Br.aG (fun c=>?_) (fun c=>?_)<;>simp(disch:=omega)only[go_sem,c,if_true,if_false]
 ·simp(disch:=omega)only[go_sem,decide_true,decide_false,Int.reduceEq,if_true,if_false]
  refine Br.aG (fun c=>?_) (fun c=>?_)<;>simp(disch:=omega)only[go_sem,c,if_true,if_false]
 ·simp(disch:=omega)only[go_sem,decide_true,decide_false,Int.reduceEq,if_true,if_false]
 ·simp(disch:=omega)only[go_sem,decide_true,decide_false,Int.reduceEq,if_true,if_false]
  refine W.fold aM (fun c m=>min 2 (c*lP n m.type)) 1 (fun k acc=>⟨[(1,.pv (.ae t (ints n))),(2,.ptr 2 0),(5,.pv (.int .i64 acc)),(6,.pv (.int .i64 k))],⟨[(2,[.pv (.int .i64 5),.pv (.str name),.pv (.int .i64 low),.pv (.int .i64 high),.pv (.int .i64 max),.pv (.ae 0 (syms.map Sym.c)),.pv (.ae 0 (aM.map Mem.c)),.pv (.int .i64 key),.pv (.int .i64 elem),.pv (.bool pc)])],[],[]⟩⟩) (fun _ acc=>0≤acc∧acc≤2) rfl (by decide) (fun k m acc hm1 hk1 _ hi=>?_) (fun acc hacc hi=>?_)
  ·obtain⟨u1,u2⟩:=hm m (Ph hm1)
   have he:=fun t=>rF (t:=t) u1 u2
   obtain⟨p1,p2⟩:=zx hi.1 hi.2 (ha m.type).1 (ha m.type).2
   generalize hp:acc*lP n m.type=p at p1 p2
   simp(disch:=omega)only[go_sem]
   refine Br.aG (fun c=>?_) (fun c=>(c (by omega)).elim)
   simp(disch:=omega)only[go_sem,hm1,Option.map_some,Mem.c,he,hp]
   exact cD.of rfl (by omega)
  ·simp(disch:=omega)only[go_sem]
   rw[← hacc]
 ·simp(disch:=omega)only[go_sem,decide_true,decide_false,Int.reduceEq,if_true,if_false]
  refine W.fold aM (fun c m=>min 2 (c+lP n m.type)) 0 (fun k acc=>⟨[(1,.pv (.ae t (ints n))),(2,.ptr 2 0),(7,.pv (.int .i64 acc)),(8,.pv (.int .i64 k))],⟨[(2,[.pv (.int .i64 6),.pv (.str name),.pv (.int .i64 low),.pv (.int .i64 high),.pv (.int .i64 max),.pv (.ae 0 (syms.map Sym.c)),.pv (.ae 0 (aM.map Mem.c)),.pv (.int .i64 key),.pv (.int .i64 elem),.pv (.bool pc)])],[],[]⟩⟩) (fun _ acc=>0≤acc∧acc≤2) rfl (by decide) (fun k m acc hm1 hk1 _ hi=>?_) (fun acc hacc hi=>?_)
  ·obtain⟨u1,u2⟩:=hm m (Ph hm1)
   have he:=fun t=>rF (t:=t) u1 u2
   have hat:=ha m.type
   simp(disch:=omega)only[go_sem]
   refine Br.aG (fun c=>?_) (fun c=>(c (by omega)).elim)
   simp(disch:=omega)only[go_sem,hm1,Option.map_some,Mem.c,he]
   exact cD.of rfl (by omega)
  ·simp(disch:=omega)only[go_sem]
   rw[← hacc]
 ·obtain⟨e1,e2⟩:=hel (by decide)
  have he:=fun t=>rF (t:=t) e1 e2
  simp(disch:=omega)only[go_sem,decide_true,decide_false,Int.reduceEq,if_true,if_false,he]
  refine Br.aG (fun c=>?_) (fun c=>?_)<;>simp(disch:=omega)only[go_sem,c,if_true,if_false,he]
  ·rw[if_pos (.inl trivial)]
  ·refine Br.aG (fun d=>?_) (fun d=>?_)<;>simp(disch:=omega)only[go_sem,d]
   ·rw[if_pos (by simp)]
   ·rw[if_neg (by simp[c])]
 ·obtain⟨e1,e2⟩:=hel (by decide)
  have he:=fun t=>rF (t:=t) e1 e2
  simp(disch:=omega)only[go_sem,decide_true,decide_false,Int.reduceEq,if_true,if_false,he]
  refine Br.aG (fun c=>?_) (fun c=>?_)<;>simp(disch:=omega)only[go_sem,c,if_true,if_false,he]
  ·rw[if_pos (.inl trivial)]
  ·refine Br.aG (fun d=>?_) (fun d=>?_)<;>simp(disch:=omega)only[go_sem,d]
   ·rw[if_pos (by simp)]
   ·rw[if_neg (by simp[c])]
 ·obtain⟨e1,e2⟩:=hel (by decide)
  have he:=fun t=>rF (t:=t) e1 e2
  have:=ha elem
  simp(disch:=omega)only[go_sem,decide_true,decide_false,Int.reduceEq,if_true,if_false,he]
set_option maxHeartbeats 4000000 in
theorem r485 (x:aF) (n:List Int) (t:Nat) (hk:1≤x.kind∧x.kind≤9) (hs:x.short) (hn:xf n) (hu:∀u∈bV x,0≤u∧u<n.length):res A az 485 [.agg x.c,.ae t (ints n)]=some [.int .i64 (CA x n)]:=by
 refine aq a485 rfl rfl ?_
 simp only[F485]; try delta sS tT zZ nN gG bB pZ
 have ha:∀i,0≤lP n i∧lP n i≤2:=fun i=>hn.at _
 have hm:=fun m hm=>hu _ (wH (x:=x) (m:=m) hm)
 have hml:=hs.aM
 have hsl:=hs.syms
 have hel:=fun h=>hu _ (tB (x:=x) h)
 have hkey:=fun h=>hu _ (jt (t:=x) h)
 unfold CA lx
 obtain⟨kind,name,low,high,max,syms,aM,key,elem,pc⟩:=x
 unfold aF.c
 dsimp only at *
 rcases nine hk with rfl|rfl|rfl|rfl|rfl|rfl|rfl|rfl|rfl
 ·simp(disch:=omega)only[go_sem,decide_true,decide_false,Int.reduceEq,if_true,if_false]
 ·simp(disch:=omega)only[go_sem,decide_true,decide_false,Int.reduceEq,if_true,if_false]
  refine Br.aG (fun c=>?_) (fun c=>?_)<;>simp(disch:=omega)only[go_sem,c,if_true,if_false]
 ·simp(disch:=omega)only[go_sem,decide_true,decide_false,Int.reduceEq,if_true,if_false]
  refine Br.aG (fun c=>?_) (fun c=>?_)<;>simp(disch:=omega)only[go_sem,c,if_true,if_false]
 ·simp(disch:=omega)only[go_sem,decide_true,decide_false,Int.reduceEq,if_true,if_false]
 ·simp(disch:=omega)only[go_sem,decide_true,decide_false,Int.reduceEq,if_true,if_false]
  refine W.fold aM (fun c m=>min 2 (c*lP n m.type)) 1 (fun k acc=>⟨[(1,.pv (.ae t (ints n))),(5,.pv (.int .i64 acc)),(33,.pv (.ae 0 (aM.map Mem.c))),(34,.pv (.int .i64 aM.length)),(35,.pv (.int .i64 k))],⟨[],[],[]⟩⟩) (fun _ acc=>0≤acc∧acc≤2) rfl (by decide) (fun k m acc hm1 hk1 _ hi=>?_) (fun acc hacc hi=>?_)
  ·obtain⟨u1,u2⟩:=hm m (Ph hm1)
   have he:=fun t=>rF (t:=t) u1 u2
   obtain⟨p1,p2⟩:=zx hi.1 hi.2 (ha m.type).1 (ha m.type).2
   generalize hp:acc*lP n m.type=p at p1 p2
   simp(disch:=omega)only[go_sem]
   refine Br.aG (fun c=>?_) (fun c=>(c (by omega)).elim)
   simp(disch:=omega)only[go_sem,hm1,Option.map_some,Mem.c,he,hp]
   exact cD.of rfl (by omega)
  ·simp(disch:=omega)only[go_sem]
   rw[← hacc]
 ·simp(disch:=omega)only[go_sem,decide_true,decide_false,Int.reduceEq,if_true,if_false]
  refine W.fold aM (fun c m=>c+lP n m.type) 0 (fun k acc=>⟨[(1,.pv (.ae t (ints n))),(8,.pv (.int .i64 acc)),(52,.pv (.ae 0 (aM.map Mem.c))),(53,.pv (.int .i64 aM.length)),(54,.pv (.int .i64 k))],⟨[],[],[]⟩⟩) (fun k acc=>0≤acc∧acc≤2*(k:Int)) rfl (by decide) (fun k m acc hm1 hk1 _ hi=>?_) (fun acc hacc hi=>?_)
  ·obtain⟨u1,u2⟩:=hm m (Ph hm1)
   have he:=fun t=>rF (t:=t) u1 u2
   have hat:=ha m.type
   simp(disch:=omega)only[go_sem]
   refine Br.aG (fun c=>?_) (fun c=>(c (by omega)).elim)
   simp(disch:=omega)only[go_sem,hm1,Option.map_some,Mem.c,he]
   exact cD.of rfl (by omega)
  ·simp(disch:=omega)only[go_sem]
   rw[← hacc]
 ·obtain⟨e1,e2⟩:=hel (by decide)
  have he:=fun t=>rF (t:=t) e1 e2
  simp(disch:=omega)only[go_sem,decide_true,decide_false,Int.reduceEq,if_true,if_false,he]
  refine Br.aG (fun c=>?_) (fun c=>?_)<;>simp(disch:=omega)only[go_sem,c,if_true,if_false,he]
  ·rw[if_pos (.inl trivial)]
  ·refine Br.aG (fun d=>?_) (fun d=>?_)<;>simp(disch:=omega)only[go_sem,d]
   ·rw[if_pos (by simp)]
   ·rw[if_neg (by simp[c])]
 ·obtain⟨e1,e2⟩:=hel (by decide)
  obtain⟨k1,k2⟩:=hkey (by decide)
  have he:=fun t=>rF (t:=t) e1 e2
  have hke:=fun t=>rF (t:=t) k1 k2
  simp(disch:=omega)only[go_sem,decide_true,decide_false,Int.reduceEq,if_true,if_false,he]
  refine Br.aG (fun c=>?_) (fun c=>?_)<;>simp(disch:=omega)only[go_sem,c,if_true,if_false,he]
  ·rw[if_pos (.inl trivial)]
  ·refine Br.aG (fun d=>?_) (fun d=>?_)<;>simp(disch:=omega)only[go_sem,d,hke]
   ·rw[if_pos (by simp)]
   ·refine Br.aG (fun e=>?_) (fun e=>?_)<;>simp(disch:=omega)only[go_sem,e]
    ·rw[if_pos (by simp)]
    ·rw[if_neg (by simp[c,d])]
 ·obtain⟨e1,e2⟩:=hel (by decide)
  have he:=fun t=>rF (t:=t) e1 e2
  have:=ha elem
  simp(disch:=omega)only[go_sem,decide_true,decide_false,Int.reduceEq,if_true,if_false,he]
end Go.Pv
namespace Go.Pv
section
variable {α:Type} [Inhabited α]
def CC (lt:α→α→Bool) (x y:α):Prop:=lt x y=true∨lt y x=true
def Er (lt:α→α→Bool) (x:α) (l:List α):Nat→Nat
 |0=>0
 |p+1=>if lt x (l.getD p default)=true then Er lt x l p else p+1
def mu (x:α) (l:List α) (p:Nat):List α:=l.take p++x::l.drop p
def CD (lt:α→α→Bool) (x:α) (l:List α):List α:=mu x l (Er lt x l l.length)
theorem CE (lt:α→α→Bool) (x:α) (l:List α):∀q,Er lt x l q≤q
 |0=>Pu _
 |q+1=>by
  have:=CE lt x l q
  unfold Er
  split<;>omega
omit [Inhabited α] in
theorem rH (x:α) (l:List α) (p:Nat) (h:p≤l.length):(mu x l p).length=l.length+1:=by simp[mu]; omega
theorem wI (lt:α→α→Bool) (x:α) (l:List α):(CD lt x l).length=l.length+1:=rH x l _ (CE lt x l _)
omit [Inhabited α] in
theorem zy (x:α) (l:List α) (p:Nat) (h:p≤l.length):(mu x l p)[p]?=some x:=by
 unfold mu
 rw[List.getElem?_append_right (by simp; omega)]
 simp[Nat.min_eq_left h]
theorem yp (x:α) (l:List α) (p:Nat) (h:p<l.length):(mu x l (p+1))[p]?=some (l.getD p default):=by
 unfold mu
 rw[List.getElem?_append_left (by simp; omega),List.getElem?_take,if_pos (by omega)]
 simp[h]
theorem Av (x:α) (l:List α) (p:Nat) (h:p<l.length):((mu x l (p+1)).set (p+1) (l.getD p default)).set p x=mu x l p:=by
 apply PW
 intro i
 have h1:=rH x l (p+1) (by omega)
 by_cases ip:i=p
 ·subst ip
  rw[zy x l i (by omega),List.getElem?_set_self (by simp[h1]; omega)]
 ·rw[PD (Ne.symm ip)]
  by_cases iq:i=p+1
  ·subst iq
   rw[PJ (by rw[h1]; omega)]
   unfold mu
   rw[List.getElem?_append_right (by simp; omega)]
   simp[Nat.min_eq_left (Nat.le_of_lt h),h]
  ·rw[PD (Ne.symm iq)]
   unfold mu
   rcases Po i p with hi|hi
   ·rw[List.getElem?_append_left (by simp; omega),List.getElem?_append_left (by simp; omega),List.getElem?_take,List.getElem?_take,if_pos (by omega),if_pos hi]
   ·rw[List.getElem?_append_right (by simp; omega),List.getElem?_append_right (by simp; omega)]
    obtain⟨q,rfl⟩:∃q,i=p+2+q:=⟨i - (p+2),by omega⟩
    simp only[List.length_take,Nat.min_eq_left (Nat.le_of_lt h),Nat.min_eq_left (Nat.succ_le_of_lt h)]
    rw[show p+2+q - (p+1)=q+1 by omega,show p+2+q - p=q+2 by omega]
    simp only[List.getElem?_cons_succ,List.getElem?_drop]
    congr 1
    omega
def wJ (lt:α→α→Bool) (l:List α):List α:=l.foldl (fun o x=>CD lt x o) []
omit [Inhabited α] in
theorem CF {lt:α→α→Bool} (tr:∀x y z,lt x y=true→lt y z=true→lt x z=true) {x:α}:∀{l:List α},l.Pairwise (fun a b=>lt a b=true)→(∀y∈l,CC lt x y)→(ins lt x l).Pairwise (fun a b=>lt a b=true)
 |[],_,_=>List.pairwise_singleton _ _
 |y::r,h,hx=>by
  obtain⟨h1,h2⟩:=PH.1 h
  unfold ins
  split
  ·rename_i hc
   refine List.pairwise_cons.2 ⟨fun z hz=>?_,CF tr h2 (fun z hz=>hx z (by simp[hz]))⟩
   rcases PO.1 ((nw lt x r).subset hz)with rfl|hz
   ·exact hc
   ·exact h1 z hz
  ·rename_i hc
   have hxy:lt x y=true:=(hx y (by simp)).resolve_right (by simpa using hc)
   refine PH.2 ⟨fun z hz=>?_,h⟩
   rcases PO.1 hz with rfl|hz
   ·exact hxy
   ·exact tr _ _ _ hxy (h1 z hz)
omit [Inhabited α] in
theorem wK {lt:α→α→Bool} (tr:∀x y z,lt x y=true→lt y z=true→lt x z=true):∀{l:List α},l.Pairwise (CC lt)→(cI lt l).Pairwise (fun a b=>lt a b=true)
 |[],_=>List.Pairwise.nil
 |x::l,h=>by
  obtain⟨h1,h2⟩:=PH.1 h
  exact CF tr (wK tr h2) fun y hy=>h1 y ((ch lt l).subset hy)
omit [Inhabited α] in
theorem tC {lt:α→α→Bool}:∀{l:List α},l.Pairwise (fun a b=>lt a b=true)→rising lt l=true
 |[],_=>rfl
 |[_],_=>rfl
 |x::y::r,h=>by
  obtain⟨h1,h2⟩:=PH.1 h
  simp only[rising,Bool.and_eq_true]
  exact⟨h1 y (by simp),tC h2⟩
end
end Go.Pv
