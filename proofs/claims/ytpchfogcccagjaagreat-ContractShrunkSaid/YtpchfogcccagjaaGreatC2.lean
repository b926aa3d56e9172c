/-
 What the functions of the law give.
-/
import Derived.Test.YtpchfogcccagjaaGreatC1
set_option linter.unusedSimpArgs false
set_option linter.unusedVariables false
open List renaming mem_of_getElem? → aaj, getElem?_eq_some_iff → aak, getElem?_eq_getElem → aal, length_map → aam, mem_iff_getElem? → aan, getElem?_append_left → aao, getElem?_map → aap, mem_map → aaq, length_append → aas, getElem?_take → aax, mem_cons_of_mem → aaz, length_take → aaA, take_of_length_le → aaB, findIdx?_eq_some_iff_getElem → aaC, mem_cons → aaE, take_add_one → aaH, pairwise_cons → aaI, length_range → aaJ, take_length → aaQ, map_append → aaR, mem_range → aaV, any_eq_false → aaW, findIdx?_eq_none_iff → aa3, mem_singleton → aa7, foldl_cons → abd, mem_map_of_mem → abf, getElem_mem → abj, getElem_of_mem → abo, any_map → abt, find?_eq_none → abv, nodup_append → abL, find?_some → abS, not_mem_nil → acj
open Nat renaming lt_or_ge → aar, zero_le → aaS
open Bool renaming eq_iff_iff → aa4, eq_false_iff → abp, and_eq_true → abE, false_and → abG, and_false → ace
namespace Go.Pv
set_option maxHeartbeats 4000000 in
theorem r319 (x y:Mem)(hx:x.ok)(hy:y.ok):res A ay 319 [.agg x.c,.agg y.c]=some [.bool (eqv x y)]:=by
 have hv:=r320v hx.2.2.2 hy.2.2.2;rw[kG]at hv;obtain⟨a1,a2,a3,a4,a5,v⟩:=x;obtain⟨b1,b2,b3,b4,b5,w⟩:=y;unfold Mem.c;unfold dO.c at hv;dsimp only at *;have no:∀{p q:Mem},p≠q->(some [PV.bool false]:Option (List PV))=some [PV.bool (eqv p q)]:=λh=>by rw[eI h]
 refine ai a319 rfl rfl ?_;simp only[F319,OG];simp(disch:=omega)only[go_sem];refine Br.aF (λe=>?_) (λe=>?_)<;>simp(disch:=omega)only[go_sem,e]
 rotate_left
 .exact no (λq=>e (by cases q;rfl))
 subst e;refine Br.aF (λe=>?_) (λe=>?_)<;>simp(disch:=omega)only[go_sem,e]
 rotate_left
 .exact no (λq=>e (by cases q;rfl))
 subst e;refine Br.aF (λe=>?_) (λe=>?_)<;>simp(disch:=omega)only[go_sem,e]
 rotate_left
 .exact no (λq=>e (by cases q;rfl))
 subst e;refine Br.aF (λe=>?_) (λe=>?_)<;>simp(disch:=omega)only[go_sem,e]
 rotate_left
 .exact no (λq=>e (by cases q;rfl))
 subst e;refine Br.aF (λe=>?_) (λe=>?_)<;>simp(disch:=omega)only[go_sem,e]
 rotate_left
 .exact no (λq=>e (by cases q;rfl))
 subst e;simp(disch:=omega)only[go_sem,hv];congr 3;rw[aa4,bP,bP];exact⟨λe=>by rw[e],λq=>by cases q;rfl⟩
set_option maxHeartbeats 4000000 in
theorem r316 (x y:Mem)(hx:x.ok)(hy:y.ok):res A ay 316 [.agg x.c,.agg y.c]=some [.bool (eqv x y)]:=by
 have hv:=r330v hx.2.2.2 hy.2.2.2;rw[kG]at hv;obtain⟨a1,a2,a3,a4,a5,v⟩:=x;obtain⟨b1,b2,b3,b4,b5,w⟩:=y;unfold Mem.c;unfold dO.c at hv;dsimp only at *;have no:∀{p q:Mem},p≠q->(some [PV.bool false]:Option (List PV))=some [PV.bool (eqv p q)]:=λh=>by rw[eI h]
 refine ai a316 rfl rfl ?_;simp only[F316,OE];simp(disch:=omega)only[go_sem];refine Br.aF (λe=>?_) (λe=>?_)<;>simp(disch:=omega)only[go_sem,e]
 rotate_left
 .exact no (λq=>e (by cases q;rfl))
 subst e;refine Br.aF (λe=>?_) (λe=>?_)<;>simp(disch:=omega)only[go_sem,e]
 rotate_left
 .exact no (λq=>e (by cases q;rfl))
 subst e;refine Br.aF (λe=>?_) (λe=>?_)<;>simp(disch:=omega)only[go_sem,e]
 rotate_left
 .exact no (λq=>e (by cases q;rfl))
 subst e;refine Br.aF (λe=>?_) (λe=>?_)<;>simp(disch:=omega)only[go_sem,e]
 rotate_left
 .exact no (λq=>e (by cases q;rfl))
 subst e;refine Br.aF (λe=>?_) (λe=>?_)<;>simp(disch:=omega)only[go_sem,e]
 rotate_left
 .exact no (λq=>e (by cases q;rfl))
 subst e;simp(disch:=omega)only[go_sem,hv];congr 3;rw[aa4,bP,bP];exact⟨λe=>by rw[e],λq=>by cases q;rfl⟩
set_option maxHeartbeats 4000000 in
theorem r318 (t u:Nat)(l m:List Mem)(hl:l.length<=2^63 - 1)(_hm:m.length<=2^63 - 1)(vl:∀r∈l,r.ok)(vm:∀r∈m,r.ok):res A ay 318 [.ae t (l.map Mem.c),.ae u (m.map Mem.c),.func 319 []]=some [.bool (eqv l m)]:=by
 refine ai a318 rfl rfl ?_;simp only[F318,KK];simp(disch:=omega)only[go_sem];refine Br.aF (λh=>?_) (λh=>?_)<;>simp(disch:=omega)only[go_sem]
 .refine W.find (l.zip m) (λq=>!eqv q.1 q.2) (λk=>⟨[(1,.pv (.ae u (m.map Mem.c))),(2,.pv (.func 319 [])),(15,.pv (.ae t (l.map Mem.c))),(16,.pv (.int .i64 l.length)),(17,.pv (.int .i64 k))],⟨[],[],[]⟩⟩) rfl (λk q hq hk hfd=>?_) (λhn=>?_)
  .obtain⟨h1,h2⟩:=fz hq;rw[cF (by omega)]at hk;have hc:=r319 q.1 q.2 (vl q.1 (aaj h1)) (vm q.2 (aaj h2));unfold Mem.c at hc;simp(disch:=omega)only[go_sem];refine Br.aF (λc=>?_) (λc=>(c (by omega)).elim);simp(disch:=omega)only[go_sem,h1,h2,Mem.c,hc];refine Br.of (λg=>?_) (λg=>?_)<;>simp(disch:=omega)only[go_sem]
   .exact aX.of (by rw[g];rfl) rfl
   .rw[(hfd (by rw[g];rfl)).ne]
  .have hz:(l.zip m).length=l.length:=cF (by omega);rw[hz];simp(disch:=omega)only[go_sem];rw[hn.eq (by omega),dX]
 .rw[eI (λe=>h (by rw[e]))]
set_option maxHeartbeats 8000000 in
theorem r297 (x y:aB)(hx:x.ok)(hy:y.ok):res A ay 297 [.agg x.c,.agg y.c]=some [.bool (eqv x y)]:=by
 obtain⟨_,⟨lx1,lx2⟩,_,lx3⟩:=hx;obtain⟨_,⟨ly1,ly2⟩,_,ly3⟩:=hy;unfold cc at *;have hs:=λt u=>r317 t u x.syms y.syms (by omega) (by omega);have hm:=λt u=>r318 t u x.aO y.aO (by omega) (by omega) lx3 ly3;obtain⟨a1,a2,a3,a4,a5,a6,a7,a8,a9,a10⟩:=x;obtain⟨b1,b2,b3,b4,b5,b6,b7,b8,b9,b10⟩:=y;unfold aB.c;dsimp only at *;have no:∀{p q:aB},p≠q->(some [PV.bool false]:Option (List PV))=some [PV.bool (eqv p q)]:=λh=>by rw[eI h]
 refine ai a297 rfl rfl ?_;simp only[F297,Ol];simp(disch:=omega)only[go_sem];refine Br.aF (λe=>?_) (λe=>?_)<;>simp(disch:=omega)only[go_sem,e]
 rotate_left
 .exact no (λq=>e (by cases q;rfl))
 subst e;refine Br.aF (λe=>?_) (λe=>?_)<;>simp(disch:=omega)only[go_sem,e]
 rotate_left
 .exact no (λq=>e (by cases q;rfl))
 subst e;refine Br.aF (λe=>?_) (λe=>?_)<;>simp(disch:=omega)only[go_sem,e]
 rotate_left
 .exact no (λq=>e (by cases q;rfl))
 subst e;refine Br.aF (λe=>?_) (λe=>?_)<;>simp(disch:=omega)only[go_sem,e]
 rotate_left
 .exact no (λq=>e (by cases q;rfl))
 subst e;refine Br.aF (λe=>?_) (λe=>?_)<;>simp(disch:=omega)only[go_sem,e]
 rotate_left
 .exact no (λq=>e (by cases q;rfl))
 subst e;refine Br.aF (λe=>?_) (λe=>?_)<;>simp(disch:=omega)only[go_sem,e]
 rotate_left
 .exact no (λq=>e (by cases q;rfl))
 subst e;refine Br.aF (λe=>?_) (λe=>?_)<;>simp(disch:=omega)only[go_sem,e]
 rotate_left
 .exact no (λq=>e (by cases q;rfl))
 subst e;refine Br.aF (λe=>?_) (λe=>?_)<;>simp(disch:=omega)only[go_sem,e]
 rotate_left
 .exact no (λq=>e (by cases q;rfl))
 subst e;simp(disch:=omega)only[go_sem,hs];refine Br.of (λe=>?_) (λe=>?_)<;>simp(disch:=omega)only[go_sem,e]
 rotate_left
 .exact no (λq=>kf.1 e (by cases q;rfl))
 have e:=bP.1 e;subst e;simp(disch:=omega)only[go_sem,hm];congr 3;rw[aa4,bP,bP];exact⟨λe=>by rw[e],λq=>by cases q;rfl⟩
set_option maxHeartbeats 8000000 in
theorem r295 (x y:aB)(hx:x.ok)(hy:y.ok):res A ay 295 [.agg x.c,.agg y.c]=some [.bool (eqv x y)]:=by
 obtain⟨_,⟨lx1,lx2⟩,_,lx3⟩:=hx;obtain⟨_,⟨ly1,ly2⟩,_,ly3⟩:=hy;unfold cc at *;obtain⟨a1,a2,a3,a4,a5,a6,a7,a8,a9,a10⟩:=x;obtain⟨b1,b2,b3,b4,b5,b6,b7,b8,b9,b10⟩:=y;unfold aB.c;dsimp only at *;have no:∀{p q:aB},p≠q->(some [PV.bool false]:Option (List PV))=some [PV.bool (eqv p q)]:=λh=>by rw[eI h]
 refine ai a295 rfl rfl ?_;simp only[F295,Oj];simp(disch:=omega)only[go_sem];refine Br.aF (λe=>?_) (λe=>?_)<;>simp(disch:=omega)only[go_sem,e]
 rotate_left
 .exact no (λq=>e (by cases q;rfl))
 subst e;refine Br.aF (λe=>?_) (λe=>?_)<;>simp(disch:=omega)only[go_sem,e]
 rotate_left
 .exact no (λq=>e (by cases q;rfl))
 subst e;refine Br.aF (λe=>?_) (λe=>?_)<;>simp(disch:=omega)only[go_sem,e]
 rotate_left
 .exact no (λq=>e (by cases q;rfl))
 subst e;refine Br.aF (λe=>?_) (λe=>?_)<;>simp(disch:=omega)only[go_sem,e]
 rotate_left
 .exact no (λq=>e (by cases q;rfl))
 subst e;refine Br.aF (λe=>?_) (λe=>?_)<;>simp(disch:=omega)only[go_sem,e]
 rotate_left
 .exact no (λq=>e (by cases q;rfl))
 subst e;refine Br.aF (λe=>?_) (λe=>?_)<;>simp(disch:=omega)only[go_sem,e]
 rotate_left
 .exact no (λq=>e (by cases q;rfl))
 subst e;refine Br.aF (λe=>?_) (λe=>?_)<;>simp(disch:=omega)only[go_sem,e]
 rotate_left
 .exact no (λq=>e (by cases q;rfl))
 subst e;refine Br.aF (λe=>?_) (λe=>?_)<;>simp(disch:=omega)only[go_sem,e]
 rotate_left
 .exact no (λq=>e (by cases q;rfl))
 subst e;refine Br.aF (λe=>?_) (λe=>?_)<;>simp(disch:=omega)only[go_sem,e]
 rotate_left
 .exact no (λq=>e (by cases q;rfl))
 refine Br.aF (λe2=>?_) (λe2=>?_)<;>simp(disch:=omega)only[go_sem,e2]
 rotate_left
 .exact no (λq=>e2 (by cases q;rfl))
 refine W.find (a6.zip b6) (λq=>!eqv q.1 q.2) (λk=>⟨[(2,.ptr 2 0),(3,.ptr 3 0),(5,.pv (.int .i64 k))],⟨[(2,[.pv (.int .i64 a1),.pv (.str a2),.pv (.int .i64 a3),.pv (.int .i64 a4),.pv (.int .i64 a5),.pv (.ae 0 (a6.map Sym.c)),.pv (.ae 0 (a7.map Mem.c)),.pv (.int .i64 a8),.pv (.int .i64 a9),.pv (.bool a10)]),(3,[.pv (.int .i64 a1),.pv (.str a2),.pv (.int .i64 a3),.pv (.int .i64 a4),.pv (.int .i64 a5),.pv (.ae 0 (b6.map Sym.c)),.pv (.ae 0 (b7.map Mem.c)),.pv (.int .i64 a8),.pv (.int .i64 a9),.pv (.bool a10)])],[],[]⟩⟩) rfl (λk q hq hk hfd=>?_) (λhn=>?_)
 .obtain⟨h1,h2⟩:=fz hq;rw[cF (by omega)]at hk;simp(disch:=omega)only[go_sem];refine Br.aF (λc=>?_) (λc=>(c (by omega)).elim);simp(disch:=omega)only[go_sem,h1,h2,Sym.c];rw[<- Eu];refine Br.of (λg=>?_) (λg=>?_)<;>simp(disch:=omega)only[go_sem]
  .exact aX.of (by rw[g];rfl) rfl
  .exact no (λq=>kf.1 (hfd (by rw[g];rfl)).ne (by cases q;rfl))
 .have hz:(a6.zip b6).length=a6.length:=cF (by omega);rw[hz];have e:=hn.eq (by omega);subst e;simp(disch:=omega)only[go_sem];refine W.find (a7.zip b7) (λq=>!eqv q.1 q.2) (λk=>⟨[(2,.ptr 2 0),(3,.ptr 3 0),(6,.pv (.int .i64 k))],⟨[(2,[.pv (.int .i64 a1),.pv (.str a2),.pv (.int .i64 a3),.pv (.int .i64 a4),.pv (.int .i64 a5),.pv (.ae 0 (a6.map Sym.c)),.pv (.ae 0 (a7.map Mem.c)),.pv (.int .i64 a8),.pv (.int .i64 a9),.pv (.bool a10)]),(3,[.pv (.int .i64 a1),.pv (.str a2),.pv (.int .i64 a3),.pv (.int .i64 a4),.pv (.int .i64 a5),.pv (.ae 0 (a6.map Sym.c)),.pv (.ae 0 (b7.map Mem.c)),.pv (.int .i64 a8),.pv (.int .i64 a9),.pv (.bool a10)])],[],[]⟩⟩) rfl (λk q hq hk hfd=>?_) (λhn=>?_)
  .obtain⟨h1,h2⟩:=fz hq;rw[cF (by omega)]at hk;have hc:=r316 q.1 q.2 (lx3 q.1 (aaj h1)) (ly3 q.2 (aaj h2));unfold Mem.c at hc;simp(disch:=omega)only[go_sem];refine Br.aF (λc=>?_) (λc=>(c (by omega)).elim);simp(disch:=omega)only[go_sem,h1,h2,Mem.c,hc];refine Br.of (λg=>?_) (λg=>?_)<;>simp(disch:=omega)only[go_sem]
   .exact aX.of (by rw[g];rfl) rfl
   .exact no (λq=>kf.1 (hfd (by rw[g];rfl)).ne (by cases q;rfl))
  .have hz:(a7.zip b7).length=a7.length:=cF (by omega);rw[hz];have e:=hn.eq (by omega);subst e;simp(disch:=omega)only[go_sem];rw[dX]
def bg {α:Type}(p:α->Bool)(l:List α):Int:=match l.findIdx? p with
 |some k=>(k:Int)
 |none=> -1
theorem Found.bg {α:Type}{l:List α}{p:α->Bool}{k:Nat}{x:α}(h:Found l p k x):Pv.bg p l=k:=by
 unfold Pv.bg;rw[h.idx]
theorem jy.bg {α:Type}{l:List α}{p:α->Bool}(h:jy l p):Pv.bg p l= -1:=by
 unfold Pv.bg;rw[h.idx]
def pE (i:Int)(m:Mem):Bool:=decide (m.id=i)
def tM (i:Int)(m:Sym):Bool:=decide (m.id=i)
@[go_sem] theorem r305 (m:Mem)(u:Nat)(i:Int)(cs:List PV):res A ay 305 [.agg m.c,.ro u (.int .i64 i::cs)]=some [.bool (pE i m)]:=by
 refine ai a305 rfl rfl ?_;simp only[F305,Ow];simp(disch:=omega)only[go_sem,Mem.c];rfl
@[go_sem] theorem r395 (m:Sym)(u:Nat)(i:Int)(cs:List PV):res A ay 395 [.agg m.c,.ro u (.int .i64 i::cs)]=some [.bool (tM i m)]:=by
 refine ai a395 rfl rfl ?_;simp only[F395,O1];simp(disch:=omega)only[go_sem,Sym.c];rfl
theorem r304 (t u:Nat)(i:Int)(cs:List PV)(l:List Mem)(hl:l.length<=2^63 - 1):res A ay 304 [.ae t (l.map Mem.c),.func 305 [.ro u (.int .i64 i::cs)]]=some [.int .i64 (bg (pE i) l)]:=by
 refine ai a304 rfl rfl ?_;simp only[F304,Ov];simp(disch:=omega)only[go_sem];refine W.find l (pE i) (λk=>⟨[(0,.pv (.ae t (l.map Mem.c))),(1,.pv (.func 305 [.ro u (.int .i64 i::cs)])),(7,.pv (.int .i64 l.length)),(8,.pv (.int .i64 k))],⟨[],[],[]⟩⟩) rfl (λk x hx hk hfd=>?_) (λhn=>?_)
 .have hfx:=r305 x u i cs;have hl13:x.c.length=13:=rfl;have hmap:(x.c.map V.pv).take 13=x.c.map .pv:=rfl;simp(disch:=omega)only[go_sem];refine Br.aF (λh=>?_) (λh=>(h (by omega)).elim);unfold Mem.c at hfx;simp(disch:=omega)only[go_sem,hx,Mem.c,hfx];refine Br.of (λh2=>?_) (λh2=>?_)<;>simp(disch:=omega)only[go_sem]
  .rw[(hfd h2).bg]
  .exact aX.of h2 rfl
 .simp(disch:=omega)only[go_sem];rw[hn.bg]
theorem r394 (t u:Nat)(i:Int)(cs:List PV)(l:List Sym)(hl:l.length<=2^63 - 1):res A ay 394 [.ae t (l.map Sym.c),.func 395 [.ro u (.int .i64 i::cs)]]=some [.int .i64 (bg (tM i) l)]:=by
 refine ai a394 rfl rfl ?_;simp only[F394,O0];simp(disch:=omega)only[go_sem];refine W.find l (tM i) (λk=>⟨[(0,.pv (.ae t (l.map Sym.c))),(1,.pv (.func 395 [.ro u (.int .i64 i::cs)])),(7,.pv (.int .i64 l.length)),(8,.pv (.int .i64 k))],⟨[],[],[]⟩⟩) rfl (λk x hx hk hfd=>?_) (λhn=>?_)
 .have hfx:=r395 x u i cs;simp(disch:=omega)only[go_sem];refine Br.aF (λh=>?_) (λh=>(h (by omega)).elim);unfold Sym.c at hfx;simp(disch:=omega)only[go_sem,hx,Sym.c,hfx];refine Br.of (λh2=>?_) (λh2=>?_)<;>simp(disch:=omega)only[go_sem]
  .rw[(hfd h2).bg]
  .exact aX.of h2 rfl
 .simp(disch:=omega)only[go_sem];rw[hn.bg]
theorem FF {α:Type}(p:α->Bool)(l:List α): -1<=bg p l/\bg p l<l.length:=by
 unfold bg;cases h:l.findIdx? p with
 |none=>
  dsimp only;omega
 |some k=>
  have:=aaC.1 h;obtain⟨hk,_⟩:=this;dsimp only;omega
theorem r281 (t:aB)(i:Int)(h:t.aO.length<=2^63 - 1):res A ay 281 [.agg t.c,.int .i64 i]=some [.int .i64 (max (bg (pE i) t.aO) 0),.bool (decide (0<=bg (pE i) t.aO))]:=by
 refine ai a281 rfl rfl ?_;simp only[F281,Ob];unfold aB.c;have h304:=λu=>r304 0 u i [] t.aO h;simp(disch:=omega)only[go_sem,h304]
theorem r392 (t:aB)(i:Int)(h:t.syms.length<=2^63 - 1):res A ay 392 [.agg t.c,.int .i64 i]=some [.int .i64 (max (bg (tM i) t.syms) 0),.bool (decide (0<=bg (tM i) t.syms))]:=by
 refine ai a392 rfl rfl ?_;simp only[F392,OY];unfold aB.c;have h394:=λu=>r394 0 u i [] t.syms h;simp(disch:=omega)only[go_sem,h394]
theorem r391 (t:aB)(i:Int)(h:t.aO.length<=2^63 - 1):res A ay 391 [.agg t.c,.int .i64 i]=some [.int .i64 (max (bg (pE i) t.aO) 0),.bool (decide (0<=bg (pE i) t.aO))]:=by
 refine ai a391 rfl rfl ?_;simp only[F391,OX];unfold aB.c;simp(disch:=omega)only[go_sem];refine W.find t.aO (pE i) (λk=>⟨[(1,.pv (.int .i64 i)),(2,.ptr 2 0),(6,.pv (.int .i64 k))],⟨[(2,t.c.map .pv)],[],[]⟩⟩) rfl (λk x hx hk hfd=>?_) (λhn=>?_)
 .unfold aB.c;simp(disch:=omega)only[go_sem,List.map_cons,List.map_nil];refine Br.aF (λh=>?_) (λh=>(h (by omega)).elim);simp(disch:=omega)only[go_sem,hx,Mem.c];have hpx:decide (x.id=i)=pE i x:=rfl;rw[hpx];refine Br.of (λg=>?_) (λg=>?_)<;>simp(disch:=omega)only[go_sem]
  .rw[(hfd g).bg];have h1:max (k:Int) 0=k:=by omega
   have h2:(0:Int)<=k:=by omega
   simp[h1,h2]
  .exact aX.of g rfl
 .unfold aB.c;simp(disch:=omega)only[go_sem,List.map_cons,List.map_nil];rw[hn.bg];rfl
theorem r393 (t:aB)(i:Int)(h:t.syms.length<=2^63 - 1):res A ay 393 [.agg t.c,.int .i64 i]=some [.int .i64 (max (bg (tM i) t.syms) 0),.bool (decide (0<=bg (tM i) t.syms))]:=by
 refine ai a393 rfl rfl ?_;simp only[F393,OZ];unfold aB.c;simp(disch:=omega)only[go_sem];refine W.find t.syms (tM i) (λk=>⟨[(1,.pv (.int .i64 i)),(2,.ptr 2 0),(6,.pv (.int .i64 k))],⟨[(2,t.c.map .pv)],[],[]⟩⟩) rfl (λk x hx hk hfd=>?_) (λhn=>?_)
 .unfold aB.c;simp(disch:=omega)only[go_sem,List.map_cons,List.map_nil];refine Br.aF (λh=>?_) (λh=>(h (by omega)).elim);simp(disch:=omega)only[go_sem,hx,Sym.c];have hpx:decide (x.id=i)=tM i x:=rfl;rw[hpx];refine Br.of (λg=>?_) (λg=>?_)<;>simp(disch:=omega)only[go_sem]
  .rw[(hfd g).bg];have h1:max (k:Int) 0=k:=by omega
   have h2:(0:Int)<=k:=by omega
   simp[h1,h2]
  .exact aX.of g rfl
 .unfold aB.c;simp(disch:=omega)only[go_sem,List.map_cons,List.map_nil];rw[hn.bg];rfl
theorem r286 (k:Int):res A ay 286 [.int .i64 k]=some [.bool (decide (4<=k)&&decide (k<=6))]:=by
 refine ai a286 rfl rfl ?_;simp only[F286,Of];simp(disch:=omega)only[go_sem];have hk:(decide (4<=k)&&decide (k<=6))=decide (k=4\/k=5\/k=6):=by
  rw[aa4];simp only[Bool.and_eq_true,decide_eq_true_eq];omega
 rw[hk];refine Br.aF (λh1=>?_) (λh1=>?_)
 .have:decide (k=4\/k=5\/k=6)=true:=by simp[h1]
  rw[this];simp(disch:=omega)only[go_sem,h1]
 .by_cases h2:k=5
  .have:decide (k=4\/k=5\/k=6)=true:=by simp[h2]
   rw[this];simp(disch:=omega)only[go_sem,h2]
  .have:decide (k=4\/k=5\/k=6)=decide (k=6):=by simp[h1,h2]
   rw[this];simp(disch:=omega)only[go_sem,h1];refine Br.aF (λh3=>(h2 h3).elim) (λh3=>?_);simp(disch:=omega)only[go_sem,h3]
def cA:aB:=⟨0,⟨#[]⟩,0,0,0,[],[],0,0,false⟩
def cB (t:aB):aB:=
 if t.kind=1 then {cA with kind:=1}
 else if t.kind=2 then {cA with kind:=2,low:=t.low,high:=t.high}
 else if t.kind=3 then {cA with kind:=3,max:=t.max}
 else if t.kind=4 then {cA with kind:=4,name:=t.name,syms:=t.syms,jO:=t.jO}
 else if t.kind=5 then {cA with kind:=5,name:=t.name,aO:=t.aO}
 else if t.kind=6 then {cA with kind:=6,name:=t.name,aO:=t.aO,jO:=t.jO}
 else if t.kind=7 then {cA with kind:=7,max:=t.max,elem:=t.elem}
 else if t.kind=8 then {cA with kind:=8,max:=t.max,key:=t.key,elem:=t.elem}
 else {cA with kind:=t.kind,elem:=t.elem}
theorem pF (k:Int):k=1\/k=2\/k=3\/k=4\/k=5\/k=6\/k=7\/k=8\/(k≠1/\k≠2/\k≠3/\k≠4/\k≠5/\k≠6/\k≠7/\k≠8):=by omega
theorem vw:cA.ok:=by
 refine⟨?_,?_,λs hs=>(List.not_mem_nil hs).elim,λs hs=>(List.not_mem_nil hs).elim⟩<;>simp[cA,eG,bo,cc];exact aaS _
theorem FH {t:aB}(h:t.ok):(cB t).ok:=by
 obtain⟨⟨h0,h1,h2,h3,h4,h5,h6⟩,⟨h7,h8⟩,h9,h10⟩:=h;obtain⟨⟨z0,z1,z2,z3,z4,z5,z6⟩,⟨z7,z8⟩,z9,z10⟩:=vw;have kk:eG 1/\eG 2/\eG 3/\eG 4/\eG 5/\eG 6/\eG 7/\eG 8:=by simp[eG]
 obtain⟨k1,k2,k3,k4,k5,k6,k7,k8⟩:=kk;unfold cB
 repeat' split
 all_goals exact⟨⟨by assumption,by assumption,by assumption,by assumption,by assumption,by assumption,by assumption⟩,⟨by assumption,by assumption⟩,by assumption,by assumption⟩
set_option maxHeartbeats 4000000 in
theorem r309 (t:aB):res A ay 309 [.agg t.c]=some [.agg (cB t).c]:=by
 obtain⟨k,a2,a3,a4,a5,a6,a7,a8,a9,a10⟩:=t;refine ai a309 rfl rfl ?_;simp only[F309,OA];unfold cB aB.c cA;dsimp only;rcases pF k with rfl|rfl|rfl|rfl|rfl|rfl|rfl|rfl|⟨n1,n2,n3,n4,n5,n6,n7,n8⟩
 all_goals simp(disch:=omega)only[go_sem, *]
 all_goals simp
noncomputable def kindOk (t:aB):Bool:=
 if t.kind=2 then decide (t.low<=t.high)
 else if t.kind=3 then decide (0<=t.max)&&decide (t.max<=200)
 else if t.kind=4 then kg t.syms
 else if t.kind=5 then dz true t.aO
 else if t.kind=6 then dz false t.aO
 else if t.kind=7 then decide (0<=t.max)&&decide (t.max<=50)
 else if t.kind=8 then decide (0<=t.max)&&decide (t.max<=50)
 else true
noncomputable def dA (t:aB):Bool:=(decide (1<=t.kind)&&decide (t.kind<=9))&&(eqv t (cB t)&&((!(decide (4<=t.kind)&&decide (t.kind<=6))||isName t.name)&&kindOk t))
structure aB.short (t:aB):Prop where
 syms:t.syms.length<=1048576
 aO:t.aO.length<=1048576
set_option maxHeartbeats 4000000 in
theorem r285 (t : aB)(ht : t.ok)(hs : t.short) : res A ay 285 [.agg t.c] = some [.bool (dA t)] := by
  have h309 := r309 t;have h295 := r295 t (cB t) ht (FH ht);obtain ⟨⟨o0,o1,_⟩,⟨_,_⟩,oS,oM⟩ := ht;have h310 := r310 t.name o1;have h286 := r286 t.kind;have h311 := λu => r311 u t.syms (by have := hs.syms;omega) (λp hp => (oS p hp).2);have h312 := λu b => r312 u t.aO b (by have := hs.aO;omega) oM;unfold dA;generalize eqv t (cB t) = e at h295;generalize cB t = p at h295 h309;have hnm : ∀ b,e = false->(some [PV.bool false] : Option (List PV)) = some [PV.bool (b && (e && ((!(decide (4 <= t.kind) && decide (t.kind <= 6)) || isName t.name) && kindOk t)))] := λb h => by
    rw [h,abG,ace]
  unfold aB.c at *;refine ai a285 rfl rfl ?_;simp only [F285,Oe];simp (disch := omega) only [go_sem];refine Br.aF (λc1 => ?_) (λc1 => ?_) <;> simp (disch := omega) only [go_sem,c1]
  . have : ¬ 1 <= t.kind := by omega
    simp [this]
  refine Br.aF (λc2 => ?_) (λc2 => ?_) <;> simp (disch := omega) only [go_sem,c2]
  . have : ¬ t.kind <= 9 := by omega
    simp [this]
  have k1 : decide (1 <= t.kind) = true := by simp;omega
  have k2 : decide (t.kind <= 9) = true := by simp;omega
  rw [k1,k2];simp (disch := omega) only [go_sem,h309,h295];refine Br.of (λc3 => ?_) (λc3 => ?_) <;> simp (disch := omega) only [go_sem,c3,h286];subst c3;unfold kindOk;by_cases hn : 4 <= t.kind /\ t.kind <= 6
  . have c4 : (decide (4 <= t.kind) && decide (t.kind <= 6)) = true := by simp [hn]
    rw [c4];simp (disch := omega) only [go_sem,h310];refine Br.of (λc5 => ?_) (λc5 => ?_) <;> simp (disch := omega) only [go_sem,c5];have hk : t.kind = 4 \/ t.kind = 5 \/ t.kind = 6 := by omega
    rcases hk with hk | hk | hk
    all_goals simp (disch := omega) only [go_sem,hk,h311,h312]
    all_goals simp [c5]
  . have c4 : (decide (4 <= t.kind) && decide (t.kind <= 6)) = false := by
      rw [abp];simp;omega
    rw [c4];simp (disch := omega) only [go_sem];have hk : t.kind = 1 \/ t.kind = 2 \/ t.kind = 3 \/ t.kind = 7 \/ t.kind = 8 \/ t.kind = 9 := by omega
    rcases hk with hk | hk | hk | hk | hk | hk
    all_goals simp (disch := omega) only [go_sem,hk]
    all_goals first
      | (simp [hk]
         done)
      | (refine Br.aF (λc6 => ?_) (λc6 => ?_) <;> simp (disch := omega) only [go_sem,c6]
         all_goals simp [hk])
set_option maxHeartbeats 8000000 in
theorem r283 (t:aB)(ht:t.ok)(hs:t.short):res A ay 283 [.agg t.c]=some [.bool (dA t)]:=by
 have h297:=λz hz=>r297 z cA hz vw;have h308:=r308 t ht (by have:=hs.aO;omega);have ht':=ht;obtain⟨⟨o0,o1,o2,o3,o4,o5,o6⟩,⟨l1,l2⟩,oS,oM⟩:=ht;have h306:=r306 t.name o1;have h307:=λu=>r307 u t.syms (by have:=hs.syms;omega) (λp hp=>(oS p hp).2);obtain⟨k,a2,a3,a4,a5,a6,a7,a8,a9,a10⟩:=t;unfold dA cB kindOk;unfold cA aB.c at *;dsimp only at *;refine ai a283 rfl rfl ?_;simp only[F283,Oc];simp(disch:=omega)only[go_sem];have no:∀{z:Bool},z=false->(some [PV.bool false]:Option (List PV))=some [PV.bool z]:=λh=>by rw[h]
 have ze:∀{x y z p:aB},(x=y↔z=p)->eqv x y=eqv z p:=λ{x y z p} h=>by
  rw[aa4,bP,bP];exact h
 have okz:∀(k:Int)(a2:ByteArray)(a3 a4 a5:Int)(a6:List Sym)(a7:List Mem)(a8 a9:Int)(a10:Bool),eG k->bo a2->eG a3->eG a4->eG a5->cc a6->cc a7->(∀s∈a6,s.ok)->(∀m∈a7,m.ok)->eG a8->eG a9->(⟨k,a2,a3,a4,a5,a6,a7,a8,a9,a10⟩:aB).ok:=
  λk a2 a3 a4 a5 a6 a7 a8 a9 a10 h1 h2 h3 h4 h5 h6 h7 h8 h9 h10 h11=>⟨⟨h1,h2,h3,h4,h5,h10,h11⟩,⟨h6,h7⟩,h8,h9⟩
 have i0:eG 0:=by simp[eG]
 have s0:bo ⟨#[]⟩:=by simp[bo];exact Nat.zero_le _
 have y0:cc ([]:List Sym):=by simp[cc]
 have m0:cc ([]:List Mem):=by simp[cc]
 have y1:∀s∈([]:List Sym),s.ok:=λs hs=>(acj hs).elim;have m1:∀s∈([]:List Mem),s.ok:=λs hs=>(acj hs).elim;rcases pF k with rfl|rfl|rfl|rfl|rfl|rfl|rfl|rfl|⟨n1,n2,n3,n4,n5,n6,n7,n8⟩
 .have hz:=h297 ⟨0,a2,a3,a4,a5,a6,a7,a8,a9,a10⟩ (okz _ _ _ _ _ _ _ _ _ _ i0 o1 o2 o3 o4 l1 l2 oS oM o5 o6);simp only[List.map_nil]at hz;simp(disch:=omega)only[go_sem,hz];rw[ze (z:=⟨1,a2,a3,a4,a5,a6,a7,a8,a9,a10⟩) (p:=⟨1,⟨#[]⟩,0,0,0,[],[],0,0,false⟩) (by simp)]
 .have hz:=h297 ⟨0,a2,0,0,a5,a6,a7,a8,a9,a10⟩ (okz _ _ _ _ _ _ _ _ _ _ i0 o1 i0 i0 o4 l1 l2 oS oM o5 o6);simp only[List.map_nil]at hz;simp(disch:=omega)only[go_sem];refine Br.aF (λc=>?_) (λc=>?_)<;>simp(disch:=omega)only[go_sem,c,hz]
  .rw[ze (z:=⟨2,a2,a3,a4,a5,a6,a7,a8,a9,a10⟩) (p:=⟨2,⟨#[]⟩,a3,a4,0,[],[],0,0,false⟩) (by simp)]
 .have hz:=h297 ⟨0,a2,a3,a4,0,a6,a7,a8,a9,a10⟩ (okz _ _ _ _ _ _ _ _ _ _ i0 o1 o2 o3 i0 l1 l2 oS oM o5 o6);simp only[List.map_nil]at hz;simp(disch:=omega)only[go_sem];refine Br.aF (λc=>?_) (λc=>?_)<;>simp(disch:=omega)only[go_sem,c]
  .refine Br.aF (λc2=>?_) (λc2=>?_)<;>simp(disch:=omega)only[go_sem,c2,hz]
   .rw[ze (z:=⟨3,a2,a3,a4,a5,a6,a7,a8,a9,a10⟩) (p:=⟨3,⟨#[]⟩,0,0,a5,[],[],0,0,false⟩) (by simp)];simp[c]
 .have hz:=h297 ⟨0,⟨#[]⟩,a3,a4,a5,[],a7,a8,a9,false⟩ (okz _ _ _ _ _ _ _ _ _ _ i0 s0 o2 o3 o4 y0 l2 y1 oM o5 o6);simp only[List.map_nil]at hz;simp(disch:=omega)only[go_sem,h306];refine Br.of (λc=>?_) (λc=>?_)<;>simp(disch:=omega)only[go_sem,c,h307]
  .refine Br.of (λc2=>?_) (λc2=>?_)<;>simp(disch:=omega)only[go_sem,c2,hz]
   .rw[ze (z:=⟨4,a2,a3,a4,a5,a6,a7,a8,a9,a10⟩) (p:=⟨4,a2,0,0,0,a6,[],0,0,a10⟩) (by simp)];simp[c]
 .have hz:=h297 ⟨0,⟨#[]⟩,a3,a4,a5,a6,[],a8,a9,a10⟩ (okz _ _ _ _ _ _ _ _ _ _ i0 s0 o2 o3 o4 l1 m0 oS m1 o5 o6);simp only[List.map_nil]at hz;have h308:=h308 (by simp);simp(disch:=omega)only[go_sem,h306];refine Br.of (λc=>?_) (λc=>?_)<;>simp(disch:=omega)only[go_sem,c,h308]
  .cases a10 with
   |false=>
    simp(disch:=omega)only[go_sem];refine Br.of (λc2=>?_) (λc2=>?_)<;>simp(disch:=omega)only[go_sem,c2,hz];rw[ze (z:=⟨5,a2,a3,a4,a5,a6,a7,a8,a9,false⟩) (p:=⟨5,a2,0,0,0,[],a7,0,0,false⟩) (by simp)];have c2':dz true a7=true:=by simpa using c2
    simp[c]
   |true=>
    simp(disch:=omega)only[go_sem];refine Br.of (λc2=>?_) (λc2=>?_)<;>simp(disch:=omega)only[go_sem,c2,hz];rw[ze (z:=⟨5,a2,a3,a4,a5,a6,a7,a8,a9,true⟩) (p:=⟨5,a2,0,0,0,[],a7,0,0,false⟩) (by simp)];have c2':dz true a7=true:=by simpa using c2
    simp[c]
  .cases a10<;>simp(disch:=omega)only[go_sem]<;>exact no (by simp[c])
 .have hz:=h297 ⟨0,⟨#[]⟩,a3,a4,a5,a6,[],a8,a9,false⟩ (okz _ _ _ _ _ _ _ _ _ _ i0 s0 o2 o3 o4 l1 m0 oS m1 o5 o6);simp only[List.map_nil]at hz;have h308:=h308 (by simp);simp(disch:=omega)only[go_sem,h306];refine Br.of (λc=>?_) (λc=>?_)<;>simp(disch:=omega)only[go_sem,c,h308]
  .cases a10 with
   |false=>
    simp(disch:=omega)only[go_sem];refine Br.of (λc2=>?_) (λc2=>?_)<;>simp(disch:=omega)only[go_sem,c2,hz];rw[ze (z:=⟨6,a2,a3,a4,a5,a6,a7,a8,a9,false⟩) (p:=⟨6,a2,0,0,0,[],a7,0,0,false⟩) (by simp)];have c2':dz false a7=true:=by simpa using c2
    simp[c]
   |true=>
    simp(disch:=omega)only[go_sem];refine Br.of (λc2=>?_) (λc2=>?_)<;>simp(disch:=omega)only[go_sem,c2,hz];rw[ze (z:=⟨6,a2,a3,a4,a5,a6,a7,a8,a9,true⟩) (p:=⟨6,a2,0,0,0,[],a7,0,0,true⟩) (by simp)];have c2':dz false a7=true:=by simpa using c2
    simp[c]
  .cases a10<;>simp(disch:=omega)only[go_sem]<;>exact no (by simp[c])
 .have hz:=h297 ⟨0,a2,a3,a4,0,a6,a7,a8,0,a10⟩ (okz _ _ _ _ _ _ _ _ _ _ i0 o1 o2 o3 i0 l1 l2 oS oM o5 i0);simp only[List.map_nil]at hz;simp(disch:=omega)only[go_sem];refine Br.aF (λc=>?_) (λc=>?_)<;>simp(disch:=omega)only[go_sem,c]
  .refine Br.aF (λc2=>?_) (λc2=>?_)<;>simp(disch:=omega)only[go_sem,c2,hz]
   .rw[ze (z:=⟨7,a2,a3,a4,a5,a6,a7,a8,a9,a10⟩) (p:=⟨7,⟨#[]⟩,0,0,a5,[],[],0,a9,false⟩) (by simp)];simp[c]
 .have hz:=h297 ⟨0,a2,a3,a4,0,a6,a7,0,0,a10⟩ (okz _ _ _ _ _ _ _ _ _ _ i0 o1 o2 o3 i0 l1 l2 oS oM i0 i0);simp only[List.map_nil]at hz;simp(disch:=omega)only[go_sem];refine Br.aF (λc=>?_) (λc=>?_)<;>simp(disch:=omega)only[go_sem,c]
  .refine Br.aF (λc2=>?_) (λc2=>?_)<;>simp(disch:=omega)only[go_sem,c2,hz]
   .rw[ze (z:=⟨8,a2,a3,a4,a5,a6,a7,a8,a9,a10⟩) (p:=⟨8,⟨#[]⟩,0,0,a5,[],[],a8,a9,false⟩) (by simp)];simp[c]
 .have hz:=h297 ⟨0,a2,a3,a4,a5,a6,a7,a8,0,a10⟩ (okz _ _ _ _ _ _ _ _ _ _ i0 o1 o2 o3 o4 l1 l2 oS oM o5 i0);simp only[List.map_nil]at hz;simp(disch:=omega)only[go_sem,n1,n2,n3,n4,n5,n6,n7,n8];refine Br.aF (λc=>?_) (λc=>?_)<;>simp(disch:=omega)only[go_sem,c,hz]
  .rw[ze (z:=⟨k,a2,a3,a4,a5,a6,a7,a8,a9,a10⟩) (p:=⟨k,⟨#[]⟩,0,0,0,[],[],0,a9,false⟩) (by simp)];simp[c]
  .refine no ?_;have:(decide (1<=k)&&decide (k<=9))=false:=by
    rw[abp];simp;omega
   rw[this,abG]
def iY (t:aB):List Int:=if t.kind=8 then [t.key] else []
def fj (t:aB):List Int:=if 7<=t.kind then [t.elem] else []
def bw (t:aB):List Int:=t.aO.map (·.type)++iY t++fj t
set_option maxHeartbeats 2000000 in
theorem r284 (t:aB)(hs:t.short):res A ay 284 [.agg t.c]=some [.ae 0 (ints (bw t))]:=by
 have hl:=hs.aO;obtain⟨k,a2,a3,a4,a5,a6,l,a8,a9,a10⟩:=t;unfold bw iY fj aB.c;dsimp only at *;refine ai a284 rfl rfl ?_;simp only[F284,Od];simp(disch:=omega)only[go_sem];refine W.dx l.length (λj=>⟨[(1,.ptr 1 0),(3,dn 0 (ints ((l.take j).map (·.type)))),(7,.pv (.ae 0 (l.map Mem.c))),(8,.pv (.int .i64 l.length)),(9,.pv (.int .i64 j))],⟨[(1,[.pv (.int .i64 k),.pv (.str a2),.pv (.int .i64 a3),.pv (.int .i64 a4),.pv (.int .i64 a5),.pv (.ae 0 (a6.map Sym.c)),.pv (.ae 0 (l.map Mem.c)),.pv (.int .i64 a8),.pv (.int .i64 a9),.pv (.bool a10)])],cG 1 (ints ((l.take j).map (·.type))),[]⟩⟩) (λ_=>True) rfl trivial (λj hj _=>?_);rcases aar j l.length with hlt|hge
 .have hp:=aal hlt;generalize l[j]=p at hp;have t1:(l.take (j+1)).map (·.type)=(l.take j).map (·.type)++[p.type]:=by rw[aaH,hp,aaR];rfl
  have l1:((l.take j).map (·.type)).length=j:=by simp;omega
  generalize (l.take j).map (·.type)=u at t1 l1;simp(disch:=omega)only[go_sem];refine Br.aF (λc=>?_) (λc=>(c (by omega)).elim);simp(disch:=omega)only[go_sem,hp,Mem.c];refine .of (by omega) ?_ trivial;rw[t1];rfl
 .obtain rfl:j=l.length:=by omega
  rw[aaQ];have l1:(l.map (·.type)).length=l.length:=by simp
  generalize l.map (·.type)=u at l1;simp(disch:=omega)only[go_sem];refine Br.aF (λc=>?_) (λc=>?_)<;>simp(disch:=omega)only[go_sem,c]
  .have l2:(u++[a8]).length=l.length+1:=by simp[l1]
   have h7:7<=k:=by omega
   simp(disch:=omega)only[go_sem];simp[c]
  .refine Br.aF (λc2=>?_) (λc2=>?_)<;>simp(disch:=omega)only[go_sem,c2]
   .simp[c]
   .simp[c]
set_option maxHeartbeats 2000000 in
theorem r287 (t:aB)(hs:t.short)(h9:t.kind<=9):res A ay 287 [.agg t.c]=some [.ae 0 (ints (bw t))]:=by
 have hl:=hs.aO;obtain⟨k,a2,a3,a4,a5,a6,l,a8,a9,a10⟩:=t;unfold bw iY fj aB.c;dsimp only at *;refine ai a287 rfl rfl ?_;simp only[F287,Og];simp(disch:=omega)only[go_sem];refine W.dx l.length (λj=>⟨[(1,.ptr 1 0),(3,dn 0 (ints ((l.take j).map (·.type)))),(4,.pv (.int .i64 j))],⟨[(1,[.pv (.int .i64 k),.pv (.str a2),.pv (.int .i64 a3),.pv (.int .i64 a4),.pv (.int .i64 a5),.pv (.ae 0 (a6.map Sym.c)),.pv (.ae 0 (l.map Mem.c)),.pv (.int .i64 a8),.pv (.int .i64 a9),.pv (.bool a10)])],cG 1 (ints ((l.take j).map (·.type))),[]⟩⟩) (λ_=>True) rfl trivial (λj hj _=>?_);rcases aar j l.length with hlt|hge
 .have hp:=aal hlt;generalize l[j]=p at hp;have t1:(l.take (j+1)).map (·.type)=(l.take j).map (·.type)++[p.type]:=by rw[aaH,hp,aaR];rfl
  have l1:((l.take j).map (·.type)).length=j:=by simp;omega
  generalize (l.take j).map (·.type)=u at t1 l1;simp(disch:=omega)only[go_sem];refine Br.aF (λc=>?_) (λc=>(c (by omega)).elim);simp(disch:=omega)only[go_sem,hp,Mem.c];refine .of (by omega) ?_ trivial;rw[t1];rfl
 .obtain rfl:j=l.length:=by omega
  rw[aaQ];have l1:(l.map (·.type)).length=l.length:=by simp
  generalize l.map (·.type)=u at l1;have l2:(u++[a8]).length=l.length+1:=by simp[l1]
  simp(disch:=omega)only[go_sem];refine Br.aF (λc=>?_) (λc=>?_)<;>simp(disch:=omega)only[go_sem,c];refine Br.aF (λc2=>?_) (λc2=>?_)<;>simp(disch:=omega)only[go_sem,c,c2];refine Br.aF (λc3=>?_) (λc3=>?_)<;>simp(disch:=omega)only[go_sem,c3];have h7:¬7<=k:=by omega
  simp[c,h7]
theorem r288 (k:Int):res A ay 288 [.int .i64 k]=some [.bool (decide (1<=k)&&decide (k<=4))]:=by
 refine ai a288 rfl rfl ?_;simp only[F288,Oh];simp(disch:=omega)only[go_sem];refine Br.aF (λc=>?_) (λc=>?_)<;>simp(disch:=omega)only[go_sem,c]
def gG (l:List aB)(i:Int):Int:=((l[i.toNat]?).map (·.kind)).getD 0
def eW (l:List aB)(k:Nat)(t:aB):Bool:=!decide (t.name=⟨#[]⟩)&&cz ((l.take k).map (·.name)) t.name
def cM (n:Nat)(u:Int):Bool:=decide (u<0)||decide ((n:Int)<=u)
def dU (l:List aB)(t:aB):Bool:=decide (t.kind=8)&&!(decide (1<=gG l t.key)&&decide (gG l t.key<=4))
noncomputable def eA (l:List aB)(k:Nat)(t:aB):Int:=if (!dA t||eW l k t)=true then 1 else if (bw t).any (cM l.length)=true then 4 else if dU l t=true then 1 else 0
noncomputable def dP (l:List aB)(k:Nat):Int:=match l[k]? with
 |some t=>eA l k t
 |none=>0
noncomputable def vz (l:List aB)(o:Option Nat):Int:=match o with
 |some k=>dP l k
 |none=>0
noncomputable def bG (l:List aB):Int:=if 32<l.length then 3 else vz l ((List.range l.length).find? λk=>decide (dP l k≠0))
def qK (l:List aB)(k:Nat):List ByteArray:=((l.take k).map (·.name)).foldl r8 []
theorem sg:∀(m s:List ByteArray)(x:ByteArray),x∈m.foldl r8 s↔x∈s\/x∈m
 |[],s,x=>by simp
 |y::m,s,x=>by
  rw[abd,sg m (r8 s y) x,HY,aaE];constructor
  .rintro ((h|h)|h)
   .exact .inl h
   .exact .inr (.inl h)
   .exact .inr (.inr h)
  .rintro (h|h|h)
   .exact .inl (.inl h)
   .exact .inl (.inr h)
   .exact .inr h
theorem xF (l:List aB)(k:Nat)(x:ByteArray):cz (qK l k) x=cz ((l.take k).map (·.name)) x:=by
 rw[aa4,fh,fh,qK,sg];simp
theorem C8 {l:List aB}{k:Nat}{t:aB}(h:l[k]?=some t):r8 (qK l k) t.name=qK l (k+1):=by
 unfold qK;rw[aaH,h,aaR,List.foldl_append];rfl
theorem gH {t:aB}(h:t.kind=8):t.key∈bw t:=by simp[bw,iY,h]
set_option maxHeartbeats 4000000 in
theorem r267 (v:Nat)(l:List aB)(hl:l.length<=2147483648)(ho:∀t∈l,t.ok)(hs:∀t∈l,t.short):res A ay 267 [.agg [.ae v (l.map aB.c)]]=some [.int .i64 (bG l)]:=by
 refine ai a267 rfl rfl ?_;simp only[F267,N6];simp(disch:=omega)only[go_sem];refine Br.aF (λc0=>?_) (λc0=>?_)<;>simp(disch:=omega)only[go_sem,c0]
 .have:32<l.length:=by omega
  simp[bG,this]
 have h32:¬32<l.length:=by omega
 unfold bG;rw[if_neg h32];obtain⟨G,hG⟩:∃G,vz l ((List.range l.length).find? λk=>decide (dP l k≠0))=G:=⟨_,rfl⟩;rw[hG];refine W.find (List.range l.length) (λk=>decide (dP l k≠0)) (λk=>⟨[(1,.ptr 1 0),(3,.map 0),(14,.pv (.ae v (l.map aB.c))),(15,.pv (.int .i64 l.length)),(16,.pv (.int .i64 k))],⟨[(1,[.pv (.ae v (l.map aB.c))])],[],[ka (qK l k)]⟩⟩) rfl (λk x hx hk hfd=>?_) (λhn=>?_)
 .obtain⟨rfl,hk⟩:=cZ hx;have hp:=aal hk;generalize l[x]=p at hp;have hm:=aaj hp;have h283:=r283 p (ho p hm) (hs p hm);have h284:=r284 p (hs p hm);have he:dP l x=eA l x p:=by simp only[dP,hp]
  have hnx:=C8 hp;have hsn:=xF l x p.name;have done:∀e:Int,eA l x p=e->e≠0->(some [PV.int .i64 e]:Option (List PV))=some [.int .i64 G]:=λe h1 h2=>by
   rw[<- hG,(hfd (by rw[he,h1];simpa using h2)).find,vz,he,h1]
  rw[he];have hul:(bw p).length<=1048578:=by
   have:=(hs p hm).aO;unfold bw iY fj;rw[aas,aas,aam];split<;>split<;>simp<;>omega
  unfold aB.c at h283 h284;simp(disch:=omega)only[go_sem];refine Br.aF (λc=>?_) (λc=>(c (by omega)).elim);simp(disch:=omega)only[go_sem,hp,aB.c,h283];refine Br.of (λc1=>?_) (λc1=>?_)<;>simp(disch:=omega)only[go_sem,c1]
  rotate_left
  .exact done 1 (by simp[eA,c1]) (by decide)
  have nodup:eW l x p=false->(!dA p||eW l x p)=false:=λh=>by rw[c1,h];rfl
  have dup:eW l x p=(!decide (p.name=⟨#[]⟩)&&cz (qK l x) p.name):=by rw[xF];rfl
  have hown:(dA p)=true:=c1;refine Br.aF (λc2=>?_) (λc2=>?_)
  .have d2:decide (p.name=⟨#[]⟩)=true:=by simp[c2]
   rw[d2]at dup;have hd:=nodup (by rw[dup];rfl);clear c2;simp(disch:=omega)only[go_sem,d2,h284,hnx];refine W.find (bw p) (cM l.length) (λj=>⟨[(1,.ptr 1 0),(3,.map 0),(5,.ptr 5 0),(14,.pv (.ae v (l.map aB.c))),(15,.pv (.int .i64 l.length)),(16,.pv (.int .i64 x)),(38,.pv (.ae 0 (ints (bw p)))),(39,.pv (.int .i64 (bw p).length)),(40,.pv (.int .i64 j))],⟨[(1,[.pv (.ae v (l.map aB.c))]),(5,[.pv (.int .i64 p.kind),.pv (.str p.name),.pv (.int .i64 p.low),.pv (.int .i64 p.high),.pv (.int .i64 p.max),.pv (.ae 0 (p.syms.map Sym.c)),.pv (.ae 0 (p.aO.map Mem.c)),.pv (.int .i64 p.key),.pv (.int .i64 p.elem),.pv (.bool p.jO)])],[],[ka (qK l (x+1))]⟩⟩) rfl (λj u hu hj hfd2=>?_) (λhn=>?_)
   .have d4:cM l.length u=true->eA l x p=4:=λg=>by
     rw[eA,hd,(hfd2 g).any];rfl
    simp(disch:=omega)only[go_sem];refine Br.aF (λc=>?_) (λc=>(c (by omega)).elim);simp(disch:=omega)only[go_sem,hu];refine Br.aF (λc4=>?_) (λc4=>?_)<;>simp(disch:=omega)only[go_sem,c4]
    .exact done 4 (d4 (by simp[cM,c4])) (by decide)
    refine Br.aF (λc5=>?_) (λc5=>?_)<;>simp(disch:=omega)only[go_sem,c5]
    .exact done 4 (d4 (by simp[cM,c5])) (by decide)
    .exact aX.of (by simp[cM,c4,c5]) rfl
   .have he2:eA l x p=if dU l p=true then 1 else 0:=by
     rw[eA,hd,hn.any];rfl
    simp(disch:=omega)only[go_sem];refine Br.aF (λc4=>?_) (λc4=>?_)
    .have hku:=gH c4;have hout:=aaW.1 hn.any _ hku;have hk0:0<=p.key/\p.key<l.length:=by
      simp[cM]at hout;omega
     have hkk:=aal (l:=l) (i:=p.key.toNat) (by omega);have hka:gG l p.key=(l[p.key.toNat]'(by omega)).kind:=by rw[gG,hkk];rfl
     generalize l[p.key.toNat]'(by omega)=q at hkk hka;have d8:decide (p.kind=8)=true:=by simp[c4]
     have hb:dU l p=!(decide (1<=q.kind)&&decide (q.kind<=4)):=by rw[dU,d8,hka];rfl
     have hidx:kx 10 v (l.map aB.c) (some p.key)=some (V.pv (.ro v q.c)):=by
      rw[fH _ _ _ hk0.1,aap,hkk];rfl
     unfold aB.c at hidx;unfold aB.c;simp(disch:=omega)only[go_sem,d8,hidx];refine Br.aF (λc6=>?_) (λc6=>?_)<;>simp(disch:=omega)only[go_sem,c6]
     .refine done 1 ?_ (by decide);have:¬1<=q.kind:=by omega
      rw[he2,hb];simp[this]
     simp(disch:=omega)only[go_sem,hidx];refine Br.aF (λc7=>?_) (λc7=>?_)<;>simp(disch:=omega)only[go_sem,c7]
     .refine done 1 ?_ (by decide);have:¬q.kind<=4:=by omega
      rw[he2,hb];simp[this]
     .refine aX.of ?_ rfl;have h1:1<=q.kind:=by omega
      have h2:q.kind<=4:=by omega
      rw[he2,hb];simp[h1,h2]
    .have d8:decide (p.kind=8)=false:=by simp[c4]
     have hb:dU l p=false:=by rw[dU,d8];rfl
     simp(disch:=omega)only[go_sem,d8];refine aX.of ?_ rfl;rw[he2,hb];rfl
  .have d2:decide (p.name=⟨#[]⟩)=false:=by simp[c2]
   rw[d2]at dup;simp(disch:=omega)only[go_sem,d2];refine Br.of (λc3=>?_) (λc3=>?_)<;>simp(disch:=omega)only[go_sem,c3,h284,hnx]
   .refine done 1 ?_ (by decide);rw[eA,dup,c3];simp
   have hd:=nodup (by rw[dup,c3];rfl);refine W.find (bw p) (cM l.length) (λj=>⟨[(1,.ptr 1 0),(3,.map 0),(5,.ptr 5 0),(14,.pv (.ae v (l.map aB.c))),(15,.pv (.int .i64 l.length)),(16,.pv (.int .i64 x)),(38,.pv (.ae 0 (ints (bw p)))),(39,.pv (.int .i64 (bw p).length)),(40,.pv (.int .i64 j))],⟨[(1,[.pv (.ae v (l.map aB.c))]),(5,[.pv (.int .i64 p.kind),.pv (.str p.name),.pv (.int .i64 p.low),.pv (.int .i64 p.high),.pv (.int .i64 p.max),.pv (.ae 0 (p.syms.map Sym.c)),.pv (.ae 0 (p.aO.map Mem.c)),.pv (.int .i64 p.key),.pv (.int .i64 p.elem),.pv (.bool p.jO)])],[],[ka (qK l (x+1))]⟩⟩) rfl (λj u hu hj hfd2=>?_) (λhn=>?_)
   .have d4:cM l.length u=true->eA l x p=4:=λg=>by
     rw[eA,hd,(hfd2 g).any];rfl
    simp(disch:=omega)only[go_sem];refine Br.aF (λc=>?_) (λc=>(c (by omega)).elim);simp(disch:=omega)only[go_sem,hu];refine Br.aF (λc4=>?_) (λc4=>?_)<;>simp(disch:=omega)only[go_sem,c4]
    .exact done 4 (d4 (by simp[cM,c4])) (by decide)
    refine Br.aF (λc5=>?_) (λc5=>?_)<;>simp(disch:=omega)only[go_sem,c5]
    .exact done 4 (d4 (by simp[cM,c5])) (by decide)
    .exact aX.of (by simp[cM,c4,c5]) rfl
   .have he2:eA l x p=if dU l p=true then 1 else 0:=by
     rw[eA,hd,hn.any];rfl
    simp(disch:=omega)only[go_sem];refine Br.aF (λc4=>?_) (λc4=>?_)
    .have hku:=gH c4;have hout:=aaW.1 hn.any _ hku;have hk0:0<=p.key/\p.key<l.length:=by
      simp[cM]at hout;omega
     have hkk:=aal (l:=l) (i:=p.key.toNat) (by omega);have hka:gG l p.key=(l[p.key.toNat]'(by omega)).kind:=by rw[gG,hkk];rfl
     generalize l[p.key.toNat]'(by omega)=q at hkk hka;have d8:decide (p.kind=8)=true:=by simp[c4]
     have hb:dU l p=!(decide (1<=q.kind)&&decide (q.kind<=4)):=by rw[dU,d8,hka];rfl
     have hidx:kx 10 v (l.map aB.c) (some p.key)=some (V.pv (.ro v q.c)):=by
      rw[fH _ _ _ hk0.1,aap,hkk];rfl
     unfold aB.c at hidx;unfold aB.c;simp(disch:=omega)only[go_sem,d8,hidx];refine Br.aF (λc6=>?_) (λc6=>?_)<;>simp(disch:=omega)only[go_sem,c6]
     .refine done 1 ?_ (by decide);have:¬1<=q.kind:=by omega
      rw[he2,hb];simp[this]
     simp(disch:=omega)only[go_sem,hidx];refine Br.aF (λc7=>?_) (λc7=>?_)<;>simp(disch:=omega)only[go_sem,c7]
     .refine done 1 ?_ (by decide);have:¬q.kind<=4:=by omega
      rw[he2,hb];simp[this]
     .refine aX.of ?_ rfl;have h1:1<=q.kind:=by omega
      have h2:q.kind<=4:=by omega
      rw[he2,hb];simp[h1,h2]
    .have d8:decide (p.kind=8)=false:=by simp[c4]
     have hb:dU l p=false:=by rw[dU,d8];rfl
     simp(disch:=omega)only[go_sem,d8];refine aX.of ?_ rfl;rw[he2,hb];rfl
 .rw[hn.find]at hG;rw[aaJ];simp(disch:=omega)only[go_sem];rw[<- hG];rfl
theorem xG {s:ByteArray}(h:isName s=true):s≠⟨#[]⟩:=by
 rintro rfl
 cases h
theorem zh {t:aB}(hn:¬(4<=t.kind/\t.kind<=6)):(cB t).name=⟨#[]⟩:=by
 unfold cB
 repeat' split
 all_goals first
  |rfl
  |omega
theorem H2 {p:aB}(h:dA p=true):decide (p.name=⟨#[]⟩)=!(decide (4<=p.kind)&&decide (p.kind<=6)):=by
 unfold dA at h;rw[abE,abE (eqv p (cB p)),abE (!(decide (4<=p.kind)&&decide (p.kind<=6))||isName p.name),bP]at h;obtain⟨h1,h2,h3,h4⟩:=h;by_cases hn:4<=p.kind/\p.kind<=6
 .have e:(decide (4<=p.kind)&&decide (p.kind<=6))=true:=by simp[hn]
  rw[e]at h3 |-;have h3:isName p.name=true:=by simpa using h3
  simp[xG h3]
 .have e:(decide (4<=p.kind)&&decide (p.kind<=6))=false:=by
   rw[abp];simp;omega
  rw[e];have:p.name=⟨#[]⟩:=by
   rw[h2];exact zh hn
  simp[this]
theorem KP {l:List aB}{k:Nat}{p:aB}(h:dA p=true):eW l k p=(l.take k).any λq=>(decide (4<=p.kind)&&decide (p.kind<=6))&&decide (q.name=p.name):=by
 unfold eW;rw[H2 h,Bool.not_not];cases (decide (4<=p.kind)&&decide (p.kind<=6))with
 |false=>simp
 |true=>
  simp only[Bool.true_and];unfold cz;rw[abt];rfl
theorem nD {p:aB}(h:dA p=true):p.kind<=9:=by
 unfold dA at h;simp only[Bool.and_eq_true,decide_eq_true_eq]at h;exact h.1.2
set_option maxHeartbeats 4000000 in
theorem r268 (v:Nat)(l:List aB)(hl:l.length<=2147483648)(ho:∀t∈l,t.ok)(hs:∀t∈l,t.short):res A ay 268 [.agg [.ae v (l.map aB.c)]]=some [.int .i64 (bG l)]:=by
 refine ai a268 rfl rfl ?_;simp only[F268,N7];simp(disch:=omega)only[go_sem];refine Br.aF (λc0=>?_) (λc0=>?_)<;>simp(disch:=omega)only[go_sem,c0]
 .have:32<l.length:=by omega
  simp[bG,this]
 have h32:¬32<l.length:=by omega
 unfold bG;rw[if_neg h32];obtain⟨G,hG⟩:∃G,vz l ((List.range l.length).find? λk=>decide (dP l k≠0))=G:=⟨_,rfl⟩;rw[hG];refine W.find (List.range l.length) (λk=>decide (dP l k≠0)) (λk=>⟨[(1,.ptr 1 0),(3,.pv (.int .i64 k))],⟨[(1,[.pv (.ae v (l.map aB.c))])],[],[]⟩⟩) rfl (λk x hx hk hfd=>?_) (λhn=>?_)
 .obtain⟨rfl,hk⟩:=cZ hx;have hp:=aal hk;generalize l[x]=p at hp;have hm:=aaj hp;have h285:=r285 p (ho p hm) (hs p hm);have h286:=r286 p.kind;have he:dP l x=eA l x p:=by simp only[dP,hp]
  have done:∀e:Int,eA l x p=e->e≠0->(some [PV.int .i64 e]:Option (List PV))=some [.int .i64 G]:=λe h1 h2=>by
   rw[<- hG,(hfd (by rw[he,h1];simpa using h2)).find,vz,he,h1]
  rw[he];have hul:(bw p).length<=1048578:=by
   have:=(hs p hm).aO;unfold bw iY fj;rw[aas,aas,aam];split<;>split<;>simp<;>omega
  have h287:=λh9=>r287 p (hs p hm) h9;unfold aB.c at h285 h287;simp(disch:=omega)only[go_sem];refine Br.aF (λc=>?_) (λc=>(c (by omega)).elim);simp(disch:=omega)only[go_sem,hp,aB.c,h285];refine Br.of (λc1=>?_) (λc1=>?_)<;>simp(disch:=omega)only[go_sem,c1]
  rotate_left
  .exact done 1 (by simp[eA,c1]) (by decide)
  have h287:=h287 (nD c1);have hdup:=KP (l:=l) (k:=x) c1;have herr:(!dA p||eW l x p)=eW l x p:=by rw[c1];rfl
  generalize hnm:(decide (4<=p.kind)&&decide (p.kind<=6))=nm at h286 hdup;refine W.find (l.take x) (λq=>nm&&decide (q.name=p.name)) (λj=>⟨[(1,.ptr 1 0),(3,.pv (.int .i64 x)),(4,.ptr 4 0),(5,.pv (.int .i64 j))],⟨[(1,[.pv (.ae v (l.map aB.c))]),(4,[.pv (.int .i64 p.kind),.pv (.str p.name),.pv (.int .i64 p.low),.pv (.int .i64 p.high),.pv (.int .i64 p.max),.pv (.ae 0 (p.syms.map Sym.c)),.pv (.ae 0 (p.aO.map Mem.c)),.pv (.int .i64 p.key),.pv (.int .i64 p.elem),.pv (.bool p.jO)])],[],[]⟩⟩) rfl (λj q hj hjl hfd2=>?_) (λhn=>?_)
  .have hjl':j<x/\j<l.length:=by rw[aaA]at hjl;omega
   have hj':l[j]?=some q:=by
    rw[aax,if_pos hjl'.1]at hj;exact hj
   simp(disch:=omega)only[go_sem];refine Br.aF (λc=>?_) (λc=>(c (by omega)).elim);simp(disch:=omega)only[go_sem,h286];refine Br.of (λc2=>?_) (λc2=>?_)
   .simp(disch:=omega)only[go_sem,c2,hj',aB.c];refine Br.aF (λc3=>?_) (λc3=>?_)<;>simp(disch:=omega)only[go_sem,c3]
    .refine done 1 ?_ (by decide);rw[eA,herr,hdup,(hfd2 (by simp[c2,c3])).any];rfl
    .exact aX.of (by simp[c3]) rfl
   .simp(disch:=omega)only[go_sem,c2];exact aX.of (by simp[c2]) rfl
  .have hlx:(l.take x).length=x:=by rw[aaA];omega
   rw[hlx];have hd:(!dA p||eW l x p)=false:=by rw[herr,hdup,hn.any]
   simp(disch:=omega)only[go_sem,h287];refine W.find (bw p) (cM l.length) (λj=>⟨[(1,.ptr 1 0),(3,.pv (.int .i64 x)),(4,.ptr 4 0),(6,.pv (.ae 0 (ints (bw p)))),(7,.pv (.int .i64 j))],⟨[(1,[.pv (.ae v (l.map aB.c))]),(4,[.pv (.int .i64 p.kind),.pv (.str p.name),.pv (.int .i64 p.low),.pv (.int .i64 p.high),.pv (.int .i64 p.max),.pv (.ae 0 (p.syms.map Sym.c)),.pv (.ae 0 (p.aO.map Mem.c)),.pv (.int .i64 p.key),.pv (.int .i64 p.elem),.pv (.bool p.jO)])],[],[]⟩⟩) rfl (λj u hu hj hfd2=>?_) (λhn=>?_)
   .have d4:cM l.length u=true->eA l x p=4:=λg=>by
     rw[eA,hd,(hfd2 g).any];rfl
    simp(disch:=omega)only[go_sem];refine Br.aF (λc=>?_) (λc=>(c (by omega)).elim);simp(disch:=omega)only[go_sem,hu];refine Br.aF (λc4=>?_) (λc4=>?_)<;>simp(disch:=omega)only[go_sem,c4]
    .exact done 4 (d4 (by simp[cM,c4])) (by decide)
    simp(disch:=omega)only[go_sem,hu];refine Br.aF (λc5=>?_) (λc5=>?_)<;>simp(disch:=omega)only[go_sem,c5]
    .exact done 4 (d4 (by simp[cM,c5])) (by decide)
    .exact aX.of (by simp[cM,c4,c5]) rfl
   .have he2:eA l x p=if dU l p=true then 1 else 0:=by
     rw[eA,hd,hn.any];rfl
    simp(disch:=omega)only[go_sem];refine Br.aF (λc4=>?_) (λc4=>?_)
    .have hku:=gH c4;have hout:=aaW.1 hn.any _ hku;have hk0:0<=p.key/\p.key<l.length:=by
      simp[cM]at hout;omega
     have hkk:=aal (l:=l) (i:=p.key.toNat) (by omega);have hka:gG l p.key=(l[p.key.toNat]'(by omega)).kind:=by rw[gG,hkk];rfl
     generalize l[p.key.toNat]'(by omega)=q at hkk hka;have d8:decide (p.kind=8)=true:=by simp[c4]
     have hb:dU l p=!(decide (1<=q.kind)&&decide (q.kind<=4)):=by rw[dU,d8,hka];rfl
     have hidx:kx 10 v (l.map aB.c) (some p.key)=some (V.pv (.ro v q.c)):=by
      rw[fH _ _ _ hk0.1,aap,hkk];rfl
     have h288:=r288 q.kind;generalize (decide (1<=q.kind)&&decide (q.kind<=4))=kk at hb h288;unfold aB.c at hidx;unfold aB.c;simp(disch:=omega)only[go_sem,d8,hidx,h288];refine Br.of (λc6=>?_) (λc6=>?_)<;>simp(disch:=omega)only[go_sem,c6]
     .refine aX.of ?_ rfl;rw[he2,hb,c6];rfl
     .refine done 1 ?_ (by decide);rw[he2,hb,c6];rfl
    .have d8:decide (p.kind=8)=false:=by simp[c4]
     have hb:dU l p=false:=by rw[dU,d8];rfl
     simp(disch:=omega)only[go_sem,d8];refine aX.of ?_ rfl;rw[he2,hb];rfl
 .rw[hn.find]at hG;rw[aaJ];simp(disch:=omega)only[go_sem];rw[<- hG];rfl
theorem C9 {α:Type}{r:α->α->Prop}(irr:∀x,¬r x x)(tr:∀x y z,r x y->r y z->r x z):∀{l m:List α},l.Pairwise r->m.Pairwise r->(∀x,x∈l↔x∈m)->l=m
 |[],[],_,_,_=>rfl
 |[],y::m,_,_,h=>absurd ((h y).2 (by simp)) (by simp)
 |x::l,[],_,_,h=>absurd ((h x).1 (by simp)) (by simp)
 |x::l,y::m,hl,hm,h=>by
  rw[aaI]at hl hm;have e:x=y:=by
   rcases List.mem_cons.1 ((h x).1 (by simp))with e|hx
   .exact e
   .rcases List.mem_cons.1 ((h y).2 (by simp))with e|hy
    .exact e.symm
    .exact(irr x (tr x y x (hl.1 y hy) (hm.1 x hx))).elim
  subst e;congr 1;refine C9 irr tr hl.2 hm.2 λz=>⟨λhz=>?_,λhz=>?_⟩
  .rcases aaE.1 ((h z).1 (aaz _ hz))with rfl|hz'
   .exact(irr z (hl.1 z hz)).elim
   .exact hz'
  .rcases aaE.1 ((h z).2 (aaz _ hz))with rfl|hz'
   .exact(irr z (hm.1 z hz)).elim
   .exact hz'
theorem KQ {l m:List Int}(hl:l.Pairwise (·<·))(hm:m.Pairwise (·<·))(h:∀x,x∈l↔x∈m):l=m:=
 C9 (r:=(·<·)) (λx=>Int.lt_irrefl x) (λ_ _ _=>Int.lt_trans) hl hm h
theorem td {l:List Int}{n:Nat}(hn:l.Nodup)(h:∀x∈l,0<=x/\x<n):l.length<=n:=by
 have:=List.Nodup.length_le_of_subset (l₂:=(List.range n).map Int.ofNat) hn (λx hx=>by
  have:=h x hx;rw[aaq];exact⟨x.toNat,List.mem_range.2 (by omega),by simp;omega⟩)
 simpa using this
section
variable {α:Type} [DecidableEq α]
def eL (o:List α)(x:α):List α:=if x∈o then o else o++[x]
theorem nF {o:List α}{x y:α}:y∈eL o x↔y∈o\/y=x:=by
 unfold eL;split
 .rename_i h;exact⟨.inl,λh'=>h'.elim id (λe=>e ▸ h)⟩
 .simp
theorem me {o:List α}{x:α}(h:o.Nodup):(eL o x).Nodup:=by
 unfold eL;split
 .exact h
 .rename_i hx;rw[abL];exact⟨h,by simp,λa ha b hb=>by
   rw[aa7]at hb;subst hb;exact λe=>hx (e ▸ ha)⟩
theorem qL (o:List α)(x:α):o<+:eL o x:=by
 unfold eL;split
 .exact List.prefix_refl o
 .exact List.prefix_append o [x]
def vA (o:List α)(l:List α):List α:=l.foldl eL o
theorem jK (o:List α)(x:α)(l:List α):vA o (x::l)=vA (eL o x) l:=rfl
theorem lz:∀{l o:List α}{y:α},y∈vA o l↔y∈o\/y∈l
 |[],o,y=>by simp[vA]
 |x::l,o,y=>by
  rw[jK,lz,nF];simp[or_assoc]
theorem mf:∀{l o:List α},o.Nodup->(vA o l).Nodup
 |[],_,h=>h
 |x::l,o,h=>by
  rw[jK];exact mf (me h)
theorem vB:∀(o l:List α),o<+:vA o l
 |o,[]=>List.prefix_refl o
 |o,x::l=>by
  rw[jK];exact(qL o x).trans (vB _ l)
def qM (nx:α->List α):Nat->Nat->List α->List α
 |0,_,o=>o
 |n+1,i,o=>match o[i]? with
  |none=>o
  |some v=>qM nx n (i+1) (vA o (nx v))
theorem vC {nx:α->List α}{n i:Nat}{o:List α}{v:α}(h:o[i]?=some v):qM nx (n+1) i o=qM nx n (i+1) (vA o (nx v)):=by
 simp only[qM,h]
theorem mg {nx:α->List α}:∀{n i:Nat}{o:List α},o.length<=i->qM nx n i o=o
 |0,_,_,_=>rfl
 |n+1,i,o,h=>by simp only[qM,List.getElem?_eq_none h]
theorem zi {nx:α->List α}:∀(n i:Nat)(o:List α),o<+:qM nx n i o
 |0,_,o=>List.prefix_refl o
 |n+1,i,o=>by
  unfold qM;split
  .exact List.prefix_refl o
  .exact(vB o _).trans (zi n _ _)
theorem sh {nx:α->List α}:∀(n i:Nat){o:List α},o.Nodup->(qM nx n i o).Nodup
 |0,_,_,h=>h
 |n+1,i,o,h=>by
  unfold qM;split
  .exact h
  .exact sh n _ (mf h)
inductive KR (nx:α->List α)(s:α):α->Prop
 |refl:KR nx s s
 |step {v x:α}:KR nx s v->x∈nx v->KR nx s x
theorem ug {nx:α->List α}{P:α->Prop}(hP:∀v,P v->∀x∈nx v,P x):∀(n i:Nat){o:List α},(∀v∈o,P v)->∀v∈qM nx n i o,P v
 |0,_,_,h=>h
 |n+1,i,o,h=>by
  unfold qM;split
  .exact h
  .rename_i v hv;refine ug hP n _ λx hx=>?_;rcases lz.1 hx with hx|hx
   .exact h x hx
   .exact hP v (h v (aaj hv)) x hx
theorem Bb {nx:α->List α}{N:Nat}{P:α->Prop}(hP:∀v,P v->∀x∈nx v,P x)(hN:∀o:List α,o.Nodup->(∀v∈o,P v)->o.length<=N):∀(n i:Nat){o:List α},N<=n+i->o.Nodup->(∀v∈o,P v)->
  (∀j v,j<i->o[j]?=some v->∀x∈nx v,x∈o)->∀v∈qM nx n i o,∀x∈nx v,x∈qM nx n i o
 |0,i,o,hn,hd,ho,hc=>by
  intro v hv x hx;obtain⟨j,hj,rfl⟩:=abo hv;have:=hN o hd ho;have hlt:j<o.length:=hj;exact hc j o[j] (by omega) (by simp) x hx
 |n+1,i,o,hn,hd,ho,hc=>by
  unfold qM;split
  .rename_i hnone;intro v hv x hx;obtain⟨j,hj,rfl⟩:=abo hv;have:=List.getElem?_eq_none_iff.1 hnone;exact hc j o[j] (by omega) (by simp) x hx
  .rename_i v hv;refine Bb hP hN n (i+1) (by omega) (mf hd) (λx hx=>?_) (λj w hj hw x hx=>?_)
   .rcases lz.1 hx with hx|hx
    .exact ho x hx
    .exact hP v (ho v (aaj hv)) x hx
   .rw[lz];have hi:i<o.length:=(aak.1 hv).1;obtain⟨t,ht⟩:=vB o (nx v);rw[<- ht,aao (by omega)]at hw;rcases aar j i with h|h
    .exact .inl (hc j w h hw x hx)
    .obtain rfl:j=i:=by omega
     rw[hv]at hw;cases hw;exact .inr hx
theorem qN {nx:α->List α}{N:Nat}{P:α->Prop}{s:α}(hP:∀v,P v->∀x∈nx v,P x)(hN:∀o:List α,o.Nodup->(∀v∈o,P v)->o.length<=N)(hs:P s){v:α}:v∈qM nx N 0 [s]↔KR nx s v:=by
 constructor
 .exact ug (P:=KR nx s) (λv hv x hx=>.step hv hx) N 0 (by simp;exact .refl) v
 .have hc:=Bb hP hN N 0 (o:=[s]) (by omega) (by simp) (by simpa using hs) (λj v hj=>absurd hj (Nat.not_lt_zero _));have hp:s∈qM nx N 0 [s]:=(zi N 0 [s]).subset (by simp);intro h
  induction h with
  |refl=>exact hp
  |step _ hx ih=>exact hc _ ih _ hx
section
variable {β:Type} [DecidableEq β]
theorem H3 {g:α->β}{o:List α}{x:α}(hg:∀y∈o,g y=g x->y=x):eL (o.map g) (g x)=(eL o x).map g:=by
 unfold eL;by_cases h:x∈o
 .rw[if_pos h,if_pos (abf h)]
 .rw[if_neg h,if_neg (λhm=>by
   obtain⟨y,hy,e⟩:=aaq.1 hm;exact h (hg y hy e ▸ hy)),aaR]
  rfl
theorem Bc {g:α->β}{P:α->Prop}(hg:∀x y,P x->P y->g x=g y->x=y):∀(l:List α){o:List α},(∀v∈o,P v)->(∀v∈l,P v)->vA (o.map g) (l.map g)=(vA o l).map g
 |[],_,_,_=>rfl
 |x::l,o,ho,hl=>by
  rw[List.map_cons,jK,jK,H3 (λy hy e=>hg y x (ho y hy) (hl x (by simp)) e)];refine Bc hg l (λv hv=>?_) (λv hv=>hl v (by simp[hv]));rcases nF.1 hv with h|h
  .exact ho v h
  .exact h ▸ hl x (by simp)
theorem EA {g:α->β}{P:α->Prop}{nx:α->List α}{nx':β->List β}(hg:∀x y,P x->P y->g x=g y->x=y)(hP:∀v,P v->∀x∈nx v,P x)(hx:∀v,P v->nx' (g v)=(nx v).map g):
  ∀(n i:Nat){o:List α},(∀v∈o,P v)->qM nx' n i (o.map g)=(qM nx n i o).map g
 |0,_,_,_=>rfl
 |n+1,i,o,ho=>by
  simp only[qM,List.getElem?_map];cases h:o[i]? with
  |none=>rfl
  |some v=>
   have hv:=ho v (aaj h);simp only[Option.map_some];rw[hx v hv,Bc hg (nx v) ho (hP v hv)];refine EA hg hP hx n (i+1) λx hx'=>?_;rcases lz.1 hx' with h'|h'
   .exact ho x h'
   .exact hP v hv x h'
end
end
theorem Bd {α:Type}[DecidableEq α]{nx:α->List α}{N:Nat}{P:α->Prop}(hP:∀v,P v->∀x∈nx v,P x)(hN:∀o:List α,o.Nodup->(∀v∈o,P v)->o.length<=N):∀(n m i:Nat){o:List α},N<=n+i->N<=m+i->o.Nodup->(∀v∈o,P v)->qM nx n i o=qM nx m i o
 |0,m,i,o,h1,_,hd,ho=>by
  have:=hN o hd ho;rw[mg (by omega),mg (by omega)]
 |n+1,0,i,o,_,h2,hd,ho=>by
  have:=hN o hd ho;rw[mg (by omega),mg (by omega)]
 |n+1,m+1,i,o,h1,h2,hd,ho=>by
  simp only[qM];cases h:o[i]? with
  |none=>rfl
  |some v=>
   have hv:=ho v (aaj h);refine Bd hP hN n m (i+1) (by omega) (by omega) (mf hd) λx hx=>?_;rcases lz.1 hx with h'|h'
   .exact ho x h'
   .exact hP v hv x h'
end Go.Pv
namespace Go.Pv
theorem YJ (t:Nat)(l:List Int)(x:Int)(hl:l.length<=2^63 - 1):res A ay 118 [.ae t (ints l),.int .i64 x]=some [.int .i64 (bg (λy=>decide (y=x)) l)]:=by
 refine ai a118 rfl rfl ?_;simp only[F118,N5];simp(disch:=omega)only[go_sem];refine W.find l (λy=>decide (y=x)) (λk=>⟨[(0,.pv (.ae t (ints l))),(1,.pv (.int .i64 x)),(7,.pv (.int .i64 l.length)),(8,.pv (.int .i64 k))],⟨[],[],[]⟩⟩) rfl (λk y hy hk hfd=>?_) (λhn=>?_)
 .simp(disch:=omega)only[go_sem];refine Br.aF (λc=>?_) (λc=>(c (by omega)).elim);simp(disch:=omega)only[go_sem,hy];refine Br.aF (λg=>?_) (λg=>?_)<;>simp(disch:=omega)only[go_sem]
  .rw[(hfd (by simp[g])).bg]
  .exact aX.of (by simpa using λe=>g e.symm) rfl
 .simp(disch:=omega)only[go_sem];rw[hn.bg]
theorem Da {l:List Int}{x:Int}:0<=bg (λy=>decide (y=x)) l↔x∈l:=by
 unfold bg;cases h:l.findIdx? (λy=>decide (y=x))with
 |none=>
  rw[aa3]at h;constructor
  .intro hh;exact absurd hh (by decide)
  .intro hx;have:=h x hx;simp at this
 |some k=>
  rw[aaC]at h;obtain⟨hk,hp,_⟩:=h;constructor
  .intro _;have e:l[k]=x:=by simpa using hp
   rw[<- e];exact abj hk
  .intro _;exact Int.natCast_nonneg k
theorem YK (t:Nat)(l:List Int)(x:Int)(hl:l.length<=2^63 - 1):res A ay 110 [.ae t (ints l),.int .i64 x]=some [.bool (decide (x∈l))]:=by
 refine ai a110 rfl rfl ?_;simp only[F110,N4];have h118:=λt=>YJ t l x hl;simp(disch:=omega)only[go_sem,h118];simp only[Da]
noncomputable def iy (l:List aB)(i:Int):Int:=if bG l≠0 then bG l else if cM l.length i=true then 4 else 0
theorem r291 (v:Nat)(l:List aB)(i:Int)(hl:l.length<=2147483648)(ho:∀t∈l,t.ok)(hs:∀t∈l,t.short):res A ay 291 [.agg [.ae v (l.map aB.c)],.int .i64 i]=some [.int .i64 (iy l i)]:=by
 refine ai a291 rfl rfl ?_;simp only[F291,Oi];have h267:=λv=>r267 v l hl ho hs;unfold iy cM;generalize bG l=e at h267;simp(disch:=omega)only[go_sem,h267];refine Br.aF (λc=>?_) (λc=>?_)<;>simp(disch:=omega)only[go_sem,c]
 .refine Br.aF (λc2=>?_) (λc2=>?_)<;>simp(disch:=omega)only[go_sem,c2]
  .simp[c]
  .refine Br.aF (λc3=>?_) (λc3=>?_)<;>simp(disch:=omega)only[go_sem,c3]
   .simp[c]
   .simp[c,c2]
 .simp[c]
def VF:aB:=⟨0,⟨#[]⟩,0,0,0,[],[],0,0,false⟩
def bf (l:List aB)(i:Int):aB:=(l[i.toNat]?).getD VF
structure KS (l:List aB):Prop where
 len:l.length<=32
 own:∀t∈l,dA t=true
 DH:∀t∈l,∀u∈bw t,0<=u/\u<l.length
theorem bB {l:List aB}(h:bG l=0):KS l:=by
 unfold bG at h;split at h
 .cases h
 .rename_i hl;have hz:∀k,k<l.length->dP l k=0:=by
   cases hf:(List.range l.length).find? (λk=>decide (dP l k≠0))with
   |none=>
    intro k hk;have:=abv.1 hf k (aaV.2 hk);simpa using this
   |some k=>
    rw[hf]at h;have:=abS hf;simp only[vz]at h;simp[h]at this
  have hone:∀t∈l,dA t=true/\(bw t).any (cM l.length)=false:=by
   intro t ht;obtain⟨k,hk⟩:=aan.1 ht;have:=hz k (aak.1 hk).1;simp only[dP,hk,eA]at this;split at this
   .cases this
   .rename_i h1;split at this
    .cases this
    .rename_i h2;simp only[Bool.or_eq_true,Bool.not_eq_true',not_or,Bool.not_eq_false]at h1;exact⟨h1.1,by simpa using h2⟩
  refine⟨by omega,λt ht=>(hone t ht).1,λt ht u hu=>?_⟩;have:=aaW.1 (hone t ht).2 u hu;simp[cM]at this;omega
theorem pG {l:List aB}{i:Int}(h:iy l i=0):bG l=0/\0<=i/\i<l.length:=by
 unfold iy at h;split at h
 .rename_i h1;exact absurd h h1
 .rename_i h1;split at h
  .cases h
  .rename_i h2;simp only[cM,Bool.or_eq_true,decide_eq_true_eq,not_or]at h2;exact⟨by omega,by omega,by omega⟩
theorem cC {l:List aB}{i:Int}(h0:0<=i)(h:i<l.length):l[i.toNat]?=some (bf l i):=by
 have:=aal (l:=l) (i:=i.toNat) (by omega);rw[bf,this];rfl
theorem H4 {t:aB}(h:t.short):(bw t).length<=1048578:=by
 have:=h.aO;unfold bw iY fj;rw[aas,aas,aam];split<;>split<;>simp<;>omega
theorem KT {v:Nat}{l:List aB}{i:Int}(h0:0<=i)(h:i<l.length):kx 10 v (l.map aB.c) (some i)=some (V.pv (.ro v (bf l i).c)):=by
 rw[fH _ _ _ h0,aap,cC h0 h];rfl
def Db (id aw off len : Nat)(a : aL) : Option (V × Tn) :=
 if len = 0 then some (.dR [],{ra := some id}) else (match a.body with
    | .inl rows => if a.k = 1 /\ off + len <= rows.length /\ len <= aU then (match aA iw ((rows.drop off).take len) with
     | some l => some (.dR [],{ar := some (id,⟨aw,1,.inl (rows.take off ++ (cU qF l).map (λx => [.int .i64 x]) ++ rows.drop (off + len))⟩)})
     | none => none) else none
    | .inr _ => none)
@[go_sem] theorem S6 (h:aq):fE [.tl []] h=some (.dR [],{}):=rfl
@[go_sem] theorem QC (h:aq)(id aw off len:Nat):fE [.own id aw off len] h=(aC h id aw).bind (Db id aw off len):=by
 simp only[fE];cases aC h id aw<;>rfl
theorem vD (l:List Int):aA iw (ints l)=some l:=by
 induction l with
 |nil=>rfl
 |cons x l ih=>
  show aA iw ([.int .i64 x]::ints l)=_;simp only[aA,iw,ih]
@[go_sem] theorem Mq {id aw n:Nat}{l:List Int}(hn:n=l.length)(h0:n≠0)(hm:n<=2147483648):Db id aw 0 n ⟨aw,1,.inl (ints l)⟩=some (.dR [],{ar:=some (id,⟨aw,1,.inl (ints (cU qF l))⟩)}):=by
 subst hn;have e1:(ints l).length=l.length:=aN l;simp[Db,h0,e1,aU,hm,vD,List.take_of_length_le (Nat.le_of_eq e1),List.drop_eq_nil_of_le (Nat.le_of_eq e1)];rfl
@[go_sem] theorem Dc (h:aq):cu h true [.tl []]=some ([.ae 0 []],none):=rfl
@[go_sem] theorem QD (h:aq)(x:Int):fE [.tl [[.int .i64 x]]] h=some (.dR [],{}):=rfl
theorem xH {n b:Nat}{o:List Int}{x:Int}(h:b<=o.length):pC n b (ints (o++[x]))=.own n (o.length - b) 0 (o.length+1):=by
 rw[<- jJ,A3 (by rw[aN];exact h),aN]
theorem xI {b:Nat}{o:List Int}{x:Int}(h:b<=o.length):xD 1 b (ints (o++[x]))=[⟨o.length - b,1,.inl (ints (o++[x]))⟩]:=by
 rw[<- jJ,A4 (by rw[aN];exact h),aN]
theorem vE (l:List Int):(cU qF l).length=l.length:=(bW qF l).length_eq
def Mr (l:List aB)(u:Int):List Int:=bw (bf l u)
def Ci (l:List aB)(u:Int):Prop:=0<=u/\u<l.length
def mh (l:List aB)(i:Int):List Int:=qM (Mr l) l.length 0 [i]
noncomputable def dB (l:List aB)(i:Int):List Int×Int:=if iy l i≠0 then ([],iy l i) else (cU qF (mh l i),0)
theorem KS.next {l:List aB}(h:KS l):∀v,Ci l v->∀x∈Mr l v,Ci l x:=λ_v hv x hx=>
 h.DH _ (aaj (cC hv.1 hv.2)) x hx
theorem gj {l:List aB}(o:List Int)(hd:o.Nodup)(h:∀v∈o,Ci l v):o.length<=l.length:=td hd h
set_option maxHeartbeats 4000000 in
theorem r273 (v:Nat)(l:List aB)(i:Int)(hl:l.length<=2147483648)(ho:∀t∈l,t.ok)(hs:∀t∈l,t.short):res A ay 273 [.agg [.ae v (l.map aB.c)],.int .i64 i]=some [.ae 0 (ints (dB l i).1),.int .i64 (dB l i).2]:=by
 refine ai a273 rfl rfl ?_;simp only[F273,N8];have h291:=λv=>r291 v l i hl ho hs;unfold dB;simp(disch:=omega)only[go_sem,h291];refine Br.aF (λc=>?_) (λc=>?_)<;>simp(disch:=omega)only[go_sem,c]
 rotate_left
 .simp[c,ints]
 obtain⟨hv,hi0,hin⟩:=pG c;rw[if_neg (by simp[c])];have hsane:=bB hv;have h32:=hsane.len;refine W.loop (α:=Nat×List Int) (λx=>⟨[(2,.ptr 2 0),(7,pC 0 1 (ints x.2)),(8,.pv (.int .i64 x.1))],⟨[(2,[.pv (.ae v (l.map aB.c))])],xD 1 1 (ints x.2),[]⟩⟩)
  (λx=>x.2.Nodup/\(∀v∈x.2,Ci l v)/\1<=x.2.length/\x.1<=x.2.length/\qM (Mr l) (l.length - x.1) x.1 x.2=mh l i) (λx=>l.length - x.1) (0,[i]) rfl ⟨by simp,λw hw=>(List.mem_singleton.1 hw) ▸ ⟨hi0,hin⟩,by simp,by simp,rfl⟩ λx hx=>?_
 obtain⟨j,o⟩:=x;obtain⟨hd,hin',h1,h2,hb⟩:=hx;dsimp only at hd hin' h1 h2 hb;have hlen:=gj o hd hin';simp(disch:=omega)only[go_sem];refine Br.aF (λh=>?_) (λh=>?_)
 .have hw:=aal (l:=o) (i:=j) (by omega);generalize o[j]'(by omega)=w at hw;obtain⟨hw0,hw1⟩:=hin' w (aaj hw);have hget:=cC hw0 hw1;have hidx:=KT (v:=v) hw0 hw1;have h284:=r284 (bf l w) (hs _ (aaj hget));have hul:=H4 (hs _ (aaj hget));have hnx:Mr l w=bw (bf l w):=rfl;have huses:=hsane.DH _ (aaj hget);generalize bf l w=p at *;unfold aB.c at h284 hidx;unfold aB.c at *;have inner:∀(k:Nat)(o:List Int),(o.Nodup/\(∀v∈o,Ci l v)/\1<=o.length/\j<o.length)->∀u∈bw p,(eL o u).Nodup/\(∀v∈eL o u,Ci l v)/\1<=(eL o u).length/\j<(eL o u).length:=by
   rintro k o ⟨g1,g2,g3,g4⟩ u hu
   obtain⟨r,hr⟩:=qL o u;refine⟨me g1,λx hx=>(nF.1 hx).elim (g2 x) (λq=>q ▸ huses u hu),by rw[<- hr,aas];omega,by rw[<- hr,aas];omega⟩
  have hgl:=nB (b:=1) (rows:=ints o);have hVA:∃V0 A0,pC 0 1 (ints o)=V0/\xD 1 1 (ints o)=A0/\((V0=.tl (ints o)/\A0=[])\/∃m,(ints o).length=1+m+1/\V0=.own 0 m 0 (1+m+1)/\A0=[⟨m,1,.inl (ints o)⟩]):=by
   rcases hgl with hc|⟨m,hc⟩
   .exact⟨_,_,jz hc,jA hc,.inl ⟨rfl,rfl⟩⟩
   .exact⟨_,_,iM hc,iN hc,.inr ⟨m,hc,rfl,rfl⟩⟩
  obtain⟨V0,A0,hV0,hA0,hcase⟩:=hVA;rw[hV0,hA0];rcases hcase with⟨e1,e2⟩|⟨m,hc,e1,e2⟩
  all_goals rw[e1]at hV0 |-
  all_goals rw[e2]at hA0 |-
  all_goals try rw[aN]at hc
  all_goals simp(disch:=omega)only[go_sem,hw,hidx,h284]
  all_goals
   refine W.fold (bw p) eL o (λk o=>⟨[(2,.ptr 2 0),(7,pC 0 1 (ints o)),(8,.pv (.int .i64 j)),(33,.pv (.ae 0 (ints (bw p)))),(34,.pv (.int .i64 (bw p).length)),(35,.pv (.int .i64 k))],⟨[(2,[.pv (.ae v (l.map aB.c))])],xD 1 1 (ints o),[]⟩⟩)
    (λ_ o=>o.Nodup/\(∀v∈o,Ci l v)/\1<=o.length/\j<o.length) ?_ ⟨hd,hin',h1,by omega⟩ (λk u o hu hk _ hI=>?_) (λo hacc hI=>?_)
   .show _=St.mk _ _;rw[hV0,hA0];rfl
   .have hI2:=inner k o hI u (aaj hu);obtain⟨g1,g2,g3,g4⟩:=hI;have hlen:=gj o g1 g2;have h110:=λt=>YK t o u (by omega);simp(disch:=omega)only[go_sem];refine Br.aF (λc=>?_) (λc=>(c (by omega)).elim);simp(disch:=omega)only[go_sem,hu,h110];refine Br.aF (λc2=>?_) (λc2=>?_)<;>simp(disch:=omega)only[go_sem,c2]
    .refine cV.of ?_ hI2;show _=St.mk _ _;rw[eL,if_pos c2];rfl
    .rcases nB (b:=1) (rows:=ints o)with hc|⟨m,hc⟩
     .rw[jz hc,jA hc];rw[aN]at hc;simp(disch:=omega)only[go_sem];refine cV.of ?_ hI2;show _=St.mk _ _;rw[eL,if_neg c2,xH g3,xI g3,show o.length - 1=0 by omega];rfl
     .rw[iM hc,iN hc];rw[aN]at hc;simp(disch:=omega)only[go_sem];refine cV.of ?_ hI2;show _=St.mk _ _;rw[eL,if_neg c2,xH g3,xI g3,show o.length - 1=m+1 by omega,hc];rfl
   .obtain⟨g1,g2,g3,g4⟩:=hI;simp(disch:=omega)only[go_sem];refine⟨(j+1,o),⟨g1,g2,g3,g4,?_⟩,by dsimp only;omega,rfl⟩;dsimp only;rw[<- hb,hacc];obtain⟨q,hq⟩:∃q,l.length - j=q+1:=⟨l.length - j - 1,by omega⟩;rw[hq,vC hw,hnx];congr 1;omega
 .rw[mg (by omega)]at hb;rw[<- hb];rcases nB (b:=1) (rows:=ints o)with hc|⟨m,hc⟩
  .have hc1:o.length=1:=by rw[aN]at hc;omega
   rw[jz hc,jA hc];obtain⟨y,rfl⟩:=List.length_eq_one_iff.1 hc1;simp(disch:=omega)only[go_sem,ints,List.map_cons,List.map_nil];rfl
  .rw[iM hc,iN hc];rw[aN]at hc;simp(disch:=omega)only[go_sem];rw[aaB (by rw[vE];omega)]
theorem xJ {l:List aB}{i:Int}(h:iy l i=0):(mh l i).Nodup/\∀v∈mh l i,Ci l v:=by
 obtain⟨hv,h0,h1⟩:=pG h;exact⟨sh _ _ (by simp),ug (bB hv).next _ _ (λv hv=>(List.mem_singleton.1 hv) ▸ ⟨h0,h1⟩)⟩
theorem Dd {l:List aB}{i:Int}:(dB l i).1.length<=l.length:=by
 unfold dB;split
 .exact aaS _
 .rename_i h;obtain⟨h1,h2⟩:=xJ (l:=l) (i:=i) (by simpa using h);show (cU qF (mh l i)).length<=_;rw[vE];exact gj _ h1 h2
variable {P:Program}
theorem YL {n:Nat}{t:TypeId}{cs:List PV}(hu:P.underlying t=some .string)(h:typed P n t cs):∃s,cs=[.str s]/\bo s:=by
 cases n with
 |zero=>exact h.elim
 |succ n=>
  simp only[typed,hu]at h;exact h
theorem lA {α:Type}{c:α->List PV}{ok:α->Prop}{n:Nat}{t el:TypeId}{cs:List PV}(hu:P.underlying t=some (.slice el))(he:∀m cs,m+1=n->typed P m el cs->∃x,cs=c x/\ok x)(h:typed P n t cs):∃l:List α,cs=[.ae 0 (l.map c)]/\cc l/\∀x∈l,ok x:=by
 cases n with
 |zero=>exact h.elim
 |succ n=>
  obtain⟨rows,rfl,hl,hr⟩:=AU hu h;obtain⟨l,rfl⟩:=AV (c:=λx:{x:α//ok x}=>c x.1) (rows:=rows) (λr hr'=>by
   obtain⟨x,rfl,hx⟩:=he n r rfl (hr r hr');exact⟨⟨x,hx⟩,rfl⟩)
  refine⟨l.map (·.1),by simp,by simpa [cc,maxLen]using hl,λx hx=>?_⟩;obtain⟨y,_,rfl⟩:=aaq.1 hx;exact y.2
structure ZT (P:Program)(sch typ sym mem val raw ls lsym lmem lval lraw tx ti t64 tb:TypeId):Prop where
 i:P.underlying ti=some (.int .i64)
 i64:P.underlying t64=some (.int .i64)
 b:P.underlying tb=some .bool
 x:P.underlying tx=some .string
 l:P.underlying ls=some (.slice typ)
 ly:P.underlying lsym=some (.slice sym)
 lm:P.underlying lmem=some (.slice mem)
 lv:P.underlying lval=some (.slice val)
 lr:P.underlying lraw=some (.slice raw)
 s:∃fs,P.underlying sch=some (.struct fs)/\fs.toList.map (·.type)=[ls]
 t:∃fs,P.underlying typ=some (.struct fs)/\fs.toList.map (·.type)=[ti,tx,t64,t64,ti,lsym,lmem,ti,ti,tb]
 y:∃fs,P.underlying sym=some (.struct fs)/\fs.toList.map (·.type)=[ti,tx]
 m:∃fs,P.underlying mem=some (.struct fs)/\fs.toList.map (·.type)=[ti,tx,ti,tb,tb,val]
 v:∃fs,P.underlying val=some (.struct fs)/\fs.toList.map (·.type)=[ti,tb,t64,tx,ti,lval,lval,lraw]
 r:∃fs,P.underlying raw=some (.struct fs)/\fs.toList.map (·.type)=[ti,tx]
section
variable {sch typ sym mem val raw ls lsym lmem lval lraw tx ti t64 tb:TypeId}
end
end Go.Pv
namespace Go.Pv
theorem Be {k:Nat}{rows:List (List PV)}(h:∀r∈rows,r.length=k):aY k (.inl rows)=true:=by
 simp only[aY,List.all_eq_true,beq_iff_eq];exact h
end Go.Pv
